/- crossgrainlaw1.step: kinds 5, 2 (Fetch, Peek of both). -/
import Derived.Test.YtcjcmnnhmajocaaMeV1
import Derived.Test.YtcjcmnnhmajocaaMeV3
namespace Go.Proofs.Ytcjcmnnhmajocaa.Me
open Go.RowKit Kt
set_option linter.unusedVariables false
set_option linter.unusedSimpArgs false
set_option maxRecDepth 100000 in
set_option maxHeartbeats 4000000 in
theorem step_5 (p : Nat) (P : RP) (M : MM) (a n v : Int) (ao : Option Addr) (L cap : Nat) (on : Bool) (w : World) (h : Pair p P M w) (a0 : 0 ≤ a) (a1 : a < 4294967296) :
    Calls Try.prog 40 #[.pointer (some ⟨p, 0, none⟩), .pointer (some ⟨P.q, 0, none⟩), .agg (stV 5 a n v ao L cap on)] w (StP p P w) := by
  unfold stV
  have HP := Lib.hid h
  have CM := fun w h' => fetch_any p M a n w h' h.ok a0 a1
  have CR := fun w h' => rfetch_any P M a n w h' h.ok a0 a1
  have HA := Lib.hid (fun cs : Array Value => (HP.out.upto ((Upto.refl (fun _ => False) w).alloc (.cells cs 71)) (fun _ _ => id)))
  obtain ⟨k, x, hkx⟩ : ∃ k x, stpV 4 (fetS M a n) = .agg #[.int .i64 k, .int .u32 x] := by
    cases fetS M a n with
    | none => exact ⟨_, _, rfl⟩
    | some y => exact ⟨_, _, rfl⟩
  rw [hkx] at CM CR
  have CM := Lib.hid CM
  have CR := Lib.hid CR
  have he := eql_stop k x k x
  rw [eqs_self] at he
  clear h hkx a0 a1
  generalize fetL M a n = us at CM CR
  go_enter Try.func40, Try.ntmps40
  go_wp2_with (first
    | (go_at_call 78; (with_reducible refine (CM.out _ (HA.out _).hc).mono ?_); rintro e w1 ⟨v1, rfl, hv1, hb1⟩; have e1 := box2 hb1 1; have e2 := box2 hb1 2; simp only [List.getElem?_toArray, List.getElem?_cons_zero, List.getElem?_cons_succ] at e1 e2; have sz1 : w.heap.size < w1.heap.size := Nat.lt_of_lt_of_le (by simp) hb1.size; have B1 := Lib.hid (aft_alloc hb1); obtain ⟨ao1, c1, rfl, s1, t1⟩ := (hv1.mono (base' := w.heap.size) (by simp)).form; have S1 := Lib.hid s1; have T1 := Lib.hid t1; clear hb1 hv1 s1 t1)
    | (go_at_call 79; (with_reducible refine (CR.out _ (HP.out.upto ((Upto.of_below B1.out).alloc _) (fun _ _ => id)).rm).mono ?_); rintro e w2 ⟨v2, rfl, hv2, hb2⟩; have f0 := box2 hb2 0; have f1 := box2 hb2 1; simp only [List.getElem?_toArray, List.getElem?_cons_zero, List.getElem?_cons_succ] at f0 f1; have sz2 : w1.heap.size < w2.heap.size := Nat.lt_of_lt_of_le (by simp) hb2.size; have B12 := Lib.hid (aft_alloc hb2); have B2 := Lib.hid (chain B1.out (aft_alloc hb2)); obtain ⟨ao2, c2, rfl, s2, t2⟩ := hv2.form; have S2 := Lib.hid s2; clear hb2 hv2 s2 t2)
    | (go_at_call 33; refine (Gu.same_bs us ao1 c1 ao2 c2 _ ((S1.out.keep B12.out).keep ((Below.refl _ _).alloc (Nat.le_refl _) _)) (S2.out.keep ((Below.refl _ _).alloc (Nat.le_refl _) _))).mono ?_; rintro e w3 ⟨rfl, hb3⟩; have B3 := Lib.hid (chain (B2.out.alloc B2.out.size _) hb3); have T3 := Lib.hid (((T1.out.upto (Upto.of_below (S := fun _ => False) B12.out) (fun _ _ => id)).upto ((Upto.refl (fun _ => False) _).alloc _) (fun _ _ => id)).upto (Upto.of_below (S := fun _ => False) hb3) (fun _ _ => id)); clear hb3))
  obtain ⟨N, hN⟩ : ∃ N, us.length = N := ⟨_, rfl⟩
  have hcap := S1.out.1
  have hcm := S1.out.2.1
  have hmx : (maxLen : Nat) = 9223372036854775807 := rfl
  rw [hN] at hcap T3 ⊢
  clear hN
  go_loopg [211] N (fun g i wr => ∃ k : Nat, g = N - k ∧ k ≤ N ∧ i = .int .i64 k ∧ Hid (TB w.heap.size ao1 N wr) ∧ Hid (Below w.heap.size w wr))
  case atStart => exact ⟨0, rfl, Nat.zero_le _, rfl, T3.out, B3.out⟩
  case round =>
    obtain ⟨k, hg, hk, rfl, HT, HB⟩ := hrel
    by_cases hlt : k < N
    · have hlt' : (k : Int) < (N : Int) := by omega
      have hge' : (0 : Int) ≤ (k : Int) := by omega
      obtain ⟨g1, rfl, hB1, lg1, ⟨y, cg1⟩, fg1⟩ := HT.out k hlt
      have zg1 := fg1 k
      clear fg1
      go_wp2
      go_roundg (N - (k + 1))
      case measure => omega
      case rel => exact ⟨k + 1, rfl, by omega, by simp, HT.out.set k _, HB.out.setCell hB1 _⟩
    · obtain rfl : k = N := by omega
      go_wp2
      go_ret
      exact StP.mk (HP.out.upto (Upto.of_below (S := fun _ => False) HB.out) (fun _ _ => id)) (Upto.of_below HB.out)
set_option maxRecDepth 100000 in
set_option maxHeartbeats 4000000 in
theorem step_2 (p : Nat) (P : RP) (M : MM) (a n v : Int) (ao : Option Addr) (L cap : Nat) (on : Bool) (w : World) (h : Pair p P M w) (a0 : 0 ≤ a) (a1 : a < 4294967296) :
    Calls Try.prog 40 #[.pointer (some ⟨p, 0, none⟩), .pointer (some ⟨P.q, 0, none⟩), .agg (stV 2 a n v ao L cap on)] w (StP p P w) := by
  unfold stV
  have HP := Lib.hid h
  obtain ⟨k, hk⟩ : ∃ k, wrap64 (wrap32 a) = k := ⟨_, rfl⟩
  have hkr : -9223372036854775808 ≤ k := by
    rw [← hk]; unfold wrap64; omega
  have CM := fun w h' => peek_any p M k n w h'
  have CR := fun w h' => rpeek_any P M k n w h' hkr
  have HA := Lib.hid (fun cs : Array Value => (HP.out.upto ((Upto.refl (fun _ => False) w).alloc (.cells cs 71)) (fun _ _ => id)))
  generalize inE k n = z at CM CR
  have hz : (z == z) = true := by simp
  clear h hkr
  generalize pekL M k n = us at CM CR
  have CM := Lib.hid CM
  have CR := Lib.hid CR
  go_enter Try.func40, Try.ntmps40
  go_wp2_with (first
    | (go_at_call 72; (with_reducible refine (CM.out _ (HA.out _).hc).mono ?_); rintro e w1 ⟨v1, rfl, hv1, hb1⟩; have e1 := box2 hb1 1; have e2 := box2 hb1 2; simp only [List.getElem?_toArray, List.getElem?_cons_zero, List.getElem?_cons_succ] at e1 e2; have sz1 : w.heap.size < w1.heap.size := Nat.lt_of_lt_of_le (by simp) hb1.size; have B1 := Lib.hid (aft_alloc hb1); obtain ⟨ao1, c1, rfl, s1, t1⟩ := (hv1.mono (base' := w.heap.size) (by simp)).form; have S1 := Lib.hid s1; have T1 := Lib.hid t1; clear hb1 hv1 s1 t1)
    | (go_at_call 73; (with_reducible refine (CR.out _ (HP.out.upto (Upto.of_below (S := fun _ => False) B1.out) (fun _ _ => id)).rm).mono ?_); rintro e w2 ⟨v2, rfl, hv2, hb2⟩; have B12 := Lib.hid hb2; have B2 := Lib.hid (chain B1.out hb2); obtain ⟨ao2, c2, rfl, s2, t2⟩ := hv2.form; have S2 := Lib.hid s2; clear hb2 hv2 s2 t2)
    | (go_at_call 33; refine (Gu.same_bs us ao1 c1 ao2 c2 _ (S1.out.keep B12.out) S2.out).mono ?_; rintro e w3 ⟨rfl, hb3⟩; have B3 := Lib.hid (chain B2.out hb3); have T3 := Lib.hid ((T1.out.upto (Upto.of_below (S := fun _ => False) B12.out) (fun _ _ => id)).upto (Upto.of_below (S := fun _ => False) hb3) (fun _ _ => id)); clear hb3))
  obtain ⟨N, hN⟩ : ∃ N, us.length = N := ⟨_, rfl⟩
  have hcap := S1.out.1
  have hcm := S1.out.2.1
  have hmx : (maxLen : Nat) = 9223372036854775807 := rfl
  rw [hN] at hcap T3 ⊢
  clear hN
  go_loopg [123] N (fun g i wr => ∃ k : Nat, g = N - k ∧ k ≤ N ∧ i = .int .i64 k ∧ Hid (TB w.heap.size ao1 N wr) ∧ Hid (Below w.heap.size w wr))
  case atStart => exact ⟨0, rfl, Nat.zero_le _, rfl, T3.out, B3.out⟩
  case round =>
    obtain ⟨k, hg, hk, rfl, HT, HB⟩ := hrel
    by_cases hlt : k < N
    · have hlt' : (k : Int) < (N : Int) := by omega
      have hge' : (0 : Int) ≤ (k : Int) := by omega
      obtain ⟨g1, rfl, hB1, lg1, ⟨y, cg1⟩, fg1⟩ := HT.out k hlt
      have zg1 := fg1 k
      clear fg1
      go_wp2
      go_roundg (N - (k + 1))
      case measure => omega
      case rel => exact ⟨k + 1, rfl, by omega, by simp, HT.out.set k _, HB.out.setCell hB1 _⟩
    · obtain rfl : k = N := by omega
      go_wp2
      go_ret
      exact StP.mk (HP.out.upto (Upto.of_below (S := fun _ => False) HB.out) (fun _ _ => id)) (Upto.of_below HB.out)
end Go.Proofs.Ytcjcmnnhmajocaa.Me
