/- crossgrainlaw1.step: kinds 3, 8, 9 (Load, Rights, Touched of both), and any other. -/
import Derived.Test.YtcjcmnnhmajocaaMeV0
namespace Go.Proofs.Ytcjcmnnhmajocaa.Me
open Go.RowKit Kt
set_option linter.unusedVariables false
set_option linter.unusedSimpArgs false
set_option maxRecDepth 100000 in
set_option maxHeartbeats 4000000 in
theorem step_9 (p : Nat) (P : RP) (M : MM) (a n v : Int) (ao : Option Addr) (L cap : Nat) (on : Bool) (w : World) (h : Pair p P M w) :
    Calls Try.prog 40 #[.pointer (some ⟨p, 0, none⟩), .pointer (some ⟨P.q, 0, none⟩), .agg (stV 9 a n v ao L cap on)] w (StP p P w) := by
  unfold stV
  have lp := h.lt p (.inl rfl)
  have HP := Lib.hid h
  have CM := Lib.hid (touched_c p M)
  have CR := Lib.hid (rtouched P M)
  have HA := Lib.hid (fun cs : Array Value => (HP.out.upto ((Upto.refl (fun _ => False) w).alloc (.cells cs 71)) (fun _ _ => id)))
  have U0 := Lib.hid (fun cs : Array Value => (Upto.refl (PS p P) w).alloc (.cells cs 71))
  clear h
  go_enter Try.func40, Try.ntmps40
  generalize anyT M.hi = b at CM CR
  go_wp2_with (first
    | (go_at_call 85; (with_reducible refine (CM.out _ (HA.out _).hc).mono ?_); rintro e w1 ⟨rfl, rfl⟩)
    | (go_at_call 86; (with_reducible refine (CR.out _ (HA.out _).rm).mono ?_); rintro e w1 ⟨rfl, rfl⟩))
  go_ret
  cases b <;> exact StP.mk (HA.out _) (U0.out _)
set_option maxRecDepth 100000 in
set_option maxHeartbeats 4000000 in
theorem step_8in (p : Nat) (P : RP) (M : MM) (a n v : Int) (ao : Option Addr) (L cap : Nat) (on : Bool) (w : World) (h : Pair p P M w) (n0 : 0 ≤ n) (n1 : n < 256) :
    Calls Try.prog 40 #[.pointer (some ⟨p, 0, none⟩), .pointer (some ⟨P.q, 0, none⟩), .agg (stV 8 a n v ao L cap on)] w (StP p P w) := by
  unfold stV
  have lp := h.lt p (.inl rfl)
  have lq := h.rm.lq
  have lr := h.rm.lr
  have HP := Lib.hid h
  have CM := fun w h' => rights_c p M n w h' h.ok
  have q1 := h.rm.hq1
  have c2 := h.rm.hr n.toNat (by omega)
  unfold rgt at CM
  rw [if_pos ⟨n0, n1⟩] at CM
  have CM := Lib.hid CM
  have HA := Lib.hid (fun cs : Array Value => (HP.out.upto (((Upto.refl (fun _ => False) w).alloc (.cells cs 71)).drew) (fun _ _ => id)))
  have U0 := Lib.hid (fun cs : Array Value => ((Upto.refl (PS p P) w).alloc (.cells cs 71)).drew)
  clear h
  generalize M.rt n.toNat = y at c2 CM
  go_enter Try.func40, Try.ntmps40
  go_wp2_with fail
  go_region
  go_wp2_with (go_at_call 84; (with_reducible refine (CM.out _ (HA.out _).hc).mono ?_); rintro e w1 ⟨rfl, rfl⟩)
  go_ret
  exact StP.mk (HA.out _) (U0.out _)
set_option maxRecDepth 100000 in
set_option maxHeartbeats 4000000 in
theorem step_8out (p : Nat) (P : RP) (M : MM) (a n v : Int) (ao : Option Addr) (L cap : Nat) (on : Bool) (w : World) (h : Pair p P M w) (hn : ¬ (0 ≤ n ∧ n < 256)) :
    Calls Try.prog 40 #[.pointer (some ⟨p, 0, none⟩), .pointer (some ⟨P.q, 0, none⟩), .agg (stV 8 a n v ao L cap on)] w (StP p P w) := by
  unfold stV
  have lp := h.lt p (.inl rfl)
  have HP := Lib.hid h
  have CM := fun w h' => rights_c p M n w h' h.ok
  unfold rgt at CM
  rw [if_neg hn] at CM
  have CM := Lib.hid CM
  have HA := Lib.hid (fun cs : Array Value => (HP.out.upto ((Upto.refl (fun _ => False) w).alloc (.cells cs 71)) (fun _ _ => id)))
  have U0 := Lib.hid (fun cs : Array Value => (Upto.refl (PS p P) w).alloc (.cells cs 71))
  clear h
  rcases (show ¬ 0 ≤ n ∨ (0 ≤ n ∧ ¬ n < 256) by omega) with h1 | ⟨h1, h2⟩
  all_goals clear hn
  all_goals go_enter Try.func40, Try.ntmps40
  all_goals go_wp2_with (go_at_call 84; (with_reducible refine (CM.out _ (HA.out _).hc).mono ?_); rintro e w1 ⟨rfl, rfl⟩)
  all_goals go_ret
  all_goals exact StP.mk (HA.out _) (U0.out _)
theorem box2 {w0 w1 : World} {cs : Array Value} {t : TypeId} (hb : Below (w0.alloc (.cells cs t)).heap.size (w0.alloc (.cells cs t)) w1) (i : Nat) : w1.cell? ⟨w0.heap.size, i, none⟩ = cs[i]? :=
  (hb.cell (p := ⟨w0.heap.size, i, none⟩) (by simp)).trans (box_at w0 cs t i)
set_option maxRecDepth 100000 in
set_option maxHeartbeats 4000000 in
theorem step_3 (p : Nat) (P : RP) (M : MM) (a n v : Int) (ao : Option Addr) (L cap : Nat) (on : Bool) (w : World) (h : Pair p P M w) (a0 : 0 ≤ a) (a1 : a < 4294967296) (n1 : n < 9223372036854775808) :
    Calls Try.prog 40 #[.pointer (some ⟨p, 0, none⟩), .pointer (some ⟨P.q, 0, none⟩), .agg (stV 3 a n v ao L cap on)] w (StP p P w) := by
  unfold stV
  have lp := h.lt p (.inl rfl)
  have HP := Lib.hid h
  have CM := fun w h' => load_any p M a n w h' h.ok a0 a1 n1
  have CR := fun w h' => rload_any P M a n w h' h.ok a0 a1 n1
  have HA := Lib.hid (fun cs : Array Value => (HP.out.upto ((Upto.refl (fun _ => False) w).alloc (.cells cs 71)) (fun _ _ => id)))
  have B0 := Lib.hid (fun cs : Array Value => (Below.refl w.heap.size w).alloc (Nat.le_refl _) (.cells cs 71))
  obtain ⟨k, x, hkx⟩ : ∃ k x, stpV 5 (srch M 1 a n.toNat) = .agg #[.int .i64 k, .int .u32 x] := by
    cases srch M 1 a n.toNat with
    | none => exact ⟨_, _, rfl⟩
    | some y => exact ⟨_, _, rfl⟩
  rw [hkx] at CM CR
  have CM := Lib.hid CM
  have CR := Lib.hid CR
  have he := eql_stop k x k x
  rw [eqs_self] at he
  clear h hkx a0 a1 n1
  generalize ldv M a n = y at CM CR
  have hy : (y == y) = true := by simp
  go_enter Try.func40, Try.ntmps40
  go_wp2_with (first
    | (go_at_call 74; (with_reducible refine (CM.out _ (HA.out _).hc).mono ?_); rintro e w1 ⟨rfl, hb1⟩; have e1 := box2 hb1 1; have e2 := box2 hb1 2; simp only [List.getElem?_toArray, List.getElem?_cons_zero, List.getElem?_cons_succ] at e1 e2; have sz1 : w.heap.size < w1.heap.size := Nat.lt_of_lt_of_le (by simp) hb1.size; have B1 := Lib.hid (aft_alloc hb1); clear hb1)
    | (go_at_call 75; (with_reducible refine (CR.out _ (HP.out.upto ((Upto.of_below B1.out).alloc _) (fun _ _ => id)).rm).mono ?_); rintro e w2 ⟨rfl, hb2⟩; have f0 := box2 hb2 0; have f1 := box2 hb2 1; simp only [List.getElem?_toArray, List.getElem?_cons_zero, List.getElem?_cons_succ] at f0 f1; have sz2 : w1.heap.size < w2.heap.size := Nat.lt_of_lt_of_le (by simp) hb2.size; have B2 := Lib.hid (chain (B1.out) (aft_alloc hb2)); clear hb2))
  go_ret
  exact StP.mk (HP.out.upto (((Upto.of_below B2.out).alloc _)) (fun _ _ => id)) ((Upto.of_below B2.out).alloc _)
theorem step_8 (p : Nat) (P : RP) (M : MM) (a n v : Int) (ao : Option Addr) (L cap : Nat) (on : Bool) (w : World) (h : Pair p P M w) :
    Calls Try.prog 40 #[.pointer (some ⟨p, 0, none⟩), .pointer (some ⟨P.q, 0, none⟩), .agg (stV 8 a n v ao L cap on)] w (StP p P w) := by
  by_cases hn : 0 ≤ n ∧ n < 256
  · exact step_8in p P M a n v ao L cap on w h hn.1 hn.2
  · exact step_8out p P M a n v ao L cap on w h hn
set_option maxRecDepth 100000 in
set_option maxHeartbeats 4000000 in
theorem step_o (p : Nat) (P : RP) (M : MM) (k a n v : Int) (ao : Option Addr) (L cap : Nat) (on : Bool) (w : World) (h : Pair p P M w) (hk : k < 0 ∨ 9 < k) :
    Calls Try.prog 40 #[.pointer (some ⟨p, 0, none⟩), .pointer (some ⟨P.q, 0, none⟩), .agg (stV k a n v ao L cap on)] w (StP p P w) := by
  unfold stV
  have HP := Lib.hid h
  have HA := Lib.hid (fun cs : Array Value => (HP.out.upto ((Upto.refl (fun _ => False) w).alloc (.cells cs 71)) (fun _ _ => id)))
  have U0 := Lib.hid (fun cs : Array Value => (Upto.refl (PS p P) w).alloc (.cells cs 71))
  have e0 : (k == 0) = false := by rw [beq_eq_false_iff_ne]; omega
  have e1 : (k == 1) = false := by rw [beq_eq_false_iff_ne]; omega
  have e2 : (k == 2) = false := by rw [beq_eq_false_iff_ne]; omega
  have e3 : (k == 3) = false := by rw [beq_eq_false_iff_ne]; omega
  have e4 : (k == 4) = false := by rw [beq_eq_false_iff_ne]; omega
  have e5 : (k == 5) = false := by rw [beq_eq_false_iff_ne]; omega
  have e6 : (k == 6) = false := by rw [beq_eq_false_iff_ne]; omega
  have e7 : (k == 7) = false := by rw [beq_eq_false_iff_ne]; omega
  have e8 : (k == 8) = false := by rw [beq_eq_false_iff_ne]; omega
  have e9 : (k == 9) = false := by rw [beq_eq_false_iff_ne]; omega
  clear h hk
  go_enter Try.func40, Try.ntmps40
  go_wp2
  go_ret
  exact StP.mk (HA.out _) (U0.out _)
end Go.Proofs.Ytcjcmnnhmajocaa.Me
