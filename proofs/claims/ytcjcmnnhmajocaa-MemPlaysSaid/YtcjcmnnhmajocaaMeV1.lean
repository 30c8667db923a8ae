/- crossgrainlaw1.step: kinds 7, 5 (Changed, Fetch of both). -/
import Derived.Test.YtcjcmnnhmajocaaMeV0
namespace Go.Proofs.Ytcjcmnnhmajocaa.Me
open Go.RowKit Kt
set_option linter.unusedVariables false
set_option linter.unusedSimpArgs false
/-- ints that lie in a slice -/
def Is (us : List Int) (ao : Option Addr) (W : World) : Prop := ∀ j, j < us.length → ∃ g, ao = some ⟨g, 0, none⟩ ∧ g < W.heap.size ∧ W.cell? ⟨g, j, none⟩ = some (.int .i64 (us.getD j 0))
theorem OwnI.form {B : Nat} {v : Value} {us : List Int} {W : World} (h : OwnI B v us W) : ∃ ao cap, v = .slice ao us.length cap ∧ us.length ≤ cap ∧ Is us ao W := by
  rcases h.2 with ⟨rfl, hn⟩ | ⟨g, c1, cur, rfl, hg, hrow, hle, hmx, hsz, htk⟩
  · have hn' : us.length = 0 := hn
    rw [hn']
    exact ⟨none, 0, rfl, by omega, fun j hj => absurd hj (by omega)⟩
  · have hc : ∀ j, j < us.length → W.cell? ⟨g, j, none⟩ = some (.int .i64 (us.getD j 0)) := by
      intro j hj
      rw [cell_of_row W g j _ _ _ hrow, ← Array.getElem?_toList]
      have h2 : (cur.toList.take (us.length * 1))[j]? = (us.map (Value.int .i64))[j]? := by rw [htk]
      rw [Nat.mul_one, List.getElem?_take, if_pos hj, List.getElem?_map] at h2
      rw [h2, List.getElem?_eq_getElem hj, List.getD_eq_getElem?_getD, List.getElem?_eq_getElem hj]
      rfl
    exact ⟨_, c1, rfl, hle, fun j hj => ⟨g, rfl, (Array.getElem?_eq_some_iff.1 hrow).1, hc j hj⟩⟩
theorem OwnI.upto {B : Nat} {v : Value} {us : List Int} {w w' : World} {S : Nat → Prop} (h : OwnI B v us w) (u : Upto S w w') (hs : ∀ k, B ≤ k → ¬ S k) : OwnI B v us w' := by
  obtain ⟨h1, h⟩ := h
  refine ⟨h1, ?_⟩
  rcases h with h | ⟨g, cap, cur, e1, e2, e3, e4⟩
  · exact .inl h
  · exact .inr ⟨g, cap, cur, e1, e2, (u.block g (Array.getElem?_eq_some_iff.1 e3).1 (hs g e2)).trans e3, e4⟩
theorem OwnI.mono {B B' : Nat} {v : Value} {us : List Int} {w : World} (h : OwnI B v us w) (hb : B' ≤ B) : OwnI B' v us w := by
  obtain ⟨h1, h⟩ := h
  refine ⟨h1, ?_⟩
  rcases h with h | ⟨g, cap, cur, e1, e2, e3, e4⟩
  · exact .inl h
  · exact .inr ⟨g, cap, cur, e1, Nat.le_trans hb e2, e3, e4⟩
set_option maxRecDepth 100000 in
set_option maxHeartbeats 4000000 in
theorem step_7 (p : Nat) (P : RP) (M : MM) (a n v : Int) (ao : Option Addr) (L cap : Nat) (on : Bool) (w : World) (h : Pair p P M w) :
    Calls Try.prog 40 #[.pointer (some ⟨p, 0, none⟩), .pointer (some ⟨P.q, 0, none⟩), .agg (stV 7 a n v ao L cap on)] w (StP p P w) := by
  unfold stV
  have lp := h.lt p (.inl rfl)
  have HP := Lib.hid h
  have HL := Lib.hid h.lt
  have CM := Lib.hid (changed_any p M)
  have CR := Lib.hid (rchanged_any P M)
  have HA := Lib.hid (fun cs : Array Value => (HP.out.upto ((Upto.refl (fun _ => False) w).alloc (.cells cs 71)) (fun _ _ => id)))
  have U0 := Lib.hid (fun cs : Array Value => (Upto.refl (PS p P) w).alloc (.cells cs 71))
  clear h
  have hlen := tlN_len M.hi 256
  generalize tlN M.hi 256 = us at CM CR hlen
  go_enter Try.func40, Try.ntmps40
  go_wp2_with (first
    | (go_at_call 82; (with_reducible refine (CM.out _ (HA.out _).hc).mono ?_); rintro e w1 ⟨v1, rfl, hv1, h1, o1⟩; have HV1 := Lib.hid hv1; have H1 := Lib.hid h1; have HR1 := Lib.hid ((HA.out _).hm h1 o1); have U1 := Lib.hid ((U0.out _).trans (o1.mono (fun k _ hk => .inl hk))); clear hv1 h1 o1)
    | (go_at_call 83; (with_reducible refine (CR.out _ HR1.out).mono ?_); rintro e w2 ⟨v2, rfl, hv2, h2, o2⟩; have HV2 := Lib.hid hv2; have H2 := Lib.hid h2; have U2 := Lib.hid (U1.out.trans (o2.mono (fun k _ hk => .inr hk))); have HP2 := Lib.hid (⟨H1.out.upto o2 HP.out.ne, h2, HP.out.ne, HP.out.ok.clr⟩ : Pair p P _ w2); have HV1' := Lib.hid (HV1.out.upto o2 (fun k hk hs => by have := HL.out k (.inr hs); simp at hk; omega)); clear hv2 h2 o2; obtain ⟨ao1, c1, rfl, hc1, hI1⟩ := HV1'.out.form; obtain ⟨ao2, c2, rfl, hc2, hI2⟩ := HV2.out.form; have HI1 := Lib.hid hI1; have HI2 := Lib.hid hI2; clear hI1 hI2))
  obtain ⟨N, hN⟩ : ∃ N, us.length = N := ⟨_, rfl⟩
  rw [hN] at hlen hc1 hc2 ⊢
  have HN := Lib.hid hN
  clear hN
  go_loopg [250] N (fun g i wr => ∃ k : Nat, g = N - k ∧ k ≤ N ∧ i = .int .i64 k ∧ Hid (Upto (fun _ => False) w2 wr))
  case atStart => exact ⟨0, rfl, Nat.zero_le _, rfl, Upto.refl _ _⟩
  case round =>
    obtain ⟨k, hg, hk, rfl, HW⟩ := hrel
    by_cases hlt : k < N
    · have hlt' : (k : Int) < (N : Int) := by omega
      have hge' : (0 : Int) ≤ (k : Int) := by omega
      obtain ⟨g1, rfl, lg1, cg1⟩ := HI1.out k (by rw [HN.out]; exact hlt)
      obtain ⟨g2, rfl, lg2, cg2⟩ := HI2.out k (by rw [HN.out]; exact hlt)
      have d1 := (HW.out.cell (q := ⟨g1, k, none⟩) lg1 id).trans cg1
      have d2 := (HW.out.cell (q := ⟨g2, k, none⟩) lg2 id).trans cg2
      generalize us.getD k 0 = x at d1 d2
      clear cg1 cg2
      have hx : (x != x) = false := by simp
      go_wp2
      go_region
      go_wp2
      go_roundg (N - (k + 1))
      case measure => omega
      case rel => exact ⟨k + 1, rfl, by omega, by simp, Upto.drew HW.out⟩
    · obtain rfl : k = N := by omega
      go_wp2
      go_ret
      exact StP.mk (HP2.out.upto HW.out (fun _ _ => id)) (U2.out.trans (HW.out.mono (fun _ _ => False.elim)))
end Go.Proofs.Ytcjcmnnhmajocaa.Me
