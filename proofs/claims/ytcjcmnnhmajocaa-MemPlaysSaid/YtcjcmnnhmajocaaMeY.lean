/- crossgrainlaw1: step of any kind; whole. -/
import Derived.Test.YtcjcmnnhmajocaaMeV4
namespace Go.Proofs.Ytcjcmnnhmajocaa.Me
open Go.RowKit Kt
set_option linter.unusedVariables false
set_option linter.unusedSimpArgs false
theorem step_any (p : Nat) (P : RP) (M : MM) (k a n v : Int) (us : List Int) (ao : Option Addr) (cap : Nat) (on : Bool) (w : World) (h : Pair p P M w) (a0 : 0 ≤ a) (a1 : a < 4294967296) (v0 : 0 ≤ v) (v1 : v < 4294967296) (n0 : -9223372036854775808 ≤ n) (n1 : n < 9223372036854775808)
    (hB : Gu.Bs us ao cap w) (hreach : us.length ≤ 140737488351232) (hr : ∀ j, 0 ≤ us.getD j 0 ∧ us.getD j 0 < 256) (hd : ∀ g, ao = some g → 0 < us.length → ¬ PS p P g.block) :
    Calls Try.prog 40 #[.pointer (some ⟨p, 0, none⟩), .pointer (some ⟨P.q, 0, none⟩), .agg (stV k a n v ao us.length cap on)] w (StP p P w) := by
  rcases (show k = 0 ∨ k = 1 ∨ k = 2 ∨ k = 3 ∨ k = 4 ∨ k = 5 ∨ k = 6 ∨ k = 7 ∨ k = 8 ∨ k = 9 ∨ (k < 0 ∨ 9 < k) by omega) with rfl | rfl | rfl | rfl | rfl | rfl | rfl | rfl | rfl | rfl | hk
  · exact step_0 p P M a n v ao us.length cap on w h
  · exact step_1 p P M a n v us ao cap on w h n0 hB hreach hr hd
  · exact step_2 p P M a n v ao us.length cap on w h a0 a1
  · exact step_3 p P M a n v ao us.length cap on w h a0 a1 n1
  · exact step_4 p P M a n v ao us.length cap on w h a0 a1 v0 v1
  · exact step_5 p P M a n v ao us.length cap on w h a0 a1
  · exact step_6 p P M a n v ao us.length cap on w h
  · exact step_7 p P M a n v ao us.length cap on w h
  · exact step_8 p P M a n v ao us.length cap on w h
  · exact step_9 p P M a n v ao us.length cap on w h
  · exact step_o p P M k a n v ao us.length cap on w h hk
theorem RM.bs {P : RP} {M : MM} {W : World} (h : RM P M W) : Gu.Bs (rdB M 0 65536) (some ⟨P.b, 0, none⟩) 65536 W :=
  ⟨by rw [rdB_len]; omega, by unfold maxLen; omega, fun _ => ⟨P.b, 0, rfl, h.lb, fun j hj => by
    rw [rdB_len] at hj
    rw [rdB_get M 0 65536 j hj, Nat.zero_add]; exact h.hb j hj⟩⟩
set_option maxRecDepth 100000 in
set_option maxHeartbeats 4000000 in
theorem whole_any (p : Nat) (P : RP) (M : MM) (w : World) (h : Pair p P M w) :
    Calls Try.prog 41 #[.pointer (some ⟨p, 0, none⟩), .pointer (some ⟨P.q, 0, none⟩)] w fun e w' => e = .returned (.bool true) ∧ Below w.heap.size w w' := by
  have CM := fun w h' => peek_any p M 0 65536 w h'
  have e1 : pekL M 0 65536 = rdB M 0 65536 := by unfold pekL; rw [if_pos (by decide)]; rfl
  have e2 : inE 0 65536 = 0 := by unfold inE; rw [if_pos (by decide)]
  rw [e1, e2] at CM
  have CM := Lib.hid CM
  have HP := Lib.hid h
  have HBS := Lib.hid h.rm.bs
  have HN := Lib.hid (rdB_len M 0 65536)
  have q0 := h.rm.hq0
  have lq := h.rm.lq
  have CS := Lib.hid (fun us ao cap ao1 c1 W hs hs1 => Gu.same_bs us ao cap ao1 c1 W hs hs1)
  clear e1 e2 h
  generalize rdB M 0 65536 = us at CM HBS HN
  have CS := CS.out us
  rw [HN.out] at CS
  have CS := Lib.hid CS
  go_enter Try.func41, Try.ntmps41
  go_wp2_with (first
    | (go_at_call 72; (with_reducible refine (CM.out _ HP.out.hc).mono ?_); rintro e w1 ⟨v1, rfl, hv1, hb1⟩; obtain ⟨ao1, c1, rfl, s1, t1⟩ := hv1.form; rw [HN.out]; have S1 := Lib.hid s1; have B1 := Lib.hid hb1; have q1 := (hb1.cell (p := ⟨P.q, 0, none⟩) lq).trans q0; clear hv1 hb1 s1 t1)
    | (go_at_call 33; refine (CS.out _ _ _ _ _ S1.out (HBS.out.keep B1.out)).mono ?_; rintro e w2 ⟨rfl, hb2⟩; have B2 := Lib.hid (chain B1.out hb2); clear hb2))
  go_ret
  exact ⟨rfl, B2.out⟩
end Go.Proofs.Ytcjcmnnhmajocaa.Me
