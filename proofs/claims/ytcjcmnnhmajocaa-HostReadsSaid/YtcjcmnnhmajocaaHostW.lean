import Derived.Test.YtcjcmnnhmajocaaHostU
namespace Go.Proofs.Ytcjcmnnhmajocaa.Ho
open Go.RowKit Kt
set_option linter.unusedVariables false
/-- a slice of new memory with these words -/
def Wd (us : List Int) (L : Nat) (v : Value) (w w' : World) : Prop :=
  ∃ (ao : Option Addr) (c : Nat), v = .slice ao L c ∧ L ≤ c ∧ L ≤ 9223372036854775807 ∧ (0 < L → ∃ g, ao = some ⟨g, 0, none⟩ ∧ w.heap.size ≤ g ∧ g < w'.heap.size ∧ ∀ j, j < L → w'.cell? ⟨g, 0 + j, none⟩ = some (.int .u32 (us.getD j 0)))
theorem same_wd {us : List Int} {L : Nat} {v1 v2 : Value} {w0 w1 w2 : World} (h1 : Wd us L v1 w0 w1) (hb : Below w1.heap.size w1 w2) (h2 : Wd us L v2 w1 w2) : Calls Try.prog 27 #[v1, v2] w2 fun e w' => e = .returned (.bool true) ∧ Below w2.heap.size w2 w' := by
  obtain ⟨a1, c1, rfl, hc1, hm, k1⟩ := h1
  obtain ⟨a2, c2, rfl, hc2, _, k2⟩ := h2
  by_cases hL : L = 0
  · subst hL
    exact same_nil a1 a2 c1 c2 w2
  · obtain ⟨g1, rfl, _, g1b, e1⟩ := k1 (by omega)
    obtain ⟨g2, rfl, _, g2b, e2⟩ := k2 (by omega)
    have hs := hb.size
    exact same_any g1 0 g2 0 L c1 c2 us w2 (fun j hj => (hb.cell (p := ⟨g1, 0 + j, none⟩) g1b).trans (e1 j hj)) e2 (by omega) g2b hc1 hc2 hm
theorem wd_range (q : Nat) (h1 : 1 ≤ q) (h2 : q ≤ 15) : 1 ≤ wd q ∧ wd q ≤ 3 := by
  obtain ⟨s, m, l, hf, l1, l2, hl⟩ := rform_shape q h1 h2
  omega
theorem Enc.wd {w w' : World} {q : Nat} {v k x : Int} {ok : Prop} {e : Ending} (h1 : 1 ≤ q) (h2 : q ≤ 15) (h : Enc w q v k x ok e w') (hok : ok) : ∃ u, e = .returned (.tuple #[u, .int .i64 0]) ∧ Wd [v, k, x] (wd q).toNat u w w' ∧ Below w.heap.size w w' := by
  obtain ⟨hb, h⟩ := h
  have hr := wd_range q h1 h2
  rcases h with ⟨_, g, cap, he, e1, e2, e3, e4, e5, e6⟩ | h
  · refine ⟨_, he, ⟨_, cap, rfl, e3, by omega, fun _ => ⟨g, rfl, e1, e2, fun j hj => ?_⟩⟩, hb⟩
    match j, hj with
    | 0, _ => simpa using e4
    | 1, hj => simpa using e5 (by omega)
    | 2, hj => simpa using e6 (by omega)
    | n + 3, hj => omega
  · exact absurd hok h.1
theorem wd_nil (us : List Int) (w w' : World) : Wd us 0 (.slice none 0 0) w w' := ⟨none, 0, rfl, Nat.le_refl _, by omega, fun h => absurd h (by omega)⟩
theorem Enc.no {w w' : World} {q : Nat} {v k x : Int} {ok : Prop} {e : Ending} (h : Enc w q v k x ok e w') (hok : ¬ ok) : ∃ u, e = .returned (.tuple #[u, .int .i64 3]) ∧ Wd [] 0 u w w' ∧ Below w.heap.size w w' := by
  obtain ⟨hb, h⟩ := h
  rcases h with ⟨h, _⟩ | h
  · exact absurd h hok
  · exact ⟨_, h.2, wd_nil _ _ _, hb⟩
set_option maxRecDepth 100000 in
set_option maxHeartbeats 4000000 in
theorem hw_walk (o d a b c n k x : Int) (us : List Int) (L : Nat) (z : Int)
    (H1 : ∀ w, Calls Try.prog 28 #[.agg #[.int .i64 o, .int .i64 d, .int .i64 a, .int .i64 b, .int .i64 c, .int .i64 n, .int .u32 k, .int .u32 x]] w fun e w' => ∃ u, e = .returned (.tuple #[u, .int .i64 z]) ∧ Wd us L u w w' ∧ Below w.heap.size w w')
    (H2 : ∀ w, Calls Try.prog 29 #[.agg #[.int .i64 o, .int .i64 d, .int .i64 a, .int .i64 b, .int .i64 c, .int .i64 n, .int .u32 k, .int .u32 x]] w fun e w' => ∃ u, e = .returned (.tuple #[u, .int .i64 z]) ∧ Wd us L u w w' ∧ Below w.heap.size w w') (w : World) :
    Calls Try.prog 7 #[.agg #[.int .i64 o, .int .i64 d, .int .i64 a, .int .i64 b, .int .i64 c, .int .i64 n, .int .u32 k, .int .u32 x]] w fun e w' => e = .returned (.bool true) ∧ Below w.heap.size w w' := by
  go_enter Try.func7, Try.ntmps7
  go_wp2_with (first
    | (go_at_call 28; refine (H1 _).mono ?_; rintro e w1 ⟨u1, rfl, hw1, hb1⟩; obtain ⟨kX, zX, s1, hBel⟩ := behind1 hb1)
    | (go_at_call 29; refine (H2 _).mono ?_; rintro e w2 ⟨u2, rfl, hw2, hb2⟩)
    | (go_at_call 27; refine (same_wd hw1 hb2 hw2).mono ?_; rintro e w3 ⟨rfl, hb3⟩))
  go_ret
  exact ⟨rfl, (hBel.trans (hb2.mono (Nat.le_of_lt s1))).trans (hb3.mono (Nat.le_trans (Nat.le_of_lt s1) hb2.size))⟩
theorem hostwrites_walk (o d a b c n k x : Int) (w : World) :
    Calls Try.prog 7 #[.agg #[.int .i64 o, .int .i64 d, .int .i64 a, .int .i64 b, .int .i64 c, .int .i64 n, .int .u32 k, .int .u32 x]] w fun e w' => e = .returned (.bool true) ∧ Below w.heap.size w w' := by
  have h15 := fcls_le o
  by_cases hq : fcls o = 0
  · exact hw_walk o d a b c n k x [] 0 2 (fun w => (henc_0 o d a b c n k x w hq).mono fun e w' h => ⟨_, h.1, wd_nil _ _ _, h.2⟩) (fun w => (renc_0 o d a b c n k x w hq).mono fun e w' h => ⟨_, h.1, wd_nil _ _ _, h.2⟩) w
  · have h1 : 1 ≤ fcls o := by omega
    have hr := fcls_range h1
    by_cases hok : EOK (fcls o) o d a b c n k x
    · exact hw_walk o d a b c n k x _ _ 0 (fun w => (henc_ok (fcls o) h1 h15 o d a b c n k x w rfl hr.1 (by omega)).mono fun e w' h => h.wd h1 h15 hok) (fun w => (renc_ok (fcls o) h1 h15 o d a b c n k x w rfl hr.1 (by omega)).mono fun e w' h => h.wd h1 h15 hok) w
    · exact hw_walk o d a b c n k x _ _ 3 (fun w => (henc_ok (fcls o) h1 h15 o d a b c n k x w rfl hr.1 (by omega)).mono fun e w' h => h.no hok) (fun w => (renc_ok (fcls o) h1 h15 o d a b c n k x w rfl hr.1 (by omega)).mono fun e w' h => h.no hok) w
end Go.Proofs.Ytcjcmnnhmajocaa.Ho
