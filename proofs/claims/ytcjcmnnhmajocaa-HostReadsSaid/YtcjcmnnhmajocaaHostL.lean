import Derived.Test.YtcjcmnnhmajocaaHostK
import Derived.LoopN
import Derived.Lib.Hide
namespace Go.Proofs.Ytcjcmnnhmajocaa.Ho
open Go.RowKit Kt
set_option linter.unusedVariables false
theorem rform_shape (q : Nat) (h1 : 1 ≤ q) (h2 : q ≤ 15) : ∃ (s : ByteArray) (m : Int) (l : Nat), rform q = .tuple #[.string s, .int .i64 m, .int .i64 l] ∧ 1 ≤ l ∧ l ≤ 3 ∧ wd q = l := by
  rcases (show q = 1 ∨ q = 2 ∨ q = 3 ∨ q = 4 ∨ q = 5 ∨ q = 6 ∨ q = 7 ∨ q = 8 ∨ q = 9 ∨ q = 10 ∨ q = 11 ∨ q = 12 ∨ q = 13 ∨ q = 14 ∨ q = 15 by omega) with rfl | rfl | rfl | rfl | rfl | rfl | rfl | rfl | rfl | rfl | rfl | rfl | rfl | rfl | rfl
  · exact ⟨_, _, 1, rfl, by decide, by decide, by decide⟩
  · exact ⟨_, _, 1, rfl, by decide, by decide, by decide⟩
  · exact ⟨_, _, 1, rfl, by decide, by decide, by decide⟩
  · exact ⟨_, _, 2, rfl, by decide, by decide, by decide⟩
  · exact ⟨_, _, 1, rfl, by decide, by decide, by decide⟩
  · exact ⟨_, _, 2, rfl, by decide, by decide, by decide⟩
  · exact ⟨_, _, 2, rfl, by decide, by decide, by decide⟩
  · exact ⟨_, _, 2, rfl, by decide, by decide, by decide⟩
  · exact ⟨_, _, 1, rfl, by decide, by decide, by decide⟩
  · exact ⟨_, _, 1, rfl, by decide, by decide, by decide⟩
  · exact ⟨_, _, 1, rfl, by decide, by decide, by decide⟩
  · exact ⟨_, _, 1, rfl, by decide, by decide, by decide⟩
  · exact ⟨_, _, 1, rfl, by decide, by decide, by decide⟩
  · exact ⟨_, _, 3, rfl, by decide, by decide, by decide⟩
  · exact ⟨_, _, 2, rfl, by decide, by decide, by decide⟩
set_option maxRecDepth 100000 in
set_option maxHeartbeats 4000000 in
theorem renc_d (q : Nat) (h1 : 1 ≤ q) (h2 : q ≤ 15) (o d a b c n k x : Int) (w : World) (hq : fcls o = q) (p0 : 0 ≤ o) (hd : ¬ (0 ≤ d ∧ d < 16)) :
    Calls Try.prog 29 #[.agg #[.int .i64 o, .int .i64 d, .int .i64 a, .int .i64 b, .int .i64 c, .int .i64 n, .int .u32 k, .int .u32 x]] w fun e w' => e = .returned (.tuple #[.slice none 0 0, .int .i64 3]) ∧ Below w.heap.size w w' := by
  obtain ⟨s, m, l, hf, l1, l2, hl⟩ := rform_shape q h1 h2
  have g0 : ¬ o < 0 := by omega
  have gl : ((l : Int) == 0) = false := by simp; omega
  go_enter Try.func29, Try.ntmps29
  go_wp2_with (first
    | (go_at_call 58; refine (form_any o _).mono ?_; rintro e w1 ⟨rfl, rfl⟩; rw [hq, hf])
    | (go_at_call 60; fail))
  refine wp_loop_rounds 1 ?_
  rw [rounds_succ]; go_wp2
  all_goals first
    | (exfalso; omega)
    | (go_ret2; exact ⟨rfl, ((Below.refl _ _).alloc (Nat.le_refl _) _).alloc (by simp) _⟩)
set_option maxRecDepth 100000 in
set_option maxHeartbeats 4000000 in
theorem renc_a (q : Nat) (h1 : 1 ≤ q) (h2 : q ≤ 15) (o d a b c n k x : Int) (w : World) (hq : fcls o = q) (p0 : 0 ≤ o) (hd : 0 ≤ d ∧ d < 16) (ha : ¬ (0 ≤ a ∧ a < 16)) :
    Calls Try.prog 29 #[.agg #[.int .i64 o, .int .i64 d, .int .i64 a, .int .i64 b, .int .i64 c, .int .i64 n, .int .u32 k, .int .u32 x]] w fun e w' => e = .returned (.tuple #[.slice none 0 0, .int .i64 3]) ∧ Below w.heap.size w w' := by
  obtain ⟨s, m, l, hf, l1, l2, hl⟩ := rform_shape q h1 h2
  have g0 : ¬ o < 0 := by omega
  have gl : ((l : Int) == 0) = false := by simp; omega
  have d0 : 0 ≤ d := by omega
  have d1 : d ≤ 15 := by omega
  clear hd
  go_enter Try.func29, Try.ntmps29
  go_wp2_with (first
    | (go_at_call 58; refine (form_any o _).mono ?_; rintro e w1 ⟨rfl, rfl⟩; rw [hq, hf])
    | (go_at_call 60; fail))
  refine wp_loop_rounds 2 ?_
  rw [rounds_succ]; go_wp2
  rw [rounds_succ]; go_wp2
  all_goals first
    | (exfalso; omega)
    | (go_ret2; exact ⟨rfl, ((Below.refl _ _).alloc (Nat.le_refl _) _).alloc (by simp) _⟩)
set_option maxRecDepth 100000 in
set_option maxHeartbeats 4000000 in
theorem renc_b (q : Nat) (h1 : 1 ≤ q) (h2 : q ≤ 15) (o d a b c n k x : Int) (w : World) (hq : fcls o = q) (p0 : 0 ≤ o) (hd : 0 ≤ d ∧ d < 16) (ha : 0 ≤ a ∧ a < 16) (hb : ¬ (0 ≤ b ∧ b < 16)) :
    Calls Try.prog 29 #[.agg #[.int .i64 o, .int .i64 d, .int .i64 a, .int .i64 b, .int .i64 c, .int .i64 n, .int .u32 k, .int .u32 x]] w fun e w' => e = .returned (.tuple #[.slice none 0 0, .int .i64 3]) ∧ Below w.heap.size w w' := by
  obtain ⟨s, m, l, hf, l1, l2, hl⟩ := rform_shape q h1 h2
  have g0 : ¬ o < 0 := by omega
  have gl : ((l : Int) == 0) = false := by simp; omega
  have d0 : 0 ≤ d := by omega
  have d1 : d ≤ 15 := by omega
  have a0 : 0 ≤ a := by omega
  have a1 : a ≤ 15 := by omega
  clear hd ha
  go_enter Try.func29, Try.ntmps29
  go_wp2_with (first
    | (go_at_call 58; refine (form_any o _).mono ?_; rintro e w1 ⟨rfl, rfl⟩; rw [hq, hf])
    | (go_at_call 60; fail))
  refine wp_loop_rounds 3 ?_
  rw [rounds_succ]; go_wp2
  rw [rounds_succ]; go_wp2
  rw [rounds_succ]; go_wp2
  all_goals first
    | (exfalso; omega)
    | (go_ret2; exact ⟨rfl, ((Below.refl _ _).alloc (Nat.le_refl _) _).alloc (by simp) _⟩)
set_option maxRecDepth 100000 in
set_option maxHeartbeats 4000000 in
theorem renc_c (q : Nat) (h1 : 1 ≤ q) (h2 : q ≤ 15) (o d a b c n k x : Int) (w : World) (hq : fcls o = q) (p0 : 0 ≤ o) (hd : 0 ≤ d ∧ d < 16) (ha : 0 ≤ a ∧ a < 16) (hb : 0 ≤ b ∧ b < 16) (hc : ¬ (0 ≤ c ∧ c < 16)) :
    Calls Try.prog 29 #[.agg #[.int .i64 o, .int .i64 d, .int .i64 a, .int .i64 b, .int .i64 c, .int .i64 n, .int .u32 k, .int .u32 x]] w fun e w' => e = .returned (.tuple #[.slice none 0 0, .int .i64 3]) ∧ Below w.heap.size w w' := by
  obtain ⟨s, m, l, hf, l1, l2, hl⟩ := rform_shape q h1 h2
  have g0 : ¬ o < 0 := by omega
  have gl : ((l : Int) == 0) = false := by simp; omega
  have d0 : 0 ≤ d := by omega
  have d1 : d ≤ 15 := by omega
  have a0 : 0 ≤ a := by omega
  have a1 : a ≤ 15 := by omega
  have b0 : 0 ≤ b := by omega
  have b1 : b ≤ 15 := by omega
  clear hd ha hb
  go_enter Try.func29, Try.ntmps29
  go_wp2_with (first
    | (go_at_call 58; refine (form_any o _).mono ?_; rintro e w1 ⟨rfl, rfl⟩; rw [hq, hf])
    | (go_at_call 60; fail))
  refine wp_loop_rounds 4 ?_
  rw [rounds_succ]; go_wp2
  rw [rounds_succ]; go_wp2
  rw [rounds_succ]; go_wp2
  rw [rounds_succ]; go_wp2
  all_goals first
    | (exfalso; omega)
    | (go_ret2; exact ⟨rfl, ((Below.refl _ _).alloc (Nat.le_refl _) _).alloc (by simp) _⟩)
set_option maxRecDepth 100000 in
set_option maxHeartbeats 4000000 in
theorem renc_n (q : Nat) (h1 : 1 ≤ q) (h2 : q ≤ 15) (o d a b c n k x : Int) (w : World) (hq : fcls o = q) (p0 : 0 ≤ o) (hd : 0 ≤ d ∧ d < 16) (ha : 0 ≤ a ∧ a < 16) (hb : 0 ≤ b ∧ b < 16) (hc : 0 ≤ c ∧ c < 16) (hn : ¬ (0 ≤ n ∧ n < 65536)) :
    Calls Try.prog 29 #[.agg #[.int .i64 o, .int .i64 d, .int .i64 a, .int .i64 b, .int .i64 c, .int .i64 n, .int .u32 k, .int .u32 x]] w fun e w' => e = .returned (.tuple #[.slice none 0 0, .int .i64 3]) ∧ Below w.heap.size w w' := by
  obtain ⟨s, m, l, hf, l1, l2, hl⟩ := rform_shape q h1 h2
  have g0 : ¬ o < 0 := by omega
  have gl : ((l : Int) == 0) = false := by simp; omega
  have d0 : 0 ≤ d := by omega
  have d1 : d ≤ 15 := by omega
  have a0 : 0 ≤ a := by omega
  have a1 : a ≤ 15 := by omega
  have b0 : 0 ≤ b := by omega
  have b1 : b ≤ 15 := by omega
  have c0 : 0 ≤ c := by omega
  have c1 : c ≤ 15 := by omega
  clear hd ha hb hc
  go_enter Try.func29, Try.ntmps29
  go_wp2_with (first
    | (go_at_call 58; refine (form_any o _).mono ?_; rintro e w1 ⟨rfl, rfl⟩; rw [hq, hf])
    | (go_at_call 60; fail))
  refine wp_loop_rounds 5 ?_
  rw [rounds_succ]; go_wp2
  rw [rounds_succ]; go_wp2
  rw [rounds_succ]; go_wp2
  rw [rounds_succ]; go_wp2
  rw [rounds_succ]; go_wp2
  all_goals first
    | (exfalso; omega)
    | (go_ret2; exact ⟨rfl, ((Below.refl _ _).alloc (Nat.le_refl _) _).alloc (by simp) _⟩)
end Go.Proofs.Ytcjcmnnhmajocaa.Ho
