/- Lemmas. -/
import Derived.Test.YtcjcmnnhmajocabProg
import Derived.Below
import Derived.WalkKit
import Derived.BigQuiet
import Derived.Test.YtcjcmnnhmajocabPgaa
namespace Go.Proofs.Ytcjcmnnhmajocab.Ho
open Go.RowKit Kt
set_option linter.unusedVariables false
def fr (d a b c k : Bool) (n w : Int) : Array Value := #[.bool d, .bool a, .bool b, .bool c, .bool k, .int .i64 n, .int .i64 w]
def frow : Nat → Array Value
  | 1 => fr true true true false false 0 1
  | 2 => fr true true false false false 0 1
  | 3 => fr true true true true false 0 1
  | 4 => fr true true false false false 65 2
  | 5 => fr true false false false false 0 1
  | 6 => fr false true false false false 65 2
  | 7 => fr false false false false false 65 2
  | 8 => fr true false false false false 0 2
  | 9 => fr false true false false false 65 1
  | 10 => fr true false false false false 12 1
  | 11 => fr false true false false false 12 1
  | 12 => fr true false false false false 2048 1
  | 13 => fr false true false false false 2048 1
  | 14 => fr true false false false true 65 3
  | 15 => fr true true false false true 65 2
  | _ => fr false false false false false 0 0
theorem frow_shape (q : Nat) : ∃ (d a b c k : Bool) (n w : Int), frow q = #[.bool d, .bool a, .bool b, .bool c, .bool k, .int .i64 n, .int .i64 w] := by
  unfold frow
  split <;> exact ⟨_, _, _, _, _, _, _, rfl⟩
def fsm (o : Int) : Nat :=
  if o = 0 then 0 else if o = 1 then 7 else if o = 2 then 8 else if o = 4 then 9 else if o = 6 then 10 else if o = 7 then 11 else if o = 8 then 12 else if o = 9 then 13 else if o = 10 then 7
  else if o = 11 then 6 else if o = 12 then 14 else if o = 13 then 15 else if o = 14 then 7 else if o = 15 then 7 else 0
def fcls (o : Int) : Nat :=
  if 16 ≤ o ∧ o < 32 then 1
  else if 32 ≤ o ∧ o < 39 ∨ 64 ≤ o ∧ o < 80 ∨ o = 3 then 2
  else if 48 ≤ o ∧ o < 61 ∨ o = 5 then 3
  else if 80 ≤ o ∧ o < 85 ∨ 88 ≤ o ∧ o < 91 then 4
  else if o = 97 then 5
  else if o = 96 then 6
  else fsm o
def ftab : Array Value := (List.range 16).foldl (fun s (j : Nat) => let i : Int := j; s ++ (if i = 3 ∨ i = 5 then frow 0 else frow (fsm i))) #[]
set_option maxRecDepth 100000 in
theorem ftab_at (o : Int) (h : 0 ≤ o) (g : o < 16) (h3 : o ≠ 3) (h5 : o ≠ 5) : ∀ w : World, (Instr.index 269 (.agg ftab) (.int .i64 o)).run Try.prog w = .ok (.agg (frow (fsm o))) w := by
  rcases (show o = 0 ∨ o = 1 ∨ o = 2 ∨ o = 4 ∨ o = 6 ∨ o = 7 ∨ o = 8 ∨ o = 9 ∨ o = 10 ∨ o = 11 ∨ o = 12 ∨ o = 13 ∨ o = 14 ∨ o = 15 by omega) with rfl | rfl | rfl | rfl | rfl | rfl | rfl | rfl | rfl | rfl | rfl | rfl | rfl | rfl
  · intro w; kernel_rfl
  · intro w; kernel_rfl
  · intro w; kernel_rfl
  · intro w; kernel_rfl
  · intro w; kernel_rfl
  · intro w; kernel_rfl
  · intro w; kernel_rfl
  · intro w; kernel_rfl
  · intro w; kernel_rfl
  · intro w; kernel_rfl
  · intro w; kernel_rfl
  · intro w; kernel_rfl
  · intro w; kernel_rfl
  · intro w; kernel_rfl
theorem fsm_of (o : Int) (h : ¬ (16 ≤ o ∧ o < 32)) (h2 : ¬ (32 ≤ o ∧ o < 39 ∨ 64 ≤ o ∧ o < 80 ∨ o = 3)) (h3 : ¬ (48 ≤ o ∧ o < 61 ∨ o = 5)) (h4 : ¬ (80 ≤ o ∧ o < 85 ∨ 88 ≤ o ∧ o < 91)) (h5 : o ≠ 97) (h6 : o ≠ 96) : fcls o = fsm o := by
  unfold fcls
  rw [if_neg h, if_neg h2, if_neg h3, if_neg h4, if_neg h5, if_neg h6]
theorem fsm_out (o : Int) (h : o < 0 ∨ 15 < o) : fsm o = 0 := by
  unfold fsm
  repeat (rw [if_neg (by omega)])
theorem fcls_1 (o : Int) (h : 16 ≤ o ∧ o < 32) : fcls o = 1 := by unfold fcls; rw [if_pos h]
theorem fcls_2 (o : Int) (h : 32 ≤ o ∧ o < 39 ∨ 64 ≤ o ∧ o < 80 ∨ o = 3) : fcls o = 2 := by unfold fcls; rw [if_neg (by omega), if_pos h]
theorem fcls_3 (o : Int) (h : 48 ≤ o ∧ o < 61 ∨ o = 5) : fcls o = 3 := by unfold fcls; rw [if_neg (by omega), if_neg (by omega), if_pos h]
theorem fcls_4 (o : Int) (h : 80 ≤ o ∧ o < 85 ∨ 88 ≤ o ∧ o < 91) : fcls o = 4 := by unfold fcls; rw [if_neg (by omega), if_neg (by omega), if_neg (by omega), if_pos h]
theorem fcls_5 (o : Int) (h : o = 97) : fcls o = 5 := by subst h; rfl
theorem fcls_6 (o : Int) (h : o = 96) : fcls o = 6 := by subst h; rfl
theorem fcls_0 (o : Int) (h : ¬ (0 ≤ o ∧ o < 16 ∧ o ≠ 3 ∧ o ≠ 5)) (h1 : ¬ (16 ≤ o ∧ o < 32)) (h2 : ¬ (32 ≤ o ∧ o < 39 ∨ 64 ≤ o ∧ o < 80 ∨ o = 3)) (h3 : ¬ (48 ≤ o ∧ o < 61 ∨ o = 5)) (h4 : ¬ (80 ≤ o ∧ o < 85 ∨ 88 ≤ o ∧ o < 91)) (h5 : o ≠ 97) (h6 : o ≠ 96) : fcls o = 0 := by
  rw [fsm_of o h1 h2 h3 h4 h5 h6, fsm_out o (by omega)]
set_option maxRecDepth 100000 in
set_option maxHeartbeats 4000000 in
theorem fo_a (o : Int) (hs : 16 ≤ o ∧ o < 32) (w : World) : Calls Try.prog 149 #[.int .i64 o] w fun e w' => e = .returned (.agg (frow 1)) ∧ Below w.heap.size w w' := by
  have g16 : 16 ≤ o := by omega
  have g32 : ¬ (32 ≤ o) := by omega
  have g48 : ¬ (48 ≤ o) := by omega
  have g64 : ¬ (64 ≤ o) := by omega
  have g80 : ¬ (80 ≤ o) := by omega
  have g88 : ¬ (88 ≤ o) := by omega
  have l32 : o < 32 := by omega
  have l39 : o < 39 := by omega
  have l61 : o < 61 := by omega
  have l80 : o < 80 := by omega
  have l85 : o < 85 := by omega
  have l91 : o < 91 := by omega
  have e3 : (o == 3) = false := by simp; omega
  have e5 : (o == 5) = false := by simp; omega
  have e97 : (o == 97) = false := by simp; omega
  have e96 : (o == 96) = false := by simp; omega
  have z0 : ¬ (o < 0) := by omega
  have z1 : 15 < o := by omega
  clear hs
  go_enter Try.func149, Try.ntmps149
  go_wp2
  refine bodyPost_ret (v := .agg #[.bool true, .bool true, .bool true, .bool false, .bool false, .int .i64 0, .int .i64 1]) (by simp [results, Try.results149, go_sem]) rfl ⟨rfl, ?_⟩
  exact (Below.refl _ _).alloc (Nat.le_refl _) _
set_option maxRecDepth 100000 in
set_option maxHeartbeats 4000000 in
theorem fo_b (o : Int) (hs : 32 ≤ o ∧ o < 39) (w : World) : Calls Try.prog 149 #[.int .i64 o] w fun e w' => e = .returned (.agg (frow 2)) ∧ Below w.heap.size w w' := by
  have g16 : 16 ≤ o := by omega
  have g32 : 32 ≤ o := by omega
  have g48 : ¬ (48 ≤ o) := by omega
  have g64 : ¬ (64 ≤ o) := by omega
  have g80 : ¬ (80 ≤ o) := by omega
  have g88 : ¬ (88 ≤ o) := by omega
  have l32 : ¬ (o < 32) := by omega
  have l39 : o < 39 := by omega
  have l61 : o < 61 := by omega
  have l80 : o < 80 := by omega
  have l85 : o < 85 := by omega
  have l91 : o < 91 := by omega
  have e3 : (o == 3) = false := by simp; omega
  have e5 : (o == 5) = false := by simp; omega
  have e97 : (o == 97) = false := by simp; omega
  have e96 : (o == 96) = false := by simp; omega
  have z0 : ¬ (o < 0) := by omega
  have z1 : 15 < o := by omega
  clear hs
  go_enter Try.func149, Try.ntmps149
  go_wp2
  refine bodyPost_ret (v := .agg #[.bool true, .bool true, .bool false, .bool false, .bool false, .int .i64 0, .int .i64 1]) (by simp [results, Try.results149, go_sem]) rfl ⟨rfl, ?_⟩
  exact (Below.refl _ _).alloc (Nat.le_refl _) _
set_option maxRecDepth 100000 in
set_option maxHeartbeats 4000000 in
theorem fo_c (o : Int) (hs : 64 ≤ o ∧ o < 80) (w : World) : Calls Try.prog 149 #[.int .i64 o] w fun e w' => e = .returned (.agg (frow 2)) ∧ Below w.heap.size w w' := by
  have g16 : 16 ≤ o := by omega
  have g32 : 32 ≤ o := by omega
  have g48 : 48 ≤ o := by omega
  have g64 : 64 ≤ o := by omega
  have g80 : ¬ (80 ≤ o) := by omega
  have g88 : ¬ (88 ≤ o) := by omega
  have l32 : ¬ (o < 32) := by omega
  have l39 : ¬ (o < 39) := by omega
  have l61 : ¬ (o < 61) := by omega
  have l80 : o < 80 := by omega
  have l85 : o < 85 := by omega
  have l91 : o < 91 := by omega
  have e3 : (o == 3) = false := by simp; omega
  have e5 : (o == 5) = false := by simp; omega
  have e97 : (o == 97) = false := by simp; omega
  have e96 : (o == 96) = false := by simp; omega
  have z0 : ¬ (o < 0) := by omega
  have z1 : 15 < o := by omega
  clear hs
  go_enter Try.func149, Try.ntmps149
  go_wp2
  refine bodyPost_ret (v := .agg #[.bool true, .bool true, .bool false, .bool false, .bool false, .int .i64 0, .int .i64 1]) (by simp [results, Try.results149, go_sem]) rfl ⟨rfl, ?_⟩
  exact (Below.refl _ _).alloc (Nat.le_refl _) _
set_option maxRecDepth 100000 in
set_option maxHeartbeats 4000000 in
theorem fo_e (o : Int) (hs : 48 ≤ o ∧ o < 61) (w : World) : Calls Try.prog 149 #[.int .i64 o] w fun e w' => e = .returned (.agg (frow 3)) ∧ Below w.heap.size w w' := by
  have g16 : 16 ≤ o := by omega
  have g32 : 32 ≤ o := by omega
  have g48 : 48 ≤ o := by omega
  have g64 : ¬ (64 ≤ o) := by omega
  have g80 : ¬ (80 ≤ o) := by omega
  have g88 : ¬ (88 ≤ o) := by omega
  have l32 : ¬ (o < 32) := by omega
  have l39 : ¬ (o < 39) := by omega
  have l61 : o < 61 := by omega
  have l80 : o < 80 := by omega
  have l85 : o < 85 := by omega
  have l91 : o < 91 := by omega
  have e3 : (o == 3) = false := by simp; omega
  have e5 : (o == 5) = false := by simp; omega
  have e97 : (o == 97) = false := by simp; omega
  have e96 : (o == 96) = false := by simp; omega
  have z0 : ¬ (o < 0) := by omega
  have z1 : 15 < o := by omega
  clear hs
  go_enter Try.func149, Try.ntmps149
  go_wp2
  refine bodyPost_ret (v := .agg #[.bool true, .bool true, .bool true, .bool true, .bool false, .int .i64 0, .int .i64 1]) (by simp [results, Try.results149, go_sem]) rfl ⟨rfl, ?_⟩
  exact (Below.refl _ _).alloc (Nat.le_refl _) _
set_option maxRecDepth 100000 in
set_option maxHeartbeats 4000000 in
theorem fo_g (o : Int) (hs : 80 ≤ o ∧ o < 85) (w : World) : Calls Try.prog 149 #[.int .i64 o] w fun e w' => e = .returned (.agg (frow 4)) ∧ Below w.heap.size w w' := by
  have g16 : 16 ≤ o := by omega
  have g32 : 32 ≤ o := by omega
  have g48 : 48 ≤ o := by omega
  have g64 : 64 ≤ o := by omega
  have g80 : 80 ≤ o := by omega
  have g88 : ¬ (88 ≤ o) := by omega
  have l32 : ¬ (o < 32) := by omega
  have l39 : ¬ (o < 39) := by omega
  have l61 : ¬ (o < 61) := by omega
  have l80 : ¬ (o < 80) := by omega
  have l85 : o < 85 := by omega
  have l91 : o < 91 := by omega
  have e3 : (o == 3) = false := by simp; omega
  have e5 : (o == 5) = false := by simp; omega
  have e97 : (o == 97) = false := by simp; omega
  have e96 : (o == 96) = false := by simp; omega
  have z0 : ¬ (o < 0) := by omega
  have z1 : 15 < o := by omega
  clear hs
  go_enter Try.func149, Try.ntmps149
  go_wp2
  refine bodyPost_ret (v := .agg #[.bool true, .bool true, .bool false, .bool false, .bool false, .int .i64 65, .int .i64 2]) (by simp [results, Try.results149, go_sem]) rfl ⟨rfl, ?_⟩
  exact (Below.refl _ _).alloc (Nat.le_refl _) _
set_option maxRecDepth 100000 in
set_option maxHeartbeats 4000000 in
theorem fo_h (o : Int) (hs : 88 ≤ o ∧ o < 91) (w : World) : Calls Try.prog 149 #[.int .i64 o] w fun e w' => e = .returned (.agg (frow 4)) ∧ Below w.heap.size w w' := by
  have g16 : 16 ≤ o := by omega
  have g32 : 32 ≤ o := by omega
  have g48 : 48 ≤ o := by omega
  have g64 : 64 ≤ o := by omega
  have g80 : 80 ≤ o := by omega
  have g88 : 88 ≤ o := by omega
  have l32 : ¬ (o < 32) := by omega
  have l39 : ¬ (o < 39) := by omega
  have l61 : ¬ (o < 61) := by omega
  have l80 : ¬ (o < 80) := by omega
  have l85 : ¬ (o < 85) := by omega
  have l91 : o < 91 := by omega
  have e3 : (o == 3) = false := by simp; omega
  have e5 : (o == 5) = false := by simp; omega
  have e97 : (o == 97) = false := by simp; omega
  have e96 : (o == 96) = false := by simp; omega
  have z0 : ¬ (o < 0) := by omega
  have z1 : 15 < o := by omega
  clear hs
  go_enter Try.func149, Try.ntmps149
  go_wp2
  refine bodyPost_ret (v := .agg #[.bool true, .bool true, .bool false, .bool false, .bool false, .int .i64 65, .int .i64 2]) (by simp [results, Try.results149, go_sem]) rfl ⟨rfl, ?_⟩
  exact (Below.refl _ _).alloc (Nat.le_refl _) _
set_option maxRecDepth 100000 in
set_option maxHeartbeats 4000000 in
theorem fo_k (o : Int) (hs : o < 0) (w : World) : Calls Try.prog 149 #[.int .i64 o] w fun e w' => e = .returned (.agg (frow 0)) ∧ Below w.heap.size w w' := by
  have g16 : ¬ (16 ≤ o) := by omega
  have g32 : ¬ (32 ≤ o) := by omega
  have g48 : ¬ (48 ≤ o) := by omega
  have g64 : ¬ (64 ≤ o) := by omega
  have g80 : ¬ (80 ≤ o) := by omega
  have g88 : ¬ (88 ≤ o) := by omega
  have l32 : o < 32 := by omega
  have l39 : o < 39 := by omega
  have l61 : o < 61 := by omega
  have l80 : o < 80 := by omega
  have l85 : o < 85 := by omega
  have l91 : o < 91 := by omega
  have e3 : (o == 3) = false := by simp; omega
  have e5 : (o == 5) = false := by simp; omega
  have e97 : (o == 97) = false := by simp; omega
  have e96 : (o == 96) = false := by simp; omega
  have z0 : o < 0 := by omega
  have z1 : ¬ (15 < o) := by omega
  clear hs
  go_enter Try.func149, Try.ntmps149
  go_wp2
  refine bodyPost_ret (v := .agg #[.bool false, .bool false, .bool false, .bool false, .bool false, .int .i64 0, .int .i64 0]) (by simp [results, Try.results149, go_sem]) rfl ⟨rfl, ?_⟩
  exact (Below.refl _ _).alloc (Nat.le_refl _) _
set_option maxRecDepth 100000 in
set_option maxHeartbeats 4000000 in
theorem fo_l (o : Int) (hs : 39 ≤ o ∧ o < 48) (w : World) : Calls Try.prog 149 #[.int .i64 o] w fun e w' => e = .returned (.agg (frow 0)) ∧ Below w.heap.size w w' := by
  have g16 : 16 ≤ o := by omega
  have g32 : 32 ≤ o := by omega
  have g48 : ¬ (48 ≤ o) := by omega
  have g64 : ¬ (64 ≤ o) := by omega
  have g80 : ¬ (80 ≤ o) := by omega
  have g88 : ¬ (88 ≤ o) := by omega
  have l32 : ¬ (o < 32) := by omega
  have l39 : ¬ (o < 39) := by omega
  have l61 : o < 61 := by omega
  have l80 : o < 80 := by omega
  have l85 : o < 85 := by omega
  have l91 : o < 91 := by omega
  have e3 : (o == 3) = false := by simp; omega
  have e5 : (o == 5) = false := by simp; omega
  have e97 : (o == 97) = false := by simp; omega
  have e96 : (o == 96) = false := by simp; omega
  have z0 : ¬ (o < 0) := by omega
  have z1 : 15 < o := by omega
  clear hs
  go_enter Try.func149, Try.ntmps149
  go_wp2
  refine bodyPost_ret (v := .agg #[.bool false, .bool false, .bool false, .bool false, .bool false, .int .i64 0, .int .i64 0]) (by simp [results, Try.results149, go_sem]) rfl ⟨rfl, ?_⟩
  exact (Below.refl _ _).alloc (Nat.le_refl _) _
set_option maxRecDepth 100000 in
set_option maxHeartbeats 4000000 in
theorem fo_m (o : Int) (hs : 61 ≤ o ∧ o < 64) (w : World) : Calls Try.prog 149 #[.int .i64 o] w fun e w' => e = .returned (.agg (frow 0)) ∧ Below w.heap.size w w' := by
  have g16 : 16 ≤ o := by omega
  have g32 : 32 ≤ o := by omega
  have g48 : 48 ≤ o := by omega
  have g64 : ¬ (64 ≤ o) := by omega
  have g80 : ¬ (80 ≤ o) := by omega
  have g88 : ¬ (88 ≤ o) := by omega
  have l32 : ¬ (o < 32) := by omega
  have l39 : ¬ (o < 39) := by omega
  have l61 : ¬ (o < 61) := by omega
  have l80 : o < 80 := by omega
  have l85 : o < 85 := by omega
  have l91 : o < 91 := by omega
  have e3 : (o == 3) = false := by simp; omega
  have e5 : (o == 5) = false := by simp; omega
  have e97 : (o == 97) = false := by simp; omega
  have e96 : (o == 96) = false := by simp; omega
  have z0 : ¬ (o < 0) := by omega
  have z1 : 15 < o := by omega
  clear hs
  go_enter Try.func149, Try.ntmps149
  go_wp2
  refine bodyPost_ret (v := .agg #[.bool false, .bool false, .bool false, .bool false, .bool false, .int .i64 0, .int .i64 0]) (by simp [results, Try.results149, go_sem]) rfl ⟨rfl, ?_⟩
  exact (Below.refl _ _).alloc (Nat.le_refl _) _
set_option maxRecDepth 100000 in
set_option maxHeartbeats 4000000 in
theorem fo_n (o : Int) (hs : 85 ≤ o ∧ o < 88) (w : World) : Calls Try.prog 149 #[.int .i64 o] w fun e w' => e = .returned (.agg (frow 0)) ∧ Below w.heap.size w w' := by
  have g16 : 16 ≤ o := by omega
  have g32 : 32 ≤ o := by omega
  have g48 : 48 ≤ o := by omega
  have g64 : 64 ≤ o := by omega
  have g80 : 80 ≤ o := by omega
  have g88 : ¬ (88 ≤ o) := by omega
  have l32 : ¬ (o < 32) := by omega
  have l39 : ¬ (o < 39) := by omega
  have l61 : ¬ (o < 61) := by omega
  have l80 : ¬ (o < 80) := by omega
  have l85 : ¬ (o < 85) := by omega
  have l91 : o < 91 := by omega
  have e3 : (o == 3) = false := by simp; omega
  have e5 : (o == 5) = false := by simp; omega
  have e97 : (o == 97) = false := by simp; omega
  have e96 : (o == 96) = false := by simp; omega
  have z0 : ¬ (o < 0) := by omega
  have z1 : 15 < o := by omega
  clear hs
  go_enter Try.func149, Try.ntmps149
  go_wp2
  refine bodyPost_ret (v := .agg #[.bool false, .bool false, .bool false, .bool false, .bool false, .int .i64 0, .int .i64 0]) (by simp [results, Try.results149, go_sem]) rfl ⟨rfl, ?_⟩
  exact (Below.refl _ _).alloc (Nat.le_refl _) _
set_option maxRecDepth 100000 in
set_option maxHeartbeats 4000000 in
theorem fo_o (o : Int) (hs : 91 ≤ o ∧ o < 96) (w : World) : Calls Try.prog 149 #[.int .i64 o] w fun e w' => e = .returned (.agg (frow 0)) ∧ Below w.heap.size w w' := by
  have g16 : 16 ≤ o := by omega
  have g32 : 32 ≤ o := by omega
  have g48 : 48 ≤ o := by omega
  have g64 : 64 ≤ o := by omega
  have g80 : 80 ≤ o := by omega
  have g88 : 88 ≤ o := by omega
  have l32 : ¬ (o < 32) := by omega
  have l39 : ¬ (o < 39) := by omega
  have l61 : ¬ (o < 61) := by omega
  have l80 : ¬ (o < 80) := by omega
  have l85 : ¬ (o < 85) := by omega
  have l91 : ¬ (o < 91) := by omega
  have e3 : (o == 3) = false := by simp; omega
  have e5 : (o == 5) = false := by simp; omega
  have e97 : (o == 97) = false := by simp; omega
  have e96 : (o == 96) = false := by simp; omega
  have z0 : ¬ (o < 0) := by omega
  have z1 : 15 < o := by omega
  clear hs
  go_enter Try.func149, Try.ntmps149
  go_wp2
  refine bodyPost_ret (v := .agg #[.bool false, .bool false, .bool false, .bool false, .bool false, .int .i64 0, .int .i64 0]) (by simp [results, Try.results149, go_sem]) rfl ⟨rfl, ?_⟩
  exact (Below.refl _ _).alloc (Nat.le_refl _) _
set_option maxRecDepth 100000 in
set_option maxHeartbeats 4000000 in
theorem fo_p (o : Int) (hs : 98 ≤ o) (w : World) : Calls Try.prog 149 #[.int .i64 o] w fun e w' => e = .returned (.agg (frow 0)) ∧ Below w.heap.size w w' := by
  have g16 : 16 ≤ o := by omega
  have g32 : 32 ≤ o := by omega
  have g48 : 48 ≤ o := by omega
  have g64 : 64 ≤ o := by omega
  have g80 : 80 ≤ o := by omega
  have g88 : 88 ≤ o := by omega
  have l32 : ¬ (o < 32) := by omega
  have l39 : ¬ (o < 39) := by omega
  have l61 : ¬ (o < 61) := by omega
  have l80 : ¬ (o < 80) := by omega
  have l85 : ¬ (o < 85) := by omega
  have l91 : ¬ (o < 91) := by omega
  have e3 : (o == 3) = false := by simp; omega
  have e5 : (o == 5) = false := by simp; omega
  have e97 : (o == 97) = false := by simp; omega
  have e96 : (o == 96) = false := by simp; omega
  have z0 : ¬ (o < 0) := by omega
  have z1 : 15 < o := by omega
  clear hs
  go_enter Try.func149, Try.ntmps149
  go_wp2
  refine bodyPost_ret (v := .agg #[.bool false, .bool false, .bool false, .bool false, .bool false, .int .i64 0, .int .i64 0]) (by simp [results, Try.results149, go_sem]) rfl ⟨rfl, ?_⟩
  exact (Below.refl _ _).alloc (Nat.le_refl _) _
set_option maxRecDepth 100000 in
set_option maxHeartbeats 4000000 in
theorem fo_d (w : World) : Calls Try.prog 149 #[.int .i64 3] w fun e w' => e = .returned (.agg (frow 2)) ∧ Below w.heap.size w w' := by
  go_enter Try.func149, Try.ntmps149
  go_wp2
  refine bodyPost_ret (v := .agg #[.bool true, .bool true, .bool false, .bool false, .bool false, .int .i64 0, .int .i64 1]) (by simp [results, Try.results149, go_sem]) rfl ⟨rfl, ?_⟩
  exact (Below.refl _ _).alloc (Nat.le_refl _) _
set_option maxRecDepth 100000 in
set_option maxHeartbeats 4000000 in
theorem fo_f (w : World) : Calls Try.prog 149 #[.int .i64 5] w fun e w' => e = .returned (.agg (frow 3)) ∧ Below w.heap.size w w' := by
  go_enter Try.func149, Try.ntmps149
  go_wp2
  refine bodyPost_ret (v := .agg #[.bool true, .bool true, .bool true, .bool true, .bool false, .int .i64 0, .int .i64 1]) (by simp [results, Try.results149, go_sem]) rfl ⟨rfl, ?_⟩
  exact (Below.refl _ _).alloc (Nat.le_refl _) _
set_option maxRecDepth 100000 in
set_option maxHeartbeats 4000000 in
theorem fo_i (w : World) : Calls Try.prog 149 #[.int .i64 97] w fun e w' => e = .returned (.agg (frow 5)) ∧ Below w.heap.size w w' := by
  go_enter Try.func149, Try.ntmps149
  go_wp2
  refine bodyPost_ret (v := .agg #[.bool true, .bool false, .bool false, .bool false, .bool false, .int .i64 0, .int .i64 1]) (by simp [results, Try.results149, go_sem]) rfl ⟨rfl, ?_⟩
  exact (Below.refl _ _).alloc (Nat.le_refl _) _
set_option maxRecDepth 100000 in
set_option maxHeartbeats 4000000 in
theorem fo_j (w : World) : Calls Try.prog 149 #[.int .i64 96] w fun e w' => e = .returned (.agg (frow 6)) ∧ Below w.heap.size w w' := by
  go_enter Try.func149, Try.ntmps149
  go_wp2
  refine bodyPost_ret (v := .agg #[.bool false, .bool true, .bool false, .bool false, .bool false, .int .i64 65, .int .i64 2]) (by simp [results, Try.results149, go_sem]) rfl ⟨rfl, ?_⟩
  exact (Below.refl _ _).alloc (Nat.le_refl _) _
theorem formatOf_rest (o : Int) (hs : ¬ (0 ≤ o ∧ o < 16 ∧ o ≠ 3 ∧ o ≠ 5)) (w : World) : Calls Try.prog 149 #[.int .i64 o] w fun e w' => e = .returned (.agg (frow (fcls o))) ∧ Below w.heap.size w w' := by
  rcases (show (16 ≤ o ∧ o < 32) ∨ (32 ≤ o ∧ o < 39) ∨ (64 ≤ o ∧ o < 80) ∨ (48 ≤ o ∧ o < 61) ∨ (80 ≤ o ∧ o < 85) ∨ (88 ≤ o ∧ o < 91) ∨ (o < 0) ∨ (39 ≤ o ∧ o < 48) ∨ (61 ≤ o ∧ o < 64) ∨ (85 ≤ o ∧ o < 88) ∨ (91 ≤ o ∧ o < 96) ∨ (98 ≤ o) ∨ o = 3 ∨ o = 5 ∨ o = 97 ∨ o = 96 by omega) with h | h | h | h | h | h | h | h | h | h | h | h | rfl | rfl | rfl | rfl
  · rw [show fcls o = 1 from fcls_1 o (by omega)]; exact fo_a o h w
  · rw [show fcls o = 2 from fcls_2 o (by omega)]; exact fo_b o h w
  · rw [show fcls o = 2 from fcls_2 o (by omega)]; exact fo_c o h w
  · rw [show fcls o = 3 from fcls_3 o (by omega)]; exact fo_e o h w
  · rw [show fcls o = 4 from fcls_4 o (by omega)]; exact fo_g o h w
  · rw [show fcls o = 4 from fcls_4 o (by omega)]; exact fo_h o h w
  · rw [show fcls o = 0 from fcls_0 o hs (by omega) (by omega) (by omega) (by omega) (by omega) (by omega)]; exact fo_k o h w
  · rw [show fcls o = 0 from fcls_0 o hs (by omega) (by omega) (by omega) (by omega) (by omega) (by omega)]; exact fo_l o h w
  · rw [show fcls o = 0 from fcls_0 o hs (by omega) (by omega) (by omega) (by omega) (by omega) (by omega)]; exact fo_m o h w
  · rw [show fcls o = 0 from fcls_0 o hs (by omega) (by omega) (by omega) (by omega) (by omega) (by omega)]; exact fo_n o h w
  · rw [show fcls o = 0 from fcls_0 o hs (by omega) (by omega) (by omega) (by omega) (by omega) (by omega)]; exact fo_o o h w
  · rw [show fcls o = 0 from fcls_0 o hs (by omega) (by omega) (by omega) (by omega) (by omega) (by omega)]; exact fo_p o h w
  · exact fo_d w
  · exact fo_f w
  · exact fo_i w
  · exact fo_j w
set_option maxRecDepth 100000 in
set_option maxHeartbeats 4000000 in
theorem formatOf_any (o : Int) (w : World) : Calls Try.prog 149 #[.int .i64 o] w fun e w' => e = .returned (.agg (frow (fcls o))) ∧ Below w.heap.size w w' := by
  by_cases hs : 0 ≤ o ∧ o < 16 ∧ o ≠ 3 ∧ o ≠ 5
  · have hix := ftab_at o hs.1 hs.2.1 hs.2.2.1 hs.2.2.2
    rw [fsm_of o (by omega) (by omega) (by omega) (by omega) (by omega) (by omega)]
    obtain ⟨d, a, b, c, k, n, wd, hrow⟩ := frow_shape (fsm o)
    rw [hrow] at hix ⊢
    clear hrow
    have e1 : (o == 3) = false := by simpa using hs.2.2.1
    have e2 : (o == 5) = false := by simpa using hs.2.2.2
    have e3 : (o == 97) = false := by simp; omega
    have e4 : (o == 96) = false := by simp; omega
    have l1 : ¬ (16 ≤ o) := by omega
    have l2 : ¬ (32 ≤ o) := by omega
    have l3 : ¬ (48 ≤ o) := by omega
    have l4 : ¬ (64 ≤ o) := by omega
    have l5 : ¬ (80 ≤ o) := by omega
    have l6 : ¬ (88 ≤ o) := by omega
    have l7 : ¬ (o < 0) := by omega
    have l8 : ¬ (15 < o) := by omega
    go_enter Try.func149, Try.ntmps149
    go_wp2_with (first
      | ((with_reducible refine wpList_value (o := ⟨some 80, _, _, _, _, _⟩) (v := .agg ftab) ?_ ?_ ?_); (rfl); (kernel_rfl)))
    refine bodyPost_ret (v := .agg #[.bool d, .bool a, .bool b, .bool c, .bool k, .int .i64 n, .int .i64 wd]) (by simp [results, Try.results149, go_sem]) rfl ⟨rfl, ?_⟩
    exact (Below.refl _ _).alloc (Nat.le_refl _) _
  · exact formatOf_rest o hs w
end Go.Proofs.Ytcjcmnnhmajocab.Ho
namespace Go.Proofs.Ytcjcmnnhmajocab.Ho
open Go.RowKit
set_option linter.unusedVariables false
theorem mask15 (x : Int) (h : 0 ≤ x) (g : x < 4294967296) : bits .and .u32 x 15 = x % 16 := bits_mask .u32 32 (by decide) (fun n h₀ h₁ => by rw [IntKind.wrap_u32]; omega) 4 (by decide) x h g
theorem mask255 (x : Int) (h : 0 ≤ x) (g : x < 4294967296) : bits .and .u32 x 255 = x % 256 := bits_mask .u32 32 (by decide) (fun n h₀ h₁ => by rw [IntKind.wrap_u32]; omega) 8 (by decide) x h g
theorem mask65535 (x : Int) (h : 0 ≤ x) (g : x < 4294967296) : bits .and .u32 x 65535 = x % 65536 := bits_mask .u32 32 (by decide) (fun n h₀ h₁ => by rw [IntKind.wrap_u32]; omega) 16 (by decide) x h g
/-- the closure 'part': what it leaves -/
def Parted (B X R j : Nat) (cs : Array Value) (v q : Int) (is : Bool) (w w' : World) : Prop :=
  w'.heap.size = w.heap.size ∧ w'.heap[X]? = some (.cells (if is then cs.setIfInBounds j (.int .i64 v) else cs) 108 (0, 0)) ∧ w'.heap[R]? = some (.cells #[.int .u32 q] 22 (0, 0)) ∧
    (∀ k, k ≠ X → k ≠ R → w'.heap[k]? = w.heap[k]?) ∧ Below B w w'
theorem parted_of {B X R j : Nat} {cs : Array Value} {r v q : Int} {w : World} (hX : w.heap[X]? = some (.cells cs 108 (0, 0))) (hR : w.heap[R]? = some (.cells #[.int .u32 r] 22 (0, 0))) (hx : B ≤ X) (hr : B ≤ R) (hne : X ≠ R) :
    Parted B X R j cs v q false w (w.setCell ⟨R, 0, none⟩ (.int .u32 q)).drew ∧ Parted B X R j cs v q true w ((w.setCell ⟨R, 0, none⟩ (.int .u32 q)).setCell ⟨X, j, none⟩ (.int .i64 v)).drew := by
  have h1 : (w.setCell ⟨R, 0, none⟩ (.int .u32 q)).heap[X]? = some (.cells cs 108 (0, 0)) := (heap_setCell_other _ _ _ _ hne).trans hX
  refine ⟨⟨?_, ?_, one_setCell hR, fun k h1 h2 => heap_setCell_other _ _ _ _ h2, ((Below.refl _ _).setCell hr _).drew⟩, ?_, ?_, ?_, fun k h1 h2 => ?_, (((Below.refl _ _).setCell hr _).setCell hx _).drew⟩
  · show (w.setCell _ _).heap.size = _; simp
  · exact h1
  · show ((w.setCell _ _).setCell _ _).heap.size = _; simp
  · exact heap_setCell_same _ _ _ _ _ _ h1
  · exact (heap_setCell_other _ _ _ _ (fun e => hne e.symm)).trans (one_setCell hR)
  · exact (heap_setCell_other _ _ _ _ h1).trans (heap_setCell_other _ _ _ _ h2)
theorem part4 (is : Bool) (B X R j : Nat) (cs : Array Value) (r : Int) (w : World) (hX : w.heap[X]? = some (.cells cs 108 (0, 0))) (hR : w.heap[R]? = some (.cells #[.int .u32 r] 22 (0, 0)))
   (hx : B ≤ X) (hr : B ≤ R) (hne : X ≠ R) (hj : j < cs.size) (h0 : 0 ≤ r) (g0 : r < 4294967296) :
   Calls Try.prog 150 #[.bool is, .pointer (some ⟨X, j, none⟩), .int .i64 4, .pointer (some ⟨R, 0, none⟩)] w fun e w' => e = .returned (.bool (is || r % 16 == 0)) ∧ Parted B X R j cs (r % 16) (r / 16) is w w' := by
  have cR := cell_of_one hR
  have zR := free_of_one hR
  obtain ⟨v, hv⟩ : ∃ v, cs[j]? = some v := ⟨cs[j], by simp [hj]⟩
  have cX : w.cell? ⟨X, j, none⟩ = some v := by simp [World.cell?, hX, hv]
  have zX : w.frozen? ⟨X, j, none⟩ = false := frozen_of_row w X j cs _ hX
  have m := mask15 r h0 g0
  have hP := parted_of (j := j) (v := r % 16) (q := r / 16) hX hR hx hr hne
  cases is
  · go_enter Try.func150, Try.ntmps150
    go_wp2
    go_region
    go_wp2
    go_ret
    exact ⟨rfl, hP.1⟩
  · go_enter Try.func150, Try.ntmps150
    go_wp2
    go_region
    go_wp2
    go_ret
    exact ⟨rfl, hP.2⟩
theorem part16 (B X R j : Nat) (cs : Array Value) (r : Int) (w : World) (hX : w.heap[X]? = some (.cells cs 108 (0, 0))) (hR : w.heap[R]? = some (.cells #[.int .u32 r] 22 (0, 0)))
   (hx : B ≤ X) (hr : B ≤ R) (hne : X ≠ R) (hj : j < cs.size) (h0 : 0 ≤ r) (g0 : r < 4294967296) :
   Calls Try.prog 150 #[.bool true, .pointer (some ⟨X, j, none⟩), .int .i64 16, .pointer (some ⟨R, 0, none⟩)] w fun e w' => e = .returned (.bool true) ∧ Parted B X R j cs (r % 65536) (r / 65536) true w w' := by
  have cR := cell_of_one hR
  have zR := free_of_one hR
  obtain ⟨v, hv⟩ : ∃ v, cs[j]? = some v := ⟨cs[j], by simp [hj]⟩
  have cX : w.cell? ⟨X, j, none⟩ = some v := by simp [World.cell?, hX, hv]
  have zX : w.frozen? ⟨X, j, none⟩ = false := frozen_of_row w X j cs _ hX
  have m := mask65535 r h0 g0
  have hP := parted_of (j := j) (v := r % 65536) (q := r / 65536) hX hR hx hr hne
  go_enter Try.func150, Try.ntmps150
  go_wp2
  go_region
  go_wp2
  go_ret
  exact ⟨rfl, hP.2⟩
end Go.Proofs.Ytcjcmnnhmajocab.Ho
