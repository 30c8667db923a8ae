/- Lemmas. -/
import Derived.Test.YtcjcmnnhmajocabPgab
namespace Go.Proofs.Ytcjcmnnhmajocab.Ho
open Go.RowKit Kt
set_option linter.unusedVariables false
def rform : Nat → Value
  | 1 => .tuple #[.string { data := #[100, 97, 98] }, .int .i64 0, .int .i64 1]
  | 2 => .tuple #[.string { data := #[100, 97] }, .int .i64 0, .int .i64 1]
  | 3 => .tuple #[.string { data := #[100, 97, 98, 99] }, .int .i64 0, .int .i64 1]
  | 4 => .tuple #[.string { data := #[100, 97, 110] }, .int .i64 65, .int .i64 2]
  | 5 => .tuple #[.string { data := #[100] }, .int .i64 0, .int .i64 1]
  | 6 => .tuple #[.string { data := #[97, 110] }, .int .i64 65, .int .i64 2]
  | 7 => .tuple #[.string { data := #[110] }, .int .i64 65, .int .i64 2]
  | 8 => .tuple #[.string { data := #[100] }, .int .i64 0, .int .i64 2]
  | 9 => .tuple #[.string { data := #[97, 110] }, .int .i64 65, .int .i64 1]
  | 10 => .tuple #[.string { data := #[100, 110] }, .int .i64 12, .int .i64 1]
  | 11 => .tuple #[.string { data := #[97, 110] }, .int .i64 12, .int .i64 1]
  | 12 => .tuple #[.string { data := #[100, 110] }, .int .i64 2048, .int .i64 1]
  | 13 => .tuple #[.string { data := #[97, 110] }, .int .i64 2048, .int .i64 1]
  | 14 => .tuple #[.string { data := #[100, 110] }, .int .i64 65, .int .i64 3]
  | 15 => .tuple #[.string { data := #[100, 97, 110] }, .int .i64 65, .int .i64 2]
  | _ => .tuple #[.string { data := #[] }, .int .i64 0, .int .i64 0]
set_option maxRecDepth 100000 in
set_option maxHeartbeats 4000000 in
theorem rfo_a (o : Int) (hs : 16 ≤ o ∧ o < 32) (w : World) : Calls Try.prog 97 #[.int .i64 o] w fun e w' => e = .returned (rform 1) ∧ w = w' := by
  have g16 : 16 ≤ o := by omega
  have g32 : ¬ (32 ≤ o) := by omega
  have g48 : ¬ (48 ≤ o) := by omega
  have g64 : ¬ (64 ≤ o) := by omega
  have g80 : ¬ (80 ≤ o) := by omega
  have g88 : ¬ (88 ≤ o) := by omega
  have l31 : o ≤ 31 := by omega
  have l38 : o ≤ 38 := by omega
  have l60 : o ≤ 60 := by omega
  have l79 : o ≤ 79 := by omega
  have l84 : o ≤ 84 := by omega
  have l90 : o ≤ 90 := by omega
  have e1 : (o == 1) = false := by simp; omega
  have e2 : (o == 2) = false := by simp; omega
  have e3 : (o == 3) = false := by simp; omega
  have e4 : (o == 4) = false := by simp; omega
  have e5 : (o == 5) = false := by simp; omega
  have e6 : (o == 6) = false := by simp; omega
  have e7 : (o == 7) = false := by simp; omega
  have e8 : (o == 8) = false := by simp; omega
  have e9 : (o == 9) = false := by simp; omega
  have e10 : (o == 10) = false := by simp; omega
  have e11 : (o == 11) = false := by simp; omega
  have e12 : (o == 12) = false := by simp; omega
  have e13 : (o == 13) = false := by simp; omega
  have e14 : (o == 14) = false := by simp; omega
  have e15 : (o == 15) = false := by simp; omega
  have e97 : (o == 97) = false := by simp; omega
  have e96 : (o == 96) = false := by simp; omega
  clear hs
  go_enter Try.func97, Try.ntmps97
  go_wp2
  go_ret3
  exact ⟨rfl, rfl⟩
set_option maxRecDepth 100000 in
set_option maxHeartbeats 4000000 in
theorem rfo_b (o : Int) (hs : 32 ≤ o ∧ o < 39) (w : World) : Calls Try.prog 97 #[.int .i64 o] w fun e w' => e = .returned (rform 2) ∧ w = w' := by
  have g16 : 16 ≤ o := by omega
  have g32 : 32 ≤ o := by omega
  have g48 : ¬ (48 ≤ o) := by omega
  have g64 : ¬ (64 ≤ o) := by omega
  have g80 : ¬ (80 ≤ o) := by omega
  have g88 : ¬ (88 ≤ o) := by omega
  have l31 : ¬ (o ≤ 31) := by omega
  have l38 : o ≤ 38 := by omega
  have l60 : o ≤ 60 := by omega
  have l79 : o ≤ 79 := by omega
  have l84 : o ≤ 84 := by omega
  have l90 : o ≤ 90 := by omega
  have e1 : (o == 1) = false := by simp; omega
  have e2 : (o == 2) = false := by simp; omega
  have e3 : (o == 3) = false := by simp; omega
  have e4 : (o == 4) = false := by simp; omega
  have e5 : (o == 5) = false := by simp; omega
  have e6 : (o == 6) = false := by simp; omega
  have e7 : (o == 7) = false := by simp; omega
  have e8 : (o == 8) = false := by simp; omega
  have e9 : (o == 9) = false := by simp; omega
  have e10 : (o == 10) = false := by simp; omega
  have e11 : (o == 11) = false := by simp; omega
  have e12 : (o == 12) = false := by simp; omega
  have e13 : (o == 13) = false := by simp; omega
  have e14 : (o == 14) = false := by simp; omega
  have e15 : (o == 15) = false := by simp; omega
  have e97 : (o == 97) = false := by simp; omega
  have e96 : (o == 96) = false := by simp; omega
  clear hs
  go_enter Try.func97, Try.ntmps97
  go_wp2
  go_ret3
  exact ⟨rfl, rfl⟩
set_option maxRecDepth 100000 in
set_option maxHeartbeats 4000000 in
theorem rfo_c (o : Int) (hs : 64 ≤ o ∧ o < 80) (w : World) : Calls Try.prog 97 #[.int .i64 o] w fun e w' => e = .returned (rform 2) ∧ w = w' := by
  have g16 : 16 ≤ o := by omega
  have g32 : 32 ≤ o := by omega
  have g48 : 48 ≤ o := by omega
  have g64 : 64 ≤ o := by omega
  have g80 : ¬ (80 ≤ o) := by omega
  have g88 : ¬ (88 ≤ o) := by omega
  have l31 : ¬ (o ≤ 31) := by omega
  have l38 : ¬ (o ≤ 38) := by omega
  have l60 : ¬ (o ≤ 60) := by omega
  have l79 : o ≤ 79 := by omega
  have l84 : o ≤ 84 := by omega
  have l90 : o ≤ 90 := by omega
  have e1 : (o == 1) = false := by simp; omega
  have e2 : (o == 2) = false := by simp; omega
  have e3 : (o == 3) = false := by simp; omega
  have e4 : (o == 4) = false := by simp; omega
  have e5 : (o == 5) = false := by simp; omega
  have e6 : (o == 6) = false := by simp; omega
  have e7 : (o == 7) = false := by simp; omega
  have e8 : (o == 8) = false := by simp; omega
  have e9 : (o == 9) = false := by simp; omega
  have e10 : (o == 10) = false := by simp; omega
  have e11 : (o == 11) = false := by simp; omega
  have e12 : (o == 12) = false := by simp; omega
  have e13 : (o == 13) = false := by simp; omega
  have e14 : (o == 14) = false := by simp; omega
  have e15 : (o == 15) = false := by simp; omega
  have e97 : (o == 97) = false := by simp; omega
  have e96 : (o == 96) = false := by simp; omega
  clear hs
  go_enter Try.func97, Try.ntmps97
  go_wp2
  go_ret3
  exact ⟨rfl, rfl⟩
set_option maxRecDepth 100000 in
set_option maxHeartbeats 4000000 in
theorem rfo_e (o : Int) (hs : 48 ≤ o ∧ o < 61) (w : World) : Calls Try.prog 97 #[.int .i64 o] w fun e w' => e = .returned (rform 3) ∧ w = w' := by
  have g16 : 16 ≤ o := by omega
  have g32 : 32 ≤ o := by omega
  have g48 : 48 ≤ o := by omega
  have g64 : ¬ (64 ≤ o) := by omega
  have g80 : ¬ (80 ≤ o) := by omega
  have g88 : ¬ (88 ≤ o) := by omega
  have l31 : ¬ (o ≤ 31) := by omega
  have l38 : ¬ (o ≤ 38) := by omega
  have l60 : o ≤ 60 := by omega
  have l79 : o ≤ 79 := by omega
  have l84 : o ≤ 84 := by omega
  have l90 : o ≤ 90 := by omega
  have e1 : (o == 1) = false := by simp; omega
  have e2 : (o == 2) = false := by simp; omega
  have e3 : (o == 3) = false := by simp; omega
  have e4 : (o == 4) = false := by simp; omega
  have e5 : (o == 5) = false := by simp; omega
  have e6 : (o == 6) = false := by simp; omega
  have e7 : (o == 7) = false := by simp; omega
  have e8 : (o == 8) = false := by simp; omega
  have e9 : (o == 9) = false := by simp; omega
  have e10 : (o == 10) = false := by simp; omega
  have e11 : (o == 11) = false := by simp; omega
  have e12 : (o == 12) = false := by simp; omega
  have e13 : (o == 13) = false := by simp; omega
  have e14 : (o == 14) = false := by simp; omega
  have e15 : (o == 15) = false := by simp; omega
  have e97 : (o == 97) = false := by simp; omega
  have e96 : (o == 96) = false := by simp; omega
  clear hs
  go_enter Try.func97, Try.ntmps97
  go_wp2
  go_ret3
  exact ⟨rfl, rfl⟩
set_option maxRecDepth 100000 in
set_option maxHeartbeats 4000000 in
theorem rfo_g (o : Int) (hs : 80 ≤ o ∧ o < 85) (w : World) : Calls Try.prog 97 #[.int .i64 o] w fun e w' => e = .returned (rform 4) ∧ w = w' := by
  have g16 : 16 ≤ o := by omega
  have g32 : 32 ≤ o := by omega
  have g48 : 48 ≤ o := by omega
  have g64 : 64 ≤ o := by omega
  have g80 : 80 ≤ o := by omega
  have g88 : ¬ (88 ≤ o) := by omega
  have l31 : ¬ (o ≤ 31) := by omega
  have l38 : ¬ (o ≤ 38) := by omega
  have l60 : ¬ (o ≤ 60) := by omega
  have l79 : ¬ (o ≤ 79) := by omega
  have l84 : o ≤ 84 := by omega
  have l90 : o ≤ 90 := by omega
  have e1 : (o == 1) = false := by simp; omega
  have e2 : (o == 2) = false := by simp; omega
  have e3 : (o == 3) = false := by simp; omega
  have e4 : (o == 4) = false := by simp; omega
  have e5 : (o == 5) = false := by simp; omega
  have e6 : (o == 6) = false := by simp; omega
  have e7 : (o == 7) = false := by simp; omega
  have e8 : (o == 8) = false := by simp; omega
  have e9 : (o == 9) = false := by simp; omega
  have e10 : (o == 10) = false := by simp; omega
  have e11 : (o == 11) = false := by simp; omega
  have e12 : (o == 12) = false := by simp; omega
  have e13 : (o == 13) = false := by simp; omega
  have e14 : (o == 14) = false := by simp; omega
  have e15 : (o == 15) = false := by simp; omega
  have e97 : (o == 97) = false := by simp; omega
  have e96 : (o == 96) = false := by simp; omega
  clear hs
  go_enter Try.func97, Try.ntmps97
  go_wp2
  go_ret3
  exact ⟨rfl, rfl⟩
set_option maxRecDepth 100000 in
set_option maxHeartbeats 4000000 in
theorem rfo_h (o : Int) (hs : 88 ≤ o ∧ o < 91) (w : World) : Calls Try.prog 97 #[.int .i64 o] w fun e w' => e = .returned (rform 4) ∧ w = w' := by
  have g16 : 16 ≤ o := by omega
  have g32 : 32 ≤ o := by omega
  have g48 : 48 ≤ o := by omega
  have g64 : 64 ≤ o := by omega
  have g80 : 80 ≤ o := by omega
  have g88 : 88 ≤ o := by omega
  have l31 : ¬ (o ≤ 31) := by omega
  have l38 : ¬ (o ≤ 38) := by omega
  have l60 : ¬ (o ≤ 60) := by omega
  have l79 : ¬ (o ≤ 79) := by omega
  have l84 : ¬ (o ≤ 84) := by omega
  have l90 : o ≤ 90 := by omega
  have e1 : (o == 1) = false := by simp; omega
  have e2 : (o == 2) = false := by simp; omega
  have e3 : (o == 3) = false := by simp; omega
  have e4 : (o == 4) = false := by simp; omega
  have e5 : (o == 5) = false := by simp; omega
  have e6 : (o == 6) = false := by simp; omega
  have e7 : (o == 7) = false := by simp; omega
  have e8 : (o == 8) = false := by simp; omega
  have e9 : (o == 9) = false := by simp; omega
  have e10 : (o == 10) = false := by simp; omega
  have e11 : (o == 11) = false := by simp; omega
  have e12 : (o == 12) = false := by simp; omega
  have e13 : (o == 13) = false := by simp; omega
  have e14 : (o == 14) = false := by simp; omega
  have e15 : (o == 15) = false := by simp; omega
  have e97 : (o == 97) = false := by simp; omega
  have e96 : (o == 96) = false := by simp; omega
  clear hs
  go_enter Try.func97, Try.ntmps97
  go_wp2
  go_ret3
  exact ⟨rfl, rfl⟩
set_option maxRecDepth 100000 in
set_option maxHeartbeats 4000000 in
theorem rfo_k (o : Int) (hs : o < 0) (w : World) : Calls Try.prog 97 #[.int .i64 o] w fun e w' => e = .returned (rform 0) ∧ w = w' := by
  have g16 : ¬ (16 ≤ o) := by omega
  have g32 : ¬ (32 ≤ o) := by omega
  have g48 : ¬ (48 ≤ o) := by omega
  have g64 : ¬ (64 ≤ o) := by omega
  have g80 : ¬ (80 ≤ o) := by omega
  have g88 : ¬ (88 ≤ o) := by omega
  have l31 : o ≤ 31 := by omega
  have l38 : o ≤ 38 := by omega
  have l60 : o ≤ 60 := by omega
  have l79 : o ≤ 79 := by omega
  have l84 : o ≤ 84 := by omega
  have l90 : o ≤ 90 := by omega
  have e1 : (o == 1) = false := by simp; omega
  have e2 : (o == 2) = false := by simp; omega
  have e3 : (o == 3) = false := by simp; omega
  have e4 : (o == 4) = false := by simp; omega
  have e5 : (o == 5) = false := by simp; omega
  have e6 : (o == 6) = false := by simp; omega
  have e7 : (o == 7) = false := by simp; omega
  have e8 : (o == 8) = false := by simp; omega
  have e9 : (o == 9) = false := by simp; omega
  have e10 : (o == 10) = false := by simp; omega
  have e11 : (o == 11) = false := by simp; omega
  have e12 : (o == 12) = false := by simp; omega
  have e13 : (o == 13) = false := by simp; omega
  have e14 : (o == 14) = false := by simp; omega
  have e15 : (o == 15) = false := by simp; omega
  have e97 : (o == 97) = false := by simp; omega
  have e96 : (o == 96) = false := by simp; omega
  clear hs
  go_enter Try.func97, Try.ntmps97
  go_wp2
  go_ret3
  exact ⟨rfl, rfl⟩
set_option maxRecDepth 100000 in
set_option maxHeartbeats 4000000 in
theorem rfo_l (o : Int) (hs : 39 ≤ o ∧ o < 48) (w : World) : Calls Try.prog 97 #[.int .i64 o] w fun e w' => e = .returned (rform 0) ∧ w = w' := by
  have g16 : 16 ≤ o := by omega
  have g32 : 32 ≤ o := by omega
  have g48 : ¬ (48 ≤ o) := by omega
  have g64 : ¬ (64 ≤ o) := by omega
  have g80 : ¬ (80 ≤ o) := by omega
  have g88 : ¬ (88 ≤ o) := by omega
  have l31 : ¬ (o ≤ 31) := by omega
  have l38 : ¬ (o ≤ 38) := by omega
  have l60 : o ≤ 60 := by omega
  have l79 : o ≤ 79 := by omega
  have l84 : o ≤ 84 := by omega
  have l90 : o ≤ 90 := by omega
  have e1 : (o == 1) = false := by simp; omega
  have e2 : (o == 2) = false := by simp; omega
  have e3 : (o == 3) = false := by simp; omega
  have e4 : (o == 4) = false := by simp; omega
  have e5 : (o == 5) = false := by simp; omega
  have e6 : (o == 6) = false := by simp; omega
  have e7 : (o == 7) = false := by simp; omega
  have e8 : (o == 8) = false := by simp; omega
  have e9 : (o == 9) = false := by simp; omega
  have e10 : (o == 10) = false := by simp; omega
  have e11 : (o == 11) = false := by simp; omega
  have e12 : (o == 12) = false := by simp; omega
  have e13 : (o == 13) = false := by simp; omega
  have e14 : (o == 14) = false := by simp; omega
  have e15 : (o == 15) = false := by simp; omega
  have e97 : (o == 97) = false := by simp; omega
  have e96 : (o == 96) = false := by simp; omega
  clear hs
  go_enter Try.func97, Try.ntmps97
  go_wp2
  go_ret3
  exact ⟨rfl, rfl⟩
set_option maxRecDepth 100000 in
set_option maxHeartbeats 4000000 in
theorem rfo_m (o : Int) (hs : 61 ≤ o ∧ o < 64) (w : World) : Calls Try.prog 97 #[.int .i64 o] w fun e w' => e = .returned (rform 0) ∧ w = w' := by
  have g16 : 16 ≤ o := by omega
  have g32 : 32 ≤ o := by omega
  have g48 : 48 ≤ o := by omega
  have g64 : ¬ (64 ≤ o) := by omega
  have g80 : ¬ (80 ≤ o) := by omega
  have g88 : ¬ (88 ≤ o) := by omega
  have l31 : ¬ (o ≤ 31) := by omega
  have l38 : ¬ (o ≤ 38) := by omega
  have l60 : ¬ (o ≤ 60) := by omega
  have l79 : o ≤ 79 := by omega
  have l84 : o ≤ 84 := by omega
  have l90 : o ≤ 90 := by omega
  have e1 : (o == 1) = false := by simp; omega
  have e2 : (o == 2) = false := by simp; omega
  have e3 : (o == 3) = false := by simp; omega
  have e4 : (o == 4) = false := by simp; omega
  have e5 : (o == 5) = false := by simp; omega
  have e6 : (o == 6) = false := by simp; omega
  have e7 : (o == 7) = false := by simp; omega
  have e8 : (o == 8) = false := by simp; omega
  have e9 : (o == 9) = false := by simp; omega
  have e10 : (o == 10) = false := by simp; omega
  have e11 : (o == 11) = false := by simp; omega
  have e12 : (o == 12) = false := by simp; omega
  have e13 : (o == 13) = false := by simp; omega
  have e14 : (o == 14) = false := by simp; omega
  have e15 : (o == 15) = false := by simp; omega
  have e97 : (o == 97) = false := by simp; omega
  have e96 : (o == 96) = false := by simp; omega
  clear hs
  go_enter Try.func97, Try.ntmps97
  go_wp2
  go_ret3
  exact ⟨rfl, rfl⟩
set_option maxRecDepth 100000 in
set_option maxHeartbeats 4000000 in
theorem rfo_n (o : Int) (hs : 85 ≤ o ∧ o < 88) (w : World) : Calls Try.prog 97 #[.int .i64 o] w fun e w' => e = .returned (rform 0) ∧ w = w' := by
  have g16 : 16 ≤ o := by omega
  have g32 : 32 ≤ o := by omega
  have g48 : 48 ≤ o := by omega
  have g64 : 64 ≤ o := by omega
  have g80 : 80 ≤ o := by omega
  have g88 : ¬ (88 ≤ o) := by omega
  have l31 : ¬ (o ≤ 31) := by omega
  have l38 : ¬ (o ≤ 38) := by omega
  have l60 : ¬ (o ≤ 60) := by omega
  have l79 : ¬ (o ≤ 79) := by omega
  have l84 : ¬ (o ≤ 84) := by omega
  have l90 : o ≤ 90 := by omega
  have e1 : (o == 1) = false := by simp; omega
  have e2 : (o == 2) = false := by simp; omega
  have e3 : (o == 3) = false := by simp; omega
  have e4 : (o == 4) = false := by simp; omega
  have e5 : (o == 5) = false := by simp; omega
  have e6 : (o == 6) = false := by simp; omega
  have e7 : (o == 7) = false := by simp; omega
  have e8 : (o == 8) = false := by simp; omega
  have e9 : (o == 9) = false := by simp; omega
  have e10 : (o == 10) = false := by simp; omega
  have e11 : (o == 11) = false := by simp; omega
  have e12 : (o == 12) = false := by simp; omega
  have e13 : (o == 13) = false := by simp; omega
  have e14 : (o == 14) = false := by simp; omega
  have e15 : (o == 15) = false := by simp; omega
  have e97 : (o == 97) = false := by simp; omega
  have e96 : (o == 96) = false := by simp; omega
  clear hs
  go_enter Try.func97, Try.ntmps97
  go_wp2
  go_ret3
  exact ⟨rfl, rfl⟩
set_option maxRecDepth 100000 in
set_option maxHeartbeats 4000000 in
theorem rfo_o (o : Int) (hs : 91 ≤ o ∧ o < 96) (w : World) : Calls Try.prog 97 #[.int .i64 o] w fun e w' => e = .returned (rform 0) ∧ w = w' := by
  have g16 : 16 ≤ o := by omega
  have g32 : 32 ≤ o := by omega
  have g48 : 48 ≤ o := by omega
  have g64 : 64 ≤ o := by omega
  have g80 : 80 ≤ o := by omega
  have g88 : 88 ≤ o := by omega
  have l31 : ¬ (o ≤ 31) := by omega
  have l38 : ¬ (o ≤ 38) := by omega
  have l60 : ¬ (o ≤ 60) := by omega
  have l79 : ¬ (o ≤ 79) := by omega
  have l84 : ¬ (o ≤ 84) := by omega
  have l90 : ¬ (o ≤ 90) := by omega
  have e1 : (o == 1) = false := by simp; omega
  have e2 : (o == 2) = false := by simp; omega
  have e3 : (o == 3) = false := by simp; omega
  have e4 : (o == 4) = false := by simp; omega
  have e5 : (o == 5) = false := by simp; omega
  have e6 : (o == 6) = false := by simp; omega
  have e7 : (o == 7) = false := by simp; omega
  have e8 : (o == 8) = false := by simp; omega
  have e9 : (o == 9) = false := by simp; omega
  have e10 : (o == 10) = false := by simp; omega
  have e11 : (o == 11) = false := by simp; omega
  have e12 : (o == 12) = false := by simp; omega
  have e13 : (o == 13) = false := by simp; omega
  have e14 : (o == 14) = false := by simp; omega
  have e15 : (o == 15) = false := by simp; omega
  have e97 : (o == 97) = false := by simp; omega
  have e96 : (o == 96) = false := by simp; omega
  clear hs
  go_enter Try.func97, Try.ntmps97
  go_wp2
  go_ret3
  exact ⟨rfl, rfl⟩
set_option maxRecDepth 100000 in
set_option maxHeartbeats 4000000 in
theorem rfo_p (o : Int) (hs : 98 ≤ o) (w : World) : Calls Try.prog 97 #[.int .i64 o] w fun e w' => e = .returned (rform 0) ∧ w = w' := by
  have g16 : 16 ≤ o := by omega
  have g32 : 32 ≤ o := by omega
  have g48 : 48 ≤ o := by omega
  have g64 : 64 ≤ o := by omega
  have g80 : 80 ≤ o := by omega
  have g88 : 88 ≤ o := by omega
  have l31 : ¬ (o ≤ 31) := by omega
  have l38 : ¬ (o ≤ 38) := by omega
  have l60 : ¬ (o ≤ 60) := by omega
  have l79 : ¬ (o ≤ 79) := by omega
  have l84 : ¬ (o ≤ 84) := by omega
  have l90 : ¬ (o ≤ 90) := by omega
  have e1 : (o == 1) = false := by simp; omega
  have e2 : (o == 2) = false := by simp; omega
  have e3 : (o == 3) = false := by simp; omega
  have e4 : (o == 4) = false := by simp; omega
  have e5 : (o == 5) = false := by simp; omega
  have e6 : (o == 6) = false := by simp; omega
  have e7 : (o == 7) = false := by simp; omega
  have e8 : (o == 8) = false := by simp; omega
  have e9 : (o == 9) = false := by simp; omega
  have e10 : (o == 10) = false := by simp; omega
  have e11 : (o == 11) = false := by simp; omega
  have e12 : (o == 12) = false := by simp; omega
  have e13 : (o == 13) = false := by simp; omega
  have e14 : (o == 14) = false := by simp; omega
  have e15 : (o == 15) = false := by simp; omega
  have e97 : (o == 97) = false := by simp; omega
  have e96 : (o == 96) = false := by simp; omega
  clear hs
  go_enter Try.func97, Try.ntmps97
  go_wp2
  go_ret3
  exact ⟨rfl, rfl⟩
set_option maxRecDepth 100000 in
set_option maxHeartbeats 4000000 in
theorem rfo_v0 (w : World) : Calls Try.prog 97 #[.int .i64 0] w fun e w' => e = .returned (rform 0) ∧ w = w' := by
  go_enter Try.func97, Try.ntmps97
  go_wp2
  go_ret3
  exact ⟨rfl, rfl⟩
set_option maxRecDepth 100000 in
set_option maxHeartbeats 4000000 in
theorem rfo_v1 (w : World) : Calls Try.prog 97 #[.int .i64 1] w fun e w' => e = .returned (rform 7) ∧ w = w' := by
  go_enter Try.func97, Try.ntmps97
  go_wp2
  go_ret3
  exact ⟨rfl, rfl⟩
set_option maxRecDepth 100000 in
set_option maxHeartbeats 4000000 in
theorem rfo_v2 (w : World) : Calls Try.prog 97 #[.int .i64 2] w fun e w' => e = .returned (rform 8) ∧ w = w' := by
  go_enter Try.func97, Try.ntmps97
  go_wp2
  go_ret3
  exact ⟨rfl, rfl⟩
set_option maxRecDepth 100000 in
set_option maxHeartbeats 4000000 in
theorem rfo_v3 (w : World) : Calls Try.prog 97 #[.int .i64 3] w fun e w' => e = .returned (rform 2) ∧ w = w' := by
  go_enter Try.func97, Try.ntmps97
  go_wp2
  go_ret3
  exact ⟨rfl, rfl⟩
set_option maxRecDepth 100000 in
set_option maxHeartbeats 4000000 in
theorem rfo_v4 (w : World) : Calls Try.prog 97 #[.int .i64 4] w fun e w' => e = .returned (rform 9) ∧ w = w' := by
  go_enter Try.func97, Try.ntmps97
  go_wp2
  go_ret3
  exact ⟨rfl, rfl⟩
set_option maxRecDepth 100000 in
set_option maxHeartbeats 4000000 in
theorem rfo_v5 (w : World) : Calls Try.prog 97 #[.int .i64 5] w fun e w' => e = .returned (rform 3) ∧ w = w' := by
  go_enter Try.func97, Try.ntmps97
  go_wp2
  go_ret3
  exact ⟨rfl, rfl⟩
set_option maxRecDepth 100000 in
set_option maxHeartbeats 4000000 in
theorem rfo_v6 (w : World) : Calls Try.prog 97 #[.int .i64 6] w fun e w' => e = .returned (rform 10) ∧ w = w' := by
  go_enter Try.func97, Try.ntmps97
  go_wp2
  go_ret3
  exact ⟨rfl, rfl⟩
set_option maxRecDepth 100000 in
set_option maxHeartbeats 4000000 in
theorem rfo_v7 (w : World) : Calls Try.prog 97 #[.int .i64 7] w fun e w' => e = .returned (rform 11) ∧ w = w' := by
  go_enter Try.func97, Try.ntmps97
  go_wp2
  go_ret3
  exact ⟨rfl, rfl⟩
set_option maxRecDepth 100000 in
set_option maxHeartbeats 4000000 in
theorem rfo_v8 (w : World) : Calls Try.prog 97 #[.int .i64 8] w fun e w' => e = .returned (rform 12) ∧ w = w' := by
  go_enter Try.func97, Try.ntmps97
  go_wp2
  go_ret3
  exact ⟨rfl, rfl⟩
set_option maxRecDepth 100000 in
set_option maxHeartbeats 4000000 in
theorem rfo_v9 (w : World) : Calls Try.prog 97 #[.int .i64 9] w fun e w' => e = .returned (rform 13) ∧ w = w' := by
  go_enter Try.func97, Try.ntmps97
  go_wp2
  go_ret3
  exact ⟨rfl, rfl⟩
set_option maxRecDepth 100000 in
set_option maxHeartbeats 4000000 in
theorem rfo_v10 (w : World) : Calls Try.prog 97 #[.int .i64 10] w fun e w' => e = .returned (rform 7) ∧ w = w' := by
  go_enter Try.func97, Try.ntmps97
  go_wp2
  go_ret3
  exact ⟨rfl, rfl⟩
set_option maxRecDepth 100000 in
set_option maxHeartbeats 4000000 in
theorem rfo_v11 (w : World) : Calls Try.prog 97 #[.int .i64 11] w fun e w' => e = .returned (rform 6) ∧ w = w' := by
  go_enter Try.func97, Try.ntmps97
  go_wp2
  go_ret3
  exact ⟨rfl, rfl⟩
set_option maxRecDepth 100000 in
set_option maxHeartbeats 4000000 in
theorem rfo_v12 (w : World) : Calls Try.prog 97 #[.int .i64 12] w fun e w' => e = .returned (rform 14) ∧ w = w' := by
  go_enter Try.func97, Try.ntmps97
  go_wp2
  go_ret3
  exact ⟨rfl, rfl⟩
set_option maxRecDepth 100000 in
set_option maxHeartbeats 4000000 in
theorem rfo_v13 (w : World) : Calls Try.prog 97 #[.int .i64 13] w fun e w' => e = .returned (rform 15) ∧ w = w' := by
  go_enter Try.func97, Try.ntmps97
  go_wp2
  go_ret3
  exact ⟨rfl, rfl⟩
set_option maxRecDepth 100000 in
set_option maxHeartbeats 4000000 in
theorem rfo_v14 (w : World) : Calls Try.prog 97 #[.int .i64 14] w fun e w' => e = .returned (rform 7) ∧ w = w' := by
  go_enter Try.func97, Try.ntmps97
  go_wp2
  go_ret3
  exact ⟨rfl, rfl⟩
set_option maxRecDepth 100000 in
set_option maxHeartbeats 4000000 in
theorem rfo_v15 (w : World) : Calls Try.prog 97 #[.int .i64 15] w fun e w' => e = .returned (rform 7) ∧ w = w' := by
  go_enter Try.func97, Try.ntmps97
  go_wp2
  go_ret3
  exact ⟨rfl, rfl⟩
set_option maxRecDepth 100000 in
set_option maxHeartbeats 4000000 in
theorem rfo_v97 (w : World) : Calls Try.prog 97 #[.int .i64 97] w fun e w' => e = .returned (rform 5) ∧ w = w' := by
  go_enter Try.func97, Try.ntmps97
  go_wp2
  go_ret3
  exact ⟨rfl, rfl⟩
set_option maxRecDepth 100000 in
set_option maxHeartbeats 4000000 in
theorem rfo_v96 (w : World) : Calls Try.prog 97 #[.int .i64 96] w fun e w' => e = .returned (rform 6) ∧ w = w' := by
  go_enter Try.func97, Try.ntmps97
  go_wp2
  go_ret3
  exact ⟨rfl, rfl⟩
theorem form_any (o : Int) (w : World) : Calls Try.prog 97 #[.int .i64 o] w fun e w' => e = .returned (rform (fcls o)) ∧ w = w' := by
  rcases (show (16 ≤ o ∧ o < 32) ∨ (32 ≤ o ∧ o < 39) ∨ (64 ≤ o ∧ o < 80) ∨ (48 ≤ o ∧ o < 61) ∨ (80 ≤ o ∧ o < 85) ∨ (88 ≤ o ∧ o < 91) ∨ (o < 0) ∨ (39 ≤ o ∧ o < 48) ∨ (61 ≤ o ∧ o < 64) ∨ (85 ≤ o ∧ o < 88) ∨ (91 ≤ o ∧ o < 96) ∨ (98 ≤ o) ∨ o = 0 ∨ o = 1 ∨ o = 2 ∨ o = 3 ∨ o = 4 ∨ o = 5 ∨ o = 6 ∨ o = 7 ∨ o = 8 ∨ o = 9 ∨ o = 10 ∨ o = 11 ∨ o = 12 ∨ o = 13 ∨ o = 14 ∨ o = 15 ∨ o = 97 ∨ o = 96 by omega) with h | h | h | h | h | h | h | h | h | h | h | h | rfl | rfl | rfl | rfl | rfl | rfl | rfl | rfl | rfl | rfl | rfl | rfl | rfl | rfl | rfl | rfl | rfl | rfl
  · rw [show fcls o = 1 from fcls_1 o (by omega)]; exact rfo_a o h w
  · rw [show fcls o = 2 from fcls_2 o (by omega)]; exact rfo_b o h w
  · rw [show fcls o = 2 from fcls_2 o (by omega)]; exact rfo_c o h w
  · rw [show fcls o = 3 from fcls_3 o (by omega)]; exact rfo_e o h w
  · rw [show fcls o = 4 from fcls_4 o (by omega)]; exact rfo_g o h w
  · rw [show fcls o = 4 from fcls_4 o (by omega)]; exact rfo_h o h w
  · rw [show fcls o = 0 from fcls_0 o (by omega) (by omega) (by omega) (by omega) (by omega) (by omega) (by omega)]; exact rfo_k o h w
  · rw [show fcls o = 0 from fcls_0 o (by omega) (by omega) (by omega) (by omega) (by omega) (by omega) (by omega)]; exact rfo_l o h w
  · rw [show fcls o = 0 from fcls_0 o (by omega) (by omega) (by omega) (by omega) (by omega) (by omega) (by omega)]; exact rfo_m o h w
  · rw [show fcls o = 0 from fcls_0 o (by omega) (by omega) (by omega) (by omega) (by omega) (by omega) (by omega)]; exact rfo_n o h w
  · rw [show fcls o = 0 from fcls_0 o (by omega) (by omega) (by omega) (by omega) (by omega) (by omega) (by omega)]; exact rfo_o o h w
  · rw [show fcls o = 0 from fcls_0 o (by omega) (by omega) (by omega) (by omega) (by omega) (by omega) (by omega)]; exact rfo_p o h w
  · exact rfo_v0 w
  · exact rfo_v1 w
  · exact rfo_v2 w
  · exact rfo_v3 w
  · exact rfo_v4 w
  · exact rfo_v5 w
  · exact rfo_v6 w
  · exact rfo_v7 w
  · exact rfo_v8 w
  · exact rfo_v9 w
  · exact rfo_v10 w
  · exact rfo_v11 w
  · exact rfo_v12 w
  · exact rfo_v13 w
  · exact rfo_v14 w
  · exact rfo_v15 w
  · exact rfo_v97 w
  · exact rfo_v96 w
end Go.Proofs.Ytcjcmnnhmajocab.Ho
