/- Lemmas. -/
import Derived.LoopN
import Derived.Test.YtcjcmnnhmajocabPgac
import Derived.Test.YtcjcmnnhmajocabPgag
namespace Go.Proofs.Ytcjcmnnhmajocab.Ho
open Go.RowKit Kt
set_option linter.unusedVariables false
set_option linter.unusedSimpArgs false
set_option maxHeartbeats 4000000 in
theorem has_n_n (w : World) : Calls Try.prog 98 #[.string { data := #[110] }, .int .u8 110] w fun e w' => e = .returned (.bool true) ∧ w = w' := by
  have e0 : (((({ data := #[110] } : ByteArray)[0]'(by decide)).toNat : Int) == 110) = true := rfl
  go_enter Try.func98, Try.ntmps98
  go_wp2
  refine wp_loop_rounds 1 ?_
  rw [rounds_succ]; go_wp2
  go_ret
  exact ⟨rfl, rfl⟩
set_option maxHeartbeats 4000000 in
theorem has_d_d (w : World) : Calls Try.prog 98 #[.string { data := #[100] }, .int .u8 100] w fun e w' => e = .returned (.bool true) ∧ w = w' := by
  have e0 : (((({ data := #[100] } : ByteArray)[0]'(by decide)).toNat : Int) == 100) = true := rfl
  go_enter Try.func98, Try.ntmps98
  go_wp2
  refine wp_loop_rounds 1 ?_
  rw [rounds_succ]; go_wp2
  go_ret
  exact ⟨rfl, rfl⟩
set_option maxHeartbeats 4000000 in
theorem has_da_d (w : World) : Calls Try.prog 98 #[.string { data := #[100, 97] }, .int .u8 100] w fun e w' => e = .returned (.bool true) ∧ w = w' := by
  have e0 : (((({ data := #[100, 97] } : ByteArray)[0]'(by decide)).toNat : Int) == 100) = true := rfl
  go_enter Try.func98, Try.ntmps98
  go_wp2
  refine wp_loop_rounds 1 ?_
  rw [rounds_succ]; go_wp2
  go_ret
  exact ⟨rfl, rfl⟩
set_option maxHeartbeats 4000000 in
theorem has_da_a (w : World) : Calls Try.prog 98 #[.string { data := #[100, 97] }, .int .u8 97] w fun e w' => e = .returned (.bool true) ∧ w = w' := by
  have e0 : (((({ data := #[100, 97] } : ByteArray)[0]'(by decide)).toNat : Int) == 97) = false := rfl
  have e1 : (((({ data := #[100, 97] } : ByteArray)[1]'(by decide)).toNat : Int) == 97) = true := rfl
  go_enter Try.func98, Try.ntmps98
  go_wp2
  refine wp_loop_rounds 2 ?_
  rw [rounds_succ]; go_wp2
  rw [rounds_succ]; go_wp2
  go_ret
  exact ⟨rfl, rfl⟩
set_option maxHeartbeats 4000000 in
theorem has_an_a (w : World) : Calls Try.prog 98 #[.string { data := #[97, 110] }, .int .u8 97] w fun e w' => e = .returned (.bool true) ∧ w = w' := by
  have e0 : (((({ data := #[97, 110] } : ByteArray)[0]'(by decide)).toNat : Int) == 97) = true := rfl
  go_enter Try.func98, Try.ntmps98
  go_wp2
  refine wp_loop_rounds 1 ?_
  rw [rounds_succ]; go_wp2
  go_ret
  exact ⟨rfl, rfl⟩
set_option maxHeartbeats 4000000 in
theorem has_an_n (w : World) : Calls Try.prog 98 #[.string { data := #[97, 110] }, .int .u8 110] w fun e w' => e = .returned (.bool true) ∧ w = w' := by
  have e0 : (((({ data := #[97, 110] } : ByteArray)[0]'(by decide)).toNat : Int) == 110) = false := rfl
  have e1 : (((({ data := #[97, 110] } : ByteArray)[1]'(by decide)).toNat : Int) == 110) = true := rfl
  go_enter Try.func98, Try.ntmps98
  go_wp2
  refine wp_loop_rounds 2 ?_
  rw [rounds_succ]; go_wp2
  rw [rounds_succ]; go_wp2
  go_ret
  exact ⟨rfl, rfl⟩
set_option maxHeartbeats 4000000 in
theorem has_dabc_d (w : World) : Calls Try.prog 98 #[.string { data := #[100, 97, 98, 99] }, .int .u8 100] w fun e w' => e = .returned (.bool true) ∧ w = w' := by
  have e0 : (((({ data := #[100, 97, 98, 99] } : ByteArray)[0]'(by decide)).toNat : Int) == 100) = true := rfl
  go_enter Try.func98, Try.ntmps98
  go_wp2
  refine wp_loop_rounds 1 ?_
  rw [rounds_succ]; go_wp2
  go_ret
  exact ⟨rfl, rfl⟩
set_option maxHeartbeats 4000000 in
theorem has_dabc_a (w : World) : Calls Try.prog 98 #[.string { data := #[100, 97, 98, 99] }, .int .u8 97] w fun e w' => e = .returned (.bool true) ∧ w = w' := by
  have e0 : (((({ data := #[100, 97, 98, 99] } : ByteArray)[0]'(by decide)).toNat : Int) == 97) = false := rfl
  have e1 : (((({ data := #[100, 97, 98, 99] } : ByteArray)[1]'(by decide)).toNat : Int) == 97) = true := rfl
  go_enter Try.func98, Try.ntmps98
  go_wp2
  refine wp_loop_rounds 2 ?_
  rw [rounds_succ]; go_wp2
  rw [rounds_succ]; go_wp2
  go_ret
  exact ⟨rfl, rfl⟩
set_option maxHeartbeats 4000000 in
theorem has_dabc_b (w : World) : Calls Try.prog 98 #[.string { data := #[100, 97, 98, 99] }, .int .u8 98] w fun e w' => e = .returned (.bool true) ∧ w = w' := by
  have e0 : (((({ data := #[100, 97, 98, 99] } : ByteArray)[0]'(by decide)).toNat : Int) == 98) = false := rfl
  have e1 : (((({ data := #[100, 97, 98, 99] } : ByteArray)[1]'(by decide)).toNat : Int) == 98) = false := rfl
  have e2 : (((({ data := #[100, 97, 98, 99] } : ByteArray)[2]'(by decide)).toNat : Int) == 98) = true := rfl
  go_enter Try.func98, Try.ntmps98
  go_wp2
  refine wp_loop_rounds 3 ?_
  rw [rounds_succ]; go_wp2
  rw [rounds_succ]; go_wp2
  rw [rounds_succ]; go_wp2
  go_ret
  exact ⟨rfl, rfl⟩
set_option maxHeartbeats 4000000 in
theorem has_dabc_c (w : World) : Calls Try.prog 98 #[.string { data := #[100, 97, 98, 99] }, .int .u8 99] w fun e w' => e = .returned (.bool true) ∧ w = w' := by
  have e0 : (((({ data := #[100, 97, 98, 99] } : ByteArray)[0]'(by decide)).toNat : Int) == 99) = false := rfl
  have e1 : (((({ data := #[100, 97, 98, 99] } : ByteArray)[1]'(by decide)).toNat : Int) == 99) = false := rfl
  have e2 : (((({ data := #[100, 97, 98, 99] } : ByteArray)[2]'(by decide)).toNat : Int) == 99) = false := rfl
  have e3 : (((({ data := #[100, 97, 98, 99] } : ByteArray)[3]'(by decide)).toNat : Int) == 99) = true := rfl
  go_enter Try.func98, Try.ntmps98
  go_wp2
  refine wp_loop_rounds 4 ?_
  rw [rounds_succ]; go_wp2
  rw [rounds_succ]; go_wp2
  rw [rounds_succ]; go_wp2
  rw [rounds_succ]; go_wp2
  go_ret
  exact ⟨rfl, rfl⟩
set_option maxHeartbeats 4000000 in
theorem has_dn_d (w : World) : Calls Try.prog 98 #[.string { data := #[100, 110] }, .int .u8 100] w fun e w' => e = .returned (.bool true) ∧ w = w' := by
  have e0 : (((({ data := #[100, 110] } : ByteArray)[0]'(by decide)).toNat : Int) == 100) = true := rfl
  go_enter Try.func98, Try.ntmps98
  go_wp2
  refine wp_loop_rounds 1 ?_
  rw [rounds_succ]; go_wp2
  go_ret
  exact ⟨rfl, rfl⟩
set_option maxHeartbeats 4000000 in
theorem has_dn_n (w : World) : Calls Try.prog 98 #[.string { data := #[100, 110] }, .int .u8 110] w fun e w' => e = .returned (.bool true) ∧ w = w' := by
  have e0 : (((({ data := #[100, 110] } : ByteArray)[0]'(by decide)).toNat : Int) == 110) = false := rfl
  have e1 : (((({ data := #[100, 110] } : ByteArray)[1]'(by decide)).toNat : Int) == 110) = true := rfl
  go_enter Try.func98, Try.ntmps98
  go_wp2
  refine wp_loop_rounds 2 ?_
  rw [rounds_succ]; go_wp2
  rw [rounds_succ]; go_wp2
  go_ret
  exact ⟨rfl, rfl⟩
set_option maxHeartbeats 4000000 in
theorem has_dan_d (w : World) : Calls Try.prog 98 #[.string { data := #[100, 97, 110] }, .int .u8 100] w fun e w' => e = .returned (.bool true) ∧ w = w' := by
  have e0 : (((({ data := #[100, 97, 110] } : ByteArray)[0]'(by decide)).toNat : Int) == 100) = true := rfl
  go_enter Try.func98, Try.ntmps98
  go_wp2
  refine wp_loop_rounds 1 ?_
  rw [rounds_succ]; go_wp2
  go_ret
  exact ⟨rfl, rfl⟩
set_option maxHeartbeats 4000000 in
theorem has_dan_a (w : World) : Calls Try.prog 98 #[.string { data := #[100, 97, 110] }, .int .u8 97] w fun e w' => e = .returned (.bool true) ∧ w = w' := by
  have e0 : (((({ data := #[100, 97, 110] } : ByteArray)[0]'(by decide)).toNat : Int) == 97) = false := rfl
  have e1 : (((({ data := #[100, 97, 110] } : ByteArray)[1]'(by decide)).toNat : Int) == 97) = true := rfl
  go_enter Try.func98, Try.ntmps98
  go_wp2
  refine wp_loop_rounds 2 ?_
  rw [rounds_succ]; go_wp2
  rw [rounds_succ]; go_wp2
  go_ret
  exact ⟨rfl, rfl⟩
set_option maxHeartbeats 4000000 in
theorem has_dan_n (w : World) : Calls Try.prog 98 #[.string { data := #[100, 97, 110] }, .int .u8 110] w fun e w' => e = .returned (.bool true) ∧ w = w' := by
  have e0 : (((({ data := #[100, 97, 110] } : ByteArray)[0]'(by decide)).toNat : Int) == 110) = false := rfl
  have e1 : (((({ data := #[100, 97, 110] } : ByteArray)[1]'(by decide)).toNat : Int) == 110) = false := rfl
  have e2 : (((({ data := #[100, 97, 110] } : ByteArray)[2]'(by decide)).toNat : Int) == 110) = true := rfl
  go_enter Try.func98, Try.ntmps98
  go_wp2
  refine wp_loop_rounds 3 ?_
  rw [rounds_succ]; go_wp2
  rw [rounds_succ]; go_wp2
  rw [rounds_succ]; go_wp2
  go_ret
  exact ⟨rfl, rfl⟩
set_option maxHeartbeats 4000000 in
theorem has_dab_d (w : World) : Calls Try.prog 98 #[.string { data := #[100, 97, 98] }, .int .u8 100] w fun e w' => e = .returned (.bool true) ∧ w = w' := by
  have e0 : (((({ data := #[100, 97, 98] } : ByteArray)[0]'(by decide)).toNat : Int) == 100) = true := rfl
  go_enter Try.func98, Try.ntmps98
  go_wp2
  refine wp_loop_rounds 1 ?_
  rw [rounds_succ]; go_wp2
  go_ret
  exact ⟨rfl, rfl⟩
set_option maxHeartbeats 4000000 in
theorem has_dab_a (w : World) : Calls Try.prog 98 #[.string { data := #[100, 97, 98] }, .int .u8 97] w fun e w' => e = .returned (.bool true) ∧ w = w' := by
  have e0 : (((({ data := #[100, 97, 98] } : ByteArray)[0]'(by decide)).toNat : Int) == 97) = false := rfl
  have e1 : (((({ data := #[100, 97, 98] } : ByteArray)[1]'(by decide)).toNat : Int) == 97) = true := rfl
  go_enter Try.func98, Try.ntmps98
  go_wp2
  refine wp_loop_rounds 2 ?_
  rw [rounds_succ]; go_wp2
  rw [rounds_succ]; go_wp2
  go_ret
  exact ⟨rfl, rfl⟩
set_option maxHeartbeats 4000000 in
theorem has_dab_b (w : World) : Calls Try.prog 98 #[.string { data := #[100, 97, 98] }, .int .u8 98] w fun e w' => e = .returned (.bool true) ∧ w = w' := by
  have e0 : (((({ data := #[100, 97, 98] } : ByteArray)[0]'(by decide)).toNat : Int) == 98) = false := rfl
  have e1 : (((({ data := #[100, 97, 98] } : ByteArray)[1]'(by decide)).toNat : Int) == 98) = false := rfl
  have e2 : (((({ data := #[100, 97, 98] } : ByteArray)[2]'(by decide)).toNat : Int) == 98) = true := rfl
  go_enter Try.func98, Try.ntmps98
  go_wp2
  refine wp_loop_rounds 3 ?_
  rw [rounds_succ]; go_wp2
  rw [rounds_succ]; go_wp2
  rw [rounds_succ]; go_wp2
  go_ret
  exact ⟨rfl, rfl⟩
set_option maxHeartbeats 4000000 in
theorem has_n (c : Int) (w : World) : Calls Try.prog 98 #[.string { data := #[110] }, .int .u8 c] w fun e w' => e = .returned (.bool (c == 110)) ∧ w = w' := by
  by_cases hn : c = 110
  · subst hn; exact has_n_n w
  have e0 : (((({ data := #[110] } : ByteArray)[0]'(by decide)).toNat : Int) == c) = false := by show ((110 : Int) == c) = false; simp; omega
  have g0 : (c == 110) = false := by simp; omega
  simp only [g0, Bool.or_self]
  clear g0 hn
  go_enter Try.func98, Try.ntmps98
  go_wp2
  refine wp_loop_rounds 2 ?_
  rw [rounds_succ]; go_wp2
  rw [rounds_succ]; go_wp2
  go_ret
  exact ⟨rfl, rfl⟩
set_option maxHeartbeats 4000000 in
theorem has_d (c : Int) (w : World) : Calls Try.prog 98 #[.string { data := #[100] }, .int .u8 c] w fun e w' => e = .returned (.bool (c == 100)) ∧ w = w' := by
  by_cases hd : c = 100
  · subst hd; exact has_d_d w
  have e0 : (((({ data := #[100] } : ByteArray)[0]'(by decide)).toNat : Int) == c) = false := by show ((100 : Int) == c) = false; simp; omega
  have g0 : (c == 100) = false := by simp; omega
  simp only [g0, Bool.or_self]
  clear g0 hd
  go_enter Try.func98, Try.ntmps98
  go_wp2
  refine wp_loop_rounds 2 ?_
  rw [rounds_succ]; go_wp2
  rw [rounds_succ]; go_wp2
  go_ret
  exact ⟨rfl, rfl⟩
set_option maxHeartbeats 4000000 in
theorem has_da (c : Int) (w : World) : Calls Try.prog 98 #[.string { data := #[100, 97] }, .int .u8 c] w fun e w' => e = .returned (.bool (c == 100 || c == 97)) ∧ w = w' := by
  by_cases hd : c = 100
  · subst hd; exact has_da_d w
  by_cases ha : c = 97
  · subst ha; exact has_da_a w
  have e0 : (((({ data := #[100, 97] } : ByteArray)[0]'(by decide)).toNat : Int) == c) = false := by show ((100 : Int) == c) = false; simp; omega
  have g0 : (c == 100) = false := by simp; omega
  have e1 : (((({ data := #[100, 97] } : ByteArray)[1]'(by decide)).toNat : Int) == c) = false := by show ((97 : Int) == c) = false; simp; omega
  have g1 : (c == 97) = false := by simp; omega
  simp only [g0, g1, Bool.or_self]
  clear g0 g1 hd ha
  go_enter Try.func98, Try.ntmps98
  go_wp2
  refine wp_loop_rounds 3 ?_
  rw [rounds_succ]; go_wp2
  rw [rounds_succ]; go_wp2
  rw [rounds_succ]; go_wp2
  go_ret
  exact ⟨rfl, rfl⟩
set_option maxHeartbeats 4000000 in
theorem has_an (c : Int) (w : World) : Calls Try.prog 98 #[.string { data := #[97, 110] }, .int .u8 c] w fun e w' => e = .returned (.bool (c == 97 || c == 110)) ∧ w = w' := by
  by_cases ha : c = 97
  · subst ha; exact has_an_a w
  by_cases hn : c = 110
  · subst hn; exact has_an_n w
  have e0 : (((({ data := #[97, 110] } : ByteArray)[0]'(by decide)).toNat : Int) == c) = false := by show ((97 : Int) == c) = false; simp; omega
  have g0 : (c == 97) = false := by simp; omega
  have e1 : (((({ data := #[97, 110] } : ByteArray)[1]'(by decide)).toNat : Int) == c) = false := by show ((110 : Int) == c) = false; simp; omega
  have g1 : (c == 110) = false := by simp; omega
  simp only [g0, g1, Bool.or_self]
  clear g0 g1 ha hn
  go_enter Try.func98, Try.ntmps98
  go_wp2
  refine wp_loop_rounds 3 ?_
  rw [rounds_succ]; go_wp2
  rw [rounds_succ]; go_wp2
  rw [rounds_succ]; go_wp2
  go_ret
  exact ⟨rfl, rfl⟩
set_option maxHeartbeats 4000000 in
theorem has_dabc (c : Int) (w : World) : Calls Try.prog 98 #[.string { data := #[100, 97, 98, 99] }, .int .u8 c] w fun e w' => e = .returned (.bool (c == 100 || c == 97 || c == 98 || c == 99)) ∧ w = w' := by
  by_cases hd : c = 100
  · subst hd; exact has_dabc_d w
  by_cases ha : c = 97
  · subst ha; exact has_dabc_a w
  by_cases hb : c = 98
  · subst hb; exact has_dabc_b w
  by_cases hc : c = 99
  · subst hc; exact has_dabc_c w
  have e0 : (((({ data := #[100, 97, 98, 99] } : ByteArray)[0]'(by decide)).toNat : Int) == c) = false := by show ((100 : Int) == c) = false; simp; omega
  have g0 : (c == 100) = false := by simp; omega
  have e1 : (((({ data := #[100, 97, 98, 99] } : ByteArray)[1]'(by decide)).toNat : Int) == c) = false := by show ((97 : Int) == c) = false; simp; omega
  have g1 : (c == 97) = false := by simp; omega
  have e2 : (((({ data := #[100, 97, 98, 99] } : ByteArray)[2]'(by decide)).toNat : Int) == c) = false := by show ((98 : Int) == c) = false; simp; omega
  have g2 : (c == 98) = false := by simp; omega
  have e3 : (((({ data := #[100, 97, 98, 99] } : ByteArray)[3]'(by decide)).toNat : Int) == c) = false := by show ((99 : Int) == c) = false; simp; omega
  have g3 : (c == 99) = false := by simp; omega
  simp only [g0, g1, g2, g3, Bool.or_self]
  clear g0 g1 g2 g3 hd ha hb hc
  go_enter Try.func98, Try.ntmps98
  go_wp2
  refine wp_loop_rounds 5 ?_
  rw [rounds_succ]; go_wp2
  rw [rounds_succ]; go_wp2
  rw [rounds_succ]; go_wp2
  rw [rounds_succ]; go_wp2
  rw [rounds_succ]; go_wp2
  go_ret
  exact ⟨rfl, rfl⟩
set_option maxHeartbeats 4000000 in
theorem has_dn (c : Int) (w : World) : Calls Try.prog 98 #[.string { data := #[100, 110] }, .int .u8 c] w fun e w' => e = .returned (.bool (c == 100 || c == 110)) ∧ w = w' := by
  by_cases hd : c = 100
  · subst hd; exact has_dn_d w
  by_cases hn : c = 110
  · subst hn; exact has_dn_n w
  have e0 : (((({ data := #[100, 110] } : ByteArray)[0]'(by decide)).toNat : Int) == c) = false := by show ((100 : Int) == c) = false; simp; omega
  have g0 : (c == 100) = false := by simp; omega
  have e1 : (((({ data := #[100, 110] } : ByteArray)[1]'(by decide)).toNat : Int) == c) = false := by show ((110 : Int) == c) = false; simp; omega
  have g1 : (c == 110) = false := by simp; omega
  simp only [g0, g1, Bool.or_self]
  clear g0 g1 hd hn
  go_enter Try.func98, Try.ntmps98
  go_wp2
  refine wp_loop_rounds 3 ?_
  rw [rounds_succ]; go_wp2
  rw [rounds_succ]; go_wp2
  rw [rounds_succ]; go_wp2
  go_ret
  exact ⟨rfl, rfl⟩
set_option maxHeartbeats 4000000 in
theorem has_dan (c : Int) (w : World) : Calls Try.prog 98 #[.string { data := #[100, 97, 110] }, .int .u8 c] w fun e w' => e = .returned (.bool (c == 100 || c == 97 || c == 110)) ∧ w = w' := by
  by_cases hd : c = 100
  · subst hd; exact has_dan_d w
  by_cases ha : c = 97
  · subst ha; exact has_dan_a w
  by_cases hn : c = 110
  · subst hn; exact has_dan_n w
  have e0 : (((({ data := #[100, 97, 110] } : ByteArray)[0]'(by decide)).toNat : Int) == c) = false := by show ((100 : Int) == c) = false; simp; omega
  have g0 : (c == 100) = false := by simp; omega
  have e1 : (((({ data := #[100, 97, 110] } : ByteArray)[1]'(by decide)).toNat : Int) == c) = false := by show ((97 : Int) == c) = false; simp; omega
  have g1 : (c == 97) = false := by simp; omega
  have e2 : (((({ data := #[100, 97, 110] } : ByteArray)[2]'(by decide)).toNat : Int) == c) = false := by show ((110 : Int) == c) = false; simp; omega
  have g2 : (c == 110) = false := by simp; omega
  simp only [g0, g1, g2, Bool.or_self]
  clear g0 g1 g2 hd ha hn
  go_enter Try.func98, Try.ntmps98
  go_wp2
  refine wp_loop_rounds 4 ?_
  rw [rounds_succ]; go_wp2
  rw [rounds_succ]; go_wp2
  rw [rounds_succ]; go_wp2
  rw [rounds_succ]; go_wp2
  go_ret
  exact ⟨rfl, rfl⟩
set_option maxHeartbeats 4000000 in
theorem has_dab (c : Int) (w : World) : Calls Try.prog 98 #[.string { data := #[100, 97, 98] }, .int .u8 c] w fun e w' => e = .returned (.bool (c == 100 || c == 97 || c == 98)) ∧ w = w' := by
  by_cases hd : c = 100
  · subst hd; exact has_dab_d w
  by_cases ha : c = 97
  · subst ha; exact has_dab_a w
  by_cases hb : c = 98
  · subst hb; exact has_dab_b w
  have e0 : (((({ data := #[100, 97, 98] } : ByteArray)[0]'(by decide)).toNat : Int) == c) = false := by show ((100 : Int) == c) = false; simp; omega
  have g0 : (c == 100) = false := by simp; omega
  have e1 : (((({ data := #[100, 97, 98] } : ByteArray)[1]'(by decide)).toNat : Int) == c) = false := by show ((97 : Int) == c) = false; simp; omega
  have g1 : (c == 97) = false := by simp; omega
  have e2 : (((({ data := #[100, 97, 98] } : ByteArray)[2]'(by decide)).toNat : Int) == c) = false := by show ((98 : Int) == c) = false; simp; omega
  have g2 : (c == 98) = false := by simp; omega
  simp only [g0, g1, g2, Bool.or_self]
  clear g0 g1 g2 hd ha hb
  go_enter Try.func98, Try.ntmps98
  go_wp2
  refine wp_loop_rounds 4 ?_
  rw [rounds_succ]; go_wp2
  rw [rounds_succ]; go_wp2
  rw [rounds_succ]; go_wp2
  rw [rounds_succ]; go_wp2
  go_ret
  exact ⟨rfl, rfl⟩
end Go.Proofs.Ytcjcmnnhmajocab.Ho
namespace Go.Proofs.Ytcjcmnnhmajocab.Ho
open Go.RowKit Kt
set_option linter.unusedVariables false
set_option linter.unusedSimpArgs false
theorem rint {k : IntKind} {a b : Int} (h : a = b) : Ending.returned (.int k a) = .returned (.int k b) := by rw [h]
set_option maxHeartbeats 4000000 in
theorem first_any (o d a b c n k x : Int) (w : World) : Calls Try.prog 99 #[.agg #[.int .i64 o, .int .i64 d, .int .i64 a, .int .i64 b, .int .i64 c, .int .i64 n, .int .u32 k, .int .u32 x]] w fun e w' => e = .returned (.int .u32 ((o + 256 * d + 4096 * a + 65536 * b + 1048576 * c + 65536 * n) % 4294967296)) ∧ Below w.heap.size w w' := by
  go_enter Try.func99, Try.ntmps99
  go_wp2
  go_ret
  refine ⟨rint ?_, (Below.refl _ _).alloc (Nat.le_refl _) _⟩
  omega
theorem fin26 {W : World} {tmps : Array Value} {T : Nat} {o d a b c n k x m e : Int} (hT : W.heap[T]? = some (.cells (cod o d a b c n k x) 108 (0, 0))) (h4 : tmps.getD 4 undef = .pointer (some ⟨T, 0, none⟩)) (h5 : tmps.getD 5 undef = .int .i64 m) (h6 : tmps.getD 6 undef = .int .i64 e) :
    (results Try.f53 tmps).run Try.prog W = .ok (.tuple #[.agg (cod o d a b c n k x), .int .i64 m, .int .i64 e]) W := by
  have kT := (cells_of hT).1
  simp only [Array.getD_eq_getD_getElem?] at h4 h5 h6
  simp [results, Try.results53, h4, h5, h6, go_sem, kT, cod]
theorem rend_any {w W : World} {a : Act} {v : Value} {o d r b c n k x m e : Int} (hT : W.heap[w.heap.size]? = some (.cells zer 108 (0, 0))) (hB : Below w.heap.size w W) (hv : v = .tuple #[.agg (cod o d r b c n k x), .int .i64 m, .int .i64 e])
    (h4 : a.tmps.getD 4 undef = .pointer (some ⟨w.heap.size, 0, none⟩)) (h5 : a.tmps.getD 5 undef = .int .i64 m) (h6 : a.tmps.getD 6 undef = .int .i64 e) (hd : a.defers = []) :
    bodyPost Try.prog Try.f53 (fun e w' => e = .returned v ∧ Below w.heap.size w w') .ret a
      ((((((((W.setCell ⟨w.heap.size, 0, none⟩ (.int .i64 o)).setCell ⟨w.heap.size, 1, none⟩ (.int .i64 d)).setCell ⟨w.heap.size, 2, none⟩ (.int .i64 r)).setCell ⟨w.heap.size, 3, none⟩ (.int .i64 b)).setCell ⟨w.heap.size, 4, none⟩ (.int .i64 c)).setCell ⟨w.heap.size, 5, none⟩ (.int .i64 n)).setCell ⟨w.heap.size, 6, none⟩ (.int .u32 k)).setCell ⟨w.heap.size, 7, none⟩ (.int .u32 x)) := by
  subst hv
  exact bodyPost_ret (fin26 (set8 hT rfl _ _ _ _ _ _ _ _) h4 h5 h6) hd ⟨rfl, set8_below hB (Nat.le_refl _) _ _ _ _ _ _ _ _⟩
theorem behindT {w w1 : World} {A B : Array Value} {ta tb : TypeId} (hb1 : Below ((w.alloc (.cells A ta)).alloc (.cells B tb)).heap.size ((w.alloc (.cells A ta)).alloc (.cells B tb)) w1) :
    w1.heap[w.heap.size]? = some (.cells A ta (0, 0)) := by
  rw [hb1.block _ (by simp; omega), Below.heap_alloc _ _ _ (by simp)]
  exact heap_alloc_new w _
theorem fsm14 {o : Int} (h : fsm o = 14) : o = 12 := by
  by_cases a0 : o = 0
  · subst a0; exact absurd h (by decide)
  by_cases a1 : o = 1
  · subst a1; exact absurd h (by decide)
  by_cases a2 : o = 2
  · subst a2; exact absurd h (by decide)
  by_cases a4 : o = 4
  · subst a4; exact absurd h (by decide)
  by_cases a6 : o = 6
  · subst a6; exact absurd h (by decide)
  by_cases a7 : o = 7
  · subst a7; exact absurd h (by decide)
  by_cases a8 : o = 8
  · subst a8; exact absurd h (by decide)
  by_cases a9 : o = 9
  · subst a9; exact absurd h (by decide)
  by_cases a10 : o = 10
  · subst a10; exact absurd h (by decide)
  by_cases a11 : o = 11
  · subst a11; exact absurd h (by decide)
  by_cases a12 : o = 12
  · exact a12
  by_cases a13 : o = 13
  · subst a13; exact absurd h (by decide)
  by_cases a14 : o = 14
  · subst a14; exact absurd h (by decide)
  by_cases a15 : o = 15
  · subst a15; exact absurd h (by decide)
  unfold fsm at h
  rw [if_neg a0, if_neg a1, if_neg a2, if_neg a4, if_neg a6, if_neg a7, if_neg a8, if_neg a9, if_neg a10, if_neg a11, if_neg a12, if_neg a13, if_neg a14, if_neg a15] at h
  exact absurd h (by decide)
theorem fcls14 {o : Int} (h : fcls o = 14) : o = 12 := by
  by_cases b1 : 16 ≤ o ∧ o < 32
  · rw [fcls_1 o b1] at h; exact absurd h (by decide)
  by_cases b2 : 32 ≤ o ∧ o < 39 ∨ 64 ≤ o ∧ o < 80 ∨ o = 3
  · rw [fcls_2 o b2] at h; exact absurd h (by decide)
  by_cases b3 : 48 ≤ o ∧ o < 61 ∨ o = 5
  · rw [fcls_3 o b3] at h; exact absurd h (by decide)
  by_cases b4 : 80 ≤ o ∧ o < 85 ∨ 88 ≤ o ∧ o < 91
  · rw [fcls_4 o b4] at h; exact absurd h (by decide)
  by_cases b5 : o = 97
  · rw [fcls_5 o b5] at h; exact absurd h (by decide)
  by_cases b6 : o = 96
  · rw [fcls_6 o b6] at h; exact absurd h (by decide)
  rw [fsm_of o b1 b2 b3 b4 b5 b6] at h
  exact fsm14 h
theorem fsm15 {o : Int} (h : fsm o = 15) : o = 13 := by
  by_cases a0 : o = 0
  · subst a0; exact absurd h (by decide)
  by_cases a1 : o = 1
  · subst a1; exact absurd h (by decide)
  by_cases a2 : o = 2
  · subst a2; exact absurd h (by decide)
  by_cases a4 : o = 4
  · subst a4; exact absurd h (by decide)
  by_cases a6 : o = 6
  · subst a6; exact absurd h (by decide)
  by_cases a7 : o = 7
  · subst a7; exact absurd h (by decide)
  by_cases a8 : o = 8
  · subst a8; exact absurd h (by decide)
  by_cases a9 : o = 9
  · subst a9; exact absurd h (by decide)
  by_cases a10 : o = 10
  · subst a10; exact absurd h (by decide)
  by_cases a11 : o = 11
  · subst a11; exact absurd h (by decide)
  by_cases a12 : o = 12
  · subst a12; exact absurd h (by decide)
  by_cases a13 : o = 13
  · exact a13
  by_cases a14 : o = 14
  · subst a14; exact absurd h (by decide)
  by_cases a15 : o = 15
  · subst a15; exact absurd h (by decide)
  unfold fsm at h
  rw [if_neg a0, if_neg a1, if_neg a2, if_neg a4, if_neg a6, if_neg a7, if_neg a8, if_neg a9, if_neg a10, if_neg a11, if_neg a12, if_neg a13, if_neg a14, if_neg a15] at h
  exact absurd h (by decide)
theorem fcls15 {o : Int} (h : fcls o = 15) : o = 13 := by
  by_cases b1 : 16 ≤ o ∧ o < 32
  · rw [fcls_1 o b1] at h; exact absurd h (by decide)
  by_cases b2 : 32 ≤ o ∧ o < 39 ∨ 64 ≤ o ∧ o < 80 ∨ o = 3
  · rw [fcls_2 o b2] at h; exact absurd h (by decide)
  by_cases b3 : 48 ≤ o ∧ o < 61 ∨ o = 5
  · rw [fcls_3 o b3] at h; exact absurd h (by decide)
  by_cases b4 : 80 ≤ o ∧ o < 85 ∨ 88 ≤ o ∧ o < 91
  · rw [fcls_4 o b4] at h; exact absurd h (by decide)
  by_cases b5 : o = 97
  · rw [fcls_5 o b5] at h; exact absurd h (by decide)
  by_cases b6 : o = 96
  · rw [fcls_6 o b6] at h; exact absurd h (by decide)
  rw [fsm_of o b1 b2 b3 b4 b5 b6] at h
  exact fsm15 h
end Go.Proofs.Ytcjcmnnhmajocab.Ho
