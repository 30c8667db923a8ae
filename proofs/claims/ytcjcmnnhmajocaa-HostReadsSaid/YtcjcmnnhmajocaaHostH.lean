import Derived.Test.YtcjcmnnhmajocaaHostR
import Derived.LoopN
namespace Go.Proofs.Ytcjcmnnhmajocaa.Ho
open Go.RowKit Kt
set_option linter.unusedVariables false
set_option linter.unusedSimpArgs false
set_option maxHeartbeats 4000000 in
theorem has_n_d (w : World) : Calls Try.prog 59 #[.string { data := #[110] }, .int .u8 100] w fun e w' => e = .returned (.bool false) ∧ w = w' := by
  have e0 : (((({ data := #[110] } : ByteArray)[0]'(by decide)).toNat : Int) == 100) = false := rfl
  go_enter Try.func59, Try.ntmps59
  go_wp2
  refine wp_loop_rounds 2 ?_
  rw [rounds_succ]; go_wp2
  rw [rounds_succ]; go_wp2
  go_ret
  exact ⟨rfl, rfl⟩
set_option maxHeartbeats 4000000 in
theorem has_n_a (w : World) : Calls Try.prog 59 #[.string { data := #[110] }, .int .u8 97] w fun e w' => e = .returned (.bool false) ∧ w = w' := by
  have e0 : (((({ data := #[110] } : ByteArray)[0]'(by decide)).toNat : Int) == 97) = false := rfl
  go_enter Try.func59, Try.ntmps59
  go_wp2
  refine wp_loop_rounds 2 ?_
  rw [rounds_succ]; go_wp2
  rw [rounds_succ]; go_wp2
  go_ret
  exact ⟨rfl, rfl⟩
set_option maxHeartbeats 4000000 in
theorem has_n_b (w : World) : Calls Try.prog 59 #[.string { data := #[110] }, .int .u8 98] w fun e w' => e = .returned (.bool false) ∧ w = w' := by
  have e0 : (((({ data := #[110] } : ByteArray)[0]'(by decide)).toNat : Int) == 98) = false := rfl
  go_enter Try.func59, Try.ntmps59
  go_wp2
  refine wp_loop_rounds 2 ?_
  rw [rounds_succ]; go_wp2
  rw [rounds_succ]; go_wp2
  go_ret
  exact ⟨rfl, rfl⟩
set_option maxHeartbeats 4000000 in
theorem has_n_c (w : World) : Calls Try.prog 59 #[.string { data := #[110] }, .int .u8 99] w fun e w' => e = .returned (.bool false) ∧ w = w' := by
  have e0 : (((({ data := #[110] } : ByteArray)[0]'(by decide)).toNat : Int) == 99) = false := rfl
  go_enter Try.func59, Try.ntmps59
  go_wp2
  refine wp_loop_rounds 2 ?_
  rw [rounds_succ]; go_wp2
  rw [rounds_succ]; go_wp2
  go_ret
  exact ⟨rfl, rfl⟩
set_option maxHeartbeats 4000000 in
theorem has_n_n (w : World) : Calls Try.prog 59 #[.string { data := #[110] }, .int .u8 110] w fun e w' => e = .returned (.bool true) ∧ w = w' := by
  have e0 : (((({ data := #[110] } : ByteArray)[0]'(by decide)).toNat : Int) == 110) = true := rfl
  go_enter Try.func59, Try.ntmps59
  go_wp2
  refine wp_loop_rounds 1 ?_
  rw [rounds_succ]; go_wp2
  go_ret
  exact ⟨rfl, rfl⟩
set_option maxHeartbeats 4000000 in
theorem has_d_d (w : World) : Calls Try.prog 59 #[.string { data := #[100] }, .int .u8 100] w fun e w' => e = .returned (.bool true) ∧ w = w' := by
  have e0 : (((({ data := #[100] } : ByteArray)[0]'(by decide)).toNat : Int) == 100) = true := rfl
  go_enter Try.func59, Try.ntmps59
  go_wp2
  refine wp_loop_rounds 1 ?_
  rw [rounds_succ]; go_wp2
  go_ret
  exact ⟨rfl, rfl⟩
set_option maxHeartbeats 4000000 in
theorem has_d_a (w : World) : Calls Try.prog 59 #[.string { data := #[100] }, .int .u8 97] w fun e w' => e = .returned (.bool false) ∧ w = w' := by
  have e0 : (((({ data := #[100] } : ByteArray)[0]'(by decide)).toNat : Int) == 97) = false := rfl
  go_enter Try.func59, Try.ntmps59
  go_wp2
  refine wp_loop_rounds 2 ?_
  rw [rounds_succ]; go_wp2
  rw [rounds_succ]; go_wp2
  go_ret
  exact ⟨rfl, rfl⟩
set_option maxHeartbeats 4000000 in
theorem has_d_b (w : World) : Calls Try.prog 59 #[.string { data := #[100] }, .int .u8 98] w fun e w' => e = .returned (.bool false) ∧ w = w' := by
  have e0 : (((({ data := #[100] } : ByteArray)[0]'(by decide)).toNat : Int) == 98) = false := rfl
  go_enter Try.func59, Try.ntmps59
  go_wp2
  refine wp_loop_rounds 2 ?_
  rw [rounds_succ]; go_wp2
  rw [rounds_succ]; go_wp2
  go_ret
  exact ⟨rfl, rfl⟩
set_option maxHeartbeats 4000000 in
theorem has_d_c (w : World) : Calls Try.prog 59 #[.string { data := #[100] }, .int .u8 99] w fun e w' => e = .returned (.bool false) ∧ w = w' := by
  have e0 : (((({ data := #[100] } : ByteArray)[0]'(by decide)).toNat : Int) == 99) = false := rfl
  go_enter Try.func59, Try.ntmps59
  go_wp2
  refine wp_loop_rounds 2 ?_
  rw [rounds_succ]; go_wp2
  rw [rounds_succ]; go_wp2
  go_ret
  exact ⟨rfl, rfl⟩
set_option maxHeartbeats 4000000 in
theorem has_d_n (w : World) : Calls Try.prog 59 #[.string { data := #[100] }, .int .u8 110] w fun e w' => e = .returned (.bool false) ∧ w = w' := by
  have e0 : (((({ data := #[100] } : ByteArray)[0]'(by decide)).toNat : Int) == 110) = false := rfl
  go_enter Try.func59, Try.ntmps59
  go_wp2
  refine wp_loop_rounds 2 ?_
  rw [rounds_succ]; go_wp2
  rw [rounds_succ]; go_wp2
  go_ret
  exact ⟨rfl, rfl⟩
set_option maxHeartbeats 4000000 in
theorem has_da_d (w : World) : Calls Try.prog 59 #[.string { data := #[100, 97] }, .int .u8 100] w fun e w' => e = .returned (.bool true) ∧ w = w' := by
  have e0 : (((({ data := #[100, 97] } : ByteArray)[0]'(by decide)).toNat : Int) == 100) = true := rfl
  go_enter Try.func59, Try.ntmps59
  go_wp2
  refine wp_loop_rounds 1 ?_
  rw [rounds_succ]; go_wp2
  go_ret
  exact ⟨rfl, rfl⟩
set_option maxHeartbeats 4000000 in
theorem has_da_a (w : World) : Calls Try.prog 59 #[.string { data := #[100, 97] }, .int .u8 97] w fun e w' => e = .returned (.bool true) ∧ w = w' := by
  have e0 : (((({ data := #[100, 97] } : ByteArray)[0]'(by decide)).toNat : Int) == 97) = false := rfl
  have e1 : (((({ data := #[100, 97] } : ByteArray)[1]'(by decide)).toNat : Int) == 97) = true := rfl
  go_enter Try.func59, Try.ntmps59
  go_wp2
  refine wp_loop_rounds 2 ?_
  rw [rounds_succ]; go_wp2
  rw [rounds_succ]; go_wp2
  go_ret
  exact ⟨rfl, rfl⟩
set_option maxHeartbeats 4000000 in
theorem has_da_b (w : World) : Calls Try.prog 59 #[.string { data := #[100, 97] }, .int .u8 98] w fun e w' => e = .returned (.bool false) ∧ w = w' := by
  have e0 : (((({ data := #[100, 97] } : ByteArray)[0]'(by decide)).toNat : Int) == 98) = false := rfl
  have e1 : (((({ data := #[100, 97] } : ByteArray)[1]'(by decide)).toNat : Int) == 98) = false := rfl
  go_enter Try.func59, Try.ntmps59
  go_wp2
  refine wp_loop_rounds 3 ?_
  rw [rounds_succ]; go_wp2
  rw [rounds_succ]; go_wp2
  rw [rounds_succ]; go_wp2
  go_ret
  exact ⟨rfl, rfl⟩
set_option maxHeartbeats 4000000 in
theorem has_da_c (w : World) : Calls Try.prog 59 #[.string { data := #[100, 97] }, .int .u8 99] w fun e w' => e = .returned (.bool false) ∧ w = w' := by
  have e0 : (((({ data := #[100, 97] } : ByteArray)[0]'(by decide)).toNat : Int) == 99) = false := rfl
  have e1 : (((({ data := #[100, 97] } : ByteArray)[1]'(by decide)).toNat : Int) == 99) = false := rfl
  go_enter Try.func59, Try.ntmps59
  go_wp2
  refine wp_loop_rounds 3 ?_
  rw [rounds_succ]; go_wp2
  rw [rounds_succ]; go_wp2
  rw [rounds_succ]; go_wp2
  go_ret
  exact ⟨rfl, rfl⟩
set_option maxHeartbeats 4000000 in
theorem has_da_n (w : World) : Calls Try.prog 59 #[.string { data := #[100, 97] }, .int .u8 110] w fun e w' => e = .returned (.bool false) ∧ w = w' := by
  have e0 : (((({ data := #[100, 97] } : ByteArray)[0]'(by decide)).toNat : Int) == 110) = false := rfl
  have e1 : (((({ data := #[100, 97] } : ByteArray)[1]'(by decide)).toNat : Int) == 110) = false := rfl
  go_enter Try.func59, Try.ntmps59
  go_wp2
  refine wp_loop_rounds 3 ?_
  rw [rounds_succ]; go_wp2
  rw [rounds_succ]; go_wp2
  rw [rounds_succ]; go_wp2
  go_ret
  exact ⟨rfl, rfl⟩
set_option maxHeartbeats 4000000 in
theorem has_an_d (w : World) : Calls Try.prog 59 #[.string { data := #[97, 110] }, .int .u8 100] w fun e w' => e = .returned (.bool false) ∧ w = w' := by
  have e0 : (((({ data := #[97, 110] } : ByteArray)[0]'(by decide)).toNat : Int) == 100) = false := rfl
  have e1 : (((({ data := #[97, 110] } : ByteArray)[1]'(by decide)).toNat : Int) == 100) = false := rfl
  go_enter Try.func59, Try.ntmps59
  go_wp2
  refine wp_loop_rounds 3 ?_
  rw [rounds_succ]; go_wp2
  rw [rounds_succ]; go_wp2
  rw [rounds_succ]; go_wp2
  go_ret
  exact ⟨rfl, rfl⟩
set_option maxHeartbeats 4000000 in
theorem has_an_a (w : World) : Calls Try.prog 59 #[.string { data := #[97, 110] }, .int .u8 97] w fun e w' => e = .returned (.bool true) ∧ w = w' := by
  have e0 : (((({ data := #[97, 110] } : ByteArray)[0]'(by decide)).toNat : Int) == 97) = true := rfl
  go_enter Try.func59, Try.ntmps59
  go_wp2
  refine wp_loop_rounds 1 ?_
  rw [rounds_succ]; go_wp2
  go_ret
  exact ⟨rfl, rfl⟩
set_option maxHeartbeats 4000000 in
theorem has_an_b (w : World) : Calls Try.prog 59 #[.string { data := #[97, 110] }, .int .u8 98] w fun e w' => e = .returned (.bool false) ∧ w = w' := by
  have e0 : (((({ data := #[97, 110] } : ByteArray)[0]'(by decide)).toNat : Int) == 98) = false := rfl
  have e1 : (((({ data := #[97, 110] } : ByteArray)[1]'(by decide)).toNat : Int) == 98) = false := rfl
  go_enter Try.func59, Try.ntmps59
  go_wp2
  refine wp_loop_rounds 3 ?_
  rw [rounds_succ]; go_wp2
  rw [rounds_succ]; go_wp2
  rw [rounds_succ]; go_wp2
  go_ret
  exact ⟨rfl, rfl⟩
set_option maxHeartbeats 4000000 in
theorem has_an_c (w : World) : Calls Try.prog 59 #[.string { data := #[97, 110] }, .int .u8 99] w fun e w' => e = .returned (.bool false) ∧ w = w' := by
  have e0 : (((({ data := #[97, 110] } : ByteArray)[0]'(by decide)).toNat : Int) == 99) = false := rfl
  have e1 : (((({ data := #[97, 110] } : ByteArray)[1]'(by decide)).toNat : Int) == 99) = false := rfl
  go_enter Try.func59, Try.ntmps59
  go_wp2
  refine wp_loop_rounds 3 ?_
  rw [rounds_succ]; go_wp2
  rw [rounds_succ]; go_wp2
  rw [rounds_succ]; go_wp2
  go_ret
  exact ⟨rfl, rfl⟩
set_option maxHeartbeats 4000000 in
theorem has_an_n (w : World) : Calls Try.prog 59 #[.string { data := #[97, 110] }, .int .u8 110] w fun e w' => e = .returned (.bool true) ∧ w = w' := by
  have e0 : (((({ data := #[97, 110] } : ByteArray)[0]'(by decide)).toNat : Int) == 110) = false := rfl
  have e1 : (((({ data := #[97, 110] } : ByteArray)[1]'(by decide)).toNat : Int) == 110) = true := rfl
  go_enter Try.func59, Try.ntmps59
  go_wp2
  refine wp_loop_rounds 2 ?_
  rw [rounds_succ]; go_wp2
  rw [rounds_succ]; go_wp2
  go_ret
  exact ⟨rfl, rfl⟩
set_option maxHeartbeats 4000000 in
theorem has_dabc_d (w : World) : Calls Try.prog 59 #[.string { data := #[100, 97, 98, 99] }, .int .u8 100] w fun e w' => e = .returned (.bool true) ∧ w = w' := by
  have e0 : (((({ data := #[100, 97, 98, 99] } : ByteArray)[0]'(by decide)).toNat : Int) == 100) = true := rfl
  go_enter Try.func59, Try.ntmps59
  go_wp2
  refine wp_loop_rounds 1 ?_
  rw [rounds_succ]; go_wp2
  go_ret
  exact ⟨rfl, rfl⟩
set_option maxHeartbeats 4000000 in
theorem has_dabc_a (w : World) : Calls Try.prog 59 #[.string { data := #[100, 97, 98, 99] }, .int .u8 97] w fun e w' => e = .returned (.bool true) ∧ w = w' := by
  have e0 : (((({ data := #[100, 97, 98, 99] } : ByteArray)[0]'(by decide)).toNat : Int) == 97) = false := rfl
  have e1 : (((({ data := #[100, 97, 98, 99] } : ByteArray)[1]'(by decide)).toNat : Int) == 97) = true := rfl
  go_enter Try.func59, Try.ntmps59
  go_wp2
  refine wp_loop_rounds 2 ?_
  rw [rounds_succ]; go_wp2
  rw [rounds_succ]; go_wp2
  go_ret
  exact ⟨rfl, rfl⟩
set_option maxHeartbeats 4000000 in
theorem has_dabc_b (w : World) : Calls Try.prog 59 #[.string { data := #[100, 97, 98, 99] }, .int .u8 98] w fun e w' => e = .returned (.bool true) ∧ w = w' := by
  have e0 : (((({ data := #[100, 97, 98, 99] } : ByteArray)[0]'(by decide)).toNat : Int) == 98) = false := rfl
  have e1 : (((({ data := #[100, 97, 98, 99] } : ByteArray)[1]'(by decide)).toNat : Int) == 98) = false := rfl
  have e2 : (((({ data := #[100, 97, 98, 99] } : ByteArray)[2]'(by decide)).toNat : Int) == 98) = true := rfl
  go_enter Try.func59, Try.ntmps59
  go_wp2
  refine wp_loop_rounds 3 ?_
  rw [rounds_succ]; go_wp2
  rw [rounds_succ]; go_wp2
  rw [rounds_succ]; go_wp2
  go_ret
  exact ⟨rfl, rfl⟩
set_option maxHeartbeats 4000000 in
theorem has_dabc_c (w : World) : Calls Try.prog 59 #[.string { data := #[100, 97, 98, 99] }, .int .u8 99] w fun e w' => e = .returned (.bool true) ∧ w = w' := by
  have e0 : (((({ data := #[100, 97, 98, 99] } : ByteArray)[0]'(by decide)).toNat : Int) == 99) = false := rfl
  have e1 : (((({ data := #[100, 97, 98, 99] } : ByteArray)[1]'(by decide)).toNat : Int) == 99) = false := rfl
  have e2 : (((({ data := #[100, 97, 98, 99] } : ByteArray)[2]'(by decide)).toNat : Int) == 99) = false := rfl
  have e3 : (((({ data := #[100, 97, 98, 99] } : ByteArray)[3]'(by decide)).toNat : Int) == 99) = true := rfl
  go_enter Try.func59, Try.ntmps59
  go_wp2
  refine wp_loop_rounds 4 ?_
  rw [rounds_succ]; go_wp2
  rw [rounds_succ]; go_wp2
  rw [rounds_succ]; go_wp2
  rw [rounds_succ]; go_wp2
  go_ret
  exact ⟨rfl, rfl⟩
set_option maxHeartbeats 4000000 in
theorem has_dabc_n (w : World) : Calls Try.prog 59 #[.string { data := #[100, 97, 98, 99] }, .int .u8 110] w fun e w' => e = .returned (.bool false) ∧ w = w' := by
  have e0 : (((({ data := #[100, 97, 98, 99] } : ByteArray)[0]'(by decide)).toNat : Int) == 110) = false := rfl
  have e1 : (((({ data := #[100, 97, 98, 99] } : ByteArray)[1]'(by decide)).toNat : Int) == 110) = false := rfl
  have e2 : (((({ data := #[100, 97, 98, 99] } : ByteArray)[2]'(by decide)).toNat : Int) == 110) = false := rfl
  have e3 : (((({ data := #[100, 97, 98, 99] } : ByteArray)[3]'(by decide)).toNat : Int) == 110) = false := rfl
  go_enter Try.func59, Try.ntmps59
  go_wp2
  refine wp_loop_rounds 5 ?_
  rw [rounds_succ]; go_wp2
  rw [rounds_succ]; go_wp2
  rw [rounds_succ]; go_wp2
  rw [rounds_succ]; go_wp2
  rw [rounds_succ]; go_wp2
  go_ret
  exact ⟨rfl, rfl⟩
set_option maxHeartbeats 4000000 in
theorem has_dn_d (w : World) : Calls Try.prog 59 #[.string { data := #[100, 110] }, .int .u8 100] w fun e w' => e = .returned (.bool true) ∧ w = w' := by
  have e0 : (((({ data := #[100, 110] } : ByteArray)[0]'(by decide)).toNat : Int) == 100) = true := rfl
  go_enter Try.func59, Try.ntmps59
  go_wp2
  refine wp_loop_rounds 1 ?_
  rw [rounds_succ]; go_wp2
  go_ret
  exact ⟨rfl, rfl⟩
set_option maxHeartbeats 4000000 in
theorem has_dn_a (w : World) : Calls Try.prog 59 #[.string { data := #[100, 110] }, .int .u8 97] w fun e w' => e = .returned (.bool false) ∧ w = w' := by
  have e0 : (((({ data := #[100, 110] } : ByteArray)[0]'(by decide)).toNat : Int) == 97) = false := rfl
  have e1 : (((({ data := #[100, 110] } : ByteArray)[1]'(by decide)).toNat : Int) == 97) = false := rfl
  go_enter Try.func59, Try.ntmps59
  go_wp2
  refine wp_loop_rounds 3 ?_
  rw [rounds_succ]; go_wp2
  rw [rounds_succ]; go_wp2
  rw [rounds_succ]; go_wp2
  go_ret
  exact ⟨rfl, rfl⟩
set_option maxHeartbeats 4000000 in
theorem has_dn_b (w : World) : Calls Try.prog 59 #[.string { data := #[100, 110] }, .int .u8 98] w fun e w' => e = .returned (.bool false) ∧ w = w' := by
  have e0 : (((({ data := #[100, 110] } : ByteArray)[0]'(by decide)).toNat : Int) == 98) = false := rfl
  have e1 : (((({ data := #[100, 110] } : ByteArray)[1]'(by decide)).toNat : Int) == 98) = false := rfl
  go_enter Try.func59, Try.ntmps59
  go_wp2
  refine wp_loop_rounds 3 ?_
  rw [rounds_succ]; go_wp2
  rw [rounds_succ]; go_wp2
  rw [rounds_succ]; go_wp2
  go_ret
  exact ⟨rfl, rfl⟩
set_option maxHeartbeats 4000000 in
theorem has_dn_c (w : World) : Calls Try.prog 59 #[.string { data := #[100, 110] }, .int .u8 99] w fun e w' => e = .returned (.bool false) ∧ w = w' := by
  have e0 : (((({ data := #[100, 110] } : ByteArray)[0]'(by decide)).toNat : Int) == 99) = false := rfl
  have e1 : (((({ data := #[100, 110] } : ByteArray)[1]'(by decide)).toNat : Int) == 99) = false := rfl
  go_enter Try.func59, Try.ntmps59
  go_wp2
  refine wp_loop_rounds 3 ?_
  rw [rounds_succ]; go_wp2
  rw [rounds_succ]; go_wp2
  rw [rounds_succ]; go_wp2
  go_ret
  exact ⟨rfl, rfl⟩
set_option maxHeartbeats 4000000 in
theorem has_dn_n (w : World) : Calls Try.prog 59 #[.string { data := #[100, 110] }, .int .u8 110] w fun e w' => e = .returned (.bool true) ∧ w = w' := by
  have e0 : (((({ data := #[100, 110] } : ByteArray)[0]'(by decide)).toNat : Int) == 110) = false := rfl
  have e1 : (((({ data := #[100, 110] } : ByteArray)[1]'(by decide)).toNat : Int) == 110) = true := rfl
  go_enter Try.func59, Try.ntmps59
  go_wp2
  refine wp_loop_rounds 2 ?_
  rw [rounds_succ]; go_wp2
  rw [rounds_succ]; go_wp2
  go_ret
  exact ⟨rfl, rfl⟩
set_option maxHeartbeats 4000000 in
theorem has_dan_d (w : World) : Calls Try.prog 59 #[.string { data := #[100, 97, 110] }, .int .u8 100] w fun e w' => e = .returned (.bool true) ∧ w = w' := by
  have e0 : (((({ data := #[100, 97, 110] } : ByteArray)[0]'(by decide)).toNat : Int) == 100) = true := rfl
  go_enter Try.func59, Try.ntmps59
  go_wp2
  refine wp_loop_rounds 1 ?_
  rw [rounds_succ]; go_wp2
  go_ret
  exact ⟨rfl, rfl⟩
set_option maxHeartbeats 4000000 in
theorem has_dan_a (w : World) : Calls Try.prog 59 #[.string { data := #[100, 97, 110] }, .int .u8 97] w fun e w' => e = .returned (.bool true) ∧ w = w' := by
  have e0 : (((({ data := #[100, 97, 110] } : ByteArray)[0]'(by decide)).toNat : Int) == 97) = false := rfl
  have e1 : (((({ data := #[100, 97, 110] } : ByteArray)[1]'(by decide)).toNat : Int) == 97) = true := rfl
  go_enter Try.func59, Try.ntmps59
  go_wp2
  refine wp_loop_rounds 2 ?_
  rw [rounds_succ]; go_wp2
  rw [rounds_succ]; go_wp2
  go_ret
  exact ⟨rfl, rfl⟩
set_option maxHeartbeats 4000000 in
theorem has_dan_b (w : World) : Calls Try.prog 59 #[.string { data := #[100, 97, 110] }, .int .u8 98] w fun e w' => e = .returned (.bool false) ∧ w = w' := by
  have e0 : (((({ data := #[100, 97, 110] } : ByteArray)[0]'(by decide)).toNat : Int) == 98) = false := rfl
  have e1 : (((({ data := #[100, 97, 110] } : ByteArray)[1]'(by decide)).toNat : Int) == 98) = false := rfl
  have e2 : (((({ data := #[100, 97, 110] } : ByteArray)[2]'(by decide)).toNat : Int) == 98) = false := rfl
  go_enter Try.func59, Try.ntmps59
  go_wp2
  refine wp_loop_rounds 4 ?_
  rw [rounds_succ]; go_wp2
  rw [rounds_succ]; go_wp2
  rw [rounds_succ]; go_wp2
  rw [rounds_succ]; go_wp2
  go_ret
  exact ⟨rfl, rfl⟩
set_option maxHeartbeats 4000000 in
theorem has_dan_c (w : World) : Calls Try.prog 59 #[.string { data := #[100, 97, 110] }, .int .u8 99] w fun e w' => e = .returned (.bool false) ∧ w = w' := by
  have e0 : (((({ data := #[100, 97, 110] } : ByteArray)[0]'(by decide)).toNat : Int) == 99) = false := rfl
  have e1 : (((({ data := #[100, 97, 110] } : ByteArray)[1]'(by decide)).toNat : Int) == 99) = false := rfl
  have e2 : (((({ data := #[100, 97, 110] } : ByteArray)[2]'(by decide)).toNat : Int) == 99) = false := rfl
  go_enter Try.func59, Try.ntmps59
  go_wp2
  refine wp_loop_rounds 4 ?_
  rw [rounds_succ]; go_wp2
  rw [rounds_succ]; go_wp2
  rw [rounds_succ]; go_wp2
  rw [rounds_succ]; go_wp2
  go_ret
  exact ⟨rfl, rfl⟩
set_option maxHeartbeats 4000000 in
theorem has_dan_n (w : World) : Calls Try.prog 59 #[.string { data := #[100, 97, 110] }, .int .u8 110] w fun e w' => e = .returned (.bool true) ∧ w = w' := by
  have e0 : (((({ data := #[100, 97, 110] } : ByteArray)[0]'(by decide)).toNat : Int) == 110) = false := rfl
  have e1 : (((({ data := #[100, 97, 110] } : ByteArray)[1]'(by decide)).toNat : Int) == 110) = false := rfl
  have e2 : (((({ data := #[100, 97, 110] } : ByteArray)[2]'(by decide)).toNat : Int) == 110) = true := rfl
  go_enter Try.func59, Try.ntmps59
  go_wp2
  refine wp_loop_rounds 3 ?_
  rw [rounds_succ]; go_wp2
  rw [rounds_succ]; go_wp2
  rw [rounds_succ]; go_wp2
  go_ret
  exact ⟨rfl, rfl⟩
set_option maxHeartbeats 4000000 in
theorem has_dab_d (w : World) : Calls Try.prog 59 #[.string { data := #[100, 97, 98] }, .int .u8 100] w fun e w' => e = .returned (.bool true) ∧ w = w' := by
  have e0 : (((({ data := #[100, 97, 98] } : ByteArray)[0]'(by decide)).toNat : Int) == 100) = true := rfl
  go_enter Try.func59, Try.ntmps59
  go_wp2
  refine wp_loop_rounds 1 ?_
  rw [rounds_succ]; go_wp2
  go_ret
  exact ⟨rfl, rfl⟩
set_option maxHeartbeats 4000000 in
theorem has_dab_a (w : World) : Calls Try.prog 59 #[.string { data := #[100, 97, 98] }, .int .u8 97] w fun e w' => e = .returned (.bool true) ∧ w = w' := by
  have e0 : (((({ data := #[100, 97, 98] } : ByteArray)[0]'(by decide)).toNat : Int) == 97) = false := rfl
  have e1 : (((({ data := #[100, 97, 98] } : ByteArray)[1]'(by decide)).toNat : Int) == 97) = true := rfl
  go_enter Try.func59, Try.ntmps59
  go_wp2
  refine wp_loop_rounds 2 ?_
  rw [rounds_succ]; go_wp2
  rw [rounds_succ]; go_wp2
  go_ret
  exact ⟨rfl, rfl⟩
set_option maxHeartbeats 4000000 in
theorem has_dab_b (w : World) : Calls Try.prog 59 #[.string { data := #[100, 97, 98] }, .int .u8 98] w fun e w' => e = .returned (.bool true) ∧ w = w' := by
  have e0 : (((({ data := #[100, 97, 98] } : ByteArray)[0]'(by decide)).toNat : Int) == 98) = false := rfl
  have e1 : (((({ data := #[100, 97, 98] } : ByteArray)[1]'(by decide)).toNat : Int) == 98) = false := rfl
  have e2 : (((({ data := #[100, 97, 98] } : ByteArray)[2]'(by decide)).toNat : Int) == 98) = true := rfl
  go_enter Try.func59, Try.ntmps59
  go_wp2
  refine wp_loop_rounds 3 ?_
  rw [rounds_succ]; go_wp2
  rw [rounds_succ]; go_wp2
  rw [rounds_succ]; go_wp2
  go_ret
  exact ⟨rfl, rfl⟩
set_option maxHeartbeats 4000000 in
theorem has_dab_c (w : World) : Calls Try.prog 59 #[.string { data := #[100, 97, 98] }, .int .u8 99] w fun e w' => e = .returned (.bool false) ∧ w = w' := by
  have e0 : (((({ data := #[100, 97, 98] } : ByteArray)[0]'(by decide)).toNat : Int) == 99) = false := rfl
  have e1 : (((({ data := #[100, 97, 98] } : ByteArray)[1]'(by decide)).toNat : Int) == 99) = false := rfl
  have e2 : (((({ data := #[100, 97, 98] } : ByteArray)[2]'(by decide)).toNat : Int) == 99) = false := rfl
  go_enter Try.func59, Try.ntmps59
  go_wp2
  refine wp_loop_rounds 4 ?_
  rw [rounds_succ]; go_wp2
  rw [rounds_succ]; go_wp2
  rw [rounds_succ]; go_wp2
  rw [rounds_succ]; go_wp2
  go_ret
  exact ⟨rfl, rfl⟩
set_option maxHeartbeats 4000000 in
theorem has_dab_n (w : World) : Calls Try.prog 59 #[.string { data := #[100, 97, 98] }, .int .u8 110] w fun e w' => e = .returned (.bool false) ∧ w = w' := by
  have e0 : (((({ data := #[100, 97, 98] } : ByteArray)[0]'(by decide)).toNat : Int) == 110) = false := rfl
  have e1 : (((({ data := #[100, 97, 98] } : ByteArray)[1]'(by decide)).toNat : Int) == 110) = false := rfl
  have e2 : (((({ data := #[100, 97, 98] } : ByteArray)[2]'(by decide)).toNat : Int) == 110) = false := rfl
  go_enter Try.func59, Try.ntmps59
  go_wp2
  refine wp_loop_rounds 4 ?_
  rw [rounds_succ]; go_wp2
  rw [rounds_succ]; go_wp2
  rw [rounds_succ]; go_wp2
  rw [rounds_succ]; go_wp2
  go_ret
  exact ⟨rfl, rfl⟩
set_option maxHeartbeats 4000000 in
theorem has_n (c : Int) (w : World) : Calls Try.prog 59 #[.string { data := #[110] }, .int .u8 c] w fun e w' => e = .returned (.bool (c == 110)) ∧ w = w' := by
  by_cases hn : c = 110
  · subst hn; exact has_n_n w
  have e0 : (((({ data := #[110] } : ByteArray)[0]'(by decide)).toNat : Int) == c) = false := by show ((110 : Int) == c) = false; simp; omega
  have g0 : (c == 110) = false := by simp; omega
  simp only [g0, Bool.or_self]
  clear g0 hn
  go_enter Try.func59, Try.ntmps59
  go_wp2
  refine wp_loop_rounds 2 ?_
  rw [rounds_succ]; go_wp2
  rw [rounds_succ]; go_wp2
  go_ret
  exact ⟨rfl, rfl⟩
set_option maxHeartbeats 4000000 in
theorem has_d (c : Int) (w : World) : Calls Try.prog 59 #[.string { data := #[100] }, .int .u8 c] w fun e w' => e = .returned (.bool (c == 100)) ∧ w = w' := by
  by_cases hd : c = 100
  · subst hd; exact has_d_d w
  have e0 : (((({ data := #[100] } : ByteArray)[0]'(by decide)).toNat : Int) == c) = false := by show ((100 : Int) == c) = false; simp; omega
  have g0 : (c == 100) = false := by simp; omega
  simp only [g0, Bool.or_self]
  clear g0 hd
  go_enter Try.func59, Try.ntmps59
  go_wp2
  refine wp_loop_rounds 2 ?_
  rw [rounds_succ]; go_wp2
  rw [rounds_succ]; go_wp2
  go_ret
  exact ⟨rfl, rfl⟩
set_option maxHeartbeats 4000000 in
theorem has_da (c : Int) (w : World) : Calls Try.prog 59 #[.string { data := #[100, 97] }, .int .u8 c] w fun e w' => e = .returned (.bool (c == 100 || c == 97)) ∧ w = w' := by
  by_cases hd : c = 100
  · subst hd; exact has_da_d w
  by_cases ha : c = 97
  · subst ha; exact has_da_a w
  have e0 : (((({ data := #[100, 97] } : ByteArray)[0]'(by decide)).toNat : Int) == c) = false := by show ((100 : Int) == c) = false; simp; omega
  have g0 : (c == 100) = false := by simp; omega
  have e1 : (((({ data := #[100, 97] } : ByteArray)[1]'(by decide)).toNat : Int) == c) = false := by show ((97 : Int) == c) = false; simp; omega
  have g1 : (c == 97) = false := by simp; omega
  simp only [g0, g1, Bool.or_self]
  clear g0 g1 hd ha
  go_enter Try.func59, Try.ntmps59
  go_wp2
  refine wp_loop_rounds 3 ?_
  rw [rounds_succ]; go_wp2
  rw [rounds_succ]; go_wp2
  rw [rounds_succ]; go_wp2
  go_ret
  exact ⟨rfl, rfl⟩
set_option maxHeartbeats 4000000 in
theorem has_an (c : Int) (w : World) : Calls Try.prog 59 #[.string { data := #[97, 110] }, .int .u8 c] w fun e w' => e = .returned (.bool (c == 97 || c == 110)) ∧ w = w' := by
  by_cases ha : c = 97
  · subst ha; exact has_an_a w
  by_cases hn : c = 110
  · subst hn; exact has_an_n w
  have e0 : (((({ data := #[97, 110] } : ByteArray)[0]'(by decide)).toNat : Int) == c) = false := by show ((97 : Int) == c) = false; simp; omega
  have g0 : (c == 97) = false := by simp; omega
  have e1 : (((({ data := #[97, 110] } : ByteArray)[1]'(by decide)).toNat : Int) == c) = false := by show ((110 : Int) == c) = false; simp; omega
  have g1 : (c == 110) = false := by simp; omega
  simp only [g0, g1, Bool.or_self]
  clear g0 g1 ha hn
  go_enter Try.func59, Try.ntmps59
  go_wp2
  refine wp_loop_rounds 3 ?_
  rw [rounds_succ]; go_wp2
  rw [rounds_succ]; go_wp2
  rw [rounds_succ]; go_wp2
  go_ret
  exact ⟨rfl, rfl⟩
set_option maxHeartbeats 4000000 in
theorem has_dabc (c : Int) (w : World) : Calls Try.prog 59 #[.string { data := #[100, 97, 98, 99] }, .int .u8 c] w fun e w' => e = .returned (.bool (c == 100 || c == 97 || c == 98 || c == 99)) ∧ w = w' := by
  by_cases hd : c = 100
  · subst hd; exact has_dabc_d w
  by_cases ha : c = 97
  · subst ha; exact has_dabc_a w
  by_cases hb : c = 98
  · subst hb; exact has_dabc_b w
  by_cases hc : c = 99
  · subst hc; exact has_dabc_c w
  have e0 : (((({ data := #[100, 97, 98, 99] } : ByteArray)[0]'(by decide)).toNat : Int) == c) = false := by show ((100 : Int) == c) = false; simp; omega
  have g0 : (c == 100) = false := by simp; omega
  have e1 : (((({ data := #[100, 97, 98, 99] } : ByteArray)[1]'(by decide)).toNat : Int) == c) = false := by show ((97 : Int) == c) = false; simp; omega
  have g1 : (c == 97) = false := by simp; omega
  have e2 : (((({ data := #[100, 97, 98, 99] } : ByteArray)[2]'(by decide)).toNat : Int) == c) = false := by show ((98 : Int) == c) = false; simp; omega
  have g2 : (c == 98) = false := by simp; omega
  have e3 : (((({ data := #[100, 97, 98, 99] } : ByteArray)[3]'(by decide)).toNat : Int) == c) = false := by show ((99 : Int) == c) = false; simp; omega
  have g3 : (c == 99) = false := by simp; omega
  simp only [g0, g1, g2, g3, Bool.or_self]
  clear g0 g1 g2 g3 hd ha hb hc
  go_enter Try.func59, Try.ntmps59
  go_wp2
  refine wp_loop_rounds 5 ?_
  rw [rounds_succ]; go_wp2
  rw [rounds_succ]; go_wp2
  rw [rounds_succ]; go_wp2
  rw [rounds_succ]; go_wp2
  rw [rounds_succ]; go_wp2
  go_ret
  exact ⟨rfl, rfl⟩
set_option maxHeartbeats 4000000 in
theorem has_dn (c : Int) (w : World) : Calls Try.prog 59 #[.string { data := #[100, 110] }, .int .u8 c] w fun e w' => e = .returned (.bool (c == 100 || c == 110)) ∧ w = w' := by
  by_cases hd : c = 100
  · subst hd; exact has_dn_d w
  by_cases hn : c = 110
  · subst hn; exact has_dn_n w
  have e0 : (((({ data := #[100, 110] } : ByteArray)[0]'(by decide)).toNat : Int) == c) = false := by show ((100 : Int) == c) = false; simp; omega
  have g0 : (c == 100) = false := by simp; omega
  have e1 : (((({ data := #[100, 110] } : ByteArray)[1]'(by decide)).toNat : Int) == c) = false := by show ((110 : Int) == c) = false; simp; omega
  have g1 : (c == 110) = false := by simp; omega
  simp only [g0, g1, Bool.or_self]
  clear g0 g1 hd hn
  go_enter Try.func59, Try.ntmps59
  go_wp2
  refine wp_loop_rounds 3 ?_
  rw [rounds_succ]; go_wp2
  rw [rounds_succ]; go_wp2
  rw [rounds_succ]; go_wp2
  go_ret
  exact ⟨rfl, rfl⟩
set_option maxHeartbeats 4000000 in
theorem has_dan (c : Int) (w : World) : Calls Try.prog 59 #[.string { data := #[100, 97, 110] }, .int .u8 c] w fun e w' => e = .returned (.bool (c == 100 || c == 97 || c == 110)) ∧ w = w' := by
  by_cases hd : c = 100
  · subst hd; exact has_dan_d w
  by_cases ha : c = 97
  · subst ha; exact has_dan_a w
  by_cases hn : c = 110
  · subst hn; exact has_dan_n w
  have e0 : (((({ data := #[100, 97, 110] } : ByteArray)[0]'(by decide)).toNat : Int) == c) = false := by show ((100 : Int) == c) = false; simp; omega
  have g0 : (c == 100) = false := by simp; omega
  have e1 : (((({ data := #[100, 97, 110] } : ByteArray)[1]'(by decide)).toNat : Int) == c) = false := by show ((97 : Int) == c) = false; simp; omega
  have g1 : (c == 97) = false := by simp; omega
  have e2 : (((({ data := #[100, 97, 110] } : ByteArray)[2]'(by decide)).toNat : Int) == c) = false := by show ((110 : Int) == c) = false; simp; omega
  have g2 : (c == 110) = false := by simp; omega
  simp only [g0, g1, g2, Bool.or_self]
  clear g0 g1 g2 hd ha hn
  go_enter Try.func59, Try.ntmps59
  go_wp2
  refine wp_loop_rounds 4 ?_
  rw [rounds_succ]; go_wp2
  rw [rounds_succ]; go_wp2
  rw [rounds_succ]; go_wp2
  rw [rounds_succ]; go_wp2
  go_ret
  exact ⟨rfl, rfl⟩
set_option maxHeartbeats 4000000 in
theorem has_dab (c : Int) (w : World) : Calls Try.prog 59 #[.string { data := #[100, 97, 98] }, .int .u8 c] w fun e w' => e = .returned (.bool (c == 100 || c == 97 || c == 98)) ∧ w = w' := by
  by_cases hd : c = 100
  · subst hd; exact has_dab_d w
  by_cases ha : c = 97
  · subst ha; exact has_dab_a w
  by_cases hb : c = 98
  · subst hb; exact has_dab_b w
  have e0 : (((({ data := #[100, 97, 98] } : ByteArray)[0]'(by decide)).toNat : Int) == c) = false := by show ((100 : Int) == c) = false; simp; omega
  have g0 : (c == 100) = false := by simp; omega
  have e1 : (((({ data := #[100, 97, 98] } : ByteArray)[1]'(by decide)).toNat : Int) == c) = false := by show ((97 : Int) == c) = false; simp; omega
  have g1 : (c == 97) = false := by simp; omega
  have e2 : (((({ data := #[100, 97, 98] } : ByteArray)[2]'(by decide)).toNat : Int) == c) = false := by show ((98 : Int) == c) = false; simp; omega
  have g2 : (c == 98) = false := by simp; omega
  simp only [g0, g1, g2, Bool.or_self]
  clear g0 g1 g2 hd ha hb
  go_enter Try.func59, Try.ntmps59
  go_wp2
  refine wp_loop_rounds 4 ?_
  rw [rounds_succ]; go_wp2
  rw [rounds_succ]; go_wp2
  rw [rounds_succ]; go_wp2
  rw [rounds_succ]; go_wp2
  go_ret
  exact ⟨rfl, rfl⟩
end Go.Proofs.Ytcjcmnnhmajocaa.Ho
