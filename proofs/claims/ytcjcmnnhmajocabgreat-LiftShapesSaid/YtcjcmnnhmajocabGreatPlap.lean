/- Which letters the reference's fields hold (crossgrainref3.need.has). -/
import Derived.Test.YtcjcmnnhmajocabGreatPlaa
set_option linter.unusedVariables false
set_option linter.unusedSimpArgs false
set_option maxRecDepth 100000
set_option maxHeartbeats 16000000
namespace Go.Proofs.YtcjcmnnhmajocabGreat.Ic
open Go.RowKit
theorem nhas_none (f s c : Int) (w : World) : Calls Tryz.prog 60 #[.agg #[.int .i64 f, .int .i64 s, .string { data := #[] }], .int .u8 c] w fun e w' => e = .returned (.bool false) ∧ Below w.heap.size w w' := by
 go_enter Tryz.func60, Tryz.ntmps60
 go_wp2
 refine wp_loop_rounds 1 ?_
 rw [rounds_succ]; go_wp2
 go_ret
 exact ⟨rfl, (Below.refl _ _).alloc (Nat.le_refl _) _⟩
theorem nhas_k_k (f s : Int) (w : World) : Calls Tryz.prog 60 #[.agg #[.int .i64 f, .int .i64 s, .string { data := #[107] }], .int .u8 107] w fun e w' => e = .returned (.bool true) ∧ Below w.heap.size w w' := by
 have e0 : (((({ data := #[107] } : ByteArray)[0]'(by decide)).toNat : Int) == 107) = true := rfl
 go_enter Tryz.func60, Tryz.ntmps60
 go_wp2
 refine wp_loop_rounds 1 ?_
 rw [rounds_succ]; go_wp2
 go_ret
 exact ⟨rfl, (Below.refl _ _).alloc (Nat.le_refl _) _⟩
theorem nhas_k (f s c : Int) (w : World) : Calls Tryz.prog 60 #[.agg #[.int .i64 f, .int .i64 s, .string { data := #[107] }], .int .u8 c] w fun e w' => e = .returned (.bool (c == 107)) ∧ Below w.heap.size w w' := by
 by_cases hk : c = 107
 ·subst hk; exact nhas_k_k f s w
 have e0 : (((({ data := #[107] } : ByteArray)[0]'(by decide)).toNat : Int) == c) = false := by show ((107 : Int) == c) = false; simp; omega
 have g0 : (c == 107) = false := by simp; omega
 simp only [g0, Bool.or_self]
 clear g0 hk
 go_enter Tryz.func60, Tryz.ntmps60
 go_wp2
 refine wp_loop_rounds 2 ?_
 rw [rounds_succ]; go_wp2
 rw [rounds_succ]; go_wp2
 go_ret
 exact ⟨rfl, (Below.refl _ _).alloc (Nat.le_refl _) _⟩
theorem nhas_a_a (f s : Int) (w : World) : Calls Tryz.prog 60 #[.agg #[.int .i64 f, .int .i64 s, .string { data := #[97] }], .int .u8 97] w fun e w' => e = .returned (.bool true) ∧ Below w.heap.size w w' := by
 have e0 : (((({ data := #[97] } : ByteArray)[0]'(by decide)).toNat : Int) == 97) = true := rfl
 go_enter Tryz.func60, Tryz.ntmps60
 go_wp2
 refine wp_loop_rounds 1 ?_
 rw [rounds_succ]; go_wp2
 go_ret
 exact ⟨rfl, (Below.refl _ _).alloc (Nat.le_refl _) _⟩
theorem nhas_a (f s c : Int) (w : World) : Calls Tryz.prog 60 #[.agg #[.int .i64 f, .int .i64 s, .string { data := #[97] }], .int .u8 c] w fun e w' => e = .returned (.bool (c == 97)) ∧ Below w.heap.size w w' := by
 by_cases ha : c = 97
 ·subst ha; exact nhas_a_a f s w
 have e0 : (((({ data := #[97] } : ByteArray)[0]'(by decide)).toNat : Int) == c) = false := by show ((97 : Int) == c) = false; simp; omega
 have g0 : (c == 97) = false := by simp; omega
 simp only [g0, Bool.or_self]
 clear g0 ha
 go_enter Tryz.func60, Tryz.ntmps60
 go_wp2
 refine wp_loop_rounds 2 ?_
 rw [rounds_succ]; go_wp2
 rw [rounds_succ]; go_wp2
 go_ret
 exact ⟨rfl, (Below.refl _ _).alloc (Nat.le_refl _) _⟩
theorem nhas_ab_a (f s : Int) (w : World) : Calls Tryz.prog 60 #[.agg #[.int .i64 f, .int .i64 s, .string { data := #[97, 98] }], .int .u8 97] w fun e w' => e = .returned (.bool true) ∧ Below w.heap.size w w' := by
 have e0 : (((({ data := #[97, 98] } : ByteArray)[0]'(by decide)).toNat : Int) == 97) = true := rfl
 go_enter Tryz.func60, Tryz.ntmps60
 go_wp2
 refine wp_loop_rounds 1 ?_
 rw [rounds_succ]; go_wp2
 go_ret
 exact ⟨rfl, (Below.refl _ _).alloc (Nat.le_refl _) _⟩
theorem nhas_ab_b (f s : Int) (w : World) : Calls Tryz.prog 60 #[.agg #[.int .i64 f, .int .i64 s, .string { data := #[97, 98] }], .int .u8 98] w fun e w' => e = .returned (.bool true) ∧ Below w.heap.size w w' := by
 have e0 : (((({ data := #[97, 98] } : ByteArray)[0]'(by decide)).toNat : Int) == 98) = false := rfl
 have e1 : (((({ data := #[97, 98] } : ByteArray)[1]'(by decide)).toNat : Int) == 98) = true := rfl
 go_enter Tryz.func60, Tryz.ntmps60
 go_wp2
 refine wp_loop_rounds 2 ?_
 rw [rounds_succ]; go_wp2
 rw [rounds_succ]; go_wp2
 go_ret
 exact ⟨rfl, (Below.refl _ _).alloc (Nat.le_refl _) _⟩
theorem nhas_ab (f s c : Int) (w : World) : Calls Tryz.prog 60 #[.agg #[.int .i64 f, .int .i64 s, .string { data := #[97, 98] }], .int .u8 c] w fun e w' => e = .returned (.bool (c == 97 || c == 98)) ∧ Below w.heap.size w w' := by
 by_cases ha : c = 97
 ·subst ha; exact nhas_ab_a f s w
 by_cases hb : c = 98
 ·subst hb; exact nhas_ab_b f s w
 have e0 : (((({ data := #[97, 98] } : ByteArray)[0]'(by decide)).toNat : Int) == c) = false := by show ((97 : Int) == c) = false; simp; omega
 have g0 : (c == 97) = false := by simp; omega
 have e1 : (((({ data := #[97, 98] } : ByteArray)[1]'(by decide)).toNat : Int) == c) = false := by show ((98 : Int) == c) = false; simp; omega
 have g1 : (c == 98) = false := by simp; omega
 simp only [g0, g1, Bool.or_self]
 clear g0 g1 ha hb
 go_enter Tryz.func60, Tryz.ntmps60
 go_wp2
 refine wp_loop_rounds 3 ?_
 rw [rounds_succ]; go_wp2
 rw [rounds_succ]; go_wp2
 rw [rounds_succ]; go_wp2
 go_ret
 exact ⟨rfl, (Below.refl _ _).alloc (Nat.le_refl _) _⟩
theorem nhas_abc_a (f s : Int) (w : World) : Calls Tryz.prog 60 #[.agg #[.int .i64 f, .int .i64 s, .string { data := #[97, 98, 99] }], .int .u8 97] w fun e w' => e = .returned (.bool true) ∧ Below w.heap.size w w' := by
 have e0 : (((({ data := #[97, 98, 99] } : ByteArray)[0]'(by decide)).toNat : Int) == 97) = true := rfl
 go_enter Tryz.func60, Tryz.ntmps60
 go_wp2
 refine wp_loop_rounds 1 ?_
 rw [rounds_succ]; go_wp2
 go_ret
 exact ⟨rfl, (Below.refl _ _).alloc (Nat.le_refl _) _⟩
theorem nhas_abc_b (f s : Int) (w : World) : Calls Tryz.prog 60 #[.agg #[.int .i64 f, .int .i64 s, .string { data := #[97, 98, 99] }], .int .u8 98] w fun e w' => e = .returned (.bool true) ∧ Below w.heap.size w w' := by
 have e0 : (((({ data := #[97, 98, 99] } : ByteArray)[0]'(by decide)).toNat : Int) == 98) = false := rfl
 have e1 : (((({ data := #[97, 98, 99] } : ByteArray)[1]'(by decide)).toNat : Int) == 98) = true := rfl
 go_enter Tryz.func60, Tryz.ntmps60
 go_wp2
 refine wp_loop_rounds 2 ?_
 rw [rounds_succ]; go_wp2
 rw [rounds_succ]; go_wp2
 go_ret
 exact ⟨rfl, (Below.refl _ _).alloc (Nat.le_refl _) _⟩
theorem nhas_abc_c (f s : Int) (w : World) : Calls Tryz.prog 60 #[.agg #[.int .i64 f, .int .i64 s, .string { data := #[97, 98, 99] }], .int .u8 99] w fun e w' => e = .returned (.bool true) ∧ Below w.heap.size w w' := by
 have e0 : (((({ data := #[97, 98, 99] } : ByteArray)[0]'(by decide)).toNat : Int) == 99) = false := rfl
 have e1 : (((({ data := #[97, 98, 99] } : ByteArray)[1]'(by decide)).toNat : Int) == 99) = false := rfl
 have e2 : (((({ data := #[97, 98, 99] } : ByteArray)[2]'(by decide)).toNat : Int) == 99) = true := rfl
 go_enter Tryz.func60, Tryz.ntmps60
 go_wp2
 refine wp_loop_rounds 3 ?_
 rw [rounds_succ]; go_wp2
 rw [rounds_succ]; go_wp2
 rw [rounds_succ]; go_wp2
 go_ret
 exact ⟨rfl, (Below.refl _ _).alloc (Nat.le_refl _) _⟩
theorem nhas_abc (f s c : Int) (w : World) : Calls Tryz.prog 60 #[.agg #[.int .i64 f, .int .i64 s, .string { data := #[97, 98, 99] }], .int .u8 c] w fun e w' => e = .returned (.bool (c == 97 || c == 98 || c == 99)) ∧ Below w.heap.size w w' := by
 by_cases ha : c = 97
 ·subst ha; exact nhas_abc_a f s w
 by_cases hb : c = 98
 ·subst hb; exact nhas_abc_b f s w
 by_cases hc : c = 99
 ·subst hc; exact nhas_abc_c f s w
 have e0 : (((({ data := #[97, 98, 99] } : ByteArray)[0]'(by decide)).toNat : Int) == c) = false := by show ((97 : Int) == c) = false; simp; omega
 have g0 : (c == 97) = false := by simp; omega
 have e1 : (((({ data := #[97, 98, 99] } : ByteArray)[1]'(by decide)).toNat : Int) == c) = false := by show ((98 : Int) == c) = false; simp; omega
 have g1 : (c == 98) = false := by simp; omega
 have e2 : (((({ data := #[97, 98, 99] } : ByteArray)[2]'(by decide)).toNat : Int) == c) = false := by show ((99 : Int) == c) = false; simp; omega
 have g2 : (c == 99) = false := by simp; omega
 simp only [g0, g1, g2, Bool.or_self]
 clear g0 g1 g2 ha hb hc
 go_enter Tryz.func60, Tryz.ntmps60
 go_wp2
 refine wp_loop_rounds 4 ?_
 rw [rounds_succ]; go_wp2
 rw [rounds_succ]; go_wp2
 rw [rounds_succ]; go_wp2
 rw [rounds_succ]; go_wp2
 go_ret
 exact ⟨rfl, (Below.refl _ _).alloc (Nat.le_refl _) _⟩
theorem nhas_akn_a (f s : Int) (w : World) : Calls Tryz.prog 60 #[.agg #[.int .i64 f, .int .i64 s, .string { data := #[97, 107, 110] }], .int .u8 97] w fun e w' => e = .returned (.bool true) ∧ Below w.heap.size w w' := by
 have e0 : (((({ data := #[97, 107, 110] } : ByteArray)[0]'(by decide)).toNat : Int) == 97) = true := rfl
 go_enter Tryz.func60, Tryz.ntmps60
 go_wp2
 refine wp_loop_rounds 1 ?_
 rw [rounds_succ]; go_wp2
 go_ret
 exact ⟨rfl, (Below.refl _ _).alloc (Nat.le_refl _) _⟩
theorem nhas_akn_k (f s : Int) (w : World) : Calls Tryz.prog 60 #[.agg #[.int .i64 f, .int .i64 s, .string { data := #[97, 107, 110] }], .int .u8 107] w fun e w' => e = .returned (.bool true) ∧ Below w.heap.size w w' := by
 have e0 : (((({ data := #[97, 107, 110] } : ByteArray)[0]'(by decide)).toNat : Int) == 107) = false := rfl
 have e1 : (((({ data := #[97, 107, 110] } : ByteArray)[1]'(by decide)).toNat : Int) == 107) = true := rfl
 go_enter Tryz.func60, Tryz.ntmps60
 go_wp2
 refine wp_loop_rounds 2 ?_
 rw [rounds_succ]; go_wp2
 rw [rounds_succ]; go_wp2
 go_ret
 exact ⟨rfl, (Below.refl _ _).alloc (Nat.le_refl _) _⟩
theorem nhas_akn_n (f s : Int) (w : World) : Calls Tryz.prog 60 #[.agg #[.int .i64 f, .int .i64 s, .string { data := #[97, 107, 110] }], .int .u8 110] w fun e w' => e = .returned (.bool true) ∧ Below w.heap.size w w' := by
 have e0 : (((({ data := #[97, 107, 110] } : ByteArray)[0]'(by decide)).toNat : Int) == 110) = false := rfl
 have e1 : (((({ data := #[97, 107, 110] } : ByteArray)[1]'(by decide)).toNat : Int) == 110) = false := rfl
 have e2 : (((({ data := #[97, 107, 110] } : ByteArray)[2]'(by decide)).toNat : Int) == 110) = true := rfl
 go_enter Tryz.func60, Tryz.ntmps60
 go_wp2
 refine wp_loop_rounds 3 ?_
 rw [rounds_succ]; go_wp2
 rw [rounds_succ]; go_wp2
 rw [rounds_succ]; go_wp2
 go_ret
 exact ⟨rfl, (Below.refl _ _).alloc (Nat.le_refl _) _⟩
theorem nhas_akn (f s c : Int) (w : World) : Calls Tryz.prog 60 #[.agg #[.int .i64 f, .int .i64 s, .string { data := #[97, 107, 110] }], .int .u8 c] w fun e w' => e = .returned (.bool (c == 97 || c == 107 || c == 110)) ∧ Below w.heap.size w w' := by
 by_cases ha : c = 97
 ·subst ha; exact nhas_akn_a f s w
 by_cases hk : c = 107
 ·subst hk; exact nhas_akn_k f s w
 by_cases hn : c = 110
 ·subst hn; exact nhas_akn_n f s w
 have e0 : (((({ data := #[97, 107, 110] } : ByteArray)[0]'(by decide)).toNat : Int) == c) = false := by show ((97 : Int) == c) = false; simp; omega
 have g0 : (c == 97) = false := by simp; omega
 have e1 : (((({ data := #[97, 107, 110] } : ByteArray)[1]'(by decide)).toNat : Int) == c) = false := by show ((107 : Int) == c) = false; simp; omega
 have g1 : (c == 107) = false := by simp; omega
 have e2 : (((({ data := #[97, 107, 110] } : ByteArray)[2]'(by decide)).toNat : Int) == c) = false := by show ((110 : Int) == c) = false; simp; omega
 have g2 : (c == 110) = false := by simp; omega
 simp only [g0, g1, g2, Bool.or_self]
 clear g0 g1 g2 ha hk hn
 go_enter Tryz.func60, Tryz.ntmps60
 go_wp2
 refine wp_loop_rounds 4 ?_
 rw [rounds_succ]; go_wp2
 rw [rounds_succ]; go_wp2
 rw [rounds_succ]; go_wp2
 rw [rounds_succ]; go_wp2
 go_ret
 exact ⟨rfl, (Below.refl _ _).alloc (Nat.le_refl _) _⟩
theorem nhas_abkn_a (f s : Int) (w : World) : Calls Tryz.prog 60 #[.agg #[.int .i64 f, .int .i64 s, .string { data := #[97, 98, 107, 110] }], .int .u8 97] w fun e w' => e = .returned (.bool true) ∧ Below w.heap.size w w' := by
 have e0 : (((({ data := #[97, 98, 107, 110] } : ByteArray)[0]'(by decide)).toNat : Int) == 97) = true := rfl
 go_enter Tryz.func60, Tryz.ntmps60
 go_wp2
 refine wp_loop_rounds 1 ?_
 rw [rounds_succ]; go_wp2
 go_ret
 exact ⟨rfl, (Below.refl _ _).alloc (Nat.le_refl _) _⟩
theorem nhas_abkn_b (f s : Int) (w : World) : Calls Tryz.prog 60 #[.agg #[.int .i64 f, .int .i64 s, .string { data := #[97, 98, 107, 110] }], .int .u8 98] w fun e w' => e = .returned (.bool true) ∧ Below w.heap.size w w' := by
 have e0 : (((({ data := #[97, 98, 107, 110] } : ByteArray)[0]'(by decide)).toNat : Int) == 98) = false := rfl
 have e1 : (((({ data := #[97, 98, 107, 110] } : ByteArray)[1]'(by decide)).toNat : Int) == 98) = true := rfl
 go_enter Tryz.func60, Tryz.ntmps60
 go_wp2
 refine wp_loop_rounds 2 ?_
 rw [rounds_succ]; go_wp2
 rw [rounds_succ]; go_wp2
 go_ret
 exact ⟨rfl, (Below.refl _ _).alloc (Nat.le_refl _) _⟩
theorem nhas_abkn_k (f s : Int) (w : World) : Calls Tryz.prog 60 #[.agg #[.int .i64 f, .int .i64 s, .string { data := #[97, 98, 107, 110] }], .int .u8 107] w fun e w' => e = .returned (.bool true) ∧ Below w.heap.size w w' := by
 have e0 : (((({ data := #[97, 98, 107, 110] } : ByteArray)[0]'(by decide)).toNat : Int) == 107) = false := rfl
 have e1 : (((({ data := #[97, 98, 107, 110] } : ByteArray)[1]'(by decide)).toNat : Int) == 107) = false := rfl
 have e2 : (((({ data := #[97, 98, 107, 110] } : ByteArray)[2]'(by decide)).toNat : Int) == 107) = true := rfl
 go_enter Tryz.func60, Tryz.ntmps60
 go_wp2
 refine wp_loop_rounds 3 ?_
 rw [rounds_succ]; go_wp2
 rw [rounds_succ]; go_wp2
 rw [rounds_succ]; go_wp2
 go_ret
 exact ⟨rfl, (Below.refl _ _).alloc (Nat.le_refl _) _⟩
theorem nhas_abkn_n (f s : Int) (w : World) : Calls Tryz.prog 60 #[.agg #[.int .i64 f, .int .i64 s, .string { data := #[97, 98, 107, 110] }], .int .u8 110] w fun e w' => e = .returned (.bool true) ∧ Below w.heap.size w w' := by
 have e0 : (((({ data := #[97, 98, 107, 110] } : ByteArray)[0]'(by decide)).toNat : Int) == 110) = false := rfl
 have e1 : (((({ data := #[97, 98, 107, 110] } : ByteArray)[1]'(by decide)).toNat : Int) == 110) = false := rfl
 have e2 : (((({ data := #[97, 98, 107, 110] } : ByteArray)[2]'(by decide)).toNat : Int) == 110) = false := rfl
 have e3 : (((({ data := #[97, 98, 107, 110] } : ByteArray)[3]'(by decide)).toNat : Int) == 110) = true := rfl
 go_enter Tryz.func60, Tryz.ntmps60
 go_wp2
 refine wp_loop_rounds 4 ?_
 rw [rounds_succ]; go_wp2
 rw [rounds_succ]; go_wp2
 rw [rounds_succ]; go_wp2
 rw [rounds_succ]; go_wp2
 go_ret
 exact ⟨rfl, (Below.refl _ _).alloc (Nat.le_refl _) _⟩
theorem nhas_abkn (f s c : Int) (w : World) : Calls Tryz.prog 60 #[.agg #[.int .i64 f, .int .i64 s, .string { data := #[97, 98, 107, 110] }], .int .u8 c] w fun e w' => e = .returned (.bool (c == 97 || c == 98 || c == 107 || c == 110)) ∧ Below w.heap.size w w' := by
 by_cases ha : c = 97
 ·subst ha; exact nhas_abkn_a f s w
 by_cases hb : c = 98
 ·subst hb; exact nhas_abkn_b f s w
 by_cases hk : c = 107
 ·subst hk; exact nhas_abkn_k f s w
 by_cases hn : c = 110
 ·subst hn; exact nhas_abkn_n f s w
 have e0 : (((({ data := #[97, 98, 107, 110] } : ByteArray)[0]'(by decide)).toNat : Int) == c) = false := by show ((97 : Int) == c) = false; simp; omega
 have g0 : (c == 97) = false := by simp; omega
 have e1 : (((({ data := #[97, 98, 107, 110] } : ByteArray)[1]'(by decide)).toNat : Int) == c) = false := by show ((98 : Int) == c) = false; simp; omega
 have g1 : (c == 98) = false := by simp; omega
 have e2 : (((({ data := #[97, 98, 107, 110] } : ByteArray)[2]'(by decide)).toNat : Int) == c) = false := by show ((107 : Int) == c) = false; simp; omega
 have g2 : (c == 107) = false := by simp; omega
 have e3 : (((({ data := #[97, 98, 107, 110] } : ByteArray)[3]'(by decide)).toNat : Int) == c) = false := by show ((110 : Int) == c) = false; simp; omega
 have g3 : (c == 110) = false := by simp; omega
 simp only [g0, g1, g2, g3, Bool.or_self]
 clear g0 g1 g2 g3 ha hb hk hn
 go_enter Tryz.func60, Tryz.ntmps60
 go_wp2
 refine wp_loop_rounds 5 ?_
 rw [rounds_succ]; go_wp2
 rw [rounds_succ]; go_wp2
 rw [rounds_succ]; go_wp2
 rw [rounds_succ]; go_wp2
 rw [rounds_succ]; go_wp2
 go_ret
 exact ⟨rfl, (Below.refl _ _).alloc (Nat.le_refl _) _⟩
theorem nhas_kn_k (f s : Int) (w : World) : Calls Tryz.prog 60 #[.agg #[.int .i64 f, .int .i64 s, .string { data := #[107, 110] }], .int .u8 107] w fun e w' => e = .returned (.bool true) ∧ Below w.heap.size w w' := by
 have e0 : (((({ data := #[107, 110] } : ByteArray)[0]'(by decide)).toNat : Int) == 107) = true := rfl
 go_enter Tryz.func60, Tryz.ntmps60
 go_wp2
 refine wp_loop_rounds 1 ?_
 rw [rounds_succ]; go_wp2
 go_ret
 exact ⟨rfl, (Below.refl _ _).alloc (Nat.le_refl _) _⟩
theorem nhas_kn_n (f s : Int) (w : World) : Calls Tryz.prog 60 #[.agg #[.int .i64 f, .int .i64 s, .string { data := #[107, 110] }], .int .u8 110] w fun e w' => e = .returned (.bool true) ∧ Below w.heap.size w w' := by
 have e0 : (((({ data := #[107, 110] } : ByteArray)[0]'(by decide)).toNat : Int) == 110) = false := rfl
 have e1 : (((({ data := #[107, 110] } : ByteArray)[1]'(by decide)).toNat : Int) == 110) = true := rfl
 go_enter Tryz.func60, Tryz.ntmps60
 go_wp2
 refine wp_loop_rounds 2 ?_
 rw [rounds_succ]; go_wp2
 rw [rounds_succ]; go_wp2
 go_ret
 exact ⟨rfl, (Below.refl _ _).alloc (Nat.le_refl _) _⟩
theorem nhas_kn (f s c : Int) (w : World) : Calls Tryz.prog 60 #[.agg #[.int .i64 f, .int .i64 s, .string { data := #[107, 110] }], .int .u8 c] w fun e w' => e = .returned (.bool (c == 107 || c == 110)) ∧ Below w.heap.size w w' := by
 by_cases hk : c = 107
 ·subst hk; exact nhas_kn_k f s w
 by_cases hn : c = 110
 ·subst hn; exact nhas_kn_n f s w
 have e0 : (((({ data := #[107, 110] } : ByteArray)[0]'(by decide)).toNat : Int) == c) = false := by show ((107 : Int) == c) = false; simp; omega
 have g0 : (c == 107) = false := by simp; omega
 have e1 : (((({ data := #[107, 110] } : ByteArray)[1]'(by decide)).toNat : Int) == c) = false := by show ((110 : Int) == c) = false; simp; omega
 have g1 : (c == 110) = false := by simp; omega
 simp only [g0, g1, Bool.or_self]
 clear g0 g1 hk hn
 go_enter Tryz.func60, Tryz.ntmps60
 go_wp2
 refine wp_loop_rounds 3 ?_
 rw [rounds_succ]; go_wp2
 rw [rounds_succ]; go_wp2
 rw [rounds_succ]; go_wp2
 go_ret
 exact ⟨rfl, (Below.refl _ _).alloc (Nat.le_refl _) _⟩
theorem nhas_gkn_g (f s : Int) (w : World) : Calls Tryz.prog 60 #[.agg #[.int .i64 f, .int .i64 s, .string { data := #[103, 107, 110] }], .int .u8 103] w fun e w' => e = .returned (.bool true) ∧ Below w.heap.size w w' := by
 have e0 : (((({ data := #[103, 107, 110] } : ByteArray)[0]'(by decide)).toNat : Int) == 103) = true := rfl
 go_enter Tryz.func60, Tryz.ntmps60
 go_wp2
 refine wp_loop_rounds 1 ?_
 rw [rounds_succ]; go_wp2
 go_ret
 exact ⟨rfl, (Below.refl _ _).alloc (Nat.le_refl _) _⟩
theorem nhas_gkn_k (f s : Int) (w : World) : Calls Tryz.prog 60 #[.agg #[.int .i64 f, .int .i64 s, .string { data := #[103, 107, 110] }], .int .u8 107] w fun e w' => e = .returned (.bool true) ∧ Below w.heap.size w w' := by
 have e0 : (((({ data := #[103, 107, 110] } : ByteArray)[0]'(by decide)).toNat : Int) == 107) = false := rfl
 have e1 : (((({ data := #[103, 107, 110] } : ByteArray)[1]'(by decide)).toNat : Int) == 107) = true := rfl
 go_enter Tryz.func60, Tryz.ntmps60
 go_wp2
 refine wp_loop_rounds 2 ?_
 rw [rounds_succ]; go_wp2
 rw [rounds_succ]; go_wp2
 go_ret
 exact ⟨rfl, (Below.refl _ _).alloc (Nat.le_refl _) _⟩
theorem nhas_gkn_n (f s : Int) (w : World) : Calls Tryz.prog 60 #[.agg #[.int .i64 f, .int .i64 s, .string { data := #[103, 107, 110] }], .int .u8 110] w fun e w' => e = .returned (.bool true) ∧ Below w.heap.size w w' := by
 have e0 : (((({ data := #[103, 107, 110] } : ByteArray)[0]'(by decide)).toNat : Int) == 110) = false := rfl
 have e1 : (((({ data := #[103, 107, 110] } : ByteArray)[1]'(by decide)).toNat : Int) == 110) = false := rfl
 have e2 : (((({ data := #[103, 107, 110] } : ByteArray)[2]'(by decide)).toNat : Int) == 110) = true := rfl
 go_enter Tryz.func60, Tryz.ntmps60
 go_wp2
 refine wp_loop_rounds 3 ?_
 rw [rounds_succ]; go_wp2
 rw [rounds_succ]; go_wp2
 rw [rounds_succ]; go_wp2
 go_ret
 exact ⟨rfl, (Below.refl _ _).alloc (Nat.le_refl _) _⟩
theorem nhas_gkn (f s c : Int) (w : World) : Calls Tryz.prog 60 #[.agg #[.int .i64 f, .int .i64 s, .string { data := #[103, 107, 110] }], .int .u8 c] w fun e w' => e = .returned (.bool (c == 103 || c == 107 || c == 110)) ∧ Below w.heap.size w w' := by
 by_cases hg : c = 103
 ·subst hg; exact nhas_gkn_g f s w
 by_cases hk : c = 107
 ·subst hk; exact nhas_gkn_k f s w
 by_cases hn : c = 110
 ·subst hn; exact nhas_gkn_n f s w
 have e0 : (((({ data := #[103, 107, 110] } : ByteArray)[0]'(by decide)).toNat : Int) == c) = false := by show ((103 : Int) == c) = false; simp; omega
 have g0 : (c == 103) = false := by simp; omega
 have e1 : (((({ data := #[103, 107, 110] } : ByteArray)[1]'(by decide)).toNat : Int) == c) = false := by show ((107 : Int) == c) = false; simp; omega
 have g1 : (c == 107) = false := by simp; omega
 have e2 : (((({ data := #[103, 107, 110] } : ByteArray)[2]'(by decide)).toNat : Int) == c) = false := by show ((110 : Int) == c) = false; simp; omega
 have g2 : (c == 110) = false := by simp; omega
 simp only [g0, g1, g2, Bool.or_self]
 clear g0 g1 g2 hg hk hn
 go_enter Tryz.func60, Tryz.ntmps60
 go_wp2
 refine wp_loop_rounds 4 ?_
 rw [rounds_succ]; go_wp2
 rw [rounds_succ]; go_wp2
 rw [rounds_succ]; go_wp2
 rw [rounds_succ]; go_wp2
 go_ret
 exact ⟨rfl, (Below.refl _ _).alloc (Nat.le_refl _) _⟩
theorem nhas_an_a (f s : Int) (w : World) : Calls Tryz.prog 60 #[.agg #[.int .i64 f, .int .i64 s, .string { data := #[97, 110] }], .int .u8 97] w fun e w' => e = .returned (.bool true) ∧ Below w.heap.size w w' := by
 have e0 : (((({ data := #[97, 110] } : ByteArray)[0]'(by decide)).toNat : Int) == 97) = true := rfl
 go_enter Tryz.func60, Tryz.ntmps60
 go_wp2
 refine wp_loop_rounds 1 ?_
 rw [rounds_succ]; go_wp2
 go_ret
 exact ⟨rfl, (Below.refl _ _).alloc (Nat.le_refl _) _⟩
theorem nhas_an_n (f s : Int) (w : World) : Calls Tryz.prog 60 #[.agg #[.int .i64 f, .int .i64 s, .string { data := #[97, 110] }], .int .u8 110] w fun e w' => e = .returned (.bool true) ∧ Below w.heap.size w w' := by
 have e0 : (((({ data := #[97, 110] } : ByteArray)[0]'(by decide)).toNat : Int) == 110) = false := rfl
 have e1 : (((({ data := #[97, 110] } : ByteArray)[1]'(by decide)).toNat : Int) == 110) = true := rfl
 go_enter Tryz.func60, Tryz.ntmps60
 go_wp2
 refine wp_loop_rounds 2 ?_
 rw [rounds_succ]; go_wp2
 rw [rounds_succ]; go_wp2
 go_ret
 exact ⟨rfl, (Below.refl _ _).alloc (Nat.le_refl _) _⟩
theorem nhas_an (f s c : Int) (w : World) : Calls Tryz.prog 60 #[.agg #[.int .i64 f, .int .i64 s, .string { data := #[97, 110] }], .int .u8 c] w fun e w' => e = .returned (.bool (c == 97 || c == 110)) ∧ Below w.heap.size w w' := by
 by_cases ha : c = 97
 ·subst ha; exact nhas_an_a f s w
 by_cases hn : c = 110
 ·subst hn; exact nhas_an_n f s w
 have e0 : (((({ data := #[97, 110] } : ByteArray)[0]'(by decide)).toNat : Int) == c) = false := by show ((97 : Int) == c) = false; simp; omega
 have g0 : (c == 97) = false := by simp; omega
 have e1 : (((({ data := #[97, 110] } : ByteArray)[1]'(by decide)).toNat : Int) == c) = false := by show ((110 : Int) == c) = false; simp; omega
 have g1 : (c == 110) = false := by simp; omega
 simp only [g0, g1, Bool.or_self]
 clear g0 g1 ha hn
 go_enter Tryz.func60, Tryz.ntmps60
 go_wp2
 refine wp_loop_rounds 3 ?_
 rw [rounds_succ]; go_wp2
 rw [rounds_succ]; go_wp2
 rw [rounds_succ]; go_wp2
 go_ret
 exact ⟨rfl, (Below.refl _ _).alloc (Nat.le_refl _) _⟩
end Go.Proofs.YtcjcmnnhmajocabGreat.Ic
