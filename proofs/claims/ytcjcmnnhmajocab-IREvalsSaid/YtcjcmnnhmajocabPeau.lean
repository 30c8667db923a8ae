/- ir.ruleOf, crossgrainref3.needs and need.has, of every kind, by one table. -/
import Derived.Test.YtcjcmnnhmajocabPeal
import Derived.Test.YtcjcmnnhmajocabPeao
import Derived.Test.YtcjcmnnhmajocabPeap
import Derived.Test.YtcjcmnnhmajocabPeaq
import Derived.Test.YtcjcmnnhmajocabPear
import Derived.Test.YtcjcmnnhmajocabPeas
import Derived.Test.YtcjcmnnhmajocabPeat
namespace Go.Proofs.Ytcjcmnnhmajocab.Ic
open Go.RowKit
set_option linter.unusedVariables false
set_option linter.unusedSimpArgs false
def rS (k : Int) : Int := match k with
  | 1 => 0
  | 2 => 12
  | 3 => 12
  | 4 => 16
  | 5 => 7
  | 6 => 0
  | 7 => 13
  | 8 => 16
  | 9 => 5
  | 10 => 3
  | 11 => 0
  | 12 => 0
  | 13 => 8
  | 14 => 8
  | 15 => 0
  | 16 => 0
  | 17 => 0
  | _ => 0
def nF (k : Int) : Int := match k with
  | 1 => 0
  | 2 => 0
  | 3 => 0
  | 4 => 0
  | 5 => 0
  | 6 => 0
  | 7 => 0
  | 8 => 0
  | 9 => 0
  | 10 => 0
  | 11 => 0
  | 12 => 0
  | 13 => 1
  | 14 => 1
  | 15 => 0
  | 16 => 0
  | 17 => 0
  | _ => 0
def nS (k : Int) : Int := match k with
  | 1 => 1
  | 2 => 12
  | 3 => 12
  | 4 => 16
  | 5 => 7
  | 6 => 1
  | 7 => 13
  | 8 => 16
  | 9 => 5
  | 10 => 3
  | 11 => 1
  | 12 => 1
  | 13 => 7
  | 14 => 7
  | 15 => 1
  | 16 => 1
  | 17 => 1
  | _ => 0
def nT (k : Int) : ByteArray := match k with
  | 1 => { data := #[107] }
  | 2 => { data := #[] }
  | 3 => { data := #[97] }
  | 4 => { data := #[97, 98] }
  | 5 => { data := #[97] }
  | 6 => { data := #[97, 98, 99] }
  | 7 => { data := #[97, 98, 99] }
  | 8 => { data := #[97] }
  | 9 => { data := #[97, 107, 110] }
  | 10 => { data := #[97, 98, 107, 110] }
  | 11 => { data := #[107, 110] }
  | 12 => { data := #[97, 107, 110] }
  | 13 => { data := #[97, 107, 110] }
  | 14 => { data := #[103, 107, 110] }
  | 15 => { data := #[107, 110] }
  | 16 => { data := #[97, 110] }
  | 17 => { data := #[] }
  | _ => { data := #[] }
def rA (k : Int) : Bool := match k with
  | 1 => false
  | 2 => false
  | 3 => true
  | 4 => true
  | 5 => true
  | 6 => true
  | 7 => true
  | 8 => true
  | 9 => true
  | 10 => true
  | 11 => false
  | 12 => true
  | 13 => true
  | 14 => false
  | 15 => false
  | 16 => true
  | 17 => false
  | _ => false
def rB (k : Int) : Bool := match k with
  | 1 => false
  | 2 => false
  | 3 => false
  | 4 => true
  | 5 => false
  | 6 => true
  | 7 => true
  | 8 => false
  | 9 => false
  | 10 => true
  | 11 => false
  | 12 => false
  | 13 => false
  | 14 => false
  | 15 => false
  | 16 => false
  | 17 => false
  | _ => false
def rC (k : Int) : Bool := match k with
  | 1 => false
  | 2 => false
  | 3 => false
  | 4 => false
  | 5 => false
  | 6 => true
  | 7 => true
  | 8 => false
  | 9 => false
  | 10 => false
  | 11 => false
  | 12 => false
  | 13 => false
  | 14 => false
  | 15 => false
  | 16 => false
  | 17 => false
  | _ => false
def rK (k : Int) : Bool := match k with
  | 1 => true
  | 2 => false
  | 3 => false
  | 4 => false
  | 5 => false
  | 6 => false
  | 7 => false
  | 8 => false
  | 9 => true
  | 10 => true
  | 11 => true
  | 12 => true
  | 13 => true
  | 14 => true
  | 15 => true
  | 16 => false
  | 17 => false
  | _ => false
def rN (k : Int) : Bool := match k with
  | 1 => false
  | 2 => false
  | 3 => false
  | 4 => false
  | 5 => false
  | 6 => false
  | 7 => false
  | 8 => false
  | 9 => true
  | 10 => true
  | 11 => true
  | 12 => true
  | 13 => true
  | 14 => true
  | 15 => true
  | 16 => true
  | 17 => false
  | _ => false
def rG (k : Int) : Bool := match k with
  | 1 => false
  | 2 => false
  | 3 => false
  | 4 => false
  | 5 => false
  | 6 => false
  | 7 => false
  | 8 => false
  | 9 => false
  | 10 => false
  | 11 => false
  | 12 => false
  | 13 => false
  | 14 => true
  | 15 => false
  | 16 => false
  | 17 => false
  | _ => false
def rF (k : Int) : Bool := match k with
  | 1 => false
  | 2 => false
  | 3 => false
  | 4 => false
  | 5 => false
  | 6 => false
  | 7 => false
  | 8 => false
  | 9 => false
  | 10 => false
  | 11 => false
  | 12 => false
  | 13 => false
  | 14 => true
  | 15 => true
  | 16 => true
  | 17 => false
  | _ => false
def rO (k : Int) : Bool := match k with
  | 1 => true
  | 2 => true
  | 3 => true
  | 4 => true
  | 5 => true
  | 6 => true
  | 7 => true
  | 8 => true
  | 9 => true
  | 10 => true
  | 11 => true
  | 12 => true
  | 13 => true
  | 14 => true
  | 15 => true
  | 16 => true
  | 17 => true
  | _ => false
theorem kinds (k : Int) : k < 1 ∨ 17 < k ∨ (k = 1 ∨ k = 2 ∨ k = 3 ∨ k = 4 ∨ k = 5 ∨ k = 6 ∨ k = 7 ∨ k = 8 ∨ k = 9 ∨ k = 10 ∨ k = 11 ∨ k = 12 ∨ k = 13 ∨ k = 14 ∨ k = 15 ∨ k = 16 ∨ k = 17) := by omega
theorem rF_fin (k : Int) : rF k = fin k := by
  rcases kinds k with h | h | h
  · rw [show fin k = false from decide_eq_false (by omega)]
    unfold rF
    split <;> first | rfl | omega
  · rw [show fin k = false from decide_eq_false (by omega)]
    unfold rF
    split <;> first | rfl | omega
  · rcases h with rfl | rfl | rfl | rfl | rfl | rfl | rfl | rfl | rfl | rfl | rfl | rfl | rfl | rfl | rfl | rfl | rfl <;> rfl
theorem rS_out {k : Int} (h : k < 1 ∨ 17 < k) : rS k = 0 := by
  unfold rS
  split <;> first | rfl | omega
theorem nF_out {k : Int} (h : k < 1 ∨ 17 < k) : nF k = 0 := by
  unfold nF
  split <;> first | rfl | omega
theorem nS_out {k : Int} (h : k < 1 ∨ 17 < k) : nS k = 0 := by
  unfold nS
  split <;> first | rfl | omega
theorem nT_out {k : Int} (h : k < 1 ∨ 17 < k) : nT k = { data := #[] } := by
  unfold nT
  split <;> first | rfl | omega
theorem rA_out {k : Int} (h : k < 1 ∨ 17 < k) : rA k = false := by
  unfold rA
  split <;> first | rfl | omega
theorem rB_out {k : Int} (h : k < 1 ∨ 17 < k) : rB k = false := by
  unfold rB
  split <;> first | rfl | omega
theorem rC_out {k : Int} (h : k < 1 ∨ 17 < k) : rC k = false := by
  unfold rC
  split <;> first | rfl | omega
theorem rK_out {k : Int} (h : k < 1 ∨ 17 < k) : rK k = false := by
  unfold rK
  split <;> first | rfl | omega
theorem rN_out {k : Int} (h : k < 1 ∨ 17 < k) : rN k = false := by
  unfold rN
  split <;> first | rfl | omega
theorem rG_out {k : Int} (h : k < 1 ∨ 17 < k) : rG k = false := by
  unfold rG
  split <;> first | rfl | omega
theorem rF_out {k : Int} (h : k < 1 ∨ 17 < k) : rF k = false := by
  unfold rF
  split <;> first | rfl | omega
theorem rO_out {k : Int} (h : k < 1 ∨ 17 < k) : rO k = false := by
  unfold rO
  split <;> first | rfl | omega
theorem ruleOf_any (k : Int) (w : World) : Calls Try.prog 157 #[.int .i64 k] w fun e w' => e = .returned (.tuple #[.agg #[.int .i64 (rS k), .bool (rA k), .bool (rB k), .bool (rC k), .bool (rK k), .bool (rN k), .bool (rG k), .bool (rF k)], .bool (rO k)]) ∧ Below w.heap.size w w' := by
  rcases kinds k with h | h | h
  · rw [rS_out (.inl h), rA_out (.inl h), rB_out (.inl h), rC_out (.inl h), rK_out (.inl h), rN_out (.inl h), rG_out (.inl h), rF_out (.inl h), rO_out (.inl h)]
    exact ruleOf_low k h w
  · rw [rS_out (.inr h), rA_out (.inr h), rB_out (.inr h), rC_out (.inr h), rK_out (.inr h), rN_out (.inr h), rG_out (.inr h), rF_out (.inr h), rO_out (.inr h)]
    exact ruleOf_high k h w
  · rcases h with rfl | rfl | rfl | rfl | rfl | rfl | rfl | rfl | rfl | rfl | rfl | rfl | rfl | rfl | rfl | rfl | rfl
    · exact ruleOf_1 w
    · exact ruleOf_2 w
    · exact ruleOf_3 w
    · exact ruleOf_4 w
    · exact ruleOf_5 w
    · exact ruleOf_6 w
    · exact ruleOf_7 w
    · exact ruleOf_8 w
    · exact ruleOf_9 w
    · exact ruleOf_10 w
    · exact ruleOf_11 w
    · exact ruleOf_12 w
    · exact ruleOf_13 w
    · exact ruleOf_14 w
    · exact ruleOf_15 w
    · exact ruleOf_16 w
    · exact ruleOf_17 w
theorem needs_any (k : Int) (w : World) : Calls Try.prog 49 #[.int .i64 k] w fun e w' => e = .returned (.tuple #[.agg #[.int .i64 (nF k), .int .i64 (nS k), .string (nT k)], .bool (rO k)]) ∧ Below w.heap.size w w' := by
  rcases kinds k with h | h | h
  · rw [nF_out (.inl h), nS_out (.inl h), nT_out (.inl h), rO_out (.inl h)]
    exact needs_low k h w
  · rw [nF_out (.inr h), nS_out (.inr h), nT_out (.inr h), rO_out (.inr h)]
    exact needs_high k h w
  · rcases h with rfl | rfl | rfl | rfl | rfl | rfl | rfl | rfl | rfl | rfl | rfl | rfl | rfl | rfl | rfl | rfl | rfl
    · exact needs_1 w
    · exact needs_2 w
    · exact needs_3 w
    · exact needs_4 w
    · exact needs_5 w
    · exact needs_6 w
    · exact needs_7 w
    · exact needs_8 w
    · exact needs_9 w
    · exact needs_10 w
    · exact needs_11 w
    · exact needs_12 w
    · exact needs_13 w
    · exact needs_14 w
    · exact needs_15 w
    · exact needs_16 w
    · exact needs_17 w
theorem hasK (k : Int) (w : World) : Calls Try.prog 50 #[.agg #[.int .i64 (nF k), .int .i64 (nS k), .string (nT k)], .int .u8 107] w fun e w' => e = .returned (.bool (rK k)) ∧ Below w.heap.size w w' := by
  rcases kinds k with h | h | h
  · rw [nF_out (.inl h), nS_out (.inl h), nT_out (.inl h), rK_out (.inl h)]
    exact nhas_none _ _ _ w
  · rw [nF_out (.inr h), nS_out (.inr h), nT_out (.inr h), rK_out (.inr h)]
    exact nhas_none _ _ _ w
  · rcases h with rfl | rfl | rfl | rfl | rfl | rfl | rfl | rfl | rfl | rfl | rfl | rfl | rfl | rfl | rfl | rfl | rfl
    · exact nhas_k _ _ _ w
    · exact nhas_none _ _ _ w
    · exact nhas_a _ _ _ w
    · exact nhas_ab _ _ _ w
    · exact nhas_a _ _ _ w
    · exact nhas_abc _ _ _ w
    · exact nhas_abc _ _ _ w
    · exact nhas_a _ _ _ w
    · exact nhas_akn _ _ _ w
    · exact nhas_abkn _ _ _ w
    · exact nhas_kn _ _ _ w
    · exact nhas_akn _ _ _ w
    · exact nhas_akn _ _ _ w
    · exact nhas_gkn _ _ _ w
    · exact nhas_kn _ _ _ w
    · exact nhas_an _ _ _ w
    · exact nhas_none _ _ _ w
theorem hasN (k : Int) (w : World) : Calls Try.prog 50 #[.agg #[.int .i64 (nF k), .int .i64 (nS k), .string (nT k)], .int .u8 110] w fun e w' => e = .returned (.bool (rN k)) ∧ Below w.heap.size w w' := by
  rcases kinds k with h | h | h
  · rw [nF_out (.inl h), nS_out (.inl h), nT_out (.inl h), rN_out (.inl h)]
    exact nhas_none _ _ _ w
  · rw [nF_out (.inr h), nS_out (.inr h), nT_out (.inr h), rN_out (.inr h)]
    exact nhas_none _ _ _ w
  · rcases h with rfl | rfl | rfl | rfl | rfl | rfl | rfl | rfl | rfl | rfl | rfl | rfl | rfl | rfl | rfl | rfl | rfl
    · exact nhas_k _ _ _ w
    · exact nhas_none _ _ _ w
    · exact nhas_a _ _ _ w
    · exact nhas_ab _ _ _ w
    · exact nhas_a _ _ _ w
    · exact nhas_abc _ _ _ w
    · exact nhas_abc _ _ _ w
    · exact nhas_a _ _ _ w
    · exact nhas_akn _ _ _ w
    · exact nhas_abkn _ _ _ w
    · exact nhas_kn _ _ _ w
    · exact nhas_akn _ _ _ w
    · exact nhas_akn _ _ _ w
    · exact nhas_gkn _ _ _ w
    · exact nhas_kn _ _ _ w
    · exact nhas_an _ _ _ w
    · exact nhas_none _ _ _ w
theorem hasA (k : Int) (w : World) : Calls Try.prog 50 #[.agg #[.int .i64 (nF k), .int .i64 (nS k), .string (nT k)], .int .u8 97] w fun e w' => e = .returned (.bool (rA k)) ∧ Below w.heap.size w w' := by
  rcases kinds k with h | h | h
  · rw [nF_out (.inl h), nS_out (.inl h), nT_out (.inl h), rA_out (.inl h)]
    exact nhas_none _ _ _ w
  · rw [nF_out (.inr h), nS_out (.inr h), nT_out (.inr h), rA_out (.inr h)]
    exact nhas_none _ _ _ w
  · rcases h with rfl | rfl | rfl | rfl | rfl | rfl | rfl | rfl | rfl | rfl | rfl | rfl | rfl | rfl | rfl | rfl | rfl
    · exact nhas_k _ _ _ w
    · exact nhas_none _ _ _ w
    · exact nhas_a _ _ _ w
    · exact nhas_ab _ _ _ w
    · exact nhas_a _ _ _ w
    · exact nhas_abc _ _ _ w
    · exact nhas_abc _ _ _ w
    · exact nhas_a _ _ _ w
    · exact nhas_akn _ _ _ w
    · exact nhas_abkn _ _ _ w
    · exact nhas_kn _ _ _ w
    · exact nhas_akn _ _ _ w
    · exact nhas_akn _ _ _ w
    · exact nhas_gkn _ _ _ w
    · exact nhas_kn _ _ _ w
    · exact nhas_an _ _ _ w
    · exact nhas_none _ _ _ w
theorem hasB (k : Int) (w : World) : Calls Try.prog 50 #[.agg #[.int .i64 (nF k), .int .i64 (nS k), .string (nT k)], .int .u8 98] w fun e w' => e = .returned (.bool (rB k)) ∧ Below w.heap.size w w' := by
  rcases kinds k with h | h | h
  · rw [nF_out (.inl h), nS_out (.inl h), nT_out (.inl h), rB_out (.inl h)]
    exact nhas_none _ _ _ w
  · rw [nF_out (.inr h), nS_out (.inr h), nT_out (.inr h), rB_out (.inr h)]
    exact nhas_none _ _ _ w
  · rcases h with rfl | rfl | rfl | rfl | rfl | rfl | rfl | rfl | rfl | rfl | rfl | rfl | rfl | rfl | rfl | rfl | rfl
    · exact nhas_k _ _ _ w
    · exact nhas_none _ _ _ w
    · exact nhas_a _ _ _ w
    · exact nhas_ab _ _ _ w
    · exact nhas_a _ _ _ w
    · exact nhas_abc _ _ _ w
    · exact nhas_abc _ _ _ w
    · exact nhas_a _ _ _ w
    · exact nhas_akn _ _ _ w
    · exact nhas_abkn _ _ _ w
    · exact nhas_kn _ _ _ w
    · exact nhas_akn _ _ _ w
    · exact nhas_akn _ _ _ w
    · exact nhas_gkn _ _ _ w
    · exact nhas_kn _ _ _ w
    · exact nhas_an _ _ _ w
    · exact nhas_none _ _ _ w
theorem hasC (k : Int) (w : World) : Calls Try.prog 50 #[.agg #[.int .i64 (nF k), .int .i64 (nS k), .string (nT k)], .int .u8 99] w fun e w' => e = .returned (.bool (rC k)) ∧ Below w.heap.size w w' := by
  rcases kinds k with h | h | h
  · rw [nF_out (.inl h), nS_out (.inl h), nT_out (.inl h), rC_out (.inl h)]
    exact nhas_none _ _ _ w
  · rw [nF_out (.inr h), nS_out (.inr h), nT_out (.inr h), rC_out (.inr h)]
    exact nhas_none _ _ _ w
  · rcases h with rfl | rfl | rfl | rfl | rfl | rfl | rfl | rfl | rfl | rfl | rfl | rfl | rfl | rfl | rfl | rfl | rfl
    · exact nhas_k _ _ _ w
    · exact nhas_none _ _ _ w
    · exact nhas_a _ _ _ w
    · exact nhas_ab _ _ _ w
    · exact nhas_a _ _ _ w
    · exact nhas_abc _ _ _ w
    · exact nhas_abc _ _ _ w
    · exact nhas_a _ _ _ w
    · exact nhas_akn _ _ _ w
    · exact nhas_abkn _ _ _ w
    · exact nhas_kn _ _ _ w
    · exact nhas_akn _ _ _ w
    · exact nhas_akn _ _ _ w
    · exact nhas_gkn _ _ _ w
    · exact nhas_kn _ _ _ w
    · exact nhas_an _ _ _ w
    · exact nhas_none _ _ _ w
theorem hasG (k : Int) (w : World) : Calls Try.prog 50 #[.agg #[.int .i64 (nF k), .int .i64 (nS k), .string (nT k)], .int .u8 103] w fun e w' => e = .returned (.bool (rG k)) ∧ Below w.heap.size w w' := by
  rcases kinds k with h | h | h
  · rw [nF_out (.inl h), nS_out (.inl h), nT_out (.inl h), rG_out (.inl h)]
    exact nhas_none _ _ _ w
  · rw [nF_out (.inr h), nS_out (.inr h), nT_out (.inr h), rG_out (.inr h)]
    exact nhas_none _ _ _ w
  · rcases h with rfl | rfl | rfl | rfl | rfl | rfl | rfl | rfl | rfl | rfl | rfl | rfl | rfl | rfl | rfl | rfl | rfl
    · exact nhas_k _ _ _ w
    · exact nhas_none _ _ _ w
    · exact nhas_a _ _ _ w
    · exact nhas_ab _ _ _ w
    · exact nhas_a _ _ _ w
    · exact nhas_abc _ _ _ w
    · exact nhas_abc _ _ _ w
    · exact nhas_a _ _ _ w
    · exact nhas_akn _ _ _ w
    · exact nhas_abkn _ _ _ w
    · exact nhas_kn _ _ _ w
    · exact nhas_akn _ _ _ w
    · exact nhas_akn _ _ _ w
    · exact nhas_gkn _ _ _ w
    · exact nhas_kn _ _ _ w
    · exact nhas_an _ _ _ w
    · exact nhas_none _ _ _ w
end Go.Proofs.Ytcjcmnnhmajocab.Ic
