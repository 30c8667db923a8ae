/- What the flags of a difference tell (plain numbers). -/
import Derived.Test.YtcjcmnnhmajocaaReckonR
namespace Go.Proofs.Ytcjcmnnhmajocaa.Fl
open Go.RowKit Kt
set_option linter.unusedVariables false
set_option linter.unusedSimpArgs false
theorem fsub_bits (a b : Int) (h0 : 0 ≤ a) (g0 : a < 4294967296) (h1 : 0 ≤ b) (g1 : b < 4294967296) :
    (fSub a b 0 % 2 == 1) = decide (a = b) ∧ (fSub a b 0 / 2 % 2 == 1) = decide (2147483648 ≤ (a - b) % 4294967296) ∧ (fSub a b 0 / 4 % 2 == 1) = decide (a < b) ∧ (fSub a b 0 / 8 % 2 == 1) = past (sg a - sg b) := by
  obtain ⟨u, v, h3, h4, h5, h6, h7, h8, e⟩ := fSub_parts a b 0
  rw [Int.sub_zero] at h7 e
  rw [show sg a - sg b - 0 = sg a - sg b by omega] at h8
  obtain ⟨p, q, hp0, hp1, hq0, hq1, hp, hq, ez⟩ : ∃ p q : Int, 0 ≤ p ∧ p < 2 ∧ 0 ≤ q ∧ q < 2 ∧ (p = 1 ↔ (a - b) % 4294967296 = 0) ∧ (q = 1 ↔ 2147483648 ≤ (a - b) % 4294967296) ∧ zn ((a - b) % 4294967296) = p + 2 * q := by
    refine ⟨if (a - b) % 4294967296 = 0 then 1 else 0, if 2147483648 ≤ (a - b) % 4294967296 then 1 else 0, ?_, ?_, ?_, ?_, ?_, ?_, ?_⟩
    any_goals (split <;> omega)
    unfold zn; split <;> split <;> omega
  have hu : u = 1 ↔ a < b := by split at h7 <;> omega
  have hv : v = 1 ↔ past (sg a - sg b) = true := by
    cases hpp : past (sg a - sg b) <;> rw [hpp] at h8 <;> simp at h8 ⊢ <;> omega
  rw [e, ez]
  refine ⟨?_, ?_, ?_, ?_⟩
  · rw [Bool.eq_iff_iff, beq_iff_eq, decide_eq_true_eq]; constructor <;> intro _ <;> omega
  · rw [Bool.eq_iff_iff, beq_iff_eq, decide_eq_true_eq]; constructor <;> intro _ <;> omega
  · rw [Bool.eq_iff_iff, beq_iff_eq, decide_eq_true_eq, ← hu]; constructor <;> intro _ <;> omega
  · rw [Bool.eq_iff_iff, beq_iff_eq, ← hv]; constructor <;> intro _ <;> omega
theorem past_iff (x : Int) : past x = decide (2147483648 ≤ x ∨ x < -2147483648) := by unfold past; rw [← Bool.decide_or]
theorem cmp_lt (a b : Int) (h0 : 0 ≤ a) (g0 : a < 4294967296) (h1 : 0 ≤ b) (g1 : b < 4294967296) :
    (decide (2147483648 ≤ (a - b) % 4294967296) != past (sg a - sg b)) = decide (sg a < sg b) := by
  rw [past_iff, Bool.eq_iff_iff, bne_iff_ne, ne_eq, decide_eq_decide, decide_eq_true_eq]
  unfold sg; split <;> split <;> omega
theorem cmp_hd (a b : Int) (h0 : 0 ≤ a) (g0 : a < 4294967296) (h1 : 0 ≤ b) (g1 : b < 4294967296) :
    hd 2 (fl 3 a b 0) = decide (a < b) ∧ hd 4 (fl 3 a b 0) = decide (a = b) ∧ hd 6 (fl 3 a b 0) = decide (a ≤ b) ∧ hd 10 (fl 3 a b 0) = decide (sg a < sg b) ∧ hd 12 (fl 3 a b 0) = decide (sg a ≤ sg b) ∧ hd 13 (fl 3 a b 0) = decide (sg b < sg a) := by
  have e : fl 3 a b 0 = fSub a b 0 := rfl
  obtain ⟨z, n, y, v⟩ := fsub_bits a b h0 g0 h1 g1
  rw [e]
  have d2 : hd 2 (fSub a b 0) = hbase 1 (fSub a b 0 % 2 == 1) (fSub a b 0 / 2 % 2 == 1) (fSub a b 0 / 4 % 2 == 1) (fSub a b 0 / 8 % 2 == 1) := rfl
  have d4 : hd 4 (fSub a b 0) = hbase 2 (fSub a b 0 % 2 == 1) (fSub a b 0 / 2 % 2 == 1) (fSub a b 0 / 4 % 2 == 1) (fSub a b 0 / 8 % 2 == 1) := rfl
  have d6 : hd 6 (fSub a b 0) = hbase 3 (fSub a b 0 % 2 == 1) (fSub a b 0 / 2 % 2 == 1) (fSub a b 0 / 4 % 2 == 1) (fSub a b 0 / 8 % 2 == 1) := rfl
  have d10 : hd 10 (fSub a b 0) = hbase 5 (fSub a b 0 % 2 == 1) (fSub a b 0 / 2 % 2 == 1) (fSub a b 0 / 4 % 2 == 1) (fSub a b 0 / 8 % 2 == 1) := rfl
  have d12 : hd 12 (fSub a b 0) = hbase 6 (fSub a b 0 % 2 == 1) (fSub a b 0 / 2 % 2 == 1) (fSub a b 0 / 4 % 2 == 1) (fSub a b 0 / 8 % 2 == 1) := rfl
  have d13 : hd 13 (fSub a b 0) = !hbase 6 (fSub a b 0 % 2 == 1) (fSub a b 0 / 2 % 2 == 1) (fSub a b 0 / 4 % 2 == 1) (fSub a b 0 / 8 % 2 == 1) := rfl
  rw [d2, d4, d6, d10, d12, d13, z, n, y, v]
  have key := cmp_lt a b h0 g0 h1 g1
  refine ⟨rfl, rfl, ?_, ?_, ?_, ?_⟩
  · show (decide (a < b) || decide (a = b)) = _
    rw [Bool.eq_iff_iff]; simp; omega
  · exact key
  · show (decide (a = b) || (decide (2147483648 ≤ (a - b) % 4294967296) != past (sg a - sg b))) = _
    rw [key, ← Bool.decide_or, decide_eq_decide]; unfold sg; split <;> split <;> omega
  · show (!(decide (a = b) || (decide (2147483648 ≤ (a - b) % 4294967296) != past (sg a - sg b)))) = _
    rw [key, ← Bool.decide_or, ← decide_not, decide_eq_decide]; unfold sg; split <;> split <;> omega
theorem or_hi (a b : Int) (h0 : 0 ≤ a) (g0 : a < 4294967296) (h1 : 0 ≤ b) (g1 : b < 4294967296) : bits .or .u64 (b * 4294967296) a = b * 4294967296 + a := by
  obtain ⟨A, rfl⟩ := Int.eq_ofNat_of_zero_le h0
  obtain ⟨B, rfl⟩ := Int.eq_ofNat_of_zero_le h1
  have e : ((B : Int) * 4294967296) = ((B * 4294967296 : Nat) : Int) := by omega
  rw [e, u64_or_nat _ _ (by omega) (by omega)]
  have := Nat.two_pow_add_eq_or_of_lt (i := 32) (b := A) (by omega) B
  have e2 : B * 4294967296 ||| A = B * 4294967296 + A := by rw [show B * 4294967296 = 2 ^ 32 * B by omega, ← this]
  rw [e2]; omega
theorem add_carry (a c : Int) (h0 : 0 ≤ a) (g0 : a < 4294967296) (h1 : 0 ≤ c) (g1 : c < 4294967296) : fl 1 a c 0 / 4 % 2 = (a + c) / 4294967296 := by
  show fAdd a c 0 / 4 % 2 = _
  obtain ⟨u, v, h3, h4, h5, h6, h7, h8, e⟩ := fAdd_parts a c 0
  have hz := zn_lt ((a + c + 0) % 4294967296)
  rw [Int.add_zero] at *
  split at h7 <;> omega
theorem sub_carry (a c : Int) (h0 : 0 ≤ a) (g0 : a < 4294967296) (h1 : 0 ≤ c) (g1 : c < 4294967296) : fl 3 a c 0 / 4 % 2 = if a < c then 1 else 0 := by
  show fSub a c 0 / 4 % 2 = _
  obtain ⟨u, v, h3, h4, h5, h6, h7, h8, e⟩ := fSub_parts a c 0
  have hz := zn_lt ((a - c - 0) % 4294967296)
  rw [Int.sub_zero] at *
  split at h7 <;> split <;> omega
end Go.Proofs.Ytcjcmnnhmajocaa.Fl
