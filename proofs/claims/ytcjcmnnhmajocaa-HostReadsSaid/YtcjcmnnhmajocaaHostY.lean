import Derived.Test.YtcjcmnnhmajocaaHostX
namespace Go.Proofs.Ytcjcmnnhmajocaa.Ho
open Go.RowKit Kt
set_option linter.unusedVariables false
set_option linter.unusedSimpArgs false
theorem gmath_1 {v k x : Int} (h0 : 0 ≤ v) (g0 : v < 4294967296) (h : good 1 v) : EOK 1 (v % 256) (v / 256 % 16) (v / 256 / 16 % 16) (v / 256 / 16 / 16 % 16) (0) (0) 0 0 ∧ sumw (v % 256) (v / 256 % 16) (v / 256 / 16 % 16) (v / 256 / 16 / 16 % 16) (0) (0) = v := by
  rw [good_1] at h
  rw [eok_1]
  unfold sumw
  omega
theorem gmath_2 {v k x : Int} (h0 : 0 ≤ v) (g0 : v < 4294967296) (h : good 2 v) : EOK 2 (v % 256) (v / 256 % 16) (v / 256 / 16 % 16) (0) (0) (0) 0 0 ∧ sumw (v % 256) (v / 256 % 16) (v / 256 / 16 % 16) (0) (0) (0) = v := by
  rw [good_2] at h
  rw [eok_2]
  unfold sumw
  omega
theorem gmath_3 {v k x : Int} (h0 : 0 ≤ v) (g0 : v < 4294967296) (h : good 3 v) : EOK 3 (v % 256) (v / 256 % 16) (v / 256 / 16 % 16) (v / 256 / 16 / 16 % 16) (v / 256 / 16 / 16 / 16 % 16) (0) 0 0 ∧ sumw (v % 256) (v / 256 % 16) (v / 256 / 16 % 16) (v / 256 / 16 / 16 % 16) (v / 256 / 16 / 16 / 16 % 16) (0) = v := by
  rw [good_3] at h
  rw [eok_3]
  unfold sumw
  omega
theorem gmath_4 {v k x : Int} (h0 : 0 ≤ v) (g0 : v < 4294967296) (h : good 4 v) : EOK 4 (v % 256) (v / 256 % 16) (v / 256 / 16 % 16) (0) (0) (v / 256 / 16 / 16 % 65536) k 0 ∧ sumw (v % 256) (v / 256 % 16) (v / 256 / 16 % 16) (0) (0) (v / 256 / 16 / 16 % 65536) = v := by
  rw [good_4] at h
  rw [eok_4]
  unfold sumw
  omega
theorem gmath_5 {v k x : Int} (h0 : 0 ≤ v) (g0 : v < 4294967296) (h : good 5 v) : EOK 5 (v % 256) (v / 256 % 16) (0) (0) (0) (0) 0 0 ∧ sumw (v % 256) (v / 256 % 16) (0) (0) (0) (0) = v := by
  rw [good_5] at h
  rw [eok_5]
  unfold sumw
  omega
theorem gmath_6 {v k x : Int} (h0 : 0 ≤ v) (g0 : v < 4294967296) (h : good 6 v) : EOK 6 (v % 256) (0) (v / 256 / 16 % 16) (0) (0) (v / 256 / 16 / 16 % 65536) k 0 ∧ sumw (v % 256) (0) (v / 256 / 16 % 16) (0) (0) (v / 256 / 16 / 16 % 65536) = v := by
  rw [good_6] at h
  rw [eok_6]
  unfold sumw
  omega
theorem gmath_7 {v k x : Int} (h0 : 0 ≤ v) (g0 : v < 4294967296) (h : good 7 v) : EOK 7 (v % 256) (0) (0) (0) (0) (v / 256 / 16 / 16 % 65536) k 0 ∧ sumw (v % 256) (0) (0) (0) (0) (v / 256 / 16 / 16 % 65536) = v := by
  rw [good_7] at h
  rw [eok_7]
  unfold sumw
  omega
theorem gmath_8 {v k x : Int} (h0 : 0 ≤ v) (g0 : v < 4294967296) (h : good 8 v) : EOK 8 (v % 256) (v / 256 % 16) (0) (0) (0) (0) k 0 ∧ sumw (v % 256) (v / 256 % 16) (0) (0) (0) (0) = v := by
  rw [good_8] at h
  rw [eok_8]
  unfold sumw
  omega
theorem gmath_9 {v k x : Int} (h0 : 0 ≤ v) (g0 : v < 4294967296) (h : good 9 v) : EOK 9 (v % 256) (0) (v / 256 / 16 % 16) (0) (0) (v / 256 / 16 / 16 % 65536) 0 0 ∧ sumw (v % 256) (0) (v / 256 / 16 % 16) (0) (0) (v / 256 / 16 / 16 % 65536) = v := by
  rw [good_9] at h
  rw [eok_9]
  unfold sumw
  omega
theorem gmath_10 {v k x : Int} (h0 : 0 ≤ v) (g0 : v < 4294967296) (h : good 10 v) : EOK 10 (v % 256) (v / 256 % 16) (0) (0) (0) (v / 256 / 16 / 16 % 65536) 0 0 ∧ sumw (v % 256) (v / 256 % 16) (0) (0) (0) (v / 256 / 16 / 16 % 65536) = v := by
  rw [good_10] at h
  rw [eok_10]
  unfold sumw
  omega
theorem gmath_11 {v k x : Int} (h0 : 0 ≤ v) (g0 : v < 4294967296) (h : good 11 v) : EOK 11 (v % 256) (0) (v / 256 / 16 % 16) (0) (0) (v / 256 / 16 / 16 % 65536) 0 0 ∧ sumw (v % 256) (0) (v / 256 / 16 % 16) (0) (0) (v / 256 / 16 / 16 % 65536) = v := by
  rw [good_11] at h
  rw [eok_11]
  unfold sumw
  omega
theorem gmath_12 {v k x : Int} (h0 : 0 ≤ v) (g0 : v < 4294967296) (h : good 12 v) : EOK 12 (v % 256) (v / 256 % 16) (0) (0) (0) (v / 256 / 16 / 16 % 65536) 0 0 ∧ sumw (v % 256) (v / 256 % 16) (0) (0) (0) (v / 256 / 16 / 16 % 65536) = v := by
  rw [good_12] at h
  rw [eok_12]
  unfold sumw
  omega
theorem gmath_13 {v k x : Int} (h0 : 0 ≤ v) (g0 : v < 4294967296) (h : good 13 v) : EOK 13 (v % 256) (0) (v / 256 / 16 % 16) (0) (0) (v / 256 / 16 / 16 % 65536) 0 0 ∧ sumw (v % 256) (0) (v / 256 / 16 % 16) (0) (0) (v / 256 / 16 / 16 % 65536) = v := by
  rw [good_13] at h
  rw [eok_13]
  unfold sumw
  omega
theorem gmath_14 {v k x : Int} (h0 : 0 ≤ v) (g0 : v < 4294967296) (h : good 14 v) : EOK 14 (v % 256) (v / 256 % 16) (0) (0) (0) (v / 256 / 16 / 16 % 65536) k x ∧ sumw (v % 256) (v / 256 % 16) (0) (0) (0) (v / 256 / 16 / 16 % 65536) = v := by
  rw [good_14] at h
  rw [eok_14]
  unfold sumw
  omega
theorem gmath_15 {v k x : Int} (h0 : 0 ≤ v) (g0 : v < 4294967296) (h : good 15 v) : EOK 15 (v % 256) (v / 256 % 16) (v / 256 / 16 % 16) (0) (0) (v / 256 / 16 / 16 % 65536) k 0 ∧ sumw (v % 256) (v / 256 % 16) (v / 256 / 16 % 16) (0) (0) (v / 256 / 16 / 16 % 65536) = v := by
  rw [good_15] at h
  rw [eok_15]
  unfold sumw
  omega
theorem gmath_any (q : Nat) (h1 : 1 ≤ q) (h2 : q ≤ 15) {v k x : Int} (h0 : 0 ≤ v) (g0 : v < 4294967296) (h : good q v) : EOK q (v % 256) (pick (hD q) (v / 256 % 16)) (pick (hA q) (v / 256 / 16 % 16)) (pick (hB q) (v / 256 / 16 / 16 % 16)) (pick (hC q) (v / 256 / 16 / 16 / 16 % 16)) (pick (decide (nb q ≠ 0)) (v / 256 / 16 / 16 % 65536)) (pick (decide (1 < wd q)) k) (pick (decide (2 < wd q)) x) ∧ sumw (v % 256) (pick (hD q) (v / 256 % 16)) (pick (hA q) (v / 256 / 16 % 16)) (pick (hB q) (v / 256 / 16 / 16 % 16)) (pick (hC q) (v / 256 / 16 / 16 / 16 % 16)) (pick (decide (nb q ≠ 0)) (v / 256 / 16 / 16 % 65536)) = v := by
  rcases (show q = 1 ∨ q = 2 ∨ q = 3 ∨ q = 4 ∨ q = 5 ∨ q = 6 ∨ q = 7 ∨ q = 8 ∨ q = 9 ∨ q = 10 ∨ q = 11 ∨ q = 12 ∨ q = 13 ∨ q = 14 ∨ q = 15 by omega) with rfl | rfl | rfl | rfl | rfl | rfl | rfl | rfl | rfl | rfl | rfl | rfl | rfl | rfl | rfl
  · exact gmath_1 (k := k) (x := x) h0 g0 h
  · exact gmath_2 (k := k) (x := x) h0 g0 h
  · exact gmath_3 (k := k) (x := x) h0 g0 h
  · exact gmath_4 (k := k) (x := x) h0 g0 h
  · exact gmath_5 (k := k) (x := x) h0 g0 h
  · exact gmath_6 (k := k) (x := x) h0 g0 h
  · exact gmath_7 (k := k) (x := x) h0 g0 h
  · exact gmath_8 (k := k) (x := x) h0 g0 h
  · exact gmath_9 (k := k) (x := x) h0 g0 h
  · exact gmath_10 (k := k) (x := x) h0 g0 h
  · exact gmath_11 (k := k) (x := x) h0 g0 h
  · exact gmath_12 (k := k) (x := x) h0 g0 h
  · exact gmath_13 (k := k) (x := x) h0 g0 h
  · exact gmath_14 (k := k) (x := x) h0 g0 h
  · exact gmath_15 (k := k) (x := x) h0 g0 h
def decv (us : List Int) (k : Int) : Value :=
  if k < 0 then derr 4 else if (us.length : Int) < k then derr 4 else if k = us.length then derr 1 else
    if fcls (us.getD k.toNat 0 % 256) = 0 then derr 2 else if (us.length : Int) - k < wd (fcls (us.getD k.toNat 0 % 256)) then derr 1
    else dres (fcls (us.getD k.toNat 0 % 256)) (us.getD k.toNat 0) (us.getD (k.toNat + 1) 0) (us.getD (k.toNat + 2) 0)
/-- a slice whose words these are -/
def Sl (us : List Int) (ao : Option Addr) (cap : Nat) (w : World) : Prop :=
  us.length ≤ cap ∧ cap ≤ maxLen ∧ (0 < us.length → ∃ b off, ao = some ⟨b, off, none⟩ ∧ b < w.heap.size ∧ ∀ j, j < us.length → w.cell? ⟨b, off + j, none⟩ = some (.int .u32 (us.getD j 0)))
theorem Sl.keep {us : List Int} {ao : Option Addr} {cap : Nat} {w w' : World} (h : Sl us ao cap w) (hb : Below w.heap.size w w') : Sl us ao cap w' := by
  obtain ⟨h1, h2, h3⟩ := h
  refine ⟨h1, h2, fun h => ?_⟩
  obtain ⟨b, off, e, hlt, hc⟩ := h3 h
  have := hb.size
  exact ⟨b, off, e, by omega, fun j hj => (hb.cell (p := ⟨b, off + j, none⟩) hlt).trans (hc j hj)⟩
theorem dec_all (us : List Int) (ao : Option Addr) (cap : Nat) (k : Int) (w : World) (hs : Sl us ao cap w) (hw : ∀ j, 0 ≤ us.getD j 0 ∧ us.getD j 0 < 4294967296) :
    Calls Try.prog 25 #[.slice ao us.length cap, .int .i64 k] w fun e w' => e = .returned (decv us k) ∧ Below w.heap.size w w' := by
  have hmx : (maxLen : Nat) = 9223372036854775807 := rfl
  unfold decv
  by_cases c1 : k < 0
  · rw [if_pos c1]; exact dec_neg ao us.length cap k c1 w
  rw [if_neg c1]
  by_cases c2 : (us.length : Int) < k
  · rw [if_pos c2]; exact dec_past ao us.length cap k c1 c2 w
  rw [if_neg c2]
  obtain ⟨h1, h2, h3⟩ := hs
  by_cases c3 : k = us.length
  · rw [if_pos c3]
    by_cases c4 : us.length = 0
    · rw [c4, c3, c4]; exact dec_zero ao cap w
    · obtain ⟨b, off, rfl, _, _⟩ := h3 (by omega)
      rw [c3]; exact dec_end b off us.length cap h1 w
  rw [if_neg c3]
  obtain ⟨j, rfl⟩ := Int.eq_ofNat_of_zero_le (show 0 ≤ k by omega)
  obtain ⟨b, off, rfl, hb, hc⟩ := h3 (by omega)
  have hj : j < us.length := by omega
  simp only [Int.toNat_natCast]
  by_cases c5 : fcls (us.getD j 0 % 256) = 0
  · rw [if_pos c5]; exact dec_op b off us.length cap j _ w hj h1 hb (hw j).1 (hw j).2 c5 (hc j hj)
  rw [if_neg c5]
  have h15 := fcls_le (us.getD j 0 % 256)
  by_cases c6 : (us.length : Int) - (j : Int) < wd (fcls (us.getD j 0 % 256))
  · rw [if_pos c6]; exact dec_short b off us.length cap j _ w hj h1 hb (hw j).1 (hw j).2 _ (by omega) h15 rfl c6 (hc j hj)
  rw [if_neg c6]
  have hr := wd_range _ (show 1 ≤ fcls (us.getD j 0 % 256) by omega) h15
  exact dec_any _ b off us.length cap j _ _ _ w (by omega) h15 (by omega) h1 h2 hb (hw j).1 (hw j).2 rfl (hc j hj) (fun h => by rw [Nat.add_assoc]; exact hc (j + 1) (by omega)) (fun h => by rw [Nat.add_assoc]; exact hc (j + 2) (by omega))
theorem rdec_all (us : List Int) (ao : Option Addr) (cap : Nat) (k : Int) (w : World) (hs : Sl us ao cap w) (hw : ∀ j, 0 ≤ us.getD j 0 ∧ us.getD j 0 < 4294967296) :
    Calls Try.prog 26 #[.slice ao us.length cap, .int .i64 k] w fun e w' => e = .returned (decv us k) ∧ Below w.heap.size w w' := by
  have hmx : (maxLen : Nat) = 9223372036854775807 := rfl
  unfold decv
  by_cases c1 : k < 0
  · rw [if_pos c1]; exact rdec_neg ao us.length cap k c1 w
  rw [if_neg c1]
  by_cases c2 : (us.length : Int) < k
  · rw [if_pos c2]; exact rdec_past ao us.length cap k c1 c2 w
  rw [if_neg c2]
  obtain ⟨h1, h2, h3⟩ := hs
  by_cases c3 : k = us.length
  · rw [if_pos c3]
    by_cases c4 : us.length = 0
    · rw [c4, c3, c4]; exact rdec_zero ao cap w
    · obtain ⟨b, off, rfl, _, _⟩ := h3 (by omega)
      rw [c3]; exact rdec_end b off us.length cap h1 w
  rw [if_neg c3]
  obtain ⟨j, rfl⟩ := Int.eq_ofNat_of_zero_le (show 0 ≤ k by omega)
  obtain ⟨b, off, rfl, hb, hc⟩ := h3 (by omega)
  have hj : j < us.length := by omega
  simp only [Int.toNat_natCast]
  by_cases c5 : fcls (us.getD j 0 % 256) = 0
  · rw [if_pos c5]; exact rdec_op b off us.length cap j _ w hj h1 (by omega) hb (hw j).1 (hw j).2 c5 (hc j hj)
  rw [if_neg c5]
  have h15 := fcls_le (us.getD j 0 % 256)
  by_cases c6 : (us.length : Int) - (j : Int) < wd (fcls (us.getD j 0 % 256))
  · rw [if_pos c6]; exact rdec_short b off us.length cap j _ w hj h1 (by omega) hb (hw j).1 (hw j).2 _ (by omega) h15 rfl c6 (hc j hj)
  rw [if_neg c6]
  have hr := wd_range _ (show 1 ≤ fcls (us.getD j 0 % 256) by omega) h15
  exact rdec_any _ b off us.length cap j _ _ _ w (by omega) h15 (by omega) h1 h2 hb (hw j).1 (hw j).2 rfl (hc j hj) (fun h => by rw [Nat.add_assoc]; exact hc (j + 1) (by omega)) (fun h => by rw [Nat.add_assoc]; exact hc (j + 2) (by omega))
theorem decv_shape (us : List Int) (i : Int) (hw : ∀ j, 0 ≤ us.getD j 0 ∧ us.getD j 0 < 4294967296) : ∃ o d a b c n k x m z : Int, decv us i = .tuple #[.agg #[.int .i64 o, .int .i64 d, .int .i64 a, .int .i64 b, .int .i64 c, .int .i64 n, .int .u32 k, .int .u32 x], .int .i64 m, .int .i64 z] ∧
    (z = 0 → 0 ≤ i ∧ i + m ≤ us.length ∧ ∃ q, 1 ≤ q ∧ q ≤ 15 ∧ fcls o = q ∧ m = wd q ∧ EOK q o d a b c n k x ∧ sumw o d a b c n = us.getD i.toNat 0 ∧ (1 < wd q → k = us.getD (i.toNat + 1) 0) ∧ (2 < wd q → x = us.getD (i.toNat + 2) 0)) := by
  have err : ∀ z : Int, z ≠ 0 → decv us i = derr z → _ := fun z hz h => (⟨0, 0, 0, 0, 0, 0, 0, 0, 0, z, h, fun h0 => absurd h0 hz⟩ : ∃ o d a b c n k x m z : Int, decv us i = .tuple #[.agg #[.int .i64 o, .int .i64 d, .int .i64 a, .int .i64 b, .int .i64 c, .int .i64 n, .int .u32 k, .int .u32 x], .int .i64 m, .int .i64 z] ∧
    (z = 0 → 0 ≤ i ∧ i + m ≤ us.length ∧ ∃ q, 1 ≤ q ∧ q ≤ 15 ∧ fcls o = q ∧ m = wd q ∧ EOK q o d a b c n k x ∧ sumw o d a b c n = us.getD i.toNat 0 ∧ (1 < wd q → k = us.getD (i.toNat + 1) 0) ∧ (2 < wd q → x = us.getD (i.toNat + 2) 0)))
  by_cases c1 : i < 0
  · exact err 4 (by decide) (by unfold decv; rw [if_pos c1])
  by_cases c2 : (us.length : Int) < i
  · exact err 4 (by decide) (by unfold decv; rw [if_neg c1, if_pos c2])
  by_cases c3 : i = us.length
  · exact err 1 (by decide) (by unfold decv; rw [if_neg c1, if_neg c2, if_pos c3])
  by_cases c5 : fcls (us.getD i.toNat 0 % 256) = 0
  · exact err 2 (by decide) (by unfold decv; rw [if_neg c1, if_neg c2, if_neg c3, if_pos c5])
  by_cases c6 : (us.length : Int) - i < wd (fcls (us.getD i.toNat 0 % 256))
  · exact err 1 (by decide) (by unfold decv; rw [if_neg c1, if_neg c2, if_neg c3, if_neg c5, if_pos c6])
  have e : decv us i = dres (fcls (us.getD i.toNat 0 % 256)) (us.getD i.toNat 0) (us.getD (i.toNat + 1) 0) (us.getD (i.toNat + 2) 0) := by unfold decv; rw [if_neg c1, if_neg c2, if_neg c3, if_neg c5, if_neg c6]
  have h15 := fcls_le (us.getD i.toNat 0 % 256)
  have hv := hw i.toNat
  generalize us.getD i.toNat 0 = v at *
  by_cases hg : good (fcls (v % 256)) v
  · have hm := gmath_any (fcls (v % 256)) (by omega) h15 (k := us.getD (i.toNat + 1) 0) (x := us.getD (i.toNat + 2) 0) hv.1 hv.2 hg
    refine ⟨_, _, _, _, _, _, _, _, _, _, e.trans (dgood_any hg), fun _ => ⟨by omega, by omega, fcls (v % 256), by omega, h15, rfl, rfl, hm.1, hm.2, fun h => ?_, fun h => ?_⟩⟩
    · simp [pick, h]
    · simp [pick, h]
  · exact err 3 (by decide) (e.trans (dbad hg))
end Go.Proofs.Ytcjcmnnhmajocaa.Ho
