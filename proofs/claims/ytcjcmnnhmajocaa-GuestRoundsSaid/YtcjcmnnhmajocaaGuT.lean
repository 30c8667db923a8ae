/- What is read is written as it was: the plain law. -/
import Derived.Test.YtcjcmnnhmajocaaGuM
namespace Go.Proofs.Ytcjcmnnhmajocaa.Gu
open Go.RowKit Kt
set_option linter.unusedVariables false
set_option linter.unusedSimpArgs false
theorem sh_cases {sh : Int} (h1 : 1 ≤ sh) (h2 : sh ≤ 12) : sh = 1 ∨ sh = 2 ∨ sh = 3 ∨ sh = 4 ∨ sh = 5 ∨ sh = 6 ∨ sh = 7 ∨ sh = 8 ∨ sh = 9 ∨ sh = 10 ∨ sh = 11 ∨ sh = 12 := by omega
theorem fin_congr (op sh lo fi d s f : Int) (h1 : 1 ≤ sh) (h2 : sh ≤ 12) (a b : Nat → Int) (h : ∀ j : Nat, (j : Int) + 1 < shSize sh → a j = b j) : fin ⟨op, sh, lo, fi⟩ d s f a = fin ⟨op, sh, lo, fi⟩ d s f b := by
  have g0 := h 0
  have g1 := h 1
  have g2 := h 2
  have g3 := h 3
  have g4 := h 4
  clear h
  rcases sh_cases h1 h2 with rfl | rfl | rfl | rfl | rfl | rfl | rfl | rfl | rfl | rfl | rfl | rfl
  all_goals simp [shSize] at g0 g1 g2 g3 g4
  all_goals simp [fin, oD, oS, oF, oM, *]
/-- where an instruction was read -/
theorem decv_ok {us : List Int} (hw : Rg us) {o d s f m n : Int} (h : decv us = .tuple #[agg5 o d s f m, .int .i64 n, .int .i64 0]) :
    us.length ≠ 0 ∧ (rowOf (us.getD 0 0)).sh ≠ 0 ∧ n = shSize (rowOf (us.getD 0 0)).sh ∧ n ≤ us.length ∧ 1 ≤ n ∧ n ≤ 6 ∧
    decv us = fin (rowOf (us.getD 0 0)) (if (rowOf (us.getD 0 0)).fi = 1 then (rowOf (us.getD 0 0)).lo else 0) (if (rowOf (us.getD 0 0)).fi = 2 then (rowOf (us.getD 0 0)).lo else 0) (if (rowOf (us.getD 0 0)).fi = 3 then (rowOf (us.getD 0 0)).lo else 0) (fun j => us.getD (j + 1) 0) := by
  have hb0 := hw 0
  have hri := row_in (us.getD 0 0) hb0.1 hb0.2
  have hd : decv us = decv us := rfl
  conv at hd => rhs; unfold decv
  rw [h] at hd
  by_cases h0 : us.length = 0
  · rw [if_pos h0] at hd; simp [derr] at hd
  rw [if_neg h0] at hd
  by_cases h1 : shSize (rowOf (us.getD 0 0)).sh = 0
  · rw [if_pos h1] at hd; simp [derr] at hd
  rw [if_neg h1] at hd
  by_cases h2 : (us.length : Int) < shSize (rowOf (us.getD 0 0)).sh
  · rw [if_pos h2] at hd; simp [derr] at hd
  rw [if_neg h2] at hd
  have hs0 : (rowOf (us.getD 0 0)).sh ≠ 0 := fun hh => h1 (by rw [hh]; rfl)
  have hsz : shSize (rowOf (us.getD 0 0)).sh ≤ 6 ∧ 1 ≤ shSize (rowOf (us.getD 0 0)).sh := by
    rcases sh_cases (show 1 ≤ (rowOf (us.getD 0 0)).sh by omega) hri.2.2.2.1 with hh | hh | hh | hh | hh | hh | hh | hh | hh | hh | hh | hh
    all_goals rw [hh]; decide
  have hn : n = shSize (rowOf (us.getD 0 0)).sh := by
    unfold fin at hd
    by_cases hok : oD (rowOf (us.getD 0 0)).sh (if (rowOf (us.getD 0 0)).fi = 1 then (rowOf (us.getD 0 0)).lo else 0) (fun j => us.getD (j + 1) 0) < 8 ∧ oS (rowOf (us.getD 0 0)).sh (if (rowOf (us.getD 0 0)).fi = 2 then (rowOf (us.getD 0 0)).lo else 0) (fun j => us.getD (j + 1) 0) < 8
    · rw [if_pos hok] at hd
      simp only [Value.tuple.injEq, Array.mk.injEq, List.cons.injEq, Value.int.injEq, true_and, and_true] at hd
      exact hd.2
    · rw [if_neg hok] at hd
      simp [derr] at hd
  exact ⟨h0, hs0, hn, by omega, by omega, by omega, h.trans hd⟩
theorem decv_prefix {us vs : List Int} (hw : Rg us) {o d s f m n : Int} (h : decv us = .tuple #[agg5 o d s f m, .int .i64 n, .int .i64 0]) (hv : ∀ j : Nat, (j : Int) < n → vs.getD j 0 = us.getD j 0) (hl : n ≤ vs.length) : decv vs = decv us := by
  obtain ⟨h0, h1, h2, h3, h4, h5, h6⟩ := decv_ok hw h
  have hb0 := hw 0
  have hri := row_in (us.getD 0 0) hb0.1 hb0.2
  rw [h6]
  unfold decv
  rw [hv 0 (by omega)]
  rw [if_neg (by omega), if_neg (by omega), if_neg (by omega)]
  generalize rowOf (us.getD 0 0) = r at *
  obtain ⟨op, sh, lo, fi⟩ := r
  dsimp only at *
  exact fin_congr _ _ _ _ _ _ _ (by omega) (by omega) _ _ (fun j hj => hv (j + 1) (by push_cast; omega))
theorem take_getD (us : List Int) (n : Nat) (h : n ≤ us.length) : us.take n = (List.range n).map (fun j => us.getD j 0) := by
  apply List.ext_getElem?
  intro i
  rw [List.getElem?_take]
  by_cases hi : i < n
  · rw [if_pos hi, List.getElem?_map, List.getElem?_range hi, List.getElem?_eq_getElem (by omega)]
    simp [List.getD_eq_getElem?_getD, List.getElem?_eq_getElem (show i < us.length by omega)]
  · rw [if_neg hi, List.getElem?_eq_none (by simp; omega)]
theorem rb_take (sh d s f : Int) (h1 : 1 ≤ sh) (h2 : sh ≤ 12) (a : Nat → Int) (ha : ∀ j, 0 ≤ a j ∧ a j < 256) :
    wls (oD sh d a) (oS sh s a) (oF sh f a) (oM sh 0 a) (lets sh) = (List.range (shSize sh - 1).toNat).map a := by
  have a0 := ha 0
  have a1 := ha 1
  have a2 := ha 2
  have a3 := ha 3
  have a4 := ha 4
  have hs : ∀ x : Int, 0 ≤ x → x < 256 → sgn x % 256 = x := fun x x0 x1 => by unfold sgn; split <;> omega
  have hf0 : ∀ x y z u : Int, 0 ≤ x → x < 256 → 0 ≤ y → y < 256 → 0 ≤ z → z < 256 → 0 ≤ u → u < 256 → four x y z u % 256 = x ∧ four x y z u / 256 % 256 = y ∧ four x y z u / 65536 % 256 = z ∧ four x y z u / 16777216 = u := fun x y z u _ _ _ _ _ _ _ _ => by unfold four; omega
  have q1 := hf0 (a 0) (a 1) (a 2) (a 3) a0.1 a0.2 a1.1 a1.2 a2.1 a2.2 a3.1 a3.2
  have q2 := hf0 (a 1) (a 2) (a 3) (a 4) a1.1 a1.2 a2.1 a2.2 a3.1 a3.2 a4.1 a4.2
  have q3 := hs (a 0) a0.1 a0.2
  have q4 := hs (a 1) a1.1 a1.2
  have q5 : a 0 % 256 = a 0 := by omega
  have q6 : 16 * (a 0 / 16) + a 0 % 16 = a 0 := by omega
  rcases sh_cases h1 h2 with rfl | rfl | rfl | rfl | rfl | rfl | rfl | rfl | rfl | rfl | rfl | rfl
  all_goals simp [wls, wl, lets, oD, oS, oF, oM, shSize, List.range_succ, q1, q2, q3, q4, q5, q6]
/-- what was read is written so -/
theorem rounds_bytes {us : List Int} (hw : Rg us) {o d s f m n : Int} (h : decv us = .tuple #[agg5 o d s f m, .int .i64 n, .int .i64 0]) :
    ∃ (j : Nat) (fm : Fm), o = (j : Int) ∧ fms[j]? = some fm ∧ badx fm.n (lwf fm.inn d s f) d s f = false ∧ [fm.first + lwf fm.inn d s f] ++ wls d s f m fm.beh.data.toList = us.take n.toNat := by
  obtain ⟨j0, fm0, _, b2, b3, b4⟩ := okd_range us hw o d s f m ⟨n, h⟩
  refine ⟨j0, fm0, b2, b3, b4, ?_⟩
  obtain ⟨h0, h1, h2, h3, h4, h5, h6⟩ := decv_ok hw h
  have hb0 := hw 0
  have hri := row_in (us.getD 0 0) hb0.1 hb0.2
  obtain ⟨j, fm, e1, e2, e3, e4, e5, e6, e7, e8, e9, e10, e11, e12, e13, e14⟩ := row_form (us.getD 0 0) hb0.1 hb0.2 h1
  have ha : ∀ j, 0 ≤ us.getD (j + 1) 0 ∧ us.getD (j + 1) 0 < 256 := fun j => hw (j + 1)
  have hlw := fun d s f => (lwf_fld hri.2.2.2.2.2.2.1 hri.2.2.2.2.2.2.2 e7 d s f).2
  rw [h6] at h
  rw [take_getD us n.toNat (by omega)]
  have hmap : (List.range n.toNat).map (fun j => us.getD j 0) = [us.getD 0 0] ++ (List.range (n - 1).toNat).map (fun j => us.getD (j + 1) 0) := by
    obtain ⟨k, hk⟩ : ∃ k : Nat, n = (k : Int) + 1 := ⟨(n - 1).toNat, by omega⟩
    rw [hk, show ((k : Int) + 1).toNat = k + 1 by omega, show ((k : Int) + 1 - 1).toNat = k by omega, List.range_succ_eq_map]
    simp [Function.comp_def]
  rw [hmap, h2]
  generalize us.getD 0 0 = b0 at *
  generalize rowOf b0 = r at *
  obtain ⟨op, sh, lo, fi⟩ := r
  dsimp only at *
  have hrb := rb_take sh (if fi = 1 then lo else 0) (if fi = 2 then lo else 0) (if fi = 3 then lo else 0) e5 hri.2.2.2.1 (fun j => us.getD (j + 1) 0) ha
  unfold fin at h
  by_cases hok : oD sh (if fi = 1 then lo else 0) (fun j => us.getD (j + 1) 0) < 8 ∧ oS sh (if fi = 2 then lo else 0) (fun j => us.getD (j + 1) 0) < 8
  · rw [if_pos hok] at h
    simp only [agg5, Value.tuple.injEq, Value.agg.injEq, Value.int.injEq, Array.mk.injEq, List.cons.injEq, true_and, and_true] at h
    obtain ⟨⟨rfl, rfl, rfl, rfl, rfl⟩, _⟩ := h
    have hjj : j0 = j := by omega
    subst hjj
    obtain rfl : fm0 = fm := Option.some.inj (b3.symm.trans e2)
    rw [e6, hrb, hlw]
    congr 1
    have hfl : fld5 fi (oD sh (if fi = 1 then lo else 0) (fun j => us.getD (j + 1) 0)) (oS sh (if fi = 2 then lo else 0) (fun j => us.getD (j + 1) 0)) (oF sh (if fi = 3 then lo else 0) (fun j => us.getD (j + 1) 0)) = lo := by
      rcases (show fi = 0 ∨ fi = 1 ∨ fi = 2 ∨ fi = 3 by omega) with rfl | rfl | rfl | rfl
      · simp [fld5]; omega
      · rcases (show sh = 1 ∨ sh = 11 by omega) with rfl | rfl <;> simp [fld5, oD]
      · obtain rfl : sh = 1 := by omega
        simp [fld5, oS]
      · have : sh ≠ 7 := by omega
        simp [fld5, oF, this]
    rw [hfl, e8]
    congr 1
    omega
  · rw [if_neg hok] at h
    simp [derr] at h
end Go.Proofs.Ytcjcmnnhmajocaa.Gu
