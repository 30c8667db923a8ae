/- What guest.Encode writes is what crossgrainref1.Encode writes: the plain law. -/
import Derived.Test.YtcjcmnnhmajocaaGuA
import Derived.Test.YtcjcmnnhmajocaaGuN
namespace Go.Proofs.Ytcjcmnnhmajocaa.Gu
open Go.RowKit Kt
set_option linter.unusedVariables false
set_option linter.unusedSimpArgs false
/-- more of the rows -/
def rowok2 (b : Int) : Bool :=
  if fndFrom b fms 0 < 0 then true else
  match fms[(fndFrom b fms 0).toNat]? with
  | some f => decide ((rowOf b).lo = b - f.first) && decide ((rowOf b).fi ≠ 0 ∨ (rowOf b).lo = 0) && decide ((rowOf b).fi ≠ 1 ∨ (rowOf b).sh = 1 ∨ (rowOf b).sh = 11) && decide ((rowOf b).fi ≠ 2 ∨ (rowOf b).sh = 1) && decide ((rowOf b).fi ≠ 3 ∨ (rowOf b).sh ≠ 7)
  | none => false
theorem rowok2_all : ∀ n : Fin 256, rowok2 (n.val : Int) = true := by decide +kernel
def disj (b : Int) (j : Nat) : Bool := match fms[j]? with
  | some f => decide (¬ (f.first ≤ b ∧ b < f.first + f.n) ∨ fndFrom b fms 0 = (j : Int))
  | none => true
theorem disj_all : ∀ (n : Fin 256) (j : Fin 32), disj (n.val : Int) j.val = true := by decide +kernel
theorem ends_all : ∀ f ∈ fms, f.first + f.n ≤ 256 := by decide +kernel
theorem shSize_pos' (sh : Int) (h0 : 0 ≤ sh) (h1 : sh ≤ 12) (h : sh ≠ 0) (hz : shSize sh = 0) : False := by
  have hk : sh = 1 ∨ sh = 2 ∨ sh = 3 ∨ sh = 4 ∨ sh = 5 ∨ sh = 6 ∨ sh = 7 ∨ sh = 8 ∨ sh = 9 ∨ sh = 10 ∨ sh = 11 ∨ sh = 12 := by omega
  rcases hk with rfl | rfl | rfl | rfl | rfl | rfl | rfl | rfl | rfl | rfl | rfl | rfl
  all_goals exact absurd hz (by decide)
/-- a row and its form -/
theorem row_form (b : Int) (h0 : 0 ≤ b) (h1 : b < 256) (hs : (rowOf b).sh ≠ 0) : ∃ (j : Nat) (fm : Fm), j < 32 ∧ fms[j]? = some fm ∧ fndFrom b fms 0 = (j : Int) ∧ (rowOf b).op = (j : Int) ∧ 1 ≤ (rowOf b).sh ∧ fm.beh.data.toList = lets (rowOf b).sh ∧ fm.inn.data.toList = kin (rowOf b).fi ∧
    (rowOf b).lo = b - fm.first ∧ ((rowOf b).fi ≠ 0 ∨ (rowOf b).lo = 0) ∧ ((rowOf b).fi ≠ 1 ∨ (rowOf b).sh = 1 ∨ (rowOf b).sh = 11) ∧ ((rowOf b).fi ≠ 2 ∨ (rowOf b).sh = 1) ∧ ((rowOf b).fi ≠ 3 ∨ (rowOf b).sh ≠ 7) ∧ fm.first ≤ b ∧ b < fm.first + fm.n := by
  obtain ⟨n, hn⟩ := Int.eq_ofNat_of_zero_le h0
  have hn' : n < 256 := by omega
  have a1 := rowok_all ⟨n, hn'⟩
  have a2 := rowok2_all ⟨n, hn'⟩
  have hri := row_in b h0 h1
  simp only at a1 a2
  rw [← hn] at a1 a2
  unfold rowok at a1
  unfold rowok2 at a2
  rcases fnd_spec b fms 0 with hm | ⟨j, fm, e1, e2, e3, e4⟩
  · rw [hm, if_pos (by decide)] at a1
    have hz := of_decide_eq_true a1
    exact (shSize_pos' (rowOf b).sh hri.2.2.1 hri.2.2.2.1 hs hz).elim
  · rw [Int.zero_add] at e2
    have hneg : ¬ fndFrom b fms 0 < 0 := by omega
    rw [if_neg hneg, e2, Int.toNat_natCast, e1] at a1 a2
    simp only [Bool.and_eq_true, decide_eq_true_eq] at a1 a2
    obtain ⟨⟨⟨⟨o1, o2⟩, o3⟩, o4⟩, _⟩ := a1
    obtain ⟨⟨⟨⟨p1, p2⟩, p3⟩, p4⟩, p5⟩ := a2
    have hj : j < 32 := by
      have := (List.getElem?_eq_some_iff.1 e1).1
      rwa [fms_len] at this
    exact ⟨j, fm, hj, e1, e2, o1, o2, o3, o4, p1, p2, p3, p4, p5, e3, e4⟩
/-- the field that a row names -/
def fld5 (fi d s f : Int) : Int := if fi = 1 then d else if fi = 2 then s else if fi = 3 then f else 0
theorem lwf_fld {fi : Int} (h0 : 0 ≤ fi) (h3 : fi ≤ 3) {x : ByteArray} (h : x.data.toList = kin fi) (d s f : Int) : (x = strN ∨ x = strD ∨ x = strS ∨ x = strO) ∧ lwf x d s f = fld5 fi d s f := by
  have hx := str_of h
  rcases (show fi = 0 ∨ fi = 1 ∨ fi = 2 ∨ fi = 3 by omega) with rfl | rfl | rfl | rfl
  all_goals subst hx
  · refine ⟨.inl rfl, ?_⟩; simp [kin, lwf, strD, strS, strO, fld5]
  · refine ⟨.inr (.inl rfl), ?_⟩; simp [kin, lwf, strD, strS, strO, fld5]
  · refine ⟨.inr (.inr (.inl rfl)), ?_⟩; simp [kin, lwf, strD, strS, strO, fld5]
  · refine ⟨.inr (.inr (.inr rfl)), ?_⟩; simp [kin, lwf, strD, strS, strO, fld5]
/-- where an instruction's first byte is found -/
theorem hit_iff (o d s f : Int) (i : Nat) (hi : i < 256) (hr : (rowOf (i : Int)).sh ≠ 0) : ∀ (j : Nat) (fm : Fm), fms[j]? = some fm → (rowOf (i : Int)).op = (j : Int) → o = (j : Int) → (hit o d s f (rowOf (i : Int)) ↔ (i : Int) = fm.first + lwf fm.inn d s f) := by
  intro j fm hf hop ho
  obtain ⟨j', fm', e1, e2, e3, e4, e5, e6, e7, e8, e9, _⟩ := row_form (i : Int) (by omega) (by omega) hr
  have hjj : j' = j := by omega
  subst hjj
  obtain rfl : fm' = fm := Option.some.inj (e2.symm.trans hf)
  have hri := row_in (i : Int) (by omega) (by omega)
  have hl := (lwf_fld hri.2.2.2.2.2.2.1 hri.2.2.2.2.2.2.2 e7 d s f).2
  rw [hl]
  unfold hit fld5
  generalize rowOf (i : Int) = r at *
  rcases (show r.fi = 0 ∨ r.fi = 1 ∨ r.fi = 2 ∨ r.fi = 3 by omega) with h | h | h | h
  all_goals simp [h, hr, hop, ho] at *
  all_goals omega
/-- a first byte in the form's range is of the form's row -/
theorem row_of (j : Nat) (hj : j < 32) (fm : Fm) (hf : fms[j]? = some fm) (b : Int) (h1 : fm.first ≤ b) (h2 : b < fm.first + fm.n) : 0 ≤ b ∧ b < 256 ∧ (rowOf b).op = (j : Int) ∧ (rowOf b).sh ≠ 0 := by
  have hfo := fms_ok fm (List.mem_of_getElem? hf)
  have hfe := ends_all fm (List.mem_of_getElem? hf)
  have b0 : 0 ≤ b := by omega
  have b1 : b < 256 := by omega
  obtain ⟨n, hn⟩ := Int.eq_ofNat_of_zero_le b0
  have hn' : n < 256 := by omega
  have a1 := rowok_all ⟨n, hn'⟩
  have a2 := disj_all ⟨n, hn'⟩ ⟨j, hj⟩
  simp only at a1 a2
  rw [← hn] at a1 a2
  unfold disj at a2
  rw [hf] at a2
  have hfd : fndFrom b fms 0 = (j : Int) := by
    have := of_decide_eq_true a2
    rcases this with h | h
    · exact absurd ⟨h1, h2⟩ h
    · exact h
  unfold rowok at a1
  rw [if_neg (by omega), hfd, Int.toNat_natCast, hf] at a1
  simp only [Bool.and_eq_true, decide_eq_true_eq] at a1
  obtain ⟨⟨⟨⟨o1, o2⟩, _⟩, _⟩, _⟩ := a1
  exact ⟨b0, b1, o1, by omega⟩
theorem w63 (n : Int) (h0 : 0 ≤ n) (h1 : n < 2 ^ 63) : IntKind.i64.wrap n = n := by rw [IntKind.wrap_i64]; omega
theorem and15i (x : Int) (h : 0 ≤ x) (g : x < 16) : bits .and .i64 x 15 = x % 16 := bits_mask .i64 63 (by decide) w63 4 (by decide) x h (by omega)
theorem or_upi (hi lo : Int) (h0 : 0 ≤ hi) (h1 : hi < 256) (hd : hi % 16 = 0) (l0 : 0 ≤ lo) (l1 : lo < 16) : bits .or .i64 hi lo = hi + lo :=
  bits_join .i64 63 (by decide) w63 4 hi lo h0 (by omega) (by omega) l0 (by omega) (by omega)
/-- two halves in their ranges -/
theorem tv_in (hi lo : Int) (h0 : 0 ≤ hi) (h1 : hi < 16) (l0 : 0 ≤ lo) (l1 : lo < 16) : tv hi lo = 16 * hi + lo := by
  unfold tv
  rw [IntWalk.wrap64_in _ (by omega), and15i lo l0 l1, show lo % 16 = lo by omega, or_upi (hi * 16) lo (by omega) (by omega) (by omega) l0 l1]
  omega
/-- the bytes alike -/
theorem gb_rb (sh k d s f m : Int) (h1 : 1 ≤ sh) (h2 : sh ≤ 12) (v3 : 0 ≤ d) (v4 : d ≤ 7) (v5 : 0 ≤ s) (v6 : s ≤ 7) (v7 : 0 ≤ f) (v8 : f ≤ 15) : gb sh k d s f m = [k] ++ wls d s f m (lets sh) := by
  have t1 := tv_in 0 s (by omega) (by omega) v5 (by omega)
  have t2 := tv_in d s v3 (by omega) v5 (by omega)
  have t3 := tv_in f d v7 (by omega) v3 (by omega)
  have t4 := tv_in 0 d (by omega) (by omega) v3 (by omega)
  rcases (show sh = 1 ∨ sh = 2 ∨ sh = 3 ∨ sh = 4 ∨ sh = 5 ∨ sh = 6 ∨ sh = 7 ∨ sh = 8 ∨ sh = 9 ∨ sh = 10 ∨ sh = 11 ∨ sh = 12 by omega) with rfl | rfl | rfl | rfl | rfl | rfl | rfl | rfl | rfl | rfl | rfl | rfl
  all_goals simp [gb, wls, wl, lets, t1, t2, t3, t4]
theorem rng (sh fi lo n : Int) (a : Nat → Int) (ha : 0 ≤ a 0 ∧ a 0 < 256) (h1 : 1 ≤ sh) (h2 : sh ≤ 12) (f0 : 0 ≤ fi) (f3 : fi ≤ 3) (l0 : 0 ≤ lo) (l1 : lo ≤ 15) (ln : lo < n) (c1 : fi ≠ 1 ∨ sh = 1 ∨ sh = 11) (c2 : fi ≠ 2 ∨ sh = 1) (c3 : fi ≠ 3 ∨ sh ≠ 7) (c0 : fi ≠ 0 ∨ lo = 0)
    (hD : oD sh (if fi = 1 then lo else 0) a < 8) (hS : oS sh (if fi = 2 then lo else 0) a < 8) :
    ¬ (fld5 fi (oD sh (if fi = 1 then lo else 0) a) (oS sh (if fi = 2 then lo else 0) a) (oF sh (if fi = 3 then lo else 0) a) < 0 ∨ n ≤ fld5 fi (oD sh (if fi = 1 then lo else 0) a) (oS sh (if fi = 2 then lo else 0) a) (oF sh (if fi = 3 then lo else 0) a) ∨
      oD sh (if fi = 1 then lo else 0) a < 0 ∨ 7 < oD sh (if fi = 1 then lo else 0) a ∨ oS sh (if fi = 2 then lo else 0) a < 0 ∨ 7 < oS sh (if fi = 2 then lo else 0) a ∨ oF sh (if fi = 3 then lo else 0) a < 0 ∨ 15 < oF sh (if fi = 3 then lo else 0) a) := by
  obtain ⟨a1, a2⟩ := ha
  rcases (show fi = 0 ∨ fi = 1 ∨ fi = 2 ∨ fi = 3 by omega) with rfl | rfl | rfl | rfl
  all_goals rcases (show sh = 1 ∨ sh = 2 ∨ sh = 3 ∨ sh = 4 ∨ sh = 5 ∨ sh = 6 ∨ sh = 7 ∨ sh = 8 ∨ sh = 9 ∨ sh = 10 ∨ sh = 11 ∨ sh = 12 by omega) with rfl | rfl | rfl | rfl | rfl | rfl | rfl | rfl | rfl | rfl | rfl | rfl
  all_goals first
    | (exfalso; omega)
    | (simp [oD, oS, oF, fld5] at hD hS ⊢; done)
    | (simp [oD, oS, oF, fld5] at hD hS ⊢; omega)
    | (simp [oD, oS, oF, fld5] at hD ⊢; omega)
    | (simp [oD, oS, oF, fld5] at hS ⊢; omega)
    | (simp [oD, oS, oF, fld5]; omega)
/-- what is read keeps its ranges -/
theorem okd_range (us : List Int) (hw : Rg us) (o d s f m : Int) (h : okd us o d s f m) : ∃ (j : Nat) (fm : Fm), j < 32 ∧ o = (j : Int) ∧ fms[j]? = some fm ∧ badx fm.n (lwf fm.inn d s f) d s f = false := by
  obtain ⟨n, hn⟩ := h
  unfold decv at hn
  have hb0 := hw 0
  split at hn
  · simp [derr] at hn
  split at hn
  · simp [derr] at hn
  split at hn
  · simp [derr] at hn
  have hri := row_in (us.getD 0 0) hb0.1 hb0.2
  rename_i hl hs hlen
  have hs0 : (rowOf (us.getD 0 0)).sh ≠ 0 := by
    intro h
    rw [h] at hs
    exact hs rfl
  obtain ⟨j, fm, e1, e2, e3, e4, e5, e6, e7, e8, e9, e10, e11, e12, e13, e14⟩ := row_form (us.getD 0 0) hb0.1 hb0.2 hs0
  have hlw := (lwf_fld hri.2.2.2.2.2.2.1 hri.2.2.2.2.2.2.2 e7 d s f).2
  have ha : ∀ j, 0 ≤ us.getD (j + 1) 0 ∧ us.getD (j + 1) 0 < 256 := fun j => hw (j + 1)
  generalize rowOf (us.getD 0 0) = r at *
  generalize us.getD 0 0 = b0 at *
  have ha0 := ha 0
  unfold fin at hn
  by_cases hok : oD r.sh (if r.fi = 1 then r.lo else 0) (fun j => us.getD (j + 1) 0) < 8 ∧ oS r.sh (if r.fi = 2 then r.lo else 0) (fun j => us.getD (j + 1) 0) < 8
  · rw [if_pos hok] at hn
    simp only [agg5, Value.tuple.injEq, Value.agg.injEq, Value.int.injEq, Array.mk.injEq, List.cons.injEq, true_and, and_true] at hn
    obtain ⟨⟨rfl, rfl, rfl, rfl, rfl⟩, _⟩ := hn
    refine ⟨j, fm, e1, e4, e2, ?_⟩
    rw [hlw]
    unfold badx
    rw [decide_eq_false_iff_not]
    exact rng r.sh r.fi r.lo fm.n _ ha0 e5 hri.2.2.2.1 hri.2.2.2.2.2.2.1 hri.2.2.2.2.2.2.2 hri.2.2.2.2.1 hri.2.2.2.2.2.1 (by omega) e10 e11 e12 e9 hok.1 hok.2
  · rw [if_neg hok] at hn
    simp [derr] at hn
end Go.Proofs.Ytcjcmnnhmajocaa.Gu
