/- Both Encodes answer alike. -/
import Derived.Test.YtcjcmnnhmajocaaGuJ
namespace Go.Proofs.Ytcjcmnnhmajocaa.Gu
open Go.RowKit Kt
set_option linter.unusedVariables false
set_option linter.unusedSimpArgs false
/-- an Encode's answer: bytes in a slice of its own, and a code -/
def EncR (us : List Int) (z : Int) (w : World) (e : Ending) (w' : World) : Prop :=
  ∃ (ao : Option Addr) (cap : Nat), e = .returned (.tuple #[.slice ao us.length cap, .int .i64 z]) ∧ Bs us ao cap w' ∧ (∀ g, ao = some g → w.heap.size ≤ g.block) ∧ Below w.heap.size w w'
def EncG (us : List Int) (z : Int) (w : World) (e : Ending) (w' : World) : Prop :=
  ∃ (ao : Option Addr) (cap : Nat), e = .returned (.tuple #[.slice ao us.length cap, .int .i64 z]) ∧ Bs us ao cap w' ∧ (∀ g, ao = some g → w.heap.size ≤ g.block ∧ ∀ i, w'.frozen? ⟨g.block, i, none⟩ = false) ∧ Below w.heap.size w w'
theorem EncG.nil {z : Int} {w w' : World} (hb : Below w.heap.size w w') : EncG [] z w (.returned (.tuple #[.slice none 0 0, .int .i64 z])) w' :=
  ⟨none, 0, rfl, ⟨Nat.le_refl _, by unfold maxLen; omega, fun h => absurd h (by simp)⟩, fun g h => (by cases h), hb⟩
theorem EncR.nil {z : Int} {w w' : World} (hb : Below w.heap.size w w') : EncR [] z w (.returned (.tuple #[.slice none 0 0, .int .i64 z])) w' :=
  ⟨none, 0, rfl, ⟨Nat.le_refl _, by unfold maxLen; omega, fun h => absurd h (by simp)⟩, fun g h => (by cases h), hb⟩
theorem gres_encr {us : List Int} {o d s f m : Int} {w w' : World} {e : Ending} (h : GRes us o d s f m w e w') (hb : Below w.heap.size w w') : (okd us o d s f m → EncG us 0 w e w') ∧ (¬ okd us o d s f m → EncG [] 3 w e w') := by
  rcases h with ⟨h1, M, rfl, h3, h4, h5⟩ | ⟨h1, rfl⟩
  · exact ⟨fun _ => ⟨_, _, rfl, h3, fun g hg => by cases hg; exact ⟨h4, h5⟩, hb⟩, fun h => absurd h1 h⟩
  · exact ⟨fun h => absurd h h1, fun _ => EncG.nil hb⟩
theorem rres_encr {us : List Int} {o d s f m : Int} {w w' : World} {e : Ending} (h : RRes us o d s f m w e w') (hb : Below w.heap.size w w') : (okd us o d s f m → EncR us 0 w e w') ∧ (¬ okd us o d s f m → EncR [] 3 w e w') := by
  rcases h with ⟨h1, g, cap, rfl, h3, h4⟩ | ⟨h1, rfl⟩
  · exact ⟨fun _ => ⟨_, _, rfl, h3, fun g hg => by cases hg; exact h4, hb⟩, fun h => absurd h1 h⟩
  · exact ⟨fun h => absurd h h1, fun _ => EncR.nil hb⟩
theorem first_of {P : Nat → Prop} (h : ∃ i, P i) : ∃ i, P i ∧ ∀ k, k < i → ¬ P k := by
  obtain ⟨n, hn⟩ := h
  induction n using Nat.strongRecOn with
  | ind n ih =>
    by_cases hk : ∃ k, k < n ∧ P k
    · obtain ⟨k, k1, k2⟩ := hk
      exact ih k k1 k2
    · exact ⟨n, hn, fun k h1 h2 => hk ⟨k, h1, h2⟩⟩
theorem gb_rg (sh k d s f m : Int) (h0 : 0 ≤ k) (h1 : k < 256) (hm : 0 ≤ m ∧ m < 4294967296) : Rg (gb sh k d s f m) := by
  have t := tv_range
  have hk := Rg.one h0 h1
  have m0 : Rg [m % 256] := Rg.one (by omega) (by omega)
  have m1 : Rg [m / 256 % 256] := Rg.one (by omega) (by omega)
  have m2 : Rg [m / 65536 % 256] := Rg.one (by omega) (by omega)
  have m3 : Rg [m / 16777216] := Rg.one (by omega) (by omega)
  have tt := fun hi lo => Rg.one (t hi lo).1 (t hi lo).2
  unfold gb
  split
  · exact hk.app m0
  split
  · exact (((hk.app m0).app m1).app m2).app m3
  split
  · exact hk.app (tt _ _)
  split
  · exact hk.app (tt _ _)
  split
  · exact hk.app (tt _ _)
  split
  · exact (hk.app (tt _ _)).app m0
  split
  · exact ((((hk.app (tt _ _)).app m0).app m1).app m2).app m3
  split
  · exact (hk.app (tt _ _)).app m0
  split
  · exact (hk.app (tt _ _)).app m0
  · exact hk
theorem enc_both (o d s f m : Int) (hm : 0 ≤ m ∧ m < 4294967296) : ∃ (us : List Int) (z : Int), Rg us ∧ (z = 0 → okd us o d s f m) ∧ (z ≠ 0 → us = []) ∧
    (∀ (j : Nat) (fm : Fm), o = (j : Int) → fms[j]? = some fm → badx fm.n (lwf fm.inn d s f) d s f = false → okd ([fm.first + lwf fm.inn d s f] ++ wls d s f m fm.beh.data.toList) o d s f m → us = [fm.first + lwf fm.inn d s f] ++ wls d s f m fm.beh.data.toList ∧ z = 0) ∧
    (∀ w : World, Calls Try.prog 42 #[.agg #[.int .i64 o, .int .i64 d, .int .i64 s, .int .i64 f, .int .u32 m]] w (EncG us z w)) ∧ (∀ w : World, Calls Try.prog 43 #[.agg #[.int .i64 o, .int .i64 d, .int .i64 s, .int .i64 f, .int .u32 m]] w (EncR us z w)) := by
  by_cases ho : o < 0 ∨ 31 < o
  · refine ⟨[], 2, Rg.nil, fun h => absurd h (by decide), fun _ => rfl, fun j fm hj hf _ _ => (by
      have := (List.getElem?_eq_some_iff.1 hf).1
      rw [fms_len] at this
      omega), fun w => (genc_out o d s f m ho w).mono ?_, fun w => (renc_out o d s f m ho w).mono ?_⟩
    · rintro e w' ⟨rfl, hb⟩; exact EncG.nil hb
    · rintro e w' ⟨rfl, hb⟩; exact EncR.nil hb
  have o0 : 0 ≤ o := by omega
  have o1 : o ≤ 31 := by omega
  obtain ⟨j, rfl⟩ := Int.eq_ofNat_of_zero_le o0
  have hj : j < 32 := by omega
  obtain ⟨fm, hfm⟩ : ∃ fm, fms[j]? = some fm := ⟨fms[j]'(by rw [fms_len]; exact hj), List.getElem?_eq_getElem _⟩
  have hfo := fms_ok fm (List.mem_of_getElem? hfm)
  have hfe := ends_all fm (List.mem_of_getElem? hfm)
  have hrow0 := row_of j hj fm hfm fm.first (Int.le_refl _) (by omega)
  obtain ⟨j', fm', a1, a2, a3, a4, a5, a6, a7, a8, _⟩ := row_form fm.first hrow0.1 hrow0.2.1 hrow0.2.2.2
  have hjj : j' = j := by have := hrow0.2.2.1; omega
  subst hjj
  obtain rfl : fm' = fm := Option.some.inj (a2.symm.trans hfm)
  have hri0 := row_in fm'.first hrow0.1 hrow0.2.1
  have hstr := (lwf_fld hri0.2.2.2.2.2.2.1 hri0.2.2.2.2.2.2.2 a7 d s f).1
  have hR := fun w => renc_some j' hj d s f m hm fm'.first fm'.n fm'.inn fm'.beh hfm hstr w
  cases hbad : badx fm'.n (lwf fm'.inn d s f) d s f
  · rw [hbad] at hR
    have hrg : ¬ (lwf fm'.inn d s f < 0 ∨ fm'.n ≤ lwf fm'.inn d s f ∨ d < 0 ∨ 7 < d ∨ s < 0 ∨ 7 < s ∨ f < 0 ∨ 15 < f) := of_decide_eq_false hbad
    obtain ⟨i, hi⟩ := Int.eq_ofNat_of_zero_le (show 0 ≤ fm'.first + lwf fm'.inn d s f by omega)
    have hrow := row_of j' hj fm' hfm (i : Int) (by omega) (by omega)
    have hi256 : i < 256 := by omega
    have hhit := (hit_iff (j' : Int) d s f i hi256 hrow.2.2.2 j' fm' hfm hrow.2.2.1 rfl).2 hi.symm
    have hno : ∀ k : Nat, k < i → ¬ hit (j' : Int) d s f (rowOf (k : Int)) := fun k hk hh => by
      have := (hit_iff (j' : Int) d s f k (by omega) hh.1 j' fm' hfm hh.2.1 rfl).1 hh
      omega
    obtain ⟨j2, fm2, b1, b2, b3, b4, b5, b6, _⟩ := row_form (i : Int) hrow.1 hrow.2.1 hrow.2.2.2
    have hj2 : j2 = j' := by have := hrow.2.2.1; omega
    subst hj2
    obtain rfl : fm2 = fm' := Option.some.inj (b2.symm.trans hfm)
    have hri := row_in (i : Int) hrow.1 hrow.2.1
    have hG := fun w => genc_some (j2 : Int) d s f m o0 o1 hm i hi256 hhit hno w
    rw [gb_rb _ _ d s f m b5 hri.2.2.2.1 (by omega) (by omega) (by omega) (by omega) (by omega) (by omega), ← b6] at hG
    rw [hi, show (i : Int) % 256 = i by omega] at hR
    have hrgus : Rg ([(i : Int)] ++ wls d s f m fm2.beh.data.toList) := Rg.app (Rg.one (by omega) (by omega)) (wls_rg d s f m (by omega) (by omega) (by omega) (by omega) (by omega) (by omega) hm _)
    have huniq : ∀ (j : Nat) (fm : Fm), (j2 : Int) = (j : Int) → fms[j]? = some fm → [fm.first + lwf fm.inn d s f] ++ wls d s f m fm.beh.data.toList = [(i : Int)] ++ wls d s f m fm2.beh.data.toList := by
      intro j fm hj hf
      have : j = j2 := by omega
      subst this
      obtain rfl : fm = fm2 := Option.some.inj (hf.symm.trans b2)
      rw [hi]
    generalize [(i : Int)] ++ wls d s f m fm2.beh.data.toList = us at hG hR hrgus huniq
    by_cases hok : okd us (j2 : Int) d s f m
    · refine ⟨us, 0, hrgus, fun _ => hok, fun h => absurd rfl h, fun j fm hj hf _ _ => ⟨(huniq j fm hj hf).symm, rfl⟩, fun w => (hG w).mono ?_, fun w => (hR w).mono ?_⟩
      · rintro e w' ⟨h1, h2⟩; exact (gres_encr h1 h2).1 hok
      · rintro e w' ⟨h1, h2⟩
        rw [if_neg Bool.false_ne_true] at h1
        exact (rres_encr h1 h2).1 hok
    · refine ⟨[], 3, Rg.nil, fun h => absurd h (by decide), fun _ => rfl, fun j fm hj hf _ hk => absurd (huniq j fm hj hf ▸ hk) hok, fun w => (hG w).mono ?_, fun w => (hR w).mono ?_⟩
      · rintro e w' ⟨h1, h2⟩; exact (gres_encr h1 h2).2 hok
      · rintro e w' ⟨h1, h2⟩
        rw [if_neg Bool.false_ne_true] at h1
        exact (rres_encr h1 h2).2 hok
  · rw [hbad] at hR
    refine ⟨[], 3, Rg.nil, fun h => absurd h (by decide), fun _ => rfl, fun j fm hj hf hb _ => (by
      have : j = j' := by omega
      subst this
      obtain rfl : fm = fm' := Option.some.inj (hf.symm.trans hfm)
      rw [hbad] at hb
      cases hb), ?_, fun w => (hR w).mono ?_⟩
    · by_cases hex : ∃ i : Nat, i < 256 ∧ hit (j' : Int) d s f (rowOf (i : Int))
      · obtain ⟨i, ⟨hi, hh⟩, hmin⟩ := first_of hex
        intro w
        refine (genc_some (j' : Int) d s f m o0 o1 hm i hi hh (fun k hk hk2 => hmin k hk ⟨by omega, hk2⟩) w).mono ?_
        rintro e w' ⟨h1, h2⟩
        refine (gres_encr h1 h2).2 (fun hok => ?_)
        obtain ⟨j2, fm2, b1, b2, b3, b4⟩ := okd_range _ (gb_rg _ _ d s f m (by omega) (by omega) hm) _ _ _ _ _ hok
        have : j2 = j' := by omega
        subst this
        obtain rfl : fm2 = fm' := Option.some.inj (b3.symm.trans hfm)
        rw [hbad] at b4
        cases b4
      · intro w
        refine (genc_none (j' : Int) d s f m o0 o1 (fun i hi hh => hex ⟨i, hi, hh⟩) w).mono ?_
        rintro e w' ⟨rfl, hb⟩; exact EncG.nil hb
    · rintro e w' ⟨h1, h2⟩
      rw [if_pos rfl] at h1
      subst h1
      exact EncR.nil h2
end Go.Proofs.Ytcjcmnnhmajocaa.Gu
