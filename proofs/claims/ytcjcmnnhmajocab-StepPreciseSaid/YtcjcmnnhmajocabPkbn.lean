/- crossgrainlaw1.StepPrecise: the walk. -/
import Derived.Test.YtcjcmnnhmajocabPkax
import Derived.Test.YtcjcmnnhmajocabPkbj
import Derived.Test.YtcjcmnnhmajocabPkbk
import Derived.Test.YtcjcmnnhmajocabPkbm
namespace Go.Proofs.Ytcjcmnnhmajocab.St
open Go.RowKit Kt Me Fl Gu
set_option linter.unusedVariables false
set_option linter.unusedSimpArgs false
theorem srch_use {M : MM} {r a : Int} {n : Nat} {x : Int} (h : srch M r a n = some x) : useB M r x = false ∧ 0 ≤ x ∧ x < 4294967296 := by
  unfold srch at h
  have h1 := List.find?_some h
  have h2 := List.mem_of_find?_eq_some h
  obtain ⟨k, _, rfl⟩ := List.mem_map.1 h2
  refine ⟨by simpa using h1, ?_⟩
  unfold plc; omega
/-- a byte that may not be used so -/
def Bad (M : MM) (r x : Int) : Prop := useB M r x = false ∧ 0 ≤ x ∧ x < 4294967296
/-- what a stop says -/
def Sp (M : MM) (o : Out) : Prop := (o.k = 0 ∨ o.k = 1) ∨ (o.M = M ∧ (o.k = 5 → Bad M 1 o.x) ∧ (o.k = 6 → Bad M 2 o.x) ∧ (o.k = 4 → Bad M 4 o.x))
theorem ldO_sp {M : MM} {R : Nat → Int} {pc f q n : Int} {g : Int → Out} (h : ∀ v, Sp M (g v)) : Sp M (ldO M R pc f q n g) := by
  unfold ldO
  split
  · exact h _
  · next x e => exact .inr ⟨rfl, fun _ => srch_use e, fun h => absurd h (show ¬ (5 : Int) = 6 by decide), fun h => absurd h (show ¬ (5 : Int) = 4 by decide)⟩
theorem stO_sp {M : MM} {R : Nat → Int} {pc f q n v : Int} {g : MM → Out} (h : ∀ M', Sp M (g M')) : Sp M (stO M R pc f q n v g) := by
  unfold stO
  split
  · exact h _
  · next x e =>
    refine .inr ⟨rfl, fun h => absurd h (show ¬ (6 : Int) = 5 by decide), fun _ => ?_, fun h => absurd h (show ¬ (6 : Int) = 4 by decide)⟩
    unfold sto at e
    split at e
    · exact srch_use e
    · exact absurd e (by simp)
theorem sp_end {M : MM} {R : Nat → Int} {pc f k x : Int} (h4 : k ≠ 4) (h5 : k ≠ 5) (h6 : k ≠ 6) : Sp M ⟨M, R, pc, f, k, x⟩ := .inr ⟨rfl, fun h => absurd h h5, fun h => absurd h h6, fun h => absurd h h4⟩
theorem opO_sp (M : MM) (R : Nat → Int) (pc f nx k : Int) (d s : Nat) (o m : Int) : Sp M (opO M R pc f nx k d s o m) := by
  have go : ∀ {M' : MM} {R' : Nat → Int} {pc' f' x : Int}, Sp M ⟨M', R', pc', f', 0, x⟩ := .inl (.inl rfl)
  have sy : ∀ {M' : MM} {R' : Nat → Int} {pc' f' x : Int}, Sp M ⟨M', R', pc', f', 1, x⟩ := .inl (.inr rfl)
  unfold opO
  by_cases e : k = 0
  · rw [if_pos e]; first
      | exact go
      | exact sy
      | exact sp_end (by decide) (by decide) (by decide)
      | exact ldO_sp fun v => go
      | exact stO_sp fun M' => go
      | exact ldO_sp fun v => stO_sp fun M' => go
      | (refine ldO_sp fun v => ?_; split <;> exact stO_sp fun M' => go)
      | (split <;> first | exact go | exact sp_end (by decide) (by decide) (by decide))
  rw [if_neg e]; clear e
  by_cases e : k = 1
  · rw [if_pos e]; first
      | exact go
      | exact sy
      | exact sp_end (by decide) (by decide) (by decide)
      | exact ldO_sp fun v => go
      | exact stO_sp fun M' => go
      | exact ldO_sp fun v => stO_sp fun M' => go
      | (refine ldO_sp fun v => ?_; split <;> exact stO_sp fun M' => go)
      | (split <;> first | exact go | exact sp_end (by decide) (by decide) (by decide))
  rw [if_neg e]; clear e
  by_cases e : k = 2
  · rw [if_pos e]; first
      | exact go
      | exact sy
      | exact sp_end (by decide) (by decide) (by decide)
      | exact ldO_sp fun v => go
      | exact stO_sp fun M' => go
      | exact ldO_sp fun v => stO_sp fun M' => go
      | (refine ldO_sp fun v => ?_; split <;> exact stO_sp fun M' => go)
      | (split <;> first | exact go | exact sp_end (by decide) (by decide) (by decide))
  rw [if_neg e]; clear e
  by_cases e : k = 3
  · rw [if_pos e]; first
      | exact go
      | exact sy
      | exact sp_end (by decide) (by decide) (by decide)
      | exact ldO_sp fun v => go
      | exact stO_sp fun M' => go
      | exact ldO_sp fun v => stO_sp fun M' => go
      | (refine ldO_sp fun v => ?_; split <;> exact stO_sp fun M' => go)
      | (split <;> first | exact go | exact sp_end (by decide) (by decide) (by decide))
  rw [if_neg e]; clear e
  by_cases e : k = 4
  · rw [if_pos e]; first
      | exact go
      | exact sy
      | exact sp_end (by decide) (by decide) (by decide)
      | exact ldO_sp fun v => go
      | exact stO_sp fun M' => go
      | exact ldO_sp fun v => stO_sp fun M' => go
      | (refine ldO_sp fun v => ?_; split <;> exact stO_sp fun M' => go)
      | (split <;> first | exact go | exact sp_end (by decide) (by decide) (by decide))
  rw [if_neg e]; clear e
  by_cases e : k = 5
  · rw [if_pos e]; first
      | exact go
      | exact sy
      | exact sp_end (by decide) (by decide) (by decide)
      | exact ldO_sp fun v => go
      | exact stO_sp fun M' => go
      | exact ldO_sp fun v => stO_sp fun M' => go
      | (refine ldO_sp fun v => ?_; split <;> exact stO_sp fun M' => go)
      | (split <;> first | exact go | exact sp_end (by decide) (by decide) (by decide))
  rw [if_neg e]; clear e
  by_cases e : k = 6 ∨ k = 7
  · rw [if_pos e]; first
      | exact go
      | exact sy
      | exact sp_end (by decide) (by decide) (by decide)
      | exact ldO_sp fun v => go
      | exact stO_sp fun M' => go
      | exact ldO_sp fun v => stO_sp fun M' => go
      | (refine ldO_sp fun v => ?_; split <;> exact stO_sp fun M' => go)
      | (split <;> first | exact go | exact sp_end (by decide) (by decide) (by decide))
  rw [if_neg e]; clear e
  by_cases e : k = 8
  · rw [if_pos e]; first
      | exact go
      | exact sy
      | exact sp_end (by decide) (by decide) (by decide)
      | exact ldO_sp fun v => go
      | exact stO_sp fun M' => go
      | exact ldO_sp fun v => stO_sp fun M' => go
      | (refine ldO_sp fun v => ?_; split <;> exact stO_sp fun M' => go)
      | (split <;> first | exact go | exact sp_end (by decide) (by decide) (by decide))
  rw [if_neg e]; clear e
  by_cases e : k = 9
  · rw [if_pos e]; first
      | exact go
      | exact sy
      | exact sp_end (by decide) (by decide) (by decide)
      | exact ldO_sp fun v => go
      | exact stO_sp fun M' => go
      | exact ldO_sp fun v => stO_sp fun M' => go
      | (refine ldO_sp fun v => ?_; split <;> exact stO_sp fun M' => go)
      | (split <;> first | exact go | exact sp_end (by decide) (by decide) (by decide))
  rw [if_neg e]; clear e
  by_cases e : k = 10
  · rw [if_pos e]; first
      | exact go
      | exact sy
      | exact sp_end (by decide) (by decide) (by decide)
      | exact ldO_sp fun v => go
      | exact stO_sp fun M' => go
      | exact ldO_sp fun v => stO_sp fun M' => go
      | (refine ldO_sp fun v => ?_; split <;> exact stO_sp fun M' => go)
      | (split <;> first | exact go | exact sp_end (by decide) (by decide) (by decide))
  rw [if_neg e]; clear e
  by_cases e : k = 11
  · rw [if_pos e]; first
      | exact go
      | exact sy
      | exact sp_end (by decide) (by decide) (by decide)
      | exact ldO_sp fun v => go
      | exact stO_sp fun M' => go
      | exact ldO_sp fun v => stO_sp fun M' => go
      | (refine ldO_sp fun v => ?_; split <;> exact stO_sp fun M' => go)
      | (split <;> first | exact go | exact sp_end (by decide) (by decide) (by decide))
  rw [if_neg e]; clear e
  by_cases e : k = 12 ∨ k = 13
  · rw [if_pos e]; first
      | exact go
      | exact sy
      | exact sp_end (by decide) (by decide) (by decide)
      | exact ldO_sp fun v => go
      | exact stO_sp fun M' => go
      | exact ldO_sp fun v => stO_sp fun M' => go
      | (refine ldO_sp fun v => ?_; split <;> exact stO_sp fun M' => go)
      | (split <;> first | exact go | exact sp_end (by decide) (by decide) (by decide))
  rw [if_neg e]; clear e
  by_cases e : k = 14
  · rw [if_pos e]; first
      | exact go
      | exact sy
      | exact sp_end (by decide) (by decide) (by decide)
      | exact ldO_sp fun v => go
      | exact stO_sp fun M' => go
      | exact ldO_sp fun v => stO_sp fun M' => go
      | (refine ldO_sp fun v => ?_; split <;> exact stO_sp fun M' => go)
      | (split <;> first | exact go | exact sp_end (by decide) (by decide) (by decide))
  rw [if_neg e]; clear e
  by_cases e : k = 15
  · rw [if_pos e]; first
      | exact go
      | exact sy
      | exact sp_end (by decide) (by decide) (by decide)
      | exact ldO_sp fun v => go
      | exact stO_sp fun M' => go
      | exact ldO_sp fun v => stO_sp fun M' => go
      | (refine ldO_sp fun v => ?_; split <;> exact stO_sp fun M' => go)
      | (split <;> first | exact go | exact sp_end (by decide) (by decide) (by decide))
  rw [if_neg e]; clear e
  by_cases e : k = 16
  · rw [if_pos e]; first
      | exact go
      | exact sy
      | exact sp_end (by decide) (by decide) (by decide)
      | exact ldO_sp fun v => go
      | exact stO_sp fun M' => go
      | exact ldO_sp fun v => stO_sp fun M' => go
      | (refine ldO_sp fun v => ?_; split <;> exact stO_sp fun M' => go)
      | (split <;> first | exact go | exact sp_end (by decide) (by decide) (by decide))
  rw [if_neg e]; clear e
  by_cases e : k = 17
  · rw [if_pos e]; first
      | exact go
      | exact sy
      | exact sp_end (by decide) (by decide) (by decide)
      | exact ldO_sp fun v => go
      | exact stO_sp fun M' => go
      | exact ldO_sp fun v => stO_sp fun M' => go
      | (refine ldO_sp fun v => ?_; split <;> exact stO_sp fun M' => go)
      | (split <;> first | exact go | exact sp_end (by decide) (by decide) (by decide))
  rw [if_neg e]; clear e
  by_cases e : k = 18
  · rw [if_pos e]; first
      | exact go
      | exact sy
      | exact sp_end (by decide) (by decide) (by decide)
      | exact ldO_sp fun v => go
      | exact stO_sp fun M' => go
      | exact ldO_sp fun v => stO_sp fun M' => go
      | (refine ldO_sp fun v => ?_; split <;> exact stO_sp fun M' => go)
      | (split <;> first | exact go | exact sp_end (by decide) (by decide) (by decide))
  rw [if_neg e]; clear e
  by_cases e : k = 19
  · rw [if_pos e]; first
      | exact go
      | exact sy
      | exact sp_end (by decide) (by decide) (by decide)
      | exact ldO_sp fun v => go
      | exact stO_sp fun M' => go
      | exact ldO_sp fun v => stO_sp fun M' => go
      | (refine ldO_sp fun v => ?_; split <;> exact stO_sp fun M' => go)
      | (split <;> first | exact go | exact sp_end (by decide) (by decide) (by decide))
  rw [if_neg e]; clear e
  by_cases e : k = 20
  · rw [if_pos e]; first
      | exact go
      | exact sy
      | exact sp_end (by decide) (by decide) (by decide)
      | exact ldO_sp fun v => go
      | exact stO_sp fun M' => go
      | exact ldO_sp fun v => stO_sp fun M' => go
      | (refine ldO_sp fun v => ?_; split <;> exact stO_sp fun M' => go)
      | (split <;> first | exact go | exact sp_end (by decide) (by decide) (by decide))
  rw [if_neg e]; clear e
  by_cases e : k = 21
  · rw [if_pos e]; first
      | exact go
      | exact sy
      | exact sp_end (by decide) (by decide) (by decide)
      | exact ldO_sp fun v => go
      | exact stO_sp fun M' => go
      | exact ldO_sp fun v => stO_sp fun M' => go
      | (refine ldO_sp fun v => ?_; split <;> exact stO_sp fun M' => go)
      | (split <;> first | exact go | exact sp_end (by decide) (by decide) (by decide))
  rw [if_neg e]; clear e
  by_cases e : k = 22
  · rw [if_pos e]; first
      | exact go
      | exact sy
      | exact sp_end (by decide) (by decide) (by decide)
      | exact ldO_sp fun v => go
      | exact stO_sp fun M' => go
      | exact ldO_sp fun v => stO_sp fun M' => go
      | (refine ldO_sp fun v => ?_; split <;> exact stO_sp fun M' => go)
      | (split <;> first | exact go | exact sp_end (by decide) (by decide) (by decide))
  rw [if_neg e]; clear e
  by_cases e : k = 23
  · rw [if_pos e]; first
      | exact go
      | exact sy
      | exact sp_end (by decide) (by decide) (by decide)
      | exact ldO_sp fun v => go
      | exact stO_sp fun M' => go
      | exact ldO_sp fun v => stO_sp fun M' => go
      | (refine ldO_sp fun v => ?_; split <;> exact stO_sp fun M' => go)
      | (split <;> first | exact go | exact sp_end (by decide) (by decide) (by decide))
  rw [if_neg e]; clear e
  by_cases e : k = 24
  · rw [if_pos e]; first
      | exact go
      | exact sy
      | exact sp_end (by decide) (by decide) (by decide)
      | exact ldO_sp fun v => go
      | exact stO_sp fun M' => go
      | exact ldO_sp fun v => stO_sp fun M' => go
      | (refine ldO_sp fun v => ?_; split <;> exact stO_sp fun M' => go)
      | (split <;> first | exact go | exact sp_end (by decide) (by decide) (by decide))
  rw [if_neg e]; clear e
  by_cases e : k = 25
  · rw [if_pos e]; first
      | exact go
      | exact sy
      | exact sp_end (by decide) (by decide) (by decide)
      | exact ldO_sp fun v => go
      | exact stO_sp fun M' => go
      | exact ldO_sp fun v => stO_sp fun M' => go
      | (refine ldO_sp fun v => ?_; split <;> exact stO_sp fun M' => go)
      | (split <;> first | exact go | exact sp_end (by decide) (by decide) (by decide))
  rw [if_neg e]; clear e
  by_cases e : k = 26
  · rw [if_pos e]; first
      | exact go
      | exact sy
      | exact sp_end (by decide) (by decide) (by decide)
      | exact ldO_sp fun v => go
      | exact stO_sp fun M' => go
      | exact ldO_sp fun v => stO_sp fun M' => go
      | (refine ldO_sp fun v => ?_; split <;> exact stO_sp fun M' => go)
      | (split <;> first | exact go | exact sp_end (by decide) (by decide) (by decide))
  rw [if_neg e]; clear e
  by_cases e : k = 27
  · rw [if_pos e]; first
      | exact go
      | exact sy
      | exact sp_end (by decide) (by decide) (by decide)
      | exact ldO_sp fun v => go
      | exact stO_sp fun M' => go
      | exact ldO_sp fun v => stO_sp fun M' => go
      | (refine ldO_sp fun v => ?_; split <;> exact stO_sp fun M' => go)
      | (split <;> first | exact go | exact sp_end (by decide) (by decide) (by decide))
  rw [if_neg e]; clear e
  by_cases e : k = 28 ∨ k = 29
  · rw [if_pos e]; first
      | exact go
      | exact sy
      | exact sp_end (by decide) (by decide) (by decide)
      | exact ldO_sp fun v => go
      | exact stO_sp fun M' => go
      | exact ldO_sp fun v => stO_sp fun M' => go
      | (refine ldO_sp fun v => ?_; split <;> exact stO_sp fun M' => go)
      | (split <;> first | exact go | exact sp_end (by decide) (by decide) (by decide))
  rw [if_neg e]; clear e
  by_cases e : k = 30
  · rw [if_pos e]; first
      | exact go
      | exact sy
      | exact sp_end (by decide) (by decide) (by decide)
      | exact ldO_sp fun v => go
      | exact stO_sp fun M' => go
      | exact ldO_sp fun v => stO_sp fun M' => go
      | (refine ldO_sp fun v => ?_; split <;> exact stO_sp fun M' => go)
      | (split <;> first | exact go | exact sp_end (by decide) (by decide) (by decide))
  rw [if_neg e]; clear e
  first
      | exact go
      | exact sy
      | exact sp_end (by decide) (by decide) (by decide)
      | exact ldO_sp fun v => go
      | exact stO_sp fun M' => go
      | exact ldO_sp fun v => stO_sp fun M' => go
      | (refine ldO_sp fun v => ?_; split <;> exact stO_sp fun M' => go)
      | (split <;> first | exact go | exact sp_end (by decide) (by decide) (by decide))
/-- a step that stops leaves all, and says why -/
theorem step_says (M : MM) (R : Nat → Int) (pc f : Int) : ((stepO M R pc f).k = 0 ∨ (stepO M R pc f).k = 1) ∨ ∃ k x, stepO M R pc f = ⟨M, R, pc, f % 16, k, x⟩ ∧ k ≠ 0 ∧ k ≠ 1 ∧ (k = 5 → Bad M 1 x) ∧ (k = 6 → Bad M 2 x) ∧ (k = 4 → Bad M 4 x) := by
  have hf : ∀ {n x : Int}, fetS M pc n = some x → Bad M 4 x := fun {n x} e => by
    unfold fetS at e
    split at e
    · exact srch_use e
    · exact absurd e (by simp)
  have four : ∀ {x : Int}, Bad M 4 x → ∃ k y, (⟨M, R, pc, f % 16, 4, x⟩ : Out) = ⟨M, R, pc, f % 16, k, y⟩ ∧ k ≠ 0 ∧ k ≠ 1 ∧ (k = 5 → Bad M 1 y) ∧ (k = 6 → Bad M 2 y) ∧ (k = 4 → Bad M 4 y) := fun {x} hb =>
    ⟨4, x, rfl, by decide, by decide, fun h => absurd h (by decide), fun h => absurd h (by decide), fun _ => hb⟩
  unfold stepO
  split
  · next x e => exact .inr (four (hf e))
  · split
    · next x e => exact .inr (four (hf e))
    · split
      · generalize w32 (pc + dz (decv (usI M pc)) 5) = nx
        have h := opO_sp M R pc (f % 16) nx (dz (decv (usI M pc)) 0) (dz (decv (usI M pc)) 1).toNat (dz (decv (usI M pc)) 2).toNat (dz (decv (usI M pc)) 3) (dz (decv (usI M pc)) 4)
        generalize opO M R pc (f % 16) nx (dz (decv (usI M pc)) 0) (dz (decv (usI M pc)) 1).toNat (dz (decv (usI M pc)) 2).toNat (dz (decv (usI M pc)) 3) (dz (decv (usI M pc)) 4) = o at h ⊢
        unfold stay
        by_cases hk : o.k = 0 ∨ o.k = 1
        · rw [if_pos hk]; exact .inl hk
        · rw [if_neg hk]
          rcases h with h | ⟨h1, h2, h3, h4⟩
          · exact absurd h hk
          · refine .inr ⟨o.k, o.x, by rw [h1], fun h => hk (.inl h), fun h => hk (.inr h), h2, h3, h4⟩
      · exact .inr ⟨3, 0, rfl, by decide, by decide, fun h => absurd h (by decide), fun h => absurd h (by decide), fun h => absurd h (by decide)⟩
theorem and_rt (v r : Int) (v0 : 0 ≤ v) (v1 : v < 8) (hr : r = 1 ∨ r = 2 ∨ r = 4) (hu : ¬ v / r % 2 = 1) : bits .and .i64 v r = 0 := by
  rcases (show v = 0 ∨ v = 1 ∨ v = 2 ∨ v = 3 ∨ v = 4 ∨ v = 5 ∨ v = 6 ∨ v = 7 by omega) with rfl | rfl | rfl | rfl | rfl | rfl | rfl | rfl <;> rcases hr with rfl | rfl | rfl <;> first | decide | exact absurd (by decide) hu
/-- what a stop's argument says, as the law reads it -/
theorem bad_says {M : MM} {r x : Int} (hM : MOk M) (hr : r = 1 ∨ r = 2 ∨ r = 4) (h : Bad M r x) : 65535 < x ∨ (x / 256 < 256 ∧ 0 ≤ x / 256 ∧ bits .and .i64 (M.rt (x / 256).toNat) r = 0) := by
  obtain ⟨h1, h2, h3⟩ := h
  unfold useB at h1
  by_cases hx : 65535 < x
  · exact .inl hx
  · refine .inr ⟨by omega, by omega, and_rt _ _ (hM.2 _).1 (hM.2 _).2 hr ?_⟩
    simp only [Bool.and_eq_false_iff, decide_eq_false_iff_not] at h1
    rcases h1 with h1 | h1
    · omega
    · exact h1
/-- the constant part -/
def us0 : List Int := [66, 7, 0, 0, 0, 5, 9]
def MC : MM := prM (pok M0 0 us0) 0 4
theorem mc_ok : MOk MC := (MOk.zero.pok 0 (us := us0) (fun j => by
  unfold us0
  match j with
  | 0 | 1 | 2 | 3 | 4 | 5 | 6 => decide
  | n + 7 => simp)).prM 0 4
theorem mc_layd (ao : Option Addr) (cap : Nat) : layd [⟨0, us0, ao, cap, 4⟩] = MC := rfl
set_option maxRecDepth 100000 in
theorem mc_1 : (stepO MC (fun _ => 0) 0 0).k = 0 ∧ (stepO MC (fun _ => 0) 0 0).R 2 = 7 ∧ (stepO MC (fun _ => 0) 0 0).pc = 5 := by decide +kernel
set_option maxRecDepth 100000 in
theorem mc_2 : (stepO (stepO MC (fun _ => 0) 0 0).M (stepO MC (fun _ => 0) 0 0).R (stepO MC (fun _ => 0) 0 0).pc (stepO MC (fun _ => 0) 0 0).f).k = 1 ∧ (stepO (stepO MC (fun _ => 0) 0 0).M (stepO MC (fun _ => 0) 0 0).R (stepO MC (fun _ => 0) 0 0).pc (stepO MC (fun _ => 0) 0 0).f).x = 9 ∧ (stepO (stepO MC (fun _ => 0) 0 0).M (stepO MC (fun _ => 0) 0 0).R (stepO MC (fun _ => 0) 0 0).pc (stepO MC (fun _ => 0) 0 0).f).pc = 7 := by decide +kernel
end Go.Proofs.Ytcjcmnnhmajocab.St
namespace Go.Proofs.Ytcjcmnnhmajocab.St
open Go.RowKit Kt Me Fl Gu
set_option linter.unusedVariables false
set_option linter.unusedSimpArgs false
theorem prts_const (W : World) (b : Nat) (hb : W.heap.size = b) : Prts [⟨0, us0, some ⟨b, 0, none⟩, 7, 4⟩] (some ⟨b + 1, 0, none⟩) 1 ((W.alloc (.cells #[.int .u8 66, .int .u8 7, .int .u8 0, .int .u8 0, .int .u8 0, .int .u8 5, .int .u8 9] 5)).alloc (.cells #[.int .i64 0, .slice (some ⟨b, 0, none⟩) 7 7, .int .i64 4] 76)) := by
  subst hb
  have A1 : ∀ i, (W.alloc (.cells #[.int .u8 66, .int .u8 7, .int .u8 0, .int .u8 0, .int .u8 0, .int .u8 5, .int .u8 9] 5)).cell? ⟨W.heap.size, i, none⟩ = (#[.int .u8 66, .int .u8 7, .int .u8 0, .int .u8 0, .int .u8 0, .int .u8 5, .int .u8 9] : Array Value)[i]? := fun i => box_at W _ _ i
  have e1 : (W.alloc (.cells #[.int .u8 66, .int .u8 7, .int .u8 0, .int .u8 0, .int .u8 0, .int .u8 5, .int .u8 9] 5)).heap.size = W.heap.size + 1 := by simp
  generalize W.alloc (.cells #[.int .u8 66, .int .u8 7, .int .u8 0, .int .u8 0, .int .u8 0, .int .u8 5, .int .u8 9] 5) = W1 at A1 e1 ⊢
  have A2 : ∀ i, (W1.alloc (.cells #[.int .i64 0, .slice (some ⟨W.heap.size, 0, none⟩) 7 7, .int .i64 4] 76)).cell? ⟨W.heap.size + 1, i, none⟩ = (#[.int .i64 0, .slice (some ⟨W.heap.size, 0, none⟩) 7 7, .int .i64 4] : Array Value)[i]? := fun i => by rw [← e1]; exact box_at W1 _ _ i
  have u := (Upto.refl (fun _ => False) W1).alloc (.cells #[.int .i64 0, .slice (some ⟨W.heap.size, 0, none⟩) 7 7, .int .i64 4] 76)
  have e2 : (W1.alloc (.cells #[.int .i64 0, .slice (some ⟨W.heap.size, 0, none⟩) 7 7, .int .i64 4] 76)).heap.size = W.heap.size + 1 + 1 := by simp [e1]
  refine ⟨Nat.le_refl _, by unfold maxLen; decide, fun s hs => ?_, fun _ => ⟨W.heap.size + 1, 0, rfl, by omega, fun i s hi j v hj => ?_⟩⟩
  · obtain rfl : s = _ := List.mem_singleton.1 hs
    refine ⟨by show (-9223372036854775808 : Int) ≤ 0; decide, by show (0 : Int) < 9223372036854775808; decide, ⟨by show (7 : Nat) ≤ 7; decide, by show (7 : Nat) ≤ maxLen; unfold maxLen; decide, fun _ => ⟨W.heap.size, 0, rfl, by omega, fun j hj => ?_⟩⟩, fun j => ?_⟩
    · rw [(u.cell (q := ⟨W.heap.size, 0 + j, none⟩) (by show W.heap.size < _; omega) id), Nat.zero_add, A1 j]
      have hj' : j < 7 := hj
      match j, hj' with
      | 0, _ | 1, _ | 2, _ | 3, _ | 4, _ | 5, _ | 6, _ => rfl
    · show 0 ≤ us0.getD j 0 ∧ us0.getD j 0 < 256
      unfold us0
      match j with
      | 0 | 1 | 2 | 3 | 4 | 5 | 6 => decide
      | n + 7 => simp
  · match i, hi with
    | 0, hi =>
      obtain rfl : _ = s := Option.some.inj hi
      rw [show (0 + 0 * 3 + j) = j by omega, A2 j]
      exact hj
set_option maxRecDepth 100000 in
set_option maxHeartbeats 16000000 in
theorem precise_walk (ps : List Prt) (ao : Option Addr) (cap : Nat) (R : Nat → Int) (pc f : Int) (w : World) (h : Prts ps ao cap w) (hR : ROk R) (c0 : 0 ≤ pc) (c1 : pc < 4294967296) (f0 : 0 ≤ f) (f1 : f < 4294967296) :
    Calls Try.prog 7 #[.slice ao ps.length cap, stV R pc f] w fun e w' => e = .returned (.bool true) ∧ Below w.heap.size w w' := by
  have HP := Lib.hid h
  have HR := Lib.hid hR
  have sb := SB.new w R pc f 72
  have e1 : (w.alloc (.cells (stL R pc f) 72)).heap.size = w.heap.size + 1 := by simp
  have pc0 := prts_const (w.alloc (.cells (stL R pc f) 72)) (w.heap.size + 1) e1
  have u2 := ((Upto.refl (fun _ => False) (w.alloc (.cells (stL R pc f) 72))).alloc (.cells #[.int .u8 66, .int .u8 7, .int .u8 0, .int .u8 0, .int .u8 0, .int .u8 5, .int .u8 9] 5)).alloc (.cells #[.int .i64 0, .slice (some ⟨w.heap.size + 1, 0, none⟩) 7 7, .int .i64 4] 76)
  have b2 : Below w.heap.size w (((w.alloc (.cells (stL R pc f) 72)).alloc (.cells #[.int .u8 66, .int .u8 7, .int .u8 0, .int .u8 0, .int .u8 0, .int .u8 5, .int .u8 9] 5)).alloc (.cells #[.int .i64 0, .slice (some ⟨w.heap.size + 1, 0, none⟩) 7 7, .int .i64 4] 76)) := (((Below.refl _ _).alloc (Nat.le_refl _) _).alloc (by simp) _).alloc (by simp; omega) _
  have sb := sb.upto u2 id
  unfold stL at sb pc0 b2
  clear h hR u2 e1
  unfold stV
  go_enter Try.func7, Try.ntmps7
  go_wp2_with fail
  generalize ((w.alloc (.cells #[.int .u32 (R 0), .int .u32 (R 1), .int .u32 (R 2), .int .u32 (R 3), .int .u32 (R 4), .int .u32 (R 5), .int .u32 (R 6), .int .u32 (R 7), .int .u32 pc, .int .u32 f] 72)).alloc (.cells #[.int .u8 66, .int .u8 7, .int .u8 0, .int .u8 0, .int .u8 0, .int .u8 5, .int .u8 9] 5)).alloc (.cells #[.int .i64 0, .slice (some ⟨w.heap.size + 1, 0, none⟩) 7 7, .int .i64 4] 76) = WA at sb pc0 b2 ⊢
  refine (both_any _ _ _ WA pc0).mono ?_
  rintro e w2 ⟨p1, P1, rfl, hp, hb, hg⟩
  rw [mc_layd] at hp
  have S2 := Lib.hid (sb.upto (Upto.of_below (S := fun _ => False) hb) id)
  have B2 := Lib.hid (chain b2 hb)
  have G2 := Lib.hid hg
  have M2 := Lib.hid hp
  have LA : w.heap.size < WA.heap.size := sb.l
  have LP1 : p1 < w2.heap.size := hp.hc.2.2.2.2.2.2
  have NH : ¬ w.heap.size = p1 := by have := hg p1 (.inl rfl); omega
  clear sb pc0 b2 hp hb hg
  obtain ⟨o1, ho1⟩ : ∃ o, stepO MC (fun _ => 0) 0 0 = o := ⟨_, rfl⟩
  obtain ⟨o2, ho2⟩ : ∃ o, stepO o1.M o1.R o1.pc o1.f = o := ⟨_, rfl⟩
  have O1 := Lib.hid (show OOk o1 from ho1 ▸ stepO_ok MC (fun _ => 0) 0 0 mc_ok (fun _ => ⟨Int.le_refl _, (by decide : (0 : Int) < 4294967296)⟩) (by decide))
  have k1 := mc_1
  have k2 := mc_2
  rw [ho1] at k1 k2
  rw [ho2] at k2
  have CA := step_any p1 MC (fun _ => 0) 0 0 w2 M2.out.hc mc_ok (fun _ => ⟨Int.le_refl _, (by decide : (0 : Int) < 4294967296)⟩) (by decide) (by decide) (by decide) (by decide)
  have CC := fun w h => step_any p1 o1.M o1.R o1.pc o1.f w h O1.out.M O1.out.R O1.out.p.1 O1.out.p.2 O1.out.f.1 (by have := O1.out.f; omega)
  rw [ho1] at CA
  rw [ho2] at CC
  unfold outV stV at CA CC
  dsimp only at CA
  have CA := Lib.hid CA
  have CC := Lib.hid CC
  have K1 := Lib.hid k1
  have K2 := Lib.hid k2
  clear ho1 ho2 k1 k2
  have P1G : WA.heap.size ≤ p1 := G2.out p1 (.inl rfl)
  go_wp2_with fail
  refine CA.out.mono ?_
  rintro e w3 ⟨rfl, c3, u3⟩
  have S3 := Lib.hid (S2.out.upto u3 NH)
  have B3 := Lib.hid (B2.out.trans (u3.below B2.out.size (fun k hk e => by omega)))
  have C3 := Lib.hid c3
  have L3 := u3.size
  clear c3 u3 CA S2 B2 M2
  go_upto_region 5 with fail
  obtain ⟨ta, ka, un⟩ := two_new w3 o1.R o1.pc o1.f o1.k o1.x
  have S4 := Lib.hid (S3.out.upto un id)
  have C4 := Lib.hid (C3.out.upto un id)
  have B4 := Lib.hid (B3.out.trans (un.below B3.out.size (fun k hk => id)))
  have l3 := S3.out.l
  unfold stL at ta ka un S4 C4 B4
  generalize (w3.alloc (.cells #[.int .u32 (o1.R 0), .int .u32 (o1.R 1), .int .u32 (o1.R 2), .int .u32 (o1.R 3), .int .u32 (o1.R 4), .int .u32 (o1.R 5), .int .u32 (o1.R 6), .int .u32 (o1.R 7), .int .u32 o1.pc, .int .u32 o1.f] 72)).alloc (.cells #[.int .i64 o1.k, .int .u32 o1.x] 46) = W4 at ta ka un S4 C4 B4 ⊢
  have TA := Lib.hid ta
  have KA := Lib.hid ka
  clear ta ka un S3 C3 B3
  obtain ⟨a0, a1, a2, a3, a4, a5, a6, a7, a8, a9⟩ := TA.out.all
  go_wp2_with fail
  refine (CC.out _ C4.out).mono ?_
  rintro e w5 ⟨rfl, c5, u5⟩
  clear a0 a1 a2 a3 a4 a5 a6 a7 a8 a9
  have n3 : ¬ w3.heap.size = p1 := by omega
  have n3' : ¬ w3.heap.size + 1 = p1 := by omega
  have S5 := Lib.hid (S4.out.upto u5 NH)
  have TA5 := Lib.hid (TA.out.upto u5 n3)
  have KA5 := Lib.hid (KA.out.upto u5 n3')
  have B5 := Lib.hid (B4.out.trans (u5.below B4.out.size (fun k hk e => by omega)))
  clear c5 u5 CC C4 TA KA S4 B4
  go_upto_region 6 with fail
  obtain ⟨tb, kb, un⟩ := two_new w5 o2.R o2.pc o2.f o2.k o2.x
  have S6 := Lib.hid (S5.out.upto un id)
  have TA6 := Lib.hid (TA5.out.upto un id)
  have KA6 := Lib.hid (KA5.out.upto un id)
  have B6 := Lib.hid (B5.out.trans (un.below B5.out.size (fun k hk => id)))
  have l5 : w3.heap.size + 1 < w5.heap.size := KA5.out.l
  unfold stL at tb kb un S6 TA6 KA6 B6
  generalize (w5.alloc (.cells #[.int .u32 (o2.R 0), .int .u32 (o2.R 1), .int .u32 (o2.R 2), .int .u32 (o2.R 3), .int .u32 (o2.R 4), .int .u32 (o2.R 5), .int .u32 (o2.R 6), .int .u32 (o2.R 7), .int .u32 o2.pc, .int .u32 o2.f] 72)).alloc (.cells #[.int .i64 o2.k, .int .u32 o2.x] 46) = W6 at tb kb un S6 TA6 KA6 B6 ⊢
  clear un S5 TA5 KA5 B5
  have k0 := KA6.out.c0
  rw [K1.out.1] at k0
  have a2 := TA6.out.r 2 (by omega)
  rw [K1.out.2.1] at a2
  have a8 := TA6.out.c8
  rw [K1.out.2.2] at a8
  have b0 := kb.c0
  rw [K2.out.1] at b0
  have b1 := kb.c1
  rw [K2.out.2.1] at b1
  have b8 := tb.c8
  rw [K2.out.2.2] at b8
  have ns := neq_stop 1 9
  clear kb tb
  go_upto_region 8 with fail
  clear k0 a2 a8 b0 b1 b8 ns K1 K2 KA6
  go_wp2_with fail
  refine (both_any ps ao cap W6 (HP.out.keep B6.out)).mono ?_
  rintro e w7 ⟨p, P, rfl, hp, hb, hg⟩
  have LW6 : w3.heap.size < W6.heap.size := TA6.out.l
  have LW7 : w.heap.size < W6.heap.size := S6.out.l
  have S7 := Lib.hid (S6.out.upto (Upto.of_below (S := fun _ => False) hb) id)
  have TA7 := Lib.hid (TA6.out.upto (Upto.of_below (S := fun _ => False) hb) id)
  have B7 := Lib.hid (chain B6.out hb)
  have PP := Lib.hid hp
  have NE := Lib.hid hp.ne
  have MO := Lib.hid hp.ok
  have GP := Lib.hid hg
  have pG : W6.heap.size ≤ p := hg p (.inl rfl)
  clear hb hp hg S6 TA6 B6
  obtain ⟨M, hM⟩ : ∃ M, layd ps = M := ⟨_, rfl⟩
  rw [hM] at PP MO
  clear hM HP
  obtain ⟨o, ho⟩ : ∃ o, stepO M R pc f = o := ⟨_, rfl⟩
  have CS := step_any p M R pc f w7 PP.out.hc MO.out HR.out c0 c1 f0 f1
  have SAY := step_says M R pc f
  rw [ho] at CS SAY
  unfold outV stV at CS
  have CS := Lib.hid CS
  have SAY := Lib.hid SAY
  clear ho
  obtain ⟨a0, a1, a2, a3, a4, a5, a6, a7, a8, a9⟩ := S7.out.all
  go_wp2_with fail
  refine CS.out.mono ?_
  rintro e w8 ⟨rfl, c8, u8⟩
  clear a0 a1 a2 a3 a4 a5 a6 a7 a8 a9
  have nH : ¬ w.heap.size = p := by omega
  have nA : ¬ w3.heap.size = p := by omega
  have C8 := Lib.hid c8
  have R8 := Lib.hid (PP.out.rm.upto u8 (fun k hk e => NE.out (e ▸ hk)))
  have S8 := Lib.hid (S7.out.upto u8 nH)
  have TA8 := Lib.hid (TA7.out.upto u8 nA)
  have B8 := Lib.hid (B7.out.trans (u8.below B7.out.size (fun k hk e => by omega)))
  have L8 := u8.size
  have L7 : W6.heap.size ≤ w7.heap.size := by have := PP.out.hc.2.2.2.2.2.2; omega
  clear c8 u8 CS PP S7 TA7 B7
  have nP : ∀ k, k < W6.heap.size → ¬ P.has k := fun k hk hp => by have := GP.out k (.inr hp); omega
  have NP := Lib.hid nP
  clear nP
  obtain ⟨a0, a1, a2, a3, a4, a5, a6, a7, a8, a9⟩ := TA8.out.all
  have z0 := TA8.out.z 0
  have z1 := TA8.out.z 1
  have z2 := TA8.out.z 2
  have z3 := TA8.out.z 3
  have z4 := TA8.out.z 4
  have z5 := TA8.out.z 5
  have z6 := TA8.out.z 6
  have z7 := TA8.out.z 7
  have z8 := TA8.out.z 8
  have z9 := TA8.out.z 9
  have lT := TA8.out.l
  go_upto_region 13 with fail
  clear a0 a1 a2 a3 a4 a5 a6 a7 a8 a9 z0 z1 z2 z3 z4 z5 z6 z7 z8 z9
  have s9 := TA8.out.put o.R o.pc o.f
  have u9 := up_put10 (S := fun i => i = w3.heap.size) (h := w3.heap.size) (Upto.refl _ w8) (.inl rfl) (.int .u32 (o.R 0)) (.int .u32 (o.R 1)) (.int .u32 (o.R 2)) (.int .u32 (o.R 3)) (.int .u32 (o.R 4)) (.int .u32 (o.R 5)) (.int .u32 (o.R 6)) (.int .u32 (o.R 7)) (.int .u32 o.pc) (.int .u32 o.f)
  have hsz : (((((((((((w8.setCell ⟨w3.heap.size, 0, none⟩ (.int .u32 (o.R 0))).setCell ⟨w3.heap.size, 1, none⟩ (.int .u32 (o.R 1))).setCell ⟨w3.heap.size, 2, none⟩ (.int .u32 (o.R 2))).setCell ⟨w3.heap.size, 3, none⟩ (.int .u32 (o.R 3))).setCell ⟨w3.heap.size, 4, none⟩ (.int .u32 (o.R 4))).setCell ⟨w3.heap.size, 5, none⟩ (.int .u32 (o.R 5))).setCell ⟨w3.heap.size, 6, none⟩ (.int .u32 (o.R 6))).setCell ⟨w3.heap.size, 7, none⟩ (.int .u32 (o.R 7))).setCell ⟨w3.heap.size, 8, none⟩ (.int .u32 o.pc)).setCell ⟨w3.heap.size, 9, none⟩ (.int .u32 o.f))).heap.size = w8.heap.size := by simp
  have S9 := S8.out.upto u9 (by omega)
  have C9 := C8.out.upto u9 (by omega)
  have R9 := R8.out.upto u9 (fun k hk e => NP.out w3.heap.size (by omega) (e ▸ hk))
  have B9 := B8.out.trans (u9.below B8.out.size (fun k hk e => by omega))
  generalize ((((((((((w8.setCell ⟨w3.heap.size, 0, none⟩ (.int .u32 (o.R 0))).setCell ⟨w3.heap.size, 1, none⟩ (.int .u32 (o.R 1))).setCell ⟨w3.heap.size, 2, none⟩ (.int .u32 (o.R 2))).setCell ⟨w3.heap.size, 3, none⟩ (.int .u32 (o.R 3))).setCell ⟨w3.heap.size, 4, none⟩ (.int .u32 (o.R 4))).setCell ⟨w3.heap.size, 5, none⟩ (.int .u32 (o.R 5))).setCell ⟨w3.heap.size, 6, none⟩ (.int .u32 (o.R 6))).setCell ⟨w3.heap.size, 7, none⟩ (.int .u32 (o.R 7))).setCell ⟨w3.heap.size, 8, none⟩ (.int .u32 o.pc)).setCell ⟨w3.heap.size, 9, none⟩ (.int .u32 o.f)) = W9 at s9 hsz S9 C9 R9 B9 ⊢
  clear u9
  have kn := KB.new W9 o.k o.x 46
  have un := (Upto.refl (fun _ => False) W9).alloc (.cells #[.int .i64 o.k, .int .u32 o.x] 46)
  rw [hsz] at kn
  have tx := s9.upto un id
  have S9 := S9.upto un id
  have C9 := C9.upto un id
  have R9 := R9.upto un (fun _ _ => id)
  have B9 := B9.trans (un.below B9.size (fun k hk => id))
  generalize W9.alloc (.cells #[.int .i64 o.k, .int .u32 o.x] 46) = WX at kn tx S9 C9 R9 B9 ⊢
  have KX0 := Lib.hid kn
  have TX0 := Lib.hid tx
  have S9 := Lib.hid S9
  have CX0 := Lib.hid C9
  have R9 := Lib.hid R9
  have B9 := Lib.hid B9
  clear kn un s9 hsz S8 C8 R8 B8 TA8 C9 tx
  have kx0 := KX0.out.c0
  have kx1 := KX0.out.c1
  rcases SAY.out with hk | ⟨k, x, he, hk0, hk1, h5, h6, h4⟩
  · clear SAY
    rcases hk with hk | hk
    · rw [hk] at kx0
      go_wp2_with fail
      go_ret
      exact ⟨rfl, B9.out⟩
    · rw [hk] at kx0
      go_wp2_with fail
      go_ret
      exact ⟨rfl, B9.out⟩
  · clear SAY
    subst he
    have TX : Hid (SB w3.heap.size R pc (f % 16) WX) := TX0
    have C9 : Hid (HC p M WX) := CX0
    have KX : Hid (KB w8.heap.size k x WX) := KX0
    clear TX0 CX0 KX0 kx0 kx1
    have kx0 := KX.out.c0
    have kx1 := KX.out.c1
    have PX := Lib.hid (show Pair p P M WX from ⟨C9.out, R9.out, NE.out, MO.out⟩)
    have lH := S9.out.l
    have lK := KX.out.l
    have zf := S9.out.z 9
    have sf := S9.out.c9
    have hff : f % 16 % 16 = f % 16 := by omega
    by_cases e5 : k = 5
    · subst e5
      clear h6 h4
      have HB5 := Lib.hid (h5 rfl)
      clear h5
      go_upto_region 24 with fail
      have u1 := (Upto.refl (fun i => i = w.heap.size) WX).setCell (q := ⟨w.heap.size, 9, none⟩) (.inl rfl) (.int .u32 (f % 16))
      have SY := S9.out.setF (f % 16)
      have TY := TX.out.upto u1 (by omega)
      have KY := KX.out.upto u1 (by omega)
      have PY := PX.out.upto u1 (fun k hk e => by have := GP.out k hk; omega)
      have BY := B9.out.setCell (p := ⟨w.heap.size, 9, none⟩) (Nat.le_refl _) (.int .u32 (f % 16))
      generalize WX.setCell ⟨w.heap.size, 9, none⟩ (.int .u32 (f % 16)) = WY at SY TY KY PY BY ⊢
      clear u1 zf sf
      have WC := Lib.hid (whole_any p P M WY PY)
      obtain ⟨a0, a1, a2, a3, a4, a5, a6, a7, a8, a9⟩ := TY.all
      obtain ⟨b0, b1, b2, b3, b4, b5, b6, b7, b8, b9⟩ := SY.all
      have ns := neq_state (R 0) (R 1) (R 2) (R 3) (R 4) (R 5) (R 6) (R 7) pc (f % 16)
      have KY := Lib.hid KY
      have PY := Lib.hid PY
      have BY := Lib.hid BY
      clear SY TY
      go_upto_region 26 with (go_at_call 35; (with_reducible refine WC.out.mono ?_); rintro e wz ⟨rfl, bz⟩; have KZ := KY.out.upto (Upto.of_below (S := fun _ => False) bz) id; have RZ := PY.out.rm.upto (Upto.of_below (S := fun _ => False) bz) (fun _ _ => id); have BZ := Lib.hid (chain BY.out bz))
      clear a0 a1 a2 a3 a4 a5 a6 a7 a8 a9 b0 b1 b2 b3 b4 b5 b6 b7 b8 b9 ns kx0 kx1
      have kz0 := KZ.c0
      have kz1 := KZ.c1
      have q1 := RZ.hq1
      rcases bad_says MO.out (by omega) HB5.out with hx | ⟨hx1, hx0, hb⟩
      · have hxb : decide (65535 < x) = true := by simp [hx]
        clear q1 RZ hx
        go_region
        go_wp2_with fail
        go_ret
        first | exact ⟨rfl, BZ.out⟩ | exact ⟨rfl, BZ.out.drew⟩
      · have hx : ¬ 65535 < x := by omega
        obtain ⟨i, hi⟩ := Int.eq_ofNat_of_zero_le hx0
        rw [hi] at hb hx1
        have rc := RZ.hr i (by omega)
        have e5 : ((i : Int)).toNat = i := rfl
        rw [e5] at hb
        have hi' : x.tdiv 256 = (i : Int) := by rw [Int.tdiv_eq_ediv_of_nonneg (by omega)]; exact hi
        go_region
        go_wp2_with fail
        go_ret
        first | exact ⟨rfl, BZ.out⟩ | exact ⟨rfl, BZ.out.drew⟩
    by_cases e6 : k = 6
    · subst e6
      clear h5 h4
      have HB6 := Lib.hid (h6 rfl)
      clear h6
      go_upto_region 24 with fail
      have u1 := (Upto.refl (fun i => i = w.heap.size) WX).setCell (q := ⟨w.heap.size, 9, none⟩) (.inl rfl) (.int .u32 (f % 16))
      have SY := S9.out.setF (f % 16)
      have TY := TX.out.upto u1 (by omega)
      have KY := KX.out.upto u1 (by omega)
      have PY := PX.out.upto u1 (fun k hk e => by have := GP.out k hk; omega)
      have BY := B9.out.setCell (p := ⟨w.heap.size, 9, none⟩) (Nat.le_refl _) (.int .u32 (f % 16))
      generalize WX.setCell ⟨w.heap.size, 9, none⟩ (.int .u32 (f % 16)) = WY at SY TY KY PY BY ⊢
      clear u1 zf sf
      have WC := Lib.hid (whole_any p P M WY PY)
      obtain ⟨a0, a1, a2, a3, a4, a5, a6, a7, a8, a9⟩ := TY.all
      obtain ⟨b0, b1, b2, b3, b4, b5, b6, b7, b8, b9⟩ := SY.all
      have ns := neq_state (R 0) (R 1) (R 2) (R 3) (R 4) (R 5) (R 6) (R 7) pc (f % 16)
      have KY := Lib.hid KY
      have PY := Lib.hid PY
      have BY := Lib.hid BY
      clear SY TY
      go_upto_region 26 with (go_at_call 35; (with_reducible refine WC.out.mono ?_); rintro e wz ⟨rfl, bz⟩; have KZ := KY.out.upto (Upto.of_below (S := fun _ => False) bz) id; have RZ := PY.out.rm.upto (Upto.of_below (S := fun _ => False) bz) (fun _ _ => id); have BZ := Lib.hid (chain BY.out bz))
      clear a0 a1 a2 a3 a4 a5 a6 a7 a8 a9 b0 b1 b2 b3 b4 b5 b6 b7 b8 b9 ns kx0 kx1
      have kz0 := KZ.c0
      have kz1 := KZ.c1
      have q1 := RZ.hq1
      rcases bad_says MO.out (by omega) HB6.out with hx | ⟨hx1, hx0, hb⟩
      · have hxb : decide (65535 < x) = true := by simp [hx]
        clear q1 RZ hx
        go_region
        go_wp2_with fail
        go_ret
        first | exact ⟨rfl, BZ.out⟩ | exact ⟨rfl, BZ.out.drew⟩
      · have hx : ¬ 65535 < x := by omega
        obtain ⟨i, hi⟩ := Int.eq_ofNat_of_zero_le hx0
        rw [hi] at hb hx1
        have rc := RZ.hr i (by omega)
        have e5 : ((i : Int)).toNat = i := rfl
        rw [e5] at hb
        have hi' : x.tdiv 256 = (i : Int) := by rw [Int.tdiv_eq_ediv_of_nonneg (by omega)]; exact hi
        go_region
        go_wp2_with fail
        go_ret
        first | exact ⟨rfl, BZ.out⟩ | exact ⟨rfl, BZ.out.drew⟩
    by_cases e4 : k = 4
    · subst e4
      clear h5 h6
      have HB4 := Lib.hid (h4 rfl)
      clear h4
      go_upto_region 24 with fail
      have u1 := (Upto.refl (fun i => i = w.heap.size) WX).setCell (q := ⟨w.heap.size, 9, none⟩) (.inl rfl) (.int .u32 (f % 16))
      have SY := S9.out.setF (f % 16)
      have TY := TX.out.upto u1 (by omega)
      have KY := KX.out.upto u1 (by omega)
      have PY := PX.out.upto u1 (fun k hk e => by have := GP.out k hk; omega)
      have BY := B9.out.setCell (p := ⟨w.heap.size, 9, none⟩) (Nat.le_refl _) (.int .u32 (f % 16))
      generalize WX.setCell ⟨w.heap.size, 9, none⟩ (.int .u32 (f % 16)) = WY at SY TY KY PY BY ⊢
      clear u1 zf sf
      have WC := Lib.hid (whole_any p P M WY PY)
      obtain ⟨a0, a1, a2, a3, a4, a5, a6, a7, a8, a9⟩ := TY.all
      obtain ⟨b0, b1, b2, b3, b4, b5, b6, b7, b8, b9⟩ := SY.all
      have ns := neq_state (R 0) (R 1) (R 2) (R 3) (R 4) (R 5) (R 6) (R 7) pc (f % 16)
      have KY := Lib.hid KY
      have PY := Lib.hid PY
      have BY := Lib.hid BY
      clear SY TY
      go_upto_region 26 with (go_at_call 35; (with_reducible refine WC.out.mono ?_); rintro e wz ⟨rfl, bz⟩; have KZ := KY.out.upto (Upto.of_below (S := fun _ => False) bz) id; have RZ := PY.out.rm.upto (Upto.of_below (S := fun _ => False) bz) (fun _ _ => id); have BZ := Lib.hid (chain BY.out bz))
      clear a0 a1 a2 a3 a4 a5 a6 a7 a8 a9 b0 b1 b2 b3 b4 b5 b6 b7 b8 b9 ns kx0 kx1
      have kz0 := KZ.c0
      have kz1 := KZ.c1
      have q1 := RZ.hq1
      rcases bad_says MO.out (by omega) HB4.out with hx | ⟨hx1, hx0, hb⟩
      · have hxb : decide (65535 < x) = true := by simp [hx]
        clear q1 RZ hx
        go_region
        go_wp2_with fail
        go_ret
        first | exact ⟨rfl, BZ.out⟩ | exact ⟨rfl, BZ.out.drew⟩
      · have hx : ¬ 65535 < x := by omega
        obtain ⟨i, hi⟩ := Int.eq_ofNat_of_zero_le hx0
        rw [hi] at hb hx1
        have rc := RZ.hr i (by omega)
        have e5 : ((i : Int)).toNat = i := rfl
        rw [e5] at hb
        have hi' : x.tdiv 256 = (i : Int) := by rw [Int.tdiv_eq_ediv_of_nonneg (by omega)]; exact hi
        go_region
        go_wp2_with fail
        go_ret
        first | exact ⟨rfl, BZ.out⟩ | exact ⟨rfl, BZ.out.drew⟩
    have kb0 : (k == 0) = false := by rw [beq_eq_false_iff_ne]; omega
    have kb1 : (k == 1) = false := by rw [beq_eq_false_iff_ne]; omega
    have kb5 : (k == 5) = false := by rw [beq_eq_false_iff_ne]; omega
    have kb6 : (k == 6) = false := by rw [beq_eq_false_iff_ne]; omega
    have kb4 : (k == 4) = false := by rw [beq_eq_false_iff_ne]; omega
    go_upto_region 24 with fail
    have u1 := (Upto.refl (fun i => i = w.heap.size) WX).setCell (q := ⟨w.heap.size, 9, none⟩) (.inl rfl) (.int .u32 (f % 16))
    have SY := S9.out.setF (f % 16)
    have TY := TX.out.upto u1 (by omega)
    have KY := KX.out.upto u1 (by omega)
    have PY := PX.out.upto u1 (fun k hk e => by have := GP.out k hk; omega)
    have BY := B9.out.setCell (p := ⟨w.heap.size, 9, none⟩) (Nat.le_refl _) (.int .u32 (f % 16))
    generalize WX.setCell ⟨w.heap.size, 9, none⟩ (.int .u32 (f % 16)) = WY at SY TY KY PY BY ⊢
    clear u1 zf sf
    have WC := Lib.hid (whole_any p P M WY PY)
    obtain ⟨a0, a1, a2, a3, a4, a5, a6, a7, a8, a9⟩ := TY.all
    obtain ⟨b0, b1, b2, b3, b4, b5, b6, b7, b8, b9⟩ := SY.all
    have ns := neq_state (R 0) (R 1) (R 2) (R 3) (R 4) (R 5) (R 6) (R 7) pc (f % 16)
    have KY := Lib.hid KY
    have PY := Lib.hid PY
    have BY := Lib.hid BY
    clear SY TY
    go_upto_region 26 with (go_at_call 35; (with_reducible refine WC.out.mono ?_); rintro e wz ⟨rfl, bz⟩; have KZ := KY.out.upto (Upto.of_below (S := fun _ => False) bz) id; have RZ := PY.out.rm.upto (Upto.of_below (S := fun _ => False) bz) (fun _ _ => id); have BZ := Lib.hid (chain BY.out bz))
    clear a0 a1 a2 a3 a4 a5 a6 a7 a8 a9 b0 b1 b2 b3 b4 b5 b6 b7 b8 b9 ns kx0 kx1
    have kz0 := KZ.c0
    have kz1 := KZ.c1
    go_region
    go_wp2_with fail
    go_ret
    first | exact ⟨rfl, BZ.out⟩ | exact ⟨rfl, BZ.out.drew⟩
end Go.Proofs.Ytcjcmnnhmajocab.St
