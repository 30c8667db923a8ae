/- Plain: opt.dead keeps a block's operations. -/
import Derived.Test.YtcjcmnnhmajocabPoba
import Derived.Test.YtcjcmnnhmajocabPobc
namespace Go.Proofs.Ytcjcmnnhmajocab.Ot
open Go.RowKit Kt Ic Me Ev
set_option linter.unusedVariables false
set_option linter.unusedSimpArgs false
variable {cnt : Int} {os : List Opr} {i : Nat}
theorem one_kp (d : Dd) (i : Nat) (o : Opr) : (d.one i o).kp = upd d.kp i (d.kpO i o) := by
  unfold Dd.one
  cases h : d.kpO i o with
  | true => rw [if_pos rfl]
  | false => rw [if_neg (by decide)]
theorem one_us (d : Dd) (i : Nat) (o : Opr) : (d.one i o).us = if d.kpO i o = true then d.us2 o else d.us := by
  unfold Dd.one
  cases h : d.kpO i o with
  | true => rw [if_pos rfl, if_pos rfl]
  | false => rw [if_neg (by decide), if_neg (by decide)]
/-- what is known when an operation's turn comes -/
def dAt (os : List Opr) (i : Nat) : Dd := db os (os.length - (i + 1))
theorem db_step {i : Nat} (h : i < os.length) : db os (os.length - i) = (dAt os i).one i (opAt os i) := by
  have e : os.length - i = (os.length - (i + 1)) + 1 := by omega
  unfold dAt
  rw [e]
  show (db os (os.length - (i + 1))).one (os.length - (os.length - (i + 1) + 1)) (opAt os (os.length - (os.length - (i + 1) + 1))) = _
  rw [show os.length - (os.length - (i + 1) + 1) = i by omega]
theorem kp_stays {i : Nat} (h : i < os.length) : ∀ k, os.length - i ≤ k → k ≤ os.length → (db os k).kp i = (db os (os.length - i)).kp i
  | 0, h1, _ => by omega
  | k + 1, h1, h2 => by
    by_cases e : os.length - i = k + 1
    · rw [e]
    · show ((db os k).one (os.length - (k + 1)) _).kp i = _
      rw [one_kp, upd_ne _ _ (by omega)]
      exact kp_stays h k (by omega) (by omega)
theorem kps_at {i : Nat} (h : i < os.length) : kps os i = (dAt os i).kpO i (opAt os i) := by
  unfold kps
  rw [kp_stays h os.length (by omega) (Nat.le_refl _), db_step h, one_kp, upd_eq]
theorem mk1_mono {b : Bool} {u : Nat → Bool} {t : Int} {x : Nat} (h : u x = true) : mk1 b u t x = true := by
  unfold mk1
  cases b with
  | true =>
    rw [if_pos rfl]
    by_cases e : x = t.toNat
    · rw [e, upd_eq]
    · rw [upd_ne _ _ e]; exact h
  | false => rw [if_neg (by decide)]; exact h
theorem mk1_new {u : Nat → Bool} {t : Int} : mk1 true u t t.toNat = true := by
  unfold mk1
  rw [if_pos rfl, upd_eq]
theorem us2_mono {d : Dd} {o : Opr} {x : Nat} (h : d.us x = true) : d.us2 o x = true := mk1_mono (mk1_mono (mk1_mono h))
theorem us2_new {d : Dd} {o : Opr} {j : Nat} (hj : j < 3) (hr : isR o.k j = true) : d.us2 o (ar o j).toNat = true := by
  unfold Dd.us2
  rcases (show j = 0 ∨ j = 1 ∨ j = 2 by omega) with rfl | rfl | rfl
  · have e : tA o.k = true := hr
    rw [e]; exact mk1_mono (mk1_mono mk1_new)
  · have e : tB o.k = true := hr
    rw [e]; exact mk1_mono mk1_new
  · have e : tC o.k = true := hr
    rw [e]; exact mk1_new
theorem us_one {d : Dd} {i : Nat} {o : Opr} {x : Nat} (h : d.us x = true) : (d.one i o).us x = true := by
  rw [one_us]
  by_cases e : d.kpO i o = true
  · rw [if_pos e]; exact us2_mono h
  · rw [if_neg e]; exact h
theorem us_stays {x : Nat} {k : Nat} (h : (db os k).us x = true) : ∀ n, (db os (k + n)).us x = true
  | 0 => h
  | n + 1 => us_one (us_stays h n)
/-- what a kept one takes is used -/
theorem used {i : Nat} (h : i < os.length) (hk : kps os i = true) {j : Nat} (hj : j < 3) (hr : isR (opAt os i).k j = true) : ∀ t, t < i → (ar (opAt os i) j).toNat = t → (dAt os t).us t = true := fun t ht e => by
  have h1 : (db os (os.length - i)).us t = true := by
    rw [db_step h, one_us, ← kps_at h, hk, if_pos rfl, ← e]
    exact us2_new hj hr
  have := us_stays h1 (os.length - (t + 1) - (os.length - i))
  rw [show os.length - i + (os.length - (t + 1) - (os.length - i)) = os.length - (t + 1) by omega] at this
  exact this
theorem kp_of {i : Nat} (h : i < os.length) (h3 : (opAt os i).k ≠ 3) (hu : gvD (opAt os i).k = true → (dAt os i).us i = true) : kps os i = true := by
  rw [kps_at h]
  unfold Dd.kpO
  rw [if_neg h3]
  cases hg : gvD (opAt os i).k with
  | true => rw [if_pos rfl]; exact hu hg
  | false => rw [if_neg (by decide)]
theorem ren_tk' {ops : List Opr} {tt : Nat → Int} {o : Opr} (h : ∀ j, j < 3 → isR o.k j = true → GV ops (tt (ar o j).toNat)) : TK ops (ren tt o) := fun j hj hr => by
  have hg := h j hj hr
  rcases (show j = 0 ∨ j = 1 ∨ j = 2 by omega) with rfl | rfl | rfl
  · show GV ops (if tA o.k = true then tt o.a.toNat else o.a)
    rw [if_pos (show tA o.k = true from hr)]; exact hg
  · show GV ops (if tB o.k = true then tt o.b.toNat else o.b)
    rw [if_pos (show tB o.k = true from hr)]; exact hg
  · show GV ops (if tC o.k = true then tt o.c.toNat else o.c)
    rw [if_pos (show tC o.k = true from hr)]; exact hg
theorem ren_loc' {ops : List Opr} {tt : Nat → Int} {o : Opr} (hn : ops.length ≤ 2048) (hl : Loc cnt o) (h : ∀ j, j < 3 → isR o.k j = true → GV ops (tt (ar o j).toNat)) : Loc cnt (ren tt o) := by
  have g := ren_tk' h
  have hr := hl.r
  refine ⟨⟨hr.k, hr.w, ?_, ?_, ?_, hr.kn, hr.n⟩, by rw [locB_ren]; exact hl.e⟩
  · by_cases e : tA o.k = true
    · exact (g 0 (by decide) e).i6 hn
    · show I6 (if tA o.k = true then _ else _); rw [if_neg e]; exact hr.a
  · by_cases e : tB o.k = true
    · exact (g 1 (by decide) e).i6 hn
    · show I6 (if tB o.k = true then _ else _); rw [if_neg e]; exact hr.b
  · by_cases e : tC o.k = true
    · exact (g 2 (by decide) e).i6 hn
    · show I6 (if tC o.k = true then _ else _); rw [if_neg e]; exact hr.c
theorem gv_k {k : Int} (h : gv k = true) : (1 ≤ k ∧ k ≤ 9 ∧ k ≠ 3) ∨ k = 17 := of_decide_eq_true h
theorem gvD_k {k : Int} (h : gvD k = true) : k = 1 ∨ k = 2 ∨ (4 ≤ k ∧ k ≤ 8) ∨ k = 17 := of_decide_eq_true h
/-- the values that are kept lie where they are told to lie -/
structure DI (cnt : Int) (os : List Opr) (i : Nat) (s : Wk) : Prop where
  p : Pre cnt s.ops
  n : s.ops.length ≤ i
  t : ∀ t, t < i → kps os t = true → gv (opAt os t).k = true → GV s.ops (s.to t)
theorem ds_yes {i : Nat} (h : kps os i = true) : ds os (i + 1) = ((ds os i).put (ren (ds os i).to (opAt os i))).set i (ds os i).nx := by
  show (if kps os i = true then _ else _) = _
  rw [if_pos h]
theorem ds_no {i : Nat} (h : kps os i = false) : ds os (i + 1) = ds os i := by
  show (if kps os i = true then _ else _) = _
  rw [if_neg (by rw [h]; decide)]
theorem ds_take (g : Good cnt os) {i : Nat} (hi : i < os.length) (hk : kps os i = true) {s : Wk} (h : DI cnt os i s) : ∀ j, j < 3 → isR (opAt os i).k j = true → GV s.ops (s.to (ar (opAt os i) j).toNat) := fun j hj hr => by
  obtain ⟨h1, h2, h3⟩ := g.a.t i hi j hj hr
  have ht : (ar (opAt os i) j).toNat < i := by omega
  refine h.t _ ht (kp_of (by omega) (fun e => ?_) fun _ => used hi hk hj hr _ ht rfl) h3
  have := gv_k h3; omega
theorem ds_DI (g : Good cnt os) : ∀ i, i < os.length → DI cnt os i (ds os i)
  | 0, _ => ⟨⟨AtAll.nil cnt, fun m h => absurd h (Nat.not_lt_zero _)⟩, Nat.le_refl _, fun t h => absurd h (Nat.not_lt_zero _)⟩
  | i + 1, hi => by
    have ih := ds_DI g i (by omega)
    have hn := g.n1
    cases hk : kps os i with
    | false =>
      rw [ds_no hk]
      exact ⟨ih.p, by have := ih.n; omega, fun t ht h1 h2 => ih.t t (by
        by_cases e : t = i
        · rw [e, hk] at h1; exact absurd h1 (by decide)
        · omega) h1 h2⟩
    | true =>
      rw [ds_yes hk]
      have tk := ds_take g (by omega) hk ih
      have hf : rF (opAt os i).k = false := by
        cases hr : rF (opAt os i).k with
        | false => rfl
        | true => have := (g.f i (by omega)).1 hr; omega
      have gr := Gr.put ih.p (ren_loc' (by have := ih.n; omega) (g.a.l i (by omega)) tk) (ren_tk' tk) hf
      refine ⟨gr.p, by have := gr.n; have := ih.n; show ((ds os i).put _).ops.length ≤ _; omega, fun t ht h1 h2 => ?_⟩
      show GV ((ds os i).put _).ops (upd (ds os i).to i (ds os i).nx t)
      by_cases e : t = i
      · rw [e, upd_eq]
        rw [e] at h2
        exact GV.new (ds os i).ops (ren (ds os i).to (opAt os i)) h2
      · rw [upd_ne _ _ e]
        exact gr.g _ (ih.t t (by omega) h1 h2)
theorem kp_last (g : Good cnt os) : kps os (os.length - 1) = true := by
  have h0 := g.n0
  have hf := (g.f (os.length - 1) (by omega)).2 (by omega)
  rw [rF_fin] at hf
  have hk : 14 ≤ (opAt os (os.length - 1)).k ∧ (opAt os (os.length - 1)).k ≤ 16 := of_decide_eq_true hf
  exact kp_of (by omega) (by omega) fun h => by have := gvD_k h; omega
/-- what it makes is a block's -/
theorem ded_good (g : Good cnt os) : Good cnt (ded os) := by
  have h0 := g.n0
  have hn := g.n1
  have ih := ds_DI g (os.length - 1) (by omega)
  have tk := ds_take g (by omega) (kp_last g) ih
  have e : ded os = (ds os (os.length - 1)).ops ++ [ren (ds os (os.length - 1)).to (opAt os (os.length - 1))] := by
    show (ds os os.length).ops = _
    have h := ds_yes (kp_last g)
    rw [show os.length - 1 + 1 = os.length by omega] at h
    rw [h]; rfl
  have fe := FE.put ih.p ih.n (ren_loc' (by have := ih.n; omega) (g.a.l _ (by omega)) tk) (ren_tk' tk) ((g.f _ (by omega)).2 (by omega))
  rw [e]
  exact ⟨fe.n0, by have := fe.n; omega, g.c, fe.a, fe.f⟩
/-- what opt.dead asks -/
theorem good_DH (g : Good cnt os) : DH os := by
  refine ⟨fun i hi hk => ?_, fun i hi j hj hr => ?_⟩
  · have hl := (g.a.l i hi).w
    have := (rS_k (opAt os i).k).1 hk
    omega
  · have := g.a.t i hi j hj hr
    omega
end Go.Proofs.Ytcjcmnnhmajocab.Ot
