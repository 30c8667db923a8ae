/- Plain: each round of opt.Block makes it less, or leaves it as it is. -/
import Derived.Test.YtcjcmnnhmajocabPobd
import Derived.Test.YtcjcmnnhmajocabPobf
namespace Go.Proofs.Ytcjcmnnhmajocab.Ot
open Go.RowKit Kt Ic Me Ev
set_option linter.unusedVariables false
set_option linter.unusedSimpArgs false
variable {cnt : Int} {os : List Opr} {i : Nat} {s : Wk}
theorem mz_app (a b : List Opr) : mz (a ++ b) = mz a + mz b := by unfold mz; rw [List.map_append, List.sum_append]
theorem mz_one (o : Opr) : mz [o] = wtO o := by unfold mz; simp
theorem mz_put (s : Wk) (o : Opr) : mz (s.put o).ops = mz s.ops + wtO o := by show mz (s.ops ++ [o]) = _; rw [mz_app, mz_one]
theorem mz_drop {i : Nat} (h : i < os.length) : mz (os.drop i) = wtO (opAt os i) + mz (os.drop (i + 1)) := by
  rw [List.drop_eq_getElem_cons h]
  have e : opAt os i = os[i] := by unfold opAt; rw [List.getD_eq_getElem?_getD, List.getElem?_eq_getElem h]; rfl
  rw [e]
  unfold mz
  rw [List.map_cons, List.sum_cons]
theorem wtO_1 (o : Opr) : 1 ≤ wtO o ∧ wtO o ≤ 3 := by
  unfold wtO
  by_cases h : o.k = 1
  · rw [if_pos h]; omega
  · rw [if_neg h]
    by_cases h2 : o.k = 17
    · rw [if_pos h2]; omega
    · rw [if_neg h2]; omega
theorem wt1 {o : Opr} (h : o.k = 1) : wtO o = 1 := by unfold wtO; rw [if_pos h]
theorem wt17 {o : Opr} (h : o.k = 17) : wtO o = 3 := by unfold wtO; rw [if_neg (by omega), if_pos h]
theorem wt2 {o : Opr} (h : o.k ≠ 1) (h2 : o.k ≠ 17) : wtO o = 2 := by unfold wtO; rw [if_neg h, if_neg h2]
/-- it is put as it is -/
structure Ex (s : Wk) (o : Opr) : Prop where
  g : o.k = 2 → s.sl o.w.toNat < 0
  p : o.k = 3 → s.sl o.w.toNat ≠ o.a
  n : o.k = 17 → s.now < 0 ∧ ¬ (0 ≤ s.sl 8 ∧ 0 ≤ s.sl 9 ∧ 0 ≤ s.sl 10 ∧ 0 ≤ s.sl 11 ∧ isC s (s.sl 8) = true)
  i : pur o.k = true → idx o s.ops = none
  v : pur o.k = true → o.k ≠ 1 → allC s o = false ∧ ¬ (o.k = 6 ∧ isC s o.a = true)
  c : o.k = 12 ∨ o.k = 13 → isC s o.a = false
/-- the walk behind an operation that is put as it is -/
def nxt (s : Wk) (i : Nat) (o : Opr) : Wk :=
  if o.k = 2 then ((s.put o).st o.w.toNat s.nx).set i s.nx
  else if o.k = 3 then (if 8 ≤ o.w then (s.st o.w.toNat o.a).setN (-1) else s.st o.w.toNat o.a).put o
  else if o.k = 17 then ((s.put o).setN s.nx).set i s.nx
  else if o.k = 12 ∨ o.k = 13 then s.put o
  else (s.put o).set i s.nx
theorem num_wt (s : Wk) (o : Opr) : mz (s.num o).2.ops ≤ mz s.ops + wtO o ∧ (mz (s.num o).2.ops = mz s.ops + wtO o → idx o s.ops = none ∧ s.num o = (s.nx, s.put o)) := by
  unfold Wk.num
  cases h : idx o s.ops with
  | some k =>
    refine ⟨Nat.le_add_right _ _, fun e => ?_⟩
    have e' : mz s.ops = mz s.ops + wtO o := e
    have := (wtO_1 o).1; omega
  | none => exact ⟨Nat.le_of_eq (mz_put s o), fun _ => ⟨rfl, rfl⟩⟩
theorem val_wt (s : Wk) {o : Opr} (hp : pur o.k = true) : mz (s.val o).2.ops ≤ mz s.ops + wtO o ∧
    (mz (s.val o).2.ops = mz s.ops + wtO o → idx o s.ops = none ∧ s.val o = (s.nx, s.put o) ∧ (o.k ≠ 1 → allC s o = false ∧ ¬ (o.k = 6 ∧ isC s o.a = true))) := by
  have hk := pur_k hp
  have hw := wtO_1 o
  have hn := num_wt s o
  unfold Wk.val
  by_cases h1 : o.k = 1
  · rw [if_pos h1]
    exact ⟨hn.1, fun e => ⟨(hn.2 e).1, (hn.2 e).2, fun h => absurd h1 h⟩⟩
  rw [if_neg h1]
  by_cases h2 : allC s o = true
  · rw [if_pos h2]
    have hf := (num_wt s (fold s o)).1
    rw [wt1 (show (fold s o).k = 1 from rfl)] at hf
    have h22 := wt2 h1 (show o.k ≠ 17 by omega)
    exact ⟨by omega, fun e => by omega⟩
  rw [if_neg h2]
  have h2' : allC s o = false := by simpa using h2
  by_cases h3 : o.k = 6 ∧ isC s o.a = true
  · rw [if_pos h3]
    refine ⟨Nat.le_add_right _ _, fun e => ?_⟩
    have e' : mz s.ops = mz s.ops + wtO o := e
    omega
  rw [if_neg h3]
  by_cases h4 : o.k = 6 ∧ o.b = o.c
  · rw [if_pos h4]
    refine ⟨Nat.le_add_right _ _, fun e => ?_⟩
    have e' : mz s.ops = mz s.ops + wtO o := e
    omega
  rw [if_neg h4]
  by_cases h5 : o.k = 4 ∧ isC s o.b = true ∧ kn s o.b = 0 ∧ lv o.w = true
  · rw [if_pos h5]
    refine ⟨Nat.le_add_right _ _, fun e => ?_⟩
    have e' : mz s.ops = mz s.ops + wtO o := e
    omega
  rw [if_neg h5]
  exact ⟨hn.1, fun e => ⟨(hn.2 e).1, (hn.2 e).2, fun _ => ⟨h2', h3⟩⟩⟩
theorem step_wt (s : Wk) (i : Nat) (o : Opr) : mz (s.step i o).2.ops ≤ mz s.ops + wtO o ∧
    (mz (s.step i o).2.ops = mz s.ops + wtO o → (s.step i o).1 = false → Ex s o ∧ (s.step i o).2 = nxt s i o) ∧ ((s.step i o).1 = true → o.k = 12 ∨ o.k = 13) := by
  have hw := wtO_1 o
  have ab : ∀ {P : Prop}, mz s.ops = mz s.ops + wtO o → P := fun e => by omega
  unfold Wk.step
  by_cases h2 : o.k = 2
  · rw [if_pos h2]
    refine ⟨?_, fun e _ => ?_, fun e => absurd (show false = true from e) (by decide)⟩
    · unfold Wk.got
      by_cases h : s.sl o.w.toNat < 0
      · rw [if_pos h]; exact Nat.le_of_eq (mz_put s o)
      · rw [if_neg h]; exact Nat.le_add_right _ _
    · dsimp only at e ⊢
      unfold Wk.got at e ⊢
      by_cases h : s.sl o.w.toNat < 0
      · rw [if_pos h]
        refine ⟨⟨fun _ => h, fun h => by omega, fun h => by omega, fun h => by have := pur_k h; omega, fun h => by have := pur_k h; omega, fun h => by omega⟩, ?_⟩
        unfold nxt; rw [if_pos h2]
      · rw [if_neg h] at e; exact ab e
  rw [if_neg h2]
  by_cases h3 : o.k = 3
  · rw [if_pos h3]
    refine ⟨?_, fun e _ => ?_, fun e => absurd (show false = true from e) (by decide)⟩
    · unfold Wk.slt
      by_cases h : s.sl o.w.toNat = o.a
      · rw [if_pos h]; exact Nat.le_add_right _ _
      · rw [if_neg h]
        by_cases h8 : 8 ≤ o.w
        · rw [if_pos h8]; exact Nat.le_of_eq (mz_put s o)
        · rw [if_neg h8]; exact Nat.le_of_eq (mz_put s o)
    · dsimp only at e ⊢
      unfold Wk.slt at e ⊢
      by_cases h : s.sl o.w.toNat = o.a
      · rw [if_pos h] at e; exact ab e
      · rw [if_neg h]
        refine ⟨⟨fun h => by omega, fun _ => h, fun h => by omega, fun h => by have := pur_k h; omega, fun h => by have := pur_k h; omega, fun h => by omega⟩, ?_⟩
        unfold nxt; rw [if_neg h2, if_pos h3]
  rw [if_neg h3]
  by_cases h17 : o.k = 17
  · rw [if_pos h17]
    have hw3 := wt17 h17
    refine ⟨?_, fun e _ => ?_, fun e => absurd (show false = true from e) (by decide)⟩
    · show mz (s.flg o).2.ops ≤ _
      unfold Wk.flg
      by_cases h : 0 ≤ s.sl 8 ∧ 0 ≤ s.sl 9 ∧ 0 ≤ s.sl 10 ∧ 0 ≤ s.sl 11 ∧ isC s (s.sl 8) = true
      · rw [if_pos h]
        have hv := (val_wt s (o := ⟨7, flK (kn s (s.sl 8)), s.sl 9, s.sl 10, s.sl 11, 0, 0⟩) rfl).1
        rw [wt2 (o := ⟨7, flK (kn s (s.sl 8)), s.sl 9, s.sl 10, s.sl 11, 0, 0⟩) (show (7 : Int) ≠ 1 by decide) (show (7 : Int) ≠ 17 by decide)] at hv
        omega
      · rw [if_neg h]
        by_cases hn : s.now < 0
        · rw [if_pos hn]; exact Nat.le_of_eq (mz_put s o)
        · rw [if_neg hn]; exact Nat.le_add_right _ _
    · dsimp only at e ⊢
      have e : mz (s.flg o).2.ops = mz s.ops + wtO o := e
      unfold Wk.flg at e ⊢
      by_cases h : 0 ≤ s.sl 8 ∧ 0 ≤ s.sl 9 ∧ 0 ≤ s.sl 10 ∧ 0 ≤ s.sl 11 ∧ isC s (s.sl 8) = true
      · rw [if_pos h] at e
        have hv := (val_wt s (o := ⟨7, flK (kn s (s.sl 8)), s.sl 9, s.sl 10, s.sl 11, 0, 0⟩) rfl).1
        rw [wt2 (o := ⟨7, flK (kn s (s.sl 8)), s.sl 9, s.sl 10, s.sl 11, 0, 0⟩) (show (7 : Int) ≠ 1 by decide) (show (7 : Int) ≠ 17 by decide)] at hv
        omega
      · rw [if_neg h] at e ⊢
        by_cases hn : s.now < 0
        · rw [if_pos hn]
          refine ⟨⟨fun h => by omega, fun h => by omega, fun _ => ⟨hn, h⟩, fun h => by have := pur_k h; omega, fun h => by have := pur_k h; omega, fun h => by omega⟩, ?_⟩
          unfold nxt; rw [if_neg h2, if_neg h3, if_pos h17]
        · rw [if_neg hn] at e; exact ab e
  rw [if_neg h17]
  by_cases hp : pur o.k = true
  · rw [if_pos hp]
    have hk := pur_k hp
    have hv := val_wt s hp
    refine ⟨hv.1, fun e _ => ?_, fun e => absurd (show false = true from e) (by decide)⟩
    obtain ⟨e1, e2, e3⟩ := hv.2 e
    refine ⟨⟨fun h => by omega, fun h => by omega, fun h => by omega, fun _ => e1, fun _ => e3, fun h => by omega⟩, ?_⟩
    unfold nxt; rw [if_neg h2, if_neg h3, if_neg h17, if_neg (show ¬ (o.k = 12 ∨ o.k = 13) by omega)]
    dsimp only
    rw [e2]
  rw [if_neg hp]
  by_cases hq : o.k = 12 ∨ o.k = 13
  · rw [if_pos hq]
    refine ⟨?_, fun e hf => ?_, fun _ => hq⟩
    · unfold Wk.per
      have hw2 := wt2 (o := o) (by omega) (by omega)
      by_cases h : isC s o.a = false
      · rw [if_pos h]; exact Nat.le_of_eq (mz_put s o)
      rw [if_neg h]
      by_cases h0 : kn s o.a = 0
      · rw [if_pos h0]; exact Nat.le_add_right _ _
      rw [if_neg h0]
      by_cases h12 : o.k = 12
      · rw [if_pos h12]
        have := mz_put s ⟨15, 0, 0, 0, 0, o.kn, o.n⟩
        rw [wt2 (o := ⟨15, 0, 0, 0, 0, o.kn, o.n⟩) (show (15 : Int) ≠ 1 by decide) (show (15 : Int) ≠ 17 by decide)] at this
        dsimp only; omega
      · rw [if_neg h12]
        have := mz_put s ⟨14, o.w, 0, 0, 0, o.kn, o.n⟩
        rw [wt2 (o := ⟨14, o.w, 0, 0, 0, o.kn, o.n⟩) (show (14 : Int) ≠ 1 by decide) (show (14 : Int) ≠ 17 by decide)] at this
        dsimp only; omega
    · unfold Wk.per at e hf ⊢
      by_cases h : isC s o.a = false
      · rw [if_pos h]
        refine ⟨⟨fun h => by omega, fun h => by omega, fun h => by omega, fun h => absurd h hp, fun h => absurd h hp, fun _ => h⟩, ?_⟩
        unfold nxt; rw [if_neg h2, if_neg h3, if_neg h17, if_pos hq]
      rw [if_neg h] at e hf
      by_cases h0 : kn s o.a = 0
      · rw [if_pos h0] at e; exact ab e
      rw [if_neg h0] at hf
      by_cases h12 : o.k = 12
      · rw [if_pos h12] at hf; exact absurd (show true = false from hf) (by decide)
      · rw [if_neg h12] at hf; exact absurd (show true = false from hf) (by decide)
  rw [if_neg hq]
  refine ⟨Nat.le_of_eq (mz_put s o), fun _ _ => ?_, fun e => absurd (show false = true from e) (by decide)⟩
  refine ⟨⟨fun h => by omega, fun h => by omega, fun h => by omega, fun h => absurd h hp, fun h => absurd h hp, fun h => absurd h hq⟩, ?_⟩
  unfold nxt; rw [if_neg h2, if_neg h3, if_neg h17, if_neg hq]
theorem nxt_ops (s : Wk) (i : Nat) (o : Opr) : (nxt s i o).ops = s.ops ++ [o] := by
  unfold nxt
  by_cases h2 : o.k = 2
  · rw [if_pos h2]; rfl
  rw [if_neg h2]
  by_cases h3 : o.k = 3
  · rw [if_pos h3]
    by_cases h8 : 8 ≤ o.w
    · rw [if_pos h8]; rfl
    · rw [if_neg h8]; rfl
  rw [if_neg h3]
  by_cases h17 : o.k = 17
  · rw [if_pos h17]; rfl
  rw [if_neg h17]
  by_cases hq : o.k = 12 ∨ o.k = 13
  · rw [if_pos hq]; rfl
  · rw [if_neg hq]; rfl
theorem nxt_to (s : Wk) (i : Nat) (o : Opr) : (gv o.k = true → (nxt s i o).to i = s.nx) ∧ ∀ t, t ≠ i → (nxt s i o).to t = s.to t := by
  unfold nxt
  by_cases h2 : o.k = 2
  · rw [if_pos h2]; exact ⟨fun _ => upd_eq _ _ _, fun t h => upd_ne _ _ h⟩
  rw [if_neg h2]
  by_cases h3 : o.k = 3
  · rw [if_pos h3]
    refine ⟨fun h => by have := gv_k h; omega, fun t h => ?_⟩
    by_cases h8 : 8 ≤ o.w
    · rw [if_pos h8]; rfl
    · rw [if_neg h8]; rfl
  rw [if_neg h3]
  by_cases h17 : o.k = 17
  · rw [if_pos h17]; exact ⟨fun _ => upd_eq _ _ _, fun t h => upd_ne _ _ h⟩
  rw [if_neg h17]
  by_cases hq : o.k = 12 ∨ o.k = 13
  · rw [if_pos hq]
    exact ⟨fun h => by have := gv_k h; omega, fun t h => rfl⟩
  · rw [if_neg hq]; exact ⟨fun _ => upd_eq _ _ _, fun t h => upd_ne _ _ h⟩
/-- what is made and what is left -/
def Wt (os : List Opr) (i : Nat) : Nat := mz (fs os i).2.ops + mz (os.drop i)
theorem Wt_le {i : Nat} (h : i < os.length) : Wt os (i + 1) ≤ Wt os i := by
  unfold Wt
  rw [mz_drop h]
  cases hb : (fs os i).1 with
  | true =>
    have e : fs os (i + 1) = fs os i := by show (if (fs os i).1 = true then _ else _) = _; rw [if_pos hb]
    rw [e]; omega
  | false =>
    have hw := (step_wt (fs os i).2 i (ren (fs os i).2.to (opAt os i))).1
    rw [← fs_go hb] at hw
    have e : wtO (ren (fs os i).2.to (opAt os i)) = wtO (opAt os i) := rfl
    omega
theorem Wt_mono : ∀ (n i : Nat), i + n ≤ os.length → Wt os (i + n) ≤ Wt os i
  | 0, i, _ => Nat.le_refl _
  | n + 1, i, h => Nat.le_trans (Wt_le (i := i + n) (by omega)) (Wt_mono n i (by omega))
theorem Wt_0 : Wt os 0 = mz os := by show mz [] + mz (os.drop 0) = _; rw [List.drop_zero]; show 0 + mz os = _; omega
theorem Wt_end : Wt os os.length = mz (fwd os) := by unfold Wt fwd; rw [List.drop_length]; show _ + 0 = _; omega
theorem fwd_mz : mz (fwd os) ≤ mz os := by
  rw [← Wt_0 (os := os), ← Wt_end (os := os)]
  have := Wt_mono (os := os) os.length 0 (by omega)
  rwa [Nat.zero_add] at this
theorem ren_id {tt : Nat → Int} {o : Opr} (h : ∀ j, j < 3 → isR o.k j = true → tt (ar o j).toNat = ar o j) : ren tt o = o := by
  have ha : (if tA o.k = true then tt o.a.toNat else o.a) = o.a := by
    by_cases e : tA o.k = true
    · rw [if_pos e]; exact h 0 (by decide) e
    · rw [if_neg e]
  have hb : (if tB o.k = true then tt o.b.toNat else o.b) = o.b := by
    by_cases e : tB o.k = true
    · rw [if_pos e]; exact h 1 (by decide) e
    · rw [if_neg e]
  have hc : (if tC o.k = true then tt o.c.toNat else o.c) = o.c := by
    by_cases e : tC o.k = true
    · rw [if_pos e]; exact h 2 (by decide) e
    · rw [if_neg e]
  unfold ren
  rw [ha, hb, hc]
theorem take_snoc {i : Nat} (h : i < os.length) : os.take (i + 1) = os.take i ++ [opAt os i] := by
  have e : opAt os i = os[i] := by unfold opAt; rw [List.getD_eq_getElem?_getD, List.getElem?_eq_getElem h]; rfl
  rw [List.take_succ_eq_append_getElem h, e]
/-- the walk so far has put all as it is -/
structure EI (os : List Opr) (i : Nat) : Prop where
  b : (fs os i).1 = false
  o : (fs os i).2.ops = os.take i
  t : ∀ t, t < i → gv (opAt os t).k = true → (fs os i).2.to t = (t : Int)
theorem EI.step (g : Good cnt os) {i : Nat} (h : EI os i) (hi : i < os.length) (he : mz os ≤ mz (fwd os)) : EI os (i + 1) ∧ Ex (fs os i).2 (opAt os i) ∧ (fs os (i + 1)).2 = nxt (fs os i).2 i (opAt os i) := by
  have hr : ren (fs os i).2.to (opAt os i) = opAt os i := ren_id fun j hj hr => by
    obtain ⟨h1, h2, h3⟩ := g.a.t i hi j hj hr
    rw [h.t _ (by omega) h3]; omega
  have hgo := fs_go h.b
  rw [hr] at hgo
  have hw := step_wt (fs os i).2 i (opAt os i)
  rw [← hgo] at hw
  have hWi : Wt os i = mz os := by
    have h1 := Wt_mono (os := os) i 0 (by omega)
    rw [Nat.zero_add, Wt_0] at h1
    have h2 := Wt_mono (os := os) (os.length - i) i (by omega)
    rw [show i + (os.length - i) = os.length by omega, Wt_end] at h2
    omega
  have hWj : Wt os (i + 1) = mz os := by
    have h1 := Wt_le hi
    have h2 := Wt_mono (os := os) (os.length - (i + 1)) (i + 1) (by omega)
    rw [show i + 1 + (os.length - (i + 1)) = os.length by omega, Wt_end] at h2
    omega
  have heq : mz (fs os (i + 1)).2.ops = mz (fs os i).2.ops + wtO (opAt os i) := by
    unfold Wt at hWi hWj
    rw [mz_drop hi] at hWi
    omega
  have hb : (fs os (i + 1)).1 = false := by
    cases e : (fs os (i + 1)).1 with
    | false => rfl
    | true =>
      have hk := hw.2.2 e
      have hne : ¬ (i + 1 = os.length) := fun e2 => by
        have := (g.f i hi).2 e2
        rw [rF_no (by omega)] at this; exact absurd this (by decide)
      have h2 := Wt_mono (os := os) (os.length - (i + 2)) (i + 2) (by omega)
      rw [show i + 2 + (os.length - (i + 2)) = os.length by omega, Wt_end] at h2
      have e3 : fs os (i + 2) = fs os (i + 1) := by show (if (fs os (i + 1)).1 = true then _ else _) = _; rw [if_pos e]
      unfold Wt at hWj h2
      rw [e3] at h2
      rw [mz_drop (i := i + 1) (by omega)] at hWj
      have := (wtO_1 (opAt os (i + 1))).1
      have e4 : i + 1 + 1 = i + 2 := rfl
      rw [e4] at hWj
      omega
  obtain ⟨hex, hn⟩ := hw.2.1 heq hb
  refine ⟨⟨hb, ?_, fun t ht hg => ?_⟩, hex, hn⟩
  · rw [hn, nxt_ops, h.o, take_snoc hi]
  · rw [hn]
    by_cases e : t = i
    · rw [e] at hg ⊢
      rw [(nxt_to _ _ _).1 hg]
      show ((fs os i).2.ops.length : Int) = _
      rw [h.o, List.length_take, Nat.min_eq_left (by omega)]
    · rw [(nxt_to _ _ _).2 t e]
      exact h.t t (by omega) hg
theorem EI.all (g : Good cnt os) (he : mz os ≤ mz (fwd os)) : ∀ i, i ≤ os.length → EI os i
  | 0, _ => ⟨rfl, rfl, fun t h => absurd h (Nat.not_lt_zero _)⟩
  | i + 1, h => (EI.step g (EI.all g he i (by omega)) (by omega) he).1
theorem fwd_same (g : Good cnt os) (he : mz os ≤ mz (fwd os)) : fwd os = os := by
  have h := (EI.all g he os.length (Nat.le_refl _)).o
  rw [List.take_length] at h
  exact h
/-- the same of opt.dead -/
def Wd (os : List Opr) (i : Nat) : Nat := mz (ds os i).ops + mz (os.drop i)
theorem Wd_le {i : Nat} (h : i < os.length) : Wd os (i + 1) ≤ Wd os i ∧ (kps os i = false → Wd os (i + 1) < Wd os i) := by
  unfold Wd
  rw [mz_drop h]
  have hw := (wtO_1 (opAt os i)).1
  cases hk : kps os i with
  | false => rw [ds_no hk]; exact ⟨by omega, fun _ => by omega⟩
  | true =>
    rw [ds_yes hk]
    have e : mz (((ds os i).put (ren (ds os i).to (opAt os i))).set i (ds os i).nx).ops = mz (ds os i).ops + wtO (opAt os i) := mz_put (ds os i) (ren (ds os i).to (opAt os i))
    exact ⟨by omega, fun e => absurd e (by decide)⟩
theorem Wd_mono : ∀ (n i : Nat), i + n ≤ os.length → Wd os (i + n) ≤ Wd os i
  | 0, i, _ => Nat.le_refl _
  | n + 1, i, h => Nat.le_trans (Wd_le (i := i + n) (by omega)).1 (Wd_mono n i (by omega))
theorem Wd_0 : Wd os 0 = mz os := by show mz [] + mz (os.drop 0) = _; rw [List.drop_zero]; show 0 + mz os = _; omega
theorem Wd_end : Wd os os.length = mz (ded os) := by unfold Wd ded; rw [List.drop_length]; show _ + 0 = _; omega
theorem ded_mz : mz (ded os) ≤ mz os := by
  rw [← Wd_0 (os := os), ← Wd_end (os := os)]
  have := Wd_mono (os := os) os.length 0 (by omega)
  rwa [Nat.zero_add] at this
theorem ded_kept (he : mz os ≤ mz (ded os)) {i : Nat} (hi : i < os.length) : kps os i = true := by
  cases hk : kps os i with
  | true => rfl
  | false =>
    have h0 := (Wd_le hi).2 hk
    have h1 := Wd_mono (os := os) i 0 (by omega)
    rw [Nat.zero_add, Wd_0] at h1
    have h2 := Wd_mono (os := os) (os.length - (i + 1)) (i + 1) (by omega)
    rw [show i + 1 + (os.length - (i + 1)) = os.length by omega, Wd_end] at h2
    omega
theorem ds_same (g : Good cnt os) (he : mz os ≤ mz (ded os)) : ∀ i, i ≤ os.length → (ds os i).ops = os.take i ∧ ∀ t, t < i → (ds os i).to t = (t : Int)
  | 0, _ => ⟨rfl, fun t h => absurd h (Nat.not_lt_zero _)⟩
  | i + 1, h => by
    obtain ⟨h1, h2⟩ := ds_same g he i (by omega)
    have hr : ren (ds os i).to (opAt os i) = opAt os i := ren_id fun j hj hr => by
      obtain ⟨h4, h5, h6⟩ := g.a.t i (by omega) j hj hr
      rw [h2 _ (by omega)]; omega
    rw [ds_yes (ded_kept he (by omega)), hr]
    refine ⟨?_, fun t ht => ?_⟩
    · show (ds os i).ops ++ [opAt os i] = _
      rw [h1, take_snoc (by omega)]
    · show upd (ds os i).to i (ds os i).nx t = _
      by_cases e : t = i
      · rw [e, upd_eq]
        show ((ds os i).ops.length : Int) = _
        rw [h1, List.length_take, Nat.min_eq_left (by omega)]
      · rw [upd_ne _ _ e]; exact h2 t (by omega)
theorem ded_same (g : Good cnt os) (he : mz os ≤ mz (ded os)) : ded os = os := by
  have h := (ds_same g he os.length (Nat.le_refl _)).1
  rw [List.take_length] at h
  exact h
/-- a round makes it less, or leaves it -/
theorem opt1_mz (g : Good cnt os) (h : opt1 os ≠ os) : mz (opt1 os) < mz os := by
  have h1 := fwd_mz (os := os)
  have h2 := ded_mz (os := fwd os)
  by_cases e : mz (opt1 os) < mz os
  · exact e
  · have e2 : mz os ≤ mz (ded (fwd os)) := Nat.le_of_not_lt e
    have e3 := fwd_same g (by omega)
    have e4 : opt1 os = ded os := by show ded (fwd os) = _; rw [e3]
    rw [e3] at e2
    exact absurd (e4.trans (ded_same g e2)) h
/-- what stands at the end: all is put as it is, and all is kept -/
theorem opt1_fix (g : Good cnt os) (h : opt1 os = os) : (∀ i, i < os.length → EI os i ∧ Ex (fs os i).2 (opAt os i) ∧ (fs os (i + 1)).2 = nxt (fs os i).2 i (opAt os i)) ∧ ∀ i, i < os.length → kps os i = true := by
  have h1 := fwd_mz (os := os)
  have h2 := ded_mz (os := fwd os)
  have e : mz (ded (fwd os)) = mz os := by show mz (opt1 os) = _; rw [h]
  have e2 : mz os ≤ mz (fwd os) := by omega
  have e3 := fwd_same g e2
  rw [e3] at e
  exact ⟨fun i hi => ⟨EI.all g e2 i (by omega), (EI.step g (EI.all g e2 i (by omega)) hi e2).2⟩, fun i hi => ded_kept (by omega) hi⟩
theorem good_ok (cnt : Int) : BOk (Good cnt) :=
  ⟨fun l g => g.n1, fun l g => good_FH g, fun l g => (fwd_good g).n0, fun l g => (fwd_good g).n1, fun l g => good_DH (fwd_good g), fun l g => ded_good (fwd_good g), fun l g h => opt1_mz g h⟩
end Go.Proofs.Ytcjcmnnhmajocab.Ot
