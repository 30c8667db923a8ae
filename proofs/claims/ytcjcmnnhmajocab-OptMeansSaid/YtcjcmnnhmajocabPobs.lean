/- A context in a box; the result's cells. -/
import Derived.Test.YtcjcmnnhmajocabPoaj
import Derived.Test.YtcjcmnnhmajocabPoaz
import Derived.Test.YtcjcmnnhmajocabPobo
import Derived.Test.YtcjcmnnhmajocabPobr
namespace Go.Proofs.Ytcjcmnnhmajocab.Ev
open Go.RowKit Kt Me Fl Ic
set_option linter.unusedVariables false
/-- what is under way: memory, context, values -/
structure Evs where
  M : MM
  c : Nat → Int
  v : Nat → Int
/-- how a block is left -/
structure Ext where
  k : Int
  x : Int
  pc : Int
  n : Int
def Evs.get (s : Evs) (t : Int) : Int := s.v t.toNat
def Evs.set (s : Evs) (i : Nat) (z : Int) : Evs := { s with v := upd s.v i z }
/-- one operation -/
def opV (o : Opr) (s : Evs) (i : Nat) : Evs × Option Ext :=
  let a := s.get o.a
  let b := s.get o.b
  let c := s.get o.c
  if o.k = 2 then (s.set i (s.c o.w.toNat), none)
  else if o.k = 3 then ({ s with c := upd s.c o.w.toNat a }, none)
  else if o.k = 17 then (s.set i (fl (s.c 8) (s.c 9) (s.c 10) (s.c 11)), none)
  else if o.k = 9 then (match srch s.M 1 a (ldn o.w).toNat with
    | none => (s.set i (wid o.w (ldv s.M a (ldn o.w))), none)
    | some x => (s.set i (wid o.w 0), some ⟨5, x, o.kn, o.n⟩))
  else if o.k = 10 then (match sto s.M a (stn o.w) with
    | none => ({ s with M := stm s.M a (stn o.w) b }, none)
    | some x => (s, some ⟨6, x, o.kn, o.n⟩))
  else if o.k = 11 then (s, if anyT s.M.hi then some ⟨0, 0, o.kn, o.n⟩ else none)
  else if o.k = 12 then (s, if a = 0 then none else some ⟨0, 0, o.kn, o.n⟩)
  else if o.k = 13 then (s, if a = 0 then none else some ⟨o.w, 0, o.kn, o.n⟩)
  else if o.k = 14 then (s, some ⟨o.w, o.b % 4294967296, o.kn, o.n⟩)
  else if o.k = 15 then (s, some ⟨0, 0, o.kn, o.n⟩)
  else if o.k = 16 then (s, some ⟨0, 0, a, o.n⟩)
  else (s.set i (valV o.k o.w o.kn a b c), none)
/-- the last so many -/
def evN (os : List Opr) : Nat → Evs → Evs × Ext × Int
  | 0, s => (s, ⟨0, 0, 0, 0⟩, -1)
  | n + 1, s => match os[os.length - (n + 1)]? with
    | none => (s, ⟨0, 0, 0, 0⟩, -1)
    | some o => match opV o s (os.length - (n + 1)) with
      | (s', none) => evN os n s'
      | (s', some x) => (s', x, ((os.length - (n + 1) : Nat) : Int))
/-- a context's numbers -/
def COk (c : Nat → Int) : Prop := ∀ j, 0 ≤ c j ∧ c j < 4294967296
structure EOk (s : Evs) : Prop where
  M : MOk s.M
  c : COk s.c
  v : COk s.v
theorem COk.upd {c : Nat → Int} (h : COk c) (k : Nat) (z : Int) (hz : 0 ≤ z ∧ z < 4294967296) : COk (Me.upd c k z) := by
  intro j
  unfold Me.upd
  split
  · exact hz
  · exact h j
theorem EOk.set {s : Evs} (h : EOk s) (i : Nat) (z : Int) (hz : 0 ≤ z ∧ z < 4294967296) : EOk (s.set i z) := ⟨h.M, h.c, h.v.upd i z hz⟩
theorem opV_ok (o : Opr) (s : Evs) (i : Nat) (h : EOk s) (k0 : 0 ≤ o.kn) (k1 : o.kn < 4294967296) : EOk (opV o s i).1 := by
  have ha := h.v o.a.toNat
  have hb := h.v o.b.toNat
  have hc := h.v o.c.toNat
  unfold opV
  simp only [Evs.get]
  by_cases e : o.k = 2
  · rw [if_pos e]; exact h.set _ _ (h.c _)
  rw [if_neg e]; clear e
  by_cases e : o.k = 3
  · rw [if_pos e]; exact ⟨h.M, h.c.upd _ _ ha, h.v⟩
  rw [if_neg e]; clear e
  by_cases e : o.k = 17
  · rw [if_pos e]; exact h.set _ _ (by have := St.fl_bd (s.c 8) (s.c 9) (s.c 10) (s.c 11); show 0 ≤ fl _ _ _ _ ∧ fl _ _ _ _ < 4294967296; omega)
  rw [if_neg e]; clear e
  by_cases e : o.k = 9
  · rw [if_pos e]
    split
    · have b := ldv_bd h.M (s.v o.a.toNat) (ldn o.w)
      exact h.set _ _ (wid_bd _ _ b.1 b.2)
    · exact h.set _ _ (wid_bd _ _ (by decide) (by decide))
  rw [if_neg e]; clear e
  by_cases e : o.k = 10
  · rw [if_pos e]
    split
    · exact ⟨h.M.stm _ _ _ hb.1 hb.2, h.c, h.v⟩
    · exact h
  rw [if_neg e]; clear e
  by_cases e : o.k = 11
  · rw [if_pos e]; exact h
  rw [if_neg e]; clear e
  by_cases e : o.k = 12
  · rw [if_pos e]; exact h
  rw [if_neg e]; clear e
  by_cases e : o.k = 13
  · rw [if_pos e]; exact h
  rw [if_neg e]; clear e
  by_cases e : o.k = 14
  · rw [if_pos e]; exact h
  rw [if_neg e]; clear e
  by_cases e : o.k = 15
  · rw [if_pos e]; exact h
  rw [if_neg e]; clear e
  by_cases e : o.k = 16
  · rw [if_pos e]; exact h
  rw [if_neg e]; clear e
  exact h.set _ _ (valV_bd _ _ _ _ _ _ k0 k1 ha.1 ha.2 hb.1 hb.2 hc.1 hc.2)
end Go.Proofs.Ytcjcmnnhmajocab.Ev
namespace Go.Proofs.Ytcjcmnnhmajocab.Ev
open Go.RowKit Kt Me Fl Ic
set_option linter.unusedVariables false
set_option linter.unusedSimpArgs false
theorem scan_all {os : List Opr} {cnt : Int} : ∀ n, n ≤ os.length → (scan os cnt n).1 = 0 → (∀ k, k < n → errAt os cnt (os.length - (k + 1)) = 0) ∧ lastOf os = true
  | 0, _, h => by
    refine ⟨fun k hk => absurd hk (by omega), ?_⟩
    unfold scan at h
    by_cases e : lastOf os = true
    · exact e
    · rw [if_neg e] at h
      exact absurd h (show ¬ (7 : Int) = 0 by decide)
  | n + 1, hn, h => by
    unfold scan at h
    by_cases e : errAt os cnt (os.length - (n + 1)) = 0
    · rw [if_pos (by simp [e])] at h
      obtain ⟨h1, h2⟩ := scan_all n (by omega) h
      refine ⟨fun k hk => ?_, h2⟩
      by_cases hkn : k = n
      · rw [hkn]; exact e
      · exact h1 k (by omega)
    · rw [if_neg (by simpa using e)] at h
      exact absurd h e
theorem chk_ops {os : List Opr} {cnt byt : Int} (h : (chk os cnt byt).1 = 0) : 0 < os.length ∧ os.length ≤ 2048 ∧ ∀ i o, os[i]? = some o → opE os cnt i o = 0 := by
  unfold chk at h
  by_cases h1 : 2048 < os.length
  · rw [if_pos h1] at h; exact absurd h (by decide)
  rw [if_neg h1] at h
  by_cases h2 : cnt < 0 ∨ 64 < cnt ∨ byt < 0 ∨ 384 < byt
  · rw [if_pos h2] at h; exact absurd h (by decide)
  rw [if_neg h2] at h
  obtain ⟨h3, h4⟩ := scan_all os.length (Nat.le_refl _) h
  have h0 : 0 < os.length := by
    rcases Nat.eq_zero_or_pos os.length with e | e
    · unfold lastOf at h4
      rw [List.getElem?_eq_none (by omega)] at h4
      exact absurd h4 (by decide)
    · exact e
  refine ⟨h0, by omega, fun i o ho => ?_⟩
  have hi : i < os.length := (List.getElem?_eq_some_iff.1 ho).1
  have := h3 (os.length - (i + 1)) (by omega)
  rw [show os.length - (os.length - (i + 1) + 1) = i by omega] at this
  unfold errAt at this
  rw [ho] at this
  exact this
/-- which number of W a kind takes; which of its places are values -/
structure OpK (o : Opr) (i : Nat) : Prop where
  k : 1 ≤ o.k ∧ o.k ≤ 17
  w : 0 ≤ o.w ∧ o.w < max (rS o.k) 1
  a : 0 ≤ o.a ∧ (o.a < i ∨ o.a = 0)
  b : 0 ≤ o.b ∧ (o.b < i ∨ o.b = 0 ∨ (o.k = 14 ∧ o.b < 4294967296))
  c : 0 ≤ o.c ∧ (o.c < i ∨ o.c = 0)
theorem rO_in {k : Int} (h : rO k = true) : 1 ≤ k ∧ k ≤ 17 := by
  unfold rO at h
  split at h <;> first | omega | exact absurd h (by decide)
theorem rG_14 {k : Int} (h : rG k = true) : k = 14 := by
  unfold rG at h
  split at h <;> first | rfl | exact absurd h (by decide)
theorem oerr_0 {x2 x4 x6 x8 x10 x12 : Bool} (h : oerr x2 x4 x6 x8 x10 x12 = 0) : x2 = false ∧ x4 = false ∧ x6 = false ∧ x8 = false ∧ x10 = false ∧ x12 = false := by
  unfold oerr at h
  cases x2 <;> cases x4 <;> cases x6 <;> cases x8 <;> cases x10 <;> cases x12 <;> simp at h ⊢
theorem opk_of {os : List Opr} {cnt : Int} {i : Nat} {o : Opr} (h : opE os cnt i o = 0) : OpK o i := by
  unfold opE at h
  obtain ⟨h2, h4, h6, h8, h10, h12⟩ := oerr_0 h
  unfold e2 at h2
  unfold e6 at h6
  unfold e8 at h8
  unfold e10 at h10
  simp only [Bool.or_eq_false_iff, Bool.not_eq_false', Bool.and_eq_false_iff, decide_eq_false_iff_not, Bool.not_eq_true', bne_eq_false_iff_eq, Bool.not_eq_eq_eq_not, Bool.not_true, Bool.not_false] at h2 h6 h8 h10
  have gv : ∀ {t : Int}, gvn os i t = true → 0 ≤ t ∧ t < i := fun {t} hg => by
    unfold gvn at hg
    simp only [Bool.and_eq_true, decide_eq_true_eq] at hg
    exact hg.1
  refine ⟨rO_in h2.1, ⟨by omega, by omega⟩, ?_, ?_, ?_⟩
  · rcases h10.1 with ha | ha
    · rcases h6.1 with e | e
      · rw [ha] at e; exact absurd e (by decide)
      · exact ⟨by omega, .inr e⟩
    · have := gv ha; exact ⟨this.1, .inl this.2⟩
  · rcases h10.2.1 with hb | hb
    · rcases h6.2.1 with e | e | e
      · rw [hb] at e; exact absurd e (by decide)
      · rcases h8 with g | g
        · rw [e] at g; exact absurd g (by decide)
        · exact ⟨by omega, .inr (.inr ⟨rG_14 e, by omega⟩)⟩
      · exact ⟨by omega, .inr (.inl e)⟩
    · have := gv hb; exact ⟨this.1, .inl this.2⟩
  · rcases h10.2.2 with hc | hc
    · rcases h6.2.2 with e | e
      · rw [hc] at e; exact absurd e (by decide)
      · exact ⟨by omega, .inr e⟩
    · have := gv hc; exact ⟨this.1, .inl this.2⟩
end Go.Proofs.Ytcjcmnnhmajocab.Ev
namespace Go.Proofs.Ytcjcmnnhmajocab.Ev
open Go.RowKit Kt Me Fl Ic
set_option linter.unusedVariables false
set_option linter.unusedSimpArgs false
variable {A T p L : Nat}
theorem ldv_some {M : MM} {a n x : Int} (h : srch M 1 a n.toNat = some x) : ldv M a n = 0 := by
  unfold ldv
  rw [h]
  rfl
end Go.Proofs.Ytcjcmnnhmajocab.Ev
namespace Go.Proofs.Ytcjcmnnhmajocab.Ev
open Go.RowKit Kt Me Fl
set_option linter.unusedVariables false
set_option linter.unusedSimpArgs false
def ctL (c : Nat → Int) : Array Value := #[.int .u32 (c 0), .int .u32 (c 1), .int .u32 (c 2), .int .u32 (c 3), .int .u32 (c 4), .int .u32 (c 5), .int .u32 (c 6), .int .u32 (c 7), .int .u32 (c 8), .int .u32 (c 9), .int .u32 (c 10), .int .u32 (c 11)]
/-- a context in a box -/
structure CB (h : Nat) (c : Nat → Int) (W : World) : Prop where
  r : ∀ j, j < 12 → W.cell? ⟨h, j, none⟩ = some (.int .u32 (c j))
  z : ∀ j, W.frozen? ⟨h, j, none⟩ = false
  l : h < W.heap.size
variable {h : Nat} {c : Nat → Int} {W W' : World}
theorem CB.upto {S : Nat → Prop} (a : CB h c W) (u : Upto S W W') (hs : ¬ S h) : CB h c W' :=
  ⟨fun j hj => (u.cell (q := ⟨h, j, none⟩) a.l hs).trans (a.r j hj), fun j => (u.frozen (q := ⟨h, j, none⟩) a.l hs).trans (a.z j), Nat.lt_of_lt_of_le a.l u.size⟩
theorem CB.drew (a : CB h c W) : CB h c W.drew := a.upto (Upto.refl (fun _ => False) W).drew id
theorem CB.new (w : World) (c : Nat → Int) (t : TypeId) : CB w.heap.size c (w.alloc (.cells (ctL c) t)) := by
  refine ⟨fun j hj => ?_, fun j => fz_new w _ _ j, by simp⟩
  rw [box_at w (ctL c) t j]
  match j, hj with
  | 0, _ | 1, _ | 2, _ | 3, _ | 4, _ | 5, _ | 6, _ | 7, _ | 8, _ | 9, _ | 10, _ | 11, _ => rfl
  | n + 12, h => omega
theorem CB.all (a : CB h c W) : W.cell? ⟨h, 0, none⟩ = some (.int .u32 (c 0)) ∧ W.cell? ⟨h, 1, none⟩ = some (.int .u32 (c 1)) ∧ W.cell? ⟨h, 2, none⟩ = some (.int .u32 (c 2)) ∧ W.cell? ⟨h, 3, none⟩ = some (.int .u32 (c 3)) ∧ W.cell? ⟨h, 4, none⟩ = some (.int .u32 (c 4)) ∧ W.cell? ⟨h, 5, none⟩ = some (.int .u32 (c 5)) ∧ W.cell? ⟨h, 6, none⟩ = some (.int .u32 (c 6)) ∧ W.cell? ⟨h, 7, none⟩ = some (.int .u32 (c 7)) ∧ W.cell? ⟨h, 8, none⟩ = some (.int .u32 (c 8)) ∧ W.cell? ⟨h, 9, none⟩ = some (.int .u32 (c 9)) ∧ W.cell? ⟨h, 10, none⟩ = some (.int .u32 (c 10)) ∧ W.cell? ⟨h, 11, none⟩ = some (.int .u32 (c 11)) :=
  ⟨a.r 0 (by omega), a.r 1 (by omega), a.r 2 (by omega), a.r 3 (by omega), a.r 4 (by omega), a.r 5 (by omega), a.r 6 (by omega), a.r 7 (by omega), a.r 8 (by omega), a.r 9 (by omega), a.r 10 (by omega), a.r 11 (by omega)⟩
theorem CB.set (a : CB h c W) (i : Nat) (hi : i < 12) (z : Int) : CB h (upd c i z) (W.setCell ⟨h, i, none⟩ (.int .u32 z)) := by
  refine ⟨fun j hj => ?_, fun j => by simpa using a.z j, by simpa using a.l⟩
  by_cases e : j = i
  · subst e; rw [World.cell?_setCell_same _ _ _ (a.r j hj)]; simp [upd]
  · rw [off e, a.r j hj]; simp [upd, e]
theorem CB.congr {c' : Nat → Int} (a : CB h c W) (e : ∀ j, j < 12 → c j = c' j) : CB h c' W := ⟨fun j hj => (a.r j hj).trans (by rw [e j hj]), a.z, a.l⟩
theorem CB.put (a : CB h c W) (c' : Nat → Int) : CB h c' ((((((((((((W.setCell ⟨h, 0, none⟩ (.int .u32 (c' 0))).setCell ⟨h, 1, none⟩ (.int .u32 (c' 1))).setCell ⟨h, 2, none⟩ (.int .u32 (c' 2))).setCell ⟨h, 3, none⟩ (.int .u32 (c' 3))).setCell ⟨h, 4, none⟩ (.int .u32 (c' 4))).setCell ⟨h, 5, none⟩ (.int .u32 (c' 5))).setCell ⟨h, 6, none⟩ (.int .u32 (c' 6))).setCell ⟨h, 7, none⟩ (.int .u32 (c' 7))).setCell ⟨h, 8, none⟩ (.int .u32 (c' 8))).setCell ⟨h, 9, none⟩ (.int .u32 (c' 9))).setCell ⟨h, 10, none⟩ (.int .u32 (c' 10))).setCell ⟨h, 11, none⟩ (.int .u32 (c' 11))) := by
  refine ((((((((((((a.set 0 (by omega) (c' 0)).set 1 (by omega) (c' 1)).set 2 (by omega) (c' 2)).set 3 (by omega) (c' 3)).set 4 (by omega) (c' 4)).set 5 (by omega) (c' 5)).set 6 (by omega) (c' 6)).set 7 (by omega) (c' 7)).set 8 (by omega) (c' 8)).set 9 (by omega) (c' 9)).set 10 (by omega) (c' 10)).set 11 (by omega) (c' 11)).congr fun j hj => ?_
  match j, hj with
  | 0, _ | 1, _ | 2, _ | 3, _ | 4, _ | 5, _ | 6, _ | 7, _ | 8, _ | 9, _ | 10, _ | 11, _ => simp [upd]
  | n + 12, h => omega
theorem up_put12 {S : Nat → Prop} {w W : World} (b : Upto S w W) (hh : S h ∨ w.heap.size ≤ h) (c' : Nat → Int) : Upto S w ((((((((((((W.setCell ⟨h, 0, none⟩ (.int .u32 (c' 0))).setCell ⟨h, 1, none⟩ (.int .u32 (c' 1))).setCell ⟨h, 2, none⟩ (.int .u32 (c' 2))).setCell ⟨h, 3, none⟩ (.int .u32 (c' 3))).setCell ⟨h, 4, none⟩ (.int .u32 (c' 4))).setCell ⟨h, 5, none⟩ (.int .u32 (c' 5))).setCell ⟨h, 6, none⟩ (.int .u32 (c' 6))).setCell ⟨h, 7, none⟩ (.int .u32 (c' 7))).setCell ⟨h, 8, none⟩ (.int .u32 (c' 8))).setCell ⟨h, 9, none⟩ (.int .u32 (c' 9))).setCell ⟨h, 10, none⟩ (.int .u32 (c' 10))).setCell ⟨h, 11, none⟩ (.int .u32 (c' 11))) :=
  (((((((((((b.setCell (q := ⟨h, 0, none⟩) hh (.int .u32 (c' 0))).setCell (q := ⟨h, 1, none⟩) hh (.int .u32 (c' 1))).setCell (q := ⟨h, 2, none⟩) hh (.int .u32 (c' 2))).setCell (q := ⟨h, 3, none⟩) hh (.int .u32 (c' 3))).setCell (q := ⟨h, 4, none⟩) hh (.int .u32 (c' 4))).setCell (q := ⟨h, 5, none⟩) hh (.int .u32 (c' 5))).setCell (q := ⟨h, 6, none⟩) hh (.int .u32 (c' 6))).setCell (q := ⟨h, 7, none⟩) hh (.int .u32 (c' 7))).setCell (q := ⟨h, 8, none⟩) hh (.int .u32 (c' 8))).setCell (q := ⟨h, 9, none⟩) hh (.int .u32 (c' 9))).setCell (q := ⟨h, 10, none⟩) hh (.int .u32 (c' 10))).setCell (q := ⟨h, 11, none⟩) hh (.int .u32 (c' 11))
theorem up_put4 {S : Nat → Prop} {w W : World} (b : Upto S w W) (hh : S h ∨ w.heap.size ≤ h) (k' x' p' n' : Int) : Upto S w ((((W.setCell ⟨h, 0, none⟩ (.int .i64 k')).setCell ⟨h, 1, none⟩ (.int .u32 x')).setCell ⟨h, 2, none⟩ (.int .u32 p')).setCell ⟨h, 3, none⟩ (.int .i64 n')) :=
  (((b.setCell (q := ⟨h, 0, none⟩) hh (.int .i64 k')).setCell (q := ⟨h, 1, none⟩) hh (.int .u32 x')).setCell (q := ⟨h, 2, none⟩) hh (.int .u32 p')).setCell (q := ⟨h, 3, none⟩) hh (.int .i64 n')
end Go.Proofs.Ytcjcmnnhmajocab.Ev
