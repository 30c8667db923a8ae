/- opt: slot, perhaps, flags. -/
import Derived.Deep.LoopGhost
import Derived.LoopN
import Derived.Deep.DeepCutAuto
import Derived.Test.YtcjcmnnhmajocabPoal
import Derived.Test.YtcjcmnnhmajocabPoan
namespace Go.Proofs.Ytcjcmnnhmajocab.Ot
open Go.RowKit Kt Ic Me Ev
set_option linter.unusedVariables false
set_option linter.unusedSimpArgs false
variable {K : Wc} {s : Wk} {W W' : World}
/-- an operation that hangs on what it takes alone, all in its bounds -/
structure VOk (s : Wk) (o : Opr) : Prop where
  r : OkR o
  k : 4 ≤ o.k ∧ o.k ≤ 8
  w : (o.k = 4 → 0 ≤ o.w ∧ o.w < 16) ∧ (o.k = 5 → 0 ≤ o.w ∧ o.w < 7) ∧ (o.k = 8 → 0 ≤ o.w ∧ o.w < 16)
  a : 0 ≤ o.a ∧ o.a < s.ops.length
  b : tB o.k = true → 0 ≤ o.b ∧ o.b < s.ops.length
  c : tC o.k = true → 0 ≤ o.c ∧ o.c < s.ops.length
  g : ∀ x ∈ s.ops, OkR x
/-- three cells of the call's own -/
def B3 (b : Nat) (g : Nat → Value) (W : World) : Prop := b < W.heap.size ∧ (∀ j, j < 3 → W.cell? ⟨b, j, none⟩ = some (g j)) ∧ ∀ j, W.frozen? ⟨b, j, none⟩ = false
theorem B3.new (w : World) (x y z : Value) (t : TypeId) : B3 w.heap.size (fun j => if j = 0 then x else if j = 1 then y else z) (w.alloc (.cells #[x, y, z] t)) :=
  ⟨by simp, fun j hj => (cell_of_row _ _ _ _ _ _ (heap_alloc_new w _)).trans (by rcases (show j = 0 ∨ j = 1 ∨ j = 2 by omega) with rfl | rfl | rfl <;> rfl), fun j => by simp⟩
theorem B3.upto {b : Nat} {g : Nat → Value} {S : Nat → Prop} (h : B3 b g W) (u : Upto S W W') (hs : ¬ S b) : B3 b g W' :=
  ⟨Nat.lt_of_lt_of_le h.1 u.size, fun j hj => (u.cell (q := ⟨b, j, none⟩) h.1 hs).trans (h.2.1 j hj), fun j => (u.frozen (q := ⟨b, j, none⟩) h.1 hs).trans (h.2.2 j)⟩
theorem B3.below {b : Nat} {g : Nat → Value} (h : B3 b g W) (u : Below W.heap.size W W') : B3 b g W' := h.upto (Upto.of_below (S := fun _ => False) u) id
theorem B3.set {b : Nat} {g : Nat → Value} (h : B3 b g W) (i : Nat) (hi : i < 3) (v : Value) : B3 b (upd g i v) (W.setCell ⟨b, i, none⟩ v) :=
  ⟨by simpa using h.1, fun j hj => by
    unfold upd
    by_cases e : j = i
    · rw [if_pos e, e]; exact World.cell?_setCell_same _ _ _ (h.2.1 i hi)
    · rw [if_neg e, HM.cell_other e]; exact h.2.1 j hj, fun j => by simpa using h.2.2 j⟩
theorem B3.all {b : Nat} {g : Nat → Value} (h : B3 b g W) : b < W.heap.size ∧ W.cell? ⟨b, 0, none⟩ = some (g 0) ∧ W.cell? ⟨b, 1, none⟩ = some (g 1) ∧ W.cell? ⟨b, 2, none⟩ = some (g 2) ∧ W.frozen? ⟨b, 0, none⟩ = false ∧ W.frozen? ⟨b, 1, none⟩ = false ∧ W.frozen? ⟨b, 2, none⟩ = false :=
  ⟨h.1, h.2.1 0 (by decide), h.2.1 1 (by decide), h.2.1 2 (by decide), h.2.2 0, h.2.2 1, h.2.2 2⟩
theorem B3.eqv {b : Nat} {g g' : Nat → Value} (h : B3 b g W) (e : ∀ j, j < 3 → g j = g' j) : B3 b g' W := ⟨h.1, fun j hj => (h.2.1 j hj).trans (by rw [e j hj]), h.2.2⟩
theorem WW.keep {S : Nat → Prop} (a : WW K s W) (u : Upto S W W') (hS : ∀ i, S i → i ≠ K.h ∧ i ≠ K.tb ∧ i ≠ K.mb ∧ ¬ own K W i) : WW K s W' := by
  have nh : ¬ S K.h := fun h => (hS _ h).1 rfl
  have nt : ¬ S K.tb := fun h => (hS _ h).2.1 rfl
  have m := a.m
  have e : ∀ j, W'.cell? ⟨K.h, j, none⟩ = W.cell? ⟨K.h, j, none⟩ := fun j => u.cell (q := ⟨K.h, j, none⟩) m.l nh
  have f : ∀ j, W'.cell? ⟨K.tb, j, none⟩ = W.cell? ⟨K.tb, j, none⟩ := fun j => u.cell (q := ⟨K.tb, j, none⟩) m.l2 nt
  obtain ⟨v, h1, h2⟩ := m.c0
  exact ⟨⟨⟨v, (e _).trans h1, h2.upto u fun k hk hs => (hS k hs).2.2.2 ⟨v, h1, hk⟩⟩, (e _).trans m.c1, fun j hj => (e _).trans (m.sl j hj), (e _).trans m.cm, (e _).trans m.cn, fun t ht => (f _).trans (m.to t ht),
    fun j => (u.frozen (q := ⟨K.h, j, none⟩) m.l nh).trans (m.z j), fun j => (u.frozen (q := ⟨K.tb, j, none⟩) m.l2 nt).trans (m.zt j), m.lh, m.lt, m.ne, Nat.le_trans m.lb u.size⟩, a.o.upto u fun h => (hS _ h).2.2.1 rfl, a.mv, a.lb, a.nh, a.nt⟩
theorem UW.new {S : Nat → Prop} {w : World} (h : UW K w W) (hl : K.h < w.heap.size) (u : Upto S W W') (hS : ∀ i, S i → w.heap.size ≤ i) : UW K w W' :=
  ⟨⟨u.os.trans h.u.os, u.tape.trans h.u.tape, u.output.trans h.u.output, Nat.le_trans h.u.size u.size, fun i hi hs => (u.block i (Nat.lt_of_lt_of_le hi h.u.size) fun e => by have := hS i e; omega).trans (h.u.block i hi hs)⟩,
    fun i e => by
      obtain ⟨v, h1, h2⟩ := e
      exact h.ow i ⟨v, (u.cell (q := ⟨K.h, 0, none⟩) (Nat.lt_of_lt_of_le hl h.u.size) fun e => by have := hS _ e; dsimp only at this; omega).symm.trans h1, h2⟩⟩
def isT (k : Int) (j : Nat) : Bool := if j = 0 then tA k else if j = 1 then tB k else tC k
def ag (o : Opr) (j : Nat) : Int := if j = 0 then o.a else if j = 1 then o.b else o.c
def kno (s : Wk) (f : Nat → Bool) (g : Nat → Int) (m j : Nat) : Bool := if j < m then f j && isC s (g j) else false
def vv (s : Wk) (f : Nat → Bool) (g : Nat → Int) (m j : Nat) : Int := if j < m then (if f j then kn s (g j) else 0) else 0
def allM (s : Wk) (f : Nat → Bool) (g : Nat → Int) : Nat → Bool
  | 0 => true
  | m + 1 => allM s f g m && (!f m || isC s (g m))
theorem kno_succ (s : Wk) (f : Nat → Bool) (g : Nat → Int) (j : Nat) : kno s f g (j + 1) = upd (kno s f g j) j (f j && isC s (g j)) := by
  funext i
  unfold upd
  by_cases e : i = j
  · rw [if_pos e, e]; unfold kno; rw [if_pos (by omega)]
  · rw [if_neg e]; unfold kno
    by_cases e2 : i < j
    · rw [if_pos e2, if_pos (by omega)]
    · rw [if_neg e2, if_neg (by omega)]
theorem vv_succ (s : Wk) (f : Nat → Bool) (g : Nat → Int) (j : Nat) : vv s f g (j + 1) = upd (vv s f g j) j (if f j then kn s (g j) else 0) := by
  funext i
  unfold upd
  by_cases e : i = j
  · rw [if_pos e, e]; unfold vv; rw [if_pos (by omega)]
  · rw [if_neg e]; unfold vv
    by_cases e2 : i < j
    · rw [if_pos e2, if_pos (by omega)]
    · rw [if_neg e2, if_neg (by omega)]
theorem b3_no {s : Wk} {f : Nat → Bool} {g : Nat → Int} {j bv : Nat} (hf : f j = false) (h : B3 bv (fun i => .int .u32 (vv s f g j i)) W) : B3 bv (fun i => .int .u32 (vv s f g (j + 1) i)) W :=
  h.eqv fun i hi => by
    rw [vv_succ, hf]
    unfold upd
    by_cases e : i = j
    · rw [if_pos e, e]; unfold vv; rw [if_neg (by omega)]; rfl
    · rw [if_neg e]
theorem b3_nk {s : Wk} {f : Nat → Bool} {g : Nat → Int} {j bv : Nat} (hf : f j = false) (h : B3 bv (fun i => .bool (kno s f g j i)) W) : B3 bv (fun i => .bool (kno s f g (j + 1) i)) W :=
  h.eqv fun i hi => by
    rw [kno_succ, hf]
    unfold upd
    by_cases e : i = j
    · rw [if_pos e, e]; unfold kno; rw [if_neg (by omega)]; rfl
    · rw [if_neg e]
theorem b3_yes {s : Wk} {f : Nat → Bool} {g : Nat → Int} {j bv : Nat} (hf : f j = true) (hj : j < 3) (h : B3 bv (fun i => .int .u32 (vv s f g j i)) W) : B3 bv (fun i => .int .u32 (vv s f g (j + 1) i)) (W.setCell ⟨bv, j, none⟩ (.int .u32 (kn s (g j)))) :=
  (h.set j hj _).eqv fun i hi => by
    rw [vv_succ, hf]
    unfold upd
    dsimp only
    by_cases e : i = j
    · rw [if_pos e, if_pos e]; rfl
    · rw [if_neg e, if_neg e]
theorem b3_yk {s : Wk} {f : Nat → Bool} {g : Nat → Int} {j bv : Nat} (hf : f j = true) (hj : j < 3) (h : B3 bv (fun i => .bool (kno s f g j i)) W) : B3 bv (fun i => .bool (kno s f g (j + 1) i)) (W.setCell ⟨bv, j, none⟩ (.bool (isC s (g j)))) :=
  (h.set j hj _).eqv fun i hi => by
    rw [kno_succ, hf]
    unfold upd
    dsimp only
    by_cases e : i = j
    · rw [if_pos e, if_pos e]; rfl
    · rw [if_neg e, if_neg e]
set_option maxRecDepth 100000 in
set_option maxHeartbeats 4000000 in
theorem value_any (o : Opr) (w : World) (a : WW K s w) (ho : VOk s o) (hn : s.ops.length < 1000000000) :
    Calls Try.prog 175 #[.pointer (some ⟨K.h, 0, none⟩), .agg #[.int .i64 o.k, .int .i64 o.w, .int .i64 o.a, .int .i64 o.b, .int .i64 o.c, .int .u32 o.kn, .int .i64 o.n]] w fun e w' => e = .returned (.int .i64 (s.val o).1) ∧ WW K (s.val o).2 w' ∧ UW K w w' := by
  have a1 := a.alloc (.cells #[.int .i64 o.k, .int .i64 o.w, .int .i64 o.a, .int .i64 o.b, .int .i64 o.c, .int .u32 o.kn, .int .i64 o.n] 31)
  have hO : OB w.heap.size o (w.alloc (.cells #[.int .i64 o.k, .int .i64 o.w, .int .i64 o.a, .int .i64 o.b, .int .i64 o.c, .int .u32 o.kn, .int .i64 o.n] 31)) := OB.new w o 31
  have TK : Hid (∀ w, Calls Try.prog 118 #[.agg #[.int .i64 o.k, .int .i64 o.w, .int .i64 o.a, .int .i64 o.b, .int .i64 o.c, .int .u32 o.kn, .int .i64 o.n]] w fun e w' => e = .returned (.tuple #[.bool (isT o.k 0), .bool (isT o.k 1), .bool (isT o.k 2)]) ∧ Below w.heap.size w w') := fun w => takes_any o w
  have e1 : (o.k == 1) = false := by have := ho.k; simp; omega
  obtain ⟨b1, b2, b3, b4, b5, b6, b7⟩ := hO.all
  have lo := hO.1
  have VO := Lib.hid ho
  have A := Lib.hid a
  have LH := a.m.l
  obtain ⟨f, hf⟩ : ∃ f, isT o.k = f := ⟨_, rfl⟩
  rw [hf] at TK
  have HF := Lib.hid hf
  generalize hR : s.val o = R
  have HR := Lib.hid hR
  clear a a1 ho hR hf
  obtain ⟨k, ow, oa, ob, oc, okn, on⟩ := o
  dsimp only at *
  go_enter Try.func175, Try.ntmps175
  go_upto_region 9 with (go_at_call 118; refine (TK.out _).mono ?_; rintro e w1 ⟨rfl, B1⟩; have Z0 := (B3.new (w.alloc (.cells #[.int .i64 k, .int .i64 ow, .int .i64 oa, .int .i64 ob, .int .i64 oc, .int .u32 okn, .int .i64 on] 31)) (.bool false) (.bool false) (.bool false) 272).below B1; rw [World.size_alloc] at Z0; obtain ⟨zl, z0, z1, z2, y0, y1, y2⟩ := Z0.all; have u0 : Upto (fun _ => False) w ((w.alloc (.cells #[.int .i64 k, .int .i64 ow, .int .i64 oa, .int .i64 ob, .int .i64 oc, .int .u32 okn, .int .i64 on] 31)).alloc (.cells #[.bool false, .bool false, .bool false] 272)) := ((Upto.refl _ w).alloc _).alloc _; have O1 := (hO.upto ((Upto.refl (fun _ => False) _).alloc (.cells #[.bool false, .bool false, .bool false] 272)) id).upto (Upto.of_below (S := fun _ => False) B1) id; have ol := O1.1; obtain ⟨o1, o2, o3, o4, o5, o6, o7⟩ := O1.all; have AX := Lib.hid ((A.out.quiet u0).below B1); have UX := Lib.hid ((UW.quiet (K := K) LH u0).trans (UW.below (Nat.lt_of_lt_of_le LH u0.size) B1)); have NX : Hid (∀ b, w.heap.size ≤ b → ¬ own K w1 b) := (fun b hb => own_new A.out.m hb (u0.trans (Upto.of_below B1))); have LH1 := AX.out.m.l; clear hO b1 b2 b3 b4 b5 b6 b7 lo u0)
  have Z2 : B3 (w.heap.size + 1) (fun j => .bool (f j)) (((w1.setCell ⟨w.heap.size + 1, 0, none⟩ (.bool (f 0))).setCell ⟨w.heap.size + 1, 1, none⟩ (.bool (f 1))).setCell ⟨w.heap.size + 1, 2, none⟩ (.bool (f 2))) :=
    (((Z0.set 0 (by decide) (.bool (f 0))).set 1 (by decide) (.bool (f 1))).set 2 (by decide) (.bool (f 2))).eqv fun j hj => by rcases (show j = 0 ∨ j = 1 ∨ j = 2 by omega) with rfl | rfl | rfl <;> rfl
  have u2 : Upto (fun i => i = w.heap.size + 1) w1 (((w1.setCell ⟨w.heap.size + 1, 0, none⟩ (.bool (f 0))).setCell ⟨w.heap.size + 1, 1, none⟩ (.bool (f 1))).setCell ⟨w.heap.size + 1, 2, none⟩ (.bool (f 2))) :=
    (((Upto.refl (fun i => i = w.heap.size + 1) w1).setCell (q := ⟨w.heap.size + 1, 0, none⟩) (.inl rfl) _).setCell (q := ⟨w.heap.size + 1, 1, none⟩) (.inl rfl) _).setCell (q := ⟨w.heap.size + 1, 2, none⟩) (.inl rfl) _
  have A2 := AX.out.keep u2 fun i e => by
    obtain rfl : i = w.heap.size + 1 := e
    have := A.out.m.l; have := A.out.m.l2; have := A.out.o.lt
    exact ⟨by omega, by omega, by omega, NX.out _ (by omega)⟩
  have U2 := UX.out.new LH u2 fun i e => by
    obtain rfl : i = w.heap.size + 1 := e
    omega
  have O2 := O1.upto u2 (by show ¬ w.heap.size = w.heap.size + 1; omega)
  have s2 : (((w1.setCell ⟨w.heap.size + 1, 0, none⟩ (.bool (f 0))).setCell ⟨w.heap.size + 1, 1, none⟩ (.bool (f 1))).setCell ⟨w.heap.size + 1, 2, none⟩ (.bool (f 2))).heap.size = w1.heap.size := by simp
  have N2 : ∀ b, w.heap.size ≤ b → ¬ own K (((w1.setCell ⟨w.heap.size + 1, 0, none⟩ (.bool (f 0))).setCell ⟨w.heap.size + 1, 1, none⟩ (.bool (f 1))).setCell ⟨w.heap.size + 1, 2, none⟩ (.bool (f 2))) b := fun b hb h => by
    obtain ⟨v, h1, h2⟩ := h
    exact NX.out b hb ⟨v, (u2.cell (q := ⟨K.h, 0, none⟩) LH1 (by show ¬ K.h = w.heap.size + 1; omega)).symm.trans h1, h2⟩
  clear Z0 z0 z1 z2 y0 y1 y2 o1 o2 o3 o4 o5 o6 o7 O1 AX UX NX B1 u2
  generalize (((w1.setCell ⟨w.heap.size + 1, 0, none⟩ (.bool (f 0))).setCell ⟨w.heap.size + 1, 1, none⟩ (.bool (f 1))).setCell ⟨w.heap.size + 1, 2, none⟩ (.bool (f 2))) = w2 at *
  have V0 : B3 w1.heap.size (fun j => .int .u32 (vv s f (ag ⟨k, ow, oa, ob, oc, okn, on⟩) 0 j)) ((w2.alloc (.cells #[.int .u32 0, .int .u32 0, .int .u32 0] 273)).alloc (.cells #[.bool false, .bool false, .bool false] 272)) := by
    have h := (B3.new w2 (.int .u32 0) (.int .u32 0) (.int .u32 0) 273).upto ((Upto.refl (fun _ => False) _).alloc (.cells #[.bool false, .bool false, .bool false] 272)) id
    rw [s2] at h
    exact h.eqv fun j hj => by rcases (show j = 0 ∨ j = 1 ∨ j = 2 by omega) with rfl | rfl | rfl <;> rfl
  have N0 : B3 (w1.heap.size + 1) (fun j => .bool (kno s f (ag ⟨k, ow, oa, ob, oc, okn, on⟩) 0 j)) ((w2.alloc (.cells #[.int .u32 0, .int .u32 0, .int .u32 0] 273)).alloc (.cells #[.bool false, .bool false, .bool false] 272)) := by
    have h := B3.new (w2.alloc (.cells #[.int .u32 0, .int .u32 0, .int .u32 0] 273)) (.bool false) (.bool false) (.bool false) 272
    rw [World.size_alloc, s2] at h
    exact h.eqv fun j hj => by rcases (show j = 0 ∨ j = 1 ∨ j = 2 by omega) with rfl | rfl | rfl <;> rfl
  have ul : Upto (fun _ => False) w2 ((w2.alloc (.cells #[.int .u32 0, .int .u32 0, .int .u32 0] 273)).alloc (.cells #[.bool false, .bool false, .bool false] 272)) := ((Upto.refl _ w2).alloc _).alloc _
  have ZI := Lib.hid (Z2.upto ul id)
  have OO := Lib.hid (O2.upto ul id)
  have AL := Lib.hid (A2.quiet ul)
  have UL := Lib.hid (U2.new LH ul fun _ h => h.elim)
  have NL : Hid (∀ b, w.heap.size ≤ b → ¬ own K ((w2.alloc (.cells #[.int .u32 0, .int .u32 0, .int .u32 0] 273)).alloc (.cells #[.bool false, .bool false, .bool false] 272)) b) := fun b hb h => by
    obtain ⟨v, h1, h2⟩ := h
    exact N2 b hb ⟨v, (ul.cell (q := ⟨K.h, 0, none⟩) (by rw [s2]; exact LH1) id).symm.trans h1, h2⟩
  clear Z2 O2 A2 U2 N2 ul s2
  generalize (w2.alloc (.cells #[.int .u32 0, .int .u32 0, .int .u32 0] 273)).alloc (.cells #[.bool false, .bool false, .bool false] 272) = wl at *
  obtain ⟨bv, hbv⟩ : ∃ bv, w1.heap.size = bv := ⟨_, rfl⟩
  rw [hbv] at V0 N0 zl ol LH1 ⊢
  have HG : Hid (∀ j, ag ⟨k, ow, oa, ob, oc, okn, on⟩ j = if j = 0 then oa else if j = 1 then ob else oc) := fun j => rfl
  generalize ag ⟨k, ow, oa, ob, oc, okn, on⟩ = g at V0 N0 HG
  have IX : ∀ j : Nat, j < 3 → ∀ w : World, (Instr.index 175 (.agg #[.int .i64 oa, .int .i64 ob, .int .i64 oc]) (.int .i64 j)).run Try.prog w = .ok (.int .i64 (g j)) w := fun j hj w => by
    rcases (show j = 0 ∨ j = 1 ∨ j = 2 by omega) with rfl | rfl | rfl
    all_goals rw [HG.out]
    all_goals kernel_rfl
  have KC : Hid (∀ j : Nat, j < 3 → f j = true → ∀ w, WW K s w → Calls Try.prog 198 #[.pointer (some ⟨K.h, 0, none⟩), .int .i64 (g j)] w fun e w' => e = .returned (.tuple #[.int .u32 (kn s (g j)), .bool (isC s (g j))]) ∧ Below w.heap.size w w') := fun j hj h w a => by
    have hv := VO.out
    rw [← HF.out] at h
    have b : 0 ≤ g j ∧ g j < s.ops.length := by
      rcases (show j = 0 ∨ j = 1 ∨ j = 2 by omega) with rfl | rfl | rfl
      · rw [HG.out]; exact hv.a
      · rw [HG.out]; exact hv.b h
      · rw [HG.out]; exact hv.c h
    exact konst_any (g j) w a.m b.1 b.2
  clear hbv
  go_loopg [35, 7] 3 (fun n i al wr => ∃ j : Nat, n = 3 - j ∧ j ≤ 3 ∧ i = .int .i64 j ∧ al = .bool (allM s f g j) ∧ B3 bv (fun i => .int .u32 (vv s f g j i)) wr ∧ B3 (bv + 1) (fun i => .bool (kno s f g j i)) wr ∧ Upto (fun i => i = bv ∨ i = bv + 1) wl wr)
  case atStart => exact ⟨0, rfl, by decide, rfl, rfl, V0, N0, Upto.refl _ _⟩
  case round =>
    obtain ⟨j, hk, hj, rfl, rfl, hV, hN, hU⟩ := hrel
    have AR : WW K s wr := AL.out.keep hU fun i e => by
      have := A.out.m.l; have := A.out.m.l2; have := A.out.o.lt
      rcases e with e | e
      · exact ⟨by omega, by omega, by omega, NL.out _ (by omega)⟩
      · exact ⟨by omega, by omega, by omega, NL.out _ (by omega)⟩
    have ZR := ZI.out.upto hU (by show ¬ (w.heap.size + 1 = bv ∨ w.heap.size + 1 = bv + 1); omega)
    have OR := OO.out.upto hU (by show ¬ (w.heap.size = bv ∨ w.heap.size = bv + 1); omega)
    by_cases hlt : j < 3
    · have ix := IX j hlt
      have zc : wr.cell? ⟨w.heap.size + 1, j, none⟩ = some (.bool (f j)) := ZR.2.1 j hlt
      have zl2 := ZR.1
      have HK := Lib.hid hk
      have HJ := Lib.hid hj
      clear IX hk hj
      cases hf : f j with
      | false =>
        rw [hf] at zc
        have HFJ := Lib.hid hf
        have hV2 := b3_no hf hV
        have hN2 := b3_nk hf hN
        have ha2 : allM s f g (j + 1) = allM s f g j := by show (allM s f g j && (!f j || isC s (g j))) = _; rw [hf]; simp
        clear hf hV hN
        obtain ⟨al, hal⟩ : ∃ al, allM s f g j = al := ⟨_, rfl⟩
        rw [hal] at ha2 ⊢
        have HA2 := Lib.hid ha2
        clear ha2 hal
        have nc : wr.cell? ⟨bv + 1, j, none⟩ = some (.bool (kno s f g (j + 1) j)) := hN2.2.1 j hlt
        have nl := hN2.1
        cases al
        all_goals
          go_wp2
          go_roundg (3 - (j + 1))
          case measure => have := HK.out; omega
          case rel => exact ⟨j + 1, rfl, by omega, by simp, by rw [HA2.out], hV2, hN2, hU⟩
      | true =>
        rw [hf] at zc
        have hV2 : ∀ W, B3 bv (fun i => .int .u32 (vv s f g j i)) W → _ := fun W h => b3_yes hf hlt h
        have hN2 : ∀ W, B3 (bv + 1) (fun i => .bool (kno s f g j i)) W → _ := fun W h => b3_yk hf hlt h
        have kc := KC.out j hlt hf wr AR
        have ha2 : allM s f g (j + 1) = (allM s f g j && isC s (g j)) := by show (allM s f g j && (!f j || isC s (g j))) = _; rw [hf]; simp
        have HV2 := Lib.hid hV2
        have HN2 := Lib.hid hN2
        have HVV := Lib.hid hV
        have HNN := Lib.hid hN
        have HUU := Lib.hid hU
        have KK := Lib.hid kc
        obtain ⟨al, hal⟩ : ∃ al, allM s f g j = al := ⟨_, rfl⟩
        rw [hal] at ha2 ⊢
        have HA2 := Lib.hid ha2
        have HFJ := Lib.hid hf
        clear ha2 hal hf hV2 hN2 kc hV hN hU
        generalize hkn : kn s (g j) = kj at *
        generalize hic : isC s (g j) = cj at *
        clear hkn hic
        cases al
        all_goals
          go_wp2_with (go_at_call 198; refine KK.out.mono ?_; rintro e w3 ⟨rfl, BB⟩; have V3 := HVV.out.below BB; have N3 := HNN.out.below BB; have v3 := V3.2.1 j hlt; have n3 := N3.2.1 j hlt; have y3 := V3.2.2 j; have x3 := N3.2.2 j; have l3 := V3.1; have l4 := N3.1)
          go_roundg (3 - (j + 1))
          case measure => have := HK.out; omega
          case rel => exact ⟨j + 1, rfl, by omega, by simp, by rw [HA2.out]; rfl, (HV2.out _ V3).upto ((Upto.refl (fun i => i = bv + 1) _).setCell (q := ⟨bv + 1, j, none⟩) (.inl rfl) _) (by show ¬ bv = bv + 1; omega), HN2.out _ (N3.upto ((Upto.refl (fun i => i = bv) _).setCell (q := ⟨bv, j, none⟩) (.inl rfl) _) (by show ¬ bv + 1 = bv; omega)), ((HUU.out.trans (Upto.of_below BB)).setCell (q := ⟨bv, j, none⟩) (.inl (.inl rfl)) _).setCell (q := ⟨bv + 1, j, none⟩) (.inl (.inr rfl)) _⟩
    · obtain rfl : j = 3 := by omega
      clear IX hk hj hlt V0 N0
      have EA : allM s f g 3 = allC s ⟨k, ow, oa, ob, oc, okn, on⟩ := by
        show (((true && (!f 0 || isC s (g 0))) && (!f 1 || isC s (g 1))) && (!f 2 || isC s (g 2))) = _
        rw [HG.out 0, HG.out 1, HG.out 2, ← HF.out, Bool.true_and]; rfl
      have EV0 : vv s f g 3 0 = vA s ⟨k, ow, oa, ob, oc, okn, on⟩ := by show (if f 0 then kn s (g 0) else 0) = _; rw [HG.out, ← HF.out]; rfl
      have EV1 : vv s f g 3 1 = vB s ⟨k, ow, oa, ob, oc, okn, on⟩ := by show (if f 1 then kn s (g 1) else 0) = _; rw [HG.out, ← HF.out]; rfl
      have EV2 : vv s f g 3 2 = vC s ⟨k, ow, oa, ob, oc, okn, on⟩ := by show (if f 2 then kn s (g 2) else 0) = _; rw [HG.out, ← HF.out]; rfl
      have EK0 : kno s f g 3 0 = (tA k && isC s oa) := by show (f 0 && isC s (g 0)) = _; rw [HG.out, ← HF.out]; rfl
      have EK1 : kno s f g 3 1 = (tB k && isC s ob) := by show (f 1 && isC s (g 1)) = _; rw [HG.out, ← HF.out]; rfl
      obtain ⟨lv_, v0, v1, v2, _, _, _⟩ := hV.all
      obtain ⟨ln_, n0, n1, n2, _, _, _⟩ := hN.all
      obtain ⟨b1, b2, b3, b4, b5, b6, b7⟩ := OR.all
      have lo := OR.1
      have AW := Lib.hid AR
      have UR := Lib.hid (UL.out.new LH hU fun i e => by rcases e with e | e <;> omega)
      have hv := VO.out
      have hr := hv.r
      clear hV hN hU AR ZR OR ZI OO AL UL NL KC HG TK
      rw [EV0] at v0
      rw [EV1] at v1
      rw [EV2] at v2
      rw [EK0] at n0
      rw [EK1] at n1
      rw [EA]
      clear EV0 EV1 EV2 EK0 EK1 EA HF
      have b0 : ∀ t : Int, 0 ≤ kn s t ∧ kn s t < 4294967296 := fun t => by
        unfold kn opAt
        rw [List.getD_eq_getElem?_getD]
        cases hx : s.ops[t.toNat]? with
        | none => exact ⟨by decide, by decide⟩
        | some x => exact (hv.g x (List.mem_of_getElem? hx)).kn
      have bA : 0 ≤ vA s ⟨k, ow, oa, ob, oc, okn, on⟩ ∧ vA s ⟨k, ow, oa, ob, oc, okn, on⟩ < 4294967296 := by unfold vA; split; exact b0 _; exact ⟨by decide, by decide⟩
      have bB : 0 ≤ vB s ⟨k, ow, oa, ob, oc, okn, on⟩ ∧ vB s ⟨k, ow, oa, ob, oc, okn, on⟩ < 4294967296 := by unfold vB; split; exact b0 _; exact ⟨by decide, by decide⟩
      have bC : 0 ≤ vC s ⟨k, ow, oa, ob, oc, okn, on⟩ ∧ vC s ⟨k, ow, oa, ob, oc, okn, on⟩ < 4294967296 := by unfold vC; split; exact b0 _; exact ⟨by decide, by decide⟩
      have hk45 := hv.k
      have hw := hv.w
      dsimp only at hk45 hw
      cases hal : allC s ⟨k, ow, oa, ob, oc, okn, on⟩ with
      | true =>
        have hR : R = s.num (fold s ⟨k, ow, oa, ob, oc, okn, on⟩) := by
          rw [← HR.out]; unfold Wk.val
          rw [if_neg (by show ¬ k = 1; omega), if_pos hal]
        have bV := valV_bd k ow okn _ _ _ hr.kn.1 hr.kn.2 bA.1 bA.2 bB.1 bB.2 bC.1 bC.2
        have hVA := fun w => val_any k ow oa ob oc okn on _ _ _ w hr.kn.1 hr.kn.2 bA.1 bA.2 bB.1 bB.2 bC.1 bC.2 (by
          rcases (show k = 4 ∨ k = 5 ∨ k = 6 ∨ k = 7 ∨ k = 8 by omega) with e | e | e | e | e
          · exact .inl ⟨e, hw.1 e⟩
          · exact .inr (.inl ⟨e, hw.2.1 e⟩)
          · exact .inr (.inr (.inl e))
          · exact .inr (.inr (.inr (.inl e)))
          · exact .inr (.inr (.inr (.inr ⟨e, hw.2.2 e⟩))))
        have VA := Lib.hid hVA
        have PN : Hid (∀ w, WW K s w → Calls Try.prog 199 #[.pointer (some ⟨K.h, 0, none⟩), .agg #[.int .i64 1, .int .i64 0, .int .i64 0, .int .i64 0, .int .i64 0, .int .u32 (valV k ow okn (vA s ⟨k, ow, oa, ob, oc, okn, on⟩) (vB s ⟨k, ow, oa, ob, oc, okn, on⟩) (vC s ⟨k, ow, oa, ob, oc, okn, on⟩)), .int .i64 0]] w fun e w' => e = .returned (.int .i64 R.1) ∧ WW K R.2 w' ∧ UW K w w') := fun w a => by
          rw [hR]
          exact number_any (fold s ⟨k, ow, oa, ob, oc, okn, on⟩) w a (ok_cK _ bV) rfl hn
        clear bV hVA hR hal b0 bA bB bC hk45 hw hv hr n0 n1
        generalize hX : valV k ow okn (vA s ⟨k, ow, oa, ob, oc, okn, on⟩) (vB s ⟨k, ow, oa, ob, oc, okn, on⟩) (vC s ⟨k, ow, oa, ob, oc, okn, on⟩) = X at VA PN
        generalize hx0 : vA s ⟨k, ow, oa, ob, oc, okn, on⟩ = x0 at VA v0
        generalize hx1 : vB s ⟨k, ow, oa, ob, oc, okn, on⟩ = x1 at VA v1
        generalize hx2 : vC s ⟨k, ow, oa, ob, oc, okn, on⟩ = x2 at VA v2
        clear hX hx0 hx1 hx2 HR VO
        go_wp2_with (first
          | (go_at_call 171; refine (VA.out _).mono ?_; rintro e w3 ⟨rfl, B3⟩; have A3 := AW.out.below B3; have U3 := UR.out.trans (UW.below (Nat.lt_of_lt_of_le LH UR.out.u.size) B3))
          | (go_at_call 199; refine (PN.out _ A3).mono ?_; rintro e w4 ⟨rfl, A4, U4⟩))
        go_ret
        exact ⟨rfl, A4, U3.trans U4⟩
      | false =>
        have hR0 : ∀ z, (if k = 6 ∧ isC s oa = true then ((if kn s oa = 0 then oc else ob, s) : Int × Wk) else if k = 6 ∧ ob = oc then (ob, s) else if k = 4 ∧ isC s ob = true ∧ kn s ob = 0 ∧ lv ow = true then (oa, s) else s.num ⟨k, ow, oa, ob, oc, okn, on⟩) = z → R = z := fun z h => by
          rw [← h, ← HR.out]; unfold Wk.val
          rw [if_neg (by show ¬ k = 1; omega), if_neg (by rw [hal]; decide)]
        have hPN : R = s.num ⟨k, ow, oa, ob, oc, okn, on⟩ → ∀ w, WW K s w → Calls Try.prog 199 #[.pointer (some ⟨K.h, 0, none⟩), .agg #[.int .i64 k, .int .i64 ow, .int .i64 oa, .int .i64 ob, .int .i64 oc, .int .u32 okn, .int .i64 on]] w fun e w' => e = .returned (.int .i64 R.1) ∧ WW K R.2 w' ∧ UW K w w' := fun hR w a => by
          rw [hR]
          exact number_any ⟨k, ow, oa, ob, oc, okn, on⟩ w a hr (decide_eq_true (.inr hk45)) hn
        have LV := Lib.hid (fun w => leaves_any ow w)
        have EVA : tA k = true → vA s ⟨k, ow, oa, ob, oc, okn, on⟩ = kn s oa := fun h => if_pos h
        have EVB : tB k = true → vB s ⟨k, ow, oa, ob, oc, okn, on⟩ = kn s ob := fun h => if_pos h
        generalize vA s ⟨k, ow, oa, ob, oc, okn, on⟩ = x0 at EVA v0
        generalize vB s ⟨k, ow, oa, ob, oc, okn, on⟩ = x1 at EVB v1
        generalize vC s ⟨k, ow, oa, ob, oc, okn, on⟩ = x2 at v2
        clear b0 bA bB bC hw hv hr HR VO
        by_cases h6 : k = 6
        · subst h6
          obtain rfl := EVA rfl
          have n0' : wr.cell? ⟨bv + 1, 0, none⟩ = some (.bool (isC s oa)) := n0
          clear n0 EVB EVA
          cases hcA : isC s oa with
          | true =>
            rw [hcA] at n0'
            by_cases hz : kn s oa = 0
            · have HRR := Lib.hid (hR0 (oc, s) (by rw [if_pos ⟨rfl, hcA⟩, if_pos hz]))
              have hz1 : (kn s oa != 0) = false := by simp [hz]
              clear hR0 hPN hcA hz hal
              go_wp2
              go_ret
              exact ⟨by rw [HRR.out]; rfl, by rw [HRR.out]; exact AW.out, UR.out⟩
            · have HRR := Lib.hid (hR0 (ob, s) (by rw [if_pos ⟨rfl, hcA⟩, if_neg hz]))
              have hz1 : (kn s oa != 0) = true := by simp [hz]
              clear hR0 hPN hcA hz hal
              go_wp2
              go_ret
              exact ⟨by rw [HRR.out]; rfl, by rw [HRR.out]; exact AW.out, UR.out⟩
          | false =>
            rw [hcA] at n0'
            by_cases hbc : ob = oc
            · have HRR := Lib.hid (hR0 (ob, s) (by rw [if_neg (by rw [hcA]; decide), if_pos ⟨rfl, hbc⟩]))
              have hz1 : (ob == oc) = true := by simp [hbc]
              clear hR0 hPN hcA hbc hal
              go_wp2
              go_ret
              exact ⟨by rw [HRR.out]; rfl, by rw [HRR.out]; exact AW.out, UR.out⟩
            · have hR := hR0 (s.num _) (by rw [if_neg (by rw [hcA]; decide), if_neg (fun h => hbc h.2), if_neg (by simp)])
              have PN := Lib.hid (hPN hR)
              have hz1 : (ob == oc) = false := by simp [hbc]
              clear hR0 hPN hcA hbc hal hR
              go_wp2_with (go_at_call 199; refine (PN.out _ AW.out).mono ?_; rintro e w4 ⟨rfl, A4, U4⟩)
              go_ret
              exact ⟨rfl, A4, UR.out.trans U4⟩
        · have e6 : (k == 6) = false := by simp [h6]
          by_cases h4 : k = 4
          · subst h4
            obtain rfl := EVB rfl
            have n1' : wr.cell? ⟨bv + 1, 1, none⟩ = some (.bool (isC s ob)) := n1
            clear n1 EVB EVA
            cases hcB : isC s ob with
            | false =>
              rw [hcB] at n1'
              have hR := hR0 (s.num _) (by rw [if_neg (by simp), if_neg (by simp), if_neg (by rw [hcB]; simp)])
              have PN := Lib.hid (hPN hR)
              clear hR0 hPN hcB hal hR
              go_wp2_with (go_at_call 199; refine (PN.out _ AW.out).mono ?_; rintro e w4 ⟨rfl, A4, U4⟩)
              go_ret
              exact ⟨rfl, A4, UR.out.trans U4⟩
            | true =>
              rw [hcB] at n1'
              by_cases hz : kn s ob = 0
              · have hz1 : (kn s ob == 0) = true := by simp [hz]
                cases hlv : lv ow with
                | true =>
                  have HRR := Lib.hid (hR0 (oa, s) (by rw [if_neg (by simp), if_neg (by simp), if_pos ⟨rfl, hcB, hz, hlv⟩]))
                  rw [hlv] at LV
                  clear hR0 hPN hcB hz hal hlv
                  go_wp2_with (go_at_call 200; refine (LV.out _).mono ?_; rintro e w4 ⟨rfl, rfl⟩)
                  go_ret
                  exact ⟨by rw [HRR.out]; rfl, by rw [HRR.out]; exact AW.out, UR.out⟩
                | false =>
                  have hR := hR0 (s.num _) (by rw [if_neg (by simp), if_neg (by simp), if_neg (by rw [hlv]; simp)])
                  rw [hlv] at LV
                  have PN := Lib.hid (hPN hR)
                  clear hR0 hPN hcB hz hal hlv hR
                  go_wp2_with (first
                    | (go_at_call 200; refine (LV.out _).mono ?_; rintro e w4 ⟨rfl, rfl⟩)
                    | (go_at_call 199; refine (PN.out _ AW.out).mono ?_; rintro e w5 ⟨rfl, A4, U4⟩))
                  go_ret
                  exact ⟨rfl, A4, UR.out.trans U4⟩
              · have hR := hR0 (s.num _) (by rw [if_neg (by simp), if_neg (by simp), if_neg (fun h => hz h.2.2.1)])
                have hz1 : (kn s ob == 0) = false := by simp [hz]
                have PN := Lib.hid (hPN hR)
                clear hR0 hPN hcB hz hal hR
                go_wp2_with (go_at_call 199; refine (PN.out _ AW.out).mono ?_; rintro e w4 ⟨rfl, A4, U4⟩)
                go_ret
                exact ⟨rfl, A4, UR.out.trans U4⟩
          · have e4 : (k == 4) = false := by simp [h4]
            have hR := hR0 (s.num _) (by rw [if_neg (fun h => h6 h.1), if_neg (fun h => h6 h.1), if_neg (fun h => h4 h.1)])
            have PN := Lib.hid (hPN hR)
            clear hR0 hPN hal hR h6 h4
            go_wp2_with (go_at_call 199; refine (PN.out _ AW.out).mono ?_; rintro e w4 ⟨rfl, A4, U4⟩)
            go_ret
            exact ⟨rfl, A4, UR.out.trans U4⟩
end Go.Proofs.Ytcjcmnnhmajocab.Ot
namespace Go.Proofs.Ytcjcmnnhmajocab.Ot
open Go.RowKit Kt Ic Me Ev
set_option linter.unusedVariables false
set_option linter.unusedSimpArgs false
variable {K : Wc} {s : Wk} {W W' : World}
theorem dn_up (w : World) (n : Nat) : Upto (fun _ => False) w (w.drewN n) := ⟨rfl, rfl, rfl, Nat.le_refl _, fun _ _ _ => rfl⟩
theorem WW.setH (a : WW K s W) (j : Nat) (hj : j ≠ 0) (v : Value) (s' : Wk) (m : WM K s' (W.setCell ⟨K.h, j, none⟩ v)) (ho : s'.ops = s.ops) : WW K s' (W.setCell ⟨K.h, j, none⟩ v) :=
  ⟨m, by rw [ho]; exact a.o.upto ((Upto.refl (fun i => i = K.h) W).setCell (q := ⟨K.h, j, none⟩) (.inl rfl) v) a.nh, a.mv, a.lb, a.nh, a.nt⟩
theorem WW.setS (a : WW K s W) (j : Nat) (x : Int) (hj : j < 12) : WW K (s.st j x) (W.setCell ⟨K.h, 2 + j, none⟩ (.int .i64 x)) := a.setH _ (by omega) _ _ (a.m.setS j x hj) rfl
theorem WW.setN (a : WW K s W) (x : Int) : WW K (s.setN x) (W.setCell ⟨K.h, 15, none⟩ (.int .i64 x)) := a.setH _ (by omega) _ _ (a.m.setN x) rfl
theorem WW.setT (a : WW K s W) (t : Nat) (x : Int) (ht : t < K.n) : WW K (s.set t x) (W.setCell ⟨K.tb, t, none⟩ (.int .i64 x)) :=
  ⟨a.m.setT t x ht, a.o.upto ((Upto.refl (fun i => i = K.tb) W).setCell (q := ⟨K.tb, t, none⟩) (.inl rfl) _) a.nt, a.mv, a.lb, a.nh, a.nt⟩
/-- put, of what is no number by itself, with the map -/
theorem putW_any (o : Opr) (w : World) (a : WW K s w) (ho : pur o.k = false) (hn : s.ops.length < 1000000000) :
    Calls Try.prog 119 #[.pointer (some ⟨K.h, 0, none⟩), .agg #[.int .i64 o.k, .int .i64 o.w, .int .i64 o.a, .int .i64 o.b, .int .i64 o.c, .int .u32 o.kn, .int .i64 o.n]] w fun e w' => e = .returned (.int .i64 s.nx) ∧ WW K (s.put o) w' ∧ UW K w w' :=
  (put_any o w a.m hn).mono fun e w' ⟨h1, h2, h3, h4⟩ => ⟨h1, a.put o ho h2 h3, h4⟩
set_option maxRecDepth 100000 in
set_option maxHeartbeats 4000000 in
theorem slot_any (o : Opr) (j : Nat) (hw : o.w = j) (hj : j < 12) (w : World) (a : WW K s w) (hk : pur o.k = false) (hn : s.ops.length < 1000000000) :
    Calls Try.prog 173 #[.pointer (some ⟨K.h, 0, none⟩), .agg #[.int .i64 o.k, .int .i64 o.w, .int .i64 o.a, .int .i64 o.b, .int .i64 o.c, .int .u32 o.kn, .int .i64 o.n]] w fun e w' => e = .returned (.tuple #[]) ∧ WW K (s.slt o) w' ∧ UW K w w' := by
  obtain ⟨k, ow, oa, ob, oc, okn, on⟩ := o
  dsimp only at hw hk ⊢
  subst hw
  have a1 := a.alloc (.cells #[.int .i64 k, .int .i64 j, .int .i64 oa, .int .i64 ob, .int .i64 oc, .int .u32 okn, .int .i64 on] 31)
  have hO : OB w.heap.size ⟨k, j, oa, ob, oc, okn, on⟩ (w.alloc (.cells #[.int .i64 k, .int .i64 j, .int .i64 oa, .int .i64 ob, .int .i64 oc, .int .u32 okn, .int .i64 on] 31)) := OB.new w _ 31
  have U := Lib.hid (UW.alloc (K := K) a.m.l (.cells #[.int .i64 k, .int .i64 j, .int .i64 oa, .int .i64 ob, .int .i64 oc, .int .u32 okn, .int .i64 on] 31))
  obtain ⟨b1, b2, b3, b4, b5, b6, b7⟩ := hO.all
  have lo := hO.1
  have LW := Lib.hid a
  have A := Lib.hid a1
  have l0 := a1.m.l
  have cs := a1.m.sl j hj
  have hjj : (j : Int) < 12 := by omega
  obtain ⟨x, hx⟩ : ∃ x, s.sl j = x := ⟨_, rfl⟩
  rw [hx] at cs
  have PU := Lib.hid (fun (s : Wk) (w : World) (a : WW K s w) hn => putW_any ⟨k, j, oa, ob, oc, okn, on⟩ w a hk hn)
  have N1 := Lib.hid (own_new (b := w.heap.size) a.m (Nat.le_refl _) ((Upto.refl (fun _ => False) w).alloc (.cells #[.int .i64 k, .int .i64 j, .int .i64 oa, .int .i64 ob, .int .i64 oc, .int .u32 okn, .int .i64 on] 31)))
  have HO := Lib.hid hO
  have HN := Lib.hid hn
  clear a a1 hk hO hn
  by_cases e : x = oa
  · have HR := Lib.hid (show s.slt ⟨k, j, oa, ob, oc, okn, on⟩ = s from if_pos (by show s.sl (Int.toNat j) = oa; rw [Int.toNat_natCast, hx]; exact e))
    rw [HR.out]
    have e1 : (x == oa) = true := by simp [e]
    clear e hx
    go_enter Try.func173, Try.ntmps173
    go_wp2
    go_quiet (fail)
    go_wp2
    refine bodyPost_ret (results_none rfl _ _ _) rfl ?_
    exact ⟨rfl, A.out.quiet (dn_up _ _), U.out.trans (UW.quiet l0 (dn_up _ _))⟩
  · have HR := Lib.hid (show s.slt ⟨k, j, oa, ob, oc, okn, on⟩ = (if 8 ≤ (j : Int) then (s.st j oa).setN (-1) else s.st j oa).put ⟨k, j, oa, ob, oc, okn, on⟩ from if_neg (by show ¬ s.sl (Int.toNat j) = oa; rw [Int.toNat_natCast, hx]; exact e))
    have e1 : (x == oa) = false := by simp [e]
    generalize s.slt ⟨k, j, oa, ob, oc, okn, on⟩ = S' at HR ⊢
    clear e hx
    go_enter Try.func173, Try.ntmps173
    go_wp2
    go_quiet (fail)
    go_upto_region 2 with fail
    have A1 := Lib.hid (A.out.quiet (dn_up _ nq))
    have U1 := Lib.hid (U.out.trans (UW.quiet l0 (dn_up _ nq)))
    have O1 := Lib.hid (HO.out.upto (dn_up _ nq) id)
    have N2 : Hid (¬ own K ((w.alloc (.cells #[.int .i64 k, .int .i64 j, .int .i64 oa, .int .i64 ob, .int .i64 oc, .int .u32 okn, .int .i64 on] 31)).drewN nq) w.heap.size) := own_new LW.out.m (Nat.le_refl _) (((Upto.refl (fun _ => False) w).alloc (.cells #[.int .i64 k, .int .i64 j, .int .i64 oa, .int .i64 ob, .int .i64 oc, .int .u32 okn, .int .i64 on] 31)).trans (dn_up _ nq))
    clear b1 b2 b3 b4 b5 b6 b7 lo cs A U HO N1 l0
    generalize (w.alloc (.cells #[.int .i64 k, .int .i64 j, .int .i64 oa, .int .i64 ob, .int .i64 oc, .int .u32 okn, .int .i64 on] 31)).drewN nq = w1 at *
    obtain ⟨b1, b2, b3, b4, b5, b6, b7⟩ := O1.out.all
    have lo := O1.out.1
    have l0 := A1.out.m.l
    have cs := A1.out.m.sl j hj
    have zs := A1.out.m.z (2 + j)
    go_region
    have A2 := Lib.hid ((A1.out.setS j oa hj).quiet (Upto.refl (fun _ => False) _).drew)
    have U2 := Lib.hid (U1.out.trans ((UW.setH (2 + j) (by omega) (.int .i64 oa)).trans (UW.quiet (by simpa using l0) (Upto.refl (fun _ => False) (w1.setCell ⟨K.h, 2 + j, none⟩ (.int .i64 oa))).drew)))
    have bo : ¬ w.heap.size = K.h := fun e => by have := LW.out.m.l; omega
    have O2 := Lib.hid (O1.out.upto ((Upto.refl (fun i => i = K.h) w1).setCell (q := ⟨K.h, 2 + j, none⟩) (.inl rfl) (.int .i64 oa)).drew bo)
    clear b1 b2 b3 b4 b5 b6 b7 lo cs zs A1 U1 O1 l0 N2
    generalize (w1.setCell ⟨K.h, 2 + j, none⟩ (.int .i64 oa)).drew = w2 at *
    obtain ⟨b1, b2, b3, b4, b5, b6, b7⟩ := O2.out.all
    have lo := O2.out.1
    have l0 := A2.out.m.l
    have cn := A2.out.m.cn
    have zn := A2.out.m.z 15
    by_cases h8 : 8 ≤ (j : Int)
    · rw [if_pos h8] at HR
      have PN := Lib.hid (PU.out ((s.st j oa).setN (-1)) _ (A2.out.setN (-1)) HN.out)
      have l1 : K.h < (w2.setCell ⟨K.h, 15, none⟩ (.int .i64 (-1))).heap.size := by simpa using l0
      have O3 := O2.out.upto ((Upto.refl (fun i => i = K.h) w2).setCell (q := ⟨K.h, 15, none⟩) (.inl rfl) (.int .i64 (-1))) bo
      clear O2
      obtain ⟨c1, c2, c3, c4, c5, c6, c7⟩ := O3.all
      go_wp2_with (go_at_call 119; refine PN.out.mono ?_; rintro e w4 ⟨rfl, A4, U4⟩)
      go_end0
      exact ⟨rfl, by rw [HR.out]; exact A4, U2.out.trans ((UW.setH 15 (by decide) _).trans U4)⟩
    · rw [if_neg h8] at HR
      have PN := Lib.hid (PU.out (s.st j oa) _ A2.out HN.out)
      go_wp2_with (go_at_call 119; refine PN.out.mono ?_; rintro e w4 ⟨rfl, A4, U4⟩)
      go_end0
      exact ⟨rfl, by rw [HR.out]; exact A4, U2.out.trans U4⟩
set_option maxRecDepth 100000 in
set_option maxHeartbeats 4000000 in
theorem perhaps_any (o : Opr) (w : World) (a : WW K s w) (hk : o.k = 12 ∨ o.k = 13) (h0 : 0 ≤ o.a) (h1 : o.a < s.ops.length) (hn : s.ops.length < 1000000000) :
    Calls Try.prog 176 #[.pointer (some ⟨K.h, 0, none⟩), .agg #[.int .i64 o.k, .int .i64 o.w, .int .i64 o.a, .int .i64 o.b, .int .i64 o.c, .int .u32 o.kn, .int .i64 o.n]] w fun e w' => e = .returned (.bool (s.per o).1) ∧ WW K (s.per o).2 w' ∧ UW K w w' := by
  obtain ⟨k, ow, oa, ob, oc, okn, on⟩ := o
  dsimp only at hk h0 h1 ⊢
  have a1 := a.alloc (.cells #[.int .i64 k, .int .i64 ow, .int .i64 oa, .int .i64 ob, .int .i64 oc, .int .u32 okn, .int .i64 on] 31)
  have hO : OB w.heap.size ⟨k, ow, oa, ob, oc, okn, on⟩ (w.alloc (.cells #[.int .i64 k, .int .i64 ow, .int .i64 oa, .int .i64 ob, .int .i64 oc, .int .u32 okn, .int .i64 on] 31)) := OB.new w _ 31
  have U := Lib.hid (UW.alloc (K := K) a.m.l (.cells #[.int .i64 k, .int .i64 ow, .int .i64 oa, .int .i64 ob, .int .i64 oc, .int .u32 okn, .int .i64 on] 31))
  obtain ⟨b1, b2, b3, b4, b5, b6, b7⟩ := hO.all
  have lo := hO.1
  have A := Lib.hid a1
  have hk0 : pur k = false := decide_eq_false (by omega)
  have KC := Lib.hid (konst_any oa _ a1.m h0 h1)
  have PU := Lib.hid (fun (o : Opr) (w : World) (a : WW K s w) ho => putW_any o w a ho hn)
  have HO := Lib.hid hO
  have HN := Lib.hid hn
  have L0 := Lib.hid a1.m.l
  generalize hR : s.per ⟨k, ow, oa, ob, oc, okn, on⟩ = R
  unfold Wk.per at hR
  dsimp only at hR
  clear a a1 hO hn
  generalize hkn : kn s oa = kj at *
  cases hc : isC s oa with
  | false =>
    rw [hc] at KC
    rw [hc, if_pos rfl] at hR
    have PN : Hid (∀ w, WW K s w → Calls Try.prog 119 #[.pointer (some ⟨K.h, 0, none⟩), .agg #[.int .i64 k, .int .i64 ow, .int .i64 oa, .int .i64 ob, .int .i64 oc, .int .u32 okn, .int .i64 on]] w fun e w' => e = .returned (.int .i64 s.nx) ∧ WW K R.2 w' ∧ UW K w w') := fun w a => by rw [← hR]; exact PU.out ⟨k, ow, oa, ob, oc, okn, on⟩ w a hk0
    have R1 := Lib.hid (show R.1 = false by rw [← hR])
    clear hR PU hkn hc hk0 hk h0 h1
    go_enter Try.func176, Try.ntmps176
    go_wp2_with (first
      | (go_at_call 198; refine KC.out.mono ?_; rintro e w1 ⟨rfl, B1⟩; have A1 := A.out.below B1; have U1 := U.out.trans (UW.below L0.out B1); have O1 := HO.out.upto (Upto.of_below (S := fun _ => False) B1) id; obtain ⟨c1, c2, c3, c4, c5, c6, c7⟩ := O1.all; have lo1 := O1.1)
      | (go_at_call 119; refine (PN.out _ A1).mono ?_; rintro e w2 ⟨rfl, A2, U2⟩))
    go_ret
    exact ⟨by rw [R1.out]; rfl, A2, U1.trans U2⟩
  | true =>
    rw [hc] at KC
    rw [hc, if_neg (by decide)] at hR
    by_cases hz : kj = 0
    · rw [if_pos hz] at hR
      have e1 : (kj == 0) = true := by simp [hz]
      clear hz hk0 hk h0 h1 PU hkn hc
      subst hR
      go_enter Try.func176, Try.ntmps176
      go_wp2_with (go_at_call 198; refine KC.out.mono ?_; rintro e w1 ⟨rfl, B1⟩; have A1 := A.out.below B1; have U1 := U.out.trans (UW.below L0.out B1); have O1 := HO.out.upto (Upto.of_below (S := fun _ => False) B1) id; obtain ⟨c1, c2, c3, c4, c5, c6, c7⟩ := O1.all; have lo1 := O1.1)
      go_ret
      exact ⟨rfl, A1, U1⟩
    · rw [if_neg hz] at hR
      have e1 : (kj == 0) = false := by simp [hz]
      rcases hk with rfl | rfl
      · rw [if_pos rfl] at hR
        have PN : Hid (∀ w, WW K s w → Calls Try.prog 119 #[.pointer (some ⟨K.h, 0, none⟩), .agg #[.int .i64 15, .int .i64 0, .int .i64 0, .int .i64 0, .int .i64 0, .int .u32 okn, .int .i64 on]] w fun e w' => e = .returned (.int .i64 s.nx) ∧ WW K R.2 w' ∧ UW K w w') := fun w a => by rw [← hR]; exact PU.out ⟨15, 0, 0, 0, 0, okn, on⟩ w a rfl
        have R1 := Lib.hid (show R.1 = true by rw [← hR])
        clear hR PU hkn hc hk0 h0 h1 hz
        go_enter Try.func176, Try.ntmps176
        go_wp2_with (first
          | (go_at_call 198; refine KC.out.mono ?_; rintro e w1 ⟨rfl, B1⟩; have A1 := A.out.below B1; have U1 := U.out.trans (UW.below L0.out B1); have O1 := HO.out.upto (Upto.of_below (S := fun _ => False) B1) id; obtain ⟨c1, c2, c3, c4, c5, c6, c7⟩ := O1.all; have lo1 := O1.1)
          | (go_at_call 119; refine (PN.out _ A1).mono ?_; rintro e w2 ⟨rfl, A2, U2⟩))
        go_ret
        exact ⟨by rw [R1.out]; rfl, A2, U1.trans U2⟩
      · rw [if_neg (by decide)] at hR
        have PN : Hid (∀ w, WW K s w → Calls Try.prog 119 #[.pointer (some ⟨K.h, 0, none⟩), .agg #[.int .i64 14, .int .i64 ow, .int .i64 0, .int .i64 0, .int .i64 0, .int .u32 okn, .int .i64 on]] w fun e w' => e = .returned (.int .i64 s.nx) ∧ WW K R.2 w' ∧ UW K w w') := fun w a => by rw [← hR]; exact PU.out ⟨14, ow, 0, 0, 0, okn, on⟩ w a rfl
        have R1 := Lib.hid (show R.1 = true by rw [← hR])
        clear hR PU hkn hc hk0 h0 h1 hz
        go_enter Try.func176, Try.ntmps176
        go_wp2_with (first
          | (go_at_call 198; refine KC.out.mono ?_; rintro e w1 ⟨rfl, B1⟩; have A1 := A.out.below B1; have U1 := U.out.trans (UW.below L0.out B1); have O1 := HO.out.upto (Upto.of_below (S := fun _ => False) B1) id; obtain ⟨c1, c2, c3, c4, c5, c6, c7⟩ := O1.all; have lo1 := O1.1)
          | (go_at_call 119; refine (PN.out _ A1).mono ?_; rintro e w2 ⟨rfl, A2, U2⟩))
        go_ret
        exact ⟨by rw [R1.out]; rfl, A2, U1.trans U2⟩
end Go.Proofs.Ytcjcmnnhmajocab.Ot
