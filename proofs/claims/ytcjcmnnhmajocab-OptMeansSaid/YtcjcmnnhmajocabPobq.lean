/- ir's run: operations by which no block is left. -/
import Derived.Deep.RegionHeld3
import Derived.Deep.CutBlock
import Derived.Test.YtcjcmnnhmajocabPobo
import Derived.Test.YtcjcmnnhmajocabIrSk
namespace Go.Proofs.Ytcjcmnnhmajocab.Ev
open Go.RowKit Kt Me Fl
set_option linter.unusedVariables false
set_option linter.unusedSimpArgs false
/-- ir's run: memory, context, values -/
structure Rn (A T p L : Nat) (c v : Nat → Int) (W : World) : Prop where
  m : W.cell? ⟨A, 0, none⟩ = some (.pointer (some ⟨p, 0, none⟩))
  c : ∀ j, j < 12 → W.cell? ⟨A, 1 + j, none⟩ = some (.int .u32 (c j))
  t : W.cell? ⟨A, 13, none⟩ = some (.slice (some ⟨T, 0, none⟩) L L)
  v : ∀ j, j < L → W.cell? ⟨T, j, none⟩ = some (.int .u32 (v j))
  za : ∀ j, W.frozen? ⟨A, j, none⟩ = false
  zt : ∀ j, W.frozen? ⟨T, j, none⟩ = false
  la : A < W.heap.size
  lt : T < W.heap.size
  ne : A ≠ T
variable {A T p L : Nat} {c v : Nat → Int} {W W' : World}
theorem Rn.upto {S : Nat → Prop} (a : Rn A T p L c v W) (u : Upto S W W') (hA : ¬ S A) (hT : ¬ S T) : Rn A T p L c v W' :=
  ⟨(u.cell (q := ⟨A, 0, none⟩) a.la hA).trans a.m, fun j hj => (u.cell (q := ⟨A, 1 + j, none⟩) a.la hA).trans (a.c j hj), (u.cell (q := ⟨A, 13, none⟩) a.la hA).trans a.t,
    fun j hj => (u.cell (q := ⟨T, j, none⟩) a.lt hT).trans (a.v j hj), fun j => (u.frozen (q := ⟨A, j, none⟩) a.la hA).trans (a.za j), fun j => (u.frozen (q := ⟨T, j, none⟩) a.lt hT).trans (a.zt j),
    Nat.lt_of_lt_of_le a.la u.size, Nat.lt_of_lt_of_le a.lt u.size, a.ne⟩
theorem Rn.drew (a : Rn A T p L c v W) : Rn A T p L c v W.drew := a.upto (Upto.refl (fun _ => False) W).drew id id
theorem oth {W : World} {b b' i j : Nat} {x : Value} (hne : b' ≠ b) : (W.setCell ⟨b, j, none⟩ x).cell? ⟨b', i, none⟩ = W.cell? ⟨b', i, none⟩ :=
  World.cell?_setCell_other _ _ _ _ (fun hx => hne (congrArg Addr.block hx).symm)
theorem Rn.setV (a : Rn A T p L c v W) (i : Nat) (hi : i < L) (z : Int) : Rn A T p L c (upd v i z) (W.setCell ⟨T, i, none⟩ (.int .u32 z)) := by
  refine ⟨(oth a.ne).trans a.m, fun j hj => (oth a.ne).trans (a.c j hj), (oth a.ne).trans a.t, fun j hj => ?_, fun j => by simpa using a.za j, fun j => by simpa using a.zt j, by simpa using a.la, by simpa using a.lt, a.ne⟩
  by_cases e : j = i
  · subst e; rw [World.cell?_setCell_same _ _ _ (a.v j hj)]; simp [upd]
  · rw [off e, a.v j hj]; simp [upd, e]
theorem Rn.setC (a : Rn A T p L c v W) (i : Nat) (hi : i < 12) (z : Int) : Rn A T p L (upd c i z) v (W.setCell ⟨A, 1 + i, none⟩ (.int .u32 z)) := by
  have hne : T ≠ A := fun e => a.ne e.symm
  refine ⟨(off (by omega)).trans a.m, fun j hj => ?_, (off (by omega)).trans a.t, fun j hj => (oth hne).trans (a.v j hj), fun j => by simpa using a.za j, fun j => by simpa using a.zt j, by simpa using a.la, by simpa using a.lt, a.ne⟩
  by_cases e : j = i
  · subst e; rw [World.cell?_setCell_same _ _ _ (a.c j hj)]; simp [upd]
  · rw [off (by omega), a.c j hj]; simp [upd, e]
/-- an operation in a box -/
structure OB (h : Nat) (k ow oa ob oc kn on : Int) (W : World) : Prop where
  c0 : W.cell? ⟨h, 0, none⟩ = some (.int .i64 k)
  c1 : W.cell? ⟨h, 1, none⟩ = some (.int .i64 ow)
  c2 : W.cell? ⟨h, 2, none⟩ = some (.int .i64 oa)
  c3 : W.cell? ⟨h, 3, none⟩ = some (.int .i64 ob)
  c4 : W.cell? ⟨h, 4, none⟩ = some (.int .i64 oc)
  c5 : W.cell? ⟨h, 5, none⟩ = some (.int .u32 kn)
  c6 : W.cell? ⟨h, 6, none⟩ = some (.int .i64 on)
  l : h < W.heap.size
theorem OB.upto {S : Nat → Prop} {h : Nat} {k ow oa ob oc kn on : Int} {W W' : World} (a : OB h k ow oa ob oc kn on W) (u : Upto S W W') (hs : ¬ S h) : OB h k ow oa ob oc kn on W' :=
  ⟨(u.cell (q := ⟨h, 0, none⟩) a.l hs).trans a.c0, (u.cell (q := ⟨h, 1, none⟩) a.l hs).trans a.c1, (u.cell (q := ⟨h, 2, none⟩) a.l hs).trans a.c2, (u.cell (q := ⟨h, 3, none⟩) a.l hs).trans a.c3, (u.cell (q := ⟨h, 4, none⟩) a.l hs).trans a.c4, (u.cell (q := ⟨h, 5, none⟩) a.l hs).trans a.c5, (u.cell (q := ⟨h, 6, none⟩) a.l hs).trans a.c6, Nat.lt_of_lt_of_le a.l u.size⟩
def IV (A T L i h : Nat) (k ow oa ob oc kn on : Int) (W : World) : Prop := W.cell? ⟨h, 0, none⟩ = some (.int .i64 k) ∧ W.cell? ⟨h, 1, none⟩ = some (.int .i64 ow) ∧ W.cell? ⟨h, 2, none⟩ = some (.int .i64 oa) ∧ W.cell? ⟨h, 3, none⟩ = some (.int .i64 ob) ∧ W.cell? ⟨h, 4, none⟩ = some (.int .i64 oc) ∧ W.cell? ⟨h, 5, none⟩ = some (.int .u32 kn) ∧ W.cell? ⟨h, 6, none⟩ = some (.int .i64 on) ∧ W.cell? ⟨A, 13, none⟩ = some (.slice (some ⟨T, 0, none⟩) L L) ∧ (W.cell? ⟨T, i, none⟩).isSome = true ∧ W.frozen? ⟨T, i, none⟩ = false
theorem Rn.iv (a : Rn A T p L c v W) {i h : Nat} {k ow oa ob oc kn on : Int} (b : OB h k ow oa ob oc kn on W) (hi : i < L) : IV A T L i h k ow oa ob oc kn on W :=
  ⟨b.c0, b.c1, b.c2, b.c3, b.c4, b.c5, b.c6, a.t, (congrArg Option.isSome (a.v i hi)).trans rfl, a.zt i⟩
theorem OB.setV {h i : Nat} {k ow oa ob oc kn on : Int} {W : World} (b : OB h k ow oa ob oc kn on W) {T : Nat} (hne : h ≠ T) (z : Value) : OB h k ow oa ob oc kn on (W.setCell ⟨T, i, none⟩ z) :=
  ⟨(oth hne).trans b.c0, (oth hne).trans b.c1, (oth hne).trans b.c2, (oth hne).trans b.c3, (oth hne).trans b.c4, (oth hne).trans b.c5, (oth hne).trans b.c6, by simpa using b.l⟩
/-- what the context and the values are behind it -/
def pc (k ow : Int) (oa : Nat) (c v : Nat → Int) : Nat → Int := if k = 3 then upd c ow.toNat (v oa) else c
end Go.Proofs.Ytcjcmnnhmajocab.Ev
