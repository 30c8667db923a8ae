/- ir's run: one operation. -/
import Derived.StillTailTactics
import Derived.Test.YtcjcmnnhmajocabPobq
namespace Go.Proofs.Ytcjcmnnhmajocab.Ev
open Go.RowKit Kt Me Fl
set_option linter.unusedVariables false
set_option linter.unusedSimpArgs false
/-- an exit in a box -/
structure XB4 (h : Nat) (ek ex ep en : Int) (W : World) : Prop where
  c0 : W.cell? ⟨h, 0, none⟩ = some (.int .i64 ek)
  c1 : W.cell? ⟨h, 1, none⟩ = some (.int .u32 ex)
  c2 : W.cell? ⟨h, 2, none⟩ = some (.int .u32 ep)
  c3 : W.cell? ⟨h, 3, none⟩ = some (.int .i64 en)
  z : ∀ j, W.frozen? ⟨h, j, none⟩ = false
  l : h < W.heap.size
theorem XB4.upto {S : Nat → Prop} {h : Nat} {ek ex ep en : Int} {W W' : World} (a : XB4 h ek ex ep en W) (u : Upto S W W') (hs : ¬ S h) : XB4 h ek ex ep en W' :=
  ⟨(u.cell (q := ⟨h, 0, none⟩) a.l hs).trans a.c0, (u.cell (q := ⟨h, 1, none⟩) a.l hs).trans a.c1, (u.cell (q := ⟨h, 2, none⟩) a.l hs).trans a.c2, (u.cell (q := ⟨h, 3, none⟩) a.l hs).trans a.c3, fun j => (u.frozen (q := ⟨h, j, none⟩) a.l hs).trans (a.z j), Nat.lt_of_lt_of_le a.l u.size⟩
theorem XB4.new (w : World) (ek ex ep en : Int) (t : TypeId) : XB4 w.heap.size ek ex ep en (w.alloc (.cells #[.int .i64 ek, .int .u32 ex, .int .u32 ep, .int .i64 en] t)) :=
  ⟨box_at w _ _ 0, box_at w _ _ 1, box_at w _ _ 2, box_at w _ _ 3, fun j => fz_new w _ _ j, by simp⟩
theorem XB4.set {h : Nat} {ek ex ep en : Int} {W : World} (a : XB4 h ek ex ep en W) (k x p n : Int) : XB4 h k x p n ((((W.setCell ⟨h, 0, none⟩ (.int .i64 k)).setCell ⟨h, 1, none⟩ (.int .u32 x)).setCell ⟨h, 2, none⟩ (.int .u32 p)).setCell ⟨h, 3, none⟩ (.int .i64 n)) := by
  have e0 := World.cell?_setCell_same W ⟨h, 0, none⟩ (.int .i64 k) a.c0
  have d1 := (off (W := W) (b := h) (i := 1) (j := 0) (v := .int .i64 k) (by omega)).trans a.c1
  have d2 := (off (W := W) (b := h) (i := 2) (j := 0) (v := .int .i64 k) (by omega)).trans a.c2
  have d3 := (off (W := W) (b := h) (i := 3) (j := 0) (v := .int .i64 k) (by omega)).trans a.c3
  generalize hW1 : W.setCell ⟨h, 0, none⟩ (.int .i64 k) = W1 at e0 d1 d2 d3 ⊢
  have e1 := World.cell?_setCell_same W1 ⟨h, 1, none⟩ (.int .u32 x) d1
  have f0 := (off (W := W1) (b := h) (i := 0) (j := 1) (v := .int .u32 x) (by omega)).trans e0
  have f2 := (off (W := W1) (b := h) (i := 2) (j := 1) (v := .int .u32 x) (by omega)).trans d2
  have f3 := (off (W := W1) (b := h) (i := 3) (j := 1) (v := .int .u32 x) (by omega)).trans d3
  generalize hW2 : W1.setCell ⟨h, 1, none⟩ (.int .u32 x) = W2 at e1 f0 f2 f3 ⊢
  have e2 := World.cell?_setCell_same W2 ⟨h, 2, none⟩ (.int .u32 p) f2
  refine ⟨?_, ?_, ?_, ?_, fun j => by subst hW2; subst hW1; simpa using a.z j, by subst hW2; subst hW1; simpa using a.l⟩
  · exact (off (by omega)).trans ((off (by omega)).trans f0)
  · exact (off (by omega)).trans ((off (by omega)).trans e1)
  · exact (off (by omega)).trans e2
  · exact World.cell?_setCell_same _ _ _ ((off (by omega)).trans f3)
variable {A T p L : Nat} {c v : Nat → Int}
theorem XB4.drew {h : Nat} {ek ex ep en : Int} {W : World} (a : XB4 h ek ex ep en W) : XB4 h ek ex ep en W.drew := a.upto (Upto.refl (fun _ => False) W).drew id
theorem OB.drew {h : Nat} {k ow oa ob oc kn on : Int} {W : World} (a : OB h k ow oa ob oc kn on W) : OB h k ow oa ob oc kn on W.drew := a.upto (Upto.refl (fun _ => False) W).drew id
theorem s11 {h h1 hx oa : Nat} {k ow oa' ob oc kn on ek ex ep en q0 q1 q2 q3 : Int} {W : World} (hX : XB4 hx ek ex ep en W) (hO : OB h k ow oa' ob oc kn on W) (hN : Rn A T p L c v W) (hR : XB4 h1 q0 q1 q2 q3 W) (ha : oa < L) :
    W.cell? ⟨hx, 0, none⟩ = some (.int .i64 ek) ∧ W.cell? ⟨hx, 1, none⟩ = some (.int .u32 ex) ∧ W.cell? ⟨hx, 2, none⟩ = some (.int .u32 ep) ∧ W.cell? ⟨hx, 3, none⟩ = some (.int .i64 en) ∧ W.cell? ⟨h, 0, none⟩ = some (.int .i64 k) ∧ W.cell? ⟨h, 1, none⟩ = some (.int .i64 ow) ∧ W.cell? ⟨h, 2, none⟩ = some (.int .i64 oa') ∧ W.cell? ⟨h, 3, none⟩ = some (.int .i64 ob) ∧ W.cell? ⟨h, 4, none⟩ = some (.int .i64 oc) ∧ W.cell? ⟨h, 5, none⟩ = some (.int .u32 kn) ∧ W.cell? ⟨h, 6, none⟩ = some (.int .i64 on) ∧ W.cell? ⟨A, 0, none⟩ = some (.pointer (some ⟨p, 0, none⟩)) ∧ (W.cell? ⟨h1, 0, none⟩).isSome = true ∧ W.frozen? ⟨h1, 0, none⟩ = false ∧ (W.cell? ⟨h1, 1, none⟩).isSome = true ∧ W.frozen? ⟨h1, 1, none⟩ = false ∧ (W.cell? ⟨h1, 2, none⟩).isSome = true ∧ W.frozen? ⟨h1, 2, none⟩ = false ∧ (W.cell? ⟨h1, 3, none⟩).isSome = true ∧ W.frozen? ⟨h1, 3, none⟩ = false :=
  ⟨hX.c0, hX.c1, hX.c2, hX.c3, hO.c0, hO.c1, hO.c2, hO.c3, hO.c4, hO.c5, hO.c6, hN.m, (congrArg Option.isSome hR.c0).trans rfl, hR.z 0, (congrArg Option.isSome hR.c1).trans rfl, hR.z 1, (congrArg Option.isSome hR.c2).trans rfl, hR.z 2, (congrArg Option.isSome hR.c3).trans rfl, hR.z 3⟩
theorem s10 {h hx oa ob : Nat} {k ow oc kn on q0 q1 q2 q3 : Int} {W : World} (hX : XB4 hx q0 q1 q2 q3 W) (hO : OB h k ow oa ob oc kn on W) (hN : Rn A T p L c v W) (ha : oa < L) (hb : ob < L) :
    W.cell? ⟨A, 0, none⟩ = some (.pointer (some ⟨p, 0, none⟩)) ∧ W.cell? ⟨h, 1, none⟩ = some (.int .i64 ow) ∧ W.cell? ⟨h, 2, none⟩ = some (.int .i64 (oa : Int)) ∧ W.cell? ⟨h, 3, none⟩ = some (.int .i64 (ob : Int)) ∧ W.cell? ⟨A, 13, none⟩ = some (.slice (some ⟨T, 0, none⟩) L L) ∧ W.cell? ⟨T, oa, none⟩ = some (.int .u32 (v oa)) ∧ W.cell? ⟨T, ob, none⟩ = some (.int .u32 (v ob)) ∧ (W.cell? ⟨hx, 0, none⟩).isSome = true ∧ W.frozen? ⟨hx, 0, none⟩ = false ∧ (W.cell? ⟨hx, 1, none⟩).isSome = true ∧ W.frozen? ⟨hx, 1, none⟩ = false :=
  ⟨hN.m, hO.c1, hO.c2, hO.c3, hN.t, hN.v oa ha, hN.v ob hb, (congrArg Option.isSome hX.c0).trans rfl, hX.z 0, (congrArg Option.isSome hX.c1).trans rfl, hX.z 1⟩
theorem s9 {h oa : Nat} {k ow ob oc kn on : Int} {W : World} (hO : OB h k ow oa ob oc kn on W) (hN : Rn A T p L c v W) (ha : oa < L) :
    W.cell? ⟨A, 0, none⟩ = some (.pointer (some ⟨p, 0, none⟩)) ∧ W.cell? ⟨h, 1, none⟩ = some (.int .i64 ow) ∧ W.cell? ⟨h, 2, none⟩ = some (.int .i64 (oa : Int)) ∧ W.cell? ⟨A, 13, none⟩ = some (.slice (some ⟨T, 0, none⟩) L L) ∧ W.cell? ⟨T, oa, none⟩ = some (.int .u32 (v oa)) :=
  ⟨hN.m, hO.c1, hO.c2, hN.t, hN.v oa ha⟩
end Go.Proofs.Ytcjcmnnhmajocab.Ev
