/- ir's run: one operation. -/
import Derived.StillTailTactics
import Derived.Test.YtcjcmnnhmajocabPebe
namespace Go.Proofs.Ytcjcmnnhmajocab.Ev
open Go.RowKit Kt Me Fl
set_option linter.unusedVariables false
set_option linter.unusedSimpArgs false
/-- an exit in a box -/
structure XB4 (h : Nat) (ek ex ep en : Int) (W : World) : Prop where
  c0 : W.cell? ⟨h, 0, none⟩ = some (.int .i64 ek)
  c1 : W.cell? ⟨h, 1, none⟩ = some (.int .u32 ex)
  c2 : W.cell? ⟨h, 2, none⟩ = some (.int .u32 ep)
  c3 : W.cell? ⟨h, 3, none⟩ = some (.int .i64 en)
  z : ∀ j, W.frozen? ⟨h, j, none⟩ = false
  l : h < W.heap.size
theorem XB4.upto {S : Nat → Prop} {h : Nat} {ek ex ep en : Int} {W W' : World} (a : XB4 h ek ex ep en W) (u : Upto S W W') (hs : ¬ S h) : XB4 h ek ex ep en W' :=
  ⟨(u.cell (q := ⟨h, 0, none⟩) a.l hs).trans a.c0, (u.cell (q := ⟨h, 1, none⟩) a.l hs).trans a.c1, (u.cell (q := ⟨h, 2, none⟩) a.l hs).trans a.c2, (u.cell (q := ⟨h, 3, none⟩) a.l hs).trans a.c3, fun j => (u.frozen (q := ⟨h, j, none⟩) a.l hs).trans (a.z j), Nat.lt_of_lt_of_le a.l u.size⟩
theorem XB4.new (w : World) (ek ex ep en : Int) (t : TypeId) : XB4 w.heap.size ek ex ep en (w.alloc (.cells #[.int .i64 ek, .int .u32 ex, .int .u32 ep, .int .i64 en] t)) :=
  ⟨box_at w _ _ 0, box_at w _ _ 1, box_at w _ _ 2, box_at w _ _ 3, fun j => fz_new w _ _ j, by simp⟩
theorem XB4.set {h : Nat} {ek ex ep en : Int} {W : World} (a : XB4 h ek ex ep en W) (k x p n : Int) : XB4 h k x p n ((((W.setCell ⟨h, 0, none⟩ (.int .i64 k)).setCell ⟨h, 1, none⟩ (.int .u32 x)).setCell ⟨h, 2, none⟩ (.int .u32 p)).setCell ⟨h, 3, none⟩ (.int .i64 n)) := by
  have e0 := World.cell?_setCell_same W ⟨h, 0, none⟩ (.int .i64 k) a.c0
  have d1 := (off (W := W) (b := h) (i := 1) (j := 0) (v := .int .i64 k) (by omega)).trans a.c1
  have d2 := (off (W := W) (b := h) (i := 2) (j := 0) (v := .int .i64 k) (by omega)).trans a.c2
  have d3 := (off (W := W) (b := h) (i := 3) (j := 0) (v := .int .i64 k) (by omega)).trans a.c3
  generalize hW1 : W.setCell ⟨h, 0, none⟩ (.int .i64 k) = W1 at e0 d1 d2 d3 ⊢
  have e1 := World.cell?_setCell_same W1 ⟨h, 1, none⟩ (.int .u32 x) d1
  have f0 := (off (W := W1) (b := h) (i := 0) (j := 1) (v := .int .u32 x) (by omega)).trans e0
  have f2 := (off (W := W1) (b := h) (i := 2) (j := 1) (v := .int .u32 x) (by omega)).trans d2
  have f3 := (off (W := W1) (b := h) (i := 3) (j := 1) (v := .int .u32 x) (by omega)).trans d3
  generalize hW2 : W1.setCell ⟨h, 1, none⟩ (.int .u32 x) = W2 at e1 f0 f2 f3 ⊢
  have e2 := World.cell?_setCell_same W2 ⟨h, 2, none⟩ (.int .u32 p) f2
  refine ⟨?_, ?_, ?_, ?_, fun j => by subst hW2; subst hW1; simpa using a.z j, by subst hW2; subst hW1; simpa using a.l⟩
  · exact (off (by omega)).trans ((off (by omega)).trans f0)
  · exact (off (by omega)).trans ((off (by omega)).trans e1)
  · exact (off (by omega)).trans e2
  · exact World.cell?_setCell_same _ _ _ ((off (by omega)).trans f3)
set_option maxRecDepth 100000 in
set_option maxHeartbeats 4000000 in
theorem out_any (ek ex ep en k ow oa ob oc kn on : Int) (left : Bool) (w : World) :
    Calls Try.prog 114 #[.agg #[.int .i64 ek, .int .u32 ex, .int .u32 ep, .int .i64 en], .agg #[.int .i64 k, .int .i64 ow, .int .i64 oa, .int .i64 ob, .int .i64 oc, .int .u32 kn, .int .i64 on], .bool left] w fun e w' => e = .returned (.tuple #[.agg #[.int .i64 ek, .int .u32 ex, .int .u32 kn, .int .i64 on], .bool left]) ∧ Below w.heap.size w w' := by
  go_enter Try.func114, Try.ntmps114
  go_wp2_with fail
  go_region
  go_wp2_with fail
  have e2 : ((w.alloc (.cells #[.int .i64 ek, .int .u32 ex, .int .u32 kn, .int .i64 on] 48)).alloc (.cells #[.int .i64 k, .int .i64 ow, .int .i64 oa, .int .i64 ob, .int .i64 oc, .int .u32 kn, .int .i64 on] 31)).heap.size = w.heap.size + 1 + 1 := by simp
  have b2 : Below w.heap.size w ((w.alloc (.cells #[.int .i64 ek, .int .u32 ex, .int .u32 kn, .int .i64 on] 48)).alloc (.cells #[.int .i64 k, .int .i64 ow, .int .i64 oa, .int .i64 ob, .int .i64 oc, .int .u32 kn, .int .i64 on] 31)) := ((Below.refl _ _).alloc (Nat.le_refl _) _).alloc (by simp) _
  generalize (w.alloc (.cells #[.int .i64 ek, .int .u32 ex, .int .u32 kn, .int .i64 on] 48)).alloc (.cells #[.int .i64 k, .int .i64 ow, .int .i64 oa, .int .i64 ob, .int .i64 oc, .int .u32 kn, .int .i64 on] 31) = W2 at e2 b2 ⊢
  have x := XB4.new W2 ek ex kn on 48
  have b3 := (b2.alloc b2.size (.cells #[.int .i64 ek, .int .u32 ex, .int .u32 kn, .int .i64 on] 48)).drew
  rw [e2] at x
  have g0 : (W2.alloc (.cells #[.int .i64 ek, .int .u32 ex, .int .u32 kn, .int .i64 on] 48)).drew.cell? ⟨w.heap.size + 1 + 1, 0, none⟩ = some (.int .i64 ek) := x.c0
  have g1 : (W2.alloc (.cells #[.int .i64 ek, .int .u32 ex, .int .u32 kn, .int .i64 on] 48)).drew.cell? ⟨w.heap.size + 1 + 1, 1, none⟩ = some (.int .u32 ex) := x.c1
  have g2 : (W2.alloc (.cells #[.int .i64 ek, .int .u32 ex, .int .u32 kn, .int .i64 on] 48)).drew.cell? ⟨w.heap.size + 1 + 1, 2, none⟩ = some (.int .u32 kn) := x.c2
  have g3 : (W2.alloc (.cells #[.int .i64 ek, .int .u32 ex, .int .u32 kn, .int .i64 on] 48)).drew.cell? ⟨w.heap.size + 1 + 1, 3, none⟩ = some (.int .i64 on) := x.c3
  generalize (W2.alloc (.cells #[.int .i64 ek, .int .u32 ex, .int .u32 kn, .int .i64 on] 48)).drew = W3 at b3 g0 g1 g2 g3 ⊢
  exact bodyPost_ret (v := .tuple #[.agg #[.int .i64 ek, .int .u32 ex, .int .u32 kn, .int .i64 on], .bool left]) (by simp [results, Try.results114, go_sem, g0, g1, g2, g3]) rfl ⟨rfl, b3⟩
/-- what an operation may change -/
def RSM (A T p : Nat) (k : Nat) : Prop := k = A ∨ k = T ∨ k = p
variable {A T p L : Nat} {c v : Nat → Int}
theorem do_new (w : World) (k ow oa ob oc kn on : Int) :
    OB w.heap.size k ow oa ob oc kn on (((w.alloc (.cells #[.int .i64 k, .int .i64 ow, .int .i64 oa, .int .i64 ob, .int .i64 oc, .int .u32 kn, .int .i64 on] 31)).alloc (.cells #[.int .i64 0, .int .u32 0, .int .u32 0, .int .i64 0] 48)).alloc (.cells #[.int .i64 0, .int .u32 0, .int .u32 0, .int .i64 0] 48)) ∧
    XB4 (w.heap.size + 1) 0 0 0 0 (((w.alloc (.cells #[.int .i64 k, .int .i64 ow, .int .i64 oa, .int .i64 ob, .int .i64 oc, .int .u32 kn, .int .i64 on] 31)).alloc (.cells #[.int .i64 0, .int .u32 0, .int .u32 0, .int .i64 0] 48)).alloc (.cells #[.int .i64 0, .int .u32 0, .int .u32 0, .int .i64 0] 48)) ∧
    XB4 (w.heap.size + 1 + 1) 0 0 0 0 (((w.alloc (.cells #[.int .i64 k, .int .i64 ow, .int .i64 oa, .int .i64 ob, .int .i64 oc, .int .u32 kn, .int .i64 on] 31)).alloc (.cells #[.int .i64 0, .int .u32 0, .int .u32 0, .int .i64 0] 48)).alloc (.cells #[.int .i64 0, .int .u32 0, .int .u32 0, .int .i64 0] 48)) ∧
    (∀ j, (((w.alloc (.cells #[.int .i64 k, .int .i64 ow, .int .i64 oa, .int .i64 ob, .int .i64 oc, .int .u32 kn, .int .i64 on] 31)).alloc (.cells #[.int .i64 0, .int .u32 0, .int .u32 0, .int .i64 0] 48)).alloc (.cells #[.int .i64 0, .int .u32 0, .int .u32 0, .int .i64 0] 48)).frozen? ⟨w.heap.size, j, none⟩ = false) ∧
    Upto (fun _ => False) w (((w.alloc (.cells #[.int .i64 k, .int .i64 ow, .int .i64 oa, .int .i64 ob, .int .i64 oc, .int .u32 kn, .int .i64 on] 31)).alloc (.cells #[.int .i64 0, .int .u32 0, .int .u32 0, .int .i64 0] 48)).alloc (.cells #[.int .i64 0, .int .u32 0, .int .u32 0, .int .i64 0] 48)) := by
  have hu := (((Upto.refl (fun _ => False) w).alloc (.cells #[.int .i64 k, .int .i64 ow, .int .i64 oa, .int .i64 ob, .int .i64 oc, .int .u32 kn, .int .i64 on] 31)).alloc (.cells #[.int .i64 0, .int .u32 0, .int .u32 0, .int .i64 0] 48)).alloc (.cells #[.int .i64 0, .int .u32 0, .int .u32 0, .int .i64 0] 48)
  have o1 : OB w.heap.size k ow oa ob oc kn on (w.alloc (.cells #[.int .i64 k, .int .i64 ow, .int .i64 oa, .int .i64 ob, .int .i64 oc, .int .u32 kn, .int .i64 on] 31)) := ⟨box_at w _ _ 0, box_at w _ _ 1, box_at w _ _ 2, box_at w _ _ 3, box_at w _ _ 4, box_at w _ _ 5, box_at w _ _ 6, by simp⟩
  have e1 : (w.alloc (.cells #[.int .i64 k, .int .i64 ow, .int .i64 oa, .int .i64 ob, .int .i64 oc, .int .u32 kn, .int .i64 on] 31)).heap.size = w.heap.size + 1 := by simp
  have z1 : ∀ j, (w.alloc (.cells #[.int .i64 k, .int .i64 ow, .int .i64 oa, .int .i64 ob, .int .i64 oc, .int .u32 kn, .int .i64 on] 31)).frozen? ⟨w.heap.size, j, none⟩ = false := fun j => fz_new w _ _ j
  generalize w.alloc (.cells #[.int .i64 k, .int .i64 ow, .int .i64 oa, .int .i64 ob, .int .i64 oc, .int .u32 kn, .int .i64 on] 31) = W1 at o1 e1 hu z1 ⊢
  have x2 := XB4.new W1 0 0 0 0 48
  have e2 : (W1.alloc (.cells #[.int .i64 0, .int .u32 0, .int .u32 0, .int .i64 0] 48)).heap.size = w.heap.size + 1 + 1 := by simp [e1]
  have u2 := (Upto.refl (fun _ => False) W1).alloc (.cells #[.int .i64 0, .int .u32 0, .int .u32 0, .int .i64 0] 48)
  rw [e1] at x2
  generalize W1.alloc (.cells #[.int .i64 0, .int .u32 0, .int .u32 0, .int .i64 0] 48) = W2 at x2 e2 u2 hu ⊢
  have x3 := XB4.new W2 0 0 0 0 48
  have u3 := (Upto.refl (fun _ => False) W2).alloc (.cells #[.int .i64 0, .int .u32 0, .int .u32 0, .int .i64 0] 48)
  rw [e2] at x3
  exact ⟨(o1.upto u2 id).upto u3 id, x2.upto u3 id, x3, fun j => (u3.frozen (q := ⟨w.heap.size, j, none⟩) (by show w.heap.size < _; omega) id).trans ((u2.frozen (q := ⟨w.heap.size, j, none⟩) (by show w.heap.size < _; omega) id).trans (z1 j)), hu⟩
theorem XB4.drew {h : Nat} {ek ex ep en : Int} {W : World} (a : XB4 h ek ex ep en W) : XB4 h ek ex ep en W.drew := a.upto (Upto.refl (fun _ => False) W).drew id
theorem OB.drew {h : Nat} {k ow oa ob oc kn on : Int} {W : World} (a : OB h k ow oa ob oc kn on W) : OB h k ow oa ob oc kn on W.drew := a.upto (Upto.refl (fun _ => False) W).drew id
theorem s12 {h h1 hx oa : Nat} {k ow oa' ob oc kn on ek ex ep en q0 q1 q2 q3 : Int} {W : World} (hX : XB4 hx ek ex ep en W) (hO : OB h k ow oa' ob oc kn on W) (hN : Rn A T p L c v W) (hR : XB4 h1 q0 q1 q2 q3 W) (ha : oa < L) :
    W.cell? ⟨hx, 0, none⟩ = some (.int .i64 ek) ∧ W.cell? ⟨hx, 1, none⟩ = some (.int .u32 ex) ∧ W.cell? ⟨hx, 2, none⟩ = some (.int .u32 ep) ∧ W.cell? ⟨hx, 3, none⟩ = some (.int .i64 en) ∧ W.cell? ⟨h, 0, none⟩ = some (.int .i64 k) ∧ W.cell? ⟨h, 1, none⟩ = some (.int .i64 ow) ∧ W.cell? ⟨h, 2, none⟩ = some (.int .i64 oa') ∧ W.cell? ⟨h, 3, none⟩ = some (.int .i64 ob) ∧ W.cell? ⟨h, 4, none⟩ = some (.int .i64 oc) ∧ W.cell? ⟨h, 5, none⟩ = some (.int .u32 kn) ∧ W.cell? ⟨h, 6, none⟩ = some (.int .i64 on) ∧ W.cell? ⟨A, 13, none⟩ = some (.slice (some ⟨T, 0, none⟩) L L) ∧ W.cell? ⟨T, oa, none⟩ = some (.int .u32 (v oa)) ∧ (W.cell? ⟨h1, 0, none⟩).isSome = true ∧ W.frozen? ⟨h1, 0, none⟩ = false ∧ (W.cell? ⟨h1, 1, none⟩).isSome = true ∧ W.frozen? ⟨h1, 1, none⟩ = false ∧ (W.cell? ⟨h1, 2, none⟩).isSome = true ∧ W.frozen? ⟨h1, 2, none⟩ = false ∧ (W.cell? ⟨h1, 3, none⟩).isSome = true ∧ W.frozen? ⟨h1, 3, none⟩ = false :=
  ⟨hX.c0, hX.c1, hX.c2, hX.c3, hO.c0, hO.c1, hO.c2, hO.c3, hO.c4, hO.c5, hO.c6, hN.t, hN.v oa ha, (congrArg Option.isSome hR.c0).trans rfl, hR.z 0, (congrArg Option.isSome hR.c1).trans rfl, hR.z 1, (congrArg Option.isSome hR.c2).trans rfl, hR.z 2, (congrArg Option.isSome hR.c3).trans rfl, hR.z 3⟩
theorem s12k {h h1 hx oa : Nat} {k ow oa' ob oc kn on ek ex ep en q0 q1 q2 q3 : Int} {W : World} (hX : XB4 hx ek ex ep en W) (hO : OB h k ow oa' ob oc kn on W) (hN : Rn A T p L c v W) (hR : XB4 h1 q0 q1 q2 q3 W) (ha : oa < L) (n1 : ¬ hx = h1) (n2 : ¬ h = h1) (n3 : ¬ A = h1) (n4 : ¬ T = h1) (z0 z1 z2 z3 : Int) :
    ((((W.setCell ⟨h1, 0, none⟩ (.int .i64 z0)).setCell ⟨h1, 1, none⟩ (.int .u32 z1)).setCell ⟨h1, 2, none⟩ (.int .u32 z2)).setCell ⟨h1, 3, none⟩ (.int .i64 z3)).cell? ⟨hx, 0, none⟩ = some (.int .i64 ek) ∧ ((((W.setCell ⟨h1, 0, none⟩ (.int .i64 z0)).setCell ⟨h1, 1, none⟩ (.int .u32 z1)).setCell ⟨h1, 2, none⟩ (.int .u32 z2)).setCell ⟨h1, 3, none⟩ (.int .i64 z3)).cell? ⟨hx, 1, none⟩ = some (.int .u32 ex) ∧ ((((W.setCell ⟨h1, 0, none⟩ (.int .i64 z0)).setCell ⟨h1, 1, none⟩ (.int .u32 z1)).setCell ⟨h1, 2, none⟩ (.int .u32 z2)).setCell ⟨h1, 3, none⟩ (.int .i64 z3)).cell? ⟨hx, 2, none⟩ = some (.int .u32 ep) ∧ ((((W.setCell ⟨h1, 0, none⟩ (.int .i64 z0)).setCell ⟨h1, 1, none⟩ (.int .u32 z1)).setCell ⟨h1, 2, none⟩ (.int .u32 z2)).setCell ⟨h1, 3, none⟩ (.int .i64 z3)).cell? ⟨hx, 3, none⟩ = some (.int .i64 en) ∧ ((((W.setCell ⟨h1, 0, none⟩ (.int .i64 z0)).setCell ⟨h1, 1, none⟩ (.int .u32 z1)).setCell ⟨h1, 2, none⟩ (.int .u32 z2)).setCell ⟨h1, 3, none⟩ (.int .i64 z3)).cell? ⟨h, 0, none⟩ = some (.int .i64 k) ∧ ((((W.setCell ⟨h1, 0, none⟩ (.int .i64 z0)).setCell ⟨h1, 1, none⟩ (.int .u32 z1)).setCell ⟨h1, 2, none⟩ (.int .u32 z2)).setCell ⟨h1, 3, none⟩ (.int .i64 z3)).cell? ⟨h, 1, none⟩ = some (.int .i64 ow) ∧ ((((W.setCell ⟨h1, 0, none⟩ (.int .i64 z0)).setCell ⟨h1, 1, none⟩ (.int .u32 z1)).setCell ⟨h1, 2, none⟩ (.int .u32 z2)).setCell ⟨h1, 3, none⟩ (.int .i64 z3)).cell? ⟨h, 2, none⟩ = some (.int .i64 oa') ∧ ((((W.setCell ⟨h1, 0, none⟩ (.int .i64 z0)).setCell ⟨h1, 1, none⟩ (.int .u32 z1)).setCell ⟨h1, 2, none⟩ (.int .u32 z2)).setCell ⟨h1, 3, none⟩ (.int .i64 z3)).cell? ⟨h, 3, none⟩ = some (.int .i64 ob) ∧ ((((W.setCell ⟨h1, 0, none⟩ (.int .i64 z0)).setCell ⟨h1, 1, none⟩ (.int .u32 z1)).setCell ⟨h1, 2, none⟩ (.int .u32 z2)).setCell ⟨h1, 3, none⟩ (.int .i64 z3)).cell? ⟨h, 4, none⟩ = some (.int .i64 oc) ∧ ((((W.setCell ⟨h1, 0, none⟩ (.int .i64 z0)).setCell ⟨h1, 1, none⟩ (.int .u32 z1)).setCell ⟨h1, 2, none⟩ (.int .u32 z2)).setCell ⟨h1, 3, none⟩ (.int .i64 z3)).cell? ⟨h, 5, none⟩ = some (.int .u32 kn) ∧ ((((W.setCell ⟨h1, 0, none⟩ (.int .i64 z0)).setCell ⟨h1, 1, none⟩ (.int .u32 z1)).setCell ⟨h1, 2, none⟩ (.int .u32 z2)).setCell ⟨h1, 3, none⟩ (.int .i64 z3)).cell? ⟨h, 6, none⟩ = some (.int .i64 on) ∧ ((((W.setCell ⟨h1, 0, none⟩ (.int .i64 z0)).setCell ⟨h1, 1, none⟩ (.int .u32 z1)).setCell ⟨h1, 2, none⟩ (.int .u32 z2)).setCell ⟨h1, 3, none⟩ (.int .i64 z3)).cell? ⟨A, 13, none⟩ = some (.slice (some ⟨T, 0, none⟩) L L) ∧ ((((W.setCell ⟨h1, 0, none⟩ (.int .i64 z0)).setCell ⟨h1, 1, none⟩ (.int .u32 z1)).setCell ⟨h1, 2, none⟩ (.int .u32 z2)).setCell ⟨h1, 3, none⟩ (.int .i64 z3)).cell? ⟨T, oa, none⟩ = some (.int .u32 (v oa)) ∧ (((((W.setCell ⟨h1, 0, none⟩ (.int .i64 z0)).setCell ⟨h1, 1, none⟩ (.int .u32 z1)).setCell ⟨h1, 2, none⟩ (.int .u32 z2)).setCell ⟨h1, 3, none⟩ (.int .i64 z3)).cell? ⟨h1, 0, none⟩).isSome = true ∧ ((((W.setCell ⟨h1, 0, none⟩ (.int .i64 z0)).setCell ⟨h1, 1, none⟩ (.int .u32 z1)).setCell ⟨h1, 2, none⟩ (.int .u32 z2)).setCell ⟨h1, 3, none⟩ (.int .i64 z3)).frozen? ⟨h1, 0, none⟩ = false ∧ (((((W.setCell ⟨h1, 0, none⟩ (.int .i64 z0)).setCell ⟨h1, 1, none⟩ (.int .u32 z1)).setCell ⟨h1, 2, none⟩ (.int .u32 z2)).setCell ⟨h1, 3, none⟩ (.int .i64 z3)).cell? ⟨h1, 1, none⟩).isSome = true ∧ ((((W.setCell ⟨h1, 0, none⟩ (.int .i64 z0)).setCell ⟨h1, 1, none⟩ (.int .u32 z1)).setCell ⟨h1, 2, none⟩ (.int .u32 z2)).setCell ⟨h1, 3, none⟩ (.int .i64 z3)).frozen? ⟨h1, 1, none⟩ = false ∧ (((((W.setCell ⟨h1, 0, none⟩ (.int .i64 z0)).setCell ⟨h1, 1, none⟩ (.int .u32 z1)).setCell ⟨h1, 2, none⟩ (.int .u32 z2)).setCell ⟨h1, 3, none⟩ (.int .i64 z3)).cell? ⟨h1, 2, none⟩).isSome = true ∧ ((((W.setCell ⟨h1, 0, none⟩ (.int .i64 z0)).setCell ⟨h1, 1, none⟩ (.int .u32 z1)).setCell ⟨h1, 2, none⟩ (.int .u32 z2)).setCell ⟨h1, 3, none⟩ (.int .i64 z3)).frozen? ⟨h1, 2, none⟩ = false ∧ (((((W.setCell ⟨h1, 0, none⟩ (.int .i64 z0)).setCell ⟨h1, 1, none⟩ (.int .u32 z1)).setCell ⟨h1, 2, none⟩ (.int .u32 z2)).setCell ⟨h1, 3, none⟩ (.int .i64 z3)).cell? ⟨h1, 3, none⟩).isSome = true ∧ ((((W.setCell ⟨h1, 0, none⟩ (.int .i64 z0)).setCell ⟨h1, 1, none⟩ (.int .u32 z1)).setCell ⟨h1, 2, none⟩ (.int .u32 z2)).setCell ⟨h1, 3, none⟩ (.int .i64 z3)).frozen? ⟨h1, 3, none⟩ = false :=
  have u := ((((Upto.refl (fun i => i = h1) W).setCell (q := ⟨h1, 0, none⟩) (.inl rfl) (.int .i64 z0)).setCell (q := ⟨h1, 1, none⟩) (.inl rfl) (.int .u32 z1)).setCell (q := ⟨h1, 2, none⟩) (.inl rfl) (.int .u32 z2)).setCell (q := ⟨h1, 3, none⟩) (.inl rfl) (.int .i64 z3)
  s12 (hX.upto u n1) (hO.upto u n2) (hN.upto u n3 n4) (hR.set z0 z1 z2 z3) ha
theorem s11 {h h1 hx oa : Nat} {k ow oa' ob oc kn on ek ex ep en q0 q1 q2 q3 : Int} {W : World} (hX : XB4 hx ek ex ep en W) (hO : OB h k ow oa' ob oc kn on W) (hN : Rn A T p L c v W) (hR : XB4 h1 q0 q1 q2 q3 W) (ha : oa < L) :
    W.cell? ⟨hx, 0, none⟩ = some (.int .i64 ek) ∧ W.cell? ⟨hx, 1, none⟩ = some (.int .u32 ex) ∧ W.cell? ⟨hx, 2, none⟩ = some (.int .u32 ep) ∧ W.cell? ⟨hx, 3, none⟩ = some (.int .i64 en) ∧ W.cell? ⟨h, 0, none⟩ = some (.int .i64 k) ∧ W.cell? ⟨h, 1, none⟩ = some (.int .i64 ow) ∧ W.cell? ⟨h, 2, none⟩ = some (.int .i64 oa') ∧ W.cell? ⟨h, 3, none⟩ = some (.int .i64 ob) ∧ W.cell? ⟨h, 4, none⟩ = some (.int .i64 oc) ∧ W.cell? ⟨h, 5, none⟩ = some (.int .u32 kn) ∧ W.cell? ⟨h, 6, none⟩ = some (.int .i64 on) ∧ W.cell? ⟨A, 0, none⟩ = some (.pointer (some ⟨p, 0, none⟩)) ∧ (W.cell? ⟨h1, 0, none⟩).isSome = true ∧ W.frozen? ⟨h1, 0, none⟩ = false ∧ (W.cell? ⟨h1, 1, none⟩).isSome = true ∧ W.frozen? ⟨h1, 1, none⟩ = false ∧ (W.cell? ⟨h1, 2, none⟩).isSome = true ∧ W.frozen? ⟨h1, 2, none⟩ = false ∧ (W.cell? ⟨h1, 3, none⟩).isSome = true ∧ W.frozen? ⟨h1, 3, none⟩ = false :=
  ⟨hX.c0, hX.c1, hX.c2, hX.c3, hO.c0, hO.c1, hO.c2, hO.c3, hO.c4, hO.c5, hO.c6, hN.m, (congrArg Option.isSome hR.c0).trans rfl, hR.z 0, (congrArg Option.isSome hR.c1).trans rfl, hR.z 1, (congrArg Option.isSome hR.c2).trans rfl, hR.z 2, (congrArg Option.isSome hR.c3).trans rfl, hR.z 3⟩
theorem s11k {h h1 hx oa : Nat} {k ow oa' ob oc kn on ek ex ep en q0 q1 q2 q3 : Int} {W : World} (hX : XB4 hx ek ex ep en W) (hO : OB h k ow oa' ob oc kn on W) (hN : Rn A T p L c v W) (hR : XB4 h1 q0 q1 q2 q3 W) (ha : oa < L) (n1 : ¬ hx = h1) (n2 : ¬ h = h1) (n3 : ¬ A = h1) (n4 : ¬ T = h1) (z0 z1 z2 z3 : Int) :
    ((((W.setCell ⟨h1, 0, none⟩ (.int .i64 z0)).setCell ⟨h1, 1, none⟩ (.int .u32 z1)).setCell ⟨h1, 2, none⟩ (.int .u32 z2)).setCell ⟨h1, 3, none⟩ (.int .i64 z3)).cell? ⟨hx, 0, none⟩ = some (.int .i64 ek) ∧ ((((W.setCell ⟨h1, 0, none⟩ (.int .i64 z0)).setCell ⟨h1, 1, none⟩ (.int .u32 z1)).setCell ⟨h1, 2, none⟩ (.int .u32 z2)).setCell ⟨h1, 3, none⟩ (.int .i64 z3)).cell? ⟨hx, 1, none⟩ = some (.int .u32 ex) ∧ ((((W.setCell ⟨h1, 0, none⟩ (.int .i64 z0)).setCell ⟨h1, 1, none⟩ (.int .u32 z1)).setCell ⟨h1, 2, none⟩ (.int .u32 z2)).setCell ⟨h1, 3, none⟩ (.int .i64 z3)).cell? ⟨hx, 2, none⟩ = some (.int .u32 ep) ∧ ((((W.setCell ⟨h1, 0, none⟩ (.int .i64 z0)).setCell ⟨h1, 1, none⟩ (.int .u32 z1)).setCell ⟨h1, 2, none⟩ (.int .u32 z2)).setCell ⟨h1, 3, none⟩ (.int .i64 z3)).cell? ⟨hx, 3, none⟩ = some (.int .i64 en) ∧ ((((W.setCell ⟨h1, 0, none⟩ (.int .i64 z0)).setCell ⟨h1, 1, none⟩ (.int .u32 z1)).setCell ⟨h1, 2, none⟩ (.int .u32 z2)).setCell ⟨h1, 3, none⟩ (.int .i64 z3)).cell? ⟨h, 0, none⟩ = some (.int .i64 k) ∧ ((((W.setCell ⟨h1, 0, none⟩ (.int .i64 z0)).setCell ⟨h1, 1, none⟩ (.int .u32 z1)).setCell ⟨h1, 2, none⟩ (.int .u32 z2)).setCell ⟨h1, 3, none⟩ (.int .i64 z3)).cell? ⟨h, 1, none⟩ = some (.int .i64 ow) ∧ ((((W.setCell ⟨h1, 0, none⟩ (.int .i64 z0)).setCell ⟨h1, 1, none⟩ (.int .u32 z1)).setCell ⟨h1, 2, none⟩ (.int .u32 z2)).setCell ⟨h1, 3, none⟩ (.int .i64 z3)).cell? ⟨h, 2, none⟩ = some (.int .i64 oa') ∧ ((((W.setCell ⟨h1, 0, none⟩ (.int .i64 z0)).setCell ⟨h1, 1, none⟩ (.int .u32 z1)).setCell ⟨h1, 2, none⟩ (.int .u32 z2)).setCell ⟨h1, 3, none⟩ (.int .i64 z3)).cell? ⟨h, 3, none⟩ = some (.int .i64 ob) ∧ ((((W.setCell ⟨h1, 0, none⟩ (.int .i64 z0)).setCell ⟨h1, 1, none⟩ (.int .u32 z1)).setCell ⟨h1, 2, none⟩ (.int .u32 z2)).setCell ⟨h1, 3, none⟩ (.int .i64 z3)).cell? ⟨h, 4, none⟩ = some (.int .i64 oc) ∧ ((((W.setCell ⟨h1, 0, none⟩ (.int .i64 z0)).setCell ⟨h1, 1, none⟩ (.int .u32 z1)).setCell ⟨h1, 2, none⟩ (.int .u32 z2)).setCell ⟨h1, 3, none⟩ (.int .i64 z3)).cell? ⟨h, 5, none⟩ = some (.int .u32 kn) ∧ ((((W.setCell ⟨h1, 0, none⟩ (.int .i64 z0)).setCell ⟨h1, 1, none⟩ (.int .u32 z1)).setCell ⟨h1, 2, none⟩ (.int .u32 z2)).setCell ⟨h1, 3, none⟩ (.int .i64 z3)).cell? ⟨h, 6, none⟩ = some (.int .i64 on) ∧ ((((W.setCell ⟨h1, 0, none⟩ (.int .i64 z0)).setCell ⟨h1, 1, none⟩ (.int .u32 z1)).setCell ⟨h1, 2, none⟩ (.int .u32 z2)).setCell ⟨h1, 3, none⟩ (.int .i64 z3)).cell? ⟨A, 0, none⟩ = some (.pointer (some ⟨p, 0, none⟩)) ∧ (((((W.setCell ⟨h1, 0, none⟩ (.int .i64 z0)).setCell ⟨h1, 1, none⟩ (.int .u32 z1)).setCell ⟨h1, 2, none⟩ (.int .u32 z2)).setCell ⟨h1, 3, none⟩ (.int .i64 z3)).cell? ⟨h1, 0, none⟩).isSome = true ∧ ((((W.setCell ⟨h1, 0, none⟩ (.int .i64 z0)).setCell ⟨h1, 1, none⟩ (.int .u32 z1)).setCell ⟨h1, 2, none⟩ (.int .u32 z2)).setCell ⟨h1, 3, none⟩ (.int .i64 z3)).frozen? ⟨h1, 0, none⟩ = false ∧ (((((W.setCell ⟨h1, 0, none⟩ (.int .i64 z0)).setCell ⟨h1, 1, none⟩ (.int .u32 z1)).setCell ⟨h1, 2, none⟩ (.int .u32 z2)).setCell ⟨h1, 3, none⟩ (.int .i64 z3)).cell? ⟨h1, 1, none⟩).isSome = true ∧ ((((W.setCell ⟨h1, 0, none⟩ (.int .i64 z0)).setCell ⟨h1, 1, none⟩ (.int .u32 z1)).setCell ⟨h1, 2, none⟩ (.int .u32 z2)).setCell ⟨h1, 3, none⟩ (.int .i64 z3)).frozen? ⟨h1, 1, none⟩ = false ∧ (((((W.setCell ⟨h1, 0, none⟩ (.int .i64 z0)).setCell ⟨h1, 1, none⟩ (.int .u32 z1)).setCell ⟨h1, 2, none⟩ (.int .u32 z2)).setCell ⟨h1, 3, none⟩ (.int .i64 z3)).cell? ⟨h1, 2, none⟩).isSome = true ∧ ((((W.setCell ⟨h1, 0, none⟩ (.int .i64 z0)).setCell ⟨h1, 1, none⟩ (.int .u32 z1)).setCell ⟨h1, 2, none⟩ (.int .u32 z2)).setCell ⟨h1, 3, none⟩ (.int .i64 z3)).frozen? ⟨h1, 2, none⟩ = false ∧ (((((W.setCell ⟨h1, 0, none⟩ (.int .i64 z0)).setCell ⟨h1, 1, none⟩ (.int .u32 z1)).setCell ⟨h1, 2, none⟩ (.int .u32 z2)).setCell ⟨h1, 3, none⟩ (.int .i64 z3)).cell? ⟨h1, 3, none⟩).isSome = true ∧ ((((W.setCell ⟨h1, 0, none⟩ (.int .i64 z0)).setCell ⟨h1, 1, none⟩ (.int .u32 z1)).setCell ⟨h1, 2, none⟩ (.int .u32 z2)).setCell ⟨h1, 3, none⟩ (.int .i64 z3)).frozen? ⟨h1, 3, none⟩ = false :=
  have u := ((((Upto.refl (fun i => i = h1) W).setCell (q := ⟨h1, 0, none⟩) (.inl rfl) (.int .i64 z0)).setCell (q := ⟨h1, 1, none⟩) (.inl rfl) (.int .u32 z1)).setCell (q := ⟨h1, 2, none⟩) (.inl rfl) (.int .u32 z2)).setCell (q := ⟨h1, 3, none⟩) (.inl rfl) (.int .i64 z3)
  s11 (hX.upto u n1) (hO.upto u n2) (hN.upto u n3 n4) (hR.set z0 z1 z2 z3) ha
theorem s10 {h hx oa ob : Nat} {k ow oc kn on q0 q1 q2 q3 : Int} {W : World} (hX : XB4 hx q0 q1 q2 q3 W) (hO : OB h k ow oa ob oc kn on W) (hN : Rn A T p L c v W) (ha : oa < L) (hb : ob < L) :
    W.cell? ⟨A, 0, none⟩ = some (.pointer (some ⟨p, 0, none⟩)) ∧ W.cell? ⟨h, 1, none⟩ = some (.int .i64 ow) ∧ W.cell? ⟨h, 2, none⟩ = some (.int .i64 (oa : Int)) ∧ W.cell? ⟨h, 3, none⟩ = some (.int .i64 (ob : Int)) ∧ W.cell? ⟨A, 13, none⟩ = some (.slice (some ⟨T, 0, none⟩) L L) ∧ W.cell? ⟨T, oa, none⟩ = some (.int .u32 (v oa)) ∧ W.cell? ⟨T, ob, none⟩ = some (.int .u32 (v ob)) ∧ (W.cell? ⟨hx, 0, none⟩).isSome = true ∧ W.frozen? ⟨hx, 0, none⟩ = false ∧ (W.cell? ⟨hx, 1, none⟩).isSome = true ∧ W.frozen? ⟨hx, 1, none⟩ = false :=
  ⟨hN.m, hO.c1, hO.c2, hO.c3, hN.t, hN.v oa ha, hN.v ob hb, (congrArg Option.isSome hX.c0).trans rfl, hX.z 0, (congrArg Option.isSome hX.c1).trans rfl, hX.z 1⟩
theorem XB4.set2 {h : Nat} {ek ex ep en : Int} {W : World} (a : XB4 h ek ex ep en W) (k x : Int) : XB4 h k x ep en ((W.setCell ⟨h, 0, none⟩ (.int .i64 k)).setCell ⟨h, 1, none⟩ (.int .u32 x)) :=
  ⟨(off (by omega)).trans (World.cell?_setCell_same _ _ _ a.c0), World.cell?_setCell_same _ _ _ ((off (by omega)).trans a.c1), (off (by omega)).trans ((off (by omega)).trans a.c2), (off (by omega)).trans ((off (by omega)).trans a.c3), fun j => by simpa using a.z j, by simpa using a.l⟩
theorem s10k {h hx oa ob : Nat} {k ow oc kn on q0 q1 q2 q3 : Int} {W : World} (hX : XB4 hx q0 q1 q2 q3 W) (hO : OB h k ow oa ob oc kn on W) (hN : Rn A T p L c v W) (ha : oa < L) (hb : ob < L) (n1 : ¬ h = hx) (n2 : ¬ A = hx) (n3 : ¬ T = hx) (z0 z1 : Int) :
    ((W.setCell ⟨hx, 0, none⟩ (.int .i64 z0)).setCell ⟨hx, 1, none⟩ (.int .u32 z1)).cell? ⟨A, 0, none⟩ = some (.pointer (some ⟨p, 0, none⟩)) ∧ ((W.setCell ⟨hx, 0, none⟩ (.int .i64 z0)).setCell ⟨hx, 1, none⟩ (.int .u32 z1)).cell? ⟨h, 1, none⟩ = some (.int .i64 ow) ∧ ((W.setCell ⟨hx, 0, none⟩ (.int .i64 z0)).setCell ⟨hx, 1, none⟩ (.int .u32 z1)).cell? ⟨h, 2, none⟩ = some (.int .i64 (oa : Int)) ∧ ((W.setCell ⟨hx, 0, none⟩ (.int .i64 z0)).setCell ⟨hx, 1, none⟩ (.int .u32 z1)).cell? ⟨h, 3, none⟩ = some (.int .i64 (ob : Int)) ∧ ((W.setCell ⟨hx, 0, none⟩ (.int .i64 z0)).setCell ⟨hx, 1, none⟩ (.int .u32 z1)).cell? ⟨A, 13, none⟩ = some (.slice (some ⟨T, 0, none⟩) L L) ∧ ((W.setCell ⟨hx, 0, none⟩ (.int .i64 z0)).setCell ⟨hx, 1, none⟩ (.int .u32 z1)).cell? ⟨T, oa, none⟩ = some (.int .u32 (v oa)) ∧ ((W.setCell ⟨hx, 0, none⟩ (.int .i64 z0)).setCell ⟨hx, 1, none⟩ (.int .u32 z1)).cell? ⟨T, ob, none⟩ = some (.int .u32 (v ob)) ∧ (((W.setCell ⟨hx, 0, none⟩ (.int .i64 z0)).setCell ⟨hx, 1, none⟩ (.int .u32 z1)).cell? ⟨hx, 0, none⟩).isSome = true ∧ ((W.setCell ⟨hx, 0, none⟩ (.int .i64 z0)).setCell ⟨hx, 1, none⟩ (.int .u32 z1)).frozen? ⟨hx, 0, none⟩ = false ∧ (((W.setCell ⟨hx, 0, none⟩ (.int .i64 z0)).setCell ⟨hx, 1, none⟩ (.int .u32 z1)).cell? ⟨hx, 1, none⟩).isSome = true ∧ ((W.setCell ⟨hx, 0, none⟩ (.int .i64 z0)).setCell ⟨hx, 1, none⟩ (.int .u32 z1)).frozen? ⟨hx, 1, none⟩ = false :=
  have u := ((Upto.refl (fun i => i = hx) W).setCell (q := ⟨hx, 0, none⟩) (.inl rfl) (.int .i64 z0)).setCell (q := ⟨hx, 1, none⟩) (.inl rfl) (.int .u32 z1)
  s10 (hX.set2 z0 z1) (hO.upto u n1) (hN.upto u n2 n3) ha hb
theorem s9 {h oa : Nat} {k ow ob oc kn on : Int} {W : World} (hO : OB h k ow oa ob oc kn on W) (hN : Rn A T p L c v W) (ha : oa < L) :
    W.cell? ⟨A, 0, none⟩ = some (.pointer (some ⟨p, 0, none⟩)) ∧ W.cell? ⟨h, 1, none⟩ = some (.int .i64 ow) ∧ W.cell? ⟨h, 2, none⟩ = some (.int .i64 (oa : Int)) ∧ W.cell? ⟨A, 13, none⟩ = some (.slice (some ⟨T, 0, none⟩) L L) ∧ W.cell? ⟨T, oa, none⟩ = some (.int .u32 (v oa)) :=
  ⟨hN.m, hO.c1, hO.c2, hN.t, hN.v oa ha⟩
theorem s9k {h hx oa : Nat} {k ow ob oc kn on : Int} {W : World} (hO : OB h k ow oa ob oc kn on W) (hN : Rn A T p L c v W) (ha : oa < L) (n1 : ¬ h = hx) (n2 : ¬ A = hx) (n3 : ¬ T = hx) (z0 z1 : Int) :
    ((W.setCell ⟨hx, 0, none⟩ (.int .i64 z0)).setCell ⟨hx, 1, none⟩ (.int .u32 z1)).cell? ⟨A, 0, none⟩ = some (.pointer (some ⟨p, 0, none⟩)) ∧ ((W.setCell ⟨hx, 0, none⟩ (.int .i64 z0)).setCell ⟨hx, 1, none⟩ (.int .u32 z1)).cell? ⟨h, 1, none⟩ = some (.int .i64 ow) ∧ ((W.setCell ⟨hx, 0, none⟩ (.int .i64 z0)).setCell ⟨hx, 1, none⟩ (.int .u32 z1)).cell? ⟨h, 2, none⟩ = some (.int .i64 (oa : Int)) ∧ ((W.setCell ⟨hx, 0, none⟩ (.int .i64 z0)).setCell ⟨hx, 1, none⟩ (.int .u32 z1)).cell? ⟨A, 13, none⟩ = some (.slice (some ⟨T, 0, none⟩) L L) ∧ ((W.setCell ⟨hx, 0, none⟩ (.int .i64 z0)).setCell ⟨hx, 1, none⟩ (.int .u32 z1)).cell? ⟨T, oa, none⟩ = some (.int .u32 (v oa)) :=
  have u := ((Upto.refl (fun i => i = hx) W).setCell (q := ⟨hx, 0, none⟩) (.inl rfl) (.int .i64 z0)).setCell (q := ⟨hx, 1, none⟩) (.inl rfl) (.int .u32 z1)
  s9 (hO.upto u n1) (hN.upto u n2 n3) ha
theorem s9a {h oa : Nat} {k ow ob oc kn on : Int} {W : World} (hO : OB h k ow oa ob oc kn on W) (hN : Rn A T p L c v W) (ha : oa < L) (o : Obj) :
    (W.alloc o).cell? ⟨A, 0, none⟩ = some (.pointer (some ⟨p, 0, none⟩)) ∧ (W.alloc o).cell? ⟨h, 1, none⟩ = some (.int .i64 ow) ∧ (W.alloc o).cell? ⟨h, 2, none⟩ = some (.int .i64 (oa : Int)) ∧ (W.alloc o).cell? ⟨A, 13, none⟩ = some (.slice (some ⟨T, 0, none⟩) L L) ∧ (W.alloc o).cell? ⟨T, oa, none⟩ = some (.int .u32 (v oa)) :=
  s9 (hO.upto ((Upto.refl (fun _ => False) W).alloc o) id) (hN.upto ((Upto.refl (fun _ => False) W).alloc o) id id) ha
set_option maxRecDepth 100000 in
set_option maxHeartbeats 16000000 in
theorem do_15 (i oa ob oc : Nat) (ow kn on : Int) (M : MM) (w : World) (h : Rn A T p L c v w) (hm : HC p M w) (hM : MOk M) (hpA : p ≠ A) (hpT : p ≠ T) (hi : i < L) (ha : oa < L) (hb : ob < L) (hc : oc < L) (hL : L < 9223372036854775808) (k0 : 0 ≤ kn) (k1 : kn < 4294967296) (hC : ∀ j, 0 ≤ c j ∧ c j < 4294967296) (hV : ∀ j, 0 ≤ v j ∧ v j < 4294967296) :
    Calls Try.prog 68 #[.pointer (some ⟨A, 0, none⟩), .int .i64 i, .agg #[.int .i64 15, .int .i64 ow, .int .i64 oa, .int .i64 ob, .int .i64 oc, .int .u32 kn, .int .i64 on]] w fun e w' => e = .returned (.tuple #[.agg #[.int .i64 0, .int .u32 0, .int .u32 kn, .int .i64 on], .bool (true)]) ∧ Rn A T p L c v w' ∧ HC p M w' ∧ Upto (RSM A T p) w w' := by
  have lA0 := h.la
  have lT0 := h.lt
  have lp0 : p < w.heap.size := hm.2.2.2.2.2.2
  have hne := h.ne
  have CO := Lib.hid (fun ek ex ep en k ow oa ob oc kn on left w => out_any ek ex ep en k ow oa ob oc kn on left w)
  obtain ⟨ob', xr, xx, zo, u0⟩ := do_new w 15 ow oa ob oc kn on
  have h1 := h.upto u0 id id
  have m1 := hm.upto u0 id
  have U0 := Lib.hid (u0.mono (T := RSM A T p) fun _ _ h => h.elim)
  have HV := Lib.hid hV
  clear h hm u0 hV hC
  go_enter Try.func68, Try.ntmps68
  go_upto_region 2 with fail
  generalize ((w.alloc (.cells #[.int .i64 15, .int .i64 ow, .int .i64 oa, .int .i64 ob, .int .i64 oc, .int .u32 kn, .int .i64 on] 31)).alloc (.cells #[.int .i64 0, .int .u32 0, .int .u32 0, .int .i64 0] 48)).alloc (.cells #[.int .i64 0, .int .u32 0, .int .u32 0, .int .i64 0] 48) = WA at ob' xr xx zo h1 m1 U0 ⊢
  have HA := Lib.hid h1
  have HM := Lib.hid m1
  have HB := Lib.hid ob'
  have HR := Lib.hid xr
  have HX := Lib.hid xx
  have ZO := Lib.hid zo
  clear h1 m1 ob' xr xx zo
  have b0 := HB.out.c0
  have b1 := HB.out.c1
  have b2 := HB.out.c2
  have b3 := HB.out.c3
  have b4 := HB.out.c4
  have b5 := HB.out.c5
  have b6 := HB.out.c6
  have x0 := HX.out.c0
  have r0 := HR.out.c0
  have zr0 := HR.out.z 0
  have x1 := HX.out.c1
  have r1 := HR.out.c1
  have zr1 := HR.out.z 1
  have x2 := HX.out.c2
  have r2 := HR.out.c2
  have zr2 := HR.out.z 2
  have x3 := HX.out.c3
  have r3 := HR.out.c3
  have zr3 := HR.out.z 3
  have lX := HX.out.l
  have lR := HR.out.l
  go_wp2_with (go_at_call 114; (with_reducible refine (CO.out _ _ _ _ _ _ _ _ _ _ _ _ _).mono ?_); rintro e w3 ⟨rfl, hb3⟩; have ub := Upto.of_below (S := fun _ => False) hb3; have R3 := Lib.hid (show XB4 (w.heap.size + 1) 0 0 0 0 w3 from by first | exact HR.out.upto ub id | exact (HR.out.upto (Upto.refl (fun _ => False) _).drew id).upto ub id); have N3 := Lib.hid (show Rn A T p L c v w3 from by first | exact HA.out.upto ub id id | exact HA.out.drew.upto ub id id); have M3 := Lib.hid (show HC p M w3 from by first | exact HM.out.upto ub id | exact (HM.out.upto (Upto.refl (fun _ => False) _).drew id).upto ub id); have U3 := Lib.hid (show Upto (RSM A T p) w w3 from by first | exact U0.out.trans (ub.mono fun _ _ h => h.elim) | exact U0.out.drew.trans (ub.mono fun _ _ h => h.elim)); have r0 := R3.out.c0; have r1 := R3.out.c1; have r2 := R3.out.c2; have r3 := R3.out.c3; have zr0 := R3.out.z 0; have zr1 := R3.out.z 1; have zr2 := R3.out.z 2; have zr3 := R3.out.z 3; have lR3 := R3.out.l; clear hb3 ub)
  have xs := R3.out.set 0 0 kn on
  have vs := (((((Upto.refl (fun i => i = w.heap.size + 1) w3).setCell (q := ⟨w.heap.size + 1, 0, none⟩) (.inl rfl) (.int .i64 0)).setCell (q := ⟨w.heap.size + 1, 1, none⟩) (.inl rfl) (.int .u32 0)).setCell (q := ⟨w.heap.size + 1, 2, none⟩) (.inl rfl) (.int .u32 kn)).setCell (q := ⟨w.heap.size + 1, 3, none⟩) (.inl rfl) (.int .i64 on))
  have ns := N3.out.upto vs (by omega) (by omega)
  have ms := M3.out.upto vs (by omega)
  have us := ((((U3.out.setCell (q := ⟨w.heap.size + 1, 0, none⟩) (.inr (Nat.le_succ _)) (.int .i64 0)).setCell (q := ⟨w.heap.size + 1, 1, none⟩) (.inr (Nat.le_succ _)) (.int .u32 0)).setCell (q := ⟨w.heap.size + 1, 2, none⟩) (.inr (Nat.le_succ _)) (.int .u32 kn)).setCell (q := ⟨w.heap.size + 1, 3, none⟩) (.inr (Nat.le_succ _)) (.int .i64 on))
  clear r0 r1 r2 r3 zr0 zr1 zr2 zr3 vs
  have g0 := xs.c0
  have g1 := xs.c1
  have g2 := xs.c2
  have g3 := xs.c3
  generalize ((((w3.setCell ⟨w.heap.size + 1, 0, none⟩ (.int .i64 0)).setCell ⟨w.heap.size + 1, 1, none⟩ (.int .u32 0)).setCell ⟨w.heap.size + 1, 2, none⟩ (.int .u32 kn)).setCell ⟨w.heap.size + 1, 3, none⟩ (.int .i64 on)) = W4 at xs ns ms us g0 g1 g2 g3 ⊢
  exact bodyPost_ret (v := .tuple #[.agg #[.int .i64 0, .int .u32 0, .int .u32 kn, .int .i64 on], .bool (true)]) (by simp [results, Try.results68, go_sem, g0, g1, g2, g3]) rfl ⟨rfl, ns, ms, us⟩
set_option maxRecDepth 100000 in
set_option maxHeartbeats 16000000 in
theorem do_14 (i oa oc : Nat) (ow ob kn on : Int) (M : MM) (w : World) (h : Rn A T p L c v w) (hm : HC p M w) (hM : MOk M) (hpA : p ≠ A) (hpT : p ≠ T) (hi : i < L) (ha : oa < L) (hc : oc < L) (hL : L < 9223372036854775808) (k0 : 0 ≤ kn) (k1 : kn < 4294967296) (hC : ∀ j, 0 ≤ c j ∧ c j < 4294967296) (hV : ∀ j, 0 ≤ v j ∧ v j < 4294967296) :
    Calls Try.prog 68 #[.pointer (some ⟨A, 0, none⟩), .int .i64 i, .agg #[.int .i64 14, .int .i64 ow, .int .i64 oa, .int .i64 ob, .int .i64 oc, .int .u32 kn, .int .i64 on]] w fun e w' => e = .returned (.tuple #[.agg #[.int .i64 ow, .int .u32 (ob % 4294967296), .int .u32 kn, .int .i64 on], .bool (true)]) ∧ Rn A T p L c v w' ∧ HC p M w' ∧ Upto (RSM A T p) w w' := by
  have lA0 := h.la
  have lT0 := h.lt
  have lp0 : p < w.heap.size := hm.2.2.2.2.2.2
  have hne := h.ne
  have CO := Lib.hid (fun ek ex ep en k ow oa ob oc kn on left w => out_any ek ex ep en k ow oa ob oc kn on left w)
  obtain ⟨ob', xr, xx, zo, u0⟩ := do_new w 14 ow oa ob oc kn on
  have h1 := h.upto u0 id id
  have m1 := hm.upto u0 id
  have U0 := Lib.hid (u0.mono (T := RSM A T p) fun _ _ h => h.elim)
  have HV := Lib.hid hV
  clear h hm u0 hV hC
  obtain ⟨bx, hbx⟩ : ∃ z, ob % 4294967296 = z := ⟨_, rfl⟩
  rw [hbx]
  go_enter Try.func68, Try.ntmps68
  go_upto_region 2 with fail
  generalize ((w.alloc (.cells #[.int .i64 14, .int .i64 ow, .int .i64 oa, .int .i64 ob, .int .i64 oc, .int .u32 kn, .int .i64 on] 31)).alloc (.cells #[.int .i64 0, .int .u32 0, .int .u32 0, .int .i64 0] 48)).alloc (.cells #[.int .i64 0, .int .u32 0, .int .u32 0, .int .i64 0] 48) = WA at ob' xr xx zo h1 m1 U0 ⊢
  have HA := Lib.hid h1
  have HM := Lib.hid m1
  have HB := Lib.hid ob'
  have HR := Lib.hid xr
  have HX := Lib.hid xx
  have ZO := Lib.hid zo
  clear h1 m1 ob' xr xx zo
  have b0 := HB.out.c0
  have b1 := HB.out.c1
  have b2 := HB.out.c2
  have b3 := HB.out.c3
  have b4 := HB.out.c4
  have b5 := HB.out.c5
  have b6 := HB.out.c6
  have x0 := HX.out.c0
  have r0 := HR.out.c0
  have zr0 := HR.out.z 0
  have x1 := HX.out.c1
  have r1 := HR.out.c1
  have zr1 := HR.out.z 1
  have x2 := HX.out.c2
  have r2 := HR.out.c2
  have zr2 := HR.out.z 2
  have x3 := HX.out.c3
  have r3 := HR.out.c3
  have zr3 := HR.out.z 3
  have lX := HX.out.l
  have lR := HR.out.l
  have xz0 := HX.out.z 0
  have xz1 := HX.out.z 1
  go_upto_region 20 with fail
  have vs := (((Upto.refl (fun i => i = w.heap.size + 1 + 1) WA).setCell (q := ⟨w.heap.size + 1 + 1, 0, none⟩) (.inl rfl) (.int .i64 ow)).setCell (q := ⟨w.heap.size + 1 + 1, 1, none⟩) (.inl rfl) (.int .u32 bx))
  have x0' := show ((WA.setCell ⟨w.heap.size + 1 + 1, 0, none⟩ (.int .i64 ow)).setCell ⟨w.heap.size + 1 + 1, 1, none⟩ (.int .u32 bx)).cell? ⟨w.heap.size + 1 + 1, 0, none⟩ = some (.int .i64 ow) from (off (by omega)).trans (World.cell?_setCell_same _ _ _ HX.out.c0)
  have x1' := show ((WA.setCell ⟨w.heap.size + 1 + 1, 0, none⟩ (.int .i64 ow)).setCell ⟨w.heap.size + 1 + 1, 1, none⟩ (.int .u32 bx)).cell? ⟨w.heap.size + 1 + 1, 1, none⟩ = some (.int .u32 bx) from World.cell?_setCell_same _ _ _ ((off (by omega)).trans HX.out.c1)
  have x2' := show ((WA.setCell ⟨w.heap.size + 1 + 1, 0, none⟩ (.int .i64 ow)).setCell ⟨w.heap.size + 1 + 1, 1, none⟩ (.int .u32 bx)).cell? ⟨w.heap.size + 1 + 1, 2, none⟩ = some (.int .u32 0) from (off (by omega)).trans ((off (by omega)).trans HX.out.c2)
  have x3' := show ((WA.setCell ⟨w.heap.size + 1 + 1, 0, none⟩ (.int .i64 ow)).setCell ⟨w.heap.size + 1 + 1, 1, none⟩ (.int .u32 bx)).cell? ⟨w.heap.size + 1 + 1, 3, none⟩ = some (.int .i64 0) from (off (by omega)).trans ((off (by omega)).trans HX.out.c3)
  have HA1 := HA.out.upto vs (by omega) (by omega)
  have HM1 := HM.out.upto vs (by omega)
  have HR1 := HR.out.upto vs (by omega)
  have HB1 := HB.out.upto vs (by omega)
  have HX1 : XB4 (w.heap.size + 1 + 1) ow bx 0 0 (((WA.setCell ⟨w.heap.size + 1 + 1, 0, none⟩ (.int .i64 ow)).setCell ⟨w.heap.size + 1 + 1, 1, none⟩ (.int .u32 bx))) := ⟨x0', x1', x2', x3', fun j => by simpa using HX.out.z j, by simpa using HX.out.l⟩
  have UU1 := ((U0.out.setCell (q := ⟨w.heap.size + 1 + 1, 0, none⟩) (.inr (Nat.le_trans (Nat.le_succ _) (Nat.le_succ _))) (.int .i64 ow)).setCell (q := ⟨w.heap.size + 1 + 1, 1, none⟩) (.inr (Nat.le_trans (Nat.le_succ _) (Nat.le_succ _))) (.int .u32 bx))
  clear b0 b1 b2 b3 b4 b5 b6 x0 x1 x2 x3 r0 r1 r2 r3 zr0 zr1 zr2 zr3 lX lR xz0 xz1
  generalize ((WA.setCell ⟨w.heap.size + 1 + 1, 0, none⟩ (.int .i64 ow)).setCell ⟨w.heap.size + 1 + 1, 1, none⟩ (.int .u32 bx)) = WB at vs x0' x1' x2' x3' HA1 HM1 HR1 HB1 HX1 UU1 ⊢
  clear vs
  have HA1 := Lib.hid HA1
  have HM1 := Lib.hid HM1
  have HR1 := Lib.hid HR1
  have U1 := Lib.hid UU1
  have b0 := HB1.c0
  have b1 := HB1.c1
  have b2 := HB1.c2
  have b3 := HB1.c3
  have b4 := HB1.c4
  have b5 := HB1.c5
  have b6 := HB1.c6
  have lB1 := HB1.l
  have lR1 := HR1.out.l
  have HB1 := Lib.hid HB1
  have HX1 := Lib.hid HX1
  clear UU1 HA HM HR HB HX U0
  go_wp2_with (go_at_call 114; (with_reducible refine (CO.out _ _ _ _ _ _ _ _ _ _ _ _ _).mono ?_); rintro e w3 ⟨rfl, hb3⟩; have ub := Upto.of_below (S := fun _ => False) hb3; have R3 := Lib.hid (show XB4 (w.heap.size + 1) 0 0 0 0 w3 from by first | exact HR1.out.upto ub id | exact (HR1.out.upto (Upto.refl (fun _ => False) _).drew id).upto ub id); have N3 := Lib.hid (show Rn A T p L c v w3 from by first | exact HA1.out.upto ub id id | exact HA1.out.drew.upto ub id id); have M3 := Lib.hid (show HC p M w3 from by first | exact HM1.out.upto ub id | exact (HM1.out.upto (Upto.refl (fun _ => False) _).drew id).upto ub id); have U3 := Lib.hid (show Upto (RSM A T p) w w3 from by first | exact U1.out.trans (ub.mono fun _ _ h => h.elim) | exact U1.out.drew.trans (ub.mono fun _ _ h => h.elim)); have r0 := R3.out.c0; have r1 := R3.out.c1; have r2 := R3.out.c2; have r3 := R3.out.c3; have zr0 := R3.out.z 0; have zr1 := R3.out.z 1; have zr2 := R3.out.z 2; have zr3 := R3.out.z 3; have lR3 := R3.out.l; clear hb3 ub)
  have xs := R3.out.set ow bx kn on
  have vs := (((((Upto.refl (fun i => i = w.heap.size + 1) w3).setCell (q := ⟨w.heap.size + 1, 0, none⟩) (.inl rfl) (.int .i64 ow)).setCell (q := ⟨w.heap.size + 1, 1, none⟩) (.inl rfl) (.int .u32 bx)).setCell (q := ⟨w.heap.size + 1, 2, none⟩) (.inl rfl) (.int .u32 kn)).setCell (q := ⟨w.heap.size + 1, 3, none⟩) (.inl rfl) (.int .i64 on))
  have ns := N3.out.upto vs (by omega) (by omega)
  have ms := M3.out.upto vs (by omega)
  have us := ((((U3.out.setCell (q := ⟨w.heap.size + 1, 0, none⟩) (.inr (Nat.le_succ _)) (.int .i64 ow)).setCell (q := ⟨w.heap.size + 1, 1, none⟩) (.inr (Nat.le_succ _)) (.int .u32 bx)).setCell (q := ⟨w.heap.size + 1, 2, none⟩) (.inr (Nat.le_succ _)) (.int .u32 kn)).setCell (q := ⟨w.heap.size + 1, 3, none⟩) (.inr (Nat.le_succ _)) (.int .i64 on))
  clear r0 r1 r2 r3 zr0 zr1 zr2 zr3 vs
  have g0 := xs.c0
  have g1 := xs.c1
  have g2 := xs.c2
  have g3 := xs.c3
  generalize ((((w3.setCell ⟨w.heap.size + 1, 0, none⟩ (.int .i64 ow)).setCell ⟨w.heap.size + 1, 1, none⟩ (.int .u32 bx)).setCell ⟨w.heap.size + 1, 2, none⟩ (.int .u32 kn)).setCell ⟨w.heap.size + 1, 3, none⟩ (.int .i64 on)) = W4 at xs ns ms us g0 g1 g2 g3 ⊢
  exact bodyPost_ret (v := .tuple #[.agg #[.int .i64 ow, .int .u32 bx, .int .u32 kn, .int .i64 on], .bool (true)]) (by simp [results, Try.results68, go_sem, g0, g1, g2, g3]) rfl ⟨rfl, ns, ms, us⟩
set_option maxRecDepth 100000 in
set_option maxHeartbeats 16000000 in
theorem do_12 (i oa ob oc : Nat) (ow kn on : Int) (M : MM) (w : World) (h : Rn A T p L c v w) (hm : HC p M w) (hM : MOk M) (hpA : p ≠ A) (hpT : p ≠ T) (hi : i < L) (ha : oa < L) (hb : ob < L) (hc : oc < L) (hL : L < 9223372036854775808) (k0 : 0 ≤ kn) (k1 : kn < 4294967296) (hC : ∀ j, 0 ≤ c j ∧ c j < 4294967296) (hV : ∀ j, 0 ≤ v j ∧ v j < 4294967296) :
    Calls Try.prog 68 #[.pointer (some ⟨A, 0, none⟩), .int .i64 i, .agg #[.int .i64 12, .int .i64 ow, .int .i64 oa, .int .i64 ob, .int .i64 oc, .int .u32 kn, .int .i64 on]] w fun e w' => e = .returned (.tuple #[.agg #[.int .i64 0, .int .u32 0, .int .u32 kn, .int .i64 on], .bool (v oa != 0)]) ∧ Rn A T p L c v w' ∧ HC p M w' ∧ Upto (RSM A T p) w w' := by
  have lA0 := h.la
  have lT0 := h.lt
  have lp0 : p < w.heap.size := hm.2.2.2.2.2.2
  have hne := h.ne
  have CO := Lib.hid (fun ek ex ep en k ow oa ob oc kn on left w => out_any ek ex ep en k ow oa ob oc kn on left w)
  obtain ⟨ob', xr, xx, zo, u0⟩ := do_new w 12 ow oa ob oc kn on
  have h1 := h.upto u0 id id
  have m1 := hm.upto u0 id
  have U0 := Lib.hid (u0.mono (T := RSM A T p) fun _ _ h => h.elim)
  have HV := Lib.hid hV
  clear h hm u0 hV hC
  go_enter Try.func68, Try.ntmps68
  go_upto_region 2 with fail
  generalize ((w.alloc (.cells #[.int .i64 12, .int .i64 ow, .int .i64 oa, .int .i64 ob, .int .i64 oc, .int .u32 kn, .int .i64 on] 31)).alloc (.cells #[.int .i64 0, .int .u32 0, .int .u32 0, .int .i64 0] 48)).alloc (.cells #[.int .i64 0, .int .u32 0, .int .u32 0, .int .i64 0] 48) = WA at ob' xr xx zo h1 m1 U0 ⊢
  have HA := Lib.hid h1
  have HM := Lib.hid m1
  have HB := Lib.hid ob'
  have HR := Lib.hid xr
  have HX := Lib.hid xx
  have ZO := Lib.hid zo
  clear h1 m1 ob' xr xx zo
  have b0 := HB.out.c0
  have b1 := HB.out.c1
  have b2 := HB.out.c2
  have b3 := HB.out.c3
  have b4 := HB.out.c4
  have b5 := HB.out.c5
  have b6 := HB.out.c6
  have x0 := HX.out.c0
  have r0 := HR.out.c0
  have zr0 := HR.out.z 0
  have x1 := HX.out.c1
  have r1 := HR.out.c1
  have zr1 := HR.out.z 1
  have x2 := HX.out.c2
  have r2 := HR.out.c2
  have zr2 := HR.out.z 2
  have x3 := HX.out.c3
  have r3 := HR.out.c3
  have zr3 := HR.out.z 3
  have lX := HX.out.l
  have lR := HR.out.l
  have a13 := HA.out.t
  have am := HA.out.m
  have va := HA.out.v oa ha
  have ia0 : (0 : Int) ≤ (oa : Int) := by omega
  have ia1 : (oa : Int) < (L : Int) := by omega
  have lA := HA.out.la
  have lT := HA.out.lt
  have n1 : ¬ w.heap.size + 1 + 1 = w.heap.size + 1 := by omega
  have n2 : ¬ w.heap.size = w.heap.size + 1 := by omega
  have n3 : ¬ A = w.heap.size + 1 := by omega
  have n4 : ¬ T = w.heap.size + 1 := by omega
  go_upto_region 14 with fail
  go_region_held3 (fun W => W.cell? ⟨w.heap.size + 1 + 1, 0, none⟩ = some (.int .i64 0) ∧ W.cell? ⟨w.heap.size + 1 + 1, 1, none⟩ = some (.int .u32 0) ∧ W.cell? ⟨w.heap.size + 1 + 1, 2, none⟩ = some (.int .u32 0) ∧ W.cell? ⟨w.heap.size + 1 + 1, 3, none⟩ = some (.int .i64 0) ∧ W.cell? ⟨w.heap.size, 0, none⟩ = some (.int .i64 12) ∧ W.cell? ⟨w.heap.size, 1, none⟩ = some (.int .i64 ow) ∧ W.cell? ⟨w.heap.size, 2, none⟩ = some (.int .i64 (oa : Int)) ∧ W.cell? ⟨w.heap.size, 3, none⟩ = some (.int .i64 (ob : Int)) ∧ W.cell? ⟨w.heap.size, 4, none⟩ = some (.int .i64 (oc : Int)) ∧ W.cell? ⟨w.heap.size, 5, none⟩ = some (.int .u32 kn) ∧ W.cell? ⟨w.heap.size, 6, none⟩ = some (.int .i64 on) ∧ W.cell? ⟨A, 13, none⟩ = some (.slice (some ⟨T, 0, none⟩) L L) ∧ W.cell? ⟨T, oa, none⟩ = some (.int .u32 (v oa)) ∧ (W.cell? ⟨w.heap.size + 1, 0, none⟩).isSome = true ∧ W.frozen? ⟨w.heap.size + 1, 0, none⟩ = false ∧ (W.cell? ⟨w.heap.size + 1, 1, none⟩).isSome = true ∧ W.frozen? ⟨w.heap.size + 1, 1, none⟩ = false ∧ (W.cell? ⟨w.heap.size + 1, 2, none⟩).isSome = true ∧ W.frozen? ⟨w.heap.size + 1, 2, none⟩ = false ∧ (W.cell? ⟨w.heap.size + 1, 3, none⟩).isSome = true ∧ W.frozen? ⟨w.heap.size + 1, 3, none⟩ = false) (first | exact s12 HX.out HB.out HA.out HR.out ha | exact s12 HX.out.drew HB.out.drew HA.out.drew HR.out.drew ha | exact s12 X3 O3 N3.out R3.out ha | exact s12k X3 O3 N3.out R3.out ha n1 n2 n3 n4 _ _ _ _)
    ((first | (go_at_call 114; (with_reducible refine (CO.out _ _ _ _ _ _ _ _ _ _ _ _ _).mono ?_); rintro e w3 ⟨rfl, hb3⟩; have ub := Upto.of_below (S := fun _ => False) hb3; have R3 := Lib.hid (show XB4 (w.heap.size + 1) 0 0 0 0 w3 from by first | exact HR.out.upto ub id | exact (HR.out.upto (Upto.refl (fun _ => False) _).drew id).upto ub id); have N3 := Lib.hid (show Rn A T p L c v w3 from by first | exact HA.out.upto ub id id | exact HA.out.drew.upto ub id id); have M3 := Lib.hid (show HC p M w3 from by first | exact HM.out.upto ub id | exact (HM.out.upto (Upto.refl (fun _ => False) _).drew id).upto ub id); have U3 := Lib.hid (show Upto (RSM A T p) w w3 from by first | exact U0.out.trans (ub.mono fun _ _ h => h.elim) | exact U0.out.drew.trans (ub.mono fun _ _ h => h.elim)); have r0 := R3.out.c0; have r1 := R3.out.c1; have r2 := R3.out.c2; have r3 := R3.out.c3; have zr0 := R3.out.z 0; have zr1 := R3.out.z 1; have zr2 := R3.out.z 2; have zr3 := R3.out.z 3; have lR3 := R3.out.l; have X3 : XB4 (w.heap.size + 1 + 1) 0 0 0 0 w3 := (by first | exact HX.out.upto ub id | exact (HX.out.upto (Upto.refl (fun _ => False) _).drew id).upto ub id); have O3 := (by first | exact HB.out.upto ub id | exact (HB.out.upto (Upto.refl (fun _ => False) _).drew id).upto ub id : OB w.heap.size _ ow oa ob oc kn on w3); have d0 := X3.c0; have d1 := X3.c1; have d2 := X3.c2; have d3 := X3.c3; have e0 := O3.c0; have e1 := O3.c1; have e2 := O3.c2; have e3 := O3.c3; have e4 := O3.c4; have e5 := O3.c5; have e6 := O3.c6; have a13' := N3.out.t; have va' := N3.out.v oa ha; have tr0 : (w3.cell? ⟨w.heap.size + 1, 0, none⟩).isSome = true := (congrArg Option.isSome r0).trans rfl; have tr1 : (w3.cell? ⟨w.heap.size + 1, 1, none⟩).isSome = true := (congrArg Option.isSome r1).trans rfl; have tr2 : (w3.cell? ⟨w.heap.size + 1, 2, none⟩).isSome = true := (congrArg Option.isSome r2).trans rfl; have tr3 : (w3.cell? ⟨w.heap.size + 1, 3, none⟩).isSome = true := (congrArg Option.isSome r3).trans rfl; clear hb3 ub)))
  all_goals go_wp2_with fail
  all_goals
    have xs := R3.out.set 0 0 kn on
    have vs := (((((Upto.refl (fun i => i = w.heap.size + 1) w3).setCell (q := ⟨w.heap.size + 1, 0, none⟩) (.inl rfl) (.int .i64 0)).setCell (q := ⟨w.heap.size + 1, 1, none⟩) (.inl rfl) (.int .u32 0)).setCell (q := ⟨w.heap.size + 1, 2, none⟩) (.inl rfl) (.int .u32 kn)).setCell (q := ⟨w.heap.size + 1, 3, none⟩) (.inl rfl) (.int .i64 on))
    have ns := N3.out.upto vs (by omega) (by omega)
    have ms := M3.out.upto vs (by omega)
    have us := ((((U3.out.setCell (q := ⟨w.heap.size + 1, 0, none⟩) (.inr (Nat.le_succ _)) (.int .i64 0)).setCell (q := ⟨w.heap.size + 1, 1, none⟩) (.inr (Nat.le_succ _)) (.int .u32 0)).setCell (q := ⟨w.heap.size + 1, 2, none⟩) (.inr (Nat.le_succ _)) (.int .u32 kn)).setCell (q := ⟨w.heap.size + 1, 3, none⟩) (.inr (Nat.le_succ _)) (.int .i64 on))
    clear r0 r1 r2 r3 zr0 zr1 zr2 zr3 vs
    have g0 := xs.c0
    have g1 := xs.c1
    have g2 := xs.c2
    have g3 := xs.c3
    generalize ((((w3.setCell ⟨w.heap.size + 1, 0, none⟩ (.int .i64 0)).setCell ⟨w.heap.size + 1, 1, none⟩ (.int .u32 0)).setCell ⟨w.heap.size + 1, 2, none⟩ (.int .u32 kn)).setCell ⟨w.heap.size + 1, 3, none⟩ (.int .i64 on)) = W4 at xs ns ms us g0 g1 g2 g3 ⊢
    exact bodyPost_ret (v := .tuple #[.agg #[.int .i64 0, .int .u32 0, .int .u32 kn, .int .i64 on], .bool (v oa != 0)]) (by simp [results, Try.results68, go_sem, g0, g1, g2, g3]) rfl ⟨rfl, ns, ms, us⟩
set_option maxRecDepth 100000 in
set_option maxHeartbeats 16000000 in
theorem do_13 (i oa ob oc : Nat) (ow kn on : Int) (M : MM) (w : World) (h : Rn A T p L c v w) (hm : HC p M w) (hM : MOk M) (hpA : p ≠ A) (hpT : p ≠ T) (hi : i < L) (ha : oa < L) (hb : ob < L) (hc : oc < L) (hL : L < 9223372036854775808) (k0 : 0 ≤ kn) (k1 : kn < 4294967296) (hC : ∀ j, 0 ≤ c j ∧ c j < 4294967296) (hV : ∀ j, 0 ≤ v j ∧ v j < 4294967296) :
    Calls Try.prog 68 #[.pointer (some ⟨A, 0, none⟩), .int .i64 i, .agg #[.int .i64 13, .int .i64 ow, .int .i64 oa, .int .i64 ob, .int .i64 oc, .int .u32 kn, .int .i64 on]] w fun e w' => e = .returned (.tuple #[.agg #[.int .i64 ow, .int .u32 0, .int .u32 kn, .int .i64 on], .bool (v oa != 0)]) ∧ Rn A T p L c v w' ∧ HC p M w' ∧ Upto (RSM A T p) w w' := by
  have lA0 := h.la
  have lT0 := h.lt
  have lp0 : p < w.heap.size := hm.2.2.2.2.2.2
  have hne := h.ne
  have CO := Lib.hid (fun ek ex ep en k ow oa ob oc kn on left w => out_any ek ex ep en k ow oa ob oc kn on left w)
  obtain ⟨ob', xr, xx, zo, u0⟩ := do_new w 13 ow oa ob oc kn on
  have h1 := h.upto u0 id id
  have m1 := hm.upto u0 id
  have U0 := Lib.hid (u0.mono (T := RSM A T p) fun _ _ h => h.elim)
  have HV := Lib.hid hV
  clear h hm u0 hV hC
  go_enter Try.func68, Try.ntmps68
  go_upto_region 2 with fail
  generalize ((w.alloc (.cells #[.int .i64 13, .int .i64 ow, .int .i64 oa, .int .i64 ob, .int .i64 oc, .int .u32 kn, .int .i64 on] 31)).alloc (.cells #[.int .i64 0, .int .u32 0, .int .u32 0, .int .i64 0] 48)).alloc (.cells #[.int .i64 0, .int .u32 0, .int .u32 0, .int .i64 0] 48) = WA at ob' xr xx zo h1 m1 U0 ⊢
  have HA := Lib.hid h1
  have HM := Lib.hid m1
  have HB := Lib.hid ob'
  have HR := Lib.hid xr
  have HX := Lib.hid xx
  have ZO := Lib.hid zo
  clear h1 m1 ob' xr xx zo
  have b0 := HB.out.c0
  have b1 := HB.out.c1
  have b2 := HB.out.c2
  have b3 := HB.out.c3
  have b4 := HB.out.c4
  have b5 := HB.out.c5
  have b6 := HB.out.c6
  have x0 := HX.out.c0
  have r0 := HR.out.c0
  have zr0 := HR.out.z 0
  have x1 := HX.out.c1
  have r1 := HR.out.c1
  have zr1 := HR.out.z 1
  have x2 := HX.out.c2
  have r2 := HR.out.c2
  have zr2 := HR.out.z 2
  have x3 := HX.out.c3
  have r3 := HR.out.c3
  have zr3 := HR.out.z 3
  have lX := HX.out.l
  have lR := HR.out.l
  have xz0 := HX.out.z 0
  have xz1 := HX.out.z 1
  go_upto_region 17 with fail
  have vs := ((Upto.refl (fun i => i = w.heap.size + 1 + 1) WA).setCell (q := ⟨w.heap.size + 1 + 1, 0, none⟩) (.inl rfl) (.int .i64 ow))
  have x0' := show (WA.setCell ⟨w.heap.size + 1 + 1, 0, none⟩ (.int .i64 ow)).cell? ⟨w.heap.size + 1 + 1, 0, none⟩ = some (.int .i64 ow) from World.cell?_setCell_same _ _ _ HX.out.c0
  have x1' := show (WA.setCell ⟨w.heap.size + 1 + 1, 0, none⟩ (.int .i64 ow)).cell? ⟨w.heap.size + 1 + 1, 1, none⟩ = some (.int .u32 0) from (off (by omega)).trans HX.out.c1
  have x2' := show (WA.setCell ⟨w.heap.size + 1 + 1, 0, none⟩ (.int .i64 ow)).cell? ⟨w.heap.size + 1 + 1, 2, none⟩ = some (.int .u32 0) from (off (by omega)).trans HX.out.c2
  have x3' := show (WA.setCell ⟨w.heap.size + 1 + 1, 0, none⟩ (.int .i64 ow)).cell? ⟨w.heap.size + 1 + 1, 3, none⟩ = some (.int .i64 0) from (off (by omega)).trans HX.out.c3
  have HA1 := HA.out.upto vs (by omega) (by omega)
  have HM1 := HM.out.upto vs (by omega)
  have HR1 := HR.out.upto vs (by omega)
  have HB1 := HB.out.upto vs (by omega)
  have HX1 : XB4 (w.heap.size + 1 + 1) ow 0 0 0 ((WA.setCell ⟨w.heap.size + 1 + 1, 0, none⟩ (.int .i64 ow))) := ⟨x0', x1', x2', x3', fun j => by simpa using HX.out.z j, by simpa using HX.out.l⟩
  have UU1 := (U0.out.setCell (q := ⟨w.heap.size + 1 + 1, 0, none⟩) (.inr (Nat.le_trans (Nat.le_succ _) (Nat.le_succ _))) (.int .i64 ow))
  clear b0 b1 b2 b3 b4 b5 b6 x0 x1 x2 x3 r0 r1 r2 r3 zr0 zr1 zr2 zr3 lX lR xz0 xz1
  generalize (WA.setCell ⟨w.heap.size + 1 + 1, 0, none⟩ (.int .i64 ow)) = WB at vs x0' x1' x2' x3' HA1 HM1 HR1 HB1 HX1 UU1 ⊢
  clear vs
  have HA1 := Lib.hid HA1
  have HM1 := Lib.hid HM1
  have HR1 := Lib.hid HR1
  have U1 := Lib.hid UU1
  have b0 := HB1.c0
  have b1 := HB1.c1
  have b2 := HB1.c2
  have b3 := HB1.c3
  have b4 := HB1.c4
  have b5 := HB1.c5
  have b6 := HB1.c6
  have lB1 := HB1.l
  have lR1 := HR1.out.l
  have HB1 := Lib.hid HB1
  have HX1 := Lib.hid HX1
  clear UU1 HA HM HR HB HX U0
  have a13 := HA1.out.t
  have am := HA1.out.m
  have va := HA1.out.v oa ha
  have ia0 : (0 : Int) ≤ (oa : Int) := by omega
  have ia1 : (oa : Int) < (L : Int) := by omega
  have lA := HA1.out.la
  have lT := HA1.out.lt
  have n1 : ¬ w.heap.size + 1 + 1 = w.heap.size + 1 := by omega
  have n2 : ¬ w.heap.size = w.heap.size + 1 := by omega
  have n3 : ¬ A = w.heap.size + 1 := by omega
  have n4 : ¬ T = w.heap.size + 1 := by omega
  go_region_held3 (fun W => W.cell? ⟨w.heap.size + 1 + 1, 0, none⟩ = some (.int .i64 ow) ∧ W.cell? ⟨w.heap.size + 1 + 1, 1, none⟩ = some (.int .u32 0) ∧ W.cell? ⟨w.heap.size + 1 + 1, 2, none⟩ = some (.int .u32 0) ∧ W.cell? ⟨w.heap.size + 1 + 1, 3, none⟩ = some (.int .i64 0) ∧ W.cell? ⟨w.heap.size, 0, none⟩ = some (.int .i64 13) ∧ W.cell? ⟨w.heap.size, 1, none⟩ = some (.int .i64 ow) ∧ W.cell? ⟨w.heap.size, 2, none⟩ = some (.int .i64 (oa : Int)) ∧ W.cell? ⟨w.heap.size, 3, none⟩ = some (.int .i64 (ob : Int)) ∧ W.cell? ⟨w.heap.size, 4, none⟩ = some (.int .i64 (oc : Int)) ∧ W.cell? ⟨w.heap.size, 5, none⟩ = some (.int .u32 kn) ∧ W.cell? ⟨w.heap.size, 6, none⟩ = some (.int .i64 on) ∧ W.cell? ⟨A, 13, none⟩ = some (.slice (some ⟨T, 0, none⟩) L L) ∧ W.cell? ⟨T, oa, none⟩ = some (.int .u32 (v oa)) ∧ (W.cell? ⟨w.heap.size + 1, 0, none⟩).isSome = true ∧ W.frozen? ⟨w.heap.size + 1, 0, none⟩ = false ∧ (W.cell? ⟨w.heap.size + 1, 1, none⟩).isSome = true ∧ W.frozen? ⟨w.heap.size + 1, 1, none⟩ = false ∧ (W.cell? ⟨w.heap.size + 1, 2, none⟩).isSome = true ∧ W.frozen? ⟨w.heap.size + 1, 2, none⟩ = false ∧ (W.cell? ⟨w.heap.size + 1, 3, none⟩).isSome = true ∧ W.frozen? ⟨w.heap.size + 1, 3, none⟩ = false) (first | exact s12 HX1.out HB1.out HA1.out HR1.out ha | exact s12 HX1.out.drew HB1.out.drew HA1.out.drew HR1.out.drew ha | exact s12 X3 O3 N3.out R3.out ha | exact s12k X3 O3 N3.out R3.out ha n1 n2 n3 n4 _ _ _ _)
    ((first | (go_at_call 114; (with_reducible refine (CO.out _ _ _ _ _ _ _ _ _ _ _ _ _).mono ?_); rintro e w3 ⟨rfl, hb3⟩; have ub := Upto.of_below (S := fun _ => False) hb3; have R3 := Lib.hid (show XB4 (w.heap.size + 1) 0 0 0 0 w3 from by first | exact HR1.out.upto ub id | exact (HR1.out.upto (Upto.refl (fun _ => False) _).drew id).upto ub id); have N3 := Lib.hid (show Rn A T p L c v w3 from by first | exact HA1.out.upto ub id id | exact HA1.out.drew.upto ub id id); have M3 := Lib.hid (show HC p M w3 from by first | exact HM1.out.upto ub id | exact (HM1.out.upto (Upto.refl (fun _ => False) _).drew id).upto ub id); have U3 := Lib.hid (show Upto (RSM A T p) w w3 from by first | exact U1.out.trans (ub.mono fun _ _ h => h.elim) | exact U1.out.drew.trans (ub.mono fun _ _ h => h.elim)); have r0 := R3.out.c0; have r1 := R3.out.c1; have r2 := R3.out.c2; have r3 := R3.out.c3; have zr0 := R3.out.z 0; have zr1 := R3.out.z 1; have zr2 := R3.out.z 2; have zr3 := R3.out.z 3; have lR3 := R3.out.l; have X3 : XB4 (w.heap.size + 1 + 1) ow 0 0 0 w3 := (by first | exact HX1.out.upto ub id | exact (HX1.out.upto (Upto.refl (fun _ => False) _).drew id).upto ub id); have O3 := (by first | exact HB1.out.upto ub id | exact (HB1.out.upto (Upto.refl (fun _ => False) _).drew id).upto ub id : OB w.heap.size _ ow oa ob oc kn on w3); have d0 := X3.c0; have d1 := X3.c1; have d2 := X3.c2; have d3 := X3.c3; have e0 := O3.c0; have e1 := O3.c1; have e2 := O3.c2; have e3 := O3.c3; have e4 := O3.c4; have e5 := O3.c5; have e6 := O3.c6; have a13' := N3.out.t; have va' := N3.out.v oa ha; have tr0 : (w3.cell? ⟨w.heap.size + 1, 0, none⟩).isSome = true := (congrArg Option.isSome r0).trans rfl; have tr1 : (w3.cell? ⟨w.heap.size + 1, 1, none⟩).isSome = true := (congrArg Option.isSome r1).trans rfl; have tr2 : (w3.cell? ⟨w.heap.size + 1, 2, none⟩).isSome = true := (congrArg Option.isSome r2).trans rfl; have tr3 : (w3.cell? ⟨w.heap.size + 1, 3, none⟩).isSome = true := (congrArg Option.isSome r3).trans rfl; clear hb3 ub)))
  all_goals go_wp2_with fail
  all_goals
    have xs := R3.out.set ow 0 kn on
    have vs := (((((Upto.refl (fun i => i = w.heap.size + 1) w3).setCell (q := ⟨w.heap.size + 1, 0, none⟩) (.inl rfl) (.int .i64 ow)).setCell (q := ⟨w.heap.size + 1, 1, none⟩) (.inl rfl) (.int .u32 0)).setCell (q := ⟨w.heap.size + 1, 2, none⟩) (.inl rfl) (.int .u32 kn)).setCell (q := ⟨w.heap.size + 1, 3, none⟩) (.inl rfl) (.int .i64 on))
    have ns := N3.out.upto vs (by omega) (by omega)
    have ms := M3.out.upto vs (by omega)
    have us := ((((U3.out.setCell (q := ⟨w.heap.size + 1, 0, none⟩) (.inr (Nat.le_succ _)) (.int .i64 ow)).setCell (q := ⟨w.heap.size + 1, 1, none⟩) (.inr (Nat.le_succ _)) (.int .u32 0)).setCell (q := ⟨w.heap.size + 1, 2, none⟩) (.inr (Nat.le_succ _)) (.int .u32 kn)).setCell (q := ⟨w.heap.size + 1, 3, none⟩) (.inr (Nat.le_succ _)) (.int .i64 on))
    clear r0 r1 r2 r3 zr0 zr1 zr2 zr3 vs
    have g0 := xs.c0
    have g1 := xs.c1
    have g2 := xs.c2
    have g3 := xs.c3
    generalize ((((w3.setCell ⟨w.heap.size + 1, 0, none⟩ (.int .i64 ow)).setCell ⟨w.heap.size + 1, 1, none⟩ (.int .u32 0)).setCell ⟨w.heap.size + 1, 2, none⟩ (.int .u32 kn)).setCell ⟨w.heap.size + 1, 3, none⟩ (.int .i64 on)) = W4 at xs ns ms us g0 g1 g2 g3 ⊢
    exact bodyPost_ret (v := .tuple #[.agg #[.int .i64 ow, .int .u32 0, .int .u32 kn, .int .i64 on], .bool (v oa != 0)]) (by simp [results, Try.results68, go_sem, g0, g1, g2, g3]) rfl ⟨rfl, ns, ms, us⟩
set_option maxRecDepth 100000 in
set_option maxHeartbeats 16000000 in
theorem do_11 (i oa ob oc : Nat) (ow kn on : Int) (M : MM) (w : World) (h : Rn A T p L c v w) (hm : HC p M w) (hM : MOk M) (hpA : p ≠ A) (hpT : p ≠ T) (hi : i < L) (ha : oa < L) (hb : ob < L) (hc : oc < L) (hL : L < 9223372036854775808) (k0 : 0 ≤ kn) (k1 : kn < 4294967296) (hC : ∀ j, 0 ≤ c j ∧ c j < 4294967296) (hV : ∀ j, 0 ≤ v j ∧ v j < 4294967296) :
    Calls Try.prog 68 #[.pointer (some ⟨A, 0, none⟩), .int .i64 i, .agg #[.int .i64 11, .int .i64 ow, .int .i64 oa, .int .i64 ob, .int .i64 oc, .int .u32 kn, .int .i64 on]] w fun e w' => e = .returned (.tuple #[.agg #[.int .i64 0, .int .u32 0, .int .u32 kn, .int .i64 on], .bool (anyT M.hi)]) ∧ Rn A T p L c v w' ∧ HC p M w' ∧ Upto (RSM A T p) w w' := by
  have lA0 := h.la
  have lT0 := h.lt
  have lp0 : p < w.heap.size := hm.2.2.2.2.2.2
  have hne := h.ne
  have CO := Lib.hid (fun ek ex ep en k ow oa ob oc kn on left w => out_any ek ex ep en k ow oa ob oc kn on left w)
  obtain ⟨ob', xr, xx, zo, u0⟩ := do_new w 11 ow oa ob oc kn on
  have h1 := h.upto u0 id id
  have m1 := hm.upto u0 id
  have U0 := Lib.hid (u0.mono (T := RSM A T p) fun _ _ h => h.elim)
  have HV := Lib.hid hV
  clear h hm u0 hV hC
  go_enter Try.func68, Try.ntmps68
  go_upto_region 2 with fail
  generalize ((w.alloc (.cells #[.int .i64 11, .int .i64 ow, .int .i64 oa, .int .i64 ob, .int .i64 oc, .int .u32 kn, .int .i64 on] 31)).alloc (.cells #[.int .i64 0, .int .u32 0, .int .u32 0, .int .i64 0] 48)).alloc (.cells #[.int .i64 0, .int .u32 0, .int .u32 0, .int .i64 0] 48) = WA at ob' xr xx zo h1 m1 U0 ⊢
  have HA := Lib.hid h1
  have HM := Lib.hid m1
  have HB := Lib.hid ob'
  have HR := Lib.hid xr
  have HX := Lib.hid xx
  have ZO := Lib.hid zo
  clear h1 m1 ob' xr xx zo
  have b0 := HB.out.c0
  have b1 := HB.out.c1
  have b2 := HB.out.c2
  have b3 := HB.out.c3
  have b4 := HB.out.c4
  have b5 := HB.out.c5
  have b6 := HB.out.c6
  have x0 := HX.out.c0
  have r0 := HR.out.c0
  have zr0 := HR.out.z 0
  have x1 := HX.out.c1
  have r1 := HR.out.c1
  have zr1 := HR.out.z 1
  have x2 := HX.out.c2
  have r2 := HR.out.c2
  have zr2 := HR.out.z 2
  have x3 := HX.out.c3
  have r3 := HR.out.c3
  have zr3 := HR.out.z 3
  have lX := HX.out.l
  have lR := HR.out.l
  have a13 := HA.out.t
  have am := HA.out.m
  have va := HA.out.v oa ha
  have ia0 : (0 : Int) ≤ (oa : Int) := by omega
  have ia1 : (oa : Int) < (L : Int) := by omega
  have lA := HA.out.la
  have lT := HA.out.lt
  have CT := Lib.hid (fun w h => touched_c p M w h)
  have n1 : ¬ w.heap.size + 1 + 1 = w.heap.size + 1 := by omega
  have n2 : ¬ w.heap.size = w.heap.size + 1 := by omega
  have n3 : ¬ A = w.heap.size + 1 := by omega
  have n4 : ¬ T = w.heap.size + 1 := by omega
  go_upto_region 12 with fail
  go_region_held3 (fun W => W.cell? ⟨w.heap.size + 1 + 1, 0, none⟩ = some (.int .i64 0) ∧ W.cell? ⟨w.heap.size + 1 + 1, 1, none⟩ = some (.int .u32 0) ∧ W.cell? ⟨w.heap.size + 1 + 1, 2, none⟩ = some (.int .u32 0) ∧ W.cell? ⟨w.heap.size + 1 + 1, 3, none⟩ = some (.int .i64 0) ∧ W.cell? ⟨w.heap.size, 0, none⟩ = some (.int .i64 11) ∧ W.cell? ⟨w.heap.size, 1, none⟩ = some (.int .i64 ow) ∧ W.cell? ⟨w.heap.size, 2, none⟩ = some (.int .i64 (oa : Int)) ∧ W.cell? ⟨w.heap.size, 3, none⟩ = some (.int .i64 (ob : Int)) ∧ W.cell? ⟨w.heap.size, 4, none⟩ = some (.int .i64 (oc : Int)) ∧ W.cell? ⟨w.heap.size, 5, none⟩ = some (.int .u32 kn) ∧ W.cell? ⟨w.heap.size, 6, none⟩ = some (.int .i64 on) ∧ W.cell? ⟨A, 0, none⟩ = some (.pointer (some ⟨p, 0, none⟩)) ∧ (W.cell? ⟨w.heap.size + 1, 0, none⟩).isSome = true ∧ W.frozen? ⟨w.heap.size + 1, 0, none⟩ = false ∧ (W.cell? ⟨w.heap.size + 1, 1, none⟩).isSome = true ∧ W.frozen? ⟨w.heap.size + 1, 1, none⟩ = false ∧ (W.cell? ⟨w.heap.size + 1, 2, none⟩).isSome = true ∧ W.frozen? ⟨w.heap.size + 1, 2, none⟩ = false ∧ (W.cell? ⟨w.heap.size + 1, 3, none⟩).isSome = true ∧ W.frozen? ⟨w.heap.size + 1, 3, none⟩ = false) (first | exact s11 HX.out HB.out HA.out HR.out ha | exact s11 HX.out.drew HB.out.drew HA.out.drew HR.out.drew ha | exact s11 X3 O3 N3.out R3.out ha | exact s11k X3 O3 N3.out R3.out ha n1 n2 n3 n4 _ _ _ _)
    ((first | (go_at_call 24; (with_reducible refine (CT.out _ (by first | exact HM.out | exact HM.out.upto (Upto.refl (fun _ => False) _).drew id)).mono ?_); rintro e w2 ⟨rfl, rfl⟩) | (go_at_call 114; (with_reducible refine (CO.out _ _ _ _ _ _ _ _ _ _ _ _ _).mono ?_); rintro e w3 ⟨rfl, hb3⟩; have ub := Upto.of_below (S := fun _ => False) hb3; have R3 := Lib.hid (show XB4 (w.heap.size + 1) 0 0 0 0 w3 from by first | exact HR.out.upto ub id | exact (HR.out.upto (Upto.refl (fun _ => False) _).drew id).upto ub id); have N3 := Lib.hid (show Rn A T p L c v w3 from by first | exact HA.out.upto ub id id | exact HA.out.drew.upto ub id id); have M3 := Lib.hid (show HC p M w3 from by first | exact HM.out.upto ub id | exact (HM.out.upto (Upto.refl (fun _ => False) _).drew id).upto ub id); have U3 := Lib.hid (show Upto (RSM A T p) w w3 from by first | exact U0.out.trans (ub.mono fun _ _ h => h.elim) | exact U0.out.drew.trans (ub.mono fun _ _ h => h.elim)); have r0 := R3.out.c0; have r1 := R3.out.c1; have r2 := R3.out.c2; have r3 := R3.out.c3; have zr0 := R3.out.z 0; have zr1 := R3.out.z 1; have zr2 := R3.out.z 2; have zr3 := R3.out.z 3; have lR3 := R3.out.l; have X3 : XB4 (w.heap.size + 1 + 1) 0 0 0 0 w3 := (by first | exact HX.out.upto ub id | exact (HX.out.upto (Upto.refl (fun _ => False) _).drew id).upto ub id); have O3 := (by first | exact HB.out.upto ub id | exact (HB.out.upto (Upto.refl (fun _ => False) _).drew id).upto ub id : OB w.heap.size _ ow oa ob oc kn on w3); have d0 := X3.c0; have d1 := X3.c1; have d2 := X3.c2; have d3 := X3.c3; have e0 := O3.c0; have e1 := O3.c1; have e2 := O3.c2; have e3 := O3.c3; have e4 := O3.c4; have e5 := O3.c5; have e6 := O3.c6; have a13' := N3.out.t; have va' := N3.out.v oa ha; have tr0 : (w3.cell? ⟨w.heap.size + 1, 0, none⟩).isSome = true := (congrArg Option.isSome r0).trans rfl; have tr1 : (w3.cell? ⟨w.heap.size + 1, 1, none⟩).isSome = true := (congrArg Option.isSome r1).trans rfl; have tr2 : (w3.cell? ⟨w.heap.size + 1, 2, none⟩).isSome = true := (congrArg Option.isSome r2).trans rfl; have tr3 : (w3.cell? ⟨w.heap.size + 1, 3, none⟩).isSome = true := (congrArg Option.isSome r3).trans rfl; clear hb3 ub)))
  all_goals go_wp2_with fail
  all_goals
    have xs := R3.out.set 0 0 kn on
    have vs := (((((Upto.refl (fun i => i = w.heap.size + 1) w3).setCell (q := ⟨w.heap.size + 1, 0, none⟩) (.inl rfl) (.int .i64 0)).setCell (q := ⟨w.heap.size + 1, 1, none⟩) (.inl rfl) (.int .u32 0)).setCell (q := ⟨w.heap.size + 1, 2, none⟩) (.inl rfl) (.int .u32 kn)).setCell (q := ⟨w.heap.size + 1, 3, none⟩) (.inl rfl) (.int .i64 on))
    have ns := N3.out.upto vs (by omega) (by omega)
    have ms := M3.out.upto vs (by omega)
    have us := ((((U3.out.setCell (q := ⟨w.heap.size + 1, 0, none⟩) (.inr (Nat.le_succ _)) (.int .i64 0)).setCell (q := ⟨w.heap.size + 1, 1, none⟩) (.inr (Nat.le_succ _)) (.int .u32 0)).setCell (q := ⟨w.heap.size + 1, 2, none⟩) (.inr (Nat.le_succ _)) (.int .u32 kn)).setCell (q := ⟨w.heap.size + 1, 3, none⟩) (.inr (Nat.le_succ _)) (.int .i64 on))
    clear r0 r1 r2 r3 zr0 zr1 zr2 zr3 vs
    have g0 := xs.c0
    have g1 := xs.c1
    have g2 := xs.c2
    have g3 := xs.c3
    generalize ((((w3.setCell ⟨w.heap.size + 1, 0, none⟩ (.int .i64 0)).setCell ⟨w.heap.size + 1, 1, none⟩ (.int .u32 0)).setCell ⟨w.heap.size + 1, 2, none⟩ (.int .u32 kn)).setCell ⟨w.heap.size + 1, 3, none⟩ (.int .i64 on)) = W4 at xs ns ms us g0 g1 g2 g3 ⊢
    exact bodyPost_ret (v := .tuple #[.agg #[.int .i64 0, .int .u32 0, .int .u32 kn, .int .i64 on], .bool (anyT M.hi)]) (by simp [results, Try.results68, go_sem, g0, g1, g2, g3]) rfl ⟨rfl, ns, ms, us⟩
set_option maxRecDepth 100000 in
set_option maxHeartbeats 16000000 in
theorem do_16 (i oa ob oc : Nat) (ow kn on : Int) (M : MM) (w : World) (h : Rn A T p L c v w) (hm : HC p M w) (hM : MOk M) (hpA : p ≠ A) (hpT : p ≠ T) (hi : i < L) (ha : oa < L) (hb : ob < L) (hc : oc < L) (hL : L < 9223372036854775808) (k0 : 0 ≤ kn) (k1 : kn < 4294967296) (hC : ∀ j, 0 ≤ c j ∧ c j < 4294967296) (hV : ∀ j, 0 ≤ v j ∧ v j < 4294967296) :
    Calls Try.prog 68 #[.pointer (some ⟨A, 0, none⟩), .int .i64 i, .agg #[.int .i64 16, .int .i64 ow, .int .i64 oa, .int .i64 ob, .int .i64 oc, .int .u32 kn, .int .i64 on]] w fun e w' => e = .returned (.tuple #[.agg #[.int .i64 0, .int .u32 0, .int .u32 (v oa), .int .i64 on], .bool (true)]) ∧ Rn A T p L c v w' ∧ HC p M w' ∧ Upto (RSM A T p) w w' := by
  have lA0 := h.la
  have lT0 := h.lt
  have lp0 : p < w.heap.size := hm.2.2.2.2.2.2
  have hne := h.ne
  have CO := Lib.hid (fun ek ex ep en k ow oa ob oc kn on left w => out_any ek ex ep en k ow oa ob oc kn on left w)
  obtain ⟨ob', xr, xx, zo, u0⟩ := do_new w 16 ow oa ob oc kn on
  have h1 := h.upto u0 id id
  have m1 := hm.upto u0 id
  have U0 := Lib.hid (u0.mono (T := RSM A T p) fun _ _ h => h.elim)
  have HV := Lib.hid hV
  clear h hm u0 hV hC
  go_enter Try.func68, Try.ntmps68
  go_upto_region 2 with fail
  generalize ((w.alloc (.cells #[.int .i64 16, .int .i64 ow, .int .i64 oa, .int .i64 ob, .int .i64 oc, .int .u32 kn, .int .i64 on] 31)).alloc (.cells #[.int .i64 0, .int .u32 0, .int .u32 0, .int .i64 0] 48)).alloc (.cells #[.int .i64 0, .int .u32 0, .int .u32 0, .int .i64 0] 48) = WA at ob' xr xx zo h1 m1 U0 ⊢
  have HA := Lib.hid h1
  have HM := Lib.hid m1
  have HB := Lib.hid ob'
  have HR := Lib.hid xr
  have HX := Lib.hid xx
  have ZO := Lib.hid zo
  clear h1 m1 ob' xr xx zo
  have b0 := HB.out.c0
  have b1 := HB.out.c1
  have b2 := HB.out.c2
  have b3 := HB.out.c3
  have b4 := HB.out.c4
  have b5 := HB.out.c5
  have b6 := HB.out.c6
  have x0 := HX.out.c0
  have r0 := HR.out.c0
  have zr0 := HR.out.z 0
  have x1 := HX.out.c1
  have r1 := HR.out.c1
  have zr1 := HR.out.z 1
  have x2 := HX.out.c2
  have r2 := HR.out.c2
  have zr2 := HR.out.z 2
  have x3 := HX.out.c3
  have r3 := HR.out.c3
  have zr3 := HR.out.z 3
  have lX := HX.out.l
  have lR := HR.out.l
  have a13 := HA.out.t
  have am := HA.out.m
  have va := HA.out.v oa ha
  have ia0 : (0 : Int) ≤ (oa : Int) := by omega
  have ia1 : (oa : Int) < (L : Int) := by omega
  have lA := HA.out.la
  have lT := HA.out.lt
  have zo5 := ZO.out 5
  go_upto_region 24 with fail
  go_region
  have vs := ((Upto.refl (fun i => i = w.heap.size) WA).setCell (q := ⟨w.heap.size, 5, none⟩) (.inl rfl) (.int .u32 (v oa)))
  have ub5 : (WA.setCell ⟨w.heap.size, 5, none⟩ (.int .u32 (v oa))).cell? ⟨w.heap.size, 5, none⟩ = some (.int .u32 (v oa)) := World.cell?_setCell_same _ _ _ b5
  have ub0 := (off (W := WA) (b := w.heap.size) (i := 0) (j := 5) (v := .int .u32 (v oa)) (by omega)).trans b0
  have ub1 := (off (W := WA) (b := w.heap.size) (i := 1) (j := 5) (v := .int .u32 (v oa)) (by omega)).trans b1
  have ub2 := (off (W := WA) (b := w.heap.size) (i := 2) (j := 5) (v := .int .u32 (v oa)) (by omega)).trans b2
  have ub3 := (off (W := WA) (b := w.heap.size) (i := 3) (j := 5) (v := .int .u32 (v oa)) (by omega)).trans b3
  have ub4 := (off (W := WA) (b := w.heap.size) (i := 4) (j := 5) (v := .int .u32 (v oa)) (by omega)).trans b4
  have ub6 := (off (W := WA) (b := w.heap.size) (i := 6) (j := 5) (v := .int .u32 (v oa)) (by omega)).trans b6
  have HA1 := HA.out.upto vs (by omega) (by omega)
  have HM1 := HM.out.upto vs (by omega)
  have HR1 := HR.out.upto vs (by omega)
  have HX1 := HX.out.upto vs (by omega)
  have UU1 := U0.out.setCell (q := ⟨w.heap.size, 5, none⟩) (.inr (Nat.le_refl _)) (.int .u32 (v oa))
  clear zo5 a13 am va b0 b1 b2 b3 b4 b5 b6 x0 x1 x2 x3 r0 r1 r2 r3 zr0 zr1 zr2 zr3 lX lR lA lT
  generalize WA.setCell ⟨w.heap.size, 5, none⟩ (.int .u32 (v oa)) = WB at vs ub0 ub1 ub2 ub3 ub4 ub5 ub6 HA1 HM1 HR1 HX1 UU1 ⊢
  clear vs
  have HA1 := Lib.hid HA1.drew
  have HM1 := Lib.hid (HM1.upto (Upto.refl (fun _ => False) WB).drew id)
  have HR1 := Lib.hid (HR1.upto (Upto.refl (fun _ => False) WB).drew id)
  have HX1 := Lib.hid (HX1.upto (Upto.refl (fun _ => False) WB).drew id)
  have U1 := Lib.hid UU1.drew
  have x0 := HX1.out.c0
  have x1 := HX1.out.c1
  have x2 := HX1.out.c2
  have x3 := HX1.out.c3
  have lR1 := HR1.out.l
  have lX1 := HX1.out.l
  clear UU1 HA HM HR HB HX U0
  go_wp2_with (go_at_call 114; (with_reducible refine (CO.out _ _ _ _ _ _ _ _ _ _ _ _ _).mono ?_); rintro e w3 ⟨rfl, hb3⟩; have ub := Upto.of_below (S := fun _ => False) hb3; have R3 := Lib.hid (show XB4 (w.heap.size + 1) 0 0 0 0 w3 from by first | exact HR1.out.upto ub id | exact (HR1.out.upto (Upto.refl (fun _ => False) _).drew id).upto ub id); have N3 := Lib.hid (show Rn A T p L c v w3 from by first | exact HA1.out.upto ub id id | exact HA1.out.drew.upto ub id id); have M3 := Lib.hid (show HC p M w3 from by first | exact HM1.out.upto ub id | exact (HM1.out.upto (Upto.refl (fun _ => False) _).drew id).upto ub id); have U3 := Lib.hid (show Upto (RSM A T p) w w3 from by first | exact U1.out.trans (ub.mono fun _ _ h => h.elim) | exact U1.out.drew.trans (ub.mono fun _ _ h => h.elim)); have r0 := R3.out.c0; have r1 := R3.out.c1; have r2 := R3.out.c2; have r3 := R3.out.c3; have zr0 := R3.out.z 0; have zr1 := R3.out.z 1; have zr2 := R3.out.z 2; have zr3 := R3.out.z 3; have lR3 := R3.out.l; clear hb3 ub)
  have xs := R3.out.set 0 0 (v oa) on
  have vs := (((((Upto.refl (fun i => i = w.heap.size + 1) w3).setCell (q := ⟨w.heap.size + 1, 0, none⟩) (.inl rfl) (.int .i64 0)).setCell (q := ⟨w.heap.size + 1, 1, none⟩) (.inl rfl) (.int .u32 0)).setCell (q := ⟨w.heap.size + 1, 2, none⟩) (.inl rfl) (.int .u32 (v oa))).setCell (q := ⟨w.heap.size + 1, 3, none⟩) (.inl rfl) (.int .i64 on))
  have ns := N3.out.upto vs (by omega) (by omega)
  have ms := M3.out.upto vs (by omega)
  have us := ((((U3.out.setCell (q := ⟨w.heap.size + 1, 0, none⟩) (.inr (Nat.le_succ _)) (.int .i64 0)).setCell (q := ⟨w.heap.size + 1, 1, none⟩) (.inr (Nat.le_succ _)) (.int .u32 0)).setCell (q := ⟨w.heap.size + 1, 2, none⟩) (.inr (Nat.le_succ _)) (.int .u32 (v oa))).setCell (q := ⟨w.heap.size + 1, 3, none⟩) (.inr (Nat.le_succ _)) (.int .i64 on))
  clear r0 r1 r2 r3 zr0 zr1 zr2 zr3 vs
  have g0 := xs.c0
  have g1 := xs.c1
  have g2 := xs.c2
  have g3 := xs.c3
  generalize ((((w3.setCell ⟨w.heap.size + 1, 0, none⟩ (.int .i64 0)).setCell ⟨w.heap.size + 1, 1, none⟩ (.int .u32 0)).setCell ⟨w.heap.size + 1, 2, none⟩ (.int .u32 (v oa))).setCell ⟨w.heap.size + 1, 3, none⟩ (.int .i64 on)) = W4 at xs ns ms us g0 g1 g2 g3 ⊢
  exact bodyPost_ret (v := .tuple #[.agg #[.int .i64 0, .int .u32 0, .int .u32 (v oa), .int .i64 on], .bool (true)]) (by simp [results, Try.results68, go_sem, g0, g1, g2, g3]) rfl ⟨rfl, ns, ms, us⟩
set_option maxRecDepth 100000 in
set_option maxHeartbeats 16000000 in
theorem do_p (k : Int) (i oa ob oc : Nat) (ow kn on : Int) (M : MM) (w : World) (h : Rn A T p L c v w) (hm : HC p M w) (hM : MOk M) (hpA : p ≠ A) (hpT : p ≠ T) (hi : i < L) (ha : oa < L) (hb : ob < L) (hc : oc < L) (hL : L < 9223372036854775808) (k0 : 0 ≤ kn) (k1 : kn < 4294967296) (hC : ∀ j, 0 ≤ c j ∧ c j < 4294967296) (hV : ∀ j, 0 ≤ v j ∧ v j < 4294967296) (hk : PK k ow) :
    Calls Try.prog 68 #[.pointer (some ⟨A, 0, none⟩), .int .i64 i, .agg #[.int .i64 k, .int .i64 ow, .int .i64 oa, .int .i64 ob, .int .i64 oc, .int .u32 kn, .int .i64 on]] w fun e w' => e = .returned (.tuple #[.agg #[.int .i64 0, .int .u32 0, .int .u32 0, .int .i64 0], .bool (false)]) ∧ Rn A T p L (pc k ow oa c v) (pv k ow kn i oa ob oc c v) w' ∧ HC p M w' ∧ Upto (RSM A T p) w w' := by
  have lA0 := h.la
  have lT0 := h.lt
  have lp0 : p < w.heap.size := hm.2.2.2.2.2.2
  have hne := h.ne
  have CO := Lib.hid (fun ek ex ep en k ow oa ob oc kn on left w => out_any ek ex ep en k ow oa ob oc kn on left w)
  obtain ⟨ob', xr, xx, zo, u0⟩ := do_new w k ow oa ob oc kn on
  have h1 := h.upto u0 id id
  have m1 := hm.upto u0 id
  have U0 := Lib.hid (u0.mono (T := RSM A T p) fun _ _ h => h.elim)
  have CP := Lib.hid (fun w h => pure_any (A := A) (T := T) (p := p) (L := L) (c := c) (v := v) k i oa ob oc ow kn on w h hi ha hb hc hL k0 k1 hC hV hk)
  have kb9 : (k == 9) = false := by rw [beq_eq_false_iff_ne]; unfold PK at hk; omega
  have kb10 : (k == 10) = false := by rw [beq_eq_false_iff_ne]; unfold PK at hk; omega
  have kb11 : (k == 11) = false := by rw [beq_eq_false_iff_ne]; unfold PK at hk; omega
  have kb12 : (k == 12) = false := by rw [beq_eq_false_iff_ne]; unfold PK at hk; omega
  have kb13 : (k == 13) = false := by rw [beq_eq_false_iff_ne]; unfold PK at hk; omega
  have kb14 : (k == 14) = false := by rw [beq_eq_false_iff_ne]; unfold PK at hk; omega
  have kb15 : (k == 15) = false := by rw [beq_eq_false_iff_ne]; unfold PK at hk; omega
  have kb16 : (k == 16) = false := by rw [beq_eq_false_iff_ne]; unfold PK at hk; omega
  clear hk
  have HV := Lib.hid hV
  clear h hm u0 hV hC
  go_enter Try.func68, Try.ntmps68
  go_upto_region 2 with fail
  generalize ((w.alloc (.cells #[.int .i64 k, .int .i64 ow, .int .i64 oa, .int .i64 ob, .int .i64 oc, .int .u32 kn, .int .i64 on] 31)).alloc (.cells #[.int .i64 0, .int .u32 0, .int .u32 0, .int .i64 0] 48)).alloc (.cells #[.int .i64 0, .int .u32 0, .int .u32 0, .int .i64 0] 48) = WA at ob' xr xx zo h1 m1 U0 ⊢
  have HA := Lib.hid h1
  have HM := Lib.hid m1
  have HB := Lib.hid ob'
  have HR := Lib.hid xr
  have HX := Lib.hid xx
  have ZO := Lib.hid zo
  clear h1 m1 ob' xr xx zo
  have b0 := HB.out.c0
  have b1 := HB.out.c1
  have b2 := HB.out.c2
  have b3 := HB.out.c3
  have b4 := HB.out.c4
  have b5 := HB.out.c5
  have b6 := HB.out.c6
  have x0 := HX.out.c0
  have r0 := HR.out.c0
  have zr0 := HR.out.z 0
  have x1 := HX.out.c1
  have r1 := HR.out.c1
  have zr1 := HR.out.z 1
  have x2 := HX.out.c2
  have r2 := HR.out.c2
  have zr2 := HR.out.z 2
  have x3 := HX.out.c3
  have r3 := HR.out.c3
  have zr3 := HR.out.z 3
  have lX := HX.out.l
  have lR := HR.out.l
  go_wp2_with (go_at_call 116; (with_reducible refine (CP.out _ (by first | exact HA.out | exact HA.out.drew)).mono ?_); rintro e w3 ⟨rfl, n3, u3⟩; have N3 := Lib.hid n3; have hs1 : ¬ RS A T (w.heap.size + 1) := (by unfold RS; omega); have hs2 : ¬ RS A T (w.heap.size + 1 + 1) := (by unfold RS; omega); have hsp : ¬ RS A T p := (by unfold RS; omega); have R3 := Lib.hid (HR.out.upto u3 hs1); have X3 := Lib.hid (HX.out.upto u3 hs2); have M3 := Lib.hid (HM.out.upto u3 hsp); have U3 := Lib.hid (U0.out.trans (u3.mono (T := RSM A T p) fun _ _ h => h.elim .inl fun h => .inr (.inl h))); have x0 := X3.out.c0; have x1 := X3.out.c1; have x2 := X3.out.c2; have x3 := X3.out.c3; have r0 := R3.out.c0; have r1 := R3.out.c1; have r2 := R3.out.c2; have r3 := R3.out.c3; have zr0 := R3.out.z 0; have zr1 := R3.out.z 1; have zr2 := R3.out.z 2; have zr3 := R3.out.z 3; have lR3 := R3.out.l; have lX3 := X3.out.l; clear n3 u3 hs1 hs2 hsp)
  have xs := R3.out.set 0 0 0 0
  have vs := (((((Upto.refl (fun i => i = w.heap.size + 1) w3).setCell (q := ⟨w.heap.size + 1, 0, none⟩) (.inl rfl) (.int .i64 0)).setCell (q := ⟨w.heap.size + 1, 1, none⟩) (.inl rfl) (.int .u32 0)).setCell (q := ⟨w.heap.size + 1, 2, none⟩) (.inl rfl) (.int .u32 0)).setCell (q := ⟨w.heap.size + 1, 3, none⟩) (.inl rfl) (.int .i64 0))
  have ns := N3.out.upto vs (by omega) (by omega)
  have ms := M3.out.upto vs (by omega)
  have us := ((((U3.out.setCell (q := ⟨w.heap.size + 1, 0, none⟩) (.inr (Nat.le_succ _)) (.int .i64 0)).setCell (q := ⟨w.heap.size + 1, 1, none⟩) (.inr (Nat.le_succ _)) (.int .u32 0)).setCell (q := ⟨w.heap.size + 1, 2, none⟩) (.inr (Nat.le_succ _)) (.int .u32 0)).setCell (q := ⟨w.heap.size + 1, 3, none⟩) (.inr (Nat.le_succ _)) (.int .i64 0))
  clear r0 r1 r2 r3 zr0 zr1 zr2 zr3 vs
  have g0 := xs.c0
  have g1 := xs.c1
  have g2 := xs.c2
  have g3 := xs.c3
  generalize ((((w3.setCell ⟨w.heap.size + 1, 0, none⟩ (.int .i64 0)).setCell ⟨w.heap.size + 1, 1, none⟩ (.int .u32 0)).setCell ⟨w.heap.size + 1, 2, none⟩ (.int .u32 0)).setCell ⟨w.heap.size + 1, 3, none⟩ (.int .i64 0)) = W4 at xs ns ms us g0 g1 g2 g3 ⊢
  exact bodyPost_ret (v := .tuple #[.agg #[.int .i64 0, .int .u32 0, .int .u32 0, .int .i64 0], .bool (false)]) (by simp [results, Try.results68, go_sem, g0, g1, g2, g3]) rfl ⟨rfl, ns, ms, us⟩
set_option maxRecDepth 100000 in
set_option maxHeartbeats 16000000 in
theorem do_10 (i oa ob oc : Nat) (ow kn on : Int) (M : MM) (w : World) (h : Rn A T p L c v w) (hm : HC p M w) (hM : MOk M) (hpA : p ≠ A) (hpT : p ≠ T) (hi : i < L) (ha : oa < L) (hb : ob < L) (hc : oc < L) (hL : L < 9223372036854775808) (k0 : 0 ≤ kn) (k1 : kn < 4294967296) (hC : ∀ j, 0 ≤ c j ∧ c j < 4294967296) (hV : ∀ j, 0 ≤ v j ∧ v j < 4294967296) (hw0 : 0 ≤ ow) (hw1 : ow < 3) :
    Calls Try.prog 68 #[.pointer (some ⟨A, 0, none⟩), .int .i64 i, .agg #[.int .i64 10, .int .i64 ow, .int .i64 oa, .int .i64 ob, .int .i64 oc, .int .u32 kn, .int .i64 on]] w fun e w' => e = .returned (.tuple #[.agg #[.int .i64 (St.stK 6 (sto M (v oa) (stn ow))), .int .u32 (St.stX (sto M (v oa) (stn ow))), .int .u32 kn, .int .i64 on], .bool (St.stK 6 (sto M (v oa) (stn ow)) != 0)]) ∧ Rn A T p L c v w' ∧ HC p (stm M (v oa) (stn ow) (v ob)) w' ∧ Upto (RSM A T p) w w' := by
  have lA0 := h.la
  have lT0 := h.lt
  have lp0 : p < w.heap.size := hm.2.2.2.2.2.2
  have hne := h.ne
  have CO := Lib.hid (fun ek ex ep en k ow oa ob oc kn on left w => out_any ek ex ep en k ow oa ob oc kn on left w)
  obtain ⟨ob', xr, xx, zo, u0⟩ := do_new w 10 ow oa ob oc kn on
  have h1 := h.upto u0 id id
  have m1 := hm.upto u0 id
  have U0 := Lib.hid (u0.mono (T := RSM A T p) fun _ _ h => h.elim)
  have CS := (fun w h => st_any p M ow (v oa) (v ob) w h hM hw0 hw1 (hV oa).1 (hV oa).2 (hV ob).1 (hV ob).2)
  simp only [St.stpV_eq] at CS
  generalize St.stK 6 (sto M (v oa) (stn ow)) = kk at CS ⊢
  generalize St.stX (sto M (v oa) (stn ow)) = xq at CS ⊢
  generalize stm M (v oa) (stn ow) (v ob) = M' at CS ⊢
  have CS := Lib.hid CS
  have HV := Lib.hid hV
  clear h hm u0 hV hC
  go_enter Try.func68, Try.ntmps68
  go_upto_region 2 with fail
  generalize ((w.alloc (.cells #[.int .i64 10, .int .i64 ow, .int .i64 oa, .int .i64 ob, .int .i64 oc, .int .u32 kn, .int .i64 on] 31)).alloc (.cells #[.int .i64 0, .int .u32 0, .int .u32 0, .int .i64 0] 48)).alloc (.cells #[.int .i64 0, .int .u32 0, .int .u32 0, .int .i64 0] 48) = WA at ob' xr xx zo h1 m1 U0 ⊢
  have HA := Lib.hid h1
  have HM := Lib.hid m1
  have HB := Lib.hid ob'
  have HR := Lib.hid xr
  have HX := Lib.hid xx
  have ZO := Lib.hid zo
  clear h1 m1 ob' xr xx zo
  have b0 := HB.out.c0
  have b1 := HB.out.c1
  have b2 := HB.out.c2
  have b3 := HB.out.c3
  have b4 := HB.out.c4
  have b5 := HB.out.c5
  have b6 := HB.out.c6
  have x0 := HX.out.c0
  have r0 := HR.out.c0
  have zr0 := HR.out.z 0
  have x1 := HX.out.c1
  have r1 := HR.out.c1
  have zr1 := HR.out.z 1
  have x2 := HX.out.c2
  have r2 := HR.out.c2
  have zr2 := HR.out.z 2
  have x3 := HX.out.c3
  have r3 := HR.out.c3
  have zr3 := HR.out.z 3
  have lX := HX.out.l
  have lR := HR.out.l
  have a13 := HA.out.t
  have am := HA.out.m
  have va := HA.out.v oa ha
  have ia0 : (0 : Int) ≤ (oa : Int) := by omega
  have ia1 : (oa : Int) < (L : Int) := by omega
  have lA := HA.out.la
  have lT := HA.out.lt
  have vb := HA.out.v ob hb
  have ib0 : (0 : Int) ≤ (ob : Int) := by omega
  have ib1 : (ob : Int) < (L : Int) := by omega
  have n1 : ¬ w.heap.size = w.heap.size + 1 + 1 := by omega
  have n2 : ¬ A = w.heap.size + 1 + 1 := by omega
  have n3 : ¬ T = w.heap.size + 1 + 1 := by omega
  have hA3 : ¬ A = p := fun e => hpA e.symm
  have hT3 : ¬ T = p := fun e => hpT e.symm
  have hp1 : ¬ w.heap.size = p := by omega
  have hp2 : ¬ w.heap.size + 1 = p := by omega
  have hp3 : ¬ w.heap.size + 1 + 1 = p := by omega
  go_upto_region 9 with fail
  go_region_held3 (fun W => W.cell? ⟨A, 0, none⟩ = some (.pointer (some ⟨p, 0, none⟩)) ∧ W.cell? ⟨w.heap.size, 1, none⟩ = some (.int .i64 ow) ∧ W.cell? ⟨w.heap.size, 2, none⟩ = some (.int .i64 (oa : Int)) ∧ W.cell? ⟨w.heap.size, 3, none⟩ = some (.int .i64 (ob : Int)) ∧ W.cell? ⟨A, 13, none⟩ = some (.slice (some ⟨T, 0, none⟩) L L) ∧ W.cell? ⟨T, oa, none⟩ = some (.int .u32 (v oa)) ∧ W.cell? ⟨T, ob, none⟩ = some (.int .u32 (v ob)) ∧ (W.cell? ⟨w.heap.size + 1 + 1, 0, none⟩).isSome = true ∧ W.frozen? ⟨w.heap.size + 1 + 1, 0, none⟩ = false ∧ (W.cell? ⟨w.heap.size + 1 + 1, 1, none⟩).isSome = true ∧ W.frozen? ⟨w.heap.size + 1 + 1, 1, none⟩ = false) (first | exact s10 HX.out HB.out HA.out ha hb | exact s10 HX.out.drew HB.out.drew HA.out.drew ha hb | exact s10 X2 O2 N2.out ha hb | exact s10k X2 O2 N2.out ha hb n1 n2 n3 _ _)
    ((first | (go_at_call 115; (with_reducible refine (CS.out _ (by first | exact HM.out | exact HM.out.upto (Upto.refl (fun _ => False) _).drew id)).mono ?_); rintro e w2 ⟨rfl, m2, u2⟩; have N2 := Lib.hid (show Rn A T p L c v w2 from by first | exact HA.out.upto u2 hA3 hT3 | exact HA.out.drew.upto u2 hA3 hT3); have X2 : XB4 (w.heap.size + 1 + 1) 0 0 0 0 w2 := (by first | exact HX.out.upto u2 hp3 | exact HX.out.drew.upto u2 hp3); have R2 : XB4 (w.heap.size + 1) 0 0 0 0 w2 := (by first | exact HR.out.upto u2 hp2 | exact HR.out.drew.upto u2 hp2); have O2 : OB w.heap.size 10 ow oa ob oc kn on w2 := (by first | exact HB.out.upto u2 hp1 | exact HB.out.drew.upto u2 hp1); have U2 := Lib.hid (show Upto (RSM A T p) w w2 from by first | exact U0.out.trans (u2.mono fun _ _ h => .inr (.inr h)) | exact U0.out.drew.trans (u2.mono fun _ _ h => .inr (.inr h))); have M2 := Lib.hid m2; have x0 := X2.c0; have x1 := X2.c1; have zx0 := X2.z 0; have zx1 := X2.z 1; have lX2 := X2.l; clear m2 u2)))
  all_goals go_upto_region 10 with fail
  all_goals
    have vs := ((Upto.refl (fun i => i = w.heap.size + 1 + 1) w2).setCell (q := ⟨w.heap.size + 1 + 1, 0, none⟩) (.inl rfl) (.int .i64 kk)).setCell (q := ⟨w.heap.size + 1 + 1, 1, none⟩) (.inl rfl) (.int .u32 xq)
    have us := (U2.out.setCell (q := ⟨w.heap.size + 1 + 1, 0, none⟩) (.inr (Nat.le_trans (Nat.le_succ _) (Nat.le_succ _))) (.int .i64 kk)).setCell (q := ⟨w.heap.size + 1 + 1, 1, none⟩) (.inr (Nat.le_trans (Nat.le_succ _) (Nat.le_succ _))) (.int .u32 xq)
    have HX1 := Lib.hid (X2.set2 kk xq)
    have HA1 := Lib.hid (N2.out.upto vs n2 n3)
    have HM1 := Lib.hid (M2.out.upto vs (by omega))
    have HR1 := Lib.hid (R2.upto vs (by omega))
    have HB1 := Lib.hid (O2.upto vs n1)
    have U1 := Lib.hid us
    clear vs us X2 O2 R2 N2 M2 U2 am a13 va vb x0 x1 x2 x3 r0 r1 r2 r3 zr0 zr1 zr2 zr3 b0 b1 b2 b3 b4 b5 b6 lX lR lA lT
    generalize (w2.setCell ⟨w.heap.size + 1 + 1, 0, none⟩ (.int .i64 kk)).setCell ⟨w.heap.size + 1 + 1, 1, none⟩ (.int .u32 xq) = WB at HX1 HA1 HM1 HR1 HB1 U1 ⊢
    have b0 := HB1.out.c0
    have b1 := HB1.out.c1
    have b2 := HB1.out.c2
    have b3 := HB1.out.c3
    have b4 := HB1.out.c4
    have b5 := HB1.out.c5
    have b6 := HB1.out.c6
    have x0 := HX1.out.c0
    have x1 := HX1.out.c1
    have x2 := HX1.out.c2
    have x3 := HX1.out.c3
    have lX1 := HX1.out.l
    have lR1 := HR1.out.l
    have lB1 := HB1.out.l
    go_wp2_with (go_at_call 114; (with_reducible refine (CO.out _ _ _ _ _ _ _ _ _ _ _ _ _).mono ?_); rintro e w3 ⟨rfl, hb3⟩; have ub := Upto.of_below (S := fun _ => False) hb3; have R3 := Lib.hid (show XB4 (w.heap.size + 1) 0 0 0 0 w3 from by first | exact HR1.out.upto ub id | exact (HR1.out.upto (Upto.refl (fun _ => False) _).drew id).upto ub id); have N3 := Lib.hid (show Rn A T p L c v w3 from by first | exact HA1.out.upto ub id id | exact HA1.out.drew.upto ub id id); have M3 := Lib.hid (show HC p M' w3 from by first | exact HM1.out.upto ub id | exact (HM1.out.upto (Upto.refl (fun _ => False) _).drew id).upto ub id); have U3 := Lib.hid (show Upto (RSM A T p) w w3 from by first | exact U1.out.trans (ub.mono fun _ _ h => h.elim) | exact U1.out.drew.trans (ub.mono fun _ _ h => h.elim)); have r0 := R3.out.c0; have r1 := R3.out.c1; have r2 := R3.out.c2; have r3 := R3.out.c3; have zr0 := R3.out.z 0; have zr1 := R3.out.z 1; have zr2 := R3.out.z 2; have zr3 := R3.out.z 3; have lR3 := R3.out.l; clear hb3 ub)
    have xs := R3.out.set kk xq kn on
    have vs := (((((Upto.refl (fun i => i = w.heap.size + 1) w3).setCell (q := ⟨w.heap.size + 1, 0, none⟩) (.inl rfl) (.int .i64 kk)).setCell (q := ⟨w.heap.size + 1, 1, none⟩) (.inl rfl) (.int .u32 xq)).setCell (q := ⟨w.heap.size + 1, 2, none⟩) (.inl rfl) (.int .u32 kn)).setCell (q := ⟨w.heap.size + 1, 3, none⟩) (.inl rfl) (.int .i64 on))
    have ns := N3.out.upto vs (by omega) (by omega)
    have ms := M3.out.upto vs (by omega)
    have us := ((((U3.out.setCell (q := ⟨w.heap.size + 1, 0, none⟩) (.inr (Nat.le_succ _)) (.int .i64 kk)).setCell (q := ⟨w.heap.size + 1, 1, none⟩) (.inr (Nat.le_succ _)) (.int .u32 xq)).setCell (q := ⟨w.heap.size + 1, 2, none⟩) (.inr (Nat.le_succ _)) (.int .u32 kn)).setCell (q := ⟨w.heap.size + 1, 3, none⟩) (.inr (Nat.le_succ _)) (.int .i64 on))
    clear r0 r1 r2 r3 zr0 zr1 zr2 zr3 vs
    have g0 := xs.c0
    have g1 := xs.c1
    have g2 := xs.c2
    have g3 := xs.c3
    generalize ((((w3.setCell ⟨w.heap.size + 1, 0, none⟩ (.int .i64 kk)).setCell ⟨w.heap.size + 1, 1, none⟩ (.int .u32 xq)).setCell ⟨w.heap.size + 1, 2, none⟩ (.int .u32 kn)).setCell ⟨w.heap.size + 1, 3, none⟩ (.int .i64 on)) = W4 at xs ns ms us g0 g1 g2 g3 ⊢
    exact bodyPost_ret (v := .tuple #[.agg #[.int .i64 kk, .int .u32 xq, .int .u32 kn, .int .i64 on], .bool (kk != 0)]) (by simp [results, Try.results68, go_sem, g0, g1, g2, g3]) rfl ⟨rfl, ns, ms, us⟩
set_option maxRecDepth 100000 in
set_option maxHeartbeats 16000000 in
theorem do_9 (i oa ob oc : Nat) (ow kn on : Int) (M : MM) (w : World) (h : Rn A T p L c v w) (hm : HC p M w) (hM : MOk M) (hpA : p ≠ A) (hpT : p ≠ T) (hi : i < L) (ha : oa < L) (hb : ob < L) (hc : oc < L) (hL : L < 9223372036854775808) (k0 : 0 ≤ kn) (k1 : kn < 4294967296) (hC : ∀ j, 0 ≤ c j ∧ c j < 4294967296) (hV : ∀ j, 0 ≤ v j ∧ v j < 4294967296) (hw0 : 0 ≤ ow) (hw1 : ow < 5) :
    Calls Try.prog 68 #[.pointer (some ⟨A, 0, none⟩), .int .i64 i, .agg #[.int .i64 9, .int .i64 ow, .int .i64 oa, .int .i64 ob, .int .i64 oc, .int .u32 kn, .int .i64 on]] w fun e w' => e = .returned (.tuple #[.agg #[.int .i64 (St.stK 5 (srch M 1 (v oa) (ldn ow).toNat)), .int .u32 (St.stX (srch M 1 (v oa) (ldn ow).toNat)), .int .u32 kn, .int .i64 on], .bool (St.stK 5 (srch M 1 (v oa) (ldn ow).toNat) != 0)]) ∧ Rn A T p L c (upd v i (wid ow (ldv M (v oa) (ldn ow)))) w' ∧ HC p M w' ∧ Upto (RSM A T p) w w' := by
  have lA0 := h.la
  have lT0 := h.lt
  have lp0 : p < w.heap.size := hm.2.2.2.2.2.2
  have hne := h.ne
  have CO := Lib.hid (fun ek ex ep en k ow oa ob oc kn on left w => out_any ek ex ep en k ow oa ob oc kn on left w)
  obtain ⟨ob', xr, xx, zo, u0⟩ := do_new w 9 ow oa ob oc kn on
  have h1 := h.upto u0 id id
  have m1 := hm.upto u0 id
  have U0 := Lib.hid (u0.mono (T := RSM A T p) fun _ _ h => h.elim)
  have CS := (fun w h => ld_any p M ow (v oa) w h hM hw0 hw1 (hV oa).1 (hV oa).2)
  simp only [St.stpV_eq] at CS
  generalize St.stK 5 (srch M 1 (v oa) (ldn ow).toNat) = kk at CS ⊢
  generalize St.stX (srch M 1 (v oa) (ldn ow).toNat) = xq at CS ⊢
  generalize wid ow (ldv M (v oa) (ldn ow)) = z at CS ⊢
  have CS := Lib.hid CS
  have HV := Lib.hid hV
  clear h hm u0 hV hC
  go_enter Try.func68, Try.ntmps68
  go_upto_region 2 with fail
  generalize ((w.alloc (.cells #[.int .i64 9, .int .i64 ow, .int .i64 oa, .int .i64 ob, .int .i64 oc, .int .u32 kn, .int .i64 on] 31)).alloc (.cells #[.int .i64 0, .int .u32 0, .int .u32 0, .int .i64 0] 48)).alloc (.cells #[.int .i64 0, .int .u32 0, .int .u32 0, .int .i64 0] 48) = WA at ob' xr xx zo h1 m1 U0 ⊢
  have HA := Lib.hid h1
  have HM := Lib.hid m1
  have HB := Lib.hid ob'
  have HR := Lib.hid xr
  have HX := Lib.hid xx
  have ZO := Lib.hid zo
  clear h1 m1 ob' xr xx zo
  have b0 := HB.out.c0
  have b1 := HB.out.c1
  have b2 := HB.out.c2
  have b3 := HB.out.c3
  have b4 := HB.out.c4
  have b5 := HB.out.c5
  have b6 := HB.out.c6
  have x0 := HX.out.c0
  have r0 := HR.out.c0
  have zr0 := HR.out.z 0
  have x1 := HX.out.c1
  have r1 := HR.out.c1
  have zr1 := HR.out.z 1
  have x2 := HX.out.c2
  have r2 := HR.out.c2
  have zr2 := HR.out.z 2
  have x3 := HX.out.c3
  have r3 := HR.out.c3
  have zr3 := HR.out.z 3
  have lX := HX.out.l
  have lR := HR.out.l
  have a13 := HA.out.t
  have am := HA.out.m
  have va := HA.out.v oa ha
  have ia0 : (0 : Int) ≤ (oa : Int) := by omega
  have ia1 : (oa : Int) < (L : Int) := by omega
  have lA := HA.out.la
  have lT := HA.out.lt
  have lX9 := HX.out.l
  have lB9 := HB.out.l
  go_upto_region 4 with fail
  have n1 : ¬ w.heap.size = WA.heap.size := by omega
  have n2 : ¬ A = WA.heap.size := by omega
  have n3 : ¬ T = WA.heap.size := by omega
  go_region_held3 (fun W => W.cell? ⟨A, 0, none⟩ = some (.pointer (some ⟨p, 0, none⟩)) ∧ W.cell? ⟨w.heap.size, 1, none⟩ = some (.int .i64 ow) ∧ W.cell? ⟨w.heap.size, 2, none⟩ = some (.int .i64 (oa : Int)) ∧ W.cell? ⟨A, 13, none⟩ = some (.slice (some ⟨T, 0, none⟩) L L) ∧ W.cell? ⟨T, oa, none⟩ = some (.int .u32 (v oa))) (first | exact s9 HB.out HA.out ha | exact s9 HB.out.drew HA.out.drew ha | exact s9 (HB.out.upto ((Upto.refl (fun _ => False) WA).alloc _).drew id) (HA.out.upto ((Upto.refl (fun _ => False) WA).alloc _).drew id id) ha | exact s9a HB.out HA.out ha _ | exact s9 O2.out N2.out ha | exact s9a O2.out N2.out ha _ | exact s9k O2.out N2.out ha n1 n2 n3 _ _)
    ((first | (go_at_call 113; (with_reducible refine (CS.out _ (by first | exact HM.out | exact HM.out.upto (Upto.refl (fun _ => False) WA).drew id | exact HM.out.upto ((Upto.refl (fun _ => False) WA).alloc _) id | exact HM.out.upto ((Upto.refl (fun _ => False) WA).alloc _).drew id)).mono ?_); rintro e w2 ⟨rfl, bw⟩; have u2 := Upto.of_below (S := fun _ => False) bw; have ua : Upto (fun _ => False) WA w2 := (by first | exact u2 | exact ((Upto.refl (fun _ => False) WA).drew).trans u2 | exact ((Upto.refl (fun _ => False) WA).alloc _).trans u2 | exact (((Upto.refl (fun _ => False) WA).alloc _).drew).trans u2); have N2 := Lib.hid (HA.out.upto ua id id); have X2 := Lib.hid (HX.out.upto ua id); have R2 := Lib.hid (HR.out.upto ua id); have O2 := Lib.hid (HB.out.upto ua id); have U2 := Lib.hid (U0.out.trans (ua.mono (T := RSM A T p) fun _ _ h => h.elim)); have M2 := Lib.hid (HM.out.upto ua id); (first | (have KB2 : KB WA.heap.size 0 0 w2 := (by first | exact (KB.new WA 0 0 _).upto u2 id | exact ((KB.new WA 0 0 _).upto (Upto.refl (fun _ => False) _).drew id).upto u2 id); have kq0 := KB2.c0; have kq1 := KB2.c1; have kz0 := KB2.z 0; have kz1 := KB2.z 1; have lq := KB2.l) | skip); clear bw u2 ua)))
  · have lX2 := X2.out.l
    have lW := O2.out.l
    have vs := (Upto.refl (fun _ => False) w2).alloc (.cells #[.int .i64 kk, .int .u32 xq] 46)
    have kd := KB.new w2 kk xq 46
    have na := N2.out.upto vs id id
    have xa := X2.out.upto vs id
    have ra := R2.out.upto vs id
    have oa' := O2.out.upto vs id
    have ma := M2.out.upto vs id
    have ua := U2.out.trans (vs.mono (T := RSM A T p) fun _ _ h => h.elim)
    have dA : ¬ w2.heap.size = A := by omega
    have dT : ¬ w2.heap.size = T := by omega
    have d0 : ¬ w2.heap.size = w.heap.size := by omega
    have d1 : ¬ w2.heap.size = w.heap.size + 1 := by omega
    have d2 : ¬ w2.heap.size = w.heap.size + 1 + 1 := by omega
    generalize w2.alloc (.cells #[.int .i64 kk, .int .u32 xq] 46) = W4 at vs kd na xa ra oa' ma ua ⊢
    clear vs N2 X2 R2 O2 M2 U2 am a13 va x0 x1 x2 x3 r0 r1 r2 r3 zr0 zr1 zr2 zr3 b0 b1 b2 b3 b4 b5 b6 lX lR lA lT
    generalize w2.heap.size = D at kd dA dT d0 d1 d2 ⊢
    have NA := Lib.hid na
    have XA := Lib.hid xa
    have RA := Lib.hid ra
    have OA := Lib.hid oa'
    have MA := Lib.hid ma
    have UA := Lib.hid ua
    have KD := Lib.hid kd
    have a13 := na.t
    have vi := na.v i hi
    have zi := na.zt i
    have lA := na.la
    have lT := na.lt
    clear na xa ra oa' ma ua kd
    have ii0 : (0 : Int) ≤ (i : Int) := by omega
    have ii1 : (i : Int) < (L : Int) := by omega
    have hlw := hL
    go_upto_region 6 with fail
    have vs := (Upto.refl (fun k => k = T) W4).setCell (q := ⟨T, i, none⟩) (.inl rfl) (.int .u32 z)
    have na := NA.out.setV i hi z
    have xa := XA.out.upto vs (by omega)
    have ra := RA.out.upto vs (by omega)
    have oa' := OA.out.upto vs (by omega)
    have ma := MA.out.upto vs hpT
    have kd := KD.out.upto vs dT
    have ua := UA.out.setCell (q := ⟨T, i, none⟩) (.inl (.inr (.inl rfl))) (.int .u32 z)
    clear a13 vi zi lA lT
    generalize W4.setCell ⟨T, i, none⟩ (.int .u32 z) = W5 at vs na xa ra oa' ma kd ua ⊢
    clear vs NA XA RA OA MA UA KD
    have k0' := kd.c0
    have k1' := kd.c1
    have lk := kd.l
    have x0 := xa.c0
    have x1 := xa.c1
    have zx0 := xa.z 0
    have zx1 := xa.z 1
    have lx := xa.l
    have NA := Lib.hid na
    have XA := Lib.hid xa
    have RA := Lib.hid ra
    have OA := Lib.hid oa'
    have MA := Lib.hid ma
    have UA := Lib.hid ua
    have KD := Lib.hid kd
    clear na xa ra oa' ma ua kd
    go_upto_region 7 with fail
    have vs := ((Upto.refl (fun i => i = w.heap.size + 1 + 1) W5).setCell (q := ⟨w.heap.size + 1 + 1, 0, none⟩) (.inl rfl) (.int .i64 kk)).setCell (q := ⟨w.heap.size + 1 + 1, 1, none⟩) (.inl rfl) (.int .u32 xq)
    have xa := XA.out.set2 kk xq
    have na := NA.out.upto vs (by omega) (by omega)
    have ra := RA.out.upto vs (by omega)
    have oa' := OA.out.upto vs (by omega)
    have ma := MA.out.upto vs (by omega)
    have kd := KD.out.upto vs d2
    have ua := (UA.out.setCell (q := ⟨w.heap.size + 1 + 1, 0, none⟩) (.inr (Nat.le_trans (Nat.le_succ _) (Nat.le_succ _))) (.int .i64 kk)).setCell (q := ⟨w.heap.size + 1 + 1, 1, none⟩) (.inr (Nat.le_trans (Nat.le_succ _) (Nat.le_succ _))) (.int .u32 xq)
    clear k0' k1' lk x0 x1 zx0 zx1 lx
    generalize (W5.setCell ⟨w.heap.size + 1 + 1, 0, none⟩ (.int .i64 kk)).setCell ⟨w.heap.size + 1 + 1, 1, none⟩ (.int .u32 xq) = W6 at vs na xa ra oa' ma kd ua ⊢
    clear vs NA XA RA OA MA UA KD
    have NA := Lib.hid na
    have RA := Lib.hid ra
    have MA := Lib.hid ma
    have UA := Lib.hid ua
    have x0 := xa.c0
    have x1 := xa.c1
    have x2 := xa.c2
    have x3 := xa.c3
    have b0 := oa'.c0
    have b1 := oa'.c1
    have b2 := oa'.c2
    have b3 := oa'.c3
    have b4 := oa'.c4
    have b5 := oa'.c5
    have b6 := oa'.c6
    have k0' := kd.c0
    have lk := kd.l
    have lx := xa.l
    have lo := oa'.l
    have lr := ra.l
    clear na xa ra oa' ma ua kd
    go_wp2_with (go_at_call 114; (with_reducible refine (CO.out _ _ _ _ _ _ _ _ _ _ _ _ _).mono ?_); rintro e w3 ⟨rfl, hb3⟩; have ub := Upto.of_below (S := fun _ => False) hb3; have R3 := Lib.hid (show XB4 (w.heap.size + 1) 0 0 0 0 w3 from by first | exact RA.out.upto ub id | exact (RA.out.upto (Upto.refl (fun _ => False) _).drew id).upto ub id); have N3 := Lib.hid (show Rn A T p L c (upd v i z) w3 from by first | exact NA.out.upto ub id id | exact NA.out.drew.upto ub id id); have M3 := Lib.hid (show HC p M w3 from by first | exact MA.out.upto ub id | exact (MA.out.upto (Upto.refl (fun _ => False) _).drew id).upto ub id); have U3 := Lib.hid (show Upto (RSM A T p) w w3 from by first | exact UA.out.trans (ub.mono fun _ _ h => h.elim) | exact UA.out.drew.trans (ub.mono fun _ _ h => h.elim)); have r0 := R3.out.c0; have r1 := R3.out.c1; have r2 := R3.out.c2; have r3 := R3.out.c3; have zr0 := R3.out.z 0; have zr1 := R3.out.z 1; have zr2 := R3.out.z 2; have zr3 := R3.out.z 3; have lR3 := R3.out.l; clear hb3 ub)
    have xs := R3.out.set kk xq kn on
    have vs := (((((Upto.refl (fun i => i = w.heap.size + 1) w3).setCell (q := ⟨w.heap.size + 1, 0, none⟩) (.inl rfl) (.int .i64 kk)).setCell (q := ⟨w.heap.size + 1, 1, none⟩) (.inl rfl) (.int .u32 xq)).setCell (q := ⟨w.heap.size + 1, 2, none⟩) (.inl rfl) (.int .u32 kn)).setCell (q := ⟨w.heap.size + 1, 3, none⟩) (.inl rfl) (.int .i64 on))
    have ns := N3.out.upto vs (by omega) (by omega)
    have ms := M3.out.upto vs (by omega)
    have us := ((((U3.out.setCell (q := ⟨w.heap.size + 1, 0, none⟩) (.inr (Nat.le_succ _)) (.int .i64 kk)).setCell (q := ⟨w.heap.size + 1, 1, none⟩) (.inr (Nat.le_succ _)) (.int .u32 xq)).setCell (q := ⟨w.heap.size + 1, 2, none⟩) (.inr (Nat.le_succ _)) (.int .u32 kn)).setCell (q := ⟨w.heap.size + 1, 3, none⟩) (.inr (Nat.le_succ _)) (.int .i64 on))
    clear r0 r1 r2 r3 zr0 zr1 zr2 zr3 vs
    have g0 := xs.c0
    have g1 := xs.c1
    have g2 := xs.c2
    have g3 := xs.c3
    generalize ((((w3.setCell ⟨w.heap.size + 1, 0, none⟩ (.int .i64 kk)).setCell ⟨w.heap.size + 1, 1, none⟩ (.int .u32 xq)).setCell ⟨w.heap.size + 1, 2, none⟩ (.int .u32 kn)).setCell ⟨w.heap.size + 1, 3, none⟩ (.int .i64 on)) = W4 at xs ns ms us g0 g1 g2 g3 ⊢
    exact bodyPost_ret (v := .tuple #[.agg #[.int .i64 kk, .int .u32 xq, .int .u32 kn, .int .i64 on], .bool (kk != 0)]) (by simp [results, Try.results68, go_sem, g0, g1, g2, g3]) rfl ⟨rfl, ns, ms, us⟩
  · have lX2 := X2.out.l
    have lW := O2.out.l
    have vs := ((Upto.refl (fun i => i = WA.heap.size) w2).setCell (q := ⟨WA.heap.size, 0, none⟩) (.inl rfl) (.int .i64 kk)).setCell (q := ⟨WA.heap.size, 1, none⟩) (.inl rfl) (.int .u32 xq)
    have kd := KB2.set kk xq
    have na := N2.out.upto vs n2 n3
    have xa := X2.out.upto vs (by omega)
    have ra := R2.out.upto vs (by omega)
    have oa' := O2.out.upto vs n1
    have ma := M2.out.upto vs (by omega)
    have ua := (U2.out.setCell (q := ⟨WA.heap.size, 0, none⟩) (.inr (by show w.heap.size ≤ WA.heap.size; omega)) (.int .i64 kk)).setCell (q := ⟨WA.heap.size, 1, none⟩) (.inr (by show w.heap.size ≤ WA.heap.size; omega)) (.int .u32 xq)
    clear kq0 kq1 kz0 kz1 lq KB2
    have dA : ¬ WA.heap.size = A := by omega
    have dT : ¬ WA.heap.size = T := by omega
    have d0 : ¬ WA.heap.size = w.heap.size := by omega
    have d1 : ¬ WA.heap.size = w.heap.size + 1 := by omega
    have d2 : ¬ WA.heap.size = w.heap.size + 1 + 1 := by omega
    generalize (w2.setCell ⟨WA.heap.size, 0, none⟩ (.int .i64 kk)).setCell ⟨WA.heap.size, 1, none⟩ (.int .u32 xq) = W4 at vs kd na xa ra oa' ma ua ⊢
    clear vs N2 X2 R2 O2 M2 U2 am a13 va x0 x1 x2 x3 r0 r1 r2 r3 zr0 zr1 zr2 zr3 b0 b1 b2 b3 b4 b5 b6 lX lR lA lT
    generalize WA.heap.size = D at kd dA dT d0 d1 d2 ⊢
    have NA := Lib.hid na
    have XA := Lib.hid xa
    have RA := Lib.hid ra
    have OA := Lib.hid oa'
    have MA := Lib.hid ma
    have UA := Lib.hid ua
    have KD := Lib.hid kd
    have a13 := na.t
    have vi := na.v i hi
    have zi := na.zt i
    have lA := na.la
    have lT := na.lt
    clear na xa ra oa' ma ua kd
    have ii0 : (0 : Int) ≤ (i : Int) := by omega
    have ii1 : (i : Int) < (L : Int) := by omega
    have hlw := hL
    go_upto_region 6 with fail
    have vs := (Upto.refl (fun k => k = T) W4).setCell (q := ⟨T, i, none⟩) (.inl rfl) (.int .u32 z)
    have na := NA.out.setV i hi z
    have xa := XA.out.upto vs (by omega)
    have ra := RA.out.upto vs (by omega)
    have oa' := OA.out.upto vs (by omega)
    have ma := MA.out.upto vs hpT
    have kd := KD.out.upto vs dT
    have ua := UA.out.setCell (q := ⟨T, i, none⟩) (.inl (.inr (.inl rfl))) (.int .u32 z)
    clear a13 vi zi lA lT
    generalize W4.setCell ⟨T, i, none⟩ (.int .u32 z) = W5 at vs na xa ra oa' ma kd ua ⊢
    clear vs NA XA RA OA MA UA KD
    have k0' := kd.c0
    have k1' := kd.c1
    have lk := kd.l
    have x0 := xa.c0
    have x1 := xa.c1
    have zx0 := xa.z 0
    have zx1 := xa.z 1
    have lx := xa.l
    have NA := Lib.hid na
    have XA := Lib.hid xa
    have RA := Lib.hid ra
    have OA := Lib.hid oa'
    have MA := Lib.hid ma
    have UA := Lib.hid ua
    have KD := Lib.hid kd
    clear na xa ra oa' ma ua kd
    go_upto_region 7 with fail
    have vs := ((Upto.refl (fun i => i = w.heap.size + 1 + 1) W5).setCell (q := ⟨w.heap.size + 1 + 1, 0, none⟩) (.inl rfl) (.int .i64 kk)).setCell (q := ⟨w.heap.size + 1 + 1, 1, none⟩) (.inl rfl) (.int .u32 xq)
    have xa := XA.out.set2 kk xq
    have na := NA.out.upto vs (by omega) (by omega)
    have ra := RA.out.upto vs (by omega)
    have oa' := OA.out.upto vs (by omega)
    have ma := MA.out.upto vs (by omega)
    have kd := KD.out.upto vs d2
    have ua := (UA.out.setCell (q := ⟨w.heap.size + 1 + 1, 0, none⟩) (.inr (Nat.le_trans (Nat.le_succ _) (Nat.le_succ _))) (.int .i64 kk)).setCell (q := ⟨w.heap.size + 1 + 1, 1, none⟩) (.inr (Nat.le_trans (Nat.le_succ _) (Nat.le_succ _))) (.int .u32 xq)
    clear k0' k1' lk x0 x1 zx0 zx1 lx
    generalize (W5.setCell ⟨w.heap.size + 1 + 1, 0, none⟩ (.int .i64 kk)).setCell ⟨w.heap.size + 1 + 1, 1, none⟩ (.int .u32 xq) = W6 at vs na xa ra oa' ma kd ua ⊢
    clear vs NA XA RA OA MA UA KD
    have NA := Lib.hid na
    have RA := Lib.hid ra
    have MA := Lib.hid ma
    have UA := Lib.hid ua
    have x0 := xa.c0
    have x1 := xa.c1
    have x2 := xa.c2
    have x3 := xa.c3
    have b0 := oa'.c0
    have b1 := oa'.c1
    have b2 := oa'.c2
    have b3 := oa'.c3
    have b4 := oa'.c4
    have b5 := oa'.c5
    have b6 := oa'.c6
    have k0' := kd.c0
    have lk := kd.l
    have lx := xa.l
    have lo := oa'.l
    have lr := ra.l
    clear na xa ra oa' ma ua kd
    go_wp2_with (go_at_call 114; (with_reducible refine (CO.out _ _ _ _ _ _ _ _ _ _ _ _ _).mono ?_); rintro e w3 ⟨rfl, hb3⟩; have ub := Upto.of_below (S := fun _ => False) hb3; have R3 := Lib.hid (show XB4 (w.heap.size + 1) 0 0 0 0 w3 from by first | exact RA.out.upto ub id | exact (RA.out.upto (Upto.refl (fun _ => False) _).drew id).upto ub id); have N3 := Lib.hid (show Rn A T p L c (upd v i z) w3 from by first | exact NA.out.upto ub id id | exact NA.out.drew.upto ub id id); have M3 := Lib.hid (show HC p M w3 from by first | exact MA.out.upto ub id | exact (MA.out.upto (Upto.refl (fun _ => False) _).drew id).upto ub id); have U3 := Lib.hid (show Upto (RSM A T p) w w3 from by first | exact UA.out.trans (ub.mono fun _ _ h => h.elim) | exact UA.out.drew.trans (ub.mono fun _ _ h => h.elim)); have r0 := R3.out.c0; have r1 := R3.out.c1; have r2 := R3.out.c2; have r3 := R3.out.c3; have zr0 := R3.out.z 0; have zr1 := R3.out.z 1; have zr2 := R3.out.z 2; have zr3 := R3.out.z 3; have lR3 := R3.out.l; clear hb3 ub)
    have xs := R3.out.set kk xq kn on
    have vs := (((((Upto.refl (fun i => i = w.heap.size + 1) w3).setCell (q := ⟨w.heap.size + 1, 0, none⟩) (.inl rfl) (.int .i64 kk)).setCell (q := ⟨w.heap.size + 1, 1, none⟩) (.inl rfl) (.int .u32 xq)).setCell (q := ⟨w.heap.size + 1, 2, none⟩) (.inl rfl) (.int .u32 kn)).setCell (q := ⟨w.heap.size + 1, 3, none⟩) (.inl rfl) (.int .i64 on))
    have ns := N3.out.upto vs (by omega) (by omega)
    have ms := M3.out.upto vs (by omega)
    have us := ((((U3.out.setCell (q := ⟨w.heap.size + 1, 0, none⟩) (.inr (Nat.le_succ _)) (.int .i64 kk)).setCell (q := ⟨w.heap.size + 1, 1, none⟩) (.inr (Nat.le_succ _)) (.int .u32 xq)).setCell (q := ⟨w.heap.size + 1, 2, none⟩) (.inr (Nat.le_succ _)) (.int .u32 kn)).setCell (q := ⟨w.heap.size + 1, 3, none⟩) (.inr (Nat.le_succ _)) (.int .i64 on))
    clear r0 r1 r2 r3 zr0 zr1 zr2 zr3 vs
    have g0 := xs.c0
    have g1 := xs.c1
    have g2 := xs.c2
    have g3 := xs.c3
    generalize ((((w3.setCell ⟨w.heap.size + 1, 0, none⟩ (.int .i64 kk)).setCell ⟨w.heap.size + 1, 1, none⟩ (.int .u32 xq)).setCell ⟨w.heap.size + 1, 2, none⟩ (.int .u32 kn)).setCell ⟨w.heap.size + 1, 3, none⟩ (.int .i64 on)) = W4 at xs ns ms us g0 g1 g2 g3 ⊢
    exact bodyPost_ret (v := .tuple #[.agg #[.int .i64 kk, .int .u32 xq, .int .u32 kn, .int .i64 on], .bool (kk != 0)]) (by simp [results, Try.results68, go_sem, g0, g1, g2, g3]) rfl ⟨rfl, ns, ms, us⟩
end Go.Proofs.Ytcjcmnnhmajocab.Ev
