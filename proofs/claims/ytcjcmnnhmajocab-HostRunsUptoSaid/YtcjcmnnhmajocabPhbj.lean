/- host.Run. -/
import Derived.LoopN
import Derived.Outline
import Derived.Deep.QuietTactic
import Derived.BigQuiet
import Derived.Deep.LoopGhost
import Derived.Test.YtcjcmnnhmajocabPhbb
import Derived.Test.YtcjcmnnhmajocabPhbi
set_option linter.unusedVariables false
set_option linter.unusedSimpArgs false
set_option maxRecDepth 100000
set_option maxHeartbeats 16000000
namespace Go.Proofs.Ytcjcmnnhmajocab.Hr
open Go.RowKit Kt Me Fl Ev Ho
theorem MR.new (w : World) (K : Hk) (at_ : Int) (cx : Nat → Int) (t : TypeId) : MR w.heap.size K (pm0 at_ cx) (w.alloc (.cells #[.slice K.ao K.us.length K.cap, .int .i64 at_, .int .u32 (cx 0), .int .u32 (cx 1), .int .u32 (cx 2), .int .u32 (cx 3), .int .u32 (cx 4), .int .u32 (cx 5), .int .u32 (cx 6), .int .u32 (cx 7), .int .u32 (cx 8), .int .u32 (cx 9), .int .u32 (cx 10), .int .u32 (cx 11), .pointer (some ⟨K.p, 0, none⟩), .int .i64 K.left, .int .i64 0, .slice K.tao K.tab.length K.tcap, .int .u32 0, .int .u32 0, .int .u32 0, .int .u32 0, .int .u32 0, .int .u32 0, .int .u32 0, .int .u32 0, .int .u32 0, .int .u32 0, .int .u32 0, .int .u32 0, .int .u32 0, .int .u32 0, .int .u32 0, .int .u32 0, .int .i64 0, .int .i64 0, .int .i64 0, .int .i64 0, .int .i64 0, .int .i64 0, .int .i64 0, .int .i64 0, .int .i64 0, .int .i64 0, .int .i64 0, .int .i64 0, .int .i64 0, .int .i64 0, .int .i64 0, .int .i64 0, .map none, .int .i64 0, .int .i64 0, .bool false] t)) := by
 have b := fun i => box_at w #[.slice K.ao K.us.length K.cap, .int .i64 at_, .int .u32 (cx 0), .int .u32 (cx 1), .int .u32 (cx 2), .int .u32 (cx 3), .int .u32 (cx 4), .int .u32 (cx 5), .int .u32 (cx 6), .int .u32 (cx 7), .int .u32 (cx 8), .int .u32 (cx 9), .int .u32 (cx 10), .int .u32 (cx 11), .pointer (some ⟨K.p, 0, none⟩), .int .i64 K.left, .int .i64 0, .slice K.tao K.tab.length K.tcap, .int .u32 0, .int .u32 0, .int .u32 0, .int .u32 0, .int .u32 0, .int .u32 0, .int .u32 0, .int .u32 0, .int .u32 0, .int .u32 0, .int .u32 0, .int .u32 0, .int .u32 0, .int .u32 0, .int .u32 0, .int .u32 0, .int .i64 0, .int .i64 0, .int .i64 0, .int .i64 0, .int .i64 0, .int .i64 0, .int .i64 0, .int .i64 0, .int .i64 0, .int .i64 0, .int .i64 0, .int .i64 0, .int .i64 0, .int .i64 0, .int .i64 0, .int .i64 0, .map none, .int .i64 0, .int .i64 0, .bool false] t i
 refine ⟨b 0, b 1, fun j hj => ?_, b 14, b 15, b 16, b 17, fun j hj => ?_, fun j hj => ?_, b 50, b 51, b 52, b 53, fun j => fz_new w _ _ j, by simp⟩
 ·refine (b (2 + j)).trans ?_
  match j, hj with
  | 0, _ | 1, _ | 2, _ | 3, _ | 4, _ | 5, _ | 6, _ | 7, _ | 8, _ | 9, _ | 10, _ | 11, _ => rfl
  | n + 12, h => omega
 ·refine (b (18 + j)).trans ?_
  match j, hj with
  | 0, _ | 1, _ | 2, _ | 3, _ | 4, _ | 5, _ | 6, _ | 7, _ | 8, _ | 9, _ | 10, _ | 11, _ | 12, _ | 13, _ | 14, _ | 15, _ => rfl
  | n + 16, h => omega
 ·refine (b (34 + j)).trans ?_
  match j, hj with
  | 0, _ | 1, _ | 2, _ | 3, _ | 4, _ | 5, _ | 6, _ | 7, _ | 8, _ | 9, _ | 10, _ | 11, _ | 12, _ | 13, _ | 14, _ | 15, _ => rfl
  | n + 16, h => omega
theorem four_new (w : World) (K : Hk) (at_ : Int) (cx : Nat → Int) : let W := ((((w.alloc (.cells #[.int .u32 (cx 0), .int .u32 (cx 1), .int .u32 (cx 2), .int .u32 (cx 3), .int .u32 (cx 4), .int .u32 (cx 5), .int .u32 (cx 6), .int .u32 (cx 7), .int .u32 (cx 8), .int .u32 (cx 9), .int .u32 (cx 10), .int .u32 (cx 11)] 37)).alloc (.cells #[.int .u32 0, .int .u32 0, .int .u32 0, .int .u32 0, .int .u32 0, .int .u32 0, .int .u32 0, .int .u32 0, .int .u32 0, .int .u32 0, .int .u32 0, .int .u32 0] 37)).alloc (.cells #[.int .i64 0, .int .i64 0, .int .u32 0, .int .u32 0, .int .i64 0, .int .i64 0] 52)).alloc (.cells #[.slice K.ao K.us.length K.cap, .int .i64 at_, .int .u32 (cx 0), .int .u32 (cx 1), .int .u32 (cx 2), .int .u32 (cx 3), .int .u32 (cx 4), .int .u32 (cx 5), .int .u32 (cx 6), .int .u32 (cx 7), .int .u32 (cx 8), .int .u32 (cx 9), .int .u32 (cx 10), .int .u32 (cx 11), .pointer (some ⟨K.p, 0, none⟩), .int .i64 K.left, .int .i64 0, .slice K.tao K.tab.length K.tcap, .int .u32 0, .int .u32 0, .int .u32 0, .int .u32 0, .int .u32 0, .int .u32 0, .int .u32 0, .int .u32 0, .int .u32 0, .int .u32 0, .int .u32 0, .int .u32 0, .int .u32 0, .int .u32 0, .int .u32 0, .int .u32 0, .int .i64 0, .int .i64 0, .int .i64 0, .int .i64 0, .int .i64 0, .int .i64 0, .int .i64 0, .int .i64 0, .int .i64 0, .int .i64 0, .int .i64 0, .int .i64 0, .int .i64 0, .int .i64 0, .int .i64 0, .int .i64 0, .map none, .int .i64 0, .int .i64 0, .bool false] 169));
  CB w.heap.size cx W ∧ CB (w.heap.size + 1) (fun _ => 0) W ∧ LB (w.heap.size + 1 + 1) 0 0 0 0 0 0 W ∧ MR (w.heap.size + 1 + 1 + 1) K (pm0 at_ cx) W ∧ Upto (fun _ => False) w W := by
 intro W
 have u0 := Upto.refl (fun _ => False) w
 have c1 := CB.new w cx 37
 unfold ctL at c1
 have u1 := (Upto.refl (fun _ => False) (w.alloc (.cells #[.int .u32 (cx 0), .int .u32 (cx 1), .int .u32 (cx 2), .int .u32 (cx 3), .int .u32 (cx 4), .int .u32 (cx 5), .int .u32 (cx 6), .int .u32 (cx 7), .int .u32 (cx 8), .int .u32 (cx 9), .int .u32 (cx 10), .int .u32 (cx 11)] 37))).alloc (.cells #[.int .u32 0, .int .u32 0, .int .u32 0, .int .u32 0, .int .u32 0, .int .u32 0, .int .u32 0, .int .u32 0, .int .u32 0, .int .u32 0, .int .u32 0, .int .u32 0] 37)
 have c2 := CB.new (w.alloc (.cells #[.int .u32 (cx 0), .int .u32 (cx 1), .int .u32 (cx 2), .int .u32 (cx 3), .int .u32 (cx 4), .int .u32 (cx 5), .int .u32 (cx 6), .int .u32 (cx 7), .int .u32 (cx 8), .int .u32 (cx 9), .int .u32 (cx 10), .int .u32 (cx 11)] 37)) (fun _ => 0) 37
 unfold ctL at c2
 dsimp only at c2
 rw [show (w.alloc (.cells #[.int .u32 (cx 0), .int .u32 (cx 1), .int .u32 (cx 2), .int .u32 (cx 3), .int .u32 (cx 4), .int .u32 (cx 5), .int .u32 (cx 6), .int .u32 (cx 7), .int .u32 (cx 8), .int .u32 (cx 9), .int .u32 (cx 10), .int .u32 (cx 11)] 37)).heap.size = w.heap.size + 1 by simp] at c2
 have l3 := LB.new ((w.alloc (.cells #[.int .u32 (cx 0), .int .u32 (cx 1), .int .u32 (cx 2), .int .u32 (cx 3), .int .u32 (cx 4), .int .u32 (cx 5), .int .u32 (cx 6), .int .u32 (cx 7), .int .u32 (cx 8), .int .u32 (cx 9), .int .u32 (cx 10), .int .u32 (cx 11)] 37)).alloc (.cells #[.int .u32 0, .int .u32 0, .int .u32 0, .int .u32 0, .int .u32 0, .int .u32 0, .int .u32 0, .int .u32 0, .int .u32 0, .int .u32 0, .int .u32 0, .int .u32 0] 37)) 0 0 0 0 0 0 52
 rw [show ((w.alloc (.cells #[.int .u32 (cx 0), .int .u32 (cx 1), .int .u32 (cx 2), .int .u32 (cx 3), .int .u32 (cx 4), .int .u32 (cx 5), .int .u32 (cx 6), .int .u32 (cx 7), .int .u32 (cx 8), .int .u32 (cx 9), .int .u32 (cx 10), .int .u32 (cx 11)] 37)).alloc (.cells #[.int .u32 0, .int .u32 0, .int .u32 0, .int .u32 0, .int .u32 0, .int .u32 0, .int .u32 0, .int .u32 0, .int .u32 0, .int .u32 0, .int .u32 0, .int .u32 0] 37)).heap.size = w.heap.size + 1 + 1 by simp] at l3
 have m4 := MR.new (((w.alloc (.cells #[.int .u32 (cx 0), .int .u32 (cx 1), .int .u32 (cx 2), .int .u32 (cx 3), .int .u32 (cx 4), .int .u32 (cx 5), .int .u32 (cx 6), .int .u32 (cx 7), .int .u32 (cx 8), .int .u32 (cx 9), .int .u32 (cx 10), .int .u32 (cx 11)] 37)).alloc (.cells #[.int .u32 0, .int .u32 0, .int .u32 0, .int .u32 0, .int .u32 0, .int .u32 0, .int .u32 0, .int .u32 0, .int .u32 0, .int .u32 0, .int .u32 0, .int .u32 0] 37)).alloc (.cells #[.int .i64 0, .int .i64 0, .int .u32 0, .int .u32 0, .int .i64 0, .int .i64 0] 52)) K at_ cx 169
 rw [show (((w.alloc (.cells #[.int .u32 (cx 0), .int .u32 (cx 1), .int .u32 (cx 2), .int .u32 (cx 3), .int .u32 (cx 4), .int .u32 (cx 5), .int .u32 (cx 6), .int .u32 (cx 7), .int .u32 (cx 8), .int .u32 (cx 9), .int .u32 (cx 10), .int .u32 (cx 11)] 37)).alloc (.cells #[.int .u32 0, .int .u32 0, .int .u32 0, .int .u32 0, .int .u32 0, .int .u32 0, .int .u32 0, .int .u32 0, .int .u32 0, .int .u32 0, .int .u32 0, .int .u32 0] 37)).alloc (.cells #[.int .i64 0, .int .i64 0, .int .u32 0, .int .u32 0, .int .i64 0, .int .i64 0] 52)).heap.size = w.heap.size + 1 + 1 + 1 by simp] at m4
 have u2 := (Upto.refl (fun _ => False) ((w.alloc (.cells #[.int .u32 (cx 0), .int .u32 (cx 1), .int .u32 (cx 2), .int .u32 (cx 3), .int .u32 (cx 4), .int .u32 (cx 5), .int .u32 (cx 6), .int .u32 (cx 7), .int .u32 (cx 8), .int .u32 (cx 9), .int .u32 (cx 10), .int .u32 (cx 11)] 37)).alloc (.cells #[.int .u32 0, .int .u32 0, .int .u32 0, .int .u32 0, .int .u32 0, .int .u32 0, .int .u32 0, .int .u32 0, .int .u32 0, .int .u32 0, .int .u32 0, .int .u32 0] 37))).alloc (.cells #[.int .i64 0, .int .i64 0, .int .u32 0, .int .u32 0, .int .i64 0, .int .i64 0] 52)
 have u3 := (Upto.refl (fun _ => False) (((w.alloc (.cells #[.int .u32 (cx 0), .int .u32 (cx 1), .int .u32 (cx 2), .int .u32 (cx 3), .int .u32 (cx 4), .int .u32 (cx 5), .int .u32 (cx 6), .int .u32 (cx 7), .int .u32 (cx 8), .int .u32 (cx 9), .int .u32 (cx 10), .int .u32 (cx 11)] 37)).alloc (.cells #[.int .u32 0, .int .u32 0, .int .u32 0, .int .u32 0, .int .u32 0, .int .u32 0, .int .u32 0, .int .u32 0, .int .u32 0, .int .u32 0, .int .u32 0, .int .u32 0] 37)).alloc (.cells #[.int .i64 0, .int .i64 0, .int .u32 0, .int .u32 0, .int .i64 0, .int .i64 0] 52))).alloc (.cells #[.slice K.ao K.us.length K.cap, .int .i64 at_, .int .u32 (cx 0), .int .u32 (cx 1), .int .u32 (cx 2), .int .u32 (cx 3), .int .u32 (cx 4), .int .u32 (cx 5), .int .u32 (cx 6), .int .u32 (cx 7), .int .u32 (cx 8), .int .u32 (cx 9), .int .u32 (cx 10), .int .u32 (cx 11), .pointer (some ⟨K.p, 0, none⟩), .int .i64 K.left, .int .i64 0, .slice K.tao K.tab.length K.tcap, .int .u32 0, .int .u32 0, .int .u32 0, .int .u32 0, .int .u32 0, .int .u32 0, .int .u32 0, .int .u32 0, .int .u32 0, .int .u32 0, .int .u32 0, .int .u32 0, .int .u32 0, .int .u32 0, .int .u32 0, .int .u32 0, .int .i64 0, .int .i64 0, .int .i64 0, .int .i64 0, .int .i64 0, .int .i64 0, .int .i64 0, .int .i64 0, .int .i64 0, .int .i64 0, .int .i64 0, .int .i64 0, .int .i64 0, .int .i64 0, .int .i64 0, .int .i64 0, .map none, .int .i64 0, .int .i64 0, .bool false] 169)
 exact ⟨((c1.upto u1 id).upto u2 id).upto u3 id, (c2.upto u2 id).upto u3 id, l3.upto u3 id, m4, (((u0.alloc _).alloc _).alloc _).alloc _⟩
theorem back {p B : Nat} {S : Nat → Prop} {w a b : World} (h : Upto (fun i => i = p) w a) (k : Upto S a b) (hB : w.heap.size ≤ B) (hS : ∀ i, S i → i = p ∨ B ≤ i) : Upto (fun i => i = p) w b :=
 ((h.mono (T := fun i => i = p ∨ B ≤ i) fun _ _ e => .inl e).trans (k.mono fun i _ e => hS i e)).mono fun i hi e => e.elim id fun e => absurd hi (by omega)
theorem HR.upto {S : Nat → Prop} {base h n : Nat} {K : Hk} {t : Hst} {W W' : World} (a : HR base h K t n W) (u : Upto S W W') (h1 : ¬ S h) (h2 : ¬ S K.p) (h3 : ∀ b, t.s.sp = some b → ¬ S b) : HR base h K t n W' :=
 ⟨a.mr.upto u h1, a.hm.upto u h2, fun b hb => ⟨(a.sp b hb).1.upto u (h3 b hb), (a.sp b hb).2⟩⟩
theorem HR.drew {base h n : Nat} {K : Hk} {t : Hst} {W : World} (a : HR base h K t n W) : HR base h K t n W.drew := a.upto (Upto.refl (fun _ => False) W).drew id id fun _ _ => id
theorem XB.put {h : Nat} {x : Cd} {W : World} (a : XB h x W) (y : Cd) : XB h y ((((((((W.setCell ⟨h, 0, none⟩ (.int .i64 y.op)).setCell ⟨h, 1, none⟩ (.int .i64 y.d)).setCell ⟨h, 2, none⟩ (.int .i64 y.a)).setCell ⟨h, 3, none⟩ (.int .i64 y.b)).setCell ⟨h, 4, none⟩ (.int .i64 y.c)).setCell ⟨h, 5, none⟩ (.int .i64 y.n)).setCell ⟨h, 6, none⟩ (.int .u32 y.k)).setCell ⟨h, 7, none⟩ (.int .u32 y.x)) := by
 have g : ∀ {W : World} {i j : Nat} {v x : Value}, W.cell? ⟨h, i, none⟩ = some x → i ≠ j → (W.setCell ⟨h, j, none⟩ v).cell? ⟨h, i, none⟩ = some x := fun hx hn => (off hn).trans hx
 have h0 := World.cell?_setCell_same _ ⟨h, 0, none⟩ (.int .i64 y.op) a.c0
 have h1 := World.cell?_setCell_same _ ⟨h, 1, none⟩ (.int .i64 y.d) (g (j := 0) (v := .int .i64 y.op) a.c1 (by omega))
 have h2 := World.cell?_setCell_same _ ⟨h, 2, none⟩ (.int .i64 y.a) (g (j := 1) (v := .int .i64 y.d) (g (j := 0) (v := .int .i64 y.op) a.c2 (by omega)) (by omega))
 have h3 := World.cell?_setCell_same _ ⟨h, 3, none⟩ (.int .i64 y.b) (g (j := 2) (v := .int .i64 y.a) (g (j := 1) (v := .int .i64 y.d) (g (j := 0) (v := .int .i64 y.op) a.c3 (by omega)) (by omega)) (by omega))
 have h4 := World.cell?_setCell_same _ ⟨h, 4, none⟩ (.int .i64 y.c) (g (j := 3) (v := .int .i64 y.b) (g (j := 2) (v := .int .i64 y.a) (g (j := 1) (v := .int .i64 y.d) (g (j := 0) (v := .int .i64 y.op) a.c4 (by omega)) (by omega)) (by omega)) (by omega))
 have h5 := World.cell?_setCell_same _ ⟨h, 5, none⟩ (.int .i64 y.n) (g (j := 4) (v := .int .i64 y.c) (g (j := 3) (v := .int .i64 y.b) (g (j := 2) (v := .int .i64 y.a) (g (j := 1) (v := .int .i64 y.d) (g (j := 0) (v := .int .i64 y.op) a.c5 (by omega)) (by omega)) (by omega)) (by omega)) (by omega))
 have h6 := World.cell?_setCell_same _ ⟨h, 6, none⟩ (.int .u32 y.k) (g (j := 5) (v := .int .i64 y.n) (g (j := 4) (v := .int .i64 y.c) (g (j := 3) (v := .int .i64 y.b) (g (j := 2) (v := .int .i64 y.a) (g (j := 1) (v := .int .i64 y.d) (g (j := 0) (v := .int .i64 y.op) a.c6 (by omega)) (by omega)) (by omega)) (by omega)) (by omega)) (by omega))
 have h7 := World.cell?_setCell_same _ ⟨h, 7, none⟩ (.int .u32 y.x) (g (j := 6) (v := .int .u32 y.k) (g (j := 5) (v := .int .i64 y.n) (g (j := 4) (v := .int .i64 y.c) (g (j := 3) (v := .int .i64 y.b) (g (j := 2) (v := .int .i64 y.a) (g (j := 1) (v := .int .i64 y.d) (g (j := 0) (v := .int .i64 y.op) a.c7 (by omega)) (by omega)) (by omega)) (by omega)) (by omega)) (by omega)) (by omega))
 exact ⟨(g (g (g (g (g (g (g h0 (by omega)) (by omega)) (by omega)) (by omega)) (by omega)) (by omega)) (by omega)), (g (g (g (g (g (g h1 (by omega)) (by omega)) (by omega)) (by omega)) (by omega)) (by omega)), (g (g (g (g (g h2 (by omega)) (by omega)) (by omega)) (by omega)) (by omega)), (g (g (g (g h3 (by omega)) (by omega)) (by omega)) (by omega)), (g (g (g h4 (by omega)) (by omega)) (by omega)), (g (g h5 (by omega)) (by omega)), (g h6 (by omega)), h7, fun j => by simpa using a.z j, by simpa using a.l⟩
theorem up_put8 {S : Nat → Prop} {w W : World} {h : Nat} (b : Upto S w W) (hh : S h ∨ w.heap.size ≤ h) (y : Cd) : Upto S w ((((((((W.setCell ⟨h, 0, none⟩ (.int .i64 y.op)).setCell ⟨h, 1, none⟩ (.int .i64 y.d)).setCell ⟨h, 2, none⟩ (.int .i64 y.a)).setCell ⟨h, 3, none⟩ (.int .i64 y.b)).setCell ⟨h, 4, none⟩ (.int .i64 y.c)).setCell ⟨h, 5, none⟩ (.int .i64 y.n)).setCell ⟨h, 6, none⟩ (.int .u32 y.k)).setCell ⟨h, 7, none⟩ (.int .u32 y.x)) :=
 ((((((((b.setCell (q := ⟨h, 0, none⟩) hh (.int .i64 y.op)).setCell (q := ⟨h, 1, none⟩) hh (.int .i64 y.d)).setCell (q := ⟨h, 2, none⟩) hh (.int .i64 y.a)).setCell (q := ⟨h, 3, none⟩) hh (.int .i64 y.b)).setCell (q := ⟨h, 4, none⟩) hh (.int .i64 y.c)).setCell (q := ⟨h, 5, none⟩) hh (.int .i64 y.n)).setCell (q := ⟨h, 6, none⟩) hh (.int .u32 y.k)).setCell (q := ⟨h, 7, none⟩) hh (.int .u32 y.x))
theorem HR.at8 {base h0 n h : Nat} {K : Hk} {t : Hst} {sp : Option Nat} {W : World} (a : HR base h0 K (t.wsp sp) n W) (y : Cd) (h1 : h0 ≠ h) (h2 : K.p ≠ h) (h3 : ∀ b, sp = some b → b ≠ h) : HR base h0 K (t.wsp sp) n ((((((((W.setCell ⟨h, 0, none⟩ (.int .i64 y.op)).setCell ⟨h, 1, none⟩ (.int .i64 y.d)).setCell ⟨h, 2, none⟩ (.int .i64 y.a)).setCell ⟨h, 3, none⟩ (.int .i64 y.b)).setCell ⟨h, 4, none⟩ (.int .i64 y.c)).setCell ⟨h, 5, none⟩ (.int .i64 y.n)).setCell ⟨h, 6, none⟩ (.int .u32 y.k)).setCell ⟨h, 7, none⟩ (.int .u32 y.x)) := a.upto (up_put8 (S := fun i => i = h) (h := h) (Upto.refl _ W) (.inl rfl) y) h1 h2 h3
theorem LB.setAt {h : Nat} {k sk sx pc n at_ : Int} {W : World} (a : LB h k sk sx pc n at_ W) (x : Int) : LB h k sk sx pc n x (W.setCell ⟨h, 5, none⟩ (.int .i64 x)) :=
 ⟨(off (by omega)).trans a.c0, (off (by omega)).trans a.c1, (off (by omega)).trans a.c2, (off (by omega)).trans a.c3, (off (by omega)).trans a.c4, World.cell?_setCell_same _ _ _ a.c5, fun j => by simpa using a.z j, by simpa using a.l⟩
theorem XBz (w : World) : XB w.heap.size zcd (w.alloc (.cells #[.int .i64 0, .int .i64 0, .int .i64 0, .int .i64 0, .int .i64 0, .int .i64 0, .int .u32 0, .int .u32 0] 108)).drew := (XB.new w zcd 108).drew
theorem HR.al {base h n : Nat} {K : Hk} {t : Hst} {W : World} (a : HR base h K t n W) (o : Obj) : HR base h K t n (W.alloc o) := a.upto ((Upto.refl (fun _ => False) W).alloc _) id id fun _ _ => id
theorem l5 {base h n : Nat} {K : Hk} {t : Hst} {sp : Option Nat} {W : World} (a : HR base h K (t.wsp sp) n W) : W.cell? ⟨h, 0, none⟩ = some (.slice K.ao K.us.length K.cap) ∧ W.cell? ⟨h, 1, none⟩ = some (.int .i64 t.s.at_) := ⟨a.mr.w0, a.mr.at_⟩
theorem do_wsp {base h n : Nat} {K : Hk} {t : Hst} {x : Cd} {w : World} {sp : Option Nat} (R : HR base h K (t.wsp sp) n w) (ok : HRok base h K) (T : TOk t) (hx : CdOk x) (hsl : Sl K.us K.ao K.cap w) (htb : Tb K.tab K.tao K.tcap w) (hsp : x.op = 8 ∨ x.op = 9 → ∃ b, sp = some b) (hn : n < maxLen) (hbw : base ≤ w.heap.size) :
  Calls Try.prog 90 #[.pointer (some ⟨h, 0, none⟩), .agg #[.int .i64 x.op, .int .i64 x.d, .int .i64 x.a, .int .i64 x.b, .int .i64 x.c, .int .i64 x.n, .int .u32 x.k, .int .u32 x.x]] w fun e w' => ∃ sp', e = .returned (lfV (doP K x t).1) ∧ HR base h K ((doP K x t).2.wsp sp') (n + 1) w' ∧ Upto (SB base K.p) w w' ∧ ((∃ b, sp = some b) ∨ (x.op = 1 ∧ (doP K x t).1 = none) → ∃ b, sp' = some b) := by
 refine (do_any R ok ⟨T.c, T.r, T.M⟩ hx hsl htb hsp hn hbw).mono ?_
 rintro e w' ⟨sp', he, R', u, hs⟩
 rw [(doP_sp K x t sp sp').1] at he hs
 refine ⟨sp', he, ?_, u, hs⟩
 have e2 : ({ (doP K x (t.wsp sp)).2 with s := { (doP K x (t.wsp sp)).2.s with sp := sp' } } : Hst) = (doP K x t).2.wsp sp' := (doP_sp K x t sp sp').2
 rw [e2] at R'
 exact R'
theorem run_any (K : Hk) (at_ : Int) (cx : Nat → Int) (M : MM) (G : Nat) (RV : Res) (w : World) (hsl : Sl K.us K.ao K.cap w) (htb : Tb K.tab K.tao K.tcap w) (hm : HC K.p M w) (hus : UsOk K.us) (hl : K.us.length ≤ 1048576) (htl : K.tab.length ≤ 1048576) (hC : ∀ j, 0 ≤ cx j ∧ cx j < 4294967296) (hM : MOk M)
  (hw : ∀ g, K.ao = some g → 0 < K.us.length → g.block ≠ K.p) (ht : ∀ g, K.tao = some g → 0 < K.tab.length → g.block ≠ K.p) (hG : G ≤ 1152921504606846976) (hrun : runR K at_ cx M G = some RV) :
  Calls Try.prog 40 #[.slice K.ao K.us.length K.cap, .int .i64 at_, .agg #[.int .u32 (cx 0), .int .u32 (cx 1), .int .u32 (cx 2), .int .u32 (cx 3), .int .u32 (cx 4), .int .u32 (cx 5), .int .u32 (cx 6), .int .u32 (cx 7), .int .u32 (cx 8), .int .u32 (cx 9), .int .u32 (cx 10), .int .u32 (cx 11)], .pointer (some ⟨K.p, 0, none⟩), .int .i64 K.left, .slice K.tao K.tab.length K.tcap] w fun e w' => e = .returned (.tuple #[.agg (ctL RV.c), .agg #[.int .i64 RV.l.k, .int .i64 RV.l.sk, .int .u32 RV.l.sx, .int .u32 RV.l.pc, .int .i64 RV.l.n, .int .i64 RV.at_]]) ∧ HC K.p RV.M w' ∧ Upto (fun i => i = K.p) w w' := by
 have hpw : K.p < w.heap.size := hm.2.2.2.2.2.2
 have hwb : ∀ g, K.ao = some g → 0 < K.us.length → g.block < w.heap.size ∧ g.block ≠ K.p := fun g hg h0 => ⟨by obtain ⟨b, off, e, hb, _⟩ := hsl.2.2 h0; rw [hg] at e; cases e; exact hb, hw g hg h0⟩
 have htbk : ∀ g, K.tao = some g → 0 < K.tab.length → g.block < w.heap.size ∧ g.block ≠ K.p := fun g hg h0 => ⟨by obtain ⟨b, off, e, hb, _⟩ := htb.2.2 h0; rw [hg] at e; cases e; exact hb, ht g hg h0⟩
 have OK := κ (show HRok (w.heap.size + 1 + 1 + 1) (w.heap.size + 1 + 1 + 1) K from ⟨hus, htl, Nat.le_refl _, by omega, fun g hg h0 => ⟨by have := hwb g hg h0; omega, hw g hg h0⟩, fun g hg h0 => ⟨by have := htbk g hg h0; omega, ht g hg h0⟩⟩)
 have WB := κ hwb
 have TBK := κ htbk
 have SL := κ hsl
 have TB := κ htb
 have HM := κ hm
 have US := κ hus
 have TK := κ (show TOk (hst0 at_ cx M) from ⟨hC, fun _ => ⟨Int.le_refl _, (by decide : (0 : Int) < 4294967296)⟩, hM⟩)
 have HRU := κ hrun
 have HGG := κ hG
 have HL := κ hl
 have NW := four_new w K at_ cx
 dsimp only at NW
 clear hsl htb hm hus hC hM hw ht hwb htbk hrun hG hl htl
 go_enter Try.func40, Try.ntmps40
 go_upto_region 2 with fail
 generalize ((((w.alloc (.cells #[.int .u32 (cx 0), .int .u32 (cx 1), .int .u32 (cx 2), .int .u32 (cx 3), .int .u32 (cx 4), .int .u32 (cx 5), .int .u32 (cx 6), .int .u32 (cx 7), .int .u32 (cx 8), .int .u32 (cx 9), .int .u32 (cx 10), .int .u32 (cx 11)] 37)).alloc (.cells #[.int .u32 0, .int .u32 0, .int .u32 0, .int .u32 0, .int .u32 0, .int .u32 0, .int .u32 0, .int .u32 0, .int .u32 0, .int .u32 0, .int .u32 0, .int .u32 0] 37)).alloc (.cells #[.int .i64 0, .int .i64 0, .int .u32 0, .int .u32 0, .int .i64 0, .int .i64 0] 52)).alloc (.cells #[.slice K.ao K.us.length K.cap, .int .i64 at_, .int .u32 (cx 0), .int .u32 (cx 1), .int .u32 (cx 2), .int .u32 (cx 3), .int .u32 (cx 4), .int .u32 (cx 5), .int .u32 (cx 6), .int .u32 (cx 7), .int .u32 (cx 8), .int .u32 (cx 9), .int .u32 (cx 10), .int .u32 (cx 11), .pointer (some ⟨K.p, 0, none⟩), .int .i64 K.left, .int .i64 0, .slice K.tao K.tab.length K.tcap, .int .u32 0, .int .u32 0, .int .u32 0, .int .u32 0, .int .u32 0, .int .u32 0, .int .u32 0, .int .u32 0, .int .u32 0, .int .u32 0, .int .u32 0, .int .u32 0, .int .u32 0, .int .u32 0, .int .u32 0, .int .u32 0, .int .i64 0, .int .i64 0, .int .i64 0, .int .i64 0, .int .i64 0, .int .i64 0, .int .i64 0, .int .i64 0, .int .i64 0, .int .i64 0, .int .i64 0, .int .i64 0, .int .i64 0, .int .i64 0, .int .i64 0, .int .i64 0, .map none, .int .i64 0, .int .i64 0, .bool false] 169)) = W1 at NW ⊢
 obtain ⟨c0, cr, lr, mr, u0⟩ := NW
 have C0 := κ c0
 have CR := κ cr
 have LR := κ lr
 have U0 := κ (u0.mono (T := fun i => i = K.p) fun _ _ h => h.elim)
 have HR0 := κ (show HR (w.heap.size + 1 + 1 + 1) (w.heap.size + 1 + 1 + 1) K (hst0 at_ cx M) 0 W1 from ⟨mr, HM.out.upto u0 id, fun b hb => nomatch hb⟩)
 have lc := c0.l
 have hs1 : Sl K.us K.ao K.cap W1 := Sl.upto SL.out U0.out (fun g hg h0 => (WB.out g hg h0).2)
 have EN := κ (ent_any at_ W1 mr hs1 US.out)
 clear c0 cr lr mr u0 hs1
 obtain ⟨b, hb⟩ : ∃ b, ent K.us at_ = b := ⟨_, rfl⟩
 rw [hb] at EN
 have HB := κ hb
 clear hb
 cases b
 ·go_upto_region 3 with (go_at_call 88; (with_reducible refine EN.out.mono ?_); rintro e w1 ⟨rfl, b1⟩)
  have ub := Upto.of_below (S := fun _ => False) b1
  have C1 := κ (C0.out.upto ub id)
  have CR := κ (CR.out.upto ub id)
  have LR := κ (LR.out.upto ub id)
  have M1 := κ (HR0.out.hm.upto ub id)
  have U1 := κ (U0.out.trans (ub.mono (T := fun i => i = K.p) fun _ _ h => h.elim))
  have RE := κ (show some (Res.mk cx M ⟨5, 0, 0, 0, 0⟩ at_) = some RV from by have h := HRU.out; unfold runR at h; rw [HB.out, if_neg (by simp)] at h; exact h)
  have RE := κ (Option.some.inj RE.out)
  clear ub b1 lc
  obtain ⟨a0, a1, a2, a3, a4, a5, a6, a7, a8, a9, a10, a11⟩ := C1.out.all
  have lc := C1.out.l
  obtain ⟨r0, r1, r2, r3, r4, r5, r6, r7, r8, r9, r10, r11⟩ := CR.out.all
  have rz := CR.out.z
  obtain ⟨y0, y1, y2, y3, y4, y5⟩ := LR.out.all
  have vz := LR.out.z
  have lr := CR.out.l
  have ly := LR.out.l
  go_wp2_with fail
  clear r0 r1 r2 r3 r4 r5 r6 r7 r8 r9 r10 r11 rz y0 y1 y2 y3 y4 y5 vz lr ly
  clear a0 a1 a2 a3 a4 a5 a6 a7 a8 a9 a10 a11 lc
  have c8 := CR.out.put cx
  have v8 := up_put12 (S := fun i => i = (w.heap.size + 1)) (h := (w.heap.size + 1)) (Upto.refl _ w1) (.inl rfl) cx
  have l8 := LR.out.upto v8 (by omega)
  have m8 := HC.upto (S := fun i => i = (w.heap.size + 1)) M1.out v8 (by have := M1.out.2.2.2.2.2.2; have := hpw; omega)
  have u8 := up_put12 (h := (w.heap.size + 1)) U1.out (.inr (Nat.le_succ _)) cx
  rw [p12_eq] at c8 v8 l8 m8 u8 ⊢
  generalize p12 _ _ _ = W8 at c8 v8 l8 m8 u8 ⊢
  have v9 := up6' (w.heap.size + 1 + 1) W8 (5) (0) (0) (0) (0) (at_)
  have l9 := l8.put (5) (0) (0) (0) (0) (at_)
  have c9 := c8.upto v9 (by omega)
  have m9 := HC.upto (S := fun i => i = (w.heap.size + 1 + 1)) m8 v9 (by have := hpw; omega)
  have u9 := up6 (h := (w.heap.size + 1 + 1)) u8 (.inr (Nat.le_trans (Nat.le_succ _) (Nat.le_succ _))) (5) (0) (0) (0) (0) (at_)
  rw [p6_eq]
  generalize p6 _ _ _ _ _ _ _ _ = W9 at c9 v9 l9 m9 u9 ⊢
  clear v8 v9 c8 l8 m8 u8
  obtain ⟨g0, g1, g2, g3, g4, g5, g6, g7, g8, g9, g10, g11⟩ := c9.all
  obtain ⟨o0, o1, o2, o3, o4, o5⟩ := l9.all
  exact bodyPost_ret (v := .tuple #[.agg (ctL cx), .agg #[.int .i64 (5), .int .i64 (0), .int .u32 (0), .int .u32 (0), .int .i64 (0), .int .i64 (at_)]]) (by simp [ctL, results, Try.results40, go_sem, g0, g1, g2, g3, g4, g5, g6, g7, g8, g9, g10, g11, o0, o1, o2, o3, o4, o5]) rfl ⟨by rw [← RE.out], by rw [← RE.out]; exact m9, u9⟩
 ·go_wp2_with (go_at_call 88; (with_reducible refine EN.out.mono ?_); rintro e w1 ⟨rfl, b1⟩)
  have ub := Upto.of_below (S := fun _ => False) b1
  have CR := κ (CR.out.upto ub id)
  have LR := κ (LR.out.upto ub id)
  have HR0 := κ (HR0.out.upto ub id id (fun b hb => nomatch hb))
  have U0 := κ (U0.out.trans (ub.mono (T := fun i => i = K.p) fun _ _ h => h.elim))
  have RE := κ (show runN K G (hst0 at_ cx M) = some RV from by have h := HRU.out; unfold runR at h; rw [HB.out, if_pos rfl] at h; exact h)
  clear ub b1 lc HRU C0 EN
  go_loopg [] G (fun g wr => ∃ (t : Hst) (sp : Option Nat) (n : Nat), Hid (runN K g t = some RV) ∧ Hid (HR (w.heap.size + 1 + 1 + 1) (w.heap.size + 1 + 1 + 1) K (t.wsp sp) n wr) ∧ Hid (TOk t) ∧ Hid (FOk t.f) ∧ Hid ((n : Int) ≤ t.s.ran ∧ t.s.ran + g ≤ G) ∧ Hid ((∃ b, sp = some b) ∨ ent K.us t.s.at_ = true) ∧ Hid (CB (w.heap.size + 1) (fun _ => 0) wr) ∧ Hid (LB (w.heap.size + 1 + 1) 0 0 0 0 0 0 wr) ∧ Hid (Upto (fun i => i = K.p) w wr))
  case atStart => exact ⟨hst0 at_ cx M, none, 0, RE.out, HR0.out, TK.out, fun _ => ⟨Int.le_refl _, (by decide : (0 : Int) < 4294967296)⟩, ⟨Int.le_refl _, by show (0 : Int) + _ ≤ _; omega⟩, .inr HB.out, CR.out, LR.out, U0.out⟩
  case round =>
   obtain ⟨t, sp, n, RN, H0, T, F, BD, SPP, CR, LR, U⟩ := hrel
   obtain ⟨⟨x, m, z⟩, hr⟩ : ∃ r, decP K.us t.s.at_ = r := ⟨_, rfl⟩
   have DC := fun W hW => dec_all K.us K.ao K.cap t.s.at_ W hW US.out
   rw [decv_eq, hr] at DC
   unfold decT Cd.L at DC
   dsimp only at DC
   have DC := κ DC
   have HRE := κ hr
   have a0 := H0.out.mr.w0
   have a1 : wr.cell? ⟨w.heap.size + 1 + 1 + 1, 1, none⟩ = some (.int .i64 t.s.at_) := H0.out.mr.at_
   have la := H0.out.mr.l
   have ND : Hid ((w.heap.size + 1 + 1 + 1) ≠ wr.heap.size ∧ K.p ≠ wr.heap.size ∧ ∀ b, sp = some b → b ≠ wr.heap.size) := ⟨by omega, by omega, fun b hb => by have := (H0.out.sp b hb).1.lt; omega⟩
   clear hr
   have F0 := κ (show wr.cell? ⟨w.heap.size + 1 + 1 + 1, 0, none⟩ = some (.slice K.ao K.us.length K.cap) ∧ wr.cell? ⟨w.heap.size + 1 + 1 + 1, 1, none⟩ = some (.int .i64 t.s.at_) from l5 H0.out)
   have Fd := κ (show wr.drew.cell? ⟨w.heap.size + 1 + 1 + 1, 0, none⟩ = some (.slice K.ao K.us.length K.cap) ∧ wr.drew.cell? ⟨w.heap.size + 1 + 1 + 1, 1, none⟩ = some (.int .i64 t.s.at_) from l5 H0.out.drew)
   have Fa := κ (fun o : Obj => show (wr.alloc o).drew.cell? ⟨w.heap.size + 1 + 1 + 1, 0, none⟩ = some (.slice K.ao K.us.length K.cap) ∧ (wr.alloc o).drew.cell? ⟨w.heap.size + 1 + 1 + 1, 1, none⟩ = some (.int .i64 t.s.at_) from l5 (H0.out.al o).drew)
   go_upto_region 5 with fail
   go_region_held3 (fun W => W.cell? ⟨w.heap.size + 1 + 1 + 1, 0, none⟩ = some (.slice K.ao K.us.length K.cap) ∧ W.cell? ⟨w.heap.size + 1 + 1 + 1, 1, none⟩ = some (.int .i64 t.s.at_)) (with_reducible (first | apply F0.out | apply Fd.out | apply Fa.out | apply F2.out | apply F2a.out | apply L8.out))
    ((go_at_call 89; (with_reducible refine (DC.out _ (by with_reducible first | exact (Sl.upto SL.out U.out.drew (fun g hg h0 => (WB.out g hg h0).2)) | exact (Sl.upto SL.out ((U.out.alloc _).drew) (fun g hg h0 => (WB.out g hg h0).2)))).mono ?_); rintro e w2 ⟨rfl, b2⟩; have u2 := Upto.of_below (S := fun _ => False) b2; have ux : Upto (fun _ => False) wr w2 := (by with_reducible first | exact ((Upto.refl (fun _ => False) wr).drew).trans u2 | exact ((Upto.refl (fun _ => False) wr).alloc _).drew.trans u2); have H2 := κ (H0.out.upto ux id id fun _ _ => id); have F2 := κ (show w2.cell? ⟨w.heap.size + 1 + 1 + 1, 0, none⟩ = some (.slice K.ao K.us.length K.cap) ∧ w2.cell? ⟨w.heap.size + 1 + 1 + 1, 1, none⟩ = some (.int .i64 t.s.at_) from l5 H2.out); have F2a := κ (fun o : Obj => show (w2.alloc o).cell? ⟨w.heap.size + 1 + 1 + 1, 0, none⟩ = some (.slice K.ao K.us.length K.cap) ∧ (w2.alloc o).cell? ⟨w.heap.size + 1 + 1 + 1, 1, none⟩ = some (.int .i64 t.s.at_) from l5 (H2.out.al o)); have L8 := κ (fun y : Cd => show ((((((((w2.setCell ⟨wr.heap.size, 0, none⟩ (.int .i64 y.op)).setCell ⟨wr.heap.size, 1, none⟩ (.int .i64 y.d)).setCell ⟨wr.heap.size, 2, none⟩ (.int .i64 y.a)).setCell ⟨wr.heap.size, 3, none⟩ (.int .i64 y.b)).setCell ⟨wr.heap.size, 4, none⟩ (.int .i64 y.c)).setCell ⟨wr.heap.size, 5, none⟩ (.int .i64 y.n)).setCell ⟨wr.heap.size, 6, none⟩ (.int .u32 y.k)).setCell ⟨wr.heap.size, 7, none⟩ (.int .u32 y.x)).cell? ⟨w.heap.size + 1 + 1 + 1, 0, none⟩ = some (.slice K.ao K.us.length K.cap) ∧ ((((((((w2.setCell ⟨wr.heap.size, 0, none⟩ (.int .i64 y.op)).setCell ⟨wr.heap.size, 1, none⟩ (.int .i64 y.d)).setCell ⟨wr.heap.size, 2, none⟩ (.int .i64 y.a)).setCell ⟨wr.heap.size, 3, none⟩ (.int .i64 y.b)).setCell ⟨wr.heap.size, 4, none⟩ (.int .i64 y.c)).setCell ⟨wr.heap.size, 5, none⟩ (.int .i64 y.n)).setCell ⟨wr.heap.size, 6, none⟩ (.int .u32 y.k)).setCell ⟨wr.heap.size, 7, none⟩ (.int .u32 y.x)).cell? ⟨w.heap.size + 1 + 1 + 1, 1, none⟩ = some (.int .i64 t.s.at_) from l5 (H2.out.at8 (h := wr.heap.size) y ND.out.1 ND.out.2.1 ND.out.2.2)); (first | (have XB0 : XB wr.heap.size zcd w2 := (by with_reducible exact XB.upto (XBz wr) u2 id); have xq0 := XB0.c0; have xq1 := XB0.c1; have xq2 := XB0.c2; have xq3 := XB0.c3; have xq4 := XB0.c4; have xq5 := XB0.c5; have xq6 := XB0.c6; have xq7 := XB0.c7; have xz0 := XB0.z 0; have xz1 := XB0.z 1; have xz2 := XB0.z 2; have xz3 := XB0.z 3; have xz4 := XB0.z 4; have xz5 := XB0.z 5; have xz6 := XB0.z 6; have xz7 := XB0.z 7; have xl := XB0.l) | skip); clear b2 u2))
   have xx := XB.new w2 x 108
   have h4 := H2.out.al (.cells #[.int .i64 x.op, .int .i64 x.d, .int .i64 x.a, .int .i64 x.b, .int .i64 x.c, .int .i64 x.n, .int .u32 x.k, .int .u32 x.x] 108)
   have uy := ux.alloc (.cells #[.int .i64 x.op, .int .i64 x.d, .int .i64 x.a, .int .i64 x.b, .int .i64 x.c, .int .i64 x.n, .int .u32 x.k, .int .u32 x.x] 108)
   have c4 := CR.out.upto uy id
   have l4 := LR.out.upto uy id
   have u4 := back (B := w.heap.size) U.out uy (Nat.le_refl _) (fun i hi => hi.elim)
   have hD := ux.size
   generalize (w2.alloc (.cells #[.int .i64 x.op, .int .i64 x.d, .int .i64 x.a, .int .i64 x.b, .int .i64 x.c, .int .i64 x.n, .int .u32 x.k, .int .u32 x.x] 108)) = w4 at xx h4 uy c4 l4 u4 ⊢
   have hD' : (w.heap.size + 1 + 1 + 1) < w2.heap.size := by omega
   generalize w2.heap.size = gd at xx hD hD' ⊢
   have XX := κ xx
   have H4 := κ h4
   have C4 := κ c4
   have L4 := κ l4
   have U4 := κ u4
   clear xx h4 uy c4 l4 u4 ux H2 F2 F2a L8 F0 Fd Fa ND a0 a1 DC CR LR U hD la
   rotate_left
   have xx := XB0.put x
   have h4 := H2.out.at8 (h := wr.heap.size) x ND.out.1 ND.out.2.1 ND.out.2.2
   have uy := up_put8 (S := fun i => i = wr.heap.size) (h := wr.heap.size) (ux.mono (T := fun i => i = wr.heap.size) fun _ _ h => h.elim) (.inl rfl) x
   have c4 := CR.out.upto uy (by omega)
   have l4 := LR.out.upto uy (by omega)
   have u4 := back (B := w.heap.size) U.out uy (Nat.le_refl _) (fun i hi => .inr (by omega))
   have hD := Nat.le_refl wr.heap.size
   clear xq0 xq1 xq2 xq3 xq4 xq5 xq6 xq7 xz0 xz1 xz2 xz3 xz4 xz5 xz6 xz7 xl XB0
   generalize ((((((((w2.setCell ⟨wr.heap.size, 0, none⟩ (.int .i64 x.op)).setCell ⟨wr.heap.size, 1, none⟩ (.int .i64 x.d)).setCell ⟨wr.heap.size, 2, none⟩ (.int .i64 x.a)).setCell ⟨wr.heap.size, 3, none⟩ (.int .i64 x.b)).setCell ⟨wr.heap.size, 4, none⟩ (.int .i64 x.c)).setCell ⟨wr.heap.size, 5, none⟩ (.int .i64 x.n)).setCell ⟨wr.heap.size, 6, none⟩ (.int .u32 x.k)).setCell ⟨wr.heap.size, 7, none⟩ (.int .u32 x.x)) = w4 at xx h4 uy c4 l4 u4 ⊢
   have hD' : (w.heap.size + 1 + 1 + 1) < wr.heap.size := by omega
   generalize wr.heap.size = gd at xx hD hD' ⊢
   have XX := κ xx
   have H4 := κ h4
   have C4 := κ c4
   have L4 := κ l4
   have U4 := κ u4
   clear xx h4 uy c4 l4 u4 ux H2 F2 F2a L8 F0 Fd Fa ND a0 a1 DC CR LR U hD la
   rotate_left
   all_goals
    by_cases hz : z = 0
    ·subst hz
     have DK := decP_ok K.us US.out t.s.at_ (by rw [HRE.out])
     rw [HRE.out] at DK
     obtain ⟨hx, k0, m1, m3, kl⟩ := DK
     dsimp only at hx m1 m3 kl
     have hlen := HL.out
     have bd := BD.out
     have hG := HGG.out
     have hmx : (maxLen : Nat) = 9223372036854775807 := rfl
     have SX : Hid ((∃ b, sp = some b) ∨ x.op = 1) := SPP.out.imp id fun e => by unfold ent at e; rw [HRE.out] at e; simp at e; exact e
     have hsp : x.op = 8 ∨ x.op = 9 → ∃ b, sp = some b := fun h => SX.out.elim id fun e => by omega
     obtain ⟨⟨l, d⟩, hd⟩ : ∃ r, doP K x ({ t with s := { t.s with at_ := t.s.at_ + m } } : Hst) = r := ⟨_, rfl⟩
     have HD := κ hd
     have TD := tok_do K x ({ t with s := { t.s with at_ := t.s.at_ + m } } : Hst) ⟨T.out.c, T.out.r, T.out.M⟩ F.out hx
     have RD := do_ran K x ({ t with s := { t.s with at_ := t.s.at_ + m } } : Hst)
     rw [hd] at TD RD
     have TD := κ TD
     replace RD : Hid (d.s.ran = t.s.ran) := RD
     have DO := fun W (R : HR (w.heap.size + 1 + 1 + 1) (w.heap.size + 1 + 1 + 1) K (({ t with s := { t.s with at_ := t.s.at_ + m } } : Hst).wsp sp) n W) hsl htb hbw => do_wsp R OK.out ⟨T.out.c, T.out.r, T.out.M⟩ hx hsl htb hsp (by omega) hbw
     simp only [hd] at DO
     have DO := κ DO
     clear hx hsp hd SPP
     have b1 : w4.cell? ⟨w.heap.size + 1 + 1 + 1, 1, none⟩ = some (.int .i64 t.s.at_) := H4.out.mr.at_
     have z1 := H4.out.mr.z 1
     have la := H4.out.mr.l
     go_upto_region 10 with fail
     have uz := (Upto.refl (fun i => i = (w.heap.size + 1 + 1 + 1)) w4).setCell (q := ⟨w.heap.size + 1 + 1 + 1, 1, none⟩) (.inl rfl) (.int .i64 (t.s.at_ + m))
     have h5 : HR (w.heap.size + 1 + 1 + 1) (w.heap.size + 1 + 1 + 1) K (({ t with s := { t.s with at_ := t.s.at_ + m } } : Hst).wsp sp) n (w4.setCell ⟨w.heap.size + 1 + 1 + 1, 1, none⟩ (.int .i64 (t.s.at_ + m))) := ⟨H4.out.mr.setAt (t.s.at_ + m), H4.out.hm.upto uz (by omega), fun b hb => ⟨(H4.out.sp b hb).1.upto uz (H4.out.sp b hb).2.2, (H4.out.sp b hb).2⟩⟩
     have xx := XX.out.upto uz (by omega)
     have c5 := C4.out.upto uz (by omega)
     have l5 := L4.out.upto uz (by omega)
     have u5 := back (B := w.heap.size) U4.out uz (Nat.le_refl _) (fun i hi => .inr (by omega))
     generalize w4.setCell ⟨w.heap.size + 1 + 1 + 1, 1, none⟩ (.int .i64 (t.s.at_ + m)) = w5 at uz h5 xx c5 l5 u5 ⊢
     have hs5 : Sl K.us K.ao K.cap w5 := Sl.upto SL.out u5 (fun g hg h0 => (WB.out g hg h0).2)
     have ht5 : Tb K.tab K.tao K.tcap w5 := Tb.upto TB.out u5 (fun g hg h0 => (TBK.out g hg h0).2)
     have l5h := h5.mr.l
     have DO := κ (DO.out w5 h5 hs5 ht5 (by omega))
     have C5 := κ c5
     have L5 := κ l5
     have U5 := κ u5
     have x0 := xx.c0
     have x1 := xx.c1
     have x2 := xx.c2
     have x3 := xx.c3
     have x4 := xx.c4
     have x5 := xx.c5
     have x6 := xx.c6
     have x7 := xx.c7
     have lx := xx.l
     clear uz h5 xx c5 l5 u5 hs5 ht5 b1 z1 la H4 C4 L4 U4 XX
     rcases l with _ | l
     ·unfold lfV at DO
      dsimp only at DO
      go_upto_region 11 with (go_at_call 90; (with_reducible refine DO.out.mono ?_); rintro e w6 ⟨sp', rfl, h6, u6, hsp6⟩)
      have lb := LB.new w6 0 0 0 0 0 0 52
      have ua := (Upto.refl (fun _ => False) w6).alloc (.cells #[.int .i64 0, .int .i64 0, .int .u32 0, .int .u32 0, .int .i64 0, .int .i64 0] 52)
      have h7 := h6.upto ua id id (fun _ _ => id)
      have c7 := (C5.out.upto u6 (by unfold SB; omega)).upto ua id
      have l7 := (L5.out.upto u6 (by unfold SB; omega)).upto ua id
      have u7 := back (B := w.heap.size) (back (B := w.heap.size) U5.out u6 (Nat.le_refl _) (fun i hi => by unfold SB at hi; omega)) ua (Nat.le_refl _) (fun i hi => hi.elim)
      have lq : (w.heap.size + 1 + 1 + 1) < w6.heap.size := h6.mr.l
      generalize w6.alloc (.cells #[.int .i64 0, .int .i64 0, .int .u32 0, .int .u32 0, .int .i64 0, .int .i64 0] 52) = w7 at lb ua h7 c7 l7 u7 ⊢
      generalize w6.heap.size = gl at lb lq ⊢
      have H6 := κ h7
      have M6 := κ h7.hm
      have C7 := κ c7
      have L7 := κ l7
      have U7 := κ u7
      have LBB := κ lb
      have HSP := κ (hsp6 (SX.out.imp id fun e => ⟨e, trivial⟩))
      clear lb ua h7 c7 l7 u7 u6 h6 x0 x1 x2 x3 x4 x5 x6 x7 lx hsp6
      obtain ⟨bst, hst⟩ : ∃ b, d.s.stuck = b := ⟨_, rfl⟩
      have cst : w7.cell? ⟨w.heap.size + 1 + 1 + 1, 53, none⟩ = some (.bool d.s.stuck) := H6.out.mr.st
      rw [hst] at cst
      have HST := κ hst
      clear hst
      cases bst
      ·obtain ⟨g', hg', RN'⟩ := runN_inr ((stepP_ok HRE.out HD.out).2.2 HST.out rfl) RN.out
       have RN := κ RN'
       have HG' := κ hg'
       clear RN' hg'
       have er : IntKind.i64.wrap (d.s.ran + 1) = d.s.ran + 1 := IntWalk.i64_in _ (by have bd1 := BD.out; have hG1 := HGG.out; have rd1 : d.s.ran = t.s.ran := RD; omega)
       have cr : w7.cell? ⟨w.heap.size + 1 + 1 + 1, 52, none⟩ = some (.int .i64 d.s.ran) := H6.out.mr.ran
       have cz := H6.out.mr.z 52
       have la := H6.out.mr.l
       go_wp2_with fail
       have uk := (Upto.refl (fun i => i = (w.heap.size + 1 + 1 + 1)) w7).setCell (q := ⟨w.heap.size + 1 + 1 + 1, 52, none⟩) (.inl rfl) (.int .i64 (d.s.ran + 1))
       have h8 : HR (w.heap.size + 1 + 1 + 1) (w.heap.size + 1 + 1 + 1) K (({ d with s := { d.s with ran := d.s.ran + 1 } } : Hst).wsp sp') (n + 1) (w7.setCell ⟨w.heap.size + 1 + 1 + 1, 52, none⟩ (.int .i64 (d.s.ran + 1))) := ⟨H6.out.mr.setRan (d.s.ran + 1), H6.out.hm.upto uk (by omega), fun b hb => ⟨(H6.out.sp b hb).1.upto uk (H6.out.sp b hb).2.2, (H6.out.sp b hb).2⟩⟩
       have c8 := C7.out.upto uk (by omega)
       have l8 := L7.out.upto uk (by omega)
       have u8 := back (B := w.heap.size) U7.out uk (Nat.le_refl _) (fun i hi => .inr (by omega))
       clear uk cr cz la cst er
       generalize w7.setCell ⟨w.heap.size + 1 + 1 + 1, 52, none⟩ (.int .i64 (d.s.ran + 1)) = w8 at h8 c8 l8 u8 ⊢
       go_roundg g'
       case measure => exact HG'.out ▸ Nat.lt_succ_self _
       case rel => exact ⟨{ d with s := { d.s with ran := d.s.ran + 1 } }, sp', n + 1, RN.out, h8, ⟨TD.out.1.c, TD.out.1.r, TD.out.1.M⟩, TD.out.2, ⟨by have bd1 := BD.out; have rd1 : d.s.ran = t.s.ran := RD; show ((n + 1 : Nat) : Int) ≤ d.s.ran + 1; omega, by have bd1 := BD.out; have rd1 : d.s.ran = t.s.ran := RD; have := HG'.out; show d.s.ran + 1 + (g' : Int) ≤ G; omega⟩, .inl HSP.out, c8, l8, u8⟩
      ·have SP := runN_inl gk ((stepP_ok HRE.out HD.out).1 HST.out)
       have RE := κ (Option.some.inj (SP.symm.trans RN.out))
       clear SP
       have a0 : w7.cell? ⟨w.heap.size + 1 + 1 + 1, 2, none⟩ = some (.int .u32 (d.s.c 0)) := H6.out.mr.c 0 (by omega)
       have a1 : w7.cell? ⟨w.heap.size + 1 + 1 + 1, 3, none⟩ = some (.int .u32 (d.s.c 1)) := H6.out.mr.c 1 (by omega)
       have a2 : w7.cell? ⟨w.heap.size + 1 + 1 + 1, 4, none⟩ = some (.int .u32 (d.s.c 2)) := H6.out.mr.c 2 (by omega)
       have a3 : w7.cell? ⟨w.heap.size + 1 + 1 + 1, 5, none⟩ = some (.int .u32 (d.s.c 3)) := H6.out.mr.c 3 (by omega)
       have a4 : w7.cell? ⟨w.heap.size + 1 + 1 + 1, 6, none⟩ = some (.int .u32 (d.s.c 4)) := H6.out.mr.c 4 (by omega)
       have a5 : w7.cell? ⟨w.heap.size + 1 + 1 + 1, 7, none⟩ = some (.int .u32 (d.s.c 5)) := H6.out.mr.c 5 (by omega)
       have a6 : w7.cell? ⟨w.heap.size + 1 + 1 + 1, 8, none⟩ = some (.int .u32 (d.s.c 6)) := H6.out.mr.c 6 (by omega)
       have a7 : w7.cell? ⟨w.heap.size + 1 + 1 + 1, 9, none⟩ = some (.int .u32 (d.s.c 7)) := H6.out.mr.c 7 (by omega)
       have a8 : w7.cell? ⟨w.heap.size + 1 + 1 + 1, 10, none⟩ = some (.int .u32 (d.s.c 8)) := H6.out.mr.c 8 (by omega)
       have a9 : w7.cell? ⟨w.heap.size + 1 + 1 + 1, 11, none⟩ = some (.int .u32 (d.s.c 9)) := H6.out.mr.c 9 (by omega)
       have a10 : w7.cell? ⟨w.heap.size + 1 + 1 + 1, 12, none⟩ = some (.int .u32 (d.s.c 10)) := H6.out.mr.c 10 (by omega)
       have a11 : w7.cell? ⟨w.heap.size + 1 + 1 + 1, 13, none⟩ = some (.int .u32 (d.s.c 11)) := H6.out.mr.c 11 (by omega)
       have la := H6.out.mr.l
       go_upto_region 12 with fail
       obtain ⟨r0, r1, r2, r3, r4, r5, r6, r7, r8, r9, r10, r11⟩ := C7.out.all
       have rz := C7.out.z
       obtain ⟨y0, y1, y2, y3, y4, y5⟩ := L7.out.all
       have vz := L7.out.z
       have lr := C7.out.l
       have ly := L7.out.l
       go_wp2_with fail
       clear r0 r1 r2 r3 r4 r5 r6 r7 r8 r9 r10 r11 rz y0 y1 y2 y3 y4 y5 vz lr ly
       clear a0 a1 a2 a3 a4 a5 a6 a7 a8 a9 a10 a11 la
       clear cst
       have c8 := C7.out.put d.s.c
       have v8 := up_put12 (S := fun i => i = (w.heap.size + 1)) (h := (w.heap.size + 1)) (Upto.refl _ w7) (.inl rfl) d.s.c
       have l8 := L7.out.upto v8 (by omega)
       have m8 := HC.upto (S := fun i => i = (w.heap.size + 1)) M6.out v8 (by have := M6.out.2.2.2.2.2.2; have := hpw; omega)
       have u8 := up_put12 (h := (w.heap.size + 1)) U7.out (.inr (Nat.le_succ _)) d.s.c
       rw [p12_eq] at c8 v8 l8 m8 u8 ⊢
       generalize p12 _ _ _ = W8 at c8 v8 l8 m8 u8 ⊢
       have v9 := up6' (w.heap.size + 1 + 1) W8 (5) (0) (0) (0) (0) (t.s.at_)
       have l9 := l8.put (5) (0) (0) (0) (0) (t.s.at_)
       have c9 := c8.upto v9 (by omega)
       have m9 := HC.upto (S := fun i => i = (w.heap.size + 1 + 1)) m8 v9 (by have := hpw; omega)
       have u9 := up6 (h := (w.heap.size + 1 + 1)) u8 (.inr (Nat.le_trans (Nat.le_succ _) (Nat.le_succ _))) (5) (0) (0) (0) (0) (t.s.at_)
       rw [p6_eq]
       generalize p6 _ _ _ _ _ _ _ _ = W9 at c9 v9 l9 m9 u9 ⊢
       clear v8 v9 c8 l8 m8 u8
       obtain ⟨g0, g1, g2, g3, g4, g5, g6, g7, g8, g9, g10, g11⟩ := c9.all
       obtain ⟨o0, o1, o2, o3, o4, o5⟩ := l9.all
       exact bodyPost_ret (v := .tuple #[.agg (ctL d.s.c), .agg #[.int .i64 (5), .int .i64 (0), .int .u32 (0), .int .u32 (0), .int .i64 (0), .int .i64 (t.s.at_)]]) (by simp [ctL, results, Try.results40, go_sem, g0, g1, g2, g3, g4, g5, g6, g7, g8, g9, g10, g11, o0, o1, o2, o3, o4, o5]) rfl ⟨by rw [← RE.out], by rw [← RE.out]; exact m9, u9⟩
     ·unfold lfV at DO
      dsimp only at DO
      go_upto_region 11 with (go_at_call 90; (with_reducible refine DO.out.mono ?_); rintro e w6 ⟨sp', rfl, h6, u6, hsp6⟩)
      have lb := LB.new w6 l.k l.sk l.sx l.pc l.n 0 52
      have ua := (Upto.refl (fun _ => False) w6).alloc (.cells #[.int .i64 l.k, .int .i64 l.sk, .int .u32 l.sx, .int .u32 l.pc, .int .i64 l.n, .int .i64 0] 52)
      have h7 := h6.upto ua id id (fun _ _ => id)
      have c7 := (C5.out.upto u6 (by unfold SB; omega)).upto ua id
      have l7 := (L5.out.upto u6 (by unfold SB; omega)).upto ua id
      have u7 := back (B := w.heap.size) (back (B := w.heap.size) U5.out u6 (Nat.le_refl _) (fun i hi => by unfold SB at hi; omega)) ua (Nat.le_refl _) (fun i hi => hi.elim)
      have lq : (w.heap.size + 1 + 1 + 1) < w6.heap.size := h6.mr.l
      generalize w6.alloc (.cells #[.int .i64 l.k, .int .i64 l.sk, .int .u32 l.sx, .int .u32 l.pc, .int .i64 l.n, .int .i64 0] 52) = w7 at lb ua h7 c7 l7 u7 ⊢
      generalize w6.heap.size = gl at lb lq ⊢
      have H6 := κ h7
      have M6 := κ h7.hm
      have C7 := κ c7
      have L7 := κ l7
      have U7 := κ u7
      have LBB := κ lb
      clear lb ua h7 c7 l7 u7 u6 h6 x0 x1 x2 x3 x4 x5 x6 x7 lx hsp6
      obtain ⟨bst, hst⟩ : ∃ b, d.s.stuck = b := ⟨_, rfl⟩
      have cst : w7.cell? ⟨w.heap.size + 1 + 1 + 1, 53, none⟩ = some (.bool d.s.stuck) := H6.out.mr.st
      rw [hst] at cst
      have HST := κ hst
      clear hst
      cases bst
      ·have SP := runN_inl gk ((stepP_ok HRE.out HD.out).2.1 HST.out l rfl)
       have RE := κ (Option.some.inj (SP.symm.trans RN.out))
       clear SP
       have k5 := LBB.out.c5
       have kz5 := LBB.out.z 5
       have kl := LBB.out.l
       go_upto_region 15 with fail
       clear k5 kz5 kl cst
       have uk := (Upto.refl (fun i => i = gl) w7).setCell (q := ⟨gl, 5, none⟩) (.inl rfl) (.int .i64 t.s.at_)
       have lb8 := LBB.out.setAt t.s.at_
       have mr8 := H6.out.mr.upto uk (by omega)
       have m8 := HC.upto (S := fun i => i = gl) M6.out uk (by have := hpw; omega)
       have c8 := C7.out.upto uk (by omega)
       have l8 := L7.out.upto uk (by omega)
       have u8 := back (B := w.heap.size) U7.out uk (Nat.le_refl _) (fun i hi => .inr (by omega))
       generalize w7.setCell ⟨gl, 5, none⟩ (.int .i64 t.s.at_) = w8 at uk lb8 mr8 m8 c8 l8 u8 ⊢
       clear uk
       have M8 := κ m8
       have C8 := κ c8
       have L8 := κ l8
       have U8 := κ u8
       have a0 : w8.cell? ⟨w.heap.size + 1 + 1 + 1, 2, none⟩ = some (.int .u32 (d.s.c 0)) := mr8.c 0 (by omega)
       have a1 : w8.cell? ⟨w.heap.size + 1 + 1 + 1, 3, none⟩ = some (.int .u32 (d.s.c 1)) := mr8.c 1 (by omega)
       have a2 : w8.cell? ⟨w.heap.size + 1 + 1 + 1, 4, none⟩ = some (.int .u32 (d.s.c 2)) := mr8.c 2 (by omega)
       have a3 : w8.cell? ⟨w.heap.size + 1 + 1 + 1, 5, none⟩ = some (.int .u32 (d.s.c 3)) := mr8.c 3 (by omega)
       have a4 : w8.cell? ⟨w.heap.size + 1 + 1 + 1, 6, none⟩ = some (.int .u32 (d.s.c 4)) := mr8.c 4 (by omega)
       have a5 : w8.cell? ⟨w.heap.size + 1 + 1 + 1, 7, none⟩ = some (.int .u32 (d.s.c 5)) := mr8.c 5 (by omega)
       have a6 : w8.cell? ⟨w.heap.size + 1 + 1 + 1, 8, none⟩ = some (.int .u32 (d.s.c 6)) := mr8.c 6 (by omega)
       have a7 : w8.cell? ⟨w.heap.size + 1 + 1 + 1, 9, none⟩ = some (.int .u32 (d.s.c 7)) := mr8.c 7 (by omega)
       have a8 : w8.cell? ⟨w.heap.size + 1 + 1 + 1, 10, none⟩ = some (.int .u32 (d.s.c 8)) := mr8.c 8 (by omega)
       have a9 : w8.cell? ⟨w.heap.size + 1 + 1 + 1, 11, none⟩ = some (.int .u32 (d.s.c 9)) := mr8.c 9 (by omega)
       have a10 : w8.cell? ⟨w.heap.size + 1 + 1 + 1, 12, none⟩ = some (.int .u32 (d.s.c 10)) := mr8.c 10 (by omega)
       have a11 : w8.cell? ⟨w.heap.size + 1 + 1 + 1, 13, none⟩ = some (.int .u32 (d.s.c 11)) := mr8.c 11 (by omega)
       have la := mr8.l
       have k0 := lb8.c0
       have k1 := lb8.c1
       have k2 := lb8.c2
       have k3 := lb8.c3
       have k4 := lb8.c4
       have k5 := lb8.c5
       have kl := lb8.l
       clear mr8 m8 c8 l8 u8 lb8
       obtain ⟨r0, r1, r2, r3, r4, r5, r6, r7, r8, r9, r10, r11⟩ := C8.out.all
       have rz := C8.out.z
       obtain ⟨y0, y1, y2, y3, y4, y5⟩ := L8.out.all
       have vz := L8.out.z
       have lr := C8.out.l
       have ly := L8.out.l
       go_region
       clear r0 r1 r2 r3 r4 r5 r6 r7 r8 r9 r10 r11 rz y0 y1 y2 y3 y4 y5 vz lr ly
       clear a0 a1 a2 a3 a4 a5 a6 a7 a8 a9 a10 a11 la
       clear k0 k1 k2 k3 k4 k5 kl
       have c8 := C8.out.put d.s.c
       have v8 := up_put12 (S := fun i => i = (w.heap.size + 1)) (h := (w.heap.size + 1)) (Upto.refl _ w8) (.inl rfl) d.s.c
       have l8 := L8.out.upto v8 (by omega)
       have m8 := HC.upto (S := fun i => i = (w.heap.size + 1)) M8.out v8 (by have := M8.out.2.2.2.2.2.2; have := hpw; omega)
       have u8 := up_put12 (h := (w.heap.size + 1)) U8.out (.inr (Nat.le_succ _)) d.s.c
       rw [p12_eq] at c8 v8 l8 m8 u8 ⊢
       generalize p12 _ _ _ = W8 at c8 v8 l8 m8 u8 ⊢
       have v9 := up6' (w.heap.size + 1 + 1) W8 (l.k) (l.sk) (l.sx) (l.pc) (l.n) (t.s.at_)
       have l9 := l8.put (l.k) (l.sk) (l.sx) (l.pc) (l.n) (t.s.at_)
       have c9 := c8.upto v9 (by omega)
       have m9 := HC.upto (S := fun i => i = (w.heap.size + 1 + 1)) m8 v9 (by have := hpw; omega)
       have u9 := up6 (h := (w.heap.size + 1 + 1)) u8 (.inr (Nat.le_trans (Nat.le_succ _) (Nat.le_succ _))) (l.k) (l.sk) (l.sx) (l.pc) (l.n) (t.s.at_)
       rw [p6_eq]
       generalize p6 _ _ _ _ _ _ _ _ = W9 at c9 v9 l9 m9 u9 ⊢
       clear v8 v9 c8 l8 m8 u8
       have c9 := c9.drew
       have l9 := l9.drew
       have m9 := HC.upto (S := fun _ => False) m9 (Upto.refl (fun _ => False) _).drew id
       have u9 := u9.drew
       generalize W9.drew = W10 at c9 l9 m9 u9 ⊢
       go_wp2_with fail
       obtain ⟨g0, g1, g2, g3, g4, g5, g6, g7, g8, g9, g10, g11⟩ := c9.all
       obtain ⟨o0, o1, o2, o3, o4, o5⟩ := l9.all
       exact bodyPost_ret (v := .tuple #[.agg (ctL d.s.c), .agg #[.int .i64 (l.k), .int .i64 (l.sk), .int .u32 (l.sx), .int .u32 (l.pc), .int .i64 (l.n), .int .i64 (t.s.at_)]]) (by simp [ctL, results, Try.results40, go_sem, g0, g1, g2, g3, g4, g5, g6, g7, g8, g9, g10, g11, o0, o1, o2, o3, o4, o5]) rfl ⟨by rw [← RE.out], by rw [← RE.out]; exact m9, u9⟩
      ·have SP := runN_inl gk ((stepP_ok HRE.out HD.out).1 HST.out)
       have RE := κ (Option.some.inj (SP.symm.trans RN.out))
       clear SP
       have a0 : w7.cell? ⟨w.heap.size + 1 + 1 + 1, 2, none⟩ = some (.int .u32 (d.s.c 0)) := H6.out.mr.c 0 (by omega)
       have a1 : w7.cell? ⟨w.heap.size + 1 + 1 + 1, 3, none⟩ = some (.int .u32 (d.s.c 1)) := H6.out.mr.c 1 (by omega)
       have a2 : w7.cell? ⟨w.heap.size + 1 + 1 + 1, 4, none⟩ = some (.int .u32 (d.s.c 2)) := H6.out.mr.c 2 (by omega)
       have a3 : w7.cell? ⟨w.heap.size + 1 + 1 + 1, 5, none⟩ = some (.int .u32 (d.s.c 3)) := H6.out.mr.c 3 (by omega)
       have a4 : w7.cell? ⟨w.heap.size + 1 + 1 + 1, 6, none⟩ = some (.int .u32 (d.s.c 4)) := H6.out.mr.c 4 (by omega)
       have a5 : w7.cell? ⟨w.heap.size + 1 + 1 + 1, 7, none⟩ = some (.int .u32 (d.s.c 5)) := H6.out.mr.c 5 (by omega)
       have a6 : w7.cell? ⟨w.heap.size + 1 + 1 + 1, 8, none⟩ = some (.int .u32 (d.s.c 6)) := H6.out.mr.c 6 (by omega)
       have a7 : w7.cell? ⟨w.heap.size + 1 + 1 + 1, 9, none⟩ = some (.int .u32 (d.s.c 7)) := H6.out.mr.c 7 (by omega)
       have a8 : w7.cell? ⟨w.heap.size + 1 + 1 + 1, 10, none⟩ = some (.int .u32 (d.s.c 8)) := H6.out.mr.c 8 (by omega)
       have a9 : w7.cell? ⟨w.heap.size + 1 + 1 + 1, 11, none⟩ = some (.int .u32 (d.s.c 9)) := H6.out.mr.c 9 (by omega)
       have a10 : w7.cell? ⟨w.heap.size + 1 + 1 + 1, 12, none⟩ = some (.int .u32 (d.s.c 10)) := H6.out.mr.c 10 (by omega)
       have a11 : w7.cell? ⟨w.heap.size + 1 + 1 + 1, 13, none⟩ = some (.int .u32 (d.s.c 11)) := H6.out.mr.c 11 (by omega)
       have la := H6.out.mr.l
       go_upto_region 12 with fail
       obtain ⟨r0, r1, r2, r3, r4, r5, r6, r7, r8, r9, r10, r11⟩ := C7.out.all
       have rz := C7.out.z
       obtain ⟨y0, y1, y2, y3, y4, y5⟩ := L7.out.all
       have vz := L7.out.z
       have lr := C7.out.l
       have ly := L7.out.l
       go_wp2_with fail
       clear r0 r1 r2 r3 r4 r5 r6 r7 r8 r9 r10 r11 rz y0 y1 y2 y3 y4 y5 vz lr ly
       clear a0 a1 a2 a3 a4 a5 a6 a7 a8 a9 a10 a11 la
       clear cst
       have c8 := C7.out.put d.s.c
       have v8 := up_put12 (S := fun i => i = (w.heap.size + 1)) (h := (w.heap.size + 1)) (Upto.refl _ w7) (.inl rfl) d.s.c
       have l8 := L7.out.upto v8 (by omega)
       have m8 := HC.upto (S := fun i => i = (w.heap.size + 1)) M6.out v8 (by have := M6.out.2.2.2.2.2.2; have := hpw; omega)
       have u8 := up_put12 (h := (w.heap.size + 1)) U7.out (.inr (Nat.le_succ _)) d.s.c
       rw [p12_eq] at c8 v8 l8 m8 u8 ⊢
       generalize p12 _ _ _ = W8 at c8 v8 l8 m8 u8 ⊢
       have v9 := up6' (w.heap.size + 1 + 1) W8 (5) (0) (0) (0) (0) (t.s.at_)
       have l9 := l8.put (5) (0) (0) (0) (0) (t.s.at_)
       have c9 := c8.upto v9 (by omega)
       have m9 := HC.upto (S := fun i => i = (w.heap.size + 1 + 1)) m8 v9 (by have := hpw; omega)
       have u9 := up6 (h := (w.heap.size + 1 + 1)) u8 (.inr (Nat.le_trans (Nat.le_succ _) (Nat.le_succ _))) (5) (0) (0) (0) (0) (t.s.at_)
       rw [p6_eq]
       generalize p6 _ _ _ _ _ _ _ _ = W9 at c9 v9 l9 m9 u9 ⊢
       clear v8 v9 c8 l8 m8 u8
       obtain ⟨g0, g1, g2, g3, g4, g5, g6, g7, g8, g9, g10, g11⟩ := c9.all
       obtain ⟨o0, o1, o2, o3, o4, o5⟩ := l9.all
       exact bodyPost_ret (v := .tuple #[.agg (ctL d.s.c), .agg #[.int .i64 (5), .int .i64 (0), .int .u32 (0), .int .u32 (0), .int .i64 (0), .int .i64 (t.s.at_)]]) (by simp [ctL, results, Try.results40, go_sem, g0, g1, g2, g3, g4, g5, g6, g7, g8, g9, g10, g11, o0, o1, o2, o3, o4, o5]) rfl ⟨by rw [← RE.out], by rw [← RE.out]; exact m9, u9⟩
    ·have e1 : (z != 0) = true := by simp [hz]
     have SP := runN_inl gk (show stepP K t = .inl ⟨t.s.c, t.M, ⟨5, 0, 0, 0, 0⟩, t.s.at_⟩ from by unfold stepP; rw [HRE.out]; exact if_neg hz)
     have RE := κ (Option.some.inj (SP.symm.trans RN.out))
     have M4 := κ H4.out.hm
     clear SP hz XX
     go_upto_region 7 with fail
     have a0 : w4.cell? ⟨w.heap.size + 1 + 1 + 1, 2, none⟩ = some (.int .u32 (t.s.c 0)) := H4.out.mr.c 0 (by omega)
     have a1 : w4.cell? ⟨w.heap.size + 1 + 1 + 1, 3, none⟩ = some (.int .u32 (t.s.c 1)) := H4.out.mr.c 1 (by omega)
     have a2 : w4.cell? ⟨w.heap.size + 1 + 1 + 1, 4, none⟩ = some (.int .u32 (t.s.c 2)) := H4.out.mr.c 2 (by omega)
     have a3 : w4.cell? ⟨w.heap.size + 1 + 1 + 1, 5, none⟩ = some (.int .u32 (t.s.c 3)) := H4.out.mr.c 3 (by omega)
     have a4 : w4.cell? ⟨w.heap.size + 1 + 1 + 1, 6, none⟩ = some (.int .u32 (t.s.c 4)) := H4.out.mr.c 4 (by omega)
     have a5 : w4.cell? ⟨w.heap.size + 1 + 1 + 1, 7, none⟩ = some (.int .u32 (t.s.c 5)) := H4.out.mr.c 5 (by omega)
     have a6 : w4.cell? ⟨w.heap.size + 1 + 1 + 1, 8, none⟩ = some (.int .u32 (t.s.c 6)) := H4.out.mr.c 6 (by omega)
     have a7 : w4.cell? ⟨w.heap.size + 1 + 1 + 1, 9, none⟩ = some (.int .u32 (t.s.c 7)) := H4.out.mr.c 7 (by omega)
     have a8 : w4.cell? ⟨w.heap.size + 1 + 1 + 1, 10, none⟩ = some (.int .u32 (t.s.c 8)) := H4.out.mr.c 8 (by omega)
     have a9 : w4.cell? ⟨w.heap.size + 1 + 1 + 1, 11, none⟩ = some (.int .u32 (t.s.c 9)) := H4.out.mr.c 9 (by omega)
     have a10 : w4.cell? ⟨w.heap.size + 1 + 1 + 1, 12, none⟩ = some (.int .u32 (t.s.c 10)) := H4.out.mr.c 10 (by omega)
     have a11 : w4.cell? ⟨w.heap.size + 1 + 1 + 1, 13, none⟩ = some (.int .u32 (t.s.c 11)) := H4.out.mr.c 11 (by omega)
     have la := H4.out.mr.l
     have b1 : w4.cell? ⟨w.heap.size + 1 + 1 + 1, 1, none⟩ = some (.int .i64 t.s.at_) := H4.out.mr.at_
     obtain ⟨r0, r1, r2, r3, r4, r5, r6, r7, r8, r9, r10, r11⟩ := C4.out.all
     have rz := C4.out.z
     obtain ⟨y0, y1, y2, y3, y4, y5⟩ := L4.out.all
     have vz := L4.out.z
     have lr := C4.out.l
     have ly := L4.out.l
     go_region
     clear r0 r1 r2 r3 r4 r5 r6 r7 r8 r9 r10 r11 rz y0 y1 y2 y3 y4 y5 vz lr ly
     clear a0 a1 a2 a3 a4 a5 a6 a7 a8 a9 a10 a11 la
     clear b1
     have c8 := C4.out.put t.s.c
     have v8 := up_put12 (S := fun i => i = (w.heap.size + 1)) (h := (w.heap.size + 1)) (Upto.refl _ w4) (.inl rfl) t.s.c
     have l8 := L4.out.upto v8 (by omega)
     have m8 := HC.upto (S := fun i => i = (w.heap.size + 1)) M4.out v8 (by have := M4.out.2.2.2.2.2.2; have := hpw; omega)
     have u8 := up_put12 (h := (w.heap.size + 1)) U4.out (.inr (Nat.le_succ _)) t.s.c
     rw [p12_eq] at c8 v8 l8 m8 u8 ⊢
     generalize p12 _ _ _ = W8 at c8 v8 l8 m8 u8 ⊢
     have v9 := up6' (w.heap.size + 1 + 1) W8 (5) (0) (0) (0) (0) (t.s.at_)
     have l9 := l8.put (5) (0) (0) (0) (0) (t.s.at_)
     have c9 := c8.upto v9 (by omega)
     have m9 := HC.upto (S := fun i => i = (w.heap.size + 1 + 1)) m8 v9 (by have := hpw; omega)
     have u9 := up6 (h := (w.heap.size + 1 + 1)) u8 (.inr (Nat.le_trans (Nat.le_succ _) (Nat.le_succ _))) (5) (0) (0) (0) (0) (t.s.at_)
     rw [p6_eq]
     generalize p6 _ _ _ _ _ _ _ _ = W9 at c9 v9 l9 m9 u9 ⊢
     clear v8 v9 c8 l8 m8 u8
     have c9 := c9.drew
     have l9 := l9.drew
     have m9 := HC.upto (S := fun _ => False) m9 (Upto.refl (fun _ => False) _).drew id
     have u9 := u9.drew
     generalize W9.drew = W10 at c9 l9 m9 u9 ⊢
     go_wp2_with fail
     obtain ⟨g0, g1, g2, g3, g4, g5, g6, g7, g8, g9, g10, g11⟩ := c9.all
     obtain ⟨o0, o1, o2, o3, o4, o5⟩ := l9.all
     exact bodyPost_ret (v := .tuple #[.agg (ctL t.s.c), .agg #[.int .i64 (5), .int .i64 (0), .int .u32 (0), .int .u32 (0), .int .i64 (0), .int .i64 (t.s.at_)]]) (by simp [ctL, results, Try.results40, go_sem, g0, g1, g2, g3, g4, g5, g6, g7, g8, g9, g10, g11, o0, o1, o2, o3, o4, o5]) rfl ⟨by rw [← RE.out], by rw [← RE.out]; exact m9, u9⟩
end Go.Proofs.Ytcjcmnnhmajocab.Hr
