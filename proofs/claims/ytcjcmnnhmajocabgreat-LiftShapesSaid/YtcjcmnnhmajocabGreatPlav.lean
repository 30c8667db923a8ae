/- lift: now, holds. -/
import Derived.Test.YtcjcmnnhmajocabGreatPlau
set_option linter.unusedVariables false
set_option linter.unusedSimpArgs false
set_option maxRecDepth 100000
set_option maxHeartbeats 16000000
namespace Go.Proofs.YtcjcmnnhmajocabGreat.Lf
open Go.RowKit Kt Ic Me
open Ot (OwnO OB)
variable {K : Kc} {s : Lk} {W W' : World}
/-- a box of the call's own -/
structure Bx (K : Kc) (b : Nat) (cs : Array Value) (W : World) : Prop where
 l : b < W.heap.size
 c : ∀ (j : Nat) (v : Value), cs[j]? = some v → W.cell? ⟨b, j, none⟩ = some v
 z : ∀ j, W.frozen? ⟨b, j, none⟩ = false
 n : ¬ SW K W b
theorem Bx.uw {b : Nat} {cs : Array Value} (h : Bx K b cs W) (u : UW K W W') : Bx K b cs W' :=
 ⟨Nat.lt_of_lt_of_le h.l u.u.size, fun j v hj => (u.u.cell (q := ⟨b, j, none⟩) h.l h.n).trans (h.c j v hj), fun j => (u.u.frozen (q := ⟨b, j, none⟩) h.l h.n).trans (h.z j), fun e => by
  rcases e with e | e
  ·exact h.n (.inl e)
  ·rcases u.ow b e with e | e
   ·exact h.n (.inr e)
   ·have := h.l; omega⟩
theorem Bx.new {w : World} (a : LM K s w) (cs : Array Value) (t : TypeId) : Bx K w.heap.size cs (w.alloc (.cells cs t)) :=
 ⟨by simp, fun j v hj => (cell_of_row _ _ _ _ _ _ (heap_alloc_new w _)).trans hj, fun j => by simp, fun e => by
  rcases e with e | e
  ·have := a.l; omega
  ·exact own_new a (Nat.le_refl _) ((Upto.refl (fun _ => False) w).alloc _) e⟩
theorem mc_reg (s : Lk) {r : Nat} (hr : r < 8) : mc s (6 + r) = .int .i64 (s.reg r) := by
 unfold mc
 rw [if_neg (by omega), if_neg (by omega), if_neg (by omega), if_neg (by omega), if_neg (by omega), if_pos (by omega), show 6 + r - 6 = r by omega]
theorem LM.cr (a : LM K s W) {r : Nat} (hr : r < 8) : W.cell? ⟨K.h, 6 + r, none⟩ = some (.int .i64 (s.reg r)) := (a.c (6 + r) (by omega) (by omega)).trans (by rw [mc_reg s hr])
theorem get_any (r : Nat) (hr : r < 8) (w : World) (a : LM K s w) (hn : s.ops.length < 1000000000) :
  Calls Tryz.prog 118 #[.pointer (some ⟨K.h, 0, none⟩), .int .i64 r] w fun e w' => e = .returned (.int .i64 (s.get r).1) ∧ LM K (s.get r).2 w' ∧ UW K w w' := by
 have cr := a.cr hr
 have l := a.l
 have r0 : (0 : Int) ≤ r := by omega
 have r8 : (r : Int) < 8 := by omega
 unfold Lk.get
 by_cases e : s.reg r < 0
 ·rw [if_pos e]
  have P := κ (put_any (s := s) (K := K) ⟨2, r, 0, 0, 0, 0, 0⟩ w.drew a.drew hn)
  have U0 := κ (UW.drew (W := w) a.l)
  have HR := κ hr
  have HN := κ (show s.n = (s.ops.length : Int) from rfl)
  have d0 : decide (s.reg r < 0) = true := decide_eq_true e
  clear a hn
  go_enter Tryz.func118, Tryz.ntmps118
  go_upto_region 2 with fail
  go_region_with (go_at_call 54; refine P.out.mono ?_; rintro e w1 ⟨rfl, A1, U1⟩; have H1 := κ A1; have V1 := κ U1; have k1 := A1.cr HR.out; have z1 := A1.z (6 + r); have l1 := A1.l; have H2 := κ (A1.setReg r HR.out s.n); have e1 := World.cell?_setCell_same w1 ⟨K.h, 6 + r, none⟩ (.int .i64 s.n) k1; have V2 := κ (UW.setH (K := K) (W := w1) (6 + r) (by omega) (.int .i64 s.n)); have l2 := H2.out.l; clear A1 U1)
  all_goals go_wp2
  all_goals go_ret
  all_goals exact ⟨rfl, H2.out, (U0.out.trans V1.out).trans V2.out⟩
 ·rw [if_neg e]
  have A := κ a
  have d0 : decide (s.reg r < 0) = false := decide_eq_false e
  clear a hn e
  go_enter Tryz.func118, Tryz.ntmps118
  go_wp2
  go_ret
  exact ⟨rfl, A.out, UW.refl _ _⟩
theorem set_any (r : Nat) (x : Int) (hr : r < 8) (w : World) (a : LM K s w) (hn : s.ops.length < 1000000000) :
  Calls Tryz.prog 116 #[.pointer (some ⟨K.h, 0, none⟩), .int .i64 r, .int .i64 x] w fun e w' => e = .returned (.tuple #[]) ∧ LM K (s.set r x) w' ∧ UW K w w' := by
 have cr := a.cr hr
 have zr := a.z (6 + r)
 have l := a.l
 have r0 : (0 : Int) ≤ r := by omega
 have r8 : (r : Int) < 8 := by omega
 have A1 := a.setReg r hr x
 have U1 := κ (UW.setH (K := K) (W := w) (6 + r) (by omega) (.int .i64 x))
 have P := κ (slot_any (s := s.setR r x) (K := K) r x _ A1 hn)
 clear a hn A1
 go_enter Tryz.func116, Tryz.ntmps116
 go_wp2_with (go_at_call 182; refine P.out.mono ?_; rintro e w1 ⟨rfl, A1, U2⟩; have H1 := κ A1; have V1 := κ U2; clear A1 U2)
 go_end0
 exact ⟨rfl, H1.out, U1.out.trans V1.out⟩
theorem add_any (x n : Int) (w : World) (a : LM K s w) (hn : s.ops.length + 1 < 1000000000) :
  Calls Tryz.prog 120 #[.pointer (some ⟨K.h, 0, none⟩), .int .i64 x, .int .i64 n] w fun e w' => e = .returned (.int .i64 (s.add x n).1) ∧ LM K (s.add x n).2 w' ∧ UW K w w' := by
 have P := κ (konst_any (s := s) (K := K) (n % 4294967296) w a (by omega))
 have N2 := κ (show (s.K (w32 n)).2.ops.length < 1000000000 by show (s.put _).ops.length < _; rw [Lk.len1]; omega)
 have hw : IntKind.u32.wrap n = n % 4294967296 := IntKind.wrap_u32 n
 clear a hn
 go_enter Tryz.func120, Tryz.ntmps120
 go_wp2_with (first
  | (go_at_call 117; refine P.out.mono ?_; rintro e w1 ⟨rfl, A1, U1⟩; have H1 := κ A1; have V1 := κ U1; have P2 := κ (bin_any (K := K) 0 x (s.K (w32 n)).1 w1 A1 N2.out); clear A1 U1)
  | (go_at_call 135; refine P2.out.mono ?_; rintro e w2 ⟨rfl, A2, U2⟩; have H2 := κ A2; have V2 := κ U2; clear A2 U2))
 go_ret
 exact ⟨rfl, H2.out, V1.out.trans V2.out⟩
theorem whr_any (o d f m : Int) (r : Nat) (hr : r < 8) (w : World) (a : LM K s w) (hn : s.ops.length + 2 < 1000000000) :
  Calls Tryz.prog 124 #[.pointer (some ⟨K.h, 0, none⟩), .agg #[.int .i64 o, .int .i64 d, .int .i64 r, .int .i64 f, .int .u32 m]] w fun e w' => e = .returned (.int .i64 (s.whr r m).1) ∧ LM K (s.whr r m).2 w' ∧ UW K w w' := by
 have B0 := Bx.new a #[.int .i64 o, .int .i64 d, .int .i64 r, .int .i64 f, .int .u32 m] 74
 have a1 := (a.alloc (.cells #[.int .i64 o, .int .i64 d, .int .i64 r, .int .i64 f, .int .u32 m] 74)).drew
 have U0 := κ ((UW.alloc a.l (.cells #[.int .i64 o, .int .i64 d, .int .i64 r, .int .i64 f, .int .u32 m] 74)).trans (UW.drew (a.alloc _).l))
 have b2 := B0.c 2 _ rfl
 have b4 := B0.c 4 _ rfl
 have bl := B0.l
 have BD := κ (B0.uw (UW.drew (a.alloc _).l))
 have N1 := κ (show (s.get r).2.ops.length + 1 < 1000000000 by
  unfold Lk.get
  split
  ·show (s.put _).ops.length + 1 < _; rw [Lk.len1]; omega
  ·show s.ops.length + 1 < _; omega)
 have P := κ (get_any r hr _ a1 (by omega))
 clear a hn a1 B0
 go_enter Tryz.func124, Tryz.ntmps124
 go_upto_region 1 with fail
 go_region_with (first
  | (go_at_call 118; refine P.out.mono ?_; rintro e w1 ⟨rfl, A1, U1⟩; have H1 := κ A1; have V1 := κ U1; have B1 := κ (BD.out.uw U1); have k4 := B1.out.c 4 _ rfl; have kl := B1.out.l; have P2 := κ (konst_any (K := K) m w1 A1 (by have := N1.out; omega)); clear A1 U1)
  | (go_at_call 117; refine P2.out.mono ?_; rintro e w2 ⟨rfl, A2, U2⟩; have H2 := κ A2; have V2 := κ U2; have P3 := κ (bin_any (K := K) 0 (s.get r).1 ((s.get r).2.K m).1 w2 A2 (by have h1 := N1.out; have h2 := Lk.len1 (s.get r).2 ⟨1, 0, 0, 0, 0, m, 0⟩; show ((s.get r).2.put _).ops.length < _; omega)); clear A2 U2)
  | (go_at_call 135; refine P3.out.mono ?_; rintro e w3 ⟨rfl, A3, U3⟩; have H3 := κ A3; have V3 := κ U3; clear A3 U3))
 all_goals go_wp2
 all_goals go_ret
 all_goals exact ⟨rfl, H3.out, U0.out.trans (V1.out.trans (V2.out.trans V3.out))⟩
open Ot (OwnO OB)
variable {K : Kc} {s : Lk} {W W' : World} {B : Nat}
/-- blocks made since may change too -/
structure UX (K : Kc) (B : Nat) (W W' : World) : Prop where
 u : Upto (fun i => SW K W i ∨ B ≤ i) W W'
 ow : ∀ i, own K W' i → own K W i ∨ W.heap.size ≤ i
theorem UX.of (u : UW K W W') : UX K B W W' := ⟨u.u.mono fun i _ h => .inl h, u.ow⟩
theorem UX.trans {a b c : World} (hB : B ≤ a.heap.size) (h : UX K B a b) (k : UX K B b c) : UX K B a c :=
 ⟨⟨k.u.os.trans h.u.os, k.u.tape.trans h.u.tape, k.u.output.trans h.u.output, Nat.le_trans h.u.size k.u.size, fun i hi hs => (k.u.block i (Nat.lt_of_lt_of_le hi h.u.size) fun e => by
   rcases e with e | e
   ·rcases e with e | e
    ·exact hs (.inl (.inl e))
    ·rcases h.ow i e with e | e
     ·exact hs (.inl (.inr e))
     ·omega
   ·exact hs (.inr e)).trans (h.u.block i hi hs)⟩,
  fun i e => (k.ow i e).elim (h.ow i) fun e => .inr (Nat.le_trans h.u.size e)⟩
theorem UX.fin {w w' : World} (h : UX K w.heap.size w w') : UW K w w' := ⟨h.u.mono fun i hi e => e.elim id fun e => by omega, h.ow⟩
theorem UX.set (z j : Nat) (v : Value) (hz : B ≤ z) (hh : z ≠ K.h) : UX K B W (W.setCell ⟨z, j, none⟩ v) :=
 ⟨(Upto.refl _ W).setCell (q := ⟨z, j, none⟩) (.inl (.inr hz)) v, fun i ⟨x, h1, h2⟩ => .inl ⟨x, (World.cell?_setCell_other _ _ _ _ (fun hx => hh (congrArg Addr.block hx))).symm.trans h1, h2⟩⟩
/-- the box's own cell is set -/
theorem Bx.set1 {b : Nat} {v v' : Value} (h : Bx K b #[v] W) : Bx K b #[v'] (W.setCell ⟨b, 0, none⟩ v') := by
 refine ⟨by simpa using h.l, fun j u hj => ?_, fun j => by simpa using h.z j, fun e => ?_⟩
 ·match j, hj with
  | 0, hj =>
   obtain rfl : v' = u := by simpa using hj
   exact World.cell?_setCell_same _ _ _ (h.c 0 _ rfl)
  | n + 1, hj => simp at hj
 ·rcases e with e | e
  ·exact h.n (.inl e)
  ·have hh : b ≠ K.h := fun e => h.n (.inl e)
   obtain ⟨x, h1, h2⟩ := e
   exact h.n (.inr ⟨x, (World.cell?_setCell_other _ _ _ _ (fun hx => hh (congrArg Addr.block hx))).symm.trans h1, h2⟩)
theorem Bx.apart {b z : Nat} {cs : Array Value} (h : Bx K b cs W) (hz : b ≠ z) (hh : z ≠ K.h) (j : Nat) (v : Value) : Bx K b cs (W.setCell ⟨z, j, none⟩ v) := by
 refine ⟨by simpa using h.l, fun i u hi => (World.cell?_setCell_other _ _ _ _ (fun hx => hz (congrArg Addr.block hx).symm)).trans (h.c i u hi), fun i => by simpa using h.z i, fun e => ?_⟩
 rcases e with e | e
 ·exact h.n (.inl e)
 ·obtain ⟨x, h1, h2⟩ := e
  exact h.n (.inr ⟨x, (World.cell?_setCell_other _ _ _ _ (fun hx => hh (congrArg Addr.block hx))).symm.trans h1, h2⟩)
theorem LM.apart {z : Nat} (a : LM K s W) (hz : ¬ SW K W z) (hl : z < W.heap.size) (j : Nat) (v : Value) : LM K s (W.setCell ⟨z, j, none⟩ v) := by
 have hh : z ≠ K.h := fun e => hz (.inl e)
 have c : ∀ j', (W.setCell ⟨z, j, none⟩ v).cell? ⟨K.h, j', none⟩ = W.cell? ⟨K.h, j', none⟩ := fun j' => World.cell?_setCell_other _ _ _ _ (fun hx => hh (congrArg Addr.block hx))
 obtain ⟨x, h1, h2⟩ := a.o
 exact ⟨fun j' h3 h4 => (c j').trans (a.c j' h3 h4), ⟨x, (c 3).trans h1, h2.upto ((Upto.refl (fun i => i = z) W).setCell (q := ⟨z, j, none⟩) (.inl rfl) v) fun k hk e => hz (.inr ⟨x, h1, by rw [← show k = z from e]; exact hk⟩)⟩, fun j' => by simpa using a.z j', a.lh, by simpa using a.lb⟩
theorem some_any (t zv : Int) (z kb : Nat) (w : World) (a : LM K s w) (hz : Bx K z #[.int .i64 zv] w) (hk : Bx K kb #[.pointer (some ⟨K.h, 0, none⟩)] w) (ne : kb ≠ z) (hB : B ≤ z) (hn : s.ops.length < 1000000000) :
  Calls Tryz.prog 183 #[.int .i64 t, .pointer (some ⟨z, 0, none⟩), .pointer (some ⟨kb, 0, none⟩)] w fun e w' => e = .returned (.int .i64 (s.some zv t).1) ∧ LM K (s.some zv t).2.2 w' ∧ Bx K z #[.int .i64 (s.some zv t).2.1] w' ∧ Bx K kb #[.pointer (some ⟨K.h, 0, none⟩)] w' ∧ UX K B w w' := by
 have z0 := hz.c 0 _ rfl
 have zz := hz.z 0
 have zl := hz.l
 have k0 := hk.c 0 _ rfl
 have kl := hk.l
 have HH := κ (show z ≠ K.h from fun e => hz.n (.inl e))
 unfold Lk.some
 by_cases h0 : 0 ≤ t
 ·rw [if_pos h0]
  have d0 : decide (0 ≤ t) = true := decide_eq_true h0
  have A := κ a; have Z := κ hz; have KB := κ hk
  clear a hz hk hn h0
  go_enter Tryz.func183, Tryz.ntmps183
  go_wp2
  go_ret
  exact ⟨rfl, A.out, Z.out, KB.out, UX.of (UW.refl _ _)⟩
 ·rw [if_neg h0]
  have d0 : decide (0 ≤ t) = false := decide_eq_false h0
  by_cases h1 : zv < 0
  ·rw [if_pos h1]
   have d1 : decide (zv < 0) = true := decide_eq_true h1
   have P := κ (konst_any (s := s) (K := K) 0 w a hn)
   have Z := κ hz; have KB := κ hk
   have NE := κ ne
   have HB := κ hB
   clear a hz hk hn h0 h1 ne
   go_enter Tryz.func183, Tryz.ntmps183
   go_wp2_with (go_at_call 117; refine P.out.mono ?_; rintro e w1 ⟨rfl, A1, U1⟩; have H1 := κ A1; have V1 := κ U1; have Z1 := κ (Z.out.uw U1); have K1 := κ (KB.out.uw U1); have y0 := Z1.out.c 0 _ rfl; have yz := Z1.out.z 0; have yl := Z1.out.l; clear A1 U1)
   go_ret
   exact ⟨rfl, H1.out.apart Z1.out.n Z1.out.l 0 _, Z1.out.set1, K1.out.apart NE.out HH.out 0 _, (UX.of V1.out).trans (Nat.le_trans HB.out (Nat.le_of_lt Z.out.l)) (UX.set z 0 _ HB.out HH.out)⟩
  ·rw [if_neg h1]
   have d1 : decide (zv < 0) = false := decide_eq_false h1
   have A := κ a; have Z := κ hz; have KB := κ hk
   clear a hz hk hn h0 h1
   go_enter Tryz.func183, Tryz.ntmps183
   go_wp2
   go_ret
   exact ⟨rfl, A.out, Z.out, KB.out, UX.of (UW.refl _ _)⟩
end Go.Proofs.YtcjcmnnhmajocabGreat.Lf
