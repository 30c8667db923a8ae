/- A stop in a box. -/
import Derived.RegionTactic
import Derived.BigRegion
import Derived.Test.YtcjcmnnhmajocabPhae
import Derived.Test.YtcjcmnnhmajocabPhai
set_option linter.unusedVariables false
set_option linter.unusedSimpArgs false
set_option maxRecDepth 100000
set_option maxHeartbeats 16000000
namespace Go.Proofs.Ytcjcmnnhmajocab.St
open Go.RowKit Kt Me
def stK (kind : Int) (o : Option Int) : Int := match o with | none => 0 | some _ => kind
def stX (o : Option Int) : Int := match o with | none => 0 | some x => x
theorem stpV_eq (kind : Int) (o : Option Int) : stpV kind o = .agg #[.int .i64 (stK kind o), .int .u32 (stX o)] := by cases o <;> rfl
/-- interp.at: the memory, the state, where it goes on, the stop -/
structure AtB (A p : Nat) (R : Nat → Int) (pc f nx k x : Int) (W : World) : Prop where
 m : W.cell? ⟨A, 0, none⟩ = some (.pointer (some ⟨p, 0, none⟩))
 r : ∀ j, j < 8 → W.cell? ⟨A, 1 + j, none⟩ = some (.int .u32 (R j))
 c9 : W.cell? ⟨A, 9, none⟩ = some (.int .u32 pc)
 c10 : W.cell? ⟨A, 10, none⟩ = some (.int .u32 f)
 c11 : W.cell? ⟨A, 11, none⟩ = some (.int .u32 nx)
 c12 : W.cell? ⟨A, 12, none⟩ = some (.int .i64 k)
 c13 : W.cell? ⟨A, 13, none⟩ = some (.int .u32 x)
 z : ∀ i, W.frozen? ⟨A, i, none⟩ = false
 l : A < W.heap.size
variable {A p : Nat} {R : Nat → Int} {pc f nx k x : Int} {W W' : World}
theorem AtB.upto {S : Nat → Prop} (h : AtB A p R pc f nx k x W) (u : Upto S W W') (hs : ¬ S A) : AtB A p R pc f nx k x W' :=
 ⟨(u.cell h.l hs).trans h.m, fun j hj => (u.cell h.l hs).trans (h.r j hj), (u.cell h.l hs).trans h.c9, (u.cell h.l hs).trans h.c10, (u.cell h.l hs).trans h.c11, (u.cell h.l hs).trans h.c12, (u.cell h.l hs).trans h.c13, fun i => (u.frozen h.l hs).trans (h.z i), Nat.lt_of_lt_of_le h.l u.size⟩
theorem AtB.drew (h : AtB A p R pc f nx k x W) : AtB A p R pc f nx k x W.drew := ⟨h.m, h.r, h.c9, h.c10, h.c11, h.c12, h.c13, h.z, h.l⟩
theorem off {b i j : Nat} {v : Value} (hne : i ≠ j) : (W.setCell ⟨b, j, none⟩ v).cell? ⟨b, i, none⟩ = W.cell? ⟨b, i, none⟩ :=
 World.cell?_setCell_other _ _ _ _ (by intro h; simp only [Addr.mk.injEq] at h; omega)
theorem AtB.setR (h : AtB A p R pc f nx k x W) (d : Nat) (hd : d < 8) (v : Int) : AtB A p (upd R d v) pc f nx k x (W.setCell ⟨A, 1 + d, none⟩ (.int .u32 v)) := by
 refine ⟨(off (by omega)).trans h.m, fun j hj => ?_, (off (by omega)).trans h.c9, (off (by omega)).trans h.c10, (off (by omega)).trans h.c11, (off (by omega)).trans h.c12, (off (by omega)).trans h.c13, fun i => by simpa using h.z i, by simpa using h.l⟩
 by_cases hjd : j = d
 ·subst hjd; rw [World.cell?_setCell_same _ _ _ (h.r j hj)]; simp only [upd, if_true]
 ·rw [off (by omega), h.r j hj]; simp only [upd, if_neg hjd]
theorem AtB.setPc (h : AtB A p R pc f nx k x W) (v : Int) : AtB A p R v f nx k x (W.setCell ⟨A, 9, none⟩ (.int .u32 v)) :=
 ⟨(off (by omega)).trans h.m, fun j hj => (off (by omega)).trans (h.r j hj), World.cell?_setCell_same _ _ _ h.c9, (off (by omega)).trans h.c10, (off (by omega)).trans h.c11, (off (by omega)).trans h.c12, (off (by omega)).trans h.c13, fun i => by simpa using h.z i, by simpa using h.l⟩
theorem AtB.setK (h : AtB A p R pc f nx k x W) (v : Int) : AtB A p R pc f nx v x (W.setCell ⟨A, 12, none⟩ (.int .i64 v)) :=
 ⟨(off (by omega)).trans h.m, fun j hj => (off (by omega)).trans (h.r j hj), (off (by omega)).trans h.c9, (off (by omega)).trans h.c10, (off (by omega)).trans h.c11, World.cell?_setCell_same _ _ _ h.c12, (off (by omega)).trans h.c13, fun i => by simpa using h.z i, by simpa using h.l⟩
/-- what of a world an instruction may change -/
def AS (A p : Nat) (i : Nat) : Prop := i = A ∨ i = p
/-- registers within their bounds -/
def ROk (R : Nat → Int) : Prop := ∀ j, 0 ≤ R j ∧ R j < 4294967296
theorem ROk.upd (h : ROk R) (d : Nat) (v : Int) (hv : 0 ≤ v ∧ v < 4294967296) : ROk (upd R d v) := fun j => by
 unfold Me.upd; split
 ·exact hv
 ·exact h j
end Go.Proofs.Ytcjcmnnhmajocab.St
namespace Go.Proofs.Ytcjcmnnhmajocab.St
open Go.RowKit Kt Me Fl
theorem fl_bd (k a b old : Int) : 0 ≤ fl k a b old ∧ fl k a b old < 16 := by
 unfold fl
 have h1 := fAdd_lt a b 0
 have h2 := fAdd_lt a b (old / 4 % 2)
 have h3 := fSub_lt a b 0
 have h4 := fSub_lt a b (old / 4 % 2)
 have h5 := zn_lt a
 have h6 := zn_lt (a * b % 4294967296)
 have h7 := zn_lt ((a + 1) % 4294967296)
 have h8 := zn_lt ((a - 1) % 4294967296)
 have h9 := zn_lt (a * 2 ^ n5 b % 4294967296)
 have h10 := zn_lt (a / 2 ^ n5 b)
 have h11 := zn_lt (sg a / 2 ^ n5 b % 4294967296)
 generalize fAdd a b 0 = y1 at *
 generalize fAdd a b (old / 4 % 2) = y2 at *
 generalize fSub a b 0 = y3 at *
 generalize fSub a b (old / 4 % 2) = y4 at *
 repeat' split
 all_goals omega
/-- what comes of an instruction: memory, registers, where it goes on, flags; the stop -/
structure Out where
 M : MM
 R : Nat → Int
 pc : Int
 f : Int
 k : Int
 x : Int
def ldN (o : Int) : Int := if o = 0 then 1 else if o = 1 then 1 else if o = 2 then 2 else if o = 3 then 2 else 4
def stN (o : Int) : Int := if o = 0 then 1 else if o = 1 then 2 else 4
/-- what is left of an instruction under way -/
def AtQ (A p : Nat) (pc : Int) (o : Out) (w w' : World) : Prop :=
 ∃ (R' : Nat → Int) (f' nx' : Int), AtB A p R' pc f' nx' o.k o.x w' ∧ HC p o.M w' ∧ Upto (AS A p) w w' ∧ ((o.k = 0 ∨ o.k = 1) → R' = o.R ∧ f' = o.f ∧ nx' = o.pc)
theorem AtQ.ok {A p : Nat} {pc : Int} {M : MM} {R : Nat → Int} {f nx k x : Int} {w w' : World} (h : AtB A p R pc f nx k x w') (hm : HC p M w') (u : Upto (AS A p) w w') : AtQ A p pc ⟨M, R, nx, f, k, x⟩ w w' := ⟨R, f, nx, h, hm, u, fun _ => ⟨rfl, rfl, rfl⟩⟩
end Go.Proofs.Ytcjcmnnhmajocab.St
namespace Go.Proofs.Ytcjcmnnhmajocab.St
open Go.RowKit Kt Me Fl
theorem wrap_i8' (n : Int) : IntKind.i8.wrap n = (n + 128) % 256 - 128 := by
 have h1 : IntKind.i8.bits = 8 := rfl
 have h2 : IntKind.i8.signed = true := rfl
 simp only [IntKind.wrap, h1, h2, Bool.true_and]
 split
 ·rename_i h
  simp at h
  omega
 ·rename_i h
  simp at h
  omega
theorem wrap_i16' (n : Int) : IntKind.i16.wrap n = (n + 32768) % 65536 - 32768 := by
 have h1 : IntKind.i16.bits = 16 := rfl
 have h2 : IntKind.i16.signed = true := rfl
 simp only [IntKind.wrap, h1, h2, Bool.true_and]
 split
 ·rename_i h
  simp at h
  omega
 ·rename_i h
  simp at h
  omega
theorem loads_any (o : Int) (w : World) (o0 : 0 ≤ o) (o1 : o < 5) : Calls Try.prog 131 #[.int .i64 o] w fun e w' => e = .returned (.int .i64 (ldN o)) ∧ w = w' := by
 rcases (show o = 0 ∨ o = 1 ∨ o = 2 ∨ o = 3 ∨ o = 4 by omega) with rfl | rfl | rfl | rfl | rfl
 all_goals
  go_enter Try.func131, Try.ntmps131
  go_wp2_with fail
 ·change Oper.upon _ _ _ _ _ (.ok (.value (.int .i64 1)) _); go_wp2; go_ret; exact ⟨rfl, rfl⟩
 ·change Oper.upon _ _ _ _ _ (.ok (.value (.int .i64 1)) _); go_wp2; go_ret; exact ⟨rfl, rfl⟩
 ·change Oper.upon _ _ _ _ _ (.ok (.value (.int .i64 2)) _); go_wp2; go_ret; exact ⟨rfl, rfl⟩
 ·change Oper.upon _ _ _ _ _ (.ok (.value (.int .i64 2)) _); go_wp2; go_ret; exact ⟨rfl, rfl⟩
 ·change Oper.upon _ _ _ _ _ (.ok (.value (.int .i64 4)) _); go_wp2; go_ret; exact ⟨rfl, rfl⟩
theorem stores_any (o : Int) (w : World) (o0 : 0 ≤ o) (o1 : o < 3) : Calls Try.prog 133 #[.int .i64 o] w fun e w' => e = .returned (.int .i64 (stN o)) ∧ w = w' := by
 rcases (show o = 0 ∨ o = 1 ∨ o = 2 by omega) with rfl | rfl | rfl
 all_goals
  go_enter Try.func133, Try.ntmps133
  go_wp2_with fail
 ·change Oper.upon _ _ _ _ _ (.ok (.value (.int .i64 1)) _); go_wp2; go_ret; exact ⟨rfl, rfl⟩
 ·change Oper.upon _ _ _ _ _ (.ok (.value (.int .i64 2)) _); go_wp2; go_ret; exact ⟨rfl, rfl⟩
 ·change Oper.upon _ _ _ _ _ (.ok (.value (.int .i64 4)) _); go_wp2; go_ret; exact ⟨rfl, rfl⟩
theorem not32 (x : Int) (h0 : 0 ≤ x) (g0 : x < 4294967296) : bits .xor .u32 IntKind.u32.max x = 4294967295 - x := by
 obtain ⟨a, rfl⟩ := Int.eq_ofNat_of_zero_le h0
 have ha : a < 4294967296 := by omega
 have hm : IntKind.u32.max = ((4294967295 : Nat) : Int) := by simp [IntKind.max, IntKind.signed, IntKind.bits]
 have hx : 4294967295 ^^^ a = 4294967295 - a := by
  apply Nat.eq_of_testBit_eq
  intro i
  rw [Nat.testBit_xor, show 4294967295 - a = 2 ^ 32 - (a + 1) by omega, Nat.testBit_two_pow_sub_succ (by omega) i, show (4294967295 : Nat) = 2 ^ 32 - 1 by decide, Nat.testBit_two_pow_sub_one]
  by_cases h : i < 32
  ·simp [h]
  ·have hz : a.testBit i = false := Nat.testBit_lt_two_pow (Nat.lt_of_lt_of_le (show a < 2 ^ 32 by omega) (Nat.pow_le_pow_right (by omega) (by omega)))
   simp [h, hz]
 rw [hm, u32_xor_nat _ _ (by omega) ha, hx]
 omega
theorem box_at (w : World) (cs : Array Value) (t : TypeId) (i : Nat) : (w.alloc (.cells cs t)).cell? ⟨w.heap.size, i, none⟩ = cs[i]? := cell_of_row _ _ _ _ _ _ (heap_alloc_new w (.cells cs t))
end Go.Proofs.Ytcjcmnnhmajocab.St
namespace Go.Proofs.Ytcjcmnnhmajocab.Ev
open Go.RowKit Kt Me Fl
theorem off {W : World} {b i j : Nat} {v : Value} (hne : i ≠ j) : (W.setCell ⟨b, j, none⟩ v).cell? ⟨b, i, none⟩ = W.cell? ⟨b, i, none⟩ := St.off hne
theorem box_at (w : World) (cs : Array Value) (t : TypeId) (i : Nat) : (w.alloc (.cells cs t)).cell? ⟨w.heap.size, i, none⟩ = cs[i]? := St.box_at w cs t i
theorem fz_new (w : World) (cs : Array Value) (t : TypeId) (i : Nat) : (w.alloc (.cells cs t)).frozen? ⟨w.heap.size, i, none⟩ = false := by
 unfold World.frozen?
 rw [heap_alloc_new]; simp
/-- a stop in a box -/
structure KB (h : Nat) (k x : Int) (W : World) : Prop where
 c0 : W.cell? ⟨h, 0, none⟩ = some (.int .i64 k)
 c1 : W.cell? ⟨h, 1, none⟩ = some (.int .u32 x)
 z : ∀ i, W.frozen? ⟨h, i, none⟩ = false
 l : h < W.heap.size
theorem KB.upto {S : Nat → Prop} {h : Nat} {k x : Int} {W W' : World} (a : KB h k x W) (u : Upto S W W') (hs : ¬ S h) : KB h k x W' :=
 ⟨(u.cell (q := ⟨h, 0, none⟩) a.l hs).trans a.c0, (u.cell (q := ⟨h, 1, none⟩) a.l hs).trans a.c1, fun i => (u.frozen (q := ⟨h, i, none⟩) a.l hs).trans (a.z i), Nat.lt_of_lt_of_le a.l u.size⟩
theorem KB.set {h : Nat} {k x : Int} {W : World} (a : KB h k x W) (k' x' : Int) : KB h k' x' ((W.setCell ⟨h, 0, none⟩ (.int .i64 k')).setCell ⟨h, 1, none⟩ (.int .u32 x')) := by
 refine ⟨(off (by omega)).trans (World.cell?_setCell_same _ _ _ a.c0), World.cell?_setCell_same _ _ _ ((off (by omega)).trans a.c1), fun i => by simpa using a.z i, by simpa using a.l⟩
theorem KB.new (w : World) (k x : Int) (t : TypeId) : KB w.heap.size k x (w.alloc (.cells #[.int .i64 k, .int .u32 x] t)) :=
 ⟨box_at w _ _ 0, box_at w _ _ 1, fun i => fz_new w _ _ i, by simp⟩
end Go.Proofs.Ytcjcmnnhmajocab.Ev
