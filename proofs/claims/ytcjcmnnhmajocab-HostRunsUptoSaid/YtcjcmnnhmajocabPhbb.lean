/- Six, and twelve, cells of a box written at once. -/
import Derived.Deep.DeepCutAuto
import Derived.Test.YtcjcmnnhmajocabPhao
import Derived.Test.YtcjcmnnhmajocabPhba
set_option linter.unusedVariables false
set_option linter.unusedSimpArgs false
set_option maxRecDepth 100000
set_option maxHeartbeats 16000000
namespace Go.Proofs.Ytcjcmnnhmajocab.Hr
open Go.RowKit Kt Ho
structure Cd where
 op : Int
 d : Int
 a : Int
 b : Int
 c : Int
 n : Int
 k : Int
 x : Int
def zcd : Cd := ⟨0, 0, 0, 0, 0, 0, 0, 0⟩
def Cd.L (x : Cd) : Array Value := #[.int .i64 x.op, .int .i64 x.d, .int .i64 x.a, .int .i64 x.b, .int .i64 x.c, .int .i64 x.n, .int .u32 x.k, .int .u32 x.x]
def Cd.of (q : Nat) (v k x : Int) : Cd := ⟨v % 256, pick (hD q) (v / 256 % 16), pick (hA q) (v / 256 / 16 % 16), pick (hB q) (v / 256 / 16 / 16 % 16), pick (hC q) (v / 256 / 16 / 16 / 16 % 16), pick (decide (nb q ≠ 0)) (v / 256 / 16 / 16 % 65536), pick (decide (1 < wd q)) k, pick (decide (2 < wd q)) x⟩
/-- the instruction at a place, its words, the error -/
def decP (us : List Int) (k : Int) : Cd × Int × Int :=
 if k < 0 then (zcd, 0, 4) else if (us.length : Int) < k then (zcd, 0, 4) else if k = us.length then (zcd, 0, 1) else
  if fcls (us.getD k.toNat 0 % 256) = 0 then (zcd, 0, 2) else if (us.length : Int) - k < wd (fcls (us.getD k.toNat 0 % 256)) then (zcd, 0, 1)
  else if good (fcls (us.getD k.toNat 0 % 256)) (us.getD k.toNat 0) then (Cd.of (fcls (us.getD k.toNat 0 % 256)) (us.getD k.toNat 0) (us.getD (k.toNat + 1) 0) (us.getD (k.toNat + 2) 0), wd (fcls (us.getD k.toNat 0 % 256)), 0)
  else (zcd, 0, 3)
def decT (r : Cd × Int × Int) : Value := .tuple #[.agg r.1.L, .int .i64 r.2.1, .int .i64 r.2.2]
theorem decv_eq (us : List Int) (k : Int) : decv us k = decT (decP us k) := by
 unfold decv decP
 split
 ·rfl
 split
 ·rfl
 split
 ·rfl
 split
 ·rfl
 split
 ·rfl
 unfold dres
 split <;> rfl
/-- what is known of an instruction -/
structure CdOk (x : Cd) : Prop where
 op : 0 ≤ x.op ∧ x.op < 256
 q : fcls x.op ≠ 0
 d : 0 ≤ x.d ∧ x.d < 16
 a : 0 ≤ x.a ∧ x.a < 16
 b : 0 ≤ x.b ∧ x.b < 16
 c : 0 ≤ x.c ∧ x.c < 16
 n : 0 ≤ x.n ∧ x.n < 2048
 n12 : x.op = 6 ∨ x.op = 7 → x.n < 12
 k : 0 ≤ x.k ∧ x.k < 4294967296
 x : 0 ≤ x.x ∧ x.x < 4294967296
theorem pick_bd (b : Bool) (v m : Int) (h : 0 ≤ v ∧ v < m) (hm : 0 < m) : 0 ≤ pick b v ∧ pick b v < m := by
 unfold pick; cases b
 ·exact ⟨Int.le_refl _, hm⟩
 ·exact h
theorem nb_le (q : Nat) : 0 ≤ nb q ∧ nb q ≤ 2048 := by
 unfold nb; split
 ·omega
 split
 ·omega
 split <;> omega
theorem decP_ok (us : List Int) (hw : ∀ j, 0 ≤ us.getD j 0 ∧ us.getD j 0 < 4294967296) (k : Int) (h : (decP us k).2.2 = 0) : CdOk (decP us k).1 ∧ 0 ≤ k ∧ 1 ≤ (decP us k).2.1 ∧ (decP us k).2.1 ≤ 3 ∧ k + (decP us k).2.1 ≤ us.length := by
 unfold decP at h ⊢
 by_cases c1 : k < 0
 ·rw [if_pos c1] at h; exact absurd h (by decide)
 rw [if_neg c1] at h ⊢
 by_cases c2 : (us.length : Int) < k
 ·rw [if_pos c2] at h; exact absurd h (by decide)
 rw [if_neg c2] at h ⊢
 by_cases c3 : k = us.length
 ·rw [if_pos c3] at h; exact absurd h (by decide)
 rw [if_neg c3] at h ⊢
 by_cases c4 : fcls (us.getD k.toNat 0 % 256) = 0
 ·rw [if_pos c4] at h; exact absurd h (by decide)
 rw [if_neg c4] at h ⊢
 by_cases c5 : (us.length : Int) - k < wd (fcls (us.getD k.toNat 0 % 256))
 ·rw [if_pos c5] at h; exact absurd h (by decide)
 rw [if_neg c5] at h ⊢
 by_cases c6 : good (fcls (us.getD k.toNat 0 % 256)) (us.getD k.toNat 0)
 ·rw [if_pos c6]
  have hv := hw k.toNat
  have hk := hw (k.toNat + 1)
  have hx := hw (k.toNat + 2)
  generalize us.getD k.toNat 0 = v at *
  generalize us.getD (k.toNat + 1) 0 = k1 at *
  generalize us.getD (k.toNat + 2) 0 = x1 at *
  have hr := wd_rg (fcls (v % 256)) (by omega) (fcls_le _)
  have hn : 0 ≤ pick (decide (nb (fcls (v % 256)) ≠ 0)) (v / 256 / 16 / 16 % 65536) ∧ (pick (decide (nb (fcls (v % 256)) ≠ 0)) (v / 256 / 16 / 16 % 65536) < nb (fcls (v % 256)) ∨ pick (decide (nb (fcls (v % 256)) ≠ 0)) (v / 256 / 16 / 16 % 65536) = 0) := by
   by_cases e : nb (fcls (v % 256)) = 0
   ·rw [show decide (nb (fcls (v % 256)) ≠ 0) = false from by simp [e]]
    exact ⟨Int.le_refl _, .inr rfl⟩
   ·rw [show decide (nb (fcls (v % 256)) ≠ 0) = true from by simp [e]]
    have := c6.2.2.1 e
    exact ⟨by show 0 ≤ v / 256 / 16 / 16 % 65536; omega, .inl this⟩
  have nl := nb_le (fcls (v % 256))
  refine ⟨⟨⟨by show 0 ≤ v % 256; omega, by show v % 256 < 256; omega⟩, c4, pick_bd _ _ 16 ⟨by omega, by omega⟩ (by omega), pick_bd _ _ 16 ⟨by omega, by omega⟩ (by omega), pick_bd _ _ 16 ⟨by omega, by omega⟩ (by omega), pick_bd _ _ 16 ⟨by omega, by omega⟩ (by omega), ⟨hn.1, ?_⟩, ?_, pick_bd _ _ _ hk (by decide), pick_bd _ _ _ hx (by decide)⟩, by omega, hr.1, hr.2, by show k + wd _ ≤ _; omega⟩
  ·show pick (decide (nb (fcls (v % 256)) ≠ 0)) (v / 256 / 16 / 16 % 65536) < 2048
   omega
  ·intro ho
   show pick (decide (nb (fcls (v % 256)) ≠ 0)) (v / 256 / 16 / 16 % 65536) < 12
   have h6 : nb (fcls (v % 256)) = 12 := by
    rcases ho with ho | ho
    ·have : v % 256 = 6 := ho
     rw [this]; decide
    ·have : v % 256 = 7 := ho
     rw [this]; decide
   omega
 ·rw [if_neg c6] at h; exact absurd h (by decide)
/-- does a block begin at a word? -/
def ent (us : List Int) (k : Int) : Bool := decide ((decP us k).2.2 = 0) && decide ((decP us k).1.op = 1)
end Go.Proofs.Ytcjcmnnhmajocab.Hr
namespace Go.Proofs.Ytcjcmnnhmajocab.Hr
open Go.RowKit Kt Me Fl Ev
/-- what a run does not change -/
structure Hk where
 us : List Int
 ao : Option Addr
 cap : Nat
 p : Nat
 left : Int
 tab : List (Int × Int)
 tao : Option Addr
 tcap : Nat
/-- the machine -/
structure Pm where
 at_ : Int
 c : Nat → Int
 done : Int
 reg : Nat → Int
 fs : Nat → Int
 sp : Option Nat
 en : Int
 ran : Int
 stuck : Bool
/-- the machine in memory -/
structure MR (h : Nat) (K : Hk) (s : Pm) (W : World) : Prop where
 w0 : W.cell? ⟨h, 0, none⟩ = some (.slice K.ao K.us.length K.cap)
 at_ : W.cell? ⟨h, 1, none⟩ = some (.int .i64 s.at_)
 c : ∀ j, j < 12 → W.cell? ⟨h, 2 + j, none⟩ = some (.int .u32 (s.c j))
 m : W.cell? ⟨h, 14, none⟩ = some (.pointer (some ⟨K.p, 0, none⟩))
 left : W.cell? ⟨h, 15, none⟩ = some (.int .i64 K.left)
 done : W.cell? ⟨h, 16, none⟩ = some (.int .i64 s.done)
 tb : W.cell? ⟨h, 17, none⟩ = some (.slice K.tao K.tab.length K.tcap)
 reg : ∀ j, j < 16 → W.cell? ⟨h, 18 + j, none⟩ = some (.int .u32 (s.reg j))
 fs : ∀ j, j < 16 → W.cell? ⟨h, 34 + j, none⟩ = some (.int .i64 (s.fs j))
 sp : W.cell? ⟨h, 50, none⟩ = some (.map s.sp)
 en : W.cell? ⟨h, 51, none⟩ = some (.int .i64 s.en)
 ran : W.cell? ⟨h, 52, none⟩ = some (.int .i64 s.ran)
 st : W.cell? ⟨h, 53, none⟩ = some (.bool s.stuck)
 z : ∀ j, W.frozen? ⟨h, j, none⟩ = false
 l : h < W.heap.size
variable {h : Nat} {K : Hk} {s : Pm} {W W' : World}
theorem MR.upto {S : Nat → Prop} (a : MR h K s W) (u : Upto S W W') (hs : ¬ S h) : MR h K s W' := by
 have e : ∀ j, W'.cell? ⟨h, j, none⟩ = W.cell? ⟨h, j, none⟩ := fun j => u.cell (q := ⟨h, j, none⟩) a.l hs
 exact ⟨(e _).trans a.w0, (e _).trans a.at_, fun j hj => (e _).trans (a.c j hj), (e _).trans a.m, (e _).trans a.left, (e _).trans a.done, (e _).trans a.tb, fun j hj => (e _).trans (a.reg j hj), fun j hj => (e _).trans (a.fs j hj), (e _).trans a.sp, (e _).trans a.en, (e _).trans a.ran, (e _).trans a.st, fun j => (u.frozen (q := ⟨h, j, none⟩) a.l hs).trans (a.z j), Nat.lt_of_lt_of_le a.l u.size⟩
theorem MR.drew (a : MR h K s W) : MR h K s W.drew := a.upto (Upto.refl (fun _ => False) W).drew id
theorem MR.call (a : MR h K s W) (b : Below W.heap.size W W') : MR h K s W' := a.upto (Upto.of_below (S := fun _ => False) b) id
/-- one cell is written anew -/
theorem MR.put (a : MR h K s W) (i : Nat) (v : Value) (s' : Pm)
  (e1 : (if i = 1 then some v else some (.int .i64 s.at_)) = some (.int .i64 s'.at_)) (e2 : ∀ j, j < 12 → (if i = 2 + j then some v else some (.int .u32 (s.c j))) = some (.int .u32 (s'.c j)))
  (e3 : (if i = 16 then some v else some (.int .i64 s.done)) = some (.int .i64 s'.done)) (e4 : ∀ j, j < 16 → (if i = 18 + j then some v else some (.int .u32 (s.reg j))) = some (.int .u32 (s'.reg j)))
  (e5 : ∀ j, j < 16 → (if i = 34 + j then some v else some (.int .i64 (s.fs j))) = some (.int .i64 (s'.fs j))) (e6 : (if i = 50 then some v else some (.map s.sp)) = some (.map s'.sp))
  (e7 : (if i = 51 then some v else some (.int .i64 s.en)) = some (.int .i64 s'.en)) (e8 : (if i = 52 then some v else some (.int .i64 s.ran)) = some (.int .i64 s'.ran)) (e9 : (if i = 53 then some v else some (.bool s.stuck)) = some (.bool s'.stuck))
  (n : i ≠ 0 ∧ i ≠ 14 ∧ i ≠ 15 ∧ i ≠ 17) : MR h K s' (W.setCell ⟨h, i, none⟩ v) := by
 have g : ∀ j x, W.cell? ⟨h, j, none⟩ = some x → (W.setCell ⟨h, i, none⟩ v).cell? ⟨h, j, none⟩ = if i = j then some v else some x := fun j x hx => by
  by_cases e : i = j
  ·subst e; rw [if_pos rfl]; exact World.cell?_setCell_same _ _ _ hx
  ·rw [if_neg e, off (fun e' => e e'.symm), hx]
 refine ⟨(g _ _ a.w0).trans (if_neg n.1), (g _ _ a.at_).trans e1, fun j hj => (g _ _ (a.c j hj)).trans (e2 j hj), (g _ _ a.m).trans (if_neg n.2.1), (g _ _ a.left).trans (if_neg n.2.2.1), (g _ _ a.done).trans e3, (g _ _ a.tb).trans (if_neg n.2.2.2), fun j hj => (g _ _ (a.reg j hj)).trans (e4 j hj), fun j hj => (g _ _ (a.fs j hj)).trans (e5 j hj), (g _ _ a.sp).trans e6, (g _ _ a.en).trans e7, (g _ _ a.ran).trans e8, (g _ _ a.st).trans e9, fun j => by simpa using a.z j, by simpa using a.l⟩
theorem MR.setStuck (a : MR h K s W) (b : Bool) : MR h K { s with stuck := b } (W.setCell ⟨h, 53, none⟩ (.bool b)) :=
 a.put 53 (.bool b) _ rfl (fun j hj => if_neg (by omega)) rfl (fun j hj => if_neg (by omega)) (fun j hj => if_neg (by omega)) rfl rfl rfl rfl (by decide)
theorem MR.setAt (a : MR h K s W) (x : Int) : MR h K { s with at_ := x } (W.setCell ⟨h, 1, none⟩ (.int .i64 x)) :=
 a.put 1 (.int .i64 x) _ rfl (fun j hj => if_neg (by omega)) rfl (fun j hj => if_neg (by omega)) (fun j hj => if_neg (by omega)) rfl rfl rfl rfl (by decide)
theorem MR.setDone (a : MR h K s W) (x : Int) : MR h K { s with done := x } (W.setCell ⟨h, 16, none⟩ (.int .i64 x)) :=
 a.put 16 (.int .i64 x) _ rfl (fun j hj => if_neg (by omega)) rfl (fun j hj => if_neg (by omega)) (fun j hj => if_neg (by omega)) rfl rfl rfl rfl (by decide)
theorem MR.setSp (a : MR h K s W) (x : Option Nat) : MR h K { s with sp := x } (W.setCell ⟨h, 50, none⟩ (.map x)) :=
 a.put 50 (.map x) _ rfl (fun j hj => if_neg (by omega)) rfl (fun j hj => if_neg (by omega)) (fun j hj => if_neg (by omega)) rfl rfl rfl rfl (by decide)
theorem MR.setEn (a : MR h K s W) (x : Int) : MR h K { s with en := x } (W.setCell ⟨h, 51, none⟩ (.int .i64 x)) :=
 a.put 51 (.int .i64 x) _ rfl (fun j hj => if_neg (by omega)) rfl (fun j hj => if_neg (by omega)) (fun j hj => if_neg (by omega)) rfl rfl rfl rfl (by decide)
theorem MR.setRan (a : MR h K s W) (x : Int) : MR h K { s with ran := x } (W.setCell ⟨h, 52, none⟩ (.int .i64 x)) :=
 a.put 52 (.int .i64 x) _ rfl (fun j hj => if_neg (by omega)) rfl (fun j hj => if_neg (by omega)) (fun j hj => if_neg (by omega)) rfl rfl rfl rfl (by decide)
theorem MR.setC (a : MR h K s W) (r : Nat) (x : Int) (hr : r < 12) : MR h K { s with c := upd s.c r x } (W.setCell ⟨h, 2 + r, none⟩ (.int .u32 x)) :=
 a.put (2 + r) (.int .u32 x) _ (if_neg (by omega)) (fun j hj => by
  show _ = some (Value.int .u32 (upd s.c r x j)); unfold upd
  by_cases e : j = r
  ·subst e; simp
  ·rw [if_neg e, if_neg (by omega)]) (if_neg (by omega)) (fun j hj => if_neg (by omega)) (fun j hj => if_neg (by omega)) (if_neg (by omega)) (if_neg (by omega)) (if_neg (by omega)) (if_neg (by omega)) (by omega)
theorem MR.setReg (a : MR h K s W) (r : Nat) (x : Int) (hr : r < 16) : MR h K { s with reg := upd s.reg r x } (W.setCell ⟨h, 18 + r, none⟩ (.int .u32 x)) :=
 a.put (18 + r) (.int .u32 x) _ (if_neg (by omega)) (fun j hj => if_neg (by omega)) (if_neg (by omega)) (fun j hj => by
  show _ = some (Value.int .u32 (upd s.reg r x j)); unfold upd
  by_cases e : j = r
  ·subst e; simp
  ·rw [if_neg e, if_neg (by omega)]) (fun j hj => if_neg (by omega)) (if_neg (by omega)) (if_neg (by omega)) (if_neg (by omega)) (if_neg (by omega)) (by omega)
theorem MR.setFs (a : MR h K s W) (r : Nat) (x : Int) (hr : r < 16) : MR h K { s with fs := upd s.fs r x } (W.setCell ⟨h, 34 + r, none⟩ (.int .i64 x)) :=
 a.put (34 + r) (.int .i64 x) _ (if_neg (by omega)) (fun j hj => if_neg (by omega)) (if_neg (by omega)) (fun j hj => if_neg (by omega)) (fun j hj => by
  show _ = some (Value.int .i64 (upd s.fs r x j)); unfold upd
  by_cases e : j = r
  ·subst e; simp
  ·rw [if_neg e, if_neg (by omega)]) (if_neg (by omega)) (if_neg (by omega)) (if_neg (by omega)) (if_neg (by omega)) (by omega)
/-- how the host is left, in a box -/
structure LB (h : Nat) (k sk sx pc n at_ : Int) (W : World) : Prop where
 c0 : W.cell? ⟨h, 0, none⟩ = some (.int .i64 k)
 c1 : W.cell? ⟨h, 1, none⟩ = some (.int .i64 sk)
 c2 : W.cell? ⟨h, 2, none⟩ = some (.int .u32 sx)
 c3 : W.cell? ⟨h, 3, none⟩ = some (.int .u32 pc)
 c4 : W.cell? ⟨h, 4, none⟩ = some (.int .i64 n)
 c5 : W.cell? ⟨h, 5, none⟩ = some (.int .i64 at_)
 z : ∀ j, W.frozen? ⟨h, j, none⟩ = false
 l : h < W.heap.size
theorem LB.upto {S : Nat → Prop} {k sk sx pc n at_ : Int} (a : LB h k sk sx pc n at_ W) (u : Upto S W W') (hs : ¬ S h) : LB h k sk sx pc n at_ W' := by
 have e : ∀ j, W'.cell? ⟨h, j, none⟩ = W.cell? ⟨h, j, none⟩ := fun j => u.cell (q := ⟨h, j, none⟩) a.l hs
 exact ⟨(e _).trans a.c0, (e _).trans a.c1, (e _).trans a.c2, (e _).trans a.c3, (e _).trans a.c4, (e _).trans a.c5, fun j => (u.frozen (q := ⟨h, j, none⟩) a.l hs).trans (a.z j), Nat.lt_of_lt_of_le a.l u.size⟩
theorem LB.drew {k sk sx pc n at_ : Int} (a : LB h k sk sx pc n at_ W) : LB h k sk sx pc n at_ W.drew := a.upto (Upto.refl (fun _ => False) W).drew id
theorem LB.new (w : World) (k sk sx pc n at_ : Int) (t : TypeId) : LB w.heap.size k sk sx pc n at_ (w.alloc (.cells #[.int .i64 k, .int .i64 sk, .int .u32 sx, .int .u32 pc, .int .i64 n, .int .i64 at_] t)) :=
 ⟨box_at w _ _ 0, box_at w _ _ 1, box_at w _ _ 2, box_at w _ _ 3, box_at w _ _ 4, box_at w _ _ 5, fun j => fz_new w _ _ j, by simp⟩
/-- a register is read -/
def Pm.gets (s : Pm) (r : Nat) : Pm := { s with stuck := s.stuck || s.fs r != s.en }
def Pm.sets (s : Pm) (r : Nat) (x : Int) : Pm := { s with reg := upd s.reg r x, fs := upd s.fs r s.en }
theorem get_any (r : Nat) (w : World) (a : MR h K s w) (hr : r < 16) :
  Calls Try.prog 151 #[.pointer (some ⟨h, 0, none⟩), .int .i64 r] w fun e w' => e = .returned (.int .u32 (s.reg r)) ∧ MR h K (s.gets r) w' ∧ Upto (fun i => i = h) w w' := by
 have r0 : (0 : Int) ≤ (r : Int) := by omega
 have r1 : (r : Int) < 16 := by omega
 have cf := a.fs r hr
 have ce := a.en
 have cr := a.reg r hr
 have cs := a.st
 have zs := a.z 53
 have l := a.l
 have A := κ a
 clear a
 go_enter Try.func151, Try.ntmps151
 go_upto_region 1 with fail
 go_region
 by_cases hb : s.fs r = s.en
 ·have e1 : (s.fs r != s.en) = false := by simp [hb]
  rw [e1]
  have g : s.gets r = s := by unfold Pm.gets; rw [e1, Bool.or_false]
  have G := κ g
  clear g
  have A1 := A.out.drew
  have cr1 := A1.reg r hr
  have cs1 := A1.st
  have l1 := A1.l
  clear cf ce cr cs zs l
  have u1 := (Upto.refl (fun i => i = h) w).drew
  generalize w.drew = w1 at A1 cr1 cs1 l1 u1 ⊢
  go_wp2_with fail
  go_ret
  exact ⟨rfl, by rw [G.out]; exact A1, u1⟩
 ·have e1 : (s.fs r != s.en) = true := by simp [hb]
  rw [e1]
  have g : s.gets r = { s with stuck := true } := by unfold Pm.gets; rw [e1, Bool.or_true]
  have G := κ g
  clear g
  have A1 := A.out.drew
  have cr1 := A1.reg r hr
  have cs1 := A1.st
  have zs1 := A1.z 53
  have l1 := A1.l
  clear cf ce cr cs zs l
  have u1 := (Upto.refl (fun i => i = h) w).drew
  generalize w.drew = w1 at A1 cr1 cs1 l1 zs1 u1 ⊢
  go_wp2_with fail
  go_ret
  exact ⟨rfl, by rw [G.out]; exact A1.setStuck true, u1.setCell (q := ⟨h, 53, none⟩) (.inl rfl) _⟩
theorem set_any (r : Nat) (x : Int) (w : World) (a : MR h K s w) (hr : r < 16) :
  Calls Try.prog 153 #[.pointer (some ⟨h, 0, none⟩), .int .i64 r, .int .u32 x] w fun e w' => e = .returned (.tuple #[]) ∧ MR h K (s.sets r x) w' ∧ Upto (fun i => i = h) w w' := by
 have r0 : (0 : Int) ≤ (r : Int) := by omega
 have r1 : (r : Int) < 16 := by omega
 have cf := a.fs r hr
 have zf := a.z (34 + r)
 have ce := a.en
 have cr := a.reg r hr
 have zr := a.z (18 + r)
 have l := a.l
 have A := κ a
 clear a
 go_enter Try.func153, Try.ntmps153
 go_upto_region 0 with fail
 go_region
 have A1 := (A.out.setReg r x hr).setFs r s.en hr
 have u1 := ((Upto.refl (fun i => i = h) w).setCell (q := ⟨h, 18 + r, none⟩) (.inl rfl) (.int .u32 x)).setCell (q := ⟨h, 34 + r, none⟩) (.inl rfl) (.int .i64 s.en)
 go_end0
 exact ⟨rfl, A1.drew, u1.drew⟩
theorem on_any (kind sk sx o d ra rb rc n k x : Int) (w : World) (a : MR h K s w) :
  Calls Try.prog 152 #[.pointer (some ⟨h, 0, none⟩), .int .i64 kind, .agg #[.int .i64 sk, .int .u32 sx], .agg #[.int .i64 o, .int .i64 d, .int .i64 ra, .int .i64 rb, .int .i64 rc, .int .i64 n, .int .u32 k, .int .u32 x]] w fun e w' => e = .returned (.tuple #[.agg #[.int .i64 kind, .int .i64 sk, .int .u32 sx, .int .u32 k, .int .i64 (wrap64 (s.done + n)), .int .i64 0], .bool true]) ∧ Below w.heap.size w w' := by
 have A := κ a
 have u0 := ((Upto.refl (fun _ => False) w).alloc (.cells #[.int .i64 sk, .int .u32 sx] 46)).alloc (.cells #[.int .i64 o, .int .i64 d, .int .i64 ra, .int .i64 rb, .int .i64 rc, .int .i64 n, .int .u32 k, .int .u32 x] 108)
 have e2 : ((w.alloc (.cells #[.int .i64 sk, .int .u32 sx] 46)).alloc (.cells #[.int .i64 o, .int .i64 d, .int .i64 ra, .int .i64 rb, .int .i64 rc, .int .i64 n, .int .u32 k, .int .u32 x] 108)).heap.size = w.heap.size + 1 + 1 := by simp
 have ld : h < w.heap.size := a.l
 clear a
 go_enter Try.func152, Try.ntmps152
 go_upto_region 1 with fail
 have un := u0.alloc (.cells #[.int .i64 0, .int .i64 0, .int .u32 0, .int .u32 0, .int .i64 0, .int .i64 0] 52)
 have cd := (A.out.upto un id).done
 go_region
 clear cd un
 generalize ((w.alloc (.cells #[.int .i64 sk, .int .u32 sx] 46)).alloc (.cells #[.int .i64 o, .int .i64 d, .int .i64 ra, .int .i64 rb, .int .i64 rc, .int .i64 n, .int .u32 k, .int .u32 x] 108)) = W2 at u0 e2 ⊢
 have b := LB.new W2 kind sk sx k (wrap64 (s.done + n)) 0 52
 rw [e2] at b
 have b := b.drew
 have un := (u0.alloc (.cells #[.int .i64 kind, .int .i64 sk, .int .u32 sx, .int .u32 k, .int .i64 (wrap64 (s.done + n)), .int .i64 0] 52)).drew
 generalize World.drew _ = W3 at b un ⊢
 have g0 := b.c0
 have g1 := b.c1
 have g2 := b.c2
 have g3 := b.c3
 have g4 := b.c4
 have g5 := b.c5
 go_wp2_with fail
 exact bodyPost_ret (v := .tuple #[.agg #[.int .i64 kind, .int .i64 sk, .int .u32 sx, .int .u32 k, .int .i64 (wrap64 (s.done + n)), .int .i64 0], .bool true]) (by simp [results, Try.results152, go_sem, g0, g1, g2, g3, g4, g5]) rfl ⟨rfl, un.below (Nat.le_refl _) (fun _ _ => id)⟩
end Go.Proofs.Ytcjcmnnhmajocab.Hr
namespace Go.Proofs.Ytcjcmnnhmajocab.Hr
open Go.RowKit Kt Me Fl Ev Ho
def UsOk (us : List Int) : Prop := ∀ j, 0 ≤ us.getD j 0 ∧ us.getD j 0 < 4294967296
/-- a code's box -/
structure XB (h : Nat) (x : Cd) (W : World) : Prop where
 c0 : W.cell? ⟨h, 0, none⟩ = some (.int .i64 x.op)
 c1 : W.cell? ⟨h, 1, none⟩ = some (.int .i64 x.d)
 c2 : W.cell? ⟨h, 2, none⟩ = some (.int .i64 x.a)
 c3 : W.cell? ⟨h, 3, none⟩ = some (.int .i64 x.b)
 c4 : W.cell? ⟨h, 4, none⟩ = some (.int .i64 x.c)
 c5 : W.cell? ⟨h, 5, none⟩ = some (.int .i64 x.n)
 c6 : W.cell? ⟨h, 6, none⟩ = some (.int .u32 x.k)
 c7 : W.cell? ⟨h, 7, none⟩ = some (.int .u32 x.x)
 z : ∀ j, W.frozen? ⟨h, j, none⟩ = false
 l : h < W.heap.size
theorem XB.upto {S : Nat → Prop} {h : Nat} {x : Cd} {W W' : World} (a : XB h x W) (u : Upto S W W') (hs : ¬ S h) : XB h x W' := by
 have e : ∀ j, W'.cell? ⟨h, j, none⟩ = W.cell? ⟨h, j, none⟩ := fun j => u.cell (q := ⟨h, j, none⟩) a.l hs
 exact ⟨(e _).trans a.c0, (e _).trans a.c1, (e _).trans a.c2, (e _).trans a.c3, (e _).trans a.c4, (e _).trans a.c5, (e _).trans a.c6, (e _).trans a.c7, fun j => (u.frozen (q := ⟨h, j, none⟩) a.l hs).trans (a.z j), Nat.lt_of_lt_of_le a.l u.size⟩
theorem XB.drew {h : Nat} {x : Cd} {W : World} (a : XB h x W) : XB h x W.drew := a.upto (Upto.refl (fun _ => False) W).drew id
theorem XB.new (w : World) (x : Cd) (t : TypeId) : XB w.heap.size x (w.alloc (.cells #[.int .i64 x.op, .int .i64 x.d, .int .i64 x.a, .int .i64 x.b, .int .i64 x.c, .int .i64 x.n, .int .u32 x.k, .int .u32 x.x] t)) :=
 ⟨box_at w _ _ 0, box_at w _ _ 1, box_at w _ _ 2, box_at w _ _ 3, box_at w _ _ 4, box_at w _ _ 5, box_at w _ _ 6, box_at w _ _ 7, fun j => fz_new w _ _ j, by simp⟩
theorem XB.setN {h : Nat} {x : Cd} {W : World} (a : XB h x W) (n : Int) : XB h { x with n := n } (W.setCell ⟨h, 5, none⟩ (.int .i64 n)) :=
 ⟨(off (by omega)).trans a.c0, (off (by omega)).trans a.c1, (off (by omega)).trans a.c2, (off (by omega)).trans a.c3, (off (by omega)).trans a.c4, World.cell?_setCell_same _ _ _ a.c5, (off (by omega)).trans a.c6, (off (by omega)).trans a.c7, fun j => by simpa using a.z j, by simpa using a.l⟩
theorem XB.setK {h : Nat} {x : Cd} {W : World} (a : XB h x W) (n : Int) : XB h { x with k := n } (W.setCell ⟨h, 6, none⟩ (.int .u32 n)) :=
 ⟨(off (by omega)).trans a.c0, (off (by omega)).trans a.c1, (off (by omega)).trans a.c2, (off (by omega)).trans a.c3, (off (by omega)).trans a.c4, (off (by omega)).trans a.c5, World.cell?_setCell_same _ _ _ a.c6, (off (by omega)).trans a.c7, fun j => by simpa using a.z j, by simpa using a.l⟩
/-- both boxes of a call: the code, how the host is left -/
theorem two_new (w : World) (x : Cd) : XB w.heap.size x ((w.alloc (.cells #[.int .i64 x.op, .int .i64 x.d, .int .i64 x.a, .int .i64 x.b, .int .i64 x.c, .int .i64 x.n, .int .u32 x.k, .int .u32 x.x] 108)).alloc (.cells #[.int .i64 0, .int .i64 0, .int .u32 0, .int .u32 0, .int .i64 0, .int .i64 0] 52)) ∧ LB (w.heap.size + 1) 0 0 0 0 0 0 ((w.alloc (.cells #[.int .i64 x.op, .int .i64 x.d, .int .i64 x.a, .int .i64 x.b, .int .i64 x.c, .int .i64 x.n, .int .u32 x.k, .int .u32 x.x] 108)).alloc (.cells #[.int .i64 0, .int .i64 0, .int .u32 0, .int .u32 0, .int .i64 0, .int .i64 0] 52)) ∧ Upto (fun _ => False) w ((w.alloc (.cells #[.int .i64 x.op, .int .i64 x.d, .int .i64 x.a, .int .i64 x.b, .int .i64 x.c, .int .i64 x.n, .int .u32 x.k, .int .u32 x.x] 108)).alloc (.cells #[.int .i64 0, .int .i64 0, .int .u32 0, .int .u32 0, .int .i64 0, .int .i64 0] 52)) := by
 have b := LB.new (w.alloc (.cells #[.int .i64 x.op, .int .i64 x.d, .int .i64 x.a, .int .i64 x.b, .int .i64 x.c, .int .i64 x.n, .int .u32 x.k, .int .u32 x.x] 108)) 0 0 0 0 0 0 52
 rw [show (w.alloc (.cells #[.int .i64 x.op, .int .i64 x.d, .int .i64 x.a, .int .i64 x.b, .int .i64 x.c, .int .i64 x.n, .int .u32 x.k, .int .u32 x.x] 108)).heap.size = w.heap.size + 1 by simp] at b
 exact ⟨(XB.new w x _).upto ((Upto.refl (fun _ => False) _).alloc _) id, b, ((Upto.refl (fun _ => False) w).alloc _).alloc _⟩
theorem LB.all {h : Nat} {k sk sx pc n at_ : Int} {W : World} (a : LB h k sk sx pc n at_ W) : W.cell? ⟨h, 0, none⟩ = some (.int .i64 k) ∧ W.cell? ⟨h, 1, none⟩ = some (.int .i64 sk) ∧ W.cell? ⟨h, 2, none⟩ = some (.int .u32 sx) ∧ W.cell? ⟨h, 3, none⟩ = some (.int .u32 pc) ∧ W.cell? ⟨h, 4, none⟩ = some (.int .i64 n) ∧ W.cell? ⟨h, 5, none⟩ = some (.int .i64 at_) := ⟨a.c0, a.c1, a.c2, a.c3, a.c4, a.c5⟩
theorem LB.set {h : Nat} {k sk sx pc n at_ : Int} {W : World} (a : LB h k sk sx pc n at_ W) (k' sk' sx' pc' n' at' : Int) :
  LB h k' sk' sx' pc' n' at' ((((((W.setCell ⟨h, 0, none⟩ (.int .i64 k')).setCell ⟨h, 1, none⟩ (.int .i64 sk')).setCell ⟨h, 2, none⟩ (.int .u32 sx')).setCell ⟨h, 3, none⟩ (.int .u32 pc')).setCell ⟨h, 4, none⟩ (.int .i64 n')).setCell ⟨h, 5, none⟩ (.int .i64 at')) := by
 have h0 := World.cell?_setCell_same W ⟨h, 0, none⟩ (.int .i64 k') a.c0
 have g : ∀ {W : World} {i j : Nat} {v x : Value}, W.cell? ⟨h, i, none⟩ = some x → i ≠ j → (W.setCell ⟨h, j, none⟩ v).cell? ⟨h, i, none⟩ = some x := fun hx hn => (off hn).trans hx
 have h1 := World.cell?_setCell_same _ ⟨h, 1, none⟩ (.int .i64 sk') (g (j := 0) (v := .int .i64 k') a.c1 (by omega))
 have h2 := World.cell?_setCell_same _ ⟨h, 2, none⟩ (.int .u32 sx') (g (j := 1) (v := .int .i64 sk') (g (j := 0) (v := .int .i64 k') a.c2 (by omega)) (by omega))
 have h3 := World.cell?_setCell_same _ ⟨h, 3, none⟩ (.int .u32 pc') (g (j := 2) (v := .int .u32 sx') (g (j := 1) (v := .int .i64 sk') (g (j := 0) (v := .int .i64 k') a.c3 (by omega)) (by omega)) (by omega))
 have h4 := World.cell?_setCell_same _ ⟨h, 4, none⟩ (.int .i64 n') (g (j := 3) (v := .int .u32 pc') (g (j := 2) (v := .int .u32 sx') (g (j := 1) (v := .int .i64 sk') (g (j := 0) (v := .int .i64 k') a.c4 (by omega)) (by omega)) (by omega)) (by omega))
 have h5 := World.cell?_setCell_same _ ⟨h, 5, none⟩ (.int .i64 at') (g (j := 4) (v := .int .i64 n') (g (j := 3) (v := .int .u32 pc') (g (j := 2) (v := .int .u32 sx') (g (j := 1) (v := .int .i64 sk') (g (j := 0) (v := .int .i64 k') a.c5 (by omega)) (by omega)) (by omega)) (by omega)) (by omega))
 exact ⟨g (g (g (g (g h0 (by omega)) (by omega)) (by omega)) (by omega)) (by omega), g (g (g (g h1 (by omega)) (by omega)) (by omega)) (by omega), g (g (g h2 (by omega)) (by omega)) (by omega), g (g h3 (by omega)) (by omega), g h4 (by omega), h5, fun j => by simpa using a.z j, by simpa using a.l⟩
theorem up_put6 {S : Nat → Prop} {w W : World} {h : Nat} (b : Upto S w W) (hh : S h ∨ w.heap.size ≤ h) (k sk sx pc n at_ : Int) : Upto S w ((((((W.setCell ⟨h, 0, none⟩ (.int .i64 k)).setCell ⟨h, 1, none⟩ (.int .i64 sk)).setCell ⟨h, 2, none⟩ (.int .u32 sx)).setCell ⟨h, 3, none⟩ (.int .u32 pc)).setCell ⟨h, 4, none⟩ (.int .i64 n)).setCell ⟨h, 5, none⟩ (.int .i64 at_)) :=
 (((((b.setCell (q := ⟨h, 0, none⟩) hh (.int .i64 k)).setCell (q := ⟨h, 1, none⟩) hh (.int .i64 sk)).setCell (q := ⟨h, 2, none⟩) hh (.int .u32 sx)).setCell (q := ⟨h, 3, none⟩) hh (.int .u32 pc)).setCell (q := ⟨h, 4, none⟩) hh (.int .i64 n)).setCell (q := ⟨h, 5, none⟩) hh (.int .i64 at_)
variable {h : Nat} {K : Hk} {s : Pm}
theorem ent_any (k : Int) (w : World) (a : MR h K s w) (hs : Sl K.us K.ao K.cap w) (hw : UsOk K.us) :
  Calls Try.prog 88 #[.pointer (some ⟨h, 0, none⟩), .int .i64 k] w fun e w' => e = .returned (.bool (ent K.us k)) ∧ Below w.heap.size w w' := by
 have DC := dec_all K.us K.ao K.cap k w hs hw
 rw [decv_eq] at DC
 unfold ent
 obtain ⟨⟨x, m, z⟩, hr⟩ : ∃ r, decP K.us k = r := ⟨_, rfl⟩
 rw [hr] at DC ⊢
 unfold decT Cd.L at DC
 dsimp only at DC ⊢
 have DC := κ DC
 have c0 := a.w0
 have l := a.l
 clear hr a hs
 go_enter Try.func88, Try.ntmps88
 go_wp2_with fail
 refine DC.out.mono ?_
 rintro e w1 ⟨rfl, b1⟩
 go_upto_region 2 with fail
 have xb := XB.new w1 x 108
 have b2 := b1.alloc b1.size (.cells #[.int .i64 x.op, .int .i64 x.d, .int .i64 x.a, .int .i64 x.b, .int .i64 x.c, .int .i64 x.n, .int .u32 x.k, .int .u32 x.x] 108)
 generalize w1.alloc (.cells #[.int .i64 x.op, .int .i64 x.d, .int .i64 x.a, .int .i64 x.b, .int .i64 x.c, .int .i64 x.n, .int .u32 x.k, .int .u32 x.x] 108) = W2 at xb b2 ⊢
 have x0 := xb.c0
 have xl := xb.l
 clear xb DC c0
 by_cases hz : z = 0
 ·subst hz
  by_cases ho : x.op = 1
  ·have e1 : (x.op == 1) = true := by simp [ho]
   go_wp2_with fail
   go_ret
   exact ⟨by simp [ho], b2⟩
  ·have e1 : (x.op == 1) = false := by simp [ho]
   go_wp2_with fail
   go_ret
   exact ⟨by simp [ho], b2⟩
 ·have e1 : (z == 0) = false := by simp [hz]
  go_wp2_with fail
  go_ret
  exact ⟨by simp [hz], b2⟩
/-- on at a word -/
def Pm.goes (us : List Int) (s : Pm) (x : Cd) : Pm := { s with stuck := s.stuck || !ent us x.k, done := wrap64 (s.done + x.n), at_ := x.k }
theorem goes_any (x : Cd) (w : World) (a : MR h K s w) (hs : Sl K.us K.ao K.cap w) (hw : UsOk K.us) (hx0 : 0 ≤ x.k) (hx1 : x.k < 4294967296) :
  Calls Try.prog 192 #[.pointer (some ⟨h, 0, none⟩), .agg #[.int .i64 x.op, .int .i64 x.d, .int .i64 x.a, .int .i64 x.b, .int .i64 x.c, .int .i64 x.n, .int .u32 x.k, .int .u32 x.x]] w fun e w' => e = .returned (.tuple #[.agg #[.int .i64 0, .int .i64 0, .int .u32 0, .int .u32 0, .int .i64 0, .int .i64 0], .bool false]) ∧ MR h K (s.goes K.us x) w' ∧ Upto (fun i => i = h) w w' := by
 have hs0 := hs.keep ((two_new w x).2.2.below (Nat.le_refl _) (fun _ _ => id))
 obtain ⟨xb, lb, u0⟩ := two_new w x
 have a0 := a.upto u0 id
 have ld := a.l
 clear a
 go_enter Try.func192, Try.ntmps192
 go_upto_region 1 with fail
 generalize hWA : (w.alloc (.cells #[.int .i64 x.op, .int .i64 x.d, .int .i64 x.a, .int .i64 x.b, .int .i64 x.c, .int .i64 x.n, .int .u32 x.k, .int .u32 x.x] 108)).alloc (.cells #[.int .i64 0, .int .i64 0, .int .u32 0, .int .u32 0, .int .i64 0, .int .i64 0] 52) = WA at xb lb u0 a0 hs0 ⊢
 have hA : w.heap.size + 1 < WA.heap.size := lb.l
 clear hWA
 have x6 := xb.c6
 have EN := κ (fun w a hs => ent_any (h := h) (K := K) (s := s) x.k w a hs hw)
 obtain ⟨eb, heb⟩ : ∃ eb, ent K.us x.k = eb := ⟨_, rfl⟩
 rw [heb] at EN
 have XX := κ xb
 have A := κ a0
 have LR := κ lb
 have U := κ (u0.mono (T := fun i => i = h) fun _ _ h => h.elim)
 have HB := κ heb
 have HS := κ hs0
 clear xb lb u0 a0 heb hs0 hs
 go_wp2_with fail
 refine (EN.out _ A.out HS.out).mono ?_
 rintro e w1 ⟨rfl, b1⟩
 have u1 := Upto.of_below (S := fun _ => False) b1
 have XX := κ (XX.out.upto u1 id)
 have A1 := A.out.upto u1 id
 have LR := κ (LR.out.upto u1 id)
 have U := κ (U.out.trans (u1.mono (T := fun i => i = h) fun _ _ h => h.elim))
 clear b1 u1 x6 EN A HS
 have hl1 : w.heap.size + 1 < w1.heap.size := LR.out.l
 cases eb
 ·have cst := A1.st
  have zst := A1.z 53
  have lh := A1.l
  go_upto_region 2 with fail
  go_upto_region 3 with fail
  have A2 := A1.setStuck true
  have U2 := U.out.setCell (q := ⟨h, 53, none⟩) (.inl rfl) (.bool true)
  have v2 := (Upto.refl (fun i => i = h) w1).setCell (q := ⟨h, 53, none⟩) (.inl rfl) (.bool true)
  have XX := κ (XX.out.upto v2 (by omega))
  have LR := κ (LR.out.upto v2 (by omega))
  clear cst zst lh A1 v2
  generalize w1.setCell ⟨h, 53, none⟩ (.bool true) = w2 at A2 U2 XX LR ⊢
  have cd := A2.done
  have zd := A2.z 16
  have x5 := XX.out.c5
  have lh := A2.l
  have lx := XX.out.l
  go_region
  have A3 := (A2.setDone (wrap64 (s.done + x.n))).drew
  have U3 := (U2.setCell (q := ⟨h, 16, none⟩) (.inl rfl) (.int .i64 (wrap64 (s.done + x.n)))).drew
  have v2 := ((Upto.refl (fun i => i = h) w2).setCell (q := ⟨h, 16, none⟩) (.inl rfl) (.int .i64 (wrap64 (s.done + x.n)))).drew
  have XX := κ (XX.out.upto v2 (by omega))
  have LR := κ (LR.out.upto v2 (by omega))
  clear cd zd x5 lh lx A2 v2 U2
  generalize (w2.setCell ⟨h, 16, none⟩ (.int .i64 (wrap64 (s.done + x.n)))).drew = w3 at A3 U3 XX LR ⊢
  have ca := A3.at_
  have za := A3.z 1
  have x6 := XX.out.c6
  have lh := A3.l
  have lx := XX.out.l
  go_upto_region 5 with fail
  have A4 := A3.setAt x.k
  have U4 := U3.setCell (q := ⟨h, 1, none⟩) (.inl rfl) (.int .i64 x.k)
  have v2 := (Upto.refl (fun i => i = h) w3).setCell (q := ⟨h, 1, none⟩) (.inl rfl) (.int .i64 x.k)
  have LR := κ (LR.out.upto v2 (by omega))
  clear ca za x6 lh lx A3 v2 U3 XX
  generalize w3.setCell ⟨h, 1, none⟩ (.int .i64 x.k) = w4 at A4 U4 LR ⊢
  obtain ⟨g0, g1, g2, g3, g4, g5⟩ := LR.out.all
  have zg := LR.out.z
  have lg := LR.out.l
  go_wp2_with fail
  clear g0 g1 g2 g3 g4 g5 zg lg
  have A9 := A4.upto (up_put6 (S := fun i => i = w.heap.size + 1) (h := w.heap.size + 1) (Upto.refl _ w4) (.inl rfl) 0 0 0 0 0 0) (by omega)
  have U9 := up_put6 (h := w.heap.size + 1) U4 (.inr (Nat.le_succ _)) 0 0 0 0 0 0
  have LR9 := LR.out.set 0 0 0 0 0 0
  have up := up_put6 (S := fun i => i = w.heap.size + 1) (h := w.heap.size + 1) (Upto.refl _ w4) (.inl rfl) 0 0 0 0 0 0
  generalize ((((((w4.setCell ⟨w.heap.size + 1, 0, none⟩ (.int .i64 0)).setCell ⟨w.heap.size + 1, 1, none⟩ (.int .i64 0)).setCell ⟨w.heap.size + 1, 2, none⟩ (.int .u32 0)).setCell ⟨w.heap.size + 1, 3, none⟩ (.int .u32 0)).setCell ⟨w.heap.size + 1, 4, none⟩ (.int .i64 0)).setCell ⟨w.heap.size + 1, 5, none⟩ (.int .i64 0)) = W9 at LR9 up A9 U9 ⊢
  obtain ⟨g0, g1, g2, g3, g4, g5⟩ := LR9.all
  exact bodyPost_ret (v := .tuple #[.agg #[.int .i64 0, .int .i64 0, .int .u32 0, .int .u32 0, .int .i64 0, .int .i64 0], .bool false]) (by simp [results, Try.results192, go_sem, g0, g1, g2, g3, g4, g5]) rfl ⟨rfl, by unfold Pm.goes; rw [HB.out]; simpa using A9, U9⟩
 ·go_upto_region 3 with fail
  have A2 := A1
  have U2 := U.out
  clear A1
  generalize hw2 : w1 = w2 at A2 U2 XX LR ⊢
  have cd := A2.done
  have zd := A2.z 16
  have x5 := XX.out.c5
  have lh := A2.l
  have lx := XX.out.l
  go_region
  have A3 := (A2.setDone (wrap64 (s.done + x.n))).drew
  have U3 := (U2.setCell (q := ⟨h, 16, none⟩) (.inl rfl) (.int .i64 (wrap64 (s.done + x.n)))).drew
  have v2 := ((Upto.refl (fun i => i = h) w2).setCell (q := ⟨h, 16, none⟩) (.inl rfl) (.int .i64 (wrap64 (s.done + x.n)))).drew
  have XX := κ (XX.out.upto v2 (by omega))
  have LR := κ (LR.out.upto v2 (by omega))
  clear cd zd x5 lh lx A2 v2 U2
  generalize (w2.setCell ⟨h, 16, none⟩ (.int .i64 (wrap64 (s.done + x.n)))).drew = w3 at A3 U3 XX LR ⊢
  have ca := A3.at_
  have za := A3.z 1
  have x6 := XX.out.c6
  have lh := A3.l
  have lx := XX.out.l
  go_upto_region 5 with fail
  have A4 := A3.setAt x.k
  have U4 := U3.setCell (q := ⟨h, 1, none⟩) (.inl rfl) (.int .i64 x.k)
  have v2 := (Upto.refl (fun i => i = h) w3).setCell (q := ⟨h, 1, none⟩) (.inl rfl) (.int .i64 x.k)
  have LR := κ (LR.out.upto v2 (by omega))
  clear ca za x6 lh lx A3 v2 U3 XX
  generalize w3.setCell ⟨h, 1, none⟩ (.int .i64 x.k) = w4 at A4 U4 LR ⊢
  obtain ⟨g0, g1, g2, g3, g4, g5⟩ := LR.out.all
  have zg := LR.out.z
  have lg := LR.out.l
  go_wp2_with fail
  clear g0 g1 g2 g3 g4 g5 zg lg
  have A9 := A4.upto (up_put6 (S := fun i => i = w.heap.size + 1) (h := w.heap.size + 1) (Upto.refl _ w4) (.inl rfl) 0 0 0 0 0 0) (by omega)
  have U9 := up_put6 (h := w.heap.size + 1) U4 (.inr (Nat.le_succ _)) 0 0 0 0 0 0
  have LR9 := LR.out.set 0 0 0 0 0 0
  have up := up_put6 (S := fun i => i = w.heap.size + 1) (h := w.heap.size + 1) (Upto.refl _ w4) (.inl rfl) 0 0 0 0 0 0
  generalize ((((((w4.setCell ⟨w.heap.size + 1, 0, none⟩ (.int .i64 0)).setCell ⟨w.heap.size + 1, 1, none⟩ (.int .i64 0)).setCell ⟨w.heap.size + 1, 2, none⟩ (.int .u32 0)).setCell ⟨w.heap.size + 1, 3, none⟩ (.int .u32 0)).setCell ⟨w.heap.size + 1, 4, none⟩ (.int .i64 0)).setCell ⟨w.heap.size + 1, 5, none⟩ (.int .i64 0)) = W9 at LR9 up A9 U9 ⊢
  obtain ⟨g0, g1, g2, g3, g4, g5⟩ := LR9.all
  exact bodyPost_ret (v := .tuple #[.agg #[.int .i64 0, .int .i64 0, .int .u32 0, .int .u32 0, .int .i64 0, .int .i64 0], .bool false]) (by simp [results, Try.results192, go_sem, g0, g1, g2, g3, g4, g5]) rfl ⟨rfl, by unfold Pm.goes; rw [HB.out]; simpa using A9, U9⟩
end Go.Proofs.Ytcjcmnnhmajocab.Hr
namespace Go.Proofs.Ytcjcmnnhmajocab.Hr
open Go.RowKit Kt Me Fl Ev Ho
def p6 (h : Nat) (W : World) (k sk sx pc n at_ : Int) : World := ((((((W.setCell ⟨h, 0, none⟩ (.int .i64 k)).setCell ⟨h, 1, none⟩ (.int .i64 sk)).setCell ⟨h, 2, none⟩ (.int .u32 sx)).setCell ⟨h, 3, none⟩ (.int .u32 pc)).setCell ⟨h, 4, none⟩ (.int .i64 n)).setCell ⟨h, 5, none⟩ (.int .i64 at_))
theorem p6_eq (h : Nat) (W : World) (k sk sx pc n at_ : Int) : ((((((W.setCell ⟨h, 0, none⟩ (.int .i64 k)).setCell ⟨h, 1, none⟩ (.int .i64 sk)).setCell ⟨h, 2, none⟩ (.int .u32 sx)).setCell ⟨h, 3, none⟩ (.int .u32 pc)).setCell ⟨h, 4, none⟩ (.int .i64 n)).setCell ⟨h, 5, none⟩ (.int .i64 at_)) = p6 h W k sk sx pc n at_ := rfl
theorem LB.put {h : Nat} {k sk sx pc n at_ : Int} {W : World} (a : LB h k sk sx pc n at_ W) (k' sk' sx' pc' n' at' : Int) : LB h k' sk' sx' pc' n' at' (p6 h W k' sk' sx' pc' n' at') := a.set k' sk' sx' pc' n' at'
theorem up6 {S : Nat → Prop} {w W : World} {h : Nat} (b : Upto S w W) (hh : S h ∨ w.heap.size ≤ h) (k sk sx pc n at_ : Int) : Upto S w (p6 h W k sk sx pc n at_) := up_put6 b hh k sk sx pc n at_
theorem up6' (h : Nat) (W : World) (k sk sx pc n at_ : Int) : Upto (fun i => i = h) W (p6 h W k sk sx pc n at_) := up_put6 (S := fun i => i = h) (h := h) (Upto.refl _ W) (.inl rfl) k sk sx pc n at_
theorem XB.all {h : Nat} {x : Cd} {W : World} (a : XB h x W) : W.cell? ⟨h, 0, none⟩ = some (.int .i64 x.op) ∧ W.cell? ⟨h, 1, none⟩ = some (.int .i64 x.d) ∧ W.cell? ⟨h, 2, none⟩ = some (.int .i64 x.a) ∧ W.cell? ⟨h, 3, none⟩ = some (.int .i64 x.b) ∧ W.cell? ⟨h, 4, none⟩ = some (.int .i64 x.c) ∧ W.cell? ⟨h, 5, none⟩ = some (.int .i64 x.n) ∧ W.cell? ⟨h, 6, none⟩ = some (.int .u32 x.k) ∧ W.cell? ⟨h, 7, none⟩ = some (.int .u32 x.x) := ⟨a.c0, a.c1, a.c2, a.c3, a.c4, a.c5, a.c6, a.c7⟩
def p12 (h : Nat) (W : World) (c : Nat → Int) : World := ((((((((((((W.setCell ⟨h, 0, none⟩ (.int .u32 (c 0))).setCell ⟨h, 1, none⟩ (.int .u32 (c 1))).setCell ⟨h, 2, none⟩ (.int .u32 (c 2))).setCell ⟨h, 3, none⟩ (.int .u32 (c 3))).setCell ⟨h, 4, none⟩ (.int .u32 (c 4))).setCell ⟨h, 5, none⟩ (.int .u32 (c 5))).setCell ⟨h, 6, none⟩ (.int .u32 (c 6))).setCell ⟨h, 7, none⟩ (.int .u32 (c 7))).setCell ⟨h, 8, none⟩ (.int .u32 (c 8))).setCell ⟨h, 9, none⟩ (.int .u32 (c 9))).setCell ⟨h, 10, none⟩ (.int .u32 (c 10))).setCell ⟨h, 11, none⟩ (.int .u32 (c 11)))
theorem p12_eq (h : Nat) (W : World) (c : Nat → Int) : ((((((((((((W.setCell ⟨h, 0, none⟩ (.int .u32 (c 0))).setCell ⟨h, 1, none⟩ (.int .u32 (c 1))).setCell ⟨h, 2, none⟩ (.int .u32 (c 2))).setCell ⟨h, 3, none⟩ (.int .u32 (c 3))).setCell ⟨h, 4, none⟩ (.int .u32 (c 4))).setCell ⟨h, 5, none⟩ (.int .u32 (c 5))).setCell ⟨h, 6, none⟩ (.int .u32 (c 6))).setCell ⟨h, 7, none⟩ (.int .u32 (c 7))).setCell ⟨h, 8, none⟩ (.int .u32 (c 8))).setCell ⟨h, 9, none⟩ (.int .u32 (c 9))).setCell ⟨h, 10, none⟩ (.int .u32 (c 10))).setCell ⟨h, 11, none⟩ (.int .u32 (c 11))) = p12 h W c := rfl
end Go.Proofs.Ytcjcmnnhmajocab.Hr
