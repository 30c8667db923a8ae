/- law2.LiftShapes: the walk. -/
import Derived.Test.YtcjcmnnhmajocabGreatPlbp
import Derived.Test.YtcjcmnnhmajocabGreatPlbq
import Derived.Test.YtcjcmnnhmajocabGreatPlbu
import Derived.Test.YtcjcmnnhmajocabGreatPlbv
import Derived.Test.YtcjcmnnhmajocabGreatPlbw
set_option linter.unusedVariables false
set_option linter.unusedSimpArgs false
set_option maxRecDepth 100000
set_option maxHeartbeats 16000000
namespace Go.Proofs.YtcjcmnnhmajocabGreat.Lf
open Go.RowKit Kt Ic Me Ev Gu St Fl
open Ot (OwnO)
/-- a block of nothing but a stop: what Eval answers -/
theorem stop_eval {q k x : Int} (hx : 0 ≤ x ∧ x < 4294967296) (hchk : (chk [⟨14, k, 0, x, 0, q, 0⟩] 0 0).1 = 0) (s : Evs) : evalO [⟨14, k, 0, x, 0, q, 0⟩] 0 0 s = (s, ⟨k, x, q, 0⟩, 0) := by
 unfold evalO
 rw [if_pos hchk]
 show ((s, (⟨k, x % 4294967296, q, 0⟩ : Ext), (0 : Int)) : Evs × Ext × Int) = _
 rw [show x % 4294967296 = x by omega]
theorem yl_ext {P : Program} {ops : Array Oper} {S : World → Prop} {op : Oper} {a : Act} (hw : Region.wanted op (yielded ops a.tmps) = true) (t : Operand) (i : Nat) (ho : op.op = .extract t i) (u v : Value) (hx : a.eval t = u) (hf : ∀ w : World, (Instr.extract u i).run P w = .ok v w) : YieldsIf P ops S op v a :=
 .inl ⟨hw, fun w _ => by unfold execOp; simp only [ho, hx]; rw [Sem.run_bind, hf w, Result.andThen_ok]; rfl⟩
/-- a memory and boxes while a copy is gone through, in whatever order -/
structure LB (B : Nat) (w0 : World) (P : RP) (M : MM) (bo b4 : Nat) (KA SA : Array Value) (os : List Opr) (av : Option Addr) (cv : Nat) (oQ : Option RP) (oA oB : Option Nat) (W : World) : Prop where
 u : Below B w0 W
 q : Bo bo KA W
 s : Bo b4 SA W
 o : Ops os av cv W
 p : RM P M W
 Q : ∀ Q, oQ = some Q → RM Q M W ∧ (∀ k, Q.has k → B ≤ k ∧ k ≠ bo ∧ k ≠ b4 ∧ ¬ P.has k ∧ ∀ g, av = some g → k ≠ g.block) ∧ (∀ h, oA = some h → ¬ Q.has h) ∧ ∀ h, oB = some h → ¬ Q.has h
 A : ∀ h, oA = some h → Bo h #[.int .u32 0, .int .u32 0, .int .u32 0, .int .u32 0, .int .u32 0, .int .u32 0, .int .u32 0, .int .u32 0, .int .u32 0, .int .u32 0, .int .u32 0, .int .u32 0] W ∧ B ≤ h ∧ h ≠ bo ∧ h ≠ b4
 X : ∀ h, oB = some h → Bo h #[.int .i64 0, .int .u32 0, .int .u32 0, .int .i64 0] W ∧ B ≤ h ∧ h ≠ bo ∧ h ≠ b4
 ne : ∀ h k, oA = some h → oB = some k → h ≠ k
 hB : B ≤ w0.heap.size
 bq : ∀ g, av = some g → 0 < os.length → g.block < W.heap.size
section
variable {B : Nat} {w0 : World} {P : RP} {M : MM} {bo b4 : Nat} {KA SA : Array Value} {os : List Opr} {av : Option Addr} {cv : Nat} {oQ : Option RP} {oA oB : Option Nat} {W W' : World}
theorem LB.keep (a : LB B w0 P M bo b4 KA SA os av cv oQ oA oB W) (b : Below W.heap.size W W') : LB B w0 P M bo b4 KA SA os av cv oQ oA oB W' := by
 have u := Upto.of_below (S := fun _ => False) b
 refine ⟨a.u.trans (b.mono (Nat.le_trans a.hB a.u.size)), a.q.upto u id, a.s.upto u id, a.o.keep b, a.p.upto u (fun _ _ => id), fun Q e => ?_, fun h e => ?_, fun h e => ?_, a.ne, a.hB, fun g e h => Nat.lt_of_lt_of_le (a.bq g e h) b.size⟩
 ·obtain ⟨h1, h2⟩ := a.Q Q e
  exact ⟨h1.upto u (fun _ _ => id), h2⟩
 ·obtain ⟨h1, h2⟩ := a.A h e
  exact ⟨h1.upto u id, h2⟩
 ·obtain ⟨h1, h2⟩ := a.X h e
  exact ⟨h1.upto u id, h2⟩
theorem LB.copy {Q : RP} (a : LB B w0 P M bo b4 KA SA os av cv none oA oB W) (hq : RM Q M W') (b : Below W.heap.size W W') (hn : ∀ k, Q.has k → W.heap.size ≤ k) (h0 : 0 < os.length) : LB B w0 P M bo b4 KA SA os av cv (some Q) oA oB W' := by
 have k := a.keep b
 have l := a.p
 refine ⟨k.u, k.q, k.s, k.o, k.p, fun Q' e => ?_, k.A, k.X, k.ne, k.hB, k.bq⟩
 obtain rfl := Option.some.inj e
 have sz : B ≤ W.heap.size := Nat.le_trans a.hB a.u.size
 refine ⟨hq, fun k hk => ?_, fun h e hk => ?_, fun h e hk => ?_⟩
 ·have h1 := hn k hk
  exact ⟨by omega, by have := a.q.l; omega, by have := a.s.l; omega, fun hp => by have := Ev.rm_lt l hp; omega, fun g e => by have := a.bq g e h0; omega⟩
 ·have h1 := hn h hk; have := (a.A h e).1.l; omega
 ·have h1 := hn h hk; have := (a.X h e).1.l; omega
theorem LB.eval {Q : RP} (a : LB B w0 P M bo b4 KA SA os av cv (some Q) oA oB W) (hq : RM Q M W') (u : Upto Q.has W W') : LB B w0 P M bo b4 KA SA os av cv (some Q) oA oB W' := by
 obtain ⟨h1, h2, h3, h4⟩ := a.Q Q rfl
 refine ⟨a.u.trans (u.below (Nat.le_trans a.hB a.u.size) fun k hk h => by have := (h2 k h).1; omega), a.q.upto u (fun h => (h2 _ h).2.1 rfl), a.s.upto u (fun h => (h2 _ h).2.2.1 rfl), ops_up a.o u (fun g e _ h => (h2 _ h).2.2.2.2 g e rfl), a.p.upto u (fun k hk h => (h2 k h).2.2.2.1 hk), fun Q' e => ?_, fun h e => ?_, fun h e => ?_, a.ne, a.hB, fun g e h => Nat.lt_of_lt_of_le (a.bq g e h) u.size⟩
 ·obtain rfl := Option.some.inj e
  exact ⟨hq, h2, h3, h4⟩
 ·obtain ⟨g1, g2⟩ := a.A h e
  exact ⟨g1.upto u (h3 h e), g2⟩
 ·obtain ⟨g1, g2⟩ := a.X h e
  exact ⟨g1.upto u (h4 h e), g2⟩
theorem LB.newA (a : LB B w0 P M bo b4 KA SA os av cv oQ none oB W) (t : TypeId) : LB B w0 P M bo b4 KA SA os av cv oQ (some W.heap.size) oB (W.alloc (.cells #[.int .u32 0, .int .u32 0, .int .u32 0, .int .u32 0, .int .u32 0, .int .u32 0, .int .u32 0, .int .u32 0, .int .u32 0, .int .u32 0, .int .u32 0, .int .u32 0] t)) := by
 have k := a.keep ((Below.refl _ W).alloc (Nat.le_refl _) (.cells #[.int .u32 0, .int .u32 0, .int .u32 0, .int .u32 0, .int .u32 0, .int .u32 0, .int .u32 0, .int .u32 0, .int .u32 0, .int .u32 0, .int .u32 0, .int .u32 0] t))
 refine ⟨k.u, k.q, k.s, k.o, k.p, fun Q e => ?_, fun h e => ?_, k.X, fun h j e e2 => ?_, k.hB, k.bq⟩
 ·obtain ⟨h1, h2, h3, h4⟩ := k.Q Q e
  refine ⟨h1, h2, fun h e2 hq => ?_, h4⟩
  obtain rfl := Option.some.inj e2
  have := Ev.rm_lt (a.Q Q e).1 hq
  omega
 ·obtain rfl := Option.some.inj e
  exact ⟨Bo.new W _ t, Nat.le_trans a.hB a.u.size, by have := a.q.l; omega, by have := a.s.l; omega⟩
 ·obtain rfl := Option.some.inj e
  have := (a.X j e2).1.l
  omega
theorem LB.newX (a : LB B w0 P M bo b4 KA SA os av cv oQ oA none W) (t : TypeId) : LB B w0 P M bo b4 KA SA os av cv oQ oA (some W.heap.size) (W.alloc (.cells #[.int .i64 0, .int .u32 0, .int .u32 0, .int .i64 0] t)) := by
 have k := a.keep ((Below.refl _ W).alloc (Nat.le_refl _) (.cells #[.int .i64 0, .int .u32 0, .int .u32 0, .int .i64 0] t))
 refine ⟨k.u, k.q, k.s, k.o, k.p, fun Q e => ?_, k.A, fun h e => ?_, fun h j e e2 => ?_, k.hB, k.bq⟩
 ·obtain ⟨h1, h2, h3, h4⟩ := k.Q Q e
  refine ⟨h1, h2, h3, fun h e2 hq => ?_⟩
  obtain rfl := Option.some.inj e2
  have := Ev.rm_lt (a.Q Q e).1 hq
  omega
 ·obtain rfl := Option.some.inj e
  exact ⟨Bo.new W _ t, Nat.le_trans a.hB a.u.size, by have := a.q.l; omega, by have := a.s.l; omega⟩
 ·obtain rfl := Option.some.inj e2
  have := (a.A h e).1.l
  omega
theorem LB.putA {hA hX : Nat} (a : LB B w0 P M bo b4 KA SA os av cv oQ (some hA) (some hX) W) :
  Below B w0 ((((((((((((W.setCell ⟨hA, 0, none⟩ (.int .u32 0)).setCell ⟨hA, 1, none⟩ (.int .u32 0)).setCell ⟨hA, 2, none⟩ (.int .u32 0)).setCell ⟨hA, 3, none⟩ (.int .u32 0)).setCell ⟨hA, 4, none⟩ (.int .u32 0)).setCell ⟨hA, 5, none⟩ (.int .u32 0)).setCell ⟨hA, 6, none⟩ (.int .u32 0)).setCell ⟨hA, 7, none⟩ (.int .u32 0)).setCell ⟨hA, 8, none⟩ (.int .u32 0)).setCell ⟨hA, 9, none⟩ (.int .u32 0)).setCell ⟨hA, 10, none⟩ (.int .u32 0)).setCell ⟨hA, 11, none⟩ (.int .u32 0)) ∧ Bo bo KA ((((((((((((W.setCell ⟨hA, 0, none⟩ (.int .u32 0)).setCell ⟨hA, 1, none⟩ (.int .u32 0)).setCell ⟨hA, 2, none⟩ (.int .u32 0)).setCell ⟨hA, 3, none⟩ (.int .u32 0)).setCell ⟨hA, 4, none⟩ (.int .u32 0)).setCell ⟨hA, 5, none⟩ (.int .u32 0)).setCell ⟨hA, 6, none⟩ (.int .u32 0)).setCell ⟨hA, 7, none⟩ (.int .u32 0)).setCell ⟨hA, 8, none⟩ (.int .u32 0)).setCell ⟨hA, 9, none⟩ (.int .u32 0)).setCell ⟨hA, 10, none⟩ (.int .u32 0)).setCell ⟨hA, 11, none⟩ (.int .u32 0)) ∧ Bo b4 SA ((((((((((((W.setCell ⟨hA, 0, none⟩ (.int .u32 0)).setCell ⟨hA, 1, none⟩ (.int .u32 0)).setCell ⟨hA, 2, none⟩ (.int .u32 0)).setCell ⟨hA, 3, none⟩ (.int .u32 0)).setCell ⟨hA, 4, none⟩ (.int .u32 0)).setCell ⟨hA, 5, none⟩ (.int .u32 0)).setCell ⟨hA, 6, none⟩ (.int .u32 0)).setCell ⟨hA, 7, none⟩ (.int .u32 0)).setCell ⟨hA, 8, none⟩ (.int .u32 0)).setCell ⟨hA, 9, none⟩ (.int .u32 0)).setCell ⟨hA, 10, none⟩ (.int .u32 0)).setCell ⟨hA, 11, none⟩ (.int .u32 0)) ∧ Bo hX #[.int .i64 0, .int .u32 0, .int .u32 0, .int .i64 0] ((((((((((((W.setCell ⟨hA, 0, none⟩ (.int .u32 0)).setCell ⟨hA, 1, none⟩ (.int .u32 0)).setCell ⟨hA, 2, none⟩ (.int .u32 0)).setCell ⟨hA, 3, none⟩ (.int .u32 0)).setCell ⟨hA, 4, none⟩ (.int .u32 0)).setCell ⟨hA, 5, none⟩ (.int .u32 0)).setCell ⟨hA, 6, none⟩ (.int .u32 0)).setCell ⟨hA, 7, none⟩ (.int .u32 0)).setCell ⟨hA, 8, none⟩ (.int .u32 0)).setCell ⟨hA, 9, none⟩ (.int .u32 0)).setCell ⟨hA, 10, none⟩ (.int .u32 0)).setCell ⟨hA, 11, none⟩ (.int .u32 0)) := by
 obtain ⟨h1, h2, h3, h4⟩ := a.A hA rfl
 have u := up_put12 (S := fun k => k = hA) (h := hA) (Upto.refl _ W) (.inl rfl) (fun _ => 0)
 have h5 := a.ne hA hX rfl rfl
 exact ⟨a.u.trans (u.below (Nat.le_trans a.hB a.u.size) fun k hk h => by omega), a.q.upto u (fun h => h3 h.symm), a.s.upto u (fun h => h4 h.symm), (a.X hX rfl).1.upto u (fun h => h5 h.symm)⟩
theorem put_x {hX : Nat} (f1 : Below B w0 W) (hB : B ≤ w0.heap.size) (f2 : Bo bo KA W) (f3 : Bo b4 SA W) (f4 : Bo hX #[.int .i64 0, .int .u32 0, .int .u32 0, .int .i64 0] W) (n0 : B ≤ hX) (n1 : hX ≠ bo) (n2 : hX ≠ b4) (ek ex ep en : Int) :
  Below B w0 ((((W.setCell ⟨hX, 0, none⟩ (.int .i64 ek)).setCell ⟨hX, 1, none⟩ (.int .u32 ex)).setCell ⟨hX, 2, none⟩ (.int .u32 ep)).setCell ⟨hX, 3, none⟩ (.int .i64 en)) ∧ Bo bo KA ((((W.setCell ⟨hX, 0, none⟩ (.int .i64 ek)).setCell ⟨hX, 1, none⟩ (.int .u32 ex)).setCell ⟨hX, 2, none⟩ (.int .u32 ep)).setCell ⟨hX, 3, none⟩ (.int .i64 en)) ∧ Bo b4 SA ((((W.setCell ⟨hX, 0, none⟩ (.int .i64 ek)).setCell ⟨hX, 1, none⟩ (.int .u32 ex)).setCell ⟨hX, 2, none⟩ (.int .u32 ep)).setCell ⟨hX, 3, none⟩ (.int .i64 en)) ∧ Bo hX #[.int .i64 ek, .int .u32 ex, .int .u32 ep, .int .i64 en] ((((W.setCell ⟨hX, 0, none⟩ (.int .i64 ek)).setCell ⟨hX, 1, none⟩ (.int .u32 ex)).setCell ⟨hX, 2, none⟩ (.int .u32 ep)).setCell ⟨hX, 3, none⟩ (.int .i64 en)) := by
 have u := up_put4 (S := fun k => k = hX) (h := hX) (Upto.refl _ W) (.inl rfl) ek ex ep en
 exact ⟨f1.trans (u.below (Nat.le_trans hB f1.size) fun k hk h => by omega), f2.upto u (fun h => n1 h.symm), f3.upto u (fun h => n2 h.symm), (((f4.setc 0 (.int .i64 ek)).setc 1 (.int .u32 ex)).setc 2 (.int .u32 ep)).setc 3 (.int .i64 en)⟩
end
theorem liftshapes_walk (ps : List Prt) (pao : Option Addr) (pcap : Nat) (q most : Int)
  (w : World) (hps : Prts ps pao pcap w) (q0 : 0 ≤ q) (q1 : q < 4294967296) :
  Calls Tryz.prog 5 #[.slice pao ps.length pcap, .int .u32 q, .int .i64 most] w fun e w' => e = .returned (.bool true) ∧ Below w.heap.size w w' := by
 have BO := κ (both_any ps pao pcap [] none 0 w hps ⟨Nat.le_refl _, by unfold maxLen; omega, fun h => absurd h (Nat.lt_irrefl 0)⟩)
 have C0 := κ q0
 have C1 := κ q1
 clear hps q0 q1
 rw [show ([] : List Int).length = 0 from rfl] at BO
 generalize markd (layd ps) [] = M at BO
 generalize ps.length = pl at BO ⊢
 go_enter Tryz.func5, Tryz.ntmps5
 go_wp2_with fail
 refine BO.out.mono ?_
 rintro e w1 ⟨p, P, rfl, hP, hb, hGA⟩
 have PR := κ hP
 have MOK := κ hP.ok
 have GA := κ (show ∀ k, PS p P k → w.heap.size ≤ k ∧ k < w1.heap.size from fun k hk => ⟨hGA k hk, by
  rcases hk with rfl | hk
  ·exact hP.hc.2.2.2.2.2.2
  ·exact Ev.rm_lt hP.rm hk⟩)
 have BW := κ hb
 have h01 : w.heap.size ≤ w1.heap.size := hb.size
 obtain ⟨B, hB⟩ : ∃ B, w.heap.size = B := ⟨_, rfl⟩
 rw [hB] at GA BW h01
 have HB := κ hB
 clear hP hb hGA BO hB
 have BL1 := block_any p M q most w1 PR.out.hc MOK.out C0.out C1.out
 have hbf := blkO_bf MOK.out ⟨C0.out, C1.out⟩ most
 have hlg := blkO_lng (M := M) ⟨C0.out, C1.out⟩ most
 have LN := fun W h => length_any P M q most W h MOK.out C0.out C1.out
 have hl2 : ∃ s0 s1, lng M q (mst most) 0 0 = ((blkO M q most).cnt, (blkO M q most).byt, s0, s1) := ⟨_, _, Prod.ext hlg.c (Prod.ext hlg.y rfl)⟩
 obtain ⟨s0, s1, hl3⟩ := hl2
 rw [hl3] at LN
 unfold lngV at LN
 dsimp only at LN
 have hro : ∀ o ∈ (blkO M q most).ops, Ot.OkR o := fun o ho => by
  obtain ⟨j, hj, rfl⟩ := Ot.mem_opAt ho
  exact (hbf.g.a.l j hj).r
 have hchk : (chk (blkO M q most).ops (blkO M q most).cnt (blkO M q most).byt).1 = 0 := (Ot.chk_good hro).2 ⟨hbf.g, hbf.y⟩
 have hst : (blkO M q most).cnt = 0 → (blkO M q most).byt = 0 ∧ (s0, s1) = ik M q ∧ (blkO M q most).ops = [⟨14, s0, 0, s1, 0, q, 0⟩] := fun e => by
  obtain ⟨h1, h2, h3, h4⟩ := hlg.s e
  have h5 : (s0, s1) = ik M q := by rw [← h3, hl3]
  refine ⟨h1, h5, ?_⟩
  rw [h4, ← h5]
 have hik := ik_bnd M q
 have hc6 := hbf.g.c
 have hy4 := hbf.y
 have hbp := hbf.b
 rw [hbp] at BL1
 clear hbf hlg hl3 hbp
 generalize (blkO M q most).cnt = kc at *
 generalize (blkO M q most).byt = kz at *
 obtain ⟨os, hos⟩ : ∃ os, (blkO M q most).ops = os := ⟨_, rfl⟩
 rw [hos] at BL1 hst hro hchk
 clear hos
 have BL1 := κ BL1
 have LN := κ LN
 have HRO := κ hro
 have C6 := κ hc6
 have HST := κ hst
 have HIK := κ hik
 have HC1 := κ hchk
 obtain ⟨zz, hzz⟩ : ∃ z, (chk os kc kz).2 = z := ⟨_, rfl⟩
 have HCH := κ (show chk os kc kz = (0, zz) from Prod.ext hchk hzz)
 clear hro hc6 hy4 hchk hzz hst hik
 go_wp2_with fail
 refine BL1.out.mono ?_
 rintro e w2 ⟨v, rfl, ow, b2⟩
 obtain ⟨av, cv, rfl, opv, hblk⟩ := ow.form
 have u2 := Upto.of_below (S := fun _ => False) b2
 have OL := κ opv
 have PR := κ (PR.out.upto u2 (fun _ _ => id))
 have BW := κ (BW.out.trans (b2.mono (by omega)))
 have F2 := κ (show ∀ g, av = some g → 0 < os.length → w1.heap.size ≤ g.block ∧ g.block < w2.heap.size from fun g hg h0 => by
  obtain ⟨b, e, _, h1, h2⟩ := hblk h0
  rw [hg] at e
  cases e
  obtain ⟨b', off', e', hb', _⟩ := opv.2.2 h0
  rw [hg] at e'
  cases e'
  exact ⟨h1, hb'⟩)
 have h12 : w1.heap.size ≤ w2.heap.size := b2.size
 clear ow opv hblk b2 u2 BL1
 go_upto_region 5 with fail
 have un := (Upto.refl (fun _ => False) w2).alloc (.cells #[.int .u32 q, .int .i64 kc, .int .i64 kz, .slice av os.length cv] 52)
 have QO := κ (Bo.new w2 #[.int .u32 q, .int .i64 kc, .int .i64 kz, .slice av os.length cv] 52)
 have bn := un.below (Nat.le_refl _) (fun _ _ => id)
 have OL := κ (OL.out.keep bn)
 have PR := κ (PR.out.upto un (fun _ _ => id))
 have BW := κ (BW.out.trans (bn.mono (by omega)))
 have h23 : w2.heap.size + 1 = (w2.alloc (.cells #[.int .u32 q, .int .i64 kc, .int .i64 kz, .slice av os.length cv] 52)).heap.size := by simp
 generalize w2.alloc (.cells #[.int .u32 q, .int .i64 kc, .int .i64 kz, .slice av os.length cv] 52) = w3 at QO OL PR BW h23 ⊢
 obtain ⟨bo, hbo⟩ : ∃ bo, w2.heap.size = bo := ⟨_, rfl⟩
 rw [hbo] at QO F2 h12 h23 ⊢
 clear un bn hbo
 go_upto_region 6 with (go_at_call 25; refine (LN.out _ PR.out.rm).mono ?_; rintro e w4 ⟨rfl, b4⟩; have B4 := κ b4; clear b4)
 have u4 := Upto.of_below (S := fun _ => False) B4.out
 have un := (Upto.refl (fun _ => False) w4).alloc (.cells #[.int .i64 s0, .int .u32 s1] 55)
 have bn := un.below (Nat.le_refl _) (fun _ _ => id)
 have QO := κ ((QO.out.upto u4 id).upto un id)
 have OL := κ ((OL.out.keep B4.out).keep bn)
 have PR := κ ((PR.out.upto u4 (fun _ _ => id)).upto un (fun _ _ => id))
 have SB := κ (Bo.new w4 #[.int .i64 s0, .int .u32 s1] 55)
 have BW := κ ((BW.out.trans (B4.out.mono (by omega))).trans (bn.mono (by have := B4.out.size; omega)))
 have h34 : w3.heap.size < (w4.alloc (.cells #[.int .i64 s0, .int .u32 s1] 55)).heap.size := by have := B4.out.size; simp; omega
 have h35 : w3.heap.size ≤ w4.heap.size := B4.out.size
 generalize w4.alloc (.cells #[.int .i64 s0, .int .u32 s1] 55) = w5 at QO OL PR BW SB h34 ⊢
 clear u4 un bn B4 LN
 generalize w4.heap.size = b4 at SB h35 ⊢
 have CK := κ (fun w h => rcheck_any os av cv q kc kz w h)
 rw [HCH.out] at CK
 unfold errs at CK
 dsimp only at CK
 have AL := κ (fun W h => alike_any p P M W h)
 have r0 := QO.out.c 0 _ rfl
 have r1 := QO.out.c 1 _ rfl
 have r2 := QO.out.c 2 _ rfl
 have r3 := QO.out.c 3 _ rfl
 have rl := QO.out.l
 have n1 : (q != q) = false := by simp
 have n2 : (kc != kc) = false := by simp
 have n3 : (kz != kz) = false := by simp
 go_upto_region 7 with (go_at_call 27; refine (CK.out _ OL.out).mono ?_; rintro e w7 ⟨rfl, b7⟩; have B7 := κ b7; clear b7)
 have u7 := Upto.of_below (S := fun _ => False) B7.out
 have OL7 := κ (OL.out.keep B7.out)
 have QO7 := κ (QO.out.upto u7 id)
 have SB7 := κ (SB.out.upto u7 id)
 have PR7 := κ (PR.out.upto u7 (fun _ _ => id))
 have BW7 := κ (BW.out.trans (B7.out.mono (by omega)))
 have h57 := B7.out.size
 clear r0 r1 r2 r3 rl u7 B7 CK OL QO SB PR BW
 have r0 := QO7.out.c 0 _ rfl
 have r1 := QO7.out.c 1 _ rfl
 have r2 := QO7.out.c 2 _ rfl
 have r3 := QO7.out.c 3 _ rfl
 have rl := QO7.out.l
 go_upto_region 9 with (go_at_call 29; refine (AL.out _ PR7.out).mono ?_; rintro e w8 ⟨rfl, b8⟩; have B8 := κ b8; clear b8)
 have u8 := Upto.of_below (S := fun _ => False) B8.out
 have OL8 := κ (OL7.out.keep B8.out)
 have QO8 := κ (QO7.out.upto u8 id)
 have SB8 := κ (SB7.out.upto u8 id)
 have PR8 := κ (PR7.out.upto u8 (fun _ _ => id))
 have BW8 := κ (BW7.out.trans (B8.out.mono (by omega)))
 have h78 := B8.out.size
 clear r0 r1 r2 r3 rl u8 B8 AL OL7 QO7 SB7 PR7 BW7 n1 n2 n3
 by_cases hk : 0 < kc
 ·have d0 : decide (0 < kc) = true := decide_eq_true hk
  clear hk
  go_wp2
  go_ret
  exact ⟨rfl, by rw [HB.out]; exact BW8.out⟩
 ·have d0 : decide (0 < kc) = false := decide_eq_false hk
  obtain rfl : kc = 0 := by have := C6.out; omega
  obtain ⟨t1, t2, t3⟩ := HST.out rfl
  subst t1 t3
  have hx : 0 ≤ s1 ∧ s1 < 4294967296 := by have h := HIK.out.2; rw [← t2] at h; exact h
  have EV := fun Q W h1 h2 hd => reval_any [⟨14, s0, 0, s1, 0, q, 0⟩] av cv q 0 0 (fun _ => 0) M Q (fun w h => rcheck_any [⟨14, s0, 0, s1, 0, q, 0⟩] av cv q 0 0 w h) W h1 h2 MOK.out (fun _ => ⟨Int.le_refl _, (by decide : (0 : Int) < 4294967296)⟩) (fun o ho => (HRO.out o ho).kn) hd
  rw [stop_eval hx HC1.out] at EV
  unfold evalV ctL at EV
  dsimp only at EV
  have EV := κ EV
  have CP := κ (fun W h => Gn.copy_any P M W h)
  have F3 := κ (show ∀ g, av = some g → w1.heap.size ≤ g.block ∧ g.block < bo from fun g hg => F2.out g hg (Nat.lt_succ_self 0))
  clear hk t2 hx HST HIK HRO HC1 HCH F2
  go_upto_region 11 with fail
  have uB := Tryz.underlying52
  have i4 : (Tryz.prog.info? 52).map (·.size) = some ([.int .u32 q, .int .i64 0, .int .i64 0, .slice av 1 cv] : List Value).length := by kernel_rfl
  have BR : ∀ W : World, Bo bo #[.int .u32 q, .int .i64 0, .int .i64 0, .slice av 1 cv] W → W.rangeAt bo 0 [.int .u32 q, .int .i64 0, .int .i64 0, .slice av 1 cv] := fun W h i v hi => by rw [Nat.zero_add]; exact h.c i v (by simpa using hi)
  have BR := κ BR
  have hbd : ∀ w : World, (Instr.build 44 #[]).run Tryz.prog w = .ok (.agg #[.int .u32 0, .int .u32 0, .int .u32 0, .int .u32 0, .int .u32 0, .int .u32 0, .int .u32 0, .int .u32 0, .int .u32 0, .int .u32 0, .int .u32 0, .int .u32 0]) w := fun w => by kernel_rfl
  have HN := κ (show LB B w P M bo b4 #[.int .u32 q, .int .i64 0, .int .i64 0, .slice av 1 cv] #[.int .i64 s0, .int .u32 s1] [⟨14, s0, 0, s1, 0, q, 0⟩] av cv none none none w8.drew from LB.keep (W := w8) ⟨BW8.out, QO8.out, SB8.out, OL8.out, PR8.out.rm, fun _ e => (nomatch e), fun _ e => (nomatch e), fun _ e => (nomatch e), fun _ _ e => (nomatch e), Nat.le_of_eq HB.out.symm, fun g e _ => by have := F3.out g e; omega⟩ (Below.refl _ _).drew)
  clear BW8 QO8 SB8 OL8 PR8
  refine wp_region_held_drew (S := fun W => Bo bo #[.int .u32 q, .int .i64 0, .int .i64 0, .slice av 1 cv] W) (by kernel_rfl) HN.out.q (fun hHeld => ?_)
  refine κw 0 73 (.agg #[.int .u32 q, .int .i64 0, .int .i64 0, .slice av 1 cv]) rfl rfl (by kernel_rfl) (by kernel_rfl) (by kernel_rfl) (fun _ _ _ h => h) (yieldsIf_load_mid (by rfl) _ _ rfl _ _ rfl _ _ (fun w h => BR.out w h) uB rfl i4) hHeld ?_
  try simp only [Act.put, κa, κb, κc]
  refine κw 1 74 (.agg #[.int .u32 0, .int .u32 0, .int .u32 0, .int .u32 0, .int .u32 0, .int .u32 0, .int .u32 0, .int .u32 0, .int .u32 0, .int .u32 0, .int .u32 0, .int .u32 0]) rfl rfl (by kernel_rfl) (by kernel_rfl) (by kernel_rfl) (fun _ _ _ h => h) (Kt.yl_bld (by rfl) _ _ rfl (#[]) _ (by kernel_rfl) hbd) hHeld ?_
  try simp only [Act.put, κa, κb, κc]
  refine κw 2 75 (.pointer (some ⟨P.q, 0, none⟩)) rfl rfl (by kernel_rfl) (by kernel_rfl) (by kernel_rfl) (fun _ _ _ h => h) (Kt.yl_mov (by rfl) _ rfl _ rfl) hHeld ?_
  try simp only [Act.put, κa, κb, κc]
  clear uB i4 hbd
  generalize w8.drew = wS at HN hHeld ⊢
  refine wpAnyH_ready (rs := [3, 9, 10]) (by kernel_rfl) (by simp) ?_
  refine AllReadyH.cons rfl ?oC1 (AllReadyH.cons rfl ?oA (AllReadyH.cons rfl ?oB AllReadyH.nil))
  case' oC1 =>
   intro KK hKK
   go_simp
   go_wp2_with (go_at_call 31; refine (CP.out _ HN.out.p).mono ?_; rintro e wq1 ⟨Q, rfl, hQ, hb, hn⟩)
   have HN := κ (HN.out.copy hQ hb hn (Nat.lt_succ_self 0))
   clear hQ hb hn
   refine hKK.out _ _ HN.out.q (fun hHeld2 => ?_)
   clear hKK KK hHeld
   have hHeld := hHeld2
   clear hHeld2
   try simp only [Act.put, κa, κb, κc]
   refine wpAnyH_ready (rs := [4, 9, 10]) (by kernel_rfl) (by simp) ?_
   refine AllReadyH.cons rfl ?oC1C2 (AllReadyH.cons rfl ?oC1A (AllReadyH.cons rfl ?oC1B AllReadyH.nil))
   case' oC1C2 =>
    intro KK hKK
    have HQ := HN.out.Q Q rfl
    go_simp
    go_wp2_with (go_at_call 30; refine (EV.out Q _ HN.out.o HQ.1 (fun g e _ h => (HQ.2.1 _ h).2.2.2.2 g e rfl)).mono ?_; rintro e wq2 ⟨rfl, hq, hu⟩)
    have HN := κ (HN.out.eval hq hu)
    clear hq hu HQ
    refine hKK.out _ _ HN.out.q (fun hHeld2 => ?_)
    clear hKK KK hHeld
    have hHeld := hHeld2
    clear hHeld2
    try simp only [Act.put, κa, κb, κc]
    refine κw 5 72 (.tuple #[.agg #[.int .u32 0, .int .u32 0, .int .u32 0, .int .u32 0, .int .u32 0, .int .u32 0, .int .u32 0, .int .u32 0, .int .u32 0, .int .u32 0, .int .u32 0, .int .u32 0], .agg #[.int .i64 s0, .int .u32 s1, .int .u32 q, .int .i64 0], .int .i64 0]) rfl rfl (by kernel_rfl) (by kernel_rfl) (by kernel_rfl) (fun _ _ _ h => h) (Kt.yl_mov (by rfl) _ rfl _ rfl) hHeld ?_
    try simp only [Act.put, κa, κb, κc]
    refine κw 6 78 (.agg #[.int .u32 0, .int .u32 0, .int .u32 0, .int .u32 0, .int .u32 0, .int .u32 0, .int .u32 0, .int .u32 0, .int .u32 0, .int .u32 0, .int .u32 0, .int .u32 0]) rfl rfl (by kernel_rfl) (by kernel_rfl) (by kernel_rfl) (fun _ _ _ h => h) (yl_ext (by rfl) _ _ rfl _ _ rfl (fun w => by kernel_rfl)) hHeld ?_
    try simp only [Act.put, κa, κb, κc]
    refine κw 7 79 (.agg #[.int .i64 s0, .int .u32 s1, .int .u32 q, .int .i64 0]) rfl rfl (by kernel_rfl) (by kernel_rfl) (by kernel_rfl) (fun _ _ _ h => h) (yl_ext (by rfl) _ _ rfl _ _ rfl (fun w => by kernel_rfl)) hHeld ?_
    try simp only [Act.put, κa, κb, κc]
    refine κw 8 80 (.int .i64 0) rfl rfl (by kernel_rfl) (by kernel_rfl) (by kernel_rfl) (fun _ _ _ h => h) (yl_ext (by rfl) _ _ rfl _ _ rfl (fun w => by kernel_rfl)) hHeld ?_
    try simp only [Act.put, κa, κb, κc]
    refine wpAnyH_ready (rs := [9, 10]) (by kernel_rfl) (by simp) ?_
    refine AllReadyH.cons rfl ?oC1C2A (AllReadyH.cons rfl ?oC1C2B AllReadyH.nil)
    case' oC1C2A =>
     intro KK hKK
     have HN := κ (HN.out.newA 44)
     go_simp
     generalize wq2.alloc (.cells #[.int .u32 0, .int .u32 0, .int .u32 0, .int .u32 0, .int .u32 0, .int .u32 0, .int .u32 0, .int .u32 0, .int .u32 0, .int .u32 0, .int .u32 0, .int .u32 0] 44) = wA at HN ⊢
     generalize wq2.heap.size = hA at HN ⊢
     refine hKK.out _ _ HN.out.q (fun hHeld2 => ?_)
     clear hKK KK hHeld
     have hHeld := hHeld2
     clear hHeld2
     try simp only [Act.put, κa, κb, κc]
     refine wpAnyH_ready (rs := [10]) (by kernel_rfl) (by simp) ?_
     refine AllReadyH.cons rfl ?oC1C2AB AllReadyH.nil
     case' oC1C2AB =>
      intro KK hKK
      have HN := κ (HN.out.newX 66)
      go_simp
      generalize wA.alloc (.cells #[.int .i64 0, .int .u32 0, .int .u32 0, .int .i64 0] 66) = wB at HN ⊢
      generalize wA.heap.size = hX at HN ⊢
      refine hKK.out _ _ HN.out.q (fun hHeld2 => ?_)
      clear hKK KK hHeld
      have hHeld := hHeld2
      clear hHeld2
      try simp only [Act.put, κa, κb, κc]
    case' oC1C2B =>
     intro KK hKK
     have HN := κ (HN.out.newX 66)
     go_simp
     generalize wq2.alloc (.cells #[.int .i64 0, .int .u32 0, .int .u32 0, .int .i64 0] 66) = wB at HN ⊢
     generalize wq2.heap.size = hX at HN ⊢
     refine hKK.out _ _ HN.out.q (fun hHeld2 => ?_)
     clear hKK KK hHeld
     have hHeld := hHeld2
     clear hHeld2
     try simp only [Act.put, κa, κb, κc]
     refine wpAnyH_ready (rs := [9]) (by kernel_rfl) (by simp) ?_
     refine AllReadyH.cons rfl ?oC1C2BA AllReadyH.nil
     case' oC1C2BA =>
      intro KK hKK
      have HN := κ (HN.out.newA 44)
      go_simp
      generalize wB.alloc (.cells #[.int .u32 0, .int .u32 0, .int .u32 0, .int .u32 0, .int .u32 0, .int .u32 0, .int .u32 0, .int .u32 0, .int .u32 0, .int .u32 0, .int .u32 0, .int .u32 0] 44) = wA at HN ⊢
      generalize wB.heap.size = hA at HN ⊢
      refine hKK.out _ _ HN.out.q (fun hHeld2 => ?_)
      clear hKK KK hHeld
      have hHeld := hHeld2
      clear hHeld2
      try simp only [Act.put, κa, κb, κc]
   case' oC1A =>
    intro KK hKK
    have HN := κ (HN.out.newA 44)
    go_simp
    generalize wq1.alloc (.cells #[.int .u32 0, .int .u32 0, .int .u32 0, .int .u32 0, .int .u32 0, .int .u32 0, .int .u32 0, .int .u32 0, .int .u32 0, .int .u32 0, .int .u32 0, .int .u32 0] 44) = wA at HN ⊢
    generalize wq1.heap.size = hA at HN ⊢
    refine hKK.out _ _ HN.out.q (fun hHeld2 => ?_)
    clear hKK KK hHeld
    have hHeld := hHeld2
    clear hHeld2
    try simp only [Act.put, κa, κb, κc]
    refine wpAnyH_ready (rs := [4, 10]) (by kernel_rfl) (by simp) ?_
    refine AllReadyH.cons rfl ?oC1AC2 (AllReadyH.cons rfl ?oC1AB AllReadyH.nil)
    case' oC1AC2 =>
     intro KK hKK
     have HQ := HN.out.Q Q rfl
     go_simp
     go_wp2_with (go_at_call 30; refine (EV.out Q _ HN.out.o HQ.1 (fun g e _ h => (HQ.2.1 _ h).2.2.2.2 g e rfl)).mono ?_; rintro e wq2 ⟨rfl, hq, hu⟩)
     have HN := κ (HN.out.eval hq hu)
     clear hq hu HQ
     refine hKK.out _ _ HN.out.q (fun hHeld2 => ?_)
     clear hKK KK hHeld
     have hHeld := hHeld2
     clear hHeld2
     try simp only [Act.put, κa, κb, κc]
     refine κw 5 72 (.tuple #[.agg #[.int .u32 0, .int .u32 0, .int .u32 0, .int .u32 0, .int .u32 0, .int .u32 0, .int .u32 0, .int .u32 0, .int .u32 0, .int .u32 0, .int .u32 0, .int .u32 0], .agg #[.int .i64 s0, .int .u32 s1, .int .u32 q, .int .i64 0], .int .i64 0]) rfl rfl (by kernel_rfl) (by kernel_rfl) (by kernel_rfl) (fun _ _ _ h => h) (Kt.yl_mov (by rfl) _ rfl _ rfl) hHeld ?_
     try simp only [Act.put, κa, κb, κc]
     refine κw 6 78 (.agg #[.int .u32 0, .int .u32 0, .int .u32 0, .int .u32 0, .int .u32 0, .int .u32 0, .int .u32 0, .int .u32 0, .int .u32 0, .int .u32 0, .int .u32 0, .int .u32 0]) rfl rfl (by kernel_rfl) (by kernel_rfl) (by kernel_rfl) (fun _ _ _ h => h) (yl_ext (by rfl) _ _ rfl _ _ rfl (fun w => by kernel_rfl)) hHeld ?_
     try simp only [Act.put, κa, κb, κc]
     refine κw 7 79 (.agg #[.int .i64 s0, .int .u32 s1, .int .u32 q, .int .i64 0]) rfl rfl (by kernel_rfl) (by kernel_rfl) (by kernel_rfl) (fun _ _ _ h => h) (yl_ext (by rfl) _ _ rfl _ _ rfl (fun w => by kernel_rfl)) hHeld ?_
     try simp only [Act.put, κa, κb, κc]
     refine κw 8 80 (.int .i64 0) rfl rfl (by kernel_rfl) (by kernel_rfl) (by kernel_rfl) (fun _ _ _ h => h) (yl_ext (by rfl) _ _ rfl _ _ rfl (fun w => by kernel_rfl)) hHeld ?_
     try simp only [Act.put, κa, κb, κc]
     refine wpAnyH_ready (rs := [10]) (by kernel_rfl) (by simp) ?_
     refine AllReadyH.cons rfl ?oC1AC2B AllReadyH.nil
     case' oC1AC2B =>
      intro KK hKK
      have HN := κ (HN.out.newX 66)
      go_simp
      generalize wq2.alloc (.cells #[.int .i64 0, .int .u32 0, .int .u32 0, .int .i64 0] 66) = wB at HN ⊢
      generalize wq2.heap.size = hX at HN ⊢
      refine hKK.out _ _ HN.out.q (fun hHeld2 => ?_)
      clear hKK KK hHeld
      have hHeld := hHeld2
      clear hHeld2
      try simp only [Act.put, κa, κb, κc]
    case' oC1AB =>
     intro KK hKK
     have HN := κ (HN.out.newX 66)
     go_simp
     generalize wA.alloc (.cells #[.int .i64 0, .int .u32 0, .int .u32 0, .int .i64 0] 66) = wB at HN ⊢
     generalize wA.heap.size = hX at HN ⊢
     refine hKK.out _ _ HN.out.q (fun hHeld2 => ?_)
     clear hKK KK hHeld
     have hHeld := hHeld2
     clear hHeld2
     try simp only [Act.put, κa, κb, κc]
     refine wpAnyH_ready (rs := [4]) (by kernel_rfl) (by simp) ?_
     refine AllReadyH.cons rfl ?oC1ABC2 AllReadyH.nil
     case' oC1ABC2 =>
      intro KK hKK
      have HQ := HN.out.Q Q rfl
      go_simp
      go_wp2_with (go_at_call 30; refine (EV.out Q _ HN.out.o HQ.1 (fun g e _ h => (HQ.2.1 _ h).2.2.2.2 g e rfl)).mono ?_; rintro e wq2 ⟨rfl, hq, hu⟩)
      have HN := κ (HN.out.eval hq hu)
      clear hq hu HQ
      refine hKK.out _ _ HN.out.q (fun hHeld2 => ?_)
      clear hKK KK hHeld
      have hHeld := hHeld2
      clear hHeld2
      try simp only [Act.put, κa, κb, κc]
      refine κw 5 72 (.tuple #[.agg #[.int .u32 0, .int .u32 0, .int .u32 0, .int .u32 0, .int .u32 0, .int .u32 0, .int .u32 0, .int .u32 0, .int .u32 0, .int .u32 0, .int .u32 0, .int .u32 0], .agg #[.int .i64 s0, .int .u32 s1, .int .u32 q, .int .i64 0], .int .i64 0]) rfl rfl (by kernel_rfl) (by kernel_rfl) (by kernel_rfl) (fun _ _ _ h => h) (Kt.yl_mov (by rfl) _ rfl _ rfl) hHeld ?_
      try simp only [Act.put, κa, κb, κc]
      refine κw 6 78 (.agg #[.int .u32 0, .int .u32 0, .int .u32 0, .int .u32 0, .int .u32 0, .int .u32 0, .int .u32 0, .int .u32 0, .int .u32 0, .int .u32 0, .int .u32 0, .int .u32 0]) rfl rfl (by kernel_rfl) (by kernel_rfl) (by kernel_rfl) (fun _ _ _ h => h) (yl_ext (by rfl) _ _ rfl _ _ rfl (fun w => by kernel_rfl)) hHeld ?_
      try simp only [Act.put, κa, κb, κc]
      refine κw 7 79 (.agg #[.int .i64 s0, .int .u32 s1, .int .u32 q, .int .i64 0]) rfl rfl (by kernel_rfl) (by kernel_rfl) (by kernel_rfl) (fun _ _ _ h => h) (yl_ext (by rfl) _ _ rfl _ _ rfl (fun w => by kernel_rfl)) hHeld ?_
      try simp only [Act.put, κa, κb, κc]
      refine κw 8 80 (.int .i64 0) rfl rfl (by kernel_rfl) (by kernel_rfl) (by kernel_rfl) (fun _ _ _ h => h) (yl_ext (by rfl) _ _ rfl _ _ rfl (fun w => by kernel_rfl)) hHeld ?_
      try simp only [Act.put, κa, κb, κc]
   case' oC1B =>
    intro KK hKK
    have HN := κ (HN.out.newX 66)
    go_simp
    generalize wq1.alloc (.cells #[.int .i64 0, .int .u32 0, .int .u32 0, .int .i64 0] 66) = wB at HN ⊢
    generalize wq1.heap.size = hX at HN ⊢
    refine hKK.out _ _ HN.out.q (fun hHeld2 => ?_)
    clear hKK KK hHeld
    have hHeld := hHeld2
    clear hHeld2
    try simp only [Act.put, κa, κb, κc]
    refine wpAnyH_ready (rs := [4, 9]) (by kernel_rfl) (by simp) ?_
    refine AllReadyH.cons rfl ?oC1BC2 (AllReadyH.cons rfl ?oC1BA AllReadyH.nil)
    case' oC1BC2 =>
     intro KK hKK
     have HQ := HN.out.Q Q rfl
     go_simp
     go_wp2_with (go_at_call 30; refine (EV.out Q _ HN.out.o HQ.1 (fun g e _ h => (HQ.2.1 _ h).2.2.2.2 g e rfl)).mono ?_; rintro e wq2 ⟨rfl, hq, hu⟩)
     have HN := κ (HN.out.eval hq hu)
     clear hq hu HQ
     refine hKK.out _ _ HN.out.q (fun hHeld2 => ?_)
     clear hKK KK hHeld
     have hHeld := hHeld2
     clear hHeld2
     try simp only [Act.put, κa, κb, κc]
     refine κw 5 72 (.tuple #[.agg #[.int .u32 0, .int .u32 0, .int .u32 0, .int .u32 0, .int .u32 0, .int .u32 0, .int .u32 0, .int .u32 0, .int .u32 0, .int .u32 0, .int .u32 0, .int .u32 0], .agg #[.int .i64 s0, .int .u32 s1, .int .u32 q, .int .i64 0], .int .i64 0]) rfl rfl (by kernel_rfl) (by kernel_rfl) (by kernel_rfl) (fun _ _ _ h => h) (Kt.yl_mov (by rfl) _ rfl _ rfl) hHeld ?_
     try simp only [Act.put, κa, κb, κc]
     refine κw 6 78 (.agg #[.int .u32 0, .int .u32 0, .int .u32 0, .int .u32 0, .int .u32 0, .int .u32 0, .int .u32 0, .int .u32 0, .int .u32 0, .int .u32 0, .int .u32 0, .int .u32 0]) rfl rfl (by kernel_rfl) (by kernel_rfl) (by kernel_rfl) (fun _ _ _ h => h) (yl_ext (by rfl) _ _ rfl _ _ rfl (fun w => by kernel_rfl)) hHeld ?_
     try simp only [Act.put, κa, κb, κc]
     refine κw 7 79 (.agg #[.int .i64 s0, .int .u32 s1, .int .u32 q, .int .i64 0]) rfl rfl (by kernel_rfl) (by kernel_rfl) (by kernel_rfl) (fun _ _ _ h => h) (yl_ext (by rfl) _ _ rfl _ _ rfl (fun w => by kernel_rfl)) hHeld ?_
     try simp only [Act.put, κa, κb, κc]
     refine κw 8 80 (.int .i64 0) rfl rfl (by kernel_rfl) (by kernel_rfl) (by kernel_rfl) (fun _ _ _ h => h) (yl_ext (by rfl) _ _ rfl _ _ rfl (fun w => by kernel_rfl)) hHeld ?_
     try simp only [Act.put, κa, κb, κc]
     refine wpAnyH_ready (rs := [9]) (by kernel_rfl) (by simp) ?_
     refine AllReadyH.cons rfl ?oC1BC2A AllReadyH.nil
     case' oC1BC2A =>
      intro KK hKK
      have HN := κ (HN.out.newA 44)
      go_simp
      generalize wq2.alloc (.cells #[.int .u32 0, .int .u32 0, .int .u32 0, .int .u32 0, .int .u32 0, .int .u32 0, .int .u32 0, .int .u32 0, .int .u32 0, .int .u32 0, .int .u32 0, .int .u32 0] 44) = wA at HN ⊢
      generalize wq2.heap.size = hA at HN ⊢
      refine hKK.out _ _ HN.out.q (fun hHeld2 => ?_)
      clear hKK KK hHeld
      have hHeld := hHeld2
      clear hHeld2
      try simp only [Act.put, κa, κb, κc]
    case' oC1BA =>
     intro KK hKK
     have HN := κ (HN.out.newA 44)
     go_simp
     generalize wB.alloc (.cells #[.int .u32 0, .int .u32 0, .int .u32 0, .int .u32 0, .int .u32 0, .int .u32 0, .int .u32 0, .int .u32 0, .int .u32 0, .int .u32 0, .int .u32 0, .int .u32 0] 44) = wA at HN ⊢
     generalize wB.heap.size = hA at HN ⊢
     refine hKK.out _ _ HN.out.q (fun hHeld2 => ?_)
     clear hKK KK hHeld
     have hHeld := hHeld2
     clear hHeld2
     try simp only [Act.put, κa, κb, κc]
     refine wpAnyH_ready (rs := [4]) (by kernel_rfl) (by simp) ?_
     refine AllReadyH.cons rfl ?oC1BAC2 AllReadyH.nil
     case' oC1BAC2 =>
      intro KK hKK
      have HQ := HN.out.Q Q rfl
      go_simp
      go_wp2_with (go_at_call 30; refine (EV.out Q _ HN.out.o HQ.1 (fun g e _ h => (HQ.2.1 _ h).2.2.2.2 g e rfl)).mono ?_; rintro e wq2 ⟨rfl, hq, hu⟩)
      have HN := κ (HN.out.eval hq hu)
      clear hq hu HQ
      refine hKK.out _ _ HN.out.q (fun hHeld2 => ?_)
      clear hKK KK hHeld
      have hHeld := hHeld2
      clear hHeld2
      try simp only [Act.put, κa, κb, κc]
      refine κw 5 72 (.tuple #[.agg #[.int .u32 0, .int .u32 0, .int .u32 0, .int .u32 0, .int .u32 0, .int .u32 0, .int .u32 0, .int .u32 0, .int .u32 0, .int .u32 0, .int .u32 0, .int .u32 0], .agg #[.int .i64 s0, .int .u32 s1, .int .u32 q, .int .i64 0], .int .i64 0]) rfl rfl (by kernel_rfl) (by kernel_rfl) (by kernel_rfl) (fun _ _ _ h => h) (Kt.yl_mov (by rfl) _ rfl _ rfl) hHeld ?_
      try simp only [Act.put, κa, κb, κc]
      refine κw 6 78 (.agg #[.int .u32 0, .int .u32 0, .int .u32 0, .int .u32 0, .int .u32 0, .int .u32 0, .int .u32 0, .int .u32 0, .int .u32 0, .int .u32 0, .int .u32 0, .int .u32 0]) rfl rfl (by kernel_rfl) (by kernel_rfl) (by kernel_rfl) (fun _ _ _ h => h) (yl_ext (by rfl) _ _ rfl _ _ rfl (fun w => by kernel_rfl)) hHeld ?_
      try simp only [Act.put, κa, κb, κc]
      refine κw 7 79 (.agg #[.int .i64 s0, .int .u32 s1, .int .u32 q, .int .i64 0]) rfl rfl (by kernel_rfl) (by kernel_rfl) (by kernel_rfl) (fun _ _ _ h => h) (yl_ext (by rfl) _ _ rfl _ _ rfl (fun w => by kernel_rfl)) hHeld ?_
      try simp only [Act.put, κa, κb, κc]
      refine κw 8 80 (.int .i64 0) rfl rfl (by kernel_rfl) (by kernel_rfl) (by kernel_rfl) (fun _ _ _ h => h) (yl_ext (by rfl) _ _ rfl _ _ rfl (fun w => by kernel_rfl)) hHeld ?_
      try simp only [Act.put, κa, κb, κc]
  case' oA =>
   intro KK hKK
   have HN := κ (HN.out.newA 44)
   go_simp
   generalize wS.alloc (.cells #[.int .u32 0, .int .u32 0, .int .u32 0, .int .u32 0, .int .u32 0, .int .u32 0, .int .u32 0, .int .u32 0, .int .u32 0, .int .u32 0, .int .u32 0, .int .u32 0] 44) = wA at HN ⊢
   generalize wS.heap.size = hA at HN ⊢
   refine hKK.out _ _ HN.out.q (fun hHeld2 => ?_)
   clear hKK KK hHeld
   have hHeld := hHeld2
   clear hHeld2
   try simp only [Act.put, κa, κb, κc]
   refine wpAnyH_ready (rs := [3, 10]) (by kernel_rfl) (by simp) ?_
   refine AllReadyH.cons rfl ?oAC1 (AllReadyH.cons rfl ?oAB AllReadyH.nil)
   case' oAC1 =>
    intro KK hKK
    go_simp
    go_wp2_with (go_at_call 31; refine (CP.out _ HN.out.p).mono ?_; rintro e wq1 ⟨Q, rfl, hQ, hb, hn⟩)
    have HN := κ (HN.out.copy hQ hb hn (Nat.lt_succ_self 0))
    clear hQ hb hn
    refine hKK.out _ _ HN.out.q (fun hHeld2 => ?_)
    clear hKK KK hHeld
    have hHeld := hHeld2
    clear hHeld2
    try simp only [Act.put, κa, κb, κc]
    refine wpAnyH_ready (rs := [4, 10]) (by kernel_rfl) (by simp) ?_
    refine AllReadyH.cons rfl ?oAC1C2 (AllReadyH.cons rfl ?oAC1B AllReadyH.nil)
    case' oAC1C2 =>
     intro KK hKK
     have HQ := HN.out.Q Q rfl
     go_simp
     go_wp2_with (go_at_call 30; refine (EV.out Q _ HN.out.o HQ.1 (fun g e _ h => (HQ.2.1 _ h).2.2.2.2 g e rfl)).mono ?_; rintro e wq2 ⟨rfl, hq, hu⟩)
     have HN := κ (HN.out.eval hq hu)
     clear hq hu HQ
     refine hKK.out _ _ HN.out.q (fun hHeld2 => ?_)
     clear hKK KK hHeld
     have hHeld := hHeld2
     clear hHeld2
     try simp only [Act.put, κa, κb, κc]
     refine κw 5 72 (.tuple #[.agg #[.int .u32 0, .int .u32 0, .int .u32 0, .int .u32 0, .int .u32 0, .int .u32 0, .int .u32 0, .int .u32 0, .int .u32 0, .int .u32 0, .int .u32 0, .int .u32 0], .agg #[.int .i64 s0, .int .u32 s1, .int .u32 q, .int .i64 0], .int .i64 0]) rfl rfl (by kernel_rfl) (by kernel_rfl) (by kernel_rfl) (fun _ _ _ h => h) (Kt.yl_mov (by rfl) _ rfl _ rfl) hHeld ?_
     try simp only [Act.put, κa, κb, κc]
     refine κw 6 78 (.agg #[.int .u32 0, .int .u32 0, .int .u32 0, .int .u32 0, .int .u32 0, .int .u32 0, .int .u32 0, .int .u32 0, .int .u32 0, .int .u32 0, .int .u32 0, .int .u32 0]) rfl rfl (by kernel_rfl) (by kernel_rfl) (by kernel_rfl) (fun _ _ _ h => h) (yl_ext (by rfl) _ _ rfl _ _ rfl (fun w => by kernel_rfl)) hHeld ?_
     try simp only [Act.put, κa, κb, κc]
     refine κw 7 79 (.agg #[.int .i64 s0, .int .u32 s1, .int .u32 q, .int .i64 0]) rfl rfl (by kernel_rfl) (by kernel_rfl) (by kernel_rfl) (fun _ _ _ h => h) (yl_ext (by rfl) _ _ rfl _ _ rfl (fun w => by kernel_rfl)) hHeld ?_
     try simp only [Act.put, κa, κb, κc]
     refine κw 8 80 (.int .i64 0) rfl rfl (by kernel_rfl) (by kernel_rfl) (by kernel_rfl) (fun _ _ _ h => h) (yl_ext (by rfl) _ _ rfl _ _ rfl (fun w => by kernel_rfl)) hHeld ?_
     try simp only [Act.put, κa, κb, κc]
     refine wpAnyH_ready (rs := [10]) (by kernel_rfl) (by simp) ?_
     refine AllReadyH.cons rfl ?oAC1C2B AllReadyH.nil
     case' oAC1C2B =>
      intro KK hKK
      have HN := κ (HN.out.newX 66)
      go_simp
      generalize wq2.alloc (.cells #[.int .i64 0, .int .u32 0, .int .u32 0, .int .i64 0] 66) = wB at HN ⊢
      generalize wq2.heap.size = hX at HN ⊢
      refine hKK.out _ _ HN.out.q (fun hHeld2 => ?_)
      clear hKK KK hHeld
      have hHeld := hHeld2
      clear hHeld2
      try simp only [Act.put, κa, κb, κc]
    case' oAC1B =>
     intro KK hKK
     have HN := κ (HN.out.newX 66)
     go_simp
     generalize wq1.alloc (.cells #[.int .i64 0, .int .u32 0, .int .u32 0, .int .i64 0] 66) = wB at HN ⊢
     generalize wq1.heap.size = hX at HN ⊢
     refine hKK.out _ _ HN.out.q (fun hHeld2 => ?_)
     clear hKK KK hHeld
     have hHeld := hHeld2
     clear hHeld2
     try simp only [Act.put, κa, κb, κc]
     refine wpAnyH_ready (rs := [4]) (by kernel_rfl) (by simp) ?_
     refine AllReadyH.cons rfl ?oAC1BC2 AllReadyH.nil
     case' oAC1BC2 =>
      intro KK hKK
      have HQ := HN.out.Q Q rfl
      go_simp
      go_wp2_with (go_at_call 30; refine (EV.out Q _ HN.out.o HQ.1 (fun g e _ h => (HQ.2.1 _ h).2.2.2.2 g e rfl)).mono ?_; rintro e wq2 ⟨rfl, hq, hu⟩)
      have HN := κ (HN.out.eval hq hu)
      clear hq hu HQ
      refine hKK.out _ _ HN.out.q (fun hHeld2 => ?_)
      clear hKK KK hHeld
      have hHeld := hHeld2
      clear hHeld2
      try simp only [Act.put, κa, κb, κc]
      refine κw 5 72 (.tuple #[.agg #[.int .u32 0, .int .u32 0, .int .u32 0, .int .u32 0, .int .u32 0, .int .u32 0, .int .u32 0, .int .u32 0, .int .u32 0, .int .u32 0, .int .u32 0, .int .u32 0], .agg #[.int .i64 s0, .int .u32 s1, .int .u32 q, .int .i64 0], .int .i64 0]) rfl rfl (by kernel_rfl) (by kernel_rfl) (by kernel_rfl) (fun _ _ _ h => h) (Kt.yl_mov (by rfl) _ rfl _ rfl) hHeld ?_
      try simp only [Act.put, κa, κb, κc]
      refine κw 6 78 (.agg #[.int .u32 0, .int .u32 0, .int .u32 0, .int .u32 0, .int .u32 0, .int .u32 0, .int .u32 0, .int .u32 0, .int .u32 0, .int .u32 0, .int .u32 0, .int .u32 0]) rfl rfl (by kernel_rfl) (by kernel_rfl) (by kernel_rfl) (fun _ _ _ h => h) (yl_ext (by rfl) _ _ rfl _ _ rfl (fun w => by kernel_rfl)) hHeld ?_
      try simp only [Act.put, κa, κb, κc]
      refine κw 7 79 (.agg #[.int .i64 s0, .int .u32 s1, .int .u32 q, .int .i64 0]) rfl rfl (by kernel_rfl) (by kernel_rfl) (by kernel_rfl) (fun _ _ _ h => h) (yl_ext (by rfl) _ _ rfl _ _ rfl (fun w => by kernel_rfl)) hHeld ?_
      try simp only [Act.put, κa, κb, κc]
      refine κw 8 80 (.int .i64 0) rfl rfl (by kernel_rfl) (by kernel_rfl) (by kernel_rfl) (fun _ _ _ h => h) (yl_ext (by rfl) _ _ rfl _ _ rfl (fun w => by kernel_rfl)) hHeld ?_
      try simp only [Act.put, κa, κb, κc]
   case' oAB =>
    intro KK hKK
    have HN := κ (HN.out.newX 66)
    go_simp
    generalize wA.alloc (.cells #[.int .i64 0, .int .u32 0, .int .u32 0, .int .i64 0] 66) = wB at HN ⊢
    generalize wA.heap.size = hX at HN ⊢
    refine hKK.out _ _ HN.out.q (fun hHeld2 => ?_)
    clear hKK KK hHeld
    have hHeld := hHeld2
    clear hHeld2
    try simp only [Act.put, κa, κb, κc]
    refine wpAnyH_ready (rs := [3]) (by kernel_rfl) (by simp) ?_
    refine AllReadyH.cons rfl ?oABC1 AllReadyH.nil
    case' oABC1 =>
     intro KK hKK
     go_simp
     go_wp2_with (go_at_call 31; refine (CP.out _ HN.out.p).mono ?_; rintro e wq1 ⟨Q, rfl, hQ, hb, hn⟩)
     have HN := κ (HN.out.copy hQ hb hn (Nat.lt_succ_self 0))
     clear hQ hb hn
     refine hKK.out _ _ HN.out.q (fun hHeld2 => ?_)
     clear hKK KK hHeld
     have hHeld := hHeld2
     clear hHeld2
     try simp only [Act.put, κa, κb, κc]
     refine wpAnyH_ready (rs := [4]) (by kernel_rfl) (by simp) ?_
     refine AllReadyH.cons rfl ?oABC1C2 AllReadyH.nil
     case' oABC1C2 =>
      intro KK hKK
      have HQ := HN.out.Q Q rfl
      go_simp
      go_wp2_with (go_at_call 30; refine (EV.out Q _ HN.out.o HQ.1 (fun g e _ h => (HQ.2.1 _ h).2.2.2.2 g e rfl)).mono ?_; rintro e wq2 ⟨rfl, hq, hu⟩)
      have HN := κ (HN.out.eval hq hu)
      clear hq hu HQ
      refine hKK.out _ _ HN.out.q (fun hHeld2 => ?_)
      clear hKK KK hHeld
      have hHeld := hHeld2
      clear hHeld2
      try simp only [Act.put, κa, κb, κc]
      refine κw 5 72 (.tuple #[.agg #[.int .u32 0, .int .u32 0, .int .u32 0, .int .u32 0, .int .u32 0, .int .u32 0, .int .u32 0, .int .u32 0, .int .u32 0, .int .u32 0, .int .u32 0, .int .u32 0], .agg #[.int .i64 s0, .int .u32 s1, .int .u32 q, .int .i64 0], .int .i64 0]) rfl rfl (by kernel_rfl) (by kernel_rfl) (by kernel_rfl) (fun _ _ _ h => h) (Kt.yl_mov (by rfl) _ rfl _ rfl) hHeld ?_
      try simp only [Act.put, κa, κb, κc]
      refine κw 6 78 (.agg #[.int .u32 0, .int .u32 0, .int .u32 0, .int .u32 0, .int .u32 0, .int .u32 0, .int .u32 0, .int .u32 0, .int .u32 0, .int .u32 0, .int .u32 0, .int .u32 0]) rfl rfl (by kernel_rfl) (by kernel_rfl) (by kernel_rfl) (fun _ _ _ h => h) (yl_ext (by rfl) _ _ rfl _ _ rfl (fun w => by kernel_rfl)) hHeld ?_
      try simp only [Act.put, κa, κb, κc]
      refine κw 7 79 (.agg #[.int .i64 s0, .int .u32 s1, .int .u32 q, .int .i64 0]) rfl rfl (by kernel_rfl) (by kernel_rfl) (by kernel_rfl) (fun _ _ _ h => h) (yl_ext (by rfl) _ _ rfl _ _ rfl (fun w => by kernel_rfl)) hHeld ?_
      try simp only [Act.put, κa, κb, κc]
      refine κw 8 80 (.int .i64 0) rfl rfl (by kernel_rfl) (by kernel_rfl) (by kernel_rfl) (fun _ _ _ h => h) (yl_ext (by rfl) _ _ rfl _ _ rfl (fun w => by kernel_rfl)) hHeld ?_
      try simp only [Act.put, κa, κb, κc]
  case' oB =>
   intro KK hKK
   have HN := κ (HN.out.newX 66)
   go_simp
   generalize wS.alloc (.cells #[.int .i64 0, .int .u32 0, .int .u32 0, .int .i64 0] 66) = wB at HN ⊢
   generalize wS.heap.size = hX at HN ⊢
   refine hKK.out _ _ HN.out.q (fun hHeld2 => ?_)
   clear hKK KK hHeld
   have hHeld := hHeld2
   clear hHeld2
   try simp only [Act.put, κa, κb, κc]
   refine wpAnyH_ready (rs := [3, 9]) (by kernel_rfl) (by simp) ?_
   refine AllReadyH.cons rfl ?oBC1 (AllReadyH.cons rfl ?oBA AllReadyH.nil)
   case' oBC1 =>
    intro KK hKK
    go_simp
    go_wp2_with (go_at_call 31; refine (CP.out _ HN.out.p).mono ?_; rintro e wq1 ⟨Q, rfl, hQ, hb, hn⟩)
    have HN := κ (HN.out.copy hQ hb hn (Nat.lt_succ_self 0))
    clear hQ hb hn
    refine hKK.out _ _ HN.out.q (fun hHeld2 => ?_)
    clear hKK KK hHeld
    have hHeld := hHeld2
    clear hHeld2
    try simp only [Act.put, κa, κb, κc]
    refine wpAnyH_ready (rs := [4, 9]) (by kernel_rfl) (by simp) ?_
    refine AllReadyH.cons rfl ?oBC1C2 (AllReadyH.cons rfl ?oBC1A AllReadyH.nil)
    case' oBC1C2 =>
     intro KK hKK
     have HQ := HN.out.Q Q rfl
     go_simp
     go_wp2_with (go_at_call 30; refine (EV.out Q _ HN.out.o HQ.1 (fun g e _ h => (HQ.2.1 _ h).2.2.2.2 g e rfl)).mono ?_; rintro e wq2 ⟨rfl, hq, hu⟩)
     have HN := κ (HN.out.eval hq hu)
     clear hq hu HQ
     refine hKK.out _ _ HN.out.q (fun hHeld2 => ?_)
     clear hKK KK hHeld
     have hHeld := hHeld2
     clear hHeld2
     try simp only [Act.put, κa, κb, κc]
     refine κw 5 72 (.tuple #[.agg #[.int .u32 0, .int .u32 0, .int .u32 0, .int .u32 0, .int .u32 0, .int .u32 0, .int .u32 0, .int .u32 0, .int .u32 0, .int .u32 0, .int .u32 0, .int .u32 0], .agg #[.int .i64 s0, .int .u32 s1, .int .u32 q, .int .i64 0], .int .i64 0]) rfl rfl (by kernel_rfl) (by kernel_rfl) (by kernel_rfl) (fun _ _ _ h => h) (Kt.yl_mov (by rfl) _ rfl _ rfl) hHeld ?_
     try simp only [Act.put, κa, κb, κc]
     refine κw 6 78 (.agg #[.int .u32 0, .int .u32 0, .int .u32 0, .int .u32 0, .int .u32 0, .int .u32 0, .int .u32 0, .int .u32 0, .int .u32 0, .int .u32 0, .int .u32 0, .int .u32 0]) rfl rfl (by kernel_rfl) (by kernel_rfl) (by kernel_rfl) (fun _ _ _ h => h) (yl_ext (by rfl) _ _ rfl _ _ rfl (fun w => by kernel_rfl)) hHeld ?_
     try simp only [Act.put, κa, κb, κc]
     refine κw 7 79 (.agg #[.int .i64 s0, .int .u32 s1, .int .u32 q, .int .i64 0]) rfl rfl (by kernel_rfl) (by kernel_rfl) (by kernel_rfl) (fun _ _ _ h => h) (yl_ext (by rfl) _ _ rfl _ _ rfl (fun w => by kernel_rfl)) hHeld ?_
     try simp only [Act.put, κa, κb, κc]
     refine κw 8 80 (.int .i64 0) rfl rfl (by kernel_rfl) (by kernel_rfl) (by kernel_rfl) (fun _ _ _ h => h) (yl_ext (by rfl) _ _ rfl _ _ rfl (fun w => by kernel_rfl)) hHeld ?_
     try simp only [Act.put, κa, κb, κc]
     refine wpAnyH_ready (rs := [9]) (by kernel_rfl) (by simp) ?_
     refine AllReadyH.cons rfl ?oBC1C2A AllReadyH.nil
     case' oBC1C2A =>
      intro KK hKK
      have HN := κ (HN.out.newA 44)
      go_simp
      generalize wq2.alloc (.cells #[.int .u32 0, .int .u32 0, .int .u32 0, .int .u32 0, .int .u32 0, .int .u32 0, .int .u32 0, .int .u32 0, .int .u32 0, .int .u32 0, .int .u32 0, .int .u32 0] 44) = wA at HN ⊢
      generalize wq2.heap.size = hA at HN ⊢
      refine hKK.out _ _ HN.out.q (fun hHeld2 => ?_)
      clear hKK KK hHeld
      have hHeld := hHeld2
      clear hHeld2
      try simp only [Act.put, κa, κb, κc]
    case' oBC1A =>
     intro KK hKK
     have HN := κ (HN.out.newA 44)
     go_simp
     generalize wq1.alloc (.cells #[.int .u32 0, .int .u32 0, .int .u32 0, .int .u32 0, .int .u32 0, .int .u32 0, .int .u32 0, .int .u32 0, .int .u32 0, .int .u32 0, .int .u32 0, .int .u32 0] 44) = wA at HN ⊢
     generalize wq1.heap.size = hA at HN ⊢
     refine hKK.out _ _ HN.out.q (fun hHeld2 => ?_)
     clear hKK KK hHeld
     have hHeld := hHeld2
     clear hHeld2
     try simp only [Act.put, κa, κb, κc]
     refine wpAnyH_ready (rs := [4]) (by kernel_rfl) (by simp) ?_
     refine AllReadyH.cons rfl ?oBC1AC2 AllReadyH.nil
     case' oBC1AC2 =>
      intro KK hKK
      have HQ := HN.out.Q Q rfl
      go_simp
      go_wp2_with (go_at_call 30; refine (EV.out Q _ HN.out.o HQ.1 (fun g e _ h => (HQ.2.1 _ h).2.2.2.2 g e rfl)).mono ?_; rintro e wq2 ⟨rfl, hq, hu⟩)
      have HN := κ (HN.out.eval hq hu)
      clear hq hu HQ
      refine hKK.out _ _ HN.out.q (fun hHeld2 => ?_)
      clear hKK KK hHeld
      have hHeld := hHeld2
      clear hHeld2
      try simp only [Act.put, κa, κb, κc]
      refine κw 5 72 (.tuple #[.agg #[.int .u32 0, .int .u32 0, .int .u32 0, .int .u32 0, .int .u32 0, .int .u32 0, .int .u32 0, .int .u32 0, .int .u32 0, .int .u32 0, .int .u32 0, .int .u32 0], .agg #[.int .i64 s0, .int .u32 s1, .int .u32 q, .int .i64 0], .int .i64 0]) rfl rfl (by kernel_rfl) (by kernel_rfl) (by kernel_rfl) (fun _ _ _ h => h) (Kt.yl_mov (by rfl) _ rfl _ rfl) hHeld ?_
      try simp only [Act.put, κa, κb, κc]
      refine κw 6 78 (.agg #[.int .u32 0, .int .u32 0, .int .u32 0, .int .u32 0, .int .u32 0, .int .u32 0, .int .u32 0, .int .u32 0, .int .u32 0, .int .u32 0, .int .u32 0, .int .u32 0]) rfl rfl (by kernel_rfl) (by kernel_rfl) (by kernel_rfl) (fun _ _ _ h => h) (yl_ext (by rfl) _ _ rfl _ _ rfl (fun w => by kernel_rfl)) hHeld ?_
      try simp only [Act.put, κa, κb, κc]
      refine κw 7 79 (.agg #[.int .i64 s0, .int .u32 s1, .int .u32 q, .int .i64 0]) rfl rfl (by kernel_rfl) (by kernel_rfl) (by kernel_rfl) (fun _ _ _ h => h) (yl_ext (by rfl) _ _ rfl _ _ rfl (fun w => by kernel_rfl)) hHeld ?_
      try simp only [Act.put, κa, κb, κc]
      refine κw 8 80 (.int .i64 0) rfl rfl (by kernel_rfl) (by kernel_rfl) (by kernel_rfl) (fun _ _ _ h => h) (yl_ext (by rfl) _ _ rfl _ _ rfl (fun w => by kernel_rfl)) hHeld ?_
      try simp only [Act.put, κa, κb, κc]
   case' oBA =>
    intro KK hKK
    have HN := κ (HN.out.newA 44)
    go_simp
    generalize wB.alloc (.cells #[.int .u32 0, .int .u32 0, .int .u32 0, .int .u32 0, .int .u32 0, .int .u32 0, .int .u32 0, .int .u32 0, .int .u32 0, .int .u32 0, .int .u32 0, .int .u32 0] 44) = wA at HN ⊢
    generalize wB.heap.size = hA at HN ⊢
    refine hKK.out _ _ HN.out.q (fun hHeld2 => ?_)
    clear hKK KK hHeld
    have hHeld := hHeld2
    clear hHeld2
    try simp only [Act.put, κa, κb, κc]
    refine wpAnyH_ready (rs := [3]) (by kernel_rfl) (by simp) ?_
    refine AllReadyH.cons rfl ?oBAC1 AllReadyH.nil
    case' oBAC1 =>
     intro KK hKK
     go_simp
     go_wp2_with (go_at_call 31; refine (CP.out _ HN.out.p).mono ?_; rintro e wq1 ⟨Q, rfl, hQ, hb, hn⟩)
     have HN := κ (HN.out.copy hQ hb hn (Nat.lt_succ_self 0))
     clear hQ hb hn
     refine hKK.out _ _ HN.out.q (fun hHeld2 => ?_)
     clear hKK KK hHeld
     have hHeld := hHeld2
     clear hHeld2
     try simp only [Act.put, κa, κb, κc]
     refine wpAnyH_ready (rs := [4]) (by kernel_rfl) (by simp) ?_
     refine AllReadyH.cons rfl ?oBAC1C2 AllReadyH.nil
     case' oBAC1C2 =>
      intro KK hKK
      have HQ := HN.out.Q Q rfl
      go_simp
      go_wp2_with (go_at_call 30; refine (EV.out Q _ HN.out.o HQ.1 (fun g e _ h => (HQ.2.1 _ h).2.2.2.2 g e rfl)).mono ?_; rintro e wq2 ⟨rfl, hq, hu⟩)
      have HN := κ (HN.out.eval hq hu)
      clear hq hu HQ
      refine hKK.out _ _ HN.out.q (fun hHeld2 => ?_)
      clear hKK KK hHeld
      have hHeld := hHeld2
      clear hHeld2
      try simp only [Act.put, κa, κb, κc]
      refine κw 5 72 (.tuple #[.agg #[.int .u32 0, .int .u32 0, .int .u32 0, .int .u32 0, .int .u32 0, .int .u32 0, .int .u32 0, .int .u32 0, .int .u32 0, .int .u32 0, .int .u32 0, .int .u32 0], .agg #[.int .i64 s0, .int .u32 s1, .int .u32 q, .int .i64 0], .int .i64 0]) rfl rfl (by kernel_rfl) (by kernel_rfl) (by kernel_rfl) (fun _ _ _ h => h) (Kt.yl_mov (by rfl) _ rfl _ rfl) hHeld ?_
      try simp only [Act.put, κa, κb, κc]
      refine κw 6 78 (.agg #[.int .u32 0, .int .u32 0, .int .u32 0, .int .u32 0, .int .u32 0, .int .u32 0, .int .u32 0, .int .u32 0, .int .u32 0, .int .u32 0, .int .u32 0, .int .u32 0]) rfl rfl (by kernel_rfl) (by kernel_rfl) (by kernel_rfl) (fun _ _ _ h => h) (yl_ext (by rfl) _ _ rfl _ _ rfl (fun w => by kernel_rfl)) hHeld ?_
      try simp only [Act.put, κa, κb, κc]
      refine κw 7 79 (.agg #[.int .i64 s0, .int .u32 s1, .int .u32 q, .int .i64 0]) rfl rfl (by kernel_rfl) (by kernel_rfl) (by kernel_rfl) (fun _ _ _ h => h) (yl_ext (by rfl) _ _ rfl _ _ rfl (fun w => by kernel_rfl)) hHeld ?_
      try simp only [Act.put, κa, κb, κc]
      refine κw 8 80 (.int .i64 0) rfl rfl (by kernel_rfl) (by kernel_rfl) (by kernel_rfl) (fun _ _ _ h => h) (yl_ext (by rfl) _ _ rfl _ _ rfl (fun w => by kernel_rfl)) hHeld ?_
      try simp only [Act.put, κa, κb, κc]
  all_goals
   obtain ⟨g1, g2, g3, g4⟩ := HN.out.A hA rfl
   have xx := HN.out.X hX rfl
   have wb := HN.out.hB
   have a0 := g1.c 0 _ rfl
   have a1 := g1.c 1 _ rfl
   have a2 := g1.c 2 _ rfl
   have a3 := g1.c 3 _ rfl
   have a4 := g1.c 4 _ rfl
   have a5 := g1.c 5 _ rfl
   have a6 := g1.c 6 _ rfl
   have a7 := g1.c 7 _ rfl
   have a8 := g1.c 8 _ rfl
   have a9 := g1.c 9 _ rfl
   have a10 := g1.c 10 _ rfl
   have a11 := g1.c 11 _ rfl
   have az := g1.z
   have al := g1.l
   clear g1 g2 g3 g4
   refine wpAnyH_ready (rs := [11]) (by kernel_rfl) (by simp) ?_
   refine AllReadyH.cons rfl (fun KK hKK => ?_) AllReadyH.nil
   go_simp
   obtain ⟨f1, f2, f3, f4⟩ := HN.out.putA
   generalize World.setCell (World.setCell (World.setCell (World.setCell (World.setCell (World.setCell (World.setCell (World.setCell (World.setCell (World.setCell (World.setCell (World.setCell _ _ _) _ _) _ _) _ _) _ _) _ _) _ _) _ _) _ _) _ _) _ _) _ _ = w9 at f1 f2 f3 f4 ⊢
   refine hKK.out _ _ f2 (fun hHeld2 => ?_)
   clear hKK KK hHeld hHeld2 a0 a1 a2 a3 a4 a5 a6 a7 a8 a9 a10 a11 az al HN
   try simp only [Act.put, κa, κb, κc]
   have f1 := κ f1
   have f2 := κ f2
   have f3 := κ f3
   have f4 := κ f4
   have x0 := f4.out.c 0 _ rfl
   have x1 := f4.out.c 1 _ rfl
   have x2 := f4.out.c 2 _ rfl
   have x3 := f4.out.c 3 _ rfl
   have xz := f4.out.z
   have xl := f4.out.l
   refine wpAnyH_ready (rs := [12]) (by kernel_rfl) (by simp) ?_
   refine AllReadyH.cons rfl (fun KK hKK => ?_) AllReadyH.nil
   go_simp
   obtain ⟨k1, k2, k3, k4⟩ := put_x f1.out wb f2.out f3.out f4.out xx.2.1 xx.2.2.1 xx.2.2.2 s0 s1 q 0
   generalize World.setCell (World.setCell (World.setCell (World.setCell _ _ _) _ _) _ _) _ _ = w10 at k1 k2 k3 k4 ⊢
   refine hKK.out _ _ k2 (fun hHeld => ?_)
   clear hKK KK x0 x1 x2 x3 xz xl f1 f2 f3 f4 xx wb
   try simp only [Act.put, κa, κb, κc]
   refine κw 13 18 (.int .i64 0) rfl rfl (by kernel_rfl) (by kernel_rfl) (by kernel_rfl) (fun _ _ _ h => h) (Kt.yl_asg (by rfl) _ rfl _ rfl) hHeld ?_
   try simp only [Act.put, κa, κb, κc]
   refine wpAnyH_done (by kernel_rfl) ?_ _
   have K1 := κ k1
   have x0 := k4.c 0 _ rfl
   have x1 := k4.c 1 _ rfl
   have x2 := k4.c 2 _ rfl
   have x3 := k4.c 3 _ rfl
   have xl := k4.l
   have y0 := k3.c 0 _ rfl
   have y1 := k3.c 1 _ rfl
   have yl := k3.l
   have EQ := eq_exit s0 s1 q 0
   clear k1 k2 k3 k4 hHeld
   go_wp2
   go_ret
   exact ⟨rfl, by rw [HB.out]; first | exact K1.out | exact K1.out.drew⟩
end Go.Proofs.YtcjcmnnhmajocabGreat.Lf
