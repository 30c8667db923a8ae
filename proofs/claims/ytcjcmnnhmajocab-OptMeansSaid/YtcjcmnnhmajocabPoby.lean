/- crossgrainlaw2.OptMeans: the walk. -/
import Derived.Test.YtcjcmnnhmajocabProg
import Derived.Deep.MidRow
import Derived.WalkKit
import Derived.Test.YtcjcmnnhmajocabOmCk
import Derived.Test.YtcjcmnnhmajocabEvMk
import Derived.Test.YtcjcmnnhmajocabEvBok
import Derived.Test.YtcjcmnnhmajocabEvEqk
import Derived.Test.YtcjcmnnhmajocabPobe
import Derived.Test.YtcjcmnnhmajocabPobh
import Derived.Test.YtcjcmnnhmajocabIrPk
import Derived.Test.YtcjcmnnhmajocabIrSk
import Derived.Test.YtcjcmnnhmajocabOmFk
import Derived.Deep.RegionHeld3
namespace Go.Proofs.Ytcjcmnnhmajocab.Ic
open Go.RowKit Kt
set_option linter.unusedVariables false
set_option linter.unusedSimpArgs false
theorem eq_op (o d a b c n k : Int) : ∀ w : World, (binOp .neq 31 (.agg #[.int .i64 o, .int .i64 d, .int .i64 a, .int .i64 b, .int .i64 c, .int .u32 n, .int .i64 k])
    (.agg #[.int .i64 o, .int .i64 d, .int .i64 a, .int .i64 b, .int .i64 c, .int .u32 n, .int .i64 k])).run Try.prog w = .ok (.bool false) w := by
  intro w
  have h : ∀ w : World, (Op.eqFields 9999 #[.int .i64 o, .int .i64 d, .int .i64 a, .int .i64 b, .int .i64 c, .int .u32 n, .int .i64 k] #[.int .i64 o, .int .i64 d, .int .i64 a, .int .i64 b, .int .i64 c, .int .u32 n, .int .i64 k]
      [fldO 0, fldO 1, fldO 2, fldO 3, fldO 4, fldO 5, fldO 6]).run Try.prog w = .ok (o == o && (d == d && (a == a && (b == b && (c == c && (n == n && (k == k && true))))))) w := by
    refine eqFields_step 9998 _ _ _ _ (by decide +kernel) (k := .i64) (k' := .i64) (by kernel_rfl) (fun w => by kernel_rfl) (fun w => by kernel_rfl) ?_
    refine eqFields_step 9998 _ _ _ _ (by decide +kernel) (k := .i64) (k' := .i64) (by kernel_rfl) (fun w => by kernel_rfl) (fun w => by kernel_rfl) ?_
    refine eqFields_step 9998 _ _ _ _ (by decide +kernel) (k := .i64) (k' := .i64) (by kernel_rfl) (fun w => by kernel_rfl) (fun w => by kernel_rfl) ?_
    refine eqFields_step 9998 _ _ _ _ (by decide +kernel) (k := .i64) (k' := .i64) (by kernel_rfl) (fun w => by kernel_rfl) (fun w => by kernel_rfl) ?_
    refine eqFields_step 9998 _ _ _ _ (by decide +kernel) (k := .i64) (k' := .i64) (by kernel_rfl) (fun w => by kernel_rfl) (fun w => by kernel_rfl) ?_
    refine eqFields_step 9998 _ _ _ _ (by decide +kernel) (k := .u32) (k' := .u32) (by kernel_rfl) (fun w => by kernel_rfl) (fun w => by kernel_rfl) ?_
    refine eqFields_step 9998 _ _ _ _ (by decide +kernel) (k := .i64) (k' := .i64) (by kernel_rfl) (fun w => by kernel_rfl) (fun w => by kernel_rfl) ?_
    intro w
    simp [Op.eqFields]
  rw [← fldsO] at h
  have hs : (Op.equalIn 10000 31 (.agg #[.int .i64 o, .int .i64 d, .int .i64 a, .int .i64 b, .int .i64 c, .int .u32 n, .int .i64 k]) (.agg #[.int .i64 o, .int .i64 d, .int .i64 a, .int .i64 b, .int .i64 c, .int .u32 n, .int .i64 k])).run Try.prog w = .ok true w := by
    rw [run_equalIn_struct w 9999 31 _ _ (by kernel_rfl) (by kernel_rfl), h]
    simp
  rw [run_neq_struct, hs]
  rfl
set_option maxHeartbeats 4000000 in
theorem same_ops (os : List Opr) (ao : Option Addr) (cap : Nat) (ao1 : Option Addr) (c1 : Nat) (w : World) (h : Ops os ao cap w) (h1 : Ops os ao1 c1 w) :
    Calls Try.prog 26 #[.slice ao os.length cap, .slice ao1 os.length c1] w fun e w' => e = .returned (.bool true) ∧ Below w.heap.size w w' := by
  have hL : os.length ≤ 9223372036854775807 := by have := h.1; have h2 := h.2.1; unfold maxLen at h2; omega
  have hcap := h.1
  have hcap1 := h1.1
  have H := Lib.hid h
  have H1 := Lib.hid h1
  clear h h1
  go_enter Try.func26, Try.ntmps26
  go_wp2
  go_loopg [13] os.length (fun k i wr => ∃ j : Nat, k = os.length - j ∧ j ≤ os.length ∧ i = .int .i64 j ∧ Below w.heap.size w wr)
  case atStart => exact ⟨0, rfl, Nat.zero_le _, rfl, Below.refl _ _⟩
  case round =>
    obtain ⟨j, hk, hj, rfl, hb⟩ := hrel
    have HK := Lib.hid hk
    clear hk
    by_cases hlt : j < os.length
    · have k0 := H.out.keep hb
      have k1 := H1.out.keep hb
      obtain ⟨g, off, rfl, hg, hc⟩ := k0.2.2 (by omega)
      obtain ⟨g1, off1, rfl, hg1, hc1⟩ := k1.2.2 (by omega)
      obtain ⟨o, ho⟩ : ∃ o, os[j]? = some o := ⟨os[j], List.getElem?_eq_getElem hlt⟩
      have c0 : wr.cell? ⟨g, off + j * 7, none⟩ = some (.int .i64 o.k) := hc j o ho 0 _ rfl
      have c1 : wr.cell? ⟨g, off + j * 7 + 1, none⟩ = some (.int .i64 o.w) := hc j o ho 1 _ rfl
      have c2 : wr.cell? ⟨g, off + j * 7 + 2, none⟩ = some (.int .i64 o.a) := hc j o ho 2 _ rfl
      have c3 : wr.cell? ⟨g, off + j * 7 + 3, none⟩ = some (.int .i64 o.b) := hc j o ho 3 _ rfl
      have c4 : wr.cell? ⟨g, off + j * 7 + 4, none⟩ = some (.int .i64 o.c) := hc j o ho 4 _ rfl
      have c5 : wr.cell? ⟨g, off + j * 7 + 5, none⟩ = some (.int .u32 o.kn) := hc j o ho 5 _ rfl
      have c6 : wr.cell? ⟨g, off + j * 7 + 6, none⟩ = some (.int .i64 o.n) := hc j o ho 6 _ rfl
      have d0 : wr.cell? ⟨g1, off1 + j * 7, none⟩ = some (.int .i64 o.k) := hc1 j o ho 0 _ rfl
      have d1 : wr.cell? ⟨g1, off1 + j * 7 + 1, none⟩ = some (.int .i64 o.w) := hc1 j o ho 1 _ rfl
      have d2 : wr.cell? ⟨g1, off1 + j * 7 + 2, none⟩ = some (.int .i64 o.a) := hc1 j o ho 2 _ rfl
      have d3 : wr.cell? ⟨g1, off1 + j * 7 + 3, none⟩ = some (.int .i64 o.b) := hc1 j o ho 3 _ rfl
      have d4 : wr.cell? ⟨g1, off1 + j * 7 + 4, none⟩ = some (.int .i64 o.c) := hc1 j o ho 4 _ rfl
      have d5 : wr.cell? ⟨g1, off1 + j * 7 + 5, none⟩ = some (.int .u32 o.kn) := hc1 j o ho 5 _ rfl
      have d6 : wr.cell? ⟨g1, off1 + j * 7 + 6, none⟩ = some (.int .i64 o.n) := hc1 j o ho 6 _ rfl
      have hlt' : (j : Int) < (os.length : Int) := by omega
      have heq := eq_op o.k o.w o.a o.b o.c o.kn o.n
      clear hc hc1 ho k0 k1
      go_wp2
      go_quiet (fail)
      go_wp2
      go_roundg (os.length - (j + 1))
      case measure =>
        have := HK.out
        omega
      case rel => exact ⟨j + 1, rfl, by omega, by simp, ⟨hb.os, hb.tape, hb.output, hb.size, hb.block⟩⟩
    · obtain rfl : j = os.length := by omega
      go_wp2
      go_ret
      exact ⟨rfl, hb⟩
end Go.Proofs.Ytcjcmnnhmajocab.Ic
namespace Go.Proofs.Ytcjcmnnhmajocab.Ot
open Go.RowKit Kt Ic Me Ev
set_option linter.unusedVariables false
set_option linter.unusedSimpArgs false
set_option maxRecDepth 100000 in
set_option maxHeartbeats 4000000 in
theorem block_bad (os : List Opr) (ao : Option Addr) (cap : Nat) (pc cnt byt : Int) (w : World) (h : Ops os ao cap w) (hb : os.length * 56 ≤ 140737488355328) (hc : (chk os cnt byt).1 ≠ 0) :
    Calls Try.prog 27 #[.agg #[.int .u32 pc, .int .i64 cnt, .int .i64 byt, .slice ao os.length cap]] w fun e w' => ∃ v, e = .returned (.agg #[.int .u32 pc, .int .i64 cnt, .int .i64 byt, v]) ∧ OwnO w.heap.size v os w' ∧ Below w.heap.size w w' := by
  have CL : Hid (∀ w, Ops os ao cap w → Calls Try.prog 70 #[.slice ao os.length cap] w fun e w' => ∃ v, e = .returned v ∧ OwnO w.heap.size v os w' ∧ Below w.heap.size w w' ∧ (v = .slice none 0 0 ↔ ao = none)) := Lib.hid fun w h => clone_any os ao cap w h hb
  have CK : Hid (∀ w, Ops os ao cap w → Calls Try.prog 45 #[.agg #[.int .u32 pc, .int .i64 cnt, .int .i64 byt, .slice ao os.length cap]] w fun e w' => e = .returned (errs (chk os cnt byt)) ∧ Below w.heap.size w w') := Lib.hid fun w h => check_any os ao cap pc cnt byt w h
  unfold errs at CK
  generalize chk os cnt byt = ck at CK hc
  have hne : (ck.1 == 0) = false := by simpa using hc
  have HO := Lib.hid h
  clear h hb
  go_enter Try.func27, Try.ntmps27
  go_upto_region 2 with fail
  have Q1 : Hid (QB w.heap.size pc cnt byt (.slice ao os.length cap) (((w.alloc (.cells #[.int .u32 pc, .int .i64 cnt, .int .i64 byt, .slice ao os.length cap] 25)).alloc (.cells #[.int .u32 0, .int .i64 0, .int .i64 0, .slice none 0 0] 25)).alloc (.cells #[.int .u32 pc, .int .i64 cnt, .int .i64 byt, .slice ao os.length cap] 25))) := Lib.hid ((QB.new w pc cnt byt _ 25).upto (((Upto.refl (fun _ => False) _).alloc _).alloc _) id)
  have Q2 : Hid (QB (w.heap.size + 1) 0 0 0 (.slice none 0 0) (((w.alloc (.cells #[.int .u32 pc, .int .i64 cnt, .int .i64 byt, .slice ao os.length cap] 25)).alloc (.cells #[.int .u32 0, .int .i64 0, .int .i64 0, .slice none 0 0] 25)).alloc (.cells #[.int .u32 pc, .int .i64 cnt, .int .i64 byt, .slice ao os.length cap] 25))) := Lib.hid (by
    have h := (QB.new (w.alloc (.cells #[.int .u32 pc, .int .i64 cnt, .int .i64 byt, .slice ao os.length cap] 25)) 0 0 0 (.slice none 0 0) 25).upto ((Upto.refl (fun _ => False) _).alloc (.cells #[.int .u32 pc, .int .i64 cnt, .int .i64 byt, .slice ao os.length cap] 25)) id
    rw [World.size_alloc] at h; exact h)
  have Q3 : Hid (QB (w.heap.size + 1 + 1) pc cnt byt (.slice ao os.length cap) (((w.alloc (.cells #[.int .u32 pc, .int .i64 cnt, .int .i64 byt, .slice ao os.length cap] 25)).alloc (.cells #[.int .u32 0, .int .i64 0, .int .i64 0, .slice none 0 0] 25)).alloc (.cells #[.int .u32 pc, .int .i64 cnt, .int .i64 byt, .slice ao os.length cap] 25))) := Lib.hid (by
    have h := QB.new ((w.alloc (.cells #[.int .u32 pc, .int .i64 cnt, .int .i64 byt, .slice ao os.length cap] 25)).alloc (.cells #[.int .u32 0, .int .i64 0, .int .i64 0, .slice none 0 0] 25)) pc cnt byt (.slice ao os.length cap) 25
    rw [World.size_alloc, World.size_alloc] at h; exact h)
  have B1 : Hid (Below w.heap.size w (((w.alloc (.cells #[.int .u32 pc, .int .i64 cnt, .int .i64 byt, .slice ao os.length cap] 25)).alloc (.cells #[.int .u32 0, .int .i64 0, .int .i64 0, .slice none 0 0] 25)).alloc (.cells #[.int .u32 pc, .int .i64 cnt, .int .i64 byt, .slice ao os.length cap] 25))) := Lib.hid ((((Below.refl _ w).alloc (Nat.le_refl _) _).alloc (by rw [World.size_alloc]; omega) _).alloc (by rw [World.size_alloc, World.size_alloc]; omega) _)
  have S1 : w.heap.size + 1 + 1 + 1 = ((((w.alloc (.cells #[.int .u32 pc, .int .i64 cnt, .int .i64 byt, .slice ao os.length cap] 25)).alloc (.cells #[.int .u32 0, .int .i64 0, .int .i64 0, .slice none 0 0] 25)).alloc (.cells #[.int .u32 pc, .int .i64 cnt, .int .i64 byt, .slice ao os.length cap] 25))).heap.size := by simp
  generalize (((w.alloc (.cells #[.int .u32 pc, .int .i64 cnt, .int .i64 byt, .slice ao os.length cap] 25)).alloc (.cells #[.int .u32 0, .int .i64 0, .int .i64 0, .slice none 0 0] 25)).alloc (.cells #[.int .u32 pc, .int .i64 cnt, .int .i64 byt, .slice ao os.length cap] 25)) = w1 at *
  obtain ⟨B, hB⟩ : ∃ B, w.heap.size = B := ⟨_, rfl⟩
  have HB := Lib.hid hB
  rw [hB] at Q1 Q2 Q3 B1 S1 ⊢
  clear hB
  obtain ⟨l1, a1, a2, a3, a4, a5⟩ := Q1.out
  obtain ⟨l2, r1, r2, r3, r4, r5⟩ := Q2.out
  obtain ⟨l3, o1, o2, o3, o4, o5⟩ := Q3.out
  go_upto_region 3 with (go_at_call 70; refine (CL.out _ (HO.out.keep (by rw [HB.out]; exact B1.out))).mono ?_; rintro e w2 ⟨v, rfl, ow, b2, _⟩; have M1 := Lib.hid (Q1.out.upto (Upto.of_below (S := fun _ => False) b2) id); have M2 := Lib.hid (Q2.out.upto (Upto.of_below (S := fun _ => False) b2) id); have M3 := Lib.hid (Q3.out.upto (Upto.of_below (S := fun _ => False) b2) id); obtain ⟨m1, c1, c2, c3, c4, c5⟩ := M1.out; obtain ⟨m2, d1, d2, d3, d4, d5⟩ := M2.out; obtain ⟨m3, e1, e2, e3, e4, e5⟩ := M3.out; have e6 := e5 3; obtain ⟨av, cv, hv, opv, _⟩ := ow.form; have OW := Lib.hid ow; clear ow; subst hv)
  have B2 : Hid (Below B w (w2.setCell ⟨B + 1 + 1, 3, none⟩ (.slice av os.length cv))) := Lib.hid ((B1.out.trans (b2.mono (by omega))).setCell (p := ⟨B + 1 + 1, 3, none⟩) (by show B ≤ B + 1 + 1; omega) _)
  have U2 : Upto (fun i => i = B + 1 + 1) w2 (w2.setCell ⟨B + 1 + 1, 3, none⟩ (.slice av os.length cv)) := (Upto.refl (fun i => i = B + 1 + 1) w2).setCell (q := ⟨B + 1 + 1, 3, none⟩) (.inl rfl) _
  have N1 := Lib.hid (M1.out.upto U2 (by show ¬ B = B + 1 + 1; omega))
  have N2 := Lib.hid (M2.out.upto U2 (by show ¬ B + 1 = B + 1 + 1; omega))
  have N3 := Lib.hid (M3.out.set3 (v' := .slice av os.length cv))
  have OW2 := Lib.hid (OW.out.upto U2 fun k hk e => by have := (OW.out.blk k hk).1; omega)
  have SS := U2.size
  have S2 : B + 1 + 1 + 1 ≤ w2.heap.size := by have := b2.size; omega
  clear M1 M2 M3 c1 c2 c3 c4 c5 d1 d2 d3 d4 d5 e1 e2 e3 e4 e5 e6 m1 m2 m3 OW U2
  generalize w2.setCell ⟨B + 1 + 1, 3, none⟩ (.slice av os.length cv) = w3 at *
  obtain ⟨m1, c1, c2, c3, c4, c5⟩ := N1.out
  obtain ⟨m2, d1, d2, d3, d4, d5⟩ := N2.out
  obtain ⟨m3, e1, e2, e3, e4, e5⟩ := N3.out
  go_wp2_with (go_at_call 45; refine (CK.out _ (HO.out.keep (by rw [HB.out]; exact B2.out))).mono ?_; rintro e w4 ⟨rfl, b4⟩; have M1 := Lib.hid (N1.out.upto (Upto.of_below (S := fun _ => False) b4) id); have M2 := Lib.hid (N2.out.upto (Upto.of_below (S := fun _ => False) b4) id); have M3 := Lib.hid (N3.out.upto (Upto.of_below (S := fun _ => False) b4) id); obtain ⟨x1, f1, f2, f3, f4, f5⟩ := M2.out; obtain ⟨x2, g1, g2, g3, g4, g5⟩ := M3.out)
  have R4 := M2.out.set4 pc cnt byt (.slice av os.length cv)
  have U4 : Upto (fun i => i = B + 1) w4 ((((w4.setCell ⟨B + 1, 0, none⟩ (.int .u32 pc)).setCell ⟨B + 1, 1, none⟩ (.int .i64 cnt)).setCell ⟨B + 1, 2, none⟩ (.int .i64 byt)).setCell ⟨B + 1, 3, none⟩ (.slice av os.length cv)) := set4_upto (S := fun i => i = B + 1) rfl _ _ _ _
  generalize (((w4.setCell ⟨B + 1, 0, none⟩ (.int .u32 pc)).setCell ⟨B + 1, 1, none⟩ (.int .i64 cnt)).setCell ⟨B + 1, 2, none⟩ (.int .i64 byt)).setCell ⟨B + 1, 3, none⟩ (.slice av os.length cv) = w5 at *
  obtain ⟨y1, z0, z1, z2, z3, z4⟩ := R4
  have OW3 := OW2.out.upto (Upto.of_below (S := fun _ => False) b4) fun _ _ => id
  have s1 : w1.heap.size ≤ w4.heap.size := Nat.le_trans (Nat.le_trans b2.size SS) b4.size
  refine bodyPost_ret (v := .agg #[.int .u32 pc, .int .i64 cnt, .int .i64 byt, .slice av os.length cv]) (by simp [results, Try.results27, go_sem, z0, z1, z2, z3]) rfl ⟨_, rfl, ?_, ?_⟩
  · rw [HB.out]
    exact (OW3.upto U4 fun k hk e => by have := (OW3.blk k hk).1; omega).low (by omega)
  · rw [HB.out]
    exact B2.out.trans ((b4.mono (by omega)).trans (U4.below (by omega) fun i hi e => by omega))
end Go.Proofs.Ytcjcmnnhmajocab.Ot
namespace Go.Proofs.Ytcjcmnnhmajocab.Kt
open Go.RowKit
set_option linter.unusedVariables false
set_option linter.unusedSimpArgs false
variable {P : Program} {ops : Array Oper} {S : World → Prop} {op : Oper} {a : Act}
theorem yl_mov (hw : Region.wanted op (yielded ops a.tmps) = true) (x : Operand) (ho : op.op = .move x) (v : Value) (hx : a.eval x = v) : YieldsIf P ops S op v a :=
  .inl ⟨hw, fun w _ => by unfold execOp; simp only [ho, hx]; rfl⟩
theorem yl_asg (hw : Region.wanted op (yielded ops a.tmps) = true) (x : Operand) (ho : op.op = .assign x) (v : Value) (hx : a.eval x = v) : YieldsIf P ops S op v a :=
  .inl ⟨hw, fun w _ => by unfold execOp; simp only [ho, hx]; rfl⟩
theorem yl_pick (hw : Region.wanted op (yielded ops a.tmps) = true) (c x y : Operand) (ho : op.op = .pick c x y) (v : Value) (hc : a.eval c = .bool true) (hx : a.eval x = v) : YieldsIf P ops S op v a :=
  .inl ⟨hw, fun w _ => by unfold execOp; simp only [ho, hx, hc]; rfl⟩
theorem yl_fld (hw : Region.wanted op (yielded ops a.tmps) = true) (t : TypeId) (x : Operand) (k : Nat) (ho : op.op = .fieldAddr t x k) (u v : Value) (hx : a.eval x = u) (hf : ∀ w : World, (Instr.fieldAt t u k).run P w = .ok v w) : YieldsIf P ops S op v a :=
  .inl ⟨hw, fun w _ => by unfold execOp; simp only [ho, hx, Sem.run_bind, hf w, Result.andThen_ok]; rfl⟩
theorem yl_bin (hw : Region.wanted op (yielded ops a.tmps) = true) (b : BinOp) (t : TypeId) (x y : Operand) (t2 : TypeId) (ho : op.op = .binOp b t x y t2) (u v r : Value) (hx : a.eval x = u) (hy : a.eval y = v)
    (hr : ∀ w : World, (do eqGuard b t x y u v; binOp b t u v : Sem Value).run P w = .ok r w) : YieldsIf P ops S op r a :=
  .inl ⟨hw, fun w _ => by
    unfold execOp
    simp only [ho, hx, hy]
    rw [Sem.run_bind, hr w, Result.andThen_ok]; rfl⟩
theorem yl_ld (hw : Region.wanted op (yielded ops a.tmps) = true) (t : TypeId) (x : Operand) (ho : op.op = .load t x) (u v : Value) (hx : a.eval x = u) (hl : ∀ w, S w → (Instr.loadAt t u).run P w = .ok v w) : YieldsIf P ops S op v a :=
  .inl ⟨hw, fun w h => by unfold execOp; simp only [ho, hx, Sem.run_bind, hl w h, Result.andThen_ok]; rfl⟩
end Go.Proofs.Ytcjcmnnhmajocab.Kt
namespace Go.Proofs.Ytcjcmnnhmajocab.Ot
open Go.RowKit Kt Ic Me Ev Fl
set_option linter.unusedVariables false
set_option linter.unusedSimpArgs false
theorem okr_of' {o : Opr} (h : OprOk o) : OkR o := ⟨Kt.bd_i64 h.k, Kt.bd_i64 h.w, Kt.bd_i64 h.a, Kt.bd_i64 h.b, Kt.bd_i64 h.c, Kt.bd_u32 h.kn, Kt.bd_i64 h.n⟩
theorem ops_up {os : List Opr} {ao : Option Addr} {cap : Nat} {S : Nat → Prop} {w w' : World} (h : Ops os ao cap w) (u : Upto S w w') (hs : ∀ g, ao = some g → 0 < os.length → ¬ S g.block) : Ops os ao cap w' := by
  obtain ⟨h1, h2, h3⟩ := h
  refine ⟨h1, h2, fun hp => ?_⟩
  obtain ⟨g, off, e, hg, hc⟩ := h3 hp
  refine ⟨g, off, e, Nat.lt_of_lt_of_le hg u.size, fun i o ho j v hv => ?_⟩
  exact (u.cell (q := ⟨g, off + i * 7 + j, none⟩) hg (show ¬ S g from hs ⟨g, off, none⟩ e hp)).trans (hc i o ho j v hv)
/-- opt.Block, of whatever block -/
theorem block_any (os : List Opr) (ao : Option Addr) (cap : Nat) (pc cnt byt : Int) (w : World) (h : Ops os ao cap w) (hr : ∀ o ∈ os, OkR o) (hb : os.length * 56 ≤ 140737488351232) :
    Calls Try.prog 27 #[.agg #[.int .u32 pc, .int .i64 cnt, .int .i64 byt, .slice ao os.length cap]] w fun e w' => ∃ l v, e = .returned (.agg #[.int .u32 pc, .int .i64 cnt, .int .i64 byt, v]) ∧ OwnO w.heap.size v l w' ∧ Below w.heap.size w w' ∧ l.length ≤ os.length ∧ ((chk os cnt byt).1 ≠ 0 → l = os) ∧ ((chk os cnt byt).1 = 0 → (chk l cnt byt).1 = 0 ∧ (∀ s0, EOk s0 → Lk s0 os l) ∧ Good cnt os ∧ Good cnt l) := by
  by_cases hc : (chk os cnt byt).1 = 0
  · obtain ⟨g, hby⟩ := (chk_good (cnt := cnt) (byt := byt) hr).1 hc
    refine (block_ok (Good cnt) (good_ok cnt) os ao cap pc cnt byt w h (by omega) hc g).mono ?_
    rintro e w' ⟨l, v, rfl, ow, b, gl, fx, r, rfl⟩
    refine ⟨_, v, rfl, ow, b, opN_len r g, fun h => absurd hc h, fun _ => ⟨(chk_good (cnt := cnt) (byt := byt) (fun o ho => ?_)).2 ⟨gl, hby⟩, fun s0 h0 => (opN_sim g h0 r).2, g, gl⟩⟩
    obtain ⟨m, hm, rfl⟩ := mem_opAt ho
    exact (gl.a.l m hm).r
  · refine (block_bad os ao cap pc cnt byt w h (by omega) hc).mono ?_
    rintro e w' ⟨v, rfl, ow, b⟩
    exact ⟨os, v, rfl, ow, b, Nat.le_refl _, fun _ => rfl, fun h => absurd h hc⟩
theorem eval_both {os l : List Opr} {cnt byt : Int} {s0 : Evs} (h1 : (chk os cnt byt).1 = 0) (h2 : (chk l cnt byt).1 = 0) (lk : Lk s0 os l) (h0 : EOk s0) (g : Good cnt os) :
    ∃ M5 c5 v5 v6 ek ex ep en, evalO os cnt byt s0 = (⟨M5, c5, v5⟩, ⟨ek, ex, ep, en⟩, 0) ∧ evalO l cnt byt s0 = (⟨M5, c5, v6⟩, ⟨ek, ex, ep, en⟩, 0) ∧ COk c5 := by
  obtain ⟨e1, e2, e3⟩ := evN_alike lk
  have hk := run_ok h0 (os := os) (fun j hj => (g.a.l j hj).r.kn) os.length (Nat.le_refl _)
  have hn := (evN_run (os := os) (s0 := s0) os.length 0 (by omega) s0 rfl).1
  rw [Nat.sub_zero] at hn
  rw [← hn] at hk
  unfold evalO
  rw [if_pos h1, if_pos h2]
  generalize evN os os.length s0 = a at *
  generalize evN l l.length s0 = b at *
  obtain ⟨⟨aM, ac, av⟩, ⟨ak, ax, ap, an⟩, az⟩ := a
  obtain ⟨⟨bM, bc, bv⟩, ⟨bk, bx, bp, bn⟩, bz⟩ := b
  dsimp only at e1 e2 e3
  subst e1 e2
  cases e3
  exact ⟨_, _, _, _, _, _, _, _, rfl, rfl, hk.c⟩
theorem chB {B : Nat} {w a b : World} (hB : w.heap.size = B) (h : Below B w a) (k : Below a.heap.size a b) : Below B w b := h.trans (k.mono (by have := h.size; omega))
theorem _root_.Go.Proofs.Ytcjcmnnhmajocab.Ev.CB.rng {h : Nat} {c : Nat → Int} {W : World} (a : CB h c W) : W.rangeAt h 0 [.int .u32 (c 0), .int .u32 (c 1), .int .u32 (c 2), .int .u32 (c 3), .int .u32 (c 4), .int .u32 (c 5), .int .u32 (c 6), .int .u32 (c 7), .int .u32 (c 8), .int .u32 (c 9), .int .u32 (c 10), .int .u32 (c 11)] := fun i v hi => by
  rw [Nat.zero_add]
  match i, hi with
  | 0, hi => (obtain rfl : Value.int .u32 (c 0) = v := by simpa using hi); exact a.r 0 (by decide)
  | 1, hi => (obtain rfl : Value.int .u32 (c 1) = v := by simpa using hi); exact a.r 1 (by decide)
  | 2, hi => (obtain rfl : Value.int .u32 (c 2) = v := by simpa using hi); exact a.r 2 (by decide)
  | 3, hi => (obtain rfl : Value.int .u32 (c 3) = v := by simpa using hi); exact a.r 3 (by decide)
  | 4, hi => (obtain rfl : Value.int .u32 (c 4) = v := by simpa using hi); exact a.r 4 (by decide)
  | 5, hi => (obtain rfl : Value.int .u32 (c 5) = v := by simpa using hi); exact a.r 5 (by decide)
  | 6, hi => (obtain rfl : Value.int .u32 (c 6) = v := by simpa using hi); exact a.r 6 (by decide)
  | 7, hi => (obtain rfl : Value.int .u32 (c 7) = v := by simpa using hi); exact a.r 7 (by decide)
  | 8, hi => (obtain rfl : Value.int .u32 (c 8) = v := by simpa using hi); exact a.r 8 (by decide)
  | 9, hi => (obtain rfl : Value.int .u32 (c 9) = v := by simpa using hi); exact a.r 9 (by decide)
  | 10, hi => (obtain rfl : Value.int .u32 (c 10) = v := by simpa using hi); exact a.r 10 (by decide)
  | 11, hi => (obtain rfl : Value.int .u32 (c 11) = v := by simpa using hi); exact a.r 11 (by decide)
  | n + 12, hi => simp at hi
theorem _root_.Go.Proofs.Ytcjcmnnhmajocab.Ev.XB4.rng {h : Nat} {ek ex ep en : Int} {W : World} (a : XB4 h ek ex ep en W) : W.rangeAt h 0 [.int .i64 ek, .int .u32 ex, .int .u32 ep, .int .i64 en] := fun i v hi => by
  rw [Nat.zero_add]
  match i, hi with
  | 0, hi => (obtain rfl : Value.int .i64 ek = v := by simpa using hi); exact a.c0
  | 1, hi => (obtain rfl : Value.int .u32 ex = v := by simpa using hi); exact a.c1
  | 2, hi => (obtain rfl : Value.int .u32 ep = v := by simpa using hi); exact a.c2
  | 3, hi => (obtain rfl : Value.int .i64 en = v := by simpa using hi); exact a.c3
  | n + 4, hi => simp at hi
/-- what is compared at the end -/
structure Fin (bd bx bf bz : Nat) (c : Nat → Int) (ek ex ep en : Int) (P Q : RP) (M : MM) (W : World) : Prop where
  d : CB bd c W
  x : XB4 bx ek ex ep en W
  f : CB bf c W
  z : XB4 bz ek ex ep en W
  p : RM P M W
  q : RM Q M W
theorem Fin.keep {bd bx bf bz : Nat} {c : Nat → Int} {ek ex ep en : Int} {P Q : RP} {M : MM} {W W' : World} (a : Fin bd bx bf bz c ek ex ep en P Q M W) (b : Below W.heap.size W W') : Fin bd bx bf bz c ek ex ep en P Q M W' :=
  have u := Upto.of_below (S := fun _ => False) b
  ⟨a.d.upto u id, a.x.upto u id, a.f.upto u id, a.z.upto u id, a.p.upto u (fun _ _ => id), a.q.upto u (fun _ _ => id)⟩
theorem Fin.drew {bd bx bf bz : Nat} {c : Nat → Int} {ek ex ep en : Int} {P Q : RP} {M : MM} {W : World} (a : Fin bd bx bf bz c ek ex ep en P Q M W) : Fin bd bx bf bz c ek ex ep en P Q M W.drew :=
  have u := (Upto.refl (fun _ => False) W).drew
  ⟨a.d.upto u id, a.x.upto u id, a.f.upto u id, a.z.upto u id, a.p.upto u (fun _ _ => id), a.q.upto u (fun _ _ => id)⟩
set_option maxRecDepth 100000 in
set_option maxHeartbeats 40000000 in
theorem optmeans_walk (os : List Opr) (ao : Option Addr) (cap : Nat) (pc cnt byt : Int) (cx : Nat → Int) (ps : List Prt) (pao : Option Addr) (pcap : Nat) (ks : List Int) (kao : Option Addr) (kcap : Nat)
    (w : World) (hops : Ops os ao cap w) (hreach : os.length * 56 ≤ 140737488351232) (hr : ∀ o ∈ os, OkR o) (hC : COk cx) (hps : Prts ps pao pcap w) (hks : Nums ks kao kcap w) :
    Calls Try.prog 10 #[.agg #[.int .u32 pc, .int .i64 cnt, .int .i64 byt, .slice ao os.length cap], .agg #[.int .u32 (cx 0), .int .u32 (cx 1), .int .u32 (cx 2), .int .u32 (cx 3), .int .u32 (cx 4), .int .u32 (cx 5), .int .u32 (cx 6), .int .u32 (cx 7), .int .u32 (cx 8), .int .u32 (cx 9), .int .u32 (cx 10), .int .u32 (cx 11)], .slice pao ps.length pcap, .slice kao ks.length kcap] w fun e w' => e = .returned (.bool true) ∧ Below w.heap.size w w' := by
  have u0 := ((Upto.refl (fun _ => False) w).alloc (.cells #[.int .u32 pc, .int .i64 cnt, .int .i64 byt, .slice ao os.length cap] 25)).alloc (.cells #[.int .u32 (cx 0), .int .u32 (cx 1), .int .u32 (cx 2), .int .u32 (cx 3), .int .u32 (cx 4), .int .u32 (cx 5), .int .u32 (cx 6), .int .u32 (cx 7), .int .u32 (cx 8), .int .u32 (cx 9), .int .u32 (cx 10), .int .u32 (cx 11)] 37)
  have bw := u0.below (Nat.le_refl _) (fun _ _ => id)
  have BO := Lib.hid (both_any ps pao pcap ks kao kcap _ (hps.keep bw) (by
    refine ⟨hks.1, hks.2.1, fun h0 => ?_⟩
    obtain ⟨b, off, e, hb, hc⟩ := hks.2.2 h0
    exact ⟨b, off, e, Nat.lt_of_lt_of_le hb bw.size, fun j hj => (bw.cell (p := ⟨b, off + j, none⟩) hb).trans (hc j hj)⟩))
  have QX := Lib.hid ((QB.new w pc cnt byt (.slice ao os.length cap) 25).upto ((Upto.refl (fun _ => False) _).alloc (.cells #[.int .u32 (cx 0), .int .u32 (cx 1), .int .u32 (cx 2), .int .u32 (cx 3), .int .u32 (cx 4), .int .u32 (cx 5), .int .u32 (cx 6), .int .u32 (cx 7), .int .u32 (cx 8), .int .u32 (cx 9), .int .u32 (cx 10), .int .u32 (cx 11)] 37)) id)
  have cy := CB.new (w.alloc (.cells #[.int .u32 pc, .int .i64 cnt, .int .i64 byt, .slice ao os.length cap] 25)) cx 37
  rw [show (w.alloc (.cells #[.int .u32 pc, .int .i64 cnt, .int .i64 byt, .slice ao os.length cap] 25)).heap.size = w.heap.size + 1 by simp] at cy
  unfold ctL at cy
  have CY := Lib.hid cy
  have OA := Lib.hid (hops.keep bw)
  have HR := Lib.hid hr
  have RE := Lib.hid hreach
  have HC0 := Lib.hid hC
  have BW := Lib.hid bw
  clear hops hr hreach hC hps hks u0 bw cy
  generalize markd (layd ps) ks = M at BO
  generalize ps.length = pl at BO ⊢
  generalize ks.length = kl at BO ⊢
  go_enter Try.func10, Try.ntmps10
  go_upto_region 1 with fail
  generalize hWA : (w.alloc (.cells #[.int .u32 pc, .int .i64 cnt, .int .i64 byt, .slice ao os.length cap] 25)).alloc (.cells #[.int .u32 (cx 0), .int .u32 (cx 1), .int .u32 (cx 2), .int .u32 (cx 3), .int .u32 (cx 4), .int .u32 (cx 5), .int .u32 (cx 6), .int .u32 (cx 7), .int .u32 (cx 8), .int .u32 (cx 9), .int .u32 (cx 10), .int .u32 (cx 11)] 37) = WA at BO BW QX CY OA ⊢
  have hA : w.heap.size + 2 = WA.heap.size := by rw [← hWA]; simp
  clear hWA
  go_wp2_with fail
  refine BO.out.mono ?_
  rintro e w1 ⟨p, P, rfl, hP, hb, hGA⟩
  have u1 := Upto.of_below (S := fun _ => False) hb
  have QX := Lib.hid (QX.out.upto u1 id)
  have CY := Lib.hid (CY.out.upto u1 id)
  have OA := Lib.hid (OA.out.keep hb)
  have RMP := Lib.hid hP.rm
  have MOK := Lib.hid hP.ok
  have GA := Lib.hid (show ∀ k, P.has k → w.heap.size + 2 ≤ k ∧ k < w1.heap.size from fun k hk => ⟨Nat.le_trans (Nat.le_of_eq hA) (hGA k (.inr hk)), Ev.rm_lt RMP.out hk⟩)
  have BW := Lib.hid (BW.out.trans (hb.mono (by omega)))
  have h01 : w.heap.size + 2 ≤ w1.heap.size := by have := hb.size; omega
  obtain ⟨B, hB⟩ : ∃ B, w.heap.size = B := ⟨_, rfl⟩
  rw [hB] at QX CY GA BW h01 ⊢
  have HB := Lib.hid hB
  clear hP hb hGA u1 BO hA hB
  obtain ⟨a0, a1, a2, a3, a4, a5⟩ := QX.out
  go_wp2_with fail
  refine (twin_own os ao cap pc cnt byt w1 OA.out RE.out).mono ?_
  rintro e w2 ⟨ao1, c1, rfl, hf1, hO1, b2⟩
  have u2 := Upto.of_below (S := fun _ => False) b2
  have QX := Lib.hid (QX.out.upto u2 id)
  have CY := Lib.hid (CY.out.upto u2 id)
  have OA := Lib.hid (OA.out.keep b2)
  have OB1 := Lib.hid hO1
  have RMP := Lib.hid (RMP.out.upto u2 (fun _ _ => id))
  have BW := Lib.hid (BW.out.trans (b2.mono (by omega)))
  have F1 := Lib.hid hf1
  have h12 : w1.heap.size ≤ w2.heap.size := b2.size
  clear a0 a1 a2 a3 a4 a5 b2 u2 hf1 hO1
  go_upto_region 5 with fail
  have un := (Upto.refl (fun _ => False) w2).alloc (.cells #[.int .u32 pc, .int .i64 cnt, .int .i64 byt, .slice ao1 os.length c1] 25)
  have QO := Lib.hid (QB.new w2 pc cnt byt (.slice ao1 os.length c1) 25)
  have QX := Lib.hid (QX.out.upto un id)
  have CY := Lib.hid (CY.out.upto un id)
  have bn := un.below (Nat.le_refl _) (fun _ _ => id)
  have OA := Lib.hid (OA.out.keep bn)
  have OB1 := Lib.hid (OB1.out.keep bn)
  have RMP := Lib.hid (RMP.out.upto un (fun _ _ => id))
  have BW := Lib.hid (BW.out.trans (bn.mono (by omega)))
  have h23 : w2.heap.size + 1 = (w2.alloc (.cells #[.int .u32 pc, .int .i64 cnt, .int .i64 byt, .slice ao1 os.length c1] 25)).heap.size := by simp
  generalize w2.alloc (.cells #[.int .u32 pc, .int .i64 cnt, .int .i64 byt, .slice ao1 os.length c1] 25) = w3 at QO QX CY OA OB1 RMP BW h23 ⊢
  obtain ⟨bo, hbo⟩ : ∃ bo, w2.heap.size = bo := ⟨_, rfl⟩
  rw [hbo] at QO h12 h23 ⊢
  clear un bn hbo
  obtain ⟨a0, a1, a2, a3, a4, a5⟩ := QX.out
  go_wp2_with fail
  refine (block_any os ao cap pc cnt byt w3 OA.out HR.out RE.out).mono ?_
  rintro e w4 ⟨l, v, rfl, ow, b4, hll, hbad, hgood⟩
  obtain ⟨av, cv, rfl, opv, hblk⟩ := ow.form
  have u4 := Upto.of_below (S := fun _ => False) b4
  have QX := Lib.hid (QX.out.upto u4 id)
  have QO := Lib.hid (QO.out.upto u4 id)
  have CY := Lib.hid (CY.out.upto u4 id)
  have OA := Lib.hid (OA.out.keep b4)
  have OB1 := Lib.hid (OB1.out.keep b4)
  have OL := Lib.hid opv
  have RMP := Lib.hid (RMP.out.upto u4 (fun _ _ => id))
  have BW := Lib.hid (BW.out.trans (b4.mono (by omega)))
  have F2 := Lib.hid (show ∀ g, av = some g → 0 < l.length → w3.heap.size ≤ g.block from fun g hg h0 => by
    obtain ⟨b, e, _, h1, _⟩ := hblk h0
    rw [hg] at e
    cases e
    exact h1)
  have HBAD := Lib.hid hbad
  have HGOOD := Lib.hid hgood
  have h34 : w3.heap.size ≤ w4.heap.size := b4.size
  clear a0 a1 a2 a3 a4 a5 b4 u4 ow opv hblk hbad hgood
  go_upto_region 6 with fail
  have un := (Upto.refl (fun _ => False) w4).alloc (.cells #[.int .u32 pc, .int .i64 cnt, .int .i64 byt, .slice av l.length cv] 25)
  have QL := Lib.hid (QB.new w4 pc cnt byt (.slice av l.length cv) 25)
  have QX := Lib.hid (QX.out.upto un id)
  have QO := Lib.hid (QO.out.upto un id)
  have CY := Lib.hid (CY.out.upto un id)
  have bn := un.below (Nat.le_refl _) (fun _ _ => id)
  have OA := Lib.hid (OA.out.keep bn)
  have OB1 := Lib.hid (OB1.out.keep bn)
  have OL := Lib.hid (OL.out.keep bn)
  have RMP := Lib.hid (RMP.out.upto un (fun _ _ => id))
  have BW := Lib.hid (BW.out.trans (bn.mono (by omega)))
  have h45 : w4.heap.size + 1 = (w4.alloc (.cells #[.int .u32 pc, .int .i64 cnt, .int .i64 byt, .slice av l.length cv] 25)).heap.size := by simp
  generalize w4.alloc (.cells #[.int .u32 pc, .int .i64 cnt, .int .i64 byt, .slice av l.length cv] 25) = w5 at QL QO QX CY OA OB1 OL RMP BW h45 ⊢
  obtain ⟨bl, hbl⟩ : ∃ bl, w4.heap.size = bl := ⟨_, rfl⟩
  rw [hbl] at QL h34 h45 ⊢
  clear un bn hbl
  obtain ⟨a0, a1, a2, a3, a4, a5⟩ := QX.out
  obtain ⟨p0, p1, p2, p3, p4, p5⟩ := QO.out
  obtain ⟨q0, q1, q2, q3, q4, q5⟩ := QL.out
  have hlen : decide ((os.length : Int) < (l.length : Int)) = false := decide_eq_false (by omega)
  have n1 : (pc != pc) = false := by simp
  have n2 : (cnt != cnt) = false := by simp
  have n3 : (byt != byt) = false := by simp
  have SO := Lib.hid (same_ops os ao cap ao1 c1 w5 OA.out OB1.out)
  go_upto_region 8 with (go_at_call 26; refine SO.out.mono ?_; rintro e w6 ⟨rfl, b6⟩; have u6 := Upto.of_below (S := fun _ => False) b6; have QO6 := Lib.hid (QO.out.upto u6 id); have QL6 := Lib.hid (QL.out.upto u6 id); have CY6 := Lib.hid (CY.out.upto u6 id); have OB6 := Lib.hid (OB1.out.keep b6); have OL6 := Lib.hid (OL.out.keep b6); have RMP6 := Lib.hid (RMP.out.upto u6 (fun _ _ => id)); have BW6 := Lib.hid (BW.out.trans (b6.mono (by omega))); have h56 := b6.size; obtain ⟨r0, r1, r2, r3, r4, r5⟩ := QO6.out; obtain ⟨t0, t1, t2, t3, t4, t5⟩ := QL6.out; clear b6 u6)
  clear a0 a1 a2 a3 a4 a5 p0 p1 p2 p3 p4 p5 q0 q1 q2 q3 q4 q5 n1 n2 n3 hlen SO QX QO QL CY OA OB1 OL RMP BW
  obtain ⟨⟨er, z⟩, hc⟩ : ∃ p, chk os cnt byt = p := ⟨_, rfl⟩
  have CK := Lib.hid (fun w h => rcheck_any os ao1 c1 pc cnt byt w h)
  rw [hc] at CK HBAD HGOOD
  unfold errs at CK
  dsimp only at CK HBAD HGOOD
  by_cases he : er = 0
  case neg =>
    have hne : (er == 0) = false := by simpa using he
    have hlo := HBAD.out he
    clear he HBAD HGOOD HR RE HC0 MOK GA F1 F2 RMP6 CY6
    subst hlo
    have SO := Lib.hid (fun W h1 h2 => same_ops l av cv ao1 c1 W h1 h2)
    go_wp2_with (first
      | (go_at_call 12; refine (CK.out _ OB6.out).mono ?_; rintro e w7 ⟨rfl, b7⟩; have u7 := Upto.of_below (S := fun _ => False) b7; have OB7 := Lib.hid (OB6.out.keep b7); have OL7 := Lib.hid (OL6.out.keep b7); have QO7 := QO6.out.upto u7 id; have QL7 := QL6.out.upto u7 id; have BW7 := Lib.hid (BW6.out.trans (b7.mono (by omega))); have h67 := b7.size; obtain ⟨v0, v1, v2, v3, v4, v5⟩ := QO7; obtain ⟨x0, x1, x2, x3, x4, x5⟩ := QL7; clear b7 u7)
      | (go_at_call 26; refine (SO.out _ OL7.out OB7.out).mono ?_; rintro e w8 ⟨rfl, b8⟩; have BW8 := Lib.hid (BW7.out.trans (b8.mono (by omega))); clear b8))
    go_ret
    exact ⟨rfl, by rw [HB.out]; exact BW8.out⟩
  subst he
  obtain ⟨hl0, hlk, hg, hgl⟩ := HGOOD.out rfl
  obtain ⟨⟨er2, z2⟩, hc2⟩ : ∃ p, chk l cnt byt = p := ⟨_, rfl⟩
  have CKL := Lib.hid (fun w h => rcheck_any l av cv pc cnt byt w h)
  rw [hc2] at CKL hl0
  dsimp only at hl0
  subst hl0
  unfold errs at CKL
  dsimp only at CKL
  have E0 : EOk ⟨M, cx, fun _ => 0⟩ := ⟨MOK.out, HC0.out, fun _ => ⟨Int.le_refl 0, (by decide : (0 : Int) < 4294967296)⟩⟩
  obtain ⟨M5, c5, v5, v6, ek, ex, ep, en, ev1, ev2, hc5⟩ := eval_both (byt := byt) (by rw [hc]) (by rw [hc2]) (hlk _ E0) E0 hg
  have CE1 := fun W h1 h2 => reval_any os ao1 c1 pc cnt byt cx M P (fun w h => rcheck_any os ao1 c1 pc cnt byt w h) W h1 h2 MOK.out HC0.out (fun o ho => (HR.out o ho).kn) (fun g hg h0 hh => by have := F1.out g hg; have := GA.out _ hh; omega)
  rw [ev1] at CE1
  unfold evalV ctL at CE1
  dsimp only at CE1
  have CE1 := Lib.hid CE1
  have CE2 := fun Q W h1 h2 hd => reval_any l av cv pc cnt byt cx M Q (fun w h => rcheck_any l av cv pc cnt byt w h) W h1 h2 MOK.out HC0.out (fun o ho => by
    obtain ⟨m, hm, rfl⟩ := mem_opAt ho
    exact (hgl.a.l m hm).r.kn) hd
  rw [ev2] at CE2
  unfold evalV ctL at CE2
  dsimp only at CE2
  have CE2 := Lib.hid CE2
  have SA := Lib.hid (fun W => Ir.rstate_any (c5 0) (c5 1) (c5 2) (c5 3) (c5 4) (c5 5) (c5 6) (c5 7) (c5 8) (c5 9) (c5 10) (c5 11) ep W (hc5 8).1 (hc5 8).2 (hc5 9).1 (hc5 9).2 (hc5 10).1 (hc5 10).2 (hc5 11).1 (hc5 11).2)
  have HL := Lib.hid (show 0 < l.length from hgl.n0)
  clear hlk hg hgl hc hc2 E0 ev1 ev2 hc5 HBAD HGOOD HR RE HC0 MOK
  go_wp2_with fail
  refine (CK.out _ OB6.out).mono ?_
  rintro e w7 ⟨rfl, b7⟩
  have u7 := Upto.of_below (S := fun _ => False) b7
  have QO7 := Lib.hid (QO6.out.upto u7 id)
  have QL7 := Lib.hid (QL6.out.upto u7 id)
  have CY7 := Lib.hid (CY6.out.upto u7 id)
  have OB7 := Lib.hid (OB6.out.keep b7)
  have OL7 := Lib.hid (OL6.out.keep b7)
  have RMP7 := Lib.hid (RMP6.out.upto u7 (fun _ _ => id))
  have BW7 := Lib.hid (BW6.out.trans (b7.mono (by omega)))
  have h67 := b7.size
  clear b7 u7
  clear r0 r1 r2 r3 r4 r5 t0 t1 t2 t3 t4 t5 CK
  obtain ⟨r0, r1, r2, r3, r4, r5⟩ := QO7.out
  obtain ⟨t0, t1, t2, t3, t4, t5⟩ := QL7.out
  go_wp2_with fail
  refine (CKL.out _ OL7.out).mono ?_
  rintro e w8 ⟨rfl, b8⟩
  have u8 := Upto.of_below (S := fun _ => False) b8
  have QO8 := Lib.hid (QO7.out.upto u8 id)
  have QL8 := Lib.hid (QL7.out.upto u8 id)
  have CY8 := Lib.hid (CY7.out.upto u8 id)
  have OB8 := Lib.hid (OB7.out.keep b8)
  have OL8 := Lib.hid (OL7.out.keep b8)
  have RMP8 := Lib.hid (RMP7.out.upto u8 (fun _ _ => id))
  have BW8 := Lib.hid (BW7.out.trans (b8.mono (by omega)))
  have h78 := b8.size
  clear b8 u8
  clear r0 r1 r2 r3 r4 r5 t0 t1 t2 t3 t4 t5 CKL
  go_wp2_with fail
  refine (Gn.copy_any P M w8 RMP8.out).mono ?_
  rintro e w9 ⟨Q, rfl, hQ, b9, hQn⟩
  have RMQ9 := Lib.hid hQ
  have QN := Lib.hid (show ∀ k, Q.has k → w8.heap.size ≤ k ∧ k < w9.heap.size from fun k hk => ⟨hQn k hk, Ev.rm_lt hQ hk⟩)
  have u9 := Upto.of_below (S := fun _ => False) b9
  have QO9 := Lib.hid (QO8.out.upto u9 id)
  have QL9 := Lib.hid (QL8.out.upto u9 id)
  have CY9 := Lib.hid (CY8.out.upto u9 id)
  have OB9 := Lib.hid (OB8.out.keep b9)
  have OL9 := Lib.hid (OL8.out.keep b9)
  have RMP9 := Lib.hid (RMP8.out.upto u9 (fun _ _ => id))
  have BW9 := Lib.hid (BW8.out.trans (b9.mono (by omega)))
  have h89 := b9.size
  clear b9 u9
  clear hQ hQn
  obtain ⟨r0, r1, r2, r3, r4, r5⟩ := QO9.out
  obtain ⟨a0, a1, a2, a3, a4, a5, a6, a7, a8, a9, a10, a11⟩ := CY9.out.all
  have al := CY9.out.l
  go_wp2_with fail
  refine (CE1.out _ OB9.out RMP9.out).mono ?_
  rintro e w10 ⟨rfl, m10, u10⟩
  have QL10 := Lib.hid (QL9.out.upto u10 (fun h => by have := GA.out _ h; omega))
  have CY10 := Lib.hid (CY9.out.upto u10 (fun h => by have := GA.out _ h; omega))
  have OL10 := Lib.hid (ops_up OL9.out u10 (fun g hg h0 h => by have := F2.out g hg h0; have := GA.out _ h; omega))
  have RMQ10 := Lib.hid (RMQ9.out.upto u10 (fun k hk h => by have := QN.out k hk; have := GA.out k h; omega))
  have BW10 := Lib.hid (BW9.out.trans (u10.below (B := B) (by omega) (fun k hk h => by have := GA.out k h; omega)))
  have h910 := u10.size
  clear r0 r1 r2 r3 r4 r5 a0 a1 a2 a3 a4 a5 a6 a7 a8 a9 a10 a11 al u10 CE1 OB9 QO9 RMP9 QL9 CY9 OL9 RMQ9 BW9
  go_upto_region 16 with fail
  have un := ((Upto.refl (fun _ => False) w10).alloc (.cells #[.int .u32 (c5 0), .int .u32 (c5 1), .int .u32 (c5 2), .int .u32 (c5 3), .int .u32 (c5 4), .int .u32 (c5 5), .int .u32 (c5 6), .int .u32 (c5 7), .int .u32 (c5 8), .int .u32 (c5 9), .int .u32 (c5 10), .int .u32 (c5 11)] 37)).alloc (.cells #[.int .i64 ek, .int .u32 ex, .int .u32 ep, .int .i64 en] 48)
  have ca := CB.new w10 c5 37
  have xa := XB4.new (w10.alloc (.cells #[.int .u32 (c5 0), .int .u32 (c5 1), .int .u32 (c5 2), .int .u32 (c5 3), .int .u32 (c5 4), .int .u32 (c5 5), .int .u32 (c5 6), .int .u32 (c5 7), .int .u32 (c5 8), .int .u32 (c5 9), .int .u32 (c5 10), .int .u32 (c5 11)] 37)) ek ex ep en 48
  rw [show (w10.alloc (.cells #[.int .u32 (c5 0), .int .u32 (c5 1), .int .u32 (c5 2), .int .u32 (c5 3), .int .u32 (c5 4), .int .u32 (c5 5), .int .u32 (c5 6), .int .u32 (c5 7), .int .u32 (c5 8), .int .u32 (c5 9), .int .u32 (c5 10), .int .u32 (c5 11)] 37)).heap.size = w10.heap.size + 1 by simp] at xa
  unfold ctL at ca
  have DA := Lib.hid (ca.upto ((Upto.refl (fun _ => False) _).alloc (.cells #[.int .i64 ek, .int .u32 ex, .int .u32 ep, .int .i64 en] 48)) id)
  have XA := Lib.hid xa
  have bn := un.below (Nat.le_refl _) (fun _ _ => id)
  have QL11 := Lib.hid (QL10.out.upto un id)
  have CY11 := Lib.hid (CY10.out.upto un id)
  have OL11 := Lib.hid (OL10.out.keep bn)
  have RMQ11 := Lib.hid (RMQ10.out.upto un (fun _ _ => id))
  have RMP11 := Lib.hid (RM.upto m10 un (fun _ _ => id))
  have BW11 := Lib.hid (BW10.out.trans (bn.mono (by omega)))
  have h1011 := un.size
  generalize (w10.alloc (.cells #[.int .u32 (c5 0), .int .u32 (c5 1), .int .u32 (c5 2), .int .u32 (c5 3), .int .u32 (c5 4), .int .u32 (c5 5), .int .u32 (c5 6), .int .u32 (c5 7), .int .u32 (c5 8), .int .u32 (c5 9), .int .u32 (c5 10), .int .u32 (c5 11)] 37)).alloc (.cells #[.int .i64 ek, .int .u32 ex, .int .u32 ep, .int .i64 en] 48) = w11 at DA XA QL11 CY11 OL11 RMQ11 RMP11 BW11 h1011 ⊢
  obtain ⟨bd, hbd⟩ : ∃ bd, w10.heap.size = bd := ⟨_, rfl⟩
  rw [hbd] at DA XA h910 h1011 ⊢
  clear un ca xa bn m10 hbd QL10 CY10 OL10 RMQ10 BW10
  obtain ⟨r0, r1, r2, r3, r4, r5⟩ := QL11.out
  obtain ⟨a0, a1, a2, a3, a4, a5, a6, a7, a8, a9, a10, a11⟩ := CY11.out.all
  have al := CY11.out.l
  go_wp2_with fail
  refine (CE2.out Q _ OL11.out RMQ11.out (fun g hg h0 h => by have := QN.out _ h; have h3 := OL8.out.2.2 h0; obtain ⟨b, off, e, hb, _⟩ := h3; rw [hg] at e; cases e; dsimp only at *; omega)).mono ?_
  rintro e w12 ⟨rfl, m12, u12⟩
  have DA12 := Lib.hid (DA.out.upto u12 (fun h => by have := QN.out _ h; omega))
  have XA12 := Lib.hid (XA.out.upto u12 (fun h => by have := QN.out _ h; omega))
  have RMP12 := Lib.hid (RMP11.out.upto u12 (fun k hk h => by have := QN.out k h; have := GA.out k hk; omega))
  have BW12 := Lib.hid (BW11.out.trans (u12.below (B := B) (by omega) (fun k hk h => by have := QN.out k h; omega)))
  have h1112 := u12.size
  clear r0 r1 r2 r3 r4 r5 a0 a1 a2 a3 a4 a5 a6 a7 a8 a9 a10 a11 al u12 CE2 DA XA RMP11 BW11 QL11 CY11 OL11 RMQ11
  go_upto_region 17 with fail
  have un := ((Upto.refl (fun _ => False) w12).alloc (.cells #[.int .u32 (c5 0), .int .u32 (c5 1), .int .u32 (c5 2), .int .u32 (c5 3), .int .u32 (c5 4), .int .u32 (c5 5), .int .u32 (c5 6), .int .u32 (c5 7), .int .u32 (c5 8), .int .u32 (c5 9), .int .u32 (c5 10), .int .u32 (c5 11)] 37)).alloc (.cells #[.int .i64 ek, .int .u32 ex, .int .u32 ep, .int .i64 en] 48)
  have ca := CB.new w12 c5 37
  have xa := XB4.new (w12.alloc (.cells #[.int .u32 (c5 0), .int .u32 (c5 1), .int .u32 (c5 2), .int .u32 (c5 3), .int .u32 (c5 4), .int .u32 (c5 5), .int .u32 (c5 6), .int .u32 (c5 7), .int .u32 (c5 8), .int .u32 (c5 9), .int .u32 (c5 10), .int .u32 (c5 11)] 37)) ek ex ep en 48
  rw [show (w12.alloc (.cells #[.int .u32 (c5 0), .int .u32 (c5 1), .int .u32 (c5 2), .int .u32 (c5 3), .int .u32 (c5 4), .int .u32 (c5 5), .int .u32 (c5 6), .int .u32 (c5 7), .int .u32 (c5 8), .int .u32 (c5 9), .int .u32 (c5 10), .int .u32 (c5 11)] 37)).heap.size = w12.heap.size + 1 by simp] at xa
  unfold ctL at ca
  have bn := un.below (Nat.le_refl _) (fun _ _ => id)
  have FN : Hid (Fin bd (bd + 1) w12.heap.size (w12.heap.size + 1) c5 ek ex ep en P Q M5 ((w12.alloc (.cells #[.int .u32 (c5 0), .int .u32 (c5 1), .int .u32 (c5 2), .int .u32 (c5 3), .int .u32 (c5 4), .int .u32 (c5 5), .int .u32 (c5 6), .int .u32 (c5 7), .int .u32 (c5 8), .int .u32 (c5 9), .int .u32 (c5 10), .int .u32 (c5 11)] 37)).alloc (.cells #[.int .i64 ek, .int .u32 ex, .int .u32 ep, .int .i64 en] 48))) := Lib.hid ⟨DA12.out.upto un id, XA12.out.upto un id, ca.upto ((Upto.refl (fun _ => False) _).alloc (.cells #[.int .i64 ek, .int .u32 ex, .int .u32 ep, .int .i64 en] 48)) id, xa, RMP12.out.upto un (fun _ _ => id), RM.upto m12 un (fun _ _ => id)⟩
  have BW := Lib.hid (BW12.out.trans (bn.mono (by omega)))
  have hsz := un.size
  generalize (w12.alloc (.cells #[.int .u32 (c5 0), .int .u32 (c5 1), .int .u32 (c5 2), .int .u32 (c5 3), .int .u32 (c5 4), .int .u32 (c5 5), .int .u32 (c5 6), .int .u32 (c5 7), .int .u32 (c5 8), .int .u32 (c5 9), .int .u32 (c5 10), .int .u32 (c5 11)] 37)).alloc (.cells #[.int .i64 ek, .int .u32 ex, .int .u32 ep, .int .i64 en] 48) = w13 at FN BW hsz ⊢
  obtain ⟨bf, hbf⟩ : ∃ bf, w12.heap.size = bf := ⟨_, rfl⟩
  rw [hbf] at FN hsz ⊢
  clear un ca xa bn m12 hbf DA12 XA12 RMP12 BW12
  have uX := Try.underlying48
  have uC := Try.underlying37
  have i12 : (Try.prog.info? 37).map (·.size) = some ([.int .u32 (c5 0), .int .u32 (c5 1), .int .u32 (c5 2), .int .u32 (c5 3), .int .u32 (c5 4), .int .u32 (c5 5), .int .u32 (c5 6), .int .u32 (c5 7), .int .u32 (c5 8), .int .u32 (c5 9), .int .u32 (c5 10), .int .u32 (c5 11)] : List Value).length := by kernel_rfl
  have i4 : (Try.prog.info? 48).map (·.size) = some ([.int .i64 ek, .int .u32 ex, .int .u32 ep, .int .i64 en] : List Value).length := by kernel_rfl
  have g1 := eq_exit ek ex ep en
  have g2 := Ir.eq_state (c5 0) (c5 1) (c5 2) (c5 3) (c5 4) (c5 5) (c5 6) (c5 7) ep (fl (c5 8) (c5 9) (c5 10) (c5 11))
  have ge1 : Try.prog.eqGuardType Try.prog.depth 48 = false := by kernel_rfl
  have ge2 : Try.prog.eqGuardType Try.prog.depth 72 = false := by kernel_rfl
  have hf1 : ∀ w : World, (Instr.fieldAt 48 (.pointer (some ⟨bd + 1, 0, none⟩)) 1).run Try.prog w = .ok (.pointer (some ⟨bd + 1, 2, none⟩)) w := fun w => by go_simp
  have hr1 : ∀ w : World, (do eqGuard .eql 48 (.tmp 111) (.tmp 112) (.agg #[.int .i64 ek, .int .u32 ex, .int .u32 ep, .int .i64 en]) (.agg #[.int .i64 ek, .int .u32 ex, .int .u32 ep, .int .i64 en]); binOp .eql 48 (.agg #[.int .i64 ek, .int .u32 ex, .int .u32 ep, .int .i64 en]) (.agg #[.int .i64 ek, .int .u32 ex, .int .u32 ep, .int .i64 en]) : Sem Value).run Try.prog w = .ok (.bool true) w := fun w => by clear FN; go_simp
  have hr2 : ∀ w : World, (do eqGuard .eql 72 (.tmp 118) (.tmp 122) (.agg #[.int .u32 (c5 0), .int .u32 (c5 1), .int .u32 (c5 2), .int .u32 (c5 3), .int .u32 (c5 4), .int .u32 (c5 5), .int .u32 (c5 6), .int .u32 (c5 7), .int .u32 ep, .int .u32 (fl (c5 8) (c5 9) (c5 10) (c5 11))]) (.agg #[.int .u32 (c5 0), .int .u32 (c5 1), .int .u32 (c5 2), .int .u32 (c5 3), .int .u32 (c5 4), .int .u32 (c5 5), .int .u32 (c5 6), .int .u32 (c5 7), .int .u32 ep, .int .u32 (fl (c5 8) (c5 9) (c5 10) (c5 11))]); binOp .eql 72 (.agg #[.int .u32 (c5 0), .int .u32 (c5 1), .int .u32 (c5 2), .int .u32 (c5 3), .int .u32 (c5 4), .int .u32 (c5 5), .int .u32 (c5 6), .int .u32 (c5 7), .int .u32 ep, .int .u32 (fl (c5 8) (c5 9) (c5 10) (c5 11))]) (.agg #[.int .u32 (c5 0), .int .u32 (c5 1), .int .u32 (c5 2), .int .u32 (c5 3), .int .u32 (c5 4), .int .u32 (c5 5), .int .u32 (c5 6), .int .u32 (c5 7), .int .u32 ep, .int .u32 (fl (c5 8) (c5 9) (c5 10) (c5 11))]) : Sem Value).run Try.prog w = .ok (.bool true) w := fun w => by clear FN; go_simp
  have hl1 : ∀ w', (fun w' => Fin bd (bd + 1) bf (bf + 1) c5 ek ex ep en P Q M5 w' ∧ Below B w w') w' → (Instr.loadAt 22 (.pointer (some ⟨bd + 1, 2, none⟩))).run Try.prog w' = .ok (.int .u32 ep) w' := fun w' h => by
    have hpc := h.1.x.c2
    clear h
    go_simp
  clear g1 g2 ge1 ge2
  refine wp_region_held_drew (S := (fun w' => Fin bd (bd + 1) bf (bf + 1) c5 ek ex ep en P Q M5 w' ∧ Below B w w')) (by kernel_rfl) ⟨FN.out.drew, BW.out.drew⟩ (fun hHeld => ?_)
  -- 0
  refine wpAnyH_take (i := 0) (oi := { dst := some 111, op := .load 48 (.tmp 20), type := 48, pos := "law.go:249", after := _, guard := _ }) (v := .agg #[.int .i64 ek, .int .u32 ex, .int .u32 ep, .int .i64 en]) rfl (by kernel_rfl) (by kernel_rfl) (by kernel_rfl) (fun _ _ _ h => h) (yieldsIf_load_mid (by rfl) _ _ rfl _ _ rfl _ _ (fun w h => h.1.x.rng) uX rfl i4) hHeld ?_
  try simp only [Act.put, List.setIfInBounds_toArray, List.set_cons_zero, List.set_cons_succ]
  -- 1
  refine wpAnyH_take (i := 1) (oi := { dst := some 112, op := .load 48 (.tmp 23), type := 48, pos := "law.go:249", after := _, guard := _ }) (v := .agg #[.int .i64 ek, .int .u32 ex, .int .u32 ep, .int .i64 en]) rfl (by kernel_rfl) (by kernel_rfl) (by kernel_rfl) (fun _ _ _ h => h) (yieldsIf_load_mid (by rfl) _ _ rfl _ _ rfl _ _ (fun w h => h.1.z.rng) uX rfl i4) hHeld ?_
  try simp only [Act.put, List.setIfInBounds_toArray, List.set_cons_zero, List.set_cons_succ]
  -- 2
  refine wpAnyH_take (i := 2) (oi := { dst := some 113, op := .binOp .eql 48 (.tmp 111) (.tmp 112) 48, type := 4, pos := "law.go:249", after := _, guard := _ }) (v := .bool true) rfl (by kernel_rfl) (by kernel_rfl) (by kernel_rfl) (fun _ _ _ h => h) (Kt.yl_bin (by rfl) _ _ _ _ _ rfl _ _ _ rfl rfl hr1) hHeld ?_
  try simp only [Act.put, List.setIfInBounds_toArray, List.set_cons_zero, List.set_cons_succ]
  -- 3
  refine wpAnyH_take (i := 3) (oi := { dst := some 114, op := .move (.tmp 113), type := 4, pos := "law.go:249", after := _, guard := _ }) (v := .bool true) rfl (by kernel_rfl) (by kernel_rfl) (by kernel_rfl) (fun _ _ _ h => h) (Kt.yl_mov (by rfl) _ rfl _ rfl) hHeld ?_
  try simp only [Act.put, List.setIfInBounds_toArray, List.set_cons_zero, List.set_cons_succ]
  -- 4
  refine wpAnyH_take (i := 4) (oi := { dst := some 115, op := .load 37 (.tmp 19), type := 37, pos := "law.go:249", after := _, guard := _ }) (v := .agg #[.int .u32 (c5 0), .int .u32 (c5 1), .int .u32 (c5 2), .int .u32 (c5 3), .int .u32 (c5 4), .int .u32 (c5 5), .int .u32 (c5 6), .int .u32 (c5 7), .int .u32 (c5 8), .int .u32 (c5 9), .int .u32 (c5 10), .int .u32 (c5 11)]) rfl (by kernel_rfl) (by kernel_rfl) (by kernel_rfl) (fun _ _ _ h => h) (yieldsIf_load_mid (by rfl) _ _ rfl _ _ rfl _ _ (fun w h => h.1.d.rng) uC rfl i12) hHeld ?_
  try simp only [Act.put, List.setIfInBounds_toArray, List.set_cons_zero, List.set_cons_succ]
  -- 5
  refine wpAnyH_take (i := 5) (oi := { dst := some 116, op := .fieldAddr 48 (.tmp 20) 1, type := 0, pos := "law.go:249", after := _, guard := _ }) (v := .pointer (some ⟨bd + 1, 2, none⟩)) rfl (by kernel_rfl) (by kernel_rfl) (by kernel_rfl) (fun _ _ _ h => h) (Kt.yl_fld (by rfl) _ _ _ rfl _ _ rfl hf1) hHeld ?_
  try simp only [Act.put, List.setIfInBounds_toArray, List.set_cons_zero, List.set_cons_succ]
  -- 6
  refine wpAnyH_take (i := 6) (oi := { dst := some 117, op := .load 22 (.tmp 116), type := 22, pos := "law.go:249", after := _, guard := _ }) (v := .int .u32 ep) rfl (by kernel_rfl) (by kernel_rfl) (by kernel_rfl) (fun _ _ _ h => h) (Kt.yl_ld (by rfl) _ _ rfl _ _ rfl hl1) hHeld ?_
  try simp only [Act.put, List.setIfInBounds_toArray, List.set_cons_zero, List.set_cons_succ]
  -- 7
  refine wpAnyH_take (i := 8) (oi := { dst := some 119, op := .load 37 (.tmp 22), type := 37, pos := "law.go:249", after := _, guard := _ }) (v := .agg #[.int .u32 (c5 0), .int .u32 (c5 1), .int .u32 (c5 2), .int .u32 (c5 3), .int .u32 (c5 4), .int .u32 (c5 5), .int .u32 (c5 6), .int .u32 (c5 7), .int .u32 (c5 8), .int .u32 (c5 9), .int .u32 (c5 10), .int .u32 (c5 11)]) rfl (by kernel_rfl) (by kernel_rfl) (by kernel_rfl) (fun _ _ _ h => h) (yieldsIf_load_mid (by rfl) _ _ rfl _ _ rfl _ _ (fun w h => h.1.f.rng) uC rfl i12) hHeld ?_
  try simp only [Act.put, List.setIfInBounds_toArray, List.set_cons_zero, List.set_cons_succ]
  -- 8
  refine wpAnyH_take (i := 9) (oi := { dst := some 120, op := .fieldAddr 48 (.tmp 20) 1, type := 0, pos := "law.go:249", after := _, guard := _ }) (v := .pointer (some ⟨bd + 1, 2, none⟩)) rfl (by kernel_rfl) (by kernel_rfl) (by kernel_rfl) (fun _ _ _ h => h) (Kt.yl_fld (by rfl) _ _ _ rfl _ _ rfl hf1) hHeld ?_
  try simp only [Act.put, List.setIfInBounds_toArray, List.set_cons_zero, List.set_cons_succ]
  -- 9
  refine wpAnyH_take (i := 10) (oi := { dst := some 121, op := .load 22 (.tmp 120), type := 22, pos := "law.go:249", after := _, guard := _ }) (v := .int .u32 ep) rfl (by kernel_rfl) (by kernel_rfl) (by kernel_rfl) (fun _ _ _ h => h) (Kt.yl_ld (by rfl) _ _ rfl _ _ rfl hl1) hHeld ?_
  try simp only [Act.put, List.setIfInBounds_toArray, List.set_cons_zero, List.set_cons_succ]
  -- 10
  refine wpAnyH_ready (rs := [7]) (by kernel_rfl) (by simp) ?_
  refine AllReadyH.cons rfl (fun K hK => ?_) AllReadyH.nil
  go_simp
  go_wp2_with (go_at_call 43; refine (SA.out _).mono ?_; rintro e wq ⟨rfl, hq⟩)
  refine hK.out _ _ ?_ (fun hHeld2 => ?_)
  · exact ⟨hHeld.1.keep hq, chB HB.out hHeld.2 hq⟩
  clear hK K hHeld hq
  have hHeld := hHeld2
  clear hHeld2
  try simp only [Act.put, List.setIfInBounds_toArray, List.set_cons_zero, List.set_cons_succ]
  -- 11
  refine wpAnyH_ready (rs := [11]) (by kernel_rfl) (by simp) ?_
  refine AllReadyH.cons rfl (fun K hK => ?_) AllReadyH.nil
  go_simp
  go_wp2_with (go_at_call 43; refine (SA.out _).mono ?_; rintro e wq ⟨rfl, hq⟩)
  refine hK.out _ _ ?_ (fun hHeld2 => ?_)
  · exact ⟨hHeld.1.keep hq, chB HB.out hHeld.2 hq⟩
  clear hK K hHeld hq
  have hHeld := hHeld2
  clear hHeld2
  try simp only [Act.put, List.setIfInBounds_toArray, List.set_cons_zero, List.set_cons_succ]
  -- 12
  refine wpAnyH_take (i := 12) (oi := { dst := some 123, op := .binOp .eql 72 (.tmp 118) (.tmp 122) 72, type := 4, pos := "law.go:249", after := _, guard := _ }) (v := .bool true) rfl (by kernel_rfl) (by kernel_rfl) (by kernel_rfl) (fun _ _ _ h => h) (Kt.yl_bin (by rfl) _ _ _ _ _ rfl _ _ _ rfl rfl hr2) hHeld ?_
  try simp only [Act.put, List.setIfInBounds_toArray, List.set_cons_zero, List.set_cons_succ]
  -- 13
  refine wpAnyH_take (i := 13) (oi := { dst := some 124, op := .pick (.tmp 114) (.tmp 123) (.const (.bool false)), type := 4, pos := "law.go:249", after := _, guard := _ }) (v := .bool true) rfl (by kernel_rfl) (by kernel_rfl) (by kernel_rfl) (fun _ _ _ h => h) (Kt.yl_pick (by rfl) _ _ _ rfl _ rfl rfl) hHeld ?_
  try simp only [Act.put, List.setIfInBounds_toArray, List.set_cons_zero, List.set_cons_succ]
  -- 14
  refine wpAnyH_take (i := 14) (oi := { dst := some 125, op := .move (.tmp 124), type := 4, pos := "law.go:249", after := _, guard := _ }) (v := .bool true) rfl (by kernel_rfl) (by kernel_rfl) (by kernel_rfl) (fun _ _ _ h => h) (Kt.yl_mov (by rfl) _ rfl _ rfl) hHeld ?_
  try simp only [Act.put, List.setIfInBounds_toArray, List.set_cons_zero, List.set_cons_succ]
  -- 15
  refine wpAnyH_take (i := 15) (oi := { dst := some 126, op := .move (.tmp 18), type := 41, pos := "law.go:249", after := _, guard := _ }) (v := .pointer (some ⟨Q.q, 0, none⟩)) rfl (by kernel_rfl) (by kernel_rfl) (by kernel_rfl) (fun _ _ _ h => h) (Kt.yl_mov (by rfl) _ rfl _ rfl) hHeld ?_
  try simp only [Act.put, List.setIfInBounds_toArray, List.set_cons_zero, List.set_cons_succ]
  -- 16
  refine wpAnyH_take (i := 16) (oi := { dst := some 127, op := .move (.tmp 10), type := 41, pos := "law.go:249", after := _, guard := _ }) (v := .pointer (some ⟨P.q, 0, none⟩)) rfl (by kernel_rfl) (by kernel_rfl) (by kernel_rfl) (fun _ _ _ h => h) (Kt.yl_mov (by rfl) _ rfl _ rfl) hHeld ?_
  try simp only [Act.put, List.setIfInBounds_toArray, List.set_cons_zero, List.set_cons_succ]
  -- 17
  refine wpAnyH_ready (rs := [17]) (by kernel_rfl) (by simp) ?_
  refine AllReadyH.cons rfl (fun K hK => ?_) AllReadyH.nil
  go_simp
  go_wp2_with (go_at_call 44; refine (Gn.same_any Q P M5 _ hHeld.1.q hHeld.1.p).mono ?_; rintro e wq ⟨rfl, hq⟩)
  refine hK.out _ _ ?_ (fun hHeld2 => ?_)
  · exact ⟨hHeld.1.keep hq, chB HB.out hHeld.2 hq⟩
  clear hK K hHeld hq
  have hHeld := hHeld2
  clear hHeld2
  try simp only [Act.put, List.setIfInBounds_toArray, List.set_cons_zero, List.set_cons_succ]
  -- 18
  refine wpAnyH_take (i := 18) (oi := { dst := some 129, op := .pick (.tmp 125) (.tmp 128) (.const (.bool false)), type := 4, pos := "law.go:249", after := _, guard := _ }) (v := .bool true) rfl (by kernel_rfl) (by kernel_rfl) (by kernel_rfl) (fun _ _ _ h => h) (Kt.yl_pick (by rfl) _ _ _ rfl _ rfl rfl) hHeld ?_
  try simp only [Act.put, List.setIfInBounds_toArray, List.set_cons_zero, List.set_cons_succ]
  -- 19
  refine wpAnyH_take (i := 19) (oi := { dst := some 8, op := .assign (.tmp 129), type := 4, pos := "law.go:249", after := _, guard := _ }) (v := .bool true) rfl (by kernel_rfl) (by kernel_rfl) (by kernel_rfl) (fun _ _ _ h => h) (Kt.yl_asg (by rfl) _ rfl _ rfl) hHeld ?_
  try simp only [Act.put, List.setIfInBounds_toArray, List.set_cons_zero, List.set_cons_succ]
  refine wpAnyH_done (by kernel_rfl) ?_ _
  go_wp2
  go_ret
  exact ⟨rfl, by rw [HB.out]; exact hHeld.2⟩
end Go.Proofs.Ytcjcmnnhmajocab.Ot
