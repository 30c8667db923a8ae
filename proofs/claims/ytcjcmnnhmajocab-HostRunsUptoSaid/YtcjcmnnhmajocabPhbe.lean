/- The host's machine: between registers, slots and spills. -/
import Derived.Maps.OwnSet
import Derived.Maps.OwnOps
import Derived.Maps.Views
import Derived.WalkArith
import Derived.Test.YtcjcmnnhmajocabPhbd
set_option linter.unusedVariables false
set_option linter.unusedSimpArgs false
set_option maxRecDepth 100000
set_option maxHeartbeats 16000000
namespace Go.Proofs.Ytcjcmnnhmajocab.Hr
open Go.RowKit Kt Me Fl Ev Ho Go.Maps
/-- the spills: by places -/
def SpR (b : Nat) (f : Nat → Option Int) (n : Nat) (W : World) : Prop :=
 ∃ D : DataW Unit, W.ownsMap Try.prog 3 (plainElem Try.prog 22) b n D ∧ ∀ j : Nat, j < 2048 → Maps.has D (.int .i64 j) = (f j).isSome ∧ D.atKey (.int .i64 j) (.lit (.int .u32 0)) = .lit (.int .u32 ((f j).getD 0))
theorem law_int : Keyed Try.prog 3 := int_keyed Try.underlying3
theorem key_wf (j : Nat) (h : j < 2048) : (Lit.int .i64 (j : Int)).wf = true := WalkArith.wf_i64 (by omega)
theorem zero_u32 (w : World) : (zeroValue 22).run Try.prog w = .ok (.int .u32 0) w := by kernel_rfl
theorem SpR.new {b : Nat} {W : World} (h : W.ownsMap (H := Unit) Try.prog 3 (plainElem Try.prog 22) b 0 (.map [])) : SpR b (fun _ => none) 0 W :=
 ⟨_, h, fun j hj => ⟨rfl, rfl⟩⟩
theorem SpR.upto {S : Nat → Prop} {b n : Nat} {f : Nat → Option Int} {W W' : World} (a : SpR b f n W) (u : Upto S W W') (hs : ¬ S b) : SpR b f n W' := by
 obtain ⟨D, ⟨es, clock, hb, r⟩, hf⟩ := a
 have hlt : b < W.heap.size := (Array.getElem?_eq_some_iff.1 hb).1
 exact ⟨D, ⟨es, clock, (u.block b hlt hs).trans hb, r⟩, hf⟩
theorem SpR.lt {b n : Nat} {f : Nat → Option Int} {W : World} (a : SpR b f n W) : b < W.heap.size := by
 obtain ⟨D, h, _⟩ := a
 exact h.lt
theorem SpR.mono {b n n' : Nat} {f : Nat → Option Int} {W : World} (a : SpR b f n W) (h : n ≤ n') : SpR b f n' W := by
 obtain ⟨D, o, hf⟩ := a
 exact ⟨D, o.mono h, hf⟩
theorem SpR.look {b n : Nat} {f : Nat → Option Int} {W : World} (a : SpR b f n W) (j : Nat) (hj : j < 2048) : (Instr.lookup 167 (.map (some b)) (.int .i64 j) true).run Try.prog W = .ok (.tuple #[.int .u32 ((f j).getD 0), .bool (f j).isSome]) W := by
 obtain ⟨D, o, hf⟩ := a
 obtain ⟨v, ps, hrun, hv⟩ := o.look_ok law_int Try.underlying167 (zero_u32 W) (plainElem_int Try.underlying22 (by decide)) (keyOf_int_mk Try.underlying3 (key_wf j hj))
 obtain ⟨c, rfl, hc, _⟩ := plainElem_int_inv Try.underlying22 hv
 have h2 := congrArg Prod.fst hc
 simp only [] at h2
 rw [(hf j hj).2] at h2
 rw [(hf j hj).1] at hrun
 simp only [DataW.lit.injEq, Lit.int.injEq, true_and] at h2
 rw [h2]
 exact hrun
def updO (f : Nat → Option Int) (k : Nat) (z : Option Int) : Nat → Option Int := fun j => if j = k then z else f j
theorem SpR.put {b n : Nat} {f : Nat → Option Int} {W : World} (a : SpR b f n W) (j : Nat) (hj : j < 2048) (x : Int) (hx : 0 ≤ x ∧ x < 4294967296) (hn : n < maxLen) :
  ∃ W', (Instr.mapUpdate 167 (.map (some b)) (.int .i64 j) (.int .u32 x)).run Try.prog W = .ok () W' ∧ SpR b (updO f j (some x)) (n + 1) W' ∧ Upto (fun i => i = b) W W' := by
 obtain ⟨D, o, hf⟩ := a
 have hw : (Lit.int .u32 x).wf = true := WalkArith.wf_u32 (by omega)
 obtain ⟨W', hrun, o', g⟩ := o.update law_int Try.underlying167 hn (keyOf_int_mk Try.underlying3 (key_wf j hj)) (plainElem_int (H := Unit) Try.underlying22 hw)
 refine ⟨W', hrun, ⟨_, o', fun i hi => ?_⟩, ⟨g.os, g.tape, g.output, g.size, fun k hk hne => g.block k hk (by simpa using hne)⟩⟩
 unfold updO
 by_cases e : i = j
 ·subst e
  rw [if_pos rfl]
  exact ⟨Maps.has_put_same (k := .int .i64 (i : Int)) o.isMap trivial _, Maps.atKey_put_same (k := .int .i64 (i : Int)) o.isMap trivial _ _⟩
 ·rw [if_neg e]
  have hne : (Lit.int .i64 (i : Int)) ≠ Lit.int .i64 (j : Int) := fun h => e (by simp only [Lit.int.injEq, true_and] at h; omega)
  exact ⟨(Maps.has_put_other hne _).trans (hf i hi).1, (Maps.atKey_put_other hne _ _).trans (hf i hi).2⟩
variable {h : Nat} {K : Hk} {s : Pm}
theorem m3 {hx rd ra : Nat} {x : Cd} {W : World} (X : XB hx x W) (hd : x.d = rd) (ha : x.a = ra) : W.cell? ⟨hx, 1, none⟩ = some (.int .i64 (rd : Int)) ∧ W.cell? ⟨hx, 2, none⟩ = some (.int .i64 (ra : Int)) :=
 ⟨hd ▸ X.c1, ha ▸ X.c2⟩
theorem m6 {hx rd rn : Nat} {x : Cd} {W : World} {h : Nat} {K : Hk} {s : Pm} (X : XB hx x W) (A : MR h K s W) (hd : x.d = rd) (hn : x.n = rn) (ln : rn < 12) : W.cell? ⟨hx, 1, none⟩ = some (.int .i64 (rd : Int)) ∧ W.cell? ⟨hx, 5, none⟩ = some (.int .i64 (rn : Int)) ∧ W.cell? ⟨h, 2 + rn, none⟩ = some (.int .u32 (s.c rn)) :=
 ⟨hd ▸ X.c1, hn ▸ X.c5, A.c rn ln⟩
theorem m9 {hx ra rn b : Nat} {x : Cd} {W : World} {h : Nat} {K : Hk} {s : Pm} (X : XB hx x W) (A : MR h K s W) (hb : s.sp = some b) (ha : x.a = ra) (hn : x.n = rn) : W.cell? ⟨h, 50, none⟩ = some (.map (some b)) ∧ W.cell? ⟨hx, 5, none⟩ = some (.int .i64 (rn : Int)) ∧ W.cell? ⟨hx, 2, none⟩ = some (.int .i64 (ra : Int)) :=
 ⟨hb ▸ A.sp, hn ▸ X.c5, ha ▸ X.c2⟩
theorem m97 {hx rd : Nat} {x : Cd} {W : World} {h : Nat} {K : Hk} {s : Pm} (X : XB hx x W) (A : MR h K s W) (hd : x.d = rd) : W.cell? ⟨hx, 1, none⟩ = some (.int .i64 (rd : Int)) ∧ W.cell? ⟨h, 10, none⟩ = some (.int .u32 (s.c 8)) ∧ W.cell? ⟨h, 11, none⟩ = some (.int .u32 (s.c 9)) ∧ W.cell? ⟨h, 12, none⟩ = some (.int .u32 (s.c 10)) ∧ W.cell? ⟨h, 13, none⟩ = some (.int .u32 (s.c 11)) :=
 ⟨hd ▸ X.c1, A.c 8 (by omega), A.c 9 (by omega), A.c 10 (by omega), A.c 11 (by omega)⟩
theorem moves_2 (x : Cd) (rd : Nat) (hd : x.d = rd) (ld : rd < 16) (w : World) (a : MR h K s w) (ho : x.op = 2) :
  Calls Try.prog 155 #[.pointer (some ⟨h, 0, none⟩), .agg #[.int .i64 x.op, .int .i64 x.d, .int .i64 x.a, .int .i64 x.b, .int .i64 x.c, .int .i64 x.n, .int .u32 x.k, .int .u32 x.x]] w fun e w' => e = .returned (.tuple #[]) ∧ MR h K (s.sets rd x.k) w' ∧ Upto (fun i => i = h) w w' := by
 have SE : Hid (∀ w, MR h K s w → Calls Try.prog 153 #[.pointer (some ⟨h, 0, none⟩), .int .i64 rd, .int .u32 x.k] w fun e w' => e = .returned (.tuple #[]) ∧ MR h K (s.sets rd x.k) w' ∧ Upto (fun i => i = h) w w') := fun w a => set_any rd x.k w a ld
 have HD := κ hd
 clear hd
 generalize s.sets rd x.k = s' at SE ⊢
 have HO := κ ho
 have hl := a.l
 have xb := XB.new w x 108
 have u0 := (Upto.refl (fun _ => False) w).alloc (.cells #[.int .i64 x.op, .int .i64 x.d, .int .i64 x.a, .int .i64 x.b, .int .i64 x.c, .int .i64 x.n, .int .u32 x.k, .int .u32 x.x] 108)
 have a0 := a.upto u0 id
 clear ho a
 go_enter Try.func155, Try.ntmps155
 go_upto_region 1 with fail
 generalize (w.alloc (.cells #[.int .i64 x.op, .int .i64 x.d, .int .i64 x.a, .int .i64 x.b, .int .i64 x.c, .int .i64 x.n, .int .u32 x.k, .int .u32 x.x] 108)) = WA at xb u0 a0 ⊢
 have XX := κ xb
 have A := κ a0
 have U := κ (u0.mono (T := fun i => i = h) fun _ _ h => h.elim)
 have x0 := xb.c0
 rw [HO.out] at x0
 have lx := xb.l
 clear xb u0 a0
 have x1 := XX.out.c1
 rw [HD.out] at x1
 have x6 := XX.out.c6
 go_upto_region 3 with fail
 go_wp2_with (go_at_call 153; (with_reducible refine (SE.out _ A.out).mono ?_); rintro e w3 ⟨rfl, a3, u3⟩; have A3 := κ a3; have U3 := κ (U.out.trans u3); clear a3 u3)
 go_end0
 exact ⟨rfl, A3.out, U3.out⟩
theorem moves_3 (x : Cd) (rd ra : Nat) (hd : x.d = rd) (ha : x.a = ra) (ld : rd < 16) (la : ra < 16) (w : World) (a : MR h K s w) (ho : x.op = 3) :
  Calls Try.prog 155 #[.pointer (some ⟨h, 0, none⟩), .agg #[.int .i64 x.op, .int .i64 x.d, .int .i64 x.a, .int .i64 x.b, .int .i64 x.c, .int .i64 x.n, .int .u32 x.k, .int .u32 x.x]] w fun e w' => e = .returned (.tuple #[]) ∧ MR h K ((s.gets ra).sets rd (s.reg ra)) w' ∧ Upto (fun i => i = h) w w' := by
 have GA : Hid (∀ w, MR h K s w → Calls Try.prog 151 #[.pointer (some ⟨h, 0, none⟩), .int .i64 ra] w fun e w' => e = .returned (.int .u32 (s.reg ra)) ∧ MR h K (s.gets ra) w' ∧ Upto (fun i => i = h) w w') := fun w a => get_any ra w a la
 have SE : Hid (∀ w, MR h K (s.gets ra) w → Calls Try.prog 153 #[.pointer (some ⟨h, 0, none⟩), .int .i64 rd, .int .u32 (s.reg ra)] w fun e w' => e = .returned (.tuple #[]) ∧ MR h K ((s.gets ra).sets rd (s.reg ra)) w' ∧ Upto (fun i => i = h) w w') := fun w a => set_any rd _ w a ld
 have HD := κ hd
 have HA := κ ha
 clear hd ha
 generalize (s.gets ra).sets rd (s.reg ra) = s' at SE ⊢
 generalize s.gets ra = s1 at GA SE
 generalize s.reg ra = va at GA SE
 have HO := κ ho
 have hl := a.l
 have xb := XB.new w x 108
 have u0 := (Upto.refl (fun _ => False) w).alloc (.cells #[.int .i64 x.op, .int .i64 x.d, .int .i64 x.a, .int .i64 x.b, .int .i64 x.c, .int .i64 x.n, .int .u32 x.k, .int .u32 x.x] 108)
 have a0 := a.upto u0 id
 clear ho a
 go_enter Try.func155, Try.ntmps155
 go_upto_region 1 with fail
 generalize (w.alloc (.cells #[.int .i64 x.op, .int .i64 x.d, .int .i64 x.a, .int .i64 x.b, .int .i64 x.c, .int .i64 x.n, .int .u32 x.k, .int .u32 x.x] 108)) = WA at xb u0 a0 ⊢
 have XX := κ xb
 have A := κ a0
 have U := κ (u0.mono (T := fun i => i = h) fun _ _ h => h.elim)
 have x0 := xb.c0
 rw [HO.out] at x0
 have lx := xb.l
 clear xb u0 a0
 go_upto_region 5 with fail
 go_region_held3 (fun W => W.cell? ⟨w.heap.size, 1, none⟩ = some (.int .i64 (rd : Int)) ∧ W.cell? ⟨w.heap.size, 2, none⟩ = some (.int .i64 (ra : Int))) (first | exact m3 XX.out HD.out HA.out | exact m3 XX.out.drew HD.out HA.out | exact m3 X2.out HD.out HA.out | exact m3 X3.out HD.out HA.out)
  ((first | (go_at_call 153; (with_reducible refine (SE.out _ A2.out).mono ?_); rintro e w3 ⟨rfl, a3, u3⟩; have A3 := κ a3; have U3 := κ (U2.out.trans u3); have X3 := κ (X2.out.upto u3 (by omega)); clear a3 u3) | (go_at_call 151; (with_reducible refine (GA.out _ (by first | exact A.out | exact A.out.drew)).mono ?_); rintro e w2 ⟨rfl, a2, u2⟩; have A2 := κ a2; have U2 := κ (show Upto (fun i => i = h) w w2 from by first | exact U.out.trans u2 | exact U.out.drew.trans u2); have X2 := κ (show XB w.heap.size x w2 from by first | exact XX.out.upto u2 (by omega) | exact XX.out.drew.upto u2 (by omega)); clear a2 u2)))
 go_end0
 exact ⟨rfl, A3.out, U3.out⟩
theorem moves_6 (x : Cd) (rd rn : Nat) (hd : x.d = rd) (hn : x.n = rn) (ld : rd < 16) (ln : rn < 12) (w : World) (a : MR h K s w) (ho : x.op = 6) :
  Calls Try.prog 155 #[.pointer (some ⟨h, 0, none⟩), .agg #[.int .i64 x.op, .int .i64 x.d, .int .i64 x.a, .int .i64 x.b, .int .i64 x.c, .int .i64 x.n, .int .u32 x.k, .int .u32 x.x]] w fun e w' => e = .returned (.tuple #[]) ∧ MR h K (s.sets rd (s.c rn)) w' ∧ Upto (fun i => i = h) w w' := by
 have SE : Hid (∀ w, MR h K s w → Calls Try.prog 153 #[.pointer (some ⟨h, 0, none⟩), .int .i64 rd, .int .u32 (s.c rn)] w fun e w' => e = .returned (.tuple #[]) ∧ MR h K (s.sets rd (s.c rn)) w' ∧ Upto (fun i => i = h) w w') := fun w a => set_any rd _ w a ld
 have HD := κ hd
 have HN := κ hn
 clear hd hn
 have n0 : (0 : Int) ≤ (rn : Int) := by omega
 have n1 : (rn : Int) < 12 := by omega
 have HO := κ ho
 have hl := a.l
 have xb := XB.new w x 108
 have u0 := (Upto.refl (fun _ => False) w).alloc (.cells #[.int .i64 x.op, .int .i64 x.d, .int .i64 x.a, .int .i64 x.b, .int .i64 x.c, .int .i64 x.n, .int .u32 x.k, .int .u32 x.x] 108)
 have a0 := a.upto u0 id
 clear ho a
 go_enter Try.func155, Try.ntmps155
 go_upto_region 1 with fail
 generalize (w.alloc (.cells #[.int .i64 x.op, .int .i64 x.d, .int .i64 x.a, .int .i64 x.b, .int .i64 x.c, .int .i64 x.n, .int .u32 x.k, .int .u32 x.x] 108)) = WA at xb u0 a0 ⊢
 have XX := κ xb
 have A := κ a0
 have U := κ (u0.mono (T := fun i => i = h) fun _ _ h => h.elim)
 have x0 := xb.c0
 rw [HO.out] at x0
 have lx := xb.l
 clear xb u0 a0
 go_upto_region 7 with fail
 go_region_held3 (fun W => W.cell? ⟨w.heap.size, 1, none⟩ = some (.int .i64 (rd : Int)) ∧ W.cell? ⟨w.heap.size, 5, none⟩ = some (.int .i64 (rn : Int)) ∧ W.cell? ⟨h, 2 + rn, none⟩ = some (.int .u32 (s.c rn))) (first | exact m6 XX.out A.out HD.out HN.out ln | exact m6 XX.out.drew A.out.drew HD.out HN.out ln | exact (m6 (s := s.sets rd (s.c rn)) X3.out A3.out HD.out HN.out ln))
  ((first | (go_at_call 153; (with_reducible refine (SE.out _ (by first | exact A.out | exact A.out.drew)).mono ?_); rintro e w3 ⟨rfl, a3, u3⟩; have A3 := κ a3; have U3 := κ (show Upto (fun i => i = h) w w3 from by first | exact U.out.trans u3 | exact U.out.drew.trans u3); have X3 := κ (show XB w.heap.size x w3 from by first | exact XX.out.upto u3 (by omega) | exact XX.out.drew.upto u3 (by omega)); clear a3 u3)))
 go_end0
 exact ⟨rfl, A3.out, U3.out⟩
theorem moves_7 (x : Cd) (ra rn : Nat) (ha : x.a = ra) (hn : x.n = rn) (la : ra < 16) (ln : rn < 12) (w : World) (a : MR h K s w) (ho : x.op = 7) :
  Calls Try.prog 155 #[.pointer (some ⟨h, 0, none⟩), .agg #[.int .i64 x.op, .int .i64 x.d, .int .i64 x.a, .int .i64 x.b, .int .i64 x.c, .int .i64 x.n, .int .u32 x.k, .int .u32 x.x]] w fun e w' => e = .returned (.tuple #[]) ∧ MR h K (if (s.gets ra).stuck then s.gets ra else { s.gets ra with c := upd s.c rn (s.reg ra) }) w' ∧ Upto (fun i => i = h) w w' := by
 have GA : Hid (∀ w, MR h K s w → Calls Try.prog 151 #[.pointer (some ⟨h, 0, none⟩), .int .i64 ra] w fun e w' => e = .returned (.int .u32 (s.reg ra)) ∧ MR h K (s.gets ra) w' ∧ Upto (fun i => i = h) w w') := fun w a => get_any ra w a la
 have HA := κ ha
 have HN := κ hn
 clear ha hn
 have n0 : (0 : Int) ≤ (rn : Int) := by omega
 have n1 : (rn : Int) < 12 := by omega
 have hc1 : (s.gets ra).c = s.c := rfl
 rw [← hc1]
 clear hc1
 generalize s.gets ra = s1 at GA ⊢
 generalize s.reg ra = va at GA ⊢
 have HO := κ ho
 have hl := a.l
 have xb := XB.new w x 108
 have u0 := (Upto.refl (fun _ => False) w).alloc (.cells #[.int .i64 x.op, .int .i64 x.d, .int .i64 x.a, .int .i64 x.b, .int .i64 x.c, .int .i64 x.n, .int .u32 x.k, .int .u32 x.x] 108)
 have a0 := a.upto u0 id
 clear ho a
 go_enter Try.func155, Try.ntmps155
 go_upto_region 1 with fail
 generalize (w.alloc (.cells #[.int .i64 x.op, .int .i64 x.d, .int .i64 x.a, .int .i64 x.b, .int .i64 x.c, .int .i64 x.n, .int .u32 x.k, .int .u32 x.x] 108)) = WA at xb u0 a0 ⊢
 have XX := κ xb
 have A := κ a0
 have U := κ (u0.mono (T := fun i => i = h) fun _ _ h => h.elim)
 have x0 := xb.c0
 rw [HO.out] at x0
 have lx := xb.l
 clear xb u0 a0
 have xa := XX.out.c2
 rw [HA.out] at xa
 go_upto_region 10 with (go_at_call 151; refine (GA.out _ A.out).mono ?_; rintro e w3 ⟨rfl, a3, u3⟩; have XX := κ (XX.out.upto u3 (by omega)); have U := κ (U.out.trans u3); have A := κ a3; clear a3 u3)
 clear xa lx x0
 obtain ⟨bst, hbst⟩ : ∃ b, s1.stuck = b := ⟨_, rfl⟩
 have cst := A.out.st
 rw [hbst] at cst
 have HB := κ hbst
 clear hbst
 have lh := A.out.l
 cases bst
 ·have xn := XX.out.c5
  rw [HN.out] at xn
  have lx := XX.out.l
  have cc := A.out.c rn ln
  have zc := A.out.z (2 + rn)
  go_upto_region 11 with fail
  go_region
  have A3 := (A.out.setC rn va ln).drew
  have U3 := (U.out.setCell (q := ⟨h, 2 + rn, none⟩) (.inl rfl) (.int .u32 va)).drew
  go_end0
  exact ⟨rfl, by rw [if_neg (by rw [HB.out]; decide)]; exact A3, U3⟩
 ·go_wp2_with fail
  go_end0
  exact ⟨rfl, by first | exact A.out | (rw [if_pos HB.out]; exact A.out), U.out⟩
theorem moves_8 (x : Cd) (rd rn b m : Nat) (f : Nat → Option Int) (hb : s.sp = some b) (hd : x.d = rd) (hn : x.n = rn) (ld : rd < 16) (ln : rn < 2048) (w : World) (a : MR h K s w) (ho : x.op = 8) (sp : SpR b f m w) :
  Calls Try.prog 155 #[.pointer (some ⟨h, 0, none⟩), .agg #[.int .i64 x.op, .int .i64 x.d, .int .i64 x.a, .int .i64 x.b, .int .i64 x.c, .int .i64 x.n, .int .u32 x.k, .int .u32 x.x]] w fun e w' => e = .returned (.tuple #[]) ∧ MR h K (({ s with stuck := !(f rn).isSome } : Pm).sets rd ((f rn).getD 0)) w' ∧ Upto (fun i => i = h) w w' := by
 have SE : Hid (∀ w, MR h K ({ s with stuck := !(f rn).isSome } : Pm) w → Calls Try.prog 153 #[.pointer (some ⟨h, 0, none⟩), .int .i64 rd, .int .u32 ((f rn).getD 0)] w fun e w' => e = .returned (.tuple #[]) ∧ MR h K (({ s with stuck := !(f rn).isSome } : Pm).sets rd ((f rn).getD 0)) w' ∧ Upto (fun i => i = h) w w') := fun w a => set_any rd _ w a ld
 have LK : ∀ W, SpR b f m W → _ := fun W hs => hs.look rn ln
 have sp0 := sp.upto ((Upto.refl (fun _ => False) w).alloc (.cells #[.int .i64 x.op, .int .i64 x.d, .int .i64 x.a, .int .i64 x.b, .int .i64 x.c, .int .i64 x.n, .int .u32 x.k, .int .u32 x.x] 108)) id
 generalize (({ s with stuck := !(f rn).isSome } : Pm).sets rd ((f rn).getD 0)) = s' at SE ⊢
 obtain ⟨ok, hok⟩ : ∃ ok, (f rn).isSome = ok := ⟨_, rfl⟩
 obtain ⟨v, hv⟩ : ∃ v, (f rn).getD 0 = v := ⟨_, rfl⟩
 rw [hok, hv] at SE LK
 have HB := κ hb
 have HD := κ hd
 have HN := κ hn
 have LK := κ LK
 clear hb hd hn hok hv sp
 have HO := κ ho
 have hl := a.l
 have xb := XB.new w x 108
 have u0 := (Upto.refl (fun _ => False) w).alloc (.cells #[.int .i64 x.op, .int .i64 x.d, .int .i64 x.a, .int .i64 x.b, .int .i64 x.c, .int .i64 x.n, .int .u32 x.k, .int .u32 x.x] 108)
 have a0 := a.upto u0 id
 clear ho a
 go_enter Try.func155, Try.ntmps155
 go_upto_region 1 with fail
 generalize (w.alloc (.cells #[.int .i64 x.op, .int .i64 x.d, .int .i64 x.a, .int .i64 x.b, .int .i64 x.c, .int .i64 x.n, .int .u32 x.k, .int .u32 x.x] 108)) = WA at xb u0 a0 sp0 ⊢
 have XX := κ xb
 have A := κ a0
 have U := κ (u0.mono (T := fun i => i = h) fun _ _ h => h.elim)
 have x0 := xb.c0
 rw [HO.out] at x0
 have lx := xb.l
 clear xb u0 a0
 have cs := A.out.sp
 rw [HB.out] at cs
 have lh := A.out.l
 have xn := XX.out.c5
 rw [HN.out] at xn
 have lk1 := LK.out _ sp0
 have lk2 := LK.out _ (sp0.upto (Upto.refl (fun _ => False) _).drew id)
 go_upto_region 13 with fail
 go_region
 have A1 := A.out.drew
 have XX := κ XX.out.drew
 have U1 := U.out.drew
 clear lk1 lk2 cs lh xn lx x0 sp0 A U
 generalize WA.drew = w2 at A1 XX U1 ⊢
 have cst := A1.st
 have zst := A1.z 53
 have lh := A1.l
 go_upto_region 15 with fail
 have A := κ (A1.setStuck (!ok))
 have U := κ (U1.setCell (q := ⟨h, 53, none⟩) (.inl rfl) (.bool (!ok)))
 have XX := κ (XX.out.upto ((Upto.refl (fun i => i = h) w2).setCell (q := ⟨h, 53, none⟩) (.inl rfl) (.bool (!ok))) (by omega))
 clear A1 U1 cst zst lh
 generalize w2.setCell ⟨h, 53, none⟩ (.bool (!ok)) = w4 at A U XX ⊢
 have x1 := XX.out.c1
 rw [HD.out] at x1
 have lx := XX.out.l
 go_wp2_with (go_at_call 153; (with_reducible refine (SE.out _ A.out).mono ?_); rintro e w3 ⟨rfl, a3, u3⟩; have A3 := κ a3; have U3 := κ (U.out.trans u3); clear a3 u3)
 go_end0
 exact ⟨rfl, A3.out, U3.out⟩
theorem moves_9 (x : Cd) (ra rn b m : Nat) (f : Nat → Option Int) (hb : s.sp = some b) (ha : x.a = ra) (hn : x.n = rn) (la : ra < 16) (ln : rn < 2048) (hva' : 0 ≤ s.reg ra ∧ s.reg ra < 4294967296) (hbh : ¬ b = h) (hm : m < maxLen) (w : World) (a : MR h K s w) (ho : x.op = 9) (sp : SpR b f m w) :
  Calls Try.prog 155 #[.pointer (some ⟨h, 0, none⟩), .agg #[.int .i64 x.op, .int .i64 x.d, .int .i64 x.a, .int .i64 x.b, .int .i64 x.c, .int .i64 x.n, .int .u32 x.k, .int .u32 x.x]] w fun e w' => e = .returned (.tuple #[]) ∧ MR h K (s.gets ra) w' ∧ SpR b (updO f rn (some (s.reg ra))) (m + 1) w' ∧ Upto (fun i => i = h ∨ i = b) w w' := by
 have GA : Hid (∀ w, MR h K s w → Calls Try.prog 151 #[.pointer (some ⟨h, 0, none⟩), .int .i64 ra] w fun e w' => e = .returned (.int .u32 (s.reg ra)) ∧ MR h K (s.gets ra) w' ∧ Upto (fun i => i = h) w w') := fun w a => get_any ra w a la
 have lbw := sp.lt
 have sp0 := sp.upto ((Upto.refl (fun _ => False) w).alloc (.cells #[.int .i64 x.op, .int .i64 x.d, .int .i64 x.a, .int .i64 x.b, .int .i64 x.c, .int .i64 x.n, .int .u32 x.k, .int .u32 x.x] 108)) id
 have hva := hva'
 generalize s.reg ra = va at GA hva ⊢
 have HB := κ hb
 have HB1 := κ (show (s.gets ra).sp = some b from hb)
 generalize s.gets ra = s1 at GA HB1 ⊢
 have HA := κ ha
 have HN := κ hn
 clear hb ha hn sp hva'
 have HO := κ ho
 have hl := a.l
 have xb := XB.new w x 108
 have u0 := (Upto.refl (fun _ => False) w).alloc (.cells #[.int .i64 x.op, .int .i64 x.d, .int .i64 x.a, .int .i64 x.b, .int .i64 x.c, .int .i64 x.n, .int .u32 x.k, .int .u32 x.x] 108)
 have a0 := a.upto u0 id
 clear ho a
 go_enter Try.func155, Try.ntmps155
 go_upto_region 1 with fail
 generalize (w.alloc (.cells #[.int .i64 x.op, .int .i64 x.d, .int .i64 x.a, .int .i64 x.b, .int .i64 x.c, .int .i64 x.n, .int .u32 x.k, .int .u32 x.x] 108)) = WA at xb u0 a0 sp0 ⊢
 have XX := κ xb
 have A := κ a0
 have U := κ (u0.mono (T := fun i => i = h) fun _ _ h => h.elim)
 have x0 := xb.c0
 rw [HO.out] at x0
 have lx := xb.l
 clear xb u0 a0
 have SP := κ sp0
 clear sp0
 have lh := A.out.l
 go_upto_region 17 with fail
 go_region_held3 (fun W => W.cell? ⟨h, 50, none⟩ = some (.map (some b)) ∧ W.cell? ⟨w.heap.size, 5, none⟩ = some (.int .i64 (rn : Int)) ∧ W.cell? ⟨w.heap.size, 2, none⟩ = some (.int .i64 (ra : Int))) (first | exact m9 XX.out A.out HB.out HA.out HN.out | exact m9 XX.out.drew A.out.drew HB.out HA.out HN.out | exact m9 X2.out A2.out HB1.out HA.out HN.out | exact m9 X9.out A9.out HB1.out HA.out HN.out)
  ((first | (go_at_call 151; (with_reducible refine (GA.out _ (by first | exact A.out | exact A.out.drew)).mono ?_); rintro e w2 ⟨rfl, a2, u2⟩; have A2 := κ a2; have U2 := κ (show Upto (fun i => i = h) w w2 from by first | exact U.out.trans u2 | exact U.out.drew.trans u2); have X2 := κ (show XB w.heap.size x w2 from by first | exact XX.out.upto u2 (by omega) | exact XX.out.drew.upto u2 (by omega)); have sp2 : SpR b f m w2 := (by first | exact SP.out.upto u2 hbh | exact (SP.out.upto (Upto.refl (fun _ => False) _).drew id).upto u2 hbh); obtain ⟨w9, hmu, sp9, u9⟩ := sp2.put rn ln va hva hm; have X9 := κ (X2.out.upto u9 (by omega)); have A9 := κ (A2.out.upto u9 (fun e => hbh e.symm)); have SP9 := κ sp9; have U9 := κ ((U2.out.mono (T := fun i => i = h ∨ i = b) fun _ _ e => .inl e).trans (u9.mono (T := fun i => i = h ∨ i = b) fun _ _ e => .inr e)); clear sp2 sp9 u9; clear a2 u2)))
 go_end0
 exact ⟨rfl, A9.out, SP9.out, U9.out⟩
theorem moves_97 (x : Cd) (rd : Nat) (hd : x.d = rd) (ld : rd < 16) (hc : ∀ j, 0 ≤ s.c j ∧ s.c j < 4294967296) (w : World) (a : MR h K s w) (ho : x.op = 97) :
  Calls Try.prog 155 #[.pointer (some ⟨h, 0, none⟩), .agg #[.int .i64 x.op, .int .i64 x.d, .int .i64 x.a, .int .i64 x.b, .int .i64 x.c, .int .i64 x.n, .int .u32 x.k, .int .u32 x.x]] w fun e w' => e = .returned (.tuple #[]) ∧ MR h K (s.sets rd (fl (s.c 8) (s.c 9) (s.c 10) (s.c 11))) w' ∧ Upto (fun i => i = h) w w' := by
 have FC := fun w => Fl.flags_any (s.c 8) (s.c 9) (s.c 10) (s.c 11) w (hc 9).1 (hc 9).2 (hc 10).1 (hc 10).2 (hc 11).1 (hc 11).2
 have SE : Hid (∀ z, ∀ w, MR h K s w → Calls Try.prog 153 #[.pointer (some ⟨h, 0, none⟩), .int .i64 rd, .int .u32 z] w fun e w' => e = .returned (.tuple #[]) ∧ MR h K (s.sets rd z) w' ∧ Upto (fun i => i = h) w w') := fun z w a => set_any rd z w a ld
 obtain ⟨z, hz⟩ : ∃ z, fl (s.c 8) (s.c 9) (s.c 10) (s.c 11) = z := ⟨_, rfl⟩
 rw [hz] at FC ⊢
 obtain ⟨h80, h81⟩ := hc 8
 have FC : Hid (∀ w, Calls Try.prog 125 #[.int .i64 (IntKind.i64.wrap (s.c 8)), .int .u32 (s.c 9), .int .u32 (s.c 10), .int .u32 (s.c 11)] w fun e w' => e = .returned (.int .u32 z) ∧ w = w') := fun w => by
  rw [show IntKind.i64.wrap (s.c 8) = s.c 8 from IntWalk.i64_in _ (by omega)]
  exact FC w
 have SE : Hid (∀ w, MR h K s w → Calls Try.prog 153 #[.pointer (some ⟨h, 0, none⟩), .int .i64 rd, .int .u32 z] w fun e w' => e = .returned (.tuple #[]) ∧ MR h K (s.sets rd z) w' ∧ Upto (fun i => i = h) w w') := SE.out z
 have HD := κ hd
 clear hd hz hc
 have HO := κ ho
 have hl := a.l
 have xb := XB.new w x 108
 have u0 := (Upto.refl (fun _ => False) w).alloc (.cells #[.int .i64 x.op, .int .i64 x.d, .int .i64 x.a, .int .i64 x.b, .int .i64 x.c, .int .i64 x.n, .int .u32 x.k, .int .u32 x.x] 108)
 have a0 := a.upto u0 id
 clear ho a
 go_enter Try.func155, Try.ntmps155
 go_upto_region 1 with fail
 generalize (w.alloc (.cells #[.int .i64 x.op, .int .i64 x.d, .int .i64 x.a, .int .i64 x.b, .int .i64 x.c, .int .i64 x.n, .int .u32 x.k, .int .u32 x.x] 108)) = WA at xb u0 a0 ⊢
 have XX := κ xb
 have A := κ a0
 have U := κ (u0.mono (T := fun i => i = h) fun _ _ h => h.elim)
 have x0 := xb.c0
 rw [HO.out] at x0
 have lx := xb.l
 clear xb u0 a0
 go_upto_region 19 with fail
 go_region_held3 (fun W => W.cell? ⟨w.heap.size, 1, none⟩ = some (.int .i64 (rd : Int)) ∧ W.cell? ⟨h, 10, none⟩ = some (.int .u32 (s.c 8)) ∧ W.cell? ⟨h, 11, none⟩ = some (.int .u32 (s.c 9)) ∧ W.cell? ⟨h, 12, none⟩ = some (.int .u32 (s.c 10)) ∧ W.cell? ⟨h, 13, none⟩ = some (.int .u32 (s.c 11))) (first | exact m97 XX.out A.out HD.out | exact m97 XX.out.drew A.out.drew HD.out | exact (m97 (s := s.sets rd z) X3.out A3.out HD.out))
  ((first | (go_at_call 153; (with_reducible refine (SE.out _ (by first | exact A.out | exact A.out.drew)).mono ?_); rintro e w3 ⟨rfl, a3, u3⟩; have A3 := κ a3; have U3 := κ (show Upto (fun i => i = h) w w3 from by first | exact U.out.trans u3 | exact U.out.drew.trans u3); have X3 := κ (show XB w.heap.size x w3 from by first | exact XX.out.upto u3 (by omega) | exact XX.out.drew.upto u3 (by omega)); clear a3 u3) | (go_at_call 125; (with_reducible refine (FC.out _).mono ?_); rintro e w2 ⟨rfl, rfl⟩)))
 go_end0
 exact ⟨rfl, A3.out, U3.out⟩
end Go.Proofs.Ytcjcmnnhmajocab.Hr
