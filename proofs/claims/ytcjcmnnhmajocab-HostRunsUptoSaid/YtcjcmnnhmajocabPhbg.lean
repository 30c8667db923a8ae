/- The host's machine: one instruction. -/
import Derived.Test.YtcjcmnnhmajocabPhao
import Derived.Test.YtcjcmnnhmajocabPhbb
import Derived.Test.YtcjcmnnhmajocabPhbf
set_option linter.unusedVariables false
set_option linter.unusedSimpArgs false
set_option maxRecDepth 100000
set_option maxHeartbeats 16000000
namespace Go.Proofs.Ytcjcmnnhmajocab.Hr
open Go.RowKit Kt Me Fl Ev Ho
variable {h : Nat} {K : Hk} {s : Pm}
theorem l4 {hx ra : Nat} {x : Cd} {W : World} {h : Nat} {K : Hk} {s : Pm} (X : XB hx x W) (A : MR h K s W) (ha : x.a = ra) : W.cell? ⟨h, 14, none⟩ = some (.pointer (some ⟨K.p, 0, none⟩)) ∧ W.cell? ⟨hx, 2, none⟩ = some (.int .i64 (ra : Int)) := ⟨A.m, ha ▸ X.c2⟩
def ifM (c : Bool) (a b : MM) : MM := if c then a else b
theorem m2 {hx ra rd : Nat} {x : Cd} {W : World} (X : XB hx x W) (ha : x.a = ra) (hd : x.d = rd) : W.cell? ⟨hx, 2, none⟩ = some (.int .i64 (ra : Int)) ∧ W.cell? ⟨hx, 1, none⟩ = some (.int .i64 (rd : Int)) := ⟨ha ▸ X.c2, hd ▸ X.c1⟩
theorem KB.drew {h : Nat} {k x : Int} {W : World} (a : KB h k x W) : KB h k x W.drew := a.upto (Upto.refl (fun _ => False) W).drew id
theorem do_ld (x : Cd) (M : MM) (ra rd : Nat) (w : World) (a : MR h K s w) (ho : 80 ≤ x.op ∧ x.op < 85) (hm : HC K.p M w) (hM : MOk M) (hp : K.p ≠ h) (ha : x.a = ra) (hd : x.d = rd) (la : ra < 16) (ld : rd < 16) (hrg : 0 ≤ s.reg ra ∧ s.reg ra < 4294967296) :
  Calls Try.prog 90 #[.pointer (some ⟨h, 0, none⟩), .agg #[.int .i64 x.op, .int .i64 x.d, .int .i64 x.a, .int .i64 x.b, .int .i64 x.c, .int .i64 x.n, .int .u32 x.k, .int .u32 x.x]] w fun e w' => e = .returned (lfV (ifL (St.stK 5 (srch M 1 (s.reg ra) (ldn (x.op - 80)).toNat) != 0 && !(s.gets ra).stuck) ⟨3, St.stK 5 (srch M 1 (s.reg ra) (ldn (x.op - 80)).toNat), St.stX (srch M 1 (s.reg ra) (ldn (x.op - 80)).toNat), x.k, wrap64 (s.done + x.n)⟩)) ∧ MR h K (ifS (St.stK 5 (srch M 1 (s.reg ra) (ldn (x.op - 80)).toNat) != 0 && !(s.gets ra).stuck) (s.gets ra) ((s.gets ra).sets rd (wid (x.op - 80) (ldv M (s.reg ra) (ldn (x.op - 80)))))) w' ∧ HC K.p M w' ∧ Upto (fun i => i = h) w w' := by
 obtain ⟨q80, q88, q16, q2, q6, r88, r96, r3, r9, e5, e97⟩ : decide (80 ≤ x.op) = true ∧ decide (88 ≤ x.op) = false ∧ decide (16 ≤ x.op) = true ∧ decide (2 ≤ x.op) = true ∧ decide (6 ≤ x.op) = true ∧ decide (x.op < 88) = true ∧ decide (x.op < 96) = true ∧ decide (x.op ≤ 3) = false ∧ decide (x.op ≤ 9) = false ∧ (x.op == 5) = false ∧ (x.op == 97) = false := by simp; omega
 have GA : Hid (∀ w, MR h K s w → Calls Try.prog 151 #[.pointer (some ⟨h, 0, none⟩), .int .i64 ra] w fun e w' => e = .returned (.int .u32 (s.reg ra)) ∧ MR h K (s.gets ra) w' ∧ Upto (fun i => i = h) w w') := fun w a => get_any ra w a la
 have CL := (fun w h => ld_any K.p M (x.op - 80) (s.reg ra) w h hM (by omega) (by omega) hrg.1 hrg.2)
 simp only [St.stpV_eq] at CL
 generalize St.stK 5 (srch M 1 (s.reg ra) (ldn (x.op - 80)).toNat) = kk at CL ⊢
 generalize St.stX (srch M 1 (s.reg ra) (ldn (x.op - 80)).toNat) = xq at CL ⊢
 generalize wid (x.op - 80) (ldv M (s.reg ra) (ldn (x.op - 80))) = v at CL ⊢
 have ew : IntKind.i64.wrap (x.op - 80) = x.op - 80 := IntWalk.i64_in _ (by omega)
 have CL : Hid (∀ w, HC K.p M w → Calls Try.prog 113 #[.pointer (some ⟨K.p, 0, none⟩), .int .i64 (IntKind.i64.wrap (x.op - 80)), .int .u32 (s.reg ra)] w fun e w' => e = .returned (.tuple #[.int .u32 v, .agg #[.int .i64 kk, .int .u32 xq]]) ∧ Below w.heap.size w w') := fun w h => by
  rw [ew]; exact CL w h
 clear ew
 have SE : Hid (∀ w, MR h K (s.gets ra) w → Calls Try.prog 153 #[.pointer (some ⟨h, 0, none⟩), .int .i64 rd, .int .u32 v] w fun e w' => e = .returned (.tuple #[]) ∧ MR h K ((s.gets ra).sets rd v) w' ∧ Upto (fun i => i = h) w w') := fun w a => set_any rd v w a ld
 have D1 : Hid ((s.gets ra).done = s.done) := rfl
 generalize (s.gets ra).sets rd v = s2 at SE ⊢
 generalize s.gets ra = s1 at GA SE D1 ⊢
 generalize s.reg ra = va at GA CL
 obtain ⟨c, hc⟩ : ∃ c, (kk != 0 && !s1.stuck) = c := ⟨_, rfl⟩
 rw [hc]
 have HCC := κ hc
 have HA := κ ha
 have HD := κ hd
 clear ha hd hc
 obtain ⟨ho0, ho1⟩ := ho
 have hm0 := hm.upto (two_new w x).2.2 id
 obtain ⟨xb, lb, u0⟩ := two_new w x
 have a0 := a.upto u0 id
 have ld := a.l
 clear a
 go_enter Try.func90, Try.ntmps90
 go_upto_region 1 with fail
 generalize hWA : (w.alloc (.cells #[.int .i64 x.op, .int .i64 x.d, .int .i64 x.a, .int .i64 x.b, .int .i64 x.c, .int .i64 x.n, .int .u32 x.k, .int .u32 x.x] 108)).alloc (.cells #[.int .i64 0, .int .i64 0, .int .u32 0, .int .u32 0, .int .i64 0, .int .i64 0] 52) = WA at xb lb u0 a0 hm0 ⊢
 have hA : w.heap.size + 1 < WA.heap.size := lb.l
 clear hWA
 have XX := κ xb
 have A := κ a0
 have LR := κ lb
 have U := κ (u0.mono (T := fun i => i = h) fun _ _ h => h.elim)
 clear xb lb u0 a0
 have HM := κ hm0
 have hpw : K.p < w.heap.size := hm.2.2.2.2.2.2
 clear hm0 hm hrg hM
 have x0 := XX.out.c0
 have lx := XX.out.l
 have lh := A.out.l
 go_upto_region 4 with fail
 go_region_held3 (fun W => W.cell? ⟨h, 14, none⟩ = some (.pointer (some ⟨K.p, 0, none⟩)) ∧ W.cell? ⟨w.heap.size, 2, none⟩ = some (.int .i64 (ra : Int))) (first | exact l4 XX.out A.out HA.out | exact l4 XX.out.drew A.out.drew HA.out | exact l4 (XX.out.upto ((Upto.refl (fun _ => False) WA).drew.alloc _) id) (A.out.upto ((Upto.refl (fun _ => False) WA).drew.alloc _) id) HA.out | exact l4 X2.out A2.out HA.out | exact l4 (X2.out.upto ((Upto.refl (fun _ => False) w2).alloc _) id) (A2.out.upto ((Upto.refl (fun _ => False) w2).alloc _) id) HA.out | exact l4 X3.out A3.out HA.out | exact l4 (X3.out.upto ((Upto.refl (fun _ => False) w3).alloc _) id) (A3.out.upto ((Upto.refl (fun _ => False) w3).alloc _) id) HA.out | exact l4 (X3.out.upto (((Upto.refl (fun i => i = WA.heap.size) w3).setCell (q := ⟨WA.heap.size, 0, none⟩) (.inl rfl) _).setCell (q := ⟨WA.heap.size, 1, none⟩) (.inl rfl) _) (by omega)) (A3.out.upto (((Upto.refl (fun i => i = WA.heap.size) w3).setCell (q := ⟨WA.heap.size, 0, none⟩) (.inl rfl) _).setCell (q := ⟨WA.heap.size, 1, none⟩) (.inl rfl) _) (by omega)) HA.out | exact l4 (X3.out.upto (((Upto.refl (fun i => i = w2.heap.size) w3).setCell (q := ⟨w2.heap.size, 0, none⟩) (.inl rfl) _).setCell (q := ⟨w2.heap.size, 1, none⟩) (.inl rfl) _) n2x) (A3.out.upto (((Upto.refl (fun i => i = w2.heap.size) w3).setCell (q := ⟨w2.heap.size, 0, none⟩) (.inl rfl) _).setCell (q := ⟨w2.heap.size, 1, none⟩) (.inl rfl) _) n2h) HA.out)
  ((first | (go_at_call 151; (with_reducible refine (GA.out _ (by first | exact A.out.drew | exact A.out.upto ((Upto.refl (fun _ => False) WA).drew.alloc _) id)).mono ?_); rintro e w2 ⟨rfl, a2, u2⟩; have A2 := κ a2; have ux : Upto (fun i => i = h) WA w2 := (by first | exact ((Upto.refl (fun i => i = h) WA).drew).trans u2 | exact ((Upto.refl (fun i => i = h) WA).drew.alloc _).trans u2); have X2 := κ (XX.out.upto ux (by omega)); have L2 := κ (LR.out.upto ux (by omega)); have M2 := κ (HM.out.upto ux hp); have U2 := κ (U.out.trans ux); have n2h : ¬ h = w2.heap.size := (by have := ux.size; omega); have n2x : ¬ w.heap.size = w2.heap.size := (by have := ux.size; omega); (first | (have KB0 : KB WA.heap.size 0 0 w2 := (KB.new WA.drew 0 0 _).upto u2 (by show ¬ WA.heap.size = h; omega); have kq0 := KB0.c0; have kq1 := KB0.c1; have kz0 := KB0.z 0; have kz1 := KB0.z 1; have lq := KB0.l) | skip); clear a2 u2 ux) | (go_at_call 113; (with_reducible refine (CL.out _ (by first | exact M2.out | exact M2.out.upto ((Upto.refl (fun _ => False) w2).alloc _) id)).mono ?_); rintro e w3 ⟨rfl, b3⟩; have u3 := Upto.of_below (S := fun _ => False) b3; have ux : Upto (fun _ => False) w2 w3 := (by first | exact u3 | exact ((Upto.refl (fun _ => False) w2).alloc _).trans u3); have A3 := κ (A2.out.upto ux id); have X3 := κ (X2.out.upto ux id); have L3 := κ (L2.out.upto ux id); have M3 := κ (M2.out.upto ux id); have U3 := κ (U2.out.trans (ux.mono (T := fun i => i = h) fun _ _ h => h.elim)); (first | (have KB0 := KB0.upto ux id; have kq0 := KB0.c0; have kq1 := KB0.c1; have kz0 := KB0.z 0; have kz1 := KB0.z 1; have lq := KB0.l) | (have KB0 : KB w2.heap.size 0 0 w3 := (KB.new w2 0 0 _).upto u3 id; have kq0 := KB0.c0; have kq1 := KB0.c1; have kz0 := KB0.z 0; have kz1 := KB0.z 1; have lq := KB0.l) | skip); clear b3 u3 ux)))
 have hl2 : w.heap.size + 1 < w2.heap.size := L2.out.l
 have hl3 : w.heap.size + 1 < w3.heap.size := L3.out.l
 have hh3 : h < w3.heap.size := A3.out.l
 have hh2 : h < w2.heap.size := A2.out.l
 have vs := (Upto.refl (fun i => i = w3.heap.size) w3).alloc (.cells #[.int .i64 kk, .int .u32 xq] 46)
 have KD := κ (KB.new w3 kk xq 46)
 have XX := κ (X3.out.upto vs (by omega))
 have A := κ (A3.out.upto vs (by omega))
 have LR := κ (L3.out.upto vs (by omega))
 have HM := κ (HC.upto (S := fun i => i = w3.heap.size) M3.out vs (by omega))
 have hwD : w.heap.size ≤ w3.heap.size := by omega
 have U := κ (((U3.out.mono (T := fun i => i = h ∨ i = w3.heap.size) fun _ _ e => .inl e).trans (vs.mono (T := fun i => i = h ∨ i = w3.heap.size) fun _ _ e => .inr e)).mono (T := fun i => i = h) fun i hi e => e.elim id fun e => absurd hi (by omega))
 clear vs X3 A3 L3 M3 U3 X2 A2 L2 M2 U2 hwD
 generalize w3.alloc (.cells #[.int .i64 kk, .int .u32 xq] 46) = w4 at KD XX A LR HM U ⊢
 generalize w3.heap.size = gd at KD
 rotate_left
 have hl2 : w.heap.size + 1 < w2.heap.size := L2.out.l
 have hl3 : w.heap.size + 1 < w3.heap.size := L3.out.l
 have hh3 : h < w3.heap.size := A3.out.l
 have hh2 : h < w2.heap.size := A2.out.l
 have vs := ((Upto.refl (fun i => i = w2.heap.size) w3).setCell (q := ⟨w2.heap.size, 0, none⟩) (.inl rfl) (.int .i64 kk)).setCell (q := ⟨w2.heap.size, 1, none⟩) (.inl rfl) (.int .u32 xq)
 have KD := κ (KB0.set kk xq)
 have XX := κ (X3.out.upto vs (by omega))
 have A := κ (A3.out.upto vs (by omega))
 have LR := κ (L3.out.upto vs (by omega))
 have HM := κ (HC.upto (S := fun i => i = w2.heap.size) M3.out vs (by omega))
 have hwD : w.heap.size ≤ w2.heap.size := by omega
 have U := κ (((U3.out.mono (T := fun i => i = h ∨ i = w2.heap.size) fun _ _ e => .inl e).trans (vs.mono (T := fun i => i = h ∨ i = w2.heap.size) fun _ _ e => .inr e)).mono (T := fun i => i = h) fun i hi e => e.elim id fun e => absurd hi (by omega))
 clear KB0 kq0 kq1 kz0 kz1 lq
 clear vs X3 A3 L3 M3 U3 X2 A2 L2 M2 U2 hwD
 generalize (w3.setCell ⟨w2.heap.size, 0, none⟩ (.int .i64 kk)).setCell ⟨w2.heap.size, 1, none⟩ (.int .u32 xq) = w4 at KD XX A LR HM U ⊢
 generalize w2.heap.size = gd at KD
 rotate_left
 have hl2 : w.heap.size + 1 < w2.heap.size := L2.out.l
 have hl3 : w.heap.size + 1 < w3.heap.size := L3.out.l
 have hh3 : h < w3.heap.size := A3.out.l
 have hh2 : h < w2.heap.size := A2.out.l
 have vs := ((Upto.refl (fun i => i = WA.heap.size) w3).setCell (q := ⟨WA.heap.size, 0, none⟩) (.inl rfl) (.int .i64 kk)).setCell (q := ⟨WA.heap.size, 1, none⟩) (.inl rfl) (.int .u32 xq)
 have KD := κ (KB0.set kk xq)
 have XX := κ (X3.out.upto vs (by omega))
 have A := κ (A3.out.upto vs (by omega))
 have LR := κ (L3.out.upto vs (by omega))
 have HM := κ (HC.upto (S := fun i => i = WA.heap.size) M3.out vs (by omega))
 have hwD : w.heap.size ≤ WA.heap.size := by omega
 have U := κ (((U3.out.mono (T := fun i => i = h ∨ i = WA.heap.size) fun _ _ e => .inl e).trans (vs.mono (T := fun i => i = h ∨ i = WA.heap.size) fun _ _ e => .inr e)).mono (T := fun i => i = h) fun i hi e => e.elim id fun e => absurd hi (by omega))
 clear KB0 kq0 kq1 kz0 kz1 lq
 clear vs X3 A3 L3 M3 U3 X2 A2 L2 M2 U2 hwD
 generalize (w3.setCell ⟨WA.heap.size, 0, none⟩ (.int .i64 kk)).setCell ⟨WA.heap.size, 1, none⟩ (.int .u32 xq) = w4 at KD XX A LR HM U ⊢
 generalize WA.heap.size = gd at KD
 rotate_left
 all_goals
  have k0 := KD.out.c0
  have k1 := KD.out.c1
  have lk := KD.out.l
  have hlw : w.heap.size + 1 < w4.heap.size := LR.out.l
  by_cases hz : kk = 0
  ·have e1 : (kk != 0) = false := by simp [hz]
   have HC2 := κ (show c = false from by rw [← HCC.out, e1]; rfl)
   clear hz
   have x1 := XX.out.c1
   rw [HD.out] at x1
   have lx := XX.out.l
   have lh6 := A.out.l
   go_upto_region 18 with (go_at_call 153; (with_reducible refine (SE.out _ A.out).mono ?_); rintro e w7 ⟨rfl, a7, u7⟩; have A := κ a7; have LR := κ (LR.out.upto u7 (by omega)); have HM := κ (HM.out.upto u7 hp); have U := κ (U.out.trans u7); have hl7 : w.heap.size + 1 < w7.heap.size := LR.out.l; clear a7 u7)
   clear x1 lx lh6
   generalize w7 = WX at A LR HM U hl7 ⊢
   obtain ⟨g0, g1, g2, g3, g4, g5⟩ := LR.out.all
   have zg := LR.out.z
   have lg := LR.out.l
   go_wp2_with fail
   clear g0 g1 g2 g3 g4 g5 zg lg
   have V9 := up6' (w.heap.size + 1) WX 0 0 0 0 0 0
   have A9 := A.out.upto V9 (by omega)
   have M9 := HC.upto (S := fun i => i = w.heap.size + 1) HM.out V9 (by omega)
   have U9 := up6 (h := w.heap.size + 1) U.out (.inr (Nat.le_succ _)) 0 0 0 0 0 0
   clear V9
   have LR9 := LR.out.put 0 0 0 0 0 0
   have up := up6' (w.heap.size + 1) WX 0 0 0 0 0 0
   rw [p6_eq]
   generalize p6 _ _ _ _ _ _ _ _ = W9 at LR9 up A9 M9 U9 ⊢
   obtain ⟨g0, g1, g2, g3, g4, g5⟩ := LR9.all
   exact bodyPost_ret (v := .tuple #[.agg #[.int .i64 0, .int .i64 0, .int .u32 0, .int .u32 0, .int .i64 0, .int .i64 0], .bool false]) (by simp [results, Try.results90, go_sem, g0, g1, g2, g3, g4, g5]) rfl ⟨by rw [HC2.out]; rfl, by rw [HC2.out]; exact A9, M9, U9⟩
  ·have e1 : (kk != 0) = true := by simp [hz]
   obtain ⟨bst, hbst⟩ : ∃ b, s1.stuck = b := ⟨_, rfl⟩
   have cst := A.out.st
   rw [hbst] at cst
   have HB := κ hbst
   have lh6 := A.out.l
   clear hbst hz
   cases bst
   ·have HC2 := κ (show c = true from by rw [← HCC.out, e1, HB.out]; rfl)
    go_upto_region 6 with fail
    clear cst lh6
    have ON := fun w a => on_any (h := h) (K := K) (s := s1) 3 kk xq x.op x.d x.a x.b x.c x.n x.k x.x w a
    rw [D1.out] at ON
    have ON := κ ON
    obtain ⟨x0, x1, x2, x3, x4, x5, x6, x7⟩ := XX.out.all
    have lx := XX.out.l
    go_upto_region 6 with fail
    go_wp2_with (go_at_call 152; (with_reducible refine (ON.out _ A.out).mono ?_); rintro e w7 ⟨rfl, b3⟩; have u3 := Upto.of_below (S := fun _ => False) b3; have A3 := A.out.upto u3 id; have LR := κ (LR.out.upto u3 id); have HM := κ (HC.upto (S := fun _ => False) HM.out u3 id); have U3 := U.out.trans (u3.mono (T := fun i => i = h) fun _ _ h => h.elim); obtain ⟨g0, g1, g2, g3, g4, g5⟩ := LR.out.all; have zg := LR.out.z; have lg := LR.out.l; clear b3 u3)
    clear g0 g1 g2 g3 g4 g5 zg lg
    clear x0 x1 x2 x3 x4 x5 x6 x7 lx
    have V9 := up6' (w.heap.size + 1) w7 3 kk xq x.k (wrap64 (s.done + x.n)) 0
    have A9 := A3.upto V9 (by omega)
    have M9 := HC.upto (S := fun i => i = w.heap.size + 1) HM.out V9 (by omega)
    have U9 := up6 (h := w.heap.size + 1) U3 (.inr (Nat.le_succ _)) 3 kk xq x.k (wrap64 (s.done + x.n)) 0
    clear V9
    have LR9 := LR.out.put 3 kk xq x.k (wrap64 (s.done + x.n)) 0
    have up := up6' (w.heap.size + 1) w7 3 kk xq x.k (wrap64 (s.done + x.n)) 0
    rw [p6_eq]
    generalize p6 _ _ _ _ _ _ _ _ = W9 at LR9 up A9 M9 U9 ⊢
    obtain ⟨g0, g1, g2, g3, g4, g5⟩ := LR9.all
    exact bodyPost_ret (v := .tuple #[.agg #[.int .i64 3, .int .i64 kk, .int .u32 xq, .int .u32 x.k, .int .i64 (wrap64 (s.done + x.n)), .int .i64 0], .bool true]) (by simp [results, Try.results90, go_sem, g0, g1, g2, g3, g4, g5]) rfl ⟨by rw [HC2.out]; rfl, by rw [HC2.out]; exact A9, M9, U9⟩
   ·have HC2 := κ (show c = false from by rw [← HCC.out, e1, HB.out]; rfl)
    go_upto_region 7 with fail
    clear cst lh6
    have x1 := XX.out.c1
    rw [HD.out] at x1
    have lx := XX.out.l
    have lh6 := A.out.l
    go_upto_region 18 with (go_at_call 153; (with_reducible refine (SE.out _ A.out).mono ?_); rintro e w7 ⟨rfl, a7, u7⟩; have A := κ a7; have LR := κ (LR.out.upto u7 (by omega)); have HM := κ (HM.out.upto u7 hp); have U := κ (U.out.trans u7); have hl7 : w.heap.size + 1 < w7.heap.size := LR.out.l; clear a7 u7)
    clear x1 lx lh6
    generalize w7 = WX at A LR HM U hl7 ⊢
    obtain ⟨g0, g1, g2, g3, g4, g5⟩ := LR.out.all
    have zg := LR.out.z
    have lg := LR.out.l
    go_wp2_with fail
    clear g0 g1 g2 g3 g4 g5 zg lg
    have V9 := up6' (w.heap.size + 1) WX 0 0 0 0 0 0
    have A9 := A.out.upto V9 (by omega)
    have M9 := HC.upto (S := fun i => i = w.heap.size + 1) HM.out V9 (by omega)
    have U9 := up6 (h := w.heap.size + 1) U.out (.inr (Nat.le_succ _)) 0 0 0 0 0 0
    clear V9
    have LR9 := LR.out.put 0 0 0 0 0 0
    have up := up6' (w.heap.size + 1) WX 0 0 0 0 0 0
    rw [p6_eq]
    generalize p6 _ _ _ _ _ _ _ _ = W9 at LR9 up A9 M9 U9 ⊢
    obtain ⟨g0, g1, g2, g3, g4, g5⟩ := LR9.all
    exact bodyPost_ret (v := .tuple #[.agg #[.int .i64 0, .int .i64 0, .int .u32 0, .int .u32 0, .int .i64 0, .int .i64 0], .bool false]) (by simp [results, Try.results90, go_sem, g0, g1, g2, g3, g4, g5]) rfl ⟨by rw [HC2.out]; rfl, by rw [HC2.out]; exact A9, M9, U9⟩
theorem do_st (x : Cd) (M : MM) (ra rd : Nat) (w : World) (a : MR h K s w) (ho : 88 ≤ x.op ∧ x.op < 91) (hm : HC K.p M w) (hM : MOk M) (hp : K.p ≠ h) (ha : x.a = ra) (hd : x.d = rd) (la : ra < 16) (ld : rd < 16) (hrg : RegOk s) :
  Calls Try.prog 90 #[.pointer (some ⟨h, 0, none⟩), .agg #[.int .i64 x.op, .int .i64 x.d, .int .i64 x.a, .int .i64 x.b, .int .i64 x.c, .int .i64 x.n, .int .u32 x.k, .int .u32 x.x]] w fun e w' => e = .returned (lfV (ifL (!((s.gets ra).gets rd).stuck && St.stK 6 (sto M (s.reg ra) (stn (x.op - 88))) != 0) ⟨3, St.stK 6 (sto M (s.reg ra) (stn (x.op - 88))), St.stX (sto M (s.reg ra) (stn (x.op - 88))), x.k, wrap64 (s.done + x.n)⟩)) ∧ MR h K ((s.gets ra).gets rd) w' ∧ HC K.p (ifM ((s.gets ra).gets rd).stuck M (stm M (s.reg ra) (stn (x.op - 88)) (s.reg rd))) w' ∧ Upto (fun i => i = h ∨ i = K.p) w w' := by
 obtain ⟨q80, q88, q16, q2, q6, r88, r96, r3, r9, e5, e97⟩ : decide (80 ≤ x.op) = true ∧ decide (88 ≤ x.op) = true ∧ decide (16 ≤ x.op) = true ∧ decide (2 ≤ x.op) = true ∧ decide (6 ≤ x.op) = true ∧ decide (x.op < 88) = false ∧ decide (x.op < 96) = true ∧ decide (x.op ≤ 3) = false ∧ decide (x.op ≤ 9) = false ∧ (x.op == 5) = false ∧ (x.op == 97) = false := by simp; omega
 have GA : Hid (∀ w, MR h K s w → Calls Try.prog 151 #[.pointer (some ⟨h, 0, none⟩), .int .i64 ra] w fun e w' => e = .returned (.int .u32 (s.reg ra)) ∧ MR h K (s.gets ra) w' ∧ Upto (fun i => i = h) w w') := fun w a => get_any ra w a la
 have GB : Hid (∀ w, MR h K (s.gets ra) w → Calls Try.prog 151 #[.pointer (some ⟨h, 0, none⟩), .int .i64 rd] w fun e w' => e = .returned (.int .u32 (s.reg rd)) ∧ MR h K ((s.gets ra).gets rd) w' ∧ Upto (fun i => i = h) w w') := fun w a => get_any rd w a ld
 have CS := (fun w h => st_any K.p M (x.op - 88) (s.reg ra) (s.reg rd) w h hM (by omega) (by omega) (hrg ra).1 (hrg ra).2 (hrg rd).1 (hrg rd).2)
 simp only [St.stpV_eq] at CS
 generalize St.stK 6 (sto M (s.reg ra) (stn (x.op - 88))) = kk at CS ⊢
 generalize St.stX (sto M (s.reg ra) (stn (x.op - 88))) = xq at CS ⊢
 generalize stm M (s.reg ra) (stn (x.op - 88)) (s.reg rd) = M' at CS ⊢
 have CS := κ CS
 have D1 : Hid (((s.gets ra).gets rd).done = s.done) := rfl
 generalize (s.gets ra).gets rd = s1 at GB D1 ⊢
 generalize s.gets ra = s0 at GA GB
 generalize s.reg ra = va at GA CS
 generalize s.reg rd = vd at GB CS
 obtain ⟨c, hc⟩ : ∃ c, (!s1.stuck && kk != 0) = c := ⟨_, rfl⟩
 rw [hc]
 have HCC := κ hc
 obtain ⟨bst, hbst⟩ : ∃ b, s1.stuck = b := ⟨_, rfl⟩
 rw [hbst]
 have HB := κ hbst
 have HA := κ ha
 have HD := κ hd
 clear ha hd hc hbst
 obtain ⟨ho0, ho1⟩ := ho
 have hm0 := hm.upto (two_new w x).2.2 id
 obtain ⟨xb, lb, u0⟩ := two_new w x
 have a0 := a.upto u0 id
 have ld := a.l
 clear a
 go_enter Try.func90, Try.ntmps90
 go_upto_region 1 with fail
 generalize hWA : (w.alloc (.cells #[.int .i64 x.op, .int .i64 x.d, .int .i64 x.a, .int .i64 x.b, .int .i64 x.c, .int .i64 x.n, .int .u32 x.k, .int .u32 x.x] 108)).alloc (.cells #[.int .i64 0, .int .i64 0, .int .u32 0, .int .u32 0, .int .i64 0, .int .i64 0] 52) = WA at xb lb u0 a0 hm0 ⊢
 have hA : w.heap.size + 1 < WA.heap.size := lb.l
 clear hWA
 have XX := κ xb
 have A := κ a0
 have LR := κ lb
 have U := κ (u0.mono (T := fun i => i = h) fun _ _ h => h.elim)
 clear xb lb u0 a0
 have HM := κ hm0
 have hpw : K.p < w.heap.size := hm.2.2.2.2.2.2
 clear hm0 hm hrg hM
 have x0 := XX.out.c0
 have lx := XX.out.l
 have lh := A.out.l
 go_upto_region 9 with fail
 go_region_held3 (fun W => W.cell? ⟨w.heap.size, 2, none⟩ = some (.int .i64 (ra : Int)) ∧ W.cell? ⟨w.heap.size, 1, none⟩ = some (.int .i64 (rd : Int))) (first | exact m2 XX.out HA.out HD.out | exact m2 XX.out.drew HA.out HD.out | exact m2 X2.out HA.out HD.out | exact m2 X3.out HA.out HD.out)
  ((first | (go_at_call 151; (with_reducible refine (GB.out _ A2.out).mono ?_); rintro e w3 ⟨rfl, a3, u3⟩; have A3 := κ a3; have X3 := κ (X2.out.upto u3 (by omega)); have L3 := κ (L2.out.upto u3 (by omega)); have M3 := κ (M2.out.upto u3 hp); have U3 := κ (U2.out.trans u3); clear a3 u3) | (go_at_call 151; (with_reducible refine (GA.out _ A.out.drew).mono ?_); rintro e w2 ⟨rfl, a2, u2⟩; have A2 := κ a2; have ux := ((Upto.refl (fun i => i = h) WA).drew).trans u2; have X2 := κ (XX.out.upto ux (by omega)); have L2 := κ (LR.out.upto ux (by omega)); have M2 := κ (HM.out.upto ux hp); have U2 := κ (U.out.trans ux); clear a2 u2 ux)))
 clear x0 lx lh
 have XX := κ X3.out
 have A := κ A3.out
 have LR := κ L3.out
 have HM := κ M3.out
 have U := κ (U3.out.mono (T := fun i => i = h ∨ i = K.p) fun _ _ e => .inl e)
 clear X3 A3 L3 M3 U3 X2 A2 L2 M2 U2
 have cst := A.out.st
 rw [HB.out] at cst
 have lh := A.out.l
 have hl7 : w.heap.size + 1 < w3.heap.size := LR.out.l
 have am := A.out.m
 cases bst
 ·go_upto_region 12 with (go_at_call 115; (with_reducible refine (CS.out _ HM.out).mono ?_); rintro e w4 ⟨rfl, m4, u4⟩)
  clear cst lh am
  have vs := u4.alloc (.cells #[.int .i64 kk, .int .u32 xq] 46)
  have KD := κ (KB.new w4 kk xq 46)
  have XX := κ (XX.out.upto vs (by omega))
  have A := κ (A.out.upto vs (fun e => hp e.symm))
  have LR := κ (LR.out.upto vs (by omega))
  have HM := κ (m4.upto ((Upto.refl (fun _ => False) w4).alloc (.cells #[.int .i64 kk, .int .u32 xq] 46)) id)
  have U := κ (U.out.trans (vs.mono (T := fun i => i = h ∨ i = K.p) fun _ _ e => .inr e))
  clear vs u4 m4
  generalize w4.alloc (.cells #[.int .i64 kk, .int .u32 xq] 46) = w5 at KD XX A LR HM U ⊢
  generalize w4.heap.size = gd at KD
  have k0 := KD.out.c0
  have k1 := KD.out.c1
  have lk := KD.out.l
  have hlw : w.heap.size + 1 < w5.heap.size := LR.out.l
  by_cases hz : kk = 0
  ·have e1 : (kk != 0) = false := by simp [hz]
   have HC2 := κ (show c = false from by rw [← HCC.out, HB.out, e1]; rfl)
   clear hz
   have lh := A.out.l
   go_upto_region 18 with fail
   clear k0 k1 lk lh hl7
   generalize hWX : w5 = WX at A LR HM U hlw ⊢
   obtain ⟨g0, g1, g2, g3, g4, g5⟩ := LR.out.all
   have zg := LR.out.z
   have lg := LR.out.l
   go_wp2_with fail
   clear g0 g1 g2 g3 g4 g5 zg lg
   have V9 := up6' (w.heap.size + 1) WX 0 0 0 0 0 0
   have A9 := A.out.upto V9 (by omega)
   have M9 := HC.upto (S := fun i => i = w.heap.size + 1) HM.out V9 (by omega)
   have U9 := up6 (h := w.heap.size + 1) U.out (.inr (Nat.le_succ _)) 0 0 0 0 0 0
   clear V9
   have LR9 := LR.out.put 0 0 0 0 0 0
   have up := up6' (w.heap.size + 1) WX 0 0 0 0 0 0
   rw [p6_eq]
   generalize p6 _ _ _ _ _ _ _ _ = W9 at LR9 up A9 M9 U9 ⊢
   obtain ⟨g0, g1, g2, g3, g4, g5⟩ := LR9.all
   exact bodyPost_ret (v := .tuple #[.agg #[.int .i64 0, .int .i64 0, .int .u32 0, .int .u32 0, .int .i64 0, .int .i64 0], .bool false]) (by simp [results, Try.results90, go_sem, g0, g1, g2, g3, g4, g5]) rfl ⟨by rw [HC2.out]; rfl, A9, M9, U9⟩
  ·have e1 : (kk != 0) = true := by simp [hz]
   have HC2 := κ (show c = true from by rw [← HCC.out, HB.out, e1]; rfl)
   clear hz
   have lh := A.out.l
   go_upto_region 13 with fail
   clear lh hl7
   have ON := fun w a => on_any (h := h) (K := K) (s := s1) 3 kk xq x.op x.d x.a x.b x.c x.n x.k x.x w a
   rw [D1.out] at ON
   have ON := κ ON
   obtain ⟨x0, x1, x2, x3, x4, x5, x6, x7⟩ := XX.out.all
   have lx := XX.out.l
   go_upto_region 13 with fail
   go_wp2_with (go_at_call 152; (with_reducible refine (ON.out _ A.out).mono ?_); rintro e w7 ⟨rfl, b3⟩; have u3 := Upto.of_below (S := fun _ => False) b3; have A3 := A.out.upto u3 id; have LR := κ (LR.out.upto u3 id); have HM := κ (HC.upto (S := fun _ => False) HM.out u3 id); have U3 := U.out.trans (u3.mono (T := fun i => i = h ∨ i = K.p) fun _ _ h => h.elim); obtain ⟨g0, g1, g2, g3, g4, g5⟩ := LR.out.all; have zg := LR.out.z; have lg := LR.out.l; clear b3 u3)
   clear g0 g1 g2 g3 g4 g5 zg lg
   clear x0 x1 x2 x3 x4 x5 x6 x7 lx
   have V9 := up6' (w.heap.size + 1) w7 3 kk xq x.k (wrap64 (s.done + x.n)) 0
   have A9 := A3.upto V9 (by omega)
   have M9 := HC.upto (S := fun i => i = w.heap.size + 1) HM.out V9 (by omega)
   have U9 := up6 (h := w.heap.size + 1) U3 (.inr (Nat.le_succ _)) 3 kk xq x.k (wrap64 (s.done + x.n)) 0
   clear V9
   have LR9 := LR.out.put 3 kk xq x.k (wrap64 (s.done + x.n)) 0
   have up := up6' (w.heap.size + 1) w7 3 kk xq x.k (wrap64 (s.done + x.n)) 0
   rw [p6_eq]
   generalize p6 _ _ _ _ _ _ _ _ = W9 at LR9 up A9 M9 U9 ⊢
   obtain ⟨g0, g1, g2, g3, g4, g5⟩ := LR9.all
   exact bodyPost_ret (v := .tuple #[.agg #[.int .i64 3, .int .i64 kk, .int .u32 xq, .int .u32 x.k, .int .i64 (wrap64 (s.done + x.n)), .int .i64 0], .bool true]) (by simp [results, Try.results90, go_sem, g0, g1, g2, g3, g4, g5]) rfl ⟨by rw [HC2.out]; rfl, A9, M9, U9⟩
 ·have HC2 := κ (show c = false from by rw [← HCC.out, HB.out]; rfl)
  go_upto_region 18 with fail
  clear cst lh am
  generalize hWX : w3 = WX at A LR HM U hl7 ⊢
  obtain ⟨g0, g1, g2, g3, g4, g5⟩ := LR.out.all
  have zg := LR.out.z
  have lg := LR.out.l
  go_wp2_with fail
  clear g0 g1 g2 g3 g4 g5 zg lg
  have V9 := up6' (w.heap.size + 1) WX 0 0 0 0 0 0
  have A9 := A.out.upto V9 (by omega)
  have M9 := HC.upto (S := fun i => i = w.heap.size + 1) HM.out V9 (by omega)
  have U9 := up6 (h := w.heap.size + 1) U.out (.inr (Nat.le_succ _)) 0 0 0 0 0 0
  clear V9
  have LR9 := LR.out.put 0 0 0 0 0 0
  have up := up6' (w.heap.size + 1) WX 0 0 0 0 0 0
  rw [p6_eq]
  generalize p6 _ _ _ _ _ _ _ _ = W9 at LR9 up A9 M9 U9 ⊢
  obtain ⟨g0, g1, g2, g3, g4, g5⟩ := LR9.all
  exact bodyPost_ret (v := .tuple #[.agg #[.int .i64 0, .int .i64 0, .int .u32 0, .int .u32 0, .int .i64 0, .int .i64 0], .bool false]) (by simp [results, Try.results90, go_sem, g0, g1, g2, g3, g4, g5]) rfl ⟨by rw [HC2.out]; rfl, A9, M9, U9⟩
theorem do_sel (x : Cd) (ra rb rc rd : Nat) (w : World) (a : MR h K s w) (ho : 5 ≤ x.op ∧ x.op < 6) (ha : x.a = ra) (hb : x.b = rb) (hc : x.c = rc) (hd : x.d = rd) (la : ra < 16) (lb : rb < 16) (lc : rc < 16) (ld : rd < 16) (hr : RegOk s) :
  Calls Try.prog 90 #[.pointer (some ⟨h, 0, none⟩), .agg #[.int .i64 x.op, .int .i64 x.d, .int .i64 x.a, .int .i64 x.b, .int .i64 x.c, .int .i64 x.n, .int .u32 x.k, .int .u32 x.x]] w fun e w' => e = .returned (lfV none) ∧ MR h K ((((s.gets ra).gets rb).gets rc).sets rd (valV 6 0 0 (s.reg ra) (s.reg rb) (s.reg rc))) w' ∧ Upto (fun i => i = h) w w' := by
 obtain ⟨q80, q88, q16, q2, q6, r88, r96, r3, r9, e5, e97⟩ : decide (80 ≤ x.op) = false ∧ decide (88 ≤ x.op) = false ∧ decide (16 ≤ x.op) = false ∧ decide (2 ≤ x.op) = true ∧ decide (6 ≤ x.op) = false ∧ decide (x.op < 88) = true ∧ decide (x.op < 96) = true ∧ decide (x.op ≤ 3) = false ∧ decide (x.op ≤ 9) = true ∧ (x.op == 5) = true ∧ (x.op == 97) = false := by simp; omega
 have CV : Hid (∀ w, MR h K s w → Calls Try.prog 154 #[.pointer (some ⟨h, 0, none⟩), .agg #[.int .i64 x.op, .int .i64 x.d, .int .i64 x.a, .int .i64 x.b, .int .i64 x.c, .int .i64 x.n, .int .u32 x.k, .int .u32 x.x]] w fun e w' => e = .returned (.tuple #[]) ∧ MR h K ((((s.gets ra).gets rb).gets rc).sets rd (valV 6 0 0 (s.reg ra) (s.reg rb) (s.reg rc))) w' ∧ Upto (fun i => i = h) w w') := fun w a => value_sel x ra rb rc rd w a ho ha hb hc hd la lb lc ld hr
 clear ha hb hc hd
 generalize hs' : ((((s.gets ra).gets rb).gets rc).sets rd (valV 6 0 0 (s.reg ra) (s.reg rb) (s.reg rc))) = s' at CV ⊢
 clear hs'
 obtain ⟨xb, lb, u0⟩ := two_new w x
 have a0 := a.upto u0 id
 have ld := a.l
 clear a
 go_enter Try.func90, Try.ntmps90
 go_upto_region 1 with fail
 generalize hWA : (w.alloc (.cells #[.int .i64 x.op, .int .i64 x.d, .int .i64 x.a, .int .i64 x.b, .int .i64 x.c, .int .i64 x.n, .int .u32 x.k, .int .u32 x.x] 108)).alloc (.cells #[.int .i64 0, .int .i64 0, .int .u32 0, .int .u32 0, .int .i64 0, .int .i64 0] 52) = WA at xb lb u0 a0  ⊢
 have hA : w.heap.size + 1 < WA.heap.size := lb.l
 clear hWA
 have XX := κ xb
 have A := κ a0
 have LR := κ lb
 have U := κ (u0.mono (T := fun i => i = h) fun _ _ h => h.elim)
 clear xb lb u0 a0
 have lh := A.out.l
 obtain ⟨x0, x1, x2, x3, x4, x5, x6, x7⟩ := XX.out.all
 have lx := XX.out.l
 go_upto_region 18 with (go_at_call 154; (with_reducible refine (CV.out _ A.out).mono ?_); rintro e w7 ⟨rfl, a7, u7⟩; have A := κ a7; have LR := κ (LR.out.upto u7 (by omega)); have U := κ (U.out.trans u7); have hl7 : w.heap.size + 1 < w7.heap.size := LR.out.l; clear a7 u7)
 clear x0 x1 x2 x3 x4 x5 x6 x7 lx
 clear lh
 generalize w7 = WX at A LR U hl7 ⊢
 obtain ⟨g0, g1, g2, g3, g4, g5⟩ := LR.out.all
 have zg := LR.out.z
 have lg := LR.out.l
 go_wp2_with fail
 clear g0 g1 g2 g3 g4 g5 zg lg
 have V9 := up6' (w.heap.size + 1) WX 0 0 0 0 0 0
 have A9 := A.out.upto V9 (by omega)
 have U9 := up6 (h := w.heap.size + 1) U.out (.inr (Nat.le_succ _)) 0 0 0 0 0 0
 clear V9
 have LR9 := LR.out.put 0 0 0 0 0 0
 have up := up6' (w.heap.size + 1) WX 0 0 0 0 0 0
 rw [p6_eq]
 generalize p6 _ _ _ _ _ _ _ _ = W9 at LR9 up A9 U9 ⊢
 obtain ⟨g0, g1, g2, g3, g4, g5⟩ := LR9.all
 exact bodyPost_ret (v := .tuple #[.agg #[.int .i64 0, .int .i64 0, .int .u32 0, .int .u32 0, .int .i64 0, .int .i64 0], .bool false]) (by simp [results, Try.results90, go_sem, g0, g1, g2, g3, g4, g5]) rfl ⟨rfl, A9, U9⟩
theorem do_bin (x : Cd) (ra rb rc rd : Nat) (w : World) (a : MR h K s w) (ho : 16 ≤ x.op ∧ x.op < 32) (ha : x.a = ra) (hb : x.b = rb) (hc : x.c = rc) (hd : x.d = rd) (la : ra < 16) (lb : rb < 16) (lc : rc < 16) (ld : rd < 16) (hr : RegOk s) :
  Calls Try.prog 90 #[.pointer (some ⟨h, 0, none⟩), .agg #[.int .i64 x.op, .int .i64 x.d, .int .i64 x.a, .int .i64 x.b, .int .i64 x.c, .int .i64 x.n, .int .u32 x.k, .int .u32 x.x]] w fun e w' => e = .returned (lfV none) ∧ MR h K (((s.gets ra).gets rb).sets rd (valV 4 (x.op - 16) 0 (s.reg ra) (s.reg rb) 0)) w' ∧ Upto (fun i => i = h) w w' := by
 obtain ⟨q80, q88, q16, q2, q6, r88, r96, r3, r9, e5, e97⟩ : decide (80 ≤ x.op) = false ∧ decide (88 ≤ x.op) = false ∧ decide (16 ≤ x.op) = true ∧ decide (2 ≤ x.op) = true ∧ decide (6 ≤ x.op) = true ∧ decide (x.op < 88) = true ∧ decide (x.op < 96) = true ∧ decide (x.op ≤ 3) = false ∧ decide (x.op ≤ 9) = false ∧ (x.op == 5) = false ∧ (x.op == 97) = false := by simp; omega
 have CV : Hid (∀ w, MR h K s w → Calls Try.prog 154 #[.pointer (some ⟨h, 0, none⟩), .agg #[.int .i64 x.op, .int .i64 x.d, .int .i64 x.a, .int .i64 x.b, .int .i64 x.c, .int .i64 x.n, .int .u32 x.k, .int .u32 x.x]] w fun e w' => e = .returned (.tuple #[]) ∧ MR h K (((s.gets ra).gets rb).sets rd (valV 4 (x.op - 16) 0 (s.reg ra) (s.reg rb) 0)) w' ∧ Upto (fun i => i = h) w w') := fun w a => value_bin x ra rb rc rd w a ho ha hb hc hd la lb lc ld hr
 clear ha hb hc hd
 generalize hs' : (((s.gets ra).gets rb).sets rd (valV 4 (x.op - 16) 0 (s.reg ra) (s.reg rb) 0)) = s' at CV ⊢
 clear hs'
 obtain ⟨xb, lb, u0⟩ := two_new w x
 have a0 := a.upto u0 id
 have ld := a.l
 clear a
 go_enter Try.func90, Try.ntmps90
 go_upto_region 1 with fail
 generalize hWA : (w.alloc (.cells #[.int .i64 x.op, .int .i64 x.d, .int .i64 x.a, .int .i64 x.b, .int .i64 x.c, .int .i64 x.n, .int .u32 x.k, .int .u32 x.x] 108)).alloc (.cells #[.int .i64 0, .int .i64 0, .int .u32 0, .int .u32 0, .int .i64 0, .int .i64 0] 52) = WA at xb lb u0 a0  ⊢
 have hA : w.heap.size + 1 < WA.heap.size := lb.l
 clear hWA
 have XX := κ xb
 have A := κ a0
 have LR := κ lb
 have U := κ (u0.mono (T := fun i => i = h) fun _ _ h => h.elim)
 clear xb lb u0 a0
 have lh := A.out.l
 obtain ⟨x0, x1, x2, x3, x4, x5, x6, x7⟩ := XX.out.all
 have lx := XX.out.l
 go_upto_region 18 with (go_at_call 154; (with_reducible refine (CV.out _ A.out).mono ?_); rintro e w7 ⟨rfl, a7, u7⟩; have A := κ a7; have LR := κ (LR.out.upto u7 (by omega)); have U := κ (U.out.trans u7); have hl7 : w.heap.size + 1 < w7.heap.size := LR.out.l; clear a7 u7)
 clear x0 x1 x2 x3 x4 x5 x6 x7 lx
 clear lh
 generalize w7 = WX at A LR U hl7 ⊢
 obtain ⟨g0, g1, g2, g3, g4, g5⟩ := LR.out.all
 have zg := LR.out.z
 have lg := LR.out.l
 go_wp2_with fail
 clear g0 g1 g2 g3 g4 g5 zg lg
 have V9 := up6' (w.heap.size + 1) WX 0 0 0 0 0 0
 have A9 := A.out.upto V9 (by omega)
 have U9 := up6 (h := w.heap.size + 1) U.out (.inr (Nat.le_succ _)) 0 0 0 0 0 0
 clear V9
 have LR9 := LR.out.put 0 0 0 0 0 0
 have up := up6' (w.heap.size + 1) WX 0 0 0 0 0 0
 rw [p6_eq]
 generalize p6 _ _ _ _ _ _ _ _ = W9 at LR9 up A9 U9 ⊢
 obtain ⟨g0, g1, g2, g3, g4, g5⟩ := LR9.all
 exact bodyPost_ret (v := .tuple #[.agg #[.int .i64 0, .int .i64 0, .int .u32 0, .int .u32 0, .int .i64 0, .int .i64 0], .bool false]) (by simp [results, Try.results90, go_sem, g0, g1, g2, g3, g4, g5]) rfl ⟨rfl, A9, U9⟩
theorem do_un (x : Cd) (ra rb rc rd : Nat) (w : World) (a : MR h K s w) (ho : 32 ≤ x.op ∧ x.op < 39) (ha : x.a = ra) (hb : x.b = rb) (hc : x.c = rc) (hd : x.d = rd) (la : ra < 16) (lb : rb < 16) (lc : rc < 16) (ld : rd < 16) (hr : RegOk s) :
  Calls Try.prog 90 #[.pointer (some ⟨h, 0, none⟩), .agg #[.int .i64 x.op, .int .i64 x.d, .int .i64 x.a, .int .i64 x.b, .int .i64 x.c, .int .i64 x.n, .int .u32 x.k, .int .u32 x.x]] w fun e w' => e = .returned (lfV none) ∧ MR h K ((s.gets ra).sets rd (valV 5 (x.op - 32) 0 (s.reg ra) 0 0)) w' ∧ Upto (fun i => i = h) w w' := by
 obtain ⟨q80, q88, q16, q2, q6, r88, r96, r3, r9, e5, e97⟩ : decide (80 ≤ x.op) = false ∧ decide (88 ≤ x.op) = false ∧ decide (16 ≤ x.op) = true ∧ decide (2 ≤ x.op) = true ∧ decide (6 ≤ x.op) = true ∧ decide (x.op < 88) = true ∧ decide (x.op < 96) = true ∧ decide (x.op ≤ 3) = false ∧ decide (x.op ≤ 9) = false ∧ (x.op == 5) = false ∧ (x.op == 97) = false := by simp; omega
 have CV : Hid (∀ w, MR h K s w → Calls Try.prog 154 #[.pointer (some ⟨h, 0, none⟩), .agg #[.int .i64 x.op, .int .i64 x.d, .int .i64 x.a, .int .i64 x.b, .int .i64 x.c, .int .i64 x.n, .int .u32 x.k, .int .u32 x.x]] w fun e w' => e = .returned (.tuple #[]) ∧ MR h K ((s.gets ra).sets rd (valV 5 (x.op - 32) 0 (s.reg ra) 0 0)) w' ∧ Upto (fun i => i = h) w w') := fun w a => value_un x ra rb rc rd w a ho ha hb hc hd la lb lc ld hr
 clear ha hb hc hd
 generalize hs' : ((s.gets ra).sets rd (valV 5 (x.op - 32) 0 (s.reg ra) 0 0)) = s' at CV ⊢
 clear hs'
 obtain ⟨xb, lb, u0⟩ := two_new w x
 have a0 := a.upto u0 id
 have ld := a.l
 clear a
 go_enter Try.func90, Try.ntmps90
 go_upto_region 1 with fail
 generalize hWA : (w.alloc (.cells #[.int .i64 x.op, .int .i64 x.d, .int .i64 x.a, .int .i64 x.b, .int .i64 x.c, .int .i64 x.n, .int .u32 x.k, .int .u32 x.x] 108)).alloc (.cells #[.int .i64 0, .int .i64 0, .int .u32 0, .int .u32 0, .int .i64 0, .int .i64 0] 52) = WA at xb lb u0 a0  ⊢
 have hA : w.heap.size + 1 < WA.heap.size := lb.l
 clear hWA
 have XX := κ xb
 have A := κ a0
 have LR := κ lb
 have U := κ (u0.mono (T := fun i => i = h) fun _ _ h => h.elim)
 clear xb lb u0 a0
 have lh := A.out.l
 obtain ⟨x0, x1, x2, x3, x4, x5, x6, x7⟩ := XX.out.all
 have lx := XX.out.l
 go_upto_region 18 with (go_at_call 154; (with_reducible refine (CV.out _ A.out).mono ?_); rintro e w7 ⟨rfl, a7, u7⟩; have A := κ a7; have LR := κ (LR.out.upto u7 (by omega)); have U := κ (U.out.trans u7); have hl7 : w.heap.size + 1 < w7.heap.size := LR.out.l; clear a7 u7)
 clear x0 x1 x2 x3 x4 x5 x6 x7 lx
 clear lh
 generalize w7 = WX at A LR U hl7 ⊢
 obtain ⟨g0, g1, g2, g3, g4, g5⟩ := LR.out.all
 have zg := LR.out.z
 have lg := LR.out.l
 go_wp2_with fail
 clear g0 g1 g2 g3 g4 g5 zg lg
 have V9 := up6' (w.heap.size + 1) WX 0 0 0 0 0 0
 have A9 := A.out.upto V9 (by omega)
 have U9 := up6 (h := w.heap.size + 1) U.out (.inr (Nat.le_succ _)) 0 0 0 0 0 0
 clear V9
 have LR9 := LR.out.put 0 0 0 0 0 0
 have up := up6' (w.heap.size + 1) WX 0 0 0 0 0 0
 rw [p6_eq]
 generalize p6 _ _ _ _ _ _ _ _ = W9 at LR9 up A9 U9 ⊢
 obtain ⟨g0, g1, g2, g3, g4, g5⟩ := LR9.all
 exact bodyPost_ret (v := .tuple #[.agg #[.int .i64 0, .int .i64 0, .int .u32 0, .int .u32 0, .int .i64 0, .int .i64 0], .bool false]) (by simp [results, Try.results90, go_sem, g0, g1, g2, g3, g4, g5]) rfl ⟨rfl, A9, U9⟩
theorem do_flags (x : Cd) (ra rb rc rd : Nat) (w : World) (a : MR h K s w) (ho : 48 ≤ x.op ∧ x.op < 61) (ha : x.a = ra) (hb : x.b = rb) (hc : x.c = rc) (hd : x.d = rd) (la : ra < 16) (lb : rb < 16) (lc : rc < 16) (ld : rd < 16) (hr : RegOk s) :
  Calls Try.prog 90 #[.pointer (some ⟨h, 0, none⟩), .agg #[.int .i64 x.op, .int .i64 x.d, .int .i64 x.a, .int .i64 x.b, .int .i64 x.c, .int .i64 x.n, .int .u32 x.k, .int .u32 x.x]] w fun e w' => e = .returned (lfV none) ∧ MR h K ((((s.gets ra).gets rb).gets rc).sets rd (valV 7 (x.op - 48) 0 (s.reg ra) (s.reg rb) (s.reg rc))) w' ∧ Upto (fun i => i = h) w w' := by
 obtain ⟨q80, q88, q16, q2, q6, r88, r96, r3, r9, e5, e97⟩ : decide (80 ≤ x.op) = false ∧ decide (88 ≤ x.op) = false ∧ decide (16 ≤ x.op) = true ∧ decide (2 ≤ x.op) = true ∧ decide (6 ≤ x.op) = true ∧ decide (x.op < 88) = true ∧ decide (x.op < 96) = true ∧ decide (x.op ≤ 3) = false ∧ decide (x.op ≤ 9) = false ∧ (x.op == 5) = false ∧ (x.op == 97) = false := by simp; omega
 have CV : Hid (∀ w, MR h K s w → Calls Try.prog 154 #[.pointer (some ⟨h, 0, none⟩), .agg #[.int .i64 x.op, .int .i64 x.d, .int .i64 x.a, .int .i64 x.b, .int .i64 x.c, .int .i64 x.n, .int .u32 x.k, .int .u32 x.x]] w fun e w' => e = .returned (.tuple #[]) ∧ MR h K ((((s.gets ra).gets rb).gets rc).sets rd (valV 7 (x.op - 48) 0 (s.reg ra) (s.reg rb) (s.reg rc))) w' ∧ Upto (fun i => i = h) w w') := fun w a => value_flags x ra rb rc rd w a ho ha hb hc hd la lb lc ld hr
 clear ha hb hc hd
 generalize hs' : ((((s.gets ra).gets rb).gets rc).sets rd (valV 7 (x.op - 48) 0 (s.reg ra) (s.reg rb) (s.reg rc))) = s' at CV ⊢
 clear hs'
 obtain ⟨xb, lb, u0⟩ := two_new w x
 have a0 := a.upto u0 id
 have ld := a.l
 clear a
 go_enter Try.func90, Try.ntmps90
 go_upto_region 1 with fail
 generalize hWA : (w.alloc (.cells #[.int .i64 x.op, .int .i64 x.d, .int .i64 x.a, .int .i64 x.b, .int .i64 x.c, .int .i64 x.n, .int .u32 x.k, .int .u32 x.x] 108)).alloc (.cells #[.int .i64 0, .int .i64 0, .int .u32 0, .int .u32 0, .int .i64 0, .int .i64 0] 52) = WA at xb lb u0 a0  ⊢
 have hA : w.heap.size + 1 < WA.heap.size := lb.l
 clear hWA
 have XX := κ xb
 have A := κ a0
 have LR := κ lb
 have U := κ (u0.mono (T := fun i => i = h) fun _ _ h => h.elim)
 clear xb lb u0 a0
 have lh := A.out.l
 obtain ⟨x0, x1, x2, x3, x4, x5, x6, x7⟩ := XX.out.all
 have lx := XX.out.l
 go_upto_region 18 with (go_at_call 154; (with_reducible refine (CV.out _ A.out).mono ?_); rintro e w7 ⟨rfl, a7, u7⟩; have A := κ a7; have LR := κ (LR.out.upto u7 (by omega)); have U := κ (U.out.trans u7); have hl7 : w.heap.size + 1 < w7.heap.size := LR.out.l; clear a7 u7)
 clear x0 x1 x2 x3 x4 x5 x6 x7 lx
 clear lh
 generalize w7 = WX at A LR U hl7 ⊢
 obtain ⟨g0, g1, g2, g3, g4, g5⟩ := LR.out.all
 have zg := LR.out.z
 have lg := LR.out.l
 go_wp2_with fail
 clear g0 g1 g2 g3 g4 g5 zg lg
 have V9 := up6' (w.heap.size + 1) WX 0 0 0 0 0 0
 have A9 := A.out.upto V9 (by omega)
 have U9 := up6 (h := w.heap.size + 1) U.out (.inr (Nat.le_succ _)) 0 0 0 0 0 0
 clear V9
 have LR9 := LR.out.put 0 0 0 0 0 0
 have up := up6' (w.heap.size + 1) WX 0 0 0 0 0 0
 rw [p6_eq]
 generalize p6 _ _ _ _ _ _ _ _ = W9 at LR9 up A9 U9 ⊢
 obtain ⟨g0, g1, g2, g3, g4, g5⟩ := LR9.all
 exact bodyPost_ret (v := .tuple #[.agg #[.int .i64 0, .int .i64 0, .int .u32 0, .int .u32 0, .int .i64 0, .int .i64 0], .bool false]) (by simp [results, Try.results90, go_sem, g0, g1, g2, g3, g4, g5]) rfl ⟨rfl, A9, U9⟩
theorem do_cond (x : Cd) (ra rb rc rd : Nat) (w : World) (a : MR h K s w) (ho : 64 ≤ x.op ∧ x.op < 80) (ha : x.a = ra) (hb : x.b = rb) (hc : x.c = rc) (hd : x.d = rd) (la : ra < 16) (lb : rb < 16) (lc : rc < 16) (ld : rd < 16) (hr : RegOk s) :
  Calls Try.prog 90 #[.pointer (some ⟨h, 0, none⟩), .agg #[.int .i64 x.op, .int .i64 x.d, .int .i64 x.a, .int .i64 x.b, .int .i64 x.c, .int .i64 x.n, .int .u32 x.k, .int .u32 x.x]] w fun e w' => e = .returned (lfV none) ∧ MR h K ((s.gets ra).sets rd (valV 8 (x.op - 64) 0 (s.reg ra) 0 0)) w' ∧ Upto (fun i => i = h) w w' := by
 obtain ⟨q80, q88, q16, q2, q6, r88, r96, r3, r9, e5, e97⟩ : decide (80 ≤ x.op) = false ∧ decide (88 ≤ x.op) = false ∧ decide (16 ≤ x.op) = true ∧ decide (2 ≤ x.op) = true ∧ decide (6 ≤ x.op) = true ∧ decide (x.op < 88) = true ∧ decide (x.op < 96) = true ∧ decide (x.op ≤ 3) = false ∧ decide (x.op ≤ 9) = false ∧ (x.op == 5) = false ∧ (x.op == 97) = false := by simp; omega
 have CV : Hid (∀ w, MR h K s w → Calls Try.prog 154 #[.pointer (some ⟨h, 0, none⟩), .agg #[.int .i64 x.op, .int .i64 x.d, .int .i64 x.a, .int .i64 x.b, .int .i64 x.c, .int .i64 x.n, .int .u32 x.k, .int .u32 x.x]] w fun e w' => e = .returned (.tuple #[]) ∧ MR h K ((s.gets ra).sets rd (valV 8 (x.op - 64) 0 (s.reg ra) 0 0)) w' ∧ Upto (fun i => i = h) w w') := fun w a => value_cond x ra rb rc rd w a ho ha hb hc hd la lb lc ld hr
 clear ha hb hc hd
 generalize hs' : ((s.gets ra).sets rd (valV 8 (x.op - 64) 0 (s.reg ra) 0 0)) = s' at CV ⊢
 clear hs'
 obtain ⟨xb, lb, u0⟩ := two_new w x
 have a0 := a.upto u0 id
 have ld := a.l
 clear a
 go_enter Try.func90, Try.ntmps90
 go_upto_region 1 with fail
 generalize hWA : (w.alloc (.cells #[.int .i64 x.op, .int .i64 x.d, .int .i64 x.a, .int .i64 x.b, .int .i64 x.c, .int .i64 x.n, .int .u32 x.k, .int .u32 x.x] 108)).alloc (.cells #[.int .i64 0, .int .i64 0, .int .u32 0, .int .u32 0, .int .i64 0, .int .i64 0] 52) = WA at xb lb u0 a0  ⊢
 have hA : w.heap.size + 1 < WA.heap.size := lb.l
 clear hWA
 have XX := κ xb
 have A := κ a0
 have LR := κ lb
 have U := κ (u0.mono (T := fun i => i = h) fun _ _ h => h.elim)
 clear xb lb u0 a0
 have lh := A.out.l
 obtain ⟨x0, x1, x2, x3, x4, x5, x6, x7⟩ := XX.out.all
 have lx := XX.out.l
 go_upto_region 18 with (go_at_call 154; (with_reducible refine (CV.out _ A.out).mono ?_); rintro e w7 ⟨rfl, a7, u7⟩; have A := κ a7; have LR := κ (LR.out.upto u7 (by omega)); have U := κ (U.out.trans u7); have hl7 : w.heap.size + 1 < w7.heap.size := LR.out.l; clear a7 u7)
 clear x0 x1 x2 x3 x4 x5 x6 x7 lx
 clear lh
 generalize w7 = WX at A LR U hl7 ⊢
 obtain ⟨g0, g1, g2, g3, g4, g5⟩ := LR.out.all
 have zg := LR.out.z
 have lg := LR.out.l
 go_wp2_with fail
 clear g0 g1 g2 g3 g4 g5 zg lg
 have V9 := up6' (w.heap.size + 1) WX 0 0 0 0 0 0
 have A9 := A.out.upto V9 (by omega)
 have U9 := up6 (h := w.heap.size + 1) U.out (.inr (Nat.le_succ _)) 0 0 0 0 0 0
 clear V9
 have LR9 := LR.out.put 0 0 0 0 0 0
 have up := up6' (w.heap.size + 1) WX 0 0 0 0 0 0
 rw [p6_eq]
 generalize p6 _ _ _ _ _ _ _ _ = W9 at LR9 up A9 U9 ⊢
 obtain ⟨g0, g1, g2, g3, g4, g5⟩ := LR9.all
 exact bodyPost_ret (v := .tuple #[.agg #[.int .i64 0, .int .i64 0, .int .u32 0, .int .u32 0, .int .i64 0, .int .i64 0], .bool false]) (by simp [results, Try.results90, go_sem, g0, g1, g2, g3, g4, g5]) rfl ⟨rfl, A9, U9⟩
theorem do_m2 (x : Cd) (rd : Nat) (w : World) (a : MR h K s w) (ho : 2 ≤ x.op ∧ x.op < 3) (hd : x.d = rd) (ld : rd < 16) :
  Calls Try.prog 90 #[.pointer (some ⟨h, 0, none⟩), .agg #[.int .i64 x.op, .int .i64 x.d, .int .i64 x.a, .int .i64 x.b, .int .i64 x.c, .int .i64 x.n, .int .u32 x.k, .int .u32 x.x]] w fun e w' => e = .returned (lfV none) ∧ MR h K (s.sets rd x.k) w' ∧ Upto (fun i => i = h) w w' := by
 obtain ⟨q80, q88, q16, q2, q6, r88, r96, r3, r9, e5, e97⟩ : decide (80 ≤ x.op) = false ∧ decide (88 ≤ x.op) = false ∧ decide (16 ≤ x.op) = false ∧ decide (2 ≤ x.op) = true ∧ decide (6 ≤ x.op) = false ∧ decide (x.op < 88) = true ∧ decide (x.op < 96) = true ∧ decide (x.op ≤ 3) = true ∧ decide (x.op ≤ 9) = true ∧ (x.op == 5) = false ∧ (x.op == 97) = false := by simp; omega
 have CV : Hid (∀ w, MR h K s w → Calls Try.prog 155 #[.pointer (some ⟨h, 0, none⟩), .agg #[.int .i64 x.op, .int .i64 x.d, .int .i64 x.a, .int .i64 x.b, .int .i64 x.c, .int .i64 x.n, .int .u32 x.k, .int .u32 x.x]] w fun e w' => e = .returned (.tuple #[]) ∧ MR h K (s.sets rd x.k) w' ∧ Upto (fun i => i = h) w w') := fun w a => moves_2 x rd hd ld w a (by omega)
 clear hd
 generalize hs' : (s.sets rd x.k) = s' at CV ⊢
 clear hs'
 obtain ⟨xb, lb, u0⟩ := two_new w x
 have a0 := a.upto u0 id
 have ld := a.l
 clear a
 go_enter Try.func90, Try.ntmps90
 go_upto_region 1 with fail
 generalize hWA : (w.alloc (.cells #[.int .i64 x.op, .int .i64 x.d, .int .i64 x.a, .int .i64 x.b, .int .i64 x.c, .int .i64 x.n, .int .u32 x.k, .int .u32 x.x] 108)).alloc (.cells #[.int .i64 0, .int .i64 0, .int .u32 0, .int .u32 0, .int .i64 0, .int .i64 0] 52) = WA at xb lb u0 a0  ⊢
 have hA : w.heap.size + 1 < WA.heap.size := lb.l
 clear hWA
 have XX := κ xb
 have A := κ a0
 have LR := κ lb
 have U := κ (u0.mono (T := fun i => i = h) fun _ _ h => h.elim)
 clear xb lb u0 a0
 have lh := A.out.l
 obtain ⟨x0, x1, x2, x3, x4, x5, x6, x7⟩ := XX.out.all
 have lx := XX.out.l
 go_upto_region 18 with (go_at_call 155; (with_reducible refine (CV.out _ A.out).mono ?_); rintro e w7 ⟨rfl, a7, u7⟩; have A := κ a7; have LR := κ (LR.out.upto u7 (by omega)); have U := κ (U.out.trans u7); have hl7 : w.heap.size + 1 < w7.heap.size := LR.out.l; clear a7 u7)
 clear x0 x1 x2 x3 x4 x5 x6 x7 lx
 clear lh
 generalize w7 = WX at A LR U hl7 ⊢
 obtain ⟨g0, g1, g2, g3, g4, g5⟩ := LR.out.all
 have zg := LR.out.z
 have lg := LR.out.l
 go_wp2_with fail
 clear g0 g1 g2 g3 g4 g5 zg lg
 have V9 := up6' (w.heap.size + 1) WX 0 0 0 0 0 0
 have A9 := A.out.upto V9 (by omega)
 have U9 := up6 (h := w.heap.size + 1) U.out (.inr (Nat.le_succ _)) 0 0 0 0 0 0
 clear V9
 have LR9 := LR.out.put 0 0 0 0 0 0
 have up := up6' (w.heap.size + 1) WX 0 0 0 0 0 0
 rw [p6_eq]
 generalize p6 _ _ _ _ _ _ _ _ = W9 at LR9 up A9 U9 ⊢
 obtain ⟨g0, g1, g2, g3, g4, g5⟩ := LR9.all
 exact bodyPost_ret (v := .tuple #[.agg #[.int .i64 0, .int .i64 0, .int .u32 0, .int .u32 0, .int .i64 0, .int .i64 0], .bool false]) (by simp [results, Try.results90, go_sem, g0, g1, g2, g3, g4, g5]) rfl ⟨rfl, A9, U9⟩
theorem do_m3 (x : Cd) (rd ra : Nat) (w : World) (a : MR h K s w) (ho : 3 ≤ x.op ∧ x.op < 4) (hd : x.d = rd) (ha : x.a = ra) (ld : rd < 16) (la : ra < 16) :
  Calls Try.prog 90 #[.pointer (some ⟨h, 0, none⟩), .agg #[.int .i64 x.op, .int .i64 x.d, .int .i64 x.a, .int .i64 x.b, .int .i64 x.c, .int .i64 x.n, .int .u32 x.k, .int .u32 x.x]] w fun e w' => e = .returned (lfV none) ∧ MR h K ((s.gets ra).sets rd (s.reg ra)) w' ∧ Upto (fun i => i = h) w w' := by
 obtain ⟨q80, q88, q16, q2, q6, r88, r96, r3, r9, e5, e97⟩ : decide (80 ≤ x.op) = false ∧ decide (88 ≤ x.op) = false ∧ decide (16 ≤ x.op) = false ∧ decide (2 ≤ x.op) = true ∧ decide (6 ≤ x.op) = false ∧ decide (x.op < 88) = true ∧ decide (x.op < 96) = true ∧ decide (x.op ≤ 3) = true ∧ decide (x.op ≤ 9) = true ∧ (x.op == 5) = false ∧ (x.op == 97) = false := by simp; omega
 have CV : Hid (∀ w, MR h K s w → Calls Try.prog 155 #[.pointer (some ⟨h, 0, none⟩), .agg #[.int .i64 x.op, .int .i64 x.d, .int .i64 x.a, .int .i64 x.b, .int .i64 x.c, .int .i64 x.n, .int .u32 x.k, .int .u32 x.x]] w fun e w' => e = .returned (.tuple #[]) ∧ MR h K ((s.gets ra).sets rd (s.reg ra)) w' ∧ Upto (fun i => i = h) w w') := fun w a => moves_3 x rd ra hd ha ld la w a (by omega)
 clear hd ha
 generalize hs' : ((s.gets ra).sets rd (s.reg ra)) = s' at CV ⊢
 clear hs'
 obtain ⟨xb, lb, u0⟩ := two_new w x
 have a0 := a.upto u0 id
 have ld := a.l
 clear a
 go_enter Try.func90, Try.ntmps90
 go_upto_region 1 with fail
 generalize hWA : (w.alloc (.cells #[.int .i64 x.op, .int .i64 x.d, .int .i64 x.a, .int .i64 x.b, .int .i64 x.c, .int .i64 x.n, .int .u32 x.k, .int .u32 x.x] 108)).alloc (.cells #[.int .i64 0, .int .i64 0, .int .u32 0, .int .u32 0, .int .i64 0, .int .i64 0] 52) = WA at xb lb u0 a0  ⊢
 have hA : w.heap.size + 1 < WA.heap.size := lb.l
 clear hWA
 have XX := κ xb
 have A := κ a0
 have LR := κ lb
 have U := κ (u0.mono (T := fun i => i = h) fun _ _ h => h.elim)
 clear xb lb u0 a0
 have lh := A.out.l
 obtain ⟨x0, x1, x2, x3, x4, x5, x6, x7⟩ := XX.out.all
 have lx := XX.out.l
 go_upto_region 18 with (go_at_call 155; (with_reducible refine (CV.out _ A.out).mono ?_); rintro e w7 ⟨rfl, a7, u7⟩; have A := κ a7; have LR := κ (LR.out.upto u7 (by omega)); have U := κ (U.out.trans u7); have hl7 : w.heap.size + 1 < w7.heap.size := LR.out.l; clear a7 u7)
 clear x0 x1 x2 x3 x4 x5 x6 x7 lx
 clear lh
 generalize w7 = WX at A LR U hl7 ⊢
 obtain ⟨g0, g1, g2, g3, g4, g5⟩ := LR.out.all
 have zg := LR.out.z
 have lg := LR.out.l
 go_wp2_with fail
 clear g0 g1 g2 g3 g4 g5 zg lg
 have V9 := up6' (w.heap.size + 1) WX 0 0 0 0 0 0
 have A9 := A.out.upto V9 (by omega)
 have U9 := up6 (h := w.heap.size + 1) U.out (.inr (Nat.le_succ _)) 0 0 0 0 0 0
 clear V9
 have LR9 := LR.out.put 0 0 0 0 0 0
 have up := up6' (w.heap.size + 1) WX 0 0 0 0 0 0
 rw [p6_eq]
 generalize p6 _ _ _ _ _ _ _ _ = W9 at LR9 up A9 U9 ⊢
 obtain ⟨g0, g1, g2, g3, g4, g5⟩ := LR9.all
 exact bodyPost_ret (v := .tuple #[.agg #[.int .i64 0, .int .i64 0, .int .u32 0, .int .u32 0, .int .i64 0, .int .i64 0], .bool false]) (by simp [results, Try.results90, go_sem, g0, g1, g2, g3, g4, g5]) rfl ⟨rfl, A9, U9⟩
theorem do_m6 (x : Cd) (rd rn : Nat) (w : World) (a : MR h K s w) (ho : 6 ≤ x.op ∧ x.op < 7) (hd : x.d = rd) (hn : x.n = rn) (ld : rd < 16) (ln : rn < 12) :
  Calls Try.prog 90 #[.pointer (some ⟨h, 0, none⟩), .agg #[.int .i64 x.op, .int .i64 x.d, .int .i64 x.a, .int .i64 x.b, .int .i64 x.c, .int .i64 x.n, .int .u32 x.k, .int .u32 x.x]] w fun e w' => e = .returned (lfV none) ∧ MR h K (s.sets rd (s.c rn)) w' ∧ Upto (fun i => i = h) w w' := by
 obtain ⟨q80, q88, q16, q2, q6, r88, r96, r3, r9, e5, e97⟩ : decide (80 ≤ x.op) = false ∧ decide (88 ≤ x.op) = false ∧ decide (16 ≤ x.op) = false ∧ decide (2 ≤ x.op) = true ∧ decide (6 ≤ x.op) = true ∧ decide (x.op < 88) = true ∧ decide (x.op < 96) = true ∧ decide (x.op ≤ 3) = false ∧ decide (x.op ≤ 9) = true ∧ (x.op == 5) = false ∧ (x.op == 97) = false := by simp; omega
 have CV : Hid (∀ w, MR h K s w → Calls Try.prog 155 #[.pointer (some ⟨h, 0, none⟩), .agg #[.int .i64 x.op, .int .i64 x.d, .int .i64 x.a, .int .i64 x.b, .int .i64 x.c, .int .i64 x.n, .int .u32 x.k, .int .u32 x.x]] w fun e w' => e = .returned (.tuple #[]) ∧ MR h K (s.sets rd (s.c rn)) w' ∧ Upto (fun i => i = h) w w') := fun w a => moves_6 x rd rn hd hn ld ln w a (by omega)
 clear hd hn
 generalize hs' : (s.sets rd (s.c rn)) = s' at CV ⊢
 clear hs'
 obtain ⟨xb, lb, u0⟩ := two_new w x
 have a0 := a.upto u0 id
 have ld := a.l
 clear a
 go_enter Try.func90, Try.ntmps90
 go_upto_region 1 with fail
 generalize hWA : (w.alloc (.cells #[.int .i64 x.op, .int .i64 x.d, .int .i64 x.a, .int .i64 x.b, .int .i64 x.c, .int .i64 x.n, .int .u32 x.k, .int .u32 x.x] 108)).alloc (.cells #[.int .i64 0, .int .i64 0, .int .u32 0, .int .u32 0, .int .i64 0, .int .i64 0] 52) = WA at xb lb u0 a0  ⊢
 have hA : w.heap.size + 1 < WA.heap.size := lb.l
 clear hWA
 have XX := κ xb
 have A := κ a0
 have LR := κ lb
 have U := κ (u0.mono (T := fun i => i = h) fun _ _ h => h.elim)
 clear xb lb u0 a0
 have lh := A.out.l
 obtain ⟨x0, x1, x2, x3, x4, x5, x6, x7⟩ := XX.out.all
 have lx := XX.out.l
 go_upto_region 18 with (go_at_call 155; (with_reducible refine (CV.out _ A.out).mono ?_); rintro e w7 ⟨rfl, a7, u7⟩; have A := κ a7; have LR := κ (LR.out.upto u7 (by omega)); have U := κ (U.out.trans u7); have hl7 : w.heap.size + 1 < w7.heap.size := LR.out.l; clear a7 u7)
 clear x0 x1 x2 x3 x4 x5 x6 x7 lx
 clear lh
 generalize w7 = WX at A LR U hl7 ⊢
 obtain ⟨g0, g1, g2, g3, g4, g5⟩ := LR.out.all
 have zg := LR.out.z
 have lg := LR.out.l
 go_wp2_with fail
 clear g0 g1 g2 g3 g4 g5 zg lg
 have V9 := up6' (w.heap.size + 1) WX 0 0 0 0 0 0
 have A9 := A.out.upto V9 (by omega)
 have U9 := up6 (h := w.heap.size + 1) U.out (.inr (Nat.le_succ _)) 0 0 0 0 0 0
 clear V9
 have LR9 := LR.out.put 0 0 0 0 0 0
 have up := up6' (w.heap.size + 1) WX 0 0 0 0 0 0
 rw [p6_eq]
 generalize p6 _ _ _ _ _ _ _ _ = W9 at LR9 up A9 U9 ⊢
 obtain ⟨g0, g1, g2, g3, g4, g5⟩ := LR9.all
 exact bodyPost_ret (v := .tuple #[.agg #[.int .i64 0, .int .i64 0, .int .u32 0, .int .u32 0, .int .i64 0, .int .i64 0], .bool false]) (by simp [results, Try.results90, go_sem, g0, g1, g2, g3, g4, g5]) rfl ⟨rfl, A9, U9⟩
theorem do_m7 (x : Cd) (ra rn : Nat) (w : World) (a : MR h K s w) (ho : 7 ≤ x.op ∧ x.op < 8) (ha : x.a = ra) (hn : x.n = rn) (la : ra < 16) (ln : rn < 12) :
  Calls Try.prog 90 #[.pointer (some ⟨h, 0, none⟩), .agg #[.int .i64 x.op, .int .i64 x.d, .int .i64 x.a, .int .i64 x.b, .int .i64 x.c, .int .i64 x.n, .int .u32 x.k, .int .u32 x.x]] w fun e w' => e = .returned (lfV none) ∧ MR h K (if (s.gets ra).stuck then s.gets ra else { s.gets ra with c := upd s.c rn (s.reg ra) }) w' ∧ Upto (fun i => i = h) w w' := by
 obtain ⟨q80, q88, q16, q2, q6, r88, r96, r3, r9, e5, e97⟩ : decide (80 ≤ x.op) = false ∧ decide (88 ≤ x.op) = false ∧ decide (16 ≤ x.op) = false ∧ decide (2 ≤ x.op) = true ∧ decide (6 ≤ x.op) = true ∧ decide (x.op < 88) = true ∧ decide (x.op < 96) = true ∧ decide (x.op ≤ 3) = false ∧ decide (x.op ≤ 9) = true ∧ (x.op == 5) = false ∧ (x.op == 97) = false := by simp; omega
 have CV : Hid (∀ w, MR h K s w → Calls Try.prog 155 #[.pointer (some ⟨h, 0, none⟩), .agg #[.int .i64 x.op, .int .i64 x.d, .int .i64 x.a, .int .i64 x.b, .int .i64 x.c, .int .i64 x.n, .int .u32 x.k, .int .u32 x.x]] w fun e w' => e = .returned (.tuple #[]) ∧ MR h K (if (s.gets ra).stuck then s.gets ra else { s.gets ra with c := upd s.c rn (s.reg ra) }) w' ∧ Upto (fun i => i = h) w w') := fun w a => moves_7 x ra rn ha hn la ln w a (by omega)
 clear ha hn
 generalize hs' : (if (s.gets ra).stuck then s.gets ra else { s.gets ra with c := upd s.c rn (s.reg ra) }) = s' at CV ⊢
 clear hs'
 obtain ⟨xb, lb, u0⟩ := two_new w x
 have a0 := a.upto u0 id
 have ld := a.l
 clear a
 go_enter Try.func90, Try.ntmps90
 go_upto_region 1 with fail
 generalize hWA : (w.alloc (.cells #[.int .i64 x.op, .int .i64 x.d, .int .i64 x.a, .int .i64 x.b, .int .i64 x.c, .int .i64 x.n, .int .u32 x.k, .int .u32 x.x] 108)).alloc (.cells #[.int .i64 0, .int .i64 0, .int .u32 0, .int .u32 0, .int .i64 0, .int .i64 0] 52) = WA at xb lb u0 a0  ⊢
 have hA : w.heap.size + 1 < WA.heap.size := lb.l
 clear hWA
 have XX := κ xb
 have A := κ a0
 have LR := κ lb
 have U := κ (u0.mono (T := fun i => i = h) fun _ _ h => h.elim)
 clear xb lb u0 a0
 have lh := A.out.l
 obtain ⟨x0, x1, x2, x3, x4, x5, x6, x7⟩ := XX.out.all
 have lx := XX.out.l
 go_upto_region 18 with (go_at_call 155; (with_reducible refine (CV.out _ A.out).mono ?_); rintro e w7 ⟨rfl, a7, u7⟩; have A := κ a7; have LR := κ (LR.out.upto u7 (by omega)); have U := κ (U.out.trans u7); have hl7 : w.heap.size + 1 < w7.heap.size := LR.out.l; clear a7 u7)
 clear x0 x1 x2 x3 x4 x5 x6 x7 lx
 clear lh
 generalize w7 = WX at A LR U hl7 ⊢
 obtain ⟨g0, g1, g2, g3, g4, g5⟩ := LR.out.all
 have zg := LR.out.z
 have lg := LR.out.l
 go_wp2_with fail
 clear g0 g1 g2 g3 g4 g5 zg lg
 have V9 := up6' (w.heap.size + 1) WX 0 0 0 0 0 0
 have A9 := A.out.upto V9 (by omega)
 have U9 := up6 (h := w.heap.size + 1) U.out (.inr (Nat.le_succ _)) 0 0 0 0 0 0
 clear V9
 have LR9 := LR.out.put 0 0 0 0 0 0
 have up := up6' (w.heap.size + 1) WX 0 0 0 0 0 0
 rw [p6_eq]
 generalize p6 _ _ _ _ _ _ _ _ = W9 at LR9 up A9 U9 ⊢
 obtain ⟨g0, g1, g2, g3, g4, g5⟩ := LR9.all
 exact bodyPost_ret (v := .tuple #[.agg #[.int .i64 0, .int .i64 0, .int .u32 0, .int .u32 0, .int .i64 0, .int .i64 0], .bool false]) (by simp [results, Try.results90, go_sem, g0, g1, g2, g3, g4, g5]) rfl ⟨rfl, A9, U9⟩
theorem do_m8 (x : Cd) (rd rn b m : Nat) (f : Nat → Option Int) (w : World) (a : MR h K s w) (ho : 8 ≤ x.op ∧ x.op < 9) (hb : s.sp = some b) (hd : x.d = rd) (hn : x.n = rn) (ld : rd < 16) (ln : rn < 2048) (sp : SpR b f m w) :
  Calls Try.prog 90 #[.pointer (some ⟨h, 0, none⟩), .agg #[.int .i64 x.op, .int .i64 x.d, .int .i64 x.a, .int .i64 x.b, .int .i64 x.c, .int .i64 x.n, .int .u32 x.k, .int .u32 x.x]] w fun e w' => e = .returned (lfV none) ∧ MR h K (({ s with stuck := !(f rn).isSome } : Pm).sets rd ((f rn).getD 0)) w' ∧ Upto (fun i => i = h) w w' := by
 obtain ⟨q80, q88, q16, q2, q6, r88, r96, r3, r9, e5, e97⟩ : decide (80 ≤ x.op) = false ∧ decide (88 ≤ x.op) = false ∧ decide (16 ≤ x.op) = false ∧ decide (2 ≤ x.op) = true ∧ decide (6 ≤ x.op) = true ∧ decide (x.op < 88) = true ∧ decide (x.op < 96) = true ∧ decide (x.op ≤ 3) = false ∧ decide (x.op ≤ 9) = true ∧ (x.op == 5) = false ∧ (x.op == 97) = false := by simp; omega
 have CV : Hid (∀ w, MR h K s w → SpR b f m w → Calls Try.prog 155 #[.pointer (some ⟨h, 0, none⟩), .agg #[.int .i64 x.op, .int .i64 x.d, .int .i64 x.a, .int .i64 x.b, .int .i64 x.c, .int .i64 x.n, .int .u32 x.k, .int .u32 x.x]] w fun e w' => e = .returned (.tuple #[]) ∧ MR h K (({ s with stuck := !(f rn).isSome } : Pm).sets rd ((f rn).getD 0)) w' ∧ Upto (fun i => i = h) w w') := fun w a sp => moves_8 x rd rn b m f hb hd hn ld ln w a (by omega) sp
 have sp0 := sp.upto (two_new w x).2.2 id
 have lbw := sp.lt
 clear sp
 clear hd hn
 generalize hs' : (({ s with stuck := !(f rn).isSome } : Pm).sets rd ((f rn).getD 0)) = s' at CV ⊢
 clear hs'
 obtain ⟨xb, lb, u0⟩ := two_new w x
 have a0 := a.upto u0 id
 have ld := a.l
 clear a
 go_enter Try.func90, Try.ntmps90
 go_upto_region 1 with fail
 generalize hWA : (w.alloc (.cells #[.int .i64 x.op, .int .i64 x.d, .int .i64 x.a, .int .i64 x.b, .int .i64 x.c, .int .i64 x.n, .int .u32 x.k, .int .u32 x.x] 108)).alloc (.cells #[.int .i64 0, .int .i64 0, .int .u32 0, .int .u32 0, .int .i64 0, .int .i64 0] 52) = WA at xb lb u0 a0 sp0 ⊢
 have hA : w.heap.size + 1 < WA.heap.size := lb.l
 clear hWA
 have XX := κ xb
 have A := κ a0
 have LR := κ lb
 have U := κ (u0.mono (T := fun i => i = h) fun _ _ h => h.elim)
 clear xb lb u0 a0
 have SP := κ sp0
 clear sp0
 have lh := A.out.l
 obtain ⟨x0, x1, x2, x3, x4, x5, x6, x7⟩ := XX.out.all
 have lx := XX.out.l
 go_upto_region 18 with (go_at_call 155; (with_reducible refine (CV.out _ A.out SP.out).mono ?_); rintro e w7 ⟨rfl, a7, u7⟩; have A := κ a7; have LR := κ (LR.out.upto u7 (by omega)); have U := κ (U.out.trans u7); have hl7 : w.heap.size + 1 < w7.heap.size := LR.out.l; clear a7 u7)
 clear x0 x1 x2 x3 x4 x5 x6 x7 lx
 clear lh
 generalize w7 = WX at A LR U hl7 ⊢
 obtain ⟨g0, g1, g2, g3, g4, g5⟩ := LR.out.all
 have zg := LR.out.z
 have lg := LR.out.l
 go_wp2_with fail
 clear g0 g1 g2 g3 g4 g5 zg lg
 have V9 := up6' (w.heap.size + 1) WX 0 0 0 0 0 0
 have A9 := A.out.upto V9 (by omega)
 have U9 := up6 (h := w.heap.size + 1) U.out (.inr (Nat.le_succ _)) 0 0 0 0 0 0
 clear V9
 have LR9 := LR.out.put 0 0 0 0 0 0
 have up := up6' (w.heap.size + 1) WX 0 0 0 0 0 0
 rw [p6_eq]
 generalize p6 _ _ _ _ _ _ _ _ = W9 at LR9 up A9 U9 ⊢
 obtain ⟨g0, g1, g2, g3, g4, g5⟩ := LR9.all
 exact bodyPost_ret (v := .tuple #[.agg #[.int .i64 0, .int .i64 0, .int .u32 0, .int .u32 0, .int .i64 0, .int .i64 0], .bool false]) (by simp [results, Try.results90, go_sem, g0, g1, g2, g3, g4, g5]) rfl ⟨rfl, A9, U9⟩
theorem do_m9 (x : Cd) (ra rn b m : Nat) (f : Nat → Option Int) (w : World) (a : MR h K s w) (ho : 9 ≤ x.op ∧ x.op < 10) (hb : s.sp = some b) (ha : x.a = ra) (hn : x.n = rn) (la : ra < 16) (ln : rn < 2048) (hva : 0 ≤ s.reg ra ∧ s.reg ra < 4294967296) (hbh : ¬ b = h) (hm : m < maxLen) (sp : SpR b f m w) :
  Calls Try.prog 90 #[.pointer (some ⟨h, 0, none⟩), .agg #[.int .i64 x.op, .int .i64 x.d, .int .i64 x.a, .int .i64 x.b, .int .i64 x.c, .int .i64 x.n, .int .u32 x.k, .int .u32 x.x]] w fun e w' => e = .returned (lfV none) ∧ MR h K (s.gets ra) w' ∧ SpR b (updO f rn (some (s.reg ra))) (m + 1) w' ∧ Upto (fun i => i = h ∨ i = b) w w' := by
 obtain ⟨q80, q88, q16, q2, q6, r88, r96, r3, r9, e5, e97⟩ : decide (80 ≤ x.op) = false ∧ decide (88 ≤ x.op) = false ∧ decide (16 ≤ x.op) = false ∧ decide (2 ≤ x.op) = true ∧ decide (6 ≤ x.op) = true ∧ decide (x.op < 88) = true ∧ decide (x.op < 96) = true ∧ decide (x.op ≤ 3) = false ∧ decide (x.op ≤ 9) = true ∧ (x.op == 5) = false ∧ (x.op == 97) = false := by simp; omega
 have CV : Hid (∀ w, MR h K s w → SpR b f m w → Calls Try.prog 155 #[.pointer (some ⟨h, 0, none⟩), .agg #[.int .i64 x.op, .int .i64 x.d, .int .i64 x.a, .int .i64 x.b, .int .i64 x.c, .int .i64 x.n, .int .u32 x.k, .int .u32 x.x]] w fun e w' => e = .returned (.tuple #[]) ∧ MR h K (s.gets ra) w' ∧ SpR b (updO f rn (some (s.reg ra))) (m + 1) w' ∧ Upto (fun i => i = h ∨ i = b) w w') := fun w a sp => moves_9 x ra rn b m f hb ha hn la ln hva hbh hm w a (by omega) sp
 have sp0 := sp.upto (two_new w x).2.2 id
 have lbw := sp.lt
 clear sp
 clear ha hn
 generalize hs' : (s.gets ra) = s' at CV ⊢
 clear hs'
 obtain ⟨xb, lb, u0⟩ := two_new w x
 have a0 := a.upto u0 id
 have ld := a.l
 clear a
 go_enter Try.func90, Try.ntmps90
 go_upto_region 1 with fail
 generalize hWA : (w.alloc (.cells #[.int .i64 x.op, .int .i64 x.d, .int .i64 x.a, .int .i64 x.b, .int .i64 x.c, .int .i64 x.n, .int .u32 x.k, .int .u32 x.x] 108)).alloc (.cells #[.int .i64 0, .int .i64 0, .int .u32 0, .int .u32 0, .int .i64 0, .int .i64 0] 52) = WA at xb lb u0 a0 sp0 ⊢
 have hA : w.heap.size + 1 < WA.heap.size := lb.l
 clear hWA
 have XX := κ xb
 have A := κ a0
 have LR := κ lb
 have U := κ (u0.mono (T := fun i => i = h) fun _ _ h => h.elim)
 clear xb lb u0 a0
 have SP := κ sp0
 clear sp0
 have lh := A.out.l
 obtain ⟨x0, x1, x2, x3, x4, x5, x6, x7⟩ := XX.out.all
 have lx := XX.out.l
 go_upto_region 18 with (go_at_call 155; (with_reducible refine (CV.out _ A.out SP.out).mono ?_); rintro e w7 ⟨rfl, a7, p7, u7⟩; have A := κ a7; have LR := κ (LR.out.upto u7 (by omega)); have P7 := κ p7; have U := κ ((U.out.mono (T := fun i => i = h ∨ i = b) fun _ _ e => .inl e).trans u7); have hl7 : w.heap.size + 1 < w7.heap.size := LR.out.l; clear a7 u7 p7)
 clear x0 x1 x2 x3 x4 x5 x6 x7 lx
 clear lh
 generalize w7 = WX at A LR U P7 hl7 ⊢
 obtain ⟨g0, g1, g2, g3, g4, g5⟩ := LR.out.all
 have zg := LR.out.z
 have lg := LR.out.l
 go_wp2_with fail
 clear g0 g1 g2 g3 g4 g5 zg lg
 have V9 := up6' (w.heap.size + 1) WX 0 0 0 0 0 0
 have A9 := A.out.upto V9 (by omega)
 have P9 := P7.out.upto V9 (by omega)
 have U9 := up6 (h := w.heap.size + 1) U.out (.inr (Nat.le_succ _)) 0 0 0 0 0 0
 clear V9
 have LR9 := LR.out.put 0 0 0 0 0 0
 have up := up6' (w.heap.size + 1) WX 0 0 0 0 0 0
 rw [p6_eq]
 generalize p6 _ _ _ _ _ _ _ _ = W9 at LR9 up A9 P9 U9 ⊢
 obtain ⟨g0, g1, g2, g3, g4, g5⟩ := LR9.all
 exact bodyPost_ret (v := .tuple #[.agg #[.int .i64 0, .int .i64 0, .int .u32 0, .int .u32 0, .int .i64 0, .int .i64 0], .bool false]) (by simp [results, Try.results90, go_sem, g0, g1, g2, g3, g4, g5]) rfl ⟨rfl, A9, P9, U9⟩
theorem do_m97 (x : Cd) (rd : Nat) (w : World) (a : MR h K s w) (ho : 97 ≤ x.op ∧ x.op < 98) (hd : x.d = rd) (ld : rd < 16) (hc : ∀ j, 0 ≤ s.c j ∧ s.c j < 4294967296) :
  Calls Try.prog 90 #[.pointer (some ⟨h, 0, none⟩), .agg #[.int .i64 x.op, .int .i64 x.d, .int .i64 x.a, .int .i64 x.b, .int .i64 x.c, .int .i64 x.n, .int .u32 x.k, .int .u32 x.x]] w fun e w' => e = .returned (lfV none) ∧ MR h K (s.sets rd (fl (s.c 8) (s.c 9) (s.c 10) (s.c 11))) w' ∧ Upto (fun i => i = h) w w' := by
 obtain ⟨q80, q88, q16, q2, q6, r88, r96, r3, r9, e5, e97⟩ : decide (80 ≤ x.op) = true ∧ decide (88 ≤ x.op) = true ∧ decide (16 ≤ x.op) = true ∧ decide (2 ≤ x.op) = true ∧ decide (6 ≤ x.op) = true ∧ decide (x.op < 88) = false ∧ decide (x.op < 96) = false ∧ decide (x.op ≤ 3) = false ∧ decide (x.op ≤ 9) = false ∧ (x.op == 5) = false ∧ (x.op == 97) = true := by simp; omega
 have CV : Hid (∀ w, MR h K s w → Calls Try.prog 155 #[.pointer (some ⟨h, 0, none⟩), .agg #[.int .i64 x.op, .int .i64 x.d, .int .i64 x.a, .int .i64 x.b, .int .i64 x.c, .int .i64 x.n, .int .u32 x.k, .int .u32 x.x]] w fun e w' => e = .returned (.tuple #[]) ∧ MR h K (s.sets rd (fl (s.c 8) (s.c 9) (s.c 10) (s.c 11))) w' ∧ Upto (fun i => i = h) w w') := fun w a => moves_97 x rd hd ld hc w a (by omega)
 clear hd
 generalize hs' : (s.sets rd (fl (s.c 8) (s.c 9) (s.c 10) (s.c 11))) = s' at CV ⊢
 clear hs'
 obtain ⟨xb, lb, u0⟩ := two_new w x
 have a0 := a.upto u0 id
 have ld := a.l
 clear a
 go_enter Try.func90, Try.ntmps90
 go_upto_region 1 with fail
 generalize hWA : (w.alloc (.cells #[.int .i64 x.op, .int .i64 x.d, .int .i64 x.a, .int .i64 x.b, .int .i64 x.c, .int .i64 x.n, .int .u32 x.k, .int .u32 x.x] 108)).alloc (.cells #[.int .i64 0, .int .i64 0, .int .u32 0, .int .u32 0, .int .i64 0, .int .i64 0] 52) = WA at xb lb u0 a0  ⊢
 have hA : w.heap.size + 1 < WA.heap.size := lb.l
 clear hWA
 have XX := κ xb
 have A := κ a0
 have LR := κ lb
 have U := κ (u0.mono (T := fun i => i = h) fun _ _ h => h.elim)
 clear xb lb u0 a0
 have lh := A.out.l
 obtain ⟨x0, x1, x2, x3, x4, x5, x6, x7⟩ := XX.out.all
 have lx := XX.out.l
 go_upto_region 18 with (go_at_call 155; (with_reducible refine (CV.out _ A.out).mono ?_); rintro e w7 ⟨rfl, a7, u7⟩; have A := κ a7; have LR := κ (LR.out.upto u7 (by omega)); have U := κ (U.out.trans u7); have hl7 : w.heap.size + 1 < w7.heap.size := LR.out.l; clear a7 u7)
 clear x0 x1 x2 x3 x4 x5 x6 x7 lx
 clear lh
 generalize w7 = WX at A LR U hl7 ⊢
 obtain ⟨g0, g1, g2, g3, g4, g5⟩ := LR.out.all
 have zg := LR.out.z
 have lg := LR.out.l
 go_wp2_with fail
 clear g0 g1 g2 g3 g4 g5 zg lg
 have V9 := up6' (w.heap.size + 1) WX 0 0 0 0 0 0
 have A9 := A.out.upto V9 (by omega)
 have U9 := up6 (h := w.heap.size + 1) U.out (.inr (Nat.le_succ _)) 0 0 0 0 0 0
 clear V9
 have LR9 := LR.out.put 0 0 0 0 0 0
 have up := up6' (w.heap.size + 1) WX 0 0 0 0 0 0
 rw [p6_eq]
 generalize p6 _ _ _ _ _ _ _ _ = W9 at LR9 up A9 U9 ⊢
 obtain ⟨g0, g1, g2, g3, g4, g5⟩ := LR9.all
 exact bodyPost_ret (v := .tuple #[.agg #[.int .i64 0, .int .i64 0, .int .u32 0, .int .u32 0, .int .i64 0, .int .i64 0], .bool false]) (by simp [results, Try.results90, go_sem, g0, g1, g2, g3, g4, g5]) rfl ⟨rfl, A9, U9⟩
theorem do_c1 (x : Cd) (o : Option Lf) (Pst : World → Prop) (w : World) (a : MR h K s w) (ho : 1 ≤ x.op ∧ x.op < 2) (hC : ∀ w1, Upto (fun _ => False) w w1 → w.heap.size + 1 < w1.heap.size → Calls Try.prog 156 #[.pointer (some ⟨h, 0, none⟩), .agg #[.int .i64 x.op, .int .i64 x.d, .int .i64 x.a, .int .i64 x.b, .int .i64 x.c, .int .i64 x.n, .int .u32 x.k, .int .u32 x.x]] w1 fun e w' => e = .returned (lfV o) ∧ Pst w' ∧ Upto (fun i => i = h) w1 w') (hP : ∀ w1 w2, Pst w1 → Upto (fun i => i = w.heap.size + 1) w1 w2 → Pst w2) :
  Calls Try.prog 90 #[.pointer (some ⟨h, 0, none⟩), .agg #[.int .i64 x.op, .int .i64 x.d, .int .i64 x.a, .int .i64 x.b, .int .i64 x.c, .int .i64 x.n, .int .u32 x.k, .int .u32 x.x]] w fun e w' => e = .returned (lfV o) ∧ Pst w' ∧ Upto (fun i => i = h) w w' := by
 obtain ⟨q80, q88, q16, q2, q6, r88, r96, r3, r9, e5, e97⟩ : decide (80 ≤ x.op) = false ∧ decide (88 ≤ x.op) = false ∧ decide (16 ≤ x.op) = false ∧ decide (2 ≤ x.op) = false ∧ decide (6 ≤ x.op) = false ∧ decide (x.op < 88) = true ∧ decide (x.op < 96) = true ∧ decide (x.op ≤ 3) = true ∧ decide (x.op ≤ 9) = true ∧ (x.op == 5) = false ∧ (x.op == 97) = false := by simp; omega
 have CC := κ (hC _ (two_new w x).2.2 (two_new w x).2.1.l)
 have HPP := κ hP
 clear hC hP
 rcases o with _ | l
 all_goals unfold lfV at CC ⊢
 ·obtain ⟨xb, lb, u0⟩ := two_new w x
  have a0 := a.upto u0 id
  have ld := a.l
  clear a
  go_enter Try.func90, Try.ntmps90
  go_upto_region 1 with fail
  generalize hWA : (w.alloc (.cells #[.int .i64 x.op, .int .i64 x.d, .int .i64 x.a, .int .i64 x.b, .int .i64 x.c, .int .i64 x.n, .int .u32 x.k, .int .u32 x.x] 108)).alloc (.cells #[.int .i64 0, .int .i64 0, .int .u32 0, .int .u32 0, .int .i64 0, .int .i64 0] 52) = WA at xb lb u0 a0 CC ⊢
  have hA : w.heap.size + 1 < WA.heap.size := lb.l
  clear hWA
  have XX := κ xb
  have A := κ a0
  have LR := κ lb
  have U := κ (u0.mono (T := fun i => i = h) fun _ _ h => h.elim)
  clear xb lb u0 a0
  have lh := A.out.l
  obtain ⟨x0, x1, x2, x3, x4, x5, x6, x7⟩ := XX.out.all
  have lx := XX.out.l
  go_upto_region 2 with fail
  go_wp2_with (go_at_call 156; (with_reducible refine CC.out.mono ?_); rintro e w7 ⟨rfl, p7, u7⟩; have P7 := κ p7; have LR := κ (LR.out.upto u7 (by omega)); have U7 := U.out.trans u7; have hl7 : w.heap.size + 1 < w7.heap.size := LR.out.l; obtain ⟨g0, g1, g2, g3, g4, g5⟩ := LR.out.all; have zg := LR.out.z; have lg := LR.out.l; clear p7 u7)
  clear g0 g1 g2 g3 g4 g5 zg lg
  clear x0 x1 x2 x3 x4 x5 x6 x7 lx
  have V9 := up6' (w.heap.size + 1) w7 0 0 0 0 0 0
  have P9 := HPP.out _ _ P7.out V9
  have U9 := up6 (h := w.heap.size + 1) U7 (.inr (Nat.le_succ _)) 0 0 0 0 0 0
  clear V9
  have LR9 := LR.out.put 0 0 0 0 0 0
  have up := up6' (w.heap.size + 1) w7 0 0 0 0 0 0
  rw [p6_eq]
  generalize p6 _ _ _ _ _ _ _ _ = W9 at LR9 up P9 U9 ⊢
  obtain ⟨g0, g1, g2, g3, g4, g5⟩ := LR9.all
  exact bodyPost_ret (v := .tuple #[.agg #[.int .i64 0, .int .i64 0, .int .u32 0, .int .u32 0, .int .i64 0, .int .i64 0], .bool false]) (by simp [results, Try.results90, go_sem, g0, g1, g2, g3, g4, g5]) rfl ⟨rfl, P9, U9⟩
 ·obtain ⟨xb, lb, u0⟩ := two_new w x
  have a0 := a.upto u0 id
  have ld := a.l
  clear a
  go_enter Try.func90, Try.ntmps90
  go_upto_region 1 with fail
  generalize hWA : (w.alloc (.cells #[.int .i64 x.op, .int .i64 x.d, .int .i64 x.a, .int .i64 x.b, .int .i64 x.c, .int .i64 x.n, .int .u32 x.k, .int .u32 x.x] 108)).alloc (.cells #[.int .i64 0, .int .i64 0, .int .u32 0, .int .u32 0, .int .i64 0, .int .i64 0] 52) = WA at xb lb u0 a0 CC ⊢
  have hA : w.heap.size + 1 < WA.heap.size := lb.l
  clear hWA
  have XX := κ xb
  have A := κ a0
  have LR := κ lb
  have U := κ (u0.mono (T := fun i => i = h) fun _ _ h => h.elim)
  clear xb lb u0 a0
  have lh := A.out.l
  obtain ⟨x0, x1, x2, x3, x4, x5, x6, x7⟩ := XX.out.all
  have lx := XX.out.l
  go_upto_region 2 with fail
  go_wp2_with (go_at_call 156; (with_reducible refine CC.out.mono ?_); rintro e w7 ⟨rfl, p7, u7⟩; have P7 := κ p7; have LR := κ (LR.out.upto u7 (by omega)); have U7 := U.out.trans u7; have hl7 : w.heap.size + 1 < w7.heap.size := LR.out.l; obtain ⟨g0, g1, g2, g3, g4, g5⟩ := LR.out.all; have zg := LR.out.z; have lg := LR.out.l; clear p7 u7)
  clear g0 g1 g2 g3 g4 g5 zg lg
  clear x0 x1 x2 x3 x4 x5 x6 x7 lx
  have V9 := up6' (w.heap.size + 1) w7 l.k l.sk l.sx l.pc l.n 0
  have P9 := HPP.out _ _ P7.out V9
  have U9 := up6 (h := w.heap.size + 1) U7 (.inr (Nat.le_succ _)) l.k l.sk l.sx l.pc l.n 0
  clear V9
  have LR9 := LR.out.put l.k l.sk l.sx l.pc l.n 0
  have up := up6' (w.heap.size + 1) w7 l.k l.sk l.sx l.pc l.n 0
  rw [p6_eq]
  generalize p6 _ _ _ _ _ _ _ _ = W9 at LR9 up P9 U9 ⊢
  obtain ⟨g0, g1, g2, g3, g4, g5⟩ := LR9.all
  exact bodyPost_ret (v := .tuple #[.agg #[.int .i64 l.k, .int .i64 l.sk, .int .u32 l.sx, .int .u32 l.pc, .int .i64 l.n, .int .i64 0], .bool true]) (by simp [results, Try.results90, go_sem, g0, g1, g2, g3, g4, g5]) rfl ⟨rfl, P9, U9⟩
theorem do_c4 (x : Cd) (o : Option Lf) (Pst : World → Prop) (w : World) (a : MR h K s w) (ho : 4 ≤ x.op ∧ x.op < 5) (hC : ∀ w1, Upto (fun _ => False) w w1 → w.heap.size + 1 < w1.heap.size → Calls Try.prog 156 #[.pointer (some ⟨h, 0, none⟩), .agg #[.int .i64 x.op, .int .i64 x.d, .int .i64 x.a, .int .i64 x.b, .int .i64 x.c, .int .i64 x.n, .int .u32 x.k, .int .u32 x.x]] w1 fun e w' => e = .returned (lfV o) ∧ Pst w' ∧ Upto (fun i => i = h) w1 w') (hP : ∀ w1 w2, Pst w1 → Upto (fun i => i = w.heap.size + 1) w1 w2 → Pst w2) :
  Calls Try.prog 90 #[.pointer (some ⟨h, 0, none⟩), .agg #[.int .i64 x.op, .int .i64 x.d, .int .i64 x.a, .int .i64 x.b, .int .i64 x.c, .int .i64 x.n, .int .u32 x.k, .int .u32 x.x]] w fun e w' => e = .returned (lfV o) ∧ Pst w' ∧ Upto (fun i => i = h) w w' := by
 obtain ⟨q80, q88, q16, q2, q6, r88, r96, r3, r9, e5, e97⟩ : decide (80 ≤ x.op) = false ∧ decide (88 ≤ x.op) = false ∧ decide (16 ≤ x.op) = false ∧ decide (2 ≤ x.op) = true ∧ decide (6 ≤ x.op) = false ∧ decide (x.op < 88) = true ∧ decide (x.op < 96) = true ∧ decide (x.op ≤ 3) = false ∧ decide (x.op ≤ 9) = true ∧ (x.op == 5) = false ∧ (x.op == 97) = false := by simp; omega
 have CC := κ (hC _ (two_new w x).2.2 (two_new w x).2.1.l)
 have HPP := κ hP
 clear hC hP
 rcases o with _ | l
 all_goals unfold lfV at CC ⊢
 ·obtain ⟨xb, lb, u0⟩ := two_new w x
  have a0 := a.upto u0 id
  have ld := a.l
  clear a
  go_enter Try.func90, Try.ntmps90
  go_upto_region 1 with fail
  generalize hWA : (w.alloc (.cells #[.int .i64 x.op, .int .i64 x.d, .int .i64 x.a, .int .i64 x.b, .int .i64 x.c, .int .i64 x.n, .int .u32 x.k, .int .u32 x.x] 108)).alloc (.cells #[.int .i64 0, .int .i64 0, .int .u32 0, .int .u32 0, .int .i64 0, .int .i64 0] 52) = WA at xb lb u0 a0 CC ⊢
  have hA : w.heap.size + 1 < WA.heap.size := lb.l
  clear hWA
  have XX := κ xb
  have A := κ a0
  have LR := κ lb
  have U := κ (u0.mono (T := fun i => i = h) fun _ _ h => h.elim)
  clear xb lb u0 a0
  have lh := A.out.l
  obtain ⟨x0, x1, x2, x3, x4, x5, x6, x7⟩ := XX.out.all
  have lx := XX.out.l
  go_upto_region 2 with fail
  go_wp2_with (go_at_call 156; (with_reducible refine CC.out.mono ?_); rintro e w7 ⟨rfl, p7, u7⟩; have P7 := κ p7; have LR := κ (LR.out.upto u7 (by omega)); have U7 := U.out.trans u7; have hl7 : w.heap.size + 1 < w7.heap.size := LR.out.l; obtain ⟨g0, g1, g2, g3, g4, g5⟩ := LR.out.all; have zg := LR.out.z; have lg := LR.out.l; clear p7 u7)
  clear g0 g1 g2 g3 g4 g5 zg lg
  clear x0 x1 x2 x3 x4 x5 x6 x7 lx
  have V9 := up6' (w.heap.size + 1) w7 0 0 0 0 0 0
  have P9 := HPP.out _ _ P7.out V9
  have U9 := up6 (h := w.heap.size + 1) U7 (.inr (Nat.le_succ _)) 0 0 0 0 0 0
  clear V9
  have LR9 := LR.out.put 0 0 0 0 0 0
  have up := up6' (w.heap.size + 1) w7 0 0 0 0 0 0
  rw [p6_eq]
  generalize p6 _ _ _ _ _ _ _ _ = W9 at LR9 up P9 U9 ⊢
  obtain ⟨g0, g1, g2, g3, g4, g5⟩ := LR9.all
  exact bodyPost_ret (v := .tuple #[.agg #[.int .i64 0, .int .i64 0, .int .u32 0, .int .u32 0, .int .i64 0, .int .i64 0], .bool false]) (by simp [results, Try.results90, go_sem, g0, g1, g2, g3, g4, g5]) rfl ⟨rfl, P9, U9⟩
 ·obtain ⟨xb, lb, u0⟩ := two_new w x
  have a0 := a.upto u0 id
  have ld := a.l
  clear a
  go_enter Try.func90, Try.ntmps90
  go_upto_region 1 with fail
  generalize hWA : (w.alloc (.cells #[.int .i64 x.op, .int .i64 x.d, .int .i64 x.a, .int .i64 x.b, .int .i64 x.c, .int .i64 x.n, .int .u32 x.k, .int .u32 x.x] 108)).alloc (.cells #[.int .i64 0, .int .i64 0, .int .u32 0, .int .u32 0, .int .i64 0, .int .i64 0] 52) = WA at xb lb u0 a0 CC ⊢
  have hA : w.heap.size + 1 < WA.heap.size := lb.l
  clear hWA
  have XX := κ xb
  have A := κ a0
  have LR := κ lb
  have U := κ (u0.mono (T := fun i => i = h) fun _ _ h => h.elim)
  clear xb lb u0 a0
  have lh := A.out.l
  obtain ⟨x0, x1, x2, x3, x4, x5, x6, x7⟩ := XX.out.all
  have lx := XX.out.l
  go_upto_region 2 with fail
  go_wp2_with (go_at_call 156; (with_reducible refine CC.out.mono ?_); rintro e w7 ⟨rfl, p7, u7⟩; have P7 := κ p7; have LR := κ (LR.out.upto u7 (by omega)); have U7 := U.out.trans u7; have hl7 : w.heap.size + 1 < w7.heap.size := LR.out.l; obtain ⟨g0, g1, g2, g3, g4, g5⟩ := LR.out.all; have zg := LR.out.z; have lg := LR.out.l; clear p7 u7)
  clear g0 g1 g2 g3 g4 g5 zg lg
  clear x0 x1 x2 x3 x4 x5 x6 x7 lx
  have V9 := up6' (w.heap.size + 1) w7 l.k l.sk l.sx l.pc l.n 0
  have P9 := HPP.out _ _ P7.out V9
  have U9 := up6 (h := w.heap.size + 1) U7 (.inr (Nat.le_succ _)) l.k l.sk l.sx l.pc l.n 0
  clear V9
  have LR9 := LR.out.put l.k l.sk l.sx l.pc l.n 0
  have up := up6' (w.heap.size + 1) w7 l.k l.sk l.sx l.pc l.n 0
  rw [p6_eq]
  generalize p6 _ _ _ _ _ _ _ _ = W9 at LR9 up P9 U9 ⊢
  obtain ⟨g0, g1, g2, g3, g4, g5⟩ := LR9.all
  exact bodyPost_ret (v := .tuple #[.agg #[.int .i64 l.k, .int .i64 l.sk, .int .u32 l.sx, .int .u32 l.pc, .int .i64 l.n, .int .i64 0], .bool true]) (by simp [results, Try.results90, go_sem, g0, g1, g2, g3, g4, g5]) rfl ⟨rfl, P9, U9⟩
theorem do_c10 (x : Cd) (o : Option Lf) (Pst : World → Prop) (w : World) (a : MR h K s w) (ho : 10 ≤ x.op ∧ x.op < 16) (hC : ∀ w1, Upto (fun _ => False) w w1 → w.heap.size + 1 < w1.heap.size → Calls Try.prog 156 #[.pointer (some ⟨h, 0, none⟩), .agg #[.int .i64 x.op, .int .i64 x.d, .int .i64 x.a, .int .i64 x.b, .int .i64 x.c, .int .i64 x.n, .int .u32 x.k, .int .u32 x.x]] w1 fun e w' => e = .returned (lfV o) ∧ Pst w' ∧ Upto (fun i => i = h) w1 w') (hP : ∀ w1 w2, Pst w1 → Upto (fun i => i = w.heap.size + 1) w1 w2 → Pst w2) :
  Calls Try.prog 90 #[.pointer (some ⟨h, 0, none⟩), .agg #[.int .i64 x.op, .int .i64 x.d, .int .i64 x.a, .int .i64 x.b, .int .i64 x.c, .int .i64 x.n, .int .u32 x.k, .int .u32 x.x]] w fun e w' => e = .returned (lfV o) ∧ Pst w' ∧ Upto (fun i => i = h) w w' := by
 obtain ⟨q80, q88, q16, q2, q6, r88, r96, r3, r9, e5, e97⟩ : decide (80 ≤ x.op) = false ∧ decide (88 ≤ x.op) = false ∧ decide (16 ≤ x.op) = false ∧ decide (2 ≤ x.op) = true ∧ decide (6 ≤ x.op) = true ∧ decide (x.op < 88) = true ∧ decide (x.op < 96) = true ∧ decide (x.op ≤ 3) = false ∧ decide (x.op ≤ 9) = false ∧ (x.op == 5) = false ∧ (x.op == 97) = false := by simp; omega
 have CC := κ (hC _ (two_new w x).2.2 (two_new w x).2.1.l)
 have HPP := κ hP
 clear hC hP
 rcases o with _ | l
 all_goals unfold lfV at CC ⊢
 ·obtain ⟨xb, lb, u0⟩ := two_new w x
  have a0 := a.upto u0 id
  have ld := a.l
  clear a
  go_enter Try.func90, Try.ntmps90
  go_upto_region 1 with fail
  generalize hWA : (w.alloc (.cells #[.int .i64 x.op, .int .i64 x.d, .int .i64 x.a, .int .i64 x.b, .int .i64 x.c, .int .i64 x.n, .int .u32 x.k, .int .u32 x.x] 108)).alloc (.cells #[.int .i64 0, .int .i64 0, .int .u32 0, .int .u32 0, .int .i64 0, .int .i64 0] 52) = WA at xb lb u0 a0 CC ⊢
  have hA : w.heap.size + 1 < WA.heap.size := lb.l
  clear hWA
  have XX := κ xb
  have A := κ a0
  have LR := κ lb
  have U := κ (u0.mono (T := fun i => i = h) fun _ _ h => h.elim)
  clear xb lb u0 a0
  have lh := A.out.l
  obtain ⟨x0, x1, x2, x3, x4, x5, x6, x7⟩ := XX.out.all
  have lx := XX.out.l
  go_upto_region 2 with fail
  go_wp2_with (go_at_call 156; (with_reducible refine CC.out.mono ?_); rintro e w7 ⟨rfl, p7, u7⟩; have P7 := κ p7; have LR := κ (LR.out.upto u7 (by omega)); have U7 := U.out.trans u7; have hl7 : w.heap.size + 1 < w7.heap.size := LR.out.l; obtain ⟨g0, g1, g2, g3, g4, g5⟩ := LR.out.all; have zg := LR.out.z; have lg := LR.out.l; clear p7 u7)
  clear g0 g1 g2 g3 g4 g5 zg lg
  clear x0 x1 x2 x3 x4 x5 x6 x7 lx
  have V9 := up6' (w.heap.size + 1) w7 0 0 0 0 0 0
  have P9 := HPP.out _ _ P7.out V9
  have U9 := up6 (h := w.heap.size + 1) U7 (.inr (Nat.le_succ _)) 0 0 0 0 0 0
  clear V9
  have LR9 := LR.out.put 0 0 0 0 0 0
  have up := up6' (w.heap.size + 1) w7 0 0 0 0 0 0
  rw [p6_eq]
  generalize p6 _ _ _ _ _ _ _ _ = W9 at LR9 up P9 U9 ⊢
  obtain ⟨g0, g1, g2, g3, g4, g5⟩ := LR9.all
  exact bodyPost_ret (v := .tuple #[.agg #[.int .i64 0, .int .i64 0, .int .u32 0, .int .u32 0, .int .i64 0, .int .i64 0], .bool false]) (by simp [results, Try.results90, go_sem, g0, g1, g2, g3, g4, g5]) rfl ⟨rfl, P9, U9⟩
 ·obtain ⟨xb, lb, u0⟩ := two_new w x
  have a0 := a.upto u0 id
  have ld := a.l
  clear a
  go_enter Try.func90, Try.ntmps90
  go_upto_region 1 with fail
  generalize hWA : (w.alloc (.cells #[.int .i64 x.op, .int .i64 x.d, .int .i64 x.a, .int .i64 x.b, .int .i64 x.c, .int .i64 x.n, .int .u32 x.k, .int .u32 x.x] 108)).alloc (.cells #[.int .i64 0, .int .i64 0, .int .u32 0, .int .u32 0, .int .i64 0, .int .i64 0] 52) = WA at xb lb u0 a0 CC ⊢
  have hA : w.heap.size + 1 < WA.heap.size := lb.l
  clear hWA
  have XX := κ xb
  have A := κ a0
  have LR := κ lb
  have U := κ (u0.mono (T := fun i => i = h) fun _ _ h => h.elim)
  clear xb lb u0 a0
  have lh := A.out.l
  obtain ⟨x0, x1, x2, x3, x4, x5, x6, x7⟩ := XX.out.all
  have lx := XX.out.l
  go_upto_region 2 with fail
  go_wp2_with (go_at_call 156; (with_reducible refine CC.out.mono ?_); rintro e w7 ⟨rfl, p7, u7⟩; have P7 := κ p7; have LR := κ (LR.out.upto u7 (by omega)); have U7 := U.out.trans u7; have hl7 : w.heap.size + 1 < w7.heap.size := LR.out.l; obtain ⟨g0, g1, g2, g3, g4, g5⟩ := LR.out.all; have zg := LR.out.z; have lg := LR.out.l; clear p7 u7)
  clear g0 g1 g2 g3 g4 g5 zg lg
  clear x0 x1 x2 x3 x4 x5 x6 x7 lx
  have V9 := up6' (w.heap.size + 1) w7 l.k l.sk l.sx l.pc l.n 0
  have P9 := HPP.out _ _ P7.out V9
  have U9 := up6 (h := w.heap.size + 1) U7 (.inr (Nat.le_succ _)) l.k l.sk l.sx l.pc l.n 0
  clear V9
  have LR9 := LR.out.put l.k l.sk l.sx l.pc l.n 0
  have up := up6' (w.heap.size + 1) w7 l.k l.sk l.sx l.pc l.n 0
  rw [p6_eq]
  generalize p6 _ _ _ _ _ _ _ _ = W9 at LR9 up P9 U9 ⊢
  obtain ⟨g0, g1, g2, g3, g4, g5⟩ := LR9.all
  exact bodyPost_ret (v := .tuple #[.agg #[.int .i64 l.k, .int .i64 l.sk, .int .u32 l.sx, .int .u32 l.pc, .int .i64 l.n, .int .i64 0], .bool true]) (by simp [results, Try.results90, go_sem, g0, g1, g2, g3, g4, g5]) rfl ⟨rfl, P9, U9⟩
theorem do_c96 (x : Cd) (o : Option Lf) (Pst : World → Prop) (w : World) (a : MR h K s w) (ho : 96 ≤ x.op ∧ x.op < 97) (hC : ∀ w1, Upto (fun _ => False) w w1 → w.heap.size + 1 < w1.heap.size → Calls Try.prog 156 #[.pointer (some ⟨h, 0, none⟩), .agg #[.int .i64 x.op, .int .i64 x.d, .int .i64 x.a, .int .i64 x.b, .int .i64 x.c, .int .i64 x.n, .int .u32 x.k, .int .u32 x.x]] w1 fun e w' => e = .returned (lfV o) ∧ Pst w' ∧ Upto (fun i => i = h) w1 w') (hP : ∀ w1 w2, Pst w1 → Upto (fun i => i = w.heap.size + 1) w1 w2 → Pst w2) :
  Calls Try.prog 90 #[.pointer (some ⟨h, 0, none⟩), .agg #[.int .i64 x.op, .int .i64 x.d, .int .i64 x.a, .int .i64 x.b, .int .i64 x.c, .int .i64 x.n, .int .u32 x.k, .int .u32 x.x]] w fun e w' => e = .returned (lfV o) ∧ Pst w' ∧ Upto (fun i => i = h) w w' := by
 obtain ⟨q80, q88, q16, q2, q6, r88, r96, r3, r9, e5, e97⟩ : decide (80 ≤ x.op) = true ∧ decide (88 ≤ x.op) = true ∧ decide (16 ≤ x.op) = true ∧ decide (2 ≤ x.op) = true ∧ decide (6 ≤ x.op) = true ∧ decide (x.op < 88) = false ∧ decide (x.op < 96) = false ∧ decide (x.op ≤ 3) = false ∧ decide (x.op ≤ 9) = false ∧ (x.op == 5) = false ∧ (x.op == 97) = false := by simp; omega
 have CC := κ (hC _ (two_new w x).2.2 (two_new w x).2.1.l)
 have HPP := κ hP
 clear hC hP
 rcases o with _ | l
 all_goals unfold lfV at CC ⊢
 ·obtain ⟨xb, lb, u0⟩ := two_new w x
  have a0 := a.upto u0 id
  have ld := a.l
  clear a
  go_enter Try.func90, Try.ntmps90
  go_upto_region 1 with fail
  generalize hWA : (w.alloc (.cells #[.int .i64 x.op, .int .i64 x.d, .int .i64 x.a, .int .i64 x.b, .int .i64 x.c, .int .i64 x.n, .int .u32 x.k, .int .u32 x.x] 108)).alloc (.cells #[.int .i64 0, .int .i64 0, .int .u32 0, .int .u32 0, .int .i64 0, .int .i64 0] 52) = WA at xb lb u0 a0 CC ⊢
  have hA : w.heap.size + 1 < WA.heap.size := lb.l
  clear hWA
  have XX := κ xb
  have A := κ a0
  have LR := κ lb
  have U := κ (u0.mono (T := fun i => i = h) fun _ _ h => h.elim)
  clear xb lb u0 a0
  have lh := A.out.l
  obtain ⟨x0, x1, x2, x3, x4, x5, x6, x7⟩ := XX.out.all
  have lx := XX.out.l
  go_upto_region 2 with fail
  go_wp2_with (go_at_call 156; (with_reducible refine CC.out.mono ?_); rintro e w7 ⟨rfl, p7, u7⟩; have P7 := κ p7; have LR := κ (LR.out.upto u7 (by omega)); have U7 := U.out.trans u7; have hl7 : w.heap.size + 1 < w7.heap.size := LR.out.l; obtain ⟨g0, g1, g2, g3, g4, g5⟩ := LR.out.all; have zg := LR.out.z; have lg := LR.out.l; clear p7 u7)
  clear g0 g1 g2 g3 g4 g5 zg lg
  clear x0 x1 x2 x3 x4 x5 x6 x7 lx
  have V9 := up6' (w.heap.size + 1) w7 0 0 0 0 0 0
  have P9 := HPP.out _ _ P7.out V9
  have U9 := up6 (h := w.heap.size + 1) U7 (.inr (Nat.le_succ _)) 0 0 0 0 0 0
  clear V9
  have LR9 := LR.out.put 0 0 0 0 0 0
  have up := up6' (w.heap.size + 1) w7 0 0 0 0 0 0
  rw [p6_eq]
  generalize p6 _ _ _ _ _ _ _ _ = W9 at LR9 up P9 U9 ⊢
  obtain ⟨g0, g1, g2, g3, g4, g5⟩ := LR9.all
  exact bodyPost_ret (v := .tuple #[.agg #[.int .i64 0, .int .i64 0, .int .u32 0, .int .u32 0, .int .i64 0, .int .i64 0], .bool false]) (by simp [results, Try.results90, go_sem, g0, g1, g2, g3, g4, g5]) rfl ⟨rfl, P9, U9⟩
 ·obtain ⟨xb, lb, u0⟩ := two_new w x
  have a0 := a.upto u0 id
  have ld := a.l
  clear a
  go_enter Try.func90, Try.ntmps90
  go_upto_region 1 with fail
  generalize hWA : (w.alloc (.cells #[.int .i64 x.op, .int .i64 x.d, .int .i64 x.a, .int .i64 x.b, .int .i64 x.c, .int .i64 x.n, .int .u32 x.k, .int .u32 x.x] 108)).alloc (.cells #[.int .i64 0, .int .i64 0, .int .u32 0, .int .u32 0, .int .i64 0, .int .i64 0] 52) = WA at xb lb u0 a0 CC ⊢
  have hA : w.heap.size + 1 < WA.heap.size := lb.l
  clear hWA
  have XX := κ xb
  have A := κ a0
  have LR := κ lb
  have U := κ (u0.mono (T := fun i => i = h) fun _ _ h => h.elim)
  clear xb lb u0 a0
  have lh := A.out.l
  obtain ⟨x0, x1, x2, x3, x4, x5, x6, x7⟩ := XX.out.all
  have lx := XX.out.l
  go_upto_region 2 with fail
  go_wp2_with (go_at_call 156; (with_reducible refine CC.out.mono ?_); rintro e w7 ⟨rfl, p7, u7⟩; have P7 := κ p7; have LR := κ (LR.out.upto u7 (by omega)); have U7 := U.out.trans u7; have hl7 : w.heap.size + 1 < w7.heap.size := LR.out.l; obtain ⟨g0, g1, g2, g3, g4, g5⟩ := LR.out.all; have zg := LR.out.z; have lg := LR.out.l; clear p7 u7)
  clear g0 g1 g2 g3 g4 g5 zg lg
  clear x0 x1 x2 x3 x4 x5 x6 x7 lx
  have V9 := up6' (w.heap.size + 1) w7 l.k l.sk l.sx l.pc l.n 0
  have P9 := HPP.out _ _ P7.out V9
  have U9 := up6 (h := w.heap.size + 1) U7 (.inr (Nat.le_succ _)) l.k l.sk l.sx l.pc l.n 0
  clear V9
  have LR9 := LR.out.put l.k l.sk l.sx l.pc l.n 0
  have up := up6' (w.heap.size + 1) w7 l.k l.sk l.sx l.pc l.n 0
  rw [p6_eq]
  generalize p6 _ _ _ _ _ _ _ _ = W9 at LR9 up P9 U9 ⊢
  obtain ⟨g0, g1, g2, g3, g4, g5⟩ := LR9.all
  exact bodyPost_ret (v := .tuple #[.agg #[.int .i64 l.k, .int .i64 l.sk, .int .u32 l.sx, .int .u32 l.pc, .int .i64 l.n, .int .i64 0], .bool true]) (by simp [results, Try.results90, go_sem, g0, g1, g2, g3, g4, g5]) rfl ⟨rfl, P9, U9⟩
end Go.Proofs.Ytcjcmnnhmajocab.Hr
