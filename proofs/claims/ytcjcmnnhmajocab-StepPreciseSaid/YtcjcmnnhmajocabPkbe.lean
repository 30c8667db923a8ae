/- crossgrainref2's memory: instructions that load and store. -/
import Derived.RegionTactic
import Derived.BigRegion
import Derived.Deep.RegionWith
import Derived.Deep.DeepCutAuto
import Derived.Deep.CutBlock
import Derived.Test.YtcjcmnnhmajocabPkad
import Derived.Test.YtcjcmnnhmajocabPkav
namespace Go.Proofs.Ytcjcmnnhmajocab.St
open Go.RowKit Kt Me Fl Gu
set_option linter.unusedVariables false
set_option linter.unusedSimpArgs false
variable {R : Nat → Int} {pc f nx : Int}
set_option maxRecDepth 100000 in
set_option maxHeartbeats 16000000 in
theorem me_sn (k : Int) (P : RP) (M : MM) (d s : Nat) (o m q : Int) (hd : d < 8) (hs : s < 8) (w : World) (hm : RM P M w) (hR : ROk R) (v : Int) (v0 : 0 ≤ v) (v1 : v < 4294967296) (kk xx : Int) (hk1 : 24 ≤ k) (hk2 : k ≤ 26) (hk : kk ≠ 0) (C : ∀ w, RM P M w → Calls Try.prog 105 #[.pointer (some ⟨P.q, 0, none⟩), .int .u32 (q), .int .i64 4] w fun e w' => e = .returned (.tuple #[.int .u32 v, .agg #[.int .i64 kk, .int .u32 xx]]) ∧ Below w.heap.size w w') :
    Calls Try.prog 87 #[.pointer (some ⟨P.q, 0, none⟩), insL k d s o m, stV R pc f, stV R nx f, .int .u32 q] w fun e w' => e = .returned (outV ⟨M, R, pc, f, kk, xx⟩) ∧ RM P M w' ∧ Upto P.has w w' := by
  have CS := Lib.hid C
  clear C
  have hd0 : (0 : Int) ≤ (d : Int) := by omega
  have hd1 : (d : Int) < 8 := by omega
  have hs0 : (0 : Int) ≤ (s : Int) := by omega
  have hs1 : (s : Int) < 8 := by omega
  have e4 : (R 7 - 4) % 4294967296 = w32 (R 7 - 4) := rfl
  have e5 : (R 7 + 4) % 4294967296 = w32 (R 7 + 4) := rfl
  have e6 : (nx + m) % 4294967296 = w32 (nx + m) := rfl
  have i11 : (k == 11) = false := by rw [beq_eq_false_iff_ne]; omega
  have i14 : (k == 14) = false := by rw [beq_eq_false_iff_ne]; omega
  have i3 : (k == 3) = false := by rw [beq_eq_false_iff_ne]; omega
  have i8 : (k == 8) = false := by rw [beq_eq_false_iff_ne]; omega
  have i10 : (k == 10) = false := by rw [beq_eq_false_iff_ne]; omega
  have i15 : (k == 15) = false := by rw [beq_eq_false_iff_ne]; omega
  have i4 : (k == 4) = false := by rw [beq_eq_false_iff_ne]; omega
  have i2 : (k == 2) = false := by rw [beq_eq_false_iff_ne]; omega
  have i30 : (k == 30) = false := by rw [beq_eq_false_iff_ne]; omega
  have i31 : (k == 31) = false := by rw [beq_eq_false_iff_ne]; omega
  have n1 := MB.new w R pc f k d s o m R nx f
  have nu1 := ((((((Upto.refl (fun _ => False) w).alloc (.cells #[.int .i64 k, .int .i64 d, .int .i64 s, .int .i64 o, .int .u32 m] 149)).alloc (.cells (stL R pc f) 72)).alloc (.cells (stL R nx f) 72)).alloc (.cells Z10 72)).alloc (.cells Z2 46)).alloc (.cells Z2 46)
  have m1 := hm.upto nu1 (fun _ _ => id)
  have hW0 := Lib.hid (fun i (hi : w.heap.size ≤ i) (h : P.has i) => show False by have := rm_lt hm h; omega)
  clear hm hR
  unfold stL Z10 Z2 at n1 nu1 m1
  unfold insL stV
  go_enter Try.func87, Try.ntmps87
  go_upto_region 5 with fail
  generalize (((((w.alloc (.cells #[.int .i64 k, .int .i64 d, .int .i64 s, .int .i64 o, .int .u32 m] 149)).alloc (.cells #[.int .u32 (R 0), .int .u32 (R 1), .int .u32 (R 2), .int .u32 (R 3), .int .u32 (R 4), .int .u32 (R 5), .int .u32 (R 6), .int .u32 (R 7), .int .u32 pc, .int .u32 f] 72)).alloc (.cells #[.int .u32 (R 0), .int .u32 (R 1), .int .u32 (R 2), .int .u32 (R 3), .int .u32 (R 4), .int .u32 (R 5), .int .u32 (R 6), .int .u32 (R 7), .int .u32 nx, .int .u32 f] 72)).alloc (.cells #[.int .u32 0, .int .u32 0, .int .u32 0, .int .u32 0, .int .u32 0, .int .u32 0, .int .u32 0, .int .u32 0, .int .u32 0, .int .u32 0] 72)).alloc (.cells #[.int .i64 0, .int .u32 0] 46)).alloc (.cells #[.int .i64 0, .int .u32 0] 46) = WA at n1 nu1 m1 ⊢
  have H1 := Lib.hid n1
  have U1 := Lib.hid (nu1.mono (T := P.has) fun _ _ h => h.elim)
  have M1 := Lib.hid m1
  clear n1 nu1 m1
  have x0 := H1.out.x.c0
  have x1 := H1.out.x.c1
  have x2 := H1.out.x.c2
  have x3 := H1.out.x.c3
  have x4 := H1.out.x.c4
  have s7 := H1.out.s.r 7 (by omega)
  have sd := H1.out.s.r d hd
  have ss := H1.out.s.r s hs
  have s9 := H1.out.s.c9
  have t7 := H1.out.t.r 7 (by omega)
  have td := H1.out.t.r d hd
  have t8 := H1.out.t.c8
  have t9 := H1.out.t.c9
  have zt7 := H1.out.t.z 7
  have ztd := H1.out.t.z d
  have zt8 := H1.out.t.z 8
  have zt9 := H1.out.t.z 9
  have k0 := H1.out.k.c0
  have k1 := H1.out.k.c1
  have zk0 := H1.out.k.z 0
  have zk1 := H1.out.k.z 1
  have lk := H1.out.k.l
  have lt := H1.out.t.l
  have b0 : (kk == 0) = false := by rw [beq_eq_false_iff_ne]; exact hk
  have b0' : (kk != 0) = true := by rw [bne, b0]; rfl
  go_wp2_with (go_at_call 105; (with_reducible refine (CS.out _ M1.out).mono ?_); rintro e w3 ⟨rfl, b3⟩; have B3 := Upto.of_below (S := P.has) b3; have M3 := Lib.hid (M1.out.upto (Upto.of_below (S := fun _ => False) b3) (fun _ _ => id)); have hno := fun i hi => hW0.out i hi; clear x1 x2 x3 x4 s7 sd ss s9 t7 td t8 t9 zt7 ztd zt8 zt9 k0 k1 zk0 zk1 lk lt x0; have H3 := Lib.hid (H1.out.upto B3 hno); have x1 := H3.out.x.c1; have x2 := H3.out.x.c2; have x3 := H3.out.x.c3; have x4 := H3.out.x.c4; have s7 := H3.out.s.r 7 (by omega); have sd := H3.out.s.r d hd; have ss := H3.out.s.r s hs; have s9 := H3.out.s.c9; have t7 := H3.out.t.r 7 (by omega); have td := H3.out.t.r d hd; have t8 := H3.out.t.c8; have t9 := H3.out.t.c9; have zt7 := H3.out.t.z 7; have ztd := H3.out.t.z d; have zt8 := H3.out.t.z 8; have zt9 := H3.out.t.z 9; have k0 := H3.out.k.c0; have k1 := H3.out.k.c1; have zk0 := H3.out.k.z 0; have zk1 := H3.out.k.z 1; have lk := H3.out.k.l; have lt := H3.out.t.l; have U3 := Lib.hid (U1.out.trans B3); clear B3 b3 hno)
  have h4 := H3.out.setK kk xx
  clear x1 x2 x3 x4 s7 sd ss s9 t7 td t8 t9 zt7 ztd zt8 zt9 k0 k1 zk0 zk1 lk lt
  have m4 : RM P M (((w3.setCell ⟨w.heap.size + 1 + 1 + 1 + 1 + 1, 0, none⟩ (.int .i64 kk)).setCell ⟨w.heap.size + 1 + 1 + 1 + 1 + 1, 1, none⟩ (.int .u32 xx))) := by repeat (first | exact M3.out | apply RM.drew | refine rm_setA ?_ (hW0.out _ (by omega)))
  have u4 : Upto P.has w (((w3.setCell ⟨w.heap.size + 1 + 1 + 1 + 1 + 1, 0, none⟩ (.int .i64 kk)).setCell ⟨w.heap.size + 1 + 1 + 1 + 1 + 1, 1, none⟩ (.int .u32 xx))) := by repeat (first | exact U3.out | apply Upto.drew | refine upto_big ?_ (by omega))
  generalize ((w3.setCell ⟨w.heap.size + 1 + 1 + 1 + 1 + 1, 0, none⟩ (.int .i64 kk)).setCell ⟨w.heap.size + 1 + 1 + 1 + 1 + 1, 1, none⟩ (.int .u32 xx)) = W3 at h4 m4 u4 ⊢
  have H4 := Lib.hid h4
  have M4 := Lib.hid m4
  have U4 := Lib.hid u4
  clear h4 m4 u4
  obtain ⟨a0, a1, a2, a3, a4, a5, a6, a7, a8, a9⟩ := H4.out.s.all
  have a10 := H4.out.k.c0
  have a11 := H4.out.k.c1
  obtain ⟨q0, y0, q1, y1, q2, y2, q3, y3, q4, y4, q5, y5, q6, y6, q7, y7, q8, y8, q9, y9, r0, z0, r1, z1⟩ := H4.out.q.all
  go_region
  clear q0 y0 q1 y1 q2 y2 q3 y3 q4 y4 q5 y5 q6 y6 q7 y7 q8 y8 q9 y9 r0 z0 r1 z1
  clear a0 a1 a2 a3 a4 a5 a6 a7 a8 a9 a10 a11
  obtain ⟨u, t, fq, v0, v1, v2, v3, v4, v5, v6, v7, v8, v9, t0, t1⟩ := H4.out.q.put (.int .u32 (R 0)) (.int .u32 (R 1)) (.int .u32 (R 2)) (.int .u32 (R 3)) (.int .u32 (R 4)) (.int .u32 (R 5)) (.int .u32 (R 6)) (.int .u32 (R 7)) (.int .u32 pc) (.int .u32 f) (.int .i64 kk) (.int .u32 xx)
  have bp := (upto_put (h := w.heap.size + 1 + 1 + 1) (g := w.heap.size + 1 + 1 + 1 + 1) U4.out (.inr (by omega)) (.inr (by omega)) (.int .u32 (R 0)) (.int .u32 (R 1)) (.int .u32 (R 2)) (.int .u32 (R 3)) (.int .u32 (R 4)) (.int .u32 (R 5)) (.int .u32 (R 6)) (.int .u32 (R 7)) (.int .u32 pc) (.int .u32 f) (.int .i64 kk) (.int .u32 xx)).drew
  have hp := (M4.out.upto (upto_put (h := w.heap.size + 1 + 1 + 1) (g := w.heap.size + 1 + 1 + 1 + 1) (Upto.refl (fun i => i = w.heap.size + 1 + 1 + 1 ∨ i = w.heap.size + 1 + 1 + 1 + 1) W3) (.inl (.inl rfl)) (.inl (.inr rfl)) (.int .u32 (R 0)) (.int .u32 (R 1)) (.int .u32 (R 2)) (.int .u32 (R 3)) (.int .u32 (R 4)) (.int .u32 (R 5)) (.int .u32 (R 6)) (.int .u32 (R 7)) (.int .u32 pc) (.int .u32 f) (.int .i64 kk) (.int .u32 xx)) (fun j hj hx => hW0.out j (by rcases hx with hx | hx <;> omega) hj)).drew
  have fq2 := fq.drew
  clear fq
  generalize World.drew _ = WZ at fq2 bp hp ⊢
  obtain ⟨g0, g1, g2, g3, g4, g5, g6, g7, g8, g9, o0, o1⟩ := fq2.got v0 v1 v2 v3 v4 v5 v6 v7 v8 v9 t0 t1
  go_wp2_with fail
  exact bodyPost_ret (v := outV ⟨M, R, pc, f, kk, xx⟩) (by simp [outV, stV, results, Try.results87, go_sem, g0, g1, g2, g3, g4, g5, g6, g7, g8, g9, o0, o1]) rfl ⟨rfl, hp, bp⟩
set_option maxRecDepth 100000 in
set_option maxHeartbeats 16000000 in
theorem me_sw (k : Int) (P : RP) (M : MM) (d s : Nat) (o m q : Int) (hd : d < 8) (hs : s < 8) (w : World) (hm : RM P M w) (hR : ROk R) (v : Int) (v0 : 0 ≤ v) (v1 : v < 4294967296) (kk xx : Int) (hk1 : 24 ≤ k) (hk2 : k ≤ 26) (x0' : Int) (M' : MM) (R2 : Nat → Int) (f2 : Int) (CW : ∀ (A : Nat) (w : World), RM P M w → SB A R nx f w → ¬ P.has A → Calls Try.prog 148 #[.pointer (some ⟨P.q, 0, none⟩), .agg #[.int .i64 k, .int .i64 d, .int .i64 s, .int .i64 o, .int .u32 m], .agg #[.int .u32 (R 0), .int .u32 (R 1), .int .u32 (R 2), .int .u32 (R 3), .int .u32 (R 4), .int .u32 (R 5), .int .u32 (R 6), .int .u32 (R 7), .int .u32 pc, .int .u32 f], .pointer (some ⟨A, 0, none⟩), .int .u32 q, .int .u32 v] w fun e w' => e = .returned (.agg #[.int .i64 kk, .int .u32 xx]) ∧ SB A R2 nx f2 w' ∧ RM P M' w' ∧ Upto (fun i => P.has i ∨ i = A) w w') (C : ∀ w, RM P M w → Calls Try.prog 105 #[.pointer (some ⟨P.q, 0, none⟩), .int .u32 (q), .int .i64 4] w fun e w' => e = .returned (.tuple #[.int .u32 v, .agg #[.int .i64 0, .int .u32 x0']]) ∧ Below w.heap.size w w') :
    Calls Try.prog 87 #[.pointer (some ⟨P.q, 0, none⟩), insL k d s o m, stV R pc f, stV R nx f, .int .u32 q] w fun e w' => e = .returned (outV (if kk = 0 then ⟨M', R2, nx, f2, kk, xx⟩ else ⟨M', R, pc, f, kk, xx⟩)) ∧ RM P M' w' ∧ Upto P.has w w' := by
  have CS := Lib.hid C
  clear C
  have hd0 : (0 : Int) ≤ (d : Int) := by omega
  have hd1 : (d : Int) < 8 := by omega
  have hs0 : (0 : Int) ≤ (s : Int) := by omega
  have hs1 : (s : Int) < 8 := by omega
  have e4 : (R 7 - 4) % 4294967296 = w32 (R 7 - 4) := rfl
  have e5 : (R 7 + 4) % 4294967296 = w32 (R 7 + 4) := rfl
  have e6 : (nx + m) % 4294967296 = w32 (nx + m) := rfl
  have i11 : (k == 11) = false := by rw [beq_eq_false_iff_ne]; omega
  have i14 : (k == 14) = false := by rw [beq_eq_false_iff_ne]; omega
  have i3 : (k == 3) = false := by rw [beq_eq_false_iff_ne]; omega
  have i8 : (k == 8) = false := by rw [beq_eq_false_iff_ne]; omega
  have i10 : (k == 10) = false := by rw [beq_eq_false_iff_ne]; omega
  have i15 : (k == 15) = false := by rw [beq_eq_false_iff_ne]; omega
  have i4 : (k == 4) = false := by rw [beq_eq_false_iff_ne]; omega
  have i2 : (k == 2) = false := by rw [beq_eq_false_iff_ne]; omega
  have i30 : (k == 30) = false := by rw [beq_eq_false_iff_ne]; omega
  have i31 : (k == 31) = false := by rw [beq_eq_false_iff_ne]; omega
  have CW := Lib.hid CW
  have n1 := MB.new w R pc f k d s o m R nx f
  have nu1 := ((((((Upto.refl (fun _ => False) w).alloc (.cells #[.int .i64 k, .int .i64 d, .int .i64 s, .int .i64 o, .int .u32 m] 149)).alloc (.cells (stL R pc f) 72)).alloc (.cells (stL R nx f) 72)).alloc (.cells Z10 72)).alloc (.cells Z2 46)).alloc (.cells Z2 46)
  have m1 := hm.upto nu1 (fun _ _ => id)
  have hW0 := Lib.hid (fun i (hi : w.heap.size ≤ i) (h : P.has i) => show False by have := rm_lt hm h; omega)
  clear hm hR
  unfold stL Z10 Z2 at n1 nu1 m1
  unfold insL stV
  go_enter Try.func87, Try.ntmps87
  go_upto_region 5 with fail
  generalize (((((w.alloc (.cells #[.int .i64 k, .int .i64 d, .int .i64 s, .int .i64 o, .int .u32 m] 149)).alloc (.cells #[.int .u32 (R 0), .int .u32 (R 1), .int .u32 (R 2), .int .u32 (R 3), .int .u32 (R 4), .int .u32 (R 5), .int .u32 (R 6), .int .u32 (R 7), .int .u32 pc, .int .u32 f] 72)).alloc (.cells #[.int .u32 (R 0), .int .u32 (R 1), .int .u32 (R 2), .int .u32 (R 3), .int .u32 (R 4), .int .u32 (R 5), .int .u32 (R 6), .int .u32 (R 7), .int .u32 nx, .int .u32 f] 72)).alloc (.cells #[.int .u32 0, .int .u32 0, .int .u32 0, .int .u32 0, .int .u32 0, .int .u32 0, .int .u32 0, .int .u32 0, .int .u32 0, .int .u32 0] 72)).alloc (.cells #[.int .i64 0, .int .u32 0] 46)).alloc (.cells #[.int .i64 0, .int .u32 0] 46) = WA at n1 nu1 m1 ⊢
  have H1 := Lib.hid n1
  have U1 := Lib.hid (nu1.mono (T := P.has) fun _ _ h => h.elim)
  have M1 := Lib.hid m1
  clear n1 nu1 m1
  have x0 := H1.out.x.c0
  have x1 := H1.out.x.c1
  have x2 := H1.out.x.c2
  have x3 := H1.out.x.c3
  have x4 := H1.out.x.c4
  have s7 := H1.out.s.r 7 (by omega)
  have sd := H1.out.s.r d hd
  have ss := H1.out.s.r s hs
  have s9 := H1.out.s.c9
  have t7 := H1.out.t.r 7 (by omega)
  have td := H1.out.t.r d hd
  have t8 := H1.out.t.c8
  have t9 := H1.out.t.c9
  have zt7 := H1.out.t.z 7
  have ztd := H1.out.t.z d
  have zt8 := H1.out.t.z 8
  have zt9 := H1.out.t.z 9
  have k0 := H1.out.k.c0
  have k1 := H1.out.k.c1
  have zk0 := H1.out.k.z 0
  have zk1 := H1.out.k.z 1
  have lk := H1.out.k.l
  have lt := H1.out.t.l
  go_upto_region 8 with (go_at_call 105; (with_reducible refine (CS.out _ M1.out).mono ?_); rintro e w3 ⟨rfl, b3⟩; have B3 := Upto.of_below (S := P.has) b3; have M3 := Lib.hid (M1.out.upto (Upto.of_below (S := fun _ => False) b3) (fun _ _ => id)); have hno := fun i hi => hW0.out i hi; clear x1 x2 x3 x4 s7 sd ss s9 t7 td t8 t9 zt7 ztd zt8 zt9 k0 k1 zk0 zk1 lk lt x0; have H3 := Lib.hid (H1.out.upto B3 hno); have x1 := H3.out.x.c1; have x2 := H3.out.x.c2; have x3 := H3.out.x.c3; have x4 := H3.out.x.c4; have s7 := H3.out.s.r 7 (by omega); have sd := H3.out.s.r d hd; have ss := H3.out.s.r s hs; have s9 := H3.out.s.c9; have t7 := H3.out.t.r 7 (by omega); have td := H3.out.t.r d hd; have t8 := H3.out.t.c8; have t9 := H3.out.t.c9; have zt7 := H3.out.t.z 7; have ztd := H3.out.t.z d; have zt8 := H3.out.t.z 8; have zt9 := H3.out.t.z 9; have k0 := H3.out.k.c0; have k1 := H3.out.k.c1; have zk0 := H3.out.k.z 0; have zk1 := H3.out.k.z 1; have lk := H3.out.k.l; have lt := H3.out.t.l; have U3 := Lib.hid (U1.out.trans B3); clear B3 b3 hno)
  have h5 := H3.out.setK 0 x0'
  clear x1 x2 x3 x4 s7 sd ss s9 t7 td t8 t9 zt7 ztd zt8 zt9 k0 k1 zk0 zk1 lk lt
  have m5 : RM P M (((w3.setCell ⟨w.heap.size + 1 + 1 + 1 + 1 + 1, 0, none⟩ (.int .i64 0)).setCell ⟨w.heap.size + 1 + 1 + 1 + 1 + 1, 1, none⟩ (.int .u32 x0'))) := by repeat (first | exact M3.out | refine rm_setA ?_ (hW0.out _ (by omega)))
  have u5 : Upto P.has w (((w3.setCell ⟨w.heap.size + 1 + 1 + 1 + 1 + 1, 0, none⟩ (.int .i64 0)).setCell ⟨w.heap.size + 1 + 1 + 1 + 1 + 1, 1, none⟩ (.int .u32 x0'))) := by repeat (first | exact U3.out | refine upto_big ?_ (by omega))
  generalize ((w3.setCell ⟨w.heap.size + 1 + 1 + 1 + 1 + 1, 0, none⟩ (.int .i64 0)).setCell ⟨w.heap.size + 1 + 1 + 1 + 1 + 1, 1, none⟩ (.int .u32 x0')) = W5 at h5 m5 u5 ⊢
  have H5 := Lib.hid h5
  have M5 := Lib.hid m5
  have U5 := Lib.hid u5
  clear h5 m5 u5
  have x0 := H5.out.x.c0
  have x1 := H5.out.x.c1
  have x2 := H5.out.x.c2
  have x3 := H5.out.x.c3
  have x4 := H5.out.x.c4
  have s7 := H5.out.s.r 7 (by omega)
  have sd := H5.out.s.r d hd
  have ss := H5.out.s.r s hs
  have s9 := H5.out.s.c9
  have t7 := H5.out.t.r 7 (by omega)
  have td := H5.out.t.r d hd
  have t8 := H5.out.t.c8
  have t9 := H5.out.t.c9
  have zt7 := H5.out.t.z 7
  have ztd := H5.out.t.z d
  have zt8 := H5.out.t.z 8
  have zt9 := H5.out.t.z 9
  have k0 := H5.out.k.c0
  have k1 := H5.out.k.c1
  have zk0 := H5.out.k.z 0
  have zk1 := H5.out.k.z 1
  have lk := H5.out.k.l
  have lt := H5.out.t.l
  have f0' := H5.out.s.r 0 (by omega)
  have f1' := H5.out.s.r 1 (by omega)
  have f2' := H5.out.s.r 2 (by omega)
  have f3' := H5.out.s.r 3 (by omega)
  have f4' := H5.out.s.r 4 (by omega)
  have f5' := H5.out.s.r 5 (by omega)
  have f6' := H5.out.s.r 6 (by omega)
  have f7' := H5.out.s.r 7 (by omega)
  have f8' := H5.out.s.c8
  by_cases hk : kk = 0
  · subst hk
    go_wp2_with (go_at_call 148; (with_reducible refine (CW.out _ _ M5.out H5.out.t (hW0.out _ (by omega))).mono ?_); rintro e w4 ⟨rfl, t4, m4, u4⟩; have g4 : ∀ i, w.heap.size ≤ i → i ≠ w.heap.size + 1 + 1 → ¬ (P.has i ∨ i = w.heap.size + 1 + 1) := fun i hi hn h => h.elim (hW0.out i hi) hn; have H6 := Lib.hid (MB.mk (H5.out.x.upto u4 (g4 _ (by omega) (by omega))) (H5.out.s.upto u4 (g4 _ (by omega) (by omega))) t4 (H5.out.q.upto u4 (g4 _ (by omega) (by omega)) (g4 _ (by omega) (by omega))) (H5.out.k.upto u4 (g4 _ (by omega) (by omega)))); have M6 := Lib.hid m4; have U6 := Lib.hid ((U5.out.mono (T := fun i => P.has i ∨ i = w.heap.size + 1 + 1) fun _ _ h => .inl h).trans u4); clear x1 x2 x3 x4 s7 sd ss s9 t7 td t8 t9 zt7 ztd zt8 zt9 k0 k1 zk0 zk1 lk lt x0 f0' f1' f2' f3' f4' f5' f6' f7' f8'; have k0 := H6.out.k.c0; have k1 := H6.out.k.c1; have zk0 := H6.out.k.z 0; have zk1 := H6.out.k.z 1; have lk := H6.out.k.l; clear t4 m4 u4 g4)
    have h4 := H6.out.setK 0 xx
    clear k0 k1 zk0 zk1 lk
    have m4 : RM P M' (((w4.setCell ⟨w.heap.size + 1 + 1 + 1 + 1 + 1, 0, none⟩ (.int .i64 0)).setCell ⟨w.heap.size + 1 + 1 + 1 + 1 + 1, 1, none⟩ (.int .u32 xx))) := by repeat (first | exact M6.out | refine rm_setA ?_ (hW0.out _ (by omega)))
    have u4 : Upto P.has w (((w4.setCell ⟨w.heap.size + 1 + 1 + 1 + 1 + 1, 0, none⟩ (.int .i64 0)).setCell ⟨w.heap.size + 1 + 1 + 1 + 1 + 1, 1, none⟩ (.int .u32 xx))) := by
      refine Upto.mono (S := fun i => P.has i ∨ i = w.heap.size + 1 + 1) ?_ (fun i hi h => h.elim id (fun e => absurd hi (by omega)))
      repeat (first | exact U6.out | refine upto_big ?_ (by omega))
    generalize ((w4.setCell ⟨w.heap.size + 1 + 1 + 1 + 1 + 1, 0, none⟩ (.int .i64 0)).setCell ⟨w.heap.size + 1 + 1 + 1 + 1 + 1, 1, none⟩ (.int .u32 xx)) = W3 at h4 m4 u4 ⊢
    have H4 := Lib.hid h4
    have M4 := Lib.hid m4
    have U4 := Lib.hid u4
    clear h4 m4 u4
    obtain ⟨a0, a1, a2, a3, a4, a5, a6, a7, a8, a9⟩ := H4.out.t.all
    have a10 := H4.out.k.c0
    have a11 := H4.out.k.c1
    obtain ⟨q0, y0, q1, y1, q2, y2, q3, y3, q4, y4, q5, y5, q6, y6, q7, y7, q8, y8, q9, y9, r0, z0, r1, z1⟩ := H4.out.q.all
    go_region
    clear q0 y0 q1 y1 q2 y2 q3 y3 q4 y4 q5 y5 q6 y6 q7 y7 q8 y8 q9 y9 r0 z0 r1 z1
    clear a0 a1 a2 a3 a4 a5 a6 a7 a8 a9 a10 a11
    obtain ⟨u, t, fq, v0, v1, v2, v3, v4, v5, v6, v7, v8, v9, t0, t1⟩ := H4.out.q.put (.int .u32 ((R2) 0)) (.int .u32 ((R2) 1)) (.int .u32 ((R2) 2)) (.int .u32 ((R2) 3)) (.int .u32 ((R2) 4)) (.int .u32 ((R2) 5)) (.int .u32 ((R2) 6)) (.int .u32 ((R2) 7)) (.int .u32 (nx)) (.int .u32 (f2)) (.int .i64 0) (.int .u32 xx)
    have bp := (upto_put (h := w.heap.size + 1 + 1 + 1) (g := w.heap.size + 1 + 1 + 1 + 1) U4.out (.inr (by omega)) (.inr (by omega)) (.int .u32 ((R2) 0)) (.int .u32 ((R2) 1)) (.int .u32 ((R2) 2)) (.int .u32 ((R2) 3)) (.int .u32 ((R2) 4)) (.int .u32 ((R2) 5)) (.int .u32 ((R2) 6)) (.int .u32 ((R2) 7)) (.int .u32 (nx)) (.int .u32 (f2)) (.int .i64 0) (.int .u32 xx)).drew
    have hp := (M4.out.upto (upto_put (h := w.heap.size + 1 + 1 + 1) (g := w.heap.size + 1 + 1 + 1 + 1) (Upto.refl (fun i => i = w.heap.size + 1 + 1 + 1 ∨ i = w.heap.size + 1 + 1 + 1 + 1) W3) (.inl (.inl rfl)) (.inl (.inr rfl)) (.int .u32 ((R2) 0)) (.int .u32 ((R2) 1)) (.int .u32 ((R2) 2)) (.int .u32 ((R2) 3)) (.int .u32 ((R2) 4)) (.int .u32 ((R2) 5)) (.int .u32 ((R2) 6)) (.int .u32 ((R2) 7)) (.int .u32 (nx)) (.int .u32 (f2)) (.int .i64 0) (.int .u32 xx)) (fun j hj hx => hW0.out j (by rcases hx with hx | hx <;> omega) hj)).drew
    have fq2 := fq.drew
    clear fq
    generalize World.drew _ = WZ at fq2 bp hp ⊢
    obtain ⟨g0, g1, g2, g3, g4, g5, g6, g7, g8, g9, o0, o1⟩ := fq2.got v0 v1 v2 v3 v4 v5 v6 v7 v8 v9 t0 t1
    go_wp2_with fail
    exact bodyPost_ret (v := outV ⟨M', R2, nx, f2, 0, xx⟩) (by simp [outV, stV, results, Try.results87, go_sem, g0, g1, g2, g3, g4, g5, g6, g7, g8, g9, o0, o1]) rfl ⟨rfl, hp, bp⟩
  · have b0 : (kk == 0) = false := by rw [beq_eq_false_iff_ne]; exact hk
    have b0' : (kk != 0) = true := by rw [bne, b0]; rfl
    go_wp2_with (go_at_call 148; (with_reducible refine (CW.out _ _ M5.out H5.out.t (hW0.out _ (by omega))).mono ?_); rintro e w4 ⟨rfl, t4, m4, u4⟩; have g4 : ∀ i, w.heap.size ≤ i → i ≠ w.heap.size + 1 + 1 → ¬ (P.has i ∨ i = w.heap.size + 1 + 1) := fun i hi hn h => h.elim (hW0.out i hi) hn; have H6 := Lib.hid (MB.mk (H5.out.x.upto u4 (g4 _ (by omega) (by omega))) (H5.out.s.upto u4 (g4 _ (by omega) (by omega))) t4 (H5.out.q.upto u4 (g4 _ (by omega) (by omega)) (g4 _ (by omega) (by omega))) (H5.out.k.upto u4 (g4 _ (by omega) (by omega)))); have M6 := Lib.hid m4; have U6 := Lib.hid ((U5.out.mono (T := fun i => P.has i ∨ i = w.heap.size + 1 + 1) fun _ _ h => .inl h).trans u4); clear x1 x2 x3 x4 s7 sd ss s9 t7 td t8 t9 zt7 ztd zt8 zt9 k0 k1 zk0 zk1 lk lt x0 f0' f1' f2' f3' f4' f5' f6' f7' f8'; have k0 := H6.out.k.c0; have k1 := H6.out.k.c1; have zk0 := H6.out.k.z 0; have zk1 := H6.out.k.z 1; have lk := H6.out.k.l; clear t4 m4 u4 g4)
    have h4 := H6.out.setK kk xx
    clear k0 k1 zk0 zk1 lk
    have m4 : RM P M' (((w4.setCell ⟨w.heap.size + 1 + 1 + 1 + 1 + 1, 0, none⟩ (.int .i64 kk)).setCell ⟨w.heap.size + 1 + 1 + 1 + 1 + 1, 1, none⟩ (.int .u32 xx))) := by repeat (first | exact M6.out | refine rm_setA ?_ (hW0.out _ (by omega)))
    have u4 : Upto P.has w (((w4.setCell ⟨w.heap.size + 1 + 1 + 1 + 1 + 1, 0, none⟩ (.int .i64 kk)).setCell ⟨w.heap.size + 1 + 1 + 1 + 1 + 1, 1, none⟩ (.int .u32 xx))) := by
      refine Upto.mono (S := fun i => P.has i ∨ i = w.heap.size + 1 + 1) ?_ (fun i hi h => h.elim id (fun e => absurd hi (by omega)))
      repeat (first | exact U6.out | refine upto_big ?_ (by omega))
    generalize ((w4.setCell ⟨w.heap.size + 1 + 1 + 1 + 1 + 1, 0, none⟩ (.int .i64 kk)).setCell ⟨w.heap.size + 1 + 1 + 1 + 1 + 1, 1, none⟩ (.int .u32 xx)) = W3 at h4 m4 u4 ⊢
    have H4 := Lib.hid h4
    have M4 := Lib.hid m4
    have U4 := Lib.hid u4
    clear h4 m4 u4
    obtain ⟨a0, a1, a2, a3, a4, a5, a6, a7, a8, a9⟩ := H4.out.s.all
    have a10 := H4.out.k.c0
    have a11 := H4.out.k.c1
    obtain ⟨q0, y0, q1, y1, q2, y2, q3, y3, q4, y4, q5, y5, q6, y6, q7, y7, q8, y8, q9, y9, r0, z0, r1, z1⟩ := H4.out.q.all
    go_region
    clear q0 y0 q1 y1 q2 y2 q3 y3 q4 y4 q5 y5 q6 y6 q7 y7 q8 y8 q9 y9 r0 z0 r1 z1
    clear a0 a1 a2 a3 a4 a5 a6 a7 a8 a9 a10 a11
    obtain ⟨u, t, fq, v0, v1, v2, v3, v4, v5, v6, v7, v8, v9, t0, t1⟩ := H4.out.q.put (.int .u32 (R 0)) (.int .u32 (R 1)) (.int .u32 (R 2)) (.int .u32 (R 3)) (.int .u32 (R 4)) (.int .u32 (R 5)) (.int .u32 (R 6)) (.int .u32 (R 7)) (.int .u32 pc) (.int .u32 f) (.int .i64 kk) (.int .u32 xx)
    have bp := (upto_put (h := w.heap.size + 1 + 1 + 1) (g := w.heap.size + 1 + 1 + 1 + 1) U4.out (.inr (by omega)) (.inr (by omega)) (.int .u32 (R 0)) (.int .u32 (R 1)) (.int .u32 (R 2)) (.int .u32 (R 3)) (.int .u32 (R 4)) (.int .u32 (R 5)) (.int .u32 (R 6)) (.int .u32 (R 7)) (.int .u32 pc) (.int .u32 f) (.int .i64 kk) (.int .u32 xx)).drew
    have hp := (M4.out.upto (upto_put (h := w.heap.size + 1 + 1 + 1) (g := w.heap.size + 1 + 1 + 1 + 1) (Upto.refl (fun i => i = w.heap.size + 1 + 1 + 1 ∨ i = w.heap.size + 1 + 1 + 1 + 1) W3) (.inl (.inl rfl)) (.inl (.inr rfl)) (.int .u32 (R 0)) (.int .u32 (R 1)) (.int .u32 (R 2)) (.int .u32 (R 3)) (.int .u32 (R 4)) (.int .u32 (R 5)) (.int .u32 (R 6)) (.int .u32 (R 7)) (.int .u32 pc) (.int .u32 f) (.int .i64 kk) (.int .u32 xx)) (fun j hj hx => hW0.out j (by rcases hx with hx | hx <;> omega) hj)).drew
    have fq2 := fq.drew
    clear fq
    generalize World.drew _ = WZ at fq2 bp hp ⊢
    obtain ⟨g0, g1, g2, g3, g4, g5, g6, g7, g8, g9, o0, o1⟩ := fq2.got v0 v1 v2 v3 v4 v5 v6 v7 v8 v9 t0 t1
    go_wp2_with fail
    exact bodyPost_ret (v := outV ⟨M', R, pc, f, kk, xx⟩) (by simp [outV, stV, results, Try.results87, go_sem, g0, g1, g2, g3, g4, g5, g6, g7, g8, g9, o0, o1]) rfl ⟨rfl, hp, bp⟩
end Go.Proofs.Ytcjcmnnhmajocab.St
namespace Go.Proofs.Ytcjcmnnhmajocab.St
open Go.RowKit Kt Me Fl Gu
set_option linter.unusedVariables false
set_option linter.unusedSimpArgs false
variable {R : Nat → Int} {pc f nx : Int}
theorem rm_alloc {P : RP} {M : MM} {W : World} {o : Obj} (h : RM P M W) : RM P M (W.alloc o) := h.upto ((Upto.refl (fun _ => False) W).alloc o) (fun _ _ => id)
theorem mb_alloc {h : Nat} {R : Nat → Int} {pc f k d s o m : Int} {R' : Nat → Int} {pc' f' kk xx : Int} {W : World} {b : Obj} (a : MB h R pc f k d s o m R' pc' f' kk xx W) : MB h R pc f k d s o m R' pc' f' kk xx (W.alloc b) := a.upto ((Upto.refl (fun _ => False) W).alloc b) (fun _ _ => id)
set_option maxRecDepth 100000 in
set_option maxHeartbeats 16000000 in
theorem me_30_0 (P : RP) (M : MM) (d s : Nat) (m q : Int) (hd : d < 8) (hs : s < 8) (w : World) (hm : RM P M w) (hR : ROk R) (v : Int) (v0 : 0 ≤ v) (v1 : v < 4294967296) (kk xx : Int) (C : ∀ w, RM P M w → Calls Try.prog 105 #[.pointer (some ⟨P.q, 0, none⟩), .int .u32 (q), .int .i64 1] w fun e w' => e = .returned (.tuple #[.int .u32 v, .agg #[.int .i64 kk, .int .u32 xx]]) ∧ Below w.heap.size w w') :
    Calls Try.prog 87 #[.pointer (some ⟨P.q, 0, none⟩), insL 30 d s 0 m, stV R pc f, stV R nx f, .int .u32 q] w fun e w' => e = .returned (outV (if kk = 0 then ⟨M, upd R d v, nx, f, kk, xx⟩ else ⟨M, R, pc, f, kk, xx⟩)) ∧ RM P M w' ∧ Upto P.has w w' := by
  have CS := Lib.hid C
  clear C
  have hd0 : (0 : Int) ≤ (d : Int) := by omega
  have hd1 : (d : Int) < 8 := by omega
  have hs0 : (0 : Int) ≤ (s : Int) := by omega
  have hs1 : (s : Int) < 8 := by omega
  have e4 : (R 7 - 4) % 4294967296 = w32 (R 7 - 4) := rfl
  have e5 : (R 7 + 4) % 4294967296 = w32 (R 7 + 4) := rfl
  have e6 : (nx + m) % 4294967296 = w32 (nx + m) := rfl
  have n1 := MB.new w R pc f 30 d s 0 m R nx f
  have nu1 := ((((((Upto.refl (fun _ => False) w).alloc (.cells #[.int .i64 30, .int .i64 d, .int .i64 s, .int .i64 0, .int .u32 m] 149)).alloc (.cells (stL R pc f) 72)).alloc (.cells (stL R nx f) 72)).alloc (.cells Z10 72)).alloc (.cells Z2 46)).alloc (.cells Z2 46)
  have m1 := hm.upto nu1 (fun _ _ => id)
  have hW0 := Lib.hid (fun i (hi : w.heap.size ≤ i) (h : P.has i) => show False by have := rm_lt hm h; omega)
  clear hm hR
  unfold stL Z10 Z2 at n1 nu1 m1
  unfold insL stV
  go_enter Try.func87, Try.ntmps87
  go_upto_region 5 with fail
  have eW : ((((((w.alloc (.cells #[.int .i64 30, .int .i64 d, .int .i64 s, .int .i64 0, .int .u32 m] 149)).alloc (.cells #[.int .u32 (R 0), .int .u32 (R 1), .int .u32 (R 2), .int .u32 (R 3), .int .u32 (R 4), .int .u32 (R 5), .int .u32 (R 6), .int .u32 (R 7), .int .u32 pc, .int .u32 f] 72)).alloc (.cells #[.int .u32 (R 0), .int .u32 (R 1), .int .u32 (R 2), .int .u32 (R 3), .int .u32 (R 4), .int .u32 (R 5), .int .u32 (R 6), .int .u32 (R 7), .int .u32 nx, .int .u32 f] 72)).alloc (.cells #[.int .u32 0, .int .u32 0, .int .u32 0, .int .u32 0, .int .u32 0, .int .u32 0, .int .u32 0, .int .u32 0, .int .u32 0, .int .u32 0] 72)).alloc (.cells #[.int .i64 0, .int .u32 0] 46)).alloc (.cells #[.int .i64 0, .int .u32 0] 46)).heap.size = w.heap.size + 1 + 1 + 1 + 1 + 1 + 1 := by simp
  generalize (((((w.alloc (.cells #[.int .i64 30, .int .i64 d, .int .i64 s, .int .i64 0, .int .u32 m] 149)).alloc (.cells #[.int .u32 (R 0), .int .u32 (R 1), .int .u32 (R 2), .int .u32 (R 3), .int .u32 (R 4), .int .u32 (R 5), .int .u32 (R 6), .int .u32 (R 7), .int .u32 pc, .int .u32 f] 72)).alloc (.cells #[.int .u32 (R 0), .int .u32 (R 1), .int .u32 (R 2), .int .u32 (R 3), .int .u32 (R 4), .int .u32 (R 5), .int .u32 (R 6), .int .u32 (R 7), .int .u32 nx, .int .u32 f] 72)).alloc (.cells #[.int .u32 0, .int .u32 0, .int .u32 0, .int .u32 0, .int .u32 0, .int .u32 0, .int .u32 0, .int .u32 0, .int .u32 0, .int .u32 0] 72)).alloc (.cells #[.int .i64 0, .int .u32 0] 46)).alloc (.cells #[.int .i64 0, .int .u32 0] 46) = WA at n1 nu1 m1 eW ⊢
  have H1 := Lib.hid n1
  have U1 := Lib.hid (nu1.mono (T := P.has) fun _ _ h => h.elim)
  have M1 := Lib.hid m1
  clear n1 nu1 m1
  have x0 := H1.out.x.c0
  have x1 := H1.out.x.c1
  have x2 := H1.out.x.c2
  have x3 := H1.out.x.c3
  have x4 := H1.out.x.c4
  have s7 := H1.out.s.r 7 (by omega)
  have sd := H1.out.s.r d hd
  have ss := H1.out.s.r s hs
  have s9 := H1.out.s.c9
  have t7 := H1.out.t.r 7 (by omega)
  have td := H1.out.t.r d hd
  have t8 := H1.out.t.c8
  have t9 := H1.out.t.c9
  have zt7 := H1.out.t.z 7
  have ztd := H1.out.t.z d
  have zt8 := H1.out.t.z 8
  have zt9 := H1.out.t.z 9
  have k0 := H1.out.k.c0
  have k1 := H1.out.k.c1
  have zk0 := H1.out.k.z 0
  have zk1 := H1.out.k.z 1
  have lk := H1.out.k.l
  have lt := H1.out.t.l
  by_cases hk : kk = 0
  · subst hk
    go_wp2_with (go_at_call 105; (with_reducible refine (CS.out _ (by repeat (first | exact M1.out | apply rm_alloc | apply RM.drew))).mono ?_); rintro e w3 ⟨rfl, b3⟩; have B3 := Upto.of_below (S := P.has) b3; have M3 := Lib.hid (RM.upto (P := P) (M := M) (by repeat (first | exact M1.out | apply rm_alloc | apply RM.drew)) (Upto.of_below (S := fun _ => False) b3) (fun _ _ => id)); have hno := fun i hi => hW0.out i hi; clear x1 x2 x3 x4 s7 sd ss s9 t7 td t8 t9 zt7 ztd zt8 zt9 k0 k1 zk0 zk1 lk lt x0; have H3 := Lib.hid (show MB w.heap.size R pc f 30 d s 0 m R nx f 0 0 w3 from MB.upto (by repeat (first | exact H1.out | apply mb_alloc | apply MB.drew)) B3 hno); have x1 := H3.out.x.c1; have x2 := H3.out.x.c2; have x3 := H3.out.x.c3; have x4 := H3.out.x.c4; have s7 := H3.out.s.r 7 (by omega); have sd := H3.out.s.r d hd; have ss := H3.out.s.r s hs; have s9 := H3.out.s.c9; have t7 := H3.out.t.r 7 (by omega); have td := H3.out.t.r d hd; have t8 := H3.out.t.c8; have t9 := H3.out.t.c9; have zt7 := H3.out.t.z 7; have ztd := H3.out.t.z d; have zt8 := H3.out.t.z 8; have zt9 := H3.out.t.z 9; have k0 := H3.out.k.c0; have k1 := H3.out.k.c1; have zk0 := H3.out.k.z 0; have zk1 := H3.out.k.z 1; have lk := H3.out.k.l; have lt := H3.out.t.l; have U3 := Lib.hid (Upto.trans (S := P.has) (a := w) (by repeat (first | exact U1.out | apply Upto.alloc | apply Upto.drew)) B3); clear B3 b3 hno)
    have h4 := (H3.out.setK 0 xx).setR d hd v
    clear x1 x2 x3 x4 s7 sd ss s9 t7 td t8 t9 zt7 ztd zt8 zt9 k0 k1 zk0 zk1 lk lt
    have m4 : RM P M ((((w3.setCell ⟨w.heap.size + 1 + 1 + 1 + 1 + 1, 0, none⟩ (.int .i64 0)).setCell ⟨w.heap.size + 1 + 1 + 1 + 1 + 1, 1, none⟩ (.int .u32 xx)).setCell ⟨w.heap.size + 1 + 1, d, none⟩ (.int .u32 v))) := by repeat (first | exact M3.out | apply RM.drew | refine rm_setA ?_ (hW0.out _ (by omega)))
    have u4 : Upto P.has w ((((w3.setCell ⟨w.heap.size + 1 + 1 + 1 + 1 + 1, 0, none⟩ (.int .i64 0)).setCell ⟨w.heap.size + 1 + 1 + 1 + 1 + 1, 1, none⟩ (.int .u32 xx)).setCell ⟨w.heap.size + 1 + 1, d, none⟩ (.int .u32 v))) := by repeat (first | exact U3.out | apply Upto.drew | refine upto_big ?_ (by omega))
    generalize (((w3.setCell ⟨w.heap.size + 1 + 1 + 1 + 1 + 1, 0, none⟩ (.int .i64 0)).setCell ⟨w.heap.size + 1 + 1 + 1 + 1 + 1, 1, none⟩ (.int .u32 xx)).setCell ⟨w.heap.size + 1 + 1, d, none⟩ (.int .u32 v)) = W3 at h4 m4 u4 ⊢
    have H4 := Lib.hid h4
    have M4 := Lib.hid m4
    have U4 := Lib.hid u4
    clear h4 m4 u4
    obtain ⟨a0, a1, a2, a3, a4, a5, a6, a7, a8, a9⟩ := H4.out.t.all
    have a10 := H4.out.k.c0
    have a11 := H4.out.k.c1
    obtain ⟨q0, y0, q1, y1, q2, y2, q3, y3, q4, y4, q5, y5, q6, y6, q7, y7, q8, y8, q9, y9, r0, z0, r1, z1⟩ := H4.out.q.all
    go_region
    clear q0 y0 q1 y1 q2 y2 q3 y3 q4 y4 q5 y5 q6 y6 q7 y7 q8 y8 q9 y9 r0 z0 r1 z1
    clear a0 a1 a2 a3 a4 a5 a6 a7 a8 a9 a10 a11
    obtain ⟨u, t, fq, v0, v1, v2, v3, v4, v5, v6, v7, v8, v9, t0, t1⟩ := H4.out.q.put (.int .u32 ((upd R d v) 0)) (.int .u32 ((upd R d v) 1)) (.int .u32 ((upd R d v) 2)) (.int .u32 ((upd R d v) 3)) (.int .u32 ((upd R d v) 4)) (.int .u32 ((upd R d v) 5)) (.int .u32 ((upd R d v) 6)) (.int .u32 ((upd R d v) 7)) (.int .u32 (nx)) (.int .u32 (f)) (.int .i64 0) (.int .u32 xx)
    have bp := (upto_put (h := w.heap.size + 1 + 1 + 1) (g := w.heap.size + 1 + 1 + 1 + 1) U4.out (.inr (by omega)) (.inr (by omega)) (.int .u32 ((upd R d v) 0)) (.int .u32 ((upd R d v) 1)) (.int .u32 ((upd R d v) 2)) (.int .u32 ((upd R d v) 3)) (.int .u32 ((upd R d v) 4)) (.int .u32 ((upd R d v) 5)) (.int .u32 ((upd R d v) 6)) (.int .u32 ((upd R d v) 7)) (.int .u32 (nx)) (.int .u32 (f)) (.int .i64 0) (.int .u32 xx)).drew
    have hp := (M4.out.upto (upto_put (h := w.heap.size + 1 + 1 + 1) (g := w.heap.size + 1 + 1 + 1 + 1) (Upto.refl (fun i => i = w.heap.size + 1 + 1 + 1 ∨ i = w.heap.size + 1 + 1 + 1 + 1) W3) (.inl (.inl rfl)) (.inl (.inr rfl)) (.int .u32 ((upd R d v) 0)) (.int .u32 ((upd R d v) 1)) (.int .u32 ((upd R d v) 2)) (.int .u32 ((upd R d v) 3)) (.int .u32 ((upd R d v) 4)) (.int .u32 ((upd R d v) 5)) (.int .u32 ((upd R d v) 6)) (.int .u32 ((upd R d v) 7)) (.int .u32 (nx)) (.int .u32 (f)) (.int .i64 0) (.int .u32 xx)) (fun j hj hx => hW0.out j (by rcases hx with hx | hx <;> omega) hj)).drew
    have fq2 := fq.drew
    clear fq
    generalize World.drew _ = WZ at fq2 bp hp ⊢
    obtain ⟨g0, g1, g2, g3, g4, g5, g6, g7, g8, g9, o0, o1⟩ := fq2.got v0 v1 v2 v3 v4 v5 v6 v7 v8 v9 t0 t1
    go_wp2_with fail
    exact bodyPost_ret (v := outV ⟨M, upd R d v, nx, f, 0, xx⟩) (by simp [outV, stV, results, Try.results87, go_sem, g0, g1, g2, g3, g4, g5, g6, g7, g8, g9, o0, o1]) rfl ⟨rfl, hp, bp⟩
  · have b0 : (kk == 0) = false := by rw [beq_eq_false_iff_ne]; exact hk
    have b0' : (kk != 0) = true := by rw [bne, b0]; rfl
    go_wp2_with (go_at_call 105; (with_reducible refine (CS.out _ (by repeat (first | exact M1.out | apply rm_alloc | apply RM.drew))).mono ?_); rintro e w3 ⟨rfl, b3⟩; have B3 := Upto.of_below (S := P.has) b3; have M3 := Lib.hid (RM.upto (P := P) (M := M) (by repeat (first | exact M1.out | apply rm_alloc | apply RM.drew)) (Upto.of_below (S := fun _ => False) b3) (fun _ _ => id)); have hno := fun i hi => hW0.out i hi; clear x1 x2 x3 x4 s7 sd ss s9 t7 td t8 t9 zt7 ztd zt8 zt9 k0 k1 zk0 zk1 lk lt x0; have H3 := Lib.hid (show MB w.heap.size R pc f 30 d s 0 m R nx f 0 0 w3 from MB.upto (by repeat (first | exact H1.out | apply mb_alloc | apply MB.drew)) B3 hno); have x1 := H3.out.x.c1; have x2 := H3.out.x.c2; have x3 := H3.out.x.c3; have x4 := H3.out.x.c4; have s7 := H3.out.s.r 7 (by omega); have sd := H3.out.s.r d hd; have ss := H3.out.s.r s hs; have s9 := H3.out.s.c9; have t7 := H3.out.t.r 7 (by omega); have td := H3.out.t.r d hd; have t8 := H3.out.t.c8; have t9 := H3.out.t.c9; have zt7 := H3.out.t.z 7; have ztd := H3.out.t.z d; have zt8 := H3.out.t.z 8; have zt9 := H3.out.t.z 9; have k0 := H3.out.k.c0; have k1 := H3.out.k.c1; have zk0 := H3.out.k.z 0; have zk1 := H3.out.k.z 1; have lk := H3.out.k.l; have lt := H3.out.t.l; have U3 := Lib.hid (Upto.trans (S := P.has) (a := w) (by repeat (first | exact U1.out | apply Upto.alloc | apply Upto.drew)) B3); clear B3 b3 hno)
    have h4 := (H3.out.setK kk xx).setR d hd v
    clear x1 x2 x3 x4 s7 sd ss s9 t7 td t8 t9 zt7 ztd zt8 zt9 k0 k1 zk0 zk1 lk lt
    have m4 : RM P M ((((w3.setCell ⟨w.heap.size + 1 + 1 + 1 + 1 + 1, 0, none⟩ (.int .i64 kk)).setCell ⟨w.heap.size + 1 + 1 + 1 + 1 + 1, 1, none⟩ (.int .u32 xx)).setCell ⟨w.heap.size + 1 + 1, d, none⟩ (.int .u32 v))) := by repeat (first | exact M3.out | apply RM.drew | refine rm_setA ?_ (hW0.out _ (by omega)))
    have u4 : Upto P.has w ((((w3.setCell ⟨w.heap.size + 1 + 1 + 1 + 1 + 1, 0, none⟩ (.int .i64 kk)).setCell ⟨w.heap.size + 1 + 1 + 1 + 1 + 1, 1, none⟩ (.int .u32 xx)).setCell ⟨w.heap.size + 1 + 1, d, none⟩ (.int .u32 v))) := by repeat (first | exact U3.out | apply Upto.drew | refine upto_big ?_ (by omega))
    generalize (((w3.setCell ⟨w.heap.size + 1 + 1 + 1 + 1 + 1, 0, none⟩ (.int .i64 kk)).setCell ⟨w.heap.size + 1 + 1 + 1 + 1 + 1, 1, none⟩ (.int .u32 xx)).setCell ⟨w.heap.size + 1 + 1, d, none⟩ (.int .u32 v)) = W3 at h4 m4 u4 ⊢
    have H4 := Lib.hid h4
    have M4 := Lib.hid m4
    have U4 := Lib.hid u4
    clear h4 m4 u4
    obtain ⟨a0, a1, a2, a3, a4, a5, a6, a7, a8, a9⟩ := H4.out.s.all
    have a10 := H4.out.k.c0
    have a11 := H4.out.k.c1
    obtain ⟨q0, y0, q1, y1, q2, y2, q3, y3, q4, y4, q5, y5, q6, y6, q7, y7, q8, y8, q9, y9, r0, z0, r1, z1⟩ := H4.out.q.all
    go_region
    clear q0 y0 q1 y1 q2 y2 q3 y3 q4 y4 q5 y5 q6 y6 q7 y7 q8 y8 q9 y9 r0 z0 r1 z1
    clear a0 a1 a2 a3 a4 a5 a6 a7 a8 a9 a10 a11
    obtain ⟨u, t, fq, v0, v1, v2, v3, v4, v5, v6, v7, v8, v9, t0, t1⟩ := H4.out.q.put (.int .u32 (R 0)) (.int .u32 (R 1)) (.int .u32 (R 2)) (.int .u32 (R 3)) (.int .u32 (R 4)) (.int .u32 (R 5)) (.int .u32 (R 6)) (.int .u32 (R 7)) (.int .u32 pc) (.int .u32 f) (.int .i64 kk) (.int .u32 xx)
    have bp := (upto_put (h := w.heap.size + 1 + 1 + 1) (g := w.heap.size + 1 + 1 + 1 + 1) U4.out (.inr (by omega)) (.inr (by omega)) (.int .u32 (R 0)) (.int .u32 (R 1)) (.int .u32 (R 2)) (.int .u32 (R 3)) (.int .u32 (R 4)) (.int .u32 (R 5)) (.int .u32 (R 6)) (.int .u32 (R 7)) (.int .u32 pc) (.int .u32 f) (.int .i64 kk) (.int .u32 xx)).drew
    have hp := (M4.out.upto (upto_put (h := w.heap.size + 1 + 1 + 1) (g := w.heap.size + 1 + 1 + 1 + 1) (Upto.refl (fun i => i = w.heap.size + 1 + 1 + 1 ∨ i = w.heap.size + 1 + 1 + 1 + 1) W3) (.inl (.inl rfl)) (.inl (.inr rfl)) (.int .u32 (R 0)) (.int .u32 (R 1)) (.int .u32 (R 2)) (.int .u32 (R 3)) (.int .u32 (R 4)) (.int .u32 (R 5)) (.int .u32 (R 6)) (.int .u32 (R 7)) (.int .u32 pc) (.int .u32 f) (.int .i64 kk) (.int .u32 xx)) (fun j hj hx => hW0.out j (by rcases hx with hx | hx <;> omega) hj)).drew
    have fq2 := fq.drew
    clear fq
    generalize World.drew _ = WZ at fq2 bp hp ⊢
    obtain ⟨g0, g1, g2, g3, g4, g5, g6, g7, g8, g9, o0, o1⟩ := fq2.got v0 v1 v2 v3 v4 v5 v6 v7 v8 v9 t0 t1
    go_wp2_with fail
    exact bodyPost_ret (v := outV ⟨M, R, pc, f, kk, xx⟩) (by simp [outV, stV, results, Try.results87, go_sem, g0, g1, g2, g3, g4, g5, g6, g7, g8, g9, o0, o1]) rfl ⟨rfl, hp, bp⟩
set_option maxRecDepth 100000 in
set_option maxHeartbeats 16000000 in
theorem me_30_1ge (P : RP) (M : MM) (d s : Nat) (m q : Int) (hd : d < 8) (hs : s < 8) (w : World) (hm : RM P M w) (hR : ROk R) (v : Int) (v0 : 0 ≤ v) (v1 : v < 4294967296) (kk xx : Int) (hv : 128 ≤ v) (hv' : v < 256) (C : ∀ w, RM P M w → Calls Try.prog 105 #[.pointer (some ⟨P.q, 0, none⟩), .int .u32 (q), .int .i64 1] w fun e w' => e = .returned (.tuple #[.int .u32 v, .agg #[.int .i64 kk, .int .u32 xx]]) ∧ Below w.heap.size w w') :
    Calls Try.prog 87 #[.pointer (some ⟨P.q, 0, none⟩), insL 30 d s 1 m, stV R pc f, stV R nx f, .int .u32 q] w fun e w' => e = .returned (outV (if kk = 0 then ⟨M, upd R d (v + 4294967040), nx, f, kk, xx⟩ else ⟨M, R, pc, f, kk, xx⟩)) ∧ RM P M w' ∧ Upto P.has w w' := by
  have CS := Lib.hid C
  clear C
  have hd0 : (0 : Int) ≤ (d : Int) := by omega
  have hd1 : (d : Int) < 8 := by omega
  have hs0 : (0 : Int) ≤ (s : Int) := by omega
  have hs1 : (s : Int) < 8 := by omega
  have e4 : (R 7 - 4) % 4294967296 = w32 (R 7 - 4) := rfl
  have e5 : (R 7 + 4) % 4294967296 = w32 (R 7 + 4) := rfl
  have e6 : (nx + m) % 4294967296 = w32 (nx + m) := rfl
  have e8 : (v + 4294967040) % 4294967296 = v + 4294967040 := by omega
  have n1 := MB.new w R pc f 30 d s 1 m R nx f
  have nu1 := ((((((Upto.refl (fun _ => False) w).alloc (.cells #[.int .i64 30, .int .i64 d, .int .i64 s, .int .i64 1, .int .u32 m] 149)).alloc (.cells (stL R pc f) 72)).alloc (.cells (stL R nx f) 72)).alloc (.cells Z10 72)).alloc (.cells Z2 46)).alloc (.cells Z2 46)
  have m1 := hm.upto nu1 (fun _ _ => id)
  have hW0 := Lib.hid (fun i (hi : w.heap.size ≤ i) (h : P.has i) => show False by have := rm_lt hm h; omega)
  clear hm hR
  unfold stL Z10 Z2 at n1 nu1 m1
  unfold insL stV
  go_enter Try.func87, Try.ntmps87
  go_upto_region 5 with fail
  have eW : ((((((w.alloc (.cells #[.int .i64 30, .int .i64 d, .int .i64 s, .int .i64 1, .int .u32 m] 149)).alloc (.cells #[.int .u32 (R 0), .int .u32 (R 1), .int .u32 (R 2), .int .u32 (R 3), .int .u32 (R 4), .int .u32 (R 5), .int .u32 (R 6), .int .u32 (R 7), .int .u32 pc, .int .u32 f] 72)).alloc (.cells #[.int .u32 (R 0), .int .u32 (R 1), .int .u32 (R 2), .int .u32 (R 3), .int .u32 (R 4), .int .u32 (R 5), .int .u32 (R 6), .int .u32 (R 7), .int .u32 nx, .int .u32 f] 72)).alloc (.cells #[.int .u32 0, .int .u32 0, .int .u32 0, .int .u32 0, .int .u32 0, .int .u32 0, .int .u32 0, .int .u32 0, .int .u32 0, .int .u32 0] 72)).alloc (.cells #[.int .i64 0, .int .u32 0] 46)).alloc (.cells #[.int .i64 0, .int .u32 0] 46)).heap.size = w.heap.size + 1 + 1 + 1 + 1 + 1 + 1 := by simp
  generalize (((((w.alloc (.cells #[.int .i64 30, .int .i64 d, .int .i64 s, .int .i64 1, .int .u32 m] 149)).alloc (.cells #[.int .u32 (R 0), .int .u32 (R 1), .int .u32 (R 2), .int .u32 (R 3), .int .u32 (R 4), .int .u32 (R 5), .int .u32 (R 6), .int .u32 (R 7), .int .u32 pc, .int .u32 f] 72)).alloc (.cells #[.int .u32 (R 0), .int .u32 (R 1), .int .u32 (R 2), .int .u32 (R 3), .int .u32 (R 4), .int .u32 (R 5), .int .u32 (R 6), .int .u32 (R 7), .int .u32 nx, .int .u32 f] 72)).alloc (.cells #[.int .u32 0, .int .u32 0, .int .u32 0, .int .u32 0, .int .u32 0, .int .u32 0, .int .u32 0, .int .u32 0, .int .u32 0, .int .u32 0] 72)).alloc (.cells #[.int .i64 0, .int .u32 0] 46)).alloc (.cells #[.int .i64 0, .int .u32 0] 46) = WA at n1 nu1 m1 eW ⊢
  have H1 := Lib.hid n1
  have U1 := Lib.hid (nu1.mono (T := P.has) fun _ _ h => h.elim)
  have M1 := Lib.hid m1
  clear n1 nu1 m1
  have x0 := H1.out.x.c0
  have x1 := H1.out.x.c1
  have x2 := H1.out.x.c2
  have x3 := H1.out.x.c3
  have x4 := H1.out.x.c4
  have s7 := H1.out.s.r 7 (by omega)
  have sd := H1.out.s.r d hd
  have ss := H1.out.s.r s hs
  have s9 := H1.out.s.c9
  have t7 := H1.out.t.r 7 (by omega)
  have td := H1.out.t.r d hd
  have t8 := H1.out.t.c8
  have t9 := H1.out.t.c9
  have zt7 := H1.out.t.z 7
  have ztd := H1.out.t.z d
  have zt8 := H1.out.t.z 8
  have zt9 := H1.out.t.z 9
  have k0 := H1.out.k.c0
  have k1 := H1.out.k.c1
  have zk0 := H1.out.k.z 0
  have zk1 := H1.out.k.z 1
  have lk := H1.out.k.l
  have lt := H1.out.t.l
  by_cases hk : kk = 0
  · subst hk
    go_wp2_with (go_at_call 105; (with_reducible refine (CS.out _ (by repeat (first | exact M1.out | apply rm_alloc | apply RM.drew))).mono ?_); rintro e w3 ⟨rfl, b3⟩; have B3 := Upto.of_below (S := P.has) b3; have M3 := Lib.hid (RM.upto (P := P) (M := M) (by repeat (first | exact M1.out | apply rm_alloc | apply RM.drew)) (Upto.of_below (S := fun _ => False) b3) (fun _ _ => id)); have hno := fun i hi => hW0.out i hi; clear x1 x2 x3 x4 s7 sd ss s9 t7 td t8 t9 zt7 ztd zt8 zt9 k0 k1 zk0 zk1 lk lt x0; have H3 := Lib.hid (show MB w.heap.size R pc f 30 d s 1 m R nx f 0 0 w3 from MB.upto (by repeat (first | exact H1.out | apply mb_alloc | apply MB.drew)) B3 hno); have x1 := H3.out.x.c1; have x2 := H3.out.x.c2; have x3 := H3.out.x.c3; have x4 := H3.out.x.c4; have s7 := H3.out.s.r 7 (by omega); have sd := H3.out.s.r d hd; have ss := H3.out.s.r s hs; have s9 := H3.out.s.c9; have t7 := H3.out.t.r 7 (by omega); have td := H3.out.t.r d hd; have t8 := H3.out.t.c8; have t9 := H3.out.t.c9; have zt7 := H3.out.t.z 7; have ztd := H3.out.t.z d; have zt8 := H3.out.t.z 8; have zt9 := H3.out.t.z 9; have k0 := H3.out.k.c0; have k1 := H3.out.k.c1; have zk0 := H3.out.k.z 0; have zk1 := H3.out.k.z 1; have lk := H3.out.k.l; have lt := H3.out.t.l; have U3 := Lib.hid (Upto.trans (S := P.has) (a := w) (by repeat (first | exact U1.out | apply Upto.alloc | apply Upto.drew)) B3); clear B3 b3 hno)
    have h4 := (H3.out.setK 0 xx).setR d hd (v + 4294967040)
    clear x1 x2 x3 x4 s7 sd ss s9 t7 td t8 t9 zt7 ztd zt8 zt9 k0 k1 zk0 zk1 lk lt
    have m4 : RM P M ((((w3.setCell ⟨w.heap.size + 1 + 1 + 1 + 1 + 1, 0, none⟩ (.int .i64 0)).setCell ⟨w.heap.size + 1 + 1 + 1 + 1 + 1, 1, none⟩ (.int .u32 xx)).setCell ⟨w.heap.size + 1 + 1, d, none⟩ (.int .u32 (v + 4294967040)))) := by repeat (first | exact M3.out | apply RM.drew | refine rm_setA ?_ (hW0.out _ (by omega)))
    have u4 : Upto P.has w ((((w3.setCell ⟨w.heap.size + 1 + 1 + 1 + 1 + 1, 0, none⟩ (.int .i64 0)).setCell ⟨w.heap.size + 1 + 1 + 1 + 1 + 1, 1, none⟩ (.int .u32 xx)).setCell ⟨w.heap.size + 1 + 1, d, none⟩ (.int .u32 (v + 4294967040)))) := by repeat (first | exact U3.out | apply Upto.drew | refine upto_big ?_ (by omega))
    generalize (((w3.setCell ⟨w.heap.size + 1 + 1 + 1 + 1 + 1, 0, none⟩ (.int .i64 0)).setCell ⟨w.heap.size + 1 + 1 + 1 + 1 + 1, 1, none⟩ (.int .u32 xx)).setCell ⟨w.heap.size + 1 + 1, d, none⟩ (.int .u32 (v + 4294967040))) = W3 at h4 m4 u4 ⊢
    have H4 := Lib.hid h4
    have M4 := Lib.hid m4
    have U4 := Lib.hid u4
    clear h4 m4 u4
    obtain ⟨a0, a1, a2, a3, a4, a5, a6, a7, a8, a9⟩ := H4.out.t.all
    have a10 := H4.out.k.c0
    have a11 := H4.out.k.c1
    obtain ⟨q0, y0, q1, y1, q2, y2, q3, y3, q4, y4, q5, y5, q6, y6, q7, y7, q8, y8, q9, y9, r0, z0, r1, z1⟩ := H4.out.q.all
    go_region
    clear q0 y0 q1 y1 q2 y2 q3 y3 q4 y4 q5 y5 q6 y6 q7 y7 q8 y8 q9 y9 r0 z0 r1 z1
    clear a0 a1 a2 a3 a4 a5 a6 a7 a8 a9 a10 a11
    obtain ⟨u, t, fq, v0, v1, v2, v3, v4, v5, v6, v7, v8, v9, t0, t1⟩ := H4.out.q.put (.int .u32 ((upd R d (v + 4294967040)) 0)) (.int .u32 ((upd R d (v + 4294967040)) 1)) (.int .u32 ((upd R d (v + 4294967040)) 2)) (.int .u32 ((upd R d (v + 4294967040)) 3)) (.int .u32 ((upd R d (v + 4294967040)) 4)) (.int .u32 ((upd R d (v + 4294967040)) 5)) (.int .u32 ((upd R d (v + 4294967040)) 6)) (.int .u32 ((upd R d (v + 4294967040)) 7)) (.int .u32 (nx)) (.int .u32 (f)) (.int .i64 0) (.int .u32 xx)
    have bp := (upto_put (h := w.heap.size + 1 + 1 + 1) (g := w.heap.size + 1 + 1 + 1 + 1) U4.out (.inr (by omega)) (.inr (by omega)) (.int .u32 ((upd R d (v + 4294967040)) 0)) (.int .u32 ((upd R d (v + 4294967040)) 1)) (.int .u32 ((upd R d (v + 4294967040)) 2)) (.int .u32 ((upd R d (v + 4294967040)) 3)) (.int .u32 ((upd R d (v + 4294967040)) 4)) (.int .u32 ((upd R d (v + 4294967040)) 5)) (.int .u32 ((upd R d (v + 4294967040)) 6)) (.int .u32 ((upd R d (v + 4294967040)) 7)) (.int .u32 (nx)) (.int .u32 (f)) (.int .i64 0) (.int .u32 xx)).drew
    have hp := (M4.out.upto (upto_put (h := w.heap.size + 1 + 1 + 1) (g := w.heap.size + 1 + 1 + 1 + 1) (Upto.refl (fun i => i = w.heap.size + 1 + 1 + 1 ∨ i = w.heap.size + 1 + 1 + 1 + 1) W3) (.inl (.inl rfl)) (.inl (.inr rfl)) (.int .u32 ((upd R d (v + 4294967040)) 0)) (.int .u32 ((upd R d (v + 4294967040)) 1)) (.int .u32 ((upd R d (v + 4294967040)) 2)) (.int .u32 ((upd R d (v + 4294967040)) 3)) (.int .u32 ((upd R d (v + 4294967040)) 4)) (.int .u32 ((upd R d (v + 4294967040)) 5)) (.int .u32 ((upd R d (v + 4294967040)) 6)) (.int .u32 ((upd R d (v + 4294967040)) 7)) (.int .u32 (nx)) (.int .u32 (f)) (.int .i64 0) (.int .u32 xx)) (fun j hj hx => hW0.out j (by rcases hx with hx | hx <;> omega) hj)).drew
    have fq2 := fq.drew
    clear fq
    generalize World.drew _ = WZ at fq2 bp hp ⊢
    obtain ⟨g0, g1, g2, g3, g4, g5, g6, g7, g8, g9, o0, o1⟩ := fq2.got v0 v1 v2 v3 v4 v5 v6 v7 v8 v9 t0 t1
    go_wp2_with fail
    exact bodyPost_ret (v := outV ⟨M, upd R d (v + 4294967040), nx, f, 0, xx⟩) (by simp [outV, stV, results, Try.results87, go_sem, g0, g1, g2, g3, g4, g5, g6, g7, g8, g9, o0, o1]) rfl ⟨rfl, hp, bp⟩
  · have b0 : (kk == 0) = false := by rw [beq_eq_false_iff_ne]; exact hk
    have b0' : (kk != 0) = true := by rw [bne, b0]; rfl
    go_wp2_with (go_at_call 105; (with_reducible refine (CS.out _ (by repeat (first | exact M1.out | apply rm_alloc | apply RM.drew))).mono ?_); rintro e w3 ⟨rfl, b3⟩; have B3 := Upto.of_below (S := P.has) b3; have M3 := Lib.hid (RM.upto (P := P) (M := M) (by repeat (first | exact M1.out | apply rm_alloc | apply RM.drew)) (Upto.of_below (S := fun _ => False) b3) (fun _ _ => id)); have hno := fun i hi => hW0.out i hi; clear x1 x2 x3 x4 s7 sd ss s9 t7 td t8 t9 zt7 ztd zt8 zt9 k0 k1 zk0 zk1 lk lt x0; have H3 := Lib.hid (show MB w.heap.size R pc f 30 d s 1 m R nx f 0 0 w3 from MB.upto (by repeat (first | exact H1.out | apply mb_alloc | apply MB.drew)) B3 hno); have x1 := H3.out.x.c1; have x2 := H3.out.x.c2; have x3 := H3.out.x.c3; have x4 := H3.out.x.c4; have s7 := H3.out.s.r 7 (by omega); have sd := H3.out.s.r d hd; have ss := H3.out.s.r s hs; have s9 := H3.out.s.c9; have t7 := H3.out.t.r 7 (by omega); have td := H3.out.t.r d hd; have t8 := H3.out.t.c8; have t9 := H3.out.t.c9; have zt7 := H3.out.t.z 7; have ztd := H3.out.t.z d; have zt8 := H3.out.t.z 8; have zt9 := H3.out.t.z 9; have k0 := H3.out.k.c0; have k1 := H3.out.k.c1; have zk0 := H3.out.k.z 0; have zk1 := H3.out.k.z 1; have lk := H3.out.k.l; have lt := H3.out.t.l; have U3 := Lib.hid (Upto.trans (S := P.has) (a := w) (by repeat (first | exact U1.out | apply Upto.alloc | apply Upto.drew)) B3); clear B3 b3 hno)
    have h4 := (H3.out.setK kk xx).setR d hd (v + 4294967040)
    clear x1 x2 x3 x4 s7 sd ss s9 t7 td t8 t9 zt7 ztd zt8 zt9 k0 k1 zk0 zk1 lk lt
    have m4 : RM P M ((((w3.setCell ⟨w.heap.size + 1 + 1 + 1 + 1 + 1, 0, none⟩ (.int .i64 kk)).setCell ⟨w.heap.size + 1 + 1 + 1 + 1 + 1, 1, none⟩ (.int .u32 xx)).setCell ⟨w.heap.size + 1 + 1, d, none⟩ (.int .u32 (v + 4294967040)))) := by repeat (first | exact M3.out | apply RM.drew | refine rm_setA ?_ (hW0.out _ (by omega)))
    have u4 : Upto P.has w ((((w3.setCell ⟨w.heap.size + 1 + 1 + 1 + 1 + 1, 0, none⟩ (.int .i64 kk)).setCell ⟨w.heap.size + 1 + 1 + 1 + 1 + 1, 1, none⟩ (.int .u32 xx)).setCell ⟨w.heap.size + 1 + 1, d, none⟩ (.int .u32 (v + 4294967040)))) := by repeat (first | exact U3.out | apply Upto.drew | refine upto_big ?_ (by omega))
    generalize (((w3.setCell ⟨w.heap.size + 1 + 1 + 1 + 1 + 1, 0, none⟩ (.int .i64 kk)).setCell ⟨w.heap.size + 1 + 1 + 1 + 1 + 1, 1, none⟩ (.int .u32 xx)).setCell ⟨w.heap.size + 1 + 1, d, none⟩ (.int .u32 (v + 4294967040))) = W3 at h4 m4 u4 ⊢
    have H4 := Lib.hid h4
    have M4 := Lib.hid m4
    have U4 := Lib.hid u4
    clear h4 m4 u4
    obtain ⟨a0, a1, a2, a3, a4, a5, a6, a7, a8, a9⟩ := H4.out.s.all
    have a10 := H4.out.k.c0
    have a11 := H4.out.k.c1
    obtain ⟨q0, y0, q1, y1, q2, y2, q3, y3, q4, y4, q5, y5, q6, y6, q7, y7, q8, y8, q9, y9, r0, z0, r1, z1⟩ := H4.out.q.all
    go_region
    clear q0 y0 q1 y1 q2 y2 q3 y3 q4 y4 q5 y5 q6 y6 q7 y7 q8 y8 q9 y9 r0 z0 r1 z1
    clear a0 a1 a2 a3 a4 a5 a6 a7 a8 a9 a10 a11
    obtain ⟨u, t, fq, v0, v1, v2, v3, v4, v5, v6, v7, v8, v9, t0, t1⟩ := H4.out.q.put (.int .u32 (R 0)) (.int .u32 (R 1)) (.int .u32 (R 2)) (.int .u32 (R 3)) (.int .u32 (R 4)) (.int .u32 (R 5)) (.int .u32 (R 6)) (.int .u32 (R 7)) (.int .u32 pc) (.int .u32 f) (.int .i64 kk) (.int .u32 xx)
    have bp := (upto_put (h := w.heap.size + 1 + 1 + 1) (g := w.heap.size + 1 + 1 + 1 + 1) U4.out (.inr (by omega)) (.inr (by omega)) (.int .u32 (R 0)) (.int .u32 (R 1)) (.int .u32 (R 2)) (.int .u32 (R 3)) (.int .u32 (R 4)) (.int .u32 (R 5)) (.int .u32 (R 6)) (.int .u32 (R 7)) (.int .u32 pc) (.int .u32 f) (.int .i64 kk) (.int .u32 xx)).drew
    have hp := (M4.out.upto (upto_put (h := w.heap.size + 1 + 1 + 1) (g := w.heap.size + 1 + 1 + 1 + 1) (Upto.refl (fun i => i = w.heap.size + 1 + 1 + 1 ∨ i = w.heap.size + 1 + 1 + 1 + 1) W3) (.inl (.inl rfl)) (.inl (.inr rfl)) (.int .u32 (R 0)) (.int .u32 (R 1)) (.int .u32 (R 2)) (.int .u32 (R 3)) (.int .u32 (R 4)) (.int .u32 (R 5)) (.int .u32 (R 6)) (.int .u32 (R 7)) (.int .u32 pc) (.int .u32 f) (.int .i64 kk) (.int .u32 xx)) (fun j hj hx => hW0.out j (by rcases hx with hx | hx <;> omega) hj)).drew
    have fq2 := fq.drew
    clear fq
    generalize World.drew _ = WZ at fq2 bp hp ⊢
    obtain ⟨g0, g1, g2, g3, g4, g5, g6, g7, g8, g9, o0, o1⟩ := fq2.got v0 v1 v2 v3 v4 v5 v6 v7 v8 v9 t0 t1
    go_wp2_with fail
    exact bodyPost_ret (v := outV ⟨M, R, pc, f, kk, xx⟩) (by simp [outV, stV, results, Try.results87, go_sem, g0, g1, g2, g3, g4, g5, g6, g7, g8, g9, o0, o1]) rfl ⟨rfl, hp, bp⟩
set_option maxRecDepth 100000 in
set_option maxHeartbeats 16000000 in
theorem me_30_1lt (P : RP) (M : MM) (d s : Nat) (m q : Int) (hd : d < 8) (hs : s < 8) (w : World) (hm : RM P M w) (hR : ROk R) (v : Int) (v0 : 0 ≤ v) (v1 : v < 4294967296) (kk xx : Int) (hv : v < 128) (C : ∀ w, RM P M w → Calls Try.prog 105 #[.pointer (some ⟨P.q, 0, none⟩), .int .u32 (q), .int .i64 1] w fun e w' => e = .returned (.tuple #[.int .u32 v, .agg #[.int .i64 kk, .int .u32 xx]]) ∧ Below w.heap.size w w') :
    Calls Try.prog 87 #[.pointer (some ⟨P.q, 0, none⟩), insL 30 d s 1 m, stV R pc f, stV R nx f, .int .u32 q] w fun e w' => e = .returned (outV (if kk = 0 then ⟨M, upd R d v, nx, f, kk, xx⟩ else ⟨M, R, pc, f, kk, xx⟩)) ∧ RM P M w' ∧ Upto P.has w w' := by
  have CS := Lib.hid C
  clear C
  have hd0 : (0 : Int) ≤ (d : Int) := by omega
  have hd1 : (d : Int) < 8 := by omega
  have hs0 : (0 : Int) ≤ (s : Int) := by omega
  have hs1 : (s : Int) < 8 := by omega
  have e4 : (R 7 - 4) % 4294967296 = w32 (R 7 - 4) := rfl
  have e5 : (R 7 + 4) % 4294967296 = w32 (R 7 + 4) := rfl
  have e6 : (nx + m) % 4294967296 = w32 (nx + m) := rfl
  have n1 := MB.new w R pc f 30 d s 1 m R nx f
  have nu1 := ((((((Upto.refl (fun _ => False) w).alloc (.cells #[.int .i64 30, .int .i64 d, .int .i64 s, .int .i64 1, .int .u32 m] 149)).alloc (.cells (stL R pc f) 72)).alloc (.cells (stL R nx f) 72)).alloc (.cells Z10 72)).alloc (.cells Z2 46)).alloc (.cells Z2 46)
  have m1 := hm.upto nu1 (fun _ _ => id)
  have hW0 := Lib.hid (fun i (hi : w.heap.size ≤ i) (h : P.has i) => show False by have := rm_lt hm h; omega)
  clear hm hR
  unfold stL Z10 Z2 at n1 nu1 m1
  unfold insL stV
  go_enter Try.func87, Try.ntmps87
  go_upto_region 5 with fail
  have eW : ((((((w.alloc (.cells #[.int .i64 30, .int .i64 d, .int .i64 s, .int .i64 1, .int .u32 m] 149)).alloc (.cells #[.int .u32 (R 0), .int .u32 (R 1), .int .u32 (R 2), .int .u32 (R 3), .int .u32 (R 4), .int .u32 (R 5), .int .u32 (R 6), .int .u32 (R 7), .int .u32 pc, .int .u32 f] 72)).alloc (.cells #[.int .u32 (R 0), .int .u32 (R 1), .int .u32 (R 2), .int .u32 (R 3), .int .u32 (R 4), .int .u32 (R 5), .int .u32 (R 6), .int .u32 (R 7), .int .u32 nx, .int .u32 f] 72)).alloc (.cells #[.int .u32 0, .int .u32 0, .int .u32 0, .int .u32 0, .int .u32 0, .int .u32 0, .int .u32 0, .int .u32 0, .int .u32 0, .int .u32 0] 72)).alloc (.cells #[.int .i64 0, .int .u32 0] 46)).alloc (.cells #[.int .i64 0, .int .u32 0] 46)).heap.size = w.heap.size + 1 + 1 + 1 + 1 + 1 + 1 := by simp
  generalize (((((w.alloc (.cells #[.int .i64 30, .int .i64 d, .int .i64 s, .int .i64 1, .int .u32 m] 149)).alloc (.cells #[.int .u32 (R 0), .int .u32 (R 1), .int .u32 (R 2), .int .u32 (R 3), .int .u32 (R 4), .int .u32 (R 5), .int .u32 (R 6), .int .u32 (R 7), .int .u32 pc, .int .u32 f] 72)).alloc (.cells #[.int .u32 (R 0), .int .u32 (R 1), .int .u32 (R 2), .int .u32 (R 3), .int .u32 (R 4), .int .u32 (R 5), .int .u32 (R 6), .int .u32 (R 7), .int .u32 nx, .int .u32 f] 72)).alloc (.cells #[.int .u32 0, .int .u32 0, .int .u32 0, .int .u32 0, .int .u32 0, .int .u32 0, .int .u32 0, .int .u32 0, .int .u32 0, .int .u32 0] 72)).alloc (.cells #[.int .i64 0, .int .u32 0] 46)).alloc (.cells #[.int .i64 0, .int .u32 0] 46) = WA at n1 nu1 m1 eW ⊢
  have H1 := Lib.hid n1
  have U1 := Lib.hid (nu1.mono (T := P.has) fun _ _ h => h.elim)
  have M1 := Lib.hid m1
  clear n1 nu1 m1
  have x0 := H1.out.x.c0
  have x1 := H1.out.x.c1
  have x2 := H1.out.x.c2
  have x3 := H1.out.x.c3
  have x4 := H1.out.x.c4
  have s7 := H1.out.s.r 7 (by omega)
  have sd := H1.out.s.r d hd
  have ss := H1.out.s.r s hs
  have s9 := H1.out.s.c9
  have t7 := H1.out.t.r 7 (by omega)
  have td := H1.out.t.r d hd
  have t8 := H1.out.t.c8
  have t9 := H1.out.t.c9
  have zt7 := H1.out.t.z 7
  have ztd := H1.out.t.z d
  have zt8 := H1.out.t.z 8
  have zt9 := H1.out.t.z 9
  have k0 := H1.out.k.c0
  have k1 := H1.out.k.c1
  have zk0 := H1.out.k.z 0
  have zk1 := H1.out.k.z 1
  have lk := H1.out.k.l
  have lt := H1.out.t.l
  by_cases hk : kk = 0
  · subst hk
    go_wp2_with (go_at_call 105; (with_reducible refine (CS.out _ (by repeat (first | exact M1.out | apply rm_alloc | apply RM.drew))).mono ?_); rintro e w3 ⟨rfl, b3⟩; have B3 := Upto.of_below (S := P.has) b3; have M3 := Lib.hid (RM.upto (P := P) (M := M) (by repeat (first | exact M1.out | apply rm_alloc | apply RM.drew)) (Upto.of_below (S := fun _ => False) b3) (fun _ _ => id)); have hno := fun i hi => hW0.out i hi; clear x1 x2 x3 x4 s7 sd ss s9 t7 td t8 t9 zt7 ztd zt8 zt9 k0 k1 zk0 zk1 lk lt x0; have H3 := Lib.hid (show MB w.heap.size R pc f 30 d s 1 m R nx f 0 0 w3 from MB.upto (by repeat (first | exact H1.out | apply mb_alloc | apply MB.drew)) B3 hno); have x1 := H3.out.x.c1; have x2 := H3.out.x.c2; have x3 := H3.out.x.c3; have x4 := H3.out.x.c4; have s7 := H3.out.s.r 7 (by omega); have sd := H3.out.s.r d hd; have ss := H3.out.s.r s hs; have s9 := H3.out.s.c9; have t7 := H3.out.t.r 7 (by omega); have td := H3.out.t.r d hd; have t8 := H3.out.t.c8; have t9 := H3.out.t.c9; have zt7 := H3.out.t.z 7; have ztd := H3.out.t.z d; have zt8 := H3.out.t.z 8; have zt9 := H3.out.t.z 9; have k0 := H3.out.k.c0; have k1 := H3.out.k.c1; have zk0 := H3.out.k.z 0; have zk1 := H3.out.k.z 1; have lk := H3.out.k.l; have lt := H3.out.t.l; have U3 := Lib.hid (Upto.trans (S := P.has) (a := w) (by repeat (first | exact U1.out | apply Upto.alloc | apply Upto.drew)) B3); clear B3 b3 hno)
    have h4 := (H3.out.setK 0 xx).setR d hd v
    clear x1 x2 x3 x4 s7 sd ss s9 t7 td t8 t9 zt7 ztd zt8 zt9 k0 k1 zk0 zk1 lk lt
    have m4 : RM P M ((((w3.setCell ⟨w.heap.size + 1 + 1 + 1 + 1 + 1, 0, none⟩ (.int .i64 0)).setCell ⟨w.heap.size + 1 + 1 + 1 + 1 + 1, 1, none⟩ (.int .u32 xx)).setCell ⟨w.heap.size + 1 + 1, d, none⟩ (.int .u32 v))) := by repeat (first | exact M3.out | apply RM.drew | refine rm_setA ?_ (hW0.out _ (by omega)))
    have u4 : Upto P.has w ((((w3.setCell ⟨w.heap.size + 1 + 1 + 1 + 1 + 1, 0, none⟩ (.int .i64 0)).setCell ⟨w.heap.size + 1 + 1 + 1 + 1 + 1, 1, none⟩ (.int .u32 xx)).setCell ⟨w.heap.size + 1 + 1, d, none⟩ (.int .u32 v))) := by repeat (first | exact U3.out | apply Upto.drew | refine upto_big ?_ (by omega))
    generalize (((w3.setCell ⟨w.heap.size + 1 + 1 + 1 + 1 + 1, 0, none⟩ (.int .i64 0)).setCell ⟨w.heap.size + 1 + 1 + 1 + 1 + 1, 1, none⟩ (.int .u32 xx)).setCell ⟨w.heap.size + 1 + 1, d, none⟩ (.int .u32 v)) = W3 at h4 m4 u4 ⊢
    have H4 := Lib.hid h4
    have M4 := Lib.hid m4
    have U4 := Lib.hid u4
    clear h4 m4 u4
    obtain ⟨a0, a1, a2, a3, a4, a5, a6, a7, a8, a9⟩ := H4.out.t.all
    have a10 := H4.out.k.c0
    have a11 := H4.out.k.c1
    obtain ⟨q0, y0, q1, y1, q2, y2, q3, y3, q4, y4, q5, y5, q6, y6, q7, y7, q8, y8, q9, y9, r0, z0, r1, z1⟩ := H4.out.q.all
    go_region
    clear q0 y0 q1 y1 q2 y2 q3 y3 q4 y4 q5 y5 q6 y6 q7 y7 q8 y8 q9 y9 r0 z0 r1 z1
    clear a0 a1 a2 a3 a4 a5 a6 a7 a8 a9 a10 a11
    obtain ⟨u, t, fq, v0, v1, v2, v3, v4, v5, v6, v7, v8, v9, t0, t1⟩ := H4.out.q.put (.int .u32 ((upd R d v) 0)) (.int .u32 ((upd R d v) 1)) (.int .u32 ((upd R d v) 2)) (.int .u32 ((upd R d v) 3)) (.int .u32 ((upd R d v) 4)) (.int .u32 ((upd R d v) 5)) (.int .u32 ((upd R d v) 6)) (.int .u32 ((upd R d v) 7)) (.int .u32 (nx)) (.int .u32 (f)) (.int .i64 0) (.int .u32 xx)
    have bp := (upto_put (h := w.heap.size + 1 + 1 + 1) (g := w.heap.size + 1 + 1 + 1 + 1) U4.out (.inr (by omega)) (.inr (by omega)) (.int .u32 ((upd R d v) 0)) (.int .u32 ((upd R d v) 1)) (.int .u32 ((upd R d v) 2)) (.int .u32 ((upd R d v) 3)) (.int .u32 ((upd R d v) 4)) (.int .u32 ((upd R d v) 5)) (.int .u32 ((upd R d v) 6)) (.int .u32 ((upd R d v) 7)) (.int .u32 (nx)) (.int .u32 (f)) (.int .i64 0) (.int .u32 xx)).drew
    have hp := (M4.out.upto (upto_put (h := w.heap.size + 1 + 1 + 1) (g := w.heap.size + 1 + 1 + 1 + 1) (Upto.refl (fun i => i = w.heap.size + 1 + 1 + 1 ∨ i = w.heap.size + 1 + 1 + 1 + 1) W3) (.inl (.inl rfl)) (.inl (.inr rfl)) (.int .u32 ((upd R d v) 0)) (.int .u32 ((upd R d v) 1)) (.int .u32 ((upd R d v) 2)) (.int .u32 ((upd R d v) 3)) (.int .u32 ((upd R d v) 4)) (.int .u32 ((upd R d v) 5)) (.int .u32 ((upd R d v) 6)) (.int .u32 ((upd R d v) 7)) (.int .u32 (nx)) (.int .u32 (f)) (.int .i64 0) (.int .u32 xx)) (fun j hj hx => hW0.out j (by rcases hx with hx | hx <;> omega) hj)).drew
    have fq2 := fq.drew
    clear fq
    generalize World.drew _ = WZ at fq2 bp hp ⊢
    obtain ⟨g0, g1, g2, g3, g4, g5, g6, g7, g8, g9, o0, o1⟩ := fq2.got v0 v1 v2 v3 v4 v5 v6 v7 v8 v9 t0 t1
    go_wp2_with fail
    exact bodyPost_ret (v := outV ⟨M, upd R d v, nx, f, 0, xx⟩) (by simp [outV, stV, results, Try.results87, go_sem, g0, g1, g2, g3, g4, g5, g6, g7, g8, g9, o0, o1]) rfl ⟨rfl, hp, bp⟩
  · have b0 : (kk == 0) = false := by rw [beq_eq_false_iff_ne]; exact hk
    have b0' : (kk != 0) = true := by rw [bne, b0]; rfl
    go_wp2_with (go_at_call 105; (with_reducible refine (CS.out _ (by repeat (first | exact M1.out | apply rm_alloc | apply RM.drew))).mono ?_); rintro e w3 ⟨rfl, b3⟩; have B3 := Upto.of_below (S := P.has) b3; have M3 := Lib.hid (RM.upto (P := P) (M := M) (by repeat (first | exact M1.out | apply rm_alloc | apply RM.drew)) (Upto.of_below (S := fun _ => False) b3) (fun _ _ => id)); have hno := fun i hi => hW0.out i hi; clear x1 x2 x3 x4 s7 sd ss s9 t7 td t8 t9 zt7 ztd zt8 zt9 k0 k1 zk0 zk1 lk lt x0; have H3 := Lib.hid (show MB w.heap.size R pc f 30 d s 1 m R nx f 0 0 w3 from MB.upto (by repeat (first | exact H1.out | apply mb_alloc | apply MB.drew)) B3 hno); have x1 := H3.out.x.c1; have x2 := H3.out.x.c2; have x3 := H3.out.x.c3; have x4 := H3.out.x.c4; have s7 := H3.out.s.r 7 (by omega); have sd := H3.out.s.r d hd; have ss := H3.out.s.r s hs; have s9 := H3.out.s.c9; have t7 := H3.out.t.r 7 (by omega); have td := H3.out.t.r d hd; have t8 := H3.out.t.c8; have t9 := H3.out.t.c9; have zt7 := H3.out.t.z 7; have ztd := H3.out.t.z d; have zt8 := H3.out.t.z 8; have zt9 := H3.out.t.z 9; have k0 := H3.out.k.c0; have k1 := H3.out.k.c1; have zk0 := H3.out.k.z 0; have zk1 := H3.out.k.z 1; have lk := H3.out.k.l; have lt := H3.out.t.l; have U3 := Lib.hid (Upto.trans (S := P.has) (a := w) (by repeat (first | exact U1.out | apply Upto.alloc | apply Upto.drew)) B3); clear B3 b3 hno)
    have h4 := (H3.out.setK kk xx).setR d hd v
    clear x1 x2 x3 x4 s7 sd ss s9 t7 td t8 t9 zt7 ztd zt8 zt9 k0 k1 zk0 zk1 lk lt
    have m4 : RM P M ((((w3.setCell ⟨w.heap.size + 1 + 1 + 1 + 1 + 1, 0, none⟩ (.int .i64 kk)).setCell ⟨w.heap.size + 1 + 1 + 1 + 1 + 1, 1, none⟩ (.int .u32 xx)).setCell ⟨w.heap.size + 1 + 1, d, none⟩ (.int .u32 v))) := by repeat (first | exact M3.out | apply RM.drew | refine rm_setA ?_ (hW0.out _ (by omega)))
    have u4 : Upto P.has w ((((w3.setCell ⟨w.heap.size + 1 + 1 + 1 + 1 + 1, 0, none⟩ (.int .i64 kk)).setCell ⟨w.heap.size + 1 + 1 + 1 + 1 + 1, 1, none⟩ (.int .u32 xx)).setCell ⟨w.heap.size + 1 + 1, d, none⟩ (.int .u32 v))) := by repeat (first | exact U3.out | apply Upto.drew | refine upto_big ?_ (by omega))
    generalize (((w3.setCell ⟨w.heap.size + 1 + 1 + 1 + 1 + 1, 0, none⟩ (.int .i64 kk)).setCell ⟨w.heap.size + 1 + 1 + 1 + 1 + 1, 1, none⟩ (.int .u32 xx)).setCell ⟨w.heap.size + 1 + 1, d, none⟩ (.int .u32 v)) = W3 at h4 m4 u4 ⊢
    have H4 := Lib.hid h4
    have M4 := Lib.hid m4
    have U4 := Lib.hid u4
    clear h4 m4 u4
    obtain ⟨a0, a1, a2, a3, a4, a5, a6, a7, a8, a9⟩ := H4.out.s.all
    have a10 := H4.out.k.c0
    have a11 := H4.out.k.c1
    obtain ⟨q0, y0, q1, y1, q2, y2, q3, y3, q4, y4, q5, y5, q6, y6, q7, y7, q8, y8, q9, y9, r0, z0, r1, z1⟩ := H4.out.q.all
    go_region
    clear q0 y0 q1 y1 q2 y2 q3 y3 q4 y4 q5 y5 q6 y6 q7 y7 q8 y8 q9 y9 r0 z0 r1 z1
    clear a0 a1 a2 a3 a4 a5 a6 a7 a8 a9 a10 a11
    obtain ⟨u, t, fq, v0, v1, v2, v3, v4, v5, v6, v7, v8, v9, t0, t1⟩ := H4.out.q.put (.int .u32 (R 0)) (.int .u32 (R 1)) (.int .u32 (R 2)) (.int .u32 (R 3)) (.int .u32 (R 4)) (.int .u32 (R 5)) (.int .u32 (R 6)) (.int .u32 (R 7)) (.int .u32 pc) (.int .u32 f) (.int .i64 kk) (.int .u32 xx)
    have bp := (upto_put (h := w.heap.size + 1 + 1 + 1) (g := w.heap.size + 1 + 1 + 1 + 1) U4.out (.inr (by omega)) (.inr (by omega)) (.int .u32 (R 0)) (.int .u32 (R 1)) (.int .u32 (R 2)) (.int .u32 (R 3)) (.int .u32 (R 4)) (.int .u32 (R 5)) (.int .u32 (R 6)) (.int .u32 (R 7)) (.int .u32 pc) (.int .u32 f) (.int .i64 kk) (.int .u32 xx)).drew
    have hp := (M4.out.upto (upto_put (h := w.heap.size + 1 + 1 + 1) (g := w.heap.size + 1 + 1 + 1 + 1) (Upto.refl (fun i => i = w.heap.size + 1 + 1 + 1 ∨ i = w.heap.size + 1 + 1 + 1 + 1) W3) (.inl (.inl rfl)) (.inl (.inr rfl)) (.int .u32 (R 0)) (.int .u32 (R 1)) (.int .u32 (R 2)) (.int .u32 (R 3)) (.int .u32 (R 4)) (.int .u32 (R 5)) (.int .u32 (R 6)) (.int .u32 (R 7)) (.int .u32 pc) (.int .u32 f) (.int .i64 kk) (.int .u32 xx)) (fun j hj hx => hW0.out j (by rcases hx with hx | hx <;> omega) hj)).drew
    have fq2 := fq.drew
    clear fq
    generalize World.drew _ = WZ at fq2 bp hp ⊢
    obtain ⟨g0, g1, g2, g3, g4, g5, g6, g7, g8, g9, o0, o1⟩ := fq2.got v0 v1 v2 v3 v4 v5 v6 v7 v8 v9 t0 t1
    go_wp2_with fail
    exact bodyPost_ret (v := outV ⟨M, R, pc, f, kk, xx⟩) (by simp [outV, stV, results, Try.results87, go_sem, g0, g1, g2, g3, g4, g5, g6, g7, g8, g9, o0, o1]) rfl ⟨rfl, hp, bp⟩
set_option maxRecDepth 100000 in
set_option maxHeartbeats 16000000 in
theorem me_30_2 (P : RP) (M : MM) (d s : Nat) (m q : Int) (hd : d < 8) (hs : s < 8) (w : World) (hm : RM P M w) (hR : ROk R) (v : Int) (v0 : 0 ≤ v) (v1 : v < 4294967296) (kk xx : Int) (C : ∀ w, RM P M w → Calls Try.prog 105 #[.pointer (some ⟨P.q, 0, none⟩), .int .u32 (q), .int .i64 2] w fun e w' => e = .returned (.tuple #[.int .u32 v, .agg #[.int .i64 kk, .int .u32 xx]]) ∧ Below w.heap.size w w') :
    Calls Try.prog 87 #[.pointer (some ⟨P.q, 0, none⟩), insL 30 d s 2 m, stV R pc f, stV R nx f, .int .u32 q] w fun e w' => e = .returned (outV (if kk = 0 then ⟨M, upd R d v, nx, f, kk, xx⟩ else ⟨M, R, pc, f, kk, xx⟩)) ∧ RM P M w' ∧ Upto P.has w w' := by
  have CS := Lib.hid C
  clear C
  have hd0 : (0 : Int) ≤ (d : Int) := by omega
  have hd1 : (d : Int) < 8 := by omega
  have hs0 : (0 : Int) ≤ (s : Int) := by omega
  have hs1 : (s : Int) < 8 := by omega
  have e4 : (R 7 - 4) % 4294967296 = w32 (R 7 - 4) := rfl
  have e5 : (R 7 + 4) % 4294967296 = w32 (R 7 + 4) := rfl
  have e6 : (nx + m) % 4294967296 = w32 (nx + m) := rfl
  have n1 := MB.new w R pc f 30 d s 2 m R nx f
  have nu1 := ((((((Upto.refl (fun _ => False) w).alloc (.cells #[.int .i64 30, .int .i64 d, .int .i64 s, .int .i64 2, .int .u32 m] 149)).alloc (.cells (stL R pc f) 72)).alloc (.cells (stL R nx f) 72)).alloc (.cells Z10 72)).alloc (.cells Z2 46)).alloc (.cells Z2 46)
  have m1 := hm.upto nu1 (fun _ _ => id)
  have hW0 := Lib.hid (fun i (hi : w.heap.size ≤ i) (h : P.has i) => show False by have := rm_lt hm h; omega)
  clear hm hR
  unfold stL Z10 Z2 at n1 nu1 m1
  unfold insL stV
  go_enter Try.func87, Try.ntmps87
  go_upto_region 5 with fail
  have eW : ((((((w.alloc (.cells #[.int .i64 30, .int .i64 d, .int .i64 s, .int .i64 2, .int .u32 m] 149)).alloc (.cells #[.int .u32 (R 0), .int .u32 (R 1), .int .u32 (R 2), .int .u32 (R 3), .int .u32 (R 4), .int .u32 (R 5), .int .u32 (R 6), .int .u32 (R 7), .int .u32 pc, .int .u32 f] 72)).alloc (.cells #[.int .u32 (R 0), .int .u32 (R 1), .int .u32 (R 2), .int .u32 (R 3), .int .u32 (R 4), .int .u32 (R 5), .int .u32 (R 6), .int .u32 (R 7), .int .u32 nx, .int .u32 f] 72)).alloc (.cells #[.int .u32 0, .int .u32 0, .int .u32 0, .int .u32 0, .int .u32 0, .int .u32 0, .int .u32 0, .int .u32 0, .int .u32 0, .int .u32 0] 72)).alloc (.cells #[.int .i64 0, .int .u32 0] 46)).alloc (.cells #[.int .i64 0, .int .u32 0] 46)).heap.size = w.heap.size + 1 + 1 + 1 + 1 + 1 + 1 := by simp
  generalize (((((w.alloc (.cells #[.int .i64 30, .int .i64 d, .int .i64 s, .int .i64 2, .int .u32 m] 149)).alloc (.cells #[.int .u32 (R 0), .int .u32 (R 1), .int .u32 (R 2), .int .u32 (R 3), .int .u32 (R 4), .int .u32 (R 5), .int .u32 (R 6), .int .u32 (R 7), .int .u32 pc, .int .u32 f] 72)).alloc (.cells #[.int .u32 (R 0), .int .u32 (R 1), .int .u32 (R 2), .int .u32 (R 3), .int .u32 (R 4), .int .u32 (R 5), .int .u32 (R 6), .int .u32 (R 7), .int .u32 nx, .int .u32 f] 72)).alloc (.cells #[.int .u32 0, .int .u32 0, .int .u32 0, .int .u32 0, .int .u32 0, .int .u32 0, .int .u32 0, .int .u32 0, .int .u32 0, .int .u32 0] 72)).alloc (.cells #[.int .i64 0, .int .u32 0] 46)).alloc (.cells #[.int .i64 0, .int .u32 0] 46) = WA at n1 nu1 m1 eW ⊢
  have H1 := Lib.hid n1
  have U1 := Lib.hid (nu1.mono (T := P.has) fun _ _ h => h.elim)
  have M1 := Lib.hid m1
  clear n1 nu1 m1
  have x0 := H1.out.x.c0
  have x1 := H1.out.x.c1
  have x2 := H1.out.x.c2
  have x3 := H1.out.x.c3
  have x4 := H1.out.x.c4
  have s7 := H1.out.s.r 7 (by omega)
  have sd := H1.out.s.r d hd
  have ss := H1.out.s.r s hs
  have s9 := H1.out.s.c9
  have t7 := H1.out.t.r 7 (by omega)
  have td := H1.out.t.r d hd
  have t8 := H1.out.t.c8
  have t9 := H1.out.t.c9
  have zt7 := H1.out.t.z 7
  have ztd := H1.out.t.z d
  have zt8 := H1.out.t.z 8
  have zt9 := H1.out.t.z 9
  have k0 := H1.out.k.c0
  have k1 := H1.out.k.c1
  have zk0 := H1.out.k.z 0
  have zk1 := H1.out.k.z 1
  have lk := H1.out.k.l
  have lt := H1.out.t.l
  by_cases hk : kk = 0
  · subst hk
    go_wp2_with (go_at_call 105; (with_reducible refine (CS.out _ (by repeat (first | exact M1.out | apply rm_alloc | apply RM.drew))).mono ?_); rintro e w3 ⟨rfl, b3⟩; have B3 := Upto.of_below (S := P.has) b3; have M3 := Lib.hid (RM.upto (P := P) (M := M) (by repeat (first | exact M1.out | apply rm_alloc | apply RM.drew)) (Upto.of_below (S := fun _ => False) b3) (fun _ _ => id)); have hno := fun i hi => hW0.out i hi; clear x1 x2 x3 x4 s7 sd ss s9 t7 td t8 t9 zt7 ztd zt8 zt9 k0 k1 zk0 zk1 lk lt x0; have H3 := Lib.hid (show MB w.heap.size R pc f 30 d s 2 m R nx f 0 0 w3 from MB.upto (by repeat (first | exact H1.out | apply mb_alloc | apply MB.drew)) B3 hno); have x1 := H3.out.x.c1; have x2 := H3.out.x.c2; have x3 := H3.out.x.c3; have x4 := H3.out.x.c4; have s7 := H3.out.s.r 7 (by omega); have sd := H3.out.s.r d hd; have ss := H3.out.s.r s hs; have s9 := H3.out.s.c9; have t7 := H3.out.t.r 7 (by omega); have td := H3.out.t.r d hd; have t8 := H3.out.t.c8; have t9 := H3.out.t.c9; have zt7 := H3.out.t.z 7; have ztd := H3.out.t.z d; have zt8 := H3.out.t.z 8; have zt9 := H3.out.t.z 9; have k0 := H3.out.k.c0; have k1 := H3.out.k.c1; have zk0 := H3.out.k.z 0; have zk1 := H3.out.k.z 1; have lk := H3.out.k.l; have lt := H3.out.t.l; have U3 := Lib.hid (Upto.trans (S := P.has) (a := w) (by repeat (first | exact U1.out | apply Upto.alloc | apply Upto.drew)) B3); clear B3 b3 hno)
    have h4 := (H3.out.setK 0 xx).setR d hd v
    clear x1 x2 x3 x4 s7 sd ss s9 t7 td t8 t9 zt7 ztd zt8 zt9 k0 k1 zk0 zk1 lk lt
    have m4 : RM P M ((((w3.setCell ⟨w.heap.size + 1 + 1 + 1 + 1 + 1, 0, none⟩ (.int .i64 0)).setCell ⟨w.heap.size + 1 + 1 + 1 + 1 + 1, 1, none⟩ (.int .u32 xx)).setCell ⟨w.heap.size + 1 + 1, d, none⟩ (.int .u32 v))) := by repeat (first | exact M3.out | apply RM.drew | refine rm_setA ?_ (hW0.out _ (by omega)))
    have u4 : Upto P.has w ((((w3.setCell ⟨w.heap.size + 1 + 1 + 1 + 1 + 1, 0, none⟩ (.int .i64 0)).setCell ⟨w.heap.size + 1 + 1 + 1 + 1 + 1, 1, none⟩ (.int .u32 xx)).setCell ⟨w.heap.size + 1 + 1, d, none⟩ (.int .u32 v))) := by repeat (first | exact U3.out | apply Upto.drew | refine upto_big ?_ (by omega))
    generalize (((w3.setCell ⟨w.heap.size + 1 + 1 + 1 + 1 + 1, 0, none⟩ (.int .i64 0)).setCell ⟨w.heap.size + 1 + 1 + 1 + 1 + 1, 1, none⟩ (.int .u32 xx)).setCell ⟨w.heap.size + 1 + 1, d, none⟩ (.int .u32 v)) = W3 at h4 m4 u4 ⊢
    have H4 := Lib.hid h4
    have M4 := Lib.hid m4
    have U4 := Lib.hid u4
    clear h4 m4 u4
    obtain ⟨a0, a1, a2, a3, a4, a5, a6, a7, a8, a9⟩ := H4.out.t.all
    have a10 := H4.out.k.c0
    have a11 := H4.out.k.c1
    obtain ⟨q0, y0, q1, y1, q2, y2, q3, y3, q4, y4, q5, y5, q6, y6, q7, y7, q8, y8, q9, y9, r0, z0, r1, z1⟩ := H4.out.q.all
    go_region
    clear q0 y0 q1 y1 q2 y2 q3 y3 q4 y4 q5 y5 q6 y6 q7 y7 q8 y8 q9 y9 r0 z0 r1 z1
    clear a0 a1 a2 a3 a4 a5 a6 a7 a8 a9 a10 a11
    obtain ⟨u, t, fq, v0, v1, v2, v3, v4, v5, v6, v7, v8, v9, t0, t1⟩ := H4.out.q.put (.int .u32 ((upd R d v) 0)) (.int .u32 ((upd R d v) 1)) (.int .u32 ((upd R d v) 2)) (.int .u32 ((upd R d v) 3)) (.int .u32 ((upd R d v) 4)) (.int .u32 ((upd R d v) 5)) (.int .u32 ((upd R d v) 6)) (.int .u32 ((upd R d v) 7)) (.int .u32 (nx)) (.int .u32 (f)) (.int .i64 0) (.int .u32 xx)
    have bp := (upto_put (h := w.heap.size + 1 + 1 + 1) (g := w.heap.size + 1 + 1 + 1 + 1) U4.out (.inr (by omega)) (.inr (by omega)) (.int .u32 ((upd R d v) 0)) (.int .u32 ((upd R d v) 1)) (.int .u32 ((upd R d v) 2)) (.int .u32 ((upd R d v) 3)) (.int .u32 ((upd R d v) 4)) (.int .u32 ((upd R d v) 5)) (.int .u32 ((upd R d v) 6)) (.int .u32 ((upd R d v) 7)) (.int .u32 (nx)) (.int .u32 (f)) (.int .i64 0) (.int .u32 xx)).drew
    have hp := (M4.out.upto (upto_put (h := w.heap.size + 1 + 1 + 1) (g := w.heap.size + 1 + 1 + 1 + 1) (Upto.refl (fun i => i = w.heap.size + 1 + 1 + 1 ∨ i = w.heap.size + 1 + 1 + 1 + 1) W3) (.inl (.inl rfl)) (.inl (.inr rfl)) (.int .u32 ((upd R d v) 0)) (.int .u32 ((upd R d v) 1)) (.int .u32 ((upd R d v) 2)) (.int .u32 ((upd R d v) 3)) (.int .u32 ((upd R d v) 4)) (.int .u32 ((upd R d v) 5)) (.int .u32 ((upd R d v) 6)) (.int .u32 ((upd R d v) 7)) (.int .u32 (nx)) (.int .u32 (f)) (.int .i64 0) (.int .u32 xx)) (fun j hj hx => hW0.out j (by rcases hx with hx | hx <;> omega) hj)).drew
    have fq2 := fq.drew
    clear fq
    generalize World.drew _ = WZ at fq2 bp hp ⊢
    obtain ⟨g0, g1, g2, g3, g4, g5, g6, g7, g8, g9, o0, o1⟩ := fq2.got v0 v1 v2 v3 v4 v5 v6 v7 v8 v9 t0 t1
    go_wp2_with fail
    exact bodyPost_ret (v := outV ⟨M, upd R d v, nx, f, 0, xx⟩) (by simp [outV, stV, results, Try.results87, go_sem, g0, g1, g2, g3, g4, g5, g6, g7, g8, g9, o0, o1]) rfl ⟨rfl, hp, bp⟩
  · have b0 : (kk == 0) = false := by rw [beq_eq_false_iff_ne]; exact hk
    have b0' : (kk != 0) = true := by rw [bne, b0]; rfl
    go_wp2_with (go_at_call 105; (with_reducible refine (CS.out _ (by repeat (first | exact M1.out | apply rm_alloc | apply RM.drew))).mono ?_); rintro e w3 ⟨rfl, b3⟩; have B3 := Upto.of_below (S := P.has) b3; have M3 := Lib.hid (RM.upto (P := P) (M := M) (by repeat (first | exact M1.out | apply rm_alloc | apply RM.drew)) (Upto.of_below (S := fun _ => False) b3) (fun _ _ => id)); have hno := fun i hi => hW0.out i hi; clear x1 x2 x3 x4 s7 sd ss s9 t7 td t8 t9 zt7 ztd zt8 zt9 k0 k1 zk0 zk1 lk lt x0; have H3 := Lib.hid (show MB w.heap.size R pc f 30 d s 2 m R nx f 0 0 w3 from MB.upto (by repeat (first | exact H1.out | apply mb_alloc | apply MB.drew)) B3 hno); have x1 := H3.out.x.c1; have x2 := H3.out.x.c2; have x3 := H3.out.x.c3; have x4 := H3.out.x.c4; have s7 := H3.out.s.r 7 (by omega); have sd := H3.out.s.r d hd; have ss := H3.out.s.r s hs; have s9 := H3.out.s.c9; have t7 := H3.out.t.r 7 (by omega); have td := H3.out.t.r d hd; have t8 := H3.out.t.c8; have t9 := H3.out.t.c9; have zt7 := H3.out.t.z 7; have ztd := H3.out.t.z d; have zt8 := H3.out.t.z 8; have zt9 := H3.out.t.z 9; have k0 := H3.out.k.c0; have k1 := H3.out.k.c1; have zk0 := H3.out.k.z 0; have zk1 := H3.out.k.z 1; have lk := H3.out.k.l; have lt := H3.out.t.l; have U3 := Lib.hid (Upto.trans (S := P.has) (a := w) (by repeat (first | exact U1.out | apply Upto.alloc | apply Upto.drew)) B3); clear B3 b3 hno)
    have h4 := (H3.out.setK kk xx).setR d hd v
    clear x1 x2 x3 x4 s7 sd ss s9 t7 td t8 t9 zt7 ztd zt8 zt9 k0 k1 zk0 zk1 lk lt
    have m4 : RM P M ((((w3.setCell ⟨w.heap.size + 1 + 1 + 1 + 1 + 1, 0, none⟩ (.int .i64 kk)).setCell ⟨w.heap.size + 1 + 1 + 1 + 1 + 1, 1, none⟩ (.int .u32 xx)).setCell ⟨w.heap.size + 1 + 1, d, none⟩ (.int .u32 v))) := by repeat (first | exact M3.out | apply RM.drew | refine rm_setA ?_ (hW0.out _ (by omega)))
    have u4 : Upto P.has w ((((w3.setCell ⟨w.heap.size + 1 + 1 + 1 + 1 + 1, 0, none⟩ (.int .i64 kk)).setCell ⟨w.heap.size + 1 + 1 + 1 + 1 + 1, 1, none⟩ (.int .u32 xx)).setCell ⟨w.heap.size + 1 + 1, d, none⟩ (.int .u32 v))) := by repeat (first | exact U3.out | apply Upto.drew | refine upto_big ?_ (by omega))
    generalize (((w3.setCell ⟨w.heap.size + 1 + 1 + 1 + 1 + 1, 0, none⟩ (.int .i64 kk)).setCell ⟨w.heap.size + 1 + 1 + 1 + 1 + 1, 1, none⟩ (.int .u32 xx)).setCell ⟨w.heap.size + 1 + 1, d, none⟩ (.int .u32 v)) = W3 at h4 m4 u4 ⊢
    have H4 := Lib.hid h4
    have M4 := Lib.hid m4
    have U4 := Lib.hid u4
    clear h4 m4 u4
    obtain ⟨a0, a1, a2, a3, a4, a5, a6, a7, a8, a9⟩ := H4.out.s.all
    have a10 := H4.out.k.c0
    have a11 := H4.out.k.c1
    obtain ⟨q0, y0, q1, y1, q2, y2, q3, y3, q4, y4, q5, y5, q6, y6, q7, y7, q8, y8, q9, y9, r0, z0, r1, z1⟩ := H4.out.q.all
    go_region
    clear q0 y0 q1 y1 q2 y2 q3 y3 q4 y4 q5 y5 q6 y6 q7 y7 q8 y8 q9 y9 r0 z0 r1 z1
    clear a0 a1 a2 a3 a4 a5 a6 a7 a8 a9 a10 a11
    obtain ⟨u, t, fq, v0, v1, v2, v3, v4, v5, v6, v7, v8, v9, t0, t1⟩ := H4.out.q.put (.int .u32 (R 0)) (.int .u32 (R 1)) (.int .u32 (R 2)) (.int .u32 (R 3)) (.int .u32 (R 4)) (.int .u32 (R 5)) (.int .u32 (R 6)) (.int .u32 (R 7)) (.int .u32 pc) (.int .u32 f) (.int .i64 kk) (.int .u32 xx)
    have bp := (upto_put (h := w.heap.size + 1 + 1 + 1) (g := w.heap.size + 1 + 1 + 1 + 1) U4.out (.inr (by omega)) (.inr (by omega)) (.int .u32 (R 0)) (.int .u32 (R 1)) (.int .u32 (R 2)) (.int .u32 (R 3)) (.int .u32 (R 4)) (.int .u32 (R 5)) (.int .u32 (R 6)) (.int .u32 (R 7)) (.int .u32 pc) (.int .u32 f) (.int .i64 kk) (.int .u32 xx)).drew
    have hp := (M4.out.upto (upto_put (h := w.heap.size + 1 + 1 + 1) (g := w.heap.size + 1 + 1 + 1 + 1) (Upto.refl (fun i => i = w.heap.size + 1 + 1 + 1 ∨ i = w.heap.size + 1 + 1 + 1 + 1) W3) (.inl (.inl rfl)) (.inl (.inr rfl)) (.int .u32 (R 0)) (.int .u32 (R 1)) (.int .u32 (R 2)) (.int .u32 (R 3)) (.int .u32 (R 4)) (.int .u32 (R 5)) (.int .u32 (R 6)) (.int .u32 (R 7)) (.int .u32 pc) (.int .u32 f) (.int .i64 kk) (.int .u32 xx)) (fun j hj hx => hW0.out j (by rcases hx with hx | hx <;> omega) hj)).drew
    have fq2 := fq.drew
    clear fq
    generalize World.drew _ = WZ at fq2 bp hp ⊢
    obtain ⟨g0, g1, g2, g3, g4, g5, g6, g7, g8, g9, o0, o1⟩ := fq2.got v0 v1 v2 v3 v4 v5 v6 v7 v8 v9 t0 t1
    go_wp2_with fail
    exact bodyPost_ret (v := outV ⟨M, R, pc, f, kk, xx⟩) (by simp [outV, stV, results, Try.results87, go_sem, g0, g1, g2, g3, g4, g5, g6, g7, g8, g9, o0, o1]) rfl ⟨rfl, hp, bp⟩
end Go.Proofs.Ytcjcmnnhmajocab.St
