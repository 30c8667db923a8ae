/- crossgrainref2's Step: operations without memory. -/
import Derived.RegionTactic
import Derived.BigRegion
import Derived.Deep.RegionWith
import Derived.Deep.RegionHeld3
import Derived.Test.YtcjcmnnhmajocabPkah
import Derived.Test.YtcjcmnnhmajocabPkai
import Derived.Test.YtcjcmnnhmajocabPkau
import Derived.Test.YtcjcmnnhmajocabPkaw
import Derived.Test.YtcjcmnnhmajocabPkay
namespace Go.Proofs.Ytcjcmnnhmajocab.St
open Go.RowKit Kt Me Fl Gu
set_option linter.unusedVariables false
set_option linter.unusedSimpArgs false
variable {R : Nat → Int} {pc f : Int}
set_option maxRecDepth 100000 in
set_option maxHeartbeats 16000000 in
theorem rs_12t (P : RP) (M : MM) (d s : Nat) (o m n : Int) (w : World) (h : RM P M w) (hM : MOk M) (hR : ROk R) (c0 : 0 ≤ pc) (c1 : pc < 4294967296) (f0 : 0 ≤ f) (f1 : f < 4294967296) (n0 : 0 ≤ n) (n1 : n < 8) (hd : d < 8) (hs' : s < 8) (o0 : 0 ≤ o) (o1 : o < 16) (m0 : 0 ≤ m) (m1 : m < 4294967296)
    (ht : Fl.hd o (f % 16) = true) (hs : insV M pc = .tuple #[agg5 12 d s o m, .int .i64 n, .agg #[.int .i64 0, .int .u32 0]]) :
    Calls Try.prog 36 #[.pointer (some ⟨P.q, 0, none⟩), stV R pc f] w fun e w' => e = .returned (outV ⟨M, R, w32 (w32 (pc + n) + m), f % 16, 0, 0⟩) ∧ RM P M w' ∧ Upto P.has w w' := by
  have CF := Lib.hid (fun w h => rins_all P M pc w h hM c0 c1)
  rw [hs] at CF
  have en : n % 4294967296 = n := by omega
  have ew : (pc + n) % 4294967296 = w32 (pc + n) := rfl
  have S0 := S3.new w R pc (f % 16)
  have B0 : Below w.heap.size w (((w.alloc (.cells (stL R pc (f % 16)) 72)).alloc (.cells Z10 72)).alloc (.cells Z2 46)) := (((Below.refl _ _).alloc (Nat.le_refl _) _).alloc (by simp) _).alloc (by simp; omega) _
  have HH := Lib.hid (h.upto (Upto.of_below (S := fun _ => False) B0) (fun _ _ => id))
  unfold stL Z10 Z2 at S0 B0 HH
  unfold agg5 at CF
  unfold stV
  have hW0 := Lib.hid (fun i (hi : w.heap.size ≤ i) (hp : P.has i) => show False by have := rm_lt h hp; omega)
  have hd0 : (0 : Int) ≤ (d : Int) := by omega
  have hd1 : (d : Int) < 8 := by omega
  have hs0 : (0 : Int) ≤ (s : Int) := by omega
  have hs1 : (s : Int) < 8 := by omega
  have nxb := w32_bd (pc + n)
  obtain ⟨nx, hnx⟩ : ∃ nx, w32 (pc + n) = nx := ⟨_, rfl⟩
  rw [hnx] at ew nxb
  try rw [hnx]
  clear h hs
  go_enter Try.func36, Try.ntmps36
  go_wp2_with fail
  generalize ((w.alloc (.cells #[.int .u32 (R 0), .int .u32 (R 1), .int .u32 (R 2), .int .u32 (R 3), .int .u32 (R 4), .int .u32 (R 5), .int .u32 (R 6), .int .u32 (R 7), .int .u32 pc, .int .u32 (f % 16)] 72)).alloc (.cells #[.int .u32 0, .int .u32 0, .int .u32 0, .int .u32 0, .int .u32 0, .int .u32 0, .int .u32 0, .int .u32 0, .int .u32 0, .int .u32 0] 72)).alloc (.cells #[.int .i64 0, .int .u32 0] 46) = WA at S0 B0 HH ⊢
  have HS := Lib.hid S0
  have HB := Lib.hid B0
  clear S0 B0
  go_upto_region 8 with (go_at_call 82; (with_reducible refine (CF.out _ HH.out).mono ?_); rintro e w1 ⟨rfl, b1⟩; have HS1 := Lib.hid (HS.out.below b1); have HH1 := Lib.hid (HH.out.upto (Upto.of_below (S := fun _ => False) b1) (fun _ _ => id)); have lw := HS1.out.q.lb; obtain ⟨s0, s1, s2, s3, s4, s5, s6, s7, s8, s9⟩ := HS1.out.all; have lh : w.heap.size < w1.heap.size := by omega)
  have CH := Lib.hid (fun w => rholds_any o (f % 16) w (by omega) (by omega))
  rw [ht] at CH
  clear ht
  have ev : (nx + m) % 4294967296 = w32 (nx + m) := rfl
  obtain ⟨nx1, nt1, nu1⟩ := st_new w1 R nx (f % 16) 12 d s o m
  have lT := nt1.l
  have M1 := Lib.hid (HH1.out.upto nu1 (fun _ _ => id))
  have U1 := Lib.hid ((Upto.of_below (S := P.has) (HB.out.trans (b1.mono HB.out.size))).trans (nu1.mono (T := P.has) fun _ _ h => h.elim))
  have S1 := Lib.hid (HS1.out.upto nu1 id id id)
  clear s0 s1 s2 s3 s4 s5 s6 s7 s8 s9
  unfold stL Z2 at nx1 nt1 nu1 lT M1 U1 S1
  generalize ((w1.alloc (.cells #[.int .i64 12, .int .i64 d, .int .i64 s, .int .i64 o, .int .u32 m] 149)).alloc (.cells #[.int .i64 0, .int .u32 0] 46)).alloc (.cells #[.int .u32 (R 0), .int .u32 (R 1), .int .u32 (R 2), .int .u32 (R 3), .int .u32 (R 4), .int .u32 (R 5), .int .u32 (R 6), .int .u32 (R 7), .int .u32 nx, .int .u32 (f % 16)] 72) = WB at nx1 nt1 nu1 lT M1 U1 S1 ⊢
  have X1 := Lib.hid nx1
  have T1 := Lib.hid nt1
  clear nx1 nt1 nu1
  have na00 : ¬ w1.heap.size = w.heap.size := by omega
  have nb00 : ¬ w.heap.size = w1.heap.size := by omega
  have na01 : ¬ w1.heap.size = w.heap.size + 1 := by omega
  have nb01 : ¬ w.heap.size + 1 = w1.heap.size := by omega
  have na02 : ¬ w1.heap.size = w.heap.size + 1 + 1 := by omega
  have nb02 : ¬ w.heap.size + 1 + 1 = w1.heap.size := by omega
  have na20 : ¬ w1.heap.size + 1 + 1 = w.heap.size := by omega
  have nb20 : ¬ w.heap.size = w1.heap.size + 1 + 1 := by omega
  have na21 : ¬ w1.heap.size + 1 + 1 = w.heap.size + 1 := by omega
  have nb21 : ¬ w.heap.size + 1 = w1.heap.size + 1 + 1 := by omega
  have na22 : ¬ w1.heap.size + 1 + 1 = w.heap.size + 1 + 1 := by omega
  have nb22 : ¬ w.heap.size + 1 + 1 = w1.heap.size + 1 + 1 := by omega
  have x0 := X1.out.c0
  have x1 := X1.out.c1
  have x2 := X1.out.c2
  have x3 := X1.out.c3
  have x4 := X1.out.c4
  have lX := X1.out.l
  have sd := S1.out.s d hd
  have ss := S1.out.s s hs'
  have s9 := S1.out.s9
  have td := T1.out.r d hd
  have t8 := T1.out.c8
  have t9 := T1.out.c9
  have zd := T1.out.z d
  have z8 := T1.out.z 8
  have z9 := T1.out.z 9
  go_upto_region 57 with (go_at_call 83; (with_reducible refine (CH.out _).mono ?_); rintro e w3 ⟨rfl, b3⟩; have ub := Upto.of_below (S := fun _ => False) b3; have T1 := Lib.hid (T1.out.upto ub id); have S1 := Lib.hid (S1.out.upto ub id id id); have X1 := Lib.hid (X1.out.upto ub id); have M1 := Lib.hid (M1.out.upto ub (fun _ _ => id)); have U1 := Lib.hid (U1.out.trans (ub.mono (T := P.has) fun _ _ h => h.elim)); clear ub b3 x0 x1 x2 x3 x4 lX sd ss s9 td t8 t9 zd z8 z9; have x0 := X1.out.c0; have x1 := X1.out.c1; have x2 := X1.out.c2; have x3 := X1.out.c3; have x4 := X1.out.c4; have lX := X1.out.l; have sd := S1.out.s d hd; have ss := S1.out.s s hs'; have s9 := S1.out.s9; have td := T1.out.r d hd; have t8 := T1.out.c8; have t9 := T1.out.c9; have zd := T1.out.z d; have z8 := T1.out.z 8; have z9 := T1.out.z 9)
  have t4 := T1.out.setPc (w32 (nx + m))
  clear x0 x1 x2 x3 x4 lX sd ss s9 td t8 t9 zd z8 z9
  have m4 : RM P M (w3.setCell ⟨w1.heap.size + 1 + 1, 8, none⟩ (.int .u32 (w32 (nx + m)))) := by repeat (first | exact M1.out | apply RM.drew | refine rm_setA ?_ (hW0.out _ (by omega)))
  have u4 : Upto P.has w (w3.setCell ⟨w1.heap.size + 1 + 1, 8, none⟩ (.int .u32 (w32 (nx + m)))) := by repeat (first | exact U1.out | apply Upto.drew | refine upto_big ?_ (by omega))
  have s4 : S3 w.heap.size R pc (f % 16) (w3.setCell ⟨w1.heap.size + 1 + 1, 8, none⟩ (.int .u32 (w32 (nx + m)))) := by repeat (first | exact S1.out | apply S3.drew | refine s3_off ?_ (by omega) (by omega) (by omega))
  generalize w3.setCell ⟨w1.heap.size + 1 + 1, 8, none⟩ (.int .u32 (w32 (nx + m))) = W3 at t4 m4 u4 s4  ⊢
  have T4 := Lib.hid t4
  have M4 := Lib.hid m4
  have U4 := Lib.hid u4
  have S4 := Lib.hid s4
  clear t4 m4 u4 s4
  obtain ⟨a0, a1, a2, a3, a4, a5, a6, a7, a8, a9⟩ := T4.out.all
  have lT4 := T4.out.l
  obtain ⟨q0, y0, q1, y1, q2, y2, q3, y3, q4, y4, q5, y5, q6, y6, q7, y7, q8, y8, q9, y9, r0, w0', r1, w1'⟩ := S4.out.q.all
  go_wp2_with fail
  clear q0 y0 q1 y1 q2 y2 q3 y3 q4 y4 q5 y5 q6 y6 q7 y7 q8 y8 q9 y9 r0 w0' r1 w1'
  clear a0 a1 a2 a3 a4 a5 a6 a7 a8 a9
  obtain ⟨u, t, fq, v0, v1, v2, v3, v4, v5, v6, v7, v8, v9, t0, t1⟩ := S4.out.q.put (.int .u32 ((R) 0)) (.int .u32 ((R) 1)) (.int .u32 ((R) 2)) (.int .u32 ((R) 3)) (.int .u32 ((R) 4)) (.int .u32 ((R) 5)) (.int .u32 ((R) 6)) (.int .u32 ((R) 7)) (.int .u32 (w32 (nx + m))) (.int .u32 (f % 16)) (.int .i64 0) (.int .u32 0)
  have bp := (upto_put (h := w.heap.size + 1) (g := w.heap.size + 1 + 1) U4.out (.inr (by omega)) (.inr (by omega)) (.int .u32 ((R) 0)) (.int .u32 ((R) 1)) (.int .u32 ((R) 2)) (.int .u32 ((R) 3)) (.int .u32 ((R) 4)) (.int .u32 ((R) 5)) (.int .u32 ((R) 6)) (.int .u32 ((R) 7)) (.int .u32 (w32 (nx + m))) (.int .u32 (f % 16)) (.int .i64 0) (.int .u32 0))
  have hp := (M4.out.upto (upto_put (h := w.heap.size + 1) (g := w.heap.size + 1 + 1) (Upto.refl (fun i => i = w.heap.size + 1 ∨ i = w.heap.size + 1 + 1) W3) (.inl (.inl rfl)) (.inl (.inr rfl)) (.int .u32 ((R) 0)) (.int .u32 ((R) 1)) (.int .u32 ((R) 2)) (.int .u32 ((R) 3)) (.int .u32 ((R) 4)) (.int .u32 ((R) 5)) (.int .u32 ((R) 6)) (.int .u32 ((R) 7)) (.int .u32 (w32 (nx + m))) (.int .u32 (f % 16)) (.int .i64 0) (.int .u32 0)) (fun j hj hx => hW0.out j (by rcases hx with hx | hx <;> omega) hj))
  have fq2 := fq
  clear fq
  obtain ⟨g0, g1, g2, g3, g4, g5, g6, g7, g8, g9, o0, o1⟩ := fq2.got v0 v1 v2 v3 v4 v5 v6 v7 v8 v9 t0 t1
  exact bodyPost_ret (v := outV ⟨M, R, w32 (nx + m), f % 16, 0, 0⟩) (by simp [outV, stV, results, Try.results36, go_sem, g0, g1, g2, g3, g4, g5, g6, g7, g8, g9, o0, o1]) rfl ⟨rfl, hp, bp⟩
set_option maxRecDepth 100000 in
set_option maxHeartbeats 16000000 in
theorem rs_12f (P : RP) (M : MM) (d s : Nat) (o m n : Int) (w : World) (h : RM P M w) (hM : MOk M) (hR : ROk R) (c0 : 0 ≤ pc) (c1 : pc < 4294967296) (f0 : 0 ≤ f) (f1 : f < 4294967296) (n0 : 0 ≤ n) (n1 : n < 8) (hd : d < 8) (hs' : s < 8) (o0 : 0 ≤ o) (o1 : o < 16) (m0 : 0 ≤ m) (m1 : m < 4294967296)
    (ht : Fl.hd o (f % 16) = false) (hs : insV M pc = .tuple #[agg5 12 d s o m, .int .i64 n, .agg #[.int .i64 0, .int .u32 0]]) :
    Calls Try.prog 36 #[.pointer (some ⟨P.q, 0, none⟩), stV R pc f] w fun e w' => e = .returned (outV ⟨M, R, w32 (pc + n), f % 16, 0, 0⟩) ∧ RM P M w' ∧ Upto P.has w w' := by
  have CF := Lib.hid (fun w h => rins_all P M pc w h hM c0 c1)
  rw [hs] at CF
  have en : n % 4294967296 = n := by omega
  have ew : (pc + n) % 4294967296 = w32 (pc + n) := rfl
  have S0 := S3.new w R pc (f % 16)
  have B0 : Below w.heap.size w (((w.alloc (.cells (stL R pc (f % 16)) 72)).alloc (.cells Z10 72)).alloc (.cells Z2 46)) := (((Below.refl _ _).alloc (Nat.le_refl _) _).alloc (by simp) _).alloc (by simp; omega) _
  have HH := Lib.hid (h.upto (Upto.of_below (S := fun _ => False) B0) (fun _ _ => id))
  unfold stL Z10 Z2 at S0 B0 HH
  unfold agg5 at CF
  unfold stV
  have hW0 := Lib.hid (fun i (hi : w.heap.size ≤ i) (hp : P.has i) => show False by have := rm_lt h hp; omega)
  have hd0 : (0 : Int) ≤ (d : Int) := by omega
  have hd1 : (d : Int) < 8 := by omega
  have hs0 : (0 : Int) ≤ (s : Int) := by omega
  have hs1 : (s : Int) < 8 := by omega
  have nxb := w32_bd (pc + n)
  obtain ⟨nx, hnx⟩ : ∃ nx, w32 (pc + n) = nx := ⟨_, rfl⟩
  rw [hnx] at ew nxb
  try rw [hnx]
  clear h hs
  go_enter Try.func36, Try.ntmps36
  go_wp2_with fail
  generalize ((w.alloc (.cells #[.int .u32 (R 0), .int .u32 (R 1), .int .u32 (R 2), .int .u32 (R 3), .int .u32 (R 4), .int .u32 (R 5), .int .u32 (R 6), .int .u32 (R 7), .int .u32 pc, .int .u32 (f % 16)] 72)).alloc (.cells #[.int .u32 0, .int .u32 0, .int .u32 0, .int .u32 0, .int .u32 0, .int .u32 0, .int .u32 0, .int .u32 0, .int .u32 0, .int .u32 0] 72)).alloc (.cells #[.int .i64 0, .int .u32 0] 46) = WA at S0 B0 HH ⊢
  have HS := Lib.hid S0
  have HB := Lib.hid B0
  clear S0 B0
  go_upto_region 8 with (go_at_call 82; (with_reducible refine (CF.out _ HH.out).mono ?_); rintro e w1 ⟨rfl, b1⟩; have HS1 := Lib.hid (HS.out.below b1); have HH1 := Lib.hid (HH.out.upto (Upto.of_below (S := fun _ => False) b1) (fun _ _ => id)); have lw := HS1.out.q.lb; obtain ⟨s0, s1, s2, s3, s4, s5, s6, s7, s8, s9⟩ := HS1.out.all; have lh : w.heap.size < w1.heap.size := by omega)
  have CH := Lib.hid (fun w => rholds_any o (f % 16) w (by omega) (by omega))
  rw [ht] at CH
  clear ht
  have ev : (nx + m) % 4294967296 = w32 (nx + m) := rfl
  obtain ⟨nx1, nt1, nu1⟩ := st_new w1 R nx (f % 16) 12 d s o m
  have lT := nt1.l
  have M1 := Lib.hid (HH1.out.upto nu1 (fun _ _ => id))
  have U1 := Lib.hid ((Upto.of_below (S := P.has) (HB.out.trans (b1.mono HB.out.size))).trans (nu1.mono (T := P.has) fun _ _ h => h.elim))
  have S1 := Lib.hid (HS1.out.upto nu1 id id id)
  clear s0 s1 s2 s3 s4 s5 s6 s7 s8 s9
  unfold stL Z2 at nx1 nt1 nu1 lT M1 U1 S1
  generalize ((w1.alloc (.cells #[.int .i64 12, .int .i64 d, .int .i64 s, .int .i64 o, .int .u32 m] 149)).alloc (.cells #[.int .i64 0, .int .u32 0] 46)).alloc (.cells #[.int .u32 (R 0), .int .u32 (R 1), .int .u32 (R 2), .int .u32 (R 3), .int .u32 (R 4), .int .u32 (R 5), .int .u32 (R 6), .int .u32 (R 7), .int .u32 nx, .int .u32 (f % 16)] 72) = WB at nx1 nt1 nu1 lT M1 U1 S1 ⊢
  have X1 := Lib.hid nx1
  have T1 := Lib.hid nt1
  clear nx1 nt1 nu1
  have na00 : ¬ w1.heap.size = w.heap.size := by omega
  have nb00 : ¬ w.heap.size = w1.heap.size := by omega
  have na01 : ¬ w1.heap.size = w.heap.size + 1 := by omega
  have nb01 : ¬ w.heap.size + 1 = w1.heap.size := by omega
  have na02 : ¬ w1.heap.size = w.heap.size + 1 + 1 := by omega
  have nb02 : ¬ w.heap.size + 1 + 1 = w1.heap.size := by omega
  have na20 : ¬ w1.heap.size + 1 + 1 = w.heap.size := by omega
  have nb20 : ¬ w.heap.size = w1.heap.size + 1 + 1 := by omega
  have na21 : ¬ w1.heap.size + 1 + 1 = w.heap.size + 1 := by omega
  have nb21 : ¬ w.heap.size + 1 = w1.heap.size + 1 + 1 := by omega
  have na22 : ¬ w1.heap.size + 1 + 1 = w.heap.size + 1 + 1 := by omega
  have nb22 : ¬ w.heap.size + 1 + 1 = w1.heap.size + 1 + 1 := by omega
  have x0 := X1.out.c0
  have x1 := X1.out.c1
  have x2 := X1.out.c2
  have x3 := X1.out.c3
  have x4 := X1.out.c4
  have lX := X1.out.l
  have sd := S1.out.s d hd
  have ss := S1.out.s s hs'
  have s9 := S1.out.s9
  have td := T1.out.r d hd
  have t8 := T1.out.c8
  have t9 := T1.out.c9
  have zd := T1.out.z d
  have z8 := T1.out.z 8
  have z9 := T1.out.z 9
  go_upto_region 57 with (go_at_call 83; (with_reducible refine (CH.out _).mono ?_); rintro e w3 ⟨rfl, b3⟩; have ub := Upto.of_below (S := fun _ => False) b3; have T1 := Lib.hid (T1.out.upto ub id); have S1 := Lib.hid (S1.out.upto ub id id id); have X1 := Lib.hid (X1.out.upto ub id); have M1 := Lib.hid (M1.out.upto ub (fun _ _ => id)); have U1 := Lib.hid (U1.out.trans (ub.mono (T := P.has) fun _ _ h => h.elim)); clear ub b3 x0 x1 x2 x3 x4 lX sd ss s9 td t8 t9 zd z8 z9; have x0 := X1.out.c0; have x1 := X1.out.c1; have x2 := X1.out.c2; have x3 := X1.out.c3; have x4 := X1.out.c4; have lX := X1.out.l; have sd := S1.out.s d hd; have ss := S1.out.s s hs'; have s9 := S1.out.s9; have td := T1.out.r d hd; have t8 := T1.out.c8; have t9 := T1.out.c9; have zd := T1.out.z d; have z8 := T1.out.z 8; have z9 := T1.out.z 9)
  have t4 := T1.out
  clear x0 x1 x2 x3 x4 lX sd ss s9 td t8 t9 zd z8 z9
  have m4 : RM P M (w3) := by repeat (first | exact M1.out | apply RM.drew | refine rm_setA ?_ (hW0.out _ (by omega)))
  have u4 : Upto P.has w (w3) := by repeat (first | exact U1.out | apply Upto.drew | refine upto_big ?_ (by omega))
  have s4 : S3 w.heap.size R pc (f % 16) (w3) := by repeat (first | exact S1.out | apply S3.drew | refine s3_off ?_ (by omega) (by omega) (by omega))
  generalize w3 = W3 at t4 m4 u4 s4  ⊢
  have T4 := Lib.hid t4
  have M4 := Lib.hid m4
  have U4 := Lib.hid u4
  have S4 := Lib.hid s4
  clear t4 m4 u4 s4
  obtain ⟨a0, a1, a2, a3, a4, a5, a6, a7, a8, a9⟩ := T4.out.all
  have lT4 := T4.out.l
  obtain ⟨q0, y0, q1, y1, q2, y2, q3, y3, q4, y4, q5, y5, q6, y6, q7, y7, q8, y8, q9, y9, r0, w0', r1, w1'⟩ := S4.out.q.all
  go_wp2_with fail
  clear q0 y0 q1 y1 q2 y2 q3 y3 q4 y4 q5 y5 q6 y6 q7 y7 q8 y8 q9 y9 r0 w0' r1 w1'
  clear a0 a1 a2 a3 a4 a5 a6 a7 a8 a9
  obtain ⟨u, t, fq, v0, v1, v2, v3, v4, v5, v6, v7, v8, v9, t0, t1⟩ := S4.out.q.put (.int .u32 ((R) 0)) (.int .u32 ((R) 1)) (.int .u32 ((R) 2)) (.int .u32 ((R) 3)) (.int .u32 ((R) 4)) (.int .u32 ((R) 5)) (.int .u32 ((R) 6)) (.int .u32 ((R) 7)) (.int .u32 (nx)) (.int .u32 (f % 16)) (.int .i64 0) (.int .u32 0)
  have bp := (upto_put (h := w.heap.size + 1) (g := w.heap.size + 1 + 1) U4.out (.inr (by omega)) (.inr (by omega)) (.int .u32 ((R) 0)) (.int .u32 ((R) 1)) (.int .u32 ((R) 2)) (.int .u32 ((R) 3)) (.int .u32 ((R) 4)) (.int .u32 ((R) 5)) (.int .u32 ((R) 6)) (.int .u32 ((R) 7)) (.int .u32 (nx)) (.int .u32 (f % 16)) (.int .i64 0) (.int .u32 0))
  have hp := (M4.out.upto (upto_put (h := w.heap.size + 1) (g := w.heap.size + 1 + 1) (Upto.refl (fun i => i = w.heap.size + 1 ∨ i = w.heap.size + 1 + 1) W3) (.inl (.inl rfl)) (.inl (.inr rfl)) (.int .u32 ((R) 0)) (.int .u32 ((R) 1)) (.int .u32 ((R) 2)) (.int .u32 ((R) 3)) (.int .u32 ((R) 4)) (.int .u32 ((R) 5)) (.int .u32 ((R) 6)) (.int .u32 ((R) 7)) (.int .u32 (nx)) (.int .u32 (f % 16)) (.int .i64 0) (.int .u32 0)) (fun j hj hx => hW0.out j (by rcases hx with hx | hx <;> omega) hj))
  have fq2 := fq
  clear fq
  obtain ⟨g0, g1, g2, g3, g4, g5, g6, g7, g8, g9, o0, o1⟩ := fq2.got v0 v1 v2 v3 v4 v5 v6 v7 v8 v9 t0 t1
  exact bodyPost_ret (v := outV ⟨M, R, nx, f % 16, 0, 0⟩) (by simp [outV, stV, results, Try.results36, go_sem, g0, g1, g2, g3, g4, g5, g6, g7, g8, g9, o0, o1]) rfl ⟨rfl, hp, bp⟩
set_option maxRecDepth 100000 in
set_option maxHeartbeats 16000000 in
theorem rs_13t (P : RP) (M : MM) (d s : Nat) (o m n : Int) (w : World) (h : RM P M w) (hM : MOk M) (hR : ROk R) (c0 : 0 ≤ pc) (c1 : pc < 4294967296) (f0 : 0 ≤ f) (f1 : f < 4294967296) (n0 : 0 ≤ n) (n1 : n < 8) (hd : d < 8) (hs' : s < 8) (o0 : 0 ≤ o) (o1 : o < 16) (m0 : 0 ≤ m) (m1 : m < 4294967296)
    (ht : Fl.hd o (f % 16) = true) (hs : insV M pc = .tuple #[agg5 13 d s o m, .int .i64 n, .agg #[.int .i64 0, .int .u32 0]]) :
    Calls Try.prog 36 #[.pointer (some ⟨P.q, 0, none⟩), stV R pc f] w fun e w' => e = .returned (outV ⟨M, R, w32 (w32 (pc + n) + m), f % 16, 0, 0⟩) ∧ RM P M w' ∧ Upto P.has w w' := by
  have CF := Lib.hid (fun w h => rins_all P M pc w h hM c0 c1)
  rw [hs] at CF
  have en : n % 4294967296 = n := by omega
  have ew : (pc + n) % 4294967296 = w32 (pc + n) := rfl
  have S0 := S3.new w R pc (f % 16)
  have B0 : Below w.heap.size w (((w.alloc (.cells (stL R pc (f % 16)) 72)).alloc (.cells Z10 72)).alloc (.cells Z2 46)) := (((Below.refl _ _).alloc (Nat.le_refl _) _).alloc (by simp) _).alloc (by simp; omega) _
  have HH := Lib.hid (h.upto (Upto.of_below (S := fun _ => False) B0) (fun _ _ => id))
  unfold stL Z10 Z2 at S0 B0 HH
  unfold agg5 at CF
  unfold stV
  have hW0 := Lib.hid (fun i (hi : w.heap.size ≤ i) (hp : P.has i) => show False by have := rm_lt h hp; omega)
  have hd0 : (0 : Int) ≤ (d : Int) := by omega
  have hd1 : (d : Int) < 8 := by omega
  have hs0 : (0 : Int) ≤ (s : Int) := by omega
  have hs1 : (s : Int) < 8 := by omega
  have nxb := w32_bd (pc + n)
  obtain ⟨nx, hnx⟩ : ∃ nx, w32 (pc + n) = nx := ⟨_, rfl⟩
  rw [hnx] at ew nxb
  try rw [hnx]
  clear h hs
  go_enter Try.func36, Try.ntmps36
  go_wp2_with fail
  generalize ((w.alloc (.cells #[.int .u32 (R 0), .int .u32 (R 1), .int .u32 (R 2), .int .u32 (R 3), .int .u32 (R 4), .int .u32 (R 5), .int .u32 (R 6), .int .u32 (R 7), .int .u32 pc, .int .u32 (f % 16)] 72)).alloc (.cells #[.int .u32 0, .int .u32 0, .int .u32 0, .int .u32 0, .int .u32 0, .int .u32 0, .int .u32 0, .int .u32 0, .int .u32 0, .int .u32 0] 72)).alloc (.cells #[.int .i64 0, .int .u32 0] 46) = WA at S0 B0 HH ⊢
  have HS := Lib.hid S0
  have HB := Lib.hid B0
  clear S0 B0
  go_upto_region 8 with (go_at_call 82; (with_reducible refine (CF.out _ HH.out).mono ?_); rintro e w1 ⟨rfl, b1⟩; have HS1 := Lib.hid (HS.out.below b1); have HH1 := Lib.hid (HH.out.upto (Upto.of_below (S := fun _ => False) b1) (fun _ _ => id)); have lw := HS1.out.q.lb; obtain ⟨s0, s1, s2, s3, s4, s5, s6, s7, s8, s9⟩ := HS1.out.all; have lh : w.heap.size < w1.heap.size := by omega)
  have CH := Lib.hid (fun w => rholds_any o (f % 16) w (by omega) (by omega))
  rw [ht] at CH
  clear ht
  have ev : (nx + m) % 4294967296 = w32 (nx + m) := rfl
  obtain ⟨nx1, nt1, nu1⟩ := st_new w1 R nx (f % 16) 13 d s o m
  have lT := nt1.l
  have M1 := Lib.hid (HH1.out.upto nu1 (fun _ _ => id))
  have U1 := Lib.hid ((Upto.of_below (S := P.has) (HB.out.trans (b1.mono HB.out.size))).trans (nu1.mono (T := P.has) fun _ _ h => h.elim))
  have S1 := Lib.hid (HS1.out.upto nu1 id id id)
  clear s0 s1 s2 s3 s4 s5 s6 s7 s8 s9
  unfold stL Z2 at nx1 nt1 nu1 lT M1 U1 S1
  generalize ((w1.alloc (.cells #[.int .i64 13, .int .i64 d, .int .i64 s, .int .i64 o, .int .u32 m] 149)).alloc (.cells #[.int .i64 0, .int .u32 0] 46)).alloc (.cells #[.int .u32 (R 0), .int .u32 (R 1), .int .u32 (R 2), .int .u32 (R 3), .int .u32 (R 4), .int .u32 (R 5), .int .u32 (R 6), .int .u32 (R 7), .int .u32 nx, .int .u32 (f % 16)] 72) = WB at nx1 nt1 nu1 lT M1 U1 S1 ⊢
  have X1 := Lib.hid nx1
  have T1 := Lib.hid nt1
  clear nx1 nt1 nu1
  have na00 : ¬ w1.heap.size = w.heap.size := by omega
  have nb00 : ¬ w.heap.size = w1.heap.size := by omega
  have na01 : ¬ w1.heap.size = w.heap.size + 1 := by omega
  have nb01 : ¬ w.heap.size + 1 = w1.heap.size := by omega
  have na02 : ¬ w1.heap.size = w.heap.size + 1 + 1 := by omega
  have nb02 : ¬ w.heap.size + 1 + 1 = w1.heap.size := by omega
  have na20 : ¬ w1.heap.size + 1 + 1 = w.heap.size := by omega
  have nb20 : ¬ w.heap.size = w1.heap.size + 1 + 1 := by omega
  have na21 : ¬ w1.heap.size + 1 + 1 = w.heap.size + 1 := by omega
  have nb21 : ¬ w.heap.size + 1 = w1.heap.size + 1 + 1 := by omega
  have na22 : ¬ w1.heap.size + 1 + 1 = w.heap.size + 1 + 1 := by omega
  have nb22 : ¬ w.heap.size + 1 + 1 = w1.heap.size + 1 + 1 := by omega
  have x0 := X1.out.c0
  have x1 := X1.out.c1
  have x2 := X1.out.c2
  have x3 := X1.out.c3
  have x4 := X1.out.c4
  have lX := X1.out.l
  have sd := S1.out.s d hd
  have ss := S1.out.s s hs'
  have s9 := S1.out.s9
  have td := T1.out.r d hd
  have t8 := T1.out.c8
  have t9 := T1.out.c9
  have zd := T1.out.z d
  have z8 := T1.out.z 8
  have z9 := T1.out.z 9
  go_upto_region 57 with (go_at_call 83; (with_reducible refine (CH.out _).mono ?_); rintro e w3 ⟨rfl, b3⟩; have ub := Upto.of_below (S := fun _ => False) b3; have T1 := Lib.hid (T1.out.upto ub id); have S1 := Lib.hid (S1.out.upto ub id id id); have X1 := Lib.hid (X1.out.upto ub id); have M1 := Lib.hid (M1.out.upto ub (fun _ _ => id)); have U1 := Lib.hid (U1.out.trans (ub.mono (T := P.has) fun _ _ h => h.elim)); clear ub b3 x0 x1 x2 x3 x4 lX sd ss s9 td t8 t9 zd z8 z9; have x0 := X1.out.c0; have x1 := X1.out.c1; have x2 := X1.out.c2; have x3 := X1.out.c3; have x4 := X1.out.c4; have lX := X1.out.l; have sd := S1.out.s d hd; have ss := S1.out.s s hs'; have s9 := S1.out.s9; have td := T1.out.r d hd; have t8 := T1.out.c8; have t9 := T1.out.c9; have zd := T1.out.z d; have z8 := T1.out.z 8; have z9 := T1.out.z 9)
  have t4 := T1.out.setPc (w32 (nx + m))
  clear x0 x1 x2 x3 x4 lX sd ss s9 td t8 t9 zd z8 z9
  have m4 : RM P M (w3.setCell ⟨w1.heap.size + 1 + 1, 8, none⟩ (.int .u32 (w32 (nx + m)))) := by repeat (first | exact M1.out | apply RM.drew | refine rm_setA ?_ (hW0.out _ (by omega)))
  have u4 : Upto P.has w (w3.setCell ⟨w1.heap.size + 1 + 1, 8, none⟩ (.int .u32 (w32 (nx + m)))) := by repeat (first | exact U1.out | apply Upto.drew | refine upto_big ?_ (by omega))
  have s4 : S3 w.heap.size R pc (f % 16) (w3.setCell ⟨w1.heap.size + 1 + 1, 8, none⟩ (.int .u32 (w32 (nx + m)))) := by repeat (first | exact S1.out | apply S3.drew | refine s3_off ?_ (by omega) (by omega) (by omega))
  generalize w3.setCell ⟨w1.heap.size + 1 + 1, 8, none⟩ (.int .u32 (w32 (nx + m))) = W3 at t4 m4 u4 s4  ⊢
  have T4 := Lib.hid t4
  have M4 := Lib.hid m4
  have U4 := Lib.hid u4
  have S4 := Lib.hid s4
  clear t4 m4 u4 s4
  obtain ⟨a0, a1, a2, a3, a4, a5, a6, a7, a8, a9⟩ := T4.out.all
  have lT4 := T4.out.l
  obtain ⟨q0, y0, q1, y1, q2, y2, q3, y3, q4, y4, q5, y5, q6, y6, q7, y7, q8, y8, q9, y9, r0, w0', r1, w1'⟩ := S4.out.q.all
  go_wp2_with fail
  clear q0 y0 q1 y1 q2 y2 q3 y3 q4 y4 q5 y5 q6 y6 q7 y7 q8 y8 q9 y9 r0 w0' r1 w1'
  clear a0 a1 a2 a3 a4 a5 a6 a7 a8 a9
  obtain ⟨u, t, fq, v0, v1, v2, v3, v4, v5, v6, v7, v8, v9, t0, t1⟩ := S4.out.q.put (.int .u32 ((R) 0)) (.int .u32 ((R) 1)) (.int .u32 ((R) 2)) (.int .u32 ((R) 3)) (.int .u32 ((R) 4)) (.int .u32 ((R) 5)) (.int .u32 ((R) 6)) (.int .u32 ((R) 7)) (.int .u32 (w32 (nx + m))) (.int .u32 (f % 16)) (.int .i64 0) (.int .u32 0)
  have bp := (upto_put (h := w.heap.size + 1) (g := w.heap.size + 1 + 1) U4.out (.inr (by omega)) (.inr (by omega)) (.int .u32 ((R) 0)) (.int .u32 ((R) 1)) (.int .u32 ((R) 2)) (.int .u32 ((R) 3)) (.int .u32 ((R) 4)) (.int .u32 ((R) 5)) (.int .u32 ((R) 6)) (.int .u32 ((R) 7)) (.int .u32 (w32 (nx + m))) (.int .u32 (f % 16)) (.int .i64 0) (.int .u32 0))
  have hp := (M4.out.upto (upto_put (h := w.heap.size + 1) (g := w.heap.size + 1 + 1) (Upto.refl (fun i => i = w.heap.size + 1 ∨ i = w.heap.size + 1 + 1) W3) (.inl (.inl rfl)) (.inl (.inr rfl)) (.int .u32 ((R) 0)) (.int .u32 ((R) 1)) (.int .u32 ((R) 2)) (.int .u32 ((R) 3)) (.int .u32 ((R) 4)) (.int .u32 ((R) 5)) (.int .u32 ((R) 6)) (.int .u32 ((R) 7)) (.int .u32 (w32 (nx + m))) (.int .u32 (f % 16)) (.int .i64 0) (.int .u32 0)) (fun j hj hx => hW0.out j (by rcases hx with hx | hx <;> omega) hj))
  have fq2 := fq
  clear fq
  obtain ⟨g0, g1, g2, g3, g4, g5, g6, g7, g8, g9, o0, o1⟩ := fq2.got v0 v1 v2 v3 v4 v5 v6 v7 v8 v9 t0 t1
  exact bodyPost_ret (v := outV ⟨M, R, w32 (nx + m), f % 16, 0, 0⟩) (by simp [outV, stV, results, Try.results36, go_sem, g0, g1, g2, g3, g4, g5, g6, g7, g8, g9, o0, o1]) rfl ⟨rfl, hp, bp⟩
set_option maxRecDepth 100000 in
set_option maxHeartbeats 16000000 in
theorem rs_13f (P : RP) (M : MM) (d s : Nat) (o m n : Int) (w : World) (h : RM P M w) (hM : MOk M) (hR : ROk R) (c0 : 0 ≤ pc) (c1 : pc < 4294967296) (f0 : 0 ≤ f) (f1 : f < 4294967296) (n0 : 0 ≤ n) (n1 : n < 8) (hd : d < 8) (hs' : s < 8) (o0 : 0 ≤ o) (o1 : o < 16) (m0 : 0 ≤ m) (m1 : m < 4294967296)
    (ht : Fl.hd o (f % 16) = false) (hs : insV M pc = .tuple #[agg5 13 d s o m, .int .i64 n, .agg #[.int .i64 0, .int .u32 0]]) :
    Calls Try.prog 36 #[.pointer (some ⟨P.q, 0, none⟩), stV R pc f] w fun e w' => e = .returned (outV ⟨M, R, w32 (pc + n), f % 16, 0, 0⟩) ∧ RM P M w' ∧ Upto P.has w w' := by
  have CF := Lib.hid (fun w h => rins_all P M pc w h hM c0 c1)
  rw [hs] at CF
  have en : n % 4294967296 = n := by omega
  have ew : (pc + n) % 4294967296 = w32 (pc + n) := rfl
  have S0 := S3.new w R pc (f % 16)
  have B0 : Below w.heap.size w (((w.alloc (.cells (stL R pc (f % 16)) 72)).alloc (.cells Z10 72)).alloc (.cells Z2 46)) := (((Below.refl _ _).alloc (Nat.le_refl _) _).alloc (by simp) _).alloc (by simp; omega) _
  have HH := Lib.hid (h.upto (Upto.of_below (S := fun _ => False) B0) (fun _ _ => id))
  unfold stL Z10 Z2 at S0 B0 HH
  unfold agg5 at CF
  unfold stV
  have hW0 := Lib.hid (fun i (hi : w.heap.size ≤ i) (hp : P.has i) => show False by have := rm_lt h hp; omega)
  have hd0 : (0 : Int) ≤ (d : Int) := by omega
  have hd1 : (d : Int) < 8 := by omega
  have hs0 : (0 : Int) ≤ (s : Int) := by omega
  have hs1 : (s : Int) < 8 := by omega
  have nxb := w32_bd (pc + n)
  obtain ⟨nx, hnx⟩ : ∃ nx, w32 (pc + n) = nx := ⟨_, rfl⟩
  rw [hnx] at ew nxb
  try rw [hnx]
  clear h hs
  go_enter Try.func36, Try.ntmps36
  go_wp2_with fail
  generalize ((w.alloc (.cells #[.int .u32 (R 0), .int .u32 (R 1), .int .u32 (R 2), .int .u32 (R 3), .int .u32 (R 4), .int .u32 (R 5), .int .u32 (R 6), .int .u32 (R 7), .int .u32 pc, .int .u32 (f % 16)] 72)).alloc (.cells #[.int .u32 0, .int .u32 0, .int .u32 0, .int .u32 0, .int .u32 0, .int .u32 0, .int .u32 0, .int .u32 0, .int .u32 0, .int .u32 0] 72)).alloc (.cells #[.int .i64 0, .int .u32 0] 46) = WA at S0 B0 HH ⊢
  have HS := Lib.hid S0
  have HB := Lib.hid B0
  clear S0 B0
  go_upto_region 8 with (go_at_call 82; (with_reducible refine (CF.out _ HH.out).mono ?_); rintro e w1 ⟨rfl, b1⟩; have HS1 := Lib.hid (HS.out.below b1); have HH1 := Lib.hid (HH.out.upto (Upto.of_below (S := fun _ => False) b1) (fun _ _ => id)); have lw := HS1.out.q.lb; obtain ⟨s0, s1, s2, s3, s4, s5, s6, s7, s8, s9⟩ := HS1.out.all; have lh : w.heap.size < w1.heap.size := by omega)
  have CH := Lib.hid (fun w => rholds_any o (f % 16) w (by omega) (by omega))
  rw [ht] at CH
  clear ht
  have ev : (nx + m) % 4294967296 = w32 (nx + m) := rfl
  obtain ⟨nx1, nt1, nu1⟩ := st_new w1 R nx (f % 16) 13 d s o m
  have lT := nt1.l
  have M1 := Lib.hid (HH1.out.upto nu1 (fun _ _ => id))
  have U1 := Lib.hid ((Upto.of_below (S := P.has) (HB.out.trans (b1.mono HB.out.size))).trans (nu1.mono (T := P.has) fun _ _ h => h.elim))
  have S1 := Lib.hid (HS1.out.upto nu1 id id id)
  clear s0 s1 s2 s3 s4 s5 s6 s7 s8 s9
  unfold stL Z2 at nx1 nt1 nu1 lT M1 U1 S1
  generalize ((w1.alloc (.cells #[.int .i64 13, .int .i64 d, .int .i64 s, .int .i64 o, .int .u32 m] 149)).alloc (.cells #[.int .i64 0, .int .u32 0] 46)).alloc (.cells #[.int .u32 (R 0), .int .u32 (R 1), .int .u32 (R 2), .int .u32 (R 3), .int .u32 (R 4), .int .u32 (R 5), .int .u32 (R 6), .int .u32 (R 7), .int .u32 nx, .int .u32 (f % 16)] 72) = WB at nx1 nt1 nu1 lT M1 U1 S1 ⊢
  have X1 := Lib.hid nx1
  have T1 := Lib.hid nt1
  clear nx1 nt1 nu1
  have na00 : ¬ w1.heap.size = w.heap.size := by omega
  have nb00 : ¬ w.heap.size = w1.heap.size := by omega
  have na01 : ¬ w1.heap.size = w.heap.size + 1 := by omega
  have nb01 : ¬ w.heap.size + 1 = w1.heap.size := by omega
  have na02 : ¬ w1.heap.size = w.heap.size + 1 + 1 := by omega
  have nb02 : ¬ w.heap.size + 1 + 1 = w1.heap.size := by omega
  have na20 : ¬ w1.heap.size + 1 + 1 = w.heap.size := by omega
  have nb20 : ¬ w.heap.size = w1.heap.size + 1 + 1 := by omega
  have na21 : ¬ w1.heap.size + 1 + 1 = w.heap.size + 1 := by omega
  have nb21 : ¬ w.heap.size + 1 = w1.heap.size + 1 + 1 := by omega
  have na22 : ¬ w1.heap.size + 1 + 1 = w.heap.size + 1 + 1 := by omega
  have nb22 : ¬ w.heap.size + 1 + 1 = w1.heap.size + 1 + 1 := by omega
  have x0 := X1.out.c0
  have x1 := X1.out.c1
  have x2 := X1.out.c2
  have x3 := X1.out.c3
  have x4 := X1.out.c4
  have lX := X1.out.l
  have sd := S1.out.s d hd
  have ss := S1.out.s s hs'
  have s9 := S1.out.s9
  have td := T1.out.r d hd
  have t8 := T1.out.c8
  have t9 := T1.out.c9
  have zd := T1.out.z d
  have z8 := T1.out.z 8
  have z9 := T1.out.z 9
  go_upto_region 57 with (go_at_call 83; (with_reducible refine (CH.out _).mono ?_); rintro e w3 ⟨rfl, b3⟩; have ub := Upto.of_below (S := fun _ => False) b3; have T1 := Lib.hid (T1.out.upto ub id); have S1 := Lib.hid (S1.out.upto ub id id id); have X1 := Lib.hid (X1.out.upto ub id); have M1 := Lib.hid (M1.out.upto ub (fun _ _ => id)); have U1 := Lib.hid (U1.out.trans (ub.mono (T := P.has) fun _ _ h => h.elim)); clear ub b3 x0 x1 x2 x3 x4 lX sd ss s9 td t8 t9 zd z8 z9; have x0 := X1.out.c0; have x1 := X1.out.c1; have x2 := X1.out.c2; have x3 := X1.out.c3; have x4 := X1.out.c4; have lX := X1.out.l; have sd := S1.out.s d hd; have ss := S1.out.s s hs'; have s9 := S1.out.s9; have td := T1.out.r d hd; have t8 := T1.out.c8; have t9 := T1.out.c9; have zd := T1.out.z d; have z8 := T1.out.z 8; have z9 := T1.out.z 9)
  have t4 := T1.out
  clear x0 x1 x2 x3 x4 lX sd ss s9 td t8 t9 zd z8 z9
  have m4 : RM P M (w3) := by repeat (first | exact M1.out | apply RM.drew | refine rm_setA ?_ (hW0.out _ (by omega)))
  have u4 : Upto P.has w (w3) := by repeat (first | exact U1.out | apply Upto.drew | refine upto_big ?_ (by omega))
  have s4 : S3 w.heap.size R pc (f % 16) (w3) := by repeat (first | exact S1.out | apply S3.drew | refine s3_off ?_ (by omega) (by omega) (by omega))
  generalize w3 = W3 at t4 m4 u4 s4  ⊢
  have T4 := Lib.hid t4
  have M4 := Lib.hid m4
  have U4 := Lib.hid u4
  have S4 := Lib.hid s4
  clear t4 m4 u4 s4
  obtain ⟨a0, a1, a2, a3, a4, a5, a6, a7, a8, a9⟩ := T4.out.all
  have lT4 := T4.out.l
  obtain ⟨q0, y0, q1, y1, q2, y2, q3, y3, q4, y4, q5, y5, q6, y6, q7, y7, q8, y8, q9, y9, r0, w0', r1, w1'⟩ := S4.out.q.all
  go_wp2_with fail
  clear q0 y0 q1 y1 q2 y2 q3 y3 q4 y4 q5 y5 q6 y6 q7 y7 q8 y8 q9 y9 r0 w0' r1 w1'
  clear a0 a1 a2 a3 a4 a5 a6 a7 a8 a9
  obtain ⟨u, t, fq, v0, v1, v2, v3, v4, v5, v6, v7, v8, v9, t0, t1⟩ := S4.out.q.put (.int .u32 ((R) 0)) (.int .u32 ((R) 1)) (.int .u32 ((R) 2)) (.int .u32 ((R) 3)) (.int .u32 ((R) 4)) (.int .u32 ((R) 5)) (.int .u32 ((R) 6)) (.int .u32 ((R) 7)) (.int .u32 (nx)) (.int .u32 (f % 16)) (.int .i64 0) (.int .u32 0)
  have bp := (upto_put (h := w.heap.size + 1) (g := w.heap.size + 1 + 1) U4.out (.inr (by omega)) (.inr (by omega)) (.int .u32 ((R) 0)) (.int .u32 ((R) 1)) (.int .u32 ((R) 2)) (.int .u32 ((R) 3)) (.int .u32 ((R) 4)) (.int .u32 ((R) 5)) (.int .u32 ((R) 6)) (.int .u32 ((R) 7)) (.int .u32 (nx)) (.int .u32 (f % 16)) (.int .i64 0) (.int .u32 0))
  have hp := (M4.out.upto (upto_put (h := w.heap.size + 1) (g := w.heap.size + 1 + 1) (Upto.refl (fun i => i = w.heap.size + 1 ∨ i = w.heap.size + 1 + 1) W3) (.inl (.inl rfl)) (.inl (.inr rfl)) (.int .u32 ((R) 0)) (.int .u32 ((R) 1)) (.int .u32 ((R) 2)) (.int .u32 ((R) 3)) (.int .u32 ((R) 4)) (.int .u32 ((R) 5)) (.int .u32 ((R) 6)) (.int .u32 ((R) 7)) (.int .u32 (nx)) (.int .u32 (f % 16)) (.int .i64 0) (.int .u32 0)) (fun j hj hx => hW0.out j (by rcases hx with hx | hx <;> omega) hj))
  have fq2 := fq
  clear fq
  obtain ⟨g0, g1, g2, g3, g4, g5, g6, g7, g8, g9, o0, o1⟩ := fq2.got v0 v1 v2 v3 v4 v5 v6 v7 v8 v9 t0 t1
  exact bodyPost_ret (v := outV ⟨M, R, nx, f % 16, 0, 0⟩) (by simp [outV, stV, results, Try.results36, go_sem, g0, g1, g2, g3, g4, g5, g6, g7, g8, g9, o0, o1]) rfl ⟨rfl, hp, bp⟩
set_option maxRecDepth 100000 in
set_option maxHeartbeats 16000000 in
theorem rs_16 (P : RP) (M : MM) (d s : Nat) (o m n : Int) (w : World) (h : RM P M w) (hM : MOk M) (hR : ROk R) (c0 : 0 ≤ pc) (c1 : pc < 4294967296) (f0 : 0 ≤ f) (f1 : f < 4294967296) (n0 : 0 ≤ n) (n1 : n < 8) (hd : d < 8) (hs' : s < 8) (o0 : 0 ≤ o) (o1 : o < 16) (m0 : 0 ≤ m) (m1 : m < 4294967296)
    (hs : insV M pc = .tuple #[agg5 16 d s o m, .int .i64 n, .agg #[.int .i64 0, .int .u32 0]]) :
    Calls Try.prog 36 #[.pointer (some ⟨P.q, 0, none⟩), stV R pc f] w fun e w' => e = .returned (outV ⟨M, upd R d m, w32 (pc + n), f % 16, 0, 0⟩) ∧ RM P M w' ∧ Upto P.has w w' := by
  have CF := Lib.hid (fun w h => rins_all P M pc w h hM c0 c1)
  rw [hs] at CF
  have en : n % 4294967296 = n := by omega
  have ew : (pc + n) % 4294967296 = w32 (pc + n) := rfl
  have S0 := S3.new w R pc (f % 16)
  have B0 : Below w.heap.size w (((w.alloc (.cells (stL R pc (f % 16)) 72)).alloc (.cells Z10 72)).alloc (.cells Z2 46)) := (((Below.refl _ _).alloc (Nat.le_refl _) _).alloc (by simp) _).alloc (by simp; omega) _
  have HH := Lib.hid (h.upto (Upto.of_below (S := fun _ => False) B0) (fun _ _ => id))
  unfold stL Z10 Z2 at S0 B0 HH
  unfold agg5 at CF
  unfold stV
  have hW0 := Lib.hid (fun i (hi : w.heap.size ≤ i) (hp : P.has i) => show False by have := rm_lt h hp; omega)
  have hd0 : (0 : Int) ≤ (d : Int) := by omega
  have hd1 : (d : Int) < 8 := by omega
  have hs0 : (0 : Int) ≤ (s : Int) := by omega
  have hs1 : (s : Int) < 8 := by omega
  have nxb := w32_bd (pc + n)
  obtain ⟨nx, hnx⟩ : ∃ nx, w32 (pc + n) = nx := ⟨_, rfl⟩
  rw [hnx] at ew nxb
  try rw [hnx]
  clear h hs
  go_enter Try.func36, Try.ntmps36
  go_wp2_with fail
  generalize ((w.alloc (.cells #[.int .u32 (R 0), .int .u32 (R 1), .int .u32 (R 2), .int .u32 (R 3), .int .u32 (R 4), .int .u32 (R 5), .int .u32 (R 6), .int .u32 (R 7), .int .u32 pc, .int .u32 (f % 16)] 72)).alloc (.cells #[.int .u32 0, .int .u32 0, .int .u32 0, .int .u32 0, .int .u32 0, .int .u32 0, .int .u32 0, .int .u32 0, .int .u32 0, .int .u32 0] 72)).alloc (.cells #[.int .i64 0, .int .u32 0] 46) = WA at S0 B0 HH ⊢
  have HS := Lib.hid S0
  have HB := Lib.hid B0
  clear S0 B0
  go_upto_region 8 with (go_at_call 82; (with_reducible refine (CF.out _ HH.out).mono ?_); rintro e w1 ⟨rfl, b1⟩; have HS1 := Lib.hid (HS.out.below b1); have HH1 := Lib.hid (HH.out.upto (Upto.of_below (S := fun _ => False) b1) (fun _ _ => id)); have lw := HS1.out.q.lb; obtain ⟨s0, s1, s2, s3, s4, s5, s6, s7, s8, s9⟩ := HS1.out.all; have lh : w.heap.size < w1.heap.size := by omega)
  obtain ⟨nx1, nt1, nu1⟩ := st_new w1 R nx (f % 16) 16 d s o m
  have lT := nt1.l
  have M1 := Lib.hid (HH1.out.upto nu1 (fun _ _ => id))
  have U1 := Lib.hid ((Upto.of_below (S := P.has) (HB.out.trans (b1.mono HB.out.size))).trans (nu1.mono (T := P.has) fun _ _ h => h.elim))
  have S1 := Lib.hid (HS1.out.upto nu1 id id id)
  clear s0 s1 s2 s3 s4 s5 s6 s7 s8 s9
  unfold stL Z2 at nx1 nt1 nu1 lT M1 U1 S1
  generalize ((w1.alloc (.cells #[.int .i64 16, .int .i64 d, .int .i64 s, .int .i64 o, .int .u32 m] 149)).alloc (.cells #[.int .i64 0, .int .u32 0] 46)).alloc (.cells #[.int .u32 (R 0), .int .u32 (R 1), .int .u32 (R 2), .int .u32 (R 3), .int .u32 (R 4), .int .u32 (R 5), .int .u32 (R 6), .int .u32 (R 7), .int .u32 nx, .int .u32 (f % 16)] 72) = WB at nx1 nt1 nu1 lT M1 U1 S1 ⊢
  have X1 := Lib.hid nx1
  have T1 := Lib.hid nt1
  clear nx1 nt1 nu1
  have na00 : ¬ w1.heap.size = w.heap.size := by omega
  have nb00 : ¬ w.heap.size = w1.heap.size := by omega
  have na01 : ¬ w1.heap.size = w.heap.size + 1 := by omega
  have nb01 : ¬ w.heap.size + 1 = w1.heap.size := by omega
  have na02 : ¬ w1.heap.size = w.heap.size + 1 + 1 := by omega
  have nb02 : ¬ w.heap.size + 1 + 1 = w1.heap.size := by omega
  have na20 : ¬ w1.heap.size + 1 + 1 = w.heap.size := by omega
  have nb20 : ¬ w.heap.size = w1.heap.size + 1 + 1 := by omega
  have na21 : ¬ w1.heap.size + 1 + 1 = w.heap.size + 1 := by omega
  have nb21 : ¬ w.heap.size + 1 = w1.heap.size + 1 + 1 := by omega
  have na22 : ¬ w1.heap.size + 1 + 1 = w.heap.size + 1 + 1 := by omega
  have nb22 : ¬ w.heap.size + 1 + 1 = w1.heap.size + 1 + 1 := by omega
  have x0 := X1.out.c0
  have x1 := X1.out.c1
  have x2 := X1.out.c2
  have x3 := X1.out.c3
  have x4 := X1.out.c4
  have lX := X1.out.l
  have sd := S1.out.s d hd
  have ss := S1.out.s s hs'
  have s9 := S1.out.s9
  have td := T1.out.r d hd
  have t8 := T1.out.c8
  have t9 := T1.out.c9
  have zd := T1.out.z d
  have z8 := T1.out.z 8
  have z9 := T1.out.z 9
  go_upto_region 57 with fail
  have t4 := T1.out.setR d hd m
  clear x0 x1 x2 x3 x4 lX sd ss s9 td t8 t9 zd z8 z9
  have m4 : RM P M (WB.setCell ⟨w1.heap.size + 1 + 1, d, none⟩ (.int .u32 (m))) := by repeat (first | exact M1.out | apply RM.drew | refine rm_setA ?_ (hW0.out _ (by omega)))
  have u4 : Upto P.has w (WB.setCell ⟨w1.heap.size + 1 + 1, d, none⟩ (.int .u32 (m))) := by repeat (first | exact U1.out | apply Upto.drew | refine upto_big ?_ (by omega))
  have s4 : S3 w.heap.size R pc (f % 16) (WB.setCell ⟨w1.heap.size + 1 + 1, d, none⟩ (.int .u32 (m))) := by repeat (first | exact S1.out | apply S3.drew | refine s3_off ?_ (by omega) (by omega) (by omega))
  generalize WB.setCell ⟨w1.heap.size + 1 + 1, d, none⟩ (.int .u32 (m)) = W3 at t4 m4 u4 s4  ⊢
  have T4 := Lib.hid t4
  have M4 := Lib.hid m4
  have U4 := Lib.hid u4
  have S4 := Lib.hid s4
  clear t4 m4 u4 s4
  obtain ⟨a0, a1, a2, a3, a4, a5, a6, a7, a8, a9⟩ := T4.out.all
  have lT4 := T4.out.l
  obtain ⟨q0, y0, q1, y1, q2, y2, q3, y3, q4, y4, q5, y5, q6, y6, q7, y7, q8, y8, q9, y9, r0, w0', r1, w1'⟩ := S4.out.q.all
  go_wp2_with fail
  clear q0 y0 q1 y1 q2 y2 q3 y3 q4 y4 q5 y5 q6 y6 q7 y7 q8 y8 q9 y9 r0 w0' r1 w1'
  clear a0 a1 a2 a3 a4 a5 a6 a7 a8 a9
  obtain ⟨u, t, fq, v0, v1, v2, v3, v4, v5, v6, v7, v8, v9, t0, t1⟩ := S4.out.q.put (.int .u32 ((upd R d m) 0)) (.int .u32 ((upd R d m) 1)) (.int .u32 ((upd R d m) 2)) (.int .u32 ((upd R d m) 3)) (.int .u32 ((upd R d m) 4)) (.int .u32 ((upd R d m) 5)) (.int .u32 ((upd R d m) 6)) (.int .u32 ((upd R d m) 7)) (.int .u32 (nx)) (.int .u32 (f % 16)) (.int .i64 0) (.int .u32 0)
  have bp := (upto_put (h := w.heap.size + 1) (g := w.heap.size + 1 + 1) U4.out (.inr (by omega)) (.inr (by omega)) (.int .u32 ((upd R d m) 0)) (.int .u32 ((upd R d m) 1)) (.int .u32 ((upd R d m) 2)) (.int .u32 ((upd R d m) 3)) (.int .u32 ((upd R d m) 4)) (.int .u32 ((upd R d m) 5)) (.int .u32 ((upd R d m) 6)) (.int .u32 ((upd R d m) 7)) (.int .u32 (nx)) (.int .u32 (f % 16)) (.int .i64 0) (.int .u32 0))
  have hp := (M4.out.upto (upto_put (h := w.heap.size + 1) (g := w.heap.size + 1 + 1) (Upto.refl (fun i => i = w.heap.size + 1 ∨ i = w.heap.size + 1 + 1) W3) (.inl (.inl rfl)) (.inl (.inr rfl)) (.int .u32 ((upd R d m) 0)) (.int .u32 ((upd R d m) 1)) (.int .u32 ((upd R d m) 2)) (.int .u32 ((upd R d m) 3)) (.int .u32 ((upd R d m) 4)) (.int .u32 ((upd R d m) 5)) (.int .u32 ((upd R d m) 6)) (.int .u32 ((upd R d m) 7)) (.int .u32 (nx)) (.int .u32 (f % 16)) (.int .i64 0) (.int .u32 0)) (fun j hj hx => hW0.out j (by rcases hx with hx | hx <;> omega) hj))
  have fq2 := fq
  clear fq
  obtain ⟨g0, g1, g2, g3, g4, g5, g6, g7, g8, g9, o0, o1⟩ := fq2.got v0 v1 v2 v3 v4 v5 v6 v7 v8 v9 t0 t1
  exact bodyPost_ret (v := outV ⟨M, upd R d m, nx, f % 16, 0, 0⟩) (by simp [outV, stV, results, Try.results36, go_sem, g0, g1, g2, g3, g4, g5, g6, g7, g8, g9, o0, o1]) rfl ⟨rfl, hp, bp⟩
set_option maxRecDepth 100000 in
set_option maxHeartbeats 16000000 in
theorem rs_20 (P : RP) (M : MM) (d s : Nat) (o m n : Int) (w : World) (h : RM P M w) (hM : MOk M) (hR : ROk R) (c0 : 0 ≤ pc) (c1 : pc < 4294967296) (f0 : 0 ≤ f) (f1 : f < 4294967296) (n0 : 0 ≤ n) (n1 : n < 8) (hd : d < 8) (hs' : s < 8) (o0 : 0 ≤ o) (o1 : o < 16) (m0 : 0 ≤ m) (m1 : m < 4294967296)
    (hs : insV M pc = .tuple #[agg5 20 d s o m, .int .i64 n, .agg #[.int .i64 0, .int .u32 0]]) :
    Calls Try.prog 36 #[.pointer (some ⟨P.q, 0, none⟩), stV R pc f] w fun e w' => e = .returned (outV ⟨M, upd R d (4294967295 - R d), w32 (pc + n), f % 16, 0, 0⟩) ∧ RM P M w' ∧ Upto P.has w w' := by
  have CF := Lib.hid (fun w h => rins_all P M pc w h hM c0 c1)
  rw [hs] at CF
  have en : n % 4294967296 = n := by omega
  have ew : (pc + n) % 4294967296 = w32 (pc + n) := rfl
  have S0 := S3.new w R pc (f % 16)
  have B0 : Below w.heap.size w (((w.alloc (.cells (stL R pc (f % 16)) 72)).alloc (.cells Z10 72)).alloc (.cells Z2 46)) := (((Below.refl _ _).alloc (Nat.le_refl _) _).alloc (by simp) _).alloc (by simp; omega) _
  have HH := Lib.hid (h.upto (Upto.of_below (S := fun _ => False) B0) (fun _ _ => id))
  unfold stL Z10 Z2 at S0 B0 HH
  unfold agg5 at CF
  unfold stV
  have hW0 := Lib.hid (fun i (hi : w.heap.size ≤ i) (hp : P.has i) => show False by have := rm_lt h hp; omega)
  have hd0 : (0 : Int) ≤ (d : Int) := by omega
  have hd1 : (d : Int) < 8 := by omega
  have hs0 : (0 : Int) ≤ (s : Int) := by omega
  have hs1 : (s : Int) < 8 := by omega
  have nxb := w32_bd (pc + n)
  obtain ⟨nx, hnx⟩ : ∃ nx, w32 (pc + n) = nx := ⟨_, rfl⟩
  rw [hnx] at ew nxb
  try rw [hnx]
  clear h hs
  go_enter Try.func36, Try.ntmps36
  go_wp2_with fail
  generalize ((w.alloc (.cells #[.int .u32 (R 0), .int .u32 (R 1), .int .u32 (R 2), .int .u32 (R 3), .int .u32 (R 4), .int .u32 (R 5), .int .u32 (R 6), .int .u32 (R 7), .int .u32 pc, .int .u32 (f % 16)] 72)).alloc (.cells #[.int .u32 0, .int .u32 0, .int .u32 0, .int .u32 0, .int .u32 0, .int .u32 0, .int .u32 0, .int .u32 0, .int .u32 0, .int .u32 0] 72)).alloc (.cells #[.int .i64 0, .int .u32 0] 46) = WA at S0 B0 HH ⊢
  have HS := Lib.hid S0
  have HB := Lib.hid B0
  clear S0 B0
  go_upto_region 8 with (go_at_call 82; (with_reducible refine (CF.out _ HH.out).mono ?_); rintro e w1 ⟨rfl, b1⟩; have HS1 := Lib.hid (HS.out.below b1); have HH1 := Lib.hid (HH.out.upto (Upto.of_below (S := fun _ => False) b1) (fun _ _ => id)); have lw := HS1.out.q.lb; obtain ⟨s0, s1, s2, s3, s4, s5, s6, s7, s8, s9⟩ := HS1.out.all; have lh : w.heap.size < w1.heap.size := by omega)
  have hr := hR d
  have ev : (4294967295 - R d) % 4294967296 = 4294967295 - R d := by omega
  obtain ⟨nx1, nt1, nu1⟩ := st_new w1 R nx (f % 16) 20 d s o m
  have lT := nt1.l
  have M1 := Lib.hid (HH1.out.upto nu1 (fun _ _ => id))
  have U1 := Lib.hid ((Upto.of_below (S := P.has) (HB.out.trans (b1.mono HB.out.size))).trans (nu1.mono (T := P.has) fun _ _ h => h.elim))
  have S1 := Lib.hid (HS1.out.upto nu1 id id id)
  clear s0 s1 s2 s3 s4 s5 s6 s7 s8 s9
  unfold stL Z2 at nx1 nt1 nu1 lT M1 U1 S1
  generalize ((w1.alloc (.cells #[.int .i64 20, .int .i64 d, .int .i64 s, .int .i64 o, .int .u32 m] 149)).alloc (.cells #[.int .i64 0, .int .u32 0] 46)).alloc (.cells #[.int .u32 (R 0), .int .u32 (R 1), .int .u32 (R 2), .int .u32 (R 3), .int .u32 (R 4), .int .u32 (R 5), .int .u32 (R 6), .int .u32 (R 7), .int .u32 nx, .int .u32 (f % 16)] 72) = WB at nx1 nt1 nu1 lT M1 U1 S1 ⊢
  have X1 := Lib.hid nx1
  have T1 := Lib.hid nt1
  clear nx1 nt1 nu1
  have na00 : ¬ w1.heap.size = w.heap.size := by omega
  have nb00 : ¬ w.heap.size = w1.heap.size := by omega
  have na01 : ¬ w1.heap.size = w.heap.size + 1 := by omega
  have nb01 : ¬ w.heap.size + 1 = w1.heap.size := by omega
  have na02 : ¬ w1.heap.size = w.heap.size + 1 + 1 := by omega
  have nb02 : ¬ w.heap.size + 1 + 1 = w1.heap.size := by omega
  have na20 : ¬ w1.heap.size + 1 + 1 = w.heap.size := by omega
  have nb20 : ¬ w.heap.size = w1.heap.size + 1 + 1 := by omega
  have na21 : ¬ w1.heap.size + 1 + 1 = w.heap.size + 1 := by omega
  have nb21 : ¬ w.heap.size + 1 = w1.heap.size + 1 + 1 := by omega
  have na22 : ¬ w1.heap.size + 1 + 1 = w.heap.size + 1 + 1 := by omega
  have nb22 : ¬ w.heap.size + 1 + 1 = w1.heap.size + 1 + 1 := by omega
  have x0 := X1.out.c0
  have x1 := X1.out.c1
  have x2 := X1.out.c2
  have x3 := X1.out.c3
  have x4 := X1.out.c4
  have lX := X1.out.l
  have sd := S1.out.s d hd
  have ss := S1.out.s s hs'
  have s9 := S1.out.s9
  have td := T1.out.r d hd
  have t8 := T1.out.c8
  have t9 := T1.out.c9
  have zd := T1.out.z d
  have z8 := T1.out.z 8
  have z9 := T1.out.z 9
  go_upto_region 57 with fail
  have t4 := T1.out.setR d hd (4294967295 - R d)
  clear x0 x1 x2 x3 x4 lX sd ss s9 td t8 t9 zd z8 z9
  have m4 : RM P M (WB.setCell ⟨w1.heap.size + 1 + 1, d, none⟩ (.int .u32 (4294967295 - R d))) := by repeat (first | exact M1.out | apply RM.drew | refine rm_setA ?_ (hW0.out _ (by omega)))
  have u4 : Upto P.has w (WB.setCell ⟨w1.heap.size + 1 + 1, d, none⟩ (.int .u32 (4294967295 - R d))) := by repeat (first | exact U1.out | apply Upto.drew | refine upto_big ?_ (by omega))
  have s4 : S3 w.heap.size R pc (f % 16) (WB.setCell ⟨w1.heap.size + 1 + 1, d, none⟩ (.int .u32 (4294967295 - R d))) := by repeat (first | exact S1.out | apply S3.drew | refine s3_off ?_ (by omega) (by omega) (by omega))
  generalize WB.setCell ⟨w1.heap.size + 1 + 1, d, none⟩ (.int .u32 (4294967295 - R d)) = W3 at t4 m4 u4 s4  ⊢
  have T4 := Lib.hid t4
  have M4 := Lib.hid m4
  have U4 := Lib.hid u4
  have S4 := Lib.hid s4
  clear t4 m4 u4 s4
  obtain ⟨a0, a1, a2, a3, a4, a5, a6, a7, a8, a9⟩ := T4.out.all
  have lT4 := T4.out.l
  obtain ⟨q0, y0, q1, y1, q2, y2, q3, y3, q4, y4, q5, y5, q6, y6, q7, y7, q8, y8, q9, y9, r0, w0', r1, w1'⟩ := S4.out.q.all
  go_wp2_with fail
  clear q0 y0 q1 y1 q2 y2 q3 y3 q4 y4 q5 y5 q6 y6 q7 y7 q8 y8 q9 y9 r0 w0' r1 w1'
  clear a0 a1 a2 a3 a4 a5 a6 a7 a8 a9
  obtain ⟨u, t, fq, v0, v1, v2, v3, v4, v5, v6, v7, v8, v9, t0, t1⟩ := S4.out.q.put (.int .u32 ((upd R d (4294967295 - R d)) 0)) (.int .u32 ((upd R d (4294967295 - R d)) 1)) (.int .u32 ((upd R d (4294967295 - R d)) 2)) (.int .u32 ((upd R d (4294967295 - R d)) 3)) (.int .u32 ((upd R d (4294967295 - R d)) 4)) (.int .u32 ((upd R d (4294967295 - R d)) 5)) (.int .u32 ((upd R d (4294967295 - R d)) 6)) (.int .u32 ((upd R d (4294967295 - R d)) 7)) (.int .u32 (nx)) (.int .u32 (f % 16)) (.int .i64 0) (.int .u32 0)
  have bp := (upto_put (h := w.heap.size + 1) (g := w.heap.size + 1 + 1) U4.out (.inr (by omega)) (.inr (by omega)) (.int .u32 ((upd R d (4294967295 - R d)) 0)) (.int .u32 ((upd R d (4294967295 - R d)) 1)) (.int .u32 ((upd R d (4294967295 - R d)) 2)) (.int .u32 ((upd R d (4294967295 - R d)) 3)) (.int .u32 ((upd R d (4294967295 - R d)) 4)) (.int .u32 ((upd R d (4294967295 - R d)) 5)) (.int .u32 ((upd R d (4294967295 - R d)) 6)) (.int .u32 ((upd R d (4294967295 - R d)) 7)) (.int .u32 (nx)) (.int .u32 (f % 16)) (.int .i64 0) (.int .u32 0))
  have hp := (M4.out.upto (upto_put (h := w.heap.size + 1) (g := w.heap.size + 1 + 1) (Upto.refl (fun i => i = w.heap.size + 1 ∨ i = w.heap.size + 1 + 1) W3) (.inl (.inl rfl)) (.inl (.inr rfl)) (.int .u32 ((upd R d (4294967295 - R d)) 0)) (.int .u32 ((upd R d (4294967295 - R d)) 1)) (.int .u32 ((upd R d (4294967295 - R d)) 2)) (.int .u32 ((upd R d (4294967295 - R d)) 3)) (.int .u32 ((upd R d (4294967295 - R d)) 4)) (.int .u32 ((upd R d (4294967295 - R d)) 5)) (.int .u32 ((upd R d (4294967295 - R d)) 6)) (.int .u32 ((upd R d (4294967295 - R d)) 7)) (.int .u32 (nx)) (.int .u32 (f % 16)) (.int .i64 0) (.int .u32 0)) (fun j hj hx => hW0.out j (by rcases hx with hx | hx <;> omega) hj))
  have fq2 := fq
  clear fq
  obtain ⟨g0, g1, g2, g3, g4, g5, g6, g7, g8, g9, o0, o1⟩ := fq2.got v0 v1 v2 v3 v4 v5 v6 v7 v8 v9 t0 t1
  exact bodyPost_ret (v := outV ⟨M, upd R d (4294967295 - R d), nx, f % 16, 0, 0⟩) (by simp [outV, stV, results, Try.results36, go_sem, g0, g1, g2, g3, g4, g5, g6, g7, g8, g9, o0, o1]) rfl ⟨rfl, hp, bp⟩
end Go.Proofs.Ytcjcmnnhmajocab.St
