/- crossgrainref2's Step: operations without memory. -/
import Derived.RegionTactic
import Derived.BigRegion
import Derived.Deep.RegionWith
import Derived.Deep.RegionHeld3
import Derived.Test.YtcjcmnnhmajocabPkah
import Derived.Test.YtcjcmnnhmajocabPkai
import Derived.Test.YtcjcmnnhmajocabPkau
import Derived.Test.YtcjcmnnhmajocabPkav
import Derived.Test.YtcjcmnnhmajocabPkaw
namespace Go.Proofs.Ytcjcmnnhmajocab.St
open Go.RowKit Kt Me Fl Gu
set_option linter.unusedVariables false
set_option linter.unusedSimpArgs false
theorem st_new (w : World) (R : Nat → Int) (pc f k d s o m : Int) :
    (XB w.heap.size k d s o m (((w.alloc (.cells #[.int .i64 k, .int .i64 d, .int .i64 s, .int .i64 o, .int .u32 m] 149)).alloc (.cells Z2 46)).alloc (.cells (stL R pc f) 72))) ∧
    (SB (w.heap.size + 1 + 1) R pc f (((w.alloc (.cells #[.int .i64 k, .int .i64 d, .int .i64 s, .int .i64 o, .int .u32 m] 149)).alloc (.cells Z2 46)).alloc (.cells (stL R pc f) 72))) ∧
    Upto (fun _ => False) w (((w.alloc (.cells #[.int .i64 k, .int .i64 d, .int .i64 s, .int .i64 o, .int .u32 m] 149)).alloc (.cells Z2 46)).alloc (.cells (stL R pc f) 72)) := by
  have hu := (((Upto.refl (fun _ => False) w).alloc (.cells #[.int .i64 k, .int .i64 d, .int .i64 s, .int .i64 o, .int .u32 m] 149)).alloc (.cells Z2 46)).alloc (.cells (stL R pc f) 72)
  refine ⟨?_, ?_, hu⟩
  all_goals clear hu
  all_goals
    have x1 := XB.new w k d s o m 149
    have e1 : (w.alloc (.cells #[.int .i64 k, .int .i64 d, .int .i64 s, .int .i64 o, .int .u32 m] 149)).heap.size = w.heap.size + 1 := by simp
    generalize w.alloc (.cells #[.int .i64 k, .int .i64 d, .int .i64 s, .int .i64 o, .int .u32 m] 149) = W1 at x1 e1 ⊢
    have e2 : (W1.alloc (.cells Z2 46)).heap.size = w.heap.size + 1 + 1 := by simp [e1]
    have u2 := (Upto.refl (fun _ => False) W1).alloc (.cells Z2 46)
    generalize W1.alloc (.cells Z2 46) = W2 at e2 u2 ⊢
    have s2 := SB.new W2 R pc f 72
    have u6 := (Upto.refl (fun _ => False) W2).alloc (.cells (stL R pc f) 72)
    rw [e2] at s2
  · exact (x1.upto u2 id).upto u6 id
  · exact s2
theorem s3_off {h A i : Nat} {R : Nat → Int} {pc f : Int} {W : World} {v : Value} (a : S3 h R pc f W) (h0 : ¬ h = A) (h1 : ¬ h + 1 = A) (h2 : ¬ h + 1 + 1 = A) : S3 h R pc f (W.setCell ⟨A, i, none⟩ v) :=
  a.upto (upto_eqA (A := A) (i := i) (v := v)) h0 h1 h2
theorem S3.drew {h : Nat} {R : Nat → Int} {pc f : Int} {W : World} (a : S3 h R pc f W) : S3 h R pc f W.drew := a.upto (Upto.refl (fun _ => False) W).drew id id id
theorem keep21r {W : World} {X H T d : Nat} {x1 x3 x9 xd : Value} (hX : ¬ T = X) (hH : ¬ T = H) (h1 : W.cell? ⟨X, 1, none⟩ = some x1) (h3 : W.cell? ⟨X, 3, none⟩ = some x3) (h9 : W.cell? ⟨H, 9, none⟩ = some x9) (hdd : W.cell? ⟨T, d, none⟩ = some xd) (hz : W.frozen? ⟨T, d, none⟩ = false) (v : Value) :
    (W.setCell ⟨T, d, none⟩ v).cell? ⟨X, 1, none⟩ = some x1 ∧ (W.setCell ⟨T, d, none⟩ v).cell? ⟨X, 3, none⟩ = some x3 ∧ (W.setCell ⟨T, d, none⟩ v).cell? ⟨H, 9, none⟩ = some x9 ∧ ((W.setCell ⟨T, d, none⟩ v).cell? ⟨T, d, none⟩).isSome = true ∧ (W.setCell ⟨T, d, none⟩ v).frozen? ⟨T, d, none⟩ = false := by
  have nX : ∀ i, (⟨T, d, none⟩ : Addr) ≠ ⟨X, i, none⟩ := fun i hx => hX (congrArg Addr.block hx)
  have nH : ∀ i, (⟨T, d, none⟩ : Addr) ≠ ⟨H, i, none⟩ := fun i hx => hH (congrArg Addr.block hx)
  refine ⟨(World.cell?_setCell_other _ _ _ _ (nX _)).trans h1, (World.cell?_setCell_other _ _ _ _ (nX _)).trans h3, (World.cell?_setCell_other _ _ _ _ (nH _)).trans h9, ?_, ?_⟩
  · rw [World.cell?_setCell_same _ _ _ hdd]; rfl
  · simpa using hz
variable {R : Nat → Int} {pc f : Int}
set_option maxRecDepth 100000 in
set_option maxHeartbeats 16000000 in
theorem rs_0 (P : RP) (M : MM) (d s : Nat) (o m n : Int) (w : World) (h : RM P M w) (hM : MOk M) (hR : ROk R) (c0 : 0 ≤ pc) (c1 : pc < 4294967296) (f0 : 0 ≤ f) (f1 : f < 4294967296) (n0 : 0 ≤ n) (n1 : n < 8) (hd : d < 8) (hs' : s < 8) (o0 : 0 ≤ o) (o1 : o < 16) (m0 : 0 ≤ m) (m1 : m < 4294967296)
    (hs : insV M pc = .tuple #[agg5 0 d s o m, .int .i64 n, .agg #[.int .i64 0, .int .u32 0]]) :
    Calls Try.prog 36 #[.pointer (some ⟨P.q, 0, none⟩), stV R pc f] w fun e w' => e = .returned (outV ⟨M, R, w32 (pc + n), f % 16, 0, 0⟩) ∧ RM P M w' ∧ Upto P.has w w' := by
  have CF := Lib.hid (fun w h => rins_all P M pc w h hM c0 c1)
  rw [hs] at CF
  have en : n % 4294967296 = n := by omega
  have ew : (pc + n) % 4294967296 = w32 (pc + n) := rfl
  have S0 := S3.new w R pc (f % 16)
  have B0 : Below w.heap.size w (((w.alloc (.cells (stL R pc (f % 16)) 72)).alloc (.cells Z10 72)).alloc (.cells Z2 46)) := (((Below.refl _ _).alloc (Nat.le_refl _) _).alloc (by simp) _).alloc (by simp; omega) _
  have HH := Lib.hid (h.upto (Upto.of_below (S := fun _ => False) B0) (fun _ _ => id))
  unfold stL Z10 Z2 at S0 B0 HH
  unfold agg5 at CF
  unfold stV
  have hW0 := Lib.hid (fun i (hi : w.heap.size ≤ i) (hp : P.has i) => show False by have := rm_lt h hp; omega)
  have hd0 : (0 : Int) ≤ (d : Int) := by omega
  have hd1 : (d : Int) < 8 := by omega
  have hs0 : (0 : Int) ≤ (s : Int) := by omega
  have hs1 : (s : Int) < 8 := by omega
  have nxb := w32_bd (pc + n)
  obtain ⟨nx, hnx⟩ : ∃ nx, w32 (pc + n) = nx := ⟨_, rfl⟩
  rw [hnx] at ew nxb
  try rw [hnx]
  clear h hs
  go_enter Try.func36, Try.ntmps36
  go_wp2_with fail
  generalize ((w.alloc (.cells #[.int .u32 (R 0), .int .u32 (R 1), .int .u32 (R 2), .int .u32 (R 3), .int .u32 (R 4), .int .u32 (R 5), .int .u32 (R 6), .int .u32 (R 7), .int .u32 pc, .int .u32 (f % 16)] 72)).alloc (.cells #[.int .u32 0, .int .u32 0, .int .u32 0, .int .u32 0, .int .u32 0, .int .u32 0, .int .u32 0, .int .u32 0, .int .u32 0, .int .u32 0] 72)).alloc (.cells #[.int .i64 0, .int .u32 0] 46) = WA at S0 B0 HH ⊢
  have HS := Lib.hid S0
  have HB := Lib.hid B0
  clear S0 B0
  go_upto_region 8 with (go_at_call 82; (with_reducible refine (CF.out _ HH.out).mono ?_); rintro e w1 ⟨rfl, b1⟩; have HS1 := Lib.hid (HS.out.below b1); have HH1 := Lib.hid (HH.out.upto (Upto.of_below (S := fun _ => False) b1) (fun _ _ => id)); have lw := HS1.out.q.lb; obtain ⟨s0, s1, s2, s3, s4, s5, s6, s7, s8, s9⟩ := HS1.out.all; have lh : w.heap.size < w1.heap.size := by omega)
  obtain ⟨nx1, nt1, nu1⟩ := st_new w1 R nx (f % 16) 0 d s o m
  have lT := nt1.l
  have M1 := Lib.hid (HH1.out.upto nu1 (fun _ _ => id))
  have U1 := Lib.hid ((Upto.of_below (S := P.has) (HB.out.trans (b1.mono HB.out.size))).trans (nu1.mono (T := P.has) fun _ _ h => h.elim))
  have S1 := Lib.hid (HS1.out.upto nu1 id id id)
  clear s0 s1 s2 s3 s4 s5 s6 s7 s8 s9
  unfold stL Z2 at nx1 nt1 nu1 lT M1 U1 S1
  generalize ((w1.alloc (.cells #[.int .i64 0, .int .i64 d, .int .i64 s, .int .i64 o, .int .u32 m] 149)).alloc (.cells #[.int .i64 0, .int .u32 0] 46)).alloc (.cells #[.int .u32 (R 0), .int .u32 (R 1), .int .u32 (R 2), .int .u32 (R 3), .int .u32 (R 4), .int .u32 (R 5), .int .u32 (R 6), .int .u32 (R 7), .int .u32 nx, .int .u32 (f % 16)] 72) = WB at nx1 nt1 nu1 lT M1 U1 S1 ⊢
  have X1 := Lib.hid nx1
  have T1 := Lib.hid nt1
  clear nx1 nt1 nu1
  have na00 : ¬ w1.heap.size = w.heap.size := by omega
  have nb00 : ¬ w.heap.size = w1.heap.size := by omega
  have na01 : ¬ w1.heap.size = w.heap.size + 1 := by omega
  have nb01 : ¬ w.heap.size + 1 = w1.heap.size := by omega
  have na02 : ¬ w1.heap.size = w.heap.size + 1 + 1 := by omega
  have nb02 : ¬ w.heap.size + 1 + 1 = w1.heap.size := by omega
  have na20 : ¬ w1.heap.size + 1 + 1 = w.heap.size := by omega
  have nb20 : ¬ w.heap.size = w1.heap.size + 1 + 1 := by omega
  have na21 : ¬ w1.heap.size + 1 + 1 = w.heap.size + 1 := by omega
  have nb21 : ¬ w.heap.size + 1 = w1.heap.size + 1 + 1 := by omega
  have na22 : ¬ w1.heap.size + 1 + 1 = w.heap.size + 1 + 1 := by omega
  have nb22 : ¬ w.heap.size + 1 + 1 = w1.heap.size + 1 + 1 := by omega
  have x0 := X1.out.c0
  have x1 := X1.out.c1
  have x2 := X1.out.c2
  have x3 := X1.out.c3
  have x4 := X1.out.c4
  have lX := X1.out.l
  have sd := S1.out.s d hd
  have ss := S1.out.s s hs'
  have s9 := S1.out.s9
  have td := T1.out.r d hd
  have t8 := T1.out.c8
  have t9 := T1.out.c9
  have zd := T1.out.z d
  have z8 := T1.out.z 8
  have z9 := T1.out.z 9
  go_upto_region 57 with fail
  have t4 := T1.out
  clear x0 x1 x2 x3 x4 lX sd ss s9 td t8 t9 zd z8 z9
  have m4 : RM P M (WB) := by repeat (first | exact M1.out | apply RM.drew | refine rm_setA ?_ (hW0.out _ (by omega)))
  have u4 : Upto P.has w (WB) := by repeat (first | exact U1.out | apply Upto.drew | refine upto_big ?_ (by omega))
  have s4 : S3 w.heap.size R pc (f % 16) (WB) := by repeat (first | exact S1.out | apply S3.drew | refine s3_off ?_ (by omega) (by omega) (by omega))
  generalize WB = W3 at t4 m4 u4 s4  ⊢
  have T4 := Lib.hid t4
  have M4 := Lib.hid m4
  have U4 := Lib.hid u4
  have S4 := Lib.hid s4
  clear t4 m4 u4 s4
  obtain ⟨a0, a1, a2, a3, a4, a5, a6, a7, a8, a9⟩ := T4.out.all
  have lT4 := T4.out.l
  obtain ⟨q0, y0, q1, y1, q2, y2, q3, y3, q4, y4, q5, y5, q6, y6, q7, y7, q8, y8, q9, y9, r0, w0', r1, w1'⟩ := S4.out.q.all
  go_wp2_with fail
  clear q0 y0 q1 y1 q2 y2 q3 y3 q4 y4 q5 y5 q6 y6 q7 y7 q8 y8 q9 y9 r0 w0' r1 w1'
  clear a0 a1 a2 a3 a4 a5 a6 a7 a8 a9
  obtain ⟨u, t, fq, v0, v1, v2, v3, v4, v5, v6, v7, v8, v9, t0, t1⟩ := S4.out.q.put (.int .u32 ((R) 0)) (.int .u32 ((R) 1)) (.int .u32 ((R) 2)) (.int .u32 ((R) 3)) (.int .u32 ((R) 4)) (.int .u32 ((R) 5)) (.int .u32 ((R) 6)) (.int .u32 ((R) 7)) (.int .u32 (nx)) (.int .u32 (f % 16)) (.int .i64 0) (.int .u32 0)
  have bp := (upto_put (h := w.heap.size + 1) (g := w.heap.size + 1 + 1) U4.out (.inr (by omega)) (.inr (by omega)) (.int .u32 ((R) 0)) (.int .u32 ((R) 1)) (.int .u32 ((R) 2)) (.int .u32 ((R) 3)) (.int .u32 ((R) 4)) (.int .u32 ((R) 5)) (.int .u32 ((R) 6)) (.int .u32 ((R) 7)) (.int .u32 (nx)) (.int .u32 (f % 16)) (.int .i64 0) (.int .u32 0))
  have hp := (M4.out.upto (upto_put (h := w.heap.size + 1) (g := w.heap.size + 1 + 1) (Upto.refl (fun i => i = w.heap.size + 1 ∨ i = w.heap.size + 1 + 1) W3) (.inl (.inl rfl)) (.inl (.inr rfl)) (.int .u32 ((R) 0)) (.int .u32 ((R) 1)) (.int .u32 ((R) 2)) (.int .u32 ((R) 3)) (.int .u32 ((R) 4)) (.int .u32 ((R) 5)) (.int .u32 ((R) 6)) (.int .u32 ((R) 7)) (.int .u32 (nx)) (.int .u32 (f % 16)) (.int .i64 0) (.int .u32 0)) (fun j hj hx => hW0.out j (by rcases hx with hx | hx <;> omega) hj))
  have fq2 := fq
  clear fq
  obtain ⟨g0, g1, g2, g3, g4, g5, g6, g7, g8, g9, o0, o1⟩ := fq2.got v0 v1 v2 v3 v4 v5 v6 v7 v8 v9 t0 t1
  exact bodyPost_ret (v := outV ⟨M, R, nx, f % 16, 0, 0⟩) (by simp [outV, stV, results, Try.results36, go_sem, g0, g1, g2, g3, g4, g5, g6, g7, g8, g9, o0, o1]) rfl ⟨rfl, hp, bp⟩
set_option maxRecDepth 100000 in
set_option maxHeartbeats 16000000 in
theorem rs_1 (P : RP) (M : MM) (d s : Nat) (o m n : Int) (w : World) (h : RM P M w) (hM : MOk M) (hR : ROk R) (c0 : 0 ≤ pc) (c1 : pc < 4294967296) (f0 : 0 ≤ f) (f1 : f < 4294967296) (n0 : 0 ≤ n) (n1 : n < 8) (hd : d < 8) (hs' : s < 8) (o0 : 0 ≤ o) (o1 : o < 16) (m0 : 0 ≤ m) (m1 : m < 4294967296)
    (hs : insV M pc = .tuple #[agg5 1 d s o m, .int .i64 n, .agg #[.int .i64 0, .int .u32 0]]) :
    Calls Try.prog 36 #[.pointer (some ⟨P.q, 0, none⟩), stV R pc f] w fun e w' => e = .returned (outV ⟨M, R, pc, f % 16, 2, 0⟩) ∧ RM P M w' ∧ Upto P.has w w' := by
  have CF := Lib.hid (fun w h => rins_all P M pc w h hM c0 c1)
  rw [hs] at CF
  have en : n % 4294967296 = n := by omega
  have ew : (pc + n) % 4294967296 = w32 (pc + n) := rfl
  have S0 := S3.new w R pc (f % 16)
  have B0 : Below w.heap.size w (((w.alloc (.cells (stL R pc (f % 16)) 72)).alloc (.cells Z10 72)).alloc (.cells Z2 46)) := (((Below.refl _ _).alloc (Nat.le_refl _) _).alloc (by simp) _).alloc (by simp; omega) _
  have HH := Lib.hid (h.upto (Upto.of_below (S := fun _ => False) B0) (fun _ _ => id))
  unfold stL Z10 Z2 at S0 B0 HH
  unfold agg5 at CF
  unfold stV
  have hW0 := Lib.hid (fun i (hi : w.heap.size ≤ i) (hp : P.has i) => show False by have := rm_lt h hp; omega)
  have hd0 : (0 : Int) ≤ (d : Int) := by omega
  have hd1 : (d : Int) < 8 := by omega
  have hs0 : (0 : Int) ≤ (s : Int) := by omega
  have hs1 : (s : Int) < 8 := by omega
  have nxb := w32_bd (pc + n)
  obtain ⟨nx, hnx⟩ : ∃ nx, w32 (pc + n) = nx := ⟨_, rfl⟩
  rw [hnx] at ew nxb
  try rw [hnx]
  clear h hs
  go_enter Try.func36, Try.ntmps36
  go_wp2_with fail
  generalize ((w.alloc (.cells #[.int .u32 (R 0), .int .u32 (R 1), .int .u32 (R 2), .int .u32 (R 3), .int .u32 (R 4), .int .u32 (R 5), .int .u32 (R 6), .int .u32 (R 7), .int .u32 pc, .int .u32 (f % 16)] 72)).alloc (.cells #[.int .u32 0, .int .u32 0, .int .u32 0, .int .u32 0, .int .u32 0, .int .u32 0, .int .u32 0, .int .u32 0, .int .u32 0, .int .u32 0] 72)).alloc (.cells #[.int .i64 0, .int .u32 0] 46) = WA at S0 B0 HH ⊢
  have HS := Lib.hid S0
  have HB := Lib.hid B0
  clear S0 B0
  go_upto_region 8 with (go_at_call 82; (with_reducible refine (CF.out _ HH.out).mono ?_); rintro e w1 ⟨rfl, b1⟩; have HS1 := Lib.hid (HS.out.below b1); have HH1 := Lib.hid (HH.out.upto (Upto.of_below (S := fun _ => False) b1) (fun _ _ => id)); have lw := HS1.out.q.lb; obtain ⟨s0, s1, s2, s3, s4, s5, s6, s7, s8, s9⟩ := HS1.out.all; have lh : w.heap.size < w1.heap.size := by omega)
  obtain ⟨nx1, nt1, nu1⟩ := st_new w1 R nx (f % 16) 1 d s o m
  have lT := nt1.l
  have M1 := Lib.hid (HH1.out.upto nu1 (fun _ _ => id))
  have U1 := Lib.hid ((Upto.of_below (S := P.has) (HB.out.trans (b1.mono HB.out.size))).trans (nu1.mono (T := P.has) fun _ _ h => h.elim))
  have S1 := Lib.hid (HS1.out.upto nu1 id id id)
  clear s0 s1 s2 s3 s4 s5 s6 s7 s8 s9
  unfold stL Z2 at nx1 nt1 nu1 lT M1 U1 S1
  generalize ((w1.alloc (.cells #[.int .i64 1, .int .i64 d, .int .i64 s, .int .i64 o, .int .u32 m] 149)).alloc (.cells #[.int .i64 0, .int .u32 0] 46)).alloc (.cells #[.int .u32 (R 0), .int .u32 (R 1), .int .u32 (R 2), .int .u32 (R 3), .int .u32 (R 4), .int .u32 (R 5), .int .u32 (R 6), .int .u32 (R 7), .int .u32 nx, .int .u32 (f % 16)] 72) = WB at nx1 nt1 nu1 lT M1 U1 S1 ⊢
  have X1 := Lib.hid nx1
  have T1 := Lib.hid nt1
  clear nx1 nt1 nu1
  have na00 : ¬ w1.heap.size = w.heap.size := by omega
  have nb00 : ¬ w.heap.size = w1.heap.size := by omega
  have na01 : ¬ w1.heap.size = w.heap.size + 1 := by omega
  have nb01 : ¬ w.heap.size + 1 = w1.heap.size := by omega
  have na02 : ¬ w1.heap.size = w.heap.size + 1 + 1 := by omega
  have nb02 : ¬ w.heap.size + 1 + 1 = w1.heap.size := by omega
  have na20 : ¬ w1.heap.size + 1 + 1 = w.heap.size := by omega
  have nb20 : ¬ w.heap.size = w1.heap.size + 1 + 1 := by omega
  have na21 : ¬ w1.heap.size + 1 + 1 = w.heap.size + 1 := by omega
  have nb21 : ¬ w.heap.size + 1 = w1.heap.size + 1 + 1 := by omega
  have na22 : ¬ w1.heap.size + 1 + 1 = w.heap.size + 1 + 1 := by omega
  have nb22 : ¬ w.heap.size + 1 + 1 = w1.heap.size + 1 + 1 := by omega
  have x0 := X1.out.c0
  have x1 := X1.out.c1
  have x2 := X1.out.c2
  have x3 := X1.out.c3
  have x4 := X1.out.c4
  have lX := X1.out.l
  have sd := S1.out.s d hd
  have ss := S1.out.s s hs'
  have s9 := S1.out.s9
  have td := T1.out.r d hd
  have t8 := T1.out.c8
  have t9 := T1.out.c9
  have zd := T1.out.z d
  have z8 := T1.out.z 8
  have z9 := T1.out.z 9
  go_upto_region 14 with fail
  have t4 := T1.out
  clear x0 x1 x2 x3 x4 lX sd ss s9 td t8 t9 zd z8 z9
  have m4 : RM P M (WB) := by repeat (first | exact M1.out | apply RM.drew | refine rm_setA ?_ (hW0.out _ (by omega)))
  have u4 : Upto P.has w (WB) := by repeat (first | exact U1.out | apply Upto.drew | refine upto_big ?_ (by omega))
  have s4 : S3 w.heap.size R pc (f % 16) (WB) := by repeat (first | exact S1.out | apply S3.drew | refine s3_off ?_ (by omega) (by omega) (by omega))
  generalize WB = W3 at t4 m4 u4 s4  ⊢
  have T4 := Lib.hid t4
  have M4 := Lib.hid m4
  have U4 := Lib.hid u4
  have S4 := Lib.hid s4
  clear t4 m4 u4 s4
  obtain ⟨a0, a1, a2, a3, a4, a5, a6, a7, a8, a9⟩ := S4.out.all
  have lT4 := T4.out.l
  obtain ⟨q0, y0, q1, y1, q2, y2, q3, y3, q4, y4, q5, y5, q6, y6, q7, y7, q8, y8, q9, y9, r0, w0', r1, w1'⟩ := S4.out.q.all
  go_wp2_with fail
  clear q0 y0 q1 y1 q2 y2 q3 y3 q4 y4 q5 y5 q6 y6 q7 y7 q8 y8 q9 y9 r0 w0' r1 w1'
  clear a0 a1 a2 a3 a4 a5 a6 a7 a8 a9
  obtain ⟨u, t, fq, v0, v1, v2, v3, v4, v5, v6, v7, v8, v9, t0, t1⟩ := S4.out.q.put (.int .u32 ((R) 0)) (.int .u32 ((R) 1)) (.int .u32 ((R) 2)) (.int .u32 ((R) 3)) (.int .u32 ((R) 4)) (.int .u32 ((R) 5)) (.int .u32 ((R) 6)) (.int .u32 ((R) 7)) (.int .u32 (pc)) (.int .u32 (f % 16)) (.int .i64 2) (.int .u32 0)
  have bp := (upto_put (h := w.heap.size + 1) (g := w.heap.size + 1 + 1) U4.out (.inr (by omega)) (.inr (by omega)) (.int .u32 ((R) 0)) (.int .u32 ((R) 1)) (.int .u32 ((R) 2)) (.int .u32 ((R) 3)) (.int .u32 ((R) 4)) (.int .u32 ((R) 5)) (.int .u32 ((R) 6)) (.int .u32 ((R) 7)) (.int .u32 (pc)) (.int .u32 (f % 16)) (.int .i64 2) (.int .u32 0))
  have hp := (M4.out.upto (upto_put (h := w.heap.size + 1) (g := w.heap.size + 1 + 1) (Upto.refl (fun i => i = w.heap.size + 1 ∨ i = w.heap.size + 1 + 1) W3) (.inl (.inl rfl)) (.inl (.inr rfl)) (.int .u32 ((R) 0)) (.int .u32 ((R) 1)) (.int .u32 ((R) 2)) (.int .u32 ((R) 3)) (.int .u32 ((R) 4)) (.int .u32 ((R) 5)) (.int .u32 ((R) 6)) (.int .u32 ((R) 7)) (.int .u32 (pc)) (.int .u32 (f % 16)) (.int .i64 2) (.int .u32 0)) (fun j hj hx => hW0.out j (by rcases hx with hx | hx <;> omega) hj))
  have fq2 := fq
  clear fq
  obtain ⟨g0, g1, g2, g3, g4, g5, g6, g7, g8, g9, o0, o1⟩ := fq2.got v0 v1 v2 v3 v4 v5 v6 v7 v8 v9 t0 t1
  exact bodyPost_ret (v := outV ⟨M, R, pc, f % 16, 2, 0⟩) (by simp [outV, stV, results, Try.results36, go_sem, g0, g1, g2, g3, g4, g5, g6, g7, g8, g9, o0, o1]) rfl ⟨rfl, hp, bp⟩
set_option maxRecDepth 100000 in
set_option maxHeartbeats 16000000 in
theorem rs_5 (P : RP) (M : MM) (d s : Nat) (o m n : Int) (w : World) (h : RM P M w) (hM : MOk M) (hR : ROk R) (c0 : 0 ≤ pc) (c1 : pc < 4294967296) (f0 : 0 ≤ f) (f1 : f < 4294967296) (n0 : 0 ≤ n) (n1 : n < 8) (hd : d < 8) (hs' : s < 8) (o0 : 0 ≤ o) (o1 : o < 16) (m0 : 0 ≤ m) (m1 : m < 4294967296)
    (hs : insV M pc = .tuple #[agg5 5 d s o m, .int .i64 n, .agg #[.int .i64 0, .int .u32 0]]) :
    Calls Try.prog 36 #[.pointer (some ⟨P.q, 0, none⟩), stV R pc f] w fun e w' => e = .returned (outV ⟨M, R, w32 (pc + n), f % 16, 1, m⟩) ∧ RM P M w' ∧ Upto P.has w w' := by
  have CF := Lib.hid (fun w h => rins_all P M pc w h hM c0 c1)
  rw [hs] at CF
  have en : n % 4294967296 = n := by omega
  have ew : (pc + n) % 4294967296 = w32 (pc + n) := rfl
  have S0 := S3.new w R pc (f % 16)
  have B0 : Below w.heap.size w (((w.alloc (.cells (stL R pc (f % 16)) 72)).alloc (.cells Z10 72)).alloc (.cells Z2 46)) := (((Below.refl _ _).alloc (Nat.le_refl _) _).alloc (by simp) _).alloc (by simp; omega) _
  have HH := Lib.hid (h.upto (Upto.of_below (S := fun _ => False) B0) (fun _ _ => id))
  unfold stL Z10 Z2 at S0 B0 HH
  unfold agg5 at CF
  unfold stV
  have hW0 := Lib.hid (fun i (hi : w.heap.size ≤ i) (hp : P.has i) => show False by have := rm_lt h hp; omega)
  have hd0 : (0 : Int) ≤ (d : Int) := by omega
  have hd1 : (d : Int) < 8 := by omega
  have hs0 : (0 : Int) ≤ (s : Int) := by omega
  have hs1 : (s : Int) < 8 := by omega
  have nxb := w32_bd (pc + n)
  obtain ⟨nx, hnx⟩ : ∃ nx, w32 (pc + n) = nx := ⟨_, rfl⟩
  rw [hnx] at ew nxb
  try rw [hnx]
  clear h hs
  go_enter Try.func36, Try.ntmps36
  go_wp2_with fail
  generalize ((w.alloc (.cells #[.int .u32 (R 0), .int .u32 (R 1), .int .u32 (R 2), .int .u32 (R 3), .int .u32 (R 4), .int .u32 (R 5), .int .u32 (R 6), .int .u32 (R 7), .int .u32 pc, .int .u32 (f % 16)] 72)).alloc (.cells #[.int .u32 0, .int .u32 0, .int .u32 0, .int .u32 0, .int .u32 0, .int .u32 0, .int .u32 0, .int .u32 0, .int .u32 0, .int .u32 0] 72)).alloc (.cells #[.int .i64 0, .int .u32 0] 46) = WA at S0 B0 HH ⊢
  have HS := Lib.hid S0
  have HB := Lib.hid B0
  clear S0 B0
  go_upto_region 8 with (go_at_call 82; (with_reducible refine (CF.out _ HH.out).mono ?_); rintro e w1 ⟨rfl, b1⟩; have HS1 := Lib.hid (HS.out.below b1); have HH1 := Lib.hid (HH.out.upto (Upto.of_below (S := fun _ => False) b1) (fun _ _ => id)); have lw := HS1.out.q.lb; obtain ⟨s0, s1, s2, s3, s4, s5, s6, s7, s8, s9⟩ := HS1.out.all; have lh : w.heap.size < w1.heap.size := by omega)
  obtain ⟨nx1, nt1, nu1⟩ := st_new w1 R nx (f % 16) 5 d s o m
  have lT := nt1.l
  have M1 := Lib.hid (HH1.out.upto nu1 (fun _ _ => id))
  have U1 := Lib.hid ((Upto.of_below (S := P.has) (HB.out.trans (b1.mono HB.out.size))).trans (nu1.mono (T := P.has) fun _ _ h => h.elim))
  have S1 := Lib.hid (HS1.out.upto nu1 id id id)
  clear s0 s1 s2 s3 s4 s5 s6 s7 s8 s9
  unfold stL Z2 at nx1 nt1 nu1 lT M1 U1 S1
  generalize ((w1.alloc (.cells #[.int .i64 5, .int .i64 d, .int .i64 s, .int .i64 o, .int .u32 m] 149)).alloc (.cells #[.int .i64 0, .int .u32 0] 46)).alloc (.cells #[.int .u32 (R 0), .int .u32 (R 1), .int .u32 (R 2), .int .u32 (R 3), .int .u32 (R 4), .int .u32 (R 5), .int .u32 (R 6), .int .u32 (R 7), .int .u32 nx, .int .u32 (f % 16)] 72) = WB at nx1 nt1 nu1 lT M1 U1 S1 ⊢
  have X1 := Lib.hid nx1
  have T1 := Lib.hid nt1
  clear nx1 nt1 nu1
  have na00 : ¬ w1.heap.size = w.heap.size := by omega
  have nb00 : ¬ w.heap.size = w1.heap.size := by omega
  have na01 : ¬ w1.heap.size = w.heap.size + 1 := by omega
  have nb01 : ¬ w.heap.size + 1 = w1.heap.size := by omega
  have na02 : ¬ w1.heap.size = w.heap.size + 1 + 1 := by omega
  have nb02 : ¬ w.heap.size + 1 + 1 = w1.heap.size := by omega
  have na20 : ¬ w1.heap.size + 1 + 1 = w.heap.size := by omega
  have nb20 : ¬ w.heap.size = w1.heap.size + 1 + 1 := by omega
  have na21 : ¬ w1.heap.size + 1 + 1 = w.heap.size + 1 := by omega
  have nb21 : ¬ w.heap.size + 1 = w1.heap.size + 1 + 1 := by omega
  have na22 : ¬ w1.heap.size + 1 + 1 = w.heap.size + 1 + 1 := by omega
  have nb22 : ¬ w.heap.size + 1 + 1 = w1.heap.size + 1 + 1 := by omega
  have x0 := X1.out.c0
  have x1 := X1.out.c1
  have x2 := X1.out.c2
  have x3 := X1.out.c3
  have x4 := X1.out.c4
  have lX := X1.out.l
  have sd := S1.out.s d hd
  have ss := S1.out.s s hs'
  have s9 := S1.out.s9
  have td := T1.out.r d hd
  have t8 := T1.out.c8
  have t9 := T1.out.c9
  have zd := T1.out.z d
  have z8 := T1.out.z 8
  have z9 := T1.out.z 9
  go_upto_region 16 with fail
  have t4 := T1.out
  clear x0 x1 x2 x3 lX sd ss s9 td t8 t9 zd z8 z9
  have m4 : RM P M (WB) := by repeat (first | exact M1.out | apply RM.drew | refine rm_setA ?_ (hW0.out _ (by omega)))
  have u4 : Upto P.has w (WB) := by repeat (first | exact U1.out | apply Upto.drew | refine upto_big ?_ (by omega))
  have s4 : S3 w.heap.size R pc (f % 16) (WB) := by repeat (first | exact S1.out | apply S3.drew | refine s3_off ?_ (by omega) (by omega) (by omega))
  generalize WB = W3 at t4 m4 u4 s4 x4 ⊢
  have T4 := Lib.hid t4
  have M4 := Lib.hid m4
  have U4 := Lib.hid u4
  have S4 := Lib.hid s4
  clear t4 m4 u4 s4
  obtain ⟨a0, a1, a2, a3, a4, a5, a6, a7, a8, a9⟩ := T4.out.all
  have lT4 := T4.out.l
  obtain ⟨q0, y0, q1, y1, q2, y2, q3, y3, q4, y4, q5, y5, q6, y6, q7, y7, q8, y8, q9, y9, r0, w0', r1, w1'⟩ := S4.out.q.all
  go_region
  clear q0 y0 q1 y1 q2 y2 q3 y3 q4 y4 q5 y5 q6 y6 q7 y7 q8 y8 q9 y9 r0 w0' r1 w1'
  clear a0 a1 a2 a3 a4 a5 a6 a7 a8 a9
  obtain ⟨u, t, fq, v0, v1, v2, v3, v4, v5, v6, v7, v8, v9, t0, t1⟩ := S4.out.q.put (.int .u32 ((R) 0)) (.int .u32 ((R) 1)) (.int .u32 ((R) 2)) (.int .u32 ((R) 3)) (.int .u32 ((R) 4)) (.int .u32 ((R) 5)) (.int .u32 ((R) 6)) (.int .u32 ((R) 7)) (.int .u32 (nx)) (.int .u32 (f % 16)) (.int .i64 1) (.int .u32 m)
  have bp := (upto_put (h := w.heap.size + 1) (g := w.heap.size + 1 + 1) U4.out (.inr (by omega)) (.inr (by omega)) (.int .u32 ((R) 0)) (.int .u32 ((R) 1)) (.int .u32 ((R) 2)) (.int .u32 ((R) 3)) (.int .u32 ((R) 4)) (.int .u32 ((R) 5)) (.int .u32 ((R) 6)) (.int .u32 ((R) 7)) (.int .u32 (nx)) (.int .u32 (f % 16)) (.int .i64 1) (.int .u32 m)).drew
  have hp := (M4.out.upto (upto_put (h := w.heap.size + 1) (g := w.heap.size + 1 + 1) (Upto.refl (fun i => i = w.heap.size + 1 ∨ i = w.heap.size + 1 + 1) W3) (.inl (.inl rfl)) (.inl (.inr rfl)) (.int .u32 ((R) 0)) (.int .u32 ((R) 1)) (.int .u32 ((R) 2)) (.int .u32 ((R) 3)) (.int .u32 ((R) 4)) (.int .u32 ((R) 5)) (.int .u32 ((R) 6)) (.int .u32 ((R) 7)) (.int .u32 (nx)) (.int .u32 (f % 16)) (.int .i64 1) (.int .u32 m)) (fun j hj hx => hW0.out j (by rcases hx with hx | hx <;> omega) hj)).drew
  have fq2 := fq.drew
  clear fq
  generalize World.drew _ = WZ at fq2 bp hp ⊢
  obtain ⟨g0, g1, g2, g3, g4, g5, g6, g7, g8, g9, o0, o1⟩ := fq2.got v0 v1 v2 v3 v4 v5 v6 v7 v8 v9 t0 t1
  go_wp2_with fail
  exact bodyPost_ret (v := outV ⟨M, R, nx, f % 16, 1, m⟩) (by simp [outV, stV, results, Try.results36, go_sem, g0, g1, g2, g3, g4, g5, g6, g7, g8, g9, o0, o1]) rfl ⟨rfl, hp, bp⟩
set_option maxRecDepth 100000 in
set_option maxHeartbeats 16000000 in
theorem rs_6 (P : RP) (M : MM) (d s : Nat) (o m n : Int) (w : World) (h : RM P M w) (hM : MOk M) (hR : ROk R) (c0 : 0 ≤ pc) (c1 : pc < 4294967296) (f0 : 0 ≤ f) (f1 : f < 4294967296) (n0 : 0 ≤ n) (n1 : n < 8) (hd : d < 8) (hs' : s < 8) (o0 : 0 ≤ o) (o1 : o < 16) (m0 : 0 ≤ m) (m1 : m < 4294967296)
    (hs : insV M pc = .tuple #[agg5 6 d s o m, .int .i64 n, .agg #[.int .i64 0, .int .u32 0]]) :
    Calls Try.prog 36 #[.pointer (some ⟨P.q, 0, none⟩), stV R pc f] w fun e w' => e = .returned (outV ⟨M, R, w32 (w32 (pc + n) + m), f % 16, 0, 0⟩) ∧ RM P M w' ∧ Upto P.has w w' := by
  have CF := Lib.hid (fun w h => rins_all P M pc w h hM c0 c1)
  rw [hs] at CF
  have en : n % 4294967296 = n := by omega
  have ew : (pc + n) % 4294967296 = w32 (pc + n) := rfl
  have S0 := S3.new w R pc (f % 16)
  have B0 : Below w.heap.size w (((w.alloc (.cells (stL R pc (f % 16)) 72)).alloc (.cells Z10 72)).alloc (.cells Z2 46)) := (((Below.refl _ _).alloc (Nat.le_refl _) _).alloc (by simp) _).alloc (by simp; omega) _
  have HH := Lib.hid (h.upto (Upto.of_below (S := fun _ => False) B0) (fun _ _ => id))
  unfold stL Z10 Z2 at S0 B0 HH
  unfold agg5 at CF
  unfold stV
  have hW0 := Lib.hid (fun i (hi : w.heap.size ≤ i) (hp : P.has i) => show False by have := rm_lt h hp; omega)
  have hd0 : (0 : Int) ≤ (d : Int) := by omega
  have hd1 : (d : Int) < 8 := by omega
  have hs0 : (0 : Int) ≤ (s : Int) := by omega
  have hs1 : (s : Int) < 8 := by omega
  have nxb := w32_bd (pc + n)
  obtain ⟨nx, hnx⟩ : ∃ nx, w32 (pc + n) = nx := ⟨_, rfl⟩
  rw [hnx] at ew nxb
  try rw [hnx]
  clear h hs
  go_enter Try.func36, Try.ntmps36
  go_wp2_with fail
  generalize ((w.alloc (.cells #[.int .u32 (R 0), .int .u32 (R 1), .int .u32 (R 2), .int .u32 (R 3), .int .u32 (R 4), .int .u32 (R 5), .int .u32 (R 6), .int .u32 (R 7), .int .u32 pc, .int .u32 (f % 16)] 72)).alloc (.cells #[.int .u32 0, .int .u32 0, .int .u32 0, .int .u32 0, .int .u32 0, .int .u32 0, .int .u32 0, .int .u32 0, .int .u32 0, .int .u32 0] 72)).alloc (.cells #[.int .i64 0, .int .u32 0] 46) = WA at S0 B0 HH ⊢
  have HS := Lib.hid S0
  have HB := Lib.hid B0
  clear S0 B0
  go_upto_region 8 with (go_at_call 82; (with_reducible refine (CF.out _ HH.out).mono ?_); rintro e w1 ⟨rfl, b1⟩; have HS1 := Lib.hid (HS.out.below b1); have HH1 := Lib.hid (HH.out.upto (Upto.of_below (S := fun _ => False) b1) (fun _ _ => id)); have lw := HS1.out.q.lb; obtain ⟨s0, s1, s2, s3, s4, s5, s6, s7, s8, s9⟩ := HS1.out.all; have lh : w.heap.size < w1.heap.size := by omega)
  have ev : (nx + m) % 4294967296 = w32 (nx + m) := rfl
  obtain ⟨nx1, nt1, nu1⟩ := st_new w1 R nx (f % 16) 6 d s o m
  have lT := nt1.l
  have M1 := Lib.hid (HH1.out.upto nu1 (fun _ _ => id))
  have U1 := Lib.hid ((Upto.of_below (S := P.has) (HB.out.trans (b1.mono HB.out.size))).trans (nu1.mono (T := P.has) fun _ _ h => h.elim))
  have S1 := Lib.hid (HS1.out.upto nu1 id id id)
  clear s0 s1 s2 s3 s4 s5 s6 s7 s8 s9
  unfold stL Z2 at nx1 nt1 nu1 lT M1 U1 S1
  generalize ((w1.alloc (.cells #[.int .i64 6, .int .i64 d, .int .i64 s, .int .i64 o, .int .u32 m] 149)).alloc (.cells #[.int .i64 0, .int .u32 0] 46)).alloc (.cells #[.int .u32 (R 0), .int .u32 (R 1), .int .u32 (R 2), .int .u32 (R 3), .int .u32 (R 4), .int .u32 (R 5), .int .u32 (R 6), .int .u32 (R 7), .int .u32 nx, .int .u32 (f % 16)] 72) = WB at nx1 nt1 nu1 lT M1 U1 S1 ⊢
  have X1 := Lib.hid nx1
  have T1 := Lib.hid nt1
  clear nx1 nt1 nu1
  have na00 : ¬ w1.heap.size = w.heap.size := by omega
  have nb00 : ¬ w.heap.size = w1.heap.size := by omega
  have na01 : ¬ w1.heap.size = w.heap.size + 1 := by omega
  have nb01 : ¬ w.heap.size + 1 = w1.heap.size := by omega
  have na02 : ¬ w1.heap.size = w.heap.size + 1 + 1 := by omega
  have nb02 : ¬ w.heap.size + 1 + 1 = w1.heap.size := by omega
  have na20 : ¬ w1.heap.size + 1 + 1 = w.heap.size := by omega
  have nb20 : ¬ w.heap.size = w1.heap.size + 1 + 1 := by omega
  have na21 : ¬ w1.heap.size + 1 + 1 = w.heap.size + 1 := by omega
  have nb21 : ¬ w.heap.size + 1 = w1.heap.size + 1 + 1 := by omega
  have na22 : ¬ w1.heap.size + 1 + 1 = w.heap.size + 1 + 1 := by omega
  have nb22 : ¬ w.heap.size + 1 + 1 = w1.heap.size + 1 + 1 := by omega
  have x0 := X1.out.c0
  have x1 := X1.out.c1
  have x2 := X1.out.c2
  have x3 := X1.out.c3
  have x4 := X1.out.c4
  have lX := X1.out.l
  have sd := S1.out.s d hd
  have ss := S1.out.s s hs'
  have s9 := S1.out.s9
  have td := T1.out.r d hd
  have t8 := T1.out.c8
  have t9 := T1.out.c9
  have zd := T1.out.z d
  have z8 := T1.out.z 8
  have z9 := T1.out.z 9
  go_upto_region 57 with fail
  have t4 := T1.out.setPc (w32 (nx + m))
  clear x0 x1 x2 x3 x4 lX sd ss s9 td t8 t9 zd z8 z9
  have m4 : RM P M (WB.setCell ⟨w1.heap.size + 1 + 1, 8, none⟩ (.int .u32 (w32 (nx + m)))) := by repeat (first | exact M1.out | apply RM.drew | refine rm_setA ?_ (hW0.out _ (by omega)))
  have u4 : Upto P.has w (WB.setCell ⟨w1.heap.size + 1 + 1, 8, none⟩ (.int .u32 (w32 (nx + m)))) := by repeat (first | exact U1.out | apply Upto.drew | refine upto_big ?_ (by omega))
  have s4 : S3 w.heap.size R pc (f % 16) (WB.setCell ⟨w1.heap.size + 1 + 1, 8, none⟩ (.int .u32 (w32 (nx + m)))) := by repeat (first | exact S1.out | apply S3.drew | refine s3_off ?_ (by omega) (by omega) (by omega))
  generalize WB.setCell ⟨w1.heap.size + 1 + 1, 8, none⟩ (.int .u32 (w32 (nx + m))) = W3 at t4 m4 u4 s4  ⊢
  have T4 := Lib.hid t4
  have M4 := Lib.hid m4
  have U4 := Lib.hid u4
  have S4 := Lib.hid s4
  clear t4 m4 u4 s4
  obtain ⟨a0, a1, a2, a3, a4, a5, a6, a7, a8, a9⟩ := T4.out.all
  have lT4 := T4.out.l
  obtain ⟨q0, y0, q1, y1, q2, y2, q3, y3, q4, y4, q5, y5, q6, y6, q7, y7, q8, y8, q9, y9, r0, w0', r1, w1'⟩ := S4.out.q.all
  go_wp2_with fail
  clear q0 y0 q1 y1 q2 y2 q3 y3 q4 y4 q5 y5 q6 y6 q7 y7 q8 y8 q9 y9 r0 w0' r1 w1'
  clear a0 a1 a2 a3 a4 a5 a6 a7 a8 a9
  obtain ⟨u, t, fq, v0, v1, v2, v3, v4, v5, v6, v7, v8, v9, t0, t1⟩ := S4.out.q.put (.int .u32 ((R) 0)) (.int .u32 ((R) 1)) (.int .u32 ((R) 2)) (.int .u32 ((R) 3)) (.int .u32 ((R) 4)) (.int .u32 ((R) 5)) (.int .u32 ((R) 6)) (.int .u32 ((R) 7)) (.int .u32 (w32 (nx + m))) (.int .u32 (f % 16)) (.int .i64 0) (.int .u32 0)
  have bp := (upto_put (h := w.heap.size + 1) (g := w.heap.size + 1 + 1) U4.out (.inr (by omega)) (.inr (by omega)) (.int .u32 ((R) 0)) (.int .u32 ((R) 1)) (.int .u32 ((R) 2)) (.int .u32 ((R) 3)) (.int .u32 ((R) 4)) (.int .u32 ((R) 5)) (.int .u32 ((R) 6)) (.int .u32 ((R) 7)) (.int .u32 (w32 (nx + m))) (.int .u32 (f % 16)) (.int .i64 0) (.int .u32 0))
  have hp := (M4.out.upto (upto_put (h := w.heap.size + 1) (g := w.heap.size + 1 + 1) (Upto.refl (fun i => i = w.heap.size + 1 ∨ i = w.heap.size + 1 + 1) W3) (.inl (.inl rfl)) (.inl (.inr rfl)) (.int .u32 ((R) 0)) (.int .u32 ((R) 1)) (.int .u32 ((R) 2)) (.int .u32 ((R) 3)) (.int .u32 ((R) 4)) (.int .u32 ((R) 5)) (.int .u32 ((R) 6)) (.int .u32 ((R) 7)) (.int .u32 (w32 (nx + m))) (.int .u32 (f % 16)) (.int .i64 0) (.int .u32 0)) (fun j hj hx => hW0.out j (by rcases hx with hx | hx <;> omega) hj))
  have fq2 := fq
  clear fq
  obtain ⟨g0, g1, g2, g3, g4, g5, g6, g7, g8, g9, o0, o1⟩ := fq2.got v0 v1 v2 v3 v4 v5 v6 v7 v8 v9 t0 t1
  exact bodyPost_ret (v := outV ⟨M, R, w32 (nx + m), f % 16, 0, 0⟩) (by simp [outV, stV, results, Try.results36, go_sem, g0, g1, g2, g3, g4, g5, g6, g7, g8, g9, o0, o1]) rfl ⟨rfl, hp, bp⟩
set_option maxRecDepth 100000 in
set_option maxHeartbeats 16000000 in
theorem rs_7 (P : RP) (M : MM) (d s : Nat) (o m n : Int) (w : World) (h : RM P M w) (hM : MOk M) (hR : ROk R) (c0 : 0 ≤ pc) (c1 : pc < 4294967296) (f0 : 0 ≤ f) (f1 : f < 4294967296) (n0 : 0 ≤ n) (n1 : n < 8) (hd : d < 8) (hs' : s < 8) (o0 : 0 ≤ o) (o1 : o < 16) (m0 : 0 ≤ m) (m1 : m < 4294967296)
    (hs : insV M pc = .tuple #[agg5 7 d s o m, .int .i64 n, .agg #[.int .i64 0, .int .u32 0]]) :
    Calls Try.prog 36 #[.pointer (some ⟨P.q, 0, none⟩), stV R pc f] w fun e w' => e = .returned (outV ⟨M, R, w32 (w32 (pc + n) + m), f % 16, 0, 0⟩) ∧ RM P M w' ∧ Upto P.has w w' := by
  have CF := Lib.hid (fun w h => rins_all P M pc w h hM c0 c1)
  rw [hs] at CF
  have en : n % 4294967296 = n := by omega
  have ew : (pc + n) % 4294967296 = w32 (pc + n) := rfl
  have S0 := S3.new w R pc (f % 16)
  have B0 : Below w.heap.size w (((w.alloc (.cells (stL R pc (f % 16)) 72)).alloc (.cells Z10 72)).alloc (.cells Z2 46)) := (((Below.refl _ _).alloc (Nat.le_refl _) _).alloc (by simp) _).alloc (by simp; omega) _
  have HH := Lib.hid (h.upto (Upto.of_below (S := fun _ => False) B0) (fun _ _ => id))
  unfold stL Z10 Z2 at S0 B0 HH
  unfold agg5 at CF
  unfold stV
  have hW0 := Lib.hid (fun i (hi : w.heap.size ≤ i) (hp : P.has i) => show False by have := rm_lt h hp; omega)
  have hd0 : (0 : Int) ≤ (d : Int) := by omega
  have hd1 : (d : Int) < 8 := by omega
  have hs0 : (0 : Int) ≤ (s : Int) := by omega
  have hs1 : (s : Int) < 8 := by omega
  have nxb := w32_bd (pc + n)
  obtain ⟨nx, hnx⟩ : ∃ nx, w32 (pc + n) = nx := ⟨_, rfl⟩
  rw [hnx] at ew nxb
  try rw [hnx]
  clear h hs
  go_enter Try.func36, Try.ntmps36
  go_wp2_with fail
  generalize ((w.alloc (.cells #[.int .u32 (R 0), .int .u32 (R 1), .int .u32 (R 2), .int .u32 (R 3), .int .u32 (R 4), .int .u32 (R 5), .int .u32 (R 6), .int .u32 (R 7), .int .u32 pc, .int .u32 (f % 16)] 72)).alloc (.cells #[.int .u32 0, .int .u32 0, .int .u32 0, .int .u32 0, .int .u32 0, .int .u32 0, .int .u32 0, .int .u32 0, .int .u32 0, .int .u32 0] 72)).alloc (.cells #[.int .i64 0, .int .u32 0] 46) = WA at S0 B0 HH ⊢
  have HS := Lib.hid S0
  have HB := Lib.hid B0
  clear S0 B0
  go_upto_region 8 with (go_at_call 82; (with_reducible refine (CF.out _ HH.out).mono ?_); rintro e w1 ⟨rfl, b1⟩; have HS1 := Lib.hid (HS.out.below b1); have HH1 := Lib.hid (HH.out.upto (Upto.of_below (S := fun _ => False) b1) (fun _ _ => id)); have lw := HS1.out.q.lb; obtain ⟨s0, s1, s2, s3, s4, s5, s6, s7, s8, s9⟩ := HS1.out.all; have lh : w.heap.size < w1.heap.size := by omega)
  have ev : (nx + m) % 4294967296 = w32 (nx + m) := rfl
  obtain ⟨nx1, nt1, nu1⟩ := st_new w1 R nx (f % 16) 7 d s o m
  have lT := nt1.l
  have M1 := Lib.hid (HH1.out.upto nu1 (fun _ _ => id))
  have U1 := Lib.hid ((Upto.of_below (S := P.has) (HB.out.trans (b1.mono HB.out.size))).trans (nu1.mono (T := P.has) fun _ _ h => h.elim))
  have S1 := Lib.hid (HS1.out.upto nu1 id id id)
  clear s0 s1 s2 s3 s4 s5 s6 s7 s8 s9
  unfold stL Z2 at nx1 nt1 nu1 lT M1 U1 S1
  generalize ((w1.alloc (.cells #[.int .i64 7, .int .i64 d, .int .i64 s, .int .i64 o, .int .u32 m] 149)).alloc (.cells #[.int .i64 0, .int .u32 0] 46)).alloc (.cells #[.int .u32 (R 0), .int .u32 (R 1), .int .u32 (R 2), .int .u32 (R 3), .int .u32 (R 4), .int .u32 (R 5), .int .u32 (R 6), .int .u32 (R 7), .int .u32 nx, .int .u32 (f % 16)] 72) = WB at nx1 nt1 nu1 lT M1 U1 S1 ⊢
  have X1 := Lib.hid nx1
  have T1 := Lib.hid nt1
  clear nx1 nt1 nu1
  have na00 : ¬ w1.heap.size = w.heap.size := by omega
  have nb00 : ¬ w.heap.size = w1.heap.size := by omega
  have na01 : ¬ w1.heap.size = w.heap.size + 1 := by omega
  have nb01 : ¬ w.heap.size + 1 = w1.heap.size := by omega
  have na02 : ¬ w1.heap.size = w.heap.size + 1 + 1 := by omega
  have nb02 : ¬ w.heap.size + 1 + 1 = w1.heap.size := by omega
  have na20 : ¬ w1.heap.size + 1 + 1 = w.heap.size := by omega
  have nb20 : ¬ w.heap.size = w1.heap.size + 1 + 1 := by omega
  have na21 : ¬ w1.heap.size + 1 + 1 = w.heap.size + 1 := by omega
  have nb21 : ¬ w.heap.size + 1 = w1.heap.size + 1 + 1 := by omega
  have na22 : ¬ w1.heap.size + 1 + 1 = w.heap.size + 1 + 1 := by omega
  have nb22 : ¬ w.heap.size + 1 + 1 = w1.heap.size + 1 + 1 := by omega
  have x0 := X1.out.c0
  have x1 := X1.out.c1
  have x2 := X1.out.c2
  have x3 := X1.out.c3
  have x4 := X1.out.c4
  have lX := X1.out.l
  have sd := S1.out.s d hd
  have ss := S1.out.s s hs'
  have s9 := S1.out.s9
  have td := T1.out.r d hd
  have t8 := T1.out.c8
  have t9 := T1.out.c9
  have zd := T1.out.z d
  have z8 := T1.out.z 8
  have z9 := T1.out.z 9
  go_upto_region 57 with fail
  have t4 := T1.out.setPc (w32 (nx + m))
  clear x0 x1 x2 x3 x4 lX sd ss s9 td t8 t9 zd z8 z9
  have m4 : RM P M (WB.setCell ⟨w1.heap.size + 1 + 1, 8, none⟩ (.int .u32 (w32 (nx + m)))) := by repeat (first | exact M1.out | apply RM.drew | refine rm_setA ?_ (hW0.out _ (by omega)))
  have u4 : Upto P.has w (WB.setCell ⟨w1.heap.size + 1 + 1, 8, none⟩ (.int .u32 (w32 (nx + m)))) := by repeat (first | exact U1.out | apply Upto.drew | refine upto_big ?_ (by omega))
  have s4 : S3 w.heap.size R pc (f % 16) (WB.setCell ⟨w1.heap.size + 1 + 1, 8, none⟩ (.int .u32 (w32 (nx + m)))) := by repeat (first | exact S1.out | apply S3.drew | refine s3_off ?_ (by omega) (by omega) (by omega))
  generalize WB.setCell ⟨w1.heap.size + 1 + 1, 8, none⟩ (.int .u32 (w32 (nx + m))) = W3 at t4 m4 u4 s4  ⊢
  have T4 := Lib.hid t4
  have M4 := Lib.hid m4
  have U4 := Lib.hid u4
  have S4 := Lib.hid s4
  clear t4 m4 u4 s4
  obtain ⟨a0, a1, a2, a3, a4, a5, a6, a7, a8, a9⟩ := T4.out.all
  have lT4 := T4.out.l
  obtain ⟨q0, y0, q1, y1, q2, y2, q3, y3, q4, y4, q5, y5, q6, y6, q7, y7, q8, y8, q9, y9, r0, w0', r1, w1'⟩ := S4.out.q.all
  go_wp2_with fail
  clear q0 y0 q1 y1 q2 y2 q3 y3 q4 y4 q5 y5 q6 y6 q7 y7 q8 y8 q9 y9 r0 w0' r1 w1'
  clear a0 a1 a2 a3 a4 a5 a6 a7 a8 a9
  obtain ⟨u, t, fq, v0, v1, v2, v3, v4, v5, v6, v7, v8, v9, t0, t1⟩ := S4.out.q.put (.int .u32 ((R) 0)) (.int .u32 ((R) 1)) (.int .u32 ((R) 2)) (.int .u32 ((R) 3)) (.int .u32 ((R) 4)) (.int .u32 ((R) 5)) (.int .u32 ((R) 6)) (.int .u32 ((R) 7)) (.int .u32 (w32 (nx + m))) (.int .u32 (f % 16)) (.int .i64 0) (.int .u32 0)
  have bp := (upto_put (h := w.heap.size + 1) (g := w.heap.size + 1 + 1) U4.out (.inr (by omega)) (.inr (by omega)) (.int .u32 ((R) 0)) (.int .u32 ((R) 1)) (.int .u32 ((R) 2)) (.int .u32 ((R) 3)) (.int .u32 ((R) 4)) (.int .u32 ((R) 5)) (.int .u32 ((R) 6)) (.int .u32 ((R) 7)) (.int .u32 (w32 (nx + m))) (.int .u32 (f % 16)) (.int .i64 0) (.int .u32 0))
  have hp := (M4.out.upto (upto_put (h := w.heap.size + 1) (g := w.heap.size + 1 + 1) (Upto.refl (fun i => i = w.heap.size + 1 ∨ i = w.heap.size + 1 + 1) W3) (.inl (.inl rfl)) (.inl (.inr rfl)) (.int .u32 ((R) 0)) (.int .u32 ((R) 1)) (.int .u32 ((R) 2)) (.int .u32 ((R) 3)) (.int .u32 ((R) 4)) (.int .u32 ((R) 5)) (.int .u32 ((R) 6)) (.int .u32 ((R) 7)) (.int .u32 (w32 (nx + m))) (.int .u32 (f % 16)) (.int .i64 0) (.int .u32 0)) (fun j hj hx => hW0.out j (by rcases hx with hx | hx <;> omega) hj))
  have fq2 := fq
  clear fq
  obtain ⟨g0, g1, g2, g3, g4, g5, g6, g7, g8, g9, o0, o1⟩ := fq2.got v0 v1 v2 v3 v4 v5 v6 v7 v8 v9 t0 t1
  exact bodyPost_ret (v := outV ⟨M, R, w32 (nx + m), f % 16, 0, 0⟩) (by simp [outV, stV, results, Try.results36, go_sem, g0, g1, g2, g3, g4, g5, g6, g7, g8, g9, o0, o1]) rfl ⟨rfl, hp, bp⟩
set_option maxRecDepth 100000 in
set_option maxHeartbeats 16000000 in
theorem rs_9 (P : RP) (M : MM) (d s : Nat) (o m n : Int) (w : World) (h : RM P M w) (hM : MOk M) (hR : ROk R) (c0 : 0 ≤ pc) (c1 : pc < 4294967296) (f0 : 0 ≤ f) (f1 : f < 4294967296) (n0 : 0 ≤ n) (n1 : n < 8) (hd : d < 8) (hs' : s < 8) (o0 : 0 ≤ o) (o1 : o < 16) (m0 : 0 ≤ m) (m1 : m < 4294967296)
    (hs : insV M pc = .tuple #[agg5 9 d s o m, .int .i64 n, .agg #[.int .i64 0, .int .u32 0]]) :
    Calls Try.prog 36 #[.pointer (some ⟨P.q, 0, none⟩), stV R pc f] w fun e w' => e = .returned (outV ⟨M, R, R s, f % 16, 0, 0⟩) ∧ RM P M w' ∧ Upto P.has w w' := by
  have CF := Lib.hid (fun w h => rins_all P M pc w h hM c0 c1)
  rw [hs] at CF
  have en : n % 4294967296 = n := by omega
  have ew : (pc + n) % 4294967296 = w32 (pc + n) := rfl
  have S0 := S3.new w R pc (f % 16)
  have B0 : Below w.heap.size w (((w.alloc (.cells (stL R pc (f % 16)) 72)).alloc (.cells Z10 72)).alloc (.cells Z2 46)) := (((Below.refl _ _).alloc (Nat.le_refl _) _).alloc (by simp) _).alloc (by simp; omega) _
  have HH := Lib.hid (h.upto (Upto.of_below (S := fun _ => False) B0) (fun _ _ => id))
  unfold stL Z10 Z2 at S0 B0 HH
  unfold agg5 at CF
  unfold stV
  have hW0 := Lib.hid (fun i (hi : w.heap.size ≤ i) (hp : P.has i) => show False by have := rm_lt h hp; omega)
  have hd0 : (0 : Int) ≤ (d : Int) := by omega
  have hd1 : (d : Int) < 8 := by omega
  have hs0 : (0 : Int) ≤ (s : Int) := by omega
  have hs1 : (s : Int) < 8 := by omega
  have nxb := w32_bd (pc + n)
  obtain ⟨nx, hnx⟩ : ∃ nx, w32 (pc + n) = nx := ⟨_, rfl⟩
  rw [hnx] at ew nxb
  try rw [hnx]
  clear h hs
  go_enter Try.func36, Try.ntmps36
  go_wp2_with fail
  generalize ((w.alloc (.cells #[.int .u32 (R 0), .int .u32 (R 1), .int .u32 (R 2), .int .u32 (R 3), .int .u32 (R 4), .int .u32 (R 5), .int .u32 (R 6), .int .u32 (R 7), .int .u32 pc, .int .u32 (f % 16)] 72)).alloc (.cells #[.int .u32 0, .int .u32 0, .int .u32 0, .int .u32 0, .int .u32 0, .int .u32 0, .int .u32 0, .int .u32 0, .int .u32 0, .int .u32 0] 72)).alloc (.cells #[.int .i64 0, .int .u32 0] 46) = WA at S0 B0 HH ⊢
  have HS := Lib.hid S0
  have HB := Lib.hid B0
  clear S0 B0
  go_upto_region 8 with (go_at_call 82; (with_reducible refine (CF.out _ HH.out).mono ?_); rintro e w1 ⟨rfl, b1⟩; have HS1 := Lib.hid (HS.out.below b1); have HH1 := Lib.hid (HH.out.upto (Upto.of_below (S := fun _ => False) b1) (fun _ _ => id)); have lw := HS1.out.q.lb; obtain ⟨s0, s1, s2, s3, s4, s5, s6, s7, s8, s9⟩ := HS1.out.all; have lh : w.heap.size < w1.heap.size := by omega)
  obtain ⟨nx1, nt1, nu1⟩ := st_new w1 R nx (f % 16) 9 d s o m
  have lT := nt1.l
  have M1 := Lib.hid (HH1.out.upto nu1 (fun _ _ => id))
  have U1 := Lib.hid ((Upto.of_below (S := P.has) (HB.out.trans (b1.mono HB.out.size))).trans (nu1.mono (T := P.has) fun _ _ h => h.elim))
  have S1 := Lib.hid (HS1.out.upto nu1 id id id)
  clear s0 s1 s2 s3 s4 s5 s6 s7 s8 s9
  unfold stL Z2 at nx1 nt1 nu1 lT M1 U1 S1
  generalize ((w1.alloc (.cells #[.int .i64 9, .int .i64 d, .int .i64 s, .int .i64 o, .int .u32 m] 149)).alloc (.cells #[.int .i64 0, .int .u32 0] 46)).alloc (.cells #[.int .u32 (R 0), .int .u32 (R 1), .int .u32 (R 2), .int .u32 (R 3), .int .u32 (R 4), .int .u32 (R 5), .int .u32 (R 6), .int .u32 (R 7), .int .u32 nx, .int .u32 (f % 16)] 72) = WB at nx1 nt1 nu1 lT M1 U1 S1 ⊢
  have X1 := Lib.hid nx1
  have T1 := Lib.hid nt1
  clear nx1 nt1 nu1
  have na00 : ¬ w1.heap.size = w.heap.size := by omega
  have nb00 : ¬ w.heap.size = w1.heap.size := by omega
  have na01 : ¬ w1.heap.size = w.heap.size + 1 := by omega
  have nb01 : ¬ w.heap.size + 1 = w1.heap.size := by omega
  have na02 : ¬ w1.heap.size = w.heap.size + 1 + 1 := by omega
  have nb02 : ¬ w.heap.size + 1 + 1 = w1.heap.size := by omega
  have na20 : ¬ w1.heap.size + 1 + 1 = w.heap.size := by omega
  have nb20 : ¬ w.heap.size = w1.heap.size + 1 + 1 := by omega
  have na21 : ¬ w1.heap.size + 1 + 1 = w.heap.size + 1 := by omega
  have nb21 : ¬ w.heap.size + 1 = w1.heap.size + 1 + 1 := by omega
  have na22 : ¬ w1.heap.size + 1 + 1 = w.heap.size + 1 + 1 := by omega
  have nb22 : ¬ w.heap.size + 1 + 1 = w1.heap.size + 1 + 1 := by omega
  have x0 := X1.out.c0
  have x1 := X1.out.c1
  have x2 := X1.out.c2
  have x3 := X1.out.c3
  have x4 := X1.out.c4
  have lX := X1.out.l
  have sd := S1.out.s d hd
  have ss := S1.out.s s hs'
  have s9 := S1.out.s9
  have td := T1.out.r d hd
  have t8 := T1.out.c8
  have t9 := T1.out.c9
  have zd := T1.out.z d
  have z8 := T1.out.z 8
  have z9 := T1.out.z 9
  go_upto_region 57 with fail
  have t4 := T1.out.setPc (R s)
  clear x0 x1 x2 x3 x4 lX sd ss s9 td t8 t9 zd z8 z9
  have m4 : RM P M (WB.setCell ⟨w1.heap.size + 1 + 1, 8, none⟩ (.int .u32 (R s))) := by repeat (first | exact M1.out | apply RM.drew | refine rm_setA ?_ (hW0.out _ (by omega)))
  have u4 : Upto P.has w (WB.setCell ⟨w1.heap.size + 1 + 1, 8, none⟩ (.int .u32 (R s))) := by repeat (first | exact U1.out | apply Upto.drew | refine upto_big ?_ (by omega))
  have s4 : S3 w.heap.size R pc (f % 16) (WB.setCell ⟨w1.heap.size + 1 + 1, 8, none⟩ (.int .u32 (R s))) := by repeat (first | exact S1.out | apply S3.drew | refine s3_off ?_ (by omega) (by omega) (by omega))
  generalize WB.setCell ⟨w1.heap.size + 1 + 1, 8, none⟩ (.int .u32 (R s)) = W3 at t4 m4 u4 s4  ⊢
  have T4 := Lib.hid t4
  have M4 := Lib.hid m4
  have U4 := Lib.hid u4
  have S4 := Lib.hid s4
  clear t4 m4 u4 s4
  obtain ⟨a0, a1, a2, a3, a4, a5, a6, a7, a8, a9⟩ := T4.out.all
  have lT4 := T4.out.l
  obtain ⟨q0, y0, q1, y1, q2, y2, q3, y3, q4, y4, q5, y5, q6, y6, q7, y7, q8, y8, q9, y9, r0, w0', r1, w1'⟩ := S4.out.q.all
  go_wp2_with fail
  clear q0 y0 q1 y1 q2 y2 q3 y3 q4 y4 q5 y5 q6 y6 q7 y7 q8 y8 q9 y9 r0 w0' r1 w1'
  clear a0 a1 a2 a3 a4 a5 a6 a7 a8 a9
  obtain ⟨u, t, fq, v0, v1, v2, v3, v4, v5, v6, v7, v8, v9, t0, t1⟩ := S4.out.q.put (.int .u32 ((R) 0)) (.int .u32 ((R) 1)) (.int .u32 ((R) 2)) (.int .u32 ((R) 3)) (.int .u32 ((R) 4)) (.int .u32 ((R) 5)) (.int .u32 ((R) 6)) (.int .u32 ((R) 7)) (.int .u32 (R s)) (.int .u32 (f % 16)) (.int .i64 0) (.int .u32 0)
  have bp := (upto_put (h := w.heap.size + 1) (g := w.heap.size + 1 + 1) U4.out (.inr (by omega)) (.inr (by omega)) (.int .u32 ((R) 0)) (.int .u32 ((R) 1)) (.int .u32 ((R) 2)) (.int .u32 ((R) 3)) (.int .u32 ((R) 4)) (.int .u32 ((R) 5)) (.int .u32 ((R) 6)) (.int .u32 ((R) 7)) (.int .u32 (R s)) (.int .u32 (f % 16)) (.int .i64 0) (.int .u32 0))
  have hp := (M4.out.upto (upto_put (h := w.heap.size + 1) (g := w.heap.size + 1 + 1) (Upto.refl (fun i => i = w.heap.size + 1 ∨ i = w.heap.size + 1 + 1) W3) (.inl (.inl rfl)) (.inl (.inr rfl)) (.int .u32 ((R) 0)) (.int .u32 ((R) 1)) (.int .u32 ((R) 2)) (.int .u32 ((R) 3)) (.int .u32 ((R) 4)) (.int .u32 ((R) 5)) (.int .u32 ((R) 6)) (.int .u32 ((R) 7)) (.int .u32 (R s)) (.int .u32 (f % 16)) (.int .i64 0) (.int .u32 0)) (fun j hj hx => hW0.out j (by rcases hx with hx | hx <;> omega) hj))
  have fq2 := fq
  clear fq
  obtain ⟨g0, g1, g2, g3, g4, g5, g6, g7, g8, g9, o0, o1⟩ := fq2.got v0 v1 v2 v3 v4 v5 v6 v7 v8 v9 t0 t1
  exact bodyPost_ret (v := outV ⟨M, R, R s, f % 16, 0, 0⟩) (by simp [outV, stV, results, Try.results36, go_sem, g0, g1, g2, g3, g4, g5, g6, g7, g8, g9, o0, o1]) rfl ⟨rfl, hp, bp⟩
end Go.Proofs.Ytcjcmnnhmajocab.St
