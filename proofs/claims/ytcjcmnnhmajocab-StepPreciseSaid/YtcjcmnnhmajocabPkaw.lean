/- interp.Step, an instruction read. -/
import Derived.Test.YtcjcmnnhmajocabPkas
import Derived.Test.YtcjcmnnhmajocabPkat
namespace Go.Proofs.Ytcjcmnnhmajocab.St
open Go.RowKit Kt Me Fl Gu
set_option linter.unusedVariables false
set_option linter.unusedSimpArgs false
/-- interp.at's cells, as Step makes it -/
def atL (p : Nat) (R : Nat → Int) (pc f nx : Int) : Array Value := #[.pointer (some ⟨p, 0, none⟩), .int .u32 (R 0), .int .u32 (R 1), .int .u32 (R 2), .int .u32 (R 3), .int .u32 (R 4), .int .u32 (R 5), .int .u32 (R 6), .int .u32 (R 7), .int .u32 pc, .int .u32 f, .int .u32 nx, .int .i64 0, .int .u32 0]
theorem AtB.new (p : Nat) (R : Nat → Int) (pc f nx : Int) (w : World) (t : TypeId) : AtB w.heap.size p R pc f nx 0 0 (w.alloc (.cells (atL p R pc f nx) t)) := by
  have A : ∀ i, (w.alloc (.cells (atL p R pc f nx) t)).cell? ⟨w.heap.size, i, none⟩ = (atL p R pc f nx)[i]? := fun i => box_at w _ _ i
  refine ⟨A 0, fun j hj => ?_, A 9, A 10, A 11, A 12, A 13, fun i => fz_new w _ _ i, by simp⟩
  rw [A (1 + j)]
  rcases (show j = 0 ∨ j = 1 ∨ j = 2 ∨ j = 3 ∨ j = 4 ∨ j = 5 ∨ j = 6 ∨ j = 7 by omega) with rfl | rfl | rfl | rfl | rfl | rfl | rfl | rfl <;> rfl
theorem up_AS {A p : Nat} {w a b : World} (h : Upto (fun i => i = p) w a) (k : Upto (AS A p) a b) (hA : w.heap.size ≤ A) : Upto (fun i => i = p) w b :=
  ((h.mono (T := AS A p) fun _ _ e => .inr e).trans k).mono (fun i hi hx => hx.elim (fun e => absurd hi (by omega)) id)
theorem upto_eqA {A i : Nat} {v : Value} {w : World} : Upto (fun j => j = A) w (w.setCell ⟨A, i, none⟩ v) := (Upto.refl (fun j => j = A) w).setCell (q := ⟨A, i, none⟩) (.inl rfl) v
set_option maxRecDepth 100000 in
set_option maxHeartbeats 16000000 in
theorem step_go (p : Nat) (M : MM) (R : Nat → Int) (pc f : Int) (k : Int) (d s : Nat) (o m n : Int) (w : World) (h : HC p M w) (hM : MOk M) (hR : ROk R) (c0 : 0 ≤ pc) (c1 : pc < 4294967296) (f0 : 0 ≤ f) (f1 : f < 4294967296) (n0 : 0 ≤ n) (n1 : n < 8) (hd : d < 8) (hs' : s < 8) (o0 : 0 ≤ o) (o1 : o < 16) (m0 : 0 ≤ m) (m1 : m < 4294967296) (k0 : 0 ≤ k) (k1 : k < 32) (h30 : k = 30 → o < 5) (h31 : k = 31 → o < 3)
    (hs : insV M pc = .tuple #[agg5 k d s o m, .int .i64 n, .agg #[.int .i64 0, .int .u32 0]]) :
    Calls Try.prog 34 #[.pointer (some ⟨p, 0, none⟩), stV R pc f] w fun e w' => e = .returned (outV (stay R pc (f % 16) (opO M R pc (f % 16) (w32 (pc + n)) k d s o m))) ∧ HC p (opO M R pc (f % 16) (w32 (pc + n)) k d s o m).M w' ∧ Upto (fun i => i = p) w w' := by
  have CF := Lib.hid (fun w h => fetch_all p M pc w h hM c0 c1)
  rw [hs] at CF
  have e15 : bits .and .u32 f 15 = f % 16 := mask15 f f0 f1
  have f0' : 0 ≤ f % 16 := by omega
  have f1' : f % 16 < 16 := by omega
  have hx := w32_bd (pc + n)
  have CY := fun (A : Nat) (hk : k = 0 ∨ 16 ≤ k ∧ k < 32) w h hm hne => plain_yes (A := A) (p := p) (R := R) (pc := pc) (f := f % 16) (nx := w32 (pc + n)) M k d s o m hd hs' w h hm hM hR hne m0 m1 f0' f1' o0 o1 hk h30 h31
  have CN := fun (A : Nat) (h1 : 1 ≤ k) (h2 : k < 16) w h hm hne => pl_no (A := A) (p := p) (R := R) (pc := pc) (f := f % 16) (nx := w32 (pc + n)) M k h1 h2 d s o m hd hs' w h hm hM hR hne m0 m1 f0' f1' o0 o1
  have CV := fun (A : Nat) (hk : 1 ≤ k ∧ k < 16) w h hm hne => moves_yes (A := A) (p := p) (R := R) (pc := pc) (f := f % 16) (nx := w32 (pc + n)) M k d s o m hd hs' w h hm hM hR hne m0 m1 f0' f1' o0 o1 hx.1 hx.2 hk
  obtain ⟨⟨M2, R2, pc2, f2, k2, x2⟩, hO⟩ : ∃ O, opO M R pc (f % 16) (w32 (pc + n)) k d s o m = O := ⟨_, rfl⟩
  rw [hO]
  simp only [hO, insL] at CY CN CV
  have CY := Lib.hid CY
  have CN := Lib.hid CN
  have CV := Lib.hid CV
  clear hx hO
  have en : n % 4294967296 = n := by omega
  have ew : (pc + n) % 4294967296 = w32 (pc + n) := rfl
  have S0 := S3.new w R pc (f % 16)
  have B0 : Below w.heap.size w (((w.alloc (.cells (stL R pc (f % 16)) 72)).alloc (.cells Z10 72)).alloc (.cells Z2 46)) := (((Below.refl _ _).alloc (Nat.le_refl _) _).alloc (by simp) _).alloc (by simp; omega) _
  have HH := Lib.hid (h.upto (Upto.of_below (S := fun _ => False) B0) id)
  unfold stL Z10 Z2 at S0 B0 HH
  unfold agg5 at CF
  unfold stV
  have lpH := Lib.hid (show p < w.heap.size from h.2.2.2.2.2.2)
  clear h hs
  go_enter Try.func34, Try.ntmps34
  go_wp2_with fail
  generalize ((w.alloc (.cells #[.int .u32 (R 0), .int .u32 (R 1), .int .u32 (R 2), .int .u32 (R 3), .int .u32 (R 4), .int .u32 (R 5), .int .u32 (R 6), .int .u32 (R 7), .int .u32 pc, .int .u32 (f % 16)] 72)).alloc (.cells #[.int .u32 0, .int .u32 0, .int .u32 0, .int .u32 0, .int .u32 0, .int .u32 0, .int .u32 0, .int .u32 0, .int .u32 0, .int .u32 0] 72)).alloc (.cells #[.int .i64 0, .int .u32 0] 46) = WA at S0 B0 HH ⊢
  have HS := Lib.hid S0
  have HB := Lib.hid B0
  clear S0 B0
  go_wp2_with (go_at_call 78; (with_reducible refine (CF.out _ HH.out).mono ?_); rintro e w1 ⟨rfl, b1⟩; have HS1 := Lib.hid (HS.out.below b1); have HH1 := Lib.hid (HH.out.upto (Upto.of_below (S := fun _ => False) b1) id); have lw := HS1.out.q.lb; have s0 := HS1.out.s 0 (by omega); have s1 := HS1.out.s 1 (by omega); have s2 := HS1.out.s 2 (by omega); have s3 := HS1.out.s 3 (by omega); have s4 := HS1.out.s 4 (by omega); have s5 := HS1.out.s 5 (by omega); have s6 := HS1.out.s 6 (by omega); have s7 := HS1.out.s 7 (by omega); have s8 := HS1.out.s8; have s9 := HS1.out.s9; have lh : w.heap.size < w1.heap.size := by omega)
  have e2 : ((w1.alloc (.cells #[.int .i64 k, .int .i64 d, .int .i64 s, .int .i64 o, .int .u32 m] 149)).alloc (.cells #[.int .i64 0, .int .u32 0] 46)).heap.size = w1.heap.size + 1 + 1 := by simp
  have HA0 := AtB.new p R pc (f % 16) (w32 (pc + n)) ((w1.alloc (.cells #[.int .i64 k, .int .i64 d, .int .i64 s, .int .i64 o, .int .u32 m] 149)).alloc (.cells #[.int .i64 0, .int .u32 0] 46)) 154
  rw [e2] at HA0
  unfold atL at HA0
  have i0 := box_at w1 #[.int .i64 k, .int .i64 d, .int .i64 s, .int .i64 o, .int .u32 m] 149 0
  have i1 := box_at w1 #[.int .i64 k, .int .i64 d, .int .i64 s, .int .i64 o, .int .u32 m] 149 1
  have i2 := box_at w1 #[.int .i64 k, .int .i64 d, .int .i64 s, .int .i64 o, .int .u32 m] 149 2
  have i3 := box_at w1 #[.int .i64 k, .int .i64 d, .int .i64 s, .int .i64 o, .int .u32 m] 149 3
  have i4 := box_at w1 #[.int .i64 k, .int .i64 d, .int .i64 s, .int .i64 o, .int .u32 m] 149 4
  simp only [List.getElem?_toArray, List.getElem?_cons_zero, List.getElem?_cons_succ] at i0 i1 i2 i3 i4
  have bI : Below (w1.alloc (.cells #[.int .i64 k, .int .i64 d, .int .i64 s, .int .i64 o, .int .u32 m] 149)).heap.size (w1.alloc (.cells #[.int .i64 k, .int .i64 d, .int .i64 s, .int .i64 o, .int .u32 m] 149)) (((w1.alloc (.cells #[.int .i64 k, .int .i64 d, .int .i64 s, .int .i64 o, .int .u32 m] 149)).alloc (.cells #[.int .i64 0, .int .u32 0] 46)).alloc (.cells #[.pointer (some ⟨p, 0, none⟩), .int .u32 (R 0), .int .u32 (R 1), .int .u32 (R 2), .int .u32 (R 3), .int .u32 (R 4), .int .u32 (R 5), .int .u32 (R 6), .int .u32 (R 7), .int .u32 pc, .int .u32 (f % 16), .int .u32 (w32 (pc + n)), .int .i64 0, .int .u32 0] 154)) := ((Below.refl _ _).alloc (Nat.le_refl _) _).alloc (by simp) _
  have eI : (w1.alloc (.cells #[.int .i64 k, .int .i64 d, .int .i64 s, .int .i64 o, .int .u32 m] 149)).heap.size = w1.heap.size + 1 := by simp
  have lI : w1.heap.size < (w1.alloc (.cells #[.int .i64 k, .int .i64 d, .int .i64 s, .int .i64 o, .int .u32 m] 149)).heap.size := by omega
  have j0 := (bI.cell (p := ⟨w1.heap.size, 0, none⟩) lI).trans i0
  have j1 := (bI.cell (p := ⟨w1.heap.size, 1, none⟩) lI).trans i1
  have j2 := (bI.cell (p := ⟨w1.heap.size, 2, none⟩) lI).trans i2
  have j3 := (bI.cell (p := ⟨w1.heap.size, 3, none⟩) lI).trans i3
  have j4 := (bI.cell (p := ⟨w1.heap.size, 4, none⟩) lI).trans i4
  have b2 : Below w1.heap.size w1 (((w1.alloc (.cells #[.int .i64 k, .int .i64 d, .int .i64 s, .int .i64 o, .int .u32 m] 149)).alloc (.cells #[.int .i64 0, .int .u32 0] 46)).alloc (.cells #[.pointer (some ⟨p, 0, none⟩), .int .u32 (R 0), .int .u32 (R 1), .int .u32 (R 2), .int .u32 (R 3), .int .u32 (R 4), .int .u32 (R 5), .int .u32 (R 6), .int .u32 (R 7), .int .u32 pc, .int .u32 (f % 16), .int .u32 (w32 (pc + n)), .int .i64 0, .int .u32 0] 154)) := (((Below.refl _ _).alloc (Nat.le_refl _) _).alloc (by simp) _).alloc (by simp; omega) _
  have HS2 := Lib.hid (HS1.out.below b2)
  have HH2 := Lib.hid (HH1.out.upto (Upto.of_below (S := fun _ => False) b2) id)
  clear s0 s1 s2 s3 s4 s5 s6 s7 s8 s9 i0 i1 i2 i3 i4 bI lI eI e2
  generalize ((w1.alloc (.cells #[.int .i64 k, .int .i64 d, .int .i64 s, .int .i64 o, .int .u32 m] 149)).alloc (.cells #[.int .i64 0, .int .u32 0] 46)).alloc (.cells #[.pointer (some ⟨p, 0, none⟩), .int .u32 (R 0), .int .u32 (R 1), .int .u32 (R 2), .int .u32 (R 3), .int .u32 (R 4), .int .u32 (R 5), .int .u32 (R 6), .int .u32 (R 7), .int .u32 pc, .int .u32 (f % 16), .int .u32 (w32 (pc + n)), .int .i64 0, .int .u32 0] 154) = WB at HA0 j0 j1 j2 j3 j4 b2 HS2 HH2 ⊢
  have HA := Lib.hid HA0
  clear HA0
  have hAp : w1.heap.size + 1 + 1 ≠ p := by have := lpH.out; omega
  have lpw := lpH.out
  have hS0 : ¬ AS (w1.heap.size + 1 + 1) p w.heap.size := by intro h; rcases h with h | h <;> omega
  have hS1 : ¬ AS (w1.heap.size + 1 + 1) p (w.heap.size + 1) := by intro h; rcases h with h | h <;> omega
  have hS2 : ¬ AS (w1.heap.size + 1 + 1) p (w.heap.size + 1 + 1) := by intro h; rcases h with h | h <;> omega
  have n5 : ¬ w1.heap.size + 1 + 1 = w.heap.size := by omega
  have n6 : ¬ w.heap.size = w1.heap.size + 1 + 1 := by omega
  have n7 : ¬ w1.heap.size + 1 + 1 = w.heap.size + 1 := by omega
  have n8 : ¬ w.heap.size + 1 = w1.heap.size + 1 + 1 := by omega
  have n9 : ¬ w1.heap.size + 1 + 1 = w.heap.size + 1 + 1 := by omega
  have n10 : ¬ w.heap.size + 1 + 1 = w1.heap.size + 1 + 1 := by omega
  by_cases hk : k = 0 ∨ 16 ≤ k ∧ k < 32
  · refine (CY.out _ hk _ HA.out HH2.out hAp).mono ?_
    rintro e w2 ⟨rfl, R', f', nx', a2, hm2, u2, hq⟩
    have UU := u2
    clear u2
    have HA2 : Hid (AtB (w1.heap.size + 1 + 1) p R' pc f' nx' k2 x2 w2) := Lib.hid a2
    have c12 := HA2.out.c12
    have l12 := HA2.out.l
    have HM2 : Hid (HC p M2 w2) := Lib.hid hm2
    have HU2 := Lib.hid (show Upto (AS (w1.heap.size + 1 + 1) p) WB w2 from UU)
    clear a2 hm2
    rcases (show k2 = 0 ∨ k2 = 1 ∨ (k2 ≠ 0 ∧ k2 ≠ 1) by omega) with rfl | rfl | ⟨hk0, hk1⟩
    · obtain ⟨rfl, rfl, rfl⟩ := hq (.inl rfl)
      have es : stay R pc (f % 16) ⟨M2, R', nx', f', 0, x2⟩ = ⟨M2, R', nx', f', 0, x2⟩ := if_pos (.inl rfl)
      have c9 := HA2.out.c9
      have c11 := HA2.out.c11
      have z9 := HA2.out.z 9
      go_wp2_with fail
      have H4 := HA2.out.setPc nx'
      have S4 := S3.upto (S := fun j => j = w1.heap.size + 1 + 1) (HS2.out.upto HU2.out hS0 hS1 hS2) (upto_eqA (i := 9) (v := .int .u32 nx')) (by omega) (by omega) (by omega)
      have m4 := hc_setA (i := 9) (v := .int .u32 nx') HM2.out hAp
      have u4 := up_setA (i := 9) (v := .int .u32 nx') HU2.out
      clear c9 c11 z9 c12 l12
      generalize w2.setCell ⟨w1.heap.size + 1 + 1, 9, none⟩ (.int .u32 nx') = W3 at H4 S4 m4 u4 ⊢
      have HS4 := Lib.hid S4
      have HM4 := Lib.hid m4
      have U4 := Lib.hid u4
      clear S4 m4 u4
      have a0 : W3.cell? ⟨w1.heap.size + 1 + 1, 1, none⟩ = _ := H4.r 0 (by omega)
      have a1 : W3.cell? ⟨w1.heap.size + 1 + 1, 2, none⟩ = _ := H4.r 1 (by omega)
      have a2 : W3.cell? ⟨w1.heap.size + 1 + 1, 3, none⟩ = _ := H4.r 2 (by omega)
      have a3 : W3.cell? ⟨w1.heap.size + 1 + 1, 4, none⟩ = _ := H4.r 3 (by omega)
      have a4 : W3.cell? ⟨w1.heap.size + 1 + 1, 5, none⟩ = _ := H4.r 4 (by omega)
      have a5 : W3.cell? ⟨w1.heap.size + 1 + 1, 6, none⟩ = _ := H4.r 5 (by omega)
      have a6 : W3.cell? ⟨w1.heap.size + 1 + 1, 7, none⟩ = _ := H4.r 6 (by omega)
      have a7 : W3.cell? ⟨w1.heap.size + 1 + 1, 8, none⟩ = _ := H4.r 7 (by omega)
      have a8 := H4.c9
      have a9 := H4.c10
      have a10 := H4.c12
      have a11 := H4.c13
      have q0 := HS4.out.q.a 0 (by omega)
      have y0 := HS4.out.q.za 0
      have q1 := HS4.out.q.a 1 (by omega)
      have y1 := HS4.out.q.za 1
      have q2 := HS4.out.q.a 2 (by omega)
      have y2 := HS4.out.q.za 2
      have q3 := HS4.out.q.a 3 (by omega)
      have y3 := HS4.out.q.za 3
      have q4 := HS4.out.q.a 4 (by omega)
      have y4 := HS4.out.q.za 4
      have q5 := HS4.out.q.a 5 (by omega)
      have y5 := HS4.out.q.za 5
      have q6 := HS4.out.q.a 6 (by omega)
      have y6 := HS4.out.q.za 6
      have q7 := HS4.out.q.a 7 (by omega)
      have y7 := HS4.out.q.za 7
      have q8 := HS4.out.q.a 8 (by omega)
      have y8 := HS4.out.q.za 8
      have q9 := HS4.out.q.a 9 (by omega)
      have y9 := HS4.out.q.za 9
      have r0 := HS4.out.q.b 0 (by omega)
      have z0 := HS4.out.q.zb 0
      have r1 := HS4.out.q.b 1 (by omega)
      have z1 := HS4.out.q.zb 1
      go_region
      clear q0 y0 q1 y1 q2 y2 q3 y3 q4 y4 q5 y5 q6 y6 q7 y7 q8 y8 q9 y9 r0 z0 r1 z1
      clear a0 a1 a2 a3 a4 a5 a6 a7 a8 a9 a10 a11
      obtain ⟨u, t, fq, v0, v1, v2, v3, v4, v5, v6, v7, v8, v9, t0, t1⟩ := HS4.out.q.put (.int .u32 (R' 0)) (.int .u32 (R' 1)) (.int .u32 (R' 2)) (.int .u32 (R' 3)) (.int .u32 (R' 4)) (.int .u32 (R' 5)) (.int .u32 (R' 6)) (.int .u32 (R' 7)) (.int .u32 nx') (.int .u32 f') (.int .i64 0) (.int .u32 x2)
      have bw : Upto (fun i => i = p) w W3 := up_AS (Upto.of_below ((HB.out.trans (b1.mono HB.out.size)).trans (b2.mono (Nat.le_trans HB.out.size b1.size)))) U4.out (by omega)
      have bp := (upto_put bw (.inr (Nat.le_succ _)) (.inr (Nat.le_add_right _ 2)) (.int .u32 (R' 0)) (.int .u32 (R' 1)) (.int .u32 (R' 2)) (.int .u32 (R' 3)) (.int .u32 (R' 4)) (.int .u32 (R' 5)) (.int .u32 (R' 6)) (.int .u32 (R' 7)) (.int .u32 nx') (.int .u32 f') (.int .i64 0) (.int .u32 x2)).drew
      have hp := (HM4.out.upto (upto_put (Upto.refl (fun i => i = w.heap.size + 1 ∨ i = w.heap.size + 1 + 1) W3) (.inl (.inl rfl)) (.inl (.inr rfl)) (.int .u32 (R' 0)) (.int .u32 (R' 1)) (.int .u32 (R' 2)) (.int .u32 (R' 3)) (.int .u32 (R' 4)) (.int .u32 (R' 5)) (.int .u32 (R' 6)) (.int .u32 (R' 7)) (.int .u32 nx') (.int .u32 f') (.int .i64 0) (.int .u32 x2)) (by intro hx; have := lpH.out; rcases hx with hx | hx <;> omega)).drew
      have fq2 := fq.drew
      clear fq
      generalize World.drew _ = WZ at fq2 bp hp ⊢
      have g0 := fq2.a 0 (by omega)
      rw [v0] at g0
      have g1 := fq2.a 1 (by omega)
      rw [v1] at g1
      have g2 := fq2.a 2 (by omega)
      rw [v2] at g2
      have g3 := fq2.a 3 (by omega)
      rw [v3] at g3
      have g4 := fq2.a 4 (by omega)
      rw [v4] at g4
      have g5 := fq2.a 5 (by omega)
      rw [v5] at g5
      have g6 := fq2.a 6 (by omega)
      rw [v6] at g6
      have g7 := fq2.a 7 (by omega)
      rw [v7] at g7
      have g8 := fq2.a 8 (by omega)
      rw [v8] at g8
      have g9 := fq2.a 9 (by omega)
      rw [v9] at g9
      have o0 := fq2.b 0 (by omega)
      rw [t0] at o0
      have o1 := fq2.b 1 (by omega)
      rw [t1] at o1
      go_wp2_with fail
      exact bodyPost_ret (v := outV ⟨M2, R', nx', f', 0, x2⟩) (by simp [outV, stV, results, Try.results34, go_sem, g0, g1, g2, g3, g4, g5, g6, g7, g8, g9, o0, o1]) rfl ⟨by rw [es], hp, bp⟩
    · obtain ⟨rfl, rfl, rfl⟩ := hq (.inr rfl)
      have es : stay R pc (f % 16) ⟨M2, R', nx', f', 1, x2⟩ = ⟨M2, R', nx', f', 1, x2⟩ := if_pos (.inr rfl)
      have c9 := HA2.out.c9
      have c11 := HA2.out.c11
      have z9 := HA2.out.z 9
      go_wp2_with fail
      have H4 := HA2.out.setPc nx'
      have S4 := S3.upto (S := fun j => j = w1.heap.size + 1 + 1) (HS2.out.upto HU2.out hS0 hS1 hS2) (upto_eqA (i := 9) (v := .int .u32 nx')) (by omega) (by omega) (by omega)
      have m4 := hc_setA (i := 9) (v := .int .u32 nx') HM2.out hAp
      have u4 := up_setA (i := 9) (v := .int .u32 nx') HU2.out
      clear c9 c11 z9 c12 l12
      generalize w2.setCell ⟨w1.heap.size + 1 + 1, 9, none⟩ (.int .u32 nx') = W3 at H4 S4 m4 u4 ⊢
      have HS4 := Lib.hid S4
      have HM4 := Lib.hid m4
      have U4 := Lib.hid u4
      clear S4 m4 u4
      have a0 : W3.cell? ⟨w1.heap.size + 1 + 1, 1, none⟩ = _ := H4.r 0 (by omega)
      have a1 : W3.cell? ⟨w1.heap.size + 1 + 1, 2, none⟩ = _ := H4.r 1 (by omega)
      have a2 : W3.cell? ⟨w1.heap.size + 1 + 1, 3, none⟩ = _ := H4.r 2 (by omega)
      have a3 : W3.cell? ⟨w1.heap.size + 1 + 1, 4, none⟩ = _ := H4.r 3 (by omega)
      have a4 : W3.cell? ⟨w1.heap.size + 1 + 1, 5, none⟩ = _ := H4.r 4 (by omega)
      have a5 : W3.cell? ⟨w1.heap.size + 1 + 1, 6, none⟩ = _ := H4.r 5 (by omega)
      have a6 : W3.cell? ⟨w1.heap.size + 1 + 1, 7, none⟩ = _ := H4.r 6 (by omega)
      have a7 : W3.cell? ⟨w1.heap.size + 1 + 1, 8, none⟩ = _ := H4.r 7 (by omega)
      have a8 := H4.c9
      have a9 := H4.c10
      have a10 := H4.c12
      have a11 := H4.c13
      have q0 := HS4.out.q.a 0 (by omega)
      have y0 := HS4.out.q.za 0
      have q1 := HS4.out.q.a 1 (by omega)
      have y1 := HS4.out.q.za 1
      have q2 := HS4.out.q.a 2 (by omega)
      have y2 := HS4.out.q.za 2
      have q3 := HS4.out.q.a 3 (by omega)
      have y3 := HS4.out.q.za 3
      have q4 := HS4.out.q.a 4 (by omega)
      have y4 := HS4.out.q.za 4
      have q5 := HS4.out.q.a 5 (by omega)
      have y5 := HS4.out.q.za 5
      have q6 := HS4.out.q.a 6 (by omega)
      have y6 := HS4.out.q.za 6
      have q7 := HS4.out.q.a 7 (by omega)
      have y7 := HS4.out.q.za 7
      have q8 := HS4.out.q.a 8 (by omega)
      have y8 := HS4.out.q.za 8
      have q9 := HS4.out.q.a 9 (by omega)
      have y9 := HS4.out.q.za 9
      have r0 := HS4.out.q.b 0 (by omega)
      have z0 := HS4.out.q.zb 0
      have r1 := HS4.out.q.b 1 (by omega)
      have z1 := HS4.out.q.zb 1
      go_region
      clear q0 y0 q1 y1 q2 y2 q3 y3 q4 y4 q5 y5 q6 y6 q7 y7 q8 y8 q9 y9 r0 z0 r1 z1
      clear a0 a1 a2 a3 a4 a5 a6 a7 a8 a9 a10 a11
      obtain ⟨u, t, fq, v0, v1, v2, v3, v4, v5, v6, v7, v8, v9, t0, t1⟩ := HS4.out.q.put (.int .u32 (R' 0)) (.int .u32 (R' 1)) (.int .u32 (R' 2)) (.int .u32 (R' 3)) (.int .u32 (R' 4)) (.int .u32 (R' 5)) (.int .u32 (R' 6)) (.int .u32 (R' 7)) (.int .u32 nx') (.int .u32 f') (.int .i64 1) (.int .u32 x2)
      have bw : Upto (fun i => i = p) w W3 := up_AS (Upto.of_below ((HB.out.trans (b1.mono HB.out.size)).trans (b2.mono (Nat.le_trans HB.out.size b1.size)))) U4.out (by omega)
      have bp := (upto_put bw (.inr (Nat.le_succ _)) (.inr (Nat.le_add_right _ 2)) (.int .u32 (R' 0)) (.int .u32 (R' 1)) (.int .u32 (R' 2)) (.int .u32 (R' 3)) (.int .u32 (R' 4)) (.int .u32 (R' 5)) (.int .u32 (R' 6)) (.int .u32 (R' 7)) (.int .u32 nx') (.int .u32 f') (.int .i64 1) (.int .u32 x2)).drew
      have hp := (HM4.out.upto (upto_put (Upto.refl (fun i => i = w.heap.size + 1 ∨ i = w.heap.size + 1 + 1) W3) (.inl (.inl rfl)) (.inl (.inr rfl)) (.int .u32 (R' 0)) (.int .u32 (R' 1)) (.int .u32 (R' 2)) (.int .u32 (R' 3)) (.int .u32 (R' 4)) (.int .u32 (R' 5)) (.int .u32 (R' 6)) (.int .u32 (R' 7)) (.int .u32 nx') (.int .u32 f') (.int .i64 1) (.int .u32 x2)) (by intro hx; have := lpH.out; rcases hx with hx | hx <;> omega)).drew
      have fq2 := fq.drew
      clear fq
      generalize World.drew _ = WZ at fq2 bp hp ⊢
      have g0 := fq2.a 0 (by omega)
      rw [v0] at g0
      have g1 := fq2.a 1 (by omega)
      rw [v1] at g1
      have g2 := fq2.a 2 (by omega)
      rw [v2] at g2
      have g3 := fq2.a 3 (by omega)
      rw [v3] at g3
      have g4 := fq2.a 4 (by omega)
      rw [v4] at g4
      have g5 := fq2.a 5 (by omega)
      rw [v5] at g5
      have g6 := fq2.a 6 (by omega)
      rw [v6] at g6
      have g7 := fq2.a 7 (by omega)
      rw [v7] at g7
      have g8 := fq2.a 8 (by omega)
      rw [v8] at g8
      have g9 := fq2.a 9 (by omega)
      rw [v9] at g9
      have o0 := fq2.b 0 (by omega)
      rw [t0] at o0
      have o1 := fq2.b 1 (by omega)
      rw [t1] at o1
      go_wp2_with fail
      exact bodyPost_ret (v := outV ⟨M2, R', nx', f', 1, x2⟩) (by simp [outV, stV, results, Try.results34, go_sem, g0, g1, g2, g3, g4, g5, g6, g7, g8, g9, o0, o1]) rfl ⟨by rw [es], hp, bp⟩
    · have b0 : (k2 == 0) = false := by rw [beq_eq_false_iff_ne]; exact hk0
      have b1' : (k2 == 1) = false := by rw [beq_eq_false_iff_ne]; exact hk1
      have b2' : (k2 != 0) = true := by rw [bne, b0]; rfl
      have b3 : (k2 != 1) = true := by rw [bne, b1']; rfl
      have es : stay R pc (f % 16) ⟨M2, R2, pc2, f2, k2, x2⟩ = ⟨M2, R, pc, f % 16, k2, x2⟩ := if_neg (by intro h; rcases h with h | h; exact hk0 h; exact hk1 h)
      go_wp2_with fail
      have S4 := HS2.out.upto HU2.out hS0 hS1 hS2
      have H4 := HA2.out
      have m4 := HM2.out
      have u4 := HU2.out
      clear c12 l12 HA2 HM2 HU2
      have HS4 := Lib.hid S4
      have HM4 := Lib.hid m4
      have U4 := Lib.hid u4
      clear S4 m4 u4
      have s0 := HS4.out.s 0 (by omega)
      have s1 := HS4.out.s 1 (by omega)
      have s2 := HS4.out.s 2 (by omega)
      have s3 := HS4.out.s 3 (by omega)
      have s4 := HS4.out.s 4 (by omega)
      have s5 := HS4.out.s 5 (by omega)
      have s6 := HS4.out.s 6 (by omega)
      have s7 := HS4.out.s 7 (by omega)
      have s8 := HS4.out.s8
      have s9 := HS4.out.s9
      have a10 := H4.c12
      have a11 := H4.c13
      have q0 := HS4.out.q.a 0 (by omega)
      have y0 := HS4.out.q.za 0
      have q1 := HS4.out.q.a 1 (by omega)
      have y1 := HS4.out.q.za 1
      have q2 := HS4.out.q.a 2 (by omega)
      have y2 := HS4.out.q.za 2
      have q3 := HS4.out.q.a 3 (by omega)
      have y3 := HS4.out.q.za 3
      have q4 := HS4.out.q.a 4 (by omega)
      have y4 := HS4.out.q.za 4
      have q5 := HS4.out.q.a 5 (by omega)
      have y5 := HS4.out.q.za 5
      have q6 := HS4.out.q.a 6 (by omega)
      have y6 := HS4.out.q.za 6
      have q7 := HS4.out.q.a 7 (by omega)
      have y7 := HS4.out.q.za 7
      have q8 := HS4.out.q.a 8 (by omega)
      have y8 := HS4.out.q.za 8
      have q9 := HS4.out.q.a 9 (by omega)
      have y9 := HS4.out.q.za 9
      have r0 := HS4.out.q.b 0 (by omega)
      have z0 := HS4.out.q.zb 0
      have r1 := HS4.out.q.b 1 (by omega)
      have z1 := HS4.out.q.zb 1
      go_region
      clear q0 y0 q1 y1 q2 y2 q3 y3 q4 y4 q5 y5 q6 y6 q7 y7 q8 y8 q9 y9 r0 z0 r1 z1
      clear s0 s1 s2 s3 s4 s5 s6 s7 s8 s9 a10 a11
      obtain ⟨u, t, fq, v0, v1, v2, v3, v4, v5, v6, v7, v8, v9, t0, t1⟩ := HS4.out.q.put (.int .u32 (R 0)) (.int .u32 (R 1)) (.int .u32 (R 2)) (.int .u32 (R 3)) (.int .u32 (R 4)) (.int .u32 (R 5)) (.int .u32 (R 6)) (.int .u32 (R 7)) (.int .u32 pc) (.int .u32 (f % 16)) (.int .i64 k2) (.int .u32 x2)
      have bw : Upto (fun i => i = p) w w2 := up_AS (Upto.of_below ((HB.out.trans (b1.mono HB.out.size)).trans (b2.mono (Nat.le_trans HB.out.size b1.size)))) U4.out (by omega)
      have bp := (upto_put bw (.inr (Nat.le_succ _)) (.inr (Nat.le_add_right _ 2)) (.int .u32 (R 0)) (.int .u32 (R 1)) (.int .u32 (R 2)) (.int .u32 (R 3)) (.int .u32 (R 4)) (.int .u32 (R 5)) (.int .u32 (R 6)) (.int .u32 (R 7)) (.int .u32 pc) (.int .u32 (f % 16)) (.int .i64 k2) (.int .u32 x2)).drew
      have hp := (HM4.out.upto (upto_put (Upto.refl (fun i => i = w.heap.size + 1 ∨ i = w.heap.size + 1 + 1) w2) (.inl (.inl rfl)) (.inl (.inr rfl)) (.int .u32 (R 0)) (.int .u32 (R 1)) (.int .u32 (R 2)) (.int .u32 (R 3)) (.int .u32 (R 4)) (.int .u32 (R 5)) (.int .u32 (R 6)) (.int .u32 (R 7)) (.int .u32 pc) (.int .u32 (f % 16)) (.int .i64 k2) (.int .u32 x2)) (by intro hx; have := lpH.out; rcases hx with hx | hx <;> omega)).drew
      have fq2 := fq.drew
      clear fq
      generalize World.drew _ = WZ at fq2 bp hp ⊢
      have g0 := fq2.a 0 (by omega)
      rw [v0] at g0
      have g1 := fq2.a 1 (by omega)
      rw [v1] at g1
      have g2 := fq2.a 2 (by omega)
      rw [v2] at g2
      have g3 := fq2.a 3 (by omega)
      rw [v3] at g3
      have g4 := fq2.a 4 (by omega)
      rw [v4] at g4
      have g5 := fq2.a 5 (by omega)
      rw [v5] at g5
      have g6 := fq2.a 6 (by omega)
      rw [v6] at g6
      have g7 := fq2.a 7 (by omega)
      rw [v7] at g7
      have g8 := fq2.a 8 (by omega)
      rw [v8] at g8
      have g9 := fq2.a 9 (by omega)
      rw [v9] at g9
      have o0 := fq2.b 0 (by omega)
      rw [t0] at o0
      have o1 := fq2.b 1 (by omega)
      rw [t1] at o1
      go_wp2_with fail
      exact bodyPost_ret (v := outV ⟨M2, R, pc, f % 16, k2, x2⟩) (by simp [outV, stV, results, Try.results34, go_sem, g0, g1, g2, g3, g4, g5, g6, g7, g8, g9, o0, o1]) rfl ⟨by rw [es], hp, bp⟩
  · have lI2 : w1.heap.size < WB.heap.size := by have := HA.out.l; omega
    have hNI : ¬ AS (w1.heap.size + 1 + 1) p w1.heap.size := by intro h; rcases h with h | h <;> omega
    refine (CN.out _ (by omega) (by omega) _ HA.out HH2.out hAp).mono ?_
    rintro e w5 ⟨rfl, a5, m5, u5⟩
    have i0 := (u5.cell (q := ⟨w1.heap.size, 0, none⟩) lI2 hNI).trans j0
    have i1 := (u5.cell (q := ⟨w1.heap.size, 1, none⟩) lI2 hNI).trans j1
    have i2 := (u5.cell (q := ⟨w1.heap.size, 2, none⟩) lI2 hNI).trans j2
    have i3 := (u5.cell (q := ⟨w1.heap.size, 3, none⟩) lI2 hNI).trans j3
    have i4 := (u5.cell (q := ⟨w1.heap.size, 4, none⟩) lI2 hNI).trans j4
    have A5 := Lib.hid a5
    have M5 := Lib.hid m5
    have U5 := Lib.hid u5
    clear a5 m5 u5
    go_wp2_with fail
    refine (CV.out _ (by omega) _ A5.out M5.out hAp).mono ?_
    rintro e w2 ⟨rfl, R', f', nx', a2, hm2, u2, hq⟩
    have UU := U5.out.trans u2
    clear u2 A5 M5 U5 i0 i1 i2 i3 i4
    have HA2 : Hid (AtB (w1.heap.size + 1 + 1) p R' pc f' nx' k2 x2 w2) := Lib.hid a2
    have c12 := HA2.out.c12
    have l12 := HA2.out.l
    have HM2 : Hid (HC p M2 w2) := Lib.hid hm2
    have HU2 := Lib.hid (show Upto (AS (w1.heap.size + 1 + 1) p) WB w2 from UU)
    clear a2 hm2
    rcases (show k2 = 0 ∨ k2 = 1 ∨ (k2 ≠ 0 ∧ k2 ≠ 1) by omega) with rfl | rfl | ⟨hk0, hk1⟩
    · obtain ⟨rfl, rfl, rfl⟩ := hq (.inl rfl)
      have es : stay R pc (f % 16) ⟨M2, R', nx', f', 0, x2⟩ = ⟨M2, R', nx', f', 0, x2⟩ := if_pos (.inl rfl)
      have c9 := HA2.out.c9
      have c11 := HA2.out.c11
      have z9 := HA2.out.z 9
      go_wp2_with fail
      have H4 := HA2.out.setPc nx'
      have S4 := S3.upto (S := fun j => j = w1.heap.size + 1 + 1) (HS2.out.upto HU2.out hS0 hS1 hS2) (upto_eqA (i := 9) (v := .int .u32 nx')) (by omega) (by omega) (by omega)
      have m4 := hc_setA (i := 9) (v := .int .u32 nx') HM2.out hAp
      have u4 := up_setA (i := 9) (v := .int .u32 nx') HU2.out
      clear c9 c11 z9 c12 l12
      generalize w2.setCell ⟨w1.heap.size + 1 + 1, 9, none⟩ (.int .u32 nx') = W3 at H4 S4 m4 u4 ⊢
      have HS4 := Lib.hid S4
      have HM4 := Lib.hid m4
      have U4 := Lib.hid u4
      clear S4 m4 u4
      have a0 : W3.cell? ⟨w1.heap.size + 1 + 1, 1, none⟩ = _ := H4.r 0 (by omega)
      have a1 : W3.cell? ⟨w1.heap.size + 1 + 1, 2, none⟩ = _ := H4.r 1 (by omega)
      have a2 : W3.cell? ⟨w1.heap.size + 1 + 1, 3, none⟩ = _ := H4.r 2 (by omega)
      have a3 : W3.cell? ⟨w1.heap.size + 1 + 1, 4, none⟩ = _ := H4.r 3 (by omega)
      have a4 : W3.cell? ⟨w1.heap.size + 1 + 1, 5, none⟩ = _ := H4.r 4 (by omega)
      have a5 : W3.cell? ⟨w1.heap.size + 1 + 1, 6, none⟩ = _ := H4.r 5 (by omega)
      have a6 : W3.cell? ⟨w1.heap.size + 1 + 1, 7, none⟩ = _ := H4.r 6 (by omega)
      have a7 : W3.cell? ⟨w1.heap.size + 1 + 1, 8, none⟩ = _ := H4.r 7 (by omega)
      have a8 := H4.c9
      have a9 := H4.c10
      have a10 := H4.c12
      have a11 := H4.c13
      have q0 := HS4.out.q.a 0 (by omega)
      have y0 := HS4.out.q.za 0
      have q1 := HS4.out.q.a 1 (by omega)
      have y1 := HS4.out.q.za 1
      have q2 := HS4.out.q.a 2 (by omega)
      have y2 := HS4.out.q.za 2
      have q3 := HS4.out.q.a 3 (by omega)
      have y3 := HS4.out.q.za 3
      have q4 := HS4.out.q.a 4 (by omega)
      have y4 := HS4.out.q.za 4
      have q5 := HS4.out.q.a 5 (by omega)
      have y5 := HS4.out.q.za 5
      have q6 := HS4.out.q.a 6 (by omega)
      have y6 := HS4.out.q.za 6
      have q7 := HS4.out.q.a 7 (by omega)
      have y7 := HS4.out.q.za 7
      have q8 := HS4.out.q.a 8 (by omega)
      have y8 := HS4.out.q.za 8
      have q9 := HS4.out.q.a 9 (by omega)
      have y9 := HS4.out.q.za 9
      have r0 := HS4.out.q.b 0 (by omega)
      have z0 := HS4.out.q.zb 0
      have r1 := HS4.out.q.b 1 (by omega)
      have z1 := HS4.out.q.zb 1
      go_region
      clear q0 y0 q1 y1 q2 y2 q3 y3 q4 y4 q5 y5 q6 y6 q7 y7 q8 y8 q9 y9 r0 z0 r1 z1
      clear a0 a1 a2 a3 a4 a5 a6 a7 a8 a9 a10 a11
      obtain ⟨u, t, fq, v0, v1, v2, v3, v4, v5, v6, v7, v8, v9, t0, t1⟩ := HS4.out.q.put (.int .u32 (R' 0)) (.int .u32 (R' 1)) (.int .u32 (R' 2)) (.int .u32 (R' 3)) (.int .u32 (R' 4)) (.int .u32 (R' 5)) (.int .u32 (R' 6)) (.int .u32 (R' 7)) (.int .u32 nx') (.int .u32 f') (.int .i64 0) (.int .u32 x2)
      have bw : Upto (fun i => i = p) w W3 := up_AS (Upto.of_below ((HB.out.trans (b1.mono HB.out.size)).trans (b2.mono (Nat.le_trans HB.out.size b1.size)))) U4.out (by omega)
      have bp := (upto_put bw (.inr (Nat.le_succ _)) (.inr (Nat.le_add_right _ 2)) (.int .u32 (R' 0)) (.int .u32 (R' 1)) (.int .u32 (R' 2)) (.int .u32 (R' 3)) (.int .u32 (R' 4)) (.int .u32 (R' 5)) (.int .u32 (R' 6)) (.int .u32 (R' 7)) (.int .u32 nx') (.int .u32 f') (.int .i64 0) (.int .u32 x2)).drew
      have hp := (HM4.out.upto (upto_put (Upto.refl (fun i => i = w.heap.size + 1 ∨ i = w.heap.size + 1 + 1) W3) (.inl (.inl rfl)) (.inl (.inr rfl)) (.int .u32 (R' 0)) (.int .u32 (R' 1)) (.int .u32 (R' 2)) (.int .u32 (R' 3)) (.int .u32 (R' 4)) (.int .u32 (R' 5)) (.int .u32 (R' 6)) (.int .u32 (R' 7)) (.int .u32 nx') (.int .u32 f') (.int .i64 0) (.int .u32 x2)) (by intro hx; have := lpH.out; rcases hx with hx | hx <;> omega)).drew
      have fq2 := fq.drew
      clear fq
      generalize World.drew _ = WZ at fq2 bp hp ⊢
      have g0 := fq2.a 0 (by omega)
      rw [v0] at g0
      have g1 := fq2.a 1 (by omega)
      rw [v1] at g1
      have g2 := fq2.a 2 (by omega)
      rw [v2] at g2
      have g3 := fq2.a 3 (by omega)
      rw [v3] at g3
      have g4 := fq2.a 4 (by omega)
      rw [v4] at g4
      have g5 := fq2.a 5 (by omega)
      rw [v5] at g5
      have g6 := fq2.a 6 (by omega)
      rw [v6] at g6
      have g7 := fq2.a 7 (by omega)
      rw [v7] at g7
      have g8 := fq2.a 8 (by omega)
      rw [v8] at g8
      have g9 := fq2.a 9 (by omega)
      rw [v9] at g9
      have o0 := fq2.b 0 (by omega)
      rw [t0] at o0
      have o1 := fq2.b 1 (by omega)
      rw [t1] at o1
      go_wp2_with fail
      exact bodyPost_ret (v := outV ⟨M2, R', nx', f', 0, x2⟩) (by simp [outV, stV, results, Try.results34, go_sem, g0, g1, g2, g3, g4, g5, g6, g7, g8, g9, o0, o1]) rfl ⟨by rw [es], hp, bp⟩
    · obtain ⟨rfl, rfl, rfl⟩ := hq (.inr rfl)
      have es : stay R pc (f % 16) ⟨M2, R', nx', f', 1, x2⟩ = ⟨M2, R', nx', f', 1, x2⟩ := if_pos (.inr rfl)
      have c9 := HA2.out.c9
      have c11 := HA2.out.c11
      have z9 := HA2.out.z 9
      go_wp2_with fail
      have H4 := HA2.out.setPc nx'
      have S4 := S3.upto (S := fun j => j = w1.heap.size + 1 + 1) (HS2.out.upto HU2.out hS0 hS1 hS2) (upto_eqA (i := 9) (v := .int .u32 nx')) (by omega) (by omega) (by omega)
      have m4 := hc_setA (i := 9) (v := .int .u32 nx') HM2.out hAp
      have u4 := up_setA (i := 9) (v := .int .u32 nx') HU2.out
      clear c9 c11 z9 c12 l12
      generalize w2.setCell ⟨w1.heap.size + 1 + 1, 9, none⟩ (.int .u32 nx') = W3 at H4 S4 m4 u4 ⊢
      have HS4 := Lib.hid S4
      have HM4 := Lib.hid m4
      have U4 := Lib.hid u4
      clear S4 m4 u4
      have a0 : W3.cell? ⟨w1.heap.size + 1 + 1, 1, none⟩ = _ := H4.r 0 (by omega)
      have a1 : W3.cell? ⟨w1.heap.size + 1 + 1, 2, none⟩ = _ := H4.r 1 (by omega)
      have a2 : W3.cell? ⟨w1.heap.size + 1 + 1, 3, none⟩ = _ := H4.r 2 (by omega)
      have a3 : W3.cell? ⟨w1.heap.size + 1 + 1, 4, none⟩ = _ := H4.r 3 (by omega)
      have a4 : W3.cell? ⟨w1.heap.size + 1 + 1, 5, none⟩ = _ := H4.r 4 (by omega)
      have a5 : W3.cell? ⟨w1.heap.size + 1 + 1, 6, none⟩ = _ := H4.r 5 (by omega)
      have a6 : W3.cell? ⟨w1.heap.size + 1 + 1, 7, none⟩ = _ := H4.r 6 (by omega)
      have a7 : W3.cell? ⟨w1.heap.size + 1 + 1, 8, none⟩ = _ := H4.r 7 (by omega)
      have a8 := H4.c9
      have a9 := H4.c10
      have a10 := H4.c12
      have a11 := H4.c13
      have q0 := HS4.out.q.a 0 (by omega)
      have y0 := HS4.out.q.za 0
      have q1 := HS4.out.q.a 1 (by omega)
      have y1 := HS4.out.q.za 1
      have q2 := HS4.out.q.a 2 (by omega)
      have y2 := HS4.out.q.za 2
      have q3 := HS4.out.q.a 3 (by omega)
      have y3 := HS4.out.q.za 3
      have q4 := HS4.out.q.a 4 (by omega)
      have y4 := HS4.out.q.za 4
      have q5 := HS4.out.q.a 5 (by omega)
      have y5 := HS4.out.q.za 5
      have q6 := HS4.out.q.a 6 (by omega)
      have y6 := HS4.out.q.za 6
      have q7 := HS4.out.q.a 7 (by omega)
      have y7 := HS4.out.q.za 7
      have q8 := HS4.out.q.a 8 (by omega)
      have y8 := HS4.out.q.za 8
      have q9 := HS4.out.q.a 9 (by omega)
      have y9 := HS4.out.q.za 9
      have r0 := HS4.out.q.b 0 (by omega)
      have z0 := HS4.out.q.zb 0
      have r1 := HS4.out.q.b 1 (by omega)
      have z1 := HS4.out.q.zb 1
      go_region
      clear q0 y0 q1 y1 q2 y2 q3 y3 q4 y4 q5 y5 q6 y6 q7 y7 q8 y8 q9 y9 r0 z0 r1 z1
      clear a0 a1 a2 a3 a4 a5 a6 a7 a8 a9 a10 a11
      obtain ⟨u, t, fq, v0, v1, v2, v3, v4, v5, v6, v7, v8, v9, t0, t1⟩ := HS4.out.q.put (.int .u32 (R' 0)) (.int .u32 (R' 1)) (.int .u32 (R' 2)) (.int .u32 (R' 3)) (.int .u32 (R' 4)) (.int .u32 (R' 5)) (.int .u32 (R' 6)) (.int .u32 (R' 7)) (.int .u32 nx') (.int .u32 f') (.int .i64 1) (.int .u32 x2)
      have bw : Upto (fun i => i = p) w W3 := up_AS (Upto.of_below ((HB.out.trans (b1.mono HB.out.size)).trans (b2.mono (Nat.le_trans HB.out.size b1.size)))) U4.out (by omega)
      have bp := (upto_put bw (.inr (Nat.le_succ _)) (.inr (Nat.le_add_right _ 2)) (.int .u32 (R' 0)) (.int .u32 (R' 1)) (.int .u32 (R' 2)) (.int .u32 (R' 3)) (.int .u32 (R' 4)) (.int .u32 (R' 5)) (.int .u32 (R' 6)) (.int .u32 (R' 7)) (.int .u32 nx') (.int .u32 f') (.int .i64 1) (.int .u32 x2)).drew
      have hp := (HM4.out.upto (upto_put (Upto.refl (fun i => i = w.heap.size + 1 ∨ i = w.heap.size + 1 + 1) W3) (.inl (.inl rfl)) (.inl (.inr rfl)) (.int .u32 (R' 0)) (.int .u32 (R' 1)) (.int .u32 (R' 2)) (.int .u32 (R' 3)) (.int .u32 (R' 4)) (.int .u32 (R' 5)) (.int .u32 (R' 6)) (.int .u32 (R' 7)) (.int .u32 nx') (.int .u32 f') (.int .i64 1) (.int .u32 x2)) (by intro hx; have := lpH.out; rcases hx with hx | hx <;> omega)).drew
      have fq2 := fq.drew
      clear fq
      generalize World.drew _ = WZ at fq2 bp hp ⊢
      have g0 := fq2.a 0 (by omega)
      rw [v0] at g0
      have g1 := fq2.a 1 (by omega)
      rw [v1] at g1
      have g2 := fq2.a 2 (by omega)
      rw [v2] at g2
      have g3 := fq2.a 3 (by omega)
      rw [v3] at g3
      have g4 := fq2.a 4 (by omega)
      rw [v4] at g4
      have g5 := fq2.a 5 (by omega)
      rw [v5] at g5
      have g6 := fq2.a 6 (by omega)
      rw [v6] at g6
      have g7 := fq2.a 7 (by omega)
      rw [v7] at g7
      have g8 := fq2.a 8 (by omega)
      rw [v8] at g8
      have g9 := fq2.a 9 (by omega)
      rw [v9] at g9
      have o0 := fq2.b 0 (by omega)
      rw [t0] at o0
      have o1 := fq2.b 1 (by omega)
      rw [t1] at o1
      go_wp2_with fail
      exact bodyPost_ret (v := outV ⟨M2, R', nx', f', 1, x2⟩) (by simp [outV, stV, results, Try.results34, go_sem, g0, g1, g2, g3, g4, g5, g6, g7, g8, g9, o0, o1]) rfl ⟨by rw [es], hp, bp⟩
    · have b0 : (k2 == 0) = false := by rw [beq_eq_false_iff_ne]; exact hk0
      have b1' : (k2 == 1) = false := by rw [beq_eq_false_iff_ne]; exact hk1
      have b2' : (k2 != 0) = true := by rw [bne, b0]; rfl
      have b3 : (k2 != 1) = true := by rw [bne, b1']; rfl
      have es : stay R pc (f % 16) ⟨M2, R2, pc2, f2, k2, x2⟩ = ⟨M2, R, pc, f % 16, k2, x2⟩ := if_neg (by intro h; rcases h with h | h; exact hk0 h; exact hk1 h)
      go_wp2_with fail
      have S4 := HS2.out.upto HU2.out hS0 hS1 hS2
      have H4 := HA2.out
      have m4 := HM2.out
      have u4 := HU2.out
      clear c12 l12 HA2 HM2 HU2
      have HS4 := Lib.hid S4
      have HM4 := Lib.hid m4
      have U4 := Lib.hid u4
      clear S4 m4 u4
      have s0 := HS4.out.s 0 (by omega)
      have s1 := HS4.out.s 1 (by omega)
      have s2 := HS4.out.s 2 (by omega)
      have s3 := HS4.out.s 3 (by omega)
      have s4 := HS4.out.s 4 (by omega)
      have s5 := HS4.out.s 5 (by omega)
      have s6 := HS4.out.s 6 (by omega)
      have s7 := HS4.out.s 7 (by omega)
      have s8 := HS4.out.s8
      have s9 := HS4.out.s9
      have a10 := H4.c12
      have a11 := H4.c13
      have q0 := HS4.out.q.a 0 (by omega)
      have y0 := HS4.out.q.za 0
      have q1 := HS4.out.q.a 1 (by omega)
      have y1 := HS4.out.q.za 1
      have q2 := HS4.out.q.a 2 (by omega)
      have y2 := HS4.out.q.za 2
      have q3 := HS4.out.q.a 3 (by omega)
      have y3 := HS4.out.q.za 3
      have q4 := HS4.out.q.a 4 (by omega)
      have y4 := HS4.out.q.za 4
      have q5 := HS4.out.q.a 5 (by omega)
      have y5 := HS4.out.q.za 5
      have q6 := HS4.out.q.a 6 (by omega)
      have y6 := HS4.out.q.za 6
      have q7 := HS4.out.q.a 7 (by omega)
      have y7 := HS4.out.q.za 7
      have q8 := HS4.out.q.a 8 (by omega)
      have y8 := HS4.out.q.za 8
      have q9 := HS4.out.q.a 9 (by omega)
      have y9 := HS4.out.q.za 9
      have r0 := HS4.out.q.b 0 (by omega)
      have z0 := HS4.out.q.zb 0
      have r1 := HS4.out.q.b 1 (by omega)
      have z1 := HS4.out.q.zb 1
      go_region
      clear q0 y0 q1 y1 q2 y2 q3 y3 q4 y4 q5 y5 q6 y6 q7 y7 q8 y8 q9 y9 r0 z0 r1 z1
      clear s0 s1 s2 s3 s4 s5 s6 s7 s8 s9 a10 a11
      obtain ⟨u, t, fq, v0, v1, v2, v3, v4, v5, v6, v7, v8, v9, t0, t1⟩ := HS4.out.q.put (.int .u32 (R 0)) (.int .u32 (R 1)) (.int .u32 (R 2)) (.int .u32 (R 3)) (.int .u32 (R 4)) (.int .u32 (R 5)) (.int .u32 (R 6)) (.int .u32 (R 7)) (.int .u32 pc) (.int .u32 (f % 16)) (.int .i64 k2) (.int .u32 x2)
      have bw : Upto (fun i => i = p) w w2 := up_AS (Upto.of_below ((HB.out.trans (b1.mono HB.out.size)).trans (b2.mono (Nat.le_trans HB.out.size b1.size)))) U4.out (by omega)
      have bp := (upto_put bw (.inr (Nat.le_succ _)) (.inr (Nat.le_add_right _ 2)) (.int .u32 (R 0)) (.int .u32 (R 1)) (.int .u32 (R 2)) (.int .u32 (R 3)) (.int .u32 (R 4)) (.int .u32 (R 5)) (.int .u32 (R 6)) (.int .u32 (R 7)) (.int .u32 pc) (.int .u32 (f % 16)) (.int .i64 k2) (.int .u32 x2)).drew
      have hp := (HM4.out.upto (upto_put (Upto.refl (fun i => i = w.heap.size + 1 ∨ i = w.heap.size + 1 + 1) w2) (.inl (.inl rfl)) (.inl (.inr rfl)) (.int .u32 (R 0)) (.int .u32 (R 1)) (.int .u32 (R 2)) (.int .u32 (R 3)) (.int .u32 (R 4)) (.int .u32 (R 5)) (.int .u32 (R 6)) (.int .u32 (R 7)) (.int .u32 pc) (.int .u32 (f % 16)) (.int .i64 k2) (.int .u32 x2)) (by intro hx; have := lpH.out; rcases hx with hx | hx <;> omega)).drew
      have fq2 := fq.drew
      clear fq
      generalize World.drew _ = WZ at fq2 bp hp ⊢
      have g0 := fq2.a 0 (by omega)
      rw [v0] at g0
      have g1 := fq2.a 1 (by omega)
      rw [v1] at g1
      have g2 := fq2.a 2 (by omega)
      rw [v2] at g2
      have g3 := fq2.a 3 (by omega)
      rw [v3] at g3
      have g4 := fq2.a 4 (by omega)
      rw [v4] at g4
      have g5 := fq2.a 5 (by omega)
      rw [v5] at g5
      have g6 := fq2.a 6 (by omega)
      rw [v6] at g6
      have g7 := fq2.a 7 (by omega)
      rw [v7] at g7
      have g8 := fq2.a 8 (by omega)
      rw [v8] at g8
      have g9 := fq2.a 9 (by omega)
      rw [v9] at g9
      have o0 := fq2.b 0 (by omega)
      rw [t0] at o0
      have o1 := fq2.b 1 (by omega)
      rw [t1] at o1
      go_wp2_with fail
      exact bodyPost_ret (v := outV ⟨M2, R, pc, f % 16, k2, x2⟩) (by simp [outV, stV, results, Try.results34, go_sem, g0, g1, g2, g3, g4, g5, g6, g7, g8, g9, o0, o1]) rfl ⟨by rw [es], hp, bp⟩
end Go.Proofs.Ytcjcmnnhmajocab.St
