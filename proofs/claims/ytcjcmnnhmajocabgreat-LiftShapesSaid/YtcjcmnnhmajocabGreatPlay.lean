/- lift: alu. -/
import Derived.Test.YtcjcmnnhmajocabGreatPlax
set_option linter.unusedVariables false
set_option linter.unusedSimpArgs false
set_option maxRecDepth 100000
set_option maxHeartbeats 16000000
namespace Go.Proofs.YtcjcmnnhmajocabGreat.Lf
open Go.RowKit Kt Ic Me
open Ot (OwnO OB)
variable {K : Kc} {s : Lk} {W W' : World} {B : Nat}
theorem alu_ar (o wp wq z : Int) (r : Nat) (hr : r < 8) (w : World) (a : LM K s w) (hc : 1 ≤ s.cnt ∧ s.cnt ≤ 64) (hn : s.ops.length + 30 < 1000000000) (o0 : 0 ≤ o) (o1 : o < 16) (hw : way o = (wp, wq)) (h1 : o ≠ 1) (h3 : o ≠ 3) (hB : ¬ (o = 14 ∨ o = 15)) (hC : ¬ (6 ≤ wq ∧ wq ≤ 9)) (hD : o ≠ 7) (hE : wq ≠ 5) (hF : o ≠ 8) :
  Calls Tryz.prog 125 #[.pointer (some ⟨K.h, 0, none⟩), .int .i64 o, .int .i64 r, .int .i64 z] w fun e w' => e = .returned (.tuple #[]) ∧ LM K (s.alu o r z) w' ∧ UW K w w' := by
 have HN := κ hn
 have HR := κ hr
 have HC := κ hc
 have WY := κ (fun w => way_any o w o0 o1)
 rw [hw] at WY
 dsimp only at WY
 have e1 : (o == 1) = false := by simpa using h1
 have e3 : (o == 3) = false := by simpa using h3
 have e14 : (o == 14) = false := by simp; omega
 have e15 : (o == 15) = false := by simp; omega
 have n7 : (o != 7) = true := by simpa using hD
 have n8 : (o != 8) = true := by simpa using hF
 have q5 : (wq == 5) = false := by simpa using hE
 obtain ⟨p1, hp1⟩ : ∃ p, s.get r = p := ⟨_, rfl⟩
 have G1 := κ (show Gw 1 s p1.2 by rw [← hp1]; exact get_gw s r)
 obtain ⟨pv, hpv⟩ : ∃ p, p1.2.B wp p1.1 z = p := ⟨_, rfl⟩
 have G5 := κ (G1.out.trans (show Gw 1 p1.2 pv.2 by rw [← hpv]; exact B_gw _ _ _ _))
 obtain ⟨sf, hsf⟩ : ∃ p, pv.2.set r pv.1 = p := ⟨_, rfl⟩
 have G6 := κ (G5.out.trans (show Gw 1 pv.2 sf by rw [← hsf]; exact set_gw _ _ _))
 obtain ⟨sz, hsz⟩ : ∃ p, sf.flag wq p1.1 z (-1) = p := ⟨_, rfl⟩
 have E : s.alu o r z = sz := by
  simp only [Lk.alu, hw, if_neg (show ¬ (o = 1 ∨ o = 3) by omega), if_neg hB, if_neg hC, if_pos hD, if_neg hE, if_pos (show o ≠ 7 ∧ o ≠ 8 from ⟨hD, hF⟩), hp1, hpv, hsf, hsz, ↓reduceIte]
 rw [E]
 have P1 := get_any (K := K) r HR.out w a (by omega)
 rw [hp1] at P1
 have P1 := κ P1
 have d69 : ¬ (6 ≤ wq ∧ wq ≤ 9) := hC
 clear a hn hc hr E
 go_enter Tryz.func125, Tryz.ntmps125
 go_upto_region 6 with (first
  | (go_at_call 118; refine P1.out.mono ?_; rintro e w1 ⟨rfl, A1, U1⟩; have H1 := κ A1; have V1 := κ U1; clear P1 A1 U1)
  | (go_at_call 185; refine (WY.out _).mono ?_; rintro e w2 ⟨rfl, b2⟩; have H2 := κ (H1.out.below b2); have V2 := κ (V1.out.trans (UW.below H1.out.l b2)); clear b2))
 go_upto_region 7 with fail
 have L0 := κ (AL.new H2.out V2.out #[.bool false, .int .i64 wq, .int .i64 p1.1, .int .i64 z, .int .i64 (-1)] 108)
 generalize w2.alloc (.cells #[.bool false, .int .i64 wq, .int .i64 p1.1, .int .i64 z, .int .i64 (-1)] 108) = w3 at *
 generalize w2.heap.size = bx at *
 clear H2 V2
 obtain ⟨b0, b1, b2, b3, b4, bl, bz, ll⟩ := L0.out.five
 have PV := bin_any (K := K) wp p1.1 z w3 L0.out.m (by have := G1.out.n; have := HN.out; omega)
 rw [hpv] at PV
 have PV := κ PV
 obtain ⟨b0, b1, b2, b3, b4, bl, bz, ll⟩ := L0.out.five
 go_wp2_with (first
  | (go_at_call 135; refine PV.out.mono ?_; rintro e w4 ⟨rfl, A1, U1⟩; have L1 := κ (L0.out.call A1 U1); obtain ⟨b00, b10, b20, b30, b40, bl0, bz0, ll0⟩ := L1.out.five; clear A1 U1 PV; have PF := set_any (K := K) r pv.1 HR.out w4 L1.out.m (by have := G5.out.n; have := HN.out; omega); rw [hsf] at PF; have PF := κ PF)
  | (go_at_call 116; refine PF.out.mono ?_; rintro e w5 ⟨rfl, A1, U1⟩; have L2 := κ (L1.out.call A1 U1); obtain ⟨b01, b11, b21, b31, b41, bl1, bz1, ll1⟩ := L2.out.five; clear A1 U1 PF; have PZ := flag_any (K := K) false wq p1.1 z (-1) w5 L2.out.m (by have := G6.out.n; have := HN.out; omega); rw [hsz] at PZ; have PZ := κ PZ)
  | (go_at_call 121; refine PZ.out.mono ?_; rintro e w6 ⟨rfl, A1, U1⟩; have L3 := κ (L2.out.call A1 U1); obtain ⟨b02, b12, b22, b32, b42, bl2, bz2, ll2⟩ := L3.out.five; clear A1 U1 PZ))
 all_goals go_end0
 all_goals exact ⟨rfl, L3.out.m, L3.out.fin⟩
theorem alu_cmp (wp wq z : Int) (r : Nat) (hr : r < 8) (w : World) (a : LM K s w) (hc : 1 ≤ s.cnt ∧ s.cnt ≤ 64) (hn : s.ops.length + 30 < 1000000000)  (hw : way 7 = (wp, wq))  (hC : ¬ (6 ≤ wq ∧ wq ≤ 9)) (hE : wq ≠ 5) :
  Calls Tryz.prog 125 #[.pointer (some ⟨K.h, 0, none⟩), .int .i64 7, .int .i64 r, .int .i64 z] w fun e w' => e = .returned (.tuple #[]) ∧ LM K (s.alu 7 r z) w' ∧ UW K w w' := by
 have HN := κ hn
 have HR := κ hr
 have HC := κ hc
 have WY := κ (fun w => way_any 7 w (by decide) (by decide))
 rw [hw] at WY
 dsimp only at WY
 have q5 : (wq == 5) = false := by simpa using hE
 obtain ⟨p1, hp1⟩ : ∃ p, s.get r = p := ⟨_, rfl⟩
 have G1 := κ (show Gw 1 s p1.2 by rw [← hp1]; exact get_gw s r)
 obtain ⟨sz, hsz⟩ : ∃ p, p1.2.flag wq p1.1 z (-1) = p := ⟨_, rfl⟩
 have E : s.alu 7 r z = sz := by
  simp only [Lk.alu, hw, if_neg (show ¬ ((7 : Int) = 1 ∨ (7 : Int) = 3) by omega), if_neg (show ¬ ((7 : Int) = 14 ∨ (7 : Int) = 15) by omega), if_neg hC, if_neg (show ¬ ((7 : Int) ≠ 7) by omega), if_neg hE, if_neg (show ¬ ((7 : Int) ≠ 7 ∧ (7 : Int) ≠ 8) by omega), hp1, hsz, ↓reduceIte]
 rw [E]
 have P1 := get_any (K := K) r HR.out w a (by omega)
 rw [hp1] at P1
 have P1 := κ P1
 have d69 : ¬ (6 ≤ wq ∧ wq ≤ 9) := hC
 clear a hn hc hr E
 go_enter Tryz.func125, Tryz.ntmps125
 go_upto_region 6 with (first
  | (go_at_call 118; refine P1.out.mono ?_; rintro e w1 ⟨rfl, A1, U1⟩; have H1 := κ A1; have V1 := κ U1; clear P1 A1 U1)
  | (go_at_call 185; refine (WY.out _).mono ?_; rintro e w2 ⟨rfl, b2⟩; have H2 := κ (H1.out.below b2); have V2 := κ (V1.out.trans (UW.below H1.out.l b2)); clear b2))
 go_upto_region 7 with fail
 have L0 := κ (AL.new H2.out V2.out #[.bool false, .int .i64 wq, .int .i64 p1.1, .int .i64 z, .int .i64 (-1)] 108)
 generalize w2.alloc (.cells #[.bool false, .int .i64 wq, .int .i64 p1.1, .int .i64 z, .int .i64 (-1)] 108) = w3 at *
 generalize w2.heap.size = bx at *
 clear H2 V2
 obtain ⟨b0, b1, b2, b3, b4, bl, bz, ll⟩ := L0.out.five
 have PZ := flag_any (K := K) false wq p1.1 z (-1) w3 L0.out.m (by have := G1.out.n; have := HN.out; omega)
 rw [hsz] at PZ
 have PZ := κ PZ
 obtain ⟨b0, b1, b2, b3, b4, bl, bz, ll⟩ := L0.out.five
 go_wp2_with (first
  | (go_at_call 121; refine PZ.out.mono ?_; rintro e w4 ⟨rfl, A1, U1⟩; have L1 := κ (L0.out.call A1 U1); obtain ⟨b00, b10, b20, b30, b40, bl0, bz0, ll0⟩ := L1.out.five; clear A1 U1 PZ))
 all_goals go_end0
 all_goals exact ⟨rfl, L1.out.m, L1.out.fin⟩
theorem alu_log (o wp z : Int) (r : Nat) (hr : r < 8) (w : World) (a : LM K s w) (hc : 1 ≤ s.cnt ∧ s.cnt ≤ 64) (hn : s.ops.length + 30 < 1000000000) (o0 : 0 ≤ o) (o1 : o < 16) (hw : way o = (wp, 5)) (h1 : o ≠ 1) (h3 : o ≠ 3) (hB : ¬ (o = 14 ∨ o = 15)) (hD : o ≠ 7) (hF : o ≠ 8) :
  Calls Tryz.prog 125 #[.pointer (some ⟨K.h, 0, none⟩), .int .i64 o, .int .i64 r, .int .i64 z] w fun e w' => e = .returned (.tuple #[]) ∧ LM K (s.alu o r z) w' ∧ UW K w w' := by
 have HN := κ hn
 have HR := κ hr
 have HC := κ hc
 have WY := κ (fun w => way_any o w o0 o1)
 rw [hw] at WY
 dsimp only at WY
 have e1 : (o == 1) = false := by simpa using h1
 have e3 : (o == 3) = false := by simpa using h3
 have e14 : (o == 14) = false := by simp; omega
 have e15 : (o == 15) = false := by simp; omega
 have n7 : (o != 7) = true := by simpa using hD
 have n8 : (o != 8) = true := by simpa using hF
 obtain ⟨p1, hp1⟩ : ∃ p, s.get r = p := ⟨_, rfl⟩
 have G1 := κ (show Gw 1 s p1.2 by rw [← hp1]; exact get_gw s r)
 obtain ⟨pv, hpv⟩ : ∃ p, p1.2.B wp p1.1 z = p := ⟨_, rfl⟩
 have G5 := κ (G1.out.trans (show Gw 1 p1.2 pv.2 by rw [← hpv]; exact B_gw _ _ _ _))
 obtain ⟨sf, hsf⟩ : ∃ p, pv.2.set r pv.1 = p := ⟨_, rfl⟩
 have G6 := κ (G5.out.trans (show Gw 1 pv.2 sf by rw [← hsf]; exact set_gw _ _ _))
 obtain ⟨sz, hsz⟩ : ∃ p, sf.flag 5 pv.1 (-1) (-1) = p := ⟨_, rfl⟩
 have E : s.alu o r z = sz := by
  simp only [Lk.alu, hw, if_neg (show ¬ (o = 1 ∨ o = 3) by omega), if_neg hB, if_neg (show ¬ ((6 : Int) ≤ 5 ∧ (5 : Int) ≤ 9) by decide), if_pos hD, if_pos (show (5 : Int) = 5 from rfl), if_pos (show o ≠ 7 ∧ o ≠ 8 from ⟨hD, hF⟩), hp1, hpv, hsf, hsz, ↓reduceIte]
 rw [E]
 have P1 := get_any (K := K) r HR.out w a (by omega)
 rw [hp1] at P1
 have P1 := κ P1
 clear a hn hc hr E
 go_enter Tryz.func125, Tryz.ntmps125
 go_upto_region 6 with (first
  | (go_at_call 118; refine P1.out.mono ?_; rintro e w1 ⟨rfl, A1, U1⟩; have H1 := κ A1; have V1 := κ U1; clear P1 A1 U1)
  | (go_at_call 185; refine (WY.out _).mono ?_; rintro e w2 ⟨rfl, b2⟩; have H2 := κ (H1.out.below b2); have V2 := κ (V1.out.trans (UW.below H1.out.l b2)); clear b2))
 go_upto_region 7 with fail
 have L0 := κ (AL.new H2.out V2.out #[.bool false, .int .i64 5, .int .i64 p1.1, .int .i64 z, .int .i64 (-1)] 108)
 generalize w2.alloc (.cells #[.bool false, .int .i64 5, .int .i64 p1.1, .int .i64 z, .int .i64 (-1)] 108) = w3 at *
 generalize w2.heap.size = bx at *
 clear H2 V2
 obtain ⟨b0, b1, b2, b3, b4, bl, bz, ll⟩ := L0.out.five
 have PV := bin_any (K := K) wp p1.1 z w3 L0.out.m (by have := G1.out.n; have := HN.out; omega)
 rw [hpv] at PV
 have PV := κ PV
 obtain ⟨b0, b1, b2, b3, b4, bl, bz, ll⟩ := L0.out.five
 go_wp2_with (first
  | (go_at_call 135; refine PV.out.mono ?_; rintro e w4 ⟨rfl, A1, U1⟩; have L1 := κ (L0.out.call A1 U1); obtain ⟨b00, b10, b20, b30, b40, bl0, bz0, ll0⟩ := L1.out.five; clear A1 U1 PV; have M0 : Hid (AL K w pv.2 bx #[.bool false, .int .i64 5, .int .i64 pv.1, .int .i64 (-1), .int .i64 (-1)] ((w4.setCell ⟨bx, 2, none⟩ (.int .i64 pv.1)).setCell ⟨bx, 3, none⟩ (.int .i64 (-1)))) := (L1.out.put 2 _).put 3 _; obtain ⟨m00, m10, m20, m30, m40, ml0, mz0, mm0⟩ := M0.out.five; have PF := set_any (K := K) r pv.1 HR.out ((w4.setCell ⟨bx, 2, none⟩ (.int .i64 pv.1)).setCell ⟨bx, 3, none⟩ (.int .i64 (-1))) M0.out.m (by have := G5.out.n; have := HN.out; omega); rw [hsf] at PF; have PF := κ PF)
  | (go_at_call 116; refine PF.out.mono ?_; rintro e w5 ⟨rfl, A1, U1⟩; have L2 := κ (M0.out.call A1 U1); obtain ⟨b01, b11, b21, b31, b41, bl1, bz1, ll1⟩ := L2.out.five; clear A1 U1 PF; have PZ := flag_any (K := K) false 5 pv.1 (-1) (-1) w5 L2.out.m (by have := G6.out.n; have := HN.out; omega); rw [hsz] at PZ; have PZ := κ PZ)
  | (go_at_call 121; refine PZ.out.mono ?_; rintro e w6 ⟨rfl, A1, U1⟩; have L3 := κ (L2.out.call A1 U1); obtain ⟨b02, b12, b22, b32, b42, bl2, bz2, ll2⟩ := L3.out.five; clear A1 U1 PZ))
 all_goals go_end0
 all_goals exact ⟨rfl, L3.out.m, L3.out.fin⟩
theorem alu_tst (wp z : Int) (r : Nat) (hr : r < 8) (w : World) (a : LM K s w) (hc : 1 ≤ s.cnt ∧ s.cnt ≤ 64) (hn : s.ops.length + 30 < 1000000000)  (hw : way 8 = (wp, 5))  :
  Calls Tryz.prog 125 #[.pointer (some ⟨K.h, 0, none⟩), .int .i64 8, .int .i64 r, .int .i64 z] w fun e w' => e = .returned (.tuple #[]) ∧ LM K (s.alu 8 r z) w' ∧ UW K w w' := by
 have HN := κ hn
 have HR := κ hr
 have HC := κ hc
 have WY := κ (fun w => way_any 8 w (by decide) (by decide))
 rw [hw] at WY
 dsimp only at WY
 obtain ⟨p1, hp1⟩ : ∃ p, s.get r = p := ⟨_, rfl⟩
 have G1 := κ (show Gw 1 s p1.2 by rw [← hp1]; exact get_gw s r)
 obtain ⟨pv, hpv⟩ : ∃ p, p1.2.B wp p1.1 z = p := ⟨_, rfl⟩
 have G5 := κ (G1.out.trans (show Gw 1 p1.2 pv.2 by rw [← hpv]; exact B_gw _ _ _ _))
 obtain ⟨sz, hsz⟩ : ∃ p, pv.2.flag 5 pv.1 (-1) (-1) = p := ⟨_, rfl⟩
 have E : s.alu 8 r z = sz := by
  simp only [Lk.alu, hw, if_neg (show ¬ ((8 : Int) = 1 ∨ (8 : Int) = 3) by omega), if_neg (show ¬ ((8 : Int) = 14 ∨ (8 : Int) = 15) by omega), if_neg (show ¬ ((6 : Int) ≤ 5 ∧ (5 : Int) ≤ 9) by decide), if_pos (show (8 : Int) ≠ 7 by decide), if_neg (show ¬ ((8 : Int) ≠ 7 ∧ (8 : Int) ≠ 8) by omega), hp1, hpv, hsz, ↓reduceIte]
 rw [E]
 have P1 := get_any (K := K) r HR.out w a (by omega)
 rw [hp1] at P1
 have P1 := κ P1
 clear a hn hc hr E
 go_enter Tryz.func125, Tryz.ntmps125
 go_upto_region 6 with (first
  | (go_at_call 118; refine P1.out.mono ?_; rintro e w1 ⟨rfl, A1, U1⟩; have H1 := κ A1; have V1 := κ U1; clear P1 A1 U1)
  | (go_at_call 185; refine (WY.out _).mono ?_; rintro e w2 ⟨rfl, b2⟩; have H2 := κ (H1.out.below b2); have V2 := κ (V1.out.trans (UW.below H1.out.l b2)); clear b2))
 go_upto_region 7 with fail
 have L0 := κ (AL.new H2.out V2.out #[.bool false, .int .i64 5, .int .i64 p1.1, .int .i64 z, .int .i64 (-1)] 108)
 generalize w2.alloc (.cells #[.bool false, .int .i64 5, .int .i64 p1.1, .int .i64 z, .int .i64 (-1)] 108) = w3 at *
 generalize w2.heap.size = bx at *
 clear H2 V2
 obtain ⟨b0, b1, b2, b3, b4, bl, bz, ll⟩ := L0.out.five
 have PV := bin_any (K := K) wp p1.1 z w3 L0.out.m (by have := G1.out.n; have := HN.out; omega)
 rw [hpv] at PV
 have PV := κ PV
 obtain ⟨b0, b1, b2, b3, b4, bl, bz, ll⟩ := L0.out.five
 go_wp2_with (first
  | (go_at_call 135; refine PV.out.mono ?_; rintro e w4 ⟨rfl, A1, U1⟩; have L1 := κ (L0.out.call A1 U1); obtain ⟨b00, b10, b20, b30, b40, bl0, bz0, ll0⟩ := L1.out.five; clear A1 U1 PV; have M0 : Hid (AL K w pv.2 bx #[.bool false, .int .i64 5, .int .i64 pv.1, .int .i64 (-1), .int .i64 (-1)] ((w4.setCell ⟨bx, 2, none⟩ (.int .i64 pv.1)).setCell ⟨bx, 3, none⟩ (.int .i64 (-1)))) := (L1.out.put 2 _).put 3 _; obtain ⟨m00, m10, m20, m30, m40, ml0, mz0, mm0⟩ := M0.out.five; have PZ := flag_any (K := K) false 5 pv.1 (-1) (-1) ((w4.setCell ⟨bx, 2, none⟩ (.int .i64 pv.1)).setCell ⟨bx, 3, none⟩ (.int .i64 (-1))) M0.out.m (by have := G5.out.n; have := HN.out; omega); rw [hsz] at PZ; have PZ := κ PZ)
  | (go_at_call 121; refine PZ.out.mono ?_; rintro e w5 ⟨rfl, A1, U1⟩; have L2 := κ (M0.out.call A1 U1); obtain ⟨b01, b11, b21, b31, b41, bl1, bz1, ll1⟩ := L2.out.five; clear A1 U1 PZ))
 all_goals go_end0
 all_goals exact ⟨rfl, L2.out.m, L2.out.fin⟩
theorem alu_div (o wp z : Int) (r : Nat) (hr : r < 8) (w : World) (a : LM K s w) (hc : 1 ≤ s.cnt ∧ s.cnt ≤ 64) (hn : s.ops.length + 30 < 1000000000) (o0 : 0 ≤ o) (o1 : o < 16) (hw : way o = (wp, 5)) (h1 : o ≠ 1) (h3 : o ≠ 3) (hB : o = 14 ∨ o = 15) (hD : o ≠ 7) (hF : o ≠ 8) :
  Calls Tryz.prog 125 #[.pointer (some ⟨K.h, 0, none⟩), .int .i64 o, .int .i64 r, .int .i64 z] w fun e w' => e = .returned (.tuple #[]) ∧ LM K (s.alu o r z) w' ∧ UW K w w' := by
 have HN := κ hn
 have HR := κ hr
 have HC := κ hc
 have WY := κ (fun w => way_any o w o0 o1)
 rw [hw] at WY
 dsimp only at WY
 have e1 : (o == 1) = false := by simpa using h1
 have e3 : (o == 3) = false := by simpa using h3
 have n7 : (o != 7) = true := by simpa using hD
 have n8 : (o != 8) = true := by simpa using hF
 obtain ⟨p1, hp1⟩ : ∃ p, s.get r = p := ⟨_, rfl⟩
 have G1 := κ (show Gw 1 s p1.2 by rw [← hp1]; exact get_gw s r)
 obtain ⟨pu, hpu⟩ : ∃ p, p1.2.U 6 z = p := ⟨_, rfl⟩
 have G2 := κ (G1.out.trans (show Gw 1 p1.2 pu.2 by rw [← hpu]; exact U_gw _ _ _))
 obtain ⟨sb, hsb⟩ : ∃ p, pu.2.put ⟨13, 7, pu.1, 0, 0, s.pc, s.cnt - 1⟩ = p := ⟨_, rfl⟩
 have G3 := κ (G2.out.trans (show Gw 1 pu.2 sb by rw [← hsb]; exact put_gw _ _))
 obtain ⟨pv, hpv⟩ : ∃ p, sb.B wp p1.1 z = p := ⟨_, rfl⟩
 have G5 := κ (G3.out.trans (show Gw 1 sb pv.2 by rw [← hpv]; exact B_gw _ _ _ _))
 obtain ⟨sf, hsf⟩ : ∃ p, pv.2.set r pv.1 = p := ⟨_, rfl⟩
 have G6 := κ (G5.out.trans (show Gw 1 pv.2 sf by rw [← hsf]; exact set_gw _ _ _))
 obtain ⟨sz, hsz⟩ : ∃ p, sf.flag 5 pv.1 (-1) (-1) = p := ⟨_, rfl⟩
 have E : s.alu o r z = sz := by
  simp only [Lk.alu, hw, if_neg (show ¬ (o = 1 ∨ o = 3) by omega), if_pos hB, if_neg (show ¬ ((6 : Int) ≤ 5 ∧ (5 : Int) ≤ 9) by decide), if_pos hD, if_pos (show (5 : Int) = 5 from rfl), if_pos (show o ≠ 7 ∧ o ≠ 8 from ⟨hD, hF⟩), hp1, hpu, hsb, hpv, hsf, hsz, ↓reduceIte]
 rw [E]
 have P1 := get_any (K := K) r HR.out w a (by omega)
 rw [hp1] at P1
 have P1 := κ P1
 rcases hB with rfl | rfl
 ·clear a hn hc hr E
  go_enter Tryz.func125, Tryz.ntmps125
  go_upto_region 4 with (go_at_call 118; refine P1.out.mono ?_; rintro e w1 ⟨rfl, A1, U1⟩; have H1 := κ A1; have V1 := κ U1; clear P1 A1 U1)
  have PU := un_any (K := K) 6 z w1.drew H1.out.drew (by have := G1.out.n; have := HN.out; omega)
  rw [hpu] at PU
  have PU := κ PU
  have c4 : w1.cell? ⟨K.h, 4, none⟩ = some (.int .u32 s.pc) := (H1.out.c 4 (by decide) (by decide)).trans (by show some (Value.int .u32 p1.2.pc) = _; rw [G1.out.pc])
  have hl4 : ∀ w', (fun w' => w'.cell? ⟨K.h, 4, none⟩ = some (.int .u32 s.pc)) w' → (Instr.loadAt 29 (.pointer (some ⟨K.h, 4, none⟩))).run Tryz.prog w' = .ok (.int .u32 s.pc) w' := fun w' h => by
   dsimp only at h
   go_simp
  have hf4 : ∀ w : World, (Instr.fieldAt 110 (.pointer (some ⟨K.h, 0, none⟩)) 1).run Tryz.prog w = .ok (.pointer (some ⟨K.h, 4, none⟩)) w := fun w => by go_simp
  have hbd : ∀ w : World, (Instr.build 115 #[(0, .int .i64 13), (1, .int .i64 7), (2, .int .i64 pu.1), (5, .int .u32 s.pc), (6, .int .i64 (s.cnt - 1))]).run Tryz.prog w = .ok (.agg #[.int .i64 13, .int .i64 7, .int .i64 pu.1, .int .i64 0, .int .i64 0, .int .u32 s.pc, .int .i64 (s.cnt - 1)]) w := fun w => by go_simp
  refine wp_region_held_drew (S := (fun w' => w'.cell? ⟨K.h, 4, none⟩ = some (.int .u32 s.pc))) (by kernel_rfl) c4 (fun hHeld => ?_)
  -- 0
  refine κw 0 34 (.pointer (some ⟨K.h, 0, none⟩)) rfl rfl (by kernel_rfl) (by kernel_rfl) (by kernel_rfl) (fun _ _ _ h => h) (Kt.yl_mov (by rfl) _ rfl _ rfl) hHeld ?_
  try simp only [Act.put, κa, κb, κc]
  -- 1
  refine κw 1 35 (.pointer (some ⟨K.h, 0, none⟩)) rfl rfl (by kernel_rfl) (by kernel_rfl) (by kernel_rfl) (fun _ _ _ h => h) (Kt.yl_mov (by rfl) _ rfl _ rfl) hHeld ?_
  try simp only [Act.put, κa, κb, κc]
  -- 2
  refine κw 2 36 (.int .i64 z) rfl rfl (by kernel_rfl) (by kernel_rfl) (by kernel_rfl) (fun _ _ _ h => h) (Kt.yl_mov (by rfl) _ rfl _ rfl) hHeld ?_
  try simp only [Act.put, κa, κb, κc]
  -- 4
  refine κw 4 38 (.pointer (some ⟨K.h, 0, none⟩)) rfl rfl (by kernel_rfl) (by kernel_rfl) (by kernel_rfl) (fun _ _ _ h => h) (Kt.yl_mov (by rfl) _ rfl _ rfl) hHeld ?_
  try simp only [Act.put, κa, κb, κc]
  -- 5
  refine κw 5 39 (.pointer (some ⟨K.h, 0, none⟩)) rfl rfl (by kernel_rfl) (by kernel_rfl) (by kernel_rfl) (fun _ _ _ h => h) (Kt.yl_nil (by rfl) _ rfl _ rfl) hHeld ?_
  try simp only [Act.put, κa, κb, κc]
  -- 6
  refine κw 6 40 (.pointer (some ⟨K.h, 4, none⟩)) rfl rfl (by kernel_rfl) (by kernel_rfl) (by kernel_rfl) (fun _ _ _ h => h) (Kt.yl_fld (by rfl) _ _ _ rfl _ _ rfl hf4) hHeld ?_
  try simp only [Act.put, κa, κb, κc]
  -- 7
  refine κw 7 41 (.int .u32 s.pc) rfl rfl (by kernel_rfl) (by kernel_rfl) (by kernel_rfl) (fun _ _ _ h => h) (Kt.yl_ld (by rfl) _ _ rfl _ _ rfl hl4) hHeld ?_
  try simp only [Act.put, κa, κb, κc]
  -- 8
  refine κw 8 42 (.pointer (some ⟨K.h, 0, none⟩)) rfl rfl (by kernel_rfl) (by kernel_rfl) (by kernel_rfl) (fun _ _ _ h => h) (Kt.yl_mov (by rfl) _ rfl _ rfl) hHeld ?_
  try simp only [Act.put, κa, κb, κc]
  -- 3
  refine wpAnyH_ready (rs := [3]) (by kernel_rfl) (by simp) ?_
  refine AllReadyH.cons rfl (fun KK hKK => ?_) AllReadyH.nil
  go_simp
  go_wp2_with (go_at_call 122; refine PU.out.mono ?_; rintro e wu ⟨rfl, A1, U1⟩)
  have U2 := κ (V1.out.trans ((UW.drew (K := K) H1.out.l).trans U1))
  have k4 : wu.cell? ⟨K.h, 4, none⟩ = some (.int .u32 s.pc) := (A1.c 4 (by decide) (by decide)).trans (by show some (Value.int .u32 pu.2.pc) = _; rw [G2.out.pc])
  have DN := done_any (K := K) wu A1 (by rw [G2.out.cnt]; exact HC.out)
  rw [G2.out.cnt] at DN
  have DN := κ DN
  have PB := put_any (K := K) ⟨13, 7, pu.1, 0, 0, s.pc, s.cnt - 1⟩ wu A1 (by have := G2.out.n; have := HN.out; omega)
  rw [hsb] at PB
  have PB := κ PB
  clear A1 U1 PU
  refine hKK.out _ _ ?_ (fun hHeld2 => ?_)
  ·exact k4
  clear hKK KK hHeld
  have hHeld := hHeld2
  clear hHeld2
  try simp only [Act.put, κa, κb, κc]
  -- 9
  refine wpAnyH_ready (rs := [9]) (by kernel_rfl) (by simp) ?_
  refine AllReadyH.cons rfl (fun KK hKK => ?_) AllReadyH.nil
  go_simp
  go_wp2_with (go_at_call 130; refine DN.out.mono ?_; rintro e wd ⟨rfl, rfl⟩)
  refine hKK.out _ _ ?_ (fun hHeld2 => ?_)
  ·exact k4
  clear hKK KK hHeld
  have hHeld := hHeld2
  clear hHeld2
  try simp only [Act.put, κa, κb, κc]
  -- 10
  refine κw 10 44 (.agg #[.int .i64 13, .int .i64 7, .int .i64 pu.1, .int .i64 0, .int .i64 0, .int .u32 s.pc, .int .i64 (s.cnt - 1)]) rfl rfl (by kernel_rfl) (by kernel_rfl) (by kernel_rfl) (fun _ _ _ h => h) (Kt.yl_bld (by rfl) _ _ rfl (#[(0, .int .i64 13), (1, .int .i64 7), (2, .int .i64 pu.1), (5, .int .u32 s.pc), (6, .int .i64 (s.cnt - 1))]) _ (by kernel_rfl) hbd) hHeld ?_
  try simp only [Act.put, κa, κb, κc]
  -- 11
  refine wpAnyH_ready (rs := [11]) (by kernel_rfl) (by simp) ?_
  refine AllReadyH.cons rfl (fun KK hKK => ?_) AllReadyH.nil
  go_simp
  go_wp2_with (go_at_call 54; refine PB.out.mono ?_; rintro e wb ⟨rfl, A1, U1⟩)
  have HB := κ A1
  have VB := κ (U2.out.trans U1)
  have j4 : wb.cell? ⟨K.h, 4, none⟩ = some (.int .u32 s.pc) := (A1.c 4 (by decide) (by decide)).trans (by show some (Value.int .u32 sb.pc) = _; rw [G3.out.pc])
  clear A1 U1 PB
  refine hKK.out _ _ ?_ (fun hHeld2 => ?_)
  ·exact j4
  clear hKK KK hHeld
  have hHeld := hHeld2
  clear hHeld2
  try simp only [Act.put, κa, κb, κc]
  refine wpAnyH_done (by kernel_rfl) ?_ _
  go_upto_region 6 with (go_at_call 185; refine (WY.out _).mono ?_; rintro e w2 ⟨rfl, b2⟩; have H2 := κ (HB.out.below b2); have V2 := κ (VB.out.trans (UW.below HB.out.l b2)); clear b2)
  go_upto_region 7 with fail
  have L0 := κ (AL.new H2.out V2.out #[.bool false, .int .i64 5, .int .i64 p1.1, .int .i64 z, .int .i64 (-1)] 108)
  generalize w2.alloc (.cells #[.bool false, .int .i64 5, .int .i64 p1.1, .int .i64 z, .int .i64 (-1)] 108) = w3 at *
  generalize w2.heap.size = bx at *
  clear H2 V2
  obtain ⟨b0, b1, b2, b3, b4, bl, bz, ll⟩ := L0.out.five
  have PV := bin_any (K := K) wp p1.1 z w3 L0.out.m (by have := G3.out.n; have := HN.out; omega)
  rw [hpv] at PV
  have PV := κ PV
  obtain ⟨b0, b1, b2, b3, b4, bl, bz, ll⟩ := L0.out.five
  go_wp2_with (first
   | (go_at_call 135; refine PV.out.mono ?_; rintro e w4 ⟨rfl, A1, U1⟩; have L1 := κ (L0.out.call A1 U1); obtain ⟨b00, b10, b20, b30, b40, bl0, bz0, ll0⟩ := L1.out.five; clear A1 U1 PV; have M0 : Hid (AL K w pv.2 bx #[.bool false, .int .i64 5, .int .i64 pv.1, .int .i64 (-1), .int .i64 (-1)] ((w4.setCell ⟨bx, 2, none⟩ (.int .i64 pv.1)).setCell ⟨bx, 3, none⟩ (.int .i64 (-1)))) := (L1.out.put 2 _).put 3 _; obtain ⟨m00, m10, m20, m30, m40, ml0, mz0, mm0⟩ := M0.out.five; have PF := set_any (K := K) r pv.1 HR.out ((w4.setCell ⟨bx, 2, none⟩ (.int .i64 pv.1)).setCell ⟨bx, 3, none⟩ (.int .i64 (-1))) M0.out.m (by have := G5.out.n; have := HN.out; omega); rw [hsf] at PF; have PF := κ PF)
   | (go_at_call 116; refine PF.out.mono ?_; rintro e w5 ⟨rfl, A1, U1⟩; have L2 := κ (M0.out.call A1 U1); obtain ⟨b01, b11, b21, b31, b41, bl1, bz1, ll1⟩ := L2.out.five; clear A1 U1 PF; have PZ := flag_any (K := K) false 5 pv.1 (-1) (-1) w5 L2.out.m (by have := G6.out.n; have := HN.out; omega); rw [hsz] at PZ; have PZ := κ PZ)
   | (go_at_call 121; refine PZ.out.mono ?_; rintro e w6 ⟨rfl, A1, U1⟩; have L3 := κ (L2.out.call A1 U1); obtain ⟨b02, b12, b22, b32, b42, bl2, bz2, ll2⟩ := L3.out.five; clear A1 U1 PZ))
  all_goals go_end0
  all_goals exact ⟨rfl, L3.out.m, L3.out.fin⟩
 ·clear a hn hc hr E
  go_enter Tryz.func125, Tryz.ntmps125
  go_upto_region 4 with (go_at_call 118; refine P1.out.mono ?_; rintro e w1 ⟨rfl, A1, U1⟩; have H1 := κ A1; have V1 := κ U1; clear P1 A1 U1)
  have PU := un_any (K := K) 6 z w1.drew H1.out.drew (by have := G1.out.n; have := HN.out; omega)
  rw [hpu] at PU
  have PU := κ PU
  have c4 : w1.cell? ⟨K.h, 4, none⟩ = some (.int .u32 s.pc) := (H1.out.c 4 (by decide) (by decide)).trans (by show some (Value.int .u32 p1.2.pc) = _; rw [G1.out.pc])
  have hl4 : ∀ w', (fun w' => w'.cell? ⟨K.h, 4, none⟩ = some (.int .u32 s.pc)) w' → (Instr.loadAt 29 (.pointer (some ⟨K.h, 4, none⟩))).run Tryz.prog w' = .ok (.int .u32 s.pc) w' := fun w' h => by
   dsimp only at h
   go_simp
  have hf4 : ∀ w : World, (Instr.fieldAt 110 (.pointer (some ⟨K.h, 0, none⟩)) 1).run Tryz.prog w = .ok (.pointer (some ⟨K.h, 4, none⟩)) w := fun w => by go_simp
  have hbd : ∀ w : World, (Instr.build 115 #[(0, .int .i64 13), (1, .int .i64 7), (2, .int .i64 pu.1), (5, .int .u32 s.pc), (6, .int .i64 (s.cnt - 1))]).run Tryz.prog w = .ok (.agg #[.int .i64 13, .int .i64 7, .int .i64 pu.1, .int .i64 0, .int .i64 0, .int .u32 s.pc, .int .i64 (s.cnt - 1)]) w := fun w => by go_simp
  refine wp_region_held_drew (S := (fun w' => w'.cell? ⟨K.h, 4, none⟩ = some (.int .u32 s.pc))) (by kernel_rfl) c4 (fun hHeld => ?_)
  -- 0
  refine κw 0 34 (.pointer (some ⟨K.h, 0, none⟩)) rfl rfl (by kernel_rfl) (by kernel_rfl) (by kernel_rfl) (fun _ _ _ h => h) (Kt.yl_mov (by rfl) _ rfl _ rfl) hHeld ?_
  try simp only [Act.put, κa, κb, κc]
  -- 1
  refine κw 1 35 (.pointer (some ⟨K.h, 0, none⟩)) rfl rfl (by kernel_rfl) (by kernel_rfl) (by kernel_rfl) (fun _ _ _ h => h) (Kt.yl_mov (by rfl) _ rfl _ rfl) hHeld ?_
  try simp only [Act.put, κa, κb, κc]
  -- 2
  refine κw 2 36 (.int .i64 z) rfl rfl (by kernel_rfl) (by kernel_rfl) (by kernel_rfl) (fun _ _ _ h => h) (Kt.yl_mov (by rfl) _ rfl _ rfl) hHeld ?_
  try simp only [Act.put, κa, κb, κc]
  -- 4
  refine κw 4 38 (.pointer (some ⟨K.h, 0, none⟩)) rfl rfl (by kernel_rfl) (by kernel_rfl) (by kernel_rfl) (fun _ _ _ h => h) (Kt.yl_mov (by rfl) _ rfl _ rfl) hHeld ?_
  try simp only [Act.put, κa, κb, κc]
  -- 5
  refine κw 5 39 (.pointer (some ⟨K.h, 0, none⟩)) rfl rfl (by kernel_rfl) (by kernel_rfl) (by kernel_rfl) (fun _ _ _ h => h) (Kt.yl_nil (by rfl) _ rfl _ rfl) hHeld ?_
  try simp only [Act.put, κa, κb, κc]
  -- 6
  refine κw 6 40 (.pointer (some ⟨K.h, 4, none⟩)) rfl rfl (by kernel_rfl) (by kernel_rfl) (by kernel_rfl) (fun _ _ _ h => h) (Kt.yl_fld (by rfl) _ _ _ rfl _ _ rfl hf4) hHeld ?_
  try simp only [Act.put, κa, κb, κc]
  -- 7
  refine κw 7 41 (.int .u32 s.pc) rfl rfl (by kernel_rfl) (by kernel_rfl) (by kernel_rfl) (fun _ _ _ h => h) (Kt.yl_ld (by rfl) _ _ rfl _ _ rfl hl4) hHeld ?_
  try simp only [Act.put, κa, κb, κc]
  -- 8
  refine κw 8 42 (.pointer (some ⟨K.h, 0, none⟩)) rfl rfl (by kernel_rfl) (by kernel_rfl) (by kernel_rfl) (fun _ _ _ h => h) (Kt.yl_mov (by rfl) _ rfl _ rfl) hHeld ?_
  try simp only [Act.put, κa, κb, κc]
  -- 3
  refine wpAnyH_ready (rs := [3]) (by kernel_rfl) (by simp) ?_
  refine AllReadyH.cons rfl (fun KK hKK => ?_) AllReadyH.nil
  go_simp
  go_wp2_with (go_at_call 122; refine PU.out.mono ?_; rintro e wu ⟨rfl, A1, U1⟩)
  have U2 := κ (V1.out.trans ((UW.drew (K := K) H1.out.l).trans U1))
  have k4 : wu.cell? ⟨K.h, 4, none⟩ = some (.int .u32 s.pc) := (A1.c 4 (by decide) (by decide)).trans (by show some (Value.int .u32 pu.2.pc) = _; rw [G2.out.pc])
  have DN := done_any (K := K) wu A1 (by rw [G2.out.cnt]; exact HC.out)
  rw [G2.out.cnt] at DN
  have DN := κ DN
  have PB := put_any (K := K) ⟨13, 7, pu.1, 0, 0, s.pc, s.cnt - 1⟩ wu A1 (by have := G2.out.n; have := HN.out; omega)
  rw [hsb] at PB
  have PB := κ PB
  clear A1 U1 PU
  refine hKK.out _ _ ?_ (fun hHeld2 => ?_)
  ·exact k4
  clear hKK KK hHeld
  have hHeld := hHeld2
  clear hHeld2
  try simp only [Act.put, κa, κb, κc]
  -- 9
  refine wpAnyH_ready (rs := [9]) (by kernel_rfl) (by simp) ?_
  refine AllReadyH.cons rfl (fun KK hKK => ?_) AllReadyH.nil
  go_simp
  go_wp2_with (go_at_call 130; refine DN.out.mono ?_; rintro e wd ⟨rfl, rfl⟩)
  refine hKK.out _ _ ?_ (fun hHeld2 => ?_)
  ·exact k4
  clear hKK KK hHeld
  have hHeld := hHeld2
  clear hHeld2
  try simp only [Act.put, κa, κb, κc]
  -- 10
  refine κw 10 44 (.agg #[.int .i64 13, .int .i64 7, .int .i64 pu.1, .int .i64 0, .int .i64 0, .int .u32 s.pc, .int .i64 (s.cnt - 1)]) rfl rfl (by kernel_rfl) (by kernel_rfl) (by kernel_rfl) (fun _ _ _ h => h) (Kt.yl_bld (by rfl) _ _ rfl (#[(0, .int .i64 13), (1, .int .i64 7), (2, .int .i64 pu.1), (5, .int .u32 s.pc), (6, .int .i64 (s.cnt - 1))]) _ (by kernel_rfl) hbd) hHeld ?_
  try simp only [Act.put, κa, κb, κc]
  -- 11
  refine wpAnyH_ready (rs := [11]) (by kernel_rfl) (by simp) ?_
  refine AllReadyH.cons rfl (fun KK hKK => ?_) AllReadyH.nil
  go_simp
  go_wp2_with (go_at_call 54; refine PB.out.mono ?_; rintro e wb ⟨rfl, A1, U1⟩)
  have HB := κ A1
  have VB := κ (U2.out.trans U1)
  have j4 : wb.cell? ⟨K.h, 4, none⟩ = some (.int .u32 s.pc) := (A1.c 4 (by decide) (by decide)).trans (by show some (Value.int .u32 sb.pc) = _; rw [G3.out.pc])
  clear A1 U1 PB
  refine hKK.out _ _ ?_ (fun hHeld2 => ?_)
  ·exact j4
  clear hKK KK hHeld
  have hHeld := hHeld2
  clear hHeld2
  try simp only [Act.put, κa, κb, κc]
  refine wpAnyH_done (by kernel_rfl) ?_ _
  go_upto_region 6 with (go_at_call 185; refine (WY.out _).mono ?_; rintro e w2 ⟨rfl, b2⟩; have H2 := κ (HB.out.below b2); have V2 := κ (VB.out.trans (UW.below HB.out.l b2)); clear b2)
  go_upto_region 7 with fail
  have L0 := κ (AL.new H2.out V2.out #[.bool false, .int .i64 5, .int .i64 p1.1, .int .i64 z, .int .i64 (-1)] 108)
  generalize w2.alloc (.cells #[.bool false, .int .i64 5, .int .i64 p1.1, .int .i64 z, .int .i64 (-1)] 108) = w3 at *
  generalize w2.heap.size = bx at *
  clear H2 V2
  obtain ⟨b0, b1, b2, b3, b4, bl, bz, ll⟩ := L0.out.five
  have PV := bin_any (K := K) wp p1.1 z w3 L0.out.m (by have := G3.out.n; have := HN.out; omega)
  rw [hpv] at PV
  have PV := κ PV
  obtain ⟨b0, b1, b2, b3, b4, bl, bz, ll⟩ := L0.out.five
  go_wp2_with (first
   | (go_at_call 135; refine PV.out.mono ?_; rintro e w4 ⟨rfl, A1, U1⟩; have L1 := κ (L0.out.call A1 U1); obtain ⟨b00, b10, b20, b30, b40, bl0, bz0, ll0⟩ := L1.out.five; clear A1 U1 PV; have M0 : Hid (AL K w pv.2 bx #[.bool false, .int .i64 5, .int .i64 pv.1, .int .i64 (-1), .int .i64 (-1)] ((w4.setCell ⟨bx, 2, none⟩ (.int .i64 pv.1)).setCell ⟨bx, 3, none⟩ (.int .i64 (-1)))) := (L1.out.put 2 _).put 3 _; obtain ⟨m00, m10, m20, m30, m40, ml0, mz0, mm0⟩ := M0.out.five; have PF := set_any (K := K) r pv.1 HR.out ((w4.setCell ⟨bx, 2, none⟩ (.int .i64 pv.1)).setCell ⟨bx, 3, none⟩ (.int .i64 (-1))) M0.out.m (by have := G5.out.n; have := HN.out; omega); rw [hsf] at PF; have PF := κ PF)
   | (go_at_call 116; refine PF.out.mono ?_; rintro e w5 ⟨rfl, A1, U1⟩; have L2 := κ (M0.out.call A1 U1); obtain ⟨b01, b11, b21, b31, b41, bl1, bz1, ll1⟩ := L2.out.five; clear A1 U1 PF; have PZ := flag_any (K := K) false 5 pv.1 (-1) (-1) w5 L2.out.m (by have := G6.out.n; have := HN.out; omega); rw [hsz] at PZ; have PZ := κ PZ)
   | (go_at_call 121; refine PZ.out.mono ?_; rintro e w6 ⟨rfl, A1, U1⟩; have L3 := κ (L2.out.call A1 U1); obtain ⟨b02, b12, b22, b32, b42, bl2, bz2, ll2⟩ := L3.out.five; clear A1 U1 PZ))
  all_goals go_end0
  all_goals exact ⟨rfl, L3.out.m, L3.out.fin⟩
theorem alu_shf (o wp wq z : Int) (r : Nat) (hr : r < 8) (w : World) (a : LM K s w) (hc : 1 ≤ s.cnt ∧ s.cnt ≤ 64) (hn : s.ops.length + 30 < 1000000000) (o0 : 0 ≤ o) (o1 : o < 16) (hw : way o = (wp, wq)) (h1 : o ≠ 1) (h3 : o ≠ 3) (hB : ¬ (o = 14 ∨ o = 15)) (hC : 6 ≤ wq ∧ wq ≤ 9) (hD : o ≠ 7) (hE : wq ≠ 5) (hF : o ≠ 8) :
  Calls Tryz.prog 125 #[.pointer (some ⟨K.h, 0, none⟩), .int .i64 o, .int .i64 r, .int .i64 z] w fun e w' => e = .returned (.tuple #[]) ∧ LM K (s.alu o r z) w' ∧ UW K w w' := by
 have HN := κ hn
 have HR := κ hr
 have HC := κ hc
 have WY := κ (fun w => way_any o w o0 o1)
 rw [hw] at WY
 dsimp only at WY
 have e1 : (o == 1) = false := by simpa using h1
 have e3 : (o == 3) = false := by simpa using h3
 have e14 : (o == 14) = false := by simp; omega
 have e15 : (o == 15) = false := by simp; omega
 have n7 : (o != 7) = true := by simpa using hD
 have n8 : (o != 8) = true := by simpa using hF
 have d6 : decide (6 ≤ wq) = true := decide_eq_true hC.1
 have d9 : decide (wq ≤ 9) = true := decide_eq_true hC.2
 have q5 : (wq == 5) = false := by simpa using hE
 obtain ⟨p1, hp1⟩ : ∃ p, s.get r = p := ⟨_, rfl⟩
 have G1 := κ (show Gw 1 s p1.2 by rw [← hp1]; exact get_gw s r)
 obtain ⟨pn, hpn⟩ : ∃ p, p1.2.now = p := ⟨_, rfl⟩
 have G4 := κ (G1.out.trans (show Gw 5 p1.2 pn.2 by rw [← hpn]; exact now_gw _))
 obtain ⟨pv, hpv⟩ : ∃ p, pn.2.B wp p1.1 z = p := ⟨_, rfl⟩
 have G5 := κ (G4.out.trans (show Gw 1 pn.2 pv.2 by rw [← hpv]; exact B_gw _ _ _ _))
 obtain ⟨sf, hsf⟩ : ∃ p, pv.2.set r pv.1 = p := ⟨_, rfl⟩
 have G6 := κ (G5.out.trans (show Gw 1 pv.2 sf by rw [← hsf]; exact set_gw _ _ _))
 obtain ⟨sz, hsz⟩ : ∃ p, sf.flag wq p1.1 z pn.1 = p := ⟨_, rfl⟩
 have E : s.alu o r z = sz := by
  simp only [Lk.alu, hw, if_neg (show ¬ (o = 1 ∨ o = 3) by omega), if_neg hB, if_pos hC, if_pos hD, if_neg hE, if_pos (show o ≠ 7 ∧ o ≠ 8 from ⟨hD, hF⟩), hp1, hpn, hpv, hsf, hsz, ↓reduceIte]
 rw [E]
 have P1 := get_any (K := K) r HR.out w a (by omega)
 rw [hp1] at P1
 have P1 := κ P1
 clear a hn hc hr E
 go_enter Tryz.func125, Tryz.ntmps125
 go_upto_region 6 with (first
  | (go_at_call 118; refine P1.out.mono ?_; rintro e w1 ⟨rfl, A1, U1⟩; have H1 := κ A1; have V1 := κ U1; clear P1 A1 U1)
  | (go_at_call 185; refine (WY.out _).mono ?_; rintro e w2 ⟨rfl, b2⟩; have H2 := κ (H1.out.below b2); have V2 := κ (V1.out.trans (UW.below H1.out.l b2)); clear b2))
 go_upto_region 7 with fail
 have L0 := κ (AL.new H2.out V2.out #[.bool false, .int .i64 wq, .int .i64 p1.1, .int .i64 z, .int .i64 (-1)] 108)
 generalize w2.alloc (.cells #[.bool false, .int .i64 wq, .int .i64 p1.1, .int .i64 z, .int .i64 (-1)] 108) = w3 at *
 generalize w2.heap.size = bx at *
 clear H2 V2
 obtain ⟨b0, b1, b2, b3, b4, bl, bz, ll⟩ := L0.out.five
 have PN := now_any (K := K) w3 L0.out.m (by have := G1.out.n; have := HN.out; omega)
 rw [hpn] at PN
 have PN := κ PN
 obtain ⟨b0, b1, b2, b3, b4, bl, bz, ll⟩ := L0.out.five
 go_wp2_with (first
  | (go_at_call 119; refine PN.out.mono ?_; rintro e w4 ⟨rfl, A1, U1⟩; have L1 := κ (L0.out.call A1 U1); obtain ⟨b00, b10, b20, b30, b40, bl0, bz0, ll0⟩ := L1.out.five; clear A1 U1 PN; have M0 : Hid (AL K w pn.2 bx #[.bool false, .int .i64 wq, .int .i64 p1.1, .int .i64 z, .int .i64 pn.1] (w4.setCell ⟨bx, 4, none⟩ (.int .i64 pn.1))) := L1.out.put 4 _; obtain ⟨m00, m10, m20, m30, m40, ml0, mz0, mm0⟩ := M0.out.five; have PV := bin_any (K := K) wp p1.1 z (w4.setCell ⟨bx, 4, none⟩ (.int .i64 pn.1)) M0.out.m (by have := G4.out.n; have := HN.out; omega); rw [hpv] at PV; have PV := κ PV)
  | (go_at_call 135; refine PV.out.mono ?_; rintro e w5 ⟨rfl, A1, U1⟩; have L2 := κ (M0.out.call A1 U1); obtain ⟨b01, b11, b21, b31, b41, bl1, bz1, ll1⟩ := L2.out.five; clear A1 U1 PV; have PF := set_any (K := K) r pv.1 HR.out w5 L2.out.m (by have := G5.out.n; have := HN.out; omega); rw [hsf] at PF; have PF := κ PF)
  | (go_at_call 116; refine PF.out.mono ?_; rintro e w6 ⟨rfl, A1, U1⟩; have L3 := κ (L2.out.call A1 U1); obtain ⟨b02, b12, b22, b32, b42, bl2, bz2, ll2⟩ := L3.out.five; clear A1 U1 PF; have PZ := flag_any (K := K) false wq p1.1 z pn.1 w6 L3.out.m (by have := G6.out.n; have := HN.out; omega); rw [hsz] at PZ; have PZ := κ PZ)
  | (go_at_call 121; refine PZ.out.mono ?_; rintro e w7 ⟨rfl, A1, U1⟩; have L4 := κ (L3.out.call A1 U1); obtain ⟨b03, b13, b23, b33, b43, bl3, bz3, ll3⟩ := L4.out.five; clear A1 U1 PZ))
 all_goals go_end0
 all_goals exact ⟨rfl, L4.out.m, L4.out.fin⟩
theorem alu_c1 (z : Int) (r : Nat) (hr : r < 8) (w : World) (a : LM K s w) (hn : s.ops.length + 30 < 1000000000) :
  Calls Tryz.prog 125 #[.pointer (some ⟨K.h, 0, none⟩), .int .i64 1, .int .i64 r, .int .i64 z] w fun e w' => e = .returned (.tuple #[]) ∧ LM K (s.alu 1 r z) w' ∧ UW K w w' := by
 have HN := κ hn
 have HR := κ hr
 obtain ⟨p1, hp1⟩ : ∃ p, s.get r = p := ⟨_, rfl⟩
 have G1 := κ (show Gw 1 s p1.2 by rw [← hp1]; exact get_gw s r)
 have E : s.alu 1 r z = p1.2.carr 1 r p1.1 z := by
  unfold Lk.alu
  dsimp only
  rw [hp1, if_pos (by decide)]
 rw [E]
 have P1 := get_any (K := K) r HR.out w a (by omega)
 rw [hp1] at P1
 have P1 := κ P1
 clear a hn hr E
 go_enter Tryz.func125, Tryz.ntmps125
 go_wp2_with (first
  | (go_at_call 118; refine P1.out.mono ?_; rintro e w1 ⟨rfl, A1, U1⟩; have V1 := κ U1; have P2 := κ (carr_1 (K := K) p1.1 z r HR.out w1 A1 (by have := G1.out.n; have := HN.out; omega)); clear A1 U1 P1)
  | (go_at_call 184; refine P2.out.mono ?_; rintro e w2 ⟨rfl, A2, U2⟩; have HL := κ A2; have V2 := κ U2; clear A2 U2 P2))
 exact bodyPost_ret (v := .tuple #[]) (by simp [results, Tryz.results125, go_sem]) rfl ⟨rfl, HL.out, V1.out.trans V2.out⟩
theorem alu_c3 (z : Int) (r : Nat) (hr : r < 8) (w : World) (a : LM K s w) (hn : s.ops.length + 30 < 1000000000) :
  Calls Tryz.prog 125 #[.pointer (some ⟨K.h, 0, none⟩), .int .i64 3, .int .i64 r, .int .i64 z] w fun e w' => e = .returned (.tuple #[]) ∧ LM K (s.alu 3 r z) w' ∧ UW K w w' := by
 have HN := κ hn
 have HR := κ hr
 obtain ⟨p1, hp1⟩ : ∃ p, s.get r = p := ⟨_, rfl⟩
 have G1 := κ (show Gw 1 s p1.2 by rw [← hp1]; exact get_gw s r)
 have E : s.alu 3 r z = p1.2.carr 3 r p1.1 z := by
  unfold Lk.alu
  dsimp only
  rw [hp1, if_pos (by decide)]
 rw [E]
 have P1 := get_any (K := K) r HR.out w a (by omega)
 rw [hp1] at P1
 have P1 := κ P1
 clear a hn hr E
 go_enter Tryz.func125, Tryz.ntmps125
 go_wp2_with (first
  | (go_at_call 118; refine P1.out.mono ?_; rintro e w1 ⟨rfl, A1, U1⟩; have V1 := κ U1; have P2 := κ (carr_3 (K := K) p1.1 z r HR.out w1 A1 (by have := G1.out.n; have := HN.out; omega)); clear A1 U1 P1)
  | (go_at_call 184; refine P2.out.mono ?_; rintro e w2 ⟨rfl, A2, U2⟩; have HL := κ A2; have V2 := κ U2; clear A2 U2 P2))
 exact bodyPost_ret (v := .tuple #[]) (by simp [results, Tryz.results125, go_sem]) rfl ⟨rfl, HL.out, V1.out.trans V2.out⟩
theorem alu_gw (s : Lk) (o : Int) (d : Nat) (b : Int) : Gw 20 s (s.alu o d b) := by
 unfold Lk.alu
 dsimp only
 have hg := get_gw s d
 generalize s.get d = g at hg ⊢
 split
 ·exact (hg.trans (carr_gw _ _ _ _ _)).mono (by decide)
 ·have h1 : Gw 3 s (if o = 14 ∨ o = 15 then (g.2.U 6 b).2.put ⟨13, 7, (g.2.U 6 b).1, 0, 0, s.pc, s.cnt - 1⟩ else g.2) := by
   split
   ·exact (hg.trans (U_gw _ _ _)).trans (put_gw _ _)
   ·exact hg.mono (by decide)
  generalize (if o = 14 ∨ o = 15 then (g.2.U 6 b).2.put ⟨13, 7, (g.2.U 6 b).1, 0, 0, s.pc, s.cnt - 1⟩ else g.2) = s1 at h1 ⊢
  have h2 : Gw 8 s (if 6 ≤ (way o).2 ∧ (way o).2 ≤ 9 then s1.now else (-1, s1)).2 := by
   split
   ·exact h1.trans (now_gw _)
   ·exact h1.mono (by decide)
  generalize (if 6 ≤ (way o).2 ∧ (way o).2 ≤ 9 then s1.now else (-1, s1)) = s2 at h2 ⊢
  have h3 : Gw 9 s (if o ≠ 7 then s2.2.B (way o).1 g.1 b else (0, s2.2)).2 := by
   split
   ·exact h2.trans (B_gw _ _ _ _)
   ·exact h2.mono (by decide)
  generalize (if o ≠ 7 then s2.2.B (way o).1 g.1 b else (0, s2.2)) = v at h3 ⊢
  have h4 : Gw 10 s (if o ≠ 7 ∧ o ≠ 8 then v.2.set d v.1 else v.2) := by
   split
   ·exact h3.trans (set_gw _ _ _)
   ·exact h3.mono (by decide)
  exact (h4.trans (flag_gw _ _ _ _ _)).mono (by decide)
theorem alu_any (o z : Int) (r : Nat) (hr : r < 8) (o0 : 0 ≤ o) (o1 : o < 16) (w : World) (a : LM K s w) (hc : 1 ≤ s.cnt ∧ s.cnt ≤ 64) (hn : s.ops.length + 30 < 1000000000) :
  Calls Tryz.prog 125 #[.pointer (some ⟨K.h, 0, none⟩), .int .i64 o, .int .i64 r, .int .i64 z] w fun e w' => e = .returned (.tuple #[]) ∧ LM K (s.alu o r z) w' ∧ UW K w w' := by
 rcases (show o = 0 ∨ o = 1 ∨ o = 2 ∨ o = 3 ∨ o = 4 ∨ o = 5 ∨ o = 6 ∨ o = 7 ∨ o = 8 ∨ o = 9 ∨ o = 10 ∨ o = 11 ∨ o = 12 ∨ o = 13 ∨ o = 14 ∨ o = 15 by omega) with rfl | rfl | rfl | rfl | rfl | rfl | rfl | rfl | rfl | rfl | rfl | rfl | rfl | rfl | rfl | rfl
 ·exact alu_ar 0 0 1 z r hr w a hc hn o0 o1 rfl (by decide) (by decide) (by decide) (by decide) (by decide) (by decide) (by decide)
 ·exact alu_c1 z r hr w a hn
 ·exact alu_ar 2 1 3 z r hr w a hc hn o0 o1 rfl (by decide) (by decide) (by decide) (by decide) (by decide) (by decide) (by decide)
 ·exact alu_c3 z r hr w a hn
 ·exact alu_log 4 2 z r hr w a hc hn o0 o1 rfl (by decide) (by decide) (by decide) (by decide) (by decide)
 ·exact alu_log 5 3 z r hr w a hc hn o0 o1 rfl (by decide) (by decide) (by decide) (by decide) (by decide)
 ·exact alu_log 6 4 z r hr w a hc hn o0 o1 rfl (by decide) (by decide) (by decide) (by decide) (by decide)
 ·exact alu_cmp 1 3 z r hr w a hc hn rfl (by decide) (by decide)
 ·exact alu_tst 2 z r hr w a hc hn rfl
 ·exact alu_shf 9 5 6 z r hr w a hc hn o0 o1 rfl (by decide) (by decide) (by decide) (by decide) (by decide) (by decide) (by decide)
 ·exact alu_shf 10 6 7 z r hr w a hc hn o0 o1 rfl (by decide) (by decide) (by decide) (by decide) (by decide) (by decide) (by decide)
 ·exact alu_shf 11 7 8 z r hr w a hc hn o0 o1 rfl (by decide) (by decide) (by decide) (by decide) (by decide) (by decide) (by decide)
 ·exact alu_shf 12 8 9 z r hr w a hc hn o0 o1 rfl (by decide) (by decide) (by decide) (by decide) (by decide) (by decide) (by decide)
 ·exact alu_ar 13 9 10 z r hr w a hc hn o0 o1 rfl (by decide) (by decide) (by decide) (by decide) (by decide) (by decide) (by decide)
 ·exact alu_div 14 11 z r hr w a hc hn o0 o1 rfl (by decide) (by decide) (by decide) (by decide) (by decide)
 ·exact alu_div 15 12 z r hr w a hc hn o0 o1 rfl (by decide) (by decide) (by decide) (by decide) (by decide)
end Go.Proofs.YtcjcmnnhmajocabGreat.Lf
