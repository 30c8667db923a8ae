/- lift: plain. -/
import Derived.Test.YtcjcmnnhmajocabGreatPlaz
set_option linter.unusedVariables false
set_option linter.unusedSimpArgs false
set_option maxRecDepth 100000
set_option maxHeartbeats 16000000
namespace Go.Proofs.YtcjcmnnhmajocabGreat.Lf
open Go.RowKit Kt Ic Me
open Ot (OwnO OB)
variable {K : Kc} {s : Lk} {W W' : World} {B : Nat}
theorem plain_0 (d r : Nat) (f m : Int) (hd : d < 8) (hr : r < 8) (w : World) (a : LM K s w) (hc : 1 ≤ s.cnt ∧ s.cnt ≤ 64) (hn : s.ops.length + 60 < 1000000000) :
  Calls Tryz.prog 85 #[.pointer (some ⟨K.h, 0, none⟩), .agg #[.int .i64 0, .int .i64 d, .int .i64 r, .int .i64 f, .int .u32 m]] w fun e w' => e = .returned (.bool true) ∧ LM K (s.plain 0 d r f m).2 w' ∧ UW K w w' := by
 have HN := κ hn
 have HC := κ hc
 have HR := κ hr
 have HD := κ hd
 have E : (s.plain 0 d r f m).2 = s := by
  unfold Lk.plain
  rw [if_pos (by decide)]
 rw [E]
 clear E
 have A0 := κ (a.alloc (.cells #[.int .i64 0, .int .i64 d, .int .i64 r, .int .i64 f, .int .u32 m] 74))
 have B0 := κ (Bx.new a #[.int .i64 0, .int .i64 d, .int .i64 r, .int .i64 f, .int .u32 m] 74)
 have U0 := κ (UW.alloc a.l (.cells #[.int .i64 0, .int .i64 d, .int .i64 r, .int .i64 f, .int .u32 m] 74))
 have uI := Tryz.underlying74
 have iI : (Tryz.prog.info? 74).map (·.size) = some ([.int .i64 0, .int .i64 d, .int .i64 r, .int .i64 f, .int .u32 m] : List Value).length := by kernel_rfl
 clear a hn hc hd hr
 go_enter Tryz.func85, Tryz.ntmps85
 go_upto_region 1 with fail
 generalize w.alloc (.cells #[.int .i64 0, .int .i64 d, .int .i64 r, .int .i64 f, .int .u32 m] 74) = w0 at *
 generalize w.heap.size = bx at *
 have R0 := κ (RS.of B0.out A0.out (Gw.refl s))
 have x0_0 := B0.out.c 0 _ rfl
 have x1_0 := B0.out.c 1 _ rfl
 have x2_0 := B0.out.c 2 _ rfl
 have x3_0 := B0.out.c 3 _ rfl
 have x4_0 := B0.out.c 4 _ rfl
 have xl_0 := B0.out.l
 have y4_0 := R0.out.p
 have y5_0 := R0.out.x
 have y1_0 := R0.out.n
 have yl_0 := A0.out.l
 go_wp2
 go_wp2
 go_ret
 exact ⟨rfl, A0.out, U0.out⟩
theorem plain_16 (d r : Nat) (f m : Int) (hd : d < 8) (hr : r < 8) (w : World) (a : LM K s w) (hc : 1 ≤ s.cnt ∧ s.cnt ≤ 64) (hn : s.ops.length + 60 < 1000000000) :
  Calls Tryz.prog 85 #[.pointer (some ⟨K.h, 0, none⟩), .agg #[.int .i64 16, .int .i64 d, .int .i64 r, .int .i64 f, .int .u32 m]] w fun e w' => e = .returned (.bool true) ∧ LM K (s.plain 16 d r f m).2 w' ∧ UW K w w' := by
 have HN := κ hn
 have HC := κ hc
 have HR := κ hr
 have HD := κ hd
 obtain ⟨p1, hp1⟩ : ∃ p, s.K m = p := ⟨_, rfl⟩
 have g1 : Gw 1 s p1.2 := by rw [← hp1]; exact K_gw s _ 
 have G1 := κ g1
 clear g1
 obtain ⟨p2, hp2⟩ : ∃ p, p1.2.set d p1.1 = p := ⟨_, rfl⟩
 have g2 : Gw 1 p1.2 p2 := by rw [← hp2]; exact set_gw p1.2 _ _ 
 have G2 := κ (G1.out.trans g2)
 clear g2
 have E : (s.plain 16 d r f m).2 = p2 := by
  unfold Lk.plain
  rw [if_neg (by decide), if_pos (by decide)]
  simp only [hp1, hp2, Int.reduceEq, ↓reduceIte]
 rw [E]
 clear E
 have A0 := κ (a.alloc (.cells #[.int .i64 16, .int .i64 d, .int .i64 r, .int .i64 f, .int .u32 m] 74))
 have B0 := κ (Bx.new a #[.int .i64 16, .int .i64 d, .int .i64 r, .int .i64 f, .int .u32 m] 74)
 have U0 := κ (UW.alloc a.l (.cells #[.int .i64 16, .int .i64 d, .int .i64 r, .int .i64 f, .int .u32 m] 74))
 have uI := Tryz.underlying74
 have iI : (Tryz.prog.info? 74).map (·.size) = some ([.int .i64 16, .int .i64 d, .int .i64 r, .int .i64 f, .int .u32 m] : List Value).length := by kernel_rfl
 clear a hn hc hd hr
 go_enter Tryz.func85, Tryz.ntmps85
 go_upto_region 1 with fail
 generalize w.alloc (.cells #[.int .i64 16, .int .i64 d, .int .i64 r, .int .i64 f, .int .u32 m] 74) = w0 at *
 generalize w.heap.size = bx at *
 have R0 := κ (RS.of B0.out A0.out (Gw.refl s))
 have x0_0 := B0.out.c 0 _ rfl
 have x1_0 := B0.out.c 1 _ rfl
 have x2_0 := B0.out.c 2 _ rfl
 have x3_0 := B0.out.c 3 _ rfl
 have x4_0 := B0.out.c 4 _ rfl
 have xl_0 := B0.out.l
 have y4_0 := R0.out.p
 have y5_0 := R0.out.x
 have y1_0 := R0.out.n
 have yl_0 := A0.out.l
 have P1 := konst_any (K := K) m w0.drew (A0.out.drew) (by have := HN.out; omega)
 rw [hp1] at P1
 have P1 := κ P1
 go_wp2
 have hf1 : ∀ w : World, (Instr.fieldAt 74 (.pointer (some ⟨bx, 0, none⟩)) 1).run Tryz.prog w = .ok (.pointer (some ⟨bx, 1, none⟩)) w := fun w => by go_simp
 have hl2 : ∀ w', RS K s bx #[.int .i64 16, .int .i64 d, .int .i64 r, .int .i64 f, .int .u32 m] w' → (Instr.loadAt 3 (.pointer (some ⟨bx, 1, none⟩))).run Tryz.prog w' = .ok (.int .i64 d) w' := fun w' h => by
  have hp := h.b.c 1 _ rfl
  have hq := h.b.l
  clear h
  go_simp
 have hf4 : ∀ w : World, (Instr.fieldAt 74 (.pointer (some ⟨bx, 0, none⟩)) 4).run Tryz.prog w = .ok (.pointer (some ⟨bx, 4, none⟩)) w := fun w => by go_simp
 have hl5 : ∀ w', RS K s bx #[.int .i64 16, .int .i64 d, .int .i64 r, .int .i64 f, .int .u32 m] w' → (Instr.loadAt 29 (.pointer (some ⟨bx, 4, none⟩))).run Tryz.prog w' = .ok (.int .u32 m) w' := fun w' h => by
  have hp := h.b.c 4 _ rfl
  have hq := h.b.l
  clear h
  go_simp
 refine wp_region_held_drew (S := RS K s bx #[.int .i64 16, .int .i64 d, .int .i64 r, .int .i64 f, .int .u32 m]) (by kernel_rfl) (R0.out).drew (fun hHeld => ?_)
 -- 0
 refine κw 0 17 (.pointer (some ⟨K.h, 0, none⟩)) rfl rfl (by kernel_rfl) (by kernel_rfl) (by kernel_rfl) (fun _ _ _ h => h) (Kt.yl_mov (by rfl) _ rfl _ rfl) hHeld ?_
 try simp only [Act.put, κa, κb, κc]
 -- 1
 refine κw 1 18 (.pointer (some ⟨bx, 1, none⟩)) rfl rfl (by kernel_rfl) (by kernel_rfl) (by kernel_rfl) (fun _ _ _ h => h) (Kt.yl_fld (by rfl) _ _ _ rfl _ _ rfl hf1) hHeld ?_
 try simp only [Act.put, κa, κb, κc]
 -- 2
 refine κw 2 19 (.int .i64 d) rfl rfl (by kernel_rfl) (by kernel_rfl) (by kernel_rfl) (fun _ _ _ h => h) (Kt.yl_ld (by rfl) _ _ rfl _ _ rfl hl2) hHeld ?_
 try simp only [Act.put, κa, κb, κc]
 -- 3
 refine κw 3 20 (.pointer (some ⟨K.h, 0, none⟩)) rfl rfl (by kernel_rfl) (by kernel_rfl) (by kernel_rfl) (fun _ _ _ h => h) (Kt.yl_mov (by rfl) _ rfl _ rfl) hHeld ?_
 try simp only [Act.put, κa, κb, κc]
 -- 4
 refine κw 4 21 (.pointer (some ⟨bx, 4, none⟩)) rfl rfl (by kernel_rfl) (by kernel_rfl) (by kernel_rfl) (fun _ _ _ h => h) (Kt.yl_fld (by rfl) _ _ _ rfl _ _ rfl hf4) hHeld ?_
 try simp only [Act.put, κa, κb, κc]
 -- 5
 refine κw 5 22 (.int .u32 m) rfl rfl (by kernel_rfl) (by kernel_rfl) (by kernel_rfl) (fun _ _ _ h => h) (Kt.yl_ld (by rfl) _ _ rfl _ _ rfl hl5) hHeld ?_
 try simp only [Act.put, κa, κb, κc]
 -- 6
 refine wpAnyH_ready (rs := [6]) (by kernel_rfl) (by simp) ?_
 refine AllReadyH.cons rfl (fun KK hKK => ?_) AllReadyH.nil
 go_simp
 go_wp2_with (go_at_call 117; refine P1.out.mono ?_; rintro e w1 ⟨rfl, A1, U1⟩)
 have V1 := κ ((UW.drew (K := K) (W := w0) A0.out.l).trans U1)
 have B1 := κ (B0.out.uw V1.out)
 have M1 := κ A1
 have R1 := RS.of B1.out A1 G1.out
 have x0_1 := B1.out.c 0 _ rfl
 have x1_1 := B1.out.c 1 _ rfl
 have x2_1 := B1.out.c 2 _ rfl
 have x3_1 := B1.out.c 3 _ rfl
 have x4_1 := B1.out.c 4 _ rfl
 have xl_1 := B1.out.l
 have y4_1 := R1.p
 have y5_1 := R1.x
 have y1_1 := R1.n
 have yl_1 := A1.l
 have P2 := set_any (K := K) d p1.1 HD.out w1 (A1) (by have := G1.out.n; have := HN.out; omega)
 rw [hp2] at P2
 have P2 := κ P2
 clear A1 U1 P1
 refine hKK.out _ _ ?_ (fun hHeld2 => ?_)
 ·exact R1
 clear hKK KK hHeld
 have hHeld := hHeld2
 clear hHeld2
 try simp only [Act.put, κa, κb, κc]
 -- 7
 refine wpAnyH_ready (rs := [7]) (by kernel_rfl) (by simp) ?_
 refine AllReadyH.cons rfl (fun KK hKK => ?_) AllReadyH.nil
 go_simp
 go_wp2_with (go_at_call 116; refine P2.out.mono ?_; rintro e w2 ⟨rfl, A1, U1⟩)
 have V2 := κ (U1)
 have B2 := κ (B1.out.uw V2.out)
 have M2 := κ A1
 have R2 := RS.of B2.out A1 G2.out
 have x0_2 := B2.out.c 0 _ rfl
 have x1_2 := B2.out.c 1 _ rfl
 have x2_2 := B2.out.c 2 _ rfl
 have x3_2 := B2.out.c 3 _ rfl
 have x4_2 := B2.out.c 4 _ rfl
 have xl_2 := B2.out.l
 have y4_2 := R2.p
 have y5_2 := R2.x
 have y1_2 := R2.n
 have yl_2 := A1.l
 clear A1 U1 P2
 refine hKK.out _ _ ?_ (fun hHeld2 => ?_)
 ·exact R2
 clear hKK KK hHeld
 have hHeld := hHeld2
 clear hHeld2
 try simp only [Act.put, κa, κb, κc]
 refine wpAnyH_done (by kernel_rfl) ?_ _
 go_wp2
 go_ret
 exact ⟨rfl, M2.out, ((U0.out.trans V1.out).trans V2.out)⟩
theorem plain_17 (d r : Nat) (f m : Int) (hd : d < 8) (hr : r < 8) (w : World) (a : LM K s w) (hc : 1 ≤ s.cnt ∧ s.cnt ≤ 64) (hn : s.ops.length + 60 < 1000000000) :
  Calls Tryz.prog 85 #[.pointer (some ⟨K.h, 0, none⟩), .agg #[.int .i64 17, .int .i64 d, .int .i64 r, .int .i64 f, .int .u32 m]] w fun e w' => e = .returned (.bool true) ∧ LM K (s.plain 17 d r f m).2 w' ∧ UW K w w' := by
 have HN := κ hn
 have HC := κ hc
 have HR := κ hr
 have HD := κ hd
 obtain ⟨p1, hp1⟩ : ∃ p, s.get d = p := ⟨_, rfl⟩
 have g1 : Gw 1 s p1.2 := by rw [← hp1]; exact get_gw s _ 
 have G1 := κ g1
 clear g1
 obtain ⟨p2, hp2⟩ : ∃ p, p1.2.now = p := ⟨_, rfl⟩
 have g2 : Gw 5 p1.2 p2.2 := by rw [← hp2]; exact now_gw p1.2 
 have G2 := κ (G1.out.trans g2)
 clear g2
 obtain ⟨p3, hp3⟩ : ∃ p, p2.2.add p1.1 1 = p := ⟨_, rfl⟩
 have g3 : Gw 2 p2.2 p3.2 := by rw [← hp3]; exact add_gw p2.2 _ _ 
 have G3 := κ (G2.out.trans g3)
 clear g3
 obtain ⟨p4, hp4⟩ : ∃ p, p3.2.set d p3.1 = p := ⟨_, rfl⟩
 have g4 : Gw 1 p3.2 p4 := by rw [← hp4]; exact set_gw p3.2 _ _ 
 have G4 := κ (G3.out.trans g4)
 clear g4
 obtain ⟨p5, hp5⟩ : ∃ p, p4.flag 11 p1.1 (-1) p2.1 = p := ⟨_, rfl⟩
 have g5 : Gw 5 p4 p5 := by rw [← hp5]; exact flag_gw p4 _ _ _ _ 
 have G5 := κ (G4.out.trans g5)
 clear g5
 have E : (s.plain 17 d r f m).2 = p5 := by
  unfold Lk.plain
  rw [if_neg (by decide), if_neg (by decide), if_pos (by decide)]
  simp only [hp1, hp2, hp3, hp4, hp5, Int.reduceEq, ↓reduceIte]
 rw [E]
 clear E
 have A0 := κ (a.alloc (.cells #[.int .i64 17, .int .i64 d, .int .i64 r, .int .i64 f, .int .u32 m] 74))
 have B0 := κ (Bx.new a #[.int .i64 17, .int .i64 d, .int .i64 r, .int .i64 f, .int .u32 m] 74)
 have U0 := κ (UW.alloc a.l (.cells #[.int .i64 17, .int .i64 d, .int .i64 r, .int .i64 f, .int .u32 m] 74))
 have uI := Tryz.underlying74
 have iI : (Tryz.prog.info? 74).map (·.size) = some ([.int .i64 17, .int .i64 d, .int .i64 r, .int .i64 f, .int .u32 m] : List Value).length := by kernel_rfl
 clear a hn hc hd hr
 go_enter Tryz.func85, Tryz.ntmps85
 go_upto_region 1 with fail
 generalize w.alloc (.cells #[.int .i64 17, .int .i64 d, .int .i64 r, .int .i64 f, .int .u32 m] 74) = w0 at *
 generalize w.heap.size = bx at *
 have R0 := κ (RS.of B0.out A0.out (Gw.refl s))
 have x0_0 := B0.out.c 0 _ rfl
 have x1_0 := B0.out.c 1 _ rfl
 have x2_0 := B0.out.c 2 _ rfl
 have x3_0 := B0.out.c 3 _ rfl
 have x4_0 := B0.out.c 4 _ rfl
 have xl_0 := B0.out.l
 have y4_0 := R0.out.p
 have y5_0 := R0.out.x
 have y1_0 := R0.out.n
 have yl_0 := A0.out.l
 have P1 := get_any (K := K) d HD.out w0 (A0.out) (by have := HN.out; omega)
 rw [hp1] at P1
 have P1 := κ P1
 go_wp2_with (first
  | (go_at_call 118; refine P1.out.mono ?_; rintro e w1 ⟨rfl, A1, U1⟩; have V1 := κ (U1); have B1 := κ (B0.out.uw V1.out); have M1 := κ A1; have R1 := RS.of B1.out A1 G1.out; have x0_1 := B1.out.c 0 _ rfl; have x1_1 := B1.out.c 1 _ rfl; have x2_1 := B1.out.c 2 _ rfl; have x3_1 := B1.out.c 3 _ rfl; have x4_1 := B1.out.c 4 _ rfl; have xl_1 := B1.out.l; have y4_1 := R1.p; have y5_1 := R1.x; have y1_1 := R1.n; have yl_1 := A1.l; have P2 := now_any (K := K)  w1 (A1) (by have := G1.out.n; have := HN.out; omega); rw [hp2] at P2; have P2 := κ P2; clear A1 U1 P1)
  | (go_at_call 119; refine P2.out.mono ?_; rintro e w2 ⟨rfl, A1, U1⟩; have V2 := κ (U1); have B2 := κ (B1.out.uw V2.out); have M2 := κ A1; have R2 := RS.of B2.out A1 G2.out; have x0_2 := B2.out.c 0 _ rfl; have x1_2 := B2.out.c 1 _ rfl; have x2_2 := B2.out.c 2 _ rfl; have x3_2 := B2.out.c 3 _ rfl; have x4_2 := B2.out.c 4 _ rfl; have xl_2 := B2.out.l; have y4_2 := R2.p; have y5_2 := R2.x; have y1_2 := R2.n; have yl_2 := A1.l; have P3 := add_any (K := K) p1.1 1 w2.drew (A1.drew) (by have := G2.out.n; have := HN.out; omega); rw [hp3] at P3; have P3 := κ P3; clear A1 U1 P2))
 have hf1 : ∀ w : World, (Instr.fieldAt 74 (.pointer (some ⟨bx, 0, none⟩)) 1).run Tryz.prog w = .ok (.pointer (some ⟨bx, 1, none⟩)) w := fun w => by go_simp
 have hl2 : ∀ w', RS K s bx #[.int .i64 17, .int .i64 d, .int .i64 r, .int .i64 f, .int .u32 m] w' → (Instr.loadAt 3 (.pointer (some ⟨bx, 1, none⟩))).run Tryz.prog w' = .ok (.int .i64 d) w' := fun w' h => by
  have hp := h.b.c 1 _ rfl
  have hq := h.b.l
  clear h
  go_simp
 refine wp_region_held_drew (S := RS K s bx #[.int .i64 17, .int .i64 d, .int .i64 r, .int .i64 f, .int .u32 m]) (by kernel_rfl) (R2).drew (fun hHeld => ?_)
 -- 0
 refine κw 0 37 (.pointer (some ⟨K.h, 0, none⟩)) rfl rfl (by kernel_rfl) (by kernel_rfl) (by kernel_rfl) (fun _ _ _ h => h) (Kt.yl_mov (by rfl) _ rfl _ rfl) hHeld ?_
 try simp only [Act.put, κa, κb, κc]
 -- 1
 refine κw 1 38 (.pointer (some ⟨bx, 1, none⟩)) rfl rfl (by kernel_rfl) (by kernel_rfl) (by kernel_rfl) (fun _ _ _ h => h) (Kt.yl_fld (by rfl) _ _ _ rfl _ _ rfl hf1) hHeld ?_
 try simp only [Act.put, κa, κb, κc]
 -- 2
 refine κw 2 39 (.int .i64 d) rfl rfl (by kernel_rfl) (by kernel_rfl) (by kernel_rfl) (fun _ _ _ h => h) (Kt.yl_ld (by rfl) _ _ rfl _ _ rfl hl2) hHeld ?_
 try simp only [Act.put, κa, κb, κc]
 -- 3
 refine κw 3 40 (.pointer (some ⟨K.h, 0, none⟩)) rfl rfl (by kernel_rfl) (by kernel_rfl) (by kernel_rfl) (fun _ _ _ h => h) (Kt.yl_mov (by rfl) _ rfl _ rfl) hHeld ?_
 try simp only [Act.put, κa, κb, κc]
 -- 4
 refine κw 4 41 (.int .i64 p1.1) rfl rfl (by kernel_rfl) (by kernel_rfl) (by kernel_rfl) (fun _ _ _ h => h) (Kt.yl_mov (by rfl) _ rfl _ rfl) hHeld ?_
 try simp only [Act.put, κa, κb, κc]
 -- 5
 refine κw 5 42 (.int .i64 1) rfl rfl (by kernel_rfl) (by kernel_rfl) (by kernel_rfl) (fun _ _ _ h => h) (Kt.yl_mov (by rfl) _ rfl _ rfl) hHeld ?_
 try simp only [Act.put, κa, κb, κc]
 -- 6
 refine wpAnyH_ready (rs := [6]) (by kernel_rfl) (by simp) ?_
 refine AllReadyH.cons rfl (fun KK hKK => ?_) AllReadyH.nil
 go_simp
 go_wp2_with (go_at_call 120; refine P3.out.mono ?_; rintro e w3 ⟨rfl, A1, U1⟩)
 have V3 := κ ((UW.drew (K := K) (W := w2) M2.out.l).trans U1)
 have B3 := κ (B2.out.uw V3.out)
 have M3 := κ A1
 have R3 := RS.of B3.out A1 G3.out
 have x0_3 := B3.out.c 0 _ rfl
 have x1_3 := B3.out.c 1 _ rfl
 have x2_3 := B3.out.c 2 _ rfl
 have x3_3 := B3.out.c 3 _ rfl
 have x4_3 := B3.out.c 4 _ rfl
 have xl_3 := B3.out.l
 have y4_3 := R3.p
 have y5_3 := R3.x
 have y1_3 := R3.n
 have yl_3 := A1.l
 have P4 := set_any (K := K) d p3.1 HD.out w3 (A1) (by have := G3.out.n; have := HN.out; omega)
 rw [hp4] at P4
 have P4 := κ P4
 clear A1 U1 P3
 refine hKK.out _ _ ?_ (fun hHeld2 => ?_)
 ·exact R3
 clear hKK KK hHeld
 have hHeld := hHeld2
 clear hHeld2
 try simp only [Act.put, κa, κb, κc]
 -- 7
 refine wpAnyH_ready (rs := [7]) (by kernel_rfl) (by simp) ?_
 refine AllReadyH.cons rfl (fun KK hKK => ?_) AllReadyH.nil
 go_simp
 go_wp2_with (go_at_call 116; refine P4.out.mono ?_; rintro e w4 ⟨rfl, A1, U1⟩)
 have V4 := κ (U1)
 have B4 := κ (B3.out.uw V4.out)
 have M4 := κ A1
 have R4 := RS.of B4.out A1 G4.out
 have x0_4 := B4.out.c 0 _ rfl
 have x1_4 := B4.out.c 1 _ rfl
 have x2_4 := B4.out.c 2 _ rfl
 have x3_4 := B4.out.c 3 _ rfl
 have x4_4 := B4.out.c 4 _ rfl
 have xl_4 := B4.out.l
 have y4_4 := R4.p
 have y5_4 := R4.x
 have y1_4 := R4.n
 have yl_4 := A1.l
 have P5 := flag_any (K := K) false 11 p1.1 (-1) p2.1 w4 (A1) (by have := G4.out.n; have := HN.out; omega)
 rw [hp5] at P5
 have P5 := κ P5
 clear A1 U1 P4
 refine hKK.out _ _ ?_ (fun hHeld2 => ?_)
 ·exact R4
 clear hKK KK hHeld
 have hHeld := hHeld2
 clear hHeld2
 try simp only [Act.put, κa, κb, κc]
 refine wpAnyH_done (by kernel_rfl) ?_ _
 go_wp2_with (first
  | (go_at_call 121; refine P5.out.mono ?_; rintro e w5 ⟨rfl, A1, U1⟩; have V5 := κ (U1); have B5 := κ (B4.out.uw V5.out); have M5 := κ A1; have R5 := RS.of B5.out A1 G5.out; have x0_5 := B5.out.c 0 _ rfl; have x1_5 := B5.out.c 1 _ rfl; have x2_5 := B5.out.c 2 _ rfl; have x3_5 := B5.out.c 3 _ rfl; have x4_5 := B5.out.c 4 _ rfl; have xl_5 := B5.out.l; have y4_5 := R5.p; have y5_5 := R5.x; have y1_5 := R5.n; have yl_5 := A1.l; clear A1 U1 P5))
 go_ret
 exact ⟨rfl, M5.out, (((((U0.out.trans V1.out).trans V2.out).trans V3.out).trans V4.out).trans V5.out)⟩
theorem plain_18 (d r : Nat) (f m : Int) (hd : d < 8) (hr : r < 8) (w : World) (a : LM K s w) (hc : 1 ≤ s.cnt ∧ s.cnt ≤ 64) (hn : s.ops.length + 60 < 1000000000) :
  Calls Tryz.prog 85 #[.pointer (some ⟨K.h, 0, none⟩), .agg #[.int .i64 18, .int .i64 d, .int .i64 r, .int .i64 f, .int .u32 m]] w fun e w' => e = .returned (.bool true) ∧ LM K (s.plain 18 d r f m).2 w' ∧ UW K w w' := by
 have HN := κ hn
 have HC := κ hc
 have HR := κ hr
 have HD := κ hd
 obtain ⟨p1, hp1⟩ : ∃ p, s.get d = p := ⟨_, rfl⟩
 have g1 : Gw 1 s p1.2 := by rw [← hp1]; exact get_gw s _ 
 have G1 := κ g1
 clear g1
 obtain ⟨p2, hp2⟩ : ∃ p, p1.2.now = p := ⟨_, rfl⟩
 have g2 : Gw 5 p1.2 p2.2 := by rw [← hp2]; exact now_gw p1.2 
 have G2 := κ (G1.out.trans g2)
 clear g2
 obtain ⟨p3, hp3⟩ : ∃ p, p2.2.add p1.1 (-1) = p := ⟨_, rfl⟩
 have g3 : Gw 2 p2.2 p3.2 := by rw [← hp3]; exact add_gw p2.2 _ _ 
 have G3 := κ (G2.out.trans g3)
 clear g3
 obtain ⟨p4, hp4⟩ : ∃ p, p3.2.set d p3.1 = p := ⟨_, rfl⟩
 have g4 : Gw 1 p3.2 p4 := by rw [← hp4]; exact set_gw p3.2 _ _ 
 have G4 := κ (G3.out.trans g4)
 clear g4
 obtain ⟨p5, hp5⟩ : ∃ p, p4.flag 12 p1.1 (-1) p2.1 = p := ⟨_, rfl⟩
 have g5 : Gw 5 p4 p5 := by rw [← hp5]; exact flag_gw p4 _ _ _ _ 
 have G5 := κ (G4.out.trans g5)
 clear g5
 have E : (s.plain 18 d r f m).2 = p5 := by
  unfold Lk.plain
  rw [if_neg (by decide), if_neg (by decide), if_pos (by decide)]
  simp only [hp1, hp2, hp3, hp4, hp5, Int.reduceEq, ↓reduceIte]
 rw [E]
 clear E
 have A0 := κ (a.alloc (.cells #[.int .i64 18, .int .i64 d, .int .i64 r, .int .i64 f, .int .u32 m] 74))
 have B0 := κ (Bx.new a #[.int .i64 18, .int .i64 d, .int .i64 r, .int .i64 f, .int .u32 m] 74)
 have U0 := κ (UW.alloc a.l (.cells #[.int .i64 18, .int .i64 d, .int .i64 r, .int .i64 f, .int .u32 m] 74))
 have uI := Tryz.underlying74
 have iI : (Tryz.prog.info? 74).map (·.size) = some ([.int .i64 18, .int .i64 d, .int .i64 r, .int .i64 f, .int .u32 m] : List Value).length := by kernel_rfl
 clear a hn hc hd hr
 go_enter Tryz.func85, Tryz.ntmps85
 go_upto_region 1 with fail
 generalize w.alloc (.cells #[.int .i64 18, .int .i64 d, .int .i64 r, .int .i64 f, .int .u32 m] 74) = w0 at *
 generalize w.heap.size = bx at *
 have R0 := κ (RS.of B0.out A0.out (Gw.refl s))
 have x0_0 := B0.out.c 0 _ rfl
 have x1_0 := B0.out.c 1 _ rfl
 have x2_0 := B0.out.c 2 _ rfl
 have x3_0 := B0.out.c 3 _ rfl
 have x4_0 := B0.out.c 4 _ rfl
 have xl_0 := B0.out.l
 have y4_0 := R0.out.p
 have y5_0 := R0.out.x
 have y1_0 := R0.out.n
 have yl_0 := A0.out.l
 have P1 := get_any (K := K) d HD.out w0 (A0.out) (by have := HN.out; omega)
 rw [hp1] at P1
 have P1 := κ P1
 go_wp2_with (first
  | (go_at_call 118; refine P1.out.mono ?_; rintro e w1 ⟨rfl, A1, U1⟩; have V1 := κ (U1); have B1 := κ (B0.out.uw V1.out); have M1 := κ A1; have R1 := RS.of B1.out A1 G1.out; have x0_1 := B1.out.c 0 _ rfl; have x1_1 := B1.out.c 1 _ rfl; have x2_1 := B1.out.c 2 _ rfl; have x3_1 := B1.out.c 3 _ rfl; have x4_1 := B1.out.c 4 _ rfl; have xl_1 := B1.out.l; have y4_1 := R1.p; have y5_1 := R1.x; have y1_1 := R1.n; have yl_1 := A1.l; have P2 := now_any (K := K)  w1 (A1) (by have := G1.out.n; have := HN.out; omega); rw [hp2] at P2; have P2 := κ P2; clear A1 U1 P1)
  | (go_at_call 119; refine P2.out.mono ?_; rintro e w2 ⟨rfl, A1, U1⟩; have V2 := κ (U1); have B2 := κ (B1.out.uw V2.out); have M2 := κ A1; have R2 := RS.of B2.out A1 G2.out; have x0_2 := B2.out.c 0 _ rfl; have x1_2 := B2.out.c 1 _ rfl; have x2_2 := B2.out.c 2 _ rfl; have x3_2 := B2.out.c 3 _ rfl; have x4_2 := B2.out.c 4 _ rfl; have xl_2 := B2.out.l; have y4_2 := R2.p; have y5_2 := R2.x; have y1_2 := R2.n; have yl_2 := A1.l; have P3 := add_any (K := K) p1.1 (-1) w2.drew (A1.drew) (by have := G2.out.n; have := HN.out; omega); rw [hp3] at P3; have P3 := κ P3; clear A1 U1 P2))
 have hf1 : ∀ w : World, (Instr.fieldAt 74 (.pointer (some ⟨bx, 0, none⟩)) 1).run Tryz.prog w = .ok (.pointer (some ⟨bx, 1, none⟩)) w := fun w => by go_simp
 have hl2 : ∀ w', RS K s bx #[.int .i64 18, .int .i64 d, .int .i64 r, .int .i64 f, .int .u32 m] w' → (Instr.loadAt 3 (.pointer (some ⟨bx, 1, none⟩))).run Tryz.prog w' = .ok (.int .i64 d) w' := fun w' h => by
  have hp := h.b.c 1 _ rfl
  have hq := h.b.l
  clear h
  go_simp
 refine wp_region_held_drew (S := RS K s bx #[.int .i64 18, .int .i64 d, .int .i64 r, .int .i64 f, .int .u32 m]) (by kernel_rfl) (R2).drew (fun hHeld => ?_)
 -- 0
 refine κw 0 37 (.pointer (some ⟨K.h, 0, none⟩)) rfl rfl (by kernel_rfl) (by kernel_rfl) (by kernel_rfl) (fun _ _ _ h => h) (Kt.yl_mov (by rfl) _ rfl _ rfl) hHeld ?_
 try simp only [Act.put, κa, κb, κc]
 -- 1
 refine κw 1 38 (.pointer (some ⟨bx, 1, none⟩)) rfl rfl (by kernel_rfl) (by kernel_rfl) (by kernel_rfl) (fun _ _ _ h => h) (Kt.yl_fld (by rfl) _ _ _ rfl _ _ rfl hf1) hHeld ?_
 try simp only [Act.put, κa, κb, κc]
 -- 2
 refine κw 2 39 (.int .i64 d) rfl rfl (by kernel_rfl) (by kernel_rfl) (by kernel_rfl) (fun _ _ _ h => h) (Kt.yl_ld (by rfl) _ _ rfl _ _ rfl hl2) hHeld ?_
 try simp only [Act.put, κa, κb, κc]
 -- 3
 refine κw 3 40 (.pointer (some ⟨K.h, 0, none⟩)) rfl rfl (by kernel_rfl) (by kernel_rfl) (by kernel_rfl) (fun _ _ _ h => h) (Kt.yl_mov (by rfl) _ rfl _ rfl) hHeld ?_
 try simp only [Act.put, κa, κb, κc]
 -- 4
 refine κw 4 41 (.int .i64 p1.1) rfl rfl (by kernel_rfl) (by kernel_rfl) (by kernel_rfl) (fun _ _ _ h => h) (Kt.yl_mov (by rfl) _ rfl _ rfl) hHeld ?_
 try simp only [Act.put, κa, κb, κc]
 -- 5
 refine κw 5 42 (.int .i64 (-1)) rfl rfl (by kernel_rfl) (by kernel_rfl) (by kernel_rfl) (fun _ _ _ h => h) (Kt.yl_mov (by rfl) _ rfl _ rfl) hHeld ?_
 try simp only [Act.put, κa, κb, κc]
 -- 6
 refine wpAnyH_ready (rs := [6]) (by kernel_rfl) (by simp) ?_
 refine AllReadyH.cons rfl (fun KK hKK => ?_) AllReadyH.nil
 go_simp
 go_wp2_with (go_at_call 120; refine P3.out.mono ?_; rintro e w3 ⟨rfl, A1, U1⟩)
 have V3 := κ ((UW.drew (K := K) (W := w2) M2.out.l).trans U1)
 have B3 := κ (B2.out.uw V3.out)
 have M3 := κ A1
 have R3 := RS.of B3.out A1 G3.out
 have x0_3 := B3.out.c 0 _ rfl
 have x1_3 := B3.out.c 1 _ rfl
 have x2_3 := B3.out.c 2 _ rfl
 have x3_3 := B3.out.c 3 _ rfl
 have x4_3 := B3.out.c 4 _ rfl
 have xl_3 := B3.out.l
 have y4_3 := R3.p
 have y5_3 := R3.x
 have y1_3 := R3.n
 have yl_3 := A1.l
 have P4 := set_any (K := K) d p3.1 HD.out w3 (A1) (by have := G3.out.n; have := HN.out; omega)
 rw [hp4] at P4
 have P4 := κ P4
 clear A1 U1 P3
 refine hKK.out _ _ ?_ (fun hHeld2 => ?_)
 ·exact R3
 clear hKK KK hHeld
 have hHeld := hHeld2
 clear hHeld2
 try simp only [Act.put, κa, κb, κc]
 -- 7
 refine wpAnyH_ready (rs := [7]) (by kernel_rfl) (by simp) ?_
 refine AllReadyH.cons rfl (fun KK hKK => ?_) AllReadyH.nil
 go_simp
 go_wp2_with (go_at_call 116; refine P4.out.mono ?_; rintro e w4 ⟨rfl, A1, U1⟩)
 have V4 := κ (U1)
 have B4 := κ (B3.out.uw V4.out)
 have M4 := κ A1
 have R4 := RS.of B4.out A1 G4.out
 have x0_4 := B4.out.c 0 _ rfl
 have x1_4 := B4.out.c 1 _ rfl
 have x2_4 := B4.out.c 2 _ rfl
 have x3_4 := B4.out.c 3 _ rfl
 have x4_4 := B4.out.c 4 _ rfl
 have xl_4 := B4.out.l
 have y4_4 := R4.p
 have y5_4 := R4.x
 have y1_4 := R4.n
 have yl_4 := A1.l
 have P5 := flag_any (K := K) false 12 p1.1 (-1) p2.1 w4 (A1) (by have := G4.out.n; have := HN.out; omega)
 rw [hp5] at P5
 have P5 := κ P5
 clear A1 U1 P4
 refine hKK.out _ _ ?_ (fun hHeld2 => ?_)
 ·exact R4
 clear hKK KK hHeld
 have hHeld := hHeld2
 clear hHeld2
 try simp only [Act.put, κa, κb, κc]
 refine wpAnyH_done (by kernel_rfl) ?_ _
 go_wp2_with (first
  | (go_at_call 121; refine P5.out.mono ?_; rintro e w5 ⟨rfl, A1, U1⟩; have V5 := κ (U1); have B5 := κ (B4.out.uw V5.out); have M5 := κ A1; have R5 := RS.of B5.out A1 G5.out; have x0_5 := B5.out.c 0 _ rfl; have x1_5 := B5.out.c 1 _ rfl; have x2_5 := B5.out.c 2 _ rfl; have x3_5 := B5.out.c 3 _ rfl; have x4_5 := B5.out.c 4 _ rfl; have xl_5 := B5.out.l; have y4_5 := R5.p; have y5_5 := R5.x; have y1_5 := R5.n; have yl_5 := A1.l; clear A1 U1 P5))
 go_ret
 exact ⟨rfl, M5.out, (((((U0.out.trans V1.out).trans V2.out).trans V3.out).trans V4.out).trans V5.out)⟩
theorem plain_19 (d r : Nat) (f m : Int) (hd : d < 8) (hr : r < 8) (w : World) (a : LM K s w) (hc : 1 ≤ s.cnt ∧ s.cnt ≤ 64) (hn : s.ops.length + 60 < 1000000000) :
  Calls Tryz.prog 85 #[.pointer (some ⟨K.h, 0, none⟩), .agg #[.int .i64 19, .int .i64 d, .int .i64 r, .int .i64 f, .int .u32 m]] w fun e w' => e = .returned (.bool true) ∧ LM K (s.plain 19 d r f m).2 w' ∧ UW K w w' := by
 have HN := κ hn
 have HC := κ hc
 have HR := κ hr
 have HD := κ hd
 obtain ⟨p1, hp1⟩ : ∃ p, s.get d = p := ⟨_, rfl⟩
 have g1 : Gw 1 s p1.2 := by rw [← hp1]; exact get_gw s _ 
 have G1 := κ g1
 clear g1
 obtain ⟨p2, hp2⟩ : ∃ p, p1.2.K 0 = p := ⟨_, rfl⟩
 have g2 : Gw 1 p1.2 p2.2 := by rw [← hp2]; exact K_gw p1.2 _ 
 have G2 := κ (G1.out.trans g2)
 clear g2
 obtain ⟨p3, hp3⟩ : ∃ p, p2.2.U 1 p1.1 = p := ⟨_, rfl⟩
 have g3 : Gw 1 p2.2 p3.2 := by rw [← hp3]; exact U_gw p2.2 _ _ 
 have G3 := κ (G2.out.trans g3)
 clear g3
 obtain ⟨p4, hp4⟩ : ∃ p, p3.2.set d p3.1 = p := ⟨_, rfl⟩
 have g4 : Gw 1 p3.2 p4 := by rw [← hp4]; exact set_gw p3.2 _ _ 
 have G4 := κ (G3.out.trans g4)
 clear g4
 obtain ⟨p5, hp5⟩ : ∃ p, p4.flag 3 p2.1 p1.1 (-1) = p := ⟨_, rfl⟩
 have g5 : Gw 5 p4 p5 := by rw [← hp5]; exact flag_gw p4 _ _ _ _ 
 have G5 := κ (G4.out.trans g5)
 clear g5
 have E : (s.plain 19 d r f m).2 = p5 := by
  unfold Lk.plain
  rw [if_neg (by decide), if_neg (by decide), if_neg (by decide), if_pos (by decide)]
  simp only [hp1, hp2, hp3, hp4, hp5, Int.reduceEq, ↓reduceIte]
 rw [E]
 clear E
 have A0 := κ (a.alloc (.cells #[.int .i64 19, .int .i64 d, .int .i64 r, .int .i64 f, .int .u32 m] 74))
 have B0 := κ (Bx.new a #[.int .i64 19, .int .i64 d, .int .i64 r, .int .i64 f, .int .u32 m] 74)
 have U0 := κ (UW.alloc a.l (.cells #[.int .i64 19, .int .i64 d, .int .i64 r, .int .i64 f, .int .u32 m] 74))
 have uI := Tryz.underlying74
 have iI : (Tryz.prog.info? 74).map (·.size) = some ([.int .i64 19, .int .i64 d, .int .i64 r, .int .i64 f, .int .u32 m] : List Value).length := by kernel_rfl
 clear a hn hc hd hr
 go_enter Tryz.func85, Tryz.ntmps85
 go_upto_region 1 with fail
 generalize w.alloc (.cells #[.int .i64 19, .int .i64 d, .int .i64 r, .int .i64 f, .int .u32 m] 74) = w0 at *
 generalize w.heap.size = bx at *
 have R0 := κ (RS.of B0.out A0.out (Gw.refl s))
 have x0_0 := B0.out.c 0 _ rfl
 have x1_0 := B0.out.c 1 _ rfl
 have x2_0 := B0.out.c 2 _ rfl
 have x3_0 := B0.out.c 3 _ rfl
 have x4_0 := B0.out.c 4 _ rfl
 have xl_0 := B0.out.l
 have y4_0 := R0.out.p
 have y5_0 := R0.out.x
 have y1_0 := R0.out.n
 have yl_0 := A0.out.l
 have P1 := get_any (K := K) d HD.out w0 (A0.out) (by have := HN.out; omega)
 rw [hp1] at P1
 have P1 := κ P1
 go_wp2_with (first
  | (go_at_call 118; refine P1.out.mono ?_; rintro e w1 ⟨rfl, A1, U1⟩; have V1 := κ (U1); have B1 := κ (B0.out.uw V1.out); have M1 := κ A1; have R1 := RS.of B1.out A1 G1.out; have x0_1 := B1.out.c 0 _ rfl; have x1_1 := B1.out.c 1 _ rfl; have x2_1 := B1.out.c 2 _ rfl; have x3_1 := B1.out.c 3 _ rfl; have x4_1 := B1.out.c 4 _ rfl; have xl_1 := B1.out.l; have y4_1 := R1.p; have y5_1 := R1.x; have y1_1 := R1.n; have yl_1 := A1.l; have P2 := konst_any (K := K) 0 w1 (A1) (by have := G1.out.n; have := HN.out; omega); rw [hp2] at P2; have P2 := κ P2; clear A1 U1 P1)
  | (go_at_call 117; refine P2.out.mono ?_; rintro e w2 ⟨rfl, A1, U1⟩; have V2 := κ (U1); have B2 := κ (B1.out.uw V2.out); have M2 := κ A1; have R2 := RS.of B2.out A1 G2.out; have x0_2 := B2.out.c 0 _ rfl; have x1_2 := B2.out.c 1 _ rfl; have x2_2 := B2.out.c 2 _ rfl; have x3_2 := B2.out.c 3 _ rfl; have x4_2 := B2.out.c 4 _ rfl; have xl_2 := B2.out.l; have y4_2 := R2.p; have y5_2 := R2.x; have y1_2 := R2.n; have yl_2 := A1.l; have P3 := un_any (K := K) 1 p1.1 w2.drew (A1.drew) (by have := G2.out.n; have := HN.out; omega); rw [hp3] at P3; have P3 := κ P3; clear A1 U1 P2))
 have hf1 : ∀ w : World, (Instr.fieldAt 74 (.pointer (some ⟨bx, 0, none⟩)) 1).run Tryz.prog w = .ok (.pointer (some ⟨bx, 1, none⟩)) w := fun w => by go_simp
 have hl2 : ∀ w', RS K s bx #[.int .i64 19, .int .i64 d, .int .i64 r, .int .i64 f, .int .u32 m] w' → (Instr.loadAt 3 (.pointer (some ⟨bx, 1, none⟩))).run Tryz.prog w' = .ok (.int .i64 d) w' := fun w' h => by
  have hp := h.b.c 1 _ rfl
  have hq := h.b.l
  clear h
  go_simp
 refine wp_region_held_drew (S := RS K s bx #[.int .i64 19, .int .i64 d, .int .i64 r, .int .i64 f, .int .u32 m]) (by kernel_rfl) (R2).drew (fun hHeld => ?_)
 -- 0
 refine κw 0 59 (.pointer (some ⟨K.h, 0, none⟩)) rfl rfl (by kernel_rfl) (by kernel_rfl) (by kernel_rfl) (fun _ _ _ h => h) (Kt.yl_mov (by rfl) _ rfl _ rfl) hHeld ?_
 try simp only [Act.put, κa, κb, κc]
 -- 1
 refine κw 1 60 (.pointer (some ⟨bx, 1, none⟩)) rfl rfl (by kernel_rfl) (by kernel_rfl) (by kernel_rfl) (fun _ _ _ h => h) (Kt.yl_fld (by rfl) _ _ _ rfl _ _ rfl hf1) hHeld ?_
 try simp only [Act.put, κa, κb, κc]
 -- 2
 refine κw 2 61 (.int .i64 d) rfl rfl (by kernel_rfl) (by kernel_rfl) (by kernel_rfl) (fun _ _ _ h => h) (Kt.yl_ld (by rfl) _ _ rfl _ _ rfl hl2) hHeld ?_
 try simp only [Act.put, κa, κb, κc]
 -- 3
 refine κw 3 62 (.pointer (some ⟨K.h, 0, none⟩)) rfl rfl (by kernel_rfl) (by kernel_rfl) (by kernel_rfl) (fun _ _ _ h => h) (Kt.yl_mov (by rfl) _ rfl _ rfl) hHeld ?_
 try simp only [Act.put, κa, κb, κc]
 -- 4
 refine κw 4 63 (.int .i64 p1.1) rfl rfl (by kernel_rfl) (by kernel_rfl) (by kernel_rfl) (fun _ _ _ h => h) (Kt.yl_mov (by rfl) _ rfl _ rfl) hHeld ?_
 try simp only [Act.put, κa, κb, κc]
 -- 5
 refine wpAnyH_ready (rs := [5]) (by kernel_rfl) (by simp) ?_
 refine AllReadyH.cons rfl (fun KK hKK => ?_) AllReadyH.nil
 go_simp
 go_wp2_with (go_at_call 122; refine P3.out.mono ?_; rintro e w3 ⟨rfl, A1, U1⟩)
 have V3 := κ ((UW.drew (K := K) (W := w2) M2.out.l).trans U1)
 have B3 := κ (B2.out.uw V3.out)
 have M3 := κ A1
 have R3 := RS.of B3.out A1 G3.out
 have x0_3 := B3.out.c 0 _ rfl
 have x1_3 := B3.out.c 1 _ rfl
 have x2_3 := B3.out.c 2 _ rfl
 have x3_3 := B3.out.c 3 _ rfl
 have x4_3 := B3.out.c 4 _ rfl
 have xl_3 := B3.out.l
 have y4_3 := R3.p
 have y5_3 := R3.x
 have y1_3 := R3.n
 have yl_3 := A1.l
 have P4 := set_any (K := K) d p3.1 HD.out w3 (A1) (by have := G3.out.n; have := HN.out; omega)
 rw [hp4] at P4
 have P4 := κ P4
 clear A1 U1 P3
 refine hKK.out _ _ ?_ (fun hHeld2 => ?_)
 ·exact R3
 clear hKK KK hHeld
 have hHeld := hHeld2
 clear hHeld2
 try simp only [Act.put, κa, κb, κc]
 -- 6
 refine wpAnyH_ready (rs := [6]) (by kernel_rfl) (by simp) ?_
 refine AllReadyH.cons rfl (fun KK hKK => ?_) AllReadyH.nil
 go_simp
 go_wp2_with (go_at_call 116; refine P4.out.mono ?_; rintro e w4 ⟨rfl, A1, U1⟩)
 have V4 := κ (U1)
 have B4 := κ (B3.out.uw V4.out)
 have M4 := κ A1
 have R4 := RS.of B4.out A1 G4.out
 have x0_4 := B4.out.c 0 _ rfl
 have x1_4 := B4.out.c 1 _ rfl
 have x2_4 := B4.out.c 2 _ rfl
 have x3_4 := B4.out.c 3 _ rfl
 have x4_4 := B4.out.c 4 _ rfl
 have xl_4 := B4.out.l
 have y4_4 := R4.p
 have y5_4 := R4.x
 have y1_4 := R4.n
 have yl_4 := A1.l
 have P5 := flag_any (K := K) false 3 p2.1 p1.1 (-1) w4 (A1) (by have := G4.out.n; have := HN.out; omega)
 rw [hp5] at P5
 have P5 := κ P5
 clear A1 U1 P4
 refine hKK.out _ _ ?_ (fun hHeld2 => ?_)
 ·exact R4
 clear hKK KK hHeld
 have hHeld := hHeld2
 clear hHeld2
 try simp only [Act.put, κa, κb, κc]
 refine wpAnyH_done (by kernel_rfl) ?_ _
 go_wp2_with (first
  | (go_at_call 121; refine P5.out.mono ?_; rintro e w5 ⟨rfl, A1, U1⟩; have V5 := κ (U1); have B5 := κ (B4.out.uw V5.out); have M5 := κ A1; have R5 := RS.of B5.out A1 G5.out; have x0_5 := B5.out.c 0 _ rfl; have x1_5 := B5.out.c 1 _ rfl; have x2_5 := B5.out.c 2 _ rfl; have x3_5 := B5.out.c 3 _ rfl; have x4_5 := B5.out.c 4 _ rfl; have xl_5 := B5.out.l; have y4_5 := R5.p; have y5_5 := R5.x; have y1_5 := R5.n; have yl_5 := A1.l; clear A1 U1 P5))
 go_ret
 exact ⟨rfl, M5.out, (((((U0.out.trans V1.out).trans V2.out).trans V3.out).trans V4.out).trans V5.out)⟩
theorem plain_20 (d r : Nat) (f m : Int) (hd : d < 8) (hr : r < 8) (w : World) (a : LM K s w) (hc : 1 ≤ s.cnt ∧ s.cnt ≤ 64) (hn : s.ops.length + 60 < 1000000000) :
  Calls Tryz.prog 85 #[.pointer (some ⟨K.h, 0, none⟩), .agg #[.int .i64 20, .int .i64 d, .int .i64 r, .int .i64 f, .int .u32 m]] w fun e w' => e = .returned (.bool true) ∧ LM K (s.plain 20 d r f m).2 w' ∧ UW K w w' := by
 have HN := κ hn
 have HC := κ hc
 have HR := κ hr
 have HD := κ hd
 obtain ⟨p1, hp1⟩ : ∃ p, s.get d = p := ⟨_, rfl⟩
 have g1 : Gw 1 s p1.2 := by rw [← hp1]; exact get_gw s _ 
 have G1 := κ g1
 clear g1
 obtain ⟨p2, hp2⟩ : ∃ p, p1.2.U 0 p1.1 = p := ⟨_, rfl⟩
 have g2 : Gw 1 p1.2 p2.2 := by rw [← hp2]; exact U_gw p1.2 _ _ 
 have G2 := κ (G1.out.trans g2)
 clear g2
 obtain ⟨p3, hp3⟩ : ∃ p, p2.2.set d p2.1 = p := ⟨_, rfl⟩
 have g3 : Gw 1 p2.2 p3 := by rw [← hp3]; exact set_gw p2.2 _ _ 
 have G3 := κ (G2.out.trans g3)
 clear g3
 have E : (s.plain 20 d r f m).2 = p3 := by
  unfold Lk.plain
  rw [if_neg (by decide), if_neg (by decide), if_neg (by decide), if_neg (by decide), if_pos (by decide)]
  simp only [hp1, hp2, hp3, Int.reduceEq, ↓reduceIte]
 rw [E]
 clear E
 have A0 := κ (a.alloc (.cells #[.int .i64 20, .int .i64 d, .int .i64 r, .int .i64 f, .int .u32 m] 74))
 have B0 := κ (Bx.new a #[.int .i64 20, .int .i64 d, .int .i64 r, .int .i64 f, .int .u32 m] 74)
 have U0 := κ (UW.alloc a.l (.cells #[.int .i64 20, .int .i64 d, .int .i64 r, .int .i64 f, .int .u32 m] 74))
 have uI := Tryz.underlying74
 have iI : (Tryz.prog.info? 74).map (·.size) = some ([.int .i64 20, .int .i64 d, .int .i64 r, .int .i64 f, .int .u32 m] : List Value).length := by kernel_rfl
 clear a hn hc hd hr
 go_enter Tryz.func85, Tryz.ntmps85
 go_upto_region 1 with fail
 generalize w.alloc (.cells #[.int .i64 20, .int .i64 d, .int .i64 r, .int .i64 f, .int .u32 m] 74) = w0 at *
 generalize w.heap.size = bx at *
 have R0 := κ (RS.of B0.out A0.out (Gw.refl s))
 have x0_0 := B0.out.c 0 _ rfl
 have x1_0 := B0.out.c 1 _ rfl
 have x2_0 := B0.out.c 2 _ rfl
 have x3_0 := B0.out.c 3 _ rfl
 have x4_0 := B0.out.c 4 _ rfl
 have xl_0 := B0.out.l
 have y4_0 := R0.out.p
 have y5_0 := R0.out.x
 have y1_0 := R0.out.n
 have yl_0 := A0.out.l
 have P1 := get_any (K := K) d HD.out w0.drew (A0.out.drew) (by have := HN.out; omega)
 rw [hp1] at P1
 have P1 := κ P1
 go_wp2
 have hf1 : ∀ w : World, (Instr.fieldAt 74 (.pointer (some ⟨bx, 0, none⟩)) 1).run Tryz.prog w = .ok (.pointer (some ⟨bx, 1, none⟩)) w := fun w => by go_simp
 have hl2 : ∀ w', RS K s bx #[.int .i64 20, .int .i64 d, .int .i64 r, .int .i64 f, .int .u32 m] w' → (Instr.loadAt 3 (.pointer (some ⟨bx, 1, none⟩))).run Tryz.prog w' = .ok (.int .i64 d) w' := fun w' h => by
  have hp := h.b.c 1 _ rfl
  have hq := h.b.l
  clear h
  go_simp
 have hf5 : ∀ w : World, (Instr.fieldAt 74 (.pointer (some ⟨bx, 0, none⟩)) 1).run Tryz.prog w = .ok (.pointer (some ⟨bx, 1, none⟩)) w := fun w => by go_simp
 have hl6 : ∀ w', RS K s bx #[.int .i64 20, .int .i64 d, .int .i64 r, .int .i64 f, .int .u32 m] w' → (Instr.loadAt 3 (.pointer (some ⟨bx, 1, none⟩))).run Tryz.prog w' = .ok (.int .i64 d) w' := fun w' h => by
  have hp := h.b.c 1 _ rfl
  have hq := h.b.l
  clear h
  go_simp
 refine wp_region_held_drew (S := RS K s bx #[.int .i64 20, .int .i64 d, .int .i64 r, .int .i64 f, .int .u32 m]) (by kernel_rfl) (R0.out).drew (fun hHeld => ?_)
 -- 0
 refine κw 0 73 (.pointer (some ⟨K.h, 0, none⟩)) rfl rfl (by kernel_rfl) (by kernel_rfl) (by kernel_rfl) (fun _ _ _ h => h) (Kt.yl_mov (by rfl) _ rfl _ rfl) hHeld ?_
 try simp only [Act.put, κa, κb, κc]
 -- 1
 refine κw 1 74 (.pointer (some ⟨bx, 1, none⟩)) rfl rfl (by kernel_rfl) (by kernel_rfl) (by kernel_rfl) (fun _ _ _ h => h) (Kt.yl_fld (by rfl) _ _ _ rfl _ _ rfl hf1) hHeld ?_
 try simp only [Act.put, κa, κb, κc]
 -- 2
 refine κw 2 75 (.int .i64 d) rfl rfl (by kernel_rfl) (by kernel_rfl) (by kernel_rfl) (fun _ _ _ h => h) (Kt.yl_ld (by rfl) _ _ rfl _ _ rfl hl2) hHeld ?_
 try simp only [Act.put, κa, κb, κc]
 -- 3
 refine κw 3 76 (.pointer (some ⟨K.h, 0, none⟩)) rfl rfl (by kernel_rfl) (by kernel_rfl) (by kernel_rfl) (fun _ _ _ h => h) (Kt.yl_mov (by rfl) _ rfl _ rfl) hHeld ?_
 try simp only [Act.put, κa, κb, κc]
 -- 4
 refine κw 4 77 (.pointer (some ⟨K.h, 0, none⟩)) rfl rfl (by kernel_rfl) (by kernel_rfl) (by kernel_rfl) (fun _ _ _ h => h) (Kt.yl_mov (by rfl) _ rfl _ rfl) hHeld ?_
 try simp only [Act.put, κa, κb, κc]
 -- 5
 refine κw 5 78 (.pointer (some ⟨bx, 1, none⟩)) rfl rfl (by kernel_rfl) (by kernel_rfl) (by kernel_rfl) (fun _ _ _ h => h) (Kt.yl_fld (by rfl) _ _ _ rfl _ _ rfl hf5) hHeld ?_
 try simp only [Act.put, κa, κb, κc]
 -- 6
 refine κw 6 79 (.int .i64 d) rfl rfl (by kernel_rfl) (by kernel_rfl) (by kernel_rfl) (fun _ _ _ h => h) (Kt.yl_ld (by rfl) _ _ rfl _ _ rfl hl6) hHeld ?_
 try simp only [Act.put, κa, κb, κc]
 -- 7
 refine wpAnyH_ready (rs := [7]) (by kernel_rfl) (by simp) ?_
 refine AllReadyH.cons rfl (fun KK hKK => ?_) AllReadyH.nil
 go_simp
 go_wp2_with (go_at_call 118; refine P1.out.mono ?_; rintro e w1 ⟨rfl, A1, U1⟩)
 have V1 := κ ((UW.drew (K := K) (W := w0) A0.out.l).trans U1)
 have B1 := κ (B0.out.uw V1.out)
 have M1 := κ A1
 have R1 := RS.of B1.out A1 G1.out
 have x0_1 := B1.out.c 0 _ rfl
 have x1_1 := B1.out.c 1 _ rfl
 have x2_1 := B1.out.c 2 _ rfl
 have x3_1 := B1.out.c 3 _ rfl
 have x4_1 := B1.out.c 4 _ rfl
 have xl_1 := B1.out.l
 have y4_1 := R1.p
 have y5_1 := R1.x
 have y1_1 := R1.n
 have yl_1 := A1.l
 have P2 := un_any (K := K) 0 p1.1 w1 (A1) (by have := G1.out.n; have := HN.out; omega)
 rw [hp2] at P2
 have P2 := κ P2
 clear A1 U1 P1
 refine hKK.out _ _ ?_ (fun hHeld2 => ?_)
 ·exact R1
 clear hKK KK hHeld
 have hHeld := hHeld2
 clear hHeld2
 try simp only [Act.put, κa, κb, κc]
 -- 8
 refine wpAnyH_ready (rs := [8]) (by kernel_rfl) (by simp) ?_
 refine AllReadyH.cons rfl (fun KK hKK => ?_) AllReadyH.nil
 go_simp
 go_wp2_with (go_at_call 122; refine P2.out.mono ?_; rintro e w2 ⟨rfl, A1, U1⟩)
 have V2 := κ (U1)
 have B2 := κ (B1.out.uw V2.out)
 have M2 := κ A1
 have R2 := RS.of B2.out A1 G2.out
 have x0_2 := B2.out.c 0 _ rfl
 have x1_2 := B2.out.c 1 _ rfl
 have x2_2 := B2.out.c 2 _ rfl
 have x3_2 := B2.out.c 3 _ rfl
 have x4_2 := B2.out.c 4 _ rfl
 have xl_2 := B2.out.l
 have y4_2 := R2.p
 have y5_2 := R2.x
 have y1_2 := R2.n
 have yl_2 := A1.l
 have P3 := set_any (K := K) d p2.1 HD.out w2 (A1) (by have := G2.out.n; have := HN.out; omega)
 rw [hp3] at P3
 have P3 := κ P3
 clear A1 U1 P2
 refine hKK.out _ _ ?_ (fun hHeld2 => ?_)
 ·exact R2
 clear hKK KK hHeld
 have hHeld := hHeld2
 clear hHeld2
 try simp only [Act.put, κa, κb, κc]
 -- 9
 refine wpAnyH_ready (rs := [9]) (by kernel_rfl) (by simp) ?_
 refine AllReadyH.cons rfl (fun KK hKK => ?_) AllReadyH.nil
 go_simp
 go_wp2_with (go_at_call 116; refine P3.out.mono ?_; rintro e w3 ⟨rfl, A1, U1⟩)
 have V3 := κ (U1)
 have B3 := κ (B2.out.uw V3.out)
 have M3 := κ A1
 have R3 := RS.of B3.out A1 G3.out
 have x0_3 := B3.out.c 0 _ rfl
 have x1_3 := B3.out.c 1 _ rfl
 have x2_3 := B3.out.c 2 _ rfl
 have x3_3 := B3.out.c 3 _ rfl
 have x4_3 := B3.out.c 4 _ rfl
 have xl_3 := B3.out.l
 have y4_3 := R3.p
 have y5_3 := R3.x
 have y1_3 := R3.n
 have yl_3 := A1.l
 clear A1 U1 P3
 refine hKK.out _ _ ?_ (fun hHeld2 => ?_)
 ·exact R3
 clear hKK KK hHeld
 have hHeld := hHeld2
 clear hHeld2
 try simp only [Act.put, κa, κb, κc]
 refine wpAnyH_done (by kernel_rfl) ?_ _
 go_wp2
 go_ret
 exact ⟨rfl, M3.out, (((U0.out.trans V1.out).trans V2.out).trans V3.out)⟩
theorem plain_21 (d r : Nat) (f m : Int) (hd : d < 8) (hr : r < 8) (w : World) (a : LM K s w) (hc : 1 ≤ s.cnt ∧ s.cnt ≤ 64) (hn : s.ops.length + 60 < 1000000000) :
  Calls Tryz.prog 85 #[.pointer (some ⟨K.h, 0, none⟩), .agg #[.int .i64 21, .int .i64 d, .int .i64 r, .int .i64 f, .int .u32 m]] w fun e w' => e = .returned (.bool true) ∧ LM K (s.plain 21 d r f m).2 w' ∧ UW K w w' := by
 have HN := κ hn
 have HC := κ hc
 have HR := κ hr
 have HD := κ hd
 obtain ⟨p1, hp1⟩ : ∃ p, s.holds f = p := ⟨_, rfl⟩
 have g1 : Gw 6 s p1.2 := by rw [← hp1]; exact holds_gw s _ 
 have G1 := κ g1
 clear g1
 obtain ⟨p2, hp2⟩ : ∃ p, p1.2.set d p1.1 = p := ⟨_, rfl⟩
 have g2 : Gw 1 p1.2 p2 := by rw [← hp2]; exact set_gw p1.2 _ _ 
 have G2 := κ (G1.out.trans g2)
 clear g2
 have E : (s.plain 21 d r f m).2 = p2 := by
  unfold Lk.plain
  rw [if_neg (by decide), if_neg (by decide), if_neg (by decide), if_neg (by decide), if_neg (by decide), if_pos (by decide)]
  simp only [hp1, hp2, Int.reduceEq, ↓reduceIte]
 rw [E]
 clear E
 have A0 := κ (a.alloc (.cells #[.int .i64 21, .int .i64 d, .int .i64 r, .int .i64 f, .int .u32 m] 74))
 have B0 := κ (Bx.new a #[.int .i64 21, .int .i64 d, .int .i64 r, .int .i64 f, .int .u32 m] 74)
 have U0 := κ (UW.alloc a.l (.cells #[.int .i64 21, .int .i64 d, .int .i64 r, .int .i64 f, .int .u32 m] 74))
 have uI := Tryz.underlying74
 have iI : (Tryz.prog.info? 74).map (·.size) = some ([.int .i64 21, .int .i64 d, .int .i64 r, .int .i64 f, .int .u32 m] : List Value).length := by kernel_rfl
 clear a hn hc hd hr
 go_enter Tryz.func85, Tryz.ntmps85
 go_upto_region 1 with fail
 generalize w.alloc (.cells #[.int .i64 21, .int .i64 d, .int .i64 r, .int .i64 f, .int .u32 m] 74) = w0 at *
 generalize w.heap.size = bx at *
 have R0 := κ (RS.of B0.out A0.out (Gw.refl s))
 have x0_0 := B0.out.c 0 _ rfl
 have x1_0 := B0.out.c 1 _ rfl
 have x2_0 := B0.out.c 2 _ rfl
 have x3_0 := B0.out.c 3 _ rfl
 have x4_0 := B0.out.c 4 _ rfl
 have xl_0 := B0.out.l
 have y4_0 := R0.out.p
 have y5_0 := R0.out.x
 have y1_0 := R0.out.n
 have yl_0 := A0.out.l
 have P1 := holds_any (K := K) f w0.drew (A0.out.drew) (by have := HN.out; omega)
 rw [hp1] at P1
 have P1 := κ P1
 go_wp2
 have hf1 : ∀ w : World, (Instr.fieldAt 74 (.pointer (some ⟨bx, 0, none⟩)) 1).run Tryz.prog w = .ok (.pointer (some ⟨bx, 1, none⟩)) w := fun w => by go_simp
 have hl2 : ∀ w', RS K s bx #[.int .i64 21, .int .i64 d, .int .i64 r, .int .i64 f, .int .u32 m] w' → (Instr.loadAt 3 (.pointer (some ⟨bx, 1, none⟩))).run Tryz.prog w' = .ok (.int .i64 d) w' := fun w' h => by
  have hp := h.b.c 1 _ rfl
  have hq := h.b.l
  clear h
  go_simp
 have hf4 : ∀ w : World, (Instr.fieldAt 74 (.pointer (some ⟨bx, 0, none⟩)) 3).run Tryz.prog w = .ok (.pointer (some ⟨bx, 3, none⟩)) w := fun w => by go_simp
 have hl5 : ∀ w', RS K s bx #[.int .i64 21, .int .i64 d, .int .i64 r, .int .i64 f, .int .u32 m] w' → (Instr.loadAt 3 (.pointer (some ⟨bx, 3, none⟩))).run Tryz.prog w' = .ok (.int .i64 f) w' := fun w' h => by
  have hp := h.b.c 3 _ rfl
  have hq := h.b.l
  clear h
  go_simp
 refine wp_region_held_drew (S := RS K s bx #[.int .i64 21, .int .i64 d, .int .i64 r, .int .i64 f, .int .u32 m]) (by kernel_rfl) (R0.out).drew (fun hHeld => ?_)
 -- 0
 refine κw 0 85 (.pointer (some ⟨K.h, 0, none⟩)) rfl rfl (by kernel_rfl) (by kernel_rfl) (by kernel_rfl) (fun _ _ _ h => h) (Kt.yl_mov (by rfl) _ rfl _ rfl) hHeld ?_
 try simp only [Act.put, κa, κb, κc]
 -- 1
 refine κw 1 86 (.pointer (some ⟨bx, 1, none⟩)) rfl rfl (by kernel_rfl) (by kernel_rfl) (by kernel_rfl) (fun _ _ _ h => h) (Kt.yl_fld (by rfl) _ _ _ rfl _ _ rfl hf1) hHeld ?_
 try simp only [Act.put, κa, κb, κc]
 -- 2
 refine κw 2 87 (.int .i64 d) rfl rfl (by kernel_rfl) (by kernel_rfl) (by kernel_rfl) (fun _ _ _ h => h) (Kt.yl_ld (by rfl) _ _ rfl _ _ rfl hl2) hHeld ?_
 try simp only [Act.put, κa, κb, κc]
 -- 3
 refine κw 3 88 (.pointer (some ⟨K.h, 0, none⟩)) rfl rfl (by kernel_rfl) (by kernel_rfl) (by kernel_rfl) (fun _ _ _ h => h) (Kt.yl_mov (by rfl) _ rfl _ rfl) hHeld ?_
 try simp only [Act.put, κa, κb, κc]
 -- 4
 refine κw 4 89 (.pointer (some ⟨bx, 3, none⟩)) rfl rfl (by kernel_rfl) (by kernel_rfl) (by kernel_rfl) (fun _ _ _ h => h) (Kt.yl_fld (by rfl) _ _ _ rfl _ _ rfl hf4) hHeld ?_
 try simp only [Act.put, κa, κb, κc]
 -- 5
 refine κw 5 90 (.int .i64 f) rfl rfl (by kernel_rfl) (by kernel_rfl) (by kernel_rfl) (fun _ _ _ h => h) (Kt.yl_ld (by rfl) _ _ rfl _ _ rfl hl5) hHeld ?_
 try simp only [Act.put, κa, κb, κc]
 -- 6
 refine wpAnyH_ready (rs := [6]) (by kernel_rfl) (by simp) ?_
 refine AllReadyH.cons rfl (fun KK hKK => ?_) AllReadyH.nil
 go_simp
 go_wp2_with (go_at_call 123; refine P1.out.mono ?_; rintro e w1 ⟨rfl, A1, U1⟩)
 have V1 := κ ((UW.drew (K := K) (W := w0) A0.out.l).trans U1)
 have B1 := κ (B0.out.uw V1.out)
 have M1 := κ A1
 have R1 := RS.of B1.out A1 G1.out
 have x0_1 := B1.out.c 0 _ rfl
 have x1_1 := B1.out.c 1 _ rfl
 have x2_1 := B1.out.c 2 _ rfl
 have x3_1 := B1.out.c 3 _ rfl
 have x4_1 := B1.out.c 4 _ rfl
 have xl_1 := B1.out.l
 have y4_1 := R1.p
 have y5_1 := R1.x
 have y1_1 := R1.n
 have yl_1 := A1.l
 have P2 := set_any (K := K) d p1.1 HD.out w1 (A1) (by have := G1.out.n; have := HN.out; omega)
 rw [hp2] at P2
 have P2 := κ P2
 clear A1 U1 P1
 refine hKK.out _ _ ?_ (fun hHeld2 => ?_)
 ·exact R1
 clear hKK KK hHeld
 have hHeld := hHeld2
 clear hHeld2
 try simp only [Act.put, κa, κb, κc]
 -- 7
 refine wpAnyH_ready (rs := [7]) (by kernel_rfl) (by simp) ?_
 refine AllReadyH.cons rfl (fun KK hKK => ?_) AllReadyH.nil
 go_simp
 go_wp2_with (go_at_call 116; refine P2.out.mono ?_; rintro e w2 ⟨rfl, A1, U1⟩)
 have V2 := κ (U1)
 have B2 := κ (B1.out.uw V2.out)
 have M2 := κ A1
 have R2 := RS.of B2.out A1 G2.out
 have x0_2 := B2.out.c 0 _ rfl
 have x1_2 := B2.out.c 1 _ rfl
 have x2_2 := B2.out.c 2 _ rfl
 have x3_2 := B2.out.c 3 _ rfl
 have x4_2 := B2.out.c 4 _ rfl
 have xl_2 := B2.out.l
 have y4_2 := R2.p
 have y5_2 := R2.x
 have y1_2 := R2.n
 have yl_2 := A1.l
 clear A1 U1 P2
 refine hKK.out _ _ ?_ (fun hHeld2 => ?_)
 ·exact R2
 clear hKK KK hHeld
 have hHeld := hHeld2
 clear hHeld2
 try simp only [Act.put, κa, κb, κc]
 refine wpAnyH_done (by kernel_rfl) ?_ _
 go_wp2
 go_ret
 exact ⟨rfl, M2.out, ((U0.out.trans V1.out).trans V2.out)⟩
theorem plain_22 (d r : Nat) (f m : Int) (hd : d < 8) (hr : r < 8) (w : World) (a : LM K s w) (hc : 1 ≤ s.cnt ∧ s.cnt ≤ 64) (hn : s.ops.length + 60 < 1000000000) :
  Calls Tryz.prog 85 #[.pointer (some ⟨K.h, 0, none⟩), .agg #[.int .i64 22, .int .i64 d, .int .i64 r, .int .i64 f, .int .u32 m]] w fun e w' => e = .returned (.bool true) ∧ LM K (s.plain 22 d r f m).2 w' ∧ UW K w w' := by
 have HN := κ hn
 have HC := κ hc
 have HR := κ hr
 have HD := κ hd
 obtain ⟨p1, hp1⟩ : ∃ p, s.get r = p := ⟨_, rfl⟩
 have g1 : Gw 1 s p1.2 := by rw [← hp1]; exact get_gw s _ 
 have G1 := κ g1
 clear g1
 obtain ⟨p2, hp2⟩ : ∃ p, p1.2.set d p1.1 = p := ⟨_, rfl⟩
 have g2 : Gw 1 p1.2 p2 := by rw [← hp2]; exact set_gw p1.2 _ _ 
 have G2 := κ (G1.out.trans g2)
 clear g2
 have E : (s.plain 22 d r f m).2 = p2 := by
  unfold Lk.plain
  rw [if_neg (by decide), if_neg (by decide), if_neg (by decide), if_neg (by decide), if_neg (by decide), if_neg (by decide), if_pos (by decide)]
  simp only [hp1, hp2, Int.reduceEq, ↓reduceIte]
 rw [E]
 clear E
 have A0 := κ (a.alloc (.cells #[.int .i64 22, .int .i64 d, .int .i64 r, .int .i64 f, .int .u32 m] 74))
 have B0 := κ (Bx.new a #[.int .i64 22, .int .i64 d, .int .i64 r, .int .i64 f, .int .u32 m] 74)
 have U0 := κ (UW.alloc a.l (.cells #[.int .i64 22, .int .i64 d, .int .i64 r, .int .i64 f, .int .u32 m] 74))
 have uI := Tryz.underlying74
 have iI : (Tryz.prog.info? 74).map (·.size) = some ([.int .i64 22, .int .i64 d, .int .i64 r, .int .i64 f, .int .u32 m] : List Value).length := by kernel_rfl
 clear a hn hc hd hr
 go_enter Tryz.func85, Tryz.ntmps85
 go_upto_region 1 with fail
 generalize w.alloc (.cells #[.int .i64 22, .int .i64 d, .int .i64 r, .int .i64 f, .int .u32 m] 74) = w0 at *
 generalize w.heap.size = bx at *
 have R0 := κ (RS.of B0.out A0.out (Gw.refl s))
 have x0_0 := B0.out.c 0 _ rfl
 have x1_0 := B0.out.c 1 _ rfl
 have x2_0 := B0.out.c 2 _ rfl
 have x3_0 := B0.out.c 3 _ rfl
 have x4_0 := B0.out.c 4 _ rfl
 have xl_0 := B0.out.l
 have y4_0 := R0.out.p
 have y5_0 := R0.out.x
 have y1_0 := R0.out.n
 have yl_0 := A0.out.l
 have P1 := get_any (K := K) r HR.out w0.drew (A0.out.drew) (by have := HN.out; omega)
 rw [hp1] at P1
 have P1 := κ P1
 go_wp2
 have hf1 : ∀ w : World, (Instr.fieldAt 74 (.pointer (some ⟨bx, 0, none⟩)) 1).run Tryz.prog w = .ok (.pointer (some ⟨bx, 1, none⟩)) w := fun w => by go_simp
 have hl2 : ∀ w', RS K s bx #[.int .i64 22, .int .i64 d, .int .i64 r, .int .i64 f, .int .u32 m] w' → (Instr.loadAt 3 (.pointer (some ⟨bx, 1, none⟩))).run Tryz.prog w' = .ok (.int .i64 d) w' := fun w' h => by
  have hp := h.b.c 1 _ rfl
  have hq := h.b.l
  clear h
  go_simp
 have hf4 : ∀ w : World, (Instr.fieldAt 74 (.pointer (some ⟨bx, 0, none⟩)) 2).run Tryz.prog w = .ok (.pointer (some ⟨bx, 2, none⟩)) w := fun w => by go_simp
 have hl5 : ∀ w', RS K s bx #[.int .i64 22, .int .i64 d, .int .i64 r, .int .i64 f, .int .u32 m] w' → (Instr.loadAt 3 (.pointer (some ⟨bx, 2, none⟩))).run Tryz.prog w' = .ok (.int .i64 r) w' := fun w' h => by
  have hp := h.b.c 2 _ rfl
  have hq := h.b.l
  clear h
  go_simp
 refine wp_region_held_drew (S := RS K s bx #[.int .i64 22, .int .i64 d, .int .i64 r, .int .i64 f, .int .u32 m]) (by kernel_rfl) (R0.out).drew (fun hHeld => ?_)
 -- 0
 refine κw 0 95 (.pointer (some ⟨K.h, 0, none⟩)) rfl rfl (by kernel_rfl) (by kernel_rfl) (by kernel_rfl) (fun _ _ _ h => h) (Kt.yl_mov (by rfl) _ rfl _ rfl) hHeld ?_
 try simp only [Act.put, κa, κb, κc]
 -- 1
 refine κw 1 96 (.pointer (some ⟨bx, 1, none⟩)) rfl rfl (by kernel_rfl) (by kernel_rfl) (by kernel_rfl) (fun _ _ _ h => h) (Kt.yl_fld (by rfl) _ _ _ rfl _ _ rfl hf1) hHeld ?_
 try simp only [Act.put, κa, κb, κc]
 -- 2
 refine κw 2 97 (.int .i64 d) rfl rfl (by kernel_rfl) (by kernel_rfl) (by kernel_rfl) (fun _ _ _ h => h) (Kt.yl_ld (by rfl) _ _ rfl _ _ rfl hl2) hHeld ?_
 try simp only [Act.put, κa, κb, κc]
 -- 3
 refine κw 3 98 (.pointer (some ⟨K.h, 0, none⟩)) rfl rfl (by kernel_rfl) (by kernel_rfl) (by kernel_rfl) (fun _ _ _ h => h) (Kt.yl_mov (by rfl) _ rfl _ rfl) hHeld ?_
 try simp only [Act.put, κa, κb, κc]
 -- 4
 refine κw 4 99 (.pointer (some ⟨bx, 2, none⟩)) rfl rfl (by kernel_rfl) (by kernel_rfl) (by kernel_rfl) (fun _ _ _ h => h) (Kt.yl_fld (by rfl) _ _ _ rfl _ _ rfl hf4) hHeld ?_
 try simp only [Act.put, κa, κb, κc]
 -- 5
 refine κw 5 100 (.int .i64 r) rfl rfl (by kernel_rfl) (by kernel_rfl) (by kernel_rfl) (fun _ _ _ h => h) (Kt.yl_ld (by rfl) _ _ rfl _ _ rfl hl5) hHeld ?_
 try simp only [Act.put, κa, κb, κc]
 -- 6
 refine wpAnyH_ready (rs := [6]) (by kernel_rfl) (by simp) ?_
 refine AllReadyH.cons rfl (fun KK hKK => ?_) AllReadyH.nil
 go_simp
 go_wp2_with (go_at_call 118; refine P1.out.mono ?_; rintro e w1 ⟨rfl, A1, U1⟩)
 have V1 := κ ((UW.drew (K := K) (W := w0) A0.out.l).trans U1)
 have B1 := κ (B0.out.uw V1.out)
 have M1 := κ A1
 have R1 := RS.of B1.out A1 G1.out
 have x0_1 := B1.out.c 0 _ rfl
 have x1_1 := B1.out.c 1 _ rfl
 have x2_1 := B1.out.c 2 _ rfl
 have x3_1 := B1.out.c 3 _ rfl
 have x4_1 := B1.out.c 4 _ rfl
 have xl_1 := B1.out.l
 have y4_1 := R1.p
 have y5_1 := R1.x
 have y1_1 := R1.n
 have yl_1 := A1.l
 have P2 := set_any (K := K) d p1.1 HD.out w1 (A1) (by have := G1.out.n; have := HN.out; omega)
 rw [hp2] at P2
 have P2 := κ P2
 clear A1 U1 P1
 refine hKK.out _ _ ?_ (fun hHeld2 => ?_)
 ·exact R1
 clear hKK KK hHeld
 have hHeld := hHeld2
 clear hHeld2
 try simp only [Act.put, κa, κb, κc]
 -- 7
 refine wpAnyH_ready (rs := [7]) (by kernel_rfl) (by simp) ?_
 refine AllReadyH.cons rfl (fun KK hKK => ?_) AllReadyH.nil
 go_simp
 go_wp2_with (go_at_call 116; refine P2.out.mono ?_; rintro e w2 ⟨rfl, A1, U1⟩)
 have V2 := κ (U1)
 have B2 := κ (B1.out.uw V2.out)
 have M2 := κ A1
 have R2 := RS.of B2.out A1 G2.out
 have x0_2 := B2.out.c 0 _ rfl
 have x1_2 := B2.out.c 1 _ rfl
 have x2_2 := B2.out.c 2 _ rfl
 have x3_2 := B2.out.c 3 _ rfl
 have x4_2 := B2.out.c 4 _ rfl
 have xl_2 := B2.out.l
 have y4_2 := R2.p
 have y5_2 := R2.x
 have y1_2 := R2.n
 have yl_2 := A1.l
 clear A1 U1 P2
 refine hKK.out _ _ ?_ (fun hHeld2 => ?_)
 ·exact R2
 clear hKK KK hHeld
 have hHeld := hHeld2
 clear hHeld2
 try simp only [Act.put, κa, κb, κc]
 refine wpAnyH_done (by kernel_rfl) ?_ _
 go_wp2
 go_ret
 exact ⟨rfl, M2.out, ((U0.out.trans V1.out).trans V2.out)⟩
theorem plain_23 (d r : Nat) (f m : Int) (hd : d < 8) (hr : r < 8) (w : World) (a : LM K s w) (hc : 1 ≤ s.cnt ∧ s.cnt ≤ 64) (hn : s.ops.length + 60 < 1000000000) :
  Calls Tryz.prog 85 #[.pointer (some ⟨K.h, 0, none⟩), .agg #[.int .i64 23, .int .i64 d, .int .i64 r, .int .i64 f, .int .u32 m]] w fun e w' => e = .returned (.bool true) ∧ LM K (s.plain 23 d r f m).2 w' ∧ UW K w w' := by
 have HN := κ hn
 have HC := κ hc
 have HR := κ hr
 have HD := κ hd
 obtain ⟨p1, hp1⟩ : ∃ p, s.whr r m = p := ⟨_, rfl⟩
 have g1 : Gw 3 s p1.2 := by rw [← hp1]; exact whr_gw s _ _ 
 have G1 := κ g1
 clear g1
 obtain ⟨p2, hp2⟩ : ∃ p, p1.2.set d p1.1 = p := ⟨_, rfl⟩
 have g2 : Gw 1 p1.2 p2 := by rw [← hp2]; exact set_gw p1.2 _ _ 
 have G2 := κ (G1.out.trans g2)
 clear g2
 have E : (s.plain 23 d r f m).2 = p2 := by
  unfold Lk.plain
  rw [if_neg (by decide), if_neg (by decide), if_neg (by decide), if_neg (by decide), if_neg (by decide), if_neg (by decide), if_neg (by decide), if_pos (by decide)]
  simp only [hp1, hp2, Int.reduceEq, ↓reduceIte]
 rw [E]
 clear E
 have A0 := κ (a.alloc (.cells #[.int .i64 23, .int .i64 d, .int .i64 r, .int .i64 f, .int .u32 m] 74))
 have B0 := κ (Bx.new a #[.int .i64 23, .int .i64 d, .int .i64 r, .int .i64 f, .int .u32 m] 74)
 have U0 := κ (UW.alloc a.l (.cells #[.int .i64 23, .int .i64 d, .int .i64 r, .int .i64 f, .int .u32 m] 74))
 have uI := Tryz.underlying74
 have iI : (Tryz.prog.info? 74).map (·.size) = some ([.int .i64 23, .int .i64 d, .int .i64 r, .int .i64 f, .int .u32 m] : List Value).length := by kernel_rfl
 clear a hn hc hd hr
 go_enter Tryz.func85, Tryz.ntmps85
 go_upto_region 1 with fail
 generalize w.alloc (.cells #[.int .i64 23, .int .i64 d, .int .i64 r, .int .i64 f, .int .u32 m] 74) = w0 at *
 generalize w.heap.size = bx at *
 have R0 := κ (RS.of B0.out A0.out (Gw.refl s))
 have x0_0 := B0.out.c 0 _ rfl
 have x1_0 := B0.out.c 1 _ rfl
 have x2_0 := B0.out.c 2 _ rfl
 have x3_0 := B0.out.c 3 _ rfl
 have x4_0 := B0.out.c 4 _ rfl
 have xl_0 := B0.out.l
 have y4_0 := R0.out.p
 have y5_0 := R0.out.x
 have y1_0 := R0.out.n
 have yl_0 := A0.out.l
 have P1 := whr_any (K := K) 23 d f m r HR.out w0.drew (A0.out.drew) (by have := HN.out; omega)
 rw [hp1] at P1
 have P1 := κ P1
 go_wp2
 have hf1 : ∀ w : World, (Instr.fieldAt 74 (.pointer (some ⟨bx, 0, none⟩)) 1).run Tryz.prog w = .ok (.pointer (some ⟨bx, 1, none⟩)) w := fun w => by go_simp
 have hl2 : ∀ w', RS K s bx #[.int .i64 23, .int .i64 d, .int .i64 r, .int .i64 f, .int .u32 m] w' → (Instr.loadAt 3 (.pointer (some ⟨bx, 1, none⟩))).run Tryz.prog w' = .ok (.int .i64 d) w' := fun w' h => by
  have hp := h.b.c 1 _ rfl
  have hq := h.b.l
  clear h
  go_simp
 refine wp_region_held_drew (S := RS K s bx #[.int .i64 23, .int .i64 d, .int .i64 r, .int .i64 f, .int .u32 m]) (by kernel_rfl) (R0.out).drew (fun hHeld => ?_)
 -- 0
 refine κw 0 105 (.pointer (some ⟨K.h, 0, none⟩)) rfl rfl (by kernel_rfl) (by kernel_rfl) (by kernel_rfl) (fun _ _ _ h => h) (Kt.yl_mov (by rfl) _ rfl _ rfl) hHeld ?_
 try simp only [Act.put, κa, κb, κc]
 -- 1
 refine κw 1 106 (.pointer (some ⟨bx, 1, none⟩)) rfl rfl (by kernel_rfl) (by kernel_rfl) (by kernel_rfl) (fun _ _ _ h => h) (Kt.yl_fld (by rfl) _ _ _ rfl _ _ rfl hf1) hHeld ?_
 try simp only [Act.put, κa, κb, κc]
 -- 2
 refine κw 2 107 (.int .i64 d) rfl rfl (by kernel_rfl) (by kernel_rfl) (by kernel_rfl) (fun _ _ _ h => h) (Kt.yl_ld (by rfl) _ _ rfl _ _ rfl hl2) hHeld ?_
 try simp only [Act.put, κa, κb, κc]
 -- 3
 refine κw 3 108 (.pointer (some ⟨K.h, 0, none⟩)) rfl rfl (by kernel_rfl) (by kernel_rfl) (by kernel_rfl) (fun _ _ _ h => h) (Kt.yl_mov (by rfl) _ rfl _ rfl) hHeld ?_
 try simp only [Act.put, κa, κb, κc]
 -- 4
 refine κw 4 109 (.agg #[.int .i64 23, .int .i64 d, .int .i64 r, .int .i64 f, .int .u32 m]) rfl rfl (by kernel_rfl) (by kernel_rfl) (by kernel_rfl) (fun _ _ _ h => h) (yieldsIf_load_mid (by rfl) _ _ rfl _ _ rfl _ _ (fun w h => h.b.rng) uI rfl iI) hHeld ?_
 try simp only [Act.put, κa, κb, κc]
 -- 5
 refine wpAnyH_ready (rs := [5]) (by kernel_rfl) (by simp) ?_
 refine AllReadyH.cons rfl (fun KK hKK => ?_) AllReadyH.nil
 go_simp
 go_wp2_with (go_at_call 124; refine P1.out.mono ?_; rintro e w1 ⟨rfl, A1, U1⟩)
 have V1 := κ ((UW.drew (K := K) (W := w0) A0.out.l).trans U1)
 have B1 := κ (B0.out.uw V1.out)
 have M1 := κ A1
 have R1 := RS.of B1.out A1 G1.out
 have x0_1 := B1.out.c 0 _ rfl
 have x1_1 := B1.out.c 1 _ rfl
 have x2_1 := B1.out.c 2 _ rfl
 have x3_1 := B1.out.c 3 _ rfl
 have x4_1 := B1.out.c 4 _ rfl
 have xl_1 := B1.out.l
 have y4_1 := R1.p
 have y5_1 := R1.x
 have y1_1 := R1.n
 have yl_1 := A1.l
 have P2 := set_any (K := K) d p1.1 HD.out w1 (A1) (by have := G1.out.n; have := HN.out; omega)
 rw [hp2] at P2
 have P2 := κ P2
 clear A1 U1 P1
 refine hKK.out _ _ ?_ (fun hHeld2 => ?_)
 ·exact R1
 clear hKK KK hHeld
 have hHeld := hHeld2
 clear hHeld2
 try simp only [Act.put, κa, κb, κc]
 -- 6
 refine wpAnyH_ready (rs := [6]) (by kernel_rfl) (by simp) ?_
 refine AllReadyH.cons rfl (fun KK hKK => ?_) AllReadyH.nil
 go_simp
 go_wp2_with (go_at_call 116; refine P2.out.mono ?_; rintro e w2 ⟨rfl, A1, U1⟩)
 have V2 := κ (U1)
 have B2 := κ (B1.out.uw V2.out)
 have M2 := κ A1
 have R2 := RS.of B2.out A1 G2.out
 have x0_2 := B2.out.c 0 _ rfl
 have x1_2 := B2.out.c 1 _ rfl
 have x2_2 := B2.out.c 2 _ rfl
 have x3_2 := B2.out.c 3 _ rfl
 have x4_2 := B2.out.c 4 _ rfl
 have xl_2 := B2.out.l
 have y4_2 := R2.p
 have y5_2 := R2.x
 have y1_2 := R2.n
 have yl_2 := A1.l
 clear A1 U1 P2
 refine hKK.out _ _ ?_ (fun hHeld2 => ?_)
 ·exact R2
 clear hKK KK hHeld
 have hHeld := hHeld2
 clear hHeld2
 try simp only [Act.put, κa, κb, κc]
 refine wpAnyH_done (by kernel_rfl) ?_ _
 go_wp2
 go_ret
 exact ⟨rfl, M2.out, ((U0.out.trans V1.out).trans V2.out)⟩
theorem plain_27 (d r : Nat) (f m : Int) (hd : d < 8) (hr : r < 8) (f0 : 0 ≤ f) (f1 : f < 16) (w : World) (a : LM K s w) (hc : 1 ≤ s.cnt ∧ s.cnt ≤ 64) (hn : s.ops.length + 60 < 1000000000) :
  Calls Tryz.prog 85 #[.pointer (some ⟨K.h, 0, none⟩), .agg #[.int .i64 27, .int .i64 d, .int .i64 r, .int .i64 f, .int .u32 m]] w fun e w' => e = .returned (.bool true) ∧ LM K (s.plain 27 d r f m).2 w' ∧ UW K w w' := by
 have HN := κ hn
 have HC := κ hc
 have HR := κ hr
 have HD := κ hd
 have HF0 := κ f0
 have HF1 := κ f1
 obtain ⟨p1, hp1⟩ : ∃ p, s.get r = p := ⟨_, rfl⟩
 have g1 : Gw 1 s p1.2 := by rw [← hp1]; exact get_gw s _ 
 have G1 := κ g1
 clear g1
 obtain ⟨p2, hp2⟩ : ∃ p, p1.2.alu f d p1.1 = p := ⟨_, rfl⟩
 have g2 : Gw 20 p1.2 p2 := by rw [← hp2]; exact alu_gw p1.2 _ _ _ 
 have G2 := κ (G1.out.trans g2)
 clear g2
 have E : (s.plain 27 d r f m).2 = p2 := by
  unfold Lk.plain
  rw [if_neg (by decide), if_neg (by decide), if_neg (by decide), if_neg (by decide), if_neg (by decide), if_neg (by decide), if_neg (by decide), if_neg (by decide), if_pos (by decide)]
  simp only [hp1, hp2, Int.reduceEq, ↓reduceIte]
 rw [E]
 clear E
 have A0 := κ (a.alloc (.cells #[.int .i64 27, .int .i64 d, .int .i64 r, .int .i64 f, .int .u32 m] 74))
 have B0 := κ (Bx.new a #[.int .i64 27, .int .i64 d, .int .i64 r, .int .i64 f, .int .u32 m] 74)
 have U0 := κ (UW.alloc a.l (.cells #[.int .i64 27, .int .i64 d, .int .i64 r, .int .i64 f, .int .u32 m] 74))
 have uI := Tryz.underlying74
 have iI : (Tryz.prog.info? 74).map (·.size) = some ([.int .i64 27, .int .i64 d, .int .i64 r, .int .i64 f, .int .u32 m] : List Value).length := by kernel_rfl
 clear a hn hc hd hr
 go_enter Tryz.func85, Tryz.ntmps85
 go_upto_region 1 with fail
 generalize w.alloc (.cells #[.int .i64 27, .int .i64 d, .int .i64 r, .int .i64 f, .int .u32 m] 74) = w0 at *
 generalize w.heap.size = bx at *
 have R0 := κ (RS.of B0.out A0.out (Gw.refl s))
 have x0_0 := B0.out.c 0 _ rfl
 have x1_0 := B0.out.c 1 _ rfl
 have x2_0 := B0.out.c 2 _ rfl
 have x3_0 := B0.out.c 3 _ rfl
 have x4_0 := B0.out.c 4 _ rfl
 have xl_0 := B0.out.l
 have y4_0 := R0.out.p
 have y5_0 := R0.out.x
 have y1_0 := R0.out.n
 have yl_0 := A0.out.l
 have P1 := get_any (K := K) r HR.out w0.drew (A0.out.drew) (by have := HN.out; omega)
 rw [hp1] at P1
 have P1 := κ P1
 go_wp2
 have hf1 : ∀ w : World, (Instr.fieldAt 74 (.pointer (some ⟨bx, 0, none⟩)) 3).run Tryz.prog w = .ok (.pointer (some ⟨bx, 3, none⟩)) w := fun w => by go_simp
 have hl2 : ∀ w', RS K s bx #[.int .i64 27, .int .i64 d, .int .i64 r, .int .i64 f, .int .u32 m] w' → (Instr.loadAt 3 (.pointer (some ⟨bx, 3, none⟩))).run Tryz.prog w' = .ok (.int .i64 f) w' := fun w' h => by
  have hp := h.b.c 3 _ rfl
  have hq := h.b.l
  clear h
  go_simp
 have hf3 : ∀ w : World, (Instr.fieldAt 74 (.pointer (some ⟨bx, 0, none⟩)) 1).run Tryz.prog w = .ok (.pointer (some ⟨bx, 1, none⟩)) w := fun w => by go_simp
 have hl4 : ∀ w', RS K s bx #[.int .i64 27, .int .i64 d, .int .i64 r, .int .i64 f, .int .u32 m] w' → (Instr.loadAt 3 (.pointer (some ⟨bx, 1, none⟩))).run Tryz.prog w' = .ok (.int .i64 d) w' := fun w' h => by
  have hp := h.b.c 1 _ rfl
  have hq := h.b.l
  clear h
  go_simp
 have hf6 : ∀ w : World, (Instr.fieldAt 74 (.pointer (some ⟨bx, 0, none⟩)) 2).run Tryz.prog w = .ok (.pointer (some ⟨bx, 2, none⟩)) w := fun w => by go_simp
 have hl7 : ∀ w', RS K s bx #[.int .i64 27, .int .i64 d, .int .i64 r, .int .i64 f, .int .u32 m] w' → (Instr.loadAt 3 (.pointer (some ⟨bx, 2, none⟩))).run Tryz.prog w' = .ok (.int .i64 r) w' := fun w' h => by
  have hp := h.b.c 2 _ rfl
  have hq := h.b.l
  clear h
  go_simp
 refine wp_region_held_drew (S := RS K s bx #[.int .i64 27, .int .i64 d, .int .i64 r, .int .i64 f, .int .u32 m]) (by kernel_rfl) (R0.out).drew (fun hHeld => ?_)
 -- 0
 refine κw 0 114 (.pointer (some ⟨K.h, 0, none⟩)) rfl rfl (by kernel_rfl) (by kernel_rfl) (by kernel_rfl) (fun _ _ _ h => h) (Kt.yl_mov (by rfl) _ rfl _ rfl) hHeld ?_
 try simp only [Act.put, κa, κb, κc]
 -- 1
 refine κw 1 115 (.pointer (some ⟨bx, 3, none⟩)) rfl rfl (by kernel_rfl) (by kernel_rfl) (by kernel_rfl) (fun _ _ _ h => h) (Kt.yl_fld (by rfl) _ _ _ rfl _ _ rfl hf1) hHeld ?_
 try simp only [Act.put, κa, κb, κc]
 -- 2
 refine κw 2 116 (.int .i64 f) rfl rfl (by kernel_rfl) (by kernel_rfl) (by kernel_rfl) (fun _ _ _ h => h) (Kt.yl_ld (by rfl) _ _ rfl _ _ rfl hl2) hHeld ?_
 try simp only [Act.put, κa, κb, κc]
 -- 3
 refine κw 3 117 (.pointer (some ⟨bx, 1, none⟩)) rfl rfl (by kernel_rfl) (by kernel_rfl) (by kernel_rfl) (fun _ _ _ h => h) (Kt.yl_fld (by rfl) _ _ _ rfl _ _ rfl hf3) hHeld ?_
 try simp only [Act.put, κa, κb, κc]
 -- 4
 refine κw 4 118 (.int .i64 d) rfl rfl (by kernel_rfl) (by kernel_rfl) (by kernel_rfl) (fun _ _ _ h => h) (Kt.yl_ld (by rfl) _ _ rfl _ _ rfl hl4) hHeld ?_
 try simp only [Act.put, κa, κb, κc]
 -- 5
 refine κw 5 119 (.pointer (some ⟨K.h, 0, none⟩)) rfl rfl (by kernel_rfl) (by kernel_rfl) (by kernel_rfl) (fun _ _ _ h => h) (Kt.yl_mov (by rfl) _ rfl _ rfl) hHeld ?_
 try simp only [Act.put, κa, κb, κc]
 -- 6
 refine κw 6 120 (.pointer (some ⟨bx, 2, none⟩)) rfl rfl (by kernel_rfl) (by kernel_rfl) (by kernel_rfl) (fun _ _ _ h => h) (Kt.yl_fld (by rfl) _ _ _ rfl _ _ rfl hf6) hHeld ?_
 try simp only [Act.put, κa, κb, κc]
 -- 7
 refine κw 7 121 (.int .i64 r) rfl rfl (by kernel_rfl) (by kernel_rfl) (by kernel_rfl) (fun _ _ _ h => h) (Kt.yl_ld (by rfl) _ _ rfl _ _ rfl hl7) hHeld ?_
 try simp only [Act.put, κa, κb, κc]
 -- 8
 refine wpAnyH_ready (rs := [8]) (by kernel_rfl) (by simp) ?_
 refine AllReadyH.cons rfl (fun KK hKK => ?_) AllReadyH.nil
 go_simp
 go_wp2_with (go_at_call 118; refine P1.out.mono ?_; rintro e w1 ⟨rfl, A1, U1⟩)
 have V1 := κ ((UW.drew (K := K) (W := w0) A0.out.l).trans U1)
 have B1 := κ (B0.out.uw V1.out)
 have M1 := κ A1
 have R1 := RS.of B1.out A1 G1.out
 have x0_1 := B1.out.c 0 _ rfl
 have x1_1 := B1.out.c 1 _ rfl
 have x2_1 := B1.out.c 2 _ rfl
 have x3_1 := B1.out.c 3 _ rfl
 have x4_1 := B1.out.c 4 _ rfl
 have xl_1 := B1.out.l
 have y4_1 := R1.p
 have y5_1 := R1.x
 have y1_1 := R1.n
 have yl_1 := A1.l
 have P2 := alu_any (K := K) f p1.1 d HD.out HF0.out HF1.out w1 (A1) (by rw [G1.out.cnt]; exact HC.out) (by have := G1.out.n; have := HN.out; omega)
 rw [hp2] at P2
 have P2 := κ P2
 clear A1 U1 P1
 refine hKK.out _ _ ?_ (fun hHeld2 => ?_)
 ·exact R1
 clear hKK KK hHeld
 have hHeld := hHeld2
 clear hHeld2
 try simp only [Act.put, κa, κb, κc]
 -- 9
 refine wpAnyH_ready (rs := [9]) (by kernel_rfl) (by simp) ?_
 refine AllReadyH.cons rfl (fun KK hKK => ?_) AllReadyH.nil
 go_simp
 go_wp2_with (go_at_call 125; refine P2.out.mono ?_; rintro e w2 ⟨rfl, A1, U1⟩)
 have V2 := κ (U1)
 have B2 := κ (B1.out.uw V2.out)
 have M2 := κ A1
 have R2 := RS.of B2.out A1 G2.out
 have x0_2 := B2.out.c 0 _ rfl
 have x1_2 := B2.out.c 1 _ rfl
 have x2_2 := B2.out.c 2 _ rfl
 have x3_2 := B2.out.c 3 _ rfl
 have x4_2 := B2.out.c 4 _ rfl
 have xl_2 := B2.out.l
 have y4_2 := R2.p
 have y5_2 := R2.x
 have y1_2 := R2.n
 have yl_2 := A1.l
 clear A1 U1 P2
 refine hKK.out _ _ ?_ (fun hHeld2 => ?_)
 ·exact R2
 clear hKK KK hHeld
 have hHeld := hHeld2
 clear hHeld2
 try simp only [Act.put, κa, κb, κc]
 refine wpAnyH_done (by kernel_rfl) ?_ _
 go_wp2
 go_ret
 exact ⟨rfl, M2.out, ((U0.out.trans V1.out).trans V2.out)⟩
theorem plain_28 (d r : Nat) (f m : Int) (hd : d < 8) (hr : r < 8) (f0 : 0 ≤ f) (f1 : f < 16) (w : World) (a : LM K s w) (hc : 1 ≤ s.cnt ∧ s.cnt ≤ 64) (hn : s.ops.length + 60 < 1000000000) :
  Calls Tryz.prog 85 #[.pointer (some ⟨K.h, 0, none⟩), .agg #[.int .i64 28, .int .i64 d, .int .i64 r, .int .i64 f, .int .u32 m]] w fun e w' => e = .returned (.bool true) ∧ LM K (s.plain 28 d r f m).2 w' ∧ UW K w w' := by
 have HN := κ hn
 have HC := κ hc
 have HR := κ hr
 have HD := κ hd
 have HF0 := κ f0
 have HF1 := κ f1
 obtain ⟨p1, hp1⟩ : ∃ p, s.K m = p := ⟨_, rfl⟩
 have g1 : Gw 1 s p1.2 := by rw [← hp1]; exact K_gw s _ 
 have G1 := κ g1
 clear g1
 obtain ⟨p2, hp2⟩ : ∃ p, p1.2.alu f d p1.1 = p := ⟨_, rfl⟩
 have g2 : Gw 20 p1.2 p2 := by rw [← hp2]; exact alu_gw p1.2 _ _ _ 
 have G2 := κ (G1.out.trans g2)
 clear g2
 have E : (s.plain 28 d r f m).2 = p2 := by
  unfold Lk.plain
  rw [if_neg (by decide), if_neg (by decide), if_neg (by decide), if_neg (by decide), if_neg (by decide), if_neg (by decide), if_neg (by decide), if_neg (by decide), if_neg (by decide), if_pos (by decide)]
  simp only [hp1, hp2, Int.reduceEq, ↓reduceIte]
 rw [E]
 clear E
 have A0 := κ (a.alloc (.cells #[.int .i64 28, .int .i64 d, .int .i64 r, .int .i64 f, .int .u32 m] 74))
 have B0 := κ (Bx.new a #[.int .i64 28, .int .i64 d, .int .i64 r, .int .i64 f, .int .u32 m] 74)
 have U0 := κ (UW.alloc a.l (.cells #[.int .i64 28, .int .i64 d, .int .i64 r, .int .i64 f, .int .u32 m] 74))
 have uI := Tryz.underlying74
 have iI : (Tryz.prog.info? 74).map (·.size) = some ([.int .i64 28, .int .i64 d, .int .i64 r, .int .i64 f, .int .u32 m] : List Value).length := by kernel_rfl
 clear a hn hc hd hr
 go_enter Tryz.func85, Tryz.ntmps85
 go_upto_region 1 with fail
 generalize w.alloc (.cells #[.int .i64 28, .int .i64 d, .int .i64 r, .int .i64 f, .int .u32 m] 74) = w0 at *
 generalize w.heap.size = bx at *
 have R0 := κ (RS.of B0.out A0.out (Gw.refl s))
 have x0_0 := B0.out.c 0 _ rfl
 have x1_0 := B0.out.c 1 _ rfl
 have x2_0 := B0.out.c 2 _ rfl
 have x3_0 := B0.out.c 3 _ rfl
 have x4_0 := B0.out.c 4 _ rfl
 have xl_0 := B0.out.l
 have y4_0 := R0.out.p
 have y5_0 := R0.out.x
 have y1_0 := R0.out.n
 have yl_0 := A0.out.l
 have P1 := konst_any (K := K) m w0.drew (A0.out.drew) (by have := HN.out; omega)
 rw [hp1] at P1
 have P1 := κ P1
 go_wp2
 have hf1 : ∀ w : World, (Instr.fieldAt 74 (.pointer (some ⟨bx, 0, none⟩)) 3).run Tryz.prog w = .ok (.pointer (some ⟨bx, 3, none⟩)) w := fun w => by go_simp
 have hl2 : ∀ w', RS K s bx #[.int .i64 28, .int .i64 d, .int .i64 r, .int .i64 f, .int .u32 m] w' → (Instr.loadAt 3 (.pointer (some ⟨bx, 3, none⟩))).run Tryz.prog w' = .ok (.int .i64 f) w' := fun w' h => by
  have hp := h.b.c 3 _ rfl
  have hq := h.b.l
  clear h
  go_simp
 have hf3 : ∀ w : World, (Instr.fieldAt 74 (.pointer (some ⟨bx, 0, none⟩)) 1).run Tryz.prog w = .ok (.pointer (some ⟨bx, 1, none⟩)) w := fun w => by go_simp
 have hl4 : ∀ w', RS K s bx #[.int .i64 28, .int .i64 d, .int .i64 r, .int .i64 f, .int .u32 m] w' → (Instr.loadAt 3 (.pointer (some ⟨bx, 1, none⟩))).run Tryz.prog w' = .ok (.int .i64 d) w' := fun w' h => by
  have hp := h.b.c 1 _ rfl
  have hq := h.b.l
  clear h
  go_simp
 have hf6 : ∀ w : World, (Instr.fieldAt 74 (.pointer (some ⟨bx, 0, none⟩)) 4).run Tryz.prog w = .ok (.pointer (some ⟨bx, 4, none⟩)) w := fun w => by go_simp
 have hl7 : ∀ w', RS K s bx #[.int .i64 28, .int .i64 d, .int .i64 r, .int .i64 f, .int .u32 m] w' → (Instr.loadAt 29 (.pointer (some ⟨bx, 4, none⟩))).run Tryz.prog w' = .ok (.int .u32 m) w' := fun w' h => by
  have hp := h.b.c 4 _ rfl
  have hq := h.b.l
  clear h
  go_simp
 refine wp_region_held_drew (S := RS K s bx #[.int .i64 28, .int .i64 d, .int .i64 r, .int .i64 f, .int .u32 m]) (by kernel_rfl) (R0.out).drew (fun hHeld => ?_)
 -- 0
 refine κw 0 127 (.pointer (some ⟨K.h, 0, none⟩)) rfl rfl (by kernel_rfl) (by kernel_rfl) (by kernel_rfl) (fun _ _ _ h => h) (Kt.yl_mov (by rfl) _ rfl _ rfl) hHeld ?_
 try simp only [Act.put, κa, κb, κc]
 -- 1
 refine κw 1 128 (.pointer (some ⟨bx, 3, none⟩)) rfl rfl (by kernel_rfl) (by kernel_rfl) (by kernel_rfl) (fun _ _ _ h => h) (Kt.yl_fld (by rfl) _ _ _ rfl _ _ rfl hf1) hHeld ?_
 try simp only [Act.put, κa, κb, κc]
 -- 2
 refine κw 2 129 (.int .i64 f) rfl rfl (by kernel_rfl) (by kernel_rfl) (by kernel_rfl) (fun _ _ _ h => h) (Kt.yl_ld (by rfl) _ _ rfl _ _ rfl hl2) hHeld ?_
 try simp only [Act.put, κa, κb, κc]
 -- 3
 refine κw 3 130 (.pointer (some ⟨bx, 1, none⟩)) rfl rfl (by kernel_rfl) (by kernel_rfl) (by kernel_rfl) (fun _ _ _ h => h) (Kt.yl_fld (by rfl) _ _ _ rfl _ _ rfl hf3) hHeld ?_
 try simp only [Act.put, κa, κb, κc]
 -- 4
 refine κw 4 131 (.int .i64 d) rfl rfl (by kernel_rfl) (by kernel_rfl) (by kernel_rfl) (fun _ _ _ h => h) (Kt.yl_ld (by rfl) _ _ rfl _ _ rfl hl4) hHeld ?_
 try simp only [Act.put, κa, κb, κc]
 -- 5
 refine κw 5 132 (.pointer (some ⟨K.h, 0, none⟩)) rfl rfl (by kernel_rfl) (by kernel_rfl) (by kernel_rfl) (fun _ _ _ h => h) (Kt.yl_mov (by rfl) _ rfl _ rfl) hHeld ?_
 try simp only [Act.put, κa, κb, κc]
 -- 6
 refine κw 6 133 (.pointer (some ⟨bx, 4, none⟩)) rfl rfl (by kernel_rfl) (by kernel_rfl) (by kernel_rfl) (fun _ _ _ h => h) (Kt.yl_fld (by rfl) _ _ _ rfl _ _ rfl hf6) hHeld ?_
 try simp only [Act.put, κa, κb, κc]
 -- 7
 refine κw 7 134 (.int .u32 m) rfl rfl (by kernel_rfl) (by kernel_rfl) (by kernel_rfl) (fun _ _ _ h => h) (Kt.yl_ld (by rfl) _ _ rfl _ _ rfl hl7) hHeld ?_
 try simp only [Act.put, κa, κb, κc]
 -- 8
 refine wpAnyH_ready (rs := [8]) (by kernel_rfl) (by simp) ?_
 refine AllReadyH.cons rfl (fun KK hKK => ?_) AllReadyH.nil
 go_simp
 go_wp2_with (go_at_call 117; refine P1.out.mono ?_; rintro e w1 ⟨rfl, A1, U1⟩)
 have V1 := κ ((UW.drew (K := K) (W := w0) A0.out.l).trans U1)
 have B1 := κ (B0.out.uw V1.out)
 have M1 := κ A1
 have R1 := RS.of B1.out A1 G1.out
 have x0_1 := B1.out.c 0 _ rfl
 have x1_1 := B1.out.c 1 _ rfl
 have x2_1 := B1.out.c 2 _ rfl
 have x3_1 := B1.out.c 3 _ rfl
 have x4_1 := B1.out.c 4 _ rfl
 have xl_1 := B1.out.l
 have y4_1 := R1.p
 have y5_1 := R1.x
 have y1_1 := R1.n
 have yl_1 := A1.l
 have P2 := alu_any (K := K) f p1.1 d HD.out HF0.out HF1.out w1 (A1) (by rw [G1.out.cnt]; exact HC.out) (by have := G1.out.n; have := HN.out; omega)
 rw [hp2] at P2
 have P2 := κ P2
 clear A1 U1 P1
 refine hKK.out _ _ ?_ (fun hHeld2 => ?_)
 ·exact R1
 clear hKK KK hHeld
 have hHeld := hHeld2
 clear hHeld2
 try simp only [Act.put, κa, κb, κc]
 -- 9
 refine wpAnyH_ready (rs := [9]) (by kernel_rfl) (by simp) ?_
 refine AllReadyH.cons rfl (fun KK hKK => ?_) AllReadyH.nil
 go_simp
 go_wp2_with (go_at_call 125; refine P2.out.mono ?_; rintro e w2 ⟨rfl, A1, U1⟩)
 have V2 := κ (U1)
 have B2 := κ (B1.out.uw V2.out)
 have M2 := κ A1
 have R2 := RS.of B2.out A1 G2.out
 have x0_2 := B2.out.c 0 _ rfl
 have x1_2 := B2.out.c 1 _ rfl
 have x2_2 := B2.out.c 2 _ rfl
 have x3_2 := B2.out.c 3 _ rfl
 have x4_2 := B2.out.c 4 _ rfl
 have xl_2 := B2.out.l
 have y4_2 := R2.p
 have y5_2 := R2.x
 have y1_2 := R2.n
 have yl_2 := A1.l
 clear A1 U1 P2
 refine hKK.out _ _ ?_ (fun hHeld2 => ?_)
 ·exact R2
 clear hKK KK hHeld
 have hHeld := hHeld2
 clear hHeld2
 try simp only [Act.put, κa, κb, κc]
 refine wpAnyH_done (by kernel_rfl) ?_ _
 go_wp2
 go_ret
 exact ⟨rfl, M2.out, ((U0.out.trans V1.out).trans V2.out)⟩
theorem plain_29 (d r : Nat) (f m : Int) (hd : d < 8) (hr : r < 8) (f0 : 0 ≤ f) (f1 : f < 16) (w : World) (a : LM K s w) (hc : 1 ≤ s.cnt ∧ s.cnt ≤ 64) (hn : s.ops.length + 60 < 1000000000) :
  Calls Tryz.prog 85 #[.pointer (some ⟨K.h, 0, none⟩), .agg #[.int .i64 29, .int .i64 d, .int .i64 r, .int .i64 f, .int .u32 m]] w fun e w' => e = .returned (.bool true) ∧ LM K (s.plain 29 d r f m).2 w' ∧ UW K w w' := by
 have HN := κ hn
 have HC := κ hc
 have HR := κ hr
 have HD := κ hd
 have HF0 := κ f0
 have HF1 := κ f1
 obtain ⟨p1, hp1⟩ : ∃ p, s.K m = p := ⟨_, rfl⟩
 have g1 : Gw 1 s p1.2 := by rw [← hp1]; exact K_gw s _ 
 have G1 := κ g1
 clear g1
 obtain ⟨p2, hp2⟩ : ∃ p, p1.2.alu f d p1.1 = p := ⟨_, rfl⟩
 have g2 : Gw 20 p1.2 p2 := by rw [← hp2]; exact alu_gw p1.2 _ _ _ 
 have G2 := κ (G1.out.trans g2)
 clear g2
 have E : (s.plain 29 d r f m).2 = p2 := by
  unfold Lk.plain
  rw [if_neg (by decide), if_neg (by decide), if_neg (by decide), if_neg (by decide), if_neg (by decide), if_neg (by decide), if_neg (by decide), if_neg (by decide), if_neg (by decide), if_pos (by decide)]
  simp only [hp1, hp2, Int.reduceEq, ↓reduceIte]
 rw [E]
 clear E
 have A0 := κ (a.alloc (.cells #[.int .i64 29, .int .i64 d, .int .i64 r, .int .i64 f, .int .u32 m] 74))
 have B0 := κ (Bx.new a #[.int .i64 29, .int .i64 d, .int .i64 r, .int .i64 f, .int .u32 m] 74)
 have U0 := κ (UW.alloc a.l (.cells #[.int .i64 29, .int .i64 d, .int .i64 r, .int .i64 f, .int .u32 m] 74))
 have uI := Tryz.underlying74
 have iI : (Tryz.prog.info? 74).map (·.size) = some ([.int .i64 29, .int .i64 d, .int .i64 r, .int .i64 f, .int .u32 m] : List Value).length := by kernel_rfl
 clear a hn hc hd hr
 go_enter Tryz.func85, Tryz.ntmps85
 go_upto_region 1 with fail
 generalize w.alloc (.cells #[.int .i64 29, .int .i64 d, .int .i64 r, .int .i64 f, .int .u32 m] 74) = w0 at *
 generalize w.heap.size = bx at *
 have R0 := κ (RS.of B0.out A0.out (Gw.refl s))
 have x0_0 := B0.out.c 0 _ rfl
 have x1_0 := B0.out.c 1 _ rfl
 have x2_0 := B0.out.c 2 _ rfl
 have x3_0 := B0.out.c 3 _ rfl
 have x4_0 := B0.out.c 4 _ rfl
 have xl_0 := B0.out.l
 have y4_0 := R0.out.p
 have y5_0 := R0.out.x
 have y1_0 := R0.out.n
 have yl_0 := A0.out.l
 have P1 := konst_any (K := K) m w0.drew (A0.out.drew) (by have := HN.out; omega)
 rw [hp1] at P1
 have P1 := κ P1
 go_wp2
 have hf1 : ∀ w : World, (Instr.fieldAt 74 (.pointer (some ⟨bx, 0, none⟩)) 3).run Tryz.prog w = .ok (.pointer (some ⟨bx, 3, none⟩)) w := fun w => by go_simp
 have hl2 : ∀ w', RS K s bx #[.int .i64 29, .int .i64 d, .int .i64 r, .int .i64 f, .int .u32 m] w' → (Instr.loadAt 3 (.pointer (some ⟨bx, 3, none⟩))).run Tryz.prog w' = .ok (.int .i64 f) w' := fun w' h => by
  have hp := h.b.c 3 _ rfl
  have hq := h.b.l
  clear h
  go_simp
 have hf3 : ∀ w : World, (Instr.fieldAt 74 (.pointer (some ⟨bx, 0, none⟩)) 1).run Tryz.prog w = .ok (.pointer (some ⟨bx, 1, none⟩)) w := fun w => by go_simp
 have hl4 : ∀ w', RS K s bx #[.int .i64 29, .int .i64 d, .int .i64 r, .int .i64 f, .int .u32 m] w' → (Instr.loadAt 3 (.pointer (some ⟨bx, 1, none⟩))).run Tryz.prog w' = .ok (.int .i64 d) w' := fun w' h => by
  have hp := h.b.c 1 _ rfl
  have hq := h.b.l
  clear h
  go_simp
 have hf6 : ∀ w : World, (Instr.fieldAt 74 (.pointer (some ⟨bx, 0, none⟩)) 4).run Tryz.prog w = .ok (.pointer (some ⟨bx, 4, none⟩)) w := fun w => by go_simp
 have hl7 : ∀ w', RS K s bx #[.int .i64 29, .int .i64 d, .int .i64 r, .int .i64 f, .int .u32 m] w' → (Instr.loadAt 29 (.pointer (some ⟨bx, 4, none⟩))).run Tryz.prog w' = .ok (.int .u32 m) w' := fun w' h => by
  have hp := h.b.c 4 _ rfl
  have hq := h.b.l
  clear h
  go_simp
 refine wp_region_held_drew (S := RS K s bx #[.int .i64 29, .int .i64 d, .int .i64 r, .int .i64 f, .int .u32 m]) (by kernel_rfl) (R0.out).drew (fun hHeld => ?_)
 -- 0
 refine κw 0 127 (.pointer (some ⟨K.h, 0, none⟩)) rfl rfl (by kernel_rfl) (by kernel_rfl) (by kernel_rfl) (fun _ _ _ h => h) (Kt.yl_mov (by rfl) _ rfl _ rfl) hHeld ?_
 try simp only [Act.put, κa, κb, κc]
 -- 1
 refine κw 1 128 (.pointer (some ⟨bx, 3, none⟩)) rfl rfl (by kernel_rfl) (by kernel_rfl) (by kernel_rfl) (fun _ _ _ h => h) (Kt.yl_fld (by rfl) _ _ _ rfl _ _ rfl hf1) hHeld ?_
 try simp only [Act.put, κa, κb, κc]
 -- 2
 refine κw 2 129 (.int .i64 f) rfl rfl (by kernel_rfl) (by kernel_rfl) (by kernel_rfl) (fun _ _ _ h => h) (Kt.yl_ld (by rfl) _ _ rfl _ _ rfl hl2) hHeld ?_
 try simp only [Act.put, κa, κb, κc]
 -- 3
 refine κw 3 130 (.pointer (some ⟨bx, 1, none⟩)) rfl rfl (by kernel_rfl) (by kernel_rfl) (by kernel_rfl) (fun _ _ _ h => h) (Kt.yl_fld (by rfl) _ _ _ rfl _ _ rfl hf3) hHeld ?_
 try simp only [Act.put, κa, κb, κc]
 -- 4
 refine κw 4 131 (.int .i64 d) rfl rfl (by kernel_rfl) (by kernel_rfl) (by kernel_rfl) (fun _ _ _ h => h) (Kt.yl_ld (by rfl) _ _ rfl _ _ rfl hl4) hHeld ?_
 try simp only [Act.put, κa, κb, κc]
 -- 5
 refine κw 5 132 (.pointer (some ⟨K.h, 0, none⟩)) rfl rfl (by kernel_rfl) (by kernel_rfl) (by kernel_rfl) (fun _ _ _ h => h) (Kt.yl_mov (by rfl) _ rfl _ rfl) hHeld ?_
 try simp only [Act.put, κa, κb, κc]
 -- 6
 refine κw 6 133 (.pointer (some ⟨bx, 4, none⟩)) rfl rfl (by kernel_rfl) (by kernel_rfl) (by kernel_rfl) (fun _ _ _ h => h) (Kt.yl_fld (by rfl) _ _ _ rfl _ _ rfl hf6) hHeld ?_
 try simp only [Act.put, κa, κb, κc]
 -- 7
 refine κw 7 134 (.int .u32 m) rfl rfl (by kernel_rfl) (by kernel_rfl) (by kernel_rfl) (fun _ _ _ h => h) (Kt.yl_ld (by rfl) _ _ rfl _ _ rfl hl7) hHeld ?_
 try simp only [Act.put, κa, κb, κc]
 -- 8
 refine wpAnyH_ready (rs := [8]) (by kernel_rfl) (by simp) ?_
 refine AllReadyH.cons rfl (fun KK hKK => ?_) AllReadyH.nil
 go_simp
 go_wp2_with (go_at_call 117; refine P1.out.mono ?_; rintro e w1 ⟨rfl, A1, U1⟩)
 have V1 := κ ((UW.drew (K := K) (W := w0) A0.out.l).trans U1)
 have B1 := κ (B0.out.uw V1.out)
 have M1 := κ A1
 have R1 := RS.of B1.out A1 G1.out
 have x0_1 := B1.out.c 0 _ rfl
 have x1_1 := B1.out.c 1 _ rfl
 have x2_1 := B1.out.c 2 _ rfl
 have x3_1 := B1.out.c 3 _ rfl
 have x4_1 := B1.out.c 4 _ rfl
 have xl_1 := B1.out.l
 have y4_1 := R1.p
 have y5_1 := R1.x
 have y1_1 := R1.n
 have yl_1 := A1.l
 have P2 := alu_any (K := K) f p1.1 d HD.out HF0.out HF1.out w1 (A1) (by rw [G1.out.cnt]; exact HC.out) (by have := G1.out.n; have := HN.out; omega)
 rw [hp2] at P2
 have P2 := κ P2
 clear A1 U1 P1
 refine hKK.out _ _ ?_ (fun hHeld2 => ?_)
 ·exact R1
 clear hKK KK hHeld
 have hHeld := hHeld2
 clear hHeld2
 try simp only [Act.put, κa, κb, κc]
 -- 9
 refine wpAnyH_ready (rs := [9]) (by kernel_rfl) (by simp) ?_
 refine AllReadyH.cons rfl (fun KK hKK => ?_) AllReadyH.nil
 go_simp
 go_wp2_with (go_at_call 125; refine P2.out.mono ?_; rintro e w2 ⟨rfl, A1, U1⟩)
 have V2 := κ (U1)
 have B2 := κ (B1.out.uw V2.out)
 have M2 := κ A1
 have R2 := RS.of B2.out A1 G2.out
 have x0_2 := B2.out.c 0 _ rfl
 have x1_2 := B2.out.c 1 _ rfl
 have x2_2 := B2.out.c 2 _ rfl
 have x3_2 := B2.out.c 3 _ rfl
 have x4_2 := B2.out.c 4 _ rfl
 have xl_2 := B2.out.l
 have y4_2 := R2.p
 have y5_2 := R2.x
 have y1_2 := R2.n
 have yl_2 := A1.l
 clear A1 U1 P2
 refine hKK.out _ _ ?_ (fun hHeld2 => ?_)
 ·exact R2
 clear hKK KK hHeld
 have hHeld := hHeld2
 clear hHeld2
 try simp only [Act.put, κa, κb, κc]
 refine wpAnyH_done (by kernel_rfl) ?_ _
 go_wp2
 go_ret
 exact ⟨rfl, M2.out, ((U0.out.trans V1.out).trans V2.out)⟩
theorem plain_30 (d r : Nat) (f m : Int) (hd : d < 8) (hr : r < 8) (w : World) (a : LM K s w) (hc : 1 ≤ s.cnt ∧ s.cnt ≤ 64) (hn : s.ops.length + 60 < 1000000000) :
  Calls Tryz.prog 85 #[.pointer (some ⟨K.h, 0, none⟩), .agg #[.int .i64 30, .int .i64 d, .int .i64 r, .int .i64 f, .int .u32 m]] w fun e w' => e = .returned (.bool true) ∧ LM K (s.plain 30 d r f m).2 w' ∧ UW K w w' := by
 have HN := κ hn
 have HC := κ hc
 have HR := κ hr
 have HD := κ hd
 obtain ⟨p1, hp1⟩ : ∃ p, s.whr r m = p := ⟨_, rfl⟩
 have g1 : Gw 3 s p1.2 := by rw [← hp1]; exact whr_gw s _ _ 
 have G1 := κ g1
 clear g1
 obtain ⟨p2, hp2⟩ : ∃ p, p1.2.load f p1.1 = p := ⟨_, rfl⟩
 have g2 : Gw 1 p1.2 p2.2 := by rw [← hp2]; exact load_gw p1.2 _ _ 
 have G2 := κ (G1.out.trans g2)
 clear g2
 obtain ⟨p3, hp3⟩ : ∃ p, p2.2.set d p2.1 = p := ⟨_, rfl⟩
 have g3 : Gw 1 p2.2 p3 := by rw [← hp3]; exact set_gw p2.2 _ _ 
 have G3 := κ (G2.out.trans g3)
 clear g3
 have E : (s.plain 30 d r f m).2 = p3 := by
  unfold Lk.plain
  rw [if_neg (by decide), if_neg (by decide), if_neg (by decide), if_neg (by decide), if_neg (by decide), if_neg (by decide), if_neg (by decide), if_neg (by decide), if_neg (by decide), if_neg (by decide), if_pos (by decide)]
  simp only [hp1, hp2, hp3, Int.reduceEq, ↓reduceIte]
 rw [E]
 clear E
 have A0 := κ (a.alloc (.cells #[.int .i64 30, .int .i64 d, .int .i64 r, .int .i64 f, .int .u32 m] 74))
 have B0 := κ (Bx.new a #[.int .i64 30, .int .i64 d, .int .i64 r, .int .i64 f, .int .u32 m] 74)
 have U0 := κ (UW.alloc a.l (.cells #[.int .i64 30, .int .i64 d, .int .i64 r, .int .i64 f, .int .u32 m] 74))
 have uI := Tryz.underlying74
 have iI : (Tryz.prog.info? 74).map (·.size) = some ([.int .i64 30, .int .i64 d, .int .i64 r, .int .i64 f, .int .u32 m] : List Value).length := by kernel_rfl
 clear a hn hc hd hr
 go_enter Tryz.func85, Tryz.ntmps85
 go_upto_region 1 with fail
 generalize w.alloc (.cells #[.int .i64 30, .int .i64 d, .int .i64 r, .int .i64 f, .int .u32 m] 74) = w0 at *
 generalize w.heap.size = bx at *
 have R0 := κ (RS.of B0.out A0.out (Gw.refl s))
 have x0_0 := B0.out.c 0 _ rfl
 have x1_0 := B0.out.c 1 _ rfl
 have x2_0 := B0.out.c 2 _ rfl
 have x3_0 := B0.out.c 3 _ rfl
 have x4_0 := B0.out.c 4 _ rfl
 have xl_0 := B0.out.l
 have y4_0 := R0.out.p
 have y5_0 := R0.out.x
 have y1_0 := R0.out.n
 have yl_0 := A0.out.l
 have P1 := whr_any (K := K) 30 d f m r HR.out w0.drew (A0.out.drew) (by have := HN.out; omega)
 rw [hp1] at P1
 have P1 := κ P1
 go_wp2
 have hf1 : ∀ w : World, (Instr.fieldAt 74 (.pointer (some ⟨bx, 0, none⟩)) 1).run Tryz.prog w = .ok (.pointer (some ⟨bx, 1, none⟩)) w := fun w => by go_simp
 have hl2 : ∀ w', RS K s bx #[.int .i64 30, .int .i64 d, .int .i64 r, .int .i64 f, .int .u32 m] w' → (Instr.loadAt 3 (.pointer (some ⟨bx, 1, none⟩))).run Tryz.prog w' = .ok (.int .i64 d) w' := fun w' h => by
  have hp := h.b.c 1 _ rfl
  have hq := h.b.l
  clear h
  go_simp
 have hf4 : ∀ w : World, (Instr.fieldAt 74 (.pointer (some ⟨bx, 0, none⟩)) 3).run Tryz.prog w = .ok (.pointer (some ⟨bx, 3, none⟩)) w := fun w => by go_simp
 have hl5 : ∀ w', RS K s bx #[.int .i64 30, .int .i64 d, .int .i64 r, .int .i64 f, .int .u32 m] w' → (Instr.loadAt 3 (.pointer (some ⟨bx, 3, none⟩))).run Tryz.prog w' = .ok (.int .i64 f) w' := fun w' h => by
  have hp := h.b.c 3 _ rfl
  have hq := h.b.l
  clear h
  go_simp
 refine wp_region_held_drew (S := RS K s bx #[.int .i64 30, .int .i64 d, .int .i64 r, .int .i64 f, .int .u32 m]) (by kernel_rfl) (R0.out).drew (fun hHeld => ?_)
 -- 0
 refine κw 0 139 (.pointer (some ⟨K.h, 0, none⟩)) rfl rfl (by kernel_rfl) (by kernel_rfl) (by kernel_rfl) (fun _ _ _ h => h) (Kt.yl_mov (by rfl) _ rfl _ rfl) hHeld ?_
 try simp only [Act.put, κa, κb, κc]
 -- 1
 refine κw 1 140 (.pointer (some ⟨bx, 1, none⟩)) rfl rfl (by kernel_rfl) (by kernel_rfl) (by kernel_rfl) (fun _ _ _ h => h) (Kt.yl_fld (by rfl) _ _ _ rfl _ _ rfl hf1) hHeld ?_
 try simp only [Act.put, κa, κb, κc]
 -- 2
 refine κw 2 141 (.int .i64 d) rfl rfl (by kernel_rfl) (by kernel_rfl) (by kernel_rfl) (fun _ _ _ h => h) (Kt.yl_ld (by rfl) _ _ rfl _ _ rfl hl2) hHeld ?_
 try simp only [Act.put, κa, κb, κc]
 -- 3
 refine κw 3 142 (.pointer (some ⟨K.h, 0, none⟩)) rfl rfl (by kernel_rfl) (by kernel_rfl) (by kernel_rfl) (fun _ _ _ h => h) (Kt.yl_mov (by rfl) _ rfl _ rfl) hHeld ?_
 try simp only [Act.put, κa, κb, κc]
 -- 4
 refine κw 4 143 (.pointer (some ⟨bx, 3, none⟩)) rfl rfl (by kernel_rfl) (by kernel_rfl) (by kernel_rfl) (fun _ _ _ h => h) (Kt.yl_fld (by rfl) _ _ _ rfl _ _ rfl hf4) hHeld ?_
 try simp only [Act.put, κa, κb, κc]
 -- 5
 refine κw 5 144 (.int .i64 f) rfl rfl (by kernel_rfl) (by kernel_rfl) (by kernel_rfl) (fun _ _ _ h => h) (Kt.yl_ld (by rfl) _ _ rfl _ _ rfl hl5) hHeld ?_
 try simp only [Act.put, κa, κb, κc]
 -- 6
 refine κw 6 145 (.pointer (some ⟨K.h, 0, none⟩)) rfl rfl (by kernel_rfl) (by kernel_rfl) (by kernel_rfl) (fun _ _ _ h => h) (Kt.yl_mov (by rfl) _ rfl _ rfl) hHeld ?_
 try simp only [Act.put, κa, κb, κc]
 -- 7
 refine κw 7 146 (.agg #[.int .i64 30, .int .i64 d, .int .i64 r, .int .i64 f, .int .u32 m]) rfl rfl (by kernel_rfl) (by kernel_rfl) (by kernel_rfl) (fun _ _ _ h => h) (yieldsIf_load_mid (by rfl) _ _ rfl _ _ rfl _ _ (fun w h => h.b.rng) uI rfl iI) hHeld ?_
 try simp only [Act.put, κa, κb, κc]
 -- 8
 refine wpAnyH_ready (rs := [8]) (by kernel_rfl) (by simp) ?_
 refine AllReadyH.cons rfl (fun KK hKK => ?_) AllReadyH.nil
 go_simp
 go_wp2_with (go_at_call 124; refine P1.out.mono ?_; rintro e w1 ⟨rfl, A1, U1⟩)
 have V1 := κ ((UW.drew (K := K) (W := w0) A0.out.l).trans U1)
 have B1 := κ (B0.out.uw V1.out)
 have M1 := κ A1
 have R1 := RS.of B1.out A1 G1.out
 have x0_1 := B1.out.c 0 _ rfl
 have x1_1 := B1.out.c 1 _ rfl
 have x2_1 := B1.out.c 2 _ rfl
 have x3_1 := B1.out.c 3 _ rfl
 have x4_1 := B1.out.c 4 _ rfl
 have xl_1 := B1.out.l
 have y4_1 := R1.p
 have y5_1 := R1.x
 have y1_1 := R1.n
 have yl_1 := A1.l
 have P2 := load_any (K := K) f p1.1 w1 (A1) (by rw [G1.out.cnt]; exact HC.out) (by have := G1.out.n; have := HN.out; omega)
 rw [hp2] at P2
 have P2 := κ P2
 clear A1 U1 P1
 refine hKK.out _ _ ?_ (fun hHeld2 => ?_)
 ·exact R1
 clear hKK KK hHeld
 have hHeld := hHeld2
 clear hHeld2
 try simp only [Act.put, κa, κb, κc]
 -- 9
 refine wpAnyH_ready (rs := [9]) (by kernel_rfl) (by simp) ?_
 refine AllReadyH.cons rfl (fun KK hKK => ?_) AllReadyH.nil
 go_simp
 go_wp2_with (go_at_call 126; refine P2.out.mono ?_; rintro e w2 ⟨rfl, A1, U1⟩)
 have V2 := κ (U1)
 have B2 := κ (B1.out.uw V2.out)
 have M2 := κ A1
 have R2 := RS.of B2.out A1 G2.out
 have x0_2 := B2.out.c 0 _ rfl
 have x1_2 := B2.out.c 1 _ rfl
 have x2_2 := B2.out.c 2 _ rfl
 have x3_2 := B2.out.c 3 _ rfl
 have x4_2 := B2.out.c 4 _ rfl
 have xl_2 := B2.out.l
 have y4_2 := R2.p
 have y5_2 := R2.x
 have y1_2 := R2.n
 have yl_2 := A1.l
 have P3 := set_any (K := K) d p2.1 HD.out w2 (A1) (by have := G2.out.n; have := HN.out; omega)
 rw [hp3] at P3
 have P3 := κ P3
 clear A1 U1 P2
 refine hKK.out _ _ ?_ (fun hHeld2 => ?_)
 ·exact R2
 clear hKK KK hHeld
 have hHeld := hHeld2
 clear hHeld2
 try simp only [Act.put, κa, κb, κc]
 -- 10
 refine wpAnyH_ready (rs := [10]) (by kernel_rfl) (by simp) ?_
 refine AllReadyH.cons rfl (fun KK hKK => ?_) AllReadyH.nil
 go_simp
 go_wp2_with (go_at_call 116; refine P3.out.mono ?_; rintro e w3 ⟨rfl, A1, U1⟩)
 have V3 := κ (U1)
 have B3 := κ (B2.out.uw V3.out)
 have M3 := κ A1
 have R3 := RS.of B3.out A1 G3.out
 have x0_3 := B3.out.c 0 _ rfl
 have x1_3 := B3.out.c 1 _ rfl
 have x2_3 := B3.out.c 2 _ rfl
 have x3_3 := B3.out.c 3 _ rfl
 have x4_3 := B3.out.c 4 _ rfl
 have xl_3 := B3.out.l
 have y4_3 := R3.p
 have y5_3 := R3.x
 have y1_3 := R3.n
 have yl_3 := A1.l
 clear A1 U1 P3
 refine hKK.out _ _ ?_ (fun hHeld2 => ?_)
 ·exact R3
 clear hKK KK hHeld
 have hHeld := hHeld2
 clear hHeld2
 try simp only [Act.put, κa, κb, κc]
 refine wpAnyH_done (by kernel_rfl) ?_ _
 go_wp2
 go_ret
 exact ⟨rfl, M3.out, (((U0.out.trans V1.out).trans V2.out).trans V3.out)⟩
theorem plain_31 (d r : Nat) (f m : Int) (hd : d < 8) (hr : r < 8) (w : World) (a : LM K s w) (hc : 1 ≤ s.cnt ∧ s.cnt ≤ 64) (hn : s.ops.length + 60 < 1000000000) :
  Calls Tryz.prog 85 #[.pointer (some ⟨K.h, 0, none⟩), .agg #[.int .i64 31, .int .i64 d, .int .i64 r, .int .i64 f, .int .u32 m]] w fun e w' => e = .returned (.bool true) ∧ LM K (s.plain 31 d r f m).2 w' ∧ UW K w w' := by
 have HN := κ hn
 have HC := κ hc
 have HR := κ hr
 have HD := κ hd
 obtain ⟨p1, hp1⟩ : ∃ p, s.whr r m = p := ⟨_, rfl⟩
 have g1 : Gw 3 s p1.2 := by rw [← hp1]; exact whr_gw s _ _ 
 have G1 := κ g1
 clear g1
 obtain ⟨p2, hp2⟩ : ∃ p, p1.2.get d = p := ⟨_, rfl⟩
 have g2 : Gw 1 p1.2 p2.2 := by rw [← hp2]; exact get_gw p1.2 _ 
 have G2 := κ (G1.out.trans g2)
 clear g2
 obtain ⟨p3, hp3⟩ : ∃ p, p2.2.store f p1.1 p2.1 = p := ⟨_, rfl⟩
 have g3 : Gw 1 p2.2 p3 := by rw [← hp3]; exact store_gw p2.2 _ _ _ 
 have G3 := κ (G2.out.trans g3)
 clear g3
 obtain ⟨p4, hp4⟩ : ∃ p, p3.watch = p := ⟨_, rfl⟩
 have g4 : Gw 1 p3 p4 := by rw [← hp4]; exact watch_gw p3 
 have G4 := κ (G3.out.trans g4)
 clear g4
 have E : (s.plain 31 d r f m).2 = p4 := by
  unfold Lk.plain
  rw [if_neg (by decide), if_neg (by decide), if_neg (by decide), if_neg (by decide), if_neg (by decide), if_neg (by decide), if_neg (by decide), if_neg (by decide), if_neg (by decide), if_neg (by decide), if_neg (by decide), if_pos (by decide)]
  simp only [hp1, hp2, hp3, hp4, Int.reduceEq, ↓reduceIte]
 rw [E]
 clear E
 have A0 := κ (a.alloc (.cells #[.int .i64 31, .int .i64 d, .int .i64 r, .int .i64 f, .int .u32 m] 74))
 have B0 := κ (Bx.new a #[.int .i64 31, .int .i64 d, .int .i64 r, .int .i64 f, .int .u32 m] 74)
 have U0 := κ (UW.alloc a.l (.cells #[.int .i64 31, .int .i64 d, .int .i64 r, .int .i64 f, .int .u32 m] 74))
 have uI := Tryz.underlying74
 have iI : (Tryz.prog.info? 74).map (·.size) = some ([.int .i64 31, .int .i64 d, .int .i64 r, .int .i64 f, .int .u32 m] : List Value).length := by kernel_rfl
 clear a hn hc hd hr
 go_enter Tryz.func85, Tryz.ntmps85
 go_upto_region 1 with fail
 generalize w.alloc (.cells #[.int .i64 31, .int .i64 d, .int .i64 r, .int .i64 f, .int .u32 m] 74) = w0 at *
 generalize w.heap.size = bx at *
 have R0 := κ (RS.of B0.out A0.out (Gw.refl s))
 have x0_0 := B0.out.c 0 _ rfl
 have x1_0 := B0.out.c 1 _ rfl
 have x2_0 := B0.out.c 2 _ rfl
 have x3_0 := B0.out.c 3 _ rfl
 have x4_0 := B0.out.c 4 _ rfl
 have xl_0 := B0.out.l
 have y4_0 := R0.out.p
 have y5_0 := R0.out.x
 have y1_0 := R0.out.n
 have yl_0 := A0.out.l
 have P1 := whr_any (K := K) 31 d f m r HR.out w0.drew (A0.out.drew) (by have := HN.out; omega)
 rw [hp1] at P1
 have P1 := κ P1
 go_wp2
 have hf1 : ∀ w : World, (Instr.fieldAt 74 (.pointer (some ⟨bx, 0, none⟩)) 3).run Tryz.prog w = .ok (.pointer (some ⟨bx, 3, none⟩)) w := fun w => by go_simp
 have hl2 : ∀ w', RS K s bx #[.int .i64 31, .int .i64 d, .int .i64 r, .int .i64 f, .int .u32 m] w' → (Instr.loadAt 3 (.pointer (some ⟨bx, 3, none⟩))).run Tryz.prog w' = .ok (.int .i64 f) w' := fun w' h => by
  have hp := h.b.c 3 _ rfl
  have hq := h.b.l
  clear h
  go_simp
 have hf7 : ∀ w : World, (Instr.fieldAt 74 (.pointer (some ⟨bx, 0, none⟩)) 1).run Tryz.prog w = .ok (.pointer (some ⟨bx, 1, none⟩)) w := fun w => by go_simp
 have hl8 : ∀ w', RS K s bx #[.int .i64 31, .int .i64 d, .int .i64 r, .int .i64 f, .int .u32 m] w' → (Instr.loadAt 3 (.pointer (some ⟨bx, 1, none⟩))).run Tryz.prog w' = .ok (.int .i64 d) w' := fun w' h => by
  have hp := h.b.c 1 _ rfl
  have hq := h.b.l
  clear h
  go_simp
 refine wp_region_held_drew (S := RS K s bx #[.int .i64 31, .int .i64 d, .int .i64 r, .int .i64 f, .int .u32 m]) (by kernel_rfl) (R0.out).drew (fun hHeld => ?_)
 -- 0
 refine κw 0 152 (.pointer (some ⟨K.h, 0, none⟩)) rfl rfl (by kernel_rfl) (by kernel_rfl) (by kernel_rfl) (fun _ _ _ h => h) (Kt.yl_mov (by rfl) _ rfl _ rfl) hHeld ?_
 try simp only [Act.put, κa, κb, κc]
 -- 1
 refine κw 1 153 (.pointer (some ⟨bx, 3, none⟩)) rfl rfl (by kernel_rfl) (by kernel_rfl) (by kernel_rfl) (fun _ _ _ h => h) (Kt.yl_fld (by rfl) _ _ _ rfl _ _ rfl hf1) hHeld ?_
 try simp only [Act.put, κa, κb, κc]
 -- 2
 refine κw 2 154 (.int .i64 f) rfl rfl (by kernel_rfl) (by kernel_rfl) (by kernel_rfl) (fun _ _ _ h => h) (Kt.yl_ld (by rfl) _ _ rfl _ _ rfl hl2) hHeld ?_
 try simp only [Act.put, κa, κb, κc]
 -- 3
 refine κw 3 155 (.pointer (some ⟨K.h, 0, none⟩)) rfl rfl (by kernel_rfl) (by kernel_rfl) (by kernel_rfl) (fun _ _ _ h => h) (Kt.yl_mov (by rfl) _ rfl _ rfl) hHeld ?_
 try simp only [Act.put, κa, κb, κc]
 -- 4
 refine κw 4 156 (.agg #[.int .i64 31, .int .i64 d, .int .i64 r, .int .i64 f, .int .u32 m]) rfl rfl (by kernel_rfl) (by kernel_rfl) (by kernel_rfl) (fun _ _ _ h => h) (yieldsIf_load_mid (by rfl) _ _ rfl _ _ rfl _ _ (fun w h => h.b.rng) uI rfl iI) hHeld ?_
 try simp only [Act.put, κa, κb, κc]
 -- 6
 refine κw 6 158 (.pointer (some ⟨K.h, 0, none⟩)) rfl rfl (by kernel_rfl) (by kernel_rfl) (by kernel_rfl) (fun _ _ _ h => h) (Kt.yl_mov (by rfl) _ rfl _ rfl) hHeld ?_
 try simp only [Act.put, κa, κb, κc]
 -- 7
 refine κw 7 159 (.pointer (some ⟨bx, 1, none⟩)) rfl rfl (by kernel_rfl) (by kernel_rfl) (by kernel_rfl) (fun _ _ _ h => h) (Kt.yl_fld (by rfl) _ _ _ rfl _ _ rfl hf7) hHeld ?_
 try simp only [Act.put, κa, κb, κc]
 -- 8
 refine κw 8 160 (.int .i64 d) rfl rfl (by kernel_rfl) (by kernel_rfl) (by kernel_rfl) (fun _ _ _ h => h) (Kt.yl_ld (by rfl) _ _ rfl _ _ rfl hl8) hHeld ?_
 try simp only [Act.put, κa, κb, κc]
 -- 5
 refine wpAnyH_ready (rs := [5]) (by kernel_rfl) (by simp) ?_
 refine AllReadyH.cons rfl (fun KK hKK => ?_) AllReadyH.nil
 go_simp
 go_wp2_with (go_at_call 124; refine P1.out.mono ?_; rintro e w1 ⟨rfl, A1, U1⟩)
 have V1 := κ ((UW.drew (K := K) (W := w0) A0.out.l).trans U1)
 have B1 := κ (B0.out.uw V1.out)
 have M1 := κ A1
 have R1 := RS.of B1.out A1 G1.out
 have x0_1 := B1.out.c 0 _ rfl
 have x1_1 := B1.out.c 1 _ rfl
 have x2_1 := B1.out.c 2 _ rfl
 have x3_1 := B1.out.c 3 _ rfl
 have x4_1 := B1.out.c 4 _ rfl
 have xl_1 := B1.out.l
 have y4_1 := R1.p
 have y5_1 := R1.x
 have y1_1 := R1.n
 have yl_1 := A1.l
 have P2 := get_any (K := K) d HD.out w1 (A1) (by have := G1.out.n; have := HN.out; omega)
 rw [hp2] at P2
 have P2 := κ P2
 clear A1 U1 P1
 refine hKK.out _ _ ?_ (fun hHeld2 => ?_)
 ·exact R1
 clear hKK KK hHeld
 have hHeld := hHeld2
 clear hHeld2
 try simp only [Act.put, κa, κb, κc]
 -- 9
 refine wpAnyH_ready (rs := [9]) (by kernel_rfl) (by simp) ?_
 refine AllReadyH.cons rfl (fun KK hKK => ?_) AllReadyH.nil
 go_simp
 go_wp2_with (go_at_call 118; refine P2.out.mono ?_; rintro e w2 ⟨rfl, A1, U1⟩)
 have V2 := κ (U1)
 have B2 := κ (B1.out.uw V2.out)
 have M2 := κ A1
 have R2 := RS.of B2.out A1 G2.out
 have x0_2 := B2.out.c 0 _ rfl
 have x1_2 := B2.out.c 1 _ rfl
 have x2_2 := B2.out.c 2 _ rfl
 have x3_2 := B2.out.c 3 _ rfl
 have x4_2 := B2.out.c 4 _ rfl
 have xl_2 := B2.out.l
 have y4_2 := R2.p
 have y5_2 := R2.x
 have y1_2 := R2.n
 have yl_2 := A1.l
 have P3 := store_any (K := K) f p1.1 p2.1 w2 (A1) (by rw [G2.out.cnt]; exact HC.out) (by have := G2.out.n; have := HN.out; omega)
 rw [hp3] at P3
 have P3 := κ P3
 clear A1 U1 P2
 refine hKK.out _ _ ?_ (fun hHeld2 => ?_)
 ·exact R2
 clear hKK KK hHeld
 have hHeld := hHeld2
 clear hHeld2
 try simp only [Act.put, κa, κb, κc]
 -- 10
 refine wpAnyH_ready (rs := [10]) (by kernel_rfl) (by simp) ?_
 refine AllReadyH.cons rfl (fun KK hKK => ?_) AllReadyH.nil
 go_simp
 go_wp2_with (go_at_call 127; refine P3.out.mono ?_; rintro e w3 ⟨rfl, A1, U1⟩)
 have V3 := κ (U1)
 have B3 := κ (B2.out.uw V3.out)
 have M3 := κ A1
 have R3 := RS.of B3.out A1 G3.out
 have x0_3 := B3.out.c 0 _ rfl
 have x1_3 := B3.out.c 1 _ rfl
 have x2_3 := B3.out.c 2 _ rfl
 have x3_3 := B3.out.c 3 _ rfl
 have x4_3 := B3.out.c 4 _ rfl
 have xl_3 := B3.out.l
 have y4_3 := R3.p
 have y5_3 := R3.x
 have y1_3 := R3.n
 have yl_3 := A1.l
 have P4 := watch_any (K := K)  w3 (A1) (by rw [G3.out.cnt]; exact HC.out) (by have := G3.out.n; have := HN.out; omega)
 rw [hp4] at P4
 have P4 := κ P4
 clear A1 U1 P3
 refine hKK.out _ _ ?_ (fun hHeld2 => ?_)
 ·exact R3
 clear hKK KK hHeld
 have hHeld := hHeld2
 clear hHeld2
 try simp only [Act.put, κa, κb, κc]
 refine wpAnyH_done (by kernel_rfl) ?_ _
 go_wp2_with (first
  | (go_at_call 128; refine P4.out.mono ?_; rintro e w4 ⟨rfl, A1, U1⟩; have V4 := κ (U1); have B4 := κ (B3.out.uw V4.out); have M4 := κ A1; have R4 := RS.of B4.out A1 G4.out; have x0_4 := B4.out.c 0 _ rfl; have x1_4 := B4.out.c 1 _ rfl; have x2_4 := B4.out.c 2 _ rfl; have x3_4 := B4.out.c 3 _ rfl; have x4_4 := B4.out.c 4 _ rfl; have xl_4 := B4.out.l; have y4_4 := R4.p; have y5_4 := R4.x; have y1_4 := R4.n; have yl_4 := A1.l; clear A1 U1 P4))
 go_ret
 exact ⟨rfl, M4.out, ((((U0.out.trans V1.out).trans V2.out).trans V3.out).trans V4.out)⟩
theorem plain_24 (d r : Nat) (f m : Int) (hd : d < 8) (hr : r < 8) (w : World) (a : LM K s w) (hc : 1 ≤ s.cnt ∧ s.cnt ≤ 64) (hn : s.ops.length + 60 < 1000000000) :
  Calls Tryz.prog 85 #[.pointer (some ⟨K.h, 0, none⟩), .agg #[.int .i64 24, .int .i64 d, .int .i64 r, .int .i64 f, .int .u32 m]] w fun e w' => e = .returned (.bool true) ∧ LM K (s.plain 24 d r f m).2 w' ∧ UW K w w' := by
 have HN := κ hn
 have HC := κ hc
 have HR := κ hr
 have HD := κ hd
 obtain ⟨p1, hp1⟩ : ∃ p, s.both 24 d r m = p := ⟨_, rfl⟩
 have g1 : Gw 20 s p1 := by rw [← hp1]; exact both_gw s _ _ _ _ 
 have G1 := κ g1
 clear g1
 obtain ⟨p2, hp2⟩ : ∃ p, p1.watch = p := ⟨_, rfl⟩
 have g2 : Gw 1 p1 p2 := by rw [← hp2]; exact watch_gw p1 
 have G2 := κ (G1.out.trans g2)
 clear g2
 have E : (s.plain 24 d r f m).2 = p2 := by
  unfold Lk.plain
  rw [if_neg (by decide), if_neg (by decide), if_neg (by decide), if_neg (by decide), if_neg (by decide), if_neg (by decide), if_neg (by decide), if_neg (by decide), if_neg (by decide), if_neg (by decide), if_neg (by decide), if_neg (by decide), if_pos (by decide)]
  simp only [hp1, hp2, Int.reduceEq, ↓reduceIte]
 rw [E]
 clear E
 have A0 := κ (a.alloc (.cells #[.int .i64 24, .int .i64 d, .int .i64 r, .int .i64 f, .int .u32 m] 74))
 have B0 := κ (Bx.new a #[.int .i64 24, .int .i64 d, .int .i64 r, .int .i64 f, .int .u32 m] 74)
 have U0 := κ (UW.alloc a.l (.cells #[.int .i64 24, .int .i64 d, .int .i64 r, .int .i64 f, .int .u32 m] 74))
 have uI := Tryz.underlying74
 have iI : (Tryz.prog.info? 74).map (·.size) = some ([.int .i64 24, .int .i64 d, .int .i64 r, .int .i64 f, .int .u32 m] : List Value).length := by kernel_rfl
 clear a hn hc hd hr
 go_enter Tryz.func85, Tryz.ntmps85
 go_upto_region 1 with fail
 generalize w.alloc (.cells #[.int .i64 24, .int .i64 d, .int .i64 r, .int .i64 f, .int .u32 m] 74) = w0 at *
 generalize w.heap.size = bx at *
 have R0 := κ (RS.of B0.out A0.out (Gw.refl s))
 have x0_0 := B0.out.c 0 _ rfl
 have x1_0 := B0.out.c 1 _ rfl
 have x2_0 := B0.out.c 2 _ rfl
 have x3_0 := B0.out.c 3 _ rfl
 have x4_0 := B0.out.c 4 _ rfl
 have xl_0 := B0.out.l
 have y4_0 := R0.out.p
 have y5_0 := R0.out.x
 have y1_0 := R0.out.n
 have yl_0 := A0.out.l
 have P1 := both_24 (K := K) d r f m HD.out HR.out w0 (A0.out) HC.out (by have := HN.out; omega)
 rw [hp1] at P1
 have P1 := κ P1
 go_wp2_with (first
  | (go_at_call 129; refine P1.out.mono ?_; rintro e w1 ⟨rfl, A1, U1⟩; have V1 := κ (U1); have B1 := κ (B0.out.uw V1.out); have M1 := κ A1; have R1 := RS.of B1.out A1 G1.out; have x0_1 := B1.out.c 0 _ rfl; have x1_1 := B1.out.c 1 _ rfl; have x2_1 := B1.out.c 2 _ rfl; have x3_1 := B1.out.c 3 _ rfl; have x4_1 := B1.out.c 4 _ rfl; have xl_1 := B1.out.l; have y4_1 := R1.p; have y5_1 := R1.x; have y1_1 := R1.n; have yl_1 := A1.l; have P2 := watch_any (K := K)  w1 (A1) (by rw [G1.out.cnt]; exact HC.out) (by have := G1.out.n; have := HN.out; omega); rw [hp2] at P2; have P2 := κ P2; clear A1 U1 P1)
  | (go_at_call 128; refine P2.out.mono ?_; rintro e w2 ⟨rfl, A1, U1⟩; have V2 := κ (U1); have B2 := κ (B1.out.uw V2.out); have M2 := κ A1; have R2 := RS.of B2.out A1 G2.out; have x0_2 := B2.out.c 0 _ rfl; have x1_2 := B2.out.c 1 _ rfl; have x2_2 := B2.out.c 2 _ rfl; have x3_2 := B2.out.c 3 _ rfl; have x4_2 := B2.out.c 4 _ rfl; have xl_2 := B2.out.l; have y4_2 := R2.p; have y5_2 := R2.x; have y1_2 := R2.n; have yl_2 := A1.l; clear A1 U1 P2))
 go_ret
 exact ⟨rfl, M2.out, ((U0.out.trans V1.out).trans V2.out)⟩
theorem plain_25 (d r : Nat) (f m : Int) (hd : d < 8) (hr : r < 8) (w : World) (a : LM K s w) (hc : 1 ≤ s.cnt ∧ s.cnt ≤ 64) (hn : s.ops.length + 60 < 1000000000) :
  Calls Tryz.prog 85 #[.pointer (some ⟨K.h, 0, none⟩), .agg #[.int .i64 25, .int .i64 d, .int .i64 r, .int .i64 f, .int .u32 m]] w fun e w' => e = .returned (.bool true) ∧ LM K (s.plain 25 d r f m).2 w' ∧ UW K w w' := by
 have HN := κ hn
 have HC := κ hc
 have HR := κ hr
 have HD := κ hd
 obtain ⟨p1, hp1⟩ : ∃ p, s.both 25 d r m = p := ⟨_, rfl⟩
 have g1 : Gw 20 s p1 := by rw [← hp1]; exact both_gw s _ _ _ _ 
 have G1 := κ g1
 clear g1
 obtain ⟨p2, hp2⟩ : ∃ p, p1.watch = p := ⟨_, rfl⟩
 have g2 : Gw 1 p1 p2 := by rw [← hp2]; exact watch_gw p1 
 have G2 := κ (G1.out.trans g2)
 clear g2
 have E : (s.plain 25 d r f m).2 = p2 := by
  unfold Lk.plain
  rw [if_neg (by decide), if_neg (by decide), if_neg (by decide), if_neg (by decide), if_neg (by decide), if_neg (by decide), if_neg (by decide), if_neg (by decide), if_neg (by decide), if_neg (by decide), if_neg (by decide), if_neg (by decide), if_pos (by decide)]
  simp only [hp1, hp2, Int.reduceEq, ↓reduceIte]
 rw [E]
 clear E
 have A0 := κ (a.alloc (.cells #[.int .i64 25, .int .i64 d, .int .i64 r, .int .i64 f, .int .u32 m] 74))
 have B0 := κ (Bx.new a #[.int .i64 25, .int .i64 d, .int .i64 r, .int .i64 f, .int .u32 m] 74)
 have U0 := κ (UW.alloc a.l (.cells #[.int .i64 25, .int .i64 d, .int .i64 r, .int .i64 f, .int .u32 m] 74))
 have uI := Tryz.underlying74
 have iI : (Tryz.prog.info? 74).map (·.size) = some ([.int .i64 25, .int .i64 d, .int .i64 r, .int .i64 f, .int .u32 m] : List Value).length := by kernel_rfl
 clear a hn hc hd hr
 go_enter Tryz.func85, Tryz.ntmps85
 go_upto_region 1 with fail
 generalize w.alloc (.cells #[.int .i64 25, .int .i64 d, .int .i64 r, .int .i64 f, .int .u32 m] 74) = w0 at *
 generalize w.heap.size = bx at *
 have R0 := κ (RS.of B0.out A0.out (Gw.refl s))
 have x0_0 := B0.out.c 0 _ rfl
 have x1_0 := B0.out.c 1 _ rfl
 have x2_0 := B0.out.c 2 _ rfl
 have x3_0 := B0.out.c 3 _ rfl
 have x4_0 := B0.out.c 4 _ rfl
 have xl_0 := B0.out.l
 have y4_0 := R0.out.p
 have y5_0 := R0.out.x
 have y1_0 := R0.out.n
 have yl_0 := A0.out.l
 have P1 := both_25 (K := K) d r f m HD.out HR.out w0 (A0.out) HC.out (by have := HN.out; omega)
 rw [hp1] at P1
 have P1 := κ P1
 go_wp2_with (first
  | (go_at_call 129; refine P1.out.mono ?_; rintro e w1 ⟨rfl, A1, U1⟩; have V1 := κ (U1); have B1 := κ (B0.out.uw V1.out); have M1 := κ A1; have R1 := RS.of B1.out A1 G1.out; have x0_1 := B1.out.c 0 _ rfl; have x1_1 := B1.out.c 1 _ rfl; have x2_1 := B1.out.c 2 _ rfl; have x3_1 := B1.out.c 3 _ rfl; have x4_1 := B1.out.c 4 _ rfl; have xl_1 := B1.out.l; have y4_1 := R1.p; have y5_1 := R1.x; have y1_1 := R1.n; have yl_1 := A1.l; have P2 := watch_any (K := K)  w1 (A1) (by rw [G1.out.cnt]; exact HC.out) (by have := G1.out.n; have := HN.out; omega); rw [hp2] at P2; have P2 := κ P2; clear A1 U1 P1)
  | (go_at_call 128; refine P2.out.mono ?_; rintro e w2 ⟨rfl, A1, U1⟩; have V2 := κ (U1); have B2 := κ (B1.out.uw V2.out); have M2 := κ A1; have R2 := RS.of B2.out A1 G2.out; have x0_2 := B2.out.c 0 _ rfl; have x1_2 := B2.out.c 1 _ rfl; have x2_2 := B2.out.c 2 _ rfl; have x3_2 := B2.out.c 3 _ rfl; have x4_2 := B2.out.c 4 _ rfl; have xl_2 := B2.out.l; have y4_2 := R2.p; have y5_2 := R2.x; have y1_2 := R2.n; have yl_2 := A1.l; clear A1 U1 P2))
 go_ret
 exact ⟨rfl, M2.out, ((U0.out.trans V1.out).trans V2.out)⟩
theorem plain_26 (d r : Nat) (f m : Int) (hd : d < 8) (hr : r < 8) (w : World) (a : LM K s w) (hc : 1 ≤ s.cnt ∧ s.cnt ≤ 64) (hn : s.ops.length + 60 < 1000000000) :
  Calls Tryz.prog 85 #[.pointer (some ⟨K.h, 0, none⟩), .agg #[.int .i64 26, .int .i64 d, .int .i64 r, .int .i64 f, .int .u32 m]] w fun e w' => e = .returned (.bool true) ∧ LM K (s.plain 26 d r f m).2 w' ∧ UW K w w' := by
 have HN := κ hn
 have HC := κ hc
 have HR := κ hr
 have HD := κ hd
 obtain ⟨p1, hp1⟩ : ∃ p, s.both 26 d r m = p := ⟨_, rfl⟩
 have g1 : Gw 20 s p1 := by rw [← hp1]; exact both_gw s _ _ _ _ 
 have G1 := κ g1
 clear g1
 obtain ⟨p2, hp2⟩ : ∃ p, p1.watch = p := ⟨_, rfl⟩
 have g2 : Gw 1 p1 p2 := by rw [← hp2]; exact watch_gw p1 
 have G2 := κ (G1.out.trans g2)
 clear g2
 have E : (s.plain 26 d r f m).2 = p2 := by
  unfold Lk.plain
  rw [if_neg (by decide), if_neg (by decide), if_neg (by decide), if_neg (by decide), if_neg (by decide), if_neg (by decide), if_neg (by decide), if_neg (by decide), if_neg (by decide), if_neg (by decide), if_neg (by decide), if_neg (by decide), if_pos (by decide)]
  simp only [hp1, hp2, Int.reduceEq, ↓reduceIte]
 rw [E]
 clear E
 have A0 := κ (a.alloc (.cells #[.int .i64 26, .int .i64 d, .int .i64 r, .int .i64 f, .int .u32 m] 74))
 have B0 := κ (Bx.new a #[.int .i64 26, .int .i64 d, .int .i64 r, .int .i64 f, .int .u32 m] 74)
 have U0 := κ (UW.alloc a.l (.cells #[.int .i64 26, .int .i64 d, .int .i64 r, .int .i64 f, .int .u32 m] 74))
 have uI := Tryz.underlying74
 have iI : (Tryz.prog.info? 74).map (·.size) = some ([.int .i64 26, .int .i64 d, .int .i64 r, .int .i64 f, .int .u32 m] : List Value).length := by kernel_rfl
 clear a hn hc hd hr
 go_enter Tryz.func85, Tryz.ntmps85
 go_upto_region 1 with fail
 generalize w.alloc (.cells #[.int .i64 26, .int .i64 d, .int .i64 r, .int .i64 f, .int .u32 m] 74) = w0 at *
 generalize w.heap.size = bx at *
 have R0 := κ (RS.of B0.out A0.out (Gw.refl s))
 have x0_0 := B0.out.c 0 _ rfl
 have x1_0 := B0.out.c 1 _ rfl
 have x2_0 := B0.out.c 2 _ rfl
 have x3_0 := B0.out.c 3 _ rfl
 have x4_0 := B0.out.c 4 _ rfl
 have xl_0 := B0.out.l
 have y4_0 := R0.out.p
 have y5_0 := R0.out.x
 have y1_0 := R0.out.n
 have yl_0 := A0.out.l
 have P1 := both_26 (K := K) d r f m HD.out HR.out w0 (A0.out) HC.out (by have := HN.out; omega)
 rw [hp1] at P1
 have P1 := κ P1
 go_wp2_with (first
  | (go_at_call 129; refine P1.out.mono ?_; rintro e w1 ⟨rfl, A1, U1⟩; have V1 := κ (U1); have B1 := κ (B0.out.uw V1.out); have M1 := κ A1; have R1 := RS.of B1.out A1 G1.out; have x0_1 := B1.out.c 0 _ rfl; have x1_1 := B1.out.c 1 _ rfl; have x2_1 := B1.out.c 2 _ rfl; have x3_1 := B1.out.c 3 _ rfl; have x4_1 := B1.out.c 4 _ rfl; have xl_1 := B1.out.l; have y4_1 := R1.p; have y5_1 := R1.x; have y1_1 := R1.n; have yl_1 := A1.l; have P2 := watch_any (K := K)  w1 (A1) (by rw [G1.out.cnt]; exact HC.out) (by have := G1.out.n; have := HN.out; omega); rw [hp2] at P2; have P2 := κ P2; clear A1 U1 P1)
  | (go_at_call 128; refine P2.out.mono ?_; rintro e w2 ⟨rfl, A1, U1⟩; have V2 := κ (U1); have B2 := κ (B1.out.uw V2.out); have M2 := κ A1; have R2 := RS.of B2.out A1 G2.out; have x0_2 := B2.out.c 0 _ rfl; have x1_2 := B2.out.c 1 _ rfl; have x2_2 := B2.out.c 2 _ rfl; have x3_2 := B2.out.c 3 _ rfl; have x4_2 := B2.out.c 4 _ rfl; have xl_2 := B2.out.l; have y4_2 := R2.p; have y5_2 := R2.x; have y1_2 := R2.n; have yl_2 := A1.l; clear A1 U1 P2))
 go_ret
 exact ⟨rfl, M2.out, ((U0.out.trans V1.out).trans V2.out)⟩
end Go.Proofs.YtcjcmnnhmajocabGreat.Lf
