/- lift: both. -/
import Derived.Test.YtcjcmnnhmajocabGreatPlay
set_option linter.unusedVariables false
set_option linter.unusedSimpArgs false
set_option maxRecDepth 100000
set_option maxHeartbeats 16000000
namespace Go.Proofs.YtcjcmnnhmajocabGreat.Lf
open Go.RowKit Kt Ic Me
open Ot (OwnO OB)
variable {K : Kc} {s : Lk} {W W' : World} {B : Nat}
/-- what a call's loads read: the instruction's box, the maker's place and count -/
structure RS (K : Kc) (s : Lk) (b : Nat) (cs : Array Value) (W : World) : Prop where
 b : Bx K b cs W
 p : W.cell? ⟨K.h, 4, none⟩ = some (.int .u32 s.pc)
 x : W.cell? ⟨K.h, 5, none⟩ = some (.int .u32 s.nx)
 n : W.cell? ⟨K.h, 1, none⟩ = some (.int .i64 s.cnt)
theorem RS.of {s s' : Lk} {b c : Nat} {cs : Array Value} {W : World} (h : Bx K b cs W) (a : LM K s' W) (g : Gw c s s') : RS K s b cs W :=
 ⟨h, g.pc ▸ a.c 4 (by decide) (by decide), g.nx ▸ a.c 5 (by decide) (by decide), g.cnt ▸ a.c 1 (by decide) (by decide)⟩
theorem RS.drew {b : Nat} {cs : Array Value} {W : World} (h : RS K s b cs W) : RS K s b cs W.drew :=
 ⟨⟨h.b.l, h.b.c, h.b.z, fun e => h.b.n e⟩, h.p, h.x, h.n⟩
theorem Bx.rng {b : Nat} {v0 v1 v2 v3 v4 : Value} {W : World} (h : Bx K b #[v0, v1, v2, v3, v4] W) : W.rangeAt b 0 [v0, v1, v2, v3, v4] := fun i v hi => by
 rw [Nat.zero_add]
 refine h.c i v ?_
 rw [← hi]
 simp
theorem both_gw (s : Lk) (o : Int) (d r : Nat) (m : Int) : Gw 20 s (s.both o d r m) := by
 unfold Lk.both
 dsimp only
 have h := ((whr_gw s r m).trans (get_gw _ d)).trans (load_gw _ 4 (s.whr r m).1)
 split
 ·exact ((h.trans (store_gw _ _ _ _)).trans (set_gw _ _ _)).mono (by decide)
 ·split
  ·exact ((((h.trans (B_gw _ _ _ _)).trans (store_gw _ _ _ _)).trans (set_gw _ _ _)).trans (flag_gw _ _ _ _ _)).mono (by decide)
  ·exact ((((((h.trans (get_gw _ _)).trans (B_gw _ _ _ _)).trans (S_gw _ _ _ _)).trans (store_gw _ _ _ _)).trans (set_gw _ _ _)).trans (flag_gw _ _ _ _ _)).mono (by decide)
theorem both_24 (d r : Nat) (f m : Int) (hd : d < 8) (hr : r < 8) (w : World) (a : LM K s w) (hc : 1 ≤ s.cnt ∧ s.cnt ≤ 64) (hn : s.ops.length + 60 < 1000000000) :
  Calls Tryz.prog 129 #[.pointer (some ⟨K.h, 0, none⟩), .agg #[.int .i64 24, .int .i64 d, .int .i64 r, .int .i64 f, .int .u32 m]] w fun e w' => e = .returned (.tuple #[]) ∧ LM K (s.both 24 d r m) w' ∧ UW K w w' := by
 have HN := κ hn
 have HC := κ hc
 have HR := κ hr
 have HD := κ hd
 obtain ⟨p1, hp1⟩ : ∃ p, s.whr r m = p := ⟨_, rfl⟩
 have g1 : Gw 3 s p1.2 := by rw [← hp1]; exact whr_gw s _ _ 
 have G1 := κ g1
 clear g1
 obtain ⟨p2, hp2⟩ : ∃ p, p1.2.get d = p := ⟨_, rfl⟩
 have g2 : Gw 1 p1.2 p2.2 := by rw [← hp2]; exact get_gw p1.2 _ 
 have G2 := κ (G1.out.trans g2)
 clear g2
 obtain ⟨p3, hp3⟩ : ∃ p, p2.2.load 4 p1.1 = p := ⟨_, rfl⟩
 have g3 : Gw 1 p2.2 p3.2 := by rw [← hp3]; exact load_gw p2.2 _ _ 
 have G3 := κ (G2.out.trans g3)
 clear g3
 obtain ⟨p4, hp4⟩ : ∃ p, p3.2.store 2 p1.1 p2.1 = p := ⟨_, rfl⟩
 have g4 : Gw 1 p3.2 p4 := by rw [← hp4]; exact store_gw p3.2 _ _ _ 
 have G4 := κ (G3.out.trans g4)
 clear g4
 obtain ⟨p5, hp5⟩ : ∃ p, p4.set d p3.1 = p := ⟨_, rfl⟩
 have g5 : Gw 1 p4 p5 := by rw [← hp5]; exact set_gw p4 _ _ 
 have G5 := κ (G4.out.trans g5)
 clear g5
 have E : s.both 24 d r m = p5 := by
  unfold Lk.both
  rw [if_pos (by decide)]
  simp only [hp1, hp2, hp3, hp4, hp5]
 rw [E]
 clear E
 have A0 := κ (a.alloc (.cells #[.int .i64 24, .int .i64 d, .int .i64 r, .int .i64 f, .int .u32 m] 74))
 have B0 := κ (Bx.new a #[.int .i64 24, .int .i64 d, .int .i64 r, .int .i64 f, .int .u32 m] 74)
 have U0 := κ (UW.alloc a.l (.cells #[.int .i64 24, .int .i64 d, .int .i64 r, .int .i64 f, .int .u32 m] 74))
 have uI := Tryz.underlying74
 have iI : (Tryz.prog.info? 74).map (·.size) = some ([.int .i64 24, .int .i64 d, .int .i64 r, .int .i64 f, .int .u32 m] : List Value).length := by kernel_rfl
 clear a hn hc hd hr
 go_enter Tryz.func129, Tryz.ntmps129
 go_upto_region 1 with fail
 generalize w.alloc (.cells #[.int .i64 24, .int .i64 d, .int .i64 r, .int .i64 f, .int .u32 m] 74) = w0 at *
 generalize w.heap.size = bx at *
 have R0 := κ (RS.of B0.out A0.out (Gw.refl s))
 have x0_0 := B0.out.c 0 _ rfl
 have x1_0 := B0.out.c 1 _ rfl
 have x2_0 := B0.out.c 2 _ rfl
 have x3_0 := B0.out.c 3 _ rfl
 have x4_0 := B0.out.c 4 _ rfl
 have xl_0 := B0.out.l
 have y4_0 := R0.out.p
 have y5_0 := R0.out.x
 have y1_0 := R0.out.n
 have yl_0 := A0.out.l
 have P1 := whr_any (K := K) 24 d f m r HR.out w0.drew (A0.out.drew) (by have := HN.out; omega)
 rw [hp1] at P1
 have P1 := κ P1
 go_wp2
 have hf4 : ∀ w : World, (Instr.fieldAt 74 (.pointer (some ⟨bx, 0, none⟩)) 1).run Tryz.prog w = .ok (.pointer (some ⟨bx, 1, none⟩)) w := fun w => by go_simp
 have hl5 : ∀ w', RS K s bx #[.int .i64 24, .int .i64 d, .int .i64 r, .int .i64 f, .int .u32 m] w' → (Instr.loadAt 3 (.pointer (some ⟨bx, 1, none⟩))).run Tryz.prog w' = .ok (.int .i64 d) w' := fun w' h => by
  have hp := h.b.c 1 _ rfl
  have hq := h.b.l
  clear h
  go_simp
 refine wp_region_held_drew (S := RS K s bx #[.int .i64 24, .int .i64 d, .int .i64 r, .int .i64 f, .int .u32 m]) (by kernel_rfl) (R0.out).drew (fun hHeld => ?_)
 -- 0
 refine κw 0 8 (.pointer (some ⟨K.h, 0, none⟩)) rfl rfl (by kernel_rfl) (by kernel_rfl) (by kernel_rfl) (fun _ _ _ h => h) (Kt.yl_mov (by rfl) _ rfl _ rfl) hHeld ?_
 try simp only [Act.put, κa, κb, κc]
 -- 1
 refine κw 1 9 (.agg #[.int .i64 24, .int .i64 d, .int .i64 r, .int .i64 f, .int .u32 m]) rfl rfl (by kernel_rfl) (by kernel_rfl) (by kernel_rfl) (fun _ _ _ h => h) (yieldsIf_load_mid (by rfl) _ _ rfl _ _ rfl _ _ (fun w h => h.b.rng) uI rfl iI) hHeld ?_
 try simp only [Act.put, κa, κb, κc]
 -- 3
 refine κw 3 11 (.pointer (some ⟨K.h, 0, none⟩)) rfl rfl (by kernel_rfl) (by kernel_rfl) (by kernel_rfl) (fun _ _ _ h => h) (Kt.yl_mov (by rfl) _ rfl _ rfl) hHeld ?_
 try simp only [Act.put, κa, κb, κc]
 -- 4
 refine κw 4 12 (.pointer (some ⟨bx, 1, none⟩)) rfl rfl (by kernel_rfl) (by kernel_rfl) (by kernel_rfl) (fun _ _ _ h => h) (Kt.yl_fld (by rfl) _ _ _ rfl _ _ rfl hf4) hHeld ?_
 try simp only [Act.put, κa, κb, κc]
 -- 5
 refine κw 5 13 (.int .i64 d) rfl rfl (by kernel_rfl) (by kernel_rfl) (by kernel_rfl) (fun _ _ _ h => h) (Kt.yl_ld (by rfl) _ _ rfl _ _ rfl hl5) hHeld ?_
 try simp only [Act.put, κa, κb, κc]
 -- 2
 refine wpAnyH_ready (rs := [2]) (by kernel_rfl) (by simp) ?_
 refine AllReadyH.cons rfl (fun KK hKK => ?_) AllReadyH.nil
 go_simp
 go_wp2_with (go_at_call 124; refine P1.out.mono ?_; rintro e w1 ⟨rfl, A1, U1⟩)
 have V1 := κ ((UW.drew (K := K) (W := w0) A0.out.l).trans U1)
 have B1 := κ (B0.out.uw V1.out)
 have M1 := κ A1
 have R1 := RS.of B1.out A1 G1.out
 have x0_1 := B1.out.c 0 _ rfl
 have x1_1 := B1.out.c 1 _ rfl
 have x2_1 := B1.out.c 2 _ rfl
 have x3_1 := B1.out.c 3 _ rfl
 have x4_1 := B1.out.c 4 _ rfl
 have xl_1 := B1.out.l
 have y4_1 := R1.p
 have y5_1 := R1.x
 have y1_1 := R1.n
 have yl_1 := A1.l
 have P2 := get_any (K := K) d HD.out w1 (A1) (by have := G1.out.n; have := HN.out; omega)
 rw [hp2] at P2
 have P2 := κ P2
 clear A1 U1 P1
 refine hKK.out _ _ ?_ (fun hHeld2 => ?_)
 ·exact R1
 clear hKK KK hHeld
 have hHeld := hHeld2
 clear hHeld2
 try simp only [Act.put, κa, κb, κc]
 -- 6
 refine wpAnyH_ready (rs := [6]) (by kernel_rfl) (by simp) ?_
 refine AllReadyH.cons rfl (fun KK hKK => ?_) AllReadyH.nil
 go_simp
 go_wp2_with (go_at_call 118; refine P2.out.mono ?_; rintro e w2 ⟨rfl, A1, U1⟩)
 have V2 := κ (U1)
 have B2 := κ (B1.out.uw V2.out)
 have M2 := κ A1
 have R2 := RS.of B2.out A1 G2.out
 have x0_2 := B2.out.c 0 _ rfl
 have x1_2 := B2.out.c 1 _ rfl
 have x2_2 := B2.out.c 2 _ rfl
 have x3_2 := B2.out.c 3 _ rfl
 have x4_2 := B2.out.c 4 _ rfl
 have xl_2 := B2.out.l
 have y4_2 := R2.p
 have y5_2 := R2.x
 have y1_2 := R2.n
 have yl_2 := A1.l
 have P3 := load_any (K := K) 4 p1.1 w2 (A1) (by rw [G2.out.cnt]; exact HC.out) (by have := G2.out.n; have := HN.out; omega)
 rw [hp3] at P3
 have P3 := κ P3
 clear A1 U1 P2
 refine hKK.out _ _ ?_ (fun hHeld2 => ?_)
 ·exact R2
 clear hKK KK hHeld
 have hHeld := hHeld2
 clear hHeld2
 try simp only [Act.put, κa, κb, κc]
 -- 7
 refine κw 7 4 (.int .i64 p1.1) rfl rfl (by kernel_rfl) (by kernel_rfl) (by kernel_rfl) (fun _ _ _ h => h) (Kt.yl_asg (by rfl) _ rfl _ rfl) hHeld ?_
 try simp only [Act.put, κa, κb, κc]
 -- 8
 refine κw 8 5 (.int .i64 p2.1) rfl rfl (by kernel_rfl) (by kernel_rfl) (by kernel_rfl) (fun _ _ _ h => h) (Kt.yl_asg (by rfl) _ rfl _ rfl) hHeld ?_
 try simp only [Act.put, κa, κb, κc]
 refine wpAnyH_done (by kernel_rfl) ?_ _
 go_wp2_with (first
  | (go_at_call 126; refine P3.out.mono ?_; rintro e w3 ⟨rfl, A1, U1⟩; have V3 := κ (U1); have B3 := κ (B2.out.uw V3.out); have M3 := κ A1; have R3 := RS.of B3.out A1 G3.out; have x0_3 := B3.out.c 0 _ rfl; have x1_3 := B3.out.c 1 _ rfl; have x2_3 := B3.out.c 2 _ rfl; have x3_3 := B3.out.c 3 _ rfl; have x4_3 := B3.out.c 4 _ rfl; have xl_3 := B3.out.l; have y4_3 := R3.p; have y5_3 := R3.x; have y1_3 := R3.n; have yl_3 := A1.l; have P4 := store_any (K := K) 2 p1.1 p2.1 w3 (A1) (by rw [G3.out.cnt]; exact HC.out) (by have := G3.out.n; have := HN.out; omega); rw [hp4] at P4; have P4 := κ P4; clear A1 U1 P3)
  | (go_at_call 127; refine P4.out.mono ?_; rintro e w4 ⟨rfl, A1, U1⟩; have V4 := κ (U1); have B4 := κ (B3.out.uw V4.out); have M4 := κ A1; have R4 := RS.of B4.out A1 G4.out; have x0_4 := B4.out.c 0 _ rfl; have x1_4 := B4.out.c 1 _ rfl; have x2_4 := B4.out.c 2 _ rfl; have x3_4 := B4.out.c 3 _ rfl; have x4_4 := B4.out.c 4 _ rfl; have xl_4 := B4.out.l; have y4_4 := R4.p; have y5_4 := R4.x; have y1_4 := R4.n; have yl_4 := A1.l; have P5 := set_any (K := K) d p3.1 HD.out w4 (A1) (by have := G4.out.n; have := HN.out; omega); rw [hp5] at P5; have P5 := κ P5; clear A1 U1 P4)
  | (go_at_call 116; refine P5.out.mono ?_; rintro e w5 ⟨rfl, A1, U1⟩; have V5 := κ (U1); have B5 := κ (B4.out.uw V5.out); have M5 := κ A1; have R5 := RS.of B5.out A1 G5.out; have x0_5 := B5.out.c 0 _ rfl; have x1_5 := B5.out.c 1 _ rfl; have x2_5 := B5.out.c 2 _ rfl; have x3_5 := B5.out.c 3 _ rfl; have x4_5 := B5.out.c 4 _ rfl; have xl_5 := B5.out.l; have y4_5 := R5.p; have y5_5 := R5.x; have y1_5 := R5.n; have yl_5 := A1.l; clear A1 U1 P5))
 go_end0
 exact ⟨rfl, M5.out, (((((U0.out.trans V1.out).trans V2.out).trans V3.out).trans V4.out).trans V5.out)⟩
theorem both_25 (d r : Nat) (f m : Int) (hd : d < 8) (hr : r < 8) (w : World) (a : LM K s w) (hc : 1 ≤ s.cnt ∧ s.cnt ≤ 64) (hn : s.ops.length + 60 < 1000000000) :
  Calls Tryz.prog 129 #[.pointer (some ⟨K.h, 0, none⟩), .agg #[.int .i64 25, .int .i64 d, .int .i64 r, .int .i64 f, .int .u32 m]] w fun e w' => e = .returned (.tuple #[]) ∧ LM K (s.both 25 d r m) w' ∧ UW K w w' := by
 have HN := κ hn
 have HC := κ hc
 have HR := κ hr
 have HD := κ hd
 obtain ⟨p1, hp1⟩ : ∃ p, s.whr r m = p := ⟨_, rfl⟩
 have g1 : Gw 3 s p1.2 := by rw [← hp1]; exact whr_gw s _ _ 
 have G1 := κ g1
 clear g1
 obtain ⟨p2, hp2⟩ : ∃ p, p1.2.get d = p := ⟨_, rfl⟩
 have g2 : Gw 1 p1.2 p2.2 := by rw [← hp2]; exact get_gw p1.2 _ 
 have G2 := κ (G1.out.trans g2)
 clear g2
 obtain ⟨p3, hp3⟩ : ∃ p, p2.2.load 4 p1.1 = p := ⟨_, rfl⟩
 have g3 : Gw 1 p2.2 p3.2 := by rw [← hp3]; exact load_gw p2.2 _ _ 
 have G3 := κ (G2.out.trans g3)
 clear g3
 obtain ⟨p4, hp4⟩ : ∃ p, p3.2.B 0 p3.1 p2.1 = p := ⟨_, rfl⟩
 have g4 : Gw 1 p3.2 p4.2 := by rw [← hp4]; exact B_gw p3.2 _ _ _ 
 have G4 := κ (G3.out.trans g4)
 clear g4
 obtain ⟨p5, hp5⟩ : ∃ p, p4.2.store 2 p1.1 p4.1 = p := ⟨_, rfl⟩
 have g5 : Gw 1 p4.2 p5 := by rw [← hp5]; exact store_gw p4.2 _ _ _ 
 have G5 := κ (G4.out.trans g5)
 clear g5
 obtain ⟨p6, hp6⟩ : ∃ p, p5.set d p3.1 = p := ⟨_, rfl⟩
 have g6 : Gw 1 p5 p6 := by rw [← hp6]; exact set_gw p5 _ _ 
 have G6 := κ (G5.out.trans g6)
 clear g6
 obtain ⟨p7, hp7⟩ : ∃ p, p6.flag 1 p3.1 p2.1 (-1) = p := ⟨_, rfl⟩
 have g7 : Gw 5 p6 p7 := by rw [← hp7]; exact flag_gw p6 _ _ _ _ 
 have G7 := κ (G6.out.trans g7)
 clear g7
 have E : s.both 25 d r m = p7 := by
  unfold Lk.both
  rw [if_neg (by decide), if_pos (by decide)]
  simp only [hp1, hp2, hp3, hp4, hp5, hp6, hp7]
 rw [E]
 clear E
 have A0 := κ (a.alloc (.cells #[.int .i64 25, .int .i64 d, .int .i64 r, .int .i64 f, .int .u32 m] 74))
 have B0 := κ (Bx.new a #[.int .i64 25, .int .i64 d, .int .i64 r, .int .i64 f, .int .u32 m] 74)
 have U0 := κ (UW.alloc a.l (.cells #[.int .i64 25, .int .i64 d, .int .i64 r, .int .i64 f, .int .u32 m] 74))
 have uI := Tryz.underlying74
 have iI : (Tryz.prog.info? 74).map (·.size) = some ([.int .i64 25, .int .i64 d, .int .i64 r, .int .i64 f, .int .u32 m] : List Value).length := by kernel_rfl
 clear a hn hc hd hr
 go_enter Tryz.func129, Tryz.ntmps129
 go_upto_region 1 with fail
 generalize w.alloc (.cells #[.int .i64 25, .int .i64 d, .int .i64 r, .int .i64 f, .int .u32 m] 74) = w0 at *
 generalize w.heap.size = bx at *
 have R0 := κ (RS.of B0.out A0.out (Gw.refl s))
 have x0_0 := B0.out.c 0 _ rfl
 have x1_0 := B0.out.c 1 _ rfl
 have x2_0 := B0.out.c 2 _ rfl
 have x3_0 := B0.out.c 3 _ rfl
 have x4_0 := B0.out.c 4 _ rfl
 have xl_0 := B0.out.l
 have y4_0 := R0.out.p
 have y5_0 := R0.out.x
 have y1_0 := R0.out.n
 have yl_0 := A0.out.l
 have P1 := whr_any (K := K) 25 d f m r HR.out w0.drew (A0.out.drew) (by have := HN.out; omega)
 rw [hp1] at P1
 have P1 := κ P1
 go_wp2
 have hf4 : ∀ w : World, (Instr.fieldAt 74 (.pointer (some ⟨bx, 0, none⟩)) 1).run Tryz.prog w = .ok (.pointer (some ⟨bx, 1, none⟩)) w := fun w => by go_simp
 have hl5 : ∀ w', RS K s bx #[.int .i64 25, .int .i64 d, .int .i64 r, .int .i64 f, .int .u32 m] w' → (Instr.loadAt 3 (.pointer (some ⟨bx, 1, none⟩))).run Tryz.prog w' = .ok (.int .i64 d) w' := fun w' h => by
  have hp := h.b.c 1 _ rfl
  have hq := h.b.l
  clear h
  go_simp
 refine wp_region_held_drew (S := RS K s bx #[.int .i64 25, .int .i64 d, .int .i64 r, .int .i64 f, .int .u32 m]) (by kernel_rfl) (R0.out).drew (fun hHeld => ?_)
 -- 0
 refine κw 0 8 (.pointer (some ⟨K.h, 0, none⟩)) rfl rfl (by kernel_rfl) (by kernel_rfl) (by kernel_rfl) (fun _ _ _ h => h) (Kt.yl_mov (by rfl) _ rfl _ rfl) hHeld ?_
 try simp only [Act.put, κa, κb, κc]
 -- 1
 refine κw 1 9 (.agg #[.int .i64 25, .int .i64 d, .int .i64 r, .int .i64 f, .int .u32 m]) rfl rfl (by kernel_rfl) (by kernel_rfl) (by kernel_rfl) (fun _ _ _ h => h) (yieldsIf_load_mid (by rfl) _ _ rfl _ _ rfl _ _ (fun w h => h.b.rng) uI rfl iI) hHeld ?_
 try simp only [Act.put, κa, κb, κc]
 -- 3
 refine κw 3 11 (.pointer (some ⟨K.h, 0, none⟩)) rfl rfl (by kernel_rfl) (by kernel_rfl) (by kernel_rfl) (fun _ _ _ h => h) (Kt.yl_mov (by rfl) _ rfl _ rfl) hHeld ?_
 try simp only [Act.put, κa, κb, κc]
 -- 4
 refine κw 4 12 (.pointer (some ⟨bx, 1, none⟩)) rfl rfl (by kernel_rfl) (by kernel_rfl) (by kernel_rfl) (fun _ _ _ h => h) (Kt.yl_fld (by rfl) _ _ _ rfl _ _ rfl hf4) hHeld ?_
 try simp only [Act.put, κa, κb, κc]
 -- 5
 refine κw 5 13 (.int .i64 d) rfl rfl (by kernel_rfl) (by kernel_rfl) (by kernel_rfl) (fun _ _ _ h => h) (Kt.yl_ld (by rfl) _ _ rfl _ _ rfl hl5) hHeld ?_
 try simp only [Act.put, κa, κb, κc]
 -- 2
 refine wpAnyH_ready (rs := [2]) (by kernel_rfl) (by simp) ?_
 refine AllReadyH.cons rfl (fun KK hKK => ?_) AllReadyH.nil
 go_simp
 go_wp2_with (go_at_call 124; refine P1.out.mono ?_; rintro e w1 ⟨rfl, A1, U1⟩)
 have V1 := κ ((UW.drew (K := K) (W := w0) A0.out.l).trans U1)
 have B1 := κ (B0.out.uw V1.out)
 have M1 := κ A1
 have R1 := RS.of B1.out A1 G1.out
 have x0_1 := B1.out.c 0 _ rfl
 have x1_1 := B1.out.c 1 _ rfl
 have x2_1 := B1.out.c 2 _ rfl
 have x3_1 := B1.out.c 3 _ rfl
 have x4_1 := B1.out.c 4 _ rfl
 have xl_1 := B1.out.l
 have y4_1 := R1.p
 have y5_1 := R1.x
 have y1_1 := R1.n
 have yl_1 := A1.l
 have P2 := get_any (K := K) d HD.out w1 (A1) (by have := G1.out.n; have := HN.out; omega)
 rw [hp2] at P2
 have P2 := κ P2
 clear A1 U1 P1
 refine hKK.out _ _ ?_ (fun hHeld2 => ?_)
 ·exact R1
 clear hKK KK hHeld
 have hHeld := hHeld2
 clear hHeld2
 try simp only [Act.put, κa, κb, κc]
 -- 6
 refine wpAnyH_ready (rs := [6]) (by kernel_rfl) (by simp) ?_
 refine AllReadyH.cons rfl (fun KK hKK => ?_) AllReadyH.nil
 go_simp
 go_wp2_with (go_at_call 118; refine P2.out.mono ?_; rintro e w2 ⟨rfl, A1, U1⟩)
 have V2 := κ (U1)
 have B2 := κ (B1.out.uw V2.out)
 have M2 := κ A1
 have R2 := RS.of B2.out A1 G2.out
 have x0_2 := B2.out.c 0 _ rfl
 have x1_2 := B2.out.c 1 _ rfl
 have x2_2 := B2.out.c 2 _ rfl
 have x3_2 := B2.out.c 3 _ rfl
 have x4_2 := B2.out.c 4 _ rfl
 have xl_2 := B2.out.l
 have y4_2 := R2.p
 have y5_2 := R2.x
 have y1_2 := R2.n
 have yl_2 := A1.l
 have P3 := load_any (K := K) 4 p1.1 w2 (A1) (by rw [G2.out.cnt]; exact HC.out) (by have := G2.out.n; have := HN.out; omega)
 rw [hp3] at P3
 have P3 := κ P3
 clear A1 U1 P2
 refine hKK.out _ _ ?_ (fun hHeld2 => ?_)
 ·exact R2
 clear hKK KK hHeld
 have hHeld := hHeld2
 clear hHeld2
 try simp only [Act.put, κa, κb, κc]
 -- 7
 refine κw 7 4 (.int .i64 p1.1) rfl rfl (by kernel_rfl) (by kernel_rfl) (by kernel_rfl) (fun _ _ _ h => h) (Kt.yl_asg (by rfl) _ rfl _ rfl) hHeld ?_
 try simp only [Act.put, κa, κb, κc]
 -- 8
 refine κw 8 5 (.int .i64 p2.1) rfl rfl (by kernel_rfl) (by kernel_rfl) (by kernel_rfl) (fun _ _ _ h => h) (Kt.yl_asg (by rfl) _ rfl _ rfl) hHeld ?_
 try simp only [Act.put, κa, κb, κc]
 refine wpAnyH_done (by kernel_rfl) ?_ _
 go_wp2_with (first
  | (go_at_call 126; refine P3.out.mono ?_; rintro e w3 ⟨rfl, A1, U1⟩; have V3 := κ (U1); have B3 := κ (B2.out.uw V3.out); have M3 := κ A1; have R3 := RS.of B3.out A1 G3.out; have x0_3 := B3.out.c 0 _ rfl; have x1_3 := B3.out.c 1 _ rfl; have x2_3 := B3.out.c 2 _ rfl; have x3_3 := B3.out.c 3 _ rfl; have x4_3 := B3.out.c 4 _ rfl; have xl_3 := B3.out.l; have y4_3 := R3.p; have y5_3 := R3.x; have y1_3 := R3.n; have yl_3 := A1.l; have P4 := bin_any (K := K) 0 p3.1 p2.1 w3 (A1) (by have := G3.out.n; have := HN.out; omega); rw [hp4] at P4; have P4 := κ P4; clear A1 U1 P3)
  | (go_at_call 135; refine P4.out.mono ?_; rintro e w4 ⟨rfl, A1, U1⟩; have V4 := κ (U1); have B4 := κ (B3.out.uw V4.out); have M4 := κ A1; have R4 := RS.of B4.out A1 G4.out; have x0_4 := B4.out.c 0 _ rfl; have x1_4 := B4.out.c 1 _ rfl; have x2_4 := B4.out.c 2 _ rfl; have x3_4 := B4.out.c 3 _ rfl; have x4_4 := B4.out.c 4 _ rfl; have xl_4 := B4.out.l; have y4_4 := R4.p; have y5_4 := R4.x; have y1_4 := R4.n; have yl_4 := A1.l; have P5 := store_any (K := K) 2 p1.1 p4.1 w4 (A1) (by rw [G4.out.cnt]; exact HC.out) (by have := G4.out.n; have := HN.out; omega); rw [hp5] at P5; have P5 := κ P5; clear A1 U1 P4)
  | (go_at_call 127; refine P5.out.mono ?_; rintro e w5 ⟨rfl, A1, U1⟩; have V5 := κ (U1); have B5 := κ (B4.out.uw V5.out); have M5 := κ A1; have R5 := RS.of B5.out A1 G5.out; have x0_5 := B5.out.c 0 _ rfl; have x1_5 := B5.out.c 1 _ rfl; have x2_5 := B5.out.c 2 _ rfl; have x3_5 := B5.out.c 3 _ rfl; have x4_5 := B5.out.c 4 _ rfl; have xl_5 := B5.out.l; have y4_5 := R5.p; have y5_5 := R5.x; have y1_5 := R5.n; have yl_5 := A1.l; have P6 := set_any (K := K) d p3.1 HD.out w5 (A1) (by have := G5.out.n; have := HN.out; omega); rw [hp6] at P6; have P6 := κ P6; clear A1 U1 P5)
  | (go_at_call 116; refine P6.out.mono ?_; rintro e w6 ⟨rfl, A1, U1⟩; have V6 := κ (U1); have B6 := κ (B5.out.uw V6.out); have M6 := κ A1; have R6 := RS.of B6.out A1 G6.out; have x0_6 := B6.out.c 0 _ rfl; have x1_6 := B6.out.c 1 _ rfl; have x2_6 := B6.out.c 2 _ rfl; have x3_6 := B6.out.c 3 _ rfl; have x4_6 := B6.out.c 4 _ rfl; have xl_6 := B6.out.l; have y4_6 := R6.p; have y5_6 := R6.x; have y1_6 := R6.n; have yl_6 := A1.l; have P7 := flag_any (K := K) false 1 p3.1 p2.1 (-1) w6 (A1) (by have := G6.out.n; have := HN.out; omega); rw [hp7] at P7; have P7 := κ P7; clear A1 U1 P6)
  | (go_at_call 121; refine P7.out.mono ?_; rintro e w7 ⟨rfl, A1, U1⟩; have V7 := κ (U1); have B7 := κ (B6.out.uw V7.out); have M7 := κ A1; have R7 := RS.of B7.out A1 G7.out; have x0_7 := B7.out.c 0 _ rfl; have x1_7 := B7.out.c 1 _ rfl; have x2_7 := B7.out.c 2 _ rfl; have x3_7 := B7.out.c 3 _ rfl; have x4_7 := B7.out.c 4 _ rfl; have xl_7 := B7.out.l; have y4_7 := R7.p; have y5_7 := R7.x; have y1_7 := R7.n; have yl_7 := A1.l; clear A1 U1 P7))
 go_end0
 exact ⟨rfl, M7.out, (((((((U0.out.trans V1.out).trans V2.out).trans V3.out).trans V4.out).trans V5.out).trans V6.out).trans V7.out)⟩
theorem both_26 (d r : Nat) (f m : Int) (hd : d < 8) (hr : r < 8) (w : World) (a : LM K s w) (hc : 1 ≤ s.cnt ∧ s.cnt ≤ 64) (hn : s.ops.length + 60 < 1000000000) :
  Calls Tryz.prog 129 #[.pointer (some ⟨K.h, 0, none⟩), .agg #[.int .i64 26, .int .i64 d, .int .i64 r, .int .i64 f, .int .u32 m]] w fun e w' => e = .returned (.tuple #[]) ∧ LM K (s.both 26 d r m) w' ∧ UW K w w' := by
 have HN := κ hn
 have HC := κ hc
 have HR := κ hr
 have HD := κ hd
 obtain ⟨p1, hp1⟩ : ∃ p, s.whr r m = p := ⟨_, rfl⟩
 have g1 : Gw 3 s p1.2 := by rw [← hp1]; exact whr_gw s _ _ 
 have G1 := κ g1
 clear g1
 obtain ⟨p2, hp2⟩ : ∃ p, p1.2.get d = p := ⟨_, rfl⟩
 have g2 : Gw 1 p1.2 p2.2 := by rw [← hp2]; exact get_gw p1.2 _ 
 have G2 := κ (G1.out.trans g2)
 clear g2
 obtain ⟨p3, hp3⟩ : ∃ p, p2.2.load 4 p1.1 = p := ⟨_, rfl⟩
 have g3 : Gw 1 p2.2 p3.2 := by rw [← hp3]; exact load_gw p2.2 _ _ 
 have G3 := κ (G2.out.trans g3)
 clear g3
 obtain ⟨p4, hp4⟩ : ∃ p, p3.2.get 0 = p := ⟨_, rfl⟩
 have g4 : Gw 1 p3.2 p4.2 := by rw [← hp4]; exact get_gw p3.2 _ 
 have G4 := κ (G3.out.trans g4)
 clear g4
 obtain ⟨p5, hp5⟩ : ∃ p, p4.2.B 13 p4.1 p3.1 = p := ⟨_, rfl⟩
 have g5 : Gw 1 p4.2 p5.2 := by rw [← hp5]; exact B_gw p4.2 _ _ _ 
 have G5 := κ (G4.out.trans g5)
 clear g5
 obtain ⟨p6, hp6⟩ : ∃ p, p5.2.S p5.1 p2.1 p3.1 = p := ⟨_, rfl⟩
 have g6 : Gw 1 p5.2 p6.2 := by rw [← hp6]; exact S_gw p5.2 _ _ _ 
 have G6 := κ (G5.out.trans g6)
 clear g6
 obtain ⟨p7, hp7⟩ : ∃ p, p6.2.store 2 p1.1 p6.1 = p := ⟨_, rfl⟩
 have g7 : Gw 1 p6.2 p7 := by rw [← hp7]; exact store_gw p6.2 _ _ _ 
 have G7 := κ (G6.out.trans g7)
 clear g7
 obtain ⟨p8, hp8⟩ : ∃ p, p7.set 0 p3.1 = p := ⟨_, rfl⟩
 have g8 : Gw 1 p7 p8 := by rw [← hp8]; exact set_gw p7 _ _ 
 have G8 := κ (G7.out.trans g8)
 clear g8
 obtain ⟨p9, hp9⟩ : ∃ p, p8.flag 3 p4.1 p3.1 (-1) = p := ⟨_, rfl⟩
 have g9 : Gw 5 p8 p9 := by rw [← hp9]; exact flag_gw p8 _ _ _ _ 
 have G9 := κ (G8.out.trans g9)
 clear g9
 have E : s.both 26 d r m = p9 := by
  unfold Lk.both
  rw [if_neg (by decide), if_neg (by decide)]
  simp only [hp1, hp2, hp3, hp4, hp5, hp6, hp7, hp8, hp9]
 rw [E]
 clear E
 have A0 := κ (a.alloc (.cells #[.int .i64 26, .int .i64 d, .int .i64 r, .int .i64 f, .int .u32 m] 74))
 have B0 := κ (Bx.new a #[.int .i64 26, .int .i64 d, .int .i64 r, .int .i64 f, .int .u32 m] 74)
 have U0 := κ (UW.alloc a.l (.cells #[.int .i64 26, .int .i64 d, .int .i64 r, .int .i64 f, .int .u32 m] 74))
 have uI := Tryz.underlying74
 have iI : (Tryz.prog.info? 74).map (·.size) = some ([.int .i64 26, .int .i64 d, .int .i64 r, .int .i64 f, .int .u32 m] : List Value).length := by kernel_rfl
 clear a hn hc hd hr
 go_enter Tryz.func129, Tryz.ntmps129
 go_upto_region 1 with fail
 generalize w.alloc (.cells #[.int .i64 26, .int .i64 d, .int .i64 r, .int .i64 f, .int .u32 m] 74) = w0 at *
 generalize w.heap.size = bx at *
 have R0 := κ (RS.of B0.out A0.out (Gw.refl s))
 have x0_0 := B0.out.c 0 _ rfl
 have x1_0 := B0.out.c 1 _ rfl
 have x2_0 := B0.out.c 2 _ rfl
 have x3_0 := B0.out.c 3 _ rfl
 have x4_0 := B0.out.c 4 _ rfl
 have xl_0 := B0.out.l
 have y4_0 := R0.out.p
 have y5_0 := R0.out.x
 have y1_0 := R0.out.n
 have yl_0 := A0.out.l
 have P1 := whr_any (K := K) 26 d f m r HR.out w0.drew (A0.out.drew) (by have := HN.out; omega)
 rw [hp1] at P1
 have P1 := κ P1
 go_wp2
 have hf4 : ∀ w : World, (Instr.fieldAt 74 (.pointer (some ⟨bx, 0, none⟩)) 1).run Tryz.prog w = .ok (.pointer (some ⟨bx, 1, none⟩)) w := fun w => by go_simp
 have hl5 : ∀ w', RS K s bx #[.int .i64 26, .int .i64 d, .int .i64 r, .int .i64 f, .int .u32 m] w' → (Instr.loadAt 3 (.pointer (some ⟨bx, 1, none⟩))).run Tryz.prog w' = .ok (.int .i64 d) w' := fun w' h => by
  have hp := h.b.c 1 _ rfl
  have hq := h.b.l
  clear h
  go_simp
 refine wp_region_held_drew (S := RS K s bx #[.int .i64 26, .int .i64 d, .int .i64 r, .int .i64 f, .int .u32 m]) (by kernel_rfl) (R0.out).drew (fun hHeld => ?_)
 -- 0
 refine κw 0 8 (.pointer (some ⟨K.h, 0, none⟩)) rfl rfl (by kernel_rfl) (by kernel_rfl) (by kernel_rfl) (fun _ _ _ h => h) (Kt.yl_mov (by rfl) _ rfl _ rfl) hHeld ?_
 try simp only [Act.put, κa, κb, κc]
 -- 1
 refine κw 1 9 (.agg #[.int .i64 26, .int .i64 d, .int .i64 r, .int .i64 f, .int .u32 m]) rfl rfl (by kernel_rfl) (by kernel_rfl) (by kernel_rfl) (fun _ _ _ h => h) (yieldsIf_load_mid (by rfl) _ _ rfl _ _ rfl _ _ (fun w h => h.b.rng) uI rfl iI) hHeld ?_
 try simp only [Act.put, κa, κb, κc]
 -- 3
 refine κw 3 11 (.pointer (some ⟨K.h, 0, none⟩)) rfl rfl (by kernel_rfl) (by kernel_rfl) (by kernel_rfl) (fun _ _ _ h => h) (Kt.yl_mov (by rfl) _ rfl _ rfl) hHeld ?_
 try simp only [Act.put, κa, κb, κc]
 -- 4
 refine κw 4 12 (.pointer (some ⟨bx, 1, none⟩)) rfl rfl (by kernel_rfl) (by kernel_rfl) (by kernel_rfl) (fun _ _ _ h => h) (Kt.yl_fld (by rfl) _ _ _ rfl _ _ rfl hf4) hHeld ?_
 try simp only [Act.put, κa, κb, κc]
 -- 5
 refine κw 5 13 (.int .i64 d) rfl rfl (by kernel_rfl) (by kernel_rfl) (by kernel_rfl) (fun _ _ _ h => h) (Kt.yl_ld (by rfl) _ _ rfl _ _ rfl hl5) hHeld ?_
 try simp only [Act.put, κa, κb, κc]
 -- 2
 refine wpAnyH_ready (rs := [2]) (by kernel_rfl) (by simp) ?_
 refine AllReadyH.cons rfl (fun KK hKK => ?_) AllReadyH.nil
 go_simp
 go_wp2_with (go_at_call 124; refine P1.out.mono ?_; rintro e w1 ⟨rfl, A1, U1⟩)
 have V1 := κ ((UW.drew (K := K) (W := w0) A0.out.l).trans U1)
 have B1 := κ (B0.out.uw V1.out)
 have M1 := κ A1
 have R1 := RS.of B1.out A1 G1.out
 have x0_1 := B1.out.c 0 _ rfl
 have x1_1 := B1.out.c 1 _ rfl
 have x2_1 := B1.out.c 2 _ rfl
 have x3_1 := B1.out.c 3 _ rfl
 have x4_1 := B1.out.c 4 _ rfl
 have xl_1 := B1.out.l
 have y4_1 := R1.p
 have y5_1 := R1.x
 have y1_1 := R1.n
 have yl_1 := A1.l
 have P2 := get_any (K := K) d HD.out w1 (A1) (by have := G1.out.n; have := HN.out; omega)
 rw [hp2] at P2
 have P2 := κ P2
 clear A1 U1 P1
 refine hKK.out _ _ ?_ (fun hHeld2 => ?_)
 ·exact R1
 clear hKK KK hHeld
 have hHeld := hHeld2
 clear hHeld2
 try simp only [Act.put, κa, κb, κc]
 -- 6
 refine wpAnyH_ready (rs := [6]) (by kernel_rfl) (by simp) ?_
 refine AllReadyH.cons rfl (fun KK hKK => ?_) AllReadyH.nil
 go_simp
 go_wp2_with (go_at_call 118; refine P2.out.mono ?_; rintro e w2 ⟨rfl, A1, U1⟩)
 have V2 := κ (U1)
 have B2 := κ (B1.out.uw V2.out)
 have M2 := κ A1
 have R2 := RS.of B2.out A1 G2.out
 have x0_2 := B2.out.c 0 _ rfl
 have x1_2 := B2.out.c 1 _ rfl
 have x2_2 := B2.out.c 2 _ rfl
 have x3_2 := B2.out.c 3 _ rfl
 have x4_2 := B2.out.c 4 _ rfl
 have xl_2 := B2.out.l
 have y4_2 := R2.p
 have y5_2 := R2.x
 have y1_2 := R2.n
 have yl_2 := A1.l
 have P3 := load_any (K := K) 4 p1.1 w2 (A1) (by rw [G2.out.cnt]; exact HC.out) (by have := G2.out.n; have := HN.out; omega)
 rw [hp3] at P3
 have P3 := κ P3
 clear A1 U1 P2
 refine hKK.out _ _ ?_ (fun hHeld2 => ?_)
 ·exact R2
 clear hKK KK hHeld
 have hHeld := hHeld2
 clear hHeld2
 try simp only [Act.put, κa, κb, κc]
 -- 7
 refine κw 7 4 (.int .i64 p1.1) rfl rfl (by kernel_rfl) (by kernel_rfl) (by kernel_rfl) (fun _ _ _ h => h) (Kt.yl_asg (by rfl) _ rfl _ rfl) hHeld ?_
 try simp only [Act.put, κa, κb, κc]
 -- 8
 refine κw 8 5 (.int .i64 p2.1) rfl rfl (by kernel_rfl) (by kernel_rfl) (by kernel_rfl) (fun _ _ _ h => h) (Kt.yl_asg (by rfl) _ rfl _ rfl) hHeld ?_
 try simp only [Act.put, κa, κb, κc]
 refine wpAnyH_done (by kernel_rfl) ?_ _
 go_wp2_with (first
  | (go_at_call 126; refine P3.out.mono ?_; rintro e w3 ⟨rfl, A1, U1⟩; have V3 := κ (U1); have B3 := κ (B2.out.uw V3.out); have M3 := κ A1; have R3 := RS.of B3.out A1 G3.out; have x0_3 := B3.out.c 0 _ rfl; have x1_3 := B3.out.c 1 _ rfl; have x2_3 := B3.out.c 2 _ rfl; have x3_3 := B3.out.c 3 _ rfl; have x4_3 := B3.out.c 4 _ rfl; have xl_3 := B3.out.l; have y4_3 := R3.p; have y5_3 := R3.x; have y1_3 := R3.n; have yl_3 := A1.l; have P4 := get_any (K := K) 0 (by decide) w3 (A1) (by have := G3.out.n; have := HN.out; omega); rw [hp4] at P4; have P4 := κ P4; clear A1 U1 P3)
  | (go_at_call 118; refine P4.out.mono ?_; rintro e w4 ⟨rfl, A1, U1⟩; have V4 := κ (U1); have B4 := κ (B3.out.uw V4.out); have M4 := κ A1; have R4 := RS.of B4.out A1 G4.out; have x0_4 := B4.out.c 0 _ rfl; have x1_4 := B4.out.c 1 _ rfl; have x2_4 := B4.out.c 2 _ rfl; have x3_4 := B4.out.c 3 _ rfl; have x4_4 := B4.out.c 4 _ rfl; have xl_4 := B4.out.l; have y4_4 := R4.p; have y5_4 := R4.x; have y1_4 := R4.n; have yl_4 := A1.l; have P5 := bin_any (K := K) 13 p4.1 p3.1 w4 (A1) (by have := G4.out.n; have := HN.out; omega); rw [hp5] at P5; have P5 := κ P5; clear A1 U1 P4)
  | (go_at_call 135; refine P5.out.mono ?_; rintro e w5 ⟨rfl, A1, U1⟩; have V5 := κ (U1); have B5 := κ (B4.out.uw V5.out); have M5 := κ A1; have R5 := RS.of B5.out A1 G5.out; have x0_5 := B5.out.c 0 _ rfl; have x1_5 := B5.out.c 1 _ rfl; have x2_5 := B5.out.c 2 _ rfl; have x3_5 := B5.out.c 3 _ rfl; have x4_5 := B5.out.c 4 _ rfl; have xl_5 := B5.out.l; have y4_5 := R5.p; have y5_5 := R5.x; have y1_5 := R5.n; have yl_5 := A1.l; have P6 := sel_any (K := K) p5.1 p2.1 p3.1 w5 (A1) (by have := G5.out.n; have := HN.out; omega); rw [hp6] at P6; have P6 := κ P6; clear A1 U1 P5)
  | (go_at_call 186; refine P6.out.mono ?_; rintro e w6 ⟨rfl, A1, U1⟩; have V6 := κ (U1); have B6 := κ (B5.out.uw V6.out); have M6 := κ A1; have R6 := RS.of B6.out A1 G6.out; have x0_6 := B6.out.c 0 _ rfl; have x1_6 := B6.out.c 1 _ rfl; have x2_6 := B6.out.c 2 _ rfl; have x3_6 := B6.out.c 3 _ rfl; have x4_6 := B6.out.c 4 _ rfl; have xl_6 := B6.out.l; have y4_6 := R6.p; have y5_6 := R6.x; have y1_6 := R6.n; have yl_6 := A1.l; have P7 := store_any (K := K) 2 p1.1 p6.1 w6 (A1) (by rw [G6.out.cnt]; exact HC.out) (by have := G6.out.n; have := HN.out; omega); rw [hp7] at P7; have P7 := κ P7; clear A1 U1 P6)
  | (go_at_call 127; refine P7.out.mono ?_; rintro e w7 ⟨rfl, A1, U1⟩; have V7 := κ (U1); have B7 := κ (B6.out.uw V7.out); have M7 := κ A1; have R7 := RS.of B7.out A1 G7.out; have x0_7 := B7.out.c 0 _ rfl; have x1_7 := B7.out.c 1 _ rfl; have x2_7 := B7.out.c 2 _ rfl; have x3_7 := B7.out.c 3 _ rfl; have x4_7 := B7.out.c 4 _ rfl; have xl_7 := B7.out.l; have y4_7 := R7.p; have y5_7 := R7.x; have y1_7 := R7.n; have yl_7 := A1.l; have P8 := set_any (K := K) 0 p3.1 (by decide) w7 (A1) (by have := G7.out.n; have := HN.out; omega); rw [hp8] at P8; have P8 := κ P8; clear A1 U1 P7)
  | (go_at_call 116; refine P8.out.mono ?_; rintro e w8 ⟨rfl, A1, U1⟩; have V8 := κ (U1); have B8 := κ (B7.out.uw V8.out); have M8 := κ A1; have R8 := RS.of B8.out A1 G8.out; have x0_8 := B8.out.c 0 _ rfl; have x1_8 := B8.out.c 1 _ rfl; have x2_8 := B8.out.c 2 _ rfl; have x3_8 := B8.out.c 3 _ rfl; have x4_8 := B8.out.c 4 _ rfl; have xl_8 := B8.out.l; have y4_8 := R8.p; have y5_8 := R8.x; have y1_8 := R8.n; have yl_8 := A1.l; have P9 := flag_any (K := K) false 3 p4.1 p3.1 (-1) w8 (A1) (by have := G8.out.n; have := HN.out; omega); rw [hp9] at P9; have P9 := κ P9; clear A1 U1 P8)
  | (go_at_call 121; refine P9.out.mono ?_; rintro e w9 ⟨rfl, A1, U1⟩; have V9 := κ (U1); have B9 := κ (B8.out.uw V9.out); have M9 := κ A1; have R9 := RS.of B9.out A1 G9.out; have x0_9 := B9.out.c 0 _ rfl; have x1_9 := B9.out.c 1 _ rfl; have x2_9 := B9.out.c 2 _ rfl; have x3_9 := B9.out.c 3 _ rfl; have x4_9 := B9.out.c 4 _ rfl; have xl_9 := B9.out.l; have y4_9 := R9.p; have y5_9 := R9.x; have y1_9 := R9.n; have yl_9 := A1.l; clear A1 U1 P9))
 go_end0
 exact ⟨rfl, M9.out, (((((((((U0.out.trans V1.out).trans V2.out).trans V3.out).trans V4.out).trans V5.out).trans V6.out).trans V7.out).trans V8.out).trans V9.out)⟩
end Go.Proofs.YtcjcmnnhmajocabGreat.Lf
