/- lift: moves. -/
import Derived.Test.YtcjcmnnhmajocabGreatPlaz
set_option linter.unusedVariables false
set_option linter.unusedSimpArgs false
set_option maxRecDepth 100000
set_option maxHeartbeats 16000000
namespace Go.Proofs.YtcjcmnnhmajocabGreat.Lf
open Go.RowKit Kt Ic Me
open Ot (OwnO OB)
variable {K : Kc} {s : Lk} {W W' : World} {B : Nat}
theorem moves_5 (d r : Nat) (f m : Int) (hd : d < 8) (hr : r < 8) (m0 : 0 ≤ m) (m1 : m < 4294967296) (w : World) (a : LM K s w) (hc : 1 ≤ s.cnt ∧ s.cnt ≤ 64) (hn : s.ops.length + 60 < 1000000000) :
  Calls Tryz.prog 86 #[.pointer (some ⟨K.h, 0, none⟩), .agg #[.int .i64 5, .int .i64 d, .int .i64 r, .int .i64 f, .int .u32 m]] w fun e w' => e = .returned (.tuple #[]) ∧ LM K (s.moves 5 d r f m) w' ∧ UW K w w' := by
 have HN := κ hn
 have HC := κ hc
 have HR := κ hr
 have HD := κ hd
 have hmw : IntKind.i64.wrap m = m := by rw [IntKind.wrap_i64]; omega
 obtain ⟨p1, hp1⟩ : ∃ p, s.put ⟨14, 1, 0, m, 0, s.nx, s.cnt⟩ = p := ⟨_, rfl⟩
 have g1 : Gw 1 s p1 := by rw [← hp1]; exact put_gw s _ 
 have G1 := κ g1
 clear g1
 have E : s.moves 5 d r f m = p1 := by
  unfold Lk.moves
  rw [if_neg (by decide), if_pos (by decide)]
  simp only [w32, hp1]
 rw [E]
 clear E
 have A0 := κ (a.alloc (.cells #[.int .i64 5, .int .i64 d, .int .i64 r, .int .i64 f, .int .u32 m] 74))
 have B0 := κ (Bx.new a #[.int .i64 5, .int .i64 d, .int .i64 r, .int .i64 f, .int .u32 m] 74)
 have U0 := κ (UW.alloc a.l (.cells #[.int .i64 5, .int .i64 d, .int .i64 r, .int .i64 f, .int .u32 m] 74))
 have uI := Tryz.underlying74
 have iI : (Tryz.prog.info? 74).map (·.size) = some ([.int .i64 5, .int .i64 d, .int .i64 r, .int .i64 f, .int .u32 m] : List Value).length := by kernel_rfl
 clear a hn hc hd hr
 go_enter Tryz.func86, Tryz.ntmps86
 go_upto_region 1 with fail
 generalize w.alloc (.cells #[.int .i64 5, .int .i64 d, .int .i64 r, .int .i64 f, .int .u32 m] 74) = wz at *
 generalize w.heap.size = bx at *
 have R0 := κ (RS.of B0.out A0.out (Gw.refl s))
 have x0_z := B0.out.c 0 _ rfl
 have x1_z := B0.out.c 1 _ rfl
 have x2_z := B0.out.c 2 _ rfl
 have x3_z := B0.out.c 3 _ rfl
 have x4_z := B0.out.c 4 _ rfl
 have xl_z := B0.out.l
 have y4_z := R0.out.p
 have y5_z := R0.out.x
 have y1_z := R0.out.n
 have yl_z := A0.out.l
 go_region
 replace B0 := κ (B0.out.uw (UW.drew (K := K) A0.out.l))
 replace U0 := κ (U0.out.trans (UW.drew (K := K) A0.out.l))
 replace A0 := κ A0.out.drew
 replace R0 := κ R0.out.drew
 clear x0_z x1_z x2_z x3_z x4_z xl_z y4_z y5_z y1_z yl_z
 generalize wz.drew = w0 at *
 have x0_0 := B0.out.c 0 _ rfl
 have x1_0 := B0.out.c 1 _ rfl
 have x2_0 := B0.out.c 2 _ rfl
 have x3_0 := B0.out.c 3 _ rfl
 have x4_0 := B0.out.c 4 _ rfl
 have xl_0 := B0.out.l
 have y4_0 := R0.out.p
 have y5_0 := R0.out.x
 have y1_0 := R0.out.n
 have yl_0 := A0.out.l
 have P1 := put_any (K := K) ⟨14, 1, 0, m, 0, s.nx, s.cnt⟩ w0.drew (A0.out.drew) (by have := HN.out; omega)
 rw [hp1] at P1
 have P1 := κ P1
 go_wp2
 have hf1 : ∀ w : World, (Instr.fieldAt 74 (.pointer (some ⟨bx, 0, none⟩)) 4).run Tryz.prog w = .ok (.pointer (some ⟨bx, 4, none⟩)) w := fun w => by go_simp
 have hl2 : ∀ w', RS K s bx #[.int .i64 5, .int .i64 d, .int .i64 r, .int .i64 f, .int .u32 m] w' → (Instr.loadAt 29 (.pointer (some ⟨bx, 4, none⟩))).run Tryz.prog w' = .ok (.int .u32 m) w' := fun w' h => by
  have hp := h.b.c 4 _ rfl
  have hq := h.b.l
  clear h
  go_simp
 have hv3 : ∀ w : World, (convert 29 3 (.int .u32 m)).run Tryz.prog w = .ok (.int .i64 m) w := fun w => by
  go_simp
  all_goals exact hmw
 have hf6 : ∀ w : World, (Instr.fieldAt 110 (.pointer (some ⟨K.h, 0, none⟩)) 2).run Tryz.prog w = .ok (.pointer (some ⟨K.h, 5, none⟩)) w := fun w => by go_simp
 have hl7 : ∀ w', RS K s bx #[.int .i64 5, .int .i64 d, .int .i64 r, .int .i64 f, .int .u32 m] w' → (Instr.loadAt 29 (.pointer (some ⟨K.h, 5, none⟩))).run Tryz.prog w' = .ok (.int .u32 s.nx) w' := fun w' h => by
  have hp := h.x
  have hq := h.b.l
  clear h
  go_simp
 have hf10 : ∀ w : World, (Instr.fieldAt 110 (.pointer (some ⟨K.h, 0, none⟩)) 0).run Tryz.prog w = .ok (.pointer (some ⟨K.h, 0, none⟩)) w := fun w => by go_simp
 have hf11 : ∀ w : World, (Instr.fieldAt 52 (.pointer (some ⟨K.h, 0, none⟩)) 1).run Tryz.prog w = .ok (.pointer (some ⟨K.h, 1, none⟩)) w := fun w => by go_simp
 have hl12 : ∀ w', RS K s bx #[.int .i64 5, .int .i64 d, .int .i64 r, .int .i64 f, .int .u32 m] w' → (Instr.loadAt 3 (.pointer (some ⟨K.h, 1, none⟩))).run Tryz.prog w' = .ok (.int .i64 s.cnt) w' := fun w' h => by
  have hp := h.n
  have hq := h.b.l
  clear h
  go_simp
 have hb13 : ∀ w : World, (Instr.build 115 #[(0, .int .i64 14), (1, .int .i64 1), (3, .int .i64 m), (5, .int .u32 s.nx), (6, .int .i64 s.cnt)]).run Tryz.prog w = .ok (.agg #[.int .i64 14, .int .i64 1, .int .i64 0, .int .i64 m, .int .i64 0, .int .u32 s.nx, .int .i64 s.cnt]) w := fun w => by go_simp
 refine wp_region_held_drew (S := RS K s bx #[.int .i64 5, .int .i64 d, .int .i64 r, .int .i64 f, .int .u32 m]) (by kernel_rfl) (R0.out).drew (fun hHeld => ?_)
 -- 0
 refine κw 0 29 (.pointer (some ⟨K.h, 0, none⟩)) rfl rfl (by kernel_rfl) (by kernel_rfl) (by kernel_rfl) (fun _ _ _ h => h) (Kt.yl_mov (by rfl) _ rfl _ rfl) hHeld ?_
 try simp only [Act.put, κa, κb, κc]
 -- 1
 refine κw 1 30 (.pointer (some ⟨bx, 4, none⟩)) rfl rfl (by kernel_rfl) (by kernel_rfl) (by kernel_rfl) (fun _ _ _ h => h) (Kt.yl_fld (by rfl) _ _ _ rfl _ _ rfl hf1) hHeld ?_
 try simp only [Act.put, κa, κb, κc]
 -- 2
 refine κw 2 31 (.int .u32 m) rfl rfl (by kernel_rfl) (by kernel_rfl) (by kernel_rfl) (fun _ _ _ h => h) (Kt.yl_ld (by rfl) _ _ rfl _ _ rfl hl2) hHeld ?_
 try simp only [Act.put, κa, κb, κc]
 -- 3
 refine κw 3 32 (.int .i64 m) rfl rfl (by kernel_rfl) (by kernel_rfl) (by kernel_rfl) (fun _ _ _ h => h) (Kt.yl_cnv (by rfl) _ _ _ rfl _ _ rfl hv3) hHeld ?_
 try simp only [Act.put, κa, κb, κc]
 -- 4
 refine κw 4 33 (.pointer (some ⟨K.h, 0, none⟩)) rfl rfl (by kernel_rfl) (by kernel_rfl) (by kernel_rfl) (fun _ _ _ h => h) (Kt.yl_mov (by rfl) _ rfl _ rfl) hHeld ?_
 try simp only [Act.put, κa, κb, κc]
 -- 5
 refine κw 5 34 (.pointer (some ⟨K.h, 0, none⟩)) rfl rfl (by kernel_rfl) (by kernel_rfl) (by kernel_rfl) (fun _ _ _ h => h) (Kt.yl_nil (by rfl) _ rfl _ rfl) hHeld ?_
 try simp only [Act.put, κa, κb, κc]
 -- 6
 refine κw 6 35 (.pointer (some ⟨K.h, 5, none⟩)) rfl rfl (by kernel_rfl) (by kernel_rfl) (by kernel_rfl) (fun _ _ _ h => h) (Kt.yl_fld (by rfl) _ _ _ rfl _ _ rfl hf6) hHeld ?_
 try simp only [Act.put, κa, κb, κc]
 -- 7
 refine κw 7 36 (.int .u32 s.nx) rfl rfl (by kernel_rfl) (by kernel_rfl) (by kernel_rfl) (fun _ _ _ h => h) (Kt.yl_ld (by rfl) _ _ rfl _ _ rfl hl7) hHeld ?_
 try simp only [Act.put, κa, κb, κc]
 -- 8
 refine κw 8 37 (.pointer (some ⟨K.h, 0, none⟩)) rfl rfl (by kernel_rfl) (by kernel_rfl) (by kernel_rfl) (fun _ _ _ h => h) (Kt.yl_mov (by rfl) _ rfl _ rfl) hHeld ?_
 try simp only [Act.put, κa, κb, κc]
 -- 9
 refine κw 9 38 (.pointer (some ⟨K.h, 0, none⟩)) rfl rfl (by kernel_rfl) (by kernel_rfl) (by kernel_rfl) (fun _ _ _ h => h) (Kt.yl_nil (by rfl) _ rfl _ rfl) hHeld ?_
 try simp only [Act.put, κa, κb, κc]
 -- 10
 refine κw 10 39 (.pointer (some ⟨K.h, 0, none⟩)) rfl rfl (by kernel_rfl) (by kernel_rfl) (by kernel_rfl) (fun _ _ _ h => h) (Kt.yl_fld (by rfl) _ _ _ rfl _ _ rfl hf10) hHeld ?_
 try simp only [Act.put, κa, κb, κc]
 -- 11
 refine κw 11 40 (.pointer (some ⟨K.h, 1, none⟩)) rfl rfl (by kernel_rfl) (by kernel_rfl) (by kernel_rfl) (fun _ _ _ h => h) (Kt.yl_fld (by rfl) _ _ _ rfl _ _ rfl hf11) hHeld ?_
 try simp only [Act.put, κa, κb, κc]
 -- 12
 refine κw 12 41 (.int .i64 s.cnt) rfl rfl (by kernel_rfl) (by kernel_rfl) (by kernel_rfl) (fun _ _ _ h => h) (Kt.yl_ld (by rfl) _ _ rfl _ _ rfl hl12) hHeld ?_
 try simp only [Act.put, κa, κb, κc]
 -- 13
 refine κw 13 42 (.agg #[.int .i64 14, .int .i64 1, .int .i64 0, .int .i64 m, .int .i64 0, .int .u32 s.nx, .int .i64 s.cnt]) rfl rfl (by kernel_rfl) (by kernel_rfl) (by kernel_rfl) (fun _ _ _ h => h) (Kt.yl_bld (by rfl) _ _ rfl (#[(0, .int .i64 14), (1, .int .i64 1), (3, .int .i64 m), (5, .int .u32 s.nx), (6, .int .i64 s.cnt)]) _ (by kernel_rfl) hb13) hHeld ?_
 try simp only [Act.put, κa, κb, κc]
 -- 14
 refine wpAnyH_ready (rs := [14]) (by kernel_rfl) (by simp) ?_
 refine AllReadyH.cons rfl (fun KK hKK => ?_) AllReadyH.nil
 go_simp
 go_wp2_with (go_at_call 54; refine P1.out.mono ?_; rintro e w1 ⟨rfl, A1, U1⟩)
 have V1 := κ ((UW.drew (K := K) (W := w0) A0.out.l).trans U1)
 have B1 := κ (B0.out.uw V1.out)
 have M1 := κ A1
 have R1 := RS.of B1.out A1 G1.out
 have x0_1 := B1.out.c 0 _ rfl
 have x1_1 := B1.out.c 1 _ rfl
 have x2_1 := B1.out.c 2 _ rfl
 have x3_1 := B1.out.c 3 _ rfl
 have x4_1 := B1.out.c 4 _ rfl
 have xl_1 := B1.out.l
 have y4_1 := R1.p
 have y5_1 := R1.x
 have y1_1 := R1.n
 have yl_1 := A1.l
 clear A1 U1 P1
 refine hKK.out _ _ ?_ (fun hHeld2 => ?_)
 ·exact R1
 clear hKK KK hHeld
 have hHeld := hHeld2
 clear hHeld2
 try simp only [Act.put, κa, κb, κc]
 refine wpAnyH_done (by kernel_rfl) ?_ _
 go_wp2
 go_end0
 exact ⟨rfl, M1.out, (U0.out.trans V1.out)⟩
theorem moves_6 (d r : Nat) (f m : Int) (hd : d < 8) (hr : r < 8) (w : World) (a : LM K s w) (hc : 1 ≤ s.cnt ∧ s.cnt ≤ 64) (hn : s.ops.length + 60 < 1000000000) :
  Calls Tryz.prog 86 #[.pointer (some ⟨K.h, 0, none⟩), .agg #[.int .i64 6, .int .i64 d, .int .i64 r, .int .i64 f, .int .u32 m]] w fun e w' => e = .returned (.tuple #[]) ∧ LM K (s.moves 6 d r f m) w' ∧ UW K w w' := by
 have HN := κ hn
 have HC := κ hc
 have HR := κ hr
 have HD := κ hd
 obtain ⟨p1, hp1⟩ : ∃ p, s.goes ((s.nx + m) % 4294967296) = p := ⟨_, rfl⟩
 have g1 : Gw 1 s p1 := by rw [← hp1]; exact put_gw s _ 
 have G1 := κ g1
 clear g1
 have E : s.moves 6 d r f m = p1 := by
  unfold Lk.moves
  rw [if_neg (by decide), if_neg (by decide), if_pos (by decide)]
  simp only [w32, hp1]
 rw [E]
 clear E
 have A0 := κ (a.alloc (.cells #[.int .i64 6, .int .i64 d, .int .i64 r, .int .i64 f, .int .u32 m] 74))
 have B0 := κ (Bx.new a #[.int .i64 6, .int .i64 d, .int .i64 r, .int .i64 f, .int .u32 m] 74)
 have U0 := κ (UW.alloc a.l (.cells #[.int .i64 6, .int .i64 d, .int .i64 r, .int .i64 f, .int .u32 m] 74))
 have uI := Tryz.underlying74
 have iI : (Tryz.prog.info? 74).map (·.size) = some ([.int .i64 6, .int .i64 d, .int .i64 r, .int .i64 f, .int .u32 m] : List Value).length := by kernel_rfl
 clear a hn hc hd hr
 go_enter Tryz.func86, Tryz.ntmps86
 go_upto_region 1 with fail
 generalize w.alloc (.cells #[.int .i64 6, .int .i64 d, .int .i64 r, .int .i64 f, .int .u32 m] 74) = wz at *
 generalize w.heap.size = bx at *
 have R0 := κ (RS.of B0.out A0.out (Gw.refl s))
 have x0_z := B0.out.c 0 _ rfl
 have x1_z := B0.out.c 1 _ rfl
 have x2_z := B0.out.c 2 _ rfl
 have x3_z := B0.out.c 3 _ rfl
 have x4_z := B0.out.c 4 _ rfl
 have xl_z := B0.out.l
 have y4_z := R0.out.p
 have y5_z := R0.out.x
 have y1_z := R0.out.n
 have yl_z := A0.out.l
 go_region
 replace B0 := κ (B0.out.uw (UW.drew (K := K) A0.out.l))
 replace U0 := κ (U0.out.trans (UW.drew (K := K) A0.out.l))
 replace A0 := κ A0.out.drew
 replace R0 := κ R0.out.drew
 clear x0_z x1_z x2_z x3_z x4_z xl_z y4_z y5_z y1_z yl_z
 generalize wz.drew = w0 at *
 have x0_0 := B0.out.c 0 _ rfl
 have x1_0 := B0.out.c 1 _ rfl
 have x2_0 := B0.out.c 2 _ rfl
 have x3_0 := B0.out.c 3 _ rfl
 have x4_0 := B0.out.c 4 _ rfl
 have xl_0 := B0.out.l
 have y4_0 := R0.out.p
 have y5_0 := R0.out.x
 have y1_0 := R0.out.n
 have yl_0 := A0.out.l
 have P1 := goes_any (K := K) ((s.nx + m) % 4294967296) w0 (A0.out) HC.out (by have := HN.out; omega)
 rw [hp1] at P1
 have P1 := κ P1
 go_wp2_with (first
  | (go_at_call 131; refine P1.out.mono ?_; rintro e w1 ⟨rfl, A1, U1⟩; have V1 := κ (U1); have B1 := κ (B0.out.uw V1.out); have M1 := κ A1; have R1 := RS.of B1.out A1 G1.out; have x0_1 := B1.out.c 0 _ rfl; have x1_1 := B1.out.c 1 _ rfl; have x2_1 := B1.out.c 2 _ rfl; have x3_1 := B1.out.c 3 _ rfl; have x4_1 := B1.out.c 4 _ rfl; have xl_1 := B1.out.l; have y4_1 := R1.p; have y5_1 := R1.x; have y1_1 := R1.n; have yl_1 := A1.l; clear A1 U1 P1))
 go_end0
 exact ⟨rfl, M1.out, (U0.out.trans V1.out)⟩
theorem moves_7 (d r : Nat) (f m : Int) (hd : d < 8) (hr : r < 8) (w : World) (a : LM K s w) (hc : 1 ≤ s.cnt ∧ s.cnt ≤ 64) (hn : s.ops.length + 60 < 1000000000) :
  Calls Tryz.prog 86 #[.pointer (some ⟨K.h, 0, none⟩), .agg #[.int .i64 7, .int .i64 d, .int .i64 r, .int .i64 f, .int .u32 m]] w fun e w' => e = .returned (.tuple #[]) ∧ LM K (s.moves 7 d r f m) w' ∧ UW K w w' := by
 have HN := κ hn
 have HC := κ hc
 have HR := κ hr
 have HD := κ hd
 obtain ⟨p1, hp1⟩ : ∃ p, s.goes ((s.nx + m) % 4294967296) = p := ⟨_, rfl⟩
 have g1 : Gw 1 s p1 := by rw [← hp1]; exact put_gw s _ 
 have G1 := κ g1
 clear g1
 have E : s.moves 7 d r f m = p1 := by
  unfold Lk.moves
  rw [if_neg (by decide), if_neg (by decide), if_pos (by decide)]
  simp only [w32, hp1]
 rw [E]
 clear E
 have A0 := κ (a.alloc (.cells #[.int .i64 7, .int .i64 d, .int .i64 r, .int .i64 f, .int .u32 m] 74))
 have B0 := κ (Bx.new a #[.int .i64 7, .int .i64 d, .int .i64 r, .int .i64 f, .int .u32 m] 74)
 have U0 := κ (UW.alloc a.l (.cells #[.int .i64 7, .int .i64 d, .int .i64 r, .int .i64 f, .int .u32 m] 74))
 have uI := Tryz.underlying74
 have iI : (Tryz.prog.info? 74).map (·.size) = some ([.int .i64 7, .int .i64 d, .int .i64 r, .int .i64 f, .int .u32 m] : List Value).length := by kernel_rfl
 clear a hn hc hd hr
 go_enter Tryz.func86, Tryz.ntmps86
 go_upto_region 1 with fail
 generalize w.alloc (.cells #[.int .i64 7, .int .i64 d, .int .i64 r, .int .i64 f, .int .u32 m] 74) = wz at *
 generalize w.heap.size = bx at *
 have R0 := κ (RS.of B0.out A0.out (Gw.refl s))
 have x0_z := B0.out.c 0 _ rfl
 have x1_z := B0.out.c 1 _ rfl
 have x2_z := B0.out.c 2 _ rfl
 have x3_z := B0.out.c 3 _ rfl
 have x4_z := B0.out.c 4 _ rfl
 have xl_z := B0.out.l
 have y4_z := R0.out.p
 have y5_z := R0.out.x
 have y1_z := R0.out.n
 have yl_z := A0.out.l
 go_region
 replace B0 := κ (B0.out.uw (UW.drew (K := K) A0.out.l))
 replace U0 := κ (U0.out.trans (UW.drew (K := K) A0.out.l))
 replace A0 := κ A0.out.drew
 replace R0 := κ R0.out.drew
 clear x0_z x1_z x2_z x3_z x4_z xl_z y4_z y5_z y1_z yl_z
 generalize wz.drew = w0 at *
 have x0_0 := B0.out.c 0 _ rfl
 have x1_0 := B0.out.c 1 _ rfl
 have x2_0 := B0.out.c 2 _ rfl
 have x3_0 := B0.out.c 3 _ rfl
 have x4_0 := B0.out.c 4 _ rfl
 have xl_0 := B0.out.l
 have y4_0 := R0.out.p
 have y5_0 := R0.out.x
 have y1_0 := R0.out.n
 have yl_0 := A0.out.l
 have P1 := goes_any (K := K) ((s.nx + m) % 4294967296) w0 (A0.out) HC.out (by have := HN.out; omega)
 rw [hp1] at P1
 have P1 := κ P1
 go_wp2_with (first
  | (go_at_call 131; refine P1.out.mono ?_; rintro e w1 ⟨rfl, A1, U1⟩; have V1 := κ (U1); have B1 := κ (B0.out.uw V1.out); have M1 := κ A1; have R1 := RS.of B1.out A1 G1.out; have x0_1 := B1.out.c 0 _ rfl; have x1_1 := B1.out.c 1 _ rfl; have x2_1 := B1.out.c 2 _ rfl; have x3_1 := B1.out.c 3 _ rfl; have x4_1 := B1.out.c 4 _ rfl; have xl_1 := B1.out.l; have y4_1 := R1.p; have y5_1 := R1.x; have y1_1 := R1.n; have yl_1 := A1.l; clear A1 U1 P1))
 go_end0
 exact ⟨rfl, M1.out, (U0.out.trans V1.out)⟩
theorem moves_12 (d r : Nat) (f m : Int) (hd : d < 8) (hr : r < 8) (w : World) (a : LM K s w) (hc : 1 ≤ s.cnt ∧ s.cnt ≤ 64) (hn : s.ops.length + 60 < 1000000000) :
  Calls Tryz.prog 86 #[.pointer (some ⟨K.h, 0, none⟩), .agg #[.int .i64 12, .int .i64 d, .int .i64 r, .int .i64 f, .int .u32 m]] w fun e w' => e = .returned (.tuple #[]) ∧ LM K (s.moves 12 d r f m) w' ∧ UW K w w' := by
 have HN := κ hn
 have HC := κ hc
 have HR := κ hr
 have HD := κ hd
 obtain ⟨p1, hp1⟩ : ∃ p, s.holds f = p := ⟨_, rfl⟩
 have g1 : Gw 6 s p1.2 := by rw [← hp1]; exact holds_gw s _ 
 have G1 := κ g1
 clear g1
 obtain ⟨p2, hp2⟩ : ∃ p, p1.2.put ⟨12, 0, p1.1, 0, 0, ((s.nx + m) % 4294967296), s.cnt⟩ = p := ⟨_, rfl⟩
 have g2 : Gw 1 p1.2 p2 := by rw [← hp2]; exact put_gw p1.2 _ 
 have G2 := κ (G1.out.trans g2)
 clear g2
 obtain ⟨p3, hp3⟩ : ∃ p, p2.goes s.nx = p := ⟨_, rfl⟩
 have g3 : Gw 1 p2 p3 := by rw [← hp3]; exact put_gw p2 _ 
 have G3 := κ (G2.out.trans g3)
 clear g3
 have E : s.moves 12 d r f m = p3 := by
  unfold Lk.moves
  rw [if_neg (by decide), if_neg (by decide), if_neg (by decide), if_pos (by decide)]
  simp only [w32, hp1, hp2, hp3]
 rw [E]
 clear E
 have A0 := κ (a.alloc (.cells #[.int .i64 12, .int .i64 d, .int .i64 r, .int .i64 f, .int .u32 m] 74))
 have B0 := κ (Bx.new a #[.int .i64 12, .int .i64 d, .int .i64 r, .int .i64 f, .int .u32 m] 74)
 have U0 := κ (UW.alloc a.l (.cells #[.int .i64 12, .int .i64 d, .int .i64 r, .int .i64 f, .int .u32 m] 74))
 have uI := Tryz.underlying74
 have iI : (Tryz.prog.info? 74).map (·.size) = some ([.int .i64 12, .int .i64 d, .int .i64 r, .int .i64 f, .int .u32 m] : List Value).length := by kernel_rfl
 clear a hn hc hd hr
 go_enter Tryz.func86, Tryz.ntmps86
 go_upto_region 1 with fail
 generalize w.alloc (.cells #[.int .i64 12, .int .i64 d, .int .i64 r, .int .i64 f, .int .u32 m] 74) = wz at *
 generalize w.heap.size = bx at *
 have R0 := κ (RS.of B0.out A0.out (Gw.refl s))
 have x0_z := B0.out.c 0 _ rfl
 have x1_z := B0.out.c 1 _ rfl
 have x2_z := B0.out.c 2 _ rfl
 have x3_z := B0.out.c 3 _ rfl
 have x4_z := B0.out.c 4 _ rfl
 have xl_z := B0.out.l
 have y4_z := R0.out.p
 have y5_z := R0.out.x
 have y1_z := R0.out.n
 have yl_z := A0.out.l
 go_region
 replace B0 := κ (B0.out.uw (UW.drew (K := K) A0.out.l))
 replace U0 := κ (U0.out.trans (UW.drew (K := K) A0.out.l))
 replace A0 := κ A0.out.drew
 replace R0 := κ R0.out.drew
 clear x0_z x1_z x2_z x3_z x4_z xl_z y4_z y5_z y1_z yl_z
 generalize wz.drew = w0 at *
 have x0_0 := B0.out.c 0 _ rfl
 have x1_0 := B0.out.c 1 _ rfl
 have x2_0 := B0.out.c 2 _ rfl
 have x3_0 := B0.out.c 3 _ rfl
 have x4_0 := B0.out.c 4 _ rfl
 have xl_0 := B0.out.l
 have y4_0 := R0.out.p
 have y5_0 := R0.out.x
 have y1_0 := R0.out.n
 have yl_0 := A0.out.l
 have P1 := holds_any (K := K) f w0.drew (A0.out.drew) (by have := HN.out; omega)
 rw [hp1] at P1
 have P1 := κ P1
 go_wp2
 have hf2 : ∀ w : World, (Instr.fieldAt 74 (.pointer (some ⟨bx, 0, none⟩)) 3).run Tryz.prog w = .ok (.pointer (some ⟨bx, 3, none⟩)) w := fun w => by go_simp
 have hl3 : ∀ w', RS K s bx #[.int .i64 12, .int .i64 d, .int .i64 r, .int .i64 f, .int .u32 m] w' → (Instr.loadAt 3 (.pointer (some ⟨bx, 3, none⟩))).run Tryz.prog w' = .ok (.int .i64 f) w' := fun w' h => by
  have hp := h.b.c 3 _ rfl
  have hq := h.b.l
  clear h
  go_simp
 have hf8 : ∀ w : World, (Instr.fieldAt 110 (.pointer (some ⟨K.h, 0, none⟩)) 0).run Tryz.prog w = .ok (.pointer (some ⟨K.h, 0, none⟩)) w := fun w => by go_simp
 have hf9 : ∀ w : World, (Instr.fieldAt 52 (.pointer (some ⟨K.h, 0, none⟩)) 1).run Tryz.prog w = .ok (.pointer (some ⟨K.h, 1, none⟩)) w := fun w => by go_simp
 have hl10 : ∀ w', RS K s bx #[.int .i64 12, .int .i64 d, .int .i64 r, .int .i64 f, .int .u32 m] w' → (Instr.loadAt 3 (.pointer (some ⟨K.h, 1, none⟩))).run Tryz.prog w' = .ok (.int .i64 s.cnt) w' := fun w' h => by
  have hp := h.n
  have hq := h.b.l
  clear h
  go_simp
 have hb11 : ∀ w : World, (Instr.build 115 #[(0, .int .i64 12), (2, .int .i64 p1.1), (5, .int .u32 ((s.nx + m) % 4294967296)), (6, .int .i64 s.cnt)]).run Tryz.prog w = .ok (.agg #[.int .i64 12, .int .i64 0, .int .i64 p1.1, .int .i64 0, .int .i64 0, .int .u32 ((s.nx + m) % 4294967296), .int .i64 s.cnt]) w := fun w => by go_simp
 refine wp_region_held_drew (S := RS K s bx #[.int .i64 12, .int .i64 d, .int .i64 r, .int .i64 f, .int .u32 m]) (by kernel_rfl) (R0.out).drew (fun hHeld => ?_)
 -- 0
 refine κw 0 53 (.pointer (some ⟨K.h, 0, none⟩)) rfl rfl (by kernel_rfl) (by kernel_rfl) (by kernel_rfl) (fun _ _ _ h => h) (Kt.yl_mov (by rfl) _ rfl _ rfl) hHeld ?_
 try simp only [Act.put, κa, κb, κc]
 -- 1
 refine κw 1 54 (.pointer (some ⟨K.h, 0, none⟩)) rfl rfl (by kernel_rfl) (by kernel_rfl) (by kernel_rfl) (fun _ _ _ h => h) (Kt.yl_mov (by rfl) _ rfl _ rfl) hHeld ?_
 try simp only [Act.put, κa, κb, κc]
 -- 2
 refine κw 2 55 (.pointer (some ⟨bx, 3, none⟩)) rfl rfl (by kernel_rfl) (by kernel_rfl) (by kernel_rfl) (fun _ _ _ h => h) (Kt.yl_fld (by rfl) _ _ _ rfl _ _ rfl hf2) hHeld ?_
 try simp only [Act.put, κa, κb, κc]
 -- 3
 refine κw 3 56 (.int .i64 f) rfl rfl (by kernel_rfl) (by kernel_rfl) (by kernel_rfl) (fun _ _ _ h => h) (Kt.yl_ld (by rfl) _ _ rfl _ _ rfl hl3) hHeld ?_
 try simp only [Act.put, κa, κb, κc]
 -- 5
 refine κw 5 58 (.int .u32 ((s.nx + m) % 4294967296)) rfl rfl (by kernel_rfl) (by kernel_rfl) (by kernel_rfl) (fun _ _ _ h => h) (Kt.yl_mov (by rfl) _ rfl _ rfl) hHeld ?_
 try simp only [Act.put, κa, κb, κc]
 -- 6
 refine κw 6 59 (.pointer (some ⟨K.h, 0, none⟩)) rfl rfl (by kernel_rfl) (by kernel_rfl) (by kernel_rfl) (fun _ _ _ h => h) (Kt.yl_mov (by rfl) _ rfl _ rfl) hHeld ?_
 try simp only [Act.put, κa, κb, κc]
 -- 7
 refine κw 7 60 (.pointer (some ⟨K.h, 0, none⟩)) rfl rfl (by kernel_rfl) (by kernel_rfl) (by kernel_rfl) (fun _ _ _ h => h) (Kt.yl_nil (by rfl) _ rfl _ rfl) hHeld ?_
 try simp only [Act.put, κa, κb, κc]
 -- 8
 refine κw 8 61 (.pointer (some ⟨K.h, 0, none⟩)) rfl rfl (by kernel_rfl) (by kernel_rfl) (by kernel_rfl) (fun _ _ _ h => h) (Kt.yl_fld (by rfl) _ _ _ rfl _ _ rfl hf8) hHeld ?_
 try simp only [Act.put, κa, κb, κc]
 -- 9
 refine κw 9 62 (.pointer (some ⟨K.h, 1, none⟩)) rfl rfl (by kernel_rfl) (by kernel_rfl) (by kernel_rfl) (fun _ _ _ h => h) (Kt.yl_fld (by rfl) _ _ _ rfl _ _ rfl hf9) hHeld ?_
 try simp only [Act.put, κa, κb, κc]
 -- 10
 refine κw 10 63 (.int .i64 s.cnt) rfl rfl (by kernel_rfl) (by kernel_rfl) (by kernel_rfl) (fun _ _ _ h => h) (Kt.yl_ld (by rfl) _ _ rfl _ _ rfl hl10) hHeld ?_
 try simp only [Act.put, κa, κb, κc]
 -- 4
 refine wpAnyH_ready (rs := [4]) (by kernel_rfl) (by simp) ?_
 refine AllReadyH.cons rfl (fun KK hKK => ?_) AllReadyH.nil
 go_simp
 go_wp2_with (go_at_call 123; refine P1.out.mono ?_; rintro e w1 ⟨rfl, A1, U1⟩)
 have V1 := κ ((UW.drew (K := K) (W := w0) A0.out.l).trans U1)
 have B1 := κ (B0.out.uw V1.out)
 have M1 := κ A1
 have R1 := RS.of B1.out A1 G1.out
 have x0_1 := B1.out.c 0 _ rfl
 have x1_1 := B1.out.c 1 _ rfl
 have x2_1 := B1.out.c 2 _ rfl
 have x3_1 := B1.out.c 3 _ rfl
 have x4_1 := B1.out.c 4 _ rfl
 have xl_1 := B1.out.l
 have y4_1 := R1.p
 have y5_1 := R1.x
 have y1_1 := R1.n
 have yl_1 := A1.l
 have P2 := put_any (K := K) ⟨12, 0, p1.1, 0, 0, ((s.nx + m) % 4294967296), s.cnt⟩ w1 (A1) (by have := G1.out.n; have := HN.out; omega)
 rw [hp2] at P2
 have P2 := κ P2
 clear A1 U1 P1
 refine hKK.out _ _ ?_ (fun hHeld2 => ?_)
 ·exact R1
 clear hKK KK hHeld
 have hHeld := hHeld2
 clear hHeld2
 try simp only [Act.put, κa, κb, κc]
 -- 11
 refine κw 11 64 (.agg #[.int .i64 12, .int .i64 0, .int .i64 p1.1, .int .i64 0, .int .i64 0, .int .u32 ((s.nx + m) % 4294967296), .int .i64 s.cnt]) rfl rfl (by kernel_rfl) (by kernel_rfl) (by kernel_rfl) (fun _ _ _ h => h) (Kt.yl_bld (by rfl) _ _ rfl (#[(0, .int .i64 12), (2, .int .i64 p1.1), (5, .int .u32 ((s.nx + m) % 4294967296)), (6, .int .i64 s.cnt)]) _ (by kernel_rfl) hb11) hHeld ?_
 try simp only [Act.put, κa, κb, κc]
 -- 12
 refine wpAnyH_ready (rs := [12]) (by kernel_rfl) (by simp) ?_
 refine AllReadyH.cons rfl (fun KK hKK => ?_) AllReadyH.nil
 go_simp
 go_wp2_with (go_at_call 54; refine P2.out.mono ?_; rintro e w2 ⟨rfl, A1, U1⟩)
 have V2 := κ (U1)
 have B2 := κ (B1.out.uw V2.out)
 have M2 := κ A1
 have R2 := RS.of B2.out A1 G2.out
 have x0_2 := B2.out.c 0 _ rfl
 have x1_2 := B2.out.c 1 _ rfl
 have x2_2 := B2.out.c 2 _ rfl
 have x3_2 := B2.out.c 3 _ rfl
 have x4_2 := B2.out.c 4 _ rfl
 have xl_2 := B2.out.l
 have y4_2 := R2.p
 have y5_2 := R2.x
 have y1_2 := R2.n
 have yl_2 := A1.l
 have P3 := goes_any (K := K) s.nx w2 (A1) (by rw [G2.out.cnt]; exact HC.out) (by have := G2.out.n; have := HN.out; omega)
 rw [hp3] at P3
 have P3 := κ P3
 clear A1 U1 P2
 refine hKK.out _ _ ?_ (fun hHeld2 => ?_)
 ·exact R2
 clear hKK KK hHeld
 have hHeld := hHeld2
 clear hHeld2
 try simp only [Act.put, κa, κb, κc]
 refine wpAnyH_done (by kernel_rfl) ?_ _
 go_wp2_with (first
  | (go_at_call 131; refine P3.out.mono ?_; rintro e w3 ⟨rfl, A1, U1⟩; have V3 := κ (U1); have B3 := κ (B2.out.uw V3.out); have M3 := κ A1; have R3 := RS.of B3.out A1 G3.out; have x0_3 := B3.out.c 0 _ rfl; have x1_3 := B3.out.c 1 _ rfl; have x2_3 := B3.out.c 2 _ rfl; have x3_3 := B3.out.c 3 _ rfl; have x4_3 := B3.out.c 4 _ rfl; have xl_3 := B3.out.l; have y4_3 := R3.p; have y5_3 := R3.x; have y1_3 := R3.n; have yl_3 := A1.l; clear A1 U1 P3))
 go_end0
 exact ⟨rfl, M3.out, (((U0.out.trans V1.out).trans V2.out).trans V3.out)⟩
theorem moves_13 (d r : Nat) (f m : Int) (hd : d < 8) (hr : r < 8) (w : World) (a : LM K s w) (hc : 1 ≤ s.cnt ∧ s.cnt ≤ 64) (hn : s.ops.length + 60 < 1000000000) :
  Calls Tryz.prog 86 #[.pointer (some ⟨K.h, 0, none⟩), .agg #[.int .i64 13, .int .i64 d, .int .i64 r, .int .i64 f, .int .u32 m]] w fun e w' => e = .returned (.tuple #[]) ∧ LM K (s.moves 13 d r f m) w' ∧ UW K w w' := by
 have HN := κ hn
 have HC := κ hc
 have HR := κ hr
 have HD := κ hd
 obtain ⟨p1, hp1⟩ : ∃ p, s.holds f = p := ⟨_, rfl⟩
 have g1 : Gw 6 s p1.2 := by rw [← hp1]; exact holds_gw s _ 
 have G1 := κ g1
 clear g1
 obtain ⟨p2, hp2⟩ : ∃ p, p1.2.put ⟨12, 0, p1.1, 0, 0, ((s.nx + m) % 4294967296), s.cnt⟩ = p := ⟨_, rfl⟩
 have g2 : Gw 1 p1.2 p2 := by rw [← hp2]; exact put_gw p1.2 _ 
 have G2 := κ (G1.out.trans g2)
 clear g2
 obtain ⟨p3, hp3⟩ : ∃ p, p2.goes s.nx = p := ⟨_, rfl⟩
 have g3 : Gw 1 p2 p3 := by rw [← hp3]; exact put_gw p2 _ 
 have G3 := κ (G2.out.trans g3)
 clear g3
 have E : s.moves 13 d r f m = p3 := by
  unfold Lk.moves
  rw [if_neg (by decide), if_neg (by decide), if_neg (by decide), if_pos (by decide)]
  simp only [w32, hp1, hp2, hp3]
 rw [E]
 clear E
 have A0 := κ (a.alloc (.cells #[.int .i64 13, .int .i64 d, .int .i64 r, .int .i64 f, .int .u32 m] 74))
 have B0 := κ (Bx.new a #[.int .i64 13, .int .i64 d, .int .i64 r, .int .i64 f, .int .u32 m] 74)
 have U0 := κ (UW.alloc a.l (.cells #[.int .i64 13, .int .i64 d, .int .i64 r, .int .i64 f, .int .u32 m] 74))
 have uI := Tryz.underlying74
 have iI : (Tryz.prog.info? 74).map (·.size) = some ([.int .i64 13, .int .i64 d, .int .i64 r, .int .i64 f, .int .u32 m] : List Value).length := by kernel_rfl
 clear a hn hc hd hr
 go_enter Tryz.func86, Tryz.ntmps86
 go_upto_region 1 with fail
 generalize w.alloc (.cells #[.int .i64 13, .int .i64 d, .int .i64 r, .int .i64 f, .int .u32 m] 74) = wz at *
 generalize w.heap.size = bx at *
 have R0 := κ (RS.of B0.out A0.out (Gw.refl s))
 have x0_z := B0.out.c 0 _ rfl
 have x1_z := B0.out.c 1 _ rfl
 have x2_z := B0.out.c 2 _ rfl
 have x3_z := B0.out.c 3 _ rfl
 have x4_z := B0.out.c 4 _ rfl
 have xl_z := B0.out.l
 have y4_z := R0.out.p
 have y5_z := R0.out.x
 have y1_z := R0.out.n
 have yl_z := A0.out.l
 go_region
 replace B0 := κ (B0.out.uw (UW.drew (K := K) A0.out.l))
 replace U0 := κ (U0.out.trans (UW.drew (K := K) A0.out.l))
 replace A0 := κ A0.out.drew
 replace R0 := κ R0.out.drew
 clear x0_z x1_z x2_z x3_z x4_z xl_z y4_z y5_z y1_z yl_z
 generalize wz.drew = w0 at *
 have x0_0 := B0.out.c 0 _ rfl
 have x1_0 := B0.out.c 1 _ rfl
 have x2_0 := B0.out.c 2 _ rfl
 have x3_0 := B0.out.c 3 _ rfl
 have x4_0 := B0.out.c 4 _ rfl
 have xl_0 := B0.out.l
 have y4_0 := R0.out.p
 have y5_0 := R0.out.x
 have y1_0 := R0.out.n
 have yl_0 := A0.out.l
 have P1 := holds_any (K := K) f w0.drew (A0.out.drew) (by have := HN.out; omega)
 rw [hp1] at P1
 have P1 := κ P1
 go_wp2
 have hf2 : ∀ w : World, (Instr.fieldAt 74 (.pointer (some ⟨bx, 0, none⟩)) 3).run Tryz.prog w = .ok (.pointer (some ⟨bx, 3, none⟩)) w := fun w => by go_simp
 have hl3 : ∀ w', RS K s bx #[.int .i64 13, .int .i64 d, .int .i64 r, .int .i64 f, .int .u32 m] w' → (Instr.loadAt 3 (.pointer (some ⟨bx, 3, none⟩))).run Tryz.prog w' = .ok (.int .i64 f) w' := fun w' h => by
  have hp := h.b.c 3 _ rfl
  have hq := h.b.l
  clear h
  go_simp
 have hf8 : ∀ w : World, (Instr.fieldAt 110 (.pointer (some ⟨K.h, 0, none⟩)) 0).run Tryz.prog w = .ok (.pointer (some ⟨K.h, 0, none⟩)) w := fun w => by go_simp
 have hf9 : ∀ w : World, (Instr.fieldAt 52 (.pointer (some ⟨K.h, 0, none⟩)) 1).run Tryz.prog w = .ok (.pointer (some ⟨K.h, 1, none⟩)) w := fun w => by go_simp
 have hl10 : ∀ w', RS K s bx #[.int .i64 13, .int .i64 d, .int .i64 r, .int .i64 f, .int .u32 m] w' → (Instr.loadAt 3 (.pointer (some ⟨K.h, 1, none⟩))).run Tryz.prog w' = .ok (.int .i64 s.cnt) w' := fun w' h => by
  have hp := h.n
  have hq := h.b.l
  clear h
  go_simp
 have hb11 : ∀ w : World, (Instr.build 115 #[(0, .int .i64 12), (2, .int .i64 p1.1), (5, .int .u32 ((s.nx + m) % 4294967296)), (6, .int .i64 s.cnt)]).run Tryz.prog w = .ok (.agg #[.int .i64 12, .int .i64 0, .int .i64 p1.1, .int .i64 0, .int .i64 0, .int .u32 ((s.nx + m) % 4294967296), .int .i64 s.cnt]) w := fun w => by go_simp
 refine wp_region_held_drew (S := RS K s bx #[.int .i64 13, .int .i64 d, .int .i64 r, .int .i64 f, .int .u32 m]) (by kernel_rfl) (R0.out).drew (fun hHeld => ?_)
 -- 0
 refine κw 0 53 (.pointer (some ⟨K.h, 0, none⟩)) rfl rfl (by kernel_rfl) (by kernel_rfl) (by kernel_rfl) (fun _ _ _ h => h) (Kt.yl_mov (by rfl) _ rfl _ rfl) hHeld ?_
 try simp only [Act.put, κa, κb, κc]
 -- 1
 refine κw 1 54 (.pointer (some ⟨K.h, 0, none⟩)) rfl rfl (by kernel_rfl) (by kernel_rfl) (by kernel_rfl) (fun _ _ _ h => h) (Kt.yl_mov (by rfl) _ rfl _ rfl) hHeld ?_
 try simp only [Act.put, κa, κb, κc]
 -- 2
 refine κw 2 55 (.pointer (some ⟨bx, 3, none⟩)) rfl rfl (by kernel_rfl) (by kernel_rfl) (by kernel_rfl) (fun _ _ _ h => h) (Kt.yl_fld (by rfl) _ _ _ rfl _ _ rfl hf2) hHeld ?_
 try simp only [Act.put, κa, κb, κc]
 -- 3
 refine κw 3 56 (.int .i64 f) rfl rfl (by kernel_rfl) (by kernel_rfl) (by kernel_rfl) (fun _ _ _ h => h) (Kt.yl_ld (by rfl) _ _ rfl _ _ rfl hl3) hHeld ?_
 try simp only [Act.put, κa, κb, κc]
 -- 5
 refine κw 5 58 (.int .u32 ((s.nx + m) % 4294967296)) rfl rfl (by kernel_rfl) (by kernel_rfl) (by kernel_rfl) (fun _ _ _ h => h) (Kt.yl_mov (by rfl) _ rfl _ rfl) hHeld ?_
 try simp only [Act.put, κa, κb, κc]
 -- 6
 refine κw 6 59 (.pointer (some ⟨K.h, 0, none⟩)) rfl rfl (by kernel_rfl) (by kernel_rfl) (by kernel_rfl) (fun _ _ _ h => h) (Kt.yl_mov (by rfl) _ rfl _ rfl) hHeld ?_
 try simp only [Act.put, κa, κb, κc]
 -- 7
 refine κw 7 60 (.pointer (some ⟨K.h, 0, none⟩)) rfl rfl (by kernel_rfl) (by kernel_rfl) (by kernel_rfl) (fun _ _ _ h => h) (Kt.yl_nil (by rfl) _ rfl _ rfl) hHeld ?_
 try simp only [Act.put, κa, κb, κc]
 -- 8
 refine κw 8 61 (.pointer (some ⟨K.h, 0, none⟩)) rfl rfl (by kernel_rfl) (by kernel_rfl) (by kernel_rfl) (fun _ _ _ h => h) (Kt.yl_fld (by rfl) _ _ _ rfl _ _ rfl hf8) hHeld ?_
 try simp only [Act.put, κa, κb, κc]
 -- 9
 refine κw 9 62 (.pointer (some ⟨K.h, 1, none⟩)) rfl rfl (by kernel_rfl) (by kernel_rfl) (by kernel_rfl) (fun _ _ _ h => h) (Kt.yl_fld (by rfl) _ _ _ rfl _ _ rfl hf9) hHeld ?_
 try simp only [Act.put, κa, κb, κc]
 -- 10
 refine κw 10 63 (.int .i64 s.cnt) rfl rfl (by kernel_rfl) (by kernel_rfl) (by kernel_rfl) (fun _ _ _ h => h) (Kt.yl_ld (by rfl) _ _ rfl _ _ rfl hl10) hHeld ?_
 try simp only [Act.put, κa, κb, κc]
 -- 4
 refine wpAnyH_ready (rs := [4]) (by kernel_rfl) (by simp) ?_
 refine AllReadyH.cons rfl (fun KK hKK => ?_) AllReadyH.nil
 go_simp
 go_wp2_with (go_at_call 123; refine P1.out.mono ?_; rintro e w1 ⟨rfl, A1, U1⟩)
 have V1 := κ ((UW.drew (K := K) (W := w0) A0.out.l).trans U1)
 have B1 := κ (B0.out.uw V1.out)
 have M1 := κ A1
 have R1 := RS.of B1.out A1 G1.out
 have x0_1 := B1.out.c 0 _ rfl
 have x1_1 := B1.out.c 1 _ rfl
 have x2_1 := B1.out.c 2 _ rfl
 have x3_1 := B1.out.c 3 _ rfl
 have x4_1 := B1.out.c 4 _ rfl
 have xl_1 := B1.out.l
 have y4_1 := R1.p
 have y5_1 := R1.x
 have y1_1 := R1.n
 have yl_1 := A1.l
 have P2 := put_any (K := K) ⟨12, 0, p1.1, 0, 0, ((s.nx + m) % 4294967296), s.cnt⟩ w1 (A1) (by have := G1.out.n; have := HN.out; omega)
 rw [hp2] at P2
 have P2 := κ P2
 clear A1 U1 P1
 refine hKK.out _ _ ?_ (fun hHeld2 => ?_)
 ·exact R1
 clear hKK KK hHeld
 have hHeld := hHeld2
 clear hHeld2
 try simp only [Act.put, κa, κb, κc]
 -- 11
 refine κw 11 64 (.agg #[.int .i64 12, .int .i64 0, .int .i64 p1.1, .int .i64 0, .int .i64 0, .int .u32 ((s.nx + m) % 4294967296), .int .i64 s.cnt]) rfl rfl (by kernel_rfl) (by kernel_rfl) (by kernel_rfl) (fun _ _ _ h => h) (Kt.yl_bld (by rfl) _ _ rfl (#[(0, .int .i64 12), (2, .int .i64 p1.1), (5, .int .u32 ((s.nx + m) % 4294967296)), (6, .int .i64 s.cnt)]) _ (by kernel_rfl) hb11) hHeld ?_
 try simp only [Act.put, κa, κb, κc]
 -- 12
 refine wpAnyH_ready (rs := [12]) (by kernel_rfl) (by simp) ?_
 refine AllReadyH.cons rfl (fun KK hKK => ?_) AllReadyH.nil
 go_simp
 go_wp2_with (go_at_call 54; refine P2.out.mono ?_; rintro e w2 ⟨rfl, A1, U1⟩)
 have V2 := κ (U1)
 have B2 := κ (B1.out.uw V2.out)
 have M2 := κ A1
 have R2 := RS.of B2.out A1 G2.out
 have x0_2 := B2.out.c 0 _ rfl
 have x1_2 := B2.out.c 1 _ rfl
 have x2_2 := B2.out.c 2 _ rfl
 have x3_2 := B2.out.c 3 _ rfl
 have x4_2 := B2.out.c 4 _ rfl
 have xl_2 := B2.out.l
 have y4_2 := R2.p
 have y5_2 := R2.x
 have y1_2 := R2.n
 have yl_2 := A1.l
 have P3 := goes_any (K := K) s.nx w2 (A1) (by rw [G2.out.cnt]; exact HC.out) (by have := G2.out.n; have := HN.out; omega)
 rw [hp3] at P3
 have P3 := κ P3
 clear A1 U1 P2
 refine hKK.out _ _ ?_ (fun hHeld2 => ?_)
 ·exact R2
 clear hKK KK hHeld
 have hHeld := hHeld2
 clear hHeld2
 try simp only [Act.put, κa, κb, κc]
 refine wpAnyH_done (by kernel_rfl) ?_ _
 go_wp2_with (first
  | (go_at_call 131; refine P3.out.mono ?_; rintro e w3 ⟨rfl, A1, U1⟩; have V3 := κ (U1); have B3 := κ (B2.out.uw V3.out); have M3 := κ A1; have R3 := RS.of B3.out A1 G3.out; have x0_3 := B3.out.c 0 _ rfl; have x1_3 := B3.out.c 1 _ rfl; have x2_3 := B3.out.c 2 _ rfl; have x3_3 := B3.out.c 3 _ rfl; have x4_3 := B3.out.c 4 _ rfl; have xl_3 := B3.out.l; have y4_3 := R3.p; have y5_3 := R3.x; have y1_3 := R3.n; have yl_3 := A1.l; clear A1 U1 P3))
 go_end0
 exact ⟨rfl, M3.out, (((U0.out.trans V1.out).trans V2.out).trans V3.out)⟩
theorem moves_9 (d r : Nat) (f m : Int) (hd : d < 8) (hr : r < 8) (w : World) (a : LM K s w) (hc : 1 ≤ s.cnt ∧ s.cnt ≤ 64) (hn : s.ops.length + 60 < 1000000000) :
  Calls Tryz.prog 86 #[.pointer (some ⟨K.h, 0, none⟩), .agg #[.int .i64 9, .int .i64 d, .int .i64 r, .int .i64 f, .int .u32 m]] w fun e w' => e = .returned (.tuple #[]) ∧ LM K (s.moves 9 d r f m) w' ∧ UW K w w' := by
 have HN := κ hn
 have HC := κ hc
 have HR := κ hr
 have HD := κ hd
 obtain ⟨p1, hp1⟩ : ∃ p, s.get r = p := ⟨_, rfl⟩
 have g1 : Gw 1 s p1.2 := by rw [← hp1]; exact get_gw s _ 
 have G1 := κ g1
 clear g1
 obtain ⟨p2, hp2⟩ : ∃ p, p1.2.goesTo p1.1 = p := ⟨_, rfl⟩
 have g2 : Gw 1 p1.2 p2 := by rw [← hp2]; exact put_gw p1.2 _ 
 have G2 := κ (G1.out.trans g2)
 clear g2
 have E : s.moves 9 d r f m = p2 := by
  unfold Lk.moves
  rw [if_neg (by decide), if_neg (by decide), if_neg (by decide), if_neg (by decide), if_pos (by decide)]
  simp only [w32, hp1, hp2]
 rw [E]
 clear E
 have A0 := κ (a.alloc (.cells #[.int .i64 9, .int .i64 d, .int .i64 r, .int .i64 f, .int .u32 m] 74))
 have B0 := κ (Bx.new a #[.int .i64 9, .int .i64 d, .int .i64 r, .int .i64 f, .int .u32 m] 74)
 have U0 := κ (UW.alloc a.l (.cells #[.int .i64 9, .int .i64 d, .int .i64 r, .int .i64 f, .int .u32 m] 74))
 have uI := Tryz.underlying74
 have iI : (Tryz.prog.info? 74).map (·.size) = some ([.int .i64 9, .int .i64 d, .int .i64 r, .int .i64 f, .int .u32 m] : List Value).length := by kernel_rfl
 clear a hn hc hd hr
 go_enter Tryz.func86, Tryz.ntmps86
 go_upto_region 1 with fail
 generalize w.alloc (.cells #[.int .i64 9, .int .i64 d, .int .i64 r, .int .i64 f, .int .u32 m] 74) = wz at *
 generalize w.heap.size = bx at *
 have R0 := κ (RS.of B0.out A0.out (Gw.refl s))
 have x0_z := B0.out.c 0 _ rfl
 have x1_z := B0.out.c 1 _ rfl
 have x2_z := B0.out.c 2 _ rfl
 have x3_z := B0.out.c 3 _ rfl
 have x4_z := B0.out.c 4 _ rfl
 have xl_z := B0.out.l
 have y4_z := R0.out.p
 have y5_z := R0.out.x
 have y1_z := R0.out.n
 have yl_z := A0.out.l
 go_region
 replace B0 := κ (B0.out.uw (UW.drew (K := K) A0.out.l))
 replace U0 := κ (U0.out.trans (UW.drew (K := K) A0.out.l))
 replace A0 := κ A0.out.drew
 replace R0 := κ R0.out.drew
 clear x0_z x1_z x2_z x3_z x4_z xl_z y4_z y5_z y1_z yl_z
 generalize wz.drew = w0 at *
 have x0_0 := B0.out.c 0 _ rfl
 have x1_0 := B0.out.c 1 _ rfl
 have x2_0 := B0.out.c 2 _ rfl
 have x3_0 := B0.out.c 3 _ rfl
 have x4_0 := B0.out.c 4 _ rfl
 have xl_0 := B0.out.l
 have y4_0 := R0.out.p
 have y5_0 := R0.out.x
 have y1_0 := R0.out.n
 have yl_0 := A0.out.l
 have P1 := get_any (K := K) r HR.out w0 (A0.out) (by have := HN.out; omega)
 rw [hp1] at P1
 have P1 := κ P1
 go_wp2_with (first
  | (go_at_call 118; refine P1.out.mono ?_; rintro e w1 ⟨rfl, A1, U1⟩; have V1 := κ (U1); have B1 := κ (B0.out.uw V1.out); have M1 := κ A1; have R1 := RS.of B1.out A1 G1.out; have x0_1 := B1.out.c 0 _ rfl; have x1_1 := B1.out.c 1 _ rfl; have x2_1 := B1.out.c 2 _ rfl; have x3_1 := B1.out.c 3 _ rfl; have x4_1 := B1.out.c 4 _ rfl; have xl_1 := B1.out.l; have y4_1 := R1.p; have y5_1 := R1.x; have y1_1 := R1.n; have yl_1 := A1.l; have P2 := goesTo_any (K := K) p1.1 w1 (A1) (by rw [G1.out.cnt]; exact HC.out) (by have := G1.out.n; have := HN.out; omega); rw [hp2] at P2; have P2 := κ P2; clear A1 U1 P1)
  | (go_at_call 132; refine P2.out.mono ?_; rintro e w2 ⟨rfl, A1, U1⟩; have V2 := κ (U1); have B2 := κ (B1.out.uw V2.out); have M2 := κ A1; have R2 := RS.of B2.out A1 G2.out; have x0_2 := B2.out.c 0 _ rfl; have x1_2 := B2.out.c 1 _ rfl; have x2_2 := B2.out.c 2 _ rfl; have x3_2 := B2.out.c 3 _ rfl; have x4_2 := B2.out.c 4 _ rfl; have xl_2 := B2.out.l; have y4_2 := R2.p; have y5_2 := R2.x; have y1_2 := R2.n; have yl_2 := A1.l; clear A1 U1 P2))
 go_end0
 exact ⟨rfl, M2.out, ((U0.out.trans V1.out).trans V2.out)⟩
theorem moves_11 (d r : Nat) (f m : Int) (hd : d < 8) (hr : r < 8) (w : World) (a : LM K s w) (hc : 1 ≤ s.cnt ∧ s.cnt ≤ 64) (hn : s.ops.length + 60 < 1000000000) :
  Calls Tryz.prog 86 #[.pointer (some ⟨K.h, 0, none⟩), .agg #[.int .i64 11, .int .i64 d, .int .i64 r, .int .i64 f, .int .u32 m]] w fun e w' => e = .returned (.tuple #[]) ∧ LM K (s.moves 11 d r f m) w' ∧ UW K w w' := by
 have HN := κ hn
 have HC := κ hc
 have HR := κ hr
 have HD := κ hd
 obtain ⟨p1, hp1⟩ : ∃ p, s.whr r m = p := ⟨_, rfl⟩
 have g1 : Gw 3 s p1.2 := by rw [← hp1]; exact whr_gw s _ _ 
 have G1 := κ g1
 clear g1
 obtain ⟨p2, hp2⟩ : ∃ p, p1.2.load 4 p1.1 = p := ⟨_, rfl⟩
 have g2 : Gw 1 p1.2 p2.2 := by rw [← hp2]; exact load_gw p1.2 _ _ 
 have G2 := κ (G1.out.trans g2)
 clear g2
 obtain ⟨p3, hp3⟩ : ∃ p, p2.2.goesTo p2.1 = p := ⟨_, rfl⟩
 have g3 : Gw 1 p2.2 p3 := by rw [← hp3]; exact put_gw p2.2 _ 
 have G3 := κ (G2.out.trans g3)
 clear g3
 have E : s.moves 11 d r f m = p3 := by
  unfold Lk.moves
  rw [if_neg (by decide), if_neg (by decide), if_neg (by decide), if_neg (by decide), if_neg (by decide), if_pos (by decide)]
  simp only [w32, hp1, hp2, hp3]
 rw [E]
 clear E
 have A0 := κ (a.alloc (.cells #[.int .i64 11, .int .i64 d, .int .i64 r, .int .i64 f, .int .u32 m] 74))
 have B0 := κ (Bx.new a #[.int .i64 11, .int .i64 d, .int .i64 r, .int .i64 f, .int .u32 m] 74)
 have U0 := κ (UW.alloc a.l (.cells #[.int .i64 11, .int .i64 d, .int .i64 r, .int .i64 f, .int .u32 m] 74))
 have uI := Tryz.underlying74
 have iI : (Tryz.prog.info? 74).map (·.size) = some ([.int .i64 11, .int .i64 d, .int .i64 r, .int .i64 f, .int .u32 m] : List Value).length := by kernel_rfl
 clear a hn hc hd hr
 go_enter Tryz.func86, Tryz.ntmps86
 go_upto_region 1 with fail
 generalize w.alloc (.cells #[.int .i64 11, .int .i64 d, .int .i64 r, .int .i64 f, .int .u32 m] 74) = wz at *
 generalize w.heap.size = bx at *
 have R0 := κ (RS.of B0.out A0.out (Gw.refl s))
 have x0_z := B0.out.c 0 _ rfl
 have x1_z := B0.out.c 1 _ rfl
 have x2_z := B0.out.c 2 _ rfl
 have x3_z := B0.out.c 3 _ rfl
 have x4_z := B0.out.c 4 _ rfl
 have xl_z := B0.out.l
 have y4_z := R0.out.p
 have y5_z := R0.out.x
 have y1_z := R0.out.n
 have yl_z := A0.out.l
 go_region
 replace B0 := κ (B0.out.uw (UW.drew (K := K) A0.out.l))
 replace U0 := κ (U0.out.trans (UW.drew (K := K) A0.out.l))
 replace A0 := κ A0.out.drew
 replace R0 := κ R0.out.drew
 clear x0_z x1_z x2_z x3_z x4_z xl_z y4_z y5_z y1_z yl_z
 generalize wz.drew = w0 at *
 have x0_0 := B0.out.c 0 _ rfl
 have x1_0 := B0.out.c 1 _ rfl
 have x2_0 := B0.out.c 2 _ rfl
 have x3_0 := B0.out.c 3 _ rfl
 have x4_0 := B0.out.c 4 _ rfl
 have xl_0 := B0.out.l
 have y4_0 := R0.out.p
 have y5_0 := R0.out.x
 have y1_0 := R0.out.n
 have yl_0 := A0.out.l
 have P1 := whr_any (K := K) 11 d f m r HR.out w0 (A0.out) (by have := HN.out; omega)
 rw [hp1] at P1
 have P1 := κ P1
 go_wp2_with (first
  | (go_at_call 124; refine P1.out.mono ?_; rintro e w1 ⟨rfl, A1, U1⟩; have V1 := κ (U1); have B1 := κ (B0.out.uw V1.out); have M1 := κ A1; have R1 := RS.of B1.out A1 G1.out; have x0_1 := B1.out.c 0 _ rfl; have x1_1 := B1.out.c 1 _ rfl; have x2_1 := B1.out.c 2 _ rfl; have x3_1 := B1.out.c 3 _ rfl; have x4_1 := B1.out.c 4 _ rfl; have xl_1 := B1.out.l; have y4_1 := R1.p; have y5_1 := R1.x; have y1_1 := R1.n; have yl_1 := A1.l; have P2 := load_any (K := K) 4 p1.1 w1 (A1) (by rw [G1.out.cnt]; exact HC.out) (by have := G1.out.n; have := HN.out; omega); rw [hp2] at P2; have P2 := κ P2; clear A1 U1 P1)
  | (go_at_call 126; refine P2.out.mono ?_; rintro e w2 ⟨rfl, A1, U1⟩; have V2 := κ (U1); have B2 := κ (B1.out.uw V2.out); have M2 := κ A1; have R2 := RS.of B2.out A1 G2.out; have x0_2 := B2.out.c 0 _ rfl; have x1_2 := B2.out.c 1 _ rfl; have x2_2 := B2.out.c 2 _ rfl; have x3_2 := B2.out.c 3 _ rfl; have x4_2 := B2.out.c 4 _ rfl; have xl_2 := B2.out.l; have y4_2 := R2.p; have y5_2 := R2.x; have y1_2 := R2.n; have yl_2 := A1.l; have P3 := goesTo_any (K := K) p2.1 w2 (A1) (by rw [G2.out.cnt]; exact HC.out) (by have := G2.out.n; have := HN.out; omega); rw [hp3] at P3; have P3 := κ P3; clear A1 U1 P2)
  | (go_at_call 132; refine P3.out.mono ?_; rintro e w3 ⟨rfl, A1, U1⟩; have V3 := κ (U1); have B3 := κ (B2.out.uw V3.out); have M3 := κ A1; have R3 := RS.of B3.out A1 G3.out; have x0_3 := B3.out.c 0 _ rfl; have x1_3 := B3.out.c 1 _ rfl; have x2_3 := B3.out.c 2 _ rfl; have x3_3 := B3.out.c 3 _ rfl; have x4_3 := B3.out.c 4 _ rfl; have xl_3 := B3.out.l; have y4_3 := R3.p; have y5_3 := R3.x; have y1_3 := R3.n; have yl_3 := A1.l; clear A1 U1 P3))
 go_end0
 exact ⟨rfl, M3.out, (((U0.out.trans V1.out).trans V2.out).trans V3.out)⟩
theorem moves_8 (d r : Nat) (f m : Int) (hd : d < 8) (hr : r < 8) (w : World) (a : LM K s w) (hc : 1 ≤ s.cnt ∧ s.cnt ≤ 64) (hn : s.ops.length + 60 < 1000000000) :
  Calls Tryz.prog 86 #[.pointer (some ⟨K.h, 0, none⟩), .agg #[.int .i64 8, .int .i64 d, .int .i64 r, .int .i64 f, .int .u32 m]] w fun e w' => e = .returned (.tuple #[]) ∧ LM K (s.moves 8 d r f m) w' ∧ UW K w w' := by
 have HN := κ hn
 have HC := κ hc
 have HR := κ hr
 have HD := κ hd
 obtain ⟨p1, hp1⟩ : ∃ p, s.K s.nx = p := ⟨_, rfl⟩
 have g1 : Gw 1 s p1.2 := by rw [← hp1]; exact K_gw s _ 
 have G1 := κ g1
 clear g1
 obtain ⟨p2, hp2⟩ : ∃ p, p1.2.push p1.1 = p := ⟨_, rfl⟩
 have g2 : Gw 5 p1.2 p2 := by rw [← hp2]; exact push_gw p1.2 _ 
 have G2 := κ (G1.out.trans g2)
 clear g2
 obtain ⟨p3, hp3⟩ : ∃ p, p2.goes ((s.nx + m) % 4294967296) = p := ⟨_, rfl⟩
 have g3 : Gw 1 p2 p3 := by rw [← hp3]; exact put_gw p2 _ 
 have G3 := κ (G2.out.trans g3)
 clear g3
 have E : s.moves 8 d r f m = p3 := by
  unfold Lk.moves
  rw [if_neg (by decide), if_neg (by decide), if_neg (by decide), if_neg (by decide), if_neg (by decide), if_neg (by decide), if_pos (by decide)]
  simp only [w32, hp1, hp2, hp3]
 rw [E]
 clear E
 have A0 := κ (a.alloc (.cells #[.int .i64 8, .int .i64 d, .int .i64 r, .int .i64 f, .int .u32 m] 74))
 have B0 := κ (Bx.new a #[.int .i64 8, .int .i64 d, .int .i64 r, .int .i64 f, .int .u32 m] 74)
 have U0 := κ (UW.alloc a.l (.cells #[.int .i64 8, .int .i64 d, .int .i64 r, .int .i64 f, .int .u32 m] 74))
 have uI := Tryz.underlying74
 have iI : (Tryz.prog.info? 74).map (·.size) = some ([.int .i64 8, .int .i64 d, .int .i64 r, .int .i64 f, .int .u32 m] : List Value).length := by kernel_rfl
 clear a hn hc hd hr
 go_enter Tryz.func86, Tryz.ntmps86
 go_upto_region 1 with fail
 generalize w.alloc (.cells #[.int .i64 8, .int .i64 d, .int .i64 r, .int .i64 f, .int .u32 m] 74) = wz at *
 generalize w.heap.size = bx at *
 have R0 := κ (RS.of B0.out A0.out (Gw.refl s))
 have x0_z := B0.out.c 0 _ rfl
 have x1_z := B0.out.c 1 _ rfl
 have x2_z := B0.out.c 2 _ rfl
 have x3_z := B0.out.c 3 _ rfl
 have x4_z := B0.out.c 4 _ rfl
 have xl_z := B0.out.l
 have y4_z := R0.out.p
 have y5_z := R0.out.x
 have y1_z := R0.out.n
 have yl_z := A0.out.l
 go_region
 replace B0 := κ (B0.out.uw (UW.drew (K := K) A0.out.l))
 replace U0 := κ (U0.out.trans (UW.drew (K := K) A0.out.l))
 replace A0 := κ A0.out.drew
 replace R0 := κ R0.out.drew
 clear x0_z x1_z x2_z x3_z x4_z xl_z y4_z y5_z y1_z yl_z
 generalize wz.drew = w0 at *
 have x0_0 := B0.out.c 0 _ rfl
 have x1_0 := B0.out.c 1 _ rfl
 have x2_0 := B0.out.c 2 _ rfl
 have x3_0 := B0.out.c 3 _ rfl
 have x4_0 := B0.out.c 4 _ rfl
 have xl_0 := B0.out.l
 have y4_0 := R0.out.p
 have y5_0 := R0.out.x
 have y1_0 := R0.out.n
 have yl_0 := A0.out.l
 have P1 := konst_any (K := K) s.nx w0 (A0.out) (by have := HN.out; omega)
 rw [hp1] at P1
 have P1 := κ P1
 go_wp2_with (first
  | (go_at_call 117; refine P1.out.mono ?_; rintro e w1 ⟨rfl, A1, U1⟩; have V1 := κ (U1); have B1 := κ (B0.out.uw V1.out); have M1 := κ A1; have R1 := RS.of B1.out A1 G1.out; have x0_1 := B1.out.c 0 _ rfl; have x1_1 := B1.out.c 1 _ rfl; have x2_1 := B1.out.c 2 _ rfl; have x3_1 := B1.out.c 3 _ rfl; have x4_1 := B1.out.c 4 _ rfl; have xl_1 := B1.out.l; have y4_1 := R1.p; have y5_1 := R1.x; have y1_1 := R1.n; have yl_1 := A1.l; have P2 := push_any (K := K) p1.1 w1 (A1) (by rw [G1.out.cnt]; exact HC.out) (by have := G1.out.n; have := HN.out; omega); rw [hp2] at P2; have P2 := κ P2; clear A1 U1 P1)
  | (go_at_call 133; refine P2.out.mono ?_; rintro e w2 ⟨rfl, A1, U1⟩; have V2 := κ (U1); have B2 := κ (B1.out.uw V2.out); have M2 := κ A1; have R2 := RS.of B2.out A1 G2.out; have x0_2 := B2.out.c 0 _ rfl; have x1_2 := B2.out.c 1 _ rfl; have x2_2 := B2.out.c 2 _ rfl; have x3_2 := B2.out.c 3 _ rfl; have x4_2 := B2.out.c 4 _ rfl; have xl_2 := B2.out.l; have y4_2 := R2.p; have y5_2 := R2.x; have y1_2 := R2.n; have yl_2 := A1.l; have P3 := goes_any (K := K) ((s.nx + m) % 4294967296) w2 (A1) (by rw [G2.out.cnt]; exact HC.out) (by have := G2.out.n; have := HN.out; omega); rw [hp3] at P3; have P3 := κ P3; clear A1 U1 P2)
  | (go_at_call 131; refine P3.out.mono ?_; rintro e w3 ⟨rfl, A1, U1⟩; have V3 := κ (U1); have B3 := κ (B2.out.uw V3.out); have M3 := κ A1; have R3 := RS.of B3.out A1 G3.out; have x0_3 := B3.out.c 0 _ rfl; have x1_3 := B3.out.c 1 _ rfl; have x2_3 := B3.out.c 2 _ rfl; have x3_3 := B3.out.c 3 _ rfl; have x4_3 := B3.out.c 4 _ rfl; have xl_3 := B3.out.l; have y4_3 := R3.p; have y5_3 := R3.x; have y1_3 := R3.n; have yl_3 := A1.l; clear A1 U1 P3))
 go_end0
 exact ⟨rfl, M3.out, (((U0.out.trans V1.out).trans V2.out).trans V3.out)⟩
theorem moves_10 (d r : Nat) (f m : Int) (hd : d < 8) (hr : r < 8) (w : World) (a : LM K s w) (hc : 1 ≤ s.cnt ∧ s.cnt ≤ 64) (hn : s.ops.length + 60 < 1000000000) :
  Calls Tryz.prog 86 #[.pointer (some ⟨K.h, 0, none⟩), .agg #[.int .i64 10, .int .i64 d, .int .i64 r, .int .i64 f, .int .u32 m]] w fun e w' => e = .returned (.tuple #[]) ∧ LM K (s.moves 10 d r f m) w' ∧ UW K w w' := by
 have HN := κ hn
 have HC := κ hc
 have HR := κ hr
 have HD := κ hd
 obtain ⟨p1, hp1⟩ : ∃ p, s.get r = p := ⟨_, rfl⟩
 have g1 : Gw 1 s p1.2 := by rw [← hp1]; exact get_gw s _ 
 have G1 := κ g1
 clear g1
 obtain ⟨p2, hp2⟩ : ∃ p, p1.2.K s.nx = p := ⟨_, rfl⟩
 have g2 : Gw 1 p1.2 p2.2 := by rw [← hp2]; exact K_gw p1.2 _ 
 have G2 := κ (G1.out.trans g2)
 clear g2
 obtain ⟨p3, hp3⟩ : ∃ p, p2.2.push p2.1 = p := ⟨_, rfl⟩
 have g3 : Gw 5 p2.2 p3 := by rw [← hp3]; exact push_gw p2.2 _ 
 have G3 := κ (G2.out.trans g3)
 clear g3
 obtain ⟨p4, hp4⟩ : ∃ p, p3.goesTo p1.1 = p := ⟨_, rfl⟩
 have g4 : Gw 1 p3 p4 := by rw [← hp4]; exact put_gw p3 _ 
 have G4 := κ (G3.out.trans g4)
 clear g4
 have E : s.moves 10 d r f m = p4 := by
  unfold Lk.moves
  rw [if_neg (by decide), if_neg (by decide), if_neg (by decide), if_neg (by decide), if_neg (by decide), if_neg (by decide), if_neg (by decide), if_pos (by decide)]
  simp only [w32, hp1, hp2, hp3, hp4]
 rw [E]
 clear E
 have A0 := κ (a.alloc (.cells #[.int .i64 10, .int .i64 d, .int .i64 r, .int .i64 f, .int .u32 m] 74))
 have B0 := κ (Bx.new a #[.int .i64 10, .int .i64 d, .int .i64 r, .int .i64 f, .int .u32 m] 74)
 have U0 := κ (UW.alloc a.l (.cells #[.int .i64 10, .int .i64 d, .int .i64 r, .int .i64 f, .int .u32 m] 74))
 have uI := Tryz.underlying74
 have iI : (Tryz.prog.info? 74).map (·.size) = some ([.int .i64 10, .int .i64 d, .int .i64 r, .int .i64 f, .int .u32 m] : List Value).length := by kernel_rfl
 clear a hn hc hd hr
 go_enter Tryz.func86, Tryz.ntmps86
 go_upto_region 1 with fail
 generalize w.alloc (.cells #[.int .i64 10, .int .i64 d, .int .i64 r, .int .i64 f, .int .u32 m] 74) = wz at *
 generalize w.heap.size = bx at *
 have R0 := κ (RS.of B0.out A0.out (Gw.refl s))
 have x0_z := B0.out.c 0 _ rfl
 have x1_z := B0.out.c 1 _ rfl
 have x2_z := B0.out.c 2 _ rfl
 have x3_z := B0.out.c 3 _ rfl
 have x4_z := B0.out.c 4 _ rfl
 have xl_z := B0.out.l
 have y4_z := R0.out.p
 have y5_z := R0.out.x
 have y1_z := R0.out.n
 have yl_z := A0.out.l
 go_region
 replace B0 := κ (B0.out.uw (UW.drew (K := K) A0.out.l))
 replace U0 := κ (U0.out.trans (UW.drew (K := K) A0.out.l))
 replace A0 := κ A0.out.drew
 replace R0 := κ R0.out.drew
 clear x0_z x1_z x2_z x3_z x4_z xl_z y4_z y5_z y1_z yl_z
 generalize wz.drew = w0 at *
 have x0_0 := B0.out.c 0 _ rfl
 have x1_0 := B0.out.c 1 _ rfl
 have x2_0 := B0.out.c 2 _ rfl
 have x3_0 := B0.out.c 3 _ rfl
 have x4_0 := B0.out.c 4 _ rfl
 have xl_0 := B0.out.l
 have y4_0 := R0.out.p
 have y5_0 := R0.out.x
 have y1_0 := R0.out.n
 have yl_0 := A0.out.l
 have P1 := get_any (K := K) r HR.out w0 (A0.out) (by have := HN.out; omega)
 rw [hp1] at P1
 have P1 := κ P1
 go_wp2_with (first
  | (go_at_call 118; refine P1.out.mono ?_; rintro e w1 ⟨rfl, A1, U1⟩; have V1 := κ (U1); have B1 := κ (B0.out.uw V1.out); have M1 := κ A1; have R1 := RS.of B1.out A1 G1.out; have x0_1 := B1.out.c 0 _ rfl; have x1_1 := B1.out.c 1 _ rfl; have x2_1 := B1.out.c 2 _ rfl; have x3_1 := B1.out.c 3 _ rfl; have x4_1 := B1.out.c 4 _ rfl; have xl_1 := B1.out.l; have y4_1 := R1.p; have y5_1 := R1.x; have y1_1 := R1.n; have yl_1 := A1.l; have P2 := konst_any (K := K) s.nx w1 (A1) (by have := G1.out.n; have := HN.out; omega); rw [hp2] at P2; have P2 := κ P2; clear A1 U1 P1)
  | (go_at_call 117; refine P2.out.mono ?_; rintro e w2 ⟨rfl, A1, U1⟩; have V2 := κ (U1); have B2 := κ (B1.out.uw V2.out); have M2 := κ A1; have R2 := RS.of B2.out A1 G2.out; have x0_2 := B2.out.c 0 _ rfl; have x1_2 := B2.out.c 1 _ rfl; have x2_2 := B2.out.c 2 _ rfl; have x3_2 := B2.out.c 3 _ rfl; have x4_2 := B2.out.c 4 _ rfl; have xl_2 := B2.out.l; have y4_2 := R2.p; have y5_2 := R2.x; have y1_2 := R2.n; have yl_2 := A1.l; have P3 := push_any (K := K) p2.1 w2 (A1) (by rw [G2.out.cnt]; exact HC.out) (by have := G2.out.n; have := HN.out; omega); rw [hp3] at P3; have P3 := κ P3; clear A1 U1 P2)
  | (go_at_call 133; refine P3.out.mono ?_; rintro e w3 ⟨rfl, A1, U1⟩; have V3 := κ (U1); have B3 := κ (B2.out.uw V3.out); have M3 := κ A1; have R3 := RS.of B3.out A1 G3.out; have x0_3 := B3.out.c 0 _ rfl; have x1_3 := B3.out.c 1 _ rfl; have x2_3 := B3.out.c 2 _ rfl; have x3_3 := B3.out.c 3 _ rfl; have x4_3 := B3.out.c 4 _ rfl; have xl_3 := B3.out.l; have y4_3 := R3.p; have y5_3 := R3.x; have y1_3 := R3.n; have yl_3 := A1.l; have P4 := goesTo_any (K := K) p1.1 w3 (A1) (by rw [G3.out.cnt]; exact HC.out) (by have := G3.out.n; have := HN.out; omega); rw [hp4] at P4; have P4 := κ P4; clear A1 U1 P3)
  | (go_at_call 132; refine P4.out.mono ?_; rintro e w4 ⟨rfl, A1, U1⟩; have V4 := κ (U1); have B4 := κ (B3.out.uw V4.out); have M4 := κ A1; have R4 := RS.of B4.out A1 G4.out; have x0_4 := B4.out.c 0 _ rfl; have x1_4 := B4.out.c 1 _ rfl; have x2_4 := B4.out.c 2 _ rfl; have x3_4 := B4.out.c 3 _ rfl; have x4_4 := B4.out.c 4 _ rfl; have xl_4 := B4.out.l; have y4_4 := R4.p; have y5_4 := R4.x; have y1_4 := R4.n; have yl_4 := A1.l; clear A1 U1 P4))
 go_end0
 exact ⟨rfl, M4.out, ((((U0.out.trans V1.out).trans V2.out).trans V3.out).trans V4.out)⟩
theorem moves_2 (d r : Nat) (f m : Int) (hd : d < 8) (hr : r < 8) (w : World) (a : LM K s w) (hc : 1 ≤ s.cnt ∧ s.cnt ≤ 64) (hn : s.ops.length + 60 < 1000000000) :
  Calls Tryz.prog 86 #[.pointer (some ⟨K.h, 0, none⟩), .agg #[.int .i64 2, .int .i64 d, .int .i64 r, .int .i64 f, .int .u32 m]] w fun e w' => e = .returned (.tuple #[]) ∧ LM K (s.moves 2 d r f m) w' ∧ UW K w w' := by
 have HN := κ hn
 have HC := κ hc
 have HR := κ hr
 have HD := κ hd
 obtain ⟨p1, hp1⟩ : ∃ p, s.pop = p := ⟨_, rfl⟩
 have g1 : Gw 5 s p1.2 := by rw [← hp1]; exact pop_gw s 
 have G1 := κ g1
 clear g1
 obtain ⟨p2, hp2⟩ : ∃ p, p1.2.goesTo p1.1 = p := ⟨_, rfl⟩
 have g2 : Gw 1 p1.2 p2 := by rw [← hp2]; exact put_gw p1.2 _ 
 have G2 := κ (G1.out.trans g2)
 clear g2
 have E : s.moves 2 d r f m = p2 := by
  unfold Lk.moves
  rw [if_neg (by decide), if_neg (by decide), if_neg (by decide), if_neg (by decide), if_neg (by decide), if_neg (by decide), if_neg (by decide), if_neg (by decide), if_pos (by decide)]
  simp only [w32, hp1, hp2]
 rw [E]
 clear E
 have A0 := κ (a.alloc (.cells #[.int .i64 2, .int .i64 d, .int .i64 r, .int .i64 f, .int .u32 m] 74))
 have B0 := κ (Bx.new a #[.int .i64 2, .int .i64 d, .int .i64 r, .int .i64 f, .int .u32 m] 74)
 have U0 := κ (UW.alloc a.l (.cells #[.int .i64 2, .int .i64 d, .int .i64 r, .int .i64 f, .int .u32 m] 74))
 have uI := Tryz.underlying74
 have iI : (Tryz.prog.info? 74).map (·.size) = some ([.int .i64 2, .int .i64 d, .int .i64 r, .int .i64 f, .int .u32 m] : List Value).length := by kernel_rfl
 clear a hn hc hd hr
 go_enter Tryz.func86, Tryz.ntmps86
 go_upto_region 1 with fail
 generalize w.alloc (.cells #[.int .i64 2, .int .i64 d, .int .i64 r, .int .i64 f, .int .u32 m] 74) = wz at *
 generalize w.heap.size = bx at *
 have R0 := κ (RS.of B0.out A0.out (Gw.refl s))
 have x0_z := B0.out.c 0 _ rfl
 have x1_z := B0.out.c 1 _ rfl
 have x2_z := B0.out.c 2 _ rfl
 have x3_z := B0.out.c 3 _ rfl
 have x4_z := B0.out.c 4 _ rfl
 have xl_z := B0.out.l
 have y4_z := R0.out.p
 have y5_z := R0.out.x
 have y1_z := R0.out.n
 have yl_z := A0.out.l
 go_region
 replace B0 := κ (B0.out.uw (UW.drew (K := K) A0.out.l))
 replace U0 := κ (U0.out.trans (UW.drew (K := K) A0.out.l))
 replace A0 := κ A0.out.drew
 replace R0 := κ R0.out.drew
 clear x0_z x1_z x2_z x3_z x4_z xl_z y4_z y5_z y1_z yl_z
 generalize wz.drew = w0 at *
 have x0_0 := B0.out.c 0 _ rfl
 have x1_0 := B0.out.c 1 _ rfl
 have x2_0 := B0.out.c 2 _ rfl
 have x3_0 := B0.out.c 3 _ rfl
 have x4_0 := B0.out.c 4 _ rfl
 have xl_0 := B0.out.l
 have y4_0 := R0.out.p
 have y5_0 := R0.out.x
 have y1_0 := R0.out.n
 have yl_0 := A0.out.l
 have P1 := pop_any (K := K)  w0 (A0.out) HC.out (by have := HN.out; omega)
 rw [hp1] at P1
 have P1 := κ P1
 go_wp2_with (first
  | (go_at_call 134; refine P1.out.mono ?_; rintro e w1 ⟨rfl, A1, U1⟩; have V1 := κ (U1); have B1 := κ (B0.out.uw V1.out); have M1 := κ A1; have R1 := RS.of B1.out A1 G1.out; have x0_1 := B1.out.c 0 _ rfl; have x1_1 := B1.out.c 1 _ rfl; have x2_1 := B1.out.c 2 _ rfl; have x3_1 := B1.out.c 3 _ rfl; have x4_1 := B1.out.c 4 _ rfl; have xl_1 := B1.out.l; have y4_1 := R1.p; have y5_1 := R1.x; have y1_1 := R1.n; have yl_1 := A1.l; have P2 := goesTo_any (K := K) p1.1 w1 (A1) (by rw [G1.out.cnt]; exact HC.out) (by have := G1.out.n; have := HN.out; omega); rw [hp2] at P2; have P2 := κ P2; clear A1 U1 P1)
  | (go_at_call 132; refine P2.out.mono ?_; rintro e w2 ⟨rfl, A1, U1⟩; have V2 := κ (U1); have B2 := κ (B1.out.uw V2.out); have M2 := κ A1; have R2 := RS.of B2.out A1 G2.out; have x0_2 := B2.out.c 0 _ rfl; have x1_2 := B2.out.c 1 _ rfl; have x2_2 := B2.out.c 2 _ rfl; have x3_2 := B2.out.c 3 _ rfl; have x4_2 := B2.out.c 4 _ rfl; have xl_2 := B2.out.l; have y4_2 := R2.p; have y5_2 := R2.x; have y1_2 := R2.n; have yl_2 := A1.l; clear A1 U1 P2))
 go_end0
 exact ⟨rfl, M2.out, ((U0.out.trans V1.out).trans V2.out)⟩
theorem moves_14 (d r : Nat) (f m : Int) (hd : d < 8) (hr : r < 8) (w : World) (a : LM K s w) (hc : 1 ≤ s.cnt ∧ s.cnt ≤ 64) (hn : s.ops.length + 60 < 1000000000) :
  Calls Tryz.prog 86 #[.pointer (some ⟨K.h, 0, none⟩), .agg #[.int .i64 14, .int .i64 d, .int .i64 r, .int .i64 f, .int .u32 m]] w fun e w' => e = .returned (.tuple #[]) ∧ LM K (s.moves 14 d r f m) w' ∧ UW K w w' := by
 have HN := κ hn
 have HC := κ hc
 have HR := κ hr
 have HD := κ hd
 obtain ⟨p1, hp1⟩ : ∃ p, s.get r = p := ⟨_, rfl⟩
 have g1 : Gw 1 s p1.2 := by rw [← hp1]; exact get_gw s _ 
 have G1 := κ g1
 clear g1
 obtain ⟨p2, hp2⟩ : ∃ p, p1.2.push p1.1 = p := ⟨_, rfl⟩
 have g2 : Gw 5 p1.2 p2 := by rw [← hp2]; exact push_gw p1.2 _ 
 have G2 := κ (G1.out.trans g2)
 clear g2
 obtain ⟨p3, hp3⟩ : ∃ p, p2.watch = p := ⟨_, rfl⟩
 have g3 : Gw 1 p2 p3 := by rw [← hp3]; exact watch_gw p2 
 have G3 := κ (G2.out.trans g3)
 clear g3
 have E : s.moves 14 d r f m = p3 := by
  unfold Lk.moves
  rw [if_neg (by decide), if_neg (by decide), if_neg (by decide), if_neg (by decide), if_neg (by decide), if_neg (by decide), if_neg (by decide), if_neg (by decide), if_neg (by decide), if_pos (by decide)]
  simp only [w32, hp1, hp2, hp3]
 rw [E]
 clear E
 have A0 := κ (a.alloc (.cells #[.int .i64 14, .int .i64 d, .int .i64 r, .int .i64 f, .int .u32 m] 74))
 have B0 := κ (Bx.new a #[.int .i64 14, .int .i64 d, .int .i64 r, .int .i64 f, .int .u32 m] 74)
 have U0 := κ (UW.alloc a.l (.cells #[.int .i64 14, .int .i64 d, .int .i64 r, .int .i64 f, .int .u32 m] 74))
 have uI := Tryz.underlying74
 have iI : (Tryz.prog.info? 74).map (·.size) = some ([.int .i64 14, .int .i64 d, .int .i64 r, .int .i64 f, .int .u32 m] : List Value).length := by kernel_rfl
 clear a hn hc hd hr
 go_enter Tryz.func86, Tryz.ntmps86
 go_upto_region 1 with fail
 generalize w.alloc (.cells #[.int .i64 14, .int .i64 d, .int .i64 r, .int .i64 f, .int .u32 m] 74) = wz at *
 generalize w.heap.size = bx at *
 have R0 := κ (RS.of B0.out A0.out (Gw.refl s))
 have x0_z := B0.out.c 0 _ rfl
 have x1_z := B0.out.c 1 _ rfl
 have x2_z := B0.out.c 2 _ rfl
 have x3_z := B0.out.c 3 _ rfl
 have x4_z := B0.out.c 4 _ rfl
 have xl_z := B0.out.l
 have y4_z := R0.out.p
 have y5_z := R0.out.x
 have y1_z := R0.out.n
 have yl_z := A0.out.l
 go_region
 replace B0 := κ (B0.out.uw (UW.drew (K := K) A0.out.l))
 replace U0 := κ (U0.out.trans (UW.drew (K := K) A0.out.l))
 replace A0 := κ A0.out.drew
 replace R0 := κ R0.out.drew
 clear x0_z x1_z x2_z x3_z x4_z xl_z y4_z y5_z y1_z yl_z
 generalize wz.drew = w0 at *
 have x0_0 := B0.out.c 0 _ rfl
 have x1_0 := B0.out.c 1 _ rfl
 have x2_0 := B0.out.c 2 _ rfl
 have x3_0 := B0.out.c 3 _ rfl
 have x4_0 := B0.out.c 4 _ rfl
 have xl_0 := B0.out.l
 have y4_0 := R0.out.p
 have y5_0 := R0.out.x
 have y1_0 := R0.out.n
 have yl_0 := A0.out.l
 have P1 := get_any (K := K) r HR.out w0 (A0.out) (by have := HN.out; omega)
 rw [hp1] at P1
 have P1 := κ P1
 go_wp2_with (first
  | (go_at_call 118; refine P1.out.mono ?_; rintro e w1 ⟨rfl, A1, U1⟩; have V1 := κ (U1); have B1 := κ (B0.out.uw V1.out); have M1 := κ A1; have R1 := RS.of B1.out A1 G1.out; have x0_1 := B1.out.c 0 _ rfl; have x1_1 := B1.out.c 1 _ rfl; have x2_1 := B1.out.c 2 _ rfl; have x3_1 := B1.out.c 3 _ rfl; have x4_1 := B1.out.c 4 _ rfl; have xl_1 := B1.out.l; have y4_1 := R1.p; have y5_1 := R1.x; have y1_1 := R1.n; have yl_1 := A1.l; have P2 := push_any (K := K) p1.1 w1 (A1) (by rw [G1.out.cnt]; exact HC.out) (by have := G1.out.n; have := HN.out; omega); rw [hp2] at P2; have P2 := κ P2; clear A1 U1 P1)
  | (go_at_call 133; refine P2.out.mono ?_; rintro e w2 ⟨rfl, A1, U1⟩; have V2 := κ (U1); have B2 := κ (B1.out.uw V2.out); have M2 := κ A1; have R2 := RS.of B2.out A1 G2.out; have x0_2 := B2.out.c 0 _ rfl; have x1_2 := B2.out.c 1 _ rfl; have x2_2 := B2.out.c 2 _ rfl; have x3_2 := B2.out.c 3 _ rfl; have x4_2 := B2.out.c 4 _ rfl; have xl_2 := B2.out.l; have y4_2 := R2.p; have y5_2 := R2.x; have y1_2 := R2.n; have yl_2 := A1.l; have P3 := watch_any (K := K)  w2 (A1) (by rw [G2.out.cnt]; exact HC.out) (by have := G2.out.n; have := HN.out; omega); rw [hp3] at P3; have P3 := κ P3; clear A1 U1 P2)
  | (go_at_call 128; refine P3.out.mono ?_; rintro e w3 ⟨rfl, A1, U1⟩; have V3 := κ (U1); have B3 := κ (B2.out.uw V3.out); have M3 := κ A1; have R3 := RS.of B3.out A1 G3.out; have x0_3 := B3.out.c 0 _ rfl; have x1_3 := B3.out.c 1 _ rfl; have x2_3 := B3.out.c 2 _ rfl; have x3_3 := B3.out.c 3 _ rfl; have x4_3 := B3.out.c 4 _ rfl; have xl_3 := B3.out.l; have y4_3 := R3.p; have y5_3 := R3.x; have y1_3 := R3.n; have yl_3 := A1.l; clear A1 U1 P3))
 go_end0
 exact ⟨rfl, M3.out, (((U0.out.trans V1.out).trans V2.out).trans V3.out)⟩
theorem moves_15 (d r : Nat) (f m : Int) (hd : d < 8) (hr : r < 8) (w : World) (a : LM K s w) (hc : 1 ≤ s.cnt ∧ s.cnt ≤ 64) (hn : s.ops.length + 60 < 1000000000) :
  Calls Tryz.prog 86 #[.pointer (some ⟨K.h, 0, none⟩), .agg #[.int .i64 15, .int .i64 d, .int .i64 r, .int .i64 f, .int .u32 m]] w fun e w' => e = .returned (.tuple #[]) ∧ LM K (s.moves 15 d r f m) w' ∧ UW K w w' := by
 have HN := κ hn
 have HC := κ hc
 have HR := κ hr
 have HD := κ hd
 obtain ⟨p1, hp1⟩ : ∃ p, s.pop = p := ⟨_, rfl⟩
 have g1 : Gw 5 s p1.2 := by rw [← hp1]; exact pop_gw s 
 have G1 := κ g1
 clear g1
 obtain ⟨p2, hp2⟩ : ∃ p, p1.2.set d p1.1 = p := ⟨_, rfl⟩
 have g2 : Gw 1 p1.2 p2 := by rw [← hp2]; exact set_gw p1.2 _ _ 
 have G2 := κ (G1.out.trans g2)
 clear g2
 have E : s.moves 15 d r f m = p2 := by
  unfold Lk.moves
  rw [if_neg (by decide), if_neg (by decide), if_neg (by decide), if_neg (by decide), if_neg (by decide), if_neg (by decide), if_neg (by decide), if_neg (by decide), if_neg (by decide), if_neg (by decide), if_pos (by decide)]
  simp only [w32, hp1, hp2]
 rw [E]
 clear E
 have A0 := κ (a.alloc (.cells #[.int .i64 15, .int .i64 d, .int .i64 r, .int .i64 f, .int .u32 m] 74))
 have B0 := κ (Bx.new a #[.int .i64 15, .int .i64 d, .int .i64 r, .int .i64 f, .int .u32 m] 74)
 have U0 := κ (UW.alloc a.l (.cells #[.int .i64 15, .int .i64 d, .int .i64 r, .int .i64 f, .int .u32 m] 74))
 have uI := Tryz.underlying74
 have iI : (Tryz.prog.info? 74).map (·.size) = some ([.int .i64 15, .int .i64 d, .int .i64 r, .int .i64 f, .int .u32 m] : List Value).length := by kernel_rfl
 clear a hn hc hd hr
 go_enter Tryz.func86, Tryz.ntmps86
 go_upto_region 1 with fail
 generalize w.alloc (.cells #[.int .i64 15, .int .i64 d, .int .i64 r, .int .i64 f, .int .u32 m] 74) = wz at *
 generalize w.heap.size = bx at *
 have R0 := κ (RS.of B0.out A0.out (Gw.refl s))
 have x0_z := B0.out.c 0 _ rfl
 have x1_z := B0.out.c 1 _ rfl
 have x2_z := B0.out.c 2 _ rfl
 have x3_z := B0.out.c 3 _ rfl
 have x4_z := B0.out.c 4 _ rfl
 have xl_z := B0.out.l
 have y4_z := R0.out.p
 have y5_z := R0.out.x
 have y1_z := R0.out.n
 have yl_z := A0.out.l
 go_region
 replace B0 := κ (B0.out.uw (UW.drew (K := K) A0.out.l))
 replace U0 := κ (U0.out.trans (UW.drew (K := K) A0.out.l))
 replace A0 := κ A0.out.drew
 replace R0 := κ R0.out.drew
 clear x0_z x1_z x2_z x3_z x4_z xl_z y4_z y5_z y1_z yl_z
 generalize wz.drew = w0 at *
 have x0_0 := B0.out.c 0 _ rfl
 have x1_0 := B0.out.c 1 _ rfl
 have x2_0 := B0.out.c 2 _ rfl
 have x3_0 := B0.out.c 3 _ rfl
 have x4_0 := B0.out.c 4 _ rfl
 have xl_0 := B0.out.l
 have y4_0 := R0.out.p
 have y5_0 := R0.out.x
 have y1_0 := R0.out.n
 have yl_0 := A0.out.l
 have P1 := pop_any (K := K)  w0.drew (A0.out.drew) HC.out (by have := HN.out; omega)
 rw [hp1] at P1
 have P1 := κ P1
 go_wp2
 have hf1 : ∀ w : World, (Instr.fieldAt 74 (.pointer (some ⟨bx, 0, none⟩)) 1).run Tryz.prog w = .ok (.pointer (some ⟨bx, 1, none⟩)) w := fun w => by go_simp
 have hl2 : ∀ w', RS K s bx #[.int .i64 15, .int .i64 d, .int .i64 r, .int .i64 f, .int .u32 m] w' → (Instr.loadAt 3 (.pointer (some ⟨bx, 1, none⟩))).run Tryz.prog w' = .ok (.int .i64 d) w' := fun w' h => by
  have hp := h.b.c 1 _ rfl
  have hq := h.b.l
  clear h
  go_simp
 refine wp_region_held_drew (S := RS K s bx #[.int .i64 15, .int .i64 d, .int .i64 r, .int .i64 f, .int .u32 m]) (by kernel_rfl) (R0.out).drew (fun hHeld => ?_)
 -- 0
 refine κw 0 137 (.pointer (some ⟨K.h, 0, none⟩)) rfl rfl (by kernel_rfl) (by kernel_rfl) (by kernel_rfl) (fun _ _ _ h => h) (Kt.yl_mov (by rfl) _ rfl _ rfl) hHeld ?_
 try simp only [Act.put, κa, κb, κc]
 -- 1
 refine κw 1 138 (.pointer (some ⟨bx, 1, none⟩)) rfl rfl (by kernel_rfl) (by kernel_rfl) (by kernel_rfl) (fun _ _ _ h => h) (Kt.yl_fld (by rfl) _ _ _ rfl _ _ rfl hf1) hHeld ?_
 try simp only [Act.put, κa, κb, κc]
 -- 2
 refine κw 2 139 (.int .i64 d) rfl rfl (by kernel_rfl) (by kernel_rfl) (by kernel_rfl) (fun _ _ _ h => h) (Kt.yl_ld (by rfl) _ _ rfl _ _ rfl hl2) hHeld ?_
 try simp only [Act.put, κa, κb, κc]
 -- 3
 refine κw 3 140 (.pointer (some ⟨K.h, 0, none⟩)) rfl rfl (by kernel_rfl) (by kernel_rfl) (by kernel_rfl) (fun _ _ _ h => h) (Kt.yl_mov (by rfl) _ rfl _ rfl) hHeld ?_
 try simp only [Act.put, κa, κb, κc]
 -- 4
 refine wpAnyH_ready (rs := [4]) (by kernel_rfl) (by simp) ?_
 refine AllReadyH.cons rfl (fun KK hKK => ?_) AllReadyH.nil
 go_simp
 go_wp2_with (go_at_call 134; refine P1.out.mono ?_; rintro e w1 ⟨rfl, A1, U1⟩)
 have V1 := κ ((UW.drew (K := K) (W := w0) A0.out.l).trans U1)
 have B1 := κ (B0.out.uw V1.out)
 have M1 := κ A1
 have R1 := RS.of B1.out A1 G1.out
 have x0_1 := B1.out.c 0 _ rfl
 have x1_1 := B1.out.c 1 _ rfl
 have x2_1 := B1.out.c 2 _ rfl
 have x3_1 := B1.out.c 3 _ rfl
 have x4_1 := B1.out.c 4 _ rfl
 have xl_1 := B1.out.l
 have y4_1 := R1.p
 have y5_1 := R1.x
 have y1_1 := R1.n
 have yl_1 := A1.l
 have P2 := set_any (K := K) d p1.1 HD.out w1 (A1) (by have := G1.out.n; have := HN.out; omega)
 rw [hp2] at P2
 have P2 := κ P2
 clear A1 U1 P1
 refine hKK.out _ _ ?_ (fun hHeld2 => ?_)
 ·exact R1
 clear hKK KK hHeld
 have hHeld := hHeld2
 clear hHeld2
 try simp only [Act.put, κa, κb, κc]
 -- 5
 refine wpAnyH_ready (rs := [5]) (by kernel_rfl) (by simp) ?_
 refine AllReadyH.cons rfl (fun KK hKK => ?_) AllReadyH.nil
 go_simp
 go_wp2_with (go_at_call 116; refine P2.out.mono ?_; rintro e w2 ⟨rfl, A1, U1⟩)
 have V2 := κ (U1)
 have B2 := κ (B1.out.uw V2.out)
 have M2 := κ A1
 have R2 := RS.of B2.out A1 G2.out
 have x0_2 := B2.out.c 0 _ rfl
 have x1_2 := B2.out.c 1 _ rfl
 have x2_2 := B2.out.c 2 _ rfl
 have x3_2 := B2.out.c 3 _ rfl
 have x4_2 := B2.out.c 4 _ rfl
 have xl_2 := B2.out.l
 have y4_2 := R2.p
 have y5_2 := R2.x
 have y1_2 := R2.n
 have yl_2 := A1.l
 clear A1 U1 P2
 refine hKK.out _ _ ?_ (fun hHeld2 => ?_)
 ·exact R2
 clear hKK KK hHeld
 have hHeld := hHeld2
 clear hHeld2
 try simp only [Act.put, κa, κb, κc]
 refine wpAnyH_done (by kernel_rfl) ?_ _
 go_wp2
 go_end0
 exact ⟨rfl, M2.out, ((U0.out.trans V1.out).trans V2.out)⟩
theorem moves_3 (d r : Nat) (f m : Int) (hd : d < 8) (hr : r < 8) (w : World) (a : LM K s w) (hc : 1 ≤ s.cnt ∧ s.cnt ≤ 64) (hn : s.ops.length + 60 < 1000000000) :
  Calls Tryz.prog 86 #[.pointer (some ⟨K.h, 0, none⟩), .agg #[.int .i64 3, .int .i64 d, .int .i64 r, .int .i64 f, .int .u32 m]] w fun e w' => e = .returned (.tuple #[]) ∧ LM K (s.moves 3 d r f m) w' ∧ UW K w w' := by
 have HN := κ hn
 have HC := κ hc
 have HR := κ hr
 have HD := κ hd
 obtain ⟨p1, hp1⟩ : ∃ p, s.now = p := ⟨_, rfl⟩
 have g1 : Gw 5 s p1.2 := by rw [← hp1]; exact now_gw s 
 have G1 := κ g1
 clear g1
 obtain ⟨p2, hp2⟩ : ∃ p, p1.2.push p1.1 = p := ⟨_, rfl⟩
 have g2 : Gw 5 p1.2 p2 := by rw [← hp2]; exact push_gw p1.2 _ 
 have G2 := κ (G1.out.trans g2)
 clear g2
 obtain ⟨p3, hp3⟩ : ∃ p, p2.watch = p := ⟨_, rfl⟩
 have g3 : Gw 1 p2 p3 := by rw [← hp3]; exact watch_gw p2 
 have G3 := κ (G2.out.trans g3)
 clear g3
 have E : s.moves 3 d r f m = p3 := by
  unfold Lk.moves
  rw [if_neg (by decide), if_neg (by decide), if_neg (by decide), if_neg (by decide), if_neg (by decide), if_neg (by decide), if_neg (by decide), if_neg (by decide), if_neg (by decide), if_neg (by decide), if_neg (by decide), if_pos (by decide)]
  simp only [w32, hp1, hp2, hp3]
 rw [E]
 clear E
 have A0 := κ (a.alloc (.cells #[.int .i64 3, .int .i64 d, .int .i64 r, .int .i64 f, .int .u32 m] 74))
 have B0 := κ (Bx.new a #[.int .i64 3, .int .i64 d, .int .i64 r, .int .i64 f, .int .u32 m] 74)
 have U0 := κ (UW.alloc a.l (.cells #[.int .i64 3, .int .i64 d, .int .i64 r, .int .i64 f, .int .u32 m] 74))
 have uI := Tryz.underlying74
 have iI : (Tryz.prog.info? 74).map (·.size) = some ([.int .i64 3, .int .i64 d, .int .i64 r, .int .i64 f, .int .u32 m] : List Value).length := by kernel_rfl
 clear a hn hc hd hr
 go_enter Tryz.func86, Tryz.ntmps86
 go_upto_region 1 with fail
 generalize w.alloc (.cells #[.int .i64 3, .int .i64 d, .int .i64 r, .int .i64 f, .int .u32 m] 74) = wz at *
 generalize w.heap.size = bx at *
 have R0 := κ (RS.of B0.out A0.out (Gw.refl s))
 have x0_z := B0.out.c 0 _ rfl
 have x1_z := B0.out.c 1 _ rfl
 have x2_z := B0.out.c 2 _ rfl
 have x3_z := B0.out.c 3 _ rfl
 have x4_z := B0.out.c 4 _ rfl
 have xl_z := B0.out.l
 have y4_z := R0.out.p
 have y5_z := R0.out.x
 have y1_z := R0.out.n
 have yl_z := A0.out.l
 go_region
 replace B0 := κ (B0.out.uw (UW.drew (K := K) A0.out.l))
 replace U0 := κ (U0.out.trans (UW.drew (K := K) A0.out.l))
 replace A0 := κ A0.out.drew
 replace R0 := κ R0.out.drew
 clear x0_z x1_z x2_z x3_z x4_z xl_z y4_z y5_z y1_z yl_z
 generalize wz.drew = w0 at *
 have x0_0 := B0.out.c 0 _ rfl
 have x1_0 := B0.out.c 1 _ rfl
 have x2_0 := B0.out.c 2 _ rfl
 have x3_0 := B0.out.c 3 _ rfl
 have x4_0 := B0.out.c 4 _ rfl
 have xl_0 := B0.out.l
 have y4_0 := R0.out.p
 have y5_0 := R0.out.x
 have y1_0 := R0.out.n
 have yl_0 := A0.out.l
 have P1 := now_any (K := K)  w0 (A0.out) (by have := HN.out; omega)
 rw [hp1] at P1
 have P1 := κ P1
 go_wp2_with (first
  | (go_at_call 119; refine P1.out.mono ?_; rintro e w1 ⟨rfl, A1, U1⟩; have V1 := κ (U1); have B1 := κ (B0.out.uw V1.out); have M1 := κ A1; have R1 := RS.of B1.out A1 G1.out; have x0_1 := B1.out.c 0 _ rfl; have x1_1 := B1.out.c 1 _ rfl; have x2_1 := B1.out.c 2 _ rfl; have x3_1 := B1.out.c 3 _ rfl; have x4_1 := B1.out.c 4 _ rfl; have xl_1 := B1.out.l; have y4_1 := R1.p; have y5_1 := R1.x; have y1_1 := R1.n; have yl_1 := A1.l; have P2 := push_any (K := K) p1.1 w1 (A1) (by rw [G1.out.cnt]; exact HC.out) (by have := G1.out.n; have := HN.out; omega); rw [hp2] at P2; have P2 := κ P2; clear A1 U1 P1)
  | (go_at_call 133; refine P2.out.mono ?_; rintro e w2 ⟨rfl, A1, U1⟩; have V2 := κ (U1); have B2 := κ (B1.out.uw V2.out); have M2 := κ A1; have R2 := RS.of B2.out A1 G2.out; have x0_2 := B2.out.c 0 _ rfl; have x1_2 := B2.out.c 1 _ rfl; have x2_2 := B2.out.c 2 _ rfl; have x3_2 := B2.out.c 3 _ rfl; have x4_2 := B2.out.c 4 _ rfl; have xl_2 := B2.out.l; have y4_2 := R2.p; have y5_2 := R2.x; have y1_2 := R2.n; have yl_2 := A1.l; have P3 := watch_any (K := K)  w2 (A1) (by rw [G2.out.cnt]; exact HC.out) (by have := G2.out.n; have := HN.out; omega); rw [hp3] at P3; have P3 := κ P3; clear A1 U1 P2)
  | (go_at_call 128; refine P3.out.mono ?_; rintro e w3 ⟨rfl, A1, U1⟩; have V3 := κ (U1); have B3 := κ (B2.out.uw V3.out); have M3 := κ A1; have R3 := RS.of B3.out A1 G3.out; have x0_3 := B3.out.c 0 _ rfl; have x1_3 := B3.out.c 1 _ rfl; have x2_3 := B3.out.c 2 _ rfl; have x3_3 := B3.out.c 3 _ rfl; have x4_3 := B3.out.c 4 _ rfl; have xl_3 := B3.out.l; have y4_3 := R3.p; have y5_3 := R3.x; have y1_3 := R3.n; have yl_3 := A1.l; clear A1 U1 P3))
 go_end0
 exact ⟨rfl, M3.out, (((U0.out.trans V1.out).trans V2.out).trans V3.out)⟩
theorem moves_4 (d r : Nat) (f m : Int) (hd : d < 8) (hr : r < 8) (w : World) (a : LM K s w) (hc : 1 ≤ s.cnt ∧ s.cnt ≤ 64) (hn : s.ops.length + 60 < 1000000000) :
  Calls Tryz.prog 86 #[.pointer (some ⟨K.h, 0, none⟩), .agg #[.int .i64 4, .int .i64 d, .int .i64 r, .int .i64 f, .int .u32 m]] w fun e w' => e = .returned (.tuple #[]) ∧ LM K (s.moves 4 d r f m) w' ∧ UW K w w' := by
 have HN := κ hn
 have HC := κ hc
 have HR := κ hr
 have HD := κ hd
 obtain ⟨p1, hp1⟩ : ∃ p, s.pop = p := ⟨_, rfl⟩
 have g1 : Gw 5 s p1.2 := by rw [← hp1]; exact pop_gw s 
 have G1 := κ g1
 clear g1
 obtain ⟨p2, hp2⟩ : ∃ p, p1.2.K 15 = p := ⟨_, rfl⟩
 have g2 : Gw 1 p1.2 p2.2 := by rw [← hp2]; exact K_gw p1.2 _ 
 have G2 := κ (G1.out.trans g2)
 clear g2
 obtain ⟨p3, hp3⟩ : ∃ p, p2.2.B 2 p1.1 p2.1 = p := ⟨_, rfl⟩
 have g3 : Gw 1 p2.2 p3.2 := by rw [← hp3]; exact B_gw p2.2 _ _ _ 
 have G3 := κ (G2.out.trans g3)
 clear g3
 obtain ⟨p4, hp4⟩ : ∃ p, p3.2.flag 0 (-1) (-1) p3.1 = p := ⟨_, rfl⟩
 have g4 : Gw 5 p3.2 p4 := by rw [← hp4]; exact flag_gw p3.2 _ _ _ _ 
 have G4 := κ (G3.out.trans g4)
 clear g4
 have E : s.moves 4 d r f m = p4 := by
  unfold Lk.moves
  rw [if_neg (by decide), if_neg (by decide), if_neg (by decide), if_neg (by decide), if_neg (by decide), if_neg (by decide), if_neg (by decide), if_neg (by decide), if_neg (by decide), if_neg (by decide), if_neg (by decide), if_neg (by decide), if_pos (by decide)]
  simp only [w32, hp1, hp2, hp3, hp4]
 rw [E]
 clear E
 have A0 := κ (a.alloc (.cells #[.int .i64 4, .int .i64 d, .int .i64 r, .int .i64 f, .int .u32 m] 74))
 have B0 := κ (Bx.new a #[.int .i64 4, .int .i64 d, .int .i64 r, .int .i64 f, .int .u32 m] 74)
 have U0 := κ (UW.alloc a.l (.cells #[.int .i64 4, .int .i64 d, .int .i64 r, .int .i64 f, .int .u32 m] 74))
 have uI := Tryz.underlying74
 have iI : (Tryz.prog.info? 74).map (·.size) = some ([.int .i64 4, .int .i64 d, .int .i64 r, .int .i64 f, .int .u32 m] : List Value).length := by kernel_rfl
 clear a hn hc hd hr
 go_enter Tryz.func86, Tryz.ntmps86
 go_upto_region 1 with fail
 generalize w.alloc (.cells #[.int .i64 4, .int .i64 d, .int .i64 r, .int .i64 f, .int .u32 m] 74) = wz at *
 generalize w.heap.size = bx at *
 have R0 := κ (RS.of B0.out A0.out (Gw.refl s))
 have x0_z := B0.out.c 0 _ rfl
 have x1_z := B0.out.c 1 _ rfl
 have x2_z := B0.out.c 2 _ rfl
 have x3_z := B0.out.c 3 _ rfl
 have x4_z := B0.out.c 4 _ rfl
 have xl_z := B0.out.l
 have y4_z := R0.out.p
 have y5_z := R0.out.x
 have y1_z := R0.out.n
 have yl_z := A0.out.l
 go_region
 replace B0 := κ (B0.out.uw (UW.drew (K := K) A0.out.l))
 replace U0 := κ (U0.out.trans (UW.drew (K := K) A0.out.l))
 replace A0 := κ A0.out.drew
 replace R0 := κ R0.out.drew
 clear x0_z x1_z x2_z x3_z x4_z xl_z y4_z y5_z y1_z yl_z
 generalize wz.drew = w0 at *
 have x0_0 := B0.out.c 0 _ rfl
 have x1_0 := B0.out.c 1 _ rfl
 have x2_0 := B0.out.c 2 _ rfl
 have x3_0 := B0.out.c 3 _ rfl
 have x4_0 := B0.out.c 4 _ rfl
 have xl_0 := B0.out.l
 have y4_0 := R0.out.p
 have y5_0 := R0.out.x
 have y1_0 := R0.out.n
 have yl_0 := A0.out.l
 have P1 := pop_any (K := K)  w0 (A0.out) HC.out (by have := HN.out; omega)
 rw [hp1] at P1
 have P1 := κ P1
 go_wp2_with (first
  | (go_at_call 134; refine P1.out.mono ?_; rintro e w1 ⟨rfl, A1, U1⟩; have V1 := κ (U1); have B1 := κ (B0.out.uw V1.out); have M1 := κ A1; have R1 := RS.of B1.out A1 G1.out; have x0_1 := B1.out.c 0 _ rfl; have x1_1 := B1.out.c 1 _ rfl; have x2_1 := B1.out.c 2 _ rfl; have x3_1 := B1.out.c 3 _ rfl; have x4_1 := B1.out.c 4 _ rfl; have xl_1 := B1.out.l; have y4_1 := R1.p; have y5_1 := R1.x; have y1_1 := R1.n; have yl_1 := A1.l; have P2 := konst_any (K := K) 15 w1 (A1) (by have := G1.out.n; have := HN.out; omega); rw [hp2] at P2; have P2 := κ P2; clear A1 U1 P1)
  | (go_at_call 117; refine P2.out.mono ?_; rintro e w2 ⟨rfl, A1, U1⟩; have V2 := κ (U1); have B2 := κ (B1.out.uw V2.out); have M2 := κ A1; have R2 := RS.of B2.out A1 G2.out; have x0_2 := B2.out.c 0 _ rfl; have x1_2 := B2.out.c 1 _ rfl; have x2_2 := B2.out.c 2 _ rfl; have x3_2 := B2.out.c 3 _ rfl; have x4_2 := B2.out.c 4 _ rfl; have xl_2 := B2.out.l; have y4_2 := R2.p; have y5_2 := R2.x; have y1_2 := R2.n; have yl_2 := A1.l; have P3 := bin_any (K := K) 2 p1.1 p2.1 w2 (A1) (by have := G2.out.n; have := HN.out; omega); rw [hp3] at P3; have P3 := κ P3; clear A1 U1 P2)
  | (go_at_call 135; refine P3.out.mono ?_; rintro e w3 ⟨rfl, A1, U1⟩; have V3 := κ (U1); have B3 := κ (B2.out.uw V3.out); have M3 := κ A1; have R3 := RS.of B3.out A1 G3.out; have x0_3 := B3.out.c 0 _ rfl; have x1_3 := B3.out.c 1 _ rfl; have x2_3 := B3.out.c 2 _ rfl; have x3_3 := B3.out.c 3 _ rfl; have x4_3 := B3.out.c 4 _ rfl; have xl_3 := B3.out.l; have y4_3 := R3.p; have y5_3 := R3.x; have y1_3 := R3.n; have yl_3 := A1.l; have P4 := flag_any (K := K) false 0 (-1) (-1) p3.1 w3 (A1) (by have := G3.out.n; have := HN.out; omega); rw [hp4] at P4; have P4 := κ P4; clear A1 U1 P3)
  | (go_at_call 121; refine P4.out.mono ?_; rintro e w4 ⟨rfl, A1, U1⟩; have V4 := κ (U1); have B4 := κ (B3.out.uw V4.out); have M4 := κ A1; have R4 := RS.of B4.out A1 G4.out; have x0_4 := B4.out.c 0 _ rfl; have x1_4 := B4.out.c 1 _ rfl; have x2_4 := B4.out.c 2 _ rfl; have x3_4 := B4.out.c 3 _ rfl; have x4_4 := B4.out.c 4 _ rfl; have xl_4 := B4.out.l; have y4_4 := R4.p; have y5_4 := R4.x; have y1_4 := R4.n; have yl_4 := A1.l; clear A1 U1 P4))
 go_end0
 exact ⟨rfl, M4.out, ((((U0.out.trans V1.out).trans V2.out).trans V3.out).trans V4.out)⟩
end Go.Proofs.YtcjcmnnhmajocabGreat.Lf
