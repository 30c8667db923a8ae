/- lift: now, holds, push, pop; how much each puts. -/
import Derived.Test.YtcjcmnnhmajocabGreatPlav
set_option linter.unusedVariables false
set_option linter.unusedSimpArgs false
set_option maxRecDepth 100000
set_option maxHeartbeats 16000000
namespace Go.Proofs.YtcjcmnnhmajocabGreat.Lf
open Go.RowKit Kt Ic Me
open Ot (OwnO OB)
variable {K : Kc} {s : Lk} {W W' : World} {B : Nat}
theorem now_old (w : World) (a : LM K s w) (hk : s.kn = true) (hd : s.kd = 0) :
  Calls Tryz.prog 119 #[.pointer (some ⟨K.h, 0, none⟩)] w fun e w' => e = .returned (.int .i64 s.fo) ∧ LM K s w' ∧ UW K w w' := by
 have B0 := Bx.new a #[.pointer (some ⟨K.h, 0, none⟩)] 105
 have a1 := a.alloc (.cells #[.pointer (some ⟨K.h, 0, none⟩)] 105)
 have U0 := κ (UW.alloc a.l (.cells #[.pointer (some ⟨K.h, 0, none⟩)] 105))
 have b0 := B0.c 0 _ rfl
 have bl := B0.l
 have e14 : (w.alloc (.cells #[.pointer (some ⟨K.h, 0, none⟩)] 105)).cell? ⟨K.h, 14, none⟩ = some (.bool true) := hk ▸ a1.c 14 (by decide) (by decide)
 have e15 : (w.alloc (.cells #[.pointer (some ⟨K.h, 0, none⟩)] 105)).cell? ⟨K.h, 15, none⟩ = some (.int .i64 0) := hd ▸ a1.c 15 (by decide) (by decide)
 have e18 : (w.alloc (.cells #[.pointer (some ⟨K.h, 0, none⟩)] 105)).cell? ⟨K.h, 18, none⟩ = some (.int .i64 s.fo) := a1.c 18 (by decide) (by decide)
 have l1 := a1.l
 have A := κ a1
 clear a a1 B0 hk hd
 go_enter Tryz.func119, Tryz.ntmps119
 go_wp2
 go_ret
 exact ⟨rfl, A.out, U0.out⟩
theorem now_no (w : World) (a : LM K s w) (hk : s.kn = false) (hn : s.ops.length < 1000000000) :
  Calls Tryz.prog 119 #[.pointer (some ⟨K.h, 0, none⟩)] w fun e w' => e = .returned (.int .i64 s.n) ∧ LM K ((s.put ⟨17, 0, 0, 0, 0, 0, 0⟩).setF 0 (-1) (-1) s.n) w' ∧ UW K w w' := by
 have B0 := Bx.new a #[.pointer (some ⟨K.h, 0, none⟩)] 105
 have a1 := a.alloc (.cells #[.pointer (some ⟨K.h, 0, none⟩)] 105)
 have U0 := κ ((UW.alloc a.l (.cells #[.pointer (some ⟨K.h, 0, none⟩)] 105)).trans (UW.drew (K := K) a1.l))
 have b0 := B0.c 0 _ rfl
 have bl := B0.l
 have BD := κ (B0.uw (UW.drew (K := K) a1.l))
 have e14 : (w.alloc (.cells #[.pointer (some ⟨K.h, 0, none⟩)] 105)).cell? ⟨K.h, 14, none⟩ = some (.bool false) := hk ▸ a1.c 14 (by decide) (by decide)
 have l1 := a1.l
 have P := κ (put_any (s := s) (K := K) ⟨17, 0, 0, 0, 0, 0, 0⟩ _ a1.drew hn)
 clear a a1 B0 hk
 go_enter Tryz.func119, Tryz.ntmps119
 go_upto_region 2 with fail
 go_region_with (go_at_call 54; refine P.out.mono ?_; rintro e w1 ⟨rfl, A1, U1⟩; have H1 := κ A1; have V1 := κ U1; have B1 := κ (BD.out.uw U1); have k14 := A1.c 14 (by decide) (by decide); have k15 := A1.c 15 (by decide) (by decide); have k16 := A1.c 16 (by decide) (by decide); have k17 := A1.c 17 (by decide) (by decide); have k18 := A1.c 18 (by decide) (by decide); have kz := A1.z; have kl := A1.l; have y0 := B1.out.c 0 _ rfl; have yl := B1.out.l; clear A1 U1)
 all_goals
  have H2 := H1.out.setF5 0 (-1) (-1) s.n
  have V2 := κ (UW.setF5 (K := K) (W := w1) (.bool true) (.int .i64 0) (.int .i64 (-1)) (.int .i64 (-1)) (.int .i64 s.n))
  have B2 := B1.out.uw V2.out
  clear k14 k15 k16 k17 k18 kz kl y0 yl e14 b0 bl l1
  generalize ((((w1.setCell ⟨K.h, 14, none⟩ (.bool true)).setCell ⟨K.h, 15, none⟩ (.int .i64 0)).setCell ⟨K.h, 16, none⟩ (.int .i64 (-1))).setCell ⟨K.h, 17, none⟩ (.int .i64 (-1))).setCell ⟨K.h, 18, none⟩ (.int .i64 s.n) = w2 at *
  have k15 : w2.cell? ⟨K.h, 15, none⟩ = some (.int .i64 0) := H2.c 15 (by decide) (by decide)
  have k18 : w2.cell? ⟨K.h, 18, none⟩ = some (.int .i64 s.n) := H2.c 18 (by decide) (by decide)
  have kl := H2.l
  have y0 := B2.c 0 _ rfl
  have yl := B2.l
  have H3 := κ H2
  clear H2 B2
 all_goals go_wp2
 all_goals go_ret
 all_goals exact ⟨rfl, H3.out, U0.out.trans (V1.out.trans V2.out)⟩
open Ot (OwnO OB)
variable {K : Kc} {s : Lk} {W W' : World} {B : Nat}
/-- the flags' fields, and what is not of operations, are alike -/
structure Fe (s s' : Lk) (c : Nat) : Prop where
 kn : s'.kn = s.kn
 kd : s'.kd = s.kd
 fa : s'.fa = s.fa
 fb : s'.fb = s.fb
 fo : s'.fo = s.fo
 n : s'.ops.length ≤ s.ops.length + c
theorem some_f (s : Lk) (z t : Int) : Fe s (s.some z t).2.2 1 := by
 unfold Lk.some
 split
 ·exact ⟨rfl, rfl, rfl, rfl, rfl, Nat.le_succ _⟩
 ·split
  ·exact ⟨rfl, rfl, rfl, rfl, rfl, Nat.le_of_eq (Lk.len1 s _)⟩
  ·exact ⟨rfl, rfl, rfl, rfl, rfl, Nat.le_succ _⟩
theorem Fe.trans {a b c : Lk} {m n : Nat} (h : Fe a b m) (k : Fe b c n) : Fe a c (m + n) := ⟨k.kn.trans h.kn, k.kd.trans h.kd, k.fa.trans h.fa, k.fb.trans h.fb, k.fo.trans h.fo, by have := h.n; have := k.n; omega⟩
theorem put_f (s : Lk) (o : Opr) : Fe s (s.put o) 1 := ⟨rfl, rfl, rfl, rfl, rfl, Nat.le_of_eq (Lk.len1 s o)⟩
/-- the cells of the flags -/
theorem LM.fc {s0 : Lk} {c : Nat} (a : LM K s W) (f : Fe s0 s c) : W.cell? ⟨K.h, 15, none⟩ = some (.int .i64 s0.kd) ∧ W.cell? ⟨K.h, 16, none⟩ = some (.int .i64 s0.fa) ∧ W.cell? ⟨K.h, 17, none⟩ = some (.int .i64 s0.fb) ∧ W.cell? ⟨K.h, 18, none⟩ = some (.int .i64 s0.fo) :=
 ⟨f.kd ▸ a.c 15 (by decide) (by decide), f.fa ▸ a.c 16 (by decide) (by decide), f.fb ▸ a.c 17 (by decide) (by decide), f.fo ▸ a.c 18 (by decide) (by decide)⟩
theorem now_fl (w : World) (a : LM K s w) (hk : s.kn = true) (hd : s.kd ≠ 0) (hn : s.ops.length + 3 < 1000000000) :
  Calls Tryz.prog 119 #[.pointer (some ⟨K.h, 0, none⟩)] w fun e w' => e = .returned (.int .i64 (s.s3.2.2.P ⟨7, s.kd, s.s1.1, s.s2.1, s.s3.1, 0, 0⟩).1) ∧ LM K (s.s3.2.2.P ⟨7, s.kd, s.s1.1, s.s2.1, s.s3.1, 0, 0⟩).2 w' ∧ UW K w w' := by
 have B0 := Bx.new a #[.pointer (some ⟨K.h, 0, none⟩)] 105
 have a1 := a.alloc (.cells #[.pointer (some ⟨K.h, 0, none⟩)] 105)
 have U0 := κ (UW.alloc a.l (.cells #[.pointer (some ⟨K.h, 0, none⟩)] 105))
 have b0 := B0.c 0 _ rfl
 have bl := B0.l
 have e14 : (w.alloc (.cells #[.pointer (some ⟨K.h, 0, none⟩)] 105)).cell? ⟨K.h, 14, none⟩ = some (.bool true) := hk ▸ a1.c 14 (by decide) (by decide)
 have e15 : (w.alloc (.cells #[.pointer (some ⟨K.h, 0, none⟩)] 105)).cell? ⟨K.h, 15, none⟩ = some (.int .i64 s.kd) := a1.c 15 (by decide) (by decide)
 have hne : (s.kd == 0) = false := by simpa using hd
 have l1 := a1.l
 have A := κ a1
 have BB := κ B0
 have HN := κ hn
 clear a a1 B0 hk hd hn
 go_enter Tryz.func119, Tryz.ntmps119
 go_upto_region 6 with fail
 have U1 := κ ((U0.out.trans (UW.alloc A.out.l (.cells #[.int .i64 (-1)] 3))).trans (UW.drew (K := K) (A.out.alloc (.cells #[.int .i64 (-1)] 3)).l))
 have A1 := (A.out.alloc (.cells #[.int .i64 (-1)] 3)).drew
 have Z1 : Bx K (w.heap.size + 1) #[.int .i64 (-1)] ((w.alloc (.cells #[.pointer (some ⟨K.h, 0, none⟩)] 105)).alloc (.cells #[.int .i64 (-1)] 3)) := by
  have h := Bx.new A.out #[.int .i64 (-1)] 3
  rw [World.size_alloc] at h; exact h
 have K1 := BB.out.uw (UW.alloc A.out.l (.cells #[.int .i64 (-1)] 3))
 have A2 := A.out.alloc (.cells #[.int .i64 (-1)] 3)
 obtain ⟨f15, f16, f17, f18⟩ := A2.fc (s0 := s) (c := 0) ⟨rfl, rfl, rfl, rfl, rfl, Nat.le_refl _⟩
 have al := A2.l
 have y0 := K1.c 0 _ rfl
 have yl := K1.l
 have lz := Z1.l
 have HZ := κ (Z1.uw (UW.drew (K := K) A2.l))
 have HK := κ (K1.uw (UW.drew (K := K) A2.l))
 have HA := κ A1
 clear A1 Z1 K1 A2 b0 bl e14 e15 l1 U0 BB A
 generalize (w.alloc (.cells #[.pointer (some ⟨K.h, 0, none⟩)] 105)).alloc (.cells #[.int .i64 (-1)] 3) = w0 at *
 have C1 := κ (some_any (B := w.heap.size) s.fa (-1) (w.heap.size + 1) w.heap.size w0.drew HA.out HZ.out HK.out (by omega) (by omega) (by have := HN.out; omega))
 have HS := κ (show w.heap.size ≤ w0.drew.heap.size by show w.heap.size ≤ w0.heap.size; omega)
 go_wp2_with fail
 have hlk : ∀ w', (fun w' => w'.cell? ⟨K.h, 15, none⟩ = some (.int .i64 s.kd) ∧ w'.cell? ⟨K.h, 16, none⟩ = some (.int .i64 s.fa) ∧ w'.cell? ⟨K.h, 17, none⟩ = some (.int .i64 s.fb) ∧ w'.cell? ⟨K.h, 18, none⟩ = some (.int .i64 s.fo) ∧ w'.cell? ⟨w.heap.size, 0, none⟩ = some (.pointer (some ⟨K.h, 0, none⟩))) w' → (Instr.loadAt 105 (.pointer (some ⟨w.heap.size, 0, none⟩))).run Tryz.prog w' = .ok (.pointer (some ⟨K.h, 0, none⟩)) w' := fun w' h => by
  have hp := h.2.2.2.2
  clear h
  go_simp
 have hl15 : ∀ w', (fun w' => w'.cell? ⟨K.h, 15, none⟩ = some (.int .i64 s.kd) ∧ w'.cell? ⟨K.h, 16, none⟩ = some (.int .i64 s.fa) ∧ w'.cell? ⟨K.h, 17, none⟩ = some (.int .i64 s.fb) ∧ w'.cell? ⟨K.h, 18, none⟩ = some (.int .i64 s.fo) ∧ w'.cell? ⟨w.heap.size, 0, none⟩ = some (.pointer (some ⟨K.h, 0, none⟩))) w' → (Instr.loadAt 3 (.pointer (some ⟨K.h, 15, none⟩))).run Tryz.prog w' = .ok (.int .i64 s.kd) w' := fun w' h => by
  have hp := h.1
  clear h
  go_simp
 have hf15 : ∀ w : World, (Instr.fieldAt 108 (.pointer (some ⟨K.h, 14, none⟩)) 1).run Tryz.prog w = .ok (.pointer (some ⟨K.h, 15, none⟩)) w := fun w => by go_simp
 have hl16 : ∀ w', (fun w' => w'.cell? ⟨K.h, 15, none⟩ = some (.int .i64 s.kd) ∧ w'.cell? ⟨K.h, 16, none⟩ = some (.int .i64 s.fa) ∧ w'.cell? ⟨K.h, 17, none⟩ = some (.int .i64 s.fb) ∧ w'.cell? ⟨K.h, 18, none⟩ = some (.int .i64 s.fo) ∧ w'.cell? ⟨w.heap.size, 0, none⟩ = some (.pointer (some ⟨K.h, 0, none⟩))) w' → (Instr.loadAt 3 (.pointer (some ⟨K.h, 16, none⟩))).run Tryz.prog w' = .ok (.int .i64 s.fa) w' := fun w' h => by
  have hp := h.2.1
  clear h
  go_simp
 have hf16 : ∀ w : World, (Instr.fieldAt 108 (.pointer (some ⟨K.h, 14, none⟩)) 2).run Tryz.prog w = .ok (.pointer (some ⟨K.h, 16, none⟩)) w := fun w => by go_simp
 have hl17 : ∀ w', (fun w' => w'.cell? ⟨K.h, 15, none⟩ = some (.int .i64 s.kd) ∧ w'.cell? ⟨K.h, 16, none⟩ = some (.int .i64 s.fa) ∧ w'.cell? ⟨K.h, 17, none⟩ = some (.int .i64 s.fb) ∧ w'.cell? ⟨K.h, 18, none⟩ = some (.int .i64 s.fo) ∧ w'.cell? ⟨w.heap.size, 0, none⟩ = some (.pointer (some ⟨K.h, 0, none⟩))) w' → (Instr.loadAt 3 (.pointer (some ⟨K.h, 17, none⟩))).run Tryz.prog w' = .ok (.int .i64 s.fb) w' := fun w' h => by
  have hp := h.2.2.1
  clear h
  go_simp
 have hf17 : ∀ w : World, (Instr.fieldAt 108 (.pointer (some ⟨K.h, 14, none⟩)) 3).run Tryz.prog w = .ok (.pointer (some ⟨K.h, 17, none⟩)) w := fun w => by go_simp
 have hl18 : ∀ w', (fun w' => w'.cell? ⟨K.h, 15, none⟩ = some (.int .i64 s.kd) ∧ w'.cell? ⟨K.h, 16, none⟩ = some (.int .i64 s.fa) ∧ w'.cell? ⟨K.h, 17, none⟩ = some (.int .i64 s.fb) ∧ w'.cell? ⟨K.h, 18, none⟩ = some (.int .i64 s.fo) ∧ w'.cell? ⟨w.heap.size, 0, none⟩ = some (.pointer (some ⟨K.h, 0, none⟩))) w' → (Instr.loadAt 3 (.pointer (some ⟨K.h, 18, none⟩))).run Tryz.prog w' = .ok (.int .i64 s.fo) w' := fun w' h => by
  have hp := h.2.2.2.1
  clear h
  go_simp
 have hf18 : ∀ w : World, (Instr.fieldAt 108 (.pointer (some ⟨K.h, 14, none⟩)) 4).run Tryz.prog w = .ok (.pointer (some ⟨K.h, 18, none⟩)) w := fun w => by go_simp
 have hfF : ∀ w : World, (Instr.fieldAt 110 (.pointer (some ⟨K.h, 0, none⟩)) 4).run Tryz.prog w = .ok (.pointer (some ⟨K.h, 14, none⟩)) w := fun w => by go_simp
 have hbd : ∀ w : World, (Instr.build 115 #[(0, .int .i64 7), (1, .int .i64 s.kd), (2, .int .i64 s.s1.1), (3, .int .i64 s.s2.1), (4, .int .i64 s.s3.1)]).run Tryz.prog w = .ok (.agg #[.int .i64 7, .int .i64 s.kd, .int .i64 s.s1.1, .int .i64 s.s2.1, .int .i64 s.s3.1, .int .u32 0, .int .i64 0]) w := fun w => by go_simp
 refine wp_region_held_drew (S := (fun w' => w'.cell? ⟨K.h, 15, none⟩ = some (.int .i64 s.kd) ∧ w'.cell? ⟨K.h, 16, none⟩ = some (.int .i64 s.fa) ∧ w'.cell? ⟨K.h, 17, none⟩ = some (.int .i64 s.fb) ∧ w'.cell? ⟨K.h, 18, none⟩ = some (.int .i64 s.fo) ∧ w'.cell? ⟨w.heap.size, 0, none⟩ = some (.pointer (some ⟨K.h, 0, none⟩)))) (by kernel_rfl) ⟨f15, f16, f17, f18, y0⟩ (fun hHeld => ?_)
 -- 0
 refine κw 0 30 (.pointer (some ⟨K.h, 0, none⟩)) rfl rfl (by kernel_rfl) (by kernel_rfl) (by kernel_rfl) (fun _ _ _ h => h) (Kt.yl_ld (by rfl) _ _ rfl _ _ rfl hlk) hHeld ?_
 try simp only [Act.put, κa, κb, κc]
 -- 1
 refine κw 1 31 (.pointer (some ⟨K.h, 0, none⟩)) rfl rfl (by kernel_rfl) (by kernel_rfl) (by kernel_rfl) (fun _ _ _ h => h) (Kt.yl_ld (by rfl) _ _ rfl _ _ rfl hlk) hHeld ?_
 try simp only [Act.put, κa, κb, κc]
 -- 2
 refine κw 2 32 (.pointer (some ⟨K.h, 0, none⟩)) rfl rfl (by kernel_rfl) (by kernel_rfl) (by kernel_rfl) (fun _ _ _ h => h) (Kt.yl_nil (by rfl) _ rfl _ rfl) hHeld ?_
 try simp only [Act.put, κa, κb, κc]
 -- 3
 refine κw 3 33 (.pointer (some ⟨K.h, 14, none⟩)) rfl rfl (by kernel_rfl) (by kernel_rfl) (by kernel_rfl) (fun _ _ _ h => h) (Kt.yl_fld (by rfl) _ _ _ rfl _ _ rfl hfF) hHeld ?_
 try simp only [Act.put, κa, κb, κc]
 -- 4
 refine κw 4 34 (.pointer (some ⟨K.h, 15, none⟩)) rfl rfl (by kernel_rfl) (by kernel_rfl) (by kernel_rfl) (fun _ _ _ h => h) (Kt.yl_fld (by rfl) _ _ _ rfl _ _ rfl hf15) hHeld ?_
 try simp only [Act.put, κa, κb, κc]
 -- 5
 refine κw 5 35 (.int .i64 s.kd) rfl rfl (by kernel_rfl) (by kernel_rfl) (by kernel_rfl) (fun _ _ _ h => h) (Kt.yl_ld (by rfl) _ _ rfl _ _ rfl hl15) hHeld ?_
 try simp only [Act.put, κa, κb, κc]
 -- 6
 refine κw 6 36 (.func (Fn.func 183) #[] #[.pointer (some ⟨w.heap.size + 1, 0, none⟩), .pointer (some ⟨w.heap.size, 0, none⟩)]) rfl rfl (by kernel_rfl) (by kernel_rfl) (by kernel_rfl) (fun _ _ _ h => h) (Kt.yl_mov (by rfl) _ rfl _ rfl) hHeld ?_
 try simp only [Act.put, κa, κb, κc]
 -- 7
 refine κw 7 37 (.pointer (some ⟨K.h, 0, none⟩)) rfl rfl (by kernel_rfl) (by kernel_rfl) (by kernel_rfl) (fun _ _ _ h => h) (Kt.yl_ld (by rfl) _ _ rfl _ _ rfl hlk) hHeld ?_
 try simp only [Act.put, κa, κb, κc]
 -- 8
 refine κw 8 38 (.pointer (some ⟨K.h, 0, none⟩)) rfl rfl (by kernel_rfl) (by kernel_rfl) (by kernel_rfl) (fun _ _ _ h => h) (Kt.yl_nil (by rfl) _ rfl _ rfl) hHeld ?_
 try simp only [Act.put, κa, κb, κc]
 -- 9
 refine κw 9 39 (.pointer (some ⟨K.h, 14, none⟩)) rfl rfl (by kernel_rfl) (by kernel_rfl) (by kernel_rfl) (fun _ _ _ h => h) (Kt.yl_fld (by rfl) _ _ _ rfl _ _ rfl hfF) hHeld ?_
 try simp only [Act.put, κa, κb, κc]
 -- 10
 refine κw 10 40 (.pointer (some ⟨K.h, 16, none⟩)) rfl rfl (by kernel_rfl) (by kernel_rfl) (by kernel_rfl) (fun _ _ _ h => h) (Kt.yl_fld (by rfl) _ _ _ rfl _ _ rfl hf16) hHeld ?_
 try simp only [Act.put, κa, κb, κc]
 -- 11
 refine κw 11 41 (.int .i64 s.fa) rfl rfl (by kernel_rfl) (by kernel_rfl) (by kernel_rfl) (fun _ _ _ h => h) (Kt.yl_ld (by rfl) _ _ rfl _ _ rfl hl16) hHeld ?_
 try simp only [Act.put, κa, κb, κc]
 -- 13
 refine κw 13 43 (.func (Fn.func 183) #[] #[.pointer (some ⟨w.heap.size + 1, 0, none⟩), .pointer (some ⟨w.heap.size, 0, none⟩)]) rfl rfl (by kernel_rfl) (by kernel_rfl) (by kernel_rfl) (fun _ _ _ h => h) (Kt.yl_mov (by rfl) _ rfl _ rfl) hHeld ?_
 try simp only [Act.put, κa, κb, κc]
 -- 14
 refine κw 14 44 (.pointer (some ⟨K.h, 0, none⟩)) rfl rfl (by kernel_rfl) (by kernel_rfl) (by kernel_rfl) (fun _ _ _ h => h) (Kt.yl_ld (by rfl) _ _ rfl _ _ rfl hlk) hHeld ?_
 try simp only [Act.put, κa, κb, κc]
 -- 15
 refine κw 15 45 (.pointer (some ⟨K.h, 0, none⟩)) rfl rfl (by kernel_rfl) (by kernel_rfl) (by kernel_rfl) (fun _ _ _ h => h) (Kt.yl_nil (by rfl) _ rfl _ rfl) hHeld ?_
 try simp only [Act.put, κa, κb, κc]
 -- 16
 refine κw 16 46 (.pointer (some ⟨K.h, 14, none⟩)) rfl rfl (by kernel_rfl) (by kernel_rfl) (by kernel_rfl) (fun _ _ _ h => h) (Kt.yl_fld (by rfl) _ _ _ rfl _ _ rfl hfF) hHeld ?_
 try simp only [Act.put, κa, κb, κc]
 -- 17
 refine κw 17 47 (.pointer (some ⟨K.h, 17, none⟩)) rfl rfl (by kernel_rfl) (by kernel_rfl) (by kernel_rfl) (fun _ _ _ h => h) (Kt.yl_fld (by rfl) _ _ _ rfl _ _ rfl hf17) hHeld ?_
 try simp only [Act.put, κa, κb, κc]
 -- 18
 refine κw 18 48 (.int .i64 s.fb) rfl rfl (by kernel_rfl) (by kernel_rfl) (by kernel_rfl) (fun _ _ _ h => h) (Kt.yl_ld (by rfl) _ _ rfl _ _ rfl hl17) hHeld ?_
 try simp only [Act.put, κa, κb, κc]
 -- 20
 refine κw 20 50 (.func (Fn.func 183) #[] #[.pointer (some ⟨w.heap.size + 1, 0, none⟩), .pointer (some ⟨w.heap.size, 0, none⟩)]) rfl rfl (by kernel_rfl) (by kernel_rfl) (by kernel_rfl) (fun _ _ _ h => h) (Kt.yl_mov (by rfl) _ rfl _ rfl) hHeld ?_
 try simp only [Act.put, κa, κb, κc]
 -- 21
 refine κw 21 51 (.pointer (some ⟨K.h, 0, none⟩)) rfl rfl (by kernel_rfl) (by kernel_rfl) (by kernel_rfl) (fun _ _ _ h => h) (Kt.yl_ld (by rfl) _ _ rfl _ _ rfl hlk) hHeld ?_
 try simp only [Act.put, κa, κb, κc]
 -- 22
 refine κw 22 52 (.pointer (some ⟨K.h, 0, none⟩)) rfl rfl (by kernel_rfl) (by kernel_rfl) (by kernel_rfl) (fun _ _ _ h => h) (Kt.yl_nil (by rfl) _ rfl _ rfl) hHeld ?_
 try simp only [Act.put, κa, κb, κc]
 -- 23
 refine κw 23 53 (.pointer (some ⟨K.h, 14, none⟩)) rfl rfl (by kernel_rfl) (by kernel_rfl) (by kernel_rfl) (fun _ _ _ h => h) (Kt.yl_fld (by rfl) _ _ _ rfl _ _ rfl hfF) hHeld ?_
 try simp only [Act.put, κa, κb, κc]
 -- 24
 refine κw 24 54 (.pointer (some ⟨K.h, 18, none⟩)) rfl rfl (by kernel_rfl) (by kernel_rfl) (by kernel_rfl) (fun _ _ _ h => h) (Kt.yl_fld (by rfl) _ _ _ rfl _ _ rfl hf18) hHeld ?_
 try simp only [Act.put, κa, κb, κc]
 -- 25
 refine κw 25 55 (.int .i64 s.fo) rfl rfl (by kernel_rfl) (by kernel_rfl) (by kernel_rfl) (fun _ _ _ h => h) (Kt.yl_ld (by rfl) _ _ rfl _ _ rfl hl18) hHeld ?_
 try simp only [Act.put, κa, κb, κc]
 -- 12
 refine wpAnyH_ready (rs := [12]) (by kernel_rfl) (by simp) ?_
 refine AllReadyH.cons rfl (fun KK hKK => ?_) AllReadyH.nil
 go_simp
 go_wp2_with (go_at_call 183; refine C1.out.mono ?_; rintro e w1 ⟨rfl, A1, Z1, K1, V1⟩)
 have F1 := some_f s (-1) s.fa
 have C2 := κ (some_any (B := w.heap.size) s.fb s.s1.2.1 (w.heap.size + 1) w.heap.size w1 A1 Z1 K1 (by omega) (by omega) (by have := HN.out; have := F1.n; show s.s1.2.2.ops.length < _; unfold Lk.s1; omega))
 have X1 := κ V1
 have G1 := κ F1
 have BS1 := κ (show w.heap.size ≤ w1.heap.size by have := V1.u.size; have := HS.out; omega)
 have AA := A1.fc F1
 refine hKK.out _ _ ?_ (fun hHeld2 => ?_)
 ·exact ⟨AA.1, AA.2.1, AA.2.2.1, AA.2.2.2, K1.c 0 _ rfl⟩
 clear hKK KK hHeld
 try clear A1 Z1 K1 V1 F1 AA
 try clear A1 V1 F4 AA K4
 have hHeld := hHeld2
 clear hHeld2
 try simp only [Act.put, κa, κb, κc]
 -- 19
 refine wpAnyH_ready (rs := [19]) (by kernel_rfl) (by simp) ?_
 refine AllReadyH.cons rfl (fun KK hKK => ?_) AllReadyH.nil
 go_simp
 go_wp2_with (go_at_call 183; refine C2.out.mono ?_; rintro e w2 ⟨rfl, A1, Z1, K1, V1⟩)
 have F1 := G1.out.trans (some_f s.s1.2.2 s.s1.2.1 s.fb)
 have C3 := κ (some_any (B := w.heap.size) s.fo s.s2.2.1 (w.heap.size + 1) w.heap.size w2 A1 Z1 K1 (by omega) (by omega) (by have := HN.out; have := F1.n; show s.s2.2.2.ops.length < _; unfold Lk.s2; omega))
 have X2 := κ V1
 have G2 := κ F1
 have BS2 := κ (show w.heap.size ≤ w2.heap.size by have := V1.u.size; have := BS1.out; omega)
 have AA := LM.fc (s0 := s) A1 F1
 refine hKK.out _ _ ?_ (fun hHeld2 => ?_)
 ·exact ⟨AA.1, AA.2.1, AA.2.2.1, AA.2.2.2, K1.c 0 _ rfl⟩
 clear hKK KK hHeld
 try clear A1 Z1 K1 V1 F1 AA
 try clear A1 V1 F4 AA K4
 have hHeld := hHeld2
 clear hHeld2
 try simp only [Act.put, κa, κb, κc]
 -- 26
 refine wpAnyH_ready (rs := [26]) (by kernel_rfl) (by simp) ?_
 refine AllReadyH.cons rfl (fun KK hKK => ?_) AllReadyH.nil
 go_simp
 go_wp2_with (go_at_call 183; refine C3.out.mono ?_; rintro e w3 ⟨rfl, A1, Z1, K1, V1⟩)
 have F1 := G2.out.trans (some_f s.s2.2.2 s.s2.2.1 s.fo)
 have P := κ (put_any (K := K) ⟨7, s.kd, s.s1.1, s.s2.1, s.s3.1, 0, 0⟩ w3 A1 (by have := HN.out; have := F1.n; show s.s3.2.2.ops.length < _; unfold Lk.s3; omega))
 have X3 := κ V1
 have BS3 := κ (show w.heap.size ≤ w3.heap.size by have := V1.u.size; have := BS2.out; omega)
 have AA := LM.fc (s0 := s) A1 F1
 have K3 := κ K1
 have F3 := κ F1
 refine hKK.out _ _ ?_ (fun hHeld2 => ?_)
 ·exact ⟨AA.1, AA.2.1, AA.2.2.1, AA.2.2.2, K1.c 0 _ rfl⟩
 clear hKK KK hHeld
 try clear A1 Z1 K1 V1 F1 AA
 try clear A1 V1 F4 AA K4
 have hHeld := hHeld2
 clear hHeld2
 try simp only [Act.put, κa, κb, κc]
 -- 27
 refine κw 27 57 (.agg #[.int .i64 7, .int .i64 s.kd, .int .i64 s.s1.1, .int .i64 s.s2.1, .int .i64 s.s3.1, .int .u32 0, .int .i64 0]) rfl rfl (by kernel_rfl) (by kernel_rfl) (by kernel_rfl) (fun _ _ _ h => h) (Kt.yl_bld (by rfl) _ _ rfl (#[(0, .int .i64 7), (1, .int .i64 s.kd), (2, .int .i64 s.s1.1), (3, .int .i64 s.s2.1), (4, .int .i64 s.s3.1)]) _ (by kernel_rfl) hbd) hHeld ?_
 try simp only [Act.put, κa, κb, κc]
 -- 28
 refine wpAnyH_ready (rs := [28]) (by kernel_rfl) (by simp) ?_
 refine AllReadyH.cons rfl (fun KK hKK => ?_) AllReadyH.nil
 go_simp
 go_wp2_with (go_at_call 54; refine P.out.mono ?_; rintro e w4 ⟨rfl, A1, V1⟩)
 have H4 := κ A1
 have H5 := κ V1
 have F4 := F3.out.trans (put_f s.s3.2.2 ⟨7, s.kd, s.s1.1, s.s2.1, s.s3.1, 0, 0⟩)
 have AA := LM.fc (s0 := s) A1 F4
 have K4 := K3.out.uw V1
 refine hKK.out _ _ ?_ (fun hHeld2 => ?_)
 ·exact ⟨AA.1, AA.2.1, AA.2.2.1, AA.2.2.2, K4.c 0 _ rfl⟩
 clear hKK KK hHeld
 try clear A1 Z1 K1 V1 F1 AA
 try clear A1 V1 F4 AA K4
 have hHeld := hHeld2
 clear hHeld2
 try simp only [Act.put, κa, κb, κc]
 -- 29
 refine κw 29 2 (.int .i64 s.s3.2.2.n) rfl rfl (by kernel_rfl) (by kernel_rfl) (by kernel_rfl) (fun _ _ _ h => h) (Kt.yl_asg (by rfl) _ rfl _ rfl) hHeld ?_
 try simp only [Act.put, κa, κb, κc]
 refine wpAnyH_done (by kernel_rfl) ?_ _
 go_wp2
 go_ret
 exact ⟨rfl, H4.out, UX.fin ((UX.of U1.out).trans (Nat.le_refl _) (X1.out.trans HS.out (X2.out.trans BS1.out (X3.out.trans BS2.out (UX.of H5.out)))))⟩
open Ot (OwnO OB)
variable {K : Kc} {s : Lk} {W W' : World} {B : Nat}
/-- so many operations more, at most; the place and the count are as they were -/
structure Gw (c : Nat) (s s' : Lk) : Prop where
 n : s'.ops.length ≤ s.ops.length + c
 cnt : s'.cnt = s.cnt
 pc : s'.pc = s.pc
 nx : s'.nx = s.nx
 bp : s'.bpc = s.bpc
 by_ : s'.byt = s.byt
theorem Gw.refl (s : Lk) : Gw 0 s s := ⟨Nat.le_refl _, rfl, rfl, rfl, rfl, rfl⟩
theorem Gw.trans {a b c : Lk} {m n : Nat} (h : Gw m a b) (k : Gw n b c) : Gw (m + n) a c := ⟨by have := h.n; have := k.n; omega, k.cnt.trans h.cnt, k.pc.trans h.pc, k.nx.trans h.nx, k.bp.trans h.bp, k.by_.trans h.by_⟩
theorem Gw.mono {a b : Lk} {m n : Nat} (h : Gw m a b) (hm : m ≤ n) : Gw n a b := ⟨by have := h.n; omega, h.cnt, h.pc, h.nx, h.bp, h.by_⟩
theorem put_gw (s : Lk) (o : Opr) : Gw 1 s (s.put o) := ⟨Nat.le_of_eq (Lk.len1 s o), rfl, rfl, rfl, rfl, rfl⟩
theorem setR_gw (s : Lk) (r : Nat) (x : Int) : Gw 0 s (s.setR r x) := ⟨Nat.le_refl _, rfl, rfl, rfl, rfl, rfl⟩
theorem setF_gw (s : Lk) (k a b o : Int) : Gw 0 s (s.setF k a b o) := ⟨Nat.le_refl _, rfl, rfl, rfl, rfl, rfl⟩
theorem K_gw (s : Lk) (x : Int) : Gw 1 s (s.K x).2 := put_gw s _
theorem B_gw (s : Lk) (x y z : Int) : Gw 1 s (s.B x y z).2 := put_gw s _
theorem U_gw (s : Lk) (x y : Int) : Gw 1 s (s.U x y).2 := put_gw s _
theorem S_gw (s : Lk) (x y z : Int) : Gw 1 s (s.S x y z).2 := put_gw s _
theorem slot_gw (s : Lk) (x y : Int) : Gw 1 s (s.slot x y) := put_gw s _
theorem load_gw (s : Lk) (x y : Int) : Gw 1 s (s.load x y).2 := put_gw s _
theorem store_gw (s : Lk) (x y z : Int) : Gw 1 s (s.store x y z) := put_gw s _
theorem watch_gw (s : Lk) : Gw 1 s s.watch := put_gw s _
theorem get_gw (s : Lk) (r : Nat) : Gw 1 s (s.get r).2 := by
 unfold Lk.get
 split
 ·exact (put_gw s _).trans (setR_gw _ _ _)
 ·exact (Gw.refl s).mono (by decide)
theorem set_gw (s : Lk) (r : Nat) (x : Int) : Gw 1 s (s.set r x) := (setR_gw s r x).trans (slot_gw _ _ _)
theorem add_gw (s : Lk) (x y : Int) : Gw 2 s (s.add x y).2 := (K_gw s _).trans (B_gw _ _ _ _)
theorem whr_gw (s : Lk) (r : Nat) (m : Int) : Gw 3 s (s.whr r m).2 := ((get_gw s r).trans (K_gw _ _)).trans (B_gw _ _ _ _)
theorem some_gw (s : Lk) (z t : Int) : Gw 1 s (s.some z t).2.2 := by
 unfold Lk.some
 split
 ·exact (Gw.refl s).mono (by decide)
 ·split
  ·exact K_gw s 0
  ·exact (Gw.refl s).mono (by decide)
theorem now_gw (s : Lk) : Gw 5 s s.now.2 := by
 have h0 : Gw 1 s s.now0 := by
  unfold Lk.now0
  split
  ·exact (Gw.refl s).mono (by decide)
  ·exact (put_gw s _).trans (setF_gw _ _ _ _ _)
 unfold Lk.now Lk.nowF
 generalize s.now0 = t at h0
 split
 ·exact h0.mono (by decide)
 ·exact h0.trans ((((some_gw t _ _).trans (some_gw _ _ _)).trans (some_gw _ _ _)).trans (put_gw _ _))
theorem holds_gw (s : Lk) (c : Int) : Gw 6 s (s.holds c).2 := (now_gw s).trans (put_gw _ _)
theorem slotIf_gw (s : Lk) (w t : Int) : Gw 1 s (s.slotIf w t) := by
 unfold Lk.slotIf
 split
 ·exact slot_gw s w t
 ·exact (Gw.refl s).mono (by decide)
theorem flag_gw (s : Lk) (k a b o : Int) : Gw 5 s (s.flag k a b o) := (((((setF_gw s k a b o).trans (K_gw _ _)).trans (slot_gw _ _ _)).trans (slotIf_gw _ _ _)).trans (slotIf_gw _ _ _)).trans (slotIf_gw _ _ _)
theorem push_gw (s : Lk) (a : Int) : Gw 5 s (s.push a) := (((get_gw s 7).trans (add_gw _ _ _)).trans (store_gw _ _ _ _)).trans (set_gw _ _ _)
theorem pop_gw (s : Lk) : Gw 5 s s.pop.2 := (((get_gw s 7).trans (load_gw _ _ _)).trans (add_gw _ _ _)).trans (set_gw _ _ _)
theorem now_any (w : World) (a : LM K s w) (hn : s.ops.length + 4 < 1000000000) :
  Calls Tryz.prog 119 #[.pointer (some ⟨K.h, 0, none⟩)] w fun e w' => e = .returned (.int .i64 s.now.1) ∧ LM K s.now.2 w' ∧ UW K w w' := by
 unfold Lk.now Lk.now0
 cases hk : s.kn with
 | false =>
  rw [if_neg (by decide)]
  unfold Lk.nowF
  rw [if_pos (show ((s.put ⟨17, 0, 0, 0, 0, 0, 0⟩).setF 0 (-1) (-1) s.n).kd = 0 from rfl)]
  exact now_no w a hk (by omega)
 | true =>
  rw [if_pos rfl]
  unfold Lk.nowF
  by_cases hd : s.kd = 0
  ·rw [if_pos hd]; exact now_old w a hk hd
  ·rw [if_neg hd]; exact now_fl w a hk hd (by omega)
theorem holds_any (c : Int) (w : World) (a : LM K s w) (hn : s.ops.length + 5 < 1000000000) :
  Calls Tryz.prog 123 #[.pointer (some ⟨K.h, 0, none⟩), .int .i64 c] w fun e w' => e = .returned (.int .i64 (s.holds c).1) ∧ LM K (s.holds c).2 w' ∧ UW K w w' := by
 have P := κ (now_any w a (by omega))
 have G := κ (now_gw s)
 have HN := κ hn
 clear a hn
 go_enter Tryz.func123, Tryz.ntmps123
 go_wp2_with (first
  | (go_at_call 119; refine P.out.mono ?_; rintro e w1 ⟨rfl, A1, U1⟩; have V1 := κ U1; have P2 := κ (put_any (K := K) ⟨8, c, s.now.1, 0, 0, 0, 0⟩ w1 A1 (by have := G.out.n; have := HN.out; omega)); clear A1 U1)
  | (go_at_call 54; refine P2.out.mono ?_; rintro e w2 ⟨rfl, A2, U2⟩; have H2 := κ A2; have V2 := κ U2; clear A2 U2))
 go_ret
 exact ⟨rfl, H2.out, V1.out.trans V2.out⟩
theorem push_any (x : Int) (w : World) (a : LM K s w) (hc : 1 ≤ s.cnt ∧ s.cnt ≤ 64) (hn : s.ops.length + 5 < 1000000000) :
  Calls Tryz.prog 133 #[.pointer (some ⟨K.h, 0, none⟩), .int .i64 x] w fun e w' => e = .returned (.tuple #[]) ∧ LM K (s.push x) w' ∧ UW K w w' := by
 have P := κ (get_any 7 (by decide) w a (by omega))
 have G1 := κ (get_gw s 7)
 have G2 := κ (G1.out.trans (add_gw (s.get 7).2 (s.get 7).1 (-4)))
 have G3 := κ (G2.out.trans (store_gw _ 2 ((s.get 7).2.add (s.get 7).1 (-4)).1 x))
 have HN := κ hn
 have HC := κ hc
 clear a hn hc
 go_enter Tryz.func133, Tryz.ntmps133
 go_wp2_with (first
  | (go_at_call 118; refine P.out.mono ?_; rintro e w1 ⟨rfl, A1, U1⟩; have V1 := κ U1; have P2 := κ (add_any (K := K) (s.get 7).1 (-4) w1 A1 (by have := G1.out.n; have := HN.out; omega)); clear A1 U1)
  | (go_at_call 120; refine P2.out.mono ?_; rintro e w2 ⟨rfl, A2, U2⟩; have V2 := κ U2; have P3 := κ (store_any (K := K) 2 ((s.get 7).2.add (s.get 7).1 (-4)).1 x w2 A2 (by rw [G2.out.cnt]; exact HC.out) (by have := G2.out.n; have := HN.out; omega)); clear A2 U2)
  | (go_at_call 127; refine P3.out.mono ?_; rintro e w3 ⟨rfl, A3, U3⟩; have V3 := κ U3; have P4 := κ (set_any (K := K) 7 ((s.get 7).2.add (s.get 7).1 (-4)).1 (by decide) w3 A3 (by have := G3.out.n; have := HN.out; omega)); clear A3 U3)
  | (go_at_call 116; refine P4.out.mono ?_; rintro e w4 ⟨rfl, A4, U4⟩; have H4 := κ A4; have V4 := κ U4; clear A4 U4))
 go_end0
 exact ⟨rfl, H4.out, V1.out.trans (V2.out.trans (V3.out.trans V4.out))⟩
theorem pop_any (w : World) (a : LM K s w) (hc : 1 ≤ s.cnt ∧ s.cnt ≤ 64) (hn : s.ops.length + 5 < 1000000000) :
  Calls Tryz.prog 134 #[.pointer (some ⟨K.h, 0, none⟩)] w fun e w' => e = .returned (.int .i64 s.pop.1) ∧ LM K s.pop.2 w' ∧ UW K w w' := by
 have P := κ (get_any 7 (by decide) w a (by omega))
 have G1 := κ (get_gw s 7)
 have G2 := κ (G1.out.trans (load_gw (s.get 7).2 4 (s.get 7).1))
 have G3 := κ (G2.out.trans (add_gw _ (s.get 7).1 4))
 have HN := κ hn
 have HC := κ hc
 clear a hn hc
 go_enter Tryz.func134, Tryz.ntmps134
 go_wp2_with (first
  | (go_at_call 118; refine P.out.mono ?_; rintro e w1 ⟨rfl, A1, U1⟩; have V1 := κ U1; have P2 := κ (load_any (K := K) 4 (s.get 7).1 w1 A1 (by rw [G1.out.cnt]; exact HC.out) (by have := G1.out.n; have := HN.out; omega)); clear A1 U1)
  | (go_at_call 126; refine P2.out.mono ?_; rintro e w2 ⟨rfl, A2, U2⟩; have V2 := κ U2; have P3 := κ (add_any (K := K) (s.get 7).1 4 w2 A2 (by have := G2.out.n; have := HN.out; omega)); clear A2 U2)
  | (go_at_call 120; refine P3.out.mono ?_; rintro e w3 ⟨rfl, A3, U3⟩; have V3 := κ U3; have P4 := κ (set_any (K := K) 7 (((s.get 7).2.load 4 (s.get 7).1).2.add (s.get 7).1 4).1 (by decide) w3 A3 (by have := G3.out.n; have := HN.out; omega)); clear A3 U3)
  | (go_at_call 116; refine P4.out.mono ?_; rintro e w4 ⟨rfl, A4, U4⟩; have H4 := κ A4; have V4 := κ U4; clear A4 U4))
 go_ret
 exact ⟨rfl, H4.out, V1.out.trans (V2.out.trans (V3.out.trans V4.out))⟩
end Go.Proofs.YtcjcmnnhmajocabGreat.Lf
