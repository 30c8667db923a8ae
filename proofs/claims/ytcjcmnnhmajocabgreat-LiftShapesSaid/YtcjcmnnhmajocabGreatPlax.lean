/- lift: carried, alu. -/
import Derived.Test.YtcjcmnnhmajocabGreatPlaw
set_option linter.unusedVariables false
set_option linter.unusedSimpArgs false
set_option maxRecDepth 100000
set_option maxHeartbeats 16000000
namespace Go.Proofs.YtcjcmnnhmajocabGreat.Lf
open Go.RowKit Kt Ic Me
open Ot (OwnO OB)
variable {K : Kc} {s : Lk} {W W' : World} {B : Nat}
/-- the three slots, so many of them -/
def fl3 (s : Lk) (a b o : Int) : Nat → Lk
 | 0 => s
 | 1 => s.slotIf 9 a
 | 2 => (s.slotIf 9 a).slotIf 10 b
 | _ => ((s.slotIf 9 a).slotIf 10 b).slotIf 11 o
def tri (a b o : Int) (j : Nat) : Int := if j = 0 then a else if j = 1 then b else o
theorem fl3_step (s : Lk) (a b o : Int) {j : Nat} (hj : j < 3) : fl3 s a b o (j + 1) = (fl3 s a b o j).slotIf (9 + (j : Int)) (tri a b o j) := by
 rcases (show j = 0 ∨ j = 1 ∨ j = 2 by omega) with rfl | rfl | rfl <;> rfl
theorem fl3_gw (s : Lk) (a b o : Int) : ∀ j, Gw j s (fl3 s a b o j) ∨ Gw 3 s (fl3 s a b o j)
 | 0 => .inl (Gw.refl s)
 | 1 => .inl (slotIf_gw s _ _)
 | 2 => .inl ((slotIf_gw s _ _).trans (slotIf_gw _ _ _))
 | n + 3 => .inr (((slotIf_gw s _ _).trans (slotIf_gw _ _ _)).trans (slotIf_gw _ _ _))
theorem flag_any (kn : Bool) (k x y o : Int) (w : World) (a : LM K s w) (hn : s.ops.length + 5 < 1000000000) :
  Calls Tryz.prog 121 #[.pointer (some ⟨K.h, 0, none⟩), .agg #[.bool kn, .int .i64 k, .int .i64 x, .int .i64 y, .int .i64 o]] w fun e w' => e = .returned (.tuple #[]) ∧ LM K (s.flag k x y o) w' ∧ UW K w w' := by
 have B0 := Bx.new a #[.bool true, .int .i64 k, .int .i64 x, .int .i64 y, .int .i64 o] 108
 have a1 := a.alloc (.cells #[.bool true, .int .i64 k, .int .i64 x, .int .i64 y, .int .i64 o] 108)
 have U0 := κ (UW.alloc a.l (.cells #[.bool true, .int .i64 k, .int .i64 x, .int .i64 y, .int .i64 o] 108))
 have l := a.l
 have HN := κ hn
 have A := κ a1
 have BB := κ B0
 clear a a1 B0 hn
 go_enter Tryz.func121, Tryz.ntmps121
 go_upto_region 2 with fail
 generalize w.alloc (.cells #[.bool true, .int .i64 k, .int .i64 x, .int .i64 y, .int .i64 o] 108) = w1 at *
 obtain ⟨bx, hbx⟩ : ∃ bx, w.heap.size = bx := ⟨_, rfl⟩
 have HBX := κ hbx
 rw [hbx] at BB ⊢
 clear hbx
 have al := A.out.l
 have f14 := A.out.c 14 (by decide) (by decide)
 have f15 := A.out.c 15 (by decide) (by decide)
 have f16 := A.out.c 16 (by decide) (by decide)
 have f17 := A.out.c 17 (by decide) (by decide)
 have f18 := A.out.c 18 (by decide) (by decide)
 have fz := A.out.z
 have b0 := BB.out.c 0 _ rfl
 have b1 := BB.out.c 1 _ rfl
 have b2 := BB.out.c 2 _ rfl
 have b3 := BB.out.c 3 _ rfl
 have b4 := BB.out.c 4 _ rfl
 have bl := BB.out.l
 go_upto_region 3 with fail
 have A2 := A.out.setF5 k x y o
 have V2 := UW.setF5 (K := K) (W := w1) (.bool true) (.int .i64 k) (.int .i64 x) (.int .i64 y) (.int .i64 o)
 have B2 := BB.out.uw V2
 have U2 := κ (U0.out.trans V2)
 clear al f14 f15 f16 f17 f18 fz b0 b1 b2 b3 b4 bl V2 U0 A BB
 generalize ((((w1.setCell ⟨K.h, 14, none⟩ (.bool true)).setCell ⟨K.h, 15, none⟩ (.int .i64 k)).setCell ⟨K.h, 16, none⟩ (.int .i64 x)).setCell ⟨K.h, 17, none⟩ (.int .i64 y)).setCell ⟨K.h, 18, none⟩ (.int .i64 o) = w2 at *
 have b1 := B2.c 1 _ rfl
 have bl := B2.l
 have BB := κ B2
 obtain ⟨s1, hs1⟩ : ∃ s1, s.setF k x y o = s1 := ⟨_, rfl⟩
 rw [hs1] at A2
 have hl1 : s1.ops.length = s.ops.length := by rw [← hs1]; rfl
 have hn1 : s1.n = s.n := by rw [← hs1]; rfl
 have HL1 := κ hl1
 have HN1 := κ hn1
 have HS1 := κ hs1
 have P := κ (konst_any (K := K) (k % 4294967296) w2 A2 (by have := HN.out; omega))
 have hw : IntKind.u32.wrap k = k % 4294967296 := IntKind.wrap_u32 k
 clear A2 B2 hl1 hn1 hs1
 go_upto_region 4 with (first
  | (go_at_call 117; refine P.out.mono ?_; rintro e w3 ⟨rfl, A1, U1⟩; have B3 := BB.out.uw U1; have V3 := κ U1; have P2 := κ (slot_any (K := K) 8 (s1.K (k % 4294967296)).1 w3 A1 (by show (s1.put _).ops.length < _; rw [Lk.len1]; have := HN.out; have := HL1.out; omega)); have HB3 := κ B3; clear A1 U1 B3)
  | (go_at_call 182; refine P2.out.mono ?_; rintro e w4 ⟨rfl, A1, U1⟩; have HA := κ A1; have B4 := κ (HB3.out.uw U1); have V4 := κ U1; clear A1 U1))
 clear b1 bl hw
 have U4 := κ (U2.out.trans (V3.out.trans V4.out))
 have b2 := B4.out.c 2 _ rfl
 have b3 := B4.out.c 3 _ rfl
 have b4 := B4.out.c 4 _ rfl
 have bl := B4.out.l
 obtain ⟨s2, hs2⟩ : ∃ s2, (s1.K (k % 4294967296)).2.slot 8 (s1.K (k % 4294967296)).1 = s2 := ⟨_, rfl⟩
 rw [hs2] at HA
 have hl2 : s2.ops.length = s.ops.length + 2 := by
  rw [← hs2, ← HL1.out]
  show ((s1.put _).put _).ops.length = _
  rw [Lk.len1, Lk.len1]
 have HL2 := κ hl2
 have HS2 := κ hs2
 clear hs2 hl2 P P2 HB3 BB
 go_wp2
 have A5 := HA.out.alloc (.cells #[.int .i64 x, .int .i64 y, .int .i64 o] 3)
 have T5 := κ (Bx.new HA.out #[.int .i64 x, .int .i64 y, .int .i64 o] 3)
 have U5 := κ (U4.out.trans (UW.alloc HA.out.l (.cells #[.int .i64 x, .int .i64 y, .int .i64 o] 3)))
 have H5 := κ A5
 generalize w4.alloc (.cells #[.int .i64 x, .int .i64 y, .int .i64 o] 3) = w5 at *
 generalize w4.heap.size = bt at *
 clear A5 HA B4 U4 V3 V4 b2 b3 b4 bl
 go_loopg [26] 3 (fun n ix wr => ∃ j : Nat, n = 3 - j ∧ j ≤ 3 ∧ ix = .int .i64 j ∧ Hid (LM K (fl3 s2 x y o j) wr) ∧ Hid (Bx K bt #[.int .i64 x, .int .i64 y, .int .i64 o] wr) ∧ Hid (UW K w wr))
 case atStart => exact ⟨0, rfl, by decide, rfl, H5, T5, U5⟩
 case round =>
  obtain ⟨j, hk, hj, rfl, A, T, U⟩ := hrel
  have HK := κ hk
  clear hk
  by_cases hlt : j < 3
  ·have hlt' : (j : Int) < 3 := by omega
   have HLT := κ hlt
   have ct : wr.cell? ⟨bt, j, none⟩ = some (.int .i64 (tri x y o j)) := by
    rcases (show j = 0 ∨ j = 1 ∨ j = 2 by omega) with rfl | rfl | rfl
    ·exact T.out.c 0 _ rfl
    ·exact T.out.c 1 _ rfl
    ·exact T.out.c 2 _ rfl
   have bl := T.out.l
   have ST := κ (fl3_step s2 x y o hlt)
   obtain ⟨t, ht⟩ : ∃ t, tri x y o j = t := ⟨_, rfl⟩
   rw [ht] at ct ST
   have hlen : (fl3 s2 x y o j).ops.length < 1000000000 := by
    have h1 := HN.out
    have h2 := HL2.out
    rcases fl3_gw s2 x y o j with h | h <;> have := h.n <;> omega
   obtain ⟨sj, hsj⟩ : ∃ sj, fl3 s2 x y o j = sj := ⟨_, rfl⟩
   rw [hsj] at A ST hlen
   clear ht hsj hlt
   by_cases h0 : 0 ≤ t
   ·have d0 : decide (0 ≤ t) = true := decide_eq_true h0
    have P := κ (slot_any (K := K) (9 + (j : Int)) t wr A.out hlen)
    have E := κ (show fl3 s2 x y o (j + 1) = sj.slot (9 + (j : Int)) t by rw [ST.out]; unfold Lk.slotIf; rw [if_pos h0])
    clear h0 hlen
    go_wp2_with (go_at_call 182; refine P.out.mono ?_; rintro e w6 ⟨rfl, A1, U1⟩; have HA := κ A1; have T6 := κ (T.out.uw U1); have U6 := κ (U.out.trans U1); clear A1 U1)
    go_roundg (3 - (j + 1))
    case measure => have := HK.out; have := HLT.out; omega
    case rel => exact ⟨j + 1, rfl, HLT.out, by simp, κ (by rw [E.out]; exact HA.out), T6, U6⟩
   ·have d0 : decide (0 ≤ t) = false := decide_eq_false h0
    have E := κ (show fl3 s2 x y o (j + 1) = sj by rw [ST.out]; unfold Lk.slotIf; rw [if_neg h0])
    clear h0 hlen
    go_wp2
    go_roundg (3 - (j + 1))
    case measure => have := HK.out; have := HLT.out; omega
    case rel => exact ⟨j + 1, rfl, HLT.out, by simp, κ (by rw [E.out]; exact A.out), T, U⟩
  ·obtain rfl : j = 3 := by omega
   have E : fl3 s2 x y o 3 = s.flag k x y o := by
    rw [← HS2.out, ← HS1.out]; rfl
   have AE := κ (E ▸ A.out)
   clear hlt hj A E
   go_wp2
   go_end0
   exact ⟨rfl, AE.out, U.out⟩
def wtab : Array Value := #[.int .i64 0, .int .i64 1, .int .i64 0, .int .i64 0, .int .i64 1, .int .i64 3, .int .i64 0, .int .i64 0, .int .i64 2, .int .i64 5, .int .i64 3, .int .i64 5, .int .i64 4, .int .i64 5, .int .i64 1, .int .i64 3, .int .i64 2, .int .i64 5, .int .i64 5, .int .i64 6, .int .i64 6, .int .i64 7, .int .i64 7, .int .i64 8, .int .i64 8, .int .i64 9, .int .i64 9, .int .i64 10, .int .i64 11, .int .i64 5, .int .i64 12, .int .i64 5]
theorem below_dn {B : Nat} {w w' : World} (h : Below B w w') (n : Nat) : Below B w (w'.drewN n) := ⟨h.os, h.tape, h.output, h.size, h.block⟩
theorem wtab_size : wtab.size = 32 := by kernel_rfl
theorem wtab_one : wtab.all (·.oneCell') = true := by kernel_rfl
theorem info_wtab : (Tryz.prog.info? 308).map (fun i => (i.zero.map (fun z => z.cells.size), i.size)) = some (some 32, 32) := by kernel_rfl
theorem way_any (o : Int) (w : World) (h0 : 0 ≤ o) (h1 : o < 16) : Calls Tryz.prog 185 #[.int .i64 o] w fun e w' => e = .returned (.tuple #[.int .i64 (way o).1, .int .i64 (way o).2]) ∧ Below w.heap.size w w' := by
 obtain ⟨i, hi, hzz⟩ := Option.map_eq_some_iff.1 info_wtab
 simp only [Prod.mk.injEq] at hzz
 obtain ⟨hz1, hz2⟩ := hzz
 obtain ⟨z, hz, hzs⟩ := Option.map_eq_some_iff.1 hz1
 have HI := κ hi
 have HZ := κ hz
 have HS := κ hzs
 have HN := κ hz2
 clear hi hz hzs hz2 hz1
 have C := fun j v (h : wtab[j]? = some v) => (cell_of_row _ _ _ _ _ _ (heap_alloc_new w (.cells wtab 308))).trans h
 have CH := κ C
 have B1 := κ ((Below.refl _ w).alloc (Nat.le_refl _) (.cells wtab 308))
 have L1 : w.heap.size < (w.alloc (.cells wtab 308)).heap.size := by simp
 clear C
 go_enter Tryz.func185, Tryz.ntmps185
 go_upto_region 2 with (first
  | ((with_reducible refine wpList_value (o := ⟨some 20, _, _, _, _, _⟩) (v := .agg wtab) ?_ ?_ ?_); (rfl); (kernel_rfl))
  | ((with_reducible refine wpList_lay (o2 := ⟨some 4, _, _, _, _, _⟩) (o3 := ⟨none, _, _, _, _, _⟩) ?_ ?_ 308 ?_ (.tmp 4) (.tmp 20) ?_ ?_ i z HI.out HZ.out 32 HS.out HN.out wtab wtab_size wtab_one ?_ ?_ ?_); (rfl); (rfl); (rfl); (rfl); (rfl); (rfl); (rfl)))
 generalize w.alloc (.cells wtab 308) = w1 at *
 generalize Value.agg wtab = tv
 clear HI HZ HS HN
 rcases (show o = 0 ∨ o = 1 ∨ o = 2 ∨ o = 3 ∨ o = 4 ∨ o = 5 ∨ o = 6 ∨ o = 7 ∨ o = 8 ∨ o = 9 ∨ o = 10 ∨ o = 11 ∨ o = 12 ∨ o = 13 ∨ o = 14 ∨ o = 15 by omega) with rfl | rfl | rfl | rfl | rfl | rfl | rfl | rfl | rfl | rfl | rfl | rfl | rfl | rfl | rfl | rfl
 ·have c0 := CH.out 0 (.int .i64 0) (by kernel_rfl)
  have c1 := CH.out 1 (.int .i64 1) (by kernel_rfl)
  clear CH h0 h1
  go_wp2
  go_quiet (fail)
  go_wp2
  go_ret2
  exact ⟨rfl, below_dn (B1.out.alloc B1.out.size _) _⟩
 ·have c0 := CH.out 2 (.int .i64 0) (by kernel_rfl)
  have c1 := CH.out 3 (.int .i64 0) (by kernel_rfl)
  clear CH h0 h1
  go_wp2
  go_quiet (fail)
  go_wp2
  go_ret2
  exact ⟨rfl, below_dn (B1.out.alloc B1.out.size _) _⟩
 ·have c0 := CH.out 4 (.int .i64 1) (by kernel_rfl)
  have c1 := CH.out 5 (.int .i64 3) (by kernel_rfl)
  clear CH h0 h1
  go_wp2
  go_quiet (fail)
  go_wp2
  go_ret2
  exact ⟨rfl, below_dn (B1.out.alloc B1.out.size _) _⟩
 ·have c0 := CH.out 6 (.int .i64 0) (by kernel_rfl)
  have c1 := CH.out 7 (.int .i64 0) (by kernel_rfl)
  clear CH h0 h1
  go_wp2
  go_quiet (fail)
  go_wp2
  go_ret2
  exact ⟨rfl, below_dn (B1.out.alloc B1.out.size _) _⟩
 ·have c0 := CH.out 8 (.int .i64 2) (by kernel_rfl)
  have c1 := CH.out 9 (.int .i64 5) (by kernel_rfl)
  clear CH h0 h1
  go_wp2
  go_quiet (fail)
  go_wp2
  go_ret2
  exact ⟨rfl, below_dn (B1.out.alloc B1.out.size _) _⟩
 ·have c0 := CH.out 10 (.int .i64 3) (by kernel_rfl)
  have c1 := CH.out 11 (.int .i64 5) (by kernel_rfl)
  clear CH h0 h1
  go_wp2
  go_quiet (fail)
  go_wp2
  go_ret2
  exact ⟨rfl, below_dn (B1.out.alloc B1.out.size _) _⟩
 ·have c0 := CH.out 12 (.int .i64 4) (by kernel_rfl)
  have c1 := CH.out 13 (.int .i64 5) (by kernel_rfl)
  clear CH h0 h1
  go_wp2
  go_quiet (fail)
  go_wp2
  go_ret2
  exact ⟨rfl, below_dn (B1.out.alloc B1.out.size _) _⟩
 ·have c0 := CH.out 14 (.int .i64 1) (by kernel_rfl)
  have c1 := CH.out 15 (.int .i64 3) (by kernel_rfl)
  clear CH h0 h1
  go_wp2
  go_quiet (fail)
  go_wp2
  go_ret2
  exact ⟨rfl, below_dn (B1.out.alloc B1.out.size _) _⟩
 ·have c0 := CH.out 16 (.int .i64 2) (by kernel_rfl)
  have c1 := CH.out 17 (.int .i64 5) (by kernel_rfl)
  clear CH h0 h1
  go_wp2
  go_quiet (fail)
  go_wp2
  go_ret2
  exact ⟨rfl, below_dn (B1.out.alloc B1.out.size _) _⟩
 ·have c0 := CH.out 18 (.int .i64 5) (by kernel_rfl)
  have c1 := CH.out 19 (.int .i64 6) (by kernel_rfl)
  clear CH h0 h1
  go_wp2
  go_quiet (fail)
  go_wp2
  go_ret2
  exact ⟨rfl, below_dn (B1.out.alloc B1.out.size _) _⟩
 ·have c0 := CH.out 20 (.int .i64 6) (by kernel_rfl)
  have c1 := CH.out 21 (.int .i64 7) (by kernel_rfl)
  clear CH h0 h1
  go_wp2
  go_quiet (fail)
  go_wp2
  go_ret2
  exact ⟨rfl, below_dn (B1.out.alloc B1.out.size _) _⟩
 ·have c0 := CH.out 22 (.int .i64 7) (by kernel_rfl)
  have c1 := CH.out 23 (.int .i64 8) (by kernel_rfl)
  clear CH h0 h1
  go_wp2
  go_quiet (fail)
  go_wp2
  go_ret2
  exact ⟨rfl, below_dn (B1.out.alloc B1.out.size _) _⟩
 ·have c0 := CH.out 24 (.int .i64 8) (by kernel_rfl)
  have c1 := CH.out 25 (.int .i64 9) (by kernel_rfl)
  clear CH h0 h1
  go_wp2
  go_quiet (fail)
  go_wp2
  go_ret2
  exact ⟨rfl, below_dn (B1.out.alloc B1.out.size _) _⟩
 ·have c0 := CH.out 26 (.int .i64 9) (by kernel_rfl)
  have c1 := CH.out 27 (.int .i64 10) (by kernel_rfl)
  clear CH h0 h1
  go_wp2
  go_quiet (fail)
  go_wp2
  go_ret2
  exact ⟨rfl, below_dn (B1.out.alloc B1.out.size _) _⟩
 ·have c0 := CH.out 28 (.int .i64 11) (by kernel_rfl)
  have c1 := CH.out 29 (.int .i64 5) (by kernel_rfl)
  clear CH h0 h1
  go_wp2
  go_quiet (fail)
  go_wp2
  go_ret2
  exact ⟨rfl, below_dn (B1.out.alloc B1.out.size _) _⟩
 ·have c0 := CH.out 30 (.int .i64 12) (by kernel_rfl)
  have c1 := CH.out 31 (.int .i64 5) (by kernel_rfl)
  clear CH h0 h1
  go_wp2
  go_quiet (fail)
  go_wp2
  go_ret2
  exact ⟨rfl, below_dn (B1.out.alloc B1.out.size _) _⟩
open Ot (OwnO OB)
variable {K : Kc} {s : Lk} {W W' : World} {B : Nat}
theorem carr_gw (s : Lk) (o : Int) (d : Nat) (a b : Int) : Gw 17 s (s.carr o d a b) := by
 unfold Lk.carr
 exact ((((((((now_gw s).trans (K_gw _ _)).trans (B_gw _ _ _ _)).trans (K_gw _ _)).trans (B_gw _ _ _ _)).trans (B_gw _ _ _ _)).trans (B_gw _ _ _ _)).trans (set_gw _ _ _)).trans (flag_gw _ _ _ _ _)
theorem carr_1 (x y : Int) (r : Nat) (hr : r < 8) (w : World) (a : LM K s w) (hn : s.ops.length + 20 < 1000000000) :
  Calls Tryz.prog 184 #[.pointer (some ⟨K.h, 0, none⟩), .int .i64 1, .int .i64 r, .int .i64 x, .int .i64 y] w fun e w' => e = .returned (.tuple #[]) ∧ LM K (s.carr 1 r x y) w' ∧ UW K w w' := by
 have HN := κ hn
 have HR := κ hr
 obtain ⟨p1, hp1⟩ : ∃ p, s.now = p := ⟨_, rfl⟩
 have g1 : Gw 5 s p1.2 := by rw [← hp1]; exact now_gw s 
 have G1 := κ g1
 clear g1
 obtain ⟨p2, hp2⟩ : ∃ p, p1.2.K 2 = p := ⟨_, rfl⟩
 have g2 : Gw 1 p1.2 p2.2 := by rw [← hp2]; exact K_gw p1.2 _ 
 have G2 := κ (G1.out.trans g2)
 clear g2
 obtain ⟨p3, hp3⟩ : ∃ p, p2.2.B 6 p1.1 p2.1 = p := ⟨_, rfl⟩
 have g3 : Gw 1 p2.2 p3.2 := by rw [← hp3]; exact B_gw p2.2 _ _ _ 
 have G3 := κ (G2.out.trans g3)
 clear g3
 obtain ⟨p4, hp4⟩ : ∃ p, p3.2.K 1 = p := ⟨_, rfl⟩
 have g4 : Gw 1 p3.2 p4.2 := by rw [← hp4]; exact K_gw p3.2 _ 
 have G4 := κ (G3.out.trans g4)
 clear g4
 obtain ⟨p5, hp5⟩ : ∃ p, p4.2.B 2 p3.1 p4.1 = p := ⟨_, rfl⟩
 have g5 : Gw 1 p4.2 p5.2 := by rw [← hp5]; exact B_gw p4.2 _ _ _ 
 have G5 := κ (G4.out.trans g5)
 clear g5
 obtain ⟨p6, hp6⟩ : ∃ p, p5.2.B 0 x y = p := ⟨_, rfl⟩
 have g6 : Gw 1 p5.2 p6.2 := by rw [← hp6]; exact B_gw p5.2 _ _ _ 
 have G6 := κ (G5.out.trans g6)
 clear g6
 obtain ⟨p7, hp7⟩ : ∃ p, p6.2.B 0 p6.1 p5.1 = p := ⟨_, rfl⟩
 have g7 : Gw 1 p6.2 p7.2 := by rw [← hp7]; exact B_gw p6.2 _ _ _ 
 have G7 := κ (G6.out.trans g7)
 clear g7
 obtain ⟨p8, hp8⟩ : ∃ p, p7.2.set r p7.1 = p := ⟨_, rfl⟩
 have g8 : Gw 1 p7.2 p8 := by rw [← hp8]; exact set_gw p7.2 _ _ 
 have G8 := κ (G7.out.trans g8)
 clear g8
 obtain ⟨p9, hp9⟩ : ∃ p, p8.flag 2 x y p1.1 = p := ⟨_, rfl⟩
 have g9 : Gw 5 p8 p9 := by rw [← hp9]; exact flag_gw p8 _ _ _ _ 
 have G9 := κ (G8.out.trans g9)
 clear g9
 have E : s.carr 1 r x y = p9 := by simp only [Lk.carr, hp1, hp2, hp3, hp4, hp5, hp6, hp7, hp8, hp9, Int.reduceEq, ↓reduceIte]
 rw [E]
 have P1 := now_any (K := K)  w a (by have := HN.out; omega)
 rw [hp1] at P1
 have P1 := κ P1
 clear a hn hr E
 go_enter Tryz.func184, Tryz.ntmps184
 go_wp2_with (first
  | (go_at_call 119; refine P1.out.mono ?_; rintro e w1 ⟨rfl, A1, U1⟩; have V1 := κ U1; have P2 := konst_any (K := K) 2 w1 A1 (by have := G1.out.n; have := HN.out; omega); rw [hp2] at P2; have P2 := κ P2; clear P1 A1 U1)
  | (go_at_call 117; refine P2.out.mono ?_; rintro e w2 ⟨rfl, A1, U1⟩; have V2 := κ U1; have P3 := bin_any (K := K) 6 p1.1 p2.1 w2 A1 (by have := G2.out.n; have := HN.out; omega); rw [hp3] at P3; have P3 := κ P3; clear P2 A1 U1)
  | (go_at_call 135; refine P3.out.mono ?_; rintro e w3 ⟨rfl, A1, U1⟩; have V3 := κ U1; have P4 := konst_any (K := K) 1 w3 A1 (by have := G3.out.n; have := HN.out; omega); rw [hp4] at P4; have P4 := κ P4; clear P3 A1 U1)
  | (go_at_call 117; refine P4.out.mono ?_; rintro e w4 ⟨rfl, A1, U1⟩; have V4 := κ U1; have P5 := bin_any (K := K) 2 p3.1 p4.1 w4 A1 (by have := G4.out.n; have := HN.out; omega); rw [hp5] at P5; have P5 := κ P5; clear P4 A1 U1)
  | (go_at_call 135; refine P5.out.mono ?_; rintro e w5 ⟨rfl, A1, U1⟩; have V5 := κ U1; have P6 := bin_any (K := K) 0 x y w5 A1 (by have := G5.out.n; have := HN.out; omega); rw [hp6] at P6; have P6 := κ P6; clear P5 A1 U1)
  | (go_at_call 135; refine P6.out.mono ?_; rintro e w6 ⟨rfl, A1, U1⟩; have V6 := κ U1; have P7 := bin_any (K := K) 0 p6.1 p5.1 w6 A1 (by have := G6.out.n; have := HN.out; omega); rw [hp7] at P7; have P7 := κ P7; clear P6 A1 U1)
  | (go_at_call 135; refine P7.out.mono ?_; rintro e w7 ⟨rfl, A1, U1⟩; have V7 := κ U1; have P8 := set_any (K := K) r p7.1 HR.out w7 A1 (by have := G7.out.n; have := HN.out; omega); rw [hp8] at P8; have P8 := κ P8; clear P7 A1 U1)
  | (go_at_call 116; refine P8.out.mono ?_; rintro e w8 ⟨rfl, A1, U1⟩; have V8 := κ U1; have P9 := flag_any (K := K) false 2 x y p1.1 w8 A1 (by have := G8.out.n; have := HN.out; omega); rw [hp9] at P9; have P9 := κ P9; clear P8 A1 U1)
  | (go_at_call 121; refine P9.out.mono ?_; rintro e w9 ⟨rfl, A1, U1⟩; have V9 := κ U1; have HL := κ A1; clear P9 A1 U1))
 go_end0
 exact ⟨rfl, HL.out, (V1.out.trans (V2.out.trans (V3.out.trans (V4.out.trans (V5.out.trans (V6.out.trans (V7.out.trans (V8.out.trans V9.out))))))))⟩
theorem carr_3 (x y : Int) (r : Nat) (hr : r < 8) (w : World) (a : LM K s w) (hn : s.ops.length + 20 < 1000000000) :
  Calls Tryz.prog 184 #[.pointer (some ⟨K.h, 0, none⟩), .int .i64 3, .int .i64 r, .int .i64 x, .int .i64 y] w fun e w' => e = .returned (.tuple #[]) ∧ LM K (s.carr 3 r x y) w' ∧ UW K w w' := by
 have HN := κ hn
 have HR := κ hr
 obtain ⟨p1, hp1⟩ : ∃ p, s.now = p := ⟨_, rfl⟩
 have g1 : Gw 5 s p1.2 := by rw [← hp1]; exact now_gw s 
 have G1 := κ g1
 clear g1
 obtain ⟨p2, hp2⟩ : ∃ p, p1.2.K 2 = p := ⟨_, rfl⟩
 have g2 : Gw 1 p1.2 p2.2 := by rw [← hp2]; exact K_gw p1.2 _ 
 have G2 := κ (G1.out.trans g2)
 clear g2
 obtain ⟨p3, hp3⟩ : ∃ p, p2.2.B 6 p1.1 p2.1 = p := ⟨_, rfl⟩
 have g3 : Gw 1 p2.2 p3.2 := by rw [← hp3]; exact B_gw p2.2 _ _ _ 
 have G3 := κ (G2.out.trans g3)
 clear g3
 obtain ⟨p4, hp4⟩ : ∃ p, p3.2.K 1 = p := ⟨_, rfl⟩
 have g4 : Gw 1 p3.2 p4.2 := by rw [← hp4]; exact K_gw p3.2 _ 
 have G4 := κ (G3.out.trans g4)
 clear g4
 obtain ⟨p5, hp5⟩ : ∃ p, p4.2.B 2 p3.1 p4.1 = p := ⟨_, rfl⟩
 have g5 : Gw 1 p4.2 p5.2 := by rw [← hp5]; exact B_gw p4.2 _ _ _ 
 have G5 := κ (G4.out.trans g5)
 clear g5
 obtain ⟨p6, hp6⟩ : ∃ p, p5.2.B 1 x y = p := ⟨_, rfl⟩
 have g6 : Gw 1 p5.2 p6.2 := by rw [← hp6]; exact B_gw p5.2 _ _ _ 
 have G6 := κ (G5.out.trans g6)
 clear g6
 obtain ⟨p7, hp7⟩ : ∃ p, p6.2.B 1 p6.1 p5.1 = p := ⟨_, rfl⟩
 have g7 : Gw 1 p6.2 p7.2 := by rw [← hp7]; exact B_gw p6.2 _ _ _ 
 have G7 := κ (G6.out.trans g7)
 clear g7
 obtain ⟨p8, hp8⟩ : ∃ p, p7.2.set r p7.1 = p := ⟨_, rfl⟩
 have g8 : Gw 1 p7.2 p8 := by rw [← hp8]; exact set_gw p7.2 _ _ 
 have G8 := κ (G7.out.trans g8)
 clear g8
 obtain ⟨p9, hp9⟩ : ∃ p, p8.flag 4 x y p1.1 = p := ⟨_, rfl⟩
 have g9 : Gw 5 p8 p9 := by rw [← hp9]; exact flag_gw p8 _ _ _ _ 
 have G9 := κ (G8.out.trans g9)
 clear g9
 have E : s.carr 3 r x y = p9 := by simp only [Lk.carr, hp1, hp2, hp3, hp4, hp5, hp6, hp7, hp8, hp9, Int.reduceEq, ↓reduceIte]
 rw [E]
 have P1 := now_any (K := K)  w a (by have := HN.out; omega)
 rw [hp1] at P1
 have P1 := κ P1
 clear a hn hr E
 go_enter Tryz.func184, Tryz.ntmps184
 go_wp2_with (first
  | (go_at_call 119; refine P1.out.mono ?_; rintro e w1 ⟨rfl, A1, U1⟩; have V1 := κ U1; have P2 := konst_any (K := K) 2 w1 A1 (by have := G1.out.n; have := HN.out; omega); rw [hp2] at P2; have P2 := κ P2; clear P1 A1 U1)
  | (go_at_call 117; refine P2.out.mono ?_; rintro e w2 ⟨rfl, A1, U1⟩; have V2 := κ U1; have P3 := bin_any (K := K) 6 p1.1 p2.1 w2 A1 (by have := G2.out.n; have := HN.out; omega); rw [hp3] at P3; have P3 := κ P3; clear P2 A1 U1)
  | (go_at_call 135; refine P3.out.mono ?_; rintro e w3 ⟨rfl, A1, U1⟩; have V3 := κ U1; have P4 := konst_any (K := K) 1 w3 A1 (by have := G3.out.n; have := HN.out; omega); rw [hp4] at P4; have P4 := κ P4; clear P3 A1 U1)
  | (go_at_call 117; refine P4.out.mono ?_; rintro e w4 ⟨rfl, A1, U1⟩; have V4 := κ U1; have P5 := bin_any (K := K) 2 p3.1 p4.1 w4 A1 (by have := G4.out.n; have := HN.out; omega); rw [hp5] at P5; have P5 := κ P5; clear P4 A1 U1)
  | (go_at_call 135; refine P5.out.mono ?_; rintro e w5 ⟨rfl, A1, U1⟩; have V5 := κ U1; have P6 := bin_any (K := K) 1 x y w5 A1 (by have := G5.out.n; have := HN.out; omega); rw [hp6] at P6; have P6 := κ P6; clear P5 A1 U1)
  | (go_at_call 135; refine P6.out.mono ?_; rintro e w6 ⟨rfl, A1, U1⟩; have V6 := κ U1; have P7 := bin_any (K := K) 1 p6.1 p5.1 w6 A1 (by have := G6.out.n; have := HN.out; omega); rw [hp7] at P7; have P7 := κ P7; clear P6 A1 U1)
  | (go_at_call 135; refine P7.out.mono ?_; rintro e w7 ⟨rfl, A1, U1⟩; have V7 := κ U1; have P8 := set_any (K := K) r p7.1 HR.out w7 A1 (by have := G7.out.n; have := HN.out; omega); rw [hp8] at P8; have P8 := κ P8; clear P7 A1 U1)
  | (go_at_call 116; refine P8.out.mono ?_; rintro e w8 ⟨rfl, A1, U1⟩; have V8 := κ U1; have P9 := flag_any (K := K) false 4 x y p1.1 w8 A1 (by have := G8.out.n; have := HN.out; omega); rw [hp9] at P9; have P9 := κ P9; clear P8 A1 U1)
  | (go_at_call 121; refine P9.out.mono ?_; rintro e w9 ⟨rfl, A1, U1⟩; have V9 := κ U1; have HL := κ A1; clear P9 A1 U1))
 go_end0
 exact ⟨rfl, HL.out, (V1.out.trans (V2.out.trans (V3.out.trans (V4.out.trans (V5.out.trans (V6.out.trans (V7.out.trans (V8.out.trans V9.out))))))))⟩
/-- what is under way in a call that has a box of its own: the maker, what changed since, the box -/
structure AL (K : Kc) (w0 : World) (s : Lk) (bx : Nat) (cs : Array Value) (W : World) : Prop where
 m : LM K s W
 u : UX K w0.heap.size w0 W
 b : Bx K bx cs W
 g : w0.heap.size ≤ bx
variable {w0 : World} {bx : Nat} {cs : Array Value}
theorem AL.call {s' : Lk} (h : AL K w0 s bx cs W) (A : LM K s' W') (U : UW K W W') : AL K w0 s' bx cs W' := ⟨A, h.u.trans (Nat.le_refl _) (UX.of U), h.b.uw U, h.g⟩
theorem AL.new {a : World} (m : LM K s a) (u : UW K w0 a) (cs : Array Value) (t : TypeId) : AL K w0 s a.heap.size cs (a.alloc (.cells cs t)) := ⟨m.alloc _, UX.of (u.trans (UW.alloc m.l _)), Bx.new m cs t, u.u.size⟩
theorem Bx.putc {b : Nat} (h : Bx K b cs W) (j : Nat) (v : Value) : Bx K b (cs.setIfInBounds j v) (W.setCell ⟨b, j, none⟩ v) := by
 refine ⟨by simpa using h.l, fun i u hi => ?_, fun i => by simpa using h.z i, fun e => ?_⟩
 ·by_cases e : i = j
  ·subst e
   have hs : i < cs.size := by
    have := (Array.getElem?_eq_some_iff.1 hi).1
    simpa using this
   rw [Array.getElem?_setIfInBounds_self_of_lt hs] at hi
   obtain rfl := Option.some.inj hi
   exact World.cell?_setCell_same _ _ _ (h.c i _ (Array.getElem?_eq_getElem hs))
  ·rw [Array.getElem?_setIfInBounds_ne (fun h => e h.symm)] at hi
   rw [HM.cell_other e]; exact h.c i u hi
 ·rcases e with e | e
  ·exact h.n (.inl e)
  ·have hh : b ≠ K.h := fun e => h.n (.inl e)
   obtain ⟨x, h1, h2⟩ := e
   exact h.n (.inr ⟨x, (World.cell?_setCell_other _ _ _ _ (fun hx => hh (congrArg Addr.block hx))).symm.trans h1, h2⟩)
theorem AL.put (h : AL K w0 s bx cs W) (j : Nat) (v : Value) : AL K w0 s bx (cs.setIfInBounds j v) (W.setCell ⟨bx, j, none⟩ v) :=
 ⟨h.m.apart h.b.n h.b.l j v, h.u.trans (Nat.le_refl _) (UX.set bx j v h.g (fun e => h.b.n (.inl e))), h.b.putc j v, h.g⟩
theorem AL.fin (h : AL K w0 s bx cs W) : UW K w0 W := h.u.fin
theorem AL.five {v0 v1 v2 v3 v4 : Value} (h : AL K w0 s bx #[v0, v1, v2, v3, v4] W) : W.cell? ⟨bx, 0, none⟩ = some v0 ∧ W.cell? ⟨bx, 1, none⟩ = some v1 ∧ W.cell? ⟨bx, 2, none⟩ = some v2 ∧ W.cell? ⟨bx, 3, none⟩ = some v3 ∧ W.cell? ⟨bx, 4, none⟩ = some v4 ∧ bx < W.heap.size ∧ (∀ j, W.frozen? ⟨bx, j, none⟩ = false) ∧ K.h < W.heap.size :=
 ⟨h.b.c 0 _ rfl, h.b.c 1 _ rfl, h.b.c 2 _ rfl, h.b.c 3 _ rfl, h.b.c 4 _ rfl, h.b.l, h.b.z, h.m.l⟩
end Go.Proofs.YtcjcmnnhmajocabGreat.Lf
