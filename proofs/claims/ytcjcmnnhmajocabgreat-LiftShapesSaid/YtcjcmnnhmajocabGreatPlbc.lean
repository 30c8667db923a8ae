/- '==' on stops; slices of the call's own that are turned. -/
import Derived.Test.YtcjcmnnhmajocabGreatPlba
import Derived.Test.YtcjcmnnhmajocabGreatPlbb
set_option linter.unusedVariables false
set_option linter.unusedSimpArgs false
set_option maxRecDepth 100000
set_option maxHeartbeats 16000000
namespace Go.Proofs.YtcjcmnnhmajocabGreat.Lf
open Go.RowKit Kt Ic Me
open Ot (OwnO OB)
variable {K : Kc} {s : Lk} {W W' : World} {B : Nat}
theorem moves_1 (d r f m : Int) (w : World) (a : LM K s w) (hc : 1 ≤ s.cnt ∧ s.cnt ≤ 64) (hn : s.ops.length + 60 < 1000000000) :
  Calls Tryz.prog 86 #[.pointer (some ⟨K.h, 0, none⟩), .agg #[.int .i64 1, .int .i64 d, .int .i64 r, .int .i64 f, .int .u32 m]] w fun e w' => e = .returned (.tuple #[]) ∧ LM K (s.put ⟨14, 2, 0, 0, 0, s.pc, s.cnt - 1⟩) w' ∧ UW K w w' := by
 have A0 := κ (a.alloc (.cells #[.int .i64 1, .int .i64 d, .int .i64 r, .int .i64 f, .int .u32 m] 74))
 have B0 := κ (Bx.new a #[.int .i64 1, .int .i64 d, .int .i64 r, .int .i64 f, .int .u32 m] 74)
 have U0 := κ (UW.alloc a.l (.cells #[.int .i64 1, .int .i64 d, .int .i64 r, .int .i64 f, .int .u32 m] 74))
 have HN := κ hn
 have HC := κ hc
 clear a hn hc
 go_enter Tryz.func86, Tryz.ntmps86
 go_upto_region 1 with fail
 generalize w.alloc (.cells #[.int .i64 1, .int .i64 d, .int .i64 r, .int .i64 f, .int .u32 m] 74) = wz at *
 generalize w.heap.size = bx at *
 have x0 := B0.out.c 0 _ rfl
 have x4 := B0.out.c 4 _ rfl
 have xl := B0.out.l
 have y5 : wz.cell? ⟨K.h, 5, none⟩ = some (.int .u32 s.nx) := A0.out.c 5 (by decide) (by decide)
 have yl := A0.out.l
 go_region
 replace B0 := κ (B0.out.uw (UW.drew (K := K) A0.out.l))
 replace U0 := κ (U0.out.trans (UW.drew (K := K) A0.out.l))
 replace A0 := κ A0.out.drew
 clear x0 x4 xl y5 yl
 generalize wz.drew = w0 at *
 have x0 := B0.out.c 0 _ rfl
 have xl := B0.out.l
 have y4 : w0.cell? ⟨K.h, 4, none⟩ = some (.int .u32 s.pc) := A0.out.c 4 (by decide) (by decide)
 have yl := A0.out.l
 have P := κ (put_any (s := s) (K := K) ⟨14, 2, 0, 0, 0, s.pc, s.cnt - 1⟩ w0.drew A0.out.drew (by have := HN.out; omega))
 have D := κ (done_any w0.drew A0.out.drew HC.out)
 have V0 := κ (UW.drew (K := K) A0.out.l)
 go_wp2
 go_region_with (first
  | (go_at_call 130; refine D.out.mono ?_; rintro e wd ⟨rfl, rfl⟩)
  | (go_at_call 54; refine P.out.mono ?_; rintro e w1 ⟨rfl, A1, U1⟩; have H1 := κ A1; have V1 := κ U1; clear A1 U1))
 all_goals go_wp2
 all_goals go_end0
 all_goals exact ⟨rfl, H1.out, U0.out.trans (V0.out.trans V1.out)⟩
theorem plain_no (o d r f m : Int) (w : World) (a : LM K s w) (ho : o = 1 ∨ o = 5 ∨ o = 6 ∨ o = 7 ∨ o = 12 ∨ o = 13 ∨ o = 9 ∨ o = 11 ∨ o = 8 ∨ o = 10 ∨ o = 2 ∨ o = 14 ∨ o = 15 ∨ o = 3 ∨ o = 4) :
  Calls Tryz.prog 85 #[.pointer (some ⟨K.h, 0, none⟩), .agg #[.int .i64 o, .int .i64 d, .int .i64 r, .int .i64 f, .int .u32 m]] w fun e w' => e = .returned (.bool false) ∧ LM K s w' ∧ UW K w w' := by
 have A0 := κ (a.alloc (.cells #[.int .i64 o, .int .i64 d, .int .i64 r, .int .i64 f, .int .u32 m] 74))
 have B0 := κ (Bx.new a #[.int .i64 o, .int .i64 d, .int .i64 r, .int .i64 f, .int .u32 m] 74)
 have U0 := κ (UW.alloc a.l (.cells #[.int .i64 o, .int .i64 d, .int .i64 r, .int .i64 f, .int .u32 m] 74))
 clear a
 go_enter Tryz.func85, Tryz.ntmps85
 go_upto_region 1 with fail
 generalize w.alloc (.cells #[.int .i64 o, .int .i64 d, .int .i64 r, .int .i64 f, .int .u32 m] 74) = w0 at *
 generalize w.heap.size = bx at *
 have x0 := B0.out.c 0 _ rfl
 have xl := B0.out.l
 clear B0
 rcases ho with rfl | rfl | rfl | rfl | rfl | rfl | rfl | rfl | rfl | rfl | rfl | rfl | rfl | rfl | rfl
 all_goals
  go_wp2
  go_ret
  exact ⟨rfl, A0.out, U0.out⟩
theorem plain_any (o f m : Int) (d r : Nat) (hd : d < 8) (hr : r < 8) (ho : 0 ≤ o ∧ o < 32) (hf : (o = 27 ∨ o = 28 ∨ o = 29) → 0 ≤ f ∧ f < 16) (w : World) (a : LM K s w) (hc : 1 ≤ s.cnt ∧ s.cnt ≤ 64) (hn : s.ops.length + 60 < 1000000000) :
  Calls Tryz.prog 85 #[.pointer (some ⟨K.h, 0, none⟩), .agg #[.int .i64 o, .int .i64 d, .int .i64 r, .int .i64 f, .int .u32 m]] w fun e w' => e = .returned (.bool (s.plain o d r f m).1) ∧ LM K (s.plain o d r f m).2 w' ∧ UW K w w' := by
 rcases (show o = 0 ∨ o = 1 ∨ o = 2 ∨ o = 3 ∨ o = 4 ∨ o = 5 ∨ o = 6 ∨ o = 7 ∨ o = 8 ∨ o = 9 ∨ o = 10 ∨ o = 11 ∨ o = 12 ∨ o = 13 ∨ o = 14 ∨ o = 15 ∨ o = 16 ∨ o = 17 ∨ o = 18 ∨ o = 19 ∨ o = 20 ∨ o = 21 ∨ o = 22 ∨ o = 23 ∨ o = 24 ∨ o = 25 ∨ o = 26 ∨ o = 27 ∨ o = 28 ∨ o = 29 ∨ o = 30 ∨ o = 31 by omega) with rfl | rfl | rfl | rfl | rfl | rfl | rfl | rfl | rfl | rfl | rfl | rfl | rfl | rfl | rfl | rfl | rfl | rfl | rfl | rfl | rfl | rfl | rfl | rfl | rfl | rfl | rfl | rfl | rfl | rfl | rfl | rfl
 ·exact plain_0 d r f m hd hr w a hc hn
 ·exact plain_no 1 d r f m w a (by decide)
 ·exact plain_no 2 d r f m w a (by decide)
 ·exact plain_no 3 d r f m w a (by decide)
 ·exact plain_no 4 d r f m w a (by decide)
 ·exact plain_no 5 d r f m w a (by decide)
 ·exact plain_no 6 d r f m w a (by decide)
 ·exact plain_no 7 d r f m w a (by decide)
 ·exact plain_no 8 d r f m w a (by decide)
 ·exact plain_no 9 d r f m w a (by decide)
 ·exact plain_no 10 d r f m w a (by decide)
 ·exact plain_no 11 d r f m w a (by decide)
 ·exact plain_no 12 d r f m w a (by decide)
 ·exact plain_no 13 d r f m w a (by decide)
 ·exact plain_no 14 d r f m w a (by decide)
 ·exact plain_no 15 d r f m w a (by decide)
 ·exact plain_16 d r f m hd hr w a hc hn
 ·exact plain_17 d r f m hd hr w a hc hn
 ·exact plain_18 d r f m hd hr w a hc hn
 ·exact plain_19 d r f m hd hr w a hc hn
 ·exact plain_20 d r f m hd hr w a hc hn
 ·exact plain_21 d r f m hd hr w a hc hn
 ·exact plain_22 d r f m hd hr w a hc hn
 ·exact plain_23 d r f m hd hr w a hc hn
 ·exact plain_24 d r f m hd hr w a hc hn
 ·exact plain_25 d r f m hd hr w a hc hn
 ·exact plain_26 d r f m hd hr w a hc hn
 ·exact plain_27 d r f m hd hr (hf (by decide)).1 (hf (by decide)).2 w a hc hn
 ·exact plain_28 d r f m hd hr (hf (by decide)).1 (hf (by decide)).2 w a hc hn
 ·exact plain_29 d r f m hd hr (hf (by decide)).1 (hf (by decide)).2 w a hc hn
 ·exact plain_30 d r f m hd hr w a hc hn
 ·exact plain_31 d r f m hd hr w a hc hn
theorem moves_any (o f m : Int) (d r : Nat) (hd : d < 8) (hr : r < 8) (ho : o = 1 ∨ o = 5 ∨ o = 6 ∨ o = 7 ∨ o = 12 ∨ o = 13 ∨ o = 9 ∨ o = 11 ∨ o = 8 ∨ o = 10 ∨ o = 2 ∨ o = 14 ∨ o = 15 ∨ o = 3 ∨ o = 4) (m0 : 0 ≤ m) (m1 : m < 4294967296) (w : World) (a : LM K s w) (hc : 1 ≤ s.cnt ∧ s.cnt ≤ 64) (hn : s.ops.length + 60 < 1000000000) :
  Calls Tryz.prog 86 #[.pointer (some ⟨K.h, 0, none⟩), .agg #[.int .i64 o, .int .i64 d, .int .i64 r, .int .i64 f, .int .u32 m]] w fun e w' => e = .returned (.tuple #[]) ∧ LM K (s.moves o d r f m) w' ∧ UW K w w' := by
 rcases ho with rfl | rfl | rfl | rfl | rfl | rfl | rfl | rfl | rfl | rfl | rfl | rfl | rfl | rfl | rfl
 ·exact moves_1 d r f m w a hc hn
 ·exact moves_5 d r f m hd hr m0 m1 w a hc hn
 ·exact moves_6 d r f m hd hr w a hc hn
 ·exact moves_7 d r f m hd hr w a hc hn
 ·exact moves_12 d r f m hd hr w a hc hn
 ·exact moves_13 d r f m hd hr w a hc hn
 ·exact moves_9 d r f m hd hr w a hc hn
 ·exact moves_11 d r f m hd hr w a hc hn
 ·exact moves_8 d r f m hd hr w a hc hn
 ·exact moves_10 d r f m hd hr w a hc hn
 ·exact moves_2 d r f m hd hr w a hc hn
 ·exact moves_14 d r f m hd hr w a hc hn
 ·exact moves_15 d r f m hd hr w a hc hn
 ·exact moves_3 d r f m hd hr w a hc hn
 ·exact moves_4 d r f m hd hr w a hc hn
theorem plain_yes (s : Lk) (o f m : Int) (d r : Nat) (ho : 0 ≤ o ∧ o < 32) : (s.plain o d r f m).1 = false → o = 1 ∨ o = 5 ∨ o = 6 ∨ o = 7 ∨ o = 12 ∨ o = 13 ∨ o = 9 ∨ o = 11 ∨ o = 8 ∨ o = 10 ∨ o = 2 ∨ o = 14 ∨ o = 15 ∨ o = 3 ∨ o = 4 := by
 rcases (show o = 0 ∨ o = 1 ∨ o = 2 ∨ o = 3 ∨ o = 4 ∨ o = 5 ∨ o = 6 ∨ o = 7 ∨ o = 8 ∨ o = 9 ∨ o = 10 ∨ o = 11 ∨ o = 12 ∨ o = 13 ∨ o = 14 ∨ o = 15 ∨ o = 16 ∨ o = 17 ∨ o = 18 ∨ o = 19 ∨ o = 20 ∨ o = 21 ∨ o = 22 ∨ o = 23 ∨ o = 24 ∨ o = 25 ∨ o = 26 ∨ o = 27 ∨ o = 28 ∨ o = 29 ∨ o = 30 ∨ o = 31 by omega) with rfl | rfl | rfl | rfl | rfl | rfl | rfl | rfl | rfl | rfl | rfl | rfl | rfl | rfl | rfl | rfl | rfl | rfl | rfl | rfl | rfl | rfl | rfl | rfl | rfl | rfl | rfl | rfl | rfl | rfl | rfl | rfl
 ·exact fun h => absurd (show true = false from h) (by decide)
 ·exact fun _ => by decide
 ·exact fun _ => by decide
 ·exact fun _ => by decide
 ·exact fun _ => by decide
 ·exact fun _ => by decide
 ·exact fun _ => by decide
 ·exact fun _ => by decide
 ·exact fun _ => by decide
 ·exact fun _ => by decide
 ·exact fun _ => by decide
 ·exact fun _ => by decide
 ·exact fun _ => by decide
 ·exact fun _ => by decide
 ·exact fun _ => by decide
 ·exact fun _ => by decide
 ·exact fun h => absurd (show true = false from h) (by decide)
 ·exact fun h => absurd (show true = false from h) (by decide)
 ·exact fun h => absurd (show true = false from h) (by decide)
 ·exact fun h => absurd (show true = false from h) (by decide)
 ·exact fun h => absurd (show true = false from h) (by decide)
 ·exact fun h => absurd (show true = false from h) (by decide)
 ·exact fun h => absurd (show true = false from h) (by decide)
 ·exact fun h => absurd (show true = false from h) (by decide)
 ·exact fun h => absurd (show true = false from h) (by decide)
 ·exact fun h => absurd (show true = false from h) (by decide)
 ·exact fun h => absurd (show true = false from h) (by decide)
 ·exact fun h => absurd (show true = false from h) (by decide)
 ·exact fun h => absurd (show true = false from h) (by decide)
 ·exact fun h => absurd (show true = false from h) (by decide)
 ·exact fun h => absurd (show true = false from h) (by decide)
 ·exact fun h => absurd (show true = false from h) (by decide)
theorem plain_gw (s : Lk) (o f m : Int) (d r : Nat) (ho : 0 ≤ o ∧ o < 32) (h : (s.plain o d r f m).1 = false) : (s.plain o d r f m).2 = s := by
 rcases plain_yes s o f m d r ho h with rfl | rfl | rfl | rfl | rfl | rfl | rfl | rfl | rfl | rfl | rfl | rfl | rfl | rfl | rfl <;> rfl
theorem one_any (o f m : Int) (d r : Nat) (hd : d < 8) (hr : r < 8) (ho : 0 ≤ o ∧ o < 32) (hf : (o = 27 ∨ o = 28 ∨ o = 29) → 0 ≤ f ∧ f < 16) (m0 : 0 ≤ m) (m1 : m < 4294967296) (w : World) (a : LM K s w) (hc : 1 ≤ s.cnt ∧ s.cnt ≤ 64) (hn : s.ops.length + 60 < 1000000000) :
  Calls Tryz.prog 55 #[.pointer (some ⟨K.h, 0, none⟩), .agg #[.int .i64 o, .int .i64 d, .int .i64 r, .int .i64 f, .int .u32 m]] w fun e w' => e = .returned (.tuple #[]) ∧ LM K (s.one o d r f m) w' ∧ UW K w w' := by
 have A0 := κ (a.alloc (.cells #[.int .i64 o, .int .i64 d, .int .i64 r, .int .i64 f, .int .u32 m] 74))
 have B0 := κ (Bx.new a #[.int .i64 o, .int .i64 d, .int .i64 r, .int .i64 f, .int .u32 m] 74)
 have U0 := κ (UW.alloc a.l (.cells #[.int .i64 o, .int .i64 d, .int .i64 r, .int .i64 f, .int .u32 m] 74))
 have E1 := κ (plain_gw s o f m d r ho)
 have E2 := κ (plain_yes s o f m d r ho)
 have HN := κ hn
 have HC := κ hc
 have HO := κ ho
 have HF := κ hf
 have H0 := κ m0
 have H1 := κ m1
 have HD := κ hd
 have HR := κ hr
 obtain ⟨sz, hsz⟩ : ∃ p, s.one o d r f m = p := ⟨_, rfl⟩
 have HZ := κ hsz
 rw [hsz]
 clear hsz
 clear a hn hc ho hf m0 m1 hd hr
 go_enter Tryz.func55, Tryz.ntmps55
 go_upto_region 1 with fail
 generalize w.alloc (.cells #[.int .i64 o, .int .i64 d, .int .i64 r, .int .i64 f, .int .u32 m] 74) = w0 at *
 generalize w.heap.size = bx at *
 have x0 := B0.out.c 0 _ rfl
 have x1 := B0.out.c 1 _ rfl
 have x2 := B0.out.c 2 _ rfl
 have x3 := B0.out.c 3 _ rfl
 have x4 := B0.out.c 4 _ rfl
 have xl := B0.out.l
 have P := plain_any (K := K) o f m d r HD.out HR.out HO.out HF.out w0 A0.out HC.out HN.out
 cases hp : (s.plain o d r f m).1 with
 | true =>
  rw [hp] at P
  have EZ : (s.plain o d r f m).2 = sz := by rw [← HZ.out]; unfold Lk.one; rw [hp, if_pos rfl]
  rw [EZ] at P
  have P := κ P
  clear hp EZ
  go_wp2_with (go_at_call 85; refine P.out.mono ?_; rintro e w1 ⟨rfl, A1, U1⟩; have G1 := κ A1; have V1 := κ U1; clear A1 U1)
  go_end0
  exact ⟨rfl, G1.out, U0.out.trans V1.out⟩
 | false =>
  rw [hp, E1.out hp] at P
  have P := κ P
  have EZ := κ (show s.moves o d r f m = sz by rw [← HZ.out]; unfold Lk.one; rw [hp, if_neg (by decide)])
  have HM := κ (E2.out hp)
  clear hp
  go_wp2_with (first
   | (go_at_call 85; refine P.out.mono ?_; rintro e w1 ⟨rfl, A1, U1⟩; have V1 := κ U1; have B1 := κ (B0.out.uw U1); have z0 := B1.out.c 0 _ rfl; have z1 := B1.out.c 1 _ rfl; have z2 := B1.out.c 2 _ rfl; have z3 := B1.out.c 3 _ rfl; have z4 := B1.out.c 4 _ rfl; have zl := B1.out.l; have P2 := κ (moves_any (K := K) o f m d r HD.out HR.out HM.out H0.out H1.out w1 A1 HC.out HN.out); clear A1 U1)
   | (go_at_call 86; refine P2.out.mono ?_; rintro e w2 ⟨rfl, A2, U2⟩; have G2 := κ A2; have V2 := κ U2; clear A2 U2))
  go_end0
  exact ⟨rfl, EZ.out ▸ G2.out, U0.out.trans (V1.out.trans V2.out)⟩
end Go.Proofs.YtcjcmnnhmajocabGreat.Lf
namespace Go.Proofs.YtcjcmnnhmajocabGreat.Me
open Go.RowKit Kt
/-- bytes that may be turned: in a block from B on -/
def TB (B : Nat) (ao : Option Addr) (n : Nat) (W : World) : Prop :=
 ∀ j, j < n → ∃ g, ao = some ⟨g, 0, none⟩ ∧ B ≤ g ∧ g < W.heap.size ∧ (∃ x : Int, W.cell? ⟨g, j, none⟩ = some (.int .u8 x)) ∧ ∀ i, W.frozen? ⟨g, i, none⟩ = false
theorem Own.form {B : Nat} {v : Value} {us : List Int} {W : World} (h : Own B v us W) : ∃ ao cap, v = .slice ao us.length cap ∧ Gu.Bs us ao cap W ∧ TB B ao us.length W := by
 rcases h.2 with ⟨rfl, hn⟩ | ⟨g, c1, cur, rfl, hg, hrow, hle, hmx, hsz, htk⟩
 ·have hn' : us.length = 0 := hn
  rw [hn']
  exact ⟨none, 0, rfl, ⟨by omega, by unfold maxLen; omega, fun h => absurd h (by omega)⟩, fun j hj => absurd hj (by omega)⟩
 ·have hc : ∀ j, j < us.length → W.cell? ⟨g, j, none⟩ = some (.int .u8 (us.getD j 0)) := by
   intro j hj
   rw [cell_of_row W g j _ _ _ hrow, ← Array.getElem?_toList]
   have h2 : (cur.toList.take (us.length * 1))[j]? = (us.map (Value.int .u8))[j]? := by rw [htk]
   rw [Nat.mul_one, List.getElem?_take, if_pos hj, List.getElem?_map] at h2
   rw [h2, List.getElem?_eq_getElem hj, List.getD_eq_getElem?_getD, List.getElem?_eq_getElem hj]
   rfl
  exact ⟨_, c1, rfl, ⟨hle, hmx, fun _ => ⟨g, 0, rfl, (Array.getElem?_eq_some_iff.1 hrow).1, fun j hj => by rw [Nat.zero_add]; exact hc j hj⟩⟩,
   fun j hj => ⟨g, rfl, hg, (Array.getElem?_eq_some_iff.1 hrow).1, ⟨_, hc j hj⟩, fun i => frozen_of_row _ _ _ _ _ hrow⟩⟩
theorem Bs.upto {us : List Int} {ao : Option Addr} {cap : Nat} {w w' : World} {S : Nat → Prop} (h : Gu.Bs us ao cap w) (u : Upto S w w') (hs : ∀ g, ao = some g → 0 < us.length → ¬ S g.block) : Gu.Bs us ao cap w' := by
 obtain ⟨l, m, k⟩ := h
 refine ⟨l, m, fun hlen => ?_⟩
 obtain ⟨b, off, rfl, hb', hc⟩ := k hlen
 exact ⟨b, off, rfl, Nat.lt_of_lt_of_le hb' u.size, fun j hj => (u.cell (q := ⟨b, off + j, none⟩) hb' (hs ⟨b, off, none⟩ rfl hlen)).trans (hc j hj)⟩
theorem TB.upto {B : Nat} {ao : Option Addr} {n : Nat} {w w' : World} {S : Nat → Prop} (h : TB B ao n w) (u : Upto S w w') (hs : ∀ k, B ≤ k → ¬ S k) : TB B ao n w' := by
 intro j hj
 obtain ⟨g, e, hb, hl, ⟨x, hx⟩, hf⟩ := h j hj
 exact ⟨g, e, hb, Nat.lt_of_lt_of_le hl u.size, ⟨x, (u.cell (q := ⟨g, j, none⟩) hl (hs g hb)).trans hx⟩, fun i => (u.frozen (q := ⟨g, i, none⟩) hl (hs g hb)).trans (hf i)⟩
theorem TB.mono {B B' : Nat} {ao : Option Addr} {n : Nat} {w : World} (h : TB B ao n w) (hB : B' ≤ B) : TB B' ao n w := by
 intro j hj
 obtain ⟨g, e, hb, r⟩ := h j hj
 exact ⟨g, e, Nat.le_trans hB hb, r⟩
theorem TB.set {B g : Nat} {n : Nat} {W : World} (h : TB B (some ⟨g, 0, none⟩) n W) (k : Nat) (y : Int) : TB B (some ⟨g, 0, none⟩) n (W.setCell ⟨g, k, none⟩ (.int .u8 y)) := by
 intro j hj
 obtain ⟨g', e, hb, hl, ⟨x, hx⟩, hf⟩ := h j hj
 simp only [Option.some.injEq, Addr.mk.injEq, and_true] at e
 subst e
 refine ⟨g, rfl, hb, by simpa using hl, ?_, fun i => by simpa using hf i⟩
 by_cases hjk : j = k
 ·subst hjk
  exact ⟨y, World.cell?_setCell_same _ _ _ hx⟩
 ·exact ⟨x, by rw [World.cell?_setCell_other _ _ _ _ (by intro h; simp only [Addr.mk.injEq] at h; omega)]; exact hx⟩
end Go.Proofs.YtcjcmnnhmajocabGreat.Me
