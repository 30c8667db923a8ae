/- lift: done, load, store, watch, goes, goesTo, get, set, add. -/
import Derived.Test.YtcjcmnnhmajocabGreatPlat
set_option linter.unusedVariables false
set_option linter.unusedSimpArgs false
set_option maxRecDepth 100000
set_option maxHeartbeats 16000000
namespace Go.Proofs.YtcjcmnnhmajocabGreat.Lf
open Go.RowKit Kt Ic Me
open Ot (OwnO OB)
variable {K : Kc} {s : Lk}
theorem Lk.len1 (s : Lk) (o : Opr) : (s.put o).ops.length = s.ops.length + 1 := by show (s.ops ++ [o]).length = _; simp
theorem done_any (w : World) (a : LM K s w) (hc : 1 ≤ s.cnt ∧ s.cnt ≤ 64) : Calls Tryz.prog 130 #[.pointer (some ⟨K.h, 0, none⟩)] w fun e w' => e = .returned (.int .i64 (s.cnt - 1)) ∧ w' = w := by
 have c1 : w.cell? ⟨K.h, 1, none⟩ = some (.int .i64 s.cnt) := a.c 1 (by decide) (by decide)
 have l := a.l
 clear a
 generalize s.cnt = n at *
 obtain ⟨h1, h2⟩ := hc
 have ew : wrap64 (n - 1) = n - 1 := Go.IntWalk.wrap64_in _ (by omega)
 go_enter Tryz.func130, Tryz.ntmps130
 go_wp2
 go_ret
 exact ⟨by first | rfl | (show Ending.returned (.int .i64 (wrap64 (n - 1))) = _; rw [ew]), rfl⟩
theorem load_any (x y : Int) (w : World) (a : LM K s w) (hc : 1 ≤ s.cnt ∧ s.cnt ≤ 64) (hn : s.ops.length < 1000000000) :
  Calls Tryz.prog 126 #[.pointer (some ⟨K.h, 0, none⟩), .int .i64 x, .int .i64 y] w fun e w' => e = .returned (.int .i64 (s.load x y).1) ∧ LM K (s.load x y).2 w' ∧ UW K w w' := by
 have c4 : w.cell? ⟨K.h, 4, none⟩ = some (.int .u32 s.pc) := a.c 4 (by decide) (by decide)
 have l := a.l
 have P := κ (put_any (s := s) (K := K) ⟨9, x, y, 0, 0, s.pc, s.cnt - 1⟩ w.drew a.drew hn)
 have D := κ (done_any w.drew a.drew hc)
 have U0 := κ (UW.drew (W := w) a.l)
 clear a hn hc
 go_enter Tryz.func126, Tryz.ntmps126
 go_upto_region 1 with fail
 go_region_with (first
  | (go_at_call 130; refine D.out.mono ?_; rintro e w0 ⟨rfl, rfl⟩)
  | (go_at_call 54; refine P.out.mono ?_; rintro e w1 ⟨rfl, A1, U1⟩; have H1 := κ A1; have V1 := κ U1; clear A1 U1))
 all_goals go_wp2
 all_goals go_ret
 all_goals exact ⟨rfl, H1.out, U0.out.trans V1.out⟩
theorem store_any (x y z : Int) (w : World) (a : LM K s w) (hc : 1 ≤ s.cnt ∧ s.cnt ≤ 64) (hn : s.ops.length < 1000000000) :
  Calls Tryz.prog 127 #[.pointer (some ⟨K.h, 0, none⟩), .int .i64 x, .int .i64 y, .int .i64 z] w fun e w' => e = .returned (.tuple #[]) ∧ LM K (s.store x y z) w' ∧ UW K w w' := by
 have c4 : w.cell? ⟨K.h, 4, none⟩ = some (.int .u32 s.pc) := a.c 4 (by decide) (by decide)
 have l := a.l
 have P := κ (put_any (s := s) (K := K) ⟨10, x, y, z, 0, s.pc, s.cnt - 1⟩ w.drew a.drew hn)
 have D := κ (done_any w.drew a.drew hc)
 have U0 := κ (UW.drew (W := w) a.l)
 clear a hn hc
 go_enter Tryz.func127, Tryz.ntmps127
 go_region_with (first
  | (go_at_call 130; refine D.out.mono ?_; rintro e w0 ⟨rfl, rfl⟩)
  | (go_at_call 54; refine P.out.mono ?_; rintro e w1 ⟨rfl, A1, U1⟩; have H1 := κ A1; have V1 := κ U1; clear A1 U1))
 all_goals go_wp2
 all_goals go_end0
 all_goals exact ⟨rfl, H1.out, U0.out.trans V1.out⟩
theorem watch_any  (w : World) (a : LM K s w) (hc : 1 ≤ s.cnt ∧ s.cnt ≤ 64) (hn : s.ops.length < 1000000000) :
  Calls Tryz.prog 128 #[.pointer (some ⟨K.h, 0, none⟩)] w fun e w' => e = .returned (.tuple #[]) ∧ LM K s.watch w' ∧ UW K w w' := by
 have c5 : w.cell? ⟨K.h, 5, none⟩ = some (.int .u32 s.nx) := a.c 5 (by decide) (by decide)
 have c1 : w.cell? ⟨K.h, 1, none⟩ = some (.int .i64 s.cnt) := a.c 1 (by decide) (by decide)
 have l := a.l
 have P := κ (put_any (s := s) (K := K) ⟨11, 0, 0, 0, 0, s.nx, s.cnt⟩ w.drew a.drew hn)
 have D := κ (done_any w.drew a.drew hc)
 have U0 := κ (UW.drew (W := w) a.l)
 clear a hn hc
 go_enter Tryz.func128, Tryz.ntmps128
 go_region_with (first
  | (go_at_call 54; refine P.out.mono ?_; rintro e w1 ⟨rfl, A1, U1⟩; have H1 := κ A1; have V1 := κ U1; clear A1 U1))
 all_goals go_wp2
 all_goals go_end0
 all_goals exact ⟨rfl, H1.out, U0.out.trans V1.out⟩
theorem goes_any (x : Int) (w : World) (a : LM K s w) (hc : 1 ≤ s.cnt ∧ s.cnt ≤ 64) (hn : s.ops.length < 1000000000) :
  Calls Tryz.prog 131 #[.pointer (some ⟨K.h, 0, none⟩), .int .u32 x] w fun e w' => e = .returned (.tuple #[]) ∧ LM K (s.goes x) w' ∧ UW K w w' := by
 have c1 : w.cell? ⟨K.h, 1, none⟩ = some (.int .i64 s.cnt) := a.c 1 (by decide) (by decide)
 have l := a.l
 have P := κ (put_any (s := s) (K := K) ⟨15, 0, 0, 0, 0, x, s.cnt⟩ w a hn)
 clear a hn hc
 go_enter Tryz.func131, Tryz.ntmps131
 go_wp2_with (go_at_call 54; refine P.out.mono ?_; rintro e w1 ⟨rfl, A1, U1⟩; have H1 := κ A1; have V1 := κ U1; clear A1 U1)
 go_end0
 exact ⟨rfl, H1.out, V1.out⟩
theorem goesTo_any (x : Int) (w : World) (a : LM K s w) (hc : 1 ≤ s.cnt ∧ s.cnt ≤ 64) (hn : s.ops.length < 1000000000) :
  Calls Tryz.prog 132 #[.pointer (some ⟨K.h, 0, none⟩), .int .i64 x] w fun e w' => e = .returned (.tuple #[]) ∧ LM K (s.goesTo x) w' ∧ UW K w w' := by
 have c1 : w.cell? ⟨K.h, 1, none⟩ = some (.int .i64 s.cnt) := a.c 1 (by decide) (by decide)
 have l := a.l
 have P := κ (put_any (s := s) (K := K) ⟨16, 0, x, 0, 0, 0, s.cnt⟩ w a hn)
 clear a hn hc
 go_enter Tryz.func132, Tryz.ntmps132
 go_wp2_with (go_at_call 54; refine P.out.mono ?_; rintro e w1 ⟨rfl, A1, U1⟩; have H1 := κ A1; have V1 := κ U1; clear A1 U1)
 go_end0
 exact ⟨rfl, H1.out, V1.out⟩
end Go.Proofs.YtcjcmnnhmajocabGreat.Lf
