/- What alu's kinds reckon: interp.Reckon. -/
import Derived.Test.YtcjcmnnhmajocaaFlagsB
import Derived.Test.YtcjcmnnhmajocaaHolds
import Derived.Test.YtcjcmnnhmajocaaKit
namespace Go.Proofs.Ytcjcmnnhmajocaa.Fl
open Go.RowKit Kt
set_option linter.unusedVariables false
set_option linter.unusedSimpArgs false
def kinds : Array Value := #[.int .i64 1, .int .i64 2, .int .i64 3, .int .i64 4, .int .i64 5, .int .i64 5, .int .i64 5, .int .i64 3, .int .i64 5, .int .i64 6, .int .i64 7, .int .i64 8, .int .i64 9, .int .i64 10, .int .i64 5, .int .i64 5]
def kindF (o : Int) : Int := if o = 0 then 1 else if o = 1 then 2 else if o = 2 then 3 else if o = 3 then 4 else if o = 7 then 3 else if o = 9 then 6 else if o = 10 then 7 else if o = 11 then 8 else if o = 12 then 9 else if o = 13 then 10 else 5
theorem kinds_at (o : Int) (h : 0 ≤ o) (g : o < 16) : kinds[o.toNat]? = some (.int .i64 (kindF o)) := by
  rcases (show o = 0 ∨ o = 1 ∨ o = 2 ∨ o = 3 ∨ o = 4 ∨ o = 5 ∨ o = 6 ∨ o = 7 ∨ o = 8 ∨ o = 9 ∨ o = 10 ∨ o = 11 ∨ o = 12 ∨ o = 13 ∨ o = 14 ∨ o = 15 by omega) with rfl | rfl | rfl | rfl | rfl | rfl | rfl | rfl | rfl | rfl | rfl | rfl | rfl | rfl | rfl | rfl <;> rfl
theorem kinds_size : kinds.size = 16 := rfl
theorem kinds_one : kinds.all (·.oneCell') = true := by kernel_rfl
theorem info_kinds : (Try.prog.info? 170).map (fun i => (i.zero.map (·.cells.size), i.size)) = some (some 16, 16) := by kernel_rfl
set_option maxRecDepth 100000 in
set_option maxHeartbeats 2000000 in
theorem made_any (o : Int) (w : World) (h : 0 ≤ o) (g : o < 16) : Calls Try.prog 90 #[.int .i64 o] w fun e w' => e = .returned (.int .i64 (kindF o)) ∧ Below w.heap.size w w' := by
  have ht := kinds_at o h g
  obtain ⟨i, hi, hzz⟩ := Option.map_eq_some_iff.1 info_kinds
  simp only [Prod.mk.injEq] at hzz
  obtain ⟨hz1, hz2⟩ := hzz
  obtain ⟨z, hz, hzs⟩ := Option.map_eq_some_iff.1 hz1
  have HI := Lib.hid hi
  have HZ := Lib.hid hz
  have HS := Lib.hid hzs
  have HN := Lib.hid hz2
  clear hi hz hzs hz2 hz1
  go_enter Try.func90, Try.ntmps90
  go_wp2_with (first
    | ((with_reducible refine wpList_value (o := ⟨some 4, _, _, _, _, _⟩) (v := .agg kinds) ?_ ?_ ?_); (rfl); (kernel_rfl))
    | ((with_reducible refine wpList_lay (o2 := ⟨some 3, _, _, _, _, _⟩) (o3 := ⟨none, _, _, _, _, _⟩) ?_ ?_ 170 ?_ (.tmp 3) (.tmp 4) ?_ ?_ i z HI.out HZ.out 16 HS.out HN.out kinds kinds_size kinds_one ?_ ?_ ?_); (rfl); (rfl); (rfl); (rfl); (rfl); (rfl); (rfl)))
  go_ret
  exact ⟨rfl, (Below.refl _ _).alloc (Nat.le_refl _) _⟩
def rkv (o a b f : Int) : Int :=
  if o = 0 then (a + b) % 4294967296
  else if o = 1 then (a + b + f / 4 % 2) % 4294967296
  else if o = 2 then (a - b) % 4294967296
  else if o = 3 then (a - b - f / 4 % 2) % 4294967296
  else if o = 4 then bits .and .u32 a b
  else if o = 5 then bits .or .u32 a b
  else if o = 6 then bits .xor .u32 a b
  else if o = 7 then a
  else if o = 8 then a
  else if o = 9 then a * 2 ^ n5 b % 4294967296
  else if o = 10 then a / 2 ^ n5 b
  else if o = 11 then sg a / 2 ^ n5 b % 4294967296
  else if o = 12 then rol a (n5 b)
  else if o = 13 then a * b % 4294967296
  else if o = 14 then (if b = 0 then 0 else a / b)
  else if o = 15 then (if b = 0 then 0 else a % b)
  else 0
def rkf (o a b f : Int) : Int :=
  if o = 0 then fl 1 a b f
  else if o = 1 then fl 2 a b f
  else if o = 2 then fl 3 a b f
  else if o = 3 then fl 4 a b f
  else if o = 4 then zn (bits .and .u32 a b)
  else if o = 5 then zn (bits .or .u32 a b)
  else if o = 6 then zn (bits .xor .u32 a b)
  else if o = 7 then fl 3 a b f
  else if o = 8 then zn (bits .and .u32 a b)
  else if o = 9 then fl 6 a b f
  else if o = 10 then fl 7 a b f
  else if o = 11 then fl 8 a b f
  else if o = 12 then fl 9 a b f
  else if o = 13 then fl 10 a b f
  else if o = 14 then (if b = 0 then 0 else zn (a / b))
  else if o = 15 then (if b = 0 then 0 else zn (a % b))
  else 0
def rko (o b : Int) : Bool := !(decide (o < 0) || decide (15 < o) || (decide (14 ≤ o) && decide (b = 0)))
theorem bits_lt (op : BinOp) (a b : Int) (h0 : 0 ≤ a) (g0 : a < 4294967296) (h1 : 0 ≤ b) (g1 : b < 4294967296) : 0 ≤ bits op .u32 a b ∧ bits op .u32 a b < 4294967296 := by
  unfold bits
  rw [IntKind.wrap_u32]
  omega
theorem rk_bad (o a b f : Int) (h : o < 0 ∨ 15 < o) : rkv o a b f = 0 ∧ rkf o a b f = 0 ∧ rko o b = false := by
  refine ⟨?_, ?_, ?_⟩
  · unfold rkv; rw [if_neg (by omega), if_neg (by omega), if_neg (by omega), if_neg (by omega), if_neg (by omega), if_neg (by omega), if_neg (by omega), if_neg (by omega), if_neg (by omega), if_neg (by omega), if_neg (by omega), if_neg (by omega), if_neg (by omega), if_neg (by omega), if_neg (by omega), if_neg (by omega)]
  · unfold rkf; rw [if_neg (by omega), if_neg (by omega), if_neg (by omega), if_neg (by omega), if_neg (by omega), if_neg (by omega), if_neg (by omega), if_neg (by omega), if_neg (by omega), if_neg (by omega), if_neg (by omega), if_neg (by omega), if_neg (by omega), if_neg (by omega), if_neg (by omega), if_neg (by omega)]
  · unfold rko; rcases h with h | h <;> simp [h]
theorem fl5 (x b f : Int) : fl 5 x b f = zn x := rfl
theorem ret_rk {a a' c c' : Int} {d d' : Bool} (h : a = a') (g : c = c') (k : d = d') : Ending.returned (.tuple #[.int .u32 a, .int .u32 c, .bool d]) = .returned (.tuple #[.int .u32 a', .int .u32 c', .bool d']) := by rw [h, g, k]
theorem and_pow4 (f : Int) (h : 0 ≤ f) (g : f < 4294967296) : bits .and .u32 f 4 = f / 4 % 2 * 4 := and_pow f 2 h g (by omega)


set_option maxRecDepth 100000 in
set_option maxHeartbeats 2000000 in
theorem keep_any (o a x : Int) (w : World) : Calls Try.prog 92 #[.int .i64 o, .int .u32 a, .int .u32 x] w fun e w' => e = .returned (.int .u32 (if o = 7 ∨ o = 8 then a else x)) ∧ w = w' := by
  by_cases h7 : o = 7
  · subst h7
    go_enter Try.func92, Try.ntmps92
    go_wp2
    go_ret
    exact ⟨rfl, rfl⟩
  · by_cases h8 : o = 8
    · subst h8
      go_enter Try.func92, Try.ntmps92
      go_wp2
      go_ret
      exact ⟨rfl, rfl⟩
    · have e7 : (o == 7) = false := by simp [h7]
      have e8 : (o == 8) = false := by simp [h8]
      go_enter Try.func92, Try.ntmps92
      go_wp2
      go_ret
      exact ⟨ret_int rfl, rfl⟩

theorem kd0 : kindF 0 = 1 := rfl
theorem kd1 : kindF 1 = 2 := rfl
theorem kd2 : kindF 2 = 3 := rfl
theorem kd3 : kindF 3 = 4 := rfl
theorem kd4 : kindF 4 = 5 := rfl
theorem kd5 : kindF 5 = 5 := rfl
theorem kd6 : kindF 6 = 5 := rfl
theorem kd7 : kindF 7 = 3 := rfl
theorem kd8 : kindF 8 = 5 := rfl
theorem kd9 : kindF 9 = 6 := rfl
theorem kd10 : kindF 10 = 7 := rfl
theorem kd11 : kindF 11 = 8 := rfl
theorem kd12 : kindF 12 = 9 := rfl
theorem kd13 : kindF 13 = 10 := rfl
theorem kd14 : kindF 14 = 5 := rfl
theorem kd15 : kindF 15 = 5 := rfl

set_option maxRecDepth 100000 in
set_option maxHeartbeats 2000000 in
theorem rk0_any (a b f : Int) (w : World) (h0 : 0 ≤ a) (g0 : a < 4294967296) (h1 : 0 ≤ b) (g1 : b < 4294967296) (h2 : 0 ≤ f) (g2 : f < 4294967296) :
    Calls Try.prog 44 #[.int .i64 0, .int .u32 a, .int .u32 b, .int .u32 f] w fun e w' => e = .returned (.tuple #[.int .u32 (rkv 0 a b f), .int .u32 (rkf 0 a b f), .bool (rko 0 b)]) ∧ Below w.heap.size w w' := by
  go_enter Try.func44, Try.ntmps44
  go_wp2_with (first
    | (go_at_call 90; refine (made_any _ _ (by omega) (by omega)).mono ?_; rintro e w1 ⟨rfl, hb1⟩; simp only [kd0])
    | (go_at_call 46; refine (flags_any _ _ _ _ _ (by omega) (by omega) (by omega) (by omega) (by omega) (by omega)).mono ?_; rintro e w' ⟨rfl, rfl⟩)
    | (go_at_call 92; refine (keep_any _ _ _ _).mono ?_; rintro e w' ⟨rfl, rfl⟩)
    | (go_at_call 91; refine (rol_any _ _ _ (by omega) (by omega) (by omega) (by omega)).mono ?_; rintro e w' ⟨rfl, rfl⟩))
  go_ret3
  refine ⟨ret_rk ?_ ?_ ?_, hb1⟩
  all_goals (try rfl)

set_option maxRecDepth 100000 in
set_option maxHeartbeats 2000000 in
theorem rk1_any (a b f : Int) (w : World) (h0 : 0 ≤ a) (g0 : a < 4294967296) (h1 : 0 ≤ b) (g1 : b < 4294967296) (h2 : 0 ≤ f) (g2 : f < 4294967296) :
    Calls Try.prog 44 #[.int .i64 1, .int .u32 a, .int .u32 b, .int .u32 f] w fun e w' => e = .returned (.tuple #[.int .u32 (rkv 1 a b f), .int .u32 (rkf 1 a b f), .bool (rko 1 b)]) ∧ Below w.heap.size w w' := by
  have e1 := and_pow4 f h2 g2
  go_enter Try.func44, Try.ntmps44
  go_wp2_with (first
    | (go_at_call 90; refine (made_any _ _ (by omega) (by omega)).mono ?_; rintro e w1 ⟨rfl, hb1⟩; simp only [kd1])
    | (go_at_call 46; refine (flags_any _ _ _ _ _ (by omega) (by omega) (by omega) (by omega) (by omega) (by omega)).mono ?_; rintro e w' ⟨rfl, rfl⟩)
    | (go_at_call 92; refine (keep_any _ _ _ _).mono ?_; rintro e w' ⟨rfl, rfl⟩)
    | (go_at_call 91; refine (rol_any _ _ _ (by omega) (by omega) (by omega) (by omega)).mono ?_; rintro e w' ⟨rfl, rfl⟩))
  go_ret3
  refine ⟨ret_rk ?_ ?_ ?_, hb1⟩
  all_goals (try rfl)

set_option maxRecDepth 100000 in
set_option maxHeartbeats 2000000 in
theorem rk2_any (a b f : Int) (w : World) (h0 : 0 ≤ a) (g0 : a < 4294967296) (h1 : 0 ≤ b) (g1 : b < 4294967296) (h2 : 0 ≤ f) (g2 : f < 4294967296) :
    Calls Try.prog 44 #[.int .i64 2, .int .u32 a, .int .u32 b, .int .u32 f] w fun e w' => e = .returned (.tuple #[.int .u32 (rkv 2 a b f), .int .u32 (rkf 2 a b f), .bool (rko 2 b)]) ∧ Below w.heap.size w w' := by
  go_enter Try.func44, Try.ntmps44
  go_wp2_with (first
    | (go_at_call 90; refine (made_any _ _ (by omega) (by omega)).mono ?_; rintro e w1 ⟨rfl, hb1⟩; simp only [kd2])
    | (go_at_call 46; refine (flags_any _ _ _ _ _ (by omega) (by omega) (by omega) (by omega) (by omega) (by omega)).mono ?_; rintro e w' ⟨rfl, rfl⟩)
    | (go_at_call 92; refine (keep_any _ _ _ _).mono ?_; rintro e w' ⟨rfl, rfl⟩)
    | (go_at_call 91; refine (rol_any _ _ _ (by omega) (by omega) (by omega) (by omega)).mono ?_; rintro e w' ⟨rfl, rfl⟩))
  go_ret3
  refine ⟨ret_rk ?_ ?_ ?_, hb1⟩
  all_goals (try rfl)

set_option maxRecDepth 100000 in
set_option maxHeartbeats 2000000 in
theorem rk3_any (a b f : Int) (w : World) (h0 : 0 ≤ a) (g0 : a < 4294967296) (h1 : 0 ≤ b) (g1 : b < 4294967296) (h2 : 0 ≤ f) (g2 : f < 4294967296) :
    Calls Try.prog 44 #[.int .i64 3, .int .u32 a, .int .u32 b, .int .u32 f] w fun e w' => e = .returned (.tuple #[.int .u32 (rkv 3 a b f), .int .u32 (rkf 3 a b f), .bool (rko 3 b)]) ∧ Below w.heap.size w w' := by
  have e1 := and_pow4 f h2 g2
  go_enter Try.func44, Try.ntmps44
  go_wp2_with (first
    | (go_at_call 90; refine (made_any _ _ (by omega) (by omega)).mono ?_; rintro e w1 ⟨rfl, hb1⟩; simp only [kd3])
    | (go_at_call 46; refine (flags_any _ _ _ _ _ (by omega) (by omega) (by omega) (by omega) (by omega) (by omega)).mono ?_; rintro e w' ⟨rfl, rfl⟩)
    | (go_at_call 92; refine (keep_any _ _ _ _).mono ?_; rintro e w' ⟨rfl, rfl⟩)
    | (go_at_call 91; refine (rol_any _ _ _ (by omega) (by omega) (by omega) (by omega)).mono ?_; rintro e w' ⟨rfl, rfl⟩))
  go_ret3
  refine ⟨ret_rk ?_ ?_ ?_, hb1⟩
  all_goals (try rfl)

set_option maxRecDepth 100000 in
set_option maxHeartbeats 2000000 in
theorem rk4_any (a b f : Int) (w : World) (h0 : 0 ≤ a) (g0 : a < 4294967296) (h1 : 0 ≤ b) (g1 : b < 4294967296) (h2 : 0 ≤ f) (g2 : f < 4294967296) :
    Calls Try.prog 44 #[.int .i64 4, .int .u32 a, .int .u32 b, .int .u32 f] w fun e w' => e = .returned (.tuple #[.int .u32 (rkv 4 a b f), .int .u32 (rkf 4 a b f), .bool (rko 4 b)]) ∧ Below w.heap.size w w' := by
  have bb := bits_lt .and a b h0 g0 h1 g1
  go_enter Try.func44, Try.ntmps44
  go_wp2_with (first
    | (go_at_call 90; refine (made_any _ _ (by omega) (by omega)).mono ?_; rintro e w1 ⟨rfl, hb1⟩; simp only [kd4])
    | (go_at_call 46; refine (flags_any _ _ _ _ _ (by omega) (by omega) (by omega) (by omega) (by omega) (by omega)).mono ?_; rintro e w' ⟨rfl, rfl⟩)
    | (go_at_call 92; refine (keep_any _ _ _ _).mono ?_; rintro e w' ⟨rfl, rfl⟩)
    | (go_at_call 91; refine (rol_any _ _ _ (by omega) (by omega) (by omega) (by omega)).mono ?_; rintro e w' ⟨rfl, rfl⟩))
  go_ret3
  refine ⟨ret_rk ?_ ?_ ?_, hb1⟩
  all_goals (try rfl)

set_option maxRecDepth 100000 in
set_option maxHeartbeats 2000000 in
theorem rk5_any (a b f : Int) (w : World) (h0 : 0 ≤ a) (g0 : a < 4294967296) (h1 : 0 ≤ b) (g1 : b < 4294967296) (h2 : 0 ≤ f) (g2 : f < 4294967296) :
    Calls Try.prog 44 #[.int .i64 5, .int .u32 a, .int .u32 b, .int .u32 f] w fun e w' => e = .returned (.tuple #[.int .u32 (rkv 5 a b f), .int .u32 (rkf 5 a b f), .bool (rko 5 b)]) ∧ Below w.heap.size w w' := by
  have bb := bits_lt .or a b h0 g0 h1 g1
  go_enter Try.func44, Try.ntmps44
  go_wp2_with (first
    | (go_at_call 90; refine (made_any _ _ (by omega) (by omega)).mono ?_; rintro e w1 ⟨rfl, hb1⟩; simp only [kd5])
    | (go_at_call 46; refine (flags_any _ _ _ _ _ (by omega) (by omega) (by omega) (by omega) (by omega) (by omega)).mono ?_; rintro e w' ⟨rfl, rfl⟩)
    | (go_at_call 92; refine (keep_any _ _ _ _).mono ?_; rintro e w' ⟨rfl, rfl⟩)
    | (go_at_call 91; refine (rol_any _ _ _ (by omega) (by omega) (by omega) (by omega)).mono ?_; rintro e w' ⟨rfl, rfl⟩))
  go_ret3
  refine ⟨ret_rk ?_ ?_ ?_, hb1⟩
  all_goals (try rfl)

set_option maxRecDepth 100000 in
set_option maxHeartbeats 2000000 in
theorem rk6_any (a b f : Int) (w : World) (h0 : 0 ≤ a) (g0 : a < 4294967296) (h1 : 0 ≤ b) (g1 : b < 4294967296) (h2 : 0 ≤ f) (g2 : f < 4294967296) :
    Calls Try.prog 44 #[.int .i64 6, .int .u32 a, .int .u32 b, .int .u32 f] w fun e w' => e = .returned (.tuple #[.int .u32 (rkv 6 a b f), .int .u32 (rkf 6 a b f), .bool (rko 6 b)]) ∧ Below w.heap.size w w' := by
  have bb := bits_lt .xor a b h0 g0 h1 g1
  go_enter Try.func44, Try.ntmps44
  go_wp2_with (first
    | (go_at_call 90; refine (made_any _ _ (by omega) (by omega)).mono ?_; rintro e w1 ⟨rfl, hb1⟩; simp only [kd6])
    | (go_at_call 46; refine (flags_any _ _ _ _ _ (by omega) (by omega) (by omega) (by omega) (by omega) (by omega)).mono ?_; rintro e w' ⟨rfl, rfl⟩)
    | (go_at_call 92; refine (keep_any _ _ _ _).mono ?_; rintro e w' ⟨rfl, rfl⟩)
    | (go_at_call 91; refine (rol_any _ _ _ (by omega) (by omega) (by omega) (by omega)).mono ?_; rintro e w' ⟨rfl, rfl⟩))
  go_ret3
  refine ⟨ret_rk ?_ ?_ ?_, hb1⟩
  all_goals (try rfl)

set_option maxRecDepth 100000 in
set_option maxHeartbeats 2000000 in
theorem rk7_any (a b f : Int) (w : World) (h0 : 0 ≤ a) (g0 : a < 4294967296) (h1 : 0 ≤ b) (g1 : b < 4294967296) (h2 : 0 ≤ f) (g2 : f < 4294967296) :
    Calls Try.prog 44 #[.int .i64 7, .int .u32 a, .int .u32 b, .int .u32 f] w fun e w' => e = .returned (.tuple #[.int .u32 (rkv 7 a b f), .int .u32 (rkf 7 a b f), .bool (rko 7 b)]) ∧ Below w.heap.size w w' := by
  go_enter Try.func44, Try.ntmps44
  go_wp2_with (first
    | (go_at_call 90; refine (made_any _ _ (by omega) (by omega)).mono ?_; rintro e w1 ⟨rfl, hb1⟩; simp only [kd7])
    | (go_at_call 46; refine (flags_any _ _ _ _ _ (by omega) (by omega) (by omega) (by omega) (by omega) (by omega)).mono ?_; rintro e w' ⟨rfl, rfl⟩)
    | (go_at_call 92; refine (keep_any _ _ _ _).mono ?_; rintro e w' ⟨rfl, rfl⟩)
    | (go_at_call 91; refine (rol_any _ _ _ (by omega) (by omega) (by omega) (by omega)).mono ?_; rintro e w' ⟨rfl, rfl⟩))
  go_ret3
  refine ⟨ret_rk ?_ ?_ ?_, hb1⟩
  all_goals (try rfl)

set_option maxRecDepth 100000 in
set_option maxHeartbeats 2000000 in
theorem rk8_any (a b f : Int) (w : World) (h0 : 0 ≤ a) (g0 : a < 4294967296) (h1 : 0 ≤ b) (g1 : b < 4294967296) (h2 : 0 ≤ f) (g2 : f < 4294967296) :
    Calls Try.prog 44 #[.int .i64 8, .int .u32 a, .int .u32 b, .int .u32 f] w fun e w' => e = .returned (.tuple #[.int .u32 (rkv 8 a b f), .int .u32 (rkf 8 a b f), .bool (rko 8 b)]) ∧ Below w.heap.size w w' := by
  have bb := bits_lt .and a b h0 g0 h1 g1
  go_enter Try.func44, Try.ntmps44
  go_wp2_with (first
    | (go_at_call 90; refine (made_any _ _ (by omega) (by omega)).mono ?_; rintro e w1 ⟨rfl, hb1⟩; simp only [kd8])
    | (go_at_call 46; refine (flags_any _ _ _ _ _ (by omega) (by omega) (by omega) (by omega) (by omega) (by omega)).mono ?_; rintro e w' ⟨rfl, rfl⟩)
    | (go_at_call 92; refine (keep_any _ _ _ _).mono ?_; rintro e w' ⟨rfl, rfl⟩)
    | (go_at_call 91; refine (rol_any _ _ _ (by omega) (by omega) (by omega) (by omega)).mono ?_; rintro e w' ⟨rfl, rfl⟩))
  go_ret3
  refine ⟨ret_rk ?_ ?_ ?_, hb1⟩
  all_goals (try rfl)

set_option maxRecDepth 100000 in
set_option maxHeartbeats 2000000 in
theorem rk9_any (a b f : Int) (w : World) (h0 : 0 ≤ a) (g0 : a < 4294967296) (h1 : 0 ≤ b) (g1 : b < 4294967296) (h2 : 0 ≤ f) (g2 : f < 4294967296) :
    Calls Try.prog 44 #[.int .i64 9, .int .u32 a, .int .u32 b, .int .u32 f] w fun e w' => e = .returned (.tuple #[.int .u32 (rkv 9 a b f), .int .u32 (rkf 9 a b f), .bool (rko 9 b)]) ∧ Below w.heap.size w w' := by
  have e3 := mask31 b h1 g1
  go_enter Try.func44, Try.ntmps44
  go_wp2_with (first
    | (go_at_call 90; refine (made_any _ _ (by omega) (by omega)).mono ?_; rintro e w1 ⟨rfl, hb1⟩; simp only [kd9])
    | (go_at_call 46; refine (flags_any _ _ _ _ _ (by omega) (by omega) (by omega) (by omega) (by omega) (by omega)).mono ?_; rintro e w' ⟨rfl, rfl⟩)
    | (go_at_call 92; refine (keep_any _ _ _ _).mono ?_; rintro e w' ⟨rfl, rfl⟩)
    | (go_at_call 91; refine (rol_any _ _ _ (by omega) (by omega) (by omega) (by omega)).mono ?_; rintro e w' ⟨rfl, rfl⟩))
  go_ret3
  refine ⟨ret_rk ?_ ?_ ?_, hb1⟩
  all_goals (try rfl)

set_option maxRecDepth 100000 in
set_option maxHeartbeats 2000000 in
theorem rk10_any (a b f : Int) (w : World) (h0 : 0 ≤ a) (g0 : a < 4294967296) (h1 : 0 ≤ b) (g1 : b < 4294967296) (h2 : 0 ≤ f) (g2 : f < 4294967296) :
    Calls Try.prog 44 #[.int .i64 10, .int .u32 a, .int .u32 b, .int .u32 f] w fun e w' => e = .returned (.tuple #[.int .u32 (rkv 10 a b f), .int .u32 (rkf 10 a b f), .bool (rko 10 b)]) ∧ Below w.heap.size w w' := by
  have e3 := mask31 b h1 g1
  go_enter Try.func44, Try.ntmps44
  go_wp2_with (first
    | (go_at_call 90; refine (made_any _ _ (by omega) (by omega)).mono ?_; rintro e w1 ⟨rfl, hb1⟩; simp only [kd10])
    | (go_at_call 46; refine (flags_any _ _ _ _ _ (by omega) (by omega) (by omega) (by omega) (by omega) (by omega)).mono ?_; rintro e w' ⟨rfl, rfl⟩)
    | (go_at_call 92; refine (keep_any _ _ _ _).mono ?_; rintro e w' ⟨rfl, rfl⟩)
    | (go_at_call 91; refine (rol_any _ _ _ (by omega) (by omega) (by omega) (by omega)).mono ?_; rintro e w' ⟨rfl, rfl⟩))
  go_ret3
  refine ⟨ret_rk ?_ ?_ ?_, hb1⟩
  all_goals (try rfl)

set_option maxRecDepth 100000 in
set_option maxHeartbeats 2000000 in
theorem rk11_any (a b f : Int) (w : World) (h0 : 0 ≤ a) (g0 : a < 4294967296) (h1 : 0 ≤ b) (g1 : b < 4294967296) (h2 : 0 ≤ f) (g2 : f < 4294967296) :
    Calls Try.prog 44 #[.int .i64 11, .int .u32 a, .int .u32 b, .int .u32 f] w fun e w' => e = .returned (.tuple #[.int .u32 (rkv 11 a b f), .int .u32 (rkf 11 a b f), .bool (rko 11 b)]) ∧ Below w.heap.size w w' := by
  have e3 := mask31 b h1 g1
  go_enter Try.func44, Try.ntmps44
  go_wp2_with (first
    | (go_at_call 90; refine (made_any _ _ (by omega) (by omega)).mono ?_; rintro e w1 ⟨rfl, hb1⟩; simp only [kd11])
    | (go_at_call 46; refine (flags_any _ _ _ _ _ (by omega) (by omega) (by omega) (by omega) (by omega) (by omega)).mono ?_; rintro e w' ⟨rfl, rfl⟩)
    | (go_at_call 92; refine (keep_any _ _ _ _).mono ?_; rintro e w' ⟨rfl, rfl⟩)
    | (go_at_call 91; refine (rol_any _ _ _ (by omega) (by omega) (by omega) (by omega)).mono ?_; rintro e w' ⟨rfl, rfl⟩))
  go_ret3
  refine ⟨ret_rk ?_ ?_ ?_, hb1⟩
  all_goals (try rfl)
  all_goals (rw [wrap32_sg a h0 g0]; rfl)

set_option maxRecDepth 100000 in
set_option maxHeartbeats 2000000 in
theorem rk12_any (a b f : Int) (w : World) (h0 : 0 ≤ a) (g0 : a < 4294967296) (h1 : 0 ≤ b) (g1 : b < 4294967296) (h2 : 0 ≤ f) (g2 : f < 4294967296) :
    Calls Try.prog 44 #[.int .i64 12, .int .u32 a, .int .u32 b, .int .u32 f] w fun e w' => e = .returned (.tuple #[.int .u32 (rkv 12 a b f), .int .u32 (rkf 12 a b f), .bool (rko 12 b)]) ∧ Below w.heap.size w w' := by
  have e3 := mask31 b h1 g1
  go_enter Try.func44, Try.ntmps44
  go_wp2_with (first
    | (go_at_call 90; refine (made_any _ _ (by omega) (by omega)).mono ?_; rintro e w1 ⟨rfl, hb1⟩; simp only [kd12])
    | (go_at_call 46; refine (flags_any _ _ _ _ _ (by omega) (by omega) (by omega) (by omega) (by omega) (by omega)).mono ?_; rintro e w' ⟨rfl, rfl⟩)
    | (go_at_call 92; refine (keep_any _ _ _ _).mono ?_; rintro e w' ⟨rfl, rfl⟩)
    | (go_at_call 91; refine (rol_any _ _ _ (by omega) (by omega) (by omega) (by omega)).mono ?_; rintro e w' ⟨rfl, rfl⟩))
  go_ret3
  refine ⟨ret_rk ?_ ?_ ?_, hb1⟩
  all_goals (try rfl)

set_option maxRecDepth 100000 in
set_option maxHeartbeats 2000000 in
theorem rk13_any (a b f : Int) (w : World) (h0 : 0 ≤ a) (g0 : a < 4294967296) (h1 : 0 ≤ b) (g1 : b < 4294967296) (h2 : 0 ≤ f) (g2 : f < 4294967296) :
    Calls Try.prog 44 #[.int .i64 13, .int .u32 a, .int .u32 b, .int .u32 f] w fun e w' => e = .returned (.tuple #[.int .u32 (rkv 13 a b f), .int .u32 (rkf 13 a b f), .bool (rko 13 b)]) ∧ Below w.heap.size w w' := by
  go_enter Try.func44, Try.ntmps44
  go_wp2_with (first
    | (go_at_call 90; refine (made_any _ _ (by omega) (by omega)).mono ?_; rintro e w1 ⟨rfl, hb1⟩; simp only [kd13])
    | (go_at_call 46; refine (flags_any _ _ _ _ _ (by omega) (by omega) (by omega) (by omega) (by omega) (by omega)).mono ?_; rintro e w' ⟨rfl, rfl⟩)
    | (go_at_call 92; refine (keep_any _ _ _ _).mono ?_; rintro e w' ⟨rfl, rfl⟩)
    | (go_at_call 91; refine (rol_any _ _ _ (by omega) (by omega) (by omega) (by omega)).mono ?_; rintro e w' ⟨rfl, rfl⟩))
  go_ret3
  refine ⟨ret_rk ?_ ?_ ?_, hb1⟩
  all_goals (try rfl)

set_option maxRecDepth 100000 in
set_option maxHeartbeats 2000000 in
theorem rk14_any (a b f : Int) (w : World) (h0 : 0 ≤ a) (g0 : a < 4294967296) (h1 : 0 ≤ b) (g1 : b < 4294967296) (h2 : 0 ≤ f) (g2 : f < 4294967296) (hb : 1 ≤ b) :
    Calls Try.prog 44 #[.int .i64 14, .int .u32 a, .int .u32 b, .int .u32 f] w fun e w' => e = .returned (.tuple #[.int .u32 (rkv 14 a b f), .int .u32 (rkf 14 a b f), .bool (rko 14 b)]) ∧ Below w.heap.size w w' := by
  have bb : 0 ≤ a / b ∧ a / b ≤ a := ⟨Int.ediv_nonneg h0 h1, Int.ediv_le_self _ h0⟩
  go_enter Try.func44, Try.ntmps44
  go_wp2_with (first
    | (go_at_call 90; refine (made_any _ _ (by omega) (by omega)).mono ?_; rintro e w1 ⟨rfl, hb1⟩; simp only [kd14])
    | (go_at_call 46; refine (flags_any _ _ _ _ _ (by omega) (by omega) (by omega) (by omega) (by omega) (by omega)).mono ?_; rintro e w' ⟨rfl, rfl⟩)
    | (go_at_call 92; refine (keep_any _ _ _ _).mono ?_; rintro e w' ⟨rfl, rfl⟩)
    | (go_at_call 91; refine (rol_any _ _ _ (by omega) (by omega) (by omega) (by omega)).mono ?_; rintro e w' ⟨rfl, rfl⟩))
  go_ret3
  refine ⟨ret_rk ?_ ?_ ?_, hb1⟩
  all_goals (try rfl)
  · show a / b = if b = 0 then 0 else a / b
    rw [if_neg (by omega)]
  · show zn (a / b) = if b = 0 then 0 else zn (a / b)
    rw [if_neg (by omega)]
  · show true = !(decide (b = 0))
    rw [decide_eq_false (by omega)]; rfl

set_option maxRecDepth 100000 in
set_option maxHeartbeats 2000000 in
theorem rk15_any (a b f : Int) (w : World) (h0 : 0 ≤ a) (g0 : a < 4294967296) (h1 : 0 ≤ b) (g1 : b < 4294967296) (h2 : 0 ≤ f) (g2 : f < 4294967296) (hb : 1 ≤ b) :
    Calls Try.prog 44 #[.int .i64 15, .int .u32 a, .int .u32 b, .int .u32 f] w fun e w' => e = .returned (.tuple #[.int .u32 (rkv 15 a b f), .int .u32 (rkf 15 a b f), .bool (rko 15 b)]) ∧ Below w.heap.size w w' := by
  have bb : 0 ≤ a % b ∧ a % b < b := ⟨Int.emod_nonneg _ (by omega), Int.emod_lt_of_pos _ (by omega)⟩
  go_enter Try.func44, Try.ntmps44
  go_wp2_with (first
    | (go_at_call 90; refine (made_any _ _ (by omega) (by omega)).mono ?_; rintro e w1 ⟨rfl, hb1⟩; simp only [kd15])
    | (go_at_call 46; refine (flags_any _ _ _ _ _ (by omega) (by omega) (by omega) (by omega) (by omega) (by omega)).mono ?_; rintro e w' ⟨rfl, rfl⟩)
    | (go_at_call 92; refine (keep_any _ _ _ _).mono ?_; rintro e w' ⟨rfl, rfl⟩)
    | (go_at_call 91; refine (rol_any _ _ _ (by omega) (by omega) (by omega) (by omega)).mono ?_; rintro e w' ⟨rfl, rfl⟩))
  go_ret3
  refine ⟨ret_rk ?_ ?_ ?_, hb1⟩
  all_goals (try rfl)
  · show a % b = if b = 0 then 0 else a % b
    rw [if_neg (by omega)]
  · show zn (a % b) = if b = 0 then 0 else zn (a % b)
    rw [if_neg (by omega)]
  · show true = !(decide (b = 0))
    rw [decide_eq_false (by omega)]; rfl

set_option maxRecDepth 100000 in
set_option maxHeartbeats 2000000 in
theorem made_bad (o : Int) (w : World) (h : o < 0 ∨ 15 < o) : Calls Try.prog 90 #[.int .i64 o] w fun e w' => e = .returned (.int .i64 (-1)) ∧ Below w.heap.size w w' := by
  obtain ⟨i, hi, hzz⟩ := Option.map_eq_some_iff.1 info_kinds
  simp only [Prod.mk.injEq] at hzz
  obtain ⟨hz1, hz2⟩ := hzz
  obtain ⟨z, hz, hzs⟩ := Option.map_eq_some_iff.1 hz1
  have HI := Lib.hid hi
  have HZ := Lib.hid hz
  have HS := Lib.hid hzs
  have HN := Lib.hid hz2
  clear hi hz hzs hz2 hz1
  rcases h with h | h
  all_goals
    go_enter Try.func90, Try.ntmps90
    go_wp2_with (first
      | ((with_reducible refine wpList_value (o := ⟨some 4, _, _, _, _, _⟩) (v := .agg kinds) ?_ ?_ ?_); (rfl); (kernel_rfl))
      | ((with_reducible refine wpList_lay (o2 := ⟨some 3, _, _, _, _, _⟩) (o3 := ⟨none, _, _, _, _, _⟩) ?_ ?_ 170 ?_ (.tmp 3) (.tmp 4) ?_ ?_ i z HI.out HZ.out 16 HS.out HN.out kinds kinds_size kinds_one ?_ ?_ ?_); (rfl); (rfl); (rfl); (rfl); (rfl); (rfl); (rfl)))
    go_ret
    exact ⟨rfl, (Below.refl _ _).alloc (Nat.le_refl _) _⟩
set_option maxRecDepth 100000 in
set_option maxHeartbeats 2000000 in
theorem rkbad_any (o : Int) (h : o < 0 ∨ 15 < o) (a b f : Int) (w : World) (h0 : 0 ≤ a) (g0 : a < 4294967296) (h1 : 0 ≤ b) (g1 : b < 4294967296) (h2 : 0 ≤ f) (g2 : f < 4294967296) :
    Calls Try.prog 44 #[.int .i64 o, .int .u32 a, .int .u32 b, .int .u32 f] w fun e w' => e = .returned (.tuple #[.int .u32 (rkv o a b f), .int .u32 (rkf o a b f), .bool (rko o b)]) ∧ Below w.heap.size w w' := by
  have H := Lib.hid (rk_bad o a b f h)
  have hm := Lib.hid (made_bad o w h)
  clear h
  go_enter Try.func44, Try.ntmps44
  go_wp2_with (go_at_call 90; refine hm.out.mono ?_; rintro e w1 ⟨rfl, hb1⟩)
  go_ret3
  exact ⟨by rw [H.out.1, H.out.2.1, H.out.2.2]; rfl, hb1⟩
theorem rk_zero (o a f : Int) (h : o = 14 ∨ o = 15) : rkv o a 0 f = 0 ∧ rkf o a 0 f = 0 ∧ rko o 0 = false := by
  rcases h with rfl | rfl <;> exact ⟨rfl, rfl, rfl⟩
set_option maxRecDepth 100000 in
set_option maxHeartbeats 2000000 in
theorem rkzero_any (o : Int) (h : o = 14 ∨ o = 15) (a f : Int) (w : World) (h0 : 0 ≤ a) (g0 : a < 4294967296) (h2 : 0 ≤ f) (g2 : f < 4294967296) :
    Calls Try.prog 44 #[.int .i64 o, .int .u32 a, .int .u32 0, .int .u32 f] w fun e w' => e = .returned (.tuple #[.int .u32 (rkv o a 0 f), .int .u32 (rkf o a 0 f), .bool (rko o 0)]) ∧ Below w.heap.size w w' := by
  have H := Lib.hid (rk_zero o a f h)
  have hk : kindF o = 5 := by rcases h with rfl | rfl <;> rfl
  rcases h with rfl | rfl
  all_goals
    go_enter Try.func44, Try.ntmps44
    go_wp2_with (go_at_call 90; refine (made_any _ _ (by omega) (by omega)).mono ?_; rintro e w1 ⟨rfl, hb1⟩; rw [hk])
    go_ret3
    exact ⟨by rw [H.out.1, H.out.2.1, H.out.2.2]; rfl, hb1⟩
theorem reckon_any (o : Int) (a b f : Int) (w : World) (h0 : 0 ≤ a) (g0 : a < 4294967296) (h1 : 0 ≤ b) (g1 : b < 4294967296) (h2 : 0 ≤ f) (g2 : f < 4294967296) :
    Calls Try.prog 44 #[.int .i64 o, .int .u32 a, .int .u32 b, .int .u32 f] w fun e w' => e = .returned (.tuple #[.int .u32 (rkv o a b f), .int .u32 (rkf o a b f), .bool (rko o b)]) ∧ Below w.heap.size w w' := by
  by_cases hb : o < 0 ∨ 15 < o
  · exact rkbad_any o hb a b f w h0 g0 h1 g1 h2 g2
  by_cases hz : b = 0
  · by_cases ho : o = 14 ∨ o = 15
    · subst hz; exact rkzero_any o ho a f w h0 g0 h2 g2
    · rcases (show o = 0 ∨ o = 1 ∨ o = 2 ∨ o = 3 ∨ o = 4 ∨ o = 5 ∨ o = 6 ∨ o = 7 ∨ o = 8 ∨ o = 9 ∨ o = 10 ∨ o = 11 ∨ o = 12 ∨ o = 13 by omega) with rfl | rfl | rfl | rfl | rfl | rfl | rfl | rfl | rfl | rfl | rfl | rfl | rfl | rfl
      · exact rk0_any a b f w h0 g0 h1 g1 h2 g2
      · exact rk1_any a b f w h0 g0 h1 g1 h2 g2
      · exact rk2_any a b f w h0 g0 h1 g1 h2 g2
      · exact rk3_any a b f w h0 g0 h1 g1 h2 g2
      · exact rk4_any a b f w h0 g0 h1 g1 h2 g2
      · exact rk5_any a b f w h0 g0 h1 g1 h2 g2
      · exact rk6_any a b f w h0 g0 h1 g1 h2 g2
      · exact rk7_any a b f w h0 g0 h1 g1 h2 g2
      · exact rk8_any a b f w h0 g0 h1 g1 h2 g2
      · exact rk9_any a b f w h0 g0 h1 g1 h2 g2
      · exact rk10_any a b f w h0 g0 h1 g1 h2 g2
      · exact rk11_any a b f w h0 g0 h1 g1 h2 g2
      · exact rk12_any a b f w h0 g0 h1 g1 h2 g2
      · exact rk13_any a b f w h0 g0 h1 g1 h2 g2
  · rcases (show o = 0 ∨ o = 1 ∨ o = 2 ∨ o = 3 ∨ o = 4 ∨ o = 5 ∨ o = 6 ∨ o = 7 ∨ o = 8 ∨ o = 9 ∨ o = 10 ∨ o = 11 ∨ o = 12 ∨ o = 13 ∨ o = 14 ∨ o = 15 by omega) with rfl | rfl | rfl | rfl | rfl | rfl | rfl | rfl | rfl | rfl | rfl | rfl | rfl | rfl | rfl | rfl
    · exact rk0_any a b f w h0 g0 h1 g1 h2 g2
    · exact rk1_any a b f w h0 g0 h1 g1 h2 g2
    · exact rk2_any a b f w h0 g0 h1 g1 h2 g2
    · exact rk3_any a b f w h0 g0 h1 g1 h2 g2
    · exact rk4_any a b f w h0 g0 h1 g1 h2 g2
    · exact rk5_any a b f w h0 g0 h1 g1 h2 g2
    · exact rk6_any a b f w h0 g0 h1 g1 h2 g2
    · exact rk7_any a b f w h0 g0 h1 g1 h2 g2
    · exact rk8_any a b f w h0 g0 h1 g1 h2 g2
    · exact rk9_any a b f w h0 g0 h1 g1 h2 g2
    · exact rk10_any a b f w h0 g0 h1 g1 h2 g2
    · exact rk11_any a b f w h0 g0 h1 g1 h2 g2
    · exact rk12_any a b f w h0 g0 h1 g1 h2 g2
    · exact rk13_any a b f w h0 g0 h1 g1 h2 g2
    · exact rk14_any a b f w h0 g0 h1 g1 h2 g2 (by omega)
    · exact rk15_any a b f w h0 g0 h1 g1 h2 g2 (by omega)
end Go.Proofs.Ytcjcmnnhmajocaa.Fl
