/- mem.Memory.bad: the first of n bytes that may not be used so. -/
import Derived.Deep.LoopGhost
import Derived.Test.YtcjcmnnhmajocabGreatPlac
set_option linter.unusedVariables false
set_option linter.unusedSimpArgs false
set_option maxRecDepth 100000
set_option maxHeartbeats 16000000
namespace Go.Proofs.YtcjcmnnhmajocabGreat.Fl
open Go.RowKit Kt
def rkv (o a b f : Int) : Int :=
 if o = 0 then (a + b) % 4294967296
 else if o = 1 then (a + b + f / 4 % 2) % 4294967296
 else if o = 2 then (a - b) % 4294967296
 else if o = 3 then (a - b - f / 4 % 2) % 4294967296
 else if o = 4 then bits .and .u32 a b
 else if o = 5 then bits .or .u32 a b
 else if o = 6 then bits .xor .u32 a b
 else if o = 7 then a
 else if o = 8 then a
 else if o = 9 then a * 2 ^ n5 b % 4294967296
 else if o = 10 then a / 2 ^ n5 b
 else if o = 11 then sg a / 2 ^ n5 b % 4294967296
 else if o = 12 then rol a (n5 b)
 else if o = 13 then a * b % 4294967296
 else if o = 14 then (if b = 0 then 0 else a / b)
 else if o = 15 then (if b = 0 then 0 else a % b)
 else 0
def rkf (o a b f : Int) : Int :=
 if o = 0 then fl 1 a b f
 else if o = 1 then fl 2 a b f
 else if o = 2 then fl 3 a b f
 else if o = 3 then fl 4 a b f
 else if o = 4 then zn (bits .and .u32 a b)
 else if o = 5 then zn (bits .or .u32 a b)
 else if o = 6 then zn (bits .xor .u32 a b)
 else if o = 7 then fl 3 a b f
 else if o = 8 then zn (bits .and .u32 a b)
 else if o = 9 then fl 6 a b f
 else if o = 10 then fl 7 a b f
 else if o = 11 then fl 8 a b f
 else if o = 12 then fl 9 a b f
 else if o = 13 then fl 10 a b f
 else if o = 14 then (if b = 0 then 0 else zn (a / b))
 else if o = 15 then (if b = 0 then 0 else zn (a % b))
 else 0
def rko (o b : Int) : Bool := !(decide (o < 0) || decide (15 < o) || (decide (14 ≤ o) && decide (b = 0)))
theorem bits_lt (op : BinOp) (a b : Int) (h0 : 0 ≤ a) (g0 : a < 4294967296) (h1 : 0 ≤ b) (g1 : b < 4294967296) : 0 ≤ bits op .u32 a b ∧ bits op .u32 a b < 4294967296 := by
 unfold bits
 rw [IntKind.wrap_u32]
 omega
theorem rk_bad (o a b f : Int) (h : o < 0 ∨ 15 < o) : rkv o a b f = 0 ∧ rkf o a b f = 0 ∧ rko o b = false := by
 refine ⟨?_, ?_, ?_⟩
 ·unfold rkv; rw [if_neg (by omega), if_neg (by omega), if_neg (by omega), if_neg (by omega), if_neg (by omega), if_neg (by omega), if_neg (by omega), if_neg (by omega), if_neg (by omega), if_neg (by omega), if_neg (by omega), if_neg (by omega), if_neg (by omega), if_neg (by omega), if_neg (by omega), if_neg (by omega)]
 ·unfold rkf; rw [if_neg (by omega), if_neg (by omega), if_neg (by omega), if_neg (by omega), if_neg (by omega), if_neg (by omega), if_neg (by omega), if_neg (by omega), if_neg (by omega), if_neg (by omega), if_neg (by omega), if_neg (by omega), if_neg (by omega), if_neg (by omega), if_neg (by omega), if_neg (by omega)]
 ·unfold rko; rcases h with h | h <;> simp [h]
theorem ret_rk {a a' c c' : Int} {d d' : Bool} (h : a = a') (g : c = c') (k : d = d') : Ending.returned (.tuple #[.int .u32 a, .int .u32 c, .bool d]) = .returned (.tuple #[.int .u32 a', .int .u32 c', .bool d']) := by rw [h, g, k]
theorem rk_zero (o a f : Int) (h : o = 14 ∨ o = 15) : rkv o a 0 f = 0 ∧ rkf o a 0 f = 0 ∧ rko o 0 = false := by
 rcases h with rfl | rfl <;> exact ⟨rfl, rfl, rfl⟩
end Go.Proofs.YtcjcmnnhmajocabGreat.Fl
namespace Go.Proofs.YtcjcmnnhmajocabGreat.Me
open Go.RowKit Kt
theorem HM.setRt {p : Nat} {M : MM} {n : Int} {W : World} (h : HM p M n W) (k : Nat) (hk : k < 256) (x : Int) : HM p { M with rt := upd M.rt k x } n (W.setCell ⟨p, 65536 + k, none⟩ (.int .u8 x)) := by
 obtain ⟨h1, h2, h3, h4, h5, h6, h7⟩ := h
 refine ⟨fun j hj => ?_, fun j hj => ?_, fun j hj => ?_, fun j hj => ?_, ?_, fun i => by simpa using h6 i, by simpa using h7⟩
 ·rw [HM.cell_other (by omega)]; exact h1 j hj
 ·by_cases hjk : j = k
  ·subst hjk
   rw [World.cell?_setCell_same _ _ _ (h2 j hj)]
   simp [upd]
  ·rw [HM.cell_other (by omega), h2 j hj]
   simp [upd, hjk]
 ·rw [HM.cell_other (by omega)]; exact h3 j hj
 ·rw [HM.cell_other (by omega)]; exact h4 j hj
 ·rw [HM.cell_other (by omega)]; exact h5
theorem HM.setWd {p : Nat} {M : MM} {n : Int} {W : World} (h : HM p M n W) (k : Nat) (hk : k < 256) (b : Bool) : HM p { M with wd := upd M.wd k b } n (W.setCell ⟨p, 65792 + k, none⟩ (.bool b)) := by
 obtain ⟨h1, h2, h3, h4, h5, h6, h7⟩ := h
 refine ⟨fun j hj => ?_, fun j hj => ?_, fun j hj => ?_, fun j hj => ?_, ?_, fun i => by simpa using h6 i, by simpa using h7⟩
 ·rw [HM.cell_other (by omega)]; exact h1 j hj
 ·rw [HM.cell_other (by omega)]; exact h2 j hj
 ·by_cases hjk : j = k
  ·subst hjk
   rw [World.cell?_setCell_same _ _ _ (h3 j hj)]
   simp [upd]
  ·rw [HM.cell_other (by omega), h3 j hj]
   simp [upd, hjk]
 ·rw [HM.cell_other (by omega)]; exact h4 j hj
 ·rw [HM.cell_other (by omega)]; exact h5
theorem Only.trans {p : Nat} {a b c : World} (h : Only p a b) (k : Only p b c) : Only p a c :=
 ⟨k.1.trans h.1, fun g hg => (k.2.1 g hg).trans (h.2.1 g hg), fun B hB => (h.2.2 B hB).trans (k.2.2 B hB)⟩
/-- rights of a page -/
def prt (M : MM) (k : Nat) (x : Int) : MM := { (if M.rt k = x then M else chg M k) with rt := upd M.rt k x }
def prtN (M : MM) (n : Int) (k : Nat) (x : Int) : Int := if M.rt k = x then n else chgN M n k
theorem protect_bad (p : Nat) (M : MM) (n k x : Int) (w : World) (h : HM p M n w) (hb : k < 0 ∨ 256 ≤ k ∨ x < 0 ∨ 7 < x) :
  Calls Tryz.prog 49 #[.pointer (some ⟨p, 0, none⟩), .int .i64 k, .int .i64 x] w fun e w' => e = .returned (.int .i64 4) ∧ w = w' := by
 have HP := κ (isPage_any k)
 have hp : k < 0 ∨ 256 ≤ k ∨ (0 ≤ k ∧ k < 256 ∧ (x < 0 ∨ 7 < x)) := by omega
 clear h hb
 rcases hp with hp | hp | ⟨p0, p1, hx | hx⟩
 ·have e : (decide (0 ≤ k) && decide (k < 256)) = false := by simp; omega
  rw [e] at HP
  go_enter Tryz.func49, Tryz.ntmps49
  go_wp2_with (go_at_call 80; refine (HP.out _).mono ?_; rintro e w' ⟨rfl, rfl⟩)
  go_ret
  exact ⟨rfl, rfl⟩
 ·have e : (decide (0 ≤ k) && decide (k < 256)) = false := by simp; omega
  rw [e] at HP
  go_enter Tryz.func49, Tryz.ntmps49
  go_wp2_with (go_at_call 80; refine (HP.out _).mono ?_; rintro e w' ⟨rfl, rfl⟩)
  go_ret
  exact ⟨rfl, rfl⟩
 ·have e : (decide (0 ≤ k) && decide (k < 256)) = true := by simp; omega
  rw [e] at HP
  go_enter Tryz.func49, Tryz.ntmps49
  go_wp2_with (go_at_call 80; refine (HP.out _).mono ?_; rintro e w' ⟨rfl, rfl⟩)
  go_ret
  exact ⟨rfl, rfl⟩
 ·have e : (decide (0 ≤ k) && decide (k < 256)) = true := by simp; omega
  rw [e] at HP
  have x0 : ¬ x < 0 := by omega
  go_enter Tryz.func49, Tryz.ntmps49
  go_wp2_with (go_at_call 80; refine (HP.out _).mono ?_; rintro e w' ⟨rfl, rfl⟩)
  go_ret
  exact ⟨rfl, rfl⟩
theorem chg_rt (M : MM) (k : Nat) : (chg M k).rt = M.rt := by unfold chg; split <;> rfl
theorem protect_ok (p : Nat) (M : MM) (n : Int) (k : Nat) (x : Int) (w : World) (h : HM p M n w) (hk : k < 256) (x0 : 0 ≤ x) (x7 : x ≤ 7) (n0 : 0 ≤ n) (n1 : n ≤ 256) :
  Calls Tryz.prog 49 #[.pointer (some ⟨p, 0, none⟩), .int .i64 (k : Int), .int .i64 x] w fun e w' => e = .returned (.int .i64 0) ∧ HM p (prt M k x) (prtN M n k x) w' ∧ Only p w w' := by
 have HP := κ (isPage_any (k : Int))
 have k0 : (0 : Int) ≤ (k : Int) := by omega
 have k1 : (k : Int) < 256 := by omega
 have e : (decide (0 ≤ (k : Int)) && decide ((k : Int) < 256)) = true := by simp; omega
 rw [e] at HP
 have c2 := h.2.1 k hk
 have z2 := h.2.2.2.2.2.1 (65536 + k)
 have HH := κ h
 have xa : ¬ x < 0 := by omega
 have xb : ¬ 7 < x := by omega
 unfold prt prtN
 by_cases hr : M.rt k = x
 ·rw [if_pos hr, if_pos hr]
  rw [hr] at c2
  clear h hr
  go_enter Tryz.func49, Tryz.ntmps49
  go_wp2_with (go_at_call 80; refine (HP.out _).mono ?_; rintro e w' ⟨rfl, rfl⟩)
  go_ret
  exact ⟨rfl, HH.out.setRt k hk x, (Only.refl _ _).set _ _⟩
 ·rw [if_neg hr, if_neg hr]
  have hrb : (M.rt k == x) = false := by rw [beq_eq_false_iff_ne]; exact hr
  have HC := κ (fun w (h : HM p M n w) => change_any p M n k w h hk n0 n1)
  generalize M.rt k = r at c2 hrb
  clear h hr
  go_enter Tryz.func49, Tryz.ntmps49
  go_wp2_with (first
   | (go_at_call 80; refine (HP.out _).mono ?_; rintro e w' ⟨rfl, rfl⟩)
   | (go_at_call 78; refine (HC.out _ HH.out).mono ?_; rintro e w1 ⟨rfl, h1, o1⟩; have d2 := h1.2.1 k hk; have y2 := h1.2.2.2.2.2.1 (65536 + k)))
  go_ret
  have h9 := h1.setRt k hk x
  rw [chg_rt] at h9
  exact ⟨rfl, h9, o1.set _ _⟩
/-- of the old blocks none outside S has changed -/
structure Upto (S : Nat → Prop) (w w' : World) : Prop where
 os : w'.os = w.os
 tape : w'.tape = w.tape
 output : w'.output = w.output
 size : w.heap.size ≤ w'.heap.size
 block : ∀ k, k < w.heap.size → ¬ S k → w'.heap[k]? = w.heap[k]?
theorem Upto.refl (S : Nat → Prop) (w : World) : Upto S w w := ⟨rfl, rfl, rfl, Nat.le_refl _, fun _ _ _ => rfl⟩
theorem Upto.trans {S : Nat → Prop} {a b c : World} (h : Upto S a b) (k : Upto S b c) : Upto S a c :=
 ⟨k.os.trans h.os, k.tape.trans h.tape, k.output.trans h.output, Nat.le_trans h.size k.size, fun i hi hs => (k.block i (Nat.lt_of_lt_of_le hi h.size) hs).trans (h.block i hi hs)⟩
theorem Upto.mono {S T : Nat → Prop} {a b : World} (h : Upto S a b) (hst : ∀ k, k < a.heap.size → S k → T k) : Upto T a b :=
 ⟨h.os, h.tape, h.output, h.size, fun i hi hs => h.block i hi (fun hx => hs (hst i hi hx))⟩
theorem Upto.drew {S : Nat → Prop} {a w : World} (h : Upto S a w) : Upto S a w.drew := ⟨h.os, h.tape, h.output, h.size, h.block⟩
theorem Upto.alloc {S : Nat → Prop} {a w : World} (h : Upto S a w) (o : Obj) : Upto S a (w.alloc o) :=
 h.trans ⟨rfl, rfl, rfl, by simp, fun k hk _ => Below.heap_alloc _ _ _ hk⟩
theorem Upto.setCell {S : Nat → Prop} {a w : World} (h : Upto S a w) {q : Addr} (hq : S q.block ∨ a.heap.size ≤ q.block) (u : Value) : Upto S a (w.setCell q u) :=
 ⟨h.os, h.tape, h.output, by simpa [World.setCell] using h.size, fun k hk hs => (Below.heap_setCell _ _ _ _ (by rintro rfl; rcases hq with hq | hq; exact hs hq; omega)).trans (h.block k hk hs)⟩
theorem Upto.cell {S : Nat → Prop} {w w' : World} (h : Upto S w w') {q : Addr} (hq : q.block < w.heap.size) (hs : ¬ S q.block) : w'.cell? q = w.cell? q := World.cell?_of_block (w := w) (h.block _ hq hs)
theorem Upto.frozen {S : Nat → Prop} {w w' : World} (h : Upto S w w') {q : Addr} (hq : q.block < w.heap.size) (hs : ¬ S q.block) : w'.frozen? q = w.frozen? q := World.frozen?_of_block (w := w) (h.block _ hq hs)
theorem Upto.below {S : Nat → Prop} {w w' : World} (h : Upto S w w') {B : Nat} (hB : B ≤ w.heap.size) (hs : ∀ k, k < B → ¬ S k) : Below B w w' := ⟨h.os, h.tape, h.output, h.size, fun k hk => h.block k (by omega) (hs k hk)⟩
theorem Upto.of_below {S : Nat → Prop} {w w' : World} (h : Below w.heap.size w w') : Upto S w w' := ⟨h.os, h.tape, h.output, h.size, fun k hk _ => h.block k hk⟩
theorem Upto.drop {B : Nat} {S : Nat → Prop} {w a b : World} (h : Upto S w a) (k : Upto (fun i => B ≤ i) a b) (hB : w.heap.size ≤ B) : Upto S w b :=
 ⟨k.os.trans h.os, k.tape.trans h.tape, k.output.trans h.output, Nat.le_trans h.size k.size, fun i hi hs => (k.block i (Nat.lt_of_lt_of_le hi h.size) (by omega)).trans (h.block i hi hs)⟩
theorem Upto.of_only {p : Nat} {w w' : World} (h : Only p w w') : Upto (fun k => k = p) w w' :=
 have b := h.2.2 0 (Nat.zero_le _)
 ⟨b.os, b.tape, b.output, by rw [h.1]; exact Nat.le_refl _, fun k _ hs => h.2.1 k hs⟩
theorem HM.upto {p : Nat} {M : MM} {n : Int} {S : Nat → Prop} {w w' : World} (h : HM p M n w) (u : Upto S w w') (hs : ¬ S p) : HM p M n w' := by
 obtain ⟨h1, h2, h3, h4, h5, h6, h7⟩ := h
 have e : ∀ i, w'.cell? ⟨p, i, none⟩ = w.cell? ⟨p, i, none⟩ := fun i => u.cell h7 hs
 refine ⟨fun j hj => ?_, fun j hj => ?_, fun j hj => ?_, fun j hj => ?_, ?_, fun i => ?_, Nat.lt_of_lt_of_le h7 u.size⟩
 ·rw [e]; exact h1 j hj
 ·rw [e]; exact h2 j hj
 ·rw [e]; exact h3 j hj
 ·rw [e]; exact h4 j hj
 ·rw [e]; exact h5
 ·exact (u.frozen (q := ⟨p, i, none⟩) h7 hs).trans (h6 i)
/-- may a byte be used so (r: 1, 2, 4)? -/
def useB (M : MM) (r x : Int) : Bool := decide (x < 65536) && decide (M.rt (x / 256).toNat / r % 2 = 1)
def plc (a : Int) (k : Nat) : Int := (a + k) % 4294967296
/-- the first of n bytes that may not -/
def srch (M : MM) (r a : Int) (n : Nat) : Option Int := ((List.range n).map (plc a)).find? fun x => !useB M r x
theorem srch_none {M : MM} {r a : Int} {n : Nat} (h : ∀ k, k < n → useB M r (plc a k) = true) : srch M r a n = none := by
 unfold srch
 rw [List.find?_eq_none]
 intro x hx
 obtain ⟨k, hk, rfl⟩ := List.mem_map.1 hx
 rw [List.mem_range] at hk
 simp [h k hk]
theorem srch_succ (M : MM) (r a : Int) (n : Nat) : srch M r a (n + 1) = (srch M r a n).or (if useB M r (plc a n) then none else some (plc a n)) := by
 unfold srch
 rw [List.range_succ, List.map_append, List.find?_append]
 congr 1
 simp only [List.map_cons, List.map_nil, List.find?_cons, List.find?_nil]
 cases useB M r (plc a n) <;> rfl
theorem srch_some {M : MM} {r a : Int} {n : Nat} (k : Nat) (hk : k < n) (h : ∀ j, j < k → useB M r (plc a j) = true) (hb : useB M r (plc a k) = false) : srch M r a n = some (plc a k) := by
 induction n with
 | zero => omega
 | succ n ih =>
  rw [srch_succ]
  by_cases hkn : k = n
  ·subst hkn
   rw [srch_none h, hb]; rfl
  ·rw [ih (by omega)]; rfl
theorem srch_all {M : MM} {r a : Int} {n : Nat} (h : srch M r a n = none) (k : Nat) (hk : k < n) : useB M r (plc a k) = true := by
 unfold srch at h
 rw [List.find?_eq_none] at h
 have := h (plc a k) (List.mem_map.2 ⟨k, List.mem_range.2 hk, rfl⟩)
 simpa using this
theorem plc_bd (a : Int) (k : Nat) : 0 ≤ plc a k ∧ plc a k < 4294967296 := by unfold plc; omega
/-- numbers within their bounds -/
def MOk (M : MM) : Prop := (∀ j, 0 ≤ M.by_ j ∧ M.by_ j < 256) ∧ (∀ j, 0 ≤ M.rt j ∧ M.rt j < 8)
/-- what 'rights and right' is, against 'rights over right, modulo 2' -/
theorem and_zero (x r : Int) (h0 : 0 ≤ x) (h8 : x < 8) (hr : r = 1 ∨ r = 2 ∨ r = 4) : ((bits .and .u8 x r : Int) == 0) = !decide (x / r % 2 = 1) := by
 have hx : x = 0 ∨ x = 1 ∨ x = 2 ∨ x = 3 ∨ x = 4 ∨ x = 5 ∨ x = 6 ∨ x = 7 := by omega
 rcases hr with rfl | rfl | rfl <;> rcases hx with rfl | rfl | rfl | rfl | rfl | rfl | rfl | rfl <;> decide
def srV (o : Option Int) : Value := match o with
 | none => .tuple #[.int .u32 0, .bool false]
 | some x => .tuple #[.int .u32 x, .bool true]
/-- a page is watched, or not -/
def mrk (M : MM) (k : Nat) (b : Bool) : MM := { (if b = false ∧ M.hi k = true then { M with hi := upd M.hi k false } else M) with wd := upd M.wd k b }
def mrkN (M : MM) (n : Int) (k : Nat) (b : Bool) : Int := if b = false ∧ M.hi k = true then n - 1 else n
theorem mark_bad (p : Nat) (k : Int) (b : Bool) (w : World) (hb : k < 0 ∨ 256 ≤ k) :
  Calls Tryz.prog 51 #[.pointer (some ⟨p, 0, none⟩), .int .i64 k, .bool b] w fun e w' => e = .returned (.int .i64 4) ∧ w = w' := by
 have HP := κ (isPage_any k)
 have e : (decide (0 ≤ k) && decide (k < 256)) = false := by simp; omega
 rw [e] at HP
 clear hb
 go_enter Tryz.func51, Tryz.ntmps51
 go_wp2_with (go_at_call 80; refine (HP.out _).mono ?_; rintro e w' ⟨rfl, rfl⟩)
 go_ret
 exact ⟨rfl, rfl⟩
theorem mark_ok (p : Nat) (M : MM) (n : Int) (k : Nat) (b : Bool) (w : World) (h : HM p M n w) (hk : k < 256) (n0 : 0 ≤ n) (n1 : n ≤ 256) :
  Calls Tryz.prog 51 #[.pointer (some ⟨p, 0, none⟩), .int .i64 (k : Int), .bool b] w fun e w' => e = .returned (.int .i64 0) ∧ HM p (mrk M k b) (mrkN M n k b) w' ∧ Only p w w' := by
 have HP := κ (isPage_any (k : Int))
 have k0 : (0 : Int) ≤ (k : Int) := by omega
 have k1 : (k : Int) < 256 := by omega
 have e : (decide (0 ≤ (k : Int)) && decide ((k : Int) < 256)) = true := by simp; omega
 rw [e] at HP
 have c3 := h.2.2.1 k hk
 have c4 := h.2.2.2.1 k hk
 have c5 := h.2.2.2.2.1
 have z3 := h.2.2.2.2.2.1 (65792 + k)
 have z4 := h.2.2.2.2.2.1 (66048 + k)
 have z5 := h.2.2.2.2.2.1 66304
 have HH := κ h
 have hne : 66048 + k ≠ 65792 + k := by omega
 clear h
 unfold mrk mrkN
 obtain ⟨bh, hh⟩ : ∃ bh, M.hi k = bh := ⟨_, rfl⟩
 rw [hh] at c4 ⊢
 clear hh
 cases b <;> cases bh
 all_goals go_enter Tryz.func51, Tryz.ntmps51
 all_goals go_wp2_with (go_at_call 80; refine (HP.out _).mono ?_; rintro e w' ⟨rfl, rfl⟩)
 all_goals go_ret
 all_goals first
  | exact ⟨rfl, HH.out.setWd k hk false, (Only.refl _ _).set _ _⟩
  | exact ⟨rfl, ((HH.out.setWd k hk false).setHi k hk false).setN (n - 1), (((Only.refl _ _).set _ _).set _ _).set _ _⟩
  | exact ⟨rfl, HH.out.setWd k hk true, (Only.refl _ _).set _ _⟩
def cntN (f : Nat → Bool) : Nat → Nat
 | 0 => 0
 | n + 1 => cntN f n + if f n = true then 1 else 0
theorem cntN_le (f : Nat → Bool) (n : Nat) : cntN f n ≤ n := by
 induction n with
 | zero => exact Nat.le_refl _
 | succ n ih => simp only [cntN]; split <;> omega
theorem cntN_far (f : Nat → Bool) (k : Nat) (v : Bool) (n : Nat) (h : n ≤ k) : cntN (upd f k v) n = cntN f n := by
 induction n with
 | zero => rfl
 | succ n ih =>
  simp only [cntN, ih (by omega)]
  rw [show upd f k v n = f n from by unfold upd; rw [if_neg (by omega)]]
theorem cntN_up (f : Nat → Bool) (k n : Nat) (hk : k < n) (hf : f k = false) : cntN (upd f k true) n = cntN f n + 1 := by
 induction n with
 | zero => omega
 | succ n ih =>
  simp only [cntN]
  by_cases hkn : k = n
  ·subst hkn
   rw [cntN_far f k true k (Nat.le_refl _), hf]
   simp [upd]
  ·rw [ih (by omega), show upd f k true n = f n from by unfold upd; rw [if_neg (by omega)]]
   omega
theorem cntN_down (f : Nat → Bool) (k n : Nat) (hk : k < n) (hf : f k = true) : cntN f n = cntN (upd f k false) n + 1 := by
 have h : cntN (upd (upd f k false) k true) n = cntN (upd f k false) n + 1 := cntN_up _ k n hk (by simp [upd])
 rw [← h]
 congr 1
 funext j
 unfold upd
 split
 ·next e => subst e; exact hf
 ·rfl
theorem cntN_pos (f : Nat → Bool) (n : Nat) : 0 < cntN f n ↔ ∃ k, k < n ∧ f k = true := by
 induction n with
 | zero => simp [cntN]
 | succ n ih =>
  simp only [cntN]
  constructor
  ·intro h
   by_cases hf : f n = true
   ·exact ⟨n, by omega, hf⟩
   ·rw [if_neg hf] at h
    obtain ⟨k, hk, hfk⟩ := ih.1 (by omega)
    exact ⟨k, by omega, hfk⟩
  ·rintro ⟨k, hk, hfk⟩
   by_cases hkn : k = n
   ·subst hkn; rw [if_pos hfk]; omega
   ·have := ih.2 ⟨k, by omega, hfk⟩
    omega
/-- how many pages are told -/
def cnt (f : Nat → Bool) : Int := (cntN f 256 : Nat)
theorem cnt_bd (f : Nat → Bool) : 0 ≤ cnt f ∧ cnt f ≤ 256 := by
 have := cntN_le f 256
 unfold cnt; omega
theorem cnt_up {f : Nat → Bool} {k : Nat} (hk : k < 256) (hf : f k = false) : cnt (upd f k true) = cnt f + 1 := by
 unfold cnt; rw [cntN_up f k 256 hk hf]; omega
theorem cnt_down {f : Nat → Bool} {k : Nat} (hk : k < 256) (hf : f k = true) : cnt (upd f k false) = cnt f - 1 := by
 unfold cnt; rw [cntN_down f k 256 hk hf]; omega
def anyT (f : Nat → Bool) : Bool := decide (0 < cntN f 256)
theorem anyT_iff (f : Nat → Bool) : anyT f = true ↔ ∃ k, k < 256 ∧ f k = true := by
 unfold anyT; rw [decide_eq_true_iff]; exact cntN_pos f 256
/-- mem.Memory: M, its count with it -/
def HC (p : Nat) (M : MM) (W : World) : Prop := HM p M (cnt M.hi) W
theorem HC.upto {p : Nat} {M : MM} {S : Nat → Prop} {w w' : World} (h : HC p M w) (u : Upto S w w') (hs : ¬ S p) : HC p M w' := HM.upto h u hs
theorem chg_cnt (M : MM) (k : Nat) (hk : k < 256) : chgN M (cnt M.hi) k = cnt (chg M k).hi := by
 unfold chgN chg
 split
 ·next h => simp only [Bool.and_eq_true, Bool.not_eq_true'] at h; rw [cnt_up hk h.2]
 ·rfl
theorem prt_cnt (M : MM) (k : Nat) (x : Int) (hk : k < 256) : prtN M (cnt M.hi) k x = cnt (prt M k x).hi := by
 unfold prtN prt
 split
 ·rfl
 ·exact chg_cnt M k hk
theorem mrk_cnt (M : MM) (k : Nat) (b : Bool) (hk : k < 256) : mrkN M (cnt M.hi) k b = cnt (mrk M k b).hi := by
 unfold mrkN mrk
 split
 ·next h => rw [cnt_down hk h.2]
 ·rfl
theorem chg_same (M : MM) (k : Nat) : (chg M k).by_ = M.by_ ∧ (chg M k).rt = M.rt ∧ (chg M k).wd = M.wd := by unfold chg; split <;> exact ⟨rfl, rfl, rfl⟩
theorem MM.ext {M N : MM} (h1 : M.by_ = N.by_) (h2 : M.rt = N.rt) (h3 : M.wd = N.wd) (h4 : M.hi = N.hi) : M = N := by
 cases M; cases N; simp_all
/-- bytes are written, page after page is changed -/
def pk (M : MM) : Nat → List Int → MM
 | _, [] => M
 | at_, b :: bs => pk (chg { M with by_ := upd M.by_ at_ b } (at_ / 256)) (at_ + 1) bs
/-- what is loaded -/
def byt (M : MM) (a : Int) (k : Nat) : Int := M.by_ (a.toNat + k)
def ldv (M : MM) (a n : Int) : Int :=
 if (srch M 1 a n.toNat).isNone then
  if n = 1 then byt M a 0 else if n = 2 then byt M a 0 + byt M a 1 * 256 else if n = 4 then byt M a 0 + byt M a 1 * 256 + byt M a 2 * 65536 + byt M a 3 * 16777216 else 0
 else 0
def stpV (kind : Int) (o : Option Int) : Value := match o with
 | none => .agg #[.int .i64 0, .int .u32 0]
 | some x => .agg #[.int .i64 kind, .int .u32 x]
/-- the bytes of a number -/
def bts (n v : Int) : List Int := if n = 1 then [v % 256] else if n = 2 then [v % 256, v / 256 % 256] else if n = 4 then [v % 256, v / 256 % 256, v / 65536 % 256, v / 16777216] else []
/-- what is stored, and the stop -/
def stm (M : MM) (a n v : Int) : MM := if n = 1 ∨ n = 2 ∨ n = 4 then (if (srch M 2 a n.toNat).isNone then pk M a.toNat (bts n v) else M) else M
def sto (M : MM) (a n : Int) : Option Int := if n = 1 ∨ n = 2 ∨ n = 4 then srch M 2 a n.toNat else none
theorem plc_in {M : MM} {r a : Int} {n : Nat} (a0 : 0 ≤ a) (a1 : a < 4294967296) (h : srch M r a n = none) (k : Nat) (hk : k < n) (hn : n < 65537) : plc a k = a + k ∧ a + k < 65536 := by
 have h0 := srch_all h 0 (by omega)
 have hk' := srch_all h k hk
 unfold useB at h0 hk'
 simp only [Bool.and_eq_true, decide_eq_true_eq] at h0 hk'
 have e0 : plc a 0 = a := by unfold plc; omega
 rw [e0] at h0
 have := hk'.1
 unfold plc at this ⊢
 omega
theorem ldv_bd {M : MM} (hM : MOk M) (a n : Int) : 0 ≤ ldv M a n ∧ ldv M a n < 4294967296 := by
 have b0 := hM.1 (a.toNat + 0)
 have b1 := hM.1 (a.toNat + 1)
 have b2 := hM.1 (a.toNat + 2)
 have b3 := hM.1 (a.toNat + 3)
 unfold ldv byt
 split
 ·split
  ·omega
  ·split
   ·omega
   ·split
    ·omega
    ·omega
 ·omega
theorem cntN_no (n : Nat) : cntN (fun _ => false) n = 0 := by
 induction n with
 | zero => rfl
 | succ n ih => simp [cntN, ih]
theorem cnt_no : cnt (fun _ => false) = 0 := by unfold cnt; rw [cntN_no]; rfl
def mkE (k : Int) : Int := if 0 ≤ k ∧ k < 256 then 0 else 4
def mkM (M : MM) (k : Int) (b : Bool) : MM := if 0 ≤ k ∧ k < 256 then mrk M k.toNat b else M
theorem mark_any (p : Nat) (M : MM) (k : Int) (b : Bool) (w : World) (h : HC p M w) :
  Calls Tryz.prog 51 #[.pointer (some ⟨p, 0, none⟩), .int .i64 k, .bool b] w fun e w' => e = .returned (.int .i64 (mkE k)) ∧ HC p (mkM M k b) w' ∧ Upto (fun i => i = p) w w' := by
 unfold mkE mkM
 by_cases hk : 0 ≤ k ∧ k < 256
 ·rw [if_pos hk, if_pos hk]
  obtain ⟨k0, k1⟩ := hk
  obtain ⟨c, rfl⟩ := Int.eq_ofNat_of_zero_le k0
  refine (mark_ok p M (cnt M.hi) c b w h (by omega) (cnt_bd _).1 (cnt_bd _).2).mono ?_
  rintro e w' ⟨rfl, h1, o1⟩
  refine ⟨rfl, ?_, Upto.of_only o1⟩
  rw [Int.toNat_natCast]
  unfold HC
  rw [← mrk_cnt M c b (by omega)]
  exact h1
 ·rw [if_neg hk, if_neg hk]
  refine (mark_bad p k b w (by omega)).mono ?_
  rintro e w' ⟨rfl, rfl⟩
  exact ⟨rfl, h, Upto.refl _ _⟩
theorem i64_info : ∃ i, Tryz.prog.info? 3 = some i ∧ i.zero = some (.int .i64 0) ∧ i.size = 1 ∧ i.bytes = 8 := by
 have h : (Tryz.prog.info? 3).map (fun i => (i.zero, i.size, i.bytes)) = some (some (.int .i64 0), 1, 8) := by kernel_rfl
 obtain ⟨i, hi, hz⟩ := Option.map_eq_some_iff.1 h
 simp only [Prod.mk.injEq] at hz
 exact ⟨i, hi, hz.1, hz.2.1, hz.2.2⟩
/-- the blocks of a memory of the meaning: the struct's, its four slices' -/
structure RP where
 q : Nat
 b : Nat
 r : Nat
 m : Nat
 t : Nat
 cb : Nat
 cr : Nat
 cm : Nat
 ct : Nat
 hcb : 65536 ≤ cb
def RP.ok (P : RP) : Prop := P.q ≠ P.b ∧ P.q ≠ P.r ∧ P.q ≠ P.m ∧ P.q ≠ P.t ∧ P.b ≠ P.r ∧ P.b ≠ P.m ∧ P.b ≠ P.t ∧ P.r ≠ P.m ∧ P.r ≠ P.t ∧ P.m ≠ P.t
def RP.has (P : RP) (k : Nat) : Prop := k = P.q ∨ k = P.b ∨ k = P.r ∨ k = P.m ∨ k = P.t
structure RM (P : RP) (M : MM) (W : World) : Prop where
 ok : P.ok
 hq0 : W.cell? ⟨P.q, 0, none⟩ = some (.slice (some ⟨P.b, 0, none⟩) 65536 P.cb)
 hq1 : W.cell? ⟨P.q, 1, none⟩ = some (.slice (some ⟨P.r, 0, none⟩) 256 P.cr)
 hq2 : W.cell? ⟨P.q, 2, none⟩ = some (.slice (some ⟨P.m, 0, none⟩) 256 P.cm)
 hq3 : W.cell? ⟨P.q, 3, none⟩ = some (.slice (some ⟨P.t, 0, none⟩) 256 P.ct)
 hb : ∀ j, j < 65536 → W.cell? ⟨P.b, j, none⟩ = some (.int .u8 (M.by_ j))
 hr : ∀ j, j < 256 → W.cell? ⟨P.r, j, none⟩ = some (.int .i64 (M.rt j))
 hm : ∀ j, j < 256 → W.cell? ⟨P.m, j, none⟩ = some (.bool (M.wd j))
 ht : ∀ j, j < 256 → W.cell? ⟨P.t, j, none⟩ = some (.bool (M.hi j))
 zb : ∀ j, W.frozen? ⟨P.b, j, none⟩ = false
 zr : ∀ j, W.frozen? ⟨P.r, j, none⟩ = false
 zm : ∀ j, W.frozen? ⟨P.m, j, none⟩ = false
 zt : ∀ j, W.frozen? ⟨P.t, j, none⟩ = false
 lq : P.q < W.heap.size
 lb : P.b < W.heap.size
 lr : P.r < W.heap.size
 lm : P.m < W.heap.size
 lt : P.t < W.heap.size
theorem RM.upto {P : RP} {M : MM} {S : Nat → Prop} {w w' : World} (h : RM P M w) (u : Upto S w w') (hs : ∀ k, P.has k → ¬ S k) : RM P M w' := by
 have sq := hs P.q (.inl rfl)
 have sb := hs P.b (.inr (.inl rfl))
 have sr := hs P.r (.inr (.inr (.inl rfl)))
 have sm := hs P.m (.inr (.inr (.inr (.inl rfl))))
 have st := hs P.t (.inr (.inr (.inr (.inr rfl))))
 exact ⟨h.ok, (u.cell h.lq sq).trans h.hq0, (u.cell h.lq sq).trans h.hq1, (u.cell h.lq sq).trans h.hq2, (u.cell h.lq sq).trans h.hq3,
  fun j hj => (u.cell h.lb sb).trans (h.hb j hj), fun j hj => (u.cell h.lr sr).trans (h.hr j hj), fun j hj => (u.cell h.lm sm).trans (h.hm j hj), fun j hj => (u.cell h.lt st).trans (h.ht j hj),
  fun j => (u.frozen h.lb sb).trans (h.zb j), fun j => (u.frozen h.lr sr).trans (h.zr j), fun j => (u.frozen h.lm sm).trans (h.zm j), fun j => (u.frozen h.lt st).trans (h.zt j),
  Nat.lt_of_lt_of_le h.lq u.size, Nat.lt_of_lt_of_le h.lb u.size, Nat.lt_of_lt_of_le h.lr u.size, Nat.lt_of_lt_of_le h.lm u.size, Nat.lt_of_lt_of_le h.lt u.size⟩
theorem RM.drew {P : RP} {M : MM} {W : World} (h : RM P M W) : RM P M W.drew := ⟨h.ok, h.hq0, h.hq1, h.hq2, h.hq3, h.hb, h.hr, h.hm, h.ht, h.zb, h.zr, h.zm, h.zt, h.lq, h.lb, h.lr, h.lm, h.lt⟩
theorem RM.congr {P : RP} {M M' : MM} {W : World} (h : RM P M W) (e1 : ∀ j, j < 65536 → M'.by_ j = M.by_ j) (e2 : ∀ j, j < 256 → M'.rt j = M.rt j) (e3 : ∀ j, j < 256 → M'.wd j = M.wd j) (e4 : ∀ j, j < 256 → M'.hi j = M.hi j) : RM P M' W :=
 ⟨h.ok, h.hq0, h.hq1, h.hq2, h.hq3, fun j hj => by rw [e1 j hj]; exact h.hb j hj, fun j hj => by rw [e2 j hj]; exact h.hr j hj, fun j hj => by rw [e3 j hj]; exact h.hm j hj, fun j hj => by rw [e4 j hj]; exact h.ht j hj, h.zb, h.zr, h.zm, h.zt, h.lq, h.lb, h.lr, h.lm, h.lt⟩
theorem cell_off {W : World} {g k : Nat} {v : Value} {b i : Nat} (hne : ¬ (b = g ∧ i = k)) : (W.setCell ⟨g, k, none⟩ v).cell? ⟨b, i, none⟩ = W.cell? ⟨b, i, none⟩ :=
 World.cell?_setCell_other _ _ _ _ (by intro h; simp only [Addr.mk.injEq] at h; exact hne ⟨by omega, by omega⟩)
theorem upd_same {α : Type} (f : Nat → α) (k : Nat) (v : α) : upd f k v k = v := by simp [upd]
theorem upd_ne {α : Type} (f : Nat → α) (k j : Nat) (v : α) (h : ¬ j = k) : upd f k v j = f j := by simp [upd, h]
theorem RM.setB {P : RP} {M : MM} {W : World} (h : RM P M W) (k : Nat) (hk : k < 65536) (x : Int) : RM P { M with by_ := upd M.by_ k x } (W.setCell ⟨P.b, k, none⟩ (.int .u8 x)) := by
 obtain ⟨o1, o2, o3, o4, o5, o6, o7, o8, o9, o10⟩ := h.ok
 refine ⟨h.ok, ?_, ?_, ?_, ?_, fun j hj => ?_, fun j hj => ?_, fun j hj => ?_, fun j hj => ?_, fun j => by simpa using h.zb j, fun j => by simpa using h.zr j, fun j => by simpa using h.zm j, fun j => by simpa using h.zt j, by simpa using h.lq, by simpa using h.lb, by simpa using h.lr, by simpa using h.lm, by simpa using h.lt⟩
 ·rw [cell_off (by omega)]; exact h.hq0
 ·rw [cell_off (by omega)]; exact h.hq1
 ·rw [cell_off (by omega)]; exact h.hq2
 ·rw [cell_off (by omega)]; exact h.hq3
 ·by_cases hjk : j = k
  ·subst hjk; rw [World.cell?_setCell_same _ _ _ (h.hb j hj)]; simp only [upd_same]
  ·rw [cell_off (by omega), h.hb j hj]; simp only [upd_ne _ _ _ _ hjk]
 ·rw [cell_off (by omega)]; exact h.hr j hj
 ·rw [cell_off (by omega)]; exact h.hm j hj
 ·rw [cell_off (by omega)]; exact h.ht j hj
theorem RM.setR {P : RP} {M : MM} {W : World} (h : RM P M W) (k : Nat) (hk : k < 256) (x : Int) : RM P { M with rt := upd M.rt k x } (W.setCell ⟨P.r, k, none⟩ (.int .i64 x)) := by
 obtain ⟨o1, o2, o3, o4, o5, o6, o7, o8, o9, o10⟩ := h.ok
 refine ⟨h.ok, ?_, ?_, ?_, ?_, fun j hj => ?_, fun j hj => ?_, fun j hj => ?_, fun j hj => ?_, fun j => by simpa using h.zb j, fun j => by simpa using h.zr j, fun j => by simpa using h.zm j, fun j => by simpa using h.zt j, by simpa using h.lq, by simpa using h.lb, by simpa using h.lr, by simpa using h.lm, by simpa using h.lt⟩
 ·rw [cell_off (by omega)]; exact h.hq0
 ·rw [cell_off (by omega)]; exact h.hq1
 ·rw [cell_off (by omega)]; exact h.hq2
 ·rw [cell_off (by omega)]; exact h.hq3
 ·rw [cell_off (by omega)]; exact h.hb j hj
 ·by_cases hjk : j = k
  ·subst hjk; rw [World.cell?_setCell_same _ _ _ (h.hr j hj)]; simp only [upd_same]
  ·rw [cell_off (by omega), h.hr j hj]; simp only [upd_ne _ _ _ _ hjk]
 ·rw [cell_off (by omega)]; exact h.hm j hj
 ·rw [cell_off (by omega)]; exact h.ht j hj
theorem RM.setM {P : RP} {M : MM} {W : World} (h : RM P M W) (k : Nat) (hk : k < 256) (x : Bool) : RM P { M with wd := upd M.wd k x } (W.setCell ⟨P.m, k, none⟩ (.bool x)) := by
 obtain ⟨o1, o2, o3, o4, o5, o6, o7, o8, o9, o10⟩ := h.ok
 refine ⟨h.ok, ?_, ?_, ?_, ?_, fun j hj => ?_, fun j hj => ?_, fun j hj => ?_, fun j hj => ?_, fun j => by simpa using h.zb j, fun j => by simpa using h.zr j, fun j => by simpa using h.zm j, fun j => by simpa using h.zt j, by simpa using h.lq, by simpa using h.lb, by simpa using h.lr, by simpa using h.lm, by simpa using h.lt⟩
 ·rw [cell_off (by omega)]; exact h.hq0
 ·rw [cell_off (by omega)]; exact h.hq1
 ·rw [cell_off (by omega)]; exact h.hq2
 ·rw [cell_off (by omega)]; exact h.hq3
 ·rw [cell_off (by omega)]; exact h.hb j hj
 ·rw [cell_off (by omega)]; exact h.hr j hj
 ·by_cases hjk : j = k
  ·subst hjk; rw [World.cell?_setCell_same _ _ _ (h.hm j hj)]; simp only [upd_same]
  ·rw [cell_off (by omega), h.hm j hj]; simp only [upd_ne _ _ _ _ hjk]
 ·rw [cell_off (by omega)]; exact h.ht j hj
theorem RM.setT {P : RP} {M : MM} {W : World} (h : RM P M W) (k : Nat) (hk : k < 256) (x : Bool) : RM P { M with hi := upd M.hi k x } (W.setCell ⟨P.t, k, none⟩ (.bool x)) := by
 obtain ⟨o1, o2, o3, o4, o5, o6, o7, o8, o9, o10⟩ := h.ok
 refine ⟨h.ok, ?_, ?_, ?_, ?_, fun j hj => ?_, fun j hj => ?_, fun j hj => ?_, fun j hj => ?_, fun j => by simpa using h.zb j, fun j => by simpa using h.zr j, fun j => by simpa using h.zm j, fun j => by simpa using h.zt j, by simpa using h.lq, by simpa using h.lb, by simpa using h.lr, by simpa using h.lm, by simpa using h.lt⟩
 ·rw [cell_off (by omega)]; exact h.hq0
 ·rw [cell_off (by omega)]; exact h.hq1
 ·rw [cell_off (by omega)]; exact h.hq2
 ·rw [cell_off (by omega)]; exact h.hq3
 ·rw [cell_off (by omega)]; exact h.hb j hj
 ·rw [cell_off (by omega)]; exact h.hr j hj
 ·rw [cell_off (by omega)]; exact h.hm j hj
 ·by_cases hjk : j = k
  ·subst hjk; rw [World.cell?_setCell_same _ _ _ (h.ht j hj)]; simp only [upd_same]
  ·rw [cell_off (by omega), h.ht j hj]; simp only [upd_ne _ _ _ _ hjk]
theorem upd_id {α : Type} (f : Nat → α) (k : Nat) (v : α) (h : f k = v) : upd f k v = f := by
 funext j
 by_cases hj : j = k
 ·subst hj; rw [upd_same, h]
 ·rw [upd_ne _ _ _ _ hj]
theorem chg_wd (M : MM) (k : Nat) (h : M.wd k = true) : chg M k = { M with hi := upd M.hi k true } := by
 unfold chg
 cases hh : M.hi k
 ·simp [h]
 ·simp [h, upd_id _ _ _ hh]
theorem chg_nwd (M : MM) (k : Nat) (h : M.wd k = false) : chg M k = M := by unfold chg; simp [h]
/-- the blocks that may change -/
abbrev RP.S (P : RP) : Nat → Prop := P.has
theorem rchange (P : RP) (M : MM) (k : Int) (k0 : 0 ≤ k) (k1 : k < 256) (w : World) (h : RM P M w) :
  Calls Tryz.prog 79 #[.pointer (some ⟨P.q, 0, none⟩), .int .i64 k] w fun e w' => e = .returned (.tuple #[]) ∧ RM P (chg M k.toNat) w' ∧ Upto P.S w w' := by
 have q2 := h.hq2
 have q3 := h.hq3
 have c3 := h.hm k.toNat (by omega)
 have c4 := h.ht k.toNat (by omega)
 have z4 := h.zt k.toNat
 have HH := κ h
 obtain ⟨q, b, r, m, t⟩ := P
 simp only at q2 q3 c3 c4 z4
 clear h
 cases hm : M.wd k.toNat
 ·rw [chg_nwd _ _ hm]
  rw [hm] at c3
  clear hm
  go_enter Tryz.func79, Tryz.ntmps79
  go_wp2
  go_end0
  exact ⟨rfl, HH.out, Upto.refl _ _⟩
 ·rw [chg_wd _ _ hm]
  rw [hm] at c3
  clear hm
  go_enter Tryz.func79, Tryz.ntmps79
  go_wp2
  go_end0
  exact ⟨rfl, HH.out.setT k.toNat (by omega) true, (Upto.refl _ _).setCell (q := ⟨t, k.toNat, none⟩) (.inl (.inr (.inr (.inr (.inr rfl))))) _⟩
theorem rprotect_bad (q : Nat) (k x : Int) (w : World) (hb : k < 0 ∨ 256 ≤ k ∨ x < 0 ∨ 7 < x) :
  Calls Tryz.prog 50 #[.pointer (some ⟨q, 0, none⟩), .int .i64 k, .int .i64 x] w fun e w' => e = .returned (.int .i64 4) ∧ w = w' := by
 have HP := κ (page_any k)
 have hp : (k < 0 ∨ 256 ≤ k) ∨ (0 ≤ k ∧ k < 256 ∧ (x < 0 ∨ (¬ x < 0 ∧ 7 < x))) := by omega
 clear hb
 rcases hp with hp | ⟨p0, p1, hx | ⟨hx, hx2⟩⟩
 ·have e : (decide (0 ≤ k) && decide (k < 256)) = false := by simp; omega
  rw [e] at HP
  clear hp
  go_enter Tryz.func50, Tryz.ntmps50
  go_wp2_with (go_at_call 81; refine (HP.out _).mono ?_; rintro e w' ⟨rfl, rfl⟩)
  go_ret
  exact ⟨rfl, rfl⟩
 all_goals
  have e : (decide (0 ≤ k) && decide (k < 256)) = true := by simp; omega
  rw [e] at HP
  go_enter Tryz.func50, Tryz.ntmps50
  go_wp2_with (go_at_call 81; refine (HP.out _).mono ?_; rintro e w' ⟨rfl, rfl⟩)
  go_ret
  exact ⟨rfl, rfl⟩
theorem rprotect_ok (P : RP) (M : MM) (k : Int) (x : Int) (w : World) (h : RM P M w) (k0 : 0 ≤ k) (k1 : k < 256) (x0 : 0 ≤ x) (x7 : x ≤ 7) :
  Calls Tryz.prog 50 #[.pointer (some ⟨P.q, 0, none⟩), .int .i64 k, .int .i64 x] w fun e w' => e = .returned (.int .i64 0) ∧ RM P (prt M k.toNat x) w' ∧ Upto P.S w w' := by
 have HP := κ (page_any k)
 have e : (decide (0 ≤ k) && decide (k < 256)) = true := by simp; omega
 rw [e] at HP
 have hkn : k.toNat < 256 := by omega
 have q1 := h.hq1
 have c2 := h.hr k.toNat hkn
 have z2 := h.zr k.toNat
 have HH := κ h
 have xa : ¬ x < 0 := by omega
 have xb : ¬ 7 < x := by omega
 have HC := κ (rchange P M k k0 k1)
 obtain ⟨q, b, r, m, t⟩ := P
 simp only at q1 c2 z2 HC
 unfold prt
 by_cases hr : M.rt k.toNat = x
 ·rw [if_pos hr]
  rw [hr] at c2
  have hre : (x != x) = false := by simp
  clear h hr HC
  go_enter Tryz.func50, Tryz.ntmps50
  go_wp2_with (go_at_call 81; refine (HP.out _).mono ?_; rintro e w' ⟨rfl, rfl⟩)
  go_ret
  exact ⟨rfl, HH.out.setR k.toNat hkn x, (Upto.refl _ _).setCell (q := ⟨r, k.toNat, none⟩) (.inl (.inr (.inr (.inl rfl)))) _⟩
 ·rw [if_neg hr]
  have hrb : (M.rt k.toNat != x) = true := by rw [bne_iff_ne]; exact hr
  generalize M.rt k.toNat = y at c2 hrb
  clear h hr
  go_enter Tryz.func50, Tryz.ntmps50
  go_wp2_with (first
   | (go_at_call 81; refine (HP.out _).mono ?_; rintro e w' ⟨rfl, rfl⟩)
   | (go_at_call 79; refine (HC.out _ HH.out).mono ?_; rintro e w1 ⟨rfl, h1, o1⟩; have e1 := h1.hq1; have d2 := h1.hr k.toNat hkn; have y2 := h1.zr k.toNat; simp only at e1 d2 y2))
  go_ret
  have h9 := h1.setR k.toNat hkn x
  rw [chg_rt] at h9
  exact ⟨rfl, h9, o1.setCell (q := ⟨r, k.toNat, none⟩) (.inl (.inr (.inr (.inl rfl)))) _⟩
theorem rmark_bad (q : Nat) (k : Int) (b : Bool) (w : World) (hb : k < 0 ∨ 256 ≤ k) :
  Calls Tryz.prog 52 #[.pointer (some ⟨q, 0, none⟩), .int .i64 k, .bool b] w fun e w' => e = .returned (.int .i64 4) ∧ w = w' := by
 have HP := κ (page_any k)
 have e : (decide (0 ≤ k) && decide (k < 256)) = false := by simp; omega
 rw [e] at HP
 clear hb
 go_enter Tryz.func52, Tryz.ntmps52
 go_wp2_with (go_at_call 81; refine (HP.out _).mono ?_; rintro e w' ⟨rfl, rfl⟩)
 go_ret
 exact ⟨rfl, rfl⟩
theorem mrk_true (M : MM) (k : Nat) : mrk M k true = { M with wd := upd M.wd k true } := by unfold mrk; simp
theorem mrk_false (M : MM) (k : Nat) : mrk M k false = { M with wd := upd M.wd k false, hi := upd M.hi k false } := by
 unfold mrk
 cases hh : M.hi k
 ·simp [upd_id _ _ _ hh]
 ·simp
theorem rmark_ok (P : RP) (M : MM) (k : Int) (b : Bool) (w : World) (h : RM P M w) (k0 : 0 ≤ k) (k1 : k < 256) :
  Calls Tryz.prog 52 #[.pointer (some ⟨P.q, 0, none⟩), .int .i64 k, .bool b] w fun e w' => e = .returned (.int .i64 0) ∧ RM P (mrk M k.toNat b) w' ∧ Upto P.S w w' := by
 have HP := κ (page_any k)
 have e : (decide (0 ≤ k) && decide (k < 256)) = true := by simp; omega
 rw [e] at HP
 have hkn : k.toNat < 256 := by omega
 have q2 := h.hq2
 have q3 := h.hq3
 have c3 := h.hm k.toNat hkn
 have c4 := h.ht k.toNat hkn
 have z3 := h.zm k.toNat
 have z4 := h.zt k.toNat
 have o3 : P.q ≠ P.m := h.ok.2.2.1
 have o4 : P.t ≠ P.m := fun e => h.ok.2.2.2.2.2.2.2.2.2 e.symm
 have HH := κ h
 obtain ⟨q, b', r, m, t⟩ := P
 simp only at q2 q3 c3 c4 z3 z4 o3 o4
 clear h
 cases b
 ·rw [mrk_false]
  go_enter Tryz.func52, Tryz.ntmps52
  go_wp2_with (go_at_call 81; refine (HP.out _).mono ?_; rintro e w' ⟨rfl, rfl⟩)
  go_ret
  exact ⟨rfl, (HH.out.setM k.toNat hkn false).setT k.toNat hkn false, ((Upto.refl _ _).setCell (q := ⟨m, k.toNat, none⟩) (.inl (.inr (.inr (.inr (.inl rfl))))) _).setCell (q := ⟨t, k.toNat, none⟩) (.inl (.inr (.inr (.inr (.inr rfl))))) _⟩
 ·rw [mrk_true]
  go_enter Tryz.func52, Tryz.ntmps52
  go_wp2_with (go_at_call 81; refine (HP.out _).mono ?_; rintro e w' ⟨rfl, rfl⟩)
  go_ret
  exact ⟨rfl, HH.out.setM k.toNat hkn true, (Upto.refl _ _).setCell (q := ⟨m, k.toNat, none⟩) (.inl (.inr (.inr (.inr (.inl rfl))))) _⟩
theorem rtouched (P : RP) (M : MM) (w : World) (h : RM P M w) :
  Calls Tryz.prog 66 #[.pointer (some ⟨P.q, 0, none⟩)] w fun e w' => e = .returned (.bool (anyT M.hi)) ∧ w = w' := by
 have q3 := h.hq3
 have HH := κ h
 obtain ⟨q, b', r, m, t⟩ := P
 simp only at q3
 clear h
 go_enter Tryz.func66, Tryz.ntmps66
 go_wp2
 go_loopg [10] 256 (fun g i wr => ∃ k : Nat, g = 256 - k ∧ k ≤ 256 ∧ i = .int .i64 k ∧ Hid (∀ j, j < k → M.hi j = false) ∧ w = wr)
 case atStart => exact ⟨0, rfl, Nat.zero_le _, rfl, fun j hj => absurd hj (by omega), rfl⟩
 case round =>
  obtain ⟨k, hg, hk, rfl, HN, rfl⟩ := hrel
  by_cases hlt : k < 256
  ·have hlt' : (k : Int) < 256 := by omega
   have hge' : (0 : Int) ≤ (k : Int) := by omega
   have c4 := HH.out.ht k hlt
   simp only at c4
   cases hb : M.hi k
   ·rw [hb] at c4
    have HB := κ hb
    clear hb
    go_wp2
    go_roundg (256 - (k + 1))
    case measure => omega
    case rel =>
     refine ⟨k + 1, rfl, by omega, by simp, fun j hj => ?_, rfl⟩
     by_cases hjk : j = k
     ·subst hjk; exact HB.out
     ·exact HN.out j (by omega)
   ·rw [hb] at c4
    have HB := κ hb
    clear hb
    go_wp2
    go_ret
    exact ⟨by rw [(anyT_iff _).2 ⟨k, hlt, HB.out⟩]; rfl, rfl⟩
  ·obtain rfl : k = 256 := by omega
   go_wp2
   go_ret
   refine ⟨?_, rfl⟩
   have : anyT M.hi = false := by
    rw [Bool.eq_false_iff]
    intro h
    obtain ⟨j, hj, hb⟩ := (anyT_iff _).1 h
    rw [HN.out j hj] at hb
    cases hb
   rw [this]; rfl
theorem use_snoc {M : MM} {r a x : Int} {k : Nat} (h : ∀ j, j < k → useB M r (plc a j) = true) (e : plc a k = x) (hu : useB M r x = true) : ∀ j, j < k + 1 → useB M r (plc a j) = true := by
 intro j hj
 by_cases hjk : j = k
 ·subst hjk; rw [e]; exact hu
 ·exact h j (by omega)
theorem bad_any (p : Nat) (M : MM) (N a n r : Int) (w : World) (h : HM p M N w) (hM : MOk M) (hr : r = 1 ∨ r = 2 ∨ r = 4) (a0 : 0 ≤ a) (a1 : a < 4294967296) (n1 : n < 9223372036854775808) :
  Calls Tryz.prog 111 #[.pointer (some ⟨p, 0, none⟩), .int .u32 a, .int .i64 n, .int .u8 r] w fun e w' => e = .returned (srV (srch M r a n.toNat)) ∧ w = w' := by
 have HH := κ h
 have HM' := κ hM
 have HR := κ hr
 have r0 : 0 ≤ r := by omega
 have r1 : r < 256 := by omega
 clear h hM hr
 go_enter Tryz.func111, Tryz.ntmps111
 go_wp2
 go_loopg [13] n.toNat (fun g i wr => ∃ k : Nat, g = n.toNat - k ∧ k ≤ n.toNat ∧ i = .int .i64 k ∧ Hid (∀ j, j < k → useB M r (plc a j) = true) ∧ w = wr)
 case atStart => exact ⟨0, rfl, Nat.zero_le _, rfl, fun j hj => absurd hj (by omega), rfl⟩
 case round =>
  obtain ⟨k, hg, hk, rfl, hA, rfl⟩ := hrel
  by_cases hlt : k < n.toNat
  ·have hlt' : (k : Int) < n := by omega
   have k0 : (0 : Int) ≤ (k : Int) := by omega
   have hx := plc_bd a k
   have ex : (a + (k : Int) % 4294967296) % 4294967296 = plc a k := by unfold plc; omega
   obtain ⟨x0, x1⟩ := hx
   have EX := κ ex
   obtain ⟨x, hxx⟩ : ∃ x, plc a k = x := ⟨_, rfl⟩
   rw [hxx] at x0 x1 ex
   have HX := κ hxx
   clear hxx EX
   by_cases hm : x < 65536
   ·have q0 : (x / 256).toNat < 256 := by omega
    have c2 := HH.out.2.1 (x / 256).toNat q0
    have hu := and_zero (M.rt (x / 256).toNat) r (HM'.out.2 _).1 (HM'.out.2 _).2 HR.out
    have hu2 : useB M r x = decide (M.rt (x / 256).toNat / r % 2 = 1) := by unfold useB; simp [hm]
    by_cases hd : M.rt (x / 256).toNat / r % 2 = 1
    ·have hu2' := κ (hu2.trans (decide_eq_true hd))
     rw [decide_eq_true hd] at hu
     generalize M.rt (x / 256).toNat = y at c2 hu
     clear hd hu2
     go_wp2
     go_roundg (n.toNat - (k + 1))
     case measure => omega
     case rel => exact ⟨k + 1, rfl, by omega, by simp, use_snoc hA HX hu2', rfl⟩
    ·have hu2' := κ (hu2.trans (decide_eq_false hd))
     rw [decide_eq_false hd] at hu
     generalize M.rt (x / 256).toNat = y at c2 hu
     clear hd hu2
     go_wp2
     go_ret2
     exact ⟨by rw [srch_some k hlt hA (by rw [HX.out]; exact hu2'.out), HX.out]; rfl, rfl⟩
   ·go_wp2
    go_ret2
    have hu2' : useB M r x = false := by unfold useB; rw [decide_eq_false (by omega)]; rfl
    exact ⟨by rw [srch_some k hlt hA (by rw [HX.out]; exact hu2'), HX.out]; rfl, rfl⟩
  ·have hge : ¬ (k : Int) < n := by omega
   go_wp2
   go_ret2
   obtain rfl : k = n.toNat := by omega
   exact ⟨by rw [srch_none hA]; rfl, rfl⟩
end Go.Proofs.YtcjcmnnhmajocabGreat.Me
