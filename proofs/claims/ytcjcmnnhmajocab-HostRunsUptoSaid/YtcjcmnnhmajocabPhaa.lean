/- mem.Memory.Load. -/
import Derived.WalkKit
import Derived.ProofKit
import Derived.Below
import Derived.ChangeSame
import Derived.Test.YtcjcmnnhmajocabProg
import Derived.Lib.Hide
import Derived.LoopTactic
import Derived.Deep.LoopGhost
import Derived.Deep.QuietTactic
import Derived.BigQuiet
import Derived.RegionTactic
import Derived.BigRegion
import Derived.Outline
import Derived.IntWalk
set_option linter.unusedVariables false
set_option linter.unusedSimpArgs false
set_option maxRecDepth 100000
set_option maxHeartbeats 16000000
theorem Go.Proofs.Ytcjcmnnhmajocab.κ {p : Prop} (h : p) : Go.RowKit.Hid p := h
namespace Go.Proofs.Ytcjcmnnhmajocab.Kt
open Go.RowKit Go.WideShapes Go.ChangeShapes
section
variable {H : Type} {enc : TypeId × Value → H} {P : Program}
end
theorem chain {w a b : World} (h : Below w.heap.size w a) (k : Below a.heap.size a b) : Below w.heap.size w b := h.trans (k.mono h.size)
theorem bd_u32 {n : Int} (h : (Lit.int .u32 n).wf = true) : 0 ≤ n ∧ n < 4294967296 := by
 have hmin : IntKind.u32.min = 0 := rfl
 have hmax : IntKind.u32.max = 4294967295 := rfl
 simp only [Lit.wf, Bool.and_eq_true, decide_eq_true_eq] at h
 omega
theorem bd_u8 {n : Int} (h : (Lit.int .u8 n).wf = true) : 0 ≤ n ∧ n < 256 := by
 have hmin : IntKind.u8.min = 0 := rfl
 have hmax : IntKind.u8.max = 255 := rfl
 simp only [Lit.wf, Bool.and_eq_true, decide_eq_true_eq] at h
 omega
theorem bd_i64 {n : Int} (h : (Lit.int .i64 n).wf = true) : -9223372036854775808 ≤ n ∧ n < 9223372036854775808 := by
 have hmin : IntKind.i64.min = -9223372036854775808 := rfl
 have hmax : IntKind.i64.max = 9223372036854775807 := rfl
 simp only [Lit.wf, Bool.and_eq_true, decide_eq_true_eq] at h
 omega
end Go.Proofs.Ytcjcmnnhmajocab.Kt
namespace Go.Proofs.Ytcjcmnnhmajocab.Me
open Go.RowKit Kt
/-- a memory, told plainly -/
structure MM where
 by_ : Nat → Int
 rt : Nat → Int
 wd : Nat → Bool
 hi : Nat → Bool
def upd {α : Type} (f : Nat → α) (k : Nat) (v : α) : Nat → α := fun j => if j = k then v else f j
/-- mem.Memory's block -/
def HM (p : Nat) (M : MM) (n : Int) (W : World) : Prop :=
 (∀ j, j < 65536 → W.cell? ⟨p, j, none⟩ = some (.int .u8 (M.by_ j))) ∧ (∀ j, j < 256 → W.cell? ⟨p, 65536 + j, none⟩ = some (.int .u8 (M.rt j))) ∧ (∀ j, j < 256 → W.cell? ⟨p, 65792 + j, none⟩ = some (.bool (M.wd j))) ∧
  (∀ j, j < 256 → W.cell? ⟨p, 66048 + j, none⟩ = some (.bool (M.hi j))) ∧ W.cell? ⟨p, 66304, none⟩ = some (.int .i64 n) ∧ (∀ i, W.frozen? ⟨p, i, none⟩ = false) ∧ p < W.heap.size
/-- nothing but block p has changed -/
def Only (p : Nat) (W W' : World) : Prop := W'.heap.size = W.heap.size ∧ (∀ b, b ≠ p → W'.heap[b]? = W.heap[b]?) ∧ ∀ B, B ≤ p → Below B W W'
theorem Only.refl (p : Nat) (W : World) : Only p W W := ⟨rfl, fun _ _ => rfl, fun B _ => Below.refl B W⟩
theorem Only.set {p : Nat} {W W' : World} (h : Only p W W') (j : Nat) (v : Value) : Only p W (W'.setCell ⟨p, j, none⟩ v) :=
 ⟨by rw [← h.1]; simp, fun b hb => (heap_setCell_other _ ⟨p, j, none⟩ b _ hb).trans (h.2.1 b hb), fun B hB => (h.2.2 B hB).setCell hB _⟩
theorem HM.cell_other {p : Nat} {W : World} {j i : Nat} {v : Value} (hne : i ≠ j) : (W.setCell ⟨p, j, none⟩ v).cell? ⟨p, i, none⟩ = W.cell? ⟨p, i, none⟩ :=
 World.cell?_setCell_other _ _ _ _ (by intro h; simp only [Addr.mk.injEq] at h; omega)
theorem HM.setHi {p : Nat} {M : MM} {n : Int} {W : World} (h : HM p M n W) (k : Nat) (hk : k < 256) (b : Bool) : HM p { M with hi := upd M.hi k b } n (W.setCell ⟨p, 66048 + k, none⟩ (.bool b)) := by
 obtain ⟨h1, h2, h3, h4, h5, h6, h7⟩ := h
 refine ⟨fun j hj => ?_, fun j hj => ?_, fun j hj => ?_, fun j hj => ?_, ?_, fun i => by simpa using h6 i, by simpa using h7⟩
 ·rw [HM.cell_other (by omega)]; exact h1 j hj
 ·rw [HM.cell_other (by omega)]; exact h2 j hj
 ·rw [HM.cell_other (by omega)]; exact h3 j hj
 ·by_cases hjk : j = k
  ·subst hjk
   rw [World.cell?_setCell_same _ _ _ (h4 j hj)]
   simp [upd]
  ·rw [HM.cell_other (by omega), h4 j hj]
   simp [upd, hjk]
 ·rw [HM.cell_other (by omega)]; exact h5
theorem HM.setN {p : Nat} {M : MM} {n : Int} {W : World} (h : HM p M n W) (n' : Int) : HM p M n' (W.setCell ⟨p, 66304, none⟩ (.int .i64 n')) := by
 obtain ⟨h1, h2, h3, h4, h5, h6, h7⟩ := h
 refine ⟨fun j hj => ?_, fun j hj => ?_, fun j hj => ?_, fun j hj => ?_, ?_, fun i => by simpa using h6 i, by simpa using h7⟩
 ·rw [HM.cell_other (by omega)]; exact h1 j hj
 ·rw [HM.cell_other (by omega)]; exact h2 j hj
 ·rw [HM.cell_other (by omega)]; exact h3 j hj
 ·rw [HM.cell_other (by omega)]; exact h4 j hj
 ·exact World.cell?_setCell_same _ _ _ h5
theorem isPage_any (k : Int) (w : World) : Calls Try.prog 103 #[.int .i64 k] w fun e w' => e = .returned (.bool (decide (0 ≤ k) && decide (k < 256))) ∧ w = w' := by
 by_cases h : 0 ≤ k
 ·go_enter Try.func103, Try.ntmps103
  go_wp2
  go_ret
  exact ⟨by simp [h], rfl⟩
 ·go_enter Try.func103, Try.ntmps103
  go_wp2
  go_ret
  exact ⟨by simp; omega, rfl⟩
theorem page_any (k : Int) (w : World) : Calls Try.prog 104 #[.int .i64 k] w fun e w' => e = .returned (.bool (decide (0 ≤ k) && decide (k < 256))) ∧ w = w' := by
 by_cases h : 0 ≤ k
 ·go_enter Try.func104, Try.ntmps104
  go_wp2
  go_ret
  exact ⟨by simp [h], rfl⟩
 ·go_enter Try.func104, Try.ntmps104
  go_wp2
  go_ret
  exact ⟨by simp; omega, rfl⟩
/-- a page is changed -/
def chg (M : MM) (k : Nat) : MM := if M.wd k && !M.hi k then { M with hi := upd M.hi k true } else M
def chgN (M : MM) (n : Int) (k : Nat) : Int := if M.wd k && !M.hi k then n + 1 else n
theorem change_any (p : Nat) (M : MM) (n : Int) (k : Nat) (w : World) (h : HM p M n w) (hk : k < 256) (n0 : 0 ≤ n) (n1 : n ≤ 256) :
  Calls Try.prog 101 #[.pointer (some ⟨p, 0, none⟩), .int .i64 (k : Int)] w fun e w' => e = .returned (.tuple #[]) ∧ HM p (chg M k) (chgN M n k) w' ∧ Only p w w' := by
 have c3 := h.2.2.1 k hk
 have c4 := h.2.2.2.1 k hk
 have c5 := h.2.2.2.2.1
 have z4 := h.2.2.2.2.2.1 (66048 + k)
 have z5 := h.2.2.2.2.2.1 66304
 have HH := κ h
 clear h
 have k0 : (0 : Int) ≤ (k : Int) := by omega
 have k1 : (k : Int) < 256 := by omega
 unfold chg chgN
 generalize hm : M.wd k = bm at c3 ⊢
 generalize hh : M.hi k = bh at c4 ⊢
 clear hm hh
 cases bm
 ·go_enter Try.func101, Try.ntmps101
  go_wp2
  go_end0
  exact ⟨rfl, HH.out, Only.refl _ _⟩
 ·cases bh
  ·go_enter Try.func101, Try.ntmps101
   go_wp2
   go_end0
   exact ⟨rfl, (HH.out.setHi k hk true).setN (n + 1), ((Only.refl _ _).set _ _).set _ _⟩
  ·go_enter Try.func101, Try.ntmps101
   go_wp2
   go_end0
   exact ⟨rfl, HH.out, Only.refl _ _⟩
end Go.Proofs.Ytcjcmnnhmajocab.Me
namespace Go.Proofs.Ytcjcmnnhmajocab.Me
open Go.RowKit Kt
theorem HM.setRt {p : Nat} {M : MM} {n : Int} {W : World} (h : HM p M n W) (k : Nat) (hk : k < 256) (x : Int) : HM p { M with rt := upd M.rt k x } n (W.setCell ⟨p, 65536 + k, none⟩ (.int .u8 x)) := by
 obtain ⟨h1, h2, h3, h4, h5, h6, h7⟩ := h
 refine ⟨fun j hj => ?_, fun j hj => ?_, fun j hj => ?_, fun j hj => ?_, ?_, fun i => by simpa using h6 i, by simpa using h7⟩
 ·rw [HM.cell_other (by omega)]; exact h1 j hj
 ·by_cases hjk : j = k
  ·subst hjk
   rw [World.cell?_setCell_same _ _ _ (h2 j hj)]
   simp [upd]
  ·rw [HM.cell_other (by omega), h2 j hj]
   simp [upd, hjk]
 ·rw [HM.cell_other (by omega)]; exact h3 j hj
 ·rw [HM.cell_other (by omega)]; exact h4 j hj
 ·rw [HM.cell_other (by omega)]; exact h5
theorem HM.setWd {p : Nat} {M : MM} {n : Int} {W : World} (h : HM p M n W) (k : Nat) (hk : k < 256) (b : Bool) : HM p { M with wd := upd M.wd k b } n (W.setCell ⟨p, 65792 + k, none⟩ (.bool b)) := by
 obtain ⟨h1, h2, h3, h4, h5, h6, h7⟩ := h
 refine ⟨fun j hj => ?_, fun j hj => ?_, fun j hj => ?_, fun j hj => ?_, ?_, fun i => by simpa using h6 i, by simpa using h7⟩
 ·rw [HM.cell_other (by omega)]; exact h1 j hj
 ·rw [HM.cell_other (by omega)]; exact h2 j hj
 ·by_cases hjk : j = k
  ·subst hjk
   rw [World.cell?_setCell_same _ _ _ (h3 j hj)]
   simp [upd]
  ·rw [HM.cell_other (by omega), h3 j hj]
   simp [upd, hjk]
 ·rw [HM.cell_other (by omega)]; exact h4 j hj
 ·rw [HM.cell_other (by omega)]; exact h5
theorem Only.trans {p : Nat} {a b c : World} (h : Only p a b) (k : Only p b c) : Only p a c :=
 ⟨k.1.trans h.1, fun g hg => (k.2.1 g hg).trans (h.2.1 g hg), fun B hB => (h.2.2 B hB).trans (k.2.2 B hB)⟩
/-- rights of a page -/
def prt (M : MM) (k : Nat) (x : Int) : MM := { (if M.rt k = x then M else chg M k) with rt := upd M.rt k x }
def prtN (M : MM) (n : Int) (k : Nat) (x : Int) : Int := if M.rt k = x then n else chgN M n k
theorem protect_bad (p : Nat) (M : MM) (n k x : Int) (w : World) (h : HM p M n w) (hb : k < 0 ∨ 256 ≤ k ∨ x < 0 ∨ 7 < x) :
  Calls Try.prog 58 #[.pointer (some ⟨p, 0, none⟩), .int .i64 k, .int .i64 x] w fun e w' => e = .returned (.int .i64 4) ∧ w = w' := by
 have HP := κ (isPage_any k)
 have hp : k < 0 ∨ 256 ≤ k ∨ (0 ≤ k ∧ k < 256 ∧ (x < 0 ∨ 7 < x)) := by omega
 clear h hb
 rcases hp with hp | hp | ⟨p0, p1, hx | hx⟩
 ·have e : (decide (0 ≤ k) && decide (k < 256)) = false := by simp; omega
  rw [e] at HP
  go_enter Try.func58, Try.ntmps58
  go_wp2_with (go_at_call 103; refine (HP.out _).mono ?_; rintro e w' ⟨rfl, rfl⟩)
  go_ret
  exact ⟨rfl, rfl⟩
 ·have e : (decide (0 ≤ k) && decide (k < 256)) = false := by simp; omega
  rw [e] at HP
  go_enter Try.func58, Try.ntmps58
  go_wp2_with (go_at_call 103; refine (HP.out _).mono ?_; rintro e w' ⟨rfl, rfl⟩)
  go_ret
  exact ⟨rfl, rfl⟩
 ·have e : (decide (0 ≤ k) && decide (k < 256)) = true := by simp; omega
  rw [e] at HP
  go_enter Try.func58, Try.ntmps58
  go_wp2_with (go_at_call 103; refine (HP.out _).mono ?_; rintro e w' ⟨rfl, rfl⟩)
  go_ret
  exact ⟨rfl, rfl⟩
 ·have e : (decide (0 ≤ k) && decide (k < 256)) = true := by simp; omega
  rw [e] at HP
  have x0 : ¬ x < 0 := by omega
  go_enter Try.func58, Try.ntmps58
  go_wp2_with (go_at_call 103; refine (HP.out _).mono ?_; rintro e w' ⟨rfl, rfl⟩)
  go_ret
  exact ⟨rfl, rfl⟩
theorem chg_rt (M : MM) (k : Nat) : (chg M k).rt = M.rt := by unfold chg; split <;> rfl
theorem protect_ok (p : Nat) (M : MM) (n : Int) (k : Nat) (x : Int) (w : World) (h : HM p M n w) (hk : k < 256) (x0 : 0 ≤ x) (x7 : x ≤ 7) (n0 : 0 ≤ n) (n1 : n ≤ 256) :
  Calls Try.prog 58 #[.pointer (some ⟨p, 0, none⟩), .int .i64 (k : Int), .int .i64 x] w fun e w' => e = .returned (.int .i64 0) ∧ HM p (prt M k x) (prtN M n k x) w' ∧ Only p w w' := by
 have HP := κ (isPage_any (k : Int))
 have k0 : (0 : Int) ≤ (k : Int) := by omega
 have k1 : (k : Int) < 256 := by omega
 have e : (decide (0 ≤ (k : Int)) && decide ((k : Int) < 256)) = true := by simp; omega
 rw [e] at HP
 have c2 := h.2.1 k hk
 have z2 := h.2.2.2.2.2.1 (65536 + k)
 have HH := κ h
 have xa : ¬ x < 0 := by omega
 have xb : ¬ 7 < x := by omega
 unfold prt prtN
 by_cases hr : M.rt k = x
 ·rw [if_pos hr, if_pos hr]
  rw [hr] at c2
  clear h hr
  go_enter Try.func58, Try.ntmps58
  go_wp2_with (go_at_call 103; refine (HP.out _).mono ?_; rintro e w' ⟨rfl, rfl⟩)
  go_ret
  exact ⟨rfl, HH.out.setRt k hk x, (Only.refl _ _).set _ _⟩
 ·rw [if_neg hr, if_neg hr]
  have hrb : (M.rt k == x) = false := by rw [beq_eq_false_iff_ne]; exact hr
  have HC := κ (fun w (h : HM p M n w) => change_any p M n k w h hk n0 n1)
  generalize M.rt k = r at c2 hrb
  clear h hr
  go_enter Try.func58, Try.ntmps58
  go_wp2_with (first
   | (go_at_call 103; refine (HP.out _).mono ?_; rintro e w' ⟨rfl, rfl⟩)
   | (go_at_call 101; refine (HC.out _ HH.out).mono ?_; rintro e w1 ⟨rfl, h1, o1⟩; have d2 := h1.2.1 k hk; have y2 := h1.2.2.2.2.2.1 (65536 + k)))
  go_ret
  have h9 := h1.setRt k hk x
  rw [chg_rt] at h9
  exact ⟨rfl, h9, o1.set _ _⟩
end Go.Proofs.Ytcjcmnnhmajocab.Me
namespace Go.Proofs.Ytcjcmnnhmajocab.Me
open Go.RowKit Kt
/-- of the old blocks none outside S has changed -/
structure Upto (S : Nat → Prop) (w w' : World) : Prop where
 os : w'.os = w.os
 tape : w'.tape = w.tape
 output : w'.output = w.output
 size : w.heap.size ≤ w'.heap.size
 block : ∀ k, k < w.heap.size → ¬ S k → w'.heap[k]? = w.heap[k]?
theorem Upto.refl (S : Nat → Prop) (w : World) : Upto S w w := ⟨rfl, rfl, rfl, Nat.le_refl _, fun _ _ _ => rfl⟩
theorem Upto.trans {S : Nat → Prop} {a b c : World} (h : Upto S a b) (k : Upto S b c) : Upto S a c :=
 ⟨k.os.trans h.os, k.tape.trans h.tape, k.output.trans h.output, Nat.le_trans h.size k.size, fun i hi hs => (k.block i (Nat.lt_of_lt_of_le hi h.size) hs).trans (h.block i hi hs)⟩
theorem Upto.mono {S T : Nat → Prop} {a b : World} (h : Upto S a b) (hst : ∀ k, k < a.heap.size → S k → T k) : Upto T a b :=
 ⟨h.os, h.tape, h.output, h.size, fun i hi hs => h.block i hi (fun hx => hs (hst i hi hx))⟩
theorem Upto.drew {S : Nat → Prop} {a w : World} (h : Upto S a w) : Upto S a w.drew := ⟨h.os, h.tape, h.output, h.size, h.block⟩
theorem Upto.alloc {S : Nat → Prop} {a w : World} (h : Upto S a w) (o : Obj) : Upto S a (w.alloc o) :=
 h.trans ⟨rfl, rfl, rfl, by simp, fun k hk _ => Below.heap_alloc _ _ _ hk⟩
theorem Upto.setCell {S : Nat → Prop} {a w : World} (h : Upto S a w) {q : Addr} (hq : S q.block ∨ a.heap.size ≤ q.block) (u : Value) : Upto S a (w.setCell q u) :=
 ⟨h.os, h.tape, h.output, by simpa [World.setCell] using h.size, fun k hk hs => (Below.heap_setCell _ _ _ _ (by rintro rfl; rcases hq with hq | hq; exact hs hq; omega)).trans (h.block k hk hs)⟩
theorem Upto.cell {S : Nat → Prop} {w w' : World} (h : Upto S w w') {q : Addr} (hq : q.block < w.heap.size) (hs : ¬ S q.block) : w'.cell? q = w.cell? q := World.cell?_of_block (w := w) (h.block _ hq hs)
theorem Upto.frozen {S : Nat → Prop} {w w' : World} (h : Upto S w w') {q : Addr} (hq : q.block < w.heap.size) (hs : ¬ S q.block) : w'.frozen? q = w.frozen? q := World.frozen?_of_block (w := w) (h.block _ hq hs)
theorem Upto.below {S : Nat → Prop} {w w' : World} (h : Upto S w w') {B : Nat} (hB : B ≤ w.heap.size) (hs : ∀ k, k < B → ¬ S k) : Below B w w' := ⟨h.os, h.tape, h.output, h.size, fun k hk => h.block k (by omega) (hs k hk)⟩
theorem Upto.of_below {S : Nat → Prop} {w w' : World} (h : Below w.heap.size w w') : Upto S w w' := ⟨h.os, h.tape, h.output, h.size, fun k hk _ => h.block k hk⟩
theorem Upto.drop {B : Nat} {S : Nat → Prop} {w a b : World} (h : Upto S w a) (k : Upto (fun i => B ≤ i) a b) (hB : w.heap.size ≤ B) : Upto S w b :=
 ⟨k.os.trans h.os, k.tape.trans h.tape, k.output.trans h.output, Nat.le_trans h.size k.size, fun i hi hs => (k.block i (Nat.lt_of_lt_of_le hi h.size) (by omega)).trans (h.block i hi hs)⟩
theorem Upto.of_only {p : Nat} {w w' : World} (h : Only p w w') : Upto (fun k => k = p) w w' :=
 have b := h.2.2 0 (Nat.zero_le _)
 ⟨b.os, b.tape, b.output, by rw [h.1]; exact Nat.le_refl _, fun k _ hs => h.2.1 k hs⟩
theorem HM.upto {p : Nat} {M : MM} {n : Int} {S : Nat → Prop} {w w' : World} (h : HM p M n w) (u : Upto S w w') (hs : ¬ S p) : HM p M n w' := by
 obtain ⟨h1, h2, h3, h4, h5, h6, h7⟩ := h
 have e : ∀ i, w'.cell? ⟨p, i, none⟩ = w.cell? ⟨p, i, none⟩ := fun i => u.cell h7 hs
 refine ⟨fun j hj => ?_, fun j hj => ?_, fun j hj => ?_, fun j hj => ?_, ?_, fun i => ?_, Nat.lt_of_lt_of_le h7 u.size⟩
 ·rw [e]; exact h1 j hj
 ·rw [e]; exact h2 j hj
 ·rw [e]; exact h3 j hj
 ·rw [e]; exact h4 j hj
 ·rw [e]; exact h5
 ·exact (u.frozen (q := ⟨p, i, none⟩) h7 hs).trans (h6 i)
/-- may a byte be used so (r: 1, 2, 4)? -/
def useB (M : MM) (r x : Int) : Bool := decide (x < 65536) && decide (M.rt (x / 256).toNat / r % 2 = 1)
def plc (a : Int) (k : Nat) : Int := (a + k) % 4294967296
/-- the first of n bytes that may not -/
def srch (M : MM) (r a : Int) (n : Nat) : Option Int := ((List.range n).map (plc a)).find? fun x => !useB M r x
theorem srch_none {M : MM} {r a : Int} {n : Nat} (h : ∀ k, k < n → useB M r (plc a k) = true) : srch M r a n = none := by
 unfold srch
 rw [List.find?_eq_none]
 intro x hx
 obtain ⟨k, hk, rfl⟩ := List.mem_map.1 hx
 rw [List.mem_range] at hk
 simp [h k hk]
theorem srch_succ (M : MM) (r a : Int) (n : Nat) : srch M r a (n + 1) = (srch M r a n).or (if useB M r (plc a n) then none else some (plc a n)) := by
 unfold srch
 rw [List.range_succ, List.map_append, List.find?_append]
 congr 1
 simp only [List.map_cons, List.map_nil, List.find?_cons, List.find?_nil]
 cases useB M r (plc a n) <;> rfl
theorem srch_some {M : MM} {r a : Int} {n : Nat} (k : Nat) (hk : k < n) (h : ∀ j, j < k → useB M r (plc a j) = true) (hb : useB M r (plc a k) = false) : srch M r a n = some (plc a k) := by
 induction n with
 | zero => omega
 | succ n ih =>
  rw [srch_succ]
  by_cases hkn : k = n
  ·subst hkn
   rw [srch_none h, hb]; rfl
  ·rw [ih (by omega)]; rfl
theorem srch_all {M : MM} {r a : Int} {n : Nat} (h : srch M r a n = none) (k : Nat) (hk : k < n) : useB M r (plc a k) = true := by
 unfold srch at h
 rw [List.find?_eq_none] at h
 have := h (plc a k) (List.mem_map.2 ⟨k, List.mem_range.2 hk, rfl⟩)
 simpa using this
theorem plc_bd (a : Int) (k : Nat) : 0 ≤ plc a k ∧ plc a k < 4294967296 := by unfold plc; omega
/-- numbers within their bounds -/
def MOk (M : MM) : Prop := (∀ j, 0 ≤ M.by_ j ∧ M.by_ j < 256) ∧ (∀ j, 0 ≤ M.rt j ∧ M.rt j < 8)
/-- what 'rights and right' is, against 'rights over right, modulo 2' -/
theorem and_zero (x r : Int) (h0 : 0 ≤ x) (h8 : x < 8) (hr : r = 1 ∨ r = 2 ∨ r = 4) : ((bits .and .u8 x r : Int) == 0) = !decide (x / r % 2 = 1) := by
 have hx : x = 0 ∨ x = 1 ∨ x = 2 ∨ x = 3 ∨ x = 4 ∨ x = 5 ∨ x = 6 ∨ x = 7 := by omega
 rcases hr with rfl | rfl | rfl <;> rcases hx with rfl | rfl | rfl | rfl | rfl | rfl | rfl | rfl <;> decide
def srV (o : Option Int) : Value := match o with
 | none => .tuple #[.int .u32 0, .bool false]
 | some x => .tuple #[.int .u32 x, .bool true]
end Go.Proofs.Ytcjcmnnhmajocab.Me
namespace Go.Proofs.Ytcjcmnnhmajocab.Me
open Go.RowKit Kt
/-- a page is watched, or not -/
def mrk (M : MM) (k : Nat) (b : Bool) : MM := { (if b = false ∧ M.hi k = true then { M with hi := upd M.hi k false } else M) with wd := upd M.wd k b }
def mrkN (M : MM) (n : Int) (k : Nat) (b : Bool) : Int := if b = false ∧ M.hi k = true then n - 1 else n
theorem mark_bad (p : Nat) (k : Int) (b : Bool) (w : World) (hb : k < 0 ∨ 256 ≤ k) :
  Calls Try.prog 60 #[.pointer (some ⟨p, 0, none⟩), .int .i64 k, .bool b] w fun e w' => e = .returned (.int .i64 4) ∧ w = w' := by
 have HP := κ (isPage_any k)
 have e : (decide (0 ≤ k) && decide (k < 256)) = false := by simp; omega
 rw [e] at HP
 clear hb
 go_enter Try.func60, Try.ntmps60
 go_wp2_with (go_at_call 103; refine (HP.out _).mono ?_; rintro e w' ⟨rfl, rfl⟩)
 go_ret
 exact ⟨rfl, rfl⟩
theorem mark_ok (p : Nat) (M : MM) (n : Int) (k : Nat) (b : Bool) (w : World) (h : HM p M n w) (hk : k < 256) (n0 : 0 ≤ n) (n1 : n ≤ 256) :
  Calls Try.prog 60 #[.pointer (some ⟨p, 0, none⟩), .int .i64 (k : Int), .bool b] w fun e w' => e = .returned (.int .i64 0) ∧ HM p (mrk M k b) (mrkN M n k b) w' ∧ Only p w w' := by
 have HP := κ (isPage_any (k : Int))
 have k0 : (0 : Int) ≤ (k : Int) := by omega
 have k1 : (k : Int) < 256 := by omega
 have e : (decide (0 ≤ (k : Int)) && decide ((k : Int) < 256)) = true := by simp; omega
 rw [e] at HP
 have c3 := h.2.2.1 k hk
 have c4 := h.2.2.2.1 k hk
 have c5 := h.2.2.2.2.1
 have z3 := h.2.2.2.2.2.1 (65792 + k)
 have z4 := h.2.2.2.2.2.1 (66048 + k)
 have z5 := h.2.2.2.2.2.1 66304
 have HH := κ h
 have hne : 66048 + k ≠ 65792 + k := by omega
 clear h
 unfold mrk mrkN
 obtain ⟨bh, hh⟩ : ∃ bh, M.hi k = bh := ⟨_, rfl⟩
 rw [hh] at c4 ⊢
 clear hh
 cases b <;> cases bh
 all_goals go_enter Try.func60, Try.ntmps60
 all_goals go_wp2_with (go_at_call 103; refine (HP.out _).mono ?_; rintro e w' ⟨rfl, rfl⟩)
 all_goals go_ret
 all_goals first
  | exact ⟨rfl, HH.out.setWd k hk false, (Only.refl _ _).set _ _⟩
  | exact ⟨rfl, ((HH.out.setWd k hk false).setHi k hk false).setN (n - 1), (((Only.refl _ _).set _ _).set _ _).set _ _⟩
  | exact ⟨rfl, HH.out.setWd k hk true, (Only.refl _ _).set _ _⟩
end Go.Proofs.Ytcjcmnnhmajocab.Me
namespace Go.Proofs.Ytcjcmnnhmajocab.Me
open Go.RowKit Kt
def cntN (f : Nat → Bool) : Nat → Nat
 | 0 => 0
 | n + 1 => cntN f n + if f n = true then 1 else 0
theorem cntN_le (f : Nat → Bool) (n : Nat) : cntN f n ≤ n := by
 induction n with
 | zero => exact Nat.le_refl _
 | succ n ih => simp only [cntN]; split <;> omega
theorem cntN_far (f : Nat → Bool) (k : Nat) (v : Bool) (n : Nat) (h : n ≤ k) : cntN (upd f k v) n = cntN f n := by
 induction n with
 | zero => rfl
 | succ n ih =>
  simp only [cntN, ih (by omega)]
  rw [show upd f k v n = f n from by unfold upd; rw [if_neg (by omega)]]
theorem cntN_up (f : Nat → Bool) (k n : Nat) (hk : k < n) (hf : f k = false) : cntN (upd f k true) n = cntN f n + 1 := by
 induction n with
 | zero => omega
 | succ n ih =>
  simp only [cntN]
  by_cases hkn : k = n
  ·subst hkn
   rw [cntN_far f k true k (Nat.le_refl _), hf]
   simp [upd]
  ·rw [ih (by omega), show upd f k true n = f n from by unfold upd; rw [if_neg (by omega)]]
   omega
theorem cntN_down (f : Nat → Bool) (k n : Nat) (hk : k < n) (hf : f k = true) : cntN f n = cntN (upd f k false) n + 1 := by
 have h : cntN (upd (upd f k false) k true) n = cntN (upd f k false) n + 1 := cntN_up _ k n hk (by simp [upd])
 rw [← h]
 congr 1
 funext j
 unfold upd
 split
 ·next e => subst e; exact hf
 ·rfl
theorem cntN_pos (f : Nat → Bool) (n : Nat) : 0 < cntN f n ↔ ∃ k, k < n ∧ f k = true := by
 induction n with
 | zero => simp [cntN]
 | succ n ih =>
  simp only [cntN]
  constructor
  ·intro h
   by_cases hf : f n = true
   ·exact ⟨n, by omega, hf⟩
   ·rw [if_neg hf] at h
    obtain ⟨k, hk, hfk⟩ := ih.1 (by omega)
    exact ⟨k, by omega, hfk⟩
  ·rintro ⟨k, hk, hfk⟩
   by_cases hkn : k = n
   ·subst hkn; rw [if_pos hfk]; omega
   ·have := ih.2 ⟨k, by omega, hfk⟩
    omega
/-- how many pages are told -/
def cnt (f : Nat → Bool) : Int := (cntN f 256 : Nat)
theorem cnt_bd (f : Nat → Bool) : 0 ≤ cnt f ∧ cnt f ≤ 256 := by
 have := cntN_le f 256
 unfold cnt; omega
theorem cnt_up {f : Nat → Bool} {k : Nat} (hk : k < 256) (hf : f k = false) : cnt (upd f k true) = cnt f + 1 := by
 unfold cnt; rw [cntN_up f k 256 hk hf]; omega
theorem cnt_down {f : Nat → Bool} {k : Nat} (hk : k < 256) (hf : f k = true) : cnt (upd f k false) = cnt f - 1 := by
 unfold cnt; rw [cntN_down f k 256 hk hf]; omega
def anyT (f : Nat → Bool) : Bool := decide (0 < cntN f 256)
theorem cnt_pos (f : Nat → Bool) : decide (0 < cnt f) = anyT f := by
 unfold cnt anyT
 by_cases h : 0 < cntN f 256
 ·rw [decide_eq_true h, decide_eq_true (by omega)]
 ·rw [decide_eq_false h, decide_eq_false (by omega)]
theorem anyT_iff (f : Nat → Bool) : anyT f = true ↔ ∃ k, k < 256 ∧ f k = true := by
 unfold anyT; rw [decide_eq_true_iff]; exact cntN_pos f 256
/-- mem.Memory: M, its count with it -/
def HC (p : Nat) (M : MM) (W : World) : Prop := HM p M (cnt M.hi) W
theorem HC.upto {p : Nat} {M : MM} {S : Nat → Prop} {w w' : World} (h : HC p M w) (u : Upto S w w') (hs : ¬ S p) : HC p M w' := HM.upto h u hs
theorem chg_cnt (M : MM) (k : Nat) (hk : k < 256) : chgN M (cnt M.hi) k = cnt (chg M k).hi := by
 unfold chgN chg
 split
 ·next h => simp only [Bool.and_eq_true, Bool.not_eq_true'] at h; rw [cnt_up hk h.2]
 ·rfl
theorem prt_cnt (M : MM) (k : Nat) (x : Int) (hk : k < 256) : prtN M (cnt M.hi) k x = cnt (prt M k x).hi := by
 unfold prtN prt
 split
 ·rfl
 ·exact chg_cnt M k hk
theorem mrk_cnt (M : MM) (k : Nat) (b : Bool) (hk : k < 256) : mrkN M (cnt M.hi) k b = cnt (mrk M k b).hi := by
 unfold mrkN mrk
 split
 ·next h => rw [cnt_down hk h.2]
 ·rfl
theorem chg_same (M : MM) (k : Nat) : (chg M k).by_ = M.by_ ∧ (chg M k).rt = M.rt ∧ (chg M k).wd = M.wd := by unfold chg; split <;> exact ⟨rfl, rfl, rfl⟩
/-- bytes are written, page after page is changed -/
def pk (M : MM) : Nat → List Int → MM
 | _, [] => M
 | at_, b :: bs => pk (chg { M with by_ := upd M.by_ at_ b } (at_ / 256)) (at_ + 1) bs
/-- what is loaded -/
def byt (M : MM) (a : Int) (k : Nat) : Int := M.by_ (a.toNat + k)
def ldv (M : MM) (a n : Int) : Int :=
 if (srch M 1 a n.toNat).isNone then
  if n = 1 then byt M a 0 else if n = 2 then byt M a 0 + byt M a 1 * 256 else if n = 4 then byt M a 0 + byt M a 1 * 256 + byt M a 2 * 65536 + byt M a 3 * 16777216 else 0
 else 0
def stpV (kind : Int) (o : Option Int) : Value := match o with
 | none => .agg #[.int .i64 0, .int .u32 0]
 | some x => .agg #[.int .i64 kind, .int .u32 x]
/-- the bytes of a number -/
def bts (n v : Int) : List Int := if n = 1 then [v % 256] else if n = 2 then [v % 256, v / 256 % 256] else if n = 4 then [v % 256, v / 256 % 256, v / 65536 % 256, v / 16777216] else []
/-- what is stored, and the stop -/
def stm (M : MM) (a n v : Int) : MM := if n = 1 ∨ n = 2 ∨ n = 4 then (if (srch M 2 a n.toNat).isNone then pk M a.toNat (bts n v) else M) else M
def sto (M : MM) (a n : Int) : Option Int := if n = 1 ∨ n = 2 ∨ n = 4 then srch M 2 a n.toNat else none
theorem plc_in {M : MM} {r a : Int} {n : Nat} (a0 : 0 ≤ a) (a1 : a < 4294967296) (h : srch M r a n = none) (k : Nat) (hk : k < n) (hn : n < 65537) : plc a k = a + k ∧ a + k < 65536 := by
 have h0 := srch_all h 0 (by omega)
 have hk' := srch_all h k hk
 unfold useB at h0 hk'
 simp only [Bool.and_eq_true, decide_eq_true_eq] at h0 hk'
 have e0 : plc a 0 = a := by unfold plc; omega
 rw [e0] at h0
 have := hk'.1
 unfold plc at this ⊢
 omega
theorem ldv_bd {M : MM} (hM : MOk M) (a n : Int) : 0 ≤ ldv M a n ∧ ldv M a n < 4294967296 := by
 have b0 := hM.1 (a.toNat + 0)
 have b1 := hM.1 (a.toNat + 1)
 have b2 := hM.1 (a.toNat + 2)
 have b3 := hM.1 (a.toNat + 3)
 unfold ldv byt
 split
 ·split
  ·omega
  ·split
   ·omega
   ·split
    ·omega
    ·omega
 ·omega
theorem cntN_no (n : Nat) : cntN (fun _ => false) n = 0 := by
 induction n with
 | zero => rfl
 | succ n ih => simp [cntN, ih]
theorem cnt_no : cnt (fun _ => false) = 0 := by unfold cnt; rw [cntN_no]; rfl
def mkE (k : Int) : Int := if 0 ≤ k ∧ k < 256 then 0 else 4
def mkM (M : MM) (k : Int) (b : Bool) : MM := if 0 ≤ k ∧ k < 256 then mrk M k.toNat b else M
theorem mark_any (p : Nat) (M : MM) (k : Int) (b : Bool) (w : World) (h : HC p M w) :
  Calls Try.prog 60 #[.pointer (some ⟨p, 0, none⟩), .int .i64 k, .bool b] w fun e w' => e = .returned (.int .i64 (mkE k)) ∧ HC p (mkM M k b) w' ∧ Upto (fun i => i = p) w w' := by
 unfold mkE mkM
 by_cases hk : 0 ≤ k ∧ k < 256
 ·rw [if_pos hk, if_pos hk]
  obtain ⟨k0, k1⟩ := hk
  obtain ⟨c, rfl⟩ := Int.eq_ofNat_of_zero_le k0
  refine (mark_ok p M (cnt M.hi) c b w h (by omega) (cnt_bd _).1 (cnt_bd _).2).mono ?_
  rintro e w' ⟨rfl, h1, o1⟩
  refine ⟨rfl, ?_, Upto.of_only o1⟩
  rw [Int.toNat_natCast]
  unfold HC
  rw [← mrk_cnt M c b (by omega)]
  exact h1
 ·rw [if_neg hk, if_neg hk]
  refine (mark_bad p k b w (by omega)).mono ?_
  rintro e w' ⟨rfl, rfl⟩
  exact ⟨rfl, h, Upto.refl _ _⟩
theorem i64_info : ∃ i, Try.prog.info? 3 = some i ∧ i.zero = some (.int .i64 0) ∧ i.size = 1 ∧ i.bytes = 8 := by
 have h : (Try.prog.info? 3).map (fun i => (i.zero, i.size, i.bytes)) = some (some (.int .i64 0), 1, 8) := by kernel_rfl
 obtain ⟨i, hi, hz⟩ := Option.map_eq_some_iff.1 h
 simp only [Prod.mk.injEq] at hz
 exact ⟨i, hi, hz.1, hz.2.1, hz.2.2⟩
/-- nothing is told any longer -/
def clr (M : MM) : MM := { M with hi := fun _ => false }
end Go.Proofs.Ytcjcmnnhmajocab.Me
namespace Go.Proofs.Ytcjcmnnhmajocab.Me
open Go.RowKit Kt
theorem use_snoc {M : MM} {r a x : Int} {k : Nat} (h : ∀ j, j < k → useB M r (plc a j) = true) (e : plc a k = x) (hu : useB M r x = true) : ∀ j, j < k + 1 → useB M r (plc a j) = true := by
 intro j hj
 by_cases hjk : j = k
 ·subst hjk; rw [e]; exact hu
 ·exact h j (by omega)
theorem bad_any (p : Nat) (M : MM) (N a n r : Int) (w : World) (h : HM p M N w) (hM : MOk M) (hr : r = 1 ∨ r = 2 ∨ r = 4) (a0 : 0 ≤ a) (a1 : a < 4294967296) (n1 : n < 9223372036854775808) :
  Calls Try.prog 177 #[.pointer (some ⟨p, 0, none⟩), .int .u32 a, .int .i64 n, .int .u8 r] w fun e w' => e = .returned (srV (srch M r a n.toNat)) ∧ w = w' := by
 have HH := κ h
 have HM' := κ hM
 have HR := κ hr
 have r0 : 0 ≤ r := by omega
 have r1 : r < 256 := by omega
 clear h hM hr
 go_enter Try.func177, Try.ntmps177
 go_wp2
 go_loopg [13] n.toNat (fun g i wr => ∃ k : Nat, g = n.toNat - k ∧ k ≤ n.toNat ∧ i = .int .i64 k ∧ Hid (∀ j, j < k → useB M r (plc a j) = true) ∧ w = wr)
 case atStart => exact ⟨0, rfl, Nat.zero_le _, rfl, fun j hj => absurd hj (by omega), rfl⟩
 case round =>
  obtain ⟨k, hg, hk, rfl, hA, rfl⟩ := hrel
  by_cases hlt : k < n.toNat
  ·have hlt' : (k : Int) < n := by omega
   have k0 : (0 : Int) ≤ (k : Int) := by omega
   have hx := plc_bd a k
   have ex : (a + (k : Int) % 4294967296) % 4294967296 = plc a k := by unfold plc; omega
   obtain ⟨x0, x1⟩ := hx
   have EX := κ ex
   obtain ⟨x, hxx⟩ : ∃ x, plc a k = x := ⟨_, rfl⟩
   rw [hxx] at x0 x1 ex
   have HX := κ hxx
   clear hxx EX
   by_cases hm : x < 65536
   ·have q0 : (x / 256).toNat < 256 := by omega
    have c2 := HH.out.2.1 (x / 256).toNat q0
    have hu := and_zero (M.rt (x / 256).toNat) r (HM'.out.2 _).1 (HM'.out.2 _).2 HR.out
    have hu2 : useB M r x = decide (M.rt (x / 256).toNat / r % 2 = 1) := by unfold useB; simp [hm]
    by_cases hd : M.rt (x / 256).toNat / r % 2 = 1
    ·have hu2' := κ (hu2.trans (decide_eq_true hd))
     rw [decide_eq_true hd] at hu
     generalize M.rt (x / 256).toNat = y at c2 hu
     clear hd hu2
     go_wp2
     go_roundg (n.toNat - (k + 1))
     case measure => omega
     case rel => exact ⟨k + 1, rfl, by omega, by simp, use_snoc hA HX hu2', rfl⟩
    ·have hu2' := κ (hu2.trans (decide_eq_false hd))
     rw [decide_eq_false hd] at hu
     generalize M.rt (x / 256).toNat = y at c2 hu
     clear hd hu2
     go_wp2
     go_ret2
     exact ⟨by rw [srch_some k hlt hA (by rw [HX.out]; exact hu2'.out), HX.out]; rfl, rfl⟩
   ·go_wp2
    go_ret2
    have hu2' : useB M r x = false := by unfold useB; rw [decide_eq_false (by omega)]; rfl
    exact ⟨by rw [srch_some k hlt hA (by rw [HX.out]; exact hu2'), HX.out]; rfl, rfl⟩
  ·have hge : ¬ (k : Int) < n := by omega
   go_wp2
   go_ret2
   obtain rfl : k = n.toNat := by omega
   exact ⟨by rw [srch_none hA]; rfl, rfl⟩
end Go.Proofs.Ytcjcmnnhmajocab.Me
namespace Go.Proofs.Ytcjcmnnhmajocab.Gu
open Go.RowKit
def sgn (b : Int) : Int := if 128 ≤ b then b + 4294967040 else b
theorem wrap_i8 (n : Int) : IntKind.i8.wrap n = (n + 128) % 256 - 128 := by
 have h1 : IntKind.i8.bits = 8 := rfl
 have h2 : IntKind.i8.signed = true := rfl
 simp only [IntKind.wrap, h1, h2, Bool.true_and]
 split
 ·rename_i h
  simp at h
  omega
 ·rename_i h
  simp at h
  omega
theorem signed_any (b : Int) (h0 : 0 ≤ b) (h1 : b < 256) (w : World) : Calls Try.prog 202 #[.int .u8 b] w fun e w' => e = .returned (.int .u32 (sgn b)) ∧ w = w' := by
 by_cases h : 128 ≤ b
 ·have e : sgn b = b + 4294967040 := if_pos h
  have c1 : IntKind.i8.wrap b = b - 256 := by rw [wrap_i8]; omega
  have c2 : IntKind.i32.wrap (b - 256) = b - 256 := by rw [IntKind.wrap_i32]; omega
  have c3 : IntKind.u32.wrap (b - 256) = b + 4294967040 := by rw [IntKind.wrap_u32]; omega
  rw [e]
  go_enter Try.func202, Try.ntmps202
  go_wp2
  go_ret
  exact ⟨rfl, rfl⟩
 ·have e : sgn b = b := if_neg h
  have c1 : IntKind.i8.wrap b = b := by rw [wrap_i8]; omega
  have c2 : IntKind.i32.wrap b = b := by rw [IntKind.wrap_i32]; omega
  have c3 : IntKind.u32.wrap b = b := by rw [IntKind.wrap_u32]; omega
  rw [e]
  go_enter Try.func202, Try.ntmps202
  go_wp2
  go_ret
  exact ⟨rfl, rfl⟩
end Go.Proofs.Ytcjcmnnhmajocab.Gu
namespace Go.Proofs.Ytcjcmnnhmajocab.Gu
open Go.RowKit
theorem or_up (i : Nat) (x y : Int) (hx : 0 ≤ x) (hx' : x < 2 ^ i) (hy : 0 ≤ y) (hd : y % 2 ^ i = 0) (h1 : x < 4294967296) (h2 : y < 4294967296) : bits .or .u32 x y = x + y := by
 obtain ⟨a, rfl⟩ := Int.eq_ofNat_of_zero_le hx
 obtain ⟨b, rfl⟩ := Int.eq_ofNat_of_zero_le hy
 have hw : ∀ n : Int, 0 ≤ n → n < 2 ^ 32 → IntKind.u32.wrap n = n := fun n h₀ h₁ => by rw [IntKind.wrap_u32]; omega
 have h := bits_join .u32 32 (by decide) hw i b a (by omega) hd (by omega) (by omega) hx' (by omega)
 have ha : a < 2 ^ 32 := by omega
 have hb : b < 2 ^ 32 := by omega
 rw [(bits_nat .u32 32 (by decide) hw b a hb ha).2] at h
 rw [(bits_nat .u32 32 (by decide) hw a b ha hb).2, Nat.or_comm, h]
 omega
theorem ret_u32 {a b : Int} (h : a = b) : Ending.returned (.int .u32 a) = .returned (.int .u32 b) := by rw [h]
end Go.Proofs.Ytcjcmnnhmajocab.Gu
namespace Go.Proofs.Ytcjcmnnhmajocab.Me
open Go.RowKit Kt
theorem or_two (a b : Int) (ha : 0 ≤ a ∧ a < 256) (hb : 0 ≤ b ∧ b < 256) : bits .or .u32 a (b * 256) = a + b * 256 := Gu.or_up 8 _ _ (by omega) (by omega) (by omega) (by omega) (by omega) (by omega)
theorem or_zero (b : Int) (hb : 0 ≤ b ∧ b < 256) : bits .or .u32 0 b = b := (Gu.or_up 0 0 b (by omega) (by omega) (by omega) (by omega) (by omega) (by omega)).trans (by omega)
theorem or_three (a b c : Int) (ha : 0 ≤ a ∧ a < 256) (hb : 0 ≤ b ∧ b < 256) (hc : 0 ≤ c ∧ c < 256) : bits .or .u32 (a + b * 256) (c * 65536) = a + b * 256 + c * 65536 := Gu.or_up 16 _ _ (by omega) (by omega) (by omega) (by omega) (by omega) (by omega)
theorem or_four (a b c d : Int) (ha : 0 ≤ a ∧ a < 256) (hb : 0 ≤ b ∧ b < 256) (hc : 0 ≤ c ∧ c < 256) (hd : 0 ≤ d ∧ d < 256) : bits .or .u32 (a + b * 256 + c * 65536) (d * 16777216) = a + b * 256 + c * 65536 + d * 16777216 := Gu.or_up 24 _ _ (by omega) (by omega) (by omega) (by omega) (by omega) (by omega)
theorem load_bad (p : Nat) (M : MM) (N a n x : Int) (w : World) (h : HM p M N w) (hM : MOk M) (a0 : 0 ≤ a) (a1 : a < 4294967296) (n1 : n < 9223372036854775808) (hs : srch M 1 a n.toNat = some x) :
  Calls Try.prog 165 #[.pointer (some ⟨p, 0, none⟩), .int .u32 a, .int .i64 n] w fun e w' => e = .returned (.tuple #[.int .u32 0, .agg #[.int .i64 5, .int .u32 x]]) ∧ Below w.heap.size w w' := by
 have HB := κ (fun w h => bad_any p M N a n 1 w h hM (.inl rfl) a0 a1 n1)
 rw [hs] at HB
 simp only [srV] at HB
 have b0 := Below.refl w.heap.size w
 have HH := κ (fun o => h.upto ((Upto.refl (fun _ => False) w).alloc o) id)
 clear h hM hs
 go_enter Try.func165, Try.ntmps165
 go_wp2_with (go_at_call 177; refine (HB.out _ (HH.out _)).mono ?_; rintro e w' ⟨rfl, rfl⟩)
 refine bodyPost_ret (v := .tuple #[.int .u32 0, .agg #[.int .i64 5, .int .u32 x]]) (by simp [results, Try.results165, go_sem]) rfl ⟨rfl, ?_⟩
 exact b0.alloc (Nat.le_refl _) _
theorem load_none (p : Nat) (M : MM) (N a n : Int) (w : World) (h : HM p M N w) (hM : MOk M) (a0 : 0 ≤ a) (a1 : a < 4294967296) (n1 : n < 9223372036854775808) (hs : srch M 1 a n.toNat = none) (hn : ¬ (n = 1 ∨ n = 2 ∨ n = 4)) :
  Calls Try.prog 165 #[.pointer (some ⟨p, 0, none⟩), .int .u32 a, .int .i64 n] w fun e w' => e = .returned (.tuple #[.int .u32 0, .agg #[.int .i64 0, .int .u32 0]]) ∧ Below w.heap.size w w' := by
 have HB := κ (fun w h => bad_any p M N a n 1 w h hM (.inl rfl) a0 a1 n1)
 rw [hs] at HB
 simp only [srV] at HB
 have b0 := Below.refl w.heap.size w
 have HH := κ (fun o => h.upto ((Upto.refl (fun _ => False) w).alloc o) id)
 have e1 : (n != 1) = true := by rw [bne_iff_ne]; omega
 have e2 : (n != 2) = true := by rw [bne_iff_ne]; omega
 have e4 : (n != 4) = true := by rw [bne_iff_ne]; omega
 clear h hM hs hn
 go_enter Try.func165, Try.ntmps165
 go_wp2_with (go_at_call 177; refine (HB.out _ (HH.out _)).mono ?_; rintro e w' ⟨rfl, rfl⟩)
 refine bodyPost_ret (v := .tuple #[.int .u32 0, .agg #[.int .i64 0, .int .u32 0]]) (by simp [results, Try.results165, go_sem]) rfl ⟨rfl, ?_⟩
 exact b0.alloc (Nat.le_refl _) _
theorem load_1 (p : Nat) (M : MM) (N a : Int) (w : World) (h : HM p M N w) (hM : MOk M) (a0 : 0 ≤ a) (a1 : a < 4294967296) (hs : srch M 1 a 1 = none) :
  Calls Try.prog 165 #[.pointer (some ⟨p, 0, none⟩), .int .u32 a, .int .i64 1] w fun e w' => e = .returned (.tuple #[.int .u32 (byt M a 0), .agg #[.int .i64 0, .int .u32 0]]) ∧ Below w.heap.size w w' := by
 have HB := κ (fun w h => bad_any p M N a 1 1 w h hM (.inl rfl) a0 a1 (by omega))
 rw [show (1 : Int).toNat = 1 from rfl, hs] at HB
 simp only [srV] at HB
 have b0 := Below.refl w.heap.size w
 have HH := κ (fun o => h.upto ((Upto.refl (fun _ => False) w).alloc o) id)
 have p0 := (plc_in a0 a1 hs 0 (by omega) (by omega)).2
 unfold byt
 rw [Nat.add_zero]
 have hp := h.2.2.2.2.2.2
 have b1 : a < 65536 := by omega
 have c0 := h.1 a.toNat (by omega)
 have r0 := hM.1 a.toNat
 generalize M.by_ a.toNat = y0 at c0 r0 ⊢
 have o1 := or_zero y0 r0
 obtain ⟨r0a, r0b⟩ := r0
 clear h hM hs p0
 go_enter Try.func165, Try.ntmps165
 go_wp2_with (go_at_call 177; refine (HB.out _ (HH.out _)).mono ?_; rintro e w' ⟨rfl, rfl⟩)
 refine wp_loop_rounds 2 ?_
 rw [rounds_succ]; go_wp2
 rw [rounds_succ]; go_wp2
 refine bodyPost_ret (v := .tuple #[.int .u32 (y0), .agg #[.int .i64 0, .int .u32 0]]) (by simp [results, Try.results165, go_sem]) rfl ⟨rfl, ?_⟩
 exact b0.alloc (Nat.le_refl _) _
theorem load_2 (p : Nat) (M : MM) (N a : Int) (w : World) (h : HM p M N w) (hM : MOk M) (a0 : 0 ≤ a) (a1 : a < 4294967296) (hs : srch M 1 a 2 = none) :
  Calls Try.prog 165 #[.pointer (some ⟨p, 0, none⟩), .int .u32 a, .int .i64 2] w fun e w' => e = .returned (.tuple #[.int .u32 (byt M a 0 + byt M a 1 * 256), .agg #[.int .i64 0, .int .u32 0]]) ∧ Below w.heap.size w w' := by
 have HB := κ (fun w h => bad_any p M N a 2 1 w h hM (.inl rfl) a0 a1 (by omega))
 rw [show (2 : Int).toNat = 2 from rfl, hs] at HB
 simp only [srV] at HB
 have b0 := Below.refl w.heap.size w
 have HH := κ (fun o => h.upto ((Upto.refl (fun _ => False) w).alloc o) id)
 have p0 := (plc_in a0 a1 hs 1 (by omega) (by omega)).2
 unfold byt
 rw [Nat.add_zero]
 have hp := h.2.2.2.2.2.2
 have b1 : a < 65536 := by omega
 have b2 : a + 1 < 65536 := by omega
 have c0 := h.1 a.toNat (by omega)
 have r0 := hM.1 a.toNat
 have c1 := h.1 (a.toNat + 1) (by omega)
 have r1 := hM.1 (a.toNat + 1)
 rw [show a.toNat + 1 = (a + 1).toNat by omega] at c1 r1
 generalize M.by_ a.toNat = y0 at c0 r0 ⊢
 rw [show a.toNat + 1 = (a + 1).toNat by omega]
 generalize M.by_ ((a + 1).toNat) = y1 at c1 r1 ⊢
 have o1 := or_zero y0 r0
 have o2 := or_two y0 y1 r0 r1
 obtain ⟨r0a, r0b⟩ := r0
 obtain ⟨r1a, r1b⟩ := r1
 clear h hM hs p0
 go_enter Try.func165, Try.ntmps165
 go_wp2_with (go_at_call 177; refine (HB.out _ (HH.out _)).mono ?_; rintro e w' ⟨rfl, rfl⟩)
 refine wp_loop_rounds 3 ?_
 rw [rounds_succ]; go_wp2
 rw [rounds_succ]; go_wp2
 rw [rounds_succ]; go_wp2
 refine bodyPost_ret (v := .tuple #[.int .u32 (y0 + y1 * 256), .agg #[.int .i64 0, .int .u32 0]]) (by simp [results, Try.results165, go_sem]) rfl ⟨rfl, ?_⟩
 exact b0.alloc (Nat.le_refl _) _
theorem load_4 (p : Nat) (M : MM) (N a : Int) (w : World) (h : HM p M N w) (hM : MOk M) (a0 : 0 ≤ a) (a1 : a < 4294967296) (hs : srch M 1 a 4 = none) :
  Calls Try.prog 165 #[.pointer (some ⟨p, 0, none⟩), .int .u32 a, .int .i64 4] w fun e w' => e = .returned (.tuple #[.int .u32 (byt M a 0 + byt M a 1 * 256 + byt M a 2 * 65536 + byt M a 3 * 16777216), .agg #[.int .i64 0, .int .u32 0]]) ∧ Below w.heap.size w w' := by
 have HB := κ (fun w h => bad_any p M N a 4 1 w h hM (.inl rfl) a0 a1 (by omega))
 rw [show (4 : Int).toNat = 4 from rfl, hs] at HB
 simp only [srV] at HB
 have b0 := Below.refl w.heap.size w
 have HH := κ (fun o => h.upto ((Upto.refl (fun _ => False) w).alloc o) id)
 have p0 := (plc_in a0 a1 hs 3 (by omega) (by omega)).2
 unfold byt
 rw [Nat.add_zero]
 have hp := h.2.2.2.2.2.2
 have b1 : a < 65536 := by omega
 have b2 : a + 1 < 65536 := by omega
 have b3 : a + 2 < 65536 := by omega
 have b4 : a + 3 < 65536 := by omega
 have c0 := h.1 a.toNat (by omega)
 have r0 := hM.1 a.toNat
 have c1 := h.1 (a.toNat + 1) (by omega)
 have r1 := hM.1 (a.toNat + 1)
 rw [show a.toNat + 1 = (a + 1).toNat by omega] at c1 r1
 have c2 := h.1 (a.toNat + 2) (by omega)
 have r2 := hM.1 (a.toNat + 2)
 rw [show a.toNat + 2 = (a + 2).toNat by omega] at c2 r2
 have c3 := h.1 (a.toNat + 3) (by omega)
 have r3 := hM.1 (a.toNat + 3)
 rw [show a.toNat + 3 = (a + 3).toNat by omega] at c3 r3
 generalize M.by_ a.toNat = y0 at c0 r0 ⊢
 rw [show a.toNat + 1 = (a + 1).toNat by omega]
 generalize M.by_ ((a + 1).toNat) = y1 at c1 r1 ⊢
 rw [show a.toNat + 2 = (a + 2).toNat by omega]
 generalize M.by_ ((a + 2).toNat) = y2 at c2 r2 ⊢
 rw [show a.toNat + 3 = (a + 3).toNat by omega]
 generalize M.by_ ((a + 3).toNat) = y3 at c3 r3 ⊢
 have o1 := or_zero y0 r0
 have o2 := or_two y0 y1 r0 r1
 have o3 := or_three y0 y1 y2 r0 r1 r2
 have o4 := or_four y0 y1 y2 y3 r0 r1 r2 r3
 obtain ⟨r0a, r0b⟩ := r0
 obtain ⟨r1a, r1b⟩ := r1
 obtain ⟨r2a, r2b⟩ := r2
 obtain ⟨r3a, r3b⟩ := r3
 clear h hM hs p0
 go_enter Try.func165, Try.ntmps165
 go_wp2_with (go_at_call 177; refine (HB.out _ (HH.out _)).mono ?_; rintro e w' ⟨rfl, rfl⟩)
 refine wp_loop_rounds 5 ?_
 rw [rounds_succ]; go_wp2
 rw [rounds_succ]; go_wp2
 rw [rounds_succ]; go_wp2
 rw [rounds_succ]; go_wp2
 rw [rounds_succ]; go_wp2
 refine bodyPost_ret (v := .tuple #[.int .u32 (y0 + y1 * 256 + y2 * 65536 + y3 * 16777216), .agg #[.int .i64 0, .int .u32 0]]) (by simp [results, Try.results165, go_sem]) rfl ⟨rfl, ?_⟩
 exact b0.alloc (Nat.le_refl _) _
theorem load_any (p : Nat) (M : MM) (a n : Int) (w : World) (h : HC p M w) (hM : MOk M) (a0 : 0 ≤ a) (a1 : a < 4294967296) (n1 : n < 9223372036854775808) :
  Calls Try.prog 165 #[.pointer (some ⟨p, 0, none⟩), .int .u32 a, .int .i64 n] w fun e w' => e = .returned (.tuple #[.int .u32 (ldv M a n), stpV 5 (srch M 1 a n.toNat)]) ∧ Below w.heap.size w w' := by
 unfold ldv
 obtain ⟨o, ho⟩ : ∃ o, srch M 1 a n.toNat = o := ⟨_, rfl⟩
 rw [ho]
 rcases o with _ | x
 ·simp only [Option.isNone_none, if_true, stpV]
  by_cases e1 : n = 1
  ·subst e1; rw [if_pos rfl]; exact load_1 p M _ a w h hM a0 a1 ho
  ·rw [if_neg e1]
   by_cases e2 : n = 2
   ·subst e2; rw [if_pos rfl]; exact load_2 p M _ a w h hM a0 a1 ho
   ·rw [if_neg e2]
    by_cases e4 : n = 4
    ·subst e4; rw [if_pos rfl]; exact load_4 p M _ a w h hM a0 a1 ho
    ·rw [if_neg e4]
     exact load_none p M _ a n w h hM a0 a1 n1 ho (by omega)
 ·simp only [Option.isNone_some, Bool.false_eq_true, if_false, stpV]
  exact load_bad p M _ a n x w h hM a0 a1 n1 ho
end Go.Proofs.Ytcjcmnnhmajocab.Me
