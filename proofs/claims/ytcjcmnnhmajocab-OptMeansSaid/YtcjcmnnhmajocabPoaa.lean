/- Laws on single operations, whatever the program: a closed operation by one run of the kernel; a table that is laid into a new variable, kept under one name. -/
import Derived.Test.YtcjcmnnhmajocabProg
import Derived.Below
import Derived.WalkKit
import Derived.Lib.Hide
import Derived.Outline
import Derived.ProofKit
import Derived.ChangeSame
import Derived.WalkLawsBesides
import Derived.WalkSpells
namespace Go.Proofs.Ytcjcmnnhmajocab.Ic
open Go.RowKit
set_option linter.unusedVariables false
def gv (k : Int) : Bool := decide ((1 ≤ k ∧ k ≤ 9 ∧ k ≠ 3) ∨ k = 17)
def fin (k : Int) : Bool := decide (14 ≤ k ∧ k ≤ 16)
theorem gv_yes {k : Int} (h : (1 ≤ k ∧ k ≤ 9 ∧ k ≠ 3) ∨ k = 17) : gv k = true := decide_eq_true h
theorem gv_no {k : Int} (h : ¬ ((1 ≤ k ∧ k ≤ 9 ∧ k ≠ 3) ∨ k = 17)) : gv k = false := decide_eq_false h
theorem gives_any (k : Int) (w : World) : Calls Try.prog 95 #[.int .i64 k] w fun e w' => e = .returned (.bool (gv k)) ∧ w = w' := by
  rcases (show k < 1 ∨ (1 ≤ k ∧ k ≤ 9 ∧ k ≠ 3) ∨ k = 3 ∨ (10 ≤ k ∧ k ≠ 17) ∨ k = 17 by omega) with h | h | h | h | h
  · rw [gv_no (by omega)]
    have c1 : ¬ 1 ≤ k := by omega
    have c2 : (k == 17) = false := by simp; omega
    go_enter Try.func95, Try.ntmps95
    go_wp2
    go_ret
    exact ⟨rfl, rfl⟩
  · rw [gv_yes (.inl h)]
    have c1 : 1 ≤ k := h.1
    have c3 : k ≤ 9 := h.2.1
    have c4 : (k == 3) = false := by simp; omega
    go_enter Try.func95, Try.ntmps95
    go_wp2
    go_ret
    exact ⟨rfl, rfl⟩
  · subst h
    go_enter Try.func95, Try.ntmps95
    go_wp2
    go_ret
    exact ⟨rfl, rfl⟩
  · rw [gv_no (by omega)]
    have c1 : 1 ≤ k := by omega
    have c3 : ¬ k ≤ 9 := by omega
    have c2 : (k == 17) = false := by simp; omega
    go_enter Try.func95, Try.ntmps95
    go_wp2
    go_ret
    exact ⟨rfl, rfl⟩
  · subst h
    go_enter Try.func95, Try.ntmps95
    go_wp2
    go_ret
    exact ⟨rfl, rfl⟩
theorem rgives_any (k : Int) (w : World) : Calls Try.prog 75 #[.int .i64 k] w fun e w' => e = .returned (.bool (gv k)) ∧ w = w' := by
  rcases (show k < 1 ∨ (1 ≤ k ∧ k ≤ 9 ∧ k ≠ 3) ∨ k = 3 ∨ (10 ≤ k ∧ k ≠ 17) ∨ k = 17 by omega) with h | h | h | h | h
  · rw [gv_no (by omega)]
    have c1 : ¬ 1 ≤ k := by omega
    have c2 : (k == 17) = false := by simp; omega
    go_enter Try.func75, Try.ntmps75
    go_wp2
    go_ret
    exact ⟨rfl, rfl⟩
  · rw [gv_yes (.inl h)]
    have c1 : 1 ≤ k := h.1
    have c3 : k ≤ 9 := h.2.1
    have c4 : (k == 3) = false := by simp; omega
    go_enter Try.func75, Try.ntmps75
    go_wp2
    go_ret
    exact ⟨rfl, rfl⟩
  · subst h
    go_enter Try.func75, Try.ntmps75
    go_wp2
    go_ret
    exact ⟨rfl, rfl⟩
  · rw [gv_no (by omega)]
    have c1 : 1 ≤ k := by omega
    have c3 : ¬ k ≤ 9 := by omega
    have c2 : (k == 17) = false := by simp; omega
    go_enter Try.func75, Try.ntmps75
    go_wp2
    go_ret
    exact ⟨rfl, rfl⟩
  · subst h
    go_enter Try.func75, Try.ntmps75
    go_wp2
    go_ret
    exact ⟨rfl, rfl⟩
theorem final_any (k : Int) (w : World) : Calls Try.prog 52 #[.int .i64 k] w fun e w' => e = .returned (.bool (fin k)) ∧ w = w' := by
  rcases (show k < 14 ∨ (14 ≤ k ∧ k ≤ 16) ∨ 16 < k by omega) with h | h | h
  · rw [show fin k = false from decide_eq_false (by omega)]
    have c1 : ¬ 14 ≤ k := by omega
    go_enter Try.func52, Try.ntmps52
    go_wp2
    go_ret
    exact ⟨rfl, rfl⟩
  · rw [show fin k = true from decide_eq_true h]
    have c1 : 14 ≤ k := h.1
    have c2 : k ≤ 16 := h.2
    go_enter Try.func52, Try.ntmps52
    go_wp2
    go_ret
    exact ⟨rfl, rfl⟩
  · rw [show fin k = false from decide_eq_false (by omega)]
    have c1 : 14 ≤ k := by omega
    have c2 : ¬ k ≤ 16 := by omega
    go_enter Try.func52, Try.ntmps52
    go_wp2
    go_ret
    exact ⟨rfl, rfl⟩
end Go.Proofs.Ytcjcmnnhmajocab.Ic
namespace Go.Proofs.Ytcjcmnnhmajocab.Ic
open Go.RowKit
set_option linter.unusedVariables false
set_option linter.unusedSimpArgs false
structure Opr where
  k : Int
  w : Int
  a : Int
  b : Int
  c : Int
  kn : Int
  n : Int
def Opr.cells (o : Opr) : Array Value := #[.int .i64 o.k, .int .i64 o.w, .int .i64 o.a, .int .i64 o.b, .int .i64 o.c, .int .u32 o.kn, .int .i64 o.n]
/-- the operations lie there -/
def Ops (os : List Opr) (ao : Option Addr) (cap : Nat) (w : World) : Prop :=
  os.length ≤ cap ∧ cap ≤ maxLen ∧ (0 < os.length → ∃ g off, ao = some ⟨g, off, none⟩ ∧ g < w.heap.size ∧ ∀ i o, os[i]? = some o → ∀ j v, o.cells[j]? = some v → w.cell? ⟨g, off + i * 7 + j, none⟩ = some v)
theorem Ops.keep {os : List Opr} {ao : Option Addr} {cap : Nat} {w w' : World} (h : Ops os ao cap w) (hb : Below w.heap.size w w') : Ops os ao cap w' := by
  obtain ⟨h1, h2, h3⟩ := h
  refine ⟨h1, h2, fun hp => ?_⟩
  obtain ⟨g, off, e, hg, hc⟩ := h3 hp
  exact ⟨g, off, e, Nat.lt_of_lt_of_le hg hb.size, fun i o hi j v hj => (hb.cell (p := ⟨g, _, none⟩) hg).trans (hc i o hi j v hj)⟩
def kindAt (os : List Opr) (t : Nat) : Int := match os[t]? with
  | some o => o.k
  | none => 0
def gvn (os : List Opr) (i : Nat) (t : Int) : Bool := decide (0 ≤ t ∧ t < (i : Int)) && gv (kindAt os t.toNat)
def blk (pc cnt byt : Int) (ao : Option Addr) (L cap : Nat) : Value := .agg #[.int .u32 pc, .int .i64 cnt, .int .i64 byt, .slice ao L cap]
set_option maxHeartbeats 1000000 in
theorem given_any (os : List Opr) (ao : Option Addr) (cap : Nat) (pc cnt byt : Int) (i : Nat) (t : Int) (w : World) (h : Ops os ao cap w) (hi : i ≤ os.length) :
    Calls Try.prog 158 #[.agg #[.int .u32 pc, .int .i64 cnt, .int .i64 byt, .slice ao os.length cap], .int .i64 i, .int .i64 t] w fun e w' => e = .returned (.bool (gvn os i t)) ∧ Below w.heap.size w w' := by
  have hm : (maxLen : Nat) = 9223372036854775807 := rfl
  obtain ⟨h1, h2, h3⟩ := h
  rw [hm] at h2
  clear hm
  by_cases h0 : 0 ≤ t
  · obtain ⟨s, rfl⟩ := Int.eq_ofNat_of_zero_le h0
    by_cases hs : s < i
    · obtain ⟨g, off, rfl, hg, hc⟩ := h3 (by omega)
      have hl : s < os.length := by omega
      have hcell : w.cell? ⟨g, off + s * 7, none⟩ = some (.int .i64 (os[s].k)) := hc s _ (List.getElem?_eq_getElem hl) 0 _ rfl
      have hv : gvn os i (s : Int) = gv os[s].k := by
        unfold gvn kindAt
        rw [decide_eq_true (by omega), Bool.true_and, Int.toNat_natCast, List.getElem?_eq_getElem hl]
      rw [hv]
      generalize os[s].k = kk at hcell
      have hs' : (s : Int) < (i : Int) := by omega
      have hl' : (s : Int) < (os.length : Int) := by omega
      clear hc h3 hv
      go_enter Try.func158, Try.ntmps158
      go_wp2_with (go_at_call 95; refine (gives_any kk _).mono ?_; rintro e w' ⟨rfl, rfl⟩)
      go_ret
      exact ⟨rfl, (Below.refl _ _).alloc (Nat.le_refl _) _⟩
    · have hv : gvn os i (s : Int) = false := by unfold gvn; rw [decide_eq_false (by omega), Bool.false_and]
      rw [hv]
      clear hv h3
      have hs' : ¬ (s : Int) < (i : Int) := by omega
      go_enter Try.func158, Try.ntmps158
      go_wp2
      go_ret
      exact ⟨rfl, (Below.refl _ _).alloc (Nat.le_refl _) _⟩
  · have hv : gvn os i t = false := by unfold gvn; rw [decide_eq_false (by omega), Bool.false_and]
    rw [hv]
    clear hv h3
    go_enter Try.func158, Try.ntmps158
    go_wp2
    go_ret
    exact ⟨rfl, (Below.refl _ _).alloc (Nat.le_refl _) _⟩
set_option maxHeartbeats 1000000 in
theorem rgiven_any (os : List Opr) (ao : Option Addr) (cap : Nat) (pc cnt byt : Int) (i : Nat) (t : Int) (w : World) (h : Ops os ao cap w) (hi : i ≤ os.length) :
    Calls Try.prog 51 #[.agg #[.int .u32 pc, .int .i64 cnt, .int .i64 byt, .slice ao os.length cap], .int .i64 i, .int .i64 t] w fun e w' => e = .returned (.bool (gvn os i t)) ∧ Below w.heap.size w w' := by
  have hm : (maxLen : Nat) = 9223372036854775807 := rfl
  obtain ⟨h1, h2, h3⟩ := h
  rw [hm] at h2
  clear hm
  by_cases h0 : 0 ≤ t
  · obtain ⟨s, rfl⟩ := Int.eq_ofNat_of_zero_le h0
    by_cases hs : s < i
    · obtain ⟨g, off, rfl, hg, hc⟩ := h3 (by omega)
      have hl : s < os.length := by omega
      have hcell : w.cell? ⟨g, off + s * 7, none⟩ = some (.int .i64 (os[s].k)) := hc s _ (List.getElem?_eq_getElem hl) 0 _ rfl
      have hv : gvn os i (s : Int) = gv os[s].k := by
        unfold gvn kindAt
        rw [decide_eq_true (by omega), Bool.true_and, Int.toNat_natCast, List.getElem?_eq_getElem hl]
      rw [hv]
      generalize os[s].k = kk at hcell
      have hs' : (s : Int) < (i : Int) := by omega
      have hl' : (s : Int) < (os.length : Int) := by omega
      clear hc h3 hv
      go_enter Try.func51, Try.ntmps51
      go_wp2_with (go_at_call 75; refine (rgives_any kk _).mono ?_; rintro e w' ⟨rfl, rfl⟩)
      go_ret
      exact ⟨rfl, (Below.refl _ _).alloc (Nat.le_refl _) _⟩
    · have hv : gvn os i (s : Int) = false := by unfold gvn; rw [decide_eq_false (by omega), Bool.false_and]
      rw [hv]
      clear hv h3
      have hs' : ¬ (s : Int) < (i : Int) := by omega
      go_enter Try.func51, Try.ntmps51
      go_wp2
      go_ret
      exact ⟨rfl, (Below.refl _ _).alloc (Nat.le_refl _) _⟩
  · have hv : gvn os i t = false := by unfold gvn; rw [decide_eq_false (by omega), Bool.false_and]
    rw [hv]
    clear hv h3
    go_enter Try.func51, Try.ntmps51
    go_wp2
    go_ret
    exact ⟨rfl, (Below.refl _ _).alloc (Nat.le_refl _) _⟩
end Go.Proofs.Ytcjcmnnhmajocab.Ic
namespace Go.Proofs.Ytcjcmnnhmajocab.Kt
open Go.RowKit Go.WideShapes Go.ChangeShapes
section
variable {H : Type} {enc : TypeId × Value → H} {P : Program}
end
theorem chain {w a b : World} (h : Below w.heap.size w a) (k : Below a.heap.size a b) : Below w.heap.size w b := h.trans (k.mono h.size)
theorem bd_u32 {n : Int} (h : (Lit.int .u32 n).wf = true) : 0 ≤ n ∧ n < 4294967296 := by
  have hmin : IntKind.u32.min = 0 := rfl
  have hmax : IntKind.u32.max = 4294967295 := rfl
  simp only [Lit.wf, Bool.and_eq_true, decide_eq_true_eq] at h
  omega
theorem bd_u8 {n : Int} (h : (Lit.int .u8 n).wf = true) : 0 ≤ n ∧ n < 256 := by
  have hmin : IntKind.u8.min = 0 := rfl
  have hmax : IntKind.u8.max = 255 := rfl
  simp only [Lit.wf, Bool.and_eq_true, decide_eq_true_eq] at h
  omega
theorem bd_i64 {n : Int} (h : (Lit.int .i64 n).wf = true) : -9223372036854775808 ≤ n ∧ n < 9223372036854775808 := by
  have hmin : IntKind.i64.min = -9223372036854775808 := rfl
  have hmax : IntKind.i64.max = 9223372036854775807 := rfl
  simp only [Lit.wf, Bool.and_eq_true, decide_eq_true_eq] at h
  omega
end Go.Proofs.Ytcjcmnnhmajocab.Kt
namespace Go.Proofs.Ytcjcmnnhmajocab.Me
open Go.RowKit Kt
set_option linter.unusedVariables false
set_option linter.unusedSimpArgs false
/-- a memory, told plainly -/
structure MM where
  by_ : Nat → Int
  rt : Nat → Int
  wd : Nat → Bool
  hi : Nat → Bool
def upd {α : Type} (f : Nat → α) (k : Nat) (v : α) : Nat → α := fun j => if j = k then v else f j
/-- mem.Memory's block -/
def HM (p : Nat) (M : MM) (n : Int) (W : World) : Prop :=
  (∀ j, j < 65536 → W.cell? ⟨p, j, none⟩ = some (.int .u8 (M.by_ j))) ∧ (∀ j, j < 256 → W.cell? ⟨p, 65536 + j, none⟩ = some (.int .u8 (M.rt j))) ∧ (∀ j, j < 256 → W.cell? ⟨p, 65792 + j, none⟩ = some (.bool (M.wd j))) ∧
    (∀ j, j < 256 → W.cell? ⟨p, 66048 + j, none⟩ = some (.bool (M.hi j))) ∧ W.cell? ⟨p, 66304, none⟩ = some (.int .i64 n) ∧ (∀ i, W.frozen? ⟨p, i, none⟩ = false) ∧ p < W.heap.size
/-- nothing but block p has changed -/
def Only (p : Nat) (W W' : World) : Prop := W'.heap.size = W.heap.size ∧ (∀ b, b ≠ p → W'.heap[b]? = W.heap[b]?) ∧ ∀ B, B ≤ p → Below B W W'
theorem Only.refl (p : Nat) (W : World) : Only p W W := ⟨rfl, fun _ _ => rfl, fun B _ => Below.refl B W⟩
theorem Only.set {p : Nat} {W W' : World} (h : Only p W W') (j : Nat) (v : Value) : Only p W (W'.setCell ⟨p, j, none⟩ v) :=
  ⟨by rw [← h.1]; simp, fun b hb => (heap_setCell_other _ ⟨p, j, none⟩ b _ hb).trans (h.2.1 b hb), fun B hB => (h.2.2 B hB).setCell hB _⟩
theorem HM.cell_other {p : Nat} {W : World} {j i : Nat} {v : Value} (hne : i ≠ j) : (W.setCell ⟨p, j, none⟩ v).cell? ⟨p, i, none⟩ = W.cell? ⟨p, i, none⟩ :=
  World.cell?_setCell_other _ _ _ _ (by intro h; simp only [Addr.mk.injEq] at h; omega)
theorem HM.setHi {p : Nat} {M : MM} {n : Int} {W : World} (h : HM p M n W) (k : Nat) (hk : k < 256) (b : Bool) : HM p { M with hi := upd M.hi k b } n (W.setCell ⟨p, 66048 + k, none⟩ (.bool b)) := by
  obtain ⟨h1, h2, h3, h4, h5, h6, h7⟩ := h
  refine ⟨fun j hj => ?_, fun j hj => ?_, fun j hj => ?_, fun j hj => ?_, ?_, fun i => by simpa using h6 i, by simpa using h7⟩
  · rw [HM.cell_other (by omega)]; exact h1 j hj
  · rw [HM.cell_other (by omega)]; exact h2 j hj
  · rw [HM.cell_other (by omega)]; exact h3 j hj
  · by_cases hjk : j = k
    · subst hjk
      rw [World.cell?_setCell_same _ _ _ (h4 j hj)]
      simp [upd]
    · rw [HM.cell_other (by omega), h4 j hj]
      simp [upd, hjk]
  · rw [HM.cell_other (by omega)]; exact h5
theorem HM.setN {p : Nat} {M : MM} {n : Int} {W : World} (h : HM p M n W) (n' : Int) : HM p M n' (W.setCell ⟨p, 66304, none⟩ (.int .i64 n')) := by
  obtain ⟨h1, h2, h3, h4, h5, h6, h7⟩ := h
  refine ⟨fun j hj => ?_, fun j hj => ?_, fun j hj => ?_, fun j hj => ?_, ?_, fun i => by simpa using h6 i, by simpa using h7⟩
  · rw [HM.cell_other (by omega)]; exact h1 j hj
  · rw [HM.cell_other (by omega)]; exact h2 j hj
  · rw [HM.cell_other (by omega)]; exact h3 j hj
  · rw [HM.cell_other (by omega)]; exact h4 j hj
  · exact World.cell?_setCell_same _ _ _ h5
set_option maxHeartbeats 1000000 in
theorem isPage_any (k : Int) (w : World) : Calls Try.prog 103 #[.int .i64 k] w fun e w' => e = .returned (.bool (decide (0 ≤ k) && decide (k < 256))) ∧ w = w' := by
  by_cases h : 0 ≤ k
  · go_enter Try.func103, Try.ntmps103
    go_wp2
    go_ret
    exact ⟨by simp [h], rfl⟩
  · go_enter Try.func103, Try.ntmps103
    go_wp2
    go_ret
    exact ⟨by simp; omega, rfl⟩
set_option maxHeartbeats 1000000 in
theorem page_any (k : Int) (w : World) : Calls Try.prog 104 #[.int .i64 k] w fun e w' => e = .returned (.bool (decide (0 ≤ k) && decide (k < 256))) ∧ w = w' := by
  by_cases h : 0 ≤ k
  · go_enter Try.func104, Try.ntmps104
    go_wp2
    go_ret
    exact ⟨by simp [h], rfl⟩
  · go_enter Try.func104, Try.ntmps104
    go_wp2
    go_ret
    exact ⟨by simp; omega, rfl⟩
/-- a page is changed -/
def chg (M : MM) (k : Nat) : MM := if M.wd k && !M.hi k then { M with hi := upd M.hi k true } else M
def chgN (M : MM) (n : Int) (k : Nat) : Int := if M.wd k && !M.hi k then n + 1 else n
set_option maxRecDepth 100000 in
set_option maxHeartbeats 2000000 in
theorem change_any (p : Nat) (M : MM) (n : Int) (k : Nat) (w : World) (h : HM p M n w) (hk : k < 256) (n0 : 0 ≤ n) (n1 : n ≤ 256) :
    Calls Try.prog 101 #[.pointer (some ⟨p, 0, none⟩), .int .i64 (k : Int)] w fun e w' => e = .returned (.tuple #[]) ∧ HM p (chg M k) (chgN M n k) w' ∧ Only p w w' := by
  have c3 := h.2.2.1 k hk
  have c4 := h.2.2.2.1 k hk
  have c5 := h.2.2.2.2.1
  have z4 := h.2.2.2.2.2.1 (66048 + k)
  have z5 := h.2.2.2.2.2.1 66304
  have HH := Lib.hid h
  clear h
  have k0 : (0 : Int) ≤ (k : Int) := by omega
  have k1 : (k : Int) < 256 := by omega
  unfold chg chgN
  generalize hm : M.wd k = bm at c3 ⊢
  generalize hh : M.hi k = bh at c4 ⊢
  clear hm hh
  cases bm
  · go_enter Try.func101, Try.ntmps101
    go_wp2
    go_end0
    exact ⟨rfl, HH.out, Only.refl _ _⟩
  · cases bh
    · go_enter Try.func101, Try.ntmps101
      go_wp2
      go_end0
      exact ⟨rfl, (HH.out.setHi k hk true).setN (n + 1), ((Only.refl _ _).set _ _).set _ _⟩
    · go_enter Try.func101, Try.ntmps101
      go_wp2
      go_end0
      exact ⟨rfl, HH.out, Only.refl _ _⟩
end Go.Proofs.Ytcjcmnnhmajocab.Me
namespace Go.Proofs.Ytcjcmnnhmajocab.Kt
open Go.RowKit
set_option linter.unusedVariables false
theorem wpList_value {P : Program} {ops : Array Oper} {rest : List Oper} {o : Oper} {a : Act} {w : World} {Q : Exit → Act → World → Prop} (hg : o.guard = none) {v : Value}
    (h : (execOp a.eval o).run P w = .ok (.value v) w) (hK : wpList P ops Q rest (a.put o.dst v) w) : wpList P ops Q (o :: rest) a w :=
  wpList_plain hg fun K hK' => by
    unfold Oper.wp
    rw [h]
    exact hK' _ _ hK
/-- an operation's run that leaves the world w' -/
theorem wpList_run {P : Program} {ops : Array Oper} {rest : List Oper} {o : Oper} {a : Act} {w w' : World} {Q : Exit → Act → World → Prop} (hg : o.guard = none) {v : Value}
    (h : (execOp a.eval o).run P w = .ok (.value v) w') (hK : wpList P ops Q rest (a.put o.dst v) w') : wpList P ops Q (o :: rest) a w :=
  wpList_plain hg fun K hK' => by
    unfold Oper.wp
    rw [h]
    exact hK' _ _ hK
theorem setRow_new (w : World) (old cs : Array Value) (t : TypeId) : (w.alloc (.cells old t)).setRow w.heap.size cs = w.alloc (.cells cs t) := by
  unfold World.setRow World.alloc
  congr 1
  apply Array.ext_getElem?
  intro k
  rw [Array.getElem?_modify]
  by_cases hk : w.heap.size = k
  · subst hk
    simp
  · have hk' : k ≠ w.heap.size := fun e => hk e.symm
    simp [hk, hk', Array.getElem?_push]
/-- 'tab := [..]T{..}': the value cs lies in a slot; a new variable is made and has it. -/
theorem wpList_lay {P : Program} {ops : Array Oper} {rest : List Oper} {o2 o3 : Oper} {a : Act} {w : World} {Q : Exit → Act → World → Prop} (hg2 : o2.guard = none) (hg3 : o3.guard = none)
    (t : TypeId) (h2 : o2.op = .alloc t) (x y : Operand) (h3 : o3.op = .store t x y) (h3d : o3.dst = none) (i : TypeInfo) (z : Value) (hi : P.info? t = some i) (hz : i.zero = some z) (n : Nat) (hzs : z.cells.size = n) (hn : i.size = n)
    (cs : Array Value) (hcs : cs.size = n) (h1 : cs.all (·.oneCell') = true)
    (hx : (a.put o2.dst (.pointer (some ⟨w.heap.size, 0, none⟩))).eval x = .pointer (some ⟨w.heap.size, 0, none⟩)) (hy : (a.put o2.dst (.pointer (some ⟨w.heap.size, 0, none⟩))).eval y = .agg cs)
    (hK : wpList P ops Q rest (a.put o2.dst (.pointer (some ⟨w.heap.size, 0, none⟩))) (w.alloc (.cells cs t))) : wpList P ops Q (o2 :: o3 :: rest) a w := by
  refine wpList_run hg2 (v := .pointer (some ⟨w.heap.size, 0, none⟩)) (w' := w.alloc (.cells z.cells t)) ?_ ?_
  · simp only [execOp, h2, Instr.alloc, Sem.run_bind, Sem.run_pure, zeroValue, typeInfo]
    simp [hi, hz, newVar, newRow]
  · refine wpList_plain hg3 fun K hK' => ?_
    have hw : (w.alloc (.cells z.cells t)).heap[w.heap.size]? = some (.cells z.cells t (0, 0)) := heap_alloc_new w _
    have hr := run_storeVar_row (P := P) (w.alloc (.cells z.cells t)) w.heap.size t t z.cells cs hw (by simp [hi, hn, hcs]) (by rw [hzs, hcs]) h1
    rw [setRow_new] at hr
    unfold Oper.wp
    have he : (execOp (a.put o2.dst (.pointer (some ⟨w.heap.size, 0, none⟩))).eval o3).run P (w.alloc (.cells z.cells t)) = .ok .skip (w.alloc (.cells cs t)) := by
      simp only [execOp, h3, hx, hy, Instr.storeAt, Instr.sureAddr, Sem.run_bind, Sem.run_pure, Result.andThen_ok, hr]
    rw [he]
    show K ((a.put o2.dst _).put o3.dst undef) _
    rw [h3d]
    exact hK' _ _ hK
end Go.Proofs.Ytcjcmnnhmajocab.Kt
