/- Plain law of a memory: which bytes may be used, the first that may not; what of a world has changed. -/
import Derived.Test.YtcjcmnnhmajocabProg
import Derived.Below
import Derived.WalkKit
import Derived.Lib.Hide
import Derived.Outline
import Derived.WalkLawsBesides
import Derived.WalkSpells
import Derived.ProofKit
import Derived.ChangeSame
import Derived.RowKit
import GoSem.ClaimWide
import Derived.WideShapes
namespace Go.Proofs.Ytcjcmnnhmajocab.Ic
open Go.RowKit
set_option linter.unusedVariables false
def gv (k : Int) : Bool := decide ((1 ≤ k ∧ k ≤ 9 ∧ k ≠ 3) ∨ k = 17)
def fin (k : Int) : Bool := decide (14 ≤ k ∧ k ≤ 16)
theorem gv_yes {k : Int} (h : (1 ≤ k ∧ k ≤ 9 ∧ k ≠ 3) ∨ k = 17) : gv k = true := decide_eq_true h
theorem gv_no {k : Int} (h : ¬ ((1 ≤ k ∧ k ≤ 9 ∧ k ≠ 3) ∨ k = 17)) : gv k = false := decide_eq_false h
theorem gives_any (k : Int) (w : World) : Calls Try.prog 95 #[.int .i64 k] w fun e w' => e = .returned (.bool (gv k)) ∧ w = w' := by
  rcases (show k < 1 ∨ (1 ≤ k ∧ k ≤ 9 ∧ k ≠ 3) ∨ k = 3 ∨ (10 ≤ k ∧ k ≠ 17) ∨ k = 17 by omega) with h | h | h | h | h
  · rw [gv_no (by omega)]
    have c1 : ¬ 1 ≤ k := by omega
    have c2 : (k == 17) = false := by simp; omega
    go_enter Try.func95, Try.ntmps95
    go_wp2
    go_ret
    exact ⟨rfl, rfl⟩
  · rw [gv_yes (.inl h)]
    have c1 : 1 ≤ k := h.1
    have c3 : k ≤ 9 := h.2.1
    have c4 : (k == 3) = false := by simp; omega
    go_enter Try.func95, Try.ntmps95
    go_wp2
    go_ret
    exact ⟨rfl, rfl⟩
  · subst h
    go_enter Try.func95, Try.ntmps95
    go_wp2
    go_ret
    exact ⟨rfl, rfl⟩
  · rw [gv_no (by omega)]
    have c1 : 1 ≤ k := by omega
    have c3 : ¬ k ≤ 9 := by omega
    have c2 : (k == 17) = false := by simp; omega
    go_enter Try.func95, Try.ntmps95
    go_wp2
    go_ret
    exact ⟨rfl, rfl⟩
  · subst h
    go_enter Try.func95, Try.ntmps95
    go_wp2
    go_ret
    exact ⟨rfl, rfl⟩
theorem rgives_any (k : Int) (w : World) : Calls Try.prog 75 #[.int .i64 k] w fun e w' => e = .returned (.bool (gv k)) ∧ w = w' := by
  rcases (show k < 1 ∨ (1 ≤ k ∧ k ≤ 9 ∧ k ≠ 3) ∨ k = 3 ∨ (10 ≤ k ∧ k ≠ 17) ∨ k = 17 by omega) with h | h | h | h | h
  · rw [gv_no (by omega)]
    have c1 : ¬ 1 ≤ k := by omega
    have c2 : (k == 17) = false := by simp; omega
    go_enter Try.func75, Try.ntmps75
    go_wp2
    go_ret
    exact ⟨rfl, rfl⟩
  · rw [gv_yes (.inl h)]
    have c1 : 1 ≤ k := h.1
    have c3 : k ≤ 9 := h.2.1
    have c4 : (k == 3) = false := by simp; omega
    go_enter Try.func75, Try.ntmps75
    go_wp2
    go_ret
    exact ⟨rfl, rfl⟩
  · subst h
    go_enter Try.func75, Try.ntmps75
    go_wp2
    go_ret
    exact ⟨rfl, rfl⟩
  · rw [gv_no (by omega)]
    have c1 : 1 ≤ k := by omega
    have c3 : ¬ k ≤ 9 := by omega
    have c2 : (k == 17) = false := by simp; omega
    go_enter Try.func75, Try.ntmps75
    go_wp2
    go_ret
    exact ⟨rfl, rfl⟩
  · subst h
    go_enter Try.func75, Try.ntmps75
    go_wp2
    go_ret
    exact ⟨rfl, rfl⟩
theorem final_any (k : Int) (w : World) : Calls Try.prog 52 #[.int .i64 k] w fun e w' => e = .returned (.bool (fin k)) ∧ w = w' := by
  rcases (show k < 14 ∨ (14 ≤ k ∧ k ≤ 16) ∨ 16 < k by omega) with h | h | h
  · rw [show fin k = false from decide_eq_false (by omega)]
    have c1 : ¬ 14 ≤ k := by omega
    go_enter Try.func52, Try.ntmps52
    go_wp2
    go_ret
    exact ⟨rfl, rfl⟩
  · rw [show fin k = true from decide_eq_true h]
    have c1 : 14 ≤ k := h.1
    have c2 : k ≤ 16 := h.2
    go_enter Try.func52, Try.ntmps52
    go_wp2
    go_ret
    exact ⟨rfl, rfl⟩
  · rw [show fin k = false from decide_eq_false (by omega)]
    have c1 : 14 ≤ k := by omega
    have c2 : ¬ k ≤ 16 := by omega
    go_enter Try.func52, Try.ntmps52
    go_wp2
    go_ret
    exact ⟨rfl, rfl⟩
end Go.Proofs.Ytcjcmnnhmajocab.Ic
namespace Go.Proofs.Ytcjcmnnhmajocab.Ic
open Go.RowKit
set_option linter.unusedVariables false
set_option linter.unusedSimpArgs false
structure Opr where
  k : Int
  w : Int
  a : Int
  b : Int
  c : Int
  kn : Int
  n : Int
def Opr.cells (o : Opr) : Array Value := #[.int .i64 o.k, .int .i64 o.w, .int .i64 o.a, .int .i64 o.b, .int .i64 o.c, .int .u32 o.kn, .int .i64 o.n]
/-- the operations lie there -/
def Ops (os : List Opr) (ao : Option Addr) (cap : Nat) (w : World) : Prop :=
  os.length ≤ cap ∧ cap ≤ maxLen ∧ (0 < os.length → ∃ g off, ao = some ⟨g, off, none⟩ ∧ g < w.heap.size ∧ ∀ i o, os[i]? = some o → ∀ j v, o.cells[j]? = some v → w.cell? ⟨g, off + i * 7 + j, none⟩ = some v)
theorem Ops.keep {os : List Opr} {ao : Option Addr} {cap : Nat} {w w' : World} (h : Ops os ao cap w) (hb : Below w.heap.size w w') : Ops os ao cap w' := by
  obtain ⟨h1, h2, h3⟩ := h
  refine ⟨h1, h2, fun hp => ?_⟩
  obtain ⟨g, off, e, hg, hc⟩ := h3 hp
  exact ⟨g, off, e, Nat.lt_of_lt_of_le hg hb.size, fun i o hi j v hj => (hb.cell (p := ⟨g, _, none⟩) hg).trans (hc i o hi j v hj)⟩
def kindAt (os : List Opr) (t : Nat) : Int := match os[t]? with
  | some o => o.k
  | none => 0
def gvn (os : List Opr) (i : Nat) (t : Int) : Bool := decide (0 ≤ t ∧ t < (i : Int)) && gv (kindAt os t.toNat)
def blk (pc cnt byt : Int) (ao : Option Addr) (L cap : Nat) : Value := .agg #[.int .u32 pc, .int .i64 cnt, .int .i64 byt, .slice ao L cap]
set_option maxHeartbeats 1000000 in
theorem given_any (os : List Opr) (ao : Option Addr) (cap : Nat) (pc cnt byt : Int) (i : Nat) (t : Int) (w : World) (h : Ops os ao cap w) (hi : i ≤ os.length) :
    Calls Try.prog 158 #[.agg #[.int .u32 pc, .int .i64 cnt, .int .i64 byt, .slice ao os.length cap], .int .i64 i, .int .i64 t] w fun e w' => e = .returned (.bool (gvn os i t)) ∧ Below w.heap.size w w' := by
  have hm : (maxLen : Nat) = 9223372036854775807 := rfl
  obtain ⟨h1, h2, h3⟩ := h
  rw [hm] at h2
  clear hm
  by_cases h0 : 0 ≤ t
  · obtain ⟨s, rfl⟩ := Int.eq_ofNat_of_zero_le h0
    by_cases hs : s < i
    · obtain ⟨g, off, rfl, hg, hc⟩ := h3 (by omega)
      have hl : s < os.length := by omega
      have hcell : w.cell? ⟨g, off + s * 7, none⟩ = some (.int .i64 (os[s].k)) := hc s _ (List.getElem?_eq_getElem hl) 0 _ rfl
      have hv : gvn os i (s : Int) = gv os[s].k := by
        unfold gvn kindAt
        rw [decide_eq_true (by omega), Bool.true_and, Int.toNat_natCast, List.getElem?_eq_getElem hl]
      rw [hv]
      generalize os[s].k = kk at hcell
      have hs' : (s : Int) < (i : Int) := by omega
      have hl' : (s : Int) < (os.length : Int) := by omega
      clear hc h3 hv
      go_enter Try.func158, Try.ntmps158
      go_wp2_with (go_at_call 95; refine (gives_any kk _).mono ?_; rintro e w' ⟨rfl, rfl⟩)
      go_ret
      exact ⟨rfl, (Below.refl _ _).alloc (Nat.le_refl _) _⟩
    · have hv : gvn os i (s : Int) = false := by unfold gvn; rw [decide_eq_false (by omega), Bool.false_and]
      rw [hv]
      clear hv h3
      have hs' : ¬ (s : Int) < (i : Int) := by omega
      go_enter Try.func158, Try.ntmps158
      go_wp2
      go_ret
      exact ⟨rfl, (Below.refl _ _).alloc (Nat.le_refl _) _⟩
  · have hv : gvn os i t = false := by unfold gvn; rw [decide_eq_false (by omega), Bool.false_and]
    rw [hv]
    clear hv h3
    go_enter Try.func158, Try.ntmps158
    go_wp2
    go_ret
    exact ⟨rfl, (Below.refl _ _).alloc (Nat.le_refl _) _⟩
set_option maxHeartbeats 1000000 in
theorem rgiven_any (os : List Opr) (ao : Option Addr) (cap : Nat) (pc cnt byt : Int) (i : Nat) (t : Int) (w : World) (h : Ops os ao cap w) (hi : i ≤ os.length) :
    Calls Try.prog 51 #[.agg #[.int .u32 pc, .int .i64 cnt, .int .i64 byt, .slice ao os.length cap], .int .i64 i, .int .i64 t] w fun e w' => e = .returned (.bool (gvn os i t)) ∧ Below w.heap.size w w' := by
  have hm : (maxLen : Nat) = 9223372036854775807 := rfl
  obtain ⟨h1, h2, h3⟩ := h
  rw [hm] at h2
  clear hm
  by_cases h0 : 0 ≤ t
  · obtain ⟨s, rfl⟩ := Int.eq_ofNat_of_zero_le h0
    by_cases hs : s < i
    · obtain ⟨g, off, rfl, hg, hc⟩ := h3 (by omega)
      have hl : s < os.length := by omega
      have hcell : w.cell? ⟨g, off + s * 7, none⟩ = some (.int .i64 (os[s].k)) := hc s _ (List.getElem?_eq_getElem hl) 0 _ rfl
      have hv : gvn os i (s : Int) = gv os[s].k := by
        unfold gvn kindAt
        rw [decide_eq_true (by omega), Bool.true_and, Int.toNat_natCast, List.getElem?_eq_getElem hl]
      rw [hv]
      generalize os[s].k = kk at hcell
      have hs' : (s : Int) < (i : Int) := by omega
      have hl' : (s : Int) < (os.length : Int) := by omega
      clear hc h3 hv
      go_enter Try.func51, Try.ntmps51
      go_wp2_with (go_at_call 75; refine (rgives_any kk _).mono ?_; rintro e w' ⟨rfl, rfl⟩)
      go_ret
      exact ⟨rfl, (Below.refl _ _).alloc (Nat.le_refl _) _⟩
    · have hv : gvn os i (s : Int) = false := by unfold gvn; rw [decide_eq_false (by omega), Bool.false_and]
      rw [hv]
      clear hv h3
      have hs' : ¬ (s : Int) < (i : Int) := by omega
      go_enter Try.func51, Try.ntmps51
      go_wp2
      go_ret
      exact ⟨rfl, (Below.refl _ _).alloc (Nat.le_refl _) _⟩
  · have hv : gvn os i t = false := by unfold gvn; rw [decide_eq_false (by omega), Bool.false_and]
    rw [hv]
    clear hv h3
    go_enter Try.func51, Try.ntmps51
    go_wp2
    go_ret
    exact ⟨rfl, (Below.refl _ _).alloc (Nat.le_refl _) _⟩
end Go.Proofs.Ytcjcmnnhmajocab.Ic
namespace Go.Proofs.Ytcjcmnnhmajocab.Kt
open Go.RowKit
set_option linter.unusedVariables false
theorem wpList_value {P : Program} {ops : Array Oper} {rest : List Oper} {o : Oper} {a : Act} {w : World} {Q : Exit → Act → World → Prop} (hg : o.guard = none) {v : Value}
    (h : (execOp a.eval o).run P w = .ok (.value v) w) (hK : wpList P ops Q rest (a.put o.dst v) w) : wpList P ops Q (o :: rest) a w :=
  wpList_plain hg fun K hK' => by
    unfold Oper.wp
    rw [h]
    exact hK' _ _ hK
/-- an operation's run that leaves the world w' -/
theorem wpList_run {P : Program} {ops : Array Oper} {rest : List Oper} {o : Oper} {a : Act} {w w' : World} {Q : Exit → Act → World → Prop} (hg : o.guard = none) {v : Value}
    (h : (execOp a.eval o).run P w = .ok (.value v) w') (hK : wpList P ops Q rest (a.put o.dst v) w') : wpList P ops Q (o :: rest) a w :=
  wpList_plain hg fun K hK' => by
    unfold Oper.wp
    rw [h]
    exact hK' _ _ hK
theorem setRow_new (w : World) (old cs : Array Value) (t : TypeId) : (w.alloc (.cells old t)).setRow w.heap.size cs = w.alloc (.cells cs t) := by
  unfold World.setRow World.alloc
  congr 1
  apply Array.ext_getElem?
  intro k
  rw [Array.getElem?_modify]
  by_cases hk : w.heap.size = k
  · subst hk
    simp
  · have hk' : k ≠ w.heap.size := fun e => hk e.symm
    simp [hk, hk', Array.getElem?_push]
/-- 'tab := [..]T{..}': the value cs lies in a slot; a new variable is made and has it. -/
theorem wpList_lay {P : Program} {ops : Array Oper} {rest : List Oper} {o2 o3 : Oper} {a : Act} {w : World} {Q : Exit → Act → World → Prop} (hg2 : o2.guard = none) (hg3 : o3.guard = none)
    (t : TypeId) (h2 : o2.op = .alloc t) (x y : Operand) (h3 : o3.op = .store t x y) (h3d : o3.dst = none) (i : TypeInfo) (z : Value) (hi : P.info? t = some i) (hz : i.zero = some z) (n : Nat) (hzs : z.cells.size = n) (hn : i.size = n)
    (cs : Array Value) (hcs : cs.size = n) (h1 : cs.all (·.oneCell') = true)
    (hx : (a.put o2.dst (.pointer (some ⟨w.heap.size, 0, none⟩))).eval x = .pointer (some ⟨w.heap.size, 0, none⟩)) (hy : (a.put o2.dst (.pointer (some ⟨w.heap.size, 0, none⟩))).eval y = .agg cs)
    (hK : wpList P ops Q rest (a.put o2.dst (.pointer (some ⟨w.heap.size, 0, none⟩))) (w.alloc (.cells cs t))) : wpList P ops Q (o2 :: o3 :: rest) a w := by
  refine wpList_run hg2 (v := .pointer (some ⟨w.heap.size, 0, none⟩)) (w' := w.alloc (.cells z.cells t)) ?_ ?_
  · simp only [execOp, h2, Instr.alloc, Sem.run_bind, Sem.run_pure, zeroValue, typeInfo]
    simp [hi, hz, newVar, newRow]
  · refine wpList_plain hg3 fun K hK' => ?_
    have hw : (w.alloc (.cells z.cells t)).heap[w.heap.size]? = some (.cells z.cells t (0, 0)) := heap_alloc_new w _
    have hr := run_storeVar_row (P := P) (w.alloc (.cells z.cells t)) w.heap.size t t z.cells cs hw (by simp [hi, hn, hcs]) (by rw [hzs, hcs]) h1
    rw [setRow_new] at hr
    unfold Oper.wp
    have he : (execOp (a.put o2.dst (.pointer (some ⟨w.heap.size, 0, none⟩))).eval o3).run P (w.alloc (.cells z.cells t)) = .ok .skip (w.alloc (.cells cs t)) := by
      simp only [execOp, h3, hx, hy, Instr.storeAt, Instr.sureAddr, Sem.run_bind, Sem.run_pure, Result.andThen_ok, hr]
    rw [he]
    show K ((a.put o2.dst _).put o3.dst undef) _
    rw [h3d]
    exact hK' _ _ hK
end Go.Proofs.Ytcjcmnnhmajocab.Kt
namespace Go.Proofs.Ytcjcmnnhmajocab.Kt
open Go.RowKit Go.WideShapes Go.ChangeShapes
section
variable {H : Type} {enc : TypeId × Value → H} {P : Program}
end
theorem chain {w a b : World} (h : Below w.heap.size w a) (k : Below a.heap.size a b) : Below w.heap.size w b := h.trans (k.mono h.size)
theorem bd_u32 {n : Int} (h : (Lit.int .u32 n).wf = true) : 0 ≤ n ∧ n < 4294967296 := by
  have hmin : IntKind.u32.min = 0 := rfl
  have hmax : IntKind.u32.max = 4294967295 := rfl
  simp only [Lit.wf, Bool.and_eq_true, decide_eq_true_eq] at h
  omega
end Go.Proofs.Ytcjcmnnhmajocab.Kt
namespace Go.Proofs.Ytcjcmnnhmajocab.Kt
open Go
variable {P : Program} {w : World} {r : Reach} {base : Nat} {t : TypeId} {v : Value}
theorem value_int {k : IntKind} (hu : P.underlying t = some (.int k)) (h : Value.okWide P w r base t v) : ∃ n, v = .int k n ∧ (Lit.int k n).wf = true := by
  simp only [Value.okWide, Cell.okWide, hu] at h
  cases v <;> simp_all [Cell.ok, Lit.wf, IntKind.has]
theorem size8 {cs : Array Value} (h : cs.size = 8) : ∃ x0 x1 x2 x3 x4 x5 x6 x7, cs = #[x0, x1, x2, x3, x4, x5, x6, x7] := by
  rcases cs with ⟨l⟩
  match l, h with
  | [x0, x1, x2, x3, x4, x5, x6, x7], _ => exact ⟨x0, x1, x2, x3, x4, x5, x6, x7, rfl⟩
end Go.Proofs.Ytcjcmnnhmajocab.Kt
namespace Go.Proofs.Ytcjcmnnhmajocab.Me
open Go.RowKit Kt
set_option linter.unusedVariables false
set_option linter.unusedSimpArgs false
/-- a memory, told plainly -/
structure MM where
  by_ : Nat → Int
  rt : Nat → Int
  wd : Nat → Bool
  hi : Nat → Bool
def upd {α : Type} (f : Nat → α) (k : Nat) (v : α) : Nat → α := fun j => if j = k then v else f j
/-- mem.Memory's block -/
def HM (p : Nat) (M : MM) (n : Int) (W : World) : Prop :=
  (∀ j, j < 65536 → W.cell? ⟨p, j, none⟩ = some (.int .u8 (M.by_ j))) ∧ (∀ j, j < 256 → W.cell? ⟨p, 65536 + j, none⟩ = some (.int .u8 (M.rt j))) ∧ (∀ j, j < 256 → W.cell? ⟨p, 65792 + j, none⟩ = some (.bool (M.wd j))) ∧
    (∀ j, j < 256 → W.cell? ⟨p, 66048 + j, none⟩ = some (.bool (M.hi j))) ∧ W.cell? ⟨p, 66304, none⟩ = some (.int .i64 n) ∧ (∀ i, W.frozen? ⟨p, i, none⟩ = false) ∧ p < W.heap.size
/-- nothing but block p has changed -/
def Only (p : Nat) (W W' : World) : Prop := W'.heap.size = W.heap.size ∧ (∀ b, b ≠ p → W'.heap[b]? = W.heap[b]?) ∧ ∀ B, B ≤ p → Below B W W'
theorem Only.refl (p : Nat) (W : World) : Only p W W := ⟨rfl, fun _ _ => rfl, fun B _ => Below.refl B W⟩
theorem HM.cell_other {p : Nat} {W : World} {j i : Nat} {v : Value} (hne : i ≠ j) : (W.setCell ⟨p, j, none⟩ v).cell? ⟨p, i, none⟩ = W.cell? ⟨p, i, none⟩ :=
  World.cell?_setCell_other _ _ _ _ (by intro h; simp only [Addr.mk.injEq] at h; omega)
end Go.Proofs.Ytcjcmnnhmajocab.Me
namespace Go.Proofs.Ytcjcmnnhmajocab.Me
open Go.RowKit Kt
set_option linter.unusedVariables false
set_option linter.unusedSimpArgs false
theorem Only.trans {p : Nat} {a b c : World} (h : Only p a b) (k : Only p b c) : Only p a c :=
  ⟨k.1.trans h.1, fun g hg => (k.2.1 g hg).trans (h.2.1 g hg), fun B hB => (h.2.2 B hB).trans (k.2.2 B hB)⟩
end Go.Proofs.Ytcjcmnnhmajocab.Me
namespace Go.Proofs.Ytcjcmnnhmajocab.Me
open Go.RowKit Kt
set_option linter.unusedVariables false
set_option linter.unusedSimpArgs false
/-- of the old blocks none outside S has changed -/
structure Upto (S : Nat → Prop) (w w' : World) : Prop where
  os : w'.os = w.os
  tape : w'.tape = w.tape
  output : w'.output = w.output
  size : w.heap.size ≤ w'.heap.size
  block : ∀ k, k < w.heap.size → ¬ S k → w'.heap[k]? = w.heap[k]?
theorem Upto.refl (S : Nat → Prop) (w : World) : Upto S w w := ⟨rfl, rfl, rfl, Nat.le_refl _, fun _ _ _ => rfl⟩
theorem Upto.trans {S : Nat → Prop} {a b c : World} (h : Upto S a b) (k : Upto S b c) : Upto S a c :=
  ⟨k.os.trans h.os, k.tape.trans h.tape, k.output.trans h.output, Nat.le_trans h.size k.size, fun i hi hs => (k.block i (Nat.lt_of_lt_of_le hi h.size) hs).trans (h.block i hi hs)⟩
theorem Upto.mono {S T : Nat → Prop} {a b : World} (h : Upto S a b) (hst : ∀ k, k < a.heap.size → S k → T k) : Upto T a b :=
  ⟨h.os, h.tape, h.output, h.size, fun i hi hs => h.block i hi (fun hx => hs (hst i hi hx))⟩
theorem Upto.drew {S : Nat → Prop} {a w : World} (h : Upto S a w) : Upto S a w.drew := ⟨h.os, h.tape, h.output, h.size, h.block⟩
theorem Upto.alloc {S : Nat → Prop} {a w : World} (h : Upto S a w) (o : Obj) : Upto S a (w.alloc o) :=
  h.trans ⟨rfl, rfl, rfl, by simp, fun k hk _ => Below.heap_alloc _ _ _ hk⟩
theorem Upto.setCell {S : Nat → Prop} {a w : World} (h : Upto S a w) {q : Addr} (hq : S q.block ∨ a.heap.size ≤ q.block) (u : Value) : Upto S a (w.setCell q u) :=
  ⟨h.os, h.tape, h.output, by simpa [World.setCell] using h.size, fun k hk hs => (Below.heap_setCell _ _ _ _ (by rintro rfl; rcases hq with hq | hq; exact hs hq; omega)).trans (h.block k hk hs)⟩
theorem Upto.cell {S : Nat → Prop} {w w' : World} (h : Upto S w w') {q : Addr} (hq : q.block < w.heap.size) (hs : ¬ S q.block) : w'.cell? q = w.cell? q := World.cell?_of_block (w := w) (h.block _ hq hs)
theorem Upto.frozen {S : Nat → Prop} {w w' : World} (h : Upto S w w') {q : Addr} (hq : q.block < w.heap.size) (hs : ¬ S q.block) : w'.frozen? q = w.frozen? q := World.frozen?_of_block (w := w) (h.block _ hq hs)
theorem Upto.below {S : Nat → Prop} {w w' : World} (h : Upto S w w') {B : Nat} (hB : B ≤ w.heap.size) (hs : ∀ k, k < B → ¬ S k) : Below B w w' := ⟨h.os, h.tape, h.output, h.size, fun k hk => h.block k (by omega) (hs k hk)⟩
theorem Upto.of_below {S : Nat → Prop} {w w' : World} (h : Below w.heap.size w w') : Upto S w w' := ⟨h.os, h.tape, h.output, h.size, fun k hk _ => h.block k hk⟩
theorem Upto.drop {B : Nat} {S : Nat → Prop} {w a b : World} (h : Upto S w a) (k : Upto (fun i => B ≤ i) a b) (hB : w.heap.size ≤ B) : Upto S w b :=
  ⟨k.os.trans h.os, k.tape.trans h.tape, k.output.trans h.output, Nat.le_trans h.size k.size, fun i hi hs => (k.block i (Nat.lt_of_lt_of_le hi h.size) (by omega)).trans (h.block i hi hs)⟩
theorem HM.upto {p : Nat} {M : MM} {n : Int} {S : Nat → Prop} {w w' : World} (h : HM p M n w) (u : Upto S w w') (hs : ¬ S p) : HM p M n w' := by
  obtain ⟨h1, h2, h3, h4, h5, h6, h7⟩ := h
  have e : ∀ i, w'.cell? ⟨p, i, none⟩ = w.cell? ⟨p, i, none⟩ := fun i => u.cell h7 hs
  refine ⟨fun j hj => ?_, fun j hj => ?_, fun j hj => ?_, fun j hj => ?_, ?_, fun i => ?_, Nat.lt_of_lt_of_le h7 u.size⟩
  · rw [e]; exact h1 j hj
  · rw [e]; exact h2 j hj
  · rw [e]; exact h3 j hj
  · rw [e]; exact h4 j hj
  · rw [e]; exact h5
  · exact (u.frozen (q := ⟨p, i, none⟩) h7 hs).trans (h6 i)
end Go.Proofs.Ytcjcmnnhmajocab.Me
