/- Laws on single operations, whatever the program: a closed operation by one run of the kernel; a table that is laid into a new variable, kept under one name. -/
import Derived.WalkKit
import Derived.WalkLawsBesides
import Derived.WalkSpells
import Derived.Below
import Derived.Lib.Hide
namespace Go.Proofs.Ytcjcmnnhmajocaa.Kt
open Go.RowKit
set_option linter.unusedVariables false

theorem wpList_value {P : Program} {ops : Array Oper} {rest : List Oper} {o : Oper} {a : Act} {w : World} {Q : Exit → Act → World → Prop} (hg : o.guard = none) {v : Value}
    (h : (execOp a.eval o).run P w = .ok (.value v) w) (hK : wpList P ops Q rest (a.put o.dst v) w) : wpList P ops Q (o :: rest) a w :=
  wpList_plain hg fun K hK' => by
    unfold Oper.wp
    rw [h]
    exact hK' _ _ hK

/-- an operation's run that leaves the world w' -/
theorem wpList_run {P : Program} {ops : Array Oper} {rest : List Oper} {o : Oper} {a : Act} {w w' : World} {Q : Exit → Act → World → Prop} (hg : o.guard = none) {v : Value}
    (h : (execOp a.eval o).run P w = .ok (.value v) w') (hK : wpList P ops Q rest (a.put o.dst v) w') : wpList P ops Q (o :: rest) a w :=
  wpList_plain hg fun K hK' => by
    unfold Oper.wp
    rw [h]
    exact hK' _ _ hK

theorem setRow_new (w : World) (old cs : Array Value) (t : TypeId) : (w.alloc (.cells old t)).setRow w.heap.size cs = w.alloc (.cells cs t) := by
  unfold World.setRow World.alloc
  congr 1
  apply Array.ext_getElem?
  intro k
  rw [Array.getElem?_modify]
  by_cases hk : w.heap.size = k
  · subst hk
    simp
  · have hk' : k ≠ w.heap.size := fun e => hk e.symm
    simp [hk, hk', Array.getElem?_push]

/-- 'tab := [..]T{..}': the value cs lies in a slot; a new variable is made and has it. -/
theorem wpList_lay {P : Program} {ops : Array Oper} {rest : List Oper} {o2 o3 : Oper} {a : Act} {w : World} {Q : Exit → Act → World → Prop} (hg2 : o2.guard = none) (hg3 : o3.guard = none)
    (t : TypeId) (h2 : o2.op = .alloc t) (x y : Operand) (h3 : o3.op = .store t x y) (h3d : o3.dst = none) (i : TypeInfo) (z : Value) (hi : P.info? t = some i) (hz : i.zero = some z) (n : Nat) (hzs : z.cells.size = n) (hn : i.size = n)
    (cs : Array Value) (hcs : cs.size = n) (h1 : cs.all (·.oneCell') = true)
    (hx : (a.put o2.dst (.pointer (some ⟨w.heap.size, 0, none⟩))).eval x = .pointer (some ⟨w.heap.size, 0, none⟩)) (hy : (a.put o2.dst (.pointer (some ⟨w.heap.size, 0, none⟩))).eval y = .agg cs)
    (hK : wpList P ops Q rest (a.put o2.dst (.pointer (some ⟨w.heap.size, 0, none⟩))) (w.alloc (.cells cs t))) : wpList P ops Q (o2 :: o3 :: rest) a w := by
  refine wpList_run hg2 (v := .pointer (some ⟨w.heap.size, 0, none⟩)) (w' := w.alloc (.cells z.cells t)) ?_ ?_
  · simp only [execOp, h2, Instr.alloc, Sem.run_bind, Sem.run_pure, zeroValue, typeInfo]
    simp [hi, hz, newVar, newRow]
  · refine wpList_plain hg3 fun K hK' => ?_
    have hw : (w.alloc (.cells z.cells t)).heap[w.heap.size]? = some (.cells z.cells t (0, 0)) := heap_alloc_new w _
    have hr := run_storeVar_row (P := P) (w.alloc (.cells z.cells t)) w.heap.size t t z.cells cs hw (by simp [hi, hn, hcs]) (by rw [hzs, hcs]) h1
    rw [setRow_new] at hr
    unfold Oper.wp
    have he : (execOp (a.put o2.dst (.pointer (some ⟨w.heap.size, 0, none⟩))).eval o3).run P (w.alloc (.cells z.cells t)) = .ok .skip (w.alloc (.cells cs t)) := by
      simp only [execOp, h3, hx, hy, Instr.storeAt, Instr.sureAddr, Sem.run_bind, Sem.run_pure, Result.andThen_ok, hr]
    rw [he]
    show K ((a.put o2.dst _).put o3.dst undef) _
    rw [h3d]
    exact hK' _ _ hK
end Go.Proofs.Ytcjcmnnhmajocaa.Kt
