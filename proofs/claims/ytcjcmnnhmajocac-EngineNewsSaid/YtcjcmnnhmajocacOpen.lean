import Derived.RowKit
import GoSem.ClaimWide
import Derived.WideShapes
namespace Go.Proofs.Ytcjcmnnhmajocac.Kt
open Go
variable {P : Program} {w : World} {r : Reach} {base : Nat} {t : TypeId} {v : Value}
def rowly (P : Program) (t : TypeId) : Bool := match P.underlying t with
  | some (.struct _) => true
  | some (.array _ _) => true
  | _ => false
theorem okWide_cells {n : Nat} {ts : List TypeId} (hu : rowly P t = true) (hc : P.cellsOf t = n) (ht : P.cellTypes P.depth t = some ts) (h : Value.okWide P w r base t v) :
    ∃ cs, v = .agg cs ∧ cs.size = n ∧ ∀ (i : Nat) (x : Value) (u : TypeId), cs[i]? = some x → ts[i]? = some u → Cell.okWide P w r base u x := by
  have h' : ∃ cs, v = .agg cs ∧ cs.size = P.cellsOf t ∧ Row.okWide P w r base t cs := by
    unfold rowly at hu
    unfold Value.okWide at h
    cases hx : P.underlying t with
    | none => simp [hx] at hu
    | some d => cases d <;> simp_all
  obtain ⟨cs, h1, h2, ts', h3, _, h5⟩ := h'
  rw [ht] at h3
  obtain rfl := Option.some.inj h3
  refine ⟨cs, h1, h2.trans hc, fun i x u hi hu' => ?_⟩
  obtain ⟨u2, e1, e2⟩ := h5 i x hi
  have hlt : i < ts.length := by
    by_cases hh : i < ts.length
    · exact hh
    · rw [List.getElem?_eq_none (by omega)] at hu'; cases hu'
  rw [Nat.mod_eq_of_lt hlt, hu'] at e1
  obtain rfl := Option.some.inj e1
  exact e2
theorem cell_int {u : TypeId} {k : IntKind} {x : Value} (hu : P.underlying u = some (.int k)) (h : Cell.okWide P w r base u x) : ∃ n, x = .int k n ∧ (Lit.int k n).wf = true := by
  simp only [Cell.okWide, hu] at h
  cases x <;> simp_all [Cell.ok, Lit.wf, IntKind.has]
theorem cell_bool {u : TypeId} {x : Value} (hu : P.underlying u = some .bool) (h : Cell.okWide P w r base u x) : ∃ b, x = .bool b := by
  simp only [Cell.okWide, hu] at h
  cases x <;> simp_all [Cell.ok]
theorem value_int {k : IntKind} (hu : P.underlying t = some (.int k)) (h : Value.okWide P w r base t v) : ∃ n, v = .int k n ∧ (Lit.int k n).wf = true := by
  simp only [Value.okWide, Cell.okWide, hu] at h
  cases v <;> simp_all [Cell.ok, Lit.wf, IntKind.has]
theorem size2 {cs : Array Value} (h : cs.size = 2) : ∃ x0 x1, cs = #[x0, x1] := by
  rcases cs with ⟨l⟩
  match l, h with
  | [x0, x1], _ => exact ⟨x0, x1, rfl⟩
theorem size3 {cs : Array Value} (h : cs.size = 3) : ∃ x0 x1 x2, cs = #[x0, x1, x2] := by
  rcases cs with ⟨l⟩
  match l, h with
  | [x0, x1, x2], _ => exact ⟨x0, x1, x2, rfl⟩
theorem size4 {cs : Array Value} (h : cs.size = 4) : ∃ x0 x1 x2 x3, cs = #[x0, x1, x2, x3] := by
  rcases cs with ⟨l⟩
  match l, h with
  | [x0, x1, x2, x3], _ => exact ⟨x0, x1, x2, x3, rfl⟩
theorem size5 {cs : Array Value} (h : cs.size = 5) : ∃ x0 x1 x2 x3 x4, cs = #[x0, x1, x2, x3, x4] := by
  rcases cs with ⟨l⟩
  match l, h with
  | [x0, x1, x2, x3, x4], _ => exact ⟨x0, x1, x2, x3, x4, rfl⟩
theorem size6 {cs : Array Value} (h : cs.size = 6) : ∃ x0 x1 x2 x3 x4 x5, cs = #[x0, x1, x2, x3, x4, x5] := by
  rcases cs with ⟨l⟩
  match l, h with
  | [x0, x1, x2, x3, x4, x5], _ => exact ⟨x0, x1, x2, x3, x4, x5, rfl⟩
theorem size7 {cs : Array Value} (h : cs.size = 7) : ∃ x0 x1 x2 x3 x4 x5 x6, cs = #[x0, x1, x2, x3, x4, x5, x6] := by
  rcases cs with ⟨l⟩
  match l, h with
  | [x0, x1, x2, x3, x4, x5, x6], _ => exact ⟨x0, x1, x2, x3, x4, x5, x6, rfl⟩
theorem size8 {cs : Array Value} (h : cs.size = 8) : ∃ x0 x1 x2 x3 x4 x5 x6 x7, cs = #[x0, x1, x2, x3, x4, x5, x6, x7] := by
  rcases cs with ⟨l⟩
  match l, h with
  | [x0, x1, x2, x3, x4, x5, x6, x7], _ => exact ⟨x0, x1, x2, x3, x4, x5, x6, x7, rfl⟩
theorem size9 {cs : Array Value} (h : cs.size = 9) : ∃ x0 x1 x2 x3 x4 x5 x6 x7 x8, cs = #[x0, x1, x2, x3, x4, x5, x6, x7, x8] := by
  rcases cs with ⟨l⟩
  match l, h with
  | [x0, x1, x2, x3, x4, x5, x6, x7, x8], _ => exact ⟨x0, x1, x2, x3, x4, x5, x6, x7, x8, rfl⟩
theorem size10 {cs : Array Value} (h : cs.size = 10) : ∃ x0 x1 x2 x3 x4 x5 x6 x7 x8 x9, cs = #[x0, x1, x2, x3, x4, x5, x6, x7, x8, x9] := by
  rcases cs with ⟨l⟩
  match l, h with
  | [x0, x1, x2, x3, x4, x5, x6, x7, x8, x9], _ => exact ⟨x0, x1, x2, x3, x4, x5, x6, x7, x8, x9, rfl⟩
theorem size11 {cs : Array Value} (h : cs.size = 11) : ∃ x0 x1 x2 x3 x4 x5 x6 x7 x8 x9 x10, cs = #[x0, x1, x2, x3, x4, x5, x6, x7, x8, x9, x10] := by
  rcases cs with ⟨l⟩
  match l, h with
  | [x0, x1, x2, x3, x4, x5, x6, x7, x8, x9, x10], _ => exact ⟨x0, x1, x2, x3, x4, x5, x6, x7, x8, x9, x10, rfl⟩
theorem size12 {cs : Array Value} (h : cs.size = 12) : ∃ x0 x1 x2 x3 x4 x5 x6 x7 x8 x9 x10 x11, cs = #[x0, x1, x2, x3, x4, x5, x6, x7, x8, x9, x10, x11] := by
  rcases cs with ⟨l⟩
  match l, h with
  | [x0, x1, x2, x3, x4, x5, x6, x7, x8, x9, x10, x11], _ => exact ⟨x0, x1, x2, x3, x4, x5, x6, x7, x8, x9, x10, x11, rfl⟩
theorem size13 {cs : Array Value} (h : cs.size = 13) : ∃ x0 x1 x2 x3 x4 x5 x6 x7 x8 x9 x10 x11 x12, cs = #[x0, x1, x2, x3, x4, x5, x6, x7, x8, x9, x10, x11, x12] := by
  rcases cs with ⟨l⟩
  match l, h with
  | [x0, x1, x2, x3, x4, x5, x6, x7, x8, x9, x10, x11, x12], _ => exact ⟨x0, x1, x2, x3, x4, x5, x6, x7, x8, x9, x10, x11, x12, rfl⟩
theorem size14 {cs : Array Value} (h : cs.size = 14) : ∃ x0 x1 x2 x3 x4 x5 x6 x7 x8 x9 x10 x11 x12 x13, cs = #[x0, x1, x2, x3, x4, x5, x6, x7, x8, x9, x10, x11, x12, x13] := by
  rcases cs with ⟨l⟩
  match l, h with
  | [x0, x1, x2, x3, x4, x5, x6, x7, x8, x9, x10, x11, x12, x13], _ => exact ⟨x0, x1, x2, x3, x4, x5, x6, x7, x8, x9, x10, x11, x12, x13, rfl⟩
theorem size15 {cs : Array Value} (h : cs.size = 15) : ∃ x0 x1 x2 x3 x4 x5 x6 x7 x8 x9 x10 x11 x12 x13 x14, cs = #[x0, x1, x2, x3, x4, x5, x6, x7, x8, x9, x10, x11, x12, x13, x14] := by
  rcases cs with ⟨l⟩
  match l, h with
  | [x0, x1, x2, x3, x4, x5, x6, x7, x8, x9, x10, x11, x12, x13, x14], _ => exact ⟨x0, x1, x2, x3, x4, x5, x6, x7, x8, x9, x10, x11, x12, x13, x14, rfl⟩
theorem size16 {cs : Array Value} (h : cs.size = 16) : ∃ x0 x1 x2 x3 x4 x5 x6 x7 x8 x9 x10 x11 x12 x13 x14 x15, cs = #[x0, x1, x2, x3, x4, x5, x6, x7, x8, x9, x10, x11, x12, x13, x14, x15] := by
  rcases cs with ⟨l⟩
  match l, h with
  | [x0, x1, x2, x3, x4, x5, x6, x7, x8, x9, x10, x11, x12, x13, x14, x15], _ => exact ⟨x0, x1, x2, x3, x4, x5, x6, x7, x8, x9, x10, x11, x12, x13, x14, x15, rfl⟩
theorem size17 {cs : Array Value} (h : cs.size = 17) : ∃ x0 x1 x2 x3 x4 x5 x6 x7 x8 x9 x10 x11 x12 x13 x14 x15 x16, cs = #[x0, x1, x2, x3, x4, x5, x6, x7, x8, x9, x10, x11, x12, x13, x14, x15, x16] := by
  rcases cs with ⟨l⟩
  match l, h with
  | [x0, x1, x2, x3, x4, x5, x6, x7, x8, x9, x10, x11, x12, x13, x14, x15, x16], _ => exact ⟨x0, x1, x2, x3, x4, x5, x6, x7, x8, x9, x10, x11, x12, x13, x14, x15, x16, rfl⟩
theorem size18 {cs : Array Value} (h : cs.size = 18) : ∃ x0 x1 x2 x3 x4 x5 x6 x7 x8 x9 x10 x11 x12 x13 x14 x15 x16 x17, cs = #[x0, x1, x2, x3, x4, x5, x6, x7, x8, x9, x10, x11, x12, x13, x14, x15, x16, x17] := by
  rcases cs with ⟨l⟩
  match l, h with
  | [x0, x1, x2, x3, x4, x5, x6, x7, x8, x9, x10, x11, x12, x13, x14, x15, x16, x17], _ => exact ⟨x0, x1, x2, x3, x4, x5, x6, x7, x8, x9, x10, x11, x12, x13, x14, x15, x16, x17, rfl⟩
theorem size19 {cs : Array Value} (h : cs.size = 19) : ∃ x0 x1 x2 x3 x4 x5 x6 x7 x8 x9 x10 x11 x12 x13 x14 x15 x16 x17 x18, cs = #[x0, x1, x2, x3, x4, x5, x6, x7, x8, x9, x10, x11, x12, x13, x14, x15, x16, x17, x18] := by
  rcases cs with ⟨l⟩
  match l, h with
  | [x0, x1, x2, x3, x4, x5, x6, x7, x8, x9, x10, x11, x12, x13, x14, x15, x16, x17, x18], _ => exact ⟨x0, x1, x2, x3, x4, x5, x6, x7, x8, x9, x10, x11, x12, x13, x14, x15, x16, x17, x18, rfl⟩
theorem size20 {cs : Array Value} (h : cs.size = 20) : ∃ x0 x1 x2 x3 x4 x5 x6 x7 x8 x9 x10 x11 x12 x13 x14 x15 x16 x17 x18 x19, cs = #[x0, x1, x2, x3, x4, x5, x6, x7, x8, x9, x10, x11, x12, x13, x14, x15, x16, x17, x18, x19] := by
  rcases cs with ⟨l⟩
  match l, h with
  | [x0, x1, x2, x3, x4, x5, x6, x7, x8, x9, x10, x11, x12, x13, x14, x15, x16, x17, x18, x19], _ => exact ⟨x0, x1, x2, x3, x4, x5, x6, x7, x8, x9, x10, x11, x12, x13, x14, x15, x16, x17, x18, x19, rfl⟩
theorem size21 {cs : Array Value} (h : cs.size = 21) : ∃ x0 x1 x2 x3 x4 x5 x6 x7 x8 x9 x10 x11 x12 x13 x14 x15 x16 x17 x18 x19 x20, cs = #[x0, x1, x2, x3, x4, x5, x6, x7, x8, x9, x10, x11, x12, x13, x14, x15, x16, x17, x18, x19, x20] := by
  rcases cs with ⟨l⟩
  match l, h with
  | [x0, x1, x2, x3, x4, x5, x6, x7, x8, x9, x10, x11, x12, x13, x14, x15, x16, x17, x18, x19, x20], _ => exact ⟨x0, x1, x2, x3, x4, x5, x6, x7, x8, x9, x10, x11, x12, x13, x14, x15, x16, x17, x18, x19, x20, rfl⟩
theorem size22 {cs : Array Value} (h : cs.size = 22) : ∃ x0 x1 x2 x3 x4 x5 x6 x7 x8 x9 x10 x11 x12 x13 x14 x15 x16 x17 x18 x19 x20 x21, cs = #[x0, x1, x2, x3, x4, x5, x6, x7, x8, x9, x10, x11, x12, x13, x14, x15, x16, x17, x18, x19, x20, x21] := by
  rcases cs with ⟨l⟩
  match l, h with
  | [x0, x1, x2, x3, x4, x5, x6, x7, x8, x9, x10, x11, x12, x13, x14, x15, x16, x17, x18, x19, x20, x21], _ => exact ⟨x0, x1, x2, x3, x4, x5, x6, x7, x8, x9, x10, x11, x12, x13, x14, x15, x16, x17, x18, x19, x20, x21, rfl⟩
theorem size23 {cs : Array Value} (h : cs.size = 23) : ∃ x0 x1 x2 x3 x4 x5 x6 x7 x8 x9 x10 x11 x12 x13 x14 x15 x16 x17 x18 x19 x20 x21 x22, cs = #[x0, x1, x2, x3, x4, x5, x6, x7, x8, x9, x10, x11, x12, x13, x14, x15, x16, x17, x18, x19, x20, x21, x22] := by
  rcases cs with ⟨l⟩
  match l, h with
  | [x0, x1, x2, x3, x4, x5, x6, x7, x8, x9, x10, x11, x12, x13, x14, x15, x16, x17, x18, x19, x20, x21, x22], _ => exact ⟨x0, x1, x2, x3, x4, x5, x6, x7, x8, x9, x10, x11, x12, x13, x14, x15, x16, x17, x18, x19, x20, x21, x22, rfl⟩
theorem size24 {cs : Array Value} (h : cs.size = 24) : ∃ x0 x1 x2 x3 x4 x5 x6 x7 x8 x9 x10 x11 x12 x13 x14 x15 x16 x17 x18 x19 x20 x21 x22 x23, cs = #[x0, x1, x2, x3, x4, x5, x6, x7, x8, x9, x10, x11, x12, x13, x14, x15, x16, x17, x18, x19, x20, x21, x22, x23] := by
  rcases cs with ⟨l⟩
  match l, h with
  | [x0, x1, x2, x3, x4, x5, x6, x7, x8, x9, x10, x11, x12, x13, x14, x15, x16, x17, x18, x19, x20, x21, x22, x23], _ => exact ⟨x0, x1, x2, x3, x4, x5, x6, x7, x8, x9, x10, x11, x12, x13, x14, x15, x16, x17, x18, x19, x20, x21, x22, x23, rfl⟩
end Go.Proofs.Ytcjcmnnhmajocac.Kt
