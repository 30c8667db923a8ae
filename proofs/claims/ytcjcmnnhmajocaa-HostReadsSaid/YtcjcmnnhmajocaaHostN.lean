import Derived.Test.YtcjcmnnhmajocaaHostM
import Derived.Deep.OwnRows
import Derived.ArgAppend
namespace Go.Proofs.Ytcjcmnnhmajocaa.Ho
open Go.RowKit Kt
set_option linter.unusedVariables false
theorem u32_info : ∃ i, Try.prog.info? 25 = some i ∧ i.zero = some (.int .u32 0) ∧ i.size = 1 ∧ i.bytes = 4 := by
  have h : (Try.prog.info? 25).map (fun i => (i.zero, i.size, i.bytes)) = some (some (.int .u32 0), 1, 4) := by kernel_rfl
  obtain ⟨i, hi, hz⟩ := Option.map_eq_some_iff.1 h
  simp only [Prod.mk.injEq] at hz
  exact ⟨i, hi, hz.1, hz.2.1, hz.2.2⟩
theorem make3 (w : World) : (Instr.makeSlice 43 (.int .i64 0) (.int .i64 3)).run Try.prog w = .ok (.slice (some ⟨w.heap.size, 0, none⟩) 0 3) (w.alloc (.cells #[.int .u32 0, .int .u32 0, .int .u32 0] 25)) := by
  obtain ⟨i, hi, hz, hs, hb⟩ := u32_info
  have hr := run_make (P := Try.prog) w 43 25 i (.int .u32 0) Try.underlying43 hi hz .i64 .i64 0 3 (by omega) (by omega) (by rw [hb]; decide) (by omega)
  rw [hs] at hr
  rw [show madeCells (Value.int IntKind.u32 0).cells ((3 : Int).toNat * 1) = #[.int .u32 0, .int .u32 0, .int .u32 0] by kernel_rfl] at hr
  exact hr
theorem app1 (W : World) (g s n c : Nat) (v : Int) (hn : n + 1 ≤ 3) (hg : (W.cell? ⟨g, n, none⟩).isSome = true) (hf : W.frozen? ⟨g, n, none⟩ = false) (hs : W.cell? ⟨s, 0, none⟩ = some (.int .u32 v)) :
    (Builtin.append_ #[43, 43] 43 #[.slice (some ⟨g, 0, none⟩) n 3, .slice (some ⟨s, 0, none⟩) 1 c]).run Try.prog W = .ok (.slice (some ⟨g, 0, none⟩) (n + 1) 3) (W.setCell ⟨g, n, none⟩ (.int .u32 v)) := by
  obtain ⟨i, hi, hz, hsz, hb⟩ := u32_info
  have hr := run_append_room_cells (P := Try.prog) W 43 43 25 i Try.underlying43 hi g 0 n 3 ⟨s, 0, none⟩ 1 c [.int .u32 v] (by rw [hsz]; rfl) (fun j u hj => ?_) (by simp [Value.oneCell']) hn (fun j hj => ?_) (fun j hj => ?_)
  · rw [hr, hsz]
    simp [World.setCells]
  · match j, hj with
    | 0, hj => simp only [List.getElem?_cons_zero, Option.some.injEq] at hj; subst hj; exact hs
  · obtain rfl : j = 0 := by simpa using hj
    rw [hsz]; simpa using hg
  · obtain rfl : j = 0 := by simpa using hj
    rw [hsz]; simpa using hf
end Go.Proofs.Ytcjcmnnhmajocaa.Ho
