/- Exits: what is the same is equal. -/
import Derived.ChangeKeysEq
import Derived.Laws.StructEq
import Derived.Test.YtcjcmnnhmajocabIrSk
namespace Go.Proofs.Ytcjcmnnhmajocab.Kt
open Go
variable {P : Program}
theorem eqItems_self (d : Nat) {e : TypeId} (hu : P.underlying e = some (.int .u32)) (hp : P.plainKey e = true) (xs : Array Value) : ∀ (is : List Nat) (w : World), (∀ i ∈ is, ∃ z, xs[i]? = some (.int .u32 z)) →
    (Op.eqItems (d + 1) e 1 xs xs is).run P w = .ok true w
  | [], w, _ => by simp [Op.eqItems]
  | i :: is, w, h => by
    obtain ⟨z, hz⟩ := h i (by simp)
    have p1 := run_part_plain w hp hz
    have p3 := run_equalIn_int (P := P) w d e .u32 .u32 z z hu
    simp only [Op.eqItems, Nat.mul_one, Sem.run_bind, p1, p3, Result.andThen_ok]
    simpa using eqItems_self d hu hp xs is w (fun j hj => h j (by simp [hj]))
theorem equalIn_u32s (d : Nat) {t e : TypeId} {n : Nat} {i : TypeInfo} (hu : P.underlying t = some (.array n e)) (he : P.underlying e = some (.int .u32)) (hp : P.plainKey e = true) (hi : P.info? e = some i) (hc : P.cellsOf e = 1) (xs : Array Value)
    (h : ∀ i, i < n → ∃ z, xs[i]? = some (.int .u32 z)) (w : World) : (Op.equalIn (d + 2) t (.agg xs) (.agg xs)).run P w = .ok true w := by
  rw [run_equalIn_array w (d + 1) xs xs hu hi, hc]
  exact eqItems_self d he hp xs _ w (fun j hj => h j (by simpa using hj))
theorem equalIn_u32s' (d D : Nat) (hD : D = d + 2) {t e : TypeId} {n : Nat} {i : TypeInfo} (hu : P.underlying t = some (.array n e)) (he : P.underlying e = some (.int .u32)) (hp : P.plainKey e = true) (hi : P.info? e = some i) (hc : P.cellsOf e = 1) (xs : Array Value)
    (h : ∀ i, i < n → ∃ z, xs[i]? = some (.int .u32 z)) (w : World) : (Op.equalIn D t (.agg xs) (.agg xs)).run P w = .ok true w := by
  subst hD
  exact equalIn_u32s d hu he hp hi hc xs h w
theorem eql_u32s {t e : TypeId} {n : Nat} {i : TypeInfo} (hu : P.underlying t = some (.array n e)) (he : P.underlying e = some (.int .u32)) (hp : P.plainKey e = true) (hi : P.info? e = some i) (hc : P.cellsOf e = 1) (xs : Array Value)
    (h : ∀ i, i < n → ∃ z, xs[i]? = some (.int .u32 z)) : ∀ (w : World), (binOp .eql t (.agg xs) (.agg xs)).run P w = .ok (.bool true) w := by
  intro w
  rw [run_eql_struct, equalIn_u32s 9998 hu he hp hi hc xs h w]
  rfl
theorem eqFields_self (d : Nat) (xs : Array Value) : ∀ (fs : List Field) (w : World), (∀ f ∈ fs, ∃ v, (∀ w, (part f.type xs f.offset).run P w = .ok v w) ∧ ∀ w, (Op.equalIn d f.type v v).run P w = .ok true w) →
    (Op.eqFields d xs xs fs).run P w = .ok true w
  | [], w, _ => by simp [Op.eqFields]
  | f :: fs, w, h => by
    obtain ⟨v, hv, he⟩ := h f (by simp)
    have ih := eqFields_self d xs fs w (fun j hj => h j (by simp [hj]))
    simp only [Op.eqFields]
    split
    · simp only [Sem.run_bind, hv, he, Result.andThen_ok]
      simpa using ih
    · exact ih
theorem eql_struct {t : TypeId} (ht : P.underlying t = some (.struct (P.fieldsOf t))) (hp : P.stoodInHeld t = false) (xs : Array Value)
    (h : ∀ f ∈ (P.fieldsOf t).toList, ∃ v, (∀ w, (part f.type xs f.offset).run P w = .ok v w) ∧ ∀ w, (Op.equalIn 9999 f.type v v).run P w = .ok true w) : ∀ (w : World), (binOp .eql t (.agg xs) (.agg xs)).run P w = .ok (.bool true) w := by
  intro w
  rw [run_eql_struct, run_equalIn_struct w 9999 t xs xs ht hp, eqFields_self 9999 xs _ w h]
  rfl
theorem part_range {t : TypeId} {v : Value} {xs : Array Value} {off : Nat} (h : ∀ w : World, (part t xs off).run P w = .ok v w) : ∀ w, (part t xs off).run P w = .ok v w := h
end Go.Proofs.Ytcjcmnnhmajocab.Kt
namespace Go.Proofs.Ytcjcmnnhmajocab.Ir
open Go Kt
theorem eq_context (c0 c1 c2 c3 c4 c5 c6 c7 c8 c9 c10 c11 : Int) : ∀ (w : World), (binOp .eql 37 (.agg #[.int .u32 c0, .int .u32 c1, .int .u32 c2, .int .u32 c3, .int .u32 c4, .int .u32 c5, .int .u32 c6, .int .u32 c7, .int .u32 c8, .int .u32 c9, .int .u32 c10, .int .u32 c11]) (.agg #[.int .u32 c0, .int .u32 c1, .int .u32 c2, .int .u32 c3, .int .u32 c4, .int .u32 c5, .int .u32 c6, .int .u32 c7, .int .u32 c8, .int .u32 c9, .int .u32 c10, .int .u32 c11])).run Try.prog w = .ok (.bool true) w := by
  refine eql_u32s Try.underlying37 Try.underlying22 (by kernel_rfl) (i := (Try.prog.info? 22).get!) (by kernel_rfl) (by kernel_rfl) _ ?_
  intro i hi
  match i, hi with
  | 0, _ | 1, _ | 2, _ | 3, _ | 4, _ | 5, _ | 6, _ | 7, _ | 8, _ | 9, _ | 10, _ | 11, _ => exact ⟨_, rfl⟩
  | n + 12, h => omega
theorem nine : (9999 : Nat) = 9997 + 2 := by kernel_rfl
theorem eq_state (c0 c1 c2 c3 c4 c5 c6 c7 c8 c9 : Int) : ∀ (w : World), (binOp .eql 72 (.agg #[.int .u32 c0, .int .u32 c1, .int .u32 c2, .int .u32 c3, .int .u32 c4, .int .u32 c5, .int .u32 c6, .int .u32 c7, .int .u32 c8, .int .u32 c9]) (.agg #[.int .u32 c0, .int .u32 c1, .int .u32 c2, .int .u32 c3, .int .u32 c4, .int .u32 c5, .int .u32 c6, .int .u32 c7, .int .u32 c8, .int .u32 c9])).run Try.prog w = .ok (.bool true) w := by
  refine eql_struct (by kernel_rfl) (by kernel_rfl) _ ?_
  have hl : (Try.prog.fieldsOf 72).toList = [(Try.prog.fieldsOf 72)[0]!, (Try.prog.fieldsOf 72)[1]!, (Try.prog.fieldsOf 72)[2]!] := by kernel_rfl
  rw [hl]
  refine List.forall_mem_cons.2 ⟨?_, List.forall_mem_cons.2 ⟨?_, List.forall_mem_cons.2 ⟨?_, fun f hf => (List.not_mem_nil hf).elim⟩⟩⟩
  · refine ⟨.agg #[.int .u32 c0, .int .u32 c1, .int .u32 c2, .int .u32 c3, .int .u32 c4, .int .u32 c5, .int .u32 c6, .int .u32 c7], fun w => by kernel_rfl, ?_⟩
    refine equalIn_u32s' 9997 9999 nine (t := ((Try.prog.fieldsOf 72)[0]!).type) (n := 8) (e := 22) (by kernel_rfl) Try.underlying22 (by kernel_rfl) (i := (Try.prog.info? 22).get!) (by kernel_rfl) (by kernel_rfl) _ ?_
    intro i hi
    match i, hi with
    | 0, _ | 1, _ | 2, _ | 3, _ | 4, _ | 5, _ | 6, _ | 7, _ => exact ⟨_, rfl⟩
    | n + 8, h => omega
  · refine ⟨.int .u32 c8, fun w => by kernel_rfl, fun w => ?_⟩
    have := run_equalIn_int (P := Try.prog) w 9998 ((Try.prog.fieldsOf 72)[1]!).type .u32 .u32 c8 c8 (by kernel_rfl)
    simpa using this
  · refine ⟨.int .u32 c9, fun w => by kernel_rfl, fun w => ?_⟩
    have := run_equalIn_int (P := Try.prog) w 9998 ((Try.prog.fieldsOf 72)[2]!).type .u32 .u32 c9 c9 (by kernel_rfl)
    simpa using this
end Go.Proofs.Ytcjcmnnhmajocab.Ir
namespace Go.Proofs.Ytcjcmnnhmajocab.Ev
open Go Kt
set_option linter.unusedVariables false
theorem eq_stop (d : Nat) (k x : Int) : ∀ w : World, (Op.equalIn (d + 2) 46 (.agg #[.int .i64 k, .int .u32 x]) (.agg #[.int .i64 k, .int .u32 x])).run Try.prog w = .ok true w := by
  intro w
  rw [run_equalIn_struct w (d + 1) 46 _ _ (by kernel_rfl) (by kernel_rfl)]
  refine eqFields_self (d + 1) _ _ w ?_
  have hl : (Try.prog.fieldsOf 46).toList = [(Try.prog.fieldsOf 46)[0]!, (Try.prog.fieldsOf 46)[1]!] := by kernel_rfl
  rw [hl]
  refine List.forall_mem_cons.2 ⟨?_, List.forall_mem_cons.2 ⟨?_, fun f hf => (List.not_mem_nil hf).elim⟩⟩
  · refine ⟨.int .i64 k, fun w => by kernel_rfl, fun w => ?_⟩
    have := run_equalIn_int (P := Try.prog) w d ((Try.prog.fieldsOf 46)[0]!).type .i64 .i64 k k (by kernel_rfl)
    simpa using this
  · refine ⟨.int .u32 x, fun w => by kernel_rfl, fun w => ?_⟩
    have := run_equalIn_int (P := Try.prog) w d ((Try.prog.fieldsOf 46)[1]!).type .u32 .u32 x x (by kernel_rfl)
    simpa using this
theorem eq_exit (k x p n : Int) : ∀ w : World, (binOp .eql 48 (.agg #[.int .i64 k, .int .u32 x, .int .u32 p, .int .i64 n]) (.agg #[.int .i64 k, .int .u32 x, .int .u32 p, .int .i64 n])).run Try.prog w = .ok (.bool true) w := by
  refine eql_struct (by kernel_rfl) (by kernel_rfl) _ ?_
  have hl : (Try.prog.fieldsOf 48).toList = [(Try.prog.fieldsOf 48)[0]!, (Try.prog.fieldsOf 48)[1]!, (Try.prog.fieldsOf 48)[2]!] := by kernel_rfl
  rw [hl]
  refine List.forall_mem_cons.2 ⟨?_, List.forall_mem_cons.2 ⟨?_, List.forall_mem_cons.2 ⟨?_, fun f hf => (List.not_mem_nil hf).elim⟩⟩⟩
  · have ht : ((Try.prog.fieldsOf 48)[0]!).type = 46 := by kernel_rfl
    refine ⟨.agg #[.int .i64 k, .int .u32 x], fun w => by kernel_rfl, ?_⟩
    rw [ht]
    have h9 : (9999 : Nat) = 9997 + 2 := by kernel_rfl
    rw [h9]
    exact eq_stop 9997 k x
  · refine ⟨.int .u32 p, fun w => by kernel_rfl, fun w => ?_⟩
    have := run_equalIn_int (P := Try.prog) w 9998 ((Try.prog.fieldsOf 48)[1]!).type .u32 .u32 p p (by kernel_rfl)
    simpa using this
  · refine ⟨.int .i64 n, fun w => by kernel_rfl, fun w => ?_⟩
    have := run_equalIn_int (P := Try.prog) w 9998 ((Try.prog.fieldsOf 48)[2]!).type .i64 .i64 n n (by kernel_rfl)
    simpa using this
end Go.Proofs.Ytcjcmnnhmajocab.Ev
