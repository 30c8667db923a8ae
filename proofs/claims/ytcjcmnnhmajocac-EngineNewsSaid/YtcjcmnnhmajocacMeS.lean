/- mem.New: a memory of zeroes. -/
import Derived.Test.YtcjcmnnhmajocacMeG
namespace Go.Proofs.Ytcjcmnnhmajocac.Me
open Go.RowKit Kt
set_option linter.unusedVariables false
set_option linter.unusedSimpArgs false
/-- the first n of a list are such; what stands behind them -/
def eat (p : Value → Bool) : Nat → List Value → Option (List Value)
  | 0, l => some l
  | _ + 1, [] => none
  | n + 1, v :: r => bif p v then eat p n r else none
theorem eat_spec {p : Value → Bool} {n : Nat} {l r : List Value} (h : eat p n l = some r) : r = l.drop n ∧ ∀ j, j < n → ∃ v, l[j]? = some v ∧ p v = true := by
  induction n generalizing l with
  | zero =>
    simp only [eat, Option.some.injEq] at h
    exact ⟨by rw [← h]; rfl, fun j hj => absurd hj (by omega)⟩
  | succ n ih =>
    cases l with
    | nil => simp [eat] at h
    | cons v l =>
      simp only [eat] at h
      cases hp : p v with
      | false => rw [hp] at h; cases h
      | true =>
        rw [hp] at h
        obtain ⟨h1, h2⟩ := ih h
        refine ⟨by rw [h1]; rfl, fun j hj => ?_⟩
        cases j with
        | zero => exact ⟨v, rfl, hp⟩
        | succ j => exact h2 j (by omega)
def isU8z : Value → Bool | .int .u8 0 => true | _ => false
def isBz : Value → Bool | .bool false => true | _ => false
def isIz : Value → Bool | .int .i64 0 => true | _ => false
theorem isU8z_eq {v : Value} (h : isU8z v = true) : v = .int .u8 0 := by
  unfold isU8z at h; split at h
  · rfl
  · cases h
theorem isBz_eq {v : Value} (h : isBz v = true) : v = .bool false := by
  unfold isBz at h; split at h
  · rfl
  · cases h
theorem isIz_eq {v : Value} (h : isIz v = true) : v = .int .i64 0 := by
  unfold isIz at h; split at h
  · rfl
  · cases h
def zeros (o : Option Value) : Bool := match o with
  | some (.agg cs) => match eat isU8z 65792 cs.toList with
    | some r => match eat isBz 512 r with
      | some r => match eat isIz 1 r with
        | some [] => true
        | _ => false
      | _ => false
    | _ => false
  | _ => false
theorem zero_mem : zeros (some (.agg Try.zeroCells99)) = true := by kernel_rfl
theorem zeros_spec {o : Option Value} (h : zeros o = true) : ∃ cs : Array Value, o = some (.agg cs) ∧ (∀ j, j < 65792 → cs[j]? = some (.int .u8 0)) ∧ (∀ j, j < 512 → cs[65792 + j]? = some (.bool false)) ∧ cs[66304]? = some (.int .i64 0) := by
  unfold zeros at h
  split at h
  · next cs =>
    refine ⟨cs, rfl, ?_⟩
    split at h
    · next r1 e1 =>
      split at h
      · next r2 e2 =>
        split at h
        · next e3 =>
          obtain ⟨d1, s1⟩ := eat_spec e1
          obtain ⟨d2, s2⟩ := eat_spec e2
          obtain ⟨d3, s3⟩ := eat_spec e3
          refine ⟨fun j hj => ?_, fun j hj => ?_, ?_⟩
          · obtain ⟨v, hv, hp⟩ := s1 j hj
            rw [isU8z_eq hp] at hv
            rw [← Array.getElem?_toList]; exact hv
          · obtain ⟨v, hv, hp⟩ := s2 j hj
            rw [isBz_eq hp, d1, List.getElem?_drop] at hv
            rw [← Array.getElem?_toList]; exact hv
          · obtain ⟨v, hv, hp⟩ := s3 0 (by omega)
            rw [isIz_eq hp, d2, d1, List.drop_drop, List.getElem?_drop] at hv
            rw [← Array.getElem?_toList]; exact hv
        · cases h
      · cases h
    · cases h
  · cases h
def M0 : MM := ⟨fun _ => 0, fun _ => 0, fun _ => false, fun _ => false⟩
set_option maxRecDepth 100000 in
set_option maxHeartbeats 2000000 in
theorem new_any (w : World) : Calls Try.prog 17 #[] w fun e w' => e = .returned (.pointer (some ⟨w.heap.size, 0, none⟩)) ∧ HC w.heap.size M0 w' ∧ Below w.heap.size w w' ∧ w'.heap.size = w.heap.size + 1 := by
  obtain ⟨cs, hcs, k1, k2, k3⟩ := zeros_spec zero_mem
  simp only [Option.some.injEq, Value.agg.injEq] at hcs
  have HK1 := Lib.hid k1
  have HK2 := Lib.hid k2
  have HK3 := Lib.hid k3
  have HZ := Lib.hid hcs
  clear hcs k1 k2 k3
  go_enter Try.func17, Try.ntmps17
  go_wp2
  go_ret
  rw [HZ.out]
  refine ⟨rfl, ?_, (Below.refl _ _).alloc (Nat.le_refl _) _, by simp⟩
  have e := heap_alloc_new w (.cells cs 99)
  have hc : ∀ i, (w.alloc (.cells cs 99)).cell? ⟨w.heap.size, i, none⟩ = cs[i]? := fun i => cell_of_row _ _ _ _ _ _ e
  refine ⟨fun j hj => ?_, fun j hj => ?_, fun j hj => ?_, fun j hj => ?_, ?_, fun i => frozen_of_row _ _ _ _ _ e, by simp⟩
  · rw [hc]; exact HK1.out j (by omega)
  · rw [hc]; exact HK1.out (65536 + j) (by omega)
  · rw [hc]; exact HK2.out j (by omega)
  · rw [hc, show 66048 + j = 65792 + (256 + j) by omega]; exact HK2.out (256 + j) (by omega)
  · rw [hc, HK3.out, show cnt M0.hi = 0 from cnt_no]
end Go.Proofs.Ytcjcmnnhmajocac.Me
