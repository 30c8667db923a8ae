/- Plain law of a memory: which bytes may be used, the first that may not; what of a world has changed. -/
import Derived.Test.YtcjcmnnhmajocacMeB
namespace Go.Proofs.Ytcjcmnnhmajocac.Me
open Go.RowKit Kt
set_option linter.unusedVariables false
set_option linter.unusedSimpArgs false
/-- of the old blocks none outside S has changed -/
structure Upto (S : Nat → Prop) (w w' : World) : Prop where
  os : w'.os = w.os
  tape : w'.tape = w.tape
  output : w'.output = w.output
  size : w.heap.size ≤ w'.heap.size
  block : ∀ k, k < w.heap.size → ¬ S k → w'.heap[k]? = w.heap[k]?
theorem Upto.refl (S : Nat → Prop) (w : World) : Upto S w w := ⟨rfl, rfl, rfl, Nat.le_refl _, fun _ _ _ => rfl⟩
theorem Upto.trans {S : Nat → Prop} {a b c : World} (h : Upto S a b) (k : Upto S b c) : Upto S a c :=
  ⟨k.os.trans h.os, k.tape.trans h.tape, k.output.trans h.output, Nat.le_trans h.size k.size, fun i hi hs => (k.block i (Nat.lt_of_lt_of_le hi h.size) hs).trans (h.block i hi hs)⟩
theorem Upto.mono {S T : Nat → Prop} {a b : World} (h : Upto S a b) (hst : ∀ k, k < a.heap.size → S k → T k) : Upto T a b :=
  ⟨h.os, h.tape, h.output, h.size, fun i hi hs => h.block i hi (fun hx => hs (hst i hi hx))⟩
theorem Upto.drew {S : Nat → Prop} {a w : World} (h : Upto S a w) : Upto S a w.drew := ⟨h.os, h.tape, h.output, h.size, h.block⟩
theorem Upto.alloc {S : Nat → Prop} {a w : World} (h : Upto S a w) (o : Obj) : Upto S a (w.alloc o) :=
  h.trans ⟨rfl, rfl, rfl, by simp, fun k hk _ => Below.heap_alloc _ _ _ hk⟩
theorem Upto.setCell {S : Nat → Prop} {a w : World} (h : Upto S a w) {q : Addr} (hq : S q.block ∨ a.heap.size ≤ q.block) (u : Value) : Upto S a (w.setCell q u) :=
  ⟨h.os, h.tape, h.output, by simpa [World.setCell] using h.size, fun k hk hs => (Below.heap_setCell _ _ _ _ (by rintro rfl; rcases hq with hq | hq; exact hs hq; omega)).trans (h.block k hk hs)⟩
theorem Upto.cell {S : Nat → Prop} {w w' : World} (h : Upto S w w') {q : Addr} (hq : q.block < w.heap.size) (hs : ¬ S q.block) : w'.cell? q = w.cell? q := World.cell?_of_block (w := w) (h.block _ hq hs)
theorem Upto.frozen {S : Nat → Prop} {w w' : World} (h : Upto S w w') {q : Addr} (hq : q.block < w.heap.size) (hs : ¬ S q.block) : w'.frozen? q = w.frozen? q := World.frozen?_of_block (w := w) (h.block _ hq hs)
theorem Upto.below {S : Nat → Prop} {w w' : World} (h : Upto S w w') {B : Nat} (hB : B ≤ w.heap.size) (hs : ∀ k, k < B → ¬ S k) : Below B w w' := ⟨h.os, h.tape, h.output, h.size, fun k hk => h.block k (by omega) (hs k hk)⟩
theorem Upto.of_below {S : Nat → Prop} {w w' : World} (h : Below w.heap.size w w') : Upto S w w' := ⟨h.os, h.tape, h.output, h.size, fun k hk _ => h.block k hk⟩
theorem Upto.of_only {p : Nat} {w w' : World} (h : Only p w w') : Upto (fun k => k = p) w w' :=
  have b := h.2.2 0 (Nat.zero_le _)
  ⟨b.os, b.tape, b.output, by rw [h.1]; exact Nat.le_refl _, fun k _ hs => h.2.1 k hs⟩
theorem HM.upto {p : Nat} {M : MM} {n : Int} {S : Nat → Prop} {w w' : World} (h : HM p M n w) (u : Upto S w w') (hs : ¬ S p) : HM p M n w' := by
  obtain ⟨h1, h2, h3, h4, h5, h6, h7⟩ := h
  have e : ∀ i, w'.cell? ⟨p, i, none⟩ = w.cell? ⟨p, i, none⟩ := fun i => u.cell h7 hs
  refine ⟨fun j hj => ?_, fun j hj => ?_, fun j hj => ?_, fun j hj => ?_, ?_, fun i => ?_, Nat.lt_of_lt_of_le h7 u.size⟩
  · rw [e]; exact h1 j hj
  · rw [e]; exact h2 j hj
  · rw [e]; exact h3 j hj
  · rw [e]; exact h4 j hj
  · rw [e]; exact h5
  · exact (u.frozen (q := ⟨p, i, none⟩) h7 hs).trans (h6 i)
/-- may a byte be used so (r: 1, 2, 4)? -/
def useB (M : MM) (r x : Int) : Bool := decide (x < 65536) && decide (M.rt (x / 256).toNat / r % 2 = 1)
def plc (a : Int) (k : Nat) : Int := (a + k) % 4294967296
/-- the first of n bytes that may not -/
def srch (M : MM) (r a : Int) (n : Nat) : Option Int := ((List.range n).map (plc a)).find? fun x => !useB M r x
theorem srch_none {M : MM} {r a : Int} {n : Nat} (h : ∀ k, k < n → useB M r (plc a k) = true) : srch M r a n = none := by
  unfold srch
  rw [List.find?_eq_none]
  intro x hx
  obtain ⟨k, hk, rfl⟩ := List.mem_map.1 hx
  rw [List.mem_range] at hk
  simp [h k hk]
theorem srch_succ (M : MM) (r a : Int) (n : Nat) : srch M r a (n + 1) = (srch M r a n).or (if useB M r (plc a n) then none else some (plc a n)) := by
  unfold srch
  rw [List.range_succ, List.map_append, List.find?_append]
  congr 1
  simp only [List.map_cons, List.map_nil, List.find?_cons, List.find?_nil]
  cases useB M r (plc a n) <;> rfl
theorem srch_some {M : MM} {r a : Int} {n : Nat} (k : Nat) (hk : k < n) (h : ∀ j, j < k → useB M r (plc a j) = true) (hb : useB M r (plc a k) = false) : srch M r a n = some (plc a k) := by
  induction n with
  | zero => omega
  | succ n ih =>
    rw [srch_succ]
    by_cases hkn : k = n
    · subst hkn
      rw [srch_none h, hb]; rfl
    · rw [ih (by omega)]; rfl
theorem srch_all {M : MM} {r a : Int} {n : Nat} (h : srch M r a n = none) (k : Nat) (hk : k < n) : useB M r (plc a k) = true := by
  unfold srch at h
  rw [List.find?_eq_none] at h
  have := h (plc a k) (List.mem_map.2 ⟨k, List.mem_range.2 hk, rfl⟩)
  simpa using this
theorem plc_bd (a : Int) (k : Nat) : 0 ≤ plc a k ∧ plc a k < 4294967296 := by unfold plc; omega
/-- numbers within their bounds -/
def MOk (M : MM) : Prop := (∀ j, 0 ≤ M.by_ j ∧ M.by_ j < 256) ∧ (∀ j, 0 ≤ M.rt j ∧ M.rt j < 8)
/-- what 'rights and right' is, against 'rights over right, modulo 2' -/
theorem and_zero (x r : Int) (h0 : 0 ≤ x) (h8 : x < 8) (hr : r = 1 ∨ r = 2 ∨ r = 4) : ((bits .and .u8 x r : Int) == 0) = !decide (x / r % 2 = 1) := by
  have hx : x = 0 ∨ x = 1 ∨ x = 2 ∨ x = 3 ∨ x = 4 ∨ x = 5 ∨ x = 6 ∨ x = 7 := by omega
  rcases hr with rfl | rfl | rfl <;> rcases hx with rfl | rfl | rfl | rfl | rfl | rfl | rfl | rfl <;> decide
def srV (o : Option Int) : Value := match o with
  | none => .tuple #[.int .u32 0, .bool false]
  | some x => .tuple #[.int .u32 x, .bool true]
end Go.Proofs.Ytcjcmnnhmajocac.Me
