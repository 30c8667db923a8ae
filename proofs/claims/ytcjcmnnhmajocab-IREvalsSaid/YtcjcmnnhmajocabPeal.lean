/- ir.ruleOf: what a kind of operations has. -/
import Derived.Test.YtcjcmnnhmajocabProg
import Derived.Below
import Derived.WalkKit
import Derived.Lib.Hide
import Derived.Outline
import Derived.LoopN
import Derived.Test.YtcjcmnnhmajocabPeag
namespace Go.Proofs.Ytcjcmnnhmajocab.Ic
open Go.RowKit
set_option linter.unusedVariables false
def gv (k : Int) : Bool := decide ((1 ≤ k ∧ k ≤ 9 ∧ k ≠ 3) ∨ k = 17)
def fin (k : Int) : Bool := decide (14 ≤ k ∧ k ≤ 16)
theorem gv_yes {k : Int} (h : (1 ≤ k ∧ k ≤ 9 ∧ k ≠ 3) ∨ k = 17) : gv k = true := decide_eq_true h
theorem gv_no {k : Int} (h : ¬ ((1 ≤ k ∧ k ≤ 9 ∧ k ≠ 3) ∨ k = 17)) : gv k = false := decide_eq_false h
theorem gives_any (k : Int) (w : World) : Calls Try.prog 95 #[.int .i64 k] w fun e w' => e = .returned (.bool (gv k)) ∧ w = w' := by
  rcases (show k < 1 ∨ (1 ≤ k ∧ k ≤ 9 ∧ k ≠ 3) ∨ k = 3 ∨ (10 ≤ k ∧ k ≠ 17) ∨ k = 17 by omega) with h | h | h | h | h
  · rw [gv_no (by omega)]
    have c1 : ¬ 1 ≤ k := by omega
    have c2 : (k == 17) = false := by simp; omega
    go_enter Try.func95, Try.ntmps95
    go_wp2
    go_ret
    exact ⟨rfl, rfl⟩
  · rw [gv_yes (.inl h)]
    have c1 : 1 ≤ k := h.1
    have c3 : k ≤ 9 := h.2.1
    have c4 : (k == 3) = false := by simp; omega
    go_enter Try.func95, Try.ntmps95
    go_wp2
    go_ret
    exact ⟨rfl, rfl⟩
  · subst h
    go_enter Try.func95, Try.ntmps95
    go_wp2
    go_ret
    exact ⟨rfl, rfl⟩
  · rw [gv_no (by omega)]
    have c1 : 1 ≤ k := by omega
    have c3 : ¬ k ≤ 9 := by omega
    have c2 : (k == 17) = false := by simp; omega
    go_enter Try.func95, Try.ntmps95
    go_wp2
    go_ret
    exact ⟨rfl, rfl⟩
  · subst h
    go_enter Try.func95, Try.ntmps95
    go_wp2
    go_ret
    exact ⟨rfl, rfl⟩
theorem rgives_any (k : Int) (w : World) : Calls Try.prog 75 #[.int .i64 k] w fun e w' => e = .returned (.bool (gv k)) ∧ w = w' := by
  rcases (show k < 1 ∨ (1 ≤ k ∧ k ≤ 9 ∧ k ≠ 3) ∨ k = 3 ∨ (10 ≤ k ∧ k ≠ 17) ∨ k = 17 by omega) with h | h | h | h | h
  · rw [gv_no (by omega)]
    have c1 : ¬ 1 ≤ k := by omega
    have c2 : (k == 17) = false := by simp; omega
    go_enter Try.func75, Try.ntmps75
    go_wp2
    go_ret
    exact ⟨rfl, rfl⟩
  · rw [gv_yes (.inl h)]
    have c1 : 1 ≤ k := h.1
    have c3 : k ≤ 9 := h.2.1
    have c4 : (k == 3) = false := by simp; omega
    go_enter Try.func75, Try.ntmps75
    go_wp2
    go_ret
    exact ⟨rfl, rfl⟩
  · subst h
    go_enter Try.func75, Try.ntmps75
    go_wp2
    go_ret
    exact ⟨rfl, rfl⟩
  · rw [gv_no (by omega)]
    have c1 : 1 ≤ k := by omega
    have c3 : ¬ k ≤ 9 := by omega
    have c2 : (k == 17) = false := by simp; omega
    go_enter Try.func75, Try.ntmps75
    go_wp2
    go_ret
    exact ⟨rfl, rfl⟩
  · subst h
    go_enter Try.func75, Try.ntmps75
    go_wp2
    go_ret
    exact ⟨rfl, rfl⟩
theorem final_any (k : Int) (w : World) : Calls Try.prog 52 #[.int .i64 k] w fun e w' => e = .returned (.bool (fin k)) ∧ w = w' := by
  rcases (show k < 14 ∨ (14 ≤ k ∧ k ≤ 16) ∨ 16 < k by omega) with h | h | h
  · rw [show fin k = false from decide_eq_false (by omega)]
    have c1 : ¬ 14 ≤ k := by omega
    go_enter Try.func52, Try.ntmps52
    go_wp2
    go_ret
    exact ⟨rfl, rfl⟩
  · rw [show fin k = true from decide_eq_true h]
    have c1 : 14 ≤ k := h.1
    have c2 : k ≤ 16 := h.2
    go_enter Try.func52, Try.ntmps52
    go_wp2
    go_ret
    exact ⟨rfl, rfl⟩
  · rw [show fin k = false from decide_eq_false (by omega)]
    have c1 : 14 ≤ k := by omega
    have c2 : ¬ k ≤ 16 := by omega
    go_enter Try.func52, Try.ntmps52
    go_wp2
    go_ret
    exact ⟨rfl, rfl⟩
end Go.Proofs.Ytcjcmnnhmajocab.Ic
namespace Go.Proofs.Ytcjcmnnhmajocab.Ic
open Go.RowKit
set_option linter.unusedVariables false
set_option linter.unusedSimpArgs false
structure Opr where
  k : Int
  w : Int
  a : Int
  b : Int
  c : Int
  kn : Int
  n : Int
def Opr.cells (o : Opr) : Array Value := #[.int .i64 o.k, .int .i64 o.w, .int .i64 o.a, .int .i64 o.b, .int .i64 o.c, .int .u32 o.kn, .int .i64 o.n]
/-- the operations lie there -/
def Ops (os : List Opr) (ao : Option Addr) (cap : Nat) (w : World) : Prop :=
  os.length ≤ cap ∧ cap ≤ maxLen ∧ (0 < os.length → ∃ g off, ao = some ⟨g, off, none⟩ ∧ g < w.heap.size ∧ ∀ i o, os[i]? = some o → ∀ j v, o.cells[j]? = some v → w.cell? ⟨g, off + i * 7 + j, none⟩ = some v)
theorem Ops.keep {os : List Opr} {ao : Option Addr} {cap : Nat} {w w' : World} (h : Ops os ao cap w) (hb : Below w.heap.size w w') : Ops os ao cap w' := by
  obtain ⟨h1, h2, h3⟩ := h
  refine ⟨h1, h2, fun hp => ?_⟩
  obtain ⟨g, off, e, hg, hc⟩ := h3 hp
  exact ⟨g, off, e, Nat.lt_of_lt_of_le hg hb.size, fun i o hi j v hj => (hb.cell (p := ⟨g, _, none⟩) hg).trans (hc i o hi j v hj)⟩
def kindAt (os : List Opr) (t : Nat) : Int := match os[t]? with
  | some o => o.k
  | none => 0
def gvn (os : List Opr) (i : Nat) (t : Int) : Bool := decide (0 ≤ t ∧ t < (i : Int)) && gv (kindAt os t.toNat)
set_option maxHeartbeats 1000000 in
theorem given_any (os : List Opr) (ao : Option Addr) (cap : Nat) (pc cnt byt : Int) (i : Nat) (t : Int) (w : World) (h : Ops os ao cap w) (hi : i ≤ os.length) :
    Calls Try.prog 158 #[.agg #[.int .u32 pc, .int .i64 cnt, .int .i64 byt, .slice ao os.length cap], .int .i64 i, .int .i64 t] w fun e w' => e = .returned (.bool (gvn os i t)) ∧ Below w.heap.size w w' := by
  have hm : (maxLen : Nat) = 9223372036854775807 := rfl
  obtain ⟨h1, h2, h3⟩ := h
  rw [hm] at h2
  clear hm
  by_cases h0 : 0 ≤ t
  · obtain ⟨s, rfl⟩ := Int.eq_ofNat_of_zero_le h0
    by_cases hs : s < i
    · obtain ⟨g, off, rfl, hg, hc⟩ := h3 (by omega)
      have hl : s < os.length := by omega
      have hcell : w.cell? ⟨g, off + s * 7, none⟩ = some (.int .i64 (os[s].k)) := hc s _ (List.getElem?_eq_getElem hl) 0 _ rfl
      have hv : gvn os i (s : Int) = gv os[s].k := by
        unfold gvn kindAt
        rw [decide_eq_true (by omega), Bool.true_and, Int.toNat_natCast, List.getElem?_eq_getElem hl]
      rw [hv]
      generalize os[s].k = kk at hcell
      have hs' : (s : Int) < (i : Int) := by omega
      have hl' : (s : Int) < (os.length : Int) := by omega
      clear hc h3 hv
      go_enter Try.func158, Try.ntmps158
      go_wp2_with (go_at_call 95; refine (gives_any kk _).mono ?_; rintro e w' ⟨rfl, rfl⟩)
      go_ret
      exact ⟨rfl, (Below.refl _ _).alloc (Nat.le_refl _) _⟩
    · have hv : gvn os i (s : Int) = false := by unfold gvn; rw [decide_eq_false (by omega), Bool.false_and]
      rw [hv]
      clear hv h3
      have hs' : ¬ (s : Int) < (i : Int) := by omega
      go_enter Try.func158, Try.ntmps158
      go_wp2
      go_ret
      exact ⟨rfl, (Below.refl _ _).alloc (Nat.le_refl _) _⟩
  · have hv : gvn os i t = false := by unfold gvn; rw [decide_eq_false (by omega), Bool.false_and]
    rw [hv]
    clear hv h3
    go_enter Try.func158, Try.ntmps158
    go_wp2
    go_ret
    exact ⟨rfl, (Below.refl _ _).alloc (Nat.le_refl _) _⟩
set_option maxHeartbeats 1000000 in
theorem rgiven_any (os : List Opr) (ao : Option Addr) (cap : Nat) (pc cnt byt : Int) (i : Nat) (t : Int) (w : World) (h : Ops os ao cap w) (hi : i ≤ os.length) :
    Calls Try.prog 51 #[.agg #[.int .u32 pc, .int .i64 cnt, .int .i64 byt, .slice ao os.length cap], .int .i64 i, .int .i64 t] w fun e w' => e = .returned (.bool (gvn os i t)) ∧ Below w.heap.size w w' := by
  have hm : (maxLen : Nat) = 9223372036854775807 := rfl
  obtain ⟨h1, h2, h3⟩ := h
  rw [hm] at h2
  clear hm
  by_cases h0 : 0 ≤ t
  · obtain ⟨s, rfl⟩ := Int.eq_ofNat_of_zero_le h0
    by_cases hs : s < i
    · obtain ⟨g, off, rfl, hg, hc⟩ := h3 (by omega)
      have hl : s < os.length := by omega
      have hcell : w.cell? ⟨g, off + s * 7, none⟩ = some (.int .i64 (os[s].k)) := hc s _ (List.getElem?_eq_getElem hl) 0 _ rfl
      have hv : gvn os i (s : Int) = gv os[s].k := by
        unfold gvn kindAt
        rw [decide_eq_true (by omega), Bool.true_and, Int.toNat_natCast, List.getElem?_eq_getElem hl]
      rw [hv]
      generalize os[s].k = kk at hcell
      have hs' : (s : Int) < (i : Int) := by omega
      have hl' : (s : Int) < (os.length : Int) := by omega
      clear hc h3 hv
      go_enter Try.func51, Try.ntmps51
      go_wp2_with (go_at_call 75; refine (rgives_any kk _).mono ?_; rintro e w' ⟨rfl, rfl⟩)
      go_ret
      exact ⟨rfl, (Below.refl _ _).alloc (Nat.le_refl _) _⟩
    · have hv : gvn os i (s : Int) = false := by unfold gvn; rw [decide_eq_false (by omega), Bool.false_and]
      rw [hv]
      clear hv h3
      have hs' : ¬ (s : Int) < (i : Int) := by omega
      go_enter Try.func51, Try.ntmps51
      go_wp2
      go_ret
      exact ⟨rfl, (Below.refl _ _).alloc (Nat.le_refl _) _⟩
  · have hv : gvn os i t = false := by unfold gvn; rw [decide_eq_false (by omega), Bool.false_and]
    rw [hv]
    clear hv h3
    go_enter Try.func51, Try.ntmps51
    go_wp2
    go_ret
    exact ⟨rfl, (Below.refl _ _).alloc (Nat.le_refl _) _⟩
end Go.Proofs.Ytcjcmnnhmajocab.Ic
namespace Go.Proofs.Ytcjcmnnhmajocab.Ic
open Go.RowKit
set_option linter.unusedVariables false
set_option linter.unusedSimpArgs false
set_option maxHeartbeats 4000000 in
theorem nhas_none (f s c : Int) (w : World) : Calls Try.prog 50 #[.agg #[.int .i64 f, .int .i64 s, .string { data := #[] }], .int .u8 c] w fun e w' => e = .returned (.bool false) ∧ Below w.heap.size w w' := by
  go_enter Try.func50, Try.ntmps50
  go_wp2
  refine wp_loop_rounds 1 ?_
  rw [rounds_succ]; go_wp2
  go_ret
  exact ⟨rfl, (Below.refl _ _).alloc (Nat.le_refl _) _⟩
set_option maxHeartbeats 4000000 in
theorem nhas_k_k (f s : Int) (w : World) : Calls Try.prog 50 #[.agg #[.int .i64 f, .int .i64 s, .string { data := #[107] }], .int .u8 107] w fun e w' => e = .returned (.bool true) ∧ Below w.heap.size w w' := by
  have e0 : (((({ data := #[107] } : ByteArray)[0]'(by decide)).toNat : Int) == 107) = true := rfl
  go_enter Try.func50, Try.ntmps50
  go_wp2
  refine wp_loop_rounds 1 ?_
  rw [rounds_succ]; go_wp2
  go_ret
  exact ⟨rfl, (Below.refl _ _).alloc (Nat.le_refl _) _⟩
set_option maxHeartbeats 4000000 in
theorem nhas_k (f s c : Int) (w : World) : Calls Try.prog 50 #[.agg #[.int .i64 f, .int .i64 s, .string { data := #[107] }], .int .u8 c] w fun e w' => e = .returned (.bool (c == 107)) ∧ Below w.heap.size w w' := by
  by_cases hk : c = 107
  · subst hk; exact nhas_k_k f s w
  have e0 : (((({ data := #[107] } : ByteArray)[0]'(by decide)).toNat : Int) == c) = false := by show ((107 : Int) == c) = false; simp; omega
  have g0 : (c == 107) = false := by simp; omega
  simp only [g0, Bool.or_self]
  clear g0 hk
  go_enter Try.func50, Try.ntmps50
  go_wp2
  refine wp_loop_rounds 2 ?_
  rw [rounds_succ]; go_wp2
  rw [rounds_succ]; go_wp2
  go_ret
  exact ⟨rfl, (Below.refl _ _).alloc (Nat.le_refl _) _⟩
set_option maxHeartbeats 4000000 in
theorem nhas_a_a (f s : Int) (w : World) : Calls Try.prog 50 #[.agg #[.int .i64 f, .int .i64 s, .string { data := #[97] }], .int .u8 97] w fun e w' => e = .returned (.bool true) ∧ Below w.heap.size w w' := by
  have e0 : (((({ data := #[97] } : ByteArray)[0]'(by decide)).toNat : Int) == 97) = true := rfl
  go_enter Try.func50, Try.ntmps50
  go_wp2
  refine wp_loop_rounds 1 ?_
  rw [rounds_succ]; go_wp2
  go_ret
  exact ⟨rfl, (Below.refl _ _).alloc (Nat.le_refl _) _⟩
set_option maxHeartbeats 4000000 in
theorem nhas_a (f s c : Int) (w : World) : Calls Try.prog 50 #[.agg #[.int .i64 f, .int .i64 s, .string { data := #[97] }], .int .u8 c] w fun e w' => e = .returned (.bool (c == 97)) ∧ Below w.heap.size w w' := by
  by_cases ha : c = 97
  · subst ha; exact nhas_a_a f s w
  have e0 : (((({ data := #[97] } : ByteArray)[0]'(by decide)).toNat : Int) == c) = false := by show ((97 : Int) == c) = false; simp; omega
  have g0 : (c == 97) = false := by simp; omega
  simp only [g0, Bool.or_self]
  clear g0 ha
  go_enter Try.func50, Try.ntmps50
  go_wp2
  refine wp_loop_rounds 2 ?_
  rw [rounds_succ]; go_wp2
  rw [rounds_succ]; go_wp2
  go_ret
  exact ⟨rfl, (Below.refl _ _).alloc (Nat.le_refl _) _⟩
set_option maxHeartbeats 4000000 in
theorem nhas_ab_a (f s : Int) (w : World) : Calls Try.prog 50 #[.agg #[.int .i64 f, .int .i64 s, .string { data := #[97, 98] }], .int .u8 97] w fun e w' => e = .returned (.bool true) ∧ Below w.heap.size w w' := by
  have e0 : (((({ data := #[97, 98] } : ByteArray)[0]'(by decide)).toNat : Int) == 97) = true := rfl
  go_enter Try.func50, Try.ntmps50
  go_wp2
  refine wp_loop_rounds 1 ?_
  rw [rounds_succ]; go_wp2
  go_ret
  exact ⟨rfl, (Below.refl _ _).alloc (Nat.le_refl _) _⟩
set_option maxHeartbeats 4000000 in
theorem nhas_ab_b (f s : Int) (w : World) : Calls Try.prog 50 #[.agg #[.int .i64 f, .int .i64 s, .string { data := #[97, 98] }], .int .u8 98] w fun e w' => e = .returned (.bool true) ∧ Below w.heap.size w w' := by
  have e0 : (((({ data := #[97, 98] } : ByteArray)[0]'(by decide)).toNat : Int) == 98) = false := rfl
  have e1 : (((({ data := #[97, 98] } : ByteArray)[1]'(by decide)).toNat : Int) == 98) = true := rfl
  go_enter Try.func50, Try.ntmps50
  go_wp2
  refine wp_loop_rounds 2 ?_
  rw [rounds_succ]; go_wp2
  rw [rounds_succ]; go_wp2
  go_ret
  exact ⟨rfl, (Below.refl _ _).alloc (Nat.le_refl _) _⟩
set_option maxHeartbeats 4000000 in
theorem nhas_ab (f s c : Int) (w : World) : Calls Try.prog 50 #[.agg #[.int .i64 f, .int .i64 s, .string { data := #[97, 98] }], .int .u8 c] w fun e w' => e = .returned (.bool (c == 97 || c == 98)) ∧ Below w.heap.size w w' := by
  by_cases ha : c = 97
  · subst ha; exact nhas_ab_a f s w
  by_cases hb : c = 98
  · subst hb; exact nhas_ab_b f s w
  have e0 : (((({ data := #[97, 98] } : ByteArray)[0]'(by decide)).toNat : Int) == c) = false := by show ((97 : Int) == c) = false; simp; omega
  have g0 : (c == 97) = false := by simp; omega
  have e1 : (((({ data := #[97, 98] } : ByteArray)[1]'(by decide)).toNat : Int) == c) = false := by show ((98 : Int) == c) = false; simp; omega
  have g1 : (c == 98) = false := by simp; omega
  simp only [g0, g1, Bool.or_self]
  clear g0 g1 ha hb
  go_enter Try.func50, Try.ntmps50
  go_wp2
  refine wp_loop_rounds 3 ?_
  rw [rounds_succ]; go_wp2
  rw [rounds_succ]; go_wp2
  rw [rounds_succ]; go_wp2
  go_ret
  exact ⟨rfl, (Below.refl _ _).alloc (Nat.le_refl _) _⟩
set_option maxHeartbeats 4000000 in
theorem nhas_abc_a (f s : Int) (w : World) : Calls Try.prog 50 #[.agg #[.int .i64 f, .int .i64 s, .string { data := #[97, 98, 99] }], .int .u8 97] w fun e w' => e = .returned (.bool true) ∧ Below w.heap.size w w' := by
  have e0 : (((({ data := #[97, 98, 99] } : ByteArray)[0]'(by decide)).toNat : Int) == 97) = true := rfl
  go_enter Try.func50, Try.ntmps50
  go_wp2
  refine wp_loop_rounds 1 ?_
  rw [rounds_succ]; go_wp2
  go_ret
  exact ⟨rfl, (Below.refl _ _).alloc (Nat.le_refl _) _⟩
set_option maxHeartbeats 4000000 in
theorem nhas_abc_b (f s : Int) (w : World) : Calls Try.prog 50 #[.agg #[.int .i64 f, .int .i64 s, .string { data := #[97, 98, 99] }], .int .u8 98] w fun e w' => e = .returned (.bool true) ∧ Below w.heap.size w w' := by
  have e0 : (((({ data := #[97, 98, 99] } : ByteArray)[0]'(by decide)).toNat : Int) == 98) = false := rfl
  have e1 : (((({ data := #[97, 98, 99] } : ByteArray)[1]'(by decide)).toNat : Int) == 98) = true := rfl
  go_enter Try.func50, Try.ntmps50
  go_wp2
  refine wp_loop_rounds 2 ?_
  rw [rounds_succ]; go_wp2
  rw [rounds_succ]; go_wp2
  go_ret
  exact ⟨rfl, (Below.refl _ _).alloc (Nat.le_refl _) _⟩
set_option maxHeartbeats 4000000 in
theorem nhas_abc_c (f s : Int) (w : World) : Calls Try.prog 50 #[.agg #[.int .i64 f, .int .i64 s, .string { data := #[97, 98, 99] }], .int .u8 99] w fun e w' => e = .returned (.bool true) ∧ Below w.heap.size w w' := by
  have e0 : (((({ data := #[97, 98, 99] } : ByteArray)[0]'(by decide)).toNat : Int) == 99) = false := rfl
  have e1 : (((({ data := #[97, 98, 99] } : ByteArray)[1]'(by decide)).toNat : Int) == 99) = false := rfl
  have e2 : (((({ data := #[97, 98, 99] } : ByteArray)[2]'(by decide)).toNat : Int) == 99) = true := rfl
  go_enter Try.func50, Try.ntmps50
  go_wp2
  refine wp_loop_rounds 3 ?_
  rw [rounds_succ]; go_wp2
  rw [rounds_succ]; go_wp2
  rw [rounds_succ]; go_wp2
  go_ret
  exact ⟨rfl, (Below.refl _ _).alloc (Nat.le_refl _) _⟩
set_option maxHeartbeats 4000000 in
theorem nhas_abc (f s c : Int) (w : World) : Calls Try.prog 50 #[.agg #[.int .i64 f, .int .i64 s, .string { data := #[97, 98, 99] }], .int .u8 c] w fun e w' => e = .returned (.bool (c == 97 || c == 98 || c == 99)) ∧ Below w.heap.size w w' := by
  by_cases ha : c = 97
  · subst ha; exact nhas_abc_a f s w
  by_cases hb : c = 98
  · subst hb; exact nhas_abc_b f s w
  by_cases hc : c = 99
  · subst hc; exact nhas_abc_c f s w
  have e0 : (((({ data := #[97, 98, 99] } : ByteArray)[0]'(by decide)).toNat : Int) == c) = false := by show ((97 : Int) == c) = false; simp; omega
  have g0 : (c == 97) = false := by simp; omega
  have e1 : (((({ data := #[97, 98, 99] } : ByteArray)[1]'(by decide)).toNat : Int) == c) = false := by show ((98 : Int) == c) = false; simp; omega
  have g1 : (c == 98) = false := by simp; omega
  have e2 : (((({ data := #[97, 98, 99] } : ByteArray)[2]'(by decide)).toNat : Int) == c) = false := by show ((99 : Int) == c) = false; simp; omega
  have g2 : (c == 99) = false := by simp; omega
  simp only [g0, g1, g2, Bool.or_self]
  clear g0 g1 g2 ha hb hc
  go_enter Try.func50, Try.ntmps50
  go_wp2
  refine wp_loop_rounds 4 ?_
  rw [rounds_succ]; go_wp2
  rw [rounds_succ]; go_wp2
  rw [rounds_succ]; go_wp2
  rw [rounds_succ]; go_wp2
  go_ret
  exact ⟨rfl, (Below.refl _ _).alloc (Nat.le_refl _) _⟩
set_option maxHeartbeats 4000000 in
theorem nhas_akn_a (f s : Int) (w : World) : Calls Try.prog 50 #[.agg #[.int .i64 f, .int .i64 s, .string { data := #[97, 107, 110] }], .int .u8 97] w fun e w' => e = .returned (.bool true) ∧ Below w.heap.size w w' := by
  have e0 : (((({ data := #[97, 107, 110] } : ByteArray)[0]'(by decide)).toNat : Int) == 97) = true := rfl
  go_enter Try.func50, Try.ntmps50
  go_wp2
  refine wp_loop_rounds 1 ?_
  rw [rounds_succ]; go_wp2
  go_ret
  exact ⟨rfl, (Below.refl _ _).alloc (Nat.le_refl _) _⟩
set_option maxHeartbeats 4000000 in
theorem nhas_akn_k (f s : Int) (w : World) : Calls Try.prog 50 #[.agg #[.int .i64 f, .int .i64 s, .string { data := #[97, 107, 110] }], .int .u8 107] w fun e w' => e = .returned (.bool true) ∧ Below w.heap.size w w' := by
  have e0 : (((({ data := #[97, 107, 110] } : ByteArray)[0]'(by decide)).toNat : Int) == 107) = false := rfl
  have e1 : (((({ data := #[97, 107, 110] } : ByteArray)[1]'(by decide)).toNat : Int) == 107) = true := rfl
  go_enter Try.func50, Try.ntmps50
  go_wp2
  refine wp_loop_rounds 2 ?_
  rw [rounds_succ]; go_wp2
  rw [rounds_succ]; go_wp2
  go_ret
  exact ⟨rfl, (Below.refl _ _).alloc (Nat.le_refl _) _⟩
set_option maxHeartbeats 4000000 in
theorem nhas_akn_n (f s : Int) (w : World) : Calls Try.prog 50 #[.agg #[.int .i64 f, .int .i64 s, .string { data := #[97, 107, 110] }], .int .u8 110] w fun e w' => e = .returned (.bool true) ∧ Below w.heap.size w w' := by
  have e0 : (((({ data := #[97, 107, 110] } : ByteArray)[0]'(by decide)).toNat : Int) == 110) = false := rfl
  have e1 : (((({ data := #[97, 107, 110] } : ByteArray)[1]'(by decide)).toNat : Int) == 110) = false := rfl
  have e2 : (((({ data := #[97, 107, 110] } : ByteArray)[2]'(by decide)).toNat : Int) == 110) = true := rfl
  go_enter Try.func50, Try.ntmps50
  go_wp2
  refine wp_loop_rounds 3 ?_
  rw [rounds_succ]; go_wp2
  rw [rounds_succ]; go_wp2
  rw [rounds_succ]; go_wp2
  go_ret
  exact ⟨rfl, (Below.refl _ _).alloc (Nat.le_refl _) _⟩
set_option maxHeartbeats 4000000 in
theorem nhas_akn (f s c : Int) (w : World) : Calls Try.prog 50 #[.agg #[.int .i64 f, .int .i64 s, .string { data := #[97, 107, 110] }], .int .u8 c] w fun e w' => e = .returned (.bool (c == 97 || c == 107 || c == 110)) ∧ Below w.heap.size w w' := by
  by_cases ha : c = 97
  · subst ha; exact nhas_akn_a f s w
  by_cases hk : c = 107
  · subst hk; exact nhas_akn_k f s w
  by_cases hn : c = 110
  · subst hn; exact nhas_akn_n f s w
  have e0 : (((({ data := #[97, 107, 110] } : ByteArray)[0]'(by decide)).toNat : Int) == c) = false := by show ((97 : Int) == c) = false; simp; omega
  have g0 : (c == 97) = false := by simp; omega
  have e1 : (((({ data := #[97, 107, 110] } : ByteArray)[1]'(by decide)).toNat : Int) == c) = false := by show ((107 : Int) == c) = false; simp; omega
  have g1 : (c == 107) = false := by simp; omega
  have e2 : (((({ data := #[97, 107, 110] } : ByteArray)[2]'(by decide)).toNat : Int) == c) = false := by show ((110 : Int) == c) = false; simp; omega
  have g2 : (c == 110) = false := by simp; omega
  simp only [g0, g1, g2, Bool.or_self]
  clear g0 g1 g2 ha hk hn
  go_enter Try.func50, Try.ntmps50
  go_wp2
  refine wp_loop_rounds 4 ?_
  rw [rounds_succ]; go_wp2
  rw [rounds_succ]; go_wp2
  rw [rounds_succ]; go_wp2
  rw [rounds_succ]; go_wp2
  go_ret
  exact ⟨rfl, (Below.refl _ _).alloc (Nat.le_refl _) _⟩
set_option maxHeartbeats 4000000 in
theorem nhas_abkn_a (f s : Int) (w : World) : Calls Try.prog 50 #[.agg #[.int .i64 f, .int .i64 s, .string { data := #[97, 98, 107, 110] }], .int .u8 97] w fun e w' => e = .returned (.bool true) ∧ Below w.heap.size w w' := by
  have e0 : (((({ data := #[97, 98, 107, 110] } : ByteArray)[0]'(by decide)).toNat : Int) == 97) = true := rfl
  go_enter Try.func50, Try.ntmps50
  go_wp2
  refine wp_loop_rounds 1 ?_
  rw [rounds_succ]; go_wp2
  go_ret
  exact ⟨rfl, (Below.refl _ _).alloc (Nat.le_refl _) _⟩
set_option maxHeartbeats 4000000 in
theorem nhas_abkn_b (f s : Int) (w : World) : Calls Try.prog 50 #[.agg #[.int .i64 f, .int .i64 s, .string { data := #[97, 98, 107, 110] }], .int .u8 98] w fun e w' => e = .returned (.bool true) ∧ Below w.heap.size w w' := by
  have e0 : (((({ data := #[97, 98, 107, 110] } : ByteArray)[0]'(by decide)).toNat : Int) == 98) = false := rfl
  have e1 : (((({ data := #[97, 98, 107, 110] } : ByteArray)[1]'(by decide)).toNat : Int) == 98) = true := rfl
  go_enter Try.func50, Try.ntmps50
  go_wp2
  refine wp_loop_rounds 2 ?_
  rw [rounds_succ]; go_wp2
  rw [rounds_succ]; go_wp2
  go_ret
  exact ⟨rfl, (Below.refl _ _).alloc (Nat.le_refl _) _⟩
set_option maxHeartbeats 4000000 in
theorem nhas_abkn_k (f s : Int) (w : World) : Calls Try.prog 50 #[.agg #[.int .i64 f, .int .i64 s, .string { data := #[97, 98, 107, 110] }], .int .u8 107] w fun e w' => e = .returned (.bool true) ∧ Below w.heap.size w w' := by
  have e0 : (((({ data := #[97, 98, 107, 110] } : ByteArray)[0]'(by decide)).toNat : Int) == 107) = false := rfl
  have e1 : (((({ data := #[97, 98, 107, 110] } : ByteArray)[1]'(by decide)).toNat : Int) == 107) = false := rfl
  have e2 : (((({ data := #[97, 98, 107, 110] } : ByteArray)[2]'(by decide)).toNat : Int) == 107) = true := rfl
  go_enter Try.func50, Try.ntmps50
  go_wp2
  refine wp_loop_rounds 3 ?_
  rw [rounds_succ]; go_wp2
  rw [rounds_succ]; go_wp2
  rw [rounds_succ]; go_wp2
  go_ret
  exact ⟨rfl, (Below.refl _ _).alloc (Nat.le_refl _) _⟩
set_option maxHeartbeats 4000000 in
theorem nhas_abkn_n (f s : Int) (w : World) : Calls Try.prog 50 #[.agg #[.int .i64 f, .int .i64 s, .string { data := #[97, 98, 107, 110] }], .int .u8 110] w fun e w' => e = .returned (.bool true) ∧ Below w.heap.size w w' := by
  have e0 : (((({ data := #[97, 98, 107, 110] } : ByteArray)[0]'(by decide)).toNat : Int) == 110) = false := rfl
  have e1 : (((({ data := #[97, 98, 107, 110] } : ByteArray)[1]'(by decide)).toNat : Int) == 110) = false := rfl
  have e2 : (((({ data := #[97, 98, 107, 110] } : ByteArray)[2]'(by decide)).toNat : Int) == 110) = false := rfl
  have e3 : (((({ data := #[97, 98, 107, 110] } : ByteArray)[3]'(by decide)).toNat : Int) == 110) = true := rfl
  go_enter Try.func50, Try.ntmps50
  go_wp2
  refine wp_loop_rounds 4 ?_
  rw [rounds_succ]; go_wp2
  rw [rounds_succ]; go_wp2
  rw [rounds_succ]; go_wp2
  rw [rounds_succ]; go_wp2
  go_ret
  exact ⟨rfl, (Below.refl _ _).alloc (Nat.le_refl _) _⟩
set_option maxHeartbeats 4000000 in
theorem nhas_abkn (f s c : Int) (w : World) : Calls Try.prog 50 #[.agg #[.int .i64 f, .int .i64 s, .string { data := #[97, 98, 107, 110] }], .int .u8 c] w fun e w' => e = .returned (.bool (c == 97 || c == 98 || c == 107 || c == 110)) ∧ Below w.heap.size w w' := by
  by_cases ha : c = 97
  · subst ha; exact nhas_abkn_a f s w
  by_cases hb : c = 98
  · subst hb; exact nhas_abkn_b f s w
  by_cases hk : c = 107
  · subst hk; exact nhas_abkn_k f s w
  by_cases hn : c = 110
  · subst hn; exact nhas_abkn_n f s w
  have e0 : (((({ data := #[97, 98, 107, 110] } : ByteArray)[0]'(by decide)).toNat : Int) == c) = false := by show ((97 : Int) == c) = false; simp; omega
  have g0 : (c == 97) = false := by simp; omega
  have e1 : (((({ data := #[97, 98, 107, 110] } : ByteArray)[1]'(by decide)).toNat : Int) == c) = false := by show ((98 : Int) == c) = false; simp; omega
  have g1 : (c == 98) = false := by simp; omega
  have e2 : (((({ data := #[97, 98, 107, 110] } : ByteArray)[2]'(by decide)).toNat : Int) == c) = false := by show ((107 : Int) == c) = false; simp; omega
  have g2 : (c == 107) = false := by simp; omega
  have e3 : (((({ data := #[97, 98, 107, 110] } : ByteArray)[3]'(by decide)).toNat : Int) == c) = false := by show ((110 : Int) == c) = false; simp; omega
  have g3 : (c == 110) = false := by simp; omega
  simp only [g0, g1, g2, g3, Bool.or_self]
  clear g0 g1 g2 g3 ha hb hk hn
  go_enter Try.func50, Try.ntmps50
  go_wp2
  refine wp_loop_rounds 5 ?_
  rw [rounds_succ]; go_wp2
  rw [rounds_succ]; go_wp2
  rw [rounds_succ]; go_wp2
  rw [rounds_succ]; go_wp2
  rw [rounds_succ]; go_wp2
  go_ret
  exact ⟨rfl, (Below.refl _ _).alloc (Nat.le_refl _) _⟩
set_option maxHeartbeats 4000000 in
theorem nhas_kn_k (f s : Int) (w : World) : Calls Try.prog 50 #[.agg #[.int .i64 f, .int .i64 s, .string { data := #[107, 110] }], .int .u8 107] w fun e w' => e = .returned (.bool true) ∧ Below w.heap.size w w' := by
  have e0 : (((({ data := #[107, 110] } : ByteArray)[0]'(by decide)).toNat : Int) == 107) = true := rfl
  go_enter Try.func50, Try.ntmps50
  go_wp2
  refine wp_loop_rounds 1 ?_
  rw [rounds_succ]; go_wp2
  go_ret
  exact ⟨rfl, (Below.refl _ _).alloc (Nat.le_refl _) _⟩
set_option maxHeartbeats 4000000 in
theorem nhas_kn_n (f s : Int) (w : World) : Calls Try.prog 50 #[.agg #[.int .i64 f, .int .i64 s, .string { data := #[107, 110] }], .int .u8 110] w fun e w' => e = .returned (.bool true) ∧ Below w.heap.size w w' := by
  have e0 : (((({ data := #[107, 110] } : ByteArray)[0]'(by decide)).toNat : Int) == 110) = false := rfl
  have e1 : (((({ data := #[107, 110] } : ByteArray)[1]'(by decide)).toNat : Int) == 110) = true := rfl
  go_enter Try.func50, Try.ntmps50
  go_wp2
  refine wp_loop_rounds 2 ?_
  rw [rounds_succ]; go_wp2
  rw [rounds_succ]; go_wp2
  go_ret
  exact ⟨rfl, (Below.refl _ _).alloc (Nat.le_refl _) _⟩
set_option maxHeartbeats 4000000 in
theorem nhas_kn (f s c : Int) (w : World) : Calls Try.prog 50 #[.agg #[.int .i64 f, .int .i64 s, .string { data := #[107, 110] }], .int .u8 c] w fun e w' => e = .returned (.bool (c == 107 || c == 110)) ∧ Below w.heap.size w w' := by
  by_cases hk : c = 107
  · subst hk; exact nhas_kn_k f s w
  by_cases hn : c = 110
  · subst hn; exact nhas_kn_n f s w
  have e0 : (((({ data := #[107, 110] } : ByteArray)[0]'(by decide)).toNat : Int) == c) = false := by show ((107 : Int) == c) = false; simp; omega
  have g0 : (c == 107) = false := by simp; omega
  have e1 : (((({ data := #[107, 110] } : ByteArray)[1]'(by decide)).toNat : Int) == c) = false := by show ((110 : Int) == c) = false; simp; omega
  have g1 : (c == 110) = false := by simp; omega
  simp only [g0, g1, Bool.or_self]
  clear g0 g1 hk hn
  go_enter Try.func50, Try.ntmps50
  go_wp2
  refine wp_loop_rounds 3 ?_
  rw [rounds_succ]; go_wp2
  rw [rounds_succ]; go_wp2
  rw [rounds_succ]; go_wp2
  go_ret
  exact ⟨rfl, (Below.refl _ _).alloc (Nat.le_refl _) _⟩
set_option maxHeartbeats 4000000 in
theorem nhas_gkn_g (f s : Int) (w : World) : Calls Try.prog 50 #[.agg #[.int .i64 f, .int .i64 s, .string { data := #[103, 107, 110] }], .int .u8 103] w fun e w' => e = .returned (.bool true) ∧ Below w.heap.size w w' := by
  have e0 : (((({ data := #[103, 107, 110] } : ByteArray)[0]'(by decide)).toNat : Int) == 103) = true := rfl
  go_enter Try.func50, Try.ntmps50
  go_wp2
  refine wp_loop_rounds 1 ?_
  rw [rounds_succ]; go_wp2
  go_ret
  exact ⟨rfl, (Below.refl _ _).alloc (Nat.le_refl _) _⟩
set_option maxHeartbeats 4000000 in
theorem nhas_gkn_k (f s : Int) (w : World) : Calls Try.prog 50 #[.agg #[.int .i64 f, .int .i64 s, .string { data := #[103, 107, 110] }], .int .u8 107] w fun e w' => e = .returned (.bool true) ∧ Below w.heap.size w w' := by
  have e0 : (((({ data := #[103, 107, 110] } : ByteArray)[0]'(by decide)).toNat : Int) == 107) = false := rfl
  have e1 : (((({ data := #[103, 107, 110] } : ByteArray)[1]'(by decide)).toNat : Int) == 107) = true := rfl
  go_enter Try.func50, Try.ntmps50
  go_wp2
  refine wp_loop_rounds 2 ?_
  rw [rounds_succ]; go_wp2
  rw [rounds_succ]; go_wp2
  go_ret
  exact ⟨rfl, (Below.refl _ _).alloc (Nat.le_refl _) _⟩
set_option maxHeartbeats 4000000 in
theorem nhas_gkn_n (f s : Int) (w : World) : Calls Try.prog 50 #[.agg #[.int .i64 f, .int .i64 s, .string { data := #[103, 107, 110] }], .int .u8 110] w fun e w' => e = .returned (.bool true) ∧ Below w.heap.size w w' := by
  have e0 : (((({ data := #[103, 107, 110] } : ByteArray)[0]'(by decide)).toNat : Int) == 110) = false := rfl
  have e1 : (((({ data := #[103, 107, 110] } : ByteArray)[1]'(by decide)).toNat : Int) == 110) = false := rfl
  have e2 : (((({ data := #[103, 107, 110] } : ByteArray)[2]'(by decide)).toNat : Int) == 110) = true := rfl
  go_enter Try.func50, Try.ntmps50
  go_wp2
  refine wp_loop_rounds 3 ?_
  rw [rounds_succ]; go_wp2
  rw [rounds_succ]; go_wp2
  rw [rounds_succ]; go_wp2
  go_ret
  exact ⟨rfl, (Below.refl _ _).alloc (Nat.le_refl _) _⟩
set_option maxHeartbeats 4000000 in
theorem nhas_gkn (f s c : Int) (w : World) : Calls Try.prog 50 #[.agg #[.int .i64 f, .int .i64 s, .string { data := #[103, 107, 110] }], .int .u8 c] w fun e w' => e = .returned (.bool (c == 103 || c == 107 || c == 110)) ∧ Below w.heap.size w w' := by
  by_cases hg : c = 103
  · subst hg; exact nhas_gkn_g f s w
  by_cases hk : c = 107
  · subst hk; exact nhas_gkn_k f s w
  by_cases hn : c = 110
  · subst hn; exact nhas_gkn_n f s w
  have e0 : (((({ data := #[103, 107, 110] } : ByteArray)[0]'(by decide)).toNat : Int) == c) = false := by show ((103 : Int) == c) = false; simp; omega
  have g0 : (c == 103) = false := by simp; omega
  have e1 : (((({ data := #[103, 107, 110] } : ByteArray)[1]'(by decide)).toNat : Int) == c) = false := by show ((107 : Int) == c) = false; simp; omega
  have g1 : (c == 107) = false := by simp; omega
  have e2 : (((({ data := #[103, 107, 110] } : ByteArray)[2]'(by decide)).toNat : Int) == c) = false := by show ((110 : Int) == c) = false; simp; omega
  have g2 : (c == 110) = false := by simp; omega
  simp only [g0, g1, g2, Bool.or_self]
  clear g0 g1 g2 hg hk hn
  go_enter Try.func50, Try.ntmps50
  go_wp2
  refine wp_loop_rounds 4 ?_
  rw [rounds_succ]; go_wp2
  rw [rounds_succ]; go_wp2
  rw [rounds_succ]; go_wp2
  rw [rounds_succ]; go_wp2
  go_ret
  exact ⟨rfl, (Below.refl _ _).alloc (Nat.le_refl _) _⟩
set_option maxHeartbeats 4000000 in
theorem nhas_an_a (f s : Int) (w : World) : Calls Try.prog 50 #[.agg #[.int .i64 f, .int .i64 s, .string { data := #[97, 110] }], .int .u8 97] w fun e w' => e = .returned (.bool true) ∧ Below w.heap.size w w' := by
  have e0 : (((({ data := #[97, 110] } : ByteArray)[0]'(by decide)).toNat : Int) == 97) = true := rfl
  go_enter Try.func50, Try.ntmps50
  go_wp2
  refine wp_loop_rounds 1 ?_
  rw [rounds_succ]; go_wp2
  go_ret
  exact ⟨rfl, (Below.refl _ _).alloc (Nat.le_refl _) _⟩
set_option maxHeartbeats 4000000 in
theorem nhas_an_n (f s : Int) (w : World) : Calls Try.prog 50 #[.agg #[.int .i64 f, .int .i64 s, .string { data := #[97, 110] }], .int .u8 110] w fun e w' => e = .returned (.bool true) ∧ Below w.heap.size w w' := by
  have e0 : (((({ data := #[97, 110] } : ByteArray)[0]'(by decide)).toNat : Int) == 110) = false := rfl
  have e1 : (((({ data := #[97, 110] } : ByteArray)[1]'(by decide)).toNat : Int) == 110) = true := rfl
  go_enter Try.func50, Try.ntmps50
  go_wp2
  refine wp_loop_rounds 2 ?_
  rw [rounds_succ]; go_wp2
  rw [rounds_succ]; go_wp2
  go_ret
  exact ⟨rfl, (Below.refl _ _).alloc (Nat.le_refl _) _⟩
set_option maxHeartbeats 4000000 in
theorem nhas_an (f s c : Int) (w : World) : Calls Try.prog 50 #[.agg #[.int .i64 f, .int .i64 s, .string { data := #[97, 110] }], .int .u8 c] w fun e w' => e = .returned (.bool (c == 97 || c == 110)) ∧ Below w.heap.size w w' := by
  by_cases ha : c = 97
  · subst ha; exact nhas_an_a f s w
  by_cases hn : c = 110
  · subst hn; exact nhas_an_n f s w
  have e0 : (((({ data := #[97, 110] } : ByteArray)[0]'(by decide)).toNat : Int) == c) = false := by show ((97 : Int) == c) = false; simp; omega
  have g0 : (c == 97) = false := by simp; omega
  have e1 : (((({ data := #[97, 110] } : ByteArray)[1]'(by decide)).toNat : Int) == c) = false := by show ((110 : Int) == c) = false; simp; omega
  have g1 : (c == 110) = false := by simp; omega
  simp only [g0, g1, Bool.or_self]
  clear g0 g1 ha hn
  go_enter Try.func50, Try.ntmps50
  go_wp2
  refine wp_loop_rounds 3 ?_
  rw [rounds_succ]; go_wp2
  rw [rounds_succ]; go_wp2
  rw [rounds_succ]; go_wp2
  go_ret
  exact ⟨rfl, (Below.refl _ _).alloc (Nat.le_refl _) _⟩
end Go.Proofs.Ytcjcmnnhmajocab.Ic
namespace Go.Proofs.Ytcjcmnnhmajocab.Ic
open Go.RowKit Kt
set_option linter.unusedVariables false
set_option linter.unusedSimpArgs false
def rtab : Array Value := #[.int .i64 0, .bool false, .bool false, .bool false, .bool false, .bool false, .bool false, .bool false, .int .i64 0, .bool false, .bool false, .bool false, .bool true, .bool false, .bool false, .bool false, .int .i64 12, .bool false, .bool false, .bool false, .bool false, .bool false, .bool false, .bool false, .int .i64 12, .bool true, .bool false, .bool false, .bool false, .bool false, .bool false, .bool false, .int .i64 16, .bool true, .bool true, .bool false, .bool false, .bool false, .bool false, .bool false, .int .i64 7, .bool true, .bool false, .bool false, .bool false, .bool false, .bool false, .bool false, .int .i64 0, .bool true, .bool true, .bool true, .bool false, .bool false, .bool false, .bool false, .int .i64 13, .bool true, .bool true, .bool true, .bool false, .bool false, .bool false, .bool false, .int .i64 16, .bool true, .bool false, .bool false, .bool false, .bool false, .bool false, .bool false, .int .i64 5, .bool true, .bool false, .bool false, .bool true, .bool true, .bool false, .bool false, .int .i64 3, .bool true, .bool true, .bool false, .bool true, .bool true, .bool false, .bool false, .int .i64 0, .bool false, .bool false, .bool false, .bool true, .bool true, .bool false, .bool false, .int .i64 0, .bool true, .bool false, .bool false, .bool true, .bool true, .bool false, .bool false, .int .i64 8, .bool true, .bool false, .bool false, .bool true, .bool true, .bool false, .bool false, .int .i64 8, .bool false, .bool false, .bool false, .bool true, .bool true, .bool true, .bool true, .int .i64 0, .bool false, .bool false, .bool false, .bool true, .bool true, .bool false, .bool true, .int .i64 0, .bool true, .bool false, .bool false, .bool false, .bool true, .bool false, .bool true, .int .i64 0, .bool false, .bool false, .bool false, .bool false, .bool false, .bool false, .bool false]
theorem rtab_size : rtab.size = 144 := by kernel_rfl
theorem rtab_one : rtab.all (·.oneCell') = true := by kernel_rfl
theorem info_rtab : (Try.prog.info? 270).map (fun i => (i.zero.map (·.cells.size), i.size)) = some (some 144, 144) := by kernel_rfl
end Go.Proofs.Ytcjcmnnhmajocab.Ic
