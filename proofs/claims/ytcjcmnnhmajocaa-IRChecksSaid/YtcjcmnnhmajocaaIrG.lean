/- Operations of a block as they lie in memory; is there a value ahead of a place (ir.given, crossgrainref3.given). -/
import Derived.Test.YtcjcmnnhmajocaaIrC
import Derived.Lib.Hide
import Derived.Outline
namespace Go.Proofs.Ytcjcmnnhmajocaa.Ic
open Go.RowKit
set_option linter.unusedVariables false
set_option linter.unusedSimpArgs false
structure Opr where
  k : Int
  w : Int
  a : Int
  b : Int
  c : Int
  kn : Int
  n : Int
def Opr.cells (o : Opr) : Array Value := #[.int .i64 o.k, .int .i64 o.w, .int .i64 o.a, .int .i64 o.b, .int .i64 o.c, .int .u32 o.kn, .int .i64 o.n]
/-- the operations lie there -/
def Ops (os : List Opr) (ao : Option Addr) (cap : Nat) (w : World) : Prop :=
  os.length ≤ cap ∧ cap ≤ maxLen ∧ (0 < os.length → ∃ g off, ao = some ⟨g, off, none⟩ ∧ g < w.heap.size ∧ ∀ i o, os[i]? = some o → ∀ j v, o.cells[j]? = some v → w.cell? ⟨g, off + i * 7 + j, none⟩ = some v)
theorem Ops.keep {os : List Opr} {ao : Option Addr} {cap : Nat} {w w' : World} (h : Ops os ao cap w) (hb : Below w.heap.size w w') : Ops os ao cap w' := by
  obtain ⟨h1, h2, h3⟩ := h
  refine ⟨h1, h2, fun hp => ?_⟩
  obtain ⟨g, off, e, hg, hc⟩ := h3 hp
  exact ⟨g, off, e, Nat.lt_of_lt_of_le hg hb.size, fun i o hi j v hj => (hb.cell (p := ⟨g, _, none⟩) hg).trans (hc i o hi j v hj)⟩
def kindAt (os : List Opr) (t : Nat) : Int := match os[t]? with
  | some o => o.k
  | none => 0
def gvn (os : List Opr) (i : Nat) (t : Int) : Bool := decide (0 ≤ t ∧ t < (i : Int)) && gv (kindAt os t.toNat)
def blk (pc cnt byt : Int) (ao : Option Addr) (L cap : Nat) : Value := .agg #[.int .u32 pc, .int .i64 cnt, .int .i64 byt, .slice ao L cap]
set_option maxHeartbeats 1000000 in
theorem given_any (os : List Opr) (ao : Option Addr) (cap : Nat) (pc cnt byt : Int) (i : Nat) (t : Int) (w : World) (h : Ops os ao cap w) (hi : i ≤ os.length) :
    Calls Try.prog 108 #[.agg #[.int .u32 pc, .int .i64 cnt, .int .i64 byt, .slice ao os.length cap], .int .i64 i, .int .i64 t] w fun e w' => e = .returned (.bool (gvn os i t)) ∧ Below w.heap.size w w' := by
  have hm : (maxLen : Nat) = 9223372036854775807 := rfl
  obtain ⟨h1, h2, h3⟩ := h
  rw [hm] at h2
  clear hm
  by_cases h0 : 0 ≤ t
  · obtain ⟨s, rfl⟩ := Int.eq_ofNat_of_zero_le h0
    by_cases hs : s < i
    · obtain ⟨g, off, rfl, hg, hc⟩ := h3 (by omega)
      have hl : s < os.length := by omega
      have hcell : w.cell? ⟨g, off + s * 7, none⟩ = some (.int .i64 (os[s].k)) := hc s _ (List.getElem?_eq_getElem hl) 0 _ rfl
      have hv : gvn os i (s : Int) = gv os[s].k := by
        unfold gvn kindAt
        rw [decide_eq_true (by omega), Bool.true_and, Int.toNat_natCast, List.getElem?_eq_getElem hl]
      rw [hv]
      generalize os[s].k = kk at hcell
      have hs' : (s : Int) < (i : Int) := by omega
      have hl' : (s : Int) < (os.length : Int) := by omega
      clear hc h3 hv
      go_enter Try.func108, Try.ntmps108
      go_wp2_with (go_at_call 18; refine (gives_any kk _).mono ?_; rintro e w' ⟨rfl, rfl⟩)
      go_ret
      exact ⟨rfl, (Below.refl _ _).alloc (Nat.le_refl _) _⟩
    · have hv : gvn os i (s : Int) = false := by unfold gvn; rw [decide_eq_false (by omega), Bool.false_and]
      rw [hv]
      clear hv h3
      have hs' : ¬ (s : Int) < (i : Int) := by omega
      go_enter Try.func108, Try.ntmps108
      go_wp2
      go_ret
      exact ⟨rfl, (Below.refl _ _).alloc (Nat.le_refl _) _⟩
  · have hv : gvn os i t = false := by unfold gvn; rw [decide_eq_false (by omega), Bool.false_and]
    rw [hv]
    clear hv h3
    go_enter Try.func108, Try.ntmps108
    go_wp2
    go_ret
    exact ⟨rfl, (Below.refl _ _).alloc (Nat.le_refl _) _⟩
set_option maxHeartbeats 1000000 in
theorem rgiven_any (os : List Opr) (ao : Option Addr) (cap : Nat) (pc cnt byt : Int) (i : Nat) (t : Int) (w : World) (h : Ops os ao cap w) (hi : i ≤ os.length) :
    Calls Try.prog 54 #[.agg #[.int .u32 pc, .int .i64 cnt, .int .i64 byt, .slice ao os.length cap], .int .i64 i, .int .i64 t] w fun e w' => e = .returned (.bool (gvn os i t)) ∧ Below w.heap.size w w' := by
  have hm : (maxLen : Nat) = 9223372036854775807 := rfl
  obtain ⟨h1, h2, h3⟩ := h
  rw [hm] at h2
  clear hm
  by_cases h0 : 0 ≤ t
  · obtain ⟨s, rfl⟩ := Int.eq_ofNat_of_zero_le h0
    by_cases hs : s < i
    · obtain ⟨g, off, rfl, hg, hc⟩ := h3 (by omega)
      have hl : s < os.length := by omega
      have hcell : w.cell? ⟨g, off + s * 7, none⟩ = some (.int .i64 (os[s].k)) := hc s _ (List.getElem?_eq_getElem hl) 0 _ rfl
      have hv : gvn os i (s : Int) = gv os[s].k := by
        unfold gvn kindAt
        rw [decide_eq_true (by omega), Bool.true_and, Int.toNat_natCast, List.getElem?_eq_getElem hl]
      rw [hv]
      generalize os[s].k = kk at hcell
      have hs' : (s : Int) < (i : Int) := by omega
      have hl' : (s : Int) < (os.length : Int) := by omega
      clear hc h3 hv
      go_enter Try.func54, Try.ntmps54
      go_wp2_with (go_at_call 19; refine (rgives_any kk _).mono ?_; rintro e w' ⟨rfl, rfl⟩)
      go_ret
      exact ⟨rfl, (Below.refl _ _).alloc (Nat.le_refl _) _⟩
    · have hv : gvn os i (s : Int) = false := by unfold gvn; rw [decide_eq_false (by omega), Bool.false_and]
      rw [hv]
      clear hv h3
      have hs' : ¬ (s : Int) < (i : Int) := by omega
      go_enter Try.func54, Try.ntmps54
      go_wp2
      go_ret
      exact ⟨rfl, (Below.refl _ _).alloc (Nat.le_refl _) _⟩
  · have hv : gvn os i t = false := by unfold gvn; rw [decide_eq_false (by omega), Bool.false_and]
    rw [hv]
    clear hv h3
    go_enter Try.func54, Try.ntmps54
    go_wp2
    go_ret
    exact ⟨rfl, (Below.refl _ _).alloc (Nat.le_refl _) _⟩
end Go.Proofs.Ytcjcmnnhmajocaa.Ic
