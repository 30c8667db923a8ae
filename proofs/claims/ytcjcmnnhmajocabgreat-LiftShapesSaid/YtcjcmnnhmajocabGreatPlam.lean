/- opt: value. -/
import Derived.Test.YtcjcmnnhmajocabGreatPlal
set_option linter.unusedVariables false
set_option linter.unusedSimpArgs false
set_option maxRecDepth 100000
set_option maxHeartbeats 16000000
namespace Go.Proofs.YtcjcmnnhmajocabGreat.Ev
open Go.RowKit Kt Me Fl
theorem rval_1 (ow oa ob oc kn on a b c : Int) (w : World) (k0 : 0 ≤ kn) (k1 : kn < 4294967296) (a0 : 0 ≤ a) (a1 : a < 4294967296) (b0 : 0 ≤ b) (b1 : b < 4294967296) (c0 : 0 ≤ c) (c1 : c < 4294967296) :
  Calls Tryz.prog 98 #[.agg #[.int .i64 1, .int .i64 ow, .int .i64 oa, .int .i64 ob, .int .i64 oc, .int .u32 kn, .int .i64 on], .int .u32 a, .int .u32 b, .int .u32 c] w fun e w' => e = .returned (.int .u32 (valV 1 ow kn a b c)) ∧ Below w.heap.size w w' := by
 go_enter Tryz.func98, Tryz.ntmps98
 go_wp2_with fail
 go_ret
 exact ⟨rfl, (Below.refl _ _).alloc (Nat.le_refl _) _⟩
theorem rval_4 (ow oa ob oc kn on a b c : Int) (w : World) (k0 : 0 ≤ kn) (k1 : kn < 4294967296) (a0 : 0 ≤ a) (a1 : a < 4294967296) (b0 : 0 ≤ b) (b1 : b < 4294967296) (c0 : 0 ≤ c) (c1 : c < 4294967296) (hw : 0 ≤ ow ∧ ow < 16) :
  Calls Tryz.prog 98 #[.agg #[.int .i64 4, .int .i64 ow, .int .i64 oa, .int .i64 ob, .int .i64 oc, .int .u32 kn, .int .i64 on], .int .u32 a, .int .u32 b, .int .u32 c] w fun e w' => e = .returned (.int .u32 (valV 4 ow kn a b c)) ∧ Below w.heap.size w w' := by
 have CB := κ (fun w => rbin_any ow a b w hw.1 hw.2 a0 a1 b0 b1)
 go_enter Tryz.func98, Tryz.ntmps98
 go_wp2_with (go_at_call 151; (with_reducible refine (CB.out _).mono ?_); rintro e w1 ⟨rfl, hb⟩)
 go_ret
 exact ⟨rfl, ((Below.refl _ _).alloc (Nat.le_refl _) _).trans (hb.mono (by simp))⟩
theorem rval_5 (ow oa ob oc kn on a b c : Int) (w : World) (k0 : 0 ≤ kn) (k1 : kn < 4294967296) (a0 : 0 ≤ a) (a1 : a < 4294967296) (b0 : 0 ≤ b) (b1 : b < 4294967296) (c0 : 0 ≤ c) (c1 : c < 4294967296) (hw : 0 ≤ ow ∧ ow < 7) :
  Calls Tryz.prog 98 #[.agg #[.int .i64 5, .int .i64 ow, .int .i64 oa, .int .i64 ob, .int .i64 oc, .int .u32 kn, .int .i64 on], .int .u32 a, .int .u32 b, .int .u32 c] w fun e w' => e = .returned (.int .u32 (valV 5 ow kn a b c)) ∧ Below w.heap.size w w' := by
 have CB := κ (fun w => run_any ow a w hw.1 hw.2 a0 a1)
 go_enter Tryz.func98, Tryz.ntmps98
 go_wp2_with (go_at_call 150; (with_reducible refine (CB.out _).mono ?_); rintro e w1 ⟨rfl, rfl⟩)
 go_ret
 exact ⟨rfl, (Below.refl _ _).alloc (Nat.le_refl _) _⟩
theorem rval_6 (ow oa ob oc kn on a b c : Int) (w : World) (k0 : 0 ≤ kn) (k1 : kn < 4294967296) (a0 : 0 ≤ a) (a1 : a < 4294967296) (b0 : 0 ≤ b) (b1 : b < 4294967296) (c0 : 0 ≤ c) (c1 : c < 4294967296) :
  Calls Tryz.prog 98 #[.agg #[.int .i64 6, .int .i64 ow, .int .i64 oa, .int .i64 ob, .int .i64 oc, .int .u32 kn, .int .i64 on], .int .u32 a, .int .u32 b, .int .u32 c] w fun e w' => e = .returned (.int .u32 (valV 6 ow kn a b c)) ∧ Below w.heap.size w w' := by
 by_cases hx : a = 0
 ·have e : valV 6 ow kn a b c = c := by show (if a = 0 then c else b) = _; rw [if_pos hx]
  rw [e]
  clear e
  have hb1 : (a != 0) = false := by simp [hx]
  go_enter Tryz.func98, Tryz.ntmps98
  go_wp2_with fail
  go_ret
  exact ⟨rfl, (Below.refl _ _).alloc (Nat.le_refl _) _⟩
 ·have e : valV 6 ow kn a b c = b := by show (if a = 0 then c else b) = _; rw [if_neg hx]
  rw [e]
  clear e
  have hb1 : (a != 0) = true := by simp [hx]
  go_enter Tryz.func98, Tryz.ntmps98
  go_wp2_with fail
  go_ret
  exact ⟨rfl, (Below.refl _ _).alloc (Nat.le_refl _) _⟩
theorem rval_7 (ow oa ob oc kn on a b c : Int) (w : World) (k0 : 0 ≤ kn) (k1 : kn < 4294967296) (a0 : 0 ≤ a) (a1 : a < 4294967296) (b0 : 0 ≤ b) (b1 : b < 4294967296) (c0 : 0 ≤ c) (c1 : c < 4294967296) :
  Calls Tryz.prog 98 #[.agg #[.int .i64 7, .int .i64 ow, .int .i64 oa, .int .i64 ob, .int .i64 oc, .int .u32 kn, .int .i64 on], .int .u32 a, .int .u32 b, .int .u32 c] w fun e w' => e = .returned (.int .u32 (valV 7 ow kn a b c)) ∧ Below w.heap.size w w' := by
 have CB := κ (fun w => rflags_any ow a b c w a0 a1 b0 b1 c0 c1)
 go_enter Tryz.func98, Tryz.ntmps98
 go_wp2_with (go_at_call 91; (with_reducible refine (CB.out _).mono ?_); rintro e w1 ⟨rfl, rfl⟩)
 go_ret
 exact ⟨rfl, (Below.refl _ _).alloc (Nat.le_refl _) _⟩
theorem rval_8 (ow oa ob oc kn on a b c : Int) (w : World) (k0 : 0 ≤ kn) (k1 : kn < 4294967296) (a0 : 0 ≤ a) (a1 : a < 4294967296) (b0 : 0 ≤ b) (b1 : b < 4294967296) (c0 : 0 ≤ c) (c1 : c < 4294967296) (hw : -9223372036854775808 ≤ ow ∧ ow < 9223372036854775808) :
  Calls Tryz.prog 98 #[.agg #[.int .i64 8, .int .i64 ow, .int .i64 oa, .int .i64 ob, .int .i64 oc, .int .u32 kn, .int .i64 on], .int .u32 a, .int .u32 b, .int .u32 c] w fun e w' => e = .returned (.int .u32 (valV 8 ow kn a b c)) ∧ Below w.heap.size w w' := by
 have CB := κ (fun w => rholds_any ow a w a0 a1)
 have e : valV 8 ow kn a b c = (if Fl.hd ow a then 1 else 0) := rfl
 rw [e]
 clear e
 generalize Fl.hd ow a = t at CB
 have CT := κ (fun w => is3_any t w)
 generalize (if t = true then (1 : Int) else 0) = z at CT ⊢
 go_enter Tryz.func98, Tryz.ntmps98
 go_wp2_with (first | (go_at_call 92; (with_reducible refine (CB.out _).mono ?_); rintro e w1 ⟨rfl, hb⟩) | (go_at_call 152; (with_reducible refine (CT.out _).mono ?_); rintro e w2 ⟨rfl, rfl⟩))
 go_ret
 exact ⟨rfl, ((Below.refl _ _).alloc (Nat.le_refl _) _).trans (hb.mono (by simp))⟩
/-- which kinds hang on what they take alone; how W goes -/
theorem rval_any (k : Int) (ow oa ob oc kn on a b c : Int) (w : World) (k0 : 0 ≤ kn) (k1 : kn < 4294967296) (a0 : 0 ≤ a) (a1 : a < 4294967296) (b0 : 0 ≤ b) (b1 : b < 4294967296) (c0 : 0 ≤ c) (c1 : c < 4294967296) (hk : k = 1 ∨ (k = 4 ∧ 0 ≤ ow ∧ ow < 16) ∨ (k = 5 ∧ 0 ≤ ow ∧ ow < 7) ∨ k = 6 ∨ k = 7 ∨ (k = 8 ∧ 0 ≤ ow ∧ ow < 16)) :
  Calls Tryz.prog 98 #[.agg #[.int .i64 k, .int .i64 ow, .int .i64 oa, .int .i64 ob, .int .i64 oc, .int .u32 kn, .int .i64 on], .int .u32 a, .int .u32 b, .int .u32 c] w fun e w' => e = .returned (.int .u32 (valV k ow kn a b c)) ∧ Below w.heap.size w w' := by
 rcases hk with rfl | ⟨rfl, hw⟩ | ⟨rfl, hw⟩ | rfl | rfl | ⟨rfl, hw⟩
 ·exact rval_1 ow oa ob oc kn on a b c w k0 k1 a0 a1 b0 b1 c0 c1
 ·exact rval_4 ow oa ob oc kn on a b c w k0 k1 a0 a1 b0 b1 c0 c1 hw
 ·exact rval_5 ow oa ob oc kn on a b c w k0 k1 a0 a1 b0 b1 c0 c1 hw
 ·exact rval_6 ow oa ob oc kn on a b c w k0 k1 a0 a1 b0 b1 c0 c1
 ·exact rval_7 ow oa ob oc kn on a b c w k0 k1 a0 a1 b0 b1 c0 c1
 ·exact rval_8 ow oa ob oc kn on a b c w k0 k1 a0 a1 b0 b1 c0 c1 ⟨by omega, by omega⟩
end Go.Proofs.YtcjcmnnhmajocabGreat.Ev
namespace Go.Proofs.YtcjcmnnhmajocabGreat.Ot
open Go.RowKit Kt Ic Me Ev
variable {K : Wc} {s : Wk} {W W' : World}
/-- three cells of the call's own -/
def B3 (b : Nat) (g : Nat → Value) (W : World) : Prop := b < W.heap.size ∧ (∀ j, j < 3 → W.cell? ⟨b, j, none⟩ = some (g j)) ∧ ∀ j, W.frozen? ⟨b, j, none⟩ = false
theorem B3.new (w : World) (x y z : Value) (t : TypeId) : B3 w.heap.size (fun j => if j = 0 then x else if j = 1 then y else z) (w.alloc (.cells #[x, y, z] t)) :=
 ⟨by simp, fun j hj => (cell_of_row _ _ _ _ _ _ (heap_alloc_new w _)).trans (by rcases (show j = 0 ∨ j = 1 ∨ j = 2 by omega) with rfl | rfl | rfl <;> rfl), fun j => by simp⟩
theorem B3.upto {b : Nat} {g : Nat → Value} {S : Nat → Prop} (h : B3 b g W) (u : Upto S W W') (hs : ¬ S b) : B3 b g W' :=
 ⟨Nat.lt_of_lt_of_le h.1 u.size, fun j hj => (u.cell (q := ⟨b, j, none⟩) h.1 hs).trans (h.2.1 j hj), fun j => (u.frozen (q := ⟨b, j, none⟩) h.1 hs).trans (h.2.2 j)⟩
theorem B3.below {b : Nat} {g : Nat → Value} (h : B3 b g W) (u : Below W.heap.size W W') : B3 b g W' := h.upto (Upto.of_below (S := fun _ => False) u) id
theorem B3.set {b : Nat} {g : Nat → Value} (h : B3 b g W) (i : Nat) (hi : i < 3) (v : Value) : B3 b (upd g i v) (W.setCell ⟨b, i, none⟩ v) :=
 ⟨by simpa using h.1, fun j hj => by
  unfold upd
  by_cases e : j = i
  ·rw [if_pos e, e]; exact World.cell?_setCell_same _ _ _ (h.2.1 i hi)
  ·rw [if_neg e, HM.cell_other e]; exact h.2.1 j hj, fun j => by simpa using h.2.2 j⟩
theorem WW.keep {S : Nat → Prop} (a : WW K s W) (u : Upto S W W') (hS : ∀ i, S i → i ≠ K.h ∧ i ≠ K.tb ∧ i ≠ K.mb ∧ ¬ own K W i) : WW K s W' := by
 have nh : ¬ S K.h := fun h => (hS _ h).1 rfl
 have nt : ¬ S K.tb := fun h => (hS _ h).2.1 rfl
 have m := a.m
 have e : ∀ j, W'.cell? ⟨K.h, j, none⟩ = W.cell? ⟨K.h, j, none⟩ := fun j => u.cell (q := ⟨K.h, j, none⟩) m.l nh
 have f : ∀ j, W'.cell? ⟨K.tb, j, none⟩ = W.cell? ⟨K.tb, j, none⟩ := fun j => u.cell (q := ⟨K.tb, j, none⟩) m.l2 nt
 obtain ⟨v, h1, h2⟩ := m.c0
 exact ⟨⟨⟨v, (e _).trans h1, h2.upto u fun k hk hs => (hS k hs).2.2.2 ⟨v, h1, hk⟩⟩, (e _).trans m.c1, fun j hj => (e _).trans (m.sl j hj), (e _).trans m.cm, (e _).trans m.cn, fun t ht => (f _).trans (m.to t ht),
  fun j => (u.frozen (q := ⟨K.h, j, none⟩) m.l nh).trans (m.z j), fun j => (u.frozen (q := ⟨K.tb, j, none⟩) m.l2 nt).trans (m.zt j), m.lh, m.lt, m.ne, Nat.le_trans m.lb u.size⟩, a.o.upto u fun h => (hS _ h).2.2.1 rfl, a.mv, a.lb, a.nh, a.nt⟩
theorem UW.new {S : Nat → Prop} {w : World} (h : UW K w W) (hl : K.h < w.heap.size) (u : Upto S W W') (hS : ∀ i, S i → w.heap.size ≤ i) : UW K w W' :=
 ⟨⟨u.os.trans h.u.os, u.tape.trans h.u.tape, u.output.trans h.u.output, Nat.le_trans h.u.size u.size, fun i hi hs => (u.block i (Nat.lt_of_lt_of_le hi h.u.size) fun e => by have := hS i e; omega).trans (h.u.block i hi hs)⟩,
  fun i e => by
   obtain ⟨v, h1, h2⟩ := e
   exact h.ow i ⟨v, (u.cell (q := ⟨K.h, 0, none⟩) (Nat.lt_of_lt_of_le hl h.u.size) fun e => by have := hS _ e; dsimp only at this; omega).symm.trans h1, h2⟩⟩
end Go.Proofs.YtcjcmnnhmajocabGreat.Ot
