/- crossgrainlaw2.once. -/
import Derived.WalkKit
import Derived.BigQuiet
import Derived.Lib.Hide
import Derived.LoopN
import Derived.Outline
import Derived.Deep.LoopGhost
import Derived.Deep.QuietTactic
import Derived.Test.YtcjcmnnhmajocabPoaa
import Derived.Test.YtcjcmnnhmajocabPoaj
import Derived.Test.YtcjcmnnhmajocabPobg
namespace Go.Proofs.Ytcjcmnnhmajocab.Ot
open Go.RowKit Kt Ic Me Ev
set_option linter.unusedVariables false
set_option linter.unusedSimpArgs false
/-- what an operation takes, as a list -/
def tkl (o : Opr) : List Int := if tC o.k then [o.a, o.b, o.c] else if tB o.k then [o.a, o.b] else if tA o.k then [o.a] else []
/-- numbers that lie there -/
def Ns (xs : List Int) (ao : Option Addr) (cap : Nat) (w : World) : Prop := xs.length ≤ cap ∧ (0 < xs.length → ∃ g, ao = some ⟨g, 0, none⟩ ∧ g < w.heap.size ∧ ∀ j x, xs[j]? = some x → w.cell? ⟨g, j, none⟩ = some (.int .i64 x))
theorem Ns.keep {xs : List Int} {ao : Option Addr} {cap : Nat} {w w' : World} (h : Ns xs ao cap w) (hb : Below w.heap.size w w') : Ns xs ao cap w' := by
  obtain ⟨h1, h3⟩ := h
  refine ⟨h1, fun hp => ?_⟩
  obtain ⟨g, e, hg, hc⟩ := h3 hp
  exact ⟨g, e, Nat.lt_of_lt_of_le hg hb.size, fun j x hj => (hb.cell (p := ⟨g, j, none⟩) hg).trans (hc j x hj)⟩
theorem Ns.one (w : World) (a : Int) (t : TypeId) : Ns [a] (some ⟨w.heap.size, 0, none⟩) 1 (w.alloc (.cells #[.int .i64 a] t)) :=
  ⟨Nat.le_refl _, fun _ => ⟨w.heap.size, rfl, by simp, fun j x hj => (cell_of_row _ _ _ _ _ _ (heap_alloc_new w _)).trans (by match j, hj with | 0, hj => simp at hj; subst hj; rfl)⟩⟩
theorem Ns.two (w : World) (a b : Int) (t : TypeId) : Ns [a, b] (some ⟨w.heap.size, 0, none⟩) 2 (w.alloc (.cells #[.int .i64 a, .int .i64 b] t)) :=
  ⟨Nat.le_refl _, fun _ => ⟨w.heap.size, rfl, by simp, fun j x hj => (cell_of_row _ _ _ _ _ _ (heap_alloc_new w _)).trans (by match j, hj with | 0, hj => simp at hj; subst hj; rfl | 1, hj => simp at hj; subst hj; rfl)⟩⟩
theorem Ns.three (w : World) (a b c : Int) (t : TypeId) : Ns [a, b, c] (some ⟨w.heap.size, 0, none⟩) 3 (w.alloc (.cells #[.int .i64 a, .int .i64 b, .int .i64 c] t)) :=
  ⟨Nat.le_refl _, fun _ => ⟨w.heap.size, rfl, by simp, fun j x hj => (cell_of_row _ _ _ _ _ _ (heap_alloc_new w _)).trans (by match j, hj with | 0, hj => simp at hj; subst hj; rfl | 1, hj => simp at hj; subst hj; rfl | 2, hj => simp at hj; subst hj; rfl)⟩⟩
theorem Ns.one' {W : World} {B : Nat} (h : W.heap.size = B) (a : Int) (t : TypeId) : Ns [a] (some ⟨B, 0, none⟩) 1 (W.alloc (.cells #[.int .i64 a] t)) := h ▸ Ns.one W a t
theorem Ns.two' {W : World} {B : Nat} (h : W.heap.size = B) (a b : Int) (t : TypeId) : Ns [a, b] (some ⟨B, 0, none⟩) 2 (W.alloc (.cells #[.int .i64 a, .int .i64 b] t)) := h ▸ Ns.two W a b t
theorem Ns.three' {W : World} {B : Nat} (h : W.heap.size = B) (a b c : Int) (t : TypeId) : Ns [a, b, c] (some ⟨B, 0, none⟩) 3 (W.alloc (.cells #[.int .i64 a, .int .i64 b, .int .i64 c] t)) := h ▸ Ns.three W a b c t
set_option maxRecDepth 100000 in
set_option maxHeartbeats 4000000 in
theorem ltakes_any (o : Opr) (hk : 1 ≤ o.k ∧ o.k ≤ 17) (w : World) : Calls Try.prog 74 #[.agg #[.int .i64 o.k, .int .i64 o.w, .int .i64 o.a, .int .i64 o.b, .int .i64 o.c, .int .u32 o.kn, .int .i64 o.n]] w fun e w' => (∃ ao cap, e = .returned (.slice ao (tkl o).length cap) ∧ Ns (tkl o) ao cap w' ∧ ∀ a, ao = some a → w.heap.size ≤ a.block) ∧ Below w.heap.size w w' := by
  obtain ⟨k, ow, a, b, c, n, m⟩ := o
  dsimp only at hk ⊢
  have B1 : ∀ (o1 o2 : Obj), Below w.heap.size w ((w.alloc o1).alloc o2) := fun o1 o2 => ((Below.refl _ _).alloc (Nat.le_refl _) _).alloc (by simp) _
  have B0 : ∀ (o1 : Obj), Below w.heap.size w (w.alloc o1) := fun o1 => (Below.refl _ _).alloc (Nat.le_refl _) _
  have s1 : ∀ o1 : Obj, (w.alloc o1).heap.size = w.heap.size + 1 := fun o1 => by simp
  by_cases h0 : k = 1 ∨ k = 2 ∨ k = 11 ∨ k = 14 ∨ k = 15 ∨ k = 17
  · rcases h0 with rfl | rfl | rfl | rfl | rfl | rfl
    all_goals
      go_enter Try.func74, Try.ntmps74
      go_wp2
      go_ret
      exact ⟨⟨none, 0, rfl, ⟨Nat.le_refl _, fun h => absurd (show 0 < 0 from h) (by decide)⟩, fun a h => nomatch h⟩, B0 _⟩
  by_cases h1 : k = 4 ∨ k = 10
  · rcases h1 with rfl | rfl
    all_goals
      go_enter Try.func74, Try.ntmps74
      go_wp2
      go_ret
      exact ⟨⟨_, _, rfl, Ns.two' (s1 _) a b _, fun x h => by cases h; exact Nat.le_succ _⟩, B1 _ _⟩
  by_cases h2 : k = 6 ∨ k = 7
  · rcases h2 with rfl | rfl
    all_goals
      go_enter Try.func74, Try.ntmps74
      go_wp2
      go_ret
      exact ⟨⟨_, _, rfl, Ns.three' (s1 _) a b c _, fun x h => by cases h; exact Nat.le_succ _⟩, B1 _ _⟩
  rcases (show k = 3 ∨ k = 5 ∨ k = 8 ∨ k = 9 ∨ k = 12 ∨ k = 13 ∨ k = 16 by omega) with rfl | rfl | rfl | rfl | rfl | rfl | rfl
  all_goals
    clear h0 h1 h2
    go_enter Try.func74, Try.ntmps74
    go_wp2
    go_ret
    exact ⟨⟨_, _, rfl, Ns.one' (s1 _) a _, fun x h => by cases h; exact Nat.le_succ _⟩, B1 _ _⟩
set_option maxHeartbeats 4000000 in
theorem lpure_any (k : Int) (hk : 1 ≤ k ∧ k ≤ 17) (w : World) : Calls Try.prog 76 #[.int .i64 k] w fun e w' => e = .returned (.bool (pur k)) ∧ w = w' := by
  rcases (show k = 1 ∨ k = 2 ∨ k = 3 ∨ k = 4 ∨ k = 5 ∨ k = 6 ∨ k = 7 ∨ k = 8 ∨ k = 9 ∨ k = 10 ∨ k = 11 ∨ k = 12 ∨ k = 13 ∨ k = 14 ∨ k = 15 ∨ k = 16 ∨ k = 17 by omega) with rfl | rfl | rfl | rfl | rfl | rfl | rfl | rfl | rfl | rfl | rfl | rfl | rfl | rfl | rfl | rfl | rfl
  all_goals
    go_enter Try.func76, Try.ntmps76
    go_wp2
    go_ret
    exact ⟨rfl, rfl⟩
/-- is the block left there, if need be? -/
def lvs (k : Int) : Bool := decide (9 ≤ k ∧ k ≤ 13)
set_option maxHeartbeats 4000000 in
theorem lleaves_any (k : Int) (hk : 1 ≤ k ∧ k ≤ 17) (w : World) : Calls Try.prog 77 #[.int .i64 k] w fun e w' => e = .returned (.bool (lvs k)) ∧ w = w' := by
  rcases (show k = 1 ∨ k = 2 ∨ k = 3 ∨ k = 4 ∨ k = 5 ∨ k = 6 ∨ k = 7 ∨ k = 8 ∨ k = 9 ∨ k = 10 ∨ k = 11 ∨ k = 12 ∨ k = 13 ∨ k = 14 ∨ k = 15 ∨ k = 16 ∨ k = 17 by omega) with rfl | rfl | rfl | rfl | rfl | rfl | rfl | rfl | rfl | rfl | rfl | rfl | rfl | rfl | rfl | rfl | rfl
  all_goals
    go_enter Try.func77, Try.ntmps77
    go_wp2
    go_ret
    exact ⟨rfl, rfl⟩
end Go.Proofs.Ytcjcmnnhmajocab.Ot
namespace Go.Proofs.Ytcjcmnnhmajocab.Ot
open Go.RowKit Kt Ic Me Ev
set_option linter.unusedVariables false
set_option linter.unusedSimpArgs false
variable {cnt : Int} {os : List Opr} {i : Nat}
/-- the walk behind so many -/
def sT (os : List Opr) (i : Nat) : Wk := (fs os i).2
theorem us_from : ∀ k, k ≤ os.length → ∀ x, (db os k).us x = true → ∃ m, m < os.length ∧ ∃ j, j < 3 ∧ isR (opAt os m).k j = true ∧ (ar (opAt os m) j).toNat = x
  | 0, _, x, h => absurd (show false = true from h) (by decide)
  | k + 1, hk, x, h => by
    have hm : os.length - (k + 1) < os.length := by omega
    have ih := us_from k (by omega) x
    change ((db os k).one (os.length - (k + 1)) (opAt os (os.length - (k + 1)))).us x = true at h
    rw [one_us] at h
    by_cases e : (db os k).kpO (os.length - (k + 1)) (opAt os (os.length - (k + 1))) = true
    · rw [if_pos e] at h
      have mk : ∀ (b : Bool) (u : Nat → Bool) (t : Int), mk1 b u t x = true → (b = true ∧ t.toNat = x) ∨ u x = true := fun b u t hh => by
        unfold mk1 at hh
        cases b with
        | false => rw [if_neg (by decide)] at hh; exact .inr hh
        | true =>
          rw [if_pos rfl] at hh
          by_cases e : x = t.toNat
          · exact .inl ⟨rfl, e.symm⟩
          · rw [upd_ne _ _ e] at hh; exact .inr hh
      unfold Dd.us2 at h
      rcases mk _ _ _ h with h | h
      · exact ⟨_, hm, 2, by decide, h.1, h.2⟩
      rcases mk _ _ _ h with h | h
      · exact ⟨_, hm, 1, by decide, h.1, h.2⟩
      rcases mk _ _ _ h with h | h
      · exact ⟨_, hm, 0, by decide, h.1, h.2⟩
      · exact ih h
    · rw [if_neg e] at h; exact ih h
/-- put, and not seen since -/
def opF (os : List Opr) : Nat → Nat → Bool
  | 0 => fun _ => false
  | i + 1 => if (opAt os i).k = 3 then upd (opF os i) (opAt os i).w.toNat true else if (opAt os i).k = 17 then (fun j => if 8 ≤ j then false else opF os i j) else if 9 ≤ (opAt os i).k ∧ (opAt os i).k ≤ 13 then (fun _ => false) else opF os i
/-- what is clean -/
structure Cl (cnt : Int) (os : List Opr) : Prop where
  g : Good cnt os
  e : ∀ i, i < os.length → Ex (sT os i) (opAt os i) ∧ sT os (i + 1) = nxt (sT os i) i (opAt os i)
  o : ∀ i, i ≤ os.length → (sT os i).ops = os.take i
  k : ∀ i, i < os.length → kps os i = true
theorem cl_of (g : Good cnt os) (h : opt1 os = os) : Cl cnt os := by
  obtain ⟨h1, h2⟩ := opt1_fix g h
  have h3 := fwd_mz (os := os)
  have h4 := ded_mz (os := fwd os)
  have e : mz (ded (fwd os)) = mz os := by show mz (opt1 os) = _; rw [h]
  exact ⟨g, fun i hi => (h1 i hi).2, fun i hi => (EI.all g (by omega) i hi).o, h2⟩
theorem Cl.start (os : List Opr) : sT os 0 = w0 := rfl
theorem Cl.idle (c : Cl cnt os) {i : Nat} (hi : i < os.length) (hg : gv (opAt os i).k = true) (h9 : (opAt os i).k ≠ 9) : ∃ m, m < os.length ∧ ∃ j, j < 3 ∧ isR (opAt os m).k j = true ∧ (ar (opAt os m) j).toNat = i := by
  have hk := c.k i hi
  rw [kps_at hi] at hk
  have hgk := gv_k hg
  unfold Dd.kpO at hk
  rw [if_neg (by omega), show gvD (opAt os i).k = true from decide_eq_true (by omega), if_pos rfl] at hk
  exact us_from _ (by omega) i hk
theorem take_at {i t : Nat} (h : t < i) (hi : i ≤ os.length) : opAt (os.take i) t = opAt os t := by
  have e : os.take i ++ os.drop i = os := List.take_append_drop i os
  have h2 : t < (os.take i).length := by rw [List.length_take, Nat.min_eq_left hi]; exact h
  conv => rhs; rw [← e]
  rw [opAt_app_l h2]
theorem Cl.isC (c : Cl cnt os) {i : Nat} (hi : i ≤ os.length) {t : Int} (h : t.toNat < i) : isC (sT os i) t = decide ((opAt os t.toNat).k = 1) := by
  unfold Ot.isC
  rw [c.o i hi, take_at h hi]
theorem Cl.one (c : Cl cnt os) {k m : Nat} (hk : k < os.length) (hm : m < k) (hp : pur (opAt os k).k = true) : opAt os m ≠ opAt os k := by
  have h := (c.e k hk).1.i hp
  rw [c.o k (by omega)] at h
  refine idx_none h _ ?_
  rw [← take_at hm (by omega)]
  exact opAt_mem (by rw [List.length_take, Nat.min_eq_left (by omega)]; exact hm)
theorem Cl.take (c : Cl cnt os) {i : Nat} (hi : i < os.length) {j : Nat} (hj : j < 3) (hr : isR (opAt os i).k j = true) : 0 ≤ ar (opAt os i) j ∧ ar (opAt os i) j < i := by
  have := c.g.a.t i hi j hj hr
  exact ⟨this.1, this.2.1⟩
/-- no number that is chosen by -/
theorem Cl.fst (c : Cl cnt os) {i : Nat} (hi : i < os.length) (hk : (opAt os i).k = 6 ∨ (opAt os i).k = 12 ∨ (opAt os i).k = 13) : (opAt os (opAt os i).a.toNat).k ≠ 1 := fun h1 => by
  have ha : tA (opAt os i).k = true := decide_eq_true (by omega)
  have hb := c.take hi (j := 0) (by decide) ha
  have hb1 : 0 ≤ (opAt os i).a := hb.1
  have hb2 : (opAt os i).a < i := hb.2
  have hc := c.isC (Nat.le_of_lt hi) (t := (opAt os i).a) (by omega)
  rw [decide_eq_true h1] at hc
  have ex := (c.e i hi).1
  by_cases h6 : (opAt os i).k = 6
  · exact (ex.v (by rw [h6]; rfl) (by omega)).2 ⟨h6, hc⟩
  · have := ex.c (by omega)
    rw [hc] at this; exact absurd this (by decide)
/-- nothing that hangs on numbers alone -/
theorem Cl.all (c : Cl cnt os) {i : Nat} (hi : i < os.length) (hp : pur (opAt os i).k = true) (h1 : (opAt os i).k ≠ 1) : ∃ j, j < 3 ∧ isR (opAt os i).k j = true ∧ (opAt os (ar (opAt os i) j).toNat).k ≠ 1 := by
  have h := ((c.e i hi).1.v hp h1).1
  unfold allC at h
  rw [Bool.and_eq_false_iff, Bool.and_eq_false_iff, Bool.or_eq_false_iff, Bool.or_eq_false_iff, Bool.or_eq_false_iff] at h
  rcases h with (h | h) | h
  · have hr : isR (opAt os i).k 0 = true := (by simpa using h.1 : tA (opAt os i).k = true)
    have hb := c.take hi (j := 0) (by decide) hr
    have hc := c.isC (Nat.le_of_lt hi) (t := ar (opAt os i) 0) (by omega)
    exact ⟨0, by decide, hr, of_decide_eq_false (hc.symm.trans h.2)⟩
  · have hr : isR (opAt os i).k 1 = true := (by simpa using h.1 : tB (opAt os i).k = true)
    have hb := c.take hi (j := 1) (by decide) hr
    have hc := c.isC (Nat.le_of_lt hi) (t := ar (opAt os i) 1) (by omega)
    exact ⟨1, by decide, hr, of_decide_eq_false (hc.symm.trans h.2)⟩
  · have hr : isR (opAt os i).k 2 = true := (by simpa using h.1 : tC (opAt os i).k = true)
    have hb := c.take hi (j := 2) (by decide) hr
    have hc := c.isC (Nat.le_of_lt hi) (t := ar (opAt os i) 2) (by omega)
    exact ⟨2, by decide, hr, of_decide_eq_false (hc.symm.trans h.2)⟩
theorem nxt_sl (s : Wk) (i : Nat) (o : Opr) : (nxt s i o).sl = if o.k = 2 then upd s.sl o.w.toNat s.nx else if o.k = 3 then upd s.sl o.w.toNat o.a else s.sl := by
  unfold nxt
  by_cases h2 : o.k = 2
  · rw [if_pos h2, if_pos h2]; rfl
  rw [if_neg h2, if_neg h2]
  by_cases h3 : o.k = 3
  · rw [if_pos h3, if_pos h3]
    by_cases h8 : 8 ≤ o.w
    · rw [if_pos h8]; rfl
    · rw [if_neg h8]; rfl
  rw [if_neg h3, if_neg h3]
  by_cases h17 : o.k = 17
  · rw [if_pos h17]; rfl
  rw [if_neg h17]
  by_cases hq : o.k = 12 ∨ o.k = 13
  · rw [if_pos hq]; rfl
  · rw [if_neg hq]; rfl
theorem nxt_now (s : Wk) (i : Nat) (o : Opr) : (nxt s i o).now = if o.k = 17 then s.nx else if o.k = 3 ∧ 8 ≤ o.w then -1 else s.now := by
  unfold nxt
  by_cases h2 : o.k = 2
  · rw [if_pos h2, if_neg (show ¬ o.k = 17 by omega), if_neg (show ¬ (o.k = 3 ∧ 8 ≤ o.w) by omega)]; rfl
  rw [if_neg h2]
  by_cases h3 : o.k = 3
  · rw [if_pos h3, if_neg (show ¬ o.k = 17 by omega)]
    by_cases h8 : 8 ≤ o.w
    · rw [if_pos h8, if_pos ⟨h3, h8⟩]; rfl
    · rw [if_neg h8, if_neg (show ¬ (o.k = 3 ∧ 8 ≤ o.w) from fun h => h8 h.2)]; rfl
  rw [if_neg h3]
  by_cases h17 : o.k = 17
  · rw [if_pos h17, if_pos h17]; rfl
  rw [if_neg h17, if_neg h17, if_neg (show ¬ (o.k = 3 ∧ 8 ≤ o.w) from fun h => h3 h.1)]
  by_cases hq : o.k = 12 ∨ o.k = 13
  · rw [if_pos hq]; rfl
  · rw [if_neg hq]; rfl
theorem Cl.sl (c : Cl cnt os) {i : Nat} (hi : i < os.length) : (sT os (i + 1)).sl = if (opAt os i).k = 2 then upd (sT os i).sl (opAt os i).w.toNat (i : Int) else if (opAt os i).k = 3 then upd (sT os i).sl (opAt os i).w.toNat (opAt os i).a else (sT os i).sl := by
  rw [(c.e i hi).2, nxt_sl]
  have : (sT os i).nx = (i : Int) := by
    show ((sT os i).ops.length : Int) = _
    rw [c.o i (by omega), List.length_take, Nat.min_eq_left (by omega)]
  rw [this]
theorem Cl.now (c : Cl cnt os) {i : Nat} (hi : i < os.length) : (sT os (i + 1)).now = if (opAt os i).k = 17 then (i : Int) else if (opAt os i).k = 3 ∧ 8 ≤ (opAt os i).w then -1 else (sT os i).now := by
  rw [(c.e i hi).2, nxt_now]
  have : (sT os i).nx = (i : Int) := by
    show ((sT os i).ops.length : Int) = _
    rw [c.o i (by omega), List.length_take, Nat.min_eq_left (by omega)]
  rw [this]
theorem Cl.slb (c : Cl cnt os) : ∀ i, i ≤ os.length → ∀ j, (sT os i).sl j < i ∧ -1 ≤ (sT os i).sl j
  | 0, _, j => by show (-1 : Int) < 0 ∧ (-1 : Int) ≤ -1; omega
  | i + 1, hi, j => by
    have ih := c.slb i (by omega) j
    rw [c.sl (by omega)]
    by_cases h2 : (opAt os i).k = 2
    · rw [if_pos h2]
      by_cases e : j = (opAt os i).w.toNat
      · rw [e, upd_eq]; omega
      · rw [upd_ne _ _ e]; omega
    rw [if_neg h2]
    by_cases h3 : (opAt os i).k = 3
    · rw [if_pos h3]
      by_cases e : j = (opAt os i).w.toNat
      · rw [e, upd_eq]
        have := c.take (i := i) (by omega) (j := 0) (by decide) (by rw [h3]; rfl)
        have h1 : 0 ≤ (opAt os i).a := this.1
        have h2 : (opAt os i).a < i := this.2
        omega
      · rw [upd_ne _ _ e]; omega
    rw [if_neg h3]; omega
/-- between: it is neither asked nor left -/
def qt (w : Nat) (o : Opr) : Prop := ¬ (o.k = 17 ∧ 8 ≤ w) ∧ ¬ (9 ≤ o.k ∧ o.k ≤ 16) ∧ ¬ (o.k = 2 ∧ o.w.toNat = w)
theorem Cl.opn (c : Cl cnt os) : ∀ i, i < os.length → ∀ w, opF os i w = true → 0 ≤ (sT os i).sl w ∧ ∃ m, m < i ∧ (opAt os m).k = 3 ∧ (opAt os m).w.toNat = w ∧ ∀ t, m < t → t < i → qt w (opAt os t)
  | 0, _, w, h => absurd (show false = true from h) (by decide)
  | i + 1, hi, w, h => by
    have ih := c.opn i (by omega) w
    have hsl := c.sl (i := i) (by omega)
    have hb := c.slb i (by omega) w
    change (if _ then _ else _ : Nat → Bool) w = true at h
    by_cases h3 : (opAt os i).k = 3
    · rw [if_pos h3] at h
      have ha : 0 ≤ (opAt os i).a := (c.take (i := i) (by omega) (j := 0) (by decide) (by rw [h3]; rfl)).1
      by_cases e : w = (opAt os i).w.toNat
      · refine ⟨?_, i, by omega, h3, e.symm, fun t h1 h2 => by omega⟩
        rw [hsl, if_neg (by omega), if_pos h3, e, upd_eq]; exact ha
      · rw [upd_ne _ _ e] at h
        obtain ⟨h4, m, h5, h6, h7, h8⟩ := ih h
        refine ⟨by rw [hsl, if_neg (by omega), if_pos h3, upd_ne _ _ e]; exact h4, m, by omega, h6, h7, fun t h1 h2 => ?_⟩
        by_cases et : t = i
        · rw [et]; exact ⟨by omega, by omega, by omega⟩
        · exact h8 t h1 (by omega)
    rw [if_neg h3] at h
    by_cases h17 : (opAt os i).k = 17
    · rw [if_pos h17] at h
      by_cases h8 : 8 ≤ w
      · rw [if_pos h8] at h; exact absurd h (by decide)
      · rw [if_neg h8] at h
        obtain ⟨h4, m, h5, h6, h7, hq⟩ := ih h
        refine ⟨by rw [hsl, if_neg (by omega), if_neg h3]; exact h4, m, by omega, h6, h7, fun t h1 h2 => ?_⟩
        by_cases et : t = i
        · rw [et]; exact ⟨fun e => h8 e.2, by omega, by omega⟩
        · exact hq t h1 (by omega)
    rw [if_neg h17] at h
    by_cases h9 : 9 ≤ (opAt os i).k ∧ (opAt os i).k ≤ 13
    · rw [if_pos h9] at h; exact absurd h (by decide)
    rw [if_neg h9] at h
    obtain ⟨h4, m, h5, h6, h7, hq⟩ := ih h
    by_cases h2 : (opAt os i).k = 2 ∧ (opAt os i).w.toNat = w
    · have := (c.e i (by omega)).1.g h2.1
      rw [h2.2] at this; omega
    by_cases h14 : 14 ≤ (opAt os i).k ∧ (opAt os i).k ≤ 16
    · have hf := (c.g.f i (by omega)).1 (rF_yes h14)
      omega
    · refine ⟨?_, m, by omega, h6, h7, fun t h1 hh => ?_⟩
      · rw [hsl]
        by_cases e2 : (opAt os i).k = 2
        · rw [if_pos e2, upd_ne _ _ (fun e => h2 ⟨e2, e.symm⟩)]; exact h4
        · rw [if_neg e2, if_neg h3]; exact h4
      · by_cases et : t = i
        · rw [et]; exact ⟨fun e => h17 e.1, by omega, h2⟩
        · exact hq t h1 (by omega)
theorem one_ov {d : Dd} {i w : Nat} {o : Opr} (hk : d.kpO i o = true) (hw : d.ov w = true) (hq : qt w o) (hr : 1 ≤ o.k ∧ o.k ≤ 17) (hp : o.k = 2 → 0 ≤ o.w) : (d.one i o).ov w = true := by
  obtain ⟨q1, q2, q3⟩ := hq
  unfold Dd.one
  rw [if_pos hk]
  show d.ov2 o w = true
  have h1 : d.ov1 o w = true := by
    unfold Dd.ov1
    by_cases h3 : o.k = 3
    · rw [if_pos h3]
      by_cases e : w = o.w.toNat
      · rw [e, upd_eq]
      · rw [upd_ne _ _ e]; exact hw
    rw [if_neg h3]
    have hg : gvD o.k = true := decide_eq_true (by omega)
    rw [hg, if_pos rfl]; exact hw
  unfold Dd.ov2
  by_cases h2 : o.k = 2
  · rw [if_pos h2]
    rw [upd_ne _ _ (fun e => q3 ⟨h2, e.symm⟩)]; exact h1
  rw [if_neg h2]
  by_cases h17 : o.k = 17
  · rw [if_pos h17]
    show (if 8 ≤ w then false else _) = true
    rw [if_neg (fun e => q1 ⟨h17, e⟩)]; exact h1
  rw [if_neg h17]; exact h1
/-- nothing is put over unseen -/
theorem Cl.put (c : Cl cnt os) {i : Nat} (hi : i < os.length) (h3 : (opAt os i).k = 3) : opF os i (opAt os i).w.toNat = false := by
  cases h : opF os i (opAt os i).w.toNat with
  | false => rfl
  | true =>
    obtain ⟨_, m, hm, h4, h5, hq⟩ := c.opn i hi _ h
    have hov : ∀ n, n ≤ i - (m + 1) → (db os (os.length - (i - n))).ov (opAt os i).w.toNat = true := fun n => by
      induction n with
      | zero =>
        intro _
        rw [Nat.sub_zero, db_step hi]
        have hk := c.k i hi
        rw [kps_at hi] at hk
        unfold Dd.one
        rw [if_pos hk]
        show (dAt os i).ov2 (opAt os i) _ = true
        unfold Dd.ov2 Dd.ov1
        rw [if_neg (by omega), if_neg (by omega), if_pos h3, upd_eq]
      | succ n ih =>
        intro hn
        have h0 := ih (by omega)
        have ht : i - (n + 1) < os.length := by omega
        rw [db_step ht]
        have hk := c.k _ ht
        rw [kps_at ht] at hk
        refine one_ov hk ?_ (hq _ (by omega) (by omega)) ((c.g.a.l _ ht).k) fun _ => ((c.g.a.l _ ht).w).1
        show (db os (os.length - (i - (n + 1) + 1))).ov _ = true
        rw [show i - (n + 1) + 1 = i - n by omega]
        exact h0
    have hml : m < os.length := by omega
    have hk := c.k m hml
    rw [kps_at hml] at hk
    have := hov (i - (m + 1)) (Nat.le_refl _)
    rw [show i - (i - (m + 1)) = m + 1 by omega, ← h5] at this
    unfold Dd.kpO at hk
    rw [if_pos h4] at hk
    have e : (dAt os m).ov (opAt os m).w.toNat = true := this
    rw [e] at hk
    exact absurd hk (by decide)
end Go.Proofs.Ytcjcmnnhmajocab.Ot
namespace Go.Proofs.Ytcjcmnnhmajocab.Ot
open Go.RowKit Kt Ic Me Ev
set_option linter.unusedVariables false
set_option linter.unusedSimpArgs false
theorem eql_op (o p : Opr) : ∀ w : World, (binOp .eql 31 (.agg #[.int .i64 o.k, .int .i64 o.w, .int .i64 o.a, .int .i64 o.b, .int .i64 o.c, .int .u32 o.kn, .int .i64 o.n])
    (.agg #[.int .i64 p.k, .int .i64 p.w, .int .i64 p.a, .int .i64 p.b, .int .i64 p.c, .int .u32 p.kn, .int .i64 p.n])).run Try.prog w = .ok (.bool (decide (o = p))) w := by
  intro w
  have h : ∀ w : World, (Op.eqFields 9999 #[.int .i64 o.k, .int .i64 o.w, .int .i64 o.a, .int .i64 o.b, .int .i64 o.c, .int .u32 o.kn, .int .i64 o.n] #[.int .i64 p.k, .int .i64 p.w, .int .i64 p.a, .int .i64 p.b, .int .i64 p.c, .int .u32 p.kn, .int .i64 p.n]
      [fldO 0, fldO 1, fldO 2, fldO 3, fldO 4, fldO 5, fldO 6]).run Try.prog w = .ok (o.k == p.k && (o.w == p.w && (o.a == p.a && (o.b == p.b && (o.c == p.c && (o.kn == p.kn && (o.n == p.n && true))))))) w := by
    refine eqFields_step 9998 _ _ _ _ (by decide +kernel) (k := .i64) (k' := .i64) (by kernel_rfl) (fun w => by kernel_rfl) (fun w => by kernel_rfl) ?_
    refine eqFields_step 9998 _ _ _ _ (by decide +kernel) (k := .i64) (k' := .i64) (by kernel_rfl) (fun w => by kernel_rfl) (fun w => by kernel_rfl) ?_
    refine eqFields_step 9998 _ _ _ _ (by decide +kernel) (k := .i64) (k' := .i64) (by kernel_rfl) (fun w => by kernel_rfl) (fun w => by kernel_rfl) ?_
    refine eqFields_step 9998 _ _ _ _ (by decide +kernel) (k := .i64) (k' := .i64) (by kernel_rfl) (fun w => by kernel_rfl) (fun w => by kernel_rfl) ?_
    refine eqFields_step 9998 _ _ _ _ (by decide +kernel) (k := .i64) (k' := .i64) (by kernel_rfl) (fun w => by kernel_rfl) (fun w => by kernel_rfl) ?_
    refine eqFields_step 9998 _ _ _ _ (by decide +kernel) (k := .u32) (k' := .u32) (by kernel_rfl) (fun w => by kernel_rfl) (fun w => by kernel_rfl) ?_
    refine eqFields_step 9998 _ _ _ _ (by decide +kernel) (k := .i64) (k' := .i64) (by kernel_rfl) (fun w => by kernel_rfl) (fun w => by kernel_rfl) ?_
    intro w
    simp [Op.eqFields]
  rw [← fldsO] at h
  rw [run_eql_struct, run_equalIn_struct w 9999 31 _ _ (by kernel_rfl) (by kernel_rfl), h]
  simp only [Result.andThen_ok, Sem.run_pure]
  congr 2
  rw [Bool.eq_iff_iff]
  obtain ⟨_, _, _, _, _, _, _⟩ := o
  obtain ⟨_, _, _, _, _, _, _⟩ := p
  simp
variable {cnt : Int} {os : List Opr}
/-- the cells of one operation -/
theorem ops_cells {ao : Option Addr} {cap : Nat} {w : World} (h : Ops os ao cap w) {j : Nat} (hj : j < os.length) : ∃ g off, ao = some ⟨g, off, none⟩ ∧ g < w.heap.size ∧ w.cell? ⟨g, off + j * 7, none⟩ = some (.int .i64 (opAt os j).k) ∧ w.cell? ⟨g, off + j * 7 + 1, none⟩ = some (.int .i64 (opAt os j).w) ∧
    w.cell? ⟨g, off + j * 7 + 2, none⟩ = some (.int .i64 (opAt os j).a) ∧ w.cell? ⟨g, off + j * 7 + 3, none⟩ = some (.int .i64 (opAt os j).b) ∧ w.cell? ⟨g, off + j * 7 + 4, none⟩ = some (.int .i64 (opAt os j).c) ∧
    w.cell? ⟨g, off + j * 7 + 5, none⟩ = some (.int .u32 (opAt os j).kn) ∧ w.cell? ⟨g, off + j * 7 + 6, none⟩ = some (.int .i64 (opAt os j).n) := by
  obtain ⟨g, off, e, hg, hc⟩ := h.2.2 (by omega)
  have ho : os[j]? = some (opAt os j) := by unfold opAt; rw [List.getD_eq_getElem?_getD, List.getElem?_eq_getElem hj]; rfl
  exact ⟨g, off, e, hg, hc j _ ho 0 _ rfl, hc j _ ho 1 _ rfl, hc j _ ho 2 _ rfl, hc j _ ho 3 _ rfl, hc j _ ho 4 _ rfl, hc j _ ho 5 _ rfl, hc j _ ho 6 _ rfl⟩
set_option maxRecDepth 100000 in
set_option maxHeartbeats 4000000 in
theorem once_any (c : Cl cnt os) (ao : Option Addr) (cap : Nat) (w : World) (h : Ops os ao cap w) :
    Calls Try.prog 30 #[.slice ao os.length cap] w fun e w' => e = .returned (.bool true) ∧ Below w.heap.size w w' := by
  have hL : os.length ≤ 2048 := c.g.n1
  have hcap := h.1
  have H := Lib.hid h
  have C := Lib.hid c
  clear h c
  go_enter Try.func30, Try.ntmps30
  go_wp2
  go_loopg [8] os.length (fun n ix wr => ∃ j : Nat, n = os.length - j ∧ j ≤ os.length ∧ ix = .int .i64 j ∧ Hid (Below w.heap.size w wr))
  case atStart => exact ⟨0, rfl, Nat.zero_le _, rfl, Below.refl _ _⟩
  case round =>
    obtain ⟨j, hk, hj, rfl, B⟩ := hrel
    have HK := Lib.hid hk
    clear hk
    by_cases hlt : j < os.length
    · have hlt' : (j : Int) < os.length := by omega
      have HLT := Lib.hid hlt
      have O := Lib.hid (H.out.keep B.out)
      obtain ⟨g, off, rfl, hg, k0, k1, k2, k3, k4, k5, k6⟩ := ops_cells O.out hlt
      obtain ⟨o, ho⟩ : ∃ o, opAt os j = o := ⟨_, rfl⟩
      rw [ho] at k0 k1 k2 k3 k4 k5 k6
      have hok := (C.out.g.a.l j hlt).k
      rw [ho] at hok
      have HO := Lib.hid ho
      clear ho hlt
      go_upto_region 4 with fail
      have OBX := OB.new wr o 31
      have u1 := (Upto.refl (fun _ => False) wr).alloc (.cells o.cells 31)
      have B1 := Lib.hid (B.out.alloc B.out.size (.cells o.cells 31))
      have O1 := Lib.hid (O.out.keep ((Below.refl _ wr).alloc (Nat.le_refl _) (.cells o.cells 31)))
      have OB1 := Lib.hid OBX
      change Code.wp _ _ _ _ (wr.alloc (.cells o.cells 31))
      generalize wr.alloc (.cells o.cells 31) = w1 at *
      clear k0 k1 k2 k3 k4 k5 k6 u1 OBX
      obtain ⟨Bx, hBx⟩ : ∃ Bx, wr.heap.size = Bx := ⟨_, rfl⟩
      rw [hBx] at OB1 ⊢
      clear hBx
      go_wp2
      go_loopg [5] j (fun n ix wr2 => ∃ m : Nat, n = j - m ∧ m ≤ j ∧ ix = .int .i64 m ∧ Hid (Upto (fun _ => False) w1 wr2))
      case atStart => exact ⟨0, rfl, Nat.zero_le _, rfl, Upto.refl _ _⟩
      case round =>
        obtain ⟨m, hk, hm, rfl, U⟩ := hrel
        have HK2 := Lib.hid hk
        clear hk
        by_cases hml : m < j
        · have hml' : (m : Int) < j := by omega
          have HML := Lib.hid hml
          have O2 := O1.out.keep (U.out.below (Nat.le_refl _) fun _ _ h => h.elim)
          obtain ⟨g2, off2, hgo, hg2, k0, k1, k2, k3, k4, k5, k6⟩ := ops_cells O2 (j := m) (by have := HLT.out; omega)
          obtain ⟨rfl, rfl⟩ : g = g2 ∧ off = off2 := by simpa using hgo
          obtain ⟨b0, b1, b2, b3, b4, b5, b6⟩ := (OB1.out.upto U.out id).all
          have heq := eql_op (opAt os m) o
          have PU : Hid (∀ w : World, Calls Try.prog 76 #[.int .i64 o.k] w fun e w' => e = .returned (.bool (pur o.k)) ∧ w' = w) := Lib.hid fun w => (lpure_any o.k hok w).mono fun e w' h => ⟨h.1, h.2.symm⟩
          have HNE : Hid (pur o.k = true → decide (opAt os m = o) = false) := Lib.hid fun hp => decide_eq_false (by rw [← HO.out]; exact C.out.one HLT.out hml (by rw [HO.out]; exact hp))
          generalize opAt os m = x at *
          clear hgo O2 hml
          cases hp : pur o.k with
          | true =>
            rw [HNE.out hp] at heq
            rw [hp] at PU
            go_wp2
            go_quiet (first | (go_at_call 76; refine Calls.quiet_of_same (PU.out _)))
            go_wp2
            go_roundg (j - (m + 1))
            case measure => have := HK2.out; have := HML.out; omega
            case rel => exact ⟨m + 1, rfl, HML.out, by simp, Lib.hid ⟨U.out.os, U.out.tape, U.out.output, U.out.size, U.out.block⟩⟩
          | false =>
            rw [hp] at PU
            go_wp2
            go_quiet (first | (go_at_call 76; refine Calls.quiet_of_same (PU.out _)))
            go_wp2
            go_roundg (j - (m + 1))
            case measure => have := HK2.out; have := HML.out; omega
            case rel => exact ⟨m + 1, rfl, HML.out, by simp, Lib.hid ⟨U.out.os, U.out.tape, U.out.output, U.out.size, U.out.block⟩⟩
        · obtain rfl : m = j := by omega
          go_wp2
          go_roundg (os.length - (m + 1))
          case measure => have := HK.out; have := HLT.out; omega
          case rel => exact ⟨m + 1, rfl, HLT.out, by simp, Lib.hid (B1.out.trans (U.out.below B1.out.size fun _ _ h => h.elim))⟩
    · obtain rfl : j = os.length := by omega
      go_wp2
      go_ret
      exact ⟨rfl, B.out⟩
end Go.Proofs.Ytcjcmnnhmajocab.Ot
