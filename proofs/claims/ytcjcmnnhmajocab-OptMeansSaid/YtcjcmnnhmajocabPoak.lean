/- opt: takes, leaves, konst, put. -/
import Derived.Maps.AppendAt
import Derived.Laws.AppendOwn
import Derived.ArgAppend
import Derived.WalkKit
import Derived.Lib.Hide
import Derived.Deep.RegionLaw
import Derived.Deep.QuietTactic
import Derived.BigQuiet
import Derived.IntWalk
import Derived.OwnWalk
import Derived.Handy
import Derived.Outline
import Derived.Test.YtcjcmnnhmajocabPoaa
import Derived.Test.YtcjcmnnhmajocabPoae
import Derived.Test.YtcjcmnnhmajocabPoaj
namespace Go.Proofs.Ytcjcmnnhmajocab.Ot
open Go.RowKit Kt Ic Me Ev
set_option linter.unusedVariables false
set_option linter.unusedSimpArgs false
def opCs (os : List Opr) : List Value := os.flatMap fun o => o.cells.toList
theorem opCs_len : ∀ os : List Opr, (opCs os).length = os.length * 7
  | [] => rfl
  | o :: os => by
    show (o.cells.toList ++ opCs os).length = (os.length + 1) * 7
    rw [List.length_append, opCs_len os]
    show 7 + os.length * 7 = _
    omega
theorem opCs_app (a b : List Opr) : opCs (a ++ b) = opCs a ++ opCs b := by unfold opCs; simp
theorem opCs_get : ∀ (os : List Opr) (i j : Nat) (o : Opr), os[i]? = some o → j < 7 → (opCs os)[i * 7 + j]? = o.cells[j]?
  | [], i, j, o, h, _ => by simp at h
  | x :: os, 0, j, o, h, hj => by
    obtain rfl : x = o := by simpa using h
    show (x.cells.toList ++ opCs os)[0 * 7 + j]? = _
    have hl : x.cells.toList.length = 7 := rfl
    rw [Nat.zero_mul, Nat.zero_add, List.getElem?_append_left (by omega), Array.getElem?_toList]
  | x :: os, i + 1, j, o, h, hj => by
    show (x.cells.toList ++ opCs os)[(i + 1) * 7 + j]? = _
    have hl : x.cells.toList.length = 7 := rfl
    rw [List.getElem?_append_right (by omega), hl, show (i + 1) * 7 + j - 7 = i * 7 + j by omega]
    exact opCs_get os i j o (by simpa using h) hj
theorem opr_cells (o : Opr) : ∀ (j : Nat) (v : Value), o.cells[j]? = some v → v.oneCell' = true := by
  intro j v h
  match j, h with
  | 0, h => simp [Opr.cells] at h; subst h; rfl
  | 1, h => simp [Opr.cells] at h; subst h; rfl
  | 2, h => simp [Opr.cells] at h; subst h; rfl
  | 3, h => simp [Opr.cells] at h; subst h; rfl
  | 4, h => simp [Opr.cells] at h; subst h; rfl
  | 5, h => simp [Opr.cells] at h; subst h; rfl
  | 6, h => simp [Opr.cells] at h; subst h; rfl
  | n + 7, h => simp [Opr.cells] at h
/-- operations of the call's own -/
def OwnO (base : Nat) (v : Value) (os : List Opr) (w : World) : Prop := w.ownsRow base 31 7 v os.length (opCs os)
theorem OwnO.upto {B : Nat} {v : Value} {us : List Opr} {w w' : World} {S : Nat → Prop} (h : OwnO B v us w) (u : Upto S w w') (hs : ∀ k, v.ownBlock = some k → ¬ S k) : OwnO B v us w' := by
  obtain ⟨h1, h⟩ := h
  refine ⟨h1, ?_⟩
  rcases h with h | ⟨g, cap, cur, e1, e2, e3, e4⟩
  · exact .inl h
  · exact .inr ⟨g, cap, cur, e1, e2, (u.block g (Array.getElem?_eq_some_iff.1 e3).1 (hs g (by rw [e1]; rfl))).trans e3, e4⟩
theorem OwnO.blk {B : Nat} {v : Value} {us : List Opr} {w : World} (h : OwnO B v us w) : ∀ k, v.ownBlock = some k → B ≤ k ∧ k < w.heap.size := by
  intro k hk
  rcases h.2 with ⟨e, _⟩ | ⟨g, cap, cur, e1, e2, e3, _⟩
  · rw [e] at hk; exact nomatch hk
  · rw [e1] at hk
    obtain rfl : g = k := by simpa [Value.ownBlock] using hk
    exact ⟨e2, (Array.getElem?_eq_some_iff.1 e3).1⟩
/-- its form: operations that lie there -/
theorem OwnO.form {B : Nat} {v : Value} {us : List Opr} {W : World} (h : OwnO B v us W) : ∃ ao cap, v = .slice ao us.length cap ∧ Ops us ao cap W ∧ (0 < us.length → ∃ b, ao = some ⟨b, 0, none⟩ ∧ v.ownBlock = some b ∧ B ≤ b ∧ b < W.heap.size ∧
    ∀ i o, us[i]? = some o → ∀ j u, o.cells[j]? = some u → W.cell? ⟨b, i * 7 + j, none⟩ = some u) := by
  rcases h.2 with ⟨rfl, hn⟩ | ⟨g, c1, cur, rfl, hg, hrow, hle, hmx, hsz, htk⟩
  · have hn' : us.length = 0 := hn
    rw [hn']
    exact ⟨none, 0, rfl, ⟨by omega, by unfold maxLen; omega, fun h => absurd h (by omega)⟩, fun h => absurd h (by omega)⟩
  · have hgl : g < W.heap.size := (Array.getElem?_eq_some_iff.1 hrow).1
    have hc : ∀ i o, us[i]? = some o → ∀ j u, o.cells[j]? = some u → W.cell? ⟨g, i * 7 + j, none⟩ = some u := fun i o hi j u hj => by
      have hj7 : j < 7 := by
        have := (Array.getElem?_eq_some_iff.1 hj).1
        exact this
      have hil := (List.getElem?_eq_some_iff.1 hi).1
      rw [cell_of_row W g (i * 7 + j) _ _ _ hrow, ← Array.getElem?_toList]
      have h2 : (cur.toList.take (us.length * 7))[i * 7 + j]? = (opCs us)[i * 7 + j]? := by rw [htk]
      rw [List.getElem?_take, if_pos (by omega), opCs_get us i j o hi hj7, hj] at h2
      exact h2
    refine ⟨_, c1, rfl, ⟨hle, hmx, fun _ => ⟨g, 0, rfl, hgl, fun i o hi j u hj => by rw [Nat.zero_add]; exact hc i o hi j u hj⟩⟩, fun _ => ⟨g, rfl, rfl, hg, hgl, hc⟩⟩
theorem opi : ∃ i, Try.prog.info? 31 = some i ∧ i.zero = some (.agg #[.int .i64 0, .int .i64 0, .int .i64 0, .int .i64 0, .int .i64 0, .int .u32 0, .int .i64 0]) ∧ i.size = 7 ∧ i.bytes = 56 := by
  have h : (Try.prog.info? 31).map (fun i => (i.zero, i.size, i.bytes)) = some (some (.agg #[.int .i64 0, .int .i64 0, .int .i64 0, .int .i64 0, .int .i64 0, .int .u32 0, .int .i64 0]), 7, 56) := by kernel_rfl
  obtain ⟨i, hi, hz⟩ := Option.map_eq_some_iff.1 h
  simp only [Prod.mk.injEq] at hz
  exact ⟨i, hi, hz.1, hz.2.1, hz.2.2⟩
/-- append of one operation, as one step of a region -/
theorem step_op {ops : Array Oper} {o : Oper} {a : Act} {w : World} {K : Act → World → Prop} {Q : Exit → Act → World → Prop} {E : Prop}
    (hg : o.guard = none) (s x : Operand) (hop : o.op = Op.call { callee := Callee.builtin Builtin.append, args := #[s, x], argTypes := #[23, 23] })
    (base : Nat) (v : Value) (xs : List Opr) (hs : a.eval s = v) (hown : OwnO base v xs w) (hbase : base ≤ w.heap.size) (g c : Nat) (x0 : Opr) (hx : a.eval x = .slice (some ⟨g, 0, none⟩) 1 c) (hc : ∀ j u, x0.cells[j]? = some u → w.cell? ⟨g, j, none⟩ = some u) (hb : xs.length + 1 ≤ 1000000000000)
    (hK : ∀ v' w', OwnO base v' (xs ++ [x0]) w' → Upto (fun i => v.ownBlock = some i) w w' → (v'.ownBlock = v.ownBlock ∨ v'.ownBlock = some w.heap.size) → K (a.put o.dst v') w') :
    if Region.wanted o (yielded ops a.tmps) = true then Oper.wp Try.prog o a w K Q else E := by
  have hw : Region.wanted o (yielded ops a.tmps) = true := by simp [Region.wanted, hg]
  rw [if_pos hw]
  obtain ⟨i, hi, hz, hsz, hby⟩ := opi
  have hmx : (maxLen : Nat) = 9223372036854775807 := rfl
  have e1 : ∀ j u, x0.cells.toList[j]? = some u → w.cell? ((⟨g, 0, none⟩ : Addr).add j) = some u := by
    intro j u hj
    rw [Array.getElem?_toList] at hj
    rw [Addr.add_lit, Nat.zero_add]
    exact hc j u hj
  have e2 : ∀ u ∈ x0.cells.toList, u.oneCell' = true := by
    intro u hu
    obtain ⟨j, hj⟩ := List.getElem?_of_mem hu
    rw [Array.getElem?_toList] at hj
    exact opr_cells x0 j u hj
  obtain ⟨v', w', hrun, r1, r2, _, r4⟩ := run_append_own_at (P := Try.prog) w base 23 o.type 31 i _ 7 56 Try.underlying23 hi hz hsz hby rfl (by decide) v xs.length (opCs xs) hown ⟨g, 0, none⟩ 1 c x0.cells.toList rfl e1 e2 (by omega) (by omega) hbase
  unfold Oper.wp
  simp [execOp, hop, resolve, invoke, builtin, hs, hx, hrun, Result.andThen]
  refine hK v' w' ?_ ⟨r2.os, r2.tape, r2.output, r2.size, fun k hk hn => r2.block k hk (fun e => hn e.symm)⟩ r4
  unfold OwnO
  rw [opCs_app, List.length_append, show opCs [x0] = x0.cells.toList from List.append_nil _]
  exact r1
/-- what does not change -/
structure Wc where
  h : Nat
  tb : Nat
  n : Nat
  mv : Value
  mb : Nat
  base : Nat
/-- the block of the operations -/
def own (K : Wc) (W : World) (i : Nat) : Prop := ∃ v, W.cell? ⟨K.h, 0, none⟩ = some v ∧ v.ownBlock = some i
/-- what may change -/
def SW (K : Wc) (W : World) : Nat → Prop := fun i => i = K.h ∨ i = K.tb ∨ i = K.mb ∨ own K W i
/-- nothing but the walk's blocks has changed -/
structure UW (K : Wc) (W W' : World) : Prop where
  u : Upto (SW K W) W W'
  ow : ∀ i, own K W' i → own K W i ∨ W.heap.size ≤ i
theorem UW.refl (K : Wc) (W : World) : UW K W W := ⟨Upto.refl _ _, fun i h => .inl h⟩
theorem UW.trans {K : Wc} {a b c : World} (h : UW K a b) (k : UW K b c) : UW K a c :=
  ⟨⟨k.u.os.trans h.u.os, k.u.tape.trans h.u.tape, k.u.output.trans h.u.output, Nat.le_trans h.u.size k.u.size, fun i hi hs => (k.u.block i (Nat.lt_of_lt_of_le hi h.u.size) fun e => by
      rcases e with e | e | e | e
      · exact hs (.inl e)
      · exact hs (.inr (.inl e))
      · exact hs (.inr (.inr (.inl e)))
      · rcases h.ow i e with e | e
        · exact hs (.inr (.inr (.inr e)))
        · omega).trans (h.u.block i hi hs)⟩,
    fun i e => (k.ow i e).elim (h.ow i) fun e => .inr (Nat.le_trans h.u.size e)⟩
theorem UW.aside {K : Wc} {W W' : World} {S : Nat → Prop} (hl : K.h < W.heap.size) (u : Upto S W W') (hh : ¬ S K.h) (hS : ∀ i, S i → i = K.tb ∨ i = K.mb) : UW K W W' := by
  refine ⟨u.mono fun i _ h => (hS i h).elim (fun e => .inr (.inl e)) fun e => .inr (.inr (.inl e)), fun i h => ?_⟩
  obtain ⟨v, h1, h2⟩ := h
  exact .inl ⟨v, (u.cell (q := ⟨K.h, 0, none⟩) hl hh).symm.trans h1, h2⟩
theorem UW.quiet {K : Wc} {W W' : World} (hl : K.h < W.heap.size) (u : Upto (fun _ => False) W W') : UW K W W' := UW.aside hl u id fun _ h => h.elim
theorem UW.below {K : Wc} {W W' : World} (hl : K.h < W.heap.size) (u : Below W.heap.size W W') : UW K W W' := UW.quiet hl (Upto.of_below u)
theorem UW.alloc {K : Wc} {W : World} (hl : K.h < W.heap.size) (o : Obj) : UW K W (W.alloc o) := UW.quiet hl ((Upto.refl _ W).alloc o)
theorem UW.setH {K : Wc} {W : World} (j : Nat) (hj : j ≠ 0) (v : Value) : UW K W (W.setCell ⟨K.h, j, none⟩ v) := by
  refine ⟨(Upto.refl _ W).setCell (q := ⟨K.h, j, none⟩) (.inl (.inl rfl)) v, fun i h => ?_⟩
  obtain ⟨x, h1, h2⟩ := h
  exact .inl ⟨x, (HM.cell_other (fun e => hj e.symm)).symm.trans h1, h2⟩
theorem UW.setT {K : Wc} {W : World} (hl : K.h < W.heap.size) (hn : K.h ≠ K.tb) (j : Nat) (v : Value) : UW K W (W.setCell ⟨K.tb, j, none⟩ v) :=
  UW.aside hl ((Upto.refl (fun i => i = K.tb) W).setCell (q := ⟨K.tb, j, none⟩) (.inl rfl) v) hn fun i e => .inl e
theorem UP.setO {K : Wc} {W W' : World} (v v' : Value) (h0 : W.cell? ⟨K.h, 0, none⟩ = some v) (u : Upto (fun i => v.ownBlock = some i) W W') : Upto (fun i => i = K.h ∨ own K W i) W (W'.setCell ⟨K.h, 0, none⟩ v') :=
  (u.mono fun i _ e => .inr ⟨v, h0, e⟩).setCell (q := ⟨K.h, 0, none⟩) (.inl (.inl rfl)) v'
theorem UP.pre {K : Wc} {a b c : World} (hl : K.h < a.heap.size) (u : Upto (fun _ => False) a b) (h : Upto (fun i => i = K.h ∨ own K b i) b c) : Upto (fun i => i = K.h ∨ own K a i) a c :=
  (u.mono fun _ _ h => h.elim).trans (h.mono fun i _ e => e.elim .inl fun e => by
    obtain ⟨v, h1, h2⟩ := e
    exact .inr ⟨v, (u.cell (q := ⟨K.h, 0, none⟩) hl id).symm.trans h1, h2⟩)
theorem UW.setO {K : Wc} {W W' : World} (hl : K.h < W.heap.size) (v v' : Value) (h0 : W.cell? ⟨K.h, 0, none⟩ = some v) (nh : ¬ v.ownBlock = some K.h) (u : Upto (fun i => v.ownBlock = some i) W W') (hk : v'.ownBlock = v.ownBlock ∨ v'.ownBlock = some W.heap.size) : UW K W (W'.setCell ⟨K.h, 0, none⟩ v') := by
  refine ⟨(u.mono fun i _ e => .inr (.inr (.inr ⟨v, h0, e⟩))).setCell (q := ⟨K.h, 0, none⟩) (.inl (.inl rfl)) v', fun i h => ?_⟩
  obtain ⟨x, h1, h2⟩ := h
  have e1 : (W'.setCell ⟨K.h, 0, none⟩ v').cell? ⟨K.h, 0, none⟩ = some v' := World.cell?_setCell_same _ _ _ ((u.cell (q := ⟨K.h, 0, none⟩) hl nh).trans h0)
  obtain rfl : v' = x := Option.some.inj (e1.symm.trans h1)
  rcases hk with hk | hk
  · exact .inl ⟨v, h0, hk ▸ h2⟩
  · rw [hk] at h2
    exact .inr (by have := Option.some.inj h2; omega)
/-- the walk in memory -/
structure WM (K : Wc) (s : Wk) (W : World) : Prop where
  c0 : ∃ v, W.cell? ⟨K.h, 0, none⟩ = some v ∧ OwnO K.base v s.ops W
  c1 : W.cell? ⟨K.h, 1, none⟩ = some (.slice (some ⟨K.tb, 0, none⟩) K.n K.n)
  sl : ∀ j, j < 12 → W.cell? ⟨K.h, 2 + j, none⟩ = some (.int .i64 (s.sl j))
  cm : W.cell? ⟨K.h, 14, none⟩ = some K.mv
  cn : W.cell? ⟨K.h, 15, none⟩ = some (.int .i64 s.now)
  to : ∀ t, t < K.n → W.cell? ⟨K.tb, t, none⟩ = some (.int .i64 (s.to t))
  z : ∀ j, W.frozen? ⟨K.h, j, none⟩ = false
  zt : ∀ j, W.frozen? ⟨K.tb, j, none⟩ = false
  lh : K.h < K.base
  lt : K.tb < K.base
  ne : K.h ≠ K.tb
  lb : K.base ≤ W.heap.size
variable {K : Wc} {s : Wk} {W W' : World}
theorem WM.l (a : WM K s W) : K.h < W.heap.size := Nat.lt_of_lt_of_le a.lh a.lb
theorem WM.l2 (a : WM K s W) : K.tb < W.heap.size := Nat.lt_of_lt_of_le a.lt a.lb
theorem WM.upto {S : Nat → Prop} (a : WM K s W) (u : Upto S W W') (hS : ∀ i, S i → W.heap.size ≤ i) : WM K s W' := by
  have hb := a.lb
  have no : ∀ i, i < W.heap.size → ¬ S i := fun i hi hs => by have := hS i hs; omega
  have e : ∀ j, W'.cell? ⟨K.h, j, none⟩ = W.cell? ⟨K.h, j, none⟩ := fun j => u.cell (q := ⟨K.h, j, none⟩) a.l (no _ a.l)
  have f : ∀ j, W'.cell? ⟨K.tb, j, none⟩ = W.cell? ⟨K.tb, j, none⟩ := fun j => u.cell (q := ⟨K.tb, j, none⟩) a.l2 (no _ a.l2)
  obtain ⟨v, h1, h2⟩ := a.c0
  exact ⟨⟨v, (e _).trans h1, h2.upto u fun k hk => no k (h2.blk k hk).2⟩, (e _).trans a.c1, fun j hj => (e _).trans (a.sl j hj), (e _).trans a.cm, (e _).trans a.cn, fun t ht => (f _).trans (a.to t ht),
    fun j => (u.frozen (q := ⟨K.h, j, none⟩) a.l (no _ a.l)).trans (a.z j), fun j => (u.frozen (q := ⟨K.tb, j, none⟩) a.l2 (no _ a.l2)).trans (a.zt j), a.lh, a.lt, a.ne, Nat.le_trans hb u.size⟩
/-- a block that lies aside changes -/
theorem WM.aside {S : Nat → Prop} (a : WM K s W) (u : Upto S W W') (hS : ∀ i, S i → i ≠ K.h ∧ i ≠ K.tb ∧ i < K.base) : WM K s W' := by
  have hb := a.lb
  have nh : ¬ S K.h := fun h => (hS _ h).1 rfl
  have nt : ¬ S K.tb := fun h => (hS _ h).2.1 rfl
  have e : ∀ j, W'.cell? ⟨K.h, j, none⟩ = W.cell? ⟨K.h, j, none⟩ := fun j => u.cell (q := ⟨K.h, j, none⟩) a.l nh
  have f : ∀ j, W'.cell? ⟨K.tb, j, none⟩ = W.cell? ⟨K.tb, j, none⟩ := fun j => u.cell (q := ⟨K.tb, j, none⟩) a.l2 nt
  obtain ⟨v, h1, h2⟩ := a.c0
  exact ⟨⟨v, (e _).trans h1, h2.upto u fun k hk hs => by have := (h2.blk k hk).1; have := (hS k hs).2.2; omega⟩, (e _).trans a.c1, fun j hj => (e _).trans (a.sl j hj), (e _).trans a.cm, (e _).trans a.cn, fun t ht => (f _).trans (a.to t ht),
    fun j => (u.frozen (q := ⟨K.h, j, none⟩) a.l nh).trans (a.z j), fun j => (u.frozen (q := ⟨K.tb, j, none⟩) a.l2 nt).trans (a.zt j), a.lh, a.lt, a.ne, Nat.le_trans hb u.size⟩
theorem WM.quiet (a : WM K s W) (u : Upto (fun _ => False) W W') : WM K s W' := a.upto u fun _ h => h.elim
theorem WM.below (a : WM K s W) (u : Below W.heap.size W W') : WM K s W' := a.quiet (Upto.of_below u)
theorem WM.drew (a : WM K s W) : WM K s W.drew := a.quiet (Upto.refl _ W).drew
theorem WM.alloc (a : WM K s W) (o : Obj) : WM K s (W.alloc o) := a.quiet ((Upto.refl _ W).alloc o)
/-- a slot, or what is known of the flags, is set -/
theorem WM.putH (a : WM K s W) (i : Nat) (v : Value) (s' : Wk) (hi : (2 ≤ i ∧ i < 14) ∨ i = 15) (ho : s'.ops = s.ops) (ht : s'.to = s.to)
    (e1 : ∀ j, j < 12 → (if i = 2 + j then v else .int .i64 (s.sl j)) = .int .i64 (s'.sl j)) (e2 : (if i = 15 then v else .int .i64 s.now) = .int .i64 s'.now) : WM K s' (W.setCell ⟨K.h, i, none⟩ v) := by
  have c : ∀ j x, W.cell? ⟨K.h, j, none⟩ = some x → (W.setCell ⟨K.h, i, none⟩ v).cell? ⟨K.h, j, none⟩ = some (if i = j then v else x) := fun j x hx => by
    by_cases e : i = j
    · subst e; rw [if_pos rfl]; exact World.cell?_setCell_same _ _ _ hx
    · rw [if_neg e, HM.cell_other (fun e' => e e'.symm), hx]
  have u : Upto (fun i => i = K.h) W (W.setCell ⟨K.h, i, none⟩ v) := (Upto.refl (fun i => i = K.h) W).setCell (q := ⟨K.h, i, none⟩) (.inl rfl) v
  have f : ∀ j, (W.setCell ⟨K.h, i, none⟩ v).cell? ⟨K.tb, j, none⟩ = W.cell? ⟨K.tb, j, none⟩ := fun j => u.cell (q := ⟨K.tb, j, none⟩) a.l2 (fun e => a.ne e.symm)
  obtain ⟨x, h1, h2⟩ := a.c0
  refine ⟨⟨x, (c _ _ h1).trans (by rw [if_neg (by omega)]), ?_⟩, (c _ _ a.c1).trans (by rw [if_neg (by omega)]), fun j hj => (c _ _ (a.sl j hj)).trans (by rw [e1 j hj]), (c _ _ a.cm).trans (by rw [if_neg (by omega)]), (c _ _ a.cn).trans (by rw [e2]), ?_,
    fun j => by simpa using a.z j, fun j => by simpa using a.zt j, a.lh, a.lt, a.ne, by simpa using a.lb⟩
  · rw [ho]; exact h2.upto u fun k hk e => by have := (h2.blk k hk).1; have := a.lh; omega
  · rw [ht]; exact fun t ht => (f _).trans (a.to t ht)
theorem WM.setS (a : WM K s W) (j : Nat) (x : Int) (hj : j < 12) : WM K (s.st j x) (W.setCell ⟨K.h, 2 + j, none⟩ (.int .i64 x)) :=
  a.putH (2 + j) _ _ (.inl ⟨by omega, by omega⟩) rfl rfl (fun i hi => by
    show _ = Value.int .i64 (upd s.sl j x i); unfold upd
    by_cases e : i = j
    · subst e; simp
    · rw [if_neg e, if_neg (by omega)]) (if_neg (by omega))
theorem WM.setN (a : WM K s W) (x : Int) : WM K (s.setN x) (W.setCell ⟨K.h, 15, none⟩ (.int .i64 x)) :=
  a.putH 15 _ _ (.inr rfl) rfl rfl (fun i hi => if_neg (by omega)) rfl
/-- a new number is told -/
theorem WM.setT (a : WM K s W) (t : Nat) (x : Int) (ht : t < K.n) : WM K (s.set t x) (W.setCell ⟨K.tb, t, none⟩ (.int .i64 x)) := by
  have u : Upto (fun i => i = K.tb) W (W.setCell ⟨K.tb, t, none⟩ (Value.int .i64 x)) := (Upto.refl (fun i => i = K.tb) W).setCell (q := ⟨K.tb, t, none⟩) (.inl rfl) _
  have e : ∀ j, (W.setCell ⟨K.tb, t, none⟩ (Value.int .i64 x)).cell? ⟨K.h, j, none⟩ = W.cell? ⟨K.h, j, none⟩ := fun j => u.cell (q := ⟨K.h, j, none⟩) a.l a.ne
  obtain ⟨v, h1, h2⟩ := a.c0
  refine ⟨⟨v, (e _).trans h1, h2.upto u fun k hk e => by have := (h2.blk k hk).1; have := a.lt; omega⟩, (e _).trans a.c1, fun j hj => (e _).trans (a.sl j hj), (e _).trans a.cm, (e _).trans a.cn, fun j hj => ?_, fun j => by simpa using a.z j, fun j => by simpa using a.zt j, a.lh, a.lt, a.ne, by simpa using a.lb⟩
  show _ = some (Value.int .i64 (upd s.to t x j))
  unfold upd
  by_cases ej : j = t
  · subst ej; rw [if_pos rfl]; exact World.cell?_setCell_same _ _ _ (a.to j hj)
  · rw [if_neg ej, HM.cell_other ej]; exact a.to j hj
/-- an operation is put behind -/
theorem WM.setO (a : WM K s W) (x : Opr) (v v' : Value) (h0 : OwnO K.base v s.ops W) (u' : Upto (fun i => v.ownBlock = some i) W W') (h2 : OwnO K.base v' (s.ops ++ [x]) W') : WM K (s.put x) (W'.setCell ⟨K.h, 0, none⟩ v') := by
  have nb : ∀ i, i < K.base → ¬ v.ownBlock = some i := fun i hi e => by have := (h0.blk i e).1; omega
  have b : ∀ j, W'.cell? ⟨K.h, j, none⟩ = W.cell? ⟨K.h, j, none⟩ := fun j => u'.cell (q := ⟨K.h, j, none⟩) a.l (nb _ a.lh)
  have c : ∀ j, j ≠ 0 → (W'.setCell ⟨K.h, 0, none⟩ v').cell? ⟨K.h, j, none⟩ = W.cell? ⟨K.h, j, none⟩ := fun j hj => (HM.cell_other hj).trans (b j)
  have u : Upto (fun i => i = K.h) W' (W'.setCell ⟨K.h, 0, none⟩ v') := (Upto.refl (fun i => i = K.h) W').setCell (q := ⟨K.h, 0, none⟩) (.inl rfl) v'
  have tt : Upto (fun i => i = K.h ∨ v.ownBlock = some i) W (W'.setCell ⟨K.h, 0, none⟩ v') := (u'.mono fun _ _ h => .inr h).trans (u.mono fun _ _ h => .inl h)
  have f : ∀ j, (W'.setCell ⟨K.h, 0, none⟩ v').cell? ⟨K.tb, j, none⟩ = W.cell? ⟨K.tb, j, none⟩ := fun j => tt.cell (q := ⟨K.tb, j, none⟩) a.l2 (fun e => e.elim (fun e => a.ne e.symm) (nb _ a.lt))
  have zf : ∀ i j, i < K.base → (W'.setCell ⟨K.h, 0, none⟩ v').frozen? ⟨i, j, none⟩ = W.frozen? ⟨i, j, none⟩ := fun i j hi => (by simp : (W'.setCell ⟨K.h, 0, none⟩ v').frozen? ⟨i, j, none⟩ = W'.frozen? ⟨i, j, none⟩).trans (u'.frozen (q := ⟨i, j, none⟩) (Nat.lt_of_lt_of_le hi a.lb) (nb _ hi))
  obtain ⟨x0, h1, _⟩ := a.c0
  exact ⟨⟨v', World.cell?_setCell_same _ _ _ ((b 0).trans h1), h2.upto u fun k hk e => by have := (h2.blk k hk).1; have := a.lh; omega⟩, (c _ (by decide)).trans a.c1, fun j hj => (c _ (by omega)).trans (a.sl j hj), (c _ (by decide)).trans a.cm, (c _ (by decide)).trans a.cn, fun t ht => (f _).trans (a.to t ht),
    fun j => (zf _ j a.lh).trans (a.z j), fun j => (zf _ j a.lt).trans (a.zt j), a.lh, a.lt, a.ne, Nat.le_trans a.lb tt.size⟩
theorem WM.own (a : WM K s W) {i : Nat} (h : own K W i) : K.base ≤ i ∧ i < W.heap.size := by
  obtain ⟨v, h1, h2⟩ := a.c0
  obtain ⟨x, h3, h4⟩ := h
  obtain rfl : v = x := Option.some.inj (h1.symm.trans h3)
  exact h2.blk i h4
/-- an operation in a box -/
def OB (b : Nat) (o : Opr) (W : World) : Prop := b < W.heap.size ∧ ∀ j u, o.cells[j]? = some u → W.cell? ⟨b, j, none⟩ = some u
theorem OB.new (w : World) (o : Opr) (t : TypeId) : OB w.heap.size o (w.alloc (.cells o.cells t)) := ⟨by simp, fun j v hj => (cell_of_row _ _ _ _ _ _ (heap_alloc_new w _)).trans hj⟩
theorem OB.upto {b : Nat} {o : Opr} {S : Nat → Prop} (h : OB b o W) (u : Upto S W W') (hs : ¬ S b) : OB b o W' := ⟨Nat.lt_of_lt_of_le h.1 u.size, fun j v hj => (u.cell (q := ⟨b, j, none⟩) h.1 hs).trans (h.2 j v hj)⟩
/-- a box of the call's own, behind a change of the walk's blocks -/
theorem OB.uw {b : Nat} {o : Opr} (h : OB b o W) (u : UW K W W') (a : WM K s W) (h1 : K.base ≤ b) (hm : K.mb < K.base) (hn : ¬ own K W b) : OB b o W' :=
  h.upto u.u fun e => by
    have := a.lh; have := a.lt
    rcases e with e | e | e | e
    · omega
    · omega
    · omega
    · exact hn e
theorem own_new {b : Nat} (a : WM K s W) (hb : W.heap.size ≤ b) (u : Upto (fun _ => False) W W') : ¬ own K W' b := fun h => by
  obtain ⟨v, h1, h2⟩ := h
  have := (a.own ⟨v, (u.cell (q := ⟨K.h, 0, none⟩) a.l id).symm.trans h1, h2⟩).2
  omega
theorem OB.all {b : Nat} {o : Opr} (h : OB b o W) : W.cell? ⟨b, 0, none⟩ = some (.int .i64 o.k) ∧ W.cell? ⟨b, 1, none⟩ = some (.int .i64 o.w) ∧ W.cell? ⟨b, 2, none⟩ = some (.int .i64 o.a) ∧ W.cell? ⟨b, 3, none⟩ = some (.int .i64 o.b) ∧ W.cell? ⟨b, 4, none⟩ = some (.int .i64 o.c) ∧ W.cell? ⟨b, 5, none⟩ = some (.int .u32 o.kn) ∧ W.cell? ⟨b, 6, none⟩ = some (.int .i64 o.n) :=
  ⟨h.2 0 _ rfl, h.2 1 _ rfl, h.2 2 _ rfl, h.2 3 _ rfl, h.2 4 _ rfl, h.2 5 _ rfl, h.2 6 _ rfl⟩
end Go.Proofs.Ytcjcmnnhmajocab.Ot
namespace Go.Proofs.Ytcjcmnnhmajocab.Ot
open Go.RowKit Kt Ic Me Ev
set_option linter.unusedVariables false
set_option linter.unusedSimpArgs false
variable {K : Wc} {s : Wk}
def tks (k : Int) : Value := .tuple #[.bool (tA k), .bool (tB k), .bool (tC k)]
set_option maxRecDepth 100000 in
set_option maxHeartbeats 4000000 in
theorem takes_any (o : Opr) (w : World) : Calls Try.prog 118 #[.agg #[.int .i64 o.k, .int .i64 o.w, .int .i64 o.a, .int .i64 o.b, .int .i64 o.c, .int .u32 o.kn, .int .i64 o.n]] w fun e w' => e = .returned (tks o.k) ∧ Below w.heap.size w w' := by
  obtain ⟨k, ow, a, b, c, n, m⟩ := o
  dsimp only
  by_cases h : k = 4 ∨ k = 10 ∨ k = 6 ∨ k = 7 ∨ k = 3 ∨ k = 5 ∨ k = 8 ∨ k = 9 ∨ k = 12 ∨ k = 13 ∨ k = 16
  · rcases h with rfl | rfl | rfl | rfl | rfl | rfl | rfl | rfl | rfl | rfl | rfl
    all_goals
      go_enter Try.func118, Try.ntmps118
      go_wp2
      go_ret3
      exact ⟨rfl, (Below.refl _ _).alloc (Nat.le_refl _) _⟩
  · have e1 : (k == 4) = false := by simp; omega
    have e2 : (k == 10) = false := by simp; omega
    have e3 : (k == 6) = false := by simp; omega
    have e4 : (k == 7) = false := by simp; omega
    have e5 : (k == 3) = false := by simp; omega
    have e6 : (k == 5) = false := by simp; omega
    have e7 : (k == 8) = false := by simp; omega
    have e8 : (k == 9) = false := by simp; omega
    have e9 : (k == 12) = false := by simp; omega
    have e10 : (k == 13) = false := by simp; omega
    have e11 : (k == 16) = false := by simp; omega
    have hv : tks k = .tuple #[.bool false, .bool false, .bool false] := by unfold tks tA tB tC; rw [decide_eq_false (by omega), decide_eq_false (by omega), decide_eq_false (by omega)]
    rw [hv]
    clear hv h
    go_enter Try.func118, Try.ntmps118
    go_wp2
    go_ret3
    exact ⟨rfl, (Below.refl _ _).alloc (Nat.le_refl _) _⟩
set_option maxHeartbeats 4000000 in
theorem leaves_any (k : Int) (w : World) : Calls Try.prog 200 #[.int .i64 k] w fun e w' => e = .returned (.bool (lv k)) ∧ w = w' := by
  by_cases h : k = 0 ∨ k = 1 ∨ k = 3 ∨ k = 4 ∨ k = 5 ∨ k = 6 ∨ k = 7 ∨ k = 8 ∨ k = 12
  · rcases h with rfl | rfl | rfl | rfl | rfl | rfl | rfl | rfl | rfl
    all_goals
      go_enter Try.func200, Try.ntmps200
      go_wp2
      go_ret
      exact ⟨rfl, rfl⟩
  · have e1 : (k == 0) = false := by simp; omega
    have e2 : (k == 1) = false := by simp; omega
    have e3 : (k == 3) = false := by simp; omega
    have e4 : (k == 4) = false := by simp; omega
    have e5 : (k == 5) = false := by simp; omega
    have e6 : (k == 6) = false := by simp; omega
    have e7 : (k == 7) = false := by simp; omega
    have e8 : (k == 8) = false := by simp; omega
    have e9 : (k == 12) = false := by simp; omega
    have hv : lv k = false := decide_eq_false (by omega)
    rw [hv]
    clear hv h
    go_enter Try.func200, Try.ntmps200
    go_wp2
    go_ret
    exact ⟨rfl, rfl⟩
theorem below_dn {B : Nat} {w w' : World} (h : Below B w w') (n : Nat) : Below B w (w'.drewN n) := ⟨h.os, h.tape, h.output, h.size, h.block⟩
theorem op_in {l : List Opr} {t : Nat} (h : t < l.length) : l[t]? = some (opAt l t) := by
  unfold opAt; rw [List.getD_eq_getElem?_getD, List.getElem?_eq_getElem h]; rfl
set_option maxHeartbeats 4000000 in
theorem konst_any (t : Int) (w : World) (a : WM K s w) (h0 : 0 ≤ t) (h1 : t < s.ops.length) :
    Calls Try.prog 198 #[.pointer (some ⟨K.h, 0, none⟩), .int .i64 t] w fun e w' => e = .returned (.tuple #[.int .u32 (kn s t), .bool (isC s t)]) ∧ Below w.heap.size w w' := by
  obtain ⟨j, rfl⟩ := Int.eq_ofNat_of_zero_le h0
  have hj : j < s.ops.length := by omega
  obtain ⟨v, c0, ow⟩ := a.c0
  obtain ⟨ao, cap, rfl, ⟨l1, l2, _⟩, hf⟩ := ow.form
  obtain ⟨b, rfl, hb, hb1, hb2, hc⟩ := hf (by omega)
  have ho := op_in hj
  have k0 : w.cell? ⟨b, j * 7, none⟩ = some (.int .i64 (opAt s.ops j).k) := hc j _ ho 0 _ rfl
  have k1 : w.cell? ⟨b, j * 7 + 1, none⟩ = some (.int .i64 (opAt s.ops j).w) := hc j _ ho 1 _ rfl
  have k2 : w.cell? ⟨b, j * 7 + 2, none⟩ = some (.int .i64 (opAt s.ops j).a) := hc j _ ho 2 _ rfl
  have k3 : w.cell? ⟨b, j * 7 + 3, none⟩ = some (.int .i64 (opAt s.ops j).b) := hc j _ ho 3 _ rfl
  have k4 : w.cell? ⟨b, j * 7 + 4, none⟩ = some (.int .i64 (opAt s.ops j).c) := hc j _ ho 4 _ rfl
  have k5 : w.cell? ⟨b, j * 7 + 5, none⟩ = some (.int .u32 (opAt s.ops j).kn) := hc j _ ho 5 _ rfl
  have k6 : w.cell? ⟨b, j * 7 + 6, none⟩ = some (.int .i64 (opAt s.ops j).n) := hc j _ ho 6 _ rfl
  have hv : isC s (j : Int) = ((opAt s.ops j).k == 1) := by unfold isC; rw [Int.toNat_natCast]; by_cases e : (opAt s.ops j).k = 1 <;> simp [e]
  have hk : kn s (j : Int) = (opAt s.ops j).kn := by unfold kn; rw [Int.toNat_natCast]
  rw [hv, hk]
  have lw := a.l
  clear hv hk hc hf ow a ho
  generalize opAt s.ops j = x at k0 k1 k2 k3 k4 k5 k6
  go_enter Try.func198, Try.ntmps198
  go_wp2
  go_quiet (fail)
  go_wp2
  go_ret2
  exact ⟨rfl, below_dn ((Below.refl _ _).alloc (Nat.le_refl _) _) _⟩
set_option maxHeartbeats 4000000 in
theorem put_any (o : Opr) (w : World) (a : WM K s w) (hn : s.ops.length < 1000000000) :
    Calls Try.prog 119 #[.pointer (some ⟨K.h, 0, none⟩), .agg #[.int .i64 o.k, .int .i64 o.w, .int .i64 o.a, .int .i64 o.b, .int .i64 o.c, .int .u32 o.kn, .int .i64 o.n]] w fun e w' => e = .returned (.int .i64 s.nx) ∧ WM K (s.put o) w' ∧ Upto (fun i => i = K.h ∨ own K w i) w w' ∧ UW K w w' := by
  have a1 := a.alloc (.cells #[.int .i64 o.k, .int .i64 o.w, .int .i64 o.a, .int .i64 o.b, .int .i64 o.c, .int .u32 o.kn, .int .i64 o.n] 31)
  have hO : OB w.heap.size o (w.alloc (.cells #[.int .i64 o.k, .int .i64 o.w, .int .i64 o.a, .int .i64 o.b, .int .i64 o.c, .int .u32 o.kn, .int .i64 o.n] 31)) := OB.new w o 31
  obtain ⟨v, c0, ow⟩ := a1.c0
  have l := a1.l
  obtain ⟨ao, cap, rfl, _, _⟩ := ow.form
  obtain ⟨b1, b2, b3, b4, b5, b6, b7⟩ := hO.all
  have HN := Lib.hid (show s.nx = (s.ops.length : Int) from rfl)
  have HNL := Lib.hid hn
  generalize s.nx = nx at HN ⊢
  have u2 : Upto (fun _ => False) (w.alloc (.cells #[.int .i64 o.k, .int .i64 o.w, .int .i64 o.a, .int .i64 o.b, .int .i64 o.c, .int .u32 o.kn, .int .i64 o.n] 31)) ((w.alloc (.cells #[.int .i64 o.k, .int .i64 o.w, .int .i64 o.a, .int .i64 o.b, .int .i64 o.c, .int .u32 o.kn, .int .i64 o.n] 31)).drew.alloc (.cells #[.int .i64 o.k, .int .i64 o.w, .int .i64 o.a, .int .i64 o.b, .int .i64 o.c, .int .u32 o.kn, .int .i64 o.n] 31)) := ((Upto.refl _ _).drew).alloc _
  have A2 := Lib.hid (a1.quiet u2)
  have OW2 := Lib.hid (ow.upto u2 fun _ _ => id)
  have U2 : Hid (UW K w ((w.alloc (.cells #[.int .i64 o.k, .int .i64 o.w, .int .i64 o.a, .int .i64 o.b, .int .i64 o.c, .int .u32 o.kn, .int .i64 o.n] 31)).drew.alloc (.cells #[.int .i64 o.k, .int .i64 o.w, .int .i64 o.a, .int .i64 o.b, .int .i64 o.c, .int .u32 o.kn, .int .i64 o.n] 31))) := (UW.alloc a.l _).trans (UW.quiet a1.l u2)
  have hB : Hid (∀ j u, o.cells[j]? = some u → ((w.alloc (.cells #[.int .i64 o.k, .int .i64 o.w, .int .i64 o.a, .int .i64 o.b, .int .i64 o.c, .int .u32 o.kn, .int .i64 o.n] 31)).drew.alloc (.cells #[.int .i64 o.k, .int .i64 o.w, .int .i64 o.a, .int .i64 o.b, .int .i64 o.c, .int .u32 o.kn, .int .i64 o.n] 31)).cell? ⟨w.heap.size + 1, j, none⟩ = some u) := fun j u hj => by
    have h := (OB.new (w.alloc (.cells #[.int .i64 o.k, .int .i64 o.w, .int .i64 o.a, .int .i64 o.b, .int .i64 o.c, .int .u32 o.kn, .int .i64 o.n] 31)).drew o 31).2 j u hj
    rw [show (w.alloc (.cells #[.int .i64 o.k, .int .i64 o.w, .int .i64 o.a, .int .i64 o.b, .int .i64 o.c, .int .u32 o.kn, .int .i64 o.n] 31)).drew.heap.size = w.heap.size + 1 by simp] at h
    exact h
  have l0 : K.h < w.heap.size := a.l
  have l1 : K.h < w.heap.size + 1 := by omega
  have lo : w.heap.size < (w.alloc (.cells #[.int .i64 o.k, .int .i64 o.w, .int .i64 o.a, .int .i64 o.b, .int .i64 o.c, .int .u32 o.kn, .int .i64 o.n] 31)).heap.size := hO.1
  have UF2 : Hid (Upto (fun _ => False) w ((w.alloc (.cells #[.int .i64 o.k, .int .i64 o.w, .int .i64 o.a, .int .i64 o.b, .int .i64 o.c, .int .u32 o.kn, .int .i64 o.n] 31)).drew.alloc (.cells #[.int .i64 o.k, .int .i64 o.w, .int .i64 o.a, .int .i64 o.b, .int .i64 o.c, .int .u32 o.kn, .int .i64 o.n] 31))) := ((Upto.refl _ w).alloc _).trans u2
  have LH := Lib.hid a.l
  have C2 := Lib.hid ((u2.cell (q := ⟨K.h, 0, none⟩) a1.l id).trans c0)
  clear a a1 hO hn u2 ow
  go_enter Try.func119, Try.ntmps119
  go_wp2
  go_region_law (refine step_op rfl (.tmp 9) (.tmp 11) rfl K.base (.slice ao s.ops.length cap) s.ops (by simp [Act.eval, Act.put]) OW2.out A2.out.lb (w.heap.size + 1) 1 o (by simp [Act.eval, Act.put]) hB.out (by have := HNL.out; omega) ?_; intro v' w2 ow' u' hk'; have nb : ¬ (Value.slice ao s.ops.length cap).ownBlock = some K.h := (fun e => by have := (OW2.out.blk _ e).1; have := A2.out.lh; omega); have cc2 : w2.cell? ⟨K.h, 0, none⟩ = some (.slice ao s.ops.length cap) := (u'.cell (q := ⟨K.h, 0, none⟩) A2.out.l nb).trans C2.out; have zz2 : w2.frozen? ⟨K.h, 0, none⟩ = false := (u'.frozen (q := ⟨K.h, 0, none⟩) A2.out.l nb).trans (A2.out.z 0); have ll2 : K.h < w2.heap.size := Nat.lt_of_lt_of_le A2.out.l u'.size; have A3 := Lib.hid (A2.out.setO o _ v' OW2.out u' ow'); have U3 := Lib.hid (U2.out.trans (UW.setO A2.out.l _ v' C2.out nb u' hk')); have V3 := Lib.hid (UP.pre LH.out UF2.out (UP.setO _ v' C2.out u')); obtain ⟨ao', cap', hv', _⟩ := ow'.form; obtain ⟨n', hn'⟩ : ∃ n', (s.ops ++ [o]).length = n' := ⟨_, rfl⟩; rw [hn'] at hv'; have HN' := Lib.hid hn'; clear ow' u' hk' hn' nb; subst hv'; have e9 := World.cell?_setCell_same w2 ⟨K.h, 0, none⟩ (.slice ao' n' cap') cc2)
  all_goals
    generalize w2.setCell ⟨K.h, 0, none⟩ (.slice ao' n' cap') = w9 at *
  all_goals
    have en : (n' : Int) - 1 = nx := by have h := HN'.out; simp at h; have := HN.out; omega
    have b0 : 0 ≤ nx := by have := HN.out; omega
    have b1 : nx < 1000000000 := by have := HN.out; have := HNL.out; omega
    have ew : wrap64 nx = nx := Go.IntWalk.wrap64_in _ (by omega)
    clear cc2 zz2 ll2 c0 l l0 l1 lo b1 b2 b3 b4 b5 b6 b7
    go_wp2
    go_ret
    refine ⟨?_, A3.out, V3.out, U3.out⟩
    show Ending.returned (.int .i64 (wrap64 nx)) = _
    rw [ew]
end Go.Proofs.Ytcjcmnnhmajocab.Ot
