/- opt: slices.Backward over operations, as a loop goes through it. -/
import Derived.RangeFuncNested
import Derived.RangeFuncBound
import Derived.RangeFuncCalls
import Derived.RangeFuncLeaves
import Derived.RangeFuncBox
import Derived.Shelf.Abstract
import Derived.Shelf.RegionOpen
import Derived.WalkKit
import Derived.OwnWalkIn
import Derived.TacticsInMore
import Derived.LoopNIn
import Derived.LoopIn
import Derived.Test.YtcjcmnnhmajocabPoak
namespace Go.Proofs.Ytcjcmnnhmajocab.Ot
open Go.RowKit Go.Shelf Kt Ic Me Ev
set_option linter.unusedVariables false
set_option linter.unusedSimpArgs false
attribute [local go_sem] Oper.semAt_some
def enc7 (o : Opr) : Value := .agg #[.int .i64 o.k, .int .i64 o.w, .int .i64 o.a, .int .i64 o.b, .int .i64 o.c, .int .u32 o.kn, .int .i64 o.n]
/-- what has come, the last first -/
def bl (n k : Nat) : List Nat := (List.range k).map fun j => n - 1 - j
theorem bl_succ (n k : Nat) : bl n (k + 1) = bl n k ++ [n - 1 - k] := by simp [bl, List.range_succ]
theorem bl_len (n k : Nat) : (bl n k).length = k := by simp [bl]
/-- a place within bounds -/
def ix (n x : Nat) : Nat := x % n
theorem ix_lt {n : Nat} (h : 0 < n) (x : Nat) : ix n x < n := Nat.mod_lt _ h
theorem ix_self {n x : Nat} (h : x < n) : ix n x = x := Nat.mod_eq_of_lt h
/-- what a round is handed -/
def encB (os : List Opr) (x : Nat) : Array Value := #[.int .i64 (ix os.length x), enc7 (opAt os (ix os.length x))]
/-- what a round keeps: what lay below, and the box -/
def KB (n₀ Bs : Nat) (W W' : World) : Prop := Below n₀ W W' ∧ W'.heap[Bs]? = W.heap[Bs]?
theorem KB.t {n₀ Bs : Nat} {A B C : World} (h : KB n₀ Bs A B) (k : KB n₀ Bs B C) : KB n₀ Bs A C := ⟨h.1.trans k.1, k.2.trans h.2⟩
theorem KB.b {n₀ Bs : Nat} {w : World} (h0 : n₀ ≤ w.heap.size) (h1 : Bs < w.heap.size) (W : World) (l : Nat) (o o' : Obj) (hl : w.heap.size ≤ l) (h : W.heap[l]? = some o) (hc : o.isCells = false) (hw : o.isWalk = false) : KB n₀ Bs W (W.putObj l o') :=
  ⟨belowK_b h0 W l o o' hl h hc hw, World.putObj_heap_other (by omega)⟩
theorem KB.refl (n₀ Bs : Nat) (W : World) : KB n₀ Bs W W := ⟨Below.refl _ _, rfl⟩
set_option maxRecDepth 100000 in
set_option maxHeartbeats 4000000 in
theorem back1_in (F : Fence) (n : Nat) (hf : F.fn 172) (hro : F.round = none) (hn : 1 ≤ n) (l Bs n₀ b off cap : Nat) (os : List Opr) (h0 : 0 < os.length) (h1 : os.length ≤ 2048) (hb : b < n₀) (J Jx : List Nat → World → Prop)
    (hY : ∀ pre x W, J pre W → pre.length < os.length → YieldAt F (n - 1) Try.prog l (encB os x) W fun e W' =>
      (e = .returned (.bool true) ∧ J (pre ++ [x]) W' ∧ KB n₀ Bs W W') ∨ (e = .returned (.bool false) ∧ Jx (pre ++ [x]) W'))
    (W : World) (hBs : W.cell? ⟨Bs, 0, none⟩ = some (.slice (some ⟨b, off, none⟩) os.length cap)) (hcap : os.length ≤ cap) (hc : ∀ i o, os[i]? = some o → ∀ j v, o.cells[j]? = some v → W.cell? ⟨b, off + i * 7 + j, none⟩ = some v) (hJ : J [] W) :
    CallsIn F n Try.prog 172 #[.func (.yield l) #[] #[], .pointer (some ⟨Bs, 0, none⟩)] W fun e W' => (∃ v, e = .returned v) ∧
      ((∃ ys, ys = bl os.length os.length ∧ J ys W') ∨ (∃ pre, (∃ k, k ≤ os.length ∧ pre = bl os.length k) ∧ Jx pre W')) := by
  refine callsIn_of_wp Try.func172 rfl hf ?_ hro
  simp only [Try.ntmps172, List.size_toArray, List.length_cons, List.length_nil, Nat.reduceAdd, Nat.reduceSub, Array.replicate_succ, Array.replicate_zero, List.push_toArray, List.append_toArray, List.nil_append, List.cons_append]
  gi_wp2
  gi_loopw [3] (fun i wr => ∃ r : Nat, r ≤ os.length ∧ i = .int .i64 ((r : Int) - 1) ∧ J (bl os.length (os.length - r)) wr ∧ KB n₀ Bs W wr)
    (fun i _ => (intOf i + 1).toNat)
  case atStart => exact ⟨os.length, Nat.le_refl _, rfl, by rw [Nat.sub_self]; exact hJ, KB.refl _ _ _⟩
  case round =>
    obtain ⟨r, hr, rfl, hJs, hnx⟩ := hrel
    cases r with
    | zero =>
      have hend := hJs
      rw [Nat.sub_zero] at hend
      gi_wp2
      go_end0
      exact ⟨⟨_, rfl⟩, .inl ⟨_, rfl, hend⟩⟩
    | succ t =>
      have ht : t < os.length := by omega
      have e1 : ((t + 1 : Nat) : Int) - 1 = (t : Int) := by omega
      rw [e1]
      have em : ix os.length t = t := ix_self ht
      obtain ⟨fn, tmps, assign, body, hy, hR⟩ := hY _ t wr hJs (by rw [bl_len]; omega)
      have hb' : wr.cell? ⟨Bs, 0, none⟩ = some (.slice (some ⟨b, off, none⟩) os.length cap) := (World.cell?_of_block (w := W) hnx.2).trans hBs
      have ho : os[t]? = some (opAt os t) := by unfold opAt; rw [List.getD_eq_getElem?_getD, List.getElem?_eq_getElem ht]; rfl
      have kc : ∀ j v, (opAt os t).cells[j]? = some v → wr.cell? ⟨b, off + t * 7 + j, none⟩ = some v := fun j v hj => (hnx.1.cell (p := ⟨b, off + t * 7 + j, none⟩) hb).trans (hc t _ ho j v hj)
      have k0 : wr.cell? ⟨b, off + t * 7, none⟩ = some (.int .i64 (opAt os t).k) := kc 0 _ rfl
      have k1 : wr.cell? ⟨b, off + t * 7 + 1, none⟩ = some (.int .i64 (opAt os t).w) := kc 1 _ rfl
      have k2 : wr.cell? ⟨b, off + t * 7 + 2, none⟩ = some (.int .i64 (opAt os t).a) := kc 2 _ rfl
      have k3 : wr.cell? ⟨b, off + t * 7 + 3, none⟩ = some (.int .i64 (opAt os t).b) := kc 3 _ rfl
      have k4 : wr.cell? ⟨b, off + t * 7 + 4, none⟩ = some (.int .i64 (opAt os t).c) := kc 4 _ rfl
      have k5 : wr.cell? ⟨b, off + t * 7 + 5, none⟩ = some (.int .u32 (opAt os t).kn) := kc 5 _ rfl
      have k6 : wr.cell? ⟨b, off + t * 7 + 6, none⟩ = some (.int .i64 (opAt os t).n) := kc 6 _ rfl
      unfold encB enc7 at hy
      rw [em] at hy
      have t1 : (t : Int) < os.length := by omega
      have hbl : bl os.length (os.length - (t + 1)) ++ [t] = bl os.length (os.length - t) := by
        rw [show os.length - t = (os.length - (t + 1)) + 1 by omega, bl_succ]
        congr 2
        omega
      clear hc kc
      gi_wp2
      refine hR.mono ?_
      rintro e W3 (⟨rfl, hJ3, hk3⟩ | ⟨rfl, hJx3⟩)
      · gi_wp2
        go_roundw
        case rel => exact ⟨t, by omega, rfl, by rw [← hbl]; exact hJ3, hnx.t hk3⟩
        case measure => simp [intOf]
      · gi_wp2
        refine bodyPost_ret (results_none rfl _ _ _) rfl ?_
        exact ⟨⟨_, rfl⟩, .inr ⟨_, ⟨os.length - t, by omega, hbl⟩, hJx3⟩⟩
set_option maxHeartbeats 4000000 in
/-- slices.Backward -/
theorem back_in (F : Fence) (n : Nat) (hf : F.fn 117) (hro : F.round = none) (a : Option Addr) (len cap : Nat) (w : World) :
    CallsIn F n Try.prog 117 #[.slice a len cap] w fun e w' => e = .returned (.func (.func 172) #[] #[.pointer (some ⟨w.heap.size, 0, none⟩)]) ∧ w' = w.alloc (.cells #[.slice a len cap] 23) := by
  refine callsIn_of_wp Try.func117 rfl hf ?_ hro
  simp only [Try.ntmps117, List.size_toArray, List.length_cons, List.length_nil, Nat.reduceAdd, Nat.reduceSub, Array.replicate_succ, Array.replicate_zero, List.push_toArray, List.append_toArray, List.nil_append, List.cons_append]
  gi_wp2
  go_ret
  exact ⟨rfl, rfl⟩
theorem back_stops (F : Fence) (n : Nat) (hf : F.fn 172) (hro : F.round = none) (hn : 1 ≤ n) (Bs n₀ b off cap : Nat) (os : List Opr) (h0 : 0 < os.length) (h1 : os.length ≤ 2048) (hb : b < n₀) (hcap : os.length ≤ cap) (w : World) (hn₀ : n₀ ≤ w.heap.size) (hlB : Bs < w.heap.size)
    (hBs : w.cell? ⟨Bs, 0, none⟩ = some (.slice (some ⟨b, off, none⟩) os.length cap)) (hc : ∀ i o, os[i]? = some o → ∀ j v, o.cells[j]? = some v → w.cell? ⟨b, off + i * 7 + j, none⟩ = some v) :
    SeqStopsK F n Try.prog 172 #[.pointer (some ⟨Bs, 0, none⟩)] (encB os) (KB n₀ Bs) (fun ys => ys = bl os.length os.length) (fun pre => ∃ k, k ≤ os.length ∧ pre = bl os.length k) os.length w := fun l J Jx W hW _ _ hY hJ =>
  back1_in F n hf hro hn l Bs n₀ b off cap os h0 h1 hb J Jx hY W ((hW.cell (p := ⟨Bs, 0, none⟩) hlB).trans hBs) hcap (fun i o hi j v hj => (hW.cell (p := ⟨b, off + i * 7 + j, none⟩) (Nat.lt_of_lt_of_le hb hn₀)).trans (hc i o hi j v hj)) hJ
end Go.Proofs.Ytcjcmnnhmajocab.Ot
