/- crossgrainlaw2.twin: a block with operations of its own. -/
import Derived.Laws.StructEq
import Derived.ArgAppend
import Derived.LoopN
import Derived.Outline
import Derived.Deep.LoopGhost
import Derived.Deep.QuietTactic
import Derived.BigQuiet
import Derived.Test.YtcjcmnnhmajocabPoaa
namespace Go.Proofs.Ytcjcmnnhmajocab.Ic
open Go.RowKit Kt
set_option linter.unusedVariables false
set_option linter.unusedSimpArgs false
theorem eqFields_step {P : Program} (d : Nat) (xs ys : Array Value) (f : Field) (fs : List Field) (hn : f.name ≠ "_") {k k' : IntKind} {a b : Int} {r : Bool} (hu : P.underlying f.type = some (.int k'))
    (p1 : ∀ w : World, (part f.type xs f.offset).run P w = .ok (.int k a) w) (p2 : ∀ w : World, (part f.type ys f.offset).run P w = .ok (.int k b) w) (ih : ∀ w : World, (Op.eqFields (d + 1) xs ys fs).run P w = .ok r w) :
    ∀ w : World, (Op.eqFields (d + 1) xs ys (f :: fs)).run P w = .ok (a == b && r) w := by
  intro w
  simp only [Op.eqFields, if_pos hn, Sem.run_bind, p1, p2, Result.andThen_ok, run_equalIn_int w d f.type k k' a b hu]
  cases h : (a == b)
  · simp
  · simp [ih]
noncomputable def fldO (i : Nat) : Field := (Try.prog.fieldsOf 31)[i]!
theorem fldsO : (Try.prog.fieldsOf 31).toList = [fldO 0, fldO 1, fldO 2, fldO 3, fldO 4, fldO 5, fldO 6] := by kernel_rfl
end Go.Proofs.Ytcjcmnnhmajocab.Ic
namespace Go.Proofs.Ytcjcmnnhmajocab.Ic
open Go.RowKit Kt
set_option linter.unusedVariables false
set_option linter.unusedSimpArgs false
def flat (os : List Opr) : List Value := os.flatMap fun o => o.cells.toList
theorem flat_len (os : List Opr) : (flat os).length = os.length * 7 := by
  induction os with
  | nil => rfl
  | cons o os ih =>
    have : flat (o :: os) = o.cells.toList ++ flat os := rfl
    rw [this, List.length_append, ih, List.length_cons]
    have h : o.cells.toList.length = 7 := rfl
    omega
theorem flat_get (os : List Opr) : ∀ (i r : Nat), r < 7 → (flat os)[i * 7 + r]? = (os[i]?).bind (·.cells[r]?) := by
  induction os with
  | nil => intro i r _; simp [flat]
  | cons o os ih =>
    intro i r hr
    have e : flat (o :: os) = o.cells.toList ++ flat os := rfl
    have h : o.cells.toList.length = 7 := rfl
    rw [e]
    cases i with
    | zero =>
      rw [Nat.zero_mul, Nat.zero_add, List.getElem?_append_left (by omega)]
      simp
    | succ i =>
      rw [List.getElem?_append_right (by omega), h, show (i + 1) * 7 + r - 7 = i * 7 + r by omega, ih i r hr]
      simp
theorem flat_one (os : List Opr) : ∀ u ∈ flat os, u.oneCell' = true := by
  intro u hu
  obtain ⟨o, _, ho⟩ := List.mem_flatMap.1 hu
  simp only [Opr.cells, List.mem_cons, List.not_mem_nil, or_false] at ho
  rcases ho with rfl | rfl | rfl | rfl | rfl | rfl | rfl <;> rfl
theorem Ops.flat {os : List Opr} {ao : Option Addr} {cap : Nat} {w : World} (h : Ops os ao cap w) (h0 : 0 < os.length) :
    ∃ g off, ao = some ⟨g, off, none⟩ ∧ g < w.heap.size ∧ ∀ j u, (flat os)[j]? = some u → w.cell? ((⟨g, off, none⟩ : Addr).add j) = some u := by
  obtain ⟨g, off, e, hg, hc⟩ := h.2.2 h0
  refine ⟨g, off, e, hg, fun j u hj => ?_⟩
  rw [Addr.add_lit]
  have hjj : j / 7 * 7 + j % 7 = j := by omega
  rw [← hjj, flat_get os (j / 7) (j % 7) (by omega)] at hj
  obtain ⟨o, ho, hr⟩ := Option.bind_eq_some_iff.1 hj
  have := hc (j / 7) o ho (j % 7) u hr
  rw [show off + j / 7 * 7 + j % 7 = off + j by omega] at this
  exact this
theorem Ops.of_own {os : List Opr} {base : Nat} {v : Value} {w : World} (h : w.ownsRow base 31 7 v os.length (Ic.flat os)) (h0 : 0 < os.length) : ∃ g c1, v = .slice (some ⟨g, 0, none⟩) os.length c1 ∧ base ≤ g ∧ Ops os (some ⟨g, 0, none⟩) c1 w := by
  rcases h.2 with ⟨rfl, hn⟩ | ⟨g, c1, cur, rfl, hg, hrow, hle, hmx, hsz, htk⟩
  · omega
  · refine ⟨g, c1, rfl, hg, hle, hmx, fun _ => ⟨g, 0, rfl, ?_, fun i o ho j u hj => ?_⟩⟩
    · exact (Array.getElem?_eq_some_iff.1 hrow).1
    · have hi := (List.getElem?_eq_some_iff.1 ho).1
      have hj7 : j < 7 := by
        have := (Array.getElem?_eq_some_iff.1 hj).1
        simpa [Opr.cells] using this
      have h2 : (cur.toList.take (os.length * 7))[i * 7 + j]? = (Ic.flat os)[i * 7 + j]? := by rw [htk]
      rw [flat_get os i j hj7, ho, List.getElem?_take, if_pos (by omega)] at h2
      rw [Nat.zero_add, cell_of_row w g (i * 7 + j) cur 31 (0, 0) hrow, ← Array.getElem?_toList, h2]
      exact hj
theorem op_info : ∃ i z, Try.prog.info? 31 = some i ∧ i.zero = some z ∧ i.size = 7 ∧ i.bytes = 56 ∧ z.cells.size = 7 := by
  have h : (Try.prog.info? 31).map (fun i => (i.zero.map (·.cells.size), i.size, i.bytes)) = some (some 7, 7, 56) := by kernel_rfl
  obtain ⟨i, hi, hz⟩ := Option.map_eq_some_iff.1 h
  simp only [Prod.mk.injEq] at hz
  obtain ⟨z, hz1, hz2⟩ := Option.map_eq_some_iff.1 hz.1
  exact ⟨i, z, hi, hz1, hz.2.1, hz.2.2, hz2⟩
theorem blk2 (w : World) (X Y : Array Value) (t u : TypeId) : ((w.alloc (.cells X t)).alloc (.cells Y u)).heap[w.heap.size]? = some (.cells X t (0, 0)) ∧ ((w.alloc (.cells X t)).alloc (.cells Y u)).heap[w.heap.size + 1]? = some (.cells Y u (0, 0)) := by
  have e : (w.alloc (.cells X t)).heap.size = w.heap.size + 1 := by simp
  refine ⟨(Below.heap_alloc _ _ _ (by simp)).trans (heap_alloc_new w _), ?_⟩
  have := heap_alloc_new (w.alloc (.cells X t)) (.cells Y u)
  rw [e] at this
  exact this
theorem Ops.set {os : List Opr} {g off cap : Nat} {w : World} (h : Ops os (some ⟨g, off, none⟩) cap w) (p : Addr) (u : Value) (hp : p.block ≠ g) : Ops os (some ⟨g, off, none⟩) cap (w.setCell p u) := by
  refine ⟨h.1, h.2.1, fun h0 => ?_⟩
  obtain ⟨g', off', e, hg, hc⟩ := h.2.2 h0
  simp only [Option.some.injEq, Addr.mk.injEq, and_true] at e
  obtain ⟨rfl, rfl⟩ := e
  refine ⟨g, off, rfl, by simpa using hg, fun i o ho j v hj => ?_⟩
  rw [World.cell?_setCell_other w p ⟨g, off + i * 7 + j, none⟩ u (fun e => hp (by rw [e]))]
  exact hc i o ho j v hj
set_option maxHeartbeats 4000000 in
theorem twin_some (os : List Opr) (g off cap : Nat) (pc cnt byt : Int) (w : World) (hops : Ops os (some ⟨g, off, none⟩) cap w) (h0 : 0 < os.length) (hreach : os.length * 56 ≤ 140737488351232) :
    Calls Try.prog 20 #[.agg #[.int .u32 pc, .int .i64 cnt, .int .i64 byt, .slice (some ⟨g, off, none⟩) os.length cap]] w fun e w' => ∃ g1 c1, e = .returned (.agg #[.int .u32 pc, .int .i64 cnt, .int .i64 byt, .slice (some ⟨g1, 0, none⟩) os.length c1]) ∧ w.heap.size ≤ g1 ∧ Ops os (some ⟨g1, 0, none⟩) c1 w' ∧ Below w.heap.size w w' := by
  obtain ⟨i0, z0, hi0, hz0, hs0, hb0, hzc⟩ := op_info
  have HI := Lib.hid hi0
  have HZ := Lib.hid hz0
  have HS := Lib.hid hs0
  have HB := Lib.hid hb0
  have HC := Lib.hid hzc
  have HO := Lib.hid hops
  clear hi0 hz0 hs0 hb0 hzc hops
  go_enter Try.func20, Try.ntmps20
  go_wp2_with (at_builtin; refine wpList_append_grows _ rfl (.const (.slice none 0 0)) (.tmp 4) 23 rfl 31 i0 z0 7 56 Try.underlying23 HI.out HZ.out HS.out HB.out HC.out (by decide) none 0 0 [] rfl (fun _ => ⟨rfl, rfl⟩) rfl (fun b hb => nomatch hb) ⟨g, off, none⟩ os.length cap (flat os) rfl ?c0 ?c1 ?c2 ?c3 ?c4 ?c5 ?grow)
  case c0 => exact flat_len os
  case c1 =>
    intro j u hj
    obtain ⟨g', off', e, hg, hc⟩ := HO.out.flat h0
    simp only [Option.some.injEq, Addr.mk.injEq, and_true] at e
    obtain ⟨rfl, rfl⟩ := e
    rw [← hc j u hj]
    have hlt : ((⟨g, off, none⟩ : Addr).add j).block < w.heap.size := by rw [Addr.add_lit]; exact hg
    exact (((Below.refl w.heap.size w).alloc (Nat.le_refl _) _).alloc (by simp) _).cell hlt
  case c2 => exact flat_one os
  case c3 => omega
  case c4 => unfold maxLen; omega
  case c5 => omega
  case grow =>
    intro v' w' hown hgrow
    have hbel := (Below.refl _ _).grown hgrow (Nat.le_refl _) (fun k h => by cases h)
    have hsz : w.heap.size + 1 < w'.heap.size := by have := hbel.size; simp at this; omega
    have hsz0 : w.heap.size < w'.heap.size := by omega
    obtain ⟨g1, c1, rfl, hg1, hO⟩ := Ops.of_own (os := os) (by simpa using hown) h0
    have hg1' : w.heap.size + 2 ≤ g1 := by simpa using hg1
    have B := blk2 w #[.int .u32 pc, .int .i64 cnt, .int .i64 byt, .slice (some ⟨g, off, none⟩) os.length cap] #[.int .u32 0, .int .i64 0, .int .i64 0, .slice none 0 0] 25 25
    have B0 := (hbel.block w.heap.size (by simp; omega)).trans B.1
    have B1 := (hbel.block (w.heap.size + 1) (by simp)).trans B.2
    have k0 := cell_of_row w' w.heap.size 0 _ _ _ B0
    have k1 := cell_of_row w' w.heap.size 1 _ _ _ B0
    have k2 := cell_of_row w' w.heap.size 2 _ _ _ B0
    have k3 := cell_of_row w' w.heap.size 3 _ _ _ B0
    have f3 := frozen_of_row w' w.heap.size 3 _ _ B0
    have m0 := cell_of_row w' (w.heap.size + 1) 0 _ _ _ B1
    have m1 := cell_of_row w' (w.heap.size + 1) 1 _ _ _ B1
    have m2 := cell_of_row w' (w.heap.size + 1) 2 _ _ _ B1
    have m3 := cell_of_row w' (w.heap.size + 1) 3 _ _ _ B1
    have n0 := frozen_of_row w' (w.heap.size + 1) 0 _ _ B1
    have n1 := frozen_of_row w' (w.heap.size + 1) 1 _ _ B1
    have n2 := frozen_of_row w' (w.heap.size + 1) 2 _ _ B1
    have n3 := frozen_of_row w' (w.heap.size + 1) 3 _ _ B1
    simp only [List.getElem?_toArray, List.getElem?_cons_zero, List.getElem?_cons_succ] at k0 k1 k2 k3 m0 m1 m2 m3
    have HOW := Lib.hid hO
    clear hown hgrow B B0 B1 hO hg1
    go_wp2
    refine bodyPost_ret (v := .agg #[.int .u32 pc, .int .i64 cnt, .int .i64 byt, .slice (some ⟨g1, 0, none⟩) os.length c1]) (by simp [results, Try.results20, go_sem, k0, k1, k2, k3, m0, m1, m2, m3]) rfl ⟨g1, c1, rfl, Nat.le_trans (Nat.le_add_right _ _) hg1', ?_, ?_⟩
    · refine Ops.set (Ops.set (Ops.set (Ops.set (Ops.set HOW.out _ _ ?_) _ _ ?_) _ _ ?_) _ _ ?_) _ _ ?_
      all_goals (show _ ≠ g1; simp only []; omega)
    · have hB : Below w.heap.size w w' := (((Below.refl _ _).alloc (Nat.le_refl _) _).alloc (by simp) _).trans (hbel.mono (by simp; omega))
      exact ((((hB.setCell (Nat.le_refl _) _).setCell (Nat.le_succ _) _).setCell (Nat.le_succ _) _).setCell (Nat.le_succ _) _).setCell (Nat.le_succ _) _
set_option maxHeartbeats 1000000 in
theorem twin_zero (ao : Option Addr) (cap : Nat) (pc cnt byt : Int) (w : World) :
    Calls Try.prog 20 #[.agg #[.int .u32 pc, .int .i64 cnt, .int .i64 byt, .slice ao 0 cap]] w fun e w' => e = .returned (.agg #[.int .u32 pc, .int .i64 cnt, .int .i64 byt, .slice none 0 0]) ∧ Below w.heap.size w w' := by
  have hp : ∀ w : World, Sem.run Try.prog (pure #[] : Sem (Array Value)) w = .ok #[] w := fun _ => rfl
  rcases ao with _ | ad
  all_goals go_enter Try.func20, Try.ntmps20
  all_goals go_wp2
  all_goals refine bodyPost_ret (v := .agg #[.int .u32 pc, .int .i64 cnt, .int .i64 byt, .slice none 0 0]) (by simp [results, Try.results20, go_sem]) rfl ⟨rfl, ?_⟩
  all_goals exact ((Below.refl _ _).alloc (Nat.le_refl _) _).alloc (by simp) _
theorem twin_own (os : List Opr) (ao : Option Addr) (cap : Nat) (pc cnt byt : Int) (w : World) (hops : Ops os ao cap w) (hreach : os.length * 56 ≤ 140737488351232) :
    Calls Try.prog 20 #[.agg #[.int .u32 pc, .int .i64 cnt, .int .i64 byt, .slice ao os.length cap]] w fun e w' => ∃ ao1 c1, e = .returned (.agg #[.int .u32 pc, .int .i64 cnt, .int .i64 byt, .slice ao1 os.length c1]) ∧ (∀ g, ao1 = some g → w.heap.size ≤ g.block) ∧ Ops os ao1 c1 w' ∧ Below w.heap.size w w' := by
  rcases Nat.eq_zero_or_pos os.length with h0 | h0
  · rw [h0]
    exact (twin_zero ao cap pc cnt byt w).mono fun e w' h => ⟨none, 0, h.1, fun g hg => (nomatch hg), ⟨by omega, by unfold maxLen; omega, fun h => absurd h (by omega)⟩, h.2⟩
  · obtain ⟨g, off, rfl, hg, hc⟩ := hops.2.2 h0
    exact (twin_some os g off cap pc cnt byt w hops h0 hreach).mono fun e w' ⟨g1, c1, he, hf, hO, hb⟩ => ⟨_, c1, he, fun g hg => by cases hg; exact hf, hO, hb⟩
end Go.Proofs.Ytcjcmnnhmajocab.Ic
