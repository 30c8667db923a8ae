/- crossgrainref2.Memory.Copy: another memory, of the call's own, with the same bytes, rights, marks. -/
import Derived.LoopTactic
import Derived.Deep.LoopGhost
import Derived.Deep.RegionLaw
import Derived.IntWalk
import Derived.Deep.RegionHeld3
import Derived.Deep.Cut
import Derived.Test.YtcjcmnnhmajocabPoag
import Derived.Test.YtcjcmnnhmajocabPoai
namespace Go.Proofs.Ytcjcmnnhmajocab.Gn
open Go.RowKit Kt Me
set_option linter.unusedVariables false
set_option linter.unusedSimpArgs false
set_option maxRecDepth 100000 in
set_option maxHeartbeats 4000000 in
theorem same_any (P Q : RP) (M : MM) (w : World) (h : RM P M w) (h' : RM Q M w) :
    Calls Try.prog 44 #[.pointer (some ⟨P.q, 0, none⟩), .pointer (some ⟨Q.q, 0, none⟩)] w fun e w' => e = .returned (.bool true) ∧ Below w.heap.size w w' := by
  have HP := Lib.hid h
  have HQ := Lib.hid h'
  have hq := h.hq0
  have hq' := h'.hq0
  clear h h'
  go_enter Try.func44, Try.ntmps44
  go_wp2_with fail
  go_loopg [11] 65536 (fun k i wr => ∃ j : Nat, k = 65536 - j ∧ j ≤ 65536 ∧ i = .int .i64 j ∧ Hid (Below w.heap.size w wr))
  case atStart => exact ⟨0, rfl, Nat.zero_le _, rfl, Below.refl _ _⟩
  case round =>
    obtain ⟨j, hk, hj, rfl, HB⟩ := hrel
    by_cases hlt : j < 65536
    · have hlt' : (j : Int) < 65536 := by omega
      have hge : (0 : Int) ≤ (j : Int) := by omega
      have e1 := (HB.out.cell (p := ⟨P.b, j, none⟩) HP.out.lb).trans (HP.out.hb j hlt)
      have e2 := (HB.out.cell (p := ⟨Q.b, j, none⟩) HQ.out.lb).trans (HQ.out.hb j hlt)
      have e3 := (HB.out.cell (p := ⟨P.q, 0, none⟩) HP.out.lq).trans hq
      have e4 := (HB.out.cell (p := ⟨Q.q, 0, none⟩) HQ.out.lq).trans hq'
      generalize M.by_ j = z at e1 e2
      go_wp2_with fail
      go_region
      go_wp2_with fail
      go_roundg (65536 - (j + 1))
      case measure => omega
      case rel => exact ⟨j + 1, rfl, by omega, by simp, HB.out.drew⟩
    · obtain rfl : j = 65536 := by omega
      go_wp2_with fail
      go_ret
      exact ⟨rfl, HB.out⟩
end Go.Proofs.Ytcjcmnnhmajocab.Gn
namespace Go.Proofs.Ytcjcmnnhmajocab.Gn
open Go.RowKit Kt Me
set_option linter.unusedVariables false
set_option linter.unusedSimpArgs false
/-- a row of the call's own -/
def NRow (g n : Nat) (f : Nat → Value) (W : World) : Prop := g < W.heap.size ∧ (∀ j, j < n → W.cell? ⟨g, j, none⟩ = some (f j)) ∧ ∀ j, W.frozen? ⟨g, j, none⟩ = false
theorem NRow.keep {g n : Nat} {f : Nat → Value} {W W' : World} (h : NRow g n f W) (b : Below W.heap.size W W') : NRow g n f W' :=
  ⟨Nat.lt_of_lt_of_le h.1 b.size, fun j hj => (b.cell (p := ⟨g, j, none⟩) h.1).trans (h.2.1 j hj), fun j => (b.frozen (p := ⟨g, j, none⟩) h.1).trans (h.2.2 j)⟩
theorem bool_info : ∃ i, Try.prog.info? 4 = some i ∧ i.zero = some (.bool false) ∧ i.size = 1 ∧ i.bytes = 1 := by
  have h : (Try.prog.info? 4).map (fun i => (i.zero, i.size, i.bytes)) = some (some (.bool false), 1, 1) := by kernel_rfl
  obtain ⟨i, hi, hz⟩ := Option.map_eq_some_iff.1 h
  simp only [Prod.mk.injEq] at hz
  exact ⟨i, hi, hz⟩
theorem step_cu {ops : Array Oper} {o : Oper} {a : Act} {w : World} {K : Act → World → Prop} {Q : Exit → Act → World → Prop} {E : Prop}
    (hg : o.guard = none) (x : Operand) (hop : o.op = Op.call { callee := Callee.builtin Builtin.append, args := #[.const (.slice none 0 0), x], argTypes := #[74, 74] })
    (f : Nat → Int) (b n cap : Nat) (hx : a.eval x = .slice (some ⟨b, 0, none⟩) n cap) (hc : ∀ j, j < n → w.cell? ⟨b, j, none⟩ = some (Value.int .u8 (f j))) (h0 : 0 < n) (hb : n ≤ 65536)
    (hK : ∀ g c w', w.heap.size ≤ g → n ≤ c → NRow g n (fun j => Value.int .u8 (f j)) w' → Below w.heap.size w w' → K (a.put o.dst (.slice (some ⟨g, 0, none⟩) n c)) w') :
    if Region.wanted o (yielded ops a.tmps) = true then Oper.wp Try.prog o a w K Q else E := by
  have hw : Region.wanted o (yielded ops a.tmps) = true := by simp [Region.wanted, hg]
  rw [if_pos hw]
  obtain ⟨i, hi, hz, hsz, hby⟩ := Gu.u8_info
  have hmx : (maxLen : Nat) = 9223372036854775807 := rfl
  have el : ((List.range n).map fun j => Value.int .u8 (f j)).length = n := by simp
  have e1 : ∀ j u, ((List.range n).map fun j => Value.int .u8 (f j))[j]? = some u → w.cell? ((⟨b, 0, none⟩ : Addr).add j) = some u := by
    intro j u hj
    rw [List.getElem?_map] at hj
    obtain ⟨z, hz, rfl⟩ := Option.map_eq_some_iff.1 hj
    obtain ⟨hlt, hz⟩ := List.getElem?_eq_some_iff.1 hz
    rw [List.length_range] at hlt
    rw [List.getElem_range] at hz
    subst hz
    rw [Addr.add_lit, Nat.zero_add]
    exact hc j hlt
  have e2 : ∀ u ∈ (List.range n).map (fun j => Value.int .u8 (f j)), u.oneCell' = true := by
    intro u hu
    obtain ⟨z, _, rfl⟩ := List.mem_map.1 hu
    rfl
  obtain ⟨v', w', hrun, r1, r2, _⟩ := run_append_own (P := Try.prog) w w.heap.size 74 o.type 5 i (.int .u8 0) 1 1 Try.underlying74 hi hz hsz hby rfl Nat.one_pos (.slice none 0 0) 0 [] (World.ownsRow_nil w _ _ _) ⟨b, 0, none⟩ n cap ((List.range n).map fun j => Value.int .u8 (f j)) (by simp) e1 e2 (by omega) (by omega) (Nat.le_refl _)
  have hB : Below w.heap.size w w' := (Below.refl _ _).grown r2 (Nat.le_refl _) (fun k hk => by cases hk)
  have hv : ∃ g c, v' = .slice (some ⟨g, 0, none⟩) n c ∧ w.heap.size ≤ g ∧ n ≤ c ∧ NRow g n (fun j => Value.int .u8 (f j)) w' := by
    rcases r1.2 with ⟨_, hn⟩ | ⟨g, c1, cur, e, hg, hrow, hle, hmx, hsz, htk⟩
    · simp at hn; omega
    · simp only [Nat.zero_add, List.nil_append] at e hle htk
      refine ⟨g, c1, e, hg, by simpa using hle, (Array.getElem?_eq_some_iff.1 hrow).1, fun j hj => ?_, fun j => frozen_of_row _ _ _ _ _ hrow⟩
      rw [cell_of_row w' g j _ _ _ hrow, ← Array.getElem?_toList]
      have h2 : (cur.toList.take (n * 1))[j]? = ((List.range n).map fun j => Value.int .u8 (f j))[j]? := by rw [htk]
      rw [Nat.mul_one, List.getElem?_take, if_pos hj, List.getElem?_map, List.getElem?_range hj] at h2
      rw [h2]; rfl
  obtain ⟨g, c, rfl, hg, hle, hr⟩ := hv
  unfold Oper.wp
  have hs : a.eval (.const (.slice none 0 0)) = .slice none 0 0 := rfl
  simp [execOp, hop, resolve, invoke, builtin, hs, hx, hrun, Result.andThen]
  exact hK g c w' hg hle hr hB
theorem step_ci {ops : Array Oper} {o : Oper} {a : Act} {w : World} {K : Act → World → Prop} {Q : Exit → Act → World → Prop} {E : Prop}
    (hg : o.guard = none) (x : Operand) (hop : o.op = Op.call { callee := Callee.builtin Builtin.append, args := #[.const (.slice none 0 0), x], argTypes := #[39, 39] })
    (f : Nat → Int) (b n cap : Nat) (hx : a.eval x = .slice (some ⟨b, 0, none⟩) n cap) (hc : ∀ j, j < n → w.cell? ⟨b, j, none⟩ = some (Value.int .i64 (f j))) (h0 : 0 < n) (hb : n ≤ 65536)
    (hK : ∀ g c w', w.heap.size ≤ g → n ≤ c → NRow g n (fun j => Value.int .i64 (f j)) w' → Below w.heap.size w w' → K (a.put o.dst (.slice (some ⟨g, 0, none⟩) n c)) w') :
    if Region.wanted o (yielded ops a.tmps) = true then Oper.wp Try.prog o a w K Q else E := by
  have hw : Region.wanted o (yielded ops a.tmps) = true := by simp [Region.wanted, hg]
  rw [if_pos hw]
  obtain ⟨i, hi, hz, hsz, hby⟩ := i64_info
  have hmx : (maxLen : Nat) = 9223372036854775807 := rfl
  have el : ((List.range n).map fun j => Value.int .i64 (f j)).length = n := by simp
  have e1 : ∀ j u, ((List.range n).map fun j => Value.int .i64 (f j))[j]? = some u → w.cell? ((⟨b, 0, none⟩ : Addr).add j) = some u := by
    intro j u hj
    rw [List.getElem?_map] at hj
    obtain ⟨z, hz, rfl⟩ := Option.map_eq_some_iff.1 hj
    obtain ⟨hlt, hz⟩ := List.getElem?_eq_some_iff.1 hz
    rw [List.length_range] at hlt
    rw [List.getElem_range] at hz
    subst hz
    rw [Addr.add_lit, Nat.zero_add]
    exact hc j hlt
  have e2 : ∀ u ∈ (List.range n).map (fun j => Value.int .i64 (f j)), u.oneCell' = true := by
    intro u hu
    obtain ⟨z, _, rfl⟩ := List.mem_map.1 hu
    rfl
  obtain ⟨v', w', hrun, r1, r2, _⟩ := run_append_own (P := Try.prog) w w.heap.size 39 o.type 3 i (.int .i64 0) 1 8 Try.underlying39 hi hz hsz hby rfl Nat.one_pos (.slice none 0 0) 0 [] (World.ownsRow_nil w _ _ _) ⟨b, 0, none⟩ n cap ((List.range n).map fun j => Value.int .i64 (f j)) (by simp) e1 e2 (by omega) (by omega) (Nat.le_refl _)
  have hB : Below w.heap.size w w' := (Below.refl _ _).grown r2 (Nat.le_refl _) (fun k hk => by cases hk)
  have hv : ∃ g c, v' = .slice (some ⟨g, 0, none⟩) n c ∧ w.heap.size ≤ g ∧ n ≤ c ∧ NRow g n (fun j => Value.int .i64 (f j)) w' := by
    rcases r1.2 with ⟨_, hn⟩ | ⟨g, c1, cur, e, hg, hrow, hle, hmx, hsz, htk⟩
    · simp at hn; omega
    · simp only [Nat.zero_add, List.nil_append] at e hle htk
      refine ⟨g, c1, e, hg, by simpa using hle, (Array.getElem?_eq_some_iff.1 hrow).1, fun j hj => ?_, fun j => frozen_of_row _ _ _ _ _ hrow⟩
      rw [cell_of_row w' g j _ _ _ hrow, ← Array.getElem?_toList]
      have h2 : (cur.toList.take (n * 1))[j]? = ((List.range n).map fun j => Value.int .i64 (f j))[j]? := by rw [htk]
      rw [Nat.mul_one, List.getElem?_take, if_pos hj, List.getElem?_map, List.getElem?_range hj] at h2
      rw [h2]; rfl
  obtain ⟨g, c, rfl, hg, hle, hr⟩ := hv
  unfold Oper.wp
  have hs : a.eval (.const (.slice none 0 0)) = .slice none 0 0 := rfl
  simp [execOp, hop, resolve, invoke, builtin, hs, hx, hrun, Result.andThen]
  exact hK g c w' hg hle hr hB
theorem step_cb {ops : Array Oper} {o : Oper} {a : Act} {w : World} {K : Act → World → Prop} {Q : Exit → Act → World → Prop} {E : Prop}
    (hg : o.guard = none) (x : Operand) (hop : o.op = Op.call { callee := Callee.builtin Builtin.append, args := #[.const (.slice none 0 0), x], argTypes := #[79, 79] })
    (f : Nat → Bool) (b n cap : Nat) (hx : a.eval x = .slice (some ⟨b, 0, none⟩) n cap) (hc : ∀ j, j < n → w.cell? ⟨b, j, none⟩ = some (Value.bool (f j))) (h0 : 0 < n) (hb : n ≤ 65536)
    (hK : ∀ g c w', w.heap.size ≤ g → n ≤ c → NRow g n (fun j => Value.bool (f j)) w' → Below w.heap.size w w' → K (a.put o.dst (.slice (some ⟨g, 0, none⟩) n c)) w') :
    if Region.wanted o (yielded ops a.tmps) = true then Oper.wp Try.prog o a w K Q else E := by
  have hw : Region.wanted o (yielded ops a.tmps) = true := by simp [Region.wanted, hg]
  rw [if_pos hw]
  obtain ⟨i, hi, hz, hsz, hby⟩ := bool_info
  have hmx : (maxLen : Nat) = 9223372036854775807 := rfl
  have el : ((List.range n).map fun j => Value.bool (f j)).length = n := by simp
  have e1 : ∀ j u, ((List.range n).map fun j => Value.bool (f j))[j]? = some u → w.cell? ((⟨b, 0, none⟩ : Addr).add j) = some u := by
    intro j u hj
    rw [List.getElem?_map] at hj
    obtain ⟨z, hz, rfl⟩ := Option.map_eq_some_iff.1 hj
    obtain ⟨hlt, hz⟩ := List.getElem?_eq_some_iff.1 hz
    rw [List.length_range] at hlt
    rw [List.getElem_range] at hz
    subst hz
    rw [Addr.add_lit, Nat.zero_add]
    exact hc j hlt
  have e2 : ∀ u ∈ (List.range n).map (fun j => Value.bool (f j)), u.oneCell' = true := by
    intro u hu
    obtain ⟨z, _, rfl⟩ := List.mem_map.1 hu
    rfl
  obtain ⟨v', w', hrun, r1, r2, _⟩ := run_append_own (P := Try.prog) w w.heap.size 79 o.type 4 i (.bool false) 1 1 Try.underlying79 hi hz hsz hby rfl Nat.one_pos (.slice none 0 0) 0 [] (World.ownsRow_nil w _ _ _) ⟨b, 0, none⟩ n cap ((List.range n).map fun j => Value.bool (f j)) (by simp) e1 e2 (by omega) (by omega) (Nat.le_refl _)
  have hB : Below w.heap.size w w' := (Below.refl _ _).grown r2 (Nat.le_refl _) (fun k hk => by cases hk)
  have hv : ∃ g c, v' = .slice (some ⟨g, 0, none⟩) n c ∧ w.heap.size ≤ g ∧ n ≤ c ∧ NRow g n (fun j => Value.bool (f j)) w' := by
    rcases r1.2 with ⟨_, hn⟩ | ⟨g, c1, cur, e, hg, hrow, hle, hmx, hsz, htk⟩
    · simp at hn; omega
    · simp only [Nat.zero_add, List.nil_append] at e hle htk
      refine ⟨g, c1, e, hg, by simpa using hle, (Array.getElem?_eq_some_iff.1 hrow).1, fun j hj => ?_, fun j => frozen_of_row _ _ _ _ _ hrow⟩
      rw [cell_of_row w' g j _ _ _ hrow, ← Array.getElem?_toList]
      have h2 : (cur.toList.take (n * 1))[j]? = ((List.range n).map fun j => Value.bool (f j))[j]? := by rw [htk]
      rw [Nat.mul_one, List.getElem?_take, if_pos hj, List.getElem?_map, List.getElem?_range hj] at h2
      rw [h2]; rfl
  obtain ⟨g, c, rfl, hg, hle, hr⟩ := hv
  unfold Oper.wp
  have hs : a.eval (.const (.slice none 0 0)) = .slice none 0 0 := rfl
  simp [execOp, hop, resolve, invoke, builtin, hs, hx, hrun, Result.andThen]
  exact hK g c w' hg hle hr hB
theorem rm_q4 {P : RP} {M : MM} {w' : World} (h : RM P M w') : w'.cell? ⟨P.q, 0, none⟩ = some (.slice (some ⟨P.b, 0, none⟩) 65536 P.cb) ∧ w'.cell? ⟨P.q, 1, none⟩ = some (.slice (some ⟨P.r, 0, none⟩) 256 P.cr) ∧ w'.cell? ⟨P.q, 2, none⟩ = some (.slice (some ⟨P.m, 0, none⟩) 256 P.cm) ∧ w'.cell? ⟨P.q, 3, none⟩ = some (.slice (some ⟨P.t, 0, none⟩) 256 P.ct) := ⟨h.hq0, h.hq1, h.hq2, h.hq3⟩
/-- the copy -/
theorem RM.made {M : MM} {W : World} {gb gr gm gt cb cr cm ct : Nat} (hcb : 65536 ≤ cb) (b : NRow gb 65536 (fun j => .int .u8 (M.by_ j)) W) (r : NRow gr 256 (fun j => .int .i64 (M.rt j)) W) (m : NRow gm 256 (fun j => .bool (M.wd j)) W) (t : NRow gt 256 (fun j => .bool (M.hi j)) W)
    (h : gb ≠ gr ∧ gb ≠ gm ∧ gb ≠ gt ∧ gr ≠ gm ∧ gr ≠ gt ∧ gm ≠ gt) : RM ⟨W.heap.size, gb, gr, gm, gt, cb, cr, cm, ct, hcb⟩ M (W.alloc (.cells #[.slice (some ⟨gb, 0, none⟩) 65536 cb, .slice (some ⟨gr, 0, none⟩) 256 cr, .slice (some ⟨gm, 0, none⟩) 256 cm, .slice (some ⟨gt, 0, none⟩) 256 ct] 81)) := by
  generalize hz : (.cells #[.slice (some ⟨gb, 0, none⟩) 65536 cb, .slice (some ⟨gr, 0, none⟩) 256 cr, .slice (some ⟨gm, 0, none⟩) 256 cm, .slice (some ⟨gt, 0, none⟩) 256 ct] 81 : Obj) = Z
  have tq := (blk_top W Z _ rfl).trans (congrArg some hz.symm)
  have B : Below W.heap.size W (W.alloc Z) := (Below.refl _ _).alloc (Nat.le_refl _) _
  have hb1 : gb < W.heap.size ∧ gr < W.heap.size ∧ gm < W.heap.size ∧ gt < W.heap.size := ⟨b.1, r.1, m.1, t.1⟩
  have b := b.keep B
  have r := r.keep B
  have m := m.keep B
  have t := t.keep B
  have sz : (W.alloc Z).heap.size = W.heap.size + 1 := by simp
  refine ⟨?_, ?_, ?_, ?_, ?_, b.2.1, r.2.1, m.2.1, t.2.1, b.2.2, r.2.2, m.2.2, t.2.2, ?_, b.1, r.1, m.1, t.1⟩
  · have := b.1
    have b1 := hb1
    show W.heap.size ≠ gb ∧ W.heap.size ≠ gr ∧ W.heap.size ≠ gm ∧ W.heap.size ≠ gt ∧ gb ≠ gr ∧ gb ≠ gm ∧ gb ≠ gt ∧ gr ≠ gm ∧ gr ≠ gt ∧ gm ≠ gt
    omega
  · rw [cell_of_row _ _ _ _ _ _ tq]; rfl
  · rw [cell_of_row _ _ _ _ _ _ tq]; rfl
  · rw [cell_of_row _ _ _ _ _ _ tq]; rfl
  · rw [cell_of_row _ _ _ _ _ _ tq]; rfl
  · show W.heap.size < _; omega
set_option maxRecDepth 100000 in
set_option maxHeartbeats 16000000 in
theorem copy_any (P : RP) (M : MM) (w : World) (h : RM P M w) :
    Calls Try.prog 15 #[.pointer (some ⟨P.q, 0, none⟩)] w fun e w' => ∃ Q : RP, e = .returned (.pointer (some ⟨Q.q, 0, none⟩)) ∧ RM Q M w' ∧ Below w.heap.size w w' ∧ ∀ k, Q.has k → w.heap.size ≤ k := by
  have HR := Lib.hid h.drew
  have BB := Lib.hid (show Below w.heap.size w w.drew from (Below.refl _ _).drew)
  clear h
  go_enter Try.func15, Try.ntmps15
  go_upto_region 1 with fail
  go_region_held3 (fun w' => w'.cell? ⟨P.q, 0, none⟩ = some (.slice (some ⟨P.b, 0, none⟩) 65536 P.cb) ∧ w'.cell? ⟨P.q, 1, none⟩ = some (.slice (some ⟨P.r, 0, none⟩) 256 P.cr) ∧ w'.cell? ⟨P.q, 2, none⟩ = some (.slice (some ⟨P.m, 0, none⟩) 256 P.cm) ∧ w'.cell? ⟨P.q, 3, none⟩ = some (.slice (some ⟨P.t, 0, none⟩) 256 P.ct)) (first | exact rm_q4 HR.out | exact rm_q4 (HR.out.upto ((Upto.refl (fun _ => False) _).alloc _) (fun _ _ => id))) (first
    | (refine step_cu rfl (.tmp 6) rfl M.by_ P.b 65536 P.cb (by simp [Act.eval, Act.put]) HR.out.hb (by decide) (by decide) ?_; intro g6 c6 w2 hg6 hc6 hr hb; have R6 := Lib.hid hr; clear hr; (try (replace R11 := Lib.hid (R11.out.keep hb))); (try (replace R16 := Lib.hid (R16.out.keep hb))); (try (replace R21 := Lib.hid (R21.out.keep hb))); have l6 := R6.out.1; replace HR := Lib.hid (HR.out.upto (Upto.of_below (S := fun _ => False) hb) (fun _ _ => id)); replace BB := Lib.hid (chain BB.out hb); have z6 := hb.size; clear hb)
    | (refine step_ci rfl (.tmp 11) rfl M.rt P.r 256 P.cr (by simp [Act.eval, Act.put]) HR.out.hr (by decide) (by decide) ?_; intro g11 c11 w2 hg11 hc11 hr hb; have R11 := Lib.hid hr; clear hr; (try (replace R6 := Lib.hid (R6.out.keep hb))); (try (replace R16 := Lib.hid (R16.out.keep hb))); (try (replace R21 := Lib.hid (R21.out.keep hb))); have l11 := R11.out.1; replace HR := Lib.hid (HR.out.upto (Upto.of_below (S := fun _ => False) hb) (fun _ _ => id)); replace BB := Lib.hid (chain BB.out hb); have z11 := hb.size; clear hb)
    | (refine step_cb rfl (.tmp 16) rfl M.wd P.m 256 P.cm (by simp [Act.eval, Act.put]) HR.out.hm (by decide) (by decide) ?_; intro g16 c16 w2 hg16 hc16 hr hb; have R16 := Lib.hid hr; clear hr; (try (replace R6 := Lib.hid (R6.out.keep hb))); (try (replace R11 := Lib.hid (R11.out.keep hb))); (try (replace R21 := Lib.hid (R21.out.keep hb))); have l16 := R16.out.1; replace HR := Lib.hid (HR.out.upto (Upto.of_below (S := fun _ => False) hb) (fun _ _ => id)); replace BB := Lib.hid (chain BB.out hb); have z16 := hb.size; clear hb)
    | (refine step_cb rfl (.tmp 21) rfl M.hi P.t 256 P.ct (by simp [Act.eval, Act.put]) HR.out.ht (by decide) (by decide) ?_; intro g21 c21 w2 hg21 hc21 hr hb; have R21 := Lib.hid hr; clear hr; (try (replace R6 := Lib.hid (R6.out.keep hb))); (try (replace R11 := Lib.hid (R11.out.keep hb))); (try (replace R16 := Lib.hid (R16.out.keep hb))); have l21 := R21.out.1; replace HR := Lib.hid (HR.out.upto (Upto.of_below (S := fun _ => False) hb) (fun _ _ => id)); replace BB := Lib.hid (chain BB.out hb); have z21 := hb.size; clear hb))
  all_goals go_wp2
  all_goals go_ret
  all_goals
    have hd : w.drew.heap.size = w.heap.size := rfl
    refine ⟨⟨w2.heap.size, g6, g11, g16, g21, c6, c11, c16, c21, hc6⟩, rfl, RM.made hc6 R6.out R11.out R16.out R21.out (by clear HR BB R6 R11 R16 R21; omega), BB.out.alloc (by clear HR R6 R11 R16 R21; omega) _, ?_⟩
    clear HR BB R6 R11 R16 R21
    rintro k (h | h | h | h | h)
    · have h : k = w2.heap.size := h
      omega
    · have h : k = g6 := h
      omega
    · have h : k = g11 := h
      omega
    · have h : k = g16 := h
      omega
    · have h : k = g21 := h
      omega
end Go.Proofs.Ytcjcmnnhmajocab.Gn
