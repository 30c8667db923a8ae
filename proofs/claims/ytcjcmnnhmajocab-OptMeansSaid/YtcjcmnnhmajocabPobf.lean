/- opt.Block. -/
import Derived.Laws.StructEq
import Derived.LoopN
import Derived.Outline
import Derived.Deep.LoopGhost
import Derived.Deep.QuietTactic
import Derived.BigQuiet
import Derived.Lib.SliceRun
import Derived.Lib.Walk
import Derived.Test.YtcjcmnnhmajocabPoak
import Derived.Test.YtcjcmnnhmajocabPoaz
import Derived.Test.YtcjcmnnhmajocabPobc
import Derived.Test.YtcjcmnnhmajocabPobe
namespace Go.Proofs.Ytcjcmnnhmajocab.Ot
open Go.RowKit Kt Ic Me Ev
set_option linter.unusedVariables false
set_option linter.unusedSimpArgs false
theorem cells_at {os : List Opr} {g off cap : Nat} {w : World} (h : Ops os (some ⟨g, off, none⟩) cap w) : ∀ j u, (opCs os)[j]? = some u → w.cell? ⟨g, off + j, none⟩ = some u := by
  intro j u hj
  have hl := (List.getElem?_eq_some_iff.1 hj).1
  rw [opCs_len] at hl
  obtain ⟨g2, off2, e, _, hc⟩ := h.2.2 (by omega)
  obtain ⟨rfl, rfl⟩ : g = g2 ∧ off = off2 := by simpa using e
  have hi : j / 7 < os.length := by omega
  have e7 : j / 7 * 7 + j % 7 = j := by omega
  have h2 := opCs_get os (j / 7) (j % 7) os[j / 7] (List.getElem?_eq_getElem hi) (Nat.mod_lt _ (by decide))
  rw [e7, hj] at h2
  have := hc (j / 7) os[j / 7] (List.getElem?_eq_getElem hi) (j % 7) u h2.symm
  rw [Nat.add_assoc, e7] at this
  exact this
theorem cells_one {os : List Opr} : ∀ u ∈ opCs os, u.oneCell' = true := by
  intro u hu
  unfold opCs at hu
  obtain ⟨o, _, h2⟩ := List.mem_flatMap.1 hu
  obtain ⟨j, hj⟩ := List.getElem?_of_mem h2
  rw [Array.getElem?_toList] at hj
  exact opr_cells o j u hj
set_option maxHeartbeats 4000000 in
set_option maxRecDepth 100000 in
/-- a copy -/
theorem clone_any (os : List Opr) (ao : Option Addr) (cap : Nat) (w : World) (h : Ops os ao cap w) (hb : os.length * 56 ≤ 140737488355328) :
    Calls Try.prog 70 #[.slice ao os.length cap] w fun e w' => ∃ v, e = .returned v ∧ OwnO w.heap.size v os w' ∧ Below w.heap.size w w' ∧ (v = .slice none 0 0 ↔ ao = none) := by
  have q22 : ∀ (w : World) (a : Option Addr) (n c n' c' : Nat), (binOp .eql 23 (.slice a n c) (.slice none n' c')).run Try.prog w = .ok (.bool a.isNone) w := fun w a n c n' c' => Lib.run_eql_slice_nil w _ _ a n c n' c' Try.underlying23
  cases ao with
  | none =>
    have h0 : os.length = 0 := by
      by_cases e : 0 < os.length
      · obtain ⟨g, off, e2, _⟩ := h.2.2 e; exact absurd e2 (by simp)
      · omega
    obtain rfl : os = [] := List.length_eq_zero_iff.1 h0
    go_enter Try.func70, Try.ntmps70
    go_wp2
    go_ret
    exact ⟨_, rfl, World.ownsRow_nil _ _ _ _, Below.refl _ _, by simp⟩
  | some ad =>
    obtain ⟨i0, hi, hz0, hz1, hz2⟩ := opi
    have hl : 0 < os.length → ∃ g off, ad = ⟨g, off, none⟩ := fun e => by obtain ⟨g, off, e2, _⟩ := h.2.2 e; exact ⟨g, off, by simpa using e2⟩
    have HC : Hid (∀ j u, (opCs os)[j]? = some u → (w.alloc (.cells #[] 31)).cell? (ad.add j) = some u) := Lib.hid (by
      intro j u hj
      have hlen := (List.getElem?_eq_some_iff.1 hj).1
      rw [opCs_len] at hlen
      obtain ⟨g, off, rfl⟩ := hl (by omega)
      rw [Addr.add_lit]
      exact Lib.cell?_alloc_some _ (cells_at h j u hj))
    have HL := Lib.hid (opCs_len os)
    have H1 := Lib.hid (cells_one (os := os))
    have hmx : (maxLen : Nat) = 9223372036854775807 := rfl
    clear h hl
    go_enter Try.func70, Try.ntmps70
    go_wp2_with (at_builtin; refine wpList_append_own _ rfl _ _ 23 rfl w.heap.size 31 i0 _ 7 56 Try.underlying23 hi hz0 hz1 hz2 rfl (by decide) _ _ _ rfl (World.ownsRow_made w #[] 0 (Nat.le_refl _) (Nat.zero_le _) rfl) ad os.length cap (opCs os) rfl HL.out HC.out H1.out (by omega) (by omega) (by simp) ?_)
    intro v' w1 hown hgrow hnil
    go_wp2
    go_ret
    refine ⟨v', rfl, ?_, ?_, ?_⟩
    · simpa [OwnO] using hown
    · exact ((Below.refl _ w).alloc (Nat.le_refl _) _).grown hgrow (by simp) (by intro k hk; simp [Value.ownBlock] at hk; omega)
    · simpa using hnil
theorem neq_op (o p : Opr) : ∀ w : World, (binOp .neq 31 (.agg #[.int .i64 o.k, .int .i64 o.w, .int .i64 o.a, .int .i64 o.b, .int .i64 o.c, .int .u32 o.kn, .int .i64 o.n])
    (.agg #[.int .i64 p.k, .int .i64 p.w, .int .i64 p.a, .int .i64 p.b, .int .i64 p.c, .int .u32 p.kn, .int .i64 p.n])).run Try.prog w = .ok (.bool (decide (o ≠ p))) w := by
  intro w
  have h : ∀ w : World, (Op.eqFields 9999 #[.int .i64 o.k, .int .i64 o.w, .int .i64 o.a, .int .i64 o.b, .int .i64 o.c, .int .u32 o.kn, .int .i64 o.n] #[.int .i64 p.k, .int .i64 p.w, .int .i64 p.a, .int .i64 p.b, .int .i64 p.c, .int .u32 p.kn, .int .i64 p.n]
      [fldO 0, fldO 1, fldO 2, fldO 3, fldO 4, fldO 5, fldO 6]).run Try.prog w = .ok (o.k == p.k && (o.w == p.w && (o.a == p.a && (o.b == p.b && (o.c == p.c && (o.kn == p.kn && (o.n == p.n && true))))))) w := by
    refine eqFields_step 9998 _ _ _ _ (by decide +kernel) (k := .i64) (k' := .i64) (by kernel_rfl) (fun w => by kernel_rfl) (fun w => by kernel_rfl) ?_
    refine eqFields_step 9998 _ _ _ _ (by decide +kernel) (k := .i64) (k' := .i64) (by kernel_rfl) (fun w => by kernel_rfl) (fun w => by kernel_rfl) ?_
    refine eqFields_step 9998 _ _ _ _ (by decide +kernel) (k := .i64) (k' := .i64) (by kernel_rfl) (fun w => by kernel_rfl) (fun w => by kernel_rfl) ?_
    refine eqFields_step 9998 _ _ _ _ (by decide +kernel) (k := .i64) (k' := .i64) (by kernel_rfl) (fun w => by kernel_rfl) (fun w => by kernel_rfl) ?_
    refine eqFields_step 9998 _ _ _ _ (by decide +kernel) (k := .i64) (k' := .i64) (by kernel_rfl) (fun w => by kernel_rfl) (fun w => by kernel_rfl) ?_
    refine eqFields_step 9998 _ _ _ _ (by decide +kernel) (k := .u32) (k' := .u32) (by kernel_rfl) (fun w => by kernel_rfl) (fun w => by kernel_rfl) ?_
    refine eqFields_step 9998 _ _ _ _ (by decide +kernel) (k := .i64) (k' := .i64) (by kernel_rfl) (fun w => by kernel_rfl) (fun w => by kernel_rfl) ?_
    intro w
    simp [Op.eqFields]
  rw [← fldsO] at h
  rw [run_neq_struct, run_equalIn_struct w 9999 31 _ _ (by kernel_rfl) (by kernel_rfl), h]
  simp only [Result.andThen_ok, Sem.run_pure]
  congr 2
  rw [Bool.eq_iff_iff]
  obtain ⟨_, _, _, _, _, _, _⟩ := o
  obtain ⟨_, _, _, _, _, _, _⟩ := p
  simp
theorem list_ne {xs ys : List Opr} {j : Nat} (h : opAt xs j ≠ opAt ys j) : xs ≠ ys := fun e => h (by rw [e])
theorem list_eq {xs ys : List Opr} (hl : xs.length = ys.length) (h : ∀ i, i < xs.length → opAt xs i = opAt ys i) : xs = ys := by
  refine List.ext_getElem hl fun i h1 h2 => ?_
  have := h i h1
  unfold opAt at this
  rw [List.getD_eq_getElem?_getD, List.getD_eq_getElem?_getD, List.getElem?_eq_getElem h1, List.getElem?_eq_getElem h2] at this
  exact this
set_option maxHeartbeats 4000000 in
set_option maxRecDepth 100000 in
/-- are they the same? -/
theorem equal_any (xs ys : List Opr) (ax ay : Option Addr) (cx cy : Nat) (w : World) (h : Ops xs ax cx w) (h1 : Ops ys ay cy w) :
    Calls Try.prog 73 #[.slice ax xs.length cx, .slice ay ys.length cy] w fun e w' => e = .returned (.bool (decide (xs = ys))) ∧ Below w.heap.size w w' := by
  have hL : xs.length ≤ 9223372036854775807 := by have := h.1; have h2 := h.2.1; unfold maxLen at h2; omega
  have hL1 : ys.length ≤ 9223372036854775807 := by have := h1.1; have h2 := h1.2.1; unfold maxLen at h2; omega
  have hcap := h.1
  have hcap1 := h1.1
  have H := Lib.hid h
  have H1 := Lib.hid h1
  clear h h1
  obtain ⟨r, hr⟩ : ∃ r, decide (xs = ys) = r := ⟨_, rfl⟩
  rw [hr]
  have HR := Lib.hid hr
  clear hr
  by_cases hlen : xs.length = ys.length
  · obtain ⟨n, hn⟩ : ∃ n, ys.length = n := ⟨_, rfl⟩
    rw [hn] at hlen hL1 hcap1 ⊢
    rw [hlen] at hL hcap ⊢
    have HX := Lib.hid hlen
    have HY := Lib.hid hn
    clear hlen hn
    go_enter Try.func73, Try.ntmps73
    go_wp2
    go_loopg [13] n (fun k i wr => ∃ j : Nat, k = n - j ∧ j ≤ n ∧ i = .int .i64 j ∧ Hid (∀ i, i < j → opAt xs i = opAt ys i) ∧ Hid (Below w.heap.size w wr))
    case atStart => exact ⟨0, rfl, Nat.zero_le _, rfl, Lib.hid fun _ h => absurd h (by omega), Below.refl _ _⟩
    case round =>
      obtain ⟨j, hk, hj, rfl, HA, hb⟩ := hrel
      have HK := Lib.hid hk
      clear hk
      by_cases hlt : j < n
      · have k0 := H.out.keep hb.out
        have k1 := H1.out.keep hb.out
        obtain ⟨g, off, rfl, hg, hc⟩ := k0.2.2 (by have := HX.out; omega)
        obtain ⟨g1, off1, rfl, hg1, hc1⟩ := k1.2.2 (by have := HY.out; omega)
        have ho : xs[j]? = some (opAt xs j) := by unfold opAt; rw [List.getD_eq_getElem?_getD, List.getElem?_eq_getElem (by have := HX.out; omega)]; rfl
        have hp : ys[j]? = some (opAt ys j) := by unfold opAt; rw [List.getD_eq_getElem?_getD, List.getElem?_eq_getElem (by have := HY.out; omega)]; rfl
        have heq := neq_op (opAt xs j) (opAt ys j)
        have c0 : wr.cell? ⟨g, off + j * 7, none⟩ = some (.int .i64 (opAt xs j).k) := hc j _ ho 0 _ rfl
        have c1 : wr.cell? ⟨g, off + j * 7 + 1, none⟩ = some (.int .i64 (opAt xs j).w) := hc j _ ho 1 _ rfl
        have c2 : wr.cell? ⟨g, off + j * 7 + 2, none⟩ = some (.int .i64 (opAt xs j).a) := hc j _ ho 2 _ rfl
        have c3 : wr.cell? ⟨g, off + j * 7 + 3, none⟩ = some (.int .i64 (opAt xs j).b) := hc j _ ho 3 _ rfl
        have c4 : wr.cell? ⟨g, off + j * 7 + 4, none⟩ = some (.int .i64 (opAt xs j).c) := hc j _ ho 4 _ rfl
        have c5 : wr.cell? ⟨g, off + j * 7 + 5, none⟩ = some (.int .u32 (opAt xs j).kn) := hc j _ ho 5 _ rfl
        have c6 : wr.cell? ⟨g, off + j * 7 + 6, none⟩ = some (.int .i64 (opAt xs j).n) := hc j _ ho 6 _ rfl
        have d0 : wr.cell? ⟨g1, off1 + j * 7, none⟩ = some (.int .i64 (opAt ys j).k) := hc1 j _ hp 0 _ rfl
        have d1 : wr.cell? ⟨g1, off1 + j * 7 + 1, none⟩ = some (.int .i64 (opAt ys j).w) := hc1 j _ hp 1 _ rfl
        have d2 : wr.cell? ⟨g1, off1 + j * 7 + 2, none⟩ = some (.int .i64 (opAt ys j).a) := hc1 j _ hp 2 _ rfl
        have d3 : wr.cell? ⟨g1, off1 + j * 7 + 3, none⟩ = some (.int .i64 (opAt ys j).b) := hc1 j _ hp 3 _ rfl
        have d4 : wr.cell? ⟨g1, off1 + j * 7 + 4, none⟩ = some (.int .i64 (opAt ys j).c) := hc1 j _ hp 4 _ rfl
        have d5 : wr.cell? ⟨g1, off1 + j * 7 + 5, none⟩ = some (.int .u32 (opAt ys j).kn) := hc1 j _ hp 5 _ rfl
        have d6 : wr.cell? ⟨g1, off1 + j * 7 + 6, none⟩ = some (.int .i64 (opAt ys j).n) := hc1 j _ hp 6 _ rfl
        have hlt' : (j : Int) < (n : Int) := by omega
        have HLT := Lib.hid hlt
        cases hd : decide (opAt xs j ≠ opAt ys j) with
        | false =>
          have HA2 : Hid (∀ i, i < j + 1 → opAt xs i = opAt ys i) := Lib.hid fun i hi => by
            by_cases e : i = j
            · rw [e]; exact Decidable.not_not.1 (of_decide_eq_false hd)
            · exact HA.out i (by omega)
          rw [hd] at heq
          generalize opAt xs j = x at *
          generalize opAt ys j = y at *
          clear hc hc1 ho hp k0 k1 hd
          go_wp2
          go_quiet (fail)
          go_wp2
          go_roundg (n - (j + 1))
          case measure => have := HK.out; have := HLT.out; omega
          case rel => exact ⟨j + 1, rfl, HLT.out, by simp, HA2, Lib.hid ⟨hb.out.os, hb.out.tape, hb.out.output, hb.out.size, hb.out.block⟩⟩
        | true =>
          have HD := Lib.hid (of_decide_eq_true hd)
          have e : r = false := by rw [← HR.out]; exact decide_eq_false (list_ne HD.out)
          subst e
          rw [hd] at heq
          generalize opAt xs j = x at *
          generalize opAt ys j = y at *
          clear hc hc1 ho hp k0 k1 hd
          go_wp2
          go_quiet (fail)
          go_wp2
          go_ret
          exact ⟨rfl, ⟨hb.out.os, hb.out.tape, hb.out.output, hb.out.size, hb.out.block⟩⟩
      · obtain rfl : j = n := by omega
        have e : r = true := by rw [← HR.out]; exact decide_eq_true (list_eq (HX.out.trans HY.out.symm) fun i hi => HA.out i (by have := HX.out; omega))
        subst e
        go_wp2
        go_ret
        exact ⟨rfl, hb.out⟩
  · have e : r = false := by rw [← HR.out]; exact decide_eq_false fun e => hlen (by rw [e])
    subst e
    have hlen' : ¬ (xs.length : Int) = ys.length := by omega
    have hne : ((xs.length : Int) == ys.length) = false := by simp; omega
    clear HR
    go_enter Try.func73, Try.ntmps73
    go_wp2
    go_ret
    exact ⟨rfl, Below.refl _ _⟩
end Go.Proofs.Ytcjcmnnhmajocab.Ot
namespace Go.Proofs.Ytcjcmnnhmajocab.Ot
open Go.RowKit Kt Ic Me Ev
set_option linter.unusedVariables false
set_option linter.unusedSimpArgs false
variable {W W' : World}
/-- a block in a box -/
def QB (b : Nat) (pc cnt byt : Int) (v : Value) (W : World) : Prop := b < W.heap.size ∧ W.cell? ⟨b, 0, none⟩ = some (.int .u32 pc) ∧ W.cell? ⟨b, 1, none⟩ = some (.int .i64 cnt) ∧ W.cell? ⟨b, 2, none⟩ = some (.int .i64 byt) ∧ W.cell? ⟨b, 3, none⟩ = some v ∧ ∀ j, W.frozen? ⟨b, j, none⟩ = false
theorem QB.upto {b : Nat} {pc cnt byt : Int} {v : Value} {S : Nat → Prop} (h : QB b pc cnt byt v W) (u : Upto S W W') (hs : ¬ S b) : QB b pc cnt byt v W' := by
  obtain ⟨h1, h2, h3, h4, h5, h6⟩ := h
  have e : ∀ j, W'.cell? ⟨b, j, none⟩ = W.cell? ⟨b, j, none⟩ := fun j => u.cell (q := ⟨b, j, none⟩) h1 hs
  exact ⟨Nat.lt_of_lt_of_le h1 u.size, (e 0).trans h2, (e 1).trans h3, (e 2).trans h4, (e 3).trans h5, fun j => (u.frozen (q := ⟨b, j, none⟩) h1 hs).trans (h6 j)⟩
theorem QB.new (w : World) (pc cnt byt : Int) (v : Value) (t : TypeId) : QB w.heap.size pc cnt byt v (w.alloc (.cells #[.int .u32 pc, .int .i64 cnt, .int .i64 byt, v] t)) :=
  have e : ∀ j x, (#[.int .u32 pc, .int .i64 cnt, .int .i64 byt, v] : Array Value)[j]? = some x → (w.alloc (.cells #[.int .u32 pc, .int .i64 cnt, .int .i64 byt, v] t)).cell? ⟨w.heap.size, j, none⟩ = some x := fun j x h => (cell_of_row _ _ _ _ _ _ (heap_alloc_new w _)).trans h
  ⟨by simp, e 0 _ rfl, e 1 _ rfl, e 2 _ rfl, e 3 _ rfl, fun j => by simp⟩
theorem QB.set3 {b : Nat} {pc cnt byt : Int} {v v' : Value} (h : QB b pc cnt byt v W) : QB b pc cnt byt v' (W.setCell ⟨b, 3, none⟩ v') := by
  obtain ⟨h1, h2, h3, h4, h5, h6⟩ := h
  exact ⟨by simpa using h1, (HM.cell_other (by decide)).trans h2, (HM.cell_other (by decide)).trans h3, (HM.cell_other (by decide)).trans h4, World.cell?_setCell_same _ _ _ h5, fun j => by simpa using h6 j⟩
theorem QB.set4 {b : Nat} {x0 x1 x2 : Int} {x3 : Value} (pc cnt byt : Int) (v : Value) (h : QB b x0 x1 x2 x3 W) :
    QB b pc cnt byt v ((((W.setCell ⟨b, 0, none⟩ (.int .u32 pc)).setCell ⟨b, 1, none⟩ (.int .i64 cnt)).setCell ⟨b, 2, none⟩ (.int .i64 byt)).setCell ⟨b, 3, none⟩ v) := by
  obtain ⟨h1, h2, h3, h4, h5, h6⟩ := h
  refine ⟨by simpa using h1, ?_, ?_, ?_, ?_, fun j => by simpa using h6 j⟩
  · rw [HM.cell_other (by decide), HM.cell_other (by decide), HM.cell_other (by decide)]; exact World.cell?_setCell_same _ _ _ h2
  · rw [HM.cell_other (by decide), HM.cell_other (by decide)]; exact World.cell?_setCell_same _ _ _ ((HM.cell_other (by decide)).trans h3)
  · rw [HM.cell_other (by decide)]; exact World.cell?_setCell_same _ _ _ ((HM.cell_other (by decide)).trans ((HM.cell_other (by decide)).trans h4))
  · exact World.cell?_setCell_same _ _ _ ((HM.cell_other (by decide)).trans ((HM.cell_other (by decide)).trans ((HM.cell_other (by decide)).trans h5)))
theorem set4_upto {S : Nat → Prop} {b : Nat} (hb : S b) (v0 v1 v2 v3 : Value) : Upto S W ((((W.setCell ⟨b, 0, none⟩ v0).setCell ⟨b, 1, none⟩ v1).setCell ⟨b, 2, none⟩ v2).setCell ⟨b, 3, none⟩ v3) :=
  ((((Upto.refl S W).setCell (q := ⟨b, 0, none⟩) (.inl hb) _).setCell (q := ⟨b, 1, none⟩) (.inl hb) _).setCell (q := ⟨b, 2, none⟩) (.inl hb) _).setCell (q := ⟨b, 3, none⟩) (.inl hb) _
theorem OwnO.ops {B : Nat} {a : Option Addr} {c : Nat} {us : List Opr} (h : OwnO B (.slice a us.length c) us W) : Ops us a c W := by
  obtain ⟨a', c', e, op, _⟩ := h.form
  simp only [Value.slice.injEq] at e
  obtain ⟨rfl, _, rfl⟩ := e
  exact op
/-- how much is left to do -/
def wtO (o : Opr) : Nat := if o.k = 1 then 1 else if o.k = 17 then 3 else 2
def mz (l : List Opr) : Nat := (l.map wtO).sum
/-- so many times -/
def opN (os : List Opr) : Nat → List Opr
  | 0 => os
  | n + 1 => opt1 (opN os n)
/-- what each round keeps and asks -/
structure BOk (P : List Opr → Prop) : Prop where
  l : ∀ l, P l → l.length ≤ 2048
  f : ∀ l, P l → FH l
  f0 : ∀ l, P l → 0 < (fwd l).length
  f1 : ∀ l, P l → (fwd l).length ≤ 2048
  d : ∀ l, P l → DH (fwd l)
  p : ∀ l, P l → P (opt1 l)
  m : ∀ l, P l → opt1 l ≠ l → mz (opt1 l) < mz l
set_option maxRecDepth 100000 in
set_option maxHeartbeats 4000000 in
theorem block_ok (P : List Opr → Prop) (hP : BOk P) (os : List Opr) (ao : Option Addr) (cap : Nat) (pc cnt byt : Int) (w : World) (h : Ops os ao cap w) (hb : os.length * 56 ≤ 140737488355328) (hc : (chk os cnt byt).1 = 0) (hp : P os) :
    Calls Try.prog 27 #[.agg #[.int .u32 pc, .int .i64 cnt, .int .i64 byt, .slice ao os.length cap]] w fun e w' => ∃ l v, e = .returned (.agg #[.int .u32 pc, .int .i64 cnt, .int .i64 byt, v]) ∧ OwnO w.heap.size v l w' ∧ Below w.heap.size w w' ∧ P l ∧ opt1 l = l ∧ ∃ r, l = opN os r := by
  have CL : Hid (∀ w, Ops os ao cap w → Calls Try.prog 70 #[.slice ao os.length cap] w fun e w' => ∃ v, e = .returned v ∧ OwnO w.heap.size v os w' ∧ Below w.heap.size w w' ∧ (v = .slice none 0 0 ↔ ao = none)) := Lib.hid fun w h => clone_any os ao cap w h hb
  have CK : Hid (∀ w, Ops os ao cap w → Calls Try.prog 45 #[.agg #[.int .u32 pc, .int .i64 cnt, .int .i64 byt, .slice ao os.length cap]] w fun e w' => e = .returned (errs (chk os cnt byt)) ∧ Below w.heap.size w w') := Lib.hid fun w h => check_any os ao cap pc cnt byt w h
  unfold errs at CK
  generalize chk os cnt byt = ck at CK hc
  obtain ⟨ck1, ck2⟩ := ck
  dsimp only at hc CK
  subst hc
  have HO := Lib.hid h
  have HP := Lib.hid hp
  have HL0 := Lib.hid (show os.length ≤ 2048 from hP.l os hp)
  have HH := Lib.hid hP
  clear h hb hp hP
  go_enter Try.func27, Try.ntmps27
  go_upto_region 2 with fail
  have Q1 : Hid (QB w.heap.size pc cnt byt (.slice ao os.length cap) (((w.alloc (.cells #[.int .u32 pc, .int .i64 cnt, .int .i64 byt, .slice ao os.length cap] 25)).alloc (.cells #[.int .u32 0, .int .i64 0, .int .i64 0, .slice none 0 0] 25)).alloc (.cells #[.int .u32 pc, .int .i64 cnt, .int .i64 byt, .slice ao os.length cap] 25))) := Lib.hid ((QB.new w pc cnt byt _ 25).upto (((Upto.refl (fun _ => False) _).alloc _).alloc _) id)
  have Q2 : Hid (QB (w.heap.size + 1) 0 0 0 (.slice none 0 0) (((w.alloc (.cells #[.int .u32 pc, .int .i64 cnt, .int .i64 byt, .slice ao os.length cap] 25)).alloc (.cells #[.int .u32 0, .int .i64 0, .int .i64 0, .slice none 0 0] 25)).alloc (.cells #[.int .u32 pc, .int .i64 cnt, .int .i64 byt, .slice ao os.length cap] 25))) := Lib.hid (by
    have h := (QB.new (w.alloc (.cells #[.int .u32 pc, .int .i64 cnt, .int .i64 byt, .slice ao os.length cap] 25)) 0 0 0 (.slice none 0 0) 25).upto ((Upto.refl (fun _ => False) _).alloc (.cells #[.int .u32 pc, .int .i64 cnt, .int .i64 byt, .slice ao os.length cap] 25)) id
    rw [World.size_alloc] at h; exact h)
  have Q3 : Hid (QB (w.heap.size + 1 + 1) pc cnt byt (.slice ao os.length cap) (((w.alloc (.cells #[.int .u32 pc, .int .i64 cnt, .int .i64 byt, .slice ao os.length cap] 25)).alloc (.cells #[.int .u32 0, .int .i64 0, .int .i64 0, .slice none 0 0] 25)).alloc (.cells #[.int .u32 pc, .int .i64 cnt, .int .i64 byt, .slice ao os.length cap] 25))) := Lib.hid (by
    have h := QB.new ((w.alloc (.cells #[.int .u32 pc, .int .i64 cnt, .int .i64 byt, .slice ao os.length cap] 25)).alloc (.cells #[.int .u32 0, .int .i64 0, .int .i64 0, .slice none 0 0] 25)) pc cnt byt (.slice ao os.length cap) 25
    rw [World.size_alloc, World.size_alloc] at h; exact h)
  have B1 : Hid (Below w.heap.size w (((w.alloc (.cells #[.int .u32 pc, .int .i64 cnt, .int .i64 byt, .slice ao os.length cap] 25)).alloc (.cells #[.int .u32 0, .int .i64 0, .int .i64 0, .slice none 0 0] 25)).alloc (.cells #[.int .u32 pc, .int .i64 cnt, .int .i64 byt, .slice ao os.length cap] 25))) := Lib.hid ((((Below.refl _ w).alloc (Nat.le_refl _) _).alloc (by rw [World.size_alloc]; omega) _).alloc (by rw [World.size_alloc, World.size_alloc]; omega) _)
  have S1 : w.heap.size + 1 + 1 + 1 = ((((w.alloc (.cells #[.int .u32 pc, .int .i64 cnt, .int .i64 byt, .slice ao os.length cap] 25)).alloc (.cells #[.int .u32 0, .int .i64 0, .int .i64 0, .slice none 0 0] 25)).alloc (.cells #[.int .u32 pc, .int .i64 cnt, .int .i64 byt, .slice ao os.length cap] 25))).heap.size := by simp
  generalize (((w.alloc (.cells #[.int .u32 pc, .int .i64 cnt, .int .i64 byt, .slice ao os.length cap] 25)).alloc (.cells #[.int .u32 0, .int .i64 0, .int .i64 0, .slice none 0 0] 25)).alloc (.cells #[.int .u32 pc, .int .i64 cnt, .int .i64 byt, .slice ao os.length cap] 25)) = w1 at *
  obtain ⟨B, hB⟩ : ∃ B, w.heap.size = B := ⟨_, rfl⟩
  have HB := Lib.hid hB
  rw [hB] at Q1 Q2 Q3 B1 S1 ⊢
  clear hB
  obtain ⟨l1, a1, a2, a3, a4, a5⟩ := Q1.out
  obtain ⟨l2, r1, r2, r3, r4, r5⟩ := Q2.out
  obtain ⟨l3, o1, o2, o3, o4, o5⟩ := Q3.out
  go_upto_region 3 with (go_at_call 70; refine (CL.out _ (HO.out.keep (by rw [HB.out]; exact B1.out))).mono ?_; rintro e w2 ⟨v, rfl, ow, b2, _⟩; have M1 := Lib.hid (Q1.out.upto (Upto.of_below (S := fun _ => False) b2) id); have M2 := Lib.hid (Q2.out.upto (Upto.of_below (S := fun _ => False) b2) id); have M3 := Lib.hid (Q3.out.upto (Upto.of_below (S := fun _ => False) b2) id); obtain ⟨m1, c1, c2, c3, c4, c5⟩ := M1.out; obtain ⟨m2, d1, d2, d3, d4, d5⟩ := M2.out; obtain ⟨m3, e1, e2, e3, e4, e5⟩ := M3.out; have e6 := e5 3; obtain ⟨av, cv, hv, opv, _⟩ := ow.form; have OW := Lib.hid ow; clear ow; subst hv)
  have B2 : Hid (Below B w (w2.setCell ⟨B + 1 + 1, 3, none⟩ (.slice av os.length cv))) := Lib.hid ((B1.out.trans (b2.mono (by omega))).setCell (p := ⟨B + 1 + 1, 3, none⟩) (by show B ≤ B + 1 + 1; omega) _)
  have U2 : Upto (fun i => i = B + 1 + 1) w2 (w2.setCell ⟨B + 1 + 1, 3, none⟩ (.slice av os.length cv)) := (Upto.refl (fun i => i = B + 1 + 1) w2).setCell (q := ⟨B + 1 + 1, 3, none⟩) (.inl rfl) _
  have N1 := Lib.hid (M1.out.upto U2 (by show ¬ B = B + 1 + 1; omega))
  have N2 := Lib.hid (M2.out.upto U2 (by show ¬ B + 1 = B + 1 + 1; omega))
  have N3 := Lib.hid (M3.out.set3 (v' := .slice av os.length cv))
  have OW2 := Lib.hid (OW.out.upto U2 fun k hk e => by have := (OW.out.blk k hk).1; omega)
  have SS := U2.size
  have S2 : B + 1 + 1 + 1 ≤ w2.heap.size := by have := b2.size; omega
  clear M1 M2 M3 c1 c2 c3 c4 c5 d1 d2 d3 d4 d5 e1 e2 e3 e4 e5 e6 m1 m2 m3 OW U2
  generalize w2.setCell ⟨B + 1 + 1, 3, none⟩ (.slice av os.length cv) = w3 at *
  obtain ⟨m1, c1, c2, c3, c4, c5⟩ := N1.out
  obtain ⟨m2, d1, d2, d3, d4, d5⟩ := N2.out
  obtain ⟨m3, e1, e2, e3, e4, e5⟩ := N3.out
  go_wp2_with (go_at_call 45; refine (CK.out _ (HO.out.keep (by rw [HB.out]; exact B2.out))).mono ?_; rintro e w4 ⟨rfl, b4⟩; have M1 := Lib.hid (N1.out.upto (Upto.of_below (S := fun _ => False) b4) id); have M2 := Lib.hid (N2.out.upto (Upto.of_below (S := fun _ => False) b4) id); have M3 := Lib.hid (N3.out.upto (Upto.of_below (S := fun _ => False) b4) id); obtain ⟨x1, f1, f2, f3, f4, f5⟩ := M2.out; obtain ⟨x2, g1, g2, g3, g4, g5⟩ := M3.out)
  have OW3 := Lib.hid ((OW2.out.upto (Upto.of_below (S := fun _ => False) b4) fun _ _ => id).low (B' := B + 1 + 1 + 1) (by omega))
  have B4 := Lib.hid (B2.out.trans (b4.mono (by omega)))
  clear f1 f2 f3 f4 f5 g1 g2 g3 g4 g5 x1 x2 c1 c2 c3 c4 c5 d1 d2 d3 d4 d5 e1 e2 e3 e4 e5 m1 m2 m3 a1 a2 a3 a4 a5 r1 r2 r3 r4 r5 o1 o2 o3 o4 o5 l1 l2 l3 M1 N1 N2 N3 OW2 Q1 Q2 Q3 opv b2 b4 B1 B2 S1 S2 SS
  have R0 : Hid (∃ r, os = opN os r) := Lib.hid ⟨0, rfl⟩
  go_loopg [] (mz os) (fun n wr => ∃ l v, n = mz l ∧ Hid (P l) ∧ Hid (∃ r, l = opN os r) ∧ Hid (QB (B + 1) 0 0 0 (.slice none 0 0) wr) ∧ Hid (QB (B + 1 + 1) pc cnt byt v wr) ∧ Hid (OwnO (B + 1 + 1 + 1) v l wr) ∧ Hid (Below B w wr))
  case atStart => exact ⟨os, _, rfl, HP, R0, M2, M3, OW3, B4⟩
  case round =>
    obtain ⟨l, v, hn, PL, RL, QR, QO, OW, BL⟩ := hrel
    have HN := Lib.hid hn
    clear hn
    obtain ⟨av, cv, hv, opv, _⟩ := OW.out.form
    subst hv
    have OP := Lib.hid opv
    have FW : Hid (∀ w, Ops l av cv w → Calls Try.prog 72 #[.slice av l.length cv] w fun e w' => ∃ v, e = .returned v ∧ OwnO w.heap.size v (fwd l) w' ∧ Below w.heap.size w w') := Lib.hid fun w h => forward_any l av cv w h (HH.out.l l PL.out) (HH.out.f l PL.out)
    have DE : Hid (∀ ao cap w, Ops (fwd l) ao cap w → Calls Try.prog 71 #[.slice ao (fwd l).length cap] w fun e w' => ∃ v, e = .returned v ∧ OwnO w.heap.size v (opt1 l) w' ∧ Below w.heap.size w w') := Lib.hid fun ao cap w h => dead_any (fwd l) ao cap w h (HH.out.f1 l PL.out) (HH.out.f0 l PL.out) (HH.out.d l PL.out)
    have EQ : Hid (∀ ax cx w, Ops (opt1 l) ax cx w → Ops l av cv w → Calls Try.prog 73 #[.slice ax (opt1 l).length cx, .slice av l.length cv] w fun e w' => e = .returned (.bool (decide (opt1 l = l))) ∧ Below w.heap.size w w') := Lib.hid fun ax cx w h h1 => equal_any (opt1 l) l ax av cx cv w h h1
    have hMZ : Hid (opt1 l ≠ l → mz (opt1 l) < mz l) := Lib.hid (HH.out.m l PL.out)
    have P2 : Hid (P (opt1 l)) := Lib.hid (HH.out.p l PL.out)
    have R2 : Hid (∃ r, opt1 l = opN os r) := Lib.hid (by obtain ⟨r, hr⟩ := RL.out; exact ⟨r + 1, by rw [hr]; rfl⟩)
    obtain ⟨o0, o1, o2, o3, o4, o5⟩ := QO.out
    clear o5
    clear opv
    go_upto_region 7 with fail
    have u1 := (Upto.refl (fun _ => False) wr).alloc (.cells #[.int .u32 pc, .int .i64 cnt, .int .i64 byt, .slice av l.length cv] 25)
    have QN : Hid (QB wr.heap.size pc cnt byt (.slice av l.length cv) (wr.alloc (.cells #[.int .u32 pc, .int .i64 cnt, .int .i64 byt, .slice av l.length cv] 25))) := Lib.hid (QB.new wr pc cnt byt _ 25)
    have QO1 := Lib.hid (QO.out.upto u1 id)
    have QR1 := Lib.hid (QR.out.upto u1 id)
    have OW1 := Lib.hid (OW.out.upto u1 fun _ _ => id)
    have OP1 := Lib.hid (OP.out.keep ((Below.refl _ wr).alloc (Nat.le_refl _) (.cells #[.int .u32 pc, .int .i64 cnt, .int .i64 byt, .slice av l.length cv] 25)))
    have SN : B + 1 + 1 < wr.heap.size := o0
    have BN : Hid (Below B w (wr.alloc (.cells #[.int .u32 pc, .int .i64 cnt, .int .i64 byt, .slice av l.length cv] 25))) := Lib.hid (BL.out.alloc (by omega) _)
    clear u1 o0 o1 o2 o3 o4
    have sN : wr.heap.size < (wr.alloc (.cells #[.int .u32 pc, .int .i64 cnt, .int .i64 byt, .slice av l.length cv] 25)).heap.size := by simp
    generalize (wr.alloc (.cells #[.int .u32 pc, .int .i64 cnt, .int .i64 byt, .slice av l.length cv] 25)) = wn at *
    obtain ⟨N, hNN⟩ : ∃ N, wr.heap.size = N := ⟨_, rfl⟩
    rw [hNN] at QN SN sN ⊢
    have HNN := Lib.hid hNN
    clear hNN
    obtain ⟨n0, n1, n2, n3, n4, n5⟩ := QN.out
    obtain ⟨o0, o1, o2, o3, o4, o5⟩ := QO1.out
    clear o5 n5
    go_upto_region 8 with (first
      | (go_at_call 72; refine (FW.out _ OP1.out).mono ?_; rintro e w2 ⟨vf, rfl, owf, bf⟩; obtain ⟨af, cf, hf, opf, _⟩ := owf.form; have OF := Lib.hid opf; clear opf owf; subst hf)
      | (go_at_call 71; refine (DE.out _ _ _ OF.out).mono ?_; rintro e w3 ⟨vd, rfl, owd, bd⟩; obtain ⟨ad, cd, hd, opd, _⟩ := owd.form; have OD := Lib.hid opd; have OWD := Lib.hid owd; clear opd owd; subst hd; have u3 := (Upto.of_below (S := fun _ => False) bf).trans (Upto.of_below (S := fun _ => False) bd); have QN3 := Lib.hid (QN.out.upto u3 id); obtain ⟨p0, p1, p2, p3, p4, p5⟩ := QN3.out; have p6 := p5 3; clear p5))
    have us : Upto (fun i => i = N) w3 (w3.setCell ⟨N, 3, none⟩ (.slice ad (opt1 l).length cd)) := (Upto.refl (fun i => i = N) w3).setCell (q := ⟨N, 3, none⟩) (.inl rfl) _
    have QN4 := Lib.hid (QN3.out.set3 (v' := .slice ad (opt1 l).length cd))
    have QO4 := Lib.hid ((QO1.out.upto u3 id).upto us (by show ¬ B + 1 + 1 = N; omega))
    have QR4 := Lib.hid ((QR1.out.upto u3 id).upto us (by show ¬ B + 1 = N; omega))
    have OW4 := Lib.hid ((OW1.out.upto u3 fun _ _ => id).upto us fun k hk e => by have h1 := (OW.out.blk k hk).2; have h2 : k = N := e; have := HNN.out; omega)
    have OWD4 := Lib.hid ((OWD.out.upto us fun k hk e => by have h1 := (OWD.out.blk k hk).1; have h2 : k = N := e; have := bf.size; omega).low (B' := B + 1 + 1 + 1) (by have := bf.size; omega))
    have BD := Lib.hid ((BN.out.trans ((bf.mono (by omega)).trans (bd.mono (by have := bf.size; omega)))).trans (us.below (by have := bf.size; have := bd.size; omega) fun i hi e => by have h2 : i = N := e; omega))
    have OP4 := Lib.hid OW4.out.ops
    have OD4 := Lib.hid OWD4.out.ops
    have s4 : B + 1 + 1 + 1 ≤ (w3.setCell ⟨N, 3, none⟩ (.slice ad (opt1 l).length cd)).heap.size := by have := bf.size; have := bd.size; have := us.size; omega
    clear n0 n1 n2 n3 n4 o0 o1 o2 o3 o4 p0 p1 p2 p3 p4 p6 us u3 bf bd FW DE
    generalize (w3.setCell ⟨N, 3, none⟩ (.slice ad (opt1 l).length cd)) = w4 at *
    obtain ⟨n0, n1, n2, n3, n4, n5⟩ := QN4.out
    obtain ⟨o0, o1, o2, o3, o4, o5⟩ := QO4.out
    clear n5 o5
    obtain ⟨dd, hdd⟩ : ∃ dd, decide (opt1 l = l) = dd := ⟨_, rfl⟩
    rw [hdd] at EQ
    cases dd with
    | true =>
      have HF := Lib.hid (of_decide_eq_true hdd)
      clear hdd
      go_wp2_with (go_at_call 73; refine (EQ.out _ _ _ OD4.out OP4.out).mono ?_; rintro e w5 ⟨rfl, b5⟩; have QR5 := Lib.hid (QR4.out.upto (Upto.of_below (S := fun _ => False) b5) id); have QO5 := Lib.hid (QO4.out.upto (Upto.of_below (S := fun _ => False) b5) id); obtain ⟨g0, g1, g2, g3, g4, g5⟩ := QR5.out; obtain ⟨f0, f1, f2, f3, f4, f5⟩ := QO5.out)
      have R6 := QR5.out.set4 pc cnt byt (.slice av l.length cv)
      have U6 : Upto (fun i => i = B + 1) w5 ((((w5.setCell ⟨B + 1, 0, none⟩ (.int .u32 pc)).setCell ⟨B + 1, 1, none⟩ (.int .i64 cnt)).setCell ⟨B + 1, 2, none⟩ (.int .i64 byt)).setCell ⟨B + 1, 3, none⟩ (.slice av l.length cv)) := set4_upto (S := fun i => i = B + 1) rfl _ _ _ _
      generalize ((((w5.setCell ⟨B + 1, 0, none⟩ (.int .u32 pc)).setCell ⟨B + 1, 1, none⟩ (.int .i64 cnt)).setCell ⟨B + 1, 2, none⟩ (.int .i64 byt)).setCell ⟨B + 1, 3, none⟩ (.slice av l.length cv)) = w6 at *
      obtain ⟨y1, z0, z1, z2, z3, z4⟩ := R6
      have OW5 := OW4.out.upto (Upto.of_below (S := fun _ => False) b5) fun _ _ => id
      refine bodyPost_ret (v := .agg #[.int .u32 pc, .int .i64 cnt, .int .i64 byt, .slice av l.length cv]) (by simp [results, Try.results27, go_sem, z0, z1, z2, z3]) rfl ⟨l, _, rfl, ?_, ?_, PL.out, HF.out, RL.out⟩
      · rw [HB.out]
        exact (OW5.upto U6 fun k hk e => by have := (OW5.blk k hk).1; have h2 : k = B + 1 := e; omega).low (by omega)
      · rw [HB.out]
        exact BD.out.trans ((b5.mono (by omega)).trans (U6.below (by omega) fun i hi e => by have h2 : i = B + 1 := e; omega))
    | false =>
      have HF := Lib.hid (hMZ.out (of_decide_eq_false hdd))
      clear hdd
      go_wp2_with (go_at_call 73; refine (EQ.out _ _ _ OD4.out OP4.out).mono ?_; rintro e w5 ⟨rfl, b5⟩; have QN5 := Lib.hid (QN4.out.upto (Upto.of_below (S := fun _ => False) b5) id); have QO5 := Lib.hid (QO4.out.upto (Upto.of_below (S := fun _ => False) b5) id); obtain ⟨g0, g1, g2, g3, g4, g5⟩ := QN5.out; obtain ⟨f0, f1, f2, f3, f4, f5⟩ := QO5.out)
      have R6 := Lib.hid (QO5.out.set4 pc cnt byt (.slice ad (opt1 l).length cd))
      have U6 : Upto (fun i => i = B + 1 + 1) w5 ((((w5.setCell ⟨B + 1 + 1, 0, none⟩ (.int .u32 pc)).setCell ⟨B + 1 + 1, 1, none⟩ (.int .i64 cnt)).setCell ⟨B + 1 + 1, 2, none⟩ (.int .i64 byt)).setCell ⟨B + 1 + 1, 3, none⟩ (.slice ad (opt1 l).length cd)) := set4_upto (S := fun i => i = B + 1 + 1) rfl _ _ _ _
      have QR6 := Lib.hid ((QR4.out.upto (Upto.of_below (S := fun _ => False) b5) id).upto U6 (by show ¬ B + 1 = B + 1 + 1; omega))
      have OW5 := OWD4.out.upto (Upto.of_below (S := fun _ => False) b5) fun _ _ => id
      have OW6 := Lib.hid (OW5.upto U6 fun k hk e => by have := (OW5.blk k hk).1; have h2 : k = B + 1 + 1 := e; omega)
      have B6 := Lib.hid (BD.out.trans ((b5.mono (by omega)).trans (U6.below (by omega) fun i hi e => by have h2 : i = B + 1 + 1 := e; omega)))
      clear U6 OW5 f0 f1 f2 f3 f4 f5 g0 g1 g2 g3 g4 g5
      go_roundg (mz (opt1 l))
      case measure => have := HN.out; have := HF.out; omega
      case rel => exact ⟨opt1 l, _, rfl, P2, R2, QR6, R6, OW6, B6⟩
end Go.Proofs.Ytcjcmnnhmajocab.Ot
