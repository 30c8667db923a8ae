/- Proved: LiftShapes returns true for every input and leaves all memory as it was. No condition. -/
import Derived.Deep.Fields
import Derived.Test.YtcjcmnnhmajocabGreatRows
import Derived.ShutString
import Derived.Test.YtcjcmnnhmajocabGreatPlbx
set_option linter.unusedVariables false
set_option linter.unusedSimpArgs false
set_option maxRecDepth 100000
set_option maxHeartbeats 16000000
namespace Go.Proofs.YtcjcmnnhmajocabGreat.Kt
open Go
variable {P : Program} {w : World} {r : Reach} {base : Nat} {t : TypeId} {v : Value}
theorem value_int {k : IntKind} (hu : P.underlying t = some (.int k)) (h : Value.okWide P w r base t v) : ∃ n, v = .int k n ∧ (Lit.int k n).wf = true := by
 simp only [Value.okWide, Cell.okWide, hu] at h
 cases v <;> simp_all [Cell.ok, Lit.wf, IntKind.has]
end Go.Proofs.YtcjcmnnhmajocabGreat.Kt
namespace Go.Proofs.YtcjcmnnhmajocabGreat.Ev
open Go.RowKit Go.ChangeShapes Go.WideShapes Go.Deep Me
theorem list_of {α : Type} {p : Nat → α → Prop} : ∀ n, (∀ i, i < n → ∃ o, p i o) → ∃ os : List α, os.length = n ∧ ∀ i o, os[i]? = some o → p i o
 | 0, _ => ⟨[], rfl, fun i o h => by simp at h⟩
 | n + 1, h => by
  obtain ⟨os, hl, hp⟩ := list_of n (fun i hi => h i (by omega))
  obtain ⟨o, ho⟩ := h n (by omega)
  refine ⟨os ++ [o], by simp [hl], fun i x hx => ?_⟩
  by_cases hi : i < n
  ·rw [List.getElem?_append_left (by omega)] at hx
   exact hp i x hx
  ·have hin : i < (os ++ [o]).length := (List.getElem?_eq_some_iff.1 hx).1
   obtain rfl : i = n := by simp [hl] at hin; omega
   rw [List.getElem?_append_right (by omega), hl, Nat.sub_self] at hx
   obtain rfl : o = x := by simpa using hx
   exact ho
theorem get_rg (zs : List Int) (h : ∀ n ∈ zs, (Lit.int .u8 n).wf = true) (j : Nat) : 0 ≤ zs.getD j 0 ∧ zs.getD j 0 < 256 := by
 rw [List.getD_eq_getElem?_getD]
 cases hz : zs[j]? with
 | none => simp
 | some z => exact Kt.bd_u8 (h z (List.mem_of_getElem? hz))
theorem get_tk (zs : List Int) (n j : Nat) (h : j < n) : (zs.take n).getD j 0 = zs.getD j 0 := by
 rw [List.getD_eq_getElem?_getD, List.getD_eq_getElem?_getD, List.getElem?_take, if_pos h]
theorem cells_u8 : Tryz.prog.cellsOf 5 = 1 := by kernel_rfl
section
variable {H : Type} {enc : TypeId × Value → H} {w : World} {base : Nat} {held : Bool}
/-- bytes that came in -/
theorem open_bytes {fuel : Nat} {c : Value} {x : DataW H × List MemPlace} (h : DataW.trod enc Tryz.prog w base (fun _ => true) held fuel 34 [c] = some x) :
  ∃ (us : List Int) (ao : Option Addr) (cap : Nat), c = .slice ao us.length cap ∧ Gu.Bs us ao cap w ∧ ∀ j, 0 ≤ us.getD j 0 ∧ us.getD j 0 < 256 := by
 rcases open_ints Tryz.underlying34 Tryz.underlying5 cells_u8 h with ⟨hcs, hx⟩ | ⟨a, len, cap, zs, hcs, _, hl, hm, hz, hx, hcell, hwz⟩
 ·simp only [List.cons.injEq, and_true] at hcs
  subst hcs
  exact ⟨[], none, 0, rfl, ⟨Nat.le_refl _, by unfold maxLen; omega, fun h => absurd h (by simp)⟩, by simp⟩
 ·simp only [List.cons.injEq, and_true] at hcs
  subst hcs
  simp only [if_true] at hz
  have hlen : (zs.take len).length = len := by rw [List.length_take]; omega
  refine ⟨zs.take len, some a, cap, by rw [hlen], ⟨by omega, hm, fun h => ?_⟩, get_rg _ (fun n hn => hwz n (List.mem_of_mem_take hn))⟩
  rw [hlen] at h
  have hc0 := hcell 0 (by omega)
  obtain ⟨b, off, spot⟩ := a
  have hspot : spot = none := by simpa [Addr.add] using World.cell?_spot hc0
  subst hspot
  have hbW : b < w.heap.size := World.block_lt_of_cell? w _ hc0
  refine ⟨b, off, rfl, hbW, fun j hj => ?_⟩
  rw [hlen] at hj
  rw [← Addr.add_lit, hcell j (by omega), get_tk _ _ _ hj]
theorem open_part {fuel : Nat} {a : Addr} {i : Nat} {x : DataW H × List MemPlace} {cs : List Value} (hc : w.cells? base (a.add (i * 3)) 3 = some cs) (h : DataW.trod enc Tryz.prog w base (fun _ => true) held fuel 101 cs = some x) :
  ∃ s : Prt, PrtOk s w ∧ ∀ (j : Nat) v, s.cells[j]? = some v → w.cell? (a.add (i * 3 + j)) = some v := by
 obtain ⟨ys, n', hn', hy, hlen, hyl, hf⟩ := DataW.trod_struct Tryz.underlying101 h
 obtain ⟨_, hcl, hat⟩ := World.cells?_some hc
 have s1 : Tryz.prog.cellsOf 3 = 1 := by kernel_rfl
 have s4 : Tryz.prog.cellsOf 34 = 1 := by kernel_rfl
 match cs, hcl, ys, hyl with
 | [c0, c1, c2], _, [y0, y1, y2], _ =>
  have k0 : DataW.trod enc Tryz.prog w base (fun _ => true) held n' 3 [c0] = some y0 := by simpa [s1, s4] using hf 0 _ rfl
  obtain ⟨v0, e0, _, w0⟩ := DataW.trod_int Tryz.underlying3 k0
  simp only [List.cons.injEq, and_true] at e0
  subst e0
  have k1 : DataW.trod enc Tryz.prog w base (fun _ => true) held n' 34 [c1] = some y1 := by simpa [s1, s4] using hf 1 _ rfl
  obtain ⟨us, ao, cap, e1, hB, hG⟩ := open_bytes k1
  subst e1
  have k2 : DataW.trod enc Tryz.prog w base (fun _ => true) held n' 3 [c2] = some y2 := by simpa [s1, s4] using hf 2 _ rfl
  obtain ⟨v2, e2, _, w2⟩ := DataW.trod_int Tryz.underlying3 k2
  simp only [List.cons.injEq, and_true] at e2
  subst e2
  have b0 := Kt.bd_i64 w0
  refine ⟨⟨v0, us, ao, cap, v2⟩, ⟨b0.1, b0.2, hB, hG⟩, fun j v hj => ?_⟩
  have hj3 : j < 3 := by
   have := (Array.getElem?_eq_some_iff.1 hj).1
   simpa [Prt.cells] using this
  have := hat j hj3
  rw [Go.Deep.add_add] at this
  rw [this, ← hj]
  simp [Prt.cells]
theorem open_parts {fuel : Nat} {c : Value} {x : DataW H × List MemPlace} (h : DataW.trod enc Tryz.prog w base (fun _ => true) held fuel 42 [c] = some x) :
  ∃ (ss : List Prt) (ao : Option Addr) (cap : Nat), c = .slice ao ss.length cap ∧ Prts ss ao cap w := by
 have hC : Tryz.prog.cellsOf 101 = 3 := by kernel_rfl
 rcases open_slice Tryz.underlying42 h with ⟨e3, hx⟩ | ⟨a, len, cap, m, n', D, Pl, e3, _, hl, hm, hmm, hx, hi⟩
 ·simp only [List.cons.injEq, and_true] at e3
  subst e3
  exact ⟨[], none, 0, rfl, ⟨Nat.le_refl _, by unfold maxLen; omega, fun o ho => (nomatch ho), fun h => absurd h (by simp)⟩⟩
 ·simp only [List.cons.injEq, and_true] at e3
  subst e3
  simp only [if_true] at hmm
  subst hmm
  obtain ⟨ss, hss, hp⟩ := list_of (p := fun i s => PrtOk s w ∧ ∀ (j : Nat) v, s.cells[j]? = some v → w.cell? (a.add (i * 3 + j)) = some v) len (fun i hlt => by
   obtain ⟨cs', hc, ht⟩ := hi i (by omega)
   rw [hC] at hc
   exact open_part hc ht)
  subst hss
  refine ⟨ss, some a, m, rfl, ⟨hl, hm, fun s hs => ?_, fun h0 => ?_⟩⟩
  ·obtain ⟨i, hi'⟩ := List.mem_iff_getElem?.1 hs
   exact (hp i s hi').1
  ·obtain ⟨b, off, spot⟩ := a
   obtain ⟨s, hs⟩ : ∃ s, ss[0]? = some s := ⟨ss[0], List.getElem?_eq_getElem h0⟩
   have hc0 := (hp 0 s hs).2 0 (.int .i64 s.at_) rfl
   have hspot : spot = none := by simpa [Addr.add] using World.cell?_spot hc0
   subst hspot
   have hbW : b < w.heap.size := World.block_lt_of_cell? w _ hc0
   refine ⟨b, off, rfl, hbW, fun i s hs j v hj => ?_⟩
   rw [Nat.add_assoc, ← Addr.add_lit]
   exact (hp i s hs).2 j v hj
end
section
variable {H : Type} {enc : TypeId × Value → H} {w : World} {base : Nat} {held : Bool}
end
end Go.Proofs.YtcjcmnnhmajocabGreat.Ev
namespace Go.Proofs.YtcjcmnnhmajocabGreat.liftShapes
open Go.ChangeShapes Go.WideShapes Go.ChangeAt Go.RowKit
theorem own : ownKnob Tryz.prog.godebug = none := by kernel_rfl
theorem laidOut : laidOutB Tryz.prog = true := by kernel_rfl
theorem lifted (os : Os) (started : os.Started) (H : Type) (enc : TypeId × Value → H) :
  ReturnsInHanded {} Tryz.checked os 5 .any (Rows.liftShapesSpec.pre6 enc Tryz.prog Tryz.f5 Rows.liftShapesRow.domain false) (Rows.liftShapesSpec.post enc Tryz.prog Tryz.f5 false true false false) := by
 refine returnsInHanded_of_change (C := Tryz.checked) own started (by kernel_rfl) Tryz.func5
  (ChangeSpec.witness6 (enc := enc) (C := Tryz.checked) false ⟨#[], #[.slice none 0 0, .int .u32 0, .int .i64 0], []⟩ 8 (by kernel_rfl) (by kernel_rfl) (by kernel_rfl) (by kernel_rfl)) ?_
 intro W base args ds gs before hval0 hW hcnd _
 have hval : ∀ (j : Nat) t v, Tryz.f5.params[j]? = some t → args[j]? = some v → Value.okWide Tryz.prog W .any base t v := hval0
 have hW' := hW
 obtain ⟨p, q, hA0, hV, rfl, hfz, hnd⟩ := hW
 have hA : DataW.TrodAll enc Tryz.prog W 0 (fun _ => true) true Tryz.f5.params.toList args.toList ds p := hA0
 rw [Tryz.params5] at hA hval
 obtain ⟨v0, vs0, d0, ds0, p0, q0, hargs, rfl, rfl, h0, r0⟩ := trodAll_cons hA
 obtain ⟨v1, vs1, d1, ds1, p1, q1, rfl, rfl, rfl, h1, r1⟩ := trodAll_cons r0
 obtain ⟨v2, vs2, d2, ds2, p2, q2, rfl, rfl, rfl, h2, r2⟩ := trodAll_cons r1
 obtain ⟨rfl, rfl, rfl⟩ := trodAll_nil r2
 obtain rfl : args = #[v0, v1, v2] := by cases args; simp_all
 obtain ⟨rfl, rfl⟩ := trodVars_none hV
 have k0 := h0
 have lt0 : ∀ x ∈ p0, x.block < W.heap.size := by obtain ⟨m, hm⟩ := k0; exact DataW.trod_lt m _ _ _ hm
 have k1 := h1
 have lt1 : ∀ x ∈ p1, x.block < W.heap.size := by obtain ⟨m, hm⟩ := k1; exact DataW.trod_lt m _ _ _ hm
 have k2 := h2
 have lt2 : ∀ x ∈ p2, x.block < W.heap.size := by obtain ⟨m, hm⟩ := k2; exact DataW.trod_lt m _ _ _ hm
 obtain ⟨a0, l0, c0, rfl⟩ := okWide_slice Tryz.underlying42 (hval 0 42 v0 rfl rfl)
 obtain ⟨a1, rfl, w1⟩ : ∃ n, v1 = .int .u32 n ∧ (Lit.int .u32 n).wf = true := Kt.value_int Tryz.underlying29 (hval 1 29 v1 rfl rfl)
 obtain ⟨a2, rfl, w2⟩ : ∃ n, v2 = .int .i64 n ∧ (Lit.int .i64 n).wf = true := Kt.value_int Tryz.underlying3 (hval 2 3 v2 rfl rfl)
 clear hA0 hval0
 have g0 := h0
 obtain ⟨fuel0, hf0⟩ := g0
 obtain ⟨ps0, ao0, cap0, e0, hS0⟩ := Ev.open_parts hf0
 simp only [Value.slice.injEq] at e0
 obtain ⟨rfl, rfl, rfl⟩ := e0
 refine (Lf.liftshapes_walk ps0 _ _ a1 a2 W hS0 (Kt.bd_u32 w1).1 (Kt.bd_u32 w1).2).mono fun e W' ⟨he, bel⟩ => ?_
 subst he
 exact ⟨_, rfl, _, _, _, [], _, [], hW', trodAll_mk1 (shut_bool Tryz.underlying4 _), (trodAll_cons_mk (Below.trod laidOut (by kernel_rfl) (of_decide_eq_true (by kernel_rfl)) k0 bel lt0) (trodAll_cons_mk (Below.trod laidOut (by kernel_rfl) (of_decide_eq_true (by kernel_rfl)) k1 bel lt1) (trodAll_cons_mk (Below.trod laidOut (by kernel_rfl) (of_decide_eq_true (by kernel_rfl)) k2 bel lt2) trodAll_mk0))), rfl, bel.frame _, fun h => by cases h⟩
theorem over : Rows.liftShapesRow.holds Tryz.pinned (OpenSpec.ofChange Rows.liftShapesSpec) :=
 OpenClaim.holds_of_wide 5 Tryz.f5 rfl rfl rfl rfl rfl rfl rfl ⟨rfl, rfl, rfl, rfl, rfl⟩ rfl rfl rfl rfl rfl (by kernel_rfl) Tryz.func5 (by kernel_rfl)
  (of_decide_eq_true (by kernel_rfl)) (by unfold Func.isWrapper; first | (rw [if_pos (by decide +kernel)]; kernel_rfl) | (rw [if_neg (by decide +kernel)]; exact ⟨rfl, rfl⟩))
  (fun os started H enc _ => lifted os started H enc)
theorem proved : Rows.LiftShapesSaid := over
#print axioms proved
end Go.Proofs.YtcjcmnnhmajocabGreat.liftShapes
