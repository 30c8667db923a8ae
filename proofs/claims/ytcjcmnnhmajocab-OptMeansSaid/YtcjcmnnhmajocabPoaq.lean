/- opt: forward. -/
import Derived.Laws.MakeOwn
import Derived.Test.YtcjcmnnhmajocabPoal
import Derived.Test.YtcjcmnnhmajocabPoap
namespace Go.Proofs.Ytcjcmnnhmajocab.Ot
open Go.RowKit Kt Ic Me Ev
set_option linter.unusedVariables false
set_option linter.unusedSimpArgs false
variable {K : Wc} {s : Wk} {W W' : World}
theorem i64i : ∃ i, Try.prog.info? 3 = some i ∧ i.zero = some (.int .i64 0) ∧ i.size = 1 ∧ i.bytes = 8 := by
  have h : (Try.prog.info? 3).map (fun i => (i.zero, i.size, i.bytes)) = some (some (.int .i64 0), 1, 8) := by kernel_rfl
  obtain ⟨i, hi, hz⟩ := Option.map_eq_some_iff.1 h
  simp only [Prod.mk.injEq] at hz
  exact ⟨i, hi, hz.1, hz.2.1, hz.2.2⟩
theorem made1 (z : Value) (n t : Nat) (ht : t < n) : (madeCells #[z] n)[t]? = some z := by
  unfold madeCells
  rw [Array.getElem?_map, Array.getElem?_range, if_pos (by omega)]
  show some ((#[z] : Array Value)[t % 1]!) = _
  rw [Nat.mod_one]; rfl
theorem OwnO.low {B B' : Nat} {v : Value} {us : List Opr} (h : OwnO B v us W) (hb : B' ≤ B) : OwnO B' v us W := by
  obtain ⟨h1, h⟩ := h
  refine ⟨h1, ?_⟩
  rcases h with h | ⟨g, cap, cur, e1, e2, e3, e4⟩
  · exact .inl h
  · exact .inr ⟨g, cap, cur, e1, Nat.le_trans hb e2, e3, e4⟩
/-- the walk's places, where forward lays them -/
def kF (B n : Nat) : Wc := ⟨B + 1 + 1, B, n, .map (some (B + 1)), B + 1, B + 1 + 1 + 1⟩
/-- so many slots are told -/
def sQ (q : Nat) : Wk := ⟨[], fun _ => 0, fun j => if j < q then -1 else 0, -1⟩
theorem made_WW (w : World) (n : Nat) (t1 t2 : TypeId) (W : World) (hW : W = ((w.alloc (.cells (madeCells #[.int .i64 0] n) t1)).alloc (.map #[] 0)).alloc (.cells #[.slice none 0 0, .slice (some ⟨w.heap.size, 0, none⟩) n n, .int .i64 0, .int .i64 0, .int .i64 0, .int .i64 0, .int .i64 0, .int .i64 0, .int .i64 0, .int .i64 0, .int .i64 0, .int .i64 0, .int .i64 0, .int .i64 0, .map (some (w.heap.size + 1)), .int .i64 (-1)] t2)) :
    WW (kF w.heap.size n) (sQ 0) W := by
  have s1 : (w.alloc (.cells (madeCells #[.int .i64 0] n) t1)).heap.size = w.heap.size + 1 := by simp
  have s2 : ((w.alloc (.cells (madeCells #[.int .i64 0] n) t1)).alloc (.map #[] 0)).heap.size = w.heap.size + 1 + 1 := by simp
  have s3 : W.heap.size = w.heap.size + 1 + 1 + 1 := by rw [hW]; simp
  have hh : ∀ j, W.cell? ⟨w.heap.size + 1 + 1, j, none⟩ = (#[Value.slice none 0 0, .slice (some ⟨w.heap.size, 0, none⟩) n n, .int .i64 0, .int .i64 0, .int .i64 0, .int .i64 0, .int .i64 0, .int .i64 0, .int .i64 0, .int .i64 0, .int .i64 0, .int .i64 0, .int .i64 0, .int .i64 0, .map (some (w.heap.size + 1)), .int .i64 (-1)] : Array Value)[j]? := fun j => by
    rw [← s2, hW]; exact cell_of_row _ _ _ _ _ _ (heap_alloc_new _ _)
  have u1 : Upto (fun _ => False) (w.alloc (.cells (madeCells #[.int .i64 0] n) t1)) W := by rw [hW]; exact ((Upto.refl _ _).alloc _).alloc _
  have u2 : Upto (fun _ => False) ((w.alloc (.cells (madeCells #[.int .i64 0] n) t1)).alloc (.map #[] 0)) W := by rw [hW]; exact (Upto.refl _ _).alloc _
  have hz : ∀ (V : World) (C : Array Value) (t : TypeId) (j : Nat), (V.alloc (.cells C t)).frozen? ⟨V.heap.size, j, none⟩ = false := fun V C t j => by simp
  have ht : ∀ j, W.cell? ⟨w.heap.size, j, none⟩ = (madeCells #[.int .i64 0] n)[j]? := fun j => by
    rw [u1.cell (q := ⟨w.heap.size, j, none⟩) (by rw [s1]; show w.heap.size < _; omega) id]; exact cell_of_row _ _ _ _ _ _ (heap_alloc_new _ _)
  refine ⟨⟨⟨.slice none 0 0, (hh 0).trans rfl, World.ownsRow_nil _ _ _ _⟩, (hh 1).trans rfl, fun j hj => ?_, (hh 14).trans rfl, (hh 15).trans rfl, fun t ht' => (ht t).trans (made1 _ n t ht'), fun j => ?_, fun j => ?_, ?_, ?_, ?_, ?_⟩, ?_, rfl, ?_, ?_, ?_⟩
  · refine (hh (2 + j)).trans ?_
    show _ = some (Value.int .i64 (if j < 0 then -1 else 0))
    rw [if_neg (by omega)]
    rcases (show j = 0 ∨ j = 1 ∨ j = 2 ∨ j = 3 ∨ j = 4 ∨ j = 5 ∨ j = 6 ∨ j = 7 ∨ j = 8 ∨ j = 9 ∨ j = 10 ∨ j = 11 by omega) with rfl | rfl | rfl | rfl | rfl | rfl | rfl | rfl | rfl | rfl | rfl | rfl <;> rfl
  · show W.frozen? ⟨w.heap.size + 1 + 1, j, none⟩ = false
    rw [← s2, hW]; exact hz _ _ _ _
  · show W.frozen? ⟨w.heap.size, j, none⟩ = false
    rw [u1.frozen (q := ⟨w.heap.size, j, none⟩) (by rw [s1]; show w.heap.size < _; omega) id]; exact hz _ _ _ _
  · show w.heap.size + 1 + 1 < w.heap.size + 1 + 1 + 1; omega
  · show w.heap.size < w.heap.size + 1 + 1 + 1; omega
  · show w.heap.size + 1 + 1 ≠ w.heap.size; omega
  · show w.heap.size + 1 + 1 + 1 ≤ W.heap.size; omega
  · have h := World.ownsMap_made (H := Unit) (w.alloc (.cells (madeCells #[.int .i64 0] n) t1)) Try.prog 31 (plainElem Try.prog 3)
    rw [s1] at h
    exact (MO.new h).upto u2 id
  · show w.heap.size + 1 < w.heap.size + 1 + 1 + 1; omega
  · show w.heap.size + 1 ≠ w.heap.size + 1 + 1; omega
  · show w.heap.size + 1 ≠ w.heap.size; omega
theorem WW.eqs {s' : Wk} (a : WW K s W) (ho : s'.ops = s.ops) (ht : s'.to = s.to) (hn : s'.now = s.now) (hs : ∀ j, j < 12 → s.sl j = s'.sl j) : WW K s' W := by
  obtain ⟨m, o, h1, h2, h3, h4⟩ := a
  obtain ⟨c0, c1, sl, cm, cn, t, z, zt, lh, lt, ne, lb⟩ := m
  exact ⟨⟨by rw [ho]; exact c0, c1, fun j hj => by rw [← hs j hj]; exact sl j hj, cm, by rw [hn]; exact cn, by rw [ht]; exact t, z, zt, lh, lt, ne, lb⟩, by rw [ho]; exact o, h1, h2, h3, h4⟩
theorem fs_stop {os : List Opr} {j : Nat} (h : (fs os j).1 = true) : ∀ n, j ≤ n → fs os n = fs os j
  | 0, hn => by rw [show j = 0 by omega]
  | n + 1, hn => by
    by_cases e : j = n + 1
    · rw [e]
    · have ih := fs_stop h n (by omega)
      show (if (fs os n).1 = true then fs os n else _) = _
      rw [ih, if_pos h]
theorem fs_go {os : List Opr} {i : Nat} (h : (fs os i).1 = false) : fs os (i + 1) = (fs os i).2.step i (ren (fs os i).2.to (opAt os i)) := by
  show (if (fs os i).1 = true then fs os i else _) = _
  rw [if_neg (by rw [h]; decide)]
theorem UW.low {B : Nat} (u : UW K W W') (a : WM K s W) (h1 : B ≤ K.h) (h2 : B ≤ K.tb) (h3 : B ≤ K.mb) (h4 : B ≤ K.base) : Below B W W' :=
  u.u.below (by have := a.lb; omega) fun i hi e => by
    rcases e with e | e | e | e
    · omega
    · omega
    · omega
    · have := (a.own e).1; omega
/-- what the walk over a list asks -/
def FH (os : List Opr) : Prop := ∀ i, i < os.length → (fs os i).1 = false → SOk (fs os i).2 (ren (fs os i).2.to (opAt os i)) ∧ SIn (fs os i).2 ∧ ∀ j, j < 3 → isR (opAt os i).k j = true → 0 ≤ ar (opAt os i) j ∧ ar (opAt os i) j < os.length
set_option maxRecDepth 100000 in
set_option maxHeartbeats 4000000 in
theorem forward_any (os : List Opr) (ao : Option Addr) (cap : Nat) (w : World) (h : Ops os ao cap w) (hl : os.length ≤ 2048) (hf : FH os) :
    Calls Try.prog 72 #[.slice ao os.length cap] w fun e w' => ∃ v, e = .returned v ∧ OwnO w.heap.size v (fwd os) w' ∧ Below w.heap.size w w' := by
  obtain ⟨iv, hiv, hzv, hsv, hbv⟩ := i64i
  have hmk : ∀ w : World, (Instr.makeSlice 39 (.int .i64 (os.length : Int)) (.int .i64 (os.length : Int))).run Try.prog w = .ok (.slice (some ⟨w.heap.size, 0, none⟩) os.length os.length) (w.alloc (.cells (madeCells #[.int .i64 0] os.length) 3)) := fun w => by
    have := run_make (P := Try.prog) w 39 3 iv (.int .i64 0) Try.underlying39 hiv hzv .i64 .i64 os.length os.length (by omega) (Int.le_refl _) (by rw [hbv]; omega) (by omega)
    rw [hsv, show (Value.int .i64 0).cells = #[.int .i64 0] from rfl] at this
    simpa using this
  have hmm := @run_makeMap Try.prog
  have HO := Lib.hid h
  have HL := Lib.hid hl
  have HF := Lib.hid hf
  clear h hf hiv hzv hsv hbv
  go_enter Try.func72, Try.ntmps72
  go_upto_region 2 with fail
  have W0 := Lib.hid (made_WW w os.length 3 205 _ rfl)
  have BW : Below w.heap.size w (((w.alloc (.cells (madeCells #[.int .i64 0] os.length) 3)).alloc (.map #[] 0)).alloc (.cells #[.slice none 0 0, .slice (some ⟨w.heap.size, 0, none⟩) os.length os.length, .int .i64 0, .int .i64 0, .int .i64 0, .int .i64 0, .int .i64 0, .int .i64 0, .int .i64 0, .int .i64 0, .int .i64 0, .int .i64 0, .int .i64 0, .int .i64 0, .map (some (w.heap.size + 1)), .int .i64 (-1)] 205)) := (((Below.refl _ w).alloc (Nat.le_refl _) _).alloc (by rw [World.size_alloc]; omega) _).alloc (by rw [World.size_alloc, World.size_alloc]; omega) _
  have B0 := Lib.hid BW
  clear hmk hmm BW
  generalize ((w.alloc (.cells (madeCells #[.int .i64 0] os.length) 3)).alloc (.map #[] 0)).alloc (.cells #[.slice none 0 0, .slice (some ⟨w.heap.size, 0, none⟩) os.length os.length, .int .i64 0, .int .i64 0, .int .i64 0, .int .i64 0, .int .i64 0, .int .i64 0, .int .i64 0, .int .i64 0, .int .i64 0, .int .i64 0, .int .i64 0, .int .i64 0, .map (some (w.heap.size + 1)), .int .i64 (-1)] 205) = W1 at W0 B0 ⊢
  obtain ⟨B, hB⟩ : ∃ B, w.heap.size = B := ⟨_, rfl⟩
  rw [hB] at W0 B0 ⊢
  have HBE := Lib.hid hB
  clear hB
  go_wp2
  go_loopg [13] 12 (fun n ix wr => ∃ q : Nat, n = 12 - q ∧ q ≤ 12 ∧ ix = .int .i64 q ∧ Hid (WW (kF B os.length) (sQ q) wr) ∧ Hid (Below B w wr))
  case atStart => exact ⟨0, rfl, by decide, rfl, W0, B0⟩
  case round =>
    obtain ⟨q, hk, hj, rfl, A, BL⟩ := hrel
    by_cases hlt : q < 12
    · have hlt' : (q : Int) < 12 := by omega
      have cs : wr.cell? ⟨B + 1 + 1, 2 + q, none⟩ = some (.int .i64 (if q < q then -1 else 0)) := A.out.m.sl q hlt
      have zs : wr.frozen? ⟨B + 1 + 1, 2 + q, none⟩ = false := A.out.m.z (2 + q)
      have lh : B + 1 + 1 < wr.heap.size := A.out.m.l
      have A2 := Lib.hid ((A.out.setS q (-1) hlt).eqs (s' := sQ (q + 1)) rfl rfl rfl fun j hj => by
        show upd (fun j => if j < q then (-1 : Int) else 0) q (-1) j = if j < q + 1 then -1 else 0
        unfold upd
        by_cases e : j = q
        · rw [if_pos e, if_pos (by omega)]
        · rw [if_neg e]
          show (if j < q then (-1 : Int) else 0) = _
          by_cases e2 : j < q
          · rw [if_pos e2, if_pos (by omega)]
          · rw [if_neg e2, if_neg (by omega)])
      have B2 := Lib.hid (BL.out.setCell (p := ⟨B + 1 + 1, 2 + q, none⟩) (by show B ≤ B + 1 + 1; omega) (.int .i64 (-1)))
      have HK := Lib.hid hk
      clear hk
      go_wp2
      go_roundg (12 - (q + 1))
      case measure => have := HK.out; omega
      case rel => exact ⟨q + 1, rfl, by omega, by simp, A2, B2⟩
    · obtain rfl : q = 12 := by omega
      have A1 := Lib.hid (A.out.eqs (s' := (fs os 0).2) rfl rfl rfl fun j hj => by show (if j < 12 then (-1 : Int) else 0) = -1; rw [if_pos hj])
      have B1 := BL
      have hl0 : (os.length : Int) ≤ 2048 := by omega
      clear hj hk hlt W0 B0 A
      go_wp2
      go_loopg [24] os.length (fun n ix wr => ∃ j : Nat, n = os.length - j ∧ j ≤ os.length ∧ ix = .int .i64 j ∧ Hid ((fs os j).1 = false) ∧ Hid (WW (kF B os.length) (fs os j).2 wr) ∧ Hid (Below B w wr))
      case atStart => exact ⟨0, rfl, Nat.zero_le _, rfl, rfl, A1, B1⟩
      case round =>
        obtain ⟨j, hk, hj, rfl, F, A, BL⟩ := hrel
        by_cases hlt : j < os.length
        · have OP := HO.out.keep (by rw [HBE.out]; exact BL.out)
          have hcap : os.length ≤ cap := OP.1
          obtain ⟨g, off, rfl, hg, hc⟩ := OP.2.2 (by omega)
          have ho := op_in hlt
          have k0 : wr.cell? ⟨g, off + j * 7, none⟩ = some (.int .i64 (opAt os j).k) := hc j _ ho 0 _ rfl
          have k1 : wr.cell? ⟨g, off + j * 7 + 1, none⟩ = some (.int .i64 (opAt os j).w) := hc j _ ho 1 _ rfl
          have k2 : wr.cell? ⟨g, off + j * 7 + 2, none⟩ = some (.int .i64 (opAt os j).a) := hc j _ ho 2 _ rfl
          have k3 : wr.cell? ⟨g, off + j * 7 + 3, none⟩ = some (.int .i64 (opAt os j).b) := hc j _ ho 3 _ rfl
          have k4 : wr.cell? ⟨g, off + j * 7 + 4, none⟩ = some (.int .i64 (opAt os j).c) := hc j _ ho 4 _ rfl
          have k5 : wr.cell? ⟨g, off + j * 7 + 5, none⟩ = some (.int .u32 (opAt os j).kn) := hc j _ ho 5 _ rfl
          have k6 : wr.cell? ⟨g, off + j * 7 + 6, none⟩ = some (.int .i64 (opAt os j).n) := hc j _ ho 6 _ rfl
          obtain ⟨f1, f2, f3⟩ := HF.out j hlt F.out
          have RN := Lib.hid (fun (w : World) (a : WM (kF B os.length) (fs os j).2 w) => renamed_any (opAt os j) w a f3)
          have ST := Lib.hid (fun (w : World) (a : WW (kF B os.length) (fs os j).2 w) => step_any j (ren (fs os j).2.to (opAt os j)) w a hlt f1 f2)
          have FE := fs_go F.out
          rw [← FE] at ST
          have hj' : (j : Int) < os.length := by omega
          have HK := Lib.hid hk
          have HLT := Lib.hid hlt
          have gl := hg
          generalize ren (fs os j).2.to (opAt os j) = ro at RN ST
          generalize opAt os j = o at k0 k1 k2 k3 k4 k5 k6 RN
          have lo := A.out.m.l
          clear hk hlt hc ho f1 f2 f3 OP FE F
          cases hb : (fs os (j + 1)).1 with
          | false =>
            rw [hb] at ST
            have HB := Lib.hid hb
            clear hb
            go_wp2_with (first
              | (go_at_call 120; refine (RN.out _ (A.out.m.alloc _)).mono ?_; rintro e w2 ⟨rfl, b2⟩; have A2 := Lib.hid ((A.out.alloc _).below b2))
              | (go_at_call 121; refine (ST.out _ A2.out).mono ?_; rintro e w3 ⟨rfl, A3, U3⟩))
            have B3 := Lib.hid (BL.out.trans (((Below.refl _ wr).alloc (by have := HBE.out; have := BL.out.size; omega) _).trans ((b2.mono (by have := HBE.out; have := BL.out.size; rw [World.size_alloc]; omega)).trans (U3.low A2.out.m (by show B ≤ B + 1 + 1; omega) (Nat.le_refl _) (by show B ≤ B + 1; omega) (by show B ≤ B + 1 + 1 + 1; omega)))))
            go_roundg (os.length - (j + 1))
            case measure => have := HK.out; have := HLT.out; omega
            case rel => exact ⟨j + 1, rfl, HLT.out, by simp, HB, A3, B3⟩
          | true =>
            rw [hb] at ST
            have HB := Lib.hid hb
            clear hb
            go_wp2_with (first
              | (go_at_call 120; refine (RN.out _ (A.out.m.alloc _)).mono ?_; rintro e w2 ⟨rfl, b2⟩; have A2 := Lib.hid ((A.out.alloc _).below b2))
              | (go_at_call 121; refine (ST.out _ A2.out).mono ?_; rintro e w3 ⟨rfl, A3, U3⟩; obtain ⟨vv, v0, ow⟩ := A3.m.c0; have v0' : w3.cell? ⟨B + 1 + 1, 0, none⟩ = some vv := v0; have l3 : B + 1 + 1 < w3.heap.size := A3.m.l; obtain ⟨ao', cap', rfl, _, _⟩ := ow.form))
            have B3 := Lib.hid (BL.out.trans (((Below.refl _ wr).alloc (by have := HBE.out; have := BL.out.size; omega) _).trans ((b2.mono (by have := HBE.out; have := BL.out.size; rw [World.size_alloc]; omega)).trans (U3.low A2.out.m (by show B ≤ B + 1 + 1; omega) (Nat.le_refl _) (by show B ≤ B + 1; omega) (by show B ≤ B + 1 + 1 + 1; omega)))))
            go_ret
            refine ⟨_, rfl, ?_, by rw [HBE.out]; exact B3.out⟩
            rw [HBE.out, show fwd os = (fs os (j + 1)).2.ops by unfold fwd; rw [fs_stop HB.out os.length HLT.out]]
            exact ow.low (by show B ≤ B + 1 + 1 + 1; omega)
        · obtain rfl : j = os.length := by omega
          obtain ⟨vv, v0, ow⟩ := A.out.m.c0
          have v0' : wr.cell? ⟨B + 1 + 1, 0, none⟩ = some vv := v0
          have l3 : B + 1 + 1 < wr.heap.size := A.out.m.l
          obtain ⟨ao', cap', rfl, _, _⟩ := ow.form
          go_wp2
          go_ret
          refine ⟨_, rfl, ?_, by rw [HBE.out]; exact BL.out⟩
          rw [HBE.out]
          exact ow.low (by show B ≤ B + 1 + 1 + 1; omega)
end Go.Proofs.Ytcjcmnnhmajocab.Ot
