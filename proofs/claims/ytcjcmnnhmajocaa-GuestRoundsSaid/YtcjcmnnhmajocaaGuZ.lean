/- guest.first: the first byte of an instruction. -/
import Derived.Test.YtcjcmnnhmajocaaGuS
import Derived.Test.YtcjcmnnhmajocaaGuFd
import Derived.Test.YtcjcmnnhmajocaaGuO
import Derived.Test.YtcjcmnnhmajocaaGuL
import Derived.LoopN
import Derived.Deep.LoopGhost
import Derived.Deep.QuietTactic
import Derived.BigQuiet
import Derived.BigRegion
import Derived.RegionTactic
namespace Go.Proofs.Ytcjcmnnhmajocaa.Gu
open Go.RowKit Kt
set_option linter.unusedVariables false
set_option linter.unusedSimpArgs false
/-- does a row's first byte begin this instruction? -/
def hit (o d s f : Int) (r : Rw) : Prop := r.sh ≠ 0 ∧ r.op = o ∧ (r.fi = 0 ∨ (r.fi = 1 ∧ d = r.lo) ∨ (r.fi = 2 ∧ s = r.lo) ∨ (r.fi = 3 ∧ f = r.lo))
def rowv (r : Rw) : Value := .agg #[.int .i64 r.op, .int .i64 r.sh, .int .i64 r.lo, .int .i64 r.fi]
def First (o d s f : Int) (v : Value) : Prop :=
  (∃ j : Nat, j < 256 ∧ hit o d s f (rowOf (j : Int)) ∧ (∀ i : Nat, i < j → ¬ hit o d s f (rowOf (i : Int))) ∧ v = .tuple #[.int .i64 j, rowv (rowOf (j : Int)), .bool true]) ∨
  ((∀ i : Nat, i < 256 → ¬ hit o d s f (rowOf (i : Int))) ∧ v = .tuple #[.int .i64 0, rowv ⟨0, 0, 0, 0⟩, .bool false])
theorem first_at {wA wr w1 : World} {X T : Nat} {cx ct : Array Value} {t u : TypeId} (hX : wA.heap[X]? = some (.cells cx t (0, 0))) (hT : wA.heap[T]? = some (.cells ct u (0, 0))) (hXT : X < T) (hTA : T < wA.heap.size) (hb : Below wA.heap.size wA wr) (hb1 : Below wr.heap.size wr w1) :
    (∀ i, w1.cell? ⟨X, i, none⟩ = cx[i]?) ∧ X < w1.heap.size ∧ (∀ i, w1.cell? ⟨T, i, none⟩ = ct[i]?) ∧ (∀ i, w1.frozen? ⟨T, i, none⟩ = false) ∧ T < w1.heap.size ∧ Below wA.heap.size wA w1 := by
  have B := chain hb hb1
  have := B.size
  have gX := (B.block X (by omega)).trans hX
  have gT := (B.block T (by omega)).trans hT
  exact ⟨(rowcells gX).1, by omega, (rowcells gT).1, (rowcells gT).2, by omega, B⟩
theorem behindF {w2 w3 : World} {cs : Array Value} {t : TypeId} (hb : Below (w2.alloc (.cells cs t)).heap.size (w2.alloc (.cells cs t)) w3) :
    (∀ i, w3.cell? ⟨w2.heap.size, i, none⟩ = cs[i]?) ∧ w2.heap.size < w3.heap.size ∧ Below w2.heap.size w2 w3 := by
  have s := hb.size
  simp only [World.size_alloc] at s
  refine ⟨(rowcells (t := t) (cs := cs) ?_).1, by omega, ((Below.refl _ _).alloc (Nat.le_refl _) _).trans (hb.mono (by simp))⟩
  rw [hb.block _ (by simp)]
  exact heap_alloc_new _ _
theorem below_drewN {B : Nat} {w w' : World} (h : Below B w w') (n : Nat) : Below B w (w'.drewN n) := ⟨h.os, h.tape, h.output, h.size, h.block⟩
theorem set4 {W : World} {g : Nat} {a0 a1 a2 a3 : Value} {t : TypeId} (h : W.heap[g]? = some (.cells #[a0, a1, a2, a3] t (0, 0))) (x0 x1 x2 x3 : Value) :
    ((((W.setCell ⟨g, 0, none⟩ x0).setCell ⟨g, 1, none⟩ x1).setCell ⟨g, 2, none⟩ x2).setCell ⟨g, 3, none⟩ x3).heap[g]? = some (.cells #[x0, x1, x2, x3] t (0, 0)) := by
  have h0 : (W.setCell ⟨g, 0, none⟩ x0).heap[g]? = some (.cells #[x0, a1, a2, a3] t (0, 0)) := heap_setCell_same _ g 0 _ t x0 h
  generalize W.setCell ⟨g, 0, none⟩ x0 = W0 at h0 ⊢
  have h1 : (W0.setCell ⟨g, 1, none⟩ x1).heap[g]? = some (.cells #[x0, x1, a2, a3] t (0, 0)) := heap_setCell_same _ g 1 _ t x1 h0
  generalize W0.setCell ⟨g, 1, none⟩ x1 = W1 at h1 ⊢
  have h2 : (W1.setCell ⟨g, 2, none⟩ x2).heap[g]? = some (.cells #[x0, x1, x2, a3] t (0, 0)) := heap_setCell_same _ g 2 _ t x2 h1
  generalize W1.setCell ⟨g, 2, none⟩ x2 = W2 at h2 ⊢
  exact heap_setCell_same _ g 3 _ t x3 h2
theorem fin_first {W : World} {tmps : Array Value} {T : Nat} {a b c e k : Int} {ok : Bool} (hT : W.heap[T]? = some (.cells #[.int .i64 a, .int .i64 b, .int .i64 c, .int .i64 e] 109 (0, 0))) (h2 : tmps.getD 2 undef = .int .i64 k) (h3 : tmps.getD 3 undef = .pointer (some ⟨T, 0, none⟩)) (h4 : tmps.getD 4 undef = .bool ok) :
    (results Try.f87 tmps).run Try.prog W = .ok (.tuple #[.int .i64 k, .agg #[.int .i64 a, .int .i64 b, .int .i64 c, .int .i64 e], .bool ok]) W := by
  have kT := (rowcells hT).1
  simp only [Array.getD_eq_getD_getElem?] at h2 h3 h4
  simp [results, Try.results87, h2, h3, h4, go_sem, kT]
theorem end_first {w W : World} {fr : Act} {o d s f : Int} {T : Nat} {x0 x1 x2 x3 : Value} {a b c e k : Int} {ok : Bool} (hT : W.heap[T]? = some (.cells #[x0, x1, x2, x3] 109 (0, 0))) (hB : Below w.heap.size w W) (hwT : w.heap.size ≤ T)
    (h2 : fr.tmps.getD 2 undef = .int .i64 k) (h3 : fr.tmps.getD 3 undef = .pointer (some ⟨T, 0, none⟩)) (h4 : fr.tmps.getD 4 undef = .bool ok) (hd : fr.defers = []) (hf : First o d s f (.tuple #[.int .i64 k, rowv ⟨a, b, c, e⟩, .bool ok])) :
    bodyPost Try.prog Try.f87 (fun e w' => ∃ v, First o d s f v ∧ e = .returned v ∧ Below w.heap.size w w') .ret fr
      ((((W.setCell ⟨T, 0, none⟩ (.int .i64 a)).setCell ⟨T, 1, none⟩ (.int .i64 b)).setCell ⟨T, 2, none⟩ (.int .i64 c)).setCell ⟨T, 3, none⟩ (.int .i64 e)) :=
  bodyPost_ret (fin_first (set4 hT _ _ _ _) h2 h3 h4) hd ⟨_, hf, rfl, (((hB.setCell hwT _).setCell hwT _).setCell hwT _).setCell hwT _⟩
theorem end_first' {w W : World} {fr : Act} {o d s f : Int} {T : Nat} {x0 x1 x2 x3 : Value} {a b c e k : Int} {ok : Bool} (hT : W.heap[T]? = some (.cells #[x0, x1, x2, x3] 109 (0, 0))) (hB : Below w.heap.size w W) (hwT : w.heap.size ≤ T)
    (h2 : fr.tmps.getD 2 undef = .int .i64 k) (h3 : fr.tmps.getD 3 undef = .pointer (some ⟨T, 0, none⟩)) (h4 : fr.tmps.getD 4 undef = .bool ok) (hd : fr.defers = []) (hf : First o d s f (.tuple #[.int .i64 k, rowv ⟨a, b, c, e⟩, .bool ok])) :
    bodyPost Try.prog Try.f87 (fun e w' => ∃ v, First o d s f v ∧ e = .returned v ∧ Below w.heap.size w w') .ret fr
      ((((W.setCell ⟨T, 0, none⟩ (.int .i64 a)).setCell ⟨T, 1, none⟩ (.int .i64 b)).setCell ⟨T, 2, none⟩ (.int .i64 c)).setCell ⟨T, 3, none⟩ (.int .i64 e)).drew :=
  bodyPost_ret (fin_first (W := World.drew _) (set4 hT _ _ _ _) h2 h3 h4) hd ⟨_, hf, rfl, ((((hB.setCell hwT _).setCell hwT _).setCell hwT _).setCell hwT _).drew⟩
set_option maxRecDepth 100000 in
set_option maxHeartbeats 4000000 in
theorem first_any (o d s f m : Int) (w : World) : Calls Try.prog 87 #[.agg #[.int .i64 o, .int .i64 d, .int .i64 s, .int .i64 f, .int .u32 m]] w fun e w' => ∃ v, First o d s f v ∧ e = .returned v ∧ Below w.heap.size w w' := by
  go_enter Try.func87, Try.ntmps87
  go_wp2
  have hX : ((w.alloc (.cells #[.int .i64 o, .int .i64 d, .int .i64 s, .int .i64 f, .int .u32 m] 57)).alloc (.cells #[.int .i64 0, .int .i64 0, .int .i64 0, .int .i64 0] 109)).heap[w.heap.size]? = some (.cells #[.int .i64 o, .int .i64 d, .int .i64 s, .int .i64 f, .int .u32 m] 57 (0, 0)) := by
    rw [Below.heap_alloc _ _ _ (by simp)]
    exact heap_alloc_new _ _
  have hT : ((w.alloc (.cells #[.int .i64 o, .int .i64 d, .int .i64 s, .int .i64 f, .int .u32 m] 57)).alloc (.cells #[.int .i64 0, .int .i64 0, .int .i64 0, .int .i64 0] 109)).heap[w.heap.size + 1]? = some (.cells #[.int .i64 0, .int .i64 0, .int .i64 0, .int .i64 0] 109 (0, 0)) := by
    have := heap_alloc_new (w.alloc (.cells #[.int .i64 o, .int .i64 d, .int .i64 s, .int .i64 f, .int .u32 m] 57)) (.cells #[.int .i64 0, .int .i64 0, .int .i64 0, .int .i64 0] 109)
    simpa using this
  have hbA : Below w.heap.size w ((w.alloc (.cells #[.int .i64 o, .int .i64 d, .int .i64 s, .int .i64 f, .int .u32 m] 57)).alloc (.cells #[.int .i64 0, .int .i64 0, .int .i64 0, .int .i64 0] 109)) := ((Below.refl _ _).alloc (Nat.le_refl _) _).alloc (by simp) _
  have hsz : ((w.alloc (.cells #[.int .i64 o, .int .i64 d, .int .i64 s, .int .i64 f, .int .u32 m] 57)).alloc (.cells #[.int .i64 0, .int .i64 0, .int .i64 0, .int .i64 0] 109)).heap.size = w.heap.size + 1 + 1 := by simp
  generalize (w.alloc (.cells #[.int .i64 o, .int .i64 d, .int .i64 s, .int .i64 f, .int .u32 m] 57)).alloc (.cells #[.int .i64 0, .int .i64 0, .int .i64 0, .int .i64 0] 109) = wA at hX hT hbA hsz ⊢
  obtain ⟨X, eX⟩ : ∃ X, w.heap.size = X := ⟨_, rfl⟩
  obtain ⟨T, eT⟩ : ∃ T, X + 1 = T := ⟨_, rfl⟩
  rw [eX] at hX hT hbA hsz ⊢
  rw [eT] at hT hsz ⊢
  have hXT : X < T := by omega
  have hTA : T < wA.heap.size := by omega
  have HX := Lib.hid hX
  have HT := Lib.hid hT
  have HA := Lib.hid hbA
  have HEX := Lib.hid eX
  clear hX hT hbA hsz eX eT
  go_loopg [8] 256 (fun k i wr => ∃ j : Nat, k = 256 - j ∧ j ≤ 256 ∧ i = .int .i64 j ∧ Hid (∀ i : Nat, i < j → ¬ hit o d s f (rowOf (i : Int))) ∧ Below wA.heap.size wA wr)
  case atStart => exact ⟨0, rfl, by omega, rfl, Lib.hid (fun i h => by omega), Below.refl _ _⟩
  case round =>
    obtain ⟨j, hk, hj, rfl, hno, hb⟩ := hrel
    have HK := Lib.hid hk
    clear hk
    have hsb := hb.size
    by_cases hlt : j < 256
    · have hrow := row_any (j : Int) (by omega) (by omega)
      have hri := row_in (j : Int) (by omega) (by omega)
      obtain ⟨r, hr⟩ : ∃ r, rowOf (j : Int) = r := ⟨_, rfl⟩
      rw [hr] at hrow hri
      have HR := Lib.hid hr
      have Hrow := Lib.hid hrow
      have Hnext : ¬ hit o d s f r → Hid (∀ i : Nat, i < j + 1 → ¬ hit o d s f (rowOf (i : Int))) := fun hn => Lib.hid (fun i hi => by
        by_cases hc : i < j
        · exact hno.out i hc
        · obtain rfl : i = j := by omega
          rw [hr]; exact hn)
      have HN := Lib.hid Hnext
      have HB := Lib.hid hb
      clear hr hrow hb Hnext
      obtain ⟨op, sh, lo, fi⟩ := r
      dsimp only at hri
      obtain ⟨r1, r2, r3, r4, r5, r6, r7, r8⟩ := hri
      have hlt' : (j : Int) < 256 := by omega
      have hj0 : (0 : Int) ≤ (j : Int) := by omega
      by_cases h1 : sh = 0
      · subst h1
        go_wp2_with (go_at_call 61; refine (Hrow.out _).mono ?_; rintro e w1 ⟨rfl, hb1⟩)
        go_roundg (256 - (j + 1))
        case measure =>
          have := HK.out
          omega
        case rel => exact ⟨j + 1, rfl, by omega, by simp, HN.out (fun h => h.1 rfl), (HB.out.trans (hb1.mono HB.out.size)).alloc (HB.out.trans (hb1.mono HB.out.size)).size _⟩
      · by_cases h2 : op = o
        · subst h2
          have hk : fi = 0 ∨ fi = 1 ∨ fi = 2 ∨ fi = 3 := by omega
          have h1b : (sh == 0) = false := by rw [beq_eq_false_iff_ne]; exact h1
          rcases hk with rfl | rfl | rfl | rfl
          · have hfd := Lib.hid (show ∀ (X : Nat) (w : World), Calls Try.prog 63 #[.agg #[.int .i64 op, .int .i64 sh, .int .i64 lo, .int .i64 0], .pointer (some ⟨X, 0, none⟩)] w fun e w' => e = .returned (.pointer none) ∧ Below w.heap.size w w' from fun X w => field_any X op sh lo 0 (by omega) (by omega) w)
            have hF : First op d s f (.tuple #[.int .i64 j, rowv ⟨op, sh, lo, 0⟩, .bool true]) := .inl ⟨j, hlt, by rw [HR.out]; exact ⟨h1, rfl, by simp⟩, hno.out, by rw [HR.out]⟩
            have HF := Lib.hid hF
            clear hF
            go_wp2_with (first
              | (go_at_call 61; refine (Hrow.out _).mono ?_; rintro e w1 ⟨rfl, hb1⟩; obtain ⟨kX, lX, kT, zT, lT, B1⟩ := first_at HX.out HT.out hXT hTA HB.out hb1)
              | (go_at_call 63; refine (hfd.out _ _).mono ?_; rintro e w2 ⟨rfl, hb2⟩; obtain ⟨kR, lR, hb3⟩   := behindF hb2; clear kX lX kT zT lT; obtain ⟨kX, lX, kT, zT, lT, B2⟩ := first_at HX.out HT.out hXT hTA B1 hb3))
            go_quiet (fail)
            have hTB := (B2.block T hTA).trans HT.out
            have HQ := Lib.hid hTB
            have HBW : Hid (Below w.heap.size w w2) := Lib.hid (by rw [HEX.out]; exact HA.out.trans (B2.mono (by omega)))
            have hwT : w.heap.size ≤ T := by have := HEX.out; omega
            clear hTB
            go_wp2
            go_region
            go_wp2
            exact end_first' (W := w2.drewN nq) HQ.out (below_drewN HBW.out nq) hwT rfl rfl rfl rfl HF.out
          · have hfd := Lib.hid (show ∀ (X : Nat) (w : World), Calls Try.prog 63 #[.agg #[.int .i64 op, .int .i64 sh, .int .i64 lo, .int .i64 1], .pointer (some ⟨X, 0, none⟩)] w fun e w' => e = .returned (.pointer (some ⟨X, 1, none⟩)) ∧ Below w.heap.size w w' from fun X w => field_any X op sh lo 1 (by omega) (by omega) w)
            by_cases he : d = lo
            · subst he
              have hF : First op d s f (.tuple #[.int .i64 j, rowv ⟨op, sh, d, 1⟩, .bool true]) := .inl ⟨j, hlt, by rw [HR.out]; exact ⟨h1, rfl, by simp⟩, hno.out, by rw [HR.out]⟩
              have HF := Lib.hid hF
              clear hF
              go_wp2_with (first
                | (go_at_call 61; refine (Hrow.out _).mono ?_; rintro e w1 ⟨rfl, hb1⟩; obtain ⟨kX, lX, kT, zT, lT, B1⟩ := first_at HX.out HT.out hXT hTA HB.out hb1)
                | (go_at_call 63; refine (hfd.out _ _).mono ?_; rintro e w2 ⟨rfl, hb2⟩; obtain ⟨kR, lR, hb3⟩   := behindF hb2; clear kX lX kT zT lT; obtain ⟨kX, lX, kT, zT, lT, B2⟩ := first_at HX.out HT.out hXT hTA B1 hb3))
              go_quiet (fail)
              have hTB := (B2.block T hTA).trans HT.out
              have HQ := Lib.hid hTB
              have HBW : Hid (Below w.heap.size w w2) := Lib.hid (by rw [HEX.out]; exact HA.out.trans (B2.mono (by omega)))
              have hwT : w.heap.size ≤ T := by have := HEX.out; omega
              clear hTB
              go_wp2
              go_region
              go_wp2
              exact end_first' (W := w2.drewN nq) HQ.out (below_drewN HBW.out nq) hwT rfl rfl rfl rfl HF.out
            · have heb : (d == lo) = false := by rw [beq_eq_false_iff_ne]; exact he
              go_wp2_with (first
                            | (go_at_call 61; refine (Hrow.out _).mono ?_; rintro e w1 ⟨rfl, hb1⟩; obtain ⟨kX, lX, kT, zT, lT, B1⟩ := first_at HX.out HT.out hXT hTA HB.out hb1)
                            | (go_at_call 63; refine (hfd.out _ _).mono ?_; rintro e w2 ⟨rfl, hb2⟩; obtain ⟨kR, lR, hb3⟩   := behindF hb2; clear kX lX kT zT lT; obtain ⟨kX, lX, kT, zT, lT, B2⟩ := first_at HX.out HT.out hXT hTA B1 hb3))
              go_quiet (fail)
              go_wp2
              go_roundg (256 - (j + 1))
              case measure =>
                have := HK.out
                omega
              case rel => exact ⟨j + 1, rfl, by omega, by simp, HN.out (fun h => by obtain ⟨_, _, h⟩ := h; simp [he] at h), below_drewN B2 nq⟩
          · have hfd := Lib.hid (show ∀ (X : Nat) (w : World), Calls Try.prog 63 #[.agg #[.int .i64 op, .int .i64 sh, .int .i64 lo, .int .i64 2], .pointer (some ⟨X, 0, none⟩)] w fun e w' => e = .returned (.pointer (some ⟨X, 2, none⟩)) ∧ Below w.heap.size w w' from fun X w => field_any X op sh lo 2 (by omega) (by omega) w)
            by_cases he : s = lo
            · subst he
              have hF : First op d s f (.tuple #[.int .i64 j, rowv ⟨op, sh, s, 2⟩, .bool true]) := .inl ⟨j, hlt, by rw [HR.out]; exact ⟨h1, rfl, by simp⟩, hno.out, by rw [HR.out]⟩
              have HF := Lib.hid hF
              clear hF
              go_wp2_with (first
                | (go_at_call 61; refine (Hrow.out _).mono ?_; rintro e w1 ⟨rfl, hb1⟩; obtain ⟨kX, lX, kT, zT, lT, B1⟩ := first_at HX.out HT.out hXT hTA HB.out hb1)
                | (go_at_call 63; refine (hfd.out _ _).mono ?_; rintro e w2 ⟨rfl, hb2⟩; obtain ⟨kR, lR, hb3⟩   := behindF hb2; clear kX lX kT zT lT; obtain ⟨kX, lX, kT, zT, lT, B2⟩ := first_at HX.out HT.out hXT hTA B1 hb3))
              go_quiet (fail)
              have hTB := (B2.block T hTA).trans HT.out
              have HQ := Lib.hid hTB
              have HBW : Hid (Below w.heap.size w w2) := Lib.hid (by rw [HEX.out]; exact HA.out.trans (B2.mono (by omega)))
              have hwT : w.heap.size ≤ T := by have := HEX.out; omega
              clear hTB
              go_wp2
              go_region
              go_wp2
              exact end_first' (W := w2.drewN nq) HQ.out (below_drewN HBW.out nq) hwT rfl rfl rfl rfl HF.out
            · have heb : (s == lo) = false := by rw [beq_eq_false_iff_ne]; exact he
              go_wp2_with (first
                            | (go_at_call 61; refine (Hrow.out _).mono ?_; rintro e w1 ⟨rfl, hb1⟩; obtain ⟨kX, lX, kT, zT, lT, B1⟩ := first_at HX.out HT.out hXT hTA HB.out hb1)
                            | (go_at_call 63; refine (hfd.out _ _).mono ?_; rintro e w2 ⟨rfl, hb2⟩; obtain ⟨kR, lR, hb3⟩   := behindF hb2; clear kX lX kT zT lT; obtain ⟨kX, lX, kT, zT, lT, B2⟩ := first_at HX.out HT.out hXT hTA B1 hb3))
              go_quiet (fail)
              go_wp2
              go_roundg (256 - (j + 1))
              case measure =>
                have := HK.out
                omega
              case rel => exact ⟨j + 1, rfl, by omega, by simp, HN.out (fun h => by obtain ⟨_, _, h⟩ := h; simp [he] at h), below_drewN B2 nq⟩
          · have hfd := Lib.hid (show ∀ (X : Nat) (w : World), Calls Try.prog 63 #[.agg #[.int .i64 op, .int .i64 sh, .int .i64 lo, .int .i64 3], .pointer (some ⟨X, 0, none⟩)] w fun e w' => e = .returned (.pointer (some ⟨X, 3, none⟩)) ∧ Below w.heap.size w w' from fun X w => field_any X op sh lo 3 (by omega) (by omega) w)
            by_cases he : f = lo
            · subst he
              have hF : First op d s f (.tuple #[.int .i64 j, rowv ⟨op, sh, f, 3⟩, .bool true]) := .inl ⟨j, hlt, by rw [HR.out]; exact ⟨h1, rfl, by simp⟩, hno.out, by rw [HR.out]⟩
              have HF := Lib.hid hF
              clear hF
              go_wp2_with (first
                | (go_at_call 61; refine (Hrow.out _).mono ?_; rintro e w1 ⟨rfl, hb1⟩; obtain ⟨kX, lX, kT, zT, lT, B1⟩ := first_at HX.out HT.out hXT hTA HB.out hb1)
                | (go_at_call 63; refine (hfd.out _ _).mono ?_; rintro e w2 ⟨rfl, hb2⟩; obtain ⟨kR, lR, hb3⟩   := behindF hb2; clear kX lX kT zT lT; obtain ⟨kX, lX, kT, zT, lT, B2⟩ := first_at HX.out HT.out hXT hTA B1 hb3))
              go_quiet (fail)
              have hTB := (B2.block T hTA).trans HT.out
              have HQ := Lib.hid hTB
              have HBW : Hid (Below w.heap.size w w2) := Lib.hid (by rw [HEX.out]; exact HA.out.trans (B2.mono (by omega)))
              have hwT : w.heap.size ≤ T := by have := HEX.out; omega
              clear hTB
              go_wp2
              go_region
              go_wp2
              exact end_first' (W := w2.drewN nq) HQ.out (below_drewN HBW.out nq) hwT rfl rfl rfl rfl HF.out
            · have heb : (f == lo) = false := by rw [beq_eq_false_iff_ne]; exact he
              go_wp2_with (first
                            | (go_at_call 61; refine (Hrow.out _).mono ?_; rintro e w1 ⟨rfl, hb1⟩; obtain ⟨kX, lX, kT, zT, lT, B1⟩ := first_at HX.out HT.out hXT hTA HB.out hb1)
                            | (go_at_call 63; refine (hfd.out _ _).mono ?_; rintro e w2 ⟨rfl, hb2⟩; obtain ⟨kR, lR, hb3⟩   := behindF hb2; clear kX lX kT zT lT; obtain ⟨kX, lX, kT, zT, lT, B2⟩ := first_at HX.out HT.out hXT hTA B1 hb3))
              go_quiet (fail)
              go_wp2
              go_roundg (256 - (j + 1))
              case measure =>
                have := HK.out
                omega
              case rel => exact ⟨j + 1, rfl, by omega, by simp, HN.out (fun h => by obtain ⟨_, _, h⟩ := h; simp [he] at h), below_drewN B2 nq⟩
        · have h2b : (op == o) = false := by rw [beq_eq_false_iff_ne]; exact h2
          have h1b : (sh == 0) = false := by rw [beq_eq_false_iff_ne]; exact h1
          go_wp2_with (go_at_call 61; refine (Hrow.out _).mono ?_; rintro e w1 ⟨rfl, hb1⟩; obtain ⟨kX, lX, kT, zT, lT, B1⟩ := first_at HX.out HT.out hXT hTA HB.out hb1)
          go_roundg (256 - (j + 1))
          case measure =>
            have := HK.out
            omega
          case rel => exact ⟨j + 1, rfl, by omega, by simp, HN.out (fun h => h2 h.2.1), B1.alloc B1.size _⟩
    · obtain rfl : j = 256 := by omega
      have hTB := (hb.block T hTA).trans HT.out
      have hF : First o d s f (.tuple #[.int .i64 0, rowv ⟨0, 0, 0, 0⟩, .bool false]) := .inr ⟨hno.out, rfl⟩
      obtain ⟨kX, lX, kT, zT, lT, B1⟩ := first_at HX.out HT.out hXT hTA hb (Below.refl _ _)
      have HQ := Lib.hid hTB
      have HF := Lib.hid hF
      have HBW : Hid (Below w.heap.size w wr) := Lib.hid (by rw [HEX.out]; exact HA.out.trans (hb.mono (by omega)))
      have hwT : w.heap.size ≤ T := by have := HEX.out; omega
      clear hTB hF
      go_wp2
      exact end_first HQ.out HBW.out hwT rfl rfl rfl rfl HF.out
end Go.Proofs.Ytcjcmnnhmajocaa.Gu
