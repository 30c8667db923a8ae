/- Lemmas. -/
import Derived.Test.YtcjcmnnhmajocabPgaa
import Derived.Test.YtcjcmnnhmajocabPgab
namespace Go.Proofs.Ytcjcmnnhmajocab.Ho
open Go.RowKit Kt
set_option linter.unusedVariables false
set_option linter.unusedSimpArgs false
def zer : Array Value := #[.int .i64 0, .int .i64 0, .int .i64 0, .int .i64 0, .int .i64 0, .int .i64 0, .int .u32 0, .int .u32 0]
def cod (o d a b c n k x : Int) : Array Value := #[.int .i64 o, .int .i64 d, .int .i64 a, .int .i64 b, .int .i64 c, .int .i64 n, .int .u32 k, .int .u32 x]
def St (f : Nat) (w w' : World) (cs fs : Array Value) (r : Int) : Prop :=
  w'.heap[w.heap.size]? = some (.cells zer 108 (0, 0)) ∧ w'.heap[w.heap.size + 1]? = some (.cells cs 108 (0, 0)) ∧ w'.heap[f]? = some (.cells fs 231 (0, 0)) ∧
    w'.heap[f + 1]? = some (.cells #[.int .u32 r] 22 (0, 0)) ∧ w.heap.size + 1 < f ∧ Below w.heap.size w w' ∧ cs.size = 8 ∧ 0 ≤ r ∧ r < 4294967296
theorem St.first {w w1 : World} {cs fs : Array Value} {v : Int} (hn : cs.size = 8) (h0 : 0 ≤ v) (g0 : v < 4294967296) (hb1 : Below ((w.alloc (.cells zer 108)).alloc (.cells cs 108)).heap.size ((w.alloc (.cells zer 108)).alloc (.cells cs 108)) w1) :
    St w1.heap.size w ((w1.alloc (.cells fs 231)).alloc (.cells #[.int .u32 (v / 256)] 22)) cs fs (v / 256) := by
  have hs := hb1.size
  simp only [World.size_alloc] at hs
  have hb : Below w.heap.size w w1 := (((Below.refl _ _).alloc (Nat.le_refl _) _).alloc (by simp) _).trans (hb1.mono (by simp; omega))
  refine ⟨?_, ?_, ?_, ?_, by omega, (hb.alloc (by omega) _).alloc (by simp; omega) _, hn, by omega, by omega⟩
  · rw [Below.heap_alloc _ _ _ (by simp; omega), Below.heap_alloc _ _ _ (by omega), hb1.block _ (by simp; omega), Below.heap_alloc _ _ _ (by simp)]
    exact heap_alloc_new w _
  · rw [Below.heap_alloc _ _ _ (by simp; omega), Below.heap_alloc _ _ _ (by omega), hb1.block _ (by simp)]
    have := heap_alloc_new (w.alloc (.cells zer 108)) (.cells cs 108)
    simpa using this
  · rw [Below.heap_alloc _ _ _ (by simp)]
    exact heap_alloc_new w1 _
  · have := heap_alloc_new (w1.alloc (.cells fs 231)) (.cells #[.int .u32 (v / 256)] 22)
    simpa using this
theorem St.part (is : Bool) (j : Nat) {f : Nat} {w w1 : World} {cs cs' fs : Array Value} {r : Int} (h : St f w w1 cs fs r) (hj : decide (j < 8) = true) (e : (if is then cs.setIfInBounds j (.int .i64 (r % 16)) else cs) = cs') :
    Calls Try.prog 150 #[.bool is, .pointer (some ⟨w.heap.size + 1, j, none⟩), .int .i64 4, .pointer (some ⟨f + 1, 0, none⟩)] w1 fun e w' => e = .returned (.bool (is || r % 16 == 0)) ∧ St f w w' cs' fs (r / 16) := by
  obtain ⟨hT, hX, hF, hR, hlt, hb, hn, h0, g0⟩ := h
  have hj' : j < cs.size := by rw [hn]; simpa using hj
  refine (part4 is w.heap.size (w.heap.size + 1) (f + 1) j cs r w1 hX hR (by omega) (by omega) (by omega) hj' h0 g0).mono ?_
  rintro e w2 ⟨rfl, p1, p2, p3, p4, p5⟩
  exact ⟨rfl, (p4 _ (by omega) (by omega)).trans hT, e ▸ p2, (p4 _ (by omega) (by omega)).trans hF, p3, hlt, hb.trans p5, by subst e; first | (cases is <;> simpa using hn) | simpa using hn, by omega, by omega⟩
theorem St.part16 (j : Nat) {f : Nat} {w w1 : World} {cs cs' fs : Array Value} {r : Int} (h : St f w w1 cs fs r) (hj : decide (j < 8) = true) (e : cs.setIfInBounds j (.int .i64 (r % 65536)) = cs') :
    Calls Try.prog 150 #[.bool true, .pointer (some ⟨w.heap.size + 1, j, none⟩), .int .i64 16, .pointer (some ⟨f + 1, 0, none⟩)] w1 fun e w' => e = .returned (.bool true) ∧ St f w w' cs' fs (r / 65536) := by
  obtain ⟨hT, hX, hF, hR, hlt, hb, hn, h0, g0⟩ := h
  have hj' : j < cs.size := by rw [hn]; simpa using hj
  refine (Ho.part16 w.heap.size (w.heap.size + 1) (f + 1) j cs r w1 hX hR (by omega) (by omega) (by omega) hj' h0 g0).mono ?_
  rintro e w2 ⟨rfl, p1, p2, p3, p4, p5⟩
  exact ⟨rfl, (p4 _ (by omega) (by omega)).trans hT, e ▸ p2, (p4 _ (by omega) (by omega)).trans hF, p3, hlt, hb.trans p5, by subst e; first | (cases is <;> simpa using hn) | simpa using hn, by omega, by omega⟩
theorem cells_of {w : World} {g : Nat} {cs : Array Value} {t : TypeId} (h : w.heap[g]? = some (.cells cs t (0, 0))) : (∀ i, w.cell? ⟨g, i, none⟩ = cs[i]?) ∧ ∀ i, w.frozen? ⟨g, i, none⟩ = false :=
  ⟨fun i => by simp [World.cell?, h], fun i => frozen_of_row w g i cs t h⟩
theorem St.facts {f : Nat} {w w1 : World} {cs fs : Array Value} {r : Int} (h : St f w w1 cs fs r) : (∀ i, w1.cell? ⟨w.heap.size, i, none⟩ = (#[.int .i64 0, .int .i64 0, .int .i64 0, .int .i64 0, .int .i64 0, .int .i64 0, .int .u32 0, .int .u32 0] : Array Value)[i]?) ∧ (∀ i, w1.cell? ⟨w.heap.size + 1, i, none⟩ = cs[i]?) ∧ (∀ i, w1.cell? ⟨f, i, none⟩ = fs[i]?) ∧ w1.cell? ⟨f + 1, 0, none⟩ = some (.int .u32 r) ∧
    (∀ i, w1.frozen? ⟨w.heap.size, i, none⟩ = false) ∧ (∀ i, w1.frozen? ⟨w.heap.size + 1, i, none⟩ = false) ∧ Below w.heap.size w w1 :=
  ⟨(cells_of h.1).1, (cells_of h.2.1).1, (cells_of h.2.2.1).1, by simpa using (cells_of h.2.2.2.1).1 0, (cells_of h.1).2, (cells_of h.2.1).2, h.2.2.2.2.2.1⟩
def hD (q : Nat) : Bool := q ∈ [1, 2, 3, 4, 5, 8, 10, 12, 14, 15]
def hA (q : Nat) : Bool := q ∈ [1, 2, 3, 4, 6, 9, 11, 13, 15]
def hB (q : Nat) : Bool := q ∈ [1, 3]
def hC (q : Nat) : Bool := q ∈ [3]
def hK (q : Nat) : Bool := q ∈ [14, 15]
def nb (q : Nat) : Int := if q ∈ [4, 6, 7, 9, 14, 15] then 65 else if q ∈ [10, 11] then 12 else if q ∈ [12, 13] then 2048 else 0
def wd (q : Nat) : Int := if q ∈ [4, 6, 7, 8, 15] then 2 else if q ∈ [14] then 3 else if q ∈ [1, 2, 3, 5, 9, 10, 11, 12, 13] then 1 else 0
def good (q : Nat) (v : Int) : Prop := (hD q = false → v / 256 % 16 = 0) ∧ (hA q = false → v / 256 / 16 % 16 = 0) ∧ (nb q ≠ 0 → v / 256 / 16 / 16 % 65536 < nb q) ∧
  (nb q = 0 → (hB q = false → v / 256 / 16 / 16 % 16 = 0) ∧ (hC q = false → v / 256 / 16 / 16 / 16 % 16 = 0) ∧ v / 256 / 16 / 16 / 16 / 16 = 0) ∧ (hK q = true → v / 256 % 16 ≠ 0 ∧ v / 256 % 16 ≤ 7)
instance (q : Nat) (v : Int) : Decidable (good q v) := by unfold good; infer_instance
def pick (b : Bool) (v : Int) : Int := if b then v else 0
def dok (q : Nat) (v k x : Int) : Array Value := cod (v % 256) (pick (hD q) (v / 256 % 16)) (pick (hA q) (v / 256 / 16 % 16)) (pick (hB q) (v / 256 / 16 / 16 % 16)) (pick (hC q) (v / 256 / 16 / 16 / 16 % 16))
    (pick (decide (nb q ≠ 0)) (v / 256 / 16 / 16 % 65536)) (pick (decide (1 < wd q)) k) (pick (decide (2 < wd q)) x)
def dres (q : Nat) (v k x : Int) : Value :=
  if good q v then .tuple #[.agg (dok q v k x), .int .i64 (wd q), .int .i64 0] else .tuple #[.agg zer, .int .i64 0, .int .i64 3]
theorem dres_bad {q : Nat} {v k x : Int} (h : ¬ good q v) : dres q v k x = .tuple #[.agg (cod 0 0 0 0 0 0 0 0), .int .i64 0, .int .i64 3] := by rw [dres, if_neg h]; rfl
theorem dres_good {q : Nat} {v k x : Int} (h : good q v) : dres q v k x = .tuple #[.agg (dok q v k x), .int .i64 (wd q), .int .i64 0] := by rw [dres, if_pos h]
theorem set8 {W : World} {g : Nat} {cs : Array Value} {t : TypeId} (h : W.heap[g]? = some (.cells cs t (0, 0))) (hn : cs.size = 8) (x0 x1 x2 x3 x4 x5 x6 x7 : Value) :
    ((((((((W.setCell ⟨g, 0, none⟩ x0).setCell ⟨g, 1, none⟩ x1).setCell ⟨g, 2, none⟩ x2).setCell ⟨g, 3, none⟩ x3).setCell ⟨g, 4, none⟩ x4).setCell ⟨g, 5, none⟩ x5).setCell ⟨g, 6, none⟩ x6).setCell ⟨g, 7, none⟩ x7).heap[g]? = some (.cells #[x0, x1, x2, x3, x4, x5, x6, x7] t (0, 0)) := by
  obtain ⟨a0, a1, a2, a3, a4, a5, a6, a7, rfl⟩ := Kt.size8 hn
  have h0 : (W.setCell ⟨g, 0, none⟩ x0).heap[g]? = some (.cells #[x0, a1, a2, a3, a4, a5, a6, a7] t (0, 0)) := heap_setCell_same _ g 0 _ t x0 h
  generalize W.setCell ⟨g, 0, none⟩ x0 = W0 at h0 ⊢
  have h1 : (W0.setCell ⟨g, 1, none⟩ x1).heap[g]? = some (.cells #[x0, x1, a2, a3, a4, a5, a6, a7] t (0, 0)) := heap_setCell_same _ g 1 _ t x1 h0
  generalize W0.setCell ⟨g, 1, none⟩ x1 = W1 at h1 ⊢
  have h2 : (W1.setCell ⟨g, 2, none⟩ x2).heap[g]? = some (.cells #[x0, x1, x2, a3, a4, a5, a6, a7] t (0, 0)) := heap_setCell_same _ g 2 _ t x2 h1
  generalize W1.setCell ⟨g, 2, none⟩ x2 = W2 at h2 ⊢
  have h3 : (W2.setCell ⟨g, 3, none⟩ x3).heap[g]? = some (.cells #[x0, x1, x2, x3, a4, a5, a6, a7] t (0, 0)) := heap_setCell_same _ g 3 _ t x3 h2
  generalize W2.setCell ⟨g, 3, none⟩ x3 = W3 at h3 ⊢
  have h4 : (W3.setCell ⟨g, 4, none⟩ x4).heap[g]? = some (.cells #[x0, x1, x2, x3, x4, a5, a6, a7] t (0, 0)) := heap_setCell_same _ g 4 _ t x4 h3
  generalize W3.setCell ⟨g, 4, none⟩ x4 = W4 at h4 ⊢
  have h5 : (W4.setCell ⟨g, 5, none⟩ x5).heap[g]? = some (.cells #[x0, x1, x2, x3, x4, x5, a6, a7] t (0, 0)) := heap_setCell_same _ g 5 _ t x5 h4
  generalize W4.setCell ⟨g, 5, none⟩ x5 = W5 at h5 ⊢
  have h6 : (W5.setCell ⟨g, 6, none⟩ x6).heap[g]? = some (.cells #[x0, x1, x2, x3, x4, x5, x6, a7] t (0, 0)) := heap_setCell_same _ g 6 _ t x6 h5
  generalize W5.setCell ⟨g, 6, none⟩ x6 = W6 at h6 ⊢
  have h7 : (W6.setCell ⟨g, 7, none⟩ x7).heap[g]? = some (.cells #[x0, x1, x2, x3, x4, x5, x6, x7] t (0, 0)) := heap_setCell_same _ g 7 _ t x7 h6
  generalize W6.setCell ⟨g, 7, none⟩ x7 = W7 at h7 ⊢
  exact h7
theorem set8_below {B : Nat} {w W : World} {g : Nat} (hb : Below B w W) (hg : B ≤ g) (x0 x1 x2 x3 x4 x5 x6 x7 : Value) :
    Below B w ((((((((W.setCell ⟨g, 0, none⟩ x0).setCell ⟨g, 1, none⟩ x1).setCell ⟨g, 2, none⟩ x2).setCell ⟨g, 3, none⟩ x3).setCell ⟨g, 4, none⟩ x4).setCell ⟨g, 5, none⟩ x5).setCell ⟨g, 6, none⟩ x6).setCell ⟨g, 7, none⟩ x7) :=
  (((((((hb.setCell hg _).setCell hg _).setCell hg _).setCell hg _).setCell hg _).setCell hg _).setCell hg _).setCell hg _
theorem fin25 {W : World} {tmps : Array Value} {T : Nat} {o d a b c n k x m e : Int} (hT : W.heap[T]? = some (.cells (cod o d a b c n k x) 108 (0, 0))) (h4 : tmps.getD 4 undef = .pointer (some ⟨T, 0, none⟩)) (h5 : tmps.getD 5 undef = .int .i64 m) (h6 : tmps.getD 6 undef = .int .i64 e) :
    (results Try.f89 tmps).run Try.prog W = .ok (.tuple #[.agg (cod o d a b c n k x), .int .i64 m, .int .i64 e]) W := by
  have kT := (cells_of hT).1
  simp only [Array.getD_eq_getD_getElem?] at h4 h5 h6
  simp [results, Try.results89, h4, h5, h6, go_sem, kT, cod]
theorem end_any {w W : World} {a : Act} {v : Value} {o d r b c n k x m e : Int} (hT : W.heap[w.heap.size]? = some (.cells zer 108 (0, 0))) (hB : Below w.heap.size w W) (hv : v = .tuple #[.agg (cod o d r b c n k x), .int .i64 m, .int .i64 e])
    (h4 : a.tmps.getD 4 undef = .pointer (some ⟨w.heap.size, 0, none⟩)) (h5 : a.tmps.getD 5 undef = .int .i64 m) (h6 : a.tmps.getD 6 undef = .int .i64 e) (hd : a.defers = []) :
    bodyPost Try.prog Try.f89 (fun e w' => e = .returned v ∧ Below w.heap.size w w') .ret a
      ((((((((W.setCell ⟨w.heap.size, 0, none⟩ (.int .i64 o)).setCell ⟨w.heap.size, 1, none⟩ (.int .i64 d)).setCell ⟨w.heap.size, 2, none⟩ (.int .i64 r)).setCell ⟨w.heap.size, 3, none⟩ (.int .i64 b)).setCell ⟨w.heap.size, 4, none⟩ (.int .i64 c)).setCell ⟨w.heap.size, 5, none⟩ (.int .i64 n)).setCell ⟨w.heap.size, 6, none⟩ (.int .u32 k)).setCell ⟨w.heap.size, 7, none⟩ (.int .u32 x)) := by
  subst hv
  exact bodyPost_ret (fin25 (set8 hT rfl _ _ _ _ _ _ _ _) h4 h5 h6) hd ⟨rfl, set8_below hB (Nat.le_refl _) _ _ _ _ _ _ _ _⟩
theorem end_drew {w W : World} {a : Act} {v : Value} {o d r b c n k x m e : Int} (hT : W.heap[w.heap.size]? = some (.cells zer 108 (0, 0))) (hB : Below w.heap.size w W) (hv : v = .tuple #[.agg (cod o d r b c n k x), .int .i64 m, .int .i64 e])
    (h4 : a.tmps.getD 4 undef = .pointer (some ⟨w.heap.size, 0, none⟩)) (h5 : a.tmps.getD 5 undef = .int .i64 m) (h6 : a.tmps.getD 6 undef = .int .i64 e) (hd : a.defers = []) :
    bodyPost Try.prog Try.f89 (fun e w' => e = .returned v ∧ Below w.heap.size w w') .ret a
      ((((((((W.setCell ⟨w.heap.size, 0, none⟩ (.int .i64 o)).setCell ⟨w.heap.size, 1, none⟩ (.int .i64 d)).setCell ⟨w.heap.size, 2, none⟩ (.int .i64 r)).setCell ⟨w.heap.size, 3, none⟩ (.int .i64 b)).setCell ⟨w.heap.size, 4, none⟩ (.int .i64 c)).setCell ⟨w.heap.size, 5, none⟩ (.int .i64 n)).setCell ⟨w.heap.size, 6, none⟩ (.int .u32 k)).setCell ⟨w.heap.size, 7, none⟩ (.int .u32 x)).drew := by
  subst hv
  exact bodyPost_ret (fin25 (by rw [heap_drew]; exact set8 hT rfl _ _ _ _ _ _ _ _) h4 h5 h6) hd ⟨rfl, (set8_below hB (Nat.le_refl _) _ _ _ _ _ _ _ _).drew⟩
theorem keepB {g : Nat} {w w' : World} {cs : Array Value} (h : ∀ i, w.cell? ⟨g, i, none⟩ = cs[i]?) (hb : Below w.heap.size w w') (hg : g < w.heap.size) : ∀ i, w'.cell? ⟨g, i, none⟩ = cs[i]? :=
  fun i => (hb.cell (p := ⟨g, i, none⟩) hg).trans (h i)
theorem keepF {g : Nat} {w w' : World} (h : ∀ i, w.frozen? ⟨g, i, none⟩ = false) (hb : Below w.heap.size w w') (hg : g < w.heap.size) : ∀ i, w'.frozen? ⟨g, i, none⟩ = false :=
  fun i => (hb.frozen (p := ⟨g, i, none⟩) hg).trans (h i)
/-- behind a callee: two blocks made before it -/
theorem behind2 {w w1 : World} {A B : Array Value} {ta tb : TypeId} (hb1 : Below ((w.alloc (.cells A ta)).alloc (.cells B tb)).heap.size ((w.alloc (.cells A ta)).alloc (.cells B tb)) w1) :
    (∀ i, w1.cell? ⟨w.heap.size, i, none⟩ = A[i]?) ∧ (∀ i, w1.cell? ⟨w.heap.size + 1, i, none⟩ = B[i]?) ∧ (∀ i, w1.frozen? ⟨w.heap.size, i, none⟩ = false) ∧ (∀ i, w1.frozen? ⟨w.heap.size + 1, i, none⟩ = false) ∧
      w.heap.size < w1.heap.size ∧ w.heap.size + 1 < w1.heap.size ∧ Below w.heap.size w w1 := by
  have hs := hb1.size
  simp only [World.size_alloc] at hs
  refine ⟨keepB (fun i => ?_) hb1 (by simp; omega), keepB (fun i => ?_) hb1 (by simp), keepF (fun i => ?_) hb1 (by simp; omega), keepF (fun i => ?_) hb1 (by simp), by omega, by omega, (((Below.refl _ _).alloc (Nat.le_refl _) _).alloc (by simp) _).trans (hb1.mono (by simp; omega))⟩
  · exact World.cell?_alloc2_first _ _ _ _
  · exact World.cell?_alloc2_new _ _ _ _
  · exact World.frozen?_alloc2_first _ _ _ _
  · exact World.frozen?_alloc2_new _ _ _ _
end Go.Proofs.Ytcjcmnnhmajocab.Ho
