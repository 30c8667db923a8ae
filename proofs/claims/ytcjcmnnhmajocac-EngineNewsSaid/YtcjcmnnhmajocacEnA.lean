/- cache.New, (*cache.Cache).Flush: memory of the call's own alone. -/
import Derived.Test.YtcjcmnnhmajocacMeS
import Derived.Laws.IdiomCopy
import Derived.Laws.EntriesVeiled
import Derived.RegionTactic
import Derived.BigRegion
import Derived.Deep.OwnRows
import Derived.Deep.LoopGhost
import Derived.Carry
namespace Go.Proofs.Ytcjcmnnhmajocac.En
open Go.RowKit Kt Me
set_option linter.unusedVariables false
set_option linter.unusedSimpArgs false
/-- a cache in blocks from B on: its struct's, its words', its table's -/
structure CB (B c wb tb nw ns : Nat) (W : World) : Prop where
  c0 : W.cell? ⟨c, 0, none⟩ = some (.slice (some ⟨wb, 0, none⟩) nw nw)
  c1 : ∃ u, W.cell? ⟨c, 1, none⟩ = some u
  c2 : ∃ u, W.cell? ⟨c, 2, none⟩ = some u
  c3 : ∃ u, W.cell? ⟨c, 3, none⟩ = some u
  c4 : W.cell? ⟨c, 4, none⟩ = some (.slice (some ⟨tb, 0, none⟩) ns ns)
  zc : ∀ i, W.frozen? ⟨c, i, none⟩ = false
  cw : ∀ j, j < nw → ∃ u, W.cell? ⟨wb, j, none⟩ = some u
  zw : ∀ i, W.frozen? ⟨wb, i, none⟩ = false
  ct : ∀ j, j < ns * 2 → ∃ u, W.cell? ⟨tb, j, none⟩ = some u
  zt : ∀ i, W.frozen? ⟨tb, i, none⟩ = false
  lc : c < W.heap.size
  lw : wb < W.heap.size
  lt : tb < W.heap.size
  bc : B ≤ c
  bw : B ≤ wb
  bt : B ≤ tb
  n1 : c ≠ wb
  n2 : c ≠ tb
  n3 : wb ≠ tb
theorem u32_info : ∃ i, Try.prog.info? 30 = some i ∧ i.zero = some (.int .u32 0) ∧ i.size = 1 ∧ i.bytes = 4 := by
  have h : (Try.prog.info? 30).map (fun i => (i.zero, i.size, i.bytes)) = some (some (.int .u32 0), 1, 4) := by kernel_rfl
  obtain ⟨i, hi, hz⟩ := Option.map_eq_some_iff.1 h
  simp only [Prod.mk.injEq] at hz
  exact ⟨i, hi, hz.1, hz.2.1, hz.2.2⟩
def zs (n : Nat) : List Value := List.replicate n (.int .u32 0)
theorem zeroCells_u32 (n : Nat) : (Builtin.zeroCells (Value.int .u32 0).cells n).toList = zs n := by
  unfold Builtin.zeroCells zs
  rw [Array.toList_map]
  apply List.ext_getElem
  · simp [Value.cells]
  · intro i h1 h2
    simp [Value.cells, Nat.mod_one]
theorem clear_words (wb n : Nat) (w : World) (ty : TypeId) (hn : 0 < n) (hc : ∀ j, j < n → ∃ u, w.cell? ⟨wb, j, none⟩ = some u) (hz : ∀ i, w.frozen? ⟨wb, i, none⟩ = false) :
    (Builtin.clear_ #[32] ty #[.slice (some ⟨wb, 0, none⟩) n n]).run Try.prog w = .ok (.tuple #[]) (w.setCells wb 0 (zs n)) := by
  have hz' : ∀ w, (zeroValue 30).run Try.prog w = .ok (.int .u32 0) w := fun w => by kernel_rfl
  have hst := run_storeCells_cells (P := Try.prog) wb 0 (zs n) 0 w (fun j hj => ?_) (fun j hj => hz _) (fun v hv => ?_)
  · have hu := run_underlying (P := Try.prog) (w := w) Try.underlying32
    rw [Nat.add_zero] at hst
    obtain ⟨m, rfl⟩ : ∃ m, n = m + 1 := ⟨n - 1, by omega⟩
    simp only [Builtin.clear_, List.getElem?_toArray, List.getElem?_cons_zero, Sem.run_bind, hu, Result.andThen_ok, hz', zeroCells_u32, hst]
    rfl
  · obtain ⟨u, hu⟩ := hc j (by simpa [zs] using hj)
    simp only [Nat.zero_add]; rw [hu]; rfl
  · unfold zs at hv
    rw [List.eq_of_mem_replicate hv]; rfl
theorem CB.upto {B c wb tb nw ns : Nat} {W W' : World} {S : Nat → Prop} (h : CB B c wb tb nw ns W) (u : Upto S W W') (s1 : ¬ S c) (s2 : ¬ S wb) (s3 : ¬ S tb) : CB B c wb tb nw ns W' := by
  obtain ⟨u1, h1⟩ := h.c1
  obtain ⟨u2, h2⟩ := h.c2
  obtain ⟨u3, h3⟩ := h.c3
  exact ⟨(u.cell h.lc s1).trans h.c0, ⟨u1, (u.cell h.lc s1).trans h1⟩, ⟨u2, (u.cell h.lc s1).trans h2⟩, ⟨u3, (u.cell h.lc s1).trans h3⟩, (u.cell h.lc s1).trans h.c4, fun i => (u.frozen h.lc s1).trans (h.zc i),
    fun j hj => by obtain ⟨v, hv⟩ := h.cw j hj; exact ⟨v, (u.cell h.lw s2).trans hv⟩, fun i => (u.frozen h.lw s2).trans (h.zw i),
    fun j hj => by obtain ⟨v, hv⟩ := h.ct j hj; exact ⟨v, (u.cell h.lt s3).trans hv⟩, fun i => (u.frozen h.lt s3).trans (h.zt i),
    Nat.lt_of_lt_of_le h.lc u.size, Nat.lt_of_lt_of_le h.lw u.size, Nat.lt_of_lt_of_le h.lt u.size, h.bc, h.bw, h.bt, h.n1, h.n2, h.n3⟩
theorem some_set {W : World} {b i g k : Nat} {v : Value} (h : ∃ u, W.cell? ⟨b, i, none⟩ = some u) : ∃ u, (W.setCell ⟨g, k, none⟩ v).cell? ⟨b, i, none⟩ = some u := by
  obtain ⟨u, hu⟩ := h
  by_cases he : b = g ∧ i = k
  · obtain ⟨rfl, rfl⟩ := he
    exact ⟨v, World.cell?_setCell_same _ _ _ hu⟩
  · exact ⟨u, by rw [World.cell?_setCell_other _ _ _ _ (by intro h; simp only [Addr.mk.injEq] at h; exact he ⟨by omega, by omega⟩)]; exact hu⟩
theorem CB.setW {B c wb tb nw ns : Nat} {W : World} (h : CB B c wb tb nw ns W) (k : Nat) (v : Value) : CB B c wb tb nw ns (W.setCell ⟨wb, k, none⟩ v) := by
  have n1 := h.n1
  have n3 := h.n3
  have e : ∀ i, (W.setCell ⟨wb, k, none⟩ v).cell? ⟨c, i, none⟩ = W.cell? ⟨c, i, none⟩ := fun i => World.cell?_setCell_other _ _ _ _ (by intro h; simp only [Addr.mk.injEq] at h; omega)
  exact ⟨(e _).trans h.c0, some_set h.c1, some_set h.c2, some_set h.c3, (e _).trans h.c4, fun i => by simpa using h.zc i, fun j hj => some_set (h.cw j hj), fun i => by simpa using h.zw i, fun j hj => some_set (h.ct j hj), fun i => by simpa using h.zt i,
    by simpa using h.lc, by simpa using h.lw, by simpa using h.lt, h.bc, h.bw, h.bt, h.n1, h.n2, h.n3⟩
theorem CB.setT {B c wb tb nw ns : Nat} {W : World} (h : CB B c wb tb nw ns W) (k : Nat) (v : Value) : CB B c wb tb nw ns (W.setCell ⟨tb, k, none⟩ v) := by
  have n2 := h.n2
  have e : ∀ i, (W.setCell ⟨tb, k, none⟩ v).cell? ⟨c, i, none⟩ = W.cell? ⟨c, i, none⟩ := fun i => World.cell?_setCell_other _ _ _ _ (by intro h; simp only [Addr.mk.injEq] at h; omega)
  exact ⟨(e _).trans h.c0, some_set h.c1, some_set h.c2, some_set h.c3, (e _).trans h.c4, fun i => by simpa using h.zc i, fun j hj => some_set (h.cw j hj), fun i => by simpa using h.zw i, fun j hj => some_set (h.ct j hj), fun i => by simpa using h.zt i,
    by simpa using h.lc, by simpa using h.lw, by simpa using h.lt, h.bc, h.bw, h.bt, h.n1, h.n2, h.n3⟩
theorem CB.setC {B c wb tb nw ns : Nat} {W : World} (h : CB B c wb tb nw ns W) (k : Nat) (v : Value) (k0 : k ≠ 0) (k4 : k ≠ 4) : CB B c wb tb nw ns (W.setCell ⟨c, k, none⟩ v) := by
  have e : ∀ i, i ≠ k → (W.setCell ⟨c, k, none⟩ v).cell? ⟨c, i, none⟩ = W.cell? ⟨c, i, none⟩ := fun i hi => World.cell?_setCell_other _ _ _ _ (by intro h; simp only [Addr.mk.injEq] at h; omega)
  exact ⟨(e _ (Ne.symm k0)).trans h.c0, some_set h.c1, some_set h.c2, some_set h.c3, (e _ (Ne.symm k4)).trans h.c4, fun i => by simpa using h.zc i, fun j hj => some_set (h.cw j hj), fun i => by simpa using h.zw i, fun j hj => some_set (h.ct j hj), fun i => by simpa using h.zt i,
    by simpa using h.lc, by simpa using h.lw, by simpa using h.lt, h.bc, h.bw, h.bt, h.n1, h.n2, h.n3⟩
theorem CB.setWs {B c wb tb nw ns : Nat} (vs : List Value) : ∀ {W : World} (at_ : Nat), CB B c wb tb nw ns W → CB B c wb tb nw ns (W.setCells wb at_ vs) := by
  induction vs with
  | nil => exact fun _ h => h
  | cons v vs ih => exact fun at_ h => ih (at_ + 1) (h.setW at_ v)
theorem Below.setCells {B g : Nat} {a : World} (hg : B ≤ g) (vs : List Value) : ∀ {W : World} (at_ : Nat), Below B a W → Below B a (W.setCells g at_ vs) := by
  induction vs with
  | nil => exact fun _ h => h
  | cons v vs ih => exact fun at_ h => ih (at_ + 1) (h.setCell (p := ⟨g, at_, none⟩) hg v)
set_option maxRecDepth 100000 in
set_option maxHeartbeats 4000000 in
theorem flush_any (B c wb tb nw ns : Nat) (w : World) (h : CB B c wb tb nw ns w) (hw : 0 < nw) (hmx : ns ≤ 65536) (hB : B ≤ w.heap.size) :
    Calls Try.prog 19 #[.pointer (some ⟨c, 0, none⟩)] w fun e w' => e = .returned (.tuple #[]) ∧ CB B c wb tb nw ns w' ∧ Below B w w' := by
  have q0 := h.c0
  have hcl := clear_words wb nw w 0 hw h.cw h.zw
  have H1 := Lib.hid (CB.setWs (zs nw) 0 h)
  have B1 := Lib.hid (Below.setCells h.bw (zs nw) 0 (Below.refl B w))
  generalize w.setCells wb 0 (zs nw) = W1 at hcl H1 B1
  obtain ⟨u1, q1⟩ := H1.out.c1
  obtain ⟨u2, q2⟩ := H1.out.c2
  obtain ⟨u3, q3⟩ := H1.out.c3
  have q4 := H1.out.c4
  have z1 := H1.out.zc 1
  have z2 := H1.out.zc 2
  have z3 := H1.out.zc 3
  have lc1 := H1.out.lc
  have hmm := @run_makeMap Try.prog
  have H2 := Lib.hid (fun (o1 o2 : Obj) v1 v2 v3 => ((((H1.out.setC 1 v1 (by omega) (by omega)).setC 2 v2 (by omega) (by omega)).setC 3 v3 (by omega) (by omega)).upto (((Upto.refl (fun _ => False) _).alloc o1).alloc o2) id id id))
  have B2 := Lib.hid (fun (o1 o2 : Obj) v1 v2 v3 => (((((B1.out.setCell (p := ⟨c, 1, none⟩) H1.out.bc v1).setCell (p := ⟨c, 2, none⟩) H1.out.bc v2).setCell (p := ⟨c, 3, none⟩) H1.out.bc v3).alloc (by have := B1.out.size; simp; omega) o1).alloc (by have := B1.out.size; simp; omega) o2))
  clear h
  go_enter Try.func19, Try.ntmps19
  go_wp2
  have H3 := Lib.hid (H2.out (.map #[] 0) (.map #[] 0) (.int .i64 0) (.map (some W1.heap.size)) (.map (some (W1.heap.size + 1))))
  have B3 := Lib.hid (B2.out (.map #[] 0) (.map #[] 0) (.int .i64 0) (.map (some W1.heap.size)) (.map (some (W1.heap.size + 1))))
  generalize (((((W1.setCell ⟨c, 1, none⟩ (.int .i64 0)).setCell ⟨c, 2, none⟩ (.map (some W1.heap.size))).setCell ⟨c, 3, none⟩ (.map (some (W1.heap.size + 1)))).alloc (.map #[] 0)).alloc (.map #[] 0)) = W3 at H3 B3 ⊢
  clear H1 B1 H2 B2 q1 q2 q3 q4 z1 z2 z3 lc1 hcl q0
  go_loopg [23] ns (fun g i wr => ∃ k : Nat, g = ns - k ∧ k ≤ ns ∧ i = .int .i64 k ∧ Hid (CB B c wb tb nw ns wr) ∧ Hid (Below B w wr))
  case atStart => exact ⟨0, rfl, Nat.zero_le _, rfl, H3.out, B3.out⟩
  case round =>
    obtain ⟨k, hg, hk, rfl, HC, HB⟩ := hrel
    by_cases hlt : k < ns
    · have hlt' : (k : Int) < (ns : Int) := by omega
      have hge' : (0 : Int) ≤ (k : Int) := by omega
      have q4 := HC.out.c4
      obtain ⟨u1, d1⟩ := HC.out.ct (k * 2) (by omega)
      obtain ⟨u2, d2⟩ := HC.out.ct (k * 2 + 1) (by omega)
      have z1 := HC.out.zt (k * 2)
      have z2 := HC.out.zt (k * 2 + 1)
      go_wp2
      go_roundg (ns - (k + 1))
      case measure => omega
      case rel => exact ⟨k + 1, rfl, by omega, by simp, (HC.out.setT _ _).setT _ _, (HB.out.setCell (p := ⟨tb, k * 2, none⟩) HC.out.bt _).setCell (p := ⟨tb, k * 2 + 1, none⟩) HC.out.bt _⟩
    · obtain rfl : k = ns := by omega
      go_wp2
      go_end0
      exact ⟨rfl, HC.out, HB.out⟩
end Go.Proofs.Ytcjcmnnhmajocac.En
