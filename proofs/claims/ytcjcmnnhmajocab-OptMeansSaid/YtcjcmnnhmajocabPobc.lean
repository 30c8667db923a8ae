/- opt: dead. -/
import Derived.Deep.RegionHeld3
import Derived.Laws.MakeOwn
import Derived.Test.YtcjcmnnhmajocabPoaq
import Derived.Test.YtcjcmnnhmajocabPobb
namespace Go.Proofs.Ytcjcmnnhmajocab.Ot
open Go.RowKit Go.Shelf Kt Ic Me Ev
set_option linter.unusedVariables false
set_option linter.unusedSimpArgs false
attribute [local go_sem] Oper.semAt_some
theorem bool_i : ∃ i, Try.prog.info? 4 = some i ∧ i.zero = some (.bool false) ∧ i.size = 1 ∧ i.bytes = 1 := by
  have h : (Try.prog.info? 4).map (fun i => (i.zero, i.size, i.bytes)) = some (some (.bool false), 1, 1) := by kernel_rfl
  obtain ⟨i, hi, hz⟩ := Option.map_eq_some_iff.1 h
  simp only [Prod.mk.injEq] at hz
  exact ⟨i, hi, hz.1, hz.2.1, hz.2.2⟩
variable {W W' : World}
/-- what is known, in memory -/
structure DM (B n : Nat) (d : Dd) (W : World) : Prop where
  vk : W.cell? ⟨B + 1, 0, none⟩ = some (.slice (some ⟨B, 0, none⟩) n n)
  vu : W.cell? ⟨B + 1 + 1 + 1, 0, none⟩ = some (.slice (some ⟨B + 1 + 1, 0, none⟩) n n)
  kp : ∀ j, j < n → W.cell? ⟨B, j, none⟩ = some (.bool (d.kp j))
  us : ∀ j, j < n → W.cell? ⟨B + 1 + 1, j, none⟩ = some (.bool (d.us j))
  ov : ∀ j, j < 12 → W.cell? ⟨B + 1 + 1 + 1 + 1, j, none⟩ = some (.bool (d.ov j))
  zk : ∀ j, j < n → W.frozen? ⟨B, j, none⟩ = false
  zu : ∀ j, j < n → W.frozen? ⟨B + 1 + 1, j, none⟩ = false
  zo : ∀ j, j < 12 → W.frozen? ⟨B + 1 + 1 + 1 + 1, j, none⟩ = false
  l : B + 1 + 1 + 1 + 1 < W.heap.size
variable {B n : Nat} {d : Dd}
theorem DM.upto {S : Nat → Prop} (a : DM B n d W) (u : Upto S W W') (hs : ∀ i, i ≤ B + 1 + 1 + 1 + 1 → ¬ S i) : DM B n d W' := by
  have l := a.l
  have e : ∀ i j, i ≤ B + 1 + 1 + 1 + 1 → W'.cell? ⟨i, j, none⟩ = W.cell? ⟨i, j, none⟩ := fun i j hi => u.cell (q := ⟨i, j, none⟩) (by show i < _; omega) (hs i hi)
  have z : ∀ i j, i ≤ B + 1 + 1 + 1 + 1 → W'.frozen? ⟨i, j, none⟩ = W.frozen? ⟨i, j, none⟩ := fun i j hi => u.frozen (q := ⟨i, j, none⟩) (by show i < _; omega) (hs i hi)
  exact ⟨(e _ _ (by omega)).trans a.vk, (e _ _ (by omega)).trans a.vu, fun j hj => (e _ _ (by omega)).trans (a.kp j hj), fun j hj => (e _ _ (by omega)).trans (a.us j hj), fun j hj => (e _ _ (by omega)).trans (a.ov j hj),
    fun j hj => (z _ _ (by omega)).trans (a.zk j hj), fun j hj => (z _ _ (by omega)).trans (a.zu j hj), fun j hj => (z _ _ (by omega)).trans (a.zo j hj), Nat.lt_of_lt_of_le l u.size⟩
theorem DM.below (a : DM B n d W) (u : Below W.heap.size W W') : DM B n d W' := a.upto (Upto.of_below (S := fun _ => False) u) fun _ _ => id
theorem DM.setK (a : DM B n d W) (i : Nat) (hi : i < n) (x : Bool) : DM B n ⟨d.ov, d.us, upd d.kp i x⟩ (W.setCell ⟨B, i, none⟩ (.bool x)) := by
  have o : ∀ b j, b ≠ B → (W.setCell ⟨B, i, none⟩ (Value.bool x)).cell? ⟨b, j, none⟩ = W.cell? ⟨b, j, none⟩ := fun b j hb => World.cell?_setCell_other _ _ _ _ (by intro h; simp only [Addr.mk.injEq] at h; exact hb h.1.symm)
  refine ⟨(o _ _ (by omega)).trans a.vk, (o _ _ (by omega)).trans a.vu, fun j hj => ?_, fun j hj => (o _ _ (by omega)).trans (a.us j hj), fun j hj => (o _ _ (by omega)).trans (a.ov j hj), fun j hj => by simpa using a.zk j hj, fun j hj => by simpa using a.zu j hj, fun j hj => by simpa using a.zo j hj, by simpa using a.l⟩
  show _ = some (Value.bool (upd d.kp i x j))
  unfold upd
  by_cases e : j = i
  · rw [if_pos e, e]; exact World.cell?_setCell_same _ _ _ (a.kp i hi)
  · rw [if_neg e, HM.cell_other e]; exact a.kp j hj
theorem DM.setU (a : DM B n d W) (i : Nat) (hi : i < n) (x : Bool) : DM B n ⟨d.ov, upd d.us i x, d.kp⟩ (W.setCell ⟨B + 1 + 1, i, none⟩ (.bool x)) := by
  have o : ∀ b j, b ≠ B + 1 + 1 → (W.setCell ⟨B + 1 + 1, i, none⟩ (Value.bool x)).cell? ⟨b, j, none⟩ = W.cell? ⟨b, j, none⟩ := fun b j hb => World.cell?_setCell_other _ _ _ _ (by intro h; simp only [Addr.mk.injEq] at h; exact hb h.1.symm)
  refine ⟨(o _ _ (by omega)).trans a.vk, (o _ _ (by omega)).trans a.vu, fun j hj => (o _ _ (by omega)).trans (a.kp j hj), fun j hj => ?_, fun j hj => (o _ _ (by omega)).trans (a.ov j hj), fun j hj => by simpa using a.zk j hj, fun j hj => by simpa using a.zu j hj, fun j hj => by simpa using a.zo j hj, by simpa using a.l⟩
  show _ = some (Value.bool (upd d.us i x j))
  unfold upd
  by_cases e : j = i
  · rw [if_pos e, e]; exact World.cell?_setCell_same _ _ _ (a.us i hi)
  · rw [if_neg e, HM.cell_other e]; exact a.us j hj
theorem DM.setO (a : DM B n d W) (i : Nat) (hi : i < 12) (x : Bool) : DM B n ⟨upd d.ov i x, d.us, d.kp⟩ (W.setCell ⟨B + 1 + 1 + 1 + 1, i, none⟩ (.bool x)) := by
  have o : ∀ b j, b ≠ B + 1 + 1 + 1 + 1 → (W.setCell ⟨B + 1 + 1 + 1 + 1, i, none⟩ (Value.bool x)).cell? ⟨b, j, none⟩ = W.cell? ⟨b, j, none⟩ := fun b j hb => World.cell?_setCell_other _ _ _ _ (by intro h; simp only [Addr.mk.injEq] at h; exact hb h.1.symm)
  refine ⟨(o _ _ (by omega)).trans a.vk, (o _ _ (by omega)).trans a.vu, fun j hj => (o _ _ (by omega)).trans (a.kp j hj), fun j hj => (o _ _ (by omega)).trans (a.us j hj), fun j hj => ?_, fun j hj => by simpa using a.zk j hj, fun j hj => by simpa using a.zu j hj, fun j hj => by simpa using a.zo j hj, by simpa using a.l⟩
  show _ = some (Value.bool (upd d.ov i x j))
  unfold upd
  by_cases e : j = i
  · rw [if_pos e, e]; exact World.cell?_setCell_same _ _ _ (a.ov i hi)
  · rw [if_neg e, HM.cell_other e]; exact a.ov j hj
theorem DM.eqv {d' : Dd} (a : DM B n d W) (h1 : ∀ j, j < 12 → d.ov j = d'.ov j) (h2 : ∀ j, j < n → d.us j = d'.us j) (h3 : ∀ j, j < n → d.kp j = d'.kp j) : DM B n d' W :=
  ⟨a.vk, a.vu, fun j hj => by rw [a.kp j hj, h3 j hj], fun j hj => by rw [a.us j hj, h2 j hj], fun j hj => by rw [a.ov j hj, h1 j hj], a.zk, a.zu, a.zo, a.l⟩
theorem setCells_upto {S : Nat → Prop} {b : Nat} (hb : S b) : ∀ (vs : List Value) (off : Nat) (W0 W : World), Upto S W0 W → Upto S W0 (W.setCells b off vs)
  | [], _, _, _, u => u
  | v :: vs, off, W0, W, u => setCells_upto hb vs (off + 1) W0 _ (u.setCell (q := ⟨b, off, none⟩) (.inl hb) v)
theorem DM.clr : ∀ (m off : Nat) (d : Dd) (W : World), off + m ≤ 12 → DM B n d W → DM B n ⟨fun j => if off ≤ j ∧ j < off + m then false else d.ov j, d.us, d.kp⟩ (W.setCells (B + 1 + 1 + 1 + 1) off (List.replicate m (.bool false)))
  | 0, off, d, W, _, a => a.eqv (fun j _ => by show d.ov j = if off ≤ j ∧ j < off + 0 then false else d.ov j; rw [if_neg (by omega)]) (fun _ _ => rfl) fun _ _ => rfl
  | m + 1, off, d, W, h, a => (DM.clr m (off + 1) _ _ (by omega) (a.setO off (by omega) false)).eqv (fun j _ => by
      show (if off + 1 ≤ j ∧ j < off + 1 + m then false else upd d.ov off false j) = if off ≤ j ∧ j < off + (m + 1) then false else d.ov j
      unfold upd
      by_cases e : j = off
      · rw [if_pos e, if_neg (by omega), if_pos (by omega)]
      · rw [if_neg e]
        by_cases e2 : off + 1 ≤ j ∧ j < off + 1 + m
        · rw [if_pos e2, if_pos (by omega)]
        · rw [if_neg e2, if_neg (by omega)]) (fun _ _ => rfl) fun _ _ => rfl
theorem clear_b (b off m : Nat) (w : World) (ty : TypeId) (hm : 0 < m) (hc : ∀ j, j < m → ∃ u, w.cell? ⟨b, off + j, none⟩ = some u) (hz : ∀ j, j < m → w.frozen? ⟨b, off + j, none⟩ = false) :
    (Builtin.clear_ #[79] ty #[.slice (some ⟨b, off, none⟩) m m]).run Try.prog w = .ok (.tuple #[]) (w.setCells b off (List.replicate m (.bool false))) := by
  have hz' : ∀ w, (zeroValue 4).run Try.prog w = .ok (.bool false) w := fun w => by kernel_rfl
  have hzc : (Builtin.zeroCells (Value.bool false).cells m).toList = List.replicate m (.bool false) := by
    unfold Builtin.zeroCells
    rw [Array.toList_map]
    apply List.ext_getElem
    · simp [Value.cells]
    · intro i h1 h2
      simp [Value.cells, Nat.mod_one]
  have hst := run_storeCells_cells (P := Try.prog) b off (List.replicate m (.bool false)) 0 w (fun j hj => ?_) (fun j hj => ?_) (fun v hv => ?_)
  · have hu := run_underlying (P := Try.prog) (w := w) Try.underlying79
    rw [Nat.add_zero] at hst
    obtain ⟨m, rfl⟩ : ∃ k, m = k + 1 := ⟨m - 1, by omega⟩
    simp only [Builtin.clear_, List.getElem?_toArray, List.getElem?_cons_zero, Sem.run_bind, hu, Result.andThen_ok, hz', hzc, hst]
    rfl
  · obtain ⟨u, hu⟩ := hc j (by simpa using hj)
    first | (rw [Nat.add_zero, hu]; rfl) | (rw [hu]; rfl)
  · exact hz _ (by simpa using hj)
  · rw [List.eq_of_mem_replicate hv]; rfl
/-- it speaks of cells alone -/
theorem DM.own {β : Type} (f : β → Dd) : Own (fun s W => DM B n (f s) W) := fun s X Y row a hg hr =>
  ⟨cell_kept a.vk hg hr, cell_kept a.vu hg hr, fun j hj => cell_kept (a.kp j hj) hg hr, fun j hj => cell_kept (a.us j hj) hg hr, fun j hj => cell_kept (a.ov j hj) hg hr,
    fun j hj => (frozen_kept (a.kp j hj) hg hr).trans (a.zk j hj), fun j hj => (frozen_kept (a.us j hj) hg hr).trans (a.zu j hj), fun j hj => (frozen_kept (a.ov j hj) hg hr).trans (a.zo j hj), Nat.lt_of_lt_of_le a.l hg.size⟩
theorem OB.own {β : Type} (b : Nat) (o : Opr) : Own (fun (_ : β) W => OB b o W) := fun s X Y row a hg hr => ⟨Nat.lt_of_lt_of_le a.1 hg.size, fun j u hj => cell_kept (a.2 j u hj) hg hr⟩
/-- what is known when so much has come -/
def dF (os : List Opr) (pre : List Nat) : Dd := pre.foldl (fun d x => d.one (ix os.length x) (opAt os (ix os.length x))) d0
theorem dF_snoc (os : List Opr) (pre : List Nat) (x : Nat) : dF os (pre ++ [x]) = (dF os pre).one (ix os.length x) (opAt os (ix os.length x)) := by unfold dF; rw [List.foldl_append]; rfl
theorem dF_all (os : List Opr) : ∀ k, k ≤ os.length → dF os (bl os.length k) = db os k
  | 0, _ => rfl
  | k + 1, h => by
    rw [bl_succ, dF_snoc, dF_all os k (by omega), ix_self (by omega), show os.length - 1 - k = os.length - (k + 1) by omega]
    rfl
theorem made_DM (w : World) (n : Nat) (t1 t2 t3 t4 t5 : TypeId) (W : World) (hW : W = ((((w.alloc (.cells (madeCells #[.bool false] n) t1)).alloc (.cells #[.slice (some ⟨w.heap.size, 0, none⟩) n n] t2)).alloc (.cells (madeCells #[.bool false] n) t3)).alloc (.cells #[.slice (some ⟨w.heap.size + 1 + 1, 0, none⟩) n n] t4)).alloc (.cells #[.bool false, .bool false, .bool false, .bool false, .bool false, .bool false, .bool false, .bool false, .bool false, .bool false, .bool false, .bool false] t5)) :
    DM w.heap.size n d0 W := by
  have cz : ∀ (V : World) (C : Array Value) (t : TypeId) (X : World) (u : Upto (fun _ => False) (V.alloc (.cells C t)) X) (j : Nat), X.cell? ⟨V.heap.size, j, none⟩ = C[j]? ∧ X.frozen? ⟨V.heap.size, j, none⟩ = false := fun V C t X u j => by
    have hl : V.heap.size < (V.alloc (.cells C t)).heap.size := by simp
    exact ⟨(u.cell (q := ⟨V.heap.size, j, none⟩) hl id).trans (cell_of_row _ _ _ _ _ _ (heap_alloc_new _ _)), (u.frozen (q := ⟨V.heap.size, j, none⟩) hl id).trans (by simp)⟩
  have c1 := cz w (madeCells #[.bool false] n) t1 W (by rw [hW]; exact ((((Upto.refl _ _).alloc _).alloc _).alloc _).alloc _)
  have c2 := cz (w.alloc (.cells (madeCells #[.bool false] n) t1)) #[.slice (some ⟨w.heap.size, 0, none⟩) n n] t2 W (by rw [hW]; exact (((Upto.refl _ _).alloc _).alloc _).alloc _)
  have c3 := cz ((w.alloc (.cells (madeCells #[.bool false] n) t1)).alloc (.cells #[.slice (some ⟨w.heap.size, 0, none⟩) n n] t2)) (madeCells #[.bool false] n) t3 W (by rw [hW]; exact ((Upto.refl _ _).alloc _).alloc _)
  have c4 := cz (((w.alloc (.cells (madeCells #[.bool false] n) t1)).alloc (.cells #[.slice (some ⟨w.heap.size, 0, none⟩) n n] t2)).alloc (.cells (madeCells #[.bool false] n) t3)) #[.slice (some ⟨w.heap.size + 1 + 1, 0, none⟩) n n] t4 W (by rw [hW]; exact (Upto.refl _ _).alloc _)
  have c5 := cz ((((w.alloc (.cells (madeCells #[.bool false] n) t1)).alloc (.cells #[.slice (some ⟨w.heap.size, 0, none⟩) n n] t2)).alloc (.cells (madeCells #[.bool false] n) t3)).alloc (.cells #[.slice (some ⟨w.heap.size + 1 + 1, 0, none⟩) n n] t4)) #[.bool false, .bool false, .bool false, .bool false, .bool false, .bool false, .bool false, .bool false, .bool false, .bool false, .bool false, .bool false] t5 W (by rw [hW]; exact Upto.refl _ _)
  simp only [World.size_alloc] at c1 c2 c3 c4 c5
  refine ⟨(c2 0).1.trans rfl, (c4 0).1.trans rfl, fun j hj => (c1 j).1.trans (made1 _ n j hj), fun j hj => (c3 j).1.trans (made1 _ n j hj), fun j hj => ?_, fun j _ => (c1 j).2, fun j _ => (c3 j).2, fun j _ => (c5 j).2, by rw [hW]; simp⟩
  refine (c5 j).1.trans ?_
  rcases (show j = 0 ∨ j = 1 ∨ j = 2 ∨ j = 3 ∨ j = 4 ∨ j = 5 ∨ j = 6 ∨ j = 7 ∨ j = 8 ∨ j = 9 ∨ j = 10 ∨ j = 11 by omega) with rfl | rfl | rfl | rfl | rfl | rfl | rfl | rfl | rfl | rfl | rfl | rfl <;> rfl
/-- so many are marked -/
def mks (f : Nat → Bool) (g : Nat → Int) (u : Nat → Bool) : Nat → Nat → Bool
  | 0 => u
  | j + 1 => mk1 (f j) (mks f g u j) (g j)
/-- three places and whether they are values -/
def TB (B : Nat) (f : Nat → Bool) (g : Nat → Int) (W : World) : Prop := B < W.heap.size ∧ ∀ j, j < 3 → W.cell? ⟨B, j * 2, none⟩ = some (.bool (f j)) ∧ W.cell? ⟨B, j * 2 + 1, none⟩ = some (.int .i64 (g j))
theorem TB.upto {B : Nat} {f : Nat → Bool} {g : Nat → Int} {S : Nat → Prop} (a : TB B f g W) (u : Upto S W W') (hs : ¬ S B) : TB B f g W' :=
  ⟨Nat.lt_of_lt_of_le a.1 u.size, fun j hj => ⟨(u.cell (q := ⟨B, j * 2, none⟩) a.1 hs).trans (a.2 j hj).1, (u.cell (q := ⟨B, j * 2 + 1, none⟩) a.1 hs).trans (a.2 j hj).2⟩⟩
theorem TB.new (w : World) (f : Nat → Bool) (g : Nat → Int) (ty : TypeId) : TB w.heap.size f g (w.alloc (.cells #[.bool (f 0), .int .i64 (g 0), .bool (f 1), .int .i64 (g 1), .bool (f 2), .int .i64 (g 2)] ty)) :=
  have e : ∀ j v, (#[.bool (f 0), .int .i64 (g 0), .bool (f 1), .int .i64 (g 1), .bool (f 2), .int .i64 (g 2)] : Array Value)[j]? = some v → (w.alloc (.cells #[.bool (f 0), .int .i64 (g 0), .bool (f 1), .int .i64 (g 1), .bool (f 2), .int .i64 (g 2)] ty)).cell? ⟨w.heap.size, j, none⟩ = some v := fun j v h => (cell_of_row _ _ _ _ _ _ (heap_alloc_new w _)).trans h
  ⟨by simp, fun j hj => by
    rcases (show j = 0 ∨ j = 1 ∨ j = 2 by omega) with rfl | rfl | rfl
    · exact ⟨e 0 _ rfl, e 1 _ rfl⟩
    · exact ⟨e 2 _ rfl, e 3 _ rfl⟩
    · exact ⟨e 4 _ rfl, e 5 _ rfl⟩⟩
/-- what the walk over a list asks -/
structure DH (os : List Opr) : Prop where
  w : ∀ i, i < os.length → (opAt os i).k = 2 ∨ (opAt os i).k = 3 → 0 ≤ (opAt os i).w ∧ (opAt os i).w < 12
  t : ∀ i, i < os.length → ∀ j, j < 3 → isR (opAt os i).k j = true → 0 ≤ ar (opAt os i) j ∧ ar (opAt os i) j < os.length
/-- the walk's places, where dead lays them -/
def kD (B n : Nat) : Wc := ⟨B + 1, B, n, .map none, B + 1, B + 1 + 1⟩
theorem made_WMd (w : World) (n : Nat) (t1 t2 : TypeId) (W : World) (hW : W = (w.alloc (.cells (madeCells #[.int .i64 0] n) t1)).alloc (.cells #[.slice none 0 0, .slice (some ⟨w.heap.size, 0, none⟩) n n, .int .i64 0, .int .i64 0, .int .i64 0, .int .i64 0, .int .i64 0, .int .i64 0, .int .i64 0, .int .i64 0, .int .i64 0, .int .i64 0, .int .i64 0, .int .i64 0, .map none, .int .i64 0] t2)) :
    WM (kD w.heap.size n) e0 W := by
  have s1 : (w.alloc (.cells (madeCells #[.int .i64 0] n) t1)).heap.size = w.heap.size + 1 := by simp
  have s3 : W.heap.size = w.heap.size + 1 + 1 := by rw [hW]; simp
  have hh : ∀ j, W.cell? ⟨w.heap.size + 1, j, none⟩ = (#[Value.slice none 0 0, .slice (some ⟨w.heap.size, 0, none⟩) n n, .int .i64 0, .int .i64 0, .int .i64 0, .int .i64 0, .int .i64 0, .int .i64 0, .int .i64 0, .int .i64 0, .int .i64 0, .int .i64 0, .int .i64 0, .int .i64 0, .map none, .int .i64 0] : Array Value)[j]? := fun j => by
    rw [← s1, hW]; exact cell_of_row _ _ _ _ _ _ (heap_alloc_new _ _)
  have u1 : Upto (fun _ => False) (w.alloc (.cells (madeCells #[.int .i64 0] n) t1)) W := by rw [hW]; exact (Upto.refl _ _).alloc _
  have hz : ∀ (V : World) (C : Array Value) (t : TypeId) (j : Nat), (V.alloc (.cells C t)).frozen? ⟨V.heap.size, j, none⟩ = false := fun V C t j => by simp
  have ht : ∀ j, W.cell? ⟨w.heap.size, j, none⟩ = (madeCells #[.int .i64 0] n)[j]? := fun j => by
    rw [u1.cell (q := ⟨w.heap.size, j, none⟩) (by rw [s1]; show w.heap.size < _; omega) id]; exact cell_of_row _ _ _ _ _ _ (heap_alloc_new _ _)
  refine ⟨⟨.slice none 0 0, (hh 0).trans rfl, World.ownsRow_nil _ _ _ _⟩, (hh 1).trans rfl, fun j hj => ?_, (hh 14).trans rfl, (hh 15).trans rfl, fun t ht' => (ht t).trans (made1 _ n t ht'), fun j => ?_, fun j => ?_, ?_, ?_, ?_, ?_⟩
  · refine (hh (2 + j)).trans ?_
    rcases (show j = 0 ∨ j = 1 ∨ j = 2 ∨ j = 3 ∨ j = 4 ∨ j = 5 ∨ j = 6 ∨ j = 7 ∨ j = 8 ∨ j = 9 ∨ j = 10 ∨ j = 11 by omega) with rfl | rfl | rfl | rfl | rfl | rfl | rfl | rfl | rfl | rfl | rfl | rfl <;> rfl
  · show W.frozen? ⟨w.heap.size + 1, j, none⟩ = false
    rw [← s1, hW]; exact hz _ _ _ _
  · show W.frozen? ⟨w.heap.size, j, none⟩ = false
    rw [u1.frozen (q := ⟨w.heap.size, j, none⟩) (by rw [s1]; show w.heap.size < _; omega) id]; exact hz _ _ _ _
  · show w.heap.size + 1 < w.heap.size + 1 + 1; omega
  · show w.heap.size < w.heap.size + 1 + 1; omega
  · show w.heap.size + 1 ≠ w.heap.size; omega
  · show w.heap.size + 1 + 1 ≤ W.heap.size; omega
theorem sw_kD {NW n i : Nat} {s : Wk} (a : WM (kD NW n) s W) (e : SW (kD NW n) W i) : NW ≤ i := by
  rcases e with e | e | e | e
  · have : i = NW + 1 := e; omega
  · have : i = NW := e; omega
  · have : i = NW + 1 := e; omega
  · have h : NW + 1 + 1 ≤ i := (a.own e).1; omega
theorem ds_len (os : List Opr) : ∀ j, (ds os j).ops.length ≤ j
  | 0 => Nat.le_refl _
  | j + 1 => by
    have ih := ds_len os j
    show (if kps os j = true then _ else _ : Wk).ops.length ≤ _
    by_cases h : kps os j = true
    · rw [if_pos h]
      show ((ds os j).ops ++ [_]).length ≤ _
      rw [List.length_append]
      exact Nat.succ_le_succ ih
    · rw [if_neg h]; omega
set_option maxRecDepth 100000 in
set_option maxHeartbeats 4000000 in
theorem dead_any (os : List Opr) (ao : Option Addr) (cap : Nat) (w : World) (h : Ops os ao cap w) (hl : os.length ≤ 2048) (h0 : 0 < os.length) (hd : DH os) :
    Calls Try.prog 71 #[.slice ao os.length cap] w fun e w' => ∃ v, e = .returned v ∧ OwnO w.heap.size v (ded os) w' ∧ Below w.heap.size w w' := by
  refine (callsIn_wide (n := 20)).1 ?_
  refine callsIn_of_wp_marks Try.func71 rfl trivial ?_ rfl
  simp only [Try.ntmps71, List.size_toArray, List.length_cons, List.length_nil, Nat.reduceAdd, Nat.reduceSub, Array.replicate_succ, Array.replicate_zero, List.push_toArray, List.append_toArray, List.nil_append, List.cons_append]
  obtain ⟨iv, hiv, hzv, hsv, hbv⟩ := bool_i
  have hmk : ∀ w : World, (Instr.makeSlice 79 (.int .i64 (os.length : Int)) (.int .i64 (os.length : Int))).run Try.prog w = .ok (.slice (some ⟨w.heap.size, 0, none⟩) os.length os.length) (w.alloc (.cells (madeCells #[.bool false] os.length) 4)) := fun w => by
    have := run_make (P := Try.prog) w 79 4 iv (.bool false) Try.underlying79 hiv hzv .i64 .i64 os.length os.length (by omega) (Int.le_refl _) (by rw [hbv]; omega) (by omega)
    rw [hsv, show (Value.bool false).cells = #[.bool false] from rfl] at this
    simpa using this
  have HO := Lib.hid h
  have HD := Lib.hid hd
  obtain ⟨hcap, hmx, hc⟩ := h
  obtain ⟨g, off, rfl, hg, hc⟩ := hc h0
  clear hiv hzv hsv hbv hd
  gi_wp2_with (refine ⟨trivial, ?_⟩; gi_at_call 117; refine (back_in Fence.wide _ trivial rfl _ _ _ _).mono ?_; rintro e w' ⟨rfl, rfl⟩)
  have D1 := made_DM w os.length 4 79 4 79 147 _ rfl
  have B1 : Below w.heap.size w (((((w.alloc (.cells (madeCells #[.bool false] os.length) 4)).alloc (.cells #[.slice (some ⟨w.heap.size, 0, none⟩) os.length os.length] 79)).alloc (.cells (madeCells #[.bool false] os.length) 4)).alloc (.cells #[.slice (some ⟨w.heap.size + 1 + 1, 0, none⟩) os.length os.length] 79)).alloc (.cells #[.bool false, .bool false, .bool false, .bool false, .bool false, .bool false, .bool false, .bool false, .bool false, .bool false, .bool false, .bool false] 147)) :=
    (((((Below.refl _ w).alloc (Nat.le_refl _) _).alloc (by simp) _).alloc (by simp; omega) _).alloc (by simp; omega) _).alloc (by simp; omega) _
  have s1 : (((((w.alloc (.cells (madeCells #[.bool false] os.length) 4)).alloc (.cells #[.slice (some ⟨w.heap.size, 0, none⟩) os.length os.length] 79)).alloc (.cells (madeCells #[.bool false] os.length) 4)).alloc (.cells #[.slice (some ⟨w.heap.size + 1 + 1, 0, none⟩) os.length os.length] 79)).alloc (.cells #[.bool false, .bool false, .bool false, .bool false, .bool false, .bool false, .bool false, .bool false, .bool false, .bool false, .bool false, .bool false] 147)).heap.size = w.heap.size + 1 + 1 + 1 + 1 + 1 := by simp
  generalize (((((w.alloc (.cells (madeCells #[.bool false] os.length) 4)).alloc (.cells #[.slice (some ⟨w.heap.size, 0, none⟩) os.length os.length] 79)).alloc (.cells (madeCells #[.bool false] os.length) 4)).alloc (.cells #[.slice (some ⟨w.heap.size + 1 + 1, 0, none⟩) os.length os.length] 79)).alloc (.cells #[.bool false, .bool false, .bool false, .bool false, .bool false, .bool false, .bool false, .bool false, .bool false, .bool false, .bool false, .bool false] 147)) = w1 at D1 B1 s1 ⊢
  have bN := Boxed.new w1 23 (.slice (some ⟨g, off, none⟩) os.length cap)
  have u1 := (Upto.refl (fun _ => False) w1).alloc (.cells #[.slice (some ⟨g, off, none⟩) os.length cap] 23)
  have D2 := D1.upto u1 fun _ _ => id
  have B2 : Below w.heap.size w (w1.alloc (.cells #[.slice (some ⟨g, off, none⟩) os.length cap] 23)) := B1.alloc (by omega) _
  have s2 : (w1.alloc (.cells #[.slice (some ⟨g, off, none⟩) os.length cap] 23)).heap.size = w.heap.size + 1 + 1 + 1 + 1 + 1 + 1 := by rw [World.size_alloc, s1]
  rw [s1] at bN
  clear D1 B1 u1 s1 hmk
  generalize w1.alloc (.cells #[.slice (some ⟨g, off, none⟩) os.length cap] 23) = w2 at *
  have hc2 : ∀ i o, os[i]? = some o → ∀ j v, o.cells[j]? = some v → w2.cell? ⟨g, off + i * 7 + j, none⟩ = some v := fun i o hi j v hj => (B2.cell (p := ⟨g, off + i * 7 + j, none⟩) hg).trans (hc i o hi j v hj)
  clear hc
  obtain ⟨B, hB⟩ : ∃ B, w.heap.size = B := ⟨_, rfl⟩
  rw [hB] at D2 B2 s2 bN hg ⊢
  have HBE := Lib.hid hB
  clear hB
  refine wpIn_rangeFunc_ownH rfl (by decide) (gf := 172) (lb := #[.pointer (some ⟨B + 1 + 1 + 1 + 1 + 1, 0, none⟩)]) rfl trivial (enters_of Try.func172 (by kernel_rfl) rfl)
    (back_stops Fence.wide (20 - 1) trivial rfl (by decide) (B + 1 + 1 + 1 + 1 + 1) B g off cap os h0 hl hg hcap w2 (by omega) (by omega) bN.cell hc2) KB.t (KB.b (by omega) (by omega)) (Below.refl _ _) (fun _ => rfl)
    (fun pre W => (DM B os.length (dF os pre) W ∧ B + 1 + 1 + 1 + 1 + 1 + 1 ≤ W.heap.size) ∧ Below B w W)
    (fun _ _ _ => False)
    (OwnFrom.and (Own.from (fun s X Y row a hg hr => ⟨DM.own _ s X Y row a.1 hg hr, Nat.le_trans a.2 hg.size⟩) _) (ownFrom_below (by have := HBE.out; omega) (by omega)))
    (fun _ _ _ _ _ hs _ _ => hs)
    ⟨⟨D2, by omega⟩, B2⟩
    (fun x a' W => ∃ Bx, B + 1 + 1 + 1 + 1 + 1 < Bx ∧ OB Bx (opAt os (ix os.length x)) W ∧ a' = { tmps := #[.slice (some ⟨g, off, none⟩) os.length cap, undef, .slice none 0 0, .pointer (some ⟨B + 1, 0, none⟩), .pointer (some ⟨B + 1 + 1 + 1, 0, none⟩), .pointer (some ⟨B + 1 + 1 + 1 + 1, 0, none⟩), .int .i64 (ix os.length x), .pointer (some ⟨Bx, 0, none⟩), undef, undef, undef, undef, undef, undef, undef, undef, .slice (some ⟨g, off, none⟩) os.length cap, .int .i64 os.length, .slice (some ⟨B, 0, none⟩) os.length os.length, .slice (some ⟨g, off, none⟩) os.length cap, .int .i64 os.length, .slice (some ⟨B + 1 + 1, 0, none⟩) os.length os.length, .slice (some ⟨g, off, none⟩) os.length cap, .func (.func 172) #[] #[.pointer (some ⟨B + 1 + 1 + 1 + 1 + 1, 0, none⟩)], .int .i64 (ix os.length x), enc7 (opAt os (ix os.length x)), undef, undef, undef, undef, undef, undef, undef, undef, undef, undef, undef, undef, undef, undef, undef, undef, undef, undef, undef, undef, undef, undef, undef, undef, undef, undef, undef, undef, undef, undef, undef, undef, undef, undef, undef, undef, undef, undef, undef, undef, undef, undef, undef, undef, undef, undef, undef, undef, undef, undef, undef, undef, undef, undef, undef, undef, undef, undef, undef, undef, undef, undef, undef, undef, undef, undef, undef, undef, undef, undef, undef, undef, undef, undef, undef, undef, undef, undef, undef, undef, undef, undef, undef, undef, undef, undef, undef, undef, undef, undef, undef, undef, undef, undef, undef, undef, undef, undef, undef, undef, undef, undef, undef, undef, undef, undef, undef, undef, undef, undef, undef, undef, undef], defers := [] })
    (fun x a' _ X Y row hs hg hr => by obtain ⟨Bx, h1, h2, h3⟩ := hs; exact ⟨Bx, h1, OB.own Bx _ () X Y row h2 hg (fun r e => (hr r e).2), h3⟩)
    ?assign ?body ?done ?stop
  case assign =>
    rintro l pre x W K ⟨⟨D1, S1⟩, B1⟩ hK
    unfold encB enc7 at *
    gi_wp2
    exact hK _ _ ((KeepsOthers.alloc _ _).from _) ⟨(Below.refl _ W).alloc (by omega) _, Below.heap_alloc _ _ _ (by omega)⟩ ⟨⟨D1.below ((Below.refl _ W).alloc (Nat.le_refl _) _), by rw [World.size_alloc]; omega⟩, B1.alloc (by have := HBE.out; omega) _⟩ ⟨W.heap.size, by omega, OB.new W _ _, rfl⟩
  case body =>
    rintro l pre x a' W hl' ⟨r, hr⟩ ⟨⟨D1, S1⟩, B1⟩ ⟨Bx, hBx, OX, rfl⟩ hlt
    obtain ⟨i, hi⟩ : ∃ i, ix os.length x = i := ⟨_, rfl⟩
    have il : i < os.length := by rw [← hi]; exact ix_lt h0 x
    have hD := dF_snoc os pre x
    rw [hi] at OX hD ⊢
    have hw := HD.out.w i il
    have ht := HD.out.t i il
    obtain ⟨o, ho⟩ : ∃ o, opAt os i = o := ⟨_, rfl⟩
    rw [ho] at OX hw ht hD ⊢
    generalize dF os pre = d at D1 hD
    have HDD := Lib.hid hD
    unfold enc7
    clear hi ho hD
    dsimp only
    have FIN : Hid (∀ a' W', DM B os.length (d.one i o) W' → Upto (fun i => i = B ∨ i = B + 1 + 1 ∨ i = B + 1 + 1 + 1 + 1) W W' → ownPostG w2.heap.size (KB B (B + 1 + 1 + 1 + 1 + 1)) (fun pre W => (DM B os.length (dF os pre) W ∧ B + 1 + 1 + 1 + 1 + 1 + 1 ≤ W.heap.size) ∧ Below B w W) (fun x x_1 x_2 => False) (pre ++ [x]) W .normal a' W') := fun a' W' D U => by
      have UB : Below B W W' := U.below (by omega) fun i hi e => by rcases e with e | e | e <;> omega
      refine ⟨⟨U.size, fun k o hk h0 _ => (U.block k (Array.getElem?_eq_some_iff.1 h0).1 fun e => by rcases e with e | e | e <;> omega).trans h0⟩, ⟨UB, U.block _ (by omega) fun e => by rcases e with e | e | e <;> omega⟩, ⟨by rw [HDD.out]; exact D, Nat.le_trans S1 U.size⟩, B1.trans UB⟩
    generalize ownPostG w2.heap.size (KB B (B + 1 + 1 + 1 + 1 + 1)) (fun pre W => (DM B os.length (dF os pre) W ∧ B + 1 + 1 + 1 + 1 + 1 + 1 ≤ W.heap.size) ∧ Below B w W) (fun x x_1 x_2 => False) (pre ++ [x]) W = QQ at FIN ⊢
    clear HDD hl' hr hlt D2 B2 bN hc2 hcap hmx HO HD hg s2 h0
    obtain ⟨k, ow, oa, ob, oc, okn, on⟩ := o
    dsimp only at *
    have OXX := Lib.hid OX
    have DD := Lib.hid D1
    have BW : Below B w W := B1
    have vk := D1.vk
    have vu := D1.vu
    have lB := D1.l
    have lX := OX.1
    obtain ⟨x1, x2, x3, x4, x5, x6, x7⟩ := OX.all
    have ckp := D1.kp i il
    have cus := D1.us i il
    have zkp := D1.zk i il
    have zus := D1.zu i il
    have il' : (i : Int) < os.length := by omega
    clear D1 OX B1
    refine wpIn_block ?_
    refine wpIn_seq (wpIn_mono (Q := fun e a' w' => e = Exit.normal ∧ DM B os.length ⟨d.ov1 ⟨k, ow, oa, ob, oc, okn, on⟩, d.us, upd d.kp i (d.kpO i ⟨k, ow, oa, ob, oc, okn, on⟩)⟩ w' ∧ Upto (fun i => i = B ∨ i = B + 1 + 1 ∨ i = B + 1 + 1 + 1 + 1) W w' ∧ ∃ u28 u29 u30 u31 u32 u33 u34 u35 u36 u37 u38 u39 u40 u41 u42 u43 u44 u45 u46 u47 u48 u49 u50 u51 u52 u53 u54 u55 u56 u57 u58 u59 u60 u61 u62 u63, a' = { tmps := #[.slice (some ⟨g, off, none⟩) os.length cap, undef, .slice none 0 0, .pointer (some ⟨B + 1, 0, none⟩), .pointer (some ⟨B + 1 + 1 + 1, 0, none⟩), .pointer (some ⟨B + 1 + 1 + 1 + 1, 0, none⟩), .int .i64 i, .pointer (some ⟨Bx, 0, none⟩), undef, undef, undef, undef, undef, undef, undef, undef, .slice (some ⟨g, off, none⟩) os.length cap, .int .i64 os.length, .slice (some ⟨B, 0, none⟩) os.length os.length, .slice (some ⟨g, off, none⟩) os.length cap, .int .i64 os.length, .slice (some ⟨B + 1 + 1, 0, none⟩) os.length os.length, .slice (some ⟨g, off, none⟩) os.length cap, .func (.func 172) #[] #[.pointer (some ⟨B + 1 + 1 + 1 + 1 + 1, 0, none⟩)], .int .i64 i, .agg #[.int .i64 k, .int .i64 ow, .int .i64 oa, .int .i64 ob, .int .i64 oc, .int .u32 okn, .int .i64 on], .pointer (some ⟨Bx, 0, none⟩), .int .i64 k, u28, u29, u30, u31, u32, u33, u34, u35, u36, u37, u38, u39, u40, u41, u42, u43, u44, u45, u46, u47, u48, u49, u50, u51, u52, u53, u54, u55, u56, u57, u58, u59, u60, u61, u62, u63, undef, undef, undef, undef, undef, undef, undef, undef, undef, undef, undef, undef, undef, undef, undef, undef, undef, undef, undef, undef, undef, undef, undef, undef, undef, undef, undef, undef, undef, undef, undef, undef, undef, undef, undef, undef, undef, undef, undef, undef, undef, undef, undef, undef, undef, undef, undef, undef, undef, undef, undef, undef, undef, undef, undef, undef, undef, undef, undef, undef, undef, undef, undef, undef, undef, undef, undef, undef, undef, undef, undef, undef, undef, undef, undef], defers := [] }) ?S1 ?REST)
    case S1 =>
      by_cases h3 : k = 3
      · subst h3
        obtain ⟨j, rfl⟩ := Int.eq_ofNat_of_zero_le (hw (.inr rfl)).1
        have hj : j < 12 := by have := (hw (.inr rfl)).2; omega
        have hj' : (j : Int) < 12 := by omega
        have cov := DD.out.ov j hj
        have zov := DD.out.zo j hj
        have lo : B + 1 + 1 + 1 + 1 < W.heap.size := lB
        have hE : (⟨d.ov1 ⟨3, j, oa, ob, oc, okn, on⟩, d.us, upd d.kp i (d.kpO i ⟨3, j, oa, ob, oc, okn, on⟩)⟩ : Dd) = ⟨upd d.ov j true, d.us, upd d.kp i (!d.ov j)⟩ := by
          unfold Dd.ov1 Dd.kpO
          rfl
        have DF := Lib.hid ((DD.out.setK i il (!d.ov j)).setO j hj true)
        have hQ := Lib.hid hE
        generalize d.ov j = bo at *
        rw [hE]
        clear hw ht hE hQ
        gi_wp2
        refine wpIn_mono (Q := fun e a' w' => e = Exit.normal ∧ a' = { tmps := #[.slice (some ⟨g, off, none⟩) os.length cap, undef, .slice none 0 0, .pointer (some ⟨B + 1, 0, none⟩), .pointer (some ⟨B + 1 + 1 + 1, 0, none⟩), .pointer (some ⟨B + 1 + 1 + 1 + 1, 0, none⟩), .int .i64 i, .pointer (some ⟨Bx, 0, none⟩), undef, undef, undef, undef, undef, undef, undef, undef, .slice (some ⟨g, off, none⟩) os.length cap, .int .i64 os.length, .slice (some ⟨B, 0, none⟩) os.length os.length, .slice (some ⟨g, off, none⟩) os.length cap, .int .i64 os.length, .slice (some ⟨B + 1 + 1, 0, none⟩) os.length os.length, .slice (some ⟨g, off, none⟩) os.length cap, .func (.func 172) #[] #[.pointer (some ⟨B + 1 + 1 + 1 + 1 + 1, 0, none⟩)], .int .i64 i, .agg #[.int .i64 3, .int .i64 j, .int .i64 oa, .int .i64 ob, .int .i64 oc, .int .u32 okn, .int .i64 on], .pointer (some ⟨Bx, 0, none⟩), .int .i64 3, undef, undef, undef, undef, .bool true, .bool true, .slice (some ⟨B, 0, none⟩) os.length os.length, .int .i64 i, .pointer (some ⟨Bx, 1, none⟩), .int .i64 j, .pointer (some ⟨B + 1 + 1 + 1 + 1, j, none⟩), .bool bo, .bool (!bo), .pointer (some ⟨B, i, none⟩), undef, undef, undef, undef, undef, undef, undef, undef, undef, undef, undef, undef, undef, undef, undef, undef, undef, undef, undef, undef, undef, undef, undef, undef, undef, undef, undef, undef, undef, undef, undef, undef, undef, undef, undef, undef, undef, undef, undef, undef, undef, undef, undef, undef, undef, undef, undef, undef, undef, undef, undef, undef, undef, undef, undef, undef, undef, undef, undef, undef, undef, undef, undef, undef, undef, undef, undef, undef, undef, undef, undef, undef, undef, undef, undef, undef, undef, undef, undef, undef, undef, undef, undef, undef, undef, undef, undef, undef, undef, undef, undef, undef, undef, undef, undef, undef, undef], defers := [] } ∧ w' = (W.setCell ⟨B, i, none⟩ (.bool (!bo))).drew) ?_ ?_
        · gi_region
          all_goals exact ⟨rfl, rfl, rfl⟩
        · rintro _ _ _ ⟨rfl, rfl, rfl⟩
          dsimp only
          have D3 := (DD.out.setK i il (!bo)).upto (Upto.refl (fun _ => False) (W.setCell ⟨B, i, none⟩ (.bool (!bo)))).drew fun _ _ => id
          have cov3 := D3.ov j hj
          have zov3 := D3.zo j hj
          have x23 : (W.setCell ⟨B, i, none⟩ (.bool (!bo))).drew.cell? ⟨Bx, 1, none⟩ = some (.int .i64 j) := (OXX.out.upto ((Upto.refl (fun i => i = B) W).setCell (q := ⟨B, i, none⟩) (.inl rfl) _).drew (by show ¬ Bx = B; omega)).all.2.1
          have l3 := D3.l
          have lx3 : Bx < (W.setCell ⟨B, i, none⟩ (.bool (!bo))).drew.heap.size := by have := OXX.out.1; simpa using this
          have DF := Lib.hid (D3.setO j hj true)
          have UF := Lib.hid ((((Upto.refl (fun i => i = B ∨ i = B + 1 + 1 ∨ i = B + 1 + 1 + 1 + 1) W).setCell (q := ⟨B, i, none⟩) (.inl (.inl rfl)) (.bool (!bo))).drew).setCell (q := ⟨B + 1 + 1 + 1 + 1, j, none⟩) (.inl (.inr (.inr rfl))) (.bool true))
          clear D3
          generalize (W.setCell ⟨B, i, none⟩ (.bool (!bo))).drew = w3 at *
          gi_wp2
          exact ⟨DF.out, UF.out⟩
      · have e3 : (k == 3) = false := by simp [h3]
        cases hbg : gvD k with
        | true =>
          have hk : k = 1 ∨ k = 2 ∨ (4 ≤ k ∧ k ≤ 8) ∨ k = 17 := of_decide_eq_true hbg
          have hE : (⟨d.ov1 ⟨k, ow, oa, ob, oc, okn, on⟩, d.us, upd d.kp i (d.kpO i ⟨k, ow, oa, ob, oc, okn, on⟩)⟩ : Dd) = ⟨d.ov, d.us, upd d.kp i (d.us i)⟩ := by
            unfold Dd.ov1 Dd.kpO
            dsimp only
            rw [if_neg h3, if_neg h3, hbg]
            rfl
          rw [hE]
          have D3 := (DD.out.setK i il (d.us i)).upto (Upto.refl (fun _ => False) (W.setCell ⟨B, i, none⟩ (.bool (d.us i)))).drew fun _ _ => id
          have DF := Lib.hid D3
          have UF := Lib.hid (((Upto.refl (fun i => i = B ∨ i = B + 1 + 1 ∨ i = B + 1 + 1 + 1 + 1) W).setCell (q := ⟨B, i, none⟩) (.inl (.inl rfl)) (.bool (d.us i))).drew)
          have HK := Lib.hid hk
          have H3 := Lib.hid h3
          clear hE hw ht D3 hbg hk h3
          generalize d.us i = bu at *
          iterate 25 gi_step
          refine wpIn_seq (wpIn_mono (Q := fun e a' w' => e = Exit.normal ∧ w' = W ∧ ∃ u46 u47 u48 u49 u50 u51 u52 u53, a' = { tmps := #[.slice (some ⟨g, off, none⟩) os.length cap, undef, .slice none 0 0, .pointer (some ⟨B + 1, 0, none⟩), .pointer (some ⟨B + 1 + 1 + 1, 0, none⟩), .pointer (some ⟨B + 1 + 1 + 1 + 1, 0, none⟩), .int .i64 i, .pointer (some ⟨Bx, 0, none⟩), undef, undef, undef, undef, undef, undef, undef, undef, .slice (some ⟨g, off, none⟩) os.length cap, .int .i64 os.length, .slice (some ⟨B, 0, none⟩) os.length os.length, .slice (some ⟨g, off, none⟩) os.length cap, .int .i64 os.length, .slice (some ⟨B + 1 + 1, 0, none⟩) os.length os.length, .slice (some ⟨g, off, none⟩) os.length cap, .func (.func 172) #[] #[.pointer (some ⟨B + 1 + 1 + 1 + 1 + 1, 0, none⟩)], .int .i64 i, .agg #[.int .i64 k, .int .i64 ow, .int .i64 oa, .int .i64 ob, .int .i64 oc, .int .u32 okn, .int .i64 on], .pointer (some ⟨Bx, 0, none⟩), .int .i64 k, undef, undef, undef, undef, .bool false, .bool false, undef, undef, undef, undef, undef, undef, undef, undef, undef, undef, undef, .bool true, u46, u47, u48, u49, u50, u51, u52, u53, undef, undef, undef, undef, undef, undef, undef, undef, undef, undef, undef, undef, undef, undef, undef, undef, undef, undef, undef, undef, undef, undef, undef, undef, undef, undef, undef, undef, undef, undef, undef, undef, undef, undef, undef, undef, undef, undef, undef, undef, undef, undef, undef, undef, undef, undef, undef, undef, undef, undef, undef, undef, undef, undef, undef, undef, undef, undef, undef, undef, undef, undef, undef, undef, undef, undef, undef, undef, undef, undef, undef, undef, undef, undef, undef, undef, undef, undef, undef, undef, undef, undef, undef, undef, undef], defers := [] }) ?C ?D)
          case C =>
            have hk8 : k = 1 ∨ k = 2 ∨ k = 4 ∨ k = 5 ∨ k = 6 ∨ k = 7 ∨ k = 8 ∨ k = 17 := by have := HK.out; omega
            clear DF UF
            rcases hk8 with rfl | rfl | rfl | rfl | rfl | rfl | rfl | rfl
            all_goals
              gi_wp2
          case D =>
            rintro _ _ w' ⟨rfl, hw', u46, u47, u48, u49, u50, u51, u52, u53, rfl⟩
            rw [hw']
            clear hw'
            dsimp only
            gi_wp2
            refine wpIn_mono (Q := fun e a' w' => e = Exit.normal ∧ a' = { tmps := #[.slice (some ⟨g, off, none⟩) os.length cap, undef, .slice none 0 0, .pointer (some ⟨B + 1, 0, none⟩), .pointer (some ⟨B + 1 + 1 + 1, 0, none⟩), .pointer (some ⟨B + 1 + 1 + 1 + 1, 0, none⟩), .int .i64 i, .pointer (some ⟨Bx, 0, none⟩), undef, undef, undef, undef, undef, undef, undef, undef, .slice (some ⟨g, off, none⟩) os.length cap, .int .i64 os.length, .slice (some ⟨B, 0, none⟩) os.length os.length, .slice (some ⟨g, off, none⟩) os.length cap, .int .i64 os.length, .slice (some ⟨B + 1 + 1, 0, none⟩) os.length os.length, .slice (some ⟨g, off, none⟩) os.length cap, .func (.func 172) #[] #[.pointer (some ⟨B + 1 + 1 + 1 + 1 + 1, 0, none⟩)], .int .i64 i, .agg #[.int .i64 k, .int .i64 ow, .int .i64 oa, .int .i64 ob, .int .i64 oc, .int .u32 okn, .int .i64 on], .pointer (some ⟨Bx, 0, none⟩), .int .i64 k, undef, undef, undef, undef, .bool false, .bool false, undef, undef, undef, undef, undef, undef, undef, undef, undef, undef, undef, .bool true, u46, u47, u48, u49, u50, u51, u52, u53, .slice (some ⟨B, 0, none⟩) os.length os.length, .int .i64 i, .slice (some ⟨B + 1 + 1, 0, none⟩) os.length os.length, .int .i64 i, .pointer (some ⟨B + 1 + 1, i, none⟩), .bool bu, .pointer (some ⟨B, i, none⟩), undef, undef, undef, undef, undef, undef, undef, undef, undef, undef, undef, undef, undef, undef, undef, undef, undef, undef, undef, undef, undef, undef, undef, undef, undef, undef, undef, undef, undef, undef, undef, undef, undef, undef, undef, undef, undef, undef, undef, undef, undef, undef, undef, undef, undef, undef, undef, undef, undef, undef, undef, undef, undef, undef, undef, undef, undef, undef, undef, undef, undef, undef, undef, undef, undef, undef, undef, undef, undef, undef, undef, undef, undef, undef, undef, undef, undef, undef], defers := [] } ∧ w' = (W.setCell ⟨B, i, none⟩ (.bool bu)).drew) ?_ ?_
            · gi_region
              all_goals exact ⟨rfl, rfl, rfl⟩
            · rintro _ _ _ ⟨rfl, rfl, rfl⟩
              dsimp only
              gi_wp2
              exact ⟨DF.out, UF.out⟩
        | false =>
          have hk : ¬ (k = 1 ∨ k = 2 ∨ (4 ≤ k ∧ k ≤ 8) ∨ k = 17) := of_decide_eq_false hbg
          have hE : (⟨d.ov1 ⟨k, ow, oa, ob, oc, okn, on⟩, d.us, upd d.kp i (d.kpO i ⟨k, ow, oa, ob, oc, okn, on⟩)⟩ : Dd) = ⟨fun _ => false, d.us, upd d.kp i true⟩ := by
            unfold Dd.ov1 Dd.kpO
            dsimp only
            rw [if_neg h3, if_neg h3, hbg]
            rfl
          rw [hE]
          have e1 : (k == 1) = false := by simp; omega
          have e2 : (k == 2) = false := by simp; omega
          have e4 : (k == 4) = false := by simp; omega
          have e5 : (k == 5) = false := by simp; omega
          have e6 : (k == 6) = false := by simp; omega
          have e7 : (k == 7) = false := by simp; omega
          have e8 : (k == 8) = false := by simp; omega
          have e17 : (k == 17) = false := by simp; omega
          have D3 := DD.out.setK i il true
          have hcl := clear_b (B + 1 + 1 + 1 + 1) 0 12 (W.setCell ⟨B, i, none⟩ (.bool true)) 0 (by decide) (fun j hj => ⟨_, by rw [Nat.zero_add]; exact D3.ov j hj⟩) (fun j hj => by rw [Nat.zero_add]; exact D3.zo j hj)
          have DF := Lib.hid ((DM.clr 12 0 _ _ (by decide) D3).eqv (d' := ⟨fun _ => false, d.us, upd d.kp i true⟩) (fun j hj => if_pos ⟨Nat.zero_le _, by omega⟩) (fun _ _ => rfl) fun _ _ => rfl)
          have UF := Lib.hid (setCells_upto (S := fun i => i = B ∨ i = B + 1 + 1 ∨ i = B + 1 + 1 + 1 + 1) (b := B + 1 + 1 + 1 + 1) (.inr (.inr rfl)) (List.replicate 12 (.bool false)) 0 W _ ((Upto.refl (fun i => i = B ∨ i = B + 1 + 1 ∨ i = B + 1 + 1 + 1 + 1) W).setCell (q := ⟨B, i, none⟩) (.inl (.inl rfl)) (.bool true)))
          generalize (W.setCell ⟨B, i, none⟩ (.bool true)).setCells (B + 1 + 1 + 1 + 1) 0 (List.replicate 12 (.bool false)) = w9 at hcl DF UF
          clear hE hw ht D3 hbg hk h3
          gi_wp2
          exact ⟨DF.out, UF.out⟩
    case REST =>
      rintro _ _ w' ⟨rfl, D2, U2, u28, u29, u30, u31, u32, u33, u34, u35, u36, u37, u38, u39, u40, u41, u42, u43, u44, u45, u46, u47, u48, u49, u50, u51, u52, u53, u54, u55, u56, u57, u58, u59, u60, u61, u62, u63, rfl⟩
      dsimp only
      have c0 := D2.kp i il
      rw [show (⟨d.ov1 ⟨k, ow, oa, ob, oc, okn, on⟩, d.us, upd d.kp i (d.kpO i ⟨k, ow, oa, ob, oc, okn, on⟩)⟩ : Dd).kp i = d.kpO i ⟨k, ow, oa, ob, oc, okn, on⟩ from if_pos rfl] at c0
      have OX2 := OXX.out.upto U2 (by show ¬ (Bx = B ∨ Bx = B + 1 + 1 ∨ Bx = B + 1 + 1 + 1 + 1); omega)
      have lX2 := OX2.1
      have lB2 := D2.l
      clear x1 x2 x3 x4 x5 x6 x7 vk vu ckp cus zkp zus lX lB DD
      obtain ⟨x1, x2, x3, x4, x5, x6, x7⟩ := OX2.all
      have vk := D2.vk
      have UU := Lib.hid U2
      cases hk0 : d.kpO i ⟨k, ow, oa, ob, oc, okn, on⟩ with
      | false =>
        rw [hk0] at c0 D2
        have DF := Lib.hid D2
        have HE : Hid (d.one i ⟨k, ow, oa, ob, oc, okn, on⟩ = ⟨d.ov1 ⟨k, ow, oa, ob, oc, okn, on⟩, d.us, upd d.kp i false⟩) := Lib.hid (by unfold Dd.one; rw [hk0]; rfl)
        clear D2 U2 OX2 hw ht hk0
        gi_wp2
        exact FIN.out _ _ (HE.out ▸ DF.out) UU.out
      | true =>
        rw [hk0] at c0 D2
        have DF := Lib.hid D2
        have HE : Hid (d.one i ⟨k, ow, oa, ob, oc, okn, on⟩ = ⟨d.ov2 ⟨k, ow, oa, ob, oc, okn, on⟩, d.us2 ⟨k, ow, oa, ob, oc, okn, on⟩, upd d.kp i true⟩) := Lib.hid (by unfold Dd.one; rw [hk0]; rfl)
        clear D2 U2 OX2 hk0
        iterate 26 gi_step
        refine wpIn_seq (wpIn_mono (Q := fun e a' w2 => e = Exit.normal ∧ DM B os.length ⟨d.ov2 ⟨k, ow, oa, ob, oc, okn, on⟩, d.us, upd d.kp i true⟩ w2 ∧ Upto (fun i => i = B ∨ i = B + 1 + 1 ∨ i = B + 1 + 1 + 1 + 1) W w2 ∧ ∃ u68 u69 u70 u71 u72 u73 u74 u75, a' = { tmps := #[.slice (some ⟨g, off, none⟩) os.length cap, undef, .slice none 0 0, .pointer (some ⟨B + 1, 0, none⟩), .pointer (some ⟨B + 1 + 1 + 1, 0, none⟩), .pointer (some ⟨B + 1 + 1 + 1 + 1, 0, none⟩), .int .i64 i, .pointer (some ⟨Bx, 0, none⟩), undef, undef, undef, undef, undef, undef, undef, undef, .slice (some ⟨g, off, none⟩) os.length cap, .int .i64 os.length, .slice (some ⟨B, 0, none⟩) os.length os.length, .slice (some ⟨g, off, none⟩) os.length cap, .int .i64 os.length, .slice (some ⟨B + 1 + 1, 0, none⟩) os.length os.length, .slice (some ⟨g, off, none⟩) os.length cap, .func (.func 172) #[] #[.pointer (some ⟨B + 1 + 1 + 1 + 1 + 1, 0, none⟩)], .int .i64 i, .agg #[.int .i64 k, .int .i64 ow, .int .i64 oa, .int .i64 ob, .int .i64 oc, .int .u32 okn, .int .i64 on], .pointer (some ⟨Bx, 0, none⟩), .int .i64 k, u28, u29, u30, u31, u32, u33, u34, u35, u36, u37, u38, u39, u40, u41, u42, u43, u44, u45, u46, u47, u48, u49, u50, u51, u52, u53, u54, u55, u56, u57, u58, u59, u60, .slice (some ⟨B, 0, none⟩) os.length os.length, .int .i64 i, .pointer (some ⟨B, i, none⟩), .bool true, .bool false, .pointer (some ⟨Bx, 0, none⟩), .int .i64 k, u68, u69, u70, u71, u72, u73, u74, u75, undef, undef, undef, undef, undef, undef, undef, undef, undef, undef, undef, undef, undef, undef, undef, undef, undef, undef, undef, undef, undef, undef, undef, undef, undef, undef, undef, undef, undef, undef, undef, undef, undef, undef, undef, undef, undef, undef, undef, undef, undef, undef, undef, undef, undef, undef, undef, undef, undef, undef, undef, undef, undef, undef, undef, undef, undef, undef, undef, undef, undef, undef, undef], defers := [] }) ?S2 ?R3)
        case S2 =>
          clear HE FIN OXX
          by_cases h2 : k = 2
          · subst h2
            obtain ⟨j, rfl⟩ := Int.eq_ofNat_of_zero_le (hw (.inl rfl)).1
            have hj : j < 12 := by have := (hw (.inl rfl)).2; omega
            have hj' : (j : Int) < 12 := by omega
            have cov := DF.out.ov j hj
            have zov := DF.out.zo j hj
            have hE2 : (⟨d.ov2 ⟨2, j, oa, ob, oc, okn, on⟩, d.us, upd d.kp i true⟩ : Dd) = ⟨upd (d.ov1 ⟨2, j, oa, ob, oc, okn, on⟩) j false, d.us, upd d.kp i true⟩ := rfl
            rw [hE2]
            have DG := Lib.hid (DF.out.setO j hj false)
            have UG := Lib.hid (UU.out.setCell (q := ⟨B + 1 + 1 + 1 + 1, j, none⟩) (.inl (.inr (.inr rfl))) (.bool false))
            clear hw ht hE2
            gi_wp2
            exact ⟨DG.out, UG.out⟩
          · have e2 : (k == 2) = false := by simp [h2]
            by_cases h17 : k = 17
            · subst h17
              have hE2 : (⟨d.ov2 ⟨17, ow, oa, ob, oc, okn, on⟩, d.us, upd d.kp i true⟩ : Dd) = ⟨fun j => if 8 ≤ j then false else d.ov1 ⟨17, ow, oa, ob, oc, okn, on⟩ j, d.us, upd d.kp i true⟩ := rfl
              rw [hE2]
              have hcl := clear_b (B + 1 + 1 + 1 + 1) 8 4 w' 0 (by decide) (fun j hj => ⟨_, DF.out.ov _ (by omega)⟩) (fun j hj => DF.out.zo _ (by omega))
              have DG := Lib.hid ((DM.clr 4 8 _ _ (by decide) DF.out).eqv (d' := ⟨fun j => if 8 ≤ j then false else d.ov1 ⟨17, ow, oa, ob, oc, okn, on⟩ j, d.us, upd d.kp i true⟩) (fun j hj => by
                show (if 8 ≤ j ∧ j < 8 + 4 then false else _) = if 8 ≤ j then false else _
                by_cases e : 8 ≤ j
                · rw [if_pos e, if_pos ⟨e, hj⟩]
                · rw [if_neg e, if_neg (fun h => e h.1)]) (fun _ _ => rfl) fun _ _ => rfl)
              have UG := Lib.hid (setCells_upto (S := fun i => i = B ∨ i = B + 1 + 1 ∨ i = B + 1 + 1 + 1 + 1) (b := B + 1 + 1 + 1 + 1) (.inr (.inr rfl)) (List.replicate 4 (.bool false)) 8 W _ UU.out)
              generalize w'.setCells (B + 1 + 1 + 1 + 1) 8 (List.replicate 4 (.bool false)) = w9 at hcl DG UG
              generalize (⟨fun j => if 8 ≤ j then false else d.ov1 ⟨17, ow, oa, ob, oc, okn, on⟩ j, d.us, upd d.kp i true⟩ : Dd) = dd at DG ⊢
              clear hw ht
              gi_wp2
              exact ⟨DG.out, UG.out⟩
            · have e17 : (k == 17) = false := by simp [h17]
              have hE2 : (⟨d.ov2 ⟨k, ow, oa, ob, oc, okn, on⟩, d.us, upd d.kp i true⟩ : Dd) = ⟨d.ov1 ⟨k, ow, oa, ob, oc, okn, on⟩, d.us, upd d.kp i true⟩ := by
                unfold Dd.ov2
                dsimp only
                rw [if_neg h2, if_neg h17]
              rw [hE2]
              clear hw ht hE2
              gi_wp2
              exact ⟨DF.out, UU.out⟩
        case R3 =>
          rintro _ _ w3 ⟨rfl, D3, U3, u68, u69, u70, u71, u72, u73, u74, u75, rfl⟩
          dsimp only
          have OX3 := OXX.out.upto U3 (by show ¬ (Bx = B ∨ Bx = B + 1 + 1 ∨ Bx = B + 1 + 1 + 1 + 1); omega)
          have lX3 := OX3.1
          clear x1 x2 x3 x4 x5 x6 x7 vk c0 lX2 lB2 OXX DF UU hw
          obtain ⟨x1, x2, x3, x4, x5, x6, x7⟩ := OX3.all
          have TK : Hid (∀ w, Calls Try.prog 118 #[.agg #[.int .i64 k, .int .i64 ow, .int .i64 oa, .int .i64 ob, .int .i64 oc, .int .u32 okn, .int .i64 on]] w fun e w' => e = .returned (.tuple #[.bool (isR k 0), .bool (isR k 1), .bool (isR k 2)]) ∧ Below w.heap.size w w') := Lib.hid fun w => takes_any ⟨k, ow, oa, ob, oc, okn, on⟩ w
          have HA : Hid (oa = ar ⟨k, ow, oa, ob, oc, okn, on⟩ 0 ∧ ob = ar ⟨k, ow, oa, ob, oc, okn, on⟩ 1 ∧ oc = ar ⟨k, ow, oa, ob, oc, okn, on⟩ 2) := Lib.hid ⟨rfl, rfl, rfl⟩
          have HM : Hid (d.us2 ⟨k, ow, oa, ob, oc, okn, on⟩ = mks (isR k) (ar ⟨k, ow, oa, ob, oc, okn, on⟩) d.us 3) := Lib.hid rfl
          generalize d.us2 ⟨k, ow, oa, ob, oc, okn, on⟩ = uu at HM HE
          generalize d.ov2 ⟨k, ow, oa, ob, oc, okn, on⟩ = oo at D3 HE
          generalize ar ⟨k, ow, oa, ob, oc, okn, on⟩ = g' at HA HM ht
          generalize isR k = f at TK HM ht
          have HT := Lib.hid ht
          have DD := Lib.hid D3
          have UU := Lib.hid U3
          have OXX := Lib.hid OX3
          clear ht D3 U3 OX3
          gi_wp2_with (refine ⟨trivial, ?_⟩; gi_at_call 118; refine (CallsIn.inRound l (callsIn_wide.2 (TK.out _))).mono ?_; rintro e w4 ⟨rfl, B4⟩; have OX4 := OXX.out.upto (Upto.of_below (S := fun _ => False) B4) id; have lX4 := OX4.1; obtain ⟨y1, y2, y3, y4, y5, y6, y7⟩ := OX4.all; clear OX4)
          obtain ⟨ea, eb, ec⟩ := HA.out
          subst ea eb ec
          have T1 := TB.new w4 f g' 200
          have u4 := (Upto.of_below (S := fun _ => False) B4).alloc (.cells #[.bool (f 0), .int .i64 (g' 0), .bool (f 1), .int .i64 (g' 1), .bool (f 2), .int .i64 (g' 2)] 200)
          have D4 := DD.out.upto u4 fun _ _ => id
          have U4 := Lib.hid (UU.out.trans (u4.mono fun _ _ h => h.elim))
          clear x1 x2 x3 x4 x5 x6 x7 y1 y2 y3 y4 y5 y6 y7 B4 UU DD OXX TK HA u4
          generalize w4.alloc (.cells #[.bool (f 0), .int .i64 (g' 0), .bool (f 1), .int .i64 (g' 1), .bool (f 2), .int .i64 (g' 2)] 200) = wl at *
          obtain ⟨Bt, hBt⟩ : ∃ Bt, w4.heap.size = Bt := ⟨_, rfl⟩
          rw [hBt] at T1 lX4 ⊢
          clear hBt
          have TT := Lib.hid T1
          clear T1
          gi_loopw [96] (fun i' wr => ∃ j : Nat, j ≤ 3 ∧ i' = .int .i64 j ∧ DM B os.length ⟨oo, mks f g' d.us j, upd d.kp i true⟩ wr ∧ Upto (fun i => i = B + 1 + 1) wl wr) (fun i' _ => (3 - intOf i').toNat)
          case atStart => exact ⟨0, by decide, rfl, D4, Upto.refl _ _⟩
          case round =>
            obtain ⟨j, hj, rfl, hD, hU⟩ := hrel
            have TR := TT.out.upto hU (by show ¬ Bt = B + 1 + 1; omega)
            by_cases hlt : j < 3
            · have p0 := (TR.2 j hlt).1
              have p1 := (TR.2 j hlt).2
              have lT := TR.1
              have lD := hD.l
              have vu := hD.vu
              have lD1 : B + 1 + 1 + 1 < wr.heap.size := by omega
              have lD2 : B + 1 + 1 < wr.heap.size := by omega
              have hlt' : (j : Int) < 3 := by omega
              have HDD := Lib.hid hD
              have HUU := Lib.hid hU
              cases hf : f j with
              | false =>
                have e1 : mks f g' d.us (j + 1) = mks f g' d.us j := by show mk1 (f j) _ _ = _; rw [hf]; rfl
                have HE1 := Lib.hid e1
                rw [hf] at p0
                clear hD hU e1 TR hf
                gi_wp2
                go_roundw
                case rel => exact ⟨j + 1, by omega, by simp, HE1.out ▸ HDD.out.upto ((Upto.refl (fun _ => False) wr).alloc _) fun _ _ => id, HUU.out.alloc _⟩
                case measure => simp [intOf]; omega
              | true =>
                obtain ⟨g0, g1⟩ := HT.out j hlt hf
                obtain ⟨t, ht⟩ := Int.eq_ofNat_of_zero_le g0
                have tn : t < os.length := by omega
                have tn' : (t : Int) < os.length := by omega
                have e1 : mks f g' d.us (j + 1) = upd (mks f g' d.us j) t true := by show mk1 (f j) _ _ = _; rw [hf, ht]; rfl
                have HE1 := Lib.hid e1
                have cus := hD.us t tn
                have zus := hD.zu t tn
                rw [ht] at p1
                rw [hf] at p0
                clear hD hU e1 TR hf ht g0 g1
                gi_wp2
                go_roundw
                case rel => exact ⟨j + 1, by omega, by simp, HE1.out ▸ (HDD.out.setU t tn true).upto ((Upto.refl (fun _ => False) _).alloc _) fun _ _ => id, (HUU.out.setCell (q := ⟨B + 1 + 1, t, none⟩) (.inl rfl) _).alloc _⟩
                case measure => simp [intOf]; omega
            · obtain rfl : j = 3 := by omega
              have HDD := Lib.hid hD
              have HUU := Lib.hid hU
              clear hD hU TR
              gi_wp2
              exact FIN.out _ _ (HE.out ▸ HM.out ▸ HDD.out) (U4.out.trans (HUU.out.mono fun i _ e => .inr (.inl e)))
  case done =>
    rintro D xs W hD rfl ⟨⟨D3, S3⟩, B3⟩ hq
    rw [dF_all os os.length (Nat.le_refl _)] at D3
    dsimp only
    iterate 2 gi_step
    refine wpIn_wide.2 ?_
    obtain ⟨iv, hiv, hzv, hsv, hbv⟩ := i64i
    have hmk : ∀ w : World, (Instr.makeSlice 39 (.int .i64 (os.length : Int)) (.int .i64 (os.length : Int))).run Try.prog w = .ok (.slice (some ⟨w.heap.size, 0, none⟩) os.length os.length) (w.alloc (.cells (madeCells #[.int .i64 0] os.length) 3)) := fun w => by
      have := run_make (P := Try.prog) w 39 3 iv (.int .i64 0) Try.underlying39 hiv hzv .i64 .i64 os.length os.length (by omega) (Int.le_refl _) (by rw [hbv]; omega) (by omega)
      rw [hsv, show (Value.int .i64 0).cells = #[.int .i64 0] from rfl] at this
      simpa using this
    clear hiv hzv hsv hbv
    go_upto_region 36 with fail
    have W0 := Lib.hid (made_WMd W os.length 3 205 _ rfl)
    have U0 := Lib.hid (((Upto.refl (fun i => W.heap.size ≤ i) W).alloc (.cells (madeCells #[.int .i64 0] os.length) 3)).alloc (.cells #[.slice none 0 0, .slice (some ⟨W.heap.size, 0, none⟩) os.length os.length, .int .i64 0, .int .i64 0, .int .i64 0, .int .i64 0, .int .i64 0, .int .i64 0, .int .i64 0, .int .i64 0, .int .i64 0, .int .i64 0, .int .i64 0, .int .i64 0, .map none, .int .i64 0] 205))
    have DD := Lib.hid D3
    have HQ := Lib.hid hq
    have BW := Lib.hid B3
    have HL := Lib.hid hl
    generalize ((W.alloc (.cells (madeCells #[.int .i64 0] os.length) 3)).alloc (.cells #[.slice none 0 0, .slice (some ⟨W.heap.size, 0, none⟩) os.length os.length, .int .i64 0, .int .i64 0, .int .i64 0, .int .i64 0, .int .i64 0, .int .i64 0, .int .i64 0, .int .i64 0, .int .i64 0, .int .i64 0, .int .i64 0, .int .i64 0, .map none, .int .i64 0] 205)) = W1 at W0 U0 ⊢
    obtain ⟨NW, hN⟩ : ∃ NW, W.heap.size = NW := ⟨_, rfl⟩
    rw [hN] at W0 U0 S3 ⊢
    have HN := Lib.hid hN
    have hl0 : (os.length : Int) ≤ 2048 := by omega
    clear hN D3 hq B3 hmk D2 B2 bN
    go_wp2
    go_loopg [114] os.length (fun n ix wr => ∃ j : Nat, n = os.length - j ∧ j ≤ os.length ∧ ix = .int .i64 j ∧ Hid (WM (kD NW os.length) (ds os j) wr) ∧ Hid (Upto (fun i => NW ≤ i) W wr))
    case atStart => exact ⟨0, rfl, Nat.zero_le _, rfl, W0, U0⟩
    case round =>
      obtain ⟨j, hk, hj, rfl, A, U⟩ := hrel
      have BL : Hid (Below B w wr) := Lib.hid (BW.out.trans (U.out.below (by have := HN.out; omega) fun i hi e => by omega))
      by_cases hlt : j < os.length
      · have OP := HO.out.keep (by rw [HBE.out]; exact BL.out)
        obtain ⟨g2, off2, hgo, hg2, hc⟩ := OP.2.2 (by omega)
        obtain ⟨rfl, rfl⟩ : g = g2 ∧ off = off2 := by simpa using hgo
        have ho := op_in hlt
        have k0 : wr.cell? ⟨g, off + j * 7, none⟩ = some (.int .i64 (opAt os j).k) := hc j _ ho 0 _ rfl
        have k1 : wr.cell? ⟨g, off + j * 7 + 1, none⟩ = some (.int .i64 (opAt os j).w) := hc j _ ho 1 _ rfl
        have k2 : wr.cell? ⟨g, off + j * 7 + 2, none⟩ = some (.int .i64 (opAt os j).a) := hc j _ ho 2 _ rfl
        have k3 : wr.cell? ⟨g, off + j * 7 + 3, none⟩ = some (.int .i64 (opAt os j).b) := hc j _ ho 3 _ rfl
        have k4 : wr.cell? ⟨g, off + j * 7 + 4, none⟩ = some (.int .i64 (opAt os j).c) := hc j _ ho 4 _ rfl
        have k5 : wr.cell? ⟨g, off + j * 7 + 5, none⟩ = some (.int .u32 (opAt os j).kn) := hc j _ ho 5 _ rfl
        have k6 : wr.cell? ⟨g, off + j * 7 + 6, none⟩ = some (.int .i64 (opAt os j).n) := hc j _ ho 6 _ rfl
        have DW := DD.out.upto U.out fun i hi e => by omega
        have vk := DW.vk
        have ck : wr.cell? ⟨B, j, none⟩ = some (.bool (kps os j)) := DW.kp j hlt
        have lB := DW.l
        have lB1 : B + 1 < wr.heap.size := by omega
        have lB0 : B < wr.heap.size := by omega
        have gl := hg2
        have f3 := HD.out.t j hlt
        have hj' : (j : Int) < os.length := by omega
        have HK := Lib.hid hk
        have HLT := Lib.hid hlt
        cases hb : kps os j with
        | false =>
          have e1 : ds os (j + 1) = ds os j := by show (if kps os j = true then _ else _) = _; rw [hb]; rfl
          have E1 := Lib.hid e1
          rw [hb] at ck
          generalize opAt os j = o at k0 k1 k2 k3 k4 k5 k6
          clear hk hlt hc ho hgo hg2 f3 OP DW e1 hb
          go_wp2
          go_roundg (os.length - (j + 1))
          case measure => have := HK.out; have := HLT.out; omega
          case rel => exact ⟨j + 1, rfl, HLT.out, by simp, Lib.hid (E1.out ▸ A.out.alloc _), Lib.hid (U.out.alloc _)⟩
        | true =>
          have e1 : ds os (j + 1) = ((ds os j).put (ren (ds os j).to (opAt os j))).set j (ds os j).nx := by show (if kps os j = true then _ else _) = _; rw [hb]; rfl
          have E1 := Lib.hid e1
          have RN := Lib.hid (fun (w : World) (a : WM (kD NW os.length) (ds os j) w) => renamed_any (opAt os j) w a f3)
          have PT := Lib.hid (fun (w : World) (a : WM (kD NW os.length) (ds os j) w) => put_any (ren (ds os j).to (opAt os j)) w a (by have := ds_len os j; omega))
          rw [hb] at ck
          generalize ren (ds os j).to (opAt os j) = oo at RN PT E1
          generalize (ds os j).nx = nx at PT E1
          generalize opAt os j = o at k0 k1 k2 k3 k4 k5 k6 RN
          obtain ⟨k, ow, oa, ob, oc, okn, on⟩ := o
          have a1 := A.out.alloc (.cells #[.int .i64 k, .int .i64 ow, .int .i64 oa, .int .i64 ob, .int .i64 oc, .int .u32 okn, .int .i64 on] 31)
          have hO : OB wr.heap.size ⟨k, ow, oa, ob, oc, okn, on⟩ (wr.alloc (.cells #[.int .i64 k, .int .i64 ow, .int .i64 oa, .int .i64 ob, .int .i64 oc, .int .u32 okn, .int .i64 on] 31)) := OB.new wr _ 31
          have U1 := Lib.hid (UW.alloc (K := kD NW os.length) A.out.l (.cells #[.int .i64 k, .int .i64 ow, .int .i64 oa, .int .i64 ob, .int .i64 oc, .int .u32 okn, .int .i64 on] 31))
          have NWN := Lib.hid (own_new (b := wr.heap.size) A.out (Nat.le_refl _) ((Upto.refl (fun _ => False) wr).alloc (.cells #[.int .i64 k, .int .i64 ow, .int .i64 oa, .int .i64 ob, .int .i64 oc, .int .u32 okn, .int .i64 on] 31)))
          have bt : wr.heap.size ≠ NW := by have := A.out.l2; have e : (kD NW os.length).tb = NW := rfl; omega
          have bh : wr.heap.size ≠ NW + 1 := by have := A.out.l; have e : (kD NW os.length).h = NW + 1 := rfl; omega
          have LB := Lib.hid A.out.lb
          have lo := hO.1
          have l0 : NW + 1 < (wr.alloc (.cells #[.int .i64 k, .int .i64 ow, .int .i64 oa, .int .i64 ob, .int .i64 oc, .int .u32 okn, .int .i64 on] 31)).heap.size := a1.l
          have HO1 := Lib.hid hO
          have A1 := Lib.hid a1
          have UZ := Lib.hid (U.out.alloc (.cells #[.int .i64 k, .int .i64 ow, .int .i64 oa, .int .i64 ob, .int .i64 oc, .int .u32 okn, .int .i64 on] 31))
          dsimp only at k0 k1 k2 k3 k4 k5 k6
          clear hk hlt hc ho hgo hg2 f3 OP DW e1 hb a1 hO
          have V1 := Lib.hid ((Upto.refl (fun _ => False) wr).alloc (.cells #[.int .i64 k, .int .i64 ow, .int .i64 oa, .int .i64 ob, .int .i64 oc, .int .u32 okn, .int .i64 on] 31))
          go_upto_region 40 with fail
          generalize wr.alloc (.cells #[.int .i64 k, .int .i64 ow, .int .i64 oa, .int .i64 ob, .int .i64 oc, .int .u32 okn, .int .i64 on] 31) = w1 at *
          have hlj : j < (kD NW os.length).n := HLT.out
          have Q0 := sq A1.out HO1.out hlj
          have Q1 := sq A1.out.drew HO1.out.drew hlj
          refine wp_region_noPanic ?_
          go_region_held3 (fun W => W.cell? ⟨NW + 1, 1, none⟩ = some (.slice (some ⟨NW, 0, none⟩) os.length os.length) ∧ W.cell? ⟨wr.heap.size, 0, none⟩ = some (.int .i64 k) ∧ W.cell? ⟨wr.heap.size, 1, none⟩ = some (.int .i64 ow) ∧ W.cell? ⟨wr.heap.size, 2, none⟩ = some (.int .i64 oa) ∧ W.cell? ⟨wr.heap.size, 3, none⟩ = some (.int .i64 ob) ∧ W.cell? ⟨wr.heap.size, 4, none⟩ = some (.int .i64 oc) ∧ W.cell? ⟨wr.heap.size, 5, none⟩ = some (.int .u32 okn) ∧ W.cell? ⟨wr.heap.size, 6, none⟩ = some (.int .i64 on) ∧ (W.cell? ⟨NW, j, none⟩).isSome = true ∧ W.frozen? ⟨NW, j, none⟩ = false) (first | exact Q0 | exact Q1 | exact Q2 | exact Q3 | exact Q4) ((first | (go_at_call 120; refine (RN.out _ A1.out.drew).mono ?_; rintro e w2 ⟨rfl, b2⟩; have A2 := Lib.hid (A1.out.drew.below b2); have O2 := Lib.hid (HO1.out.drew.upto (Upto.of_below (S := fun _ => False) b2) id); have Q2 := sq A2.out O2.out hlj; have N2 := own_new A.out (Nat.le_refl _) (V1.out.drew.trans (Upto.of_below b2)); have lw2 : NW + 1 < w2.heap.size := A2.out.l) | (go_at_call 119; refine (PT.out _ A2.out).mono ?_; rintro e w3 ⟨rfl, A3, _, U3⟩; have O3 := O2.out.uw U3 A2.out LB.out (by show NW + 1 < NW + 1 + 1; omega) N2; have Q3 := sq A3 O3 hlj; have Q4 := sq (A3.setT j nx hlj) (O3.setT bt (.int .i64 nx)) hlj; have A4 := Lib.hid (E1.out ▸ A3.setT j nx hlj); have UE := Lib.hid ((UZ.out.drew.trans ((Upto.of_below (S := fun _ => False) b2).mono fun _ _ h => h.elim)).trans (U3.u.mono fun i _ e => sw_kD A2.out e)); have ct : w3.cell? ⟨NW, j, none⟩ = some (.int .i64 (((ds os j).put oo).to j)) := A3.to j hlj; have zt : w3.frozen? ⟨NW, j, none⟩ = false := A3.zt j; have lt : NW < w3.heap.size := A3.l2)))
          refine NoPanic.normal ?_
          go_wp2
          go_roundg (os.length - (j + 1))
          case measure => have := HK.out; have := HLT.out; omega
          case rel => exact ⟨j + 1, rfl, HLT.out, by simp, A4, Lib.hid (UE.out.setCell (q := ⟨NW, j, none⟩) (.inl (Nat.le_refl NW)) _)⟩
      · obtain rfl : j = os.length := by omega
        obtain ⟨vv, v0, ow⟩ := A.out.c0
        have v0' : wr.cell? ⟨NW + 1, 0, none⟩ = some vv := v0
        have l3 : NW + 1 < wr.heap.size := A.out.l
        obtain ⟨ao', cap', rfl, _, _⟩ := ow.form
        have hDN : D < NW := by have h := (Array.getElem?_eq_some_iff.1 HQ.out).1; have := HN.out; omega
        have hqr : wr.heap[D]? = some (.deferred (some [])) := (U.out.block D (by have := HN.out; omega) (by omega)).trans HQ.out
        go_wp2
        refine ⟨by simp, .inl ⟨_, _, rfl, run_takeDeferred hqr, ?_⟩⟩
        have UP : Upto (fun i => i = D) wr (wr.putObj D (.deferred none)) := ⟨rfl, rfl, rfl, by simp, fun i hi hn => World.putObj_heap_other (fun e => hn e)⟩
        refine ⟨_, results_tmp rfl _ _ _, _, rfl, ?_, ?_⟩
        · rw [HBE.out]
          exact (ow.upto UP fun i hi e => by have h : NW + 1 + 1 ≤ i := (ow.blk i hi).1; omega).low (by show B ≤ NW + 1 + 1; omega)
        · rw [HBE.out]
          exact BL.out.trans (UP.below (by have := BL.out.size; have := HBE.out; omega) fun i hi e => by have := s2; omega)
  case stop =>
    rintro D c pre W _ _ h _
    exact h.elim
end Go.Proofs.Ytcjcmnnhmajocab.Ot
