/- Plain law of one instruction: what it makes of registers, flags, memory. -/
import Derived.Deep.OwnRows
import Derived.Test.YtcjcmnnhmajocabGreatPlag
set_option linter.unusedVariables false
set_option linter.unusedSimpArgs false
set_option maxRecDepth 100000
set_option maxHeartbeats 16000000
namespace Go.Proofs.YtcjcmnnhmajocabGreat.Me
open Go.RowKit Kt
/-- a new block of so many cells, all the same -/
def Rep (z : Value) (n : Nat) : Array Value := madeCells #[z] n
theorem Rep.get (z : Value) (n i : Nat) (h : i < n) : (Rep z n)[i]? = some z := by unfold Rep; simp [madeCells, h, Nat.mod_one]
theorem blk_top (w : World) (o : Obj) (k : Nat) (h : w.heap.size = k) : (w.alloc o).heap[k]? = some o := by subst h; exact heap_alloc_new w o
theorem blk_old {w : World} {o o' : Obj} {k : Nat} (h : w.heap[k]? = some o) : (w.alloc o').heap[k]? = some o := by
 rw [Below.heap_alloc w o' k (Array.getElem?_eq_some_iff.1 h).1]; exact h
theorem fresh5 (w W4 : World) (q b r m t : Nat) (hb0 : Below w.heap.size w W4) (hq : W4.heap.size = q)
  (hb : W4.heap[b]? = some (.cells (Rep (.int .u8 0) 65536) 5 (0, 0))) (hr : W4.heap[r]? = some (.cells (Rep (.int .i64 0) 256) 3 (0, 0))) (hm : W4.heap[m]? = some (.cells (Rep (.bool false) 256) 4 (0, 0))) (ht : W4.heap[t]? = some (.cells (Rep (.bool false) 256) 4 (0, 0)))
  (hge : w.heap.size ≤ b ∧ w.heap.size ≤ r ∧ w.heap.size ≤ m ∧ w.heap.size ≤ t) (hne : b ≠ r ∧ b ≠ m ∧ b ≠ t ∧ r ≠ m ∧ r ≠ t ∧ m ≠ t) :
  ∃ P : RP, Ending.returned (.pointer (some ⟨q, 0, none⟩)) = Ending.returned (.pointer (some ⟨P.q, 0, none⟩)) ∧ RM P M0 (W4.alloc (.cells #[.slice (some ⟨b, 0, none⟩) 65536 65536, .slice (some ⟨r, 0, none⟩) 256 256, .slice (some ⟨m, 0, none⟩) 256 256, .slice (some ⟨t, 0, none⟩) 256 256] 133)).drew ∧
   Below w.heap.size w (W4.alloc (.cells #[.slice (some ⟨b, 0, none⟩) 65536 65536, .slice (some ⟨r, 0, none⟩) 256 256, .slice (some ⟨m, 0, none⟩) 256 256, .slice (some ⟨t, 0, none⟩) 256 256] 133)).drew ∧ (∀ k, P.has k → w.heap.size ≤ k) := by
 have lb := (Array.getElem?_eq_some_iff.1 hb).1
 have lr := (Array.getElem?_eq_some_iff.1 hr).1
 have lm := (Array.getElem?_eq_some_iff.1 hm).1
 have lt := (Array.getElem?_eq_some_iff.1 ht).1
 have hs := hb0.size
 obtain ⟨n1, n2, n3, n4, n5, n6⟩ := hne
 generalize hz : (.cells #[.slice (some ⟨b, 0, none⟩) 65536 65536, .slice (some ⟨r, 0, none⟩) 256 256, .slice (some ⟨m, 0, none⟩) 256 256, .slice (some ⟨t, 0, none⟩) 256 256] 133 : Obj) = Z
 have tq := (blk_top W4 Z q hq).trans (congrArg some hz.symm)
 have tb := blk_old (o' := Z) hb
 have tr := blk_old (o' := Z) hr
 have tm := blk_old (o' := Z) hm
 have tt := blk_old (o' := Z) ht
 have sz : (W4.alloc Z).heap.size = W4.heap.size + 1 := by simp
 have R : RM ⟨q, b, r, m, t, 65536, 256, 256, 256, Nat.le_refl _⟩ M0 (W4.alloc Z) := by
  refine ⟨(show q ≠ b ∧ q ≠ r ∧ q ≠ m ∧ q ≠ t ∧ b ≠ r ∧ b ≠ m ∧ b ≠ t ∧ r ≠ m ∧ r ≠ t ∧ m ≠ t from ⟨by omega, by omega, by omega, by omega, n1, n2, n3, n4, n5, n6⟩), ?_, ?_, ?_, ?_, fun j hj => ?_, fun j hj => ?_, fun j hj => ?_, fun j hj => ?_, fun j => frozen_of_row _ _ _ _ _ tb, fun j => frozen_of_row _ _ _ _ _ tr, fun j => frozen_of_row _ _ _ _ _ tm, fun j => frozen_of_row _ _ _ _ _ tt, ?_, ?_, ?_, ?_, ?_⟩
  ·rw [cell_of_row _ _ _ _ _ _ tq]; rfl
  ·rw [cell_of_row _ _ _ _ _ _ tq]; rfl
  ·rw [cell_of_row _ _ _ _ _ _ tq]; rfl
  ·rw [cell_of_row _ _ _ _ _ _ tq]; rfl
  ·rw [cell_of_row _ _ _ _ _ _ tb, Rep.get _ _ _ hj]; rfl
  ·rw [cell_of_row _ _ _ _ _ _ tr, Rep.get _ _ _ hj]; rfl
  ·rw [cell_of_row _ _ _ _ _ _ tm, Rep.get _ _ _ hj]; rfl
  ·rw [cell_of_row _ _ _ _ _ _ tt, Rep.get _ _ _ hj]; rfl
  ·show q < _; omega
  ·show b < _; omega
  ·show r < _; omega
  ·show m < _; omega
  ·show t < _; omega
 refine ⟨⟨q, b, r, m, t, 65536, 256, 256, 256, Nat.le_refl _⟩, rfl, R.drew, (hb0.alloc hs _).drew, ?_⟩
 obtain ⟨g1, g2, g3, g4⟩ := hge
 rintro k (h | h | h | h | h)
 all_goals rw [h]
 ·show w.heap.size ≤ q
  exact hq ▸ hs
 ·exact g1
 ·exact g2
 ·exact g3
 ·exact g4
theorem rnew_any (w : World) : Calls Tryz.prog 46 #[] w fun e w' => ∃ P : RP, e = .returned (.pointer (some ⟨P.q, 0, none⟩)) ∧ RM P M0 w' ∧ Below w.heap.size w w' ∧ (∀ k, P.has k → w.heap.size ≤ k) := by
 have m1 : ∀ w, (Instr.makeSlice 34 (.int .i64 65536) (.int .i64 65536)).run Tryz.prog w = .ok (.slice (some ⟨w.heap.size, 0, none⟩) 65536 65536) (w.alloc (.cells (Rep (.int .u8 0) 65536) 5)) := fun w => by
  obtain ⟨i, hi, hz, hs, hb⟩ := Gu.u8_info
  exact run_make_row 34 5 i (.int .u8 0) Tryz.underlying34 hi hz hs rfl .i64 .i64 65536 (by rw [hb]; omega) (by omega) w
 have m2 : ∀ w, (Instr.makeSlice 45 (.int .i64 256) (.int .i64 256)).run Tryz.prog w = .ok (.slice (some ⟨w.heap.size, 0, none⟩) 256 256) (w.alloc (.cells (Rep (.int .i64 0) 256) 3)) := fun w => by
  obtain ⟨i, hi, hz, hs, hb⟩ := i64_info
  exact run_make_row 45 3 i (.int .i64 0) Tryz.underlying45 hi hz hs rfl .i64 .i64 256 (by rw [hb]; omega) (by omega) w
 have m3 : ∀ w, (Instr.makeSlice 131 (.int .i64 256) (.int .i64 256)).run Tryz.prog w = .ok (.slice (some ⟨w.heap.size, 0, none⟩) 256 256) (w.alloc (.cells (Rep (.bool false) 256) 4)) := fun w => by
  have hh : (Tryz.prog.info? 4).map (fun i => (i.zero, i.size, i.bytes)) = some (some (.bool false), 1, 1) := by kernel_rfl
  exact run_make_row' 131 4 (.bool false) 1 Tryz.underlying131 hh rfl .i64 .i64 256 (by omega) (by omega) w
 have HF := κ fresh5
 generalize Rep (.int .u8 0) 65536 = Z1 at m1 HF
 generalize Rep (.int .i64 0) 256 = Z2 at m2 HF
 generalize Rep (.bool false) 256 = Z3 at m3 HF
 go_enter Tryz.func46, Tryz.ntmps46
 go_wp2
 go_region
 all_goals clear m1 m2 m3
 all_goals go_wp2
 all_goals go_ret
 all_goals refine HF.out w _ _ _ _ _ _ (((((Below.refl _ _).alloc (by simp) _).alloc (by simp) _).alloc (by simp; omega) _).alloc (by simp; omega) _) (by simp) ?_ ?_ ?_ ?_ (by omega) (by omega)
 all_goals first
  | (refine blk_top _ _ _ ?_; simp; done)
  | (refine blk_old (blk_top _ _ _ ?_); simp; done)
  | (refine blk_old (blk_old (blk_top _ _ _ ?_)); simp; done)
  | (refine blk_old (blk_old (blk_old (blk_top _ _ _ ?_))); simp; done)
def prE (k x : Int) : Int := if 0 ≤ k ∧ k < 256 ∧ 0 ≤ x ∧ x ≤ 7 then 0 else 4
def prM (M : MM) (k x : Int) : MM := if 0 ≤ k ∧ k < 256 ∧ 0 ≤ x ∧ x ≤ 7 then prt M k.toNat x else M
theorem protect_any (p : Nat) (M : MM) (k x : Int) (w : World) (h : HC p M w) :
  Calls Tryz.prog 49 #[.pointer (some ⟨p, 0, none⟩), .int .i64 k, .int .i64 x] w fun e w' => e = .returned (.int .i64 (prE k x)) ∧ HC p (prM M k x) w' ∧ Upto (fun i => i = p) w w' := by
 unfold prE prM
 by_cases hk : 0 ≤ k ∧ k < 256 ∧ 0 ≤ x ∧ x ≤ 7
 ·rw [if_pos hk, if_pos hk]
  obtain ⟨k0, k1, x0, x1⟩ := hk
  obtain ⟨c, rfl⟩ := Int.eq_ofNat_of_zero_le k0
  refine (protect_ok p M (cnt M.hi) c x w h (by omega) x0 x1 (cnt_bd _).1 (cnt_bd _).2).mono ?_
  rintro e w' ⟨rfl, h1, o1⟩
  refine ⟨rfl, ?_, Upto.of_only o1⟩
  rw [Int.toNat_natCast]
  unfold HC
  rw [← prt_cnt M c x (by omega)]
  exact h1
 ·rw [if_neg hk, if_neg hk]
  refine (protect_bad p M (cnt M.hi) k x w h (by omega)).mono ?_
  rintro e w' ⟨rfl, rfl⟩
  exact ⟨rfl, h, Upto.refl _ _⟩
theorem rprotect_any (P : RP) (M : MM) (k x : Int) (w : World) (h : RM P M w) :
  Calls Tryz.prog 50 #[.pointer (some ⟨P.q, 0, none⟩), .int .i64 k, .int .i64 x] w fun e w' => e = .returned (.int .i64 (prE k x)) ∧ RM P (prM M k x) w' ∧ Upto P.S w w' := by
 unfold prE prM
 by_cases hk : 0 ≤ k ∧ k < 256 ∧ 0 ≤ x ∧ x ≤ 7
 ·rw [if_pos hk, if_pos hk]
  obtain ⟨k0, k1, x0, x1⟩ := hk
  exact rprotect_ok P M k x w h k0 k1 x0 x1
 ·rw [if_neg hk, if_neg hk]
  refine (rprotect_bad P.q k x w (by omega)).mono ?_
  rintro e w' ⟨rfl, rfl⟩
  exact ⟨rfl, h, Upto.refl _ _⟩
theorem rmark_any (P : RP) (M : MM) (k : Int) (b : Bool) (w : World) (h : RM P M w) :
  Calls Tryz.prog 52 #[.pointer (some ⟨P.q, 0, none⟩), .int .i64 k, .bool b] w fun e w' => e = .returned (.int .i64 (mkE k)) ∧ RM P (mkM M k b) w' ∧ Upto P.S w w' := by
 unfold mkE mkM
 by_cases hk : 0 ≤ k ∧ k < 256
 ·rw [if_pos hk, if_pos hk]
  exact rmark_ok P M k b w h hk.1 hk.2
 ·rw [if_neg hk, if_neg hk]
  refine (rmark_bad P.q k b w (by omega)).mono ?_
  rintro e w' ⟨rfl, rfl⟩
  exact ⟨rfl, h, Upto.refl _ _⟩
theorem MOk.chg {M : MM} (h : MOk M) (k : Nat) : MOk (chg M k) := by
 obtain ⟨e1, e2, _⟩ := chg_same M k
 exact ⟨fun j => by rw [e1]; exact h.1 j, fun j => by rw [e2]; exact h.2 j⟩
theorem MOk.put {M : MM} (h : MOk M) (k : Nat) (x : Int) (hx : 0 ≤ x ∧ x < 256) : MOk { M with by_ := upd M.by_ k x } :=
 ⟨fun j => by simp only [upd]; split; exact hx; exact h.1 j, h.2⟩
theorem MOk.pk {us : List Int} : ∀ {M : MM} (at_ : Nat), MOk M → (∀ j, 0 ≤ us.getD j 0 ∧ us.getD j 0 < 256) → MOk (pk M at_ us) := by
 induction us with
 | nil => exact fun _ h _ => h
 | cons b bs ih =>
  intro M at_ h hr
  exact ih (at_ + 1) ((h.put at_ b (by simpa using hr 0)).chg _) (fun j => by simpa using hr (j + 1))
theorem MOk.prM {M : MM} (h : MOk M) (k x : Int) : MOk (prM M k x) := by
 unfold Me.prM
 split
 ·next hk =>
  have h1 : MOk (if M.rt k.toNat = x then M else Me.chg M k.toNat) := by split; exact h; exact h.chg _
  exact ⟨h1.1, fun j => by
   show 0 ≤ upd M.rt k.toNat x j ∧ upd M.rt k.toNat x j < 8
   simp only [upd]; split
   ·omega
   ·exact h.2 j⟩
 ·exact h
theorem MOk.mkM {M : MM} (h : MOk M) (k : Int) (b : Bool) : MOk (mkM M k b) := by
 unfold Me.mkM mrk
 split
 ·split <;> exact ⟨h.1, h.2⟩
 ·exact h
theorem MOk.pok {M : MM} (h : MOk M) (a : Int) {us : List Int} (hr : ∀ j, 0 ≤ us.getD j 0 ∧ us.getD j 0 < 256) : MOk (pok M a us) := by
 unfold Me.pok; split
 ·exact h.pk _ hr
 ·exact h
theorem bts_rg (n v : Int) (v0 : 0 ≤ v) (v1 : v < 4294967296) : ∀ j, 0 ≤ (bts n v).getD j 0 ∧ (bts n v).getD j 0 < 256 := by
 intro j
 unfold bts
 split
 ·match j with
  | 0 => simp; omega
  | j + 1 => simp
 ·split
  ·match j with
   | 0 => simp; omega
   | 1 => simp; omega
   | j + 2 => simp
  ·split
   ·match j with
    | 0 => simp; omega
    | 1 => simp; omega
    | 2 => simp; omega
    | 3 => simp; omega
    | j + 4 => simp
   ·simp
theorem MOk.stm {M : MM} (h : MOk M) (a n v : Int) (v0 : 0 ≤ v) (v1 : v < 4294967296) : MOk (stm M a n v) := by
 unfold Me.stm
 split
 ·split
  ·exact h.pk _ (bts_rg n v v0 v1)
  ·exact h
 ·exact h
theorem MOk.zero : MOk M0 := ⟨fun _ => by simp [M0], fun _ => by simp [M0]⟩
/-- a memory of the program's and one of the meaning, with the same in them -/
structure Pair (p : Nat) (P : RP) (M : MM) (W : World) : Prop where
 hc : HC p M W
 rm : RM P M W
 ne : ¬ P.has p
 ok : MOk M
def PS (p : Nat) (P : RP) (k : Nat) : Prop := k = p ∨ P.has k
theorem Pair.upto {p : Nat} {P : RP} {M : MM} {w w' : World} {S : Nat → Prop} (h : Pair p P M w) (u : Upto S w w') (hs : ∀ k, PS p P k → ¬ S k) : Pair p P M w' :=
 ⟨h.hc.upto u (hs p (.inl rfl)), h.rm.upto u (fun k hk => hs k (.inr hk)), h.ne, h.ok⟩
theorem Pair.lt {p : Nat} {P : RP} {M : MM} {w : World} (h : Pair p P M w) (k : Nat) (hk : PS p P k) : k < w.heap.size := by
 rcases hk with hk | hk | hk | hk | hk | hk
 ·rw [hk]; exact h.hc.2.2.2.2.2.2
 ·rw [hk]; exact h.rm.lq
 ·rw [hk]; exact h.rm.lb
 ·rw [hk]; exact h.rm.lr
 ·rw [hk]; exact h.rm.lm
 ·rw [hk]; exact h.rm.lt
theorem Pair.hm {p : Nat} {P : RP} {M M' : MM} {w w' : World} (h : Pair p P M w) (h1 : HC p M' w') (u : Upto (fun i => i = p) w w') : RM P M w' :=
 h.rm.upto u (fun k hk e => h.ne (e ▸ hk))
end Go.Proofs.YtcjcmnnhmajocabGreat.Me
namespace Go.Proofs.YtcjcmnnhmajocabGreat.St
open Go.RowKit Kt Me
def stK (kind : Int) (o : Option Int) : Int := match o with | none => 0 | some _ => kind
def stX (o : Option Int) : Int := match o with | none => 0 | some x => x
theorem stpV_eq (kind : Int) (o : Option Int) : stpV kind o = .agg #[.int .i64 (stK kind o), .int .u32 (stX o)] := by cases o <;> rfl
/-- interp.at: the memory, the state, where it goes on, the stop -/
structure AtB (A p : Nat) (R : Nat → Int) (pc f nx k x : Int) (W : World) : Prop where
 m : W.cell? ⟨A, 0, none⟩ = some (.pointer (some ⟨p, 0, none⟩))
 r : ∀ j, j < 8 → W.cell? ⟨A, 1 + j, none⟩ = some (.int .u32 (R j))
 c9 : W.cell? ⟨A, 9, none⟩ = some (.int .u32 pc)
 c10 : W.cell? ⟨A, 10, none⟩ = some (.int .u32 f)
 c11 : W.cell? ⟨A, 11, none⟩ = some (.int .u32 nx)
 c12 : W.cell? ⟨A, 12, none⟩ = some (.int .i64 k)
 c13 : W.cell? ⟨A, 13, none⟩ = some (.int .u32 x)
 z : ∀ i, W.frozen? ⟨A, i, none⟩ = false
 l : A < W.heap.size
variable {A p : Nat} {R : Nat → Int} {pc f nx k x : Int} {W W' : World}
theorem AtB.upto {S : Nat → Prop} (h : AtB A p R pc f nx k x W) (u : Upto S W W') (hs : ¬ S A) : AtB A p R pc f nx k x W' :=
 ⟨(u.cell h.l hs).trans h.m, fun j hj => (u.cell h.l hs).trans (h.r j hj), (u.cell h.l hs).trans h.c9, (u.cell h.l hs).trans h.c10, (u.cell h.l hs).trans h.c11, (u.cell h.l hs).trans h.c12, (u.cell h.l hs).trans h.c13, fun i => (u.frozen h.l hs).trans (h.z i), Nat.lt_of_lt_of_le h.l u.size⟩
theorem AtB.drew (h : AtB A p R pc f nx k x W) : AtB A p R pc f nx k x W.drew := ⟨h.m, h.r, h.c9, h.c10, h.c11, h.c12, h.c13, h.z, h.l⟩
theorem off {b i j : Nat} {v : Value} (hne : i ≠ j) : (W.setCell ⟨b, j, none⟩ v).cell? ⟨b, i, none⟩ = W.cell? ⟨b, i, none⟩ :=
 World.cell?_setCell_other _ _ _ _ (by intro h; simp only [Addr.mk.injEq] at h; omega)
theorem AtB.setR (h : AtB A p R pc f nx k x W) (d : Nat) (hd : d < 8) (v : Int) : AtB A p (upd R d v) pc f nx k x (W.setCell ⟨A, 1 + d, none⟩ (.int .u32 v)) := by
 refine ⟨(off (by omega)).trans h.m, fun j hj => ?_, (off (by omega)).trans h.c9, (off (by omega)).trans h.c10, (off (by omega)).trans h.c11, (off (by omega)).trans h.c12, (off (by omega)).trans h.c13, fun i => by simpa using h.z i, by simpa using h.l⟩
 by_cases hjd : j = d
 ·subst hjd; rw [World.cell?_setCell_same _ _ _ (h.r j hj)]; simp only [upd, if_true]
 ·rw [off (by omega), h.r j hj]; simp only [upd, if_neg hjd]
theorem AtB.setPc (h : AtB A p R pc f nx k x W) (v : Int) : AtB A p R v f nx k x (W.setCell ⟨A, 9, none⟩ (.int .u32 v)) :=
 ⟨(off (by omega)).trans h.m, fun j hj => (off (by omega)).trans (h.r j hj), World.cell?_setCell_same _ _ _ h.c9, (off (by omega)).trans h.c10, (off (by omega)).trans h.c11, (off (by omega)).trans h.c12, (off (by omega)).trans h.c13, fun i => by simpa using h.z i, by simpa using h.l⟩
theorem AtB.setF (h : AtB A p R pc f nx k x W) (v : Int) : AtB A p R pc v nx k x (W.setCell ⟨A, 10, none⟩ (.int .u32 v)) :=
 ⟨(off (by omega)).trans h.m, fun j hj => (off (by omega)).trans (h.r j hj), (off (by omega)).trans h.c9, World.cell?_setCell_same _ _ _ h.c10, (off (by omega)).trans h.c11, (off (by omega)).trans h.c12, (off (by omega)).trans h.c13, fun i => by simpa using h.z i, by simpa using h.l⟩
theorem AtB.setNx (h : AtB A p R pc f nx k x W) (v : Int) : AtB A p R pc f v k x (W.setCell ⟨A, 11, none⟩ (.int .u32 v)) :=
 ⟨(off (by omega)).trans h.m, fun j hj => (off (by omega)).trans (h.r j hj), (off (by omega)).trans h.c9, (off (by omega)).trans h.c10, World.cell?_setCell_same _ _ _ h.c11, (off (by omega)).trans h.c12, (off (by omega)).trans h.c13, fun i => by simpa using h.z i, by simpa using h.l⟩
/-- what of a world an instruction may change -/
def AS (A p : Nat) (i : Nat) : Prop := i = A ∨ i = p
/-- registers within their bounds -/
def ROk (R : Nat → Int) : Prop := ∀ j, 0 ≤ R j ∧ R j < 4294967296
theorem ROk.upd (h : ROk R) (d : Nat) (v : Int) (hv : 0 ≤ v ∧ v < 4294967296) : ROk (upd R d v) := fun j => by
 unfold Me.upd; split
 ·exact hv
 ·exact h j
def w32 (x : Int) : Int := x % 4294967296
theorem w32_bd (x : Int) : 0 ≤ w32 x ∧ w32 x < 4294967296 := by unfold w32; omega
open Fl
theorem fl_bd (k a b old : Int) : 0 ≤ fl k a b old ∧ fl k a b old < 16 := by
 unfold fl
 have h1 := fAdd_lt a b 0
 have h2 := fAdd_lt a b (old / 4 % 2)
 have h3 := fSub_lt a b 0
 have h4 := fSub_lt a b (old / 4 % 2)
 have h5 := zn_lt a
 have h6 := zn_lt (a * b % 4294967296)
 have h7 := zn_lt ((a + 1) % 4294967296)
 have h8 := zn_lt ((a - 1) % 4294967296)
 have h9 := zn_lt (a * 2 ^ n5 b % 4294967296)
 have h10 := zn_lt (a / 2 ^ n5 b)
 have h11 := zn_lt (sg a / 2 ^ n5 b % 4294967296)
 generalize fAdd a b 0 = y1 at *
 generalize fAdd a b (old / 4 % 2) = y2 at *
 generalize fSub a b 0 = y3 at *
 generalize fSub a b (old / 4 % 2) = y4 at *
 repeat' split
 all_goals omega
/-- what comes of an instruction: memory, registers, where it goes on, flags; the stop -/
structure Out where
 M : MM
 R : Nat → Int
 pc : Int
 f : Int
 k : Int
 x : Int
/-- what is left of an instruction under way -/
def AtQ (A p : Nat) (pc : Int) (o : Out) (w w' : World) : Prop :=
 ∃ (R' : Nat → Int) (f' nx' : Int), AtB A p R' pc f' nx' o.k o.x w' ∧ HC p o.M w' ∧ Upto (AS A p) w w' ∧ ((o.k = 0 ∨ o.k = 1) → R' = o.R ∧ f' = o.f ∧ nx' = o.pc)
theorem AtQ.ok {A p : Nat} {pc : Int} {M : MM} {R : Nat → Int} {f nx k x : Int} {w w' : World} (h : AtB A p R pc f nx k x w') (hm : HC p M w') (u : Upto (AS A p) w w') : AtQ A p pc ⟨M, R, nx, f, k, x⟩ w w' := ⟨R, f, nx, h, hm, u, fun _ => ⟨rfl, rfl, rfl⟩⟩
theorem sto_some {M : MM} {q n v x : Int} (h : sto M q n = some x) : stm M q n v = M := by
 unfold sto at h
 unfold stm
 split at h
 ·next hn => rw [if_pos hn, h]; rfl
 ·cases h
end Go.Proofs.YtcjcmnnhmajocabGreat.St
