/- crossgrainref2.Memory.Load. -/
import Derived.LoopTactic
import Derived.Deep.LoopGhost
import Derived.RegionTactic
import Derived.BigRegion
import Derived.Test.YtcjcmnnhmajocabPhaa
import Derived.Test.YtcjcmnnhmajocabPhab
set_option linter.unusedVariables false
set_option linter.unusedSimpArgs false
set_option maxRecDepth 100000
set_option maxHeartbeats 16000000
namespace Go.Proofs.Ytcjcmnnhmajocab.Me
open Go.RowKit Kt
/-- the blocks of a memory of the meaning: the struct's, its four slices' -/
structure RP where
 q : Nat
 b : Nat
 r : Nat
 m : Nat
 t : Nat
def RP.ok (P : RP) : Prop := P.q ≠ P.b ∧ P.q ≠ P.r ∧ P.q ≠ P.m ∧ P.q ≠ P.t ∧ P.b ≠ P.r ∧ P.b ≠ P.m ∧ P.b ≠ P.t ∧ P.r ≠ P.m ∧ P.r ≠ P.t ∧ P.m ≠ P.t
def RP.has (P : RP) (k : Nat) : Prop := k = P.q ∨ k = P.b ∨ k = P.r ∨ k = P.m ∨ k = P.t
structure RM (P : RP) (M : MM) (W : World) : Prop where
 ok : P.ok
 hq0 : W.cell? ⟨P.q, 0, none⟩ = some (.slice (some ⟨P.b, 0, none⟩) 65536 65536)
 hq1 : W.cell? ⟨P.q, 1, none⟩ = some (.slice (some ⟨P.r, 0, none⟩) 256 256)
 hq2 : W.cell? ⟨P.q, 2, none⟩ = some (.slice (some ⟨P.m, 0, none⟩) 256 256)
 hq3 : W.cell? ⟨P.q, 3, none⟩ = some (.slice (some ⟨P.t, 0, none⟩) 256 256)
 hb : ∀ j, j < 65536 → W.cell? ⟨P.b, j, none⟩ = some (.int .u8 (M.by_ j))
 hr : ∀ j, j < 256 → W.cell? ⟨P.r, j, none⟩ = some (.int .i64 (M.rt j))
 hm : ∀ j, j < 256 → W.cell? ⟨P.m, j, none⟩ = some (.bool (M.wd j))
 ht : ∀ j, j < 256 → W.cell? ⟨P.t, j, none⟩ = some (.bool (M.hi j))
 zb : ∀ j, W.frozen? ⟨P.b, j, none⟩ = false
 zr : ∀ j, W.frozen? ⟨P.r, j, none⟩ = false
 zm : ∀ j, W.frozen? ⟨P.m, j, none⟩ = false
 zt : ∀ j, W.frozen? ⟨P.t, j, none⟩ = false
 lq : P.q < W.heap.size
 lb : P.b < W.heap.size
 lr : P.r < W.heap.size
 lm : P.m < W.heap.size
 lt : P.t < W.heap.size
theorem RM.upto {P : RP} {M : MM} {S : Nat → Prop} {w w' : World} (h : RM P M w) (u : Upto S w w') (hs : ∀ k, P.has k → ¬ S k) : RM P M w' := by
 have sq := hs P.q (.inl rfl)
 have sb := hs P.b (.inr (.inl rfl))
 have sr := hs P.r (.inr (.inr (.inl rfl)))
 have sm := hs P.m (.inr (.inr (.inr (.inl rfl))))
 have st := hs P.t (.inr (.inr (.inr (.inr rfl))))
 exact ⟨h.ok, (u.cell h.lq sq).trans h.hq0, (u.cell h.lq sq).trans h.hq1, (u.cell h.lq sq).trans h.hq2, (u.cell h.lq sq).trans h.hq3,
  fun j hj => (u.cell h.lb sb).trans (h.hb j hj), fun j hj => (u.cell h.lr sr).trans (h.hr j hj), fun j hj => (u.cell h.lm sm).trans (h.hm j hj), fun j hj => (u.cell h.lt st).trans (h.ht j hj),
  fun j => (u.frozen h.lb sb).trans (h.zb j), fun j => (u.frozen h.lr sr).trans (h.zr j), fun j => (u.frozen h.lm sm).trans (h.zm j), fun j => (u.frozen h.lt st).trans (h.zt j),
  Nat.lt_of_lt_of_le h.lq u.size, Nat.lt_of_lt_of_le h.lb u.size, Nat.lt_of_lt_of_le h.lr u.size, Nat.lt_of_lt_of_le h.lm u.size, Nat.lt_of_lt_of_le h.lt u.size⟩
theorem RM.drew {P : RP} {M : MM} {W : World} (h : RM P M W) : RM P M W.drew := ⟨h.ok, h.hq0, h.hq1, h.hq2, h.hq3, h.hb, h.hr, h.hm, h.ht, h.zb, h.zr, h.zm, h.zt, h.lq, h.lb, h.lr, h.lm, h.lt⟩
theorem RM.congr {P : RP} {M M' : MM} {W : World} (h : RM P M W) (e1 : ∀ j, j < 65536 → M'.by_ j = M.by_ j) (e2 : ∀ j, j < 256 → M'.rt j = M.rt j) (e3 : ∀ j, j < 256 → M'.wd j = M.wd j) (e4 : ∀ j, j < 256 → M'.hi j = M.hi j) : RM P M' W :=
 ⟨h.ok, h.hq0, h.hq1, h.hq2, h.hq3, fun j hj => by rw [e1 j hj]; exact h.hb j hj, fun j hj => by rw [e2 j hj]; exact h.hr j hj, fun j hj => by rw [e3 j hj]; exact h.hm j hj, fun j hj => by rw [e4 j hj]; exact h.ht j hj, h.zb, h.zr, h.zm, h.zt, h.lq, h.lb, h.lr, h.lm, h.lt⟩
theorem cell_off {W : World} {g k : Nat} {v : Value} {b i : Nat} (hne : ¬ (b = g ∧ i = k)) : (W.setCell ⟨g, k, none⟩ v).cell? ⟨b, i, none⟩ = W.cell? ⟨b, i, none⟩ :=
 World.cell?_setCell_other _ _ _ _ (by intro h; simp only [Addr.mk.injEq] at h; exact hne ⟨by omega, by omega⟩)
theorem upd_same {α : Type} (f : Nat → α) (k : Nat) (v : α) : upd f k v k = v := by simp [upd]
theorem upd_ne {α : Type} (f : Nat → α) (k j : Nat) (v : α) (h : ¬ j = k) : upd f k v j = f j := by simp [upd, h]
theorem RM.setB {P : RP} {M : MM} {W : World} (h : RM P M W) (k : Nat) (hk : k < 65536) (x : Int) : RM P { M with by_ := upd M.by_ k x } (W.setCell ⟨P.b, k, none⟩ (.int .u8 x)) := by
 obtain ⟨o1, o2, o3, o4, o5, o6, o7, o8, o9, o10⟩ := h.ok
 refine ⟨h.ok, ?_, ?_, ?_, ?_, fun j hj => ?_, fun j hj => ?_, fun j hj => ?_, fun j hj => ?_, fun j => by simpa using h.zb j, fun j => by simpa using h.zr j, fun j => by simpa using h.zm j, fun j => by simpa using h.zt j, by simpa using h.lq, by simpa using h.lb, by simpa using h.lr, by simpa using h.lm, by simpa using h.lt⟩
 ·rw [cell_off (by omega)]; exact h.hq0
 ·rw [cell_off (by omega)]; exact h.hq1
 ·rw [cell_off (by omega)]; exact h.hq2
 ·rw [cell_off (by omega)]; exact h.hq3
 ·by_cases hjk : j = k
  ·subst hjk; rw [World.cell?_setCell_same _ _ _ (h.hb j hj)]; simp only [upd_same]
  ·rw [cell_off (by omega), h.hb j hj]; simp only [upd_ne _ _ _ _ hjk]
 ·rw [cell_off (by omega)]; exact h.hr j hj
 ·rw [cell_off (by omega)]; exact h.hm j hj
 ·rw [cell_off (by omega)]; exact h.ht j hj
theorem RM.setR {P : RP} {M : MM} {W : World} (h : RM P M W) (k : Nat) (hk : k < 256) (x : Int) : RM P { M with rt := upd M.rt k x } (W.setCell ⟨P.r, k, none⟩ (.int .i64 x)) := by
 obtain ⟨o1, o2, o3, o4, o5, o6, o7, o8, o9, o10⟩ := h.ok
 refine ⟨h.ok, ?_, ?_, ?_, ?_, fun j hj => ?_, fun j hj => ?_, fun j hj => ?_, fun j hj => ?_, fun j => by simpa using h.zb j, fun j => by simpa using h.zr j, fun j => by simpa using h.zm j, fun j => by simpa using h.zt j, by simpa using h.lq, by simpa using h.lb, by simpa using h.lr, by simpa using h.lm, by simpa using h.lt⟩
 ·rw [cell_off (by omega)]; exact h.hq0
 ·rw [cell_off (by omega)]; exact h.hq1
 ·rw [cell_off (by omega)]; exact h.hq2
 ·rw [cell_off (by omega)]; exact h.hq3
 ·rw [cell_off (by omega)]; exact h.hb j hj
 ·by_cases hjk : j = k
  ·subst hjk; rw [World.cell?_setCell_same _ _ _ (h.hr j hj)]; simp only [upd_same]
  ·rw [cell_off (by omega), h.hr j hj]; simp only [upd_ne _ _ _ _ hjk]
 ·rw [cell_off (by omega)]; exact h.hm j hj
 ·rw [cell_off (by omega)]; exact h.ht j hj
theorem RM.setM {P : RP} {M : MM} {W : World} (h : RM P M W) (k : Nat) (hk : k < 256) (x : Bool) : RM P { M with wd := upd M.wd k x } (W.setCell ⟨P.m, k, none⟩ (.bool x)) := by
 obtain ⟨o1, o2, o3, o4, o5, o6, o7, o8, o9, o10⟩ := h.ok
 refine ⟨h.ok, ?_, ?_, ?_, ?_, fun j hj => ?_, fun j hj => ?_, fun j hj => ?_, fun j hj => ?_, fun j => by simpa using h.zb j, fun j => by simpa using h.zr j, fun j => by simpa using h.zm j, fun j => by simpa using h.zt j, by simpa using h.lq, by simpa using h.lb, by simpa using h.lr, by simpa using h.lm, by simpa using h.lt⟩
 ·rw [cell_off (by omega)]; exact h.hq0
 ·rw [cell_off (by omega)]; exact h.hq1
 ·rw [cell_off (by omega)]; exact h.hq2
 ·rw [cell_off (by omega)]; exact h.hq3
 ·rw [cell_off (by omega)]; exact h.hb j hj
 ·rw [cell_off (by omega)]; exact h.hr j hj
 ·by_cases hjk : j = k
  ·subst hjk; rw [World.cell?_setCell_same _ _ _ (h.hm j hj)]; simp only [upd_same]
  ·rw [cell_off (by omega), h.hm j hj]; simp only [upd_ne _ _ _ _ hjk]
 ·rw [cell_off (by omega)]; exact h.ht j hj
theorem RM.setT {P : RP} {M : MM} {W : World} (h : RM P M W) (k : Nat) (hk : k < 256) (x : Bool) : RM P { M with hi := upd M.hi k x } (W.setCell ⟨P.t, k, none⟩ (.bool x)) := by
 obtain ⟨o1, o2, o3, o4, o5, o6, o7, o8, o9, o10⟩ := h.ok
 refine ⟨h.ok, ?_, ?_, ?_, ?_, fun j hj => ?_, fun j hj => ?_, fun j hj => ?_, fun j hj => ?_, fun j => by simpa using h.zb j, fun j => by simpa using h.zr j, fun j => by simpa using h.zm j, fun j => by simpa using h.zt j, by simpa using h.lq, by simpa using h.lb, by simpa using h.lr, by simpa using h.lm, by simpa using h.lt⟩
 ·rw [cell_off (by omega)]; exact h.hq0
 ·rw [cell_off (by omega)]; exact h.hq1
 ·rw [cell_off (by omega)]; exact h.hq2
 ·rw [cell_off (by omega)]; exact h.hq3
 ·rw [cell_off (by omega)]; exact h.hb j hj
 ·rw [cell_off (by omega)]; exact h.hr j hj
 ·rw [cell_off (by omega)]; exact h.hm j hj
 ·by_cases hjk : j = k
  ·subst hjk; rw [World.cell?_setCell_same _ _ _ (h.ht j hj)]; simp only [upd_same]
  ·rw [cell_off (by omega), h.ht j hj]; simp only [upd_ne _ _ _ _ hjk]
theorem upd_id {α : Type} (f : Nat → α) (k : Nat) (v : α) (h : f k = v) : upd f k v = f := by
 funext j
 by_cases hj : j = k
 ·subst hj; rw [upd_same, h]
 ·rw [upd_ne _ _ _ _ hj]
theorem chg_wd (M : MM) (k : Nat) (h : M.wd k = true) : chg M k = { M with hi := upd M.hi k true } := by
 unfold chg
 cases hh : M.hi k
 ·simp [h]
 ·simp [h, upd_id _ _ _ hh]
theorem chg_nwd (M : MM) (k : Nat) (h : M.wd k = false) : chg M k = M := by unfold chg; simp [h]
/-- the blocks that may change -/
abbrev RP.S (P : RP) : Nat → Prop := P.has
theorem rchange (P : RP) (M : MM) (k : Int) (k0 : 0 ≤ k) (k1 : k < 256) (w : World) (h : RM P M w) :
  Calls Try.prog 102 #[.pointer (some ⟨P.q, 0, none⟩), .int .i64 k] w fun e w' => e = .returned (.tuple #[]) ∧ RM P (chg M k.toNat) w' ∧ Upto P.S w w' := by
 have q2 := h.hq2
 have q3 := h.hq3
 have c3 := h.hm k.toNat (by omega)
 have c4 := h.ht k.toNat (by omega)
 have z4 := h.zt k.toNat
 have HH := κ h
 obtain ⟨q, b, r, m, t⟩ := P
 simp only at q2 q3 c3 c4 z4
 clear h
 cases hm : M.wd k.toNat
 ·rw [chg_nwd _ _ hm]
  rw [hm] at c3
  clear hm
  go_enter Try.func102, Try.ntmps102
  go_wp2
  go_end0
  exact ⟨rfl, HH.out, Upto.refl _ _⟩
 ·rw [chg_wd _ _ hm]
  rw [hm] at c3
  clear hm
  go_enter Try.func102, Try.ntmps102
  go_wp2
  go_end0
  exact ⟨rfl, HH.out.setT k.toNat (by omega) true, (Upto.refl _ _).setCell (q := ⟨t, k.toNat, none⟩) (.inl (.inr (.inr (.inr (.inr rfl))))) _⟩
theorem rprotect_bad (q : Nat) (k x : Int) (w : World) (hb : k < 0 ∨ 256 ≤ k ∨ x < 0 ∨ 7 < x) :
  Calls Try.prog 59 #[.pointer (some ⟨q, 0, none⟩), .int .i64 k, .int .i64 x] w fun e w' => e = .returned (.int .i64 4) ∧ w = w' := by
 have HP := κ (page_any k)
 have hp : (k < 0 ∨ 256 ≤ k) ∨ (0 ≤ k ∧ k < 256 ∧ (x < 0 ∨ (¬ x < 0 ∧ 7 < x))) := by omega
 clear hb
 rcases hp with hp | ⟨p0, p1, hx | ⟨hx, hx2⟩⟩
 ·have e : (decide (0 ≤ k) && decide (k < 256)) = false := by simp; omega
  rw [e] at HP
  clear hp
  go_enter Try.func59, Try.ntmps59
  go_wp2_with (go_at_call 104; refine (HP.out _).mono ?_; rintro e w' ⟨rfl, rfl⟩)
  go_ret
  exact ⟨rfl, rfl⟩
 all_goals
  have e : (decide (0 ≤ k) && decide (k < 256)) = true := by simp; omega
  rw [e] at HP
  go_enter Try.func59, Try.ntmps59
  go_wp2_with (go_at_call 104; refine (HP.out _).mono ?_; rintro e w' ⟨rfl, rfl⟩)
  go_ret
  exact ⟨rfl, rfl⟩
theorem rprotect_ok (P : RP) (M : MM) (k : Int) (x : Int) (w : World) (h : RM P M w) (k0 : 0 ≤ k) (k1 : k < 256) (x0 : 0 ≤ x) (x7 : x ≤ 7) :
  Calls Try.prog 59 #[.pointer (some ⟨P.q, 0, none⟩), .int .i64 k, .int .i64 x] w fun e w' => e = .returned (.int .i64 0) ∧ RM P (prt M k.toNat x) w' ∧ Upto P.S w w' := by
 have HP := κ (page_any k)
 have e : (decide (0 ≤ k) && decide (k < 256)) = true := by simp; omega
 rw [e] at HP
 have hkn : k.toNat < 256 := by omega
 have q1 := h.hq1
 have c2 := h.hr k.toNat hkn
 have z2 := h.zr k.toNat
 have HH := κ h
 have xa : ¬ x < 0 := by omega
 have xb : ¬ 7 < x := by omega
 have HC := κ (rchange P M k k0 k1)
 obtain ⟨q, b, r, m, t⟩ := P
 simp only at q1 c2 z2 HC
 unfold prt
 by_cases hr : M.rt k.toNat = x
 ·rw [if_pos hr]
  rw [hr] at c2
  have hre : (x != x) = false := by simp
  clear h hr HC
  go_enter Try.func59, Try.ntmps59
  go_wp2_with (go_at_call 104; refine (HP.out _).mono ?_; rintro e w' ⟨rfl, rfl⟩)
  go_ret
  exact ⟨rfl, HH.out.setR k.toNat hkn x, (Upto.refl _ _).setCell (q := ⟨r, k.toNat, none⟩) (.inl (.inr (.inr (.inl rfl)))) _⟩
 ·rw [if_neg hr]
  have hrb : (M.rt k.toNat != x) = true := by rw [bne_iff_ne]; exact hr
  generalize M.rt k.toNat = y at c2 hrb
  clear h hr
  go_enter Try.func59, Try.ntmps59
  go_wp2_with (first
   | (go_at_call 104; refine (HP.out _).mono ?_; rintro e w' ⟨rfl, rfl⟩)
   | (go_at_call 102; refine (HC.out _ HH.out).mono ?_; rintro e w1 ⟨rfl, h1, o1⟩; have e1 := h1.hq1; have d2 := h1.hr k.toNat hkn; have y2 := h1.zr k.toNat; simp only at e1 d2 y2))
  go_ret
  have h9 := h1.setR k.toNat hkn x
  rw [chg_rt] at h9
  exact ⟨rfl, h9, o1.setCell (q := ⟨r, k.toNat, none⟩) (.inl (.inr (.inr (.inl rfl)))) _⟩
theorem rmark_bad (q : Nat) (k : Int) (b : Bool) (w : World) (hb : k < 0 ∨ 256 ≤ k) :
  Calls Try.prog 61 #[.pointer (some ⟨q, 0, none⟩), .int .i64 k, .bool b] w fun e w' => e = .returned (.int .i64 4) ∧ w = w' := by
 have HP := κ (page_any k)
 have e : (decide (0 ≤ k) && decide (k < 256)) = false := by simp; omega
 rw [e] at HP
 clear hb
 go_enter Try.func61, Try.ntmps61
 go_wp2_with (go_at_call 104; refine (HP.out _).mono ?_; rintro e w' ⟨rfl, rfl⟩)
 go_ret
 exact ⟨rfl, rfl⟩
theorem mrk_true (M : MM) (k : Nat) : mrk M k true = { M with wd := upd M.wd k true } := by unfold mrk; simp
theorem mrk_false (M : MM) (k : Nat) : mrk M k false = { M with wd := upd M.wd k false, hi := upd M.hi k false } := by
 unfold mrk
 cases hh : M.hi k
 ·simp [upd_id _ _ _ hh]
 ·simp
theorem rmark_ok (P : RP) (M : MM) (k : Int) (b : Bool) (w : World) (h : RM P M w) (k0 : 0 ≤ k) (k1 : k < 256) :
  Calls Try.prog 61 #[.pointer (some ⟨P.q, 0, none⟩), .int .i64 k, .bool b] w fun e w' => e = .returned (.int .i64 0) ∧ RM P (mrk M k.toNat b) w' ∧ Upto P.S w w' := by
 have HP := κ (page_any k)
 have e : (decide (0 ≤ k) && decide (k < 256)) = true := by simp; omega
 rw [e] at HP
 have hkn : k.toNat < 256 := by omega
 have q2 := h.hq2
 have q3 := h.hq3
 have c3 := h.hm k.toNat hkn
 have c4 := h.ht k.toNat hkn
 have z3 := h.zm k.toNat
 have z4 := h.zt k.toNat
 have o3 : P.q ≠ P.m := h.ok.2.2.1
 have o4 : P.t ≠ P.m := fun e => h.ok.2.2.2.2.2.2.2.2.2 e.symm
 have HH := κ h
 obtain ⟨q, b', r, m, t⟩ := P
 simp only at q2 q3 c3 c4 z3 z4 o3 o4
 clear h
 cases b
 ·rw [mrk_false]
  go_enter Try.func61, Try.ntmps61
  go_wp2_with (go_at_call 104; refine (HP.out _).mono ?_; rintro e w' ⟨rfl, rfl⟩)
  go_ret
  exact ⟨rfl, (HH.out.setM k.toNat hkn false).setT k.toNat hkn false, ((Upto.refl _ _).setCell (q := ⟨m, k.toNat, none⟩) (.inl (.inr (.inr (.inr (.inl rfl))))) _).setCell (q := ⟨t, k.toNat, none⟩) (.inl (.inr (.inr (.inr (.inr rfl))))) _⟩
 ·rw [mrk_true]
  go_enter Try.func61, Try.ntmps61
  go_wp2_with (go_at_call 104; refine (HP.out _).mono ?_; rintro e w' ⟨rfl, rfl⟩)
  go_ret
  exact ⟨rfl, HH.out.setM k.toNat hkn true, (Upto.refl _ _).setCell (q := ⟨m, k.toNat, none⟩) (.inl (.inr (.inr (.inr (.inl rfl))))) _⟩
theorem rtouched (P : RP) (M : MM) (w : World) (h : RM P M w) :
  Calls Try.prog 25 #[.pointer (some ⟨P.q, 0, none⟩)] w fun e w' => e = .returned (.bool (anyT M.hi)) ∧ w = w' := by
 have q3 := h.hq3
 have HH := κ h
 obtain ⟨q, b', r, m, t⟩ := P
 simp only at q3
 clear h
 go_enter Try.func25, Try.ntmps25
 go_wp2
 go_loopg [10] 256 (fun g i wr => ∃ k : Nat, g = 256 - k ∧ k ≤ 256 ∧ i = .int .i64 k ∧ Hid (∀ j, j < k → M.hi j = false) ∧ w = wr)
 case atStart => exact ⟨0, rfl, Nat.zero_le _, rfl, fun j hj => absurd hj (by omega), rfl⟩
 case round =>
  obtain ⟨k, hg, hk, rfl, HN, rfl⟩ := hrel
  by_cases hlt : k < 256
  ·have hlt' : (k : Int) < 256 := by omega
   have hge' : (0 : Int) ≤ (k : Int) := by omega
   have c4 := HH.out.ht k hlt
   simp only at c4
   cases hb : M.hi k
   ·rw [hb] at c4
    have HB := κ hb
    clear hb
    go_wp2
    go_roundg (256 - (k + 1))
    case measure => omega
    case rel =>
     refine ⟨k + 1, rfl, by omega, by simp, fun j hj => ?_, rfl⟩
     by_cases hjk : j = k
     ·subst hjk; exact HB.out
     ·exact HN.out j (by omega)
   ·rw [hb] at c4
    have HB := κ hb
    clear hb
    go_wp2
    go_ret
    exact ⟨by rw [(anyT_iff _).2 ⟨k, hlt, HB.out⟩]; rfl, rfl⟩
  ·obtain rfl : k = 256 := by omega
   go_wp2
   go_ret
   refine ⟨?_, rfl⟩
   have : anyT M.hi = false := by
    rw [Bool.eq_false_iff]
    intro h
    obtain ⟨j, hj, hb⟩ := (anyT_iff _).1 h
    rw [HN.out j hj] at hb
    cases hb
   rw [this]; rfl
end Go.Proofs.Ytcjcmnnhmajocab.Me
namespace Go.Proofs.Ytcjcmnnhmajocab.Me
open Go.RowKit Kt
theorem ruse (P : RP) (M : MM) (a n r kind : Int) (w : World) (h : RM P M w) (hM : MOk M) (hr : r = 1 ∨ r = 2 ∨ r = 4) (a0 : 0 ≤ a) (a1 : a < 4294967296) (n1 : n < 9223372036854775808) :
  Calls Try.prog 162 #[.pointer (some ⟨P.q, 0, none⟩), .int .u32 a, .int .i64 n, .int .i64 r, .int .i64 kind] w fun e w' => e = .returned (stpV kind (srch M r a n.toNat)) ∧ Below w.heap.size w w' := by
 have q1 := h.hq1
 have HH := κ h
 have HM' := κ hM
 have HR := κ hr
 have r0 : 0 < r := by omega
 have r1 : r ≤ 4 := by omega
 have rn : (r == 0) = false := by rw [beq_eq_false_iff_ne]; omega
 have lq := h.lq
 have lr := h.lr
 have b0 := κ (fun o => (Below.refl w.heap.size w).alloc (Nat.le_refl _) o)
 obtain ⟨pq, pb, pr, pm, pt⟩ := P
 simp only at q1 lq lr
 clear h hM hr
 go_enter Try.func162, Try.ntmps162
 go_wp2
 go_loopg [11] n.toNat (fun g i wr => ∃ k : Nat, g = n.toNat - k ∧ k ≤ n.toNat ∧ i = .int .i64 k ∧ Hid (∀ j, j < k → useB M r (plc a j) = true) ∧ wr = w.alloc (.cells #[.int .i64 0, .int .u32 0] 46))
 case atStart => exact ⟨0, rfl, Nat.zero_le _, rfl, fun j hj => absurd hj (by omega), rfl⟩
 case round =>
  obtain ⟨k, hg, hk, rfl, hA, rfl⟩ := hrel
  by_cases hlt : k < n.toNat
  ·have hlt' : (k : Int) < n := by omega
   have k0 : (0 : Int) ≤ (k : Int) := by omega
   have hx := plc_bd a k
   have ex : (a + (k : Int) % 4294967296) % 4294967296 = plc a k := by unfold plc; omega
   obtain ⟨x0, x1⟩ := hx
   obtain ⟨x, hxx⟩ : ∃ x, plc a k = x := ⟨_, rfl⟩
   rw [hxx] at x0 x1 ex
   have HX := κ hxx
   clear hxx
   by_cases hm : 65535 < x
   ·go_wp2
    refine bodyPost_ret (v := .agg #[.int .i64 kind, .int .u32 x]) (by simp [results, Try.results162, go_sem]) rfl ⟨?_, ?_⟩
    ·have hu2' : useB M r x = false := by unfold useB; rw [decide_eq_false (by omega)]; rfl
     rw [srch_some k hlt hA (by rw [HX.out]; exact hu2'), HX.out]; rfl
    ·exact b0.out _
   ·have hm' : x ≤ 65535 := by omega
    have q0 : (x / 256).toNat < 256 := by omega
    have c2 := HH.out.hr (x / 256).toNat q0
    have hu2 : useB M r x = decide (M.rt (x / 256).toNat / r % 2 = 1) := by
     unfold useB; rw [decide_eq_true (show x < 65536 by omega)]; rfl
    simp only at c2
    have yb := HM'.out.2 (x / 256).toNat
    generalize M.rt (x / 256).toNat = y at c2 hu2 yb
    obtain ⟨y0, y1⟩ := yb
    have d0 : 0 ≤ y / r := Int.ediv_nonneg (by omega) (by omega)
    have d1 : y / r ≤ y := Int.ediv_le_self _ (by omega)
    have d2 : y / r < 8 := by omega
    by_cases hd : y / r % 2 = 1
    ·have hu2' := κ (hu2.trans (decide_eq_true hd))
     have hz : (y / r % 2 == 0) = false := by rw [beq_eq_false_iff_ne]; omega
     clear hd hu2
     go_wp2
     go_roundg (n.toNat - (k + 1))
     case measure => omega
     case rel => exact ⟨k + 1, rfl, by omega, by simp, use_snoc hA HX hu2', rfl⟩
    ·have hu2' := κ (hu2.trans (decide_eq_false hd))
     have hz : (y / r % 2 == 0) = true := by rw [beq_iff_eq]; omega
     clear hd hu2
     go_wp2
     refine bodyPost_ret (v := .agg #[.int .i64 kind, .int .u32 x]) (by simp [results, Try.results162, go_sem]) rfl ⟨?_, ?_⟩
     ·rw [srch_some k hlt hA (by rw [HX.out]; exact hu2'.out), HX.out]; rfl
     ·exact b0.out _
  ·have hge : ¬ (k : Int) < n := by omega
   have hkn : k = n.toNat := by omega
   have HK := κ hkn
   clear hkn
   go_wp2
   refine bodyPost_ret (v := .agg #[.int .i64 0, .int .u32 0]) (by simp [results, Try.results162, go_sem]) rfl ⟨?_, ?_⟩
   ·rw [srch_none (fun j hj => hA.out j (by rw [HK.out]; exact hj))]; rfl
   ·exact b0.out _
end Go.Proofs.Ytcjcmnnhmajocab.Me
namespace Go.Proofs.Ytcjcmnnhmajocab.Me
open Go.RowKit Kt
theorem aft_alloc {w w1 : World} {ob : Obj} (hb : Below (w.alloc ob).heap.size (w.alloc ob) w1) : Below w.heap.size w w1 := ((Below.refl _ _).alloc (Nat.le_refl _) _).trans (hb.mono (by simp))
theorem Rs.of_call {w w1 : World} (hb : Below (w.alloc (.cells #[.int .i64 0, .int .u32 0] 46)).heap.size (w.alloc (.cells #[.int .i64 0, .int .u32 0] 46)) w1) : Rs w.heap.size w1 :=
 (Rs.new w w.heap.size rfl).upto (Upto.of_below (S := fun _ => False) hb) id
theorem ret_ld {a b : Int} {v : Value} (h : a = b) : Ending.returned (.tuple #[.int .u32 a, v]) = .returned (.tuple #[.int .u32 b, v]) := by rw [h]
theorem rload_bad (P : RP) (M : MM) (a n x : Int) (w : World) (h : RM P M w) (hM : MOk M) (a0 : 0 ≤ a) (a1 : a < 4294967296) (n1 : n < 9223372036854775808) (hs : srch M 1 a n.toNat = some x) :
  Calls Try.prog 105 #[.pointer (some ⟨P.q, 0, none⟩), .int .u32 a, .int .i64 n] w fun e w' => e = .returned (.tuple #[.int .u32 0, .agg #[.int .i64 5, .int .u32 x]]) ∧ Below w.heap.size w w' := by
 have HB := κ (fun w h => ruse P M a n 1 5 w h hM (.inl rfl) a0 a1 n1)
 rw [hs] at HB
 simp only [stpV] at HB
 have HH := κ (fun o => h.upto ((Upto.refl (fun _ => False) w).alloc o) (fun _ _ => id))
 clear h hM hs
 go_enter Try.func105, Try.ntmps105
 go_wp2_with (go_at_call 162; refine (HB.out _ (HH.out _)).mono ?_; rintro e w1 ⟨rfl, hb1⟩; obtain ⟨g0, g1, g2, g3, g4⟩ := Rs.of_call hb1; have B1 := κ (aft_alloc hb1); clear hb1)
 go_region
 go_wp2
 refine bodyPost_ret (v := .tuple #[.int .u32 0, .agg #[.int .i64 5, .int .u32 x]]) (by simp [results, Try.results105, go_sem, g0, g1, g4]) rfl ⟨rfl, ?_⟩
 exact (((B1.out.setCell (Nat.le_refl _) _).setCell (Nat.le_refl _) _).alloc (by simpa using B1.out.size) _).drew
theorem rload_none (P : RP) (M : MM) (a n : Int) (w : World) (h : RM P M w) (hM : MOk M) (a0 : 0 ≤ a) (a1 : a < 4294967296) (n1 : n < 9223372036854775808) (hs : srch M 1 a n.toNat = none) (hn : ¬ (n = 1 ∨ n = 2 ∨ n = 4)) :
  Calls Try.prog 105 #[.pointer (some ⟨P.q, 0, none⟩), .int .u32 a, .int .i64 n] w fun e w' => e = .returned (.tuple #[.int .u32 0, .agg #[.int .i64 0, .int .u32 0]]) ∧ Below w.heap.size w w' := by
 have HB := κ (fun w h => ruse P M a n 1 5 w h hM (.inl rfl) a0 a1 n1)
 rw [hs] at HB
 simp only [stpV] at HB
 have HH := κ (fun o => h.upto ((Upto.refl (fun _ => False) w).alloc o) (fun _ _ => id))
 have e1 : (n != 1) = true := by rw [bne_iff_ne]; omega
 have e2 : (n != 2) = true := by rw [bne_iff_ne]; omega
 have e4 : (n != 4) = true := by rw [bne_iff_ne]; omega
 clear h hM hs hn
 go_enter Try.func105, Try.ntmps105
 go_wp2_with (go_at_call 162; refine (HB.out _ (HH.out _)).mono ?_; rintro e w1 ⟨rfl, hb1⟩; obtain ⟨g0, g1, g2, g3, g4⟩ := Rs.of_call hb1; have B1 := κ (aft_alloc hb1); clear hb1)
 go_region
 go_wp2
 refine bodyPost_ret (v := .tuple #[.int .u32 0, .agg #[.int .i64 0, .int .u32 0]]) (by simp [results, Try.results105, go_sem, g0, g1, g4]) rfl ⟨rfl, ?_⟩
 exact (((B1.out.setCell (Nat.le_refl _) _).setCell (Nat.le_refl _) _).alloc (by simpa using B1.out.size) _).drew
theorem rload_1 (P : RP) (M : MM) (a : Int) (w : World) (h : RM P M w) (hM : MOk M) (a0 : 0 ≤ a) (a1 : a < 4294967296) (hs : srch M 1 a 1 = none) :
  Calls Try.prog 105 #[.pointer (some ⟨P.q, 0, none⟩), .int .u32 a, .int .i64 1] w fun e w' => e = .returned (.tuple #[.int .u32 (byt M a 0), .agg #[.int .i64 0, .int .u32 0]]) ∧ Below w.heap.size w w' := by
 have HB := κ (fun w h => ruse P M a 1 1 5 w h hM (.inl rfl) a0 a1 (by omega))
 rw [show (1 : Int).toNat = 1 from rfl, hs] at HB
 simp only [stpV] at HB
 have HH := κ (fun o => h.upto ((Upto.refl (fun _ => False) w).alloc o) (fun _ _ => id))
 have p0 := (plc_in a0 a1 hs 0 (by omega) (by omega)).2
 have q0 := h.hq0
 have lq := h.lq
 have lb := h.lb
 unfold byt
 rw [Nat.add_zero]
 have b1 : a < 65536 := by omega
 have c0 := h.hb a.toNat (by omega)
 have r0 := hM.1 a.toNat
 generalize M.by_ a.toNat = y0 at c0 r0 ⊢
 obtain ⟨r0a, r0b⟩ := r0
 obtain ⟨pq, pb, pr, pm, pt⟩ := P
 simp only at q0 lq lb c0 HB HH
 clear h hM hs p0
 go_enter Try.func105, Try.ntmps105
 go_wp2_with (go_at_call 162; refine (HB.out _ (HH.out _)).mono ?_; rintro e w1 ⟨rfl, hb1⟩; obtain ⟨g0, g1, g2, g3, g4⟩ := Rs.of_call hb1; have B1 := κ (aft_alloc hb1); have q0' := (B1.out.cell (p := ⟨pq, 0, none⟩) lq).trans q0; have c0' := (B1.out.cell (p := ⟨pb, a.toNat, none⟩) lb).trans c0; have lq' := Nat.lt_of_lt_of_le lq B1.out.size; have lb' := Nat.lt_of_lt_of_le lb B1.out.size; clear hb1)
 refine wp_loop_rounds 2 ?_
 rw [rounds_succ]; go_wp2
 rw [rounds_succ]; go_wp2
 go_region
 go_wp2
 refine bodyPost_ret (v := .tuple #[.int .u32 (y0), .agg #[.int .i64 0, .int .u32 0]]) (by simp [results, Try.results105, go_sem, g0, g1, g4]) rfl ⟨ret_ld (by omega), ?_⟩
 exact (((B1.out.setCell (Nat.le_refl _) _).setCell (Nat.le_refl _) _).alloc (by simpa using B1.out.size) _).drew
theorem rload_2 (P : RP) (M : MM) (a : Int) (w : World) (h : RM P M w) (hM : MOk M) (a0 : 0 ≤ a) (a1 : a < 4294967296) (hs : srch M 1 a 2 = none) :
  Calls Try.prog 105 #[.pointer (some ⟨P.q, 0, none⟩), .int .u32 a, .int .i64 2] w fun e w' => e = .returned (.tuple #[.int .u32 (byt M a 0 + byt M a 1 * 256), .agg #[.int .i64 0, .int .u32 0]]) ∧ Below w.heap.size w w' := by
 have HB := κ (fun w h => ruse P M a 2 1 5 w h hM (.inl rfl) a0 a1 (by omega))
 rw [show (2 : Int).toNat = 2 from rfl, hs] at HB
 simp only [stpV] at HB
 have HH := κ (fun o => h.upto ((Upto.refl (fun _ => False) w).alloc o) (fun _ _ => id))
 have p0 := (plc_in a0 a1 hs 1 (by omega) (by omega)).2
 have q0 := h.hq0
 have lq := h.lq
 have lb := h.lb
 unfold byt
 rw [Nat.add_zero]
 have b1 : a < 65536 := by omega
 have b2 : a + 1 < 65536 := by omega
 have c0 := h.hb a.toNat (by omega)
 have r0 := hM.1 a.toNat
 have c1 := h.hb (a.toNat + 1) (by omega)
 have r1 := hM.1 (a.toNat + 1)
 rw [show a.toNat + 1 = (a + 1).toNat by omega] at c1 r1
 generalize M.by_ a.toNat = y0 at c0 r0 ⊢
 rw [show a.toNat + 1 = (a + 1).toNat by omega]
 generalize M.by_ (a + 1).toNat = y1 at c1 r1 ⊢
 obtain ⟨r0a, r0b⟩ := r0
 obtain ⟨r1a, r1b⟩ := r1
 obtain ⟨pq, pb, pr, pm, pt⟩ := P
 simp only at q0 lq lb c0 c1 HB HH
 clear h hM hs p0
 go_enter Try.func105, Try.ntmps105
 go_wp2_with (go_at_call 162; refine (HB.out _ (HH.out _)).mono ?_; rintro e w1 ⟨rfl, hb1⟩; obtain ⟨g0, g1, g2, g3, g4⟩ := Rs.of_call hb1; have B1 := κ (aft_alloc hb1); have q0' := (B1.out.cell (p := ⟨pq, 0, none⟩) lq).trans q0; have c0' := (B1.out.cell (p := ⟨pb, a.toNat, none⟩) lb).trans c0; have c1' := (B1.out.cell (p := ⟨pb, (a + 1).toNat, none⟩) lb).trans c1; have lq' := Nat.lt_of_lt_of_le lq B1.out.size; have lb' := Nat.lt_of_lt_of_le lb B1.out.size; clear hb1)
 refine wp_loop_rounds 3 ?_
 rw [rounds_succ]; go_wp2
 rw [rounds_succ]; go_wp2
 rw [rounds_succ]; go_wp2
 go_region
 go_wp2
 refine bodyPost_ret (v := .tuple #[.int .u32 (y1 * 256 + y0), .agg #[.int .i64 0, .int .u32 0]]) (by simp [results, Try.results105, go_sem, g0, g1, g4]) rfl ⟨ret_ld (by omega), ?_⟩
 exact (((B1.out.setCell (Nat.le_refl _) _).setCell (Nat.le_refl _) _).alloc (by simpa using B1.out.size) _).drew
theorem rload_4 (P : RP) (M : MM) (a : Int) (w : World) (h : RM P M w) (hM : MOk M) (a0 : 0 ≤ a) (a1 : a < 4294967296) (hs : srch M 1 a 4 = none) :
  Calls Try.prog 105 #[.pointer (some ⟨P.q, 0, none⟩), .int .u32 a, .int .i64 4] w fun e w' => e = .returned (.tuple #[.int .u32 (byt M a 0 + byt M a 1 * 256 + byt M a 2 * 65536 + byt M a 3 * 16777216), .agg #[.int .i64 0, .int .u32 0]]) ∧ Below w.heap.size w w' := by
 have HB := κ (fun w h => ruse P M a 4 1 5 w h hM (.inl rfl) a0 a1 (by omega))
 rw [show (4 : Int).toNat = 4 from rfl, hs] at HB
 simp only [stpV] at HB
 have HH := κ (fun o => h.upto ((Upto.refl (fun _ => False) w).alloc o) (fun _ _ => id))
 have p0 := (plc_in a0 a1 hs 3 (by omega) (by omega)).2
 have q0 := h.hq0
 have lq := h.lq
 have lb := h.lb
 unfold byt
 rw [Nat.add_zero]
 have b1 : a < 65536 := by omega
 have b2 : a + 1 < 65536 := by omega
 have b3 : a + 2 < 65536 := by omega
 have b4 : a + 3 < 65536 := by omega
 have c0 := h.hb a.toNat (by omega)
 have r0 := hM.1 a.toNat
 have c1 := h.hb (a.toNat + 1) (by omega)
 have r1 := hM.1 (a.toNat + 1)
 rw [show a.toNat + 1 = (a + 1).toNat by omega] at c1 r1
 have c2 := h.hb (a.toNat + 2) (by omega)
 have r2 := hM.1 (a.toNat + 2)
 rw [show a.toNat + 2 = (a + 2).toNat by omega] at c2 r2
 have c3 := h.hb (a.toNat + 3) (by omega)
 have r3 := hM.1 (a.toNat + 3)
 rw [show a.toNat + 3 = (a + 3).toNat by omega] at c3 r3
 generalize M.by_ a.toNat = y0 at c0 r0 ⊢
 rw [show a.toNat + 1 = (a + 1).toNat by omega]
 generalize M.by_ (a + 1).toNat = y1 at c1 r1 ⊢
 rw [show a.toNat + 2 = (a + 2).toNat by omega]
 generalize M.by_ (a + 2).toNat = y2 at c2 r2 ⊢
 rw [show a.toNat + 3 = (a + 3).toNat by omega]
 generalize M.by_ (a + 3).toNat = y3 at c3 r3 ⊢
 obtain ⟨r0a, r0b⟩ := r0
 obtain ⟨r1a, r1b⟩ := r1
 obtain ⟨r2a, r2b⟩ := r2
 obtain ⟨r3a, r3b⟩ := r3
 obtain ⟨pq, pb, pr, pm, pt⟩ := P
 simp only at q0 lq lb c0 c1 c2 c3 HB HH
 clear h hM hs p0
 go_enter Try.func105, Try.ntmps105
 go_wp2_with (go_at_call 162; refine (HB.out _ (HH.out _)).mono ?_; rintro e w1 ⟨rfl, hb1⟩; obtain ⟨g0, g1, g2, g3, g4⟩ := Rs.of_call hb1; have B1 := κ (aft_alloc hb1); have q0' := (B1.out.cell (p := ⟨pq, 0, none⟩) lq).trans q0; have c0' := (B1.out.cell (p := ⟨pb, a.toNat, none⟩) lb).trans c0; have c1' := (B1.out.cell (p := ⟨pb, (a + 1).toNat, none⟩) lb).trans c1; have c2' := (B1.out.cell (p := ⟨pb, (a + 2).toNat, none⟩) lb).trans c2; have c3' := (B1.out.cell (p := ⟨pb, (a + 3).toNat, none⟩) lb).trans c3; have lq' := Nat.lt_of_lt_of_le lq B1.out.size; have lb' := Nat.lt_of_lt_of_le lb B1.out.size; clear hb1)
 refine wp_loop_rounds 5 ?_
 rw [rounds_succ]; go_wp2
 rw [rounds_succ]; go_wp2
 rw [rounds_succ]; go_wp2
 rw [rounds_succ]; go_wp2
 rw [rounds_succ]; go_wp2
 go_region
 go_wp2
 refine bodyPost_ret (v := .tuple #[.int .u32 (((y3 * 256 + y2) * 256 + y1) * 256 + y0), .agg #[.int .i64 0, .int .u32 0]]) (by simp [results, Try.results105, go_sem, g0, g1, g4]) rfl ⟨ret_ld (by omega), ?_⟩
 exact (((B1.out.setCell (Nat.le_refl _) _).setCell (Nat.le_refl _) _).alloc (by simpa using B1.out.size) _).drew
theorem rload_any (P : RP) (M : MM) (a n : Int) (w : World) (h : RM P M w) (hM : MOk M) (a0 : 0 ≤ a) (a1 : a < 4294967296) (n1 : n < 9223372036854775808) :
  Calls Try.prog 105 #[.pointer (some ⟨P.q, 0, none⟩), .int .u32 a, .int .i64 n] w fun e w' => e = .returned (.tuple #[.int .u32 (ldv M a n), stpV 5 (srch M 1 a n.toNat)]) ∧ Below w.heap.size w w' := by
 unfold ldv
 obtain ⟨o, ho⟩ : ∃ o, srch M 1 a n.toNat = o := ⟨_, rfl⟩
 rw [ho]
 rcases o with _ | x
 ·simp only [Option.isNone_none, if_true, stpV]
  by_cases e1 : n = 1
  ·subst e1; rw [if_pos rfl]; exact rload_1 P M a w h hM a0 a1 ho
  ·rw [if_neg e1]
   by_cases e2 : n = 2
   ·subst e2; rw [if_pos rfl]; exact rload_2 P M a w h hM a0 a1 ho
   ·rw [if_neg e2]
    by_cases e4 : n = 4
    ·subst e4; rw [if_pos rfl]; exact rload_4 P M a w h hM a0 a1 ho
    ·rw [if_neg e4]
     exact rload_none P M a n w h hM a0 a1 n1 ho (by omega)
 ·simp only [Option.isNone_some, Bool.false_eq_true, if_false, stpV]
  exact rload_bad P M a n x w h hM a0 a1 n1 ho
end Go.Proofs.Ytcjcmnnhmajocab.Me
