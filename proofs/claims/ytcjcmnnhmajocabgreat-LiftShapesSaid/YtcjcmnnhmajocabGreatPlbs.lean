/- ir.Eval: what a block does. -/
import Derived.Test.YtcjcmnnhmajocabGreatPlbr
set_option linter.unusedVariables false
set_option linter.unusedSimpArgs false
set_option maxRecDepth 100000
set_option maxHeartbeats 16000000
namespace Go.Proofs.YtcjcmnnhmajocabGreat.Ev
open Go.RowKit Kt Me Fl Ic
theorem scan_all {os : List Opr} {cnt : Int} : ∀ n, n ≤ os.length → (scan os cnt n).1 = 0 → (∀ k, k < n → errAt os cnt (os.length - (k + 1)) = 0) ∧ lastOf os = true
 | 0, _, h => by
  refine ⟨fun k hk => absurd hk (by omega), ?_⟩
  unfold scan at h
  by_cases e : lastOf os = true
  ·exact e
  ·rw [if_neg e] at h
   exact absurd h (show ¬ (7 : Int) = 0 by decide)
 | n + 1, hn, h => by
  unfold scan at h
  by_cases e : errAt os cnt (os.length - (n + 1)) = 0
  ·rw [if_pos (by simp [e])] at h
   obtain ⟨h1, h2⟩ := scan_all n (by omega) h
   refine ⟨fun k hk => ?_, h2⟩
   by_cases hkn : k = n
   ·rw [hkn]; exact e
   ·exact h1 k (by omega)
  ·rw [if_neg (by simpa using e)] at h
   exact absurd h e
theorem chk_ops {os : List Opr} {cnt byt : Int} (h : (chk os cnt byt).1 = 0) : 0 < os.length ∧ os.length ≤ 2048 ∧ ∀ i o, os[i]? = some o → opE os cnt i o = 0 := by
 unfold chk at h
 by_cases h1 : 2048 < os.length
 ·rw [if_pos h1] at h; exact absurd h (by decide)
 rw [if_neg h1] at h
 by_cases h2 : cnt < 0 ∨ 64 < cnt ∨ byt < 0 ∨ 384 < byt
 ·rw [if_pos h2] at h; exact absurd h (by decide)
 rw [if_neg h2] at h
 obtain ⟨h3, h4⟩ := scan_all os.length (Nat.le_refl _) h
 have h0 : 0 < os.length := by
  rcases Nat.eq_zero_or_pos os.length with e | e
  ·unfold lastOf at h4
   rw [List.getElem?_eq_none (by omega)] at h4
   exact absurd h4 (by decide)
  ·exact e
 refine ⟨h0, by omega, fun i o ho => ?_⟩
 have hi : i < os.length := (List.getElem?_eq_some_iff.1 ho).1
 have := h3 (os.length - (i + 1)) (by omega)
 rw [show os.length - (os.length - (i + 1) + 1) = i by omega] at this
 unfold errAt at this
 rw [ho] at this
 exact this
/-- which number of W a kind takes; which of its places are values -/
structure OpK (o : Opr) (i : Nat) : Prop where
 k : 1 ≤ o.k ∧ o.k ≤ 17
 w : 0 ≤ o.w ∧ o.w < max (rS o.k) 1
 a : 0 ≤ o.a ∧ (o.a < i ∨ o.a = 0)
 b : 0 ≤ o.b ∧ (o.b < i ∨ o.b = 0 ∨ (o.k = 14 ∧ o.b < 4294967296))
 c : 0 ≤ o.c ∧ (o.c < i ∨ o.c = 0)
theorem rO_in {k : Int} (h : rO k = true) : 1 ≤ k ∧ k ≤ 17 := by
 unfold rO at h
 split at h <;> first | omega | exact absurd h (by decide)
theorem rG_14 {k : Int} (h : rG k = true) : k = 14 := by
 unfold rG at h
 split at h <;> first | rfl | exact absurd h (by decide)
theorem oerr_0 {x2 x4 x6 x8 x10 x12 : Bool} (h : oerr x2 x4 x6 x8 x10 x12 = 0) : x2 = false ∧ x4 = false ∧ x6 = false ∧ x8 = false ∧ x10 = false ∧ x12 = false := by
 unfold oerr at h
 cases x2 <;> cases x4 <;> cases x6 <;> cases x8 <;> cases x10 <;> cases x12 <;> simp at h ⊢
theorem opk_of {os : List Opr} {cnt : Int} {i : Nat} {o : Opr} (h : opE os cnt i o = 0) : OpK o i := by
 unfold opE at h
 obtain ⟨h2, h4, h6, h8, h10, h12⟩ := oerr_0 h
 unfold e2 at h2
 unfold e6 at h6
 unfold e8 at h8
 unfold e10 at h10
 simp only [Bool.or_eq_false_iff, Bool.not_eq_false', Bool.and_eq_false_iff, decide_eq_false_iff_not, Bool.not_eq_true', bne_eq_false_iff_eq, Bool.not_eq_eq_eq_not, Bool.not_true, Bool.not_false] at h2 h6 h8 h10
 have gv : ∀ {t : Int}, gvn os i t = true → 0 ≤ t ∧ t < i := fun {t} hg => by
  unfold gvn at hg
  simp only [Bool.and_eq_true, decide_eq_true_eq] at hg
  exact hg.1
 refine ⟨rO_in h2.1, ⟨by omega, by omega⟩, ?_, ?_, ?_⟩
 ·rcases h10.1 with ha | ha
  ·rcases h6.1 with e | e
   ·rw [ha] at e; exact absurd e (by decide)
   ·exact ⟨by omega, .inr e⟩
  ·have := gv ha; exact ⟨this.1, .inl this.2⟩
 ·rcases h10.2.1 with hb | hb
  ·rcases h6.2.1 with e | e | e
   ·rw [hb] at e; exact absurd e (by decide)
   ·rcases h8 with g | g
    ·rw [e] at g; exact absurd g (by decide)
    ·exact ⟨by omega, .inr (.inr ⟨rG_14 e, by omega⟩)⟩
   ·exact ⟨by omega, .inr (.inl e)⟩
  ·have := gv hb; exact ⟨this.1, .inl this.2⟩
 ·rcases h10.2.2 with hc | hc
  ·rcases h6.2.2 with e | e
   ·rw [hc] at e; exact absurd e (by decide)
   ·exact ⟨by omega, .inr e⟩
  ·have := gv hc; exact ⟨this.1, .inl this.2⟩
variable {A T p L : Nat}
theorem ldv_some {M : MM} {a n x : Int} (h : srch M 1 a n.toNat = some x) : ldv M a n = 0 := by
 unfold ldv
 rw [h]
 rfl
def ctL (c : Nat → Int) : Array Value := #[.int .u32 (c 0), .int .u32 (c 1), .int .u32 (c 2), .int .u32 (c 3), .int .u32 (c 4), .int .u32 (c 5), .int .u32 (c 6), .int .u32 (c 7), .int .u32 (c 8), .int .u32 (c 9), .int .u32 (c 10), .int .u32 (c 11)]
/-- a context in a box -/
structure CB (h : Nat) (c : Nat → Int) (W : World) : Prop where
 r : ∀ j, j < 12 → W.cell? ⟨h, j, none⟩ = some (.int .u32 (c j))
 z : ∀ j, W.frozen? ⟨h, j, none⟩ = false
 l : h < W.heap.size
variable {h : Nat} {c : Nat → Int} {W W' : World}
theorem CB.upto {S : Nat → Prop} (a : CB h c W) (u : Upto S W W') (hs : ¬ S h) : CB h c W' :=
 ⟨fun j hj => (u.cell (q := ⟨h, j, none⟩) a.l hs).trans (a.r j hj), fun j => (u.frozen (q := ⟨h, j, none⟩) a.l hs).trans (a.z j), Nat.lt_of_lt_of_le a.l u.size⟩
theorem CB.drew (a : CB h c W) : CB h c W.drew := a.upto (Upto.refl (fun _ => False) W).drew id
theorem CB.new (w : World) (c : Nat → Int) (t : TypeId) : CB w.heap.size c (w.alloc (.cells (ctL c) t)) := by
 refine ⟨fun j hj => ?_, fun j => fz_new w _ _ j, by simp⟩
 rw [box_at w (ctL c) t j]
 match j, hj with
 | 0, _ | 1, _ | 2, _ | 3, _ | 4, _ | 5, _ | 6, _ | 7, _ | 8, _ | 9, _ | 10, _ | 11, _ => rfl
 | n + 12, h => omega
theorem CB.all (a : CB h c W) : W.cell? ⟨h, 0, none⟩ = some (.int .u32 (c 0)) ∧ W.cell? ⟨h, 1, none⟩ = some (.int .u32 (c 1)) ∧ W.cell? ⟨h, 2, none⟩ = some (.int .u32 (c 2)) ∧ W.cell? ⟨h, 3, none⟩ = some (.int .u32 (c 3)) ∧ W.cell? ⟨h, 4, none⟩ = some (.int .u32 (c 4)) ∧ W.cell? ⟨h, 5, none⟩ = some (.int .u32 (c 5)) ∧ W.cell? ⟨h, 6, none⟩ = some (.int .u32 (c 6)) ∧ W.cell? ⟨h, 7, none⟩ = some (.int .u32 (c 7)) ∧ W.cell? ⟨h, 8, none⟩ = some (.int .u32 (c 8)) ∧ W.cell? ⟨h, 9, none⟩ = some (.int .u32 (c 9)) ∧ W.cell? ⟨h, 10, none⟩ = some (.int .u32 (c 10)) ∧ W.cell? ⟨h, 11, none⟩ = some (.int .u32 (c 11)) :=
 ⟨a.r 0 (by omega), a.r 1 (by omega), a.r 2 (by omega), a.r 3 (by omega), a.r 4 (by omega), a.r 5 (by omega), a.r 6 (by omega), a.r 7 (by omega), a.r 8 (by omega), a.r 9 (by omega), a.r 10 (by omega), a.r 11 (by omega)⟩
theorem CB.set (a : CB h c W) (i : Nat) (hi : i < 12) (z : Int) : CB h (upd c i z) (W.setCell ⟨h, i, none⟩ (.int .u32 z)) := by
 refine ⟨fun j hj => ?_, fun j => by simpa using a.z j, by simpa using a.l⟩
 by_cases e : j = i
 ·subst e; rw [World.cell?_setCell_same _ _ _ (a.r j hj)]; simp [upd]
 ·rw [off e, a.r j hj]; simp [upd, e]
theorem CB.congr {c' : Nat → Int} (a : CB h c W) (e : ∀ j, j < 12 → c j = c' j) : CB h c' W := ⟨fun j hj => (a.r j hj).trans (by rw [e j hj]), a.z, a.l⟩
theorem CB.put (a : CB h c W) (c' : Nat → Int) : CB h c' ((((((((((((W.setCell ⟨h, 0, none⟩ (.int .u32 (c' 0))).setCell ⟨h, 1, none⟩ (.int .u32 (c' 1))).setCell ⟨h, 2, none⟩ (.int .u32 (c' 2))).setCell ⟨h, 3, none⟩ (.int .u32 (c' 3))).setCell ⟨h, 4, none⟩ (.int .u32 (c' 4))).setCell ⟨h, 5, none⟩ (.int .u32 (c' 5))).setCell ⟨h, 6, none⟩ (.int .u32 (c' 6))).setCell ⟨h, 7, none⟩ (.int .u32 (c' 7))).setCell ⟨h, 8, none⟩ (.int .u32 (c' 8))).setCell ⟨h, 9, none⟩ (.int .u32 (c' 9))).setCell ⟨h, 10, none⟩ (.int .u32 (c' 10))).setCell ⟨h, 11, none⟩ (.int .u32 (c' 11))) := by
 refine ((((((((((((a.set 0 (by omega) (c' 0)).set 1 (by omega) (c' 1)).set 2 (by omega) (c' 2)).set 3 (by omega) (c' 3)).set 4 (by omega) (c' 4)).set 5 (by omega) (c' 5)).set 6 (by omega) (c' 6)).set 7 (by omega) (c' 7)).set 8 (by omega) (c' 8)).set 9 (by omega) (c' 9)).set 10 (by omega) (c' 10)).set 11 (by omega) (c' 11)).congr fun j hj => ?_
 match j, hj with
 | 0, _ | 1, _ | 2, _ | 3, _ | 4, _ | 5, _ | 6, _ | 7, _ | 8, _ | 9, _ | 10, _ | 11, _ => simp [upd]
 | n + 12, h => omega
theorem up_put12 {S : Nat → Prop} {w W : World} (b : Upto S w W) (hh : S h ∨ w.heap.size ≤ h) (c' : Nat → Int) : Upto S w ((((((((((((W.setCell ⟨h, 0, none⟩ (.int .u32 (c' 0))).setCell ⟨h, 1, none⟩ (.int .u32 (c' 1))).setCell ⟨h, 2, none⟩ (.int .u32 (c' 2))).setCell ⟨h, 3, none⟩ (.int .u32 (c' 3))).setCell ⟨h, 4, none⟩ (.int .u32 (c' 4))).setCell ⟨h, 5, none⟩ (.int .u32 (c' 5))).setCell ⟨h, 6, none⟩ (.int .u32 (c' 6))).setCell ⟨h, 7, none⟩ (.int .u32 (c' 7))).setCell ⟨h, 8, none⟩ (.int .u32 (c' 8))).setCell ⟨h, 9, none⟩ (.int .u32 (c' 9))).setCell ⟨h, 10, none⟩ (.int .u32 (c' 10))).setCell ⟨h, 11, none⟩ (.int .u32 (c' 11))) :=
 (((((((((((b.setCell (q := ⟨h, 0, none⟩) hh (.int .u32 (c' 0))).setCell (q := ⟨h, 1, none⟩) hh (.int .u32 (c' 1))).setCell (q := ⟨h, 2, none⟩) hh (.int .u32 (c' 2))).setCell (q := ⟨h, 3, none⟩) hh (.int .u32 (c' 3))).setCell (q := ⟨h, 4, none⟩) hh (.int .u32 (c' 4))).setCell (q := ⟨h, 5, none⟩) hh (.int .u32 (c' 5))).setCell (q := ⟨h, 6, none⟩) hh (.int .u32 (c' 6))).setCell (q := ⟨h, 7, none⟩) hh (.int .u32 (c' 7))).setCell (q := ⟨h, 8, none⟩) hh (.int .u32 (c' 8))).setCell (q := ⟨h, 9, none⟩) hh (.int .u32 (c' 9))).setCell (q := ⟨h, 10, none⟩) hh (.int .u32 (c' 10))).setCell (q := ⟨h, 11, none⟩) hh (.int .u32 (c' 11))
theorem up_put4 {S : Nat → Prop} {w W : World} (b : Upto S w W) (hh : S h ∨ w.heap.size ≤ h) (k' x' p' n' : Int) : Upto S w ((((W.setCell ⟨h, 0, none⟩ (.int .i64 k')).setCell ⟨h, 1, none⟩ (.int .u32 x')).setCell ⟨h, 2, none⟩ (.int .u32 p')).setCell ⟨h, 3, none⟩ (.int .i64 n')) :=
 (((b.setCell (q := ⟨h, 0, none⟩) hh (.int .i64 k')).setCell (q := ⟨h, 1, none⟩) hh (.int .u32 x')).setCell (q := ⟨h, 2, none⟩) hh (.int .u32 p')).setCell (q := ⟨h, 3, none⟩) hh (.int .i64 n')
theorem u32_info : ∃ i, Tryz.prog.info? 29 = some i ∧ i.zero = some (.int .u32 0) ∧ i.size = 1 ∧ i.bytes = 4 := by
 have h : (Tryz.prog.info? 29).map (fun i => (i.zero, i.size, i.bytes)) = some (some (.int .u32 0), 1, 4) := by kernel_rfl
 obtain ⟨i, hi, hz⟩ := Option.map_eq_some_iff.1 h
 simp only [Prod.mk.injEq] at hz
 exact ⟨i, hi, hz.1, hz.2.1, hz.2.2⟩
/-- what Eval answers -/
def evalO (os : List Opr) (cnt byt : Int) (s : Evs) : Evs × Ext × Int :=
 if (chk os cnt byt).1 = 0 then ((evN os os.length s).1, (evN os os.length s).2.1, 0) else (s, ⟨0, 0, 0, 0⟩, (chk os cnt byt).1)
def evalV (r : Evs × Ext × Int) : Value := .tuple #[.agg (ctL r.1.c), .agg #[.int .i64 r.2.1.k, .int .u32 r.2.1.x, .int .u32 r.2.1.pc, .int .i64 r.2.1.n], .int .i64 r.2.2]
/-- a block in a box -/
structure BB (h : Nat) (bpc cnt byt : Int) (ao : Option Addr) (L cap : Nat) (W : World) : Prop where
 c0 : W.cell? ⟨h, 0, none⟩ = some (.int .u32 bpc)
 c1 : W.cell? ⟨h, 1, none⟩ = some (.int .i64 cnt)
 c2 : W.cell? ⟨h, 2, none⟩ = some (.int .i64 byt)
 c3 : W.cell? ⟨h, 3, none⟩ = some (.slice ao L cap)
 l : h < W.heap.size
theorem BB.upto {S : Nat → Prop} {h : Nat} {bpc cnt byt : Int} {ao : Option Addr} {L cap : Nat} {W W' : World} (a : BB h bpc cnt byt ao L cap W) (u : Upto S W W') (hs : ¬ S h) : BB h bpc cnt byt ao L cap W' :=
 ⟨(u.cell (q := ⟨h, 0, none⟩) a.l hs).trans a.c0, (u.cell (q := ⟨h, 1, none⟩) a.l hs).trans a.c1, (u.cell (q := ⟨h, 2, none⟩) a.l hs).trans a.c2, (u.cell (q := ⟨h, 3, none⟩) a.l hs).trans a.c3, Nat.lt_of_lt_of_le a.l u.size⟩
theorem ev_new (w : World) (bpc cnt byt : Int) (ao : Option Addr) (L cap : Nat) (cx : Nat → Int) :
  BB w.heap.size bpc cnt byt ao L cap ((((w.alloc (.cells #[.int .u32 bpc, .int .i64 cnt, .int .i64 byt, .slice ao L cap] 52)).alloc (.cells (ctL cx) 44)).alloc (.cells (ctL fun _ => 0) 44)).alloc (.cells #[.int .i64 0, .int .u32 0, .int .u32 0, .int .i64 0] 66)) ∧ CB (w.heap.size + 1) cx ((((w.alloc (.cells #[.int .u32 bpc, .int .i64 cnt, .int .i64 byt, .slice ao L cap] 52)).alloc (.cells (ctL cx) 44)).alloc (.cells (ctL fun _ => 0) 44)).alloc (.cells #[.int .i64 0, .int .u32 0, .int .u32 0, .int .i64 0] 66)) ∧ CB (w.heap.size + 1 + 1) (fun _ => 0) ((((w.alloc (.cells #[.int .u32 bpc, .int .i64 cnt, .int .i64 byt, .slice ao L cap] 52)).alloc (.cells (ctL cx) 44)).alloc (.cells (ctL fun _ => 0) 44)).alloc (.cells #[.int .i64 0, .int .u32 0, .int .u32 0, .int .i64 0] 66)) ∧ XB4 (w.heap.size + 1 + 1 + 1) 0 0 0 0 ((((w.alloc (.cells #[.int .u32 bpc, .int .i64 cnt, .int .i64 byt, .slice ao L cap] 52)).alloc (.cells (ctL cx) 44)).alloc (.cells (ctL fun _ => 0) 44)).alloc (.cells #[.int .i64 0, .int .u32 0, .int .u32 0, .int .i64 0] 66)) ∧ Upto (fun _ => False) w ((((w.alloc (.cells #[.int .u32 bpc, .int .i64 cnt, .int .i64 byt, .slice ao L cap] 52)).alloc (.cells (ctL cx) 44)).alloc (.cells (ctL fun _ => 0) 44)).alloc (.cells #[.int .i64 0, .int .u32 0, .int .u32 0, .int .i64 0] 66)) := by
 have hu := ((((Upto.refl (fun _ => False) w).alloc (.cells #[.int .u32 bpc, .int .i64 cnt, .int .i64 byt, .slice ao L cap] 52)).alloc (.cells (ctL cx) 44)).alloc (.cells (ctL fun _ => 0) 44)).alloc (.cells #[.int .i64 0, .int .u32 0, .int .u32 0, .int .i64 0] 66)
 have bb : BB w.heap.size bpc cnt byt ao L cap (w.alloc (.cells #[.int .u32 bpc, .int .i64 cnt, .int .i64 byt, .slice ao L cap] 52)) := ⟨box_at w _ _ 0, box_at w _ _ 1, box_at w _ _ 2, box_at w _ _ 3, by simp⟩
 have e1 : (w.alloc (.cells #[.int .u32 bpc, .int .i64 cnt, .int .i64 byt, .slice ao L cap] 52)).heap.size = w.heap.size + 1 := by simp
 generalize w.alloc (.cells #[.int .u32 bpc, .int .i64 cnt, .int .i64 byt, .slice ao L cap] 52) = W1 at bb e1 hu ⊢
 have c2 := CB.new W1 cx 44
 have e2 : (W1.alloc (.cells (ctL cx) 44)).heap.size = w.heap.size + 1 + 1 := by simp [e1]
 have u2 := (Upto.refl (fun _ => False) W1).alloc (.cells (ctL cx) 44)
 rw [e1] at c2
 generalize W1.alloc (.cells (ctL cx) 44) = W2 at c2 e2 u2 hu ⊢
 have c3 := CB.new W2 (fun _ => 0) 44
 have e3 : (W2.alloc (.cells (ctL fun _ => 0) 44)).heap.size = w.heap.size + 1 + 1 + 1 := by simp [e2]
 have u3 := (Upto.refl (fun _ => False) W2).alloc (.cells (ctL fun _ => 0) 44)
 rw [e2] at c3
 generalize W2.alloc (.cells (ctL fun _ => 0) 44) = W3 at c3 e3 u3 hu ⊢
 have x4 := XB4.new W3 0 0 0 0 66
 have u4 := (Upto.refl (fun _ => False) W3).alloc (.cells #[.int .i64 0, .int .u32 0, .int .u32 0, .int .i64 0] 66)
 rw [e3] at x4
 exact ⟨((bb.upto u2 id).upto u3 id).upto u4 id, (c2.upto u3 id).upto u4 id, c3.upto u4 id, x4, hu⟩
theorem evN_go {os : List Opr} {m j : Nat} {o : Opr} {s s' : Evs} (hm : os.length - j = m + 1) (ho : os[j]? = some o) (h : opV o s j = (s', none)) : evN os (os.length - j) s = evN os (os.length - (j + 1)) s' := by
 have hj : os.length - (m + 1) = j := by omega
 rw [hm, show os.length - (j + 1) = m by omega, evN, hj]
 simp only [ho, h]
theorem evN_out {os : List Opr} {m j : Nat} {o : Opr} {s s' : Evs} {x : Ext} (hm : os.length - j = m + 1) (ho : os[j]? = some o) (h : opV o s j = (s', some x)) : evN os (os.length - j) s = (s', x, (j : Int)) := by
 have hj : os.length - (m + 1) = j := by omega
 rw [hm, evN, hj]
 simp only [ho, h]
end Go.Proofs.YtcjcmnnhmajocabGreat.Ev
