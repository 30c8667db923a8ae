/- opt: the map of what is there; number. -/
import Derived.Deep.LoopGhost
import Derived.LoopN
import Derived.Deep.DeepCutAuto
import Derived.Outline
import Derived.DeepKeys4
import Derived.Maps.OwnSet
import Derived.Maps.OwnOps
import Derived.Maps.Views
import Derived.WalkArith
import Derived.Test.YtcjcmnnhmajocabPoak
namespace Go.Proofs.Ytcjcmnnhmajocab.Ot
open Go.RowKit Kt Ic Me Ev
set_option linter.unusedVariables false
set_option linter.unusedSimpArgs false
variable {K : Wc} {s : Wk} {W W' : World}
def isR (k : Int) (j : Nat) : Bool := if j = 0 then tA k else if j = 1 then tB k else tC k
def ar (o : Opr) (j : Nat) : Int := if j = 0 then o.a else if j = 1 then o.b else o.c
/-- so many of its places are named anew -/
def rn (tt : Nat → Int) (f : Nat → Bool) (g : Nat → Int) (m i : Nat) : Int := if i < m ∧ f i = true then tt (g i).toNat else g i
theorem rn_same (tt : Nat → Int) (f : Nat → Bool) (g : Nat → Int) (m i : Nat) (h : i ≠ m ∨ f m = false) : rn tt f g (m + 1) i = rn tt f g m i := by
  unfold rn
  by_cases e : i < m ∧ f i = true
  · rw [if_pos e, if_pos ⟨by omega, e.2⟩]
  · rw [if_neg e, if_neg]
    rintro ⟨h1, h2⟩
    rcases h with h | h
    · exact e ⟨by omega, h2⟩
    · by_cases e2 : i = m
      · rw [e2, h] at h2; exact nomatch h2
      · exact e ⟨by omega, h2⟩
theorem rn_new (tt : Nat → Int) (f : Nat → Bool) (g : Nat → Int) (m : Nat) (h : f m = true) : rn tt f g (m + 1) m = tt (g m).toNat := if_pos ⟨by omega, h⟩
theorem rn_old (tt : Nat → Int) (f : Nat → Bool) (g : Nat → Int) (m i : Nat) (h : m ≤ i) : rn tt f g m i = g i := if_neg fun e => by omega
/-- the operation under way -/
structure RO (b : Nat) (k ow okn on : Int) (r : Nat → Int) (W : World) : Prop where
  l : b < W.heap.size
  c0 : W.cell? ⟨b, 0, none⟩ = some (.int .i64 k)
  c1 : W.cell? ⟨b, 1, none⟩ = some (.int .i64 ow)
  c : ∀ i, i < 3 → W.cell? ⟨b, 2 + i, none⟩ = some (.int .i64 (r i))
  c5 : W.cell? ⟨b, 5, none⟩ = some (.int .u32 okn)
  c6 : W.cell? ⟨b, 6, none⟩ = some (.int .i64 on)
  z : ∀ j, W.frozen? ⟨b, j, none⟩ = false
variable {b : Nat} {k ow okn on : Int} {r : Nat → Int}
theorem RO.new (w : World) (k ow oa ob oc okn on : Int) (t : TypeId) : RO w.heap.size k ow okn on (fun i => if i = 0 then oa else if i = 1 then ob else oc) (w.alloc (.cells #[.int .i64 k, .int .i64 ow, .int .i64 oa, .int .i64 ob, .int .i64 oc, .int .u32 okn, .int .i64 on] t)) :=
  have e : ∀ j v, (#[Value.int .i64 k, .int .i64 ow, .int .i64 oa, .int .i64 ob, .int .i64 oc, .int .u32 okn, .int .i64 on] : Array Value)[j]? = some v → (w.alloc (.cells #[.int .i64 k, .int .i64 ow, .int .i64 oa, .int .i64 ob, .int .i64 oc, .int .u32 okn, .int .i64 on] t)).cell? ⟨w.heap.size, j, none⟩ = some v := fun j v h => (cell_of_row _ _ _ _ _ _ (heap_alloc_new w _)).trans h
  ⟨by simp, e 0 _ rfl, e 1 _ rfl, fun i hi => by rcases (show i = 0 ∨ i = 1 ∨ i = 2 by omega) with rfl | rfl | rfl; exact e 2 _ rfl; exact e 3 _ rfl; exact e 4 _ rfl, e 5 _ rfl, e 6 _ rfl, fun j => by simp⟩
theorem RO.upto {S : Nat → Prop} (a : RO b k ow okn on r W) (u : Upto S W W') (hs : ¬ S b) : RO b k ow okn on r W' :=
  have e : ∀ j, W'.cell? ⟨b, j, none⟩ = W.cell? ⟨b, j, none⟩ := fun j => u.cell (q := ⟨b, j, none⟩) a.l hs
  ⟨Nat.lt_of_lt_of_le a.l u.size, (e _).trans a.c0, (e _).trans a.c1, fun i hi => (e _).trans (a.c i hi), (e _).trans a.c5, (e _).trans a.c6, fun j => (u.frozen (q := ⟨b, j, none⟩) a.l hs).trans (a.z j)⟩
theorem RO.set (a : RO b k ow okn on r W) (i : Nat) (hi : i < 3) (x : Int) : RO b k ow okn on (upd r i x) (W.setCell ⟨b, 2 + i, none⟩ (.int .i64 x)) :=
  ⟨by simpa using a.l, (HM.cell_other (by omega)).trans a.c0, (HM.cell_other (by omega)).trans a.c1, fun j hj => by
    unfold upd
    by_cases e : j = i
    · rw [if_pos e, e]; exact World.cell?_setCell_same _ _ _ (a.c i hi)
    · rw [if_neg e, HM.cell_other (by omega)]; exact a.c j hj, (HM.cell_other (by omega)).trans a.c5, (HM.cell_other (by omega)).trans a.c6, fun j => by simpa using a.z j⟩
theorem RO.eqv {r' : Nat → Int} (a : RO b k ow okn on r W) (h : ∀ i, i < 3 → r i = r' i) : RO b k ow okn on r' W := ⟨a.l, a.c0, a.c1, fun i hi => by rw [a.c i hi, h i hi], a.c5, a.c6, a.z⟩
/-- the places, as they are gone through -/
def PB (B b : Nat) (f : Nat → Bool) (W : World) : Prop := B < W.heap.size ∧ ∀ j, j < 3 → W.cell? ⟨B, j * 2, none⟩ = some (.bool (f j)) ∧ W.cell? ⟨B, j * 2 + 1, none⟩ = some (.pointer (some ⟨b, 2 + j, none⟩))
theorem PB.upto {B : Nat} {f : Nat → Bool} {S : Nat → Prop} (a : PB B b f W) (u : Upto S W W') (hs : ¬ S B) : PB B b f W' :=
  ⟨Nat.lt_of_lt_of_le a.1 u.size, fun j hj => ⟨(u.cell (q := ⟨B, j * 2, none⟩) a.1 hs).trans (a.2 j hj).1, (u.cell (q := ⟨B, j * 2 + 1, none⟩) a.1 hs).trans (a.2 j hj).2⟩⟩
/-- seven cells are written -/
theorem set7 (W : World) (b : Nat) (v0 v1 v2 v3 v4 v5 v6 : Value) {x0 x1 x2 x3 x4 x5 x6 : Value} (h0 : W.cell? ⟨b, 0, none⟩ = some x0) (h1 : W.cell? ⟨b, 1, none⟩ = some x1) (h2 : W.cell? ⟨b, 2, none⟩ = some x2) (h3 : W.cell? ⟨b, 3, none⟩ = some x3) (h4 : W.cell? ⟨b, 4, none⟩ = some x4) (h5 : W.cell? ⟨b, 5, none⟩ = some x5) (h6 : W.cell? ⟨b, 6, none⟩ = some x6) :
    (((((((W.setCell ⟨b, 0, none⟩ v0).setCell ⟨b, 1, none⟩ v1).setCell ⟨b, 2, none⟩ v2).setCell ⟨b, 3, none⟩ v3).setCell ⟨b, 4, none⟩ v4).setCell ⟨b, 5, none⟩ v5).setCell ⟨b, 6, none⟩ v6).cell? ⟨b, 0, none⟩ = some v0 ∧ (((((((W.setCell ⟨b, 0, none⟩ v0).setCell ⟨b, 1, none⟩ v1).setCell ⟨b, 2, none⟩ v2).setCell ⟨b, 3, none⟩ v3).setCell ⟨b, 4, none⟩ v4).setCell ⟨b, 5, none⟩ v5).setCell ⟨b, 6, none⟩ v6).cell? ⟨b, 1, none⟩ = some v1 ∧ (((((((W.setCell ⟨b, 0, none⟩ v0).setCell ⟨b, 1, none⟩ v1).setCell ⟨b, 2, none⟩ v2).setCell ⟨b, 3, none⟩ v3).setCell ⟨b, 4, none⟩ v4).setCell ⟨b, 5, none⟩ v5).setCell ⟨b, 6, none⟩ v6).cell? ⟨b, 2, none⟩ = some v2 ∧ (((((((W.setCell ⟨b, 0, none⟩ v0).setCell ⟨b, 1, none⟩ v1).setCell ⟨b, 2, none⟩ v2).setCell ⟨b, 3, none⟩ v3).setCell ⟨b, 4, none⟩ v4).setCell ⟨b, 5, none⟩ v5).setCell ⟨b, 6, none⟩ v6).cell? ⟨b, 3, none⟩ = some v3 ∧ (((((((W.setCell ⟨b, 0, none⟩ v0).setCell ⟨b, 1, none⟩ v1).setCell ⟨b, 2, none⟩ v2).setCell ⟨b, 3, none⟩ v3).setCell ⟨b, 4, none⟩ v4).setCell ⟨b, 5, none⟩ v5).setCell ⟨b, 6, none⟩ v6).cell? ⟨b, 4, none⟩ = some v4 ∧ (((((((W.setCell ⟨b, 0, none⟩ v0).setCell ⟨b, 1, none⟩ v1).setCell ⟨b, 2, none⟩ v2).setCell ⟨b, 3, none⟩ v3).setCell ⟨b, 4, none⟩ v4).setCell ⟨b, 5, none⟩ v5).setCell ⟨b, 6, none⟩ v6).cell? ⟨b, 5, none⟩ = some v5 ∧ (((((((W.setCell ⟨b, 0, none⟩ v0).setCell ⟨b, 1, none⟩ v1).setCell ⟨b, 2, none⟩ v2).setCell ⟨b, 3, none⟩ v3).setCell ⟨b, 4, none⟩ v4).setCell ⟨b, 5, none⟩ v5).setCell ⟨b, 6, none⟩ v6).cell? ⟨b, 6, none⟩ = some v6 := by
  refine ⟨?_, ?_, ?_, ?_, ?_, ?_, ?_⟩
  · rw [HM.cell_other (by decide)]; rw [HM.cell_other (by decide)]; rw [HM.cell_other (by decide)]; rw [HM.cell_other (by decide)]; rw [HM.cell_other (by decide)]; rw [HM.cell_other (by decide)]; exact World.cell?_setCell_same _ _ _ (h0)
  · rw [HM.cell_other (by decide)]; rw [HM.cell_other (by decide)]; rw [HM.cell_other (by decide)]; rw [HM.cell_other (by decide)]; rw [HM.cell_other (by decide)]; exact World.cell?_setCell_same _ _ _ ((HM.cell_other (by decide)).trans (h1))
  · rw [HM.cell_other (by decide)]; rw [HM.cell_other (by decide)]; rw [HM.cell_other (by decide)]; rw [HM.cell_other (by decide)]; exact World.cell?_setCell_same _ _ _ ((HM.cell_other (by decide)).trans ((HM.cell_other (by decide)).trans (h2)))
  · rw [HM.cell_other (by decide)]; rw [HM.cell_other (by decide)]; rw [HM.cell_other (by decide)]; exact World.cell?_setCell_same _ _ _ ((HM.cell_other (by decide)).trans ((HM.cell_other (by decide)).trans ((HM.cell_other (by decide)).trans (h3))))
  · rw [HM.cell_other (by decide)]; rw [HM.cell_other (by decide)]; exact World.cell?_setCell_same _ _ _ ((HM.cell_other (by decide)).trans ((HM.cell_other (by decide)).trans ((HM.cell_other (by decide)).trans ((HM.cell_other (by decide)).trans (h4)))))
  · rw [HM.cell_other (by decide)]; exact World.cell?_setCell_same _ _ _ ((HM.cell_other (by decide)).trans ((HM.cell_other (by decide)).trans ((HM.cell_other (by decide)).trans ((HM.cell_other (by decide)).trans ((HM.cell_other (by decide)).trans (h5))))))
  · exact World.cell?_setCell_same _ _ _ ((HM.cell_other (by decide)).trans ((HM.cell_other (by decide)).trans ((HM.cell_other (by decide)).trans ((HM.cell_other (by decide)).trans ((HM.cell_other (by decide)).trans ((HM.cell_other (by decide)).trans (h6)))))))
set_option maxRecDepth 100000 in
set_option maxHeartbeats 4000000 in
theorem renamed_any (o : Opr) (w : World) (a : WM K s w) (hb : ∀ j, j < 3 → isR o.k j = true → 0 ≤ ar o j ∧ ar o j < K.n) :
    Calls Try.prog 120 #[.pointer (some ⟨K.h, 0, none⟩), .agg #[.int .i64 o.k, .int .i64 o.w, .int .i64 o.a, .int .i64 o.b, .int .i64 o.c, .int .u32 o.kn, .int .i64 o.n]] w fun e w' => e = .returned (.agg #[.int .i64 (ren s.to o).k, .int .i64 (ren s.to o).w, .int .i64 (ren s.to o).a, .int .i64 (ren s.to o).b, .int .i64 (ren s.to o).c, .int .u32 (ren s.to o).kn, .int .i64 (ren s.to o).n]) ∧ Below w.heap.size w w' := by
  have TK : Hid (∀ w, Calls Try.prog 118 #[.agg #[.int .i64 o.k, .int .i64 o.w, .int .i64 o.a, .int .i64 o.b, .int .i64 o.c, .int .u32 o.kn, .int .i64 o.n]] w fun e w' => e = .returned (.tuple #[.bool (isR o.k 0), .bool (isR o.k 1), .bool (isR o.k 2)]) ∧ Below w.heap.size w w') := fun w => takes_any o w
  have HE : Hid ((ren s.to o).a = rn s.to (isR o.k) (ar o) 3 0 ∧ (ren s.to o).b = rn s.to (isR o.k) (ar o) 3 1 ∧ (ren s.to o).c = rn s.to (isR o.k) (ar o) 3 2) := by
    refine ⟨?_, ?_, ?_⟩
    · show (if tA o.k = true then _ else _) = if _ then _ else _
      by_cases e : tA o.k = true
      · rw [if_pos e, if_pos ⟨by decide, e⟩]; rfl
      · rw [if_neg e, if_neg (fun h => e h.2)]; rfl
    · show (if tB o.k = true then _ else _) = if _ then _ else _
      by_cases e : tB o.k = true
      · rw [if_pos e, if_pos ⟨by decide, e⟩]; rfl
      · rw [if_neg e, if_neg (fun h => e h.2)]; rfl
    · show (if tC o.k = true then _ else _) = if _ then _ else _
      by_cases e : tC o.k = true
      · rw [if_pos e, if_pos ⟨by decide, e⟩]; rfl
      · rw [if_neg e, if_neg (fun h => e h.2)]; rfl
  have HK : Hid ((ren s.to o).k = o.k ∧ (ren s.to o).w = o.w ∧ (ren s.to o).kn = o.kn ∧ (ren s.to o).n = o.n) := ⟨rfl, rfl, rfl, rfl⟩
  generalize ren s.to o = oo at HE HK ⊢
  generalize isR o.k = f at TK HE hb
  have HG : Hid (∀ i, i < 3 → ar o i = if i = 0 then o.a else if i = 1 then o.b else o.c) := fun i _ => rfl
  generalize ar o = g at HE HG hb
  have HB := Lib.hid hb
  obtain ⟨k, ow, oa, ob, oc, okn, on⟩ := o
  dsimp only at *
  have A := Lib.hid a
  have l0 := a.l
  clear a hb
  go_enter Try.func120, Try.ntmps120
  go_upto_region 3 with (go_at_call 118; refine (TK.out _).mono ?_; rintro e w1 ⟨rfl, B1⟩)
  have R1 := (((RO.new w k ow oa ob oc okn on 31).upto ((Upto.refl (fun _ => False) _).alloc (.cells #[.int .i64 0, .int .i64 0, .int .i64 0, .int .i64 0, .int .i64 0, .int .u32 0, .int .i64 0] 31)) id).upto (Upto.of_below (S := fun _ => False) B1) id).upto ((Upto.refl (fun _ => False) w1).alloc (.cells #[.bool (f 0), .pointer (some ⟨w.heap.size, 2, none⟩), .bool (f 1), .pointer (some ⟨w.heap.size, 3, none⟩), .bool (f 2), .pointer (some ⟨w.heap.size, 4, none⟩)] 246)) id
  have Z1 := ((RO.new (w.alloc (.cells #[.int .i64 k, .int .i64 ow, .int .i64 oa, .int .i64 ob, .int .i64 oc, .int .u32 okn, .int .i64 on] 31)) 0 0 0 0 0 0 0 31).upto (Upto.of_below (S := fun _ => False) B1) id).upto ((Upto.refl (fun _ => False) w1).alloc (.cells #[.bool (f 0), .pointer (some ⟨w.heap.size, 2, none⟩), .bool (f 1), .pointer (some ⟨w.heap.size, 3, none⟩), .bool (f 2), .pointer (some ⟨w.heap.size, 4, none⟩)] 246)) id
  rw [World.size_alloc] at Z1
  have P1 : PB w1.heap.size w.heap.size f (w1.alloc (.cells #[.bool (f 0), .pointer (some ⟨w.heap.size, 2, none⟩), .bool (f 1), .pointer (some ⟨w.heap.size, 3, none⟩), .bool (f 2), .pointer (some ⟨w.heap.size, 4, none⟩)] 246)) :=
    have e : ∀ j v, (#[.bool (f 0), .pointer (some ⟨w.heap.size, 2, none⟩), .bool (f 1), .pointer (some ⟨w.heap.size, 3, none⟩), .bool (f 2), .pointer (some ⟨w.heap.size, 4, none⟩)] : Array Value)[j]? = some v → (w1.alloc (.cells #[.bool (f 0), .pointer (some ⟨w.heap.size, 2, none⟩), .bool (f 1), .pointer (some ⟨w.heap.size, 3, none⟩), .bool (f 2), .pointer (some ⟨w.heap.size, 4, none⟩)] 246)).cell? ⟨w1.heap.size, j, none⟩ = some v := fun j v h => (cell_of_row _ _ _ _ _ _ (heap_alloc_new w1 _)).trans h
    ⟨by simp, fun j hj => by
      rcases (show j = 0 ∨ j = 1 ∨ j = 2 by omega) with rfl | rfl | rfl
      · exact ⟨e 0 _ rfl, e 1 _ rfl⟩
      · exact ⟨e 2 _ rfl, e 3 _ rfl⟩
      · exact ⟨e 4 _ rfl, e 5 _ rfl⟩⟩
  have BL : Below w.heap.size w (w1.alloc (.cells #[.bool (f 0), .pointer (some ⟨w.heap.size, 2, none⟩), .bool (f 1), .pointer (some ⟨w.heap.size, 3, none⟩), .bool (f 2), .pointer (some ⟨w.heap.size, 4, none⟩)] 246)) := ((((Below.refl _ w).alloc (Nat.le_refl _) _).alloc (by rw [World.size_alloc]; omega) _).trans (B1.mono (by rw [World.size_alloc, World.size_alloc]; omega))).alloc (by have := B1.size; rw [World.size_alloc, World.size_alloc] at this; omega) _
  have lb : w.heap.size + 1 < w1.heap.size := by have := B1.size; simp at this; omega
  clear B1 TK
  generalize w1.alloc (.cells #[.bool (f 0), .pointer (some ⟨w.heap.size, 2, none⟩), .bool (f 1), .pointer (some ⟨w.heap.size, 3, none⟩), .bool (f 2), .pointer (some ⟨w.heap.size, 4, none⟩)] 246) = wl at *
  obtain ⟨B, hB⟩ : ∃ B, w1.heap.size = B := ⟨_, rfl⟩
  rw [hB] at P1 lb ⊢
  clear hB
  have hg0 : ∀ i, i < 3 → (if i = 0 then oa else if i = 1 then ob else oc) = g i := fun i hi => (HG.out i hi).symm
  have R0 := R1.eqv hg0
  have RL := R0.eqv (r' := rn s.to f g 0) fun i _ => (rn_old _ _ _ 0 i (Nat.zero_le _)).symm
  have PP_ := Lib.hid P1
  have BB := Lib.hid BL
  have ZZ_ := Lib.hid Z1
  clear P1 BL Z1 R1 R0 hg0
  go_loopg [27] 3 (fun n i wr => ∃ j : Nat, n = 3 - j ∧ j ≤ 3 ∧ i = .int .i64 j ∧ RO w.heap.size k ow okn on (rn s.to f g j) wr ∧ Upto (fun i => i = w.heap.size) wl wr)
  case atStart => exact ⟨0, rfl, by decide, rfl, RL, Upto.refl _ _⟩
  case round =>
    obtain ⟨j, hk, hj, rfl, hR, hU⟩ := hrel
    have nB : ¬ B = w.heap.size := by omega
    have PR := PP_.out.upto hU nB
    have AR : WM K s wr := A.out.upto (S := fun i => w.heap.size ≤ i) ((Upto.of_below' BB.out).trans (hU.mono fun i _ e => by have e' : i = w.heap.size := e; show w.heap.size ≤ i; omega)) fun i e => e
    by_cases hlt : j < 3
    · have p0 := (PR.2 j hlt).1
      have p1 := (PR.2 j hlt).2
      have pl := PR.1
      have rl := hR.l
      have rc := hR.c j hlt
      rw [rn_old _ _ _ j j (Nat.le_refl _)] at rc
      have HRR := Lib.hid hR
      have HUU := Lib.hid hU
      have HK2 := Lib.hid hk
      have hlt' : (j : Int) < 3 := by omega
      cases hf : f j with
      | false =>
        rw [hf] at p0
        clear hR hU hk
        go_wp2
        go_roundg (3 - (j + 1))
        case measure => have := HK2.out; omega
        case rel => exact ⟨j + 1, rfl, by omega, by simp, (HRR.out.eqv fun i _ => (rn_same _ _ _ _ _ (.inr hf)).symm).upto ((Upto.refl (fun _ => False) wr).alloc _) id, HUU.out.alloc _⟩
      | true =>
        rw [hf] at p0
        obtain ⟨g0, g1⟩ := HB.out j hlt hf
        obtain ⟨t, ht⟩ := Int.eq_ofNat_of_zero_le g0
        have tn : t < K.n := by omega
        have tn' : (t : Int) < K.n := by omega
        rw [ht] at rc
        have e1 : rn s.to f g (j + 1) j = s.to t := by rw [rn_new _ _ _ _ hf, ht, Int.toNat_natCast]
        have SET : Hid (∀ W, RO w.heap.size k ow okn on (rn s.to f g j) W → RO w.heap.size k ow okn on (rn s.to f g (j + 1)) (W.setCell ⟨w.heap.size, 2 + j, none⟩ (.int .i64 (s.to t)))) := fun W a => (a.set j hlt _).eqv fun i _ => by
          unfold upd
          by_cases e : i = j
          · rw [if_pos e, e, e1]
          · rw [if_neg e, rn_same _ _ _ _ _ (.inl e)]
        have c1 := AR.c1
        have ct := AR.to t tn
        have zr := hR.z (2 + j)
        have lh := AR.l
        have lt := AR.l2
        have HFJ := Lib.hid hf
        clear hR hU hk e1 ht hf
        go_upto_region 6 with fail
        go_region
        all_goals go_wp2
        all_goals go_roundg (3 - (j + 1))
        all_goals first
          | (case measure => have := HK2.out; omega)
          | skip
        case rel => exact ⟨j + 1, rfl, by omega, by simp, (SET.out _ HRR.out).upto ((Upto.refl (fun _ => False) _).alloc _).drew id, ((HUU.out.setCell (q := ⟨w.heap.size, 2 + j, none⟩) (.inl rfl) _).alloc _).drew⟩
    · obtain rfl : j = 3 := by omega
      have d0 := hR.c 0 (by decide)
      have d1 := hR.c 1 (by decide)
      have d2 := hR.c 2 (by decide)
      rw [← HE.out.1] at d0
      rw [← HE.out.2.1] at d1
      rw [← HE.out.2.2] at d2
      have d3 := hR.c0
      have d4 := hR.c1
      have d5 := hR.c5
      have d6 := hR.c6
      have ZR := ZZ_.out.upto hU (by show ¬ w.heap.size + 1 = w.heap.size; omega)
      have k0 := ZR.c0
      have k1 := ZR.c1
      have k2 := ZR.c 0 (by decide)
      have k3 := ZR.c 1 (by decide)
      have k4 := ZR.c 2 (by decide)
      have k5 := ZR.c5
      have k6 := ZR.c6
      have y := ZR.z
      have kl := ZR.l
      have rl := hR.l
      have BF := Lib.hid (BB.out.trans (hU.below (B := w.heap.size) BB.out.size fun i hi e => by have e' : i = w.heap.size := e; omega))
      obtain ⟨hk1, hk2, hk3, hk4⟩ := HK.out
      rw [← hk1] at d3
      rw [← hk2] at d4
      rw [← hk3] at d5
      rw [← hk4] at d6
      clear hR hU ZR PR AR hk1 hk2 hk3 hk4
      go_wp2
      obtain ⟨g0, g1, g2, g3, g4, g5, g6⟩ := set7 wr (w.heap.size + 1) (.int .i64 oo.k) (.int .i64 oo.w) (.int .i64 oo.a) (.int .i64 oo.b) (.int .i64 oo.c) (.int .u32 oo.kn) (.int .i64 oo.n) k0 k1 k2 k3 k4 k5 k6
      have BX := Lib.hid (((((((BF.out.setCell (p := ⟨w.heap.size + 1, 0, none⟩) (by show w.heap.size ≤ w.heap.size + 1; omega) (.int .i64 oo.k)).setCell (p := ⟨w.heap.size + 1, 1, none⟩) (by show w.heap.size ≤ w.heap.size + 1; omega) (.int .i64 oo.w)).setCell (p := ⟨w.heap.size + 1, 2, none⟩) (by show w.heap.size ≤ w.heap.size + 1; omega) (.int .i64 oo.a)).setCell (p := ⟨w.heap.size + 1, 3, none⟩) (by show w.heap.size ≤ w.heap.size + 1; omega) (.int .i64 oo.b)).setCell (p := ⟨w.heap.size + 1, 4, none⟩) (by show w.heap.size ≤ w.heap.size + 1; omega) (.int .i64 oo.c)).setCell (p := ⟨w.heap.size + 1, 5, none⟩) (by show w.heap.size ≤ w.heap.size + 1; omega) (.int .u32 oo.kn)).setCell (p := ⟨w.heap.size + 1, 6, none⟩) (by show w.heap.size ≤ w.heap.size + 1; omega) (.int .i64 oo.n))
      generalize (((((((wr.setCell ⟨w.heap.size + 1, 0, none⟩ (.int .i64 oo.k)).setCell ⟨w.heap.size + 1, 1, none⟩ (.int .i64 oo.w)).setCell ⟨w.heap.size + 1, 2, none⟩ (.int .i64 oo.a)).setCell ⟨w.heap.size + 1, 3, none⟩ (.int .i64 oo.b)).setCell ⟨w.heap.size + 1, 4, none⟩ (.int .i64 oo.c)).setCell ⟨w.heap.size + 1, 5, none⟩ (.int .u32 oo.kn)).setCell ⟨w.heap.size + 1, 6, none⟩ (.int .i64 oo.n)) = w9 at *
      exact bodyPost_ret (v := .agg #[.int .i64 oo.k, .int .i64 oo.w, .int .i64 oo.a, .int .i64 oo.b, .int .i64 oo.c, .int .u32 oo.kn, .int .i64 oo.n]) (by simp [results, Try.results120, go_sem, g0, g1, g2, g3, g4, g5, g6]) rfl ⟨rfl, BX.out⟩
end Go.Proofs.Ytcjcmnnhmajocab.Ot
namespace Go.Proofs.Ytcjcmnnhmajocab.Ot
open Go.RowKit Kt Ic Me Ev Go.Maps
set_option linter.unusedVariables false
set_option linter.unusedSimpArgs false
variable {K : Wc} {s : Wk}
theorem laid : laidOutB Try.prog = true := by kernel_rfl
theorem opR' : decide (31 < (Try.prog).types.size) = true := by kernel_rfl
theorem opR : 31 < (Try.prog).types.size := of_decide_eq_true opR'
theorem opWide : (match (Try.prog).underlying 31 with | some (.array _ _) | some (.struct _) => true | _ => false) = true := by kernel_rfl
theorem opKT : (Try.prog).keyTypeAt 2 31 = true := by kernel_rfl
set_option maxRecDepth 100000 in
theorem opLaw : WideMaps.KeyLaw Try.prog 31 := deep_law_laid laid (m := 2) (by omega) opR opKT opWide
theorem opKey : Keyed Try.prog 31 := Keyed.of_law opLaw
/-- numbers in their bounds -/
def I6 (x : Int) : Prop := -9223372036854775808 ≤ x ∧ x < 9223372036854775808
structure OkR (o : Opr) : Prop where
  k : I6 o.k
  w : I6 o.w
  a : I6 o.a
  b : I6 o.b
  c : I6 o.c
  kn : 0 ≤ o.kn ∧ o.kn < 4294967296
  n : I6 o.n
/-- an operation as a key -/
def kl (o : Opr) : Lit := .string (keyBytes [.int .i64 o.k, .int .i64 o.w, .int .i64 o.a, .int .i64 o.b, .int .i64 o.c, .int .u32 o.kn, .int .i64 o.n])
set_option maxRecDepth 100000 in
theorem kl_of {o : Opr} (h : OkR o) : keyOf Try.prog 31 (.agg o.cells) = some (kl o) := by
  obtain ⟨k, w, a, b, c, kn, n⟩ := o
  obtain ⟨h1, h2, h3, h4, h5, h6, h7⟩ := h
  have g : ∀ x : Int, I6 x → (Lit.int .i64 x).wf = true := fun x hx => WalkArith.wf_i64 (by unfold I6 at hx; omega)
  have g1 := g _ h1
  have g2 := g _ h2
  have g3 := g _ h3
  have g4 := g _ h4
  have g5 := g _ h5
  have g7 := g _ h7
  have g6 : (Lit.int .u32 kn).wf = true := WalkArith.wf_u32 (by dsimp only at h6; omega)
  have hu := Try.underlying31
  have hi := Try.underlying3
  have hw := Try.underlying22
  have hk : (Try.prog).keyType 31 = true := by kernel_rfl
  obtain ⟨N, hN⟩ : ∃ N, (Try.prog).types.size + 1 = N + 2 := ⟨(Try.prog).types.size - 1, by have := opR; omega⟩
  have hc1 : (Try.prog).cellsOf 31 = 7 := by kernel_rfl
  have hc2 : (Try.prog).cellsOf 3 = 1 := by kernel_rfl
  have hc3 : (Try.prog).cellsOf 22 = 1 := by kernel_rfl
  unfold keyOf
  rw [hu, hN]
  dsimp only
  rw [hk]
  have hf : Value.formed Try.prog 31 (Value.agg #[.int .i64 k, .int .i64 w, .int .i64 a, .int .i64 b, .int .i64 c, .int .u32 kn, .int .i64 n]) = true := by
    simp [Value.formed, hu, hc1]
  have hl : (Try.prog).keyLits (N + 2) 31 [.int .i64 k, .int .i64 w, .int .i64 a, .int .i64 b, .int .i64 c, .int .u32 kn, .int .i64 n] = some [.int .i64 k, .int .i64 w, .int .i64 a, .int .i64 b, .int .i64 c, .int .u32 kn, .int .i64 n] := by
    dsimp only at g1 g2 g3 g4 g5 g6 g7
    simp [Program.keyLits, hu, hi, hw, hc1, hc2, hc3, g1, g2, g3, g4, g5, g6, g7]
  rw [if_pos (by show (true && Value.formed _ _ (Value.agg #[.int .i64 k, .int .i64 w, .int .i64 a, .int .i64 b, .int .i64 c, .int .u32 kn, .int .i64 n])) = true; rw [hf]; rfl)]
  show Option.map _ ((Try.prog).keyLits (N + 2) 31 [.int .i64 k, .int .i64 w, .int .i64 a, .int .i64 b, .int .i64 c, .int .u32 kn, .int .i64 n]) = _
  rw [hl]
  rfl
theorem kl_key {o : Opr} (h : OkR o) : WideAt.IsKeyLit (kl o) := by
  obtain ⟨t, ht⟩ := opLaw.str (kl_of h)
  rw [ht]; trivial
theorem ok_cK (x : Int) (h : 0 ≤ x ∧ x < 4294967296) : OkR (cK x) := ⟨⟨by show (_ : Int) ≤ 1; decide, by show (1 : Int) < _; decide⟩, ⟨by show (_ : Int) ≤ 0; decide, by show (0 : Int) < _; decide⟩, ⟨by show (_ : Int) ≤ 0; decide, by show (0 : Int) < _; decide⟩, ⟨by show (_ : Int) ≤ 0; decide, by show (0 : Int) < _; decide⟩, ⟨by show (_ : Int) ≤ 0; decide, by show (0 : Int) < _; decide⟩, h, ⟨by show (_ : Int) ≤ 0; decide, by show (0 : Int) < _; decide⟩⟩
set_option maxRecDepth 100000 in
theorem kl_inj {a b : Opr} (ha : OkR a) (hb : OkR b) (h : kl a = kl b) : a = b := by
  have e := opLaw.inj (kl_of ha) (by rw [h]; exact kl_of hb)
  cases a; cases b
  simpa [Opr.cells] using e
/-- the map: of what is a number by itself, where it is -/
def MO (b : Nat) (ops : List Opr) (W : World) : Prop :=
  ∃ n D, n ≤ ops.length ∧ W.ownsMap (H := Unit) Try.prog 31 (plainElem Try.prog 3) b n D ∧ ∀ o, OkR o → pur o.k = true → Maps.has D (kl o) = (idx o ops).isSome ∧ D.atKey (kl o) (.lit (.int .i64 0)) = .lit (.int .i64 (((idx o ops).getD 0 : Nat) : Int))
theorem zero_i64 (w : World) : (zeroValue 3).run Try.prog w = .ok (.int .i64 0) w := by kernel_rfl
theorem MO.new {b : Nat} {W : World} (h : W.ownsMap (H := Unit) Try.prog 31 (plainElem Try.prog 3) b 0 (.map [])) : MO b [] W :=
  ⟨0, _, Nat.le_refl _, h, fun o ho hp => ⟨rfl, rfl⟩⟩
theorem MO.upto {S : Nat → Prop} {b : Nat} {ops : List Opr} {W W' : World} (a : MO b ops W) (u : Upto S W W') (hs : ¬ S b) : MO b ops W' := by
  obtain ⟨n, D, hn, ⟨es, clock, hb, r⟩, hf⟩ := a
  have hlt : b < W.heap.size := (Array.getElem?_eq_some_iff.1 hb).1
  exact ⟨n, D, hn, ⟨es, clock, (u.block b hlt hs).trans hb, r⟩, hf⟩
theorem MO.lt {b : Nat} {ops : List Opr} {W : World} (a : MO b ops W) : b < W.heap.size := by
  obtain ⟨n, D, hn, h, _⟩ := a
  exact h.lt
theorem MO.other {b : Nat} {ops : List Opr} {W : World} (a : MO b ops W) (o : Opr) (ho : pur o.k = false) : MO b (ops ++ [o]) W := by
  obtain ⟨n, D, hn, h, hf⟩ := a
  refine ⟨n, D, by simp; omega, h, fun x hx hp => ?_⟩
  have e : idx x (ops ++ [o]) = idx x ops := by
    have ne : o ≠ x := fun e => by rw [e, hp] at ho; exact nomatch ho
    rw [idx_snoc, decide_eq_false ne]
    cases idx x ops <;> rfl
  rw [e]
  exact hf x hx hp
theorem MO.look {b : Nat} {ops : List Opr} {W : World} (a : MO b ops W) (o : Opr) (ho : OkR o) (hp : pur o.k = true) :
    (Instr.lookup 203 (.map (some b)) (.agg #[.int .i64 o.k, .int .i64 o.w, .int .i64 o.a, .int .i64 o.b, .int .i64 o.c, .int .u32 o.kn, .int .i64 o.n]) true).run Try.prog W = .ok (.tuple #[.int .i64 (((idx o ops).getD 0 : Nat) : Int), .bool (idx o ops).isSome]) W := by
  obtain ⟨n, D, hn, h, hf⟩ := a
  obtain ⟨v, ps, hrun, hv⟩ := h.look_ok opKey Try.underlying203 (zero_i64 W) (plainElem_int Try.underlying3 (by decide)) (kl_of ho)
  obtain ⟨c, rfl, hc, _⟩ := plainElem_int_inv Try.underlying3 hv
  have h2 := congrArg Prod.fst hc
  simp only [] at h2
  rw [(hf o ho hp).2] at h2
  rw [(hf o ho hp).1] at hrun
  simp only [DataW.lit.injEq, Lit.int.injEq, true_and] at h2
  rw [h2]
  exact hrun
set_option maxRecDepth 100000 in
theorem MO.put {b : Nat} {ops : List Opr} {W : World} (a : MO b ops W) (o : Opr) (ho : OkR o) (hi : idx o ops = none) (hn : ops.length < 1000000000) :
    ∃ W', (Instr.mapUpdate 203 (.map (some b)) (.agg #[.int .i64 o.k, .int .i64 o.w, .int .i64 o.a, .int .i64 o.b, .int .i64 o.c, .int .u32 o.kn, .int .i64 o.n]) (.int .i64 (ops.length : Int))).run Try.prog W = .ok () W' ∧ MO b (ops ++ [o]) W' ∧ Upto (fun i => i = b) W W' := by
  obtain ⟨n, D, hl, h, hf⟩ := a
  have hw : (Lit.int .i64 (ops.length : Int)).wf = true := WalkArith.wf_i64 (by omega)
  obtain ⟨W', hrun, o', g⟩ := h.update opKey Try.underlying203 (by unfold maxLen; omega) (kl_of ho) (plainElem_int (H := Unit) Try.underlying3 hw)
  refine ⟨W', hrun, ⟨n + 1, _, by simp; omega, o', fun x hx hp => ?_⟩, ⟨g.os, g.tape, g.output, g.size, fun k hk hne => g.block k hk (by simpa using hne)⟩⟩
  rw [idx_snoc]
  by_cases e : x = o
  · subst e
    rw [hi, decide_eq_true rfl]
    exact ⟨Maps.has_put_same h.isMap (kl_key ho) _, Maps.atKey_put_same h.isMap (kl_key ho) _ _⟩
  · have hne : kl x ≠ kl o := fun h => e (kl_inj hx ho h)
    rw [decide_eq_false (fun h => e h.symm)]
    have e2 : orAt (idx x ops) false ops.length = idx x ops := by cases idx x ops <;> rfl
    rw [e2]
    exact ⟨(Maps.has_put_other hne _).trans (hf x hx hp).1, (Maps.atKey_put_other hne _ _).trans (hf x hx hp).2⟩
/-- the walk and its map -/
structure WW (K : Wc) (s : Wk) (W : World) : Prop where
  m : WM K s W
  o : MO K.mb s.ops W
  mv : K.mv = .map (some K.mb)
  lb : K.mb < K.base
  nh : K.mb ≠ K.h
  nt : K.mb ≠ K.tb
variable {W W' : World}
theorem WW.upto {S : Nat → Prop} (a : WW K s W) (u : Upto S W W') (hS : ∀ i, S i → W.heap.size ≤ i) : WW K s W' :=
  ⟨a.m.upto u hS, a.o.upto u fun h => by have := hS _ h; have := a.o.lt; omega, a.mv, a.lb, a.nh, a.nt⟩
theorem WW.quiet (a : WW K s W) (u : Upto (fun _ => False) W W') : WW K s W' := a.upto u fun _ h => h.elim
theorem WW.below (a : WW K s W) (u : Below W.heap.size W W') : WW K s W' := a.quiet (Upto.of_below u)
theorem WW.alloc (a : WW K s W) (o : Obj) : WW K s (W.alloc o) := a.quiet ((Upto.refl _ W).alloc o)
/-- what is put that is no number by itself -/
theorem WW.put (a : WW K s W) (o : Opr) (ho : pur o.k = false) (m : WM K (s.put o) W') (u : Upto (fun i => i = K.h ∨ own K W i) W W') : WW K (s.put o) W' :=
  ⟨m, (a.o.upto u fun h => by rcases h with h | h; exact a.nh h; have := (a.m.own h).1; have := a.lb; omega).other o ho, a.mv, a.lb, a.nh, a.nt⟩
set_option maxRecDepth 100000 in
set_option maxHeartbeats 4000000 in
theorem number_any (o : Opr) (w : World) (a : WW K s w) (ho : OkR o) (hp : pur o.k = true) (hn : s.ops.length < 1000000000) :
    Calls Try.prog 199 #[.pointer (some ⟨K.h, 0, none⟩), .agg #[.int .i64 o.k, .int .i64 o.w, .int .i64 o.a, .int .i64 o.b, .int .i64 o.c, .int .u32 o.kn, .int .i64 o.n]] w fun e w' => e = .returned (.int .i64 (s.num o).1) ∧ WW K (s.num o).2 w' ∧ UW K w w' := by
  have a1 := a.alloc (.cells #[.int .i64 o.k, .int .i64 o.w, .int .i64 o.a, .int .i64 o.b, .int .i64 o.c, .int .u32 o.kn, .int .i64 o.n] 31)
  have u1 := UW.alloc (K := K) a.m.l (.cells #[.int .i64 o.k, .int .i64 o.w, .int .i64 o.a, .int .i64 o.b, .int .i64 o.c, .int .u32 o.kn, .int .i64 o.n] 31)
  have hO : OB w.heap.size o (w.alloc (.cells #[.int .i64 o.k, .int .i64 o.w, .int .i64 o.a, .int .i64 o.b, .int .i64 o.c, .int .u32 o.kn, .int .i64 o.n] 31)) := OB.new w o 31
  have hl : ∀ n, (Instr.lookup 203 (.map (some K.mb)) (.agg #[.int .i64 o.k, .int .i64 o.w, .int .i64 o.a, .int .i64 o.b, .int .i64 o.c, .int .u32 o.kn, .int .i64 o.n]) true).run Try.prog ((w.alloc (.cells #[.int .i64 o.k, .int .i64 o.w, .int .i64 o.a, .int .i64 o.b, .int .i64 o.c, .int .u32 o.kn, .int .i64 o.n] 31)).drewN n) = .ok (.tuple #[.int .i64 (((idx o s.ops).getD 0 : Nat) : Int), .bool (idx o s.ops).isSome]) ((w.alloc (.cells #[.int .i64 o.k, .int .i64 o.w, .int .i64 o.a, .int .i64 o.b, .int .i64 o.c, .int .u32 o.kn, .int .i64 o.n] 31)).drewN n) :=
    fun n => (a1.o.upto (W' := (w.alloc (.cells #[.int .i64 o.k, .int .i64 o.w, .int .i64 o.a, .int .i64 o.b, .int .i64 o.c, .int .u32 o.kn, .int .i64 o.n] 31)).drewN n) (S := fun _ => False) ⟨rfl, rfl, rfl, Nat.le_refl _, fun _ _ _ => rfl⟩ id).look o ho hp
  have cm := a1.m.cm
  rw [a.mv] at cm
  have lh := a.m.l
  have l1 := a1.m.l
  have lo := hO.1
  obtain ⟨b1, b2, b3, b4, b5, b6, b7⟩ := hO.all
  have A := Lib.hid a1
  have U := Lib.hid u1
  have LW := Lib.hid a
  clear a a1 u1
  cases hi : idx o s.ops with
  | some k =>
    rw [hi] at hl
    have e : s.num o = ((k : Int), s) := by unfold Wk.num; rw [hi]
    rw [e]
    dsimp only [Option.getD, Option.isSome] at hl ⊢
    clear e hi
    go_enter Try.func199, Try.ntmps199
    go_wp2
    go_quiet (fail)
    go_wp2
    go_ret
    exact ⟨rfl, A.out.quiet ⟨rfl, rfl, rfl, Nat.le_refl _, fun _ _ _ => rfl⟩, U.out.trans (UW.quiet l1 ⟨rfl, rfl, rfl, Nat.le_refl _, fun _ _ _ => rfl⟩)⟩
  | none =>
    rw [hi] at hl
    have e : s.num o = (s.nx, s.put o) := by unfold Wk.num; rw [hi]
    rw [e]
    dsimp only [Option.getD, Option.isSome] at hl ⊢
    clear e
    have PU := Lib.hid (fun (w : World) (a : WM K s w) => put_any o w a hn)
    have HI := Lib.hid hi
    have HN := Lib.hid hn
    have NX := Lib.hid (show s.nx = (s.ops.length : Int) from rfl)
    generalize hnx : s.nx = nx at *
    generalize hs' : s.put o = s' at *
    have HS := Lib.hid hs'
    clear hi hn hnx hs'
    go_enter Try.func199, Try.ntmps199
    go_wp2
    go_quiet (fail)
    have QQ : Hid (Upto (fun _ => False) (w.alloc (.cells #[.int .i64 o.k, .int .i64 o.w, .int .i64 o.a, .int .i64 o.b, .int .i64 o.c, .int .u32 o.kn, .int .i64 o.n] 31)) ((w.alloc (.cells #[.int .i64 o.k, .int .i64 o.w, .int .i64 o.a, .int .i64 o.b, .int .i64 o.c, .int .u32 o.kn, .int .i64 o.n] 31)).drewN nq)) := ⟨rfl, rfl, rfl, Nat.le_refl _, fun _ _ _ => rfl⟩
    have A1 := Lib.hid (A.out.quiet QQ.out)
    have U1 := Lib.hid (U.out.trans (UW.quiet l1 QQ.out))
    have O1 := Lib.hid (hO.upto QQ.out id)
    have N1 := Lib.hid (own_new (b := w.heap.size) LW.out.m (Nat.le_refl _) (((Upto.refl (fun _ => False) w).alloc (.cells #[.int .i64 o.k, .int .i64 o.w, .int .i64 o.a, .int .i64 o.b, .int .i64 o.c, .int .u32 o.kn, .int .i64 o.n] 31)).trans QQ.out))
    clear hO A U QQ b1 b2 b3 b4 b5 b6 b7 cm lo l1
    generalize (w.alloc (.cells #[.int .i64 o.k, .int .i64 o.w, .int .i64 o.a, .int .i64 o.b, .int .i64 o.c, .int .u32 o.kn, .int .i64 o.n] 31)).drewN nq = W1 at A1 U1 O1 N1 ⊢
    obtain ⟨b1, b2, b3, b4, b5, b6, b7⟩ := O1.out.all
    have lo := O1.out.1
    have l1 := A1.out.m.l
    go_wp2_with (go_at_call 119; refine (PU.out _ A1.out.m).mono ?_; rintro e w2 ⟨rfl, A2, V2, U2⟩)
    clear b1 b2 b3 b4 b5 b6 b7 lo l1
    have O2 : OB w.heap.size o w2 := O1.out.uw U2 A1.out.m LW.out.m.lb A1.out.lb N1.out
    obtain ⟨W3, hrun, M3, V3⟩ := MO.put (((A1.out.o.upto V2 fun h => by rcases h with h | h; exact A1.out.nh h; have := (A1.out.m.own h).1; have := A1.out.lb; omega)).upto (W' := w2.drew) (Upto.refl (fun _ => False) w2).drew id) o ho HI.out HN.out
    have cm := A2.cm
    rw [A1.out.mv] at cm
    have lh2 := A2.l
    have lo := O2.1
    obtain ⟨b1, b2, b3, b4, b5, b6, b7⟩ := O2.all
    rw [← NX.out] at hrun
    have A3 := Lib.hid (show WW K s' W3 from ⟨A2.aside (((Upto.refl (fun _ => False) w2).drew.mono fun _ _ h => h.elim).trans V3) fun i e => by obtain rfl : i = K.mb := e; exact ⟨A1.out.nh, A1.out.nt, A1.out.lb⟩, by rw [← HS.out]; exact M3, A1.out.mv, A1.out.lb, A1.out.nh, A1.out.nt⟩)
    have U3 := Lib.hid (U1.out.trans (U2.trans (UW.aside A2.l (((Upto.refl (fun i => i = K.mb) w2).drew).trans V3) (fun e => A1.out.nh e.symm) fun i e => .inr e)))
    clear A2 V2 U2 O2 A1 U1 O1 N1 M3 V3 hl
    go_region
    all_goals go_wp2
    all_goals go_ret
    all_goals exact ⟨rfl, A3.out, U3.out⟩
end Go.Proofs.Ytcjcmnnhmajocab.Ot
