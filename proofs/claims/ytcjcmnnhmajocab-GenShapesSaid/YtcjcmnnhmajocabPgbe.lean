/- gen: one. -/
import Derived.Test.YtcjcmnnhmajocabPgaa
import Derived.Test.YtcjcmnnhmajocabPgbc
import Derived.Test.YtcjcmnnhmajocabPgbd
namespace Go.Proofs.Ytcjcmnnhmajocab.Gn
open Go.RowKit Kt Ic Hr Ho Me
set_option linter.unusedVariables false
set_option linter.unusedSimpArgs false
variable {K : Gk} {g : Gm}
/-- a value can be had in a register -/
def InOk (os : List Opr) (R : Nat) (g : Gm) (t : Nat) : Prop := t < os.length ∧ ((∃ r : Nat, (g.v t).reg = r ∧ r < 16) ∨ ((g.v t).reg < 0 ∧ (∃ b, FOk os R g b) ∧ (∀ r, r < 16 → g.holds r < os.length) ∧
  ((opAt os t).k ≠ 1 → 0 ≤ ((g.fre os R).v t).spill ∧ ((g.fre os R).v t).spill < 2048)))
theorem in_any (t : Nat) (w : World) (a : GM K g w) (hR : K.R ≤ 16) (h : InOk K.os K.R g t) (hn : (wds g.xs).length ≤ 999990) :
    Calls Try.prog 94 #[.pointer (some ⟨K.h, 0, none⟩), .int .i64 t] w fun e w' => e = .returned (.int .i64 (g.inR K.R t)) ∧ GM K (g.inG K.os K.R t) w' ∧ Upto (SG K) w w' := by
  obtain ⟨ht, ⟨r, h1, h2⟩ | ⟨h1, ⟨b, fb⟩, h3, h4⟩⟩ := h
  · exact in_old t r w a ht h1 h2
  · exact in_new t b w a ht h1 hR fb.hb fb.b16 h3 fb.hreg fb.hsp hn h4
theorem ins_snoc (os : List Opr) (R : Nat) (l : List Int) (t : Int) (g : Gm) : Gm.ins os R (l ++ [t]) g = ((Gm.ins os R l g).1 ++ [(Gm.ins os R l g).2.inR R t.toNat], (Gm.ins os R l g).2.inG os R t.toNat) := by
  induction l generalizing g with
  | nil => rfl
  | cons x l ih => rw [List.cons_append, Gm.ins, ih]; rfl
theorem ins_len (os : List Opr) (R : Nat) (l : List Int) (g : Gm) : (Gm.ins os R l g).1.length = l.length := by
  induction l generalizing g with
  | nil => rfl
  | cons x l ih => rw [Gm.ins, List.length_cons, ih]; rfl
theorem take_snoc (l : List Int) (j : Nat) (hj : j < l.length) : l.take (j + 1) = l.take j ++ [l.getD j 0] := by
  rw [List.take_add_one, List.getElem?_eq_getElem hj, List.getD_eq_getElem?_getD, List.getElem?_eq_getElem hj]; rfl
theorem getD_snoc (p : List Int) (v : Int) (k : Nat) : (p ++ [v]).getD k 0 = if k = p.length then v else p.getD k 0 := by
  rw [List.getD_eq_getElem?_getD, List.getD_eq_getElem?_getD]
  by_cases h : k < p.length
  · rw [List.getElem?_append_left h, if_neg (by omega)]
  · rw [List.getElem?_append_right (by omega)]
    by_cases e : k = p.length
    · subst e; simp
    · rw [if_neg e, List.getElem?_eq_none (by simp; omega), List.getElem?_eq_none (by omega)]
theorem tk_len (o : Opr) : (tk o).length ≤ 3 := by
  unfold tk
  split
  · simp
  split
  · simp
  split <;> simp
/-- the boxes of a call, and a list, are left alone -/
def Gk.k3 (K : Gk) (B : Nat) (ao : Option Addr) (n : Nat) : Gk := ((K.ad fun i => i = B).ad fun i => i = B + 1).ad fun i => ∃ q, ao = some q ∧ 0 < n ∧ i = q.block
theorem GM.un3 {B n : Nat} {ao : Option Addr} {W : World} (a : GM (K.k3 B ao n) g W) : GM K g W := a.unad.unad.unad
theorem SG.un3 {B n : Nat} {ao : Option Addr} {W W' : World} (u : Upto (SG (K.k3 B ao n)) W W') : Upto (SG K) W W' := SG.unad (SG.unad (SG.unad u))
theorem SG.no3 {B n : Nat} {ao : Option Addr} (a : K.h < K.base) (b : K.vb < K.base) (hB : K.base ≤ B) : ¬ SG (K.k3 B ao n) B ∧ ¬ SG (K.k3 B ao n) (B + 1) :=
  ⟨SG.no (K := K.k3 B ao n) a b hB (.inl (.inl (.inr rfl))), SG.no (K := K.k3 B ao n) a b (Nat.le_succ_of_le hB) (.inl (.inr rfl))⟩
theorem SG.noT {B n : Nat} {ao : Option Addr} (a : K.h < K.base) (b : K.vb < K.base) {q : Addr} (hq : ao = some q) (h0 : 0 < n) (hB : K.base ≤ q.block) : ¬ SG (K.k3 B ao n) q.block :=
  SG.no (K := K.k3 B ao n) a b hB (.inr ⟨q, hq, h0, rfl⟩)
theorem tail_ad (g off cap : Nat) : ∃ o' : Nat, (if cap = 1 then some (⟨g, off, none⟩ : Addr) else some ⟨g, off + 1, none⟩) = some ⟨g, o', none⟩ ∧ (1 < cap → o' = off + 1) := by
  by_cases h : cap = 1
  · exact ⟨off, by rw [if_pos h], fun k => by omega⟩
  · exact ⟨off + 1, by rw [if_neg h], fun _ => rfl⟩
def r3 (p : List Int) : Array Value := #[.int .i64 (p.getD 0 0), .int .i64 (p.getD 1 0), .int .i64 (p.getD 2 0)]
theorem r3_at (q : List Int) (j : Nat) (h : j < 3) : (r3 q)[j]? = some (.int .i64 (q.getD j 0)) := by
  match j, h with
  | 0, _ => rfl
  | 1, _ => rfl
  | 2, _ => rfl
  | n + 3, h => omega
theorem Bx.set3 {b : Nat} {p : List Int} {W : World} (a : Bx b (r3 p) W) (v : Int) (hp : p.length < 3) : Bx b (r3 (p ++ [v])) (W.setCell ⟨b, p.length, none⟩ (.int .i64 v)) := by
  refine ⟨by simpa using a.1, fun j u hj => ?_, fun j => by simpa using a.2.2 j⟩
  have hj3 : j < 3 := by
    have := (Array.getElem?_eq_some_iff.1 hj).1
    simpa [r3] using this
  have e : ∀ (q : List Int) (j : Nat), j < 3 → (r3 q)[j]? = some (.int .i64 (q.getD j 0)) := fun q j h => by
    match j, h with
    | 0, _ => rfl
    | 1, _ => rfl
    | 2, _ => rfl
    | n + 3, h => omega
  rw [e _ _ hj3, getD_snoc] at hj
  obtain rfl := Option.some.inj hj
  by_cases ej : j = p.length
  · subst ej
    rw [if_pos rfl]
    exact World.cell?_setCell_same _ _ _ (a.2.1 _ _ (e p p.length hp))
  · rw [if_neg ej, HM.cell_other ej]
    exact a.2.1 _ _ (e p j hj3)
/-- an operation that gives a value can be done -/
structure GvOk (os : List Opr) (R : Nat) (g : Gm) (o : Opr) (r : List Int) (d : Nat) : Prop where
  hh : ∀ r, r < 16 → g.holds r < os.length
  hf : emp (g.unpin.clr R) 0 R = none → ∃ b, FOk os R (g.unpin.clr R) b
  hd : g.unpin.plR R = d
  d16 : d < 16
  hx : COk (gvC o d (r.getD 0 0) (r.getD 1 0) (r.getD 2 0))
theorem gives_any (i : Nat) (o : Opr) (r : List Int) (w : World) (a : GM K g w) (hR : K.R ≤ 16) (hi : i < K.os.length) (hn : (wds g.xs).length ≤ 999990) (hw0 : 0 ≤ o.w) (hw1 : o.w < 16) (hgv : gv o.k = true) (hG : o.k ≠ 1 → ∃ d, GvOk K.os K.R g o r d) :
    Calls Try.prog 96 #[.pointer (some ⟨K.h, 0, none⟩), .int .i64 i, .agg #[.int .i64 o.k, .int .i64 o.w, .int .i64 o.a, .int .i64 o.b, .int .i64 o.c, .int .u32 o.kn, .int .i64 o.n], .agg (r3 r)] w fun e w' => e = .returned (.tuple #[]) ∧ GM K (g.give K.os K.R i o r) w' ∧ Upto (SG K) w w' := by
  obtain ⟨k, ow, oa, ob, oc, kn, n⟩ := o
  dsimp only at *
  unfold gv at hgv
  rw [decide_eq_true_eq] at hgv
  have hk : k = 1 ∨ k = 2 ∨ k = 17 ∨ k = 4 ∨ k = 5 ∨ k = 6 ∨ k = 7 ∨ k = 8 ∨ k = 9 := by omega
  clear hgv
  rcases hk with rfl | rfl | rfl | rfl | rfl | rfl | rfl | rfl | rfl
  · exact gives_const i ow oa ob oc kn n _ _ _ w a
  · obtain ⟨d, G⟩ := hG (by decide)
    have e : g.give K.os K.R i ⟨2, ow, oa, ob, oc, kn, n⟩ r = ((g.unpin.plG K.os K.R).put (gvC ⟨2, ow, oa, ob, oc, kn, n⟩ d (r.getD 0 0) (r.getD 1 0) (r.getD 2 0))).has d i := by unfold Gm.give; rw [if_neg (by show ¬ ((2 : Int) = 1); decide), G.hd, Int.toNat_natCast]
    rw [e]
    exact gives_2 i d ow oa ob oc kn n _ _ _ w a hw0 hw1 hR G.hh G.hf hn G.hd G.d16 hi G.hx
  · obtain ⟨d, G⟩ := hG (by decide)
    have e : g.give K.os K.R i ⟨17, ow, oa, ob, oc, kn, n⟩ r = ((g.unpin.plG K.os K.R).put (gvC ⟨17, ow, oa, ob, oc, kn, n⟩ d (r.getD 0 0) (r.getD 1 0) (r.getD 2 0))).has d i := by unfold Gm.give; rw [if_neg (by show ¬ ((17 : Int) = 1); decide), G.hd, Int.toNat_natCast]
    rw [e]
    exact gives_17 i d ow oa ob oc kn n _ _ _ w a hw0 hw1 hR G.hh G.hf hn G.hd G.d16 hi G.hx
  · obtain ⟨d, G⟩ := hG (by decide)
    have e : g.give K.os K.R i ⟨4, ow, oa, ob, oc, kn, n⟩ r = ((g.unpin.plG K.os K.R).put (gvC ⟨4, ow, oa, ob, oc, kn, n⟩ d (r.getD 0 0) (r.getD 1 0) (r.getD 2 0))).has d i := by unfold Gm.give; rw [if_neg (by show ¬ ((4 : Int) = 1); decide), G.hd, Int.toNat_natCast]
    rw [e]
    exact gives_4 i d ow oa ob oc kn n _ _ _ w a hw0 hw1 hR G.hh G.hf hn G.hd G.d16 hi G.hx
  · obtain ⟨d, G⟩ := hG (by decide)
    have e : g.give K.os K.R i ⟨5, ow, oa, ob, oc, kn, n⟩ r = ((g.unpin.plG K.os K.R).put (gvC ⟨5, ow, oa, ob, oc, kn, n⟩ d (r.getD 0 0) (r.getD 1 0) (r.getD 2 0))).has d i := by unfold Gm.give; rw [if_neg (by show ¬ ((5 : Int) = 1); decide), G.hd, Int.toNat_natCast]
    rw [e]
    exact gives_5 i d ow oa ob oc kn n _ _ _ w a hw0 hw1 hR G.hh G.hf hn G.hd G.d16 hi G.hx
  · obtain ⟨d, G⟩ := hG (by decide)
    have e : g.give K.os K.R i ⟨6, ow, oa, ob, oc, kn, n⟩ r = ((g.unpin.plG K.os K.R).put (gvC ⟨6, ow, oa, ob, oc, kn, n⟩ d (r.getD 0 0) (r.getD 1 0) (r.getD 2 0))).has d i := by unfold Gm.give; rw [if_neg (by show ¬ ((6 : Int) = 1); decide), G.hd, Int.toNat_natCast]
    rw [e]
    exact gives_6 i d ow oa ob oc kn n _ _ _ w a hw0 hw1 hR G.hh G.hf hn G.hd G.d16 hi G.hx
  · obtain ⟨d, G⟩ := hG (by decide)
    have e : g.give K.os K.R i ⟨7, ow, oa, ob, oc, kn, n⟩ r = ((g.unpin.plG K.os K.R).put (gvC ⟨7, ow, oa, ob, oc, kn, n⟩ d (r.getD 0 0) (r.getD 1 0) (r.getD 2 0))).has d i := by unfold Gm.give; rw [if_neg (by show ¬ ((7 : Int) = 1); decide), G.hd, Int.toNat_natCast]
    rw [e]
    exact gives_7 i d ow oa ob oc kn n _ _ _ w a hw0 hw1 hR G.hh G.hf hn G.hd G.d16 hi G.hx
  · obtain ⟨d, G⟩ := hG (by decide)
    have e : g.give K.os K.R i ⟨8, ow, oa, ob, oc, kn, n⟩ r = ((g.unpin.plG K.os K.R).put (gvC ⟨8, ow, oa, ob, oc, kn, n⟩ d (r.getD 0 0) (r.getD 1 0) (r.getD 2 0))).has d i := by unfold Gm.give; rw [if_neg (by show ¬ ((8 : Int) = 1); decide), G.hd, Int.toNat_natCast]
    rw [e]
    exact gives_8 i d ow oa ob oc kn n _ _ _ w a hw0 hw1 hR G.hh G.hf hn G.hd G.d16 hi G.hx
  · obtain ⟨d, G⟩ := hG (by decide)
    have e : g.give K.os K.R i ⟨9, ow, oa, ob, oc, kn, n⟩ r = ((g.unpin.plG K.os K.R).put (gvC ⟨9, ow, oa, ob, oc, kn, n⟩ d (r.getD 0 0) (r.getD 1 0) (r.getD 2 0))).has d i := by unfold Gm.give; rw [if_neg (by show ¬ ((9 : Int) = 1); decide), G.hd, Int.toNat_natCast]
    rw [e]
    exact gives_9 i d ow oa ob oc kn n _ _ _ w a hw0 hw1 hR G.hh G.hf hn G.hd G.d16 hi G.hx
theorem used_xs (i : Int) (l : List Int) (g : Gm) : (l.foldl (fun g t => Gm.use1 i g t.toNat) g).xs = g.xs := by
  induction l generalizing g with
  | nil => rfl
  | cons t l ih =>
    rw [List.foldl_cons, ih]
    unfold Gm.use1
    split <;> rfl
set_option maxRecDepth 100000 in
set_option maxHeartbeats 16000000 in
theorem one_any (i : Nat) (o : Opr) (w : World) (a : GM K g w) (hR : K.R ≤ 16) (hi : i < K.os.length) (hi2 : i < 2048)
    (hI : ∀ j, j < (tk o).length → ∃ t : Nat, (tk o).getD j 0 = t ∧ InOk K.os K.R (Gm.ins K.os K.R ((tk o).take j) g.unpin).2 t)
    (hn : ∀ j, j ≤ (tk o).length → (wds (Gm.ins K.os K.R ((tk o).take j) g.unpin).2.xs).length ≤ 999000)
    (hw0 : 0 ≤ o.w) (hw1 : o.w < 16) (hG : gv o.k = true → o.k ≠ 1 → ∃ d, GvOk K.os K.R ((Gm.ins K.os K.R (tk o) g.unpin).2.used i (tk o)) o (Gm.ins K.os K.R (tk o) g.unpin).1 d)
    (hX : gv o.k = false → COk (noC o ((Gm.ins K.os K.R (tk o) g.unpin).1.getD 0 0) ((Gm.ins K.os K.R (tk o) g.unpin).1.getD 1 0))) :
    Calls Try.prog 48 #[.pointer (some ⟨K.h, 0, none⟩), .int .i64 i, .agg #[.int .i64 o.k, .int .i64 o.w, .int .i64 o.a, .int .i64 o.b, .int .i64 o.c, .int .u32 o.kn, .int .i64 o.n]] w fun e w' => e = .returned (.tuple #[]) ∧ GM K (g.one K.os K.R i o) w' ∧ Upto (SG K) w w' := by
  have hs := slice_run K.h
  have a0 := a.alloc (.cells #[.int .i64 o.k, .int .i64 o.w, .int .i64 o.a, .int .i64 o.b, .int .i64 o.c, .int .u32 o.kn, .int .i64 o.n] 31)
  have hcl : (Builtin.clear_ #[79] 0 #[.slice (some ⟨K.h, 23, none⟩) 16 16]).run Try.prog (w.alloc (.cells #[.int .i64 o.k, .int .i64 o.w, .int .i64 o.a, .int .i64 o.b, .int .i64 o.c, .int .u32 o.kn, .int .i64 o.n] 31)) = .ok (.tuple #[]) ((w.alloc (.cells #[.int .i64 o.k, .int .i64 o.w, .int .i64 o.a, .int .i64 o.b, .int .i64 o.c, .int .u32 o.kn, .int .i64 o.n] 31)).setCells K.h 23 (fls 16)) := clear_run _ a0 0
  have lB := a.lb
  have lh := a.lh
  have lv := a.lv
  have l := a0.l
  have B0 := Bx.new w #[.int .i64 o.k, .int .i64 o.w, .int .i64 o.a, .int .i64 o.b, .int .i64 o.c, .int .u32 o.kn, .int .i64 o.n] 31
  have u0 := (Upto.refl (fun _ => False) w).alloc (.cells #[.int .i64 o.k, .int .i64 o.w, .int .i64 o.a, .int .i64 o.b, .int .i64 o.c, .int .u32 o.kn, .int .i64 o.n] 31)
  have A0 := Lib.hid (a.ad u0 (fun i => i = w.heap.size) (fun i hi => ⟨by omega, by simp; omega⟩))
  have HI := Lib.hid hI
  have HGV := Lib.hid hG
  have HXX := Lib.hid hX
  have HN := Lib.hid hn
  have HR := Lib.hid hR
  have HL := Lib.hid hi
  have B0 := Lib.hid B0
  have U0 := Lib.hid (u0.mono (T := fun i => SG K i ∨ w.heap.size ≤ i) fun _ _ h => h.elim)
  clear a a0 u0 hI hn hR hi hG hX
  go_enter Try.func48, Try.ntmps48
  go_upto_region 2 with fail
  have A1 : Hid (GM (K.ad fun i => i = w.heap.size) g.unpin ((w.alloc (.cells #[.int .i64 o.k, .int .i64 o.w, .int .i64 o.a, .int .i64 o.b, .int .i64 o.c, .int .u32 o.kn, .int .i64 o.n] 31)).setCells K.h 23 (fls 16))) := A0.out.unpin
  have B1 := Lib.hid (B0.out.upto (Upto.setCells (S := fun i => i = K.h) (p := K.h) rfl (fls 16) _ 23 (Upto.refl _ _)) (by omega))
  have U1 := Lib.hid (Upto.setCells (p := K.h) (S := fun i => SG K i ∨ w.heap.size ≤ i) (.inl (.inl rfl)) (fls 16) _ 23 U0.out)
  have sz : ((w.alloc (.cells #[.int .i64 o.k, .int .i64 o.w, .int .i64 o.a, .int .i64 o.b, .int .i64 o.c, .int .u32 o.kn, .int .i64 o.n] 31)).setCells K.h 23 (fls 16)).heap.size = w.heap.size + 1 := by simp [fls, World.setCells]
  clear hs hcl A0 B0 U0 l
  generalize (w.alloc (.cells #[.int .i64 o.k, .int .i64 o.w, .int .i64 o.a, .int .i64 o.b, .int .i64 o.c, .int .u32 o.kn, .int .i64 o.n] 31)).setCells K.h 23 (fls 16) = w1 at A1 B1 U1 sz ⊢
  have u2 := (Upto.refl (fun _ => False) w1).alloc (.cells #[.int .i64 0, .int .i64 0, .int .i64 0] 175)
  have A2 := Lib.hid (A1.out.ad u2 (fun i => i = w1.heap.size) (fun i hi => ⟨by omega, by simp; omega⟩))
  have B2 := Lib.hid (B1.out.upto u2 id)
  have R2 := Lib.hid (show Bx w1.heap.size (r3 []) (w1.alloc (.cells #[.int .i64 0, .int .i64 0, .int .i64 0] 175)) from Bx.new w1 _ _)
  have U2 := Lib.hid (U1.out.alloc (.cells #[.int .i64 0, .int .i64 0, .int .i64 0] 175))
  clear u2 A1 B1 U1
  go_upto_region 3 with fail
  rw [sz] at A2 R2
  have sz2 : (w1.alloc (.cells #[.int .i64 0, .int .i64 0, .int .i64 0] 175)).heap.size = w.heap.size + 1 + 1 := by simp [sz]
  generalize w1.alloc (.cells #[.int .i64 0, .int .i64 0, .int .i64 0] 175) = w2 at A2 B2 R2 U2 sz2 ⊢
  have o0 := B2.out.2.1 0 _ rfl
  have o1 := B2.out.2.1 1 _ rfl
  have o2 := B2.out.2.1 2 _ rfl
  have o3 := B2.out.2.1 3 _ rfl
  have o4 := B2.out.2.1 4 _ rfl
  have o5 := B2.out.2.1 5 _ rfl
  have o6 := B2.out.2.1 6 _ rfl
  have lo := B2.out.1
  have TA := Lib.hid (takes_any o w2)
  go_upto_region 4 with (go_at_call 46; refine TA.out.mono ?_; rintro e w3 ⟨⟨ao, cap, rfl, ts⟩, b3⟩)
  clear o0 o1 o2 o3 o4 o5 o6 lo TA
  have A3 : Hid (GM (K.k3 w.heap.size ao (tk o).length) g.unpin w3) := A2.out.ad (Upto.of_below b3) (fun i => ∃ q, ao = some q ∧ 0 < (tk o).length ∧ i = q.block) (fun i hi => by
    obtain ⟨q, hq, h0, rfl⟩ := hi
    obtain ⟨b, e, h1, h2, _⟩ := ts.2 h0
    rw [hq] at e; cases e
    exact ⟨h1, h2⟩)
  have u3 := Upto.of_below (S := fun _ => False) b3
  have B3 := Lib.hid (B2.out.upto u3 id)
  have R3 := Lib.hid (R2.out.upto u3 id)
  have U3 := Lib.hid (U2.out.trans (u3.mono fun _ _ h => h.elim))
  have NS := Lib.hid (SG.no3 (n := (tk o).length) (ao := ao) lh lv lB)
  have NT := Lib.hid (show ∀ q, ao = some q → 0 < (tk o).length → ¬ SG (K.k3 w.heap.size ao (tk o).length) q.block from fun q hq h0 => SG.noT lh lv hq h0 (by
    obtain ⟨b, e, h1, h2, _⟩ := ts.2 h0
    rw [hq] at e; cases e
    show K.base ≤ b; omega))
  have TS3 := Lib.hid ts
  have TL := Lib.hid (tk_len o)
  have SZ := Lib.hid sz2
  clear A2 B2 R2 U2 u3 b3 ts sz2 sz
  have IN : Hid (∀ (t : Nat) (gx : Gm) (wx : World), GM (K.k3 w.heap.size ao (tk o).length) gx wx → InOk K.os K.R gx t → (wds gx.xs).length ≤ 999990 → Calls Try.prog 94 #[.pointer (some ⟨K.h, 0, none⟩), .int .i64 t] wx fun e w' => e = .returned (.int .i64 (gx.inR K.R t)) ∧ GM (K.k3 w.heap.size ao (tk o).length) (gx.inG K.os K.R t) w' ∧ Upto (SG (K.k3 w.heap.size ao (tk o).length)) wx w') :=
    fun t gx wx a h hn => in_any (K := K.k3 w.heap.size ao (tk o).length) (g := gx) t wx a HR.out h hn
  obtain ⟨l, htk⟩ : ∃ l, tk o = l := ⟨_, rfl⟩
  rw [htk] at A3 NS NT TS3 TL IN HI HN HGV HXX ⊢
  have HTK := Lib.hid htk
  clear htk
  go_wp2
  go_loopg [22] l.length (fun k ix wr => ∃ j : Nat, k = l.length - j ∧ j ≤ l.length ∧ ix = .int .i64 j ∧ Hid (GM (K.k3 w.heap.size ao l.length) (Gm.ins K.os K.R (l.take j) g.unpin).2 wr) ∧ Hid (Bx w.heap.size #[.int .i64 o.k, .int .i64 o.w, .int .i64 o.a, .int .i64 o.b, .int .i64 o.c, .int .u32 o.kn, .int .i64 o.n] wr) ∧ Hid (Bx (w.heap.size + 1) (r3 (Gm.ins K.os K.R (l.take j) g.unpin).1) wr) ∧ Hid (TS w2.heap.size l ao cap wr) ∧ Hid (Upto (fun i => SG K i ∨ w.heap.size ≤ i) w wr))
  case atStart => exact ⟨0, rfl, Nat.zero_le _, rfl, A3, B3, R3, TS3, U3⟩
  case round =>
    obtain ⟨j, hk, hj, rfl, G, BO, BR, T, U⟩ := hrel
    by_cases hlt : j < l.length
    · have hlt' : (j : Int) < (l.length : Int) := by omega
      have j0 : (0 : Int) ≤ (j : Int) := by omega
      have j3 : (j : Int) < 3 := by have := TL.out; omega
      have jn : j < 3 := by omega
      obtain ⟨b', e, hb1, hb2, hc⟩ := T.out.2 (by omega)
      subst e
      have cj : wr.cell? ⟨b', j, none⟩ = some (.int .i64 (l.getD j 0)) := hc j hlt
      obtain ⟨t, ht, hin⟩ := HI.out j hlt
      rw [ht] at cj
      have HLT := Lib.hid hlt
      have HK := Lib.hid hk
      have pl : (Gm.ins K.os K.R (l.take j) g.unpin).1.length = j := by rw [ins_len, List.length_take]; omega
      have PS := Lib.hid (show Gm.ins K.os K.R (l.take (j + 1)) g.unpin = ((Gm.ins K.os K.R (l.take j) g.unpin).1 ++ [(Gm.ins K.os K.R (l.take j) g.unpin).2.inR K.R t], (Gm.ins K.os K.R (l.take j) g.unpin).2.inG K.os K.R t) from by rw [take_snoc l j hlt, ins_snoc, ht, Int.toNat_natCast])
      have IJ := Lib.hid (IN.out t _ wr G.out hin (Nat.le_trans (HN.out j hj) (by decide)))
      have NS' := Lib.hid NS.out
      have NT' := Lib.hid (NT.out _ rfl (by omega))
      have PL := Lib.hid pl
      clear hc hlt hk hin ht pl
      generalize Gm.ins K.os K.R (l.take j) g.unpin = p at G BR PS IJ PL
      generalize p.2.inR K.R t = rr at PS IJ
      generalize p.2.inG K.os K.R t = g5 at PS IJ
      go_wp2_with (go_at_call 94; refine IJ.out.mono ?_; rintro e w4 ⟨rfl, a4, u4⟩; have G4 := Lib.hid a4; have BO4 := Lib.hid (BO.out.upto u4 NS'.out.1); have br4 := BR.out.upto u4 NS'.out.2; have T4 := Lib.hid (T.out.upto u4 (fun q hq h0 => by cases hq; exact NT'.out)); have U4 := Lib.hid (U.out.trans ((SG.un3 u4).mono fun _ _ h => .inl h)); have cr := br4.2.1 j _ (r3_at p.1 j jn); have zr := br4.2.2 j; have lr := br4.1; have BR4 := Lib.hid br4; clear a4 u4 br4)
      have vs := (Upto.refl (fun i => i = w.heap.size + 1) w4).setCell (q := ⟨w.heap.size + 1, j, none⟩) (.inl rfl) (.int .i64 rr)
      have a6 := G4.out.upto vs (fun i hi => .inl (.inl (.inr hi)))
      have b6 := BO4.out.upto vs (by omega)
      have r6 := BR4.out.set3 rr (by rw [PL.out]; exact jn)
      rw [PL.out] at r6
      have t6 := T4.out.upto vs (fun q hq h0 => by cases hq; have := SZ.out; show ¬ b' = _; omega)
      have u6 := (U4.out.trans (vs.mono (T := fun i => SG K i ∨ w.heap.size ≤ i) fun i _ hi => .inr (by omega)))
      go_roundg (l.length - (j + 1))
      case measure => have := HK.out; have := HLT.out; omega
      case rel => exact ⟨j + 1, rfl, HLT.out, by simp, by rw [PS.out]; exact a6, b6, by rw [PS.out]; exact r6, t6, u6⟩
    · obtain rfl : j = l.length := by omega
      clear hj hk hlt IN
      have HP := Lib.hid (show g.one K.os K.R i o = if gv o.k then ((Gm.ins K.os K.R l g.unpin).2.used i l).give K.os K.R i o (Gm.ins K.os K.R l g.unpin).1 else ((Gm.ins K.os K.R l g.unpin).2.used i l).put (noC o ((Gm.ins K.os K.R l g.unpin).1.getD 0 0) ((Gm.ins K.os K.R l g.unpin).1.getD 1 0)) from by unfold Gm.one; rw [HTK.out])
      rw [List.take_length] at G BR
      have HN' := Lib.hid (HN.out l.length (Nat.le_refl _))
      rw [List.take_length] at HN'
      have HTL : Hid (∀ j, j < l.length → ∃ t : Nat, l.getD j 0 = t ∧ t < K.os.length) := fun j hj => by
        obtain ⟨t, h1, h2⟩ := HI.out j hj
        exact ⟨t, h1, h2.1⟩
      clear HI HN A3 B3 R3 U3 TS3
      have HP2 := Lib.hid (show g.one K.os K.R i o = if gv o.k then ((l.take l.length).foldl (fun g t => Gm.use1 i g t.toNat) (Gm.ins K.os K.R l g.unpin).2).give K.os K.R i o (Gm.ins K.os K.R l g.unpin).1 else ((l.take l.length).foldl (fun g t => Gm.use1 i g t.toNat) (Gm.ins K.os K.R l g.unpin).2).put (noC o ((Gm.ins K.os K.R l g.unpin).1.getD 0 0) ((Gm.ins K.os K.R l g.unpin).1.getD 1 0)) from by rw [HP.out, List.take_length]; rfl)
      clear HP
      obtain ⟨p, hp⟩ : ∃ p, Gm.ins K.os K.R l g.unpin = p := ⟨_, rfl⟩
      rw [hp] at G BR HN' HP2 HGV HXX
      clear hp
      go_wp2
      go_loopg [35] l.length (fun k ix wx => ∃ q : Nat, k = l.length - q ∧ q ≤ l.length ∧ ix = .int .i64 q ∧ Hid (GM (K.k3 w.heap.size ao l.length) ((l.take q).foldl (fun g t => Gm.use1 i g t.toNat) p.2) wx) ∧ Hid (Bx w.heap.size #[.int .i64 o.k, .int .i64 o.w, .int .i64 o.a, .int .i64 o.b, .int .i64 o.c, .int .u32 o.kn, .int .i64 o.n] wx) ∧ Hid (Bx (w.heap.size + 1) (r3 p.1) wx) ∧ Hid (TS w2.heap.size l ao cap wx) ∧ Hid (Upto (fun i => SG K i ∨ w.heap.size ≤ i) w wx))
      case atStart => exact ⟨0, rfl, Nat.zero_le _, rfl, G, BO, BR, T, U⟩
      case round =>
        obtain ⟨q, hk, hj, rfl, G, BO, BR, T, U⟩ := hrel
        by_cases hlt : q < l.length
        · have hlt' : (q : Int) < (l.length : Int) := by omega
          have q0 : (0 : Int) ≤ (q : Int) := by omega
          obtain ⟨b', e, hb1, hb2, hc⟩ := T.out.2 (by omega)
          subst e
          have cj : wr.cell? ⟨b', q, none⟩ = some (.int .i64 (l.getD q 0)) := hc q hlt
          obtain ⟨t, ht, hin⟩ := HTL.out q hlt
          rw [ht] at cj
          have HLT := Lib.hid hlt
          have HK := Lib.hid hk
          have PS := Lib.hid (show (l.take (q + 1)).foldl (fun g t => Gm.use1 i g t.toNat) p.2 = Gm.use1 i ((l.take q).foldl (fun g t => Gm.use1 i g t.toNat) p.2) t from by rw [take_snoc l q hlt, List.foldl_append, ht]; rfl)
          have HT := Lib.hid hin
          clear hc hlt hk hin ht
          generalize (l.take q).foldl (fun g t => Gm.use1 i g t.toNat) p.2 = g6 at G PS
          have t0 : (0 : Int) ≤ (t : Int) := by omega
          have t1 : (t : Int) < (K.os.length : Int) := by have := HT.out; omega
          have c6 := G.out.un3.c6
          have lhh := G.out.un3.l
          have lvv := G.out.un3.l2
          have q3 : (q : Int) < 3 := by have := TL.out; have := HLT.out; omega
          have zv := G.out.un3.zv (t * 3 + 2)
          obtain ⟨ua, cp, cu, ul1, ul2, ub⟩ := G.out.un3.vu t HT.out
          have UB := Lib.hid ub
          have UL := Lib.hid ul1
          have UM := Lib.hid ul2
          clear ub ul1 ul2
          cases hu : (g6.v t).uses with
          | nil =>
            have HU := Lib.hid (show Gm.use1 i g6 t = g6 from by unfold Gm.use1; rw [hu]; exact if_neg (by show ¬ (1073741824 : Int) = i; omega))
            rw [hu] at cu
            clear hu UB UL
            go_wp2
            go_roundg (l.length - (q + 1))
            case measure => have := HK.out; have := HLT.out; omega
            case rel => exact ⟨q + 1, rfl, HLT.out, by simp, by rw [PS.out, HU.out]; exact G, BO, BR, T, U⟩
          | cons u us =>
            rw [hu] at cu
            obtain ⟨b, off, e, l3, l4, l5, hc⟩ := UB.out (by rw [hu]; simp)
            subst e
            have c0 := hc 0 (by rw [hu]; simp)
            rw [hu] at c0
            simp only [List.getD_cons_zero, Nat.add_zero] at c0
            have UL2 := Lib.hid (show us.length + 1 ≤ cp from by have := UL.out; rw [hu] at this; simpa using this)
            have HC := Lib.hid (show ∀ j, j < us.length → wr.cell? ⟨b, off + 1 + j, none⟩ = some (.int .i64 (us.getD j 0)) from fun j hj => by
              have := hc (j + 1) (by rw [hu]; simp; omega)
              rw [hu, List.getD_cons_succ, show off + (j + 1) = off + 1 + j by omega] at this
              exact this)
            have HUU := Lib.hid hu
            have LB := Lib.hid (show b < K.base ∧ b ≠ K.h ∧ b ≠ K.vb from ⟨l3, l4, l5⟩)
            rw [List.length_cons] at cu
            have m0 : (0 : Int) < (us.length : Int) + 1 := by omega
            have m1 : us.length + 1 ≤ cp := UL2.out
            clear hc hu UB UL l3 l4 l5
            obtain ⟨m, hm⟩ : ∃ m, us.length = m := ⟨_, rfl⟩
            rw [hm] at cu m0 m1
            have HM := Lib.hid hm
            clear hm
            by_cases hui : u = i
            · have e1 : (u == (i : Int)) = true := by simpa using hui
              obtain ⟨o', hi', ho'⟩ := tail_ad b off cp
              have HO := Lib.hid ho'
              clear ho' hui
              have HU := Lib.hid (show Gm.use1 i g6 t = g6.setU t us from by unfold Gm.use1; rw [HUU.out]; exact if_pos (show u = i from by simpa using e1))
              go_upto_region 14 with fail
              go_region
              have hub : UB (K.k3 w.heap.size (some ⟨b', 0, none⟩) l.length) us (some ⟨b, o', none⟩) (cp - 1) wr := ⟨by have := HM.out; omega, by have := UM.out; omega, fun h0 => ⟨b, o', rfl, LB.out.1, LB.out.2.1, LB.out.2.2, fun j hj => by rw [HO.out (by have := HM.out; omega)]; exact HC.out j hj⟩⟩
              have a6 : GM (K.k3 w.heap.size (some ⟨b', 0, none⟩) l.length) (g6.setU t us) (wr.setCell ⟨K.vb, t * 3 + 2, none⟩ (.slice (some ⟨b, o', none⟩) us.length (cp - 1))).drew := (G.out.setU t us _ _ HT.out hub).drew
              rw [HM.out] at a6
              have vs := ((Upto.refl (fun i => i = K.vb) wr).setCell (q := ⟨K.vb, t * 3 + 2, none⟩) (.inl rfl) (.slice (some ⟨b, o', none⟩) m (cp - 1))).drew
              have b6 := BO.out.upto vs (by omega)
              have r6 := BR.out.upto vs (by omega)
              have t6 := T.out.upto vs (fun q hq h0 => by cases hq; have := SZ.out; show ¬ b' = _; omega)
              have u6 := U.out.trans (vs.mono (T := fun i => SG K i ∨ w.heap.size ≤ i) fun i _ hi => .inl (.inr (.inl hi)))
              clear c6 cu zv c0
              generalize (wr.setCell ⟨K.vb, t * 3 + 2, none⟩ (.slice (some ⟨b, o', none⟩) m (cp - 1))).drew = w7 at a6 b6 r6 t6 u6 ⊢
              have A6 := Lib.hid a6
              have B6 := Lib.hid b6
              have R6 := Lib.hid r6
              have T6 := Lib.hid t6
              have U6 := Lib.hid u6
              clear a6 b6 r6 t6 u6 hub vs
              go_wp2
              go_roundg (l.length - (q + 1))
              case measure => have := HK.out; have := HLT.out; omega
              case rel => exact ⟨q + 1, rfl, HLT.out, by simp, by rw [PS.out, HU.out]; exact A6, B6, R6, T6, U6⟩
            · have e1 : (u == (i : Int)) = false := by simpa using hui
              have HU := Lib.hid (show Gm.use1 i g6 t = g6 from by unfold Gm.use1; rw [HUU.out]; exact if_neg (by show ¬ u = i; exact hui))
              clear hui
              go_wp2
              go_roundg (l.length - (q + 1))
              case measure => have := HK.out; have := HLT.out; omega
              case rel => exact ⟨q + 1, rfl, HLT.out, by simp, by rw [PS.out, HU.out]; exact G, BO, BR, T, U⟩
        · obtain rfl : q = l.length := by omega
          clear hj hk hlt
          have HN2 : Hid ((wds ((l.take l.length).foldl (fun g t => Gm.use1 i g t.toNat) p.2).xs).length ≤ 999000) := by rw [used_xs]; exact HN'
          have HG2 : Hid (gv o.k = true → o.k ≠ 1 → ∃ d, GvOk K.os K.R ((l.take l.length).foldl (fun g t => Gm.use1 i g t.toNat) p.2) o p.1 d) := by rw [List.take_length]; exact HGV.out
          generalize (l.take l.length).foldl (fun g t => Gm.use1 i g t.toNat) p.2 = g7 at G HP2 HN2 HG2
          have o0 := BO.out.2.1 0 _ rfl
          have o1 := BO.out.2.1 1 _ rfl
          have o2 := BO.out.2.1 2 _ rfl
          have o3 := BO.out.2.1 3 _ rfl
          have o4 := BO.out.2.1 4 _ rfl
          have o5 := BO.out.2.1 5 _ rfl
          have o6 := BO.out.2.1 6 _ rfl
          have lo := BO.out.1
          have q0 := BR.out.2.1 0 _ (r3_at p.1 0 (by decide))
          have q1 := BR.out.2.1 1 _ (r3_at p.1 1 (by decide))
          have q2 := BR.out.2.1 2 _ (r3_at p.1 2 (by decide))
          have lq := BR.out.1
          by_cases hgv : gv o.k = true
          · have GI := Lib.hid (fun w => Ic.gives_any o.k w)
            rw [hgv] at GI
            have HP3 := Lib.hid (show g.one K.os K.R i o = g7.give K.os K.R i o p.1 from by rw [HP2.out, if_pos hgv])
            have GV : Hid (∀ wx, GM (K.k3 w.heap.size ao l.length) g7 wx → Calls Try.prog 96 #[.pointer (some ⟨K.h, 0, none⟩), .int .i64 i, .agg #[.int .i64 o.k, .int .i64 o.w, .int .i64 o.a, .int .i64 o.b, .int .i64 o.c, .int .u32 o.kn, .int .i64 o.n], .agg #[.int .i64 (p.1.getD 0 0), .int .i64 (p.1.getD 1 0), .int .i64 (p.1.getD 2 0)]] wx fun e w' => e = .returned (.tuple #[]) ∧ GM (K.k3 w.heap.size ao l.length) (g7.give K.os K.R i o p.1) w' ∧ Upto (SG (K.k3 w.heap.size ao l.length)) wx w') :=
              fun wx a => gives_any (K := K.k3 w.heap.size ao l.length) (g := g7) i o p.1 wx a HR.out HL.out (Nat.le_trans HN2.out (by decide)) hw0 hw1 hgv (HG2.out hgv)
            clear hgv HP2
            go_wp2_with (first
              | (go_at_call 95; refine (GI.out _).mono ?_; rintro e w' ⟨rfl, rfl⟩)
              | (go_at_call 96; refine (GV.out _ G.out).mono ?_; rintro e w8 ⟨rfl, a8, u8⟩; have A8 := Lib.hid a8; have U8 := Lib.hid (U.out.trans ((SG.un3 u8).mono fun _ _ h => .inl h)); clear a8 u8))
            exact bodyPost_ret (v := .tuple #[]) (by simp [results, Try.results48, go_sem]) rfl ⟨rfl, by rw [HP3.out]; exact A8.out.un3, U8.out.mono fun i hi h => h.elim id (fun h => absurd hi (by omega))⟩
          · have hgf : gv o.k = false := by simpa using hgv
            have GI := Lib.hid (fun w => Ic.gives_any o.k w)
            rw [hgf] at GI
            have hxx := HXX.out hgf
            have HP3 := Lib.hid (show g.one K.os K.R i o = g7.put (noC o (p.1.getD 0 0) (p.1.getD 1 0)) from by rw [HP2.out, if_neg (by rw [hgf]; decide)])
            have hks : o.k = 3 ∨ o.k = 10 ∨ o.k = 11 ∨ o.k = 12 ∨ o.k = 13 ∨ o.k = 14 ∨ o.k = 15 ∨ o.k = 16 := by
              refine Classical.byContradiction fun hc => ?_
              have e : noC o (p.1.getD 0 0) (p.1.getD 1 0) = ⟨0, 0, p.1.getD 0 0, 0, 0, o.n, o.kn, 0⟩ := by
                unfold noC
                rw [if_neg (fun h => hc (by omega)), if_neg (fun h => hc (by omega)), if_neg (fun h => hc (by omega)), if_neg (fun h => hc (by omega)), if_neg (fun h => hc (by omega)), if_neg (fun h => hc (by omega)), if_neg (fun h => hc (by omega)), if_neg (fun h => hc (by omega))]
              rw [e] at hxx
              exact hxx.q (by show fcls 0 = 0; decide)
            have HX2 := Lib.hid hxx
            clear hgv hgf HP2 hxx HGV HXX HG2
            rcases hks with hk | hk | hk | hk | hk | hk | hk | hk
            · have e : noC o (p.1.getD 0 0) (p.1.getD 1 0) = ⟨7, 0, p.1.getD 0 0, 0, 0, o.w, o.kn, 0⟩ := by unfold noC; rw [if_pos hk]
              have HX3 := HX2.out
              rw [e] at HX3
              have HP4 := HP3.out
              rw [e] at HP4
              have PU : Hid (∀ wx, GM (K.k3 w.heap.size ao l.length) g7 wx → Calls Try.prog 47 #[.pointer (some ⟨K.h, 0, none⟩), .agg #[.int .i64 7, .int .i64 0, .int .i64 (p.1.getD 0 0), .int .i64 0, .int .i64 0, .int .i64 o.w, .int .u32 o.kn, .int .u32 0]] wx fun e w' => e = .returned (.tuple #[]) ∧ GM (K.k3 w.heap.size ao l.length) (g7.put ⟨7, 0, p.1.getD 0 0, 0, 0, o.w, o.kn, 0⟩) w' ∧ Upto (SG (K.k3 w.heap.size ao l.length)) wx w') :=
                fun wx a => put_any (K := K.k3 w.heap.size ao l.length) (g := g7) _ wx a HX3 (Nat.le_trans HN2.out (by decide))
              have HP5 := Lib.hid HP4
              rw [hk] at o0 GI
              clear HX3 HP4 HP3 HX2 e hk
              go_upto_region 21 with (go_at_call 95; refine (GI.out _).mono ?_; rintro e w' ⟨rfl, rfl⟩)
              go_region
              go_wp2_with (go_at_call 47; refine (PU.out _ (G.out.alloc _).drew).mono ?_; rintro e w8 ⟨rfl, a8, u8⟩; have A8 := Lib.hid a8; have U8 := Lib.hid (((U.out.alloc _).drew).trans ((SG.un3 u8).mono fun _ _ h => .inl h)); clear a8 u8)
              go_end0
              exact ⟨rfl, by rw [HP5.out]; exact A8.out.un3, U8.out.mono fun i hi h => h.elim id (fun h => absurd hi (by omega))⟩
            · have e : noC o (p.1.getD 0 0) (p.1.getD 1 0) = ⟨(88 + o.w), (p.1.getD 1 0), p.1.getD 0 0, 0, 0, o.n, o.kn, 0⟩ := by unfold noC; rw [if_neg (by rw [hk]; decide), if_pos hk]
              have HX3 := HX2.out
              rw [e] at HX3
              have HP4 := HP3.out
              rw [e] at HP4
              have PU : Hid (∀ wx, GM (K.k3 w.heap.size ao l.length) g7 wx → Calls Try.prog 47 #[.pointer (some ⟨K.h, 0, none⟩), .agg #[.int .i64 (88 + o.w), .int .i64 (p.1.getD 1 0), .int .i64 (p.1.getD 0 0), .int .i64 0, .int .i64 0, .int .i64 o.n, .int .u32 o.kn, .int .u32 0]] wx fun e w' => e = .returned (.tuple #[]) ∧ GM (K.k3 w.heap.size ao l.length) (g7.put ⟨(88 + o.w), (p.1.getD 1 0), p.1.getD 0 0, 0, 0, o.n, o.kn, 0⟩) w' ∧ Upto (SG (K.k3 w.heap.size ao l.length)) wx w') :=
                fun wx a => put_any (K := K.k3 w.heap.size ao l.length) (g := g7) _ wx a HX3 (Nat.le_trans HN2.out (by decide))
              have HP5 := Lib.hid HP4
              rw [hk] at o0 GI
              clear HX3 HP4 HP3 HX2 e hk
              go_upto_region 23 with (go_at_call 95; refine (GI.out _).mono ?_; rintro e w' ⟨rfl, rfl⟩)
              go_region
              go_wp2_with (go_at_call 47; refine (PU.out _ (G.out.alloc _).drew).mono ?_; rintro e w8 ⟨rfl, a8, u8⟩; have A8 := Lib.hid a8; have U8 := Lib.hid (((U.out.alloc _).drew).trans ((SG.un3 u8).mono fun _ _ h => .inl h)); clear a8 u8)
              go_end0
              exact ⟨rfl, by rw [HP5.out]; exact A8.out.un3, U8.out.mono fun i hi h => h.elim id (fun h => absurd hi (by omega))⟩
            · have e : noC o (p.1.getD 0 0) (p.1.getD 1 0) = ⟨10, 0, p.1.getD 0 0, 0, 0, o.n, o.kn, 0⟩ := by unfold noC; rw [if_neg (by rw [hk]; decide), if_neg (by rw [hk]; decide), if_pos hk]
              have HX3 := HX2.out
              rw [e] at HX3
              have HP4 := HP3.out
              rw [e] at HP4
              have PU : Hid (∀ wx, GM (K.k3 w.heap.size ao l.length) g7 wx → Calls Try.prog 47 #[.pointer (some ⟨K.h, 0, none⟩), .agg #[.int .i64 10, .int .i64 0, .int .i64 (p.1.getD 0 0), .int .i64 0, .int .i64 0, .int .i64 o.n, .int .u32 o.kn, .int .u32 0]] wx fun e w' => e = .returned (.tuple #[]) ∧ GM (K.k3 w.heap.size ao l.length) (g7.put ⟨10, 0, p.1.getD 0 0, 0, 0, o.n, o.kn, 0⟩) w' ∧ Upto (SG (K.k3 w.heap.size ao l.length)) wx w') :=
                fun wx a => put_any (K := K.k3 w.heap.size ao l.length) (g := g7) _ wx a HX3 (Nat.le_trans HN2.out (by decide))
              have HP5 := Lib.hid HP4
              rw [hk] at o0 GI
              clear HX3 HP4 HP3 HX2 e hk
              go_upto_region 25 with (go_at_call 95; refine (GI.out _).mono ?_; rintro e w' ⟨rfl, rfl⟩)
              go_upto_region 36 with fail
              go_wp2_with (go_at_call 47; refine (PU.out _ (G.out.alloc _)).mono ?_; rintro e w8 ⟨rfl, a8, u8⟩; have A8 := Lib.hid a8; have U8 := Lib.hid (((U.out.alloc _)).trans ((SG.un3 u8).mono fun _ _ h => .inl h)); clear a8 u8)
              go_end0
              exact ⟨rfl, by rw [HP5.out]; exact A8.out.un3, U8.out.mono fun i hi h => h.elim id (fun h => absurd hi (by omega))⟩
            · have e : noC o (p.1.getD 0 0) (p.1.getD 1 0) = ⟨11, 0, p.1.getD 0 0, 0, 0, o.n, o.kn, 0⟩ := by unfold noC; rw [if_neg (by rw [hk]; decide), if_neg (by rw [hk]; decide), if_neg (by rw [hk]; decide), if_pos hk]
              have HX3 := HX2.out
              rw [e] at HX3
              have HP4 := HP3.out
              rw [e] at HP4
              have PU : Hid (∀ wx, GM (K.k3 w.heap.size ao l.length) g7 wx → Calls Try.prog 47 #[.pointer (some ⟨K.h, 0, none⟩), .agg #[.int .i64 11, .int .i64 0, .int .i64 (p.1.getD 0 0), .int .i64 0, .int .i64 0, .int .i64 o.n, .int .u32 o.kn, .int .u32 0]] wx fun e w' => e = .returned (.tuple #[]) ∧ GM (K.k3 w.heap.size ao l.length) (g7.put ⟨11, 0, p.1.getD 0 0, 0, 0, o.n, o.kn, 0⟩) w' ∧ Upto (SG (K.k3 w.heap.size ao l.length)) wx w') :=
                fun wx a => put_any (K := K.k3 w.heap.size ao l.length) (g := g7) _ wx a HX3 (Nat.le_trans HN2.out (by decide))
              have HP5 := Lib.hid HP4
              rw [hk] at o0 GI
              clear HX3 HP4 HP3 HX2 e hk
              go_upto_region 27 with (go_at_call 95; refine (GI.out _).mono ?_; rintro e w' ⟨rfl, rfl⟩)
              go_upto_region 36 with fail
              go_wp2_with (go_at_call 47; refine (PU.out _ (G.out.alloc _)).mono ?_; rintro e w8 ⟨rfl, a8, u8⟩; have A8 := Lib.hid a8; have U8 := Lib.hid (((U.out.alloc _)).trans ((SG.un3 u8).mono fun _ _ h => .inl h)); clear a8 u8)
              go_end0
              exact ⟨rfl, by rw [HP5.out]; exact A8.out.un3, U8.out.mono fun i hi h => h.elim id (fun h => absurd hi (by omega))⟩
            · have e : noC o (p.1.getD 0 0) (p.1.getD 1 0) = ⟨13, o.w, p.1.getD 0 0, 0, 0, o.n, o.kn, 0⟩ := by unfold noC; rw [if_neg (by rw [hk]; decide), if_neg (by rw [hk]; decide), if_neg (by rw [hk]; decide), if_neg (by rw [hk]; decide), if_pos hk]
              have HX3 := HX2.out
              rw [e] at HX3
              have HP4 := HP3.out
              rw [e] at HP4
              have PU : Hid (∀ wx, GM (K.k3 w.heap.size ao l.length) g7 wx → Calls Try.prog 47 #[.pointer (some ⟨K.h, 0, none⟩), .agg #[.int .i64 13, .int .i64 o.w, .int .i64 (p.1.getD 0 0), .int .i64 0, .int .i64 0, .int .i64 o.n, .int .u32 o.kn, .int .u32 0]] wx fun e w' => e = .returned (.tuple #[]) ∧ GM (K.k3 w.heap.size ao l.length) (g7.put ⟨13, o.w, p.1.getD 0 0, 0, 0, o.n, o.kn, 0⟩) w' ∧ Upto (SG (K.k3 w.heap.size ao l.length)) wx w') :=
                fun wx a => put_any (K := K.k3 w.heap.size ao l.length) (g := g7) _ wx a HX3 (Nat.le_trans HN2.out (by decide))
              have HP5 := Lib.hid HP4
              rw [hk] at o0 GI
              clear HX3 HP4 HP3 HX2 e hk
              go_upto_region 29 with (go_at_call 95; refine (GI.out _).mono ?_; rintro e w' ⟨rfl, rfl⟩)
              go_region
              go_wp2_with (go_at_call 47; refine (PU.out _ (G.out.alloc _).drew).mono ?_; rintro e w8 ⟨rfl, a8, u8⟩; have A8 := Lib.hid a8; have U8 := Lib.hid (((U.out.alloc _).drew).trans ((SG.un3 u8).mono fun _ _ h => .inl h)); clear a8 u8)
              go_end0
              exact ⟨rfl, by rw [HP5.out]; exact A8.out.un3, U8.out.mono fun i hi h => h.elim id (fun h => absurd hi (by omega))⟩
            · have e : noC o (p.1.getD 0 0) (p.1.getD 1 0) = ⟨12, o.w, p.1.getD 0 0, 0, 0, o.n, o.kn, (o.b % 4294967296)⟩ := by unfold noC; rw [if_neg (by rw [hk]; decide), if_neg (by rw [hk]; decide), if_neg (by rw [hk]; decide), if_neg (by rw [hk]; decide), if_neg (by rw [hk]; decide), if_pos hk]
              have HX3 := HX2.out
              rw [e] at HX3
              have HP4 := HP3.out
              rw [e] at HP4
              have PU : Hid (∀ wx, GM (K.k3 w.heap.size ao l.length) g7 wx → Calls Try.prog 47 #[.pointer (some ⟨K.h, 0, none⟩), .agg #[.int .i64 12, .int .i64 o.w, .int .i64 (p.1.getD 0 0), .int .i64 0, .int .i64 0, .int .i64 o.n, .int .u32 o.kn, .int .u32 (o.b % 4294967296)]] wx fun e w' => e = .returned (.tuple #[]) ∧ GM (K.k3 w.heap.size ao l.length) (g7.put ⟨12, o.w, p.1.getD 0 0, 0, 0, o.n, o.kn, (o.b % 4294967296)⟩) w' ∧ Upto (SG (K.k3 w.heap.size ao l.length)) wx w') :=
                fun wx a => put_any (K := K.k3 w.heap.size ao l.length) (g := g7) _ wx a HX3 (Nat.le_trans HN2.out (by decide))
              have HP5 := Lib.hid HP4
              rw [hk] at o0 GI
              clear HX3 HP4 HP3 HX2 e hk
              go_upto_region 31 with (go_at_call 95; refine (GI.out _).mono ?_; rintro e w' ⟨rfl, rfl⟩)
              go_region
              go_wp2_with (go_at_call 47; refine (PU.out _ (G.out.alloc _).drew).mono ?_; rintro e w8 ⟨rfl, a8, u8⟩; have A8 := Lib.hid a8; have U8 := Lib.hid (((U.out.alloc _).drew).trans ((SG.un3 u8).mono fun _ _ h => .inl h)); clear a8 u8)
              go_end0
              exact ⟨rfl, by rw [HP5.out]; exact A8.out.un3, U8.out.mono fun i hi h => h.elim id (fun h => absurd hi (by omega))⟩
            · have e : noC o (p.1.getD 0 0) (p.1.getD 1 0) = ⟨14, 0, p.1.getD 0 0, 0, 0, o.n, o.kn, 0⟩ := by unfold noC; rw [if_neg (by rw [hk]; decide), if_neg (by rw [hk]; decide), if_neg (by rw [hk]; decide), if_neg (by rw [hk]; decide), if_neg (by rw [hk]; decide), if_neg (by rw [hk]; decide), if_pos hk]
              have HX3 := HX2.out
              rw [e] at HX3
              have HP4 := HP3.out
              rw [e] at HP4
              have PU : Hid (∀ wx, GM (K.k3 w.heap.size ao l.length) g7 wx → Calls Try.prog 47 #[.pointer (some ⟨K.h, 0, none⟩), .agg #[.int .i64 14, .int .i64 0, .int .i64 (p.1.getD 0 0), .int .i64 0, .int .i64 0, .int .i64 o.n, .int .u32 o.kn, .int .u32 0]] wx fun e w' => e = .returned (.tuple #[]) ∧ GM (K.k3 w.heap.size ao l.length) (g7.put ⟨14, 0, p.1.getD 0 0, 0, 0, o.n, o.kn, 0⟩) w' ∧ Upto (SG (K.k3 w.heap.size ao l.length)) wx w') :=
                fun wx a => put_any (K := K.k3 w.heap.size ao l.length) (g := g7) _ wx a HX3 (Nat.le_trans HN2.out (by decide))
              have HP5 := Lib.hid HP4
              rw [hk] at o0 GI
              clear HX3 HP4 HP3 HX2 e hk
              go_upto_region 33 with (go_at_call 95; refine (GI.out _).mono ?_; rintro e w' ⟨rfl, rfl⟩)
              go_upto_region 36 with fail
              go_wp2_with (go_at_call 47; refine (PU.out _ (G.out.alloc _)).mono ?_; rintro e w8 ⟨rfl, a8, u8⟩; have A8 := Lib.hid a8; have U8 := Lib.hid (((U.out.alloc _)).trans ((SG.un3 u8).mono fun _ _ h => .inl h)); clear a8 u8)
              go_end0
              exact ⟨rfl, by rw [HP5.out]; exact A8.out.un3, U8.out.mono fun i hi h => h.elim id (fun h => absurd hi (by omega))⟩
            · have e : noC o (p.1.getD 0 0) (p.1.getD 1 0) = ⟨4, 0, p.1.getD 0 0, 0, 0, o.n, o.kn, 0⟩ := by unfold noC; rw [if_neg (by rw [hk]; decide), if_neg (by rw [hk]; decide), if_neg (by rw [hk]; decide), if_neg (by rw [hk]; decide), if_neg (by rw [hk]; decide), if_neg (by rw [hk]; decide), if_neg (by rw [hk]; decide), if_pos hk]
              have HX3 := HX2.out
              rw [e] at HX3
              have HP4 := HP3.out
              rw [e] at HP4
              have PU : Hid (∀ wx, GM (K.k3 w.heap.size ao l.length) g7 wx → Calls Try.prog 47 #[.pointer (some ⟨K.h, 0, none⟩), .agg #[.int .i64 4, .int .i64 0, .int .i64 (p.1.getD 0 0), .int .i64 0, .int .i64 0, .int .i64 o.n, .int .u32 o.kn, .int .u32 0]] wx fun e w' => e = .returned (.tuple #[]) ∧ GM (K.k3 w.heap.size ao l.length) (g7.put ⟨4, 0, p.1.getD 0 0, 0, 0, o.n, o.kn, 0⟩) w' ∧ Upto (SG (K.k3 w.heap.size ao l.length)) wx w') :=
                fun wx a => put_any (K := K.k3 w.heap.size ao l.length) (g := g7) _ wx a HX3 (Nat.le_trans HN2.out (by decide))
              have HP5 := Lib.hid HP4
              rw [hk] at o0 GI
              clear HX3 HP4 HP3 HX2 e hk
              go_upto_region 35 with (go_at_call 95; refine (GI.out _).mono ?_; rintro e w' ⟨rfl, rfl⟩)
              go_upto_region 36 with fail
              go_wp2_with (go_at_call 47; refine (PU.out _ (G.out.alloc _)).mono ?_; rintro e w8 ⟨rfl, a8, u8⟩; have A8 := Lib.hid a8; have U8 := Lib.hid (((U.out.alloc _)).trans ((SG.un3 u8).mono fun _ _ h => .inl h)); clear a8 u8)
              go_end0
              exact ⟨rfl, by rw [HP5.out]; exact A8.out.un3, U8.out.mono fun i hi h => h.elim id (fun h => absurd hi (by omega))⟩
end Go.Proofs.Ytcjcmnnhmajocab.Gn
