/- ir's run: operations by which no block is left. -/
import Derived.Deep.RegionHeld3
import Derived.Deep.CutBlock
import Derived.Test.YtcjcmnnhmajocabPeax
import Derived.Test.YtcjcmnnhmajocabPebb
namespace Go.Proofs.Ytcjcmnnhmajocab.Ev
open Go.RowKit Kt Me Fl
set_option linter.unusedVariables false
set_option linter.unusedSimpArgs false
/-- ir's run: memory, context, values -/
structure Rn (A T p L : Nat) (c v : Nat → Int) (W : World) : Prop where
  m : W.cell? ⟨A, 0, none⟩ = some (.pointer (some ⟨p, 0, none⟩))
  c : ∀ j, j < 12 → W.cell? ⟨A, 1 + j, none⟩ = some (.int .u32 (c j))
  t : W.cell? ⟨A, 13, none⟩ = some (.slice (some ⟨T, 0, none⟩) L L)
  v : ∀ j, j < L → W.cell? ⟨T, j, none⟩ = some (.int .u32 (v j))
  za : ∀ j, W.frozen? ⟨A, j, none⟩ = false
  zt : ∀ j, W.frozen? ⟨T, j, none⟩ = false
  la : A < W.heap.size
  lt : T < W.heap.size
  ne : A ≠ T
variable {A T p L : Nat} {c v : Nat → Int} {W W' : World}
theorem Rn.upto {S : Nat → Prop} (a : Rn A T p L c v W) (u : Upto S W W') (hA : ¬ S A) (hT : ¬ S T) : Rn A T p L c v W' :=
  ⟨(u.cell (q := ⟨A, 0, none⟩) a.la hA).trans a.m, fun j hj => (u.cell (q := ⟨A, 1 + j, none⟩) a.la hA).trans (a.c j hj), (u.cell (q := ⟨A, 13, none⟩) a.la hA).trans a.t,
    fun j hj => (u.cell (q := ⟨T, j, none⟩) a.lt hT).trans (a.v j hj), fun j => (u.frozen (q := ⟨A, j, none⟩) a.la hA).trans (a.za j), fun j => (u.frozen (q := ⟨T, j, none⟩) a.lt hT).trans (a.zt j),
    Nat.lt_of_lt_of_le a.la u.size, Nat.lt_of_lt_of_le a.lt u.size, a.ne⟩
theorem Rn.drew (a : Rn A T p L c v W) : Rn A T p L c v W.drew := a.upto (Upto.refl (fun _ => False) W).drew id id
theorem oth {W : World} {b b' i j : Nat} {x : Value} (hne : b' ≠ b) : (W.setCell ⟨b, j, none⟩ x).cell? ⟨b', i, none⟩ = W.cell? ⟨b', i, none⟩ :=
  World.cell?_setCell_other _ _ _ _ (fun hx => hne (congrArg Addr.block hx).symm)
theorem Rn.setV (a : Rn A T p L c v W) (i : Nat) (hi : i < L) (z : Int) : Rn A T p L c (upd v i z) (W.setCell ⟨T, i, none⟩ (.int .u32 z)) := by
  refine ⟨(oth a.ne).trans a.m, fun j hj => (oth a.ne).trans (a.c j hj), (oth a.ne).trans a.t, fun j hj => ?_, fun j => by simpa using a.za j, fun j => by simpa using a.zt j, by simpa using a.la, by simpa using a.lt, a.ne⟩
  by_cases e : j = i
  · subst e; rw [World.cell?_setCell_same _ _ _ (a.v j hj)]; simp [upd]
  · rw [off e, a.v j hj]; simp [upd, e]
theorem Rn.setC (a : Rn A T p L c v W) (i : Nat) (hi : i < 12) (z : Int) : Rn A T p L (upd c i z) v (W.setCell ⟨A, 1 + i, none⟩ (.int .u32 z)) := by
  have hne : T ≠ A := fun e => a.ne e.symm
  refine ⟨(off (by omega)).trans a.m, fun j hj => ?_, (off (by omega)).trans a.t, fun j hj => (oth hne).trans (a.v j hj), fun j => by simpa using a.za j, fun j => by simpa using a.zt j, by simpa using a.la, by simpa using a.lt, a.ne⟩
  by_cases e : j = i
  · subst e; rw [World.cell?_setCell_same _ _ _ (a.c j hj)]; simp [upd]
  · rw [off (by omega), a.c j hj]; simp [upd, e]
/-- an operation in a box -/
structure OB (h : Nat) (k ow oa ob oc kn on : Int) (W : World) : Prop where
  c0 : W.cell? ⟨h, 0, none⟩ = some (.int .i64 k)
  c1 : W.cell? ⟨h, 1, none⟩ = some (.int .i64 ow)
  c2 : W.cell? ⟨h, 2, none⟩ = some (.int .i64 oa)
  c3 : W.cell? ⟨h, 3, none⟩ = some (.int .i64 ob)
  c4 : W.cell? ⟨h, 4, none⟩ = some (.int .i64 oc)
  c5 : W.cell? ⟨h, 5, none⟩ = some (.int .u32 kn)
  c6 : W.cell? ⟨h, 6, none⟩ = some (.int .i64 on)
  l : h < W.heap.size
theorem OB.upto {S : Nat → Prop} {h : Nat} {k ow oa ob oc kn on : Int} {W W' : World} (a : OB h k ow oa ob oc kn on W) (u : Upto S W W') (hs : ¬ S h) : OB h k ow oa ob oc kn on W' :=
  ⟨(u.cell (q := ⟨h, 0, none⟩) a.l hs).trans a.c0, (u.cell (q := ⟨h, 1, none⟩) a.l hs).trans a.c1, (u.cell (q := ⟨h, 2, none⟩) a.l hs).trans a.c2, (u.cell (q := ⟨h, 3, none⟩) a.l hs).trans a.c3, (u.cell (q := ⟨h, 4, none⟩) a.l hs).trans a.c4, (u.cell (q := ⟨h, 5, none⟩) a.l hs).trans a.c5, (u.cell (q := ⟨h, 6, none⟩) a.l hs).trans a.c6, Nat.lt_of_lt_of_le a.l u.size⟩
theorem OB.setV {h i : Nat} {k ow oa ob oc kn on : Int} {W : World} (b : OB h k ow oa ob oc kn on W) {T : Nat} (hne : h ≠ T) (z : Value) : OB h k ow oa ob oc kn on (W.setCell ⟨T, i, none⟩ z) :=
  ⟨(oth hne).trans b.c0, (oth hne).trans b.c1, (oth hne).trans b.c2, (oth hne).trans b.c3, (oth hne).trans b.c4, (oth hne).trans b.c5, (oth hne).trans b.c6, by simpa using b.l⟩
/-- its two blocks -/
def RS (A T : Nat) (k : Nat) : Prop := k = A ∨ k = T
/-- what the context and the values are behind it -/
def pc (k ow : Int) (oa : Nat) (c v : Nat → Int) : Nat → Int := if k = 3 then upd c ow.toNat (v oa) else c
def pv (k ow kn : Int) (i oa ob oc : Nat) (c v : Nat → Int) : Nat → Int :=
  if k = 1 then upd v i kn else if k = 2 then upd v i (c ow.toNat) else if k = 3 then v else if k = 17 then upd v i (fl (c 8) (c 9) (c 10) (c 11)) else upd v i (valV k ow kn (v oa) (v ob) (v oc))
/-- the kinds by which no block is left; how W goes -/
def PK (k ow : Int) : Prop := k = 1 ∨ (k = 2 ∧ 0 ≤ ow ∧ ow < 12) ∨ (k = 3 ∧ 0 ≤ ow ∧ ow < 12) ∨ k = 17 ∨ (k = 4 ∧ 0 ≤ ow ∧ ow < 16) ∨ (k = 5 ∧ 0 ≤ ow ∧ ow < 7) ∨ k = 6 ∨ k = 7 ∨ (k = 8 ∧ 0 ≤ ow ∧ ow < 16)
set_option maxRecDepth 100000 in
set_option maxHeartbeats 16000000 in
theorem pure_any (k : Int) (i oa ob oc : Nat) (ow kn on : Int) (w : World) (h : Rn A T p L c v w) (hi : i < L) (ha : oa < L) (hb : ob < L) (hc : oc < L) (hL : L < 9223372036854775808) (k0 : 0 ≤ kn) (k1 : kn < 4294967296) (hC : ∀ j, 0 ≤ c j ∧ c j < 4294967296) (hV : ∀ j, 0 ≤ v j ∧ v j < 4294967296) (hk : PK k ow) :
    Calls Try.prog 116 #[.pointer (some ⟨A, 0, none⟩), .int .i64 i, .agg #[.int .i64 k, .int .i64 ow, .int .i64 oa, .int .i64 ob, .int .i64 oc, .int .u32 kn, .int .i64 on]] w fun e w' => e = .returned (.tuple #[]) ∧ Rn A T p L (pc k ow oa c v) (pv k ow kn i oa ob oc c v) w' ∧ Upto (RS A T) w w' := by
  have lA0 := h.la
  have lT0 := h.lt
  have u0 := (Upto.refl (fun _ => False) w).alloc (.cells #[.int .i64 k, .int .i64 ow, .int .i64 oa, .int .i64 ob, .int .i64 oc, .int .u32 kn, .int .i64 on] 31)
  have h1 := h.upto u0 id id
  have U0 := Lib.hid (u0.mono (T := RS A T) fun _ _ h => h.elim)
  have b0 := box_at w #[.int .i64 k, .int .i64 ow, .int .i64 oa, .int .i64 ob, .int .i64 oc, .int .u32 kn, .int .i64 on] 31 0
  have b1 := box_at w #[.int .i64 k, .int .i64 ow, .int .i64 oa, .int .i64 ob, .int .i64 oc, .int .u32 kn, .int .i64 on] 31 1
  have b2 := box_at w #[.int .i64 k, .int .i64 ow, .int .i64 oa, .int .i64 ob, .int .i64 oc, .int .u32 kn, .int .i64 on] 31 2
  have b3 := box_at w #[.int .i64 k, .int .i64 ow, .int .i64 oa, .int .i64 ob, .int .i64 oc, .int .u32 kn, .int .i64 on] 31 3
  have b4 := box_at w #[.int .i64 k, .int .i64 ow, .int .i64 oa, .int .i64 ob, .int .i64 oc, .int .u32 kn, .int .i64 on] 31 4
  have b5 := box_at w #[.int .i64 k, .int .i64 ow, .int .i64 oa, .int .i64 ob, .int .i64 oc, .int .u32 kn, .int .i64 on] 31 5
  have b6 := box_at w #[.int .i64 k, .int .i64 ow, .int .i64 oa, .int .i64 ob, .int .i64 oc, .int .u32 kn, .int .i64 on] 31 6
  have lB : w.heap.size < (w.alloc (.cells #[.int .i64 k, .int .i64 ow, .int .i64 oa, .int .i64 ob, .int .i64 oc, .int .u32 kn, .int .i64 on] 31)).heap.size := by simp
  simp only [List.getElem?_toArray, List.getElem?_cons_zero, List.getElem?_cons_succ] at b0 b1 b2 b3 b4 b5 b6
  have hne := h.ne
  have nBA : w.heap.size ≠ A := by omega
  have nBT : w.heap.size ≠ T := by omega
  have HK := Lib.hid hk
  have HC := Lib.hid hC
  have HV := Lib.hid hV
  clear h u0 hk hC hV
  go_enter Try.func116, Try.ntmps116
  go_upto_region 1 with fail
  generalize w.alloc (.cells #[.int .i64 k, .int .i64 ow, .int .i64 oa, .int .i64 ob, .int .i64 oc, .int .u32 kn, .int .i64 on] 31) = WA at h1 U0 b0 b1 b2 b3 b4 b5 b6 lB ⊢
  have a13 := h1.t
  have va := h1.v oa ha
  have vb := h1.v ob hb
  have vc := h1.v oc hc
  have ia0 : (0 : Int) ≤ (oa : Int) := by omega
  have ia1 : (oa : Int) < (L : Int) := by omega
  have ib0 : (0 : Int) ≤ (ob : Int) := by omega
  have ib1 : (ob : Int) < (L : Int) := by omega
  have ic0 : (0 : Int) ≤ (oc : Int) := by omega
  have ic1 : (oc : Int) < (L : Int) := by omega
  have HA := Lib.hid h1
  clear h1
  go_cut [6, 7, 8] from 9 to 32 (fun s6 s7 s8 wx => s6 = .int .u32 (v oa) ∧ s7 = .int .u32 (v ob) ∧ s8 = .int .u32 (v oc) ∧ WA.drew = wx)
  case first =>
    go_region
    go_wp2_with fail
    go_meet
    exact ⟨rfl, rfl, rfl, rfl⟩
  obtain ⟨rfl, rfl, rfl, rfl⟩ := hcut
  clear va vb vc ia0 ia1 ib0 ib1 ic0 ic1 a13
  have HA := Lib.hid HA.out.drew
  have U0 := Lib.hid U0.out.drew
  have lB : w.heap.size < WA.drew.heap.size := lB
  have b0 : WA.drew.cell? ⟨w.heap.size, 0, none⟩ = _ := b0
  have b1 : WA.drew.cell? ⟨w.heap.size, 1, none⟩ = _ := b1
  have b2 : WA.drew.cell? ⟨w.heap.size, 2, none⟩ = _ := b2
  have b3 : WA.drew.cell? ⟨w.heap.size, 3, none⟩ = _ := b3
  have b4 : WA.drew.cell? ⟨w.heap.size, 4, none⟩ = _ := b4
  have b5 : WA.drew.cell? ⟨w.heap.size, 5, none⟩ = _ := b5
  have b6 : WA.drew.cell? ⟨w.heap.size, 6, none⟩ = _ := b6
  generalize WA.drew = WB at HA U0 lB b0 b1 b2 b3 b4 b5 b6 ⊢
  have a13 := HA.out.t
  have vi := HA.out.v i hi
  have zi := HA.out.zt i
  have ii0 : (0 : Int) ≤ (i : Int) := by omega
  have ii1 : (i : Int) < (L : Int) := by omega
  have lA := HA.out.la
  have lT := HA.out.lt
  have lw := hL
  rcases HK.out with rfl | ⟨rfl, hw0, hw1⟩ | ⟨rfl, hw0, hw1⟩ | rfl | ⟨rfl, hw⟩ | ⟨rfl, hw⟩ | rfl | rfl | ⟨rfl, hw⟩
  · clear HK
    go_upto_region 5 with fail
    go_region
    go_wp2_with fail
    go_end0
    exact ⟨rfl, (HA.out.setV i hi kn).drew, (U0.out.setCell (q := ⟨T, i, none⟩) (.inl (.inr rfl)) (.int .u32 (kn))).drew⟩
  · clear HK
    obtain ⟨r, hr⟩ := Int.eq_ofNat_of_zero_le hw0
    subst hr
    have hr : r < 12 := by omega
    have cr := HA.out.c r hr
    have e1 : ((r : Int)).toNat = r := rfl
    go_upto_region 7 with fail
    go_region
    go_wp2_with fail
    go_end0
    exact ⟨rfl, (HA.out.setV i hi (c r)).drew, (U0.out.setCell (q := ⟨T, i, none⟩) (.inl (.inr rfl)) (.int .u32 (c r))).drew⟩
  · clear HK
    obtain ⟨r, hr⟩ := Int.eq_ofNat_of_zero_le hw0
    subst hr
    have hr : r < 12 := by omega
    have cr := HA.out.c r hr
    have zr := HA.out.za (1 + r)
    go_upto_region 9 with fail
    go_region
    go_wp2_with fail
    go_end0
    exact ⟨rfl, (HA.out.setC r hr (v oa)).drew, (U0.out.setCell (q := ⟨A, 1 + r, none⟩) (.inl (.inl rfl)) (.int .u32 (v oa))).drew⟩
  · clear HK
    have h8 := HC.out 8
    have h9 := HC.out 9
    have h10 := HC.out 10
    have h11 := HC.out 11
    have CSx := Lib.hid (fun w => Ir.state_any (c 0) (c 1) (c 2) (c 3) (c 4) (c 5) (c 6) (c 7) (c 8) (c 9) (c 10) (c 11) 0 w h8.1 h8.2 h9.1 h9.2 h10.1 h10.2 h11.1 h11.2)
    have ez : pv 17 ow kn i oa ob oc c v = upd v i (fl (c 8) (c 9) (c 10) (c 11)) := rfl
    have HZ := Lib.hid ez
    obtain ⟨z, hz⟩ : ∃ z, fl (c 8) (c 9) (c 10) (c 11) = z := ⟨_, rfl⟩
    rw [hz] at CSx HZ
    clear ez hz h8 h9 h10 h11
    have hfld : ∀ w : World, (Instr.field 72 (.agg #[.int .u32 (c 0), .int .u32 (c 1), .int .u32 (c 2), .int .u32 (c 3), .int .u32 (c 4), .int .u32 (c 5), .int .u32 (c 6), .int .u32 (c 7), .int .u32 0, .int .u32 z]) 2).run Try.prog w = .ok (.int .u32 z) w := fun _ => by kernel_rfl
    have c0 := HA.out.c 0 (by omega)
    have c1 := HA.out.c 1 (by omega)
    have c2 := HA.out.c 2 (by omega)
    have c3 := HA.out.c 3 (by omega)
    have c4 := HA.out.c 4 (by omega)
    have c5 := HA.out.c 5 (by omega)
    have c6 := HA.out.c 6 (by omega)
    have c7 := HA.out.c 7 (by omega)
    have c8 := HA.out.c 8 (by omega)
    have c9 := HA.out.c 9 (by omega)
    have c10 := HA.out.c 10 (by omega)
    have c11 := HA.out.c 11 (by omega)
    have sv : (WB.cell? ⟨T, i, none⟩).isSome = true := (congrArg Option.isSome vi).trans rfl
    go_upto_region 11 with fail
    go_region_with (go_at_call 170; (with_reducible refine (CSx.out _).mono ?_); rintro e w3 ⟨rfl, hb3⟩; have ub := Upto.of_below (S := fun _ => False) hb3; have H3 := Lib.hid (show Rn A T p L c v w3 from by first | exact HA.out.upto ub id id | exact HA.out.drew.upto ub id id); have U3 := Lib.hid (show Upto (RS A T) w w3 from by first | exact U0.out.trans (ub.mono fun _ _ h => h.elim) | exact U0.out.drew.trans (ub.mono fun _ _ h => h.elim)); have a13' := H3.out.t; have vi' := H3.out.v i hi; have zi' := H3.out.zt i; have lT3 := H3.out.lt; have lA3 := H3.out.la; clear hb3 ub)
    all_goals go_wp2_with fail
    all_goals go_end0
    all_goals first
      | exact ⟨rfl, HZ.out ▸ H3.out.setV i hi z, (U3.out.setCell (q := ⟨T, i, none⟩) (.inl (.inr rfl)) (.int .u32 z))⟩
      | exact ⟨rfl, HZ.out ▸ (H3.out.setV i hi z).drew, (U3.out.setCell (q := ⟨T, i, none⟩) (.inl (.inr rfl)) (.int .u32 z)).drew⟩
  · clear HK
    have CV := fun w => val_any 4 ow oa ob oc kn on (v oa) (v ob) (v oc) w k0 k1 (HV.out oa).1 (HV.out oa).2 (HV.out ob).1 (HV.out ob).2 (HV.out oc).1 (HV.out oc).2 (.inl ⟨rfl, hw⟩)
    have ez : pv 4 ow kn i oa ob oc c v = upd v i (valV 4 ow kn (v oa) (v ob) (v oc)) := rfl
    obtain ⟨z, hz⟩ : ∃ z, valV 4 ow kn (v oa) (v ob) (v oc) = z := ⟨_, rfl⟩
    rw [hz] at CV ez
    have CV := Lib.hid CV
    have HZ := Lib.hid ez
    clear ez hz
    have sv : (WB.cell? ⟨T, i, none⟩).isSome = true := (congrArg Option.isSome vi).trans rfl
    have OO := Lib.hid (show OB w.heap.size 4 ow oa ob oc kn on WB from ⟨b0, b1, b2, b3, b4, b5, b6, lB⟩)
    go_upto_region 3 with fail
    go_region_with (go_at_call 171; (with_reducible refine (CV.out _).mono ?_); rintro e w3 ⟨rfl, hb3⟩; have ub := Upto.of_below (S := fun _ => False) hb3; have H3 := Lib.hid (show Rn A T p L c v w3 from by first | exact HA.out.upto ub id id | exact HA.out.drew.upto ub id id); have U3 := Lib.hid (show Upto (RS A T) w w3 from by first | exact U0.out.trans (ub.mono fun _ _ h => h.elim) | exact U0.out.drew.trans (ub.mono fun _ _ h => h.elim)); have a13' := H3.out.t; have vi' := H3.out.v i hi; have zi' := H3.out.zt i; have lT3 := H3.out.lt; have lA3 := H3.out.la; clear hb3 ub)
    all_goals go_wp2_with fail
    all_goals go_end0
    all_goals first
      | exact ⟨rfl, HZ.out ▸ H3.out.setV i hi z, (U3.out.setCell (q := ⟨T, i, none⟩) (.inl (.inr rfl)) (.int .u32 z))⟩
      | exact ⟨rfl, HZ.out ▸ (H3.out.setV i hi z).drew, (U3.out.setCell (q := ⟨T, i, none⟩) (.inl (.inr rfl)) (.int .u32 z)).drew⟩
  · clear HK
    have CV := fun w => val_any 5 ow oa ob oc kn on (v oa) (v ob) (v oc) w k0 k1 (HV.out oa).1 (HV.out oa).2 (HV.out ob).1 (HV.out ob).2 (HV.out oc).1 (HV.out oc).2 (.inr (.inl ⟨rfl, hw⟩))
    have ez : pv 5 ow kn i oa ob oc c v = upd v i (valV 5 ow kn (v oa) (v ob) (v oc)) := rfl
    obtain ⟨z, hz⟩ : ∃ z, valV 5 ow kn (v oa) (v ob) (v oc) = z := ⟨_, rfl⟩
    rw [hz] at CV ez
    have CV := Lib.hid CV
    have HZ := Lib.hid ez
    clear ez hz
    have sv : (WB.cell? ⟨T, i, none⟩).isSome = true := (congrArg Option.isSome vi).trans rfl
    have OO := Lib.hid (show OB w.heap.size 5 ow oa ob oc kn on WB from ⟨b0, b1, b2, b3, b4, b5, b6, lB⟩)
    go_upto_region 3 with fail
    go_region_with (go_at_call 171; (with_reducible refine (CV.out _).mono ?_); rintro e w3 ⟨rfl, hb3⟩; have ub := Upto.of_below (S := fun _ => False) hb3; have H3 := Lib.hid (show Rn A T p L c v w3 from by first | exact HA.out.upto ub id id | exact HA.out.drew.upto ub id id); have U3 := Lib.hid (show Upto (RS A T) w w3 from by first | exact U0.out.trans (ub.mono fun _ _ h => h.elim) | exact U0.out.drew.trans (ub.mono fun _ _ h => h.elim)); have a13' := H3.out.t; have vi' := H3.out.v i hi; have zi' := H3.out.zt i; have lT3 := H3.out.lt; have lA3 := H3.out.la; clear hb3 ub)
    all_goals go_wp2_with fail
    all_goals go_end0
    all_goals first
      | exact ⟨rfl, HZ.out ▸ H3.out.setV i hi z, (U3.out.setCell (q := ⟨T, i, none⟩) (.inl (.inr rfl)) (.int .u32 z))⟩
      | exact ⟨rfl, HZ.out ▸ (H3.out.setV i hi z).drew, (U3.out.setCell (q := ⟨T, i, none⟩) (.inl (.inr rfl)) (.int .u32 z)).drew⟩
  · clear HK
    have CV := fun w => val_any 6 ow oa ob oc kn on (v oa) (v ob) (v oc) w k0 k1 (HV.out oa).1 (HV.out oa).2 (HV.out ob).1 (HV.out ob).2 (HV.out oc).1 (HV.out oc).2 (.inr (.inr (.inl rfl)))
    have ez : pv 6 ow kn i oa ob oc c v = upd v i (valV 6 ow kn (v oa) (v ob) (v oc)) := rfl
    obtain ⟨z, hz⟩ : ∃ z, valV 6 ow kn (v oa) (v ob) (v oc) = z := ⟨_, rfl⟩
    rw [hz] at CV ez
    have CV := Lib.hid CV
    have HZ := Lib.hid ez
    clear ez hz
    have sv : (WB.cell? ⟨T, i, none⟩).isSome = true := (congrArg Option.isSome vi).trans rfl
    have OO := Lib.hid (show OB w.heap.size 6 ow oa ob oc kn on WB from ⟨b0, b1, b2, b3, b4, b5, b6, lB⟩)
    go_upto_region 3 with fail
    go_region_with (go_at_call 171; (with_reducible refine (CV.out _).mono ?_); rintro e w3 ⟨rfl, hb3⟩; have ub := Upto.of_below (S := fun _ => False) hb3; have H3 := Lib.hid (show Rn A T p L c v w3 from by first | exact HA.out.upto ub id id | exact HA.out.drew.upto ub id id); have U3 := Lib.hid (show Upto (RS A T) w w3 from by first | exact U0.out.trans (ub.mono fun _ _ h => h.elim) | exact U0.out.drew.trans (ub.mono fun _ _ h => h.elim)); have a13' := H3.out.t; have vi' := H3.out.v i hi; have zi' := H3.out.zt i; have lT3 := H3.out.lt; have lA3 := H3.out.la; clear hb3 ub)
    all_goals go_wp2_with fail
    all_goals go_end0
    all_goals first
      | exact ⟨rfl, HZ.out ▸ H3.out.setV i hi z, (U3.out.setCell (q := ⟨T, i, none⟩) (.inl (.inr rfl)) (.int .u32 z))⟩
      | exact ⟨rfl, HZ.out ▸ (H3.out.setV i hi z).drew, (U3.out.setCell (q := ⟨T, i, none⟩) (.inl (.inr rfl)) (.int .u32 z)).drew⟩
  · clear HK
    have CV := fun w => val_any 7 ow oa ob oc kn on (v oa) (v ob) (v oc) w k0 k1 (HV.out oa).1 (HV.out oa).2 (HV.out ob).1 (HV.out ob).2 (HV.out oc).1 (HV.out oc).2 (.inr (.inr (.inr (.inl rfl))))
    have ez : pv 7 ow kn i oa ob oc c v = upd v i (valV 7 ow kn (v oa) (v ob) (v oc)) := rfl
    obtain ⟨z, hz⟩ : ∃ z, valV 7 ow kn (v oa) (v ob) (v oc) = z := ⟨_, rfl⟩
    rw [hz] at CV ez
    have CV := Lib.hid CV
    have HZ := Lib.hid ez
    clear ez hz
    have sv : (WB.cell? ⟨T, i, none⟩).isSome = true := (congrArg Option.isSome vi).trans rfl
    have OO := Lib.hid (show OB w.heap.size 7 ow oa ob oc kn on WB from ⟨b0, b1, b2, b3, b4, b5, b6, lB⟩)
    go_upto_region 3 with fail
    go_region_with (go_at_call 171; (with_reducible refine (CV.out _).mono ?_); rintro e w3 ⟨rfl, hb3⟩; have ub := Upto.of_below (S := fun _ => False) hb3; have H3 := Lib.hid (show Rn A T p L c v w3 from by first | exact HA.out.upto ub id id | exact HA.out.drew.upto ub id id); have U3 := Lib.hid (show Upto (RS A T) w w3 from by first | exact U0.out.trans (ub.mono fun _ _ h => h.elim) | exact U0.out.drew.trans (ub.mono fun _ _ h => h.elim)); have a13' := H3.out.t; have vi' := H3.out.v i hi; have zi' := H3.out.zt i; have lT3 := H3.out.lt; have lA3 := H3.out.la; clear hb3 ub)
    all_goals go_wp2_with fail
    all_goals go_end0
    all_goals first
      | exact ⟨rfl, HZ.out ▸ H3.out.setV i hi z, (U3.out.setCell (q := ⟨T, i, none⟩) (.inl (.inr rfl)) (.int .u32 z))⟩
      | exact ⟨rfl, HZ.out ▸ (H3.out.setV i hi z).drew, (U3.out.setCell (q := ⟨T, i, none⟩) (.inl (.inr rfl)) (.int .u32 z)).drew⟩
  · clear HK
    have CV := fun w => val_any 8 ow oa ob oc kn on (v oa) (v ob) (v oc) w k0 k1 (HV.out oa).1 (HV.out oa).2 (HV.out ob).1 (HV.out ob).2 (HV.out oc).1 (HV.out oc).2 (.inr (.inr (.inr (.inr ⟨rfl, hw⟩))))
    have ez : pv 8 ow kn i oa ob oc c v = upd v i (valV 8 ow kn (v oa) (v ob) (v oc)) := rfl
    obtain ⟨z, hz⟩ : ∃ z, valV 8 ow kn (v oa) (v ob) (v oc) = z := ⟨_, rfl⟩
    rw [hz] at CV ez
    have CV := Lib.hid CV
    have HZ := Lib.hid ez
    clear ez hz
    have sv : (WB.cell? ⟨T, i, none⟩).isSome = true := (congrArg Option.isSome vi).trans rfl
    have OO := Lib.hid (show OB w.heap.size 8 ow oa ob oc kn on WB from ⟨b0, b1, b2, b3, b4, b5, b6, lB⟩)
    go_upto_region 3 with fail
    go_region_with (go_at_call 171; (with_reducible refine (CV.out _).mono ?_); rintro e w3 ⟨rfl, hb3⟩; have ub := Upto.of_below (S := fun _ => False) hb3; have H3 := Lib.hid (show Rn A T p L c v w3 from by first | exact HA.out.upto ub id id | exact HA.out.drew.upto ub id id); have U3 := Lib.hid (show Upto (RS A T) w w3 from by first | exact U0.out.trans (ub.mono fun _ _ h => h.elim) | exact U0.out.drew.trans (ub.mono fun _ _ h => h.elim)); have a13' := H3.out.t; have vi' := H3.out.v i hi; have zi' := H3.out.zt i; have lT3 := H3.out.lt; have lA3 := H3.out.la; clear hb3 ub)
    all_goals go_wp2_with fail
    all_goals go_end0
    all_goals first
      | exact ⟨rfl, HZ.out ▸ H3.out.setV i hi z, (U3.out.setCell (q := ⟨T, i, none⟩) (.inl (.inr rfl)) (.int .u32 z))⟩
      | exact ⟨rfl, HZ.out ▸ (H3.out.setV i hi z).drew, (U3.out.setCell (q := ⟨T, i, none⟩) (.inl (.inr rfl)) (.int .u32 z)).drew⟩
end Go.Proofs.Ytcjcmnnhmajocab.Ev
