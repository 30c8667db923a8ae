/- opt: step, of each sort. -/
import Derived.Deep.RegionHeld3
import Derived.Test.YtcjcmnnhmajocabPoao
namespace Go.Proofs.Ytcjcmnnhmajocab.Ot
open Go.RowKit Kt Ic Me Ev
set_option linter.unusedVariables false
set_option linter.unusedSimpArgs false
variable {K : Wc} {s : Wk} {W W' : World}
set_option maxRecDepth 100000 in
set_option maxHeartbeats 4000000 in
theorem flags_any (o : Opr) (w : World) (a : WW K s w) (hk : o.k = 17) (hs : ∀ j, j < 12 → -1 ≤ s.sl j ∧ s.sl j < s.ops.length) (hg : ∀ x ∈ s.ops, OkR x) (hn : s.ops.length < 1000000000) :
    Calls Try.prog 174 #[.pointer (some ⟨K.h, 0, none⟩), .agg #[.int .i64 o.k, .int .i64 o.w, .int .i64 o.a, .int .i64 o.b, .int .i64 o.c, .int .u32 o.kn, .int .i64 o.n]] w fun e w' => e = .returned (.int .i64 (s.flg o).1) ∧ WW K (s.flg o).2 w' ∧ UW K w w' := by
  obtain ⟨k, ow, oa, ob, oc, okn, on⟩ := o
  dsimp only at hk ⊢
  have a1 := a.alloc (.cells #[.int .i64 k, .int .i64 ow, .int .i64 oa, .int .i64 ob, .int .i64 oc, .int .u32 okn, .int .i64 on] 31)
  have hO : OB w.heap.size ⟨k, ow, oa, ob, oc, okn, on⟩ (w.alloc (.cells #[.int .i64 k, .int .i64 ow, .int .i64 oa, .int .i64 ob, .int .i64 oc, .int .u32 okn, .int .i64 on] 31)) := OB.new w _ 31
  have U := Lib.hid (UW.alloc (K := K) a.m.l (.cells #[.int .i64 k, .int .i64 ow, .int .i64 oa, .int .i64 ob, .int .i64 oc, .int .u32 okn, .int .i64 on] 31))
  have LW := Lib.hid a
  have b1 := hO.all
  have lo := hO.1
  have A := Lib.hid a1
  have hk0 : pur k = false := by rw [hk]; rfl
  have c8 := a1.m.sl 8 (by decide)
  have c9 := a1.m.sl 9 (by decide)
  have c10 := a1.m.sl 10 (by decide)
  have c11 := a1.m.sl 11 (by decide)
  have cn := a1.m.cn
  have l0 := a1.m.l
  have h8 := hs 8 (by decide)
  have h9 := hs 9 (by decide)
  have h10 := hs 10 (by decide)
  have h11 := hs 11 (by decide)
  have KC := Lib.hid (fun h => konst_any (s.sl 8) _ a1.m h h8.2)
  have PU := Lib.hid (fun (w : World) (a : WW K s w) => putW_any ⟨k, ow, oa, ob, oc, okn, on⟩ w a hk0 hn)
  have VA : Hid (0 ≤ s.sl 9 → 0 ≤ s.sl 10 → 0 ≤ s.sl 11 → ∀ z : Int, 0 ≤ z → z < 100 → ∀ w, WW K s w → Calls Try.prog 175 #[.pointer (some ⟨K.h, 0, none⟩), .agg #[.int .i64 7, .int .i64 z, .int .i64 (s.sl 9), .int .i64 (s.sl 10), .int .i64 (s.sl 11), .int .u32 0, .int .i64 0]] w fun e w' => e = .returned (.int .i64 (s.val ⟨7, z, s.sl 9, s.sl 10, s.sl 11, 0, 0⟩).1) ∧ WW K (s.val ⟨7, z, s.sl 9, s.sl 10, s.sl 11, 0, 0⟩).2 w' ∧ UW K w w') :=
    fun p9 p10 p11 z z0 z1 w a => value_any ⟨7, z, s.sl 9, s.sl 10, s.sl 11, 0, 0⟩ w a
      ⟨⟨⟨by show (_ : Int) ≤ 7; decide, by show (7 : Int) < _; decide⟩, ⟨by show _ ≤ z; omega, by show z < _; omega⟩, ⟨by show _ ≤ s.sl 9; omega, by show s.sl 9 < _; omega⟩, ⟨by show _ ≤ s.sl 10; omega, by show s.sl 10 < _; omega⟩, ⟨by show _ ≤ s.sl 11; omega, by show s.sl 11 < _; omega⟩, ⟨by show (0 : Int) ≤ 0; decide, by show (0 : Int) < _; decide⟩, ⟨by show (_ : Int) ≤ 0; decide, by show (0 : Int) < _; decide⟩⟩,
        ⟨by show (4 : Int) ≤ 7; decide, by show (7 : Int) ≤ 8; decide⟩, ⟨fun e => absurd e (by show ¬ (7 : Int) = 4; decide), fun e => absurd e (by show ¬ (7 : Int) = 5; decide), fun e => absurd e (by show ¬ (7 : Int) = 8; decide)⟩, ⟨p9, h9.2⟩, fun _ => ⟨p10, h10.2⟩, fun _ => ⟨p11, h11.2⟩, hg⟩ hn
  have BK : Hid (0 ≤ kn s (s.sl 8) ∧ kn s (s.sl 8) < 4294967296) := by
    unfold kn opAt
    rw [List.getD_eq_getElem?_getD]
    cases hx : s.ops[(s.sl 8).toNat]? with
    | none => exact ⟨by decide, by decide⟩
    | some x => exact (hg x (List.mem_of_getElem? hx)).kn
  obtain ⟨R, hR⟩ : ∃ R, s.flg ⟨k, ow, oa, ob, oc, okn, on⟩ = R := ⟨_, rfl⟩
  rw [hR]
  unfold Wk.flg at hR
  have HN := Lib.hid hn
  have HO := Lib.hid hO
  have NO : Hid (s.nx = (s.ops.length : Int)) := rfl
  clear a a1 hO hn hk hk0 hg hs
  obtain ⟨x8, e8⟩ : ∃ x, s.sl 8 = x := ⟨_, rfl⟩
  obtain ⟨x9, e9⟩ : ∃ x, s.sl 9 = x := ⟨_, rfl⟩
  obtain ⟨x10, e10⟩ : ∃ x, s.sl 10 = x := ⟨_, rfl⟩
  obtain ⟨x11, e11⟩ : ∃ x, s.sl 11 = x := ⟨_, rfl⟩
  obtain ⟨nw, enw⟩ : ∃ x, s.now = x := ⟨_, rfl⟩
  rw [e8] at c8 h8 KC hR BK
  rw [e9] at c9 h9 VA hR
  rw [e10] at c10 h10 VA hR
  rw [e11] at c11 h11 VA hR
  rw [enw] at cn hR
  have E9 := Lib.hid e9
  have E10 := Lib.hid e10
  have E11 := Lib.hid e11
  have ENW := Lib.hid enw
  clear e8 e9 e10 e11 enw
  obtain ⟨b1, b2, b3, b4, b5, b6, b7⟩ := b1
  have L0 := Lib.hid l0
  have no : (x8 < 0 ∨ (0 ≤ x8 ∧ x9 < 0) ∨ (0 ≤ x8 ∧ 0 ≤ x9 ∧ x10 < 0) ∨ (0 ≤ x8 ∧ 0 ≤ x9 ∧ 0 ≤ x10 ∧ x11 < 0)) ∨ (0 ≤ x8 ∧ 0 ≤ x9 ∧ 0 ≤ x10 ∧ 0 ≤ x11) := by omega
  rcases no with no | ⟨p8, p9, p10, p11⟩
  · rw [if_neg (by omega)] at hR
    by_cases hnw : nw < 0
    · rw [if_pos hnw] at hR
      have PN : Hid (∀ w, WW K s w → Calls Try.prog 119 #[.pointer (some ⟨K.h, 0, none⟩), .agg #[.int .i64 k, .int .i64 ow, .int .i64 oa, .int .i64 ob, .int .i64 oc, .int .u32 okn, .int .i64 on]] w fun e w' => e = .returned (.int .i64 R.1) ∧ WW K (s.put ⟨k, ow, oa, ob, oc, okn, on⟩) w' ∧ UW K w w') := fun w a => by rw [← hR]; exact PU.out w a
      have R2 := Lib.hid (show R.2 = (s.put ⟨k, ow, oa, ob, oc, okn, on⟩).setN R.1 by rw [← hR])
      generalize s.put ⟨k, ow, oa, ob, oc, okn, on⟩ = s1 at PN R2
      clear hR PU VA KC BK h8 h9 h10 h11
      rcases no with p | ⟨p, q⟩ | ⟨p, q, r⟩ | ⟨p, q, r, t⟩
      all_goals
        go_enter Try.func174, Try.ntmps174
        go_wp2_with (go_at_call 119; refine (PN.out _ A.out).mono ?_; rintro e w2 ⟨rfl, A2, U2⟩; have l2 := A2.m.l; have cn2 := A2.m.cn; have z2 := A2.m.z 15; have A3 := Lib.hid (A2.setN R.1); have U3 := Lib.hid (U.out.trans (U2.trans (UW.setH 15 (by decide) (.int .i64 R.1)))))
        go_ret
        exact ⟨rfl, by rw [R2.out]; exact A3.out, U3.out⟩
    · rw [if_neg hnw] at hR
      clear PU VA KC BK h8 h9 h10 h11
      subst hR
      rcases no with p | ⟨p, q⟩ | ⟨p, q, r⟩ | ⟨p, q, r, t⟩
      all_goals
        go_enter Try.func174, Try.ntmps174
        go_wp2
        go_ret
        exact ⟨rfl, A.out, U.out⟩
  · cases hc : isC s x8 with
    | false =>
      rw [hc] at KC
      have KC := Lib.hid (KC.out p8)
      rw [if_neg (by rw [hc]; simp)] at hR
      by_cases hnw : nw < 0
      · rw [if_pos hnw] at hR
        have PN : Hid (∀ w, WW K s w → Calls Try.prog 119 #[.pointer (some ⟨K.h, 0, none⟩), .agg #[.int .i64 k, .int .i64 ow, .int .i64 oa, .int .i64 ob, .int .i64 oc, .int .u32 okn, .int .i64 on]] w fun e w' => e = .returned (.int .i64 R.1) ∧ WW K (s.put ⟨k, ow, oa, ob, oc, okn, on⟩) w' ∧ UW K w w') := fun w a => by rw [← hR]; exact PU.out w a
        have R2 := Lib.hid (show R.2 = (s.put ⟨k, ow, oa, ob, oc, okn, on⟩).setN R.1 by rw [← hR])
        generalize s.put ⟨k, ow, oa, ob, oc, okn, on⟩ = s1 at PN R2
        clear hR PU VA BK h8 h9 h10 h11 hc
        go_enter Try.func174, Try.ntmps174
        go_wp2_with (first
          | (go_at_call 198; refine KC.out.mono ?_; rintro e w1 ⟨rfl, B1⟩; have A1 := A.out.below B1; have U1 := U.out.trans (UW.below L0.out B1); have O1 := HO.out.upto (Upto.of_below (S := fun _ => False) B1) id; obtain ⟨d1, d2, d3, d4, d5, d6, d7⟩ := O1.all; have lo1 := O1.1; have cn1 := A1.m.cn; rw [ENW.out] at cn1; have l1 := A1.m.l)
          | (go_at_call 119; refine (PN.out _ A1).mono ?_; rintro e w2 ⟨rfl, A2, U2⟩; have l2 := A2.m.l; have cn2 := A2.m.cn; have z2 := A2.m.z 15; have A3 := Lib.hid (A2.setN R.1); have U3 := Lib.hid (U1.trans (U2.trans (UW.setH 15 (by decide) (.int .i64 R.1))))))
        go_ret
        exact ⟨rfl, by rw [R2.out]; exact A3.out, U3.out⟩
      · rw [if_neg hnw] at hR
        clear PU VA BK h8 h9 h10 h11 hc
        subst hR
        go_enter Try.func174, Try.ntmps174
        go_wp2_with (go_at_call 198; refine KC.out.mono ?_; rintro e w1 ⟨rfl, B1⟩; have A1 := A.out.below B1; have U1 := U.out.trans (UW.below L0.out B1); have cn1 := A1.m.cn; rw [ENW.out] at cn1; have l1 := A1.m.l)
        go_ret
        exact ⟨rfl, A1, U1⟩
    | true =>
      rw [hc] at KC
      have KC := Lib.hid (KC.out p8)
      rw [if_pos ⟨p8, p9, p10, p11, hc⟩] at hR
      have VA := Lib.hid (VA.out p9 p10 p11)
      have bk := BK.out
      generalize kn s x8 = kk at hR KC bk BK
      clear PU h8 h9 h10 h11 hc NO
      by_cases h12 : kk ≤ 12
      · have ef : flK kk = kk := if_pos h12
        rw [ef] at hR
        have VB := Lib.hid (VA.out kk bk.1 (by omega))
        rw [hR] at VB
        clear VA hR ef BK
        go_enter Try.func174, Try.ntmps174
        go_upto_region 5 with (go_at_call 198; refine KC.out.mono ?_; rintro e w1 ⟨rfl, B1⟩; have A1 := Lib.hid (A.out.below B1); have U1 := Lib.hid (U.out.trans (UW.below L0.out B1)); have c91 := A1.out.m.sl 9 (by decide); have c101 := A1.out.m.sl 10 (by decide); have c111 := A1.out.m.sl 11 (by decide); rw [E9.out] at c91; rw [E10.out] at c101; rw [E11.out] at c111; have l1 := A1.out.m.l)
        have NU : Hid (∀ z : Int, WW K s ((w1.alloc (.cells #[.int .i64 7, .int .i64 z, .int .i64 x9, .int .i64 x10, .int .i64 x11, .int .u32 0, .int .i64 0] 31)).drew) ∧ UW K w ((w1.alloc (.cells #[.int .i64 7, .int .i64 z, .int .i64 x9, .int .i64 x10, .int .i64 x11, .int .u32 0, .int .i64 0] 31)).drew)) := fun z =>
          ⟨A1.out.quiet ((Upto.refl (fun _ => False) w1).alloc _).drew, U1.out.trans (UW.quiet l1 ((Upto.refl (fun _ => False) w1).alloc _).drew)⟩
        clear U A HO lo b1 b2 b3 b4 b5 b6 b7 c8 c9 c10 c11 cn l0
        go_region
        all_goals go_wp2_with (go_at_call 175; refine (VB.out _ (NU.out kk).1).mono ?_; rintro e w2 ⟨rfl, A2, U2⟩)
        all_goals go_ret
        all_goals exact ⟨rfl, A2, (NU.out kk).2.trans U2⟩
      · have ef : flK kk = 0 := if_neg h12
        rw [ef] at hR
        have VB := Lib.hid (VA.out 0 (by decide) (by decide))
        rw [hR] at VB
        clear VA hR ef BK
        go_enter Try.func174, Try.ntmps174
        go_upto_region 5 with (go_at_call 198; refine KC.out.mono ?_; rintro e w1 ⟨rfl, B1⟩; have A1 := Lib.hid (A.out.below B1); have U1 := Lib.hid (U.out.trans (UW.below L0.out B1)); have c91 := A1.out.m.sl 9 (by decide); have c101 := A1.out.m.sl 10 (by decide); have c111 := A1.out.m.sl 11 (by decide); rw [E9.out] at c91; rw [E10.out] at c101; rw [E11.out] at c111; have l1 := A1.out.m.l)
        have NU : Hid (∀ z : Int, WW K s ((w1.alloc (.cells #[.int .i64 7, .int .i64 z, .int .i64 x9, .int .i64 x10, .int .i64 x11, .int .u32 0, .int .i64 0] 31)).drew) ∧ UW K w ((w1.alloc (.cells #[.int .i64 7, .int .i64 z, .int .i64 x9, .int .i64 x10, .int .i64 x11, .int .u32 0, .int .i64 0] 31)).drew)) := fun z =>
          ⟨A1.out.quiet ((Upto.refl (fun _ => False) w1).alloc _).drew, U1.out.trans (UW.quiet l1 ((Upto.refl (fun _ => False) w1).alloc _).drew)⟩
        clear U A HO lo b1 b2 b3 b4 b5 b6 b7 c8 c9 c10 c11 cn l0
        go_region
        all_goals go_wp2_with (go_at_call 175; refine (VB.out _ (NU.out 0).1).mono ?_; rintro e w2 ⟨rfl, A2, U2⟩)
        all_goals go_ret
        all_goals exact ⟨rfl, A2, (NU.out 0).2.trans U2⟩
end Go.Proofs.Ytcjcmnnhmajocab.Ot
namespace Go.Proofs.Ytcjcmnnhmajocab.Ot
open Go.RowKit Kt Ic Me Ev
set_option linter.unusedVariables false
set_option linter.unusedSimpArgs false
variable {K : Wc} {s : Wk} {W W' : World}
theorem sq {i b : Nat} {k ow oa ob oc okn on : Int} (a : WM K s W) (h : OB b ⟨k, ow, oa, ob, oc, okn, on⟩ W) (hi : i < K.n) :
    W.cell? ⟨K.h, 1, none⟩ = some (.slice (some ⟨K.tb, 0, none⟩) K.n K.n) ∧ W.cell? ⟨b, 0, none⟩ = some (.int .i64 k) ∧ W.cell? ⟨b, 1, none⟩ = some (.int .i64 ow) ∧ W.cell? ⟨b, 2, none⟩ = some (.int .i64 oa) ∧ W.cell? ⟨b, 3, none⟩ = some (.int .i64 ob) ∧ W.cell? ⟨b, 4, none⟩ = some (.int .i64 oc) ∧ W.cell? ⟨b, 5, none⟩ = some (.int .u32 okn) ∧ W.cell? ⟨b, 6, none⟩ = some (.int .i64 on) ∧ (W.cell? ⟨K.tb, i, none⟩).isSome = true ∧ W.frozen? ⟨K.tb, i, none⟩ = false := by
  obtain ⟨b1, b2, b3, b4, b5, b6, b7⟩ := h.all
  exact ⟨a.c1, b1, b2, b3, b4, b5, b6, b7, by rw [a.to i hi]; rfl, a.zt i⟩
theorem sg {j b : Nat} {k ow oa ob oc okn on : Int} (a : WM K s W) (h : OB b ⟨k, ow, oa, ob, oc, okn, on⟩ W) (hj : j < 12) :
    W.cell? ⟨b, 0, none⟩ = some (.int .i64 k) ∧ W.cell? ⟨b, 1, none⟩ = some (.int .i64 ow) ∧ W.cell? ⟨b, 2, none⟩ = some (.int .i64 oa) ∧ W.cell? ⟨b, 3, none⟩ = some (.int .i64 ob) ∧ W.cell? ⟨b, 4, none⟩ = some (.int .i64 oc) ∧ W.cell? ⟨b, 5, none⟩ = some (.int .u32 okn) ∧ W.cell? ⟨b, 6, none⟩ = some (.int .i64 on) ∧ (W.cell? ⟨K.h, 2 + j, none⟩).isSome = true ∧ W.frozen? ⟨K.h, 2 + j, none⟩ = false := by
  obtain ⟨b1, b2, b3, b4, b5, b6, b7⟩ := h.all
  exact ⟨b1, b2, b3, b4, b5, b6, b7, by rw [a.sl j hj]; rfl, a.z _⟩
theorem OB.setT {b i : Nat} {o : Opr} (h : OB b o W) (hb : b ≠ K.tb) (v : Value) : OB b o (W.setCell ⟨K.tb, i, none⟩ v) := h.upto ((Upto.refl (fun i => i = K.tb) W).setCell (q := ⟨K.tb, i, none⟩) (.inl rfl) v) hb
theorem OB.setH {b i : Nat} {o : Opr} (h : OB b o W) (hb : b ≠ K.h) (v : Value) : OB b o (W.setCell ⟨K.h, i, none⟩ v) := h.upto ((Upto.refl (fun i => i = K.h) W).setCell (q := ⟨K.h, i, none⟩) (.inl rfl) v) hb
theorem OB.drew {b : Nat} {o : Opr} (h : OB b o W) : OB b o W.drew := h.upto (Upto.refl (fun _ => False) W).drew id
theorem WW.drew (a : WW K s W) : WW K s W.drew := a.quiet (Upto.refl (fun _ => False) W).drew
theorem own_drew {b : Nat} (h : ¬ own K W b) : ¬ own K W.drew b := fun e => h (by obtain ⟨v, h1, h2⟩ := e; exact ⟨v, by simpa using h1, h2⟩)
set_option maxRecDepth 100000 in
set_option maxHeartbeats 4000000 in
/-- a number -/
theorem value1_any (o : Opr) (w : World) (a : WW K s w) (hk : o.k = 1) (ho : OkR o) (hn : s.ops.length < 1000000000) :
    Calls Try.prog 175 #[.pointer (some ⟨K.h, 0, none⟩), .agg #[.int .i64 o.k, .int .i64 o.w, .int .i64 o.a, .int .i64 o.b, .int .i64 o.c, .int .u32 o.kn, .int .i64 o.n]] w fun e w' => e = .returned (.int .i64 (s.val o).1) ∧ WW K (s.val o).2 w' ∧ UW K w w' := by
  have hv : s.val o = s.num o := if_pos hk
  rw [hv]
  have NU := Lib.hid (fun w a => number_any (K := K) (s := s) o w a ho (decide_eq_true (.inl hk)) hn)
  generalize s.num o = R at NU ⊢
  obtain ⟨k, ow, oa, ob, oc, okn, on⟩ := o
  dsimp only at hk ⊢
  subst hk
  have a1 := Lib.hid (a.alloc (.cells #[.int .i64 1, .int .i64 ow, .int .i64 oa, .int .i64 ob, .int .i64 oc, .int .u32 okn, .int .i64 on] 31))
  have U := Lib.hid (UW.alloc (K := K) a.m.l (.cells #[.int .i64 1, .int .i64 ow, .int .i64 oa, .int .i64 ob, .int .i64 oc, .int .u32 okn, .int .i64 on] 31))
  clear a ho hv
  go_enter Try.func175, Try.ntmps175
  go_wp2_with (go_at_call 199; refine (NU.out _ a1.out).mono ?_; rintro e w2 ⟨rfl, A2, U2⟩)
  go_ret
  exact ⟨rfl, A2, U.out.trans U2⟩
set_option maxRecDepth 100000 in
set_option maxHeartbeats 4000000 in
/-- what is put as it is -/
theorem step_put (i : Nat) (o : Opr) (w : World) (a : WW K s w) (hi : i < K.n) (hk : 9 ≤ o.k ∧ o.k < 17 ∧ o.k ≠ 12 ∧ o.k ≠ 13) (hn : s.ops.length < 1000000000) :
    Calls Try.prog 121 #[.pointer (some ⟨K.h, 0, none⟩), .int .i64 i, .agg #[.int .i64 o.k, .int .i64 o.w, .int .i64 o.a, .int .i64 o.b, .int .i64 o.c, .int .u32 o.kn, .int .i64 o.n]] w fun e w' => e = .returned (.bool false) ∧ WW K ((s.put o).set i s.nx) w' ∧ UW K w w' := by
  obtain ⟨k, ow, oa, ob, oc, okn, on⟩ := o
  dsimp only at hk ⊢
  have e2 : (k == 2) = false := by simp; omega
  have e3 : (k == 3) = false := by simp; omega
  have e17 : (k == 17) = false := by simp; omega
  have e1 : (k == 1) = false := by simp; omega
  have e4 : (k == 4) = false := by simp; omega
  have e5 : (k == 5) = false := by simp; omega
  have e6 : (k == 6) = false := by simp; omega
  have e7 : (k == 7) = false := by simp; omega
  have e8 : (k == 8) = false := by simp; omega
  have e12 : (k == 12) = false := by simp; omega
  have e13 : (k == 13) = false := by simp; omega
  have CA := Lib.hid (fun (w : World) (a : WW K s w) => putW_any ⟨k, ow, oa, ob, oc, okn, on⟩ w a (decide_eq_false (by show ¬ (k = 1 ∨ (4 ≤ k ∧ k ≤ 8)); omega)) hn)
  generalize s.nx = nx at CA ⊢
  generalize s.put ⟨k, ow, oa, ob, oc, okn, on⟩ = s' at CA ⊢
  have a1 := a.alloc (.cells #[.int .i64 k, .int .i64 ow, .int .i64 oa, .int .i64 ob, .int .i64 oc, .int .u32 okn, .int .i64 on] 31)
  have hO : OB w.heap.size ⟨k, ow, oa, ob, oc, okn, on⟩ (w.alloc (.cells #[.int .i64 k, .int .i64 ow, .int .i64 oa, .int .i64 ob, .int .i64 oc, .int .u32 okn, .int .i64 on] 31)) := OB.new w _ 31
  have U := Lib.hid (UW.alloc (K := K) a.m.l (.cells #[.int .i64 k, .int .i64 ow, .int .i64 oa, .int .i64 ob, .int .i64 oc, .int .u32 okn, .int .i64 on] 31))
  have NW := Lib.hid (own_new (b := w.heap.size) a.m (Nat.le_refl _) ((Upto.refl (fun _ => False) w).alloc (.cells #[.int .i64 k, .int .i64 ow, .int .i64 oa, .int .i64 ob, .int .i64 oc, .int .u32 okn, .int .i64 on] 31)))
  have bt : w.heap.size ≠ K.tb := by have := a.m.l2; omega
  have bh : w.heap.size ≠ K.h := by have := a.m.l; omega
  have LB := Lib.hid a.m.lb
  have b0 := hO.all.1
  have lo := hO.1
  have l0 := a1.m.l
  have HO := Lib.hid hO
  have A := Lib.hid a1
  have hi' : (i : Int) < K.n := by omega
  clear a a1 hO
  clear hn hk
  go_enter Try.func121, Try.ntmps121
  go_upto_region 2 with fail
  generalize w.alloc (.cells #[.int .i64 k, .int .i64 ow, .int .i64 oa, .int .i64 ob, .int .i64 oc, .int .u32 okn, .int .i64 on] 31) = w1 at *
  have Q0 := sq A.out.m HO.out hi
  have Q1 := sq A.out.drew.m HO.out.drew hi
  go_region_held3 (fun W => W.cell? ⟨K.h, 1, none⟩ = some (.slice (some ⟨K.tb, 0, none⟩) K.n K.n) ∧ W.cell? ⟨w.heap.size, 0, none⟩ = some (.int .i64 k) ∧ W.cell? ⟨w.heap.size, 1, none⟩ = some (.int .i64 ow) ∧ W.cell? ⟨w.heap.size, 2, none⟩ = some (.int .i64 oa) ∧ W.cell? ⟨w.heap.size, 3, none⟩ = some (.int .i64 ob) ∧ W.cell? ⟨w.heap.size, 4, none⟩ = some (.int .i64 oc) ∧ W.cell? ⟨w.heap.size, 5, none⟩ = some (.int .u32 okn) ∧ W.cell? ⟨w.heap.size, 6, none⟩ = some (.int .i64 on) ∧ (W.cell? ⟨K.tb, i, none⟩).isSome = true ∧ W.frozen? ⟨K.tb, i, none⟩ = false) (first | exact Q0 | exact Q1 | exact Q2 | exact Q3) ((go_at_call 119; refine (CA.out _ A.out.drew).mono ?_; rintro e w2 ⟨rfl, A2, U2⟩; have O2 := HO.out.drew.uw U2 A.out.drew.m LB.out A.out.lb (own_drew NW.out); have Q2 := sq A2.m O2 hi; have Q3 := sq (A2.setT i nx hi).m (O2.setT bt (.int .i64 nx)) hi; have A3 := Lib.hid (A2.setT i nx hi); have U3 := Lib.hid (U.out.trans ((UW.quiet l0 (Upto.refl (fun _ => False) w1).drew).trans (U2.trans (UW.setT A2.m.l A2.m.ne i (.int .i64 nx))))); have ct := A2.m.to i hi; have zt := A2.m.zt i; have lt := A2.m.l2))
  all_goals go_wp2
  all_goals go_ret
  all_goals exact ⟨rfl, A3.out, U3.out⟩
set_option maxRecDepth 100000 in
set_option maxHeartbeats 4000000 in
/-- flags -/
theorem step_now (i : Nat) (o : Opr) (w : World) (a : WW K s w) (hi : i < K.n) (hk : o.k = 17) (hs : ∀ j, j < 12 → -1 ≤ s.sl j ∧ s.sl j < s.ops.length) (hg : ∀ x ∈ s.ops, OkR x) (hn : s.ops.length < 1000000000) :
    Calls Try.prog 121 #[.pointer (some ⟨K.h, 0, none⟩), .int .i64 i, .agg #[.int .i64 o.k, .int .i64 o.w, .int .i64 o.a, .int .i64 o.b, .int .i64 o.c, .int .u32 o.kn, .int .i64 o.n]] w fun e w' => e = .returned (.bool false) ∧ WW K ((s.flg o).2.set i (s.flg o).1) w' ∧ UW K w w' := by
  obtain ⟨k, ow, oa, ob, oc, okn, on⟩ := o
  dsimp only at hk ⊢
  have CA := Lib.hid (fun (w : World) (a : WW K s w) => flags_any ⟨k, ow, oa, ob, oc, okn, on⟩ w a hk hs hg hn)
  generalize (s.flg ⟨k, ow, oa, ob, oc, okn, on⟩).1 = nx at CA ⊢
  generalize (s.flg ⟨k, ow, oa, ob, oc, okn, on⟩).2 = s' at CA ⊢
  have a1 := a.alloc (.cells #[.int .i64 k, .int .i64 ow, .int .i64 oa, .int .i64 ob, .int .i64 oc, .int .u32 okn, .int .i64 on] 31)
  have hO : OB w.heap.size ⟨k, ow, oa, ob, oc, okn, on⟩ (w.alloc (.cells #[.int .i64 k, .int .i64 ow, .int .i64 oa, .int .i64 ob, .int .i64 oc, .int .u32 okn, .int .i64 on] 31)) := OB.new w _ 31
  have U := Lib.hid (UW.alloc (K := K) a.m.l (.cells #[.int .i64 k, .int .i64 ow, .int .i64 oa, .int .i64 ob, .int .i64 oc, .int .u32 okn, .int .i64 on] 31))
  have NW := Lib.hid (own_new (b := w.heap.size) a.m (Nat.le_refl _) ((Upto.refl (fun _ => False) w).alloc (.cells #[.int .i64 k, .int .i64 ow, .int .i64 oa, .int .i64 ob, .int .i64 oc, .int .u32 okn, .int .i64 on] 31)))
  have bt : w.heap.size ≠ K.tb := by have := a.m.l2; omega
  have bh : w.heap.size ≠ K.h := by have := a.m.l; omega
  have LB := Lib.hid a.m.lb
  have b0 := hO.all.1
  have lo := hO.1
  have l0 := a1.m.l
  have HO := Lib.hid hO
  have A := Lib.hid a1
  have hi' : (i : Int) < K.n := by omega
  clear a a1 hO
  clear hn hs hg
  subst hk
  go_enter Try.func121, Try.ntmps121
  go_upto_region 10 with fail
  generalize w.alloc (.cells #[.int .i64 17, .int .i64 ow, .int .i64 oa, .int .i64 ob, .int .i64 oc, .int .u32 okn, .int .i64 on] 31) = w1 at *
  have Q0 := sq A.out.m HO.out hi
  have Q1 := sq A.out.drew.m HO.out.drew hi
  go_region_held3 (fun W => W.cell? ⟨K.h, 1, none⟩ = some (.slice (some ⟨K.tb, 0, none⟩) K.n K.n) ∧ W.cell? ⟨w.heap.size, 0, none⟩ = some (.int .i64 17) ∧ W.cell? ⟨w.heap.size, 1, none⟩ = some (.int .i64 ow) ∧ W.cell? ⟨w.heap.size, 2, none⟩ = some (.int .i64 oa) ∧ W.cell? ⟨w.heap.size, 3, none⟩ = some (.int .i64 ob) ∧ W.cell? ⟨w.heap.size, 4, none⟩ = some (.int .i64 oc) ∧ W.cell? ⟨w.heap.size, 5, none⟩ = some (.int .u32 okn) ∧ W.cell? ⟨w.heap.size, 6, none⟩ = some (.int .i64 on) ∧ (W.cell? ⟨K.tb, i, none⟩).isSome = true ∧ W.frozen? ⟨K.tb, i, none⟩ = false) (first | exact Q0 | exact Q1 | exact Q2 | exact Q3) ((go_at_call 174; refine (CA.out _ A.out.drew).mono ?_; rintro e w2 ⟨rfl, A2, U2⟩; have O2 := HO.out.drew.uw U2 A.out.drew.m LB.out A.out.lb (own_drew NW.out); have Q2 := sq A2.m O2 hi; have Q3 := sq (A2.setT i nx hi).m (O2.setT bt (.int .i64 nx)) hi; have A3 := Lib.hid (A2.setT i nx hi); have U3 := Lib.hid (U.out.trans ((UW.quiet l0 (Upto.refl (fun _ => False) w1).drew).trans (U2.trans (UW.setT A2.m.l A2.m.ne i (.int .i64 nx))))); have ct := A2.m.to i hi; have zt := A2.m.zt i; have lt := A2.m.l2))
  all_goals go_wp2
  all_goals go_ret
  all_goals exact ⟨rfl, A3.out, U3.out⟩
/-- what a value takes is in its bounds -/
def VOk1 (s : Wk) (o : Opr) : Prop := (o.k = 1 ∧ OkR o) ∨ VOk s o
set_option maxRecDepth 100000 in
set_option maxHeartbeats 4000000 in
/-- a number, or what hangs on what it takes alone -/
theorem step_val (i : Nat) (o : Opr) (w : World) (a : WW K s w) (hi : i < K.n) (hk : VOk1 s o) (hn : s.ops.length < 1000000000) :
    Calls Try.prog 121 #[.pointer (some ⟨K.h, 0, none⟩), .int .i64 i, .agg #[.int .i64 o.k, .int .i64 o.w, .int .i64 o.a, .int .i64 o.b, .int .i64 o.c, .int .u32 o.kn, .int .i64 o.n]] w fun e w' => e = .returned (.bool false) ∧ WW K ((s.val o).2.set i (s.val o).1) w' ∧ UW K w w' := by
  obtain ⟨k, ow, oa, ob, oc, okn, on⟩ := o
  dsimp only at hk ⊢
  have CA : Hid (∀ (w : World), WW K s w → Calls Try.prog 175 #[.pointer (some ⟨K.h, 0, none⟩), .agg #[.int .i64 k, .int .i64 ow, .int .i64 oa, .int .i64 ob, .int .i64 oc, .int .u32 okn, .int .i64 on]] w fun e w' => e = .returned (.int .i64 (s.val ⟨k, ow, oa, ob, oc, okn, on⟩).1) ∧ WW K (s.val ⟨k, ow, oa, ob, oc, okn, on⟩).2 w' ∧ UW K w w') := fun w a => by
    rcases hk with h | h
    · exact value1_any ⟨k, ow, oa, ob, oc, okn, on⟩ w a h.1 h.2 hn
    · exact value_any ⟨k, ow, oa, ob, oc, okn, on⟩ w a h hn
  have hk : k = 1 ∨ k = 4 ∨ k = 5 ∨ k = 6 ∨ k = 7 ∨ k = 8 := by
    rcases hk with h | h
    · exact .inl h.1
    · have : 4 ≤ k ∧ k ≤ 8 := h.k
      omega
  generalize (s.val ⟨k, ow, oa, ob, oc, okn, on⟩).1 = nx at CA ⊢
  generalize (s.val ⟨k, ow, oa, ob, oc, okn, on⟩).2 = s' at CA ⊢
  have a1 := a.alloc (.cells #[.int .i64 k, .int .i64 ow, .int .i64 oa, .int .i64 ob, .int .i64 oc, .int .u32 okn, .int .i64 on] 31)
  have hO : OB w.heap.size ⟨k, ow, oa, ob, oc, okn, on⟩ (w.alloc (.cells #[.int .i64 k, .int .i64 ow, .int .i64 oa, .int .i64 ob, .int .i64 oc, .int .u32 okn, .int .i64 on] 31)) := OB.new w _ 31
  have U := Lib.hid (UW.alloc (K := K) a.m.l (.cells #[.int .i64 k, .int .i64 ow, .int .i64 oa, .int .i64 ob, .int .i64 oc, .int .u32 okn, .int .i64 on] 31))
  have NW := Lib.hid (own_new (b := w.heap.size) a.m (Nat.le_refl _) ((Upto.refl (fun _ => False) w).alloc (.cells #[.int .i64 k, .int .i64 ow, .int .i64 oa, .int .i64 ob, .int .i64 oc, .int .u32 okn, .int .i64 on] 31)))
  have bt : w.heap.size ≠ K.tb := by have := a.m.l2; omega
  have bh : w.heap.size ≠ K.h := by have := a.m.l; omega
  have LB := Lib.hid a.m.lb
  have b0 := hO.all.1
  have lo := hO.1
  have l0 := a1.m.l
  have HO := Lib.hid hO
  have A := Lib.hid a1
  have hi' : (i : Int) < K.n := by omega
  clear a a1 hO
  clear hn
  rcases hk with rfl | rfl | rfl | rfl | rfl | rfl
  · go_enter Try.func121, Try.ntmps121
    go_upto_region 17 with fail
    generalize w.alloc (.cells #[.int .i64 1, .int .i64 ow, .int .i64 oa, .int .i64 ob, .int .i64 oc, .int .u32 okn, .int .i64 on] 31) = w1 at *
    have Q0 := sq A.out.m HO.out hi
    have Q1 := sq A.out.drew.m HO.out.drew hi
    go_region_held3 (fun W => W.cell? ⟨K.h, 1, none⟩ = some (.slice (some ⟨K.tb, 0, none⟩) K.n K.n) ∧ W.cell? ⟨w.heap.size, 0, none⟩ = some (.int .i64 1) ∧ W.cell? ⟨w.heap.size, 1, none⟩ = some (.int .i64 ow) ∧ W.cell? ⟨w.heap.size, 2, none⟩ = some (.int .i64 oa) ∧ W.cell? ⟨w.heap.size, 3, none⟩ = some (.int .i64 ob) ∧ W.cell? ⟨w.heap.size, 4, none⟩ = some (.int .i64 oc) ∧ W.cell? ⟨w.heap.size, 5, none⟩ = some (.int .u32 okn) ∧ W.cell? ⟨w.heap.size, 6, none⟩ = some (.int .i64 on) ∧ (W.cell? ⟨K.tb, i, none⟩).isSome = true ∧ W.frozen? ⟨K.tb, i, none⟩ = false) (first | exact Q0 | exact Q1 | exact Q2 | exact Q3) ((go_at_call 175; refine (CA.out _ A.out.drew).mono ?_; rintro e w2 ⟨rfl, A2, U2⟩; have O2 := HO.out.drew.uw U2 A.out.drew.m LB.out A.out.lb (own_drew NW.out); have Q2 := sq A2.m O2 hi; have Q3 := sq (A2.setT i nx hi).m (O2.setT bt (.int .i64 nx)) hi; have A3 := Lib.hid (A2.setT i nx hi); have U3 := Lib.hid (U.out.trans ((UW.quiet l0 (Upto.refl (fun _ => False) w1).drew).trans (U2.trans (UW.setT A2.m.l A2.m.ne i (.int .i64 nx))))); have ct := A2.m.to i hi; have zt := A2.m.zt i; have lt := A2.m.l2))
    all_goals go_wp2
    all_goals go_ret
    all_goals exact ⟨rfl, A3.out, U3.out⟩
  · go_enter Try.func121, Try.ntmps121
    go_upto_region 17 with fail
    generalize w.alloc (.cells #[.int .i64 4, .int .i64 ow, .int .i64 oa, .int .i64 ob, .int .i64 oc, .int .u32 okn, .int .i64 on] 31) = w1 at *
    have Q0 := sq A.out.m HO.out hi
    have Q1 := sq A.out.drew.m HO.out.drew hi
    go_region_held3 (fun W => W.cell? ⟨K.h, 1, none⟩ = some (.slice (some ⟨K.tb, 0, none⟩) K.n K.n) ∧ W.cell? ⟨w.heap.size, 0, none⟩ = some (.int .i64 4) ∧ W.cell? ⟨w.heap.size, 1, none⟩ = some (.int .i64 ow) ∧ W.cell? ⟨w.heap.size, 2, none⟩ = some (.int .i64 oa) ∧ W.cell? ⟨w.heap.size, 3, none⟩ = some (.int .i64 ob) ∧ W.cell? ⟨w.heap.size, 4, none⟩ = some (.int .i64 oc) ∧ W.cell? ⟨w.heap.size, 5, none⟩ = some (.int .u32 okn) ∧ W.cell? ⟨w.heap.size, 6, none⟩ = some (.int .i64 on) ∧ (W.cell? ⟨K.tb, i, none⟩).isSome = true ∧ W.frozen? ⟨K.tb, i, none⟩ = false) (first | exact Q0 | exact Q1 | exact Q2 | exact Q3) ((go_at_call 175; refine (CA.out _ A.out.drew).mono ?_; rintro e w2 ⟨rfl, A2, U2⟩; have O2 := HO.out.drew.uw U2 A.out.drew.m LB.out A.out.lb (own_drew NW.out); have Q2 := sq A2.m O2 hi; have Q3 := sq (A2.setT i nx hi).m (O2.setT bt (.int .i64 nx)) hi; have A3 := Lib.hid (A2.setT i nx hi); have U3 := Lib.hid (U.out.trans ((UW.quiet l0 (Upto.refl (fun _ => False) w1).drew).trans (U2.trans (UW.setT A2.m.l A2.m.ne i (.int .i64 nx))))); have ct := A2.m.to i hi; have zt := A2.m.zt i; have lt := A2.m.l2))
    all_goals go_wp2
    all_goals go_ret
    all_goals exact ⟨rfl, A3.out, U3.out⟩
  · go_enter Try.func121, Try.ntmps121
    go_upto_region 17 with fail
    generalize w.alloc (.cells #[.int .i64 5, .int .i64 ow, .int .i64 oa, .int .i64 ob, .int .i64 oc, .int .u32 okn, .int .i64 on] 31) = w1 at *
    have Q0 := sq A.out.m HO.out hi
    have Q1 := sq A.out.drew.m HO.out.drew hi
    go_region_held3 (fun W => W.cell? ⟨K.h, 1, none⟩ = some (.slice (some ⟨K.tb, 0, none⟩) K.n K.n) ∧ W.cell? ⟨w.heap.size, 0, none⟩ = some (.int .i64 5) ∧ W.cell? ⟨w.heap.size, 1, none⟩ = some (.int .i64 ow) ∧ W.cell? ⟨w.heap.size, 2, none⟩ = some (.int .i64 oa) ∧ W.cell? ⟨w.heap.size, 3, none⟩ = some (.int .i64 ob) ∧ W.cell? ⟨w.heap.size, 4, none⟩ = some (.int .i64 oc) ∧ W.cell? ⟨w.heap.size, 5, none⟩ = some (.int .u32 okn) ∧ W.cell? ⟨w.heap.size, 6, none⟩ = some (.int .i64 on) ∧ (W.cell? ⟨K.tb, i, none⟩).isSome = true ∧ W.frozen? ⟨K.tb, i, none⟩ = false) (first | exact Q0 | exact Q1 | exact Q2 | exact Q3) ((go_at_call 175; refine (CA.out _ A.out.drew).mono ?_; rintro e w2 ⟨rfl, A2, U2⟩; have O2 := HO.out.drew.uw U2 A.out.drew.m LB.out A.out.lb (own_drew NW.out); have Q2 := sq A2.m O2 hi; have Q3 := sq (A2.setT i nx hi).m (O2.setT bt (.int .i64 nx)) hi; have A3 := Lib.hid (A2.setT i nx hi); have U3 := Lib.hid (U.out.trans ((UW.quiet l0 (Upto.refl (fun _ => False) w1).drew).trans (U2.trans (UW.setT A2.m.l A2.m.ne i (.int .i64 nx))))); have ct := A2.m.to i hi; have zt := A2.m.zt i; have lt := A2.m.l2))
    all_goals go_wp2
    all_goals go_ret
    all_goals exact ⟨rfl, A3.out, U3.out⟩
  · go_enter Try.func121, Try.ntmps121
    go_upto_region 17 with fail
    generalize w.alloc (.cells #[.int .i64 6, .int .i64 ow, .int .i64 oa, .int .i64 ob, .int .i64 oc, .int .u32 okn, .int .i64 on] 31) = w1 at *
    have Q0 := sq A.out.m HO.out hi
    have Q1 := sq A.out.drew.m HO.out.drew hi
    go_region_held3 (fun W => W.cell? ⟨K.h, 1, none⟩ = some (.slice (some ⟨K.tb, 0, none⟩) K.n K.n) ∧ W.cell? ⟨w.heap.size, 0, none⟩ = some (.int .i64 6) ∧ W.cell? ⟨w.heap.size, 1, none⟩ = some (.int .i64 ow) ∧ W.cell? ⟨w.heap.size, 2, none⟩ = some (.int .i64 oa) ∧ W.cell? ⟨w.heap.size, 3, none⟩ = some (.int .i64 ob) ∧ W.cell? ⟨w.heap.size, 4, none⟩ = some (.int .i64 oc) ∧ W.cell? ⟨w.heap.size, 5, none⟩ = some (.int .u32 okn) ∧ W.cell? ⟨w.heap.size, 6, none⟩ = some (.int .i64 on) ∧ (W.cell? ⟨K.tb, i, none⟩).isSome = true ∧ W.frozen? ⟨K.tb, i, none⟩ = false) (first | exact Q0 | exact Q1 | exact Q2 | exact Q3) ((go_at_call 175; refine (CA.out _ A.out.drew).mono ?_; rintro e w2 ⟨rfl, A2, U2⟩; have O2 := HO.out.drew.uw U2 A.out.drew.m LB.out A.out.lb (own_drew NW.out); have Q2 := sq A2.m O2 hi; have Q3 := sq (A2.setT i nx hi).m (O2.setT bt (.int .i64 nx)) hi; have A3 := Lib.hid (A2.setT i nx hi); have U3 := Lib.hid (U.out.trans ((UW.quiet l0 (Upto.refl (fun _ => False) w1).drew).trans (U2.trans (UW.setT A2.m.l A2.m.ne i (.int .i64 nx))))); have ct := A2.m.to i hi; have zt := A2.m.zt i; have lt := A2.m.l2))
    all_goals go_wp2
    all_goals go_ret
    all_goals exact ⟨rfl, A3.out, U3.out⟩
  · go_enter Try.func121, Try.ntmps121
    go_upto_region 17 with fail
    generalize w.alloc (.cells #[.int .i64 7, .int .i64 ow, .int .i64 oa, .int .i64 ob, .int .i64 oc, .int .u32 okn, .int .i64 on] 31) = w1 at *
    have Q0 := sq A.out.m HO.out hi
    have Q1 := sq A.out.drew.m HO.out.drew hi
    go_region_held3 (fun W => W.cell? ⟨K.h, 1, none⟩ = some (.slice (some ⟨K.tb, 0, none⟩) K.n K.n) ∧ W.cell? ⟨w.heap.size, 0, none⟩ = some (.int .i64 7) ∧ W.cell? ⟨w.heap.size, 1, none⟩ = some (.int .i64 ow) ∧ W.cell? ⟨w.heap.size, 2, none⟩ = some (.int .i64 oa) ∧ W.cell? ⟨w.heap.size, 3, none⟩ = some (.int .i64 ob) ∧ W.cell? ⟨w.heap.size, 4, none⟩ = some (.int .i64 oc) ∧ W.cell? ⟨w.heap.size, 5, none⟩ = some (.int .u32 okn) ∧ W.cell? ⟨w.heap.size, 6, none⟩ = some (.int .i64 on) ∧ (W.cell? ⟨K.tb, i, none⟩).isSome = true ∧ W.frozen? ⟨K.tb, i, none⟩ = false) (first | exact Q0 | exact Q1 | exact Q2 | exact Q3) ((go_at_call 175; refine (CA.out _ A.out.drew).mono ?_; rintro e w2 ⟨rfl, A2, U2⟩; have O2 := HO.out.drew.uw U2 A.out.drew.m LB.out A.out.lb (own_drew NW.out); have Q2 := sq A2.m O2 hi; have Q3 := sq (A2.setT i nx hi).m (O2.setT bt (.int .i64 nx)) hi; have A3 := Lib.hid (A2.setT i nx hi); have U3 := Lib.hid (U.out.trans ((UW.quiet l0 (Upto.refl (fun _ => False) w1).drew).trans (U2.trans (UW.setT A2.m.l A2.m.ne i (.int .i64 nx))))); have ct := A2.m.to i hi; have zt := A2.m.zt i; have lt := A2.m.l2))
    all_goals go_wp2
    all_goals go_ret
    all_goals exact ⟨rfl, A3.out, U3.out⟩
  · go_enter Try.func121, Try.ntmps121
    go_upto_region 17 with fail
    generalize w.alloc (.cells #[.int .i64 8, .int .i64 ow, .int .i64 oa, .int .i64 ob, .int .i64 oc, .int .u32 okn, .int .i64 on] 31) = w1 at *
    have Q0 := sq A.out.m HO.out hi
    have Q1 := sq A.out.drew.m HO.out.drew hi
    go_region_held3 (fun W => W.cell? ⟨K.h, 1, none⟩ = some (.slice (some ⟨K.tb, 0, none⟩) K.n K.n) ∧ W.cell? ⟨w.heap.size, 0, none⟩ = some (.int .i64 8) ∧ W.cell? ⟨w.heap.size, 1, none⟩ = some (.int .i64 ow) ∧ W.cell? ⟨w.heap.size, 2, none⟩ = some (.int .i64 oa) ∧ W.cell? ⟨w.heap.size, 3, none⟩ = some (.int .i64 ob) ∧ W.cell? ⟨w.heap.size, 4, none⟩ = some (.int .i64 oc) ∧ W.cell? ⟨w.heap.size, 5, none⟩ = some (.int .u32 okn) ∧ W.cell? ⟨w.heap.size, 6, none⟩ = some (.int .i64 on) ∧ (W.cell? ⟨K.tb, i, none⟩).isSome = true ∧ W.frozen? ⟨K.tb, i, none⟩ = false) (first | exact Q0 | exact Q1 | exact Q2 | exact Q3) ((go_at_call 175; refine (CA.out _ A.out.drew).mono ?_; rintro e w2 ⟨rfl, A2, U2⟩; have O2 := HO.out.drew.uw U2 A.out.drew.m LB.out A.out.lb (own_drew NW.out); have Q2 := sq A2.m O2 hi; have Q3 := sq (A2.setT i nx hi).m (O2.setT bt (.int .i64 nx)) hi; have A3 := Lib.hid (A2.setT i nx hi); have U3 := Lib.hid (U.out.trans ((UW.quiet l0 (Upto.refl (fun _ => False) w1).drew).trans (U2.trans (UW.setT A2.m.l A2.m.ne i (.int .i64 nx))))); have ct := A2.m.to i hi; have zt := A2.m.zt i; have lt := A2.m.l2))
    all_goals go_wp2
    all_goals go_ret
    all_goals exact ⟨rfl, A3.out, U3.out⟩
set_option maxRecDepth 100000 in
set_option maxHeartbeats 4000000 in
/-- a slot is asked -/
theorem step_get (i : Nat) (o : Opr) (w : World) (a : WW K s w) (hi : i < K.n) (j : Nat) (hw : o.w = j) (hj : j < 12) (hk : o.k = 2) (hn : s.ops.length < 1000000000) :
    Calls Try.prog 121 #[.pointer (some ⟨K.h, 0, none⟩), .int .i64 i, .agg #[.int .i64 o.k, .int .i64 o.w, .int .i64 o.a, .int .i64 o.b, .int .i64 o.c, .int .u32 o.kn, .int .i64 o.n]] w fun e w' => e = .returned (.bool false) ∧ WW K (s.got i o) w' ∧ UW K w w' := by
  obtain ⟨k, ow, oa, ob, oc, okn, on⟩ := o
  dsimp only at hk ⊢
  dsimp only at hw
  subst hw
  have CA := Lib.hid (fun (w : World) (a : WW K s w) => putW_any ⟨k, j, oa, ob, oc, okn, on⟩ w a (decide_eq_false (by show ¬ (k = 1 ∨ (4 ≤ k ∧ k ≤ 8)); omega)) hn)
  have HR : Hid (s.got i ⟨k, j, oa, ob, oc, okn, on⟩ = if s.sl j < 0 then ((s.put ⟨k, j, oa, ob, oc, okn, on⟩).st j s.nx).set i s.nx else s.set i (s.sl j)) := by
    show (if s.sl (Int.toNat j) < 0 then ((s.put _).st (Int.toNat j) s.nx).set i s.nx else s.set i (s.sl (Int.toNat j))) = _
    rw [Int.toNat_natCast]
  generalize s.got i ⟨k, j, oa, ob, oc, okn, on⟩ = S' at HR ⊢
  generalize s.nx = nx at CA HR
  generalize s.put ⟨k, j, oa, ob, oc, okn, on⟩ = s' at CA HR
  have a1 := a.alloc (.cells #[.int .i64 k, .int .i64 j, .int .i64 oa, .int .i64 ob, .int .i64 oc, .int .u32 okn, .int .i64 on] 31)
  have hO : OB w.heap.size ⟨k, j, oa, ob, oc, okn, on⟩ (w.alloc (.cells #[.int .i64 k, .int .i64 j, .int .i64 oa, .int .i64 ob, .int .i64 oc, .int .u32 okn, .int .i64 on] 31)) := OB.new w _ 31
  have U := Lib.hid (UW.alloc (K := K) a.m.l (.cells #[.int .i64 k, .int .i64 j, .int .i64 oa, .int .i64 ob, .int .i64 oc, .int .u32 okn, .int .i64 on] 31))
  have NW := Lib.hid (own_new (b := w.heap.size) a.m (Nat.le_refl _) ((Upto.refl (fun _ => False) w).alloc (.cells #[.int .i64 k, .int .i64 j, .int .i64 oa, .int .i64 ob, .int .i64 oc, .int .u32 okn, .int .i64 on] 31)))
  have bt : w.heap.size ≠ K.tb := by have := a.m.l2; omega
  have bh : w.heap.size ≠ K.h := by have := a.m.l; omega
  have LB := Lib.hid a.m.lb
  have b0 := hO.all.1
  have lo := hO.1
  have l0 := a1.m.l
  have HO := Lib.hid hO
  have A := Lib.hid a1
  have hi' : (i : Int) < K.n := by omega
  clear a a1 hO
  have cs := A.out.m.sl j hj
  have hj' : (j : Int) < 12 := by omega
  obtain ⟨x, hx⟩ : ∃ x, s.sl j = x := ⟨_, rfl⟩
  rw [hx] at cs HR
  have HX := Lib.hid hx
  clear hn hx
  subst hk
  have b1 := HO.out.all.2.1
  by_cases hx0 : x < 0
  · rw [if_pos hx0] at HR
    go_enter Try.func121, Try.ntmps121
    go_upto_region 4 with fail
    go_quiet (fail)
    go_upto_region 5 with fail
    have A1 := Lib.hid (A.out.quiet (dn_up _ nq))
    have U1 := Lib.hid (U.out.trans (UW.quiet l0 (dn_up _ nq)))
    have O1 := Lib.hid (HO.out.upto (dn_up _ nq) id)
    have N1 : Hid (¬ own K ((w.alloc (.cells #[.int .i64 2, .int .i64 j, .int .i64 oa, .int .i64 ob, .int .i64 oc, .int .u32 okn, .int .i64 on] 31)).drewN nq) w.heap.size) := fun h => NW.out (by obtain ⟨v, h1, h2⟩ := h; exact ⟨v, h1, h2⟩)
    clear b0 b1 lo cs A U HO NW l0
    generalize (w.alloc (.cells #[.int .i64 2, .int .i64 j, .int .i64 oa, .int .i64 ob, .int .i64 oc, .int .u32 okn, .int .i64 on] 31)).drewN nq = w1 at *
    have l0 := A1.out.m.l
    have Q0 := sg A1.out.m O1.out hj
    have Q1 := sg A1.out.drew.m O1.out.drew hj
    go_region_held3 (fun W => W.cell? ⟨w.heap.size, 0, none⟩ = some (.int .i64 2) ∧ W.cell? ⟨w.heap.size, 1, none⟩ = some (.int .i64 j) ∧ W.cell? ⟨w.heap.size, 2, none⟩ = some (.int .i64 oa) ∧ W.cell? ⟨w.heap.size, 3, none⟩ = some (.int .i64 ob) ∧ W.cell? ⟨w.heap.size, 4, none⟩ = some (.int .i64 oc) ∧ W.cell? ⟨w.heap.size, 5, none⟩ = some (.int .u32 okn) ∧ W.cell? ⟨w.heap.size, 6, none⟩ = some (.int .i64 on) ∧ (W.cell? ⟨K.h, 2 + j, none⟩).isSome = true ∧ W.frozen? ⟨K.h, 2 + j, none⟩ = false) (first | exact Q0 | exact Q1 | exact Q2 | exact Q3) ((go_at_call 119; refine (CA.out _ A1.out.drew).mono ?_; rintro e w2 ⟨rfl, A2, U2⟩; have O2 := O1.out.drew.uw U2 A1.out.drew.m LB.out A1.out.lb (own_drew N1.out); have Q2 := sg A2.m O2 hj; have Q3 := sg (A2.setS j nx hj).m (O2.setH bh (.int .i64 nx)) hj; have A3 := Lib.hid (A2.setS j nx hj); have O3 := Lib.hid (O2.setH (i := 2 + j) bh (.int .i64 nx)); have U3 := Lib.hid (U1.out.trans ((UW.quiet l0 (Upto.refl (fun _ => False) w1).drew).trans (U2.trans (UW.setH (2 + j) (by omega) (.int .i64 nx))))); have ct := A2.m.sl j hj; have zt := A2.m.z (2 + j); have lt := A2.m.l))
    all_goals
      clear Q0 Q1 Q2 Q3 ct zt lt O1 A1 U1 l0 A2 O2 U2
      generalize w2.setCell ⟨K.h, 2 + j, none⟩ (.int .i64 nx) = w3 at *
      have l3 := A3.out.m.l
      have lt3 := A3.out.m.l2
      have c3 := A3.out.m.c1
      have s3 : w3.cell? ⟨K.h, 2 + j, none⟩ = some (.int .i64 nx) := (A3.out.m.sl j hj).trans (by show some (Value.int .i64 (upd s'.sl j nx j)) = _; rw [show upd s'.sl j nx j = nx from if_pos rfl])
      have t3 := A3.out.m.to i hi
      have z3 := A3.out.m.zt i
      have lo3 := O3.out.1
      have b3 := O3.out.all.2.1
      have A4 := Lib.hid ((A3.out.setT i nx hi).quiet ((Upto.refl (fun _ => False) _).drew))
      have U4 := Lib.hid (U3.out.trans ((UW.setT l3 A3.out.m.ne i (.int .i64 nx)).trans (UW.quiet (by simpa using l3) ((Upto.refl (fun _ => False) (w3.setCell ⟨K.tb, i, none⟩ (.int .i64 nx))).drew))))
      go_upto_region 6 with fail
      go_region
    all_goals go_wp2
    all_goals go_ret
    all_goals exact ⟨rfl, by rw [HR.out]; exact A4.out, U4.out⟩
  · rw [if_neg hx0] at HR
    go_enter Try.func121, Try.ntmps121
    go_upto_region 4 with fail
    go_quiet (fail)
    go_upto_region 6 with fail
    have A1 := Lib.hid (A.out.quiet (dn_up _ nq))
    have U1 := Lib.hid (U.out.trans (UW.quiet l0 (dn_up _ nq)))
    have O1 := Lib.hid (HO.out.upto (dn_up _ nq) id)
    clear b0 b1 lo cs A U HO NW l0
    generalize (w.alloc (.cells #[.int .i64 2, .int .i64 j, .int .i64 oa, .int .i64 ob, .int .i64 oc, .int .u32 okn, .int .i64 on] 31)).drewN nq = w3 at *
    have l3 := A1.out.m.l
    have lt3 := A1.out.m.l2
    have c3 := A1.out.m.c1
    have s3 : w3.cell? ⟨K.h, 2 + j, none⟩ = some (.int .i64 x) := (A1.out.m.sl j hj).trans (by rw [HX.out])
    have t3 := A1.out.m.to i hi
    have z3 := A1.out.m.zt i
    have lo3 := O1.out.1
    have b3 := O1.out.all.2.1
    have A4 := Lib.hid ((A1.out.setT i x hi).quiet ((Upto.refl (fun _ => False) _).drew))
    have U4 := Lib.hid (U1.out.trans ((UW.setT l3 A1.out.m.ne i (.int .i64 x)).trans (UW.quiet (by simpa using l3) ((Upto.refl (fun _ => False) (w3.setCell ⟨K.tb, i, none⟩ (.int .i64 x))).drew))))
    go_region
    all_goals go_wp2
    all_goals go_ret
    all_goals exact ⟨rfl, by rw [HR.out]; exact A4.out, U4.out⟩
set_option maxRecDepth 100000 in
set_option maxHeartbeats 4000000 in
/-- a slot is put -/
theorem step_slot (i : Nat) (o : Opr) (w : World) (a : WW K s w) (hi : i < K.n) (j : Nat) (hw : o.w = j) (hj : j < 12) (hk : o.k = 3) (hn : s.ops.length < 1000000000) :
    Calls Try.prog 121 #[.pointer (some ⟨K.h, 0, none⟩), .int .i64 i, .agg #[.int .i64 o.k, .int .i64 o.w, .int .i64 o.a, .int .i64 o.b, .int .i64 o.c, .int .u32 o.kn, .int .i64 o.n]] w fun e w' => e = .returned (.bool false) ∧ WW K (s.slt o) w' ∧ UW K w w' := by
  obtain ⟨k, ow, oa, ob, oc, okn, on⟩ := o
  dsimp only at hk ⊢
  have CA := Lib.hid (fun (w : World) (a : WW K s w) => slot_any ⟨k, ow, oa, ob, oc, okn, on⟩ j hw hj w a (decide_eq_false (by show ¬ (k = 1 ∨ (4 ≤ k ∧ k ≤ 8)); omega)) hn)
  generalize s.slt ⟨k, ow, oa, ob, oc, okn, on⟩ = s' at CA ⊢
  have a1 := a.alloc (.cells #[.int .i64 k, .int .i64 ow, .int .i64 oa, .int .i64 ob, .int .i64 oc, .int .u32 okn, .int .i64 on] 31)
  have hO : OB w.heap.size ⟨k, ow, oa, ob, oc, okn, on⟩ (w.alloc (.cells #[.int .i64 k, .int .i64 ow, .int .i64 oa, .int .i64 ob, .int .i64 oc, .int .u32 okn, .int .i64 on] 31)) := OB.new w _ 31
  have U := Lib.hid (UW.alloc (K := K) a.m.l (.cells #[.int .i64 k, .int .i64 ow, .int .i64 oa, .int .i64 ob, .int .i64 oc, .int .u32 okn, .int .i64 on] 31))
  have NW := Lib.hid (own_new (b := w.heap.size) a.m (Nat.le_refl _) ((Upto.refl (fun _ => False) w).alloc (.cells #[.int .i64 k, .int .i64 ow, .int .i64 oa, .int .i64 ob, .int .i64 oc, .int .u32 okn, .int .i64 on] 31)))
  have bt : w.heap.size ≠ K.tb := by have := a.m.l2; omega
  have bh : w.heap.size ≠ K.h := by have := a.m.l; omega
  have LB := Lib.hid a.m.lb
  have b0 := hO.all.1
  have lo := hO.1
  have l0 := a1.m.l
  have HO := Lib.hid hO
  have A := Lib.hid a1
  have hi' : (i : Int) < K.n := by omega
  clear a a1 hO
  clear hn
  subst hk
  go_enter Try.func121, Try.ntmps121
  go_wp2_with (go_at_call 173; refine (CA.out _ A.out).mono ?_; rintro e w2 ⟨rfl, A2, U2⟩)
  go_ret
  exact ⟨rfl, A2, U.out.trans U2⟩
set_option maxRecDepth 100000 in
set_option maxHeartbeats 4000000 in
/-- the block is left, perhaps -/
theorem step_per (i : Nat) (o : Opr) (w : World) (a : WW K s w) (hi : i < K.n) (hk : o.k = 12 ∨ o.k = 13) (h0 : 0 ≤ o.a) (h1 : o.a < s.ops.length) (hn : s.ops.length < 1000000000) :
    Calls Try.prog 121 #[.pointer (some ⟨K.h, 0, none⟩), .int .i64 i, .agg #[.int .i64 o.k, .int .i64 o.w, .int .i64 o.a, .int .i64 o.b, .int .i64 o.c, .int .u32 o.kn, .int .i64 o.n]] w fun e w' => e = .returned (.bool (s.per o).1) ∧ WW K (s.per o).2 w' ∧ UW K w w' := by
  obtain ⟨k, ow, oa, ob, oc, okn, on⟩ := o
  dsimp only at hk ⊢
  have CA := Lib.hid (fun (w : World) (a : WW K s w) => perhaps_any ⟨k, ow, oa, ob, oc, okn, on⟩ w a hk h0 h1 hn)
  generalize s.per ⟨k, ow, oa, ob, oc, okn, on⟩ = R at CA ⊢
  have a1 := a.alloc (.cells #[.int .i64 k, .int .i64 ow, .int .i64 oa, .int .i64 ob, .int .i64 oc, .int .u32 okn, .int .i64 on] 31)
  have hO : OB w.heap.size ⟨k, ow, oa, ob, oc, okn, on⟩ (w.alloc (.cells #[.int .i64 k, .int .i64 ow, .int .i64 oa, .int .i64 ob, .int .i64 oc, .int .u32 okn, .int .i64 on] 31)) := OB.new w _ 31
  have U := Lib.hid (UW.alloc (K := K) a.m.l (.cells #[.int .i64 k, .int .i64 ow, .int .i64 oa, .int .i64 ob, .int .i64 oc, .int .u32 okn, .int .i64 on] 31))
  have NW := Lib.hid (own_new (b := w.heap.size) a.m (Nat.le_refl _) ((Upto.refl (fun _ => False) w).alloc (.cells #[.int .i64 k, .int .i64 ow, .int .i64 oa, .int .i64 ob, .int .i64 oc, .int .u32 okn, .int .i64 on] 31)))
  have bt : w.heap.size ≠ K.tb := by have := a.m.l2; omega
  have bh : w.heap.size ≠ K.h := by have := a.m.l; omega
  have LB := Lib.hid a.m.lb
  have b0 := hO.all.1
  have lo := hO.1
  have l0 := a1.m.l
  have HO := Lib.hid hO
  have A := Lib.hid a1
  have hi' : (i : Int) < K.n := by omega
  clear a a1 hO
  clear hn h0 h1
  rcases hk with rfl | rfl
  · go_enter Try.func121, Try.ntmps121
    go_wp2_with (go_at_call 176; refine (CA.out _ A.out).mono ?_; rintro e w2 ⟨rfl, A2, U2⟩)
    go_ret
    exact ⟨rfl, A2, U.out.trans U2⟩
  · go_enter Try.func121, Try.ntmps121
    go_wp2_with (go_at_call 176; refine (CA.out _ A.out).mono ?_; rintro e w2 ⟨rfl, A2, U2⟩)
    go_ret
    exact ⟨rfl, A2, U.out.trans U2⟩
/-- an operation is in its bounds -/
structure SOk (s : Wk) (o : Opr) : Prop where
  r : OkR o
  k : 1 ≤ o.k ∧ o.k ≤ 17
  w : (o.k = 2 ∨ o.k = 3 → 0 ≤ o.w ∧ o.w < 12) ∧ (o.k = 4 → 0 ≤ o.w ∧ o.w < 16) ∧ (o.k = 5 → 0 ≤ o.w ∧ o.w < 7) ∧ (o.k = 8 → 0 ≤ o.w ∧ o.w < 16)
  a : tA o.k = true → 0 ≤ o.a ∧ o.a < s.ops.length
  b : tB o.k = true → 0 ≤ o.b ∧ o.b < s.ops.length
  c : tC o.k = true → 0 ≤ o.c ∧ o.c < s.ops.length
/-- what is there is in its bounds -/
structure SIn (s : Wk) : Prop where
  g : ∀ x ∈ s.ops, OkR x
  sl : ∀ j, j < 12 → -1 ≤ s.sl j ∧ s.sl j < s.ops.length
  n : s.ops.length < 1000000000
theorem step_any (i : Nat) (o : Opr) (w : World) (a : WW K s w) (hi : i < K.n) (ho : SOk s o) (hs : SIn s) :
    Calls Try.prog 121 #[.pointer (some ⟨K.h, 0, none⟩), .int .i64 i, .agg #[.int .i64 o.k, .int .i64 o.w, .int .i64 o.a, .int .i64 o.b, .int .i64 o.c, .int .u32 o.kn, .int .i64 o.n]] w fun e w' => e = .returned (.bool (s.step i o).1) ∧ WW K (s.step i o).2 w' ∧ UW K w w' := by
  unfold Wk.step
  by_cases h2 : o.k = 2
  · rw [if_pos h2]
    obtain ⟨j, hj⟩ := Int.eq_ofNat_of_zero_le (ho.w.1 (.inl h2)).1
    exact step_get i o w a hi j hj (by have := (ho.w.1 (.inl h2)).2; omega) h2 hs.n
  rw [if_neg h2]
  by_cases h3 : o.k = 3
  · rw [if_pos h3]
    obtain ⟨j, hj⟩ := Int.eq_ofNat_of_zero_le (ho.w.1 (.inr h3)).1
    exact step_slot i o w a hi j hj (by have := (ho.w.1 (.inr h3)).2; omega) h3 hs.n
  rw [if_neg h3]
  by_cases h17 : o.k = 17
  · rw [if_pos h17]
    exact step_now i o w a hi h17 hs.sl hs.g hs.n
  rw [if_neg h17]
  by_cases hp : pur o.k = true
  · rw [if_pos hp]
    have hp' : o.k = 1 ∨ (4 ≤ o.k ∧ o.k ≤ 8) := of_decide_eq_true hp
    refine step_val i o w a hi ?_ hs.n
    rcases hp' with h | h
    · exact .inl ⟨h, ho.r⟩
    · exact .inr ⟨ho.r, h, ho.w.2, ho.a (decide_eq_true (by omega)), ho.b, ho.c, hs.g⟩
  rw [if_neg hp]
  have hp' : ¬ (o.k = 1 ∨ (4 ≤ o.k ∧ o.k ≤ 8)) := fun h => hp (decide_eq_true h)
  by_cases h12 : o.k = 12 ∨ o.k = 13
  · rw [if_pos h12]
    have ha := ho.a (decide_eq_true (by omega))
    exact step_per i o w a hi h12 ha.1 ha.2 hs.n
  rw [if_neg h12]
  have := ho.k
  exact step_put i o w a hi (by omega) hs.n
end Go.Proofs.Ytcjcmnnhmajocab.Ot
