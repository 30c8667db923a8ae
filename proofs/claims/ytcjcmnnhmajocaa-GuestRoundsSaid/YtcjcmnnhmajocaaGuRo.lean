/- crossgrainlaw1.GuestRounds: the walk. -/
import Derived.Test.YtcjcmnnhmajocaaGuU
namespace Go.Proofs.Ytcjcmnnhmajocaa.Gu
open Go.RowKit Kt
set_option linter.unusedVariables false
set_option linter.unusedSimpArgs false
theorem lea_bs {w : World} {x : Obj} : Bs [106, 23, 252] (some ⟨w.heap.size + 1, 0, none⟩) 3 ((w.alloc x).alloc (.cells #[.int .u8 106, .int .u8 23, .int .u8 252] 5)) := by
  have h := heap_alloc_new (w.alloc x) (.cells #[.int .u8 106, .int .u8 23, .int .u8 252] 5)
  simp only [World.size_alloc] at h
  refine ⟨Nat.le_refl _, by unfold maxLen; omega, fun _ => ⟨w.heap.size + 1, 0, rfl, lt_of_block h, fun j hj => ?_⟩⟩
  rw [Nat.zero_add, (rowcells h).1]
  match j, hj with
  | 0, _ => rfl
  | 1, _ => rfl
  | 2, _ => rfl
  | j + 3, hj => exact absurd hj (by simp)
theorem lea_rg : Rg [106, 23, 252] := Rg.app (Rg.one (by decide) (by decide)) (Rg.app (Rg.one (by decide) (by decide)) (Rg.one (by decide) (by decide)))
/-- behind the first two readings -/
theorem gr_start {w w1 w2 : World} {xc lc yc : Array Value} {tl : TypeId} (hb1 : Below ((w.alloc (.cells xc 57)).alloc (.cells lc tl)).heap.size ((w.alloc (.cells xc 57)).alloc (.cells lc tl)) w1) (hb2 : Below (w1.alloc (.cells yc 57)).heap.size (w1.alloc (.cells yc 57)) w2) :
    w2.heap[w.heap.size]? = some (.cells xc 57 (0, 0)) ∧ w2.heap[w1.heap.size]? = some (.cells yc 57 (0, 0)) ∧ w.heap.size < w1.heap.size ∧ w1.heap.size < w2.heap.size ∧ Below w.heap.size w w2 := by
  have s1 := hb1.size
  have s2 := hb2.size
  simp only [World.size_alloc] at s1 s2
  have b2 := after_alloc hb2
  have hX : w1.heap[w.heap.size]? = some (.cells xc 57 (0, 0)) := by
    rw [hb1.block _ (by simp only [World.size_alloc]; omega), Below.heap_alloc _ _ _ (by simp only [World.size_alloc]; omega)]
    exact heap_alloc_new _ _
  refine ⟨(b2.block _ (by omega)).trans hX, ?_, by omega, by omega, ?_⟩
  · rw [hb2.block _ (by simp)]
    exact heap_alloc_new _ _
  · have b1 : Below w.heap.size w w1 := (((Below.refl _ _).alloc (Nat.le_refl _) _).alloc (by simp only [World.size_alloc]; omega) _).trans (hb1.mono (by simp only [World.size_alloc]; omega))
    exact chain b1 b2
theorem gr_first {w w1 : World} {x l : Obj} (hb1 : Below ((w.alloc x).alloc l).heap.size ((w.alloc x).alloc l) w1) (ob : Obj) : Below w.heap.size w (w1.alloc ob) := by
  have s1 := hb1.size
  simp only [World.size_alloc] at s1
  exact ((((Below.refl _ _).alloc (Nat.le_refl _) _).alloc (by simp only [World.size_alloc]; omega) _).trans (hb1.mono (by simp only [World.size_alloc]; omega))).alloc (by omega) _
theorem gr_set {w w2 : World} {Y : Nat} {xc : Array Value} {a0 a1 a2 a3 a4 : Value} (gX : w2.heap[w.heap.size]? = some (.cells xc 57 (0, 0))) (gY : w2.heap[Y]? = some (.cells #[a0, a1, a2, a3, a4] 57 (0, 0))) (l1 : w.heap.size < Y) (l2 : Y < w2.heap.size) (B2 : Below w.heap.size w w2) (x0 x1 x2 x3 x4 : Value) :
    (((((w2.setCell ⟨Y, 0, none⟩ x0).setCell ⟨Y, 1, none⟩ x1).setCell ⟨Y, 2, none⟩ x2).setCell ⟨Y, 3, none⟩ x3).setCell ⟨Y, 4, none⟩ x4).heap[w.heap.size]? = some (.cells xc 57 (0, 0)) ∧
    (((((w2.setCell ⟨Y, 0, none⟩ x0).setCell ⟨Y, 1, none⟩ x1).setCell ⟨Y, 2, none⟩ x2).setCell ⟨Y, 3, none⟩ x3).setCell ⟨Y, 4, none⟩ x4).heap[Y]? = some (.cells #[x0, x1, x2, x3, x4] 57 (0, 0)) ∧
    Below w.heap.size w (((((w2.setCell ⟨Y, 0, none⟩ x0).setCell ⟨Y, 1, none⟩ x1).setCell ⟨Y, 2, none⟩ x2).setCell ⟨Y, 3, none⟩ x3).setCell ⟨Y, 4, none⟩ x4) := by
  have hne : w.heap.size ≠ Y := by omega
  have hle : w.heap.size ≤ Y := by omega
  refine ⟨?_, set5 gY _ _ _ _ _, ((((B2.setCell hle _).setCell hle _).setCell hle _).setCell hle _).setCell hle _⟩
  exact (heap_setCell_other _ _ _ _ hne).trans ((heap_setCell_other _ _ _ _ hne).trans ((heap_setCell_other _ _ _ _ hne).trans ((heap_setCell_other _ _ _ _ hne).trans ((heap_setCell_other _ _ _ _ hne).trans gX))))
/-- the two instructions' blocks, behind whatever leaves them alone -/
theorem gr_facts {w wS W : World} {Y : Nat} {xc yc : Array Value} (gX : wS.heap[w.heap.size]? = some (.cells xc 57 (0, 0))) (gY : wS.heap[Y]? = some (.cells yc 57 (0, 0))) (B : Below w.heap.size w wS) (b : Below wS.heap.size wS W) :
    (∀ i, W.cell? ⟨w.heap.size, i, none⟩ = xc[i]?) ∧ (∀ i, W.cell? ⟨Y, i, none⟩ = yc[i]?) ∧ (∀ i, W.frozen? ⟨Y, i, none⟩ = false) ∧ w.heap.size < W.heap.size ∧ Y < W.heap.size ∧ Below w.heap.size w W := by
  have e1 := (b.block _ (lt_of_block gX)).trans gX
  have e2 := (b.block _ (lt_of_block gY)).trans gY
  exact ⟨(rowcells e1).1, (rowcells e2).1, (rowcells e2).2, lt_of_block e1, lt_of_block e2, chain B b⟩
theorem twin_own (us : List Int) (ao : Option Addr) (cap : Nat) (w : World) (hs : Bs us ao cap w) (h0 : 0 < us.length) (hr : us.length ≤ 6) :
    Calls Try.prog 30 #[.slice ao us.length cap] w fun e w' => ∃ v, e = .returned v ∧ w'.ownsRow w.heap.size 5 1 v us.length (us.map (Value.int .u8)) ∧ Below w.heap.size w w' := by
  obtain ⟨b, off, rfl, hb, hc⟩ := hs.2.2 h0
  exact twin_some us b off cap w hc h0 (by omega)
set_option maxRecDepth 100000 in
set_option maxHeartbeats 4000000 in
theorem gr_A (us : List Int) (ao : Option Addr) (cap : Nat) (o d s f m : Int) (w : World) (hs : Bs us ao cap w) (hw : Rg us) (hm : 0 ≤ m ∧ m < 4294967296) (hreach : us.length ≤ 140737488351232) (k : Nat) (yo yd ys yf ym : Int) (h : decv us = .tuple #[agg5 yo yd ys yf ym, .int .i64 (k : Int), .int .i64 0]) :
    Calls Try.prog 11 #[.slice ao us.length cap, .agg #[.int .i64 o, .int .i64 d, .int .i64 s, .int .i64 f, .int .u32 m]] w fun e w' => e = .returned (.bool true) ∧ Below w.heap.size w w' := by
  obtain ⟨us2, z2, hrg2, hz0, hz1, hun, hG, _⟩ := enc_both o d s f m hm
  have HGL := Lib.hid (fun ao cap w (h : Bs [106, 23, 252] ao cap w) => gdec_all [106, 23, 252] ao cap w h lea_rg)
  rw [decv_lea] at HGL
  have HGB := Lib.hid (fun ao cap w (h : Bs us ao cap w) => gdec_all us ao cap w h hw)
  rw [h] at HGB
  unfold agg5 at HGB
  have hl := neq_ins 23 1 7 0 4294967292 23 1 7 0 4294967292
  rw [eqi_self] at hl
  obtain ⟨q1, q2, q3, q4, q5, q6, _⟩ := decv_ok hw h
  have hE := enc_read hw h
  have hkl : k ≤ us.length := by omega
  have hlk : (us.take k).length = k := by rw [List.length_take]; omega
  obtain ⟨g, off, rfl, hgw, hc⟩ := hs.2.2 (by omega)
  have hcap := hs.1
  have hpart : ∀ w', Below w.heap.size w w' → Bs (us.take k) (some ⟨g, off, none⟩) cap w' := fun w' hb => by
    obtain ⟨l1, m1, k1⟩ := hs.keep hb
    refine ⟨by omega, m1, fun _ => ?_⟩
    obtain ⟨b, off', he, hb', hc'⟩ := k1 (by omega)
    refine ⟨b, off', he, hb', fun j hj => ?_⟩
    rw [hc' j (by omega), List.getD_eq_getElem?_getD, List.getD_eq_getElem?_getD, List.getElem?_take, if_pos (by omega)]
  have hSz := Size_any (us.getD 0 0) (hw 0).1 (hw 0).2
  rw [← q3] at hSz
  have hc0 := hc 0 (by omega)
  rw [Nat.add_zero] at hc0
  obtain ⟨b0, hb0⟩ : ∃ b0, us.getD 0 0 = b0 := ⟨_, rfl⟩
  rw [hb0] at hc0 hSz
  have HSz := Lib.hid hSz
  obtain ⟨usk, husk⟩ : ∃ usk, us.take k = usk := ⟨_, rfl⟩
  rw [show ((k : Int)).toNat = k by omega, husk] at hE
  rw [husk] at hlk hpart
  have HE := Lib.hid hE
  have HP := Lib.hid hpart
  have HLK := Lib.hid hlk
  have HC0 := Lib.hid hc0
  have n1 : ¬ (k : Int) < 1 := by omega
  have n2 : ¬ 6 < (k : Int) := by omega
  have n3 : ¬ (us.length : Int) < (k : Int) := by omega
  have n4 : (k : Int) ≤ (cap : Int) := by omega
  have n5 : (0 : Int) ≤ (k : Int) := by omega
  have n6 : (0 : Int) < (us.length : Int) := by omega
  have hnil : (some (⟨g, off, none⟩ : Addr)) = none → cap = 0 := fun h => nomatch h
  clear hSz hc hc0 hlk hpart husk q1 q2 q3 q4 q5 q6 hE hb0
  have HS := Lib.hid hs
  have HX2 := Lib.hid hG
  have HU := Lib.hid (And.intro hrg2 (And.intro hz0 (And.intro hz1 hun)))
  have HW := Lib.hid hw
  clear hG hrg2 hz0 hz1 hun h hw hm
  go_enter Try.func11, Try.ntmps11
  go_upto_region 5 with (first
    | (go_at_call 31; refine (HGL.out _ _ _ lea_bs).mono ?_; rintro e w1 ⟨rfl, hb1⟩; clear HGL)
    | (go_at_call 31; refine (HGB.out _ _ _ (HS.out.keep (gr_first hb1 _))).mono ?_; rintro e w2 ⟨rfl, hb2⟩; obtain ⟨gX, gY, l1, l2, B2⟩ := gr_start hb1 hb2; have kY := (rowcells gY).1; have zY := (rowcells gY).2; clear HGB))
  obtain ⟨eX, eY, eB⟩ := gr_set gX gY l1 l2 B2 (.int .i64 (yo)) (.int .i64 (yd)) (.int .i64 (ys)) (.int .i64 (yf)) (.int .u32 (ym))
  generalize ((((w2.setCell ⟨w1.heap.size, 0, none⟩ (.int .i64 (yo))).setCell ⟨w1.heap.size, 1, none⟩ (.int .i64 (yd))).setCell ⟨w1.heap.size, 2, none⟩ (.int .i64 (ys))).setCell ⟨w1.heap.size, 3, none⟩ (.int .i64 (yf))).setCell ⟨w1.heap.size, 4, none⟩ (.int .u32 (ym)) = wS at eX eY eB ⊢
  generalize w1.heap.size = Yb at eY l1 ⊢
  clear gX gY l2 B2 kY zY hb1 hb2
  obtain ⟨kX, kY, zY, lX, lY, BW⟩ := gr_facts eX eY eB (Below.refl _ _)
  have HEX := Lib.hid eX
  have HEY := Lib.hid eY
  have HEB := Lib.hid eB
  have T0 := Below.refl wS.heap.size wS
  clear eX eY eB
  go_upto_region 11 with (first
    | (go_at_call 42; refine (HE.out _).mono ?_; rintro e w3 ⟨ao3, c3, rfl, bs3, fr3, hb3⟩; rw [HLK.out]; clear kX kY zY lX lY BW; have T1 := T0.trans hb3; obtain ⟨kX, kY, zY, lX, lY, BW⟩ := gr_facts HEX.out HEY.out HEB.out T1)
    | (go_at_call 33; have HSB := same_bs usk ao3 c3 (some ⟨g, off, none⟩) cap _ bs3 (HP.out _ BW); rw [HLK.out] at HSB; refine HSB.mono ?_; rintro e w4 ⟨rfl, hb4⟩; clear kX kY zY lX lY BW; have T2 := chain T1 hb4; obtain ⟨kX, kY, zY, lX, lY, BW⟩ := gr_facts HEX.out HEY.out HEB.out T2; have c0 := (BW.cell (p := ⟨g, off, none⟩) hgw).trans HC0.out)
    | (go_at_call 34; refine (HSz.out _).mono ?_; rintro e w5 ⟨rfl, hb5⟩; clear kX kY zY lX lY BW; have T3 := chain T2 hb5; obtain ⟨kX, kY, zY, lX, lY, BW⟩ := gr_facts HEX.out HEY.out HEB.out T3))
  have hq := eql_ins o d s f m o d s f m
  rw [eqi_self] at hq
  by_cases hz2 : z2 = 0
  · subst hz2
    obtain ⟨hd2, l0, l6⟩ := enc_len HU.out.1 (HU.out.2.1 rfl) HU.out.2.2.2
    have hd3 : decv (us2 ++ us) = decv us2 := decv_prefix HU.out.1 hd2 (fun j hj => by
      rw [List.getD_eq_getElem?_getD, List.getElem?_append_left (by omega), List.getD_eq_getElem?_getD]) (by rw [List.length_append]; omega)
    have HD9 := Lib.hid (fun ao cap w (h : Bs (us2 ++ us) ao cap w) => gdec_all (us2 ++ us) ao cap w h (Rg.app HU.out.1 HW.out))
    rw [hd3, hd2] at HD9
    unfold agg5 at HD9
    obtain ⟨us3, hu3⟩ : ∃ u, us2 ++ us = u := ⟨_, rfl⟩
    have hl3 : 0 < us3.length := by rw [← hu3, List.length_append]; omega
    rw [hu3] at HD9
    have HU3 := Lib.hid hu3
    clear hd2 hd3 hu3
    go_wp2_with (first
      | (go_at_call 42; refine (HX2.out _).mono ?_; rintro e w6 ⟨ao6, c6, rfl, bs6, fr6, hb6⟩; clear kX kY zY lX lY BW; have T4 := chain T3 hb6; obtain ⟨kX, kY, zY, lX, lY, BW⟩ := gr_facts HEX.out HEY.out HEB.out T4)
      | (go_at_call 30; refine (twin_own us2 ao6 c6 _ bs6 l0 l6).mono ?_; rintro e w7 ⟨v7, rfl, ow7, hb7⟩; clear kX kY zY lX lY BW; have T5 := chain T4 hb7; obtain ⟨kX, kY, zY, lX, lY, BW⟩ := gr_facts HEX.out HEY.out HEB.out T5)
      | (at_builtin; refine ap_b rfl (.tmp 92) (.tmp 93) rfl _ _ us2 rfl ow7 hb7.size us _ cap rfl (HS.out.keep BW) hnil (by omega) (fun v8 w8 ow8 hb8 => ?_); rw [HU3.out] at ow8; clear kX kY zY lX lY BW; have T6 := T5.trans (hb8.mono T4.size); obtain ⟨kX, kY, zY, lX, lY, BW⟩ := gr_facts HEX.out HEY.out HEB.out T6; obtain ⟨g8, c8, rfl, bs8⟩ := own_bs ow8 hl3)
      | (go_at_call 31; refine (HD9.out _ _ _ bs8).mono ?_; rintro e w9 ⟨rfl, hb9⟩; clear kX kY zY lX lY BW; have T7 := chain T6 hb9; obtain ⟨kX, kY, zY, lX, lY, BW⟩ := gr_facts HEX.out HEY.out HEB.out T7))
    have hle : w.heap.size ≤ Yb := by omega
    go_ret
    exact ⟨rfl, ((((BW.setCell hle _).setCell hle _).setCell hle _).setCell hle _).setCell hle _⟩
  · have hz2b : (z2 == 0) = false := by rw [beq_eq_false_iff_ne]; exact hz2
    have hus := HU.out.2.2.1 hz2
    clear HU
    subst hus
    go_wp2_with (go_at_call 42; refine (HX2.out _).mono ?_; rintro e w6 ⟨ao6, c6, rfl, bs6, fr6, hb6⟩; clear kX kY zY lX lY BW; have T4 := chain T3 hb6; obtain ⟨kX, kY, zY, lX, lY, BW⟩ := gr_facts HEX.out HEY.out HEB.out T4)
    go_ret
    exact ⟨rfl, BW⟩
set_option maxRecDepth 100000 in
set_option maxHeartbeats 4000000 in
theorem gr_B (us : List Int) (ao : Option Addr) (cap : Nat) (o d s f m : Int) (w : World) (hs : Bs us ao cap w) (hw : Rg us) (hm : 0 ≤ m ∧ m < 4294967296) (hreach : us.length ≤ 140737488351232) (z : Int) (hz : z ≠ 0) (hnil : ao = none → cap = 0) (h : decv us = .tuple #[agg5 0 0 0 0 0, .int .i64 0, .int .i64 z]) :
    Calls Try.prog 11 #[.slice ao us.length cap, .agg #[.int .i64 o, .int .i64 d, .int .i64 s, .int .i64 f, .int .u32 m]] w fun e w' => e = .returned (.bool true) ∧ Below w.heap.size w w' := by
  obtain ⟨us2, z2, hrg2, hz0, hz1, hun, hG, _⟩ := enc_both o d s f m hm
  have HGL := Lib.hid (fun ao cap w (h : Bs [106, 23, 252] ao cap w) => gdec_all [106, 23, 252] ao cap w h lea_rg)
  rw [decv_lea] at HGL
  have HGB := Lib.hid (fun ao cap w (h : Bs us ao cap w) => gdec_all us ao cap w h hw)
  rw [h] at HGB
  unfold agg5 at HGB
  have hl := neq_ins 23 1 7 0 4294967292 23 1 7 0 4294967292
  rw [eqi_self] at hl
  have hzb : (z == 0) = false := by rw [beq_eq_false_iff_ne]; exact hz
  have HS := Lib.hid hs
  have HX2 := Lib.hid hG
  have HU := Lib.hid (And.intro hrg2 (And.intro hz0 (And.intro hz1 hun)))
  have HW := Lib.hid hw
  clear hG hrg2 hz0 hz1 hun h hw hm
  go_enter Try.func11, Try.ntmps11
  go_upto_region 5 with (first
    | (go_at_call 31; refine (HGL.out _ _ _ lea_bs).mono ?_; rintro e w1 ⟨rfl, hb1⟩; clear HGL)
    | (go_at_call 31; refine (HGB.out _ _ _ (HS.out.keep (gr_first hb1 _))).mono ?_; rintro e w2 ⟨rfl, hb2⟩; obtain ⟨gX, gY, l1, l2, B2⟩ := gr_start hb1 hb2; have kY := (rowcells gY).1; have zY := (rowcells gY).2; clear HGB))
  obtain ⟨eX, eY, eB⟩ := gr_set gX gY l1 l2 B2 (.int .i64 (0)) (.int .i64 (0)) (.int .i64 (0)) (.int .i64 (0)) (.int .u32 (0))
  generalize ((((w2.setCell ⟨w1.heap.size, 0, none⟩ (.int .i64 (0))).setCell ⟨w1.heap.size, 1, none⟩ (.int .i64 (0))).setCell ⟨w1.heap.size, 2, none⟩ (.int .i64 (0))).setCell ⟨w1.heap.size, 3, none⟩ (.int .i64 (0))).setCell ⟨w1.heap.size, 4, none⟩ (.int .u32 (0)) = wS at eX eY eB ⊢
  generalize w1.heap.size = Yb at eY l1 ⊢
  clear gX gY l2 B2 kY zY hb1 hb2
  obtain ⟨kX, kY, zY, lX, lY, BW⟩ := gr_facts eX eY eB (Below.refl _ _)
  have HEX := Lib.hid eX
  have HEY := Lib.hid eY
  have HEB := Lib.hid eB
  have T0 := Below.refl wS.heap.size wS
  clear eX eY eB
  have hy := neq_ins 0 0 0 0 0 0 0 0 0 0
  rw [eqi_self] at hy
  go_upto_region 11 with fail
  have hq := eql_ins o d s f m o d s f m
  rw [eqi_self] at hq
  by_cases hz2 : z2 = 0
  · subst hz2
    obtain ⟨hd2, l0, l6⟩ := enc_len HU.out.1 (HU.out.2.1 rfl) HU.out.2.2.2
    have hd3 : decv (us2 ++ us) = decv us2 := decv_prefix HU.out.1 hd2 (fun j hj => by
      rw [List.getD_eq_getElem?_getD, List.getElem?_append_left (by omega), List.getD_eq_getElem?_getD]) (by rw [List.length_append]; omega)
    have HD9 := Lib.hid (fun ao cap w (h : Bs (us2 ++ us) ao cap w) => gdec_all (us2 ++ us) ao cap w h (Rg.app HU.out.1 HW.out))
    rw [hd3, hd2] at HD9
    unfold agg5 at HD9
    obtain ⟨us3, hu3⟩ : ∃ u, us2 ++ us = u := ⟨_, rfl⟩
    have hl3 : 0 < us3.length := by rw [← hu3, List.length_append]; omega
    rw [hu3] at HD9
    have HU3 := Lib.hid hu3
    clear hd2 hd3 hu3
    go_wp2_with (first
      | (go_at_call 42; refine (HX2.out _).mono ?_; rintro e w6 ⟨ao6, c6, rfl, bs6, fr6, hb6⟩; clear kX kY zY lX lY BW; have T4 := chain T0 hb6; obtain ⟨kX, kY, zY, lX, lY, BW⟩ := gr_facts HEX.out HEY.out HEB.out T4)
      | (go_at_call 30; refine (twin_own us2 ao6 c6 _ bs6 l0 l6).mono ?_; rintro e w7 ⟨v7, rfl, ow7, hb7⟩; clear kX kY zY lX lY BW; have T5 := chain T4 hb7; obtain ⟨kX, kY, zY, lX, lY, BW⟩ := gr_facts HEX.out HEY.out HEB.out T5)
      | (at_builtin; refine ap_b rfl (.tmp 92) (.tmp 93) rfl _ _ us2 rfl ow7 hb7.size us _ cap rfl (HS.out.keep BW) hnil (by omega) (fun v8 w8 ow8 hb8 => ?_); rw [HU3.out] at ow8; clear kX kY zY lX lY BW; have T6 := T5.trans (hb8.mono T4.size); obtain ⟨kX, kY, zY, lX, lY, BW⟩ := gr_facts HEX.out HEY.out HEB.out T6; obtain ⟨g8, c8, rfl, bs8⟩ := own_bs ow8 hl3)
      | (go_at_call 31; refine (HD9.out _ _ _ bs8).mono ?_; rintro e w9 ⟨rfl, hb9⟩; clear kX kY zY lX lY BW; have T7 := chain T6 hb9; obtain ⟨kX, kY, zY, lX, lY, BW⟩ := gr_facts HEX.out HEY.out HEB.out T7))
    have hle : w.heap.size ≤ Yb := by omega
    go_ret
    exact ⟨rfl, ((((BW.setCell hle _).setCell hle _).setCell hle _).setCell hle _).setCell hle _⟩
  · have hz2b : (z2 == 0) = false := by rw [beq_eq_false_iff_ne]; exact hz2
    have hus := HU.out.2.2.1 hz2
    clear HU
    subst hus
    go_wp2_with (go_at_call 42; refine (HX2.out _).mono ?_; rintro e w6 ⟨ao6, c6, rfl, bs6, fr6, hb6⟩; clear kX kY zY lX lY BW; have T4 := chain T0 hb6; obtain ⟨kX, kY, zY, lX, lY, BW⟩ := gr_facts HEX.out HEY.out HEB.out T4)
    go_ret
    exact ⟨rfl, BW⟩
theorem guestrounds_walk (us : List Int) (ao : Option Addr) (cap : Nat) (o d s f m : Int) (w : World) (hs : Bs us ao cap w) (hw : Rg us) (hm : 0 ≤ m ∧ m < 4294967296) (hreach : us.length ≤ 140737488351232) (hnil : ao = none → cap = 0) :
    Calls Try.prog 11 #[.slice ao us.length cap, .agg #[.int .i64 o, .int .i64 d, .int .i64 s, .int .i64 f, .int .u32 m]] w fun e w' => e = .returned (.bool true) ∧ Below w.heap.size w w' := by
  obtain ⟨yo, yd, ys, yf, ym, n, z, h⟩ := decv_shape us
  by_cases hz : z = 0
  · subst hz
    have hk := decv_ok hw h
    obtain ⟨k, rfl⟩ := Int.eq_ofNat_of_zero_le (show 0 ≤ n by omega)
    exact gr_A us ao cap o d s f m w hs hw hm hreach k yo yd ys yf ym h
  · obtain ⟨rfl, rfl, rfl, rfl, rfl, rfl⟩ := decv_err h hz
    exact gr_B us ao cap o d s f m w hs hw hm hreach z hz hnil h
end Go.Proofs.Ytcjcmnnhmajocaa.Gu
