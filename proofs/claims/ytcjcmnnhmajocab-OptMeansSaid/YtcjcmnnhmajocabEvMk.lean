/- crossgrainref3's Eval: what a block does. -/
import Derived.Test.YtcjcmnnhmajocabPobw
namespace Go.Proofs.Ytcjcmnnhmajocab.Ev
open Go.RowKit Kt Me Fl Ic
set_option linter.unusedVariables false
set_option linter.unusedSimpArgs false
theorem opA_of {os : List Opr} {cnt : Int} {i : Nat} {o : Opr} (h : opE os cnt i o = 0) (k0 : 4 ≤ o.k) (k1 : o.k ≤ 9) : o.a < i := by
  unfold opE at h
  obtain ⟨h2, h4, h6, h8, h10, h12⟩ := oerr_0 h
  unfold e10 at h10
  simp only [Bool.or_eq_false_iff, Bool.not_eq_false', Bool.and_eq_false_iff, Bool.not_eq_true', Bool.not_eq_eq_eq_not, Bool.not_true, Bool.not_false] at h10
  have hr : rA o.k = true := by
    obtain ⟨k, ow, a, b, c, kn, n⟩ := o
    dsimp only at k0 k1 ⊢
    rcases (show k = 4 ∨ k = 5 ∨ k = 6 ∨ k = 7 ∨ k = 8 ∨ k = 9 by omega) with rfl | rfl | rfl | rfl | rfl | rfl <;> rfl
  rcases h10.1 with ha | ha
  · rw [hr] at ha; exact absurd ha (by decide)
  · unfold gvn at ha
    simp only [Bool.and_eq_true, decide_eq_true_eq] at ha
    exact ha.1.2
set_option maxRecDepth 100000 in
set_option maxHeartbeats 16000000 in
theorem reval_any (os : List Opr) (ao : Option Addr) (cap : Nat) (bpc cnt byt : Int) (cx : Nat → Int) (M : MM) (P : RP) (CK : ∀ w, Ops os ao cap w → Calls Try.prog 12 #[.agg #[.int .u32 bpc, .int .i64 cnt, .int .i64 byt, .slice ao os.length cap]] w fun e w' => e = .returned (errs (chk os cnt byt)) ∧ Below w.heap.size w w') (w : World) (hops : Ops os ao cap w) (h : RM P M w) (hM : MOk M) (hC : COk cx) (hkn : ∀ o ∈ os, 0 ≤ o.kn ∧ o.kn < 4294967296) (hdis : ∀ g, ao = some g → 0 < os.length → ¬ P.has g.block) :
    Calls Try.prog 22 #[.agg #[.int .u32 bpc, .int .i64 cnt, .int .i64 byt, .slice ao os.length cap], .agg #[.int .u32 (cx 0), .int .u32 (cx 1), .int .u32 (cx 2), .int .u32 (cx 3), .int .u32 (cx 4), .int .u32 (cx 5), .int .u32 (cx 6), .int .u32 (cx 7), .int .u32 (cx 8), .int .u32 (cx 9), .int .u32 (cx 10), .int .u32 (cx 11)], .pointer (some ⟨P.q, 0, none⟩)] w fun e w' => e = .returned (evalV (evalO os cnt byt ⟨M, cx, fun _ => 0⟩)) ∧ RM P (evalO os cnt byt ⟨M, cx, fun _ => 0⟩).1.M w' ∧ Upto P.has w w' := by
  have CK := Lib.hid CK
  have HO := Lib.hid hops
  have HH := Lib.hid h
  have HPW := Lib.hid (show ∀ i, P.has i → i < w.heap.size from fun i hi => rm_lt h hi)
  obtain ⟨bb, cb, cr, xr, u0⟩ := ev_new w bpc cnt byt ao os.length cap cx
  have b0 : Below w.heap.size w ((((w.alloc (.cells #[.int .u32 bpc, .int .i64 cnt, .int .i64 byt, .slice ao os.length cap] 25)).alloc (.cells #[.int .u32 (cx 0), .int .u32 (cx 1), .int .u32 (cx 2), .int .u32 (cx 3), .int .u32 (cx 4), .int .u32 (cx 5), .int .u32 (cx 6), .int .u32 (cx 7), .int .u32 (cx 8), .int .u32 (cx 9), .int .u32 (cx 10), .int .u32 (cx 11)] 37)).alloc (.cells #[.int .u32 0, .int .u32 0, .int .u32 0, .int .u32 0, .int .u32 0, .int .u32 0, .int .u32 0, .int .u32 0, .int .u32 0, .int .u32 0, .int .u32 0, .int .u32 0] 37)).alloc (.cells #[.int .i64 0, .int .u32 0, .int .u32 0, .int .i64 0] 48)) := u0.below (Nat.le_refl _) (fun _ _ => id)
  have o1 := hops.keep b0
  have h1 := HH.out.upto u0 (fun _ _ => id)
  have CL := fun w h1 h2 hl1 hop hop9 => leave_any os ao cap bpc cnt byt cx M P w h1 h2 hM hC hl1 hop hop9 hkn hdis
  have CL := Lib.hid CL
  unfold ctL at bb cb cr xr u0 h1
  clear h hkn hdis hops hM hC
  go_enter Try.func22, Try.ntmps22
  go_upto_region 1 with fail
  generalize ((((w.alloc (.cells #[.int .u32 bpc, .int .i64 cnt, .int .i64 byt, .slice ao os.length cap] 25)).alloc (.cells #[.int .u32 (cx 0), .int .u32 (cx 1), .int .u32 (cx 2), .int .u32 (cx 3), .int .u32 (cx 4), .int .u32 (cx 5), .int .u32 (cx 6), .int .u32 (cx 7), .int .u32 (cx 8), .int .u32 (cx 9), .int .u32 (cx 10), .int .u32 (cx 11)] 37)).alloc (.cells #[.int .u32 0, .int .u32 0, .int .u32 0, .int .u32 0, .int .u32 0, .int .u32 0, .int .u32 0, .int .u32 0, .int .u32 0, .int .u32 0, .int .u32 0, .int .u32 0] 37)).alloc (.cells #[.int .i64 0, .int .u32 0, .int .u32 0, .int .i64 0] 48)) = WA at bb cb cr xr u0 b0 o1 h1 ⊢
  have LB := bb.l
  have HB := Lib.hid bb
  have HC1 := Lib.hid cb
  have CR := Lib.hid cr
  have XR := Lib.hid xr
  have O1 := Lib.hid o1
  have M1 := Lib.hid h1
  have U0 := Lib.hid (u0.mono (T := P.has) fun _ _ h => h.elim)
  have q0 := bb.c0
  have q1 := bb.c1
  have q2 := bb.c2
  have q3 := bb.c3
  clear bb cb cr xr u0 b0 o1 h1
  go_wp2_with fail
  refine (CK.out _ O1.out).mono ?_
  rintro e w1 ⟨rfl, b1⟩
  have u1 := Upto.of_below (S := fun _ => False) b1
  have HB := Lib.hid (HB.out.upto u1 id)
  have HC1 := Lib.hid (HC1.out.upto u1 id)
  have CR := Lib.hid (CR.out.upto u1 id)
  have XR := Lib.hid (XR.out.upto u1 id)
  have O1 := Lib.hid (O1.out.keep b1)
  have M1 := Lib.hid (M1.out.upto u1 (fun _ _ => id))
  have U0 := Lib.hid (U0.out.trans (u1.mono (T := P.has) fun _ _ h => h.elim))
  clear b1 u1 q0 q1 q2 q3
  unfold errs
  go_upto_region 2 with fail
  obtain ⟨ee, hee⟩ : ∃ ee, (chk os cnt byt).1 = ee := ⟨_, rfl⟩
  generalize (chk os cnt byt).2 = ec
  rw [hee]
  by_cases he : ee = 0
  · subst he
    obtain ⟨hl0, hl1, hop⟩ := chk_ops hee
    have ev : evalO os cnt byt ⟨M, cx, fun _ => 0⟩ = ((evN os os.length ⟨M, cx, fun _ => 0⟩).1, (evN os os.length ⟨M, cx, fun _ => 0⟩).2.1, 0) := by unfold evalO; rw [if_pos hee]
    have CL := fun w h1 h2 => CL.out w h1 h2 hl1 (fun i o ho => opk_of (hop i o ho)) (fun i o ho k0 k1 => opA_of (hop i o ho) k0 k1)
    clear hop hee
    obtain ⟨rv, hrv⟩ : ∃ rv, evN os os.length ⟨M, cx, fun _ => 0⟩ = rv := ⟨_, rfl⟩
    rw [hrv] at ev CL
    have EV := Lib.hid ev
    have CL := Lib.hid CL
    clear ev hrv
    unfold ctL at CL
    obtain ⟨a0, a1, a2, a3, a4, a5, a6, a7, a8, a9, a10, a11⟩ := HC1.out.all
    have q0 := HB.out.c0
    have q1 := HB.out.c1
    have q2 := HB.out.c2
    have q3 := HB.out.c3
    have lb := HB.out.l
    have lc := HC1.out.l
    go_wp2_with fail
    refine (CL.out _ O1.out M1.out).mono ?_
    rintro e w3 ⟨rfl, m3, u3⟩
    clear a0 a1 a2 a3 a4 a5 a6 a7 a8 a9 a10 a11 q0 q1 q2 q3 lb lc
    have np : ∀ i, w.heap.size ≤ i → ¬ P.has i := fun i hi hp => by have := HPW.out i hp; omega
    have CR := Lib.hid (CR.out.upto u3 (np _ (by omega)))
    have XR := Lib.hid (XR.out.upto u3 (np _ (by omega)))
    have U0 := Lib.hid (U0.out.trans u3)
    have M1 := Lib.hid m3
    have l3 : w.heap.size + 1 + 1 + 1 < w3.heap.size := XR.out.l
    clear m3 u3 np HB HC1 O1 CL
    go_upto_region 5 with fail
    have un := ((Upto.refl (fun _ => False) w3).alloc (.cells #[.int .u32 (rv.1.c 0), .int .u32 (rv.1.c 1), .int .u32 (rv.1.c 2), .int .u32 (rv.1.c 3), .int .u32 (rv.1.c 4), .int .u32 (rv.1.c 5), .int .u32 (rv.1.c 6), .int .u32 (rv.1.c 7), .int .u32 (rv.1.c 8), .int .u32 (rv.1.c 9), .int .u32 (rv.1.c 10), .int .u32 (rv.1.c 11)] 37)).alloc (.cells #[.int .i64 rv.2.1.k, .int .u32 rv.2.1.x, .int .u32 rv.2.1.pc, .int .i64 rv.2.1.n] 48)
    have ca := CB.new w3 rv.1.c 37
    have xa := XB4.new (w3.alloc (.cells #[.int .u32 (rv.1.c 0), .int .u32 (rv.1.c 1), .int .u32 (rv.1.c 2), .int .u32 (rv.1.c 3), .int .u32 (rv.1.c 4), .int .u32 (rv.1.c 5), .int .u32 (rv.1.c 6), .int .u32 (rv.1.c 7), .int .u32 (rv.1.c 8), .int .u32 (rv.1.c 9), .int .u32 (rv.1.c 10), .int .u32 (rv.1.c 11)] 37)) rv.2.1.k rv.2.1.x rv.2.1.pc rv.2.1.n 48
    have e1 : (w3.alloc (.cells #[.int .u32 (rv.1.c 0), .int .u32 (rv.1.c 1), .int .u32 (rv.1.c 2), .int .u32 (rv.1.c 3), .int .u32 (rv.1.c 4), .int .u32 (rv.1.c 5), .int .u32 (rv.1.c 6), .int .u32 (rv.1.c 7), .int .u32 (rv.1.c 8), .int .u32 (rv.1.c 9), .int .u32 (rv.1.c 10), .int .u32 (rv.1.c 11)] 37)).heap.size = w3.heap.size + 1 := by simp
    rw [e1] at xa
    unfold ctL at ca
    have ca := ca.upto ((Upto.refl (fun _ => False) _).alloc (.cells #[.int .i64 rv.2.1.k, .int .u32 rv.2.1.x, .int .u32 rv.2.1.pc, .int .i64 rv.2.1.n] 48)) id
    have CR := Lib.hid (CR.out.upto un id)
    have XR := Lib.hid (XR.out.upto un id)
    have M1 := Lib.hid (M1.out.upto un (fun _ _ => id))
    have U0 := Lib.hid (U0.out.trans (un.mono (T := P.has) fun _ _ h => h.elim))
    generalize (w3.alloc (.cells #[.int .u32 (rv.1.c 0), .int .u32 (rv.1.c 1), .int .u32 (rv.1.c 2), .int .u32 (rv.1.c 3), .int .u32 (rv.1.c 4), .int .u32 (rv.1.c 5), .int .u32 (rv.1.c 6), .int .u32 (rv.1.c 7), .int .u32 (rv.1.c 8), .int .u32 (rv.1.c 9), .int .u32 (rv.1.c 10), .int .u32 (rv.1.c 11)] 37)).alloc (.cells #[.int .i64 rv.2.1.k, .int .u32 rv.2.1.x, .int .u32 rv.2.1.pc, .int .i64 rv.2.1.n] 48) = W6 at un ca xa CR XR M1 U0 ⊢
    clear un e1
    obtain ⟨a0, a1, a2, a3, a4, a5, a6, a7, a8, a9, a10, a11⟩ := ca.all
    have lA6 := ca.l
    have d0 := xa.c0
    have d1 := xa.c1
    have d2 := xa.c2
    have d3 := xa.c3
    have lx6 := xa.l
    clear ca xa
    have r0 := CR.out.r 0 (by omega)
    have z0 := CR.out.z 0
    have r1 := CR.out.r 1 (by omega)
    have z1 := CR.out.z 1
    have r2 := CR.out.r 2 (by omega)
    have z2 := CR.out.z 2
    have r3 := CR.out.r 3 (by omega)
    have z3 := CR.out.z 3
    have r4 := CR.out.r 4 (by omega)
    have z4 := CR.out.z 4
    have r5 := CR.out.r 5 (by omega)
    have z5 := CR.out.z 5
    have r6 := CR.out.r 6 (by omega)
    have z6 := CR.out.z 6
    have r7 := CR.out.r 7 (by omega)
    have z7 := CR.out.z 7
    have r8 := CR.out.r 8 (by omega)
    have z8 := CR.out.z 8
    have r9 := CR.out.r 9 (by omega)
    have z9 := CR.out.z 9
    have r10 := CR.out.r 10 (by omega)
    have z10 := CR.out.z 10
    have r11 := CR.out.r 11 (by omega)
    have z11 := CR.out.z 11
    have y0 := XR.out.c0
    have v0 := XR.out.z 0
    have y1 := XR.out.c1
    have v1 := XR.out.z 1
    have y2 := XR.out.c2
    have v2 := XR.out.z 2
    have y3 := XR.out.c3
    have v3 := XR.out.z 3
    have lr := CR.out.l
    have ly := XR.out.l
    go_region
    clear a0 a1 a2 a3 a4 a5 a6 a7 a8 a9 a10 a11 d0 d1 d2 d3 lx6 lA6
    clear r0 z0 r1 z1 r2 z2 r3 z3 r4 z4 r5 z5 r6 z6 r7 z7 r8 z8 r9 z9 r10 z10 r11 z11 y0 v0 y1 v1 y2 v2 y3 v3 lr ly
    have c8 := CR.out.put rv.1.c
    have v8 := up_put12 (S := fun i => i = w.heap.size + 1 + 1) (h := w.heap.size + 1 + 1) (Upto.refl _ W6) (.inl rfl) rv.1.c
    have u8 := up_put12 (h := w.heap.size + 1 + 1) U0.out (.inr (Nat.le_trans (Nat.le_succ _) (Nat.le_succ _))) rv.1.c
    have x8 := XR.out.upto v8 (by omega)
    have m8 := RM.upto (S := fun i => i = w.heap.size + 1 + 1) M1.out v8 (fun i hi => by have := HPW.out i hi; omega)
    generalize ((((((((((((W6.setCell ⟨w.heap.size + 1 + 1, 0, none⟩ (.int .u32 (rv.1.c 0))).setCell ⟨w.heap.size + 1 + 1, 1, none⟩ (.int .u32 (rv.1.c 1))).setCell ⟨w.heap.size + 1 + 1, 2, none⟩ (.int .u32 (rv.1.c 2))).setCell ⟨w.heap.size + 1 + 1, 3, none⟩ (.int .u32 (rv.1.c 3))).setCell ⟨w.heap.size + 1 + 1, 4, none⟩ (.int .u32 (rv.1.c 4))).setCell ⟨w.heap.size + 1 + 1, 5, none⟩ (.int .u32 (rv.1.c 5))).setCell ⟨w.heap.size + 1 + 1, 6, none⟩ (.int .u32 (rv.1.c 6))).setCell ⟨w.heap.size + 1 + 1, 7, none⟩ (.int .u32 (rv.1.c 7))).setCell ⟨w.heap.size + 1 + 1, 8, none⟩ (.int .u32 (rv.1.c 8))).setCell ⟨w.heap.size + 1 + 1, 9, none⟩ (.int .u32 (rv.1.c 9))).setCell ⟨w.heap.size + 1 + 1, 10, none⟩ (.int .u32 (rv.1.c 10))).setCell ⟨w.heap.size + 1 + 1, 11, none⟩ (.int .u32 (rv.1.c 11))) = W8 at c8 v8 u8 x8 m8 ⊢
    have v9 := up_put4 (S := fun i => i = w.heap.size + 1 + 1 + 1) (h := w.heap.size + 1 + 1 + 1) (Upto.refl _ W8) (.inl rfl) rv.2.1.k rv.2.1.x rv.2.1.pc rv.2.1.n
    have u9 := (up_put4 (h := w.heap.size + 1 + 1 + 1) u8 (.inr (Nat.le_trans (Nat.le_succ _) (Nat.le_trans (Nat.le_succ _) (Nat.le_succ _)))) rv.2.1.k rv.2.1.x rv.2.1.pc rv.2.1.n)
    have x9 := x8.set rv.2.1.k rv.2.1.x rv.2.1.pc rv.2.1.n
    have c9 := c8.upto v9 (by omega)
    have m9 := RM.upto (S := fun i => i = w.heap.size + 1 + 1 + 1) m8 v9 (fun i hi => by have := HPW.out i hi; omega)
    have u9 := u9.drew
    have m9 := RM.upto (S := fun _ => False) m9 (Upto.refl (fun _ => False) _).drew (fun _ _ => id)
    have c9 := c9.drew
    have x9 := x9.upto (Upto.refl (fun _ => False) _).drew id
    generalize World.drew ((((W8.setCell ⟨w.heap.size + 1 + 1 + 1, 0, none⟩ (.int .i64 rv.2.1.k)).setCell ⟨w.heap.size + 1 + 1 + 1, 1, none⟩ (.int .u32 rv.2.1.x)).setCell ⟨w.heap.size + 1 + 1 + 1, 2, none⟩ (.int .u32 rv.2.1.pc)).setCell ⟨w.heap.size + 1 + 1 + 1, 3, none⟩ (.int .i64 rv.2.1.n)) = W9 at u9 x9 c9 m9 ⊢
    obtain ⟨g0, g1, g2, g3, g4, g5, g6, g7, g8, g9, g10, g11⟩ := c9.all
    have o0 := x9.c0
    have o1 := x9.c1
    have o2 := x9.c2
    have o3 := x9.c3
    go_wp2_with fail
    exact bodyPost_ret (v := .tuple #[.agg (ctL rv.1.c), .agg #[.int .i64 rv.2.1.k, .int .u32 rv.2.1.x, .int .u32 rv.2.1.pc, .int .i64 rv.2.1.n], .int .i64 0]) (by simp [ctL, results, Try.results22, go_sem, g0, g1, g2, g3, g4, g5, g6, g7, g8, g9, g10, g11, o0, o1, o2, o3]) rfl ⟨by rw [EV.out]; rfl, by rw [EV.out]; exact m9, u9⟩
  · have ev : evalO os cnt byt ⟨M, cx, fun _ => 0⟩ = (⟨M, cx, fun _ => 0⟩, ⟨0, 0, 0, 0⟩, ee) := by unfold evalO; rw [hee, if_neg he]
    have EV := Lib.hid ev
    have eb : (ee == 0) = false := by rw [beq_eq_false_iff_ne]; exact he
    have eb' : (ee != 0) = true := by rw [bne, eb]; rfl
    clear ev hee he CL
    obtain ⟨a0, a1, a2, a3, a4, a5, a6, a7, a8, a9, a10, a11⟩ := HC1.out.all
    have lc := HC1.out.l
    have r0 := CR.out.r 0 (by omega)
    have z0 := CR.out.z 0
    have r1 := CR.out.r 1 (by omega)
    have z1 := CR.out.z 1
    have r2 := CR.out.r 2 (by omega)
    have z2 := CR.out.z 2
    have r3 := CR.out.r 3 (by omega)
    have z3 := CR.out.z 3
    have r4 := CR.out.r 4 (by omega)
    have z4 := CR.out.z 4
    have r5 := CR.out.r 5 (by omega)
    have z5 := CR.out.z 5
    have r6 := CR.out.r 6 (by omega)
    have z6 := CR.out.z 6
    have r7 := CR.out.r 7 (by omega)
    have z7 := CR.out.z 7
    have r8 := CR.out.r 8 (by omega)
    have z8 := CR.out.z 8
    have r9 := CR.out.r 9 (by omega)
    have z9 := CR.out.z 9
    have r10 := CR.out.r 10 (by omega)
    have z10 := CR.out.z 10
    have r11 := CR.out.r 11 (by omega)
    have z11 := CR.out.z 11
    have y0 := XR.out.c0
    have v0 := XR.out.z 0
    have y1 := XR.out.c1
    have v1 := XR.out.z 1
    have y2 := XR.out.c2
    have v2 := XR.out.z 2
    have y3 := XR.out.c3
    have v3 := XR.out.z 3
    have lr := CR.out.l
    have ly := XR.out.l
    go_upto_region 3 with fail
    go_wp2_with fail
    clear a0 a1 a2 a3 a4 a5 a6 a7 a8 a9 a10 a11 lc
    clear r0 z0 r1 z1 r2 z2 r3 z3 r4 z4 r5 z5 r6 z6 r7 z7 r8 z8 r9 z9 r10 z10 r11 z11 y0 v0 y1 v1 y2 v2 y3 v3 lr ly
    have c8 := CR.out.put cx
    have v8 := up_put12 (S := fun i => i = w.heap.size + 1 + 1) (h := w.heap.size + 1 + 1) (Upto.refl _ w1) (.inl rfl) cx
    have u8 := up_put12 (h := w.heap.size + 1 + 1) U0.out (.inr (Nat.le_trans (Nat.le_succ _) (Nat.le_succ _))) cx
    have x8 := XR.out.upto v8 (by omega)
    have m8 := RM.upto (S := fun i => i = w.heap.size + 1 + 1) M1.out v8 (fun i hi => by have := HPW.out i hi; omega)
    generalize ((((((((((((w1.setCell ⟨w.heap.size + 1 + 1, 0, none⟩ (.int .u32 (cx 0))).setCell ⟨w.heap.size + 1 + 1, 1, none⟩ (.int .u32 (cx 1))).setCell ⟨w.heap.size + 1 + 1, 2, none⟩ (.int .u32 (cx 2))).setCell ⟨w.heap.size + 1 + 1, 3, none⟩ (.int .u32 (cx 3))).setCell ⟨w.heap.size + 1 + 1, 4, none⟩ (.int .u32 (cx 4))).setCell ⟨w.heap.size + 1 + 1, 5, none⟩ (.int .u32 (cx 5))).setCell ⟨w.heap.size + 1 + 1, 6, none⟩ (.int .u32 (cx 6))).setCell ⟨w.heap.size + 1 + 1, 7, none⟩ (.int .u32 (cx 7))).setCell ⟨w.heap.size + 1 + 1, 8, none⟩ (.int .u32 (cx 8))).setCell ⟨w.heap.size + 1 + 1, 9, none⟩ (.int .u32 (cx 9))).setCell ⟨w.heap.size + 1 + 1, 10, none⟩ (.int .u32 (cx 10))).setCell ⟨w.heap.size + 1 + 1, 11, none⟩ (.int .u32 (cx 11))) = W8 at c8 v8 u8 x8 m8 ⊢
    have v9 := up_put4 (S := fun i => i = w.heap.size + 1 + 1 + 1) (h := w.heap.size + 1 + 1 + 1) (Upto.refl _ W8) (.inl rfl) 0 0 0 0
    have u9 := (up_put4 (h := w.heap.size + 1 + 1 + 1) u8 (.inr (Nat.le_trans (Nat.le_succ _) (Nat.le_trans (Nat.le_succ _) (Nat.le_succ _)))) 0 0 0 0)
    have x9 := x8.set 0 0 0 0
    have c9 := c8.upto v9 (by omega)
    have m9 := RM.upto (S := fun i => i = w.heap.size + 1 + 1 + 1) m8 v9 (fun i hi => by have := HPW.out i hi; omega)
    generalize ((((W8.setCell ⟨w.heap.size + 1 + 1 + 1, 0, none⟩ (.int .i64 0)).setCell ⟨w.heap.size + 1 + 1 + 1, 1, none⟩ (.int .u32 0)).setCell ⟨w.heap.size + 1 + 1 + 1, 2, none⟩ (.int .u32 0)).setCell ⟨w.heap.size + 1 + 1 + 1, 3, none⟩ (.int .i64 0)) = W9 at u9 x9 c9 m9 ⊢
    obtain ⟨g0, g1, g2, g3, g4, g5, g6, g7, g8, g9, g10, g11⟩ := c9.all
    have o0 := x9.c0
    have o1 := x9.c1
    have o2 := x9.c2
    have o3 := x9.c3
    exact bodyPost_ret (v := .tuple #[.agg (ctL cx), .agg #[.int .i64 0, .int .u32 0, .int .u32 0, .int .i64 0], .int .i64 ee]) (by simp [ctL, results, Try.results22, go_sem, g0, g1, g2, g3, g4, g5, g6, g7, g8, g9, g10, g11, o0, o1, o2, o3]) rfl ⟨by rw [EV.out]; rfl, by rw [EV.out]; exact m9, u9⟩
end Go.Proofs.Ytcjcmnnhmajocab.Ev
