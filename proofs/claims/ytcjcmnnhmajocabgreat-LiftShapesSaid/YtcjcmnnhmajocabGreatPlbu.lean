/- crossgrainref2.Memory.Copy: another memory, of the call's own, with the same bytes, rights, marks. -/
import Derived.Test.YtcjcmnnhmajocabGreatPlbt
set_option linter.unusedVariables false
set_option linter.unusedSimpArgs false
set_option maxRecDepth 100000
set_option maxHeartbeats 16000000
namespace Go.Proofs.YtcjcmnnhmajocabGreat.Ev
open Go.RowKit Kt Me Fl Ic
theorem opA_of {os : List Opr} {cnt : Int} {i : Nat} {o : Opr} (h : opE os cnt i o = 0) (k0 : 4 ≤ o.k) (k1 : o.k ≤ 9) : o.a < i := by
 unfold opE at h
 obtain ⟨h2, h4, h6, h8, h10, h12⟩ := oerr_0 h
 unfold e10 at h10
 simp only [Bool.or_eq_false_iff, Bool.not_eq_false', Bool.and_eq_false_iff, Bool.not_eq_true', Bool.not_eq_eq_eq_not, Bool.not_true, Bool.not_false] at h10
 have hr : rA o.k = true := by
  obtain ⟨k, ow, a, b, c, kn, n⟩ := o
  dsimp only at k0 k1 ⊢
  rcases (show k = 4 ∨ k = 5 ∨ k = 6 ∨ k = 7 ∨ k = 8 ∨ k = 9 by omega) with rfl | rfl | rfl | rfl | rfl | rfl <;> rfl
 rcases h10.1 with ha | ha
 ·rw [hr] at ha; exact absurd ha (by decide)
 ·unfold gvn at ha
  simp only [Bool.and_eq_true, decide_eq_true_eq] at ha
  exact ha.1.2
theorem reval_any (os : List Opr) (ao : Option Addr) (cap : Nat) (bpc cnt byt : Int) (cx : Nat → Int) (M : MM) (P : RP) (CK : ∀ w, Ops os ao cap w → Calls Tryz.prog 27 #[.agg #[.int .u32 bpc, .int .i64 cnt, .int .i64 byt, .slice ao os.length cap]] w fun e w' => e = .returned (errs (chk os cnt byt)) ∧ Below w.heap.size w w') (w : World) (hops : Ops os ao cap w) (h : RM P M w) (hM : MOk M) (hC : COk cx) (hkn : ∀ o ∈ os, 0 ≤ o.kn ∧ o.kn < 4294967296) (hdis : ∀ g, ao = some g → 0 < os.length → ¬ P.has g.block) :
  Calls Tryz.prog 30 #[.agg #[.int .u32 bpc, .int .i64 cnt, .int .i64 byt, .slice ao os.length cap], .agg #[.int .u32 (cx 0), .int .u32 (cx 1), .int .u32 (cx 2), .int .u32 (cx 3), .int .u32 (cx 4), .int .u32 (cx 5), .int .u32 (cx 6), .int .u32 (cx 7), .int .u32 (cx 8), .int .u32 (cx 9), .int .u32 (cx 10), .int .u32 (cx 11)], .pointer (some ⟨P.q, 0, none⟩)] w fun e w' => e = .returned (evalV (evalO os cnt byt ⟨M, cx, fun _ => 0⟩)) ∧ RM P (evalO os cnt byt ⟨M, cx, fun _ => 0⟩).1.M w' ∧ Upto P.has w w' := by
 have CK := κ CK
 have HO := κ hops
 have HH := κ h
 have HPW := κ (show ∀ i, P.has i → i < w.heap.size from fun i hi => rm_lt h hi)
 obtain ⟨bb, cb, cr, xr, u0⟩ := ev_new w bpc cnt byt ao os.length cap cx
 have b0 : Below w.heap.size w ((((w.alloc (.cells #[.int .u32 bpc, .int .i64 cnt, .int .i64 byt, .slice ao os.length cap] 52)).alloc (.cells #[.int .u32 (cx 0), .int .u32 (cx 1), .int .u32 (cx 2), .int .u32 (cx 3), .int .u32 (cx 4), .int .u32 (cx 5), .int .u32 (cx 6), .int .u32 (cx 7), .int .u32 (cx 8), .int .u32 (cx 9), .int .u32 (cx 10), .int .u32 (cx 11)] 44)).alloc (.cells #[.int .u32 0, .int .u32 0, .int .u32 0, .int .u32 0, .int .u32 0, .int .u32 0, .int .u32 0, .int .u32 0, .int .u32 0, .int .u32 0, .int .u32 0, .int .u32 0] 44)).alloc (.cells #[.int .i64 0, .int .u32 0, .int .u32 0, .int .i64 0] 66)) := u0.below (Nat.le_refl _) (fun _ _ => id)
 have o1 := hops.keep b0
 have h1 := HH.out.upto u0 (fun _ _ => id)
 have CL := fun w h1 h2 hl1 hop hop9 => leave_any os ao cap bpc cnt byt cx M P w h1 h2 hM hC hl1 hop hop9 hkn hdis
 have CL := κ CL
 unfold ctL at bb cb cr xr u0 h1
 clear h hkn hdis hops hM hC
 go_enter Tryz.func30, Tryz.ntmps30
 go_upto_region 1 with fail
 generalize ((((w.alloc (.cells #[.int .u32 bpc, .int .i64 cnt, .int .i64 byt, .slice ao os.length cap] 52)).alloc (.cells #[.int .u32 (cx 0), .int .u32 (cx 1), .int .u32 (cx 2), .int .u32 (cx 3), .int .u32 (cx 4), .int .u32 (cx 5), .int .u32 (cx 6), .int .u32 (cx 7), .int .u32 (cx 8), .int .u32 (cx 9), .int .u32 (cx 10), .int .u32 (cx 11)] 44)).alloc (.cells #[.int .u32 0, .int .u32 0, .int .u32 0, .int .u32 0, .int .u32 0, .int .u32 0, .int .u32 0, .int .u32 0, .int .u32 0, .int .u32 0, .int .u32 0, .int .u32 0] 44)).alloc (.cells #[.int .i64 0, .int .u32 0, .int .u32 0, .int .i64 0] 66)) = WA at bb cb cr xr u0 b0 o1 h1 ⊢
 have LB := bb.l
 have HB := κ bb
 have HC1 := κ cb
 have CR := κ cr
 have XR := κ xr
 have O1 := κ o1
 have M1 := κ h1
 have U0 := κ (u0.mono (T := P.has) fun _ _ h => h.elim)
 have q0 := bb.c0
 have q1 := bb.c1
 have q2 := bb.c2
 have q3 := bb.c3
 clear bb cb cr xr u0 b0 o1 h1
 go_wp2_with fail
 refine (CK.out _ O1.out).mono ?_
 rintro e w1 ⟨rfl, b1⟩
 have u1 := Upto.of_below (S := fun _ => False) b1
 have HB := κ (HB.out.upto u1 id)
 have HC1 := κ (HC1.out.upto u1 id)
 have CR := κ (CR.out.upto u1 id)
 have XR := κ (XR.out.upto u1 id)
 have O1 := κ (O1.out.keep b1)
 have M1 := κ (M1.out.upto u1 (fun _ _ => id))
 have U0 := κ (U0.out.trans (u1.mono (T := P.has) fun _ _ h => h.elim))
 clear b1 u1 q0 q1 q2 q3
 unfold errs
 go_upto_region 2 with fail
 obtain ⟨ee, hee⟩ : ∃ ee, (chk os cnt byt).1 = ee := ⟨_, rfl⟩
 generalize (chk os cnt byt).2 = ec
 rw [hee]
 by_cases he : ee = 0
 ·subst he
  obtain ⟨hl0, hl1, hop⟩ := chk_ops hee
  have ev : evalO os cnt byt ⟨M, cx, fun _ => 0⟩ = ((evN os os.length ⟨M, cx, fun _ => 0⟩).1, (evN os os.length ⟨M, cx, fun _ => 0⟩).2.1, 0) := by unfold evalO; rw [if_pos hee]
  have CL := fun w h1 h2 => CL.out w h1 h2 hl1 (fun i o ho => opk_of (hop i o ho)) (fun i o ho k0 k1 => opA_of (hop i o ho) k0 k1)
  clear hop hee
  obtain ⟨rv, hrv⟩ : ∃ rv, evN os os.length ⟨M, cx, fun _ => 0⟩ = rv := ⟨_, rfl⟩
  rw [hrv] at ev CL
  have EV := κ ev
  have CL := κ CL
  clear ev hrv
  unfold ctL at CL
  obtain ⟨a0, a1, a2, a3, a4, a5, a6, a7, a8, a9, a10, a11⟩ := HC1.out.all
  have q0 := HB.out.c0
  have q1 := HB.out.c1
  have q2 := HB.out.c2
  have q3 := HB.out.c3
  have lb := HB.out.l
  have lc := HC1.out.l
  go_wp2_with fail
  refine (CL.out _ O1.out M1.out).mono ?_
  rintro e w3 ⟨rfl, m3, u3⟩
  clear a0 a1 a2 a3 a4 a5 a6 a7 a8 a9 a10 a11 q0 q1 q2 q3 lb lc
  have np : ∀ i, w.heap.size ≤ i → ¬ P.has i := fun i hi hp => by have := HPW.out i hp; omega
  have CR := κ (CR.out.upto u3 (np _ (by omega)))
  have XR := κ (XR.out.upto u3 (np _ (by omega)))
  have U0 := κ (U0.out.trans u3)
  have M1 := κ m3
  have l3 : w.heap.size + 1 + 1 + 1 < w3.heap.size := XR.out.l
  clear m3 u3 np HB HC1 O1 CL
  go_upto_region 5 with fail
  have un := ((Upto.refl (fun _ => False) w3).alloc (.cells #[.int .u32 (rv.1.c 0), .int .u32 (rv.1.c 1), .int .u32 (rv.1.c 2), .int .u32 (rv.1.c 3), .int .u32 (rv.1.c 4), .int .u32 (rv.1.c 5), .int .u32 (rv.1.c 6), .int .u32 (rv.1.c 7), .int .u32 (rv.1.c 8), .int .u32 (rv.1.c 9), .int .u32 (rv.1.c 10), .int .u32 (rv.1.c 11)] 44)).alloc (.cells #[.int .i64 rv.2.1.k, .int .u32 rv.2.1.x, .int .u32 rv.2.1.pc, .int .i64 rv.2.1.n] 66)
  have ca := CB.new w3 rv.1.c 44
  have xa := XB4.new (w3.alloc (.cells #[.int .u32 (rv.1.c 0), .int .u32 (rv.1.c 1), .int .u32 (rv.1.c 2), .int .u32 (rv.1.c 3), .int .u32 (rv.1.c 4), .int .u32 (rv.1.c 5), .int .u32 (rv.1.c 6), .int .u32 (rv.1.c 7), .int .u32 (rv.1.c 8), .int .u32 (rv.1.c 9), .int .u32 (rv.1.c 10), .int .u32 (rv.1.c 11)] 44)) rv.2.1.k rv.2.1.x rv.2.1.pc rv.2.1.n 66
  have e1 : (w3.alloc (.cells #[.int .u32 (rv.1.c 0), .int .u32 (rv.1.c 1), .int .u32 (rv.1.c 2), .int .u32 (rv.1.c 3), .int .u32 (rv.1.c 4), .int .u32 (rv.1.c 5), .int .u32 (rv.1.c 6), .int .u32 (rv.1.c 7), .int .u32 (rv.1.c 8), .int .u32 (rv.1.c 9), .int .u32 (rv.1.c 10), .int .u32 (rv.1.c 11)] 44)).heap.size = w3.heap.size + 1 := by simp
  rw [e1] at xa
  unfold ctL at ca
  have ca := ca.upto ((Upto.refl (fun _ => False) _).alloc (.cells #[.int .i64 rv.2.1.k, .int .u32 rv.2.1.x, .int .u32 rv.2.1.pc, .int .i64 rv.2.1.n] 66)) id
  have CR := κ (CR.out.upto un id)
  have XR := κ (XR.out.upto un id)
  have M1 := κ (M1.out.upto un (fun _ _ => id))
  have U0 := κ (U0.out.trans (un.mono (T := P.has) fun _ _ h => h.elim))
  generalize (w3.alloc (.cells #[.int .u32 (rv.1.c 0), .int .u32 (rv.1.c 1), .int .u32 (rv.1.c 2), .int .u32 (rv.1.c 3), .int .u32 (rv.1.c 4), .int .u32 (rv.1.c 5), .int .u32 (rv.1.c 6), .int .u32 (rv.1.c 7), .int .u32 (rv.1.c 8), .int .u32 (rv.1.c 9), .int .u32 (rv.1.c 10), .int .u32 (rv.1.c 11)] 44)).alloc (.cells #[.int .i64 rv.2.1.k, .int .u32 rv.2.1.x, .int .u32 rv.2.1.pc, .int .i64 rv.2.1.n] 66) = W6 at un ca xa CR XR M1 U0 ⊢
  clear un e1
  obtain ⟨a0, a1, a2, a3, a4, a5, a6, a7, a8, a9, a10, a11⟩ := ca.all
  have lA6 := ca.l
  have d0 := xa.c0
  have d1 := xa.c1
  have d2 := xa.c2
  have d3 := xa.c3
  have lx6 := xa.l
  clear ca xa
  have r0 := CR.out.r 0 (by omega)
  have z0 := CR.out.z 0
  have r1 := CR.out.r 1 (by omega)
  have z1 := CR.out.z 1
  have r2 := CR.out.r 2 (by omega)
  have z2 := CR.out.z 2
  have r3 := CR.out.r 3 (by omega)
  have z3 := CR.out.z 3
  have r4 := CR.out.r 4 (by omega)
  have z4 := CR.out.z 4
  have r5 := CR.out.r 5 (by omega)
  have z5 := CR.out.z 5
  have r6 := CR.out.r 6 (by omega)
  have z6 := CR.out.z 6
  have r7 := CR.out.r 7 (by omega)
  have z7 := CR.out.z 7
  have r8 := CR.out.r 8 (by omega)
  have z8 := CR.out.z 8
  have r9 := CR.out.r 9 (by omega)
  have z9 := CR.out.z 9
  have r10 := CR.out.r 10 (by omega)
  have z10 := CR.out.z 10
  have r11 := CR.out.r 11 (by omega)
  have z11 := CR.out.z 11
  have y0 := XR.out.c0
  have v0 := XR.out.z 0
  have y1 := XR.out.c1
  have v1 := XR.out.z 1
  have y2 := XR.out.c2
  have v2 := XR.out.z 2
  have y3 := XR.out.c3
  have v3 := XR.out.z 3
  have lr := CR.out.l
  have ly := XR.out.l
  go_region
  clear a0 a1 a2 a3 a4 a5 a6 a7 a8 a9 a10 a11 d0 d1 d2 d3 lx6 lA6
  clear r0 z0 r1 z1 r2 z2 r3 z3 r4 z4 r5 z5 r6 z6 r7 z7 r8 z8 r9 z9 r10 z10 r11 z11 y0 v0 y1 v1 y2 v2 y3 v3 lr ly
  have c8 := CR.out.put rv.1.c
  have v8 := up_put12 (S := fun i => i = w.heap.size + 1 + 1) (h := w.heap.size + 1 + 1) (Upto.refl _ W6) (.inl rfl) rv.1.c
  have u8 := up_put12 (h := w.heap.size + 1 + 1) U0.out (.inr (Nat.le_trans (Nat.le_succ _) (Nat.le_succ _))) rv.1.c
  have x8 := XR.out.upto v8 (by omega)
  have m8 := RM.upto (S := fun i => i = w.heap.size + 1 + 1) M1.out v8 (fun i hi => by have := HPW.out i hi; omega)
  generalize ((((((((((((W6.setCell ⟨w.heap.size + 1 + 1, 0, none⟩ (.int .u32 (rv.1.c 0))).setCell ⟨w.heap.size + 1 + 1, 1, none⟩ (.int .u32 (rv.1.c 1))).setCell ⟨w.heap.size + 1 + 1, 2, none⟩ (.int .u32 (rv.1.c 2))).setCell ⟨w.heap.size + 1 + 1, 3, none⟩ (.int .u32 (rv.1.c 3))).setCell ⟨w.heap.size + 1 + 1, 4, none⟩ (.int .u32 (rv.1.c 4))).setCell ⟨w.heap.size + 1 + 1, 5, none⟩ (.int .u32 (rv.1.c 5))).setCell ⟨w.heap.size + 1 + 1, 6, none⟩ (.int .u32 (rv.1.c 6))).setCell ⟨w.heap.size + 1 + 1, 7, none⟩ (.int .u32 (rv.1.c 7))).setCell ⟨w.heap.size + 1 + 1, 8, none⟩ (.int .u32 (rv.1.c 8))).setCell ⟨w.heap.size + 1 + 1, 9, none⟩ (.int .u32 (rv.1.c 9))).setCell ⟨w.heap.size + 1 + 1, 10, none⟩ (.int .u32 (rv.1.c 10))).setCell ⟨w.heap.size + 1 + 1, 11, none⟩ (.int .u32 (rv.1.c 11))) = W8 at c8 v8 u8 x8 m8 ⊢
  have v9 := up_put4 (S := fun i => i = w.heap.size + 1 + 1 + 1) (h := w.heap.size + 1 + 1 + 1) (Upto.refl _ W8) (.inl rfl) rv.2.1.k rv.2.1.x rv.2.1.pc rv.2.1.n
  have u9 := (up_put4 (h := w.heap.size + 1 + 1 + 1) u8 (.inr (Nat.le_trans (Nat.le_succ _) (Nat.le_trans (Nat.le_succ _) (Nat.le_succ _)))) rv.2.1.k rv.2.1.x rv.2.1.pc rv.2.1.n)
  have x9 := x8.set rv.2.1.k rv.2.1.x rv.2.1.pc rv.2.1.n
  have c9 := c8.upto v9 (by omega)
  have m9 := RM.upto (S := fun i => i = w.heap.size + 1 + 1 + 1) m8 v9 (fun i hi => by have := HPW.out i hi; omega)
  have u9 := u9.drew
  have m9 := RM.upto (S := fun _ => False) m9 (Upto.refl (fun _ => False) _).drew (fun _ _ => id)
  have c9 := c9.drew
  have x9 := x9.upto (Upto.refl (fun _ => False) _).drew id
  generalize World.drew ((((W8.setCell ⟨w.heap.size + 1 + 1 + 1, 0, none⟩ (.int .i64 rv.2.1.k)).setCell ⟨w.heap.size + 1 + 1 + 1, 1, none⟩ (.int .u32 rv.2.1.x)).setCell ⟨w.heap.size + 1 + 1 + 1, 2, none⟩ (.int .u32 rv.2.1.pc)).setCell ⟨w.heap.size + 1 + 1 + 1, 3, none⟩ (.int .i64 rv.2.1.n)) = W9 at u9 x9 c9 m9 ⊢
  obtain ⟨g0, g1, g2, g3, g4, g5, g6, g7, g8, g9, g10, g11⟩ := c9.all
  have o0 := x9.c0
  have o1 := x9.c1
  have o2 := x9.c2
  have o3 := x9.c3
  go_wp2_with fail
  exact bodyPost_ret (v := .tuple #[.agg (ctL rv.1.c), .agg #[.int .i64 rv.2.1.k, .int .u32 rv.2.1.x, .int .u32 rv.2.1.pc, .int .i64 rv.2.1.n], .int .i64 0]) (by simp [ctL, results, Tryz.results30, go_sem, g0, g1, g2, g3, g4, g5, g6, g7, g8, g9, g10, g11, o0, o1, o2, o3]) rfl ⟨by rw [EV.out]; rfl, by rw [EV.out]; exact m9, u9⟩
 ·have ev : evalO os cnt byt ⟨M, cx, fun _ => 0⟩ = (⟨M, cx, fun _ => 0⟩, ⟨0, 0, 0, 0⟩, ee) := by unfold evalO; rw [hee, if_neg he]
  have EV := κ ev
  have eb : (ee == 0) = false := by rw [beq_eq_false_iff_ne]; exact he
  have eb' : (ee != 0) = true := by rw [bne, eb]; rfl
  clear ev hee he CL
  obtain ⟨a0, a1, a2, a3, a4, a5, a6, a7, a8, a9, a10, a11⟩ := HC1.out.all
  have lc := HC1.out.l
  have r0 := CR.out.r 0 (by omega)
  have z0 := CR.out.z 0
  have r1 := CR.out.r 1 (by omega)
  have z1 := CR.out.z 1
  have r2 := CR.out.r 2 (by omega)
  have z2 := CR.out.z 2
  have r3 := CR.out.r 3 (by omega)
  have z3 := CR.out.z 3
  have r4 := CR.out.r 4 (by omega)
  have z4 := CR.out.z 4
  have r5 := CR.out.r 5 (by omega)
  have z5 := CR.out.z 5
  have r6 := CR.out.r 6 (by omega)
  have z6 := CR.out.z 6
  have r7 := CR.out.r 7 (by omega)
  have z7 := CR.out.z 7
  have r8 := CR.out.r 8 (by omega)
  have z8 := CR.out.z 8
  have r9 := CR.out.r 9 (by omega)
  have z9 := CR.out.z 9
  have r10 := CR.out.r 10 (by omega)
  have z10 := CR.out.z 10
  have r11 := CR.out.r 11 (by omega)
  have z11 := CR.out.z 11
  have y0 := XR.out.c0
  have v0 := XR.out.z 0
  have y1 := XR.out.c1
  have v1 := XR.out.z 1
  have y2 := XR.out.c2
  have v2 := XR.out.z 2
  have y3 := XR.out.c3
  have v3 := XR.out.z 3
  have lr := CR.out.l
  have ly := XR.out.l
  go_upto_region 3 with fail
  go_wp2_with fail
  clear a0 a1 a2 a3 a4 a5 a6 a7 a8 a9 a10 a11 lc
  clear r0 z0 r1 z1 r2 z2 r3 z3 r4 z4 r5 z5 r6 z6 r7 z7 r8 z8 r9 z9 r10 z10 r11 z11 y0 v0 y1 v1 y2 v2 y3 v3 lr ly
  have c8 := CR.out.put cx
  have v8 := up_put12 (S := fun i => i = w.heap.size + 1 + 1) (h := w.heap.size + 1 + 1) (Upto.refl _ w1) (.inl rfl) cx
  have u8 := up_put12 (h := w.heap.size + 1 + 1) U0.out (.inr (Nat.le_trans (Nat.le_succ _) (Nat.le_succ _))) cx
  have x8 := XR.out.upto v8 (by omega)
  have m8 := RM.upto (S := fun i => i = w.heap.size + 1 + 1) M1.out v8 (fun i hi => by have := HPW.out i hi; omega)
  generalize ((((((((((((w1.setCell ⟨w.heap.size + 1 + 1, 0, none⟩ (.int .u32 (cx 0))).setCell ⟨w.heap.size + 1 + 1, 1, none⟩ (.int .u32 (cx 1))).setCell ⟨w.heap.size + 1 + 1, 2, none⟩ (.int .u32 (cx 2))).setCell ⟨w.heap.size + 1 + 1, 3, none⟩ (.int .u32 (cx 3))).setCell ⟨w.heap.size + 1 + 1, 4, none⟩ (.int .u32 (cx 4))).setCell ⟨w.heap.size + 1 + 1, 5, none⟩ (.int .u32 (cx 5))).setCell ⟨w.heap.size + 1 + 1, 6, none⟩ (.int .u32 (cx 6))).setCell ⟨w.heap.size + 1 + 1, 7, none⟩ (.int .u32 (cx 7))).setCell ⟨w.heap.size + 1 + 1, 8, none⟩ (.int .u32 (cx 8))).setCell ⟨w.heap.size + 1 + 1, 9, none⟩ (.int .u32 (cx 9))).setCell ⟨w.heap.size + 1 + 1, 10, none⟩ (.int .u32 (cx 10))).setCell ⟨w.heap.size + 1 + 1, 11, none⟩ (.int .u32 (cx 11))) = W8 at c8 v8 u8 x8 m8 ⊢
  have v9 := up_put4 (S := fun i => i = w.heap.size + 1 + 1 + 1) (h := w.heap.size + 1 + 1 + 1) (Upto.refl _ W8) (.inl rfl) 0 0 0 0
  have u9 := (up_put4 (h := w.heap.size + 1 + 1 + 1) u8 (.inr (Nat.le_trans (Nat.le_succ _) (Nat.le_trans (Nat.le_succ _) (Nat.le_succ _)))) 0 0 0 0)
  have x9 := x8.set 0 0 0 0
  have c9 := c8.upto v9 (by omega)
  have m9 := RM.upto (S := fun i => i = w.heap.size + 1 + 1 + 1) m8 v9 (fun i hi => by have := HPW.out i hi; omega)
  generalize ((((W8.setCell ⟨w.heap.size + 1 + 1 + 1, 0, none⟩ (.int .i64 0)).setCell ⟨w.heap.size + 1 + 1 + 1, 1, none⟩ (.int .u32 0)).setCell ⟨w.heap.size + 1 + 1 + 1, 2, none⟩ (.int .u32 0)).setCell ⟨w.heap.size + 1 + 1 + 1, 3, none⟩ (.int .i64 0)) = W9 at u9 x9 c9 m9 ⊢
  obtain ⟨g0, g1, g2, g3, g4, g5, g6, g7, g8, g9, g10, g11⟩ := c9.all
  have o0 := x9.c0
  have o1 := x9.c1
  have o2 := x9.c2
  have o3 := x9.c3
  exact bodyPost_ret (v := .tuple #[.agg (ctL cx), .agg #[.int .i64 0, .int .u32 0, .int .u32 0, .int .i64 0], .int .i64 ee]) (by simp [ctL, results, Tryz.results30, go_sem, g0, g1, g2, g3, g4, g5, g6, g7, g8, g9, g10, g11, o0, o1, o2, o3]) rfl ⟨by rw [EV.out]; rfl, by rw [EV.out]; exact m9, u9⟩
end Go.Proofs.YtcjcmnnhmajocabGreat.Ev
namespace Go.Proofs.YtcjcmnnhmajocabGreat.Kt
open Go
variable {P : Program}
theorem eqFields_self (d : Nat) (xs : Array Value) : ∀ (fs : List Field) (w : World), (∀ f ∈ fs, ∃ v, (∀ w, (part f.type xs f.offset).run P w = .ok v w) ∧ ∀ w, (Op.equalIn d f.type v v).run P w = .ok true w) →
  (Op.eqFields d xs xs fs).run P w = .ok true w
 | [], w, _ => by simp [Op.eqFields]
 | f :: fs, w, h => by
  obtain ⟨v, hv, he⟩ := h f (by simp)
  have ih := eqFields_self d xs fs w (fun j hj => h j (by simp [hj]))
  simp only [Op.eqFields]
  split
  ·simp only [Sem.run_bind, hv, he, Result.andThen_ok]
   simpa using ih
  ·exact ih
theorem eql_struct {t : TypeId} (ht : P.underlying t = some (.struct (P.fieldsOf t))) (hp : P.stoodInHeld t = false) (xs : Array Value)
  (h : ∀ f ∈ (P.fieldsOf t).toList, ∃ v, (∀ w, (part f.type xs f.offset).run P w = .ok v w) ∧ ∀ w, (Op.equalIn 9999 f.type v v).run P w = .ok true w) : ∀ (w : World), (binOp .eql t (.agg xs) (.agg xs)).run P w = .ok (.bool true) w := by
 intro w
 rw [run_eql_struct, run_equalIn_struct w 9999 t xs xs ht hp, eqFields_self 9999 xs _ w h]
 rfl
end Go.Proofs.YtcjcmnnhmajocabGreat.Kt
namespace Go.Proofs.YtcjcmnnhmajocabGreat.Ir
open Go Kt
end Go.Proofs.YtcjcmnnhmajocabGreat.Ir
namespace Go.Proofs.YtcjcmnnhmajocabGreat.Ev
open Go Kt
theorem eq_stop (d : Nat) (k x : Int) : ∀ w : World, (Op.equalIn (d + 2) 55 (.agg #[.int .i64 k, .int .u32 x]) (.agg #[.int .i64 k, .int .u32 x])).run Tryz.prog w = .ok true w := by
 intro w
 rw [run_equalIn_struct w (d + 1) 55 _ _ (by kernel_rfl) (by kernel_rfl)]
 refine eqFields_self (d + 1) _ _ w ?_
 have hl : (Tryz.prog.fieldsOf 55).toList = [(Tryz.prog.fieldsOf 55)[0]!, (Tryz.prog.fieldsOf 55)[1]!] := by kernel_rfl
 rw [hl]
 refine List.forall_mem_cons.2 ⟨?_, List.forall_mem_cons.2 ⟨?_, fun f hf => (List.not_mem_nil hf).elim⟩⟩
 ·refine ⟨.int .i64 k, fun w => by kernel_rfl, fun w => ?_⟩
  have := run_equalIn_int (P := Tryz.prog) w d ((Tryz.prog.fieldsOf 55)[0]!).type .i64 .i64 k k (by kernel_rfl)
  simpa using this
 ·refine ⟨.int .u32 x, fun w => by kernel_rfl, fun w => ?_⟩
  have := run_equalIn_int (P := Tryz.prog) w d ((Tryz.prog.fieldsOf 55)[1]!).type .u32 .u32 x x (by kernel_rfl)
  simpa using this
theorem eq_exit (k x p n : Int) : ∀ w : World, (binOp .eql 66 (.agg #[.int .i64 k, .int .u32 x, .int .u32 p, .int .i64 n]) (.agg #[.int .i64 k, .int .u32 x, .int .u32 p, .int .i64 n])).run Tryz.prog w = .ok (.bool true) w := by
 refine eql_struct (by kernel_rfl) (by kernel_rfl) _ ?_
 have hl : (Tryz.prog.fieldsOf 66).toList = [(Tryz.prog.fieldsOf 66)[0]!, (Tryz.prog.fieldsOf 66)[1]!, (Tryz.prog.fieldsOf 66)[2]!] := by kernel_rfl
 rw [hl]
 refine List.forall_mem_cons.2 ⟨?_, List.forall_mem_cons.2 ⟨?_, List.forall_mem_cons.2 ⟨?_, fun f hf => (List.not_mem_nil hf).elim⟩⟩⟩
 ·have ht : ((Tryz.prog.fieldsOf 66)[0]!).type = 55 := by kernel_rfl
  refine ⟨.agg #[.int .i64 k, .int .u32 x], fun w => by kernel_rfl, ?_⟩
  rw [ht]
  have h9 : (9999 : Nat) = 9997 + 2 := by kernel_rfl
  rw [h9]
  exact eq_stop 9997 k x
 ·refine ⟨.int .u32 p, fun w => by kernel_rfl, fun w => ?_⟩
  have := run_equalIn_int (P := Tryz.prog) w 9998 ((Tryz.prog.fieldsOf 66)[1]!).type .u32 .u32 p p (by kernel_rfl)
  simpa using this
 ·refine ⟨.int .i64 n, fun w => by kernel_rfl, fun w => ?_⟩
  have := run_equalIn_int (P := Tryz.prog) w 9998 ((Tryz.prog.fieldsOf 66)[2]!).type .i64 .i64 n n (by kernel_rfl)
  simpa using this
end Go.Proofs.YtcjcmnnhmajocabGreat.Ev
namespace Go.Proofs.YtcjcmnnhmajocabGreat.Gn
open Go.RowKit Kt Me
/-- a row of the call's own -/
def NRow (g n : Nat) (f : Nat → Value) (W : World) : Prop := g < W.heap.size ∧ (∀ j, j < n → W.cell? ⟨g, j, none⟩ = some (f j)) ∧ ∀ j, W.frozen? ⟨g, j, none⟩ = false
theorem NRow.keep {g n : Nat} {f : Nat → Value} {W W' : World} (h : NRow g n f W) (b : Below W.heap.size W W') : NRow g n f W' :=
 ⟨Nat.lt_of_lt_of_le h.1 b.size, fun j hj => (b.cell (p := ⟨g, j, none⟩) h.1).trans (h.2.1 j hj), fun j => (b.frozen (p := ⟨g, j, none⟩) h.1).trans (h.2.2 j)⟩
theorem bool_info : ∃ i, Tryz.prog.info? 4 = some i ∧ i.zero = some (.bool false) ∧ i.size = 1 ∧ i.bytes = 1 := by
 have h : (Tryz.prog.info? 4).map (fun i => (i.zero, i.size, i.bytes)) = some (some (.bool false), 1, 1) := by kernel_rfl
 obtain ⟨i, hi, hz⟩ := Option.map_eq_some_iff.1 h
 simp only [Prod.mk.injEq] at hz
 exact ⟨i, hi, hz⟩
theorem step_cu {ops : Array Oper} {o : Oper} {a : Act} {w : World} {K : Act → World → Prop} {Q : Exit → Act → World → Prop} {E : Prop}
  (hg : o.guard = none) (x : Operand) (hop : o.op = Op.call { callee := Callee.builtin Builtin.append, args := #[.const (.slice none 0 0), x], argTypes := #[34, 34] })
  (f : Nat → Int) (b n cap : Nat) (hx : a.eval x = .slice (some ⟨b, 0, none⟩) n cap) (hc : ∀ j, j < n → w.cell? ⟨b, j, none⟩ = some (Value.int .u8 (f j))) (h0 : 0 < n) (hb : n ≤ 65536)
  (hK : ∀ g c w', w.heap.size ≤ g → n ≤ c → NRow g n (fun j => Value.int .u8 (f j)) w' → Below w.heap.size w w' → K (a.put o.dst (.slice (some ⟨g, 0, none⟩) n c)) w') :
  if Region.wanted o (yielded ops a.tmps) = true then Oper.wp Tryz.prog o a w K Q else E := by
 have hw : Region.wanted o (yielded ops a.tmps) = true := by simp [Region.wanted, hg]
 rw [if_pos hw]
 obtain ⟨i, hi, hz, hsz, hby⟩ := Gu.u8_info
 have hmx : (maxLen : Nat) = 9223372036854775807 := rfl
 have el : ((List.range n).map fun j => Value.int .u8 (f j)).length = n := by simp
 have e1 : ∀ j u, ((List.range n).map fun j => Value.int .u8 (f j))[j]? = some u → w.cell? ((⟨b, 0, none⟩ : Addr).add j) = some u := by
  intro j u hj
  rw [List.getElem?_map] at hj
  obtain ⟨z, hz, rfl⟩ := Option.map_eq_some_iff.1 hj
  obtain ⟨hlt, hz⟩ := List.getElem?_eq_some_iff.1 hz
  rw [List.length_range] at hlt
  rw [List.getElem_range] at hz
  subst hz
  rw [Addr.add_lit, Nat.zero_add]
  exact hc j hlt
 have e2 : ∀ u ∈ (List.range n).map (fun j => Value.int .u8 (f j)), u.oneCell' = true := by
  intro u hu
  obtain ⟨z, _, rfl⟩ := List.mem_map.1 hu
  rfl
 obtain ⟨v', w', hrun, r1, r2, _⟩ := run_append_own (P := Tryz.prog) w w.heap.size 34 o.type 5 i (.int .u8 0) 1 1 Tryz.underlying34 hi hz hsz hby rfl Nat.one_pos (.slice none 0 0) 0 [] (World.ownsRow_nil w _ _ _) ⟨b, 0, none⟩ n cap ((List.range n).map fun j => Value.int .u8 (f j)) (by simp) e1 e2 (by omega) (by omega) (Nat.le_refl _)
 have hB : Below w.heap.size w w' := (Below.refl _ _).grown r2 (Nat.le_refl _) (fun k hk => by cases hk)
 have hv : ∃ g c, v' = .slice (some ⟨g, 0, none⟩) n c ∧ w.heap.size ≤ g ∧ n ≤ c ∧ NRow g n (fun j => Value.int .u8 (f j)) w' := by
  rcases r1.2 with ⟨_, hn⟩ | ⟨g, c1, cur, e, hg, hrow, hle, hmx, hsz, htk⟩
  ·simp at hn; omega
  ·simp only [Nat.zero_add, List.nil_append] at e hle htk
   refine ⟨g, c1, e, hg, by simpa using hle, (Array.getElem?_eq_some_iff.1 hrow).1, fun j hj => ?_, fun j => frozen_of_row _ _ _ _ _ hrow⟩
   rw [cell_of_row w' g j _ _ _ hrow, ← Array.getElem?_toList]
   have h2 : (cur.toList.take (n * 1))[j]? = ((List.range n).map fun j => Value.int .u8 (f j))[j]? := by rw [htk]
   rw [Nat.mul_one, List.getElem?_take, if_pos hj, List.getElem?_map, List.getElem?_range hj] at h2
   rw [h2]; rfl
 obtain ⟨g, c, rfl, hg, hle, hr⟩ := hv
 unfold Oper.wp
 have hs : a.eval (.const (.slice none 0 0)) = .slice none 0 0 := rfl
 simp [execOp, hop, resolve, invoke, builtin, hs, hx, hrun, Result.andThen]
 exact hK g c w' hg hle hr hB
theorem step_ci {ops : Array Oper} {o : Oper} {a : Act} {w : World} {K : Act → World → Prop} {Q : Exit → Act → World → Prop} {E : Prop}
  (hg : o.guard = none) (x : Operand) (hop : o.op = Op.call { callee := Callee.builtin Builtin.append, args := #[.const (.slice none 0 0), x], argTypes := #[45, 45] })
  (f : Nat → Int) (b n cap : Nat) (hx : a.eval x = .slice (some ⟨b, 0, none⟩) n cap) (hc : ∀ j, j < n → w.cell? ⟨b, j, none⟩ = some (Value.int .i64 (f j))) (h0 : 0 < n) (hb : n ≤ 65536)
  (hK : ∀ g c w', w.heap.size ≤ g → n ≤ c → NRow g n (fun j => Value.int .i64 (f j)) w' → Below w.heap.size w w' → K (a.put o.dst (.slice (some ⟨g, 0, none⟩) n c)) w') :
  if Region.wanted o (yielded ops a.tmps) = true then Oper.wp Tryz.prog o a w K Q else E := by
 have hw : Region.wanted o (yielded ops a.tmps) = true := by simp [Region.wanted, hg]
 rw [if_pos hw]
 obtain ⟨i, hi, hz, hsz, hby⟩ := i64_info
 have hmx : (maxLen : Nat) = 9223372036854775807 := rfl
 have el : ((List.range n).map fun j => Value.int .i64 (f j)).length = n := by simp
 have e1 : ∀ j u, ((List.range n).map fun j => Value.int .i64 (f j))[j]? = some u → w.cell? ((⟨b, 0, none⟩ : Addr).add j) = some u := by
  intro j u hj
  rw [List.getElem?_map] at hj
  obtain ⟨z, hz, rfl⟩ := Option.map_eq_some_iff.1 hj
  obtain ⟨hlt, hz⟩ := List.getElem?_eq_some_iff.1 hz
  rw [List.length_range] at hlt
  rw [List.getElem_range] at hz
  subst hz
  rw [Addr.add_lit, Nat.zero_add]
  exact hc j hlt
 have e2 : ∀ u ∈ (List.range n).map (fun j => Value.int .i64 (f j)), u.oneCell' = true := by
  intro u hu
  obtain ⟨z, _, rfl⟩ := List.mem_map.1 hu
  rfl
 obtain ⟨v', w', hrun, r1, r2, _⟩ := run_append_own (P := Tryz.prog) w w.heap.size 45 o.type 3 i (.int .i64 0) 1 8 Tryz.underlying45 hi hz hsz hby rfl Nat.one_pos (.slice none 0 0) 0 [] (World.ownsRow_nil w _ _ _) ⟨b, 0, none⟩ n cap ((List.range n).map fun j => Value.int .i64 (f j)) (by simp) e1 e2 (by omega) (by omega) (Nat.le_refl _)
 have hB : Below w.heap.size w w' := (Below.refl _ _).grown r2 (Nat.le_refl _) (fun k hk => by cases hk)
 have hv : ∃ g c, v' = .slice (some ⟨g, 0, none⟩) n c ∧ w.heap.size ≤ g ∧ n ≤ c ∧ NRow g n (fun j => Value.int .i64 (f j)) w' := by
  rcases r1.2 with ⟨_, hn⟩ | ⟨g, c1, cur, e, hg, hrow, hle, hmx, hsz, htk⟩
  ·simp at hn; omega
  ·simp only [Nat.zero_add, List.nil_append] at e hle htk
   refine ⟨g, c1, e, hg, by simpa using hle, (Array.getElem?_eq_some_iff.1 hrow).1, fun j hj => ?_, fun j => frozen_of_row _ _ _ _ _ hrow⟩
   rw [cell_of_row w' g j _ _ _ hrow, ← Array.getElem?_toList]
   have h2 : (cur.toList.take (n * 1))[j]? = ((List.range n).map fun j => Value.int .i64 (f j))[j]? := by rw [htk]
   rw [Nat.mul_one, List.getElem?_take, if_pos hj, List.getElem?_map, List.getElem?_range hj] at h2
   rw [h2]; rfl
 obtain ⟨g, c, rfl, hg, hle, hr⟩ := hv
 unfold Oper.wp
 have hs : a.eval (.const (.slice none 0 0)) = .slice none 0 0 := rfl
 simp [execOp, hop, resolve, invoke, builtin, hs, hx, hrun, Result.andThen]
 exact hK g c w' hg hle hr hB
theorem step_cb {ops : Array Oper} {o : Oper} {a : Act} {w : World} {K : Act → World → Prop} {Q : Exit → Act → World → Prop} {E : Prop}
  (hg : o.guard = none) (x : Operand) (hop : o.op = Op.call { callee := Callee.builtin Builtin.append, args := #[.const (.slice none 0 0), x], argTypes := #[131, 131] })
  (f : Nat → Bool) (b n cap : Nat) (hx : a.eval x = .slice (some ⟨b, 0, none⟩) n cap) (hc : ∀ j, j < n → w.cell? ⟨b, j, none⟩ = some (Value.bool (f j))) (h0 : 0 < n) (hb : n ≤ 65536)
  (hK : ∀ g c w', w.heap.size ≤ g → n ≤ c → NRow g n (fun j => Value.bool (f j)) w' → Below w.heap.size w w' → K (a.put o.dst (.slice (some ⟨g, 0, none⟩) n c)) w') :
  if Region.wanted o (yielded ops a.tmps) = true then Oper.wp Tryz.prog o a w K Q else E := by
 have hw : Region.wanted o (yielded ops a.tmps) = true := by simp [Region.wanted, hg]
 rw [if_pos hw]
 obtain ⟨i, hi, hz, hsz, hby⟩ := bool_info
 have hmx : (maxLen : Nat) = 9223372036854775807 := rfl
 have el : ((List.range n).map fun j => Value.bool (f j)).length = n := by simp
 have e1 : ∀ j u, ((List.range n).map fun j => Value.bool (f j))[j]? = some u → w.cell? ((⟨b, 0, none⟩ : Addr).add j) = some u := by
  intro j u hj
  rw [List.getElem?_map] at hj
  obtain ⟨z, hz, rfl⟩ := Option.map_eq_some_iff.1 hj
  obtain ⟨hlt, hz⟩ := List.getElem?_eq_some_iff.1 hz
  rw [List.length_range] at hlt
  rw [List.getElem_range] at hz
  subst hz
  rw [Addr.add_lit, Nat.zero_add]
  exact hc j hlt
 have e2 : ∀ u ∈ (List.range n).map (fun j => Value.bool (f j)), u.oneCell' = true := by
  intro u hu
  obtain ⟨z, _, rfl⟩ := List.mem_map.1 hu
  rfl
 obtain ⟨v', w', hrun, r1, r2, _⟩ := run_append_own (P := Tryz.prog) w w.heap.size 131 o.type 4 i (.bool false) 1 1 Tryz.underlying131 hi hz hsz hby rfl Nat.one_pos (.slice none 0 0) 0 [] (World.ownsRow_nil w _ _ _) ⟨b, 0, none⟩ n cap ((List.range n).map fun j => Value.bool (f j)) (by simp) e1 e2 (by omega) (by omega) (Nat.le_refl _)
 have hB : Below w.heap.size w w' := (Below.refl _ _).grown r2 (Nat.le_refl _) (fun k hk => by cases hk)
 have hv : ∃ g c, v' = .slice (some ⟨g, 0, none⟩) n c ∧ w.heap.size ≤ g ∧ n ≤ c ∧ NRow g n (fun j => Value.bool (f j)) w' := by
  rcases r1.2 with ⟨_, hn⟩ | ⟨g, c1, cur, e, hg, hrow, hle, hmx, hsz, htk⟩
  ·simp at hn; omega
  ·simp only [Nat.zero_add, List.nil_append] at e hle htk
   refine ⟨g, c1, e, hg, by simpa using hle, (Array.getElem?_eq_some_iff.1 hrow).1, fun j hj => ?_, fun j => frozen_of_row _ _ _ _ _ hrow⟩
   rw [cell_of_row w' g j _ _ _ hrow, ← Array.getElem?_toList]
   have h2 : (cur.toList.take (n * 1))[j]? = ((List.range n).map fun j => Value.bool (f j))[j]? := by rw [htk]
   rw [Nat.mul_one, List.getElem?_take, if_pos hj, List.getElem?_map, List.getElem?_range hj] at h2
   rw [h2]; rfl
 obtain ⟨g, c, rfl, hg, hle, hr⟩ := hv
 unfold Oper.wp
 have hs : a.eval (.const (.slice none 0 0)) = .slice none 0 0 := rfl
 simp [execOp, hop, resolve, invoke, builtin, hs, hx, hrun, Result.andThen]
 exact hK g c w' hg hle hr hB
theorem rm_q4 {P : RP} {M : MM} {w' : World} (h : RM P M w') : w'.cell? ⟨P.q, 0, none⟩ = some (.slice (some ⟨P.b, 0, none⟩) 65536 P.cb) ∧ w'.cell? ⟨P.q, 1, none⟩ = some (.slice (some ⟨P.r, 0, none⟩) 256 P.cr) ∧ w'.cell? ⟨P.q, 2, none⟩ = some (.slice (some ⟨P.m, 0, none⟩) 256 P.cm) ∧ w'.cell? ⟨P.q, 3, none⟩ = some (.slice (some ⟨P.t, 0, none⟩) 256 P.ct) := ⟨h.hq0, h.hq1, h.hq2, h.hq3⟩
/-- the copy -/
theorem RM.made {M : MM} {W : World} {gb gr gm gt cb cr cm ct : Nat} (hcb : 65536 ≤ cb) (b : NRow gb 65536 (fun j => .int .u8 (M.by_ j)) W) (r : NRow gr 256 (fun j => .int .i64 (M.rt j)) W) (m : NRow gm 256 (fun j => .bool (M.wd j)) W) (t : NRow gt 256 (fun j => .bool (M.hi j)) W)
  (h : gb ≠ gr ∧ gb ≠ gm ∧ gb ≠ gt ∧ gr ≠ gm ∧ gr ≠ gt ∧ gm ≠ gt) : RM ⟨W.heap.size, gb, gr, gm, gt, cb, cr, cm, ct, hcb⟩ M (W.alloc (.cells #[.slice (some ⟨gb, 0, none⟩) 65536 cb, .slice (some ⟨gr, 0, none⟩) 256 cr, .slice (some ⟨gm, 0, none⟩) 256 cm, .slice (some ⟨gt, 0, none⟩) 256 ct] 133)) := by
 generalize hz : (.cells #[.slice (some ⟨gb, 0, none⟩) 65536 cb, .slice (some ⟨gr, 0, none⟩) 256 cr, .slice (some ⟨gm, 0, none⟩) 256 cm, .slice (some ⟨gt, 0, none⟩) 256 ct] 133 : Obj) = Z
 have tq := (blk_top W Z _ rfl).trans (congrArg some hz.symm)
 have B : Below W.heap.size W (W.alloc Z) := (Below.refl _ _).alloc (Nat.le_refl _) _
 have hb1 : gb < W.heap.size ∧ gr < W.heap.size ∧ gm < W.heap.size ∧ gt < W.heap.size := ⟨b.1, r.1, m.1, t.1⟩
 have b := b.keep B
 have r := r.keep B
 have m := m.keep B
 have t := t.keep B
 have sz : (W.alloc Z).heap.size = W.heap.size + 1 := by simp
 refine ⟨?_, ?_, ?_, ?_, ?_, b.2.1, r.2.1, m.2.1, t.2.1, b.2.2, r.2.2, m.2.2, t.2.2, ?_, b.1, r.1, m.1, t.1⟩
 ·have := b.1
  have b1 := hb1
  show W.heap.size ≠ gb ∧ W.heap.size ≠ gr ∧ W.heap.size ≠ gm ∧ W.heap.size ≠ gt ∧ gb ≠ gr ∧ gb ≠ gm ∧ gb ≠ gt ∧ gr ≠ gm ∧ gr ≠ gt ∧ gm ≠ gt
  omega
 ·rw [cell_of_row _ _ _ _ _ _ tq]; rfl
 ·rw [cell_of_row _ _ _ _ _ _ tq]; rfl
 ·rw [cell_of_row _ _ _ _ _ _ tq]; rfl
 ·rw [cell_of_row _ _ _ _ _ _ tq]; rfl
 ·show W.heap.size < _; omega
theorem copy_any (P : RP) (M : MM) (w : World) (h : RM P M w) :
  Calls Tryz.prog 31 #[.pointer (some ⟨P.q, 0, none⟩)] w fun e w' => ∃ Q : RP, e = .returned (.pointer (some ⟨Q.q, 0, none⟩)) ∧ RM Q M w' ∧ Below w.heap.size w w' ∧ ∀ k, Q.has k → w.heap.size ≤ k := by
 have HR := κ h.drew
 have BB := κ (show Below w.heap.size w w.drew from (Below.refl _ _).drew)
 clear h
 go_enter Tryz.func31, Tryz.ntmps31
 go_upto_region 1 with fail
 go_region_held3 (fun w' => w'.cell? ⟨P.q, 0, none⟩ = some (.slice (some ⟨P.b, 0, none⟩) 65536 P.cb) ∧ w'.cell? ⟨P.q, 1, none⟩ = some (.slice (some ⟨P.r, 0, none⟩) 256 P.cr) ∧ w'.cell? ⟨P.q, 2, none⟩ = some (.slice (some ⟨P.m, 0, none⟩) 256 P.cm) ∧ w'.cell? ⟨P.q, 3, none⟩ = some (.slice (some ⟨P.t, 0, none⟩) 256 P.ct)) (first | exact rm_q4 HR.out | exact rm_q4 (HR.out.upto ((Upto.refl (fun _ => False) _).alloc _) (fun _ _ => id))) (first
  | (refine step_cu rfl (.tmp 6) rfl M.by_ P.b 65536 P.cb (by simp [Act.eval, Act.put]) HR.out.hb (by decide) (by decide) ?_; intro g6 c6 w2 hg6 hc6 hr hb; have R6 := κ hr; clear hr; (try (replace R11 := κ (R11.out.keep hb))); (try (replace R16 := κ (R16.out.keep hb))); (try (replace R21 := κ (R21.out.keep hb))); have l6 := R6.out.1; replace HR := κ (HR.out.upto (Upto.of_below (S := fun _ => False) hb) (fun _ _ => id)); replace BB := κ (chain BB.out hb); have z6 := hb.size; clear hb)
  | (refine step_ci rfl (.tmp 11) rfl M.rt P.r 256 P.cr (by simp [Act.eval, Act.put]) HR.out.hr (by decide) (by decide) ?_; intro g11 c11 w2 hg11 hc11 hr hb; have R11 := κ hr; clear hr; (try (replace R6 := κ (R6.out.keep hb))); (try (replace R16 := κ (R16.out.keep hb))); (try (replace R21 := κ (R21.out.keep hb))); have l11 := R11.out.1; replace HR := κ (HR.out.upto (Upto.of_below (S := fun _ => False) hb) (fun _ _ => id)); replace BB := κ (chain BB.out hb); have z11 := hb.size; clear hb)
  | (refine step_cb rfl (.tmp 16) rfl M.wd P.m 256 P.cm (by simp [Act.eval, Act.put]) HR.out.hm (by decide) (by decide) ?_; intro g16 c16 w2 hg16 hc16 hr hb; have R16 := κ hr; clear hr; (try (replace R6 := κ (R6.out.keep hb))); (try (replace R11 := κ (R11.out.keep hb))); (try (replace R21 := κ (R21.out.keep hb))); have l16 := R16.out.1; replace HR := κ (HR.out.upto (Upto.of_below (S := fun _ => False) hb) (fun _ _ => id)); replace BB := κ (chain BB.out hb); have z16 := hb.size; clear hb)
  | (refine step_cb rfl (.tmp 21) rfl M.hi P.t 256 P.ct (by simp [Act.eval, Act.put]) HR.out.ht (by decide) (by decide) ?_; intro g21 c21 w2 hg21 hc21 hr hb; have R21 := κ hr; clear hr; (try (replace R6 := κ (R6.out.keep hb))); (try (replace R11 := κ (R11.out.keep hb))); (try (replace R16 := κ (R16.out.keep hb))); have l21 := R21.out.1; replace HR := κ (HR.out.upto (Upto.of_below (S := fun _ => False) hb) (fun _ _ => id)); replace BB := κ (chain BB.out hb); have z21 := hb.size; clear hb))
 all_goals go_wp2
 all_goals go_ret
 all_goals
  have hd : w.drew.heap.size = w.heap.size := rfl
  refine ⟨⟨w2.heap.size, g6, g11, g16, g21, c6, c11, c16, c21, hc6⟩, rfl, RM.made hc6 R6.out R11.out R16.out R21.out (by clear HR BB R6 R11 R16 R21; omega), BB.out.alloc (by clear HR R6 R11 R16 R21; omega) _, ?_⟩
  clear HR BB R6 R11 R16 R21
  rintro k (h | h | h | h | h)
  ·have h : k = w2.heap.size := h
   omega
  ·have h : k = g6 := h
   omega
  ·have h : k = g11 := h
   omega
  ·have h : k = g16 := h
   omega
  ·have h : k = g21 := h
   omega
end Go.Proofs.YtcjcmnnhmajocabGreat.Gn
