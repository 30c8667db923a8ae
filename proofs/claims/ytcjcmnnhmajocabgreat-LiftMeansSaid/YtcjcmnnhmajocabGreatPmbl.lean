import Derived.Test.YtcjcmnnhmajocabGreatPmbi
import Derived.Test.YtcjcmnnhmajocabGreatPmbk
set_option linter.unusedVariables false
set_option linter.unusedSimpArgs false
set_option maxRecDepth 100000
set_option maxHeartbeats 16000000
namespace Go.Proofs.YtcjcmnnhmajocabGreat.Ev
open Go.RowKit Kt Me Fl Ic
theorem Yd {os:List aV} {aj:Int} {i:Nat} {o:aV} (h:Jj os aj i o=0) (k0:4≤o.k) (k1:o.k≤9):o.a<i:=by
 unfold Jj at h
 obtain⟨h2,h4,h6,h8,BU,Jk⟩:=Lp h
 unfold BZ at BU
 simp only [Bool.or_eq_false_iff,Bool.not_eq_false',Bool.and_eq_false_iff,Bool.not_eq_true',Bool.not_eq_eq_eq_not,Bool.not_true,Bool.not_false] at BU
 have hr:rA o.k=true:=by
  obtain⟨k,ow,a,b,c,kn,n⟩:=o
  dsimp only at k0 k1⊢
  rcases(show k=4∨k=5∨k=6∨k=7∨k=8∨k=9 by omega) with rfl | rfl | rfl | rfl | rfl | rfl<;>rfl
 rcases BU.1 with ha | ha
 ·rw [hr] at ha;exact absurd ha (by decide)
 ·unfold qy at ha
  simp only [Bool.and_eq_true,decide_eq_true_eq] at ha
  exact ha.1.2
theorem IJ (os:List aV) (ao:Option Addr) (cap:Nat) (jg aj aN:Int) (cx:Nat→Int) (M:MM) (P:RP) (CK:∀w,zY os ao cap w→Calls Tryz.prog 27 #[.agg #[.int .u32 jg, .int .i64 aj, .int .i64 aN, .slice ao os.length cap]] w fun e w'=>e= .returned (Lj (xu os aj aN))∧Below w.heap.size w w') (w:World) (qC:zY os ao cap w) (h:RM P M w) (hM:bQ M) (hC:Fz cx) (oQ:∀o∈os,0≤o.kn∧o.kn<4294967296) (BA:∀g,ao=some g→0<os.length→¬P.has g.block):
  Calls Tryz.prog 30 #[.agg #[.int .u32 jg, .int .i64 aj, .int .i64 aN, .slice ao os.length cap], .agg #[.int .u32 (cx 0), .int .u32 (cx 1), .int .u32 (cx 2), .int .u32 (cx 3), .int .u32 (cx 4), .int .u32 (cx 5), .int .u32 (cx 6), .int .u32 (cx 7), .int .u32 (cx 8), .int .u32 (cx 9), .int .u32 (cx 10), .int .u32 (cx 11)], .pointer (some ⟨P.q,0,none⟩)] w fun e w'=>e= .returned (Uz (rX os aj aN ⟨M,cx,fun _=>0⟩))∧RM P (rX os aj aN ⟨M,cx,fun _=>0⟩).1.M w'∧ah P.has w w':=by
 have CK:=κ CK
 have HO:=κ qC
 have HH:=κ h
 have Js:=κ (show∀i,P.has i→i<w.heap.size from fun i hi=>iG h hi)
 obtain⟨bb,cb,cr,xr,u0⟩:=Ls w jg aj aN ao os.length cap cx
 have b0:Below w.heap.size w ((((w.alloc (.cells #[.int .u32 jg, .int .i64 aj, .int .i64 aN, .slice ao os.length cap] 52)).alloc (.cells #[.int .u32 (cx 0), .int .u32 (cx 1), .int .u32 (cx 2), .int .u32 (cx 3), .int .u32 (cx 4), .int .u32 (cx 5), .int .u32 (cx 6), .int .u32 (cx 7), .int .u32 (cx 8), .int .u32 (cx 9), .int .u32 (cx 10), .int .u32 (cx 11)] 44)).alloc (.cells #[.int .u32 0, .int .u32 0, .int .u32 0, .int .u32 0, .int .u32 0, .int .u32 0, .int .u32 0, .int .u32 0, .int .u32 0, .int .u32 0, .int .u32 0, .int .u32 0] 44)).alloc (.cells #[.int .i64 0, .int .u32 0, .int .u32 0, .int .i64 0] 66)):=u0.below (Nat.le_refl _) (fun _ _=>id)
 have o1:=qC.keep b0
 have h1:=HH.out.upto u0 (fun _ _=>id)
 have CL:=fun w h1 h2 LY zQ TL=>II os ao cap jg aj aN cx M P w h1 h2 hM hC LY zQ TL oQ BA
 have CL:=κ CL
 unfold ou at bb cb cr xr u0 h1
 clear h oQ BA qC hM hC
 go_enter Tryz.func30,Tryz.ntmps30
 go_upto_region 1 with fail
 generalize((((w.alloc (.cells #[.int .u32 jg, .int .i64 aj, .int .i64 aN, .slice ao os.length cap] 52)).alloc (.cells #[.int .u32 (cx 0), .int .u32 (cx 1), .int .u32 (cx 2), .int .u32 (cx 3), .int .u32 (cx 4), .int .u32 (cx 5), .int .u32 (cx 6), .int .u32 (cx 7), .int .u32 (cx 8), .int .u32 (cx 9), .int .u32 (cx 10), .int .u32 (cx 11)] 44)).alloc (.cells #[.int .u32 0, .int .u32 0, .int .u32 0, .int .u32 0, .int .u32 0, .int .u32 0, .int .u32 0, .int .u32 0, .int .u32 0, .int .u32 0, .int .u32 0, .int .u32 0] 44)).alloc (.cells #[.int .i64 0, .int .u32 0, .int .u32 0, .int .i64 0] 66))=WA at bb cb cr xr u0 b0 o1 h1⊢
 have LB:=bb.l
 have HB:=κ bb
 have Et:=κ cb
 have CR:=κ cr
 have XR:=κ xr
 have O1:=κ o1
 have M1:=κ h1
 have U0:=κ (u0.mono (T:=P.has) fun _ _ h=>h.elim)
 have q0:=bb.c0
 have q1:=bb.c1
 have q2:=bb.c2
 have q3:=bb.c3
 clear bb cb cr xr u0 b0 o1 h1
 go_wp2_with fail
 refine(CK.out _ O1.out).mono ?_
 rintro e w1 ⟨rfl,b1⟩
 have u1:=ah.ak (S:=fun _=>False) b1
 have HB:=κ (HB.out.upto u1 id)
 have Et:=κ (Et.out.upto u1 id)
 have CR:=κ (CR.out.upto u1 id)
 have XR:=κ (XR.out.upto u1 id)
 have O1:=κ (O1.out.keep b1)
 have M1:=κ (M1.out.upto u1 (fun _ _=>id))
 have U0:=κ (U0.out.trans (u1.mono (T:=P.has) fun _ _ h=>h.elim))
 clear b1 u1 q0 q1 q2 q3
 unfold Lj
 go_upto_region 2 with fail
 obtain⟨ee,Zd⟩:∃ee,(xu os aj aN).1=ee:=⟨_,rfl⟩
 generalize(xu os aj aN).2=ec
 rw [Zd]
 by_cases he:ee=0
 ·subst he
  obtain⟨hl0,LY,zQ⟩:=Rj Zd
  have ev:rX os aj aN ⟨M,cx,fun _=>0⟩=((evN os os.length ⟨M,cx,fun _=>0⟩).1,(evN os os.length ⟨M,cx,fun _=>0⟩).2.1,0):=by unfold rX;rw [if_pos Zd]
  have CL:=fun w h1 h2=>CL.out w h1 h2 LY (fun i o ho=>Wv (zQ i o ho)) (fun i o ho k0 k1=>Yd (zQ i o ho) k0 k1)
  clear zQ Zd
  obtain⟨rv,hrv⟩:∃rv,evN os os.length ⟨M,cx,fun _=>0⟩=rv:=⟨_,rfl⟩
  rw [hrv] at ev CL
  have EV:=κ ev
  have CL:=κ CL
  clear ev hrv
  unfold ou at CL
  obtain⟨a0,a1,a2,a3,a4,a5,a6,a7,a8,a9,oL,oN⟩:=Et.out.all
  have q0:=HB.out.c0
  have q1:=HB.out.c1
  have q2:=HB.out.c2
  have q3:=HB.out.c3
  have lb:=HB.out.l
  have lc:=Et.out.l
  go_wp2_with fail
  refine(CL.out _ O1.out M1.out).mono ?_
  rintro e w3 ⟨rfl,m3,u3⟩
  clear a0 a1 a2 a3 a4 a5 a6 a7 a8 a9 oL oN q0 q1 q2 q3 lb lc
  have np:∀i,w.heap.size≤i→¬P.has i:=fun i hi hp=>by have:=Js.out i hp;omega
  have CR:=κ (CR.out.upto u3 (np _ (by omega)))
  have XR:=κ (XR.out.upto u3 (np _ (by omega)))
  have U0:=κ (U0.out.trans u3)
  have M1:=κ m3
  have l3:w.heap.size+1+1+1<w3.heap.size:=XR.out.l
  clear m3 u3 np HB Et O1 CL
  go_upto_region 5 with fail
  have un:=((ah.refl (fun _=>False) w3).alloc (.cells #[.int .u32 (rv.1.c 0), .int .u32 (rv.1.c 1), .int .u32 (rv.1.c 2), .int .u32 (rv.1.c 3), .int .u32 (rv.1.c 4), .int .u32 (rv.1.c 5), .int .u32 (rv.1.c 6), .int .u32 (rv.1.c 7), .int .u32 (rv.1.c 8), .int .u32 (rv.1.c 9), .int .u32 (rv.1.c 10), .int .u32 (rv.1.c 11)] 44)).alloc (.cells #[.int .i64 rv.2.1.k, .int .u32 rv.2.1.x, .int .u32 rv.2.1.pc, .int .i64 rv.2.1.n] 66)
  have ca:=CB.new w3 rv.1.c 44
  have xa:=qM.new (w3.alloc (.cells #[.int .u32 (rv.1.c 0), .int .u32 (rv.1.c 1), .int .u32 (rv.1.c 2), .int .u32 (rv.1.c 3), .int .u32 (rv.1.c 4), .int .u32 (rv.1.c 5), .int .u32 (rv.1.c 6), .int .u32 (rv.1.c 7), .int .u32 (rv.1.c 8), .int .u32 (rv.1.c 9), .int .u32 (rv.1.c 10), .int .u32 (rv.1.c 11)] 44)) rv.2.1.k rv.2.1.x rv.2.1.pc rv.2.1.n 66
  have e1:(w3.alloc (.cells #[.int .u32 (rv.1.c 0), .int .u32 (rv.1.c 1), .int .u32 (rv.1.c 2), .int .u32 (rv.1.c 3), .int .u32 (rv.1.c 4), .int .u32 (rv.1.c 5), .int .u32 (rv.1.c 6), .int .u32 (rv.1.c 7), .int .u32 (rv.1.c 8), .int .u32 (rv.1.c 9), .int .u32 (rv.1.c 10), .int .u32 (rv.1.c 11)] 44)).heap.size=w3.heap.size+1:=by simp
  rw [e1] at xa
  unfold ou at ca
  have ca:=ca.upto ((ah.refl (fun _=>False) _).alloc (.cells #[.int .i64 rv.2.1.k, .int .u32 rv.2.1.x, .int .u32 rv.2.1.pc, .int .i64 rv.2.1.n] 66)) id
  have CR:=κ (CR.out.upto un id)
  have XR:=κ (XR.out.upto un id)
  have M1:=κ (M1.out.upto un (fun _ _=>id))
  have U0:=κ (U0.out.trans (un.mono (T:=P.has) fun _ _ h=>h.elim))
  generalize(w3.alloc (.cells #[.int .u32 (rv.1.c 0), .int .u32 (rv.1.c 1), .int .u32 (rv.1.c 2), .int .u32 (rv.1.c 3), .int .u32 (rv.1.c 4), .int .u32 (rv.1.c 5), .int .u32 (rv.1.c 6), .int .u32 (rv.1.c 7), .int .u32 (rv.1.c 8), .int .u32 (rv.1.c 9), .int .u32 (rv.1.c 10), .int .u32 (rv.1.c 11)] 44)).alloc (.cells #[.int .i64 rv.2.1.k, .int .u32 rv.2.1.x, .int .u32 rv.2.1.pc, .int .i64 rv.2.1.n] 66)=W6 at un ca xa CR XR M1 U0⊢
  clear un e1
  obtain⟨a0,a1,a2,a3,a4,a5,a6,a7,a8,a9,oL,oN⟩:=ca.all
  have lA6:=ca.l
  have d0:=xa.c0
  have d1:=xa.c1
  have d2:=xa.c2
  have d3:=xa.c3
  have lx6:=xa.l
  clear ca xa
  have r0:=CR.out.r 0 (by omega)
  have z0:=CR.out.z 0
  have r1:=CR.out.r 1 (by omega)
  have z1:=CR.out.z 1
  have r2:=CR.out.r 2 (by omega)
  have z2:=CR.out.z 2
  have r3:=CR.out.r 3 (by omega)
  have z3:=CR.out.z 3
  have r4:=CR.out.r 4 (by omega)
  have z4:=CR.out.z 4
  have r5:=CR.out.r 5 (by omega)
  have z5:=CR.out.z 5
  have r6:=CR.out.r 6 (by omega)
  have z6:=CR.out.z 6
  have r7:=CR.out.r 7 (by omega)
  have z7:=CR.out.z 7
  have r8:=CR.out.r 8 (by omega)
  have z8:=CR.out.z 8
  have r9:=CR.out.r 9 (by omega)
  have z9:=CR.out.z 9
  have Ya:=CR.out.r 10 (by omega)
  have Yb:=CR.out.z 10
  have Yc:=CR.out.r 11 (by omega)
  have UO:=CR.out.z 11
  have y0:=XR.out.c0
  have v0:=XR.out.z 0
  have y1:=XR.out.c1
  have v1:=XR.out.z 1
  have y2:=XR.out.c2
  have v2:=XR.out.z 2
  have y3:=XR.out.c3
  have v3:=XR.out.z 3
  have lr:=CR.out.l
  have ly:=XR.out.l
  go_region
  clear a0 a1 a2 a3 a4 a5 a6 a7 a8 a9 oL oN d0 d1 d2 d3 lx6 lA6
  clear r0 z0 r1 z1 r2 z2 r3 z3 r4 z4 r5 z5 r6 z6 r7 z7 r8 z8 r9 z9 Ya Yb Yc UO y0 v0 y1 v1 y2 v2 y3 v3 lr ly
  have c8:=CR.out.put rv.1.c
  have v8:=jY (S:=fun i=>i=w.heap.size+1+1) (h:=w.heap.size+1+1) (ah.refl _ W6) (.inl rfl) rv.1.c
  have u8:=jY (h:=w.heap.size+1+1) U0.out (.inr (Nat.le_trans (Nat.le_succ _) (Nat.le_succ _))) rv.1.c
  have x8:=XR.out.upto v8 (by omega)
  have m8:=RM.upto (S:=fun i=>i=w.heap.size+1+1) M1.out v8 (fun i hi=>by have:=Js.out i hi;omega)
  generalize((((((((((((W6.setCell ⟨w.heap.size+1+1,0,none⟩ (.int .u32 (rv.1.c 0))).setCell ⟨w.heap.size+1+1,1,none⟩ (.int .u32 (rv.1.c 1))).setCell ⟨w.heap.size+1+1,2,none⟩ (.int .u32 (rv.1.c 2))).setCell ⟨w.heap.size+1+1,3,none⟩ (.int .u32 (rv.1.c 3))).setCell ⟨w.heap.size+1+1,4,none⟩ (.int .u32 (rv.1.c 4))).setCell ⟨w.heap.size+1+1,5,none⟩ (.int .u32 (rv.1.c 5))).setCell ⟨w.heap.size+1+1,6,none⟩ (.int .u32 (rv.1.c 6))).setCell ⟨w.heap.size+1+1,7,none⟩ (.int .u32 (rv.1.c 7))).setCell ⟨w.heap.size+1+1,8,none⟩ (.int .u32 (rv.1.c 8))).setCell ⟨w.heap.size+1+1,9,none⟩ (.int .u32 (rv.1.c 9))).setCell ⟨w.heap.size+1+1,10,none⟩ (.int .u32 (rv.1.c 10))).setCell ⟨w.heap.size+1+1,11,none⟩ (.int .u32 (rv.1.c 11)))=W8 at c8 v8 u8 x8 m8⊢
  have v9:=mF (S:=fun i=>i=w.heap.size+1+1+1) (h:=w.heap.size+1+1+1) (ah.refl _ W8) (.inl rfl) rv.2.1.k rv.2.1.x rv.2.1.pc rv.2.1.n
  have u9:=(mF (h:=w.heap.size+1+1+1) u8 (.inr (Nat.le_trans (Nat.le_succ _) (Nat.le_trans (Nat.le_succ _) (Nat.le_succ _)))) rv.2.1.k rv.2.1.x rv.2.1.pc rv.2.1.n)
  have x9:=x8.set rv.2.1.k rv.2.1.x rv.2.1.pc rv.2.1.n
  have c9:=c8.upto v9 (by omega)
  have m9:=RM.upto (S:=fun i=>i=w.heap.size+1+1+1) m8 v9 (fun i hi=>by have:=Js.out i hi;omega)
  have u9:=u9.drew
  have m9:=RM.upto (S:=fun _=>False) m9 (ah.refl (fun _=>False) _).drew (fun _ _=>id)
  have c9:=c9.drew
  have x9:=x9.upto (ah.refl (fun _=>False) _).drew id
  generalize World.drew ((((W8.setCell ⟨w.heap.size+1+1+1,0,none⟩ (.int .i64 rv.2.1.k)).setCell ⟨w.heap.size+1+1+1,1,none⟩ (.int .u32 rv.2.1.x)).setCell ⟨w.heap.size+1+1+1,2,none⟩ (.int .u32 rv.2.1.pc)).setCell ⟨w.heap.size+1+1+1,3,none⟩ (.int .i64 rv.2.1.n))=W9 at u9 x9 c9 m9⊢
  obtain⟨g0,g1,g2,g3,g4,g5,g6,g7,g8,g9,g10,g11⟩:=c9.all
  have o0:=x9.c0
  have o1:=x9.c1
  have o2:=x9.c2
  have o3:=x9.c3
  go_wp2_with fail
  exact bodyPost_ret (v:= .tuple #[.agg (ou rv.1.c), .agg #[.int .i64 rv.2.1.k, .int .u32 rv.2.1.x, .int .u32 rv.2.1.pc, .int .i64 rv.2.1.n], .int .i64 0]) (by simp [ou,results,Tryz.results30,go_sem,g0,g1,g2,g3,g4,g5,g6,g7,g8,g9,g10,g11,o0,o1,o2,o3]) rfl ⟨by rw [EV.out];rfl,by rw [EV.out];exact m9,u9⟩
 ·have ev:rX os aj aN ⟨M,cx,fun _=>0⟩=(⟨M,cx,fun _=>0⟩,⟨0,0,0,0⟩,ee):=by unfold rX;rw [Zd,if_neg he]
  have EV:=κ ev
  have eb:(ee==0)=false:=by rw [beq_eq_false_iff_ne];exact he
  have eb':(ee !=0)=true:=by rw [bne,eb];rfl
  clear ev Zd he CL
  obtain⟨a0,a1,a2,a3,a4,a5,a6,a7,a8,a9,oL,oN⟩:=Et.out.all
  have lc:=Et.out.l
  have r0:=CR.out.r 0 (by omega)
  have z0:=CR.out.z 0
  have r1:=CR.out.r 1 (by omega)
  have z1:=CR.out.z 1
  have r2:=CR.out.r 2 (by omega)
  have z2:=CR.out.z 2
  have r3:=CR.out.r 3 (by omega)
  have z3:=CR.out.z 3
  have r4:=CR.out.r 4 (by omega)
  have z4:=CR.out.z 4
  have r5:=CR.out.r 5 (by omega)
  have z5:=CR.out.z 5
  have r6:=CR.out.r 6 (by omega)
  have z6:=CR.out.z 6
  have r7:=CR.out.r 7 (by omega)
  have z7:=CR.out.z 7
  have r8:=CR.out.r 8 (by omega)
  have z8:=CR.out.z 8
  have r9:=CR.out.r 9 (by omega)
  have z9:=CR.out.z 9
  have Ya:=CR.out.r 10 (by omega)
  have Yb:=CR.out.z 10
  have Yc:=CR.out.r 11 (by omega)
  have UO:=CR.out.z 11
  have y0:=XR.out.c0
  have v0:=XR.out.z 0
  have y1:=XR.out.c1
  have v1:=XR.out.z 1
  have y2:=XR.out.c2
  have v2:=XR.out.z 2
  have y3:=XR.out.c3
  have v3:=XR.out.z 3
  have lr:=CR.out.l
  have ly:=XR.out.l
  go_upto_region 3 with fail
  go_wp2_with fail
  clear a0 a1 a2 a3 a4 a5 a6 a7 a8 a9 oL oN lc
  clear r0 z0 r1 z1 r2 z2 r3 z3 r4 z4 r5 z5 r6 z6 r7 z7 r8 z8 r9 z9 Ya Yb Yc UO y0 v0 y1 v1 y2 v2 y3 v3 lr ly
  have c8:=CR.out.put cx
  have v8:=jY (S:=fun i=>i=w.heap.size+1+1) (h:=w.heap.size+1+1) (ah.refl _ w1) (.inl rfl) cx
  have u8:=jY (h:=w.heap.size+1+1) U0.out (.inr (Nat.le_trans (Nat.le_succ _) (Nat.le_succ _))) cx
  have x8:=XR.out.upto v8 (by omega)
  have m8:=RM.upto (S:=fun i=>i=w.heap.size+1+1) M1.out v8 (fun i hi=>by have:=Js.out i hi;omega)
  generalize((((((((((((w1.setCell ⟨w.heap.size+1+1,0,none⟩ (.int .u32 (cx 0))).setCell ⟨w.heap.size+1+1,1,none⟩ (.int .u32 (cx 1))).setCell ⟨w.heap.size+1+1,2,none⟩ (.int .u32 (cx 2))).setCell ⟨w.heap.size+1+1,3,none⟩ (.int .u32 (cx 3))).setCell ⟨w.heap.size+1+1,4,none⟩ (.int .u32 (cx 4))).setCell ⟨w.heap.size+1+1,5,none⟩ (.int .u32 (cx 5))).setCell ⟨w.heap.size+1+1,6,none⟩ (.int .u32 (cx 6))).setCell ⟨w.heap.size+1+1,7,none⟩ (.int .u32 (cx 7))).setCell ⟨w.heap.size+1+1,8,none⟩ (.int .u32 (cx 8))).setCell ⟨w.heap.size+1+1,9,none⟩ (.int .u32 (cx 9))).setCell ⟨w.heap.size+1+1,10,none⟩ (.int .u32 (cx 10))).setCell ⟨w.heap.size+1+1,11,none⟩ (.int .u32 (cx 11)))=W8 at c8 v8 u8 x8 m8⊢
  have v9:=mF (S:=fun i=>i=w.heap.size+1+1+1) (h:=w.heap.size+1+1+1) (ah.refl _ W8) (.inl rfl) 0 0 0 0
  have u9:=(mF (h:=w.heap.size+1+1+1) u8 (.inr (Nat.le_trans (Nat.le_succ _) (Nat.le_trans (Nat.le_succ _) (Nat.le_succ _)))) 0 0 0 0)
  have x9:=x8.set 0 0 0 0
  have c9:=c8.upto v9 (by omega)
  have m9:=RM.upto (S:=fun i=>i=w.heap.size+1+1+1) m8 v9 (fun i hi=>by have:=Js.out i hi;omega)
  generalize((((W8.setCell ⟨w.heap.size+1+1+1,0,none⟩ (.int .i64 0)).setCell ⟨w.heap.size+1+1+1,1,none⟩ (.int .u32 0)).setCell ⟨w.heap.size+1+1+1,2,none⟩ (.int .u32 0)).setCell ⟨w.heap.size+1+1+1,3,none⟩ (.int .i64 0))=W9 at u9 x9 c9 m9⊢
  obtain⟨g0,g1,g2,g3,g4,g5,g6,g7,g8,g9,g10,g11⟩:=c9.all
  have o0:=x9.c0
  have o1:=x9.c1
  have o2:=x9.c2
  have o3:=x9.c3
  exact bodyPost_ret (v:= .tuple #[.agg (ou cx), .agg #[.int .i64 0, .int .u32 0, .int .u32 0, .int .i64 0], .int .i64 ee]) (by simp [ou,results,Tryz.results30,go_sem,g0,g1,g2,g3,g4,g5,g6,g7,g8,g9,g10,g11,o0,o1,o2,o3]) rfl ⟨by rw [EV.out];rfl,by rw [EV.out];exact m9,u9⟩
end Go.Proofs.YtcjcmnnhmajocabGreat.Ev
namespace Go.Proofs.YtcjcmnnhmajocabGreat.Kt
open Go
variable {P:Program}
theorem iW (d:Nat) (xs:Array Value):∀ (fs:List Field) (w:World),(∀f∈fs,∃v,(∀w,(part f.type xs f.offset).run P w= .ok v w)∧∀w,(Op.equalIn d f.type v v).run P w= .ok true w)→
  (Op.eqFields d xs xs fs).run P w= .ok true w
 | [],w,_=>by simp [Op.eqFields]
 | f::fs,w,h=>by
  obtain⟨v,hv,he⟩:=h f (by simp)
  have ih:=iW d xs fs w (fun j hj=>h j (by simp [hj]))
  simp only [Op.eqFields]
  split
  ·simp only [Sem.run_bind,hv,he,Result.andThen_ok]
   simpa using ih
  ·exact ih
end Go.Proofs.YtcjcmnnhmajocabGreat.Kt
namespace Go.Proofs.YtcjcmnnhmajocabGreat.Ir
open Go Kt
end Go.Proofs.YtcjcmnnhmajocabGreat.Ir
namespace Go.Proofs.YtcjcmnnhmajocabGreat.Ev
open Go Kt
theorem TM (d:Nat) (k x:Int):∀w:World,(Op.equalIn (d+2) 55 (.agg #[.int .i64 k, .int .u32 x]) (.agg #[.int .i64 k, .int .u32 x])).run Tryz.prog w= .ok true w:=by
 intro w
 rw [run_equalIn_struct w (d+1) 55 _ _ (by kernel_rfl) (by kernel_rfl)]
 refine iW (d+1) _ _ w ?_
 have hl:(Tryz.prog.fieldsOf 55).toList= [(Tryz.prog.fieldsOf 55)[0]!,(Tryz.prog.fieldsOf 55)[1]!]:=by kernel_rfl
 rw [hl]
 refine List.forall_mem_cons.2 ⟨?_,List.forall_mem_cons.2 ⟨?_,fun f hf=>(List.not_mem_nil hf).elim⟩⟩
 ·refine⟨.int .i64 k,fun w=>by kernel_rfl,fun w=> ?_⟩
  have:=run_equalIn_int (P:=Tryz.prog) w d ((Tryz.prog.fieldsOf 55)[0]!).type .i64 .i64 k k (by kernel_rfl)
  simpa using this
 ·refine⟨.int .u32 x,fun w=>by kernel_rfl,fun w=> ?_⟩
  have:=run_equalIn_int (P:=Tryz.prog) w d ((Tryz.prog.fieldsOf 55)[1]!).type .u32 .u32 x x (by kernel_rfl)
  simpa using this
end Go.Proofs.YtcjcmnnhmajocabGreat.Ev
namespace Go.Proofs.YtcjcmnnhmajocabGreat.St
open Go
section
variable {P:Program}
theorem sK (d:Nat) {e:TypeId} (hu:P.underlying e=some (.int .u32)) (hp:P.plainKey e=true) (xs:Array Value):∀ (is:List Nat) (w:World),(∀i∈is,∃z,xs[i]?=some (.int .u32 z))→
  (Op.eqItems (d+1) e 1 xs xs is).run P w= .ok true w
 | [],w,_=>by simp [Op.eqItems]
 | i::is,w,h=>by
  obtain⟨z,hz⟩:=h i (by simp)
  have p1:=run_part_plain w hp hz
  have p3:=run_equalIn_int (P:=P) w d e .u32 .u32 z z hu
  simp only [Op.eqItems,Nat.mul_one,Sem.run_bind,p1,p3,Result.andThen_ok]
  simpa using sK d hu hp xs is w (fun j hj=>h j (by simp [hj]))
theorem zI (d:Nat) {t e:TypeId} {n:Nat} {i:TypeInfo} (hu:P.underlying t=some (.array n e)) (he:P.underlying e=some (.int .u32)) (hp:P.plainKey e=true) (hi:P.info? e=some i) (hc:P.cellsOf e=1) (xs:Array Value)
  (h:∀i,i<n→∃z,xs[i]?=some (.int .u32 z)) (w:World):(Op.equalIn (d+2) t (.agg xs) (.agg xs)).run P w= .ok true w:=by
 rw [run_equalIn_array w (d+1) xs xs hu hi,hc]
 exact sK d he hp xs _ w (fun j hj=>h j (by simpa using hj))
theorem xE (d D:Nat) (hD:D=d+2) {t e:TypeId} {n:Nat} {i:TypeInfo} (hu:P.underlying t=some (.array n e)) (he:P.underlying e=some (.int .u32)) (hp:P.plainKey e=true) (hi:P.info? e=some i) (hc:P.cellsOf e=1) (xs:Array Value)
  (h:∀i,i<n→∃z,xs[i]?=some (.int .u32 z)) (w:World):(Op.equalIn D t (.agg xs) (.agg xs)).run P w= .ok true w:=by
 subst hD
 exact zI d hu he hp hi hc xs h w
theorem iW (d:Nat) (xs:Array Value):∀ (fs:List Field) (w:World),(∀f∈fs,∃v,(∀w,(part f.type xs f.offset).run P w= .ok v w)∧∀w,(Op.equalIn d f.type v v).run P w= .ok true w)→
  (Op.eqFields d xs xs fs).run P w= .ok true w
 | [],w,_=>by simp [Op.eqFields]
 | f::fs,w,h=>by
  obtain⟨v,hv,he⟩:=h f (by simp)
  have ih:=iW d xs fs w (fun j hj=>h j (by simp [hj]))
  simp only [Op.eqFields]
  split
  ·simp only [Sem.run_bind,hv,he,Result.andThen_ok]
   simpa using ih
  ·exact ih
theorem Ez {t:TypeId} (ht:P.underlying t=some (.struct (P.fieldsOf t))) (hp:P.stoodInHeld t=false) (xs:Array Value)
  (h:∀f∈(P.fieldsOf t).toList,∃v,(∀w,(part f.type xs f.offset).run P w= .ok v w)∧∀w,(Op.equalIn 9999 f.type v v).run P w= .ok true w):∀ (w:World),(binOp .neq t (.agg xs) (.agg xs)).run P w= .ok (.bool false) w:=by
 intro w
 rw [run_neq_struct,run_equalIn_struct w 9999 t xs xs ht hp,iW 9999 xs _ w h]
 rfl
end
theorem nine:(9999:Nat)=9997+2:=by kernel_rfl
theorem IK (c0 c1 c2 c3 c4 c5 c6 c7 c8 c9:Int):∀ (w:World),(binOp .neq 94 (.agg #[.int .u32 c0, .int .u32 c1, .int .u32 c2, .int .u32 c3, .int .u32 c4, .int .u32 c5, .int .u32 c6, .int .u32 c7, .int .u32 c8, .int .u32 c9]) (.agg #[.int .u32 c0, .int .u32 c1, .int .u32 c2, .int .u32 c3, .int .u32 c4, .int .u32 c5, .int .u32 c6, .int .u32 c7, .int .u32 c8, .int .u32 c9])).run Tryz.prog w= .ok (.bool false) w:=by
 refine Ez (by kernel_rfl) (by kernel_rfl) _ ?_
 have hl:(Tryz.prog.fieldsOf 94).toList= [(Tryz.prog.fieldsOf 94)[0]!,(Tryz.prog.fieldsOf 94)[1]!,(Tryz.prog.fieldsOf 94)[2]!]:=by kernel_rfl
 rw [hl]
 refine List.forall_mem_cons.2 ⟨?_,List.forall_mem_cons.2 ⟨?_,List.forall_mem_cons.2 ⟨?_,fun f hf=>(List.not_mem_nil hf).elim⟩⟩⟩
 ·refine⟨.agg #[.int .u32 c0, .int .u32 c1, .int .u32 c2, .int .u32 c3, .int .u32 c4, .int .u32 c5, .int .u32 c6, .int .u32 c7],fun w=>by kernel_rfl, ?_⟩
  refine xE 9997 9999 nine (t:=((Tryz.prog.fieldsOf 94)[0]!).type) (n:=8) (e:=29) (by kernel_rfl) Tryz.underlying29 (by kernel_rfl) (i:=(Tryz.prog.info? 29).get!) (by kernel_rfl) (by kernel_rfl) _ ?_
  intro i hi
  match i,hi with
  | 0,_ | 1,_ | 2,_ | 3,_ | 4,_ | 5,_ | 6,_ | 7,_=>exact⟨_,rfl⟩
  | n+8,h=>omega
 ·refine⟨.int .u32 c8,fun w=>by kernel_rfl,fun w=> ?_⟩
  have:=run_equalIn_int (P:=Tryz.prog) w 9998 ((Tryz.prog.fieldsOf 94)[1]!).type .u32 .u32 c8 c8 (by kernel_rfl)
  simpa using this
 ·refine⟨.int .u32 c9,fun w=>by kernel_rfl,fun w=> ?_⟩
  have:=run_equalIn_int (P:=Tryz.prog) w 9998 ((Tryz.prog.fieldsOf 94)[2]!).type .u32 .u32 c9 c9 (by kernel_rfl)
  simpa using this
open Go.RowKit Kt Me Fl Gu
structure RQ (h g n:Nat) (u t:Nat→Value) (W:World):Prop where
 a:∀i,i<n→W.cell? ⟨h,i,none⟩=some (u i)
 b:∀i,i<2→W.cell? ⟨g,i,none⟩=some (t i)
 za:∀i,W.frozen? ⟨h,i,none⟩=false
 zb:∀i,W.frozen? ⟨g,i,none⟩=false
 la:h<W.heap.size
 lb:g<W.heap.size
 ne:h≠g
theorem RQ.upto {S:Nat→Prop} {h g n:Nat} {u t:Nat→Value} {W W':World} (f:RQ h g n u t W) (b:ah S W W') (h1:¬S h) (h2:¬S g):RQ h g n u t W':=
 ⟨fun i hi=>(b.cell (q:=⟨h,i,none⟩) f.la h1).trans (f.a i hi),fun i hi=>(b.cell (q:=⟨g,i,none⟩) f.lb h2).trans (f.b i hi),fun i=>(b.frozen (q:=⟨h,i,none⟩) f.la h1).trans (f.za i),fun i=>(b.frozen (q:=⟨g,i,none⟩) f.lb h2).trans (f.zb i),
  Nat.lt_of_lt_of_le f.la b.size,Nat.lt_of_lt_of_le f.lb b.size,f.ne⟩
theorem RQ.qB {h g n:Nat} {u t:Nat→Value} {W:World} (f:RQ h g n u t W) (i:Nat) (hi:i<n) (v:Value):RQ h g n (aF u i v) t (W.setCell ⟨h,i,none⟩ v):=by
 refine⟨fun j hj=> ?_,fun j hj=> ?_,fun j=>by simpa using f.za j,fun j=>by simpa using f.zb j,by simpa using f.la,by simpa using f.lb,f.ne⟩
 ·by_cases e:j=i
  ·subst e;rw [World.cell?_setCell_same _ _ _ (f.a j hj)];simp [aF]
  ·rw [World.cell?_setCell_other _ _ _ _ (by intro hx;exact e (congrArg Addr.off hx).symm),f.a j hj];simp [aF,e]
 ·rw [World.cell?_setCell_other _ _ _ _ (by intro hx;exact f.ne (congrArg Addr.block hx))];exact f.b j hj
theorem RQ.rH {h g n:Nat} {u t:Nat→Value} {W:World} (f:RQ h g n u t W) (i:Nat) (hi:i<2) (v:Value):RQ h g n u (aF t i v) (W.setCell ⟨g,i,none⟩ v):=by
 refine⟨fun j hj=> ?_,fun j hj=> ?_,fun j=>by simpa using f.za j,fun j=>by simpa using f.zb j,by simpa using f.la,by simpa using f.lb,f.ne⟩
 ·rw [World.cell?_setCell_other _ _ _ _ (by intro hx;exact f.ne (congrArg Addr.block hx).symm)];exact f.a j hj
 ·by_cases e:j=i
  ·subst e;rw [World.cell?_setCell_same _ _ _ (f.b j hj)];simp [aF]
  ·rw [World.cell?_setCell_other _ _ _ _ (by intro hx;exact e (congrArg Addr.off hx).symm),f.b j hj];simp [aF,e]
theorem RQ.drew {h g n:Nat} {u t:Nat→Value} {W:World} (f:RQ h g n u t W):RQ h g n u t W.drew:=⟨f.a,f.b,f.za,f.zb,f.la,f.lb,f.ne⟩
theorem RQ.put {h g:Nat} {u t:Nat→Value} {W:World} (f:RQ h g 10 u t W) (v0 v1 v2 v3 v4 v5 v6 v7 v8 v9 y0 y1:Value):
  ∃u' t',RQ h g 10 u' t' ((((((((((((W.setCell ⟨h,0,none⟩ v0).setCell ⟨h,1,none⟩ v1).setCell ⟨h,2,none⟩ v2).setCell ⟨h,3,none⟩ v3).setCell ⟨h,4,none⟩ v4).setCell ⟨h,5,none⟩ v5).setCell ⟨h,6,none⟩ v6).setCell ⟨h,7,none⟩ v7).setCell ⟨h,8,none⟩ v8).setCell ⟨h,9,none⟩ v9).setCell ⟨g,0,none⟩ y0).setCell ⟨g,1,none⟩ y1)∧u' 0=v0∧u' 1=v1∧u' 2=v2∧u' 3=v3∧u' 4=v4∧u' 5=v5∧u' 6=v6∧u' 7=v7∧u' 8=v8∧u' 9=v9∧t' 0=y0∧t' 1=y1:=
 ⟨_,_,((((((((((((f.qB 0 (by omega) v0).qB 1 (by omega) v1).qB 2 (by omega) v2).qB 3 (by omega) v3).qB 4 (by omega) v4).qB 5 (by omega) v5).qB 6 (by omega) v6).qB 7 (by omega) v7).qB 8 (by omega) v8).qB 9 (by omega) v9).rH 0 (by omega) y0).rH 1 (by omega) y1),by simp [aF],by simp [aF],by simp [aF],by simp [aF],by simp [aF],by simp [aF],by simp [aF],by simp [aF],by simp [aF],by simp [aF],by simp [aF],by simp [aF]⟩
theorem aO {S:Nat→Prop} {h g:Nat} {w W:World} (b:ah S w W) (hh:S h∨w.heap.size≤h) (hg:S g∨w.heap.size≤g) (v0 v1 v2 v3 v4 v5 v6 v7 v8 v9 y0 y1:Value):
  ah S w ((((((((((((W.setCell ⟨h,0,none⟩ v0).setCell ⟨h,1,none⟩ v1).setCell ⟨h,2,none⟩ v2).setCell ⟨h,3,none⟩ v3).setCell ⟨h,4,none⟩ v4).setCell ⟨h,5,none⟩ v5).setCell ⟨h,6,none⟩ v6).setCell ⟨h,7,none⟩ v7).setCell ⟨h,8,none⟩ v8).setCell ⟨h,9,none⟩ v9).setCell ⟨g,0,none⟩ y0).setCell ⟨g,1,none⟩ y1):=
 ((((((((((((b.setCell (q:=⟨h,0,none⟩) hh v0).setCell (q:=⟨h,1,none⟩) hh v1).setCell (q:=⟨h,2,none⟩) hh v2).setCell (q:=⟨h,3,none⟩) hh v3).setCell (q:=⟨h,4,none⟩) hh v4).setCell (q:=⟨h,5,none⟩) hh v5).setCell (q:=⟨h,6,none⟩) hh v6).setCell (q:=⟨h,7,none⟩) hh v7).setCell (q:=⟨h,8,none⟩) hh v8).setCell (q:=⟨h,9,none⟩) hh v9).setCell (q:=⟨g,0,none⟩) hg y0).setCell (q:=⟨g,1,none⟩) hg y1)
structure S3 (h:Nat) (R:Nat→Int) (pc f:Int) (W:World):Prop where
 s:∀j,j<8→W.cell? ⟨h,j,none⟩=some (.int .u32 (R j))
 s8:W.cell? ⟨h,8,none⟩=some (.int .u32 pc)
 s9:W.cell? ⟨h,9,none⟩=some (.int .u32 f)
 q:RQ (h+1) (h+1+1) 10 (fun _=> .int .u32 0) (fun i=>if i=1 then .int .u32 0 else .int .i64 0) W
def iY (R:Nat→Int) (pc f:Int):Array Value:= #[.int .u32 (R 0), .int .u32 (R 1), .int .u32 (R 2), .int .u32 (R 3), .int .u32 (R 4), .int .u32 (R 5), .int .u32 (R 6), .int .u32 (R 7), .int .u32 pc, .int .u32 f]
def oP:Array Value:= #[.int .u32 0, .int .u32 0, .int .u32 0, .int .u32 0, .int .u32 0, .int .u32 0, .int .u32 0, .int .u32 0, .int .u32 0, .int .u32 0]
theorem S3.below {h:Nat} {R:Nat→Int} {pc f:Int} {W W':World} (a:S3 h R pc f W) (b:Below W.heap.size W W'):S3 h R pc f W':=by
 have l0:h<W.heap.size:=Nat.lt_of_succ_lt a.q.la
 exact⟨fun j hj=>(b.cell (p:=⟨h,j,none⟩) l0).trans (a.s j hj),(b.cell (p:=⟨h,8,none⟩) l0).trans a.s8,(b.cell (p:=⟨h,9,none⟩) l0).trans a.s9,a.q.upto (ah.ak (S:=fun _=>False) b) id id⟩
theorem S3.new (w:World) (R:Nat→Int) (pc f:Int):S3 w.heap.size R pc f (((w.alloc (.cells (iY R pc f) 94)).alloc (.cells oP 94)).alloc (.cells Z2 55)):=by
 have e1:(w.alloc (.cells (iY R pc f) 94)).heap.size=w.heap.size+1:=by simp
 have e2:((w.alloc (.cells (iY R pc f) 94)).alloc (.cells oP 94)).heap.size=w.heap.size+2:=by simp
 generalize hW:w.alloc (.cells (iY R pc f) 94)=W1 at e1 e2⊢
 have A1:∀i,W1.cell? ⟨w.heap.size,i,none⟩=(iY R pc f)[i]?:=fun i=>by rw [←hW];exact ay w _ _ i
 have Xb:=(Below.refl W1.heap.size W1).alloc (Nat.le_refl _) (.cells oP 94)
 have A2:∀i,(W1.alloc (.cells oP 94)).cell? ⟨w.heap.size+1,i,none⟩=oP[i]?:=fun i=>by rw [←e1];exact ay W1 _ _ i
 have F2:∀i,(W1.alloc (.cells oP 94)).frozen? ⟨w.heap.size+1,i,none⟩=false:=fun i=>by rw [←e1];exact gW W1 _ _ i
 generalize hV:W1.alloc (.cells oP 94)=W2 at e2 Xb A2 F2⊢
 have Xc:=(Below.refl W2.heap.size W2).alloc (Nat.le_refl _) (.cells Z2 55)
 have A3:∀i,(W2.alloc (.cells Z2 55)).cell? ⟨w.heap.size+2,i,none⟩=Z2[i]?:=fun i=>by rw [←e2];exact ay W2 _ _ i
 have F3:∀i,(W2.alloc (.cells Z2 55)).frozen? ⟨w.heap.size+2,i,none⟩=false:=fun i=>by rw [←e2];exact gW W2 _ _ i
 have B1:∀i,(W2.alloc (.cells Z2 55)).cell? ⟨w.heap.size,i,none⟩=(iY R pc f)[i]?:=fun i=>(Xc.cell (p:=⟨w.heap.size,i,none⟩) (by show w.heap.size<_;omega)).trans ((Xb.cell (p:=⟨w.heap.size,i,none⟩) (by show w.heap.size<_;omega)).trans (A1 i))
 have B2:∀i,(W2.alloc (.cells Z2 55)).cell? ⟨w.heap.size+1,i,none⟩=oP[i]?:=fun i=>(Xc.cell (p:=⟨w.heap.size+1,i,none⟩) (by show w.heap.size+1<_;omega)).trans (A2 i)
 have e3:(W2.alloc (.cells Z2 55)).heap.size=w.heap.size+3:=by simp [e2]
 refine⟨fun j hj=> ?_,B1 8,B1 9,⟨fun i hi=> ?_,fun i hi=> ?_,fun i=>(Xc.frozen (p:=⟨w.heap.size+1,i,none⟩) (by show w.heap.size+1<_;omega)).trans (F2 i),F3,by omega,by omega,by omega⟩⟩
 ·rw [B1 j]
  rcases(show j=0∨j=1∨j=2∨j=3∨j=4∨j=5∨j=6∨j=7 by omega) with rfl | rfl | rfl | rfl | rfl | rfl | rfl | rfl<;>rfl
 ·rw [B2 i]
  rcases(show i=0∨i=1∨i=2∨i=3∨i=4∨i=5∨i=6∨i=7∨i=8∨i=9 by omega) with rfl | rfl | rfl | rfl | rfl | rfl | rfl | rfl | rfl | rfl<;>rfl
 ·rw [A3 i]
  rcases(show i=0∨i=1 by omega) with rfl | rfl<;>rfl
structure SB (h:Nat) (R:Nat→Int) (pc f:Int) (W:World):Prop where
 r:∀j,j<8→W.cell? ⟨h,j,none⟩=some (.int .u32 (R j))
 c8:W.cell? ⟨h,8,none⟩=some (.int .u32 pc)
 c9:W.cell? ⟨h,9,none⟩=some (.int .u32 f)
 z:∀i,W.frozen? ⟨h,i,none⟩=false
 l:h<W.heap.size
structure XB (h:Nat) (k d s o m:Int) (W:World):Prop where
 c0:W.cell? ⟨h,0,none⟩=some (.int .i64 k)
 c1:W.cell? ⟨h,1,none⟩=some (.int .i64 d)
 c2:W.cell? ⟨h,2,none⟩=some (.int .i64 s)
 c3:W.cell? ⟨h,3,none⟩=some (.int .i64 o)
 c4:W.cell? ⟨h,4,none⟩=some (.int .u32 m)
 l:h<W.heap.size
structure KB (h:Nat) (k x:Int) (W:World):Prop where
 c0:W.cell? ⟨h,0,none⟩=some (.int .i64 k)
 c1:W.cell? ⟨h,1,none⟩=some (.int .u32 x)
 z:∀i,W.frozen? ⟨h,i,none⟩=false
 l:h<W.heap.size
theorem SB.all {h:Nat} {R:Nat→Int} {pc f:Int} {W:World} (a:SB h R pc f W):W.cell? ⟨h,0,none⟩=some (.int .u32 (R 0))∧W.cell? ⟨h,1,none⟩=some (.int .u32 (R 1))∧W.cell? ⟨h,2,none⟩=some (.int .u32 (R 2))∧W.cell? ⟨h,3,none⟩=some (.int .u32 (R 3))∧W.cell? ⟨h,4,none⟩=some (.int .u32 (R 4))∧W.cell? ⟨h,5,none⟩=some (.int .u32 (R 5))∧W.cell? ⟨h,6,none⟩=some (.int .u32 (R 6))∧W.cell? ⟨h,7,none⟩=some (.int .u32 (R 7))∧W.cell? ⟨h,8,none⟩=some (.int .u32 pc)∧W.cell? ⟨h,9,none⟩=some (.int .u32 f):=
 ⟨a.r 0 (by omega),a.r 1 (by omega),a.r 2 (by omega),a.r 3 (by omega),a.r 4 (by omega),a.r 5 (by omega),a.r 6 (by omega),a.r 7 (by omega),a.c8,a.c9⟩
theorem S3.all {h:Nat} {R:Nat→Int} {pc f:Int} {W:World} (a:S3 h R pc f W):W.cell? ⟨h,0,none⟩=some (.int .u32 (R 0))∧W.cell? ⟨h,1,none⟩=some (.int .u32 (R 1))∧W.cell? ⟨h,2,none⟩=some (.int .u32 (R 2))∧W.cell? ⟨h,3,none⟩=some (.int .u32 (R 3))∧W.cell? ⟨h,4,none⟩=some (.int .u32 (R 4))∧W.cell? ⟨h,5,none⟩=some (.int .u32 (R 5))∧W.cell? ⟨h,6,none⟩=some (.int .u32 (R 6))∧W.cell? ⟨h,7,none⟩=some (.int .u32 (R 7))∧W.cell? ⟨h,8,none⟩=some (.int .u32 pc)∧W.cell? ⟨h,9,none⟩=some (.int .u32 f):=
 ⟨a.s 0 (by omega),a.s 1 (by omega),a.s 2 (by omega),a.s 3 (by omega),a.s 4 (by omega),a.s 5 (by omega),a.s 6 (by omega),a.s 7 (by omega),a.s8,a.s9⟩
theorem RQ.all {h g:Nat} {W:World} (a:RQ h g 10 (fun _=> .int .u32 0) (fun i=>if i=1 then .int .u32 0 else .int .i64 0) W):W.cell? ⟨h,0,none⟩=some (.int .u32 0)∧W.frozen? ⟨h,0,none⟩=false∧W.cell? ⟨h,1,none⟩=some (.int .u32 0)∧W.frozen? ⟨h,1,none⟩=false∧W.cell? ⟨h,2,none⟩=some (.int .u32 0)∧W.frozen? ⟨h,2,none⟩=false∧W.cell? ⟨h,3,none⟩=some (.int .u32 0)∧W.frozen? ⟨h,3,none⟩=false∧W.cell? ⟨h,4,none⟩=some (.int .u32 0)∧W.frozen? ⟨h,4,none⟩=false∧W.cell? ⟨h,5,none⟩=some (.int .u32 0)∧W.frozen? ⟨h,5,none⟩=false∧W.cell? ⟨h,6,none⟩=some (.int .u32 0)∧W.frozen? ⟨h,6,none⟩=false∧W.cell? ⟨h,7,none⟩=some (.int .u32 0)∧W.frozen? ⟨h,7,none⟩=false∧W.cell? ⟨h,8,none⟩=some (.int .u32 0)∧W.frozen? ⟨h,8,none⟩=false∧W.cell? ⟨h,9,none⟩=some (.int .u32 0)∧W.frozen? ⟨h,9,none⟩=false∧W.cell? ⟨g,0,none⟩=some (.int .i64 0)∧W.frozen? ⟨g,0,none⟩=false∧W.cell? ⟨g,1,none⟩=some (.int .u32 0)∧W.frozen? ⟨g,1,none⟩=false:=
 ⟨a.a 0 (by omega),a.za 0,a.a 1 (by omega),a.za 1,a.a 2 (by omega),a.za 2,a.a 3 (by omega),a.za 3,a.a 4 (by omega),a.za 4,a.a 5 (by omega),a.za 5,a.a 6 (by omega),a.za 6,a.a 7 (by omega),a.za 7,a.a 8 (by omega),a.za 8,a.a 9 (by omega),a.za 9,a.b 0 (by omega),a.zb 0,a.b 1 (by omega),a.zb 1⟩
theorem RQ.got {h g:Nat} {u t:Nat→Value} {W:World} (a:RQ h g 10 u t W) {v0 v1 v2 v3 v4 v5 v6 v7 v8 v9 y0 y1:Value} (e0:u 0=v0) (e1:u 1=v1) (e2:u 2=v2) (e3:u 3=v3) (e4:u 4=v4) (e5:u 5=v5) (e6:u 6=v6) (e7:u 7=v7) (e8:u 8=v8) (e9:u 9=v9) (d0:t 0=y0) (d1:t 1=y1):W.cell? ⟨h,0,none⟩=some (v0)∧W.cell? ⟨h,1,none⟩=some (v1)∧W.cell? ⟨h,2,none⟩=some (v2)∧W.cell? ⟨h,3,none⟩=some (v3)∧W.cell? ⟨h,4,none⟩=some (v4)∧W.cell? ⟨h,5,none⟩=some (v5)∧W.cell? ⟨h,6,none⟩=some (v6)∧W.cell? ⟨h,7,none⟩=some (v7)∧W.cell? ⟨h,8,none⟩=some (v8)∧W.cell? ⟨h,9,none⟩=some (v9)∧W.cell? ⟨g,0,none⟩=some (y0)∧W.cell? ⟨g,1,none⟩=some (y1):=
 ⟨e0▸a.a 0 (by omega),e1▸a.a 1 (by omega),e2▸a.a 2 (by omega),e3▸a.a 3 (by omega),e4▸a.a 4 (by omega),e5▸a.a 5 (by omega),e6▸a.a 6 (by omega),e7▸a.a 7 (by omega),e8▸a.a 8 (by omega),e9▸a.a 9 (by omega),d0▸a.b 0 (by omega),d1▸a.b 1 (by omega)⟩
theorem SB.upto {S:Nat→Prop} {h:Nat} {R:Nat→Int} {pc f:Int} {W W':World} (a:SB h R pc f W) (u:ah S W W') (hs:¬S h):SB h R pc f W':=
 ⟨fun j hj=>(u.cell (q:=⟨h,j,none⟩) a.l hs).trans (a.r j hj),(u.cell (q:=⟨h,8,none⟩) a.l hs).trans a.c8,(u.cell (q:=⟨h,9,none⟩) a.l hs).trans a.c9,fun i=>(u.frozen (q:=⟨h,i,none⟩) a.l hs).trans (a.z i),Nat.lt_of_lt_of_le a.l u.size⟩
theorem XB.upto {S:Nat→Prop} {h:Nat} {k d s o m:Int} {W W':World} (a:XB h k d s o m W) (u:ah S W W') (hs:¬S h):XB h k d s o m W':=
 ⟨(u.cell (q:=⟨h,0,none⟩) a.l hs).trans a.c0,(u.cell (q:=⟨h,1,none⟩) a.l hs).trans a.c1,(u.cell (q:=⟨h,2,none⟩) a.l hs).trans a.c2,(u.cell (q:=⟨h,3,none⟩) a.l hs).trans a.c3,(u.cell (q:=⟨h,4,none⟩) a.l hs).trans a.c4,Nat.lt_of_lt_of_le a.l u.size⟩
theorem KB.upto {S:Nat→Prop} {h:Nat} {k x:Int} {W W':World} (a:KB h k x W) (u:ah S W W') (hs:¬S h):KB h k x W':=
 ⟨(u.cell (q:=⟨h,0,none⟩) a.l hs).trans a.c0,(u.cell (q:=⟨h,1,none⟩) a.l hs).trans a.c1,fun i=>(u.frozen (q:=⟨h,i,none⟩) a.l hs).trans (a.z i),Nat.lt_of_lt_of_le a.l u.size⟩
theorem SB.drew {h:Nat} {R:Nat→Int} {pc f:Int} {W:World} (a:SB h R pc f W):SB h R pc f W.drew:=⟨a.r,a.c8,a.c9,a.z,a.l⟩
theorem SB.bI {h:Nat} {R:Nat→Int} {pc f:Int} {W:World} (a:SB h R pc f W) (d:Nat) (hd:d<8) (v:Int):SB h (aF R d v) pc f (W.setCell ⟨h,d,none⟩ (.int .u32 v)):=by
 refine⟨fun j hj=> ?_,(off (by omega)).trans a.c8,(off (by omega)).trans a.c9,fun i=>by simpa using a.z i,by simpa using a.l⟩
 by_cases e:j=d
 ·subst e;rw [World.cell?_setCell_same _ _ _ (a.r j hj)];simp [aF]
 ·rw [off e,a.r j hj];simp [aF,e]
theorem SB.jk {h:Nat} {R:Nat→Int} {pc f:Int} {W:World} (a:SB h R pc f W) (v:Int):SB h R v f (W.setCell ⟨h,8,none⟩ (.int .u32 v)):=
 ⟨fun j hj=>(off (by omega)).trans (a.r j hj),World.cell?_setCell_same _ _ _ a.c8,(off (by omega)).trans a.c9,fun i=>by simpa using a.z i,by simpa using a.l⟩
theorem SB.gU {h:Nat} {R:Nat→Int} {pc f:Int} {W:World} (a:SB h R pc f W) (v:Int):SB h R pc v (W.setCell ⟨h,9,none⟩ (.int .u32 v)):=
 ⟨fun j hj=>(off (by omega)).trans (a.r j hj),(off (by omega)).trans a.c8,World.cell?_setCell_same _ _ _ a.c9,fun i=>by simpa using a.z i,by simpa using a.l⟩
theorem KB.set {h:Nat} {k x:Int} {W:World} (a:KB h k x W) (k' x':Int):KB h k' x' ((W.setCell ⟨h,0,none⟩ (.int .i64 k')).setCell ⟨h,1,none⟩ (.int .u32 x')):=by
 refine⟨(off (by omega)).trans (World.cell?_setCell_same _ _ _ a.c0),World.cell?_setCell_same _ _ _ ((off (by omega)).trans a.c1),fun i=>by simpa using a.z i,by simpa using a.l⟩
theorem SB.new (w:World) (R:Nat→Int) (pc f:Int) (t:TypeId):SB w.heap.size R pc f (w.alloc (.cells (iY R pc f) t)):=by
 have A:∀i,(w.alloc (.cells (iY R pc f) t)).cell? ⟨w.heap.size,i,none⟩=(iY R pc f)[i]?:=fun i=>ay w _ _ i
 refine⟨fun j hj=> ?_,A 8,A 9,fun i=>gW w _ _ i,by simp⟩
 rw [A j]
 rcases(show j=0∨j=1∨j=2∨j=3∨j=4∨j=5∨j=6∨j=7 by omega) with rfl | rfl | rfl | rfl | rfl | rfl | rfl | rfl<;>rfl
theorem XB.new (w:World) (k d s o m:Int) (t:TypeId):XB w.heap.size k d s o m (w.alloc (.cells #[.int .i64 k, .int .i64 d, .int .i64 s, .int .i64 o, .int .u32 m] t)):=
 ⟨ay w _ _ 0,ay w _ _ 1,ay w _ _ 2,ay w _ _ 3,ay w _ _ 4,by simp⟩
theorem KB.new (w:World) (k x:Int) (t:TypeId):KB w.heap.size k x (w.alloc (.cells #[.int .i64 k, .int .u32 x] t)):=
 ⟨ay w _ _ 0,ay w _ _ 1,fun i=>gW w _ _ i,by simp⟩
theorem RQ.new (w:World) (t t':TypeId):RQ w.heap.size (w.heap.size+1) 10 (fun _=> .int .u32 0) (fun i=>if i=1 then .int .u32 0 else .int .i64 0) ((w.alloc (.cells oP t)).alloc (.cells Z2 t')):=by
 have e2:(w.alloc (.cells oP t)).heap.size=w.heap.size+1:=by simp
 have A2:∀i,(w.alloc (.cells oP t)).cell? ⟨w.heap.size,i,none⟩=oP[i]?:=fun i=>ay w _ _ i
 have F2:∀i,(w.alloc (.cells oP t)).frozen? ⟨w.heap.size,i,none⟩=false:=fun i=>gW w _ _ i
 generalize w.alloc (.cells oP t)=W2 at e2 A2 F2⊢
 have Xc:=(Below.refl W2.heap.size W2).alloc (Nat.le_refl _) (.cells Z2 t')
 have A3:∀i,(W2.alloc (.cells Z2 t')).cell? ⟨w.heap.size+1,i,none⟩=Z2[i]?:=fun i=>by rw [←e2];exact ay W2 _ _ i
 have F3:∀i,(W2.alloc (.cells Z2 t')).frozen? ⟨w.heap.size+1,i,none⟩=false:=fun i=>by rw [←e2];exact gW W2 _ _ i
 have e3:(W2.alloc (.cells Z2 t')).heap.size=w.heap.size+2:=by simp [e2]
 refine⟨fun i hi=> ?_,fun i hi=> ?_,fun i=>(Xc.frozen (p:=⟨w.heap.size,i,none⟩) (by show w.heap.size<_;omega)).trans (F2 i),F3,by omega,by omega,by omega⟩
 ·rw [(Xc.cell (p:=⟨w.heap.size,i,none⟩) (by show w.heap.size<_;omega)).trans (A2 i)]
  rcases(show i=0∨i=1∨i=2∨i=3∨i=4∨i=5∨i=6∨i=7∨i=8∨i=9 by omega) with rfl | rfl | rfl | rfl | rfl | rfl | rfl | rfl | rfl | rfl<;>rfl
 ·rw [A3 i]
  rcases(show i=0∨i=1 by omega) with rfl | rfl<;>rfl
structure MB (h:Nat) (R:Nat→Int) (pc f k d s o m:Int) (R':Nat→Int) (kH f' kk xx:Int) (W:World):Prop where
 x:XB h k d s o m W
 s:SB (h+1) R pc f W
 t:SB (h+1+1) R' kH f' W
 q:RQ (h+1+1+1) (h+1+1+1+1) 10 (fun _=> .int .u32 0) (fun i=>if i=1 then .int .u32 0 else .int .i64 0) W
 k:KB (h+1+1+1+1+1) kk xx W
variable {h:Nat} {R:Nat→Int} {pc f k d s o m:Int} {R':Nat→Int} {kH f' kk xx:Int} {W W':World}
theorem MB.upto {S:Nat→Prop} (a:MB h R pc f k d s o m R' kH f' kk xx W) (u:ah S W W') (hs:∀i,h≤i→¬S i):MB h R pc f k d s o m R' kH f' kk xx W':=
 ⟨a.x.upto u (hs _ (by omega)),a.s.upto u (hs _ (by omega)),a.t.upto u (hs _ (by omega)),a.q.upto u (hs _ (by omega)) (hs _ (by omega)),a.k.upto u (hs _ (by omega))⟩
theorem MB.qH (a:MB h R pc f k d s o m R' kH f' kk xx W) {R2:Nat→Int} {pc2 f2:Int} (u:ah (fun i=>i=h+1+1) W W') (t':SB (h+1+1) R2 pc2 f2 W'):MB h R pc f k d s o m R2 pc2 f2 kk xx W':=
 ⟨a.x.upto u (by omega),a.s.upto u (by omega),t',a.q.upto u (by omega) (by omega),a.k.upto u (by omega)⟩
theorem MB.iD (a:MB h R pc f k d s o m R' kH f' kk xx W) (k2 x2:Int):MB h R pc f k d s o m R' kH f' k2 x2 ((W.setCell ⟨h+1+1+1+1+1,0,none⟩ (.int .i64 k2)).setCell ⟨h+1+1+1+1+1,1,none⟩ (.int .u32 x2)):=
 have u:=((ah.refl (fun i=>i=h+1+1+1+1+1) W).setCell (q:=⟨h+1+1+1+1+1,0,none⟩) (.inl rfl) (.int .i64 k2)).setCell (q:=⟨h+1+1+1+1+1,1,none⟩) (.inl rfl) (.int .u32 x2)
 ⟨a.x.upto u (by omega),a.s.upto u (by omega),a.t.upto u (by omega),a.q.upto u (by omega) (by omega),a.k.set k2 x2⟩
theorem MB.bI (a:MB h R pc f k d s o m R' kH f' kk xx W) (j:Nat) (hj:j<8) (v:Int):MB h R pc f k d s o m (aF R' j v) kH f' kk xx (W.setCell ⟨h+1+1,j,none⟩ (.int .u32 v)):=
 a.qH ((ah.refl (fun i=>i=h+1+1) W).setCell (q:=⟨h+1+1,j,none⟩) (.inl rfl) _) (a.t.bI j hj v)
theorem MB.jk (a:MB h R pc f k d s o m R' kH f' kk xx W) (v:Int):MB h R pc f k d s o m R' v f' kk xx (W.setCell ⟨h+1+1,8,none⟩ (.int .u32 v)):=
 a.qH ((ah.refl (fun i=>i=h+1+1) W).setCell (q:=⟨h+1+1,8,none⟩) (.inl rfl) _) (a.t.jk v)
theorem MB.gU (a:MB h R pc f k d s o m R' kH f' kk xx W) (v:Int):MB h R pc f k d s o m R' kH v kk xx (W.setCell ⟨h+1+1,9,none⟩ (.int .u32 v)):=
 a.qH ((ah.refl (fun i=>i=h+1+1) W).setCell (q:=⟨h+1+1,9,none⟩) (.inl rfl) _) (a.t.gU v)
theorem MB.drew (a:MB h R pc f k d s o m R' kH f' kk xx W):MB h R pc f k d s o m R' kH f' kk xx W.drew:=a.upto (ah.refl (fun _=>False) W).drew (fun _ _=>id)
theorem MB.new (w:World) (R:Nat→Int) (pc f k d s o m:Int) (R':Nat→Int) (kH f':Int):
  MB w.heap.size R pc f k d s o m R' kH f' 0 0 ((((((w.alloc (.cells #[.int .i64 k, .int .i64 d, .int .i64 s, .int .i64 o, .int .u32 m] 74)).alloc (.cells (iY R pc f) 94)).alloc (.cells (iY R' kH f') 94)).alloc (.cells oP 94)).alloc (.cells Z2 55)).alloc (.cells Z2 55)):=by
 have x1:=XB.new w k d s o m 74
 have e1:(w.alloc (.cells #[.int .i64 k, .int .i64 d, .int .i64 s, .int .i64 o, .int .u32 m] 74)).heap.size=w.heap.size+1:=by simp
 generalize w.alloc (.cells #[.int .i64 k, .int .i64 d, .int .i64 s, .int .i64 o, .int .u32 m] 74)=W1 at x1 e1⊢
 have s2:=SB.new W1 R pc f 94
 have e2:(W1.alloc (.cells (iY R pc f) 94)).heap.size=w.heap.size+1+1:=by simp [e1]
 have u2:=(ah.refl (fun _=>False) W1).alloc (.cells (iY R pc f) 94)
 rw [e1] at s2
 generalize W1.alloc (.cells (iY R pc f) 94)=W2 at s2 e2 u2⊢
 have t3:=SB.new W2 R' kH f' 94
 have e3:(W2.alloc (.cells (iY R' kH f') 94)).heap.size=w.heap.size+1+1+1:=by simp [e2]
 have u3:=(ah.refl (fun _=>False) W2).alloc (.cells (iY R' kH f') 94)
 rw [e2] at t3
 generalize W2.alloc (.cells (iY R' kH f') 94)=W3 at t3 e3 u3⊢
 have q5:=RQ.new W3 94 55
 have e5:((W3.alloc (.cells oP 94)).alloc (.cells Z2 55)).heap.size=w.heap.size+1+1+1+1+1:=by simp [e3]
 have u5:=((ah.refl (fun _=>False) W3).alloc (.cells oP 94)).alloc (.cells Z2 55)
 rw [e3] at q5
 generalize(W3.alloc (.cells oP 94)).alloc (.cells Z2 55)=W5 at q5 e5 u5⊢
 have k6:=KB.new W5 0 0 55
 have u6:=(ah.refl (fun _=>False) W5).alloc (.cells Z2 55)
 rw [e5] at k6
 exact⟨(((x1.upto u2 id).upto u3 id).upto u5 id).upto u6 id,((s2.upto u3 id).upto u5 id).upto u6 id,(t3.upto u5 id).upto u6 id,q5.upto u6 id id,k6⟩
theorem S3.upto {S:Nat→Prop} {h:Nat} {R:Nat→Int} {pc f:Int} {W W':World} (a:S3 h R pc f W) (u:ah S W W') (h0:¬S h) (h1:¬S (h+1)) (h2:¬S (h+1+1)):S3 h R pc f W':=by
 have l0:h<W.heap.size:=Nat.lt_of_succ_lt a.q.la
 exact⟨fun j hj=>(u.cell (q:=⟨h,j,none⟩) l0 h0).trans (a.s j hj),(u.cell (q:=⟨h,8,none⟩) l0 h0).trans a.s8,(u.cell (q:=⟨h,9,none⟩) l0 h0).trans a.s9,a.q.upto u h1 h2⟩
theorem aS {P:RP} {M:MM} {W:World} {A i:Nat} {v:Value} (h:RM P M W) (dR:¬P.has A):RM P M (W.setCell ⟨A,i,none⟩ v):=
 h.upto ((ah.refl (fun j=>j=A) W).setCell (q:=⟨A,i,none⟩) (.inl rfl) v) (fun k hk e=>dR (e▸hk))
theorem iG {P:RP} {M:MM} {W:World} (h:RM P M W) {i:Nat} (hi:P.has i):i<W.heap.size:=by
 rcases hi with e | e | e | e | e
 ·rw [e];exact h.lq
 ·rw [e];exact h.lb
 ·rw [e];exact h.lr
 ·rw [e];exact h.lm
 ·rw [e];exact h.lt
theorem zJ (w:World) (R:Nat→Int) (pc f k d s o m:Int):
  (XB w.heap.size k d s o m (((w.alloc (.cells #[.int .i64 k, .int .i64 d, .int .i64 s, .int .i64 o, .int .u32 m] 74)).alloc (.cells (iY R pc f) 94)).alloc (.cells Z2 55)))∧
  (SB (w.heap.size+1) R pc f (((w.alloc (.cells #[.int .i64 k, .int .i64 d, .int .i64 s, .int .i64 o, .int .u32 m] 74)).alloc (.cells (iY R pc f) 94)).alloc (.cells Z2 55)))∧
  (KB (w.heap.size+1+1) 0 0 (((w.alloc (.cells #[.int .i64 k, .int .i64 d, .int .i64 s, .int .i64 o, .int .u32 m] 74)).alloc (.cells (iY R pc f) 94)).alloc (.cells Z2 55)))∧
  ah (fun _=>False) w (((w.alloc (.cells #[.int .i64 k, .int .i64 d, .int .i64 s, .int .i64 o, .int .u32 m] 74)).alloc (.cells (iY R pc f) 94)).alloc (.cells Z2 55)):=by
 have hu:=(((ah.refl (fun _=>False) w).alloc (.cells #[.int .i64 k, .int .i64 d, .int .i64 s, .int .i64 o, .int .u32 m] 74)).alloc (.cells (iY R pc f) 94)).alloc (.cells Z2 55)
 refine⟨?_, ?_, ?_,hu⟩
 all_goals clear hu
 all_goals
  have x1:=XB.new w k d s o m 74
  have e1:(w.alloc (.cells #[.int .i64 k, .int .i64 d, .int .i64 s, .int .i64 o, .int .u32 m] 74)).heap.size=w.heap.size+1:=by simp
  generalize w.alloc (.cells #[.int .i64 k, .int .i64 d, .int .i64 s, .int .i64 o, .int .u32 m] 74)=W1 at x1 e1⊢
  have s2:=SB.new W1 R pc f 94
  have e2:(W1.alloc (.cells (iY R pc f) 94)).heap.size=w.heap.size+1+1:=by simp [e1]
  have u2:=(ah.refl (fun _=>False) W1).alloc (.cells (iY R pc f) 94)
  rw [e1] at s2
  generalize W1.alloc (.cells (iY R pc f) 94)=W2 at s2 e2 u2⊢
  have k6:=KB.new W2 0 0 55
  have u6:=(ah.refl (fun _=>False) W2).alloc (.cells Z2 55)
  rw [e2] at k6
 ·exact(x1.upto u2 id).upto u6 id
 ·exact s2.upto u6 id
 ·exact k6
theorem KB.drew {h:Nat} {k x:Int} {W:World} (a:KB h k x W):KB h k x W.drew:=⟨a.c0,a.c1,a.z,a.l⟩
theorem zK {b A i:Nat} {k x:Int} {v:Value} {W:World} (a:KB b k x W) (dR:¬b=A):KB b k x (W.setCell ⟨A,i,none⟩ v):=a.upto ((ah.refl (fun j=>j=A) W).setCell (q:=⟨A,i,none⟩) (.inl rfl) v) dR
theorem mQ {A i:Nat} {v:Value} {a w:World} (h:ah (fun j=>j=A) a w):ah (fun j=>j=A) a (w.setCell ⟨A,i,none⟩ v):=h.setCell (q:=⟨A,i,none⟩) (.inl rfl) v
theorem vk {P:RP} {A i:Nat} {v:Value} {a w:World} (h:ah (fun j=>P.has j∨j=A) a w):ah (fun j=>P.has j∨j=A) a (w.setCell ⟨A,i,none⟩ v):=h.setCell (q:=⟨A,i,none⟩) (.inl (.inr rfl)) v
theorem aK {S:Nat→Prop} {b i:Nat} {v:Value} {a w:World} (h:ah S a w) (hb:a.heap.size≤b):ah S a (w.setCell ⟨b,i,none⟩ v):=h.setCell (q:=⟨b,i,none⟩) (.inr hb) v
variable {R Rt:Nat→Int} {pc f nx ft:Int}
theorem abT (P:RP) (M:MM) (A d s:Nat) (o m q v:Int) (hd:d<8) (hs:s<8) (w:World) (hm:RM P M w) (hA:SB A Rt nx ft w) (dR:¬P.has A) (hM:bQ M) (hR:qI R) (q0:0≤q) (q1:q<4294967296) (v0:0≤v) (v1:v<4294967296) (f0:0≤f) (f1:f<16):
  Calls Tryz.prog 149 #[.pointer (some ⟨P.q,0,none⟩),jy 24 d s o m,iJ R pc f, .pointer (some ⟨A,0,none⟩), .int .u32 q, .int .u32 v] w fun e w'=>e= .returned (stpV 6 (jE M q 4))∧SB A (aF Rt d v) nx (ft) w'∧RM P (nU M q 4 (R d)) w'∧ah (fun i=>P.has i∨i=A) w w':=by
 have CS:=κ (fun w h=>dV P M q 4 (R d) w h hM q0 q1 (hR d).1 (hR d).2)
 rw [dw] at CS⊢
 generalize yA 6 (jE M q 4)=kk at CS⊢
 generalize Aq (jE M q 4)=xx at CS⊢
 generalize nU M q 4 (R d)=M' at CS⊢
 have Ou:(0:Int)≤(d:Int):=by omega
 have Ov:(d:Int) <8:=by omega
 have hr:=hR d
 have r0:=hR 0
 obtain⟨oU,qX,qY,fQ⟩:=zJ w R pc f 24 d s o m
 have lA:=hA.l
 have HA:=κ (hA.upto fQ id)
 have HM:=κ (hm.upto fQ (fun _ _=>id))
 have hW:∀i,w.heap.size≤i→¬ (P.has i∨i=A):=fun i hi h=>by
  rcases h with h | h
  ·have:=iG hm h;omega
  ·omega
 have dD:=κ hW
 have hAh:¬A=w.heap.size:=by omega
 have Ye:¬A=w.heap.size+1:=by omega
 have EC:¬A=w.heap.size+1+1:=by omega
 have Yf:¬w.heap.size=A:=by omega
 have Ox:¬w.heap.size+1=A:=by omega
 have wU:¬w.heap.size+1+1=A:=by omega
 clear hm hA hW
 unfold iY Z2 at oU qX qY fQ HA HM
 unfold jy iJ
 go_enter Tryz.func149,Tryz.ntmps149
 go_upto_region 1 with fail
 generalize((w.alloc (.cells #[.int .i64 24, .int .i64 d, .int .i64 s, .int .i64 o, .int .u32 m] 74)).alloc (.cells #[.int .u32 (R 0), .int .u32 (R 1), .int .u32 (R 2), .int .u32 (R 3), .int .u32 (R 4), .int .u32 (R 5), .int .u32 (R 6), .int .u32 (R 7), .int .u32 pc, .int .u32 f] 94)).alloc (.cells #[.int .i64 0, .int .u32 0] 55)=WA at oU qX qY fQ HA HM⊢
 have x0:=oU.c0
 have x1:=oU.c1
 have sd:=qX.r d hd
 have s0:=qX.r 0 (by omega)
 have s9:=qX.c9
 have td:=HA.out.r d hd
 have zd:=HA.out.z d
 have t0:=HA.out.r 0 (by omega)
 have z0:=HA.out.z 0
 have t9:=HA.out.c9
 have z9:=HA.out.z 9
 have b0:=qY.c0
 have b1:=qY.c1
 have lk:=qY.l
 have lAA:=HA.out.l
 have NK:=κ qY
 have NU:=κ fQ
 have NS:=κ qX
 have NX:=κ oU
 clear oU qX qY fQ
 go_wp2_with fail
 go_region
 go_wp2_with (go_at_call 148;(with_reducible refine(CS.out _ (by repeat(first | exact HM.out | apply RM.drew | apply aS _ dR))).mono ?_);rintro e w3 ⟨rfl,m3,u3⟩;have l3:=u3.size;have k3:=KB.upto (h:=w.heap.size+1+1) (k:=0) (x:=0) (by repeat(first | exact NK.out | apply KB.drew | refine zK ?_ wU)) u3 (fun h=>dD.out _ (by omega) (.inl h));have g0:=k3.c0;have g1:=k3.c1;have y0:=k3.z 0;have y1:=k3.z 1;have lk3:=k3.l;have K3:=κ k3;have M3:=κ m3;have U3:=κ u3;clear k3 m3 u3)
 refine bodyPost_ret (v:= .agg #[.int .i64 kk, .int .u32 xx]) (by simp [results,Tryz.results149,go_sem,g0,g1,y0,y1]) rfl ⟨rfl, ?_, ?_, ?_⟩
 ·refine SB.upto (S:=fun j=>j=w.heap.size+1+1) (W:=w3) ?_ (by repeat(first | exact ah.refl _ _ | apply ah.drew | apply mQ)) EC
  refine SB.upto ?_ U3.out dR
  repeat(first | exact HA.out | apply SB.drew | refine SB.bI ?_ _ (by omega) _ | refine SB.gU (f:=ft) ?_ _)
 ·refine RM.upto (S:=fun j=>j=w.heap.size+1+1) M3.out (by repeat(first | exact ah.refl _ _ | apply ah.drew | apply mQ)) (fun j hj e=>dD.out (w.heap.size+1+1) (by omega) (.inl (e▸hj)))
 ·repeat(first | apply ah.drew | refine aK (b:=w.heap.size+1+1) ?_ (by omega))
  refine ah.trans ?_ (U3.out.mono fun _ _ h=> .inl h)
  repeat(first | exact NU.out.mono (fun _ _ h=>h.elim) | apply ah.drew | apply vk)
theorem abU (P:RP) (M:MM) (A d s:Nat) (o m q v:Int) (hd:d<8) (hs:s<8) (w:World) (hm:RM P M w) (hA:SB A Rt nx ft w) (dR:¬P.has A) (hM:bQ M) (hR:qI R) (q0:0≤q) (q1:q<4294967296) (v0:0≤v) (v1:v<4294967296) (f0:0≤f) (f1:f<16):
  Calls Tryz.prog 149 #[.pointer (some ⟨P.q,0,none⟩),jy 25 d s o m,iJ R pc f, .pointer (some ⟨A,0,none⟩), .int .u32 q, .int .u32 v] w fun e w'=>e= .returned (stpV 6 (jE M q 4))∧SB A (aF Rt d v) nx (fl 1 v (R d) f) w'∧RM P (nU M q 4 (au (v+R d))) w'∧ah (fun i=>P.has i∨i=A) w w':=by
 have CS:=κ (fun w h=>dV P M q 4 (au (v+R d)) w h hM q0 q1 (aP _).1 (aP _).2)
 have CF:=κ (fun w=>fU 1 v (R d) f w v0 v1 (hR d).1 (hR d).2 f0 (by omega))
 have ew:(v+R d)%4294967296=au (v+R d):=rfl
 rw [dw] at CS⊢
 generalize yA 6 (jE M q 4)=kk at CS⊢
 generalize Aq (jE M q 4)=xx at CS⊢
 generalize nU M q 4 (au (v+R d))=M' at CS⊢
 have Ou:(0:Int)≤(d:Int):=by omega
 have Ov:(d:Int) <8:=by omega
 have hr:=hR d
 have r0:=hR 0
 obtain⟨oU,qX,qY,fQ⟩:=zJ w R pc f 25 d s o m
 have lA:=hA.l
 have HA:=κ (hA.upto fQ id)
 have HM:=κ (hm.upto fQ (fun _ _=>id))
 have hW:∀i,w.heap.size≤i→¬ (P.has i∨i=A):=fun i hi h=>by
  rcases h with h | h
  ·have:=iG hm h;omega
  ·omega
 have dD:=κ hW
 have hAh:¬A=w.heap.size:=by omega
 have Ye:¬A=w.heap.size+1:=by omega
 have EC:¬A=w.heap.size+1+1:=by omega
 have Yf:¬w.heap.size=A:=by omega
 have Ox:¬w.heap.size+1=A:=by omega
 have wU:¬w.heap.size+1+1=A:=by omega
 clear hm hA hW
 unfold iY Z2 at oU qX qY fQ HA HM
 unfold jy iJ
 go_enter Tryz.func149,Tryz.ntmps149
 go_upto_region 1 with fail
 generalize((w.alloc (.cells #[.int .i64 25, .int .i64 d, .int .i64 s, .int .i64 o, .int .u32 m] 74)).alloc (.cells #[.int .u32 (R 0), .int .u32 (R 1), .int .u32 (R 2), .int .u32 (R 3), .int .u32 (R 4), .int .u32 (R 5), .int .u32 (R 6), .int .u32 (R 7), .int .u32 pc, .int .u32 f] 94)).alloc (.cells #[.int .i64 0, .int .u32 0] 55)=WA at oU qX qY fQ HA HM⊢
 have x0:=oU.c0
 have x1:=oU.c1
 have sd:=qX.r d hd
 have s0:=qX.r 0 (by omega)
 have s9:=qX.c9
 have td:=HA.out.r d hd
 have zd:=HA.out.z d
 have t0:=HA.out.r 0 (by omega)
 have z0:=HA.out.z 0
 have t9:=HA.out.c9
 have z9:=HA.out.z 9
 have b0:=qY.c0
 have b1:=qY.c1
 have lk:=qY.l
 have lAA:=HA.out.l
 have NK:=κ qY
 have NU:=κ fQ
 have NS:=κ qX
 have NX:=κ oU
 clear oU qX qY fQ
 go_wp2_with fail
 go_region
 go_wp2_with fail
 go_wp2_with (go_at_call 91;(with_reducible refine(CF.out _).mono ?_);rintro e w4 ⟨rfl,rfl⟩)
 go_wp2_with (go_at_call 148;(with_reducible refine(CS.out _ (by repeat(first | exact HM.out | apply RM.drew | apply aS _ dR))).mono ?_);rintro e w3 ⟨rfl,m3,u3⟩;have l3:=u3.size;have k3:=KB.upto (h:=w.heap.size+1+1) (k:=0) (x:=0) (by repeat(first | exact NK.out | apply KB.drew | refine zK ?_ wU)) u3 (fun h=>dD.out _ (by omega) (.inl h));have g0:=k3.c0;have g1:=k3.c1;have y0:=k3.z 0;have y1:=k3.z 1;have lk3:=k3.l;have K3:=κ k3;have M3:=κ m3;have U3:=κ u3;clear k3 m3 u3)
 refine bodyPost_ret (v:= .agg #[.int .i64 kk, .int .u32 xx]) (by simp [results,Tryz.results149,go_sem,g0,g1,y0,y1]) rfl ⟨rfl, ?_, ?_, ?_⟩
 ·refine SB.upto (S:=fun j=>j=w.heap.size+1+1) (W:=w3) ?_ (by repeat(first | exact ah.refl _ _ | apply ah.drew | apply mQ)) EC
  refine SB.upto ?_ U3.out dR
  repeat(first | exact HA.out | apply SB.drew | refine SB.bI ?_ _ (by omega) _ | refine SB.gU (f:=ft) ?_ _)
 ·refine RM.upto (S:=fun j=>j=w.heap.size+1+1) M3.out (by repeat(first | exact ah.refl _ _ | apply ah.drew | apply mQ)) (fun j hj e=>dD.out (w.heap.size+1+1) (by omega) (.inl (e▸hj)))
 ·repeat(first | apply ah.drew | refine aK (b:=w.heap.size+1+1) ?_ (by omega))
  refine ah.trans ?_ (U3.out.mono fun _ _ h=> .inl h)
  repeat(first | exact NU.out.mono (fun _ _ h=>h.elim) | apply ah.drew | apply vk)
theorem Yg (P:RP) (M:MM) (A d s:Nat) (o m q v:Int) (hd:d<8) (hs:s<8) (w:World) (hm:RM P M w) (hA:SB A Rt nx ft w) (dR:¬P.has A) (hM:bQ M) (hR:qI R) (q0:0≤q) (q1:q<4294967296) (v0:0≤v) (v1:v<4294967296) (f0:0≤f) (f1:f<16) (he:R 0=v):
  Calls Tryz.prog 149 #[.pointer (some ⟨P.q,0,none⟩),jy 26 d s o m,iJ R pc f, .pointer (some ⟨A,0,none⟩), .int .u32 q, .int .u32 v] w fun e w'=>e= .returned (stpV 6 (jE M q 4))∧SB A (Rt) nx (fl 3 (R 0) v f) w'∧RM P (nU M q 4 (R d)) w'∧ah (fun i=>P.has i∨i=A) w w':=by
 have CS:=κ (fun w h=>dV P M q 4 (R d) w h hM q0 q1 (hR d).1 (hR d).2)
 have CF:=κ (fun w=>fU 3 (R 0) v f w (hR 0).1 (hR 0).2 v0 v1 f0 (by omega))
 have eb:(v==R 0)=true:=by rw [he];exact beq_self_eq_true v
 clear he
 rw [dw] at CS⊢
 generalize yA 6 (jE M q 4)=kk at CS⊢
 generalize Aq (jE M q 4)=xx at CS⊢
 generalize nU M q 4 (R d)=M' at CS⊢
 have Ou:(0:Int)≤(d:Int):=by omega
 have Ov:(d:Int) <8:=by omega
 have hr:=hR d
 have r0:=hR 0
 obtain⟨oU,qX,qY,fQ⟩:=zJ w R pc f 26 d s o m
 have lA:=hA.l
 have HA:=κ (hA.upto fQ id)
 have HM:=κ (hm.upto fQ (fun _ _=>id))
 have hW:∀i,w.heap.size≤i→¬ (P.has i∨i=A):=fun i hi h=>by
  rcases h with h | h
  ·have:=iG hm h;omega
  ·omega
 have dD:=κ hW
 have hAh:¬A=w.heap.size:=by omega
 have Ye:¬A=w.heap.size+1:=by omega
 have EC:¬A=w.heap.size+1+1:=by omega
 have Yf:¬w.heap.size=A:=by omega
 have Ox:¬w.heap.size+1=A:=by omega
 have wU:¬w.heap.size+1+1=A:=by omega
 clear hm hA hW
 unfold iY Z2 at oU qX qY fQ HA HM
 unfold jy iJ
 go_enter Tryz.func149,Tryz.ntmps149
 go_upto_region 1 with fail
 generalize((w.alloc (.cells #[.int .i64 26, .int .i64 d, .int .i64 s, .int .i64 o, .int .u32 m] 74)).alloc (.cells #[.int .u32 (R 0), .int .u32 (R 1), .int .u32 (R 2), .int .u32 (R 3), .int .u32 (R 4), .int .u32 (R 5), .int .u32 (R 6), .int .u32 (R 7), .int .u32 pc, .int .u32 f] 94)).alloc (.cells #[.int .i64 0, .int .u32 0] 55)=WA at oU qX qY fQ HA HM⊢
 have x0:=oU.c0
 have x1:=oU.c1
 have sd:=qX.r d hd
 have s0:=qX.r 0 (by omega)
 have s9:=qX.c9
 have td:=HA.out.r d hd
 have zd:=HA.out.z d
 have t0:=HA.out.r 0 (by omega)
 have z0:=HA.out.z 0
 have t9:=HA.out.c9
 have z9:=HA.out.z 9
 have b0:=qY.c0
 have b1:=qY.c1
 have lk:=qY.l
 have lAA:=HA.out.l
 have NK:=κ qY
 have NU:=κ fQ
 have NS:=κ qX
 have NX:=κ oU
 clear oU qX qY fQ
 go_wp2_with fail
 go_wp2_with (go_at_call 91;(with_reducible refine(CF.out _).mono ?_);rintro e w4 ⟨rfl,rfl⟩)
 go_wp2_with (go_at_call 148;(with_reducible refine(CS.out _ (by repeat(first | exact HM.out | apply RM.drew | apply aS _ dR))).mono ?_);rintro e w3 ⟨rfl,m3,u3⟩;have l3:=u3.size;have k3:=KB.upto (h:=w.heap.size+1+1) (k:=0) (x:=0) (by repeat(first | exact NK.out | apply KB.drew | refine zK ?_ wU)) u3 (fun h=>dD.out _ (by omega) (.inl h));have g0:=k3.c0;have g1:=k3.c1;have y0:=k3.z 0;have y1:=k3.z 1;have lk3:=k3.l;have K3:=κ k3;have M3:=κ m3;have U3:=κ u3;clear k3 m3 u3)
 refine bodyPost_ret (v:= .agg #[.int .i64 kk, .int .u32 xx]) (by simp [results,Tryz.results149,go_sem,g0,g1,y0,y1]) rfl ⟨rfl, ?_, ?_, ?_⟩
 ·refine SB.upto (S:=fun j=>j=w.heap.size+1+1) (W:=w3) ?_ (by repeat(first | exact ah.refl _ _ | apply ah.drew | apply mQ)) EC
  refine SB.upto ?_ U3.out dR
  repeat(first | exact HA.out | apply SB.drew | refine SB.bI ?_ _ (by omega) _ | refine SB.gU (f:=ft) ?_ _)
 ·refine RM.upto (S:=fun j=>j=w.heap.size+1+1) M3.out (by repeat(first | exact ah.refl _ _ | apply ah.drew | apply mQ)) (fun j hj e=>dD.out (w.heap.size+1+1) (by omega) (.inl (e▸hj)))
 ·repeat(first | apply ah.drew | refine aK (b:=w.heap.size+1+1) ?_ (by omega))
  refine ah.trans ?_ (U3.out.mono fun _ _ h=> .inl h)
  repeat(first | exact NU.out.mono (fun _ _ h=>h.elim) | apply ah.drew | apply vk)
theorem Yh (P:RP) (M:MM) (A d s:Nat) (o m q v:Int) (hd:d<8) (hs:s<8) (w:World) (hm:RM P M w) (hA:SB A Rt nx ft w) (dR:¬P.has A) (hM:bQ M) (hR:qI R) (q0:0≤q) (q1:q<4294967296) (v0:0≤v) (v1:v<4294967296) (f0:0≤f) (f1:f<16) (he:¬R 0=v):
  Calls Tryz.prog 149 #[.pointer (some ⟨P.q,0,none⟩),jy 26 d s o m,iJ R pc f, .pointer (some ⟨A,0,none⟩), .int .u32 q, .int .u32 v] w fun e w'=>e= .returned (stpV 6 (jE M q 4))∧SB A (aF Rt 0 v) nx (fl 3 (R 0) v f) w'∧RM P (nU M q 4 (v)) w'∧ah (fun i=>P.has i∨i=A) w w':=by
 have CS:=κ (fun w h=>dV P M q 4 (v) w h hM q0 q1 v0 v1)
 have CF:=κ (fun w=>fU 3 (R 0) v f w (hR 0).1 (hR 0).2 v0 v1 f0 (by omega))
 have eb:(v==R 0)=false:=by rw [beq_eq_false_iff_ne];exact fun h=>he h.symm
 clear he
 rw [dw] at CS⊢
 generalize yA 6 (jE M q 4)=kk at CS⊢
 generalize Aq (jE M q 4)=xx at CS⊢
 generalize nU M q 4 (v)=M' at CS⊢
 have Ou:(0:Int)≤(d:Int):=by omega
 have Ov:(d:Int) <8:=by omega
 have hr:=hR d
 have r0:=hR 0
 obtain⟨oU,qX,qY,fQ⟩:=zJ w R pc f 26 d s o m
 have lA:=hA.l
 have HA:=κ (hA.upto fQ id)
 have HM:=κ (hm.upto fQ (fun _ _=>id))
 have hW:∀i,w.heap.size≤i→¬ (P.has i∨i=A):=fun i hi h=>by
  rcases h with h | h
  ·have:=iG hm h;omega
  ·omega
 have dD:=κ hW
 have hAh:¬A=w.heap.size:=by omega
 have Ye:¬A=w.heap.size+1:=by omega
 have EC:¬A=w.heap.size+1+1:=by omega
 have Yf:¬w.heap.size=A:=by omega
 have Ox:¬w.heap.size+1=A:=by omega
 have wU:¬w.heap.size+1+1=A:=by omega
 clear hm hA hW
 unfold iY Z2 at oU qX qY fQ HA HM
 unfold jy iJ
 go_enter Tryz.func149,Tryz.ntmps149
 go_upto_region 1 with fail
 generalize((w.alloc (.cells #[.int .i64 26, .int .i64 d, .int .i64 s, .int .i64 o, .int .u32 m] 74)).alloc (.cells #[.int .u32 (R 0), .int .u32 (R 1), .int .u32 (R 2), .int .u32 (R 3), .int .u32 (R 4), .int .u32 (R 5), .int .u32 (R 6), .int .u32 (R 7), .int .u32 pc, .int .u32 f] 94)).alloc (.cells #[.int .i64 0, .int .u32 0] 55)=WA at oU qX qY fQ HA HM⊢
 have x0:=oU.c0
 have x1:=oU.c1
 have sd:=qX.r d hd
 have s0:=qX.r 0 (by omega)
 have s9:=qX.c9
 have td:=HA.out.r d hd
 have zd:=HA.out.z d
 have t0:=HA.out.r 0 (by omega)
 have z0:=HA.out.z 0
 have t9:=HA.out.c9
 have z9:=HA.out.z 9
 have b0:=qY.c0
 have b1:=qY.c1
 have lk:=qY.l
 have lAA:=HA.out.l
 have NK:=κ qY
 have NU:=κ fQ
 have NS:=κ qX
 have NX:=κ oU
 clear oU qX qY fQ
 go_wp2_with fail
 go_wp2_with (go_at_call 91;(with_reducible refine(CF.out _).mono ?_);rintro e w4 ⟨rfl,rfl⟩)
 go_wp2_with (go_at_call 148;(with_reducible refine(CS.out _ (by repeat(first | exact HM.out | apply RM.drew | apply aS _ dR))).mono ?_);rintro e w3 ⟨rfl,m3,u3⟩;have l3:=u3.size;have k3:=KB.upto (h:=w.heap.size+1+1) (k:=0) (x:=0) (by repeat(first | exact NK.out | apply KB.drew | refine zK ?_ wU)) u3 (fun h=>dD.out _ (by omega) (.inl h));have g0:=k3.c0;have g1:=k3.c1;have y0:=k3.z 0;have y1:=k3.z 1;have lk3:=k3.l;have K3:=κ k3;have M3:=κ m3;have U3:=κ u3;clear k3 m3 u3)
 refine bodyPost_ret (v:= .agg #[.int .i64 kk, .int .u32 xx]) (by simp [results,Tryz.results149,go_sem,g0,g1,y0,y1]) rfl ⟨rfl, ?_, ?_, ?_⟩
 ·refine SB.upto (S:=fun j=>j=w.heap.size+1+1) (W:=w3) ?_ (by repeat(first | exact ah.refl _ _ | apply ah.drew | apply mQ)) EC
  refine SB.upto ?_ U3.out dR
  repeat(first | exact HA.out | apply SB.drew | refine SB.bI ?_ _ (by omega) _ | refine SB.gU (f:=ft) ?_ _)
 ·refine RM.upto (S:=fun j=>j=w.heap.size+1+1) M3.out (by repeat(first | exact ah.refl _ _ | apply ah.drew | apply mQ)) (fun j hj e=>dD.out (w.heap.size+1+1) (by omega) (.inl (e▸hj)))
 ·repeat(first | apply ah.drew | refine aK (b:=w.heap.size+1+1) ?_ (by omega))
  refine ah.trans ?_ (U3.out.mono fun _ _ h=> .inl h)
  repeat(first | exact NU.out.mono (fun _ _ h=>h.elim) | apply ah.drew | apply vk)
end Go.Proofs.YtcjcmnnhmajocabGreat.St
