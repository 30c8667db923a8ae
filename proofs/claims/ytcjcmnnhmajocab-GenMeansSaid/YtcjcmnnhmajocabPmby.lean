import Derived.Test.YtcjcmnnhmajocabPmbj
import Derived.Test.YtcjcmnnhmajocabPmbt
import Derived.Test.YtcjcmnnhmajocabPmbu
import Derived.Test.YtcjcmnnhmajocabPmbv
import Derived.Test.YtcjcmnnhmajocabPmbx
set_option linter.unusedVariables false
set_option linter.unusedSimpArgs false
set_option maxRecDepth 100000
set_option maxHeartbeats 16000000
namespace Go.Proofs.Ytcjcmnnhmajocab.Gn
open Go.RowKit Kt Ic Hr Ho Me Fl
open Ev (kY qE EY Vj BU yw VZ GK Pn OpK rE rH)
theorem fourteen (r:Int):∃q R:Int,r.tmod 14=q∧ -14<q∧q<14∧(q+14).tmod 14=R∧0≤R∧R<14:=by
 refine⟨_,_,rfl, ?_, ?_,rfl, ?_, ?_⟩
 ·by_cases h:0≤r
  ·rw [Int.tmod_eq_emod_of_nonneg h];omega
  ·have e:r.tmod 14= -((-r).tmod 14):=by rw [Int.neg_tmod];omega
   rw [e,Int.tmod_eq_emod_of_nonneg (show 0≤ -r by omega)];omega
 ·by_cases h:0≤r
  ·rw [Int.tmod_eq_emod_of_nonneg h];omega
  ·have e:r.tmod 14= -((-r).tmod 14):=by rw [Int.neg_tmod];omega
   rw [e,Int.tmod_eq_emod_of_nonneg (show 0≤ -r by omega)];omega
 all_goals
  have h1:0≤r.tmod 14+14:=by
   by_cases h:0≤r
   ·rw [Int.tmod_eq_emod_of_nonneg h];omega
   ·have e:r.tmod 14= -((-r).tmod 14):=by rw [Int.neg_tmod];omega
    rw [e,Int.tmod_eq_emod_of_nonneg (show 0≤ -r by omega)];omega
  rw [Int.tmod_eq_emod_of_nonneg h1]
  omega
theorem opA {os:List cZ} {aC bg:Int} (h:(uh os aC bg).1=0) {i:Nat} {o:cZ} (ho:os[i]?=some o) (k0:4≤o.k) (k1:o.k≤9):o.a<i:=by
 have hi:=(List.getElem?_eq_some_iff.1 ho).1
 have c:=(sU h).2.2.2.2.1 i hi
 have e:opAt os i=o:=by unfold opAt;rw [List.getD_eq_getElem?_getD,ho];rfl
 rw [e] at c
 refine(c.t o.a ?_).2.1
 unfold tk
 split
 ·simp
 ·split
  ·simp
  ·split
   ·simp
   ·omega
theorem rP {os:List cZ} (h:∀o∈os,0≤o.kn∧o.kn<4294967296) (t:Nat):0≤(opAt os t).kn∧(opAt os t).kn<4294967296:=by
 unfold opAt
 rw [List.getD_eq_getElem?_getD]
 cases e:os[t]? with
 | none=>exact⟨by show(0:Int)≤0;decide,by show(0:Int) <4294967296;decide⟩
 | some o=>exact h o (List.mem_of_getElem? e)
theorem Df (os:List cZ) (ao:Option Addr) (cap:Nat) (pc aC bg r:Int) (cx:Nat→Int) (ps:List Ev.yx) (pao:Option Addr) (Zq:Nat) (ks:List Int) (kao:Option Addr) (Tn:Nat)
  (w:World) (gy:rQ os ao cap w) (kW:∀o∈os,0≤o.kn∧o.kn<4294967296) (hp:0≤pc∧pc<4294967296) (hC:Ev.oL cx) (hps:EY ps pao Zq w) (ZL:Vj ks kao Tn w):
  Calls Try.prog 4 #[.agg #[.int .u32 pc, .int .i64 aC, .int .i64 bg, .slice ao os.length cap], .int .i64 r, .agg #[.int .u32 (cx 0), .int .u32 (cx 1), .int .u32 (cx 2), .int .u32 (cx 3), .int .u32 (cx 4), .int .u32 (cx 5), .int .u32 (cx 6), .int .u32 (cx 7), .int .u32 (cx 8), .int .u32 (cx 9), .int .u32 (cx 10), .int .u32 (cx 11)], .slice pao ps.length Zq, .slice kao ks.length Tn] w fun e w'=>e= .returned (.bool true)∧Below w.heap.size w w':=by
 have u0:=((ah.refl (fun _=>False) w).alloc (.cells #[.int .u32 pc, .int .i64 aC, .int .i64 bg, .slice ao os.length cap] 25)).alloc (.cells #[.int .u32 (cx 0), .int .u32 (cx 1), .int .u32 (cx 2), .int .u32 (cx 3), .int .u32 (cx 4), .int .u32 (cx 5), .int .u32 (cx 6), .int .u32 (cx 7), .int .u32 (cx 8), .int .u32 (cx 9), .int .u32 (cx 10), .int .u32 (cx 11)] 37)
 have bw:=u0.below (Nat.le_refl _) (fun _ _=>id)
 have BO:=κ (BU ps pao Zq ks kao Tn _ (hps.keep bw) (by
  refine⟨ZL.1,ZL.2.1,fun h0=> ?_⟩
  obtain⟨b,off,e,hb,hc⟩:=ZL.2.2 h0
  exact⟨b,off,e,Nat.lt_of_lt_of_le hb bw.size,fun j hj=>(bw.cell (p:=⟨b,off+j,none⟩) hb).trans (hc j hj)⟩))
 have TD:=κ (Vk ps ks)
 have BX:=κ ((Bx.new w #[.int .u32 pc, .int .i64 aC, .int .i64 bg, .slice ao os.length cap] 25).upto ((ah.refl (fun _=>False) _).alloc (.cells #[.int .u32 (cx 0), .int .u32 (cx 1), .int .u32 (cx 2), .int .u32 (cx 3), .int .u32 (cx 4), .int .u32 (cx 5), .int .u32 (cx 6), .int .u32 (cx 7), .int .u32 (cx 8), .int .u32 (cx 9), .int .u32 (cx 10), .int .u32 (cx 11)] 37)) id)
 have cy:=Bx.new (w.alloc (.cells #[.int .u32 pc, .int .i64 aC, .int .i64 bg, .slice ao os.length cap] 25)) #[.int .u32 (cx 0), .int .u32 (cx 1), .int .u32 (cx 2), .int .u32 (cx 3), .int .u32 (cx 4), .int .u32 (cx 5), .int .u32 (cx 6), .int .u32 (cx 7), .int .u32 (cx 8), .int .u32 (cx 9), .int .u32 (cx 10), .int .u32 (cx 11)] 37
 rw [show(w.alloc (.cells #[.int .u32 pc, .int .i64 aC, .int .i64 bg, .slice ao os.length cap] 25)).heap.size=w.heap.size+1 by simp] at cy
 have CY:=κ cy
 have HO:=κ (dB gy u0 (fun _ _ _=>id))
 have HG:=κ (show∀g,ao=some g→0<os.length→g.block<w.heap.size from fun g hg h0=>by
  obtain⟨g',off,e,bV,_⟩:=gy.2.2 h0
  rw [hg] at e
  cases e
  exact bV)
 have KN:=κ kW
 have ZY:=κ hp
 have HC0:=κ hC
 have BW:=κ bw
 obtain⟨q,R0,t1,q0,q1,t2,r0,r1⟩:=fourteen r
 obtain⟨R,hR⟩:∃R:Nat,3+R0=(R:Int):=⟨(3+R0).toNat,by omega⟩
 have R3:3≤R∧R≤16:=by omega
 clear gy kW hp hC hps ZL u0 bw cy
 generalize rH (rE ps) ks=M at BO TD
 generalize ps.length=pl at BO⊢
 generalize ks.length=kl at BO⊢
 go_enter Try.func4,Try.ntmps4
 go_upto_region 1 with fail
 generalize V9:(w.alloc (.cells #[.int .u32 pc, .int .i64 aC, .int .i64 bg, .slice ao os.length cap] 25)).alloc (.cells #[.int .u32 (cx 0), .int .u32 (cx 1), .int .u32 (cx 2), .int .u32 (cx 3), .int .u32 (cx 4), .int .u32 (cx 5), .int .u32 (cx 6), .int .u32 (cx 7), .int .u32 (cx 8), .int .u32 (cx 9), .int .u32 (cx 10), .int .u32 (cx 11)] 37)=WA at BO BW BX CY HO⊢
 have hA:w.heap.size+2=WA.heap.size:=by rw [←V9];simp
 clear V9
 go_wp2_with fail
 refine BO.out.mono ?_
 rintro e w1 ⟨p,P,rfl,hP,hb,hGA⟩
 have u1:=ah.aG (S:=fun _=>False) hb
 have BX:=κ (BX.out.upto u1 id)
 have CY:=κ (CY.out.upto u1 id)
 have HO:=κ (dB HO.out u1 (fun _ _ _=>id))
 have Qe:=κ hP.rm
 have MOK:=κ hP.ok
 have GA:=κ (show∀k,P.has k→w.heap.size+2≤k from fun k hk=>Nat.le_trans (Nat.le_of_eq hA) (hGA k (.inr hk)))
 have BW:=κ (BW.out.trans (hb.mono (by omega)))
 have h01:w.heap.size+2≤w1.heap.size:=by have:=hb.size;omega
 clear hP hb hGA u1
 clear BO hA
 obtain⟨⟨er,z⟩,hc⟩:∃p,uh os aC bg=p:=⟨_,rfl⟩
 have CK:=κ (fun w h=>EG os ao cap pc aC bg w h)
 rw [hc] at CK
 unfold SY at CK
 dsimp only at CK
 have b0:=BX.out.2.1 0 _ rfl
 have b1:=BX.out.2.1 1 _ rfl
 have b2:=BX.out.2.1 2 _ rfl
 have b3:=BX.out.2.1 3 _ rfl
 have bl:=BX.out.1
 by_cases he:er=0
 case neg=>
  go_upto_region 9 with(go_at_call 12;refine(CK.out _ HO.out).mono ?_;rintro e w2 ⟨rfl,b2⟩)
  go_wp2
  go_ret
  exact⟨rfl,BW.out.trans (b2.mono (by omega))⟩
 subst he
 go_wp2_with fail
 refine(CK.out _ HO.out).mono ?_
 rintro e w2 ⟨rfl,b2⟩
 have u1:=ah.aG (S:=fun _=>False) b2
 have BX:=κ (BX.out.upto u1 id)
 have CY:=κ (CY.out.upto u1 id)
 have HO:=κ (dB HO.out u1 (fun _ _ _=>id))
 have BW:=κ (BW.out.trans (b2.mono (by omega)))
 have Qe:=κ (Qe.out.upto u1 (fun _ _=>id))
 have h01:w.heap.size+2≤w2.heap.size:=by have:=b2.size;omega
 clear u1 b2
 clear b0 b1 b2 b3 bl
 have b0:=BX.out.2.1 0 _ rfl
 have b1:=BX.out.2.1 1 _ rfl
 have b2:=BX.out.2.1 2 _ rfl
 have b3:=BX.out.2.1 3 _ rfl
 have bl:=BX.out.1
 go_wp2_with fail
 have PW2:=κ (show∀k,P.has k→k<w2.heap.size from fun k hk=>Ev.qN Qe.out hk)
 refine(Jc os ao cap pc aC bg z R w2 HO.out hc R3.1 R3.2 (rP KN.out) ZY.out).mono ?_
 rintro e w3 ⟨cb,cc,rfl,ZT,hcb,b3⟩
 have SL:=κ ZT
 have u1:=ah.aG (S:=fun _=>False) b3
 have BX:=κ (BX.out.upto u1 id)
 have CY:=κ (CY.out.upto u1 id)
 have HO:=κ (dB HO.out u1 (fun _ _ _=>id))
 have BW:=κ (BW.out.trans (b3.mono (by omega)))
 have Qe:=κ (Qe.out.upto u1 (fun _ _=>id))
 have h01:w.heap.size+2≤w3.heap.size:=by have:=b3.size;omega
 clear u1 b3
 clear ZT
 have PLT:=κ (show∀k,P.has k→k<w3.heap.size from fun k hk=>Ev.qN Qe.out hk)
 have ajO:cb<w3.heap.size:=by
  have h0:0<(dF (lN os R pc aC).xs).length:=by
   have:=(sW (qZ (R:=R) (by rw [hc]) R3.1 R3.2 (rP KN.out) ZY.out).ok 0 (qZ (R:=R) (by rw [hc]) R3.1 R3.2 (rP KN.out) ZY.out).l0).2
   omega
  obtain⟨b,off,e,hb,_⟩:=SL.out.2.2 h0
  cases e
  exact hb
 clear b0 b1 b2 b3 bl
 go_wp2_with fail
 refine(PG P M w3 Qe.out).mono ?_
 rintro e w4 ⟨Q,rfl,hQ,b4,hQn⟩
 have QN:=κ hQn
 have Ws:=κ hQ
 have u1:=ah.aG (S:=fun _=>False) b4
 have BX:=κ (BX.out.upto u1 id)
 have CY:=κ (CY.out.upto u1 id)
 have HO:=κ (dB HO.out u1 (fun _ _ _=>id))
 have BW:=κ (BW.out.trans (b4.mono (by omega)))
 have Qe:=κ (Qe.out.upto u1 (fun _ _=>id))
 have h01:w.heap.size+2≤w4.heap.size:=by have:=b4.size;omega
 have SL:=κ (Sl.upto SL.out u1 (fun _ _ _=>id))
 have h34:=b4.size
 clear u1 b4
 clear hQ hQn
 have QL4:=κ (show∀k,Q.has k→k<w4.heap.size from fun k hk=>Ev.qN Ws.out hk)
 have dZ:(uh os aC bg).1=0:=by rw [hc]
 obtain⟨n0,n1,acz⟩:=GK dZ
 have afA:=(sU dZ).2.2.1
 have acA:=(sU dZ).2.2.2.1
 have CS:=κ (qZ (R:=R) dZ R3.1 R3.2 (rP KN.out) ZY.out)
 have LV:=yw os ao cap pc aC bg cx M P w4 HO.out Qe.out MOK.out HC0.out n1 (fun i o ho=>Pn (acz i o ho)) (fun i o ho h4 h9=>opA dZ ho h4 h9) KN.out (fun g hg h0 hh=>by have:=HG.out g hg h0;have:=GA.out _ hh;omega)
 obtain⟨j,G,RV,qB,hG,hj,Vm,hRc,hRM,hRl⟩:=Jq (K:=⟨dF (lN os R pc aC).xs,some ⟨cb,0,none⟩,cc,Q.q,aC, [],none,0⟩) (M:=M) (c:=cx) dZ R3.1 R3.2 (rP KN.out) ZY.out rfl rfl rfl TD.out
 obtain⟨ev,hev⟩:∃ev,qE os os.length ⟨M,cx,fun _=>0⟩=ev:=⟨_,rfl⟩
 rw [hev] at LV Vm hRc hRM hRl
 obtain⟨⟨M5,c5,v5⟩,⟨ek,ex,ep,en⟩,ea⟩:=ev
 obtain⟨rc,rM,rl,ra⟩:=RV
 unfold kY at LV
 dsimp only at LV Vm hRc hRM hRl
 subst Vm hRc hRM hRl
 clear hev
 have b0:=BX.out.2.1 0 _ rfl
 have b1:=BX.out.2.1 1 _ rfl
 have b2:=BX.out.2.1 2 _ rfl
 have b3:=BX.out.2.1 3 _ rfl
 have bl:=BX.out.1
 have c0:=CY.out.2.1 0 _ rfl
 have c1:=CY.out.2.1 1 _ rfl
 have c2:=CY.out.2.1 2 _ rfl
 have c3:=CY.out.2.1 3 _ rfl
 have c4:=CY.out.2.1 4 _ rfl
 have c5:=CY.out.2.1 5 _ rfl
 have c6:=CY.out.2.1 6 _ rfl
 have c7:=CY.out.2.1 7 _ rfl
 have c8:=CY.out.2.1 8 _ rfl
 have c9:=CY.out.2.1 9 _ rfl
 have pW:=CY.out.2.1 10 _ rfl
 have oZ:=CY.out.2.1 11 _ rfl
 have cl:=CY.out.1
 go_wp2_with fail
 refine LV.mono ?_
 rintro e w5 ⟨rfl,m5,u5⟩
 clear LV
 clear b0 b1 b2 b3 bl
 clear c0 c1 c2 c3 c4 c5 c6 c7 c8 c9 pW oZ cl
 have ncb:w3.heap.size≤w4.heap.size:=by omega
 have BX:=κ (BX.out.upto u5 (fun h=>by have:=GA.out _ h;omega))
 have CY:=κ (CY.out.upto u5 (fun h=>by have:=GA.out _ h;omega))
 have HO:=κ (dB HO.out u5 (fun g hg h0 h=>by have:=HG.out g hg h0;have:=GA.out _ h;omega))
 have SL:=κ (Sl.upto SL.out u5 (fun g hg h0 h=>by cases hg;have:=PW2.out _ h;have:=hcb;dsimp only at*;omega))
 have Ws:=κ (Ws.out.upto u5 (fun k hk h=>by have:=PLT.out k h;have:=QN.out k hk;omega))
 have BW:=κ (BW.out.trans (u5.below (B:=w.heap.size) BW.out.size (fun k hk h=>by have:=GA.out k h;omega)))
 have h45:=u5.size
 have h01:w.heap.size+2≤w5.heap.size:=by omega
 clear u5
 go_upto_region 13 with fail
 have un:=((ah.refl (fun _=>False) w5).alloc (.cells #[.int .u32 (rc 0), .int .u32 (rc 1), .int .u32 (rc 2), .int .u32 (rc 3), .int .u32 (rc 4), .int .u32 (rc 5), .int .u32 (rc 6), .int .u32 (rc 7), .int .u32 (rc 8), .int .u32 (rc 9), .int .u32 (rc 10), .int .u32 (rc 11)] 37)).alloc (.cells #[.int .i64 ek, .int .u32 ex, .int .u32 ep, .int .i64 en] 48)
 have DA:=κ ((Bx.new w5 #[.int .u32 (rc 0), .int .u32 (rc 1), .int .u32 (rc 2), .int .u32 (rc 3), .int .u32 (rc 4), .int .u32 (rc 5), .int .u32 (rc 6), .int .u32 (rc 7), .int .u32 (rc 8), .int .u32 (rc 9), .int .u32 (rc 10), .int .u32 (rc 11)] 37).upto ((ah.refl (fun _=>False) _).alloc (.cells #[.int .i64 ek, .int .u32 ex, .int .u32 ep, .int .i64 en] 48)) id)
 have xa:=Bx.new (w5.alloc (.cells #[.int .u32 (rc 0), .int .u32 (rc 1), .int .u32 (rc 2), .int .u32 (rc 3), .int .u32 (rc 4), .int .u32 (rc 5), .int .u32 (rc 6), .int .u32 (rc 7), .int .u32 (rc 8), .int .u32 (rc 9), .int .u32 (rc 10), .int .u32 (rc 11)] 37)) #[.int .i64 ek, .int .u32 ex, .int .u32 ep, .int .i64 en] 48
 rw [show(w5.alloc (.cells #[.int .u32 (rc 0), .int .u32 (rc 1), .int .u32 (rc 2), .int .u32 (rc 3), .int .u32 (rc 4), .int .u32 (rc 5), .int .u32 (rc 6), .int .u32 (rc 7), .int .u32 (rc 8), .int .u32 (rc 9), .int .u32 (rc 10), .int .u32 (rc 11)] 37)).heap.size=w5.heap.size+1 by simp] at xa
 have XA:=κ xa
 have h02:w5.heap.size+2=((w5.alloc (.cells #[.int .u32 (rc 0), .int .u32 (rc 1), .int .u32 (rc 2), .int .u32 (rc 3), .int .u32 (rc 4), .int .u32 (rc 5), .int .u32 (rc 6), .int .u32 (rc 7), .int .u32 (rc 8), .int .u32 (rc 9), .int .u32 (rc 10), .int .u32 (rc 11)] 37)).alloc (.cells #[.int .i64 ek, .int .u32 ex, .int .u32 ep, .int .i64 en] 48)).heap.size:=by simp
 have BX:=κ (BX.out.upto un id)
 have CY:=κ (CY.out.upto un id)
 have HO:=κ (dB HO.out un (fun _ _ _=>id))
 have SL:=κ (Sl.upto SL.out un (fun _ _ _=>id))
 have Ws:=κ (Ws.out.upto un (fun _ _=>id))
 have Wu:=κ (RM.upto m5 un (fun _ _=>id))
 have BW:=κ (BW.out.trans ((un.below (Nat.le_refl _) (fun _ _=>id)).mono (by omega)))
 generalize(w5.alloc (.cells #[.int .u32 (rc 0), .int .u32 (rc 1), .int .u32 (rc 2), .int .u32 (rc 3), .int .u32 (rc 4), .int .u32 (rc 5), .int .u32 (rc 6), .int .u32 (rc 7), .int .u32 (rc 8), .int .u32 (rc 9), .int .u32 (rc 10), .int .u32 (rc 11)] 37)).alloc (.cells #[.int .i64 ek, .int .u32 ex, .int .u32 ep, .int .i64 en] 48)=w6 at DA XA BX CY HO SL Ws Wu BW h02⊢
 clear un xa m5
 generalize hb5:w5.heap.size=b5 at DA XA h02 h01 h45⊢
 clear hb5
 have CR:=Pj ⟨dF (lN os R pc aC).xs,some ⟨cb,0,none⟩,cc,Q.q,aC, [],none,0⟩ Q 0 cx M G _ w6 SL.out ⟨Nat.le_refl _,by unfold maxLen;show(0:Nat)≤_;omega,fun h=>absurd h (by simp)⟩ Ws.out rfl CS.out.bd (by have:=CS.out.len;show(dF _).length≤_;omega) (by show(0:Nat)≤_;omega) HC0.out MOK.out (fun g hg h0 h=>by cases hg;have h':Q.has cb:=h;have:=QN.out cb h';omega) (fun g hg h0=>nomatch hg) (by have:=CS.out.len;omega) qB
 have QLT:=κ (show∀k,Q.has k→k<b5 from fun k hk=>by have:=QL4.out k hk;omega)
 have CR:=κ CR
 obtain⟨lk,Vo⟩:∃lk,(if(opAt os j).k=16 then(2:Int) else if ek=0 then 1 else 3)=lk:=⟨_,rfl⟩
 unfold ZW kY at CR
 dsimp only at CR
 rw [Vo] at CR
 clear qB hG
 have b0:=BX.out.2.1 0 _ rfl
 have b1:=BX.out.2.1 1 _ rfl
 have b2:=BX.out.2.1 2 _ rfl
 have b3:=BX.out.2.1 3 _ rfl
 have bl:=BX.out.1
 have c0:=CY.out.2.1 0 _ rfl
 have c1:=CY.out.2.1 1 _ rfl
 have c2:=CY.out.2.1 2 _ rfl
 have c3:=CY.out.2.1 3 _ rfl
 have c4:=CY.out.2.1 4 _ rfl
 have c5:=CY.out.2.1 5 _ rfl
 have c6:=CY.out.2.1 6 _ rfl
 have c7:=CY.out.2.1 7 _ rfl
 have c8:=CY.out.2.1 8 _ rfl
 have c9:=CY.out.2.1 9 _ rfl
 have pW:=CY.out.2.1 10 _ rfl
 have oZ:=CY.out.2.1 11 _ rfl
 have cl:=CY.out.1
 go_wp2_with fail
 refine CR.out.mono ?_
 rintro e w7 ⟨rfl,m7,u7⟩
 clear b0 b1 b2 b3 bl
 clear c0 c1 c2 c3 c4 c5 c6 c7 c8 c9 pW oZ cl
 have QX:=κ (show∀k,Q.has k→w3.heap.size≤k∧k<b5 from fun k hk=>⟨QN.out k hk,QLT.out k hk⟩)
 have BX:=κ (BX.out.upto u7 (fun h=>by have:=QX.out _ h;omega))
 have DA:=κ (DA.out.upto u7 (fun h=>by have:=QX.out _ h;omega))
 have XA:=κ (XA.out.upto u7 (fun h=>by have:=QX.out _ h;omega))
 have HO:=κ (dB HO.out u7 (fun g hg h0 h=>by have:=HG.out g hg h0;have:=QX.out _ h;omega))
 have Wu:=κ (Wu.out.upto u7 (fun k hk h=>by have:=PLT.out k hk;have:=QX.out k h;omega))
 have BW:=κ (BW.out.trans (u7.below (B:=w.heap.size) BW.out.size (fun k hk h=>by have:=QX.out k h;omega)))
 have h67:=u7.size
 clear u7 CR SL CY Ws
 go_upto_region 14 with fail
 have un:=((ah.refl (fun _=>False) w7).alloc (.cells #[.int .u32 (rc 0), .int .u32 (rc 1), .int .u32 (rc 2), .int .u32 (rc 3), .int .u32 (rc 4), .int .u32 (rc 5), .int .u32 (rc 6), .int .u32 (rc 7), .int .u32 (rc 8), .int .u32 (rc 9), .int .u32 (rc 10), .int .u32 (rc 11)] 37)).alloc (.cells #[.int .i64 lk, .int .i64 ek, .int .u32 ex, .int .u32 ep, .int .i64 en, .int .i64 ra] 52)
 have DB:=κ ((Bx.new w7 #[.int .u32 (rc 0), .int .u32 (rc 1), .int .u32 (rc 2), .int .u32 (rc 3), .int .u32 (rc 4), .int .u32 (rc 5), .int .u32 (rc 6), .int .u32 (rc 7), .int .u32 (rc 8), .int .u32 (rc 9), .int .u32 (rc 10), .int .u32 (rc 11)] 37).upto ((ah.refl (fun _=>False) _).alloc (.cells #[.int .i64 lk, .int .i64 ek, .int .u32 ex, .int .u32 ep, .int .i64 en, .int .i64 ra] 52)) id)
 have xa:=Bx.new (w7.alloc (.cells #[.int .u32 (rc 0), .int .u32 (rc 1), .int .u32 (rc 2), .int .u32 (rc 3), .int .u32 (rc 4), .int .u32 (rc 5), .int .u32 (rc 6), .int .u32 (rc 7), .int .u32 (rc 8), .int .u32 (rc 9), .int .u32 (rc 10), .int .u32 (rc 11)] 37)) #[.int .i64 lk, .int .i64 ek, .int .u32 ex, .int .u32 ep, .int .i64 en, .int .i64 ra] 52
 rw [show(w7.alloc (.cells #[.int .u32 (rc 0), .int .u32 (rc 1), .int .u32 (rc 2), .int .u32 (rc 3), .int .u32 (rc 4), .int .u32 (rc 5), .int .u32 (rc 6), .int .u32 (rc 7), .int .u32 (rc 8), .int .u32 (rc 9), .int .u32 (rc 10), .int .u32 (rc 11)] 37)).heap.size=w7.heap.size+1 by simp] at xa
 have XB:=κ xa
 have BX:=κ (BX.out.upto un id)
 have DA:=κ (DA.out.upto un id)
 have XA:=κ (XA.out.upto un id)
 have HO:=κ (dB HO.out un (fun _ _ _=>id))
 have Wu:=κ (Wu.out.upto un (fun _ _=>id))
 have RM7:=κ (RM.upto m7 un (fun _ _=>id))
 have BW:=κ (BW.out.trans ((un.below (Nat.le_refl _) (fun _ _=>id)).mono (by omega)))
 generalize(w7.alloc (.cells #[.int .u32 (rc 0), .int .u32 (rc 1), .int .u32 (rc 2), .int .u32 (rc 3), .int .u32 (rc 4), .int .u32 (rc 5), .int .u32 (rc 6), .int .u32 (rc 7), .int .u32 (rc 8), .int .u32 (rc 9), .int .u32 (rc 10), .int .u32 (rc 11)] 37)).alloc (.cells #[.int .i64 lk, .int .i64 ek, .int .u32 ex, .int .u32 ep, .int .i64 en, .int .i64 ra] 52)=w8 at DB XB DA XA BX HO Wu RM7 BW⊢
 clear un xa m7
 generalize w7.heap.size=b7 at DB XB⊢
 obtain⟨g,off,hao,hg8,PY⟩:=HO.out.2.2 n0
 have ok:os[j]?=some (opAt os j):=by
  unfold opAt
  rw [List.getD_eq_getElem?_getD,List.getElem?_eq_getElem hj];rfl
 have ck:w8.cell? ⟨g,off+j*7,none⟩=some (.int .i64 (opAt os j).k):=PY j _ ok 0 _ rfl
 have VK:(j:Int) <(os.length:Int):=by omega
 have j0:(0:Int)≤(j:Int):=by omega
 have jm:(j:Int)≤2048:=by omega
 subst hao
 generalize(opAt os j).k=ok' at ck Vo
 clear PY ok
 have b0:=BX.out.2.1 0 _ rfl
 have b1:=BX.out.2.1 1 _ rfl
 have b2:=BX.out.2.1 2 _ rfl
 have b3:=BX.out.2.1 3 _ rfl
 have bl:=BX.out.1
 have c0:=DA.out.2.1 0 _ rfl
 have c1:=DA.out.2.1 1 _ rfl
 have c2:=DA.out.2.1 2 _ rfl
 have c3:=DA.out.2.1 3 _ rfl
 have c4:=DA.out.2.1 4 _ rfl
 have c5:=DA.out.2.1 5 _ rfl
 have c6:=DA.out.2.1 6 _ rfl
 have c7:=DA.out.2.1 7 _ rfl
 have c8:=DA.out.2.1 8 _ rfl
 have c9:=DA.out.2.1 9 _ rfl
 have pW:=DA.out.2.1 10 _ rfl
 have oZ:=DA.out.2.1 11 _ rfl
 have cl:=DA.out.1
 have d0:=DB.out.2.1 0 _ rfl
 have d1:=DB.out.2.1 1 _ rfl
 have d2:=DB.out.2.1 2 _ rfl
 have d3:=DB.out.2.1 3 _ rfl
 have d4:=DB.out.2.1 4 _ rfl
 have d5:=DB.out.2.1 5 _ rfl
 have d6:=DB.out.2.1 6 _ rfl
 have d7:=DB.out.2.1 7 _ rfl
 have d8:=DB.out.2.1 8 _ rfl
 have d9:=DB.out.2.1 9 _ rfl
 have d10:=DB.out.2.1 10 _ rfl
 have d11:=DB.out.2.1 11 _ rfl
 have dl:=DB.out.1
 have x0:=XA.out.2.1 0 _ rfl
 have x1:=XA.out.2.1 1 _ rfl
 have x2:=XA.out.2.1 2 _ rfl
 have x3:=XA.out.2.1 3 _ rfl
 have xl:=XA.out.1
 have y0:=XB.out.2.1 0 _ rfl
 have y1:=XB.out.2.1 1 _ rfl
 have y2:=XB.out.2.1 2 _ rfl
 have y3:=XB.out.2.1 3 _ rfl
 have y4:=XB.out.2.1 4 _ rfl
 have y5:=XB.out.2.1 5 _ rfl
 have yl:=XB.out.1
 have e1:=Ir.E5 (rc 0) (rc 1) (rc 2) (rc 3) (rc 4) (rc 5) (rc 6) (rc 7) (rc 8) (rc 9) (rc 10) (rc 11)
 have e2:=KT ek ex ek ex
 rw [show eqs ek ex ek ex=true by unfold eqs;simp] at e2
 have SM:=κ (PN P Q rM w8 Wu.out RM7.out)
 have h08:w.heap.size≤w8.heap.size:=BW.out.size
 clear HO BX DA DB XA XB Wu RM7 CK HG KN ZY HC0 TD MOK GA PLT PW2 QN QL4 QLT QX CS hc dZ acz n1 afA acA hj
 by_cases hk:ok'=16
 ·rw [if_pos hk] at Vo
  subst Vo hk
  by_cases uD:ek=0
  ·subst uD
   go_wp2_with (go_at_call 18;refine SM.out.mono ?_;rintro e w9 ⟨rfl,b9⟩;have B9:=κ (BW.out.trans (b9.mono (by omega)));clear b9)
   all_goals go_ret
   all_goals exact⟨rfl,B9.out⟩
  ·skip
   go_wp2_with (go_at_call 18;refine SM.out.mono ?_;rintro e w9 ⟨rfl,b9⟩;have B9:=κ (BW.out.trans (b9.mono (by omega)));clear b9)
   all_goals go_ret
   all_goals exact⟨rfl,B9.out⟩
 ·rw [if_neg hk] at Vo
  by_cases uD:ek=0
  ·rw [if_pos uD] at Vo
   subst Vo uD
   go_wp2_with (go_at_call 18;refine SM.out.mono ?_;rintro e w9 ⟨rfl,b9⟩;have B9:=κ (BW.out.trans (b9.mono (by omega)));clear b9)
   all_goals go_ret
   all_goals exact⟨rfl,B9.out⟩
  ·rw [if_neg uD] at Vo
   subst Vo
   go_wp2_with (go_at_call 18;refine SM.out.mono ?_;rintro e w9 ⟨rfl,b9⟩;have B9:=κ (BW.out.trans (b9.mono (by omega)));clear b9)
   all_goals go_ret
   all_goals exact⟨rfl,B9.out⟩
end Go.Proofs.Ytcjcmnnhmajocab.Gn
