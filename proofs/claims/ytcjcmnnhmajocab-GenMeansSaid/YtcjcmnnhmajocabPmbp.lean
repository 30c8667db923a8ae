import Derived.Test.YtcjcmnnhmajocabPmbn
set_option linter.unusedVariables false
set_option linter.unusedSimpArgs false
set_option maxRecDepth 100000
set_option maxHeartbeats 16000000
namespace Go.Proofs.Ytcjcmnnhmajocab.Hr
open Go.RowKit Kt Me Fl Ev Ho
variable {h:Nat} {K:Hk} {s:Rm} {B:B4} {P:RP} {M:MM}
theorem Pe (x:Cd) (ra:Nat) (w:World) (a:RR h K s B w) (m:RM P M w) (hK:K.p=P.q) (hp:∀i,P.has i→i<w.heap.size) (ds:∀i,P.has i→¬B.has h i) (ho:x.op=4) (ha:x.a=ra) (la:ra<16) (hs:Sl K.us K.ao K.cap w) (hw:vY K.us) (qH:∀g,K.ao=some g→0<K.us.length→¬ (B.has h g.block∨P.has g.block)) (ht:Tb K.gJ K.uM K.pF w) (pG:∀g,K.uM=some g→0<K.gJ.length→¬ (B.has h g.block∨P.has g.block)) (vW:K.gJ.length≤1048576) (oz:0≤s.reg ra∧s.reg ra<4294967296) (hz:¬K.gJ.length=0) (t:Int×Int) (CX:K.gJ[(s.reg ra%(K.gJ.length:Int)).toNat]?=some t) (dZ:t.1=s.reg ra) (wR:¬0≤t.2):
  Calls Try.prog 67 #[.pointer (some ⟨h,0,none⟩), .agg #[.int .i64 x.op, .int .i64 x.d, .int .i64 x.a, .int .i64 x.b, .int .i64 x.c, .int .i64 x.n, .int .u32 x.k, .int .u32 x.x]] w fun e w'=>e= .returned (yt (wU K s ra x.n))∧RR h K (wu K s ra x.n) B w'∧RM P M w'∧ah (fun i=>B.has h i∨P.has i) w w':=by
 have CV:=κ (fun W (u:ah (fun i=>B.has h i∨P.has i) w W)=>Sl.upto hs u qH)
 have y7:=κ (fun W (u:ah (fun i=>B.has h i∨P.has i) w W)=>Tb.upto ht u pG)
 have GA:Hid (∀w,RR h K s B w→Calls Try.prog 110 #[.pointer (some ⟨h,0,none⟩), .int .i64 ra] w fun e w'=>e= .returned (.int .u32 (s.reg ra))∧RR h K (s.aA ra) B w'∧ah (fun i=>i=h) w w'):=fun w a=>bJ ra w a la
 have D1:=κ (show(s.aA ra).done=s.done from rfl)
 obtain⟨s1,pV⟩:∃s1,s.aA ra=s1:=⟨_,rfl⟩
 rw [pV] at GA D1
 have JM:=κ pV
 have HZ:=κ hz
 have EM:=κ CX
 have wX:=κ dZ
 have zD:=κ wR
 obtain⟨va,y8⟩:∃v,s.reg ra=v:=⟨_,rfl⟩
 rw [y8] at GA oz wX
 have CW:=κ y8
 obtain⟨tl,ng⟩:∃tl,K.gJ.length=tl:=⟨_,rfl⟩
 have TL:=κ ng
 rw [ng] at vW
 have HA:=κ ha
 have e1:(x.op==1)=false:=by simp;omega
 have lK:(x.op==10)=false:=by simp;omega
 have qO:(x.op==11)=false:=by simp;omega
 have qP:(x.op==14)=false:=by simp;omega
 have jS:(x.op==12)=false:=by simp;omega
 have lu:(x.op==13)=false:=by simp;omega
 have e4:(x.op==4)=true:=by simp;omega
 have qQ:(x.op==15)=false:=by simp;omega
 have ny:(x.op==96)=false:=by simp;omega
 obtain⟨nn,iy⟩:∃n,(wrap64 (s.done+x.n))=n:=⟨_,rfl⟩
 try rw [iy]
 have NN:=κ iy
 have mZ:wrap64 (s.done+x.n)=nn:=iy
 have kw:=((RW.new w x 108 a m a.lt hp ds).al (.cells #[.int .i64 0, .int .i64 0, .int .u32 0, .int .u32 0, .int .i64 0, .int .i64 0] 52)).al (.cells #[.int .i64 0, .int .i64 0, .int .u32 0, .int .u32 x.k, .int .i64 nn, .int .i64 0] 52)
 obtain⟨lr,lo⟩:=dM w x x.k nn
 have hh:h<w.heap.size:=a.x.l
 have rD:=κ hK
 have l2:=(fA w x).2.1.l
 have kd:=a.x.done
 have ke:=(((RW.new w x 108 a m a.lt hp ds).al (.cells #[.int .i64 0, .int .i64 0, .int .u32 0, .int .u32 0, .int .i64 0, .int .i64 0] 52)).al (.cells #[.int .i64 0, .int .i64 0, .int .u32 0, .int .u32 0, .int .i64 0, .int .i64 0] 52)).a.x.done
 clear iy a m hK ho hs qH ht pG ha pV y8 ng hw hz CX dZ wR
 go_enter Try.func67,Try.ntmps67
 go_upto_region 1 with fail
 go_region
 clear kd ke l2 mZ
 have kw:=kw.drew
 have lr:=lr.drew
 have lo:=lo.drew
 generalize(((w.alloc (.cells #[.int .i64 x.op, .int .i64 x.d, .int .i64 x.a, .int .i64 x.b, .int .i64 x.c, .int .i64 x.n, .int .u32 x.k, .int .u32 x.x] 108)).alloc (.cells #[.int .i64 0, .int .i64 0, .int .u32 0, .int .u32 0, .int .i64 0, .int .i64 0] 52)).alloc (.cells #[.int .i64 0, .int .i64 0, .int .u32 0, .int .u32 x.k, .int .i64 nn, .int .i64 0] 52)).drew=WA at kw lr lo⊢
 have x0:=kw.x.c0
 have lx:=kw.x.l
 have KW:=κ kw
 have LR:=κ lr
 have LO:=κ lo
 clear kw lr lo
 have x2:=KW.out.x.c2
 rw [HA.out] at x2
 go_upto_region 33 with fail
 have q3:=LO.out.c3
 have GH:=LO.out.z 3
 have lq:=LO.out.l
 go_upto_region 34 with(go_at_call 110;(with_reducible refine(GA.out _ KW.out.a).mono ?_);rintro e w2 ⟨rfl,a2,u2⟩;have LR:=κ (LR.out.upto u2 (by omega));have LO:=κ (LO.out.upto u2 (by omega));have KW:=κ (KW.out.lF a2 u2);have q3:=LO.out.c3;have GH:=LO.out.z 3;have lq:=LO.out.l;clear a2 u2)
 clear q3 GH lq x2 x0 lx
 have kw:=KW.out.mv ((ah.refl (fun i=>w.heap.size<i) w2).setCell (q:=⟨w.heap.size+1+1,3,none⟩) (.inl (by show w.heap.size<w.heap.size+1+1;omega)) (.int .u32 va))
 have lr:=LR.out.upto ((ah.refl (fun i=>i=w.heap.size+1+1) w2).setCell (q:=⟨w.heap.size+1+1,3,none⟩) (.inl rfl) (.int .u32 va)) (by omega)
 have lo:=LO.out.xH va
 generalize(w2.setCell ⟨w.heap.size+1+1,3,none⟩ (.int .u32 va))=w4 at kw lr lo⊢
 have KW:=κ kw
 have LR:=κ lr
 have LO:=κ lo
 clear kw lr lo
 have tb:=KW.out.a.x.tb
 rw [TL.out] at tb
 have lh:=KW.out.a.x.l
 have O7:(0:Int) <(tl:Int):=by have:=HZ.out;rw [TL.out] at this;omega
 obtain⟨b,off,wC,Y1,hcs⟩:=(y7.out _ KW.out.u).2.2 (by rw [TL.out];omega)
 have j0:=Int.emod_nonneg va (show(tl:Int)≠0 by omega)
 have j1:=Int.emod_lt_of_pos va O7
 obtain⟨j,hj⟩:=Int.eq_ofNat_of_zero_le j0
 have ht:K.gJ[j]?=some t:=by have e:=EM.out;rw [TL.out,CW.out,hj] at e;exact e
 obtain⟨t0,t1⟩:=hcs j t ht
 have O8:=(y7.out _ KW.out.u).1
 rw [TL.out] at O8
 rw [wC] at tb
 have em:va.tmod (tl:Int)=(j:Int):=by rw [Int.tmod_eq_emod_of_nonneg oz.1];exact hj
 have EO:(j:Int) <(tl:Int):=by rw [←hj];exact j1
 have q3:=LO.out.c3
 have lq:=LO.out.l
 obtain⟨Y2,Y3⟩:=oz
 have Y4:IntKind.i64.wrap va=va:=IntWalk.i64_in _ (by omega)
 clear ht hcs
 go_upto_region 35 with fail
 go_region
 clear tb lh Y1 q3 lq t0 t1 em EO Y4 O8
 have kw:=(KW.out.al (.cells #[.int .u32 t.1, .int .i64 t.2] 93)).drew
 have lr:=(LR.out.upto ((ah.refl (fun _=>False) w4).alloc (.cells #[.int .u32 t.1, .int .i64 t.2] 93)) id).drew
 have lo:=(LO.out.upto ((ah.refl (fun _=>False) w4).alloc (.cells #[.int .u32 t.1, .int .i64 t.2] 93)) id).drew
 have eb:=EB.new w4 t.1 t.2 93
 have Y5:(w.heap.size+1+1) <w4.heap.size:=LO.out.l
 generalize(w4.alloc (.cells #[.int .u32 t.1, .int .i64 t.2] 93)).drew=w5 at kw lr lo eb⊢
 generalize Jz:w4.heap.size=ge at eb Y5⊢
 have KW:=κ kw
 have LR:=κ lr
 have LO:=κ lo
 have wF:=κ eb
 clear kw lr lo eb Jz
 generalize off+j*2=oj
 generalize((j:Nat):Int)=jj
 generalize decide (0<tl)=db
 generalize((tl:Nat):Int)=ti
 have Y6:=κ (show zB K s ra=if t.1=va∧0≤t.2∧zk K.us t.2=true then some t.2 else none from by unfold zB;rw [if_neg HZ.out,EM.out];simp only [CW.out])
 clear hj wC y7 j0 j1 Y2 Y3 O7 EM HZ
 have g0:=wF.out.c0
 have g1:=wF.out.c1
 have lg:=wF.out.l
 have q3:=LO.out.c3
 have lq:=LO.out.l
 have lh:=KW.out.a.x.l
 have b1:(t.1==va)=true:=by simp [wX.out]
 have b2:decide (0≤t.2)=false:=by simp [zD.out]
 have EV:=κ (show wU K s ra x.n=some ⟨2,0,0,va,nn⟩∧wu K s ra x.n=s1 from by
  have e:zB K s ra=none:=by rw [Y6.out,if_neg (fun e=>by have h1:=zD.out;have h2:=e.2.1;omega)]
  unfold wU wu;rw [e,CW.out,NN.out,JM.out];exact⟨rfl,rfl⟩)
 go_upto_region 40 with fail
 clear g0 g1 lg q3 lq lh b1
 have q0:=LO.out.c0
 have uN:=LO.out.z 0
 have lq:=LO.out.l
 go_upto_region 41 with fail
 clear q0 uN lq
 have kw:=KW.out.mv ((ah.refl (fun i=>w.heap.size<i) w5).setCell (q:=⟨w.heap.size+1+1,0,none⟩) (.inl (by show w.heap.size<w.heap.size+1+1;omega)) (.int .i64 2))
 have lr:=LR.out.upto ((ah.refl (fun i=>i=w.heap.size+1+1) w5).setCell (q:=⟨w.heap.size+1+1,0,none⟩) (.inl rfl) (.int .i64 2)) (by omega)
 have lo:=LO.out.pX (2)
 generalize(w5.setCell ⟨w.heap.size+1+1,0,none⟩ (.int .i64 2))=w8 at kw lr lo⊢
 have KW:=κ kw
 have LR:=κ lr
 have LO:=κ lo
 clear kw lr lo
 obtain⟨y0,y1,y2,y3,y4,y5⟩:=LR.out.all
 have zy:=LR.out.z
 have ly:=LR.out.l
 obtain⟨q0,q1,q2,q3,q4,q5⟩:=LO.out.all
 have lq:=LO.out.l
 go_wp2_with fail
 clear y0 y1 y2 y3 y4 y5 zy ly q0 q1 q2 q3 q4 q5 lq
 have kw:=KW.out.jJ (2) (0) (0) (va) (nn) (0)
 have lr:=LR.out.put (2) (0) (0) (va) (nn) (0)
 rw [dX]
 generalize p6 _ _ _ _ _ _ _ _=W9 at kw lr⊢
 obtain⟨g0,g1,g2,g3,g4,g5⟩:=lr.all
 exact bodyPost_ret (v:= .agg #[.int .i64 (2), .int .i64 (0), .int .u32 (0), .int .u32 (va), .int .i64 (nn), .int .i64 (0)]) (by simp [results,Try.results67,go_sem,g0,g1,g2,g3,g4,g5]) rfl ⟨by rw [EV.out.1];rfl,by rw [EV.out.2];exact kw.a,kw.m,kw.u⟩
end Go.Proofs.Ytcjcmnnhmajocab.Hr
