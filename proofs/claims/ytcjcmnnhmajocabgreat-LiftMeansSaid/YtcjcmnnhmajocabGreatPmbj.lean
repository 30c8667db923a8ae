import Derived.Test.YtcjcmnnhmajocabGreatPmbi
set_option linter.unusedVariables false
set_option linter.unusedSimpArgs false
set_option maxRecDepth 100000
set_option maxHeartbeats 16000000
namespace Go.Proofs.YtcjcmnnhmajocabGreat.Lf
open Go.RowKit Kt Ic Me Ev Fl Gu
open St (Out stepO stay qI)
open Ot (run qj nK)
variable {I:kJ} {s:Lk} {M:MM} {c v:Nat→Int}
def aG (O:Out):Nat→Out
 | 0=>O
 | n+1=>stepO (aG O n).M (aG O n).R (aG O n).pc (aG O n).f
structure Bz (aj:Int) (O:Out) (e:kJ) (x:Ext):Prop where
 n:0≤x.n∧x.n≤aj
 g:∀k:Nat,(k:Int) <x.n→((aG O (k+1)).k=0∧((k:Int)+1<x.n→dG (aG O (k+1)).M.hi=false))∨((aG O (k+1)).k=1∧(k:Int)+1=x.n∧x.k=1∧x.x=(aG O (k+1)).x)
 r:lo e.c=(aG O x.n.toNat).R
 f:bT e.c=(aG O x.n.toNat).f
 p:(aG O x.n.toNat).pc=x.pc
 m:e.M=(aG O x.n.toNat).M
 k:(x.k=1∧x.n=aj)∨(x.k=0∧0<x.n∧(x.n=aj∨dG (aG O x.n.toNat).M.hi=true))∨(2≤x.k∧(aG O (x.n.toNat+1)).k=x.k∧(aG O (x.n.toNat+1)).x=x.x)
structure Sd (I:kJ) (M:MM) (O:Out) (s:Lk) (c v:Nat→Int):Prop where
 sm:Sm I s (aG O s.aj.toNat).M c v
 r:lo c=(aG O s.aj.toNat).R
 f:bT c=(aG O s.aj.toNat).f
 p:(aG O s.aj.toNat).pc=s.pc
 t:dG (aG O s.aj.toNat).M.hi=false
 m:Kp M (aG O s.aj.toNat).M
 o:bQ (aG O s.aj.toNat).M
 R:qI (aG O s.aj.toNat).R
 cc:0≤s.aj
 g:∀k:Nat,(k:Int) <s.aj→(aG O (k+1)).k=0∧dG (aG O (k+1)).M.hi=false
theorem F7 (M:MM):∀n s,(∃l,(blk M n s).ops=s.ops++l)∧s.aj≤(blk M n s).aj∧s.aN≤(blk M n s).aN
 | 0,s=>⟨⟨_,rfl⟩,Int.le_refl _,Int.le_refl _⟩
 | n+1,s=>by
  unfold blk
  split
  ·split
   ·exact⟨⟨_,rfl⟩,Int.le_refl _,Int.le_refl _⟩
   ·exact⟨⟨_,rfl⟩,Int.le_refl _,Int.le_refl _⟩
  ·have x:=tV M s
   have n6:=Tq M s.pc
   have hc:=x.aj
   have hy:=x.aN
   obtain⟨l,hl⟩:=x.o
   split
   ·exact⟨⟨l,hl⟩,by omega,by omega⟩
   ·obtain⟨⟨m,hm⟩,h2,h3⟩:=F7 M n (s.xg M)
    exact⟨⟨l++m,by rw [hm,hl,List.append_assoc]⟩,by omega,by omega⟩
theorem TG {a b:List aV} {e:kJ} {x:Ext} (h:run a I a.length=(e,some x)) (p:∃l,b=a++l):run b I b.length=(e,some x):=by
 obtain⟨l,hl⟩:=p
 have h2:run b I a.length=(e,some x):=by rw [hl,qj a l _ (Nat.le_refl _)];exact h
 have h3:=nK h2 l.length
 rw [show a.length+l.length=b.length by rw [hl,List.length_append]] at h3
 exact h3
theorem Sd.izs {O:Out} {q:Int} (h:Sd I M O s c v) (hq:s.pc=au (q+s.aN)) (hy:0≤s.aN) (hk:(ik M s.pc).1=0) (F8:∀z:Int,0≤z→z<s.aN+iz M s.pc 5→au (q+z) <65536→M.wd ((au (q+z)).toNat/256)=true):
  (ik (aG O s.aj.toNat).M s.pc).1=0∧∀i,Lf.iz (aG O s.aj.toNat).M s.pc i=Lf.iz M s.pc i:=by
 have hp:0≤s.pc∧s.pc<4294967296:=by rw [hq];exact aP _
 refine Tz h.m.r hk fun j hj=> ?_
 have h1:=abH hp hk j hj
 have e:au (q+(s.aN+j))=s.pc+j:=by
  rw [←Int.add_assoc,←vg,←hq]
  unfold au;omega
 have e2:(s.pc+j).toNat=s.pc.toNat+j:=by omega
 have hw:=F8 (s.aN+j) (by omega) (by omega) (by rw [e];exact h1)
 rw [e,e2] at hw
 exact h.m.b _ hw (TA h.t _ (by omega))
theorem Sd.step {O:Out} {q:Int} (hM:bQ M) (h:Sd I M O s c v) (hq:s.pc=au (q+s.aN)) (hy:0≤s.aN) (hk:(ik M s.pc).1=0) (F8:∀z:Int,0≤z→z<s.aN+iz M s.pc 5→au (q+z) <65536→M.wd ((au (q+z)).toNat/256)=true):
  (en (Lf.iz M s.pc 0)=false∧∃c' v',Sd I M O (s.xg M) c' v')∨
  (∃e x,run (s.xg M).ops I (s.xg M).ops.length=(e,some x)∧∀aj,s.aj+1≤aj→(en (Lf.iz M s.pc 0)=true→aj=s.aj+1)→Bz aj O e x):=by
 have hp:0≤s.pc∧s.pc<4294967296:=by rw [hq];exact aP _
 obtain⟨k1,k2⟩:=h.izs hq hy hk F8
 have R:=zG M hM s.pc
 have hfb:=wF c
 have hQ:aG O (s.aj.toNat+1)=stay (lo c) s.pc (bT c) (St.gK (aG O s.aj.toNat).M (lo c) s.pc (bT c) (au (s.pc+Lf.iz M s.pc 5)) (Lf.iz M s.pc 0) (Lf.iz M s.pc 1).toNat (Lf.iz M s.pc 2).toNat (Lf.iz M s.pc 3) (Lf.iz M s.pc 4)):=by
  show stepO (aG O s.aj.toNat).M (aG O s.aj.toNat).R (aG O s.aj.toNat).pc (aG O s.aj.toNat).f=_
  rw [h.p,←h.r,←h.f,Oa k1,k2,k2,k2,k2,k2,k2,show bT c%16=bT c by omega]
 have ok:=St.Bv (aG O s.aj.toNat).M (aG O s.aj.toNat).R (aG O s.aj.toNat).pc (aG O s.aj.toNat).f h.o h.R (by rw [h.p];exact hp)
 have ok:St.Jq (aG O (s.aj.toNat+1)):=ok
 have hb:Sm I (s.Jr M) (aG O s.aj.toNat).M c v:=⟨⟨h.sm.r,h.sm.g⟩,h.sm.k⟩
 have o1:=WH hb h.o h.t R.o (d:=(Lf.iz M s.pc 1).toNat) (r:=(Lf.iz M s.pc 2).toNat) (by have:=R.d;omega) (by have:=R.s;omega) R.f R.m
 change Oc I (s.Jr M) (s.ins M) (aG O s.aj.toNat).M c (Lf.iz M s.pc 0) (St.gK (aG O s.aj.toNat).M (lo c) s.pc (bT c) (au (s.pc+Lf.iz M s.pc 5)) (Lf.iz M s.pc 0) (Lf.iz M s.pc 1).toNat (Lf.iz M s.pc 2).toNat (Lf.iz M s.pc 3) (Lf.iz M s.pc 4)) at o1
 have kp:=XM (aG O s.aj.toNat).M (lo c) s.pc (bT c) (au (s.pc+Lf.iz M s.pc 5)) (Lf.iz M s.pc 0) (Lf.iz M s.pc 1).toNat (Lf.iz M s.pc 2).toNat (Lf.iz M s.pc 3) (Lf.iz M s.pc 4)
 generalize St.gK (aG O s.aj.toNat).M (lo c) s.pc (bT c) (au (s.pc+Lf.iz M s.pc 5)) (Lf.iz M s.pc 0) (Lf.iz M s.pc 1).toNat (Lf.iz M s.pc 2).toNat (Lf.iz M s.pc 3) (Lf.iz M s.pc 4)=Z at hQ o1 kp
 have x:=tV M s
 have hc:=h.cc
 have en1:(s.aj+1).toNat=s.aj.toNat+1:=by omega
 rcases o1 with⟨z1,z2,z3,z4,c',v',z5,z6,z7⟩ | ⟨z1,v',z2⟩ | ⟨z1,c',⟨v',z2⟩,z3,z4,z5⟩
 ·have eQ:aG O (s.aj.toNat+1)=Z:=by rw [hQ];unfold stay;rw [if_pos (.inl z1)]
  rw [eQ] at ok
  refine .inl ⟨z2,c',v', ?_⟩
  have e1:(s.xg M).aj.toNat=s.aj.toNat+1:=by rw [x.aj,en1]
  refine⟨?_, ?_, ?_, ?_, ?_, ?_, ?_, ?_,by rw [x.aj];omega,fun k hk=> ?_⟩
  ·rw [e1,eQ];exact⟨⟨z5.r,z5.g⟩,z5.k⟩
  ·rw [e1,eQ];exact z6
  ·rw [e1,eQ];exact z7
  ·rw [e1,eQ,z3,x.pc];rfl
  ·rw [e1,eQ];exact z4
  ·rw [e1,eQ];exact h.m.trans kp
  ·rw [e1,eQ];exact ok.M
  ·rw [e1,eQ];exact ok.R
  ·rw [x.aj] at hk
   rcases(show(k:Int) <s.aj∨k=s.aj.toNat by omega) with e | e
   ·exact h.g k e
   ·rw [e,eQ];exact⟨z1,z4⟩
 ·have eQ:(aG O (s.aj.toNat+1)).k=Z.k∧(aG O (s.aj.toNat+1)).x=Z.x:=by
   rw [hQ];unfold stay
   rw [if_neg (by omega)];exact⟨rfl,rfl⟩
  have ec:(s.Jr M).aj-1=s.aj:=by show s.aj+1-1=s.aj;omega
  rw [ec] at z2
  refine .inr ⟨_,_,z2,fun aj abJ _=> ?_⟩
  exact⟨⟨hc,by show s.aj≤aj;omega⟩,fun k hk=> .inl ⟨(h.g k hk).1,fun _=>(h.g k hk).2⟩,h.r,h.f,h.p,rfl, .inr (.inr ⟨z1,eQ.1,eQ.2⟩)⟩
 ·have eQ:aG O (s.aj.toNat+1)=Z:=by rw [hQ];unfold stay;rw [if_pos (z1.imp id And.left)]
  have ec:(s.Jr M).aj=s.aj+1:=rfl
  rw [ec] at z2
  refine .inr ⟨_,_,z2,fun aj abJ hen=> ?_⟩
  have eT:aG O (s.aj+1).toNat=Z:=by rw [en1,eQ]
  refine⟨⟨by show 0≤s.aj+1;omega,abJ⟩,fun k hk=> ?_,by show lo c'=(aG O (s.aj+1).toNat).R;rw [eT];exact z3,by show bT c'=(aG O (s.aj+1).toNat).f;rw [eT];exact z4,by show(aG O (s.aj+1).toNat).pc=Z.pc;rw [eT],by show Z.M=(aG O (s.aj+1).toNat).M;rw [eT], ?_⟩
  ·have CG:(k:Int) <s.aj+1:=hk
   rcases(show(k:Int) <s.aj∨k=s.aj.toNat by omega) with e | e
   ·exact .inl ⟨(h.g k e).1,fun _=>(h.g k e).2⟩
   ·rw [e,eQ]
    rcases z1 with z1 | z1
    ·exact .inl ⟨z1,fun h=>by have h':((s.aj.toNat:Nat):Int)+1<s.aj+1:=h;omega⟩
    ·exact .inr ⟨z1.1,by show((s.aj.toNat:Nat):Int)+1=s.aj+1;omega,z1.1,rfl⟩
  ·rcases z1 with z1 | z1
   ·refine .inr (.inl ⟨z1,by show 0<s.aj+1;omega, ?_⟩)
    rcases z5 with z5 | z5
    ·exact .inl (hen z5).symm
    ·exact .inr (by show dG (aG O (s.aj+1).toNat).M.hi=true;rw [eT];exact z5)
   ·exact .inl ⟨z1.1,(hen z1.2).symm⟩
theorem Sd.end_ {O:Out} (h:Sd I M O s c v) (h1:0<s.aj):∃e x,run (s.put ⟨15,0,0,0,0,s.pc,s.aj⟩).ops I (s.put ⟨15,0,0,0,0,s.pc,s.aj⟩).ops.length=(e,some x)∧Bz s.aj O e x:=by
 obtain⟨v',hx⟩:=h.sm.goes s.pc
 exact⟨_,_,hx,⟨h.cc,Int.le_refl _⟩,fun k hk=> .inl ⟨(h.g k hk).1,fun _=>(h.g k hk).2⟩,h.r,h.f,h.p,rfl, .inr (.inl ⟨rfl,h1, .inl rfl⟩)⟩
theorem xY (hM:bQ M) {O:Out} (hO:O.M=M) {q:Int}:∀n s c v,Sd I M O s c v→s.pc=au (q+s.aN)→0≤s.aN→(s.aj=0→0<n)→(∀z:Int,0≤z→z<(blk M n s).aN→au (q+z) <65536→M.wd ((au (q+z)).toNat/256)=true)→
  ∃e x,run (blk M n s).ops I (blk M n s).ops.length=(e,some x)∧Bz (blk M n s).aj O e x
 | 0,s,c,v,h,hq,hy,h0,F8=>h.end_ (by have:=h.cc;rcases(show s.aj=0∨0<s.aj by omega) with e | e;exact absurd (h0 e) (by decide);exact e)
 | n+1,s,c,v,h,hq,hy,h0,F8=>by
  have hc:=h.cc
  unfold blk at F8⊢
  by_cases e:(ik M s.pc).1≠0
  ·rw [if_pos e]
   by_cases e0:s.aj=0
   ·rw [if_pos e0]
    have r:=Oj M s.pc
    obtain⟨v',hx⟩:=h.sm.stop (ik M s.pc).1 (ik M s.pc).2 s.pc 0
    rw [show(ik M s.pc).2%4294967296=(ik M s.pc).2 by omega] at hx
    have hr:=h.r
    have hf:=h.f
    have hp:=h.p
    have en0:s.aj.toNat=0:=by omega
    rw [en0] at hr hf hp hx
    have h1:aG O 1=⟨M,lo c,s.pc,bT c%16,(ik M s.pc).1,(ik M s.pc).2⟩:=by
     show stepO O.M O.R O.pc O.f=_
     have Ws:lo c=O.R:=hr
     have hf':bT c=O.f:=hf
     have hp':O.pc=s.pc:=hp
     rw [hO,←Ws,←hf',hp',Ob e]
    refine⟨_,_,hx,⟨Int.le_refl 0,by show 0≤s.aj;omega⟩,fun k hk=>absurd hk (by show¬ (k:Int) <0;omega),hr,hf,hp,rfl, .inr (.inr ⟨by show 2≤(ik M s.pc).1;omega, ?_, ?_⟩)⟩
    ·show(aG O 1).k=_;rw [h1]
    ·show(aG O 1).x=_;rw [h1]
   ·rw [if_neg e0]
    exact h.end_ (by omega)
  ·rw [if_neg e] at F8⊢
   have x:=tV M s
   have n6:=Tq M s.pc
   by_cases e2:en (Lf.iz M s.pc 0)=true
   ·rw [if_pos e2] at F8⊢
    have st:=h.step hM hq hy (by simpa using e) (fun z z0 z1 z2=>F8 z z0 (by rw [x.aN];exact z1) z2)
    rcases st with⟨st,_⟩ | ⟨e',x',hr,hL⟩
    ·rw [e2] at st;exact absurd st (by decide)
    ·exact⟨e',x',hr,hL _ (by rw [x.aj];exact Int.le_refl _) (fun _=>x.aj)⟩
   ·rw [if_neg e2] at F8⊢
    obtain⟨hp,ZL,hbn⟩:=F7 M n (s.xg M)
    have st:=h.step hM hq hy (by simpa using e) (fun z z0 z1 z2=>F8 z z0 (by have:=x.aN;omega) z2)
    rcases st with⟨st,c',v',sd⟩ | ⟨e',x',hr,hL⟩
    ·exact xY hM hO n (s.xg M) c' v' sd (by rw [x.pc,x.aN,hq,vg,Int.add_assoc]) (by have:=x.aN;omega) (fun e=>by have:=x.aj;omega) F8
    ·exact⟨e',x',TG hr hp,hL _ (by have:=x.aj;omega) (fun e=>absurd e e2)⟩
theorem Eo (hM:bQ M) {q:Int} (hq:0≤q∧q<4294967296) (most:Int) (c v:Nat→Int) (hC:Fz c) (h0:dG M.hi=false) (F8:∀z:Int,0≤z→z<(eU M q most).aN→au (q+z) <65536→M.wd ((au (q+z)).toNat/256)=true):
  ∃e x,run (eU M q most).ops ⟨M,c,v⟩ (eU M q most).ops.length=(e,some x)∧Bz (eU M q most).aj ⟨M,lo c,q,bT c,0,0⟩ e x:=by
 refine xY (I:=⟨M,c,v⟩) hM rfl (xC most) (Pv q) c v ?_ (by show q=au (q+0);unfold au;omega) (Int.le_refl 0) (fun _=>(En most).1) F8
 refine⟨⟨⟨rfl,fun _ _=> .inl rfl⟩,fun e=>nomatch e⟩,rfl,rfl,rfl,h0,Kp.refl M,hM,fun j=> ?_,Int.le_refl 0,fun k hk=>absurd hk (by show¬ (k:Int) <0;omega)⟩
 show 0≤lo c j∧lo c j<4294967296
 unfold lo
 split
 ·exact hC j
 ·decide
end Go.Proofs.YtcjcmnnhmajocabGreat.Lf
namespace Go.Proofs.YtcjcmnnhmajocabGreat.St
open Go.RowKit Kt Me Fl Gu
theorem XU (P:RP) (M:MM) (pc x:Int) (w:World) (h:RM P M w) (hM:bQ M) (c0:0≤pc) (c1:pc<4294967296) (hs:bY M pc 1=some x):
  Calls Tryz.prog 57 #[.pointer (some ⟨P.q,0,none⟩), .int .u32 pc] w fun e w'=>e= .returned (gG M pc)∧Below w.heap.size w w':=by
 have eV:gG M pc=iy 4 x:=by unfold gG;rw [hs]
 rw [eV]
 have CF:=κ (fun w h=>kZ P M pc 1 w h hM c0 c1)
 rw [hs,show stpV 4 (some x)= .agg #[.int .i64 4, .int .u32 x] from rfl] at CF
 have F0:=FR.new w
 have B0:=Below.Ti w (.cells Z5 74) (.cells Z2 55)
 have HH:=κ (h.upto (ah.ak (S:=fun _=>False) B0) (fun _ _=>id))
 unfold Z5 Z2 at F0 B0 HH
 unfold iy fE
 clear eV hs h hM
 go_enter Tryz.func57,Tryz.ntmps57
 go_wp2_with fail
 generalize(w.alloc (.cells #[.int .i64 0, .int .i64 0, .int .i64 0, .int .i64 0, .int .u32 0] 74)).alloc (.cells #[.int .i64 0, .int .u32 0] 55)=WA at F0 B0 HH⊢
 have HF:=κ F0
 have HB:=κ B0
 clear F0 B0
 go_wp2_with (go_at_call 87;(with_reducible refine(CF.out _ HH.out).mono ?_);rintro e w1 ⟨v,rfl,o1,b1⟩;have HR:=κ (HF.out.below b1);obtain⟨mJ,lM,lN,lQ,mM,mO,mP,iC,jB,rl⟩:=HR.out;have B1:=κ (HB.out.trans (b1.mono HB.out.size));have oK:w.heap.size<w1.heap.size:=Nat.lt_of_succ_lt rl;clear o1 b1)
 go_region
 obtain⟨u,t,fq,u0,u1,u2,u3,u4,t0,t1⟩:=HR.out.put (.int .i64 0) (.int .i64 0) (.int .i64 0) (.int .i64 0) (.int .u32 0) (.int .i64 4) (.int .u32 x)
 have bp:=eH B1.out (Nat.le_refl _) (.int .i64 0) (.int .i64 0) (.int .i64 0) (.int .i64 0) (.int .u32 0) (.int .i64 4) (.int .u32 x)
 have bC:=(fq.alloc (.cells #[.int .i64 4, .int .u32 x] 55)).drew
 have pR:=(bp.alloc (Nat.le_trans (Nat.le_of_lt (Nat.lt_of_succ_lt fq.l)) (Nat.le_refl _)) (.cells #[.int .i64 4, .int .u32 x] 55)).drew
 clear fq bp mJ lM lN lQ mM mO mP iC jB
 generalize(World.alloc _ _).drew=WZ at bC pR⊢
 have f0:=bC.a 0 (by omega)
 have f1:=bC.a 1 (by omega)
 have f2:=bC.a 2 (by omega)
 have f3:=bC.a 3 (by omega)
 have f4:=bC.a 4 (by omega)
 have g0:=bC.b 0 (by omega)
 have g1:=bC.b 1 (by omega)
 rw [u0] at f0
 rw [u1] at f1
 rw [u2] at f2
 rw [u3] at f3
 rw [u4] at f4
 rw [t0] at g0
 rw [t1] at g1
 go_wp2_with fail
 refine bodyPost_ret (v:= .tuple #[.agg #[.int .i64 0, .int .i64 0, .int .i64 0, .int .i64 0, .int .u32 0], .int .i64 0, .agg #[.int .i64 4, .int .u32 x]]) (by simp [results,Tryz.results57,go_sem,f0,f1,f2,f3,f4,g0,g1]) rfl ⟨rfl,pR⟩
theorem XV (P:RP) (M:MM) (pc x:Int) (w:World) (h:RM P M w) (hM:bQ M) (c0:0≤pc) (c1:pc<4294967296) (hs:bY M pc 1=none) (jW:bY M pc (jf M pc)=some x):
  Calls Tryz.prog 57 #[.pointer (some ⟨P.q,0,none⟩), .int .u32 pc] w fun e w'=>e= .returned (gG M pc)∧Below w.heap.size w w':=by
 have eV:gG M pc=iy 4 x:=by unfold gG;rw [hs];dsimp only;rw [jW]
 rw [eV]
 have CF:=κ (fun w h=>kZ P M pc 1 w h hM c0 c1)
 have uy:=κ (fun w h=>kZ P M pc (jf M pc) w h hM c0 c1)
 rw [hs,show stpV 4 none= .agg #[.int .i64 0, .int .u32 0] from rfl] at CF
 rw [jW,show stpV 4 (some x)= .agg #[.int .i64 4, .int .u32 x] from rfl] at uy
 have HL:=κ (show(fB M pc 1).length=1 from nN hs (by omega) (by omega))
 have hb:=iO hM pc 1 0
 have CZ:=κ (fun w=>tN ((fB M pc 1).getD 0 0) w)
 have hz:=lS M hM pc
 rw [wQ _ hb.1 hb.2,show shSize (rowOf ((fB M pc 1).getD 0 0)).sh=jf M pc from rfl] at CZ
 obtain⟨y,hy⟩:∃y,(fB M pc 1).getD 0 0=y:=⟨_,rfl⟩
 rw [hy] at CZ hb
 have HY:=κ hy
 clear hy
 generalize jf M pc=z at uy CZ hz
 have F0:=FR.new w
 have B0:=Below.Ti w (.cells Z5 74) (.cells Z2 55)
 have HH:=κ (h.upto (ah.ak (S:=fun _=>False) B0) (fun _ _=>id))
 unfold Z5 Z2 at F0 B0 HH
 unfold iy fE
 clear eV hs jW h hM
 go_enter Tryz.func57,Tryz.ntmps57
 go_wp2_with fail
 generalize(w.alloc (.cells #[.int .i64 0, .int .i64 0, .int .i64 0, .int .i64 0, .int .u32 0] 74)).alloc (.cells #[.int .i64 0, .int .u32 0] 55)=WA at F0 B0 HH⊢
 have HF:=κ F0
 have HB:=κ B0
 clear F0 B0
 go_wp2_with (go_at_call 87;(with_reducible refine(CF.out _ HH.out).mono ?_);rintro e w1 ⟨v,rfl,o1,b1⟩;have HR:=κ (HF.out.below b1);have oK:w.heap.size<w1.heap.size:=Nat.lt_of_succ_lt HR.out.l;obtain⟨ao,cap,rfl,bs,_⟩:=o1.form;obtain⟨bl,bm,bk⟩:=bs;rw [HL.out] at bl bk⊢;obtain⟨bb,NC,rfl,bbl,bc⟩:=bk (by omega);have ND:=bc 0 (by omega);rw [Nat.add_zero,HY.out] at ND;have rQ:=κ (HH.out.upto (ah.ak (S:=fun _=>False) b1) (fun _ _=>id));have B1:=κ (HB.out.trans (b1.mono HB.out.size));clear o1 b1 bk bc)
 go_at_call 88
 (with_reducible refine(CZ.out _).mono ?_)
 rintro e w2 ⟨rfl,b2⟩
 have hw:Below w1.heap.size w1 (w1.alloc (.cells #[.int .i64 0, .int .u32 0] 55)):=(Below.refl _ _).alloc (Nat.le_refl _) _
 have sH:w1.heap.size<(w1.alloc (.cells #[.int .i64 0, .int .u32 0] 55)).heap.size:=by simp
 have Bj:=κ ((HR.out.below hw).below b2)
 have wZ:=κ ((rQ.out.upto (ah.ak (S:=fun _=>False) hw) (fun _ _=>id)).upto (ah.ak (S:=fun _=>False) b2) (fun _ _=>id))
 have B2:=κ ((B1.out.trans (hw.mono (Nat.le_of_lt oK))).trans (b2.mono (Nat.le_trans (Nat.le_of_lt oK) hw.size)))
 have s0:=(b2.cell (p:=⟨w1.heap.size,0,none⟩) sH).trans (ay w1 _ _ 0)
 have s1:=(b2.cell (p:=⟨w1.heap.size,1,none⟩) sH).trans (ay w1 _ _ 1)
 have zs:=fun i=>(b2.frozen (p:=⟨w1.heap.size,i,none⟩) sH).trans (gW w1 _ _ i)
 have ls:=Nat.lt_of_lt_of_le sH b2.size
 have sb:w.heap.size<w2.heap.size:=Nat.lt_of_succ_lt Bj.out.l
 clear b2 hw
 go_wp2_with (go_at_call 87;(with_reducible refine(uy.out _ wZ.out).mono ?_);rintro e w3 ⟨v2,rfl,o3,b3⟩;have Bl:=κ (Bj.out.below b3);have B3:=κ (B2.out.trans (b3.mono (Nat.le_of_lt sb)));have r0:=(b3.cell (p:=⟨w1.heap.size,0,none⟩) ls).trans s0;have r1:=(b3.cell (p:=⟨w1.heap.size,1,none⟩) ls).trans s1;have zr:=fun i=>(b3.frozen (p:=⟨w1.heap.size,i,none⟩) ls).trans (zs i);have lr:=Nat.lt_of_lt_of_le ls b3.size;obtain⟨mJ,lM,lN,lQ,mM,mO,mP,iC,jB,rl⟩:=Bl.out;have NG:=Nat.lt_of_succ_lt rl;have O3:=κ o3;clear b3 o3)
 have n1:w1.heap.size≠w.heap.size:=Nat.ne_of_gt oK
 have n2:w1.heap.size≠w.heap.size+1:=Nat.ne_of_gt HR.out.l
 have wR:=κ ((Bl.out.off (q:=⟨w1.heap.size,0,none⟩) n1 n2 (.int .i64 4)).off (q:=⟨w1.heap.size,1,none⟩) n1 n2 (.int .u32 x))
 have q0:((w3.setCell ⟨w1.heap.size,0,none⟩ (.int .i64 4)).setCell ⟨w1.heap.size,1,none⟩ (.int .u32 x)).cell? ⟨w1.heap.size,0,none⟩=some (.int .i64 4):=(off (by omega)).trans (World.cell?_setCell_same _ _ _ r0)
 have q1:((w3.setCell ⟨w1.heap.size,0,none⟩ (.int .i64 4)).setCell ⟨w1.heap.size,1,none⟩ (.int .u32 x)).cell? ⟨w1.heap.size,1,none⟩=some (.int .u32 x):=World.cell?_setCell_same _ _ _ ((off (by omega)).trans r1)
 have B4:=κ ((B3.out.setCell (p:=⟨w1.heap.size,0,none⟩) (Nat.le_of_lt oK) (.int .i64 4)).setCell (p:=⟨w1.heap.size,1,none⟩) (Nat.le_of_lt oK) (.int .u32 x))
 clear mJ lM lN lQ mM mO mP iC jB rl NG r0 r1 zr lr s0 s1 zs ls
 generalize(w3.setCell ⟨w1.heap.size,0,none⟩ (.int .i64 4)).setCell ⟨w1.heap.size,1,none⟩ (.int .u32 x)=W4 at wR q0 q1 B4⊢
 obtain⟨mJ,lM,lN,lQ,mM,mO,mP,iC,jB,rl⟩:=wR.out
 go_region
 obtain⟨u,t,fq,u0,u1,u2,u3,u4,t0,t1⟩:=wR.out.put (.int .i64 0) (.int .i64 0) (.int .i64 0) (.int .i64 0) (.int .u32 0) (.int .i64 4) (.int .u32 x)
 have pR:=(eH B4.out (Nat.le_refl _) (.int .i64 0) (.int .i64 0) (.int .i64 0) (.int .i64 0) (.int .u32 0) (.int .i64 4) (.int .u32 x)).drew
 have bC:=fq.drew
 clear fq mJ lM lN lQ mM mO mP iC jB
 generalize World.drew _=WZ at bC pR⊢
 have f0:=bC.a 0 (by omega)
 have f1:=bC.a 1 (by omega)
 have f2:=bC.a 2 (by omega)
 have f3:=bC.a 3 (by omega)
 have f4:=bC.a 4 (by omega)
 have g0:=bC.b 0 (by omega)
 have g1:=bC.b 1 (by omega)
 rw [u0] at f0
 rw [u1] at f1
 rw [u2] at f2
 rw [u3] at f3
 rw [u4] at f4
 rw [t0] at g0
 rw [t1] at g1
 go_wp2_with fail
 refine bodyPost_ret (v:= .tuple #[.agg #[.int .i64 0, .int .i64 0, .int .i64 0, .int .i64 0, .int .u32 0], .int .i64 0, .agg #[.int .i64 4, .int .u32 x]]) (by simp [results,Tryz.results57,go_sem,f0,f1,f2,f3,f4,g0,g1]) rfl ⟨rfl,pR⟩
theorem XW (P:RP) (M:MM) (pc:Int) (w:World) (h:RM P M w) (hM:bQ M) (c0:0≤pc) (c1:pc<4294967296) (hs:bY M pc 1=none) (jW:bY M pc (jf M pc)=none):
  Calls Tryz.prog 57 #[.pointer (some ⟨P.q,0,none⟩), .int .u32 pc] w fun e w'=>e= .returned (gG M pc)∧Below w.heap.size w w':=by
 obtain⟨o,d,s,g,m,n,zz,hd⟩:=qW (kU M pc)
 have eV:gG M pc=if zz=0 then .tuple #[fE o d s g m, .int .i64 n, .agg #[.int .i64 0, .int .u32 0]] else iy 3 0:=by
  unfold gG;rw [hs];dsimp only;rw [jW];dsimp only;rw [hd];rfl
 rw [eV]
 have hu:=iO hM pc (jf M pc)
 unfold kU at hd
 have CF:=κ (fun w h=>kZ P M pc 1 w h hM c0 c1)
 have uy:=κ (fun w h=>kZ P M pc (jf M pc) w h hM c0 c1)
 rw [hs,show stpV 4 none= .agg #[.int .i64 0, .int .u32 0] from rfl] at CF
 rw [jW,show stpV 4 none= .agg #[.int .i64 0, .int .u32 0] from rfl] at uy
 have HL:=κ (show(fB M pc 1).length=1 from nN hs (by omega) (by omega))
 have hb:=iO hM pc 1 0
 have CZ:=κ (fun w=>tN ((fB M pc 1).getD 0 0) w)
 have hz:=lS M hM pc
 rw [wQ _ hb.1 hb.2,show shSize (rowOf ((fB M pc 1).getD 0 0)).sh=jf M pc from rfl] at CZ
 obtain⟨y,hy⟩:∃y,(fB M pc 1).getD 0 0=y:=⟨_,rfl⟩
 rw [hy] at CZ hb
 have HY:=κ hy
 clear hy
 generalize jf M pc=z at uy CZ hz hd hu
 generalize fB M pc z=us at uy hd hu
 have CD:=κ (fun ao cap w h=>Nz us ao cap w h hu)
 rw [hd] at CD
 clear hd hu
 have F0:=FR.new w
 have B0:=Below.Ti w (.cells Z5 74) (.cells Z2 55)
 have HH:=κ (h.upto (ah.ak (S:=fun _=>False) B0) (fun _ _=>id))
 unfold Z5 Z2 at F0 B0 HH
 unfold iy fE
 unfold fE at CD
 generalize hV:(if zz=0 then _ else _:Value)=V
 have HV:=κ hV
 clear hV
 clear eV hs jW h hM
 go_enter Tryz.func57,Tryz.ntmps57
 go_wp2_with fail
 generalize(w.alloc (.cells #[.int .i64 0, .int .i64 0, .int .i64 0, .int .i64 0, .int .u32 0] 74)).alloc (.cells #[.int .i64 0, .int .u32 0] 55)=WA at F0 B0 HH⊢
 have HF:=κ F0
 have HB:=κ B0
 clear F0 B0
 go_wp2_with (go_at_call 87;(with_reducible refine(CF.out _ HH.out).mono ?_);rintro e w1 ⟨v,rfl,o1,b1⟩;have HR:=κ (HF.out.below b1);have oK:w.heap.size<w1.heap.size:=Nat.lt_of_succ_lt HR.out.l;obtain⟨ao,cap,rfl,bs,_⟩:=o1.form;obtain⟨bl,bm,bk⟩:=bs;rw [HL.out] at bl bk⊢;obtain⟨bb,NC,rfl,bbl,bc⟩:=bk (by omega);have ND:=bc 0 (by omega);rw [Nat.add_zero,HY.out] at ND;have rQ:=κ (HH.out.upto (ah.ak (S:=fun _=>False) b1) (fun _ _=>id));have B1:=κ (HB.out.trans (b1.mono HB.out.size));clear o1 b1 bk bc)
 go_at_call 88
 (with_reducible refine(CZ.out _).mono ?_)
 rintro e w2 ⟨rfl,b2⟩
 have hw:Below w1.heap.size w1 (w1.alloc (.cells #[.int .i64 0, .int .u32 0] 55)):=(Below.refl _ _).alloc (Nat.le_refl _) _
 have sH:w1.heap.size<(w1.alloc (.cells #[.int .i64 0, .int .u32 0] 55)).heap.size:=by simp
 have Bj:=κ ((HR.out.below hw).below b2)
 have wZ:=κ ((rQ.out.upto (ah.ak (S:=fun _=>False) hw) (fun _ _=>id)).upto (ah.ak (S:=fun _=>False) b2) (fun _ _=>id))
 have B2:=κ ((B1.out.trans (hw.mono (Nat.le_of_lt oK))).trans (b2.mono (Nat.le_trans (Nat.le_of_lt oK) hw.size)))
 have s0:=(b2.cell (p:=⟨w1.heap.size,0,none⟩) sH).trans (ay w1 _ _ 0)
 have s1:=(b2.cell (p:=⟨w1.heap.size,1,none⟩) sH).trans (ay w1 _ _ 1)
 have zs:=fun i=>(b2.frozen (p:=⟨w1.heap.size,i,none⟩) sH).trans (gW w1 _ _ i)
 have ls:=Nat.lt_of_lt_of_le sH b2.size
 have sb:w.heap.size<w2.heap.size:=Nat.lt_of_succ_lt Bj.out.l
 clear b2 hw
 go_wp2_with (go_at_call 87;(with_reducible refine(uy.out _ wZ.out).mono ?_);rintro e w3 ⟨v2,rfl,o3,b3⟩;have Bl:=κ (Bj.out.below b3);have B3:=κ (B2.out.trans (b3.mono (Nat.le_of_lt sb)));have r0:=(b3.cell (p:=⟨w1.heap.size,0,none⟩) ls).trans s0;have r1:=(b3.cell (p:=⟨w1.heap.size,1,none⟩) ls).trans s1;have zr:=fun i=>(b3.frozen (p:=⟨w1.heap.size,i,none⟩) ls).trans (zs i);have lr:=Nat.lt_of_lt_of_le ls b3.size;obtain⟨mJ,lM,lN,lQ,mM,mO,mP,iC,jB,rl⟩:=Bl.out;have NG:=Nat.lt_of_succ_lt rl;have O3:=κ o3;clear b3 o3)
 have n1:w1.heap.size≠w.heap.size:=Nat.ne_of_gt oK
 have n2:w1.heap.size≠w.heap.size+1:=Nat.ne_of_gt HR.out.l
 have wR:=κ ((Bl.out.off (q:=⟨w1.heap.size,0,none⟩) n1 n2 (.int .i64 0)).off (q:=⟨w1.heap.size,1,none⟩) n1 n2 (.int .u32 0))
 have B4:=κ ((B3.out.setCell (p:=⟨w1.heap.size,0,none⟩) (Nat.le_of_lt oK) (.int .i64 0)).setCell (p:=⟨w1.heap.size,1,none⟩) (Nat.le_of_lt oK) (.int .u32 0))
 have O4:=(O3.out.below (q:=⟨w1.heap.size,0,none⟩) ls (.int .i64 0)).below (q:=⟨w1.heap.size,1,none⟩) ls (.int .u32 0)
 clear mJ lM lN lQ mM mO mP iC jB rl NG r0 r1 zr lr s0 s1 zs ls
 generalize(w3.setCell ⟨w1.heap.size,0,none⟩ (.int .i64 0)).setCell ⟨w1.heap.size,1,none⟩ (.int .u32 0)=W4 at wR B4 O4⊢
 obtain⟨ao3,abx,rfl,UK,_⟩:=O4.form
 clear O4
 go_at_call 89
 with_reducible refine(CD.out _ _ _ UK).mono ?_
 clear UK
 rintro e w5 ⟨rfl,b5⟩
 have NH:=κ (wR.out.below b5)
 have lw4:w.heap.size<W4.heap.size:=Nat.lt_of_succ_lt wR.out.l
 have B5:=κ (B4.out.trans (b5.mono (Nat.le_of_lt lw4)))
 clear b5
 obtain⟨mJ,lM,lN,lQ,mM,mO,mP,iC,jB,rl⟩:=NH.out
 have UL:=Nat.lt_of_succ_lt rl
 by_cases BX:zz=0
 ·subst BX
  go_upto_region 10 with fail
  have Bq:=(Below.refl w5.heap.size w5).alloc (Nat.le_refl _) (.cells #[.int .i64 o, .int .i64 d, .int .i64 s, .int .i64 g, .int .u32 m] 74)
  have wS:=κ (NH.out.below Bq)
  have B6:=κ (B5.out.alloc (Nat.le_of_lt UL) (.cells #[.int .i64 o, .int .i64 d, .int .i64 s, .int .i64 g, .int .u32 m] 74))
  have k0:=ay w5 #[.int .i64 o, .int .i64 d, .int .i64 s, .int .i64 g, .int .u32 m] 74 0
  have k1:=ay w5 #[.int .i64 o, .int .i64 d, .int .i64 s, .int .i64 g, .int .u32 m] 74 1
  have k2:=ay w5 #[.int .i64 o, .int .i64 d, .int .i64 s, .int .i64 g, .int .u32 m] 74 2
  have k3:=ay w5 #[.int .i64 o, .int .i64 d, .int .i64 s, .int .i64 g, .int .u32 m] 74 3
  have k4:=ay w5 #[.int .i64 o, .int .i64 d, .int .i64 s, .int .i64 g, .int .u32 m] 74 4
  simp only [List.getElem?_toArray,List.getElem?_cons_zero,List.getElem?_cons_succ] at k0 k1 k2 k3 k4
  clear mJ lM lN lQ mM mO mP iC jB rl Bq
  generalize w5.alloc (.cells #[.int .i64 o, .int .i64 d, .int .i64 s, .int .i64 g, .int .u32 m] 74)=W6 at wS B6 k0 k1 k2 k3 k4⊢
  obtain⟨mJ,lM,lN,lQ,mM,mO,mP,iC,jB,rl⟩:=wS.out
  have NI:=iC 0
  have NJ:=iC 1
  have NM:=iC 2
  have NQ:=iC 3
  have NR:=iC 4
  have NT:=jB 0
  have NV:=jB 1
  clear iC jB
  go_wp2_with fail
  obtain⟨u,t,bC,u0,u1,u2,u3,u4,t0,t1⟩:=wS.out.put (.int .i64 o) (.int .i64 d) (.int .i64 s) (.int .i64 g) (.int .u32 m) (.int .i64 0) (.int .u32 0)
  have pR:=eH B6.out (Nat.le_refl _) (.int .i64 o) (.int .i64 d) (.int .i64 s) (.int .i64 g) (.int .u32 m) (.int .i64 0) (.int .u32 0)
  clear mJ lM lN lQ mM mO mP NI NJ NM NQ NR NT NV k0 k1 k2 k3 k4
  generalize World.setCell _ ⟨w.heap.size+1,1,none⟩ _=WZ at bC pR⊢
  have f0:=bC.a 0 (by omega)
  have f1:=bC.a 1 (by omega)
  have f2:=bC.a 2 (by omega)
  have f3:=bC.a 3 (by omega)
  have f4:=bC.a 4 (by omega)
  have g0:=bC.b 0 (by omega)
  have g1:=bC.b 1 (by omega)
  rw [u0] at f0
  rw [u1] at f1
  rw [u2] at f2
  rw [u3] at f3
  rw [u4] at f4
  rw [t0] at g0
  rw [t1] at g1
  refine bodyPost_ret (v:= .tuple #[.agg #[.int .i64 o, .int .i64 d, .int .i64 s, .int .i64 g, .int .u32 m], .int .i64 n, .agg #[.int .i64 0, .int .u32 0]]) (by simp [results,Tryz.results57,go_sem,f0,f1,f2,f3,f4,g0,g1]) rfl ⟨by rw [←HV.out,if_pos trivial],pR⟩
 ·have hzb:(zz==0)=false:=by rw [beq_eq_false_iff_ne];exact BX
  have hzn:(zz !=0)=true:=by rw [bne,hzb];rfl
  go_upto_region 9 with fail
  have Bq:=(Below.refl w5.heap.size w5).alloc (Nat.le_refl _) (.cells #[.int .i64 o, .int .i64 d, .int .i64 s, .int .i64 g, .int .u32 m] 74)
  have wS:=κ (NH.out.below Bq)
  have B6:=κ (B5.out.alloc (Nat.le_of_lt UL) (.cells #[.int .i64 o, .int .i64 d, .int .i64 s, .int .i64 g, .int .u32 m] 74))
  have k0:=ay w5 #[.int .i64 o, .int .i64 d, .int .i64 s, .int .i64 g, .int .u32 m] 74 0
  have k1:=ay w5 #[.int .i64 o, .int .i64 d, .int .i64 s, .int .i64 g, .int .u32 m] 74 1
  have k2:=ay w5 #[.int .i64 o, .int .i64 d, .int .i64 s, .int .i64 g, .int .u32 m] 74 2
  have k3:=ay w5 #[.int .i64 o, .int .i64 d, .int .i64 s, .int .i64 g, .int .u32 m] 74 3
  have k4:=ay w5 #[.int .i64 o, .int .i64 d, .int .i64 s, .int .i64 g, .int .u32 m] 74 4
  simp only [List.getElem?_toArray,List.getElem?_cons_zero,List.getElem?_cons_succ] at k0 k1 k2 k3 k4
  clear mJ lM lN lQ mM mO mP iC jB rl Bq
  generalize w5.alloc (.cells #[.int .i64 o, .int .i64 d, .int .i64 s, .int .i64 g, .int .u32 m] 74)=W6 at wS B6 k0 k1 k2 k3 k4⊢
  obtain⟨mJ,lM,lN,lQ,mM,mO,mP,iC,jB,rl⟩:=wS.out
  have NI:=iC 0
  have NJ:=iC 1
  have NM:=iC 2
  have NQ:=iC 3
  have NR:=iC 4
  have NT:=jB 0
  have NV:=jB 1
  clear iC jB
  go_wp2_with fail
  obtain⟨u,t,bC,u0,u1,u2,u3,u4,t0,t1⟩:=wS.out.put (.int .i64 0) (.int .i64 0) (.int .i64 0) (.int .i64 0) (.int .u32 0) (.int .i64 3) (.int .u32 0)
  have pR:=eH B6.out (Nat.le_refl _) (.int .i64 0) (.int .i64 0) (.int .i64 0) (.int .i64 0) (.int .u32 0) (.int .i64 3) (.int .u32 0)
  clear mJ lM lN lQ mM mO mP NI NJ NM NQ NR NT NV k0 k1 k2 k3 k4
  generalize World.setCell _ ⟨w.heap.size+1,1,none⟩ _=WZ at bC pR⊢
  have f0:=bC.a 0 (by omega)
  have f1:=bC.a 1 (by omega)
  have f2:=bC.a 2 (by omega)
  have f3:=bC.a 3 (by omega)
  have f4:=bC.a 4 (by omega)
  have g0:=bC.b 0 (by omega)
  have g1:=bC.b 1 (by omega)
  rw [u0] at f0
  rw [u1] at f1
  rw [u2] at f2
  rw [u3] at f3
  rw [u4] at f4
  rw [t0] at g0
  rw [t1] at g1
  refine bodyPost_ret (v:= .tuple #[.agg #[.int .i64 0, .int .i64 0, .int .i64 0, .int .i64 0, .int .u32 0], .int .i64 0, .agg #[.int .i64 3, .int .u32 0]]) (by simp [results,Tryz.results57,go_sem,f0,f1,f2,f3,f4,g0,g1]) rfl ⟨by rw [←HV.out,if_neg BX],pR⟩
theorem pW (P:RP) (M:MM) (pc:Int) (w:World) (h:RM P M w) (hM:bQ M) (c0:0≤pc) (c1:pc<4294967296):
  Calls Tryz.prog 57 #[.pointer (some ⟨P.q,0,none⟩), .int .u32 pc] w fun e w'=>e= .returned (gG M pc)∧Below w.heap.size w w':=by
 cases hs:bY M pc 1 with
 | some x=>exact XU P M pc x w h hM c0 c1 hs
 | none=>cases jW:bY M pc (jf M pc) with
  | some x=>exact XV P M pc x w h hM c0 c1 hs jW
  | none=>exact XW P M pc w h hM c0 c1 hs jW
end Go.Proofs.YtcjcmnnhmajocabGreat.St
namespace Go.Proofs.YtcjcmnnhmajocabGreat.Lf
open Go.RowKit Kt Ic Me Gu St
theorem TI (most:Int):(if 64<(if most<1 then 1 else most) then(64:Int) else if most<1 then 1 else most)=(xC most:Int)∧1≤xC most∧xC most≤64:=by
 unfold xC
 by_cases h:most<1
 ·simp only [if_pos h]
  rw [Int.max_eq_right (by omega),if_neg (by decide)]
  exact⟨rfl,by decide,by decide⟩
 ·simp only [if_neg h]
  rw [Int.max_eq_left (by omega)]
  by_cases h2:64<most
  ·rw [if_pos h2,Int.min_eq_right (by omega)];exact⟨rfl,by decide,by decide⟩
  ·rw [if_neg h2,Int.min_eq_left (by omega)];exact⟨by omega,by omega,by omega⟩
structure Bo (b:Nat) (cs:Array Value) (W:World):Prop where
 l:b<W.heap.size
 c:∀ (j:Nat) (v:Value),cs[j]?=some v→W.cell? ⟨b,j,none⟩=some v
 z:∀j,W.frozen? ⟨b,j,none⟩=false
theorem Bo.upto {S:Nat→Prop} {b:Nat} {cs:Array Value} {W W':World} (h:Bo b cs W) (u:ah S W W') (hs:¬S b):Bo b cs W':=
 ⟨Nat.lt_of_lt_of_le h.l u.size,fun j v hj=>(u.cell (q:=⟨b,j,none⟩) h.l hs).trans (h.c j v hj),fun j=>(u.frozen (q:=⟨b,j,none⟩) h.l hs).trans (h.z j)⟩
theorem Bo.new (w:World) (cs:Array Value) (t:TypeId):Bo w.heap.size cs (w.alloc (.cells cs t)):=
 ⟨by simp,fun j v hj=>(cell_of_row _ _ _ _ _ _ (heap_alloc_new w _)).trans hj,fun j=>by simp⟩
theorem Bo.abK {b:Nat} {cs:Array Value} {W:World} (h:Bo b cs W) (j:Nat) (v:Value):Bo b (cs.setIfInBounds j v) (W.setCell ⟨b,j,none⟩ v):=by
 refine⟨by simpa using h.l,fun i u hi=> ?_,fun i=>by simpa using h.z i⟩
 by_cases e:i=j
 ·subst e
  have hs:i<cs.size:=by
   have:=(Array.getElem?_eq_some_iff.1 hi).1
   simpa using this
  rw [Array.getElem?_setIfInBounds_self_of_lt hs] at hi
  obtain rfl:=Option.some.inj hi
  exact World.cell?_setCell_same _ _ _ (h.c i _ (Array.getElem?_eq_getElem hs))
 ·rw [Array.getElem?_setIfInBounds_ne (Ne.symm e)] at hi
  rw [World.cell?_setCell_other _ _ _ _ (by intro hx;exact e (congrArg Addr.off hx).symm)]
  exact h.c i u hi
theorem Bo.TJ {b:Nat} {x0 x1:Value} {w W:World} (h:Bo b #[x0,x1] W) (u:Below b w W) (v0 v1:Value):
  ((W.setCell ⟨b,0,none⟩ v0).setCell ⟨b,1,none⟩ v1).cell? ⟨b,0,none⟩=some v0∧((W.setCell ⟨b,0,none⟩ v0).setCell ⟨b,1,none⟩ v1).cell? ⟨b,1,none⟩=some v1∧Below b w ((W.setCell ⟨b,0,none⟩ v0).setCell ⟨b,1,none⟩ v1):=by
 have k:=(h.abK 0 v0).abK 1 v1
 exact⟨k.c 0 _ rfl,k.c 1 _ rfl,(u.setCell (Nat.le_refl _) _).setCell (Nat.le_refl _) _⟩
theorem XY {os:List aV} {ao:Option Addr} {cap:Nat} {S:Nat→Prop} {w w':World} (h:zY os ao cap w) (u:ah S w w') (hs:∀g,ao=some g→0<os.length→¬S g.block):zY os ao cap w':=by
 obtain⟨h1,h2,h3⟩:=h
 refine⟨h1,h2,fun hp=> ?_⟩
 obtain⟨g,off,e,hg,hc⟩:=h3 hp
 refine⟨g,off,e,Nat.lt_of_lt_of_le hg u.size,fun i o ho j v hv=> ?_⟩
 exact(u.cell (q:=⟨g,off+i*7+j,none⟩) hg (show¬S g from hs ⟨g,off,none⟩ e hp)).trans (hc i o ho j v hv)
theorem lV {S T:Nat→Prop} {w a b:World} (h:ah S w a) (k:ah T a b) (hT:∀i,T i→S i∨w.heap.size≤i):ah S w b:=
 ((h.mono (T:=fun i=>S i∨w.heap.size≤i) fun _ _ e=> .inl e).trans (k.mono fun i _ e=>hT i e)).mono fun i hi e=>e.elim id fun e=>absurd hi (by omega)
def XZ (r:Int×Int×Int×Int):Value:= .tuple #[.int .i64 r.1, .int .i64 r.2.1, .agg #[.int .i64 r.2.2.1, .int .u32 r.2.2.2]]
theorem qJ (o:Int) (w:World) (h:0≤o∧o<32):Calls Tryz.prog 65 #[.int .i64 o] w fun e w'=>e= .returned (.bool (decide (o=31∨o=24∨o=25∨o=26∨o=14∨o=3)))∧w=w':=by
 rcases(show o=31∨o=24∨o=25∨o=26∨o=14∨o=3∨¬ (o=31∨o=24∨o=25∨o=26∨o=14∨o=3) by omega) with rfl | rfl | rfl | rfl | rfl | rfl | h1
 ·go_enter Tryz.func65,Tryz.ntmps65
  go_wp2
  go_ret
  exact⟨rfl,rfl⟩
 ·go_enter Tryz.func65,Tryz.ntmps65
  go_wp2
  go_ret
  exact⟨rfl,rfl⟩
 ·go_enter Tryz.func65,Tryz.ntmps65
  go_wp2
  go_ret
  exact⟨rfl,rfl⟩
 ·go_enter Tryz.func65,Tryz.ntmps65
  go_wp2
  go_ret
  exact⟨rfl,rfl⟩
 ·go_enter Tryz.func65,Tryz.ntmps65
  go_wp2
  go_ret
  exact⟨rfl,rfl⟩
 ·go_enter Tryz.func65,Tryz.ntmps65
  go_wp2
  go_ret
  exact⟨rfl,rfl⟩
 ·rw [decide_eq_false h1]
  have n1:(o==31)=false:=by simp;omega
  have n2:(o==24)=false:=by simp;omega
  have n3:(o==25)=false:=by simp;omega
  have n4:(o==26)=false:=by simp;omega
  have n5:(o==14)=false:=by simp;omega
  have n6:(o==3)=false:=by simp;omega
  clear h1 h
  go_enter Tryz.func65,Tryz.ntmps65
  go_wp2
  go_ret
  exact⟨rfl,rfl⟩
def zH (M:MM) (q:Int):Nat→MM
 | 0=>M
 | n+1=>uK (zH M q n) (au (q+n)/256) true
theorem Ep (P:RP) (M:MM) (q:Int) (z:Nat) (w:World) (h:RM P M w) (q0:0≤q) (q1:q<4294967296) (z1:z≤1000):
  Calls Tryz.prog 26 #[.pointer (some ⟨P.q,0,none⟩), .int .u32 q, .int .i64 z] w fun e w'=>e= .returned (.tuple #[])∧RM P (zH M q z) w'∧ah P.has w w':=by
 have HH:=κ h
 clear h
 go_enter Tryz.func26,Tryz.ntmps26
 go_wp2
 go_loopg [6] z (fun k i wr=>∃j:Nat,k=z-j∧j≤z∧i= .int .i64 j∧Hid (RM P (zH M q j) wr)∧Hid (ah P.has w wr))
 case atStart=>exact⟨0,rfl,Nat.zero_le _,rfl,HH,ah.refl _ _⟩
 case round=>
  obtain⟨j,hk,hj,rfl,HR,HU⟩:=hrel
  by_cases dh:j<z
  ·have pF:(j:Int) <(z:Int):=by omega
   have d0:decide ((j:Int) <(z:Int))=true:=decide_eq_true pF
   have LT:=κ dh
   have KK:=κ hk
   have e1:IntKind.u32.wrap (j:Int)=(j:Int):=by rw [IntKind.wrap_u32];omega
   have e2:IntKind.u32.wrap (q+(j:Int))=au (q+(j:Int)):=by rw [IntKind.wrap_u32];rfl
   have hb:=aP (q+(j:Int))
   have P1:=κ (xP P (zH M q j) (au (q+(j:Int))/256) true wr HR.out)
   have e4:IntKind.i64.wrap ((j:Int)+1)=(j:Int)+1:=by rw [IntKind.wrap_i64];omega
   obtain⟨y,hy⟩:∃y,au (q+(j:Int))=y:=⟨_,rfl⟩
   rw [hy] at e2 hb P1
   have HY:=κ hy
   have e3:IntKind.i64.wrap y=y:=by rw [IntKind.wrap_i64];omega
   have y0:=hb.1
   clear dh hk pF hy
   go_wp2_with (go_at_call 52;refine P1.out.mono ?_;rintro e w1 ⟨rfl,r1,u1⟩;have R1:=κ r1;have U1:=κ u1;clear r1 u1)
   go_roundg (z-(j+1))
   case measure=>have:=KK.out;have:=LT.out;omega
   case rel=>exact⟨j+1,rfl,LT.out,by simp,by show Hid (RM P (uK (zH M q j) (au (q+(j:Int))/256) true) _);rw [HY.out];exact R1,κ (HU.out.trans (U1.out.mono fun i _ e=>e))⟩
  ·obtain rfl:j=z:=by omega
   have d0:decide ((j:Int) <(j:Int))=false:=decide_eq_false (by omega)
   go_wp2
   go_end0
   exact⟨rfl,HR.out,HU.out⟩
theorem Es (P:RP) (M:MM) (q most:Int) (w:World) (h:RM P M w) (hM:bQ M) (q0:0≤q) (q1:q<4294967296):
  Calls Tryz.prog 25 #[.pointer (some ⟨P.q,0,none⟩), .int .u32 q, .int .i64 most] w fun e w'=>e= .returned (XZ (lng M q (xC most) 0 0))∧Below w.heap.size w w':=by
 obtain⟨Py,hm2,hm3⟩:=TI most
 obtain⟨mv,X0⟩:∃m,xC most=m:=⟨_,rfl⟩
 have HM:=κ hm2
 have IG:=κ hm3
 rw [X0] at HM IG Py
 obtain⟨fin,uN⟩:∃s,lng M q (xC most) 0 0=s:=⟨_,rfl⟩
 have HE:=κ (show lng M q mv 0 0=fin by rw [←X0];exact uN)
 rw [uN]
 unfold XZ
 clear hm2 hm3 X0 uN
 have HH:=κ h
 have C0:=κ q0
 have C1:=κ q1
 have R0:=κ (Bo.new w #[.int .i64 0, .int .u32 0] 55)
 have U0:=κ ((Below.refl w.heap.size w).alloc (Nat.le_refl _) (.cells #[.int .i64 0, .int .u32 0] 55))
 clear h q0 q1
 rcases(show most<1∨(¬most<1∧64<most)∨(¬most<1∧¬64<most) by omega) with h1 | ⟨h1,h2⟩ | ⟨h1,h2⟩
 case' inl=>
  have cmp:Hid (∀n:Int,decide (n<1)=decide (n<(mv:Int))):=κ (fun n=>by rw [←Py,if_pos h1];rfl)
  have b1:decide (most<1)=true:=decide_eq_true h1
  clear h1 Py
 case' inr.inl=>
  have cmp:Hid (∀n:Int,decide (n<64)=decide (n<(mv:Int))):=κ (fun n=>by rw [←Py,if_neg h1,if_pos h2])
  have b1:decide (most<1)=false:=decide_eq_false h1
  have b2:decide (64<most)=true:=decide_eq_true h2
  clear h1 h2 Py
 case' inr.inr=>
  have cmp:Hid (∀n:Int,decide (n<most)=decide (n<(mv:Int))):=κ (fun n=>by rw [←Py,if_neg h1,if_neg h2])
  have b1:decide (most<1)=false:=decide_eq_false h1
  have b2:decide (64<most)=false:=decide_eq_false h2
  clear h1 h2 Py
 all_goals
  go_enter Tryz.func25,Tryz.ntmps25
  go_upto_region 5 with fail
  generalize w.alloc (.cells #[.int .i64 0, .int .u32 0] 55)=wA at R0 U0⊢
  clear b1
  go_wp2
  go_loopg [9,10] mv (fun g nn zz wr=>∃ (n z:Int),nn= .int .i64 n∧zz= .int .i64 z∧Hid (lng M q g n z=fin)∧Hid (0≤n∧n+g=mv)∧Hid (0≤z∧z+8*g≤8*mv)∧Hid (Bo w.heap.size #[.int .i64 0, .int .u32 0] wr)∧Hid (Below w.heap.size w wr))
  case atStart=>exact⟨0,0,rfl,rfl,HE,κ (by omega),κ (by omega),R0,U0⟩
  case round=>
   obtain⟨n,z,rfl,rfl,E,N,Z,R,U⟩:=hrel
   clear R0 U0
   cases gk with
   | zero=>
    have d0:=(cmp.out n).trans (decide_eq_false (by have:=N.out;omega))
    have k0:=R.out.c 0 _ rfl
    have k1:=R.out.c 1 _ rfl
    have kz:=R.out.z
    have kl:=R.out.l
    go_wp2
    obtain⟨q0,q1,u7⟩:=R.out.TJ U.out (.int .i64 0) (.int .u32 0)
    generalize World.setCell (World.setCell wr _ _) _ _=W7 at q0 q1 u7⊢
    have EF:(n,z,0,0)=fin:=E.out
    subst EF
    exact bodyPost_ret (v:= .tuple #[.int .i64 n, .int .i64 z, .agg #[.int .i64 0, .int .u32 0]]) (by simp [results,Tryz.results25,go_sem,q0,q1]) rfl ⟨rfl,u7⟩
   | succ k=>
    have d0:=(cmp.out n).trans (decide_eq_true (by have:=N.out;omega))
    have z6:=Tq M (au (q+z))
    have e1:IntKind.u32.wrap z=z:=by rw [IntKind.wrap_u32];have:=Z.out;have:=IG.out;omega
    have e2:IntKind.u32.wrap (q+z)=au (q+z):=by rw [IntKind.wrap_u32];rfl
    have e3:IntKind.i64.wrap (n+1)=n+1:=by rw [IntKind.wrap_i64];have:=N.out;have:=IG.out;omega
    have hb:=aP (q+z)
    obtain⟨y,hy⟩:∃y,au (q+z)=y:=⟨_,rfl⟩
    have EE:=E.out
    unfold lng at EE
    rw [hy] at EE e2 hb z6
    have e4:IntKind.i64.wrap (z+iz M y 5)=z+iz M y 5:=by rw [IntKind.wrap_i64];have:=Z.out;have:=IG.out;omega
    have PI:=pW P M y wr (HH.out.upto (ah.ak (S:=fun _=>False) U.out) (fun _ _=>id)) hM hb.1 hb.2
    rw [zF] at PI
    unfold fE at PI
    have PI:=κ PI
    have Z6:=κ z6
    have EE:=κ EE
    clear hy z6 hb E
    go_upto_region 9 with(go_at_call 57;refine PI.out.mono ?_;rintro e w3 ⟨rfl,b3⟩;have B3:=κ b3;clear b3)
    have u3:=ah.ak (S:=fun _=>False) B3.out
    have un:=((ah.refl (fun _=>False) w3).alloc (.cells #[.int .i64 (iz M y 0), .int .i64 (iz M y 1), .int .i64 (iz M y 2), .int .i64 (iz M y 3), .int .u32 (iz M y 4)] 74)).alloc (.cells #[.int .i64 (ik M y).1, .int .u32 (ik M y).2] 55)
    have X4:=(Bo.new w3 #[.int .i64 (iz M y 0), .int .i64 (iz M y 1), .int .i64 (iz M y 2), .int .i64 (iz M y 3), .int .u32 (iz M y 4)] 74).upto ((ah.refl (fun _=>False) _).alloc (.cells #[.int .i64 (ik M y).1, .int .u32 (ik M y).2] 55)) id
    have S4:=Bo.new (w3.alloc (.cells #[.int .i64 (iz M y 0), .int .i64 (iz M y 1), .int .i64 (iz M y 2), .int .i64 (iz M y 3), .int .u32 (iz M y 4)] 74)) #[.int .i64 (ik M y).1, .int .u32 (ik M y).2] 55
    rw [show(w3.alloc (.cells #[.int .i64 (iz M y 0), .int .i64 (iz M y 1), .int .i64 (iz M y 2), .int .i64 (iz M y 3), .int .u32 (iz M y 4)] 74)).heap.size=w3.heap.size+1 by simp] at S4
    have R4:=κ ((R.out.upto u3 id).upto un id)
    have U4:=κ ((U.out.trans (B3.out.mono U.out.size)).trans ((un.below (Nat.le_refl _) (fun _ _=>id)).mono (Nat.le_trans U.out.size B3.out.size)))
    have X4:=κ X4
    have S4:=κ S4
    generalize(w3.alloc (.cells #[.int .i64 (iz M y 0), .int .i64 (iz M y 1), .int .i64 (iz M y 2), .int .i64 (iz M y 3), .int .u32 (iz M y 4)] 74)).alloc (.cells #[.int .i64 (ik M y).1, .int .u32 (ik M y).2] 55)=w4 at R4 U4 X4 S4⊢
    generalize w3.heap.size=b3 at*
    clear u3 un B3 R U PI d0 e1 e2
    have s0:=S4.out.c 0 _ rfl
    have s1:=S4.out.c 1 _ rfl
    have sl:=S4.out.l
    by_cases hk:(ik M y).1=0
    ·rw [hk] at s0
     have EB:=EE.out
     rw [if_neg (fun h=>h hk)] at EB
     have EB:=κ EB
     have x0:=X4.out.c 0 _ rfl
     have xl:=X4.out.l
     have PE:=κ (Ib (iz M y 0) w4)
     clear hk EE s1
     cases he:en (iz M y 0) with
     | true=>
      rw [he] at PE EB
      have k0:=R4.out.c 0 _ rfl
      have k1:=R4.out.c 1 _ rfl
      have kz:=R4.out.z
      have kl:=R4.out.l
      go_wp2_with (go_at_call 58;refine PE.out.mono ?_;rintro e w9 ⟨rfl,rfl⟩)
      obtain⟨q0,q1,u7⟩:=R4.out.TJ U4.out (.int .i64 0) (.int .u32 0)
      generalize World.setCell (World.setCell w4 _ _) _ _=W7 at q0 q1 u7⊢
      have EF:(n+1,z+iz M y 5,0,0)=fin:=EB.out
      subst EF
      exact bodyPost_ret (v:= .tuple #[.int .i64 (n+1), .int .i64 (z+iz M y 5), .agg #[.int .i64 0, .int .u32 0]]) (by simp [results,Tryz.results25,go_sem,q0,q1]) rfl ⟨rfl,u7⟩
     | false=>
      rw [he] at PE EB
      go_wp2_with (go_at_call 58;refine PE.out.mono ?_;rintro e w9 ⟨rfl,rfl⟩)
      go_roundg k
      case measure=>omega
      case rel=>exact⟨n+1,z+iz M y 5,rfl,rfl,EB,κ (by have:=N.out;omega),κ (by have:=Z.out;have:=Z6.out;omega),R4,U4⟩
    ·have dR:((ik M y).1 !=0)=true:=by simpa using hk
     have EB:=EE.out
     rw [if_pos hk] at EB
     have EB:=κ EB
     have k0:=R4.out.c 0 _ rfl
     have k1:=R4.out.c 1 _ rfl
     have kz:=R4.out.z
     have kl:=R4.out.l
     clear hk EE
     by_cases hn:n=0
     ·subst hn
      go_wp2
      go_region
      go_wp2
      obtain⟨q0,q1,u7⟩:=R4.out.TJ U4.out (.int .i64 (ik M y).1) (.int .u32 (ik M y).2)
      generalize World.setCell (World.setCell w4 _ _) _ _=W7 at q0 q1 u7⊢
      have d0:W7.drew.cell? ⟨w.heap.size,0,none⟩=some (.int .i64 (ik M y).1):=q0
      have d1:W7.drew.cell? ⟨w.heap.size,1,none⟩=some (.int .u32 (ik M y).2):=q1
      have EF:(0,0,(ik M y).1,(ik M y).2)=fin:=by have h:=EB.out;simpa using h
      subst EF
      exact bodyPost_ret (v:= .tuple #[.int .i64 0, .int .i64 0, .agg #[.int .i64 (ik M y).1, .int .u32 (ik M y).2]]) (by simp [results,Tryz.results25,go_sem,d0,d1]) rfl ⟨rfl,u7.drew⟩
     ·have hnn:(n==0)=false:=by simpa using hn
      go_wp2
      obtain⟨q0,q1,u7⟩:=R4.out.TJ U4.out (.int .i64 0) (.int .u32 0)
      generalize World.setCell (World.setCell w4 _ _) _ _=W7 at q0 q1 u7⊢
      have EF:=EB.out
      rw [if_neg hn] at EF
      subst EF
      exact bodyPost_ret (v:= .tuple #[.int .i64 n, .int .i64 z, .agg #[.int .i64 0, .int .u32 0]]) (by simp [results,Tryz.results25,go_sem,q0,q1]) rfl ⟨rfl,u7⟩
end Go.Proofs.YtcjcmnnhmajocabGreat.Lf
