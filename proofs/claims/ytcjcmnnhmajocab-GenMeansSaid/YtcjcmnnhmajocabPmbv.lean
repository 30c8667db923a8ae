import Derived.Test.YtcjcmnnhmajocabPmbi
import Derived.Test.YtcjcmnnhmajocabPmbk
set_option linter.unusedVariables false
set_option linter.unusedSimpArgs false
set_option maxRecDepth 100000
set_option maxHeartbeats 16000000
namespace Go.Proofs.Ytcjcmnnhmajocab.Gn
open Go.RowKit Kt Ic Hr Ho Me
def iF (x:Cd) (t:jw):jw:={t with s:={t.s with at_:=t.s.at_+wd (aF x.op)}}
def Zg (d:jw):jw:={d with s:={d.s with fC:=d.s.fC+1}}
structure Ok1 (K:Hk) (x:Cd) (t d:jw):Prop where
 r:iE K x (iF x t)=(none,d)
 s:d.s.stuck=false
 a:d.s.at_=t.s.at_+wd (aF x.op)
def Wk (K:Hk):List Cd→jw→jw→Prop
 | [],t,u=>u=t
 | x::l,t,u=>∃d,Ok1 K x t d∧Wk K l (Zg d) u
variable {K:Hk}
theorem Wk.snoc {x:Cd} {u d:jw}:∀ {l:List Cd} {t:jw},Wk K l t u→Ok1 K x u d→Wk K (l++ [x]) t (Zg d)
 | [],t,h,k=>by
  have h':u=t:=h
  subst h'
  exact⟨d,k,rfl⟩
 | y::l,t,h,k=>by
  obtain⟨e,h1,h2⟩:=h
  exact⟨e,h1,Wk.snoc h2 k⟩
theorem Wk.run {all:List Cd} (hx:∀x∈all,oL x) (hu:K.us=dF all):∀ (ys:List Cd) (j:Nat) (t u:jw) (g:Nat),t.s.at_=nD all j→(∃zs,all.drop j=ys++zs)→Wk K ys t u→ru K (g+ys.length) t=ru K g u∧u.s.at_=nD all (j+ys.length)
 | [],j,t,u,g,ha,_,hw=>by
  have h':u=t:=hw
  subst h'
  exact⟨rfl,ha⟩
 | y::ys,j,t,u,g,ha,hz,hw=>by
  obtain⟨zs,hz⟩:=hz
  obtain⟨d,ok,hw⟩:=hw
  have hj:j<all.length:=by
   refine Nat.lt_of_not_le fun h=> ?_
   rw [List.drop_of_length_le h] at hz
   exact absurd hz (by simp)
  rw [List.drop_eq_getElem_cons hj,List.cons_append] at hz
  obtain⟨hy,hd⟩:=List.cons.inj hz
  obtain⟨e1,e2,e3,_⟩:=sW hx j hj
  rw [hy] at e1 e2 e3
  have hs:=(lS (K:=K) (t:=t) (by rw [hu,ha];exact e1) ok.r).2.2 ok.s rfl
  obtain⟨h1,h2⟩:=Wk.run hx hu ys (j+1) (Zg d) u g (by show d.s.at_=_;rw [ok.a,ha,e2];omega) ⟨zs,hd⟩ hw
  refine⟨?_,by rw [h2,List.length_cons];congr 2;omega⟩
  rw [←h1,List.length_cons,show g+(ys.length+1)=(g+ys.length)+1 from rfl,ru,hs]
  rfl
theorem Va {all ys zs:List Cd} {x:Cd} {t u d:jw} {l:Lf} (hx:∀x∈all,oL x) (hu:K.us=dF all) (hxs:all=ys++x::zs) (h0:t.s.at_=0) (hw:Wk K ys t u) (hd:iE K x (iF x u)=(some l,d)) (hs:d.s.stuck=false):ru K ys.length t=some ⟨d.s.c,d.M,l,(nD all ys.length:Nat)⟩:=by
 obtain⟨h1,h2⟩:=Wk.run hx hu ys 0 t u 0 (by rw [h0,Ja];rfl) ⟨x::zs,by rw [List.drop_zero];exact hxs⟩ hw
 rw [Nat.zero_add] at h1 h2
 have hj:ys.length<all.length:=by rw [hxs,List.length_append,List.length_cons];omega
 have hy:all[ys.length]=x:=by
  have:all[ys.length]?=some x:=by rw [hxs,List.getElem?_append_right (Nat.le_refl _),Nat.sub_self];rfl
  rw [List.getElem?_eq_getElem hj] at this
  exact Option.some.inj this
 obtain⟨e1,e2,e3,_⟩:=sW hx ys.length hj
 rw [hy] at e1
 have hq:=(lS (K:=K) (t:=u) (by rw [hu,h2];exact e1) hd).2.1 hs l rfl
 rw [h1,oq 0 hq,h2]
theorem GN {all:List Cd} (hx:∀x∈all,oL x):∀j,j≤all.length→j≤nD all j
 | 0,_=>Nat.zero_le _
 | j+1,h=>by
  have:=GN hx j (by omega)
  obtain⟨_,e2,e3,_⟩:=sW hx j (by omega)
  omega
open Ev (nG qC)
structure Sm (K:Hk) (os:List cZ) (i:Nat) (s:nG) (g:Gm) (t0 t:jw):Prop where
 wk:Wk K g.xs t0 t
 c:t.s.c=s.c
 M:t.M=s.M
 dn:t.s.done=0
 st:t.s.stuck=false
 rg:∀r v:Nat,g.holds r=v→t.s.has r=true∧t.s.reg r=s.v v
 sp:∀v k:Nat,(g.v v).aZ=k→t.s.held k=true∧t.s.lQ k=s.v v
 cn:∀v,v<i→(opAt os v).k=1→s.v v=(opAt os v).kn
variable {K:Hk} {os:List cZ} {R i:Nat} {g g':Gm} {s:nG} {t0 t:jw}
theorem Sm.jM (b:Sm K os i s g t0 t) (hx:g'.xs=g.xs) (hh:∀r v:Nat,g'.holds r=v→g.holds r=v) (hs:∀v k:Nat,(g'.v v).aZ=k→(g.v v).aZ=k):Sm K os i s g' t0 t:=
 ⟨by rw [hx];exact b.wk,b.c,b.M,b.dn,b.st,fun r v h=>b.rg r v (hh r v h),fun v k h=>b.sp v k (hs v k h),b.cn⟩
theorem Sm.lay (a:GI os R i g) (b:Sm K os i s g t0 t) {v r:Nat} (hr:(g.v v).reg=r):∃t',Sm K os i s (g.lay os v) t0 t'∧t'.s.reg=t.s.reg∧t'.s.has=t.s.has:=by
 by_cases hs:iw os g v=true
 ·have hl:g.lay os v=((g.gI v g.sp).iD (g.sp+1)).put (qW (g.v v).reg g.sp):=by unfold Gm.lay;rw [if_pos hs]
  obtain⟨h1,h2⟩:=b.rg r v (a.vh v r hr)
  obtain⟨k,hk⟩:∃k:Nat,g.sp=k:=⟨_,a.sp⟩
  rw [hl,hr,hk]
  refine⟨Zg {iF (qW r k) t with s:={(iF (qW r k) t).s.aA r with lQ:=aO t.s.lQ k (t.s.reg r),held:=aO t.s.held k true}},⟨b.wk.snoc ⟨rfl, ?_,rfl⟩,b.c,b.M,b.dn, ?_,fun r' v' h=>b.rg r' v' h,fun v' k' h=> ?_,b.cn⟩,rfl,rfl⟩
  ·show(t.s.stuck || !t.s.has r)=false
   rw [b.st,h1];rfl
  ·show(t.s.stuck || !t.s.has r)=false
   rw [b.st,h1];rfl
  ·show aO t.s.held k true k'=true∧aO t.s.lQ k (t.s.reg r) k'=s.v v'
   have h':((g.gI v k).v v').aZ=k':=h
   by_cases e:v'=v
   ·subst e
    have qF:k'=k:=by
     have:((g.gI v' k).v v').aZ=k:=by simp [Gm.gI,aO]
     omega
    subst qF
    simp [aO,h2]
   ·have hv:(g.v v').aZ=k':=by
     have:((g.gI v k).v v')=g.v v':=by simp [Gm.gI,aO,e]
     rw [←this];exact h'
    have bV:=(a.vs v').2
    have dU:k'≠k:=by omega
    obtain⟨k1,k2⟩:=b.sp v' k' hv
    simp [aO,dU,k1,k2]
 ·have hl:g.lay os v=g:=by unfold Gm.lay;rw [if_neg hs]
  rw [hl]
  exact⟨t,b,rfl,rfl⟩
theorem Sm.out (a:GI os R i g) (b:Sm K os i s g t0 t) {v r:Nat} (hr:(g.v v).reg=r):∃t',Sm K os i s (g.out os v) t0 t'∧t'.s.reg=t.s.reg∧t'.s.has=t.s.has:=by
 obtain⟨t',b',h1,h2⟩:=b.lay a hr
 refine⟨t',b'.jM rfl (fun r' v' h=> ?_) (fun v' k h=> ?_),h1,h2⟩
 ·have h':aO (g.lay os v).holds (g.v v).reg.toNat (-1) r'=v':=h
  unfold aO at h'
  split at h'
  ·omega
  ·exact h'
 ·by_cases e:v'=v
  ·subst e;simpa [Gm.out,Gm.eF,Gm.eY,aO] using h
  ·simpa [Gm.out,Gm.eF,Gm.eY,aO,e] using h
theorem Sm.jF (a:GI os R i g) (b:Sm K os i s g t0 t) {f:Nat} (hb:(kU g R).1=f):∃t',Sm K os i s (g.jF os R) t0 t'∧t'.s.reg=t.s.reg∧t'.s.has=t.s.has:=by
 unfold Gm.jF
 rw [hb,Int.toNat_natCast]
 by_cases h0:0≤g.holds f
 ·rw [if_pos h0]
  obtain⟨v,hv⟩:∃v:Nat,g.holds f=v:=⟨(g.holds f).toNat,by omega⟩
  rw [hv,Int.toNat_natCast]
  exact b.out a (a.hv f v hv)
 ·rw [if_neg h0];exact⟨t,b,rfl,rfl⟩
def Sets (K:Hk) (x:Cd) (t:jw) (d:Nat) (z:Int):Prop:=∃u,Ok1 K x t u∧u.s.c=t.s.c∧u.M=t.M∧u.s.done=t.s.done∧u.s.reg=aO t.s.reg d z∧u.s.has=aO t.s.has d true∧u.s.lQ=t.s.lQ∧u.s.held=t.s.held
theorem Vb (K:Hk) (t:jw) (r:Nat) (k:Int) (h:t.s.stuck=false):Sets K (JH r k) t r k:=
 ⟨{iF (JH r k) t with s:=(iF (JH r k) t).s.sets r k},⟨rfl,h,rfl⟩,rfl,rfl,rfl,rfl,rfl,rfl,rfl⟩
theorem Px (K:Hk) (t:jw) (r k:Nat) (h:t.s.stuck=false) (hh:t.s.held k=true):Sets K (uG r k) t r (t.s.lQ k):=
 ⟨{iF (uG r k) t with s:=({(iF (uG r k) t).s with stuck:=t.s.stuck || !t.s.held k}:Rm).sets r (t.s.lQ k)},⟨rfl,by show(t.s.stuck || !t.s.held k)=false;rw [h,hh];rfl,rfl⟩,rfl,rfl,rfl,rfl,rfl,rfl,rfl⟩
theorem Sm.set (b:Sm K os i s g t0 t) {x:Cd} {d v:Nat} {z:Int} (hx:Sets K x t d z) {s':nG} {j:Nat} (hc:s'.c=s.c) (hM:s'.M=s.M) (hz:s'.v v=z) (hv:∀w,w≠v→s'.v w=s.v w) (hr:∀r:Nat,r≠d→g.holds r=v→s'.v v=s.v v) (hs:∀k:Nat,(g.v v).aZ=k→s'.v v=s.v v) (Vz:∀w,w<j→(opAt os w).k=1→s'.v w=(opAt os w).kn):∃t',Sm K os j s' ((g.put x).has d v) t0 t':=by
 obtain⟨u,ok,u1,u2,u3,u4,u5,u6,u7⟩:=hx
 refine⟨Zg u,b.wk.snoc ok,u1.trans (b.c.trans hc.symm),u2.trans (b.M.trans hM.symm),u3.trans b.dn,ok.s,fun r w h=> ?_,fun w k h=> ?_,Vz⟩
 ·have h':aO g.holds d (v:Int) r=w:=h
  show u.s.has r=true∧u.s.reg r=s'.v w
  rw [u4,u5]
  by_cases e:r=d
  ·subst e
   have:w=v:=by
    have:aO g.holds r (v:Int) r=v:=by simp [aO]
    omega
   subst this
   simp [aO,hz]
  ·have hg:g.holds r=w:=by simpa [aO,e] using h'
   obtain⟨k1,k2⟩:=b.rg r w hg
   simp only [aO,if_neg e]
   refine⟨k1,k2.trans ?_⟩
   by_cases ew:w=v
   ·subst ew;exact(hr r e hg).symm
   ·exact(hv w ew).symm
 ·show u.s.held k=true∧u.s.lQ k=s'.v w
  rw [u6,u7]
  have hg:(g.v w).aZ=k:=by
   by_cases e:w=v
   ·subst e;simpa [Gm.has,Gm.eF,Gm.eY,Gm.put,aO] using h
   ·simpa [Gm.has,Gm.eF,Gm.eY,Gm.put,aO,e] using h
  obtain⟨k1,k2⟩:=b.sp w k hg
  refine⟨k1,k2.trans ?_⟩
  by_cases ew:w=v
  ·subst ew;exact(hs k hg).symm
  ·exact(hv w ew).symm
theorem Sm.vT (a:GI os R i g) (b:Sm K os i s g t0 t) (hn:os.length≤2048) (hR:R≤16) (hp:∃r,r<R∧g.pin r=false) {v:Nat} (hvi:v<i) (hk:(g.v v).reg<0→(opAt os v).k=1∨0≤(g.v v).aZ):∃t',Sm K os i s (g.vT os R v) t0 t':=by
 unfold Gm.vT
 by_cases hr:(g.v v).reg<0
 ·rw [if_pos hr]
  obtain⟨f,f1,f2,f3,f4⟩:=a.ZM hn hR hp
  rw [f3,Int.toNat_natCast]
  obtain⟨k1,k2,k3,k4,k5,k6,k7⟩:=a.jF hn hR f3 f1
  obtain⟨t1,b1,_,_⟩:=b.jF a f3
  have rV:=(k6 v hr).2
  have main:∃t',Sm K os i s ((g.jF os R).fetch os f v) t0 t':=by
   unfold Gm.fetch
   by_cases hc:(opAt os v).k=1
   ·rw [if_pos hc]
    exact b1.set (v:=v) (Vb K t1 f _ b1.st) rfl rfl (b.cn v hvi hc) (fun _ _=>rfl) (fun _ _ _=>rfl) (fun _ _=>rfl) b.cn
   ·rw [if_neg hc]
    obtain⟨k,qF⟩:∃k:Nat,(g.v v).aZ=k:=⟨(g.v v).aZ.toNat,by have:=(hk hr).resolve_left hc;omega⟩
    rw [rV,qF]
    obtain⟨m1,m2⟩:=b1.sp v k (rV.trans qF)
    exact b1.set (v:=v) (Px K t1 f k b1.st m1) rfl rfl m2.symm (fun _ _=>rfl) (fun _ _ _=>rfl) (fun _ _=>rfl) b.cn
  obtain⟨t2,b2⟩:=main
  exact⟨t2,b2.jM rfl (fun _ _ h=>h) (fun _ _ h=>h)⟩
 ·rw [if_neg hr]
  exact⟨t,b.jM rfl (fun _ _ h=>h) (fun _ _ h=>h)⟩
theorem Sm.ins {g0:Gm} {l:List Int} (a:GI os R i g0) (b:Sm K os i s g0 t0 t) (hp:∀r,g0.pin r=false) (h3:3≤R) (hR:R≤16) (hn:os.length≤2048) (HK:∀t,0≤(opAt os t).kn∧(opAt os t).kn<4294967296) (hl:l.length≤3) (ht:∀x∈l,∃t:Nat,x=t∧t<i∧t<os.length∧(g0.v t).uses≠ []):
  ∀j,j≤l.length→∃t',Sm K os i s (Gm.ins os R (l.take j) g0).2 t0 t'
 | 0,_=>by rw [List.take_zero];exact⟨t,b⟩
 | j+1,hj=>by
  obtain⟨t1,b1⟩:=Sm.ins a b hp h3 hR hn HK hl ht j (by omega)
  have ih:=(yQ a hp h3 hR hn HK hl ht j (by omega)).1
  obtain⟨v,e,h1,h2,h4⟩:=ht (l.getD j 0) (by rw [List.getD_eq_getElem?_getD,List.getElem?_eq_getElem (by omega)];exact List.getElem_mem _)
  rw [jV l j (by omega),vV,e,Int.toNat_natCast]
  refine b1.vT ih.gi hn hR (ih.free (by rw [List.length_take];omega) h3) h1 fun hr=> ?_
  by_cases hc:(opAt os v).k=1
  ·exact .inl hc
  ·refine .inr ((ih.gi.w v h1 hc (by rw [ih.us];exact h4)).resolve_left (by omega))
theorem Py (g:Gm):∀n,(∀r v:Nat,(g.dN n).holds r=v→g.holds r=v)∧∀v,((g.dN n).v v).aZ=(g.v v).aZ
 | 0=>⟨fun _ _ h=>h,fun _=>rfl⟩
 | n+1=>by
  obtain⟨h1,h2⟩:=Py g n
  rw [Gm.dN]
  split
  ·refine⟨fun r v h=>h1 r v ?_,fun v=> ?_⟩
   ·have h':aO (g.dN n).holds n (-1) r=v:=h
    unfold aO at h'
    split at h'
    ·omega
    ·exact h'
   ·rw [←h2 v]
    by_cases e:v=((g.dN n).holds n).toNat
    ·rw [e];simp [Gm.eF,Gm.eY,aO]
    ·simp [Gm.eF,Gm.eY,aO,e]
  ·exact⟨h1,h2⟩
theorem Sm.gU (a:GI os R i g) (b:Sm K os i s g t0 t) (hn:os.length≤2048) (h3:3≤R) (hR:R≤16) (hp:∀r,g.pin r=false):∃t',Sm K os i s (g.gU os R) t0 t'∧t'.s.reg=t.s.reg∧t'.s.has=t.s.has:=by
 obtain⟨a2,p,_⟩:=EF a R
 obtain⟨c1,c2⟩:=Py g R
 have b2:Sm K os i s (g.dN R) t0 t:=b.jM (fK g R) c1 fun v k h=>by rw [←c2 v];exact h
 unfold Gm.gU
 cases emp (g.dN R) 0 R with
 | some d=>exact⟨t,b2,rfl,rfl⟩
 | none=>
  obtain⟨f,f1,f2,f3,f4⟩:=a2.ZM hn hR ⟨0,by omega,by rw [p];exact hp 0⟩
  exact b2.jF a2 f3
open Fl
open Ev (nG qC Ext fD wid ni oD)
variable {K:Hk} {os:List cZ} {R i:Nat} {s:nG} {t:jw} {rs:List Int} {aC:Int}
theorem Zh (T:jw) (w d r0 r1 r2:Int) (h0:0≤w) (h1:w<16):iE K ⟨16+w,d,r0,r1,r2,0,0,0⟩ T=(none,{T with s:=((T.s.aA r0.toNat).aA r1.toNat).sets d.toNat (fD 4 (16+w-16) 0 (T.s.reg r0.toNat) (T.s.reg r1.toNat) 0)}):=by
 unfold iE oP
 dsimp only
 iterate 17 rw [if_neg (by omega)]
 rw [if_pos (by omega)]
theorem ach (T:jw) (w d r0 r1 r2:Int) (h0:0≤w) (h1:w<7):iE K ⟨32+w,d,r0,r1,r2,0,0,0⟩ T=(none,{T with s:=(T.s.aA r0.toNat).sets d.toNat (fD 5 (32+w-32) 0 (T.s.reg r0.toNat) 0 0)}):=by
 unfold iE oP
 dsimp only
 iterate 18 rw [if_neg (by omega)]
 rw [if_pos (by omega)]
theorem Zi (T:jw) (w d r0 r1 r2:Int) (h0:0≤w) (h1:w<13):iE K ⟨48+w,d,r0,r1,r2,0,0,0⟩ T=(none,{T with s:=(((T.s.aA r0.toNat).aA r1.toNat).aA r2.toNat).sets d.toNat (fD 7 (48+w-48) 0 (T.s.reg r0.toNat) (T.s.reg r1.toNat) (T.s.reg r2.toNat))}):=by
 unfold iE oP
 dsimp only
 iterate 19 rw [if_neg (by omega)]
 rw [if_pos (by omega)]
theorem Zj (T:jw) (w d r0 r1 r2:Int) (h0:0≤w) (h1:w<16):iE K ⟨64+w,d,r0,r1,r2,0,0,0⟩ T=(none,{T with s:=(T.s.aA r0.toNat).sets d.toNat (fD 8 (64+w-64) 0 (T.s.reg r0.toNat) 0 0)}):=by
 unfold iE oP
 dsimp only
 iterate 20 rw [if_neg (by omega)]
 rw [if_pos (by omega)]
theorem aci (T:jw) (w d r0 r1 r2 n kn:Int) (h0:0≤w) (h1:w<5):iE K ⟨80+w,d,r0,r1,r2,n,kn,0⟩ T=(CQ (St.qG 5 (cO T.M 1 (T.s.reg r0.toNat) (ni w).toNat) !=0) ⟨3,St.qG 5 (cO T.M 1 (T.s.reg r0.toNat) (ni w).toNat),St.wP (cO T.M 1 (T.s.reg r0.toNat) (ni w).toNat),kn,wrap64 (T.s.done+n)⟩,{T with s:=Jf (St.qG 5 (cO T.M 1 (T.s.reg r0.toNat) (ni w).toNat) !=0) (T.s.aA r0.toNat) ((T.s.aA r0.toNat).sets d.toNat (wid w (nC T.M (T.s.reg r0.toNat) (ni w))))}):=by
 unfold iE oP
 dsimp only
 iterate 21 rw [if_neg (by omega)]
 rw [if_pos (by omega),show 80+w-80=w by omega]
theorem acj (T:jw) (w d r0 n kn:Int) (h0:0≤w) (h1:w<3):iE K ⟨88+w,d,r0,0,0,n,kn,0⟩ T=(CQ (!((T.s.aA r0.toNat).aA d.toNat).stuck&&St.qG 6 (nJ T.M (T.s.reg r0.toNat) (oD w)) !=0) ⟨3,St.qG 6 (nJ T.M (T.s.reg r0.toNat) (oD w)),St.wP (nJ T.M (T.s.reg r0.toNat) (oD w)),kn,wrap64 (T.s.done+n)⟩,{T with s:=(T.s.aA r0.toNat).aA d.toNat,M:=ifM ((T.s.aA r0.toNat).aA d.toNat).stuck T.M (rU T.M (T.s.reg r0.toNat) (oD w) (T.s.reg d.toNat))}):=by
 unfold iE oP
 dsimp only
 iterate 22 rw [if_neg (by omega)]
 rw [show 88+w-88=w by omega]
theorem Zk (T:jw) (d r0 r1 r2:Int):iE K ⟨5,d,r0,r1,r2,0,0,0⟩ T=(none,{T with s:=(((T.s.aA r0.toNat).aA r1.toNat).aA r2.toNat).sets d.toNat (fD 6 0 0 (T.s.reg r0.toNat) (T.s.reg r1.toNat) (T.s.reg r2.toNat))}):=rfl
def Tkn (rs l:List Int) (s:nG) (t:jw):Prop:=∀k,k<l.length→t.s.has (rs.getD k 0).toNat=true∧t.s.reg (rs.getD k 0).toNat=s.get (l.getD k 0)
theorem EX {o:cZ} (c:Gg os aC i o) (hg:gv o.k=true) (h1:o.k≠1) (h9:o.k≠9) (hc:t.s.c=s.c) (hs:t.s.stuck=false) (T:Tkn rs (tk o) s t) (d:Nat):∃z,qC o s i=(s.set i z,none)∧Sets K (qo o d (rs.getD 0 0) (rs.getD 1 0) (rs.getD 2 0)) t d z:=by
 obtain⟨k,w,a,b,cc,kn,n⟩:=o
 have cw:=c.w
 dsimp only at cw h1 h9 hg
 unfold gv at hg
 rw [decide_eq_true_eq] at hg
 have lW:=cw.1
 have hk:k=2∨k=17∨k=4∨k=5∨k=6∨k=7∨k=8:=by clear cw;omega
 clear c hg h1 h9
 rcases hk with rfl | rfl | rfl | rfl | rfl | rfl | rfl
 ·exact⟨_,rfl,⟨{iF _ t with s:=(iF _ t).s.sets d (s.c w.toNat)},⟨by rw [←hc];rfl,hs,rfl⟩,rfl,rfl,rfl,rfl,rfl,rfl,rfl⟩⟩
 ·exact⟨_,rfl,⟨{iF _ t with s:=(iF _ t).s.sets d (fl (s.c 8) (s.c 9) (s.c 10) (s.c 11))},⟨by rw [←hc];rfl,hs,rfl⟩,rfl,rfl,rfl,rfl,rfl,rfl,rfl⟩⟩
 ·have hw:=cw.2.2.1 (.inl rfl)
  obtain⟨g0,v0⟩:=T 0 (show(0:Nat) <2 by decide)
  obtain⟨g1,v1⟩:=T 1 (show(1:Nat) <2 by decide)
  refine⟨_, ?_,⟨_,⟨Zh _ _ _ _ _ _ lW hw, ?_,rfl⟩,rfl,rfl,rfl,rfl,rfl,rfl,rfl⟩⟩
  ·rw [show(iF (qo ⟨4,w,a,b,cc,kn,n⟩ d (rs.getD 0 0) (rs.getD 1 0) (rs.getD 2 0)) t).s.reg (rs.getD 0 0).toNat=s.get a from v0,show(iF (qo ⟨4,w,a,b,cc,kn,n⟩ d (rs.getD 0 0) (rs.getD 1 0) (rs.getD 2 0)) t).s.reg (rs.getD 1 0).toNat=s.get b from v1]
   rw [show 16+w-16=w by omega]
   rfl
  ·show((t.s.stuck || !t.s.has (rs.getD 0 0).toNat) || !t.s.has (rs.getD 1 0).toNat)=false
   rw [hs,g0,g1];rfl
 ·have hw:=cw.2.2.2.1 rfl
  obtain⟨g0,v0⟩:=T 0 (show(0:Nat) <1 by decide)
  refine⟨_, ?_,⟨_,⟨ach _ _ _ _ _ _ lW hw, ?_,rfl⟩,rfl,rfl,rfl,rfl,rfl,rfl,rfl⟩⟩
  ·rw [show(iF (qo ⟨5,w,a,b,cc,kn,n⟩ d (rs.getD 0 0) (rs.getD 1 0) (rs.getD 2 0)) t).s.reg (rs.getD 0 0).toNat=s.get a from v0]
   rw [show 32+w-32=w by omega]
   rfl
  ·show(t.s.stuck || !t.s.has (rs.getD 0 0).toNat)=false
   rw [hs,g0];rfl
 ·skip
  obtain⟨g0,v0⟩:=T 0 (show(0:Nat) <3 by decide)
  obtain⟨g1,v1⟩:=T 1 (show(1:Nat) <3 by decide)
  obtain⟨g2,v2⟩:=T 2 (show(2:Nat) <3 by decide)
  refine⟨_, ?_,⟨_,⟨Zk _ _ _ _ _, ?_,rfl⟩,rfl,rfl,rfl,rfl,rfl,rfl,rfl⟩⟩
  ·rw [show(iF (qo ⟨6,w,a,b,cc,kn,n⟩ d (rs.getD 0 0) (rs.getD 1 0) (rs.getD 2 0)) t).s.reg (rs.getD 0 0).toNat=s.get a from v0,show(iF (qo ⟨6,w,a,b,cc,kn,n⟩ d (rs.getD 0 0) (rs.getD 1 0) (rs.getD 2 0)) t).s.reg (rs.getD 1 0).toNat=s.get b from v1,show(iF (qo ⟨6,w,a,b,cc,kn,n⟩ d (rs.getD 0 0) (rs.getD 1 0) (rs.getD 2 0)) t).s.reg (rs.getD 2 0).toNat=s.get cc from v2]
   rfl
  ·show(((t.s.stuck || !t.s.has (rs.getD 0 0).toNat) || !t.s.has (rs.getD 1 0).toNat) || !t.s.has (rs.getD 2 0).toNat)=false
   rw [hs,g0,g1,g2];rfl
 ·have hw:=cw.2.2.2.2.1 rfl
  obtain⟨g0,v0⟩:=T 0 (show(0:Nat) <3 by decide)
  obtain⟨g1,v1⟩:=T 1 (show(1:Nat) <3 by decide)
  obtain⟨g2,v2⟩:=T 2 (show(2:Nat) <3 by decide)
  refine⟨_, ?_,⟨_,⟨Zi _ _ _ _ _ _ lW hw, ?_,rfl⟩,rfl,rfl,rfl,rfl,rfl,rfl,rfl⟩⟩
  ·rw [show(iF (qo ⟨7,w,a,b,cc,kn,n⟩ d (rs.getD 0 0) (rs.getD 1 0) (rs.getD 2 0)) t).s.reg (rs.getD 0 0).toNat=s.get a from v0,show(iF (qo ⟨7,w,a,b,cc,kn,n⟩ d (rs.getD 0 0) (rs.getD 1 0) (rs.getD 2 0)) t).s.reg (rs.getD 1 0).toNat=s.get b from v1,show(iF (qo ⟨7,w,a,b,cc,kn,n⟩ d (rs.getD 0 0) (rs.getD 1 0) (rs.getD 2 0)) t).s.reg (rs.getD 2 0).toNat=s.get cc from v2]
   rw [show 48+w-48=w by omega]
   rfl
  ·show(((t.s.stuck || !t.s.has (rs.getD 0 0).toNat) || !t.s.has (rs.getD 1 0).toNat) || !t.s.has (rs.getD 2 0).toNat)=false
   rw [hs,g0,g1,g2];rfl
 ·have hw:=cw.2.2.1 (.inr rfl)
  obtain⟨g0,v0⟩:=T 0 (show(0:Nat) <1 by decide)
  refine⟨_, ?_,⟨_,⟨Zj _ _ _ _ _ _ lW hw, ?_,rfl⟩,rfl,rfl,rfl,rfl,rfl,rfl,rfl⟩⟩
  ·rw [show(iF (qo ⟨8,w,a,b,cc,kn,n⟩ d (rs.getD 0 0) (rs.getD 1 0) (rs.getD 2 0)) t).s.reg (rs.getD 0 0).toNat=s.get a from v0]
   rw [show 64+w-64=w by omega]
   rfl
  ·show(t.s.stuck || !t.s.has (rs.getD 0 0).toNat)=false
   rw [hs,g0];rfl
def Ends (K:Hk) (x:Cd) (t:jw) (s':nG) (l:Lf):Prop:=∃u,iE K x (iF x t)=(some l,u)∧u.s.stuck=false∧u.s.c=s'.c∧u.M=s'.M
def afm (K:Hk) (x:Cd) (t:jw) (s':nG):Prop:=∃u,Ok1 K x t u∧u.s.c=s'.c∧u.M=s'.M∧u.s.done=t.s.done∧u.s.reg=t.s.reg∧u.s.has=t.s.has∧u.s.lQ=t.s.lQ∧u.s.held=t.s.held
def ZW (o:cZ) (e:Ext):Lf:=⟨if o.k=16 then 2 else if e.k=0 then 1 else 3,e.k,e.x,e.pc,e.n⟩
def GR (K:Hk) (x:Cd) (t:jw) (o:cZ) (s:nG) (r:nG×Option Ext):Prop:=match r with
 | (s',none)=>s'.v=s.v∧afm K x t s'
 | (s',some e)=>Ends K x t s' (ZW o e)
theorem aco {n:Int} (h0:0≤n) (h1:n≤64) (hd:t.s.done=0):wrap64 (t.s.done+n)=n:=by
 rw [hd,Int.zero_add]
 exact Go.IntWalk.wrap64_in _ (by omega)
theorem Vd {o:cZ} (c:Gg os aC i o) (hk:o.k=9) (Vz:aC≤64) (hc:t.s.c=s.c) (hM:t.M=s.M) (hd:t.s.done=0) (hs:t.s.stuck=false) (T:Tkn rs (tk o) s t) (d:Nat):(∃z,qC o s i=(s.set i z,none)∧Sets K (qo o d (rs.getD 0 0) (rs.getD 1 0) (rs.getD 2 0)) t d z)∨∃z e,qC o s i=(s.set i z,some e)∧Ends K (qo o d (rs.getD 0 0) (rs.getD 1 0) (rs.getD 2 0)) t s (ZW o e):=by
 obtain⟨k,w,a,b,cc,kn,n⟩:=o
 have cw:=c.w
 have cn:=c.n
 dsimp only at cw cn hk
 subst hk
 have lW:=cw.1
 have hw:w<5:=cw.2.2.2.2.2.1 rfl
 have Ve:=aco (t:=t) cn.1 (by omega) hd
 obtain⟨g0,v0⟩:=T 0 (show(0:Nat) <1 by decide)
 have v0':t.s.reg (rs.getD 0 0).toNat=s.get a:=v0
 have e:iE K (qo ⟨9,w,a,b,cc,kn,n⟩ d (rs.getD 0 0) (rs.getD 1 0) (rs.getD 2 0)) (iF (qo ⟨9,w,a,b,cc,kn,n⟩ d (rs.getD 0 0) (rs.getD 1 0) (rs.getD 2 0)) t)=_:=aci _ _ _ _ _ _ _ _ lW hw
 generalize hx:qo ⟨9,w,a,b,cc,kn,n⟩ d (rs.getD 0 0) (rs.getD 1 0) (rs.getD 2 0)=x at e⊢
 rw [show(iF x t).M=s.M from hM,show(iF x t).s.reg (rs.getD 0 0).toNat=s.get a from v0',show(iF x t).s.done=t.s.done from rfl,Ve] at e
 have eo:qC ⟨9,w,a,b,cc,kn,n⟩ s i=(match cO s.M 1 (s.get a) (ni w).toNat with
  | none=>(s.set i (wid w (nC s.M (s.get a) (ni w))),none)
  | some x=>(s.set i (wid w 0),some ⟨5,x,kn,n⟩)):=rfl
 have gZ:(t.s.stuck || !t.s.has (rs.getD 0 0).toNat)=false:=by rw [hs,g0];rfl
 rw [eo]
 cases hq:cO s.M 1 (s.get a) (ni w).toNat with
 | none=>
  rw [hq] at e
  exact .inl ⟨_,rfl,⟨_,⟨e,gZ,by subst hx;rfl⟩,rfl,hM.symm,rfl,rfl,rfl,rfl,rfl⟩⟩
 | some y=>
  rw [hq] at e
  exact .inr ⟨_,_,rfl,⟨_,e,gZ,hc,rfl⟩⟩
theorem Pz {M:MM} {a n v y:Int} (h:nJ M a n=some y):rU M a n v=M:=by
 unfold nJ at h
 unfold rU
 by_cases hn:n=1∨n=2∨n=4
 ·rw [if_pos hn] at h
  rw [if_pos hn,h]
  rfl
 ·rw [if_neg hn]
theorem acp {o:cZ} (c:Gg os aC i o) (hg:gv o.k=false) (Vz:aC≤64) (ht0:K.gJ= []) (hc:t.s.c=s.c) (hM:t.M=s.M) (hd:t.s.done=0) (hs:t.s.stuck=false) (T:Tkn rs (tk o) s t):GR K (jc o (rs.getD 0 0) (rs.getD 1 0)) t o s (qC o s i):=by
 obtain⟨k,w,a,b,cc,kn,n⟩:=o
 have cw:=c.w
 have cn:=c.n
 have ck:=c.k
 have BI:=c.kn
 dsimp only at cw cn ck hg BI
 unfold gv at hg
 rw [decide_eq_false_iff_not] at hg
 have lW:=cw.1
 have Ve:=aco (t:=t) cn.1 (by omega) hd
 have hk:k=3∨k=10∨k=11∨k=12∨k=13∨k=14∨k=15∨k=16:=by clear cw BI;omega
 rcases hk with rfl | rfl | rfl | rfl | rfl | rfl | rfl | rfl
 ·skip
  obtain⟨g0,v0⟩:=T 0 (show(0:Nat) <1 by decide)
  have v0:t.s.reg (rs.getD 0 0).toNat=s.get a:=v0
  have gZ:(t.s.stuck || !t.s.has (rs.getD 0 0).toNat)=false:=by rw [hs,g0];rfl
  refine⟨rfl,⟨{iF (jc ⟨3,w,a,b,cc,kn,n⟩ (rs.getD 0 0) (rs.getD 1 0)) t with s:={(iF (jc ⟨3,w,a,b,cc,kn,n⟩ (rs.getD 0 0) (rs.getD 1 0)) t).s.aA (rs.getD 0 0).toNat with c:=aO t.s.c w.toNat (t.s.reg (rs.getD 0 0).toNat)}},⟨?_,gZ,rfl⟩, ?_,hM,rfl,rfl,rfl,rfl,rfl⟩⟩
  ·show(none,_)=(none,_)
   congr 1
   show({iF _ t with s:=if(t.s.stuck || !t.s.has (rs.getD 0 0).toNat)=true then _ else _}:jw)=_
   rw [gZ,if_neg (by decide)]
   rfl
  ·show aO t.s.c w.toNat (t.s.reg (rs.getD 0 0).toNat)=aO s.c w.toNat (s.get a)
   rw [hc,v0]
 ·have hw:w<3:=cw.2.2.2.2.2.2.1 rfl
  obtain⟨g0,v0⟩:=T 0 (show(0:Nat) <2 by decide)
  obtain⟨g1,v1⟩:=T 1 (show(1:Nat) <2 by decide)
  have v0:t.s.reg (rs.getD 0 0).toNat=s.get a:=v0
  have v1:t.s.reg (rs.getD 1 0).toNat=s.get b:=v1
  have e:iE K (jc ⟨10,w,a,b,cc,kn,n⟩ (rs.getD 0 0) (rs.getD 1 0)) (iF (jc ⟨10,w,a,b,cc,kn,n⟩ (rs.getD 0 0) (rs.getD 1 0)) t)=_:=acj _ _ _ _ _ _ lW hw
  generalize hx:jc ⟨10,w,a,b,cc,kn,n⟩ (rs.getD 0 0) (rs.getD 1 0)=x at e⊢
  have gZ:(((iF x t).s.aA (rs.getD 0 0).toNat).aA (rs.getD 1 0).toNat).stuck=false:=by show((t.s.stuck || !t.s.has (rs.getD 0 0).toNat) || !t.s.has (rs.getD 1 0).toNat)=false;rw [hs,g0,g1];rfl
  rw [show(iF x t).M=s.M from hM,show(iF x t).s.reg (rs.getD 0 0).toNat=s.get a from v0,show(iF x t).s.reg (rs.getD 1 0).toNat=s.get b from v1,show(iF x t).s.done=t.s.done from rfl,Ve,gZ] at e
  have eo:qC ⟨10,w,a,b,cc,kn,n⟩ s i=(match nJ s.M (s.get a) (oD w) with
   | none=>({s with M:=rU s.M (s.get a) (oD w) (s.get b)},none)
   | some x=>(s,some ⟨6,x,kn,n⟩)):=rfl
  rw [eo]
  cases hq:nJ s.M (s.get a) (oD w) with
  | none=>
   rw [hq] at e
   exact⟨rfl,⟨_,⟨e,gZ,rfl⟩,hc,rfl,rfl,rfl,rfl,rfl,rfl⟩⟩
  | some y=>
   rw [hq] at e
   refine⟨_,e,gZ,hc, ?_⟩
   show rU s.M (s.get a) (oD w) (s.get b)=s.M
   exact Pz hq
 ·have e:iE K (jc ⟨11,w,a,b,cc,kn,n⟩ (rs.getD 0 0) (rs.getD 1 0)) (iF (jc ⟨11,w,a,b,cc,kn,n⟩ (rs.getD 0 0) (rs.getD 1 0)) t)=(CQ (nM t.M.hi) ⟨1,0,0,kn,wrap64 (t.s.done+n)⟩,_):=rfl
  generalize hx:jc ⟨11,w,a,b,cc,kn,n⟩ (rs.getD 0 0) (rs.getD 1 0)=x at e⊢
  rw [hM,Ve] at e
  show GR K x t _ s (s,if nM s.M.hi then some ⟨0,0,kn,n⟩ else none)
  cases hq:nM s.M.hi with
  | true=>rw [hq] at e;exact⟨_,e,hs,hc,hM⟩
  | false=>rw [hq] at e;exact⟨rfl,⟨_,⟨e,hs,by subst hx;rfl⟩,hc,hM,rfl,rfl,rfl,rfl,rfl⟩⟩
 ·skip
  obtain⟨g0,v0⟩:=T 0 (show(0:Nat) <1 by decide)
  have v0:t.s.reg (rs.getD 0 0).toNat=s.get a:=v0
  have gZ:(t.s.stuck || !t.s.has (rs.getD 0 0).toNat)=false:=by rw [hs,g0];rfl
  have e:iE K (jc ⟨12,w,a,b,cc,kn,n⟩ (rs.getD 0 0) (rs.getD 1 0)) (iF (jc ⟨12,w,a,b,cc,kn,n⟩ (rs.getD 0 0) (rs.getD 1 0)) t)=(CQ (t.s.reg (rs.getD 0 0).toNat !=0) ⟨1,0,0,kn,wrap64 (t.s.done+n)⟩,{iF (jc ⟨12,w,a,b,cc,kn,n⟩ (rs.getD 0 0) (rs.getD 1 0)) t with s:=(iF (jc ⟨12,w,a,b,cc,kn,n⟩ (rs.getD 0 0) (rs.getD 1 0)) t).s.aA (rs.getD 0 0).toNat}):=rfl
  generalize hx:jc ⟨12,w,a,b,cc,kn,n⟩ (rs.getD 0 0) (rs.getD 1 0)=x at e⊢
  rw [v0,Ve] at e
  show GR K x t _ s (s,if s.get a=0 then none else some ⟨0,0,kn,n⟩)
  by_cases hq:s.get a=0
  ·rw [if_pos hq]
   rw [hq] at e
   exact⟨rfl,⟨_,⟨e,gZ,by subst hx;rfl⟩,hc,hM,rfl,rfl,rfl,rfl,rfl⟩⟩
  ·rw [if_neg hq]
   rw [bne_iff_ne.2 hq] at e
   refine⟨{iF x t with s:=(iF x t).s.aA (rs.getD 0 0).toNat},e.trans ?_,gZ,hc,hM⟩
   rfl
 ·skip
  obtain⟨g0,v0⟩:=T 0 (show(0:Nat) <1 by decide)
  have v0:t.s.reg (rs.getD 0 0).toNat=s.get a:=v0
  have gZ:(t.s.stuck || !t.s.has (rs.getD 0 0).toNat)=false:=by rw [hs,g0];rfl
  have e:iE K (jc ⟨13,w,a,b,cc,kn,n⟩ (rs.getD 0 0) (rs.getD 1 0)) (iF (jc ⟨13,w,a,b,cc,kn,n⟩ (rs.getD 0 0) (rs.getD 1 0)) t)=(CQ (t.s.reg (rs.getD 0 0).toNat !=0) ⟨3,w,0,kn,wrap64 (t.s.done+n)⟩,{iF (jc ⟨13,w,a,b,cc,kn,n⟩ (rs.getD 0 0) (rs.getD 1 0)) t with s:=(iF (jc ⟨13,w,a,b,cc,kn,n⟩ (rs.getD 0 0) (rs.getD 1 0)) t).s.aA (rs.getD 0 0).toNat}):=rfl
  generalize hx:jc ⟨13,w,a,b,cc,kn,n⟩ (rs.getD 0 0) (rs.getD 1 0)=x at e⊢
  rw [v0,Ve] at e
  show GR K x t _ s (s,if s.get a=0 then none else some ⟨w,0,kn,n⟩)
  by_cases hq:s.get a=0
  ·rw [if_pos hq]
   rw [hq] at e
   exact⟨rfl,⟨_,⟨e,gZ,by subst hx;rfl⟩,hc,hM,rfl,rfl,rfl,rfl,rfl⟩⟩
  ·rw [if_neg hq]
   rw [bne_iff_ne.2 hq] at e
   refine⟨{iF x t with s:=(iF x t).s.aA (rs.getD 0 0).toNat},e.trans ?_,gZ,hc,hM⟩
   have hw:=cw.2.2.2.2.2.2.2.1 (.inl rfl)
   show(some _,_)=(some (Lf.mk (if(13:Int)=16 then 2 else if w=0 then 1 else 3) w 0 kn n),_)
   rw [if_neg (by decide),if_neg (by omega)]
 ·have e:iE K (jc ⟨14,w,a,b,cc,kn,n⟩ (rs.getD 0 0) (rs.getD 1 0)) (iF (jc ⟨14,w,a,b,cc,kn,n⟩ (rs.getD 0 0) (rs.getD 1 0)) t)=(some ⟨3,w,b%4294967296,kn,wrap64 (t.s.done+n)⟩,_):=rfl
  rw [Ve] at e
  refine⟨iF (jc ⟨14,w,a,b,cc,kn,n⟩ (rs.getD 0 0) (rs.getD 1 0)) t,e.trans ?_,hs,hc,hM⟩
  have hw:=cw.2.2.2.2.2.2.2.1 (.inr rfl)
  show(some _,_)=(some (Lf.mk (if(14:Int)=16 then 2 else if w=0 then 1 else 3) w (b%4294967296) kn n),_)
  rw [if_neg (by decide),if_neg (by omega)]
 ·have e:iE K (jc ⟨15,w,a,b,cc,kn,n⟩ (rs.getD 0 0) (rs.getD 1 0)) (iF (jc ⟨15,w,a,b,cc,kn,n⟩ (rs.getD 0 0) (rs.getD 1 0)) t)=(some ⟨1,0,0,kn,wrap64 (t.s.done+n)⟩,_):=rfl
  rw [Ve] at e
  exact⟨_,e,hs,hc,hM⟩
 ·skip
  obtain⟨g0,v0⟩:=T 0 (show(0:Nat) <1 by decide)
  have v0:t.s.reg (rs.getD 0 0).toNat=s.get a:=v0
  have gZ:(t.s.stuck || !t.s.has (rs.getD 0 0).toNat)=false:=by rw [hs,g0];rfl
  have hl:zB K (iF (jc ⟨16,w,a,b,cc,kn,n⟩ (rs.getD 0 0) (rs.getD 1 0)) t).s (rs.getD 0 0).toNat=none:=by unfold zB;rw [ht0];rfl
  have e:iE K (jc ⟨16,w,a,b,cc,kn,n⟩ (rs.getD 0 0) (rs.getD 1 0)) (iF (jc ⟨16,w,a,b,cc,kn,n⟩ (rs.getD 0 0) (rs.getD 1 0)) t)=(wU K (iF (jc ⟨16,w,a,b,cc,kn,n⟩ (rs.getD 0 0) (rs.getD 1 0)) t).s (rs.getD 0 0).toNat n,{iF (jc ⟨16,w,a,b,cc,kn,n⟩ (rs.getD 0 0) (rs.getD 1 0)) t with s:=wu K (iF (jc ⟨16,w,a,b,cc,kn,n⟩ (rs.getD 0 0) (rs.getD 1 0)) t).s (rs.getD 0 0).toNat n}):=rfl
  unfold wU wu at e
  rw [hl] at e
  dsimp only at e
  rw [show(iF (jc ⟨16,w,a,b,cc,kn,n⟩ (rs.getD 0 0) (rs.getD 1 0)) t).s.reg (rs.getD 0 0).toNat=s.get a from v0,show(iF (jc ⟨16,w,a,b,cc,kn,n⟩ (rs.getD 0 0) (rs.getD 1 0)) t).s.done=t.s.done from rfl,Ve] at e
  exact⟨_,e,gZ,hc,hM⟩
open Ev (nG qC Ext fD wid ni oD qE)
variable {K:Hk} {os:List cZ} {R i:Nat} {g:Gm} {s:nG} {t0 t:jw} {aC:Int}
theorem PD {o:cZ} (h:o.k=1):qC o s i=(s.set i o.kn,none):=by
 obtain⟨k,w,a,b,cc,kn,n⟩:=o
 dsimp only at h
 subst h
 rfl
theorem PE {o:cZ} (h:14≤o.k∧o.k≤16):∃e,qC o s i=(s,some e):=by
 obtain⟨k,w,a,b,cc,kn,n⟩:=o
 dsimp only at h
 rcases(show k=14∨k=15∨k=16 by omega) with rfl | rfl | rfl
 ·exact⟨_,rfl⟩
 ·exact⟨_,rfl⟩
 ·exact⟨_,rfl⟩
theorem Wj (s:nG) (i:Nat) (z:Int):(s.set i z).v i=z∧∀w,w≠i→(s.set i z).v w=s.v w:=by
 refine⟨?_,fun w h=> ?_⟩
 ·show aO s.v i z i=z
  unfold aO;rw [if_pos rfl]
 ·show aO s.v i z w=s.v w
  unfold aO;rw [if_neg h]
theorem acr {k:Int} (h:rF k=true):14≤k∧k≤16:=by
 unfold rF at h
 split at h<;>first | omega | exact absurd h (by decide)
theorem Sm.afn (a:GI os R i g) (b:Sm K os i s g t0 t) {z:Int} (hz:(opAt os i).k=1→z=(opAt os i).kn):Sm K os (i+1) (s.set i z) g t0 t:=by
 obtain⟨s1,s2⟩:=Wj s i z
 refine⟨b.wk,b.c,b.M,b.dn,b.st,fun r v h=> ?_,fun v k h=> ?_,fun w h hk=> ?_⟩
 ·have dU:v≠i:=fun e=>by
   subst e
   have h1:=a.hv r v h
   have h2:=(a.F9 v (Nat.le_refl _)).1
   omega
  rw [s2 v dU];exact b.rg r v h
 ·have dU:v≠i:=fun e=>by
   subst e
   have h2:=(a.F9 v (Nat.le_refl _)).2
   omega
  rw [s2 v dU];exact b.sp v k h
 ·by_cases e:w=i
  ·subst e;rw [s1];exact hz hk
  ·rw [s2 w e];exact b.cn w (by omega) hk
theorem Vf (HC:∀j,j<os.length→Gg os aC j (opAt os j)) (hc:aC≤64) (h3:3≤R) (hR:R≤16) (hn:os.length≤2048) (HK:∀t,0≤(opAt os t).kn∧(opAt os t).kn<4294967296) (Jp:K.gJ= []) (hi:i<os.length) (a:At os R i g) (b:Sm K os i s g t0 t):
  (∀s',qC (opAt os i) s i=(s',none)→∃t',Sm K os (i+1) s' (g.one os R i (opAt os i)) t0 t')∧∀s' e,qC (opAt os i) s i=(s',some e)→∃ys x u,(g.one os R i (opAt os i)).xs=ys++ [x]∧Wk K ys t0 u∧Ends K x u s' (ZW (opAt os i) e):=by
 have C:=HC i hi
 obtain⟨o,ho⟩:∃o,opAt os i=o:=⟨_,rfl⟩
 have g0:GI os R i g.au:=a.gi.of rfl rfl rfl
 have u0:∀t,(g.au.v t).uses=Gs os i t:=a.us
 have hl:=sV o
 have ht:∀x∈tk o,∃t:Nat,x=t∧t<i∧t<os.length∧(g.au.v t).uses≠ []:=fun x hx=>by
  obtain⟨h1,h2,_⟩:=C.t x (by rw [ho];exact hx)
  obtain⟨t,rfl⟩:=Int.eq_ofNat_of_zero_le h1
  refine⟨t,rfl,by omega,by omega, ?_⟩
  rw [u0,qY hi,ho]
  exact yc hx
 have IL:=(yQ g0 (fun _=>rfl) h3 hR hn HK hl ht (tk o).length (Nat.le_refl _)).1
 have b0:Sm K os i s g.au t0 t:=b.jM rfl (fun _ _ h=>h) (fun _ _ h=>h)
 obtain⟨t1,b1⟩:=b0.ins g0 (fun _=>rfl) h3 hR hn HK hl ht (tk o).length (Nat.le_refl _)
 rw [List.take_length] at IL b1
 obtain⟨U,uu⟩:=yR (i:=i) (Gs os (i+1)) (tk o) (Gm.ins os R (tk o) g.au).2 IL.gi (fun x hx=>by obtain⟨t,e,_⟩:=ht x hx;omega) (fun t=>by rw [IL.us,u0,qY hi,ho])
 have T:Tkn (Gm.ins os R (tk o) g.au).1 (tk o) s t1:=fun k hk=>by
  obtain⟨r,e,h1,h2,_⟩:=IL.at_ k hk
  obtain⟨v,hv,_⟩:=ht ((tk o).getD k 0) (by rw [List.getD_eq_getElem?_getD,List.getElem?_eq_getElem hk];exact List.getElem_mem _)
  rw [hv] at h2⊢
  rw [e]
  exact b1.rg r v h2
 have b2:Sm K os i s ((Gm.ins os R (tk o) g.au).2.used i (tk o)) t0 t1:=b1.jM U.xs (fun r v h=>by rw [←U.h];exact h) (fun v k h=>by rw [←(U.rs v).2];exact h)
 generalize hrs:(Gm.ins os R (tk o) g.au).1=rs at*
 generalize hgu:(Gm.ins os R (tk o) g.au).2.used i (tk o)=gu at*
 have hgi:=U.gi
 clear U uu IL b1
 rw [ho] at C⊢
 by_cases hg:gv o.k=true
 ·by_cases hk:o.k=1
  ·have eo:g.one os R i o=gu:=by
    unfold Gm.one
    dsimp only
    rw [if_pos hg]
    unfold Gm.give
    rw [if_pos hk,hgu]
   rw [PD hk,eo]
   refine⟨fun s' h=> ?_,fun s' e h=>nomatch (congrArg Prod.snd h)⟩
   obtain rfl:=congrArg Prod.fst h
   exact⟨t1,b2.afn hgi fun _=>by rw [ho]⟩
  ·obtain⟨d,p1,p2,p3,_⟩:=BH (g:=gu.au) (hgi.of rfl rfl rfl) hn h3 hR (fun _=>rfl)
   have eo:g.one os R i o=((gu.au.gU os R).put (qo o d (rs.getD 0 0) (rs.getD 1 0) (rs.getD 2 0))).has d i:=by
    unfold Gm.one
    dsimp only
    rw [if_pos hg]
    unfold Gm.give
    rw [if_neg hk,hgu,hrs,p1,Int.toNat_natCast]
   obtain⟨t2,b3,e1,e2⟩:=Sm.gU (g:=gu.au) (hgi.of rfl rfl rfl) (b2.jM rfl (fun _ _ h=>h) (fun _ _ h=>h)) hn h3 hR (fun _=>rfl)
   have T2:Tkn rs (tk o) s t2:=fun k hk=>by rw [e1,e2];exact T k hk
   have fin:∀z,Sets K (qo o d (rs.getD 0 0) (rs.getD 1 0) (rs.getD 2 0)) t2 d z→∃t',Sm K os (i+1) (s.set i z) (((gu.au.gU os R).put (qo o d (rs.getD 0 0) (rs.getD 1 0) (rs.getD 2 0))).has d i) t0 t':=fun z hz=>by
    obtain⟨s1,s2⟩:=Wj s i z
    refine b3.set (v:=i) hz rfl rfl s1 s2 (fun r _ h=> ?_) (fun k h=> ?_) (fun w h qF=> ?_)
    ·have h1:=p3.hv r i h
     have h2:=(p3.F9 i (Nat.le_refl _)).1
     omega
    ·have h2:=(p3.F9 i (Nat.le_refl _)).2
     omega
    ·by_cases e:w=i
     ·subst e;rw [ho] at qF;exact absurd qF hk
     ·rw [s2 w e];exact b3.cn w (by omega) qF
   rw [eo]
   by_cases h9:o.k=9
   ·rcases Vd (K:=K) C h9 hc b3.c b3.M b3.dn b3.st T2 d with⟨z,q1,q2⟩ | ⟨z,e,q1,q2⟩
    ·rw [q1]
     refine⟨fun s' h=> ?_,fun s' e h=>nomatch (congrArg Prod.snd h)⟩
     obtain rfl:=congrArg Prod.fst h
     exact fin z q2
    ·rw [q1]
     refine⟨fun s' h=>(nomatch (congrArg Prod.snd h)),fun s' e' h=> ?_⟩
     obtain rfl:=congrArg Prod.fst h
     obtain rfl:=Option.some.inj (congrArg Prod.snd h)
     exact⟨_,_,t2,rfl,b3.wk,q2⟩
   ·obtain⟨z,q1,q2⟩:=EX (K:=K) C hg hk h9 b3.c b3.st T2 d
    rw [q1]
    refine⟨fun s' h=> ?_,fun s' e h=>nomatch (congrArg Prod.snd h)⟩
    obtain rfl:=congrArg Prod.fst h
    exact fin z q2
 ·have Ue:gv o.k=false:=by simpa using hg
  have eo:g.one os R i o=gu.put (jc o (rs.getD 0 0) (rs.getD 1 0)):=by
   unfold Gm.one
   dsimp only
   rw [if_neg hg,hgu,hrs]
  have B:=acp (K:=K) C Ue hc Jp b2.c b2.M b2.dn b2.st T
  rw [eo]
  refine⟨fun s' h=> ?_,fun s' e h=> ?_⟩
  ·rw [h] at B
   obtain⟨hv,u,ok,u1,u2,u3,u4,u5,u6,u7⟩:=B
   refine⟨Zg u,b2.wk.snoc ok,u1,u2,u3.trans b2.dn,ok.s,fun r v h=> ?_,fun v k h=> ?_,fun w h hk=> ?_⟩
   ·show u.s.has r=true∧u.s.reg r=s'.v v
    rw [u4,u5,hv];exact b2.rg r v h
   ·show u.s.held k=true∧u.s.lQ k=s'.v v
    rw [u6,u7,hv];exact b2.sp v k h
   ·rw [hv]
    by_cases e:w=i
    ·subst e
     rw [ho] at hk
     rw [hk] at Ue
     exact absurd Ue (by decide)
    ·exact b2.cn w (by omega) hk
  ·rw [h] at B
   exact⟨_,_,t1,rfl,b2.wk,B⟩
theorem GX (HC:∀j,j<os.length→Gg os aC j (opAt os j)) (BJ:0≤aC) (hc:aC≤64) (h3:3≤R) (hR:R≤16) (hn:os.length≤2048) (HK:∀t,0≤(opAt os t).kn∧(opAt os t).kn<4294967296) (pc:Int) (i:Nat):∀m,i+m≤os.length→∃zs,(Gm.all os R (uH os pc aC) (i+m)).xs=(Gm.all os R (uH os pc aC) i).xs++zs
 | 0,_=>⟨[],by rw [List.append_nil];rfl⟩
 | m+1,hm=>by
  obtain⟨zs,hz⟩:=GX HC BJ hc h3 hR hn HK pc i m (by omega)
  obtain⟨a,x,_⟩:=vX (R:=R) HC BJ hc h3 hR hn HK pc (i+m) (by omega)
  have w1:(dF [(⟨1,0,0,0,0,aC,pc,0⟩:Cd)]).length≤3:=by
   have:=oN ⟨1,0,0,0,0,aC,pc,0⟩
   unfold dF;simp;omega
  have hw:(dF (Gm.all os R (uH os pc aC) (i+m)).xs).length≤900000:=by
   obtain⟨_,_,_,k⟩:=x
   omega
  obtain⟨_,_,ys,e,_⟩:=yS HC hc h3 hR hn HK (show i+m<os.length by omega) a hw
  refine⟨zs++ys, ?_⟩
  rw [show i+(m+1)=(i+m)+1 from rfl]
  show((Gm.all os R (uH os pc aC) (i+m)).one os R (i+m) (opAt os (i+m))).xs=_
  rw [e,hz,List.append_assoc]
theorem GY (HC:∀j,j<os.length→Gg os aC j (opAt os j)) (BJ:0≤aC) (hc:aC≤64) (h3:3≤R) (hR:R≤16) (hn:os.length≤2048) (HK:∀t,0≤(opAt os t).kn∧(opAt os t).kn<4294967296) (Jp:K.gJ= []) (og:gG os=true) (pc:Int):∀ (n:Nat) (s:nG) (t:jw),n+1≤os.length→Sm K os (os.length-(n+1)) s (Gm.all os R (uH os pc aC) (os.length-(n+1))) t0 t→
  ∃ys x zs u j,(lN os R pc aC).xs=ys++x::zs∧Wk K ys t0 u∧j<os.length∧(qE os (n+1) s).2.2=((j:Nat):Int)∧Ends K x u (qE os (n+1) s).1 (ZW (opAt os j) (qE os (n+1) s).2.1)
 | n,s,t,hl,b=>by
  have hi:os.length-(n+1) <os.length:=by omega
  obtain⟨a,_,_⟩:=vX (R:=R) HC BJ hc h3 hR hn HK pc (os.length-(n+1)) (by omega)
  obtain⟨o1,o2⟩:=Vf HC hc h3 hR hn HK Jp hi a b
  have eo:os[os.length-(n+1)]?=some (opAt os (os.length-(n+1))):=by
   unfold opAt
   rw [List.getD_eq_getElem?_getD,List.getElem?_eq_getElem hi];rfl
  have ev:qE os (n+1) s=match qC (opAt os (os.length-(n+1))) s (os.length-(n+1)) with
   | (s',none)=>qE os n s'
   | (s',some x)=>(s',x,((os.length-(n+1):Nat):Int)):=by
   rw [qE,eo]
   rfl
  rw [ev]
  cases hq:qC (opAt os (os.length-(n+1))) s (os.length-(n+1)) with
  | mk s' q=>
   cases q with
   | some e=>
    obtain⟨ys,x,u,h1,h2,h4⟩:=o2 s' e hq
    obtain⟨zs,hz⟩:=GX (R:=R) HC BJ hc h3 hR hn HK pc (os.length-(n+1)+1) n (by omega)
    refine⟨ys,x,zs,u,os.length-(n+1), ?_,h2,hi,rfl,h4⟩
    show(Gm.all os R (uH os pc aC) os.length).xs=_
    rw [show os.length-(n+1)+1+n=os.length by omega] at hz
    rw [hz]
    show((Gm.all os R (uH os pc aC) (os.length-(n+1))).one os R (os.length-(n+1)) (opAt os (os.length-(n+1)))).xs++zs=_
    rw [h1,List.append_assoc];rfl
   | none=>
    match n,hl,b,a,o1,hq with
    | 0,hl,b,a,o1,hq=>
     exfalso
     have hf:14≤(opAt os (os.length-1)).k∧(opAt os (os.length-1)).k≤16:=by
      have og:=og
      unfold gG at og
      rw [show os[os.length-1]?=some (opAt os (os.length-1)) from eo] at og
      have h':rF (opAt os (os.length-1)).k=true:=og
      exact acr h'
     obtain⟨e,he⟩:=PE (s:=s) (i:=os.length-(0+1)) hf
     have ZO:qC (opAt os (os.length-1)) s (os.length-(0+1))=(s',none):=hq
     rw [he] at ZO
     exact nomatch (congrArg Prod.snd ZO)
    | n+1,hl,b,a,o1,hq=>
     obtain⟨t',b'⟩:=o1 s' hq
     rw [show os.length-(n+1+1)+1=os.length-(n+1) by omega] at b'
     have b2:Sm K os (os.length-(n+1)) s' (Gm.all os R (uH os pc aC) (os.length-(n+1))) t0 t':=by
      rw [show os.length-(n+1)=(os.length-(n+1+1))+1 by omega] at b'⊢
      exact b'
     exact GY HC BJ hc h3 hR hn HK Jp og pc n s' t' (by omega) b2
theorem Jq {bg pc:Int} {M:MM} {c:Nat→Int} (hc:(uh os aC bg).1=0) (h3:3≤R) (hR:R≤16) (HK:∀t,0≤(opAt os t).kn∧(opAt os t).kn<4294967296) (hp:0≤pc∧pc<4294967296) (hu:K.us=dF (lN os R pc aC).xs) (Jp:K.gJ= []) (acs:K.left=aC) (hT:nM M.hi=false):
  ∃ (j G:Nat) (r:VY),OM K 0 c M G=some r∧G≤(dF (lN os R pc aC).xs).length∧j<os.length∧(qE os os.length ⟨M,c,fun _=>0⟩).2.2=((j:Nat):Int)∧r.c=(qE os os.length ⟨M,c,fun _=>0⟩).1.c∧r.M=(qE os os.length ⟨M,c,fun _=>0⟩).1.M∧r.l=ZW (opAt os j) (qE os os.length ⟨M,c,fun _=>0⟩).2.1:=by
 obtain⟨n0,n1,c0,c1,HC,og⟩:=sU hc
 have CO:=qZ hc h3 hR HK hp
 have d0:=(sW CO.ok 0 CO.l0).1
 rw [CO.h0 CO.l0] at d0
 have d0:jE K.us 0=(⟨1,0,0,0,0,aC,pc,0⟩,wd (aF 1),0):=by rw [hu];exact d0
 have he:zk K.us 0=true:=by unfold zk;rw [d0];rfl
 have afq:jI K M (iF ⟨1,0,0,0,0,aC,pc,0⟩ ⟨zC 0 c,M⟩).s ⟨1,0,0,0,0,aC,pc,0⟩=none:=by
  unfold jI
  rw [hT,if_neg (by decide),acs]
  have hw:wrap64 (aC-0)=aC:=by rw [Int.sub_zero];exact Go.IntWalk.wrap64_in _ (by omega)
  rw [show(iF ⟨1,0,0,0,0,aC,pc,0⟩ ⟨zC 0 c,M⟩).s.done=0 from rfl,hw,if_neg (by show¬aC<aC;omega),if_neg (by show¬ (1048576:Int)≤0;decide)]
 have ok:Ok1 K ⟨1,0,0,0,0,aC,pc,0⟩ ⟨zC 0 c,M⟩ {iF ⟨1,0,0,0,0,aC,pc,0⟩ ⟨zC 0 c,M⟩ with s:=(iF ⟨1,0,0,0,0,aC,pc,0⟩ ⟨zC 0 c,M⟩).s.dN}:=by
  refine⟨?_,rfl,rfl⟩
  show(jI K M (iF ⟨1,0,0,0,0,aC,pc,0⟩ ⟨zC 0 c,M⟩).s ⟨1,0,0,0,0,aC,pc,0⟩,if jI K M (iF ⟨1,0,0,0,0,aC,pc,0⟩ ⟨zC 0 c,M⟩).s ⟨1,0,0,0,0,aC,pc,0⟩=none then _ else _)=_
  rw [afq,if_pos rfl]
 have b:Sm K os 0 ⟨M,c,fun _=>0⟩ (uH os pc aC) ⟨zC 0 c,M⟩ (Zg {iF ⟨1,0,0,0,0,aC,pc,0⟩ ⟨zC 0 c,M⟩ with s:=(iF ⟨1,0,0,0,0,aC,pc,0⟩ ⟨zC 0 c,M⟩).s.dN}):=by
  refine⟨⟨_,ok,rfl⟩,rfl,rfl,rfl,rfl,fun r v h=> ?_,fun v k h=> ?_,fun w h=>absurd h (Nat.not_lt_zero _)⟩
  ·have h':(-1:Int)=v:=h
   omega
  ·have h':(-1:Int)=k:=h
   omega
 obtain⟨n,hn⟩:∃n,os.length=n+1:=⟨os.length-1,by omega⟩
 have hz:os.length-(n+1)=0:=by omega
 obtain⟨ys,x,zs,u,j,h1,h2,h4,h5,u1,h6,h7,h8,h9⟩:=GY (t0:=⟨zC 0 c,M⟩) HC c0 c1 h3 hR n1 HK Jp og pc n ⟨M,c,fun _=>0⟩ _ (by omega) (by rw [hz];exact b)
 rw [←hn] at h5 h6 h8 h9
 have e:=Va CO.ok hu h1 rfl h2 h6 h7
 refine⟨j,ys.length,_,by unfold OM;rw [if_pos he];exact e, ?_,h4,h5,h8,h9,rfl⟩
 have:=GN CO.ok _ (Nat.le_refl _)
 rw [OD] at this
 have hl:=congrArg List.length h1
 rw [List.length_append] at hl
 omega
end Go.Proofs.Ytcjcmnnhmajocab.Gn
