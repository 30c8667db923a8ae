import Derived.Test.YtcjcmnnhmajocabPmbf
set_option linter.unusedVariables false
set_option linter.unusedSimpArgs false
set_option maxRecDepth 100000
set_option maxHeartbeats 16000000
namespace Go.Proofs.Ytcjcmnnhmajocab.Gn
open Go.RowKit Kt Ic Hr Ho Me
variable {os:List cZ} {R i:Nat} {g:Gm}
structure SX (R:Nat) (x:Cd):Prop where
 ok:oL x
 o1:x.op≠1∧x.op≠15∧x.op≠96
 d:x.op=12∨x.op=13∨x.d<R
 a:x.a<R
 b:x.b<R
 c:x.c<R
 kb:0≤x.k∧x.k<4294967296
 xb:0≤x.x∧x.x<4294967296
theorem rW:(0:Int)≤0∧(0:Int) <4294967296:=by decide
theorem Yq {r sp:Int} (h0:0≤r) (h1:r<R) (h2:R≤16) (s0:0≤sp) (s1:sp<2048):SX R (qW r sp):=
 ⟨Og r sp h0 (by omega) s0 s1,by show(9:Int)≠1∧(9:Int)≠15∧(9:Int)≠96;decide, .inr (.inr (by show(0:Int) <R;omega)),h1,by show(0:Int) <R;omega,by show(0:Int) <R;omega,rW,rW⟩
theorem Yr {r sp:Int} (h0:0≤r) (h1:r<R) (h2:R≤16) (s0:0≤sp) (s1:sp<2048):SX R (uG r sp):=
 ⟨Oh r sp h0 (by omega) s0 s1,by show(8:Int)≠1∧(8:Int)≠15∧(8:Int)≠96;decide, .inr (.inr h1),by show(0:Int) <R;omega,by show(0:Int) <R;omega,by show(0:Int) <R;omega,rW,rW⟩
theorem abC {r k:Int} (h0:0≤r) (h1:r<R) (h2:R≤16) (hk:0≤k∧k<4294967296):SX R (JH r k):=
 ⟨VW r k h0 (by omega),by show(2:Int)≠1∧(2:Int)≠15∧(2:Int)≠96;decide, .inr (.inr h1),by show(0:Int) <R;omega,by show(0:Int) <R;omega,by show(0:Int) <R;omega,hk,rW⟩
theorem Bz (xs:List Cd) (x:Cd):(dF (xs++ [x])).length=(dF xs).length+(iZ x).length:=by
 unfold dF;rw [List.flatMap_append,List.length_append];simp
theorem TY (r sp:Int):(iZ (qW r sp)).length=1:=by
 unfold iZ qW;rw [show(wd (aF 9)).toNat=1 by decide];rfl
theorem Ua (r sp:Int):(iZ (uG r sp)).length=1:=by
 unfold iZ uG;rw [show(wd (aF 8)).toNat=1 by decide];rfl
theorem Yt (r k:Int):(iZ (JH r k)).length=2:=by
 unfold iZ JH;rw [show(wd (aF 2)).toNat=2 by decide];rfl
def XS (R:Nat) (Gq:List Cd) (m:Nat) (g:Gm):Prop:=∃ys,g.xs=Gq++ys∧(∀y∈ys,SX R y)∧(dF g.xs).length≤(dF Gq).length+m
theorem XS.refl (R:Nat) (g:Gm):XS R g.xs 0 g:=⟨[],by simp,by simp,by omega⟩
theorem XS.put {Gq:List Cd} {m:Nat} (a:XS R Gq m g) {x:Cd} (hx:SX R x) {k:Nat} (hk:(iZ x).length≤k):XS R Gq (m+k) (g.put x):=by
 obtain⟨ys,h1,h2,h3⟩:=a
 refine⟨ys++ [x],by show g.xs++ [x]=_;rw [h1,List.append_assoc],fun y hy=> ?_, ?_⟩
 ·rcases List.mem_append.1 hy with h | h
  ·exact h2 y h
  ·obtain rfl:=List.mem_singleton.1 h;exact hx
 ·show(dF (g.xs++ [x])).length≤_
  rw [Bz];omega
theorem XS.mono {Gq:List Cd} {m n:Nat} (a:XS R Gq m g) (h:m≤n):XS R Gq n g:=by
 obtain⟨ys,h1,h2,h3⟩:=a
 exact⟨ys,h1,h2,by omega⟩
theorem XS.of {Gq:List Cd} {m:Nat} {g':Gm} (a:XS R Gq m g) (h:g'.xs=g.xs):XS R Gq m g':=by
 obtain⟨ys,h1,h2,h3⟩:=a
 exact⟨ys,h.trans h1,h2,by rw [h];exact h3⟩
theorem XS.trans {Gq:List Cd} {m n:Nat} {g':Gm} (a:XS R Gq m g) (b:XS R g.xs n g'):XS R Gq (m+n) g':=by
 obtain⟨ys,h1,h2,h3⟩:=a
 obtain⟨zs,k1,k2,k3⟩:=b
 refine⟨ys++zs,by rw [k1,h1,List.append_assoc],fun y hy=> ?_,by omega⟩
 rcases List.mem_append.1 hy with h | h
 ·exact h2 y h
 ·exact k2 y h
theorem GI.of (a:GI os R i g) {g':Gm} (h1:g'.holds=g.holds) (h2:g'.v=g.v) (h3:g'.sp=g.sp):GI os R i g':=
 ⟨by rw [h1];exact a.hh,by rw [h1];exact a.hl,by rw [h1,h2];exact a.hv,by rw [h2];exact a.vr,by rw [h1,h2];exact a.vh,by rw [h2,h3];exact a.vs,by rw [h3,a.sp,kJ (g:=g) (g':=g') fun t _=>by rw [h2]],by rw [h2];exact a.un,by rw [h2];exact a.w,by rw [h2];exact a.F9⟩
theorem GI.kH (a:GI os R i g) (t:Nat) {us:List Int} (h1:∀u∈us,u∈(g.v t).uses):GI os R i (g.kH t us):=by
 have e:∀t',((g.kH t us).v t').reg=(g.v t').reg∧((g.kH t us).v t').aZ=(g.v t').aZ:=fun t'=>by
  by_cases h:t'=t
  ·subst h;simp [Gm.kH,aO]
  ·simp [Gm.kH,aO,h]
 have eu:∀t',∀u∈((g.kH t us).v t').uses,u∈(g.v t').uses:=fun t'=>by
  by_cases h:t'=t
  ·subst h;simpa [Gm.kH,aO] using h1
  ·simp [Gm.kH,aO,h]
 refine⟨a.hh,a.hl,fun r t' h=>by rw [(e t').1];exact a.hv r t' h,fun t'=>by rw [(e t').1];exact a.vr t',fun t' r h=>a.vh t' r (by rw [←(e t').1];exact h),fun t'=>by rw [(e t').2];exact a.vs t',a.sp.trans (by rw [kJ (g:=g) (g':=g.kH t us) fun t' _=>(e t').2]),fun t' u hu=>a.un t' u (eu t' u hu),fun t' h1 h2 h3=> ?_,fun t' h=>by rw [(e t').1,(e t').2];exact a.F9 t' h⟩
 rw [(e t').1,(e t').2]
 refine a.w t' h1 h2 fun hn=>h3 ?_
 cases hu:((g.kH t us).v t').uses with
 | nil=>rfl
 | cons u l=>
  have:=eu t' u (by rw [hu];simp)
  rw [hn] at this;exact absurd this (by simp)
theorem GI.ZM (a:GI os R i g) (hn:os.length≤2048) (hR:R≤16) (hp:∃r,r<R∧g.pin r=false):∃b:Nat,b<R∧g.pin b=false∧(kU g R).1=b∧I7 os R g b:=by
 obtain⟨b,h1,h2,h3,_⟩:=Ew a.nn R hp
 refine⟨b,h1,h3,h2,h2,by omega,fun h=> ?_,fun h hs=> ?_⟩
 ·exact a.hv b _ (by omega)
 ·have bV:=a.hh b
  unfold iw at hs
  simp only [Bool.and_eq_true,decide_eq_true_eq] at hs
  exact a.sp0 hn (by omega) hs.2.1
theorem GI.jF (a:GI os R i g) (hn:os.length≤2048) (hR:R≤16) {b:Nat} (hb:(kU g R).1=b) (hbR:b<R):GI os R i (g.jF os R)∧(g.jF os R).holds b= -1∧(∀r,r≠b→(g.jF os R).holds r=g.holds r)∧(g.jF os R).pin=g.pin∧(∀t,((g.jF os R).v t).uses=(g.v t).uses)∧(∀t,(g.v t).reg<0→((g.jF os R).v t).reg=(g.v t).reg∧((g.jF os R).v t).aZ=(g.v t).aZ)∧XS R g.xs 1 (g.jF os R):=by
 unfold Gm.jF
 rw [hb,Int.toNat_natCast]
 by_cases h0:0≤g.holds b
 ·rw [if_pos h0]
  have bV:=a.hh b
  obtain⟨t,ht⟩:∃t:Nat,g.holds b=t:=⟨(g.holds b).toNat,by omega⟩
  rw [ht,Int.toNat_natCast]
  have hr:=a.hv b t ht
  have vW:t<os.length:=by omega
  obtain⟨e1,e2,e3,e4,e5,e6⟩:=VU (os:=os) (g:=g) t
  rw [hr,Int.toNat_natCast] at e1
  refine⟨a.out hn vW hr,by rw [e1,if_pos rfl],fun r Vu=>by rw [e1,if_neg Vu],e2,e5,fun t' h'=> ?_, ?_⟩
  ·rw [e4 t' (fun e=>by rw [e,hr] at h';omega)];exact⟨rfl,rfl⟩
  ·have hx:XS R g.xs 1 (g.lay os t):=by
    unfold Gm.lay
    by_cases hs:iw os g t=true
    ·rw [if_pos hs]
     have wH:=hs
     unfold iw at wH
     simp only [Bool.and_eq_true,decide_eq_true_eq] at wH
     have:=a.sp0 hn vW wH.2.1
     exact XS.put (((XS.refl R g).of (g':=(g.gI t g.sp).iD (g.sp+1)) rfl)) (by rw [hr];exact Yq (by omega) (by omega) hR this.1 this.2) (Nat.le_of_eq (TY _ _))
    ·rw [if_neg hs];exact(XS.refl R g).mono (by omega)
   exact hx.of rfl
 ·rw [if_neg h0]
  refine⟨a, ?_,fun _ _=>rfl,rfl,fun _=>rfl,fun _ _=>⟨rfl,rfl⟩,(XS.refl R g).mono (by omega)⟩
  have:=a.hl b
  omega
variable {os:List cZ} {R i:Nat} {g:Gm}
theorem GI.has (a:GI os R i g) {b t j:Nat} (hb:g.holds b= -1) (hbR:b<R) (ht:(g.v t).reg<0) (htn:t<os.length) (hj:i≤j) (htj:t<j) (ho:∀t',i≤t'→t'<j→t'=t):GI os R j (g.has b t):=by
 have e:∀t',t'≠t→(g.has b t).v t'=g.v t':=fun t' h=>by simp [Gm.has,Gm.eF,Gm.eY,aO,h]
 have er:((g.has b t).v t).reg=b:=by simp [Gm.has,Gm.eF,Gm.eY,aO]
 have es:∀t',((g.has b t).v t').aZ=(g.v t').aZ:=fun t'=>by
  by_cases h:t'=t
  ·subst h;simp [Gm.has,Gm.eF,Gm.eY,aO]
  ·rw [e t' h]
 have eu:∀t',((g.has b t).v t').uses=(g.v t').uses:=fun t'=>by
  by_cases h:t'=t
  ·subst h;simp [Gm.has,Gm.eF,Gm.eY,aO]
  ·rw [e t' h]
 have eh:∀r:Nat,(g.has b t).holds r=if r=b then(t:Int) else g.holds r:=fun r=>rfl
 refine⟨fun r=> ?_,fun r=> ?_,fun r t' h=> ?_,fun t'=> ?_,fun t' r h=> ?_,fun t'=>by rw [es];exact a.vs t',a.sp.trans (by rw [kJ (g:=g) (g':=g.has b t) fun t' _=>es t']),fun t'=>by rw [eu];exact a.un t',fun t' h1 h2 h3=> ?_,fun t' h=> ?_⟩
 ·rw [eh];split
  ·omega
  ·exact a.hh r
 ·rw [eh];split
  ·omega
  ·exact a.hl r
 ·rw [eh] at h
  by_cases h1:r=b
  ·rw [if_pos h1] at h
   have:t'=t:=by omega
   rw [this,er,h1]
  ·rw [if_neg h1] at h
   have h2:=a.hv r t' h
   rw [e t' (fun e=>by rw [e] at h2;omega)];exact h2
 ·by_cases h:t'=t
  ·rw [h,er];omega
  ·rw [e t' h];exact a.vr t'
 ·by_cases h1:t'=t
  ·rw [h1,er] at h
   have:r=b:=by omega
   rw [eh,if_pos this,h1]
  ·rw [e t' h1] at h
   have h2:=a.vh t' r h
   rw [eh,if_neg (fun h3=>by rw [h3,hb] at h2;omega)];exact h2
 ·by_cases h:t'=t
  ·rw [h,er];exact .inl (by omega)
  ·rw [e t' h];rw [e t' h] at h3
   exact a.w t' (by
    refine Nat.lt_of_not_le fun hc=>h (ho t' hc h1)) h2 h3
 ·rw [e t' (by omega)];exact a.F9 t' (by omega)
structure IP (os:List cZ) (R i:Nat) (g0:Gm) (l rs:List Int) (g:Gm):Prop where
 gi:GI os R i g
 us:∀t,(g.v t).uses=(g0.v t).uses
 len:rs.length=l.length
 at_:∀k,k<l.length→∃r:Nat,rs.getD k 0=r∧r<R∧g.holds r=l.getD k 0∧g.pin r=true
 pin:∀r,g.pin r=true→∃k,k<l.length∧rs.getD k 0=(r:Int)
 xs:XS R g0.xs (3*l.length) g
theorem IP.free {g0:Gm} {l rs:List Int} (a:IP os R i g0 l rs g) (hl:l.length≤2) (h3:3≤R):∃r,r<R∧g.pin r=false:=by
 refine Classical.byContradiction fun hc=> ?_
 have h:∀r,r<R→g.pin r=true:=fun r hr=>by
  cases hp:g.pin r
  ·exact absurd ⟨r,hr,hp⟩ hc
  ·rfl
 obtain⟨k0,a0,b0⟩:=a.pin 0 (h 0 (by omega))
 obtain⟨k1,a1,b1⟩:=a.pin 1 (h 1 (by omega))
 obtain⟨k2,a2,b2⟩:=a.pin 2 (h 2 (by omega))
 have hk:k0=k1∨k0=k2∨k1=k2:=by omega
 rcases hk with e | e | e
 ·rw [e,b1] at b0;exact absurd b0 (by decide)
 ·rw [e,b2] at b0;exact absurd b0 (by decide)
 ·rw [e,b2] at b1;exact absurd b1 (by decide)
theorem gY {l:List Int} {x:Int} {k:Nat} (h:k<l.length):(l++ [x]).getD k 0=l.getD k 0:=by rw [iK,if_neg (by omega)]
theorem IP.step {g0:Gm} {l rs:List Int} (a:IP os R i g0 l rs g) (hl:l.length≤2) (h3:3≤R) (hR:R≤16) (hn:os.length≤2048) (HK:∀t,0≤(opAt os t).kn∧(opAt os t).kn<4294967296) {t:Nat} (hti:t<i) (htn:t<os.length) (hu:(g0.v t).uses≠ []):
  I9 os R g t∧IP os R i g0 (l++ [(t:Int)]) (rs++ [g.zq R t]) (g.vT os R t):=by
 by_cases hr:(g.v t).reg<0
 ·obtain⟨b,hb,hp,hbs,ZM⟩:=a.gi.ZM hn hR (a.free hl h3)
  obtain⟨gf,f1,f2,f3,f4,f5,f6⟩:=a.gi.jF hn hR hbs hb
  have rV:(opAt os t).k≠1→0≤((g.jF os R).v t).aZ∧((g.jF os R).v t).aZ<2048:=fun hk=>by
   have h1:=gf.w t hti hk (by rw [f4,a.us];exact hu)
   have h2:=(f5 t hr).1
   have h3:=gf.vs t
   have h4:=gf.spl hn
   omega
  refine⟨⟨htn, .inr ⟨hr,⟨b,ZM⟩,fun r _=>a.gi.hh r,rV⟩⟩, ?_⟩
  have eR:g.zq R t=b:=by unfold Gm.zq;rw [if_pos hr,hbs]
  have eG:g.vT os R t=((g.jF os R).fetch os b t).jf b true:=by unfold Gm.vT;rw [if_pos hr,hbs,Int.toNat_natCast]
  rw [eR,eG]
  have hr1:((g.jF os R).v t).reg<0:=by rw [(f5 t hr).1];exact hr
  have g2:GI os R i ((g.jF os R).fetch os b t):=by
   unfold Gm.fetch
   exact GI.has (GI.of gf (g':=(g.jF os R).put _) rfl rfl rfl) f1 hb hr1 htn (Nat.le_refl _) hti (fun t' h1 h2=>by omega)
  have ex:XS R g.xs 3 ((g.jF os R).fetch os b t):=by
   unfold Gm.fetch
   have h1:XS R g.xs (1+2) ((g.jF os R).put (if(opAt os t).k=1 then JH b (opAt os t).kn else uG b ((g.jF os R).v t).aZ)):=by
    by_cases hk:(opAt os t).k=1
    ·rw [if_pos hk]
     exact f6.put (abC (by omega) (by omega) hR (HK t)) (Nat.le_of_eq (Yt _ _))
    ·rw [if_neg hk]
     exact f6.put (Yr (by omega) (by omega) hR (rV hk).1 (rV hk).2) (by rw [Ua];decide)
   exact h1.of rfl
  have eh:∀r:Nat,(((g.jF os R).fetch os b t).jf b true).holds r=if r=b then(t:Int) else g.holds r:=fun r=>by
   show(if r=b then(t:Int) else(g.jF os R).holds r)=_
   by_cases h:r=b
   ·rw [if_pos h,if_pos h]
   ·rw [if_neg h,if_neg h,f2 r h]
  have ep:∀r:Nat,(((g.jF os R).fetch os b t).jf b true).pin r=if r=b then true else g.pin r:=fun r=>by
   show(if r=b then true else(g.jF os R).pin r)=_
   rw [f3]
  refine⟨g2.of rfl rfl rfl,fun t'=> ?_,by simp [a.len],fun k hk=> ?_,fun r Td=> ?_, ?_⟩
  ·have:((((g.jF os R).fetch os b t).jf b true).v t').uses=((g.jF os R).v t').uses:=by
    show(((g.jF os R).fetch os b t).v t').uses=_
    by_cases h:t'=t
    ·subst h;simp [Gm.fetch,Gm.has,Gm.eF,Gm.eY,Gm.put,aO]
    ·simp [Gm.fetch,Gm.has,Gm.eF,Gm.eY,Gm.put,aO,h]
   rw [this,f4,a.us]
  ·rw [List.length_append] at hk
   by_cases uD:k<l.length
   ·obtain⟨r,h1,h2,h4,h5⟩:=a.at_ k uD
    have Vu:r≠b:=fun e=>by rw [e,hp] at h5;exact Bool.noConfusion h5
    refine⟨r,by rw [gY (by rw [a.len];exact uD)];exact h1,h2,by rw [eh,if_neg Vu,gY uD];exact h4,by rw [ep,if_neg Vu];exact h5⟩
   ·have hke:k=l.length:=by simp at hk;omega
    subst hke
    refine⟨b,by rw [iK,if_pos a.len.symm],hb,by rw [eh,if_pos rfl,iK,if_pos rfl],by rw [ep,if_pos rfl]⟩
  ·rw [ep] at Td
   by_cases h:r=b
   ·exact⟨l.length,by simp,by rw [iK,if_pos a.len.symm,h]⟩
   ·rw [if_neg h] at Td
    obtain⟨k,h1,h2⟩:=a.pin r Td
    exact⟨k,by simp;omega,by rw [gY (by rw [a.len];exact h1)];exact h2⟩
  ·rw [List.length_append]
   exact((a.xs.trans ex).of (g':=((g.jF os R).fetch os b t).jf b true) rfl).mono (by simp;omega)
 ·have hv:=a.gi.vr t
  obtain⟨r,er⟩:∃r:Nat,(g.v t).reg=r:=⟨(g.v t).reg.toNat,by omega⟩
  refine⟨⟨htn, .inl ⟨r,er,by omega⟩⟩, ?_⟩
  have eR:g.zq R t=r:=by unfold Gm.zq;rw [if_neg hr,er]
  have eG:g.vT os R t=g.jf r true:=by unfold Gm.vT;rw [if_neg hr,er,Int.toNat_natCast]
  rw [eR,eG]
  have ep:∀r':Nat,(g.jf r true).pin r'=if r'=r then true else g.pin r':=fun r'=>rfl
  refine⟨a.gi.of rfl rfl rfl,a.us,by simp [a.len],fun k hk=> ?_,fun r' Td=> ?_, ?_⟩
  ·rw [List.length_append] at hk
   by_cases uD:k<l.length
   ·obtain⟨r',h1,h2,h4,h5⟩:=a.at_ k uD
    exact⟨r',by rw [gY (by rw [a.len];exact uD)];exact h1,h2,by rw [gY uD];exact h4,by rw [ep];split<;>simp_all⟩
   ·have hke:k=l.length:=by simp at hk;omega
    subst hke
    exact⟨r,by rw [iK,if_pos a.len.symm],by omega,by rw [iK,if_pos rfl];exact a.gi.vh t r er,by rw [ep,if_pos rfl]⟩
  ·rw [ep] at Td
   by_cases h:r'=r
   ·exact⟨l.length,by simp,by rw [iK,if_pos a.len.symm,h]⟩
   ·rw [if_neg h] at Td
    obtain⟨k,h1,h2⟩:=a.pin r' Td
    exact⟨k,by simp;omega,by rw [gY (by rw [a.len];exact h1)];exact h2⟩
  ·rw [List.length_append]
   exact(a.xs.of (g':=g.jf r true) rfl).mono (by simp;omega)
theorem yQ {g0:Gm} {l:List Int} (a:GI os R i g0) (hp:∀r,g0.pin r=false) (h3:3≤R) (hR:R≤16) (hn:os.length≤2048) (HK:∀t,0≤(opAt os t).kn∧(opAt os t).kn<4294967296) (hl:l.length≤3) (ht:∀x∈l,∃t:Nat,x=t∧t<i∧t<os.length∧(g0.v t).uses≠ []):
  ∀j,j≤l.length→IP os R i g0 (l.take j) (Gm.ins os R (l.take j) g0).1 (Gm.ins os R (l.take j) g0).2∧(j<l.length→∃t:Nat,l.getD j 0=t∧I9 os R (Gm.ins os R (l.take j) g0).2 t)
 | 0,_=>by
  rw [List.take_zero]
  have h0:IP os R i g0 [] [] g0:=⟨a,fun _=>rfl,rfl,fun k hk=>absurd hk (by simp),fun r h=>by rw [hp] at h;exact Bool.noConfusion h,XS.refl R g0⟩
  refine⟨h0,fun hj=> ?_⟩
  obtain⟨t,e,h1,h2,h4⟩:=ht (l.getD 0 0) (by rw [List.getD_eq_getElem?_getD,List.getElem?_eq_getElem hj];exact List.getElem_mem _)
  exact⟨t,e,(h0.step (by simp) h3 hR hn HK h1 h2 h4).1⟩
 | j+1,hj=>by
  have ih:=(yQ a hp h3 hR hn HK hl ht j (by omega)).1
  obtain⟨t,e,h1,h2,h4⟩:=ht (l.getD j 0) (by rw [List.getD_eq_getElem?_getD,List.getElem?_eq_getElem (by omega)];exact List.getElem_mem _)
  have st:=(ih.step (by rw [List.length_take];omega) h3 hR hn HK h1 h2 h4).2
  have es:Gm.ins os R (l.take (j+1)) g0=((Gm.ins os R (l.take j) g0).1++ [(Gm.ins os R (l.take j) g0).2.zq R t],(Gm.ins os R (l.take j) g0).2.vT os R t):=by rw [jV l j (by omega),vV,e,Int.toNat_natCast]
  have h0:IP os R i g0 (l.take (j+1)) (Gm.ins os R (l.take (j+1)) g0).1 (Gm.ins os R (l.take (j+1)) g0).2:=by
   rw [es,jV l j (by omega),e];exact st
  refine⟨h0,fun Zz=> ?_⟩
  obtain⟨t',e',k1,k2,k4⟩:=ht (l.getD (j+1) 0) (by rw [List.getD_eq_getElem?_getD,List.getElem?_eq_getElem Zz];exact List.getElem_mem _)
  exact⟨t',e',(h0.step (by rw [List.length_take];omega) h3 hR hn HK k1 k2 k4).1⟩
variable {os:List cZ} {R i:Nat} {g:Gm}
def Gs (os:List cZ) (i t:Nat):List Int:=(List.range' i (os.length-i)).flatMap fun j=>((tk (opAt os j)).filter fun x=>x==(t:Int)).map fun _=>(j:Int)
theorem qY {t:Nat} (h:i<os.length):Gs os i t=(((tk (opAt os i)).filter fun x=>x==(t:Int)).map fun _=>(i:Int))++Gs os (i+1) t:=by
 unfold Gs
 rw [show os.length-i=(os.length-(i+1))+1 by omega,List.range'_succ,List.flatMap_cons]
theorem Yu (hn:os.length≤2048) (i t:Nat):∀u∈Gs os i t,0≤u∧u<1073741824:=by
 intro u hu
 unfold Gs at hu
 obtain⟨j,hj,hu⟩:=List.mem_flatMap.1 hu
 obtain⟨x,hx,rfl⟩:=List.mem_map.1 hu
 have:=List.mem_range'_1.1 hj
 omega
theorem BF (os:List cZ) (t:Nat):oM os os.length 0 t=Gs os 0 t:=by
 unfold oM Gs
 rw [List.take_zero,List.filter_nil,List.map_nil,List.append_nil,Nat.sub_zero,List.range_eq_range']
structure Us (os:List cZ) (R i:Nat) (g g':Gm):Prop where
 gi:GI os R i g'
 h:g'.holds=g.holds
 xs:g'.xs=g.xs
 rs:∀t,(g'.v t).reg=(g.v t).reg∧(g'.v t).aZ=(g.v t).aZ
 sp:g'.sp=g.sp
theorem yR (rest:Nat→List Int):∀ (l:List Int) (g:Gm),GI os R i g→(∀x∈l,0≤x)→(∀t:Nat,(g.v t).uses=(l.filter fun x=>x==(t:Int)).map (fun _=>(i:Int))++rest t)→Us os R i g (g.used i l)∧∀t,((g.used i l).v t).uses=rest t
 | [],g,a,_,h=>⟨⟨a,rfl,rfl,fun _=>⟨rfl,rfl⟩,rfl⟩,fun t=>by have:=h t;rw [show g.used i []=g from rfl];simpa using this⟩
 | x::l,g,a,hx,h=>by
  obtain⟨t0,rfl⟩:=Int.eq_ofNat_of_zero_le (hx x (by simp))
  have h0:(g.v t0).uses=(i:Int)::((l.filter fun x=>x==(t0:Int)).map (fun _=>(i:Int))++rest t0):=by rw [h t0];simp
  have e:g.jy i t0=g.kH t0 ((l.filter fun x=>x==(t0:Int)).map (fun _=>(i:Int))++rest t0):=by
   unfold Gm.jy
   rw [h0,if_pos (by rfl)]
   rfl
  have a2:GI os R i (g.jy i t0):=by rw [e];exact a.kH t0 (fun u hu=>by rw [h0];exact List.mem_cons_of_mem _ hu)
  have h2:∀t:Nat,((g.jy i t0).v t).uses=(l.filter fun x=>x==(t:Int)).map (fun _=>(i:Int))++rest t:=fun t=>by
   rw [e]
   by_cases ht:t=t0
   ·subst ht;simp [Gm.kH,aO]
   ·have hf:((t0:Int)==(t:Int))=false:=by simp;omega
    have:=h t
    rw [List.filter_cons,hf] at this
    simpa [Gm.kH,aO,ht] using this
  obtain⟨u,hu⟩:=yR rest l (g.jy i t0) a2 (fun y hy=>hx y (List.mem_cons_of_mem _ hy)) h2
  have er:∀t,((g.jy i t0).v t).reg=(g.v t).reg∧((g.jy i t0).v t).aZ=(g.v t).aZ:=fun t=>by
   rw [e]
   by_cases ht:t=t0
   ·subst ht;simp [Gm.kH,aO]
   ·simp [Gm.kH,aO,ht]
  have eq:g.used i ((t0:Int)::l)=(g.jy i t0).used i l:=by unfold Gm.used;rw [List.foldl_cons,Int.toNat_natCast]
  rw [eq]
  refine⟨⟨u.gi,u.h.trans (by rw [e];rfl),u.xs.trans (by rw [e];rfl),fun t=>⟨(u.rs t).1.trans (er t).1,(u.rs t).2.trans (er t).2⟩,u.sp.trans (by rw [e];rfl)⟩,hu⟩
theorem EF (a:GI os R i g):∀n,GI os R i (g.dN n)∧(g.dN n).pin=g.pin∧(∀t,((g.dN n).v t).uses=(g.v t).uses)∧(∀t,(g.v t).uses≠ []→(g.dN n).v t=g.v t)∧(∀r t:Nat,g.holds r=t→(g.v t).uses≠ []→(g.dN n).holds r=t)∧(∀t,(g.v t).reg<0→((g.dN n).v t).reg=(g.v t).reg)
 | 0=>⟨a,rfl,fun _=>rfl,fun _ _=>rfl,fun _ _ h _=>h,fun _ _=>rfl⟩
 | n+1=>by
  obtain⟨b,p,u,v,hh,hr⟩:=EF a n
  by_cases hc:0≤(g.dN n).holds n∧uF (g.dN n) ((g.dN n).holds n).toNat=1073741824
  ·obtain⟨h0,h1⟩:=hc
   have bV:=b.hh n
   obtain⟨t,ht⟩:∃t:Nat,(g.dN n).holds n=t:=⟨((g.dN n).holds n).toNat,by omega⟩
   rw [ht,Int.toNat_natCast] at h1
   rw [Gj ht h1]
   have wS:=b.hv n t ht
   have Yv:((g.dN n).v t).uses= []:=by
    cases hu:((g.dN n).v t).uses with
    | nil=>rfl
    | cons x l=>
     have hx:=b.un t x (by rw [hu];simp)
     unfold uF at h1
     rw [hu] at h1
     have h1':x=1073741824:=h1
     omega
   generalize g.dN n=g1 at*
   have ev:∀t',t'≠t→((g1.eY n (-1)).eF t (-1)).v t'=g1.v t':=fun t' h=>by simp [Gm.eF,Gm.eY,aO,h]
   have et:((g1.eY n (-1)).eF t (-1)).v t={g1.v t with reg:= -1}:=by simp [Gm.eF,Gm.eY,aO]
   have eu:∀t',(((g1.eY n (-1)).eF t (-1)).v t').uses=(g1.v t').uses:=fun t'=>by
    by_cases h:t'=t
    ·rw [h,et]
    ·rw [ev t' h]
   have es:∀t',(((g1.eY n (-1)).eF t (-1)).v t').aZ=(g1.v t').aZ:=fun t'=>by
    by_cases h:t'=t
    ·rw [h,et]
    ·rw [ev t' h]
   have eh:∀r:Nat,((g1.eY n (-1)).eF t (-1)).holds r=if r=n then-1 else g1.holds r:=fun r=>rfl
   have hi:t<i:=Nat.lt_of_not_le fun h=>by have:=(b.F9 t h).1;omega
   refine⟨⟨fun r=> ?_,fun r=> ?_,fun r t' h=> ?_,fun t'=> ?_,fun t' r h=> ?_,fun t'=>by rw [es];exact b.vs t',b.sp.trans (by rw [kJ (g:=g1) (g':=(g1.eY n (-1)).eF t (-1)) fun t' _=>es t']),fun t'=>by rw [eu];exact b.un t',fun t' k1 k2 k3=> ?_,fun t' k=> ?_⟩,p,fun t'=>by rw [eu];exact u t',fun t' k=> ?_,fun r t' k1 k2=> ?_,fun t' k=> ?_⟩
   ·rw [eh];split
    ·omega
    ·exact b.hh r
   ·rw [eh];split
    ·omega
    ·exact b.hl r
   ·rw [eh] at h
    by_cases e:r=n
    ·rw [if_pos e] at h;omega
    ·rw [if_neg e] at h
     have h2:=b.hv r t' h
     rw [ev t' (fun e'=>by rw [e',wS] at h2;omega)];exact h2
   ·by_cases e:t'=t
    ·rw [e,et];have:=b.vr t;show-1≤(-1:Int)∧(-1:Int) <R;omega
    ·rw [ev t' e];exact b.vr t'
   ·by_cases e:t'=t
    ·rw [e,et] at h;have h':(-1:Int)=r:=h;omega
    ·rw [ev t' e] at h
     have h2:=b.vh t' r h
     rw [eh,if_neg (fun e'=>by rw [e',ht] at h2;omega)];exact h2
   ·by_cases e:t'=t
    ·rw [eu,e] at k3;exact absurd Yv k3
    ·rw [ev t' e];rw [ev t' e] at k3;exact b.w t' k1 k2 k3
   ·rw [ev t' (by omega)];exact b.F9 t' k
   ·have e:t'≠t:=fun e=>by rw [←u t',e] at k;exact k Yv
    rw [ev t' e];exact v t' k
   ·have h2:=hh r t' k1 k2
    rw [eh,if_neg (fun e'=> ?_)]
    ·exact h2
    ·rw [e',ht] at h2
     have:t'=t:=by omega
     rw [←u t',this] at k2;exact k2 Yv
   ·by_cases e:t'=t
    ·rw [e,et]
     have h2:=hr t' k
     rw [e] at h2
     rw [e] at k
     omega
    ·rw [ev t' e];exact hr t' k
  ·rw [EC hc];exact⟨b,p,u,v,hh,hr⟩
theorem BG {d:Nat}:∀ (n r:Nat),emp g r n=some d→r≤d∧d<r+n∧g.holds d<0
 | 0,r,h=>nomatch h
 | n+1,r,h=>by
  by_cases e:g.holds r<0
  ·rw [Gl e] at h
   obtain rfl:=Option.some.inj h
   exact⟨Nat.le_refl _,by omega,e⟩
  ·rw [Oj e] at h
   have:=BG n (r+1) h
   omega
theorem BH (a:GI os R i g) (hn:os.length≤2048) (h3:3≤R) (hR:R≤16) (hp:∀r,g.pin r=false):∃d:Nat,g.uT R=d∧d<R∧GI os R i (g.gU os R)∧(g.gU os R).holds d= -1∧(∀t,((g.gU os R).v t).uses=(g.v t).uses)∧(∀t,(g.v t).reg<0→((g.gU os R).v t).reg<0)∧XS R g.xs 1 (g.gU os R)∧(emp (g.dN R) 0 R=none→∃b,I7 os R (g.dN R) b):=by
 obtain⟨b,p,u,v,hh,hr⟩:=EF a R
 have WX:∃r,r<R∧(g.dN R).pin r=false:=⟨0,by omega,by rw [p];exact hp 0⟩
 obtain⟨f,f1,f2,f3,f4⟩:=b.ZM hn hR WX
 have xc:XS R g.xs 0 (g.dN R):=(XS.refl R g).of (fK g R)
 unfold Gm.uT Gm.gU
 cases he:emp (g.dN R) 0 R with
 | some d=>
  obtain⟨_,e1,e2⟩:=BG R 0 he
  have:=b.hl d
  exact⟨d,rfl,by omega,b,by show(g.dN R).holds d= -1;omega,u,fun t ht=>by rw [hr t ht];exact ht,xc.mono (by omega),fun h=>nomatch h⟩
 | none=>
  obtain⟨k1,k2,k3,k4,k5,k6,k7⟩:=b.jF hn hR f3 f1
  refine⟨f,f3,f1,k1,k2,fun t=>by rw [k5];exact u t,fun t ht=> ?_, ?_,fun _=>⟨f,f4⟩⟩
  ·have h2:((g.dN R).v t).reg<0:=by rw [hr t ht];exact ht
   rw [(k6 t h2).1];exact h2
  ·exact(xc.trans k7).mono (by omega)
variable {os:List cZ} {R i:Nat} {g:Gm}
structure Rg3 (R:Nat) (o:cZ) (r:List Int):Prop where
 bd:∀k,0≤r.getD k 0∧r.getD k 0<R
 z:∀k,(tk o).length≤k→r.getD k 0=0
theorem Ub {w:Int} (h0:0≤w) (h1:w<16):aF (16+w)=1:=by unfold aF;rw [if_pos (by omega)]
theorem Yw {w:Int} (h0:0≤w) (h1:w<7):aF (32+w)=2:=by unfold aF;rw [if_neg (by omega),if_pos (by omega)]
theorem Uc {w:Int} (h0:0≤w) (h1:w<13):aF (48+w)=3:=by unfold aF;rw [if_neg (by omega),if_neg (by omega),if_pos (by omega)]
theorem Ud {w:Int} (h0:0≤w) (h1:w<16):aF (64+w)=2:=by unfold aF;rw [if_neg (by omega),if_pos (by omega)]
theorem Yx {w:Int} (h0:0≤w) (h1:w<5):aF (80+w)=4:=by unfold aF;rw [if_neg (by omega),if_neg (by omega),if_neg (by omega),if_pos (by omega)]
theorem Yy {w:Int} (h0:0≤w) (h1:w<3):aF (88+w)=4:=by unfold aF;rw [if_neg (by omega),if_neg (by omega),if_neg (by omega),if_pos (by omega)]
theorem jK {o d a b c n k x:Int} {q:Nat} (hq:aF o=q) (q0:q≠0) (h0:0≤o∧o<256) (h1:o≠1∧o≠15∧o≠96) (he:dS q o d a b c n k x) (hd:o=12∨o=13∨d<R) (ha:a<R) (hb:b<R) (hc:c<R) (hk:0≤k∧k<4294967296) (hx:0≤x∧x<4294967296):SX R ⟨o,d,a,b,c,n,k,x⟩:=
 ⟨⟨h0,by show aF o≠0;rw [hq];exact q0,by show dS (aF o) o d a b c n k x;rw [hq];exact he⟩,h1,hd,ha,hb,hc,hk,hx⟩
theorem Yz {aC:Int} {o:cZ} {r:List Int} {d:Nat} (c:Gg os aC i o) (hc:aC≤64) (kW:0≤o.kn∧o.kn<4294967296) (hg:gv o.k=true) (h1:o.k≠1) (h:Rg3 R o r) (hd:d<R) (hR:R≤16):SX R (qo o d (r.getD 0 0) (r.getD 1 0) (r.getD 2 0)):=by
 obtain⟨k,w,a,b,cc,kn,n⟩:=o
 obtain⟨bd,z⟩:=h
 have cw:=c.w
 have cn:=c.n
 dsimp only at cw cn h1 hg kW
 unfold gv at hg
 rw [decide_eq_true_eq] at hg
 have b0:=bd 0
 have b1:=bd 1
 have b2:=bd 2
 have lW:=cw.1
 have hk:k=2∨k=17∨k=4∨k=5∨k=6∨k=7∨k=8∨k=9:=by clear cw cn;omega
 clear c bd hg h1
 rcases hk with rfl | rfl | rfl | rfl | rfl | rfl | rfl | rfl
 ·show SX R ⟨6,d,(r.getD 0 0),(r.getD 1 0),(r.getD 2 0),w,0,0⟩
  have hw:w<12:=cw.2.1 (.inl rfl)
  have e0:r.getD 0 0=0:=z 0 (show(0:Nat)≤0 by decide)
  have e1:r.getD 1 0=0:=z 1 (show(0:Nat)≤1 by decide)
  have e2:r.getD 2 0=0:=z 2 (show(0:Nat)≤2 by decide)
  have cwx:=cw.1
  clear z
  exact jK (q:=10) (by decide) (by decide) ⟨by decide,by decide⟩ ⟨by decide,by decide,by decide⟩ ((Ea _ _ _ _ _ _ _ _).2 ⟨⟨by omega,by omega⟩,e0,e1,e2,⟨cwx,hw⟩,rfl,rfl⟩) (.inr (.inr (by omega))) b0.2 b1.2 b2.2 rW rW
 ·show SX R ⟨97,d,(r.getD 0 0),(r.getD 1 0),(r.getD 2 0),0,0,0⟩
  have e0:r.getD 0 0=0:=z 0 (show(0:Nat)≤0 by decide)
  have e1:r.getD 1 0=0:=z 1 (show(0:Nat)≤1 by decide)
  have e2:r.getD 2 0=0:=z 2 (show(0:Nat)≤2 by decide)
  have ZN:=cw.1
  clear cw z
  exact jK (q:=5) (by decide) (by decide) ⟨by decide,by decide⟩ ⟨by decide,by decide,by decide⟩ ((Nb _ _ _ _ _ _ _ _).2 ⟨⟨by omega,by omega⟩,e0,e1,e2,rfl,rfl,rfl⟩) (.inr (.inr (by omega))) b0.2 b1.2 b2.2 rW rW
 ·show SX R ⟨16+w,d,(r.getD 0 0),(r.getD 1 0),(r.getD 2 0),0,0,0⟩
  have hw:w<16:=cw.2.2.1 (.inl rfl)
  have e2:r.getD 2 0=0:=z 2 (show(2:Nat)≤2 by decide)
  have ZN:=cw.1
  clear cw z
  exact jK (Ub lW hw) (by decide) ⟨by omega,by omega⟩ ⟨by omega,by omega,by omega⟩ ((Na _ _ _ _ _ _ _ _).2 ⟨⟨by omega,by omega⟩,⟨b0.1,by omega⟩,⟨b1.1,by omega⟩,e2,rfl,rfl,rfl⟩) (.inr (.inr (by omega))) b0.2 b1.2 b2.2 rW rW
 ·show SX R ⟨32+w,d,(r.getD 0 0),(r.getD 1 0),(r.getD 2 0),0,0,0⟩
  have hw:w<7:=cw.2.2.2.1 rfl
  have e1:r.getD 1 0=0:=z 1 (show(1:Nat)≤1 by decide)
  have e2:r.getD 2 0=0:=z 2 (show(1:Nat)≤2 by decide)
  have ZN:=cw.1
  clear cw z
  exact jK (Yw lW hw) (by decide) ⟨by omega,by omega⟩ ⟨by omega,by omega,by omega⟩ ((FQ _ _ _ _ _ _ _ _).2 ⟨⟨by omega,by omega⟩,⟨b0.1,by omega⟩,e1,e2,rfl,rfl,rfl⟩) (.inr (.inr (by omega))) b0.2 b1.2 b2.2 rW rW
 ·show SX R ⟨5,d,(r.getD 0 0),(r.getD 1 0),(r.getD 2 0),0,0,0⟩
  have ZN:=cw.1
  clear cw z
  exact jK (q:=3) (by decide) (by decide) ⟨by decide,by decide⟩ ⟨by decide,by decide,by decide⟩ ((FU _ _ _ _ _ _ _ _).2 ⟨⟨by omega,by omega⟩,⟨b0.1,by omega⟩,⟨b1.1,by omega⟩,⟨b2.1,by omega⟩,rfl,rfl,rfl⟩) (.inr (.inr (by omega))) b0.2 b1.2 b2.2 rW rW
 ·show SX R ⟨48+w,d,(r.getD 0 0),(r.getD 1 0),(r.getD 2 0),0,0,0⟩
  have hw:w<13:=cw.2.2.2.2.1 rfl
  have ZN:=cw.1
  clear cw z
  exact jK (Uc lW hw) (by decide) ⟨by omega,by omega⟩ ⟨by omega,by omega,by omega⟩ ((FU _ _ _ _ _ _ _ _).2 ⟨⟨by omega,by omega⟩,⟨b0.1,by omega⟩,⟨b1.1,by omega⟩,⟨b2.1,by omega⟩,rfl,rfl,rfl⟩) (.inr (.inr (by omega))) b0.2 b1.2 b2.2 rW rW
 ·show SX R ⟨64+w,d,(r.getD 0 0),(r.getD 1 0),(r.getD 2 0),0,0,0⟩
  have hw:w<16:=cw.2.2.1 (.inr rfl)
  have e1:r.getD 1 0=0:=z 1 (show(1:Nat)≤1 by decide)
  have e2:r.getD 2 0=0:=z 2 (show(1:Nat)≤2 by decide)
  have ZN:=cw.1
  clear cw z
  exact jK (Ud lW hw) (by decide) ⟨by omega,by omega⟩ ⟨by omega,by omega,by omega⟩ ((FQ _ _ _ _ _ _ _ _).2 ⟨⟨by omega,by omega⟩,⟨b0.1,by omega⟩,e1,e2,rfl,rfl,rfl⟩) (.inr (.inr (by omega))) b0.2 b1.2 b2.2 rW rW
 ·show SX R ⟨80+w,d,(r.getD 0 0),(r.getD 1 0),(r.getD 2 0),n,kn,0⟩
  have hw:w<5:=cw.2.2.2.2.2.1 rfl
  have e1:r.getD 1 0=0:=z 1 (show(1:Nat)≤1 by decide)
  have e2:r.getD 2 0=0:=z 2 (show(1:Nat)≤2 by decide)
  have ZN:=cw.1
  clear cw z
  exact jK (Yx lW hw) (by decide) ⟨by omega,by omega⟩ ⟨by omega,by omega,by omega⟩ ((FW _ _ _ _ _ _ _ _).2 ⟨⟨by omega,by omega⟩,⟨b0.1,by omega⟩,e1,e2,⟨cn.1,by have:=cn.2.1;omega⟩,rfl⟩) (.inr (.inr (by omega))) b0.2 b1.2 b2.2 kW rW
theorem YA {aC:Int} {o:cZ} {r:List Int} (c:Gg os aC i o) (hc:aC≤64) (kW:0≤o.kn∧o.kn<4294967296) (hg:gv o.k=false) (h:Rg3 R o r) (h3:3≤R) (hR:R≤16):SX R (jc o (r.getD 0 0) (r.getD 1 0)):=by
 obtain⟨k,w,a,b,cc,kn,n⟩:=o
 obtain⟨bd,z⟩:=h
 have cw:=c.w
 have cn:=c.n
 have ck:=c.k
 have BI:=c.kn
 dsimp only at cw cn hg ck BI kW
 have hq:=kW
 unfold gv at hg
 rw [decide_eq_false_iff_not] at hg
 have b0:=bd 0
 have b1:=bd 1
 have lW:=cw.1
 have n0:0≤n∧n<65:=⟨cn.1,by have:=cn.2.1;clear cw BI;omega⟩
 have r0:(0:Int) <R:=by clear cw BI cn;omega
 have hk:k=3∨k=10∨k=11∨k=12∨k=13∨k=14∨k=15∨k=16:=by clear cw cn BI;omega
 clear c bd hg ck cn
 rcases hk with rfl | rfl | rfl | rfl | rfl | rfl | rfl | rfl
 ·show SX R ⟨7,0,(r.getD 0 0),0,0,w,kn,0⟩
  have hw:w<12:=cw.2.1 (.inr rfl)
  have kW:kn=0:=BI (.inl ⟨by decide,by decide⟩)
  clear cw z BI
  exact jK (q:=11) (by decide) (by decide) ⟨by decide,by decide⟩ ⟨by decide,by decide,by decide⟩ ((Eb _ _ _ _ _ _ _ _).2 ⟨rfl,⟨b0.1,by omega⟩,rfl,rfl,⟨lW,hw⟩,kW,rfl⟩) (.inr (.inr r0)) b0.2 r0 r0 hq rW
 ·show SX R ⟨88+w,(r.getD 1 0),(r.getD 0 0),0,0,n,kn,0⟩
  have hw:w<3:=cw.2.2.2.2.2.2.1 rfl
  clear cw z BI
  exact jK (Yy lW hw) (by decide) ⟨by omega,by omega⟩ ⟨by omega,by omega,by omega⟩ ((FW _ _ _ _ _ _ _ _).2 ⟨⟨b1.1,by omega⟩,⟨b0.1,by omega⟩,rfl,rfl,n0,rfl⟩) (.inr (.inr b1.2)) b0.2 r0 r0 hq rW
 ·show SX R ⟨10,0,(r.getD 0 0),0,0,n,kn,0⟩
  have e0:r.getD 0 0=0:=z 0 (show(0:Nat)≤0 by decide)
  clear cw z BI
  exact jK (q:=7) (by decide) (by decide) ⟨by decide,by decide⟩ ⟨by decide,by decide,by decide⟩ ((Aw _ _ _ _ _ _ _ _).2 ⟨rfl,e0,rfl,rfl,n0,rfl⟩) (.inr (.inr r0)) b0.2 r0 r0 hq rW
 ·show SX R ⟨11,0,(r.getD 0 0),0,0,n,kn,0⟩
  clear cw z BI
  exact jK (q:=6) (by decide) (by decide) ⟨by decide,by decide⟩ ⟨by decide,by decide,by decide⟩ ((Nc _ _ _ _ _ _ _ _).2 ⟨rfl,⟨b0.1,by omega⟩,rfl,rfl,n0,rfl⟩) (.inr (.inr r0)) b0.2 r0 r0 hq rW
 ·show SX R ⟨13,w,(r.getD 0 0),0,0,n,kn,0⟩
  have hw:1≤w∧w<8:=cw.2.2.2.2.2.2.2.1 (.inl rfl)
  clear cw z BI
  exact jK (q:=15) (by decide) (by decide) ⟨by decide,by decide⟩ ⟨by decide,by decide,by decide⟩ ((Ed _ _ _ _ _ _ _ _).2 ⟨⟨by omega,by omega⟩,⟨b0.1,by omega⟩,rfl,rfl,n0,rfl,⟨hw.1,by omega⟩⟩) (.inr (.inl rfl)) b0.2 r0 r0 hq rW
 ·show SX R ⟨12,w,(r.getD 0 0),0,0,n,kn,b%4294967296⟩
  have hw:1≤w∧w<8:=cw.2.2.2.2.2.2.2.1 (.inr rfl)
  have e0:r.getD 0 0=0:=z 0 (show(0:Nat)≤0 by decide)
  clear cw z BI
  exact jK (q:=14) (by decide) (by decide) ⟨by decide,by decide⟩ ⟨by decide,by decide,by decide⟩ ((Ec _ _ _ _ _ _ _ _).2 ⟨⟨by omega,by omega⟩,e0,rfl,rfl,n0,⟨hw.1,by omega⟩⟩) (.inl rfl) b0.2 r0 r0 hq ⟨by omega,by omega⟩
 ·show SX R ⟨14,0,(r.getD 0 0),0,0,n,kn,0⟩
  have e0:r.getD 0 0=0:=z 0 (show(0:Nat)≤0 by decide)
  clear cw z BI
  exact jK (q:=7) (by decide) (by decide) ⟨by decide,by decide⟩ ⟨by decide,by decide,by decide⟩ ((Aw _ _ _ _ _ _ _ _).2 ⟨rfl,e0,rfl,rfl,n0,rfl⟩) (.inr (.inr r0)) b0.2 r0 r0 hq rW
 ·show SX R ⟨4,0,(r.getD 0 0),0,0,n,kn,0⟩
  have kW:kn=0:=BI (.inr (.inl rfl))
  clear cw z BI
  exact jK (q:=9) (by decide) (by decide) ⟨by decide,by decide⟩ ⟨by decide,by decide,by decide⟩ ((Nh _ _ _ _ _ _ _ _).2 ⟨rfl,⟨b0.1,by omega⟩,rfl,rfl,n0,kW,rfl⟩) (.inr (.inr r0)) b0.2 r0 r0 hq rW
variable {os:List cZ} {R i:Nat} {g:Gm}
theorem GI.next (a:GI os R i g) (h:(opAt os i).k=1∨(g.v i).uses= []):GI os R (i+1) g:=
 ⟨a.hh,a.hl,a.hv,a.vr,a.vh,a.vs,a.sp,a.un,fun t h1 h2 h3=>by
  by_cases e:t=i
  ·subst e
   rcases h with h | h
   ·exact absurd h h2
   ·exact absurd h h3
  ·exact a.w t (by omega) h2 h3,fun t ht=>a.F9 t (by omega)⟩
theorem yc {l:List Int} {rest:List Int} {t:Nat} (h:(t:Int)∈l):((l.filter fun x=>x==(t:Int)).map fun _=>(i:Int))++rest≠ []:=by
 have:(t:Int)∈l.filter fun x=>x==(t:Int):=List.mem_filter.2 ⟨h,by simp⟩
 cases hf:l.filter fun x=>x==(t:Int) with
 | nil=>rw [hf] at this;exact absurd this (by simp)
 | cons x l=>simp
theorem YB {aC:Int} (HC:∀j,j<os.length→Gg os aC j (opAt os j)) (hg:gv (opAt os i).k=false) (m:Nat):Gs os m i= []:=by
 unfold Gs
 rw [List.flatMap_eq_nil_iff]
 intro j hj
 rw [List.map_eq_nil_iff,List.filter_eq_nil_iff]
 intro x hx he
 have Zz:=List.mem_range'_1.1 hj
 obtain⟨h1,h2,h3⟩:=(HC j (by omega)).t x hx
 have hxi:x=(i:Int):=by simpa using he
 rw [hxi,Int.toNat_natCast,Gf,hg] at h3
 exact Bool.noConfusion h3
structure At (os:List cZ) (R i:Nat) (g:Gm):Prop where
 gi:GI os R i g
 us:∀t,(g.v t).uses=Gs os i t
theorem yS {aC:Int} (HC:∀j,j<os.length→Gg os aC j (opAt os j)) (hc:aC≤64) (h3:3≤R) (hR:R≤16) (hn:os.length≤2048) (HK:∀t,0≤(opAt os t).kn∧(opAt os t).kn<4294967296) (hi:i<os.length) (a:At os R i g) (hw:(dF g.xs).length≤900000):
  Oq os R g i (opAt os i)∧At os R (i+1) (g.one os R i (opAt os i))∧XS R g.xs 13 (g.one os R i (opAt os i)):=by
 have C:=HC i hi
 obtain⟨o,ho⟩:∃o,opAt os i=o:=⟨_,rfl⟩
 have g0:GI os R i g.au:=a.gi.of rfl rfl rfl
 have u0:∀t,(g.au.v t).uses=Gs os i t:=a.us
 have hl:=sV o
 have ht:∀x∈tk o,∃t:Nat,x=t∧t<i∧t<os.length∧(g.au.v t).uses≠ []:=fun x hx=>by
  obtain⟨h1,h2,_⟩:=C.t x (by rw [ho];exact hx)
  obtain⟨t,rfl⟩:=Int.eq_ofNat_of_zero_le h1
  refine⟨t,rfl,by omega,by omega, ?_⟩
  rw [u0,qY hi,ho]
  exact yc hx
 have I:=yQ g0 (fun _=>rfl) h3 hR hn HK hl ht
 have IL:=(I (tk o).length (Nat.le_refl _)).1
 rw [List.take_length] at IL
 have U:=yR (i:=i) (Gs os (i+1)) (tk o) (Gm.ins os R (tk o) g.au).2 IL.gi (fun x hx=>by obtain⟨t,e,_⟩:=ht x hx;omega) (fun t=>by rw [IL.us,u0,qY hi,ho])
 obtain⟨U,uu⟩:=U
 have rg:Rg3 R o (Gm.ins os R (tk o) g.au).1:=by
  refine⟨fun k=> ?_,fun k hk=> ?_⟩
  ·by_cases hk:k<(tk o).length
   ·obtain⟨r,e,h1,_⟩:=IL.at_ k hk
    rw [e];omega
   ·rw [List.getD_eq_getElem?_getD,List.getElem?_eq_none (by rw [IL.len];omega)]
    show(0:Int)≤0∧(0:Int) <R
    omega
  ·rw [List.getD_eq_getElem?_getD,List.getElem?_eq_none (by rw [IL.len];omega)];rfl
 have xi:XS R g.xs 9 ((Gm.ins os R (tk o) g.au).2.used i (tk o)):=(IL.xs.of U.xs).mono (by omega)
 have hwn:∀j,j≤(tk o).length→(dF (Gm.ins os R ((tk o).take j) g.au).2.xs).length≤999000:=fun j hj=>by
  obtain⟨_,_,_,k3⟩:=(I j hj).1.xs
  have:(dF g.au.xs).length≤900000:=hw
  have h5:((tk o).take j).length≤3:=by rw [List.length_take];omega
  omega
 have fu:=(U.gi.F9 i (Nat.le_refl _)).1
 have kW:=HK i
 rw [ho] at C kW⊢
 have hwb:=C.w16
 by_cases hg:gv o.k=true
 ·by_cases hk:o.k=1
  ·have eo:g.one os R i o=(Gm.ins os R (tk o) g.au).2.used i (tk o):=by
    unfold Gm.one
    dsimp only
    rw [if_pos hg]
    unfold Gm.give
    rw [if_pos hk]
   refine⟨⟨fun j hj=>(I j (by omega)).2 hj,hwn,C.w.1,hwb,fun _ h=>absurd hk h,fun h=>by rw [hg] at h;exact Bool.noConfusion h⟩, ?_, ?_⟩
   ·rw [eo];exact⟨U.gi.next (.inl (by rw [ho];exact hk)),uu⟩
   ·rw [eo];exact xi.mono (by omega)
  ·have P:=BH (g:=((Gm.ins os R (tk o) g.au).2.used i (tk o)).au) (U.gi.of rfl rfl rfl) hn h3 hR (fun _=>rfl)
   obtain⟨d,p1,p2,p3,p4,p5,p6,p7,p8⟩:=P
   have sx:=Yz C hc kW hg hk rg p2 hR
   have eo:g.one os R i o=(((((Gm.ins os R (tk o) g.au).2.used i (tk o)).au.gU os R).put (qo o d ((Gm.ins os R (tk o) g.au).1.getD 0 0) ((Gm.ins os R (tk o) g.au).1.getD 1 0) ((Gm.ins os R (tk o) g.au).1.getD 2 0))).has d i):=by
    unfold Gm.one
    dsimp only
    rw [if_pos hg]
    unfold Gm.give
    rw [if_neg hk,p1,Int.toNat_natCast]
   refine⟨⟨fun j hj=>(I j (by omega)).2 hj,hwn,C.w.1,hwb,fun _ _=>⟨d,fun r _=>U.gi.hh r,p8,p1,by omega,sx.ok⟩,fun h=>by rw [hg] at h;exact Bool.noConfusion h⟩, ?_, ?_⟩
   ·rw [eo]
    refine⟨GI.has (GI.of p3 (g':=Gm.put _ _) rfl rfl rfl) p4 p2 (p6 i (by rw [show((((Gm.ins os R (tk o) g.au).2.used i (tk o)).au).v i).reg=(((Gm.ins os R (tk o) g.au).2.used i (tk o)).v i).reg from rfl,fu];decide)) hi (by omega) (by omega) (fun t' h1 h2=>by omega),fun t=> ?_⟩
    have e:∀ (g:Gm) (d i t:Nat),((g.has d i).v t).uses=(g.v t).uses:=fun g d i t=>by
     by_cases h:t=i
     ·subst h;simp [Gm.has,Gm.eF,Gm.eY,aO]
     ·simp [Gm.has,Gm.eF,Gm.eY,aO,h]
    rw [e]
    exact(p5 t).trans (uu t)
   ·rw [eo]
    have x1:XS R g.xs (9+1) (((Gm.ins os R (tk o) g.au).2.used i (tk o)).au.gU os R):=xi.trans p7
    exact(x1.put sx (oN _)).of rfl
 ·have Ue:gv o.k=false:=by simpa using hg
  have sx:=YA C hc kW Ue rg h3 hR
  have eo:g.one os R i o=((Gm.ins os R (tk o) g.au).2.used i (tk o)).put (jc o ((Gm.ins os R (tk o) g.au).1.getD 0 0) ((Gm.ins os R (tk o) g.au).1.getD 1 0)):=by
   unfold Gm.one
   dsimp only
   rw [if_neg hg]
  refine⟨⟨fun j hj=>(I j (by omega)).2 hj,hwn,C.w.1,hwb,fun h=>absurd h hg,fun _=>sx.ok⟩, ?_, ?_⟩
  ·rw [eo]
   refine⟨GI.of (U.gi.next (.inr ?_)) (g':=Gm.put _ _) rfl rfl rfl,uu⟩
   rw [uu]
   exact YB HC (by rw [ho];exact Ue) (i+1)
  ·rw [eo]
   exact(xi.put sx (oN _)).mono (by omega)
theorem YC (hn:os.length≤2048) (h3:3≤R) (pc aC:Int):At os R 0 (uH os pc aC):=by
 have e:cS (uH os pc aC) os.length=0:=by
  have:∀n,cS (uH os pc aC) n=0:=fun n=>by
   induction n with
   | zero=>rfl
   | succ n ih=>rw [cS,ih];rfl
  exact this _
 refine⟨⟨fun r=> ?_,fun r=> ?_,fun r t h=> ?_,fun t=> ?_,fun t r h=> ?_,fun t=> ?_,by rw [e];rfl,fun t u hu=> ?_,fun t h=>absurd h (by omega),fun t _=>⟨rfl,rfl⟩⟩,fun t=>BF os t⟩
 ·show(-1:Int) <os.length;omega
 ·show(-1:Int)≤ -1;decide
 ·have h':(-1:Int)=t:=h
  omega
 ·show(-1:Int)≤ -1∧(-1:Int) <R;omega
 ·have h':(-1:Int)=r:=h
  omega
 ·show(-1:Int)≤ -1∧(-1:Int) <0;decide
 ·have Zt:u∈oM os os.length 0 t:=hu
  rw [BF] at Zt
  exact Yu hn 0 t u Zt
theorem vX {aC:Int} (HC:∀j,j<os.length→Gg os aC j (opAt os j)) (BJ:0≤aC) (hc:aC≤64) (h3:3≤R) (hR:R≤16) (hn:os.length≤2048) (HK:∀t,0≤(opAt os t).kn∧(opAt os t).kn<4294967296) (pc:Int):∀i,i≤os.length→
  At os R i (Gm.all os R (uH os pc aC) i)∧XS R [⟨1,0,0,0,0,aC,pc,0⟩] (13*i) (Gm.all os R (uH os pc aC) i)∧(i<os.length→Oq os R (Gm.all os R (uH os pc aC) i) i (opAt os i))
 | 0,_=>by
  have a:=YC (R:=R) hn h3 pc aC
  have x:XS R [⟨1,0,0,0,0,aC,pc,0⟩] (13*0) (uH os pc aC):=(XS.refl R (uH os pc aC)).mono (Nat.zero_le _)
  have hw:(dF (uH os pc aC).xs).length≤900000:=by
   show(dF [⟨1,0,0,0,0,aC,pc,0⟩]).length≤900000
   have:=oN ⟨1,0,0,0,0,aC,pc,0⟩
   unfold dF;simp;omega
  exact⟨a,x,fun hi=>(yS HC hc h3 hR hn HK hi a hw).1⟩
 | i+1,hi=>by
  obtain⟨a,x,_⟩:=vX HC BJ hc h3 hR hn HK pc i (by omega)
  have w1:(dF [(⟨1,0,0,0,0,aC,pc,0⟩:Cd)]).length≤3:=by
   have:=oN ⟨1,0,0,0,0,aC,pc,0⟩
   unfold dF;simp;omega
  have hw:∀ {m:Nat} {g:Gm},m≤13*os.length→XS R [⟨1,0,0,0,0,aC,pc,0⟩] m g→(dF g.xs).length≤900000:=fun hm h=>by
   obtain⟨_,_,_,k⟩:=h
   omega
  obtain⟨_,a1,x1⟩:=yS HC hc h3 hR hn HK (show i<os.length by omega) a (hw (by omega) x)
  have x2:XS R [⟨1,0,0,0,0,aC,pc,0⟩] (13*(i+1)) (Gm.all os R (uH os pc aC) (i+1)):=(x.trans x1).mono (by omega)
  exact⟨a1,x2,fun hi2=>(yS HC hc h3 hR hn HK hi2 a1 (hw (by omega) x2)).1⟩
theorem BK {pc aC:Int} (h0:0≤aC) (h1:aC≤64):oL ⟨1,0,0,0,0,aC,pc,0⟩:=by
 refine⟨⟨by show(0:Int)≤1;decide,by show(1:Int) <256;decide⟩,by show aF 1≠0;decide, ?_⟩
 show dS (aF 1) 1 0 0 0 0 aC pc 0
 rw [show aF 1=7 by decide]
 exact(Aw _ _ _ _ _ _ _ _).2 ⟨rfl,rfl,rfl,rfl,⟨h0,by omega⟩,rfl⟩
theorem Oz {aC:Int} (HC:∀j,j<os.length→Gg os aC j (opAt os j)) (i m:Nat) (h:m<(tk (opAt os i)).length):∃t:Nat,(tk (opAt os i)).getD m 0=t∧t<i:=by
 have hi:i<os.length:=by
  refine Nat.lt_of_not_le fun hc=> ?_
  have e:opAt os i=⟨0,0,0,0,0,0,0⟩:=by unfold opAt;rw [List.getD_eq_getElem?_getD,List.getElem?_eq_none hc];rfl
  rw [e] at h
  have h':m<0:=h
  omega
 obtain⟨h1,h2,_⟩:=(HC i hi).t ((tk (opAt os i)).getD m 0) (by rw [List.getD_eq_getElem?_getD,List.getElem?_eq_getElem h];exact List.getElem_mem _)
 exact⟨((tk (opAt os i)).getD m 0).toNat,by omega,by omega⟩
theorem aeF {o d a b c n k x:Int} (p0:0≤o) (p1:o<256) (h:dS 1 o d a b c n k x):aV 1 (dw o d a b c n)∧Cd.of 1 (dw o d a b c n) k x=⟨o,d,a,b,c,n,k,x⟩:=by
 have r:=(AQ p0 p1 h).2.2.2.2.2
 have m:=(FN p0 p1).1 h
 rw [r] at m
 obtain⟨m1,m2⟩:=m
 rw [bQ] at m2
 refine⟨m1, ?_⟩
 show Cd.mk _ _ _ _ _ _ _ _=Cd.mk _ _ _ _ _ _ _ _
 rw [Cd.mk.injEq]
 exact m2
theorem aeG {o d a b c n k x:Int} (p0:0≤o) (p1:o<256) (h:dS 2 o d a b c n k x):aV 2 (dw o d a b c n)∧Cd.of 2 (dw o d a b c n) k x=⟨o,d,a,b,c,n,k,x⟩:=by
 have r:=(AU p0 p1 h).2.2.2.2.2
 have m:=(FT p0 p1).1 h
 rw [r] at m
 obtain⟨m1,m2⟩:=m
 rw [bQ] at m2
 refine⟨m1, ?_⟩
 show Cd.mk _ _ _ _ _ _ _ _=Cd.mk _ _ _ _ _ _ _ _
 rw [Cd.mk.injEq]
 exact m2
theorem aeH {o d a b c n k x:Int} (p0:0≤o) (p1:o<256) (h:dS 3 o d a b c n k x):aV 3 (dw o d a b c n)∧Cd.of 3 (dw o d a b c n) k x=⟨o,d,a,b,c,n,k,x⟩:=by
 have r:=(AV p0 p1 h).2.2.2.2.2
 have m:=(FV p0 p1).1 h
 rw [r] at m
 obtain⟨m1,m2⟩:=m
 rw [bQ] at m2
 refine⟨m1, ?_⟩
 show Cd.mk _ _ _ _ _ _ _ _=Cd.mk _ _ _ _ _ _ _ _
 rw [Cd.mk.injEq]
 exact m2
theorem aeI {o d a b c n k x:Int} (p0:0≤o) (p1:o<256) (h:dS 4 o d a b c n k x):aV 4 (dw o d a b c n)∧Cd.of 4 (dw o d a b c n) k x=⟨o,d,a,b,c,n,k,x⟩:=by
 have r:=(AX p0 p1 h).2.2.2.2.2
 have m:=(FX p0 p1).1 h
 rw [r] at m
 obtain⟨m1,m2⟩:=m
 rw [bQ] at m2
 refine⟨m1, ?_⟩
 show Cd.mk _ _ _ _ _ _ _ _=Cd.mk _ _ _ _ _ _ _ _
 rw [Cd.mk.injEq]
 exact m2
theorem aeJ {o d a b c n k x:Int} (p0:0≤o) (p1:o<256) (h:dS 5 o d a b c n k x):aV 5 (dw o d a b c n)∧Cd.of 5 (dw o d a b c n) k x=⟨o,d,a,b,c,n,k,x⟩:=by
 have r:=(AY p0 p1 h).2.2.2.2.2
 have m:=(FY p0 p1).1 h
 rw [r] at m
 obtain⟨m1,m2⟩:=m
 rw [bQ] at m2
 refine⟨m1, ?_⟩
 show Cd.mk _ _ _ _ _ _ _ _=Cd.mk _ _ _ _ _ _ _ _
 rw [Cd.mk.injEq]
 exact m2
theorem aeK {o d a b c n k x:Int} (p0:0≤o) (p1:o<256) (h:dS 6 o d a b c n k x):aV 6 (dw o d a b c n)∧Cd.of 6 (dw o d a b c n) k x=⟨o,d,a,b,c,n,k,x⟩:=by
 have r:=(AZ p0 p1 h).2.2.2.2.2
 have m:=(FZ p0 p1).1 h
 rw [r] at m
 obtain⟨m1,m2⟩:=m
 rw [bQ] at m2
 refine⟨m1, ?_⟩
 show Cd.mk _ _ _ _ _ _ _ _=Cd.mk _ _ _ _ _ _ _ _
 rw [Cd.mk.injEq]
 exact m2
theorem aeL {o d a b c n k x:Int} (p0:0≤o) (p1:o<256) (h:dS 7 o d a b c n k x):aV 7 (dw o d a b c n)∧Cd.of 7 (dw o d a b c n) k x=⟨o,d,a,b,c,n,k,x⟩:=by
 have r:=(Ba p0 p1 h).2.2.2.2.2
 have m:=(F5 p0 p1).1 h
 rw [r] at m
 obtain⟨m1,m2⟩:=m
 rw [bQ] at m2
 refine⟨m1, ?_⟩
 show Cd.mk _ _ _ _ _ _ _ _=Cd.mk _ _ _ _ _ _ _ _
 rw [Cd.mk.injEq]
 exact m2
theorem aeM {o d a b c n k x:Int} (p0:0≤o) (p1:o<256) (h:dS 8 o d a b c n k x):aV 8 (dw o d a b c n)∧Cd.of 8 (dw o d a b c n) k x=⟨o,d,a,b,c,n,k,x⟩:=by
 have r:=(Bc p0 p1 h).2.2.2.2.2
 have m:=(F6 p0 p1).1 h
 rw [r] at m
 obtain⟨m1,m2⟩:=m
 rw [bQ] at m2
 refine⟨m1, ?_⟩
 show Cd.mk _ _ _ _ _ _ _ _=Cd.mk _ _ _ _ _ _ _ _
 rw [Cd.mk.injEq]
 exact m2
theorem aeN {o d a b c n k x:Int} (p0:0≤o) (p1:o<256) (h:dS 9 o d a b c n k x):aV 9 (dw o d a b c n)∧Cd.of 9 (dw o d a b c n) k x=⟨o,d,a,b,c,n,k,x⟩:=by
 have r:=(Bd p0 p1 h).2.2.2.2.2
 have m:=(F7 p0 p1).1 h
 rw [r] at m
 obtain⟨m1,m2⟩:=m
 rw [bQ] at m2
 refine⟨m1, ?_⟩
 show Cd.mk _ _ _ _ _ _ _ _=Cd.mk _ _ _ _ _ _ _ _
 rw [Cd.mk.injEq]
 exact m2
theorem abE {o d a b c n k x:Int} (p0:0≤o) (p1:o<256) (h:dS 10 o d a b c n k x):aV 10 (dw o d a b c n)∧Cd.of 10 (dw o d a b c n) k x=⟨o,d,a,b,c,n,k,x⟩:=by
 have r:=(xM p0 p1 h).2.2.2.2.2
 have m:=(Az p0 p1).1 h
 rw [r] at m
 obtain⟨m1,m2⟩:=m
 rw [bQ] at m2
 refine⟨m1, ?_⟩
 show Cd.mk _ _ _ _ _ _ _ _=Cd.mk _ _ _ _ _ _ _ _
 rw [Cd.mk.injEq]
 exact m2
theorem abG {o d a b c n k x:Int} (p0:0≤o) (p1:o<256) (h:dS 11 o d a b c n k x):aV 11 (dw o d a b c n)∧Cd.of 11 (dw o d a b c n) k x=⟨o,d,a,b,c,n,k,x⟩:=by
 have r:=(xO p0 p1 h).2.2.2.2.2
 have m:=(AA p0 p1).1 h
 rw [r] at m
 obtain⟨m1,m2⟩:=m
 rw [bQ] at m2
 refine⟨m1, ?_⟩
 show Cd.mk _ _ _ _ _ _ _ _=Cd.mk _ _ _ _ _ _ _ _
 rw [Cd.mk.injEq]
 exact m2
theorem abH {o d a b c n k x:Int} (p0:0≤o) (p1:o<256) (h:dS 12 o d a b c n k x):aV 12 (dw o d a b c n)∧Cd.of 12 (dw o d a b c n) k x=⟨o,d,a,b,c,n,k,x⟩:=by
 have r:=(xP p0 p1 h).2.2.2.2.2
 have m:=(AB p0 p1).1 h
 rw [r] at m
 obtain⟨m1,m2⟩:=m
 rw [bQ] at m2
 refine⟨m1, ?_⟩
 show Cd.mk _ _ _ _ _ _ _ _=Cd.mk _ _ _ _ _ _ _ _
 rw [Cd.mk.injEq]
 exact m2
theorem abI {o d a b c n k x:Int} (p0:0≤o) (p1:o<256) (h:dS 13 o d a b c n k x):aV 13 (dw o d a b c n)∧Cd.of 13 (dw o d a b c n) k x=⟨o,d,a,b,c,n,k,x⟩:=by
 have r:=(xQ p0 p1 h).2.2.2.2.2
 have m:=(AL p0 p1).1 h
 rw [r] at m
 obtain⟨m1,m2⟩:=m
 rw [bQ] at m2
 refine⟨m1, ?_⟩
 show Cd.mk _ _ _ _ _ _ _ _=Cd.mk _ _ _ _ _ _ _ _
 rw [Cd.mk.injEq]
 exact m2
theorem abJ {o d a b c n k x:Int} (p0:0≤o) (p1:o<256) (h:dS 14 o d a b c n k x):aV 14 (dw o d a b c n)∧Cd.of 14 (dw o d a b c n) k x=⟨o,d,a,b,c,n,k,x⟩:=by
 have r:=(xR p0 p1 h).2.2.2.2.2
 have m:=(AO p0 p1).1 h
 rw [r] at m
 obtain⟨m1,m2⟩:=m
 rw [bQ] at m2
 refine⟨m1, ?_⟩
 show Cd.mk _ _ _ _ _ _ _ _=Cd.mk _ _ _ _ _ _ _ _
 rw [Cd.mk.injEq]
 exact m2
theorem abK {o d a b c n k x:Int} (p0:0≤o) (p1:o<256) (h:dS 15 o d a b c n k x):aV 15 (dw o d a b c n)∧Cd.of 15 (dw o d a b c n) k x=⟨o,d,a,b,c,n,k,x⟩:=by
 have r:=(xU p0 p1 h).2.2.2.2.2
 have m:=(AP p0 p1).1 h
 rw [r] at m
 obtain⟨m1,m2⟩:=m
 rw [bQ] at m2
 refine⟨m1, ?_⟩
 show Cd.mk _ _ _ _ _ _ _ _=Cd.mk _ _ _ _ _ _ _ _
 rw [Cd.mk.injEq]
 exact m2
theorem YD {x:Cd} (h:oL x):aV (aF x.op) (Cd.sum x)∧Cd.of (aF x.op) (Cd.sum x) x.k x.x=x:=by
 obtain⟨⟨p0,p1⟩,h0,e⟩:=h
 have hle:=qU x.op
 obtain⟨o,d,a,b,c,n,k,x⟩:=x
 dsimp only at*
 show aV (aF o) (dw o d a b c n)∧Cd.of (aF o) (dw o d a b c n) k x=_
 generalize aF o=q at*
 rcases(show q=1∨q=2∨q=3∨q=4∨q=5∨q=6∨q=7∨q=8∨q=9∨q=10∨q=11∨q=12∨q=13∨q=14∨q=15 by omega) with rfl | rfl | rfl | rfl | rfl | rfl | rfl | rfl | rfl | rfl | rfl | rfl | rfl | rfl | rfl
 ·exact aeF p0 p1 e
 ·exact aeG p0 p1 e
 ·exact aeH p0 p1 e
 ·exact aeI p0 p1 e
 ·exact aeJ p0 p1 e
 ·exact aeK p0 p1 e
 ·exact aeL p0 p1 e
 ·exact aeM p0 p1 e
 ·exact aeN p0 p1 e
 ·exact abE p0 p1 e
 ·exact abG p0 p1 e
 ·exact abH p0 p1 e
 ·exact abI p0 p1 e
 ·exact abJ p0 p1 e
 ·exact abK p0 p1 e
theorem Uf {q:Nat} {v k1 x1 k x:Int} (h1:1<wd q→k1=k) (h2:2<wd q→x1=x):Cd.of q v k1 x1=Cd.of q v k x:=by
 unfold Cd.of
 have e1:pick (decide (1<wd q)) k1=pick (decide (1<wd q)) k:=by
  by_cases h:1<wd q
  ·rw [h1 h]
  ·rw [decide_eq_false h];rfl
 have e2:pick (decide (2<wd q)) x1=pick (decide (2<wd q)) x:=by
  by_cases h:2<wd q
  ·rw [h2 h]
  ·rw [decide_eq_false h];rfl
 rw [e1,e2]
theorem OC {us:List Int} {p:Nat} {x:Cd} (hx:oL x) (hl:p+(iZ x).length≤us.length) (h:∀j,j<(iZ x).length→us.getD (p+j) 0=(iZ x).getD j 0):jE us p=(x,wd (aF x.op),0):=by
 obtain⟨g1,g2⟩:=YD hx
 obtain⟨m1,m3,ml⟩:=yN x hx.q
 rw [ml] at h hl
 have Cj:Cd.sum x%256=x.op:=by have:=congrArg Cd.op g2;exact this
 have e0:us.getD p 0=Cd.sum x:=by
  have:=h 0 (by omega)
  rw [Nat.add_zero] at this
  rw [this]
  unfold iZ
  rw [List.getD_eq_getElem?_getD,List.getElem?_take,if_pos (by omega)]
  rfl
 have e1:1<wd (aF x.op)→us.getD (p+1) 0=x.k:=fun hw=>by
  rw [h 1 (by omega)]
  unfold iZ
  rw [List.getD_eq_getElem?_getD,List.getElem?_take,if_pos (by omega)]
  rfl
 have e2:2<wd (aF x.op)→us.getD (p+2) 0=x.x:=fun hw=>by
  rw [h 2 (by omega)]
  unfold iZ
  rw [List.getD_eq_getElem?_getD,List.getElem?_take,if_pos (by omega)]
  rfl
 unfold jE
 rw [Int.toNat_natCast,e0,Cj,if_neg (by omega),if_neg (by omega),if_neg (by omega),if_neg hx.q,if_neg (by omega),if_pos g1,Uf e1 e2,g2]
def nD (xs:List Cd) (j:Nat):Nat:=(dF (xs.take j)).length
theorem Ja (xs:List Cd):nD xs 0=0:=rfl
theorem OD (xs:List Cd):nD xs xs.length=(dF xs).length:=by unfold nD;rw [List.take_length]
theorem Ug (xs:List Cd) (j:Nat) (hj:j<xs.length):xs.take (j+1)=xs.take j++ [xs[j]]:=by
 rw [List.take_add_one,List.getElem?_eq_getElem hj];rfl
theorem yg (xs:List Cd) (j:Nat) (hj:j<xs.length):nD xs (j+1)=nD xs j+(iZ xs[j]).length:=by
 unfold nD;rw [Ug xs j hj,Bz]
theorem sW {xs:List Cd} (hx:∀x∈xs,oL x) (j:Nat) (hj:j<xs.length):jE (dF xs) (nD xs j)=(xs[j],wd (aF xs[j].op),0)∧nD xs (j+1)=nD xs j+(wd (aF xs[j].op)).toNat∧1≤(wd (aF xs[j].op)).toNat∧(wd (aF xs[j].op)).toNat≤3∧nD xs (j+1)≤(dF xs).length:=by
 have hm:=hx _ (List.getElem_mem hj)
 obtain⟨m1,m3,ml⟩:=yN xs[j] hm.q
 have es:dF xs=dF (xs.take j)++(iZ xs[j]++dF (xs.drop (j+1))):=by
  have:xs=xs.take j++(xs[j]::xs.drop (j+1)):=by rw [←List.drop_eq_getElem_cons hj,List.take_append_drop]
  conv=>lhs;rw [this]
  unfold dF
  rw [List.flatMap_append,List.flatMap_cons]
 have el:(dF xs).length=nD xs j+((iZ xs[j]).length+(dF (xs.drop (j+1))).length):=by
  conv=>lhs;rw [es]
  rw [List.length_append,List.length_append];rfl
 refine⟨OC hm (by omega) (fun k hk=> ?_),by rw [yg xs j hj,ml],m1,m3,by rw [yg xs j hj];omega⟩
 rw [es,List.getD_eq_getElem?_getD,List.getD_eq_getElem?_getD,List.getElem?_append_right (by unfold nD;omega)]
 rw [show nD xs j+k-(dF (xs.take j)).length=k by unfold nD;omega,List.getElem?_append_left hk]
end Go.Proofs.Ytcjcmnnhmajocab.Gn
