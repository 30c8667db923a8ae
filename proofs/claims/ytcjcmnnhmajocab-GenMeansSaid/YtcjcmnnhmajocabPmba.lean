import Derived.Test.YtcjcmnnhmajocabPmar
import Derived.Test.YtcjcmnnhmajocabPmaz
set_option linter.unusedVariables false
set_option linter.unusedSimpArgs false
set_option maxRecDepth 100000
set_option maxHeartbeats 16000000
namespace Go.Proofs.Ytcjcmnnhmajocab.Gn
open Go.RowKit Kt Ic Hr Ho Me
structure Vl where
 reg:Int
 aZ:Int
 uses:List Int
structure Gm where
 xs:List Cd
 v:Nat→Vl
 holds:Nat→Int
 pin:Nat→Bool
 sp:Int
structure Gk where
 os:List cZ
 ao:Option Addr
 cap:Nat
 pc:Int
 aC:Int
 bg:Int
 R:Nat
 h:Nat
 vb:Nat
 base:Nat
 ex:Nat→Prop
def Cd.sum (x:Cd):Int:=(x.op+256*x.d+4096*x.a+65536*x.b+1048576*x.c+65536*x.n)%4294967296
def iZ (x:Cd):List Int:= [Cd.sum x,x.k,x.x].take (wd (aF x.op)).toNat
def dF (xs:List Cd):List Int:=xs.flatMap iZ
structure oL (x:Cd):Prop where
 op:0≤x.op∧x.op<256
 q:aF x.op≠0
 e:dS (aF x.op) x.op x.d x.a x.b x.c x.n x.k x.x
def tk (o:cZ):List Int:=
 if o.k=4∨o.k=10 then [o.a,o.b] else if o.k=6∨o.k=7 then [o.a,o.b,o.c] else
 if o.k=3∨o.k=5∨o.k=8∨o.k=9∨o.k=12∨o.k=13∨o.k=16 then [o.a] else []
def Gm.put (g:Gm) (x:Cd):Gm:={g with xs:=g.xs++ [x]}
def hd0 (l:List Int):Int:=match l with
 | u::_=>u
 | []=>1073741824
def uF (g:Gm) (t:Nat):Int:=hd0 (g.v t).uses
def Gm.eY (g:Gm) (r:Nat) (x:Int):Gm:={g with holds:=aO g.holds r x}
def Gm.eF (g:Gm) (t:Nat) (x:Int):Gm:={g with v:=aO g.v t {g.v t with reg:=x}}
def Gm.gI (g:Gm) (t:Nat) (x:Int):Gm:={g with v:=aO g.v t {g.v t with aZ:=x}}
def Gm.kH (g:Gm) (t:Nat) (x:List Int):Gm:={g with v:=aO g.v t {g.v t with uses:=x}}
def Gm.jf (g:Gm) (r:Nat) (b:Bool):Gm:={g with pin:=aO g.pin r b}
def Gm.au (g:Gm):Gm:={g with pin:=fun _=>false}
def Gm.iD (g:Gm) (x:Int):Gm:={g with sp:=x}
def Gm.has (g:Gm) (r t:Nat):Gm:=(g.eY r t).eF t r
def qW (r sp:Int):Cd:=⟨9,0,r,0,0,sp,0,0⟩
def uG (r sp:Int):Cd:=⟨8,r,0,0,0,sp,0,0⟩
def JH (r k:Int):Cd:=⟨2,r,0,0,0,0,k,0⟩
def iw (os:List cZ) (g:Gm) (t:Nat):Bool:=decide (uF g t≠1073741824)&&(decide ((g.v t).aZ<0)&&decide (jW os t≠1))
def Gm.lay (os:List cZ) (g:Gm) (t:Nat):Gm:=if iw os g t then((g.gI t g.sp).iD (g.sp+1)).put (qW (g.v t).reg g.sp) else g
def Gm.out (os:List cZ) (g:Gm) (t:Nat):Gm:=((g.lay os t).eY (g.v t).reg.toNat (-1)).eF t (-1)
def kU (g:Gm):Nat→Int×Int
 | 0=>(-1,-1)
 | r+1=>if g.pin r then kU g r else
   if(kU g r).2<(if 0≤g.holds r then uF g (g.holds r).toNat else 1073741825) then((r:Int),if 0≤g.holds r then uF g (g.holds r).toNat else 1073741825) else kU g r
def Gm.jF (os:List cZ) (R:Nat) (g:Gm):Gm:=if 0≤g.holds (kU g R).1.toNat then g.out os (g.holds (kU g R).1.toNat).toNat else g
def opAt (os:List cZ) (t:Nat):cZ:=os.getD t ⟨0,0,0,0,0,0,0⟩
def Gm.fetch (os:List cZ) (g:Gm) (r t:Nat):Gm:=(g.put (if(opAt os t).k=1 then JH r (opAt os t).kn else uG r (g.v t).aZ)).has r t
def Gm.zq (R:Nat) (g:Gm) (t:Nat):Int:=if(g.v t).reg<0 then(kU g R).1 else(g.v t).reg
def Gm.vT (os:List cZ) (R:Nat) (g:Gm) (t:Nat):Gm:=if(g.v t).reg<0 then((g.jF os R).fetch os (kU g R).1.toNat t).jf (kU g R).1.toNat true else g.jf (g.v t).reg.toNat true
def Gm.ins (os:List cZ) (R:Nat):List Int→Gm→List Int×Gm
 | [],g=>([],g)
 | t::l,g=>(g.zq R t.toNat::(Gm.ins os R l (g.vT os R t.toNat)).1,(Gm.ins os R l (g.vT os R t.toNat)).2)
def Gm.jy (i:Int) (g:Gm) (t:Nat):Gm:=if hd0 (g.v t).uses=i then g.kH t (g.v t).uses.tail else g
def Gm.used (i:Int) (l:List Int) (g:Gm):Gm:=l.foldl (fun g t=>g.jy i t.toNat) g
def Gm.dN (g:Gm):Nat→Gm
 | 0=>g
 | r+1=>if 0≤(g.dN r).holds r∧uF (g.dN r) ((g.dN r).holds r).toNat=1073741824 then((g.dN r).eY r (-1)).eF ((g.dN r).holds r).toNat (-1) else g.dN r
def emp (g:Gm) (r:Nat):Nat→Option Nat
 | 0=>none
 | n+1=>if g.holds r<0 then some r else emp g (r+1) n
def Gm.uT (R:Nat) (g:Gm):Int:=match emp (g.dN R) 0 R with
 | some r=>r
 | none=>(kU (g.dN R) R).1
def Gm.gU (os:List cZ) (R:Nat) (g:Gm):Gm:=match emp (g.dN R) 0 R with
 | some r=>g.dN R
 | none=>(g.dN R).jF os R
def qo (o:cZ) (d a b c:Int):Cd:=
 if o.k=2 then⟨6,d,a,b,c,o.w,0,0⟩ else if o.k=17 then⟨97,d,a,b,c,0,0,0⟩ else if o.k=4 then⟨16+o.w,d,a,b,c,0,0,0⟩ else
 if o.k=5 then⟨32+o.w,d,a,b,c,0,0,0⟩ else if o.k=6 then⟨5,d,a,b,c,0,0,0⟩ else if o.k=7 then⟨48+o.w,d,a,b,c,0,0,0⟩ else
 if o.k=8 then⟨64+o.w,d,a,b,c,0,0,0⟩ else if o.k=9 then⟨80+o.w,d,a,b,c,o.n,o.kn,0⟩ else⟨0,d,a,b,c,0,0,0⟩
def jc (o:cZ) (a b:Int):Cd:=
 if o.k=3 then⟨7,0,a,0,0,o.w,o.kn,0⟩ else if o.k=10 then⟨88+o.w,b,a,0,0,o.n,o.kn,0⟩ else if o.k=11 then⟨10,0,a,0,0,o.n,o.kn,0⟩ else
 if o.k=12 then⟨11,0,a,0,0,o.n,o.kn,0⟩ else if o.k=13 then⟨13,o.w,a,0,0,o.n,o.kn,0⟩ else if o.k=14 then⟨12,o.w,a,0,0,o.n,o.kn,o.b%4294967296⟩ else
 if o.k=15 then⟨14,0,a,0,0,o.n,o.kn,0⟩ else if o.k=16 then⟨4,0,a,0,0,o.n,o.kn,0⟩ else⟨0,0,a,0,0,o.n,o.kn,0⟩
def Gm.give (os:List cZ) (R:Nat) (i:Nat) (o:cZ) (r:List Int) (g:Gm):Gm:=
 if o.k=1 then g else((g.au.gU os R).put (qo o (g.au.uT R) (r.getD 0 0) (r.getD 1 0) (r.getD 2 0))).has (g.au.uT R).toNat i
def Gm.one (os:List cZ) (R:Nat) (g:Gm) (i:Nat) (o:cZ):Gm:=
 let p:=Gm.ins os R (tk o) g.au
 if gv o.k then(p.2.used i (tk o)).give os R i o p.1 else(p.2.used i (tk o)).put (jc o (p.1.getD 0 0) (p.1.getD 1 0))
def Gm.all (os:List cZ) (R:Nat) (g:Gm):Nat→Gm
 | 0=>g
 | i+1=>(Gm.all os R g i).one os R i (opAt os i)
def oM (os:List cZ) (i m t:Nat):List Int:=
 ((List.range i).flatMap fun j=>((tk (opAt os j)).filter fun x=>x==(t:Int)).map fun _=>(j:Int))++(((tk (opAt os i)).take m).filter fun x=>x==(t:Int)).map fun _=>(i:Int)
def uH (os:List cZ) (pc aC:Int):Gm:=⟨[⟨1,0,0,0,0,aC,pc,0⟩],fun t=>⟨-1,-1,oM os os.length 0 t⟩,fun _=> -1,fun _=>false,0⟩
def lN (os:List cZ) (R:Nat) (pc aC:Int):Gm:=Gm.all os R (uH os pc aC) os.length
def cS (g:Gm):Nat→Nat
 | 0=>0
 | n+1=>cS g n+if 0≤(g.v n).aZ then 1 else 0
structure GI (os:List cZ) (R i:Nat) (g:Gm):Prop where
 hh:∀r,g.holds r<os.length
 hl:∀r,-1≤g.holds r
 hv:∀r t:Nat,g.holds r=t→(g.v t).reg=r
 vr:∀t,-1≤(g.v t).reg∧(g.v t).reg<R
 vh:∀t r:Nat,(g.v t).reg=r→g.holds r=t
 vs:∀t,-1≤(g.v t).aZ∧(g.v t).aZ<g.sp
 sp:g.sp=cS g os.length
 un:∀t,∀u∈(g.v t).uses,0≤u∧u<1073741824
 w:∀t,t<i→(opAt os t).k≠1→(g.v t).uses≠ []→0≤(g.v t).reg∨0≤(g.v t).aZ
 F9:∀t,i≤t→(g.v t).reg= -1∧(g.v t).aZ= -1
theorem Gf (os:List cZ) (t:Nat):jW os t=(opAt os t).k:=by
 unfold jW opAt
 rw [List.getD_eq_getElem?_getD]
 cases os[t]?<;>rfl
theorem kJ {g g':Gm} {n:Nat} (h:∀t,t<n→(g'.v t).aZ=(g.v t).aZ):cS g' n=cS g n:=by
 induction n with
 | zero=>rfl
 | succ n ih=>rw [cS,cS,ih fun t ht=>h t (by omega),h n (by omega)]
theorem abt {g:Gm} {n t:Nat} (ht:t<n) (h:(g.v t).aZ<0):cS g n<n:=by
 have le:∀m,cS g m≤m:=fun m=>by
  induction m with
  | zero=>exact Nat.le_refl _
  | succ m ih=>rw [cS];split<;>omega
 induction n with
 | zero=>omega
 | succ n ih=>
  rw [cS]
  by_cases e:t=n
  ·subst e;rw [if_neg (by omega)];have:=le t;omega
  ·have:=ih (by omega);split<;>omega
theorem abu (g:Gm) (n:Nat):cS g n≤n:=by
 induction n with
 | zero=>exact Nat.le_refl _
 | succ n ih=>rw [cS];split<;>omega
theorem Yf {g:Gm} {n t:Nat} {x:Int} (ht:t<n) (h:(g.v t).aZ<0) (hx:0≤x):cS (g.gI t x) n=cS g n+1:=by
 induction n with
 | zero=>omega
 | succ n ih=>
  rw [cS,cS]
  by_cases e:t=n
  ·rw [←e,kJ (g:=g) (g':=g.gI t x) (fun j hj=>by simp [Gm.gI,aO,Nat.ne_of_lt hj])]
   have h1:((g.gI t x).v t).aZ=x:=by simp [Gm.gI,aO]
   rw [h1,if_pos hx,if_neg (by omega)]
  ·rw [ih (by omega)]
   have:((g.gI t x).v n).aZ=(g.v n).aZ:=by
    have:(g.gI t x).v n=g.v n:=by simp only [Gm.gI,aO];exact if_neg (fun h=>e h.symm)
    rw [this]
   rw [this];omega
theorem Yg {l:List Int} (h:∀u∈l,0≤u∧u<1073741824):0≤hd0 l:=by
 cases l with
 | nil=>exact(by decide:(0:Int)≤1073741824)
 | cons u l=>exact(h u (by simp)).1
variable {os:List cZ} {R i:Nat} {g:Gm}
theorem GI.nn (a:GI os R i g) (t:Nat):0≤uF g t:=Yg (a.un t)
theorem GI.spl (a:GI os R i g) (hn:os.length≤2048):0≤g.sp∧g.sp≤2048:=by
 have:=a.sp;have:=abu g os.length;omega
theorem GI.sp0 (a:GI os R i g) (hn:os.length≤2048) {t:Nat} (ht:t<os.length) (hs:(g.v t).aZ<0):0≤g.sp∧g.sp<2048:=by
 have:=a.sp;have:=abt ht hs;omega
theorem Ew (hn:∀t,0≤uF g t):∀m,(∃r,r<m∧g.pin r=false)→∃b:Nat,b<m∧(kU g m).1=b∧g.pin b=false∧0≤(kU g m).2
 | 0,h=>by obtain⟨r,hr,_⟩:=h;omega
 | m+1,h=>by
  rw [kU]
  by_cases hp:g.pin m=true
  ·rw [if_pos hp]
   obtain⟨r,hr,hf⟩:=h
   have:r≠m:=fun e=>by rw [e,hp] at hf;exact Bool.noConfusion hf
   obtain⟨b,h1,h2⟩:=Ew hn m ⟨r,by omega,hf⟩
   exact⟨b,by omega,h2⟩
  ·rw [if_neg hp]
   have Td:g.pin m=false:=by simpa using hp
   have hv:0≤(if 0≤g.holds m then uF g (g.holds m).toNat else 1073741825):=by
    split
    ·exact hn _
    ·decide
   by_cases hc:(kU g m).2<(if 0≤g.holds m then uF g (g.holds m).toNat else 1073741825)
   ·rw [if_pos hc]
    exact⟨m,by omega,rfl,Td,hv⟩
   ·rw [if_neg hc]
    by_cases he:∃r,r<m∧g.pin r=false
    ·obtain⟨b,h1,h2⟩:=Ew hn m he
     exact⟨b,by omega,h2⟩
    ·have:kU g m=(-1,-1):=by
      have:∀k,k≤m→kU g k=(-1,-1):=fun k=>by
       induction k with
       | zero=>exact fun _=>rfl
       | succ k ih=>
        intro hk
        rw [kU,if_pos,ih (by omega)]
        cases hq:g.pin k
        ·exact absurd ⟨k,by omega,hq⟩ he
        ·rfl
      exact this m (Nat.le_refl _)
     rw [this] at hc
     simp only at hc
     omega
theorem Oc (t:Nat):(g.lay os t).holds=g.holds∧(g.lay os t).pin=g.pin∧(∀j,((g.lay os t).v j).reg=(g.v j).reg∧((g.lay os t).v j).uses=(g.v j).uses)∧∀j,j≠t→((g.lay os t).v j).aZ=(g.v j).aZ:=by
 unfold Gm.lay
 split
 ·refine⟨rfl,rfl,fun j=> ?_,fun j hj=> ?_⟩
  ·by_cases e:j=t
   ·subst e;simp [Gm.put,Gm.iD,Gm.gI,aO]
   ·simp [Gm.put,Gm.iD,Gm.gI,aO,e]
  ·simp [Gm.put,Gm.iD,Gm.gI,aO,hj]
 ·exact⟨rfl,rfl,fun j=>⟨rfl,rfl⟩,fun j _=>rfl⟩
theorem GI.lay (a:GI os R i g) (hn:os.length≤2048) {t:Nat} (ht:t<os.length) (hi:t<i):GI os R i (g.lay os t)∧((opAt os t).k≠1→(g.v t).uses≠ []→0≤((g.lay os t).v t).aZ):=by
 obtain⟨e1,e2,e3,e4⟩:=Oc (os:=os) (g:=g) t
 have rV:=a.spl hn
 by_cases hs:iw os g t=true
 ·have hl:g.lay os t=((g.gI t g.sp).iD (g.sp+1)).put (qW (g.v t).reg g.sp):=by unfold Gm.lay;rw [if_pos hs]
  have Z8:(g.v t).aZ<0:=by unfold iw at hs;simp only [Bool.and_eq_true,decide_eq_true_eq] at hs;exact hs.2.1
  have ev:((g.lay os t).v t).aZ=g.sp:=by rw [hl];simp [Gm.put,Gm.iD,Gm.gI,aO]
  have es:(g.lay os t).sp=g.sp+1:=by rw [hl];rfl
  have ec:cS (g.lay os t) os.length=cS g os.length+1:=by rw [hl,←Yf ht Z8 rV.1];exact kJ fun _ _=>rfl
  refine⟨⟨by rw [e1];exact a.hh,by rw [e1];exact a.hl,fun r t' h=>by rw [(e3 t').1];exact a.hv r t' (by rw [←e1];exact h),fun t'=>by rw [(e3 t').1];exact a.vr t',fun t' r h=>by rw [e1];exact a.vh t' r (by rw [←(e3 t').1];exact h),fun t'=> ?_,by rw [es,ec,a.sp];rfl,fun t'=>by rw [(e3 t').2];exact a.un t',fun t' h1 h2 h3=> ?_,fun t' h1=> ?_⟩,fun _ _=>by rw [ev];exact rV.1⟩
  ·by_cases e:t'=t
   ·subst e;rw [ev,es];omega
   ·rw [e4 t' e,es];have:=a.vs t';omega
  ·rw [(e3 t').1];rw [(e3 t').2] at h3
   by_cases e:t'=t
   ·subst e;rw [ev];exact .inr rV.1
   ·rw [e4 t' e];exact a.w t' h1 h2 h3
  ·rw [(e3 t').1,e4 t' (by omega)];exact a.F9 t' h1
 ·have hl:g.lay os t=g:=by unfold Gm.lay;rw [if_neg hs]
  rw [hl]
  refine⟨a,fun h1 h2=> ?_⟩
  unfold iw at hs
  simp only [Bool.and_eq_true,decide_eq_true_eq] at hs
  have hx:uF g t≠1073741824:=by
   unfold uF
   cases hu:(g.v t).uses with
   | nil=>exact absurd hu h2
   | cons u l=>
    have:=a.un t u (by rw [hu];simp)
    show u≠_
    omega
  exact Int.not_lt.1 fun hh=>hs ⟨hx,hh,by rw [Gf];exact h1⟩
theorem VU (t:Nat):(∀r:Nat,(g.out os t).holds r=if r=(g.v t).reg.toNat then-1 else g.holds r)∧(g.out os t).pin=g.pin∧((g.out os t).v t).reg= -1∧(∀j,j≠t→(g.out os t).v j=g.v j)∧(∀j,((g.out os t).v j).uses=(g.v j).uses)∧((g.out os t).v t).aZ=((g.lay os t).v t).aZ:=by
 obtain⟨e1,e2,e3,e4⟩:=Oc (os:=os) (g:=g) t
 refine⟨fun r=> ?_, ?_, ?_,fun j hj=> ?_,fun j=> ?_, ?_⟩
 ·show aO (g.lay os t).holds _ (-1) r=_
  unfold aO;rw [e1]
 ·exact e2
 ·simp [Gm.out,Gm.eF,Gm.eY,aO]
 ·have:(g.out os t).v j=(g.lay os t).v j:=by simp [Gm.out,Gm.eF,Gm.eY,aO,hj]
  rw [this]
  have h1:=(e3 j).1;have h2:=(e3 j).2;have h3:=e4 j hj
  cases h:(g.lay os t).v j;cases h':g.v j
  rw [h,h'] at h1 h2 h3
  simp_all
 ·by_cases e:j=t
  ·subst e;simp only [Gm.out,Gm.eF,Gm.eY,aO,if_true];exact(e3 j).2
  ·simp only [Gm.out,Gm.eF,Gm.eY,aO,if_neg e];exact(e3 j).2
 ·simp [Gm.out,Gm.eF,Gm.eY,aO]
theorem GI.out (a:GI os R i g) (hn:os.length≤2048) {t r:Nat} (ht:t<os.length) (hr:(g.v t).reg=r):GI os R i (g.out os t):=by
 have hi:t<i:=by
  refine Nat.lt_of_not_le fun h=> ?_
  have:=(a.F9 t h).1
  omega
 obtain⟨b,bs⟩:=a.lay hn ht hi
 obtain⟨e1,e2,e3,e4,e5,e6⟩:=VU (os:=os) (g:=g) t
 obtain⟨l1,l2,l3,l4⟩:=Oc (os:=os) (g:=g) t
 have hrt:(g.v t).reg.toNat=r:=by rw [hr];rfl
 rw [hrt] at e1
 have esp:(g.out os t).sp=(g.lay os t).sp:=rfl
 refine⟨fun r'=> ?_,fun r'=> ?_,fun r' t' h=> ?_,fun t'=> ?_,fun t' r' h=> ?_,fun t'=> ?_, ?_,fun t'=>by rw [e5];exact a.un t',fun t' h1 h2 h3=> ?_,fun t' h1=> ?_⟩
 ·rw [e1];split
  ·omega
  ·exact a.hh r'
 ·rw [e1];split
  ·omega
  ·exact a.hl r'
 ·rw [e1] at h
  split at h
  ·omega
  ·next dU=>
   have h1:=a.hv r' t' h
   have:t'≠t:=fun e=>by rw [e] at h1;omega
   rw [e4 t' this];exact h1
 ·by_cases e:t'=t
  ·rw [e,e3];have:=a.vr t;omega
  ·rw [e4 t' e];exact a.vr t'
 ·by_cases e:t'=t
  ·rw [e,e3] at h;omega
  ·rw [e4 t' e] at h
   have h1:=a.vh t' r' h
   rw [e1,if_neg,h1]
   intro e'
   subst e'
   have:=a.vh t r' hr
   omega
 ·rw [esp]
  by_cases e:t'=t
  ·rw [e,e6];exact b.vs t
  ·have:=b.vs t';rw [l4 t' e] at this;rw [e4 t' e];exact this
 ·rw [esp,b.sp,kJ fun t' _=> ?_]
  by_cases e:t'=t
  ·rw [e];exact e6.symm
  ·rw [e4 t' e,l4 t' e]
 ·by_cases e:t'=t
  ·rw [e];rw [e] at h2 h3;rw [e6];rw [e5] at h3;exact .inr (bs h2 h3)
  ·rw [e4 t' e];rw [e4 t' e] at h3;exact a.w t' h1 h2 h3
 ·rw [e4 t' (by omega)];exact a.F9 t' h1
theorem oh {os:List cZ} {aC:Int}:∀n,n≤os.length→(scan os aC n).1=0→(∀k,k<n→fQ os aC (os.length-(k+1))=0)∧gG os=true
 | 0,_,h=>by
  refine⟨fun k hk=>absurd hk (by omega), ?_⟩
  unfold scan at h
  by_cases e:gG os=true
  ·exact e
  ·rw [if_neg e] at h
   exact absurd h (show¬ (7:Int)=0 by decide)
 | n+1,hn,h=>by
  unfold scan at h
  by_cases e:fQ os aC (os.length-(n+1))=0
  ·rw [if_pos (by simp [e])] at h
   obtain⟨h1,h2⟩:=oh n (by omega) h
   refine⟨fun k hk=> ?_,h2⟩
   by_cases kW:k=n
   ·rw [kW];exact e
   ·exact h1 k (by omega)
  ·rw [if_neg (by simpa using e)] at h
   exact absurd h e
structure Gg (os:List cZ) (aC:Int) (i:Nat) (o:cZ):Prop where
 k:1≤o.k∧o.k≤17
 w:0≤o.w∧(o.k=2∨o.k=3→o.w<12)∧(o.k=4∨o.k=8→o.w<16)∧(o.k=5→o.w<7)∧(o.k=7→o.w<13)∧(o.k=9→o.w<5)∧(o.k=10→o.w<3)∧(o.k=13∨o.k=14→1≤o.w∧o.w<8)∧(o.k=1∨o.k=6∨o.k=11∨o.k=12∨o.k=15∨o.k=16∨o.k=17→o.w=0)
 n:0≤o.n∧o.n≤aC∧(o.k<9∨o.k=17→o.n=0)
 kn:(2≤o.k∧o.k≤8)∨o.k=16∨o.k=17→o.kn=0
 t:∀x∈tk o,0≤x∧x<(i:Int)∧gv (jW os x.toNat)=true
 f:14≤o.k∧o.k≤16→¬ (i:Int) <(os.length:Int)-1
 w16:o.w<16
theorem Ey {x2 x4 x6 x8 uO yK:Bool} (h:Eu x2 x4 x6 x8 uO yK=0):x2=false∧x4=false∧x6=false∧x8=false∧uO=false∧yK=false:=by
 unfold Eu at h
 cases x2<;>cases x4<;>cases x6<;>cases x8<;>cases uO<;>cases yK<;>simp at h⊢
theorem Oe {k:Int} (h:rO k=true):1≤k∧k≤17:=by
 unfold rO at h
 split at h<;>first | omega | exact absurd h (by decide)
theorem sS {os:List cZ} {i:Nat} {t:Int} (h:nI os i t=true):0≤t∧t<(i:Int)∧gv (jW os t.toNat)=true:=by
 unfold nI at h
 simp only [Bool.and_eq_true,decide_eq_true_eq] at h
 exact⟨h.1.1,h.1.2,h.2⟩
theorem Yh {os:List cZ} {aC:Int} {i:Nat} {o:cZ} (h:SV os aC i o=0):Gg os aC i o:=by
 unfold SV at h
 obtain⟨h2,h4,h6,h8,Fz,ZH⟩:=Ey h
 have hk:=Oe (k:=o.k) (by unfold e2 at h2;simp only [Bool.or_eq_false_iff,Bool.not_eq_false'] at h2;simpa using h2.1)
 obtain⟨k,w,a,b,c,kn,n⟩:=o
 dsimp only at*
 unfold e2 at h2
 unfold e4 at h4
 unfold lK at Fz
 unfold jS at ZH
 clear h h6 h8
 rcases(show k=1∨k=2∨k=3∨k=4∨k=5∨k=6∨k=7∨k=8∨k=9∨k=10∨k=11∨k=12∨k=13∨k=14∨k=15∨k=16∨k=17 by omega) with rfl | rfl | rfl | rfl | rfl | rfl | rfl | rfl | rfl | rfl | rfl | rfl | rfl | rfl | rfl | rfl | rfl
 all_goals
  simp only [rS,rA,rB,rC,rK,rN,rF,rO,Bool.not_true,Bool.not_false,Bool.false_or,Bool.true_and,Bool.false_and,Bool.or_false,Bool.or_eq_false_iff,Bool.not_eq_false',decide_eq_false_iff_not,bne_eq_false_iff_eq,Bool.and_eq_false_iff,beq_eq_false_iff_ne] at h2 h4 Fz ZH
  refine⟨by dsimp only;omega,by dsimp only;simp at h2;omega,by dsimp only;simp at h4;omega,by dsimp only;simp at h4;omega, ?_,by dsimp only;simp at ZH⊢;try omega,by dsimp only;simp at h2;omega⟩
  intro x hx
  simp [tk] at hx
  try(first
   | (rcases hx with rfl | rfl | rfl<;>exact sS (by simp_all))
   | (rcases hx with rfl | rfl<;>exact sS (by simp_all))
   | (subst hx;exact sS (by simp_all)))
theorem sU {os:List cZ} {aC bg:Int} (h:(uh os aC bg).1=0):0<os.length∧os.length≤2048∧0≤aC∧aC≤64∧(∀i,i<os.length→Gg os aC i (opAt os i))∧gG os=true:=by
 unfold uh at h
 by_cases h1:2048<os.length
 ·rw [if_pos h1] at h;exact absurd h (by decide)
 rw [if_neg h1] at h
 by_cases h2:aC<0∨64<aC∨bg<0∨384<bg
 ·rw [if_pos h2] at h;exact absurd h (by decide)
 rw [if_neg h2] at h
 obtain⟨h3,h4⟩:=oh os.length (Nat.le_refl _) h
 have h0:0<os.length:=by
  rcases Nat.eq_zero_or_pos os.length with e | e
  ·unfold gG at h4
   rw [List.getElem?_eq_none (by omega)] at h4
   exact absurd h4 (by decide)
  ·exact e
 refine⟨h0,by omega,by omega,by omega,fun i hi=> ?_,h4⟩
 have:=h3 (os.length-(i+1)) (by omega)
 rw [show os.length-(os.length-(i+1)+1)=i by omega] at this
 unfold fQ at this
 rw [List.getElem?_eq_getElem hi] at this
 have e:opAt os i=os[i]:=by unfold opAt;rw [List.getD_eq_getElem?_getD,List.getElem?_eq_getElem hi];rfl
 rw [e]
 exact Yh this
end Go.Proofs.Ytcjcmnnhmajocab.Gn
