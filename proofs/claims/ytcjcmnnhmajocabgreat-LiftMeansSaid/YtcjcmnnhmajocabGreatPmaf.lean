import Derived.Deep.LoopGhost
import Derived.Test.YtcjcmnnhmajocabGreatPmae
set_option linter.unusedVariables false
set_option linter.unusedSimpArgs false
set_option maxRecDepth 100000
set_option maxHeartbeats 16000000
namespace Go.Proofs.YtcjcmnnhmajocabGreat.Me
open Go.RowKit Kt
def cntN (f:Nat→Bool):Nat→Nat
 | 0=>0
 | n+1=>cntN f n+if f n=true then 1 else 0
theorem Qk (f:Nat→Bool) (n:Nat):cntN f n≤n:=by
 induction n with
 | zero=>exact Nat.le_refl _
 | succ n ih=>simp only [cntN];split<;>omega
theorem JO (f:Nat→Bool) (k:Nat) (v:Bool) (n:Nat) (h:n≤k):cntN (aF f k v) n=cntN f n:=by
 induction n with
 | zero=>rfl
 | succ n ih=>
  simp only [cntN,ih (by omega)]
  rw [show aF f k v n=f n from by unfold aF;rw [if_neg (by omega)]]
theorem E8 (f:Nat→Bool) (k n:Nat) (hk:k<n) (hf:f k=false):cntN (aF f k true) n=cntN f n+1:=by
 induction n with
 | zero=>omega
 | succ n ih=>
  simp only [cntN]
  by_cases oQ:k=n
  ·subst oQ
   rw [JO f k true k (Nat.le_refl _),hf]
   simp [aF]
  ·rw [ih (by omega),show aF f k true n=f n from by unfold aF;rw [if_neg (by omega)]]
   omega
theorem Gy (f:Nat→Bool) (k n:Nat) (hk:k<n) (hf:f k=true):cntN f n=cntN (aF f k false) n+1:=by
 have h:cntN (aF (aF f k false) k true) n=cntN (aF f k false) n+1:=E8 _ k n hk (by simp [aF])
 rw [←h]
 congr 1
 funext j
 unfold aF
 split
 ·next e=>subst e;exact hf
 ·rfl
theorem JQ (f:Nat→Bool) (n:Nat):0<cntN f n↔∃k,k<n∧f k=true:=by
 induction n with
 | zero=>simp [cntN]
 | succ n ih=>
  simp only [cntN]
  constructor
  ·intro h
   by_cases hf:f n=true
   ·exact⟨n,by omega,hf⟩
   ·rw [if_neg hf] at h
    obtain⟨k,hk,hfk⟩:=ih.1 (by omega)
    exact⟨k,by omega,hfk⟩
  ·rintro⟨k,hk,hfk⟩
   by_cases oQ:k=n
   ·subst oQ;rw [if_pos hfk];omega
   ·have:=ih.2 ⟨k,by omega,hfk⟩
    omega
def aj (f:Nat→Bool):Int:=(cntN f 256:Nat)
theorem sO (f:Nat→Bool):0≤aj f∧aj f≤256:=by
 have:=Qk f 256
 unfold aj;omega
theorem Vs {f:Nat→Bool} {k:Nat} (hk:k<256) (hf:f k=false):aj (aF f k true)=aj f+1:=by
 unfold aj;rw [E8 f k 256 hk hf];omega
theorem JR {f:Nat→Bool} {k:Nat} (hk:k<256) (hf:f k=true):aj (aF f k false)=aj f-1:=by
 unfold aj;rw [Gy f k 256 hk hf];omega
def dG (f:Nat→Bool):Bool:=decide (0<cntN f 256)
theorem Ad (f:Nat→Bool):dG f=true↔∃k,k<256∧f k=true:=by
 unfold dG;rw [decide_eq_true_iff];exact JQ f 256
def HC (p:Nat) (M:MM) (W:World):Prop:=HM p M (aj M.hi) W
theorem HC.upto {p:Nat} {M:MM} {S:Nat→Prop} {w w':World} (h:HC p M w) (u:ah S w w') (hs:¬S p):HC p M w':=HM.upto h u hs
theorem Fa (M:MM) (k:Nat) (hk:k<256):Jz M (aj M.hi) k=aj (l7 M k).hi:=by
 unfold Jz l7
 split
 ·next h=>simp only [Bool.and_eq_true,Bool.not_eq_true'] at h;rw [Vs hk h.2]
 ·rfl
theorem Ql (M:MM) (k:Nat) (x:Int) (hk:k<256):Qh M (aj M.hi) k x=aj (Um M k x).hi:=by
 unfold Qh Um
 split
 ·rfl
 ·exact Fa M k hk
theorem Qm (M:MM) (k:Nat) (b:Bool) (hk:k<256):Qi M (aj M.hi) k b=aj (Jf M k b).hi:=by
 unfold Qi Jf
 split
 ·next h=>rw [JR hk h.2]
 ·rfl
theorem JU (M:MM) (k:Nat):(l7 M k).fD=M.fD∧(l7 M k).rt=M.rt∧(l7 M k).wd=M.wd:=by unfold l7;split<;>exact⟨rfl,rfl,rfl⟩
theorem MM.ext {M N:MM} (h1:M.fD=N.fD) (h2:M.rt=N.rt) (h3:M.wd=N.wd) (h4:M.hi=N.hi):M=N:=by
 cases M;cases N;simp_all
def pk (M:MM):Nat→List Int→MM
 | _, []=>M
 | at_,b::bs=>pk (l7 {M with fD:=aF M.fD at_ b} (at_/256)) (at_+1) bs
def aN (M:MM) (a:Int) (k:Nat):Int:=M.fD (a.toNat+k)
def jD (M:MM) (a n:Int):Int:=
 if(aQ M 1 a n.toNat).isNone then
  if n=1 then aN M a 0 else if n=2 then aN M a 0+aN M a 1*256 else if n=4 then aN M a 0+aN M a 1*256+aN M a 2*65536+aN M a 3*16777216 else 0
 else 0
def stpV (kind:Int) (o:Option Int):Value:=match o with
 | none=> .agg #[.int .i64 0, .int .u32 0]
 | some x=> .agg #[.int .i64 kind, .int .u32 x]
def O8 (n v:Int):List Int:=if n=1 then [v%256] else if n=2 then [v%256,v/256%256] else if n=4 then [v%256,v/256%256,v/65536%256,v/16777216] else []
def nU (M:MM) (a n v:Int):MM:=if n=1∨n=2∨n=4 then(if(aQ M 2 a n.toNat).isNone then pk M a.toNat (O8 n v) else M) else M
def jE (M:MM) (a n:Int):Option Int:=if n=1∨n=2∨n=4 then aQ M 2 a n.toNat else none
theorem iF {M:MM} {r a:Int} {n:Nat} (a0:0≤a) (a1:a<4294967296) (h:aQ M r a n=none) (k:Nat) (hk:k<n) (hn:n<65537):rE a k=a+k∧a+k<65536:=by
 have h0:=Ac h 0 (by omega)
 have CG:=Ac h k hk
 unfold lY at h0 CG
 simp only [Bool.and_eq_true,decide_eq_true_eq] at h0 CG
 have e0:rE a 0=a:=by unfold rE;omega
 rw [e0] at h0
 have:=CG.1
 unfold rE at this⊢
 omega
theorem ku {M:MM} (hM:bQ M) (a n:Int):0≤jD M a n∧jD M a n<4294967296:=by
 have b0:=hM.1 (a.toNat+0)
 have b1:=hM.1 (a.toNat+1)
 have b2:=hM.1 (a.toNat+2)
 have b3:=hM.1 (a.toNat+3)
 unfold jD aN
 split
 ·split
  ·omega
  ·split
   ·omega
   ·split
    ·omega
    ·omega
 ·omega
theorem Fb (n:Nat):cntN (fun _=>false) n=0:=by
 induction n with
 | zero=>rfl
 | succ n ih=>simp [cntN,ih]
theorem Vt:aj (fun _=>false)=0:=by unfold aj;rw [Fb];rfl
def mkE (k:Int):Int:=if 0≤k∧k<256 then 0 else 4
def uK (M:MM) (k:Int) (b:Bool):MM:=if 0≤k∧k<256 then Jf M k.toNat b else M
theorem JV (p:Nat) (M:MM) (k:Int) (b:Bool) (w:World) (h:HC p M w):
  Calls Tryz.prog 51 #[.pointer (some ⟨p,0,none⟩), .int .i64 k, .bool b] w fun e w'=>e= .returned (.int .i64 (mkE k))∧HC p (uK M k b) w'∧ah (fun i=>i=p) w w':=by
 unfold mkE uK
 by_cases hk:0≤k∧k<256
 ·rw [if_pos hk,if_pos hk]
  obtain⟨k0,k1⟩:=hk
  obtain⟨c,rfl⟩:=Int.eq_ofNat_of_zero_le k0
  refine(Qj p M (aj M.hi) c b w h (by omega) (sO _).1 (sO _).2).mono ?_
  rintro e w' ⟨rfl,h1,o1⟩
  refine⟨rfl, ?_,ah.yu o1⟩
  rw [Int.toNat_natCast]
  unfold HC
  rw [←Qm M c b (by omega)]
  exact h1
 ·rw [if_neg hk,if_neg hk]
  refine(JM p k b w (by omega)).mono ?_
  rintro e w' ⟨rfl,rfl⟩
  exact⟨rfl,h,ah.refl _ _⟩
theorem Ae:∃i,Tryz.prog.info? 3=some i∧i.zero=some (.int .i64 0)∧i.size=1∧i.bytes=8:=by
 have h:(Tryz.prog.info? 3).map (fun i=>(i.zero,i.size,i.bytes))=some (some (.int .i64 0),1,8):=by kernel_rfl
 obtain⟨i,hi,hz⟩:=Option.map_eq_some_iff.1 h
 simp only [Prod.mk.injEq] at hz
 exact⟨i,hi,hz.1,hz.2.1,hz.2.2⟩
structure RP where
 q:Nat
 b:Nat
 r:Nat
 m:Nat
 t:Nat
 cb:Nat
 cr:Nat
 cm:Nat
 ct:Nat
 hcb:65536≤cb
def RP.ok (P:RP):Prop:=P.q≠P.b∧P.q≠P.r∧P.q≠P.m∧P.q≠P.t∧P.b≠P.r∧P.b≠P.m∧P.b≠P.t∧P.r≠P.m∧P.r≠P.t∧P.m≠P.t
def RP.has (P:RP) (k:Nat):Prop:=k=P.q∨k=P.b∨k=P.r∨k=P.m∨k=P.t
structure RM (P:RP) (M:MM) (W:World):Prop where
 ok:P.ok
 wY:W.cell? ⟨P.q,0,none⟩=some (.slice (some ⟨P.b,0,none⟩) 65536 P.cb)
 Jc:W.cell? ⟨P.q,1,none⟩=some (.slice (some ⟨P.r,0,none⟩) 256 P.cr)
 Jg:W.cell? ⟨P.q,2,none⟩=some (.slice (some ⟨P.m,0,none⟩) 256 P.cm)
 JW:W.cell? ⟨P.q,3,none⟩=some (.slice (some ⟨P.t,0,none⟩) 256 P.ct)
 hb:∀j,j<65536→W.cell? ⟨P.b,j,none⟩=some (.int .u8 (M.fD j))
 hr:∀j,j<256→W.cell? ⟨P.r,j,none⟩=some (.int .i64 (M.rt j))
 hm:∀j,j<256→W.cell? ⟨P.m,j,none⟩=some (.bool (M.wd j))
 ht:∀j,j<256→W.cell? ⟨P.t,j,none⟩=some (.bool (M.hi j))
 zb:∀j,W.frozen? ⟨P.b,j,none⟩=false
 zr:∀j,W.frozen? ⟨P.r,j,none⟩=false
 zm:∀j,W.frozen? ⟨P.m,j,none⟩=false
 zt:∀j,W.frozen? ⟨P.t,j,none⟩=false
 lq:P.q<W.heap.size
 lb:P.b<W.heap.size
 lr:P.r<W.heap.size
 lm:P.m<W.heap.size
 lt:P.t<W.heap.size
theorem RM.upto {P:RP} {M:MM} {S:Nat→Prop} {w w':World} (h:RM P M w) (u:ah S w w') (hs:∀k,P.has k→¬S k):RM P M w':=by
 have sq:=hs P.q (.inl rfl)
 have sb:=hs P.b (.inr (.inl rfl))
 have sr:=hs P.r (.inr (.inr (.inl rfl)))
 have sm:=hs P.m (.inr (.inr (.inr (.inl rfl))))
 have st:=hs P.t (.inr (.inr (.inr (.inr rfl))))
 exact⟨h.ok,(u.cell h.lq sq).trans h.wY,(u.cell h.lq sq).trans h.Jc,(u.cell h.lq sq).trans h.Jg,(u.cell h.lq sq).trans h.JW,
  fun j hj=>(u.cell h.lb sb).trans (h.hb j hj),fun j hj=>(u.cell h.lr sr).trans (h.hr j hj),fun j hj=>(u.cell h.lm sm).trans (h.hm j hj),fun j hj=>(u.cell h.lt st).trans (h.ht j hj),
  fun j=>(u.frozen h.lb sb).trans (h.zb j),fun j=>(u.frozen h.lr sr).trans (h.zr j),fun j=>(u.frozen h.lm sm).trans (h.zm j),fun j=>(u.frozen h.lt st).trans (h.zt j),
  Nat.lt_of_lt_of_le h.lq u.size,Nat.lt_of_lt_of_le h.lb u.size,Nat.lt_of_lt_of_le h.lr u.size,Nat.lt_of_lt_of_le h.lm u.size,Nat.lt_of_lt_of_le h.lt u.size⟩
theorem RM.drew {P:RP} {M:MM} {W:World} (h:RM P M W):RM P M W.drew:=⟨h.ok,h.wY,h.Jc,h.Jg,h.JW,h.hb,h.hr,h.hm,h.ht,h.zb,h.zr,h.zm,h.zt,h.lq,h.lb,h.lr,h.lm,h.lt⟩
theorem RM.congr {P:RP} {M M':MM} {W:World} (h:RM P M W) (e1:∀j,j<65536→M'.fD j=M.fD j) (e2:∀j,j<256→M'.rt j=M.rt j) (e3:∀j,j<256→M'.wd j=M.wd j) (e4:∀j,j<256→M'.hi j=M.hi j):RM P M' W:=
 ⟨h.ok,h.wY,h.Jc,h.Jg,h.JW,fun j hj=>by rw [e1 j hj];exact h.hb j hj,fun j hj=>by rw [e2 j hj];exact h.hr j hj,fun j hj=>by rw [e3 j hj];exact h.hm j hj,fun j hj=>by rw [e4 j hj];exact h.ht j hj,h.zb,h.zr,h.zm,h.zt,h.lq,h.lb,h.lr,h.lm,h.lt⟩
theorem aT {W:World} {g k:Nat} {v:Value} {b i:Nat} (dR:¬ (b=g∧i=k)):(W.setCell ⟨g,k,none⟩ v).cell? ⟨b,i,none⟩=W.cell? ⟨b,i,none⟩:=
 World.cell?_setCell_other _ _ _ _ (by intro h;simp only [Addr.mk.injEq] at h;exact dR ⟨by omega,by omega⟩)
theorem pz {α:Type} (f:Nat→α) (k:Nat) (v:α):aF f k v k=v:=by simp [aF]
theorem dO {α:Type} (f:Nat→α) (k j:Nat) (v:α) (h:¬j=k):aF f k v j=f j:=by simp [aF,h]
theorem RM.rH {P:RP} {M:MM} {W:World} (h:RM P M W) (k:Nat) (hk:k<65536) (x:Int):RM P {M with fD:=aF M.fD k x} (W.setCell ⟨P.b,k,none⟩ (.int .u8 x)):=by
 obtain⟨o1,o2,o3,o4,o5,o6,o7,o8,o9,o10⟩:=h.ok
 refine⟨h.ok, ?_, ?_, ?_, ?_,fun j hj=> ?_,fun j hj=> ?_,fun j hj=> ?_,fun j hj=> ?_,fun j=>by simpa using h.zb j,fun j=>by simpa using h.zr j,fun j=>by simpa using h.zm j,fun j=>by simpa using h.zt j,by simpa using h.lq,by simpa using h.lb,by simpa using h.lr,by simpa using h.lm,by simpa using h.lt⟩
 ·rw [aT (by omega)];exact h.wY
 ·rw [aT (by omega)];exact h.Jc
 ·rw [aT (by omega)];exact h.Jg
 ·rw [aT (by omega)];exact h.JW
 ·by_cases qZ:j=k
  ·subst qZ;rw [World.cell?_setCell_same _ _ _ (h.hb j hj)];simp only [pz]
  ·rw [aT (by omega),h.hb j hj];simp only [dO _ _ _ _ qZ]
 ·rw [aT (by omega)];exact h.hr j hj
 ·rw [aT (by omega)];exact h.hm j hj
 ·rw [aT (by omega)];exact h.ht j hj
theorem RM.bI {P:RP} {M:MM} {W:World} (h:RM P M W) (k:Nat) (hk:k<256) (x:Int):RM P {M with rt:=aF M.rt k x} (W.setCell ⟨P.r,k,none⟩ (.int .i64 x)):=by
 obtain⟨o1,o2,o3,o4,o5,o6,o7,o8,o9,o10⟩:=h.ok
 refine⟨h.ok, ?_, ?_, ?_, ?_,fun j hj=> ?_,fun j hj=> ?_,fun j hj=> ?_,fun j hj=> ?_,fun j=>by simpa using h.zb j,fun j=>by simpa using h.zr j,fun j=>by simpa using h.zm j,fun j=>by simpa using h.zt j,by simpa using h.lq,by simpa using h.lb,by simpa using h.lr,by simpa using h.lm,by simpa using h.lt⟩
 ·rw [aT (by omega)];exact h.wY
 ·rw [aT (by omega)];exact h.Jc
 ·rw [aT (by omega)];exact h.Jg
 ·rw [aT (by omega)];exact h.JW
 ·rw [aT (by omega)];exact h.hb j hj
 ·by_cases qZ:j=k
  ·subst qZ;rw [World.cell?_setCell_same _ _ _ (h.hr j hj)];simp only [pz]
  ·rw [aT (by omega),h.hr j hj];simp only [dO _ _ _ _ qZ]
 ·rw [aT (by omega)];exact h.hm j hj
 ·rw [aT (by omega)];exact h.ht j hj
theorem RM.ZA {P:RP} {M:MM} {W:World} (h:RM P M W) (k:Nat) (hk:k<256) (x:Bool):RM P {M with wd:=aF M.wd k x} (W.setCell ⟨P.m,k,none⟩ (.bool x)):=by
 obtain⟨o1,o2,o3,o4,o5,o6,o7,o8,o9,o10⟩:=h.ok
 refine⟨h.ok, ?_, ?_, ?_, ?_,fun j hj=> ?_,fun j hj=> ?_,fun j hj=> ?_,fun j hj=> ?_,fun j=>by simpa using h.zb j,fun j=>by simpa using h.zr j,fun j=>by simpa using h.zm j,fun j=>by simpa using h.zt j,by simpa using h.lq,by simpa using h.lb,by simpa using h.lr,by simpa using h.lm,by simpa using h.lt⟩
 ·rw [aT (by omega)];exact h.wY
 ·rw [aT (by omega)];exact h.Jc
 ·rw [aT (by omega)];exact h.Jg
 ·rw [aT (by omega)];exact h.JW
 ·rw [aT (by omega)];exact h.hb j hj
 ·rw [aT (by omega)];exact h.hr j hj
 ·by_cases qZ:j=k
  ·subst qZ;rw [World.cell?_setCell_same _ _ _ (h.hm j hj)];simp only [pz]
  ·rw [aT (by omega),h.hm j hj];simp only [dO _ _ _ _ qZ]
 ·rw [aT (by omega)];exact h.ht j hj
theorem RM.qH {P:RP} {M:MM} {W:World} (h:RM P M W) (k:Nat) (hk:k<256) (x:Bool):RM P {M with hi:=aF M.hi k x} (W.setCell ⟨P.t,k,none⟩ (.bool x)):=by
 obtain⟨o1,o2,o3,o4,o5,o6,o7,o8,o9,o10⟩:=h.ok
 refine⟨h.ok, ?_, ?_, ?_, ?_,fun j hj=> ?_,fun j hj=> ?_,fun j hj=> ?_,fun j hj=> ?_,fun j=>by simpa using h.zb j,fun j=>by simpa using h.zr j,fun j=>by simpa using h.zm j,fun j=>by simpa using h.zt j,by simpa using h.lq,by simpa using h.lb,by simpa using h.lr,by simpa using h.lm,by simpa using h.lt⟩
 ·rw [aT (by omega)];exact h.wY
 ·rw [aT (by omega)];exact h.Jc
 ·rw [aT (by omega)];exact h.Jg
 ·rw [aT (by omega)];exact h.JW
 ·rw [aT (by omega)];exact h.hb j hj
 ·rw [aT (by omega)];exact h.hr j hj
 ·rw [aT (by omega)];exact h.hm j hj
 ·by_cases qZ:j=k
  ·subst qZ;rw [World.cell?_setCell_same _ _ _ (h.ht j hj)];simp only [pz]
  ·rw [aT (by omega),h.ht j hj];simp only [dO _ _ _ _ qZ]
theorem JX {α:Type} (f:Nat→α) (k:Nat) (v:α) (h:f k=v):aF f k v=f:=by
 funext j
 by_cases hj:j=k
 ·subst hj;rw [pz,h]
 ·rw [dO _ _ _ _ hj]
theorem Vu (M:MM) (k:Nat) (h:M.wd k=true):l7 M k={M with hi:=aF M.hi k true}:=by
 unfold l7
 cases hh:M.hi k
 ·simp [h]
 ·simp [h,JX _ _ _ hh]
theorem Qn (M:MM) (k:Nat) (h:M.wd k=false):l7 M k=M:=by unfold l7;simp [h]
abbrev RP.S (P:RP):Nat→Prop:=P.has
theorem rJ (P:RP) (M:MM) (k:Int) (k0:0≤k) (k1:k<256) (w:World) (h:RM P M w):
  Calls Tryz.prog 79 #[.pointer (some ⟨P.q,0,none⟩), .int .i64 k] w fun e w'=>e= .returned (.tuple #[])∧RM P (l7 M k.toNat) w'∧ah P.S w w':=by
 have q2:=h.Jg
 have q3:=h.JW
 have c3:=h.hm k.toNat (by omega)
 have c4:=h.ht k.toNat (by omega)
 have z4:=h.zt k.toNat
 have HH:=κ h
 obtain⟨q,b,r,m,t⟩:=P
 simp only at q2 q3 c3 c4 z4
 clear h
 cases hm:M.wd k.toNat
 ·rw [Qn _ _ hm]
  rw [hm] at c3
  clear hm
  go_enter Tryz.func79,Tryz.ntmps79
  go_wp2
  go_end0
  exact⟨rfl,HH.out,ah.refl _ _⟩
 ·rw [Vu _ _ hm]
  rw [hm] at c3
  clear hm
  go_enter Tryz.func79,Tryz.ntmps79
  go_wp2
  go_end0
  exact⟨rfl,HH.out.qH k.toNat (by omega) true,(ah.refl _ _).setCell (q:=⟨t,k.toNat,none⟩) (.inl (.inr (.inr (.inr (.inr rfl))))) _⟩
theorem yw (q:Nat) (k x:Int) (w:World) (hb:k<0∨256≤k∨x<0∨7<x):
  Calls Tryz.prog 50 #[.pointer (some ⟨q,0,none⟩), .int .i64 k, .int .i64 x] w fun e w'=>e= .returned (.int .i64 4)∧w=w':=by
 have HP:=κ (ru k)
 have hp:(k<0∨256≤k)∨(0≤k∧k<256∧(x<0∨(¬x<0∧7<x))):=by omega
 clear hb
 rcases hp with hp | ⟨p0,p1,hx | ⟨hx,hx2⟩⟩
 ·have e:(decide (0≤k)&&decide (k<256))=false:=by simp;omega
  rw [e] at HP
  clear hp
  go_enter Tryz.func50,Tryz.ntmps50
  go_wp2_with (go_at_call 81;refine(HP.out _).mono ?_;rintro e w' ⟨rfl,rfl⟩)
  go_ret
  exact⟨rfl,rfl⟩
 all_goals
  have e:(decide (0≤k)&&decide (k<256))=true:=by simp;omega
  rw [e] at HP
  go_enter Tryz.func50,Tryz.ntmps50
  go_wp2_with (go_at_call 81;refine(HP.out _).mono ?_;rintro e w' ⟨rfl,rfl⟩)
  go_ret
  exact⟨rfl,rfl⟩
theorem Af (P:RP) (M:MM) (k:Int) (x:Int) (w:World) (h:RM P M w) (k0:0≤k) (k1:k<256) (x0:0≤x) (x7:x≤7):
  Calls Tryz.prog 50 #[.pointer (some ⟨P.q,0,none⟩), .int .i64 k, .int .i64 x] w fun e w'=>e= .returned (.int .i64 0)∧RM P (Um M k.toNat x) w'∧ah P.S w w':=by
 have HP:=κ (ru k)
 have e:(decide (0≤k)&&decide (k<256))=true:=by simp;omega
 rw [e] at HP
 have oQ:k.toNat<256:=by omega
 have q1:=h.Jc
 have c2:=h.hr k.toNat oQ
 have z2:=h.zr k.toNat
 have HH:=κ h
 have xa:¬x<0:=by omega
 have xb:¬7<x:=by omega
 have HC:=κ (rJ P M k k0 k1)
 obtain⟨q,b,r,m,t⟩:=P
 simp only at q1 c2 z2 HC
 unfold Um
 by_cases hr:M.rt k.toNat=x
 ·rw [if_pos hr]
  rw [hr] at c2
  have hre:(x !=x)=false:=by simp
  clear h hr HC
  go_enter Tryz.func50,Tryz.ntmps50
  go_wp2_with (go_at_call 81;refine(HP.out _).mono ?_;rintro e w' ⟨rfl,rfl⟩)
  go_ret
  exact⟨rfl,HH.out.bI k.toNat oQ x,(ah.refl _ _).setCell (q:=⟨r,k.toNat,none⟩) (.inl (.inr (.inr (.inl rfl)))) _⟩
 ·rw [if_neg hr]
  have hrb:(M.rt k.toNat !=x)=true:=by rw [bne_iff_ne];exact hr
  generalize M.rt k.toNat=y at c2 hrb
  clear h hr
  go_enter Tryz.func50,Tryz.ntmps50
  go_wp2_with (first
   | (go_at_call 81;refine(HP.out _).mono ?_;rintro e w' ⟨rfl,rfl⟩)
   | (go_at_call 79;refine(HC.out _ HH.out).mono ?_;rintro e w1 ⟨rfl,h1,o1⟩;have e1:=h1.Jc;have d2:=h1.hr k.toNat oQ;have y2:=h1.zr k.toNat;simp only at e1 d2 y2))
  go_ret
  have h9:=h1.bI k.toNat oQ x
  rw [JL] at h9
  exact⟨rfl,h9,o1.setCell (q:=⟨r,k.toNat,none⟩) (.inl (.inr (.inr (.inl rfl)))) _⟩
theorem Gz (q:Nat) (k:Int) (b:Bool) (w:World) (hb:k<0∨256≤k):
  Calls Tryz.prog 52 #[.pointer (some ⟨q,0,none⟩), .int .i64 k, .bool b] w fun e w'=>e= .returned (.int .i64 4)∧w=w':=by
 have HP:=κ (ru k)
 have e:(decide (0≤k)&&decide (k<256))=false:=by simp;omega
 rw [e] at HP
 clear hb
 go_enter Tryz.func52,Tryz.ntmps52
 go_wp2_with (go_at_call 81;refine(HP.out _).mono ?_;rintro e w' ⟨rfl,rfl⟩)
 go_ret
 exact⟨rfl,rfl⟩
theorem JY (M:MM) (k:Nat):Jf M k true={M with wd:=aF M.wd k true}:=by unfold Jf;simp
theorem GH (M:MM) (k:Nat):Jf M k false={M with wd:=aF M.wd k false,hi:=aF M.hi k false}:=by
 unfold Jf
 cases hh:M.hi k
 ·simp [JX _ _ _ hh]
 ·simp
theorem JZ (P:RP) (M:MM) (k:Int) (b:Bool) (w:World) (h:RM P M w) (k0:0≤k) (k1:k<256):
  Calls Tryz.prog 52 #[.pointer (some ⟨P.q,0,none⟩), .int .i64 k, .bool b] w fun e w'=>e= .returned (.int .i64 0)∧RM P (Jf M k.toNat b) w'∧ah P.S w w':=by
 have HP:=κ (ru k)
 have e:(decide (0≤k)&&decide (k<256))=true:=by simp;omega
 rw [e] at HP
 have oQ:k.toNat<256:=by omega
 have q2:=h.Jg
 have q3:=h.JW
 have c3:=h.hm k.toNat oQ
 have c4:=h.ht k.toNat oQ
 have z3:=h.zm k.toNat
 have z4:=h.zt k.toNat
 have o3:P.q≠P.m:=h.ok.2.2.1
 have o4:P.t≠P.m:=fun e=>h.ok.2.2.2.2.2.2.2.2.2 e.symm
 have HH:=κ h
 obtain⟨q,b',r,m,t⟩:=P
 simp only at q2 q3 c3 c4 z3 z4 o3 o4
 clear h
 cases b
 ·rw [GH]
  go_enter Tryz.func52,Tryz.ntmps52
  go_wp2_with (go_at_call 81;refine(HP.out _).mono ?_;rintro e w' ⟨rfl,rfl⟩)
  go_ret
  exact⟨rfl,(HH.out.ZA k.toNat oQ false).qH k.toNat oQ false,((ah.refl _ _).setCell (q:=⟨m,k.toNat,none⟩) (.inl (.inr (.inr (.inr (.inl rfl))))) _).setCell (q:=⟨t,k.toNat,none⟩) (.inl (.inr (.inr (.inr (.inr rfl))))) _⟩
 ·rw [JY]
  go_enter Tryz.func52,Tryz.ntmps52
  go_wp2_with (go_at_call 81;refine(HP.out _).mono ?_;rintro e w' ⟨rfl,rfl⟩)
  go_ret
  exact⟨rfl,HH.out.ZA k.toNat oQ true,(ah.refl _ _).setCell (q:=⟨m,k.toNat,none⟩) (.inl (.inr (.inr (.inr (.inl rfl))))) _⟩
theorem vJ (P:RP) (M:MM) (w:World) (h:RM P M w):
  Calls Tryz.prog 66 #[.pointer (some ⟨P.q,0,none⟩)] w fun e w'=>e= .returned (.bool (dG M.hi))∧w=w':=by
 have q3:=h.JW
 have HH:=κ h
 obtain⟨q,b',r,m,t⟩:=P
 simp only at q3
 clear h
 go_enter Tryz.func66,Tryz.ntmps66
 go_wp2
 go_loopg [10] 256 (fun g i wr=>∃k:Nat,g=256-k∧k≤256∧i= .int .i64 k∧Hid (∀j,j<k→M.hi j=false)∧w=wr)
 case atStart=>exact⟨0,rfl,Nat.zero_le _,rfl,fun j hj=>absurd hj (by omega),rfl⟩
 case round=>
  obtain⟨k,hg,hk,rfl,HN,rfl⟩:=hrel
  by_cases dh:k<256
  ·have pF:(k:Int) <256:=by omega
   have Vw:(0:Int)≤(k:Int):=by omega
   have c4:=HH.out.ht k dh
   simp only at c4
   cases hb:M.hi k
   ·rw [hb] at c4
    have HB:=κ hb
    clear hb
    go_wp2
    go_roundg (256-(k+1))
    case measure=>omega
    case rel=>
     refine⟨k+1,rfl,by omega,by simp,fun j hj=> ?_,rfl⟩
     by_cases qZ:j=k
     ·subst qZ;exact HB.out
     ·exact HN.out j (by omega)
   ·rw [hb] at c4
    have HB:=κ hb
    clear hb
    go_wp2
    go_ret
    exact⟨by rw [(Ad _).2 ⟨k,dh,HB.out⟩];rfl,rfl⟩
  ·obtain rfl:k=256:=by omega
   go_wp2
   go_ret
   refine⟨?_,rfl⟩
   have:dG M.hi=false:=by
    rw [Bool.eq_false_iff]
    intro h
    obtain⟨j,hj,hb⟩:=(Ad _).1 h
    rw [HN.out j hj] at hb
    cases hb
   rw [this];rfl
theorem Ag {M:MM} {r a x:Int} {k:Nat} (h:∀j,j<k→lY M r (rE a j)=true) (e:rE a k=x) (hu:lY M r x=true):∀j,j<k+1→lY M r (rE a j)=true:=by
 intro j hj
 by_cases qZ:j=k
 ·subst qZ;rw [e];exact hu
 ·exact h j (by omega)
theorem gY (p:Nat) (M:MM) (N a n r:Int) (w:World) (h:HM p M N w) (hM:bQ M) (hr:r=1∨r=2∨r=4) (a0:0≤a) (a1:a<4294967296) (n1:n<9223372036854775808):
  Calls Tryz.prog 111 #[.pointer (some ⟨p,0,none⟩), .int .u32 a, .int .i64 n, .int .u8 r] w fun e w'=>e= .returned (srV (aQ M r a n.toNat))∧w=w':=by
 have HH:=κ h
 have HM':=κ hM
 have HR:=κ hr
 have r0:0≤r:=by omega
 have r1:r<256:=by omega
 clear h hM hr
 go_enter Tryz.func111,Tryz.ntmps111
 go_wp2
 go_loopg [13] n.toNat (fun g i wr=>∃k:Nat,g=n.toNat-k∧k≤n.toNat∧i= .int .i64 k∧Hid (∀j,j<k→lY M r (rE a j)=true)∧w=wr)
 case atStart=>exact⟨0,rfl,Nat.zero_le _,rfl,fun j hj=>absurd hj (by omega),rfl⟩
 case round=>
  obtain⟨k,hg,hk,rfl,hA,rfl⟩:=hrel
  by_cases dh:k<n.toNat
  ·have pF:(k:Int) <n:=by omega
   have k0:(0:Int)≤(k:Int):=by omega
   have hx:=Df a k
   have ex:(a+(k:Int)%4294967296)%4294967296=rE a k:=by unfold rE;omega
   obtain⟨x0,x1⟩:=hx
   have EX:=κ ex
   obtain⟨x,GI⟩:∃x,rE a k=x:=⟨_,rfl⟩
   rw [GI] at x0 x1 ex
   have HX:=κ GI
   clear GI EX
   by_cases hm:x<65536
   ·have q0:(x/256).toNat<256:=by omega
    have c2:=HH.out.2.1 (x/256).toNat q0
    have hu:=and_zero (M.rt (x/256).toNat) r (HM'.out.2 _).1 (HM'.out.2 _).2 HR.out
    have JD:lY M r x=decide (M.rt (x/256).toNat/r%2=1):=by unfold lY;simp [hm]
    by_cases hd:M.rt (x/256).toNat/r%2=1
    ·have vK:=κ (JD.trans (decide_eq_true hd))
     rw [decide_eq_true hd] at hu
     generalize M.rt (x/256).toNat=y at c2 hu
     clear hd JD
     go_wp2
     go_roundg (n.toNat-(k+1))
     case measure=>omega
     case rel=>exact⟨k+1,rfl,by omega,by simp,Ag hA HX vK,rfl⟩
    ·have vK:=κ (JD.trans (decide_eq_false hd))
     rw [decide_eq_false hd] at hu
     generalize M.rt (x/256).toNat=y at c2 hu
     clear hd JD
     go_wp2
     go_ret2
     exact⟨by rw [pX k dh hA (by rw [HX.out];exact vK.out),HX.out];rfl,rfl⟩
   ·go_wp2
    go_ret2
    have vK:lY M r x=false:=by unfold lY;rw [decide_eq_false (by omega)];rfl
    exact⟨by rw [pX k dh hA (by rw [HX.out];exact vK),HX.out];rfl,rfl⟩
  ·have ZB:¬ (k:Int) <n:=by omega
   go_wp2
   go_ret2
   obtain rfl:k=n.toNat:=by omega
   exact⟨by rw [sN hA];rfl,rfl⟩
end Go.Proofs.YtcjcmnnhmajocabGreat.Me
namespace Go.Proofs.YtcjcmnnhmajocabGreat.Gu
open Go.RowKit
def xM (b:Int):Int:=if 128≤b then b+4294967040 else b
theorem Fg (n:Int):IntKind.i8.wrap n=(n+128)%256-128:=by
 have h1:IntKind.i8.bits=8:=rfl
 have h2:IntKind.i8.signed=true:=rfl
 simp only [IntKind.wrap,h1,h2,Bool.true_and]
 split
 ·rename_i h
  simp at h
  omega
 ·rename_i h
  simp at h
  omega
theorem aJ (b:Int) (h0:0≤b) (h1:b<256) (w:World):Calls Tryz.prog 180 #[.int .u8 b] w fun e w'=>e= .returned (.int .u32 (xM b))∧w=w':=by
 by_cases h:128≤b
 ·have e:xM b=b+4294967040:=if_pos h
  have c1:IntKind.i8.wrap b=b-256:=by rw [Fg];omega
  have c2:IntKind.i32.wrap (b-256)=b-256:=by rw [IntKind.wrap_i32];omega
  have c3:IntKind.u32.wrap (b-256)=b+4294967040:=by rw [IntKind.wrap_u32];omega
  rw [e]
  go_enter Tryz.func180,Tryz.ntmps180
  go_wp2
  go_ret
  exact⟨rfl,rfl⟩
 ·have e:xM b=b:=if_neg h
  have c1:IntKind.i8.wrap b=b:=by rw [Fg];omega
  have c2:IntKind.i32.wrap b=b:=by rw [IntKind.wrap_i32];omega
  have c3:IntKind.u32.wrap b=b:=by rw [IntKind.wrap_u32];omega
  rw [e]
  go_enter Tryz.func180,Tryz.ntmps180
  go_wp2
  go_ret
  exact⟨rfl,rfl⟩
theorem Dh (b:Int) (h0:0≤b) (h1:b<256) (w:World):Calls Tryz.prog 138 #[.int .u8 b] w fun e w'=>e= .returned (.int .u32 (xM b))∧w=w':=by
 by_cases h:128≤b
 ·have e:xM b=b+4294967040:=if_pos h
  rw [e]
  go_enter Tryz.func138,Tryz.ntmps138
  go_wp2
  go_ret
  exact⟨rfl,rfl⟩
 ·have e:xM b=b:=if_neg h
  rw [e]
  go_enter Tryz.func138,Tryz.ntmps138
  go_wp2
  go_ret
  exact⟨rfl,rfl⟩
theorem vM (i:Nat) (x y:Int) (hx:0≤x) (hx':x<2^i) (hy:0≤y) (hd:y%2^i=0) (h1:x<4294967296) (h2:y<4294967296):bits .or .u32 x y=x+y:=by
 obtain⟨a,rfl⟩:=Int.eq_ofNat_of_zero_le hx
 obtain⟨b,rfl⟩:=Int.eq_ofNat_of_zero_le hy
 have hw:∀n:Int,0≤n→n<2^32→IntKind.u32.wrap n=n:=fun n Vk Vl=>by rw [IntKind.wrap_u32];omega
 have h:=bits_join .u32 32 (by decide) hw i b a (by omega) hd (by omega) (by omega) hx' (by omega)
 have ha:a<2^32:=by omega
 have hb:b<2^32:=by omega
 rw [(bits_nat .u32 32 (by decide) hw b a hb ha).2] at h
 rw [(bits_nat .u32 32 (by decide) hw a b ha hb).2,Nat.or_comm,h]
 omega
def four (a b c d:Int):Int:=a+b*256+c*65536+d*16777216
theorem Qo (a b c d:Int) (ha:0≤a∧a<256) (hb:0≤b∧b<256) (hc:0≤c∧c<256) (hd:0≤d∧d<256):bits .or .u32 (bits .or .u32 (bits .or .u32 a (b*256)) (c*65536)) (d*16777216)=four a b c d:=by
 rw [vM 8 a (b*256) (by omega) (by omega) (by omega) (by omega) (by omega) (by omega),vM 16 (a+b*256) (c*65536) (by omega) (by omega) (by omega) (by omega) (by omega) (by omega),
  vM 24 (a+b*256+c*65536) (d*16777216) (by omega) (by omega) (by omega) (by omega) (by omega) (by omega)]
 rfl
theorem dP {a b:Int} (h:a=b):Ending.returned (.int .u32 a)= .returned (.int .u32 b):=by rw [h]
theorem vN (g off n cap:Nat) (a b c d:Int) (w:World) (hn:4≤n) (ha:0≤a∧a<256) (hb:0≤b∧b<256) (hc:0≤c∧c<256) (hd:0≤d∧d<256)
  (c0:w.cell? ⟨g,off,none⟩=some (.int .u8 a)) (c1:w.cell? ⟨g,off+1,none⟩=some (.int .u8 b)) (c2:w.cell? ⟨g,off+2,none⟩=some (.int .u8 c)) (c3:w.cell? ⟨g,off+3,none⟩=some (.int .u8 d)):
  Calls Tryz.prog 181 #[.slice (some ⟨g,off,none⟩) n cap] w fun e w'=>e= .returned (.int .u32 (four a b c d))∧∃m,w'=w.drewN m:=by
 have n0:(0:Int) <(n:Int):=by omega
 have n1:(1:Int) <(n:Int):=by omega
 have n2:(2:Int) <(n:Int):=by omega
 have n3:(3:Int) <(n:Int):=by omega
 have HE:=κ (Qo a b c d ha hb hc hd)
 obtain⟨a0,a1⟩:=ha
 obtain⟨b0,b1⟩:=hb
 obtain⟨d0,d1⟩:=hc
 obtain⟨e0,e1⟩:=hd
 go_enter Tryz.func181,Tryz.ntmps181
 go_wp2
 go_quiet (fail)
 go_wp2
 go_ret
 exact⟨dP HE.out,_,rfl⟩
end Go.Proofs.YtcjcmnnhmajocabGreat.Gu
namespace Go.Proofs.YtcjcmnnhmajocabGreat.Me
open Go.RowKit Kt
theorem J3 (a b:Int) (ha:0≤a∧a<256) (hb:0≤b∧b<256):bits .or .u32 a (b*256)=a+b*256:=Gu.vM 8 _ _ (by omega) (by omega) (by omega) (by omega) (by omega) (by omega)
theorem or_zero (b:Int) (hb:0≤b∧b<256):bits .or .u32 0 b=b:=(Gu.vM 0 0 b (by omega) (by omega) (by omega) (by omega) (by omega) (by omega)).trans (by omega)
theorem J4 (a b c:Int) (ha:0≤a∧a<256) (hb:0≤b∧b<256) (hc:0≤c∧c<256):bits .or .u32 (a+b*256) (c*65536)=a+b*256+c*65536:=Gu.vM 16 _ _ (by omega) (by omega) (by omega) (by omega) (by omega) (by omega)
theorem Qp (a b c d:Int) (ha:0≤a∧a<256) (hb:0≤b∧b<256) (hc:0≤c∧c<256) (hd:0≤d∧d<256):bits .or .u32 (a+b*256+c*65536) (d*16777216)=a+b*256+c*65536+d*16777216:=Gu.vM 24 _ _ (by omega) (by omega) (by omega) (by omega) (by omega) (by omega)
theorem J5 (p:Nat) (M:MM) (N a n x:Int) (w:World) (h:HM p M N w) (hM:bQ M) (a0:0≤a) (a1:a<4294967296) (n1:n<9223372036854775808) (hs:aQ M 1 a n.toNat=some x):
  Calls Tryz.prog 209 #[.pointer (some ⟨p,0,none⟩), .int .u32 a, .int .i64 n] w fun e w'=>e= .returned (.tuple #[.int .u32 0, .agg #[.int .i64 5, .int .u32 x]])∧Below w.heap.size w w':=by
 have HB:=κ (fun w h=>gY p M N a n 1 w h hM (.inl rfl) a0 a1 n1)
 rw [hs] at HB
 simp only [srV] at HB
 have b0:=Below.refl w.heap.size w
 have HH:=κ (fun o=>h.upto ((ah.refl (fun _=>False) w).alloc o) id)
 clear h hM hs
 go_enter Tryz.func209,Tryz.ntmps209
 go_wp2_with (go_at_call 111;refine(HB.out _ (HH.out _)).mono ?_;rintro e w' ⟨rfl,rfl⟩)
 refine bodyPost_ret (v:= .tuple #[.int .u32 0, .agg #[.int .i64 5, .int .u32 x]]) (by simp [results,Tryz.results209,go_sem]) rfl ⟨rfl, ?_⟩
 exact b0.alloc (Nat.le_refl _) _
theorem GK (p:Nat) (M:MM) (N a n:Int) (w:World) (h:HM p M N w) (hM:bQ M) (a0:0≤a) (a1:a<4294967296) (n1:n<9223372036854775808) (hs:aQ M 1 a n.toNat=none) (hn:¬ (n=1∨n=2∨n=4)):
  Calls Tryz.prog 209 #[.pointer (some ⟨p,0,none⟩), .int .u32 a, .int .i64 n] w fun e w'=>e= .returned (.tuple #[.int .u32 0, .agg #[.int .i64 0, .int .u32 0]])∧Below w.heap.size w w':=by
 have HB:=κ (fun w h=>gY p M N a n 1 w h hM (.inl rfl) a0 a1 n1)
 rw [hs] at HB
 simp only [srV] at HB
 have b0:=Below.refl w.heap.size w
 have HH:=κ (fun o=>h.upto ((ah.refl (fun _=>False) w).alloc o) id)
 have e1:(n !=1)=true:=by rw [bne_iff_ne];omega
 have e2:(n !=2)=true:=by rw [bne_iff_ne];omega
 have e4:(n !=4)=true:=by rw [bne_iff_ne];omega
 clear h hM hs hn
 go_enter Tryz.func209,Tryz.ntmps209
 go_wp2_with (go_at_call 111;refine(HB.out _ (HH.out _)).mono ?_;rintro e w' ⟨rfl,rfl⟩)
 refine bodyPost_ret (v:= .tuple #[.int .u32 0, .agg #[.int .i64 0, .int .u32 0]]) (by simp [results,Tryz.results209,go_sem]) rfl ⟨rfl, ?_⟩
 exact b0.alloc (Nat.le_refl _) _
theorem Vy (p:Nat) (M:MM) (N a:Int) (w:World) (h:HM p M N w) (hM:bQ M) (a0:0≤a) (a1:a<4294967296) (hs:aQ M 1 a 1=none):
  Calls Tryz.prog 209 #[.pointer (some ⟨p,0,none⟩), .int .u32 a, .int .i64 1] w fun e w'=>e= .returned (.tuple #[.int .u32 (aN M a 0), .agg #[.int .i64 0, .int .u32 0]])∧Below w.heap.size w w':=by
 have HB:=κ (fun w h=>gY p M N a 1 1 w h hM (.inl rfl) a0 a1 (by omega))
 rw [show(1:Int).toNat=1 from rfl,hs] at HB
 simp only [srV] at HB
 have b0:=Below.refl w.heap.size w
 have HH:=κ (fun o=>h.upto ((ah.refl (fun _=>False) w).alloc o) id)
 have p0:=(iF a0 a1 hs 0 (by omega) (by omega)).2
 unfold aN
 rw [Nat.add_zero]
 have hp:=h.2.2.2.2.2.2
 have b1:a<65536:=by omega
 have c0:=h.1 a.toNat (by omega)
 have r0:=hM.1 a.toNat
 generalize M.fD a.toNat=y0 at c0 r0⊢
 have o1:=or_zero y0 r0
 obtain⟨ZC,ZE⟩:=r0
 clear h hM hs p0
 go_enter Tryz.func209,Tryz.ntmps209
 go_wp2_with (go_at_call 111;refine(HB.out _ (HH.out _)).mono ?_;rintro e w' ⟨rfl,rfl⟩)
 refine wp_loop_rounds 2 ?_
 rw [rounds_succ];go_wp2
 rw [rounds_succ];go_wp2
 refine bodyPost_ret (v:= .tuple #[.int .u32 (y0), .agg #[.int .i64 0, .int .u32 0]]) (by simp [results,Tryz.results209,go_sem]) rfl ⟨rfl, ?_⟩
 exact b0.alloc (Nat.le_refl _) _
theorem Vz (p:Nat) (M:MM) (N a:Int) (w:World) (h:HM p M N w) (hM:bQ M) (a0:0≤a) (a1:a<4294967296) (hs:aQ M 1 a 2=none):
  Calls Tryz.prog 209 #[.pointer (some ⟨p,0,none⟩), .int .u32 a, .int .i64 2] w fun e w'=>e= .returned (.tuple #[.int .u32 (aN M a 0+aN M a 1*256), .agg #[.int .i64 0, .int .u32 0]])∧Below w.heap.size w w':=by
 have HB:=κ (fun w h=>gY p M N a 2 1 w h hM (.inl rfl) a0 a1 (by omega))
 rw [show(2:Int).toNat=2 from rfl,hs] at HB
 simp only [srV] at HB
 have b0:=Below.refl w.heap.size w
 have HH:=κ (fun o=>h.upto ((ah.refl (fun _=>False) w).alloc o) id)
 have p0:=(iF a0 a1 hs 1 (by omega) (by omega)).2
 unfold aN
 rw [Nat.add_zero]
 have hp:=h.2.2.2.2.2.2
 have b1:a<65536:=by omega
 have b2:a+1<65536:=by omega
 have c0:=h.1 a.toNat (by omega)
 have r0:=hM.1 a.toNat
 have c1:=h.1 (a.toNat+1) (by omega)
 have r1:=hM.1 (a.toNat+1)
 rw [show a.toNat+1=(a+1).toNat by omega] at c1 r1
 generalize M.fD a.toNat=y0 at c0 r0⊢
 rw [show a.toNat+1=(a+1).toNat by omega]
 generalize M.fD ((a+1).toNat)=y1 at c1 r1⊢
 have o1:=or_zero y0 r0
 have o2:=J3 y0 y1 r0 r1
 obtain⟨ZC,ZE⟩:=r0
 obtain⟨r1a,r1b⟩:=r1
 clear h hM hs p0
 go_enter Tryz.func209,Tryz.ntmps209
 go_wp2_with (go_at_call 111;refine(HB.out _ (HH.out _)).mono ?_;rintro e w' ⟨rfl,rfl⟩)
 refine wp_loop_rounds 3 ?_
 rw [rounds_succ];go_wp2
 rw [rounds_succ];go_wp2
 rw [rounds_succ];go_wp2
 refine bodyPost_ret (v:= .tuple #[.int .u32 (y0+y1*256), .agg #[.int .i64 0, .int .u32 0]]) (by simp [results,Tryz.results209,go_sem]) rfl ⟨rfl, ?_⟩
 exact b0.alloc (Nat.le_refl _) _
theorem VA (p:Nat) (M:MM) (N a:Int) (w:World) (h:HM p M N w) (hM:bQ M) (a0:0≤a) (a1:a<4294967296) (hs:aQ M 1 a 4=none):
  Calls Tryz.prog 209 #[.pointer (some ⟨p,0,none⟩), .int .u32 a, .int .i64 4] w fun e w'=>e= .returned (.tuple #[.int .u32 (aN M a 0+aN M a 1*256+aN M a 2*65536+aN M a 3*16777216), .agg #[.int .i64 0, .int .u32 0]])∧Below w.heap.size w w':=by
 have HB:=κ (fun w h=>gY p M N a 4 1 w h hM (.inl rfl) a0 a1 (by omega))
 rw [show(4:Int).toNat=4 from rfl,hs] at HB
 simp only [srV] at HB
 have b0:=Below.refl w.heap.size w
 have HH:=κ (fun o=>h.upto ((ah.refl (fun _=>False) w).alloc o) id)
 have p0:=(iF a0 a1 hs 3 (by omega) (by omega)).2
 unfold aN
 rw [Nat.add_zero]
 have hp:=h.2.2.2.2.2.2
 have b1:a<65536:=by omega
 have b2:a+1<65536:=by omega
 have b3:a+2<65536:=by omega
 have b4:a+3<65536:=by omega
 have c0:=h.1 a.toNat (by omega)
 have r0:=hM.1 a.toNat
 have c1:=h.1 (a.toNat+1) (by omega)
 have r1:=hM.1 (a.toNat+1)
 rw [show a.toNat+1=(a+1).toNat by omega] at c1 r1
 have c2:=h.1 (a.toNat+2) (by omega)
 have r2:=hM.1 (a.toNat+2)
 rw [show a.toNat+2=(a+2).toNat by omega] at c2 r2
 have c3:=h.1 (a.toNat+3) (by omega)
 have r3:=hM.1 (a.toNat+3)
 rw [show a.toNat+3=(a+3).toNat by omega] at c3 r3
 generalize M.fD a.toNat=y0 at c0 r0⊢
 rw [show a.toNat+1=(a+1).toNat by omega]
 generalize M.fD ((a+1).toNat)=y1 at c1 r1⊢
 rw [show a.toNat+2=(a+2).toNat by omega]
 generalize M.fD ((a+2).toNat)=y2 at c2 r2⊢
 rw [show a.toNat+3=(a+3).toNat by omega]
 generalize M.fD ((a+3).toNat)=y3 at c3 r3⊢
 have o1:=or_zero y0 r0
 have o2:=J3 y0 y1 r0 r1
 have o3:=J4 y0 y1 y2 r0 r1 r2
 have o4:=Qp y0 y1 y2 y3 r0 r1 r2 r3
 obtain⟨ZC,ZE⟩:=r0
 obtain⟨r1a,r1b⟩:=r1
 obtain⟨r2a,r2b⟩:=r2
 obtain⟨r3a,r3b⟩:=r3
 clear h hM hs p0
 go_enter Tryz.func209,Tryz.ntmps209
 go_wp2_with (go_at_call 111;refine(HB.out _ (HH.out _)).mono ?_;rintro e w' ⟨rfl,rfl⟩)
 refine wp_loop_rounds 5 ?_
 rw [rounds_succ];go_wp2
 rw [rounds_succ];go_wp2
 rw [rounds_succ];go_wp2
 rw [rounds_succ];go_wp2
 rw [rounds_succ];go_wp2
 refine bodyPost_ret (v:= .tuple #[.int .u32 (y0+y1*256+y2*65536+y3*16777216), .agg #[.int .i64 0, .int .u32 0]]) (by simp [results,Tryz.results209,go_sem]) rfl ⟨rfl, ?_⟩
 exact b0.alloc (Nat.le_refl _) _
theorem kW (p:Nat) (M:MM) (a n:Int) (w:World) (h:HC p M w) (hM:bQ M) (a0:0≤a) (a1:a<4294967296) (n1:n<9223372036854775808):
  Calls Tryz.prog 209 #[.pointer (some ⟨p,0,none⟩), .int .u32 a, .int .i64 n] w fun e w'=>e= .returned (.tuple #[.int .u32 (jD M a n),stpV 5 (aQ M 1 a n.toNat)])∧Below w.heap.size w w':=by
 unfold jD
 obtain⟨o,ho⟩:∃o,aQ M 1 a n.toNat=o:=⟨_,rfl⟩
 rw [ho]
 rcases o with _ | x
 ·simp only [Option.isNone_none,if_true,stpV]
  by_cases e1:n=1
  ·subst e1;rw [if_pos rfl];exact Vy p M _ a w h hM a0 a1 ho
  ·rw [if_neg e1]
   by_cases e2:n=2
   ·subst e2;rw [if_pos rfl];exact Vz p M _ a w h hM a0 a1 ho
   ·rw [if_neg e2]
    by_cases e4:n=4
    ·subst e4;rw [if_pos rfl];exact VA p M _ a w h hM a0 a1 ho
    ·rw [if_neg e4]
     exact GK p M _ a n w h hM a0 a1 n1 ho (by omega)
 ·simp only [Option.isNone_some,Bool.false_eq_true,if_false,stpV]
  exact J5 p M _ a n x w h hM a0 a1 n1 ho
end Go.Proofs.YtcjcmnnhmajocabGreat.Me
