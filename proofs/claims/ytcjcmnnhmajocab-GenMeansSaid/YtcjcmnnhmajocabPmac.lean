import Derived.Test.YtcjcmnnhmajocabPmab
set_option linter.unusedVariables false
set_option linter.unusedSimpArgs false
set_option maxRecDepth 100000
set_option maxHeartbeats 16000000
namespace Go.Proofs.Ytcjcmnnhmajocab.Me
open Go.RowKit Kt
structure RP where
 q:Nat
 b:Nat
 r:Nat
 m:Nat
 t:Nat
 cb:Nat
 cr:Nat
 cm:Nat
 ct:Nat
 hcb:65536≤cb
def RP.ok (P:RP):Prop:=P.q≠P.b∧P.q≠P.r∧P.q≠P.m∧P.q≠P.t∧P.b≠P.r∧P.b≠P.m∧P.b≠P.t∧P.r≠P.m∧P.r≠P.t∧P.m≠P.t
def RP.has (P:RP) (k:Nat):Prop:=k=P.q∨k=P.b∨k=P.r∨k=P.m∨k=P.t
structure RM (P:RP) (M:MM) (W:World):Prop where
 ok:P.ok
 wO:W.cell? ⟨P.q,0,none⟩=some (.slice (some ⟨P.b,0,none⟩) 65536 P.cb)
 Jy:W.cell? ⟨P.q,1,none⟩=some (.slice (some ⟨P.r,0,none⟩) 256 P.cr)
 BZ:W.cell? ⟨P.q,2,none⟩=some (.slice (some ⟨P.m,0,none⟩) 256 P.cm)
 J8:W.cell? ⟨P.q,3,none⟩=some (.slice (some ⟨P.t,0,none⟩) 256 P.ct)
 hb:∀j,j<65536→W.cell? ⟨P.b,j,none⟩=some (.int .u8 (M.jL j))
 hr:∀j,j<256→W.cell? ⟨P.r,j,none⟩=some (.int .i64 (M.rt j))
 hm:∀j,j<256→W.cell? ⟨P.m,j,none⟩=some (.bool (M.wd j))
 ht:∀j,j<256→W.cell? ⟨P.t,j,none⟩=some (.bool (M.hi j))
 zb:∀j,W.frozen? ⟨P.b,j,none⟩=false
 zr:∀j,W.frozen? ⟨P.r,j,none⟩=false
 zm:∀j,W.frozen? ⟨P.m,j,none⟩=false
 zt:∀j,W.frozen? ⟨P.t,j,none⟩=false
 lq:P.q<W.heap.size
 lb:P.b<W.heap.size
 lr:P.r<W.heap.size
 lm:P.m<W.heap.size
 lt:P.t<W.heap.size
theorem RM.upto {P:RP} {M:MM} {S:Nat→Prop} {w w':World} (h:RM P M w) (u:ah S w w') (hs:∀k,P.has k→¬S k):RM P M w':=by
 have sq:=hs P.q (.inl rfl)
 have sb:=hs P.b (.inr (.inl rfl))
 have sr:=hs P.r (.inr (.inr (.inl rfl)))
 have sm:=hs P.m (.inr (.inr (.inr (.inl rfl))))
 have st:=hs P.t (.inr (.inr (.inr (.inr rfl))))
 exact⟨h.ok,(u.cell h.lq sq).trans h.wO,(u.cell h.lq sq).trans h.Jy,(u.cell h.lq sq).trans h.BZ,(u.cell h.lq sq).trans h.J8,
  fun j hj=>(u.cell h.lb sb).trans (h.hb j hj),fun j hj=>(u.cell h.lr sr).trans (h.hr j hj),fun j hj=>(u.cell h.lm sm).trans (h.hm j hj),fun j hj=>(u.cell h.lt st).trans (h.ht j hj),
  fun j=>(u.frozen h.lb sb).trans (h.zb j),fun j=>(u.frozen h.lr sr).trans (h.zr j),fun j=>(u.frozen h.lm sm).trans (h.zm j),fun j=>(u.frozen h.lt st).trans (h.zt j),
  Nat.lt_of_lt_of_le h.lq u.size,Nat.lt_of_lt_of_le h.lb u.size,Nat.lt_of_lt_of_le h.lr u.size,Nat.lt_of_lt_of_le h.lm u.size,Nat.lt_of_lt_of_le h.lt u.size⟩
theorem RM.drew {P:RP} {M:MM} {W:World} (h:RM P M W):RM P M W.drew:=⟨h.ok,h.wO,h.Jy,h.BZ,h.J8,h.hb,h.hr,h.hm,h.ht,h.zb,h.zr,h.zm,h.zt,h.lq,h.lb,h.lr,h.lm,h.lt⟩
theorem RM.congr {P:RP} {M M':MM} {W:World} (h:RM P M W) (e1:∀j,j<65536→M'.jL j=M.jL j) (e2:∀j,j<256→M'.rt j=M.rt j) (e3:∀j,j<256→M'.wd j=M.wd j) (e4:∀j,j<256→M'.hi j=M.hi j):RM P M' W:=
 ⟨h.ok,h.wO,h.Jy,h.BZ,h.J8,fun j hj=>by rw [e1 j hj];exact h.hb j hj,fun j hj=>by rw [e2 j hj];exact h.hr j hj,fun j hj=>by rw [e3 j hj];exact h.hm j hj,fun j hj=>by rw [e4 j hj];exact h.ht j hj,h.zb,h.zr,h.zm,h.zt,h.lq,h.lb,h.lr,h.lm,h.lt⟩
theorem aX {W:World} {g k:Nat} {v:Value} {b i:Nat} (dU:¬ (b=g∧i=k)):(W.setCell ⟨g,k,none⟩ v).cell? ⟨b,i,none⟩=W.cell? ⟨b,i,none⟩:=
 World.cell?_setCell_other _ _ _ _ (by intro h;simp only [Addr.mk.injEq] at h;exact dU ⟨by omega,by omega⟩)
theorem nN {α:Type} (f:Nat→α) (k:Nat) (v:α):aO f k v k=v:=by simp [aO]
theorem vg {α:Type} (f:Nat→α) (k j:Nat) (v:α) (h:¬j=k):aO f k v j=f j:=by simp [aO,h]
theorem RM.zM {P:RP} {M:MM} {W:World} (h:RM P M W) (k:Nat) (hk:k<65536) (x:Int):RM P {M with jL:=aO M.jL k x} (W.setCell ⟨P.b,k,none⟩ (.int .u8 x)):=by
 obtain⟨o1,o2,o3,o4,o5,o6,o7,o8,o9,o10⟩:=h.ok
 refine⟨h.ok, ?_, ?_, ?_, ?_,fun j hj=> ?_,fun j hj=> ?_,fun j hj=> ?_,fun j hj=> ?_,fun j=>by simpa using h.zb j,fun j=>by simpa using h.zr j,fun j=>by simpa using h.zm j,fun j=>by simpa using h.zt j,by simpa using h.lq,by simpa using h.lb,by simpa using h.lr,by simpa using h.lm,by simpa using h.lt⟩
 ·rw [aX (by omega)];exact h.wO
 ·rw [aX (by omega)];exact h.Jy
 ·rw [aX (by omega)];exact h.BZ
 ·rw [aX (by omega)];exact h.J8
 ·by_cases rX:j=k
  ·subst rX;rw [World.cell?_setCell_same _ _ _ (h.hb j hj)];simp only [nN]
  ·rw [aX (by omega),h.hb j hj];simp only [vg _ _ _ _ rX]
 ·rw [aX (by omega)];exact h.hr j hj
 ·rw [aX (by omega)];exact h.hm j hj
 ·rw [aX (by omega)];exact h.ht j hj
theorem RM.eF {P:RP} {M:MM} {W:World} (h:RM P M W) (k:Nat) (hk:k<256) (x:Int):RM P {M with rt:=aO M.rt k x} (W.setCell ⟨P.r,k,none⟩ (.int .i64 x)):=by
 obtain⟨o1,o2,o3,o4,o5,o6,o7,o8,o9,o10⟩:=h.ok
 refine⟨h.ok, ?_, ?_, ?_, ?_,fun j hj=> ?_,fun j hj=> ?_,fun j hj=> ?_,fun j hj=> ?_,fun j=>by simpa using h.zb j,fun j=>by simpa using h.zr j,fun j=>by simpa using h.zm j,fun j=>by simpa using h.zt j,by simpa using h.lq,by simpa using h.lb,by simpa using h.lr,by simpa using h.lm,by simpa using h.lt⟩
 ·rw [aX (by omega)];exact h.wO
 ·rw [aX (by omega)];exact h.Jy
 ·rw [aX (by omega)];exact h.BZ
 ·rw [aX (by omega)];exact h.J8
 ·rw [aX (by omega)];exact h.hb j hj
 ·by_cases rX:j=k
  ·subst rX;rw [World.cell?_setCell_same _ _ _ (h.hr j hj)];simp only [nN]
  ·rw [aX (by omega),h.hr j hj];simp only [vg _ _ _ _ rX]
 ·rw [aX (by omega)];exact h.hm j hj
 ·rw [aX (by omega)];exact h.ht j hj
theorem RM.aag {P:RP} {M:MM} {W:World} (h:RM P M W) (k:Nat) (hk:k<256) (x:Bool):RM P {M with wd:=aO M.wd k x} (W.setCell ⟨P.m,k,none⟩ (.bool x)):=by
 obtain⟨o1,o2,o3,o4,o5,o6,o7,o8,o9,o10⟩:=h.ok
 refine⟨h.ok, ?_, ?_, ?_, ?_,fun j hj=> ?_,fun j hj=> ?_,fun j hj=> ?_,fun j hj=> ?_,fun j=>by simpa using h.zb j,fun j=>by simpa using h.zr j,fun j=>by simpa using h.zm j,fun j=>by simpa using h.zt j,by simpa using h.lq,by simpa using h.lb,by simpa using h.lr,by simpa using h.lm,by simpa using h.lt⟩
 ·rw [aX (by omega)];exact h.wO
 ·rw [aX (by omega)];exact h.Jy
 ·rw [aX (by omega)];exact h.BZ
 ·rw [aX (by omega)];exact h.J8
 ·rw [aX (by omega)];exact h.hb j hj
 ·rw [aX (by omega)];exact h.hr j hj
 ·by_cases rX:j=k
  ·subst rX;rw [World.cell?_setCell_same _ _ _ (h.hm j hj)];simp only [nN]
  ·rw [aX (by omega),h.hm j hj];simp only [vg _ _ _ _ rX]
 ·rw [aX (by omega)];exact h.ht j hj
theorem RM.vk {P:RP} {M:MM} {W:World} (h:RM P M W) (k:Nat) (hk:k<256) (x:Bool):RM P {M with hi:=aO M.hi k x} (W.setCell ⟨P.t,k,none⟩ (.bool x)):=by
 obtain⟨o1,o2,o3,o4,o5,o6,o7,o8,o9,o10⟩:=h.ok
 refine⟨h.ok, ?_, ?_, ?_, ?_,fun j hj=> ?_,fun j hj=> ?_,fun j hj=> ?_,fun j hj=> ?_,fun j=>by simpa using h.zb j,fun j=>by simpa using h.zr j,fun j=>by simpa using h.zm j,fun j=>by simpa using h.zt j,by simpa using h.lq,by simpa using h.lb,by simpa using h.lr,by simpa using h.lm,by simpa using h.lt⟩
 ·rw [aX (by omega)];exact h.wO
 ·rw [aX (by omega)];exact h.Jy
 ·rw [aX (by omega)];exact h.BZ
 ·rw [aX (by omega)];exact h.J8
 ·rw [aX (by omega)];exact h.hb j hj
 ·rw [aX (by omega)];exact h.hr j hj
 ·rw [aX (by omega)];exact h.hm j hj
 ·by_cases rX:j=k
  ·subst rX;rw [World.cell?_setCell_same _ _ _ (h.ht j hj)];simp only [nN]
  ·rw [aX (by omega),h.ht j hj];simp only [vg _ _ _ _ rX]
theorem J9 {α:Type} (f:Nat→α) (k:Nat) (v:α) (h:f k=v):aO f k v=f:=by
 funext j
 by_cases hj:j=k
 ·subst hj;rw [nN,h]
 ·rw [vg _ _ _ _ hj]
theorem WH (M:MM) (k:Nat) (h:M.wd k=true):jM M k={M with hi:=aO M.hi k true}:=by
 unfold jM
 cases hh:M.hi k
 ·simp [h]
 ·simp [h,J9 _ _ _ hh]
theorem Qn (M:MM) (k:Nat) (h:M.wd k=false):jM M k=M:=by unfold jM;simp [h]
abbrev RP.S (P:RP):Nat→Prop:=P.has
theorem qJ (P:RP) (M:MM) (k:Int) (k0:0≤k) (k1:k<256) (w:World) (h:RM P M w):
  Calls Try.prog 102 #[.pointer (some ⟨P.q,0,none⟩), .int .i64 k] w fun e w'=>e= .returned (.tuple #[])∧RM P (jM M k.toNat) w'∧ah P.S w w':=by
 have q2:=h.BZ
 have q3:=h.J8
 have c3:=h.hm k.toNat (by omega)
 have c4:=h.ht k.toNat (by omega)
 have z4:=h.zt k.toNat
 have HH:=κ h
 obtain⟨q,b,r,m,t⟩:=P
 simp only at q2 q3 c3 c4 z4
 clear h
 cases hm:M.wd k.toNat
 ·rw [Qn _ _ hm]
  rw [hm] at c3
  clear hm
  go_enter Try.func102,Try.ntmps102
  go_wp2
  go_end0
  exact⟨rfl,HH.out,ah.refl _ _⟩
 ·rw [WH _ _ hm]
  rw [hm] at c3
  clear hm
  go_enter Try.func102,Try.ntmps102
  go_wp2
  go_end0
  exact⟨rfl,HH.out.vk k.toNat (by omega) true,(ah.refl _ _).setCell (q:=⟨t,k.toNat,none⟩) (.inl (.inr (.inr (.inr (.inr rfl))))) _⟩
theorem yD (q:Nat) (k x:Int) (w:World) (hb:k<0∨256≤k∨x<0∨7<x):
  Calls Try.prog 59 #[.pointer (some ⟨q,0,none⟩), .int .i64 k, .int .i64 x] w fun e w'=>e= .returned (.int .i64 4)∧w=w':=by
 have HP:=κ (qI k)
 have hp:(k<0∨256≤k)∨(0≤k∧k<256∧(x<0∨(¬x<0∧7<x))):=by omega
 clear hb
 rcases hp with hp | ⟨p0,p1,hx | ⟨hx,Zv⟩⟩
 ·have e:(decide (0≤k)&&decide (k<256))=false:=by simp;omega
  rw [e] at HP
  clear hp
  go_enter Try.func59,Try.ntmps59
  go_wp2_with (go_at_call 104;refine(HP.out _).mono ?_;rintro e w' ⟨rfl,rfl⟩)
  go_ret
  exact⟨rfl,rfl⟩
 all_goals
  have e:(decide (0≤k)&&decide (k<256))=true:=by simp;omega
  rw [e] at HP
  go_enter Try.func59,Try.ntmps59
  go_wp2_with (go_at_call 104;refine(HP.out _).mono ?_;rintro e w' ⟨rfl,rfl⟩)
  go_ret
  exact⟨rfl,rfl⟩
theorem zN (P:RP) (M:MM) (k:Int) (x:Int) (w:World) (h:RM P M w) (k0:0≤k) (k1:k<256) (x0:0≤x) (x7:x≤7):
  Calls Try.prog 59 #[.pointer (some ⟨P.q,0,none⟩), .int .i64 k, .int .i64 x] w fun e w'=>e= .returned (.int .i64 0)∧RM P (Vt M k.toNat x) w'∧ah P.S w w':=by
 have HP:=κ (qI k)
 have e:(decide (0≤k)&&decide (k<256))=true:=by simp;omega
 rw [e] at HP
 have kW:k.toNat<256:=by omega
 have q1:=h.Jy
 have c2:=h.hr k.toNat kW
 have z2:=h.zr k.toNat
 have HH:=κ h
 have xa:¬x<0:=by omega
 have xb:¬7<x:=by omega
 have HC:=κ (qJ P M k k0 k1)
 obtain⟨q,b,r,m,t⟩:=P
 simp only at q1 c2 z2 HC
 unfold Vt
 by_cases hr:M.rt k.toNat=x
 ·rw [if_pos hr]
  rw [hr] at c2
  have hre:(x !=x)=false:=by simp
  clear h hr HC
  go_enter Try.func59,Try.ntmps59
  go_wp2_with (go_at_call 104;refine(HP.out _).mono ?_;rintro e w' ⟨rfl,rfl⟩)
  go_ret
  exact⟨rfl,HH.out.eF k.toNat kW x,(ah.refl _ _).setCell (q:=⟨r,k.toNat,none⟩) (.inl (.inr (.inr (.inl rfl)))) _⟩
 ·rw [if_neg hr]
  have Vu:(M.rt k.toNat !=x)=true:=by rw [bne_iff_ne];exact hr
  generalize M.rt k.toNat=y at c2 Vu
  clear h hr
  go_enter Try.func59,Try.ntmps59
  go_wp2_with (first
   | (go_at_call 104;refine(HP.out _).mono ?_;rintro e w' ⟨rfl,rfl⟩)
   | (go_at_call 102;refine(HC.out _ HH.out).mono ?_;rintro e w1 ⟨rfl,h1,o1⟩;have e1:=h1.Jy;have d2:=h1.hr k.toNat kW;have y2:=h1.zr k.toNat;simp only at e1 d2 y2))
  go_ret
  have h9:=h1.eF k.toNat kW x
  rw [JW] at h9
  exact⟨rfl,h9,o1.setCell (q:=⟨r,k.toNat,none⟩) (.inl (.inr (.inr (.inl rfl)))) _⟩
theorem Hg (q:Nat) (k:Int) (b:Bool) (w:World) (hb:k<0∨256≤k):
  Calls Try.prog 61 #[.pointer (some ⟨q,0,none⟩), .int .i64 k, .bool b] w fun e w'=>e= .returned (.int .i64 4)∧w=w':=by
 have HP:=κ (qI k)
 have e:(decide (0≤k)&&decide (k<256))=false:=by simp;omega
 rw [e] at HP
 clear hb
 go_enter Try.func61,Try.ntmps61
 go_wp2_with (go_at_call 104;refine(HP.out _).mono ?_;rintro e w' ⟨rfl,rfl⟩)
 go_ret
 exact⟨rfl,rfl⟩
theorem Ko (M:MM) (k:Nat):Jw M k true={M with wd:=aO M.wd k true}:=by unfold Jw;simp
theorem Hl (M:MM) (k:Nat):Jw M k false={M with wd:=aO M.wd k false,hi:=aO M.hi k false}:=by
 unfold Jw
 cases hh:M.hi k
 ·simp [J9 _ _ _ hh]
 ·simp
theorem Kq (P:RP) (M:MM) (k:Int) (b:Bool) (w:World) (h:RM P M w) (k0:0≤k) (k1:k<256):
  Calls Try.prog 61 #[.pointer (some ⟨P.q,0,none⟩), .int .i64 k, .bool b] w fun e w'=>e= .returned (.int .i64 0)∧RM P (Jw M k.toNat b) w'∧ah P.S w w':=by
 have HP:=κ (qI k)
 have e:(decide (0≤k)&&decide (k<256))=true:=by simp;omega
 rw [e] at HP
 have kW:k.toNat<256:=by omega
 have q2:=h.BZ
 have q3:=h.J8
 have c3:=h.hm k.toNat kW
 have c4:=h.ht k.toNat kW
 have z3:=h.zm k.toNat
 have z4:=h.zt k.toNat
 have o3:P.q≠P.m:=h.ok.2.2.1
 have o4:P.t≠P.m:=fun e=>h.ok.2.2.2.2.2.2.2.2.2 e.symm
 have HH:=κ h
 obtain⟨q,b',r,m,t⟩:=P
 simp only at q2 q3 c3 c4 z3 z4 o3 o4
 clear h
 cases b
 ·rw [Hl]
  go_enter Try.func61,Try.ntmps61
  go_wp2_with (go_at_call 104;refine(HP.out _).mono ?_;rintro e w' ⟨rfl,rfl⟩)
  go_ret
  exact⟨rfl,(HH.out.aag k.toNat kW false).vk k.toNat kW false,((ah.refl _ _).setCell (q:=⟨m,k.toNat,none⟩) (.inl (.inr (.inr (.inr (.inl rfl))))) _).setCell (q:=⟨t,k.toNat,none⟩) (.inl (.inr (.inr (.inr (.inr rfl))))) _⟩
 ·rw [Ko]
  go_enter Try.func61,Try.ntmps61
  go_wp2_with (go_at_call 104;refine(HP.out _).mono ?_;rintro e w' ⟨rfl,rfl⟩)
  go_ret
  exact⟨rfl,HH.out.aag k.toNat kW true,(ah.refl _ _).setCell (q:=⟨m,k.toNat,none⟩) (.inl (.inr (.inr (.inr (.inl rfl))))) _⟩
theorem vw (P:RP) (M:MM) (w:World) (h:RM P M w):
  Calls Try.prog 25 #[.pointer (some ⟨P.q,0,none⟩)] w fun e w'=>e= .returned (.bool (nM M.hi))∧w=w':=by
 have q3:=h.J8
 have HH:=κ h
 obtain⟨q,b',r,m,t⟩:=P
 simp only at q3
 clear h
 go_enter Try.func25,Try.ntmps25
 go_wp2
 go_loopg [10] 256 (fun g i wr=>∃k:Nat,g=256-k∧k≤256∧i= .int .i64 k∧Hid (∀j,j<k→M.hi j=false)∧w=wr)
 case atStart=>exact⟨0,rfl,Nat.zero_le _,rfl,fun j hj=>absurd hj (by omega),rfl⟩
 case round=>
  obtain⟨k,hg,hk,rfl,HN,rfl⟩:=hrel
  by_cases bV:k<256
  ·have oV:(k:Int) <256:=by omega
   have WI:(0:Int)≤(k:Int):=by omega
   have c4:=HH.out.ht k bV
   simp only at c4
   cases hb:M.hi k
   ·rw [hb] at c4
    have HB:=κ hb
    clear hb
    go_wp2
    go_roundg (256-(k+1))
    case measure=>omega
    case rel=>
     refine⟨k+1,rfl,by omega,by simp,fun j hj=> ?_,rfl⟩
     by_cases rX:j=k
     ·subst rX;exact HB.out
     ·exact HN.out j (by omega)
   ·rw [hb] at c4
    have HB:=κ hb
    clear hb
    go_wp2
    go_ret
    exact⟨by rw [(zI _).2 ⟨k,bV,HB.out⟩];rfl,rfl⟩
  ·obtain rfl:k=256:=by omega
   go_wp2
   go_ret
   refine⟨?_,rfl⟩
   have:nM M.hi=false:=by
    rw [Bool.eq_false_iff]
    intro h
    obtain⟨j,hj,hb⟩:=(zI _).1 h
    rw [HN.out j hj] at hb
    cases hb
   rw [this];rfl
theorem vC (P:RP) (M:MM) (a n r kind:Int) (w:World) (h:RM P M w) (hM:iC M) (hr:r=1∨r=2∨r=4) (a0:0≤a) (a1:a<4294967296) (n1:n<9223372036854775808):
  Calls Try.prog 162 #[.pointer (some ⟨P.q,0,none⟩), .int .u32 a, .int .i64 n, .int .i64 r, .int .i64 kind] w fun e w'=>e= .returned (iO kind (cO M r a n.toNat))∧Below w.heap.size w w':=by
 have q1:=h.Jy
 have HH:=κ h
 have HM':=κ hM
 have HR:=κ hr
 have r0:0<r:=by omega
 have r1:r≤4:=by omega
 have rn:(r==0)=false:=by rw [beq_eq_false_iff_ne];omega
 have lq:=h.lq
 have lr:=h.lr
 have b0:=κ (fun o=>(Below.refl w.heap.size w).alloc (Nat.le_refl _) o)
 obtain⟨pq,pb,pr,pm,pt⟩:=P
 simp only at q1 lq lr
 clear h hM hr
 go_enter Try.func162,Try.ntmps162
 go_wp2
 go_loopg [11] n.toNat (fun g i wr=>∃k:Nat,g=n.toNat-k∧k≤n.toNat∧i= .int .i64 k∧Hid (∀j,j<k→oU M r (uP a j)=true)∧wr=w.alloc (.cells #[.int .i64 0, .int .u32 0] 46))
 case atStart=>exact⟨0,rfl,Nat.zero_le _,rfl,fun j hj=>absurd hj (by omega),rfl⟩
 case round=>
  obtain⟨k,hg,hk,rfl,hA,rfl⟩:=hrel
  by_cases bV:k<n.toNat
  ·have oV:(k:Int) <n:=by omega
   have k0:(0:Int)≤(k:Int):=by omega
   have hx:=Wy a k
   have ex:(a+(k:Int)%4294967296)%4294967296=uP a k:=by unfold uP;omega
   obtain⟨x0,x1⟩:=hx
   obtain⟨x,Vw⟩:∃x,uP a k=x:=⟨_,rfl⟩
   rw [Vw] at x0 x1 ex
   have HX:=κ Vw
   clear Vw
   by_cases hm:65535<x
   ·go_wp2
    refine bodyPost_ret (v:= .agg #[.int .i64 kind, .int .u32 x]) (by simp [results,Try.results162,go_sem]) rfl ⟨?_, ?_⟩
    ·have Kr:oU M r x=false:=by unfold oU;rw [decide_eq_false (by omega)];rfl
     rw [xg k bV hA (by rw [HX.out];exact Kr),HX.out];rfl
    ·exact b0.out _
   ·have Hq:x≤65535:=by omega
    have q0:(x/256).toNat<256:=by omega
    have c2:=HH.out.hr (x/256).toNat q0
    have Zw:oU M r x=decide (M.rt (x/256).toNat/r%2=1):=by
     unfold oU;rw [decide_eq_true (show x<65536 by omega)];rfl
    simp only at c2
    have yb:=HM'.out.2 (x/256).toNat
    generalize M.rt (x/256).toNat=y at c2 Zw yb
    obtain⟨y0,y1⟩:=yb
    have d0:0≤y/r:=Int.ediv_nonneg (by omega) (by omega)
    have d1:y/r≤y:=Int.ediv_le_self _ (by omega)
    have d2:y/r<8:=by omega
    by_cases hd:y/r%2=1
    ·have Kr:=κ (Zw.trans (decide_eq_true hd))
     have hz:(y/r%2==0)=false:=by rw [beq_eq_false_iff_ne];omega
     clear hd Zw
     go_wp2
     go_roundg (n.toNat-(k+1))
     case measure=>omega
     case rel=>exact⟨k+1,rfl,by omega,by simp,J6 hA HX Kr,rfl⟩
    ·have Kr:=κ (Zw.trans (decide_eq_false hd))
     have hz:(y/r%2==0)=true:=by rw [beq_iff_eq];omega
     clear hd Zw
     go_wp2
     refine bodyPost_ret (v:= .agg #[.int .i64 kind, .int .u32 x]) (by simp [results,Try.results162,go_sem]) rfl ⟨?_, ?_⟩
     ·rw [xg k bV hA (by rw [HX.out];exact Kr.out),HX.out];rfl
     ·exact b0.out _
  ·have Jz:¬ (k:Int) <n:=by omega
   have kW:k=n.toNat:=by omega
   have HK:=κ kW
   clear kW
   go_wp2
   refine bodyPost_ret (v:= .agg #[.int .i64 0, .int .u32 0]) (by simp [results,Try.results162,go_sem]) rfl ⟨?_, ?_⟩
   ·rw [wZ (fun j hj=>hA.out j (by rw [HK.out];exact hj))];rfl
   ·exact b0.out _
theorem fB {w w1:World} {ob:Obj} (hb:Below (w.alloc ob).heap.size (w.alloc ob) w1):Below w.heap.size w w1:=((Below.refl _ _).alloc (Nat.le_refl _) _).trans (hb.mono (by simp))
theorem Rs.iP {w w1:World} (hb:Below (w.alloc (.cells #[.int .i64 0, .int .u32 0] 46)).heap.size (w.alloc (.cells #[.int .i64 0, .int .u32 0] 46)) w1):Rs w.heap.size w1:=
 (Rs.new w w.heap.size rfl).upto (ah.aG (S:=fun _=>False) hb) id
theorem Dn {a b:Int} {v:Value} (h:a=b):Ending.returned (.tuple #[.int .u32 a,v])= .returned (.tuple #[.int .u32 b,v]):=by rw [h]
theorem Ht (P:RP) (M:MM) (a n x:Int) (w:World) (h:RM P M w) (hM:iC M) (a0:0≤a) (a1:a<4294967296) (n1:n<9223372036854775808) (hs:cO M 1 a n.toNat=some x):
  Calls Try.prog 105 #[.pointer (some ⟨P.q,0,none⟩), .int .u32 a, .int .i64 n] w fun e w'=>e= .returned (.tuple #[.int .u32 0, .agg #[.int .i64 5, .int .u32 x]])∧Below w.heap.size w w':=by
 have HB:=κ (fun w h=>vC P M a n 1 5 w h hM (.inl rfl) a0 a1 n1)
 rw [hs] at HB
 simp only [iO] at HB
 have HH:=κ (fun o=>h.upto ((ah.refl (fun _=>False) w).alloc o) (fun _ _=>id))
 clear h hM hs
 go_enter Try.func105,Try.ntmps105
 go_wp2_with (go_at_call 162;refine(HB.out _ (HH.out _)).mono ?_;rintro e w1 ⟨rfl,aQ⟩;obtain⟨g0,g1,g2,g3,g4⟩:=Rs.iP aQ;have B1:=κ (fB aQ);clear aQ)
 go_region
 go_wp2
 refine bodyPost_ret (v:= .tuple #[.int .u32 0, .agg #[.int .i64 5, .int .u32 x]]) (by simp [results,Try.results105,go_sem,g0,g1,g4]) rfl ⟨rfl, ?_⟩
 exact(((B1.out.setCell (Nat.le_refl _) _).setCell (Nat.le_refl _) _).alloc (by simpa using B1.out.size) _).drew
theorem Dp (P:RP) (M:MM) (a n:Int) (w:World) (h:RM P M w) (hM:iC M) (a0:0≤a) (a1:a<4294967296) (n1:n<9223372036854775808) (hs:cO M 1 a n.toNat=none) (hn:¬ (n=1∨n=2∨n=4)):
  Calls Try.prog 105 #[.pointer (some ⟨P.q,0,none⟩), .int .u32 a, .int .i64 n] w fun e w'=>e= .returned (.tuple #[.int .u32 0, .agg #[.int .i64 0, .int .u32 0]])∧Below w.heap.size w w':=by
 have HB:=κ (fun w h=>vC P M a n 1 5 w h hM (.inl rfl) a0 a1 n1)
 rw [hs] at HB
 simp only [iO] at HB
 have HH:=κ (fun o=>h.upto ((ah.refl (fun _=>False) w).alloc o) (fun _ _=>id))
 have e1:(n !=1)=true:=by rw [bne_iff_ne];omega
 have e2:(n !=2)=true:=by rw [bne_iff_ne];omega
 have e4:(n !=4)=true:=by rw [bne_iff_ne];omega
 clear h hM hs hn
 go_enter Try.func105,Try.ntmps105
 go_wp2_with (go_at_call 162;refine(HB.out _ (HH.out _)).mono ?_;rintro e w1 ⟨rfl,aQ⟩;obtain⟨g0,g1,g2,g3,g4⟩:=Rs.iP aQ;have B1:=κ (fB aQ);clear aQ)
 go_region
 go_wp2
 refine bodyPost_ret (v:= .tuple #[.int .u32 0, .agg #[.int .i64 0, .int .u32 0]]) (by simp [results,Try.results105,go_sem,g0,g1,g4]) rfl ⟨rfl, ?_⟩
 exact(((B1.out.setCell (Nat.le_refl _) _).setCell (Nat.le_refl _) _).alloc (by simpa using B1.out.size) _).drew
theorem Qo (P:RP) (M:MM) (a:Int) (w:World) (h:RM P M w) (hM:iC M) (a0:0≤a) (a1:a<4294967296) (hs:cO M 1 a 1=none):
  Calls Try.prog 105 #[.pointer (some ⟨P.q,0,none⟩), .int .u32 a, .int .i64 1] w fun e w'=>e= .returned (.tuple #[.int .u32 (bg M a 0), .agg #[.int .i64 0, .int .u32 0]])∧Below w.heap.size w w':=by
 have HB:=κ (fun w h=>vC P M a 1 1 5 w h hM (.inl rfl) a0 a1 (by omega))
 rw [show(1:Int).toNat=1 from rfl,hs] at HB
 simp only [iO] at HB
 have HH:=κ (fun o=>h.upto ((ah.refl (fun _=>False) w).alloc o) (fun _ _=>id))
 have p0:=(rZ a0 a1 hs 0 (by omega) (by omega)).2
 have q0:=h.wO
 have lq:=h.lq
 have lb:=h.lb
 unfold bg
 rw [Nat.add_zero]
 have b1:a<65536:=by omega
 have c0:=h.hb a.toNat (by omega)
 have r0:=hM.1 a.toNat
 generalize M.jL a.toNat=y0 at c0 r0⊢
 obtain⟨r0a,r0b⟩:=r0
 obtain⟨pq,pb,pr,pm,pt⟩:=P
 simp only at q0 lq lb c0 HB HH
 clear h hM hs p0
 go_enter Try.func105,Try.ntmps105
 go_wp2_with (go_at_call 162;refine(HB.out _ (HH.out _)).mono ?_;rintro e w1 ⟨rfl,aQ⟩;obtain⟨g0,g1,g2,g3,g4⟩:=Rs.iP aQ;have B1:=κ (fB aQ);have q0':=(B1.out.cell (p:=⟨pq,0,none⟩) lq).trans q0;have c0':=(B1.out.cell (p:=⟨pb,a.toNat,none⟩) lb).trans c0;have lq':=Nat.lt_of_lt_of_le lq B1.out.size;have lb':=Nat.lt_of_lt_of_le lb B1.out.size;clear aQ)
 refine wp_loop_rounds 2 ?_
 rw [rounds_succ];go_wp2
 rw [rounds_succ];go_wp2
 go_region
 go_wp2
 refine bodyPost_ret (v:= .tuple #[.int .u32 (y0), .agg #[.int .i64 0, .int .u32 0]]) (by simp [results,Try.results105,go_sem,g0,g1,g4]) rfl ⟨Dn (by omega), ?_⟩
 exact(((B1.out.setCell (Nat.le_refl _) _).setCell (Nat.le_refl _) _).alloc (by simpa using B1.out.size) _).drew
theorem Qp (P:RP) (M:MM) (a:Int) (w:World) (h:RM P M w) (hM:iC M) (a0:0≤a) (a1:a<4294967296) (hs:cO M 1 a 2=none):
  Calls Try.prog 105 #[.pointer (some ⟨P.q,0,none⟩), .int .u32 a, .int .i64 2] w fun e w'=>e= .returned (.tuple #[.int .u32 (bg M a 0+bg M a 1*256), .agg #[.int .i64 0, .int .u32 0]])∧Below w.heap.size w w':=by
 have HB:=κ (fun w h=>vC P M a 2 1 5 w h hM (.inl rfl) a0 a1 (by omega))
 rw [show(2:Int).toNat=2 from rfl,hs] at HB
 simp only [iO] at HB
 have HH:=κ (fun o=>h.upto ((ah.refl (fun _=>False) w).alloc o) (fun _ _=>id))
 have p0:=(rZ a0 a1 hs 1 (by omega) (by omega)).2
 have q0:=h.wO
 have lq:=h.lq
 have lb:=h.lb
 unfold bg
 rw [Nat.add_zero]
 have b1:a<65536:=by omega
 have b2:a+1<65536:=by omega
 have c0:=h.hb a.toNat (by omega)
 have r0:=hM.1 a.toNat
 have c1:=h.hb (a.toNat+1) (by omega)
 have r1:=hM.1 (a.toNat+1)
 rw [show a.toNat+1=(a+1).toNat by omega] at c1 r1
 generalize M.jL a.toNat=y0 at c0 r0⊢
 rw [show a.toNat+1=(a+1).toNat by omega]
 generalize M.jL (a+1).toNat=y1 at c1 r1⊢
 obtain⟨r0a,r0b⟩:=r0
 obtain⟨r1a,r1b⟩:=r1
 obtain⟨pq,pb,pr,pm,pt⟩:=P
 simp only at q0 lq lb c0 c1 HB HH
 clear h hM hs p0
 go_enter Try.func105,Try.ntmps105
 go_wp2_with (go_at_call 162;refine(HB.out _ (HH.out _)).mono ?_;rintro e w1 ⟨rfl,aQ⟩;obtain⟨g0,g1,g2,g3,g4⟩:=Rs.iP aQ;have B1:=κ (fB aQ);have q0':=(B1.out.cell (p:=⟨pq,0,none⟩) lq).trans q0;have c0':=(B1.out.cell (p:=⟨pb,a.toNat,none⟩) lb).trans c0;have c1':=(B1.out.cell (p:=⟨pb,(a+1).toNat,none⟩) lb).trans c1;have lq':=Nat.lt_of_lt_of_le lq B1.out.size;have lb':=Nat.lt_of_lt_of_le lb B1.out.size;clear aQ)
 refine wp_loop_rounds 3 ?_
 rw [rounds_succ];go_wp2
 rw [rounds_succ];go_wp2
 rw [rounds_succ];go_wp2
 go_region
 go_wp2
 refine bodyPost_ret (v:= .tuple #[.int .u32 (y1*256+y0), .agg #[.int .i64 0, .int .u32 0]]) (by simp [results,Try.results105,go_sem,g0,g1,g4]) rfl ⟨Dn (by omega), ?_⟩
 exact(((B1.out.setCell (Nat.le_refl _) _).setCell (Nat.le_refl _) _).alloc (by simpa using B1.out.size) _).drew
theorem Qq (P:RP) (M:MM) (a:Int) (w:World) (h:RM P M w) (hM:iC M) (a0:0≤a) (a1:a<4294967296) (hs:cO M 1 a 4=none):
  Calls Try.prog 105 #[.pointer (some ⟨P.q,0,none⟩), .int .u32 a, .int .i64 4] w fun e w'=>e= .returned (.tuple #[.int .u32 (bg M a 0+bg M a 1*256+bg M a 2*65536+bg M a 3*16777216), .agg #[.int .i64 0, .int .u32 0]])∧Below w.heap.size w w':=by
 have HB:=κ (fun w h=>vC P M a 4 1 5 w h hM (.inl rfl) a0 a1 (by omega))
 rw [show(4:Int).toNat=4 from rfl,hs] at HB
 simp only [iO] at HB
 have HH:=κ (fun o=>h.upto ((ah.refl (fun _=>False) w).alloc o) (fun _ _=>id))
 have p0:=(rZ a0 a1 hs 3 (by omega) (by omega)).2
 have q0:=h.wO
 have lq:=h.lq
 have lb:=h.lb
 unfold bg
 rw [Nat.add_zero]
 have b1:a<65536:=by omega
 have b2:a+1<65536:=by omega
 have b3:a+2<65536:=by omega
 have b4:a+3<65536:=by omega
 have c0:=h.hb a.toNat (by omega)
 have r0:=hM.1 a.toNat
 have c1:=h.hb (a.toNat+1) (by omega)
 have r1:=hM.1 (a.toNat+1)
 rw [show a.toNat+1=(a+1).toNat by omega] at c1 r1
 have c2:=h.hb (a.toNat+2) (by omega)
 have r2:=hM.1 (a.toNat+2)
 rw [show a.toNat+2=(a+2).toNat by omega] at c2 r2
 have c3:=h.hb (a.toNat+3) (by omega)
 have r3:=hM.1 (a.toNat+3)
 rw [show a.toNat+3=(a+3).toNat by omega] at c3 r3
 generalize M.jL a.toNat=y0 at c0 r0⊢
 rw [show a.toNat+1=(a+1).toNat by omega]
 generalize M.jL (a+1).toNat=y1 at c1 r1⊢
 rw [show a.toNat+2=(a+2).toNat by omega]
 generalize M.jL (a+2).toNat=y2 at c2 r2⊢
 rw [show a.toNat+3=(a+3).toNat by omega]
 generalize M.jL (a+3).toNat=y3 at c3 r3⊢
 obtain⟨r0a,r0b⟩:=r0
 obtain⟨r1a,r1b⟩:=r1
 obtain⟨r2a,r2b⟩:=r2
 obtain⟨r3a,r3b⟩:=r3
 obtain⟨pq,pb,pr,pm,pt⟩:=P
 simp only at q0 lq lb c0 c1 c2 c3 HB HH
 clear h hM hs p0
 go_enter Try.func105,Try.ntmps105
 go_wp2_with (go_at_call 162;refine(HB.out _ (HH.out _)).mono ?_;rintro e w1 ⟨rfl,aQ⟩;obtain⟨g0,g1,g2,g3,g4⟩:=Rs.iP aQ;have B1:=κ (fB aQ);have q0':=(B1.out.cell (p:=⟨pq,0,none⟩) lq).trans q0;have c0':=(B1.out.cell (p:=⟨pb,a.toNat,none⟩) lb).trans c0;have c1':=(B1.out.cell (p:=⟨pb,(a+1).toNat,none⟩) lb).trans c1;have c2':=(B1.out.cell (p:=⟨pb,(a+2).toNat,none⟩) lb).trans c2;have c3':=(B1.out.cell (p:=⟨pb,(a+3).toNat,none⟩) lb).trans c3;have lq':=Nat.lt_of_lt_of_le lq B1.out.size;have lb':=Nat.lt_of_lt_of_le lb B1.out.size;clear aQ)
 refine wp_loop_rounds 5 ?_
 rw [rounds_succ];go_wp2
 rw [rounds_succ];go_wp2
 rw [rounds_succ];go_wp2
 rw [rounds_succ];go_wp2
 rw [rounds_succ];go_wp2
 go_region
 go_wp2
 refine bodyPost_ret (v:= .tuple #[.int .u32 (((y3*256+y2)*256+y1)*256+y0), .agg #[.int .i64 0, .int .u32 0]]) (by simp [results,Try.results105,go_sem,g0,g1,g4]) rfl ⟨Dn (by omega), ?_⟩
 exact(((B1.out.setCell (Nat.le_refl _) _).setCell (Nat.le_refl _) _).alloc (by simpa using B1.out.size) _).drew
theorem lJ (P:RP) (M:MM) (a n:Int) (w:World) (h:RM P M w) (hM:iC M) (a0:0≤a) (a1:a<4294967296) (n1:n<9223372036854775808):
  Calls Try.prog 105 #[.pointer (some ⟨P.q,0,none⟩), .int .u32 a, .int .i64 n] w fun e w'=>e= .returned (.tuple #[.int .u32 (nC M a n),iO 5 (cO M 1 a n.toNat)])∧Below w.heap.size w w':=by
 unfold nC
 obtain⟨o,ho⟩:∃o,cO M 1 a n.toNat=o:=⟨_,rfl⟩
 rw [ho]
 rcases o with _ | x
 ·simp only [Option.isNone_none,if_true,iO]
  by_cases e1:n=1
  ·subst e1;rw [if_pos rfl];exact Qo P M a w h hM a0 a1 ho
  ·rw [if_neg e1]
   by_cases e2:n=2
   ·subst e2;rw [if_pos rfl];exact Qp P M a w h hM a0 a1 ho
   ·rw [if_neg e2]
    by_cases e4:n=4
    ·subst e4;rw [if_pos rfl];exact Qq P M a w h hM a0 a1 ho
    ·rw [if_neg e4]
     exact Dp P M a n w h hM a0 a1 n1 ho (by omega)
 ·simp only [Option.isNone_some,Bool.false_eq_true,if_false,iO]
  exact Ht P M a n x w h hM a0 a1 n1 ho
theorem Vx (a n:Int) (h:0≤a∧0≤n∧a≤65536∧n≤65536-a) (w:World):Calls Try.prog 100 #[.int .i64 a, .int .i64 n] w fun e w'=>e= .returned (.bool true)∧w=w':=by
 obtain⟨h1,h2,h3,h4⟩:=h
 go_enter Try.func100,Try.ntmps100
 go_wp2
 go_ret
 exact⟨rfl,rfl⟩
theorem aah (a n:Int) (h:¬ (0≤a∧0≤n∧a≤65536∧n≤65536-a)) (w:World):Calls Try.prog 100 #[.int .i64 a, .int .i64 n] w fun e w'=>e= .returned (.bool false)∧w=w':=by
 rcases(show¬0≤a∨(0≤a∧¬0≤n)∨(0≤a∧0≤n∧¬a≤65536)∨(0≤a∧0≤n∧a≤65536∧¬n≤65536-a) by omega) with h1 | ⟨h1,h2⟩ | ⟨h1,h2,h3⟩ | ⟨h1,h2,h3,h4⟩
 all_goals clear h
 all_goals go_enter Try.func100,Try.ntmps100
 all_goals go_wp2
 all_goals go_ret
 all_goals exact⟨rfl,rfl⟩
end Go.Proofs.Ytcjcmnnhmajocab.Me
namespace Go.Proofs.Ytcjcmnnhmajocab.Gu
open Go.RowKit Kt
theorem qK:∃i,Try.prog.info? 5=some i∧i.zero=some (.int .u8 0)∧i.size=1∧i.bytes=1:=by
 have h:(Try.prog.info? 5).map (fun i=>(i.zero,i.size,i.bytes))=some (some (.int .u8 0),1,1):=by kernel_rfl
 obtain⟨i,hi,hz⟩:=Option.map_eq_some_iff.1 h
 simp only [Prod.mk.injEq] at hz
 exact⟨i,hi,hz.1,hz.2.1,hz.2.2⟩
def Bs (us:List Int) (ao:Option Addr) (cap:Nat) (w:World):Prop:=
 us.length≤cap∧cap≤maxLen∧(0<us.length→∃b off,ao=some ⟨b,off,none⟩∧b<w.heap.size∧∀j,j<us.length→w.cell? ⟨b,off+j,none⟩=some (.int .u8 (us.getD j 0)))
theorem Bs.keep {us:List Int} {ao:Option Addr} {cap:Nat} {w w':World} (h:Bs us ao cap w) (hb:Below w.heap.size w w'):Bs us ao cap w':=by
 obtain⟨l,m,k⟩:=h
 refine⟨l,m,fun hlen=> ?_⟩
 obtain⟨b,off,rfl,Ku,hc⟩:=k hlen
 exact⟨b,off,rfl,Nat.lt_of_lt_of_le Ku hb.size,fun j hj=>by rw [hb.cell (p:=⟨b,off+j,none⟩) Ku];exact hc j hj⟩
end Go.Proofs.Ytcjcmnnhmajocab.Gu
namespace Go.Proofs.Ytcjcmnnhmajocab.Me
open Go.RowKit Kt
def Own (base:Nat) (v:Value) (us:List Int) (w:World):Prop:=w.ownsRow base 5 1 v us.length (us.map (Value.int .u8))
theorem Own.mono {base Vy:Nat} {v:Value} {us:List Int} {w:World} (h:Own base v us w) (hb:Vy≤base):Own Vy v us w:=by
 obtain⟨h1,h⟩:=h
 refine⟨h1, ?_⟩
 rcases h with h | ⟨g,cap,cur,e1,e2,e3,e4⟩
 ·exact .inl h
 ·exact .inr ⟨g,cap,cur,e1,Nat.le_trans hb e2,e3,e4⟩
theorem Own.below {base:Nat} {v:Value} {us:List Int} {w:World} (h:Own base v us w) {q:Addr} (hq:q.block<base) (u:Value):Own base v us (w.setCell q u):=ownsRow_setCell_below h hq u
theorem xk:Try.prog.arrayLen 140=65536∧Try.prog.underlying 140=some (.array (Try.prog.arrayLen 140) (Try.prog.elem 140))∧Try.prog.elem 140=5∧∀w,(sizeOf 5).run Try.prog w= .ok 1 w:=by
 refine⟨by kernel_rfl,by kernel_rfl,by kernel_rfl,fun w=> ?_⟩
 obtain⟨i,hi,hz,hs,hb⟩:=Gu.qK
 simp [hi,hs,go_sem]
def Zx (a n:Int):Bool:=decide (0≤a)&&decide (0≤n)&&decide (a≤65536)&&decide (n≤65536-a)
theorem uQ (a n:Int):Zx a n=true↔(0≤a∧0≤n∧a≤65536∧n≤65536-a):=by unfold Zx;simp [and_assoc]
def inE (a n:Int):Int:=if Zx a n then 0 else 4
theorem Own.nil (base:Nat) (w:World):Own base (.slice none 0 0) [] w:=World.ownsRow_nil w _ _ _
def ovl (f:Nat→Int):Nat→List Int→Nat→Int
 | _, []=>f
 | at_,b::bs=>ovl (aO f at_ b) (at_+1) bs
def zO (M:MM):Nat→Nat→MM
 | _,0=>M
 | at_,k+1=>zO (jM M (at_/256)) (at_+1) k
theorem Hu (M:MM) (at_ k:Nat):zO M at_ (k+1)=jM (zO M at_ k) ((at_+k)/256):=by
 induction k generalizing M at_ with
 | zero=>rfl
 | succ k ih=>
  show zO (jM M (at_/256)) (at_+1) (k+1)=_
  rw [ih]
  show _=jM (zO (jM M (at_/256)) (at_+1) k) _
  rw [show at_+1+k=at_+(k+1) by omega]
theorem Kv (M:MM) (at_:Nat) (us:List Int):pk M at_ us=zO {M with jL:=ovl M.jL at_ us} at_ us.length:=by
 induction us generalizing M at_ with
 | nil=>rfl
 | cons b bs ih=>
  show pk (jM {M with jL:=aO M.jL at_ b} (at_/256)) (at_+1) bs=zO (jM {M with jL:=ovl (aO M.jL at_ b) (at_+1) bs} (at_/256)) (at_+1) bs.length
  rw [ih]
  congr 1
  exact(by unfold jM;split<;>rfl)
theorem HC.setCells {p:Nat} {W:World} (us:List Int):∀ (M:MM) (at_:Nat) (W:World),HC p M W→at_+us.length≤65536→HC p {M with jL:=ovl M.jL at_ us} (W.setCells p at_ (us.map (Value.int .u8))):=by
 induction us with
 | nil=>exact fun M at_ W h _=>h
 | cons b bs ih=>
  intro M at_ W h hl
  rw [List.length_cons] at hl
  exact ih {M with jL:=aO M.jL at_ b} (at_+1) _ (h.put at_ (by omega) b) (by omega)
theorem ah.setCells {S:Nat→Prop} {a:World} {p:Nat} (hp:S p) (us:List Value):∀ (w:World) (at_:Nat),ah S a w→ah S a (w.setCells p at_ us):=by
 induction us with
 | nil=>exact fun w at_ h=>h
 | cons b bs ih=>exact fun w at_ h=>ih _ _ (h.setCell (q:=⟨p,at_,none⟩) (.inl hp) b)
theorem tK (p:Nat) (a:Int) (w:World) (a0:0≤a) (ha:a<65536):
  (Instr.sliceAt 140 (.pointer (some ⟨p,0,none⟩)) (some (.int .i64 a)) none none).run Try.prog w= .ok (.slice (some ⟨p,a.toNat,none⟩) (65536-a.toNat) (65536-a.toNat)) w:=by
 obtain⟨f1,f2,f3,f4⟩:=xk
 rw [run_sliceAt_array_l w 140 ⟨p,0,none⟩ f2 .i64 a (by omega) (by rw [f1];omega),f3,f4,f1]
 simp only [Result.andThen,slicedAt]
 rw [if_neg (by omega)]
 have e:(⟨p,0,none⟩:Addr).add (a.toNat*1)=⟨p,a.toNat,none⟩:=by rw [Addr.add_lit];simp
 rw [e]
theorem Kw (p a:Nat) (us:List Int) (b off cap:Nat) (M:MM) (w:World) (h:HC p M w) (ha:a+us.length≤65536) (hc:∀j,j<us.length→w.cell? ⟨b,off+j,none⟩=some (.int .u8 (us.getD j 0))):
  (Builtin.copy_ #[74,74] 3 #[.slice (some ⟨p,a,none⟩) (65536-a) (65536-a), .slice (some ⟨b,off,none⟩) us.length cap]).run Try.prog w= .ok (goInt us.length) (w.setCells p a (us.map (Value.int .u8))):=by
 have hs:(Try.prog.info? 5).map (·.size)=some 1:=by
  obtain⟨i,hi,hz,hs,hb⟩:=Gu.qK
  rw [hi,Option.map_some,hs]
 have hr:=run_copy_cells (P:=Try.prog) w 74 74 3 5 p a (65536-a) (65536-a) ⟨b,off,none⟩ us.length cap (us.map (Value.int .u8)) Try.underlying74 hs
  (by rw [List.length_map];exact(Nat.min_eq_left (by omega)).symm) (fun j v hj=> ?_) (fun j hj=> ?_) (fun j hj=>h.2.2.2.2.2.1 _) (fun v hv=> ?_)
 ·rw [List.length_map] at hr;exact hr
 ·rw [List.getElem?_map] at hj
  obtain⟨z,hz,rfl⟩:=Option.map_eq_some_iff.1 hj
  have bV:=(List.getElem?_eq_some_iff.1 hz).1
  rw [Addr.add_lit,hc j bV,List.getD_eq_getElem?_getD,hz];rfl
 ·rw [List.length_map] at hj
  rw [h.1 (a+j) (by omega)];rfl
 ·obtain⟨z,_,rfl⟩:=List.mem_map.1 hv
  rfl
theorem Qr (p:Nat) (a:Int) (ao:Option Addr) (n cap:Nat) (w:World) (hn:¬ (0≤a∧0≤(n:Int)∧a≤65536∧(n:Int)≤65536-a)):
  Calls Try.prog 56 #[.pointer (some ⟨p,0,none⟩), .int .i64 a, .slice ao n cap] w fun e w'=>e= .returned (.int .i64 4)∧w=w':=by
 have HI:=κ (aah a n hn)
 clear hn
 go_enter Try.func56,Try.ntmps56
 go_wp2_with (go_at_call 100;refine(HI.out _).mono ?_;rintro e w' ⟨rfl,rfl⟩)
 go_ret
 exact⟨rfl,rfl⟩
theorem Qs (p:Nat) (M:MM) (a:Int) (us:List Int) (b off cap:Nat) (w:World) (h:HC p M w) (a0:0≤a) (ha:a<65536) (hn:a+us.length≤65536) (h0:0<us.length)
  (hc:∀j,j<us.length→w.cell? ⟨b,off+j,none⟩=some (.int .u8 (us.getD j 0))):
  Calls Try.prog 56 #[.pointer (some ⟨p,0,none⟩), .int .i64 a, .slice (some ⟨b,off,none⟩) us.length cap] w fun e w'=>e= .returned (.int .i64 0)∧HC p (pk M a.toNat us) w'∧ah (fun i=>i=p) w w':=by
 have HI:=κ (Vx a us.length (by omega))
 have hs:=tK p a w a0 ha
 have hcp:=Kw p a.toNat us b off cap M w h (by omega) hc
 have H1:=κ (HC.setCells (W:=w) us M a.toNat w h (by omega))
 have U1:=κ (ah.setCells (S:=fun i=>i=p) rfl (us.map (Value.int .u8)) w a.toNat (ah.refl _ w))
 rw [Kv]
 obtain⟨L,hL⟩:∃L,us.length=L:=⟨_,rfl⟩
 rw [hL] at hcp hn HI h0⊢
 generalize w.setCells p a.toNat (us.map (Value.int .u8))=W1 at hcp H1 U1
 generalize({M with jL:=ovl M.jL a.toNat us}:MM)=M1 at H1⊢
 clear hL hc h
 go_enter Try.func56,Try.ntmps56
 go_wp2_with (go_at_call 100;refine(HI.out _).mono ?_;rintro e w' ⟨rfl,rfl⟩)
 go_loopg [22] L (fun g i wr=>∃k:Nat,g=L-k∧k≤L∧i= .int .i64 k∧Hid (HC p (zO M1 a.toNat k) wr)∧Hid (ah (fun i=>i=p) w wr))
 case atStart=>exact⟨0,rfl,Nat.zero_le _,rfl,H1,U1⟩
 case round=>
  obtain⟨k,hg,hk,rfl,HR,UR⟩:=hrel
  by_cases bV:k<L
  ·have oV:(k:Int) <(L:Int):=by omega
   have e0:0≤(a+(k:Int))/256:=by omega
   have e1:(a+(k:Int))/256<256:=by omega
   have e2:a+(k:Int) <65536:=by omega
   go_wp2_with (go_at_call 101;refine(J7 p _ _ e0 e1 _ HR.out).mono ?_;rintro e w2 ⟨rfl,h2,o2⟩)
   go_roundg (L-(k+1))
   case measure=>omega
   case rel=>
    refine⟨k+1,rfl,by omega,by simp, ?_,ah.trans UR.out o2⟩
    have e3:((a+(k:Int))/256).toNat=(a.toNat+k)/256:=by omega
    rw [e3] at h2
    exact(Hu M1 a.toNat k)▸h2
  ·obtain rfl:k=L:=by omega
   go_wp2
   go_ret
   exact⟨rfl,HR.out,UR.out⟩
theorem Hw (p:Nat) (a:Int) (ao:Option Addr) (cap:Nat) (w:World) (a0:0≤a) (ha:a≤65536):
  Calls Try.prog 56 #[.pointer (some ⟨p,0,none⟩), .int .i64 a, .slice ao 0 cap] w fun e w'=>e= .returned (.int .i64 0)∧w=w':=by
 have HI:=κ (Vx a 0 (by omega))
 have wH:(Try.prog.info? 5).map (·.size)=some 1:=by
  obtain⟨i,hi,hz,hs,hb⟩:=Gu.qK
  rw [hi,Option.map_some,hs]
 have Vz:=fun d dl dc=>run_copy_none (P:=Try.prog) w 74 74 3 5 d ao dl dc 0 cap Try.underlying74 wH (Nat.zero_min _)
 by_cases he:a<65536
 ·have hs:=tK p a w a0 he
  have adt:=Vz (some ⟨p,a.toNat,none⟩) (65536-a.toNat) (65536-a.toNat)
  clear Vz wH
  go_enter Try.func56,Try.ntmps56
  go_wp2_with (go_at_call 100;refine(HI.out _).mono ?_;rintro e w' ⟨rfl,rfl⟩)
  refine wp_loop_rounds 1 ?_
  rw [rounds_succ];go_wp2
  go_ret
  exact⟨rfl,rfl⟩
 ·obtain rfl:a=65536:=by omega
  have adt:=Vz (some ⟨p,0,none⟩) 0 0
  have hs:(Instr.sliceAt 140 (.pointer (some ⟨p,0,none⟩)) (some (.int .i64 65536)) none none).run Try.prog w= .ok (.slice (some ⟨p,0,none⟩) 0 0) w:=by
   obtain⟨f1,f2,f3,f4⟩:=xk
   rw [run_sliceAt_array_l w 140 ⟨p,0,none⟩ f2 .i64 65536 (by omega) (by rw [f1];omega),f3,f4,f1]
   simp only [Result.andThen,slicedAt]
   rw [if_pos (by rfl)]
   rfl
  clear Vz wH
  go_enter Try.func56,Try.ntmps56
  go_wp2_with (go_at_call 100;refine(HI.out _).mono ?_;rintro e w' ⟨rfl,rfl⟩)
  refine wp_loop_rounds 1 ?_
  rw [rounds_succ];go_wp2
  go_ret
  exact⟨rfl,rfl⟩
def zQ (M:MM) (a:Int) (us:List Int):MM:=if Zx a us.length then pk M a.toNat us else M
theorem zS (p:Nat) (M:MM) (a:Int) (us:List Int) (ao:Option Addr) (cap:Nat) (w:World) (h:HC p M w) (hB:Gu.Bs us ao cap w):
  Calls Try.prog 56 #[.pointer (some ⟨p,0,none⟩), .int .i64 a, .slice ao us.length cap] w fun e w'=>e= .returned (.int .i64 (inE a us.length))∧HC p (zQ M a us) w'∧ah (fun i=>i=p) w w':=by
 unfold zQ inE
 by_cases hi:Zx a us.length=true
 ·rw [if_pos hi,if_pos hi]
  obtain⟨h1,h2,h3,h4⟩:=(uQ _ _).1 hi
  by_cases h0:us.length=0
  ·obtain rfl:us= []:=List.length_eq_zero_iff.1 h0
   refine(Hw p a ao cap w h1 h3).mono ?_
   rintro e w' ⟨rfl,rfl⟩
   exact⟨rfl,h,ah.refl _ _⟩
  ·obtain⟨b,off,rfl,hb,hc⟩:=hB.2.2 (by omega)
   exact Qs p M a us b off cap w h h1 (by omega) (by omega) (by omega) hc
 ·have PZ:=hi
  rw [if_neg hi,if_neg hi]
  rw [uQ] at PZ
  refine(Qr p a ao us.length cap w PZ).mono ?_
  rintro e w' ⟨rfl,rfl⟩
  exact⟨rfl,h,ah.refl _ _⟩
def VD (p:Value→Bool):Nat→List Value→Option (List Value)
 | 0,l=>some l
 | _+1, []=>none
 | n+1,v::r=>bif p v then VD p n r else none
theorem vF {p:Value→Bool} {n:Nat} {l r:List Value} (h:VD p n l=some r):r=l.drop n∧∀j,j<n→∃v,l[j]?=some v∧p v=true:=by
 induction n generalizing l with
 | zero=>
  simp only [VD,Option.some.injEq] at h
  exact⟨by rw [←h];rfl,fun j hj=>absurd hj (by omega)⟩
 | succ n ih=>
  cases l with
  | nil=>simp [VD] at h
  | cons v l=>
   simp only [VD] at h
   cases hp:p v with
   | false=>rw [hp] at h;cases h
   | true=>
    rw [hp] at h
    obtain⟨h1,h2⟩:=ih h
    refine⟨by rw [h1];rfl,fun j hj=> ?_⟩
    cases j with
    | zero=>exact⟨v,rfl,hp⟩
    | succ j=>exact h2 j (by omega)
def Ky:Value→Bool | .int .u8 0=>true | _=>false
def WJ:Value→Bool | .bool false=>true | _=>false
def WM:Value→Bool | .int .i64 0=>true | _=>false
theorem Kz {v:Value} (h:Ky v=true):v= .int .u8 0:=by
 unfold Ky at h;split at h
 ·rfl
 ·cases h
theorem Qu {v:Value} (h:WJ v=true):v= .bool false:=by
 unfold WJ at h;split at h
 ·rfl
 ·cases h
theorem Qv {v:Value} (h:WM v=true):v= .int .i64 0:=by
 unfold WM at h;split at h
 ·rfl
 ·cases h
def zeros (o:Option Value):Bool:=match o with
 | some (.agg cs)=>match VD Ky 65792 cs.toList with
  | some r=>match VD WJ 512 r with
   | some r=>match VD WM 1 r with
    | some []=>true
    | _=>false
   | _=>false
  | _=>false
 | _=>false
theorem KC:zeros (some (.agg Try.zeroCells144))=true:=by kernel_rfl
theorem Dq {o:Option Value} (h:zeros o=true):∃cs:Array Value,o=some (.agg cs)∧(∀j,j<65792→cs[j]?=some (.int .u8 0))∧(∀j,j<512→cs[65792+j]?=some (.bool false))∧cs[66304]?=some (.int .i64 0):=by
 unfold zeros at h
 split at h
 ·next cs=>
  refine⟨cs,rfl, ?_⟩
  split at h
  ·next r1 e1=>
   split at h
   ·next r2 e2=>
    split at h
    ·next e3=>
     obtain⟨d1,s1⟩:=vF e1
     obtain⟨d2,s2⟩:=vF e2
     obtain⟨d3,s3⟩:=vF e3
     refine⟨fun j hj=> ?_,fun j hj=> ?_, ?_⟩
     ·obtain⟨v,hv,hp⟩:=s1 j hj
      rw [Kz hp] at hv
      rw [←Array.getElem?_toList];exact hv
     ·obtain⟨v,hv,hp⟩:=s2 j hj
      rw [Qu hp,d1,List.getElem?_drop] at hv
      rw [←Array.getElem?_toList];exact hv
     ·obtain⟨v,hv,hp⟩:=s3 0 (by omega)
      rw [Qv hp,d2,d1,List.drop_drop,List.getElem?_drop] at hv
      rw [←Array.getElem?_toList];exact hv
    ·cases h
   ·cases h
  ·cases h
 ·cases h
def M0:MM:=⟨fun _=>0,fun _=>0,fun _=>false,fun _=>false⟩
theorem Qw (w:World):Calls Try.prog 54 #[] w fun e w'=>e= .returned (.pointer (some ⟨w.heap.size,0,none⟩))∧HC w.heap.size M0 w'∧Below w.heap.size w w'∧w'.heap.size=w.heap.size+1:=by
 obtain⟨cs,hcs,k1,k2,k3⟩:=Dq KC
 simp only [Option.some.injEq,Value.agg.injEq] at hcs
 have HK1:=κ k1
 have HK2:=κ k2
 have HK3:=κ k3
 have HZ:=κ hcs
 clear hcs k1 k2 k3
 go_enter Try.func54,Try.ntmps54
 go_wp2
 go_ret
 rw [HZ.out]
 refine⟨rfl, ?_,(Below.refl _ _).alloc (Nat.le_refl _) _,by simp⟩
 have e:=heap_alloc_new w (.cells cs 144)
 have hc:∀i,(w.alloc (.cells cs 144)).cell? ⟨w.heap.size,i,none⟩=cs[i]?:=fun i=>cell_of_row _ _ _ _ _ _ e
 refine⟨fun j hj=> ?_,fun j hj=> ?_,fun j hj=> ?_,fun j hj=> ?_, ?_,fun i=>frozen_of_row _ _ _ _ _ e,by simp⟩
 ·rw [hc];exact HK1.out j (by omega)
 ·rw [hc];exact HK1.out (65536+j) (by omega)
 ·rw [hc];exact HK2.out j (by omega)
 ·rw [hc,show 66048+j=65792+(256+j) by omega];exact HK2.out (256+j) (by omega)
 ·rw [hc,HK3.out,show aC M0.hi=0 from WG]
end Go.Proofs.Ytcjcmnnhmajocab.Me
