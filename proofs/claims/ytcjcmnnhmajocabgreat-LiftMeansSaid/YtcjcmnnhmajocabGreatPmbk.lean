import Derived.Test.YtcjcmnnhmajocabGreatPmau
set_option linter.unusedVariables false
set_option linter.unusedSimpArgs false
set_option maxRecDepth 100000
set_option maxHeartbeats 16000000
namespace Go.Proofs.YtcjcmnnhmajocabGreat.Ev
open Go.RowKit Kt Me Fl Ic
structure VB (T L:Nat) (v:Nat→Int) (W:World):Prop where
 v:∀j,j<L→W.cell? ⟨T,j,none⟩=some (.int .u32 (v j))
 z:∀j,W.frozen? ⟨T,j,none⟩=false
 l:T<W.heap.size
theorem VB.upto {T L:Nat} {v:Nat→Int} {W W':World} {S:Nat→Prop} (a:VB T L v W) (u:ah S W W') (hT:¬S T):VB T L v W':=
 ⟨fun j hj=>(u.cell (q:=⟨T,j,none⟩) a.l hT).trans (a.v j hj),fun j=>(u.frozen (q:=⟨T,j,none⟩) a.l hT).trans (a.z j),Nat.lt_of_lt_of_le a.l u.size⟩
theorem VB.set {T L:Nat} {v:Nat→Int} {W:World} (a:VB T L v W) (i:Nat) (z:Int):VB T L (aF v i z) (W.setCell ⟨T,i,none⟩ (.int .u32 z)):=by
 refine⟨fun j hj=> ?_,fun j=>by simpa using a.z j,by simpa using a.l⟩
 by_cases e:j=i
 ·subst e;rw [World.cell?_setCell_same _ _ _ (a.v j hj)];simp [aF]
 ·rw [off e,a.v j hj];simp [aF,e]
theorem qM.X5 {h:Nat} {ek ex ep en:Int} {W:World} (a:qM h ek ex ep en W) (k:Int):qM h k ex ep en (W.setCell ⟨h,0,none⟩ (.int .i64 k)):=
 ⟨World.cell?_setCell_same _ _ _ a.c0,(off (by omega)).trans a.c1,(off (by omega)).trans a.c2,(off (by omega)).trans a.c3,fun j=>by simpa using a.z j,by simpa using a.l⟩
theorem qM.X8 {h:Nat} {ek ex ep en:Int} {W:World} (a:qM h ek ex ep en W) (k:Int):qM h ek ex k en (W.setCell ⟨h,2,none⟩ (.int .u32 k)):=
 ⟨(off (by omega)).trans a.c0,(off (by omega)).trans a.c1,World.cell?_setCell_same _ _ _ a.c2,(off (by omega)).trans a.c3,fun j=>by simpa using a.z j,by simpa using a.l⟩
theorem qM.qH {h:Nat} {ek ex ep en:Int} {W:World} (a:qM h ek ex ep en W) (k x:Int):qM h k x ep en ((W.setCell ⟨h,0,none⟩ (.int .i64 k)).setCell ⟨h,1,none⟩ (.int .u32 x)):=
 ⟨(off (by omega)).trans (World.cell?_setCell_same _ _ _ a.c0),World.cell?_setCell_same _ _ _ ((off (by omega)).trans a.c1),(off (by omega)).trans ((off (by omega)).trans a.c2),(off (by omega)).trans ((off (by omega)).trans a.c3),fun j=>by simpa using a.z j,by simpa using a.l⟩
structure LS (P:RP) (w:World) (T L C X:Nat) (M:MM) (c v:Nat→Int) (ek ex ep en:Int) (W:World):Prop where
 v:VB T L v W
 c:CB C c W
 m:RM P M W
 x:qM X ek ex ep en W
 r:CB (C+1) (fun _=>0) W
 e:qM (C+1+1) 0 0 0 0 W
 u:ah P.has w W
 hc:w.heap.size<C
 ht:C+1+1<T
 hx:T<X
 hp:∀i,P.has i→i<w.heap.size
section
variable {P:RP} {w:World} {T L C X:Nat} {M:MM} {c v:Nat→Int} {ek ex ep en:Int} {W W':World}
theorem LS.quiet (a:LS P w T L C X M c v ek ex ep en W) (u:ah (fun _=>False) W W'):LS P w T L C X M c v ek ex ep en W':=
 ⟨a.v.upto u id,a.c.upto u id,a.m.upto u (fun _ _=>id),a.x.upto u id,a.r.upto u id,a.e.upto u id,a.u.trans (u.mono (T:=P.has) fun _ _ h=>h.elim),a.hc,a.ht,a.hx,a.hp⟩
theorem LS.drew (a:LS P w T L C X M c v ek ex ep en W):LS P w T L C X M c v ek ex ep en W.drew:=a.quiet (ah.refl _ W).drew
theorem LS.call (a:LS P w T L C X M c v ek ex ep en W) (b:Below W.heap.size W W'):LS P w T L C X M c v ek ex ep en W':=a.quiet (ah.ak b)
theorem LS.mem {M':MM} (a:LS P w T L C X M c v ek ex ep en W) (m:RM P M' W') (u:ah P.has W W'):LS P w T L C X M' c v ek ex ep en W':=by
 have hn:∀i,w.heap.size≤i→¬P.has i:=fun i hi h=>by have:=a.hp i h;omega
 have h1:=a.hc;have h2:=a.ht;have h3:=a.hx
 exact⟨a.v.upto u (hn _ (by omega)),a.c.upto u (hn _ (by omega)),m,a.x.upto u (hn _ (by omega)),a.r.upto u (hn _ (by omega)),a.e.upto u (hn _ (by omega)),a.u.trans u,a.hc,a.ht,a.hx,a.hp⟩
theorem LS.mZ (a:LS P w T L C X M c v ek ex ep en W) (i:Nat) (z:Int):LS P w T L C X M c (aF v i z) ek ex ep en (W.setCell ⟨T,i,none⟩ (.int .u32 z)):=by
 have h1:=a.hc;have h2:=a.ht;have h3:=a.hx
 have u:=(ah.refl (fun k=>k=T) W).setCell (q:=⟨T,i,none⟩) (.inl rfl) (.int .u32 z)
 exact⟨a.v.set i z,a.c.upto u (by omega),a.m.upto u (fun k hk=>by have:=a.hp k hk;omega),a.x.upto u (by omega),a.r.upto u (by omega),a.e.upto u (by omega),a.u.setCell (q:=⟨T,i,none⟩) (.inr (by show _≤T;omega)) _,a.hc,a.ht,a.hx,a.hp⟩
theorem LS.aaj (a:LS P w T L C X M c v ek ex ep en W) (i:Nat) (hi:i<12) (z:Int):LS P w T L C X M (aF c i z) v ek ex ep en (W.setCell ⟨C,i,none⟩ (.int .u32 z)):=by
 have h1:=a.hc;have h2:=a.ht;have h3:=a.hx
 have u:=(ah.refl (fun k=>k=C) W).setCell (q:=⟨C,i,none⟩) (.inl rfl) (.int .u32 z)
 exact⟨a.v.upto u (by omega),a.c.set i hi z,a.m.upto u (fun k hk=>by have:=a.hp k hk;omega),a.x.upto u (by omega),a.r.upto u (by omega),a.e.upto u (by omega),a.u.setCell (q:=⟨C,i,none⟩) (.inr (by show _≤C;omega)) _,a.hc,a.ht,a.hx,a.hp⟩
theorem LS.exit {q0 q1 q2 q3:Int} (a:LS P w T L C X M c v ek ex ep en W) (u:ah (fun k=>k=X) W W') (x:qM X q0 q1 q2 q3 W'):LS P w T L C X M c v q0 q1 q2 q3 W':=by
 have h1:=a.hc;have h2:=a.ht;have h3:=a.hx
 refine⟨a.v.upto u (by omega),a.c.upto u (by omega),a.m.upto u (fun k hk=>by have:=a.hp k hk;omega),x,a.r.upto u (by omega),a.e.upto u (by omega), ?_,a.hc,a.ht,a.hx,a.hp⟩
 have hX:w.heap.size≤X:=by omega
 exact((a.u.mono (T:=fun i=>P.has i∨i=X) fun _ _ h=> .inl h).trans (u.mono (T:=fun i=>P.has i∨i=X) fun _ _ h=> .inr h)).mono fun i hi h=>h.elim id fun h=>absurd hi (by omega)
theorem LS.X5 (a:LS P w T L C X M c v ek ex ep en W) (k:Int):LS P w T L C X M c v k ex ep en (W.setCell ⟨X,0,none⟩ (.int .i64 k)):=
 a.exit ((ah.refl (fun k=>k=X) W).setCell (q:=⟨X,0,none⟩) (.inl rfl) _) (a.x.X5 k)
theorem LS.X8 (a:LS P w T L C X M c v ek ex ep en W) (k:Int):LS P w T L C X M c v ek ex k en (W.setCell ⟨X,2,none⟩ (.int .u32 k)):=
 a.exit ((ah.refl (fun k=>k=X) W).setCell (q:=⟨X,2,none⟩) (.inl rfl) _) (a.x.X8 k)
theorem LS.qH (a:LS P w T L C X M c v ek ex ep en W) (k x:Int):LS P w T L C X M c v k x ep en ((W.setCell ⟨X,0,none⟩ (.int .i64 k)).setCell ⟨X,1,none⟩ (.int .u32 x)):=
 a.exit (((ah.refl (fun k=>k=X) W).setCell (q:=⟨X,0,none⟩) (.inl rfl) _).setCell (q:=⟨X,1,none⟩) (.inl rfl) _) (a.x.qH k x)
end
def Bz (lb:Bool) (x:Ext):Option Ext:=if lb then some x else none
def LQ (P:RP) (w:World) (T L C X:Nat) (r:kJ×Option Ext) (lb:Bool) (W:World):Prop:=∃x:Ext,LS P w T L C X r.1.M r.1.c r.1.v x.k x.x x.pc x.n W∧r.2=Bz lb x
theorem LQ.intro {P:RP} {w:World} {T L C X:Nat} {M:MM} {c v:Nat→Int} {r:kJ×Option Ext} {lb:Bool} {W:World} (x:Ext) (h:LS P w T L C X M c v x.k x.x x.pc x.n W) (e:r=(⟨M,c,v⟩,Bz lb x)):LQ P w T L C X r lb W:=by
 subst e;exact⟨x,h,rfl⟩
theorem Oo (z:Int) (x:Ext):(if z=0 then none else some x)=Bz (z !=0) x:=by
 unfold Bz
 by_cases h:z=0
 ·rw [if_pos h,h];rfl
 ·rw [if_neg h,show(z !=0)=true from by simp [h]];rfl
theorem op9 (ow b oc kn n:Int) (oa i:Nat) (M:MM) (cc vv:Nat→Int):opV ⟨9,ow,oa,b,oc,kn,n⟩ ⟨M,cc,vv⟩ i=(⟨M,cc,aF vv i (wid ow (jD M (vv oa) (vV ow)))⟩,Bz (St.yA 5 (aQ M 1 (vv oa) (vV ow).toNat) !=0) ⟨St.yA 5 (aQ M 1 (vv oa) (vV ow).toNat),St.Aq (aQ M 1 (vv oa) (vV ow).toNat),kn,n⟩):=by
 have ev:opV ⟨9,ow,oa,b,oc,kn,n⟩ ⟨M,cc,vv⟩ i=(match aQ M 1 (vv oa) (vV ow).toNat with | none=>(kJ.set ⟨M,cc,vv⟩ i (wid ow (jD M (vv oa) (vV ow))),none) | some x=>(kJ.set ⟨M,cc,vv⟩ i (wid ow 0),some ⟨5,x,kn,n⟩)):=rfl
 rw [ev]
 obtain⟨oo,Ph⟩:∃oo,aQ M 1 (vv oa) (vV ow).toNat=oo:=⟨_,rfl⟩
 rcases oo with _ | x
 ·rw [Ph];rfl
 ·rw [wE Ph,Ph];rfl
theorem afv (ow oc kn n:Int) (oa ob i:Nat) (M:MM) (cc vv:Nat→Int):opV ⟨10,ow,oa,ob,oc,kn,n⟩ ⟨M,cc,vv⟩ i=(⟨nU M (vv oa) (vW ow) (vv ob),cc,vv⟩,Bz (St.yA 6 (jE M (vv oa) (vW ow)) !=0) ⟨St.yA 6 (jE M (vv oa) (vW ow)),St.Aq (jE M (vv oa) (vW ow)),kn,n⟩):=by
 have ev:opV ⟨10,ow,oa,ob,oc,kn,n⟩ ⟨M,cc,vv⟩ i=(match jE M (vv oa) (vW ow) with | none=>((⟨nU M (vv oa) (vW ow) (vv ob),cc,vv⟩:kJ),none) | some x=>((⟨M,cc,vv⟩:kJ),some ⟨6,x,kn,n⟩)):=rfl
 rw [ev]
 obtain⟨oo,Ph⟩:∃oo,jE M (vv oa) (vW ow)=oo:=⟨_,rfl⟩
 rcases oo with _ | x
 ·rw [Ph];rfl
 ·rw [St.jl (v:=vv ob) Ph,Ph];rfl
theorem opv {k:Int} (ow kn n:Int) (oa ob oc i:Nat) (M:MM) (cc vv:Nat→Int) (hk:k=1∨(k=4∧0≤ow∧ow<16)∨(k=5∧0≤ow∧ow<7)∨k=6∨k=7∨(k=8∧0≤ow∧ow<16)):opV ⟨k,ow,oa,ob,oc,kn,n⟩ ⟨M,cc,vv⟩ i=(⟨M,cc,aF vv i (mW k ow kn (vv oa) (vv ob) (vv oc))⟩,Bz false ⟨0,0,kn,n⟩):=by
 rcases hk with rfl | ⟨rfl,_⟩ | ⟨rfl,_⟩ | rfl | rfl | ⟨rfl,_⟩ <;>rfl
section
variable {P:RP} {w:World} {T L C X D:Nat} {M:MM} {c v:Nat→Int} {ek ex ep en k ow a b d kn n:Int} {W:World}
theorem l9 {oa j:Nat} (hN:LS P w T L C X M c v ek ex ep en W) (hO:OB D k ow oa b d kn n W) (ha:oa<L) (hj:j<L):
  W.cell? ⟨D,1,none⟩=some (.int .i64 ow)∧W.cell? ⟨D,2,none⟩=some (.int .i64 (oa:Int))∧W.cell? ⟨T,oa,none⟩=some (.int .u32 (v oa))∧(W.cell? ⟨T,j,none⟩).isSome=true∧W.frozen? ⟨T,j,none⟩=false∧(W.cell? ⟨X,0,none⟩).isSome=true∧W.frozen? ⟨X,0,none⟩=false∧(W.cell? ⟨X,1,none⟩).isSome=true∧W.frozen? ⟨X,1,none⟩=false:=
 ⟨hO.c1,hO.c2,hN.v.v oa ha,(congrArg Option.isSome (hN.v.v j hj)).trans rfl,hN.v.z j,(congrArg Option.isSome hN.x.c0).trans rfl,hN.x.z 0,(congrArg Option.isSome hN.x.c1).trans rfl,hN.x.z 1⟩
theorem l9v {oa j:Nat} {z:Int} (hN:LS P w T L C X M c (aF v j z) ek ex ep en W) (hO:OB D k ow oa b d kn n W) (ha:oa<L) (hj:j<L) (dR:¬oa=j):
  W.cell? ⟨D,1,none⟩=some (.int .i64 ow)∧W.cell? ⟨D,2,none⟩=some (.int .i64 (oa:Int))∧W.cell? ⟨T,oa,none⟩=some (.int .u32 (v oa))∧(W.cell? ⟨T,j,none⟩).isSome=true∧W.frozen? ⟨T,j,none⟩=false∧(W.cell? ⟨X,0,none⟩).isSome=true∧W.frozen? ⟨X,0,none⟩=false∧(W.cell? ⟨X,1,none⟩).isSome=true∧W.frozen? ⟨X,1,none⟩=false:=by
 have:=l9 (k:=k) (ow:=ow) (b:=b) (d:=d) (kn:=kn) (n:=n) hN hO ha hj
 rw [show aF v j z oa=v oa by unfold aF;rw [if_neg dR]] at this
 exact this
theorem l10 {oa ob:Nat} (hN:LS P w T L C X M c v ek ex ep en W) (hO:OB D k ow oa ob d kn n W) (ha:oa<L) (hj:ob<L):
  W.cell? ⟨D,1,none⟩=some (.int .i64 ow)∧W.cell? ⟨D,2,none⟩=some (.int .i64 (oa:Int))∧W.cell? ⟨D,3,none⟩=some (.int .i64 (ob:Int))∧W.cell? ⟨T,oa,none⟩=some (.int .u32 (v oa))∧W.cell? ⟨T,ob,none⟩=some (.int .u32 (v ob))∧(W.cell? ⟨X,0,none⟩).isSome=true∧W.frozen? ⟨X,0,none⟩=false∧(W.cell? ⟨X,1,none⟩).isSome=true∧W.frozen? ⟨X,1,none⟩=false:=
 ⟨hO.c1,hO.c2,hO.c3,hN.v.v oa ha,hN.v.v ob hj,(congrArg Option.isSome hN.x.c0).trans rfl,hN.x.z 0,(congrArg Option.isSome hN.x.c1).trans rfl,hN.x.z 1⟩
theorem l8 {oa ob oc j:Nat} (hN:LS P w T L C X M c v ek ex ep en W) (hO:OB D k ow oa ob oc kn n W) (ha:oa<L) (hb:ob<L) (hc:oc<L) (hj:j<L):
  W.cell? ⟨D,0,none⟩=some (.int .i64 k)∧W.cell? ⟨D,1,none⟩=some (.int .i64 ow)∧W.cell? ⟨D,2,none⟩=some (.int .i64 (oa:Int))∧W.cell? ⟨D,3,none⟩=some (.int .i64 (ob:Int))∧W.cell? ⟨D,4,none⟩=some (.int .i64 (oc:Int))∧W.cell? ⟨D,5,none⟩=some (.int .u32 kn)∧W.cell? ⟨D,6,none⟩=some (.int .i64 n)∧W.cell? ⟨T,oa,none⟩=some (.int .u32 (v oa))∧W.cell? ⟨T,ob,none⟩=some (.int .u32 (v ob))∧W.cell? ⟨T,oc,none⟩=some (.int .u32 (v oc))∧(W.cell? ⟨T,j,none⟩).isSome=true∧W.frozen? ⟨T,j,none⟩=false:=
 ⟨hO.c0,hO.c1,hO.c2,hO.c3,hO.c4,hO.c5,hO.c6,hN.v.v oa ha,hN.v.v ob hb,hN.v.v oc hc,(congrArg Option.isSome (hN.v.v j hj)).trans rfl,hN.v.z j⟩
theorem l8v {oa ob oc j:Nat} {z:Int} (hN:LS P w T L C X M c (aF v j z) ek ex ep en W) (hO:OB D k ow oa ob oc kn n W) (ha:oa<L) (hb:ob<L) (hc:oc<L) (hj:j<L) (na:¬oa=j) (nb:¬ob=j) (nc:¬oc=j):
  W.cell? ⟨D,0,none⟩=some (.int .i64 k)∧W.cell? ⟨D,1,none⟩=some (.int .i64 ow)∧W.cell? ⟨D,2,none⟩=some (.int .i64 (oa:Int))∧W.cell? ⟨D,3,none⟩=some (.int .i64 (ob:Int))∧W.cell? ⟨D,4,none⟩=some (.int .i64 (oc:Int))∧W.cell? ⟨D,5,none⟩=some (.int .u32 kn)∧W.cell? ⟨D,6,none⟩=some (.int .i64 n)∧W.cell? ⟨T,oa,none⟩=some (.int .u32 (v oa))∧W.cell? ⟨T,ob,none⟩=some (.int .u32 (v ob))∧W.cell? ⟨T,oc,none⟩=some (.int .u32 (v oc))∧(W.cell? ⟨T,j,none⟩).isSome=true∧W.frozen? ⟨T,j,none⟩=false:=by
 have:=l8 hN hO ha hb hc hj
 rw [show aF v j z oa=v oa by unfold aF;rw [if_neg na],show aF v j z ob=v ob by unfold aF;rw [if_neg nb],show aF v j z oc=v oc by unfold aF;rw [if_neg nc]] at this
 exact this
theorem OB.sZ {q:Nat} (hO:OB D k ow a b d kn n W) (ne:¬D=q) (i:Nat) (x:Value):OB D k ow a b d kn n (W.setCell ⟨q,i,none⟩ x):=
 hO.upto ((ah.refl (fun m=>m=q) W).setCell (q:=⟨q,i,none⟩) (.inl rfl) x) ne
end
theorem II (os:List aV) (ao:Option Addr) (cap:Nat) (jg aj aN:Int) (cx:Nat→Int) (M:MM) (P:RP) (w:World) (qC:zY os ao cap w) (h:RM P M w) (hM:bQ M) (hC:Fz cx) (LY:os.length≤2048) (zQ:∀i o,os[i]?=some o→OpK o i) (TL:∀ (i:Nat) (o:aV),os[i]?=some o→4≤o.k→o.k≤9→o.a<i) (oQ:∀o∈os,0≤o.kn∧o.kn<4294967296) (BA:∀g,ao=some g→0<os.length→¬P.has g.block):
  Calls Tryz.prog 69 #[.agg #[.int .u32 jg, .int .i64 aj, .int .i64 aN, .slice ao os.length cap], .agg #[.int .u32 (cx 0), .int .u32 (cx 1), .int .u32 (cx 2), .int .u32 (cx 3), .int .u32 (cx 4), .int .u32 (cx 5), .int .u32 (cx 6), .int .u32 (cx 7), .int .u32 (cx 8), .int .u32 (cx 9), .int .u32 (cx 10), .int .u32 (cx 11)], .pointer (some ⟨P.q,0,none⟩)] w fun e w'=>e= .returned (.tuple #[.agg (ou (evN os os.length ⟨M,cx,fun _=>0⟩).1.c), .agg #[.int .i64 (evN os os.length ⟨M,cx,fun _=>0⟩).2.1.k, .int .u32 (evN os os.length ⟨M,cx,fun _=>0⟩).2.1.x, .int .u32 (evN os os.length ⟨M,cx,fun _=>0⟩).2.1.pc, .int .i64 (evN os os.length ⟨M,cx,fun _=>0⟩).2.1.n], .int .i64 (evN os os.length ⟨M,cx,fun _=>0⟩).2.2])∧RM P (evN os os.length ⟨M,cx,fun _=>0⟩).1.M w'∧ah P.has w w':=by
 have HO:=κ qC
 have HH:=κ h
 have HDI:=κ BA
 have HKN:=κ oQ
 have HOP:=κ zQ
 have afw:=κ TL
 have HMC:=κ (show Ri ⟨M,cx,fun _=>0⟩ from⟨hM,hC,fun _=>⟨Int.le_refl _,(by decide:(0:Int) <4294967296)⟩⟩)
 obtain⟨L,hL⟩:∃L,os.length=L:=⟨_,rfl⟩
 have HL:=κ hL
 have hpw:∀i,P.has i→i<w.heap.size:=fun i hi=>iG h hi
 have Js:=κ hpw
 obtain⟨bb,cb,cr,xr,u0⟩:=Ls w jg aj aN ao os.length cap cx
 have h1:=HH.out.upto u0 (fun _ _=>id)
 unfold ou at bb cb cr xr u0 h1
 obtain⟨RV,hRV⟩:∃RV,evN os os.length ⟨M,cx,fun _=>0⟩=RV:=⟨_,rfl⟩
 rw [hRV]
 rw [hL] at bb cb cr xr u0 h1 LY hRV⊢
 have mk:∀w,(Instr.makeSlice 24 (.int .i64 L) (.int .i64 L)).run Tryz.prog w= .ok (.slice (some ⟨w.heap.size,0,none⟩) L L) (w.alloc (.cells (xk (.int .u32 0) L) 29)):=fun w=>by
  obtain⟨i,hi,hz,hs,hb⟩:=Lr
  exact run_make_row 24 29 i (.int .u32 0) Tryz.underlying24 hi hz hs rfl .i64 .i64 L (by rw [hb];omega) (by omega) w
 have RG:∀j,j<L→(xk (.int .u32 0) L)[j]?=some (.int .u32 0):=fun j hj=>xk.get _ _ j hj
 have RG:=κ RG
 generalize xk (.int .u32 0) L=ZZ at mk RG
 have HRV:=κ hRV
 clear h oQ BA zQ TL qC hL hpw hRV hM hC
 go_enter Tryz.func69,Tryz.ntmps69
 go_upto_region 1 with fail
 generalize((((w.alloc (.cells #[.int .u32 jg, .int .i64 aj, .int .i64 aN, .slice ao L cap] 52)).alloc (.cells #[.int .u32 (cx 0), .int .u32 (cx 1), .int .u32 (cx 2), .int .u32 (cx 3), .int .u32 (cx 4), .int .u32 (cx 5), .int .u32 (cx 6), .int .u32 (cx 7), .int .u32 (cx 8), .int .u32 (cx 9), .int .u32 (cx 10), .int .u32 (cx 11)] 44)).alloc (.cells #[.int .u32 0, .int .u32 0, .int .u32 0, .int .u32 0, .int .u32 0, .int .u32 0, .int .u32 0, .int .u32 0, .int .u32 0, .int .u32 0, .int .u32 0, .int .u32 0] 44)).alloc (.cells #[.int .i64 0, .int .u32 0, .int .u32 0, .int .i64 0] 66))=WA at bb cb cr xr u0 h1⊢
 have q3:=bb.c3
 have lb:=bb.l
 have HB:=κ bb
 have Et:=κ cb
 have CR:=κ cr
 have XR:=κ xr
 have M1:=κ h1
 have U0:=κ (u0.mono (T:=P.has) fun _ _ h=>h.elim)
 clear bb cb cr xr u0 h1
 go_upto_region 2 with fail
 have l4:w.heap.size+1+1+1<WA.heap.size:=XR.out.l
 have zc:∀j,(WA.alloc (.cells ZZ 29)).cell? ⟨WA.heap.size,j,none⟩=ZZ[j]?:=fun j=>ay WA _ _ j
 have zf:∀j,(WA.alloc (.cells ZZ 29)).frozen? ⟨WA.heap.size,j,none⟩=false:=fun j=>gW WA _ _ j
 have v1:VB WA.heap.size L (fun _=>0) (WA.alloc (.cells ZZ 29)):=⟨fun j hj=>(zc j).trans (RG.out j hj),zf,by simp⟩
 have uA:=(ah.refl (fun _=>False) WA).alloc (.cells ZZ 29)
 have HB:=HB.out.upto uA id
 have Et:=Et.out.upto uA id
 have CR:=CR.out.upto uA id
 have XR:=XR.out.upto uA id
 have M1:=M1.out.upto uA (fun _ _=>id)
 have U0:=U0.out.trans (uA.mono (T:=P.has) fun _ _ h=>h.elim)
 clear zc zf mk RG q3 lb uA
 generalize WA.alloc (.cells ZZ 29)=WB at v1 HB Et CR XR M1 U0⊢
 generalize hT:WA.heap.size=T at v1 l4⊢
 have lT:=v1.l
 have q3:=HB.c3
 have lb:=HB.l
 have HT:=κ l4
 have V1:=κ v1
 have Et:=κ Et
 have CR:=κ CR
 have XR:=κ XR
 have M1:=κ M1
 have U0:=κ U0
 clear HB v1 hT l4
 go_upto_region 3 with fail
 go_loopg [21] L (fun g i wr=>∃ (j:Nat) (s':kJ),g=L-j∧j≤L∧i= .int .i64 j∧Hid (VB T L s'.v wr)∧Hid (CB (w.heap.size+1) s'.c wr)∧Hid (RM P s'.M wr)∧Hid (Ri s')∧Hid (evN os L ⟨M,cx,fun _=>0⟩=evN os (L-j) s')∧Hid (CB (w.heap.size+1+1) (fun _=>0) wr)∧Hid (qM (w.heap.size+1+1+1) 0 0 0 0 wr)∧Hid (ah P.has w wr))
 case atStart=>exact⟨0,⟨M,cx,fun _=>0⟩,rfl,Nat.zero_le _,rfl,V1.out,Et.out,M1.out,HMC.out,rfl,CR.out,XR.out,U0.out⟩
 case round=>
  clear V1 Et M1 CR XR U0 q3 lT lb
  obtain⟨j,s',hg,hj,rfl,V2,C2,M2,ES,EE,CR,XR,U2⟩:=hrel
  have HG:=κ hg
  clear hg
  by_cases dh:j<L
  ·have pF:(j:Int) <(L:Int):=by omega
   have Vw:(0:Int)≤(j:Int):=by omega
   obtain⟨g1,off,rfl,lg1,hcs⟩:=HO.out.2.2 (by rw [HL.out];omega)
   have dg:=HDI.out _ rfl (by rw [HL.out];omega)
   obtain⟨o,ho⟩:∃o,os[j]?=some o:=⟨_,List.getElem?_eq_getElem (by rw [HL.out];exact dh)⟩
   have hcell:∀i v,o.cells[i]?=some v→wr.cell? ⟨g1,off+j*7+i,none⟩=some v:=fun i v hv=>(U2.out.cell (q:=⟨g1,off+j*7+i,none⟩) lg1 dg).trans (hcs j o ho i v hv)
   have q0:=hcell 0 (.int .i64 o.k) rfl
   have q1:=hcell 1 (.int .i64 o.w) rfl
   have q2:=hcell 2 (.int .i64 o.a) rfl
   have q3:=hcell 3 (.int .i64 o.b) rfl
   have q4:=hcell 4 (.int .i64 o.c) rfl
   have q5:=hcell 5 (.int .u32 o.kn) rfl
   have q6:=hcell 6 (.int .i64 o.n) rfl
   rw [Nat.add_zero] at q0
   have OK:=HOP.out j o ho
   have kn:=HKN.out o (List.mem_of_getElem? ho)
   have O9:=afw.out j o ho
   have HOJ:=κ ho
   have hLx:L<9223372036854775808:=by omega
   clear hcell hcs ho
   obtain⟨k,ow,a,b,c,kn,n⟩:=o
   obtain⟨M',cc,vv⟩:=s'
   obtain⟨hk,hw,ha,hb,hc⟩:=OK
   dsimp only at q0 q1 q2 q3 q4 q5 q6 kn O9 hk hw ha hb hc V2 C2 M2 EE
   obtain⟨k0,k1⟩:=kn
   obtain⟨oa,rfl⟩:=Int.eq_ofNat_of_zero_le ha.1
   obtain⟨oc,rfl⟩:=Int.eq_ofNat_of_zero_le hc.1
   have la:oa<L:=by omega
   have O9:=κ O9
   have lc:oc<L:=by omega
   have lTw:=V2.out.l
   have lCw:=C2.out.l
   have lEw:=XR.out.l
   go_upto_region 5 with fail
   have uo:=(ah.refl (fun _=>False) wr).alloc (.cells #[.int .i64 k, .int .i64 ow, .int .i64 (oa:Int), .int .i64 b, .int .i64 (oc:Int), .int .u32 kn, .int .i64 n] 115)
   have ob:OB wr.heap.size k ow (oa:Int) b (oc:Int) kn n (wr.alloc (.cells #[.int .i64 k, .int .i64 ow, .int .i64 (oa:Int), .int .i64 b, .int .i64 (oc:Int), .int .u32 kn, .int .i64 n] 115)):=⟨ay wr _ _ 0,ay wr _ _ 1,ay wr _ _ 2,ay wr _ _ 3,ay wr _ _ 4,ay wr _ _ 5,ay wr _ _ 6,by simp⟩
   have V3:=V2.out.upto uo id
   have C3:=C2.out.upto uo id
   have M3:=M2.out.upto uo (fun _ _=>id)
   have R3:=CR.out.upto uo id
   have X3:=XR.out.upto uo id
   have U3:=U2.out.trans (uo.mono (T:=P.has) fun _ _ h=>h.elim)
   generalize wr.alloc (.cells #[.int .i64 k, .int .i64 ow, .int .i64 (oa:Int), .int .i64 b, .int .i64 (oc:Int), .int .u32 kn, .int .i64 n] 115)=W3 at uo ob V3 C3 M3 R3 X3 U3⊢
   generalize hD:wr.heap.size=D at ob lTw lCw lEw⊢
   have HD:=κ hD
   clear uo q0 q1 q2 q3 q4 q5 q6 hD
   have b5:=ob.c5
   have b6:=ob.c6
   have lD:=ob.l
   go_upto_region 6 with fail
   have uo:=(ah.refl (fun _=>False) W3).alloc (.cells #[.int .i64 0, .int .u32 0, .int .u32 kn, .int .i64 n] 66)
   have NX:=qM.new W3 0 0 kn n 66
   have NS:LS P w T L (w.heap.size+1) W3.heap.size M' cc vv 0 0 kn n (W3.alloc (.cells #[.int .i64 0, .int .u32 0, .int .u32 kn, .int .i64 n] 66)):=⟨V3.upto uo id,C3.upto uo id,M3.upto uo (fun _ _=>id),NX,R3.upto uo id,X3.upto uo id,U3.trans (uo.mono (T:=P.has) fun _ _ h=>h.elim),by omega,HT.out,V3.l,Js.out⟩
   have NO:=ob.upto uo id
   generalize W3.alloc (.cells #[.int .i64 0, .int .u32 0, .int .u32 kn, .int .i64 n] 66)=W4 at NS NO⊢
   generalize hX:W3.heap.size=X at NS lD⊢
   clear NX uo hX V3 C3 M3 R3 X3 U3 ob b5 b6 V2 C2 M2 CR XR U2
   have lDX:D<X:=lD
   have lX:=NS.x.l
   have lC:=NS.c.l
   have lTT:=NS.v.l
   have b0:=NO.c0
   have b1:=NO.c1
   have b2:=NO.c2
   have b3:=NO.c3
   have b4:=NO.c4
   have b5:=NO.c5
   have b6:=NO.c6
   have NS:=κ NS
   have NO:=κ NO
   go_upto_block 2 with fail
   have hM':=ES.out.M
   have hC':=κ ES.out.c
   have zU:=κ ES.out.v
   have va:=NS.out.v.v oa la
   have vi:=NS.out.v.v j dh
   have zi:=NS.out.v.z j
   have sv:(W4.cell? ⟨T,j,none⟩).isSome=true:=(congrArg Option.isSome vi).trans rfl
   have ia0:(0:Int)≤(oa:Int):=by omega
   have ia1:(oa:Int) <(L:Int):=by omega
   have Zb:=Lm ⟨k,ow,oa,b,oc,kn,n⟩ ⟨M',cc,vv⟩ j ES.out k0 k1
   have Zb:=κ Zb
   go_cut [13] from 33 to 165 (fun x13 wx=>∃lb:Bool,x13= .bool lb∧LQ P w T L (w.heap.size+1) X (opV ⟨k,ow,oa,b,oc,kn,n⟩ ⟨M',cc,vv⟩ j) lb wx)
   case first=>
    by_cases e1:k=1
    ·subst e1
     have J9:0≤b∧(b<j∨b=0):=⟨hb.1,by rcases hb.2 with e | e | e;exact .inl e;exact .inr e;exact absurd e.1 (by omega)⟩
     obtain⟨ob,rfl⟩:=Int.eq_ofNat_of_zero_le J9.1
     have F9:ob<L:=by omega
     have vb:=NS.out.v.v ob F9
     have ib0:(0:Int)≤(ob:Int):=by omega
     have ib1:(ob:Int) <(L:Int):=by omega
     have vc:=NS.out.v.v oc lc
     have ic0:(0:Int)≤(oc:Int):=by omega
     have ic1:(oc:Int) <(L:Int):=by omega
     have CS:=κ (fun w a b c a0 a1 b0 b1 c0 c1=>Aw 1 ow oa ob oc kn n a b c w k0 k1 a0 a1 b0 b1 c0 c1 (.inl rfl))
     have ez:∀a b c:Int,mW 1 ow kn a b c=kn:=fun _ _ _=>rfl
     simp only [ez] at CS
     have PV:=opv ow kn n oa ob oc j M' cc vv (.inl rfl)
     rw [ez] at PV
     have PV:=κ PV
     have Oq:¬D=T:=by have:=HD.out;omega
     have CS:=κ (fun w=>CS.out w (vv oa) (vv ob) (vv oc) (zU.out oa).1 (zU.out oa).2 (zU.out ob).1 (zU.out ob).2 (zU.out oc).1 (zU.out oc).2)
     clear ez
     generalize hz:kn=z at CS PV
     subst hz
     go_upto_region 8 with fail
     refine wp_region_held_drew (S:=(fun W=>∃v',LS P w T L (w.heap.size+1) X M' cc v' 0 0 kn n W∧OB D 1 ow (oa:Int) (ob:Int) (oc:Int) kn n W)) (by kernel_rfl) ?_ (fun hHeld=> ?_)
     ·exact⟨vv,NS.out.drew,(NO.out.upto (ah.refl (fun _=>False) _).drew id)⟩
     have NN:=NS.out.drew
     have vd:=NN.v.v oa la
     have wd:=NN.v.v ob F9
     have xd:=NN.v.v oc lc
     refine wpAnyH_take (i:=0) (v:= .slice (some ⟨T,0,none⟩) L L) rfl (by kernel_rfl) (by kernel_rfl) (by kernel_rfl) (fun _ _ _ h=>h) (Or.inl ⟨by rfl, ?_⟩) hHeld ?_
     ·intro w nO;obtain⟨v',hN,hO⟩:=nO;clear hN hO;go_simp;(try with_reducible rfl)
     try simp only [Act.put,aA,aB,aC]
     refine wpAnyH_take (i:=1) (v:= .int .i64 (j:Int)) rfl (by kernel_rfl) (by kernel_rfl) (by kernel_rfl) (fun _ _ _ h=>h) (Or.inl ⟨by rfl, ?_⟩) hHeld ?_
     ·intro w nO;obtain⟨v',hN,hO⟩:=nO;clear hN hO;go_simp;(try with_reducible rfl)
     try simp only [Act.put,aA,aB,aC]
     refine wpAnyH_take (i:=2) (v:= .agg #[.int .i64 1, .int .i64 ow, .int .i64 (oa:Int), .int .i64 (ob:Int), .int .i64 (oc:Int), .int .u32 kn, .int .i64 n]) rfl (by kernel_rfl) (by kernel_rfl) (by kernel_rfl) (fun _ _ _ h=>h) (Or.inl ⟨by rfl, ?_⟩) hHeld ?_
     ·intro w nO;obtain⟨v',hN,hO⟩:=nO;have c0:=hO.c0;have c1:=hO.c1;have c2:=hO.c2;have c3:=hO.c3;have c4:=hO.c4;have c5:=hO.c5;have c6:=hO.c6;clear hN hO;go_simp;(try with_reducible rfl)
     try simp only [Act.put,aA,aB,aC]
     refine wpAnyH_take (i:=3) (v:= .slice (some ⟨T,0,none⟩) L L) rfl (by kernel_rfl) (by kernel_rfl) (by kernel_rfl) (fun _ _ _ h=>h) (Or.inl ⟨by rfl, ?_⟩) hHeld ?_
     ·intro w nO;obtain⟨v',hN,hO⟩:=nO;clear hN hO;go_simp;(try with_reducible rfl)
     try simp only [Act.put,aA,aB,aC]
     refine wpAnyH_take (i:=4) (v:= .pointer (some ⟨D,2,none⟩)) rfl (by kernel_rfl) (by kernel_rfl) (by kernel_rfl) (fun _ _ _ h=>h) (Or.inl ⟨by rfl, ?_⟩) hHeld ?_
     ·intro w nO;obtain⟨v',hN,hO⟩:=nO;clear hN hO;go_simp;(try with_reducible rfl)
     try simp only [Act.put,aA,aB,aC]
     refine wpAnyH_take (i:=5) (v:= .int .i64 (oa:Int)) rfl (by kernel_rfl) (by kernel_rfl) (by kernel_rfl) (fun _ _ _ h=>h) (Or.inl ⟨by rfl, ?_⟩) hHeld ?_
     ·intro w nO;obtain⟨v',hN,hO⟩:=nO;have c2:=hO.c2;clear hN hO;go_simp;(try with_reducible rfl)
     try simp only [Act.put,aA,aB,aC]
     refine wpAnyH_take (i:=6) (v:= .pointer (some ⟨T,oa,none⟩)) rfl (by kernel_rfl) (by kernel_rfl) (by kernel_rfl) (fun _ _ _ h=>h) (Or.inl ⟨by rfl, ?_⟩) hHeld ?_
     ·intro w nO;obtain⟨v',hN,hO⟩:=nO;clear hN hO;go_simp;(try with_reducible rfl)
     try simp only [Act.put,aA,aB,aC]
     refine wpAnyH_take (i:=8) (v:= .slice (some ⟨T,0,none⟩) L L) rfl (by kernel_rfl) (by kernel_rfl) (by kernel_rfl) (fun _ _ _ h=>h) (Or.inl ⟨by rfl, ?_⟩) hHeld ?_
     ·intro w nO;obtain⟨v',hN,hO⟩:=nO;clear hN hO;go_simp;(try with_reducible rfl)
     try simp only [Act.put,aA,aB,aC]
     refine wpAnyH_take (i:=9) (v:= .pointer (some ⟨D,3,none⟩)) rfl (by kernel_rfl) (by kernel_rfl) (by kernel_rfl) (fun _ _ _ h=>h) (Or.inl ⟨by rfl, ?_⟩) hHeld ?_
     ·intro w nO;obtain⟨v',hN,hO⟩:=nO;clear hN hO;go_simp;(try with_reducible rfl)
     try simp only [Act.put,aA,aB,aC]
     refine wpAnyH_take (i:=10) (v:= .int .i64 (ob:Int)) rfl (by kernel_rfl) (by kernel_rfl) (by kernel_rfl) (fun _ _ _ h=>h) (Or.inl ⟨by rfl, ?_⟩) hHeld ?_
     ·intro w nO;obtain⟨v',hN,hO⟩:=nO;have c3:=hO.c3;clear hN hO;go_simp;(try with_reducible rfl)
     try simp only [Act.put,aA,aB,aC]
     refine wpAnyH_take (i:=11) (v:= .pointer (some ⟨T,ob,none⟩)) rfl (by kernel_rfl) (by kernel_rfl) (by kernel_rfl) (fun _ _ _ h=>h) (Or.inl ⟨by rfl, ?_⟩) hHeld ?_
     ·intro w nO;obtain⟨v',hN,hO⟩:=nO;clear hN hO;go_simp;(try with_reducible rfl)
     try simp only [Act.put,aA,aB,aC]
     refine wpAnyH_take (i:=13) (v:= .slice (some ⟨T,0,none⟩) L L) rfl (by kernel_rfl) (by kernel_rfl) (by kernel_rfl) (fun _ _ _ h=>h) (Or.inl ⟨by rfl, ?_⟩) hHeld ?_
     ·intro w nO;obtain⟨v',hN,hO⟩:=nO;clear hN hO;go_simp;(try with_reducible rfl)
     try simp only [Act.put,aA,aB,aC]
     refine wpAnyH_take (i:=14) (v:= .pointer (some ⟨D,4,none⟩)) rfl (by kernel_rfl) (by kernel_rfl) (by kernel_rfl) (fun _ _ _ h=>h) (Or.inl ⟨by rfl, ?_⟩) hHeld ?_
     ·intro w nO;obtain⟨v',hN,hO⟩:=nO;clear hN hO;go_simp;(try with_reducible rfl)
     try simp only [Act.put,aA,aB,aC]
     refine wpAnyH_take (i:=15) (v:= .int .i64 (oc:Int)) rfl (by kernel_rfl) (by kernel_rfl) (by kernel_rfl) (fun _ _ _ h=>h) (Or.inl ⟨by rfl, ?_⟩) hHeld ?_
     ·intro w nO;obtain⟨v',hN,hO⟩:=nO;have c4:=hO.c4;clear hN hO;go_simp;(try with_reducible rfl)
     try simp only [Act.put,aA,aB,aC]
     refine wpAnyH_take (i:=16) (v:= .pointer (some ⟨T,oc,none⟩)) rfl (by kernel_rfl) (by kernel_rfl) (by kernel_rfl) (fun _ _ _ h=>h) (Or.inl ⟨by rfl, ?_⟩) hHeld ?_
     ·intro w nO;obtain⟨v',hN,hO⟩:=nO;clear hN hO;go_simp;(try with_reducible rfl)
     try simp only [Act.put,aA,aB,aC]
     refine wpAnyH_ready (rs:= [7,12,17]) (by kernel_rfl) (by simp) ?_
     refine AllReadyH.cons (o:={dst:=some 40,op:= .load 29 (.tmp 39),type:=29,pos:= "ir.go:221",after:=_,guard:=none}) rfl (fun K hK=> ?_) ?_
     ·go_simp
      refine hK.out _ _ hHeld (fun hHeld=> ?_)
      clear hK K
      try simp only [Act.put,aA,aB,aC]
      refine wpAnyH_ready (rs:= [12,17]) (by kernel_rfl) (by simp) ?_
      refine AllReadyH.cons (o:={dst:=some 45,op:= .load 29 (.tmp 44),type:=29,pos:= "ir.go:221",after:=_,guard:=none}) rfl (fun K hK=> ?_) ?_
      ·go_simp
       refine hK.out _ _ hHeld (fun hHeld=> ?_)
       clear hK K
       try simp only [Act.put,aA,aB,aC]
       refine wpAnyH_ready (rs:= [17]) (by kernel_rfl) (by simp) ?_
       refine AllReadyH.cons (o:={dst:=some 50,op:= .load 29 (.tmp 49),type:=29,pos:= "ir.go:221",after:=_,guard:=none}) rfl (fun K hK=> ?_) ?_
       ·go_simp
        refine hK.out _ _ hHeld (fun hHeld=> ?_)
        clear hK K
        try simp only [Act.put,aA,aB,aC]
        refine wpAnyH_ready (rs:= [18]) (by kernel_rfl) (by simp) ?_
        refine AllReadyH.cons rfl (fun K hK=> ?_) AllReadyH.nil
        go_simp
        go_at_call 98
        with_reducible refine(CS.out _).mono ?_
        rintro e w2 ⟨rfl,bw⟩
        have N2:=NN.call bw
        have O2:=(NO.out.upto (ah.refl (fun _=>False) _).drew id).upto (ah.ak (S:=fun _=>False) bw) id
        go_simp
        refine hK.out _ _ ⟨vv,N2,O2⟩ (fun hHeld=> ?_)
        clear hK K
        try simp only [Act.put,aA,aB,aC]
        refine wpAnyH_take (i:=19) (v:= .pointer (some ⟨T,j,none⟩)) rfl (by kernel_rfl) (by kernel_rfl) (by kernel_rfl) (fun _ _ _ h=>h) (Or.inl ⟨by rfl, ?_⟩) hHeld ?_
        ·intro w nO;obtain⟨v',hN,hO⟩:=nO;clear hN hO;go_simp;(try with_reducible rfl)
        try simp only [Act.put,aA,aB,aC]
        have Eu:=N2.v.v j dh
        have Ew:=N2.v.z j
        have Ey:=N2.v.l
        refine wpAnyH_ready (rs:= [20]) (by kernel_rfl) (by simp) ?_
        refine AllReadyH.cons rfl (fun K hK=> ?_) AllReadyH.nil
        go_simp
        refine hK.out _ _ ⟨aF vv j kn,N2.mZ j kn,O2.sZ Oq _ _⟩ (fun hHeld=> ?_)
        clear hK K
        try simp only [Act.put,aA,aB,aC]
        refine wpAnyH_done (by kernel_rfl) ?_ _
        have N6:=κ (N2.mZ j kn)
        clear Eu Ew Ey hHeld
        generalize w2.setCell ⟨T,j,none⟩ (.int .u32 kn)=W6 at N6⊢
        go_wp2_with fail
        go_meet
        exact⟨false,rfl,LQ.intro ⟨0,0,kn,n⟩ N6.out PV.out⟩
       exact AllReadyH.nil
      refine AllReadyH.cons (o:={dst:=some 50,op:= .load 29 (.tmp 49),type:=29,pos:= "ir.go:221",after:=_,guard:=none}) rfl (fun K hK=> ?_) ?_
      ·go_simp
       refine hK.out _ _ hHeld (fun hHeld=> ?_)
       clear hK K
       try simp only [Act.put,aA,aB,aC]
       refine wpAnyH_ready (rs:= [12]) (by kernel_rfl) (by simp) ?_
       refine AllReadyH.cons (o:={dst:=some 45,op:= .load 29 (.tmp 44),type:=29,pos:= "ir.go:221",after:=_,guard:=none}) rfl (fun K hK=> ?_) ?_
       ·go_simp
        refine hK.out _ _ hHeld (fun hHeld=> ?_)
        clear hK K
        try simp only [Act.put,aA,aB,aC]
        refine wpAnyH_ready (rs:= [18]) (by kernel_rfl) (by simp) ?_
        refine AllReadyH.cons rfl (fun K hK=> ?_) AllReadyH.nil
        go_simp
        go_at_call 98
        with_reducible refine(CS.out _).mono ?_
        rintro e w2 ⟨rfl,bw⟩
        have N2:=NN.call bw
        have O2:=(NO.out.upto (ah.refl (fun _=>False) _).drew id).upto (ah.ak (S:=fun _=>False) bw) id
        go_simp
        refine hK.out _ _ ⟨vv,N2,O2⟩ (fun hHeld=> ?_)
        clear hK K
        try simp only [Act.put,aA,aB,aC]
        refine wpAnyH_take (i:=19) (v:= .pointer (some ⟨T,j,none⟩)) rfl (by kernel_rfl) (by kernel_rfl) (by kernel_rfl) (fun _ _ _ h=>h) (Or.inl ⟨by rfl, ?_⟩) hHeld ?_
        ·intro w nO;obtain⟨v',hN,hO⟩:=nO;clear hN hO;go_simp;(try with_reducible rfl)
        try simp only [Act.put,aA,aB,aC]
        have Eu:=N2.v.v j dh
        have Ew:=N2.v.z j
        have Ey:=N2.v.l
        refine wpAnyH_ready (rs:= [20]) (by kernel_rfl) (by simp) ?_
        refine AllReadyH.cons rfl (fun K hK=> ?_) AllReadyH.nil
        go_simp
        refine hK.out _ _ ⟨aF vv j kn,N2.mZ j kn,O2.sZ Oq _ _⟩ (fun hHeld=> ?_)
        clear hK K
        try simp only [Act.put,aA,aB,aC]
        refine wpAnyH_done (by kernel_rfl) ?_ _
        have N6:=κ (N2.mZ j kn)
        clear Eu Ew Ey hHeld
        generalize w2.setCell ⟨T,j,none⟩ (.int .u32 kn)=W6 at N6⊢
        go_wp2_with fail
        go_meet
        exact⟨false,rfl,LQ.intro ⟨0,0,kn,n⟩ N6.out PV.out⟩
       exact AllReadyH.nil
      exact AllReadyH.nil
     refine AllReadyH.cons (o:={dst:=some 45,op:= .load 29 (.tmp 44),type:=29,pos:= "ir.go:221",after:=_,guard:=none}) rfl (fun K hK=> ?_) ?_
     ·go_simp
      refine hK.out _ _ hHeld (fun hHeld=> ?_)
      clear hK K
      try simp only [Act.put,aA,aB,aC]
      refine wpAnyH_ready (rs:= [7,17]) (by kernel_rfl) (by simp) ?_
      refine AllReadyH.cons (o:={dst:=some 40,op:= .load 29 (.tmp 39),type:=29,pos:= "ir.go:221",after:=_,guard:=none}) rfl (fun K hK=> ?_) ?_
      ·go_simp
       refine hK.out _ _ hHeld (fun hHeld=> ?_)
       clear hK K
       try simp only [Act.put,aA,aB,aC]
       refine wpAnyH_ready (rs:= [17]) (by kernel_rfl) (by simp) ?_
       refine AllReadyH.cons (o:={dst:=some 50,op:= .load 29 (.tmp 49),type:=29,pos:= "ir.go:221",after:=_,guard:=none}) rfl (fun K hK=> ?_) ?_
       ·go_simp
        refine hK.out _ _ hHeld (fun hHeld=> ?_)
        clear hK K
        try simp only [Act.put,aA,aB,aC]
        refine wpAnyH_ready (rs:= [18]) (by kernel_rfl) (by simp) ?_
        refine AllReadyH.cons rfl (fun K hK=> ?_) AllReadyH.nil
        go_simp
        go_at_call 98
        with_reducible refine(CS.out _).mono ?_
        rintro e w2 ⟨rfl,bw⟩
        have N2:=NN.call bw
        have O2:=(NO.out.upto (ah.refl (fun _=>False) _).drew id).upto (ah.ak (S:=fun _=>False) bw) id
        go_simp
        refine hK.out _ _ ⟨vv,N2,O2⟩ (fun hHeld=> ?_)
        clear hK K
        try simp only [Act.put,aA,aB,aC]
        refine wpAnyH_take (i:=19) (v:= .pointer (some ⟨T,j,none⟩)) rfl (by kernel_rfl) (by kernel_rfl) (by kernel_rfl) (fun _ _ _ h=>h) (Or.inl ⟨by rfl, ?_⟩) hHeld ?_
        ·intro w nO;obtain⟨v',hN,hO⟩:=nO;clear hN hO;go_simp;(try with_reducible rfl)
        try simp only [Act.put,aA,aB,aC]
        have Eu:=N2.v.v j dh
        have Ew:=N2.v.z j
        have Ey:=N2.v.l
        refine wpAnyH_ready (rs:= [20]) (by kernel_rfl) (by simp) ?_
        refine AllReadyH.cons rfl (fun K hK=> ?_) AllReadyH.nil
        go_simp
        refine hK.out _ _ ⟨aF vv j kn,N2.mZ j kn,O2.sZ Oq _ _⟩ (fun hHeld=> ?_)
        clear hK K
        try simp only [Act.put,aA,aB,aC]
        refine wpAnyH_done (by kernel_rfl) ?_ _
        have N6:=κ (N2.mZ j kn)
        clear Eu Ew Ey hHeld
        generalize w2.setCell ⟨T,j,none⟩ (.int .u32 kn)=W6 at N6⊢
        go_wp2_with fail
        go_meet
        exact⟨false,rfl,LQ.intro ⟨0,0,kn,n⟩ N6.out PV.out⟩
       exact AllReadyH.nil
      refine AllReadyH.cons (o:={dst:=some 50,op:= .load 29 (.tmp 49),type:=29,pos:= "ir.go:221",after:=_,guard:=none}) rfl (fun K hK=> ?_) ?_
      ·go_simp
       refine hK.out _ _ hHeld (fun hHeld=> ?_)
       clear hK K
       try simp only [Act.put,aA,aB,aC]
       refine wpAnyH_ready (rs:= [7]) (by kernel_rfl) (by simp) ?_
       refine AllReadyH.cons (o:={dst:=some 40,op:= .load 29 (.tmp 39),type:=29,pos:= "ir.go:221",after:=_,guard:=none}) rfl (fun K hK=> ?_) ?_
       ·go_simp
        refine hK.out _ _ hHeld (fun hHeld=> ?_)
        clear hK K
        try simp only [Act.put,aA,aB,aC]
        refine wpAnyH_ready (rs:= [18]) (by kernel_rfl) (by simp) ?_
        refine AllReadyH.cons rfl (fun K hK=> ?_) AllReadyH.nil
        go_simp
        go_at_call 98
        with_reducible refine(CS.out _).mono ?_
        rintro e w2 ⟨rfl,bw⟩
        have N2:=NN.call bw
        have O2:=(NO.out.upto (ah.refl (fun _=>False) _).drew id).upto (ah.ak (S:=fun _=>False) bw) id
        go_simp
        refine hK.out _ _ ⟨vv,N2,O2⟩ (fun hHeld=> ?_)
        clear hK K
        try simp only [Act.put,aA,aB,aC]
        refine wpAnyH_take (i:=19) (v:= .pointer (some ⟨T,j,none⟩)) rfl (by kernel_rfl) (by kernel_rfl) (by kernel_rfl) (fun _ _ _ h=>h) (Or.inl ⟨by rfl, ?_⟩) hHeld ?_
        ·intro w nO;obtain⟨v',hN,hO⟩:=nO;clear hN hO;go_simp;(try with_reducible rfl)
        try simp only [Act.put,aA,aB,aC]
        have Eu:=N2.v.v j dh
        have Ew:=N2.v.z j
        have Ey:=N2.v.l
        refine wpAnyH_ready (rs:= [20]) (by kernel_rfl) (by simp) ?_
        refine AllReadyH.cons rfl (fun K hK=> ?_) AllReadyH.nil
        go_simp
        refine hK.out _ _ ⟨aF vv j kn,N2.mZ j kn,O2.sZ Oq _ _⟩ (fun hHeld=> ?_)
        clear hK K
        try simp only [Act.put,aA,aB,aC]
        refine wpAnyH_done (by kernel_rfl) ?_ _
        have N6:=κ (N2.mZ j kn)
        clear Eu Ew Ey hHeld
        generalize w2.setCell ⟨T,j,none⟩ (.int .u32 kn)=W6 at N6⊢
        go_wp2_with fail
        go_meet
        exact⟨false,rfl,LQ.intro ⟨0,0,kn,n⟩ N6.out PV.out⟩
       exact AllReadyH.nil
      exact AllReadyH.nil
     refine AllReadyH.cons (o:={dst:=some 50,op:= .load 29 (.tmp 49),type:=29,pos:= "ir.go:221",after:=_,guard:=none}) rfl (fun K hK=> ?_) ?_
     ·go_simp
      refine hK.out _ _ hHeld (fun hHeld=> ?_)
      clear hK K
      try simp only [Act.put,aA,aB,aC]
      refine wpAnyH_ready (rs:= [7,12]) (by kernel_rfl) (by simp) ?_
      refine AllReadyH.cons (o:={dst:=some 40,op:= .load 29 (.tmp 39),type:=29,pos:= "ir.go:221",after:=_,guard:=none}) rfl (fun K hK=> ?_) ?_
      ·go_simp
       refine hK.out _ _ hHeld (fun hHeld=> ?_)
       clear hK K
       try simp only [Act.put,aA,aB,aC]
       refine wpAnyH_ready (rs:= [12]) (by kernel_rfl) (by simp) ?_
       refine AllReadyH.cons (o:={dst:=some 45,op:= .load 29 (.tmp 44),type:=29,pos:= "ir.go:221",after:=_,guard:=none}) rfl (fun K hK=> ?_) ?_
       ·go_simp
        refine hK.out _ _ hHeld (fun hHeld=> ?_)
        clear hK K
        try simp only [Act.put,aA,aB,aC]
        refine wpAnyH_ready (rs:= [18]) (by kernel_rfl) (by simp) ?_
        refine AllReadyH.cons rfl (fun K hK=> ?_) AllReadyH.nil
        go_simp
        go_at_call 98
        with_reducible refine(CS.out _).mono ?_
        rintro e w2 ⟨rfl,bw⟩
        have N2:=NN.call bw
        have O2:=(NO.out.upto (ah.refl (fun _=>False) _).drew id).upto (ah.ak (S:=fun _=>False) bw) id
        go_simp
        refine hK.out _ _ ⟨vv,N2,O2⟩ (fun hHeld=> ?_)
        clear hK K
        try simp only [Act.put,aA,aB,aC]
        refine wpAnyH_take (i:=19) (v:= .pointer (some ⟨T,j,none⟩)) rfl (by kernel_rfl) (by kernel_rfl) (by kernel_rfl) (fun _ _ _ h=>h) (Or.inl ⟨by rfl, ?_⟩) hHeld ?_
        ·intro w nO;obtain⟨v',hN,hO⟩:=nO;clear hN hO;go_simp;(try with_reducible rfl)
        try simp only [Act.put,aA,aB,aC]
        have Eu:=N2.v.v j dh
        have Ew:=N2.v.z j
        have Ey:=N2.v.l
        refine wpAnyH_ready (rs:= [20]) (by kernel_rfl) (by simp) ?_
        refine AllReadyH.cons rfl (fun K hK=> ?_) AllReadyH.nil
        go_simp
        refine hK.out _ _ ⟨aF vv j kn,N2.mZ j kn,O2.sZ Oq _ _⟩ (fun hHeld=> ?_)
        clear hK K
        try simp only [Act.put,aA,aB,aC]
        refine wpAnyH_done (by kernel_rfl) ?_ _
        have N6:=κ (N2.mZ j kn)
        clear Eu Ew Ey hHeld
        generalize w2.setCell ⟨T,j,none⟩ (.int .u32 kn)=W6 at N6⊢
        go_wp2_with fail
        go_meet
        exact⟨false,rfl,LQ.intro ⟨0,0,kn,n⟩ N6.out PV.out⟩
       exact AllReadyH.nil
      refine AllReadyH.cons (o:={dst:=some 45,op:= .load 29 (.tmp 44),type:=29,pos:= "ir.go:221",after:=_,guard:=none}) rfl (fun K hK=> ?_) ?_
      ·go_simp
       refine hK.out _ _ hHeld (fun hHeld=> ?_)
       clear hK K
       try simp only [Act.put,aA,aB,aC]
       refine wpAnyH_ready (rs:= [7]) (by kernel_rfl) (by simp) ?_
       refine AllReadyH.cons (o:={dst:=some 40,op:= .load 29 (.tmp 39),type:=29,pos:= "ir.go:221",after:=_,guard:=none}) rfl (fun K hK=> ?_) ?_
       ·go_simp
        refine hK.out _ _ hHeld (fun hHeld=> ?_)
        clear hK K
        try simp only [Act.put,aA,aB,aC]
        refine wpAnyH_ready (rs:= [18]) (by kernel_rfl) (by simp) ?_
        refine AllReadyH.cons rfl (fun K hK=> ?_) AllReadyH.nil
        go_simp
        go_at_call 98
        with_reducible refine(CS.out _).mono ?_
        rintro e w2 ⟨rfl,bw⟩
        have N2:=NN.call bw
        have O2:=(NO.out.upto (ah.refl (fun _=>False) _).drew id).upto (ah.ak (S:=fun _=>False) bw) id
        go_simp
        refine hK.out _ _ ⟨vv,N2,O2⟩ (fun hHeld=> ?_)
        clear hK K
        try simp only [Act.put,aA,aB,aC]
        refine wpAnyH_take (i:=19) (v:= .pointer (some ⟨T,j,none⟩)) rfl (by kernel_rfl) (by kernel_rfl) (by kernel_rfl) (fun _ _ _ h=>h) (Or.inl ⟨by rfl, ?_⟩) hHeld ?_
        ·intro w nO;obtain⟨v',hN,hO⟩:=nO;clear hN hO;go_simp;(try with_reducible rfl)
        try simp only [Act.put,aA,aB,aC]
        have Eu:=N2.v.v j dh
        have Ew:=N2.v.z j
        have Ey:=N2.v.l
        refine wpAnyH_ready (rs:= [20]) (by kernel_rfl) (by simp) ?_
        refine AllReadyH.cons rfl (fun K hK=> ?_) AllReadyH.nil
        go_simp
        refine hK.out _ _ ⟨aF vv j kn,N2.mZ j kn,O2.sZ Oq _ _⟩ (fun hHeld=> ?_)
        clear hK K
        try simp only [Act.put,aA,aB,aC]
        refine wpAnyH_done (by kernel_rfl) ?_ _
        have N6:=κ (N2.mZ j kn)
        clear Eu Ew Ey hHeld
        generalize w2.setCell ⟨T,j,none⟩ (.int .u32 kn)=W6 at N6⊢
        go_wp2_with fail
        go_meet
        exact⟨false,rfl,LQ.intro ⟨0,0,kn,n⟩ N6.out PV.out⟩
       exact AllReadyH.nil
      exact AllReadyH.nil
     exact AllReadyH.nil
    by_cases e2:k=2
    ·subst e2
     obtain⟨r,rfl⟩:=Int.eq_ofNat_of_zero_le hw.1
     have hr:r<12:=by have:rS 2=12:=rfl;omega
     have cr:=NS.out.c.r r hr
     have rc0:(0:Int)≤(r:Int):=by omega
     have rc1:(r:Int) <12:=by omega
     go_upto_region 10 with fail
     go_wp2_with fail
     go_meet
     exact⟨false,rfl,LQ.intro ⟨0,0,kn,n⟩ (NS.out.mZ j (cc r)) (rfl)⟩
    by_cases e3:k=3
    ·subst e3
     obtain⟨r,rfl⟩:=Int.eq_ofNat_of_zero_le hw.1
     have hr:r<12:=by have:rS 3=12:=rfl;omega
     have cr:=NS.out.c.r r hr
     have zr:=NS.out.c.z r
     have rc0:(0:Int)≤(r:Int):=by omega
     have rc1:(r:Int) <12:=by omega
     go_upto_region 12 with fail
     go_region
     go_wp2_with fail
     go_meet
     exact⟨false,rfl,LQ.intro ⟨0,0,kn,n⟩ ((NS.out.aaj r hr (vv oa)).drew) (rfl)⟩
    by_cases e17:k=17
    ·subst e17
     have h8:=hC'.out 8
     have h9:=hC'.out 9
     have BU:=hC'.out 10
     have YR:=hC'.out 11
     have CSx:=κ (fun w=>Ir.qL (cc 0) (cc 1) (cc 2) (cc 3) (cc 4) (cc 5) (cc 6) (cc 7) (cc 8) (cc 9) (cc 10) (cc 11) 0 w h8.1 h8.2 h9.1 h9.2 BU.1 BU.2 YR.1 YR.2)
     have PV:opV ⟨17,ow,oa,b,oc,kn,n⟩ ⟨M',cc,vv⟩ j=(⟨M',cc,aF vv j (fl (cc 8) (cc 9) (cc 10) (cc 11))⟩,Bz false ⟨0,0,kn,n⟩):=rfl
     generalize fl (cc 8) (cc 9) (cc 10) (cc 11)=z at CSx PV
     have PV:=κ PV
     have afg:∀w:World,(Instr.field 94 (.agg #[.int .u32 (cc 0), .int .u32 (cc 1), .int .u32 (cc 2), .int .u32 (cc 3), .int .u32 (cc 4), .int .u32 (cc 5), .int .u32 (cc 6), .int .u32 (cc 7), .int .u32 0, .int .u32 z]) 2).run Tryz.prog w= .ok (.int .u32 z) w:=fun _=>by kernel_rfl
     obtain⟨c0,c1,c2,c3,c4,c5,c6,c7,c8,c9,c10,c11⟩:=NS.out.c.all
     clear h8 h9 BU YR
     go_upto_region 14 with fail
     go_wp2_with (go_at_call 63;(with_reducible refine(CSx.out _).mono ?_);rintro e w5 ⟨rfl,hb5⟩;have N5:=κ (NS.out.call hb5);have vi':=N5.out.v.v j dh;have zi':=N5.out.v.z j;have lT5:=N5.out.v.l;clear hb5)
     go_meet
     exact⟨false,rfl,LQ.intro ⟨0,0,kn,n⟩ (N5.out.mZ j z) (PV.out)⟩
    by_cases e9:k=9
    ·subst e9
     have e9:rS 9=5:=rfl
     have h9:oa<j:=by have:=O9.out (by decide) (by decide);omega
     have dR:¬oa=j:=by omega
     rw [e9] at hw
     have CS:=(fun w h=>Rf P M' ow (vv oa) w h hM' hw.1 (by omega) (zU.out oa).1 (zU.out oa).2)
     simp only [St.dw] at CS
     have PV:=op9 ow b oc kn n oa j M' cc vv
     generalize St.yA 5 (aQ M' 1 (vv oa) (vV ow).toNat)=kk at CS PV
     generalize St.Aq (aQ M' 1 (vv oa) (vV ow).toNat)=xq at CS PV
     generalize wid ow (jD M' (vv oa) (vV ow))=z at CS PV
     have CS:=κ CS
     have PV:=κ PV
     have Oq:¬D=T:=by have:=HD.out;omega
     have X9:¬D=X:=by omega
     go_upto_region 16 with fail
     go_region_held3 (fun W=>W.cell? ⟨D,1,none⟩=some (.int .i64 ow)∧W.cell? ⟨D,2,none⟩=some (.int .i64 (oa:Int))∧W.cell? ⟨T,oa,none⟩=some (.int .u32 (vv oa))∧(W.cell? ⟨T,j,none⟩).isSome=true∧W.frozen? ⟨T,j,none⟩=false∧(W.cell? ⟨X,0,none⟩).isSome=true∧W.frozen? ⟨X,0,none⟩=false∧(W.cell? ⟨X,1,none⟩).isSome=true∧W.frozen? ⟨X,1,none⟩=false) (first | exact l9 NS.out NO.out la dh | exact l9 NS.out.drew (NO.out.upto (ah.refl (fun _=>False) _).drew id) la dh | exact l9 N2.out O2.out la dh | exact l9v (N2.out.mZ j z) (O2.out.sZ Oq _ _) la dh dR | exact l9 (N2.out.qH kk xq) ((O2.out.sZ X9 _ _).sZ X9 _ _) la dh | exact l9v ((N2.out.mZ j z).qH kk xq) (((O2.out.sZ Oq _ _).sZ X9 _ _).sZ X9 _ _) la dh dR)
      ((first | (go_at_call 96;(with_reducible refine(CS.out _ (by first | exact NS.out.m | exact NS.out.drew.m)).mono ?_);rintro e w2 ⟨rfl,bw⟩;have N2:=κ (show LS P w T L (w.heap.size+1) X M' cc vv 0 0 kn n w2 from by first | exact NS.out.call bw | exact NS.out.drew.call bw);have O2:=κ (show OB D 9 ow (oa:Int) b (oc:Int) kn n w2 from by first | exact NO.out.upto (ah.ak (S:=fun _=>False) bw) id | exact(NO.out.upto (ah.refl (fun _=>False) _).drew id).upto (ah.ak (S:=fun _=>False) bw) id);have x0:=N2.out.x.c0;have x1:=N2.out.x.c1;have zx0:=N2.out.x.z 0;have zx1:=N2.out.x.z 1;have lX2:=N2.out.x.l;have Eu:=N2.out.v.v j dh;have Ew:=N2.out.v.z j;have Ey:=N2.out.v.l;clear bw)))
     clear x0 x1 zx0 zx1 lX2 Eu Ew Ey
     have N6:=(N2.out.mZ j z).qH kk xq
     generalize((w2.setCell ⟨T,j,none⟩ (.int .u32 z)).setCell ⟨X,0,none⟩ (.int .i64 kk)).setCell ⟨X,1,none⟩ (.int .u32 xq)=W6 at N6⊢
     have x0:=N6.x.c0
     have lX6:=N6.x.l
     have N6:=κ N6
     go_wp2_with fail
     go_meet
     exact⟨(kk !=0),rfl,LQ.intro ⟨kk,xq,kn,n⟩ N6.out PV.out⟩
    by_cases BZ:k=10
    ·subst BZ
     have J9:0≤b∧(b<j∨b=0):=⟨hb.1,by rcases hb.2 with e | e | e;exact .inl e;exact .inr e;exact absurd e.1 (by omega)⟩
     obtain⟨ob,rfl⟩:=Int.eq_ofNat_of_zero_le J9.1
     have F9:ob<L:=by omega
     have vb:=NS.out.v.v ob F9
     have ib0:(0:Int)≤(ob:Int):=by omega
     have ib1:(ob:Int) <(L:Int):=by omega
     have BZ:rS 10=3:=rfl
     rw [BZ] at hw
     have CS:=(fun w h=>Rh P M' ow (vv oa) (vv ob) w h hM' hw.1 (by omega) (zU.out oa).1 (zU.out oa).2 (zU.out ob).1 (zU.out ob).2)
     simp only [St.dw] at CS
     have PV:=afv ow oc kn n oa ob j M' cc vv
     generalize St.yA 6 (jE M' (vv oa) (vW ow))=kk at CS PV
     generalize St.Aq (jE M' (vv oa) (vW ow))=xq at CS PV
     generalize nU M' (vv oa) (vW ow) (vv ob)=M3 at CS PV
     have CS:=κ CS
     have PV:=κ PV
     have X9:¬D=X:=by omega
     have hnp:¬P.has D:=fun hp=>by have:=Js.out _ hp;have:=HD.out;omega
     go_upto_region 19 with fail
     go_region_held3 (fun W=>W.cell? ⟨D,1,none⟩=some (.int .i64 ow)∧W.cell? ⟨D,2,none⟩=some (.int .i64 (oa:Int))∧W.cell? ⟨D,3,none⟩=some (.int .i64 (ob:Int))∧W.cell? ⟨T,oa,none⟩=some (.int .u32 (vv oa))∧W.cell? ⟨T,ob,none⟩=some (.int .u32 (vv ob))∧(W.cell? ⟨X,0,none⟩).isSome=true∧W.frozen? ⟨X,0,none⟩=false∧(W.cell? ⟨X,1,none⟩).isSome=true∧W.frozen? ⟨X,1,none⟩=false) (first | exact l10 NS.out NO.out la F9 | exact l10 NS.out.drew (NO.out.upto (ah.refl (fun _=>False) _).drew id) la F9 | exact l10 N2.out O2.out la F9 | exact l10 (N2.out.qH kk xq) ((O2.out.sZ X9 _ _).sZ X9 _ _) la F9)
      ((first | (go_at_call 97;(with_reducible refine(CS.out _ (by first | exact NS.out.m | exact NS.out.drew.m)).mono ?_);rintro e w2 ⟨rfl,m2,u2⟩;have N2:=κ (show LS P w T L (w.heap.size+1) X M3 cc vv 0 0 kn n w2 from by first | exact NS.out.mem m2 u2 | exact NS.out.drew.mem m2 u2);have O2:=κ (show OB D 10 ow (oa:Int) (ob:Int) (oc:Int) kn n w2 from by first | exact NO.out.upto u2 hnp | exact(NO.out.upto (ah.refl (fun _=>False) _).drew id).upto u2 hnp);have x0:=N2.out.x.c0;have x1:=N2.out.x.c1;have zx0:=N2.out.x.z 0;have zx1:=N2.out.x.z 1;have lX2:=N2.out.x.l;clear m2 u2)))
     clear x0 x1 zx0 zx1 lX2
     have N6:=N2.out.qH kk xq
     generalize(w2.setCell ⟨X,0,none⟩ (.int .i64 kk)).setCell ⟨X,1,none⟩ (.int .u32 xq)=W6 at N6⊢
     have x0:=N6.x.c0
     have lX6:=N6.x.l
     have N6:=κ N6
     go_wp2_with fail
     go_meet
     exact⟨(kk !=0),rfl,LQ.intro ⟨kk,xq,kn,n⟩ N6.out PV.out⟩
    by_cases e11:k=11
    ·subst e11
     have CT:=κ (fun w h=>vJ P M' w h)
     go_upto_region 22 with fail
     go_wp2_with (go_at_call 66;(with_reducible refine(CT.out _ NS.out.m).mono ?_);rintro e w5 ⟨rfl,rfl⟩)
     go_meet
     exact⟨(dG M'.hi),rfl,LQ.intro ⟨0,0,kn,n⟩ (NS.out) (rfl)⟩
    by_cases YT:k=12
    ·subst YT
     go_upto_region 24 with fail
     go_wp2_with fail
     go_meet
     exact⟨(vv oa !=0),rfl,LQ.intro ⟨0,0,kn,n⟩ (NS.out) ((congrArg (Prod.mk _) (Oo (vv oa) _)))⟩
    by_cases e13:k=13
    ·subst e13
     have x0:=NS.out.x.c0
     have zx0:=NS.out.x.z 0
     go_upto_region 26 with fail
     go_wp2_with fail
     go_meet
     exact⟨(vv oa !=0),rfl,LQ.intro ⟨ow,0,kn,n⟩ (NS.out.X5 ow) ((congrArg (Prod.mk _) (Oo (vv oa) _)))⟩
    by_cases Pj:k=14
    ·subst Pj
     have qQ:b%4294967296=b:=by omega
     have PV:opV ⟨14,ow,oa,b,oc,kn,n⟩ ⟨M',cc,vv⟩ j=(⟨M',cc,vv⟩,Bz true ⟨ow,b,kn,n⟩):=by
      have e:opV ⟨14,ow,oa,b,oc,kn,n⟩ ⟨M',cc,vv⟩ j=(⟨M',cc,vv⟩,Bz true ⟨ow,b%4294967296,kn,n⟩):=rfl
      rw [e,qQ]
     have PV:=κ PV
     clear qQ
     have x0:=NS.out.x.c0
     have zx0:=NS.out.x.z 0
     have x1:=NS.out.x.c1
     have zx1:=NS.out.x.z 1
     go_upto_region 29 with fail
     go_wp2_with fail
     go_meet
     exact⟨true,rfl,LQ.intro ⟨ow,b,kn,n⟩ (NS.out.qH ow b) (PV.out)⟩
    by_cases UG:k=15
    ·subst UG
     go_upto_region 32 with fail
     go_wp2_with fail
     go_meet
     exact⟨true,rfl,LQ.intro ⟨0,0,kn,n⟩ (NS.out) (rfl)⟩
    by_cases e16:k=16
    ·subst e16
     have x2:=NS.out.x.c2
     have zx2:=NS.out.x.z 2
     go_upto_region 34 with fail
     go_wp2_with fail
     go_meet
     exact⟨true,rfl,LQ.intro ⟨0,0,vv oa,n⟩ (NS.out.X8 (vv oa)) (rfl)⟩
    have J9:0≤b∧(b<j∨b=0):=⟨hb.1,by rcases hb.2 with e | e | e;exact .inl e;exact .inr e;exact absurd e.1 (by omega)⟩
    obtain⟨ob,rfl⟩:=Int.eq_ofNat_of_zero_le J9.1
    have F9:ob<L:=by omega
    have vb:=NS.out.v.v ob F9
    have ib0:(0:Int)≤(ob:Int):=by omega
    have ib1:(ob:Int) <(L:Int):=by omega
    have vc:=NS.out.v.v oc lc
    have ic0:(0:Int)≤(oc:Int):=by omega
    have ic1:(oc:Int) <(L:Int):=by omega
    have HK:=κ (show(k=4∧0≤ow∧ow<16)∨(k=5∧0≤ow∧ow<7)∨k=6∨k=7∨(k=8∧0≤ow∧ow<16) from by
     have r4:rS 4=16:=rfl
     have r5:rS 5=7:=rfl
     have r8:rS 8=16:=rfl
     rcases(show k=4∨k=5∨k=6∨k=7∨k=8 by omega) with rfl | rfl | rfl | rfl | rfl
     ·exact .inl ⟨rfl,hw.1,by omega⟩
     ·exact .inr (.inl ⟨rfl,hw.1,by omega⟩)
     ·exact .inr (.inr (.inl rfl))
     ·exact .inr (.inr (.inr (.inl rfl)))
     ·exact .inr (.inr (.inr (.inr ⟨rfl,hw.1,by omega⟩))))
    have ha9:oa<j:=by have:=O9.out (by omega) (by omega);omega
    have hna:¬oa=j:=by omega
    have hnb:¬ob=j:=by omega
    have hnc:¬oc=j:=by omega
    have CS:=(fun w=>Aw k ow oa ob oc kn n (vv oa) (vv ob) (vv oc) w k0 k1 (zU.out oa).1 (zU.out oa).2 (zU.out ob).1 (zU.out ob).2 (zU.out oc).1 (zU.out oc).2 (.inr HK.out))
    have PV:=opv ow kn n oa ob oc j M' cc vv (.inr HK.out)
    generalize mW k ow kn (vv oa) (vv ob) (vv oc)=z at CS PV
    have CS:=κ CS
    have PV:=κ PV
    have Oq:¬D=T:=by have:=HD.out;omega
    have f2:(k==2)=false:=by rw [beq_eq_false_iff_ne];exact e2
    have f3:(k==3)=false:=by rw [beq_eq_false_iff_ne];exact e3
    have f17:(k==17)=false:=by rw [beq_eq_false_iff_ne];exact e17
    have f9:(k==9)=false:=by rw [beq_eq_false_iff_ne];exact e9
    have f10:(k==10)=false:=by rw [beq_eq_false_iff_ne];exact BZ
    have f11:(k==11)=false:=by rw [beq_eq_false_iff_ne];exact e11
    have f12:(k==12)=false:=by rw [beq_eq_false_iff_ne];exact YT
    have f13:(k==13)=false:=by rw [beq_eq_false_iff_ne];exact e13
    have f14:(k==14)=false:=by rw [beq_eq_false_iff_ne];exact Pj
    have f15:(k==15)=false:=by rw [beq_eq_false_iff_ne];exact UG
    have f16:(k==16)=false:=by rw [beq_eq_false_iff_ne];exact e16
    clear hk
    go_upto_region 8 with fail
    go_region_held3 (fun W=>W.cell? ⟨D,0,none⟩=some (.int .i64 k)∧W.cell? ⟨D,1,none⟩=some (.int .i64 ow)∧W.cell? ⟨D,2,none⟩=some (.int .i64 (oa:Int))∧W.cell? ⟨D,3,none⟩=some (.int .i64 (ob:Int))∧W.cell? ⟨D,4,none⟩=some (.int .i64 (oc:Int))∧W.cell? ⟨D,5,none⟩=some (.int .u32 kn)∧W.cell? ⟨D,6,none⟩=some (.int .i64 n)∧W.cell? ⟨T,oa,none⟩=some (.int .u32 (vv oa))∧W.cell? ⟨T,ob,none⟩=some (.int .u32 (vv ob))∧W.cell? ⟨T,oc,none⟩=some (.int .u32 (vv oc))∧(W.cell? ⟨T,j,none⟩).isSome=true∧W.frozen? ⟨T,j,none⟩=false) (first | exact l8 NS.out NO.out la F9 lc dh | exact l8 NS.out.drew (NO.out.upto (ah.refl (fun _=>False) _).drew id) la F9 lc dh | exact l8 N2.out O2.out la F9 lc dh | exact l8v (N2.out.mZ j z) (O2.out.sZ Oq _ _) la F9 lc dh hna hnb hnc)
     ((first | (go_at_call 98;(with_reducible refine(CS.out _).mono ?_);rintro e w2 ⟨rfl,bw⟩;have N2:=κ (show LS P w T L (w.heap.size+1) X M' cc vv 0 0 kn n w2 from by first | exact NS.out.call bw | exact NS.out.drew.call bw);have O2:=κ (show OB D k ow (oa:Int) (ob:Int) (oc:Int) kn n w2 from by first | exact NO.out.upto (ah.ak (S:=fun _=>False) bw) id | exact(NO.out.upto (ah.refl (fun _=>False) _).drew id).upto (ah.ak (S:=fun _=>False) bw) id);have Eu:=N2.out.v.v j dh;have Ew:=N2.out.v.z j;have Ey:=N2.out.v.l;clear bw)))
    clear Eu Ew Ey
    have N6:=N2.out.mZ j z
    generalize w2.setCell ⟨T,j,none⟩ (.int .u32 z)=W6 at N6⊢
    have N6:=κ N6
    go_wp2_with fail
    go_meet
    exact⟨false,rfl,LQ.intro ⟨0,0,kn,n⟩ N6.out PV.out⟩
   case rest=>
    obtain⟨lb,rfl,x,hls,Zc⟩:=hcut
    clear b0 b1 b2 b3 b4 b5 b6 va vi zi sv ia0 ia1 NS NO lX lC lTT lD
    obtain⟨r,hr⟩:∃r,opV ⟨k,ow,oa,b,oc,kn,n⟩ ⟨M',cc,vv⟩ j=r:=⟨_,rfl⟩
    rw [hr] at hls Zc Zb
    have HR:=κ hr
    clear hr
    obtain⟨⟨Mz,cz,vz⟩,ox⟩:=r
    dsimp only at hls Zc Zb
    subst Zc
    have hLj:os.length-j=(L-j-1)+1:=by have:=HL.out;omega
    have BG:=κ hls
    clear hls
    cases lb
    ·have EE2:evN os L ⟨M,cx,fun _=>0⟩=evN os (L-(j+1)) ⟨Mz,cz,vz⟩:=by
      have h1:=EE.out
      have h2:=Lu hLj HOJ.out HR.out
      rw [HL.out] at h2
      exact h1.trans h2
     have EE2:=κ EE2
     go_wp2_with fail
     go_roundg (L-(j+1))
     case measure=>have:=HG.out;omega
     case rel=>exact⟨j+1,⟨Mz,cz,vz⟩,rfl,by omega,by simp,BG.out.v,BG.out.c,BG.out.m,Zb.out,EE2.out,BG.out.r,BG.out.e,BG.out.u⟩
    ·have ev2:RV=(⟨Mz,cz,vz⟩,x,(j:Int)):=by
      have h1:=EE.out
      have h2:=FC hLj HOJ.out HR.out
      rw [HL.out] at h2
      rw [←HRV.out,h1,h2]
     have EV2:=κ ev2
     clear ev2 EE Zb HR HKN HDI HOP HO
     obtain⟨a0,a1,a2,a3,a4,a5,a6,a7,a8,a9,oL,oN⟩:=BG.out.c.all
     have lA6:=BG.out.c.l
     have d0:=BG.out.x.c0
     have d1:=BG.out.x.c1
     have d2:=BG.out.x.c2
     have d3:=BG.out.x.c3
     have lx6:=BG.out.x.l
     have CR:=κ BG.out.r
     have XR:=κ BG.out.e
     have M1:=κ BG.out.m
     have U0:=κ BG.out.u
     have r0:=CR.out.r 0 (by omega)
     have z0:=CR.out.z 0
     have r1:=CR.out.r 1 (by omega)
     have z1:=CR.out.z 1
     have r2:=CR.out.r 2 (by omega)
     have z2:=CR.out.z 2
     have r3:=CR.out.r 3 (by omega)
     have z3:=CR.out.z 3
     have r4:=CR.out.r 4 (by omega)
     have z4:=CR.out.z 4
     have r5:=CR.out.r 5 (by omega)
     have z5:=CR.out.z 5
     have r6:=CR.out.r 6 (by omega)
     have z6:=CR.out.z 6
     have r7:=CR.out.r 7 (by omega)
     have z7:=CR.out.z 7
     have r8:=CR.out.r 8 (by omega)
     have z8:=CR.out.z 8
     have r9:=CR.out.r 9 (by omega)
     have z9:=CR.out.z 9
     have Ya:=CR.out.r 10 (by omega)
     have Yb:=CR.out.z 10
     have Yc:=CR.out.r 11 (by omega)
     have UO:=CR.out.z 11
     have y0:=XR.out.c0
     have v0:=XR.out.z 0
     have y1:=XR.out.c1
     have v1:=XR.out.z 1
     have y2:=XR.out.c2
     have v2:=XR.out.z 2
     have y3:=XR.out.c3
     have v3:=XR.out.z 3
     have lr:=CR.out.l
     have ly:=XR.out.l
     go_upto_region 37 with fail
     go_region
     clear a0 a1 a2 a3 a4 a5 a6 a7 a8 a9 oL oN d0 d1 d2 d3 lx6 lA6
     clear r0 z0 r1 z1 r2 z2 r3 z3 r4 z4 r5 z5 r6 z6 r7 z7 r8 z8 r9 z9 Ya Yb Yc UO y0 v0 y1 v1 y2 v2 y3 v3 lr ly
     have c8:=CR.out.put cz
     have v8:=jY (S:=fun i=>i=w.heap.size+1+1) (h:=w.heap.size+1+1) (ah.refl _ wc) (.inl rfl) cz
     have u8:=jY (h:=w.heap.size+1+1) U0.out (.inr (Nat.le_trans (Nat.le_succ _) (Nat.le_succ _))) cz
     have x8:=XR.out.upto v8 (by omega)
     have m8:=RM.upto (S:=fun i=>i=w.heap.size+1+1) M1.out v8 (fun i hi=>by have:=Js.out i hi;omega)
     generalize((((((((((((wc.setCell ⟨w.heap.size+1+1,0,none⟩ (.int .u32 (cz 0))).setCell ⟨w.heap.size+1+1,1,none⟩ (.int .u32 (cz 1))).setCell ⟨w.heap.size+1+1,2,none⟩ (.int .u32 (cz 2))).setCell ⟨w.heap.size+1+1,3,none⟩ (.int .u32 (cz 3))).setCell ⟨w.heap.size+1+1,4,none⟩ (.int .u32 (cz 4))).setCell ⟨w.heap.size+1+1,5,none⟩ (.int .u32 (cz 5))).setCell ⟨w.heap.size+1+1,6,none⟩ (.int .u32 (cz 6))).setCell ⟨w.heap.size+1+1,7,none⟩ (.int .u32 (cz 7))).setCell ⟨w.heap.size+1+1,8,none⟩ (.int .u32 (cz 8))).setCell ⟨w.heap.size+1+1,9,none⟩ (.int .u32 (cz 9))).setCell ⟨w.heap.size+1+1,10,none⟩ (.int .u32 (cz 10))).setCell ⟨w.heap.size+1+1,11,none⟩ (.int .u32 (cz 11)))=W8 at c8 v8 u8 x8 m8⊢
     have v9:=mF (S:=fun i=>i=w.heap.size+1+1+1) (h:=w.heap.size+1+1+1) (ah.refl _ W8) (.inl rfl) x.k x.x x.pc x.n
     have u9:=(mF (h:=w.heap.size+1+1+1) u8 (.inr (Nat.le_trans (Nat.le_succ _) (Nat.le_trans (Nat.le_succ _) (Nat.le_succ _)))) x.k x.x x.pc x.n)
     have x9:=x8.set x.k x.x x.pc x.n
     have c9:=c8.upto v9 (by omega)
     have m9:=RM.upto (S:=fun i=>i=w.heap.size+1+1+1) m8 v9 (fun i hi=>by have:=Js.out i hi;omega)
     have u9:=u9.drew
     have m9:=RM.upto (S:=fun _=>False) m9 (ah.refl (fun _=>False) _).drew (fun _ _=>id)
     have c9:=c9.drew
     have x9:=x9.upto (ah.refl (fun _=>False) _).drew id
     generalize World.drew ((((W8.setCell ⟨w.heap.size+1+1+1,0,none⟩ (.int .i64 x.k)).setCell ⟨w.heap.size+1+1+1,1,none⟩ (.int .u32 x.x)).setCell ⟨w.heap.size+1+1+1,2,none⟩ (.int .u32 x.pc)).setCell ⟨w.heap.size+1+1+1,3,none⟩ (.int .i64 x.n))=W9 at u9 x9 c9 m9⊢
     obtain⟨g0,g1,g2,g3,g4,g5,g6,g7,g8,g9,g10,g11⟩:=c9.all
     have o0:=x9.c0
     have o1:=x9.c1
     have o2:=x9.c2
     have o3:=x9.c3
     go_wp2_with fail
     exact bodyPost_ret (v:= .tuple #[.agg (ou cz), .agg #[.int .i64 x.k, .int .u32 x.x, .int .u32 x.pc, .int .i64 x.n], .int .i64 j]) (by simp [ou,results,Tryz.results69,go_sem,g0,g1,g2,g3,g4,g5,g6,g7,g8,g9,g10,g11,o0,o1,o2,o3]) rfl ⟨by rw [EV2.out],by rw [EV2.out];exact m9,u9⟩
  ·skip
   obtain rfl:L=j:=by omega
   have ev2:RV=(⟨s'.M,s'.c,s'.v⟩,⟨0,0,0,0⟩,-1):=by
    have h1:=EE.out
    rw [Nat.sub_self] at h1
    rw [←HRV.out,h1]
    rfl
   have EV2:=κ ev2
   have M1:=κ M2.out
   have U0:=κ U2.out
   clear ev2 EE HL
   obtain⟨a0,a1,a2,a3,a4,a5,a6,a7,a8,a9,oL,oN⟩:=C2.out.all
   have lA6:=C2.out.l
   have r0:=CR.out.r 0 (by omega)
   have z0:=CR.out.z 0
   have r1:=CR.out.r 1 (by omega)
   have z1:=CR.out.z 1
   have r2:=CR.out.r 2 (by omega)
   have z2:=CR.out.z 2
   have r3:=CR.out.r 3 (by omega)
   have z3:=CR.out.z 3
   have r4:=CR.out.r 4 (by omega)
   have z4:=CR.out.z 4
   have r5:=CR.out.r 5 (by omega)
   have z5:=CR.out.z 5
   have r6:=CR.out.r 6 (by omega)
   have z6:=CR.out.z 6
   have r7:=CR.out.r 7 (by omega)
   have z7:=CR.out.z 7
   have r8:=CR.out.r 8 (by omega)
   have z8:=CR.out.z 8
   have r9:=CR.out.r 9 (by omega)
   have z9:=CR.out.z 9
   have Ya:=CR.out.r 10 (by omega)
   have Yb:=CR.out.z 10
   have Yc:=CR.out.r 11 (by omega)
   have UO:=CR.out.z 11
   have y0:=XR.out.c0
   have v0:=XR.out.z 0
   have y1:=XR.out.c1
   have v1:=XR.out.z 1
   have y2:=XR.out.c2
   have v2:=XR.out.z 2
   have y3:=XR.out.c3
   have v3:=XR.out.z 3
   have lr:=CR.out.l
   have ly:=XR.out.l
   go_upto_region 39 with fail
   go_wp2_with fail
   clear a0 a1 a2 a3 a4 a5 a6 a7 a8 a9 oL oN lA6
   clear r0 z0 r1 z1 r2 z2 r3 z3 r4 z4 r5 z5 r6 z6 r7 z7 r8 z8 r9 z9 Ya Yb Yc UO y0 v0 y1 v1 y2 v2 y3 v3 lr ly
   have c8:=CR.out.put s'.c
   have v8:=jY (S:=fun i=>i=w.heap.size+1+1) (h:=w.heap.size+1+1) (ah.refl _ wr) (.inl rfl) s'.c
   have u8:=jY (h:=w.heap.size+1+1) U0.out (.inr (Nat.le_trans (Nat.le_succ _) (Nat.le_succ _))) s'.c
   have x8:=XR.out.upto v8 (by omega)
   have m8:=RM.upto (S:=fun i=>i=w.heap.size+1+1) M1.out v8 (fun i hi=>by have:=Js.out i hi;omega)
   generalize((((((((((((wr.setCell ⟨w.heap.size+1+1,0,none⟩ (.int .u32 (s'.c 0))).setCell ⟨w.heap.size+1+1,1,none⟩ (.int .u32 (s'.c 1))).setCell ⟨w.heap.size+1+1,2,none⟩ (.int .u32 (s'.c 2))).setCell ⟨w.heap.size+1+1,3,none⟩ (.int .u32 (s'.c 3))).setCell ⟨w.heap.size+1+1,4,none⟩ (.int .u32 (s'.c 4))).setCell ⟨w.heap.size+1+1,5,none⟩ (.int .u32 (s'.c 5))).setCell ⟨w.heap.size+1+1,6,none⟩ (.int .u32 (s'.c 6))).setCell ⟨w.heap.size+1+1,7,none⟩ (.int .u32 (s'.c 7))).setCell ⟨w.heap.size+1+1,8,none⟩ (.int .u32 (s'.c 8))).setCell ⟨w.heap.size+1+1,9,none⟩ (.int .u32 (s'.c 9))).setCell ⟨w.heap.size+1+1,10,none⟩ (.int .u32 (s'.c 10))).setCell ⟨w.heap.size+1+1,11,none⟩ (.int .u32 (s'.c 11)))=W8 at c8 v8 u8 x8 m8⊢
   have v9:=mF (S:=fun i=>i=w.heap.size+1+1+1) (h:=w.heap.size+1+1+1) (ah.refl _ W8) (.inl rfl) 0 0 0 0
   have u9:=(mF (h:=w.heap.size+1+1+1) u8 (.inr (Nat.le_trans (Nat.le_succ _) (Nat.le_trans (Nat.le_succ _) (Nat.le_succ _)))) 0 0 0 0)
   have x9:=x8.set 0 0 0 0
   have c9:=c8.upto v9 (by omega)
   have m9:=RM.upto (S:=fun i=>i=w.heap.size+1+1+1) m8 v9 (fun i hi=>by have:=Js.out i hi;omega)
   generalize((((W8.setCell ⟨w.heap.size+1+1+1,0,none⟩ (.int .i64 0)).setCell ⟨w.heap.size+1+1+1,1,none⟩ (.int .u32 0)).setCell ⟨w.heap.size+1+1+1,2,none⟩ (.int .u32 0)).setCell ⟨w.heap.size+1+1+1,3,none⟩ (.int .i64 0))=W9 at u9 x9 c9 m9⊢
   obtain⟨g0,g1,g2,g3,g4,g5,g6,g7,g8,g9,g10,g11⟩:=c9.all
   have o0:=x9.c0
   have o1:=x9.c1
   have o2:=x9.c2
   have o3:=x9.c3
   exact bodyPost_ret (v:= .tuple #[.agg (ou s'.c), .agg #[.int .i64 0, .int .u32 0, .int .u32 0, .int .i64 0], .int .i64 (-1)]) (by simp [ou,results,Tryz.results69,go_sem,g0,g1,g2,g3,g4,g5,g6,g7,g8,g9,g10,g11,o0,o1,o2,o3]) rfl ⟨by rw [EV2.out],by rw [EV2.out];exact m9,u9⟩
end Go.Proofs.YtcjcmnnhmajocabGreat.Ev
