import Derived.Deep.RegionHeld3
import Derived.Test.YtcjcmnnhmajocabPmau
import Derived.Test.YtcjcmnnhmajocabPmba
set_option linter.unusedVariables false
set_option linter.unusedSimpArgs false
set_option maxRecDepth 100000
set_option maxHeartbeats 16000000
namespace Go.Proofs.Ytcjcmnnhmajocab.Gn
open Go.RowKit Kt Ic Hr Ho Me
def pz (base:Nat) (v:Value) (us:List Int) (w:World):Prop:=w.ownsRow base 22 1 v us.length (us.map (Value.int .u32))
theorem pz.upto {B:Nat} {v:Value} {us:List Int} {w w':World} {S:Nat→Prop} (h:pz B v us w) (u:ah S w w') (hs:∀k,v.ownBlock=some k→¬S k):pz B v us w':=by
 obtain⟨h1,h⟩:=h
 refine⟨h1, ?_⟩
 rcases h with h | ⟨g,cap,cur,e1,e2,e3,e4⟩
 ·exact .inl h
 ·exact .inr ⟨g,cap,cur,e1,e2,(u.block g (Array.getElem?_eq_some_iff.1 e3).1 (hs g (by rw [e1];rfl))).trans e3,e4⟩
theorem pz.uY {B:Nat} {v:Value} {us:List Int} {w:World} (h:pz B v us w):∀k,v.ownBlock=some k→B≤k∧k<w.heap.size:=by
 intro k hk
 rcases h.2 with⟨e,_⟩ | ⟨g,cap,cur,e1,e2,e3,_⟩
 ·rw [e] at hk;exact nomatch hk
 ·rw [e1] at hk
  obtain rfl:g=k:=by simpa [Value.ownBlock] using hk
  exact⟨e2,(Array.getElem?_eq_some_iff.1 e3).1⟩
def SG (K:Gk):Nat→Prop:=fun i=>i=K.h∨i=K.vb∨(K.base≤i∧¬K.ex i)
def UB (K:Gk) (us:List Int) (ua:Option Addr) (cp:Nat) (W:World):Prop:=
 us.length≤cp∧cp≤maxLen∧(0<us.length→∃b off,ua=some ⟨b,off,none⟩∧b<K.base∧b≠K.h∧b≠K.vb∧∀j,j<us.length→W.cell? ⟨b,off+j,none⟩=some (.int .i64 (us.getD j 0)))
structure GM (K:Gk) (g:Gm) (W:World):Prop where
 c0:W.cell? ⟨K.h,0,none⟩=some (.int .u32 K.pc)
 c1:W.cell? ⟨K.h,1,none⟩=some (.int .i64 K.aC)
 c2:W.cell? ⟨K.h,2,none⟩=some (.int .i64 K.bg)
 c3:W.cell? ⟨K.h,3,none⟩=some (.slice K.ao K.os.length K.cap)
 cw:∃v,W.cell? ⟨K.h,4,none⟩=some v∧pz K.base v (dF g.xs) W∧∀k,v.ownBlock=some k→¬K.ex k
 c5:W.cell? ⟨K.h,5,none⟩=some (.int .i64 K.R)
 c6:W.cell? ⟨K.h,6,none⟩=some (.slice (some ⟨K.vb,0,none⟩) K.os.length K.os.length)
 uj:∀j,j<16→W.cell? ⟨K.h,7+j,none⟩=some (.int .i64 (g.holds j))
 pin:∀j,j<16→W.cell? ⟨K.h,23+j,none⟩=some (.bool (g.pin j))
 sp:W.cell? ⟨K.h,39,none⟩=some (.int .i64 g.sp)
 vr:∀t,t<K.os.length→W.cell? ⟨K.vb,t*3,none⟩=some (.int .i64 (g.v t).reg)
 vs:∀t,t<K.os.length→W.cell? ⟨K.vb,t*3+1,none⟩=some (.int .i64 (g.v t).aZ)
 vu:∀t,t<K.os.length→∃ua cp,W.cell? ⟨K.vb,t*3+2,none⟩=some (.slice ua (g.v t).uses.length cp)∧UB K (g.v t).uses ua cp W
 z:∀j,W.frozen? ⟨K.h,j,none⟩=false
 zv:∀j,W.frozen? ⟨K.vb,j,none⟩=false
 lh:K.h<K.base
 lv:K.vb<K.base
 ne:K.h≠K.vb
 lb:K.base≤W.heap.size
 ex:∀i,K.ex i→K.base≤i∧i<W.heap.size
 op:rQ K.os K.ao K.cap W
 ob:∀q,K.ao=some q→0<K.os.length→q.block<K.base∧q.block≠K.h∧q.block≠K.vb
variable {K:Gk} {g:Gm} {W W':World}
theorem GM.l (a:GM K g W):K.h<W.heap.size:=Nat.lt_of_lt_of_le a.lh a.lb
theorem GM.l2 (a:GM K g W):K.vb<W.heap.size:=Nat.lt_of_lt_of_le a.lv a.lb
theorem UB.upto {us:List Int} {ua:Option Addr} {cp:Nat} {S:Nat→Prop} (a:UB K us ua cp W) (u:ah S W W') (hb:K.base≤W.heap.size) (hs:∀i,i<K.base→i≠K.h→i≠K.vb→¬S i):UB K us ua cp W':=by
 obtain⟨h1,h2,h3⟩:=a
 refine⟨h1,h2,fun h0=> ?_⟩
 obtain⟨b,off,e,l1,l2,l3,hc⟩:=h3 h0
 exact⟨b,off,e,l1,l2,l3,fun j hj=>(u.cell (q:=⟨b,off+j,none⟩) (Nat.lt_of_lt_of_le l1 hb) (hs b l1 l2 l3)).trans (hc j hj)⟩
theorem dB {os:List cZ} {ao:Option Addr} {cap:Nat} {S:Nat→Prop} (a:rQ os ao cap W) (u:ah S W W') (hs:∀q,ao=some q→0<os.length→¬S q.block):rQ os ao cap W':=by
 obtain⟨h1,h2,h3⟩:=a
 refine⟨h1,h2,fun hp=> ?_⟩
 obtain⟨b,off,e,hg,hc⟩:=h3 hp
 exact⟨b,off,e,Nat.lt_of_lt_of_le hg u.size,fun i o hi j v hj=>(u.cell (q:=⟨b,off+i*7+j,none⟩) hg (show¬S b from hs _ e hp)).trans (hc i o hi j v hj)⟩
theorem GM.upto {S:Nat→Prop} (a:GM K g W) (u:ah S W W') (hS:∀i,S i→K.ex i∨W.heap.size≤i):GM K g W':=by
 have hb:=a.lb
 have no:∀i,i<K.base→¬S i:=fun i hi hs=>by
  rcases hS i hs with h | h
  ·have:=(a.ex i h).1;omega
  ·omega
 have e:∀j,W'.cell? ⟨K.h,j,none⟩=W.cell? ⟨K.h,j,none⟩:=fun j=>u.cell (q:=⟨K.h,j,none⟩) a.l (no _ a.lh)
 have f:∀j,W'.cell? ⟨K.vb,j,none⟩=W.cell? ⟨K.vb,j,none⟩:=fun j=>u.cell (q:=⟨K.vb,j,none⟩) a.l2 (no _ a.lv)
 refine⟨(e _).trans a.c0,(e _).trans a.c1,(e _).trans a.c2,(e _).trans a.c3, ?_,(e _).trans a.c5,(e _).trans a.c6,fun j hj=>(e _).trans (a.uj j hj),fun j hj=>(e _).trans (a.pin j hj),(e _).trans a.sp,fun j hj=>(f _).trans (a.vr j hj),fun j hj=>(f _).trans (a.vs j hj), ?_,
  fun j=>(u.frozen (q:=⟨K.h,j,none⟩) a.l (no _ a.lh)).trans (a.z j),fun j=>(u.frozen (q:=⟨K.vb,j,none⟩) a.l2 (no _ a.lv)).trans (a.zv j),a.lh,a.lv,a.ne,Nat.le_trans hb u.size,fun i hi=>⟨(a.ex i hi).1,Nat.lt_of_lt_of_le (a.ex i hi).2 u.size⟩,dB a.op u fun q hq h0=>no _ (a.ob q hq h0).1,a.ob⟩
 ·obtain⟨v,h1,h2,h3⟩:=a.cw
  refine⟨v,(e _).trans h1,h2.upto u fun k hk hs=> ?_,h3⟩
  rcases hS k hs with h | h
  ·exact h3 k hk h
  ·have:=(h2.uY k hk).2;omega
 ·intro t ht
  obtain⟨ua,cp,h1,h2⟩:=a.vu t ht
  exact⟨ua,cp,(f _).trans h1,h2.upto u hb fun i hi _ _=>no i hi⟩
theorem GM.quiet (a:GM K g W) (u:ah (fun _=>False) W W'):GM K g W':=a.upto u fun _ h=>h.elim
theorem GM.drew (a:GM K g W):GM K g W.drew:=a.quiet (ah.refl _ W).drew
theorem GM.alloc (a:GM K g W) (o:Obj):GM K g (W.alloc o):=a.quiet ((ah.refl _ W).alloc o)
theorem GM.Yi (a:GM K g W) (i:Nat) (v:Value) (g':Gm) (hi:i=39∨(7≤i∧i<39)) (hx:g'.xs=g.xs) (hv:g'.v=g.v)
  (e1:∀j,j<16→(if i=7+j then v else .int .i64 (g.holds j))= .int .i64 (g'.holds j)) (e2:∀j,j<16→(if i=23+j then v else .bool (g.pin j))= .bool (g'.pin j))
  (e3:(if i=39 then v else .int .i64 g.sp)= .int .i64 g'.sp):GM K g' (W.setCell ⟨K.h,i,none⟩ v):=by
 have c:∀j x,W.cell? ⟨K.h,j,none⟩=some x→(W.setCell ⟨K.h,i,none⟩ v).cell? ⟨K.h,j,none⟩=some (if i=j then v else x):=fun j x hx=>by
  by_cases e:i=j
  ·subst e;rw [if_pos rfl];exact World.cell?_setCell_same _ _ _ hx
  ·rw [if_neg e,HM.aP (fun e'=>e e'.symm),hx]
 have u:ah (fun i=>i=K.h) W (W.setCell ⟨K.h,i,none⟩ v):=(ah.refl (fun i=>i=K.h) W).setCell (q:=⟨K.h,i,none⟩) (.inl rfl) v
 have f:∀j,(W.setCell ⟨K.h,i,none⟩ v).cell? ⟨K.vb,j,none⟩=W.cell? ⟨K.vb,j,none⟩:=fun j=>u.cell (q:=⟨K.vb,j,none⟩) a.l2 (fun e=>a.ne e.symm)
 have n:∀j x,j<7→(if i=j then v else x)=x:=fun j x hj=>if_neg (by omega)
 refine⟨(c _ _ a.c0).trans (by rw [n _ _ (by decide)]),(c _ _ a.c1).trans (by rw [n _ _ (by decide)]),(c _ _ a.c2).trans (by rw [n _ _ (by decide)]),(c _ _ a.c3).trans (by rw [n _ _ (by decide)]), ?_,(c _ _ a.c5).trans (by rw [n _ _ (by decide)]),(c _ _ a.c6).trans (by rw [n _ _ (by decide)]),
  fun j hj=>(c _ _ (a.uj j hj)).trans (by rw [e1 j hj]),fun j hj=>(c _ _ (a.pin j hj)).trans (by rw [e2 j hj]),(c _ _ a.sp).trans (by rw [e3]), ?_, ?_, ?_,fun j=>by simpa using a.z j,fun j=>by simpa using a.zv j,a.lh,a.lv,a.ne,by simpa using a.lb,by simpa using a.ex,
  dB a.op u fun q hq h0=>(a.ob q hq h0).2.1,a.ob⟩
 ·obtain⟨x,h1,h2,h3⟩:=a.cw
  refine⟨x,(c _ _ h1).trans (by rw [n _ _ (by decide)]), ?_,h3⟩
  rw [hx]
  exact h2.upto u fun k hk e=>by have:=(h2.uY k hk).1;have:=a.lh;omega
 ·rw [hv];exact fun t ht=>(f _).trans (a.vr t ht)
 ·rw [hv];exact fun t ht=>(f _).trans (a.vs t ht)
 ·rw [hv]
  intro t ht
  obtain⟨ua,cp,h1,h2⟩:=a.vu t ht
  exact⟨ua,cp,(f _).trans h1,h2.upto u a.lb fun i _ hi _=>hi⟩
theorem GM.eY (a:GM K g W) (r:Nat) (x:Int) (hr:r<16):GM K (g.eY r x) (W.setCell ⟨K.h,7+r,none⟩ (.int .i64 x)):=
 a.Yi (7+r) _ _ (.inr ⟨by omega,by omega⟩) rfl rfl (fun j hj=>by
  show _=Value.int .i64 (aO g.holds r x j);unfold aO
  by_cases e:j=r
  ·subst e;simp
  ·rw [if_neg e,if_neg (by omega)]) (fun j hj=>if_neg (by omega)) (if_neg (by omega))
theorem GM.jf (a:GM K g W) (r:Nat) (x:Bool) (hr:r<16):GM K (g.jf r x) (W.setCell ⟨K.h,23+r,none⟩ (.bool x)):=
 a.Yi (23+r) _ _ (.inr ⟨by omega,by omega⟩) rfl rfl (fun j hj=>if_neg (by omega)) (fun j hj=>by
  show _=Value.bool (aO g.pin r x j);unfold aO
  by_cases e:j=r
  ·subst e;simp
  ·rw [if_neg e,if_neg (by omega)]) (if_neg (by omega))
theorem GM.iD (a:GM K g W) (x:Int):GM K (g.iD x) (W.setCell ⟨K.h,39,none⟩ (.int .i64 x)):=
 a.Yi 39 _ _ (.inl rfl) rfl rfl (fun j hj=>if_neg (by omega)) (fun j hj=>if_neg (by omega)) rfl
theorem GM.Yj (a:GM K g W) (t o:Nat) (v:Value) (y:Vl) (ht:t<K.os.length) (ho:o<3)
  (e1:(if o=0 then v else .int .i64 (g.v t).reg)= .int .i64 y.reg) (e2:(if o=1 then v else .int .i64 (g.v t).aZ)= .int .i64 y.aZ)
  (e3:(o≠2∧y.uses=(g.v t).uses)∨(o=2∧∃ua cp,v= .slice ua y.uses.length cp∧UB K y.uses ua cp W)):GM K {g with v:=aO g.v t y} (W.setCell ⟨K.vb,t*3+o,none⟩ v):=by
 have c:∀j x,W.cell? ⟨K.vb,j,none⟩=some x→(W.setCell ⟨K.vb,t*3+o,none⟩ v).cell? ⟨K.vb,j,none⟩=some (if t*3+o=j then v else x):=fun j x hx=>by
  by_cases e:t*3+o=j
  ·subst e;rw [if_pos rfl];exact World.cell?_setCell_same _ _ _ hx
  ·rw [if_neg e,HM.aP (fun e'=>e e'.symm),hx]
 have u:ah (fun i=>i=K.vb) W (W.setCell ⟨K.vb,t*3+o,none⟩ v):=(ah.refl (fun i=>i=K.vb) W).setCell (q:=⟨K.vb,t*3+o,none⟩) (.inl rfl) v
 have e:∀j,(W.setCell ⟨K.vb,t*3+o,none⟩ v).cell? ⟨K.h,j,none⟩=W.cell? ⟨K.h,j,none⟩:=fun j=>u.cell (q:=⟨K.h,j,none⟩) a.l a.ne
 have ub:∀ {us ua cp},UB K us ua cp W→UB K us ua cp (W.setCell ⟨K.vb,t*3+o,none⟩ v):=fun h=>h.upto u a.lb fun i _ _ hi=>hi
 refine⟨(e _).trans a.c0,(e _).trans a.c1,(e _).trans a.c2,(e _).trans a.c3, ?_,(e _).trans a.c5,(e _).trans a.c6,fun j hj=>(e _).trans (a.uj j hj),fun j hj=>(e _).trans (a.pin j hj),(e _).trans a.sp, ?_, ?_, ?_,fun j=>by simpa using a.z j,fun j=>by simpa using a.zv j,a.lh,a.lv,a.ne,by simpa using a.lb,by simpa using a.ex,
  dB a.op u fun q hq h0=>(a.ob q hq h0).2.2,a.ob⟩
 ·obtain⟨x,h1,h2,h3⟩:=a.cw
  exact⟨x,(e _).trans h1,h2.upto u fun k hk e=>by have:=(h2.uY k hk).1;have:=a.lv;omega,h3⟩
 ·intro j hj
  rw [c _ _ (a.vr j hj)]
  dsimp only
  by_cases e:j=t
  ·subst e
   rw [show aO g.v j y j=y from if_pos rfl,←e1]
   by_cases e0:o=0
   ·rw [if_pos (by omega),if_pos e0]
   ·rw [if_neg (by omega),if_neg e0]
  ·rw [show aO g.v t y j=g.v j from if_neg e,if_neg (by omega)]
 ·intro j hj
  rw [c _ _ (a.vs j hj)]
  dsimp only
  by_cases e:j=t
  ·subst e
   rw [show aO g.v j y j=y from if_pos rfl,←e2]
   by_cases e0:o=1
   ·rw [if_pos (by omega),if_pos e0]
   ·rw [if_neg (by omega),if_neg e0]
  ·rw [show aO g.v t y j=g.v j from if_neg e,if_neg (by omega)]
 ·intro j hj
  obtain⟨ua,cp,h1,h2⟩:=a.vu j hj
  rw [c _ _ h1]
  dsimp only
  by_cases e:j=t
  ·subst e
   rw [show aO g.v j y j=y from if_pos rfl]
   rcases e3 with⟨n2,ey⟩ | ⟨e2,ua',cp',ev,hb⟩
   ·rw [if_neg (by omega),ey];exact⟨ua,cp,rfl,ub h2⟩
   ·rw [if_pos (by omega)];exact⟨ua',cp',by rw [ev],ub hb⟩
  ·rw [show aO g.v t y j=g.v j from if_neg e,if_neg (by omega)];exact⟨ua,cp,rfl,ub h2⟩
theorem GM.eF (a:GM K g W) (t:Nat) (x:Int) (ht:t<K.os.length):GM K (g.eF t x) (W.setCell ⟨K.vb,t*3,none⟩ (.int .i64 x)):=
 a.Yj t 0 _ {g.v t with reg:=x} ht (by decide) rfl rfl (.inl ⟨by decide,rfl⟩)
theorem GM.gI (a:GM K g W) (t:Nat) (x:Int) (ht:t<K.os.length):GM K (g.gI t x) (W.setCell ⟨K.vb,t*3+1,none⟩ (.int .i64 x)):=
 a.Yj t 1 _ {g.v t with aZ:=x} ht (by decide) rfl rfl (.inl ⟨by decide,rfl⟩)
theorem GM.kH (a:GM K g W) (t:Nat) (us:List Int) (ua:Option Addr) (cp:Nat) (ht:t<K.os.length) (hu:UB K us ua cp W):GM K (g.kH t us) (W.setCell ⟨K.vb,t*3+2,none⟩ (.slice ua us.length cp)):=
 a.Yj t 2 _ {g.v t with uses:=us} ht (by decide) rfl rfl (.inr ⟨rfl,ua,cp,rfl,hu⟩)
theorem pz.sl {B:Nat} {v:Value} {us:List Int} {w:World} (h:pz B v us w):∃ao n cap,v= .slice ao n cap:=by
 rcases h.2 with⟨e,_⟩ | ⟨g,cap,cur,e1,_⟩
 ·exact⟨_,_,_,e⟩
 ·exact⟨_,_,_,e1⟩
theorem GM.aeh (a:GM K g W) (x:Cd) (v v':Value) (h0:pz K.base v (dF g.xs) W) (hv:∀k,v.ownBlock=some k→¬K.ex k) (u':ah (fun i=>v.ownBlock=some i) W W') (h2:pz K.base v' (dF (g.xs++ [x])) W') (hk:v'.ownBlock=v.ownBlock∨v'.ownBlock=some W.heap.size):GM K (g.put x) (W'.setCell ⟨K.h,4,none⟩ v'):=by
 have nb:∀i,i<K.base→¬v.ownBlock=some i:=fun i hi e=>by have:=(h0.uY i e).1;omega
 have b:∀j,W'.cell? ⟨K.h,j,none⟩=W.cell? ⟨K.h,j,none⟩:=fun j=>u'.cell (q:=⟨K.h,j,none⟩) a.l (nb _ a.lh)
 have c:∀j,j≠4→(W'.setCell ⟨K.h,4,none⟩ v').cell? ⟨K.h,j,none⟩=W.cell? ⟨K.h,j,none⟩:=fun j hj=>(HM.aP hj).trans (b j)
 have u:ah (fun i=>i=K.h) W' (W'.setCell ⟨K.h,4,none⟩ v'):=(ah.refl (fun i=>i=K.h) W').setCell (q:=⟨K.h,4,none⟩) (.inl rfl) v'
 have tt:ah (fun i=>i=K.h∨v.ownBlock=some i) W (W'.setCell ⟨K.h,4,none⟩ v'):=(u'.mono fun _ _ h=> .inr h).trans (u.mono fun _ _ h=> .inl h)
 have f:∀j,(W'.setCell ⟨K.h,4,none⟩ v').cell? ⟨K.vb,j,none⟩=W.cell? ⟨K.vb,j,none⟩:=fun j=>tt.cell (q:=⟨K.vb,j,none⟩) a.l2 (fun e=>e.elim (fun e=>a.ne e.symm) (nb _ a.lv))
 have zf:∀i j,i<K.base→(W'.setCell ⟨K.h,4,none⟩ v').frozen? ⟨i,j,none⟩=W.frozen? ⟨i,j,none⟩:=fun i j hi=>(by simp:(W'.setCell ⟨K.h,4,none⟩ v').frozen? ⟨i,j,none⟩=W'.frozen? ⟨i,j,none⟩).trans (u'.frozen (q:=⟨i,j,none⟩) (Nat.lt_of_lt_of_le hi a.lb) (nb _ hi))
 obtain⟨x0,h1,_⟩:=a.cw
 refine⟨(c _ (by decide)).trans a.c0,(c _ (by decide)).trans a.c1,(c _ (by decide)).trans a.c2,(c _ (by decide)).trans a.c3,⟨v',World.cell?_setCell_same _ _ _ ((b 4).trans h1),h2.upto u fun k hk e=> ?_,fun k e=> ?_⟩,(c _ (by decide)).trans a.c5,(c _ (by decide)).trans a.c6,
  fun j hj=>(c _ (by omega)).trans (a.uj j hj),fun j hj=>(c _ (by omega)).trans (a.pin j hj),(c _ (by decide)).trans a.sp,fun t ht=>(f _).trans (a.vr t ht),fun t ht=>(f _).trans (a.vs t ht),fun t ht=> ?_,fun j=>(zf _ j a.lh).trans (a.z j),fun j=>(zf _ j a.lv).trans (a.zv j),a.lh,a.lv,a.ne,Nat.le_trans a.lb tt.size,fun i hi=>⟨(a.ex i hi).1,Nat.lt_of_lt_of_le (a.ex i hi).2 tt.size⟩,
  dB a.op tt fun q hq h0 e=>e.elim (a.ob q hq h0).2.1 (nb _ (a.ob q hq h0).1),a.ob⟩
 ·have:=(h2.uY k hk).1;have:=a.lh;omega
 ·rcases hk with hk | hk
  ·exact hv k (hk▸e)
  ·intro he
   have:=(a.ex k he).2
   rw [hk] at e
   simp at e
   omega
 ·obtain⟨ua,cp,h1,h2⟩:=a.vu t ht
  exact⟨ua,cp,(f _).trans h1,h2.upto tt a.lb fun i hi hh _ e=>e.elim hh (nb _ hi)⟩
variable {K:Gk} {g:Gm}
theorem vU (t:Nat) (w:World) (a:GM K g w) (ht:t<K.os.length):
  Calls Try.prog 194 #[.pointer (some ⟨K.h,0,none⟩), .int .i64 t] w fun e w'=>e= .returned (.int .i64 (uF g t))∧w=w':=by
 have c6:=a.c6
 obtain⟨ua,cp,cu,l1,l2,ub⟩:=a.vu t ht
 have l:=a.l
 have lv:=a.l2
 have t0:(0:Int)≤(t:Int):=by omega
 have t1:(t:Int) <(K.os.length:Int):=by omega
 unfold uF hd0
 clear a
 generalize K.os.length=n at c6 t1 ht
 cases hu:(g.v t).uses with
 | nil=>
  rw [hu] at cu
  clear ub l1 l2 hu
  go_enter Try.func194,Try.ntmps194
  go_wp2
  go_ret
  exact⟨rfl,rfl⟩
 | cons u us=>
  rw [hu] at cu ub l1
  obtain⟨b,off,rfl,l3,_,_,hc⟩:=ub (by simp)
  have c0:=hc 0 (by simp)
  simp only [List.getD_cons_zero,Nat.add_zero] at c0
  rw [List.length_cons] at cu l1
  generalize us.length=m at cu l1
  have m0:(0:Int) <(m:Int)+1:=by omega
  clear ub hc hu
  go_enter Try.func194,Try.ntmps194
  go_wp2
  go_ret
  exact⟨rfl,rfl⟩
theorem jD (r t:Nat) (w:World) (a:GM K g w) (hr:r<16) (ht:t<K.os.length):
  Calls Try.prog 160 #[.pointer (some ⟨K.h,0,none⟩), .int .i64 r, .int .i64 t] w fun e w'=>e= .returned (.tuple #[])∧GM K (g.has r t) w'∧ah (SG K) w w':=by
 have c6:=a.c6
 have ch:=a.uj r hr
 have zh:=a.z (7+r)
 have zv:=a.zv (t*3)
 have cr:=a.vr t ht
 have l:=a.l
 have lv:=a.l2
 have ne:=a.ne
 have t0:(0:Int)≤(t:Int):=by omega
 have t1:(t:Int) <(K.os.length:Int):=by omega
 have r0:(0:Int)≤(r:Int):=by omega
 have r1:(r:Int) <16:=by omega
 have A:=κ ((a.eY r t hr).eF t r ht)
 have U:=κ (((ah.refl (SG K) w).setCell (q:=⟨K.h,7+r,none⟩) (.inl (.inl rfl)) (.int .i64 t)).setCell (q:=⟨K.vb,t*3,none⟩) (.inl (.inr (.inl rfl))) (.int .i64 r))
 clear a
 generalize K.os.length=n at c6 t1 ht
 go_enter Try.func160,Try.ntmps160
 go_wp2
 go_end0
 exact⟨rfl,A.out,U.out⟩
variable {K:Gk} {g:Gm}
theorem aei:∃i,Try.prog.info? 22=some i∧i.zero=some (.int .u32 0)∧i.size=1∧i.bytes=4:=by
 have h:(Try.prog.info? 22).map (fun i=>(i.zero,i.size,i.bytes))=some (some (.int .u32 0),1,4):=by kernel_rfl
 obtain⟨i,hi,hz⟩:=Option.map_eq_some_iff.1 h
 simp only [Prod.mk.injEq] at hz
 exact⟨i,hi,hz.1,hz.2.1,hz.2.2⟩
theorem aej {ops:Array Oper} {rest:List Oper} {o:Oper} {a:Act} {Q:Exit→Act→World→Prop} {w:World} (hgd:o.guard=none) (s x:Operand)
  (ho:o.op= .call {callee:= .builtin .append,args:= #[s,x],argTypes:= #[26,26]})
  (base:Nat) (v:Value) (xs:List Int) (hs:a.eval s=v) (Yk:pz base v xs w) (qM:base≤w.heap.size)
  (g m c:Nat) (news:List Int) (hx:a.eval x= .slice (some ⟨g,0,none⟩) m c) (hl:news.length=m) (hc:∀j,j<m→w.cell? ⟨g,j,none⟩=some (.int .u32 (news.getD j 0))) (hb:xs.length+m≤17592186044416)
  (h:∀v' w',pz base v' (xs++news) w'→ah (fun i=>v.ownBlock=some i) w w'→(v'.ownBlock=v.ownBlock∨v'.ownBlock=some w.heap.size)→wpList Try.prog ops Q rest (a.put o.dst v') w'):wpList Try.prog ops Q (o::rest) a w:=by
 obtain⟨i,hi,hz,uX,Tf⟩:=aei
 have mX:(maxLen:Nat)=9223372036854775807:=rfl
 subst hl
 refine wpList_append_own_at w hgd s x 26 ho base 22 i (.int .u32 0) 1 4 Try.underlying26 hi hz uX Tf rfl Nat.one_pos v xs.length (xs.map (Value.int .u32)) hs Yk ⟨g,0,none⟩ news.length c (news.map (Value.int .u32)) hx (by simp) ?_ ?_ (by omega) (by omega) qM (fun v' w' hv hg _ hk=>h v' w' ?_ ⟨hg.os,hg.tape,hg.output,hg.size,fun k hk hn=>hg.block k hk (fun e=>hn e.symm)⟩ hk)
 ·intro j u hj
  rw [List.getElem?_map] at hj
  obtain⟨z,hz,rfl⟩:=Option.map_eq_some_iff.1 hj
  have bV:=(List.getElem?_eq_some_iff.1 hz).1
  rw [Addr.add_lit,Nat.zero_add,hc j bV,List.getD_eq_getElem?_getD,hz];rfl
 ·intro u hu
  obtain⟨z,_,rfl⟩:=List.mem_map.1 hu
  rfl
 ·unfold pz
  rw [List.map_append,List.length_append];exact hv
theorem yN (x:Cd) (h:aF x.op≠0):1≤(wd (aF x.op)).toNat∧(wd (aF x.op)).toNat≤3∧(iZ x).length=(wd (aF x.op)).toNat:=by
 unfold iZ
 have hle:=qU x.op
 generalize aF x.op=q at h hle
 have:1≤(wd q).toNat∧(wd q).toNat≤3:=by
  rcases(show q=1∨q=2∨q=3∨q=4∨q=5∨q=6∨q=7∨q=8∨q=9∨q=10∨q=11∨q=12∨q=13∨q=14∨q=15 by omega) with rfl | rfl | rfl | rfl | rfl | rfl | rfl | rfl | rfl | rfl | rfl | rfl | rfl | rfl | rfl<;>decide
 refine⟨this.1,this.2, ?_⟩
 rw [List.length_take]
 simp only [List.length_cons,List.length_nil]
 omega
theorem Ti {w:World} {q:Nat} {v k x:Int} {ok:Prop} {e:Ending} {w':World} (h:wK w q v k x ok e w') (ho:ok) (m3:(wd q).toNat≤3):∃g cap,e= .returned (.tuple #[.slice (some ⟨g,0,none⟩) (wd q).toNat cap, .int .i64 0])∧Below w.heap.size w w'∧
  ∀j,j<(wd q).toNat→w'.cell? ⟨g,j,none⟩=some (.int .u32 (([v,k,x].take (wd q).toNat).getD j 0)):=by
 obtain⟨b,⟨_,g,cap,he,_,_,_,k0,k1,k2⟩ | ⟨no,_⟩⟩:=h
 ·refine⟨g,cap,he,b,fun j hj=> ?_⟩
  have t:∀j,j<(wd q).toNat→([v,k,x].take (wd q).toNat).getD j 0= [v,k,x].getD j 0:=fun j hj=>by rw [List.getD_eq_getElem?_getD,List.getElem?_take,if_pos hj,←List.getD_eq_getElem?_getD]
  rw [t j hj]
  match j,hj with
  | 0,_=>exact k0
  | 1,h=>exact k1 (by omega)
  | 2,h=>exact k2 (by omega)
  | n+3,h=>omega
 ·exact absurd ho no
theorem dR (x:Cd) (w:World) (a:GM K g w) (hx:oL x) (hn:(dF g.xs).length≤1000000):
  Calls Try.prog 47 #[.pointer (some ⟨K.h,0,none⟩), .agg #[.int .i64 x.op, .int .i64 x.d, .int .i64 x.a, .int .i64 x.b, .int .i64 x.c, .int .i64 x.n, .int .u32 x.k, .int .u32 x.x]] w fun e w'=>e= .returned (.tuple #[])∧GM K (g.put x) w'∧ah (SG K) w w':=by
 have hq:=hx.q
 have q1:1≤aF x.op:=by omega
 have HE:=κ (fun w=>Sz (aF x.op) q1 (qU _) x.op x.d x.a x.b x.c x.n x.k x.x w rfl hx.op.1 hx.op.2)
 obtain⟨m1,m3,el⟩:=yN x hq
 have OK:=κ hx.e
 have EW:=κ (show iZ x= [dw x.op x.d x.a x.b x.c x.n,x.k,x.x].take (wd (aF x.op)).toNat from rfl)
 have WN:=κ (show dF (g.xs++ [x])=dF g.xs++iZ x by simp [dF])
 generalize aF x.op=q at HE m1 m3 el OK EW
 have a1:=a.alloc (.cells #[.int .i64 x.op, .int .i64 x.d, .int .i64 x.a, .int .i64 x.b, .int .i64 x.c, .int .i64 x.n, .int .u32 x.k, .int .u32 x.x] 108)
 have U:=κ ((ah.refl (SG K) w).alloc (.cells #[.int .i64 x.op, .int .i64 x.d, .int .i64 x.a, .int .i64 x.b, .int .i64 x.c, .int .i64 x.n, .int .u32 x.k, .int .u32 x.x] 108))
 have A:=κ a1
 have lh:=a.l
 clear a a1 hx hq q1
 go_enter Try.func47,Try.ntmps47
 go_upto_region 2 with(go_at_call 93;refine(HE.out _).mono ?_;rintro e w1 hE;obtain⟨gq,cq,rfl,b1,hc⟩:=Ti hE OK.out m3;clear hE)
 have A1:=A.out.quiet (ah.aG b1)
 have U1:=U.out.trans ((ah.aG (S:=fun _=>False) b1).mono (T:=SG K) fun _ _ h=>h.elim)
 obtain⟨v,c4,ow,hex⟩:=A1.cw
 have lb:=A1.lb
 have l:=A1.l
 have z4:=A1.z 4
 have A2:=κ A1
 clear A U b1 A1 HE OK
 have HC:=κ (show∀j,j<(wd q).toNat→w1.cell? ⟨gq,j,none⟩=some (.int .u32 ((iZ x).getD j 0)) from by rw [EW.out];exact hc)
 clear hc EW
 have WL:=κ hn
 clear hn
 go_wp2_with (at_builtin;refine aej rfl (.tmp 15) (.tmp 16) rfl K.base v (dF g.xs) rfl ow lb gq _ cq (iZ x) rfl el HC.out (by have:=WL.out;omega) (fun v' w2 yO u2 qF=> ?_);have hb4:¬v.ownBlock=some K.h:=(fun e=>by have:=(ow.uY _ e).1;have:=A2.out.lh;omega);have c4':=(u2.cell (q:=⟨K.h,4,none⟩) l hb4).trans c4;have z4':=(u2.frozen (q:=⟨K.h,4,none⟩) l hb4).trans z4;have l':=Nat.lt_of_lt_of_le l u2.size;have A3:=κ (A2.out.aeh x v v' ow hex u2 (by rw [WN.out];exact yO) qF);have U3:=κ ((U1.trans (u2.mono (T:=SG K) fun i _ e=> .inr (.inr ⟨(ow.uY i e).1,hex i e⟩))).setCell (q:=⟨K.h,4,none⟩) (.inl (.inl rfl)) v');obtain⟨ZI,n',c',rfl⟩:=yO.sl;clear hb4 c4 z4 l u2 yO qF A2 U1)
 go_end0
 exact⟨rfl,A3.out,U3.out⟩
variable {K:Gk} {g:Gm}
theorem I4 {w:World} (a:GM K g w) {t:Nat} (ht:t<K.os.length):∃b off,K.ao=some ⟨b,off,none⟩∧b<w.heap.size∧w.cell? ⟨b,off+t*7,none⟩=some (.int .i64 (jW K.os t))∧K.os.length≤K.cap:=by
 obtain⟨h1,h2,h3⟩:=a.op
 obtain⟨b,off,e,hb,hc⟩:=h3 (by omega)
 refine⟨b,off,e,hb, ?_,h1⟩
 have hg:K.os[t]?=some K.os[t]:=List.getElem?_eq_getElem ht
 unfold jW
 rw [hg]
 exact hc t _ hg 0 _ rfl
theorem v2c {w:World} (a:GM K g w) {t:Nat} {r s:Int} (ht:t<K.os.length) (hr:(g.v t).reg=r) (hs:(g.v t).aZ=s):w.cell? ⟨K.vb,t*3,none⟩=some (.int .i64 r)∧w.cell? ⟨K.vb,t*3+1,none⟩=some (.int .i64 s):=⟨hr▸a.vr t ht,hs▸a.vs t ht⟩
theorem Og (r sp:Int) (r0:0≤r) (r1:r<16) (s0:0≤sp) (s1:sp<2048):oL (qW r sp):=by
 refine⟨⟨by show(0:Int)≤9;decide,by show(9:Int) <256;decide⟩,by show aF 9≠0;decide, ?_⟩
 show dS (aF 9) 9 0 r 0 0 sp 0 0
 rw [show aF 9=13 by decide]
 simp [dS,hD,hA,hB,hC,nb,wd,hK,r0,r1,s0,s1]
theorem Tj (t r:Nat) (w:World) (a:GM K g w) (ht:t<K.os.length) (hr:r<16) (er:(g.v t).reg=r) (rV:iw K.os g t=true→0≤g.sp∧g.sp<2048) (hn:(dF g.xs).length≤1000000):
  Calls Try.prog 195 #[.pointer (some ⟨K.h,0,none⟩), .int .i64 t] w fun e w'=>e= .returned (.tuple #[])∧GM K (g.out K.os t) w'∧ah (SG K) w w':=by
 have NX:=κ (fun w a=>vU (K:=K) (g:=g) t w a ht)
 have t0:(0:Int)≤(t:Int):=by omega
 have t1:(t:Int) <(K.os.length:Int):=by omega
 have r0:(0:Int)≤(r:Int):=by omega
 have r1:(r:Int) <16:=by omega
 have c6:=a.c6
 have c3:=a.c3
 have l:=a.l
 have lv:=a.l2
 have cs:=a.vs t ht
 obtain⟨kb,ko,ke,kl,kc,Tn⟩:=I4 a ht
 rw [ke] at c3
 have abw:g.out K.os t=((g.lay K.os t).eY r (-1)).eF t (-1):=by unfold Gm.out;rw [er];rfl
 rw [abw]
 have A:=κ a
 have HT:=κ ht
 have HN:=κ hn
 have ER:=κ er
 have KE:=κ ke
 clear a abw hn er ke ht
 obtain⟨nx,I5⟩:∃nx,uF g t=nx:=⟨_,rfl⟩
 obtain⟨s,hs⟩:∃s,(g.v t).aZ=s:=⟨_,rfl⟩
 obtain⟨kd,hkd⟩:∃kd,jW K.os t=kd:=⟨_,rfl⟩
 rw [hs] at cs
 rw [hkd] at kc
 rw [I5] at NX
 have SE:Hid (iw K.os g t=(decide (nx≠1073741824)&&(decide (s<0)&&decide (kd≠1)))):=by unfold iw;rw [I5,hs,hkd];exact rfl
 have HS:=κ hs
 clear I5 hs hkd
 generalize hL:K.os.length=L at*
 by_cases hx:iw K.os g t=true
 ·obtain⟨s0,s1⟩:=rV hx
  have HP:=κ (show g.lay K.os t=((g.gI t g.sp).iD (g.sp+1)).put (qW (g.v t).reg g.sp) from by unfold Gm.lay;rw [if_pos hx])
  rw [SE.out] at hx
  simp only [Bool.and_eq_true,decide_eq_true_eq] at hx
  obtain⟨x1,x2,x3⟩:=hx
  have e1:(nx !=1073741824)=true:=by simpa using x1
  have e3:(kd !=1)=true:=by simpa using x3
  clear rV SE x1 x3
  go_enter Try.func195,Try.ntmps195
  go_upto_region 2 with(go_at_call 194;refine(NX.out _ A.out).mono ?_;rintro e w' ⟨rfl,rfl⟩)
  clear cs kc c3 c6
  have cp:=A.out.sp
  have cs:=A.out.vs t (hL▸HT.out)
  have zs:=A.out.zv (t*3+1)
  go_upto_region 3 with fail
  have a1:=A.out.gI t g.sp (hL▸HT.out)
  have U1:=(ah.refl (SG K) w).setCell (q:=⟨K.vb,t*3+1,none⟩) (.inl (.inr (.inl rfl))) (.int .i64 g.sp)
  clear cp cs zs
  generalize w.setCell ⟨K.vb,t*3+1,none⟩ (.int .i64 g.sp)=w1 at a1 U1⊢
  have cp:w1.cell? ⟨K.h,39,none⟩=some (.int .i64 g.sp):=a1.sp
  have zp:=a1.z 39
  have lp:=a1.l
  go_upto_region 4 with fail
  have a2:=a1.iD (g.sp+1)
  have U2:=U1.setCell (q:=⟨K.h,39,none⟩) (.inl (.inl rfl)) (.int .i64 (g.sp+1))
  clear cp zp lp a1 U1
  generalize w1.setCell ⟨K.h,39,none⟩ (.int .i64 (g.sp+1))=w2 at a2 U2⊢
  have PU:=fun w a=>dR (K:=K) (g:=(g.gI t g.sp).iD (g.sp+1)) (qW r g.sp) w a (Og r g.sp r0 r1 s0 s1) HN.out
  rw [ER.out] at HP
  have JI:t<K.os.length:=hL▸HT.out
  have v1:(((g.gI t g.sp).iD (g.sp+1)).v t).reg=r:=by simpa [Gm.gI,Gm.iD,aO] using ER.out
  have v2:(((g.gI t g.sp).iD (g.sp+1)).v t).aZ=g.sp:=by simp [Gm.gI,Gm.iD,aO]
  have v3:((((g.gI t g.sp).iD (g.sp+1)).put (qW r g.sp)).v t).reg=r:=v1
  have F0:=κ (v2c a2 JI v1 v2)
  have Fd:=κ (v2c a2.drew JI v1 v2)
  have v4:((((g.gI t g.sp).iD (g.sp+1)).put (qW r g.sp)).v t).aZ=g.sp:=v2
  have PU:=κ PU
  have A2:=κ a2
  have U2:=κ U2
  have lv:=a2.l2
  have V3:=κ v3
  have V4:=κ v4
  have Gh:=κ JI
  clear a2 v1 v2 v3 v4 JI
  generalize((g.gI t g.sp).iD (g.sp+1)).put (qW r g.sp)=g3 at HP PU V3 V4
  go_region_held3 (fun W=>W.cell? ⟨K.vb,t*3,none⟩=some (.int .i64 (r:Int))∧W.cell? ⟨K.vb,t*3+1,none⟩=some (.int .i64 g.sp)) (with_reducible (first | apply F0.out | apply Fd.out | apply F3.out))
   ((go_at_call 47;refine(PU.out _ A2.out.drew).mono ?_;rintro e w3 ⟨rfl,a3,u3⟩;have F3:=κ (v2c a3 Gh.out V3.out V4.out);have A3:=κ a3;have U3:=κ (U2.out.drew.trans u3);clear a3 u3))
  clear F0 Fd F3 A2 U2 PU lv
  go_upto_region 5 with fail
  have cr:w3.cell? ⟨K.vb,t*3,none⟩=some (.int .i64 (r:Int)):=by have:=A3.out.vr t Gh.out;rw [V3.out] at this;exact this
  have zh:=A3.out.z (7+r)
  have ch:=A3.out.uj r hr
  have lv:=A3.out.l2
  have lh:=A3.out.l
  go_region
  have a5:=(A3.out.eY r (-1) hr).drew
  have U5:=(U3.out.setCell (q:=⟨K.h,7+r,none⟩) (.inl (.inl rfl)) (.int .i64 (-1))).drew
  clear cr zh ch lh lv
  generalize(w3.setCell ⟨K.h,7+r,none⟩ (.int .i64 (-1))).drew=w5 at a5 U5⊢
  have cr:=a5.vr t Gh.out
  have zv:=a5.zv (t*3)
  have lv:=a5.l2
  go_wp2
  go_end0
  exact⟨rfl,by rw [HP.out];exact a5.eF t (-1) Gh.out,U5.setCell (q:=⟨K.vb,t*3,none⟩) (.inl (.inr (.inl rfl))) (.int .i64 (-1))⟩
 ·have HP:=κ (show g.lay K.os t=g from by unfold Gm.lay;rw [if_neg hx])
  have Gh:=κ (show t<K.os.length from hL▸HT.out)
  have U0:=κ (ah.refl (SG K) w)
  rw [SE.out] at hx
  clear rV SE
  by_cases x1:nx=1073741824
  ·have e1:(nx !=1073741824)=false:=by simpa using x1
   clear hx
   go_enter Try.func195,Try.ntmps195
   go_upto_region 5 with(go_at_call 194;refine(NX.out _ A.out).mono ?_;rintro e w' ⟨rfl,rfl⟩)
   clear cs kc c3 c6 lv
   have cr:w.cell? ⟨K.vb,t*3,none⟩=some (.int .i64 (r:Int)):=by have:=A.out.vr t Gh.out;rw [ER.out] at this;exact this
   have zh:=A.out.z (7+r)
   have ch:=A.out.uj r hr
   have lv:=A.out.l2
   have lh:=A.out.l
   go_region
   have a5:=(A.out.eY r (-1) hr).drew
   have U5:=(U0.out.setCell (q:=⟨K.h,7+r,none⟩) (.inl (.inl rfl)) (.int .i64 (-1))).drew
   clear cr zh ch lh lv
   generalize(w.setCell ⟨K.h,7+r,none⟩ (.int .i64 (-1))).drew=w5 at a5 U5⊢
   have cr:=a5.vr t Gh.out
   have zv:=a5.zv (t*3)
   have lv:=a5.l2
   go_wp2
   go_end0
   exact⟨rfl,by rw [HP.out];exact a5.eF t (-1) Gh.out,U5.setCell (q:=⟨K.vb,t*3,none⟩) (.inl (.inr (.inl rfl))) (.int .i64 (-1))⟩
  ·have e1:(nx !=1073741824)=true:=by simpa using x1
   by_cases x2:s<0
   ·have x3:kd=1:=Classical.byContradiction fun h=>hx (by simp [x1,x2,h])
    have e3:(kd !=1)=false:=by simpa using x3
    clear hx x3
    go_enter Try.func195,Try.ntmps195
    go_upto_region 5 with(go_at_call 194;refine(NX.out _ A.out).mono ?_;rintro e w' ⟨rfl,rfl⟩)
    clear cs kc c3 c6 lv
    have cr:w.cell? ⟨K.vb,t*3,none⟩=some (.int .i64 (r:Int)):=by have:=A.out.vr t Gh.out;rw [ER.out] at this;exact this
    have zh:=A.out.z (7+r)
    have ch:=A.out.uj r hr
    have lv:=A.out.l2
    have lh:=A.out.l
    go_region
    have a5:=(A.out.eY r (-1) hr).drew
    have U5:=(U0.out.setCell (q:=⟨K.h,7+r,none⟩) (.inl (.inl rfl)) (.int .i64 (-1))).drew
    clear cr zh ch lh lv
    generalize(w.setCell ⟨K.h,7+r,none⟩ (.int .i64 (-1))).drew=w5 at a5 U5⊢
    have cr:=a5.vr t Gh.out
    have zv:=a5.zv (t*3)
    have lv:=a5.l2
    go_wp2
    go_end0
    exact⟨rfl,by rw [HP.out];exact a5.eF t (-1) Gh.out,U5.setCell (q:=⟨K.vb,t*3,none⟩) (.inl (.inr (.inl rfl))) (.int .i64 (-1))⟩
   ·clear hx
    go_enter Try.func195,Try.ntmps195
    go_upto_region 5 with(go_at_call 194;refine(NX.out _ A.out).mono ?_;rintro e w' ⟨rfl,rfl⟩)
    clear cs kc c3 c6 lv
    have cr:w.cell? ⟨K.vb,t*3,none⟩=some (.int .i64 (r:Int)):=by have:=A.out.vr t Gh.out;rw [ER.out] at this;exact this
    have zh:=A.out.z (7+r)
    have ch:=A.out.uj r hr
    have lv:=A.out.l2
    have lh:=A.out.l
    go_region
    have a5:=(A.out.eY r (-1) hr).drew
    have U5:=(U0.out.setCell (q:=⟨K.h,7+r,none⟩) (.inl (.inl rfl)) (.int .i64 (-1))).drew
    clear cr zh ch lh lv
    generalize(w.setCell ⟨K.h,7+r,none⟩ (.int .i64 (-1))).drew=w5 at a5 U5⊢
    have cr:=a5.vr t Gh.out
    have zv:=a5.zv (t*3)
    have lv:=a5.l2
    go_wp2
    go_end0
    exact⟨rfl,by rw [HP.out];exact a5.eF t (-1) Gh.out,U5.setCell (q:=⟨K.vb,t*3,none⟩) (.inl (.inr (.inl rfl))) (.int .i64 (-1))⟩
variable {K:Gk} {g:Gm} {W W':World}
def iI (n:Nat):List Value:=List.replicate n (.bool false)
theorem Tq (n:Nat):(iI n).length=n:=by simp [iI]
theorem gW (w:World) (h:GM K g w) (ty:TypeId):
  (Builtin.clear_ #[79] ty #[.slice (some ⟨K.h,23,none⟩) 16 16]).run Try.prog w= .ok (.tuple #[]) (w.setCells K.h 23 (iI 16)):=by
 have hz:∀w,(zeroValue 4).run Try.prog w= .ok (.bool false) w:=fun w=>by kernel_rfl
 have gZ:=run_storeCells_cells (P:=Try.prog) K.h 23 (iI 16) 0 w (fun j hj=> ?_) (fun j hj=>h.z _) (fun v hv=> ?_)
 ·have e:(Builtin.zeroCells (Value.bool false).cells 16).toList=iI 16:=by kernel_rfl
  have hu:=run_underlying (P:=Try.prog) (w:=w) Try.underlying79
  rw [Nat.add_zero] at gZ
  simp only [Builtin.clear_,List.getElem?_toArray,List.getElem?_cons_zero,Sem.run_bind,hu,Result.andThen_ok,hz,e,gZ]
  rfl
 ·rw [Tq] at hj
  rw [Nat.add_zero,h.pin j hj];rfl
 ·unfold iI at hv
  rw [List.eq_of_mem_replicate hv];rfl
theorem GM.congr (a:GM K g W) {g':Gm} (h1:g'.xs=g.xs) (h2:g'.v=g.v) (h3:g'.holds=g.holds) (h4:∀j,j<16→g'.pin j=g.pin j) (h5:g'.sp=g.sp):GM K g' W:=
 ⟨a.c0,a.c1,a.c2,a.c3,by rw [h1];exact a.cw,a.c5,a.c6,by rw [h3];exact a.uj,fun j hj=>by rw [h4 j hj];exact a.pin j hj,by rw [h5];exact a.sp,by rw [h2];exact a.vr,by rw [h2];exact a.vs,by rw [h2];exact a.vu,a.z,a.zv,a.lh,a.lv,a.ne,a.lb,a.ex,a.op,a.ob⟩
theorem GM.Yl (m:Nat):∀ (g:Gm) (o:Nat) (W:World),GM K g W→o+m≤16→GM K {g with pin:=fun j=>if o≤j∧j<o+m then false else g.pin j} (W.setCells K.h (23+o) (iI m)):=by
 induction m with
 | zero=>
  intro g o W h _
  exact h.congr rfl rfl rfl (fun j _=>if_neg (by omega)) rfl
 | succ m ih=>
  intro g o W h ho
  have h1:=ih (g.jf o false) (o+1) _ (h.jf o false (by omega)) (by omega)
  rw [show 23+(o+1)=23+o+1 by omega] at h1
  refine h1.congr rfl rfl rfl (fun j _=> ?_) rfl
  show(if o≤j∧j<o+(m+1) then false else g.pin j)=if o+1≤j∧j<o+1+m then false else aO g.pin o false j
  unfold aO
  by_cases hj:j=o
  ·subst hj
   rw [if_pos (by omega),if_neg (by omega),if_pos rfl]
  ·rw [if_neg hj]
   by_cases hr:o+1≤j∧j<o+1+m
   ·rw [if_pos hr,if_pos (by omega)]
   ·rw [if_neg hr,if_neg (by omega)]
theorem GM.au (a:GM K g W):GM K g.au (W.setCells K.h 23 (iI 16)):=
 (GM.Yl 16 g 0 W a (by omega)).congr rfl rfl rfl (fun j hj=>by show false=_;simp [hj]) rfl
theorem ah.setCells {S:Nat→Prop} {a:World} {p:Nat} (hp:S p) (us:List Value):∀ (w:World) (at_:Nat),ah S a w→ah S a (w.setCells p at_ us):=by
 induction us with
 | nil=>exact fun w _ h=>h
 | cons b bs ih=>exact fun w at_ h=>ih _ (at_+1) (h.setCell (q:=⟨p,at_,none⟩) (.inl hp) b)
theorem gX (p:Nat) (w:World):(Instr.sliceAt 100 (.pointer (some ⟨p,23,none⟩)) none none none).run Try.prog w= .ok (.slice (some ⟨p,23,none⟩) 16 16) w:=by
 have f1:Try.prog.arrayLen 100=16:=by kernel_rfl
 have f2:Try.prog.underlying 100=some (.array (Try.prog.arrayLen 100) (Try.prog.elem 100)):=by kernel_rfl
 have f3:Try.prog.elem 100=4:=by kernel_rfl
 have f4:(sizeOf 4).run Try.prog w= .ok 1 w:=by kernel_rfl
 rw [run_sliceAt_array_all w 100 ⟨p,23,none⟩ f2,f3,f4,f1]
 simp only [Result.andThen,slicedAt]
 rw [if_neg (by omega)]
 rfl
def Bx (b:Nat) (X:Array Value) (w:World):Prop:=b<w.heap.size∧(∀j v,X[j]?=some v→w.cell? ⟨b,j,none⟩=some v)∧∀j,w.frozen? ⟨b,j,none⟩=false
theorem Bx.upto {b:Nat} {X:Array Value} {S:Nat→Prop} (a:Bx b X W) (u:ah S W W') (hs:¬S b):Bx b X W':=
 ⟨Nat.lt_of_lt_of_le a.1 u.size,fun j v hj=>(u.cell (q:=⟨b,j,none⟩) a.1 hs).trans (a.2.1 j v hj),fun j=>(u.frozen (q:=⟨b,j,none⟩) a.1 hs).trans (a.2.2 j)⟩
theorem Bx.new (w:World) (X:Array Value) (t:TypeId):Bx w.heap.size X (w.alloc (.cells X t)):=
 ⟨by simp,fun j v hj=>by rw [cell_of_row _ w.heap.size j _ _ _ (heap_alloc_new w _)];exact hj,fun j=>frozen_of_row _ _ j _ _ (heap_alloc_new w _)⟩
def Gk.add (K:Gk) (B:Nat):Gk:={K with ex:=fun i=>K.ex i∨(B≤i∧i<B+2)}
theorem GM.add (a:GM K g W) (u:ah (fun _=>False) W W') (h:W.heap.size+2≤W'.heap.size):GM (K.add W.heap.size) g W':=by
 have b:=a.quiet u
 have lb:=a.lb
 refine⟨b.c0,b.c1,b.c2,b.c3, ?_,b.c5,b.c6,b.uj,b.pin,b.sp,b.vr,b.vs,b.vu,b.z,b.zv,b.lh,b.lv,b.ne,b.lb,fun i hi=> ?_,b.op,b.ob⟩
 ·obtain⟨v,h1,h2,h3⟩:=a.cw
  refine⟨v,(u.cell (q:=⟨K.h,4,none⟩) a.l id).trans h1,h2.upto u fun _ _=>id,fun k hk he=> ?_⟩
  rcases he with he | he
  ·exact h3 k hk he
  ·have:=(h2.uY k hk).2;omega
 ·rcases hi with hi | hi
  ·exact b.ex i hi
  ·exact⟨by show K.base≤i;omega,by omega⟩
theorem GM.drop {B:Nat} (a:GM (K.add B) g W):GM K g W:=
 ⟨a.c0,a.c1,a.c2,a.c3,by obtain⟨v,h1,h2,h3⟩:=a.cw;exact⟨v,h1,h2,fun k hk he=>h3 k hk (.inl he)⟩,a.c5,a.c6,a.uj,a.pin,a.sp,a.vr,a.vs,a.vu,a.z,a.zv,a.lh,a.lv,a.ne,a.lb,fun i hi=>a.ex i (.inl hi),a.op,a.ob⟩
theorem SG.drop {B:Nat} (u:ah (SG (K.add B)) W W'):ah (SG K) W W':=u.mono fun i _ h=>by
 rcases h with h | h | h
 ·exact .inl h
 ·exact .inr (.inl h)
 ·exact .inr (.inr ⟨h.1,fun e=>h.2 (.inl e)⟩)
theorem SG.box {B i:Nat} (a:K.h<K.base) (b:K.vb<K.base) (hB:K.base≤B) (hi:B≤i∧i<B+2):¬SG (K.add B) i:=by
 rintro(h | h | h)
 ·have:i=K.h:=h
  omega
 ·have:i=K.vb:=h
  omega
 ·exact h.2 (.inr hi)
def Gk.ad (K:Gk) (F:Nat→Prop):Gk:={K with ex:=fun i=>K.ex i∨F i}
theorem GM.ad (a:GM K g W) (u:ah (fun _=>False) W W') (F:Nat→Prop) (h:∀i,F i→W.heap.size≤i∧i<W'.heap.size):GM (K.ad F) g W':=by
 have b:=a.quiet u
 have lb:=a.lb
 refine⟨b.c0,b.c1,b.c2,b.c3, ?_,b.c5,b.c6,b.uj,b.pin,b.sp,b.vr,b.vs,b.vu,b.z,b.zv,b.lh,b.lv,b.ne,b.lb,fun i hi=> ?_,b.op,b.ob⟩
 ·obtain⟨v,h1,h2,h3⟩:=a.cw
  refine⟨v,(u.cell (q:=⟨K.h,4,none⟩) a.l id).trans h1,h2.upto u fun _ _=>id,fun k hk he=> ?_⟩
  rcases he with he | he
  ·exact h3 k hk he
  ·have:=(h2.uY k hk).2;have:=h k he;omega
 ·rcases hi with hi | hi
  ·exact b.ex i hi
  ·exact⟨by show K.base≤i;have:=h i hi;omega,(h i hi).2⟩
theorem GM.Ez {F:Nat→Prop} (a:GM (K.ad F) g W):GM K g W:=
 ⟨a.c0,a.c1,a.c2,a.c3,by obtain⟨v,h1,h2,h3⟩:=a.cw;exact⟨v,h1,h2,fun k hk he=>h3 k hk (.inl he)⟩,a.c5,a.c6,a.uj,a.pin,a.sp,a.vr,a.vs,a.vu,a.z,a.zv,a.lh,a.lv,a.ne,a.lb,fun i hi=>a.ex i (.inl hi),a.op,a.ob⟩
theorem SG.Ez {F:Nat→Prop} (u:ah (SG (K.ad F)) W W'):ah (SG K) W W':=u.mono fun i _ h=>by
 rcases h with h | h | h
 ·exact .inl h
 ·exact .inr (.inl h)
 ·exact .inr (.inr ⟨h.1,fun e=>h.2 (.inl e)⟩)
theorem SG.no {i:Nat} (a:K.h<K.base) (b:K.vb<K.base) (hB:K.base≤i) (hi:K.ex i):¬SG K i:=by
 rintro(h | h | h)
 ·omega
 ·omega
 ·exact h.2 hi
end Go.Proofs.Ytcjcmnnhmajocab.Gn
