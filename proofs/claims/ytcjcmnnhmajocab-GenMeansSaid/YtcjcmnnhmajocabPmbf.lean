import Derived.Deep.RegionLaw
import Derived.Test.YtcjcmnnhmajocabPmbe
set_option linter.unusedVariables false
set_option linter.unusedSimpArgs false
set_option maxRecDepth 100000
set_option maxHeartbeats 16000000
namespace Go.Proofs.Ytcjcmnnhmajocab.Gn
open Go.RowKit Kt Ic Hr Ho Me
def uJ (base:Nat) (v:Value) (us:List Int) (w:World):Prop:=w.ownsRow base 3 1 v us.length (us.map (Value.int .i64))
theorem uJ.upto {B:Nat} {v:Value} {us:List Int} {w w':World} {S:Nat→Prop} (h:uJ B v us w) (u:ah S w w') (hs:∀k,v.ownBlock=some k→¬S k):uJ B v us w':=by
 obtain⟨h1,h⟩:=h
 refine⟨h1, ?_⟩
 rcases h with h | ⟨g,cap,cur,e1,e2,e3,e4⟩
 ·exact .inl h
 ·exact .inr ⟨g,cap,cur,e1,e2,(u.block g (Array.getElem?_eq_some_iff.1 e3).1 (hs g (by rw [e1];rfl))).trans e3,e4⟩
theorem uJ.uY {B:Nat} {v:Value} {us:List Int} {w:World} (h:uJ B v us w):∀k,v.ownBlock=some k→B≤k∧k<w.heap.size:=by
 intro k hk
 rcases h.2 with⟨e,_⟩ | ⟨g,cap,cur,e1,e2,e3,_⟩
 ·rw [e] at hk;exact nomatch hk
 ·rw [e1] at hk
  obtain rfl:g=k:=by simpa [Value.ownBlock] using hk
  exact⟨e2,(Array.getElem?_eq_some_iff.1 e3).1⟩
theorem uJ.form {B:Nat} {v:Value} {us:List Int} {W:World} (h:uJ B v us W):∃ao cap,v= .slice ao us.length cap∧us.length≤cap∧cap≤maxLen∧(0<us.length→∃b,ao=some ⟨b,0,none⟩∧v.ownBlock=some b∧∀j,j<us.length→W.cell? ⟨b,j,none⟩=some (.int .i64 (us.getD j 0))):=by
 rcases h.2 with⟨rfl,hn⟩ | ⟨g,c1,cur,rfl,hg,mD,hle,mX,uX,CJ⟩
 ·have hn':us.length=0:=hn
  rw [hn']
  exact⟨none,0,rfl,by omega,by omega,fun h=>absurd h (by omega)⟩
 ·refine⟨_,c1,rfl,hle,mX,fun _=>⟨g,rfl,rfl,fun j hj=> ?_⟩⟩
  rw [cell_of_row W g j _ _ _ mD,←Array.getElem?_toList]
  have h2:(cur.toList.take (us.length*1))[j]?=(us.map (Value.int .i64))[j]?:=by rw [CJ]
  rw [Nat.mul_one,List.getElem?_take,if_pos hj,List.getElem?_map] at h2
  rw [h2,List.getElem?_eq_getElem hj,List.getD_eq_getElem?_getD,List.getElem?_eq_getElem hj]
  rfl
theorem aez:∃i,Try.prog.info? 3=some i∧i.zero=some (.int .i64 0)∧i.size=1∧i.bytes=8:=by
 have h:(Try.prog.info? 3).map (fun i=>(i.zero,i.size,i.bytes))=some (some (.int .i64 0),1,8):=by kernel_rfl
 obtain⟨i,hi,hz⟩:=Option.map_eq_some_iff.1 h
 simp only [Prod.mk.injEq] at hz
 exact⟨i,hi,hz.1,hz.2.1,hz.2.2⟩
theorem Oo {ops:Array Oper} {o:Oper} {a:Act} {w:World} {K:Act→World→Prop} {Q:Exit→Act→World→Prop} {E:Prop}
  (hg:o.guard=none) (s x:Operand) (Cj:o.op=Op.call {callee:=Callee.builtin Builtin.append,args:= #[s,x],argTypes:= #[39,39]})
  (base:Nat) (v:Value) (xs:List Int) (hs:a.eval s=v) (Yk:uJ base v xs w) (qM:base≤w.heap.size) (g c:Nat) (x0:Int) (hx:a.eval x= .slice (some ⟨g,0,none⟩) 1 c) (hc:w.cell? ⟨g,0,none⟩=some (.int .i64 x0)) (hb:xs.length+1≤17592186044416)
  (hK:∀v' w',uJ base v' (xs++ [x0]) w'→ah (fun i=>v.ownBlock=some i) w w'→(v'.ownBlock=v.ownBlock∨v'.ownBlock=some w.heap.size)→K (a.put o.dst v') w'):
  if Region.wanted o (yielded ops a.tmps)=true then Oper.wp Try.prog o a w K Q else E:=by
 have hw:Region.wanted o (yielded ops a.tmps)=true:=by simp [Region.wanted,hg]
 rw [if_pos hw]
 obtain⟨i,hi,hz,uX,Tf⟩:=aez
 have mX:(maxLen:Nat)=9223372036854775807:=rfl
 have e1:∀j u, [Value.int .i64 x0][j]?=some u→w.cell? ((⟨g,0,none⟩:Addr).add j)=some u:=by
  intro j u hj
  match j,hj with
  | 0,hj=>simp only [List.getElem?_cons_zero,Option.some.injEq] at hj;subst hj;exact hc
  | j+1,hj=>simp at hj
 have e2:∀u∈ [Value.int .i64 x0],u.oneCell'=true:=by
  intro u hu
  simp only [List.mem_singleton] at hu
  subst hu;rfl
 obtain⟨v',w',qB,r1,r2,_,r4⟩:=run_append_own_at (P:=Try.prog) w base 39 o.type 3 i (.int .i64 0) 1 8 Try.underlying39 hi hz uX Tf rfl Nat.one_pos v xs.length (xs.map (Value.int .i64)) Yk ⟨g,0,none⟩ 1 c [.int .i64 x0] rfl e1 e2 (by omega) (by omega) qM
 unfold Oper.wp
 simp [execOp,Cj,resolve,invoke,builtin,hs,hx,qB,Result.andThen]
 refine hK v' w' ?_ ⟨r2.os,r2.tape,r2.output,r2.size,fun k hk hn=>r2.block k hk (fun e=>hn e.symm)⟩ r4
 unfold uJ
 rw [List.map_append,List.length_append];exact r1
structure GU (K:Gk) (q j:Nat) (f:Nat→List Int) (uv:Nat→Value) (W:World):Prop where
 c0:W.cell? ⟨K.h,0,none⟩=some (.int .u32 K.pc)
 c1:W.cell? ⟨K.h,1,none⟩=some (.int .i64 K.aC)
 c2:W.cell? ⟨K.h,2,none⟩=some (.int .i64 K.bg)
 c3:W.cell? ⟨K.h,3,none⟩=some (.slice K.ao K.os.length K.cap)
 c4:W.cell? ⟨K.h,4,none⟩=some (.slice none 0 0)
 c5:W.cell? ⟨K.h,5,none⟩=some (.int .i64 K.R)
 c6:W.cell? ⟨K.h,6,none⟩=some (.slice (some ⟨K.vb,0,none⟩) K.os.length K.os.length)
 uj:∀j,j<16→W.cell? ⟨K.h,7+j,none⟩=some (.int .i64 (if j<q then-1 else 0))
 pin:∀j,j<16→W.cell? ⟨K.h,23+j,none⟩=some (.bool false)
 sp:W.cell? ⟨K.h,39,none⟩=some (.int .i64 0)
 vr:∀t,t<K.os.length→W.cell? ⟨K.vb,t*3,none⟩=some (.int .i64 (if t<j then-1 else 0))
 vs:∀t,t<K.os.length→W.cell? ⟨K.vb,t*3+1,none⟩=some (.int .i64 (if t<j then-1 else 0))
 vu:∀t,t<K.os.length→W.cell? ⟨K.vb,t*3+2,none⟩=some (uv t)
 ow:∀t,t<K.os.length→uJ K.base (uv t) (f t) W
 ap:∀t t',t<K.os.length→t'<K.os.length→t≠t'→∀k,(uv t).ownBlock=some k→(uv t').ownBlock≠some k
 z:∀j,W.frozen? ⟨K.h,j,none⟩=false
 zv:∀j,W.frozen? ⟨K.vb,j,none⟩=false
 lh:K.h<K.base
 lv:K.vb<K.base
 ne:K.h≠K.vb
 lb:K.base≤W.heap.size
 op:rQ K.os K.ao K.cap W
 ob:∀q,K.ao=some q→0<K.os.length→q.block<K.base∧q.block≠K.h∧q.block≠K.vb
 fu:∀t,j≤t→f t= []∧uv t= .slice none 0 0
variable {K:Gk} {q j:Nat} {f:Nat→List Int} {uv:Nat→Value} {W W':World}
theorem GU.l (a:GU K q j f uv W):K.h<W.heap.size:=Nat.lt_of_lt_of_le a.lh a.lb
theorem GU.l2 (a:GU K q j f uv W):K.vb<W.heap.size:=Nat.lt_of_lt_of_le a.lv a.lb
theorem GU.upto {S:Nat→Prop} (a:GU K q j f uv W) (u:ah S W W') (hS:∀i,S i→W.heap.size≤i):GU K q j f uv W':=by
 have hb:=a.lb
 have no:∀i,i<W.heap.size→¬S i:=fun i hi hs=>by have:=hS i hs;omega
 have e:∀j,W'.cell? ⟨K.h,j,none⟩=W.cell? ⟨K.h,j,none⟩:=fun j=>u.cell (q:=⟨K.h,j,none⟩) a.l (no _ a.l)
 have g:∀j,W'.cell? ⟨K.vb,j,none⟩=W.cell? ⟨K.vb,j,none⟩:=fun j=>u.cell (q:=⟨K.vb,j,none⟩) a.l2 (no _ a.l2)
 exact⟨(e _).trans a.c0,(e _).trans a.c1,(e _).trans a.c2,(e _).trans a.c3,(e _).trans a.c4,(e _).trans a.c5,(e _).trans a.c6,fun j hj=>(e _).trans (a.uj j hj),fun j hj=>(e _).trans (a.pin j hj),(e _).trans a.sp,fun j hj=>(g _).trans (a.vr j hj),fun j hj=>(g _).trans (a.vs j hj),fun j hj=>(g _).trans (a.vu j hj),
  fun t ht=>(a.ow t ht).upto u fun k hk=>no k ((a.ow t ht).uY k hk).2,a.ap,fun j=>(u.frozen (q:=⟨K.h,j,none⟩) a.l (no _ a.l)).trans (a.z j),fun j=>(u.frozen (q:=⟨K.vb,j,none⟩) a.l2 (no _ a.l2)).trans (a.zv j),a.lh,a.lv,a.ne,Nat.le_trans hb u.size,dB a.op u fun q' hq h0=>no _ (Nat.lt_of_lt_of_le (a.ob q' hq h0).1 hb),a.ob,a.fu⟩
theorem GU.reg (a:GU K q j f uv W) (hq:q<16):GU K (q+1) j f uv (W.setCell ⟨K.h,7+q,none⟩ (.int .i64 (-1))):=by
 have u:ah (fun i=>i=K.h) W (W.setCell ⟨K.h,7+q,none⟩ (.int .i64 (-1))):=(ah.refl (fun i=>i=K.h) W).setCell (q:=⟨K.h,7+q,none⟩) (.inl rfl) _
 have c:∀ {i:Nat} {x:Value},W.cell? ⟨K.h,i,none⟩=some x→i≠7+q→(W.setCell ⟨K.h,7+q,none⟩ (.int .i64 (-1))).cell? ⟨K.h,i,none⟩=some x:=fun hx hn=>(HM.aP hn).trans hx
 have g:∀i,(W.setCell ⟨K.h,7+q,none⟩ (.int .i64 (-1))).cell? ⟨K.vb,i,none⟩=W.cell? ⟨K.vb,i,none⟩:=fun i=>u.cell (q:=⟨K.vb,i,none⟩) a.l2 (fun e=>a.ne e.symm)
 refine⟨c a.c0 (by omega),c a.c1 (by omega),c a.c2 (by omega),c a.c3 (by omega),c a.c4 (by omega),c a.c5 (by omega),c a.c6 (by omega),fun r hr=> ?_,fun j hj=>c (a.pin j hj) (by omega),c a.sp (by omega),fun t ht=>(g _).trans (a.vr t ht),fun t ht=>(g _).trans (a.vs t ht),fun t ht=>(g _).trans (a.vu t ht),
  fun t ht=>(a.ow t ht).upto u fun k hk e=>by have:=((a.ow t ht).uY k hk).1;have:=a.lh;omega,a.ap,fun j=>by simpa using a.z j,fun j=>by simpa using a.zv j,a.lh,a.lv,a.ne,by simpa using a.lb,dB a.op u fun q' hq h0=>(a.ob q' hq h0).2.1,a.ob,a.fu⟩
 by_cases e:r=q
 ·rw [e,if_pos (by omega)]
  exact World.cell?_setCell_same _ _ _ (a.uj q hq)
 ·rw [c (a.uj r hr) (by omega)]
  congr 2
  by_cases h2:r<q
  ·rw [if_pos h2,if_pos (by omega)]
  ·rw [if_neg h2,if_neg (by omega)]
theorem GU.val (a:GU K q j f uv W) (hj:j<K.os.length):GU K q (j+1) f uv (((W.setCell ⟨K.vb,j*3,none⟩ (.int .i64 (-1))).setCell ⟨K.vb,j*3+1,none⟩ (.int .i64 (-1))).setCell ⟨K.vb,j*3+2,none⟩ (.slice none 0 0)):=by
 have u:ah (fun i=>i=K.vb) W (((W.setCell ⟨K.vb,j*3,none⟩ (.int .i64 (-1))).setCell ⟨K.vb,j*3+1,none⟩ (.int .i64 (-1))).setCell ⟨K.vb,j*3+2,none⟩ (.slice none 0 0)):=
  (((ah.refl (fun i=>i=K.vb) W).setCell (q:=⟨K.vb,j*3,none⟩) (.inl rfl) _).setCell (q:=⟨K.vb,j*3+1,none⟩) (.inl rfl) _).setCell (q:=⟨K.vb,j*3+2,none⟩) (.inl rfl) _
 have e:∀i,(((W.setCell ⟨K.vb,j*3,none⟩ (.int .i64 (-1))).setCell ⟨K.vb,j*3+1,none⟩ (.int .i64 (-1))).setCell ⟨K.vb,j*3+2,none⟩ (.slice none 0 0)).cell? ⟨K.h,i,none⟩=W.cell? ⟨K.h,i,none⟩:=fun i=>u.cell (q:=⟨K.h,i,none⟩) a.l a.ne
 have c1:∀ {W:World} {i k:Nat} {v x:Value},W.cell? ⟨K.vb,i,none⟩=some x→i≠k→(W.setCell ⟨K.vb,k,none⟩ v).cell? ⟨K.vb,i,none⟩=some x:=fun hx hn=>(HM.aP hn).trans hx
 have fe:uv j= .slice none 0 0:=(a.fu j (Nat.le_refl _)).2
 refine⟨(e _).trans a.c0,(e _).trans a.c1,(e _).trans a.c2,(e _).trans a.c3,(e _).trans a.c4,(e _).trans a.c5,(e _).trans a.c6,fun j hj=>(e _).trans (a.uj j hj),fun j hj=>(e _).trans (a.pin j hj),(e _).trans a.sp,fun t ht=> ?_,fun t ht=> ?_,fun t ht=> ?_,
  fun t ht=>(a.ow t ht).upto u fun k hk e=>by have:=((a.ow t ht).uY k hk).1;have:=a.lv;omega,a.ap,fun j=>by simpa using a.z j,fun j=>by simpa using a.zv j,a.lh,a.lv,a.ne,by simpa using a.lb,dB a.op u fun q' hq h0=>(a.ob q' hq h0).2.2,a.ob,fun t ht=>a.fu t (by omega)⟩
 ·by_cases h:t=j
  ·rw [h,if_pos (by omega)]
   exact c1 (c1 (World.cell?_setCell_same _ _ _ (a.vr j hj)) (by omega)) (by omega)
  ·rw [c1 (c1 (c1 (a.vr t ht) (by omega)) (by omega)) (by omega)]
   congr 2
   by_cases h2:t<j
   ·rw [if_pos h2,if_pos (by omega)]
   ·rw [if_neg h2,if_neg (by omega)]
 ·by_cases h:t=j
  ·rw [h,if_pos (by omega)]
   exact c1 (World.cell?_setCell_same _ _ _ (c1 (a.vs j hj) (by omega))) (by omega)
  ·rw [c1 (c1 (c1 (a.vs t ht) (by omega)) (by omega)) (by omega)]
   congr 2
   by_cases h2:t<j
   ·rw [if_pos h2,if_pos (by omega)]
   ·rw [if_neg h2,if_neg (by omega)]
 ·by_cases h:t=j
  ·rw [h,fe]
   exact World.cell?_setCell_same _ _ _ (c1 (c1 (a.vu j hj) (by omega)) (by omega))
  ·exact c1 (c1 (c1 (a.vu t ht) (by omega)) (by omega)) (by omega)
theorem GU.app (a:GU K q j f uv W) {t:Nat} (ht:t<K.os.length) (hj:t<j) {x:Int} {v':Value} (u:ah (fun i=>(uv t).ownBlock=some i) W W') (ow:uJ K.base v' (f t++ [x]) W') (hk:v'.ownBlock=(uv t).ownBlock∨v'.ownBlock=some W.heap.size):
  GU K q j (aO f t (f t++ [x])) (aO uv t v') (W'.setCell ⟨K.vb,t*3+2,none⟩ v'):=by
 have nb:∀i,i<K.base→¬ (uv t).ownBlock=some i:=fun i hi e=>by have:=((a.ow t ht).uY i e).1;omega
 have u2:ah (fun i=>i=K.vb) W' (W'.setCell ⟨K.vb,t*3+2,none⟩ v'):=(ah.refl (fun i=>i=K.vb) W').setCell (q:=⟨K.vb,t*3+2,none⟩) (.inl rfl) v'
 have uu:ah (fun i=>(uv t).ownBlock=some i∨i=K.vb) W (W'.setCell ⟨K.vb,t*3+2,none⟩ v'):=(u.mono fun _ _ h=> .inl h).trans (u2.mono fun _ _ h=> .inr h)
 have e:∀i,(W'.setCell ⟨K.vb,t*3+2,none⟩ v').cell? ⟨K.h,i,none⟩=W.cell? ⟨K.h,i,none⟩:=fun i=>uu.cell (q:=⟨K.h,i,none⟩) a.l (fun h=>h.elim (nb _ a.lh) a.ne)
 have g:∀i,W'.cell? ⟨K.vb,i,none⟩=W.cell? ⟨K.vb,i,none⟩:=fun i=>u.cell (q:=⟨K.vb,i,none⟩) a.l2 (nb _ a.lv)
 have c1:∀ {i:Nat} {x:Value},W.cell? ⟨K.vb,i,none⟩=some x→i≠t*3+2→(W'.setCell ⟨K.vb,t*3+2,none⟩ v').cell? ⟨K.vb,i,none⟩=some x:=fun hx hn=>(HM.aP hn).trans ((g _).trans hx)
 have zf:∀i j,i<K.base→(W'.setCell ⟨K.vb,t*3+2,none⟩ v').frozen? ⟨i,j,none⟩=W.frozen? ⟨i,j,none⟩:=fun i j hi=>(by simp:(W'.setCell ⟨K.vb,t*3+2,none⟩ v').frozen? ⟨i,j,none⟩=W'.frozen? ⟨i,j,none⟩).trans (u.frozen (q:=⟨i,j,none⟩) (Nat.lt_of_lt_of_le hi a.lb) (nb _ hi))
 refine⟨(e _).trans a.c0,(e _).trans a.c1,(e _).trans a.c2,(e _).trans a.c3,(e _).trans a.c4,(e _).trans a.c5,(e _).trans a.c6,fun j hj=>(e _).trans (a.uj j hj),fun j hj=>(e _).trans (a.pin j hj),(e _).trans a.sp,fun t ht=>c1 (a.vr t ht) (by omega),fun t ht=>c1 (a.vs t ht) (by omega),fun t' JI=> ?_,fun t' JI=> ?_,fun t1 t2 h1 h2 dU k xK uD=> ?_,
  fun j=>(zf _ j a.lh).trans (a.z j),fun j=>(zf _ j a.lv).trans (a.zv j),a.lh,a.lv,a.ne,Nat.le_trans a.lb uu.size,dB a.op uu fun q' hq h0 h=>h.elim (nb _ (a.ob q' hq h0).1) (a.ob q' hq h0).2.2,a.ob,fun t' h=> ?_⟩
 ·by_cases h:t'=t
  ·rw [h,show aO uv t v' t=v' from if_pos rfl]
   exact World.cell?_setCell_same _ _ _ ((g _).trans (a.vu t ht))
  ·rw [show aO uv t v' t'=uv t' from if_neg h]
   exact c1 (a.vu t' JI) (by omega)
 ·by_cases h:t'=t
  ·rw [h,show aO uv t v' t=v' from if_pos rfl,show aO f t (f t++ [x]) t=f t++ [x] from if_pos rfl]
   exact ow.upto u2 fun k hk e=>by have:=(ow.uY k hk).1;have:=a.lv;omega
  ·rw [show aO uv t v' t'=uv t' from if_neg h,show aO f t (f t++ [x]) t'=f t' from if_neg h]
   exact(a.ow t' JI).upto uu fun k hk e=>e.elim (a.ap t' t JI ht h k hk) (fun e=>by have:=((a.ow t' JI).uY k hk).1;have:=a.lv;omega)
 ·have fresh:∀t',t'<K.os.length→(uv t').ownBlock≠some W.heap.size:=fun t' h e=>by have:=((a.ow t' h).uY _ e).2;omega
  by_cases e1:t1=t
  ·have e2:t2≠t:=fun h=>dU (e1.trans h.symm)
   rw [e1,show aO uv t v' t=v' from if_pos rfl] at xK
   rw [show aO uv t v' t2=uv t2 from if_neg e2] at uD
   rcases hk with hk | hk
   ·exact a.ap t t2 ht h2 (fun h=>e2 h.symm) k (hk▸xK) uD
   ·rw [hk] at xK;obtain rfl:=Option.some.inj xK;exact fresh t2 h2 uD
  ·rw [show aO uv t v' t1=uv t1 from if_neg e1] at xK
   by_cases e2:t2=t
   ·rw [e2,show aO uv t v' t=v' from if_pos rfl] at uD
    rcases hk with hk | hk
    ·exact a.ap t1 t h1 ht e1 k xK (hk▸uD)
    ·rw [hk] at uD;obtain rfl:=Option.some.inj uD;exact fresh t1 h1 xK
   ·rw [show aO uv t v' t2=uv t2 from if_neg e2] at uD
    exact a.ap t1 t2 h1 h2 dU k xK uD
 ·rw [show aO uv t v' t'=uv t' from if_neg (by omega),show aO f t (f t++ [x]) t'=f t' from if_neg (by omega)]
  exact a.fu t' h
structure Oq (os:List cZ) (R:Nat) (g:Gm) (i:Nat) (o:cZ):Prop where
 hI:∀j,j<(tk o).length→∃t:Nat,(tk o).getD j 0=t∧I9 os R (Gm.ins os R ((tk o).take j) g.au).2 t
 hn:∀j,j≤(tk o).length→(dF (Gm.ins os R ((tk o).take j) g.au).2.xs).length≤999000
 lW:0≤o.w
 xY:o.w<16
 hG:gv o.k=true→o.k≠1→∃d,TT os R ((Gm.ins os R (tk o) g.au).2.used i (tk o)) o (Gm.ins os R (tk o) g.au).1 d
 hX:gv o.k=false→oL (jc o ((Gm.ins os R (tk o) g.au).1.getD 0 0) ((Gm.ins os R (tk o) g.au).1.getD 1 0))
theorem Ot (os:List cZ) (i m t:Nat) (hm:m<(tk (opAt os i)).length) (ht:(tk (opAt os i)).getD m 0=t):oM os i (m+1)=aO (oM os i m) t (oM os i m t++ [(i:Int)]):=by
 funext t'
 have e:oM os i (m+1) t'=oM os i m t'++(if t'=t then [(i:Int)] else []):=by
  unfold oM
  rw [jV _ m hm,ht,List.filter_append,List.map_append,←List.append_assoc]
  congr 1
  by_cases h:t'=t
  ·rw [if_pos h,h];simp
  ·rw [if_neg h]
   have:((t:Int)==(t':Int))=false:=by simp;omega
   simp [this]
 rw [e]
 unfold aO
 by_cases h:t'=t
 ·rw [if_pos h,if_pos h,h]
 ·rw [if_neg h,if_neg h,List.append_nil]
theorem Ou (os:List cZ) (i:Nat):oM os i (tk (opAt os i)).length=oM os (i+1) 0:=by
 funext t
 unfold oM
 rw [List.take_length,List.take_zero,List.range_succ,List.flatMap_append]
 simp
theorem TW (os:List cZ) (i m t:Nat):(oM os i m t).length≤3*(i+1):=by
 have h1:∀n,((List.range n).flatMap fun j=>((tk (opAt os j)).filter fun x=>x==(t:Int)).map fun _=>(j:Int)).length≤3*n:=fun n=>by
  induction n with
  | zero=>simp
  | succ n ih=>
   rw [List.range_succ,List.flatMap_append,List.length_append]
   have:(([n]:List Nat).flatMap fun j=>((tk (opAt os j)).filter fun x=>x==(t:Int)).map fun _=>(j:Int)).length≤3:=by
    simp only [List.flatMap_cons,List.flatMap_nil,List.append_nil,List.length_map]
    exact Nat.le_trans (List.length_filter_le _ _) (sV _)
   omega
 unfold oM
 rw [List.length_append,List.length_map]
 have h2:=h1 i
 have h3:=Nat.le_trans (List.length_filter_le (fun x=>x==(t:Int)) ((tk (opAt os i)).take m)) (Nat.le_trans (by rw [List.length_take];exact Nat.min_le_right _ _) (sV (opAt os i)))
 omega
theorem Ov (os:List cZ):oM os 0 0=fun _=> []:=by
 funext t;simp [oM]
theorem GU.gm {K:Gk} {f:Nat→List Int} {uv:Nat→Value} {W:World} (a:GU K 16 K.os.length f uv W) (hex:K.ex=fun _=>False):GM {K with base:=W.heap.size} ⟨[],fun t=>⟨-1,-1,f t⟩,fun _=> -1,fun _=>false,0⟩ W:=by
 refine⟨a.c0,a.c1,a.c2,a.c3,⟨_,a.c4,World.ownsRow_nil W _ _ _,fun k hk=>nomatch hk⟩,a.c5,a.c6,fun j hj=>by have:=a.uj j hj;rw [if_pos hj] at this;exact this,a.pin,a.sp,fun t ht=>by have:=a.vr t ht;rw [if_pos ht] at this;exact this,fun t ht=>by have:=a.vs t ht;rw [if_pos ht] at this;exact this,fun t ht=> ?_,a.z,a.zv,a.l,a.l2,a.ne,Nat.le_refl _,fun i hi=>by rw [show({K with base:=W.heap.size}:Gk).ex=K.ex from rfl,hex] at hi;exact hi.elim,a.op,fun q hq h0=>⟨Nat.lt_of_lt_of_le (a.ob q hq h0).1 a.lb,(a.ob q hq h0).2⟩⟩
 obtain⟨ao,cap,e,h1,h2,h3⟩:=(a.ow t ht).form
 refine⟨ao,cap,by rw [a.vu t ht,e],h1,h2,fun h0=> ?_⟩
 obtain⟨b,e1,e2,hc⟩:=h3 h0
 have hb:=(a.ow t ht).uY b e2
 exact⟨b,0,e1,hb.2,by show b≠K.h;have:=a.lh;omega,by show b≠K.vb;have:=a.lv;omega,fun j hj=>by rw [Nat.zero_add];exact hc j hj⟩
theorem Ox:∃i,Try.prog.info? 104=some i∧i.zero=some (.agg #[.int .i64 0, .int .i64 0, .slice none 0 0])∧i.size=3∧i.bytes=40:=by
 have h:(Try.prog.info? 104).map (fun i=>(i.zero,i.size,i.bytes))=some (some (.agg #[.int .i64 0, .int .i64 0, .slice none 0 0]),3,40):=by kernel_rfl
 obtain⟨i,hi,hz⟩:=Option.map_eq_some_iff.1 h
 simp only [Prod.mk.injEq] at hz
 exact⟨i,hi,hz.1,hz.2.1,hz.2.2⟩
theorem Oy (n t k:Nat) (ht:t<n) (hk:k<3):(madeCells #[.int .i64 0, .int .i64 0, .slice none 0 0] (n*3))[t*3+k]?=(#[.int .i64 0, .int .i64 0, .slice none 0 0]:Array Value)[k]?:=by
 have bV:t*3+k<n*3:=by omega
 unfold madeCells
 rw [Array.getElem?_map,Array.getElem?_range,if_pos bV]
 have e:(t*3+k)%3=k:=by omega
 show some ((#[.int .i64 0, .int .i64 0, .slice none 0 0]:Array Value)[(t*3+k)%3]!)=_
 rw [e]
 match k,hk with
 | 0,_=>rfl
 | 1,_=>rfl
 | 2,_=>rfl
 | m+3,h=>omega
end Go.Proofs.Ytcjcmnnhmajocab.Gn
