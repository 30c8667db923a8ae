import Derived.Test.YtcjcmnnhmajocabPmbf
set_option linter.unusedVariables false
set_option linter.unusedSimpArgs false
set_option maxRecDepth 100000
set_option maxHeartbeats 16000000
namespace Go.Proofs.Ytcjcmnnhmajocab.Gn
open Go.RowKit Kt Ic Hr Ho Me
theorem OE {os:List cZ} {b off cap:Nat} {w:World} (a:rQ os (some ⟨b,off,none⟩) cap w) {t:Nat} (ht:t<os.length):b<w.heap.size∧w.cell? ⟨b,off+t*7,none⟩=some (.int .i64 (opAt os t).k)∧w.cell? ⟨b,off+t*7+1,none⟩=some (.int .i64 (opAt os t).w)∧w.cell? ⟨b,off+t*7+2,none⟩=some (.int .i64 (opAt os t).a)∧
  w.cell? ⟨b,off+t*7+3,none⟩=some (.int .i64 (opAt os t).b)∧w.cell? ⟨b,off+t*7+4,none⟩=some (.int .i64 (opAt os t).c)∧w.cell? ⟨b,off+t*7+5,none⟩=some (.int .u32 (opAt os t).kn)∧w.cell? ⟨b,off+t*7+6,none⟩=some (.int .i64 (opAt os t).n):=by
 obtain⟨h1,h2,h3⟩:=a
 obtain⟨b',aiw,e,hb,hc⟩:=h3 (by omega)
 cases e
 have hg:os[t]?=some (opAt os t):=by unfold opAt;rw [List.getD_eq_getElem?_getD,List.getElem?_eq_getElem ht];rfl
 exact⟨hb,hc t _ hg 0 _ rfl,hc t _ hg 1 _ rfl,hc t _ hg 2 _ rfl,hc t _ hg 3 _ rfl,hc t _ hg 4 _ rfl,hc t _ hg 5 _ rfl,hc t _ hg 6 _ rfl⟩
theorem YE {n t:Nat} {uv:Nat→Value} {v':Value} {ta:Option Addr} {L S:Nat} (h:∀t,t<n→∀k,(uv t).ownBlock=some k→∀q,ta=some q→0<L→k≠q.block) (hk:v'.ownBlock=(uv t).ownBlock∨v'.ownBlock=some S) (ht:t<n) (hS:∀q,ta=some q→0<L→S≠q.block):
  ∀t',t'<n→∀k,(aO uv t v' t').ownBlock=some k→∀q,ta=some q→0<L→k≠q.block:=by
 intro t' JI k qF q hq h0
 by_cases e:t'=t
 ·rw [e,show aO uv t v' t=v' from if_pos rfl] at qF
  rcases hk with hk | hk
  ·exact h t ht k (hk▸qF) q hq h0
  ·rw [hk] at qF;obtain rfl:=Option.some.inj qF;exact hS q hq h0
 ·rw [show aO uv t v' t'=uv t' from if_neg e] at qF
  exact h t' JI k qF q hq h0
theorem ah.trans' {S:Nat→Prop} {a b c:World} (h:ah (fun _=>False) a b) (k:ah S b c) (hs:∀i,i<a.heap.size→¬S i):ah (fun _=>False) a c:=
 ⟨k.os.trans h.os,k.tape.trans h.tape,k.output.trans h.output,Nat.le_trans h.size k.size,fun i hi _=>(k.block i (Nat.lt_of_lt_of_le hi h.size) (hs i hi)).trans (h.block i hi id)⟩
def uK (os:List cZ) (ao:Option Addr) (cap:Nat) (pc aC bg:Int) (R B:Nat):Gk:=⟨os,ao,cap,pc,aC,bg,R,B+1,B,B+2,fun _=>False⟩
theorem Uh (w:World) (os:List cZ) (ao:Option Addr) (cap:Nat) (pc aC bg:Int) (R:Nat) (gy:rQ os ao cap w) (W:World)
  (hW:W=(w.alloc (.cells (madeCells #[.int .i64 0, .int .i64 0, .slice none 0 0] (os.length*3)) 104)).alloc (.cells #[.int .u32 pc, .int .i64 aC, .int .i64 bg, .slice ao os.length cap, .slice none 0 0, .int .i64 R, .slice (some ⟨w.heap.size,0,none⟩) os.length os.length, .int .i64 0, .int .i64 0, .int .i64 0, .int .i64 0, .int .i64 0, .int .i64 0, .int .i64 0, .int .i64 0, .int .i64 0, .int .i64 0, .int .i64 0, .int .i64 0, .int .i64 0, .int .i64 0, .int .i64 0, .int .i64 0, .bool false, .bool false, .bool false, .bool false, .bool false, .bool false, .bool false, .bool false, .bool false, .bool false, .bool false, .bool false, .bool false, .bool false, .bool false, .bool false, .int .i64 0] 102)):
  GU (uK os ao cap pc aC bg R w.heap.size) 0 0 (fun _=> []) (fun _=> .slice none 0 0) W:=by
 have u:ah (fun _=>False) w W:=by subst hW;exact((ah.refl (fun _=>False) w).alloc _).alloc _
 have hs:W.heap.size=w.heap.size+2:=by subst hW;simp
 have e1:(w.alloc (.cells (madeCells #[.int .i64 0, .int .i64 0, .slice none 0 0] (os.length*3)) 104)).heap.size=w.heap.size+1:=by simp
 have hh:∀i,W.cell? ⟨w.heap.size+1,i,none⟩=(#[.int .u32 pc, .int .i64 aC, .int .i64 bg, .slice ao os.length cap, .slice none 0 0, .int .i64 R, .slice (some ⟨w.heap.size,0,none⟩) os.length os.length, .int .i64 0, .int .i64 0, .int .i64 0, .int .i64 0, .int .i64 0, .int .i64 0, .int .i64 0, .int .i64 0, .int .i64 0, .int .i64 0, .int .i64 0, .int .i64 0, .int .i64 0, .int .i64 0, .int .i64 0, .int .i64 0, .bool false, .bool false, .bool false, .bool false, .bool false, .bool false, .bool false, .bool false, .bool false, .bool false, .bool false, .bool false, .bool false, .bool false, .bool false, .bool false, .int .i64 0]:Array Value)[i]?:=fun i=>by
  subst hW
  have:=cell_of_row _ (w.alloc (.cells (madeCells #[.int .i64 0, .int .i64 0, .slice none 0 0] (os.length*3)) 104)).heap.size i _ _ _ (heap_alloc_new (w.alloc (.cells (madeCells #[.int .i64 0, .int .i64 0, .slice none 0 0] (os.length*3)) 104)) (.cells #[.int .u32 pc, .int .i64 aC, .int .i64 bg, .slice ao os.length cap, .slice none 0 0, .int .i64 R, .slice (some ⟨w.heap.size,0,none⟩) os.length os.length, .int .i64 0, .int .i64 0, .int .i64 0, .int .i64 0, .int .i64 0, .int .i64 0, .int .i64 0, .int .i64 0, .int .i64 0, .int .i64 0, .int .i64 0, .int .i64 0, .int .i64 0, .int .i64 0, .int .i64 0, .int .i64 0, .bool false, .bool false, .bool false, .bool false, .bool false, .bool false, .bool false, .bool false, .bool false, .bool false, .bool false, .bool false, .bool false, .bool false, .bool false, .bool false, .int .i64 0] 102))
  rw [e1] at this
  exact this
 have hz:∀i,W.frozen? ⟨w.heap.size+1,i,none⟩=false:=fun i=>by
  subst hW
  have:=frozen_of_row _ (w.alloc (.cells (madeCells #[.int .i64 0, .int .i64 0, .slice none 0 0] (os.length*3)) 104)).heap.size i _ _ (heap_alloc_new (w.alloc (.cells (madeCells #[.int .i64 0, .int .i64 0, .slice none 0 0] (os.length*3)) 104)) (.cells #[.int .u32 pc, .int .i64 aC, .int .i64 bg, .slice ao os.length cap, .slice none 0 0, .int .i64 R, .slice (some ⟨w.heap.size,0,none⟩) os.length os.length, .int .i64 0, .int .i64 0, .int .i64 0, .int .i64 0, .int .i64 0, .int .i64 0, .int .i64 0, .int .i64 0, .int .i64 0, .int .i64 0, .int .i64 0, .int .i64 0, .int .i64 0, .int .i64 0, .int .i64 0, .int .i64 0, .bool false, .bool false, .bool false, .bool false, .bool false, .bool false, .bool false, .bool false, .bool false, .bool false, .bool false, .bool false, .bool false, .bool false, .bool false, .bool false, .int .i64 0] 102))
  rw [e1] at this
  exact this
 have u2:ah (fun _=>False) (w.alloc (.cells (madeCells #[.int .i64 0, .int .i64 0, .slice none 0 0] (os.length*3)) 104)) W:=by subst hW;exact(ah.refl (fun _=>False) _).alloc _
 have hv:∀i,W.cell? ⟨w.heap.size,i,none⟩=(madeCells #[.int .i64 0, .int .i64 0, .slice none 0 0] (os.length*3))[i]?:=fun i=>
  (u2.cell (q:=⟨w.heap.size,i,none⟩) (by simp) id).trans (cell_of_row _ w.heap.size i _ _ _ (heap_alloc_new w (.cells (madeCells #[.int .i64 0, .int .i64 0, .slice none 0 0] (os.length*3)) 104)))
 have hvz:∀i,W.frozen? ⟨w.heap.size,i,none⟩=false:=fun i=>(u2.frozen (q:=⟨w.heap.size,i,none⟩) (by simp) id).trans (frozen_of_row _ w.heap.size i _ _ (heap_alloc_new w (.cells (madeCells #[.int .i64 0, .int .i64 0, .slice none 0 0] (os.length*3)) 104)))
 clear hW u2 e1
 refine⟨hh 0,hh 1,hh 2,hh 3,hh 4,hh 5,hh 6,fun j hj=> ?_,fun j hj=> ?_,hh 39,fun t ht=> ?_,fun t ht=> ?_,fun t ht=> ?_,fun t ht=>World.ownsRow_nil W _ _ _,fun _ _ _ _ _ k hk=>(nomatch hk),hz,hvz,Nat.lt_succ_self _,Nat.lt_succ_of_lt (Nat.lt_succ_self _),Nat.succ_ne_self _,Nat.le_of_eq hs.symm,dB gy u (fun _ _ _=>id),fun q hq h0=> ?_,fun _ _=>⟨rfl,rfl⟩⟩
 ·refine(hh (7+j)).trans ?_
  match j,hj with
  | 0,_ | 1,_ | 2,_ | 3,_ | 4,_ | 5,_ | 6,_ | 7,_ | 8,_ | 9,_ | 10,_ | 11,_ | 12,_ | 13,_ | 14,_ | 15,_=>rfl
  | n+16,h=>omega
 ·refine(hh (23+j)).trans ?_
  match j,hj with
  | 0,_ | 1,_ | 2,_ | 3,_ | 4,_ | 5,_ | 6,_ | 7,_ | 8,_ | 9,_ | 10,_ | 11,_ | 12,_ | 13,_ | 14,_ | 15,_=>rfl
  | n+16,h=>omega
 ·exact(hv (t*3+0)).trans (Oy os.length t 0 ht (by decide))
 ·exact(hv (t*3+1)).trans (Oy os.length t 1 ht (by decide))
 ·exact(hv (t*3+2)).trans (Oy os.length t 2 ht (by decide))
 ·obtain⟨b,off,e,hb,_⟩:=gy.2.2 h0
  have ZO:ao=some q:=hq
  rw [ZO] at e;cases e
  exact⟨by show b<w.heap.size+2;omega,by show b≠w.heap.size+1;omega,by show b≠w.heap.size;omega⟩
theorem Ui (os:List cZ) (kb ko cap:Nat) (pc aC bg:Int) (R:Nat) (z:Int) (w:World) (gy:rQ os (some ⟨kb,ko,none⟩) cap w) (hc:uh os aC bg=(0,z)) (r3:3≤R) (P6:R≤16) (hn:os.length≤2048)
  (hT:∀i m,m<(tk (opAt os i)).length→∃t:Nat,(tk (opAt os i)).getD m 0=t∧t<i)
  (hx:oL ⟨1,0,0,0,0,aC,pc,0⟩) (ho:∀i,i<os.length→Oq os R (Gm.all os R (uH os pc aC) i) i (opAt os i)):
  Calls Try.prog 11 #[.agg #[.int .u32 pc, .int .i64 aC, .int .i64 bg, .slice (some ⟨kb,ko,none⟩) os.length cap], .int .i64 R] w fun e w'=>∃v,e= .returned (.tuple #[v, .int .i64 0])∧pz w.heap.size v (dF (lN os R pc aC).xs) w'∧Below w.heap.size w w':=by
 have hL:=gy.1
 have B0:=κ (Bx.new w #[.int .u32 pc, .int .i64 aC, .int .i64 bg, .slice (some ⟨kb,ko,none⟩) os.length cap] 25)
 have u0:=(ah.refl (fun _=>False) w).alloc (.cells #[.int .u32 pc, .int .i64 aC, .int .i64 bg, .slice (some ⟨kb,ko,none⟩) os.length cap] 25)
 have O0:=κ (dB gy u0 (fun _ _ _=>id))
 have CH:=κ (fun w h=>IY os (some ⟨kb,ko,none⟩) cap pc aC bg w h)
 rw [hc] at CH
 unfold SY at CH
 dsimp only at CH
 have rr1:(3:Int)≤(R:Int):=by omega
 have rr2:(R:Int)≤16:=by omega
 have Jb:=κ P6
 have HN:=κ hn
 have HT:=κ hT
 have HX:=κ hx
 have HO:=κ ho
 have U0:=κ u0
 obtain⟨iv,hiv,hzv,hsv,hbv⟩:=Ox
 have CG:∀w:World,(Instr.makeSlice 98 (.int .i64 (os.length:Int)) (.int .i64 (os.length:Int))).run Try.prog w= .ok (.slice (some ⟨w.heap.size,0,none⟩) os.length os.length) (w.alloc (.cells (madeCells #[.int .i64 0, .int .i64 0, .slice none 0 0] (os.length*3)) 104)):=fun w=>by
  have:=run_make (P:=Try.prog) w 98 104 iv (.agg #[.int .i64 0, .int .i64 0, .slice none 0 0]) Try.underlying98 hiv hzv .i64 .i64 os.length os.length (by omega) (Int.le_refl _) (by rw [hbv];omega) (by omega)
  rw [hsv,show(Value.agg #[.int .i64 0, .int .i64 0, .slice none 0 0]).cells= #[.int .i64 0, .int .i64 0, .slice none 0 0] from rfl] at this
  simpa using this
 clear gy hc hn hT hx ho u0 hiv hzv hsv hbv r3 P6
 go_enter Try.func11,Try.ntmps11
 go_upto_region 2 with(go_at_call 45;refine(CH.out _ O0.out).mono ?_;rintro e w1 ⟨rfl,b1⟩)
 have u1:=ah.aG (S:=fun _=>False) b1
 have B1:=κ (B0.out.upto u1 id)
 have O1:=κ (dB O0.out u1 (fun _ _ _=>id))
 have U1:=κ (U0.out.trans u1)
 clear B0 O0 U0 u1 b1 CH
 have b0:=B1.out.2.1 0 _ rfl
 have b1:=B1.out.2.1 1 _ rfl
 have b2:=B1.out.2.1 2 _ rfl
 have b3:=B1.out.2.1 3 _ rfl
 have lb:=B1.out.1
 go_upto_region 6 with fail
 go_region
 clear CG b0 b1 b2 b3
 have G2:=κ ((Uh w1 os (some ⟨kb,ko,none⟩) cap pc aC bg R O1.out _ rfl).upto (ah.refl (fun _=>False) _).drew (fun _ h=>h.elim))
 have u2:=((ah.refl (fun _=>False) w1).alloc (.cells (madeCells #[.int .i64 0, .int .i64 0, .slice none 0 0] (os.length*3)) 104)).alloc (.cells #[.int .u32 pc, .int .i64 aC, .int .i64 bg, .slice (some ⟨kb,ko,none⟩) os.length cap, .slice none 0 0, .int .i64 R, .slice (some ⟨w1.heap.size,0,none⟩) os.length os.length, .int .i64 0, .int .i64 0, .int .i64 0, .int .i64 0, .int .i64 0, .int .i64 0, .int .i64 0, .int .i64 0, .int .i64 0, .int .i64 0, .int .i64 0, .int .i64 0, .int .i64 0, .int .i64 0, .int .i64 0, .int .i64 0, .bool false, .bool false, .bool false, .bool false, .bool false, .bool false, .bool false, .bool false, .bool false, .bool false, .bool false, .bool false, .bool false, .bool false, .bool false, .bool false, .int .i64 0] 102)
 have B2:=κ (B1.out.upto u2.drew id)
 have U2:=κ (U1.out.trans u2.drew)
 clear u2 B1 U1 O1
 generalize((w1.alloc (.cells (madeCells #[.int .i64 0, .int .i64 0, .slice none 0 0] (os.length*3)) 104)).alloc (.cells #[.int .u32 pc, .int .i64 aC, .int .i64 bg, .slice (some ⟨kb,ko,none⟩) os.length cap, .slice none 0 0, .int .i64 R, .slice (some ⟨w1.heap.size,0,none⟩) os.length os.length, .int .i64 0, .int .i64 0, .int .i64 0, .int .i64 0, .int .i64 0, .int .i64 0, .int .i64 0, .int .i64 0, .int .i64 0, .int .i64 0, .int .i64 0, .int .i64 0, .int .i64 0, .int .i64 0, .int .i64 0, .int .i64 0, .bool false, .bool false, .bool false, .bool false, .bool false, .bool false, .bool false, .bool false, .bool false, .bool false, .bool false, .bool false, .bool false, .bool false, .bool false, .bool false, .int .i64 0] 102)).drew=w2 at G2 B2 U2⊢
 generalize w1.heap.size=B at lb G2⊢
 have LB:=κ lb
 go_wp2
 go_loopg [38] 16 (fun k ix wr=>∃q:Nat,k=16-q∧q≤16∧ix= .int .i64 q∧Hid (GU (uK os (some ⟨kb,ko,none⟩) cap pc aC bg R B) q 0 (fun _=> []) (fun _=> .slice none 0 0) wr)∧Hid (Bx w.heap.size #[.int .u32 pc, .int .i64 aC, .int .i64 bg, .slice (some ⟨kb,ko,none⟩) os.length cap] wr)∧Hid (ah (fun _=>False) w wr))
 case atStart=>exact⟨0,rfl,Nat.zero_le _,rfl,G2,B2,U2⟩
 case round=>
  obtain⟨q,hk,hj,rfl,G,BO,U⟩:=hrel
  by_cases bV:q<16
  ·have oV:(q:Int) <16:=by omega
   have q0:(0:Int)≤(q:Int):=by omega
   have ch:wr.cell? ⟨B+1,7+q,none⟩=some (.int .i64 (if q<q then-1 else 0)):=G.out.uj q bV
   have zh:wr.frozen? ⟨B+1,7+q,none⟩=false:=G.out.z (7+q)
   have lh:B+1<wr.heap.size:=G.out.l
   have a6:Hid (GU (uK os (some ⟨kb,ko,none⟩) cap pc aC bg R B) (q+1) 0 (fun _=> []) (fun _=> .slice none 0 0) (wr.setCell ⟨B+1,7+q,none⟩ (.int .i64 (-1)))):=G.out.reg bV
   have vs:=(ah.refl (fun i=>i=B+1) wr).setCell (q:=⟨B+1,7+q,none⟩) (.inl rfl) (.int .i64 (-1))
   have b6:=κ (BO.out.upto vs (by omega))
   have u6:=κ (U.out.setCell (q:=⟨B+1,7+q,none⟩) (.inr (by show w.heap.size≤B+1;omega)) (.int .i64 (-1)))
   have HK:=κ hk
   have jg:=κ bV
   clear vs hk bV
   go_wp2
   go_roundg (16-(q+1))
   case measure=>have:=HK.out;have:=jg.out;omega
   case rel=>exact⟨q+1,rfl,jg.out,by simp,a6,b6,u6⟩
  ·obtain rfl:q=16:=by omega
   clear hj hk bV G2 B2 U2
   rw [←Ov os] at G
   have b3:=BO.out.2.1 3 _ rfl
   have lb:=BO.out.1
   go_wp2
   go_loopg [50] os.length (fun k ix wr=>∃ (j:Nat) (uv:Nat→Value),k=os.length-j∧j≤os.length∧ix= .int .i64 j∧Hid (GU (uK os (some ⟨kb,ko,none⟩) cap pc aC bg R B) 16 j (oM os j 0) uv wr)∧Hid (Bx w.heap.size #[.int .u32 pc, .int .i64 aC, .int .i64 bg, .slice (some ⟨kb,ko,none⟩) os.length cap] wr)∧Hid (ah (fun _=>False) w wr))
   case atStart=>exact⟨0,_,rfl,Nat.zero_le _,rfl,G,BO,U⟩
   case round=>
    obtain⟨j,uv,hk,hj,rfl,G,BO,U⟩:=hrel
    by_cases bV:j<os.length
    ·have oV:(j:Int) <(os.length:Int):=by omega
     have j0:(0:Int)≤(j:Int):=by omega
     have aeO:os.length≤cap:=G.out.op.1
     obtain⟨kl,k0,k1,k2,k3,k4,k5,k6⟩:=OE G.out.op bV
     have HK:=κ hk
     have jg:=κ bV
     obtain⟨o,ho⟩:∃o,opAt os j=o:=⟨_,rfl⟩
     have YF:=κ ho
     rw [show opAt (uK os (some ⟨kb,ko,none⟩) cap pc aC bg R B).os j=o from ho] at k0 k1 k2 k3 k4 k5 k6
     clear hk bV ho
     have GA:=κ (G.out.upto ((ah.refl (fun _=>False) wr).alloc (.cells #[.int .i64 o.k, .int .i64 o.w, .int .i64 o.a, .int .i64 o.b, .int .i64 o.c, .int .u32 o.kn, .int .i64 o.n] 31)) (fun _ h=>h.elim))
     have BA:=κ (BO.out.upto ((ah.refl (fun _=>False) wr).alloc (.cells #[.int .i64 o.k, .int .i64 o.w, .int .i64 o.a, .int .i64 o.b, .int .i64 o.c, .int .u32 o.kn, .int .i64 o.n] 31)) id)
     have UA:=κ (U.out.alloc (.cells #[.int .i64 o.k, .int .i64 o.w, .int .i64 o.a, .int .i64 o.b, .int .i64 o.c, .int .u32 o.kn, .int .i64 o.n] 31))
     have OA:=κ (Bx.new wr #[.int .i64 o.k, .int .i64 o.w, .int .i64 o.a, .int .i64 o.b, .int .i64 o.c, .int .u32 o.kn, .int .i64 o.n] 31)
     have c6:wr.cell? ⟨B+1,6,none⟩=some (.slice (some ⟨B,0,none⟩) os.length os.length):=G.out.c6
     have lh:B+1<wr.heap.size:=G.out.l
     have lv:B<wr.heap.size:=G.out.l2
     go_upto_region 15 with fail
     have lo:w.heap.size<wr.heap.size:=BO.out.1
     clear k0 k1 k2 k3 k4 k5 k6 c6 G BO U kl
     generalize wr.alloc (.cells #[.int .i64 o.k, .int .i64 o.w, .int .i64 o.a, .int .i64 o.b, .int .i64 o.c, .int .u32 o.kn, .int .i64 o.n] 31)=wA at GA BA UA OA⊢
     generalize wr.heap.size=xo at lh lv lo OA⊢
     have c6:wA.cell? ⟨B+1,6,none⟩=some (.slice (some ⟨B,0,none⟩) os.length os.length):=GA.out.c6
     have la:B+1<wA.heap.size:=GA.out.l
     have la2:B<wA.heap.size:=GA.out.l2
     have cr:wA.cell? ⟨B,j*3,none⟩=some (.int .i64 (if j<j then-1 else 0)):=GA.out.vr j jg.out
     have cs:wA.cell? ⟨B,j*3+1,none⟩=some (.int .i64 (if j<j then-1 else 0)):=GA.out.vs j jg.out
     have cu:wA.cell? ⟨B,j*3+2,none⟩=some (uv j):=GA.out.vu j jg.out
     rw [(GA.out.fu j (Nat.le_refl _)).2] at cu
     have zv:∀i,wA.frozen? ⟨B,i,none⟩=false:=GA.out.zv
     go_upto_region 16 with fail
     have vs:=(((ah.refl (fun i=>i=B) wA).setCell (q:=⟨B,j*3,none⟩) (.inl rfl) (.int .i64 (-1))).setCell (q:=⟨B,j*3+1,none⟩) (.inl rfl) (.int .i64 (-1))).setCell (q:=⟨B,j*3+2,none⟩) (.inl rfl) (.slice none 0 0)
     have GV:Hid (GU (uK os (some ⟨kb,ko,none⟩) cap pc aC bg R B) 16 (j+1) (oM os j 0) uv (((wA.setCell ⟨B,j*3,none⟩ (.int .i64 (-1))).setCell ⟨B,j*3+1,none⟩ (.int .i64 (-1))).setCell ⟨B,j*3+2,none⟩ (.slice none 0 0))):=GA.out.val jg.out
     have BV:=κ (BA.out.upto vs (by omega))
     have OV:=κ (OA.out.upto vs (by omega))
     have UV:=κ ((((UA.out.setCell (q:=⟨B,j*3,none⟩) (.inr (by show w.heap.size≤B;omega)) (.int .i64 (-1))).setCell (q:=⟨B,j*3+1,none⟩) (.inr (by show w.heap.size≤B;omega)) (.int .i64 (-1))).setCell (q:=⟨B,j*3+2,none⟩) (.inr (by show w.heap.size≤B;omega)) (.slice none 0 0)))
     clear vs cr cs cu zv c6 GA BA OA UA la la2
     generalize(((wA.setCell ⟨B,j*3,none⟩ (.int .i64 (-1))).setCell ⟨B,j*3+1,none⟩ (.int .i64 (-1))).setCell ⟨B,j*3+2,none⟩ (.slice none 0 0))=wV at GV BV OV UV⊢
     have o0:=OV.out.2.1 0 _ rfl
     have o1:=OV.out.2.1 1 _ rfl
     have o2:=OV.out.2.1 2 _ rfl
     have o3:=OV.out.2.1 3 _ rfl
     have o4:=OV.out.2.1 4 _ rfl
     have o5:=OV.out.2.1 5 _ rfl
     have o6:=OV.out.2.1 6 _ rfl
     have lx:=OV.out.1
     have lwV:B+1<wV.heap.size:=GV.out.l
     have TA:=κ (xZ o wV)
     have HTJ:=κ (HT.out j)
     rw [YF.out] at HTJ
     have TL:=κ (sV o)
     have jm:(j:Int) <2048:=by have:=HN.out;have:=jg.out;omega
     have HS:Hid (∀m t,m<(tk o).length→(tk o).getD m 0=((t:Nat):Int)→oM os j (m+1)=aO (oM os j m) t (oM os j m t++ [(j:Int)])):=fun m t hm ht=>Ot os j m t (by rw [YF.out];exact hm) (by rw [YF.out];exact ht)
     have HE:Hid (oM os j (tk o).length=oM os (j+1) 0):=by have:=Ou os j;rw [YF.out] at this;exact this
     have HL:Hid (∀m t,(oM os j m t).length≤3*(j+1)):=fun m t=>TW os j m t
     generalize tk o=l at TA HTJ TL HS HE
     go_wp2_with (go_at_call 46;refine TA.out.mono ?_;rintro e w3 ⟨⟨ta,tc,rfl,ts⟩,b3⟩;have u3:=ah.aG (S:=fun _=>False) b3;have G3:=κ (GV.out.upto u3 (fun _ h=>h.elim));have B3:=κ (BV.out.upto u3 id);have U3:=κ (UV.out.trans u3);have T3:=κ ts;have NB3:Hid (∀t,t<os.length→∀k,(uv t).ownBlock=some k→∀q,ta=some q→0<l.length→k≠q.block):=(fun t ht k hk q hq h0=>by obtain⟨b,e,h1,h2,_⟩:=ts.2 h0;rw [hq] at e;cases e;have:=((GV.out.ow t ht).uY k hk).2;show k≠b;omega);clear o0 o1 o2 o3 o4 o5 o6 lx TA u3 b3 ts GV BV UV OV)
     go_loopg [65] l.length (fun k ix wr=>∃ (m:Nat) (uv:Nat→Value),k=l.length-m∧m≤l.length∧ix= .int .i64 m∧Hid (∀t,t<os.length→∀k,(uv t).ownBlock=some k→∀q,ta=some q→0<l.length→k≠q.block)∧Hid (GU (uK os (some ⟨kb,ko,none⟩) cap pc aC bg R B) 16 (j+1) (oM os j m) uv wr)∧Hid (TS wV.heap.size l ta tc wr)∧Hid (Bx w.heap.size #[.int .u32 pc, .int .i64 aC, .int .i64 bg, .slice (some ⟨kb,ko,none⟩) os.length cap] wr)∧Hid (ah (fun _=>False) w wr))
     case atStart=>exact⟨0,uv,rfl,Nat.zero_le _,rfl,NB3,G3,T3,B3,U3⟩
     case round=>
      obtain⟨m,uv,hk,hm,rfl,NB,G,T,BO,U⟩:=hrel
      by_cases bV:m<l.length
      ·have aeQ:(m:Int) <(l.length:Int):=by omega
       have m0:(0:Int)≤(m:Int):=by omega
       have m3:(m:Int) <3:=by have:=TL.out;omega
       obtain⟨tb,e,aQ,aj,hc⟩:=T.out.2 (by omega)
       subst e
       obtain⟨t,ht,htj⟩:=HTJ.out m bV
       have cm:wr.cell? ⟨tb,m,none⟩=some (.int .i64 t):=by rw [hc m bV,ht]
       have tn:t<os.length:=by have:=jg.out;omega
       have t0:(0:Int)≤(t:Int):=by omega
       have t1:(t:Int) <(os.length:Int):=by omega
       have HSM:=κ (HS.out m t bV ht)
       have HK2:=κ hk
       have YG:=κ bV
       have Uj:=κ tn
       have aeR:=κ htj
       clear hk bV ht htj hc tn
       have c6:wr.cell? ⟨B+1,6,none⟩=some (.slice (some ⟨B,0,none⟩) os.length os.length):=G.out.c6
       have cu:wr.cell? ⟨B,t*3+2,none⟩=some (uv t):=G.out.vu t Uj.out
       have la:B+1<wr.heap.size:=G.out.l
       have la2:B<wr.heap.size:=G.out.l2
       have ua:=((ah.refl (fun _=>False) wr).drew).alloc (.cells #[.int .i64 j] 3)
       have OWA:=κ ((G.out.ow t Uj.out).upto ua (fun _ _=>id))
       have OG:=κ (G.out.upto ua (fun _ h=>h.elim))
       have otb:∀k,(uv t).ownBlock=some k→B+2≤k∧k≠tb:=fun k hk=>⟨((G.out.ow t Uj.out).uY k hk).1,NB.out t Uj.out k hk _ rfl (by have:=YG.out;omega)⟩
       have OTB:=κ otb
       clear otb
       go_upto_region 19 with fail
       go_region_law (refine Oo rfl (.tmp 81) (.tmp 83) rfl (B+2) (uv t) (oM os j m t) (by simp [Act.eval,Act.put]) OWA.out (by show B+2≤_;simp;omega) wr.heap.size 1 j (by simp [Act.eval,Act.put]) (by simp) (by have:=HL.out m t;have:=jg.out;have:=HN.out;omega) ?_;intro v' w2 yO u' qF;have nb:¬ (uv t).ownBlock=some B:=(fun e=>by have h:=((OG.out.ow t Uj.out).uY _ e).1;have h':B+2≤B:=h;omega);have cu2:w2.cell? ⟨B,t*3+2,none⟩=some (uv t):=(u'.cell (q:=⟨B,t*3+2,none⟩) OG.out.l2 nb).trans (OG.out.vu t Uj.out);have zv2:w2.frozen? ⟨B,t*3+2,none⟩=false:=(u'.frozen (q:=⟨B,t*3+2,none⟩) OG.out.l2 nb).trans (OG.out.zv _);have nb1:¬ (uv t).ownBlock=some (B+1):=(fun e=>by have h:=((OG.out.ow t Uj.out).uY _ e).1;have h':B+2≤B+1:=h;omega);have c62:w2.cell? ⟨B+1,6,none⟩=some (.slice (some ⟨B,0,none⟩) os.length os.length):=(u'.cell (q:=⟨B+1,6,none⟩) OG.out.l nb1).trans OG.out.c6;have lh2:B+1<w2.heap.size:=Nat.lt_of_lt_of_le OG.out.l u'.size;have lv2:B<w2.heap.size:=Nat.lt_of_lt_of_le OG.out.l2 u'.size;have OW':=κ yO;have UU:=κ u';have HK':=κ qF;obtain⟨ZI,OH,hv',_⟩:=yO.form;clear yO u' qF;subst hv';have FIN:Hid (GU (uK os (some ⟨kb,ko,none⟩) cap pc aC bg R B) 16 (j+1) (oM os j (m+1)) (aO uv t (.slice ZI ((oM os j m t).length+1) OH)) (w2.setCell ⟨B,t*3+2,none⟩ (.slice ZI ((oM os j m t).length+1) OH))):=(by have h:=OG.out.app Uj.out (by have:=aeR.out;omega) UU.out OW'.out HK'.out;rw [List.length_append] at h;rw [HSM.out];exact h);have VS:=κ ((((ah.refl (fun i=>i=B∨(uv t).ownBlock=some i) wr).drew.alloc (.cells #[.int .i64 j] 3)).trans (UU.out.mono (T:=fun i=>i=B∨(uv t).ownBlock=some i) fun _ _ h=> .inr h)).setCell (q:=⟨B,t*3+2,none⟩) (.inl (.inl rfl)) (.slice ZI ((oM os j m t).length+1) OH));have NB':Hid (∀t',t'<os.length→∀k,(aO uv t (.slice ZI ((oM os j m t).length+1) OH) t').ownBlock=some k→∀q,some (⟨tb,0,none⟩:Addr)=some q→0<l.length→k≠q.block):=(by have h:=YE NB.out HK'.out Uj.out (by intro q hq h0;cases hq;show(wr.alloc (.cells #[.int .i64 j] 3)).drew.heap.size≠tb;simp;omega);rw [List.length_append] at h;exact h))
       all_goals
        have T':=κ (T.out.upto VS.out (fun q hq h0 e=>by cases hq;rcases e with e | e;exact absurd e (by show¬tb=B;omega);exact(OTB.out _ e).2 rfl))
        have BO':=κ (BO.out.upto VS.out (fun e=>by rcases e with e | e;omega;have:=(OTB.out _ e).1;omega))
        have U':=κ (Gn.ah.trans' U.out VS.out (fun i hi e=>by rcases e with e | e;omega;have:=(OTB.out _ e).1;omega))
        have abL:=FIN
        generalize w2.setCell ⟨B,t*3+2,none⟩ (.slice ZI ((oM os j m t).length+1) OH)=w9 at abL T' BO' U'⊢
        clear VS FIN cu2 zv2 c62 UU OW' HK' cu c6
        go_wp2
        go_roundg (l.length-(m+1))
        case measure=>have:=HK2.out;have:=YG.out;omega
        case rel=>exact⟨m+1,_,rfl,YG.out,by simp,NB',abL,T',BO',U'⟩
      ·obtain rfl:m=l.length:=by omega
       go_wp2
       go_roundg (os.length-(j+1))
       case measure=>have:=HK.out;have:=jg.out;omega
       case rel=>exact⟨j+1,uv,rfl,jg.out,by simp,by rw [←HE.out];exact G,BO,U⟩
    ·obtain rfl:j=os.length:=by omega
     clear hj hk bV
     have lb:=BO.out.1
     have lB:B+1<wr.heap.size:=G.out.l
     have GM0:=κ (G.out.gm rfl)
     have K1E:=κ (rfl:({(uK os (some ⟨kb,ko,none⟩) cap pc aC bg R B) with base:=wr.heap.size}:Gk)={(uK os (some ⟨kb,ko,none⟩) cap pc aC bg R B) with base:=wr.heap.size})
     have lB_:w.heap.size<wr.heap.size:=lb
     have NSG:Hid (∀i,i<B→¬SG {(uK os (some ⟨kb,ko,none⟩) cap pc aC bg R B) with base:=wr.heap.size} i):=fun i hi e=>by
      rcases e with e | e | e
      ·have e':i=B+1:=e
       omega
      ·have e':i=B:=e
       omega
      ·have e':wr.heap.size≤i:=e.1
       omega
     have PU:Hid (∀wx,GM {(uK os (some ⟨kb,ko,none⟩) cap pc aC bg R B) with base:=wr.heap.size} ⟨[],fun t=>⟨-1,-1,oM os os.length 0 t⟩,fun _=> -1,fun _=>false,0⟩ wx→Calls Try.prog 47 #[.pointer (some ⟨B+1,0,none⟩), .agg #[.int .i64 1, .int .i64 0, .int .i64 0, .int .i64 0, .int .i64 0, .int .i64 aC, .int .u32 pc, .int .u32 0]] wx fun e w'=>e= .returned (.tuple #[])∧GM {(uK os (some ⟨kb,ko,none⟩) cap pc aC bg R B) with base:=wr.heap.size} (uH os pc aC) w'∧ah (SG {(uK os (some ⟨kb,ko,none⟩) cap pc aC bg R B) with base:=wr.heap.size}) wx w'):=
      fun wx a=>dR (K:={(uK os (some ⟨kb,ko,none⟩) cap pc aC bg R B) with base:=wr.heap.size}) _ wx a HX.out (by show(0:Nat)≤1000000;decide)
     have ON:Hid (∀i wx,i<os.length→GM {(uK os (some ⟨kb,ko,none⟩) cap pc aC bg R B) with base:=wr.heap.size} (Gm.all os R (uH os pc aC) i) wx→Calls Try.prog 48 #[.pointer (some ⟨B+1,0,none⟩), .int .i64 i, .agg #[.int .i64 (opAt os i).k, .int .i64 (opAt os i).w, .int .i64 (opAt os i).a, .int .i64 (opAt os i).b, .int .i64 (opAt os i).c, .int .u32 (opAt os i).kn, .int .i64 (opAt os i).n]] wx fun e w'=>e= .returned (.tuple #[])∧GM {(uK os (some ⟨kb,ko,none⟩) cap pc aC bg R B) with base:=wr.heap.size} (Gm.all os R (uH os pc aC) (i+1)) w'∧ah (SG {(uK os (some ⟨kb,ko,none⟩) cap pc aC bg R B) with base:=wr.heap.size}) wx w'):=
      fun i wx hi a=>yL (K:={(uK os (some ⟨kb,ko,none⟩) cap pc aC bg R B) with base:=wr.heap.size}) i (opAt os i) wx a Jb.out hi (by have:=HN.out;omega) (HO.out i hi).hI (HO.out i hi).hn (HO.out i hi).lW (HO.out i hi).xY (HO.out i hi).hG (HO.out i hi).hX
     clear K1E
     have KF:Hid (({(uK os (some ⟨kb,ko,none⟩) cap pc aC bg R B) with base:=wr.heap.size}:Gk).base=wr.heap.size∧({(uK os (some ⟨kb,ko,none⟩) cap pc aC bg R B) with base:=wr.heap.size}:Gk).os=os∧({(uK os (some ⟨kb,ko,none⟩) cap pc aC bg R B) with base:=wr.heap.size}:Gk).ao=some ⟨kb,ko,none⟩∧({(uK os (some ⟨kb,ko,none⟩) cap pc aC bg R B) with base:=wr.heap.size}:Gk).cap=cap∧({(uK os (some ⟨kb,ko,none⟩) cap pc aC bg R B) with base:=wr.heap.size}:Gk).h=B+1):=⟨rfl,rfl,rfl,rfl,rfl⟩
     generalize({(uK os (some ⟨kb,ko,none⟩) cap pc aC bg R B) with base:=wr.heap.size}:Gk)=K1 at GM0 NSG PU ON KF
     have q0:=BO.out.2.1 0 _ rfl
     have q1:=BO.out.2.1 1 _ rfl
     clear G
     go_upto_region 23 with(go_at_call 47;refine(PU.out _ GM0.out).mono ?_;rintro e w4 ⟨rfl,g4,u4⟩;have G4:=κ g4;have B4:=κ (BO.out.upto u4 (NSG.out _ LB.out));have U4:=κ (Gn.ah.trans' U.out u4 (fun i hi=>NSG.out i (by have:=LB.out;omega)));clear g4 u4)
     clear q0 q1 PU GM0 BO U
     have q3:=B4.out.2.1 3 _ rfl
     have lb4:=B4.out.1
     go_wp2
     clear q3
     go_loopg [99] os.length (fun k ix wx=>∃i:Nat,k=os.length-i∧i≤os.length∧ix= .int .i64 i∧Hid (GM K1 (Gm.all os R (uH os pc aC) i) wx)∧Hid (Bx w.heap.size #[.int .u32 pc, .int .i64 aC, .int .i64 bg, .slice (some ⟨kb,ko,none⟩) os.length cap] wx)∧Hid (ah (fun _=>False) w wx))
     case atStart=>exact⟨0,rfl,Nat.zero_le _,rfl,G4,B4,U4⟩
     case round=>
      obtain⟨i,hk,hj,rfl,G,BO,U⟩:=hrel
      by_cases bV:i<os.length
      ·have aeQ:(i:Int) <(os.length:Int):=by omega
       have i0:(0:Int)≤(i:Int):=by omega
       have im:(i:Int) <2048:=by have:=HN.out;omega
       have aeO:os.length≤cap:=hL
       have op:rQ os (some ⟨kb,ko,none⟩) cap wr:=by have h:=G.out.op;rw [KF.out.2.1,KF.out.2.2.1,KF.out.2.2.2.1] at h;exact h
       obtain⟨kl,k0,k1,k2,k3,k4,k5,k6⟩:=OE op bV
       have HK:=κ hk
       have jg:=κ bV
       have OI:=κ (fun wx=>ON.out i wx bV)
       clear hk bV op
       obtain⟨o,ho⟩:∃o,opAt os i=o:=⟨_,rfl⟩
       rw [ho] at k0 k1 k2 k3 k4 k5 k6 OI
       clear ho
       have GA:=κ (G.out.alloc (.cells #[.int .i64 o.k, .int .i64 o.w, .int .i64 o.a, .int .i64 o.b, .int .i64 o.c, .int .u32 o.kn, .int .i64 o.n] 31))
       have BA:=κ (BO.out.upto ((ah.refl (fun _=>False) wr).alloc (.cells #[.int .i64 o.k, .int .i64 o.w, .int .i64 o.a, .int .i64 o.b, .int .i64 o.c, .int .u32 o.kn, .int .i64 o.n] 31)) id)
       have UA:=κ (U.out.alloc (.cells #[.int .i64 o.k, .int .i64 o.w, .int .i64 o.a, .int .i64 o.b, .int .i64 o.c, .int .u32 o.kn, .int .i64 o.n] 31))
       go_wp2_with (go_at_call 48;refine(OI.out _ GA.out).mono ?_;rintro e w5 ⟨rfl,g5,u5⟩;have G5:=κ g5;have B5:=κ (BA.out.upto u5 (NSG.out _ LB.out));have U5:=κ (Gn.ah.trans' UA.out u5 (fun i hi=>NSG.out i (by have:=LB.out;omega)));clear g5 u5)
       go_roundg (os.length-(i+1))
       case measure=>have:=HK.out;have:=jg.out;omega
       case rel=>exact⟨i+1,rfl,jg.out,by simp,G5,B5,U5⟩
      ·obtain rfl:i=os.length:=by omega
       have hG:=G.out
       obtain⟨v,cv,ow,_⟩:=hG.cw
       rw [KF.out.2.2.2.2] at cv
       have lh:B+1<wr.heap.size:=by have:=hG.l;rw [KF.out.2.2.2.2] at this;exact this
       have OW:=κ ow
       have GF:=κ hG.lb
       obtain⟨av,nv,cpv,rfl⟩:=ow.sl
       clear ow hG
       go_wp2
       refine bodyPost_ret (v:= .tuple #[.slice av nv cpv, .int .i64 0]) (by simp [results,Try.results11,go_sem]) rfl ⟨_,rfl, ?_,U.out.below (Nat.le_refl _) (fun _ _=>id)⟩
       have h:=OW.out
       obtain⟨h1,h2⟩:=h
       refine⟨h1, ?_⟩
       rcases h2 with h2 | ⟨gg,cc,cur,e1,e2,e3,e4⟩
       ·exact .inl h2
       ·exact .inr ⟨gg,cc,cur,e1,by rw [KF.out.1] at e2;exact Nat.le_trans (by have:=lB_;omega) e2,e3,e4⟩
end Go.Proofs.Ytcjcmnnhmajocab.Gn
