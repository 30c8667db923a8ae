import Derived.Handy
import Derived.Test.YtcjcmnnhmajocabGreatPmat
set_option linter.unusedVariables false
set_option linter.unusedSimpArgs false
set_option maxRecDepth 100000
set_option maxHeartbeats 16000000
namespace Go.Proofs.YtcjcmnnhmajocabGreat.Lf
open Go.RowKit Kt Ic Me
open Ot (fC OB)
structure Kc where
 h:Nat
 base:Nat
def own (K:Kc) (W:World) (i:Nat):Prop:=∃v,W.cell? ⟨K.h,3,none⟩=some v∧v.ownBlock=some i
def SW (K:Kc) (W:World):Nat→Prop:=fun i=>i=K.h∨own K W i
structure UW (K:Kc) (W W':World):Prop where
 u:ah (SW K W) W W'
 ow:∀i,own K W' i→own K W i∨W.heap.size≤i
theorem UW.refl (K:Kc) (W:World):UW K W W:=⟨ah.refl _ _,fun i h=> .inl h⟩
theorem UW.trans {K:Kc} {a b c:World} (h:UW K a b) (k:UW K b c):UW K a c:=
 ⟨⟨k.u.os.trans h.u.os,k.u.tape.trans h.u.tape,k.u.output.trans h.u.output,Nat.le_trans h.u.size k.u.size,fun i hi hs=>(k.u.block i (Nat.lt_of_lt_of_le hi h.u.size) fun e=>by
   rcases e with e | e
   ·exact hs (.inl e)
   ·rcases h.ow i e with e | e
    ·exact hs (.inr e)
    ·omega).trans (h.u.block i hi hs)⟩,
  fun i e=>(k.ow i e).elim (h.ow i) fun e=> .inr (Nat.le_trans h.u.size e)⟩
theorem UW.quiet {K:Kc} {W W':World} (hl:K.h<W.heap.size) (u:ah (fun _=>False) W W'):UW K W W':=
 ⟨u.mono fun _ _ h=>h.elim,fun i ⟨v,h1,h2⟩=> .inl ⟨v,(u.cell (q:=⟨K.h,3,none⟩) hl id).symm.trans h1,h2⟩⟩
theorem UW.below {K:Kc} {W W':World} (hl:K.h<W.heap.size) (u:Below W.heap.size W W'):UW K W W':=UW.quiet hl (ah.ak u)
theorem UW.alloc {K:Kc} {W:World} (hl:K.h<W.heap.size) (o:Obj):UW K W (W.alloc o):=UW.quiet hl ((ah.refl _ W).alloc o)
theorem UW.drew {K:Kc} {W:World} (hl:K.h<W.heap.size):UW K W W.drew:=UW.quiet hl (ah.refl _ W).drew
theorem UW.sU {K:Kc} {W:World} (j:Nat) (hj:j≠3) (v:Value):UW K W (W.setCell ⟨K.h,j,none⟩ v):=by
 refine⟨(ah.refl _ W).setCell (q:=⟨K.h,j,none⟩) (.inl (.inl rfl)) v,fun i h=> ?_⟩
 obtain⟨x,h1,h2⟩:=h
 exact .inl ⟨x,(HM.aH (fun e=>hj e.symm)).symm.trans h1,h2⟩
theorem UW.Hg {K:Kc} {W W':World} (hl:K.h<W.heap.size) (v v':Value) (h0:W.cell? ⟨K.h,3,none⟩=some v) (nh:¬v.ownBlock=some K.h) (u:ah (fun i=>v.ownBlock=some i) W W') (hk:v'.ownBlock=v.ownBlock∨v'.ownBlock=some W.heap.size):UW K W (W'.setCell ⟨K.h,3,none⟩ v'):=by
 refine⟨(u.mono fun i _ e=> .inr ⟨v,h0,e⟩).setCell (q:=⟨K.h,3,none⟩) (.inl (.inl rfl)) v',fun i h=> ?_⟩
 obtain⟨x,h1,h2⟩:=h
 have e1:(W'.setCell ⟨K.h,3,none⟩ v').cell? ⟨K.h,3,none⟩=some v':=World.cell?_setCell_same _ _ _ ((u.cell (q:=⟨K.h,3,none⟩) hl nh).trans h0)
 obtain rfl:v'=x:=Option.some.inj (e1.symm.trans h1)
 rcases hk with hk | hk
 ·exact .inl ⟨v,h0,hk▸h2⟩
 ·rw [hk] at h2
  exact .inr (by have:=Option.some.inj h2;omega)
def mc (s:Lk) (j:Nat):Value:=
 if j=0 then .int .u32 s.jg else if j=1 then .int .i64 s.aj else if j=2 then .int .i64 s.aN else if j=4 then .int .u32 s.pc else if j=5 then .int .u32 s.nx
 else if j<14 then .int .i64 (s.reg (j-6)) else if j=14 then .bool s.kn else if j=15 then .int .i64 s.kd else if j=16 then .int .i64 s.fa else if j=17 then .int .i64 s.fb else .int .i64 s.fo
structure LM (K:Kc) (s:Lk) (W:World):Prop where
 c:∀j,j<19→j≠3→W.cell? ⟨K.h,j,none⟩=some (mc s j)
 o:∃v,W.cell? ⟨K.h,3,none⟩=some v∧fC K.base v s.ops W
 z:∀j,W.frozen? ⟨K.h,j,none⟩=false
 lh:K.h<K.base
 lb:K.base≤W.heap.size
variable {K:Kc} {s:Lk} {W W':World}
theorem LM.l (a:LM K s W):K.h<W.heap.size:=Nat.lt_of_lt_of_le a.lh a.lb
theorem LM.upto {S:Nat→Prop} (a:LM K s W) (u:ah S W W') (hS:∀i,S i→i<K.base∧i≠K.h∨W.heap.size≤i):LM K s W':=by
 have hb:=a.lb
 have hh:=a.lh
 have nh:¬S K.h:=fun h=>(hS _ h).elim (fun e=>e.2 rfl) fun e=>by omega
 have e:∀j,W'.cell? ⟨K.h,j,none⟩=W.cell? ⟨K.h,j,none⟩:=fun j=>u.cell (q:=⟨K.h,j,none⟩) a.l nh
 obtain⟨v,h1,h2⟩:=a.o
 exact⟨fun j h3 h4=>(e j).trans (a.c j h3 h4),⟨v,(e _).trans h1,h2.upto u fun k hk hs=>by have:=h2.blk k hk;rcases hS k hs with h | h<;>omega⟩,fun j=>(u.frozen (q:=⟨K.h,j,none⟩) a.l nh).trans (a.z j),a.lh,Nat.le_trans hb u.size⟩
theorem LM.quiet (a:LM K s W) (u:ah (fun _=>False) W W'):LM K s W':=a.upto u fun _ h=>h.elim
theorem LM.below (a:LM K s W) (u:Below W.heap.size W W'):LM K s W':=a.quiet (ah.ak u)
theorem LM.drew (a:LM K s W):LM K s W.drew:=a.quiet (ah.refl _ W).drew
theorem LM.alloc (a:LM K s W) (o:Obj):LM K s (W.alloc o):=a.quiet ((ah.refl _ W).alloc o)
theorem LM.xA (a:LM K s W) (i:Nat) (v:Value) (s':Lk) (hi:i≠3) (ho:s'.ops=s.ops) (e:∀j,j<19→j≠3→mc s' j=if j=i then v else mc s j):LM K s' (W.setCell ⟨K.h,i,none⟩ v):=by
 have u:ah (fun i=>i=K.h) W (W.setCell ⟨K.h,i,none⟩ v):=(ah.refl (fun i=>i=K.h) W).setCell (q:=⟨K.h,i,none⟩) (.inl rfl) _
 obtain⟨x,h1,h2⟩:=a.o
 refine⟨fun j h3 h4=> ?_,⟨x,(HM.aH (fun e=>hi e.symm)).trans h1,by rw [ho];exact h2.upto u fun k hk e=>by have:=(h2.blk k hk).1;have:=a.lh;omega⟩,fun j=>by simpa using a.z j,a.lh,by simpa using a.lb⟩
 rw [e j h3 h4]
 by_cases ej:j=i
 ·subst ej;rw [if_pos rfl];exact World.cell?_setCell_same _ _ _ (a.c j h3 h4)
 ·rw [if_neg ej,HM.aH ej];exact a.c j h3 h4
theorem LM.Ec (a:LM K s W) (r:Nat) (hr:r<8) (x:Int):LM K (s.bI r x) (W.setCell ⟨K.h,6+r,none⟩ (.int .i64 x)):=by
 refine a.xA (6+r) _ _ (by omega) rfl fun j hj h3=> ?_
 by_cases e:j=6+r
 ·subst e
  rw [if_pos rfl]
  unfold mc
  rw [if_neg (by omega),if_neg (by omega),if_neg (by omega),if_neg (by omega),if_neg (by omega),if_pos (by omega)]
  show Value.int .i64 (aF s.reg r x (6+r-6))=_
  rw [show 6+r-6=r by omega];simp [aF]
 ·rw [if_neg e]
  unfold mc
  by_cases h14:6≤j∧j<14
  ·rw [if_neg (by omega),if_neg (by omega),if_neg (by omega),if_neg (by omega),if_neg (by omega),if_pos h14.2,if_neg (by omega),if_neg (by omega),if_neg (by omega),if_neg (by omega),if_neg (by omega),if_pos h14.2]
   show Value.int .i64 (aF s.reg r x (j-6))=_
   simp [aF,show¬j-6=r by omega]
  ·by_cases h6:j<6
   ·rcases(show j=0∨j=1∨j=2∨j=4∨j=5 by omega) with rfl | rfl | rfl | rfl | rfl<;>rfl
   ·rcases(show j=14∨j=15∨j=16∨j=17∨j=18 by omega) with rfl | rfl | rfl | rfl | rfl<;>rfl
theorem iH {P:Nat→Prop} (h:P 0∧P 1∧P 2∧P 4∧P 5∧P 6∧P 7∧P 8∧P 9∧P 10∧P 11∧P 12∧P 13∧P 14∧P 15∧P 16∧P 17∧P 18):∀j,j<19→j≠3→P j:=fun j hj h3=>by
 obtain⟨p0,p1,p2,p4,p5,p6,p7,p8,p9,p10,p11,p12,p13,p14,p15,p16,p17,p18⟩:=h
 rcases(show j=0∨j=1∨j=2∨j=4∨j=5∨j=6∨j=7∨j=8∨j=9∨j=10∨j=11∨j=12∨j=13∨j=14∨j=15∨j=16∨j=17∨j=18 by omega) with rfl | rfl | rfl | rfl | rfl | rfl | rfl | rfl | rfl | rfl | rfl | rfl | rfl | rfl | rfl | rfl | rfl | rfl<;>assumption
theorem LM.WL (a:LM K s W) (x:Int):LM K {s with aj:=x} (W.setCell ⟨K.h,1,none⟩ (.int .i64 x)):=
 a.xA 1 _ _ (by decide) rfl (iH ⟨rfl,rfl,rfl,rfl,rfl,rfl,rfl,rfl,rfl,rfl,rfl,rfl,rfl,rfl,rfl,rfl,rfl,rfl⟩)
theorem LM.WO (a:LM K s W) (x:Int):LM K {s with aN:=x} (W.setCell ⟨K.h,2,none⟩ (.int .i64 x)):=
 a.xA 2 _ _ (by decide) rfl (iH ⟨rfl,rfl,rfl,rfl,rfl,rfl,rfl,rfl,rfl,rfl,rfl,rfl,rfl,rfl,rfl,rfl,rfl,rfl⟩)
theorem LM.jk (a:LM K s W) (x:Int):LM K {s with pc:=x} (W.setCell ⟨K.h,4,none⟩ (.int .u32 x)):=
 a.xA 4 _ _ (by decide) rfl (iH ⟨rfl,rfl,rfl,rfl,rfl,rfl,rfl,rfl,rfl,rfl,rfl,rfl,rfl,rfl,rfl,rfl,rfl,rfl⟩)
theorem LM.Ut (a:LM K s W) (x:Int):LM K {s with nx:=x} (W.setCell ⟨K.h,5,none⟩ (.int .u32 x)):=
 a.xA 5 _ _ (by decide) rfl (iH ⟨rfl,rfl,rfl,rfl,rfl,rfl,rfl,rfl,rfl,rfl,rfl,rfl,rfl,rfl,rfl,rfl,rfl,rfl⟩)
theorem LM.AZ (a:LM K s W) (k x y o:Int):LM K (s.gU k x y o) (((((W.setCell ⟨K.h,14,none⟩ (.bool true)).setCell ⟨K.h,15,none⟩ (.int .i64 k)).setCell ⟨K.h,16,none⟩ (.int .i64 x)).setCell ⟨K.h,17,none⟩ (.int .i64 y)).setCell ⟨K.h,18,none⟩ (.int .i64 o)):=by
 have a1:LM K {s with kn:=true} _:=a.xA 14 (.bool true) _ (by decide) rfl (iH ⟨rfl,rfl,rfl,rfl,rfl,rfl,rfl,rfl,rfl,rfl,rfl,rfl,rfl,rfl,rfl,rfl,rfl,rfl⟩)
 have a2:LM K {s with kn:=true,kd:=k} _:=a1.xA 15 (.int .i64 k) _ (by decide) rfl (iH ⟨rfl,rfl,rfl,rfl,rfl,rfl,rfl,rfl,rfl,rfl,rfl,rfl,rfl,rfl,rfl,rfl,rfl,rfl⟩)
 have a3:LM K {s with kn:=true,kd:=k,fa:=x} _:=a2.xA 16 (.int .i64 x) _ (by decide) rfl (iH ⟨rfl,rfl,rfl,rfl,rfl,rfl,rfl,rfl,rfl,rfl,rfl,rfl,rfl,rfl,rfl,rfl,rfl,rfl⟩)
 have a4:LM K {s with kn:=true,kd:=k,fa:=x,fb:=y} _:=a3.xA 17 (.int .i64 y) _ (by decide) rfl (iH ⟨rfl,rfl,rfl,rfl,rfl,rfl,rfl,rfl,rfl,rfl,rfl,rfl,rfl,rfl,rfl,rfl,rfl,rfl⟩)
 exact a4.xA 18 (.int .i64 o) _ (by decide) rfl (iH ⟨rfl,rfl,rfl,rfl,rfl,rfl,rfl,rfl,rfl,rfl,rfl,rfl,rfl,rfl,rfl,rfl,rfl,rfl⟩)
theorem UW.AZ (v1 v2 v3 v4 v5:Value):UW K W (((((W.setCell ⟨K.h,14,none⟩ v1).setCell ⟨K.h,15,none⟩ v2).setCell ⟨K.h,16,none⟩ v3).setCell ⟨K.h,17,none⟩ v4).setCell ⟨K.h,18,none⟩ v5):=
 ((((UW.sU 14 (by decide) v1).trans (UW.sU 15 (by decide) v2)).trans (UW.sU 16 (by decide) v3)).trans (UW.sU 17 (by decide) v4)).trans (UW.sU 18 (by decide) v5)
theorem LM.Hg (a:LM K s W) (x:aV) (v v':Value) (h0:fC K.base v s.ops W) (u':ah (fun i=>v.ownBlock=some i) W W') (h2:fC K.base v' (s.ops++ [x]) W'):LM K (s.put x) (W'.setCell ⟨K.h,3,none⟩ v'):=by
 have nb:∀i,i<K.base→¬v.ownBlock=some i:=fun i hi e=>by have:=(h0.blk i e).1;omega
 have b:∀j,W'.cell? ⟨K.h,j,none⟩=W.cell? ⟨K.h,j,none⟩:=fun j=>u'.cell (q:=⟨K.h,j,none⟩) a.l (nb _ a.lh)
 have u:ah (fun i=>i=K.h) W' (W'.setCell ⟨K.h,3,none⟩ v'):=(ah.refl (fun i=>i=K.h) W').setCell (q:=⟨K.h,3,none⟩) (.inl rfl) v'
 obtain⟨x0,h1,_⟩:=a.o
 exact⟨fun j h3 h4=>(HM.aH h4).trans ((b j).trans (a.c j h3 h4)),⟨v',World.cell?_setCell_same _ _ _ ((b 3).trans h1),h2.upto u fun k hk e=>by have:=(h2.blk k hk).1;have:=a.lh;omega⟩,
  fun j=>(by simp:(W'.setCell ⟨K.h,3,none⟩ v').frozen? ⟨K.h,j,none⟩=W'.frozen? ⟨K.h,j,none⟩).trans ((u'.frozen (q:=⟨K.h,j,none⟩) a.l (nb _ a.lh)).trans (a.z j)),a.lh,Nat.le_trans a.lb (Nat.le_trans u'.size u.size)⟩
theorem LM.own (a:LM K s W) {i:Nat} (h:own K W i):K.base≤i∧i<W.heap.size:=by
 obtain⟨v,h1,h2⟩:=a.o
 obtain⟨x,h3,h4⟩:=h
 obtain rfl:v=x:=Option.some.inj (h1.symm.trans h3)
 exact h2.blk i h4
theorem Fj {b:Nat} (a:LM K s W) (hb:W.heap.size≤b) (u:ah (fun _=>False) W W'):¬Lf.own K W' b:=fun h=>by
 obtain⟨v,h1,h2⟩:=h
 have:=(a.own ⟨v,(u.cell (q:=⟨K.h,3,none⟩) a.l id).symm.trans h1,h2⟩).2
 omega
open Ot (fC OB)
variable {K:Kc} {s:Lk}
theorem cO (o:aV) (w:World) (a:LM K s w) (hn:s.ops.length<1000000000):
  Calls Tryz.prog 54 #[.pointer (some ⟨K.h,0,none⟩), .agg #[.int .i64 o.k, .int .i64 o.w, .int .i64 o.a, .int .i64 o.b, .int .i64 o.c, .int .u32 o.kn, .int .i64 o.n]] w fun e w'=>e= .returned (.int .i64 s.n)∧LM K (s.put o) w'∧UW K w w':=by
 have a1:=a.alloc (.cells #[.int .i64 o.k, .int .i64 o.w, .int .i64 o.a, .int .i64 o.b, .int .i64 o.c, .int .u32 o.kn, .int .i64 o.n] 115)
 have hO:OB w.heap.size o (w.alloc (.cells #[.int .i64 o.k, .int .i64 o.w, .int .i64 o.a, .int .i64 o.b, .int .i64 o.c, .int .u32 o.kn, .int .i64 o.n] 115)):=OB.new w o 115
 obtain⟨v,c0,ow⟩:=a1.o
 have l:=a1.l
 obtain⟨ao,cap,rfl,_,_⟩:=ow.form
 obtain⟨b1,b2,b3,b4,b5,b6,b7⟩:=hO.all
 have HN:=κ (show s.n=(s.ops.length:Int) from rfl)
 have HNL:=κ hn
 generalize s.n=nx at HN⊢
 have u2:ah (fun _=>False) (w.alloc (.cells #[.int .i64 o.k, .int .i64 o.w, .int .i64 o.a, .int .i64 o.b, .int .i64 o.c, .int .u32 o.kn, .int .i64 o.n] 115)) ((w.alloc (.cells #[.int .i64 o.k, .int .i64 o.w, .int .i64 o.a, .int .i64 o.b, .int .i64 o.c, .int .u32 o.kn, .int .i64 o.n] 115)).drew.alloc (.cells #[.int .i64 o.k, .int .i64 o.w, .int .i64 o.a, .int .i64 o.b, .int .i64 o.c, .int .u32 o.kn, .int .i64 o.n] 115)):=((ah.refl _ _).drew).alloc _
 have A2:=κ (a1.quiet u2)
 have OW2:=κ (ow.upto u2 fun _ _=>id)
 have U2:Hid (UW K w ((w.alloc (.cells #[.int .i64 o.k, .int .i64 o.w, .int .i64 o.a, .int .i64 o.b, .int .i64 o.c, .int .u32 o.kn, .int .i64 o.n] 115)).drew.alloc (.cells #[.int .i64 o.k, .int .i64 o.w, .int .i64 o.a, .int .i64 o.b, .int .i64 o.c, .int .u32 o.kn, .int .i64 o.n] 115))):=(UW.alloc a.l _).trans (UW.quiet a1.l u2)
 have hB:Hid (∀j u,o.cells[j]?=some u→((w.alloc (.cells #[.int .i64 o.k, .int .i64 o.w, .int .i64 o.a, .int .i64 o.b, .int .i64 o.c, .int .u32 o.kn, .int .i64 o.n] 115)).drew.alloc (.cells #[.int .i64 o.k, .int .i64 o.w, .int .i64 o.a, .int .i64 o.b, .int .i64 o.c, .int .u32 o.kn, .int .i64 o.n] 115)).cell? ⟨w.heap.size+1,j,none⟩=some u):=fun j u hj=>by
  have h:=(OB.new (w.alloc (.cells #[.int .i64 o.k, .int .i64 o.w, .int .i64 o.a, .int .i64 o.b, .int .i64 o.c, .int .u32 o.kn, .int .i64 o.n] 115)).drew o 115).2 j u hj
  rw [show(w.alloc (.cells #[.int .i64 o.k, .int .i64 o.w, .int .i64 o.a, .int .i64 o.b, .int .i64 o.c, .int .u32 o.kn, .int .i64 o.n] 115)).drew.heap.size=w.heap.size+1 by simp] at h
  exact h
 have l0:K.h<w.heap.size:=a.l
 have l1:K.h<w.heap.size+1:=by omega
 have lo:w.heap.size<(w.alloc (.cells #[.int .i64 o.k, .int .i64 o.w, .int .i64 o.a, .int .i64 o.b, .int .i64 o.c, .int .u32 o.kn, .int .i64 o.n] 115)).heap.size:=hO.1
 have C2:=κ ((u2.cell (q:=⟨K.h,3,none⟩) a1.l id).trans c0)
 clear a a1 hO hn u2 ow
 go_enter Tryz.func54,Tryz.ntmps54
 go_wp2
 go_region_law (refine Ot.QH rfl (.tmp 10) (.tmp 12) rfl K.base (.slice ao s.ops.length cap) s.ops (by simp [Act.eval,Act.put]) OW2.out A2.out.lb (w.heap.size+1) 1 o (by simp [Act.eval,Act.put]) hB.out (by have:=HNL.out;omega) ?_;intro v' w2 ow' u' CG;have nb:¬ (Value.slice ao s.ops.length cap).ownBlock=some K.h:=(fun e=>by have:=(OW2.out.blk _ e).1;have:=A2.out.lh;omega);have cc2:w2.cell? ⟨K.h,3,none⟩=some (.slice ao s.ops.length cap):=(u'.cell (q:=⟨K.h,3,none⟩) A2.out.l nb).trans C2.out;have zz2:w2.frozen? ⟨K.h,3,none⟩=false:=(u'.frozen (q:=⟨K.h,3,none⟩) A2.out.l nb).trans (A2.out.z 3);have YW:K.h<w2.heap.size:=Nat.lt_of_lt_of_le A2.out.l u'.size;have A3:=κ (A2.out.Hg o _ v' OW2.out u' ow');have U3:=κ (U2.out.trans (UW.Hg A2.out.l _ v' C2.out nb u' CG));obtain⟨ao',aaP,hv',_⟩:=ow'.form;obtain⟨n',Uw⟩:∃n',(s.ops++ [o]).length=n':=⟨_,rfl⟩;rw [Uw] at hv';have HN':=κ Uw;clear ow' u' CG Uw nb;subst hv';have e9:=World.cell?_setCell_same w2 ⟨K.h,3,none⟩ (.slice ao' n' aaP) cc2)
 all_goals
  generalize w2.setCell ⟨K.h,3,none⟩ (.slice ao' n' aaP)=w9 at*
 all_goals
  have en:(n':Int)-1=nx:=by have h:=HN'.out;simp at h;have:=HN.out;omega
  have b0:0≤nx:=by have:=HN.out;omega
  have b1:nx<1000000000:=by have:=HN.out;have:=HNL.out;omega
  have ew:wrap64 nx=nx:=Go.IntWalk.wrap64_in _ (by omega)
  clear cc2 zz2 YW c0 l l0 l1 lo b1 b2 b3 b4 b5 b6 b7
  go_wp2
  go_ret
  refine⟨?_,A3.out,U3.out⟩
  show Ending.returned (.int .i64 (wrap64 nx))=_
  rw [ew]
theorem dF (x:Int) (w:World) (a:LM K s w) (hn:s.ops.length<1000000000):
  Calls Tryz.prog 117 #[.pointer (some ⟨K.h,0,none⟩), .int .u32 x] w fun e w'=>e= .returned (.int .i64 (s.K x).1)∧LM K (s.K x).2 w'∧UW K w w':=by
 have P:=κ (cO (s:=s) (K:=K) ⟨1,0,0,0,0,x,0⟩ w a hn)
 clear a hn
 go_enter Tryz.func117,Tryz.ntmps117
 go_wp2_with (go_at_call 54;refine P.out.mono ?_;rintro e w1 ⟨rfl,A1,U1⟩;have H1:=κ A1;have V1:=κ U1;clear A1 U1)
 go_ret
 exact⟨rfl,H1.out,V1.out⟩
theorem dQ (x y z:Int) (w:World) (a:LM K s w) (hn:s.ops.length<1000000000):
  Calls Tryz.prog 135 #[.pointer (some ⟨K.h,0,none⟩), .int .i64 x, .int .i64 y, .int .i64 z] w fun e w'=>e= .returned (.int .i64 (s.B x y z).1)∧LM K (s.B x y z).2 w'∧UW K w w':=by
 have P:=κ (cO (s:=s) (K:=K) ⟨4,x,y,z,0,0,0⟩ w a hn)
 clear a hn
 go_enter Tryz.func135,Tryz.ntmps135
 go_wp2_with (go_at_call 54;refine P.out.mono ?_;rintro e w1 ⟨rfl,A1,U1⟩;have H1:=κ A1;have V1:=κ U1;clear A1 U1)
 go_ret
 exact⟨rfl,H1.out,V1.out⟩
theorem yQ (x y:Int) (w:World) (a:LM K s w) (hn:s.ops.length<1000000000):
  Calls Tryz.prog 122 #[.pointer (some ⟨K.h,0,none⟩), .int .i64 x, .int .i64 y] w fun e w'=>e= .returned (.int .i64 (s.U x y).1)∧LM K (s.U x y).2 w'∧UW K w w':=by
 have P:=κ (cO (s:=s) (K:=K) ⟨5,x,y,0,0,0,0⟩ w a hn)
 clear a hn
 go_enter Tryz.func122,Tryz.ntmps122
 go_wp2_with (go_at_call 54;refine P.out.mono ?_;rintro e w1 ⟨rfl,A1,U1⟩;have H1:=κ A1;have V1:=κ U1;clear A1 U1)
 go_ret
 exact⟨rfl,H1.out,V1.out⟩
theorem Ry (x y z:Int) (w:World) (a:LM K s w) (hn:s.ops.length<1000000000):
  Calls Tryz.prog 186 #[.pointer (some ⟨K.h,0,none⟩), .int .i64 x, .int .i64 y, .int .i64 z] w fun e w'=>e= .returned (.int .i64 (s.S x y z).1)∧LM K (s.S x y z).2 w'∧UW K w w':=by
 have P:=κ (cO (s:=s) (K:=K) ⟨6,0,x,y,z,0,0⟩ w a hn)
 clear a hn
 go_enter Tryz.func186,Tryz.ntmps186
 go_wp2_with (go_at_call 54;refine P.out.mono ?_;rintro e w1 ⟨rfl,A1,U1⟩;have H1:=κ A1;have V1:=κ U1;clear A1 U1)
 go_ret
 exact⟨rfl,H1.out,V1.out⟩
theorem wH (x y:Int) (w:World) (a:LM K s w) (hn:s.ops.length<1000000000):
  Calls Tryz.prog 182 #[.pointer (some ⟨K.h,0,none⟩), .int .i64 x, .int .i64 y] w fun e w'=>e= .returned (.tuple #[])∧LM K (s.slot x y) w'∧UW K w w':=by
 have P:=κ (cO (s:=s) (K:=K) ⟨3,x,y,0,0,0,0⟩ w a hn)
 clear a hn
 go_enter Tryz.func182,Tryz.ntmps182
 go_wp2_with (go_at_call 54;refine P.out.mono ?_;rintro e w1 ⟨rfl,A1,U1⟩;have H1:=κ A1;have V1:=κ U1;clear A1 U1)
 go_end0
 exact⟨rfl,H1.out,V1.out⟩
end Go.Proofs.YtcjcmnnhmajocabGreat.Lf
namespace Go.Proofs.YtcjcmnnhmajocabGreat.Kt
open Go.RowKit
variable {P:Program} {ops:Array Oper} {S:World→Prop} {op:Oper} {a:Act}
theorem fV (hw:Region.wanted op (yielded ops a.tmps)=true) (x:Operand) (ho:op.op= .move x) (v:Value) (hx:a.eval x=v):YieldsIf P ops S op v a:=
 .inl ⟨hw,fun w _=>by unfold execOp;simp only [ho,hx];rfl⟩
theorem qN (hw:Region.wanted op (yielded ops a.tmps)=true) (x:Operand) (ho:op.op= .assign x) (v:Value) (hx:a.eval x=v):YieldsIf P ops S op v a:=
 .inl ⟨hw,fun w _=>by unfold execOp;simp only [ho,hx];rfl⟩
theorem jc (hw:Region.wanted op (yielded ops a.tmps)=true) (t:TypeId) (x:Operand) (k:Nat) (ho:op.op= .fieldAddr t x k) (u v:Value) (hx:a.eval x=u) (hf:∀w:World,(Instr.fieldAt t u k).run P w= .ok v w):YieldsIf P ops S op v a:=
 .inl ⟨hw,fun w _=>by unfold execOp;simp only [ho,hx,Sem.run_bind,hf w,Result.andThen_ok];rfl⟩
theorem WQ (hw:Region.wanted op (yielded ops a.tmps)=true) (b:BinOp) (t:TypeId) (x y:Operand) (t2:TypeId) (ho:op.op= .binOp b t x y t2) (u v r:Value) (hx:a.eval x=u) (hy:a.eval y=v)
  (hr:∀w:World,(do eqGuard b t x y u v;binOp b t u v:Sem Value).run P w= .ok r w):YieldsIf P ops S op r a:=
 .inl ⟨hw,fun w _=>by
  unfold execOp
  simp only [ho,hx,hy]
  rw [Sem.run_bind,hr w,Result.andThen_ok];rfl⟩
theorem kK (hw:Region.wanted op (yielded ops a.tmps)=true) (t:TypeId) (x:Operand) (ho:op.op= .load t x) (u v:Value) (hx:a.eval x=u) (hl:∀w,S w→(Instr.loadAt t u).run P w= .ok v w):YieldsIf P ops S op v a:=
 .inl ⟨hw,fun w h=>by unfold execOp;simp only [ho,hx,Sem.run_bind,hl w h,Result.andThen_ok];rfl⟩
variable {P:Program} {ops:Array Oper} {S:World→Prop} {op:Oper} {a:Act}
theorem lu (hw:Region.wanted op (yielded ops a.tmps)=true) (x:Operand) (ho:op.op= .nilCheck x) (p:Addr) (hx:a.eval x= .pointer (some p)):YieldsIf P ops S op (.pointer (some p)) a:=
 .inl ⟨hw,fun w _=>by unfold execOp;simp only [ho,hx];rfl⟩
theorem LW (hw:Region.wanted op (yielded ops a.tmps)=true) (s d:TypeId) (x:Operand) (ho:op.op= .convert s d x) (u v:Value) (hx:a.eval x=u) (hf:∀w:World,(convert s d u).run P w= .ok v w):YieldsIf P ops S op v a:=
 .inl ⟨hw,fun w _=>by unfold execOp;simp only [ho,hx,Sem.run_bind,hf w,Result.andThen_ok];rfl⟩
theorem qO (hw:Region.wanted op (yielded ops a.tmps)=true) (t:TypeId) (ps:Array (Nat×Operand)) (ho:op.op= .build t ps) (us:Array (Nat×Value)) (v:Value) (hx:(ps.map fun(i,x)=>(i,a.eval x))=us) (hf:∀w:World,(Instr.build t us).run P w= .ok v w):YieldsIf P ops S op v a:=
 .inl ⟨hw,fun w _=>by unfold execOp;simp only [ho,hx,Sem.run_bind,hf w,Result.andThen_ok];rfl⟩
end Go.Proofs.YtcjcmnnhmajocabGreat.Kt
namespace Go.Proofs.YtcjcmnnhmajocabGreat.Lf
open Go.RowKit Kt Ic Me
open Ot (fC OB)
variable {K:Kc} {s:Lk}
theorem Lk.yR (s:Lk) (o:aV):(s.put o).ops.length=s.ops.length+1:=by show(s.ops++ [o]).length=_;simp
theorem nM (w:World) (a:LM K s w) (hc:1≤s.aj∧s.aj≤64):Calls Tryz.prog 130 #[.pointer (some ⟨K.h,0,none⟩)] w fun e w'=>e= .returned (.int .i64 (s.aj-1))∧w'=w:=by
 have c1:w.cell? ⟨K.h,1,none⟩=some (.int .i64 s.aj):=a.c 1 (by decide) (by decide)
 have l:=a.l
 clear a
 generalize s.aj=n at*
 obtain⟨h1,h2⟩:=hc
 have ew:wrap64 (n-1)=n-1:=Go.IntWalk.wrap64_in _ (by omega)
 go_enter Tryz.func130,Tryz.ntmps130
 go_wp2
 go_ret
 exact⟨by first | rfl | (show Ending.returned (.int .i64 (wrap64 (n-1)))=_;rw [ew]),rfl⟩
theorem kW (x y:Int) (w:World) (a:LM K s w) (hc:1≤s.aj∧s.aj≤64) (hn:s.ops.length<1000000000):
  Calls Tryz.prog 126 #[.pointer (some ⟨K.h,0,none⟩), .int .i64 x, .int .i64 y] w fun e w'=>e= .returned (.int .i64 (s.load x y).1)∧LM K (s.load x y).2 w'∧UW K w w':=by
 have c4:w.cell? ⟨K.h,4,none⟩=some (.int .u32 s.pc):=a.c 4 (by decide) (by decide)
 have l:=a.l
 have P:=κ (cO (s:=s) (K:=K) ⟨9,x,y,0,0,s.pc,s.aj-1⟩ w.drew a.drew hn)
 have D:=κ (nM w.drew a.drew hc)
 have U0:=κ (UW.drew (W:=w) a.l)
 clear a hn hc
 go_enter Tryz.func126,Tryz.ntmps126
 go_upto_region 1 with fail
 go_region_with (first
  | (go_at_call 130;refine D.out.mono ?_;rintro e w0 ⟨rfl,rfl⟩)
  | (go_at_call 54;refine P.out.mono ?_;rintro e w1 ⟨rfl,A1,U1⟩;have H1:=κ A1;have V1:=κ U1;clear A1 U1))
 all_goals go_wp2
 all_goals go_ret
 all_goals exact⟨rfl,H1.out,U0.out.trans V1.out⟩
theorem kP (x y z:Int) (w:World) (a:LM K s w) (hc:1≤s.aj∧s.aj≤64) (hn:s.ops.length<1000000000):
  Calls Tryz.prog 127 #[.pointer (some ⟨K.h,0,none⟩), .int .i64 x, .int .i64 y, .int .i64 z] w fun e w'=>e= .returned (.tuple #[])∧LM K (s.store x y z) w'∧UW K w w':=by
 have c4:w.cell? ⟨K.h,4,none⟩=some (.int .u32 s.pc):=a.c 4 (by decide) (by decide)
 have l:=a.l
 have P:=κ (cO (s:=s) (K:=K) ⟨10,x,y,z,0,s.pc,s.aj-1⟩ w.drew a.drew hn)
 have D:=κ (nM w.drew a.drew hc)
 have U0:=κ (UW.drew (W:=w) a.l)
 clear a hn hc
 go_enter Tryz.func127,Tryz.ntmps127
 go_region_with (first
  | (go_at_call 130;refine D.out.mono ?_;rintro e w0 ⟨rfl,rfl⟩)
  | (go_at_call 54;refine P.out.mono ?_;rintro e w1 ⟨rfl,A1,U1⟩;have H1:=κ A1;have V1:=κ U1;clear A1 U1))
 all_goals go_wp2
 all_goals go_end0
 all_goals exact⟨rfl,H1.out,U0.out.trans V1.out⟩
theorem kS (w:World) (a:LM K s w) (hc:1≤s.aj∧s.aj≤64) (hn:s.ops.length<1000000000):
  Calls Tryz.prog 128 #[.pointer (some ⟨K.h,0,none⟩)] w fun e w'=>e= .returned (.tuple #[])∧LM K s.watch w'∧UW K w w':=by
 have c5:w.cell? ⟨K.h,5,none⟩=some (.int .u32 s.nx):=a.c 5 (by decide) (by decide)
 have c1:w.cell? ⟨K.h,1,none⟩=some (.int .i64 s.aj):=a.c 1 (by decide) (by decide)
 have l:=a.l
 have P:=κ (cO (s:=s) (K:=K) ⟨11,0,0,0,0,s.nx,s.aj⟩ w.drew a.drew hn)
 have D:=κ (nM w.drew a.drew hc)
 have U0:=κ (UW.drew (W:=w) a.l)
 clear a hn hc
 go_enter Tryz.func128,Tryz.ntmps128
 go_region_with (first
  | (go_at_call 54;refine P.out.mono ?_;rintro e w1 ⟨rfl,A1,U1⟩;have H1:=κ A1;have V1:=κ U1;clear A1 U1))
 all_goals go_wp2
 all_goals go_end0
 all_goals exact⟨rfl,H1.out,U0.out.trans V1.out⟩
theorem pG (x:Int) (w:World) (a:LM K s w) (hc:1≤s.aj∧s.aj≤64) (hn:s.ops.length<1000000000):
  Calls Tryz.prog 131 #[.pointer (some ⟨K.h,0,none⟩), .int .u32 x] w fun e w'=>e= .returned (.tuple #[])∧LM K (s.goes x) w'∧UW K w w':=by
 have c1:w.cell? ⟨K.h,1,none⟩=some (.int .i64 s.aj):=a.c 1 (by decide) (by decide)
 have l:=a.l
 have P:=κ (cO (s:=s) (K:=K) ⟨15,0,0,0,0,x,s.aj⟩ w a hn)
 clear a hn hc
 go_enter Tryz.func131,Tryz.ntmps131
 go_wp2_with (go_at_call 54;refine P.out.mono ?_;rintro e w1 ⟨rfl,A1,U1⟩;have H1:=κ A1;have V1:=κ U1;clear A1 U1)
 go_end0
 exact⟨rfl,H1.out,V1.out⟩
theorem oC (x:Int) (w:World) (a:LM K s w) (hc:1≤s.aj∧s.aj≤64) (hn:s.ops.length<1000000000):
  Calls Tryz.prog 132 #[.pointer (some ⟨K.h,0,none⟩), .int .i64 x] w fun e w'=>e= .returned (.tuple #[])∧LM K (s.dK x) w'∧UW K w w':=by
 have c1:w.cell? ⟨K.h,1,none⟩=some (.int .i64 s.aj):=a.c 1 (by decide) (by decide)
 have l:=a.l
 have P:=κ (cO (s:=s) (K:=K) ⟨16,0,x,0,0,0,s.aj⟩ w a hn)
 clear a hn hc
 go_enter Tryz.func132,Tryz.ntmps132
 go_wp2_with (go_at_call 54;refine P.out.mono ?_;rintro e w1 ⟨rfl,A1,U1⟩;have H1:=κ A1;have V1:=κ U1;clear A1 U1)
 go_end0
 exact⟨rfl,H1.out,V1.out⟩
open Ot (fC OB)
variable {K:Kc} {s:Lk} {W W':World}
structure Bx (K:Kc) (b:Nat) (cs:Array Value) (W:World):Prop where
 l:b<W.heap.size
 c:∀ (j:Nat) (v:Value),cs[j]?=some v→W.cell? ⟨b,j,none⟩=some v
 z:∀j,W.frozen? ⟨b,j,none⟩=false
 n:¬SW K W b
theorem Bx.uw {b:Nat} {cs:Array Value} (h:Bx K b cs W) (u:UW K W W'):Bx K b cs W':=
 ⟨Nat.lt_of_lt_of_le h.l u.u.size,fun j v hj=>(u.u.cell (q:=⟨b,j,none⟩) h.l h.n).trans (h.c j v hj),fun j=>(u.u.frozen (q:=⟨b,j,none⟩) h.l h.n).trans (h.z j),fun e=>by
  rcases e with e | e
  ·exact h.n (.inl e)
  ·rcases u.ow b e with e | e
   ·exact h.n (.inr e)
   ·have:=h.l;omega⟩
theorem Bx.new {w:World} (a:LM K s w) (cs:Array Value) (t:TypeId):Bx K w.heap.size cs (w.alloc (.cells cs t)):=
 ⟨by simp,fun j v hj=>(cell_of_row _ _ _ _ _ _ (heap_alloc_new w _)).trans hj,fun j=>by simp,fun e=>by
  rcases e with e | e
  ·have:=a.l;omega
  ·exact Fj a (Nat.le_refl _) ((ah.refl (fun _=>False) w).alloc _) e⟩
theorem WR (s:Lk) {r:Nat} (hr:r<8):mc s (6+r)= .int .i64 (s.reg r):=by
 unfold mc
 rw [if_neg (by omega),if_neg (by omega),if_neg (by omega),if_neg (by omega),if_neg (by omega),if_pos (by omega),show 6+r-6=r by omega]
theorem LM.cr (a:LM K s W) {r:Nat} (hr:r<8):W.cell? ⟨K.h,6+r,none⟩=some (.int .i64 (s.reg r)):=(a.c (6+r) (by omega) (by omega)).trans (by rw [WR s hr])
theorem bU (r:Nat) (hr:r<8) (w:World) (a:LM K s w) (hn:s.ops.length<1000000000):
  Calls Tryz.prog 118 #[.pointer (some ⟨K.h,0,none⟩), .int .i64 r] w fun e w'=>e= .returned (.int .i64 (s.get r).1)∧LM K (s.get r).2 w'∧UW K w w':=by
 have cr:=a.cr hr
 have l:=a.l
 have r0:(0:Int)≤r:=by omega
 have r8:(r:Int) <8:=by omega
 unfold Lk.get
 by_cases e:s.reg r<0
 ·rw [if_pos e]
  have P:=κ (cO (s:=s) (K:=K) ⟨2,r,0,0,0,0,0⟩ w.drew a.drew hn)
  have U0:=κ (UW.drew (W:=w) a.l)
  have HR:=κ hr
  have HN:=κ (show s.n=(s.ops.length:Int) from rfl)
  have d0:decide (s.reg r<0)=true:=decide_eq_true e
  clear a hn
  go_enter Tryz.func118,Tryz.ntmps118
  go_upto_region 2 with fail
  go_region_with (go_at_call 54;refine P.out.mono ?_;rintro e w1 ⟨rfl,A1,U1⟩;have H1:=κ A1;have V1:=κ U1;have k1:=A1.cr HR.out;have z1:=A1.z (6+r);have l1:=A1.l;have H2:=κ (A1.Ec r HR.out s.n);have e1:=World.cell?_setCell_same w1 ⟨K.h,6+r,none⟩ (.int .i64 s.n) k1;have V2:=κ (UW.sU (K:=K) (W:=w1) (6+r) (by omega) (.int .i64 s.n));have l2:=H2.out.l;clear A1 U1)
  all_goals go_wp2
  all_goals go_ret
  all_goals exact⟨rfl,H2.out,(U0.out.trans V1.out).trans V2.out⟩
 ·rw [if_neg e]
  have A:=κ a
  have d0:decide (s.reg r<0)=false:=decide_eq_false e
  clear a hn e
  go_enter Tryz.func118,Tryz.ntmps118
  go_wp2
  go_ret
  exact⟨rfl,A.out,UW.refl _ _⟩
theorem dA (r:Nat) (x:Int) (hr:r<8) (w:World) (a:LM K s w) (hn:s.ops.length<1000000000):
  Calls Tryz.prog 116 #[.pointer (some ⟨K.h,0,none⟩), .int .i64 r, .int .i64 x] w fun e w'=>e= .returned (.tuple #[])∧LM K (s.set r x) w'∧UW K w w':=by
 have cr:=a.cr hr
 have zr:=a.z (6+r)
 have l:=a.l
 have r0:(0:Int)≤r:=by omega
 have r8:(r:Int) <8:=by omega
 have A1:=a.Ec r hr x
 have U1:=κ (UW.sU (K:=K) (W:=w) (6+r) (by omega) (.int .i64 x))
 have P:=κ (wH (s:=s.bI r x) (K:=K) r x _ A1 hn)
 clear a hn A1
 go_enter Tryz.func116,Tryz.ntmps116
 go_wp2_with (go_at_call 182;refine P.out.mono ?_;rintro e w1 ⟨rfl,A1,U2⟩;have H1:=κ A1;have V1:=κ U2;clear A1 U2)
 go_end0
 exact⟨rfl,H1.out,U1.out.trans V1.out⟩
theorem uU (x n:Int) (w:World) (a:LM K s w) (hn:s.ops.length+1<1000000000):
  Calls Tryz.prog 120 #[.pointer (some ⟨K.h,0,none⟩), .int .i64 x, .int .i64 n] w fun e w'=>e= .returned (.int .i64 (s.add x n).1)∧LM K (s.add x n).2 w'∧UW K w w':=by
 have P:=κ (dF (s:=s) (K:=K) (n%4294967296) w a (by omega))
 have N2:=κ (show(s.K (au n)).2.ops.length<1000000000 by show(s.put _).ops.length<_;rw [Lk.yR];omega)
 have hw:IntKind.u32.wrap n=n%4294967296:=IntKind.wrap_u32 n
 clear a hn
 go_enter Tryz.func120,Tryz.ntmps120
 go_wp2_with (first
  | (go_at_call 117;refine P.out.mono ?_;rintro e w1 ⟨rfl,A1,U1⟩;have H1:=κ A1;have V1:=κ U1;have P2:=κ (dQ (K:=K) 0 x (s.K (au n)).1 w1 A1 N2.out);clear A1 U1)
  | (go_at_call 135;refine P2.out.mono ?_;rintro e w2 ⟨rfl,A2,U2⟩;have H2:=κ A2;have V2:=κ U2;clear A2 U2))
 go_ret
 exact⟨rfl,H2.out,V1.out.trans V2.out⟩
theorem oG (o d f m:Int) (r:Nat) (hr:r<8) (w:World) (a:LM K s w) (hn:s.ops.length+2<1000000000):
  Calls Tryz.prog 124 #[.pointer (some ⟨K.h,0,none⟩), .agg #[.int .i64 o, .int .i64 d, .int .i64 r, .int .i64 f, .int .u32 m]] w fun e w'=>e= .returned (.int .i64 (s.ig r m).1)∧LM K (s.ig r m).2 w'∧UW K w w':=by
 have B0:=Bx.new a #[.int .i64 o, .int .i64 d, .int .i64 r, .int .i64 f, .int .u32 m] 74
 have a1:=(a.alloc (.cells #[.int .i64 o, .int .i64 d, .int .i64 r, .int .i64 f, .int .u32 m] 74)).drew
 have U0:=κ ((UW.alloc a.l (.cells #[.int .i64 o, .int .i64 d, .int .i64 r, .int .i64 f, .int .u32 m] 74)).trans (UW.drew (a.alloc _).l))
 have b2:=B0.c 2 _ rfl
 have b4:=B0.c 4 _ rfl
 have bl:=B0.l
 have BD:=κ (B0.uw (UW.drew (a.alloc _).l))
 have N1:=κ (show(s.get r).2.ops.length+1<1000000000 by
  unfold Lk.get
  split
  ·show(s.put _).ops.length+1<_;rw [Lk.yR];omega
  ·show s.ops.length+1<_;omega)
 have P:=κ (bU r hr _ a1 (by omega))
 clear a hn a1 B0
 go_enter Tryz.func124,Tryz.ntmps124
 go_upto_region 1 with fail
 go_region_with (first
  | (go_at_call 118;refine P.out.mono ?_;rintro e w1 ⟨rfl,A1,U1⟩;have H1:=κ A1;have V1:=κ U1;have B1:=κ (BD.out.uw U1);have k4:=B1.out.c 4 _ rfl;have kl:=B1.out.l;have P2:=κ (dF (K:=K) m w1 A1 (by have:=N1.out;omega));clear A1 U1)
  | (go_at_call 117;refine P2.out.mono ?_;rintro e w2 ⟨rfl,A2,U2⟩;have H2:=κ A2;have V2:=κ U2;have P3:=κ (dQ (K:=K) 0 (s.get r).1 ((s.get r).2.K m).1 w2 A2 (by have h1:=N1.out;have h2:=Lk.yR (s.get r).2 ⟨1,0,0,0,0,m,0⟩;show((s.get r).2.put _).ops.length<_;omega));clear A2 U2)
  | (go_at_call 135;refine P3.out.mono ?_;rintro e w3 ⟨rfl,A3,U3⟩;have H3:=κ A3;have V3:=κ U3;clear A3 U3))
 all_goals go_wp2
 all_goals go_ret
 all_goals exact⟨rfl,H3.out,U0.out.trans (V1.out.trans (V2.out.trans V3.out))⟩
end Go.Proofs.YtcjcmnnhmajocabGreat.Lf
