import Derived.Test.YtcjcmnnhmajocabGreatPmbi
set_option linter.unusedVariables false
set_option linter.unusedSimpArgs false
set_option maxRecDepth 100000
set_option maxHeartbeats 16000000
namespace Go.Proofs.YtcjcmnnhmajocabGreat.Lf
open Go.RowKit Kt Ic Me Gu St
open Ot (fC OB)
variable {K:Kc} {s:Lk} {W W':World}
theorem LM.yh {B:Nat} (a:LM K s W) (u:UW K W W') (h1:B≤K.h) (h2:B≤K.base):Below B W W':=
 u.u.below (Nat.le_trans h2 a.lb) fun i hi e=>by
  rcases e with e | e
  ·omega
  ·have:=(a.own e).1;omega
theorem LM.af5 {s':Lk} (a:LM K s W) (ho:s'.ops=s.ops) (e:∀j,j<19→j≠3→mc s' j=mc s j):LM K s' W:=
 ⟨fun j h3 h4=>(a.c j h3 h4).trans (by rw [e j h3 h4]),by rw [ho];exact a.o,a.z,a.lh,a.lb⟩
def UZ (pc:Int) (j:Nat):Lk:=⟨[],pc,0,0,pc,0,fun r=>if r<j then-1 else 0,false,0,0,0,0⟩
theorem acD (pc:Int) (a:LM K (UZ pc 8) W):LM K (Pv pc) W:=a.af5 rfl (iH ⟨rfl,rfl,rfl,rfl,rfl,rfl,rfl,rfl,rfl,rfl,rfl,rfl,rfl,rfl,rfl,rfl,rfl,rfl⟩)
theorem acE (pc:Int) (j:Nat) (h:j<8) (a:LM K (UZ pc j) W):LM K (UZ pc (j+1)) (W.setCell ⟨K.h,6+j,none⟩ (.int .i64 (-1))):=by
 have b:=a.Ec j h (-1)
 have e:UZ pc (j+1)=(UZ pc j).bI j (-1):=by
  unfold UZ Lk.bI
  congr 1
  funext r
  simp only [aF]
  by_cases h1:r=j
  ·rw [if_pos h1,if_pos (by omega)]
  ·rw [if_neg h1]
   by_cases h2:r<j
   ·rw [if_pos h2,if_pos (by omega)]
   ·rw [if_neg h2,if_neg (by omega)]
 rw [e];exact b
theorem Yu (most:Int):(if 64<(if most<1 then 1 else most) then(64:Int) else if most<1 then 1 else most)=(xC most:Int)∧1≤xC most∧xC most≤64:=by
 unfold xC
 by_cases h:most<1
 ·simp only [if_pos h]
  rw [Int.max_eq_right (by omega),if_neg (by decide)]
  exact⟨rfl,by decide,by decide⟩
 ·simp only [if_neg h]
  rw [Int.max_eq_left (by omega)]
  by_cases h2:64<most
  ·rw [if_pos h2,Int.min_eq_right (by omega)];exact⟨rfl,by decide,by decide⟩
  ·rw [if_neg h2,Int.min_eq_left (by omega)];exact⟨by omega,by omega,by omega⟩
theorem LM.new (w:World) (pc:Int) (t1 t2:TypeId) (cs:Array Value) (hK:w.heap.size+1=K.h) (hB:w.heap.size+2=K.base):LM K (UZ pc 0) ((w.alloc (.cells cs t1)).alloc (.cells #[.int .u32 pc, .int .i64 0, .int .i64 0, .slice none 0 0, .int .u32 pc, .int .u32 0, .int .i64 0, .int .i64 0, .int .i64 0, .int .i64 0, .int .i64 0, .int .i64 0, .int .i64 0, .int .i64 0, .bool false, .int .i64 0, .int .i64 0, .int .i64 0, .int .i64 0] t2)):=by
 have e:∀j v,(#[.int .u32 pc, .int .i64 0, .int .i64 0, .slice none 0 0, .int .u32 pc, .int .u32 0, .int .i64 0, .int .i64 0, .int .i64 0, .int .i64 0, .int .i64 0, .int .i64 0, .int .i64 0, .int .i64 0, .bool false, .int .i64 0, .int .i64 0, .int .i64 0, .int .i64 0]:Array Value)[j]?=some v→((w.alloc (.cells cs t1)).alloc (.cells #[.int .u32 pc, .int .i64 0, .int .i64 0, .slice none 0 0, .int .u32 pc, .int .u32 0, .int .i64 0, .int .i64 0, .int .i64 0, .int .i64 0, .int .i64 0, .int .i64 0, .int .i64 0, .int .i64 0, .bool false, .int .i64 0, .int .i64 0, .int .i64 0, .int .i64 0] t2)).cell? ⟨K.h,j,none⟩=some v:=fun j v h=>by
  rw [←hK,show w.heap.size+1=(w.alloc (.cells cs t1)).heap.size by simp]
  exact(cell_of_row _ _ _ _ _ _ (heap_alloc_new (w.alloc (.cells cs t1)) _)).trans h
 refine⟨iH ⟨e _ _ rfl,e _ _ rfl,e _ _ rfl,e _ _ rfl,e _ _ rfl,e _ _ rfl,e _ _ rfl,e _ _ rfl,e _ _ rfl,e _ _ rfl,e _ _ rfl,e _ _ rfl,e _ _ rfl,e _ _ rfl,e _ _ rfl,e _ _ rfl,e _ _ rfl,e _ _ rfl⟩,⟨_,e 3 _ rfl,⟨rfl, .inl ⟨rfl,rfl⟩⟩⟩,fun j=>by rw [←hK,show w.heap.size+1=(w.alloc (.cells cs t1)).heap.size by simp];simp,by omega,by simp;omega⟩
theorem Gm {M:MM} {a n x:Int} (h:bY M a n=some x):0≤x∧x<4294967296:=by
 unfold bY at h
 split at h
 ·unfold aQ at h
  have:=List.mem_of_find?_eq_some h
  obtain⟨k,hk,rfl⟩:=List.mem_map.1 this
  unfold rE
  omega
 ·exact nomatch h
theorem acF (M:MM) (pc:Int):0≤(ik M pc).2∧(ik M pc).2<4294967296:=by
 unfold ik
 cases e1:bY M pc 1 with
 | some x=>exact Gm e1
 | none=>
  dsimp only
  cases e2:bY M pc (jf M pc) with
  | some x=>exact Gm e2
  | none=>
   dsimp only
   split
   ·exact⟨by decide,by decide⟩
   ·exact⟨by decide,by decide⟩
theorem I7 {B B':Nat} {v:Value} {os:List aV} (h:fC B v os W) (hb:B'≤B):fC B' v os W:=by
 obtain⟨h1,h⟩:=h
 exact⟨h1,h.imp id fun⟨g,cap,cur,e1,e2,r⟩=>⟨g,cap,cur,e1,Nat.le_trans hb e2,r⟩⟩
theorem vw {w:World} {bx:Nat} {os:List aV} {cs:Array Value} {x0 x1 x2 v y0 y1 y2 y3:Value} (R:Bx K bx #[y0,y1,y2,y3] W) (ow:fC K.base v os W) (U:Below bx w W) (hk:bx<K.base) (hl:bx≤W.heap.size):
  let W7:=(((W.setCell ⟨bx,0,none⟩ x0).setCell ⟨bx,1,none⟩ x1).setCell ⟨bx,2,none⟩ x2).setCell ⟨bx,3,none⟩ v
  W7.cell? ⟨bx,0,none⟩=some x0∧W7.cell? ⟨bx,1,none⟩=some x1∧W7.cell? ⟨bx,2,none⟩=some x2∧W7.cell? ⟨bx,3,none⟩=some v∧fC bx v os W7∧Below bx w W7:=by
 intro W7
 have b:=(((R.L6 0 x0).L6 1 x1).L6 2 x2).L6 3 v
 have u:ah (fun i=>i=bx) W W7:=((((ah.refl (fun i=>i=bx) W).setCell (q:=⟨bx,0,none⟩) (.inl rfl) x0).setCell (q:=⟨bx,1,none⟩) (.inl rfl) x1).setCell (q:=⟨bx,2,none⟩) (.inl rfl) x2).setCell (q:=⟨bx,3,none⟩) (.inl rfl) v
 exact⟨b.c 0 _ rfl,b.c 1 _ rfl,b.c 2 _ rfl,b.c 3 _ rfl,I7 (ow.upto u fun k hk2 e=>by have:=(ow.blk k hk2).1;omega) (Nat.le_of_lt hk),U.trans (u.below hl fun i hi e=>by omega)⟩
theorem two (a:LM K s W) (cs ds:Array Value) (t1 t2:TypeId):LM K s ((W.alloc (.cells cs t1)).alloc (.cells ds t2))∧UW K W ((W.alloc (.cells cs t1)).alloc (.cells ds t2))∧Bx K W.heap.size cs ((W.alloc (.cells cs t1)).alloc (.cells ds t2))∧Bx K (W.heap.size+1) ds ((W.alloc (.cells cs t1)).alloc (.cells ds t2)):=by
 have a1:=a.alloc (.cells cs t1)
 have b:=Bx.new a1 ds t2
 rw [show(W.alloc (.cells cs t1)).heap.size=W.heap.size+1 by simp] at b
 exact⟨a1.alloc _,(UW.alloc a.l _).trans (UW.alloc a1.l _),(Bx.new a cs t1).uw (UW.alloc a1.l _),b⟩
theorem I9 (p:Nat) (M:MM) (pc most:Int) (w:World) (h:HC p M w) (hM:bQ M) (c0:0≤pc) (c1:pc<4294967296):
  Calls Tryz.prog 24 #[.pointer (some ⟨p,0,none⟩), .int .u32 pc, .int .i64 most] w fun e w'=>∃v,e= .returned (.agg #[.int .u32 (eU M pc most).jg, .int .i64 (eU M pc most).aj, .int .i64 (eU M pc most).aN,v])∧fC w.heap.size v (eU M pc most).ops w'∧Below w.heap.size w w':=by
 obtain⟨K,hKh,hKb⟩:∃K:Kc,w.heap.size+1=K.h∧w.heap.size+2=K.base:=⟨⟨_,_⟩,rfl,rfl⟩
 have A0:=LM.new (K:=K) w pc 52 110 #[.int .u32 0, .int .i64 0, .int .i64 0, .slice none 0 0] hKh hKb
 have U0:=(Below.refl w.heap.size w).alloc (Nat.le_refl _) (.cells #[.int .u32 0, .int .i64 0, .int .i64 0, .slice none 0 0] 52)
 have R0:∀j v,(#[.int .u32 0, .int .i64 0, .int .i64 0, .slice none 0 0]:Array Value)[j]?=some v→(w.alloc (.cells #[.int .u32 0, .int .i64 0, .int .i64 0, .slice none 0 0] 52)).cell? ⟨w.heap.size,j,none⟩=some v:=fun j v hj=>(cell_of_row _ _ _ _ _ _ (heap_alloc_new w _)).trans hj
 obtain⟨Py,hm2,hm3⟩:=Yu most
 obtain⟨mv,X0⟩:∃m,xC most=m:=⟨_,rfl⟩
 have HM:=κ hm2
 have IG:=κ hm3
 have HE:=κ (show blk M mv (Pv pc)=eU M pc most by rw [←X0];rfl)
 rw [X0] at HM IG Py
 clear hm2 hm3 X0
 obtain⟨fin,uN⟩:∃s,eU M pc most=s:=⟨_,rfl⟩
 rw [uN] at HE⊢
 clear uN
 have HH:=κ h
 have C0:=κ c0
 have C1:=κ c1
 clear h c0 c1
 go_enter Tryz.func24,Tryz.ntmps24
 go_upto_region 3 with fail
 have Ba:w.heap.size≠K.h:=by omega
 have hbK:w.heap.size<K.base:=by omega
 have U1:=(U0.alloc (by simp) (.cells #[.int .u32 pc, .int .i64 0, .int .i64 0, .slice none 0 0, .int .u32 pc, .int .u32 0, .int .i64 0, .int .i64 0, .int .i64 0, .int .i64 0, .int .i64 0, .int .i64 0, .int .i64 0, .int .i64 0, .bool false, .int .i64 0, .int .i64 0, .int .i64 0, .int .i64 0] 110))
 have R1:Bx K w.heap.size #[.int .u32 0, .int .i64 0, .int .i64 0, .slice none 0 0] ((w.alloc (.cells #[.int .u32 0, .int .i64 0, .int .i64 0, .slice none 0 0] 52)).alloc (.cells #[.int .u32 pc, .int .i64 0, .int .i64 0, .slice none 0 0, .int .u32 pc, .int .u32 0, .int .i64 0, .int .i64 0, .int .i64 0, .int .i64 0, .int .i64 0, .int .i64 0, .int .i64 0, .int .i64 0, .bool false, .int .i64 0, .int .i64 0, .int .i64 0, .int .i64 0] 110)):=by
  have u:ah (fun _=>False) (w.alloc (.cells #[.int .u32 0, .int .i64 0, .int .i64 0, .slice none 0 0] 52)) ((w.alloc (.cells #[.int .u32 0, .int .i64 0, .int .i64 0, .slice none 0 0] 52)).alloc (.cells #[.int .u32 pc, .int .i64 0, .int .i64 0, .slice none 0 0, .int .u32 pc, .int .u32 0, .int .i64 0, .int .i64 0, .int .i64 0, .int .i64 0, .int .i64 0, .int .i64 0, .int .i64 0, .int .i64 0, .bool false, .int .i64 0, .int .i64 0, .int .i64 0, .int .i64 0] 110)):=(ah.refl _ _).alloc _
  refine⟨by simp;omega,fun j v hj=>(u.cell (q:=⟨w.heap.size,j,none⟩) (by simp) id).trans (R0 j v hj),fun j=>(u.frozen (q:=⟨w.heap.size,j,none⟩) (by simp) id).trans (by simp),fun e=> ?_⟩
  rcases e with e | e
  ·exact Ba e
  ·have:=(A0.own e).1;omega
 have HA:=κ A0
 have HU:=κ U1
 have HR:=κ R1
 clear A0 U0 R0 U1 R1 Py
 generalize(w.alloc (.cells #[.int .u32 0, .int .i64 0, .int .i64 0, .slice none 0 0] 52)).alloc (.cells #[.int .u32 pc, .int .i64 0, .int .i64 0, .slice none 0 0, .int .u32 pc, .int .u32 0, .int .i64 0, .int .i64 0, .int .i64 0, .int .i64 0, .int .i64 0, .int .i64 0, .int .i64 0, .int .i64 0, .bool false, .int .i64 0, .int .i64 0, .int .i64 0, .int .i64 0] 110)=w2 at*
 generalize(if most<1 then(1:Int) else most)=mx
 go_wp2
 go_loopg [20] 8 (fun n ix wr=>∃j:Nat,n=8-j∧j≤8∧ix= .int .i64 j∧Hid (LM K (UZ pc j) wr)∧Hid (Bx K w.heap.size #[.int .u32 0, .int .i64 0, .int .i64 0, .slice none 0 0] wr)∧Hid (Below w.heap.size w wr))
 case atStart=>exact⟨0,rfl,by decide,rfl,HA,HR,HU⟩
 case round=>
  obtain⟨j,hk,hj,rfl,A,R,U⟩:=hrel
  by_cases dh:j<8
  ·have pF:(j:Int) <8:=by omega
   have LT:=κ dh
   have fc:=A.out.cr dh
   have fz:=A.out.z (6+j)
   have fl:=A.out.l
   have A1:=κ (acE pc j dh A.out)
   have V1:=UW.sU (K:=K) (W:=wr) (6+j) (by omega) (.int .i64 (-1))
   have R1:=κ (R.out.uw V1)
   have U1:=κ (U.out.trans (A.out.yh V1 (by omega) (by omega)))
   clear V1
   have HK:=κ hk
   clear hk dh
   go_wp2
   go_roundg (8-(j+1))
   case measure=>have:=HK.out;have:=LT.out;omega
   case rel=>exact⟨j+1,rfl,LT.out,by simp,A1,R1,U1⟩
  ·obtain rfl:j=8:=by omega
   have A1:=κ (acD pc A.out)
   clear dh hk hj A
   go_wp2
   go_loopg [] mv (fun g wr=>∃s:Lk,Hid (blk M g s=fin)∧Hid (LM K s wr)∧Hid (Bx K w.heap.size #[.int .u32 0, .int .i64 0, .int .i64 0, .slice none 0 0] wr)∧Hid (Below w.heap.size w wr)∧Hid (s.aj+g=mv∧g≤mv)∧Hid (0≤s.pc∧s.pc<4294967296)∧Hid (s.ops.length+70*g≤70*mv)∧Hid (0≤s.aN∧s.aN+8*g≤8*mv))
   case atStart=>exact⟨Pv pc,HE,A1,R,U,⟨by simp [Pv],Nat.le_refl _⟩,⟨C0.out,C1.out⟩,κ (by simp [Pv]),κ (by simp [Pv])⟩
   case round=>
    obtain⟨s,E,A,R,U,N,PC,LN,BY⟩:=hrel
    clear A1
    have f1:_=some (Value.int .i64 s.aj):=A.out.c 1 (by decide) (by decide)
    have f2:_=some (Value.int .i64 s.aN):=A.out.c 2 (by decide) (by decide)
    have f4:_=some (Value.int .u32 s.pc):=A.out.c 4 (by decide) (by decide)
    have fz:=A.out.z
    have fl:=A.out.l
    cases gk with
    | zero=>
     have d0:decide (s.aj<(mv:Int))=false:=decide_eq_false (by have:=N.out.1;omega)
     clear f1 f2 f4 fl
     have P9:=κ (cO (K:=K) ⟨15,0,0,0,0,s.pc,s.aj⟩ wr.drew A.out.drew (by have:=LN.out;have:=IG.out;have:=N.out;omega))
     have U9:=κ (U.out.trans (A.out.yh (UW.drew (K:=K) (W:=wr) A.out.l) (by omega) (by omega)))
     have R9:=κ (R.out.uw (UW.drew (K:=K) (W:=wr) A.out.l))
     have g1:_=some (Value.int .i64 s.aj):=A.out.c 1 (by decide) (by decide)
     have g4:_=some (Value.int .u32 s.pc):=A.out.c 4 (by decide) (by decide)
     have gl:=A.out.l
     go_upto_region 21 with fail
     go_region_with (go_at_call 54;refine P9.out.mono ?_;rintro e w6 ⟨rfl,A6,U6⟩;have BK:=κ A6;have Va:=κ U6;clear A6 U6)
     all_goals obtain⟨v,c3,ow⟩:=BK.out.o
     all_goals obtain⟨ao,cap,hv,_,_⟩:=ow.form
     all_goals subst hv
     all_goals have c0:w6.cell? ⟨K.h,0,none⟩=some (.int .u32 s.jg):=BK.out.c 0 (by decide) (by decide)
     all_goals have c1:w6.cell? ⟨K.h,1,none⟩=some (.int .i64 s.aj):=BK.out.c 1 (by decide) (by decide)
     all_goals have c2:w6.cell? ⟨K.h,2,none⟩=some (.int .i64 s.aN):=BK.out.c 2 (by decide) (by decide)
     all_goals have kl:=BK.out.l
     all_goals have R6:=κ (R9.out.uw Va.out)
     all_goals have U6:=κ (U9.out.trans (A.out.drew.yh Va.out (by omega) (by omega)))
     all_goals have b0:=R6.out.c 0 _ rfl
     all_goals have b1:=R6.out.c 1 _ rfl
     all_goals have b2:=R6.out.c 2 _ rfl
     all_goals have b3:=R6.out.c 3 _ rfl
     all_goals have bz:=R6.out.z
     all_goals have bl:=R6.out.l
     all_goals have OW:=κ ow
     all_goals clear ow
     all_goals go_wp2
     all_goals obtain⟨q0,q1,q2,q3,ET,u7⟩:=vw (cs:= #[]) (x0:= .int .u32 s.jg) (x1:= .int .i64 s.aj) (x2:= .int .i64 s.aN) R6.out OW.out U6.out (by omega) (Nat.le_of_lt R6.out.l)
     all_goals generalize World.setCell (World.setCell (World.setCell (World.setCell w6 _ _) _ _) _ _) _ _=W7 at q0 q1 q2 q3 ET u7⊢
     all_goals have EF:s.put ⟨15,0,0,0,0,s.pc,s.aj⟩=fin:=E.out
     all_goals have e0:s.jg=fin.jg:=by rw [←EF];rfl
     all_goals have e1:s.aj=fin.aj:=by rw [←EF];rfl
     all_goals have e2:s.aN=fin.aN:=by rw [←EF];rfl
     all_goals rw [e0] at q0
     all_goals rw [e1] at q1
     all_goals rw [e2] at q2
     all_goals have eo:(s.put ⟨15,0,0,0,0,s.pc,s.aj⟩).ops=fin.ops:=by rw [←EF]
     all_goals have Yv:fC w.heap.size (.slice ao fin.ops.length cap) fin.ops W7:=by rw [←eo];exact ET
     all_goals have q4:W7.cell? ⟨w.heap.size,3,none⟩=some (.slice ao fin.ops.length cap):=by rw [←eo];exact q3
     all_goals clear q3 ET
     all_goals exact bodyPost_ret (v:= .agg #[.int .u32 fin.jg, .int .i64 fin.aj, .int .i64 fin.aN, .slice ao fin.ops.length cap]) (by simp [results,Tryz.results24,go_sem,q0,q1,q2,q4]) rfl ⟨_,rfl,Yv,u7⟩
    | succ k=>
     have d0:decide (s.aj<(mv:Int))=true:=decide_eq_true (by have:=N.out.1;omega)
     have HW:=HH.out.upto (ah.ak (S:=fun _=>False) U.out) id
     have P:=xX p M s.pc _ HW hM PC.out.1 PC.out.2
     rw [zF] at P;unfold fE at P
     have P:=κ P
     have IZ:=κ (zG M hM s.pc)
     clear HW
     go_upto_region 10 with(go_at_call 53;refine P.out.mono ?_;rintro e w3 ⟨rfl,b1⟩;have B3:=κ b1;clear b1)
     clear f1 f2 f4 fl d0 P fz
     have A3:=A.out.below B3.out
     have V3:=UW.below (K:=K) A.out.l B3.out
     have R3:=R.out.uw V3
     obtain⟨A5,V5,I5,S5⟩:=two A3 #[.int .i64 (iz M s.pc 0), .int .i64 (iz M s.pc 1), .int .i64 (iz M s.pc 2), .int .i64 (iz M s.pc 3), .int .u32 (iz M s.pc 4)] #[.int .i64 (ik M s.pc).1, .int .u32 (ik M s.pc).2] 74 55
     have R5:=κ (R3.uw V5)
     have U5:=κ ((U.out.trans (A.out.yh V3 (by omega) (by omega))).trans (A3.yh V5 (by omega) (by omega)))
     generalize(w3.alloc (.cells #[.int .i64 (iz M s.pc 0), .int .i64 (iz M s.pc 1), .int .i64 (iz M s.pc 2), .int .i64 (iz M s.pc 3), .int .u32 (iz M s.pc 4)] 74)).alloc (.cells #[.int .i64 (ik M s.pc).1, .int .u32 (ik M s.pc).2] 55)=w5 at*
     generalize w3.heap.size=bi at*
     have tY:=κ A5
     have HI5:=κ I5
     have HS5:=κ S5
     clear A3 V3 R3 A5 V5 I5 S5 B3 R U A
     have s0:w5.cell? ⟨bi+1,0,none⟩=some (.int .i64 (ik M s.pc).1):=HS5.out.c 0 _ rfl
     have s1:w5.cell? ⟨bi+1,1,none⟩=some (.int .u32 (ik M s.pc).2):=HS5.out.c 1 _ rfl
     have sl:=HS5.out.l
     have f1:_=some (Value.int .i64 s.aj):=tY.out.c 1 (by decide) (by decide)
     have fl:=tY.out.l
     by_cases hk:(ik M s.pc).1=0
     ·rw [hk] at s0
      have EB:=κ (show(if en (iz M s.pc 0) then s.xg M else blk M k (s.xg M))=fin by have h:=E.out;unfold blk at h;rw [if_neg (fun h=>h hk)] at h;exact h)
      have fx:_=some (Value.int .u32 s.pc):=tY.out.c 4 (by decide) (by decide)
      have f2:_=some (Value.int .i64 s.aN):=tY.out.c 2 (by decide) (by decide)
      have f5:_=some (Value.int .u32 s.nx):=tY.out.c 5 (by decide) (by decide)
      have fz:=tY.out.z
      have Za:IntKind.u32.wrap (iz M s.pc 5)=iz M s.pc 5:=by rw [IntKind.wrap_u32];have:=IZ.out.n;omega
      have hw2:IntKind.u32.wrap (s.pc+iz M s.pc 5)=au (s.pc+iz M s.pc 5):=by rw [IntKind.wrap_u32];rfl
      have hw3:IntKind.i64.wrap (s.aj+1)=s.aj+1:=by rw [IntKind.wrap_i64];have:=N.out;have:=IG.out;omega
      have hw4:IntKind.i64.wrap (s.aN+iz M s.pc 5)=s.aN+iz M s.pc 5:=by rw [IntKind.wrap_i64];have:=IZ.out.n;have:=BY.out;have:=IG.out;omega
      clear E hk s1
      go_upto_region 17 with fail
      have a1:=((tY.out.Ut (au (s.pc+iz M s.pc 5))).WL (s.aj+1)).WO (s.aN+iz M s.pc 5)
      have v1:=((UW.sU (K:=K) (W:=w5) 5 (by decide) (.int .u32 (au (s.pc+iz M s.pc 5)))).trans (UW.sU 1 (by decide) (.int .i64 (s.aj+1)))).trans (UW.sU 2 (by decide) (.int .i64 (s.aN+iz M s.pc 5)))
      have R6:=R5.out.uw v1
      have I6:=HI5.out.uw v1
      have U6:=U5.out.trans (tY.out.yh v1 (by omega) (by omega))
      clear s0 f1 fl fx f2 f5 fz sl Za hw2 hw3 hw4 HS5 R5 U5
      have g1:=κ (NW {s with nx:=au (s.pc+iz M s.pc 5),aj:=s.aj+1,aN:=s.aN+iz M s.pc 5} (iz M s.pc 0) (iz M s.pc 3) (iz M s.pc 4) (iz M s.pc 1).toNat (iz M s.pc 2).toNat)
      have EN:s.xg M={(({s with nx:=au (s.pc+iz M s.pc 5),aj:=s.aj+1,aN:=s.aN+iz M s.pc 5}:Lk).one (iz M s.pc 0) (iz M s.pc 1).toNat (iz M s.pc 2).toNat (iz M s.pc 3) (iz M s.pc 4)) with pc:=(({s with nx:=au (s.pc+iz M s.pc 5),aj:=s.aj+1,aN:=s.aN+iz M s.pc 5}:Lk).one (iz M s.pc 0) (iz M s.pc 1).toNat (iz M s.pc 2).toNat (iz M s.pc 3) (iz M s.pc 4)).nx}:=rfl
      generalize((w5.setCell ⟨K.h,5,none⟩ (.int .u32 (au (s.pc+iz M s.pc 5)))).setCell ⟨K.h,1,none⟩ (.int .i64 (s.aj+1))).setCell ⟨K.h,2,none⟩ (.int .i64 (s.aN+iz M s.pc 5))=w6 at*
      have P:=SC (K:=K) (iz M s.pc 0) (iz M s.pc 3) (iz M s.pc 4) (iz M s.pc 1).toNat (iz M s.pc 2).toNat (by have:=IZ.out.d;omega) (by have:=IZ.out.s;omega) IZ.out.o (fun _=>IZ.out.f) IZ.out.m.1 IZ.out.m.2 w6 a1 (by show 1≤s.aj+1∧s.aj+1≤64;have:=N.out;have:=IG.out;omega) (by show s.ops.length+60<_;have:=LN.out;have:=IG.out;omega)
      have dd:((iz M s.pc 1).toNat:Int)=iz M s.pc 1:=Int.toNat_of_nonneg IZ.out.d.1
      have ds:((iz M s.pc 2).toNat:Int)=iz M s.pc 2:=Int.toNat_of_nonneg IZ.out.s.1
      have G1:Hid _:=g1
      obtain⟨t,ht⟩:∃t,(({s with nx:=au (s.pc+iz M s.pc 5),aj:=s.aj+1,aN:=s.aN+iz M s.pc 5}:Lk).one (iz M s.pc 0) (iz M s.pc 1).toNat (iz M s.pc 2).toNat (iz M s.pc 3) (iz M s.pc 4))=t:=⟨_,rfl⟩
      rw [ht] at P EN g1
      rw [dd,ds] at P
      rw [EN] at EB
      clear G1 ht dd ds EN
      have tn:=κ (show t.ops.length≤s.ops.length+60∧t.aj=s.aj+1∧t.nx=au (s.pc+iz M s.pc 5)∧t.aN=s.aN+iz M s.pc 5 from⟨g1.out.n,g1.out.aj,g1.out.nx,g1.out.fD⟩)
      have P:=κ P
      have R6:=κ R6
      have I6:=κ I6
      have U6:=κ U6
      have A6:=κ a1
      have x0:=I6.out.c 0 _ rfl
      have x1:=I6.out.c 1 _ rfl
      have x2:=I6.out.c 2 _ rfl
      have x3:=I6.out.c 3 _ rfl
      have x4:=I6.out.c 4 _ rfl
      have xl:=I6.out.l
      clear g1 a1 v1
      go_upto_region 18 with(go_at_call 55;refine P.out.mono ?_;rintro e w7 ⟨rfl,A7,U7⟩;have Yw:=κ A7;have V7:=κ U7;clear A7 U7)
      clear x0 x1 x2 x3 x4 xl P
      have f5:_=some (Value.int .u32 t.nx):=Yw.out.c 5 (by decide) (by decide)
      have f4:_=some (Value.int .u32 t.pc):=Yw.out.c 4 (by decide) (by decide)
      have fz:=Yw.out.z
      have fl:=Yw.out.l
      go_upto_region 19 with fail
      have A8:=κ (Yw.out.jk t.nx)
      have v8:=UW.sU (K:=K) (W:=w7) 4 (by decide) (.int .u32 t.nx)
      have R8:=κ ((R6.out.uw V7.out).uw v8)
      have I8:=κ ((I6.out.uw V7.out).uw v8)
      have U8:=κ ((U6.out.trans (A6.out.yh V7.out (by omega) (by omega))).trans (Yw.out.yh v8 (by omega) (by omega)))
      clear f5 f4 fz fl v8 R6 I6 U6 A6 Yw V7
      generalize w7.setCell ⟨K.h,4,none⟩ (.int .u32 t.nx)=w8 at*
      have x0:=I8.out.c 0 _ rfl
      have xl:=I8.out.l
      have PE:=κ (LK (iz M s.pc 0) w8)
      cases he:en (iz M s.pc 0) with
      | true=>
       rw [he] at PE EB
       go_upto_region 20 with(go_at_call 56;refine PE.out.mono ?_;rintro e w9 ⟨rfl,rfl⟩)
       clear x0 xl PE
       obtain⟨v,c3,ow⟩:=A8.out.o
       obtain⟨ao,cap,hv,_,_⟩:=ow.form
       subst hv
       have c0:w8.cell? ⟨K.h,0,none⟩=some (.int .u32 t.jg):=A8.out.c 0 (by decide) (by decide)
       have c1:w8.cell? ⟨K.h,1,none⟩=some (.int .i64 t.aj):=A8.out.c 1 (by decide) (by decide)
       have c2:w8.cell? ⟨K.h,2,none⟩=some (.int .i64 t.aN):=A8.out.c 2 (by decide) (by decide)
       have kl:=A8.out.l
       have R6:=R8
       have U6:=U8
       have b0:=R6.out.c 0 _ rfl
       have b1:=R6.out.c 1 _ rfl
       have b2:=R6.out.c 2 _ rfl
       have b3:=R6.out.c 3 _ rfl
       have bz:=R6.out.z
       have bl:=R6.out.l
       have OW:=κ ow
       clear ow
       go_wp2
       obtain⟨q0,q1,q2,q3,ET,u7⟩:=vw (cs:= #[]) (x0:= .int .u32 t.jg) (x1:= .int .i64 t.aj) (x2:= .int .i64 t.aN) R6.out OW.out U6.out (by omega) (Nat.le_of_lt R6.out.l)
       generalize World.setCell (World.setCell (World.setCell (World.setCell w8 _ _) _ _) _ _) _ _=W7 at q0 q1 q2 q3 ET u7⊢
       have EF:{t with pc:=t.nx}=fin:=EB.out
       have e0:t.jg=fin.jg:=by rw [←EF]
       have e1:t.aj=fin.aj:=by rw [←EF]
       have e2:t.aN=fin.aN:=by rw [←EF]
       rw [e0] at q0
       rw [e1] at q1
       rw [e2] at q2
       have eo:t.ops=fin.ops:=by rw [←EF]
       have Yv:fC w.heap.size (.slice ao fin.ops.length cap) fin.ops W7:=by rw [←eo];exact ET
       have q4:W7.cell? ⟨w.heap.size,3,none⟩=some (.slice ao fin.ops.length cap):=by rw [←eo];exact q3
       clear q3 ET
       exact bodyPost_ret (v:= .agg #[.int .u32 fin.jg, .int .i64 fin.aj, .int .i64 fin.aN, .slice ao fin.ops.length cap]) (by simp [results,Tryz.results24,go_sem,q0,q1,q2,q4]) rfl ⟨_,rfl,Yv,u7⟩
      | false=>
       rw [he] at PE EB
       go_wp2_with (go_at_call 56;refine PE.out.mono ?_;rintro e w9 ⟨rfl,rfl⟩)
       go_roundg k
       case measure=>omega
       case rel=>exact⟨{t with pc:=t.nx},EB,A8,R8,U8,κ (by show t.aj+_=_∧_;have:=tn.out;have:=N.out;omega),κ (by show 0≤t.nx∧t.nx<_;rw [tn.out.2.2.1];unfold au;omega),κ (by show t.ops.length+_≤_;have:=tn.out;have:=LN.out;omega),κ (by show 0≤t.aN∧t.aN+_≤_;have:=tn.out;have:=BY.out;have:=IZ.out.n;omega)⟩
     ·have EB:=κ (show(if s.aj=0 then s.put ⟨14,(ik M s.pc).1,0,(ik M s.pc).2,0,s.pc,0⟩ else s.put ⟨15,0,0,0,0,s.pc,s.aj⟩)=fin by have h:=E.out;unfold blk at h;rw [if_pos hk] at h;exact h)
      have d1:((ik M s.pc).1 !=0)=true:=by simp [hk]
      have Za:IntKind.i64.wrap (ik M s.pc).2=(ik M s.pc).2:=by rw [IntKind.wrap_i64];have:=acF M s.pc;omega
      by_cases hc:s.aj=0
      ·have d2:(s.aj==0)=true:=by simp [hc]
       have EP:=κ (show s.put ⟨14,(ik M s.pc).1,0,(ik M s.pc).2,0,s.pc,0⟩=fin by rw [←EB.out,if_pos hc])
       clear hc hk f1 fl E
       have f1:_=some (Value.int .i64 s.aj):=tY.out.c 1 (by decide) (by decide)
       have fl:=tY.out.l
       have P9:=κ (cO (K:=K) ⟨14,(ik M s.pc).1,0,(ik M s.pc).2,0,s.pc,0⟩ w5.drew tY.out.drew (by have:=LN.out;have:=IG.out;have:=N.out;omega))
       have U9:=κ (U5.out.trans (tY.out.yh (UW.drew (K:=K) (W:=w5) tY.out.l) (by omega) (by omega)))
       have R9:=κ (R5.out.uw (UW.drew (K:=K) (W:=w5) tY.out.l))
       have g1:_=some (Value.int .i64 s.aj):=tY.out.c 1 (by decide) (by decide)
       have g4:_=some (Value.int .u32 s.pc):=tY.out.c 4 (by decide) (by decide)
       have gl:=tY.out.l
       go_upto_region 12 with fail
       clear d1 d2
       have acH:∀w:World,(Instr.fieldAt 55 (.pointer (some ⟨bi+1,0,none⟩)) 0).run Tryz.prog w= .ok (.pointer (some ⟨bi+1,0,none⟩)) w:=fun w=>by go_simp
       have acI:∀w:World,(Instr.fieldAt 55 (.pointer (some ⟨bi+1,0,none⟩)) 1).run Tryz.prog w= .ok (.pointer (some ⟨bi+1,1,none⟩)) w:=fun w=>by go_simp
       have acJ:∀w:World,(Instr.fieldAt 110 (.pointer (some ⟨K.h,0,none⟩)) 1).run Tryz.prog w= .ok (.pointer (some ⟨K.h,4,none⟩)) w:=fun w=>by go_simp
       have acK:∀w',(fun W'=>W'.cell? ⟨bi+1,0,none⟩=some (.int .i64 (ik M s.pc).1)∧W'.cell? ⟨bi+1,1,none⟩=some (.int .u32 (ik M s.pc).2)∧W'.cell? ⟨K.h,4,none⟩=some (.int .u32 s.pc)∧bi+1<W'.heap.size∧K.h<W'.heap.size) w'→(Instr.loadAt 3 (.pointer (some ⟨bi+1,0,none⟩))).run Tryz.prog w'= .ok (.int .i64 (ik M s.pc).1) w':=fun w' h=>by
        have hp:=h.1
        have hq:=h.2.2.2.1
        clear h
        go_simp
       have acL:∀w',(fun W'=>W'.cell? ⟨bi+1,0,none⟩=some (.int .i64 (ik M s.pc).1)∧W'.cell? ⟨bi+1,1,none⟩=some (.int .u32 (ik M s.pc).2)∧W'.cell? ⟨K.h,4,none⟩=some (.int .u32 s.pc)∧bi+1<W'.heap.size∧K.h<W'.heap.size) w'→(Instr.loadAt 29 (.pointer (some ⟨bi+1,1,none⟩))).run Tryz.prog w'= .ok (.int .u32 (ik M s.pc).2) w':=fun w' h=>by
        have hp:=h.2.1
        have hq:=h.2.2.2.1
        clear h
        go_simp
       have acM:∀w',(fun W'=>W'.cell? ⟨bi+1,0,none⟩=some (.int .i64 (ik M s.pc).1)∧W'.cell? ⟨bi+1,1,none⟩=some (.int .u32 (ik M s.pc).2)∧W'.cell? ⟨K.h,4,none⟩=some (.int .u32 s.pc)∧bi+1<W'.heap.size∧K.h<W'.heap.size) w'→(Instr.loadAt 29 (.pointer (some ⟨K.h,4,none⟩))).run Tryz.prog w'= .ok (.int .u32 s.pc) w':=fun w' h=>by
        have hp:=h.2.2.1
        have hq:=h.2.2.2.2
        clear h
        go_simp
       have acN:∀w:World,(convert 29 3 (.int .u32 (ik M s.pc).2)).run Tryz.prog w= .ok (.int .i64 (ik M s.pc).2) w:=fun w=>by
        go_simp
        all_goals exact Za
       have acO:∀w:World,(Instr.build 115 #[(0, .int .i64 14),(1, .int .i64 (ik M s.pc).1),(3, .int .i64 (ik M s.pc).2),(5, .int .u32 s.pc)]).run Tryz.prog w= .ok (.agg #[.int .i64 14, .int .i64 (ik M s.pc).1, .int .i64 0, .int .i64 (ik M s.pc).2, .int .i64 0, .int .u32 s.pc, .int .i64 0]) w:=fun w=>by go_simp
       have HS6:=κ (HS5.out.uw (UW.drew (K:=K) (W:=w5) tY.out.l))
       have init:(fun W'=>W'.cell? ⟨bi+1,0,none⟩=some (.int .i64 (ik M s.pc).1)∧W'.cell? ⟨bi+1,1,none⟩=some (.int .u32 (ik M s.pc).2)∧W'.cell? ⟨K.h,4,none⟩=some (.int .u32 s.pc)∧bi+1<W'.heap.size∧K.h<W'.heap.size) w5.drew:=⟨s0,s1,g4,sl,gl⟩
       refine wp_region_held_drew (S:=(fun W'=>W'.cell? ⟨bi+1,0,none⟩=some (.int .i64 (ik M s.pc).1)∧W'.cell? ⟨bi+1,1,none⟩=some (.int .u32 (ik M s.pc).2)∧W'.cell? ⟨K.h,4,none⟩=some (.int .u32 s.pc)∧bi+1<W'.heap.size∧K.h<W'.heap.size)) (by kernel_rfl) init (fun hHeld=> ?_)
       refine iR 0 55 (.pointer (some ⟨K.h,0,none⟩)) rfl rfl (by kernel_rfl) (by kernel_rfl) (by kernel_rfl) (fun _ _ _ h=>h) (Kt.fV (by rfl) _ rfl _ rfl) hHeld ?_
       try simp only [Act.put,aA,aB,aC]
       refine iR 1 56 (.pointer (some ⟨bi+1,0,none⟩)) rfl rfl (by kernel_rfl) (by kernel_rfl) (by kernel_rfl) (fun _ _ _ h=>h) (Kt.jc (by rfl) _ _ _ rfl _ _ rfl acH) hHeld ?_
       try simp only [Act.put,aA,aB,aC]
       refine iR 2 57 (.int .i64 (ik M s.pc).1) rfl rfl (by kernel_rfl) (by kernel_rfl) (by kernel_rfl) (fun _ _ _ h=>h) (Kt.kK (by rfl) _ _ rfl _ _ rfl acK) hHeld ?_
       try simp only [Act.put,aA,aB,aC]
       refine iR 3 58 (.pointer (some ⟨bi+1,1,none⟩)) rfl rfl (by kernel_rfl) (by kernel_rfl) (by kernel_rfl) (fun _ _ _ h=>h) (Kt.jc (by rfl) _ _ _ rfl _ _ rfl acI) hHeld ?_
       try simp only [Act.put,aA,aB,aC]
       refine iR 4 59 (.int .u32 (ik M s.pc).2) rfl rfl (by kernel_rfl) (by kernel_rfl) (by kernel_rfl) (fun _ _ _ h=>h) (Kt.kK (by rfl) _ _ rfl _ _ rfl acL) hHeld ?_
       try simp only [Act.put,aA,aB,aC]
       refine iR 5 60 (.int .i64 (ik M s.pc).2) rfl rfl (by kernel_rfl) (by kernel_rfl) (by kernel_rfl) (fun _ _ _ h=>h) (Kt.LW (by rfl) _ _ _ rfl _ _ rfl acN) hHeld ?_
       try simp only [Act.put,aA,aB,aC]
       refine iR 6 61 (.pointer (some ⟨K.h,0,none⟩)) rfl rfl (by kernel_rfl) (by kernel_rfl) (by kernel_rfl) (fun _ _ _ h=>h) (Kt.fV (by rfl) _ rfl _ rfl) hHeld ?_
       try simp only [Act.put,aA,aB,aC]
       refine iR 7 62 (.pointer (some ⟨K.h,0,none⟩)) rfl rfl (by kernel_rfl) (by kernel_rfl) (by kernel_rfl) (fun _ _ _ h=>h) (Kt.lu (by rfl) _ rfl _ rfl) hHeld ?_
       try simp only [Act.put,aA,aB,aC]
       refine iR 8 63 (.pointer (some ⟨K.h,4,none⟩)) rfl rfl (by kernel_rfl) (by kernel_rfl) (by kernel_rfl) (fun _ _ _ h=>h) (Kt.jc (by rfl) _ _ _ rfl _ _ rfl acJ) hHeld ?_
       try simp only [Act.put,aA,aB,aC]
       refine iR 9 64 (.int .u32 s.pc) rfl rfl (by kernel_rfl) (by kernel_rfl) (by kernel_rfl) (fun _ _ _ h=>h) (Kt.kK (by rfl) _ _ rfl _ _ rfl acM) hHeld ?_
       try simp only [Act.put,aA,aB,aC]
       refine iR 10 65 (.agg #[.int .i64 14, .int .i64 (ik M s.pc).1, .int .i64 0, .int .i64 (ik M s.pc).2, .int .i64 0, .int .u32 s.pc, .int .i64 0]) rfl rfl (by kernel_rfl) (by kernel_rfl) (by kernel_rfl) (fun _ _ _ h=>h) (Kt.qO (by rfl) _ _ rfl (#[(0, .int .i64 14),(1, .int .i64 (ik M s.pc).1),(3, .int .i64 (ik M s.pc).2),(5, .int .u32 s.pc)]) _ (by kernel_rfl) acO) hHeld ?_
       try simp only [Act.put,aA,aB,aC]
       refine wpAnyH_ready (rs:= [11]) (by kernel_rfl) (by simp) ?_
       refine AllReadyH.cons rfl (fun KK bF=> ?_) AllReadyH.nil
       go_simp
       go_wp2_with (go_at_call 54;refine P9.out.mono ?_;rintro e w6 ⟨rfl,A6,U6⟩)
       have BK:=κ A6
       have Va:=κ U6
       have HS7:=HS6.out.uw U6
       refine bF.out _ _ ?_ (fun bH=> ?_)
       ·exact⟨HS7.c 0 _ rfl,HS7.c 1 _ rfl,A6.c 4 (by decide) (by decide),HS7.l,A6.l⟩
       clear bF KK hHeld
       have hHeld:=bH
       clear bH
       try simp only [Act.put,aA,aB,aC]
       refine wpAnyH_done (by kernel_rfl) ?_ _
       clear HS7 A6 U6 acK acL acM acH acI acJ acN acO
       obtain⟨v,c3,ow⟩:=BK.out.o
       obtain⟨ao,cap,hv,_,_⟩:=ow.form
       subst hv
       have c0:w6.cell? ⟨K.h,0,none⟩=some (.int .u32 s.jg):=BK.out.c 0 (by decide) (by decide)
       have c1:w6.cell? ⟨K.h,1,none⟩=some (.int .i64 s.aj):=BK.out.c 1 (by decide) (by decide)
       have c2:w6.cell? ⟨K.h,2,none⟩=some (.int .i64 s.aN):=BK.out.c 2 (by decide) (by decide)
       have kl:=BK.out.l
       have R6:=κ (R9.out.uw Va.out)
       have U6:=κ (U9.out.trans (tY.out.drew.yh Va.out (by omega) (by omega)))
       have b0:=R6.out.c 0 _ rfl
       have b1:=R6.out.c 1 _ rfl
       have b2:=R6.out.c 2 _ rfl
       have b3:=R6.out.c 3 _ rfl
       have bz:=R6.out.z
       have bl:=R6.out.l
       have OW:=κ ow
       clear ow
       go_wp2
       obtain⟨q0,q1,q2,q3,ET,u7⟩:=vw (cs:= #[]) (x0:= .int .u32 s.jg) (x1:= .int .i64 s.aj) (x2:= .int .i64 s.aN) R6.out OW.out U6.out (by omega) (Nat.le_of_lt R6.out.l)
       generalize World.setCell (World.setCell (World.setCell (World.setCell w6 _ _) _ _) _ _) _ _=W7 at q0 q1 q2 q3 ET u7⊢
       have EF:s.put ⟨14,(ik M s.pc).1,0,(ik M s.pc).2,0,s.pc,0⟩=fin:=EP.out
       have e0:s.jg=fin.jg:=by rw [←EF];rfl
       have e1:s.aj=fin.aj:=by rw [←EF];rfl
       have e2:s.aN=fin.aN:=by rw [←EF];rfl
       rw [e0] at q0
       rw [e1] at q1
       rw [e2] at q2
       have eo:(s.put ⟨14,(ik M s.pc).1,0,(ik M s.pc).2,0,s.pc,0⟩).ops=fin.ops:=by rw [←EF]
       have Yv:fC w.heap.size (.slice ao fin.ops.length cap) fin.ops W7:=by rw [←eo];exact ET
       have q4:W7.cell? ⟨w.heap.size,3,none⟩=some (.slice ao fin.ops.length cap):=by rw [←eo];exact q3
       clear q3 ET
       exact bodyPost_ret (v:= .agg #[.int .u32 fin.jg, .int .i64 fin.aj, .int .i64 fin.aN, .slice ao fin.ops.length cap]) (by simp [results,Tryz.results24,go_sem,q0,q1,q2,q4]) rfl ⟨_,rfl,Yv,u7⟩
      ·have d2:(s.aj==0)=false:=by simp [hc]
       have EP:=κ (show s.put ⟨15,0,0,0,0,s.pc,s.aj⟩=fin by rw [←EB.out,if_neg hc])
       clear hc hk E
       have P9:=κ (cO (K:=K) ⟨15,0,0,0,0,s.pc,s.aj⟩ w5.drew tY.out.drew (by have:=LN.out;have:=IG.out;have:=N.out;omega))
       have U9:=κ (U5.out.trans (tY.out.yh (UW.drew (K:=K) (W:=w5) tY.out.l) (by omega) (by omega)))
       have R9:=κ (R5.out.uw (UW.drew (K:=K) (W:=w5) tY.out.l))
       have g1:_=some (Value.int .i64 s.aj):=tY.out.c 1 (by decide) (by decide)
       have g4:_=some (Value.int .u32 s.pc):=tY.out.c 4 (by decide) (by decide)
       have gl:=tY.out.l
       go_upto_region 21 with fail
       go_region_with (go_at_call 54;refine P9.out.mono ?_;rintro e w6 ⟨rfl,A6,U6⟩;have BK:=κ A6;have Va:=κ U6;clear A6 U6)
       all_goals obtain⟨v,c3,ow⟩:=BK.out.o
       all_goals obtain⟨ao,cap,hv,_,_⟩:=ow.form
       all_goals subst hv
       all_goals have c0:w6.cell? ⟨K.h,0,none⟩=some (.int .u32 s.jg):=BK.out.c 0 (by decide) (by decide)
       all_goals have c1:w6.cell? ⟨K.h,1,none⟩=some (.int .i64 s.aj):=BK.out.c 1 (by decide) (by decide)
       all_goals have c2:w6.cell? ⟨K.h,2,none⟩=some (.int .i64 s.aN):=BK.out.c 2 (by decide) (by decide)
       all_goals have kl:=BK.out.l
       all_goals have R6:=κ (R9.out.uw Va.out)
       all_goals have U6:=κ (U9.out.trans (tY.out.drew.yh Va.out (by omega) (by omega)))
       all_goals have b0:=R6.out.c 0 _ rfl
       all_goals have b1:=R6.out.c 1 _ rfl
       all_goals have b2:=R6.out.c 2 _ rfl
       all_goals have b3:=R6.out.c 3 _ rfl
       all_goals have bz:=R6.out.z
       all_goals have bl:=R6.out.l
       all_goals have OW:=κ ow
       all_goals clear ow
       all_goals go_wp2
       all_goals obtain⟨q0,q1,q2,q3,ET,u7⟩:=vw (cs:= #[]) (x0:= .int .u32 s.jg) (x1:= .int .i64 s.aj) (x2:= .int .i64 s.aN) R6.out OW.out U6.out (by omega) (Nat.le_of_lt R6.out.l)
       all_goals generalize World.setCell (World.setCell (World.setCell (World.setCell w6 _ _) _ _) _ _) _ _=W7 at q0 q1 q2 q3 ET u7⊢
       all_goals have EF:s.put ⟨15,0,0,0,0,s.pc,s.aj⟩=fin:=EP.out
       all_goals have e0:s.jg=fin.jg:=by rw [←EF];rfl
       all_goals have e1:s.aj=fin.aj:=by rw [←EF];rfl
       all_goals have e2:s.aN=fin.aN:=by rw [←EF];rfl
       all_goals rw [e0] at q0
       all_goals rw [e1] at q1
       all_goals rw [e2] at q2
       all_goals have eo:(s.put ⟨15,0,0,0,0,s.pc,s.aj⟩).ops=fin.ops:=by rw [←EF]
       all_goals have Yv:fC w.heap.size (.slice ao fin.ops.length cap) fin.ops W7:=by rw [←eo];exact ET
       all_goals have q4:W7.cell? ⟨w.heap.size,3,none⟩=some (.slice ao fin.ops.length cap):=by rw [←eo];exact q3
       all_goals clear q3 ET
       all_goals exact bodyPost_ret (v:= .agg #[.int .u32 fin.jg, .int .i64 fin.aj, .int .i64 fin.aN, .slice ao fin.ops.length cap]) (by simp [results,Tryz.results24,go_sem,q0,q1,q2,q4]) rfl ⟨_,rfl,Yv,u7⟩
end Go.Proofs.YtcjcmnnhmajocabGreat.Lf
