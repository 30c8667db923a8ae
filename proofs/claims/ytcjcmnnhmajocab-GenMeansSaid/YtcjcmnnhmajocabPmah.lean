import Derived.Test.YtcjcmnnhmajocabPmad
import Derived.Test.YtcjcmnnhmajocabPmag
set_option linter.unusedVariables false
set_option linter.unusedSimpArgs false
set_option maxRecDepth 100000
set_option maxHeartbeats 16000000
namespace Go.Proofs.Ytcjcmnnhmajocab.St
open Go.RowKit Kt Me
def qG (kind:Int) (o:Option Int):Int:=match o with | none=>0 | some _=>kind
def wP (o:Option Int):Int:=match o with | none=>0 | some x=>x
theorem dQ (kind:Int) (o:Option Int):iO kind o= .agg #[.int .i64 (qG kind o), .int .u32 (wP o)]:=by cases o<;>rfl
structure Am (A p:Nat) (R:Nat→Int) (pc f nx k x:Int) (W:World):Prop where
 m:W.cell? ⟨A,0,none⟩=some (.pointer (some ⟨p,0,none⟩))
 r:∀j,j<8→W.cell? ⟨A,1+j,none⟩=some (.int .u32 (R j))
 c9:W.cell? ⟨A,9,none⟩=some (.int .u32 pc)
 pW:W.cell? ⟨A,10,none⟩=some (.int .u32 f)
 oZ:W.cell? ⟨A,11,none⟩=some (.int .u32 nx)
 Ce:W.cell? ⟨A,12,none⟩=some (.int .i64 k)
 Ci:W.cell? ⟨A,13,none⟩=some (.int .u32 x)
 z:∀i,W.frozen? ⟨A,i,none⟩=false
 l:A<W.heap.size
variable {A p:Nat} {R:Nat→Int} {pc f nx k x:Int} {W W':World}
theorem Am.upto {S:Nat→Prop} (h:Am A p R pc f nx k x W) (u:ah S W W') (hs:¬S A):Am A p R pc f nx k x W':=
 ⟨(u.cell h.l hs).trans h.m,fun j hj=>(u.cell h.l hs).trans (h.r j hj),(u.cell h.l hs).trans h.c9,(u.cell h.l hs).trans h.pW,(u.cell h.l hs).trans h.oZ,(u.cell h.l hs).trans h.Ce,(u.cell h.l hs).trans h.Ci,fun i=>(u.frozen h.l hs).trans (h.z i),Nat.lt_of_lt_of_le h.l u.size⟩
theorem Am.drew (h:Am A p R pc f nx k x W):Am A p R pc f nx k x W.drew:=⟨h.m,h.r,h.c9,h.pW,h.oZ,h.Ce,h.Ci,h.z,h.l⟩
theorem off {b i j:Nat} {v:Value} (dU:i≠j):(W.setCell ⟨b,j,none⟩ v).cell? ⟨b,i,none⟩=W.cell? ⟨b,i,none⟩:=
 World.cell?_setCell_other _ _ _ _ (by intro h;simp only [Addr.mk.injEq] at h;omega)
theorem Am.eF (h:Am A p R pc f nx k x W) (d:Nat) (hd:d<8) (v:Int):Am A p (aO R d v) pc f nx k x (W.setCell ⟨A,1+d,none⟩ (.int .u32 v)):=by
 refine⟨(off (by omega)).trans h.m,fun j hj=> ?_,(off (by omega)).trans h.c9,(off (by omega)).trans h.pW,(off (by omega)).trans h.oZ,(off (by omega)).trans h.Ce,(off (by omega)).trans h.Ci,fun i=>by simpa using h.z i,by simpa using h.l⟩
 by_cases hjd:j=d
 ·subst hjd;rw [World.cell?_setCell_same _ _ _ (h.r j hj)];simp only [aO,if_true]
 ·rw [off (by omega),h.r j hj];simp only [aO,if_neg hjd]
theorem Am.xH (h:Am A p R pc f nx k x W) (v:Int):Am A p R v f nx k x (W.setCell ⟨A,9,none⟩ (.int .u32 v)):=
 ⟨(off (by omega)).trans h.m,fun j hj=>(off (by omega)).trans (h.r j hj),World.cell?_setCell_same _ _ _ h.c9,(off (by omega)).trans h.pW,(off (by omega)).trans h.oZ,(off (by omega)).trans h.Ce,(off (by omega)).trans h.Ci,fun i=>by simpa using h.z i,by simpa using h.l⟩
theorem Am.pX (h:Am A p R pc f nx k x W) (v:Int):Am A p R pc f nx v x (W.setCell ⟨A,12,none⟩ (.int .i64 v)):=
 ⟨(off (by omega)).trans h.m,fun j hj=>(off (by omega)).trans (h.r j hj),(off (by omega)).trans h.c9,(off (by omega)).trans h.pW,(off (by omega)).trans h.oZ,World.cell?_setCell_same _ _ _ h.Ce,(off (by omega)).trans h.Ci,fun i=>by simpa using h.z i,by simpa using h.l⟩
def AS (A p:Nat) (i:Nat):Prop:=i=A∨i=p
def ROk (R:Nat→Int):Prop:=∀j,0≤R j∧R j<4294967296
theorem ROk.aO (h:ROk R) (d:Nat) (v:Int) (hv:0≤v∧v<4294967296):ROk (aO R d v):=fun j=>by
 unfold Me.aO;split
 ·exact hv
 ·exact h j
open Fl
theorem Ll (k a b old:Int):0≤fl k a b old∧fl k a b old<16:=by
 unfold fl
 have h1:=Fj a b 0
 have h2:=Fj a b (old/4%2)
 have h3:=Fp a b 0
 have h4:=Fp a b (old/4%2)
 have h5:=iQ a
 have h6:=iQ (a*b%4294967296)
 have h7:=iQ ((a+1)%4294967296)
 have h8:=iQ ((a-1)%4294967296)
 have h9:=iQ (a*2^n5 b%4294967296)
 have Fz:=iQ (a/2^n5 b)
 have h11:=iQ (sg a/2^n5 b%4294967296)
 generalize uq a b 0=y1 at*
 generalize uq a b (old/4%2)=y2 at*
 generalize uw a b 0=y3 at*
 generalize uw a b (old/4%2)=y4 at*
 repeat' split
 all_goals omega
structure Out where
 M:MM
 R:Nat→Int
 pc:Int
 f:Int
 k:Int
 x:Int
def AtQ (A p:Nat) (pc:Int) (o:Out) (w w':World):Prop:=
 ∃ (R':Nat→Int) (f' nx':Int),Am A p R' pc f' nx' o.k o.x w'∧HC p o.M w'∧ah (AS A p) w w'∧((o.k=0∨o.k=1)→R'=o.R∧f'=o.f∧nx'=o.pc)
theorem AtQ.ok {A p:Nat} {pc:Int} {M:MM} {R:Nat→Int} {f nx k x:Int} {w w':World} (h:Am A p R pc f nx k x w') (hm:HC p M w') (u:ah (AS A p) w w'):AtQ A p pc ⟨M,R,nx,f,k,x⟩ w w':=⟨R,f,nx,h,hm,u,fun _=>⟨rfl,rfl,rfl⟩⟩
theorem Lm {M:MM} {q n v x:Int} (h:nJ M q n=some x):rU M q n v=M:=by
 unfold nJ at h
 unfold rU
 split at h
 ·next hn=>rw [if_pos hn,h];rfl
 ·cases h
end Go.Proofs.Ytcjcmnnhmajocab.St
namespace Go.Proofs.Ytcjcmnnhmajocab.Ev
open Go.RowKit Kt Me Fl
def alu (w:Int):Int:=if w=0 then 0 else if w=1 then 2 else if w=2 then 4 else if w=3 then 5 else if w=4 then 6 else if w=5 then 9 else if w=6 then 10 else if w=7 then 11 else if w=8 then 12 else 13
def iH (w a b:Int):Int:=
 if w<10 then uy (alu w) a b 0
 else if w=10 then a*b/4294967296
 else if w=11 then(if b=0 then 4294967295 else a/b)
 else if w=12 then(if b=0 then a else a%b)
 else if w=13 then(if a=b then 1 else 0)
 else if w=14 then(if a<b then 1 else 0)
 else(if sg a<sg b then 1 else 0)
def s8 (a:Int):Int:=if 128≤a%256 then a%256+4294967040 else a%256
def ZA (a:Int):Int:=if 32768≤a%65536 then a%65536+4294901760 else a%65536
def xI (w a:Int):Int:=
 if w=0 then 4294967295-a
 else if w=1 then(-a)%4294967296
 else if w=2 then s8 a
 else if w=3 then ZA a
 else if w=4 then a%256
 else if w=5 then a%65536
 else(if a=0 then 1 else 0)
def fD (k w kn a b c:Int):Int:=
 if k=1 then kn
 else if k=4 then iH w a b
 else if k=5 then xI w a
 else if k=6 then(if a=0 then c else b)
 else if k=7 then fl w a b c
 else(if hd w a then 1 else 0)
def wid (w v:Int):Int:=if w=1 then s8 v else if w=3 then ZA v else v
def ni (w:Int):Int:=if w=0 then 1 else if w=1 then 1 else if w=2 then 2 else if w=3 then 2 else 4
def oD (w:Int):Int:=if w=0 then 1 else if w=1 then 2 else 4
theorem VI (a:Int):0≤s8 a∧s8 a<4294967296:=by unfold s8;split<;>omega
theorem Lp (a:Int):0≤ZA a∧ZA a<4294967296:=by unfold ZA;split<;>omega
theorem QS (o a b f:Int) (a0:0≤a) (a1:a<4294967296) (b0:0≤b) (b1:b<4294967296) (ho:o=0∨o=2∨o=4∨o=5∨o=6∨o=9∨o=10∨o=11∨o=12∨o=13):0≤uy o a b f∧uy o a b f<4294967296:=by
 have h1:=lZ .and a b a0 a1 b0 b1
 have h2:=lZ .or a b a0 a1 b0 b1
 have h3:=lZ .xor a b a0 a1 b0 b1
 have h4:=nR a (n5 b) (aan b) a0 a1
 have h5:0≤a/2^n5 b∧a/2^n5 b≤a:=⟨Int.ediv_nonneg a0 (Int.le_of_lt (two_pow_pos _)),Int.ediv_le_self _ a0⟩
 have e1:0≤a*2^n5 b%4294967296∧a*2^n5 b%4294967296<4294967296:=⟨Int.emod_nonneg _ (by decide),Int.emod_lt_of_pos _ (by decide)⟩
 have e2:0≤sg a/2^n5 b%4294967296∧sg a/2^n5 b%4294967296<4294967296:=⟨Int.emod_nonneg _ (by decide),Int.emod_lt_of_pos _ (by decide)⟩
 have e3:0≤a*b%4294967296∧a*b%4294967296<4294967296:=⟨Int.emod_nonneg _ (by decide),Int.emod_lt_of_pos _ (by decide)⟩
 rcases ho with rfl | rfl | rfl | rfl | rfl | rfl | rfl | rfl | rfl | rfl
 ·show 0≤(a+b)%4294967296∧(a+b)%4294967296<4294967296;omega
 ·show 0≤(a-b)%4294967296∧(a-b)%4294967296<4294967296;omega
 ·exact h1
 ·exact h2
 ·exact h3
 ·exact e1
 ·exact⟨h5.1,Int.lt_of_le_of_lt h5.2 a1⟩
 ·exact e2
 ·exact h4
 ·exact e3
theorem QT (w a b:Int) (a0:0≤a) (a1:a<4294967296) (b0:0≤b) (b1:b<4294967296):0≤iH w a b∧iH w a b<4294967296:=by
 unfold iH
 split
 ·refine QS _ _ _ _ a0 a1 b0 b1 ?_
  unfold alu
  repeat' split
  all_goals omega
 ·split
  ·have h0:0≤a*b:=Int.mul_nonneg a0 b0
   have h1:a*b≤4294967295*4294967295:=Int.mul_le_mul (by omega) (by omega) b0 (by decide)
   omega
  ·split
   ·split
    ·omega
    ·have:=Int.ediv_le_self b a0
     exact⟨Int.ediv_nonneg a0 b0,Int.lt_of_le_of_lt this a1⟩
   ·split
    ·split
     ·omega
     ·next hb=>exact⟨Int.emod_nonneg _ hb,Int.lt_trans (Int.emod_lt_of_pos _ (by omega)) b1⟩
    ·repeat' split
     all_goals omega
theorem WZ (w a:Int) (a0:0≤a) (a1:a<4294967296):0≤xI w a∧xI w a<4294967296:=by
 have h1:=VI a
 have h2:=Lp a
 unfold xI
 repeat' split
 all_goals omega
theorem oG (k w kn a b c:Int) (k0:0≤kn) (k1:kn<4294967296) (a0:0≤a) (a1:a<4294967296) (b0:0≤b) (b1:b<4294967296) (c0:0≤c) (c1:c<4294967296):0≤fD k w kn a b c∧fD k w kn a b c<4294967296:=by
 have h1:=QT w a b a0 a1 b0 b1
 have h2:=WZ w a a0 a1
 have h3:=St.Ll w a b c
 unfold fD
 by_cases e:k=1
 ·rw [if_pos e];exact⟨k0,k1⟩
 rw [if_neg e];clear e
 by_cases e:k=4
 ·rw [if_pos e];exact h1
 rw [if_neg e];clear e
 by_cases e:k=5
 ·rw [if_pos e];exact h2
 rw [if_neg e];clear e
 by_cases e:k=6
 ·rw [if_pos e];split<;>omega
 rw [if_neg e];clear e
 by_cases e:k=7
 ·rw [if_pos e];omega
 rw [if_neg e];clear e
 split<;>omega
theorem DN (w v:Int) (v0:0≤v) (v1:v<4294967296):0≤wid w v∧wid w v<4294967296:=by
 have h1:=VI v
 have h2:=Lp v
 unfold wid
 repeat' split
 all_goals omega
theorem eP {a b:Int} (h:a=b):Ending.returned (.int .u32 a)= .returned (.int .u32 b):=by rw [h]
theorem bI (b:Bool) (w:World):Calls Try.prog 109 #[.bool b] w fun e w'=>e= .returned (.int .u32 (if b then 1 else 0))∧w=w':=by
 cases b
 all_goals go_enter Try.func109,Try.ntmps109
 all_goals go_wp2
 all_goals go_ret
 all_goals exact⟨rfl,rfl⟩
theorem aY (x:Int) (w:World) (h:0≤x) (g:x<4294967296):Calls Try.prog 163 #[.int .u32 x] w fun e w'=>e= .returned (.int .i64 (sg x))∧w=w':=by
 by_cases hx:2147483648≤x
 ·have es:sg x=x-4294967296:=by unfold sg;rw [if_pos hx]
  rw [es]
  clear es
  go_enter Try.func163,Try.ntmps163
  go_wp2
  go_ret
  exact⟨rfl,rfl⟩
 ·have es:sg x=x:=by unfold sg;rw [if_neg hx]
  rw [es]
  clear es
  go_enter Try.func163,Try.ntmps163
  go_wp2
  go_ret
  exact⟨rfl,rfl⟩
end Go.Proofs.Ytcjcmnnhmajocab.Ev
namespace Go.Proofs.Ytcjcmnnhmajocab.St
open Go.RowKit Kt Me Fl
theorem aW (w:World) (cs:Array Value) (t:TypeId) (i:Nat):(w.alloc (.cells cs t)).cell? ⟨w.heap.size,i,none⟩=cs[i]?:=cell_of_row _ _ _ _ _ _ (heap_alloc_new w (.cells cs t))
end Go.Proofs.Ytcjcmnnhmajocab.St
namespace Go.Proofs.Ytcjcmnnhmajocab.Ev
open Go.RowKit Kt Me Fl
theorem off {W:World} {b i j:Nat} {v:Value} (dU:i≠j):(W.setCell ⟨b,j,none⟩ v).cell? ⟨b,i,none⟩=W.cell? ⟨b,i,none⟩:=St.off dU
theorem aW (w:World) (cs:Array Value) (t:TypeId) (i:Nat):(w.alloc (.cells cs t)).cell? ⟨w.heap.size,i,none⟩=cs[i]?:=St.aW w cs t i
theorem mg (w:World) (cs:Array Value) (t:TypeId) (i:Nat):(w.alloc (.cells cs t)).frozen? ⟨w.heap.size,i,none⟩=false:=by
 unfold World.frozen?
 rw [heap_alloc_new];simp
structure KB (h:Nat) (k x:Int) (W:World):Prop where
 c0:W.cell? ⟨h,0,none⟩=some (.int .i64 k)
 c1:W.cell? ⟨h,1,none⟩=some (.int .u32 x)
 z:∀i,W.frozen? ⟨h,i,none⟩=false
 l:h<W.heap.size
theorem KB.upto {S:Nat→Prop} {h:Nat} {k x:Int} {W W':World} (a:KB h k x W) (u:ah S W W') (hs:¬S h):KB h k x W':=
 ⟨(u.cell (q:=⟨h,0,none⟩) a.l hs).trans a.c0,(u.cell (q:=⟨h,1,none⟩) a.l hs).trans a.c1,fun i=>(u.frozen (q:=⟨h,i,none⟩) a.l hs).trans (a.z i),Nat.lt_of_lt_of_le a.l u.size⟩
theorem KB.set {h:Nat} {k x:Int} {W:World} (a:KB h k x W) (k' x':Int):KB h k' x' ((W.setCell ⟨h,0,none⟩ (.int .i64 k')).setCell ⟨h,1,none⟩ (.int .u32 x')):=by
 refine⟨(off (by omega)).trans (World.cell?_setCell_same _ _ _ a.c0),World.cell?_setCell_same _ _ _ ((off (by omega)).trans a.c1),fun i=>by simpa using a.z i,by simpa using a.l⟩
theorem KB.new (w:World) (k x:Int) (t:TypeId):KB w.heap.size k x (w.alloc (.cells #[.int .i64 k, .int .u32 x] t)):=
 ⟨aW w _ _ 0,aW w _ _ 1,fun i=>mg w _ _ i,by simp⟩
end Go.Proofs.Ytcjcmnnhmajocab.Ev
