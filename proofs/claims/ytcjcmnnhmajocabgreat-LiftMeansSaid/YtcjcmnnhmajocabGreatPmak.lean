import Derived.LoopN
import Derived.ProofKit
import Derived.Deep.DeepCutAuto
import Derived.Test.YtcjcmnnhmajocabGreatPmaj
set_option linter.unusedVariables false
set_option linter.unusedSimpArgs false
set_option maxRecDepth 100000
set_option maxHeartbeats 16000000
namespace Go.Proofs.YtcjcmnnhmajocabGreat.Me
open Go.RowKit Kt
def prE (k x:Int):Int:=if 0≤k∧k<256∧0≤x∧x≤7 then 0 else 4
def DC (M:MM) (k x:Int):MM:=if 0≤k∧k<256∧0≤x∧x≤7 then Um M k.toNat x else M
theorem ug (p:Nat) (M:MM) (k x:Int) (w:World) (h:HC p M w):
  Calls Tryz.prog 49 #[.pointer (some ⟨p,0,none⟩), .int .i64 k, .int .i64 x] w fun e w'=>e= .returned (.int .i64 (prE k x))∧HC p (DC M k x) w'∧ah (fun i=>i=p) w w':=by
 unfold prE DC
 by_cases hk:0≤k∧k<256∧0≤x∧x≤7
 ·rw [if_pos hk,if_pos hk]
  obtain⟨k0,k1,x0,x1⟩:=hk
  obtain⟨c,rfl⟩:=Int.eq_ofNat_of_zero_le k0
  refine(Dc p M (aj M.hi) c x w h (by omega) x0 x1 (sO _).1 (sO _).2).mono ?_
  rintro e w' ⟨rfl,h1,o1⟩
  refine⟨rfl, ?_,ah.yu o1⟩
  rw [Int.toNat_natCast]
  unfold HC
  rw [←Ql M c x (by omega)]
  exact h1
 ·rw [if_neg hk,if_neg hk]
  refine(Aa p M (aj M.hi) k x w h (by omega)).mono ?_
  rintro e w' ⟨rfl,rfl⟩
  exact⟨rfl,h,ah.refl _ _⟩
theorem rV (P:RP) (M:MM) (k x:Int) (w:World) (h:RM P M w):
  Calls Tryz.prog 50 #[.pointer (some ⟨P.q,0,none⟩), .int .i64 k, .int .i64 x] w fun e w'=>e= .returned (.int .i64 (prE k x))∧RM P (DC M k x) w'∧ah P.S w w':=by
 unfold prE DC
 by_cases hk:0≤k∧k<256∧0≤x∧x≤7
 ·rw [if_pos hk,if_pos hk]
  obtain⟨k0,k1,x0,x1⟩:=hk
  exact Af P M k x w h k0 k1 x0 x1
 ·rw [if_neg hk,if_neg hk]
  refine(yw P.q k x w (by omega)).mono ?_
  rintro e w' ⟨rfl,rfl⟩
  exact⟨rfl,h,ah.refl _ _⟩
theorem xP (P:RP) (M:MM) (k:Int) (b:Bool) (w:World) (h:RM P M w):
  Calls Tryz.prog 52 #[.pointer (some ⟨P.q,0,none⟩), .int .i64 k, .bool b] w fun e w'=>e= .returned (.int .i64 (mkE k))∧RM P (uK M k b) w'∧ah P.S w w':=by
 unfold mkE uK
 by_cases hk:0≤k∧k<256
 ·rw [if_pos hk,if_pos hk]
  exact JZ P M k b w h hk.1 hk.2
 ·rw [if_neg hk,if_neg hk]
  refine(Gz P.q k b w (by omega)).mono ?_
  rintro e w' ⟨rfl,rfl⟩
  exact⟨rfl,h,ah.refl _ _⟩
theorem bQ.l7 {M:MM} (h:bQ M) (k:Nat):bQ (l7 M k):=by
 obtain⟨e1,e2,_⟩:=JU M k
 exact⟨fun j=>by rw [e1];exact h.1 j,fun j=>by rw [e2];exact h.2 j⟩
theorem bQ.put {M:MM} (h:bQ M) (k:Nat) (x:Int) (hx:0≤x∧x<256):bQ {M with fD:=aF M.fD k x}:=
 ⟨fun j=>by simp only [aF];split;exact hx;exact h.1 j,h.2⟩
theorem bQ.pk {us:List Int}:∀ {M:MM} (at_:Nat),bQ M→(∀j,0≤us.getD j 0∧us.getD j 0<256)→bQ (pk M at_ us):=by
 induction us with
 | nil=>exact fun _ h _=>h
 | cons b bs ih=>
  intro M at_ h hr
  exact ih (at_+1) ((h.put at_ b (by simpa using hr 0)).l7 _) (fun j=>by simpa using hr (j+1))
theorem bQ.DC {M:MM} (h:bQ M) (k x:Int):bQ (DC M k x):=by
 unfold Me.DC
 split
 ·next hk=>
  have h1:bQ (if M.rt k.toNat=x then M else Me.l7 M k.toNat):=by split;exact h;exact h.l7 _
  exact⟨h1.1,fun j=>by
   show 0≤aF M.rt k.toNat x j∧aF M.rt k.toNat x j<8
   simp only [aF];split
   ·omega
   ·exact h.2 j⟩
 ·exact h
theorem bQ.uK {M:MM} (h:bQ M) (k:Int) (b:Bool):bQ (uK M k b):=by
 unfold Me.uK Jf
 split
 ·split<;>exact⟨h.1,h.2⟩
 ·exact h
theorem bQ.yx {M:MM} (h:bQ M) (a:Int) {us:List Int} (hr:∀j,0≤us.getD j 0∧us.getD j 0<256):bQ (yx M a us):=by
 unfold Me.yx;split
 ·exact h.pk _ hr
 ·exact h
theorem VG (n v:Int) (v0:0≤v) (v1:v<4294967296):∀j,0≤(O8 n v).getD j 0∧(O8 n v).getD j 0<256:=by
 intro j
 unfold O8
 split
 ·match j with
  | 0=>simp;omega
  | j+1=>simp
 ·split
  ·match j with
   | 0=>simp;omega
   | 1=>simp;omega
   | j+2=>simp
  ·split
   ·match j with
    | 0=>simp;omega
    | 1=>simp;omega
    | 2=>simp;omega
    | 3=>simp;omega
    | j+4=>simp
   ·simp
theorem bQ.nU {M:MM} (h:bQ M) (a n v:Int) (v0:0≤v) (v1:v<4294967296):bQ (nU M a n v):=by
 unfold Me.nU
 split
 ·split
  ·exact h.pk _ (VG n v v0 v1)
  ·exact h
 ·exact h
theorem bQ.zero:bQ M0:=⟨fun _=>by simp [M0],fun _=>by simp [M0]⟩
structure vU (p:Nat) (P:RP) (M:MM) (W:World):Prop where
 hc:HC p M W
 rm:RM P M W
 ne:¬P.has p
 ok:bQ M
def PS (p:Nat) (P:RP) (k:Nat):Prop:=k=p∨P.has k
theorem vU.upto {p:Nat} {P:RP} {M:MM} {w w':World} {S:Nat→Prop} (h:vU p P M w) (u:ah S w w') (hs:∀k,PS p P k→¬S k):vU p P M w':=
 ⟨h.hc.upto u (hs p (.inl rfl)),h.rm.upto u (fun k hk=>hs k (.inr hk)),h.ne,h.ok⟩
theorem vU.lt {p:Nat} {P:RP} {M:MM} {w:World} (h:vU p P M w) (k:Nat) (hk:PS p P k):k<w.heap.size:=by
 rcases hk with hk | hk | hk | hk | hk | hk
 ·rw [hk];exact h.hc.2.2.2.2.2.2
 ·rw [hk];exact h.rm.lq
 ·rw [hk];exact h.rm.lb
 ·rw [hk];exact h.rm.lr
 ·rw [hk];exact h.rm.lm
 ·rw [hk];exact h.rm.lt
theorem vU.hm {p:Nat} {P:RP} {M M':MM} {w w':World} (h:vU p P M w) (h1:HC p M' w') (u:ah (fun i=>i=p) w w'):RM P M w':=
 h.rm.upto u (fun k hk e=>h.ne (e▸hk))
end Go.Proofs.YtcjcmnnhmajocabGreat.Me
namespace Go.Proofs.YtcjcmnnhmajocabGreat.St
open Go.RowKit Kt Me
def yA (kind:Int) (o:Option Int):Int:=match o with | none=>0 | some _=>kind
def Aq (o:Option Int):Int:=match o with | none=>0 | some x=>x
theorem dw (kind:Int) (o:Option Int):stpV kind o= .agg #[.int .i64 (yA kind o), .int .u32 (Aq o)]:=by cases o<;>rfl
structure uh (A p:Nat) (R:Nat→Int) (pc f nx k x:Int) (W:World):Prop where
 m:W.cell? ⟨A,0,none⟩=some (.pointer (some ⟨p,0,none⟩))
 r:∀j,j<8→W.cell? ⟨A,1+j,none⟩=some (.int .u32 (R j))
 c9:W.cell? ⟨A,9,none⟩=some (.int .u32 pc)
 c10:W.cell? ⟨A,10,none⟩=some (.int .u32 f)
 c11:W.cell? ⟨A,11,none⟩=some (.int .u32 nx)
 c12:W.cell? ⟨A,12,none⟩=some (.int .i64 k)
 c13:W.cell? ⟨A,13,none⟩=some (.int .u32 x)
 z:∀i,W.frozen? ⟨A,i,none⟩=false
 l:A<W.heap.size
variable {A p:Nat} {R:Nat→Int} {pc f nx k x:Int} {W W':World}
theorem uh.upto {S:Nat→Prop} (h:uh A p R pc f nx k x W) (u:ah S W W') (hs:¬S A):uh A p R pc f nx k x W':=
 ⟨(u.cell h.l hs).trans h.m,fun j hj=>(u.cell h.l hs).trans (h.r j hj),(u.cell h.l hs).trans h.c9,(u.cell h.l hs).trans h.c10,(u.cell h.l hs).trans h.c11,(u.cell h.l hs).trans h.c12,(u.cell h.l hs).trans h.c13,fun i=>(u.frozen h.l hs).trans (h.z i),Nat.lt_of_lt_of_le h.l u.size⟩
theorem uh.drew (h:uh A p R pc f nx k x W):uh A p R pc f nx k x W.drew:=⟨h.m,h.r,h.c9,h.c10,h.c11,h.c12,h.c13,h.z,h.l⟩
theorem off {b i j:Nat} {v:Value} (dR:i≠j):(W.setCell ⟨b,j,none⟩ v).cell? ⟨b,i,none⟩=W.cell? ⟨b,i,none⟩:=
 World.cell?_setCell_other _ _ _ _ (by intro h;simp only [Addr.mk.injEq] at h;omega)
theorem uh.bI (h:uh A p R pc f nx k x W) (d:Nat) (hd:d<8) (v:Int):uh A p (aF R d v) pc f nx k x (W.setCell ⟨A,1+d,none⟩ (.int .u32 v)):=by
 refine⟨(off (by omega)).trans h.m,fun j hj=> ?_,(off (by omega)).trans h.c9,(off (by omega)).trans h.c10,(off (by omega)).trans h.c11,(off (by omega)).trans h.c12,(off (by omega)).trans h.c13,fun i=>by simpa using h.z i,by simpa using h.l⟩
 by_cases hjd:j=d
 ·subst hjd;rw [World.cell?_setCell_same _ _ _ (h.r j hj)];simp only [aF,if_true]
 ·rw [off (by omega),h.r j hj];simp only [aF,if_neg hjd]
theorem uh.jk (h:uh A p R pc f nx k x W) (v:Int):uh A p R v f nx k x (W.setCell ⟨A,9,none⟩ (.int .u32 v)):=
 ⟨(off (by omega)).trans h.m,fun j hj=>(off (by omega)).trans (h.r j hj),World.cell?_setCell_same _ _ _ h.c9,(off (by omega)).trans h.c10,(off (by omega)).trans h.c11,(off (by omega)).trans h.c12,(off (by omega)).trans h.c13,fun i=>by simpa using h.z i,by simpa using h.l⟩
theorem uh.gU (h:uh A p R pc f nx k x W) (v:Int):uh A p R pc v nx k x (W.setCell ⟨A,10,none⟩ (.int .u32 v)):=
 ⟨(off (by omega)).trans h.m,fun j hj=>(off (by omega)).trans (h.r j hj),(off (by omega)).trans h.c9,World.cell?_setCell_same _ _ _ h.c10,(off (by omega)).trans h.c11,(off (by omega)).trans h.c12,(off (by omega)).trans h.c13,fun i=>by simpa using h.z i,by simpa using h.l⟩
theorem uh.Ut (h:uh A p R pc f nx k x W) (v:Int):uh A p R pc f v k x (W.setCell ⟨A,11,none⟩ (.int .u32 v)):=
 ⟨(off (by omega)).trans h.m,fun j hj=>(off (by omega)).trans (h.r j hj),(off (by omega)).trans h.c9,(off (by omega)).trans h.c10,World.cell?_setCell_same _ _ _ h.c11,(off (by omega)).trans h.c12,(off (by omega)).trans h.c13,fun i=>by simpa using h.z i,by simpa using h.l⟩
theorem uh.iD (h:uh A p R pc f nx k x W) (v:Int):uh A p R pc f nx v x (W.setCell ⟨A,12,none⟩ (.int .i64 v)):=
 ⟨(off (by omega)).trans h.m,fun j hj=>(off (by omega)).trans (h.r j hj),(off (by omega)).trans h.c9,(off (by omega)).trans h.c10,(off (by omega)).trans h.c11,World.cell?_setCell_same _ _ _ h.c12,(off (by omega)).trans h.c13,fun i=>by simpa using h.z i,by simpa using h.l⟩
def AS (A p:Nat) (i:Nat):Prop:=i=A∨i=p
def qI (R:Nat→Int):Prop:=∀j,0≤R j∧R j<4294967296
theorem qI.aF (h:qI R) (d:Nat) (v:Int) (hv:0≤v∧v<4294967296):qI (aF R d v):=fun j=>by
 unfold Me.aF;split
 ·exact hv
 ·exact h j
def au (x:Int):Int:=x%4294967296
theorem aP (x:Int):0≤au x∧au x<4294967296:=by unfold au;omega
open Fl
theorem nD (k a b old:Int):0≤fl k a b old∧fl k a b old<16:=by
 unfold fl
 have h1:=EW a b 0
 have h2:=EW a b (old/4%2)
 have h3:=EY a b 0
 have h4:=EY a b (old/4%2)
 have h5:=gX a
 have h6:=gX (a*b%4294967296)
 have h7:=gX ((a+1)%4294967296)
 have h8:=gX ((a-1)%4294967296)
 have h9:=gX (a*2^n5 b%4294967296)
 have BU:=gX (a/2^n5 b)
 have YR:=gX (sg a/2^n5 b%4294967296)
 generalize uF a b 0=y1 at*
 generalize uF a b (old/4%2)=y2 at*
 generalize uG a b 0=y3 at*
 generalize uG a b (old/4%2)=y4 at*
 repeat' split
 all_goals omega
structure Out where
 M:MM
 R:Nat→Int
 pc:Int
 f:Int
 k:Int
 x:Int
def ldO (M:MM) (R:Nat→Int) (pc f q n:Int) (g:Int→Out):Out:=match aQ M 1 q n.toNat with
 | none=>g (jD M q n)
 | some x=>⟨M,R,pc,f,5,x⟩
def mg (M:MM) (R:Nat→Int) (pc f q n v:Int) (g:MM→Out):Out:=match jE M q n with
 | none=>g (nU M q n v)
 | some x=>⟨M,R,pc,f,6,x⟩
def ldN (o:Int):Int:=if o=0 then 1 else if o=1 then 1 else if o=2 then 2 else if o=3 then 2 else 4
def ZN (o:Int):Int:=if o=0 then 1 else if o=1 then 2 else 4
def jd (o v:Int):Int:=if o=1 then(if 128≤v%256 then v%256+4294967040 else v%256) else if o=3 then(if 32768≤v%65536 then v%65536+4294901760 else v%65536) else v
def gK (M:MM) (R:Nat→Int) (pc f nx k:Int) (d s:Nat) (o m:Int):Out:=
 let sp:=au (R 7-4)
 let up:=au (R 7+4)
 let q:=au (R s+m)
 let ok (R':Nat→Int) (kH f':Int):Out:=⟨M,R',kH,f',0,0⟩
 if k=0 then ok R nx f
 else if k=1 then⟨M,R,pc,f,2,0⟩
 else if k=2 then ldO M R pc f (R 7) 4 fun v=>⟨M,aF R 7 up,v,f,0,0⟩
 else if k=3 then mg M R pc f sp 4 f fun M'=>⟨M',aF R 7 sp,nx,f,0,0⟩
 else if k=4 then ldO M R pc f (R 7) 4 fun v=>⟨M,aF R 7 up,nx,v%16,0,0⟩
 else if k=5 then⟨M,R,nx,f,1,m⟩
 else if k=6∨k=7 then ok R (au (nx+m)) f
 else if k=8 then mg M R pc f sp 4 nx fun M'=>⟨M',aF R 7 sp,au (nx+m),f,0,0⟩
 else if k=9 then ok R (R s) f
 else if k=10 then mg M R pc f sp 4 nx fun M'=>⟨M',aF R 7 sp,R s,f,0,0⟩
 else if k=11 then ldO M R pc f q 4 fun v=>⟨M,R,v,f,0,0⟩
 else if k=12∨k=13 then ok R (if hd o f then au (nx+m) else nx) f
 else if k=14 then mg M R pc f sp 4 (R s) fun M'=>⟨M',aF R 7 sp,nx,f,0,0⟩
 else if k=15 then ldO M R pc f (R 7) 4 fun v=>⟨M,aF (aF R 7 up) d v,nx,f,0,0⟩
 else if k=16 then ok (aF R d m) nx f
 else if k=17 then ok (aF R d (au (R d+1))) nx (fl 11 (R d) 0 f)
 else if k=18 then ok (aF R d (au (R d-1))) nx (fl 12 (R d) 0 f)
 else if k=19 then ok (aF R d (au (-R d))) nx (fl 3 0 (R d) f)
 else if k=20 then ok (aF R d (4294967295-R d)) nx f
 else if k=21 then ok (aF R d (if hd o f then 1 else 0)) nx f
 else if k=22 then ok (aF R d (R s)) nx f
 else if k=23 then ok (aF R d q) nx f
 else if k=24 then ldO M R pc f q 4 fun v=>mg M R pc f q 4 (R d) fun M'=>⟨M',aF R d v,nx,f,0,0⟩
 else if k=25 then ldO M R pc f q 4 fun v=>mg M R pc f q 4 (au (v+R d)) fun M'=>⟨M',aF R d v,nx,fl 1 v (R d) f,0,0⟩
 else if k=26 then ldO M R pc f q 4 fun v=>if R 0=v then mg M R pc f q 4 (R d) fun M'=>⟨M',R,nx,fl 3 (R 0) v f,0,0⟩ else mg M R pc f q 4 v fun M'=>⟨M',aF R 0 v,nx,fl 3 (R 0) v f,0,0⟩
 else if k=27 then(if uJ o (R s) then ok (aF R d (lW o (R d) (R s) f)) nx (nR o (R d) (R s) f) else⟨M,R,pc,f,7,0⟩)
 else if k=28∨k=29 then(if uJ o m then ok (aF R d (lW o (R d) m f)) nx (nR o (R d) m f) else⟨M,R,pc,f,7,0⟩)
 else if k=30 then ldO M R pc f q (ldN o) fun v=>⟨M,aF R d (jd o v),nx,f,0,0⟩
 else mg M R pc f q (ZN o) (R d) fun M'=>⟨M',R,nx,f,0,0⟩
def AtQ (A p:Nat) (pc:Int) (o:Out) (w w':World):Prop:=
 ∃ (R':Nat→Int) (f' nx':Int),uh A p R' pc f' nx' o.k o.x w'∧HC p o.M w'∧ah (AS A p) w w'∧((o.k=0∨o.k=1)→R'=o.R∧f'=o.f∧nx'=o.pc)
theorem AtQ.ok {A p:Nat} {pc:Int} {M:MM} {R:Nat→Int} {f nx k x:Int} {w w':World} (h:uh A p R pc f nx k x w') (hm:HC p M w') (u:ah (AS A p) w w'):AtQ A p pc ⟨M,R,nx,f,k,x⟩ w w':=⟨R,f,nx,h,hm,u,fun _=>⟨rfl,rfl,rfl⟩⟩
theorem AtQ.stop {A p:Nat} {pc kH:Int} {M:MM} {R R':Nat→Int} {f f' nx k x:Int} {w w':World} (h:uh A p R pc f nx k x w') (hm:HC p M w') (u:ah (AS A p) w w') (hk:2≤k):AtQ A p pc ⟨M,R',kH,f',k,x⟩ w w':=
 ⟨R,f,nx,h,hm,u,fun h=>by
  have h':k=0∨k=1:=h
  omega⟩
theorem jl {M:MM} {q n v x:Int} (h:jE M q n=some x):nU M q n v=M:=by
 unfold jE at h
 unfold nU
 split at h
 ·next hn=>rw [if_pos hn,h];rfl
 ·cases h
end Go.Proofs.YtcjcmnnhmajocabGreat.St
namespace Go.Proofs.YtcjcmnnhmajocabGreat.Ev
open Go.RowKit Kt Me Fl
def lZ (w:Int):Int:=if w=0 then 0 else if w=1 then 2 else if w=2 then 4 else if w=3 then 5 else if w=4 then 6 else if w=5 then 9 else if w=6 then 10 else if w=7 then 11 else if w=8 then 12 else 13
def eF (w a b:Int):Int:=
 if w<10 then lW (lZ w) a b 0
 else if w=10 then a*b/4294967296
 else if w=11 then(if b=0 then 4294967295 else a/b)
 else if w=12 then(if b=0 then a else a%b)
 else if w=13 then(if a=b then 1 else 0)
 else if w=14 then(if a<b then 1 else 0)
 else(if sg a<sg b then 1 else 0)
def s8 (a:Int):Int:=if 128≤a%256 then a%256+4294967040 else a%256
def YS (a:Int):Int:=if 32768≤a%65536 then a%65536+4294901760 else a%65536
def uQ (w a:Int):Int:=
 if w=0 then 4294967295-a
 else if w=1 then(-a)%4294967296
 else if w=2 then s8 a
 else if w=3 then YS a
 else if w=4 then a%256
 else if w=5 then a%65536
 else(if a=0 then 1 else 0)
def mW (k w kn a b c:Int):Int:=
 if k=1 then kn
 else if k=4 then eF w a b
 else if k=5 then uQ w a
 else if k=6 then(if a=0 then c else b)
 else if k=7 then fl w a b c
 else(if hd w a then 1 else 0)
def wid (w v:Int):Int:=if w=1 then s8 v else if w=3 then YS v else v
def vV (w:Int):Int:=if w=0 then 1 else if w=1 then 1 else if w=2 then 2 else if w=3 then 2 else 4
def vW (w:Int):Int:=if w=0 then 1 else if w=1 then 2 else 4
theorem Uu (a:Int):0≤s8 a∧s8 a<4294967296:=by unfold s8;split<;>omega
theorem KF (a:Int):0≤YS a∧YS a<4294967296:=by unfold YS;split<;>omega
theorem QE (o a b f:Int) (a0:0≤a) (a1:a<4294967296) (b0:0≤b) (b1:b<4294967296) (ho:o=0∨o=2∨o=4∨o=5∨o=6∨o=9∨o=10∨o=11∨o=12∨o=13):0≤lW o a b f∧lW o a b f<4294967296:=by
 have h1:=jR .and a b a0 a1 b0 b1
 have h2:=jR .or a b a0 a1 b0 b1
 have h3:=jR .xor a b a0 a1 b0 b1
 have h4:=nY a (n5 b) (Uj b) a0 a1
 have h5:0≤a/2^n5 b∧a/2^n5 b≤a:=⟨Int.ediv_nonneg a0 (Int.le_of_lt (two_pow_pos _)),Int.ediv_le_self _ a0⟩
 have e1:0≤a*2^n5 b%4294967296∧a*2^n5 b%4294967296<4294967296:=⟨Int.emod_nonneg _ (by decide),Int.emod_lt_of_pos _ (by decide)⟩
 have e2:0≤sg a/2^n5 b%4294967296∧sg a/2^n5 b%4294967296<4294967296:=⟨Int.emod_nonneg _ (by decide),Int.emod_lt_of_pos _ (by decide)⟩
 have e3:0≤a*b%4294967296∧a*b%4294967296<4294967296:=⟨Int.emod_nonneg _ (by decide),Int.emod_lt_of_pos _ (by decide)⟩
 rcases ho with rfl | rfl | rfl | rfl | rfl | rfl | rfl | rfl | rfl | rfl
 ·show 0≤(a+b)%4294967296∧(a+b)%4294967296<4294967296;omega
 ·show 0≤(a-b)%4294967296∧(a-b)%4294967296<4294967296;omega
 ·exact h1
 ·exact h2
 ·exact h3
 ·exact e1
 ·exact⟨h5.1,Int.lt_of_le_of_lt h5.2 a1⟩
 ·exact e2
 ·exact h4
 ·exact e3
theorem QF (w a b:Int) (a0:0≤a) (a1:a<4294967296) (b0:0≤b) (b1:b<4294967296):0≤eF w a b∧eF w a b<4294967296:=by
 unfold eF
 split
 ·refine QE _ _ _ _ a0 a1 b0 b1 ?_
  unfold lZ
  repeat' split
  all_goals omega
 ·split
  ·have h0:0≤a*b:=Int.mul_nonneg a0 b0
   have h1:a*b≤4294967295*4294967295:=Int.mul_le_mul (by omega) (by omega) b0 (by decide)
   omega
  ·split
   ·split
    ·omega
    ·have:=Int.ediv_le_self b a0
     exact⟨Int.ediv_nonneg a0 b0,Int.lt_of_le_of_lt this a1⟩
   ·split
    ·split
     ·omega
     ·next hb=>exact⟨Int.emod_nonneg _ hb,Int.lt_trans (Int.emod_lt_of_pos _ (by omega)) b1⟩
    ·repeat' split
     all_goals omega
theorem VH (w a:Int) (a0:0≤a) (a1:a<4294967296):0≤uQ w a∧uQ w a<4294967296:=by
 have h1:=Uu a
 have h2:=KF a
 unfold uQ
 repeat' split
 all_goals omega
theorem QG (k w kn a b c:Int) (k0:0≤kn) (k1:kn<4294967296) (a0:0≤a) (a1:a<4294967296) (b0:0≤b) (b1:b<4294967296) (c0:0≤c) (c1:c<4294967296):0≤mW k w kn a b c∧mW k w kn a b c<4294967296:=by
 have h1:=QF w a b a0 a1 b0 b1
 have h2:=VH w a a0 a1
 have h3:=St.nD w a b c
 unfold mW
 by_cases e:k=1
 ·rw [if_pos e];exact⟨k0,k1⟩
 rw [if_neg e];clear e
 by_cases e:k=4
 ·rw [if_pos e];exact h1
 rw [if_neg e];clear e
 by_cases e:k=5
 ·rw [if_pos e];exact h2
 rw [if_neg e];clear e
 by_cases e:k=6
 ·rw [if_pos e];split<;>omega
 rw [if_neg e];clear e
 by_cases e:k=7
 ·rw [if_pos e];omega
 rw [if_neg e];clear e
 split<;>omega
theorem KG (w v:Int) (v0:0≤v) (v1:v<4294967296):0≤wid w v∧wid w v<4294967296:=by
 have h1:=Uu v
 have h2:=KF v
 unfold wid
 repeat' split
 all_goals omega
end Go.Proofs.YtcjcmnnhmajocabGreat.Ev
namespace Go.Proofs.YtcjcmnnhmajocabGreat.Ot
open Go.RowKit Kt Ic Me Ev
instance agB:DecidableEq aV:=fun a b=>decidable_of_iff (a.k=b.k∧a.w=b.w∧a.a=b.a∧a.b=b.b∧a.c=b.c∧a.kn=b.kn∧a.n=b.n) ⟨fun h=>by obtain⟨h1,h2,h3,h4,h5,h6,h7⟩:=h;cases a;cases b;dsimp only at*;subst h1 h2 h3 h4 h5 h6 h7;rfl,fun h=>by subst h;exact⟨rfl,rfl,rfl,rfl,rfl,rfl,rfl⟩⟩
structure Wk where
 ops:List aV
 «to»:Nat→Int
 sl:Nat→Int
 now:Int
def zo:aV:=⟨0,0,0,0,0,0,0⟩
def opAt (os:List aV) (t:Nat):aV:=os.getD t zo
def tA (k:Int):Bool:=decide (k=3∨k=4∨k=5∨k=6∨k=7∨k=8∨k=9∨k=10∨k=12∨k=13∨k=16)
def tB (k:Int):Bool:=decide (k=4∨k=6∨k=7∨k=10)
def tC (k:Int):Bool:=decide (k=6∨k=7)
def Wk.nx (s:Wk):Int:=s.ops.length
def Wk.put (s:Wk) (o:aV):Wk:={s with ops:=s.ops++ [o]}
def Wk.set (s:Wk) (i:Nat) (x:Int):Wk:={s with «to»:=aF s.to i x}
def Wk.st (s:Wk) (j:Nat) (x:Int):Wk:={s with sl:=aF s.sl j x}
def Wk.Jy (s:Wk) (x:Int):Wk:={s with now:=x}
def yB (k:Int):Bool:=decide (k=1∨(4≤k∧k≤8))
def idx (o:aV):List aV→Option Nat
 | []=>none
 | x::l=>if x=o then some 0 else(idx o l).map (· +1)
def Wk.num (s:Wk) (o:aV):Int×Wk:=match idx o s.ops with
 | some k=>((k:Int),s)
 | none=>(s.nx,s.put o)
def VI (s:Wk) (t:Int):Bool:=decide ((opAt s.ops t.toNat).k=1)
def kn (s:Wk) (t:Int):Int:=(opAt s.ops t.toNat).kn
def lv (w:Int):Bool:=decide (w=0∨w=1∨w=3∨w=4∨w=5∨w=6∨w=7∨w=8∨w=12)
def ael (s:Wk) (o:aV):Bool:=(!tA o.k || VI s o.a)&&(!tB o.k || VI s o.b)&&(!tC o.k || VI s o.c)
def cK (x:Int):aV:=⟨1,0,0,0,0,x,0⟩
def vA (s:Wk) (o:aV):Int:=if tA o.k then kn s o.a else 0
def vB (s:Wk) (o:aV):Int:=if tB o.k then kn s o.b else 0
def vC (s:Wk) (o:aV):Int:=if tC o.k then kn s o.c else 0
def fold (s:Wk) (o:aV):aV:=cK (mW o.k o.w o.kn (vA s o) (vB s o) (vC s o))
def Wk.val (s:Wk) (o:aV):Int×Wk:=
 if o.k=1 then s.num o
 else if ael s o then s.num (fold s o)
 else if o.k=6∧VI s o.a=true then(if kn s o.a=0 then o.c else o.b,s)
 else if o.k=6∧o.b=o.c then(o.b,s)
 else if o.k=4∧VI s o.b=true∧kn s o.b=0∧lv o.w=true then(o.a,s)
 else s.num o
def flK (x:Int):Int:=if x≤12 then x else 0
def Wk.VJ (s:Wk) (o:aV):Int×Wk:=
 if 0≤s.sl 8∧0≤s.sl 9∧0≤s.sl 10∧0≤s.sl 11∧VI s (s.sl 8)=true then s.val ⟨7,flK (kn s (s.sl 8)),s.sl 9,s.sl 10,s.sl 11,0,0⟩
 else if s.now<0 then(s.nx,(s.put o).Jy s.nx)
 else(s.now,s)
def Wk.per (s:Wk) (o:aV):Bool×Wk:=
 if VI s o.a=false then(false,s.put o)
 else if kn s o.a=0 then(false,s)
 else if o.k=12 then(true,s.put ⟨15,0,0,0,0,o.kn,o.n⟩)
 else(true,s.put ⟨14,o.w,0,0,0,o.kn,o.n⟩)
def Wk.slt (s:Wk) (o:aV):Wk:=
 if s.sl o.w.toNat=o.a then s else(if 8≤o.w then(s.st o.w.toNat o.a).Jy (-1) else s.st o.w.toNat o.a).put o
def Wk.got (s:Wk) (i:Nat) (o:aV):Wk:=
 if s.sl o.w.toNat<0 then((s.put o).st o.w.toNat s.nx).set i s.nx else s.set i (s.sl o.w.toNat)
def Wk.step (s:Wk) (i:Nat) (o:aV):Bool×Wk:=
 if o.k=2 then(false,s.got i o)
 else if o.k=3 then(false,s.slt o)
 else if o.k=17 then(false,(s.VJ o).2.set i (s.VJ o).1)
 else if yB o.k then(false,(s.val o).2.set i (s.val o).1)
 else if o.k=12∨o.k=13 then s.per o
 else(false,(s.put o).set i s.nx)
def w0:Wk:=⟨[],fun _=>0,fun _=> -1,-1⟩
structure Dd where
 ov:Nat→Bool
 us:Nat→Bool
 kp:Nat→Bool
def gvD (k:Int):Bool:=decide (k=1∨k=2∨(4≤k∧k≤8)∨k=17)
def Dd.kpO (d:Dd) (i:Nat) (o:aV):Bool:=if o.k=3 then !d.ov o.w.toNat else if gvD o.k then d.us i else true
def Dd.ov1 (d:Dd) (o:aV):Nat→Bool:=if o.k=3 then aF d.ov o.w.toNat true else if gvD o.k then d.ov else fun _=>false
def Dd.ov2 (d:Dd) (o:aV):Nat→Bool:=if o.k=2 then aF (d.ov1 o) o.w.toNat false else if o.k=17 then(fun j=>if 8≤j then false else d.ov1 o j) else d.ov1 o
def mk1 (b:Bool) (u:Nat→Bool) (t:Int):Nat→Bool:=if b then aF u t.toNat true else u
def Dd.us2 (d:Dd) (o:aV):Nat→Bool:=mk1 (tC o.k) (mk1 (tB o.k) (mk1 (tA o.k) d.us o.a) o.b) o.c
def Dd.one (d:Dd) (i:Nat) (o:aV):Dd:=
 if d.kpO i o then⟨d.ov2 o,d.us2 o,aF d.kp i true⟩ else⟨d.ov1 o,d.us,aF d.kp i false⟩
def e0:Wk:=⟨[],fun _=>0,fun _=>0,0⟩
def KH (a:Option Nat) (b:Bool) (n:Nat):Option Nat:=match a with
 | some k=>some k
 | none=>if b then some n else none
theorem vX (x o:aV):∀l,idx x (l++ [o])=KH (idx x l) (decide (o=x)) l.length
 | []=>by
  show(if o=x then some 0 else none)=if decide (o=x)=true then some 0 else none
  simp
 | y::l=>by
  show(if y=x then some 0 else(idx x (l++ [o])).map (· +1))=KH (if y=x then some 0 else(idx x l).map (· +1)) (decide (o=x)) (l.length+1)
  by_cases e:y=x
  ·rw [if_pos e,if_pos e];rfl
  ·rw [if_neg e,if_neg e,vX x o l]
   cases idx x l with
   | some k=>rfl
   | none=>
    by_cases e:o=x
    ·simp [KH,e]
    ·simp [KH,e]
def vY (os:List aV):List Value:=os.flatMap fun o=>o.cells.toList
theorem KI (a b:List aV):vY (a++b)=vY a++vY b:=by unfold vY;simp
theorem Ar:∀ (os:List aV) (i j:Nat) (o:aV),os[i]?=some o→j<7→(vY os)[i*7+j]?=o.cells[j]?
 | [],i,j,o,h,_=>by simp at h
 | x::os,0,j,o,h,hj=>by
  obtain rfl:x=o:=by simpa using h
  show(x.cells.toList++vY os)[0*7+j]?=_
  have hl:x.cells.toList.length=7:=rfl
  rw [Nat.zero_mul,Nat.zero_add,List.getElem?_append_left (by omega),Array.getElem?_toList]
 | x::os,i+1,j,o,h,hj=>by
  show(x.cells.toList++vY os)[(i+1)*7+j]?=_
  have hl:x.cells.toList.length=7:=rfl
  rw [List.getElem?_append_right (by omega),hl,show(i+1)*7+j-7=i*7+j by omega]
  exact Ar os i j o (by simpa using h) hj
theorem Hf (o:aV):∀ (j:Nat) (v:Value),o.cells[j]?=some v→v.oneCell'=true:=by
 intro j v h
 match j,h with
 | 0,h=>simp [aV.cells] at h;subst h;rfl
 | 1,h=>simp [aV.cells] at h;subst h;rfl
 | 2,h=>simp [aV.cells] at h;subst h;rfl
 | 3,h=>simp [aV.cells] at h;subst h;rfl
 | 4,h=>simp [aV.cells] at h;subst h;rfl
 | 5,h=>simp [aV.cells] at h;subst h;rfl
 | 6,h=>simp [aV.cells] at h;subst h;rfl
 | n+7,h=>simp [aV.cells] at h
def fC (base:Nat) (v:Value) (os:List aV) (w:World):Prop:=w.ownsRow base 115 7 v os.length (vY os)
theorem fC.upto {B:Nat} {v:Value} {us:List aV} {w w':World} {S:Nat→Prop} (h:fC B v us w) (u:ah S w w') (hs:∀k,v.ownBlock=some k→¬S k):fC B v us w':=by
 obtain⟨h1,h⟩:=h
 refine⟨h1, ?_⟩
 rcases h with h | ⟨g,cap,cur,e1,e2,e3,e4⟩
 ·exact .inl h
 ·exact .inr ⟨g,cap,cur,e1,e2,(u.block g (Array.getElem?_eq_some_iff.1 e3).1 (hs g (by rw [e1];rfl))).trans e3,e4⟩
theorem fC.blk {B:Nat} {v:Value} {us:List aV} {w:World} (h:fC B v us w):∀k,v.ownBlock=some k→B≤k∧k<w.heap.size:=by
 intro k hk
 rcases h.2 with⟨e,_⟩ | ⟨g,cap,cur,e1,e2,e3,_⟩
 ·rw [e] at hk;exact nomatch hk
 ·rw [e1] at hk
  obtain rfl:g=k:=by simpa [Value.ownBlock] using hk
  exact⟨e2,(Array.getElem?_eq_some_iff.1 e3).1⟩
theorem fC.form {B:Nat} {v:Value} {us:List aV} {W:World} (h:fC B v us W):∃ao cap,v= .slice ao us.length cap∧zY us ao cap W∧(0<us.length→∃b,ao=some ⟨b,0,none⟩∧v.ownBlock=some b∧B≤b∧b<W.heap.size∧
  ∀i o,us[i]?=some o→∀j u,o.cells[j]?=some u→W.cell? ⟨b,i*7+j,none⟩=some u):=by
 rcases h.2 with⟨rfl,hn⟩ | ⟨g,c1,cur,rfl,hg,iT,hle,Dt,jS,Ji⟩
 ·have Uw:us.length=0:=hn
  rw [Uw]
  exact⟨none,0,rfl,⟨by omega,by unfold maxLen;omega,fun h=>absurd h (by omega)⟩,fun h=>absurd h (by omega)⟩
 ·have hgl:g<W.heap.size:=(Array.getElem?_eq_some_iff.1 iT).1
  have hc:∀i o,us[i]?=some o→∀j u,o.cells[j]?=some u→W.cell? ⟨g,i*7+j,none⟩=some u:=fun i o hi j u hj=>by
   have hj7:j<7:=by
    have:=(Array.getElem?_eq_some_iff.1 hj).1
    exact this
   have hil:=(List.getElem?_eq_some_iff.1 hi).1
   rw [cell_of_row W g (i*7+j) _ _ _ iT,←Array.getElem?_toList]
   have h2:(cur.toList.take (us.length*7))[i*7+j]?=(vY us)[i*7+j]?:=by rw [Ji]
   rw [List.getElem?_take,if_pos (by omega),Ar us i j o hi hj7,hj] at h2
   exact h2
  refine⟨_,c1,rfl,⟨hle,Dt,fun _=>⟨g,0,rfl,hgl,fun i o hi j u hj=>by rw [Nat.zero_add];exact hc i o hi j u hj⟩⟩,fun _=>⟨g,rfl,rfl,hg,hgl,hc⟩⟩
theorem opi:∃i,Tryz.prog.info? 115=some i∧i.zero=some (.agg #[.int .i64 0, .int .i64 0, .int .i64 0, .int .i64 0, .int .i64 0, .int .u32 0, .int .i64 0])∧i.size=7∧i.bytes=56:=by
 have h:(Tryz.prog.info? 115).map (fun i=>(i.zero,i.size,i.bytes))=some (some (.agg #[.int .i64 0, .int .i64 0, .int .i64 0, .int .i64 0, .int .i64 0, .int .u32 0, .int .i64 0]),7,56):=by kernel_rfl
 obtain⟨i,hi,hz⟩:=Option.map_eq_some_iff.1 h
 simp only [Prod.mk.injEq] at hz
 exact⟨i,hi,hz.1,hz.2.1,hz.2.2⟩
theorem QH {ops:Array Oper} {o:Oper} {a:Act} {w:World} {K:Act→World→Prop} {Q:Exit→Act→World→Prop} {E:Prop}
  (hg:o.guard=none) (s x:Operand) (zQ:o.op=Op.call {callee:=Callee.builtin Builtin.append,args:= #[s,x],argTypes:= #[50,50]})
  (base:Nat) (v:Value) (xs:List aV) (hs:a.eval s=v) (aen:fC base v xs w) (vI:base≤w.heap.size) (g c:Nat) (x0:aV) (hx:a.eval x= .slice (some ⟨g,0,none⟩) 1 c) (hc:∀j u,x0.cells[j]?=some u→w.cell? ⟨g,j,none⟩=some u) (hb:xs.length+1≤1000000000000)
  (hK:∀v' w',fC base v' (xs++ [x0]) w'→ah (fun i=>v.ownBlock=some i) w w'→(v'.ownBlock=v.ownBlock∨v'.ownBlock=some w.heap.size)→K (a.put o.dst v') w'):
  if Region.wanted o (yielded ops a.tmps)=true then Oper.wp Tryz.prog o a w K Q else E:=by
 have hw:Region.wanted o (yielded ops a.tmps)=true:=by simp [Region.wanted,hg]
 rw [if_pos hw]
 obtain⟨i,hi,hz,jS,Ko⟩:=opi
 have Dt:(maxLen:Nat)=9223372036854775807:=rfl
 have e1:∀j u,x0.cells.toList[j]?=some u→w.cell? ((⟨g,0,none⟩:Addr).add j)=some u:=by
  intro j u hj
  rw [Array.getElem?_toList] at hj
  rw [Addr.add_lit,Nat.zero_add]
  exact hc j u hj
 have e2:∀u∈x0.cells.toList,u.oneCell'=true:=by
  intro u hu
  obtain⟨j,hj⟩:=List.getElem?_of_mem hu
  rw [Array.getElem?_toList] at hj
  exact Hf x0 j u hj
 obtain⟨v',w',vP,r1,r2,_,r4⟩:=run_append_own_at (P:=Tryz.prog) w base 50 o.type 115 i _ 7 56 Tryz.underlying50 hi hz jS Ko rfl (by decide) v xs.length (vY xs) aen ⟨g,0,none⟩ 1 c x0.cells.toList rfl e1 e2 (by omega) (by omega) vI
 unfold Oper.wp
 simp [execOp,zQ,resolve,invoke,builtin,hs,hx,vP,Result.andThen]
 refine hK v' w' ?_ ⟨r2.os,r2.tape,r2.output,r2.size,fun k hk hn=>r2.block k hk (fun e=>hn e.symm)⟩ r4
 unfold fC
 rw [KI,List.length_append,show vY [x0]=x0.cells.toList from List.append_nil _]
 exact r1
structure Wc where
 h:Nat
 tb:Nat
 n:Nat
 mv:Value
 mb:Nat
 base:Nat
def own (K:Wc) (W:World) (i:Nat):Prop:=∃v,W.cell? ⟨K.h,0,none⟩=some v∧v.ownBlock=some i
def SW (K:Wc) (W:World):Nat→Prop:=fun i=>i=K.h∨i=K.tb∨i=K.mb∨own K W i
structure UW (K:Wc) (W W':World):Prop where
 u:ah (SW K W) W W'
 ow:∀i,own K W' i→own K W i∨W.heap.size≤i
theorem UW.refl (K:Wc) (W:World):UW K W W:=⟨ah.refl _ _,fun i h=> .inl h⟩
theorem UW.trans {K:Wc} {a b c:World} (h:UW K a b) (k:UW K b c):UW K a c:=
 ⟨⟨k.u.os.trans h.u.os,k.u.tape.trans h.u.tape,k.u.output.trans h.u.output,Nat.le_trans h.u.size k.u.size,fun i hi hs=>(k.u.block i (Nat.lt_of_lt_of_le hi h.u.size) fun e=>by
   rcases e with e | e | e | e
   ·exact hs (.inl e)
   ·exact hs (.inr (.inl e))
   ·exact hs (.inr (.inr (.inl e)))
   ·rcases h.ow i e with e | e
    ·exact hs (.inr (.inr (.inr e)))
    ·omega).trans (h.u.block i hi hs)⟩,
  fun i e=>(k.ow i e).elim (h.ow i) fun e=> .inr (Nat.le_trans h.u.size e)⟩
theorem UW.aside {K:Wc} {W W':World} {S:Nat→Prop} (hl:K.h<W.heap.size) (u:ah S W W') (hh:¬S K.h) (hS:∀i,S i→i=K.tb∨i=K.mb):UW K W W':=by
 refine⟨u.mono fun i _ h=>(hS i h).elim (fun e=> .inr (.inl e)) fun e=> .inr (.inr (.inl e)),fun i h=> ?_⟩
 obtain⟨v,h1,h2⟩:=h
 exact .inl ⟨v,(u.cell (q:=⟨K.h,0,none⟩) hl hh).symm.trans h1,h2⟩
theorem UW.quiet {K:Wc} {W W':World} (hl:K.h<W.heap.size) (u:ah (fun _=>False) W W'):UW K W W':=UW.aside hl u id fun _ h=>h.elim
theorem UW.below {K:Wc} {W W':World} (hl:K.h<W.heap.size) (u:Below W.heap.size W W'):UW K W W':=UW.quiet hl (ah.ak u)
theorem UW.alloc {K:Wc} {W:World} (hl:K.h<W.heap.size) (o:Obj):UW K W (W.alloc o):=UW.quiet hl ((ah.refl _ W).alloc o)
theorem UW.sU {K:Wc} {W:World} (j:Nat) (hj:j≠0) (v:Value):UW K W (W.setCell ⟨K.h,j,none⟩ v):=by
 refine⟨(ah.refl _ W).setCell (q:=⟨K.h,j,none⟩) (.inl (.inl rfl)) v,fun i h=> ?_⟩
 obtain⟨x,h1,h2⟩:=h
 exact .inl ⟨x,(HM.aH (fun e=>hj e.symm)).symm.trans h1,h2⟩
theorem UP.Hg {K:Wc} {W W':World} (v v':Value) (h0:W.cell? ⟨K.h,0,none⟩=some v) (u:ah (fun i=>v.ownBlock=some i) W W'):ah (fun i=>i=K.h∨own K W i) W (W'.setCell ⟨K.h,0,none⟩ v'):=
 (u.mono fun i _ e=> .inr ⟨v,h0,e⟩).setCell (q:=⟨K.h,0,none⟩) (.inl (.inl rfl)) v'
theorem UW.Hg {K:Wc} {W W':World} (hl:K.h<W.heap.size) (v v':Value) (h0:W.cell? ⟨K.h,0,none⟩=some v) (nh:¬v.ownBlock=some K.h) (u:ah (fun i=>v.ownBlock=some i) W W') (hk:v'.ownBlock=v.ownBlock∨v'.ownBlock=some W.heap.size):UW K W (W'.setCell ⟨K.h,0,none⟩ v'):=by
 refine⟨(u.mono fun i _ e=> .inr (.inr (.inr ⟨v,h0,e⟩))).setCell (q:=⟨K.h,0,none⟩) (.inl (.inl rfl)) v',fun i h=> ?_⟩
 obtain⟨x,h1,h2⟩:=h
 have e1:(W'.setCell ⟨K.h,0,none⟩ v').cell? ⟨K.h,0,none⟩=some v':=World.cell?_setCell_same _ _ _ ((u.cell (q:=⟨K.h,0,none⟩) hl nh).trans h0)
 obtain rfl:v'=x:=Option.some.inj (e1.symm.trans h1)
 rcases hk with hk | hk
 ·exact .inl ⟨v,h0,hk▸h2⟩
 ·rw [hk] at h2
  exact .inr (by have:=Option.some.inj h2;omega)
structure WM (K:Wc) (s:Wk) (W:World):Prop where
 c0:∃v,W.cell? ⟨K.h,0,none⟩=some v∧fC K.base v s.ops W
 c1:W.cell? ⟨K.h,1,none⟩=some (.slice (some ⟨K.tb,0,none⟩) K.n K.n)
 sl:∀j,j<12→W.cell? ⟨K.h,2+j,none⟩=some (.int .i64 (s.sl j))
 cm:W.cell? ⟨K.h,14,none⟩=some K.mv
 cn:W.cell? ⟨K.h,15,none⟩=some (.int .i64 s.now)
 «to»:∀t,t<K.n→W.cell? ⟨K.tb,t,none⟩=some (.int .i64 (s.to t))
 z:∀j,W.frozen? ⟨K.h,j,none⟩=false
 zt:∀j,W.frozen? ⟨K.tb,j,none⟩=false
 lh:K.h<K.base
 lt:K.tb<K.base
 ne:K.h≠K.tb
 lb:K.base≤W.heap.size
variable {K:Wc} {s:Wk} {W W':World}
theorem WM.l (a:WM K s W):K.h<W.heap.size:=Nat.lt_of_lt_of_le a.lh a.lb
theorem WM.l2 (a:WM K s W):K.tb<W.heap.size:=Nat.lt_of_lt_of_le a.lt a.lb
theorem WM.upto {S:Nat→Prop} (a:WM K s W) (u:ah S W W') (hS:∀i,S i→W.heap.size≤i):WM K s W':=by
 have hb:=a.lb
 have no:∀i,i<W.heap.size→¬S i:=fun i hi hs=>by have:=hS i hs;omega
 have e:∀j,W'.cell? ⟨K.h,j,none⟩=W.cell? ⟨K.h,j,none⟩:=fun j=>u.cell (q:=⟨K.h,j,none⟩) a.l (no _ a.l)
 have f:∀j,W'.cell? ⟨K.tb,j,none⟩=W.cell? ⟨K.tb,j,none⟩:=fun j=>u.cell (q:=⟨K.tb,j,none⟩) a.l2 (no _ a.l2)
 obtain⟨v,h1,h2⟩:=a.c0
 exact⟨⟨v,(e _).trans h1,h2.upto u fun k hk=>no k (h2.blk k hk).2⟩,(e _).trans a.c1,fun j hj=>(e _).trans (a.sl j hj),(e _).trans a.cm,(e _).trans a.cn,fun t ht=>(f _).trans (a.to t ht),
  fun j=>(u.frozen (q:=⟨K.h,j,none⟩) a.l (no _ a.l)).trans (a.z j),fun j=>(u.frozen (q:=⟨K.tb,j,none⟩) a.l2 (no _ a.l2)).trans (a.zt j),a.lh,a.lt,a.ne,Nat.le_trans hb u.size⟩
theorem WM.quiet (a:WM K s W) (u:ah (fun _=>False) W W'):WM K s W':=a.upto u fun _ h=>h.elim
theorem WM.below (a:WM K s W) (u:Below W.heap.size W W'):WM K s W':=a.quiet (ah.ak u)
theorem WM.drew (a:WM K s W):WM K s W.drew:=a.quiet (ah.refl _ W).drew
theorem WM.alloc (a:WM K s W) (o:Obj):WM K s (W.alloc o):=a.quiet ((ah.refl _ W).alloc o)
theorem WM.Hg (a:WM K s W) (x:aV) (v v':Value) (h0:fC K.base v s.ops W) (u':ah (fun i=>v.ownBlock=some i) W W') (h2:fC K.base v' (s.ops++ [x]) W'):WM K (s.put x) (W'.setCell ⟨K.h,0,none⟩ v'):=by
 have nb:∀i,i<K.base→¬v.ownBlock=some i:=fun i hi e=>by have:=(h0.blk i e).1;omega
 have b:∀j,W'.cell? ⟨K.h,j,none⟩=W.cell? ⟨K.h,j,none⟩:=fun j=>u'.cell (q:=⟨K.h,j,none⟩) a.l (nb _ a.lh)
 have c:∀j,j≠0→(W'.setCell ⟨K.h,0,none⟩ v').cell? ⟨K.h,j,none⟩=W.cell? ⟨K.h,j,none⟩:=fun j hj=>(HM.aH hj).trans (b j)
 have u:ah (fun i=>i=K.h) W' (W'.setCell ⟨K.h,0,none⟩ v'):=(ah.refl (fun i=>i=K.h) W').setCell (q:=⟨K.h,0,none⟩) (.inl rfl) v'
 have tt:ah (fun i=>i=K.h∨v.ownBlock=some i) W (W'.setCell ⟨K.h,0,none⟩ v'):=(u'.mono fun _ _ h=> .inr h).trans (u.mono fun _ _ h=> .inl h)
 have f:∀j,(W'.setCell ⟨K.h,0,none⟩ v').cell? ⟨K.tb,j,none⟩=W.cell? ⟨K.tb,j,none⟩:=fun j=>tt.cell (q:=⟨K.tb,j,none⟩) a.l2 (fun e=>e.elim (fun e=>a.ne e.symm) (nb _ a.lt))
 have zf:∀i j,i<K.base→(W'.setCell ⟨K.h,0,none⟩ v').frozen? ⟨i,j,none⟩=W.frozen? ⟨i,j,none⟩:=fun i j hi=>(by simp:(W'.setCell ⟨K.h,0,none⟩ v').frozen? ⟨i,j,none⟩=W'.frozen? ⟨i,j,none⟩).trans (u'.frozen (q:=⟨i,j,none⟩) (Nat.lt_of_lt_of_le hi a.lb) (nb _ hi))
 obtain⟨x0,h1,_⟩:=a.c0
 exact⟨⟨v',World.cell?_setCell_same _ _ _ ((b 0).trans h1),h2.upto u fun k hk e=>by have:=(h2.blk k hk).1;have:=a.lh;omega⟩,(c _ (by decide)).trans a.c1,fun j hj=>(c _ (by omega)).trans (a.sl j hj),(c _ (by decide)).trans a.cm,(c _ (by decide)).trans a.cn,fun t ht=>(f _).trans (a.to t ht),
  fun j=>(zf _ j a.lh).trans (a.z j),fun j=>(zf _ j a.lt).trans (a.zt j),a.lh,a.lt,a.ne,Nat.le_trans a.lb tt.size⟩
theorem WM.own (a:WM K s W) {i:Nat} (h:own K W i):K.base≤i∧i<W.heap.size:=by
 obtain⟨v,h1,h2⟩:=a.c0
 obtain⟨x,h3,h4⟩:=h
 obtain rfl:v=x:=Option.some.inj (h1.symm.trans h3)
 exact h2.blk i h4
def OB (b:Nat) (o:aV) (W:World):Prop:=b<W.heap.size∧∀j u,o.cells[j]?=some u→W.cell? ⟨b,j,none⟩=some u
theorem OB.new (w:World) (o:aV) (t:TypeId):OB w.heap.size o (w.alloc (.cells o.cells t)):=⟨by simp,fun j v hj=>(cell_of_row _ _ _ _ _ _ (heap_alloc_new w _)).trans hj⟩
theorem OB.upto {b:Nat} {o:aV} {S:Nat→Prop} (h:OB b o W) (u:ah S W W') (hs:¬S b):OB b o W':=⟨Nat.lt_of_lt_of_le h.1 u.size,fun j v hj=>(u.cell (q:=⟨b,j,none⟩) h.1 hs).trans (h.2 j v hj)⟩
theorem OB.uw {b:Nat} {o:aV} (h:OB b o W) (u:UW K W W') (a:WM K s W) (h1:K.base≤b) (hm:K.mb<K.base) (hn:¬own K W b):OB b o W':=
 h.upto u.u fun e=>by
  have:=a.lh;have:=a.lt
  rcases e with e | e | e | e
  ·omega
  ·omega
  ·omega
  ·exact hn e
theorem Fj {b:Nat} (a:WM K s W) (hb:W.heap.size≤b) (u:ah (fun _=>False) W W'):¬own K W' b:=fun h=>by
 obtain⟨v,h1,h2⟩:=h
 have:=(a.own ⟨v,(u.cell (q:=⟨K.h,0,none⟩) a.l id).symm.trans h1,h2⟩).2
 omega
theorem OB.all {b:Nat} {o:aV} (h:OB b o W):W.cell? ⟨b,0,none⟩=some (.int .i64 o.k)∧W.cell? ⟨b,1,none⟩=some (.int .i64 o.w)∧W.cell? ⟨b,2,none⟩=some (.int .i64 o.a)∧W.cell? ⟨b,3,none⟩=some (.int .i64 o.b)∧W.cell? ⟨b,4,none⟩=some (.int .i64 o.c)∧W.cell? ⟨b,5,none⟩=some (.int .u32 o.kn)∧W.cell? ⟨b,6,none⟩=some (.int .i64 o.n):=
 ⟨h.2 0 _ rfl,h.2 1 _ rfl,h.2 2 _ rfl,h.2 3 _ rfl,h.2 4 _ rfl,h.2 5 _ rfl,h.2 6 _ rfl⟩
variable {K:Wc} {s:Wk} {W W':World}
def ZO (k:Int) (j:Nat):Bool:=if j=0 then tA k else if j=1 then tB k else tC k
def ar (o:aV) (j:Nat):Int:=if j=0 then o.a else if j=1 then o.b else o.c
structure RO (b:Nat) (k ow oh on:Int) (r:Nat→Int) (W:World):Prop where
 l:b<W.heap.size
 c0:W.cell? ⟨b,0,none⟩=some (.int .i64 k)
 c1:W.cell? ⟨b,1,none⟩=some (.int .i64 ow)
 c:∀i,i<3→W.cell? ⟨b,2+i,none⟩=some (.int .i64 (r i))
 c5:W.cell? ⟨b,5,none⟩=some (.int .u32 oh)
 c6:W.cell? ⟨b,6,none⟩=some (.int .i64 on)
 z:∀j,W.frozen? ⟨b,j,none⟩=false
variable {b:Nat} {k ow oh on:Int} {r:Nat→Int}
theorem RO.new (w:World) (k ow oa ob oc oh on:Int) (t:TypeId):RO w.heap.size k ow oh on (fun i=>if i=0 then oa else if i=1 then ob else oc) (w.alloc (.cells #[.int .i64 k, .int .i64 ow, .int .i64 oa, .int .i64 ob, .int .i64 oc, .int .u32 oh, .int .i64 on] t)):=
 have e:∀j v,(#[Value.int .i64 k, .int .i64 ow, .int .i64 oa, .int .i64 ob, .int .i64 oc, .int .u32 oh, .int .i64 on]:Array Value)[j]?=some v→(w.alloc (.cells #[.int .i64 k, .int .i64 ow, .int .i64 oa, .int .i64 ob, .int .i64 oc, .int .u32 oh, .int .i64 on] t)).cell? ⟨w.heap.size,j,none⟩=some v:=fun j v h=>(cell_of_row _ _ _ _ _ _ (heap_alloc_new w _)).trans h
 ⟨by simp,e 0 _ rfl,e 1 _ rfl,fun i hi=>by rcases(show i=0∨i=1∨i=2 by omega) with rfl | rfl | rfl;exact e 2 _ rfl;exact e 3 _ rfl;exact e 4 _ rfl,e 5 _ rfl,e 6 _ rfl,fun j=>by simp⟩
theorem RO.upto {S:Nat→Prop} (a:RO b k ow oh on r W) (u:ah S W W') (hs:¬S b):RO b k ow oh on r W':=
 have e:∀j,W'.cell? ⟨b,j,none⟩=W.cell? ⟨b,j,none⟩:=fun j=>u.cell (q:=⟨b,j,none⟩) a.l hs
 ⟨Nat.lt_of_lt_of_le a.l u.size,(e _).trans a.c0,(e _).trans a.c1,fun i hi=>(e _).trans (a.c i hi),(e _).trans a.c5,(e _).trans a.c6,fun j=>(u.frozen (q:=⟨b,j,none⟩) a.l hs).trans (a.z j)⟩
theorem RO.set (a:RO b k ow oh on r W) (i:Nat) (hi:i<3) (x:Int):RO b k ow oh on (aF r i x) (W.setCell ⟨b,2+i,none⟩ (.int .i64 x)):=
 ⟨by simpa using a.l,(HM.aH (by omega)).trans a.c0,(HM.aH (by omega)).trans a.c1,fun j hj=>by
  unfold aF
  by_cases e:j=i
  ·rw [if_pos e,e];exact World.cell?_setCell_same _ _ _ (a.c i hi)
  ·rw [if_neg e,HM.aH (by omega)];exact a.c j hj,(HM.aH (by omega)).trans a.c5,(HM.aH (by omega)).trans a.c6,fun j=>by simpa using a.z j⟩
def PB (B b:Nat) (f:Nat→Bool) (W:World):Prop:=B<W.heap.size∧∀j,j<3→W.cell? ⟨B,j*2,none⟩=some (.bool (f j))∧W.cell? ⟨B,j*2+1,none⟩=some (.pointer (some ⟨b,2+j,none⟩))
theorem PB.upto {B:Nat} {f:Nat→Bool} {S:Nat→Prop} (a:PB B b f W) (u:ah S W W') (hs:¬S B):PB B b f W':=
 ⟨Nat.lt_of_lt_of_le a.1 u.size,fun j hj=>⟨(u.cell (q:=⟨B,j*2,none⟩) a.1 hs).trans (a.2 j hj).1,(u.cell (q:=⟨B,j*2+1,none⟩) a.1 hs).trans (a.2 j hj).2⟩⟩
open Go.Maps
variable {K:Wc} {s:Wk}
theorem laid:laidOutB Tryz.prog=true:=by kernel_rfl
theorem aeo:decide (115<(Tryz.prog).types.size)=true:=by kernel_rfl
theorem opR:115<(Tryz.prog).types.size:=of_decide_eq_true aeo
theorem VK:(match(Tryz.prog).underlying 115 with | some (.array _ _) | some (.struct _)=>true | _=>false)=true:=by kernel_rfl
theorem aep:(Tryz.prog).keyTypeAt 2 115=true:=by kernel_rfl
theorem KJ:WideMaps.KeyLaw Tryz.prog 115:=deep_law_laid laid (m:=2) (by omega) opR aep VK
theorem ZP:Keyed Tryz.prog 115:=Keyed.of_law KJ
def I6 (x:Int):Prop:= -9223372036854775808≤x∧x<9223372036854775808
structure Fp (o:aV):Prop where
 k:I6 o.k
 w:I6 o.w
 a:I6 o.a
 b:I6 o.b
 c:I6 o.c
 kn:0≤o.kn∧o.kn<4294967296
 n:I6 o.n
def kl (o:aV):Lit:= .string (keyBytes [.int .i64 o.k, .int .i64 o.w, .int .i64 o.a, .int .i64 o.b, .int .i64 o.c, .int .u32 o.kn, .int .i64 o.n])
theorem Fq {o:aV} (h:Fp o):keyOf Tryz.prog 115 (.agg o.cells)=some (kl o):=by
 obtain⟨k,w,a,b,c,kn,n⟩:=o
 obtain⟨h1,h2,h3,h4,h5,h6,h7⟩:=h
 have g:∀x:Int,I6 x→(Lit.int .i64 x).wf=true:=fun x hx=>WalkArith.wf_i64 (by unfold I6 at hx;omega)
 have g1:=g _ h1
 have g2:=g _ h2
 have g3:=g _ h3
 have g4:=g _ h4
 have g5:=g _ h5
 have g7:=g _ h7
 have g6:(Lit.int .u32 kn).wf=true:=WalkArith.wf_u32 (by dsimp only at h6;omega)
 have hu:=Tryz.underlying115
 have hi:=Tryz.underlying3
 have hw:=Tryz.underlying29
 have hk:(Tryz.prog).keyType 115=true:=by kernel_rfl
 obtain⟨N,hN⟩:∃N,(Tryz.prog).types.size+1=N+2:=⟨(Tryz.prog).types.size-1,by have:=opR;omega⟩
 have yC:(Tryz.prog).cellsOf 115=7:=by kernel_rfl
 have hc2:(Tryz.prog).cellsOf 3=1:=by kernel_rfl
 have hc3:(Tryz.prog).cellsOf 29=1:=by kernel_rfl
 unfold keyOf
 rw [hu,hN]
 dsimp only
 rw [hk]
 have hf:Value.formed Tryz.prog 115 (Value.agg #[.int .i64 k, .int .i64 w, .int .i64 a, .int .i64 b, .int .i64 c, .int .u32 kn, .int .i64 n])=true:=by
  simp [Value.formed,hu,yC]
 have hl:(Tryz.prog).keyLits (N+2) 115 [.int .i64 k, .int .i64 w, .int .i64 a, .int .i64 b, .int .i64 c, .int .u32 kn, .int .i64 n]=some [.int .i64 k, .int .i64 w, .int .i64 a, .int .i64 b, .int .i64 c, .int .u32 kn, .int .i64 n]:=by
  dsimp only at g1 g2 g3 g4 g5 g6 g7
  simp [Program.keyLits,hu,hi,hw,yC,hc2,hc3,g1,g2,g3,g4,g5,g6,g7]
 rw [if_pos (by show(true&&Value.formed _ _ (Value.agg #[.int .i64 k, .int .i64 w, .int .i64 a, .int .i64 b, .int .i64 c, .int .u32 kn, .int .i64 n]))=true;rw [hf];rfl)]
 show Option.map _ ((Tryz.prog).keyLits (N+2) 115 [.int .i64 k, .int .i64 w, .int .i64 a, .int .i64 b, .int .i64 c, .int .u32 kn, .int .i64 n])=_
 rw [hl]
 rfl
theorem KL {o:aV} (h:Fp o):WideAt.IsKeyLit (kl o):=by
 obtain⟨t,ht⟩:=KJ.str (Fq h)
 rw [ht];trivial
theorem VL {a b:aV} (ha:Fp a) (hb:Fp b) (h:kl a=kl b):a=b:=by
 have e:=KJ.inj (Fq ha) (by rw [h];exact Fq hb)
 cases a;cases b
 simpa [aV.cells] using e
def MO (b:Nat) (ops:List aV) (W:World):Prop:=
 ∃n D,n≤ops.length∧W.ownsMap (H:=Unit) Tryz.prog 115 (plainElem Tryz.prog 3) b n D∧∀o,Fp o→yB o.k=true→Maps.has D (kl o)=(idx o ops).isSome∧D.atKey (kl o) (.lit (.int .i64 0))= .lit (.int .i64 (((idx o ops).getD 0:Nat):Int))
theorem MO.new {b:Nat} {W:World} (h:W.ownsMap (H:=Unit) Tryz.prog 115 (plainElem Tryz.prog 3) b 0 (.map [])):MO b [] W:=
 ⟨0,_,Nat.le_refl _,h,fun o ho hp=>⟨rfl,rfl⟩⟩
theorem MO.upto {S:Nat→Prop} {b:Nat} {ops:List aV} {W W':World} (a:MO b ops W) (u:ah S W W') (hs:¬S b):MO b ops W':=by
 obtain⟨n,D,hn,⟨es,clock,hb,r⟩,hf⟩:=a
 have dh:b<W.heap.size:=(Array.getElem?_eq_some_iff.1 hb).1
 exact⟨n,D,hn,⟨es,clock,(u.block b dh hs).trans hb,r⟩,hf⟩
theorem MO.lt {b:Nat} {ops:List aV} {W:World} (a:MO b ops W):b<W.heap.size:=by
 obtain⟨n,D,hn,h,_⟩:=a
 exact h.lt
theorem MO.other {b:Nat} {ops:List aV} {W:World} (a:MO b ops W) (o:aV) (ho:yB o.k=false):MO b (ops++ [o]) W:=by
 obtain⟨n,D,hn,h,hf⟩:=a
 refine⟨n,D,by simp;omega,h,fun x hx hp=> ?_⟩
 have e:idx x (ops++ [o])=idx x ops:=by
  have ne:o≠x:=fun e=>by rw [e,hp] at ho;exact nomatch ho
  rw [vX,decide_eq_false ne]
  cases idx x ops<;>rfl
 rw [e]
 exact hf x hx hp
theorem MO.put {b:Nat} {ops:List aV} {W:World} (a:MO b ops W) (o:aV) (ho:Fp o) (hi:idx o ops=none) (hn:ops.length<1000000000):
  ∃W',(Instr.mapUpdate 280 (.map (some b)) (.agg #[.int .i64 o.k, .int .i64 o.w, .int .i64 o.a, .int .i64 o.b, .int .i64 o.c, .int .u32 o.kn, .int .i64 o.n]) (.int .i64 (ops.length:Int))).run Tryz.prog W= .ok () W'∧MO b (ops++ [o]) W'∧ah (fun i=>i=b) W W':=by
 obtain⟨n,D,hl,h,hf⟩:=a
 have hw:(Lit.int .i64 (ops.length:Int)).wf=true:=WalkArith.wf_i64 (by omega)
 obtain⟨W',vP,o',g⟩:=h.update ZP Tryz.underlying280 (by unfold maxLen;omega) (Fq ho) (plainElem_int (H:=Unit) Tryz.underlying3 hw)
 refine⟨W',vP,⟨n+1,_,by simp;omega,o',fun x hx hp=> ?_⟩,⟨g.os,g.tape,g.output,g.size,fun k hk dR=>g.block k hk (by simpa using dR)⟩⟩
 rw [vX]
 by_cases e:x=o
 ·subst e
  rw [hi,decide_eq_true rfl]
  exact⟨Maps.has_put_same h.isMap (KL ho) _,Maps.atKey_put_same h.isMap (KL ho) _ _⟩
 ·have dR:kl x≠kl o:=fun h=>e (VL hx ho h)
  rw [decide_eq_false (fun h=>e h.symm)]
  have e2:KH (idx x ops) false ops.length=idx x ops:=by cases idx x ops<;>rfl
  rw [e2]
  exact⟨(Maps.has_put_other dR _).trans (hf x hx hp).1,(Maps.atKey_put_other dR _ _).trans (hf x hx hp).2⟩
structure WW (K:Wc) (s:Wk) (W:World):Prop where
 m:WM K s W
 o:MO K.mb s.ops W
 mv:K.mv= .map (some K.mb)
 lb:K.mb<K.base
 nh:K.mb≠K.h
 nt:K.mb≠K.tb
variable {W W':World}
theorem WW.upto {S:Nat→Prop} (a:WW K s W) (u:ah S W W') (hS:∀i,S i→W.heap.size≤i):WW K s W':=
 ⟨a.m.upto u hS,a.o.upto u fun h=>by have:=hS _ h;have:=a.o.lt;omega,a.mv,a.lb,a.nh,a.nt⟩
theorem WW.quiet (a:WW K s W) (u:ah (fun _=>False) W W'):WW K s W':=a.upto u fun _ h=>h.elim
theorem WW.below (a:WW K s W) (u:Below W.heap.size W W'):WW K s W':=a.quiet (ah.ak u)
theorem WW.alloc (a:WW K s W) (o:Obj):WW K s (W.alloc o):=a.quiet ((ah.refl _ W).alloc o)
theorem WW.put (a:WW K s W) (o:aV) (ho:yB o.k=false) (m:WM K (s.put o) W') (u:ah (fun i=>i=K.h∨own K W i) W W'):WW K (s.put o) W':=
 ⟨m,(a.o.upto u fun h=>by rcases h with h | h;exact a.nh h;have:=(a.m.own h).1;have:=a.lb;omega).other o ho,a.mv,a.lb,a.nh,a.nt⟩
end Go.Proofs.YtcjcmnnhmajocabGreat.Ot
