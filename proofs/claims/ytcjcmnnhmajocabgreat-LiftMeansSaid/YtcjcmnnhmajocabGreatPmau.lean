import Derived.Test.YtcjcmnnhmajocabGreatPmat
set_option linter.unusedVariables false
set_option linter.unusedSimpArgs false
set_option maxRecDepth 100000
set_option maxHeartbeats 16000000
namespace Go.Proofs.YtcjcmnnhmajocabGreat.Ev
open Go.RowKit Kt Me Fl
def ou (c:Nat→Int):Array Value:= #[.int .u32 (c 0), .int .u32 (c 1), .int .u32 (c 2), .int .u32 (c 3), .int .u32 (c 4), .int .u32 (c 5), .int .u32 (c 6), .int .u32 (c 7), .int .u32 (c 8), .int .u32 (c 9), .int .u32 (c 10), .int .u32 (c 11)]
structure CB (h:Nat) (c:Nat→Int) (W:World):Prop where
 r:∀j,j<12→W.cell? ⟨h,j,none⟩=some (.int .u32 (c j))
 z:∀j,W.frozen? ⟨h,j,none⟩=false
 l:h<W.heap.size
variable {h:Nat} {c:Nat→Int} {W W':World}
theorem CB.upto {S:Nat→Prop} (a:CB h c W) (u:ah S W W') (hs:¬S h):CB h c W':=
 ⟨fun j hj=>(u.cell (q:=⟨h,j,none⟩) a.l hs).trans (a.r j hj),fun j=>(u.frozen (q:=⟨h,j,none⟩) a.l hs).trans (a.z j),Nat.lt_of_lt_of_le a.l u.size⟩
theorem CB.drew (a:CB h c W):CB h c W.drew:=a.upto (ah.refl (fun _=>False) W).drew id
theorem CB.new (w:World) (c:Nat→Int) (t:TypeId):CB w.heap.size c (w.alloc (.cells (ou c) t)):=by
 refine⟨fun j hj=> ?_,fun j=>gW w _ _ j,by simp⟩
 rw [ay w (ou c) t j]
 match j,hj with
 | 0,_ | 1,_ | 2,_ | 3,_ | 4,_ | 5,_ | 6,_ | 7,_ | 8,_ | 9,_ | 10,_ | 11,_=>rfl
 | n+12,h=>omega
theorem CB.all (a:CB h c W):W.cell? ⟨h,0,none⟩=some (.int .u32 (c 0))∧W.cell? ⟨h,1,none⟩=some (.int .u32 (c 1))∧W.cell? ⟨h,2,none⟩=some (.int .u32 (c 2))∧W.cell? ⟨h,3,none⟩=some (.int .u32 (c 3))∧W.cell? ⟨h,4,none⟩=some (.int .u32 (c 4))∧W.cell? ⟨h,5,none⟩=some (.int .u32 (c 5))∧W.cell? ⟨h,6,none⟩=some (.int .u32 (c 6))∧W.cell? ⟨h,7,none⟩=some (.int .u32 (c 7))∧W.cell? ⟨h,8,none⟩=some (.int .u32 (c 8))∧W.cell? ⟨h,9,none⟩=some (.int .u32 (c 9))∧W.cell? ⟨h,10,none⟩=some (.int .u32 (c 10))∧W.cell? ⟨h,11,none⟩=some (.int .u32 (c 11)):=
 ⟨a.r 0 (by omega),a.r 1 (by omega),a.r 2 (by omega),a.r 3 (by omega),a.r 4 (by omega),a.r 5 (by omega),a.r 6 (by omega),a.r 7 (by omega),a.r 8 (by omega),a.r 9 (by omega),a.r 10 (by omega),a.r 11 (by omega)⟩
theorem CB.set (a:CB h c W) (i:Nat) (hi:i<12) (z:Int):CB h (aF c i z) (W.setCell ⟨h,i,none⟩ (.int .u32 z)):=by
 refine⟨fun j hj=> ?_,fun j=>by simpa using a.z j,by simpa using a.l⟩
 by_cases e:j=i
 ·subst e;rw [World.cell?_setCell_same _ _ _ (a.r j hj)];simp [aF]
 ·rw [off e,a.r j hj];simp [aF,e]
theorem CB.congr {c':Nat→Int} (a:CB h c W) (e:∀j,j<12→c j=c' j):CB h c' W:=⟨fun j hj=>(a.r j hj).trans (by rw [e j hj]),a.z,a.l⟩
theorem CB.put (a:CB h c W) (c':Nat→Int):CB h c' ((((((((((((W.setCell ⟨h,0,none⟩ (.int .u32 (c' 0))).setCell ⟨h,1,none⟩ (.int .u32 (c' 1))).setCell ⟨h,2,none⟩ (.int .u32 (c' 2))).setCell ⟨h,3,none⟩ (.int .u32 (c' 3))).setCell ⟨h,4,none⟩ (.int .u32 (c' 4))).setCell ⟨h,5,none⟩ (.int .u32 (c' 5))).setCell ⟨h,6,none⟩ (.int .u32 (c' 6))).setCell ⟨h,7,none⟩ (.int .u32 (c' 7))).setCell ⟨h,8,none⟩ (.int .u32 (c' 8))).setCell ⟨h,9,none⟩ (.int .u32 (c' 9))).setCell ⟨h,10,none⟩ (.int .u32 (c' 10))).setCell ⟨h,11,none⟩ (.int .u32 (c' 11))):=by
 refine((((((((((((a.set 0 (by omega) (c' 0)).set 1 (by omega) (c' 1)).set 2 (by omega) (c' 2)).set 3 (by omega) (c' 3)).set 4 (by omega) (c' 4)).set 5 (by omega) (c' 5)).set 6 (by omega) (c' 6)).set 7 (by omega) (c' 7)).set 8 (by omega) (c' 8)).set 9 (by omega) (c' 9)).set 10 (by omega) (c' 10)).set 11 (by omega) (c' 11)).congr fun j hj=> ?_
 match j,hj with
 | 0,_ | 1,_ | 2,_ | 3,_ | 4,_ | 5,_ | 6,_ | 7,_ | 8,_ | 9,_ | 10,_ | 11,_=>simp [aF]
 | n+12,h=>omega
theorem jY {S:Nat→Prop} {w W:World} (b:ah S w W) (hh:S h∨w.heap.size≤h) (c':Nat→Int):ah S w ((((((((((((W.setCell ⟨h,0,none⟩ (.int .u32 (c' 0))).setCell ⟨h,1,none⟩ (.int .u32 (c' 1))).setCell ⟨h,2,none⟩ (.int .u32 (c' 2))).setCell ⟨h,3,none⟩ (.int .u32 (c' 3))).setCell ⟨h,4,none⟩ (.int .u32 (c' 4))).setCell ⟨h,5,none⟩ (.int .u32 (c' 5))).setCell ⟨h,6,none⟩ (.int .u32 (c' 6))).setCell ⟨h,7,none⟩ (.int .u32 (c' 7))).setCell ⟨h,8,none⟩ (.int .u32 (c' 8))).setCell ⟨h,9,none⟩ (.int .u32 (c' 9))).setCell ⟨h,10,none⟩ (.int .u32 (c' 10))).setCell ⟨h,11,none⟩ (.int .u32 (c' 11))):=
 (((((((((((b.setCell (q:=⟨h,0,none⟩) hh (.int .u32 (c' 0))).setCell (q:=⟨h,1,none⟩) hh (.int .u32 (c' 1))).setCell (q:=⟨h,2,none⟩) hh (.int .u32 (c' 2))).setCell (q:=⟨h,3,none⟩) hh (.int .u32 (c' 3))).setCell (q:=⟨h,4,none⟩) hh (.int .u32 (c' 4))).setCell (q:=⟨h,5,none⟩) hh (.int .u32 (c' 5))).setCell (q:=⟨h,6,none⟩) hh (.int .u32 (c' 6))).setCell (q:=⟨h,7,none⟩) hh (.int .u32 (c' 7))).setCell (q:=⟨h,8,none⟩) hh (.int .u32 (c' 8))).setCell (q:=⟨h,9,none⟩) hh (.int .u32 (c' 9))).setCell (q:=⟨h,10,none⟩) hh (.int .u32 (c' 10))).setCell (q:=⟨h,11,none⟩) hh (.int .u32 (c' 11))
theorem mF {S:Nat→Prop} {w W:World} (b:ah S w W) (hh:S h∨w.heap.size≤h) (k' x' p' n':Int):ah S w ((((W.setCell ⟨h,0,none⟩ (.int .i64 k')).setCell ⟨h,1,none⟩ (.int .u32 x')).setCell ⟨h,2,none⟩ (.int .u32 p')).setCell ⟨h,3,none⟩ (.int .i64 n')):=
 (((b.setCell (q:=⟨h,0,none⟩) hh (.int .i64 k')).setCell (q:=⟨h,1,none⟩) hh (.int .u32 x')).setCell (q:=⟨h,2,none⟩) hh (.int .u32 p')).setCell (q:=⟨h,3,none⟩) hh (.int .i64 n')
open Ic
theorem Lr:∃i,Tryz.prog.info? 29=some i∧i.zero=some (.int .u32 0)∧i.size=1∧i.bytes=4:=by
 have h:(Tryz.prog.info? 29).map (fun i=>(i.zero,i.size,i.bytes))=some (some (.int .u32 0),1,4):=by kernel_rfl
 obtain⟨i,hi,hz⟩:=Option.map_eq_some_iff.1 h
 simp only [Prod.mk.injEq] at hz
 exact⟨i,hi,hz.1,hz.2.1,hz.2.2⟩
def rX (os:List aV) (aj aN:Int) (s:kJ):kJ×Ext×Int:=
 if(xu os aj aN).1=0 then((evN os os.length s).1,(evN os os.length s).2.1,0) else(s,⟨0,0,0,0⟩,(xu os aj aN).1)
def Uz (r:kJ×Ext×Int):Value:= .tuple #[.agg (ou r.1.c), .agg #[.int .i64 r.2.1.k, .int .u32 r.2.1.x, .int .u32 r.2.1.pc, .int .i64 r.2.1.n], .int .i64 r.2.2]
structure BB (h:Nat) (jg aj aN:Int) (ao:Option Addr) (L cap:Nat) (W:World):Prop where
 c0:W.cell? ⟨h,0,none⟩=some (.int .u32 jg)
 c1:W.cell? ⟨h,1,none⟩=some (.int .i64 aj)
 c2:W.cell? ⟨h,2,none⟩=some (.int .i64 aN)
 c3:W.cell? ⟨h,3,none⟩=some (.slice ao L cap)
 l:h<W.heap.size
theorem BB.upto {S:Nat→Prop} {h:Nat} {jg aj aN:Int} {ao:Option Addr} {L cap:Nat} {W W':World} (a:BB h jg aj aN ao L cap W) (u:ah S W W') (hs:¬S h):BB h jg aj aN ao L cap W':=
 ⟨(u.cell (q:=⟨h,0,none⟩) a.l hs).trans a.c0,(u.cell (q:=⟨h,1,none⟩) a.l hs).trans a.c1,(u.cell (q:=⟨h,2,none⟩) a.l hs).trans a.c2,(u.cell (q:=⟨h,3,none⟩) a.l hs).trans a.c3,Nat.lt_of_lt_of_le a.l u.size⟩
theorem Ls (w:World) (jg aj aN:Int) (ao:Option Addr) (L cap:Nat) (cx:Nat→Int):
  BB w.heap.size jg aj aN ao L cap ((((w.alloc (.cells #[.int .u32 jg, .int .i64 aj, .int .i64 aN, .slice ao L cap] 52)).alloc (.cells (ou cx) 44)).alloc (.cells (ou fun _=>0) 44)).alloc (.cells #[.int .i64 0, .int .u32 0, .int .u32 0, .int .i64 0] 66))∧CB (w.heap.size+1) cx ((((w.alloc (.cells #[.int .u32 jg, .int .i64 aj, .int .i64 aN, .slice ao L cap] 52)).alloc (.cells (ou cx) 44)).alloc (.cells (ou fun _=>0) 44)).alloc (.cells #[.int .i64 0, .int .u32 0, .int .u32 0, .int .i64 0] 66))∧CB (w.heap.size+1+1) (fun _=>0) ((((w.alloc (.cells #[.int .u32 jg, .int .i64 aj, .int .i64 aN, .slice ao L cap] 52)).alloc (.cells (ou cx) 44)).alloc (.cells (ou fun _=>0) 44)).alloc (.cells #[.int .i64 0, .int .u32 0, .int .u32 0, .int .i64 0] 66))∧qM (w.heap.size+1+1+1) 0 0 0 0 ((((w.alloc (.cells #[.int .u32 jg, .int .i64 aj, .int .i64 aN, .slice ao L cap] 52)).alloc (.cells (ou cx) 44)).alloc (.cells (ou fun _=>0) 44)).alloc (.cells #[.int .i64 0, .int .u32 0, .int .u32 0, .int .i64 0] 66))∧ah (fun _=>False) w ((((w.alloc (.cells #[.int .u32 jg, .int .i64 aj, .int .i64 aN, .slice ao L cap] 52)).alloc (.cells (ou cx) 44)).alloc (.cells (ou fun _=>0) 44)).alloc (.cells #[.int .i64 0, .int .u32 0, .int .u32 0, .int .i64 0] 66)):=by
 have hu:=((((ah.refl (fun _=>False) w).alloc (.cells #[.int .u32 jg, .int .i64 aj, .int .i64 aN, .slice ao L cap] 52)).alloc (.cells (ou cx) 44)).alloc (.cells (ou fun _=>0) 44)).alloc (.cells #[.int .i64 0, .int .u32 0, .int .u32 0, .int .i64 0] 66)
 have bb:BB w.heap.size jg aj aN ao L cap (w.alloc (.cells #[.int .u32 jg, .int .i64 aj, .int .i64 aN, .slice ao L cap] 52)):=⟨ay w _ _ 0,ay w _ _ 1,ay w _ _ 2,ay w _ _ 3,by simp⟩
 have e1:(w.alloc (.cells #[.int .u32 jg, .int .i64 aj, .int .i64 aN, .slice ao L cap] 52)).heap.size=w.heap.size+1:=by simp
 generalize w.alloc (.cells #[.int .u32 jg, .int .i64 aj, .int .i64 aN, .slice ao L cap] 52)=W1 at bb e1 hu⊢
 have c2:=CB.new W1 cx 44
 have e2:(W1.alloc (.cells (ou cx) 44)).heap.size=w.heap.size+1+1:=by simp [e1]
 have u2:=(ah.refl (fun _=>False) W1).alloc (.cells (ou cx) 44)
 rw [e1] at c2
 generalize W1.alloc (.cells (ou cx) 44)=W2 at c2 e2 u2 hu⊢
 have c3:=CB.new W2 (fun _=>0) 44
 have e3:(W2.alloc (.cells (ou fun _=>0) 44)).heap.size=w.heap.size+1+1+1:=by simp [e2]
 have u3:=(ah.refl (fun _=>False) W2).alloc (.cells (ou fun _=>0) 44)
 rw [e2] at c3
 generalize W2.alloc (.cells (ou fun _=>0) 44)=W3 at c3 e3 u3 hu⊢
 have x4:=qM.new W3 0 0 0 0 66
 have u4:=(ah.refl (fun _=>False) W3).alloc (.cells #[.int .i64 0, .int .u32 0, .int .u32 0, .int .i64 0] 66)
 rw [e3] at x4
 exact⟨((bb.upto u2 id).upto u3 id).upto u4 id,(c2.upto u3 id).upto u4 id,c3.upto u4 id,x4,hu⟩
theorem Lu {os:List aV} {m j:Nat} {o:aV} {s s':kJ} (hm:os.length-j=m+1) (ho:os[j]?=some o) (h:opV o s j=(s',none)):evN os (os.length-j) s=evN os (os.length-(j+1)) s':=by
 have hj:os.length-(m+1)=j:=by omega
 rw [hm,show os.length-(j+1)=m by omega,evN,hj]
 simp only [ho,h]
theorem FC {os:List aV} {m j:Nat} {o:aV} {s s':kJ} {x:Ext} (hm:os.length-j=m+1) (ho:os[j]?=some o) (h:opV o s j=(s',some x)):evN os (os.length-j) s=(s',x,(j:Int)):=by
 have hj:os.length-(m+1)=j:=by omega
 rw [hm,evN,hj]
 simp only [ho,h]
end Go.Proofs.YtcjcmnnhmajocabGreat.Ev
namespace Go.Proofs.YtcjcmnnhmajocabGreat.Ot
open Go.RowKit Kt Ic Me Ev Fl
variable {aj:Int} {os:List aV} {i:Nat} {s0 s s' S S':kJ} {o:aV}
def YU (o:aV) (i:Nat) (r:kJ×Option Ext):kJ×Option Ext:=match r.2 with
 | none=>opV o r.1 i
 | some x=>(r.1,some x)
def run (os:List aV) (s:kJ):Nat→kJ×Option Ext
 | 0=>(s,none)
 | i+1=>YU (opAt os i) i (run os s i)
theorem yL (h:run os s0 i=(s,none)):run os s0 (i+1)=opV (opAt os i) s i:=by
 show YU (opAt os i) i (run os s0 i)=_
 rw [h];rfl
theorem yM {x:Ext} (h:run os s0 i=(s,some x)):run os s0 (i+1)=(s,some x):=by
 show YU (opAt os i) i (run os s0 i)=_
 rw [h];rfl
theorem nK {x:Ext} (h:run os s0 i=(s,some x)):∀n,run os s0 (i+n)=(s,some x)
 | 0=>h
 | n+1=>yM (nK h n)
theorem qj (a b:List aV):∀i,i≤a.length→run (a++b) s0 i=run a s0 i
 | 0,_=>rfl
 | i+1,h=>by
  show YU (opAt (a++b) i) i (run (a++b) s0 i)=YU (opAt a i) i (run a s0 i)
  rw [qj a b i (by omega),bZ (by omega)]
theorem D6 (h:Ri s0) (hk:∀j,j<os.length→0≤(opAt os j).kn∧(opAt os j).kn<4294967296):∀i,i≤os.length→Ri (run os s0 i).1
 | 0,_=>h
 | i+1,hi=>by
  have ih:=D6 h hk i (by omega)
  cases hr:run os s0 i with
  | mk s r=>
   rw [hr] at ih
   cases r with
   | none=>rw [yL hr];exact Lm _ _ _ ih (hk i (by omega)).1 (hk i (by omega)).2
   | some x=>rw [yM hr];exact ih
theorem yN:∀d j,j+d=os.length→∀s,run os s0 j=(s,none)→(evN os (os.length-j) s).1=(run os s0 os.length).1∧∀x,(run os s0 os.length).2=some x→(evN os (os.length-j) s).2.1=x
 | 0,j,hj,s,hr=>by
  obtain rfl:j=os.length:=by omega
  rw [Nat.sub_self,hr]
  exact⟨rfl,fun x h=>nomatch h⟩
 | d+1,j,hj,s,hr=>by
  have ho:os[j]?=some (opAt os j):=by unfold opAt;rw [List.getD_eq_getElem?_getD,List.getElem?_eq_getElem (by omega)];rfl
  have hg:=yL hr
  cases hv:opV (opAt os j) s j with
  | mk s2 r=>
   rw [hv] at hg
   cases r with
   | none=>
    rw [Lu (m:=d) (by omega) ho hv]
    exact yN d (j+1) (by omega) s2 hg
   | some x=>
    rw [FC (m:=d) (by omega) ho hv]
    have hs:=nK hg d
    rw [show j+1+d=os.length by omega] at hs
    rw [hs]
    exact⟨rfl,fun y h=>Option.some.inj h⟩
def vT (o:aV) (v:Nat→Int):Int:=mW o.k o.w o.kn (if tA o.k=true then v o.a.toNat else 0) (if tB o.k=true then v o.b.toNat else 0) (if tC o.k=true then v o.c.toNat else 0)
theorem Ia {k:Int} (h:yB k=true) (w kn a b c:Int):mW k w kn a b c=mW k w kn (if tA k=true then a else 0) (if tB k=true then b else 0) (if tC k=true then c else 0):=by
 have:=Uy h
 rcases(show k=1∨k=4∨k=5∨k=6∨k=7∨k=8 by omega) with rfl | rfl | rfl | rfl | rfl | rfl<;>rfl
theorem UA (h:o.k=2):opV o s i=(s.set i (s.c o.w.toNat),none):=by
 unfold opV;dsimp only;rw [if_pos h]
theorem LC (h:o.k=3):opV o s i=({s with c:=aF s.c o.w.toNat (s.v o.a.toNat)},none):=by
 unfold opV;dsimp only;rw [if_neg (by omega),if_pos h];rfl
theorem LD (h:o.k=17):opV o s i=(s.set i (fl (s.c 8) (s.c 9) (s.c 10) (s.c 11)),none):=by
 unfold opV;dsimp only;rw [if_neg (by omega),if_neg (by omega),if_pos h]
theorem yO (h:yB o.k=true):opV o s i=(s.set i (vT o s.v),none):=by
 have hk:=Uy h
 unfold opV;dsimp only
 rw [if_neg (by omega),if_neg (by omega),if_neg (by omega),if_neg (by omega),if_neg (by omega),if_neg (by omega),if_neg (by omega),if_neg (by omega),if_neg (by omega),if_neg (by omega),if_neg (by omega),Ia h]
 rfl
end Go.Proofs.YtcjcmnnhmajocabGreat.Ot
namespace Go.Proofs.YtcjcmnnhmajocabGreat.Lf
open Go.RowKit Kt Ic Me Ev Fl
open Ot (bZ dW run qj nK yM yL YU vT yB tA tB tC UA LC LD yO)
def T (s:Lk) (v:Nat→Int) (t z:Int):Prop:=0≤t∧t<s.ops.length∧v t.toNat=z
def MT (s:Lk) (v:Nat→Int) (t z:Int):Prop:=t= -1∨T s v t z
def Jl (k:Int) (pa pb po:Prop):Prop:=∀a b o a' b' o',(pa→a=a')→(pb→b=b')→(po→o=o')→fl k a b o=fl k a' b' o'
def bT (c:Nat→Int):Int:=fl (c 8) (c 9) (c 10) (c 11)
def FK (s:Lk) (c v:Nat→Int):Prop:=(s.kd=0→T s v s.fo (bT c))∧(s.kd≠0→∃za zb zo,MT s v s.fa za∧MT s v s.fb zb∧MT s v s.fo zo∧fl s.kd za zb zo=bT c∧Jl s.kd (0≤s.fa) (0≤s.fb) (0≤s.fo))
structure Sr (I:kJ) (s:Lk) (M:MM) (c v:Nat→Int):Prop where
 r:run s.ops I s.ops.length=(⟨M,c,v⟩,none)
 g:∀j,j<8→MT s v (s.reg j) (c j)
structure Sm (I:kJ) (s:Lk) (M:MM) (c v:Nat→Int):Prop extends Sr I s M c v where
 k:s.kn=true→FK s c v
def Xt (I:kJ) (s:Lk) (M:MM) (c:Nat→Int) (x:Ext):Prop:=∃v,run s.ops I s.ops.length=(⟨M,c,v⟩,some x)
structure Vx (s:Lk) (v:Nat→Int) (s':Lk) (v':Nat→Int):Prop where
 l:s.ops.length≤s'.ops.length
 v:∀t,t<s.ops.length→v' t=v t
theorem Vx.refl (s:Lk) (v:Nat→Int):Vx s v s v:=⟨Nat.le_refl _,fun _ _=>rfl⟩
theorem Vx.trans {s s1 s2:Lk} {v v1 v2:Nat→Int} (h:Vx s v s1 v1) (k:Vx s1 v1 s2 v2):Vx s v s2 v2:=⟨Nat.le_trans h.l k.l,fun t ht=>(k.v t (by have:=h.l;omega)).trans (h.v t ht)⟩
theorem Vx.t {s s':Lk} {v v':Nat→Int} (h:Vx s v s' v') {t z:Int} (a:T s v t z):T s' v' t z:=⟨a.1,by have:=a.2.1;have:=h.l;omega,(h.v _ (by have:=a.2.1;have:=a.1;omega)).trans a.2.2⟩
theorem Vx.m {s s':Lk} {v v':Nat→Int} (h:Vx s v s' v') {t z:Int} (a:MT s v t z):MT s' v' t z:=a.imp id h.t
theorem Vx.fk {s s':Lk} {v v' c:Nat→Int} (h:Vx s v s' v') (a:FK s c v) (e1:s'.kd=s.kd) (e2:s'.fa=s.fa) (e3:s'.fb=s.fb) (e4:s'.fo=s.fo):FK s' c v':=by
 unfold FK
 rw [e1,e2,e3,e4]
 refine⟨fun e=>h.t (a.1 e),fun e=> ?_⟩
 obtain⟨za,zb,zo,h1,h2,h3,h4,h5⟩:=a.2 e
 exact⟨za,zb,zo,h.m h1,h.m h2,h.m h3,h4,h5⟩
variable {I:kJ} {s s':Lk} {M M':MM} {c v c' v':Nat→Int}
theorem iq (h:run s.ops I s.ops.length=(⟨M,c,v⟩,none)) (o:aV):run (s.put o).ops I (s.put o).ops.length=opV o ⟨M,c,v⟩ s.ops.length:=by
 have e:(s.put o).ops.length=s.ops.length+1:=by show(s.ops++ [o]).length=_;rw [List.length_append,List.length_singleton]
 have h2:run (s.put o).ops I s.ops.length=(⟨M,c,v⟩,none):=(qj s.ops [o] s.ops.length (Nat.le_refl _)).trans h
 rw [e,yL h2]
 show opV (Ot.opAt (s.ops++ [o]) s.ops.length) _ _=_
 rw [dW]
theorem Wx {e:kJ} {x:Ext} (h:run s.ops I s.ops.length=(e,some x)) (p:Px s s'):run s'.ops I s'.ops.length=(e,some x):=by
 obtain⟨l,hl⟩:=p.o
 have h2:run s'.ops I s.ops.length=(e,some x):=by rw [hl,qj s.ops l _ (Nat.le_refl _)];exact h
 have h3:=nK h2 l.length
 rw [show s.ops.length+l.length=s'.ops.length by rw [hl,List.length_append]] at h3
 exact h3
theorem Xt.px {x:Ext} (h:Xt I s M c x) (p:Px s s'):Xt I s' M c x:=by
 obtain⟨v,hv⟩:=h
 exact⟨v,Wx hv p⟩
theorem yP (s:Lk) (o:aV):(s.put o).ops.length=s.ops.length+1:=by show(s.ops++ [o]).length=_;rw [List.length_append,List.length_singleton]
theorem Vx.put (s:Lk) (v:Nat→Int) (o:aV):Vx s v (s.put o) v:=⟨by rw [yP];omega,fun _ _=>rfl⟩
theorem Vx.aF (s:Lk) (v:Nat→Int) (o:aV) (z:Int):Vx s v (s.put o) (aF v s.ops.length z):=⟨by rw [yP];omega,fun t ht=>Ot.dO _ _ (by omega)⟩
theorem T.new (s:Lk) (v:Nat→Int) (o:aV) (z:Int):T (s.put o) (aF v s.ops.length z) s.n z:=by
 refine⟨by unfold Lk.n;omega,by rw [yP];unfold Lk.n;omega, ?_⟩
 show Me.aF v s.ops.length z (s.ops.length:Int).toNat=z
 rw [Int.toNat_natCast,Ot.oq]
theorem Sr.put (h:Sr I s M c v) {o:aV} (hr:run (s.put o).ops I (s.put o).ops.length=(⟨M',c,v'⟩,none)) (x:Vx s v (s.put o) v'):Sr I (s.put o) M' c v':=⟨hr,fun j hj=>x.m (h.g j hj)⟩
theorem Sm.put (h:Sm I s M c v) {o:aV} (hr:run (s.put o).ops I (s.put o).ops.length=(⟨M',c,v'⟩,none)) (x:Vx s v (s.put o) v'):Sm I (s.put o) M' c v':=⟨h.toSr.put hr x,fun e=>x.fk (h.k e) rfl rfl rfl rfl⟩
theorem Sm.yB (h:Sm I s M c v) {o:aV} (hp:yB o.k=true) {z:Int} (hz:vT o v=z):∃v',Sm I (s.P o).2 M c v'∧Vx s v (s.P o).2 v'∧T (s.P o).2 v' (s.P o).1 z:=
 ⟨aF v s.ops.length z,h.put (by rw [iq h.r,yO hp];show((⟨M,c,Me.aF v s.ops.length (vT o v)⟩:kJ),none)=_;rw [hz]) (Vx.aF s v o z),Vx.aF s v o z,T.new s v o z⟩
theorem Sr.yB (h:Sr I s M c v) {o:aV} (hp:yB o.k=true) {z:Int} (hz:vT o v=z):∃v',Sr I (s.P o).2 M c v'∧Vx s v (s.P o).2 v'∧T (s.P o).2 v' (s.P o).1 z:=
 ⟨aF v s.ops.length z,h.put (by rw [iq h.r,yO hp];show((⟨M,c,Me.aF v s.ops.length (vT o v)⟩:kJ),none)=_;rw [hz]) (Vx.aF s v o z),Vx.aF s v o z,T.new s v o z⟩
theorem Sm.K (h:Sm I s M c v) (x:Int):∃v',Sm I (s.K x).2 M c v'∧Vx s v (s.K x).2 v'∧T (s.K x).2 v' (s.K x).1 x:=h.yB rfl rfl
theorem Sr.K (h:Sr I s M c v) (x:Int):∃v',Sr I (s.K x).2 M c v'∧Vx s v (s.K x).2 v'∧T (s.K x).2 v' (s.K x).1 x:=h.yB rfl rfl
theorem Sm.B (h:Sm I s M c v) (w:Int) {a b x y:Int} (ta:T s v a x) (tb:T s v b y):∃v',Sm I (s.B w a b).2 M c v'∧Vx s v (s.B w a b).2 v'∧T (s.B w a b).2 v' (s.B w a b).1 (eF w x y):=
 h.yB rfl (by show eF w (v a.toNat) (v b.toNat)=_;rw [ta.2.2,tb.2.2])
theorem Sm.U (h:Sm I s M c v) (w:Int) {a x:Int} (ta:T s v a x):∃v',Sm I (s.U w a).2 M c v'∧Vx s v (s.U w a).2 v'∧T (s.U w a).2 v' (s.U w a).1 (uQ w x):=
 h.yB rfl (by show uQ w (v a.toNat)=_;rw [ta.2.2])
theorem Sm.S (h:Sm I s M c v) {a b d x y z:Int} (ta:T s v a x) (tb:T s v b y) (td:T s v d z):∃v',Sm I (s.S a b d).2 M c v'∧Vx s v (s.S a b d).2 v'∧T (s.S a b d).2 v' (s.S a b d).1 (if x=0 then z else y):=
 h.yB rfl (by show(if v a.toNat=0 then v d.toNat else v b.toNat)=_;rw [ta.2.2,tb.2.2,td.2.2])
theorem Sm.cond (h:Sm I s M c v) (w:Int) {a x:Int} (ta:T s v a x):∃v',Sm I (s.P ⟨8,w,a,0,0,0,0⟩).2 M c v'∧Vx s v (s.P ⟨8,w,a,0,0,0,0⟩).2 v'∧T (s.P ⟨8,w,a,0,0,0,0⟩).2 v' (s.P ⟨8,w,a,0,0,0,0⟩).1 (if hd w x then 1 else 0):=
 h.yB rfl (by show(if hd w (v a.toNat) then(1:Int) else 0)=_;rw [ta.2.2])
theorem Sm.VJ (h:Sm I s M c v) (w:Int) {a b d x y z:Int} (ta:T s v a x) (tb:T s v b y) (td:T s v d z):∃v',Sm I (s.P ⟨7,w,a,b,d,0,0⟩).2 M c v'∧Vx s v (s.P ⟨7,w,a,b,d,0,0⟩).2 v'∧T (s.P ⟨7,w,a,b,d,0,0⟩).2 v' (s.P ⟨7,w,a,b,d,0,0⟩).1 (fl w x y z):=
 h.yB rfl (by show fl w (v a.toNat) (v b.toNat) (v d.toNat)=_;rw [ta.2.2,tb.2.2,td.2.2])
theorem LG (x y:Int):eF 0 x y=au (x+y):=rfl
theorem Sm.add (h:Sm I s M c v) (n:Int) {a x:Int} (ta:T s v a x):∃v',Sm I (s.add a n).2 M c v'∧Vx s v (s.add a n).2 v'∧T (s.add a n).2 v' (s.add a n).1 (au (x+n)):=by
 obtain⟨v1,h1,x1,t1⟩:=h.K (au n)
 obtain⟨v2,h2,x2,t2⟩:=h1.B 0 (x1.t ta) t1
 rw [LG,show au (x+au n)=au (x+n) by unfold au;omega] at t2
 exact⟨v2,h2,x1.trans x2,t2⟩
theorem Sm.get (h:Sm I s M c v) {r:Nat} (hr:r<8):∃v',Sm I (s.get r).2 M c v'∧Vx s v (s.get r).2 v'∧T (s.get r).2 v' (s.get r).1 (c r):=by
 unfold Lk.get
 split
 ·have e:=iq h.r ⟨2,r,0,0,0,0,0⟩
  rw [UA rfl] at e
  have e':run (s.put ⟨2,r,0,0,0,0,0⟩).ops I (s.put ⟨2,r,0,0,0,0,0⟩).ops.length=(⟨M,c,Me.aF v s.ops.length (c r)⟩,none):=e
  have x:=Vx.aF s v ⟨2,r,0,0,0,0,0⟩ (c r)
  have t:=T.new s v ⟨2,r,0,0,0,0,0⟩ (c r)
  have h1:=h.put e' x
  refine⟨_,⟨⟨h1.r,fun j hj=> ?_⟩,h1.k⟩,⟨x.l,x.v⟩,t⟩
  show MT _ _ (Me.aF s.reg r s.n j) _
  by_cases ej:j=r
  ·rw [ej,Ot.oq];exact .inr t
  ·rw [Ot.dO _ _ ej];exact h1.g j hj
 ·next e=>exact⟨v,h,Vx.refl _ _,(h.g r hr).resolve_left (by omega)⟩
theorem Sm.set (h:Sm I s M c v) {r:Nat} (hr:r<8) {t z:Int} (tt:T s v t z):Sm I (s.set r t) M (Me.aF c r z) v∧Vx s v (s.set r t) v:=by
 have x:=Vx.put s v ⟨3,r,t,0,0,0,0⟩
 have e:=iq h.r ⟨3,r,t,0,0,0,0⟩
 rw [LC rfl] at e
 have e':run (s.set r t).ops I (s.set r t).ops.length=(⟨M,Me.aF c r (v t.toNat),v⟩,none):=e
 rw [tt.2.2] at e'
 have x':Vx s v (s.set r t) v:=⟨x.l,x.v⟩
 have hf:bT (Me.aF c r z)=bT c:=by unfold bT;rw [Ot.dO _ _ (by omega),Ot.dO _ _ (by omega),Ot.dO _ _ (by omega),Ot.dO _ _ (by omega)]
 refine⟨⟨⟨e',fun j hj=> ?_⟩,fun ek=> ?_⟩,x'⟩
 ·show MT _ _ (Me.aF s.reg r t j) _
  by_cases ej:j=r
  ·rw [ej,Ot.oq,Ot.oq];exact .inr (x'.t tt)
  ·rw [Ot.dO _ _ ej,Ot.dO _ _ ej];exact x'.m (h.g j hj)
 ·have a:=x'.fk (h.k ek) rfl rfl rfl rfl
  unfold FK at a⊢
  rw [hf];exact a
theorem Sm.ig (h:Sm I s M c v) {r:Nat} (hr:r<8) (m:Int):∃v',Sm I (s.ig r m).2 M c v'∧Vx s v (s.ig r m).2 v'∧T (s.ig r m).2 v' (s.ig r m).1 (au (c r+m)):=by
 obtain⟨v1,h1,x1,t1⟩:=h.get hr
 obtain⟨v2,h2,x2,t2⟩:=h1.K m
 obtain⟨v3,h3,x3,t3⟩:=h2.B 0 (x2.t t1) t2
 exact⟨v3,h3,(x1.trans x2).trans x3,t3⟩
theorem Sm.Wy (h:Sm I s M c v) {z t y:Int} (tz:MT s v z 0) (tt:MT s v t y):∃v' y',Sm I (s.some z t).2.2 M c v'∧Vx s v (s.some z t).2.2 v'∧T (s.some z t).2.2 v' (s.some z t).1 y'∧(0≤t→y'=y)∧MT (s.some z t).2.2 v' (s.some z t).2.1 0:=by
 unfold Lk.some
 split
 ·next e=>exact⟨v,y,h,Vx.refl _ _,tt.resolve_left (by omega),fun _=>rfl,tz⟩
 ·next e=>
  split
  ·obtain⟨v1,h1,x1,t1⟩:=h.K 0
   exact⟨v1,0,h1,x1,t1,fun e'=>absurd e' e, .inr t1⟩
  ·next e2=>exact⟨v,0,h,Vx.refl _ _,tz.resolve_left (by omega),fun e'=>absurd e' e,tz⟩
theorem Sm.mX (h:Sm I s M c v) (hk:s.kn=true):∃v',Sm I s.mX.2 M c v'∧Vx s v s.mX.2 v'∧T s.mX.2 v' s.mX.1 (bT c):=by
 have f:=h.k hk
 unfold Lk.mX
 split
 ·next e=>exact⟨v,h,Vx.refl _ _,f.1 e⟩
 ·next e=>
  obtain⟨za,zb,zo,ma,mb,mo,ef,hi⟩:=f.2 e
  obtain⟨v1,y1,h1,x1,t1,e1,z1⟩:=h.Wy (z:= -1) (t:=s.fa) (.inl rfl) ma
  obtain⟨v2,y2,h2,x2,t2,e2,z2⟩:=h1.Wy (z:=s.s1.2.1) (t:=s.fb) z1 (x1.m mb)
  obtain⟨v3,y3,h3,x3,t3,e3,z3⟩:=h2.Wy (z:=s.s2.2.1) (t:=s.fo) z2 ((x1.trans x2).m mo)
  obtain⟨v4,h4,x4,t4⟩:=h3.VJ s.kd ((x2.trans x3).t t1) (x3.t t2) t3
  rw [hi y1 y2 y3 za zb zo e1 e2 e3,ef] at t4
  exact⟨v4,h4,((x1.trans x2).trans x3).trans x4,t4⟩
theorem Sm.nJ (h:Sm I s M c v):(∃v',Sm I s.nJ M c v'∧Vx s v s.nJ v')∧s.nJ.kn=true:=by
 unfold Lk.nJ
 split
 ·next e=>exact⟨⟨v,h,Vx.refl _ _⟩,e⟩
 ·have e:=iq h.r ⟨17,0,0,0,0,0,0⟩
  rw [LD rfl] at e
  have e':run (s.put ⟨17,0,0,0,0,0,0⟩).ops I (s.put ⟨17,0,0,0,0,0,0⟩).ops.length=(⟨M,c,Me.aF v s.ops.length (bT c)⟩,none):=e
  have x:=Vx.aF s v ⟨17,0,0,0,0,0,0⟩ (bT c)
  have t:=T.new s v ⟨17,0,0,0,0,0,0⟩ (bT c)
  have h1:=h.put e' x
  exact⟨⟨_,⟨⟨h1.r,h1.g⟩,fun _=>⟨fun _=>t,fun e=>absurd rfl e⟩⟩,⟨x.l,x.v⟩⟩,rfl⟩
theorem Sm.now (h:Sm I s M c v):∃v',Sm I s.now.2 M c v'∧Vx s v s.now.2 v'∧T s.now.2 v' s.now.1 (bT c):=by
 obtain⟨⟨v1,h1,x1⟩,e⟩:=h.nJ
 obtain⟨v2,h2,x2,t2⟩:=h1.mX e
 exact⟨v2,h2,x1.trans x2,t2⟩
theorem Sm.holds (h:Sm I s M c v) (w:Int):∃v',Sm I (s.holds w).2 M c v'∧Vx s v (s.holds w).2 v'∧T (s.holds w).2 v' (s.holds w).1 (if hd w (bT c) then 1 else 0):=by
 obtain⟨v1,h1,x1,t1⟩:=h.now
 obtain⟨v2,h2,x2,t2⟩:=h1.cond w t1
 exact⟨v2,h2,x1.trans x2,t2⟩
def lo (c:Nat→Int):Nat→Int:=fun j=>if j<8 then c j else 0
theorem bV {j:Nat} (h:j<8):lo c j=c j:=if_pos h
theorem iQ {d:Nat} (h:d<8) (z:Int):lo (Me.aF c d z)=Me.aF (lo c) d z:=by
 funext j
 by_cases e:j=d
 ·rw [e,Ot.oq,bV h,Ot.oq]
 ·rw [Ot.dO _ _ e]
  unfold lo
  rw [Ot.dO _ _ e]
theorem UC {d:Nat} (h:8≤d) (z:Int):lo (Me.aF c d z)=lo c:=by
 funext j
 unfold lo
 by_cases e:j<8
 ·rw [if_pos e,if_pos e,Ot.dO _ _ (by omega)]
 ·rw [if_neg e,if_neg e]
theorem iw {d:Nat} (h:d<8) (z:Int):bT (Me.aF c d z)=bT c:=by unfold bT;rw [Ot.dO _ _ (by omega),Ot.dO _ _ (by omega),Ot.dO _ _ (by omega),Ot.dO _ _ (by omega)]
theorem Sr.slot (h:Sr I s M c v) (w:Nat) (hw:8≤w) {t z:Int} (tt:T s v t z):Sr I (s.slot w t) M (Me.aF c w z) v∧Vx s v (s.slot w t) v:=by
 have x:Vx s v (s.slot w t) v:=Vx.put s v ⟨3,w,t,0,0,0,0⟩
 have e:=iq h.r ⟨3,w,t,0,0,0,0⟩
 rw [LC rfl] at e
 have e':run (s.slot w t).ops I (s.slot w t).ops.length=(⟨M,Me.aF c w (v t.toNat),v⟩,none):=e
 rw [tt.2.2] at e'
 exact⟨⟨e',fun j hj=>by rw [Ot.dO _ _ (by omega)];exact x.m (h.g j hj)⟩,x⟩
theorem Sr.aZ (h:Sr I s M c v) (w:Nat) (hw:8≤w) {t z:Int} (tt:MT s v t z):∃c',Sr I (s.aZ w t) M c' v∧Vx s v (s.aZ w t) v∧lo c'=lo c∧(∀j,j≠w→c' j=c j)∧(0≤t→c' w=z):=by
 unfold Lk.aZ
 split
 ·next e=>
  obtain⟨h1,x1⟩:=h.slot w hw (tt.resolve_left (by omega))
  exact⟨_,h1,x1,UC hw z,fun j hj=>Ot.dO _ _ hj,fun _=>Ot.oq _ _ _⟩
 ·next e=>exact⟨c,h,Vx.refl _ _,rfl,fun _ _=>rfl,fun e'=>absurd e' e⟩
theorem D7 (s:Lk) (w t:Int):(s.aZ w t).kd=s.kd:=by unfold Lk.aZ;split<;>rfl
theorem D8 (s:Lk) (w t:Int):(s.aZ w t).fa=s.fa:=by unfold Lk.aZ;split<;>rfl
theorem D9 (s:Lk) (w t:Int):(s.aZ w t).fb=s.fb:=by unfold Lk.aZ;split<;>rfl
theorem Ea (s:Lk) (w t:Int):(s.aZ w t).fo=s.fo:=by unfold Lk.aZ;split<;>rfl
theorem Rk (s:Lk) (f a b o:Int):(s.flag f a b o).kd=f:=by unfold Lk.flag;rw [D7,D7,D7];rfl
theorem Rl (s:Lk) (f a b o:Int):(s.flag f a b o).fa=a:=by unfold Lk.flag;rw [D8,D8,D8];rfl
theorem Ro (s:Lk) (f a b o:Int):(s.flag f a b o).fb=b:=by unfold Lk.flag;rw [D9,D9,D9];rfl
theorem Rq (s:Lk) (f a b o:Int):(s.flag f a b o).fo=o:=by unfold Lk.flag;rw [Ea,Ea,Ea];rfl
theorem Sm.flag (h:Sm I s M c v) {f a b o za zb zo:Int} (hf:0≤f∧f≤12) (ta:MT s v a za) (tb:MT s v b zb) (to':MT s v o zo) (hi:Jl f (0≤a) (0≤b) (0≤o)) (h0:f=0→T s v o zo∧0≤zo∧zo<16):
  ∃c' v',Sm I (s.flag f a b o) M c' v'∧Vx s v (s.flag f a b o) v'∧lo c'=lo c∧bT c'=fl f za zb zo:=by
 have hr:Sr I (s.gU f a b o) M c v:=⟨h.r,h.g⟩
 have x0:Vx s v (s.gU f a b o) v:=⟨Nat.le_refl _,fun _ _=>rfl⟩
 obtain⟨v1,h1,x1,t1⟩:=hr.K (au f)
 have x01:=x0.trans x1
 obtain⟨h2,x2⟩:=h1.slot 8 (Nat.le_refl _) t1
 have x02:=x01.trans x2
 obtain⟨c3,h3,x3,l3,n3,e3⟩:=h2.aZ 9 (by decide) (x02.m ta)
 have x03:=x02.trans x3
 obtain⟨c4,h4,x4,l4,n4,e4⟩:=h3.aZ 10 (by decide) (x03.m tb)
 have x04:=x03.trans x4
 obtain⟨c5,h5,x5,l5,n5,e5⟩:=h4.aZ 11 (by decide) (x04.m to')
 have x05:=x04.trans x5
 have ew:au f=f:=by unfold au;omega
 have q8:c5 8=f:=by rw [n5 8 (by decide),n4 8 (by decide),n3 8 (by decide),Ot.oq,ew]
 have q9:0≤a→c5 9=za:=fun e=>by rw [n5 9 (by decide),n4 9 (by decide),e3 e]
 have q10:0≤b→c5 10=zb:=fun e=>by rw [n5 10 (by decide),e4 e]
 have q11:0≤o→c5 11=zo:=e5
 have qf:bT c5=fl f za zb zo:=by
  unfold bT
  rw [q8]
  exact hi _ _ _ _ _ _ q9 q10 q11
 refine⟨c5,v1,⟨h5,fun _=> ?_⟩,x05,by rw [l5,l4,l3,UC (by decide)],qf⟩
 unfold FK
 rw [Rk,Rl,Ro,Rq]
 refine⟨fun e=> ?_,fun e=>⟨za,zb,zo,x05.m ta,x05.m tb,x05.m to',qf.symm,hi⟩⟩
 obtain⟨q1,q2,q3⟩:=h0 e
 have e0:bT c5=zo:=by
  rw [qf,e]
  show zo%16=zo
  omega
 rw [e0];exact x05.t q1
theorem Sm.load (h:Sm I s M c v) (w:Int) {a q:Int} (ta:T s v a q):
  (aQ M 1 q (vV w).toNat=none→∃v',Sm I (s.load w a).2 M c v'∧Vx s v (s.load w a).2 v'∧T (s.load w a).2 v' (s.load w a).1 (wid w (jD M q (vV w))))∧
  (∀x,aQ M 1 q (vV w).toNat=some x→Xt I (s.load w a).2 M c ⟨5,x,s.pc,s.aj-1⟩):=by
 have e:=iq h.r ⟨9,w,a,0,0,s.pc,s.aj-1⟩
 have o:opV ⟨9,w,a,0,0,s.pc,s.aj-1⟩ ⟨M,c,v⟩ s.ops.length=(match aQ M 1 (v a.toNat) (vV w).toNat with
  | none=>((⟨M,c,aF v s.ops.length (wid w (jD M (v a.toNat) (vV w)))⟩:kJ),none)
  | some x=>(⟨M,c,aF v s.ops.length (wid w 0)⟩,some ⟨5,x,s.pc,s.aj-1⟩)):=rfl
 rw [o,ta.2.2] at e
 refine⟨fun hs=> ?_,fun x hs=> ?_⟩
 ·rw [hs] at e
  exact⟨_,h.put e (Vx.aF s v _ _),Vx.aF s v _ _,T.new s v _ _⟩
 ·rw [hs] at e
  exact⟨_,e⟩
theorem Sm.store (h:Sm I s M c v) (w:Int) {a b q z:Int} (ta:T s v a q) (tb:T s v b z):
  (jE M q (vW w)=none→Sm I (s.store w a b) (nU M q (vW w) z) c v∧Vx s v (s.store w a b) v)∧
  (∀x,jE M q (vW w)=some x→Xt I (s.store w a b) M c ⟨6,x,s.pc,s.aj-1⟩):=by
 have e:=iq h.r ⟨10,w,a,b,0,s.pc,s.aj-1⟩
 have o:opV ⟨10,w,a,b,0,s.pc,s.aj-1⟩ ⟨M,c,v⟩ s.ops.length=(match jE M (v a.toNat) (vW w) with
  | none=>((⟨nU M (v a.toNat) (vW w) (v b.toNat),c,v⟩:kJ),none)
  | some x=>(⟨M,c,v⟩,some ⟨6,x,s.pc,s.aj-1⟩)):=rfl
 rw [o,ta.2.2,tb.2.2] at e
 refine⟨fun hs=> ?_,fun x hs=> ?_⟩
 ·rw [hs] at e
  exact⟨h.put e (Vx.put s v _),Vx.put s v _⟩
 ·rw [hs] at e
  exact⟨_,e⟩
theorem Sm.watch (h:Sm I s M c v):(dG M.hi=false→Sm I s.watch M c v)∧(dG M.hi=true→Xt I s.watch M c ⟨0,0,s.nx,s.aj⟩):=by
 have e:=iq h.r ⟨11,0,0,0,0,s.nx,s.aj⟩
 have o:opV ⟨11,0,0,0,0,s.nx,s.aj⟩ ⟨M,c,v⟩ s.ops.length=((⟨M,c,v⟩:kJ),if dG M.hi then some ⟨0,0,s.nx,s.aj⟩ else none):=rfl
 rw [o] at e
 refine⟨fun hs=> ?_,fun hs=> ?_⟩
 ·rw [hs] at e;exact h.put e (Vx.put s v _)
 ·rw [hs] at e;exact⟨_,e⟩
theorem Sm.yK (h:Sm I s M c v) {a z:Int} (ta:T s v a z):(z=0→Sm I (s.put ⟨13,7,a,0,0,s.pc,s.aj-1⟩) M c v∧Vx s v (s.put ⟨13,7,a,0,0,s.pc,s.aj-1⟩) v)∧(z≠0→Xt I (s.put ⟨13,7,a,0,0,s.pc,s.aj-1⟩) M c ⟨7,0,s.pc,s.aj-1⟩):=by
 have e:=iq h.r ⟨13,7,a,0,0,s.pc,s.aj-1⟩
 have o:opV ⟨13,7,a,0,0,s.pc,s.aj-1⟩ ⟨M,c,v⟩ s.ops.length=((⟨M,c,v⟩:kJ),if v a.toNat=0 then none else some ⟨7,0,s.pc,s.aj-1⟩):=rfl
 rw [o,ta.2.2] at e
 refine⟨fun hs=> ?_,fun hs=> ?_⟩
 ·rw [if_pos hs] at e;exact⟨h.put e (Vx.put s v _),Vx.put s v _⟩
 ·rw [if_neg hs] at e;exact⟨_,e⟩
theorem Sm.iff (h:Sm I s M c v) {a z x:Int} (ta:T s v a z):(z=0→Sm I (s.put ⟨12,0,a,0,0,x,s.aj⟩) M c v)∧(z≠0→Xt I (s.put ⟨12,0,a,0,0,x,s.aj⟩) M c ⟨0,0,x,s.aj⟩):=by
 have e:=iq h.r ⟨12,0,a,0,0,x,s.aj⟩
 have o:opV ⟨12,0,a,0,0,x,s.aj⟩ ⟨M,c,v⟩ s.ops.length=((⟨M,c,v⟩:kJ),if v a.toNat=0 then none else some ⟨0,0,x,s.aj⟩):=rfl
 rw [o,ta.2.2] at e
 refine⟨fun hs=> ?_,fun hs=> ?_⟩
 ·rw [if_pos hs] at e;exact h.put e (Vx.put s v _)
 ·rw [if_neg hs] at e;exact⟨_,e⟩
theorem Sm.goes (h:Sm I s M c v) (t:Int):Xt I (s.goes t) M c ⟨0,0,t,s.aj⟩:=⟨v,iq h.r ⟨15,0,0,0,0,t,s.aj⟩⟩
theorem Sm.dK (h:Sm I s M c v) {a z:Int} (ta:T s v a z):Xt I (s.dK a) M c ⟨0,0,z,s.aj⟩:=by
 have e:=iq h.r ⟨16,0,a,0,0,0,s.aj⟩
 have o:opV ⟨16,0,a,0,0,0,s.aj⟩ ⟨M,c,v⟩ s.ops.length=((⟨M,c,v⟩:kJ),some ⟨0,0,v a.toNat,s.aj⟩):=rfl
 rw [o,ta.2.2] at e
 exact⟨v,e⟩
theorem Sm.stop (h:Sm I s M c v) (w b p n:Int):Xt I (s.put ⟨14,w,0,b,0,p,n⟩) M c ⟨w,b%4294967296,p,n⟩:=⟨v,iq h.r ⟨14,w,0,b,0,p,n⟩⟩
end Go.Proofs.YtcjcmnnhmajocabGreat.Lf
namespace Go.Proofs.YtcjcmnnhmajocabGreat.Gu
open Go.RowKit
def en (k:Int):Bool:=decide (k=1∨k=2∨(5≤k∧k≤13))
theorem LJ {k:Int} (h:¬ (k=1∨k=2∨(5≤k∧k≤13))):en k=false:=decide_eq_false h
theorem LK (k:Int) (w:World):Calls Tryz.prog 56 #[.int .i64 k] w fun e w'=>e= .returned (.bool (en k))∧w=w':=by
 by_cases h:k=1∨k=2∨(5≤k∧k≤13)
 ·have h':k=1∨k=2∨k=5∨k=6∨k=7∨k=8∨k=9∨k=10∨k=11∨k=12∨k=13:=by omega
  rcases h' with rfl | rfl | rfl | rfl | rfl | rfl | rfl | rfl | rfl | rfl | rfl
  all_goals go_enter Tryz.func56,Tryz.ntmps56
  all_goals go_wp2
  all_goals go_ret
  all_goals exact⟨rfl,rfl⟩
 ·rw [LJ h]
  have c1:(k==1)=false:=by rw [beq_eq_false_iff_ne];omega
  have c2:(k==2)=false:=by rw [beq_eq_false_iff_ne];omega
  have c5:(k==5)=false:=by rw [beq_eq_false_iff_ne];omega
  have c6:(k==6)=false:=by rw [beq_eq_false_iff_ne];omega
  have c7:(k==7)=false:=by rw [beq_eq_false_iff_ne];omega
  have c8:(k==8)=false:=by rw [beq_eq_false_iff_ne];omega
  have c9:(k==9)=false:=by rw [beq_eq_false_iff_ne];omega
  have c10:(k==10)=false:=by rw [beq_eq_false_iff_ne];omega
  have c11:(k==11)=false:=by rw [beq_eq_false_iff_ne];omega
  have c12:(k==12)=false:=by rw [beq_eq_false_iff_ne];omega
  have c13:(k==13)=false:=by rw [beq_eq_false_iff_ne];omega
  clear h
  go_enter Tryz.func56,Tryz.ntmps56
  go_wp2
  go_ret
  exact⟨rfl,rfl⟩
theorem Ib (k:Int) (w:World):Calls Tryz.prog 58 #[.int .i64 k] w fun e w'=>e= .returned (.bool (en k))∧w=w':=by
 rcases(show k=1∨k=2∨(5≤k∧k≤13)∨13<k∨(k<5∧k≠1∧k≠2) by omega) with rfl | rfl | h | h | h
 ·go_enter Tryz.func58,Tryz.ntmps58
  go_wp2
  go_ret
  exact⟨rfl,rfl⟩
 ·go_enter Tryz.func58,Tryz.ntmps58
  go_wp2
  go_ret
  exact⟨rfl,rfl⟩
 ·rw [show en k=true from decide_eq_true (by omega)]
  have c1:(k==1)=false:=by rw [beq_eq_false_iff_ne];omega
  have c2:(k==2)=false:=by rw [beq_eq_false_iff_ne];omega
  obtain⟨h1,h2⟩:=h
  go_enter Tryz.func58,Tryz.ntmps58
  go_wp2
  go_ret
  exact⟨rfl,rfl⟩
 ·rw [LJ (by omega)]
  have c1:(k==1)=false:=by rw [beq_eq_false_iff_ne];omega
  have c2:(k==2)=false:=by rw [beq_eq_false_iff_ne];omega
  have c3:5≤k:=by omega
  have c4:¬k≤13:=by omega
  go_enter Tryz.func58,Tryz.ntmps58
  go_wp2
  go_ret
  exact⟨rfl,rfl⟩
 ·rw [LJ (by omega)]
  have c1:(k==1)=false:=by rw [beq_eq_false_iff_ne];omega
  have c2:(k==2)=false:=by rw [beq_eq_false_iff_ne];omega
  have c3:¬5≤k:=by omega
  clear h
  go_enter Tryz.func58,Tryz.ntmps58
  go_wp2
  go_ret
  exact⟨rfl,rfl⟩
end Go.Proofs.YtcjcmnnhmajocabGreat.Gu
namespace Go.Proofs.YtcjcmnnhmajocabGreat.Lf
open Go.RowKit Kt Ic Me Ev Fl Gu
open St (Out ldO mg ldN ZN jd)
open Ot (run)
variable {I:kJ} {s s' s0:Lk} {M M':MM} {c v c' v' R R':Nat→Int} {o pc f f':Int}
def Oc (I:kJ) (s0 s':Lk) (M:MM) (c:Nat→Int) (o:Int) (O:Out):Prop:=
 (O.k=0∧en o=false∧O.pc=s0.nx∧dG O.M.hi=false∧∃c' v',Sm I s' O.M c' v'∧lo c'=O.R∧bT c'=O.f)
 ∨(2≤O.k∧Xt I s' M c ⟨O.k,O.x,s0.pc,s0.aj-1⟩)
 ∨((O.k=0∨O.k=1∧en o=true)∧∃c',Xt I s' O.M c' ⟨O.k,O.x,O.pc,s0.aj⟩∧lo c'=O.R∧bT c'=O.f∧(en o=true∨dG O.M.hi=true))
theorem Oc.go (h:Sm I s' M' c' v') (h0:dG M'.hi=false) (he:en o=false) (hr:lo c'=R') (hf:bT c'=f'):Oc I s s' M c o ⟨M',R',s.nx,f',0,0⟩:= .inl ⟨rfl,he,rfl,h0,c',v',h,hr,hf⟩
theorem Oc.out {p:Int} (h:Xt I s' M' c' ⟨0,0,p,s.aj⟩) (he:en o=true) (hr:lo c'=R') (hf:bT c'=f'):Oc I s s' M c o ⟨M',R',p,f',0,0⟩:= .inr (.inr ⟨.inl rfl,c',h,hr,hf, .inl he⟩)
theorem Oc.stop {k x p:Int} (h:Xt I s' M c ⟨k,x,s.pc,s.aj-1⟩) (hk:2≤k):Oc I s s' M c o ⟨M',R',p,f',k,x⟩:= .inr (.inl ⟨hk,h⟩)
theorem Oc.YV (h:Sm I s' M' c' v') (p:Px s s') (he:en o=false) (hr:lo c'=R') (hf:bT c'=f'):Oc I s s'.watch M c o ⟨M',R',s.nx,f',0,0⟩:=by
 obtain⟨h1,h2⟩:=h.watch
 cases e:dG M'.hi with
 | false=>exact Oc.go (h1 e) e he hr hf
 | true=>
  have h3:=h2 e
  rw [p.x,p.c] at h3
  exact .inr (.inr ⟨.inl rfl,c',h3,hr,hf, .inr e⟩)
theorem Oc.ld {q n:Int} {g:Int→Out} (hn:aQ M 1 q n.toNat=none→Oc I s s' M c o (g (jD M q n))) (hs:∀x,aQ M 1 q n.toNat=some x→Xt I s' M c ⟨5,x,s.pc,s.aj-1⟩):Oc I s s' M c o (ldO M R pc f q n g):=by
 unfold ldO
 cases e:aQ M 1 q n.toNat with
 | none=>exact hn e
 | some x=>exact Oc.stop (hs x e) (by decide)
theorem Oc.st {q n z:Int} {g:MM→Out} (hn:jE M q n=none→Oc I s s' M c o (g (nU M q n z))) (hs:∀x,jE M q n=some x→Xt I s' M c ⟨6,x,s.pc,s.aj-1⟩):Oc I s s' M c o (mg M R pc f q n z g):=by
 unfold mg
 cases e:jE M q n with
 | none=>exact hn e
 | some x=>exact Oc.stop (hs x e) (by decide)
theorem Sm.ld (h:Sm I s M c v) (p:Px s0 s) (w:Int) {a q:Int} (ta:T s v a q):
  (aQ M 1 q (vV w).toNat=none→∃v',Sm I (s.load w a).2 M c v'∧Vx s v (s.load w a).2 v'∧T (s.load w a).2 v' (s.load w a).1 (wid w (jD M q (vV w))))∧
  (∀x,aQ M 1 q (vV w).toNat=some x→Xt I (s.load w a).2 M c ⟨5,x,s0.pc,s0.aj-1⟩):=by
 have:=h.load w ta
 rw [p.p,p.c] at this
 exact this
theorem Sm.st (h:Sm I s M c v) (p:Px s0 s) (w:Int) {a b q z:Int} (ta:T s v a q) (tb:T s v b z):
  (jE M q (vW w)=none→Sm I (s.store w a b) (nU M q (vW w) z) c v∧Vx s v (s.store w a b) v)∧
  (∀x,jE M q (vW w)=some x→Xt I (s.store w a b) M c ⟨6,x,s0.pc,s0.aj-1⟩):=by
 have:=h.store w ta tb
 rw [p.p,p.c] at this
 exact this
theorem Sm.sif (h:Sm I s M c v) (p:Px s0 s) {a z:Int} (ta:T s v a z) (hz:z≠0):Xt I (s.put ⟨13,7,a,0,0,s.pc,s.aj-1⟩) M c ⟨7,0,s0.pc,s0.aj-1⟩:=by
 have e:(⟨7,0,s.pc,s.aj-1⟩:Ext)=⟨7,0,s0.pc,s0.aj-1⟩:=by rw [p.p,p.c]
 rw [←e]
 exact(h.yK ta).2 hz
theorem FD {k:Int} {pa pb po:Prop} (ha:pa) (hb:pb) (ho:po):Jl k pa pb po:=fun a b o a' b' o' ea eb eo=>by rw [ea ha,eb hb,eo ho]
theorem UD {pa pb po:Prop} (ha:pa) (hb:pb):Jl 1 pa pb po:=fun a b o a' b' o' ea eb eo=>by rw [ea ha,eb hb];rfl
theorem FH {pa pb po:Prop} (ha:pa) (hb:pb):Jl 3 pa pb po:=fun a b o a' b' o' ea eb eo=>by rw [ea ha,eb hb];rfl
theorem WC {pa pb po:Prop} (ha:pa) (hb:pb):Jl 10 pa pb po:=fun a b o a' b' o' ea eb eo=>by rw [ea ha,eb hb];rfl
theorem LP {pa pb po:Prop} (ha:pa):Jl 5 pa pb po:=fun a b o a' b' o' ea eb eo=>by rw [ea ha];rfl
theorem WE {pa pb po:Prop} (ha:pa) (ho:po):Jl 11 pa pb po:=fun a b o a' b' o' ea eb eo=>by rw [ea ha,eo ho];rfl
theorem WG {pa pb po:Prop} (ha:pa) (ho:po):Jl 12 pa pb po:=fun a b o a' b' o' ea eb eo=>by rw [ea ha,eo ho];rfl
theorem aan {pa pb po:Prop} (ho:po):Jl 0 pa pb po:=fun a b o a' b' o' ea eb eo=>by rw [eo ho];rfl
theorem Jm {k:Int} {P:Prop} (h:k≠0):k=0→P:=fun e=>absurd e h
theorem wF (c:Nat→Int):0≤bT c∧bT c<16:=St.nD _ _ _ _
theorem wG {f:Nat→Int} {d:Nat} {z:Int} (h:f d=z):aF f d z=f:=by
 funext j
 by_cases e:j=d
 ·rw [e,Ot.oq,h]
 ·rw [Ot.dO _ _ e]
theorem Sm.sf (h:Sm I s M c v) {d:Nat} (hd:d<8) {t z:Int} (tt:T s v t z) {f a b o za zb zo:Int} (hf:0≤f∧f≤12) (ta:MT s v a za) (tb:MT s v b zb) (to':MT s v o zo) (hi:Jl f (0≤a) (0≤b) (0≤o)) (h0:f=0→T s v o zo∧0≤zo∧zo<16):
  ∃c' v',Sm I ((s.set d t).flag f a b o) M c' v'∧lo c'=aF (lo c) d z∧bT c'=fl f za zb zo:=by
 obtain⟨h1,x1⟩:=h.set hd tt
 obtain⟨c',v',h2,x2,e1,e2⟩:=h1.flag hf (x1.m ta) (x1.m tb) (x1.m to') hi (fun e=>⟨x1.t (h0 e).1,(h0 e).2⟩)
 exact⟨c',v',h2,by rw [e1,iQ hd],e2⟩
theorem aeE (h:Sm I s M c v) (h0:dG M.hi=false) (d r:Nat) (f m:Int):Oc I s (s.one 0 d r f m) M c 0 (St.gK M (lo c) s.pc (bT c) s.nx 0 d r f m):=Oc.go h h0 rfl rfl rfl
theorem aao (h:Sm I s M c v) (h0:dG M.hi=false) {d r:Nat} (hd:d<8) (f m:Int):Oc I s (s.one 16 d r f m) M c 16 (St.gK M (lo c) s.pc (bT c) s.nx 16 d r f m):=by
 obtain⟨v1,h1,x1,t1⟩:=h.K m
 exact Oc.go (h1.set hd t1).1 h0 rfl (iQ hd m) (iw hd m)
theorem aap (h:Sm I s M c v) (h0:dG M.hi=false) {d r:Nat} (hd:d<8) (f m:Int):Oc I s (s.one 17 d r f m) M c 17 (St.gK M (lo c) s.pc (bT c) s.nx 17 d r f m):=by
 obtain⟨v1,h1,x1,t1⟩:=h.get hd
 obtain⟨v2,h2,x2,t2⟩:=h1.now
 obtain⟨v3,h3,x3,t3⟩:=h2.add 1 (x2.t t1)
 obtain⟨c4,v4,h4,e1,e2⟩:=h3.sf hd t3 (f:=11) (b:= -1) (zb:=0) (by decide) (.inr (x3.t (x2.t t1))) (.inl rfl) (.inr (x3.t t2)) (WE t1.1 t2.1) (Jm (by decide))
 exact Oc.go h4 h0 rfl (by rw [e1,bV hd];rfl) (by rw [e2,bV hd])
theorem aaq (h:Sm I s M c v) (h0:dG M.hi=false) {d r:Nat} (hd:d<8) (f m:Int):Oc I s (s.one 18 d r f m) M c 18 (St.gK M (lo c) s.pc (bT c) s.nx 18 d r f m):=by
 obtain⟨v1,h1,x1,t1⟩:=h.get hd
 obtain⟨v2,h2,x2,t2⟩:=h1.now
 obtain⟨v3,h3,x3,t3⟩:=h2.add (-1) (x2.t t1)
 obtain⟨c4,v4,h4,e1,e2⟩:=h3.sf hd t3 (f:=12) (b:= -1) (zb:=0) (by decide) (.inr (x3.t (x2.t t1))) (.inl rfl) (.inr (x3.t t2)) (WG t1.1 t2.1) (Jm (by decide))
 exact Oc.go h4 h0 rfl (by rw [e1,bV hd];rfl) (by rw [e2,bV hd])
theorem aar (h:Sm I s M c v) (h0:dG M.hi=false) {d r:Nat} (hd:d<8) (f m:Int):Oc I s (s.one 19 d r f m) M c 19 (St.gK M (lo c) s.pc (bT c) s.nx 19 d r f m):=by
 obtain⟨v1,h1,x1,t1⟩:=h.get hd
 obtain⟨v2,h2,x2,t2⟩:=h1.K 0
 obtain⟨v3,h3,x3,t3⟩:=h2.U 1 (x2.t t1)
 obtain⟨c4,v4,h4,e1,e2⟩:=h3.sf hd t3 (f:=3) (o:= -1) (zo:=bT c) (by decide) (.inr (x3.t t2)) (.inr (x3.t (x2.t t1))) (.inl rfl) (FH t2.1 t1.1) (Jm (by decide))
 exact Oc.go h4 h0 rfl (by rw [e1,bV hd];rfl) (by rw [e2,bV hd])
theorem aas (h:Sm I s M c v) (h0:dG M.hi=false) {d r:Nat} (hd:d<8) (f m:Int):Oc I s (s.one 20 d r f m) M c 20 (St.gK M (lo c) s.pc (bT c) s.nx 20 d r f m):=by
 obtain⟨v1,h1,x1,t1⟩:=h.get hd
 obtain⟨v2,h2,x2,t2⟩:=h1.U 0 t1
 exact Oc.go (h2.set hd t2).1 h0 rfl (by rw [iQ hd,bV hd];rfl) (iw hd _)
theorem aat (h:Sm I s M c v) (h0:dG M.hi=false) {d r:Nat} (hd:d<8) (f m:Int):Oc I s (s.one 21 d r f m) M c 21 (St.gK M (lo c) s.pc (bT c) s.nx 21 d r f m):=by
 obtain⟨v1,h1,x1,t1⟩:=h.holds f
 exact Oc.go (h1.set hd t1).1 h0 rfl (iQ hd _) (iw hd _)
theorem aau (h:Sm I s M c v) (h0:dG M.hi=false) {d r:Nat} (hd:d<8) (hr:r<8) (f m:Int):Oc I s (s.one 22 d r f m) M c 22 (St.gK M (lo c) s.pc (bT c) s.nx 22 d r f m):=by
 obtain⟨v1,h1,x1,t1⟩:=h.get hr
 exact Oc.go (h1.set hd t1).1 h0 rfl (by rw [iQ hd,bV hr]) (iw hd _)
theorem aav (h:Sm I s M c v) (h0:dG M.hi=false) {d r:Nat} (hd:d<8) (hr:r<8) (f m:Int):Oc I s (s.one 23 d r f m) M c 23 (St.gK M (lo c) s.pc (bT c) s.nx 23 d r f m):=by
 obtain⟨v1,h1,x1,t1⟩:=h.ig hr m
 exact Oc.go (h1.set hd t1).1 h0 rfl (by rw [iQ hd,bV hr];rfl) (iw hd _)
def xw (M:MM) (c:Nat→Int) (pc nx:Int) (d:Nat) (o y:Int):Out:=if uJ o y then⟨M,aF (lo c) d (lW o (lo c d) y (bT c)),nx,nR o (lo c d) y (bT c),0,0⟩ else⟨M,lo c,pc,bT c,7,0⟩
theorem oz (M:MM) (c:Nat→Int) (pc nx:Int) (d:Nat) {o y:Int} (h:uJ o y=true):xw M c pc nx d o y=⟨M,aF (lo c) d (lW o (lo c d) y (bT c)),nx,nR o (lo c d) y (bT c),0,0⟩:=if_pos h
section
variable {k y b:Int} {d:Nat}
theorem LU (h:Sm I s M c v) (hx:s.nx=s0.nx) (h0:dG M.hi=false) (hk:en k=false) (hd:d<8) (tb:T s v b y) (o w f:Int) (hf:0≤f∧f≤12) (BN:f≠0) (ho:uJ o y=true) (hi:∀pa pb po:Prop,pa→pb→Jl f pa pb po) (ev:∀a,eF w a y=lW o a y (bT c)) (ef:∀a,fl f a y (bT c)=nR o a y (bT c)):
  Oc I s0 (((s.get d).2.B w (s.get d).1 b).2.set d ((s.get d).2.B w (s.get d).1 b).1 |>.flag f (s.get d).1 b (-1)) M c k (xw M c s0.pc s0.nx d o y):=by
 obtain⟨v1,h1,x1,t1⟩:=h.get hd
 have tb:=x1.t tb
 obtain⟨v2,h2,x2,t2⟩:=h1.B w t1 tb
 obtain⟨c4,v4,h4,e1,e2⟩:=h2.sf hd t2 (o:= -1) (zo:=bT c) hf (.inr (x2.t t1)) (.inr (x2.t tb)) (.inl rfl) (hi _ _ _ t1.1 tb.1) (Jm BN)
 rw [oz _ _ _ _ _ ho]
 exact Oc.go h4 h0 hk (by rw [e1,bV hd,ev]) (by rw [e2,bV hd,ef])
theorem LV (h:Sm I s M c v) (hx:s.nx=s0.nx) (h0:dG M.hi=false) (hk:en k=false) (hd:d<8) (tb:T s v b y) (o w:Int) (ho:uJ o y=true) (ev:∀a,eF w a y=lW o a y (bT c)) (ef:∀a,Fl.zn (lW o a y (bT c))=nR o a y (bT c)):
  Oc I s0 (((s.get d).2.B w (s.get d).1 b).2.set d ((s.get d).2.B w (s.get d).1 b).1 |>.flag 5 ((s.get d).2.B w (s.get d).1 b).1 (-1) (-1)) M c k (xw M c s0.pc s0.nx d o y):=by
 obtain⟨v1,h1,x1,t1⟩:=h.get hd
 have tb:=x1.t tb
 obtain⟨v2,h2,x2,t2⟩:=h1.B w t1 tb
 obtain⟨c4,v4,h4,e1,e2⟩:=h2.sf hd t2 (f:=5) (b:= -1) (zb:=0) (o:= -1) (zo:=bT c) (by decide) (.inr t2) (.inl rfl) (.inl rfl) (LP t2.1) (Jm (by decide))
 rw [oz _ _ _ _ _ ho]
 exact Oc.go h4 h0 hk (by rw [e1,bV hd,ev]) (by rw [e2,bV hd,ev];exact ef _)
theorem FI (h:Sm I s M c v) (hx:s.nx=s0.nx) (h0:dG M.hi=false) (hk:en k=false) (hd:d<8) (tb:T s v b y) (o w f:Int) (hf:0≤f∧f≤12) (BN:f≠0) (ho:uJ o y=true) (ev:∀a,eF w a y=lW o a y (bT c)) (ef:∀a,fl f a y (bT c)=nR o a y (bT c)):
  Oc I s0 (((s.get d).2.now.2.B w (s.get d).1 b).2.set d ((s.get d).2.now.2.B w (s.get d).1 b).1 |>.flag f (s.get d).1 b (s.get d).2.now.1) M c k (xw M c s0.pc s0.nx d o y):=by
 obtain⟨v1,h1,x1,t1⟩:=h.get hd
 have tb:=x1.t tb
 obtain⟨v3,h3,x3,t3⟩:=h1.now
 have t1:=x3.t t1
 have tb:=x3.t tb
 obtain⟨v2,h2,x2,t2⟩:=h3.B w t1 tb
 obtain⟨c4,v4,h4,e1,e2⟩:=h2.sf hd t2 hf (.inr (x2.t t1)) (.inr (x2.t tb)) (.inr (x2.t t3)) (FD t1.1 tb.1 t3.1) (Jm BN)
 rw [oz _ _ _ _ _ ho]
 exact Oc.go h4 h0 hk (by rw [e1,bV hd,ev]) (by rw [e2,bV hd,ef])
theorem aaw (h:Sm I s M c v) (hx:s.nx=s0.nx) (h0:dG M.hi=false) (hk:en k=false) (hd:d<8) (tb:T s v b y):Oc I s0 (s.lZ 7 d b) M c k (xw M c s0.pc s0.nx d 7 y):=by
 obtain⟨v1,h1,x1,t1⟩:=h.get hd
 have tb:=x1.t tb
 obtain⟨c4,v4,h4,x4,e1,e2⟩:=h1.flag (f:=3) (o:= -1) (zo:=bT c) (by decide) (.inr t1) (.inr tb) (.inl rfl) (FH t1.1 tb.1) (Jm (by decide))
 rw [oz _ _ _ _ _ rfl]
 exact Oc.go h4 h0 hk (by rw [e1];exact(wG rfl).symm) (by rw [e2,bV hd];rfl)
theorem aax (h:Sm I s M c v) (hx:s.nx=s0.nx) (h0:dG M.hi=false) (hk:en k=false) (hd:d<8) (tb:T s v b y):Oc I s0 (s.lZ 8 d b) M c k (xw M c s0.pc s0.nx d 8 y):=by
 obtain⟨v1,h1,x1,t1⟩:=h.get hd
 have tb:=x1.t tb
 obtain⟨v2,h2,x2,t2⟩:=h1.B 2 t1 tb
 obtain⟨c4,v4,h4,x4,e1,e2⟩:=h2.flag (f:=5) (b:= -1) (zb:=0) (o:= -1) (zo:=bT c) (by decide) (.inr t2) (.inl rfl) (.inl rfl) (LP t2.1) (Jm (by decide))
 rw [oz _ _ _ _ _ rfl]
 exact Oc.go h4 h0 hk (by rw [e1];exact(wG rfl).symm) (by rw [e2,bV hd];rfl)
theorem UE (h:Sm I s M c v) (p:Px s0 s) (h0:dG M.hi=false) (hk:en k=false) (hd:d<8) (tb:T s v b y) (o w:Int) (Ph:∀x,uJ o x= !decide (x=0)) (ev:∀a x,x≠0→eF w a x=lW o a x (bT c)) (ef:∀a x,x≠0→Fl.zn (lW o a x (bT c))=nR o a x (bT c)):
  Oc I s0 (((((s.get d).2.U 6 b).2.put ⟨13,7,((s.get d).2.U 6 b).1,0,0,s.pc,s.aj-1⟩).B w (s.get d).1 b).2.set d ((((s.get d).2.U 6 b).2.put ⟨13,7,((s.get d).2.U 6 b).1,0,0,s.pc,s.aj-1⟩).B w (s.get d).1 b).1 |>.flag 5 ((((s.get d).2.U 6 b).2.put ⟨13,7,((s.get d).2.U 6 b).1,0,0,s.pc,s.aj-1⟩).B w (s.get d).1 b).1 (-1) (-1)) M c k (xw M c s0.pc s0.nx d o y):=by
 obtain⟨v1,h1,x1,t1⟩:=h.get hd
 have p1:=Px.get s d
 rw [←p1.p,←p1.c]
 have tb:=x1.t tb
 generalize s.get d=g at h1 x1 t1 p1 tb⊢
 obtain⟨v2,h2,x2,t2⟩:=h1.U 6 tb
 have hs:=h2.yK t2
 have p2:Px s0 (g.2.U 6 b).2:=(p.trans p1).trans (Px.put _ _)
 by_cases e:y=0
 ·have e1:uQ 6 y≠0:=by rw [e];decide
  have hs:=h2.sif p2 t2 e1
  unfold xw
  rw [Ph,decide_eq_true e,if_neg (by decide)]
  exact Oc.stop (hs.px ((Px.flag _ _ _ _ _).to ((Px.set _ _ _).to (Px.B _ _ _ _)))) (by decide)
 ·have e1:uQ 6 y=0:=if_neg e
  obtain⟨h3,x3⟩:=hs.1 e1
  have x23:=x2.trans x3
  have t1:=x23.t t1
  have tb:=x23.t tb
  obtain⟨v4,h4,x4,t4⟩:=h3.B w t1 tb
  obtain⟨c5,v5,h5,e1,e2⟩:=h4.sf hd t4 (f:=5) (b:= -1) (zb:=0) (o:= -1) (zo:=bT c) (by decide) (.inr t4) (.inl rfl) (.inl rfl) (LP t4.1) (Jm (by decide))
  rw [oz _ _ _ _ _ (by rw [Ph,decide_eq_false e];rfl)]
  exact Oc.go h5 h0 hk (by rw [e1,bV hd,ev _ _ e]) (by rw [e2,bV hd,ev _ _ e];exact ef _ _ e)
theorem Ru (x:Int) (h:0≤x∧x<16):eF 2 (eF 6 x 2) 1=x/4%2:=by
 have e:eF 6 x 2=x/4:=by
  show x/2^n5 2=x/4
  rw [show n5 2=2 from rfl];rfl
 rw [e]
 show bits .and .u32 (x/4) 1=_
 exact Zv _ (by omega) (by omega)
theorem UF (h:Sm I s M c v) (hx:s.nx=s0.nx) (h0:dG M.hi=false) (hk:en k=false) (hd:d<8) (tb:T s v b y) (o w f:Int) (hw:(if o=3 then(1:Int) else 0)=w) (hff:(if o=3 then(4:Int) else 2)=f) (hf:0≤f∧f≤12) (BN:f≠0) (ho:uJ o y=true) (ev:∀a q,eF w (eF w a y) (q/4%2)=lW o a y q) (ef:∀a,fl f a y (bT c)=nR o a y (bT c)):
  Oc I s0 ((s.get d).2.mY o d (s.get d).1 b) M c k (xw M c s0.pc s0.nx d o y):=by
 obtain⟨v1,h1,x1,t1⟩:=h.get hd
 have tb:=x1.t tb
 generalize s.get d=g at h1 x1 t1 tb⊢
 unfold Lk.mY
 rw [hw,hff]
 obtain⟨v2,h2,x2,t2⟩:=h1.now
 obtain⟨v3,h3,x3,t3⟩:=h2.K 2
 obtain⟨v4,h4,x4,t4⟩:=h3.B 6 (x3.t t2) t3
 obtain⟨v5,h5,x5,t5⟩:=h4.K 1
 obtain⟨v6,h6,x6,t6⟩:=h5.B 2 (x5.t t4) t5
 rw [Ru _ (wF c)] at t6
 have x26:=(((x2.trans x3).trans x4).trans x5).trans x6
 have x36:=((x3.trans x4).trans x5).trans x6
 obtain⟨v7,h7,x7,t7⟩:=h6.B w (x26.t t1) (x26.t tb)
 obtain⟨v8,h8,x8,t8⟩:=h7.B w t7 (x7.t t6)
 rw [ev] at t8
 have x28:=(x26.trans x7).trans x8
 have x38:=(x36.trans x7).trans x8
 obtain⟨c9,v9,h9,e1,e2⟩:=h8.sf hd t8 hf (.inr (x28.t t1)) (.inr (x28.t tb)) (.inr (x38.t t2)) (FD t1.1 tb.1 t2.1) (Jm BN)
 rw [oz _ _ _ _ _ ho]
 exact Oc.go h9 h0 hk (by rw [e1,bV hd]) (by rw [e2,bV hd,ef])
theorem Eb (h:Sm I s M c v) (p:Px s0 s) (h0:dG M.hi=false) (hk:en k=false) (hd:d<8) (tb:T s v b y) {o:Int} (ho:0≤o∧o<16):Oc I s0 (s.lZ o d b) M c k (xw M c s0.pc s0.nx d o y):=by
 rcases(show o=0∨o=1∨o=2∨o=3∨o=4∨o=5∨o=6∨o=7∨o=8∨o=9∨o=10∨o=11∨o=12∨o=13∨o=14∨o=15 by omega) with rfl | rfl | rfl | rfl | rfl | rfl | rfl | rfl | rfl | rfl | rfl | rfl | rfl | rfl | rfl | rfl
 ·exact LU h p.x h0 hk hd tb 0 0 1 (by decide) (by decide) rfl (fun _ _ _=>UD) (fun _=>rfl) (fun _=>rfl)
 ·exact UF h p.x h0 hk hd tb 1 0 2 rfl rfl (by decide) (by decide) rfl (fun a q=>by show((a+y)%4294967296+q/4%2)%4294967296=(a+y+q/4%2)%4294967296;omega) (fun _=>rfl)
 ·exact LU h p.x h0 hk hd tb 2 1 3 (by decide) (by decide) rfl (fun _ _ _=>FH) (fun _=>rfl) (fun _=>rfl)
 ·exact UF h p.x h0 hk hd tb 3 1 4 rfl rfl (by decide) (by decide) rfl (fun a q=>by show((a-y)%4294967296-q/4%2)%4294967296=(a-y-q/4%2)%4294967296;omega) (fun _=>rfl)
 ·exact LV h p.x h0 hk hd tb 4 2 rfl (fun _=>rfl) (fun _=>rfl)
 ·exact LV h p.x h0 hk hd tb 5 3 rfl (fun _=>rfl) (fun _=>rfl)
 ·exact LV h p.x h0 hk hd tb 6 4 rfl (fun _=>rfl) (fun _=>rfl)
 ·exact aaw h p.x h0 hk hd tb
 ·exact aax h p.x h0 hk hd tb
 ·exact FI h p.x h0 hk hd tb 9 5 6 (by decide) (by decide) rfl (fun _=>rfl) (fun _=>rfl)
 ·exact FI h p.x h0 hk hd tb 10 6 7 (by decide) (by decide) rfl (fun _=>rfl) (fun _=>rfl)
 ·exact FI h p.x h0 hk hd tb 11 7 8 (by decide) (by decide) rfl (fun _=>rfl) (fun _=>rfl)
 ·exact FI h p.x h0 hk hd tb 12 8 9 (by decide) (by decide) rfl (fun _=>rfl) (fun _=>rfl)
 ·exact LU h p.x h0 hk hd tb 13 9 10 (by decide) (by decide) rfl (fun _ _ _=>WC) (fun _=>rfl) (fun _=>rfl)
 ·exact UE h p h0 hk hd tb 14 11 (fun x=>by show(!(false || false || (true&&decide (x=0))))=_;simp) (fun a x hx=>by show(if x=0 then _ else _)=(if x=0 then _ else _);rw [if_neg hx,if_neg hx]) (fun a x hx=>by show Fl.zn (if x=0 then _ else _)=(if x=0 then _ else _);rw [if_neg hx,if_neg hx])
 ·exact UE h p h0 hk hd tb 15 12 (fun x=>by show(!(false || false || (true&&decide (x=0))))=_;simp) (fun a x hx=>by show(if x=0 then _ else _)=(if x=0 then _ else _);rw [if_neg hx,if_neg hx]) (fun a x hx=>by show Fl.zn (if x=0 then _ else _)=(if x=0 then _ else _);rw [if_neg hx,if_neg hx])
end
theorem aay (h:Sm I s M c v) (h0:dG M.hi=false) {d r:Nat} (hd:d<8) (hr:r<8) {f:Int} (hf:0≤f∧f<16) (m:Int):Oc I s (s.one 27 d r f m) M c 27 (St.gK M (lo c) s.pc (bT c) s.nx 27 d r f m):=by
 obtain⟨v1,h1,x1,t1⟩:=h.get hr
 have:=Eb (k:=27) h1 (Px.get s r) h0 rfl hd t1 hf
 rw [←bV (c:=c) hr] at this
 exact this
theorem aaz (h:Sm I s M c v) (h0:dG M.hi=false) {d r:Nat} (hd:d<8) {f:Int} (hf:0≤f∧f<16) (m:Int):Oc I s (s.one 28 d r f m) M c 28 (St.gK M (lo c) s.pc (bT c) s.nx 28 d r f m):=by
 obtain⟨v1,h1,x1,t1⟩:=h.K m
 exact Eb (k:=28) h1 (Px.put s _) h0 rfl hd t1 hf
theorem aaA (h:Sm I s M c v) (h0:dG M.hi=false) {d r:Nat} (hd:d<8) {f:Int} (hf:0≤f∧f<16) (m:Int):Oc I s (s.one 29 d r f m) M c 29 (St.gK M (lo c) s.pc (bT c) s.nx 29 d r f m):=by
 obtain⟨v1,h1,x1,t1⟩:=h.K m
 exact Eb (k:=29) h1 (Px.put s _) h0 rfl hd t1 hf
open St (Out ldO mg ldN ZN jd)
open Ot (run)
variable {I:kJ} {s s' s0:Lk} {M M':MM} {c v c' v' R R':Nat→Int} {o pc f f':Int}
theorem aaB (h:Sm I s M c v) (h0:dG M.hi=false) {d r:Nat} (hd:d<8) (hr:r<8) (f m:Int):Oc I s (s.one 30 d r f m) M c 30 (St.gK M (lo c) s.pc (bT c) s.nx 30 d r f m):=by
 obtain⟨v1,h1,x1,t1⟩:=h.ig hr m
 have hl:=h1.ld (Px.ig s r m) f t1
 rw [←bV (c:=c) hr] at hl
 refine Oc.ld (q:=au (lo c r+m)) (n:=ldN f) (g:=fun v=>⟨M,aF (lo c) d (jd f v),s.nx,bT c,0,0⟩) (fun e=> ?_) (fun x e=> ?_)
 ·obtain⟨v2,h2,x2,t2⟩:=hl.1 e
  exact Oc.go (h2.set hd t2).1 h0 rfl (iQ hd _) (iw hd _)
 ·exact(hl.2 x e).px (Px.set _ _ _)
theorem aaC (h:Sm I s M c v) {d r:Nat} (hd:d<8) (hr:r<8) (f m:Int):Oc I s (s.one 31 d r f m) M c 31 (St.gK M (lo c) s.pc (bT c) s.nx 31 d r f m):=by
 obtain⟨v1,h1,x1,t1⟩:=h.ig hr m
 obtain⟨v2,h2,x2,t2⟩:=h1.get hd
 have hl:=h2.st ((Px.ig s r m).trans (Px.get _ d)) f (x2.t t1) t2
 rw [←bV (c:=c) hr,←bV (c:=c) hd] at hl
 refine Oc.st (q:=au (lo c r+m)) (n:=ZN f) (z:=lo c d) (g:=fun M'=>⟨M',lo c,s.nx,bT c,0,0⟩) (fun e=> ?_) (fun x e=> ?_)
 ·exact Oc.YV (hl.1 e).1 (((Px.ig s r m).trans (Px.get _ d)).trans (Px.put _ _)) rfl rfl rfl
 ·exact(hl.2 x e).px (Px.put _ _)
theorem aaD (h:Sm I s M c v) {d r:Nat} (hd:d<8) (hr:r<8) (f m:Int):Oc I s (s.one 24 d r f m) M c 24 (St.gK M (lo c) s.pc (bT c) s.nx 24 d r f m):=by
 obtain⟨v1,h1,x1,t1⟩:=h.ig hr m
 obtain⟨v2,h2,x2,t2⟩:=h1.get hd
 have p2:=(Px.ig s r m).trans (Px.get _ d)
 have t1:=x2.t t1
 have hl:=h2.ld p2 4 t1
 rw [←bV (c:=c) hr] at hl t1
 rw [←bV (c:=c) hd] at t2
 show Oc I s (((((s.ig r m).2.get d).2.load 4 (s.ig r m).1).2.store 2 (s.ig r m).1 ((s.ig r m).2.get d).1).set d (((s.ig r m).2.get d).2.load 4 (s.ig r m).1).1).watch M c 24 (ldO M (lo c) s.pc (bT c) (au (lo c r+m)) 4 fun v=>mg M (lo c) s.pc (bT c) (au (lo c r+m)) 4 (lo c d) fun M'=>⟨M',aF (lo c) d v,s.nx,bT c,0,0⟩)
 clear h h1 x1
 generalize s.ig r m=w at*
 generalize w.2.get d=g at*
 have p3:=p2.trans (Px.put g.2 ⟨9,4,w.1,0,0,g.2.pc,g.2.aj-1⟩)
 refine Oc.ld (fun e=> ?_) (fun x e=> ?_)
 ·obtain⟨v3,h3,x3,t3⟩:=hl.1 e
  have hs:=h3.st p3 2 (x3.t t1) (x3.t t2)
  refine Oc.st (fun e=> ?_) (fun x e=> ?_)
  ·obtain⟨h4,x4⟩:=hs.1 e
   exact Oc.YV (h4.set hd (x4.t t3)).1 ((p3.trans (Px.put _ _)).trans (Px.set _ _ _)) rfl (iQ hd _) (iw hd _)
  ·exact(hs.2 x e).px ((Px.set _ _ _).trans (Px.put _ _))
 ·exact(hl.2 x e).px (((Px.put _ _).trans (Px.set _ _ _)).trans (Px.put _ _))
theorem aaE (h:Sm I s M c v) {d r:Nat} (hd:d<8) (hr:r<8) (f m:Int):Oc I s (s.one 25 d r f m) M c 25 (St.gK M (lo c) s.pc (bT c) s.nx 25 d r f m):=by
 obtain⟨v1,h1,x1,t1⟩:=h.ig hr m
 obtain⟨v2,h2,x2,t2⟩:=h1.get hd
 have p2:=(Px.ig s r m).trans (Px.get _ d)
 have t1:=x2.t t1
 have hl:=h2.ld p2 4 t1
 rw [←bV (c:=c) hr] at hl t1
 rw [←bV (c:=c) hd] at t2
 show Oc I s ((((((((s.ig r m).2.get d).2.load 4 (s.ig r m).1).2.B 0 (((s.ig r m).2.get d).2.load 4 (s.ig r m).1).1 ((s.ig r m).2.get d).1).2.store 2 (s.ig r m).1 ((((s.ig r m).2.get d).2.load 4 (s.ig r m).1).2.B 0 (((s.ig r m).2.get d).2.load 4 (s.ig r m).1).1 ((s.ig r m).2.get d).1).1).set d (((s.ig r m).2.get d).2.load 4 (s.ig r m).1).1).flag 1 (((s.ig r m).2.get d).2.load 4 (s.ig r m).1).1 ((s.ig r m).2.get d).1 (-1))).watch M c 25 (ldO M (lo c) s.pc (bT c) (au (lo c r+m)) 4 fun v=>mg M (lo c) s.pc (bT c) (au (lo c r+m)) 4 (au (v+lo c d)) fun M'=>⟨M',aF (lo c) d v,s.nx,fl 1 v (lo c d) (bT c),0,0⟩)
 clear h h1 x1
 generalize s.ig r m=w at*
 generalize w.2.get d=g at*
 have p3:=p2.trans (Px.put g.2 ⟨9,4,w.1,0,0,g.2.pc,g.2.aj-1⟩)
 refine Oc.ld (fun e=> ?_) (fun x e=> ?_)
 ·obtain⟨v3,h3,x3,t3⟩:=hl.1 e
  obtain⟨v4,h4,x4,t4⟩:=h3.B 0 t3 (x3.t t2)
  have p4:Px s ((g.2.load 4 w.1).2.B 0 (g.2.load 4 w.1).1 g.1).2:=p3.trans (Px.put _ _)
  have hs:=h4.st p4 2 (x4.t (x3.t t1)) t4
  refine Oc.st (fun e=> ?_) (fun x e=> ?_)
  ·obtain⟨h5,x5⟩:=hs.1 e
   have x35:=x4.trans x5
   obtain⟨c6,v6,h6,e1,e2⟩:=h5.sf hd (x35.t t3) (f:=1) (o:= -1) (zo:=bT c) (by decide) (.inr (x35.t t3)) (.inr (x35.t (x3.t t2))) (.inl rfl) (UD t3.1 t2.1) (Jm (by decide))
   exact Oc.YV h6 (((p4.trans (Px.put _ _)).trans (Px.set _ _ _)).trans (Px.flag _ _ _ _ _)) rfl e1 e2
  ·exact(hs.2 x e).px (((Px.set _ _ _).trans (Px.flag _ _ _ _ _)).trans (Px.put _ _))
 ·exact(hl.2 x e).px (((((Px.put _ _).trans (Px.put _ _)).trans (Px.set _ _ _)).trans (Px.flag _ _ _ _ _)).trans (Px.put _ _))
theorem aaF (h:Sm I s M c v) {d r:Nat} (hd:d<8) (hr:r<8) (f m:Int):Oc I s (s.one 26 d r f m) M c 26 (St.gK M (lo c) s.pc (bT c) s.nx 26 d r f m):=by
 obtain⟨v1,h1,x1,t1⟩:=h.ig hr m
 obtain⟨v2,h2,x2,t2⟩:=h1.get hd
 have p2:=(Px.ig s r m).trans (Px.get _ d)
 have t1:=x2.t t1
 have hl:=h2.ld p2 4 t1
 rw [←bV (c:=c) hr] at hl t1
 rw [←bV (c:=c) hd] at t2
 show Oc I s (s.both 26 d r m).watch M c 26 (ldO M (lo c) s.pc (bT c) (au (lo c r+m)) 4 fun v=>if lo c 0=v then mg M (lo c) s.pc (bT c) (au (lo c r+m)) 4 (lo c d) fun M'=>⟨M',lo c,s.nx,fl 3 (lo c 0) v (bT c),0,0⟩ else mg M (lo c) s.pc (bT c) (au (lo c r+m)) 4 v fun M'=>⟨M',aF (lo c) 0 v,s.nx,fl 3 (lo c 0) v (bT c),0,0⟩)
 unfold Lk.both
 rw [if_neg (by decide),if_neg (by decide)]
 dsimp only
 clear h h1 x1
 generalize s.ig r m=w at*
 generalize w.2.get d=g at*
 have p3:Px s (g.2.load 4 w.1).2:=p2.trans (Px.put g.2 ⟨9,4,w.1,0,0,g.2.pc,g.2.aj-1⟩)
 generalize hv:g.2.load 4 w.1=v at*
 have p4:=Px.get v.2 0
 refine Oc.ld (fun e=> ?_) (fun x e=> ?_)
 ·obtain⟨v3,h3,x3,t3⟩:=hl.1 e
  have t3:T v.2 v3 v.1 (jD M (au (lo c r+m)) 4):=t3
  obtain⟨v4,h4,x4,t4⟩:=h3.get (r:=0) (by decide)
  generalize v.2.get 0=q at*
  have t3:=x4.t t3
  have t2:=x4.t (x3.t t2)
  have t1:=x4.t (x3.t t1)
  generalize jD M (au (lo c r+m)) 4=z at*
  obtain⟨v5,h5,x5,t5⟩:=h4.B 13 t4 t3
  obtain⟨v6,h6,x6,t6⟩:=h5.S t5 (x5.t t2) (x5.t t3)
  have p6:Px s ((q.2.B 13 q.1 v.1).2.S (q.2.B 13 q.1 v.1).1 g.1 v.1).2:=((p3.trans p4).trans (Px.put _ _)).trans (Px.put _ _)
  have x46:=x5.trans x6
  have hs:=h6.st p6 2 (x46.t t1) t6
  have eb:eF 13 (c 0) z=if c 0=z then 1 else 0:=rfl
  rw [eb] at hs
  have l0:lo c 0=c 0:=bV (by decide)
  rw [l0]
  have fin:∀ {MM_:MM} {vv:Nat→Int} (h7:Sm I ((((q.2.B 13 q.1 v.1).2.S (q.2.B 13 q.1 v.1).1 g.1 v.1).2.store 2 w.1 ((q.2.B 13 q.1 v.1).2.S (q.2.B 13 q.1 v.1).1 g.1 v.1).1)) MM_ c vv) (x7:Vx ((q.2.B 13 q.1 v.1).2.S (q.2.B 13 q.1 v.1).1 g.1 v.1).2 v6 ((((q.2.B 13 q.1 v.1).2.S (q.2.B 13 q.1 v.1).1 g.1 v.1).2.store 2 w.1 ((q.2.B 13 q.1 v.1).2.S (q.2.B 13 q.1 v.1).1 g.1 v.1).1)) vv),Oc I s (((((q.2.B 13 q.1 v.1).2.S (q.2.B 13 q.1 v.1).1 g.1 v.1).2.store 2 w.1 ((q.2.B 13 q.1 v.1).2.S (q.2.B 13 q.1 v.1).1 g.1 v.1).1).set 0 v.1).flag 3 q.1 v.1 (-1)).watch M c 26 ⟨MM_,aF (lo c) 0 z,s.nx,fl 3 (c 0) z (bT c),0,0⟩:=by
   intro MM_ vv h7 x7
   have x47:=x46.trans x7
   obtain⟨c8,v8,h8,e1,e2⟩:=h7.sf (d:=0) (by decide) (x47.t t3) (f:=3) (o:= -1) (zo:=bT c) (by decide) (.inr (x47.t t4)) (.inr (x47.t t3)) (.inl rfl) (FH t4.1 t3.1) (Jm (by decide))
   exact Oc.YV h8 (((p6.trans (Px.put _ _)).trans (Px.set _ _ _)).trans (Px.flag _ _ _ _ _)) rfl e1 e2
  by_cases e0:c 0=z
  ·rw [if_pos e0]
   rw [if_pos e0,if_neg (by decide)] at hs
   refine Oc.st (fun e=> ?_) (fun x e=> ?_)
   ·obtain⟨h7,x7⟩:=hs.1 e
    have:=fin h7 x7
    rw [wG (by rw [l0];exact e0)] at this
    exact this
   ·exact(hs.2 x e).px (((Px.set _ _ _).trans (Px.flag _ _ _ _ _)).trans (Px.put _ _))
  ·rw [if_neg e0]
   rw [if_neg e0,if_pos rfl] at hs
   refine Oc.st (fun e=> ?_) (fun x e=> ?_)
   ·obtain⟨h7,x7⟩:=hs.1 e
    exact fin h7 x7
   ·exact(hs.2 x e).px (((Px.set _ _ _).trans (Px.flag _ _ _ _ _)).trans (Px.put _ _))
 ·exact(hl.2 x e).px ((((((p4.trans (Px.put _ _)).trans (Px.put _ _)).trans (Px.put _ _)).trans (Px.set _ _ _)).trans (Px.flag _ _ _ _ _)).trans (Px.put _ _))
theorem Sm.push (h:Sm I s M c v) (p:Px s0 s) {a z:Int} (ta:T s v a z):
  (jE M (au (lo c 7-4)) 4=none→∃v',Sm I (s.push a) (nU M (au (lo c 7-4)) 4 z) (aF c 7 (au (lo c 7-4))) v'∧Vx s v (s.push a) v')∧
  (∀x,jE M (au (lo c 7-4)) 4=some x→Xt I (s.push a) M c ⟨6,x,s0.pc,s0.aj-1⟩):=by
 obtain⟨v1,h1,x1,t1⟩:=h.get (r:=7) (by decide)
 obtain⟨v2,h2,x2,t2⟩:=h1.add (-4) t1
 have p2:=(p.trans (Px.get s 7)).trans (Px.add _ (s.get 7).1 (-4))
 have Hl:=x1.trans x2
 have hs:=h2.st p2 2 t2 (Hl.t ta)
 rw [←bV (c:=c) (j:=7) (by decide)] at hs t2
 refine⟨fun e=> ?_,fun x e=> ?_⟩
 ·obtain⟨h3,x3⟩:=hs.1 e
  obtain⟨h4,x4⟩:=h3.set (r:=7) (by decide) (x3.t t2)
  exact⟨_,h4,(Hl.trans x3).trans x4⟩
 ·exact(hs.2 x e).px (Px.set _ _ _)
theorem Sm.pop (h:Sm I s M c v) (p:Px s0 s):
  (aQ M 1 (lo c 7) 4=none→∃v',Sm I s.pop.2 M (aF c 7 (au (lo c 7+4))) v'∧Vx s v s.pop.2 v'∧T s.pop.2 v' s.pop.1 (jD M (lo c 7) 4))∧
  (∀x,aQ M 1 (lo c 7) 4=some x→Xt I s.pop.2 M c ⟨5,x,s0.pc,s0.aj-1⟩):=by
 obtain⟨v1,h1,x1,t1⟩:=h.get (r:=7) (by decide)
 have p1:=p.trans (Px.get s 7)
 have hl:=h1.ld p1 4 t1
 rw [←bV (c:=c) (j:=7) (by decide)] at hl t1
 refine⟨fun e=> ?_,fun x e=> ?_⟩
 ·obtain⟨v2,h2,x2,t2⟩:=hl.1 e
  obtain⟨v3,h3,x3,t3⟩:=h2.add 4 (x2.t t1)
  obtain⟨h4,x4⟩:=h3.set (r:=7) (by decide) t3
  exact⟨_,h4,((x1.trans x2).trans x3).trans x4,x4.t (x3.t t2)⟩
 ·exact(hl.2 x e).px ((Px.add _ _ _).trans (Px.set _ _ _))
theorem aeJ (h:Sm I s M c v) (d r:Nat) (f m:Int):Oc I s (s.one 1 d r f m) M c 1 (St.gK M (lo c) s.pc (bT c) s.nx 1 d r f m):=Oc.stop (h.stop 2 0 s.pc (s.aj-1)) (by decide)
theorem aeK (h:Sm I s M c v) (d r:Nat) (f:Int) {m:Int} (hm:0≤m∧m<4294967296):Oc I s (s.one 5 d r f m) M c 5 (St.gK M (lo c) s.pc (bT c) s.nx 5 d r f m):=by
 have:=h.stop 1 m s.nx s.aj
 rw [show m%4294967296=m by omega] at this
 exact .inr (.inr ⟨.inr ⟨rfl,rfl⟩,c,this,rfl,rfl, .inl rfl⟩)
theorem aeL (h:Sm I s M c v) (d r:Nat) (f m:Int):Oc I s (s.one 6 d r f m) M c 6 (St.gK M (lo c) s.pc (bT c) s.nx 6 d r f m):=Oc.out (h.goes _) rfl rfl rfl
theorem aeM (h:Sm I s M c v) (d r:Nat) (f m:Int):Oc I s (s.one 7 d r f m) M c 7 (St.gK M (lo c) s.pc (bT c) s.nx 7 d r f m):=Oc.out (h.goes _) rfl rfl rfl
theorem jcc (h:Sm I s M c v) (f m:Int) (o:Int) (ho:en o=true):Oc I s (((s.holds f).2.put ⟨12,0,(s.holds f).1,0,0,au (s.nx+m),s.aj⟩).goes s.nx) M c o ⟨M,lo c,if hd f (bT c) then au (s.nx+m) else s.nx,bT c,0,0⟩:=by
 obtain⟨v1,h1,x1,t1⟩:=h.holds f
 have p1:=Px.holds s f
 have hi:=h1.iff (x:=au (s.nx+m)) t1
 rw [p1.c] at hi
 cases e:hd f (bT c) with
 | false=>
  rw [e] at hi
  have:=(hi.1 rfl).goes s.nx
  rw [show((s.holds f).2.put ⟨12,0,(s.holds f).1,0,0,au (s.nx+m),s.aj⟩).aj=s.aj from p1.c] at this
  exact Oc.out this ho rfl rfl
 | true=>
  rw [e] at hi
  exact Oc.out ((hi.2 (by decide)).px (Px.put _ _)) ho rfl rfl
theorem aaG (h:Sm I s M c v) (d r:Nat) (f m:Int):Oc I s (s.one 12 d r f m) M c 12 (St.gK M (lo c) s.pc (bT c) s.nx 12 d r f m):=jcc h f m 12 rfl
theorem aaH (h:Sm I s M c v) (d r:Nat) (f m:Int):Oc I s (s.one 13 d r f m) M c 13 (St.gK M (lo c) s.pc (bT c) s.nx 13 d r f m):=jcc h f m 13 rfl
theorem Sm.uT (h:Sm I s M c v) (p:Px s0 s) {a z:Int} (ta:T s v a z):Xt I (s.dK a) M c ⟨0,0,z,s0.aj⟩:=by
 have:=h.dK ta
 rw [p.c] at this
 exact this
theorem Sm.aaI (h:Sm I s M c v) (p:Px s0 s) (t:Int):Xt I (s.goes t) M c ⟨0,0,t,s0.aj⟩:=by
 have:=h.goes t
 rw [p.c] at this
 exact this
theorem aeN (h:Sm I s M c v) (d:Nat) {r:Nat} (hr:r<8) (f m:Int):Oc I s (s.one 9 d r f m) M c 9 (St.gK M (lo c) s.pc (bT c) s.nx 9 d r f m):=by
 obtain⟨v1,h1,x1,t1⟩:=h.get hr
 rw [←bV (c:=c) hr] at t1
 exact Oc.out (h1.uT (Px.get s r) t1) rfl rfl rfl
theorem aaJ (h:Sm I s M c v) (d:Nat) {r:Nat} (hr:r<8) (f m:Int):Oc I s (s.one 11 d r f m) M c 11 (St.gK M (lo c) s.pc (bT c) s.nx 11 d r f m):=by
 obtain⟨v1,h1,x1,t1⟩:=h.ig hr m
 have hl:=h1.ld (Px.ig s r m) 4 t1
 rw [←bV (c:=c) hr] at hl
 refine Oc.ld (q:=au (lo c r+m)) (n:=4) (g:=fun v=>⟨M,lo c,v,bT c,0,0⟩) (fun e=> ?_) (fun x e=> ?_)
 ·obtain⟨v2,h2,x2,t2⟩:=hl.1 e
  exact Oc.out (h2.uT ((Px.ig s r m).trans (Px.put _ _)) t2) rfl rfl rfl
 ·exact(hl.2 x e).px (Px.put _ _)
theorem aeO (h:Sm I s M c v) (d r:Nat) (f m:Int):Oc I s (s.one 8 d r f m) M c 8 (St.gK M (lo c) s.pc (bT c) s.nx 8 d r f m):=by
 obtain⟨v1,h1,x1,t1⟩:=h.K s.nx
 have hp:=h1.push (Px.put s _) t1
 have p2:Px s ((s.K s.nx).2.push (s.K s.nx).1):=(Px.put s _).trans (Px.push _ _)
 refine Oc.st (q:=au (lo c 7-4)) (n:=4) (z:=s.nx) (g:=fun M'=>⟨M',aF (lo c) 7 (au (lo c 7-4)),au (s.nx+m),bT c,0,0⟩) (fun e=> ?_) (fun x e=> ?_)
 ·obtain⟨v2,h2,x2⟩:=hp.1 e
  exact Oc.out (h2.aaI p2 _) rfl (iQ (by decide) _) (iw (by decide) _)
 ·exact(hp.2 x e).px (Px.put _ _)
theorem aaK (h:Sm I s M c v) (d:Nat) {r:Nat} (hr:r<8) (f m:Int):Oc I s (s.one 10 d r f m) M c 10 (St.gK M (lo c) s.pc (bT c) s.nx 10 d r f m):=by
 obtain⟨v1,h1,x1,t1⟩:=h.get hr
 obtain⟨v2,h2,x2,t2⟩:=h1.K s.nx
 have hp:=h2.push ((Px.get s r).trans (Px.put _ _)) t2
 have p2:Px s (((s.get r).2.K s.nx).2.push ((s.get r).2.K s.nx).1):=((Px.get s r).trans (Px.put _ _)).trans (Px.push _ _)
 rw [←bV (c:=c) hr] at t1
 refine Oc.st (q:=au (lo c 7-4)) (n:=4) (z:=s.nx) (g:=fun M'=>⟨M',aF (lo c) 7 (au (lo c 7-4)),lo c r,bT c,0,0⟩) (fun e=> ?_) (fun x e=> ?_)
 ·obtain⟨v3,h3,x3⟩:=hp.1 e
  exact Oc.out (h3.uT p2 (x3.t (x2.t t1))) rfl (iQ (by decide) _) (iw (by decide) _)
 ·exact(hp.2 x e).px (Px.put _ _)
theorem aeP (h:Sm I s M c v) (d r:Nat) (f m:Int):Oc I s (s.one 2 d r f m) M c 2 (St.gK M (lo c) s.pc (bT c) s.nx 2 d r f m):=by
 have hp:=h.pop (Px.refl s)
 refine Oc.ld (q:=lo c 7) (n:=4) (g:=fun v=>⟨M,aF (lo c) 7 (au (lo c 7+4)),v,bT c,0,0⟩) (fun e=> ?_) (fun x e=> ?_)
 ·obtain⟨v2,h2,x2,t2⟩:=hp.1 e
  exact Oc.out (h2.uT (Px.pop s) t2) rfl (iQ (by decide) _) (iw (by decide) _)
 ·exact(hp.2 x e).px (Px.put _ _)
theorem aaL (h:Sm I s M c v) (d:Nat) {r:Nat} (hr:r<8) (f m:Int):Oc I s (s.one 14 d r f m) M c 14 (St.gK M (lo c) s.pc (bT c) s.nx 14 d r f m):=by
 obtain⟨v1,h1,x1,t1⟩:=h.get hr
 rw [←bV (c:=c) hr] at t1
 have hp:=h1.push (Px.get s r) t1
 refine Oc.st (q:=au (lo c 7-4)) (n:=4) (z:=lo c r) (g:=fun M'=>⟨M',aF (lo c) 7 (au (lo c 7-4)),s.nx,bT c,0,0⟩) (fun e=> ?_) (fun x e=> ?_)
 ·obtain⟨v2,h2,x2⟩:=hp.1 e
  exact Oc.YV h2 ((Px.get s r).trans (Px.push _ _)) rfl (iQ (by decide) _) (iw (by decide) _)
 ·exact(hp.2 x e).px (Px.put _ _)
theorem aeQ (h:Sm I s M c v) (d r:Nat) (f m:Int):Oc I s (s.one 3 d r f m) M c 3 (St.gK M (lo c) s.pc (bT c) s.nx 3 d r f m):=by
 obtain⟨v1,h1,x1,t1⟩:=h.now
 have hp:=h1.push (Px.now s) t1
 refine Oc.st (q:=au (lo c 7-4)) (n:=4) (z:=bT c) (g:=fun M'=>⟨M',aF (lo c) 7 (au (lo c 7-4)),s.nx,bT c,0,0⟩) (fun e=> ?_) (fun x e=> ?_)
 ·obtain⟨v2,h2,x2⟩:=hp.1 e
  exact Oc.YV h2 ((Px.now s).trans (Px.push _ _)) rfl (iQ (by decide) _) (iw (by decide) _)
 ·exact(hp.2 x e).px (Px.put _ _)
theorem aaM (h:Sm I s M c v) (h0:dG M.hi=false) {d:Nat} (hd:d<8) (r:Nat) (f m:Int):Oc I s (s.one 15 d r f m) M c 15 (St.gK M (lo c) s.pc (bT c) s.nx 15 d r f m):=by
 have hp:=h.pop (Px.refl s)
 refine Oc.ld (q:=lo c 7) (n:=4) (g:=fun v=>⟨M,aF (aF (lo c) 7 (au (lo c 7+4))) d v,s.nx,bT c,0,0⟩) (fun e=> ?_) (fun x e=> ?_)
 ·obtain⟨v2,h2,x2,t2⟩:=hp.1 e
  exact Oc.go (h2.set hd t2).1 h0 rfl (by rw [iQ hd,iQ (by decide)]) (by rw [iw hd,iw (by decide)])
 ·exact(hp.2 x e).px (Px.set _ _ _)
theorem aeR (h:Sm I s M c v) (hM:bQ M) (h0:dG M.hi=false) (d r:Nat) (f m:Int):Oc I s (s.one 4 d r f m) M c 4 (St.gK M (lo c) s.pc (bT c) s.nx 4 d r f m):=by
 have hp:=h.pop (Px.refl s)
 refine Oc.ld (q:=lo c 7) (n:=4) (g:=fun v=>⟨M,aF (lo c) 7 (au (lo c 7+4)),s.nx,v%16,0,0⟩) (fun e=> ?_) (fun x e=> ?_)
 ·obtain⟨v2,h2,x2,t2⟩:=hp.1 e
  obtain⟨v3,h3,x3,t3⟩:=h2.K 15
  obtain⟨v4,h4,x4,t4⟩:=h3.B 2 (x3.t t2) t3
  have hb:=ku hM (lo c 7) 4
  have e4:eF 2 (jD M (lo c 7) 4) 15=jD M (lo c 7) 4%16:=Vj _ hb.1 hb.2
  rw [e4] at t4
  obtain⟨c5,v5,h5,x5,e1,e2⟩:=h4.flag (f:=0) (a:= -1) (za:=0) (b:= -1) (zb:=0) (by decide) (.inl rfl) (.inl rfl) (.inr t4) (aan t4.1) (fun _=>⟨t4,by omega,by omega⟩)
  exact Oc.go h5 h0 rfl (by rw [e1,iQ (by decide)]) (by rw [e2];show _%16%16=_;omega)
 ·show Xt I (((s.pop.2.K 15).2.B 2 s.pop.1 (s.pop.2.K 15).1).2.flag 0 (-1) (-1) ((s.pop.2.K 15).2.B 2 s.pop.1 (s.pop.2.K 15).1).1) M c _
  exact(hp.2 x e).px ((Px.flag _ _ _ _ _).to ((Px.B _ _ _ _).to (Px.K _ _)))
theorem WH (h:Sm I s M c v) (hM:bQ M) (h0:dG M.hi=false) {o f m:Int} (ho:0≤o∧o<32) {d r:Nat} (hd:d<8) (hr:r<8) (hf:0≤f∧f<16) (hm:0≤m∧m<4294967296):Oc I s (s.one o d r f m) M c o (St.gK M (lo c) s.pc (bT c) s.nx o d r f m):=by
 have e:o=0∨o=1∨o=2∨o=3∨o=4∨o=5∨o=6∨o=7∨o=8∨o=9∨o=10∨o=11∨o=12∨o=13∨o=14∨o=15∨o=16∨o=17∨o=18∨o=19∨o=20∨o=21∨o=22∨o=23∨o=24∨o=25∨o=26∨o=27∨o=28∨o=29∨o=30∨o=31:=by omega
 rcases e with rfl | rfl | rfl | rfl | rfl | rfl | rfl | rfl | rfl | rfl | rfl | rfl | rfl | rfl | rfl | rfl | rfl | rfl | rfl | rfl | rfl | rfl | rfl | rfl | rfl | rfl | rfl | rfl | rfl | rfl | rfl | rfl
 ·exact aeE h h0 d r f m
 ·exact aeJ h d r f m
 ·exact aeP h d r f m
 ·exact aeQ h d r f m
 ·exact aeR h hM h0 d r f m
 ·exact aeK h d r f hm
 ·exact aeL h d r f m
 ·exact aeM h d r f m
 ·exact aeO h d r f m
 ·exact aeN h d hr f m
 ·exact aaK h d hr f m
 ·exact aaJ h d hr f m
 ·exact aaG h d r f m
 ·exact aaH h d r f m
 ·exact aaL h d hr f m
 ·exact aaM h h0 hd r f m
 ·exact aao h h0 hd f m
 ·exact aap h h0 hd f m
 ·exact aaq h h0 hd f m
 ·exact aar h h0 hd f m
 ·exact aas h h0 hd f m
 ·exact aat h h0 hd f m
 ·exact aau h h0 hd hr f m
 ·exact aav h h0 hd hr f m
 ·exact aaD h hd hr f m
 ·exact aaE h hd hr f m
 ·exact aaF h hd hr f m
 ·exact aay h h0 hd hr hf m
 ·exact aaz h h0 hd hf m
 ·exact aaA h h0 hd hf m
 ·exact aaB h h0 hd hr f m
 ·exact aaC h hd hr f m
open Ot (Fp vZ I6 i6 GV TK Pre mD bZ dW tA tB tC ar ZO jU)
variable {N k:Nat} {s:Lk}
def WB (p:Int×Int):Prop:=(0≤p.1∧p.1<16)∧(0≤p.2∧p.2≤12)
theorem WB.kC {c:Prop} [Decidable c] {a b:Int×Int} (h:WB a) (k:WB b):WB (if c then a else b):=by
 split
 ·exact h
 ·exact k
theorem WI (o:Int):WB (way o):=by
 unfold way
 repeat' with_reducible refine WB.kC ?_ ?_
 all_goals(unfold WB;decide)
theorem Gd.mY (h:Gd N k s) (hk:k<80) {o:Int} {d:Nat} (hd:d<8) {a b:Int} (ga:GV s.ops a) (gb:GV s.ops b):Gd N (k+18) (s.mY o d a b):=by
 obtain⟨h1,t1⟩:=h.now (by omega)
 have p1:=Px.now s
 obtain⟨h2,t2⟩:=h1.K (x:=2) (by omega) (by decide)
 have p2:=Px.put s.now.2 ⟨1,0,0,0,0,2,0⟩
 obtain⟨h3,t3⟩:=h2.B (w:=6) (by omega) (by decide) (p2.gv t1) t2
 have p3:=Px.put (s.now.2.K 2).2 ⟨4,6,s.now.1,(s.now.2.K 2).1,0,0,0⟩
 obtain⟨h4,t4⟩:=h3.K (x:=1) (by omega) (by decide)
 have p4:=Px.put ((s.now.2.K 2).2.B 6 s.now.1 (s.now.2.K 2).1).2 ⟨1,0,0,0,0,1,0⟩
 obtain⟨h5,t5⟩:=h4.B (w:=2) (by omega) (by decide) (p4.gv t3) t4
 unfold Lk.mY
 dsimp only
 have p5:=((p1.trans p2).trans p3).trans (p4.trans (Px.put _ ⟨4,2,((s.now.2.K 2).2.B 6 s.now.1 (s.now.2.K 2).1).1,(((s.now.2.K 2).2.B 6 s.now.1 (s.now.2.K 2).1).2.K 1).1,0,0,0⟩))
 have t1':=(p2.trans p3).trans (p4.trans (Px.put _ ⟨4,2,((s.now.2.K 2).2.B 6 s.now.1 (s.now.2.K 2).1).1,(((s.now.2.K 2).2.B 6 s.now.1 (s.now.2.K 2).1).2.K 1).1,0,0,0⟩)) |>.gv t1
 have hw:0≤(if o=3 then(1:Int) else 0)∧(if o=3 then(1:Int) else 0) <16:=by split<;>decide
 have hf:0≤(if o=3 then(4:Int) else 2)∧(if o=3 then(4:Int) else 2)≤12:=by split<;>decide
 have BN:(if o=3 then(4:Int) else 2)≠0:=by split<;>decide
 generalize(if o=3 then(1:Int) else 0)=w at hw⊢
 generalize(if o=3 then(4:Int) else 2)=f at hf BN⊢
 change Px s ((((s.now.2.K 2).2.B 6 s.now.1 (s.now.2.K 2).1).2.K 1).2.B 2 ((s.now.2.K 2).2.B 6 s.now.1 (s.now.2.K 2).1).1 (((s.now.2.K 2).2.B 6 s.now.1 (s.now.2.K 2).1).2.K 1).1).2 at p5
 change GV ((((s.now.2.K 2).2.B 6 s.now.1 (s.now.2.K 2).1).2.K 1).2.B 2 ((s.now.2.K 2).2.B 6 s.now.1 (s.now.2.K 2).1).1 (((s.now.2.K 2).2.B 6 s.now.1 (s.now.2.K 2).1).2.K 1).1).2.ops s.now.1 at t1'
 clear h1 h2 h3 h4 t1 t2 t3 t4 p1 p2 p3 p4
 generalize(((s.now.2.K 2).2.B 6 s.now.1 (s.now.2.K 2).1).2.K 1).2.B 2 ((s.now.2.K 2).2.B 6 s.now.1 (s.now.2.K 2).1).1 (((s.now.2.K 2).2.B 6 s.now.1 (s.now.2.K 2).1).2.K 1).1=c at h5 t5 p5 t1'⊢
 have ga:=p5.gv ga
 have gb:=p5.gv gb
 obtain⟨h6,t6⟩:=h5.B (w:=w) (by omega) hw ga gb
 have p6:=Px.put c.2 ⟨4,w,a,b,0,0,0⟩
 obtain⟨h7,t7⟩:=h6.B (w:=w) (by omega) hw t6 (p6.gv t5)
 have p7:=Px.put (c.2.B w a b).2 ⟨4,w,(c.2.B w a b).1,c.1,0,0,0⟩
 have h8:=h7.set (r:=d) (by omega) hd t7
 have p8:=Px.set ((c.2.B w a b).2.B w (c.2.B w a b).1 c.1).2 d ((c.2.B w a b).2.B w (c.2.B w a b).1 c.1).1
 have p:=(p6.trans p7).trans p8
 exact(h8.flag (by omega) hf (.inr (p.gv ga)) (.inr (p.gv gb)) (.inr (p.gv t1')) (fun e=>absurd e BN)).mono (by omega) (by omega)
theorem WJ {o:Int} (h:0≤o∧o<16) (hn:¬ (o=1∨o=3)):(way o).2≠0:=by
 rcases(show o=0∨o=2∨o=4∨o=5∨o=6∨o=7∨o=8∨o=9∨o=10∨o=11∨o=12∨o=13∨o=14∨o=15 by omega) with rfl | rfl | rfl | rfl | rfl | rfl | rfl | rfl | rfl | rfl | rfl | rfl | rfl | rfl<;>decide
theorem Gd.lZ (h:Gd N k s) (hk:k<70) {o:Int} (ho:0≤o∧o<16) {d:Nat} (hd:d<8) {b:Int} (gb:GV s.ops b):Gd N (k+19) (s.lZ o d b):=by
 obtain⟨h1,t1⟩:=h.get (by omega) hd
 have p1:=Px.get s d
 unfold Lk.lZ
 rw [←p1.p,←p1.c]
 generalize s.get d=g at h1 t1 p1⊢
 dsimp only
 have gb:=p1.gv gb
 split
 ·exact(h1.mY (by omega) hd t1 gb).mono (by omega) (by omega)
 ·next Cb=>
  have q1:Gd N (k+1+2) (if o=14∨o=15 then((g.2.U 6 b).2.put ⟨13,7,(g.2.U 6 b).1,0,0,g.2.pc,g.2.aj-1⟩) else g.2)∧Px g.2 (if o=14∨o=15 then((g.2.U 6 b).2.put ⟨13,7,(g.2.U 6 b).1,0,0,g.2.pc,g.2.aj-1⟩) else g.2):=by
   split
   ·obtain⟨u1,v1⟩:=h1.U (w:=6) (by omega) (by decide) gb
    exact⟨u1.yK (by omega) v1,(Px.put _ _).trans (Px.put _ _)⟩
   ·exact⟨h1.mono (by omega) (by omega),Px.refl _⟩
  generalize(if o=14∨o=15 then((g.2.U 6 b).2.put ⟨13,7,(g.2.U 6 b).1,0,0,g.2.pc,g.2.aj-1⟩) else g.2)=s1 at q1⊢
  obtain⟨q1,r1⟩:=q1
  have q2:Gd N (k+1+2+5) (if 6≤(way o).2∧(way o).2≤9 then s1.now else(-1,s1)).2∧Px s1 (if 6≤(way o).2∧(way o).2≤9 then s1.now else(-1,s1)).2∧GM (if 6≤(way o).2∧(way o).2≤9 then s1.now else(-1,s1)).2.ops (if 6≤(way o).2∧(way o).2≤9 then s1.now else(-1,s1)).1:=by
   split
   ·obtain⟨u1,v1⟩:=q1.now (by omega)
    exact⟨u1,Px.now _, .inr v1⟩
   ·exact⟨q1.mono (by omega) (by omega),Px.refl _, .inl rfl⟩
  generalize(if 6≤(way o).2∧(way o).2≤9 then s1.now else(-1,s1))=s2 at q2⊢
  obtain⟨q2,r2,m2⟩:=q2
  have p2:=r1.trans r2
  have hw:=WI o
  have q3:Gd N (k+1+2+5+1) (if o≠7 then s2.2.B (way o).1 g.1 b else(0,s2.2)).2∧Px s2.2 (if o≠7 then s2.2.B (way o).1 g.1 b else(0,s2.2)).2∧(o≠7→GV (if o≠7 then s2.2.B (way o).1 g.1 b else(0,s2.2)).2.ops (if o≠7 then s2.2.B (way o).1 g.1 b else(0,s2.2)).1):=by
   split
   ·obtain⟨u1,v1⟩:=q2.B (by omega) hw.1 (p2.gv t1) (p2.gv gb)
    exact⟨u1,Px.put _ _,fun _=>v1⟩
   ·next e=>exact⟨q2.mono (by omega) (by omega),Px.refl _,fun e'=>absurd e' e⟩
  generalize(if o≠7 then s2.2.B (way o).1 g.1 b else(0,s2.2))=v at q3⊢
  obtain⟨q3,r3,m3⟩:=q3
  have q4:Gd N (k+1+2+5+1+1) (if o≠7∧o≠8 then v.2.set d v.1 else v.2)∧Px v.2 (if o≠7∧o≠8 then v.2.set d v.1 else v.2):=by
   split
   ·next e=>exact⟨q3.set (by omega) hd (m3 e.1),Px.set _ _ _⟩
   ·exact⟨q3.mono (by omega) (by omega),Px.refl _⟩
  generalize(if o≠7∧o≠8 then v.2.set d v.1 else v.2)=s3 at q4⊢
  obtain⟨q4,r4⟩:=q4
  have e7:(way o).2=5→o≠7:=by rintro e rfl;revert e;decide
  have e0:(way o).2≠0:=WJ ho Cb
  have r34:=r3.trans r4
  by_cases e5:(way o).2=5
  ·rw [if_pos e5,if_pos e5,e5]
   exact(q4.flag (f:=5) (by omega) (by decide) (.inr (r4.gv (m3 (e7 e5)))) (.inl rfl) (r34.gm m2) (fun e=>absurd e (by decide))).mono (by omega) (by omega)
  ·rw [if_neg e5,if_neg e5]
   exact(q4.flag (by omega) hw.2 (.inr ((p2.trans r34).gv t1)) (.inr ((p2.trans r34).gv gb)) (r34.gm m2) (fun e=>absurd e e0)).mono (by omega) (by omega)
def PG (N k:Nat) (x:Bool×Lk):Prop:=x.1=true→Gd N (k+25) x.2
theorem PG.kC {c:Prop} [Decidable c] {a b:Bool×Lk} (h:c→PG N k a) (g:¬c→PG N k b):PG N k (if c then a else b):=by
 split
 ·next e=>exact h e
 ·next e=>exact g e
theorem Gd.both (h:Gd N k s) (hk:k<60) {o m:Int} {d r:Nat} (hd:d<8) (hr:r<8) (hm:0≤m∧m<4294967296):Gd N (k+20) (s.both o d r m):=by
 unfold Lk.both
 obtain⟨h1,t1⟩:=h.ig (by omega) hr hm
 generalize s.ig r m=w at h1 t1⊢
 dsimp only
 obtain⟨h2,t2⟩:=h1.get (by omega) hd
 have t1:=(Px.get w.2 d).gv t1
 generalize w.2.get d=g at h2 t2 t1⊢
 obtain⟨h3,t3⟩:=h2.load (w:=4) (by omega) (by decide) t1
 have t1:=(Px.put g.2 ⟨9,4,w.1,0,0,g.2.pc,g.2.aj-1⟩).gv t1
 have t2:=(Px.put g.2 ⟨9,4,w.1,0,0,g.2.pc,g.2.aj-1⟩).gv t2
 change GV (g.2.load 4 w.1).2.ops w.1 at t1
 change GV (g.2.load 4 w.1).2.ops g.1 at t2
 generalize g.2.load 4 w.1=v at h3 t3 t1 t2⊢
 split
 ·have h4:=h3.store (w:=2) (by omega) (by decide) t1 t2
  exact(h4.set (by omega) hd ((Px.put _ _).gv t3)).mono (by omega) (by omega)
 split
 ·obtain⟨h4,t4⟩:=h3.B (w:=0) (by omega) (by decide) t3 t2
  have p4:=Px.put v.2 ⟨4,0,v.1,g.1,0,0,0⟩
  have h5:=h4.store (w:=2) (by omega) (by decide) (p4.gv t1) t4
  have p5:=p4.trans (Px.put (v.2.B 0 v.1 g.1).2 ⟨10,2,w.1,(v.2.B 0 v.1 g.1).1,0,v.2.pc,v.2.aj-1⟩)
  have h6:=h5.set (by omega) hd (p5.gv t3)
  have p6:=p5.trans (Px.set _ d v.1)
  exact(h6.flag (f:=1) (by omega) (by decide) (.inr (p6.gv t3)) (.inr (p6.gv t2)) (.inl rfl) (fun e=>absurd e (by decide))).mono (by omega) (by omega)
 ·obtain⟨h4,t4⟩:=h3.get (r:=0) (by omega) (by omega)
  have p4:=Px.get v.2 0
  generalize v.2.get 0=c at h4 t4 p4⊢
  have t1:=p4.gv t1
  have t2:=p4.gv t2
  have t3:=p4.gv t3
  obtain⟨h5,t5⟩:=h4.B (w:=13) (by omega) (by decide) t4 t3
  have p5:=Px.put c.2 ⟨4,13,c.1,v.1,0,0,0⟩
  obtain⟨h6,t6⟩:=h5.S (by omega) t5 (p5.gv t2) (p5.gv t3)
  have p6:=p5.trans (Px.put (c.2.B 13 c.1 v.1).2 ⟨6,0,(c.2.B 13 c.1 v.1).1,g.1,v.1,0,0⟩)
  have h7:=h6.store (w:=2) (by omega) (by decide) (p6.gv t1) t6
  have p7:=p6.trans (Px.put ((c.2.B 13 c.1 v.1).2.S (c.2.B 13 c.1 v.1).1 g.1 v.1).2 ⟨10,2,w.1,((c.2.B 13 c.1 v.1).2.S (c.2.B 13 c.1 v.1).1 g.1 v.1).1,0,c.2.pc,c.2.aj-1⟩)
  have h8:=h7.set (r:=0) (by omega) (by omega) (p7.gv t3)
  have p8:=p7.trans (Px.set _ 0 v.1)
  exact(h8.flag (f:=3) (by omega) (by decide) (.inr (p8.gv t4)) (.inr (p8.gv t3)) (.inl rfl) (fun e=>absurd e (by decide))).mono (by omega) (by omega)
theorem Gd.plain (h:Gd N k s) (hk:k<60) {o f m:Int} {d r:Nat} (hd:d<8) (hr:r<8) (hf:0≤f∧f<16) (h30:o=30→f<5) (h31:o=31→f<3) (hm:0≤m∧m<4294967296):PG N k (s.plain o d r f m):=by
 unfold Lk.plain
 refine PG.kC (fun e=> ?_) fun _=>PG.kC (fun e=> ?_) fun _=>PG.kC (fun e=> ?_) fun _=>PG.kC (fun e=> ?_) fun _=>PG.kC (fun e=> ?_) fun _=>PG.kC (fun e=> ?_) fun _=>PG.kC (fun e=> ?_) fun _=>PG.kC (fun e=> ?_) fun _=>PG.kC (fun e=> ?_) fun _=>PG.kC (fun e=> ?_) fun _=>PG.kC (fun e=> ?_) fun _=>PG.kC (fun e=> ?_) fun _=>PG.kC (fun e=> ?_) fun _=> ?_
 ·exact fun _=>h.mono (by omega) (by omega)
 ·obtain⟨h1,t1⟩:=h.K (by omega) hm
  exact fun _=>(h1.set (by omega) hd t1).mono (by omega) (by omega)
 ·obtain⟨h1,t1⟩:=h.get (by omega) hd
  dsimp only
  generalize s.get d=g at h1 t1⊢
  obtain⟨h2,t2⟩:=h1.now (by omega)
  have t1:=(Px.now g.2).gv t1
  generalize g.2.now=w at h2 t2 t1⊢
  generalize(if o=18 then(-1:Int) else 1)=c
  obtain⟨h3,t3⟩:=h2.add (n:=c) (by omega) t1
  have p3:=Px.add w.2 g.1 c
  generalize w.2.add g.1 c=x at h3 t3 p3⊢
  have h4:=h3.set (by omega) hd t3
  have p4:=p3.trans (Px.set x.2 d x.1)
  have hf:0≤(if o=18 then(12:Int) else 11)∧(if o=18 then(12:Int) else 11)≤12:=by split<;>decide
  have BN:(if o=18 then(12:Int) else 11)≠0:=by split<;>decide
  exact fun _=>(h4.flag (by omega) hf (.inr (p4.gv t1)) (.inl rfl) (.inr (p4.gv t2)) (fun e=>absurd e BN)).mono (by omega) (by omega)
 ·obtain⟨h1,t1⟩:=h.get (by omega) hd
  dsimp only
  generalize s.get d=g at h1 t1⊢
  obtain⟨h2,t2⟩:=h1.K (x:=0) (by omega) (by decide)
  have p2:=Px.put g.2 ⟨1,0,0,0,0,0,0⟩
  obtain⟨h3,t3⟩:=h2.U (w:=1) (by omega) (by decide) (p2.gv t1)
  have p3:=p2.trans (Px.put (g.2.K 0).2 ⟨5,1,g.1,0,0,0,0⟩)
  have h4:=h3.set (by omega) hd t3
  have p4:=(Px.put (g.2.K 0).2 ⟨5,1,g.1,0,0,0,0⟩).trans (Px.set ((g.2.K 0).2.U 1 g.1).2 d ((g.2.K 0).2.U 1 g.1).1)
  exact fun _=>(h4.flag (f:=3) (by omega) (by decide) (.inr (p4.gv t2)) (.inr (p4.gv (p2.gv t1))) (.inl rfl) (fun e=>absurd e (by decide))).mono (by omega) (by omega)
 ·obtain⟨h1,t1⟩:=h.get (by omega) hd
  obtain⟨h2,t2⟩:=h1.U (w:=0) (by omega) (by decide) t1
  exact fun _=>(h2.set (by omega) hd t2).mono (by omega) (by omega)
 ·obtain⟨h1,t1⟩:=h.holds (by omega) hf
  exact fun _=>(h1.set (by omega) hd t1).mono (by omega) (by omega)
 ·obtain⟨h1,t1⟩:=h.get (by omega) hr
  exact fun _=>(h1.set (by omega) hd t1).mono (by omega) (by omega)
 ·obtain⟨h1,t1⟩:=h.ig (by omega) hr hm
  exact fun _=>(h1.set (by omega) hd t1).mono (by omega) (by omega)
 ·obtain⟨h1,t1⟩:=h.get (by omega) hr
  exact fun _=>(h1.lZ (by omega) hf hd t1).mono (by omega) (by omega)
 ·obtain⟨h1,t1⟩:=h.K (by omega) hm
  exact fun _=>(h1.lZ (by omega) hf hd t1).mono (by omega) (by omega)
 ·obtain⟨h1,t1⟩:=h.ig (by omega) hr hm
  obtain⟨h2,t2⟩:=h1.load (w:=f) (by omega) ⟨hf.1,h30 e⟩ t1
  exact fun _=>(h2.set (by omega) hd t2).mono (by omega) (by omega)
 ·obtain⟨h1,t1⟩:=h.ig (by omega) hr hm
  dsimp only
  generalize s.ig r m=w at h1 t1⊢
  obtain⟨h2,t2⟩:=h1.get (by omega) hd
  have h3:=h2.store (w:=f) (by omega) ⟨hf.1,h31 e⟩ ((Px.get w.2 d).gv t1) t2
  exact fun _=>(h3.watch (by omega)).mono (by omega) (by omega)
 ·exact fun _=>((h.both (by omega) hd hr hm).watch (by omega)).mono (by omega) (by omega)
 ·exact fun e=>nomatch e
structure Fn (n:Nat) (s:Lk):Prop where
 a:mD s.aj s.ops
 f:∀m,m<s.ops.length→(rF (Ot.opAt s.ops m).k=true↔m+1=s.ops.length)
 n0:0<s.ops.length
 n:s.ops.length≤n
theorem Gd.fin (h:Gd N k s) {o:aV} (hl:Ot.Loc s.aj o) (ht:TK s.ops o) (hf:rF o.k=true):Fn (N+(k+1)) (s.put o):=by
 have e:(s.put o).ops.length=s.ops.length+1:=by show(s.ops++ [o]).length=_;rw [List.length_append,List.length_singleton]
 refine⟨h.p.a.app hl ht,fun m hm=> ?_,by omega,by have:=h.n;omega⟩
 rw [e] at hm⊢
 show rF (Ot.opAt (s.ops++ [o]) m).k=true↔_
 by_cases dh:m<s.ops.length
 ·rw [bZ dh,h.p.f m dh]
  exact⟨fun e=>absurd e (by decide),fun e=>by omega⟩
 ·obtain rfl:m=s.ops.length:=by omega
  rw [dW]
  exact⟨fun _=>rfl,fun _=>hf⟩
theorem Gd.goes (h:Gd N k s) {t:Int} (ht:0≤t∧t<4294967296):Fn (N+(k+1)) (s.goes t):=
 h.fin (jv 15 0 0 0 0 t s.aj rfl (by decide) (by decide) (by decide) (qK (by decide)) ht (fun e=>nomatch e) h.cn h.c.2 (fun e=>nomatch e) (fun _=>rfl) (fun _ _=>rfl) (fun e=>nomatch e) (fun _=>rfl) z6 z6 z6) (jU rfl rfl rfl) rfl
theorem Gd.dK (h:Gd N k s) {a:Int} (ga:GV s.ops a):Fn (N+(k+1)) (s.dK a):=
 h.fin (jv 16 0 a 0 0 0 s.aj rfl (by decide) (by decide) (by decide) (qK (by decide)) nz (fun _=>rfl) h.cn h.c.2 (fun e=>nomatch e) (fun e=>nomatch e) (fun _ _=>rfl) (fun e=>nomatch e) (fun _=>rfl) (h.i6 ga) z6 z6) (DZ ga rfl rfl) rfl
theorem Gd.brk (h:Gd N k s):Fn (N+(k+1)) (s.put ⟨14,2,0,0,0,s.pc,s.aj-1⟩):=
 h.fin (jv 14 2 0 0 0 s.pc (s.aj-1) rfl (by decide) (by decide) (by decide) (fun _=>by decide) ⟨h.b.1,h.b.2.1⟩ (fun e=>nomatch e) h.dn h.c.2 (fun e=>nomatch e) (fun _=>rfl) (fun _ e=>nomatch e) (fun _=>nz) (fun _=>rfl) z6 z6 z6) (jU rfl rfl rfl) rfl
theorem Gd.sys (h:Gd N k s) {m:Int} (hm:0≤m∧m<4294967296):Fn (N+(k+1)) (s.put ⟨14,1,0,m,0,s.nx,s.aj⟩):=
 h.fin (jv 14 1 0 m 0 s.nx s.aj rfl (by decide) (by decide) (by decide) (fun _=>by decide) h.b.2.2 (fun e=>nomatch e) h.cn h.c.2 (fun e=>nomatch e) (fun _=>rfl) (fun _ e=>nomatch e) (fun _=>hm) (fun _=>rfl) z6 (Ot.i6 m (by omega)) z6) (jU rfl rfl rfl) rfl
structure Mv (N k:Nat) (o:Int) (t:Lk):Prop where
 go:en o=false→Gd N (k+25) t
 fin:en o=true→Fn (N+(k+25)) t
theorem Mv.kC {c:Prop} [Decidable c] {o:Int} {a b:Lk} (h:c→Mv N k o a) (g:¬c→Mv N k o b):Mv N k o (if c then a else b):=by
 split
 ·next e=>exact h e
 ·next e=>exact g e
theorem Fn.mono {n n':Nat} (h:Fn n s) (hn:n≤n'):Fn n' s:=⟨h.a,h.f,h.n0,Nat.le_trans h.n hn⟩
theorem aeT {o:Int} (h:o=1∨o=2∨(5≤o∧o≤13)):en o=true:=decide_eq_true h
theorem aeU {o:Int} (h:¬ (o=1∨o=2∨(5≤o∧o≤13))):en o=false:=decide_eq_false h
theorem Mv.ff {o:Int} {t:Lk} (h:o=1∨o=2∨(5≤o∧o≤13)) {n:Nat} (g:Fn n t) (hn:n≤N+(k+25)):Mv N k o t:=⟨fun e=>absurd (aeT h) (by rw [e];decide),fun _=>g.mono hn⟩
theorem Mv.g {o:Int} {t:Lk} (h:¬ (o=1∨o=2∨(5≤o∧o≤13))) {n:Nat} (g:Gd N n t) (hn:n≤k+25) (hk:k+25≤100):Mv N k o t:=⟨fun _=>g.mono hn hk,fun e=>absurd e (by rw [aeU h];decide)⟩
theorem Gd.bg (h:Gd N k s) (hk:k<60) {o f m:Int} (ho:0≤o∧o<16) (h0:o≠0) {d r:Nat} (hd:d<8) (hr:r<8) (hf:0≤f∧f<16) (hm:0≤m∧m<4294967296):Mv N k o (s.bg o d r f m):=by
 unfold Lk.bg
 refine Mv.kC (fun e=> ?_) fun _=>Mv.kC (fun e=> ?_) fun _=>Mv.kC (fun e=> ?_) fun _=>Mv.kC (fun e=> ?_) fun _=>Mv.kC (fun e=> ?_) fun _=>Mv.kC (fun e=> ?_) fun _=>Mv.kC (fun e=> ?_) fun _=>Mv.kC (fun e=> ?_) fun _=>Mv.kC (fun e=> ?_) fun _=>Mv.kC (fun e=> ?_) fun _=>Mv.kC (fun e=> ?_) fun _=>Mv.kC (fun e=> ?_) fun _=>Mv.kC (fun e=> ?_) fun _=> ?_
 ·exact Mv.ff (by omega) h.brk (by omega)
 ·exact Mv.ff (by omega) (h.sys hm) (by omega)
 ·exact Mv.ff (by omega) (h.goes (aP _)) (by omega)
 ·obtain⟨h1,t1⟩:=h.holds (by omega) hf
  have p:=Px.holds s f
  dsimp only
  rw [←p.c,←p.x]
  have h2:=h1.iff (x:=au ((s.holds f).2.nx+m)) (by omega) t1 (aP _)
  exact Mv.ff (by omega) (h2.goes h2.b.2.2) (by omega)
 ·obtain⟨h1,t1⟩:=h.get (by omega) hr
  exact Mv.ff (by omega) (h1.dK t1) (by omega)
 ·obtain⟨h1,t1⟩:=h.ig (by omega) hr hm
  obtain⟨h2,t2⟩:=h1.load (w:=4) (by omega) (by decide) t1
  exact Mv.ff (by omega) (h2.dK t2) (by omega)
 ·obtain⟨h1,t1⟩:=h.K (by omega) h.b.2.2
  have h2:=h1.push (by omega) t1
  exact Mv.ff (by omega) (h2.goes (aP _)) (by omega)
 ·obtain⟨h1,t1⟩:=h.get (by omega) hr
  have p1:=Px.get s r
  dsimp only
  rw [←p1.x]
  obtain⟨h2,t2⟩:=h1.K (by omega) h1.b.2.2
  have h3:=h2.push (by omega) t2
  exact Mv.ff (by omega) (h3.dK ((Px.push _ _).gv ((Px.put _ _).gv t1))) (by omega)
 ·obtain⟨h1,t1⟩:=h.pop (by omega)
  exact Mv.ff (by omega) (h1.dK t1) (by omega)
 ·obtain⟨h1,t1⟩:=h.get (by omega) hr
  exact Mv.g (by omega) ((h1.push (by omega) t1).watch (by omega)) (by omega) (by omega)
 ·obtain⟨h1,t1⟩:=h.pop (by omega)
  exact Mv.g (by omega) (h1.set (by omega) hd t1) (by omega) (by omega)
 ·obtain⟨h1,t1⟩:=h.now (by omega)
  exact Mv.g (by omega) ((h1.push (by omega) t1).watch (by omega)) (by omega) (by omega)
 ·obtain⟨h1,t1⟩:=h.pop (by omega)
  dsimp only
  generalize s.pop=v at h1 t1⊢
  obtain⟨h2,t2⟩:=h1.K (x:=15) (by omega) (by decide)
  obtain⟨h3,t3⟩:=h2.B (w:=2) (by omega) (by decide) ((Px.put _ _).gv t1) t2
  exact Mv.g (by omega) (h3.flag (f:=0) (by omega) (by decide) (.inl rfl) (.inl rfl) (.inr t3) (fun _=>t3)) (by omega) (by omega)
 ·exact absurd ho (by omega)
theorem Rx (s:Lk) {o:Int} (d r:Nat) (f m:Int) (ho:0≤o∧o<32):(s.plain o d r f m).1=decide (o=0∨16≤o):=by
 by_cases h:o=0∨16≤o
 ·rw [decide_eq_true h]
  rcases(show o=0∨o=16∨o=17∨o=18∨o=19∨o=20∨o=21∨o=22∨o=23∨o=24∨o=25∨o=26∨o=27∨o=28∨o=29∨o=30∨o=31 by omega) with rfl | rfl | rfl | rfl | rfl | rfl | rfl | rfl | rfl | rfl | rfl | rfl | rfl | rfl | rfl | rfl | rfl<;>rfl
 ·rw [decide_eq_false h]
  unfold Lk.plain
  rw [if_neg (by omega),if_neg (by omega),if_neg (by omega),if_neg (by omega),if_neg (by omega),if_neg (by omega),if_neg (by omega),if_neg (by omega),if_neg (by omega),if_neg (by omega),if_neg (by omega),if_neg (by omega),if_neg (by omega)]
theorem Gd.one (h:Gd N k s) (hk:k<60) {o f m:Int} (ho:0≤o∧o<32) {d r:Nat} (hd:d<8) (hr:r<8) (hf:0≤f∧f<16) (h30:o=30→f<5) (h31:o=31→f<3) (hm:0≤m∧m<4294967296):Mv N k o (s.one o d r f m):=by
 unfold Lk.one
 have hp:=Rx s d r f m ho
 refine Mv.kC (fun e=> ?_) (fun e=> ?_)
 ·rw [hp,decide_eq_true_eq] at e
  exact Mv.g (by omega) (h.plain hk hd hr hf h30 h31 hm (by rw [hp];exact decide_eq_true e)) (by omega) (by omega)
 ·rw [hp,decide_eq_true_eq] at e
  exact h.bg hk (by omega) (by omega) hd hr hf hm
end Go.Proofs.YtcjcmnnhmajocabGreat.Lf
