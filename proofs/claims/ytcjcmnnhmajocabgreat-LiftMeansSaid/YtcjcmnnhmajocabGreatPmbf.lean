import Derived.Test.YtcjcmnnhmajocabGreatPmah
import Derived.Test.YtcjcmnnhmajocabGreatPmbb
import Derived.Test.YtcjcmnnhmajocabGreatPmbd
import Derived.Test.YtcjcmnnhmajocabGreatPmbe
set_option linter.unusedVariables false
set_option linter.unusedSimpArgs false
set_option maxRecDepth 100000
set_option maxHeartbeats 16000000
namespace Go.Proofs.YtcjcmnnhmajocabGreat.Gu
open Go.RowKit
theorem Xr (X g off n cap:Nat) (o d s f m a0 a1 a2 a3 a4:Int) (w:World) (hX:w.heap[X]?=some (.cells (fP o d s f m) 74 (0,0))) (dR:g≠X) (hn:5≤n) (Iu:n≤cap)
  (jh:0≤a0∧a0<256) (sD:0≤a1∧a1<256) (Ip:0≤a2∧a2<256) (Iq:0≤a3∧a3<256) (ha4:0≤a4∧a4<256)
  (c0:w.cell? ⟨g,off,none⟩=some (.int .u8 a0)) (c1:w.cell? ⟨g,off+1,none⟩=some (.int .u8 a1)) (c2:w.cell? ⟨g,off+2,none⟩=some (.int .u8 a2)) (c3:w.cell? ⟨g,off+3,none⟩=some (.int .u8 a3)) (c4:w.cell? ⟨g,off+4,none⟩=some (.int .u8 a4)):
  Calls Tryz.prog 115 #[.pointer (some ⟨X,0,none⟩), .int .i64 9, .slice (some ⟨g,off,none⟩) n cap] w fun e w'=>e= .returned (.bool (decide (a0<8)&&decide (s<8)))∧gQ X (fP o a0 s f (four a1 a2 a3 a4)) w w':=by
 have n0:(0:Int) <(n:Int):=by omega
 have n1:(1:Int)≤(n:Int):=by omega
 have n2:(n:Int)≤(cap:Int):=by omega
 have n3:¬cap=1:=by omega
 obtain⟨l0,u0⟩:=jh
 have HC:=κ (And.intro c1 (And.intro c2 (And.intro c3 c4)))
 have x1:=cell_of_row w X 1 _ _ _ hX
 have x2:=cell_of_row w X 2 _ _ _ hX
 have x4:=cell_of_row w X 4 _ _ _ hX
 have z1:=frozen_of_row w X 1 _ _ hX
 have z4:=frozen_of_row w X 4 _ _ hX
 simp only [fP,List.getElem?_toArray,List.getElem?_cons_zero,List.getElem?_cons_succ] at x1 x2 x4
 have HX:=κ (gQ.start hX)
 clear hX c1 c2 c3 c4
 go_enter Tryz.func115,Tryz.ntmps115
 go_wp2_with fail
 have h1:∀ (W:World),W.heap[g]?=w.heap[g]?→W.cell? ⟨g,off+1,none⟩=some (.int .u8 a1)∧W.cell? ⟨g,off+1+1,none⟩=some (.int .u8 a2)∧W.cell? ⟨g,off+1+2,none⟩=some (.int .u8 a3)∧W.cell? ⟨g,off+1+3,none⟩=some (.int .u8 a4):=fun W h=>
  ⟨(World.cell?_of_block (a:=⟨g,off+1,none⟩) h).trans HC.out.1,(World.cell?_of_block (a:=⟨g,off+1+1,none⟩) h).trans HC.out.2.1,(World.cell?_of_block (a:=⟨g,off+1+2,none⟩) h).trans HC.out.2.2.1,(World.cell?_of_block (a:=⟨g,off+1+3,none⟩) h).trans HC.out.2.2.2⟩
 have hfr:∀ (W:World) (h:W.heap[g]?=w.heap[g]?),Calls Tryz.prog 181 #[.slice (some ⟨g,off+1,none⟩) (n-1) (cap-1)] W fun e w'=>e= .returned (.int .u32 (four a1 a2 a3 a4))∧∃m,w'=W.drewN m:=fun W h=>
  vN g (off+1) (n-1) (cap-1) a1 a2 a3 a4 W (by omega) sD Ip Iq ha4 (h1 W h).1 (h1 W h).2.1 (h1 W h).2.2.1 (h1 W h).2.2.2
 have HF:=κ hfr
 clear h1 hfr
 go_region_with (go_at_call 181;refine(HF.out _ ?_).mono ?_;(first | rfl | exact heap_setCell_other _ _ _ _ dR);rintro e w' ⟨rfl,m4,rfl⟩)
 all_goals go_wp2
 all_goals go_ret
 all_goals refine⟨congrArg (fun b=>Ending.returned (.bool b)) ?_,gQ.set (gQ.set (gQ.drewN HX.out _) 1 (.int .i64 a0)) 4 (.int .u32 (four a1 a2 a3 a4))⟩
 all_goals(rw [Bool.eq_iff_iff];simp [*] <;>omega)
def oD (sh d:Int) (a:Nat→Int):Int:=if sh=6∨sh=8 then a 0/16 else if sh=7 then a 0%16 else if sh=9∨sh=10 then a 0 else d
def oS (sh s:Int) (a:Nat→Int):Int:=if sh=5∨sh=12 then a 0 else if sh=6∨sh=8 then a 0%16 else s
def oF (sh f:Int) (a:Nat→Int):Int:=if sh=7 then a 0/16 else f
def oM (sh m:Int) (a:Nat→Int):Int:=if sh=2 then a 0 else if sh=3 then xM (a 0) else if sh=4∨sh=11 then four (a 0) (a 1) (a 2) (a 3) else if sh=9 then four (a 1) (a 2) (a 3) (a 4) else if sh=8∨sh=10∨sh=12 then xM (a 1) else m
theorem Xu (X g off n cap:Nat) (o d s f m:Int) (w:World) (hX:w.heap[X]?=some (.cells (fP o d s f m) 74 (0,0))):
  Calls Tryz.prog 115 #[.pointer (some ⟨X,0,none⟩), .int .i64 1, .slice (some ⟨g,off,none⟩) n cap] w fun e w'=>e= .returned (.bool (decide (d<8)&&decide (s<8)))∧gQ X (fP o d s f m) w w':=by
 have x1:=cell_of_row w X 1 _ _ _ hX
 have x2:=cell_of_row w X 2 _ _ _ hX
 simp only [fP,List.getElem?_toArray,List.getElem?_cons_zero,List.getElem?_cons_succ] at x1 x2
 have HX:=κ (gQ.start hX)
 clear hX
 go_enter Tryz.func115,Tryz.ntmps115
 go_wp2
 all_goals go_ret
 all_goals refine⟨congrArg (fun b=>Ending.returned (.bool b)) ?_,HX.out⟩
 all_goals(rw [Bool.eq_iff_iff];simp [*] <;>omega)
theorem Np (sh:Int) (h1:1≤sh) (Jk:sh≤12) (X g off n cap:Nat) (o d s f m:Int) (a:Nat→Int) (w:World) (hX:w.heap[X]?=some (.cells (fP o d s f m) 74 (0,0))) (dR:g≠X) (hn:shSize sh≤(n:Int)+1) (Iu:n≤cap)
  (ha:∀j,0≤a j∧a j<256) (hc:∀j,j<n→w.cell? ⟨g,off+j,none⟩=some (.int .u8 (a j))):
  Calls Tryz.prog 115 #[.pointer (some ⟨X,0,none⟩), .int .i64 sh, .slice (some ⟨g,off,none⟩) n cap] w fun e w'=>e= .returned (.bool (decide (oD sh d a<8)&&decide (oS sh s a<8)))∧gQ X (fP o (oD sh d a) (oS sh s a) (oF sh f a) (oM sh m a)) w w':=by
 have hk:sh=1∨sh=2∨sh=3∨sh=4∨sh=5∨sh=6∨sh=7∨sh=8∨sh=9∨sh=10∨sh=11∨sh=12:=by omega
 rcases hk with rfl | rfl | rfl | rfl | rfl | rfl | rfl | rfl | rfl | rfl | rfl | rfl
 all_goals(simp only [shSize] at hn)
 ·exact Xu X g off n cap o d s f m w hX
 ·exact Xj X g off n cap o d s f m (a 0) w hX dR (by omega) (ha 0) (hc 0 (by omega))
 ·exact Xk X g off n cap o d s f m (a 0) w hX dR (by omega) (ha 0) (hc 0 (by omega))
 ·exact Xl X g off n cap o d s f m (a 0) (a 1) (a 2) (a 3) w hX dR (by omega) (ha 0) (ha 1) (ha 2) (ha 3) (hc 0 (by omega)) (hc 1 (by omega)) (hc 2 (by omega)) (hc 3 (by omega))
 ·exact Xn X g off n cap o d s f m (a 0) w hX dR (by omega) (ha 0) (hc 0 (by omega))
 ·exact Xo X g off n cap o d s f m (a 0) w hX dR (by omega) (ha 0) (hc 0 (by omega))
 ·exact Xp X g off n cap o d s f m (a 0) w hX dR (by omega) (ha 0) (hc 0 (by omega))
 ·exact Xq X g off n cap o d s f m (a 0) (a 1) w hX dR (by omega) (ha 0) (ha 1) (hc 0 (by omega)) (hc 1 (by omega))
 ·exact Xr X g off n cap o d s f m (a 0) (a 1) (a 2) (a 3) (a 4) w hX dR (by omega) Iu (ha 0) (ha 1) (ha 2) (ha 3) (ha 4) (hc 0 (by omega)) (hc 1 (by omega)) (hc 2 (by omega)) (hc 3 (by omega)) (hc 4 (by omega))
 ·exact SK X g off n cap o d s f m (a 0) (a 1) w hX dR (by omega) (ha 0) (ha 1) (hc 0 (by omega)) (hc 1 (by omega))
 ·exact SI X g off n cap o d s f m (a 0) (a 1) (a 2) (a 3) w hX dR (by omega) (ha 0) (ha 1) (ha 2) (ha 3) (hc 0 (by omega)) (hc 1 (by omega)) (hc 2 (by omega)) (hc 3 (by omega))
 ·exact SL X g off n cap o d s f m (a 0) (a 1) w hX dR (by omega) (ha 0) (ha 1) (hc 0 (by omega)) (hc 1 (by omega))
def afh (X:Nat) (fi:Int):Value:=if fi=1 then .pointer (some ⟨X,1,none⟩) else if fi=2 then .pointer (some ⟨X,2,none⟩) else if fi=3 then .pointer (some ⟨X,3,none⟩) else .pointer none
theorem qo (X:Nat) (o s l fi:Int) (h0:0≤fi) (h3:fi≤3) (w:World):Calls Tryz.prog 114 #[.agg #[.int .i64 o, .int .i64 s, .int .i64 l, .int .i64 fi], .pointer (some ⟨X,0,none⟩)] w fun e w'=>e= .returned (afh X fi)∧Below w.heap.size w w':=by
 rcases(show fi=0∨fi=1∨fi=2∨fi=3 by omega) with rfl | rfl | rfl | rfl
 all_goals go_enter Tryz.func114,Tryz.ntmps114
 all_goals go_wp2
 all_goals go_ret
 all_goals exact⟨rfl,(Below.refl _ _).alloc (Nat.le_refl _) _⟩
open Kt
def fE (o d s f m:Int):Value:= .agg #[.int .i64 o, .int .i64 d, .int .i64 s, .int .i64 f, .int .u32 m]
def qU (z:Int):Value:= .tuple #[fE 0 0 0 0 0, .int .i64 0, .int .i64 z]
def fin (r:Rw) (d s f:Int) (a:Nat→Int):Value:=
 if oD r.sh d a<8∧oS r.sh s a<8 then .tuple #[fE r.op (oD r.sh d a) (oS r.sh s a) (oF r.sh f a) (oM r.sh 0 a), .int .i64 (shSize r.sh), .int .i64 0] else qU 3
def gq (us:List Int):Value:=
 if us.length=0 then qU 1 else
 if shSize (rowOf (us.getD 0 0)).sh=0 then qU 2 else
 if(us.length:Int) <shSize (rowOf (us.getD 0 0)).sh then qU 1 else
 fin (rowOf (us.getD 0 0)) (if(rowOf (us.getD 0 0)).fi=1 then(rowOf (us.getD 0 0)).lo else 0) (if(rowOf (us.getD 0 0)).fi=2 then(rowOf (us.getD 0 0)).lo else 0) (if(rowOf (us.getD 0 0)).fi=3 then(rowOf (us.getD 0 0)).lo else 0) (fun j=>us.getD (j+1) 0)
theorem Iw (ao:Option Addr) (cap:Nat) (w:World):Calls Tryz.prog 84 #[.slice ao 0 cap] w fun e w'=>e= .returned (qU 1)∧Below w.heap.size w w':=by
 go_enter Tryz.func84,Tryz.ntmps84
 go_wp2
 refine bodyPost_ret (v:=qU 1) (by simp [results,Tryz.results84,go_sem,qU,fE]) rfl ⟨rfl, ?_⟩
 exact(Below.refl _ _).alloc (Nat.le_refl _) _
def Y7 (r:Rw):Array Value:=fP r.op 0 0 0 0
def Ds (w:World) (f X:Nat) (r:Rw) (cs:Array Value) (W:World):Prop:=
 W.heap[w.heap.size]?=some (.cells (fP 0 0 0 0 0) 74 (0,0))∧W.heap[f]?=some (.cells r.cells 206 (0,0))∧W.heap[X]?=some (.cells cs 74 (0,0))∧w.heap.size<f∧f<X∧Below w.heap.size w W
theorem Ds.opd {w:World} {f X:Nat} {r:Rw} {cs cs':Array Value} {W W':World} (h:Ds w f X r cs W) (k:gQ X cs' W W'):Ds w f X r cs' W':=by
 obtain⟨h1,h2,h3,h4,h5,h6⟩:=h
 exact⟨(k.2.2.1 _ (by omega)).trans h1,(k.2.2.1 _ (by omega)).trans h2,k.1,h4,h5,h6.trans (k.2.2.2 _ (by omega))⟩
theorem Ds.set {w:World} {f X:Nat} {r:Rw} {cs:Array Value} {W:World} (h:Ds w f X r cs W) (j:Nat) (v:Value):Ds w f X r (cs.setIfInBounds j v) (W.setCell ⟨X,j,none⟩ v):=
 h.opd (gQ.set (gQ.start h.2.2.1) j v)
theorem Ds.below {w:World} {f X:Nat} {r:Rw} {cs:Array Value} {W W':World} (h:Ds w f X r cs W) (k:Below W.heap.size W W'):Ds w f X r cs W':=by
 obtain⟨h1,h2,h3,h4,h5,h6⟩:=h
 have:=(Array.getElem?_eq_some_iff.1 h3).1
 exact⟨(k.block _ (by omega)).trans h1,(k.block _ (by omega)).trans h2,(k.block _ (by omega)).trans h3,h4,h5,h6.trans (k.mono (by omega))⟩
theorem Ds.drew {w:World} {f X:Nat} {r:Rw} {cs:Array Value} {W:World} (h:Ds w f X r cs W):Ds w f X r cs W.drew:=⟨h.1,h.2.1,h.2.2.1,h.2.2.2.1,h.2.2.2.2.1,h.2.2.2.2.2.drew⟩
theorem Ds.facts {w:World} {f X:Nat} {r:Rw} {cs:Array Value} {W:World} (h:Ds w f X r cs W):
  (∀i,W.cell? ⟨w.heap.size,i,none⟩=(#[.int .i64 0, .int .i64 0, .int .i64 0, .int .i64 0, .int .u32 0]:Array Value)[i]?)∧(∀i,W.frozen? ⟨w.heap.size,i,none⟩=false)∧
  (∀i,W.cell? ⟨f,i,none⟩=(#[.int .i64 r.op, .int .i64 r.sh, .int .i64 r.lo, .int .i64 r.fi]:Array Value)[i]?)∧(∀i,W.cell? ⟨X,i,none⟩=cs[i]?)∧(∀i,W.frozen? ⟨X,i,none⟩=false)∧w.heap.size<f∧f<X∧w.heap.size<X:=
 ⟨(bJ h.1).1,(bJ h.1).2,(bJ h.2.1).1,(bJ h.2.2.1).1,(bJ h.2.2.1).2,h.2.2.2.1,h.2.2.2.2.1,by have:=h.2.2.2.1;have:=h.2.2.2.2.1;omega⟩
theorem pK {w w1 w2:World} {r:Rw} (dH:Below (w.alloc (.cells (fP 0 0 0 0 0) 74)).heap.size (w.alloc (.cells (fP 0 0 0 0 0) 74)) w1) (iE:Below (w1.alloc (.cells r.cells 206)).heap.size (w1.alloc (.cells r.cells 206)) w2):
  Ds w w1.heap.size w2.heap.size r (Y7 r) (w2.alloc (.cells (Y7 r) 74)):=by
 have s1:=dH.size
 have s2:=iE.size
 simp only [World.size_alloc] at s1 s2
 have b1:Below w.heap.size w w1:=((Below.refl _ _).alloc (Nat.le_refl _) _).trans (dH.mono (by simp))
 have b2:Below w1.heap.size w1 w2:=((Below.refl _ _).alloc (Nat.le_refl _) _).trans (iE.mono (by simp))
 refine⟨?_, ?_,heap_alloc_new _ _,by omega,by omega,(chain b1 b2).alloc (by omega) _⟩
 ·rw [Below.heap_alloc _ _ _ (by omega),b2.block _ (by omega),dH.block _ (by simp)]
  exact heap_alloc_new _ _
 ·rw [Below.heap_alloc _ _ _ (by omega),iE.block _ (by simp)]
  exact heap_alloc_new _ _
theorem wM {w1 w2:World} {r:Rw} (iE:Below (w1.alloc (.cells r.cells 206)).heap.size (w1.alloc (.cells r.cells 206)) w2):
  (∀i,w2.cell? ⟨w1.heap.size,i,none⟩=(#[.int .i64 r.op, .int .i64 r.sh, .int .i64 r.lo, .int .i64 r.fi]:Array Value)[i]?)∧w1.heap.size<w2.heap.size:=by
 have s2:=iE.size
 simp only [World.size_alloc] at s2
 refine⟨(bJ (t:=206) (cs:=r.cells) ?_).1,by omega⟩
 rw [iE.block _ (by simp)]
 exact heap_alloc_new _ _
theorem Xv {w w1 w2:World} {r:Rw} (dH:Below (w.alloc (.cells (fP 0 0 0 0 0) 74)).heap.size (w.alloc (.cells (fP 0 0 0 0 0) 74)) w1) (iE:Below (w1.alloc (.cells r.cells 206)).heap.size (w1.alloc (.cells r.cells 206)) w2):
  (∀i,w2.cell? ⟨w.heap.size,i,none⟩=(#[.int .i64 0, .int .i64 0, .int .i64 0, .int .i64 0, .int .u32 0]:Array Value)[i]?)∧(∀i,w2.frozen? ⟨w.heap.size,i,none⟩=false)∧
   w2.heap[w.heap.size]?=some (.cells (fP 0 0 0 0 0) 74 (0,0))∧Below w.heap.size w w2:=by
 have s1:=dH.size
 have s2:=iE.size
 simp only [World.size_alloc] at s1 s2
 have b1:Below w.heap.size w w1:=((Below.refl _ _).alloc (Nat.le_refl _) _).trans (dH.mono (by simp))
 have b2:Below w1.heap.size w1 w2:=((Below.refl _ _).alloc (Nat.le_refl _) _).trans (iE.mono (by simp))
 have h:w2.heap[w.heap.size]?=some (.cells (fP 0 0 0 0 0) 74 (0,0)):=by
  rw [b2.block _ (by omega),dH.block _ (by simp)]
  exact heap_alloc_new _ _
 exact⟨(bJ h).1,(bJ h).2,h,chain b1 b2⟩
theorem abl {W:World} {g:Nat} {a0 a1 a2 a3 a4:Value} {t:TypeId} (h:W.heap[g]?=some (.cells #[a0,a1,a2,a3,a4] t (0,0))) (x0 x1 x2 x3 x4:Value):
  (((((W.setCell ⟨g,0,none⟩ x0).setCell ⟨g,1,none⟩ x1).setCell ⟨g,2,none⟩ x2).setCell ⟨g,3,none⟩ x3).setCell ⟨g,4,none⟩ x4).heap[g]?=some (.cells #[x0,x1,x2,x3,x4] t (0,0)):=by
 have h0:(W.setCell ⟨g,0,none⟩ x0).heap[g]?=some (.cells #[x0,a1,a2,a3,a4] t (0,0)):=heap_setCell_same _ g 0 _ t x0 h
 generalize W.setCell ⟨g,0,none⟩ x0=W0 at h0⊢
 have h1:(W0.setCell ⟨g,1,none⟩ x1).heap[g]?=some (.cells #[x0,x1,a2,a3,a4] t (0,0)):=heap_setCell_same _ g 1 _ t x1 h0
 generalize W0.setCell ⟨g,1,none⟩ x1=W1 at h1⊢
 have h2:(W1.setCell ⟨g,2,none⟩ x2).heap[g]?=some (.cells #[x0,x1,x2,a3,a4] t (0,0)):=heap_setCell_same _ g 2 _ t x2 h1
 generalize W1.setCell ⟨g,2,none⟩ x2=W2 at h2⊢
 have h3:(W2.setCell ⟨g,3,none⟩ x3).heap[g]?=some (.cells #[x0,x1,x2,x3,a4] t (0,0)):=heap_setCell_same _ g 3 _ t x3 h2
 generalize W2.setCell ⟨g,3,none⟩ x3=W3 at h3⊢
 exact heap_setCell_same _ g 4 _ t x4 h3
theorem Xw {W:World} {tmps:Array Value} {T:Nat} {o d s f m z e:Int} (hT:W.heap[T]?=some (.cells (fP o d s f m) 74 (0,0))) (h4:tmps.getD 2 undef= .pointer (some ⟨T,0,none⟩)) (h5:tmps.getD 3 undef= .int .i64 z) (h6:tmps.getD 4 undef= .int .i64 e):
  (results Tryz.f84 tmps).run Tryz.prog W= .ok (.tuple #[fE o d s f m, .int .i64 z, .int .i64 e]) W:=by
 have kT:=(bJ hT).1
 simp only [Array.getD_eq_getD_getElem?] at h4 h5 h6
 simp [results,Tryz.results84,h4,h5,h6,go_sem,kT,fP,fE]
theorem zh {w W:World} {a:Act} {v:Value} {o d s f m z e:Int} (hT:W.heap[w.heap.size]?=some (.cells (fP 0 0 0 0 0) 74 (0,0))) (hB:Below w.heap.size w W) (hv:v= .tuple #[fE o d s f m, .int .i64 z, .int .i64 e])
  (h4:a.tmps.getD 2 undef= .pointer (some ⟨w.heap.size,0,none⟩)) (h5:a.tmps.getD 3 undef= .int .i64 z) (h6:a.tmps.getD 4 undef= .int .i64 e) (hd:a.defers= []):
  bodyPost Tryz.prog Tryz.f84 (fun e w'=>e= .returned v∧Below w.heap.size w w') .ret a
   (((((W.setCell ⟨w.heap.size,0,none⟩ (.int .i64 o)).setCell ⟨w.heap.size,1,none⟩ (.int .i64 d)).setCell ⟨w.heap.size,2,none⟩ (.int .i64 s)).setCell ⟨w.heap.size,3,none⟩ (.int .i64 f)).setCell ⟨w.heap.size,4,none⟩ (.int .u32 m)):=by
 subst hv
 exact bodyPost_ret (Xw (abl hT _ _ _ _ _) h4 h5 h6) hd ⟨rfl,((((hB.setCell (Nat.le_refl _) _).setCell (Nat.le_refl _) _).setCell (Nat.le_refl _) _).setCell (Nat.le_refl _) _).setCell (Nat.le_refl _) _⟩
theorem SN (op sh lo fi:Int) (h1:1≤sh) (Jk:sh≤12) (us:List Int) (g off o' n cap z:Nat) (o d s f' m:Int) (w:World) (hg:g<w.heap.size) (hz:shSize sh=(z:Int)) (WV:1≤z) (hzn:z≤n) (Iu:n≤cap) (hw:∀j,0≤us.getD j 0∧us.getD j 0<256)
  (hc:∀j,j<n→w.cell? ⟨g,off+j,none⟩=some (.int .u8 (us.getD j 0))) (ho:1<z→o'=off+1) (bb:Bool) (qQ:(decide (oD sh d (fun j=>us.getD (j+1) 0) <8)&&decide (oS sh s (fun j=>us.getD (j+1) 0) <8))=bb) (f X:Nat) (W:World) (h:Ds w f X ⟨op,sh,lo,fi⟩ (fP o d s f' m) W):
  Calls Tryz.prog 115 #[.pointer (some ⟨X,0,none⟩), .int .i64 sh, .slice (some ⟨g,o',none⟩) (z-1) (cap-1)] W fun e W'=>
   e= .returned (.bool bb)∧
   Ds w f X ⟨op,sh,lo,fi⟩ (fP o (oD sh d (fun j=>us.getD (j+1) 0)) (oS sh s (fun j=>us.getD (j+1) 0)) (oF sh f' (fun j=>us.getD (j+1) 0)) (oM sh m (fun j=>us.getD (j+1) 0))) W':=by
 have l1:=h.2.2.2.1
 have l2:=h.2.2.2.2.1
 refine(Np sh h1 Jk X g o' (z-1) (cap-1) o d s f' m _ W h.2.2.1 (by omega) (by rw [hz];omega) (by omega) (fun j=>hw (j+1)) (fun j hj=> ?_)).mono ?_
 ·rw [h.2.2.2.2.2.cell (p:=⟨g,o'+j,none⟩) hg,ho (by omega),show off+1+j=off+(j+1) by omega]
  exact hc (j+1) (by omega)
 ·rintro e W' ⟨rfl,k⟩
  rw [qQ]
  exact⟨rfl,h.opd k⟩
theorem zk {op sh lo fi d s f:Int} {a:Nat→Int} (h:(decide (oD sh d a<8)&&decide (oS sh s a<8))=true):fin ⟨op,sh,lo,fi⟩ d s f a= .tuple #[fE op (oD sh d a) (oS sh s a) (oF sh f a) (oM sh 0 a), .int .i64 (shSize sh), .int .i64 0]:=by
 unfold fin
 rw [if_pos (by simpa using h)]
theorem zq {op sh lo fi d s f:Int} {a:Nat→Int} (h:(decide (oD sh d a<8)&&decide (oS sh s a<8))=false):fin ⟨op,sh,lo,fi⟩ d s f a=qU 3:=by
 unfold fin
 rw [if_neg]
 intro ⟨k1,k2⟩
 simp [k1,k2] at h
theorem tail_at (g off cap:Nat):∃o':Nat,(if cap=1 then some (⟨g,off,none⟩:Addr) else some ⟨g,off+1,none⟩)=some ⟨g,o',none⟩∧(1<cap→o'=off+1):=by
 by_cases h:cap=1
 ·exact⟨off,by rw [if_pos h],fun k=>by omega⟩
 ·exact⟨off+1,by rw [if_neg h],fun _=>rfl⟩
theorem Ef (sh:Int) (h0:0≤sh) (h1:sh≤12) (h:shSize sh≠0):1≤shSize sh:=by
 have hk:sh=0∨sh=1∨sh=2∨sh=3∨sh=4∨sh=5∨sh=6∨sh=7∨sh=8∨sh=9∨sh=10∨sh=11∨sh=12:=by omega
 rcases hk with rfl | rfl | rfl | rfl | rfl | rfl | rfl | rfl | rfl | rfl | rfl | rfl | rfl
 all_goals first | exact absurd rfl h | decide
theorem Xx (sh:Int) (h0:0≤sh) (h:shSize sh≠0):1≤sh:=by
 by_cases hk:sh=0
 ·subst hk;exact absurd rfl h
 ·omega
theorem SQ (us:List Int) (g off n cap:Nat) (w:World) (hn:us.length=n) (h0:0<n) (Iu:n≤cap) (hg:g<w.heap.size) (hm:cap≤maxLen) (hw:∀j,0≤us.getD j 0∧us.getD j 0<256)
  (hc:∀j,j<n→w.cell? ⟨g,off+j,none⟩=some (.int .u8 (us.getD j 0))) (fi:Int) (Y8:(rowOf (us.getD 0 0)).fi=fi) (hk:fi=0∨fi=1∨fi=2∨fi=3)
  (vH:shSize (rowOf (us.getD 0 0)).sh≠0) (jW:shSize (rowOf (us.getD 0 0)).sh≤(n:Int)):
  Calls Tryz.prog 84 #[.slice (some ⟨g,off,none⟩) n cap] w fun e w'=>e= .returned (fin (rowOf (us.getD 0 0)) (if fi=1 then(rowOf (us.getD 0 0)).lo else 0) (if fi=2 then(rowOf (us.getD 0 0)).lo else 0) (if fi=3 then(rowOf (us.getD 0 0)).lo else 0) (fun j=>us.getD (j+1) 0))∧Below w.heap.size w w':=by
 have hr:=qR (us.getD 0 0) (hw 0).1 (hw 0).2
 have iT:=yZ (us.getD 0 0) (hw 0).1 (hw 0).2
 have c0:=hc 0 h0
 rw [Nat.add_zero] at c0
 generalize us.getD 0 0=b0 at Y8 vH jW hr iT c0⊢
 generalize rowOf b0=r at Y8 vH jW hr iT⊢
 obtain⟨op,sh,lo,fi'⟩:=r
 dsimp only at Y8 vH jW hr iT⊢
 subst Y8
 obtain⟨r1,r2,r3,r4,r5,r6,r7,r8⟩:=hr
 have Jp:=vH
 have jS:=κ (wK sh r3 r4)
 have afj:1≤shSize sh:=Ef sh r3 r4 vH
 have hz:¬ (n:Int)=0:=by omega
 have BX:¬n=0:=by omega
 have WV:(0:Int) <(n:Int):=by omega
 obtain⟨z,hz⟩:=Int.eq_ofNat_of_zero_le (show 0≤shSize sh by omega)
 rw [hz] at jS afj vH jW
 have q1:¬ (n:Int) <(z:Int):=by omega
 have q2:¬ (z:Int)=0:=by omega
 have q3:(z:Int)≤(cap:Int):=by omega
 obtain⟨o',hi,ho⟩:=tail_at g off cap
 have HO:=κ (fun d s f m=>SN op sh lo fi' (Xx sh r3 Jp) r4 us g off o' n cap z op d s f m w hg hz (by omega) (by omega) Iu hw hc (fun h=>ho (by omega)))
 clear hw hc
 rcases hk with rfl | rfl | rfl | rfl
 ·have Xy:=κ (show∀ (X:Nat) (w:World),Calls Tryz.prog 114 #[.agg #[.int .i64 op, .int .i64 sh, .int .i64 lo, .int .i64 0], .pointer (some ⟨X,0,none⟩)] w fun e w'=>e= .returned (.pointer none)∧Below w.heap.size w w' from fun X w=>qo X op sh lo 0 (by omega) (by omega) w)
  obtain⟨bb,qQ⟩:∃bb,(decide (oD sh 0 (fun j=>us.getD (j+1) 0) <8)&&decide (oS sh 0 (fun j=>us.getD (j+1) 0) <8))=bb:=⟨_,rfl⟩
  have HP:=κ (HO.out 0 0 0 0 bb qQ)
  obtain⟨V,hV⟩:∃V,fin ⟨op,sh,lo,0⟩ 0 0 0 (fun j=>us.getD (j+1) 0)=V:=⟨_,rfl⟩
  have HV:=κ hV
  have HB:=κ qQ
  rw [show(fin ⟨op,sh,lo,0⟩ (if(0:Int)=1 then lo else 0) (if(0:Int)=2 then lo else 0) (if(0:Int)=3 then lo else 0) (fun j=>us.getD (j+1) 0))=V from hV]
  clear hV qQ
  go_enter Tryz.func84,Tryz.ntmps84
  go_wp2_with (first
   | (go_at_call 112;refine(iT _).mono ?_;rintro e w1 ⟨rfl,dH⟩)
   | (go_at_call 113;refine(jS.out _).mono ?_;rintro e w2 ⟨rfl,iE⟩;obtain⟨kf,lf⟩:=wM (r:=⟨op,sh,lo,0⟩) iE;have D:=κ (pK (r:=⟨op,sh,lo,0⟩) dH iE))
   | (go_at_call 114;refine(Xy.out _ _).mono ?_;rintro e w3 ⟨rfl,um⟩;have D3:=D.out.below um;obtain⟨k1,k2,k3,k4,k5,k6,k7,k8⟩:=D3.facts;simp only [Y7,fP] at k4))
  have D4:=D3
  go_region_with (go_at_call 115;have HC:=HP.out _ _ _ D4.drew;refine HC.mono ?_;rintro e W5 ⟨rfl,D5⟩)
  obtain⟨j1,j2,j3,j4,j5,j6,j7,j8⟩:=D5.facts
  simp only [fP] at j4
  clear k1 k2 k3 k4 k5 k6 k7 k8
  have zx:=κ D5
  clear D5 D4 D3
  cases bb
  ·go_wp2
   exact zh zx.out.1 zx.out.2.2.2.2.2 (HV.out.symm.trans (zq HB.out)) rfl rfl rfl rfl
  ·go_wp2
   exact zh zx.out.1 zx.out.2.2.2.2.2 (HV.out.symm.trans ((zk HB.out).trans (by rw [hz];simp only [List.getD_eq_getElem?_getD]))) rfl rfl rfl rfl
 ·have Xy:=κ (show∀ (X:Nat) (w:World),Calls Tryz.prog 114 #[.agg #[.int .i64 op, .int .i64 sh, .int .i64 lo, .int .i64 1], .pointer (some ⟨X,0,none⟩)] w fun e w'=>e= .returned (.pointer (some ⟨X,1,none⟩))∧Below w.heap.size w w' from fun X w=>qo X op sh lo 1 (by omega) (by omega) w)
  obtain⟨bb,qQ⟩:∃bb,(decide (oD sh lo (fun j=>us.getD (j+1) 0) <8)&&decide (oS sh 0 (fun j=>us.getD (j+1) 0) <8))=bb:=⟨_,rfl⟩
  have HP:=κ (HO.out lo 0 0 0 bb qQ)
  obtain⟨V,hV⟩:∃V,fin ⟨op,sh,lo,1⟩ lo 0 0 (fun j=>us.getD (j+1) 0)=V:=⟨_,rfl⟩
  have HV:=κ hV
  have HB:=κ qQ
  rw [show(fin ⟨op,sh,lo,1⟩ (if(1:Int)=1 then lo else 0) (if(1:Int)=2 then lo else 0) (if(1:Int)=3 then lo else 0) (fun j=>us.getD (j+1) 0))=V from hV]
  clear hV qQ
  go_enter Tryz.func84,Tryz.ntmps84
  go_wp2_with (first
   | (go_at_call 112;refine(iT _).mono ?_;rintro e w1 ⟨rfl,dH⟩)
   | (go_at_call 113;refine(jS.out _).mono ?_;rintro e w2 ⟨rfl,iE⟩;obtain⟨kf,lf⟩:=wM (r:=⟨op,sh,lo,1⟩) iE;have D:=κ (pK (r:=⟨op,sh,lo,1⟩) dH iE))
   | (go_at_call 114;refine(Xy.out _ _).mono ?_;rintro e w3 ⟨rfl,um⟩;have D3:=D.out.below um;obtain⟨k1,k2,k3,k4,k5,k6,k7,k8⟩:=D3.facts;simp only [Y7,fP] at k4))
  have D4:=D3.set 1 (.int .i64 lo)
  go_region_with (go_at_call 115;have HC:=HP.out _ _ _ D4.drew;refine HC.mono ?_;rintro e W5 ⟨rfl,D5⟩)
  obtain⟨j1,j2,j3,j4,j5,j6,j7,j8⟩:=D5.facts
  simp only [fP] at j4
  clear k1 k2 k3 k4 k5 k6 k7 k8
  have zx:=κ D5
  clear D5 D4 D3
  cases bb
  ·go_wp2
   exact zh zx.out.1 zx.out.2.2.2.2.2 (HV.out.symm.trans (zq HB.out)) rfl rfl rfl rfl
  ·go_wp2
   exact zh zx.out.1 zx.out.2.2.2.2.2 (HV.out.symm.trans ((zk HB.out).trans (by rw [hz];simp only [List.getD_eq_getElem?_getD]))) rfl rfl rfl rfl
 ·have Xy:=κ (show∀ (X:Nat) (w:World),Calls Tryz.prog 114 #[.agg #[.int .i64 op, .int .i64 sh, .int .i64 lo, .int .i64 2], .pointer (some ⟨X,0,none⟩)] w fun e w'=>e= .returned (.pointer (some ⟨X,2,none⟩))∧Below w.heap.size w w' from fun X w=>qo X op sh lo 2 (by omega) (by omega) w)
  obtain⟨bb,qQ⟩:∃bb,(decide (oD sh 0 (fun j=>us.getD (j+1) 0) <8)&&decide (oS sh lo (fun j=>us.getD (j+1) 0) <8))=bb:=⟨_,rfl⟩
  have HP:=κ (HO.out 0 lo 0 0 bb qQ)
  obtain⟨V,hV⟩:∃V,fin ⟨op,sh,lo,2⟩ 0 lo 0 (fun j=>us.getD (j+1) 0)=V:=⟨_,rfl⟩
  have HV:=κ hV
  have HB:=κ qQ
  rw [show(fin ⟨op,sh,lo,2⟩ (if(2:Int)=1 then lo else 0) (if(2:Int)=2 then lo else 0) (if(2:Int)=3 then lo else 0) (fun j=>us.getD (j+1) 0))=V from hV]
  clear hV qQ
  go_enter Tryz.func84,Tryz.ntmps84
  go_wp2_with (first
   | (go_at_call 112;refine(iT _).mono ?_;rintro e w1 ⟨rfl,dH⟩)
   | (go_at_call 113;refine(jS.out _).mono ?_;rintro e w2 ⟨rfl,iE⟩;obtain⟨kf,lf⟩:=wM (r:=⟨op,sh,lo,2⟩) iE;have D:=κ (pK (r:=⟨op,sh,lo,2⟩) dH iE))
   | (go_at_call 114;refine(Xy.out _ _).mono ?_;rintro e w3 ⟨rfl,um⟩;have D3:=D.out.below um;obtain⟨k1,k2,k3,k4,k5,k6,k7,k8⟩:=D3.facts;simp only [Y7,fP] at k4))
  have D4:=D3.set 2 (.int .i64 lo)
  go_region_with (go_at_call 115;have HC:=HP.out _ _ _ D4.drew;refine HC.mono ?_;rintro e W5 ⟨rfl,D5⟩)
  obtain⟨j1,j2,j3,j4,j5,j6,j7,j8⟩:=D5.facts
  simp only [fP] at j4
  clear k1 k2 k3 k4 k5 k6 k7 k8
  have zx:=κ D5
  clear D5 D4 D3
  cases bb
  ·go_wp2
   exact zh zx.out.1 zx.out.2.2.2.2.2 (HV.out.symm.trans (zq HB.out)) rfl rfl rfl rfl
  ·go_wp2
   exact zh zx.out.1 zx.out.2.2.2.2.2 (HV.out.symm.trans ((zk HB.out).trans (by rw [hz];simp only [List.getD_eq_getElem?_getD]))) rfl rfl rfl rfl
 ·have Xy:=κ (show∀ (X:Nat) (w:World),Calls Tryz.prog 114 #[.agg #[.int .i64 op, .int .i64 sh, .int .i64 lo, .int .i64 3], .pointer (some ⟨X,0,none⟩)] w fun e w'=>e= .returned (.pointer (some ⟨X,3,none⟩))∧Below w.heap.size w w' from fun X w=>qo X op sh lo 3 (by omega) (by omega) w)
  obtain⟨bb,qQ⟩:∃bb,(decide (oD sh 0 (fun j=>us.getD (j+1) 0) <8)&&decide (oS sh 0 (fun j=>us.getD (j+1) 0) <8))=bb:=⟨_,rfl⟩
  have HP:=κ (HO.out 0 0 lo 0 bb qQ)
  obtain⟨V,hV⟩:∃V,fin ⟨op,sh,lo,3⟩ 0 0 lo (fun j=>us.getD (j+1) 0)=V:=⟨_,rfl⟩
  have HV:=κ hV
  have HB:=κ qQ
  rw [show(fin ⟨op,sh,lo,3⟩ (if(3:Int)=1 then lo else 0) (if(3:Int)=2 then lo else 0) (if(3:Int)=3 then lo else 0) (fun j=>us.getD (j+1) 0))=V from hV]
  clear hV qQ
  go_enter Tryz.func84,Tryz.ntmps84
  go_wp2_with (first
   | (go_at_call 112;refine(iT _).mono ?_;rintro e w1 ⟨rfl,dH⟩)
   | (go_at_call 113;refine(jS.out _).mono ?_;rintro e w2 ⟨rfl,iE⟩;obtain⟨kf,lf⟩:=wM (r:=⟨op,sh,lo,3⟩) iE;have D:=κ (pK (r:=⟨op,sh,lo,3⟩) dH iE))
   | (go_at_call 114;refine(Xy.out _ _).mono ?_;rintro e w3 ⟨rfl,um⟩;have D3:=D.out.below um;obtain⟨k1,k2,k3,k4,k5,k6,k7,k8⟩:=D3.facts;simp only [Y7,fP] at k4))
  have D4:=D3.set 3 (.int .i64 lo)
  go_region_with (go_at_call 115;have HC:=HP.out _ _ _ D4.drew;refine HC.mono ?_;rintro e W5 ⟨rfl,D5⟩)
  obtain⟨j1,j2,j3,j4,j5,j6,j7,j8⟩:=D5.facts
  simp only [fP] at j4
  clear k1 k2 k3 k4 k5 k6 k7 k8
  have zx:=κ D5
  clear D5 D4 D3
  cases bb
  ·go_wp2
   exact zh zx.out.1 zx.out.2.2.2.2.2 (HV.out.symm.trans (zq HB.out)) rfl rfl rfl rfl
  ·go_wp2
   exact zh zx.out.1 zx.out.2.2.2.2.2 (HV.out.symm.trans ((zk HB.out).trans (by rw [hz];simp only [List.getD_eq_getElem?_getD]))) rfl rfl rfl rfl
theorem Bc (us:List Int) (g off n cap:Nat) (w:World) (hg:g<w.heap.size) (h0:0<n) (hw:∀j,0≤us.getD j 0∧us.getD j 0<256)
  (hc:∀j,j<n→w.cell? ⟨g,off+j,none⟩=some (.int .u8 (us.getD j 0))) (z:Int) (hz:z=1∨z=2)
  (hs:(z=2∧shSize (rowOf (us.getD 0 0)).sh=0)∨(z=1∧shSize (rowOf (us.getD 0 0)).sh≠0∧(n:Int) <shSize (rowOf (us.getD 0 0)).sh)):
  Calls Tryz.prog 84 #[.slice (some ⟨g,off,none⟩) n cap] w fun e w'=>e= .returned (qU z)∧Below w.heap.size w w':=by
 have hr:=qR (us.getD 0 0) (hw 0).1 (hw 0).2
 have iT:=yZ (us.getD 0 0) (hw 0).1 (hw 0).2
 have c0:=hc 0 h0
 rw [Nat.add_zero] at c0
 generalize us.getD 0 0=b0 at hs hr iT c0⊢
 generalize rowOf b0=r at hs hr iT⊢
 obtain⟨op,sh,lo,fi⟩:=r
 dsimp only at hs hr iT⊢
 obtain⟨r1,r2,r3,r4,r5,r6,r7,r8⟩:=hr
 have jS:=κ (wK sh r3 r4)
 have WV:(0:Int) <(n:Int):=by omega
 have BX:¬n=0:=by omega
 have hz2:¬ (n:Int)=0:=by omega
 generalize shSize sh=sz at hs jS
 clear hw hc hz
 rcases hs with⟨rfl,rfl⟩ | ⟨rfl,vH,jW⟩
 all_goals go_enter Tryz.func84,Tryz.ntmps84
 all_goals go_wp2_with (first
   | (go_at_call 112;refine(iT _).mono ?_;rintro e w1 ⟨rfl,dH⟩)
   | (go_at_call 113;refine(jS.out _).mono ?_;rintro e w2 ⟨rfl,iE⟩;obtain⟨kf,lf⟩:=wM (r:=⟨op,sh,lo,fi⟩) iE;have D:=κ (pK (r:=⟨op,sh,lo,fi⟩) dH iE);obtain⟨kR,zR,bR⟩:=Xv (r:=⟨op,sh,lo,fi⟩) dH iE;have BR:=κ bR))
 all_goals exact zh BR.out.1 BR.out.2 rfl rfl rfl rfl rfl
theorem Bf (us:List Int) (ao:Option Addr) (cap:Nat) (w:World) (hs:Bs us ao cap w) (hw:∀j,0≤us.getD j 0∧us.getD j 0<256):
  Calls Tryz.prog 84 #[.slice ao us.length cap] w fun e w'=>e= .returned (gq us)∧Below w.heap.size w w':=by
 obtain⟨l1,m1,k1⟩:=hs
 unfold gq
 by_cases h0:us.length=0
 ·rw [if_pos h0,h0];exact Iw ao cap w
 ·obtain⟨b,off,rfl,hb,hc⟩:=k1 (by omega)
  rw [if_neg h0]
  by_cases h1:shSize (rowOf (us.getD 0 0)).sh=0
  ·rw [if_pos h1];exact Bc us b off us.length cap w hb (by omega) hw hc 2 (.inr rfl) (.inl ⟨rfl,h1⟩)
  ·rw [if_neg h1]
   by_cases h2:(us.length:Int) <shSize (rowOf (us.getD 0 0)).sh
   ·rw [if_pos h2];exact Bc us b off us.length cap w hb (by omega) hw hc 1 (.inl rfl) (.inr ⟨rfl,h1,h2⟩)
   ·rw [if_neg h2]
    have hr:=qR (us.getD 0 0) (hw 0).1 (hw 0).2
    exact SQ us b off us.length cap w rfl (by omega) l1 hb m1 hw hc _ rfl (by omega) h1 (by omega)
end Go.Proofs.YtcjcmnnhmajocabGreat.Gu
