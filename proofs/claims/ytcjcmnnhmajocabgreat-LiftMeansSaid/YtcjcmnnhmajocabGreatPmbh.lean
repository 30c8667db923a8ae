import Derived.StillTailTactics
import Derived.Test.YtcjcmnnhmajocabGreatPmbf
import Derived.Test.YtcjcmnnhmajocabGreatPmbg
set_option linter.unusedVariables false
set_option linter.unusedSimpArgs false
set_option maxRecDepth 100000
set_option maxHeartbeats 16000000
namespace Go.Proofs.YtcjcmnnhmajocabGreat.Gu
open Go.RowKit Kt
structure Rs where
 d:Int
 s:Int
 f:Int
 m:Int
 at_:Nat
def rl (a:Nat→Int) (p:Rs) (c:Int):Rs:=
 if c=98 then⟨p.d,p.s,p.f,a p.at_,p.at_+1⟩
 else if c=115 then⟨p.d,p.s,p.f,xM (a p.at_),p.at_+1⟩
 else if c=119 then⟨p.d,p.s,p.f,four (a p.at_) (a (p.at_+1)) (a (p.at_+2)) (a (p.at_+3)),p.at_+4⟩
 else if c=100 then⟨a p.at_,p.s,p.f,p.m,p.at_+1⟩
 else if c=101 then⟨p.d,a p.at_,p.f,p.m,p.at_+1⟩
 else if c=112 then⟨a p.at_/16,a p.at_%16,p.f,p.m,p.at_+1⟩
 else if c=99 then⟨a p.at_%16,p.s,a p.at_/16,p.m,p.at_+1⟩
 else⟨p.d,p.s,p.f,p.m,p.at_+1⟩
def dI (a:Nat→Int) (l:List UInt8) (p:Rs):Rs:=l.foldl (fun p c=>rl a p (c.toNat:Int)) p
def lH:ByteArray:=⟨#[68]⟩
def lJ:ByteArray:=⟨#[83]⟩
def lK:ByteArray:=⟨#[79]⟩
def Ei:ByteArray:=⟨#[]⟩
def SX (a:Nat→Int) (op lo:Int) (fi:ByteArray) (l:List UInt8):Value:=
 if(dI a l ⟨if fi=lH then lo else 0,if fi=lJ then lo else 0,if fi=lK then lo else 0,0,1⟩).d≤7∧(dI a l ⟨if fi=lH then lo else 0,if fi=lJ then lo else 0,if fi=lK then lo else 0,0,1⟩).s≤7 then
  .tuple #[fE op (dI a l ⟨if fi=lH then lo else 0,if fi=lJ then lo else 0,if fi=lK then lo else 0,0,1⟩).d (dI a l ⟨if fi=lH then lo else 0,if fi=lJ then lo else 0,if fi=lK then lo else 0,0,1⟩).s
   (dI a l ⟨if fi=lH then lo else 0,if fi=lJ then lo else 0,if fi=lK then lo else 0,0,1⟩).f (dI a l ⟨if fi=lH then lo else 0,if fi=lJ then lo else 0,if fi=lK then lo else 0,0,1⟩).m, .int .i64 (1+wsz l), .int .i64 0] else qU 3
theorem pO {w w1:World} {ob:Obj} (hb:Below (w.alloc ob).heap.size (w.alloc ob) w1):Below w.heap.size w w1:=((Below.refl _ _).alloc (Nat.le_refl _) _).trans (hb.mono (by simp))
def Cs (w:World) (F X:Nat) (fr cs:Array Value) (W:World):Prop:=
 W.heap[w.heap.size]?=some (.cells (fP 0 0 0 0 0) 74 (0,0))∧W.heap[F]?=some (.cells fr 180 (0,0))∧W.heap[X]?=some (.cells cs 74 (0,0))∧w.heap.size<F∧F<X∧X<W.heap.size∧Below w.heap.size w W
theorem Cs.opd {w:World} {F X:Nat} {fr cs cs':Array Value} {W W':World} (h:Cs w F X fr cs W) (k:gQ X cs' W W'):Cs w F X fr cs' W':=by
 obtain⟨h1,h2,h3,h4,h5,h6,h7⟩:=h
 exact⟨(k.2.2.1 _ (by omega)).trans h1,(k.2.2.1 _ (by omega)).trans h2,k.1,h4,h5,by rw [k.2.1];exact h6,h7.trans (k.2.2.2 _ (by omega))⟩
theorem Cs.drewN {w:World} {F X:Nat} {fr cs:Array Value} {W:World} (h:Cs w F X fr cs W) (m:Nat):Cs w F X fr cs (W.drewN m):=h.opd (gQ.drewN (gQ.start h.2.2.1) m)
theorem Cs.set {w:World} {F X:Nat} {fr cs:Array Value} {W:World} (h:Cs w F X fr cs W) (j:Nat) (v:Value):Cs w F X fr (cs.setIfInBounds j v) (W.setCell ⟨X,j,none⟩ v):=h.opd (gQ.set (gQ.start h.2.2.1) j v)
theorem Cs.below {w:World} {F X:Nat} {fr cs:Array Value} {W W':World} (h:Cs w F X fr cs W) (k:Below W.heap.size W W'):Cs w F X fr cs W':=by
 obtain⟨h1,h2,h3,h4,h5,h6,h7⟩:=h
 have:=k.size
 exact⟨(k.block _ (by omega)).trans h1,(k.block _ (by omega)).trans h2,(k.block _ (by omega)).trans h3,h4,h5,by omega,h7.trans (k.mono (by omega))⟩
theorem Cs.facts {w:World} {F X:Nat} {fr cs:Array Value} {W:World} (h:Cs w F X fr cs W):
  (∀i,W.cell? ⟨w.heap.size,i,none⟩=(#[.int .i64 0, .int .i64 0, .int .i64 0, .int .i64 0, .int .u32 0]:Array Value)[i]?)∧(∀i,W.frozen? ⟨w.heap.size,i,none⟩=false)∧
  (∀i,W.cell? ⟨F,i,none⟩=fr[i]?)∧(∀i,W.cell? ⟨X,i,none⟩=cs[i]?)∧(∀i,W.frozen? ⟨X,i,none⟩=false)∧w.heap.size<F∧F<X∧X<W.heap.size:=
 ⟨(bJ h.1).1,(bJ h.1).2,(bJ h.2.1).1,(bJ h.2.2.1).1,(bJ h.2.2.1).2,h.2.2.2.1,h.2.2.2.2.1,h.2.2.2.2.2.1⟩
theorem Nr {w w1 w2:World} {fr cs:Array Value} {o1:Obj} (dH:Below (w.alloc (.cells (fP 0 0 0 0 0) 74)).heap.size (w.alloc (.cells (fP 0 0 0 0 0) 74)) w1) (iE:Below w1.heap.size w1 w2):
  Cs w (w2.heap.size+1) (w2.heap.size+1+1) fr cs (((w2.alloc o1).alloc (.cells fr 180)).alloc (.cells cs 74)):=by
 have s1:=dH.size
 have s2:=iE.size
 simp only [World.size_alloc] at s1
 have h3:=heap_alloc_new (w2.alloc o1) (.cells fr 180)
 have h4:=heap_alloc_new ((w2.alloc o1).alloc (.cells fr 180)) (.cells cs 74)
 simp only [World.size_alloc] at h3 h4
 refine⟨?_, ?_,h4,by omega,by omega,by simp, ?_⟩
 ·rw [Below.heap_alloc _ _ _ (by simp;omega),Below.heap_alloc _ _ _ (by simp;omega),Below.heap_alloc _ _ _ (by omega),iE.block _ (by omega),dH.block _ (by simp)]
  exact heap_alloc_new _ _
 ·rw [Below.heap_alloc _ _ _ (by simp)]
  exact h3
 ·exact(((chain (pO dH) iE).alloc (by omega) _).alloc (by simp;omega) _).alloc (by simp;omega) _
theorem Ej (a:Nat→Int) (l:List UInt8) (p:Rs) (q:Nat) (hq:q<l.length):dI a (l.take (q+1)) p=rl a (dI a (l.take q) p) ((l.getD q 0).toNat:Int):=by
 unfold dI
 rw [List.take_succ_eq_append_getElem hq,List.foldl_append,List.getD_eq_getElem?_getD,List.getElem?_eq_getElem hq]
 rfl
theorem abn (a:Nat→Int) (p:Rs) (c:Int):((rl a p c).at_:Int)=(p.at_:Int)+(if c==119 then 4 else 1):=by
 unfold rl
 split
 ·rename_i h;subst h;simp
 split
 ·rename_i h;subst h;simp
 split
 ·rename_i h;subst h;simp
 split
 ·rename_i h;subst h;simp
 split
 ·rename_i h;subst h;simp
 split
 ·rename_i h;subst h;simp
 split
 ·rename_i h;subst h;simp
 ·rename_i h _ _ _ _
  rw [if_neg (by simpa using h)];simp
theorem Ns (a:Nat→Int) (l:List UInt8) (p:Rs):((dI a l p).at_:Int)=p.at_+wsz l:=by
 induction l generalizing p with
 | nil=>simp [dI,wsz]
 | cons c l ih=>
  have:=ih (rl a p (c.toNat:Int))
  unfold dI at this⊢
  rw [List.foldl_cons,this,abn,wsz]
  omega
theorem Nu (l:List UInt8) (q:Nat) (hq:q<l.length):wsz (l.take (q+1))≤wsz l:=by
 induction l generalizing q with
 | nil=>simp at hq
 | cons c l ih=>
  cases q with
  | zero=>
   have:=qp l
   simp [wsz]
   omega
  | succ q=>
   simp only [List.length_cons] at hq
   have:=ih q (by omega)
   rw [List.take_succ_cons,wsz,wsz]
   omega
theorem zA (p n k:Int) (h0:0≤p) (hk:0≤k) (h:p+k<n) (hn:n≤9223372036854775807):IntKind.i64.wrap (p+k)=p+k:=by
 rw [IntKind.wrap_i64];omega
theorem Em (w:World) (j:Nat) (f0 fn:Int) (fi s:ByteArray) (hf:oV[j]?=some ⟨f0,fn,fi,s⟩):
  (w.alloc (.cells lG 180)).cell? ⟨w.heap.size,j*4,none⟩=some (.int .i64 f0)∧(w.alloc (.cells lG 180)).cell? ⟨w.heap.size,j*4+1,none⟩=some (.int .i64 fn)∧
  (w.alloc (.cells lG 180)).cell? ⟨w.heap.size,j*4+2,none⟩=some (.string fi)∧(w.alloc (.cells lG 180)).cell? ⟨w.heap.size,j*4+3,none⟩=some (.string s):=by
 have hB:=heap_alloc_new w (.cells lG 180)
 refine⟨?_, ?_, ?_, ?_⟩
 ·rw [cell_of_row _ _ _ _ _ _ hB];have:=jw j 0 (by omega);rw [hf] at this;exact this
 ·rw [cell_of_row _ _ _ _ _ _ hB,jw j 1 (by omega),hf];rfl
 ·rw [cell_of_row _ _ _ _ _ _ hB,jw j 2 (by omega),hf];rfl
 ·rw [cell_of_row _ _ _ _ _ _ hB,jw j 3 (by omega),hf];rfl
theorem SY {W:World} {tmps:Array Value} {T:Nat} {o d s f m z e:Int} (hT:W.heap[T]?=some (.cells (fP o d s f m) 74 (0,0))) (h4:tmps.getD 2 undef= .pointer (some ⟨T,0,none⟩)) (h5:tmps.getD 3 undef= .int .i64 z) (h6:tmps.getD 4 undef= .int .i64 e):
  (results Tryz.f89 tmps).run Tryz.prog W= .ok (.tuple #[fE o d s f m, .int .i64 z, .int .i64 e]) W:=by
 have kT:=(bJ hT).1
 simp only [Array.getD_eq_getD_getElem?] at h4 h5 h6
 simp [results,Tryz.results89,h4,h5,h6,go_sem,kT,fP,fE]
theorem FV {w W:World} {a:Act} {v:Value} {o d s f m z e:Int} (hT:W.heap[w.heap.size]?=some (.cells (fP 0 0 0 0 0) 74 (0,0))) (hB:Below w.heap.size w W) (hv:v= .tuple #[fE o d s f m, .int .i64 z, .int .i64 e])
  (h4:a.tmps.getD 2 undef= .pointer (some ⟨w.heap.size,0,none⟩)) (h5:a.tmps.getD 3 undef= .int .i64 z) (h6:a.tmps.getD 4 undef= .int .i64 e) (hd:a.defers= []):
  bodyPost Tryz.prog Tryz.f89 (fun e w'=>e= .returned v∧Below w.heap.size w w') .ret a
   (((((W.setCell ⟨w.heap.size,0,none⟩ (.int .i64 o)).setCell ⟨w.heap.size,1,none⟩ (.int .i64 d)).setCell ⟨w.heap.size,2,none⟩ (.int .i64 s)).setCell ⟨w.heap.size,3,none⟩ (.int .i64 f)).setCell ⟨w.heap.size,4,none⟩ (.int .u32 m)):=by
 subst hv
 exact bodyPost_ret (SY (abl hT _ _ _ _ _) h4 h5 h6) hd ⟨rfl,((((hB.setCell (Nat.le_refl _) _).setCell (Nat.le_refl _) _).setCell (Nat.le_refl _) _).setCell (Nat.le_refl _) _).setCell (Nat.le_refl _) _⟩
theorem Iy (ao:Option Addr) (cap:Nat) (w:World):Calls Tryz.prog 89 #[.slice ao 0 cap] w fun e w'=>e= .returned (qU 1)∧Below w.heap.size w w':=by
 go_enter Tryz.func89,Tryz.ntmps89
 go_wp2
 refine bodyPost_ret (v:=qU 1) (by simp [results,Tryz.results89,go_sem,qU,fE]) rfl ⟨rfl, ?_⟩
 exact(Below.refl _ _).alloc (Nat.le_refl _) _
theorem Nv {w w1:World} (dH:Below (w.alloc (.cells (fP 0 0 0 0 0) 74)).heap.size (w.alloc (.cells (fP 0 0 0 0 0) 74)) w1):
  (∀i,w1.cell? ⟨w.heap.size,i,none⟩=(#[.int .i64 0, .int .i64 0, .int .i64 0, .int .i64 0, .int .u32 0]:Array Value)[i]?)∧(∀i,w1.frozen? ⟨w.heap.size,i,none⟩=false)∧
   w1.heap[w.heap.size]?=some (.cells (fP 0 0 0 0 0) 74 (0,0))∧Below w.heap.size w w1:=by
 have h:w1.heap[w.heap.size]?=some (.cells (fP 0 0 0 0 0) 74 (0,0)):=by
  rw [dH.block _ (by simp)]
  exact heap_alloc_new _ _
 exact⟨(bJ h).1,(bJ h).2,h,pO dH⟩
theorem Nw {w w1 w2:World} (h:w1.heap[w.heap.size]?=some (.cells (fP 0 0 0 0 0) 74 (0,0))) (hb:Below w.heap.size w w1) (iE:Below w1.heap.size w1 w2):
  (∀i,w2.cell? ⟨w.heap.size,i,none⟩=(#[.int .i64 0, .int .i64 0, .int .i64 0, .int .i64 0, .int .u32 0]:Array Value)[i]?)∧(∀i,w2.frozen? ⟨w.heap.size,i,none⟩=false)∧
   w2.heap[w.heap.size]?=some (.cells (fP 0 0 0 0 0) 74 (0,0))∧Below w.heap.size w w2:=by
 have h2:=(iE.block _ (Array.getElem?_eq_some_iff.1 h).1).trans h
 exact⟨(bJ h2).1,(bJ h2).2,h2,chain hb iE⟩
theorem Bh (us:List Int) (g off n cap:Nat) (w:World) (hg:g<w.heap.size) (h0:0<n) (hw:∀j,0≤us.getD j 0∧us.getD j 0<256)
  (hc:∀j,j<n→w.cell? ⟨g,off+j,none⟩=some (.int .u8 (us.getD j 0))) (z:Int)
  (hs:(z=2∧fndFrom (us.getD 0 0) oV 0= -1)∨(z=1∧0≤fndFrom (us.getD 0 0) oV 0∧(n:Int) <SV (us.getD 0 0))):
  Calls Tryz.prog 89 #[.slice (some ⟨g,off,none⟩) n cap] w fun e w'=>e= .returned (qU z)∧Below w.heap.size w w':=by
 have c0:=hc 0 h0
 rw [Nat.add_zero] at c0
 have uH:=hw 0
 have HF:=κ (sF (us.getD 0 0))
 have HS:=κ (tN (us.getD 0 0))
 generalize us.getD 0 0=b0 at hs c0 uH HF HS⊢
 obtain⟨v0,u0⟩:=uH
 have WV:(0:Int) <(n:Int):=by omega
 have BX:¬n=0:=by omega
 have hz2:¬ (n:Int)=0:=by omega
 generalize fndFrom b0 oV 0=fd at hs HF
 generalize SV b0=sz at hs HS
 clear hw hc
 rcases hs with⟨rfl,rfl⟩ | ⟨rfl,vH,jW⟩
 ·go_enter Tryz.func89,Tryz.ntmps89
  go_wp2_with (go_at_call 137;refine(HF.out _).mono ?_;rintro e w1 ⟨rfl,dH⟩;obtain⟨k1,k2,k3,k4⟩:=Nv dH;have K:=κ (And.intro k3 k4))
  exact FV K.out.1 K.out.2 rfl rfl rfl rfl rfl
 ·have hs3:¬fd<0:=by omega
  go_enter Tryz.func89,Tryz.ntmps89
  go_wp2_with (first
   | (go_at_call 137;refine(HF.out _).mono ?_;rintro e w1 ⟨rfl,dH⟩;obtain⟨k1,k2,k3,k4⟩:=Nv dH;have c1:=(k4.cell (p:=⟨g,off,none⟩) hg).trans c0;have K:=κ (And.intro k3 k4);clear k1 k2 k3 k4)
   | (go_at_call 88;refine(HS.out _).mono ?_;rintro e w2 ⟨rfl,iE⟩;obtain⟨k1,k2,k3,k4⟩:=Nw K.out.1 K.out.2 iE;have K2:=κ (And.intro k3 k4)))
  exact FV K2.out.1 K2.out.2 rfl rfl rfl rfl rfl
theorem S9 (us:List Int) (g off n cap:Nat) (w:World) (hn:us.length=n) (h0:0<n) (Iu:n≤cap) (hg:g<w.heap.size) (hm:cap≤maxLen) (hw:∀j,0≤us.getD j 0∧us.getD j 0<256)
  (hc:∀j,j<n→w.cell? ⟨g,off+j,none⟩=some (.int .u8 (us.getD j 0))) (j:Nat) (f0 fn:Int) (fi s:ByteArray) (hj:j<32) (hf:oV[j]?=some ⟨f0,fn,fi,s⟩) (hx:fndFrom (us.getD 0 0) oV 0=(j:Int))
  (Y8:fi=Ei∨fi=lH∨fi=lJ∨fi=lK) (hz:1+wsz s.data.toList≤(n:Int)):
  Calls Tryz.prog 89 #[.slice (some ⟨g,off,none⟩) n cap] w fun e w'=>e= .returned (SX (fun j=>us.getD j 0) (j:Int) (us.getD 0 0-f0) fi s.data.toList)∧Below w.heap.size w w':=by
 have jW:s.size≤2:=FU _ (List.mem_of_getElem? hf)
 have hlen:s.data.toList.length=s.size:=by simp
 have c0:=hc 0 h0
 rw [Nat.add_zero] at c0
 have HF:=κ (sF (us.getD 0 0))
 have HS:=κ (wO (us.getD 0 0) j f0 fn fi s hj hf hx)
 rw [hx] at HF
 have uH:=hw 0
 obtain⟨b0,hB0⟩:∃b0,us.getD 0 0=b0:=⟨_,rfl⟩
 rw [hB0] at HF HS c0 uH
 obtain⟨v0,u0⟩:=uH
 have hfo:=Nq _ (List.mem_of_getElem? hf)
 obtain⟨fo1,fo2,_,_⟩:=hfo
 dsimp only at fo1 fo2
 obtain⟨lo,hlo⟩:∃lo,us.getD 0 0-f0=lo:=⟨_,rfl⟩
 rw [hlo]
 rw [hB0] at hlo
 have hwl:wrap64 (b0-f0)=lo:=by rw [IntWalk.wrap64_in _ (by omega)];exact hlo
 obtain⟨xd,xs,xf,GI⟩:∃xd xs xf:Int,(if fi=lH then lo else 0)=xd∧(if fi=lJ then lo else 0)=xs∧(if fi=lK then lo else 0)=xf:=⟨_,_,_,rfl,rfl,rfl⟩
 obtain⟨V,hV⟩:∃V,SX (fun j=>us.getD j 0) (j:Int) lo fi s.data.toList=V:=⟨_,rfl⟩
 rw [hV]
 unfold SX at hV
 rw [GI.1,GI.2.1,GI.2.2] at hV
 have HXX:=κ GI
 clear GI
 have HV:=κ hV
 clear hV
 generalize hL:s.data.toList=l at hlen HS HV hz⊢
 have HL:=κ hL
 have HW:=κ (And.intro hw hc)
 have H2:=κ hf
 have hr:=qp l
 have kc:∀w:World,(convert 9 34 (.string s)).run Tryz.prog w= .ok (.slice (some ⟨w.heap.size,0,none⟩) s.size (grownCap w s.size 0 5)) (Lib.bytesWorld w 5 s):=fun w=>Lib.run_convert_string_bytes w 9 34 5 s Tryz.underlying9 Tryz.underlying34 Tryz.underlying5
 have hj0:(0:Int)≤(j:Int):=by omega
 have Zw:(j:Int) <32:=by omega
 have BX:¬n=0:=by omega
 have WV:¬ (n:Int)=0:=by omega
 have hz2:(0:Int) <(n:Int):=by omega
 have hz3:¬ (n:Int) <1+wsz l:=by omega
 have hz4:¬ (j:Int) <0:=by omega
 clear hf hx hL hw hc
 go_enter Tryz.func89,Tryz.ntmps89
 go_wp2_with (first
  | (go_at_call 137;refine(HF.out _).mono ?_;rintro e w1 ⟨rfl,dH⟩;have B1:=pO dH;have c1:=(B1.cell (p:=⟨g,off,none⟩) hg).trans c0)
  | (go_at_call 88;refine(HS.out _).mono ?_;rintro e w2 ⟨rfl,iE⟩;have B2:=chain B1 iE;have c2:=(B2.cell (p:=⟨g,off,none⟩) hg).trans c0;have l2:=B2.size)
  | (go_at_call 99;refine(tK _).mono ?_;rintro e w3 ⟨rfl,rfl⟩;obtain⟨d0,d1,d2,d3⟩:=Em w2 j f0 fn fi s H2.out))
 have D:=Nr (fr:= #[.int .i64 f0, .int .i64 fn, .string fi, .string s]) (cs:= #[.int .i64 (j:Int), .int .i64 0, .int .i64 0, .int .i64 0, .int .u32 0]) (o1:= .cells lG 180) dH iE
 clear d0 d1 d2 d3 c1 c2 B1 B2 dH iE
 generalize hFg:w2.heap.size+1=F at D⊢
 generalize hXg:F+1=X at D⊢
 generalize((w2.alloc (.cells lG 180)).alloc (.cells #[.int .i64 f0, .int .i64 fn, .string fi, .string s] 180)).alloc (.cells #[.int .i64 (j:Int), .int .i64 0, .int .i64 0, .int .i64 0, .int .u32 0] 74)=wA at D⊢
 clear hFg hXg
 have c1:=(D.2.2.2.2.2.2.cell (p:=⟨g,off,none⟩) hg).trans c0
 obtain⟨k1,k2,k3,k4,k5,k6,k7,k8⟩:=D.facts
 have HD:Hid (Cs w F X #[.int .i64 f0, .int .i64 fn, .string fi, .string s] (fP j 0 0 0 0) wA):=κ D
 have HC0:=κ c0
 clear D c0
 go_quiet (fail)
 have HD2:=HD.out.drewN nq
 generalize wA.drewN nq=wB at HD2⊢
 clear HD k1 k2 k3 k4 k5 c1 k8
 have c1:=(HD2.2.2.2.2.2.2.cell (p:=⟨g,off,none⟩) hg).trans HC0.out
 obtain⟨k1,k2,k3,k4,k5,m6,m7,k8⟩:=HD2.facts
 clear m6 m7
 simp only [fP] at k4
 have HD:=κ HD2
 clear HD2
 rename_i ka
 refine ka _ _ ?_
 apply wp_seq_k
 intro _ _
 go_cut [9] from 49 to 62 (fun s9 wx=>s9= .int .i64 lo∧Cs w F X #[.int .i64 f0, .int .i64 fn, .string fi, .string s] (fP j xd xs xf 0) wx)
 case first=>
  clear HS HF HV H2
  have HDo:=HD.out
  have t1:=HDo.set 1 (.int .i64 lo)
  have t2:=HDo.set 2 (.int .i64 lo)
  have t3:=HDo.set 3 (.int .i64 lo)
  have HT:=κ (And.intro HDo (And.intro t1 (And.intro t2 t3)))
  clear t1 t2 t3 HDo HD
  have HE:Hid (∀a b c:Int,(if fi=lH then lo else 0)=a→(if fi=lJ then lo else 0)=b→(if fi=lK then lo else 0)=c→a=xd∧b=xs∧c=xf):=κ (fun a b c h1 h2 h3=>⟨h1.symm.trans HXX.out.1,h2.symm.trans HXX.out.2.1,h3.symm.trans HXX.out.2.2⟩)
  clear HXX
  rcases Y8 with rfl | rfl | rfl | rfl
  ·obtain⟨e1,e2,e3⟩:=HE.out 0 0 0 (by simp [Ei,lH]) (by simp [Ei,lJ]) (by simp [Ei,lK])
   have HQ:Hid (Cs w F X #[.int .i64 f0, .int .i64 fn, .string Ei, .string s] (fP j xd xs xf 0) wB):=by subst e1 e2 e3;exact κ HT.out.1
   clear HE HT e1 e2 e3
   simp only [Ei] at*
   go_wp2
   go_meet
   exact⟨rfl,HQ.out⟩
  ·obtain⟨e1,e2,e3⟩:=HE.out lo 0 0 (by simp [lH]) (by simp [lH,lJ]) (by simp [lH,lK])
   have HQ:Hid (Cs w F X #[.int .i64 f0, .int .i64 fn, .string lH, .string s] (fP j xd xs xf 0) (wB.setCell ⟨X,1,none⟩ (.int .i64 lo))):=by subst e1 e2 e3;exact κ HT.out.2.1
   clear HE HT e1 e2 e3
   simp only [lH] at*
   go_wp2
   go_meet
   exact⟨rfl,HQ.out⟩
  ·obtain⟨e1,e2,e3⟩:=HE.out 0 lo 0 (by simp [lJ,lH]) (by simp [lJ]) (by simp [lJ,lK])
   have HQ:Hid (Cs w F X #[.int .i64 f0, .int .i64 fn, .string lJ, .string s] (fP j xd xs xf 0) (wB.setCell ⟨X,2,none⟩ (.int .i64 lo))):=by subst e1 e2 e3;exact κ HT.out.2.2.1
   clear HE HT e1 e2 e3
   simp only [lJ] at*
   go_wp2
   go_meet
   exact⟨rfl,HQ.out⟩
  ·obtain⟨e1,e2,e3⟩:=HE.out 0 0 lo (by simp [lK,lH]) (by simp [lK,lJ]) (by simp [lK])
   have HQ:Hid (Cs w F X #[.int .i64 f0, .int .i64 fn, .string lK, .string s] (fP j xd xs xf 0) (wB.setCell ⟨X,3,none⟩ (.int .i64 lo))):=by subst e1 e2 e3;exact κ HT.out.2.2.2
   clear HE HT e1 e2 e3
   simp only [lK] at*
   go_wp2
   go_meet
   exact⟨rfl,HQ.out⟩
 obtain⟨rfl,hcs⟩:=hcut
 clear k1 k2 k3 k4 k5 c1 k8
 obtain⟨_,_,k3,k4,_,_,_,k8⟩:=hcs.facts
 have HCS:=κ hcs
 clear hcs
 go_wp2
 have iE:=uq wc 5 s
 have hcell:=fun i hi=>Lib.bytesWorld_cell wc 5 s i hi
 have Xz:=Lib.bytesWorld_size wc 5 s
 simp only [HL.out] at hcell
 have YQ:=κ hcell
 have ZM:=HCS.out.below iE
 clear hcell kc k3 k4 HCS iE
 generalize Lib.bytesWorld wc 5 s=wC at YQ Xz ZM⊢
 generalize grownCap wc s.size 0 5=cpp
 obtain⟨Y,hY⟩:∃Y,wc.heap.size=Y:=⟨_,rfl⟩
 have hYX:Y≠X:=by omega
 rw [hY] at YQ Xz⊢
 clear hY k8
 generalize s.size=z at YQ hlen jW⊢
 have HD:=κ ZM
 clear ZM
 go_loopg [10,67] z (fun k at_ i wr=>∃q:Nat,k=z-q∧q≤z∧i= .int .i64 q∧at_= .int .i64 (dI (fun j=>us.getD j 0) (l.take q) ⟨xd,xs,xf,0,1⟩).at_∧
   gQ X (fP j (dI (fun j=>us.getD j 0) (l.take q) ⟨xd,xs,xf,0,1⟩).d (dI (fun j=>us.getD j 0) (l.take q) ⟨xd,xs,xf,0,1⟩).s (dI (fun j=>us.getD j 0) (l.take q) ⟨xd,xs,xf,0,1⟩).f (dI (fun j=>us.getD j 0) (l.take q) ⟨xd,xs,xf,0,1⟩).m) wC wr)
 case atStart=>exact⟨0,rfl,Nat.zero_le _,rfl,rfl,gQ.start HD.out.2.2.1⟩
 case round=>
  obtain⟨q,hk,hq,rfl,rfl,qV⟩:=hrel
  have HK:=κ hk
  have XD:=Ns (fun j=>us.getD j 0) (l.take q) ⟨xd,xs,xf,0,1⟩
  have hgX:g≠X:=by
   have h1:=HD.out.2.2.2.1
   have h2:=HD.out.2.2.2.2.1
   omega
  have hRX:w.heap.size≠X:=by
   have h1:=HD.out.2.2.2.1
   have h2:=HD.out.2.2.2.2.1
   omega
  by_cases dh:q<z
  ·have sG:=Ej (fun j=>us.getD j 0) l ⟨xd,xs,xf,0,1⟩ q (by omega)
   have Za:=Bg l q (by omega)
   have hw2:=Nu l q (by omega)
   have cl:=(World.cell?_of_block (a:=⟨Y,q,none⟩) (qV.2.2.1 Y hYX)).trans (YQ.out q dh)
   generalize((l.getD q 0).toNat:Int)=c at sG Za cl
   generalize dI (fun j=>us.getD j 0) (l.take q) ⟨xd,xs,xf,0,1⟩=p at qV sG XD⊢
   obtain⟨pd,ps,pf,pm,pa⟩:=p
   dsimp only at qV XD⊢
   have kX:=(bJ qV.1).1
   have zX:=(bJ qV.1).2
   simp only [fP] at kX
   have HO:=κ qV
   have Ny:∀k,k<n→wr.cell? ⟨g,off+k,none⟩=some (.int .u8 (us.getD k 0)):=fun k hk=>((World.cell?_of_block (a:=⟨g,off+k,none⟩) (qV.2.2.1 g hgX)).trans (HD.out.2.2.2.2.2.2.cell (p:=⟨g,off+k,none⟩) hg)).trans (HW.out.2 k hk)
   have XE:=fun k=>HW.out.1 k
   have pF:(q:Int) <(z:Int):=by omega
   have Tc:(pa:Int)+(if c==119 then 4 else 1)≤(n:Int):=by omega
   have hnm:(n:Int)≤9223372036854775807:=by
    have:(maxLen:Nat)=9223372036854775807:=rfl
    omega
   have afp:pa<n:=by
    have:(1:Int)≤(if c==119 then 4 else 1):=by split<;>omega
    omega
   have ajA:(pa:Int) <(n:Int):=by omega
   have ca:=Ny pa afp
   have ra:=XE pa
   have HC':=κ Ny
   have HR':=κ XE
   have zS:=κ sG
   have XF:=κ (Dh (us.getD pa 0) ra.1 ra.2)
   clear hk qV XD Za hw2 sG Ny XE hz hr
   have Ha:∃v,us.getD pa 0=v:=⟨_,rfl⟩
   obtain⟨y,hy⟩:=Ha
   rw [hy] at ca ra XF
   obtain⟨y0,y1⟩:=ra
   by_cases h98:c=98
   ·subst h98
    have HN:Hid (dI (fun j=>us.getD j 0) (l.take (q+1)) ⟨xd,xs,xf,0,1⟩=⟨pd,ps,pf,y,pa+1⟩):=κ (zS.out.trans (by simp [rl];(try rw [←List.getD_eq_getElem?_getD,hy]);(try simp)))
    clear zS Tc
    go_wp2_with (go_at_call 138;refine(XF.out _).mono ?_;rintro e w' ⟨rfl,rfl⟩)
    go_roundg (z-(q+1))
    case measure=>
     have:=HK.out
     omega
    case rel=>exact⟨q+1,rfl,by omega,by simp,by rw [HN.out];(try rw [IntWalk.wrap64_in _ (by omega)]);simp,by rw [HN.out];exact(gQ.set HO.out 4 (.int .u32 y))⟩
   by_cases abq:c=115
   ·subst abq
    have HN:Hid (dI (fun j=>us.getD j 0) (l.take (q+1)) ⟨xd,xs,xf,0,1⟩=⟨pd,ps,pf,xM y,pa+1⟩):=κ (zS.out.trans (by simp [rl];(try rw [←List.getD_eq_getElem?_getD,hy]);(try simp)))
    clear zS Tc
    go_wp2_with (go_at_call 138;refine(XF.out _).mono ?_;rintro e w' ⟨rfl,rfl⟩)
    go_roundg (z-(q+1))
    case measure=>
     have:=HK.out
     omega
    case rel=>exact⟨q+1,rfl,by omega,by simp,by rw [HN.out];(try rw [IntWalk.wrap64_in _ (by omega)]);simp,by rw [HN.out];exact(gQ.set HO.out 4 (.int .u32 (xM y)))⟩
   by_cases abr:c=119
   ·subst abr
    have ajB:(pa:Int)+4≤(n:Int):=by simpa using Tc
    have ca1:=HC'.out (pa+1) (by omega)
    have lM:=HR'.out (pa+1)
    obtain⟨b1,dH⟩:∃v,us.getD (pa+1) 0=v:=⟨_,rfl⟩
    rw [dH] at ca1 lM
    obtain⟨l1,m1⟩:=lM
    have q1:(pa:Int)+1<(n:Int):=by omega
    have ca2:=HC'.out (pa+2) (by omega)
    have lN:=HR'.out (pa+2)
    obtain⟨b2,iE⟩:∃v,us.getD (pa+2) 0=v:=⟨_,rfl⟩
    rw [iE] at ca2 lN
    obtain⟨l2,m2⟩:=lN
    have q2:(pa:Int)+2<(n:Int):=by omega
    have ca3:=HC'.out (pa+3) (by omega)
    have lQ:=HR'.out (pa+3)
    obtain⟨b3,um⟩:∃v,us.getD (pa+3) 0=v:=⟨_,rfl⟩
    rw [um] at ca3 lQ
    obtain⟨l3,m3⟩:=lQ
    have q3:(pa:Int)+3<(n:Int):=by omega
    have HN:Hid (dI (fun j=>us.getD j 0) (l.take (q+1)) ⟨xd,xs,xf,0,1⟩=⟨pd,ps,pf,four y b1 b2 b3,pa+4⟩):=κ (zS.out.trans (by simp [rl];rw [←List.getD_eq_getElem?_getD,←List.getD_eq_getElem?_getD,←List.getD_eq_getElem?_getD,←List.getD_eq_getElem?_getD,hy,dH,iE,um]))
    clear zS Tc
    go_wp2_with fail
    have p0:(0:Int)≤(pa:Int):=by omega
    have p1:(0:Int)≤(pa:Int)+1:=by omega
    have p2:(0:Int)≤(pa:Int)+2:=by omega
    have p3:(0:Int)≤(pa:Int)+3:=by omega
    have t2:((pa:Int)+2).toNat=pa+2:=by omega
    have t3:((pa:Int)+3).toNat=pa+3:=by omega
    have f1:=zA (pa:Int) n 1 p0 (by decide) q1 hnm
    have f2:=zA (pa:Int) n 2 p0 (by decide) q2 hnm
    have f3:=zA (pa:Int) n 3 p0 (by decide) q3 hnm
    go_still_tail 27,(by kernel_rfl)
    clear t2 t3 f1 f2 f3 p1 p2 p3
    go_wp2
    go_roundg (z-(q+1))
    case measure=>
     have:=HK.out
     omega
    case rel=>exact⟨q+1,rfl,by omega,by simp,by rw [HN.out];simp;omega,by rw [HN.out];exact(gQ.set HO.out 4 (.int .u32 (four y b1 b2 b3))).drew⟩
   by_cases abt:c=100
   ·subst abt
    have HN:Hid (dI (fun j=>us.getD j 0) (l.take (q+1)) ⟨xd,xs,xf,0,1⟩=⟨y,ps,pf,pm,pa+1⟩):=κ (zS.out.trans (by simp [rl];(try rw [←List.getD_eq_getElem?_getD,hy]);(try simp)))
    clear zS Tc
    go_wp2_with (go_at_call 138;refine(XF.out _).mono ?_;rintro e w' ⟨rfl,rfl⟩)
    go_roundg (z-(q+1))
    case measure=>
     have:=HK.out
     omega
    case rel=>exact⟨q+1,rfl,by omega,by simp,by rw [HN.out];(try rw [IntWalk.wrap64_in _ (by omega)]);simp,by rw [HN.out];exact(gQ.set HO.out 1 (.int .i64 y))⟩
   by_cases abu:c=101
   ·subst abu
    have HN:Hid (dI (fun j=>us.getD j 0) (l.take (q+1)) ⟨xd,xs,xf,0,1⟩=⟨pd,y,pf,pm,pa+1⟩):=κ (zS.out.trans (by simp [rl];(try rw [←List.getD_eq_getElem?_getD,hy]);(try simp)))
    clear zS Tc
    go_wp2_with (go_at_call 138;refine(XF.out _).mono ?_;rintro e w' ⟨rfl,rfl⟩)
    go_roundg (z-(q+1))
    case measure=>
     have:=HK.out
     omega
    case rel=>exact⟨q+1,rfl,by omega,by simp,by rw [HN.out];(try rw [IntWalk.wrap64_in _ (by omega)]);simp,by rw [HN.out];exact(gQ.set HO.out 2 (.int .i64 y))⟩
   by_cases abv:c=112
   ·subst abv
    have HN:Hid (dI (fun j=>us.getD j 0) (l.take (q+1)) ⟨xd,xs,xf,0,1⟩=⟨y/16,y%16,pf,pm,pa+1⟩):=κ (zS.out.trans (by simp [rl];(try rw [←List.getD_eq_getElem?_getD,hy]);(try simp)))
    clear zS Tc
    go_wp2_with (go_at_call 138;refine(XF.out _).mono ?_;rintro e w' ⟨rfl,rfl⟩)
    go_roundg (z-(q+1))
    case measure=>
     have:=HK.out
     omega
    case rel=>exact⟨q+1,rfl,by omega,by simp,by rw [HN.out];(try rw [IntWalk.wrap64_in _ (by omega)]);simp,by rw [HN.out];exact(gQ.set (gQ.set HO.out 1 (.int .i64 (y/16))) 2 (.int .i64 (y%16)))⟩
   by_cases h99:c=99
   ·subst h99
    have HN:Hid (dI (fun j=>us.getD j 0) (l.take (q+1)) ⟨xd,xs,xf,0,1⟩=⟨y%16,ps,y/16,pm,pa+1⟩):=κ (zS.out.trans (by simp [rl];(try rw [←List.getD_eq_getElem?_getD,hy]);(try simp)))
    clear zS Tc
    go_wp2_with (go_at_call 138;refine(XF.out _).mono ?_;rintro e w' ⟨rfl,rfl⟩)
    go_roundg (z-(q+1))
    case measure=>
     have:=HK.out
     omega
    case rel=>exact⟨q+1,rfl,by omega,by simp,by rw [HN.out];(try rw [IntWalk.wrap64_in _ (by omega)]);simp,by rw [HN.out];exact(gQ.set (gQ.set HO.out 3 (.int .i64 (y/16))) 1 (.int .i64 (y%16)))⟩
   ·have HN:Hid (dI (fun j=>us.getD j 0) (l.take (q+1)) ⟨xd,xs,xf,0,1⟩=⟨pd,ps,pf,pm,pa+1⟩):=κ (zS.out.trans (by simp [rl, *]))
    clear zS Tc
    have g98:(c==98)=false:=by rw [beq_eq_false_iff_ne];exact h98
    have ajF:(c==115)=false:=by rw [beq_eq_false_iff_ne];exact abq
    have ajG:(c==119)=false:=by rw [beq_eq_false_iff_ne];exact abr
    have ajH:(c==100)=false:=by rw [beq_eq_false_iff_ne];exact abt
    have ajI:(c==101)=false:=by rw [beq_eq_false_iff_ne];exact abu
    have ajJ:(c==112)=false:=by rw [beq_eq_false_iff_ne];exact abv
    have g99:(c==99)=false:=by rw [beq_eq_false_iff_ne];exact h99
    go_wp2
    go_roundg (z-(q+1))
    case measure=>
     have:=HK.out
     omega
    case rel=>exact⟨q+1,rfl,by omega,by simp,by rw [HN.out];(try rw [IntWalk.wrap64_in _ (by omega)]);simp,by rw [HN.out];exact HO.out⟩
  ·obtain rfl:q=z:=by omega
   have ht:l.take q=l:=List.take_of_length_le (by omega)
   rw [ht] at qV
   generalize dI (fun j=>us.getD j 0) l ⟨xd,xs,xf,0,1⟩=p at qV HV⊢
   obtain⟨pd,ps,pf,pm,pa⟩:=p
   dsimp only at qV HV⊢
   have kX:=(bJ qV.1).1
   have HR:=(qV.2.2.1 w.heap.size hRX).trans HD.out.1
   have kR:=(bJ HR).1
   have zR:=(bJ HR).2
   simp only [fP] at kX kR
   have HRo:=κ HR
   have HBo:=κ (HD.out.2.2.2.2.2.2.trans (qV.2.2.2 _ (by have h1:=HD.out.2.2.2.1;have h2:=HD.out.2.2.2.2.1;omega)))
   clear qV HR
   go_wp2
   all_goals first
    | exact FV HRo.out HBo.out (HV.out.symm.trans (if_pos ⟨by omega,by omega⟩)) rfl rfl rfl rfl
    | exact FV HRo.out HBo.out (HV.out.symm.trans (if_neg (by omega))) rfl rfl rfl rfl
end Go.Proofs.YtcjcmnnhmajocabGreat.Gu
