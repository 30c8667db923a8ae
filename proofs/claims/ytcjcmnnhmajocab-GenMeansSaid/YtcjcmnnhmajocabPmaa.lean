import Derived.Test.YtcjcmnnhmajocabProg
import Derived.Lib.Hide
import Derived.WalkLawsBesides
import Derived.WalkSpells
import Derived.ProofKit
import Derived.Deep.LoopGhost
import Derived.BigQuiet
set_option linter.unusedVariables false
set_option linter.unusedSimpArgs false
set_option maxRecDepth 100000
set_option maxHeartbeats 16000000
theorem Go.Proofs.Ytcjcmnnhmajocab.κ {p:Prop} (h:p):Go.RowKit.Hid p:=h
namespace Go.Proofs.Ytcjcmnnhmajocab.Ic
open Go.RowKit
def gv (k:Int):Bool:=decide ((1≤k∧k≤9∧k≠3)∨k=17)
def fin (k:Int):Bool:=decide (14≤k∧k≤16)
theorem JQ {k:Int} (h:(1≤k∧k≤9∧k≠3)∨k=17):gv k=true:=decide_eq_true h
theorem Fe {k:Int} (h:¬ ((1≤k∧k≤9∧k≠3)∨k=17)):gv k=false:=decide_eq_false h
theorem lH (k:Int) (w:World):Calls Try.prog 95 #[.int .i64 k] w fun e w'=>e= .returned (.bool (gv k))∧w=w':=by
 rcases(show k<1∨(1≤k∧k≤9∧k≠3)∨k=3∨(10≤k∧k≠17)∨k=17 by omega) with h | h | h | h | h
 ·rw [Fe (by omega)]
  have c1:¬1≤k:=by omega
  have c2:(k==17)=false:=by simp;omega
  go_enter Try.func95,Try.ntmps95
  go_wp2
  go_ret
  exact⟨rfl,rfl⟩
 ·rw [JQ (.inl h)]
  have c1:1≤k:=h.1
  have c3:k≤9:=h.2.1
  have c4:(k==3)=false:=by simp;omega
  go_enter Try.func95,Try.ntmps95
  go_wp2
  go_ret
  exact⟨rfl,rfl⟩
 ·subst h
  go_enter Try.func95,Try.ntmps95
  go_wp2
  go_ret
  exact⟨rfl,rfl⟩
 ·rw [Fe (by omega)]
  have c1:1≤k:=by omega
  have c3:¬k≤9:=by omega
  have c2:(k==17)=false:=by simp;omega
  go_enter Try.func95,Try.ntmps95
  go_wp2
  go_ret
  exact⟨rfl,rfl⟩
 ·subst h
  go_enter Try.func95,Try.ntmps95
  go_wp2
  go_ret
  exact⟨rfl,rfl⟩
theorem Dh (k:Int) (w:World):Calls Try.prog 75 #[.int .i64 k] w fun e w'=>e= .returned (.bool (gv k))∧w=w':=by
 rcases(show k<1∨(1≤k∧k≤9∧k≠3)∨k=3∨(10≤k∧k≠17)∨k=17 by omega) with h | h | h | h | h
 ·rw [Fe (by omega)]
  have c1:¬1≤k:=by omega
  have c2:(k==17)=false:=by simp;omega
  go_enter Try.func75,Try.ntmps75
  go_wp2
  go_ret
  exact⟨rfl,rfl⟩
 ·rw [JQ (.inl h)]
  have c1:1≤k:=h.1
  have c3:k≤9:=h.2.1
  have c4:(k==3)=false:=by simp;omega
  go_enter Try.func75,Try.ntmps75
  go_wp2
  go_ret
  exact⟨rfl,rfl⟩
 ·subst h
  go_enter Try.func75,Try.ntmps75
  go_wp2
  go_ret
  exact⟨rfl,rfl⟩
 ·rw [Fe (by omega)]
  have c1:1≤k:=by omega
  have c3:¬k≤9:=by omega
  have c2:(k==17)=false:=by simp;omega
  go_enter Try.func75,Try.ntmps75
  go_wp2
  go_ret
  exact⟨rfl,rfl⟩
 ·subst h
  go_enter Try.func75,Try.ntmps75
  go_wp2
  go_ret
  exact⟨rfl,rfl⟩
theorem wY (k:Int) (w:World):Calls Try.prog 52 #[.int .i64 k] w fun e w'=>e= .returned (.bool (fin k))∧w=w':=by
 rcases(show k<14∨(14≤k∧k≤16)∨16<k by omega) with h | h | h
 ·rw [show fin k=false from decide_eq_false (by omega)]
  have c1:¬14≤k:=by omega
  go_enter Try.func52,Try.ntmps52
  go_wp2
  go_ret
  exact⟨rfl,rfl⟩
 ·rw [show fin k=true from decide_eq_true h]
  have c1:14≤k:=h.1
  have c2:k≤16:=h.2
  go_enter Try.func52,Try.ntmps52
  go_wp2
  go_ret
  exact⟨rfl,rfl⟩
 ·rw [show fin k=false from decide_eq_false (by omega)]
  have c1:14≤k:=by omega
  have c2:¬k≤16:=by omega
  go_enter Try.func52,Try.ntmps52
  go_wp2
  go_ret
  exact⟨rfl,rfl⟩
structure cZ where
 k:Int
 w:Int
 a:Int
 b:Int
 c:Int
 kn:Int
 n:Int
def cZ.cells (o:cZ):Array Value:= #[.int .i64 o.k, .int .i64 o.w, .int .i64 o.a, .int .i64 o.b, .int .i64 o.c, .int .u32 o.kn, .int .i64 o.n]
def rQ (os:List cZ) (ao:Option Addr) (cap:Nat) (w:World):Prop:=
 os.length≤cap∧cap≤maxLen∧(0<os.length→∃g off,ao=some ⟨g,off,none⟩∧g<w.heap.size∧∀i o,os[i]?=some o→∀j v,o.cells[j]?=some v→w.cell? ⟨g,off+i*7+j,none⟩=some v)
theorem rQ.keep {os:List cZ} {ao:Option Addr} {cap:Nat} {w w':World} (h:rQ os ao cap w) (hb:Below w.heap.size w w'):rQ os ao cap w':=by
 obtain⟨h1,h2,h3⟩:=h
 refine⟨h1,h2,fun hp=> ?_⟩
 obtain⟨g,off,e,hg,hc⟩:=h3 hp
 exact⟨g,off,e,Nat.lt_of_lt_of_le hg hb.size,fun i o hi j v hj=>(hb.cell (p:=⟨g,_,none⟩) hg).trans (hc i o hi j v hj)⟩
def jW (os:List cZ) (t:Nat):Int:=match os[t]? with
 | some o=>o.k
 | none=>0
def nI (os:List cZ) (i:Nat) (t:Int):Bool:=decide (0≤t∧t<(i:Int))&&gv (jW os t.toNat)
def uY (pc aC bg:Int) (ao:Option Addr) (L cap:Nat):Value:= .agg #[.int .u32 pc, .int .i64 aC, .int .i64 bg, .slice ao L cap]
theorem G9 (os:List cZ) (ao:Option Addr) (cap:Nat) (pc aC bg:Int) (i:Nat) (t:Int) (w:World) (h:rQ os ao cap w) (hi:i≤os.length):
  Calls Try.prog 158 #[.agg #[.int .u32 pc, .int .i64 aC, .int .i64 bg, .slice ao os.length cap], .int .i64 i, .int .i64 t] w fun e w'=>e= .returned (.bool (nI os i t))∧Below w.heap.size w w':=by
 have hm:(maxLen:Nat)=9223372036854775807:=rfl
 obtain⟨h1,h2,h3⟩:=h
 rw [hm] at h2
 clear hm
 by_cases h0:0≤t
 ·obtain⟨s,rfl⟩:=Int.eq_ofNat_of_zero_le h0
  by_cases hs:s<i
  ·obtain⟨g,off,rfl,hg,hc⟩:=h3 (by omega)
   have hl:s<os.length:=by omega
   have hcell:w.cell? ⟨g,off+s*7,none⟩=some (.int .i64 (os[s].k)):=hc s _ (List.getElem?_eq_getElem hl) 0 _ rfl
   have hv:nI os i (s:Int)=gv os[s].k:=by
    unfold nI jW
    rw [decide_eq_true (by omega),Bool.true_and,Int.toNat_natCast,List.getElem?_eq_getElem hl]
   rw [hv]
   generalize os[s].k=kk at hcell
   have Z8:(s:Int) <(i:Int):=by omega
   have hl':(s:Int) <(os.length:Int):=by omega
   clear hc h3 hv
   go_enter Try.func158,Try.ntmps158
   go_wp2_with (go_at_call 95;refine(lH kk _).mono ?_;rintro e w' ⟨rfl,rfl⟩)
   go_ret
   exact⟨rfl,(Below.refl _ _).alloc (Nat.le_refl _) _⟩
  ·have hv:nI os i (s:Int)=false:=by unfold nI;rw [decide_eq_false (by omega),Bool.false_and]
   rw [hv]
   clear hv h3
   have Z8:¬ (s:Int) <(i:Int):=by omega
   go_enter Try.func158,Try.ntmps158
   go_wp2
   go_ret
   exact⟨rfl,(Below.refl _ _).alloc (Nat.le_refl _) _⟩
 ·have hv:nI os i t=false:=by unfold nI;rw [decide_eq_false (by omega),Bool.false_and]
  rw [hv]
  clear hv h3
  go_enter Try.func158,Try.ntmps158
  go_wp2
  go_ret
  exact⟨rfl,(Below.refl _ _).alloc (Nat.le_refl _) _⟩
theorem pO (os:List cZ) (ao:Option Addr) (cap:Nat) (pc aC bg:Int) (i:Nat) (t:Int) (w:World) (h:rQ os ao cap w) (hi:i≤os.length):
  Calls Try.prog 51 #[.agg #[.int .u32 pc, .int .i64 aC, .int .i64 bg, .slice ao os.length cap], .int .i64 i, .int .i64 t] w fun e w'=>e= .returned (.bool (nI os i t))∧Below w.heap.size w w':=by
 have hm:(maxLen:Nat)=9223372036854775807:=rfl
 obtain⟨h1,h2,h3⟩:=h
 rw [hm] at h2
 clear hm
 by_cases h0:0≤t
 ·obtain⟨s,rfl⟩:=Int.eq_ofNat_of_zero_le h0
  by_cases hs:s<i
  ·obtain⟨g,off,rfl,hg,hc⟩:=h3 (by omega)
   have hl:s<os.length:=by omega
   have hcell:w.cell? ⟨g,off+s*7,none⟩=some (.int .i64 (os[s].k)):=hc s _ (List.getElem?_eq_getElem hl) 0 _ rfl
   have hv:nI os i (s:Int)=gv os[s].k:=by
    unfold nI jW
    rw [decide_eq_true (by omega),Bool.true_and,Int.toNat_natCast,List.getElem?_eq_getElem hl]
   rw [hv]
   generalize os[s].k=kk at hcell
   have Z8:(s:Int) <(i:Int):=by omega
   have hl':(s:Int) <(os.length:Int):=by omega
   clear hc h3 hv
   go_enter Try.func51,Try.ntmps51
   go_wp2_with (go_at_call 75;refine(Dh kk _).mono ?_;rintro e w' ⟨rfl,rfl⟩)
   go_ret
   exact⟨rfl,(Below.refl _ _).alloc (Nat.le_refl _) _⟩
  ·have hv:nI os i (s:Int)=false:=by unfold nI;rw [decide_eq_false (by omega),Bool.false_and]
   rw [hv]
   clear hv h3
   have Z8:¬ (s:Int) <(i:Int):=by omega
   go_enter Try.func51,Try.ntmps51
   go_wp2
   go_ret
   exact⟨rfl,(Below.refl _ _).alloc (Nat.le_refl _) _⟩
 ·have hv:nI os i t=false:=by unfold nI;rw [decide_eq_false (by omega),Bool.false_and]
  rw [hv]
  clear hv h3
  go_enter Try.func51,Try.ntmps51
  go_wp2
  go_ret
  exact⟨rfl,(Below.refl _ _).alloc (Nat.le_refl _) _⟩
end Go.Proofs.Ytcjcmnnhmajocab.Ic
namespace Go.Proofs.Ytcjcmnnhmajocab.Kt
open Go.RowKit
theorem aU {P:Program} {ops:Array Oper} {rest:List Oper} {o:Oper} {a:Act} {w:World} {Q:Exit→Act→World→Prop} (hg:o.guard=none) {v:Value}
  (h:(execOp a.eval o).run P w= .ok (.value v) w) (hK:wpList P ops Q rest (a.put o.dst v) w):wpList P ops Q (o::rest) a w:=
 wpList_plain hg fun K hK'=>by
  unfold Oper.wp
  rw [h]
  exact hK' _ _ hK
theorem Di {P:Program} {ops:Array Oper} {rest:List Oper} {o:Oper} {a:Act} {w w':World} {Q:Exit→Act→World→Prop} (hg:o.guard=none) {v:Value}
  (h:(execOp a.eval o).run P w= .ok (.value v) w') (hK:wpList P ops Q rest (a.put o.dst v) w'):wpList P ops Q (o::rest) a w:=
 wpList_plain hg fun K hK'=>by
  unfold Oper.wp
  rw [h]
  exact hK' _ _ hK
theorem Dj (w:World) (old cs:Array Value) (t:TypeId):(w.alloc (.cells old t)).setRow w.heap.size cs=w.alloc (.cells cs t):=by
 unfold World.setRow World.alloc
 congr 1
 apply Array.ext_getElem?
 intro k
 rw [Array.getElem?_modify]
 by_cases hk:w.heap.size=k
 ·subst hk
  simp
 ·have qF:k≠w.heap.size:=fun e=>hk e.symm
  simp [hk,qF,Array.getElem?_push]
theorem bK {P:Program} {ops:Array Oper} {rest:List Oper} {o2 o3:Oper} {a:Act} {w:World} {Q:Exit→Act→World→Prop} (hg2:o2.guard=none) (hg3:o3.guard=none)
  (t:TypeId) (h2:o2.op= .alloc t) (x y:Operand) (h3:o3.op= .store t x y) (h3d:o3.dst=none) (i:TypeInfo) (z:Value) (hi:P.info? t=some i) (hz:i.zero=some z) (n:Nat) (jd:z.cells.size=n) (hn:i.size=n)
  (cs:Array Value) (hcs:cs.size=n) (h1:cs.all (·.oneCell')=true)
  (hx:(a.put o2.dst (.pointer (some ⟨w.heap.size,0,none⟩))).eval x= .pointer (some ⟨w.heap.size,0,none⟩)) (hy:(a.put o2.dst (.pointer (some ⟨w.heap.size,0,none⟩))).eval y= .agg cs)
  (hK:wpList P ops Q rest (a.put o2.dst (.pointer (some ⟨w.heap.size,0,none⟩))) (w.alloc (.cells cs t))):wpList P ops Q (o2::o3::rest) a w:=by
 refine Di hg2 (v:= .pointer (some ⟨w.heap.size,0,none⟩)) (w':=w.alloc (.cells z.cells t)) ?_ ?_
 ·simp only [execOp,h2,Instr.alloc,Sem.run_bind,Sem.run_pure,zeroValue,typeInfo]
  simp [hi,hz,newVar,newRow]
 ·refine wpList_plain hg3 fun K hK'=> ?_
  have hw:(w.alloc (.cells z.cells t)).heap[w.heap.size]?=some (.cells z.cells t (0,0)):=heap_alloc_new w _
  have hr:=run_storeVar_row (P:=P) (w.alloc (.cells z.cells t)) w.heap.size t t z.cells cs hw (by simp [hi,hn,hcs]) (by rw [jd,hcs]) h1
  rw [Dj] at hr
  unfold Oper.wp
  have he:(execOp (a.put o2.dst (.pointer (some ⟨w.heap.size,0,none⟩))).eval o3).run P (w.alloc (.cells z.cells t))= .ok .skip (w.alloc (.cells cs t)):=by
   simp only [execOp,h3,hx,hy,Instr.storeAt,Instr.sureAddr,Sem.run_bind,Sem.run_pure,Result.andThen_ok,hr]
  rw [he]
  show K ((a.put o2.dst _).put o3.dst undef) _
  rw [h3d]
  exact hK' _ _ hK
open Go.WideShapes Go.ChangeShapes
section
variable {H:Type} {enc:TypeId×Value→H} {P:Program}
end
theorem chain {w a b:World} (h:Below w.heap.size w a) (k:Below a.heap.size a b):Below w.heap.size w b:=h.trans (k.mono h.size)
theorem iM {n:Int} (h:(Lit.int .u32 n).wf=true):0≤n∧n<4294967296:=by
 have Z9:IntKind.u32.min=0:=rfl
 have aac:IntKind.u32.max=4294967295:=rfl
 simp only [Lit.wf,Bool.and_eq_true,decide_eq_true_eq] at h
 omega
theorem aad {n:Int} (h:(Lit.int .u8 n).wf=true):0≤n∧n<256:=by
 have Z9:IntKind.u8.min=0:=rfl
 have aac:IntKind.u8.max=255:=rfl
 simp only [Lit.wf,Bool.and_eq_true,decide_eq_true_eq] at h
 omega
theorem Wv {n:Int} (h:(Lit.int .i64 n).wf=true): -9223372036854775808≤n∧n<9223372036854775808:=by
 have Z9:IntKind.i64.min= -9223372036854775808:=rfl
 have aac:IntKind.i64.max=9223372036854775807:=rfl
 simp only [Lit.wf,Bool.and_eq_true,decide_eq_true_eq] at h
 omega
open Go
variable {P:Program} {w:World} {r:Reach} {base:Nat} {t:TypeId} {v:Value}
def Vq (P:Program) (t:TypeId):Bool:=match P.underlying t with
 | some (.struct _)=>true
 | some (.array _ _)=>true
 | _=>false
theorem yB {n:Nat} {ts:List TypeId} (hu:Vq P t=true) (hc:P.cellsOf t=n) (ht:P.cellTypes P.depth t=some ts) (h:Value.okWide P w r base t v):
  ∃cs,v= .agg cs∧cs.size=n∧∀ (i:Nat) (x:Value) (u:TypeId),cs[i]?=some x→ts[i]?=some u→Cell.okWide P w r base u x:=by
 have h':∃cs,v= .agg cs∧cs.size=P.cellsOf t∧Row.okWide P w r base t cs:=by
  unfold Vq at hu
  unfold Value.okWide at h
  cases hx:P.underlying t with
  | none=>simp [hx] at hu
  | some d=>cases d<;>simp_all
 obtain⟨cs,h1,h2,ts',h3,_,h5⟩:=h'
 rw [ht] at h3
 obtain rfl:=Option.some.inj h3
 refine⟨cs,h1,h2.trans hc,fun i x u hi Zt=> ?_⟩
 obtain⟨u2,e1,e2⟩:=h5 i x hi
 have bV:i<ts.length:=by
  by_cases hh:i<ts.length
  ·exact hh
  ·rw [List.getElem?_eq_none (by omega)] at Zt;cases Zt
 rw [Nat.mod_eq_of_lt bV,Zt] at e1
 obtain rfl:=Option.some.inj e1
 exact e2
theorem fM {u:TypeId} {k:IntKind} {x:Value} (hu:P.underlying u=some (.int k)) (h:Cell.okWide P w r base u x):∃n,x= .int k n∧(Lit.int k n).wf=true:=by
 simp only [Cell.okWide,hu] at h
 cases x<;>simp_all [Cell.ok,Lit.wf,IntKind.has]
theorem G7 {k:IntKind} (hu:P.underlying t=some (.int k)) (h:Value.okWide P w r base t v):∃n,v= .int k n∧(Lit.int k n).wf=true:=by
 simp only [Value.okWide,Cell.okWide,hu] at h
 cases v<;>simp_all [Cell.ok,Lit.wf,IntKind.has]
theorem aae {cs:Array Value} (h:cs.size=8):∃x0 x1 x2 x3 x4 x5 x6 x7,cs= #[x0,x1,x2,x3,x4,x5,x6,x7]:=by
 rcases cs with⟨l⟩
 match l,h with
 | [x0,x1,x2,x3,x4,x5,x6,x7],_=>exact⟨x0,x1,x2,x3,x4,x5,x6,x7,rfl⟩
theorem Wx {cs:Array Value} (h:cs.size=12):∃x0 x1 x2 x3 x4 x5 x6 x7 x8 x9 uO x11,cs= #[x0,x1,x2,x3,x4,x5,x6,x7,x8,x9,uO,x11]:=by
 rcases cs with⟨l⟩
 match l,h with
 | [x0,x1,x2,x3,x4,x5,x6,x7,x8,x9,uO,x11],_=>exact⟨x0,x1,x2,x3,x4,x5,x6,x7,x8,x9,uO,x11,rfl⟩
end Go.Proofs.Ytcjcmnnhmajocab.Kt
namespace Go.Proofs.Ytcjcmnnhmajocab.Me
open Go.RowKit Kt
structure MM where
 jL:Nat→Int
 rt:Nat→Int
 wd:Nat→Bool
 hi:Nat→Bool
def aO {α:Type} (f:Nat→α) (k:Nat) (v:α):Nat→α:=fun j=>if j=k then v else f j
def HM (p:Nat) (M:MM) (n:Int) (W:World):Prop:=
 (∀j,j<65536→W.cell? ⟨p,j,none⟩=some (.int .u8 (M.jL j)))∧(∀j,j<256→W.cell? ⟨p,65536+j,none⟩=some (.int .u8 (M.rt j)))∧(∀j,j<256→W.cell? ⟨p,65792+j,none⟩=some (.bool (M.wd j)))∧
  (∀j,j<256→W.cell? ⟨p,66048+j,none⟩=some (.bool (M.hi j)))∧W.cell? ⟨p,66304,none⟩=some (.int .i64 n)∧(∀i,W.frozen? ⟨p,i,none⟩=false)∧p<W.heap.size
def lI (p:Nat) (W W':World):Prop:=W'.heap.size=W.heap.size∧(∀b,b≠p→W'.heap[b]?=W.heap[b]?)∧∀B,B≤p→Below B W W'
theorem lI.refl (p:Nat) (W:World):lI p W W:=⟨rfl,fun _ _=>rfl,fun B _=>Below.refl B W⟩
theorem lI.set {p:Nat} {W W':World} (h:lI p W W') (j:Nat) (v:Value):lI p W (W'.setCell ⟨p,j,none⟩ v):=
 ⟨by rw [←h.1];simp,fun b hb=>(heap_setCell_other _ ⟨p,j,none⟩ b _ hb).trans (h.2.1 b hb),fun B hB=>(h.2.2 B hB).setCell hB _⟩
theorem HM.aP {p:Nat} {W:World} {j i:Nat} {v:Value} (dU:i≠j):(W.setCell ⟨p,j,none⟩ v).cell? ⟨p,i,none⟩=W.cell? ⟨p,i,none⟩:=
 World.cell?_setCell_other _ _ _ _ (by intro h;simp only [Addr.mk.injEq] at h;omega)
theorem HM.Vr {p:Nat} {M:MM} {n:Int} {W:World} (h:HM p M n W) (k:Nat) (hk:k<256) (b:Bool):HM p {M with hi:=aO M.hi k b} n (W.setCell ⟨p,66048+k,none⟩ (.bool b)):=by
 obtain⟨h1,h2,h3,h4,h5,h6,h7⟩:=h
 refine⟨fun j hj=> ?_,fun j hj=> ?_,fun j hj=> ?_,fun j hj=> ?_, ?_,fun i=>by simpa using h6 i,by simpa using h7⟩
 ·rw [HM.aP (by omega)];exact h1 j hj
 ·rw [HM.aP (by omega)];exact h2 j hj
 ·rw [HM.aP (by omega)];exact h3 j hj
 ·by_cases rX:j=k
  ·subst rX
   rw [World.cell?_setCell_same _ _ _ (h4 j hj)]
   simp [aO]
  ·rw [HM.aP (by omega),h4 j hj]
   simp [aO,rX]
 ·rw [HM.aP (by omega)];exact h5
theorem HM.JR {p:Nat} {M:MM} {n:Int} {W:World} (h:HM p M n W) (n':Int):HM p M n' (W.setCell ⟨p,66304,none⟩ (.int .i64 n')):=by
 obtain⟨h1,h2,h3,h4,h5,h6,h7⟩:=h
 refine⟨fun j hj=> ?_,fun j hj=> ?_,fun j hj=> ?_,fun j hj=> ?_, ?_,fun i=>by simpa using h6 i,by simpa using h7⟩
 ·rw [HM.aP (by omega)];exact h1 j hj
 ·rw [HM.aP (by omega)];exact h2 j hj
 ·rw [HM.aP (by omega)];exact h3 j hj
 ·rw [HM.aP (by omega)];exact h4 j hj
 ·exact World.cell?_setCell_same _ _ _ h5
theorem lY (k:Int) (w:World):Calls Try.prog 103 #[.int .i64 k] w fun e w'=>e= .returned (.bool (decide (0≤k)&&decide (k<256)))∧w=w':=by
 by_cases h:0≤k
 ·go_enter Try.func103,Try.ntmps103
  go_wp2
  go_ret
  exact⟨by simp [h],rfl⟩
 ·go_enter Try.func103,Try.ntmps103
  go_wp2
  go_ret
  exact⟨by simp;omega,rfl⟩
theorem qI (k:Int) (w:World):Calls Try.prog 104 #[.int .i64 k] w fun e w'=>e= .returned (.bool (decide (0≤k)&&decide (k<256)))∧w=w':=by
 by_cases h:0≤k
 ·go_enter Try.func104,Try.ntmps104
  go_wp2
  go_ret
  exact⟨by simp [h],rfl⟩
 ·go_enter Try.func104,Try.ntmps104
  go_wp2
  go_ret
  exact⟨by simp;omega,rfl⟩
def jM (M:MM) (k:Nat):MM:=if M.wd k&& !M.hi k then{M with hi:=aO M.hi k true} else M
def JU (M:MM) (n:Int) (k:Nat):Int:=if M.wd k&& !M.hi k then n+1 else n
theorem uZ (p:Nat) (M:MM) (n:Int) (k:Nat) (w:World) (h:HM p M n w) (hk:k<256) (n0:0≤n) (n1:n≤256):
  Calls Try.prog 101 #[.pointer (some ⟨p,0,none⟩), .int .i64 (k:Int)] w fun e w'=>e= .returned (.tuple #[])∧HM p (jM M k) (JU M n k) w'∧lI p w w':=by
 have c3:=h.2.2.1 k hk
 have c4:=h.2.2.2.1 k hk
 have c5:=h.2.2.2.2.1
 have z4:=h.2.2.2.2.2.1 (66048+k)
 have z5:=h.2.2.2.2.2.1 66304
 have HH:=κ h
 clear h
 have k0:(0:Int)≤(k:Int):=by omega
 have k1:(k:Int) <256:=by omega
 unfold jM JU
 generalize hm:M.wd k=bm at c3⊢
 generalize hh:M.hi k=bh at c4⊢
 clear hm hh
 cases bm
 ·go_enter Try.func101,Try.ntmps101
  go_wp2
  go_end0
  exact⟨rfl,HH.out,lI.refl _ _⟩
 ·cases bh
  ·go_enter Try.func101,Try.ntmps101
   go_wp2
   go_end0
   exact⟨rfl,(HH.out.Vr k hk true).JR (n+1),((lI.refl _ _).set _ _).set _ _⟩
  ·go_enter Try.func101,Try.ntmps101
   go_wp2
   go_end0
   exact⟨rfl,HH.out,lI.refl _ _⟩
theorem HM.Vs {p:Nat} {M:MM} {n:Int} {W:World} (h:HM p M n W) (k:Nat) (hk:k<256) (x:Int):HM p {M with rt:=aO M.rt k x} n (W.setCell ⟨p,65536+k,none⟩ (.int .u8 x)):=by
 obtain⟨h1,h2,h3,h4,h5,h6,h7⟩:=h
 refine⟨fun j hj=> ?_,fun j hj=> ?_,fun j hj=> ?_,fun j hj=> ?_, ?_,fun i=>by simpa using h6 i,by simpa using h7⟩
 ·rw [HM.aP (by omega)];exact h1 j hj
 ·by_cases rX:j=k
  ·subst rX
   rw [World.cell?_setCell_same _ _ _ (h2 j hj)]
   simp [aO]
  ·rw [HM.aP (by omega),h2 j hj]
   simp [aO,rX]
 ·rw [HM.aP (by omega)];exact h3 j hj
 ·rw [HM.aP (by omega)];exact h4 j hj
 ·rw [HM.aP (by omega)];exact h5
theorem HM.JV {p:Nat} {M:MM} {n:Int} {W:World} (h:HM p M n W) (k:Nat) (hk:k<256) (b:Bool):HM p {M with wd:=aO M.wd k b} n (W.setCell ⟨p,65792+k,none⟩ (.bool b)):=by
 obtain⟨h1,h2,h3,h4,h5,h6,h7⟩:=h
 refine⟨fun j hj=> ?_,fun j hj=> ?_,fun j hj=> ?_,fun j hj=> ?_, ?_,fun i=>by simpa using h6 i,by simpa using h7⟩
 ·rw [HM.aP (by omega)];exact h1 j hj
 ·rw [HM.aP (by omega)];exact h2 j hj
 ·by_cases rX:j=k
  ·subst rX
   rw [World.cell?_setCell_same _ _ _ (h3 j hj)]
   simp [aO]
  ·rw [HM.aP (by omega),h3 j hj]
   simp [aO,rX]
 ·rw [HM.aP (by omega)];exact h4 j hj
 ·rw [HM.aP (by omega)];exact h5
theorem lI.trans {p:Nat} {a b c:World} (h:lI p a b) (k:lI p b c):lI p a c:=
 ⟨k.1.trans h.1,fun g hg=>(k.2.1 g hg).trans (h.2.1 g hg),fun B hB=>(h.2.2 B hB).trans (k.2.2 B hB)⟩
def Vt (M:MM) (k:Nat) (x:Int):MM:={(if M.rt k=x then M else jM M k) with rt:=aO M.rt k x}
def Qg (M:MM) (n:Int) (k:Nat) (x:Int):Int:=if M.rt k=x then n else JU M n k
theorem zG (p:Nat) (M:MM) (n k x:Int) (w:World) (h:HM p M n w) (hb:k<0∨256≤k∨x<0∨7<x):
  Calls Try.prog 58 #[.pointer (some ⟨p,0,none⟩), .int .i64 k, .int .i64 x] w fun e w'=>e= .returned (.int .i64 4)∧w=w':=by
 have HP:=κ (lY k)
 have hp:k<0∨256≤k∨(0≤k∧k<256∧(x<0∨7<x)):=by omega
 clear h hb
 rcases hp with hp | hp | ⟨p0,p1,hx | hx⟩
 ·have e:(decide (0≤k)&&decide (k<256))=false:=by simp;omega
  rw [e] at HP
  go_enter Try.func58,Try.ntmps58
  go_wp2_with (go_at_call 103;refine(HP.out _).mono ?_;rintro e w' ⟨rfl,rfl⟩)
  go_ret
  exact⟨rfl,rfl⟩
 ·have e:(decide (0≤k)&&decide (k<256))=false:=by simp;omega
  rw [e] at HP
  go_enter Try.func58,Try.ntmps58
  go_wp2_with (go_at_call 103;refine(HP.out _).mono ?_;rintro e w' ⟨rfl,rfl⟩)
  go_ret
  exact⟨rfl,rfl⟩
 ·have e:(decide (0≤k)&&decide (k<256))=true:=by simp;omega
  rw [e] at HP
  go_enter Try.func58,Try.ntmps58
  go_wp2_with (go_at_call 103;refine(HP.out _).mono ?_;rintro e w' ⟨rfl,rfl⟩)
  go_ret
  exact⟨rfl,rfl⟩
 ·have e:(decide (0≤k)&&decide (k<256))=true:=by simp;omega
  rw [e] at HP
  have x0:¬x<0:=by omega
  go_enter Try.func58,Try.ntmps58
  go_wp2_with (go_at_call 103;refine(HP.out _).mono ?_;rintro e w' ⟨rfl,rfl⟩)
  go_ret
  exact⟨rfl,rfl⟩
theorem JW (M:MM) (k:Nat):(jM M k).rt=M.rt:=by unfold jM;split<;>rfl
theorem Dk (p:Nat) (M:MM) (n:Int) (k:Nat) (x:Int) (w:World) (h:HM p M n w) (hk:k<256) (x0:0≤x) (x7:x≤7) (n0:0≤n) (n1:n≤256):
  Calls Try.prog 58 #[.pointer (some ⟨p,0,none⟩), .int .i64 (k:Int), .int .i64 x] w fun e w'=>e= .returned (.int .i64 0)∧HM p (Vt M k x) (Qg M n k x) w'∧lI p w w':=by
 have HP:=κ (lY (k:Int))
 have k0:(0:Int)≤(k:Int):=by omega
 have k1:(k:Int) <256:=by omega
 have e:(decide (0≤(k:Int))&&decide ((k:Int) <256))=true:=by simp;omega
 rw [e] at HP
 have c2:=h.2.1 k hk
 have z2:=h.2.2.2.2.2.1 (65536+k)
 have HH:=κ h
 have xa:¬x<0:=by omega
 have xb:¬7<x:=by omega
 unfold Vt Qg
 by_cases hr:M.rt k=x
 ·rw [if_pos hr,if_pos hr]
  rw [hr] at c2
  clear h hr
  go_enter Try.func58,Try.ntmps58
  go_wp2_with (go_at_call 103;refine(HP.out _).mono ?_;rintro e w' ⟨rfl,rfl⟩)
  go_ret
  exact⟨rfl,HH.out.Vs k hk x,(lI.refl _ _).set _ _⟩
 ·rw [if_neg hr,if_neg hr]
  have Vu:(M.rt k==x)=false:=by rw [beq_eq_false_iff_ne];exact hr
  have HC:=κ (fun w (h:HM p M n w)=>uZ p M n k w h hk n0 n1)
  generalize M.rt k=r at c2 Vu
  clear h hr
  go_enter Try.func58,Try.ntmps58
  go_wp2_with (first
   | (go_at_call 103;refine(HP.out _).mono ?_;rintro e w' ⟨rfl,rfl⟩)
   | (go_at_call 101;refine(HC.out _ HH.out).mono ?_;rintro e w1 ⟨rfl,h1,o1⟩;have d2:=h1.2.1 k hk;have y2:=h1.2.2.2.2.2.1 (65536+k)))
  go_ret
  have h9:=h1.Vs k hk x
  rw [JW] at h9
  exact⟨rfl,h9,o1.set _ _⟩
structure ah (S:Nat→Prop) (w w':World):Prop where
 os:w'.os=w.os
 tape:w'.tape=w.tape
 output:w'.output=w.output
 size:w.heap.size≤w'.heap.size
 block:∀k,k<w.heap.size→¬S k→w'.heap[k]?=w.heap[k]?
theorem ah.refl (S:Nat→Prop) (w:World):ah S w w:=⟨rfl,rfl,rfl,Nat.le_refl _,fun _ _ _=>rfl⟩
theorem ah.trans {S:Nat→Prop} {a b c:World} (h:ah S a b) (k:ah S b c):ah S a c:=
 ⟨k.os.trans h.os,k.tape.trans h.tape,k.output.trans h.output,Nat.le_trans h.size k.size,fun i hi hs=>(k.block i (Nat.lt_of_lt_of_le hi h.size) hs).trans (h.block i hi hs)⟩
theorem ah.mono {S T:Nat→Prop} {a b:World} (h:ah S a b) (gZ:∀k,k<a.heap.size→S k→T k):ah T a b:=
 ⟨h.os,h.tape,h.output,h.size,fun i hi hs=>h.block i hi (fun hx=>hs (gZ i hi hx))⟩
theorem ah.drew {S:Nat→Prop} {a w:World} (h:ah S a w):ah S a w.drew:=⟨h.os,h.tape,h.output,h.size,h.block⟩
theorem ah.alloc {S:Nat→Prop} {a w:World} (h:ah S a w) (o:Obj):ah S a (w.alloc o):=
 h.trans ⟨rfl,rfl,rfl,by simp,fun k hk _=>Below.heap_alloc _ _ _ hk⟩
theorem ah.setCell {S:Nat→Prop} {a w:World} (h:ah S a w) {q:Addr} (hq:S q.block∨a.heap.size≤q.block) (u:Value):ah S a (w.setCell q u):=
 ⟨h.os,h.tape,h.output,by simpa [World.setCell] using h.size,fun k hk hs=>(Below.heap_setCell _ _ _ _ (by rintro rfl;rcases hq with hq | hq;exact hs hq;omega)).trans (h.block k hk hs)⟩
theorem ah.cell {S:Nat→Prop} {w w':World} (h:ah S w w') {q:Addr} (hq:q.block<w.heap.size) (hs:¬S q.block):w'.cell? q=w.cell? q:=World.cell?_of_block (w:=w) (h.block _ hq hs)
theorem ah.frozen {S:Nat→Prop} {w w':World} (h:ah S w w') {q:Addr} (hq:q.block<w.heap.size) (hs:¬S q.block):w'.frozen? q=w.frozen? q:=World.frozen?_of_block (w:=w) (h.block _ hq hs)
theorem ah.below {S:Nat→Prop} {w w':World} (h:ah S w w') {B:Nat} (hB:B≤w.heap.size) (hs:∀k,k<B→¬S k):Below B w w':=⟨h.os,h.tape,h.output,h.size,fun k hk=>h.block k (by omega) (hs k hk)⟩
theorem ah.aG {S:Nat→Prop} {w w':World} (h:Below w.heap.size w w'):ah S w w':=⟨h.os,h.tape,h.output,h.size,fun k hk _=>h.block k hk⟩
theorem ah.drop {B:Nat} {S:Nat→Prop} {w a b:World} (h:ah S w a) (k:ah (fun i=>B≤i) a b) (hB:w.heap.size≤B):ah S w b:=
 ⟨k.os.trans h.os,k.tape.trans h.tape,k.output.trans h.output,Nat.le_trans h.size k.size,fun i hi hs=>(k.block i (Nat.lt_of_lt_of_le hi h.size) (by omega)).trans (h.block i hi hs)⟩
theorem ah.yC {p:Nat} {w w':World} (h:lI p w w'):ah (fun k=>k=p) w w':=
 have b:=h.2.2 0 (Nat.zero_le _)
 ⟨b.os,b.tape,b.output,by rw [h.1];exact Nat.le_refl _,fun k _ hs=>h.2.1 k hs⟩
theorem HM.upto {p:Nat} {M:MM} {n:Int} {S:Nat→Prop} {w w':World} (h:HM p M n w) (u:ah S w w') (hs:¬S p):HM p M n w':=by
 obtain⟨h1,h2,h3,h4,h5,h6,h7⟩:=h
 have e:∀i,w'.cell? ⟨p,i,none⟩=w.cell? ⟨p,i,none⟩:=fun i=>u.cell h7 hs
 refine⟨fun j hj=> ?_,fun j hj=> ?_,fun j hj=> ?_,fun j hj=> ?_, ?_,fun i=> ?_,Nat.lt_of_lt_of_le h7 u.size⟩
 ·rw [e];exact h1 j hj
 ·rw [e];exact h2 j hj
 ·rw [e];exact h3 j hj
 ·rw [e];exact h4 j hj
 ·rw [e];exact h5
 ·exact(u.frozen (q:=⟨p,i,none⟩) h7 hs).trans (h6 i)
def oU (M:MM) (r x:Int):Bool:=decide (x<65536)&&decide (M.rt (x/256).toNat/r%2=1)
def uP (a:Int) (k:Nat):Int:=(a+k)%4294967296
def cO (M:MM) (r a:Int) (n:Nat):Option Int:=((List.range n).map (uP a)).find? fun x=> !oU M r x
theorem wZ {M:MM} {r a:Int} {n:Nat} (h:∀k,k<n→oU M r (uP a k)=true):cO M r a n=none:=by
 unfold cO
 rw [List.find?_eq_none]
 intro x hx
 obtain⟨k,hk,rfl⟩:=List.mem_map.1 hx
 rw [List.mem_range] at hk
 simp [h k hk]
theorem He (M:MM) (r a:Int) (n:Nat):cO M r a (n+1)=(cO M r a n).or (if oU M r (uP a n) then none else some (uP a n)):=by
 unfold cO
 rw [List.range_succ,List.map_append,List.find?_append]
 congr 1
 simp only [List.map_cons,List.map_nil,List.find?_cons,List.find?_nil]
 cases oU M r (uP a n) <;>rfl
theorem xg {M:MM} {r a:Int} {n:Nat} (k:Nat) (hk:k<n) (h:∀j,j<k→oU M r (uP a j)=true) (hb:oU M r (uP a k)=false):cO M r a n=some (uP a k):=by
 induction n with
 | zero=>omega
 | succ n ih=>
  rw [He]
  by_cases kW:k=n
  ·subst kW
   rw [wZ h,hb];rfl
  ·rw [ih (by omega)];rfl
theorem zH {M:MM} {r a:Int} {n:Nat} (h:cO M r a n=none) (k:Nat) (hk:k<n):oU M r (uP a k)=true:=by
 unfold cO at h
 rw [List.find?_eq_none] at h
 have:=h (uP a k) (List.mem_map.2 ⟨k,List.mem_range.2 hk,rfl⟩)
 simpa using this
theorem Wy (a:Int) (k:Nat):0≤uP a k∧uP a k<4294967296:=by unfold uP;omega
def iC (M:MM):Prop:=(∀j,0≤M.jL j∧M.jL j<256)∧(∀j,0≤M.rt j∧M.rt j<8)
def Jw (M:MM) (k:Nat) (b:Bool):MM:={(if b=false∧M.hi k=true then{M with hi:=aO M.hi k false} else M) with wd:=aO M.wd k b}
def Qh (M:MM) (n:Int) (k:Nat) (b:Bool):Int:=if b=false∧M.hi k=true then n-1 else n
theorem JX (p:Nat) (k:Int) (b:Bool) (w:World) (hb:k<0∨256≤k):
  Calls Try.prog 60 #[.pointer (some ⟨p,0,none⟩), .int .i64 k, .bool b] w fun e w'=>e= .returned (.int .i64 4)∧w=w':=by
 have HP:=κ (lY k)
 have e:(decide (0≤k)&&decide (k<256))=false:=by simp;omega
 rw [e] at HP
 clear hb
 go_enter Try.func60,Try.ntmps60
 go_wp2_with (go_at_call 103;refine(HP.out _).mono ?_;rintro e w' ⟨rfl,rfl⟩)
 go_ret
 exact⟨rfl,rfl⟩
theorem Qi (p:Nat) (M:MM) (n:Int) (k:Nat) (b:Bool) (w:World) (h:HM p M n w) (hk:k<256) (n0:0≤n) (n1:n≤256):
  Calls Try.prog 60 #[.pointer (some ⟨p,0,none⟩), .int .i64 (k:Int), .bool b] w fun e w'=>e= .returned (.int .i64 0)∧HM p (Jw M k b) (Qh M n k b) w'∧lI p w w':=by
 have HP:=κ (lY (k:Int))
 have k0:(0:Int)≤(k:Int):=by omega
 have k1:(k:Int) <256:=by omega
 have e:(decide (0≤(k:Int))&&decide ((k:Int) <256))=true:=by simp;omega
 rw [e] at HP
 have c3:=h.2.2.1 k hk
 have c4:=h.2.2.2.1 k hk
 have c5:=h.2.2.2.2.1
 have z3:=h.2.2.2.2.2.1 (65792+k)
 have z4:=h.2.2.2.2.2.1 (66048+k)
 have z5:=h.2.2.2.2.2.1 66304
 have HH:=κ h
 have dU:66048+k≠65792+k:=by omega
 clear h
 unfold Jw Qh
 obtain⟨bh,hh⟩:∃bh,M.hi k=bh:=⟨_,rfl⟩
 rw [hh] at c4⊢
 clear hh
 cases b<;>cases bh
 all_goals go_enter Try.func60,Try.ntmps60
 all_goals go_wp2_with (go_at_call 103;refine(HP.out _).mono ?_;rintro e w' ⟨rfl,rfl⟩)
 all_goals go_ret
 all_goals first
  | exact⟨rfl,HH.out.JV k hk false,(lI.refl _ _).set _ _⟩
  | exact⟨rfl,((HH.out.JV k hk false).Vr k hk false).JR (n-1),(((lI.refl _ _).set _ _).set _ _).set _ _⟩
  | exact⟨rfl,HH.out.JV k hk true,(lI.refl _ _).set _ _⟩
def kQ (f:Nat→Bool):Nat→Nat
 | 0=>0
 | n+1=>kQ f n+if f n=true then 1 else 0
theorem Qj (f:Nat→Bool) (n:Nat):kQ f n≤n:=by
 induction n with
 | zero=>exact Nat.le_refl _
 | succ n ih=>simp only [kQ];split<;>omega
theorem JY (f:Nat→Bool) (k:Nat) (v:Bool) (n:Nat) (h:n≤k):kQ (aO f k v) n=kQ f n:=by
 induction n with
 | zero=>rfl
 | succ n ih=>
  simp only [kQ,ih (by omega)]
  rw [show aO f k v n=f n from by unfold aO;rw [if_neg (by omega)]]
theorem Fg (f:Nat→Bool) (k n:Nat) (hk:k<n) (hf:f k=false):kQ (aO f k true) n=kQ f n+1:=by
 induction n with
 | zero=>omega
 | succ n ih=>
  simp only [kQ]
  by_cases kW:k=n
  ·subst kW
   rw [JY f k true k (Nat.le_refl _),hf]
   simp [aO]
  ·rw [ih (by omega),show aO f k true n=f n from by unfold aO;rw [if_neg (by omega)]]
   omega
theorem Hf (f:Nat→Bool) (k n:Nat) (hk:k<n) (hf:f k=true):kQ f n=kQ (aO f k false) n+1:=by
 have h:kQ (aO (aO f k false) k true) n=kQ (aO f k false) n+1:=Fg _ k n hk (by simp [aO])
 rw [←h]
 congr 1
 funext j
 unfold aO
 split
 ·next e=>subst e;exact hf
 ·rfl
theorem JZ (f:Nat→Bool) (n:Nat):0<kQ f n↔∃k,k<n∧f k=true:=by
 induction n with
 | zero=>simp [kQ]
 | succ n ih=>
  simp only [kQ]
  constructor
  ·intro h
   by_cases hf:f n=true
   ·exact⟨n,by omega,hf⟩
   ·rw [if_neg hf] at h
    obtain⟨k,hk,hfk⟩:=ih.1 (by omega)
    exact⟨k,by omega,hfk⟩
  ·rintro⟨k,hk,hfk⟩
   by_cases kW:k=n
   ·subst kW;rw [if_pos hfk];omega
   ·have:=ih.2 ⟨k,by omega,hfk⟩
    omega
def aC (f:Nat→Bool):Int:=(kQ f 256:Nat)
theorem rY (f:Nat→Bool):0≤aC f∧aC f≤256:=by
 have:=Qj f 256
 unfold aC;omega
theorem WC {f:Nat→Bool} {k:Nat} (hk:k<256) (hf:f k=false):aC (aO f k true)=aC f+1:=by
 unfold aC;rw [Fg f k 256 hk hf];omega
theorem J3 {f:Nat→Bool} {k:Nat} (hk:k<256) (hf:f k=true):aC (aO f k false)=aC f-1:=by
 unfold aC;rw [Hf f k 256 hk hf];omega
def nM (f:Nat→Bool):Bool:=decide (0<kQ f 256)
theorem zI (f:Nat→Bool):nM f=true↔∃k,k<256∧f k=true:=by
 unfold nM;rw [decide_eq_true_iff];exact JZ f 256
def HC (p:Nat) (M:MM) (W:World):Prop:=HM p M (aC M.hi) W
theorem HC.upto {p:Nat} {M:MM} {S:Nat→Prop} {w w':World} (h:HC p M w) (u:ah S w w') (hs:¬S p):HC p M w':=HM.upto h u hs
theorem Fh (M:MM) (k:Nat) (hk:k<256):JU M (aC M.hi) k=aC (jM M k).hi:=by
 unfold JU jM
 split
 ·next h=>simp only [Bool.and_eq_true,Bool.not_eq_true'] at h;rw [WC hk h.2]
 ·rfl
theorem Qk (M:MM) (k:Nat) (x:Int) (hk:k<256):Qg M (aC M.hi) k x=aC (Vt M k x).hi:=by
 unfold Qg Vt
 split
 ·rfl
 ·exact Fh M k hk
theorem Ql (M:MM) (k:Nat) (b:Bool) (hk:k<256):Qh M (aC M.hi) k b=aC (Jw M k b).hi:=by
 unfold Qh Jw
 split
 ·next h=>rw [J3 hk h.2]
 ·rfl
theorem J4 (M:MM) (k:Nat):(jM M k).jL=M.jL∧(jM M k).rt=M.rt∧(jM M k).wd=M.wd:=by unfold jM;split<;>exact⟨rfl,rfl,rfl⟩
def pk (M:MM):Nat→List Int→MM
 | _, []=>M
 | at_,b::bs=>pk (jM {M with jL:=aO M.jL at_ b} (at_/256)) (at_+1) bs
def bg (M:MM) (a:Int) (k:Nat):Int:=M.jL (a.toNat+k)
def nC (M:MM) (a n:Int):Int:=
 if(cO M 1 a n.toNat).isNone then
  if n=1 then bg M a 0 else if n=2 then bg M a 0+bg M a 1*256 else if n=4 then bg M a 0+bg M a 1*256+bg M a 2*65536+bg M a 3*16777216 else 0
 else 0
def iO (kind:Int) (o:Option Int):Value:=match o with
 | none=> .agg #[.int .i64 0, .int .u32 0]
 | some x=> .agg #[.int .i64 kind, .int .u32 x]
def WE (n v:Int):List Int:=if n=1 then [v%256] else if n=2 then [v%256,v/256%256] else if n=4 then [v%256,v/256%256,v/65536%256,v/16777216] else []
def rU (M:MM) (a n v:Int):MM:=if n=1∨n=2∨n=4 then(if(cO M 2 a n.toNat).isNone then pk M a.toNat (WE n v) else M) else M
def nJ (M:MM) (a n:Int):Option Int:=if n=1∨n=2∨n=4 then cO M 2 a n.toNat else none
theorem rZ {M:MM} {r a:Int} {n:Nat} (a0:0≤a) (a1:a<4294967296) (h:cO M r a n=none) (k:Nat) (hk:k<n) (hn:n<65537):uP a k=a+k∧a+k<65536:=by
 have h0:=zH h 0 (by omega)
 have qF:=zH h k hk
 unfold oU at h0 qF
 simp only [Bool.and_eq_true,decide_eq_true_eq] at h0 qF
 have e0:uP a 0=a:=by unfold uP;omega
 rw [e0] at h0
 have:=qF.1
 unfold uP at this⊢
 omega
theorem pR {M:MM} (hM:iC M) (a n:Int):0≤nC M a n∧nC M a n<4294967296:=by
 have b0:=hM.1 (a.toNat+0)
 have b1:=hM.1 (a.toNat+1)
 have b2:=hM.1 (a.toNat+2)
 have b3:=hM.1 (a.toNat+3)
 unfold nC bg
 split
 ·split
  ·omega
  ·split
   ·omega
   ·split
    ·omega
    ·omega
 ·omega
theorem Qm (n:Nat):kQ (fun _=>false) n=0:=by
 induction n with
 | zero=>rfl
 | succ n ih=>simp [kQ,ih]
theorem WG:aC (fun _=>false)=0:=by unfold aC;rw [Qm];rfl
def mkE (k:Int):Int:=if 0≤k∧k<256 then 0 else 4
def zJ (M:MM) (k:Int) (b:Bool):MM:=if 0≤k∧k<256 then Jw M k.toNat b else M
theorem J5 (p:Nat) (M:MM) (k:Int) (b:Bool) (w:World) (h:HC p M w):
  Calls Try.prog 60 #[.pointer (some ⟨p,0,none⟩), .int .i64 k, .bool b] w fun e w'=>e= .returned (.int .i64 (mkE k))∧HC p (zJ M k b) w'∧ah (fun i=>i=p) w w':=by
 unfold mkE zJ
 by_cases hk:0≤k∧k<256
 ·rw [if_pos hk,if_pos hk]
  obtain⟨k0,k1⟩:=hk
  obtain⟨c,rfl⟩:=Int.eq_ofNat_of_zero_le k0
  refine(Qi p M (aC M.hi) c b w h (by omega) (rY _).1 (rY _).2).mono ?_
  rintro e w' ⟨rfl,h1,o1⟩
  refine⟨rfl, ?_,ah.yC o1⟩
  rw [Int.toNat_natCast]
  unfold HC
  rw [←Ql M c b (by omega)]
  exact h1
 ·rw [if_neg hk,if_neg hk]
  refine(JX p k b w (by omega)).mono ?_
  rintro e w' ⟨rfl,rfl⟩
  exact⟨rfl,h,ah.refl _ _⟩
theorem zK:∃i,Try.prog.info? 3=some i∧i.zero=some (.int .i64 0)∧i.size=1∧i.bytes=8:=by
 have h:(Try.prog.info? 3).map (fun i=>(i.zero,i.size,i.bytes))=some (some (.int .i64 0),1,8):=by kernel_rfl
 obtain⟨i,hi,hz⟩:=Option.map_eq_some_iff.1 h
 simp only [Prod.mk.injEq] at hz
 exact⟨i,hi,hz.1,hz.2.1,hz.2.2⟩
def dN (M:MM):MM:={M with hi:=fun _=>false}
theorem J6 {M:MM} {r a x:Int} {k:Nat} (h:∀j,j<k→oU M r (uP a j)=true) (e:uP a k=x) (hu:oU M r x=true):∀j,j<k+1→oU M r (uP a j)=true:=by
 intro j hj
 by_cases rX:j=k
 ·subst rX;rw [e];exact hu
 ·exact h j (by omega)
end Go.Proofs.Ytcjcmnnhmajocab.Me
