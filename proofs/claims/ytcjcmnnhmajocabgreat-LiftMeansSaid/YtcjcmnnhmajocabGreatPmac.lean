import Derived.Test.YtcjcmnnhmajocabGreatPmab
set_option linter.unusedVariables false
set_option linter.unusedSimpArgs false
set_option maxRecDepth 100000
set_option maxHeartbeats 16000000
namespace Go.Proofs.YtcjcmnnhmajocabGreat.Fl
open Go.RowKit
def vI (j:Int) (z n y v:Bool):Bool:=if j=0 then v else if j=1 then y else if j=2 then z else if j=3 then y || z else if j=4 then n else if j=5 then n !=v else if j=6 then z || (n !=v) else true
def hd (c f:Int):Bool:=if c<0∨15<c then false else if c%2=1 then !(vI (c/2) (f%2==1) (f/2%2==1) (f/4%2==1) (f/8%2==1)) else vI (c/2) (f%2==1) (f/2%2==1) (f/4%2==1) (f/8%2==1)
theorem Qe (c f:Int) (h:c<0∨15<c):hd c f=false:=by unfold hd;rw [if_pos h]
theorem Zy (j:Nat) (hj:j<8) (f:Int):hd (2*(j:Int)) f=vI j (f%2==1) (f/2%2==1) (f/4%2==1) (f/8%2==1):=by
 unfold hd;rw [if_neg (by omega),if_neg (by omega),show 2*(j:Int)/2=j by omega]
theorem Zz (j:Nat) (hj:j<8) (f:Int):hd (2*(j:Int)+1) f= !vI j (f%2==1) (f/2%2==1) (f/4%2==1) (f/8%2==1):=by
 unfold hd;rw [if_neg (by omega),if_pos (by omega),show(2*(j:Int)+1)/2=j by omega]
theorem E5 (z n y v:Bool):∀j:Fin 8, [Value.bool v, .bool y, .bool z, .bool (y || z), .bool n, .bool (!n==v), .bool (z || (!n==v)), .bool true][j.1]= .bool (vI j.1 z n y v):=by
 intro j
 match j with
 | ⟨0,_⟩ | ⟨1,_⟩ | ⟨2,_⟩ | ⟨3,_⟩ | ⟨4,_⟩ | ⟨7,_⟩=>rfl
 | ⟨5,_⟩=>cases n<;>cases v<;>rfl
 | ⟨6,_⟩=>cases z<;>cases n<;>cases v<;>rfl
theorem Gt (j:Nat) (hj:j<8) (f:Int) (w:World) (h:0≤f) (g:f<4294967296):
  Calls Tryz.prog 92 #[.int .i64 (2*(j:Int)), .int .u32 f] w fun e w'=>e= .returned (.bool (hd (2*(j:Int)) f))∧Below w.heap.size w w':=by
 obtain⟨z,hz⟩:∃z,(f%2==1)=z:=⟨_,rfl⟩
 obtain⟨n,hn⟩:∃z,(f/2%2==1)=z:=⟨_,rfl⟩
 obtain⟨y,hy⟩:∃z,(f/4%2==1)=z:=⟨_,rfl⟩
 obtain⟨v,hv⟩:∃z,(f/8%2==1)=z:=⟨_,rfl⟩
 have H:=κ (Zy j hj f)
 have hb:=E5 z n y v ⟨j,hj⟩
 have e1:(2*(j:Int))%2=0:=by omega
 have e2:(2*(j:Int))/2=j:=by omega
 cases y<;>cases z
 all_goals
  simp only [Bool.false_or,Bool.true_or,Bool.or_false] at hb
  have Hb:=κ hb
  clear hb
  go_enter Tryz.func92,Tryz.ntmps92
  go_wp2_with fail
  go_ret
  exact⟨by rw [H.out,hz,hn,hy,hv,←Hb.out];rfl,(Below.refl _ _).alloc (Nat.le_refl _) _⟩
theorem Gv (j:Nat) (hj:j<8) (f:Int) (w:World) (h:0≤f) (g:f<4294967296):
  Calls Tryz.prog 92 #[.int .i64 (2*(j:Int)+1), .int .u32 f] w fun e w'=>e= .returned (.bool (hd (2*(j:Int)+1) f))∧Below w.heap.size w w':=by
 obtain⟨z,hz⟩:∃z,(f%2==1)=z:=⟨_,rfl⟩
 obtain⟨n,hn⟩:∃z,(f/2%2==1)=z:=⟨_,rfl⟩
 obtain⟨y,hy⟩:∃z,(f/4%2==1)=z:=⟨_,rfl⟩
 obtain⟨v,hv⟩:∃z,(f/8%2==1)=z:=⟨_,rfl⟩
 have H:=κ (Zz j hj f)
 have hb:=E5 z n y v ⟨j,hj⟩
 have e1:(2*(j:Int)+1)%2=1:=by omega
 have e2:(2*(j:Int)+1)/2=j:=by omega
 cases y<;>cases z
 all_goals
  simp only [Bool.false_or,Bool.true_or,Bool.or_false] at hb
  go_enter Tryz.func92,Tryz.ntmps92
  go_wp2_with fail
  go_ret
  exact⟨by rw [H.out,hz,hn,hy,hv];rfl,(Below.refl _ _).alloc (Nat.le_refl _) _⟩
theorem nZ (c f:Int) (w:World) (h:0≤f) (g:f<4294967296):
  Calls Tryz.prog 92 #[.int .i64 c, .int .u32 f] w fun e w'=>e= .returned (.bool (hd c f))∧Below w.heap.size w w':=by
 by_cases hc:c<0∨15<c
 ·have H:=κ (Qe c f hc)
  rcases hc with hc | hc
  all_goals
   go_enter Tryz.func92,Tryz.ntmps92
   go_wp2_with fail
   go_ret
   exact⟨by rw [H.out];rfl,Below.refl _ _⟩
 ·rcases(show c%2=0∨c%2=1 by omega) with hp | hp
  ·obtain⟨j,hj⟩:=Int.eq_ofNat_of_zero_le (show 0≤c/2 by omega)
   obtain rfl:c=2*(j:Int):=by omega
   exact Gt j (by omega) f w h g
  ·obtain⟨j,hj⟩:=Int.eq_ofNat_of_zero_le (show 0≤c/2 by omega)
   obtain rfl:c=2*(j:Int)+1:=by omega
   exact Gv j (by omega) f w h g
end Go.Proofs.YtcjcmnnhmajocabGreat.Fl
namespace Go.Proofs.YtcjcmnnhmajocabGreat.Kt
open Go.RowKit
theorem yt {P:Program} {ops:Array Oper} {rest:List Oper} {o:Oper} {a:Act} {w:World} {Q:Exit→Act→World→Prop} (hg:o.guard=none) {v:Value}
  (h:(execOp a.eval o).run P w= .ok (.value v) w) (hK:wpList P ops Q rest (a.put o.dst v) w):wpList P ops Q (o::rest) a w:=
 wpList_plain hg fun K hK'=>by
  unfold Oper.wp
  rw [h]
  exact hK' _ _ hK
theorem CV {P:Program} {ops:Array Oper} {rest:List Oper} {o:Oper} {a:Act} {w w':World} {Q:Exit→Act→World→Prop} (hg:o.guard=none) {v:Value}
  (h:(execOp a.eval o).run P w= .ok (.value v) w') (hK:wpList P ops Q rest (a.put o.dst v) w'):wpList P ops Q (o::rest) a w:=
 wpList_plain hg fun K hK'=>by
  unfold Oper.wp
  rw [h]
  exact hK' _ _ hK
theorem CX (w:World) (old cs:Array Value) (t:TypeId):(w.alloc (.cells old t)).setRow w.heap.size cs=w.alloc (.cells cs t):=by
 unfold World.setRow World.alloc
 congr 1
 apply Array.ext_getElem?
 intro k
 rw [Array.getElem?_modify]
 by_cases hk:w.heap.size=k
 ·subst hk
  simp
 ·have CG:k≠w.heap.size:=fun e=>hk e.symm
  simp [hk,CG,Array.getElem?_push]
theorem C9 {P:Program} {ops:Array Oper} {rest:List Oper} {o2 o3:Oper} {a:Act} {w:World} {Q:Exit→Act→World→Prop} (hg2:o2.guard=none) (hg3:o3.guard=none)
  (t:TypeId) (h2:o2.op= .alloc t) (x y:Operand) (h3:o3.op= .store t x y) (h3d:o3.dst=none) (i:TypeInfo) (z:Value) (hi:P.info? t=some i) (hz:i.zero=some z) (n:Nat) (hzs:z.cells.size=n) (hn:i.size=n)
  (cs:Array Value) (hcs:cs.size=n) (h1:cs.all (·.oneCell')=true)
  (hx:(a.put o2.dst (.pointer (some ⟨w.heap.size,0,none⟩))).eval x= .pointer (some ⟨w.heap.size,0,none⟩)) (hy:(a.put o2.dst (.pointer (some ⟨w.heap.size,0,none⟩))).eval y= .agg cs)
  (hK:wpList P ops Q rest (a.put o2.dst (.pointer (some ⟨w.heap.size,0,none⟩))) (w.alloc (.cells cs t))):wpList P ops Q (o2::o3::rest) a w:=by
 refine CV hg2 (v:= .pointer (some ⟨w.heap.size,0,none⟩)) (w':=w.alloc (.cells z.cells t)) ?_ ?_
 ·simp only [execOp,h2,Instr.alloc,Sem.run_bind,Sem.run_pure,zeroValue,typeInfo]
  simp [hi,hz,newVar,newRow]
 ·refine wpList_plain hg3 fun K hK'=> ?_
  have hw:(w.alloc (.cells z.cells t)).heap[w.heap.size]?=some (.cells z.cells t (0,0)):=heap_alloc_new w _
  have hr:=run_storeVar_row (P:=P) (w.alloc (.cells z.cells t)) w.heap.size t t z.cells cs hw (by simp [hi,hn,hcs]) (by rw [hzs,hcs]) h1
  rw [CX] at hr
  unfold Oper.wp
  have he:(execOp (a.put o2.dst (.pointer (some ⟨w.heap.size,0,none⟩))).eval o3).run P (w.alloc (.cells z.cells t))= .ok .skip (w.alloc (.cells cs t)):=by
   simp only [execOp,h3,hx,hy,Instr.storeAt,Instr.sureAddr,Sem.run_bind,Sem.run_pure,Result.andThen_ok,hr]
  rw [he]
  show K ((a.put o2.dst _).put o3.dst undef) _
  rw [h3d]
  exact hK' _ _ hK
end Go.Proofs.YtcjcmnnhmajocabGreat.Kt
