import Derived.Deep.OwnRows
import Derived.Test.YtcjcmnnhmajocabGreatPmai
set_option linter.unusedVariables false
set_option linter.unusedSimpArgs false
set_option maxRecDepth 100000
set_option maxHeartbeats 16000000
namespace Go.Proofs.YtcjcmnnhmajocabGreat.Me
open Go.RowKit Kt
def xk (z:Value) (n:Nat):Array Value:=madeCells #[z] n
theorem xk.get (z:Value) (n i:Nat) (h:i<n):(xk z n)[i]?=some z:=by unfold xk;simp [madeCells,h,Nat.mod_one]
theorem pY (w:World) (o:Obj) (k:Nat) (h:w.heap.size=k):(w.alloc o).heap[k]?=some o:=by subst h;exact heap_alloc_new w o
theorem jT {w:World} {o o':Obj} {k:Nat} (h:w.heap[k]?=some o):(w.alloc o').heap[k]?=some o:=by
 rw [Below.heap_alloc w o' k (Array.getElem?_eq_some_iff.1 h).1];exact h
theorem VF (w W4:World) (q b r m t:Nat) (uH:Below w.heap.size w W4) (hq:W4.heap.size=q)
  (hb:W4.heap[b]?=some (.cells (xk (.int .u8 0) 65536) 5 (0,0))) (hr:W4.heap[r]?=some (.cells (xk (.int .i64 0) 256) 3 (0,0))) (hm:W4.heap[m]?=some (.cells (xk (.bool false) 256) 4 (0,0))) (ht:W4.heap[t]?=some (.cells (xk (.bool false) 256) 4 (0,0)))
  (ZB:w.heap.size≤b∧w.heap.size≤r∧w.heap.size≤m∧w.heap.size≤t) (dR:b≠r∧b≠m∧b≠t∧r≠m∧r≠t∧m≠t):
  ∃P:RP,Ending.returned (.pointer (some ⟨q,0,none⟩))=Ending.returned (.pointer (some ⟨P.q,0,none⟩))∧RM P M0 (W4.alloc (.cells #[.slice (some ⟨b,0,none⟩) 65536 65536, .slice (some ⟨r,0,none⟩) 256 256, .slice (some ⟨m,0,none⟩) 256 256, .slice (some ⟨t,0,none⟩) 256 256] 133)).drew∧
   Below w.heap.size w (W4.alloc (.cells #[.slice (some ⟨b,0,none⟩) 65536 65536, .slice (some ⟨r,0,none⟩) 256 256, .slice (some ⟨m,0,none⟩) 256 256, .slice (some ⟨t,0,none⟩) 256 256] 133)).drew∧(∀k,P.has k→w.heap.size≤k):=by
 have lb:=(Array.getElem?_eq_some_iff.1 hb).1
 have lr:=(Array.getElem?_eq_some_iff.1 hr).1
 have lm:=(Array.getElem?_eq_some_iff.1 hm).1
 have lt:=(Array.getElem?_eq_some_iff.1 ht).1
 have hs:=uH.size
 obtain⟨n1,n2,n3,n4,n5,n6⟩:=dR
 generalize hz:(.cells #[.slice (some ⟨b,0,none⟩) 65536 65536, .slice (some ⟨r,0,none⟩) 256 256, .slice (some ⟨m,0,none⟩) 256 256, .slice (some ⟨t,0,none⟩) 256 256] 133:Obj)=Z
 have tq:=(pY W4 Z q hq).trans (congrArg some hz.symm)
 have tb:=jT (o':=Z) hb
 have tr:=jT (o':=Z) hr
 have tm:=jT (o':=Z) hm
 have tt:=jT (o':=Z) ht
 have sz:(W4.alloc Z).heap.size=W4.heap.size+1:=by simp
 have R:RM ⟨q,b,r,m,t,65536,256,256,256,Nat.le_refl _⟩ M0 (W4.alloc Z):=by
  refine⟨(show q≠b∧q≠r∧q≠m∧q≠t∧b≠r∧b≠m∧b≠t∧r≠m∧r≠t∧m≠t from⟨by omega,by omega,by omega,by omega,n1,n2,n3,n4,n5,n6⟩), ?_, ?_, ?_, ?_,fun j hj=> ?_,fun j hj=> ?_,fun j hj=> ?_,fun j hj=> ?_,fun j=>frozen_of_row _ _ _ _ _ tb,fun j=>frozen_of_row _ _ _ _ _ tr,fun j=>frozen_of_row _ _ _ _ _ tm,fun j=>frozen_of_row _ _ _ _ _ tt, ?_, ?_, ?_, ?_, ?_⟩
  ·rw [cell_of_row _ _ _ _ _ _ tq];rfl
  ·rw [cell_of_row _ _ _ _ _ _ tq];rfl
  ·rw [cell_of_row _ _ _ _ _ _ tq];rfl
  ·rw [cell_of_row _ _ _ _ _ _ tq];rfl
  ·rw [cell_of_row _ _ _ _ _ _ tb,xk.get _ _ _ hj];rfl
  ·rw [cell_of_row _ _ _ _ _ _ tr,xk.get _ _ _ hj];rfl
  ·rw [cell_of_row _ _ _ _ _ _ tm,xk.get _ _ _ hj];rfl
  ·rw [cell_of_row _ _ _ _ _ _ tt,xk.get _ _ _ hj];rfl
  ·show q<_;omega
  ·show b<_;omega
  ·show r<_;omega
  ·show m<_;omega
  ·show t<_;omega
 refine⟨⟨q,b,r,m,t,65536,256,256,256,Nat.le_refl _⟩,rfl,R.drew,(uH.alloc hs _).drew, ?_⟩
 obtain⟨g1,g2,g3,g4⟩:=ZB
 rintro k (h | h | h | h | h)
 all_goals rw [h]
 ·show w.heap.size≤q
  exact hq▸hs
 ·exact g1
 ·exact g2
 ·exact g3
 ·exact g4
theorem KE (w:World):Calls Tryz.prog 46 #[] w fun e w'=>∃P:RP,e= .returned (.pointer (some ⟨P.q,0,none⟩))∧RM P M0 w'∧Below w.heap.size w w'∧(∀k,P.has k→w.heap.size≤k):=by
 have m1:∀w,(Instr.makeSlice 34 (.int .i64 65536) (.int .i64 65536)).run Tryz.prog w= .ok (.slice (some ⟨w.heap.size,0,none⟩) 65536 65536) (w.alloc (.cells (xk (.int .u8 0) 65536) 5)):=fun w=>by
  obtain⟨i,hi,hz,hs,hb⟩:=Gu.og
  exact run_make_row 34 5 i (.int .u8 0) Tryz.underlying34 hi hz hs rfl .i64 .i64 65536 (by rw [hb];omega) (by omega) w
 have m2:∀w,(Instr.makeSlice 45 (.int .i64 256) (.int .i64 256)).run Tryz.prog w= .ok (.slice (some ⟨w.heap.size,0,none⟩) 256 256) (w.alloc (.cells (xk (.int .i64 0) 256) 3)):=fun w=>by
  obtain⟨i,hi,hz,hs,hb⟩:=Ae
  exact run_make_row 45 3 i (.int .i64 0) Tryz.underlying45 hi hz hs rfl .i64 .i64 256 (by rw [hb];omega) (by omega) w
 have m3:∀w,(Instr.makeSlice 131 (.int .i64 256) (.int .i64 256)).run Tryz.prog w= .ok (.slice (some ⟨w.heap.size,0,none⟩) 256 256) (w.alloc (.cells (xk (.bool false) 256) 4)):=fun w=>by
  have hh:(Tryz.prog.info? 4).map (fun i=>(i.zero,i.size,i.bytes))=some (some (.bool false),1,1):=by kernel_rfl
  exact run_make_row' 131 4 (.bool false) 1 Tryz.underlying131 hh rfl .i64 .i64 256 (by omega) (by omega) w
 have HF:=κ VF
 generalize xk (.int .u8 0) 65536=Z1 at m1 HF
 generalize xk (.int .i64 0) 256=Z2 at m2 HF
 generalize xk (.bool false) 256=Z3 at m3 HF
 go_enter Tryz.func46,Tryz.ntmps46
 go_wp2
 go_region
 all_goals clear m1 m2 m3
 all_goals go_wp2
 all_goals go_ret
 all_goals refine HF.out w _ _ _ _ _ _ (((((Below.refl _ _).alloc (by simp) _).alloc (by simp) _).alloc (by simp;omega) _).alloc (by simp;omega) _) (by simp) ?_ ?_ ?_ ?_ (by omega) (by omega)
 all_goals first
  | (refine pY _ _ _ ?_;simp;done)
  | (refine jT (pY _ _ _ ?_);simp;done)
  | (refine jT (jT (pY _ _ _ ?_));simp;done)
  | (refine jT (jT (jT (pY _ _ _ ?_)));simp;done)
end Go.Proofs.YtcjcmnnhmajocabGreat.Me
