import Derived.Test.YtcjcmnnhmajocabGreatPmaa
import Derived.Handy
import Derived.Deep.DeepCutAuto
set_option linter.unusedVariables false
set_option linter.unusedSimpArgs false
set_option maxRecDepth 100000
set_option maxHeartbeats 16000000
namespace Go.Proofs.YtcjcmnnhmajocabGreat.Gu
open Go.RowKit
structure Rw where
 op:Int
 sh:Int
 lo:Int
 fi:Int
def Rw.cells (c:Rw):Array Value:= #[.int .i64 c.op, .int .i64 c.sh, .int .i64 c.lo, .int .i64 c.fi]
def bW (f n o s i b:Int) (c:Rw):Rw:=if f≤b∧b<f+n then⟨o,s,b-f,i⟩ else c
def St (x r:Nat) (b:Int) (c:Rw) (w:World):Prop:=w.heap[x]?=some (.cells #[.int .i64 b] 3 (0,0))∧w.heap[r]?=some (.cells c.cells 206 (0,0))∧x≠r
theorem tJ (f n o s i b:Int) (c:Rw) (x r B:Nat) (w:World) (hf:0≤f∧f<1000) (hn:0≤n∧n<1000) (hb:0≤b∧b<256) (hx:B≤x) (hr:B≤r) (h:St x r b c w):
  Calls Tryz.prog 179 #[.int .i64 f, .int .i64 n, .int .i64 o, .int .i64 s, .int .i64 i, .pointer (some ⟨x,0,none⟩), .pointer (some ⟨r,0,none⟩)] w fun e w'=>e= .returned (.tuple #[])∧St x r b (bW f n o s i b c) w'∧Below B w w':=by
 obtain⟨h1,h2,h3⟩:=h
 have cx:=cell_of_row w x 0 _ _ _ h1
 have c0:=cell_of_row w r 0 _ _ _ h2
 have c1:=cell_of_row w r 1 _ _ _ h2
 have c2:=cell_of_row w r 2 _ _ _ h2
 have c3:=cell_of_row w r 3 _ _ _ h2
 have z0:=frozen_of_row w r 0 _ _ h2
 have z1:=frozen_of_row w r 1 _ _ h2
 have z2:=frozen_of_row w r 2 _ _ h2
 have z3:=frozen_of_row w r 3 _ _ h2
 simp only [Rw.cells,List.getElem?_toArray,List.getElem?_cons_zero,List.getElem?_cons_succ] at cx c0 c1 c2 c3
 obtain⟨f0,f1⟩:=hf
 obtain⟨n0,n1⟩:=hn
 obtain⟨b0,b1⟩:=hb
 have H1:=κ h1
 have H2:=κ h2
 clear h1 h2
 by_cases hc:f≤b∧b<f+n
 ·have e:bW f n o s i b c=⟨o,s,b-f,i⟩:=if_pos hc
  rw [e]
  clear e
  obtain⟨k0,k1⟩:=hc
  go_enter Tryz.func179,Tryz.ntmps179
  go_wp2
  go_end0
  refine⟨rfl,⟨?_, ?_,h3⟩, ?_⟩
  ·exact(heap_setCell_other _ _ _ _ h3).trans ((heap_setCell_other _ _ _ _ h3).trans ((heap_setCell_other _ _ _ _ h3).trans ((heap_setCell_other _ _ _ _ h3).trans H1.out)))
  ·exact heap_setCell_same _ _ _ _ _ _ (heap_setCell_same _ _ _ _ _ _ (heap_setCell_same _ _ _ _ _ _ (heap_setCell_same _ _ _ _ _ _ H2.out)))
  ·exact((((Below.refl _ _).setCell hr _).setCell hr _).setCell hr _).setCell hr _
 ·have e:bW f n o s i b c=c:=if_neg hc
  rw [e]
  clear e
  by_cases k0:f≤b
  ·have k1:¬b<f+n:=by omega
   go_enter Tryz.func179,Tryz.ntmps179
   go_wp2
   go_end0
   exact⟨rfl,⟨H1.out,H2.out,h3⟩,Below.refl _ _⟩
  ·go_enter Tryz.func179,Tryz.ntmps179
   go_wp2
   go_end0
   exact⟨rfl,⟨H1.out,H2.out,h3⟩,Below.refl _ _⟩
def z4:Rw:=⟨0,0,0,0⟩
def yY (b:Int):Rw:=
 bW 165 3 31 8 3 b (bW 160 5 30 8 3 b (bW 144 16 29 10 3 b (bW 128 16 28 9 3 b (bW 112 16 27 6 3 b (bW 105 1 22 6 0 b (bW 104 1 21 7 0 b
  (bW 109 1 26 8 0 b (bW 96 8 20 1 1 b (bW 108 1 25 8 0 b (bW 88 8 19 1 1 b (bW 107 1 24 8 0 b (bW 80 8 18 1 1 b (bW 106 1 23 8 0 b (bW 72 8 17 1 1 b
   (bW 64 8 16 11 1 b (bW 56 8 15 1 1 b (bW 48 8 14 1 2 b (bW 32 16 13 4 3 b (bW 16 16 12 3 3 b z4)))))))))))))))))))
theorem afe (w:World) (X Y Z:Array Value) (t u v:TypeId):
  (((w.alloc (.cells X t)).alloc (.cells Y u)).alloc (.cells Z v)).heap[w.heap.size]?=some (.cells X t (0,0))∧(((w.alloc (.cells X t)).alloc (.cells Y u)).alloc (.cells Z v)).heap[w.heap.size+1]?=some (.cells Y u (0,0))∧
   (((w.alloc (.cells X t)).alloc (.cells Y u)).alloc (.cells Z v)).heap[w.heap.size+1+1]?=some (.cells Z v (0,0))∧Below w.heap.size w (((w.alloc (.cells X t)).alloc (.cells Y u)).alloc (.cells Z v))∧
    w.heap.size+1+1<(((w.alloc (.cells X t)).alloc (.cells Y u)).alloc (.cells Z v)).heap.size:=by
 have e1:(w.alloc (.cells X t)).heap.size=w.heap.size+1:=by simp
 have e2:((w.alloc (.cells X t)).alloc (.cells Y u)).heap.size=w.heap.size+1+1:=by simp
 refine⟨?_, ?_, ?_,(((Below.refl _ _).alloc (Nat.le_refl _) _).alloc (by simp) _).alloc (by simp;omega) _,by simp⟩
 ·exact(Below.heap_alloc _ _ _ (by simp;omega)).trans ((Below.heap_alloc _ _ _ (by simp)).trans (heap_alloc_new w _))
 ·have:=heap_alloc_new (w.alloc (.cells X t)) (.cells Y u)
  rw [e1] at this
  exact(Below.heap_alloc _ _ _ (by simp)).trans this
 ·have:=heap_alloc_new ((w.alloc (.cells X t)).alloc (.cells Y u)) (.cells Z v)
  rw [e2] at this
  exact this
theorem SE (b:Int) (h1:12≤b) (h2:b<256) (w:World):Calls Tryz.prog 112 #[.int .u8 b] w fun e w'=>e= .returned (.agg (yY b).cells)∧Below w.heap.size w w':=by
 have qQ:0≤b∧b<256:=⟨by omega,h2⟩
 generalize hc:yY b=c
 obtain⟨q0,q1,q2,q3⟩:=c
 have HC:=κ hc
 clear hc
 unfold Rw.cells
 dsimp only
 go_enter Tryz.func112,Tryz.ntmps112
 go_upto_region 7 with fail
 obtain⟨g0,g1,g2,g3,g4⟩:=afe w z4.cells #[.int .i64 b] z4.cells 206 3 206
 have rD:St (w.heap.size+1) (w.heap.size+1+1) b z4 (((w.alloc (.cells z4.cells 206)).alloc (.cells #[.int .i64 b] 3)).alloc (.cells z4.cells 206)):=⟨g1,g2,by omega⟩
 change Code.wp _ _ _ _ (((w.alloc (.cells z4.cells 206)).alloc (.cells #[.int .i64 b] 3)).alloc (.cells z4.cells 206))
 generalize((w.alloc (.cells z4.cells 206)).alloc (.cells #[.int .i64 b] 3)).alloc (.cells z4.cells 206)=wA at g0 g3 g4 rD⊢
 have hx:w.heap.size+1≤w.heap.size+1:=Nat.le_refl _
 have hr:w.heap.size+1≤w.heap.size+1+1:=Nat.le_succ _
 have dh:w.heap.size<w.heap.size+1:=by omega
 have G0:=κ g0
 have G3:=κ g3
 clear g0 g1 g2 g3
 generalize hz:w.heap.size+1+1=r at rD hr g4⊢
 generalize hy:w.heap.size+1=x at rD hr hx hz dh⊢
 have HY:=κ hy
 clear hy hz
 have Io:=Below.refl x wA
 go_wp2_with (go_at_call 179;refine(tJ _ _ _ _ _ b _ x r x _ (by omega) (by omega) qQ hx hr (by assumption)).mono ?_;rintro e w2 ⟨rfl,rD,qF⟩;have Io:Below x wA w2:=Below.trans (by assumption) qF)
 refine wp_loop_rounds 5 ?_
 rw [rounds_succ]
 go_wp2_with (go_at_call 179;refine(tJ _ _ _ _ _ b _ x r x _ (by omega) (by omega) qQ hx hr (by assumption)).mono ?_;rintro e w2 ⟨rfl,rD,qF⟩;have Io:Below x wA w2:=Below.trans (by assumption) qF)
 rw [rounds_succ]
 go_wp2_with (go_at_call 179;refine(tJ _ _ _ _ _ b _ x r x _ (by omega) (by omega) qQ hx hr (by assumption)).mono ?_;rintro e w2 ⟨rfl,rD,qF⟩;have Io:Below x wA w2:=Below.trans (by assumption) qF)
 rw [rounds_succ]
 go_wp2_with (go_at_call 179;refine(tJ _ _ _ _ _ b _ x r x _ (by omega) (by omega) qQ hx hr (by assumption)).mono ?_;rintro e w2 ⟨rfl,rD,qF⟩;have Io:Below x wA w2:=Below.trans (by assumption) qF)
 rw [rounds_succ]
 go_wp2_with (go_at_call 179;refine(tJ _ _ _ _ _ b _ x r x _ (by omega) (by omega) qQ hx hr (by assumption)).mono ?_;rintro e w2 ⟨rfl,rD,qF⟩;have Io:Below x wA w2:=Below.trans (by assumption) qF)
 rw [rounds_succ]
 go_upto_region 25 with(go_at_call 179;refine(tJ _ _ _ _ _ b _ x r x _ (by omega) (by omega) qQ hx hr (by assumption)).mono ?_;rintro e w2 ⟨rfl,rD,qF⟩;have Io:Below x wA w2:=Below.trans (by assumption) qF)
 have uN:St x r b ⟨q0,q1,q2,q3⟩ w2:=by rw [←HC.out];exact rD
 have SG:=Io
 have gr:=(SG.block w.heap.size dh).trans G0.out
 have uH:Below w.heap.size w w2:=G3.out.trans (SG.mono (by omega))
 clear rD qF Io
 have k0:=cell_of_row w2 r 0 _ _ _ uN.2.1
 have k1:=cell_of_row w2 r 1 _ _ _ uN.2.1
 have k2:=cell_of_row w2 r 2 _ _ _ uN.2.1
 have k3:=cell_of_row w2 r 3 _ _ _ uN.2.1
 have m0:=cell_of_row w2 w.heap.size 0 _ _ _ gr
 have m1:=cell_of_row w2 w.heap.size 1 _ _ _ gr
 have m2:=cell_of_row w2 w.heap.size 2 _ _ _ gr
 have m3:=cell_of_row w2 w.heap.size 3 _ _ _ gr
 have n0:=frozen_of_row w2 w.heap.size 0 _ _ gr
 have n1:=frozen_of_row w2 w.heap.size 1 _ _ gr
 have n2:=frozen_of_row w2 w.heap.size 2 _ _ gr
 have n3:=frozen_of_row w2 w.heap.size 3 _ _ gr
 have jS:w.heap.size<w2.heap.size:=by
  have:=uH.size
  have:=SG.size
  omega
 simp only [Rw.cells,z4,List.getElem?_toArray,List.getElem?_cons_zero,List.getElem?_cons_succ] at k0 k1 k2 k3 m0 m1 m2 m3
 clear uN SG gr
 go_wp2
 refine bodyPost_ret (v:= .agg #[.int .i64 q0, .int .i64 q1, .int .i64 q2, .int .i64 q3]) (by simp [results,Tryz.results112,go_sem,m0,m1,m2,m3]) rfl ⟨rfl, ?_⟩
 exact(((uH.setCell (Nat.le_refl _) _).setCell (Nat.le_refl _) _).setCell (Nat.le_refl _) _).setCell (Nat.le_refl _) _
end Go.Proofs.YtcjcmnnhmajocabGreat.Gu
