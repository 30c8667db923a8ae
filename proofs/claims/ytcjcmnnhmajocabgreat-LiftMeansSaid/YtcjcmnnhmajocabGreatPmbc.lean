import Derived.Test.YtcjcmnnhmajocabGreatPmaf
set_option linter.unusedVariables false
set_option linter.unusedSimpArgs false
set_option maxRecDepth 100000
set_option maxHeartbeats 16000000
namespace Go.Proofs.YtcjcmnnhmajocabGreat.Gu
open Go.RowKit
theorem jA (x:Int) (h:0≤x) (g:x<256):bits .and .u8 x 15=x%16:=bits_mask .u8 8 (by decide) (fun n Vk Vl=>by rw [IntKind.wrap_u8];omega) 4 (by decide) x h g
def fP (o d s f m:Int):Array Value:= #[.int .i64 o, .int .i64 d, .int .i64 s, .int .i64 f, .int .u32 m]
def gQ (X:Nat) (cs:Array Value) (w w':World):Prop:=
 w'.heap[X]?=some (.cells cs 74 (0,0))∧w'.heap.size=w.heap.size∧(∀k,k≠X→w'.heap[k]?=w.heap[k]?)∧∀B,B≤X→Below B w w'
theorem gQ.start {X:Nat} {cs:Array Value} {w:World} (h:w.heap[X]?=some (.cells cs 74 (0,0))):gQ X cs w w:=⟨h,rfl,fun _ _=>rfl,fun B _=>Below.refl B w⟩
theorem gQ.set {X:Nat} {cs:Array Value} {w w':World} (h:gQ X cs w w') (j:Nat) (v:Value):gQ X (cs.setIfInBounds j v) w (w'.setCell ⟨X,j,none⟩ v):=
 ⟨heap_setCell_same _ _ _ _ _ _ h.1,by rw [←h.2.1];simp,fun k hk=>(heap_setCell_other _ _ _ _ hk).trans (h.2.2.1 k hk),fun B hB=>(h.2.2.2 B hB).setCell hB _⟩
theorem gQ.drew {X:Nat} {cs:Array Value} {w w':World} (h:gQ X cs w w'):gQ X cs w w'.drew:=⟨h.1,h.2.1,h.2.2.1,fun B hB=>(h.2.2.2 B hB).drew⟩
theorem gQ.drewN {X:Nat} {cs:Array Value} {w w':World} (h:gQ X cs w w') (n:Nat):gQ X cs w (w'.drewN n):=⟨h.1,h.2.1,h.2.2.1,fun B hB=>⟨(h.2.2.2 B hB).os,(h.2.2.2 B hB).tape,(h.2.2.2 B hB).output,(h.2.2.2 B hB).size,(h.2.2.2 B hB).block⟩⟩
theorem Xj (X g off n cap:Nat) (o d s f m a0:Int) (w:World) (hX:w.heap[X]?=some (.cells (fP o d s f m) 74 (0,0))) (dR:g≠X) (hn:1≤n) (jh:0≤a0∧a0<256) (c0:w.cell? ⟨g,off,none⟩=some (.int .u8 a0)):
  Calls Tryz.prog 115 #[.pointer (some ⟨X,0,none⟩), .int .i64 2, .slice (some ⟨g,off,none⟩) n cap] w fun e w'=>e= .returned (.bool (decide (d<8)&&decide (s<8)))∧gQ X (fP o d s f a0) w w':=by
 have n0:(0:Int) <(n:Int):=by omega
 have su:=jA a0 jh.1 jh.2
 have SH:=κ (aJ a0 jh.1 jh.2)
 obtain⟨l0,u0⟩:=jh
 have x0:=cell_of_row w X 0 _ _ _ hX
 have z0:=frozen_of_row w X 0 _ _ hX
 have x1:=cell_of_row w X 1 _ _ _ hX
 have z1:=frozen_of_row w X 1 _ _ hX
 have x2:=cell_of_row w X 2 _ _ _ hX
 have z2:=frozen_of_row w X 2 _ _ hX
 have x3:=cell_of_row w X 3 _ _ _ hX
 have z3:=frozen_of_row w X 3 _ _ hX
 have x4:=cell_of_row w X 4 _ _ _ hX
 have z4:=frozen_of_row w X 4 _ _ hX
 simp only [fP,List.getElem?_toArray,List.getElem?_cons_zero,List.getElem?_cons_succ] at x0 x1 x2 x3 x4
 have HX:=κ (gQ.start hX)
 clear hX
 go_enter Tryz.func115,Tryz.ntmps115
 go_wp2
 all_goals go_ret
 all_goals refine⟨congrArg (fun b=>Ending.returned (.bool b)) ?_,(gQ.set HX.out 4 (.int .u32 a0))⟩
 all_goals(rw [Bool.eq_iff_iff];simp [*] <;>omega)
theorem Xk (X g off n cap:Nat) (o d s f m a0:Int) (w:World) (hX:w.heap[X]?=some (.cells (fP o d s f m) 74 (0,0))) (dR:g≠X) (hn:1≤n) (jh:0≤a0∧a0<256) (c0:w.cell? ⟨g,off,none⟩=some (.int .u8 a0)):
  Calls Tryz.prog 115 #[.pointer (some ⟨X,0,none⟩), .int .i64 3, .slice (some ⟨g,off,none⟩) n cap] w fun e w'=>e= .returned (.bool (decide (d<8)&&decide (s<8)))∧gQ X (fP o d s f (xM a0)) w w':=by
 have n0:(0:Int) <(n:Int):=by omega
 have su:=jA a0 jh.1 jh.2
 have SH:=κ (aJ a0 jh.1 jh.2)
 obtain⟨l0,u0⟩:=jh
 have x0:=cell_of_row w X 0 _ _ _ hX
 have z0:=frozen_of_row w X 0 _ _ hX
 have x1:=cell_of_row w X 1 _ _ _ hX
 have z1:=frozen_of_row w X 1 _ _ hX
 have x2:=cell_of_row w X 2 _ _ _ hX
 have z2:=frozen_of_row w X 2 _ _ hX
 have x3:=cell_of_row w X 3 _ _ _ hX
 have z3:=frozen_of_row w X 3 _ _ hX
 have x4:=cell_of_row w X 4 _ _ _ hX
 have z4:=frozen_of_row w X 4 _ _ hX
 simp only [fP,List.getElem?_toArray,List.getElem?_cons_zero,List.getElem?_cons_succ] at x0 x1 x2 x3 x4
 have HX:=κ (gQ.start hX)
 clear hX
 go_enter Tryz.func115,Tryz.ntmps115
 go_wp2_with (go_at_call 180;refine(SH.out _).mono ?_;rintro e w' ⟨rfl,rfl⟩)
 all_goals go_ret
 all_goals refine⟨congrArg (fun b=>Ending.returned (.bool b)) ?_,(gQ.set HX.out 4 (.int .u32 (xM a0)))⟩
 all_goals(rw [Bool.eq_iff_iff];simp [*] <;>omega)
theorem Xl (X g off n cap:Nat) (o d s f m a0 a1 a2 a3:Int) (w:World) (hX:w.heap[X]?=some (.cells (fP o d s f m) 74 (0,0))) (dR:g≠X) (hn:4≤n) (jh:0≤a0∧a0<256) (sD:0≤a1∧a1<256) (Ip:0≤a2∧a2<256) (Iq:0≤a3∧a3<256) (c0:w.cell? ⟨g,off,none⟩=some (.int .u8 a0)) (c1:w.cell? ⟨g,off+1,none⟩=some (.int .u8 a1)) (c2:w.cell? ⟨g,off+2,none⟩=some (.int .u8 a2)) (c3:w.cell? ⟨g,off+3,none⟩=some (.int .u8 a3)):
  Calls Tryz.prog 115 #[.pointer (some ⟨X,0,none⟩), .int .i64 4, .slice (some ⟨g,off,none⟩) n cap] w fun e w'=>e= .returned (.bool (decide (d<8)&&decide (s<8)))∧gQ X (fP o d s f (four a0 a1 a2 a3)) w w':=by
 have n0:(0:Int) <(n:Int):=by omega
 have su:=jA a0 jh.1 jh.2
 have SH:=κ (aJ a0 jh.1 jh.2)
 obtain⟨l0,u0⟩:=jh
 have n1:(1:Int) <(n:Int):=by omega
 have Nj:=jA a1 sD.1 sD.2
 have Xm:=κ (aJ a1 sD.1 sD.2)
 obtain⟨l1,u1⟩:=sD
 have n2:(2:Int) <(n:Int):=by omega
 have abg:=jA a2 Ip.1 Ip.2
 have sg2:=κ (aJ a2 Ip.1 Ip.2)
 obtain⟨l2,u2⟩:=Ip
 have n3:(3:Int) <(n:Int):=by omega
 have abh:=jA a3 Iq.1 Iq.2
 have sg3:=κ (aJ a3 Iq.1 Iq.2)
 obtain⟨l3,u3⟩:=Iq
 have x0:=cell_of_row w X 0 _ _ _ hX
 have z0:=frozen_of_row w X 0 _ _ hX
 have x1:=cell_of_row w X 1 _ _ _ hX
 have z1:=frozen_of_row w X 1 _ _ hX
 have x2:=cell_of_row w X 2 _ _ _ hX
 have z2:=frozen_of_row w X 2 _ _ hX
 have x3:=cell_of_row w X 3 _ _ _ hX
 have z3:=frozen_of_row w X 3 _ _ hX
 have x4:=cell_of_row w X 4 _ _ _ hX
 have z4:=frozen_of_row w X 4 _ _ hX
 simp only [fP,List.getElem?_toArray,List.getElem?_cons_zero,List.getElem?_cons_succ] at x0 x1 x2 x3 x4
 have HX:=κ (gQ.start hX)
 clear hX
 go_enter Tryz.func115,Tryz.ntmps115
 have Nk:=κ (vN g off n cap a0 a1 a2 a3 w (by omega) ⟨l0,u0⟩ ⟨l1,u1⟩ ⟨l2,u2⟩ ⟨l3,u3⟩ c0 c1 c2 c3)
 go_wp2_with (go_at_call 181;refine(Nk.out).mono ?_;rintro e w' ⟨rfl,m4,rfl⟩)
 all_goals go_ret
 all_goals refine⟨congrArg (fun b=>Ending.returned (.bool b)) ?_,(gQ.set (gQ.drewN HX.out _) 4 (.int .u32 (four a0 a1 a2 a3)))⟩
 all_goals(rw [Bool.eq_iff_iff];simp [*] <;>omega)
theorem Xn (X g off n cap:Nat) (o d s f m a0:Int) (w:World) (hX:w.heap[X]?=some (.cells (fP o d s f m) 74 (0,0))) (dR:g≠X) (hn:1≤n) (jh:0≤a0∧a0<256) (c0:w.cell? ⟨g,off,none⟩=some (.int .u8 a0)):
  Calls Tryz.prog 115 #[.pointer (some ⟨X,0,none⟩), .int .i64 5, .slice (some ⟨g,off,none⟩) n cap] w fun e w'=>e= .returned (.bool (decide (d<8)&&decide (a0<8)))∧gQ X (fP o d a0 f m) w w':=by
 have n0:(0:Int) <(n:Int):=by omega
 have su:=jA a0 jh.1 jh.2
 have SH:=κ (aJ a0 jh.1 jh.2)
 obtain⟨l0,u0⟩:=jh
 have x0:=cell_of_row w X 0 _ _ _ hX
 have z0:=frozen_of_row w X 0 _ _ hX
 have x1:=cell_of_row w X 1 _ _ _ hX
 have z1:=frozen_of_row w X 1 _ _ hX
 have x2:=cell_of_row w X 2 _ _ _ hX
 have z2:=frozen_of_row w X 2 _ _ hX
 have x3:=cell_of_row w X 3 _ _ _ hX
 have z3:=frozen_of_row w X 3 _ _ hX
 have x4:=cell_of_row w X 4 _ _ _ hX
 have z4:=frozen_of_row w X 4 _ _ hX
 simp only [fP,List.getElem?_toArray,List.getElem?_cons_zero,List.getElem?_cons_succ] at x0 x1 x2 x3 x4
 have HX:=κ (gQ.start hX)
 clear hX
 go_enter Tryz.func115,Tryz.ntmps115
 go_wp2
 all_goals go_ret
 all_goals refine⟨congrArg (fun b=>Ending.returned (.bool b)) ?_,(gQ.set HX.out 2 (.int .i64 a0))⟩
 all_goals(rw [Bool.eq_iff_iff];simp [*] <;>omega)
theorem Xo (X g off n cap:Nat) (o d s f m a0:Int) (w:World) (hX:w.heap[X]?=some (.cells (fP o d s f m) 74 (0,0))) (dR:g≠X) (hn:1≤n) (jh:0≤a0∧a0<256) (c0:w.cell? ⟨g,off,none⟩=some (.int .u8 a0)):
  Calls Tryz.prog 115 #[.pointer (some ⟨X,0,none⟩), .int .i64 6, .slice (some ⟨g,off,none⟩) n cap] w fun e w'=>e= .returned (.bool (decide ((a0/16) <8)&&decide ((a0%16) <8)))∧gQ X (fP o (a0/16) (a0%16) f m) w w':=by
 have n0:(0:Int) <(n:Int):=by omega
 have su:=jA a0 jh.1 jh.2
 have SH:=κ (aJ a0 jh.1 jh.2)
 obtain⟨l0,u0⟩:=jh
 have x0:=cell_of_row w X 0 _ _ _ hX
 have z0:=frozen_of_row w X 0 _ _ hX
 have x1:=cell_of_row w X 1 _ _ _ hX
 have z1:=frozen_of_row w X 1 _ _ hX
 have x2:=cell_of_row w X 2 _ _ _ hX
 have z2:=frozen_of_row w X 2 _ _ hX
 have x3:=cell_of_row w X 3 _ _ _ hX
 have z3:=frozen_of_row w X 3 _ _ hX
 have x4:=cell_of_row w X 4 _ _ _ hX
 have z4:=frozen_of_row w X 4 _ _ hX
 simp only [fP,List.getElem?_toArray,List.getElem?_cons_zero,List.getElem?_cons_succ] at x0 x1 x2 x3 x4
 have HX:=κ (gQ.start hX)
 clear hX
 go_enter Tryz.func115,Tryz.ntmps115
 go_wp2
 go_region
 go_wp2
 all_goals go_ret
 all_goals refine⟨congrArg (fun b=>Ending.returned (.bool b)) ?_,(gQ.set (gQ.set HX.out 1 (.int .i64 (a0/16))) 2 (.int .i64 (a0%16))).drew⟩
 all_goals(rw [Bool.eq_iff_iff];simp [*] <;>omega)
theorem Xp (X g off n cap:Nat) (o d s f m a0:Int) (w:World) (hX:w.heap[X]?=some (.cells (fP o d s f m) 74 (0,0))) (dR:g≠X) (hn:1≤n) (jh:0≤a0∧a0<256) (c0:w.cell? ⟨g,off,none⟩=some (.int .u8 a0)):
  Calls Tryz.prog 115 #[.pointer (some ⟨X,0,none⟩), .int .i64 7, .slice (some ⟨g,off,none⟩) n cap] w fun e w'=>e= .returned (.bool (decide ((a0%16) <8)&&decide (s<8)))∧gQ X (fP o (a0%16) s (a0/16) m) w w':=by
 have n0:(0:Int) <(n:Int):=by omega
 have su:=jA a0 jh.1 jh.2
 have SH:=κ (aJ a0 jh.1 jh.2)
 obtain⟨l0,u0⟩:=jh
 have x0:=cell_of_row w X 0 _ _ _ hX
 have z0:=frozen_of_row w X 0 _ _ hX
 have x1:=cell_of_row w X 1 _ _ _ hX
 have z1:=frozen_of_row w X 1 _ _ hX
 have x2:=cell_of_row w X 2 _ _ _ hX
 have z2:=frozen_of_row w X 2 _ _ hX
 have x3:=cell_of_row w X 3 _ _ _ hX
 have z3:=frozen_of_row w X 3 _ _ hX
 have x4:=cell_of_row w X 4 _ _ _ hX
 have z4:=frozen_of_row w X 4 _ _ hX
 simp only [fP,List.getElem?_toArray,List.getElem?_cons_zero,List.getElem?_cons_succ] at x0 x1 x2 x3 x4
 have HX:=κ (gQ.start hX)
 clear hX
 go_enter Tryz.func115,Tryz.ntmps115
 go_wp2
 go_region
 go_wp2
 all_goals go_ret
 all_goals refine⟨congrArg (fun b=>Ending.returned (.bool b)) ?_,(gQ.set (gQ.set HX.out 3 (.int .i64 (a0/16))) 1 (.int .i64 (a0%16))).drew⟩
 all_goals(rw [Bool.eq_iff_iff];simp [*] <;>omega)
theorem SI (X g off n cap:Nat) (o d s f m a0 a1 a2 a3:Int) (w:World) (hX:w.heap[X]?=some (.cells (fP o d s f m) 74 (0,0))) (dR:g≠X) (hn:4≤n) (jh:0≤a0∧a0<256) (sD:0≤a1∧a1<256) (Ip:0≤a2∧a2<256) (Iq:0≤a3∧a3<256) (c0:w.cell? ⟨g,off,none⟩=some (.int .u8 a0)) (c1:w.cell? ⟨g,off+1,none⟩=some (.int .u8 a1)) (c2:w.cell? ⟨g,off+2,none⟩=some (.int .u8 a2)) (c3:w.cell? ⟨g,off+3,none⟩=some (.int .u8 a3)):
  Calls Tryz.prog 115 #[.pointer (some ⟨X,0,none⟩), .int .i64 11, .slice (some ⟨g,off,none⟩) n cap] w fun e w'=>e= .returned (.bool (decide (d<8)&&decide (s<8)))∧gQ X (fP o d s f (four a0 a1 a2 a3)) w w':=by
 have n0:(0:Int) <(n:Int):=by omega
 have su:=jA a0 jh.1 jh.2
 have SH:=κ (aJ a0 jh.1 jh.2)
 obtain⟨l0,u0⟩:=jh
 have n1:(1:Int) <(n:Int):=by omega
 have Nj:=jA a1 sD.1 sD.2
 have Xm:=κ (aJ a1 sD.1 sD.2)
 obtain⟨l1,u1⟩:=sD
 have n2:(2:Int) <(n:Int):=by omega
 have abg:=jA a2 Ip.1 Ip.2
 have sg2:=κ (aJ a2 Ip.1 Ip.2)
 obtain⟨l2,u2⟩:=Ip
 have n3:(3:Int) <(n:Int):=by omega
 have abh:=jA a3 Iq.1 Iq.2
 have sg3:=κ (aJ a3 Iq.1 Iq.2)
 obtain⟨l3,u3⟩:=Iq
 have x0:=cell_of_row w X 0 _ _ _ hX
 have z0:=frozen_of_row w X 0 _ _ hX
 have x1:=cell_of_row w X 1 _ _ _ hX
 have z1:=frozen_of_row w X 1 _ _ hX
 have x2:=cell_of_row w X 2 _ _ _ hX
 have z2:=frozen_of_row w X 2 _ _ hX
 have x3:=cell_of_row w X 3 _ _ _ hX
 have z3:=frozen_of_row w X 3 _ _ hX
 have x4:=cell_of_row w X 4 _ _ _ hX
 have z4:=frozen_of_row w X 4 _ _ hX
 simp only [fP,List.getElem?_toArray,List.getElem?_cons_zero,List.getElem?_cons_succ] at x0 x1 x2 x3 x4
 have HX:=κ (gQ.start hX)
 clear hX
 go_enter Tryz.func115,Tryz.ntmps115
 have Nk:=κ (vN g off n cap a0 a1 a2 a3 w (by omega) ⟨l0,u0⟩ ⟨l1,u1⟩ ⟨l2,u2⟩ ⟨l3,u3⟩ c0 c1 c2 c3)
 go_wp2_with (go_at_call 181;refine(Nk.out).mono ?_;rintro e w' ⟨rfl,m4,rfl⟩)
 all_goals go_ret
 all_goals refine⟨congrArg (fun b=>Ending.returned (.bool b)) ?_,(gQ.set (gQ.drewN HX.out _) 4 (.int .u32 (four a0 a1 a2 a3)))⟩
 all_goals(rw [Bool.eq_iff_iff];simp [*] <;>omega)
end Go.Proofs.YtcjcmnnhmajocabGreat.Gu
