import Derived.Test.YtcjcmnnhmajocabGreatPmbc
set_option linter.unusedVariables false
set_option linter.unusedSimpArgs false
set_option maxRecDepth 100000
set_option maxHeartbeats 16000000
namespace Go.Proofs.YtcjcmnnhmajocabGreat.Gu
open Go.RowKit
theorem SK (X g off n cap:Nat) (o d s f m a0 a1:Int) (w:World) (hX:w.heap[X]?=some (.cells (fP o d s f m) 74 (0,0))) (dR:g≠X) (hn:2≤n) (jh:0≤a0∧a0<256) (sD:0≤a1∧a1<256) (c0:w.cell? ⟨g,off,none⟩=some (.int .u8 a0)) (c1:w.cell? ⟨g,off+1,none⟩=some (.int .u8 a1)):
  Calls Tryz.prog 115 #[.pointer (some ⟨X,0,none⟩), .int .i64 10, .slice (some ⟨g,off,none⟩) n cap] w fun e w'=>e= .returned (.bool (decide (a0<8)&&decide (s<8)))∧gQ X (fP o a0 s f (xM a1)) w w':=by
 have n0:(0:Int) <(n:Int):=by omega
 have su:=jA a0 jh.1 jh.2
 have SH:=κ (aJ a0 jh.1 jh.2)
 obtain⟨l0,u0⟩:=jh
 have n1:(1:Int) <(n:Int):=by omega
 have Nj:=jA a1 sD.1 sD.2
 have Xm:=κ (aJ a1 sD.1 sD.2)
 obtain⟨l1,u1⟩:=sD
 have x0:=cell_of_row w X 0 _ _ _ hX
 have z0:=frozen_of_row w X 0 _ _ hX
 have x1:=cell_of_row w X 1 _ _ _ hX
 have z1:=frozen_of_row w X 1 _ _ hX
 have x2:=cell_of_row w X 2 _ _ _ hX
 have z2:=frozen_of_row w X 2 _ _ hX
 have x3:=cell_of_row w X 3 _ _ _ hX
 have z3:=frozen_of_row w X 3 _ _ hX
 have x4:=cell_of_row w X 4 _ _ _ hX
 have z4:=frozen_of_row w X 4 _ _ hX
 simp only [fP,List.getElem?_toArray,List.getElem?_cons_zero,List.getElem?_cons_succ] at x0 x1 x2 x3 x4
 have HX:=κ (gQ.start hX)
 clear hX
 go_enter Tryz.func115,Tryz.ntmps115
 go_wp2_with fail
 go_region_with (go_at_call 180;refine(Xm.out _).mono ?_;rintro e w' ⟨rfl,rfl⟩)
 all_goals go_wp2
 all_goals go_ret
 all_goals refine⟨congrArg (fun b=>Ending.returned (.bool b)) ?_,(gQ.set (gQ.set HX.out 1 (.int .i64 a0)) 4 (.int .u32 (xM a1))).drew⟩
 all_goals(rw [Bool.eq_iff_iff];simp [*] <;>omega)
theorem SL (X g off n cap:Nat) (o d s f m a0 a1:Int) (w:World) (hX:w.heap[X]?=some (.cells (fP o d s f m) 74 (0,0))) (dR:g≠X) (hn:2≤n) (jh:0≤a0∧a0<256) (sD:0≤a1∧a1<256) (c0:w.cell? ⟨g,off,none⟩=some (.int .u8 a0)) (c1:w.cell? ⟨g,off+1,none⟩=some (.int .u8 a1)):
  Calls Tryz.prog 115 #[.pointer (some ⟨X,0,none⟩), .int .i64 12, .slice (some ⟨g,off,none⟩) n cap] w fun e w'=>e= .returned (.bool (decide (d<8)&&decide (a0<8)))∧gQ X (fP o d a0 f (xM a1)) w w':=by
 have n0:(0:Int) <(n:Int):=by omega
 have su:=jA a0 jh.1 jh.2
 have SH:=κ (aJ a0 jh.1 jh.2)
 obtain⟨l0,u0⟩:=jh
 have n1:(1:Int) <(n:Int):=by omega
 have Nj:=jA a1 sD.1 sD.2
 have Xm:=κ (aJ a1 sD.1 sD.2)
 obtain⟨l1,u1⟩:=sD
 have x0:=cell_of_row w X 0 _ _ _ hX
 have z0:=frozen_of_row w X 0 _ _ hX
 have x1:=cell_of_row w X 1 _ _ _ hX
 have z1:=frozen_of_row w X 1 _ _ hX
 have x2:=cell_of_row w X 2 _ _ _ hX
 have z2:=frozen_of_row w X 2 _ _ hX
 have x3:=cell_of_row w X 3 _ _ _ hX
 have z3:=frozen_of_row w X 3 _ _ hX
 have x4:=cell_of_row w X 4 _ _ _ hX
 have z4:=frozen_of_row w X 4 _ _ hX
 simp only [fP,List.getElem?_toArray,List.getElem?_cons_zero,List.getElem?_cons_succ] at x0 x1 x2 x3 x4
 have HX:=κ (gQ.start hX)
 clear hX
 go_enter Tryz.func115,Tryz.ntmps115
 go_wp2_with fail
 go_region_with (go_at_call 180;refine(Xm.out _).mono ?_;rintro e w' ⟨rfl,rfl⟩)
 all_goals go_wp2
 all_goals go_ret
 all_goals refine⟨congrArg (fun b=>Ending.returned (.bool b)) ?_,(gQ.set (gQ.set HX.out 2 (.int .i64 a0)) 4 (.int .u32 (xM a1))).drew⟩
 all_goals(rw [Bool.eq_iff_iff];simp [*] <;>omega)
end Go.Proofs.YtcjcmnnhmajocabGreat.Gu
