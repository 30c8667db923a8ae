import Derived.Test.YtcjcmnnhmajocabGreatPmbc
set_option linter.unusedVariables false
set_option linter.unusedSimpArgs false
set_option maxRecDepth 100000
set_option maxHeartbeats 16000000
namespace Go.Proofs.YtcjcmnnhmajocabGreat.Gu
open Go.RowKit
theorem wL {w:World} {a b:Addr} {v:Value} (h:(w.cell? b).isSome=true):((w.setCell a v).cell? b).isSome=true:=by
 obtain⟨u,hu⟩:=Option.isSome_iff_exists.1 h
 obtain⟨u',hu'⟩:=cell?_setCell_some (p:=a) (x:=v) hu
 rw [hu'];rfl
theorem uj {W:World} {g off X:Nat} {a0 a1:Int} (dR:g≠X) (j:Nat) (v:Value) (h:W.cell? ⟨g,off,none⟩=some (.int .u8 a0)∧W.cell? ⟨g,off+1,none⟩=some (.int .u8 a1)∧(W.cell? ⟨X,1,none⟩).isSome=true∧(W.cell? ⟨X,2,none⟩).isSome=true∧(W.cell? ⟨X,4,none⟩).isSome=true∧W.frozen? ⟨X,1,none⟩=false∧W.frozen? ⟨X,2,none⟩=false∧W.frozen? ⟨X,4,none⟩=false):
  (W.setCell ⟨X,j,none⟩ v).drew.cell? ⟨g,off,none⟩=some (.int .u8 a0)∧(W.setCell ⟨X,j,none⟩ v).drew.cell? ⟨g,off+1,none⟩=some (.int .u8 a1)∧((W.setCell ⟨X,j,none⟩ v).drew.cell? ⟨X,1,none⟩).isSome=true∧((W.setCell ⟨X,j,none⟩ v).drew.cell? ⟨X,2,none⟩).isSome=true∧((W.setCell ⟨X,j,none⟩ v).drew.cell? ⟨X,4,none⟩).isSome=true∧(W.setCell ⟨X,j,none⟩ v).drew.frozen? ⟨X,1,none⟩=false∧(W.setCell ⟨X,j,none⟩ v).drew.frozen? ⟨X,2,none⟩=false∧(W.setCell ⟨X,j,none⟩ v).drew.frozen? ⟨X,4,none⟩=false:=by
 obtain⟨h1,h2,h3,h4,h5,h6,h7,h8⟩:=h
 refine⟨?_, ?_,wL h3,wL h4,wL h5, ?_, ?_, ?_⟩
 ·exact(World.cell?_of_block (a:=⟨g,off,none⟩) (heap_setCell_other _ _ _ _ dR)).trans h1
 ·exact(World.cell?_of_block (a:=⟨g,off+1,none⟩) (heap_setCell_other _ _ _ _ dR)).trans h2
 ·simpa using h6
 ·simpa using h7
 ·simpa using h8
theorem Nl {W:World} {g off X:Nat} {a0 a1:Int} (dR:g≠X) (j:Nat) (v:Value) (h:W.drew.cell? ⟨g,off,none⟩=some (.int .u8 a0)∧W.drew.cell? ⟨g,off+1,none⟩=some (.int .u8 a1)∧(W.drew.cell? ⟨X,1,none⟩).isSome=true∧(W.drew.cell? ⟨X,2,none⟩).isSome=true∧(W.drew.cell? ⟨X,4,none⟩).isSome=true∧W.drew.frozen? ⟨X,1,none⟩=false∧W.drew.frozen? ⟨X,2,none⟩=false∧W.drew.frozen? ⟨X,4,none⟩=false):
  (W.setCell ⟨X,j,none⟩ v).drew.cell? ⟨g,off,none⟩=some (.int .u8 a0)∧(W.setCell ⟨X,j,none⟩ v).drew.cell? ⟨g,off+1,none⟩=some (.int .u8 a1)∧((W.setCell ⟨X,j,none⟩ v).drew.cell? ⟨X,1,none⟩).isSome=true∧((W.setCell ⟨X,j,none⟩ v).drew.cell? ⟨X,2,none⟩).isSome=true∧((W.setCell ⟨X,j,none⟩ v).drew.cell? ⟨X,4,none⟩).isSome=true∧(W.setCell ⟨X,j,none⟩ v).drew.frozen? ⟨X,1,none⟩=false∧(W.setCell ⟨X,j,none⟩ v).drew.frozen? ⟨X,2,none⟩=false∧(W.setCell ⟨X,j,none⟩ v).drew.frozen? ⟨X,4,none⟩=false:=uj (W:=W) dR j v h
theorem Xq (X g off n cap:Nat) (o d s f m a0 a1:Int) (w:World) (hX:w.heap[X]?=some (.cells (fP o d s f m) 74 (0,0))) (dR:g≠X) (hn:2≤n) (jh:0≤a0∧a0<256) (sD:0≤a1∧a1<256) (c0:w.cell? ⟨g,off,none⟩=some (.int .u8 a0)) (c1:w.cell? ⟨g,off+1,none⟩=some (.int .u8 a1)):
  Calls Tryz.prog 115 #[.pointer (some ⟨X,0,none⟩), .int .i64 8, .slice (some ⟨g,off,none⟩) n cap] w fun e w'=>e= .returned (.bool (decide (a0/16<8)&&decide (a0%16<8)))∧gQ X (fP o (a0/16) (a0%16) f (xM a1)) w w':=by
 have n0:(0:Int) <(n:Int):=by omega
 have n1:(1:Int) <(n:Int):=by omega
 have su:=jA a0 jh.1 jh.2
 have Xm:=κ (aJ a1 sD.1 sD.2)
 obtain⟨l0,u0⟩:=jh
 obtain⟨l1,u1⟩:=sD
 have y1:=cell_of_row w X 1 _ _ _ hX
 have y2:=cell_of_row w X 2 _ _ _ hX
 have y4:=cell_of_row w X 4 _ _ _ hX
 have z1:=frozen_of_row w X 1 _ _ hX
 have z2:=frozen_of_row w X 2 _ _ hX
 have z4:=frozen_of_row w X 4 _ _ hX
 simp only [fP,List.getElem?_toArray,List.getElem?_cons_zero,List.getElem?_cons_succ] at y1 y2 y4
 have n0p:0<n:=by omega
 have x1:(w.cell? ⟨X,1,none⟩).isSome=true:=by rw [y1];rfl
 have x2:(w.cell? ⟨X,2,none⟩).isSome=true:=by rw [y2];rfl
 have x4:(w.cell? ⟨X,4,none⟩).isSome=true:=by rw [y4];rfl
 have HX:=κ (gQ.start hX)
 clear hX y1 y2 y4
 go_enter Tryz.func115,Tryz.ntmps115
 go_wp2_with fail
 go_region_held3 (fun W=>W.cell? ⟨g,off,none⟩=some (.int .u8 a0)∧W.cell? ⟨g,off+1,none⟩=some (.int .u8 a1)∧(W.cell? ⟨X,1,none⟩).isSome=true∧(W.cell? ⟨X,2,none⟩).isSome=true∧(W.cell? ⟨X,4,none⟩).isSome=true∧W.frozen? ⟨X,1,none⟩=false∧W.frozen? ⟨X,2,none⟩=false∧W.frozen? ⟨X,4,none⟩=false) (first | (refine uj dR _ _ ?_;assumption) | (refine Nl dR _ _ ?_;assumption) | (refine uj dR _ _ (uj dR _ _ ⟨?_, ?_, ?_, ?_, ?_, ?_, ?_, ?_⟩) <;>assumption) | (refine uj dR _ _ (uj dR _ _ (uj dR _ _ ⟨?_, ?_, ?_, ?_, ?_, ?_, ?_, ?_⟩)) <;>assumption) | (refine Nl dR _ _ ⟨?_, ?_, ?_, ?_, ?_, ?_, ?_, ?_⟩ <;>assumption) | (refine uj dR _ _ ⟨?_, ?_, ?_, ?_, ?_, ?_, ?_, ?_⟩ <;>assumption) | go_keep) (first | (go_at_call 180;refine(Xm.out _).mono ?_;rintro e w' ⟨rfl,rfl⟩) | (go_simp;obtain⟨u,hu⟩:=Option.isSome_iff_exists.1 (‹(World.cell? _ ⟨X,1,none⟩).isSome=true›);simp only [hu];go_simp) | (go_simp;obtain⟨u,hu⟩:=Option.isSome_iff_exists.1 (‹(World.cell? _ ⟨X,2,none⟩).isSome=true›);simp only [hu];go_simp) | (go_simp;obtain⟨u,hu⟩:=Option.isSome_iff_exists.1 (‹(World.cell? _ ⟨X,4,none⟩).isSome=true›);simp only [hu];go_simp))
 rw [show IntKind.i64.wrap (a0/16)=a0/16 by rw [IntKind.wrap_i64];omega,show IntKind.i64.wrap (a0%16)=a0%16 by rw [IntKind.wrap_i64];omega]
 go_wp2
 all_goals go_ret
 all_goals refine⟨congrArg (fun b=>Ending.returned (.bool b)) ?_,(gQ.set (gQ.set (gQ.set HX.out 1 (.int .i64 (a0/16))) 2 (.int .i64 (a0%16))) 4 (.int .u32 (xM a1))).drew⟩
 all_goals(rw [Bool.eq_iff_iff];simp [*] <;>omega)
end Go.Proofs.YtcjcmnnhmajocabGreat.Gu
