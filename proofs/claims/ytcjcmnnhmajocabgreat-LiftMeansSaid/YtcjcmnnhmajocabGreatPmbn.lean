import Derived.Test.YtcjcmnnhmajocabGreatPmbl
set_option linter.unusedVariables false
set_option linter.unusedSimpArgs false
set_option maxRecDepth 100000
set_option maxHeartbeats 16000000
namespace Go.Proofs.YtcjcmnnhmajocabGreat.St
open Go.RowKit Kt Me Fl Gu
def atL (p:Nat) (R:Nat→Int) (pc f nx:Int):Array Value:= #[.pointer (some ⟨p,0,none⟩), .int .u32 (R 0), .int .u32 (R 1), .int .u32 (R 2), .int .u32 (R 3), .int .u32 (R 4), .int .u32 (R 5), .int .u32 (R 6), .int .u32 (R 7), .int .u32 pc, .int .u32 f, .int .u32 nx, .int .i64 0, .int .u32 0]
theorem uh.new (p:Nat) (R:Nat→Int) (pc f nx:Int) (w:World) (t:TypeId):uh w.heap.size p R pc f nx 0 0 (w.alloc (.cells (atL p R pc f nx) t)):=by
 have A:∀i,(w.alloc (.cells (atL p R pc f nx) t)).cell? ⟨w.heap.size,i,none⟩=(atL p R pc f nx)[i]?:=fun i=>ay w _ _ i
 refine⟨A 0,fun j hj=> ?_,A 9,A 10,A 11,A 12,A 13,fun i=>gW w _ _ i,by simp⟩
 rw [A (1+j)]
 rcases(show j=0∨j=1∨j=2∨j=3∨j=4∨j=5∨j=6∨j=7 by omega) with rfl | rfl | rfl | rfl | rfl | rfl | rfl | rfl<;>rfl
theorem Oy {A i:Nat} {v:Value} {w:World}:ah (fun j=>j=A) w (w.setCell ⟨A,i,none⟩ v):=(ah.refl (fun j=>j=A) w).setCell (q:=⟨A,i,none⟩) (.inl rfl) v
end Go.Proofs.YtcjcmnnhmajocabGreat.St
