import Derived.Deep.DeepCutAuto
import Derived.Test.YtcjcmnnhmajocabGreatPmaa
set_option linter.unusedVariables false
set_option linter.unusedSimpArgs false
set_option maxRecDepth 100000
set_option maxHeartbeats 16000000
namespace Go.Proofs.YtcjcmnnhmajocabGreat.Ic
open Go.RowKit
theorem KQ {w:World} {o:Obj} {g j:Nat} (h:g<w.heap.size):(w.alloc o).cell? ⟨g,j,none⟩=w.cell? ⟨g,j,none⟩:=World.cell?_of_block (a:=⟨g,j,none⟩) (Below.heap_alloc w o g h)
theorem Az (w:World) (X:Array Value) (t:TypeId) (j:Nat):(w.alloc (.cells X t)).cell? ⟨w.heap.size,j,none⟩=X[j]?:=cell_of_row _ _ _ _ _ _ (heap_alloc_new w _)
def e2 (ok:Bool) (s K W:Int):Bool:= !ok || (decide (W<0) || (decide (max s 1≤W) || ((K==14 || K==13)&&W==0)))
def e4 (k n:Bool) (aj Kn N:Int):Bool:=(!k&&Kn !=0) || ((!n&&N !=0) || (decide (N<0) || decide (aj<N)))
def e6 (a b c g:Bool) (A B C:Int):Bool:=(!a&&A !=0) || ((!b&&(!g&&B !=0)) || (!c&&C !=0))
def e8 (g:Bool) (B:Int):Bool:=g&&(decide (B<0) || decide (4294967295<B))
def BZ (a b c gA gB gC:Bool):Bool:=(a&& !gA) || ((b&& !gB) || (c&& !gC))
def YT (f more:Bool):Bool:=f&&more
def KR (x2 x4 x6 x8 zT Hl:Bool):Int:=if x2 then 2 else if x4 then 3 else if x6 then 3 else if x8 then 3 else if zT then 6 else if Hl then 7 else 0
theorem bc {B:Nat} {w w1:World} (hb:Below B w w1):∀b o,b<B→w1.cell? ⟨b,o,none⟩=w.cell? ⟨b,o,none⟩:=fun b o h=>hb.cell (p:=⟨b,o,none⟩) h
end Go.Proofs.YtcjcmnnhmajocabGreat.Ic
