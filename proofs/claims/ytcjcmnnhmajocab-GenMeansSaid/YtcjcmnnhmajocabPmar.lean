import Derived.Test.YtcjcmnnhmajocabPmaq
set_option linter.unusedVariables false
set_option linter.unusedSimpArgs false
set_option maxRecDepth 100000
set_option maxHeartbeats 16000000
namespace Go.Proofs.Ytcjcmnnhmajocab.Ho
open Go.RowKit Kt
theorem fG {w w1:World} {A:Array Value} {ta:TypeId} (aQ:Below (w.alloc (.cells A ta)).heap.size (w.alloc (.cells A ta)) w1):
  (∀i,w1.cell? ⟨w.heap.size,i,none⟩=A[i]?)∧(∀i,w1.frozen? ⟨w.heap.size,i,none⟩=false)∧w.heap.size<w1.heap.size∧Below w.heap.size w w1:=by
 have hs:=aQ.size
 simp only [World.size_alloc] at hs
 refine⟨LP (fun i=> ?_) aQ (by simp),LU (fun i=> ?_) aQ (by simp),by omega,((Below.refl _ _).alloc (Nat.le_refl _) _).trans (aQ.mono (by simp))⟩
 ·exact World.cell?_alloc_new _ _ _ _
 ·exact frozen_of_row _ _ _ _ _ (heap_alloc_new w (.cells A ta))
theorem fV {a b:Nat} (k:Nat) (h:a<b):a<b+k:=by omega
theorem fH (q:Nat) (h1:1≤q) (h2:q≤15) {w w1 W:World} {X G:Array Value} {v0 k1 x1:Int} {len:Nat} (hw:wd q≤len) (hl:len≤3) (h0:0≤v0) (g0:v0<4294967296) (hq:aF (v0%256)=q)
  (s1:w.heap.size<w1.heap.size) (hX:∀i,w1.cell? ⟨w.heap.size,i,none⟩=X[i]?) (hB:Below w.heap.size w w1) (hWB:Below w1.heap.size w1 W) (hG:W.heap[w1.heap.size+1]?=some (.cells G 22 (0,0)))
  (e0:G[0]?=some (.int .u32 v0)) (e1:1<wd q→G[1]?=some (.int .u32 k1)) (e2:2<wd q→G[2]?=some (.int .u32 x1)):
  Calls Try.prog 89 #[.slice (some ⟨w1.heap.size+1,0,none⟩) len 3, .int .i64 0] W fun e w'=>e= .returned (dJ q v0 k1 x1)∧Below w.heap.size w w'∧(∀i,w'.cell? ⟨w.heap.size,i,none⟩=X[i]?)∧
   w'.heap[w1.heap.size+1]?=some (.cells G 22 (0,0))∧w.heap.size<w'.heap.size:=by
 have bV:=lt_of_block hG
 have hc:=(bM hG).1
 have hms:=hWB.size
 have c0:=(hc 0).trans e0
 refine(RH q (w1.heap.size+1) 0 len 3 0 v0 k1 x1 W h1 h2 (by simpa using hw) hl (by decide) bV h0 g0 hq (by simpa using c0) (fun h=>by simpa using(hc 1).trans (e1 h)) (fun h=>by simpa using(hc 2).trans (e2 h))).mono ?_
 rintro e w2 ⟨rfl,ig⟩
 have wH:=ig.size
 refine⟨rfl,(hB.trans (hWB.mono (by omega))).trans (ig.mono (by omega)),fun i=> ?_,(ig.block _ bV).trans hG,by omega⟩
 exact((ig.cell (p:=⟨w.heap.size,i,none⟩) (show w.heap.size<W.heap.size by omega)).trans (hWB.cell (p:=⟨w.heap.size,i,none⟩) s1)).trans (hX i)
theorem qm {q:Nat} {v k x:Int} (h:¬aV q v):dJ q v k x= .tuple #[.agg #[.int .i64 0, .int .i64 0, .int .i64 0, .int .i64 0, .int .i64 0, .int .i64 0, .int .u32 0, .int .u32 0], .int .i64 0, .int .i64 3]:=by rw [ay h];rfl
def dS (q:Nat) (o d a b c n k x:Int):Prop:=(if hD q=true then 0≤d∧d<16 else d=0)∧(if hA q=true then 0≤a∧a<16 else a=0)∧(if hB q=true then 0≤b∧b<16 else b=0)∧(if hC q=true then 0≤c∧c<16 else c=0)∧
 (if nb q≠0 then 0≤n∧n<nb q else n=0)∧(wd q≤1→k=0)∧(wd q≤2→x=0)∧(hK q=true→1≤d∧d≤7)
def wK (w:World) (q:Nat) (v0 k x:Int) (ok:Prop) (e:Ending) (w':World):Prop:=
 Below w.heap.size w w'∧((ok∧∃ (g cap:Nat),e= .returned (.tuple #[.slice (some ⟨g,0,none⟩) (wd q).toNat cap, .int .i64 0])∧w.heap.size≤g∧g<w'.heap.size∧(wd q).toNat≤cap∧
   w'.cell? ⟨g,0,none⟩=some (.int .u32 v0)∧(1<wd q→w'.cell? ⟨g,1,none⟩=some (.int .u32 k))∧(2<wd q→w'.cell? ⟨g,2,none⟩=some (.int .u32 x)))∨
  (¬ok∧e= .returned (.tuple #[.slice none 0 0, .int .i64 3])))
theorem fJ {q:Nat} {w w1 w2:World} {ob:Obj} {v0 k x:Int} {ok:Prop} {G:Array Value} {L:Nat} (kS:ok) (ig:Below w.heap.size w w2) (s1:w.heap.size<w1.heap.size) (s2:w.heap.size<w2.heap.size) (kD:w2.heap[w1.heap.size+1]?=some (.cells G 22 (0,0)))
  (e0:G[0]?=some (.int .u32 v0)) (e1:1<wd q→G[1]?=some (.int .u32 k)) (e2:2<wd q→G[2]?=some (.int .u32 x)) (hL:L=(wd q).toNat) (hl:L≤3):
  wK w q v0 k x ok (.returned (.tuple #[.slice (some ⟨w1.heap.size+1,0,none⟩) L 3, .int .i64 0])) (w2.alloc ob):=by
 have bV:=lt_of_block kD
 have hr:(w2.alloc ob).heap[w1.heap.size+1]?=some (.cells G 22 (0,0)):=(Below.heap_alloc w2 ob _ bV).trans kD
 have hc:=(bM hr).1
 refine⟨ig.alloc (by omega) _, .inl ⟨kS,w1.heap.size+1,3,by rw [hL],by omega,by simp;omega,by omega,(hc 0).trans e0,fun h=>(hc 1).trans (e1 h),fun h=>(hc 2).trans (e2 h)⟩⟩
theorem dD {q:Nat} {w w2:World} {ob:Obj} {v0 k x:Int} {ok:Prop} (kS:¬ok) (ig:Below w.heap.size w w2) (s2:w.heap.size<w2.heap.size):wK w q v0 k x ok (.returned (.tuple #[.slice none 0 0, .int .i64 3])) (w2.alloc ob):=
 ⟨ig.alloc (Nat.le_of_lt s2) _, .inr ⟨kS,rfl⟩⟩
end Go.Proofs.Ytcjcmnnhmajocab.Ho
