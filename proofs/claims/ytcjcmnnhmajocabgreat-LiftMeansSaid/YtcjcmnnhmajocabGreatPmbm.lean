import Derived.Test.YtcjcmnnhmajocabGreatPmbl
set_option linter.unusedVariables false
set_option linter.unusedSimpArgs false
set_option maxRecDepth 100000
set_option maxHeartbeats 16000000
namespace Go.Proofs.YtcjcmnnhmajocabGreat.St
open Go.RowKit Kt Me Fl Gu
theorem SB.congr {h:Nat} {R R':Nat→Int} {pc f:Int} {W:World} (a:SB h R pc f W) (e:∀j,j<8→R j=R' j):SB h R' pc f W:=
 ⟨fun j hj=>(a.r j hj).trans (by rw [e j hj]),a.c8,a.c9,a.z,a.l⟩
theorem SB.put {h:Nat} {R:Nat→Int} {pc f:Int} {W:World} (a:SB h R pc f W) (R':Nat→Int) (kH f':Int):
  SB h R' kH f' ((((((((((W.setCell ⟨h,0,none⟩ (.int .u32 (R' 0))).setCell ⟨h,1,none⟩ (.int .u32 (R' 1))).setCell ⟨h,2,none⟩ (.int .u32 (R' 2))).setCell ⟨h,3,none⟩ (.int .u32 (R' 3))).setCell ⟨h,4,none⟩ (.int .u32 (R' 4))).setCell ⟨h,5,none⟩ (.int .u32 (R' 5))).setCell ⟨h,6,none⟩ (.int .u32 (R' 6))).setCell ⟨h,7,none⟩ (.int .u32 (R' 7))).setCell ⟨h,8,none⟩ (.int .u32 kH)).setCell ⟨h,9,none⟩ (.int .u32 f')):=by
 refine((((((((((a.bI 0 (by omega) (R' 0)).bI 1 (by omega) (R' 1)).bI 2 (by omega) (R' 2)).bI 3 (by omega) (R' 3)).bI 4 (by omega) (R' 4)).bI 5 (by omega) (R' 5)).bI 6 (by omega) (R' 6)).bI 7 (by omega) (R' 7)).jk kH).gU f').congr fun j hj=> ?_
 rcases(show j=0∨j=1∨j=2∨j=3∨j=4∨j=5∨j=6∨j=7 by omega) with rfl | rfl | rfl | rfl | rfl | rfl | rfl | rfl<;>simp [aF]
theorem wV {S:Nat→Prop} {h:Nat} {w W:World} (b:ah S w W) (hh:S h∨w.heap.size≤h) (v0 v1 v2 v3 v4 v5 v6 v7 v8 v9:Value):
  ah S w ((((((((((W.setCell ⟨h,0,none⟩ v0).setCell ⟨h,1,none⟩ v1).setCell ⟨h,2,none⟩ v2).setCell ⟨h,3,none⟩ v3).setCell ⟨h,4,none⟩ v4).setCell ⟨h,5,none⟩ v5).setCell ⟨h,6,none⟩ v6).setCell ⟨h,7,none⟩ v7).setCell ⟨h,8,none⟩ v8).setCell ⟨h,9,none⟩ v9):=
 (((((((((b.setCell (q:=⟨h,0,none⟩) hh v0).setCell (q:=⟨h,1,none⟩) hh v1).setCell (q:=⟨h,2,none⟩) hh v2).setCell (q:=⟨h,3,none⟩) hh v3).setCell (q:=⟨h,4,none⟩) hh v4).setCell (q:=⟨h,5,none⟩) hh v5).setCell (q:=⟨h,6,none⟩) hh v6).setCell (q:=⟨h,7,none⟩) hh v7).setCell (q:=⟨h,8,none⟩) hh v8).setCell (q:=⟨h,9,none⟩) hh v9
structure R3 (h:Nat) (R:Nat→Int) (pc f:Int) (W:World):Prop where
 s:SB h R pc f W
 q:RQ (h+1) (h+1+1) 10 (fun _=> .int .u32 0) (fun i=>if i=1 then .int .u32 0 else .int .i64 0) W
theorem R3.upto {S:Nat→Prop} {h:Nat} {R:Nat→Int} {pc f:Int} {W W':World} (a:R3 h R pc f W) (u:ah S W W') (h0:¬S h) (h1:¬S (h+1)) (h2:¬S (h+1+1)):R3 h R pc f W':=
 ⟨a.s.upto u h0,a.q.upto u h1 h2⟩
theorem R3.new (w:World) (R:Nat→Int) (pc f:Int):R3 w.heap.size R pc f (((w.alloc (.cells (iY R pc f) 94)).alloc (.cells oP 94)).alloc (.cells Z2 55)):=by
 have s2:=SB.new w R pc f 94
 have e2:(w.alloc (.cells (iY R pc f) 94)).heap.size=w.heap.size+1:=by simp
 generalize w.alloc (.cells (iY R pc f) 94)=W1 at s2 e2⊢
 have q:=RQ.new W1 94 55
 have u:=((ah.refl (fun _=>False) W1).alloc (.cells oP 94)).alloc (.cells Z2 55)
 rw [e2] at q
 exact⟨s2.upto u id,q⟩
end Go.Proofs.YtcjcmnnhmajocabGreat.St
