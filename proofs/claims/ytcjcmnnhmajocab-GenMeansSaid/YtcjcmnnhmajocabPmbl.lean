import Derived.Test.YtcjcmnnhmajocabPmbk
set_option linter.unusedVariables false
set_option linter.unusedSimpArgs false
set_option maxRecDepth 100000
set_option maxHeartbeats 16000000
namespace Go.Proofs.Ytcjcmnnhmajocab.Hr
open Go.RowKit Kt Me Fl Ev Ho
structure AR (b n:Nat) (f:Nat→Value) (W:World):Prop where
 v:∀j,j<n→W.cell? ⟨b,j,none⟩=some (f j)
 z:∀j,W.frozen? ⟨b,j,none⟩=false
 l:b<W.heap.size
theorem AR.upto {b n:Nat} {f:Nat→Value} {W W':World} {S:Nat→Prop} (a:AR b n f W) (u:ah S W W') (hs:¬S b):AR b n f W':=
 ⟨fun j hj=>(u.cell (q:=⟨b,j,none⟩) a.l hs).trans (a.v j hj),fun j=>(u.frozen (q:=⟨b,j,none⟩) a.l hs).trans (a.z j),Nat.lt_of_lt_of_le a.l u.size⟩
theorem AR.set {b n:Nat} {f:Nat→Value} {W:World} (a:AR b n f W) (i:Nat) (x:Value):AR b n (aO f i x) (W.setCell ⟨b,i,none⟩ x):=by
 refine⟨fun j hj=> ?_,fun j=>by simpa using a.z j,by simpa using a.l⟩
 by_cases e:j=i
 ·subst e;rw [World.cell?_setCell_same _ _ _ (a.v j hj)];simp [aO]
 ·rw [off e,a.v j hj];simp [aO,e]
theorem AR.new (w:World) (n:Nat) (x:Value) (ZZ:Array Value) (hz:∀j,j<n→ZZ[j]?=some x) (t:TypeId):AR w.heap.size n (fun _=>x) (w.alloc (.cells ZZ t)):=
 ⟨fun j hj=>(aW w _ _ j).trans (hz j hj),fun j=>mg w _ _ j,by simp⟩
theorem AR.as {b n:Nat} {f g:Nat→Value} {W:World} (a:AR b n f W) (h:∀j,f j=g j):AR b n g W:=⟨fun j hj=>(a.v j hj).trans (congrArg some (h j)),a.z,a.l⟩
structure kN (h:Nat) (K:Hk) (s:Rm) (q:Value×Value×Value×Value) (W:World):Prop where
 w0:W.cell? ⟨h,0,none⟩=some (.slice K.ao K.us.length K.cap)
 at_:W.cell? ⟨h,1,none⟩=some (.int .i64 s.at_)
 c:∀j,j<12→W.cell? ⟨h,2+j,none⟩=some (.int .u32 (s.c j))
 m:W.cell? ⟨h,14,none⟩=some (.pointer (some ⟨K.p,0,none⟩))
 left:W.cell? ⟨h,15,none⟩=some (.int .i64 K.left)
 done:W.cell? ⟨h,16,none⟩=some (.int .i64 s.done)
 tb:W.cell? ⟨h,17,none⟩=some (.slice K.uM K.gJ.length K.pF)
 q0:W.cell? ⟨h,18,none⟩=some (q.1)
 q1:W.cell? ⟨h,19,none⟩=some (q.2.1)
 q2:W.cell? ⟨h,20,none⟩=some (q.2.2.1)
 q3:W.cell? ⟨h,21,none⟩=some (q.2.2.2)
 fC:W.cell? ⟨h,22,none⟩=some (.int .i64 s.fC)
 st:W.cell? ⟨h,23,none⟩=some (.bool s.stuck)
 z:∀j,W.frozen? ⟨h,j,none⟩=false
 l:h<W.heap.size
variable {h:Nat} {K:Hk} {s:Rm} {q:Value×Value×Value×Value} {W W':World}
theorem kN.upto {S:Nat→Prop} (a:kN h K s q W) (u:ah S W W') (hs:¬S h):kN h K s q W':=by
 have e:∀j,W'.cell? ⟨h,j,none⟩=W.cell? ⟨h,j,none⟩:=fun j=>u.cell (q:=⟨h,j,none⟩) a.l hs
 exact⟨(e _).trans a.w0,(e _).trans a.at_,fun j hj=>(e _).trans (a.c j hj),(e _).trans a.m,(e _).trans a.left,(e _).trans a.done,(e _).trans a.tb,(e _).trans a.q0,(e _).trans a.q1,(e _).trans a.q2,(e _).trans a.q3,(e _).trans a.fC,(e _).trans a.st,fun j=>(u.frozen (q:=⟨h,j,none⟩) a.l hs).trans (a.z j),Nat.lt_of_lt_of_le a.l u.size⟩
theorem kN.drew (a:kN h K s q W):kN h K s q W.drew:=a.upto (ah.refl (fun _=>False) W).drew id
theorem kN.setAt (a:kN h K s q W) (x:Int):kN h K {s with at_:=x} q (W.setCell ⟨h,1,none⟩ (.int .i64 x)):=
 ⟨(off (by omega)).trans a.w0,World.cell?_setCell_same _ _ _ a.at_,fun j hj=>(off (by omega)).trans (a.c j hj),(off (by omega)).trans a.m,(off (by omega)).trans a.left,(off (by omega)).trans a.done,(off (by omega)).trans a.tb,(off (by omega)).trans a.q0,(off (by omega)).trans a.q1,(off (by omega)).trans a.q2,(off (by omega)).trans a.q3,(off (by omega)).trans a.fC,(off (by omega)).trans a.st,fun j=>by simpa using a.z j,by simpa using a.l⟩
theorem kN.kV (a:kN h K s q W) (x:Int):kN h K {s with done:=x} q (W.setCell ⟨h,16,none⟩ (.int .i64 x)):=
 ⟨(off (by omega)).trans a.w0,(off (by omega)).trans a.at_,fun j hj=>(off (by omega)).trans (a.c j hj),(off (by omega)).trans a.m,(off (by omega)).trans a.left,World.cell?_setCell_same _ _ _ a.done,(off (by omega)).trans a.tb,(off (by omega)).trans a.q0,(off (by omega)).trans a.q1,(off (by omega)).trans a.q2,(off (by omega)).trans a.q3,(off (by omega)).trans a.fC,(off (by omega)).trans a.st,fun j=>by simpa using a.z j,by simpa using a.l⟩
theorem kN.yU (a:kN h K s q W) (x:Int):kN h K {s with fC:=x} q (W.setCell ⟨h,22,none⟩ (.int .i64 x)):=
 ⟨(off (by omega)).trans a.w0,(off (by omega)).trans a.at_,fun j hj=>(off (by omega)).trans (a.c j hj),(off (by omega)).trans a.m,(off (by omega)).trans a.left,(off (by omega)).trans a.done,(off (by omega)).trans a.tb,(off (by omega)).trans a.q0,(off (by omega)).trans a.q1,(off (by omega)).trans a.q2,(off (by omega)).trans a.q3,World.cell?_setCell_same _ _ _ a.fC,(off (by omega)).trans a.st,fun j=>by simpa using a.z j,by simpa using a.l⟩
theorem kN.kM (a:kN h K s q W) (x:Bool):kN h K {s with stuck:=x} q (W.setCell ⟨h,23,none⟩ (.bool x)):=
 ⟨(off (by omega)).trans a.w0,(off (by omega)).trans a.at_,fun j hj=>(off (by omega)).trans (a.c j hj),(off (by omega)).trans a.m,(off (by omega)).trans a.left,(off (by omega)).trans a.done,(off (by omega)).trans a.tb,(off (by omega)).trans a.q0,(off (by omega)).trans a.q1,(off (by omega)).trans a.q2,(off (by omega)).trans a.q3,(off (by omega)).trans a.fC,World.cell?_setCell_same _ _ _ a.st,fun j=>by simpa using a.z j,by simpa using a.l⟩
theorem kN.EH (a:kN h K s q W) (r:Nat) (x:Int) (hr:r<12):kN h K {s with c:=aO s.c r x} q (W.setCell ⟨h,2+r,none⟩ (.int .u32 x)):=by
 refine⟨(off (by omega)).trans a.w0,(off (by omega)).trans a.at_,fun j hj=> ?_,(off (by omega)).trans a.m,(off (by omega)).trans a.left,(off (by omega)).trans a.done,(off (by omega)).trans a.tb,(off (by omega)).trans a.q0,(off (by omega)).trans a.q1,(off (by omega)).trans a.q2,(off (by omega)).trans a.q3,(off (by omega)).trans a.fC,(off (by omega)).trans a.st,fun j=>by simpa using a.z j,by simpa using a.l⟩
 show _=some (Value.int .u32 (aO s.c r x j))
 by_cases e:j=r
 ·subst e;rw [World.cell?_setCell_same _ _ _ (a.c j hj)];simp [aO]
 ·rw [off (by omega),a.c j hj];simp [aO,e]
theorem kN.abT (a:kN h K s q W) (v:Value):kN h K s (v,q.2.1,q.2.2.1,q.2.2.2) (W.setCell ⟨h,18,none⟩ v):=
 ⟨(off (by omega)).trans a.w0,(off (by omega)).trans a.at_,fun j hj=>(off (by omega)).trans (a.c j hj),(off (by omega)).trans a.m,(off (by omega)).trans a.left,(off (by omega)).trans a.done,(off (by omega)).trans a.tb,World.cell?_setCell_same _ _ _ a.q0,(off (by omega)).trans a.q1,(off (by omega)).trans a.q2,(off (by omega)).trans a.q3,(off (by omega)).trans a.fC,(off (by omega)).trans a.st,fun j=>by simpa using a.z j,by simpa using a.l⟩
theorem kN.abU (a:kN h K s q W) (v:Value):kN h K s (q.1,v,q.2.2.1,q.2.2.2) (W.setCell ⟨h,19,none⟩ v):=
 ⟨(off (by omega)).trans a.w0,(off (by omega)).trans a.at_,fun j hj=>(off (by omega)).trans (a.c j hj),(off (by omega)).trans a.m,(off (by omega)).trans a.left,(off (by omega)).trans a.done,(off (by omega)).trans a.tb,(off (by omega)).trans a.q0,World.cell?_setCell_same _ _ _ a.q1,(off (by omega)).trans a.q2,(off (by omega)).trans a.q3,(off (by omega)).trans a.fC,(off (by omega)).trans a.st,fun j=>by simpa using a.z j,by simpa using a.l⟩
theorem kN.abV (a:kN h K s q W) (v:Value):kN h K s (q.1,q.2.1,v,q.2.2.2) (W.setCell ⟨h,20,none⟩ v):=
 ⟨(off (by omega)).trans a.w0,(off (by omega)).trans a.at_,fun j hj=>(off (by omega)).trans (a.c j hj),(off (by omega)).trans a.m,(off (by omega)).trans a.left,(off (by omega)).trans a.done,(off (by omega)).trans a.tb,(off (by omega)).trans a.q0,(off (by omega)).trans a.q1,World.cell?_setCell_same _ _ _ a.q2,(off (by omega)).trans a.q3,(off (by omega)).trans a.fC,(off (by omega)).trans a.st,fun j=>by simpa using a.z j,by simpa using a.l⟩
theorem kN.abW (a:kN h K s q W) (v:Value):kN h K s (q.1,q.2.1,q.2.2.1,v) (W.setCell ⟨h,21,none⟩ v):=
 ⟨(off (by omega)).trans a.w0,(off (by omega)).trans a.at_,fun j hj=>(off (by omega)).trans (a.c j hj),(off (by omega)).trans a.m,(off (by omega)).trans a.left,(off (by omega)).trans a.done,(off (by omega)).trans a.tb,(off (by omega)).trans a.q0,(off (by omega)).trans a.q1,(off (by omega)).trans a.q2,World.cell?_setCell_same _ _ _ a.q3,(off (by omega)).trans a.fC,(off (by omega)).trans a.st,fun j=>by simpa using a.z j,by simpa using a.l⟩
structure B4 where
 r:Nat
 h:Nat
 s:Nat
 l:Nat
def yh (b n:Nat):Value:= .slice (some ⟨b,0,none⟩) n n
def B4.qs (B:B4):Value×Value×Value×Value:=(yh B.r 16,yh B.h 16,yh B.s 2048,yh B.l 2048)
structure RR (h:Nat) (K:Hk) (s:Rm) (B:B4) (W:World):Prop where
 x:kN h K s B.qs W
 r:AR B.r 16 (fun j=> .int .u32 (s.reg j)) W
 g:AR B.h 16 (fun j=> .bool (s.has j)) W
 v:AR B.s 2048 (fun j=> .int .u32 (s.lQ j)) W
 d:AR B.l 2048 (fun j=> .bool (s.held j)) W
 n:h≠B.r∧h≠B.h∧h≠B.s∧h≠B.l∧B.r≠B.h∧B.r≠B.s∧B.r≠B.l∧B.h≠B.s∧B.h≠B.l∧B.s≠B.l
def B4.has (B:B4) (h i:Nat):Prop:=i=h∨i=B.r∨i=B.h∨i=B.s∨i=B.l
variable {B:B4}
theorem RR.upto {S:Nat→Prop} (a:RR h K s B W) (u:ah S W W') (hs:∀i,B.has h i→¬S i):RR h K s B W':=
 ⟨a.x.upto u (hs _ (.inl rfl)),a.r.upto u (hs _ (.inr (.inl rfl))),a.g.upto u (hs _ (.inr (.inr (.inl rfl)))),a.v.upto u (hs _ (.inr (.inr (.inr (.inl rfl))))),a.d.upto u (hs _ (.inr (.inr (.inr (.inr rfl))))),a.n⟩
theorem RR.drew (a:RR h K s B W):RR h K s B W.drew:=a.upto (ah.refl (fun _=>False) W).drew (fun _ _=>id)
theorem RR.quiet (a:RR h K s B W) (u:ah (fun _=>False) W W'):RR h K s B W':=a.upto u (fun _ _=>id)
theorem RR.box {s':Rm} (a:RR h K s B W) {j:Nat} {v:Value} (x:kN h K s' B.qs (W.setCell ⟨h,j,none⟩ v)) (e:s'.reg=s.reg∧s'.has=s.has∧s'.lQ=s.lQ∧s'.held=s.held):RR h K s' B (W.setCell ⟨h,j,none⟩ v):=by
 have u:=(ah.refl (fun i=>i=h) W).setCell (q:=⟨h,j,none⟩) (.inl rfl) v
 obtain⟨n1,n2,n3,n4,n5⟩:=a.n
 refine⟨x, ?_, ?_, ?_, ?_,a.n⟩
 ·rw [e.1];exact a.r.upto u (fun e=>n1 e.symm)
 ·rw [e.2.1];exact a.g.upto u (fun e=>n2 e.symm)
 ·rw [e.2.2.1];exact a.v.upto u (fun e=>n3 e.symm)
 ·rw [e.2.2.2];exact a.d.upto u (fun e=>n4 e.symm)
theorem RR.setAt (a:RR h K s B W) (x:Int):RR h K {s with at_:=x} B (W.setCell ⟨h,1,none⟩ (.int .i64 x)):=a.box (a.x.setAt x) ⟨rfl,rfl,rfl,rfl⟩
theorem RR.kV (a:RR h K s B W) (x:Int):RR h K {s with done:=x} B (W.setCell ⟨h,16,none⟩ (.int .i64 x)):=a.box (a.x.kV x) ⟨rfl,rfl,rfl,rfl⟩
theorem RR.yU (a:RR h K s B W) (x:Int):RR h K {s with fC:=x} B (W.setCell ⟨h,22,none⟩ (.int .i64 x)):=a.box (a.x.yU x) ⟨rfl,rfl,rfl,rfl⟩
theorem RR.kM (a:RR h K s B W) (x:Bool):RR h K {s with stuck:=x} B (W.setCell ⟨h,23,none⟩ (.bool x)):=a.box (a.x.kM x) ⟨rfl,rfl,rfl,rfl⟩
theorem RR.EH (a:RR h K s B W) (r:Nat) (x:Int) (hr:r<12):RR h K {s with c:=aO s.c r x} B (W.setCell ⟨h,2+r,none⟩ (.int .u32 x)):=a.box (a.x.EH r x hr) ⟨rfl,rfl,rfl,rfl⟩
theorem yV {α:Type} (g:α→Value) (f:Nat→α) (r:Nat) (x:α) (j:Nat):aO (fun j=>g (f j)) r (g x) j=g (aO f r x j):=by unfold aO;split<;>rfl
theorem RR.OJ (a:RR h K s B W) (r:Nat) (x:Int):RR h K {s with reg:=aO s.reg r x} B (W.setCell ⟨B.r,r,none⟩ (.int .u32 x)):=by
 obtain⟨n1,n2,n3,n4,n5,n6,n7,n8,n9,n10⟩:=a.n
 have u:=(ah.refl (fun i=>i=B.r) W).setCell (q:=⟨B.r,r,none⟩) (.inl rfl) (.int .u32 x)
 have x0:=a.x.upto u n1
 exact⟨⟨x0.w0,x0.at_,x0.c,x0.m,x0.left,x0.done,x0.tb,x0.q0,x0.q1,x0.q2,x0.q3,x0.fC,x0.st,x0.z,x0.l⟩,(a.r.set r _).as (yV _ _ _ _),a.g.upto u (fun e=>n5 e.symm),a.v.upto u (fun e=>n6 e.symm),a.d.upto u (fun e=>n7 e.symm),a.n⟩
theorem RR.YT (a:RR h K s B W) (r:Nat) (x:Bool):RR h K {s with has:=aO s.has r x} B (W.setCell ⟨B.h,r,none⟩ (.bool x)):=by
 obtain⟨n1,n2,n3,n4,n5,n6,n7,n8,n9,n10⟩:=a.n
 have u:=(ah.refl (fun i=>i=B.h) W).setCell (q:=⟨B.h,r,none⟩) (.inl rfl) (.bool x)
 have x0:=a.x.upto u n2
 exact⟨⟨x0.w0,x0.at_,x0.c,x0.m,x0.left,x0.done,x0.tb,x0.q0,x0.q1,x0.q2,x0.q3,x0.fC,x0.st,x0.z,x0.l⟩,a.r.upto u n5,(a.g.set r _).as (yV _ _ _ _),a.v.upto u (fun e=>n8 e.symm),a.d.upto u (fun e=>n9 e.symm),a.n⟩
theorem RR.OQ (a:RR h K s B W) (r:Nat) (x:Int):RR h K {s with lQ:=aO s.lQ r x} B (W.setCell ⟨B.s,r,none⟩ (.int .u32 x)):=by
 obtain⟨n1,n2,n3,n4,n5,n6,n7,n8,n9,n10⟩:=a.n
 have u:=(ah.refl (fun i=>i=B.s) W).setCell (q:=⟨B.s,r,none⟩) (.inl rfl) (.int .u32 x)
 have x0:=a.x.upto u n3
 exact⟨⟨x0.w0,x0.at_,x0.c,x0.m,x0.left,x0.done,x0.tb,x0.q0,x0.q1,x0.q2,x0.q3,x0.fC,x0.st,x0.z,x0.l⟩,a.r.upto u n6,a.g.upto u n8,(a.v.set r _).as (yV _ _ _ _),a.d.upto u (fun e=>n10 e.symm),a.n⟩
theorem RR.Uu (a:RR h K s B W) (r:Nat) (x:Bool):RR h K {s with held:=aO s.held r x} B (W.setCell ⟨B.l,r,none⟩ (.bool x)):=by
 obtain⟨n1,n2,n3,n4,n5,n6,n7,n8,n9,n10⟩:=a.n
 have u:=(ah.refl (fun i=>i=B.l) W).setCell (q:=⟨B.l,r,none⟩) (.inl rfl) (.bool x)
 have x0:=a.x.upto u n4
 exact⟨⟨x0.w0,x0.at_,x0.c,x0.m,x0.left,x0.done,x0.tb,x0.q0,x0.q1,x0.q2,x0.q3,x0.fC,x0.st,x0.z,x0.l⟩,a.r.upto u n7,a.g.upto u n9,a.v.upto u n10,(a.d.set r _).as (yV _ _ _ _),a.n⟩
theorem bJ (r:Nat) (w:World) (a:RR h K s B w) (hr:r<16):
  Calls Try.prog 110 #[.pointer (some ⟨h,0,none⟩), .int .i64 r] w fun e w'=>e= .returned (.int .u32 (s.reg r))∧RR h K (s.aA r) B w'∧ah (fun i=>i=h) w w':=by
 have r0:(0:Int)≤(r:Int):=by omega
 have r1:(r:Int) <16:=by omega
 have cf:=a.g.v r hr
 have ch:w.cell? ⟨h,19,none⟩=some (.slice (some ⟨B.h,0,none⟩) 16 16):=a.x.q1
 have cs:=a.x.st
 have zs:=a.x.z 23
 have l:=a.x.l
 have A:=κ a
 clear a
 obtain⟨b,hb⟩:∃b,s.has r=b:=⟨_,rfl⟩
 rw [hb] at cf
 have HB:=κ hb
 clear hb
 go_enter Try.func110,Try.ntmps110
 cases b
 ·go_upto_region 3 with fail
  have g:s.aA r={s with stuck:=true}:=by unfold Rm.aA;rw [HB.out,Bool.not_false,Bool.or_true]
  have A1:=A.out.kM true
  have u1:=(ah.refl (fun i=>i=h) w).setCell (q:=⟨h,23,none⟩) (.inl rfl) (.bool true)
  clear cf ch cs zs l
  generalize w.setCell ⟨h,23,none⟩ (.bool true)=w1 at A1 u1⊢
  have cr:w1.cell? ⟨B.r,r,none⟩=some (.int .u32 (s.reg r)):=A1.r.v r hr
  have ch:w1.cell? ⟨h,18,none⟩=some (.slice (some ⟨B.r,0,none⟩) 16 16):=A1.x.q0
  have l:=A1.x.l
  go_wp2_with fail
  go_ret
  exact⟨rfl,by rw [g];exact A1,u1⟩
 ·have g:s.aA r=s:=by unfold Rm.aA;rw [HB.out,Bool.not_true,Bool.or_false]
  have cr:w.cell? ⟨B.r,r,none⟩=some (.int .u32 (s.reg r)):=A.out.r.v r hr
  have cq:w.cell? ⟨h,18,none⟩=some (.slice (some ⟨B.r,0,none⟩) 16 16):=A.out.x.q0
  have g:=κ g
  go_wp2_with fail
  go_ret
  exact⟨rfl,by rw [g.out];exact A.out,ah.refl _ _⟩
theorem gV (r:Nat) (x:Int) (w:World) (a:RR h K s B w) (hr:r<16):
  Calls Try.prog 164 #[.pointer (some ⟨h,0,none⟩), .int .i64 r, .int .u32 x] w fun e w'=>e= .returned (.tuple #[])∧RR h K (s.sets r x) B w'∧ah (B.has h) w w':=by
 have r0:(0:Int)≤(r:Int):=by omega
 have r1:(r:Int) <16:=by omega
 have cr:=a.r.v r hr
 have zr:=a.r.z r
 have ch:w.cell? ⟨h,18,none⟩=some (.slice (some ⟨B.r,0,none⟩) 16 16):=a.x.q0
 have l:=a.x.l
 have A:=κ a
 clear a
 go_enter Try.func164,Try.ntmps164
 go_upto_region 1 with fail
 have A1:=A.out.OJ r x
 have u1:=(ah.refl (B.has h) w).setCell (q:=⟨B.r,r,none⟩) (.inl (.inr (.inl rfl))) (.int .u32 x)
 clear cr zr ch l A
 generalize w.setCell ⟨B.r,r,none⟩ (.int .u32 x)=w1 at A1 u1⊢
 have cr:=A1.g.v r hr
 have zr:=A1.g.z r
 have ch:w1.cell? ⟨h,19,none⟩=some (.slice (some ⟨B.h,0,none⟩) 16 16):=A1.x.q1
 have l:=A1.x.l
 have A:=κ A1
 clear A1
 go_wp2_with fail
 go_end0
 exact⟨rfl,A.out.YT r true,u1.setCell (q:=⟨B.h,r,none⟩) (.inl (.inr (.inr (.inl rfl)))) (.bool true)⟩
theorem ou (k:Int) (w:World) (a:kN h K s q w) (hs:Sl K.us K.ao K.cap w) (hw:vY K.us):
  Calls Try.prog 66 #[.pointer (some ⟨h,0,none⟩), .int .i64 k] w fun e w'=>e= .returned (.bool (zk K.us k))∧Below w.heap.size w w':=by
 have DC:=Au K.us K.ao K.cap k w hs hw
 rw [FM] at DC
 unfold zk
 obtain⟨⟨x,m,z⟩,hr⟩:∃r,jE K.us k=r:=⟨_,rfl⟩
 rw [hr] at DC⊢
 unfold X6 Cd.L at DC
 dsimp only at DC⊢
 have DC:=κ DC
 have c0:=a.w0
 have l:=a.l
 clear hr a hs
 go_enter Try.func66,Try.ntmps66
 go_wp2_with fail
 refine DC.out.mono ?_
 rintro e w1 ⟨rfl,b1⟩
 go_upto_region 2 with fail
 have xb:=XB.new w1 x 108
 have b2:=b1.alloc b1.size (.cells #[.int .i64 x.op, .int .i64 x.d, .int .i64 x.a, .int .i64 x.b, .int .i64 x.c, .int .i64 x.n, .int .u32 x.k, .int .u32 x.x] 108)
 generalize w1.alloc (.cells #[.int .i64 x.op, .int .i64 x.d, .int .i64 x.a, .int .i64 x.b, .int .i64 x.c, .int .i64 x.n, .int .u32 x.k, .int .u32 x.x] 108)=W2 at xb b2⊢
 have x0:=xb.c0
 have xl:=xb.l
 clear xb DC c0
 by_cases hz:z=0
 ·subst hz
  by_cases ho:x.op=1
  ·have e1:(x.op==1)=true:=by simp [ho]
   go_wp2_with fail
   go_ret
   exact⟨by simp [ho],b2⟩
  ·have e1:(x.op==1)=false:=by simp [ho]
   go_wp2_with fail
   go_ret
   exact⟨by simp [ho],b2⟩
 ·have e1:(z==0)=false:=by simp [hz]
  go_wp2_with fail
  go_ret
  exact⟨by simp [hz],b2⟩
theorem yX (V:World) (p:Addr) (v:Value) (n:Nat) (x:Value) (ZZ:Array Value) (hz:∀j,j<n→ZZ[j]?=some x) (t:TypeId):AR V.heap.size n (fun _=>x) ((V.setCell p v).alloc (.cells ZZ t))∧((V.setCell p v).alloc (.cells ZZ t)).heap.size=V.heap.size+1:=by
 have a:=AR.new (V.setCell p v) n x ZZ hz t
 rw [show(V.setCell p v).heap.size=V.heap.size by simp] at a
 exact⟨a,by simp⟩
theorem BL (w:World) (a:kN h K s q w):
  Calls Try.prog 65 #[.pointer (some ⟨h,0,none⟩)] w fun e w'=>e= .returned (.tuple #[])∧∃B,RR h K s.dN B w'∧(∀i,B.has h i→i=h∨w.heap.size≤i)∧ah (fun i=>i=h) w w':=by
 have m1:∀w,(Instr.makeSlice 26 (.int .i64 16) (.int .i64 16)).run Try.prog w= .ok (.slice (some ⟨w.heap.size,0,none⟩) 16 16) (w.alloc (.cells (oW (.int .u32 0) 16) 22)):=run_make_row' 26 22 (.int .u32 0) 4 Try.underlying26 (by kernel_rfl) rfl .i64 .i64 16 (by omega) (by omega)
 have m2:∀w,(Instr.makeSlice 79 (.int .i64 16) (.int .i64 16)).run Try.prog w= .ok (.slice (some ⟨w.heap.size,0,none⟩) 16 16) (w.alloc (.cells (oW (.bool false) 16) 4)):=run_make_row' 79 4 (.bool false) 1 Try.underlying79 (by kernel_rfl) rfl .i64 .i64 16 (by omega) (by omega)
 have m3:∀w,(Instr.makeSlice 26 (.int .i64 2048) (.int .i64 2048)).run Try.prog w= .ok (.slice (some ⟨w.heap.size,0,none⟩) 2048 2048) (w.alloc (.cells (oW (.int .u32 0) 2048) 22)):=run_make_row' 26 22 (.int .u32 0) 4 Try.underlying26 (by kernel_rfl) rfl .i64 .i64 2048 (by omega) (by omega)
 have m4:∀w,(Instr.makeSlice 79 (.int .i64 2048) (.int .i64 2048)).run Try.prog w= .ok (.slice (some ⟨w.heap.size,0,none⟩) 2048 2048) (w.alloc (.cells (oW (.bool false) 2048) 4)):=run_make_row' 79 4 (.bool false) 1 Try.underlying79 (by kernel_rfl) rfl .i64 .i64 2048 (by omega) (by omega)
 have G1:=κ (fun j (hj:j<16)=>oW.get (.int .u32 0) 16 j hj)
 have G2:=κ (fun j (hj:j<16)=>oW.get (.bool false) 16 j hj)
 have G3:=κ (fun j (hj:j<2048)=>oW.get (.int .u32 0) 2048 j hj)
 have G4:=κ (fun j (hj:j<2048)=>oW.get (.bool false) 2048 j hj)
 generalize oW (.int .u32 0) 16=Z1 at m1 G1
 generalize oW (.bool false) 16=Z2 at m2 G2
 generalize oW (.int .u32 0) 2048=Z3 at m3 G3
 generalize oW (.bool false) 2048=Z4 at m4 G4
 have hL:h<w.heap.size:=a.l
 have A:=κ a
 clear a
 have c0:=A.out.q0
 have z0:=A.out.z 18
 have l:=A.out.l
 go_enter Try.func65,Try.ntmps65
 go_upto_region 1 with fail
 have a1:=(A.out.abT (yh w.heap.size 16)).upto ((ah.refl (fun _=>False) _).alloc (.cells Z1 22)) id
 obtain⟨n1,s1⟩:=yX w ⟨h,18,none⟩ (yh w.heap.size 16) 16 (.int .u32 0) Z1 G1.out 22
 have v1:=((ah.refl (fun i=>i=h) w).setCell (q:=⟨h,18,none⟩) (.inl rfl) (yh w.heap.size 16)).alloc (.cells Z1 22)
 unfold yh at a1 n1 s1 v1
 generalize((w.setCell ⟨h,18,none⟩ (.slice (some ⟨w.heap.size,0,none⟩) 16 16)).alloc (.cells Z1 22))=w1 at a1 n1 s1 v1⊢
 replace s1:w.heap.size<w1.heap.size:=by omega
 have A:=κ a1
 clear a1 c0 z0 l
 have c0:=A.out.q1
 have z0:=A.out.z 19
 have l:=A.out.l
 go_upto_region 2 with fail
 have a2:=(A.out.abU (yh w1.heap.size 16)).upto ((ah.refl (fun _=>False) _).alloc (.cells Z2 4)) id
 obtain⟨n2,s2⟩:=yX w1 ⟨h,19,none⟩ (yh w1.heap.size 16) 16 (.bool false) Z2 G2.out 4
 have v2:=((ah.refl (fun i=>i=h) w1).setCell (q:=⟨h,19,none⟩) (.inl rfl) (yh w1.heap.size 16)).alloc (.cells Z2 4)
 unfold yh at a2 n2 s2 v2
 generalize((w1.setCell ⟨h,19,none⟩ (.slice (some ⟨w1.heap.size,0,none⟩) 16 16)).alloc (.cells Z2 4))=w2 at a2 n2 s2 v2⊢
 replace s2:w1.heap.size<w2.heap.size:=by omega
 have A:=κ a2
 clear a2 c0 z0 l
 have c0:=A.out.q2
 have z0:=A.out.z 20
 have l:=A.out.l
 have n1:=n1.upto v2 (by omega)
 go_upto_region 3 with fail
 have a3:=(A.out.abV (yh w2.heap.size 2048)).upto ((ah.refl (fun _=>False) _).alloc (.cells Z3 22)) id
 obtain⟨n3,s3⟩:=yX w2 ⟨h,20,none⟩ (yh w2.heap.size 2048) 2048 (.int .u32 0) Z3 G3.out 22
 have v3:=((ah.refl (fun i=>i=h) w2).setCell (q:=⟨h,20,none⟩) (.inl rfl) (yh w2.heap.size 2048)).alloc (.cells Z3 22)
 unfold yh at a3 n3 s3 v3
 generalize((w2.setCell ⟨h,20,none⟩ (.slice (some ⟨w2.heap.size,0,none⟩) 2048 2048)).alloc (.cells Z3 22))=w3 at a3 n3 s3 v3⊢
 replace s3:w2.heap.size<w3.heap.size:=by omega
 have A:=κ a3
 clear a3 c0 z0 l
 have c0:=A.out.q3
 have z0:=A.out.z 21
 have l:=A.out.l
 have n1:=n1.upto v3 (by omega)
 have n2:=n2.upto v3 (by omega)
 go_wp2_with fail
 have a4:=(A.out.abW (yh w3.heap.size 2048)).upto ((ah.refl (fun _=>False) _).alloc (.cells Z4 4)) id
 obtain⟨n4,s4⟩:=yX w3 ⟨h,21,none⟩ (yh w3.heap.size 2048) 2048 (.bool false) Z4 G4.out 4
 have v4:=((ah.refl (fun i=>i=h) w3).setCell (q:=⟨h,21,none⟩) (.inl rfl) (yh w3.heap.size 2048)).alloc (.cells Z4 4)
 unfold yh at a4 n4 s4 v4
 generalize((w3.setCell ⟨h,21,none⟩ (.slice (some ⟨w3.heap.size,0,none⟩) 2048 2048)).alloc (.cells Z4 4))=w4 at a4 n4 s4 v4⊢
 replace s4:w3.heap.size<w4.heap.size:=by omega
 have n1:=n1.upto v4 (by omega)
 have n2:=n2.upto v4 (by omega)
 have n3:=n3.upto v4 (by omega)
 go_end0
 refine⟨rfl,⟨w.heap.size,w1.heap.size,w2.heap.size,w3.heap.size⟩,⟨⟨a4.w0,a4.at_,a4.c,a4.m,a4.left,a4.done,a4.tb,a4.q0,a4.q1,a4.q2,a4.q3,a4.fC,a4.st,a4.z,a4.l⟩,n1,n2,n3,n4, ?_⟩, ?_,(((v1.trans v2).trans v3).trans v4)⟩
 ·show h≠w.heap.size∧h≠w1.heap.size∧h≠w2.heap.size∧h≠w3.heap.size∧w.heap.size≠w1.heap.size∧w.heap.size≠w2.heap.size∧w.heap.size≠w3.heap.size∧w1.heap.size≠w2.heap.size∧w1.heap.size≠w3.heap.size∧w2.heap.size≠w3.heap.size
  omega
 ·rintro i (e | e | e | e | e)
  ·exact .inl e
  ·exact .inr (by subst e;exact Nat.le_refl _)
  ·exact .inr (by have e':i=w1.heap.size:=e;omega)
  ·exact .inr (by have e':i=w2.heap.size:=e;omega)
  ·exact .inr (by have e':i=w3.heap.size:=e;omega)
def ifW (c:Bool) (a b:Rm):Rm:=if c then a else b
structure RW (w:World) (x:Cd) (h:Nat) (K:Hk) (s:Rm) (B:B4) (P:RP) (M:MM) (W:World):Prop where
 x:XB w.heap.size x W
 a:RR h K s B W
 m:RM P M W
 u:ah (fun i=>B.has h i∨P.has i) w W
 hb:∀i,B.has h i→i<w.heap.size
 hp:∀i,P.has i→i<w.heap.size
 ds:∀i,P.has i→¬B.has h i
section
variable {w W W':World} {x:Cd} {h:Nat} {K:Hk} {s s':Rm} {B:B4} {P:RP} {M M':MM}
theorem RW.mv (a:RW w x h K s B P M W) (u:ah (fun i=>w.heap.size<i) W W'):RW w x h K s B P M W':=
 ⟨a.x.upto u (Nat.lt_irrefl _),a.a.upto u (fun i hi=>by have:=a.hb i hi;omega),a.m.upto u (fun i hi=>by have:=a.hp i hi;omega),(a.u.mono (T:=fun i=>(B.has h i∨P.has i)∨w.heap.size<i) fun _ _ h=> .inl h).trans (u.mono (T:=fun i=>(B.has h i∨P.has i)∨w.heap.size<i) fun _ _ h=> .inr h) |>.mono fun i hi e=>e.elim id fun e=>by omega,a.hb,a.hp,a.ds⟩
theorem RW.quiet (a:RW w x h K s B P M W) (u:ah (fun _=>False) W W'):RW w x h K s B P M W':=a.mv (u.mono fun _ _ h=>h.elim)
theorem RW.drew (a:RW w x h K s B P M W):RW w x h K s B P M W.drew:=a.quiet (ah.refl _ W).drew
theorem RW.al (a:RW w x h K s B P M W) (o:Obj):RW w x h K s B P M (W.alloc o):=a.quiet ((ah.refl _ W).alloc o)
theorem RW.go (a:RW w x h K s B P M W) (r:RR h K s' B W') (u:ah (B.has h) W W'):RW w x h K s' B P M W':=
 ⟨a.x.upto u (fun e=>by have:=a.hb _ e;omega),r,a.m.upto u (fun i hi=>a.ds i hi),a.u.trans (u.mono fun _ _ h=> .inl h),a.hb,a.hp,a.ds⟩
theorem RW.lF (a:RW w x h K s B P M W) (r:RR h K s' B W') (u:ah (fun i=>i=h) W W'):RW w x h K s' B P M W':=a.go r (u.mono fun _ _ e=> .inl e)
theorem RW.mem (a:RW w x h K s B P M W) (m:RM P M' W') (u:ah P.has W W'):RW w x h K s B P M' W':=
 ⟨a.x.upto u (fun e=>by have:=a.hp _ e;omega),a.a.upto u (fun i hi e=>a.ds i e hi),m,a.u.trans (u.mono fun _ _ h=> .inr h),a.hb,a.hp,a.ds⟩
theorem RW.new (w:World) (x:Cd) (t:TypeId) (a:RR h K s B w) (m:RM P M w) (hb:∀i,B.has h i→i<w.heap.size) (hp:∀i,P.has i→i<w.heap.size) (ds:∀i,P.has i→¬B.has h i):RW w x h K s B P M (w.alloc (.cells #[.int .i64 x.op, .int .i64 x.d, .int .i64 x.a, .int .i64 x.b, .int .i64 x.c, .int .i64 x.n, .int .u32 x.k, .int .u32 x.x] t)):=
 have u:=(ah.refl (fun _=>False) w).alloc (.cells #[.int .i64 x.op, .int .i64 x.d, .int .i64 x.a, .int .i64 x.b, .int .i64 x.c, .int .i64 x.n, .int .u32 x.k, .int .u32 x.x] t)
 ⟨XB.new w x t,a.quiet u,m.upto u (fun _ _=>id),u.mono fun _ _ h=>h.elim,hb,hp,ds⟩
end
theorem RR.lt {h:Nat} {K:Hk} {s:Rm} {B:B4} {W:World} (a:RR h K s B W):∀i,B.has h i→i<W.heap.size:=by
 rintro i (e | e | e | e | e) <;>subst e
 ·exact a.x.l
 ·exact a.r.l
 ·exact a.g.l
 ·exact a.v.l
 ·exact a.d.l
variable {h:Nat} {K:Hk} {s:Rm} {B:B4} {P:RP} {M:MM}
theorem r4 {w W:World} {x:Cd} (a:RW w x h K s B P M W) (hK:K.p=P.q):W.cell? ⟨h,14,none⟩=some (.pointer (some ⟨P.q,0,none⟩))∧W.cell? ⟨w.heap.size,0,none⟩=some (.int .i64 x.op):=⟨hK▸a.a.x.m,a.x.c0⟩
theorem _root_.Go.Proofs.Ytcjcmnnhmajocab.Ev.KB.al {h:Nat} {k x:Int} {W:World} (a:KB h k x W) (o:Obj):KB h k x (W.alloc o):=a.upto ((ah.refl (fun _=>False) W).alloc o) id
theorem _root_.Go.Proofs.Ytcjcmnnhmajocab.Ev.KB.dr {h:Nat} {k x:Int} {W:World} (a:KB h k x W):KB h k x W.drew:=a.upto (ah.refl (fun _=>False) W).drew id
theorem Uw (x:Cd) (ra rd:Nat) (w:World) (a:RR h K s B w) (m:RM P M w) (hK:K.p=P.q) (hp:∀i,P.has i→i<w.heap.size) (ds:∀i,P.has i→¬B.has h i) (hM:iC M) (ho:80≤x.op∧x.op<85) (ha:x.a=ra) (hd:x.d=rd) (la:ra<16) (ld:rd<16) (oz:0≤s.reg ra∧s.reg ra<4294967296):
  Calls Try.prog 111 #[.pointer (some ⟨h,0,none⟩), .agg #[.int .i64 x.op, .int .i64 x.d, .int .i64 x.a, .int .i64 x.b, .int .i64 x.c, .int .i64 x.n, .int .u32 x.k, .int .u32 x.x]] w fun e w'=>e= .returned (.agg #[.int .i64 (St.qG 5 (cO M 1 (s.reg ra) (ni (x.op-80)).toNat)), .int .u32 (St.wP (cO M 1 (s.reg ra) (ni (x.op-80)).toNat))])∧RR h K (ifW (St.qG 5 (cO M 1 (s.reg ra) (ni (x.op-80)).toNat) !=0) (s.aA ra) ((s.aA ra).sets rd (wid (x.op-80) (nC M (s.reg ra) (ni (x.op-80)))))) B w'∧RM P M w'∧ah (fun i=>B.has h i∨P.has i) w w':=by
 have GA:Hid (∀w,RR h K s B w→Calls Try.prog 110 #[.pointer (some ⟨h,0,none⟩), .int .i64 ra] w fun e w'=>e= .returned (.int .u32 (s.reg ra))∧RR h K (s.aA ra) B w'∧ah (fun i=>i=h) w w'):=fun w a=>bJ ra w a la
 have CL:=(fun w h=>FD P M (x.op-80) (s.reg ra) w h hM (by omega) (by omega) oz.1 oz.2)
 simp only [St.dQ] at CL
 generalize St.qG 5 (cO M 1 (s.reg ra) (ni (x.op-80)).toNat)=kk at CL⊢
 generalize St.wP (cO M 1 (s.reg ra) (ni (x.op-80)).toNat)=xq at CL⊢
 generalize wid (x.op-80) (nC M (s.reg ra) (ni (x.op-80)))=v at CL⊢
 have ew:IntKind.i64.wrap (x.op-80)=x.op-80:=IntWalk.i64_in _ (by omega)
 have CL:Hid (∀w,RM P M w→Calls Try.prog 62 #[.pointer (some ⟨P.q,0,none⟩), .int .i64 (IntKind.i64.wrap (x.op-80)), .int .u32 (s.reg ra)] w fun e w'=>e= .returned (.tuple #[.int .u32 v, .agg #[.int .i64 kk, .int .u32 xq]])∧Below w.heap.size w w'):=fun w h=>by
  rw [ew];exact CL w h
 clear ew
 have SE:Hid (∀w,RR h K (s.aA ra) B w→Calls Try.prog 164 #[.pointer (some ⟨h,0,none⟩), .int .i64 rd, .int .u32 v] w fun e w'=>e= .returned (.tuple #[])∧RR h K ((s.aA ra).sets rd v) B w'∧ah (B.has h) w w'):=fun w a=>gV rd v w a ld
 generalize(s.aA ra).sets rd v=s2 at SE⊢
 generalize s.aA ra=s1 at GA SE⊢
 generalize s.reg ra=va at GA CL
 obtain⟨c,hc⟩:∃c,(kk !=0)=c:=⟨_,rfl⟩
 rw [hc]
 have HCC:=κ hc
 clear hc
 have HA:=κ ha
 have HD:=κ hd
 have rD:=κ hK
 clear ha hd oz hM hK
 have r88:decide (x.op<88)=true:=by simp;omega
 obtain⟨Gx,Gy⟩:=ho
 have Cc:=a.lt
 have kw:=(RW.new w x 108 a m Cc hp ds).al (.cells #[.int .i64 0, .int .u32 0] 46)
 have kr:=KB.new (w.alloc (.cells #[.int .i64 x.op, .int .i64 x.d, .int .i64 x.a, .int .i64 x.b, .int .i64 x.c, .int .i64 x.n, .int .u32 x.k, .int .u32 x.x] 108)) 0 0 46
 rw [show(w.alloc (.cells #[.int .i64 x.op, .int .i64 x.d, .int .i64 x.a, .int .i64 x.b, .int .i64 x.c, .int .i64 x.n, .int .u32 x.k, .int .u32 x.x] 108)).heap.size=w.heap.size+1 by simp] at kr
 have hh:h<w.heap.size:=a.x.l
 clear a m Cc
 go_enter Try.func111,Try.ntmps111
 go_upto_region 1 with fail
 generalize V9:(w.alloc (.cells #[.int .i64 x.op, .int .i64 x.d, .int .i64 x.a, .int .i64 x.b, .int .i64 x.c, .int .i64 x.n, .int .u32 x.k, .int .u32 x.x] 108)).alloc (.cells #[.int .i64 0, .int .u32 0] 46)=WA at kw kr⊢
 have hA:w.heap.size+1<WA.heap.size:=kr.l
 clear V9
 have x0:=kw.x.c0
 have x2:=kw.x.c2
 rw [HA.out] at x2
 have lx:=kw.x.l
 have KW:=κ kw
 have KR:=κ kr
 clear kw kr
 go_upto_region 3 with(go_at_call 110;(with_reducible refine(GA.out _ KW.out.a).mono ?_);rintro e w2 ⟨rfl,a2,u2⟩;have KR:=κ (KR.out.upto u2 (by omega));have KW:=κ (KW.out.lF a2 u2);have x0:=KW.out.x.c0;have lx:=KW.out.x.l;have hA:w.heap.size+1<w2.heap.size:=KR.out.l;clear a2 u2)
 have F0:=κ (r4 KW.out rD.out)
 have Fd:=κ (r4 KW.out.drew rD.out)
 have Fa:=κ (fun o:Obj=>r4 (KW.out.al o).drew rD.out)
 have hw2:w.heap.size<w2.heap.size:=by omega
 clear x0 lx
 go_region_held3 (fun W=>W.cell? ⟨h,14,none⟩=some (.pointer (some ⟨P.q,0,none⟩))∧W.cell? ⟨w.heap.size,0,none⟩=some (.int .i64 x.op)) (with_reducible (first | apply F0.out | apply Fd.out | apply Fa.out | apply F3.out | apply Fx.out | apply F4.out))
  ((go_at_call 62;(with_reducible refine(CL.out _ (by first | exact KW.out.drew.m | exact(KW.out.al _).drew.m)).mono ?_);rintro e w3 ⟨rfl,b3⟩;have u3:=ah.aG (S:=fun _=>False) b3;have iL:Hid (RW w x h K s1 B P M w3):=(by first | exact KW.out.drew.quiet u3 | exact(KW.out.al _).drew.quiet u3);have KR3:Hid (KB (w.heap.size+1) 0 0 w3):=(by first | exact KR.out.dr.upto u3 id | exact(KR.out.al _).dr.upto u3 id);have F3:=κ (r4 iL.out rD.out);have Fx:=κ (fun o:Obj=>r4 (iL.out.al o) rD.out);have hA3:w.heap.size+1<w3.heap.size:=KR3.out.l;have hh3:h<w3.heap.size:=iL.out.a.x.l;(first | (have YU:KB w2.heap.size 0 0 w3:=(KB.new w2 0 0 _).dr.upto u3 id;have F4:=κ (fun a b:Value=>r4 (iL.out.mv (((ah.refl (fun i=>w.heap.size<i) w3).setCell (q:=⟨w2.heap.size,0,none⟩) (.inl hw2) a).setCell (q:=⟨w2.heap.size,1,none⟩) (.inl hw2) b)) rD.out);have kq0:=YU.c0;have kq1:=YU.c1;have kz0:=YU.z 0;have kz1:=YU.z 1;have lq:=YU.l) | skip);clear b3 u3))
 have kd:=KB.new w3 kk xq 46
 have kw:=iL.out.al (.cells #[.int .i64 kk, .int .u32 xq] 46)
 have kr:=KR3.out.al (.cells #[.int .i64 kk, .int .u32 xq] 46)
 have hgd:w.heap.size+1<w3.heap.size:=hA3
 clear F0 Fd Fa F3 Fx iL KR3 KW KR hh3
 generalize(w3.alloc (.cells #[.int .i64 kk, .int .u32 xq] 46))=w4 at kd kw kr⊢
 generalize w3.heap.size=gd at kd hgd⊢
 rotate_left
 have kd:=YU.set kk xq
 have kw:=iL.out.mv (((ah.refl (fun i=>w.heap.size<i) w3).setCell (q:=⟨w2.heap.size,0,none⟩) (.inl hw2) (.int .i64 kk)).setCell (q:=⟨w2.heap.size,1,none⟩) (.inl hw2) (.int .u32 xq))
 have kr:=KR3.out.upto (((ah.refl (fun i=>i=w2.heap.size) w3).setCell (q:=⟨w2.heap.size,0,none⟩) (.inl rfl) (.int .i64 kk)).setCell (q:=⟨w2.heap.size,1,none⟩) (.inl rfl) (.int .u32 xq)) (by omega)
 have hgd:w.heap.size+1<w2.heap.size:=hA
 clear YU kq0 kq1 kz0 kz1 lq F4
 clear F0 Fd Fa F3 Fx iL KR3 KW KR hh3
 generalize((w3.setCell ⟨w2.heap.size,0,none⟩ (.int .i64 kk)).setCell ⟨w2.heap.size,1,none⟩ (.int .u32 xq))=w4 at kd kw kr⊢
 generalize w2.heap.size=gd at kd hgd⊢
 rotate_left
 all_goals
  have KW:=κ kw
  have KR:=κ kr
  have KD:=κ kd
  have hA4:w.heap.size+1<w4.heap.size:=kr.l
  clear kw kr kd
  have k0:=KD.out.c0
  have k1:=KD.out.c1
  have lk:=KD.out.l
  by_cases hz:kk=0
  ·have e1:(kk==0)=true:=by simp [hz]
   have zD:=κ (show c=false from by rw [←HCC.out];simp [hz])
   clear hz
   have x1:=KW.out.x.c1
   rw [HD.out] at x1
   have lx:=KW.out.x.l
   go_upto_region 6 with(go_at_call 164;(with_reducible refine(SE.out _ KW.out.a).mono ?_);rintro e w5 ⟨rfl,a5,u5⟩;have KW:=κ (KW.out.go a5 u5);have KR:=κ (KR.out.upto u5 (fun hi=>by have:=KW.out.hb _ hi;omega));have KD:=κ (KD.out.upto u5 (fun hi=>by have:=KW.out.hb _ hi;omega));have k0:=KD.out.c0;have k1:=KD.out.c1;have lk:=KD.out.l;clear a5 u5)
   clear x1 lx
   have x1:=KR.out.c0
   have x3:=KR.out.c1
   have y0:=KR.out.z 0
   have y1:=KR.out.z 1
   have ly:=KR.out.l
   go_wp2_with fail
   have kr:=KR.out.set kk xq
   have uu:=(((ah.refl (fun i=>i=w.heap.size+1) w5).setCell (q:=⟨w.heap.size+1,0,none⟩) (.inl rfl) (.int .i64 kk)).setCell (q:=⟨w.heap.size+1,1,none⟩) (.inl rfl) (.int .u32 xq))
   clear x1 x3 y0 y1 ly k0 k1 lk
   have kw:=KW.out.mv (uu.mono fun i _ e=>by show w.heap.size<i;omega)
   clear uu
   generalize((w5.setCell ⟨w.heap.size+1,0,none⟩ (.int .i64 kk)).setCell ⟨w.heap.size+1,1,none⟩ (.int .u32 xq))=w6 at kr kw⊢
   have g0:=kr.c0
   have g1:=kr.c1
   exact bodyPost_ret (v:= .agg #[.int .i64 kk, .int .u32 xq]) (by simp [results,Try.results111,go_sem,g0,g1]) rfl ⟨rfl,by rw [zD.out];exact kw.a,kw.m,kw.u⟩
  ·have e1:(kk==0)=false:=by simp [hz]
   have zD:=κ (show c=true from by rw [←HCC.out];simp [hz])
   clear hz
   go_upto_region 6 with fail
   obtain⟨w5,hw5⟩:∃w5,w5=w4:=⟨_,rfl⟩
   rw [←hw5] at KW KR KD k0 k1 lk hA4⊢
   clear hw5
   have x1:=KR.out.c0
   have x3:=KR.out.c1
   have y0:=KR.out.z 0
   have y1:=KR.out.z 1
   have ly:=KR.out.l
   go_wp2_with fail
   have kr:=KR.out.set kk xq
   have uu:=(((ah.refl (fun i=>i=w.heap.size+1) w5).setCell (q:=⟨w.heap.size+1,0,none⟩) (.inl rfl) (.int .i64 kk)).setCell (q:=⟨w.heap.size+1,1,none⟩) (.inl rfl) (.int .u32 xq))
   clear x1 x3 y0 y1 ly k0 k1 lk
   have kw:=KW.out.mv (uu.mono fun i _ e=>by show w.heap.size<i;omega)
   clear uu
   generalize((w5.setCell ⟨w.heap.size+1,0,none⟩ (.int .i64 kk)).setCell ⟨w.heap.size+1,1,none⟩ (.int .u32 xq))=w6 at kr kw⊢
   have g0:=kr.c0
   have g1:=kr.c1
   exact bodyPost_ret (v:= .agg #[.int .i64 kk, .int .u32 xq]) (by simp [results,Try.results111,go_sem,g0,g1]) rfl ⟨rfl,by rw [zD.out];exact kw.a,kw.m,kw.u⟩
theorem OT (x:Cd) (ra rd:Nat) (w:World) (a:RR h K s B w) (m:RM P M w) (hK:K.p=P.q) (hp:∀i,P.has i→i<w.heap.size) (ds:∀i,P.has i→¬B.has h i) (hM:iC M) (ho:88≤x.op∧x.op<91) (ha:x.a=ra) (hd:x.d=rd) (la:ra<16) (ld:rd<16) (oz:∀j,0≤s.reg j∧s.reg j<4294967296) (gZ:((s.aA ra).aA rd).stuck=true):
  Calls Try.prog 111 #[.pointer (some ⟨h,0,none⟩), .agg #[.int .i64 x.op, .int .i64 x.d, .int .i64 x.a, .int .i64 x.b, .int .i64 x.c, .int .i64 x.n, .int .u32 x.k, .int .u32 x.x]] w fun e w'=>e= .returned (.agg #[.int .i64 0, .int .u32 0])∧RR h K ((s.aA ra).aA rd) B w'∧RM P M w'∧ah (fun i=>B.has h i∨P.has i) w w':=by
 have GA:Hid (∀w,RR h K s B w→Calls Try.prog 110 #[.pointer (some ⟨h,0,none⟩), .int .i64 ra] w fun e w'=>e= .returned (.int .u32 (s.reg ra))∧RR h K (s.aA ra) B w'∧ah (fun i=>i=h) w w'):=fun w a=>bJ ra w a la
 have GB:Hid (∀w,RR h K (s.aA ra) B w→Calls Try.prog 110 #[.pointer (some ⟨h,0,none⟩), .int .i64 rd] w fun e w'=>e= .returned (.int .u32 (s.reg rd))∧RR h K ((s.aA ra).aA rd) B w'∧ah (fun i=>i=h) w w'):=fun w a=>bJ rd w a ld
 obtain⟨kk,hkk⟩:∃k:Int,k=0:=⟨_,rfl⟩
 obtain⟨xq,hxq⟩:∃k:Int,k=0:=⟨_,rfl⟩
 clear hkk hxq kk xq
 generalize(s.aA ra).aA rd=s2 at GB gZ⊢
 generalize s.aA ra=s1 at GA GB
 generalize s.reg ra=va at GA
 generalize s.reg rd=vd at GB
 have DJ:=κ gZ
 have HA:=κ ha
 have HD:=κ hd
 have rD:=κ hK
 clear ha hd oz hM hK gZ
 have r88:decide (x.op<88)=false:=by simp;omega
 obtain⟨Gx,Gy⟩:=ho
 have Cc:=a.lt
 have kw:=(RW.new w x 108 a m Cc hp ds).al (.cells #[.int .i64 0, .int .u32 0] 46)
 have kr:=KB.new (w.alloc (.cells #[.int .i64 x.op, .int .i64 x.d, .int .i64 x.a, .int .i64 x.b, .int .i64 x.c, .int .i64 x.n, .int .u32 x.k, .int .u32 x.x] 108)) 0 0 46
 rw [show(w.alloc (.cells #[.int .i64 x.op, .int .i64 x.d, .int .i64 x.a, .int .i64 x.b, .int .i64 x.c, .int .i64 x.n, .int .u32 x.k, .int .u32 x.x] 108)).heap.size=w.heap.size+1 by simp] at kr
 have hh:h<w.heap.size:=a.x.l
 clear a m Cc
 go_enter Try.func111,Try.ntmps111
 go_upto_region 1 with fail
 generalize V9:(w.alloc (.cells #[.int .i64 x.op, .int .i64 x.d, .int .i64 x.a, .int .i64 x.b, .int .i64 x.c, .int .i64 x.n, .int .u32 x.k, .int .u32 x.x] 108)).alloc (.cells #[.int .i64 0, .int .u32 0] 46)=WA at kw kr⊢
 have hA:w.heap.size+1<WA.heap.size:=kr.l
 clear V9
 have x0:=kw.x.c0
 have x2:=kw.x.c2
 rw [HA.out] at x2
 have lx:=kw.x.l
 have KW:=κ kw
 have KR:=κ kr
 clear kw kr
 go_upto_region 7 with(go_at_call 110;(with_reducible refine(GA.out _ KW.out.a).mono ?_);rintro e w2 ⟨rfl,a2,u2⟩;have KR:=κ (KR.out.upto u2 (by omega));have KW:=κ (KW.out.lF a2 u2);have x0:=KW.out.x.c0;have lx:=KW.out.x.l;have hA:w.heap.size+1<w2.heap.size:=KR.out.l;clear a2 u2)
 clear x0 lx x2
 have x1:=KW.out.x.c1
 rw [HD.out] at x1
 have lx:=KW.out.x.l
 go_upto_region 8 with(go_at_call 110;(with_reducible refine(GB.out _ KW.out.a).mono ?_);rintro e w3 ⟨rfl,a3,u3⟩;have KR:=κ (KR.out.upto u3 (by omega));have KW:=κ (KW.out.lF a3 u3);have hA3:w.heap.size+1<w3.heap.size:=KR.out.l;clear a3 u3)
 clear x1 lx
 have wW:=KW.out.a.x.st
 rw [DJ.out] at wW
 have lh:=KW.out.a.x.l
 go_upto_region 9 with fail
 clear wW lh
 have y0:=KR.out.z 0
 have y1:=KR.out.z 1
 have x0:=KR.out.c0
 have x1:=KR.out.c1
 have ly:=KR.out.l
 go_wp2_with fail
 clear y0 y1 x0 x1 ly
 have kr:=KR.out.set 0 0
 have kw:=KW.out.mv (((ah.refl (fun i=>w.heap.size<i) w3).setCell (q:=⟨w.heap.size+1,0,none⟩) (.inl (Nat.lt_succ_self _)) (.int .i64 0)).setCell (q:=⟨w.heap.size+1,1,none⟩) (.inl (Nat.lt_succ_self _)) (.int .u32 0))
 generalize((w3.setCell ⟨w.heap.size+1,0,none⟩ (.int .i64 0)).setCell ⟨w.heap.size+1,1,none⟩ (.int .u32 0))=w6 at kr kw⊢
 have g0:=kr.c0
 have g1:=kr.c1
 exact bodyPost_ret (v:= .agg #[.int .i64 0, .int .u32 0]) (by simp [results,Try.results111,go_sem,g0,g1]) rfl ⟨rfl,kw.a,kw.m,kw.u⟩
theorem OX (x:Cd) (ra rd:Nat) (w:World) (a:RR h K s B w) (m:RM P M w) (hK:K.p=P.q) (hp:∀i,P.has i→i<w.heap.size) (ds:∀i,P.has i→¬B.has h i) (hM:iC M) (ho:88≤x.op∧x.op<91) (ha:x.a=ra) (hd:x.d=rd) (la:ra<16) (ld:rd<16) (oz:∀j,0≤s.reg j∧s.reg j<4294967296) (gZ:((s.aA ra).aA rd).stuck=false):
  Calls Try.prog 111 #[.pointer (some ⟨h,0,none⟩), .agg #[.int .i64 x.op, .int .i64 x.d, .int .i64 x.a, .int .i64 x.b, .int .i64 x.c, .int .i64 x.n, .int .u32 x.k, .int .u32 x.x]] w fun e w'=>e= .returned (.agg #[.int .i64 (St.qG 6 (nJ M (s.reg ra) (oD (x.op-88)))), .int .u32 (St.wP (nJ M (s.reg ra) (oD (x.op-88))))])∧RR h K ((s.aA ra).aA rd) B w'∧RM P (rU M (s.reg ra) (oD (x.op-88)) (s.reg rd)) w'∧ah (fun i=>B.has h i∨P.has i) w w':=by
 have GA:Hid (∀w,RR h K s B w→Calls Try.prog 110 #[.pointer (some ⟨h,0,none⟩), .int .i64 ra] w fun e w'=>e= .returned (.int .u32 (s.reg ra))∧RR h K (s.aA ra) B w'∧ah (fun i=>i=h) w w'):=fun w a=>bJ ra w a la
 have GB:Hid (∀w,RR h K (s.aA ra) B w→Calls Try.prog 110 #[.pointer (some ⟨h,0,none⟩), .int .i64 rd] w fun e w'=>e= .returned (.int .u32 (s.reg rd))∧RR h K ((s.aA ra).aA rd) B w'∧ah (fun i=>i=h) w w'):=fun w a=>bJ rd w a ld
 have CS:=(fun w h=>FH P M (x.op-88) (s.reg ra) (s.reg rd) w h hM (by omega) (by omega) (oz ra).1 (oz ra).2 (oz rd).1 (oz rd).2)
 simp only [St.dQ] at CS
 generalize St.qG 6 (nJ M (s.reg ra) (oD (x.op-88)))=kk at CS⊢
 generalize St.wP (nJ M (s.reg ra) (oD (x.op-88)))=xq at CS⊢
 generalize rU M (s.reg ra) (oD (x.op-88)) (s.reg rd)=M' at CS⊢
 have ew:IntKind.i64.wrap (x.op-88)=x.op-88:=IntWalk.i64_in _ (by omega)
 have CS:Hid (∀w,RM P M w→Calls Try.prog 63 #[.pointer (some ⟨P.q,0,none⟩), .int .i64 (IntKind.i64.wrap (x.op-88)), .int .u32 (s.reg ra), .int .u32 (s.reg rd)] w fun e w'=>e= .returned (.agg #[.int .i64 kk, .int .u32 xq])∧RM P M' w'∧ah P.has w w'):=fun w h=>by
  rw [ew];exact CS w h
 clear ew
 generalize(s.aA ra).aA rd=s2 at GB gZ⊢
 generalize s.aA ra=s1 at GA GB
 generalize s.reg ra=va at GA CS
 generalize s.reg rd=vd at GB CS
 have DJ:=κ gZ
 have HA:=κ ha
 have HD:=κ hd
 have rD:=κ hK
 clear ha hd oz hM hK gZ
 have r88:decide (x.op<88)=false:=by simp;omega
 obtain⟨Gx,Gy⟩:=ho
 have Cc:=a.lt
 have kw:=(RW.new w x 108 a m Cc hp ds).al (.cells #[.int .i64 0, .int .u32 0] 46)
 have kr:=KB.new (w.alloc (.cells #[.int .i64 x.op, .int .i64 x.d, .int .i64 x.a, .int .i64 x.b, .int .i64 x.c, .int .i64 x.n, .int .u32 x.k, .int .u32 x.x] 108)) 0 0 46
 rw [show(w.alloc (.cells #[.int .i64 x.op, .int .i64 x.d, .int .i64 x.a, .int .i64 x.b, .int .i64 x.c, .int .i64 x.n, .int .u32 x.k, .int .u32 x.x] 108)).heap.size=w.heap.size+1 by simp] at kr
 have hh:h<w.heap.size:=a.x.l
 clear a m Cc
 go_enter Try.func111,Try.ntmps111
 go_upto_region 1 with fail
 generalize V9:(w.alloc (.cells #[.int .i64 x.op, .int .i64 x.d, .int .i64 x.a, .int .i64 x.b, .int .i64 x.c, .int .i64 x.n, .int .u32 x.k, .int .u32 x.x] 108)).alloc (.cells #[.int .i64 0, .int .u32 0] 46)=WA at kw kr⊢
 have hA:w.heap.size+1<WA.heap.size:=kr.l
 clear V9
 have x0:=kw.x.c0
 have x2:=kw.x.c2
 rw [HA.out] at x2
 have lx:=kw.x.l
 have KW:=κ kw
 have KR:=κ kr
 clear kw kr
 go_upto_region 7 with(go_at_call 110;(with_reducible refine(GA.out _ KW.out.a).mono ?_);rintro e w2 ⟨rfl,a2,u2⟩;have KR:=κ (KR.out.upto u2 (by omega));have KW:=κ (KW.out.lF a2 u2);have x0:=KW.out.x.c0;have lx:=KW.out.x.l;have hA:w.heap.size+1<w2.heap.size:=KR.out.l;clear a2 u2)
 clear x0 lx x2
 have x1:=KW.out.x.c1
 rw [HD.out] at x1
 have lx:=KW.out.x.l
 go_upto_region 8 with(go_at_call 110;(with_reducible refine(GB.out _ KW.out.a).mono ?_);rintro e w3 ⟨rfl,a3,u3⟩;have KR:=κ (KR.out.upto u3 (by omega));have KW:=κ (KW.out.lF a3 u3);have hA3:w.heap.size+1<w3.heap.size:=KR.out.l;clear a3 u3)
 clear x1 lx
 have wW:=KW.out.a.x.st
 rw [DJ.out] at wW
 have lh:=KW.out.a.x.l
 go_upto_region 10 with fail
 clear wW lh
 have F0:=κ (r4 KW.out rD.out)
 have Fd:=κ (r4 KW.out.drew rD.out)
 have x0:=KR.out.c0
 have x1:=KR.out.c1
 have y0:=KR.out.z 0
 have y1:=KR.out.z 1
 have ly:=KR.out.l
 go_region_held3 (fun W=>W.cell? ⟨h,14,none⟩=some (.pointer (some ⟨P.q,0,none⟩))∧W.cell? ⟨w.heap.size,0,none⟩=some (.int .i64 x.op)) (with_reducible (first | apply F0.out | apply Fd.out | apply F3.out | apply F4.out))
  ((go_at_call 63;(with_reducible refine(CS.out _ KW.out.drew.m).mono ?_);rintro e w5 ⟨rfl,m5,u5⟩;have YV:Hid (KB (w.heap.size+1) 0 0 w5):=KR.out.dr.upto u5 (fun e=>by have:=hp _ e;omega);have KW5:Hid (RW w x h K s2 B P M' w5):=KW.out.drew.mem m5 u5;have F3:=κ (r4 KW5.out rD.out);have F4:=κ (fun a b:Value=>r4 (KW5.out.mv (((ah.refl (fun i=>w.heap.size<i) w5).setCell (q:=⟨w.heap.size+1,0,none⟩) (.inl (Nat.lt_succ_self _)) a).setCell (q:=⟨w.heap.size+1,1,none⟩) (.inl (Nat.lt_succ_self _)) b)) rD.out);have x0:=YV.out.c0;have x1:=YV.out.c1;have y0:=YV.out.z 0;have y1:=YV.out.z 1;have ly:=YV.out.l;clear m5 u5))
 have kr:=YV.out.set kk xq
 have kw:=KW5.out.mv (((ah.refl (fun i=>w.heap.size<i) w5).setCell (q:=⟨w.heap.size+1,0,none⟩) (.inl (Nat.lt_succ_self _)) (.int .i64 kk)).setCell (q:=⟨w.heap.size+1,1,none⟩) (.inl (Nat.lt_succ_self _)) (.int .u32 xq))
 clear x0 x1 y0 y1 ly F0 Fd F3 F4 YV KW5 KR KW
 generalize((w5.setCell ⟨w.heap.size+1,0,none⟩ (.int .i64 kk)).setCell ⟨w.heap.size+1,1,none⟩ (.int .u32 xq))=w6 at kr kw⊢
 go_wp2_with fail
 have g0:=kr.c0
 have g1:=kr.c1
 exact bodyPost_ret (v:= .agg #[.int .i64 kk, .int .u32 xq]) (by simp [results,Try.results111,go_sem,g0,g1]) rfl ⟨rfl,kw.a,kw.m,kw.u⟩
end Go.Proofs.Ytcjcmnnhmajocab.Hr
