import Derived.Test.YtcjcmnnhmajocabPmai
import Derived.Test.YtcjcmnnhmajocabPmaq
import Derived.Test.YtcjcmnnhmajocabPmaz
set_option linter.unusedVariables false
set_option linter.unusedSimpArgs false
set_option maxRecDepth 100000
set_option maxHeartbeats 16000000
namespace Go.Proofs.Ytcjcmnnhmajocab.Hr
open Go.RowKit Kt Me Fl Ev
structure Hk where
 us:List Int
 ao:Option Addr
 cap:Nat
 p:Nat
 left:Int
 gJ:List (Int×Int)
 uM:Option Addr
 pF:Nat
structure Pm where
 at_:Int
 c:Nat→Int
 done:Int
 reg:Nat→Int
 fs:Nat→Int
 sp:Option Nat
 en:Int
 fC:Int
 stuck:Bool
structure MR (h:Nat) (K:Hk) (s:Pm) (W:World):Prop where
 w0:W.cell? ⟨h,0,none⟩=some (.slice K.ao K.us.length K.cap)
 at_:W.cell? ⟨h,1,none⟩=some (.int .i64 s.at_)
 c:∀j,j<12→W.cell? ⟨h,2+j,none⟩=some (.int .u32 (s.c j))
 m:W.cell? ⟨h,14,none⟩=some (.pointer (some ⟨K.p,0,none⟩))
 left:W.cell? ⟨h,15,none⟩=some (.int .i64 K.left)
 done:W.cell? ⟨h,16,none⟩=some (.int .i64 s.done)
 tb:W.cell? ⟨h,17,none⟩=some (.slice K.uM K.gJ.length K.pF)
 reg:∀j,j<16→W.cell? ⟨h,18+j,none⟩=some (.int .u32 (s.reg j))
 fs:∀j,j<16→W.cell? ⟨h,34+j,none⟩=some (.int .i64 (s.fs j))
 sp:W.cell? ⟨h,50,none⟩=some (.map s.sp)
 en:W.cell? ⟨h,51,none⟩=some (.int .i64 s.en)
 fC:W.cell? ⟨h,52,none⟩=some (.int .i64 s.fC)
 st:W.cell? ⟨h,53,none⟩=some (.bool s.stuck)
 z:∀j,W.frozen? ⟨h,j,none⟩=false
 l:h<W.heap.size
variable {h:Nat} {K:Hk} {s:Pm} {W W':World}
theorem MR.upto {S:Nat→Prop} (a:MR h K s W) (u:ah S W W') (hs:¬S h):MR h K s W':=by
 have e:∀j,W'.cell? ⟨h,j,none⟩=W.cell? ⟨h,j,none⟩:=fun j=>u.cell (q:=⟨h,j,none⟩) a.l hs
 exact⟨(e _).trans a.w0,(e _).trans a.at_,fun j hj=>(e _).trans (a.c j hj),(e _).trans a.m,(e _).trans a.left,(e _).trans a.done,(e _).trans a.tb,fun j hj=>(e _).trans (a.reg j hj),fun j hj=>(e _).trans (a.fs j hj),(e _).trans a.sp,(e _).trans a.en,(e _).trans a.fC,(e _).trans a.st,fun j=>(u.frozen (q:=⟨h,j,none⟩) a.l hs).trans (a.z j),Nat.lt_of_lt_of_le a.l u.size⟩
theorem MR.drew (a:MR h K s W):MR h K s W.drew:=a.upto (ah.refl (fun _=>False) W).drew id
theorem MR.put (a:MR h K s W) (i:Nat) (v:Value) (s':Pm)
  (e1:(if i=1 then some v else some (.int .i64 s.at_))=some (.int .i64 s'.at_)) (e2:∀j,j<12→(if i=2+j then some v else some (.int .u32 (s.c j)))=some (.int .u32 (s'.c j)))
  (e3:(if i=16 then some v else some (.int .i64 s.done))=some (.int .i64 s'.done)) (e4:∀j,j<16→(if i=18+j then some v else some (.int .u32 (s.reg j)))=some (.int .u32 (s'.reg j)))
  (e5:∀j,j<16→(if i=34+j then some v else some (.int .i64 (s.fs j)))=some (.int .i64 (s'.fs j))) (e6:(if i=50 then some v else some (.map s.sp))=some (.map s'.sp))
  (e7:(if i=51 then some v else some (.int .i64 s.en))=some (.int .i64 s'.en)) (e8:(if i=52 then some v else some (.int .i64 s.fC))=some (.int .i64 s'.fC)) (e9:(if i=53 then some v else some (.bool s.stuck))=some (.bool s'.stuck))
  (n:i≠0∧i≠14∧i≠15∧i≠17):MR h K s' (W.setCell ⟨h,i,none⟩ v):=by
 have g:∀j x,W.cell? ⟨h,j,none⟩=some x→(W.setCell ⟨h,i,none⟩ v).cell? ⟨h,j,none⟩=if i=j then some v else some x:=fun j x hx=>by
  by_cases e:i=j
  ·subst e;rw [if_pos rfl];exact World.cell?_setCell_same _ _ _ hx
  ·rw [if_neg e,off (fun e'=>e e'.symm),hx]
 refine⟨(g _ _ a.w0).trans (if_neg n.1),(g _ _ a.at_).trans e1,fun j hj=>(g _ _ (a.c j hj)).trans (e2 j hj),(g _ _ a.m).trans (if_neg n.2.1),(g _ _ a.left).trans (if_neg n.2.2.1),(g _ _ a.done).trans e3,(g _ _ a.tb).trans (if_neg n.2.2.2),fun j hj=>(g _ _ (a.reg j hj)).trans (e4 j hj),fun j hj=>(g _ _ (a.fs j hj)).trans (e5 j hj),(g _ _ a.sp).trans e6,(g _ _ a.en).trans e7,(g _ _ a.fC).trans e8,(g _ _ a.st).trans e9,fun j=>by simpa using a.z j,by simpa using a.l⟩
theorem MR.kM (a:MR h K s W) (b:Bool):MR h K {s with stuck:=b} (W.setCell ⟨h,53,none⟩ (.bool b)):=
 a.put 53 (.bool b) _ rfl (fun j hj=>if_neg (by omega)) rfl (fun j hj=>if_neg (by omega)) (fun j hj=>if_neg (by omega)) rfl rfl rfl rfl (by decide)
theorem MR.setAt (a:MR h K s W) (x:Int):MR h K {s with at_:=x} (W.setCell ⟨h,1,none⟩ (.int .i64 x)):=
 a.put 1 (.int .i64 x) _ rfl (fun j hj=>if_neg (by omega)) rfl (fun j hj=>if_neg (by omega)) (fun j hj=>if_neg (by omega)) rfl rfl rfl rfl (by decide)
theorem MR.kV (a:MR h K s W) (x:Int):MR h K {s with done:=x} (W.setCell ⟨h,16,none⟩ (.int .i64 x)):=
 a.put 16 (.int .i64 x) _ rfl (fun j hj=>if_neg (by omega)) rfl (fun j hj=>if_neg (by omega)) (fun j hj=>if_neg (by omega)) rfl rfl rfl rfl (by decide)
theorem MR.iD (a:MR h K s W) (x:Option Nat):MR h K {s with sp:=x} (W.setCell ⟨h,50,none⟩ (.map x)):=
 a.put 50 (.map x) _ rfl (fun j hj=>if_neg (by omega)) rfl (fun j hj=>if_neg (by omega)) (fun j hj=>if_neg (by omega)) rfl rfl rfl rfl (by decide)
theorem MR.yU (a:MR h K s W) (x:Int):MR h K {s with fC:=x} (W.setCell ⟨h,52,none⟩ (.int .i64 x)):=
 a.put 52 (.int .i64 x) _ rfl (fun j hj=>if_neg (by omega)) rfl (fun j hj=>if_neg (by omega)) (fun j hj=>if_neg (by omega)) rfl rfl rfl rfl (by decide)
theorem MR.EH (a:MR h K s W) (r:Nat) (x:Int) (hr:r<12):MR h K {s with c:=aO s.c r x} (W.setCell ⟨h,2+r,none⟩ (.int .u32 x)):=
 a.put (2+r) (.int .u32 x) _ (if_neg (by omega)) (fun j hj=>by
  show _=some (Value.int .u32 (aO s.c r x j));unfold aO
  by_cases e:j=r
  ·subst e;simp
  ·rw [if_neg e,if_neg (by omega)]) (if_neg (by omega)) (fun j hj=>if_neg (by omega)) (fun j hj=>if_neg (by omega)) (if_neg (by omega)) (if_neg (by omega)) (if_neg (by omega)) (if_neg (by omega)) (by omega)
theorem MR.OJ (a:MR h K s W) (r:Nat) (x:Int) (hr:r<16):MR h K {s with reg:=aO s.reg r x} (W.setCell ⟨h,18+r,none⟩ (.int .u32 x)):=
 a.put (18+r) (.int .u32 x) _ (if_neg (by omega)) (fun j hj=>if_neg (by omega)) (if_neg (by omega)) (fun j hj=>by
  show _=some (Value.int .u32 (aO s.reg r x j));unfold aO
  by_cases e:j=r
  ·subst e;simp
  ·rw [if_neg e,if_neg (by omega)]) (fun j hj=>if_neg (by omega)) (if_neg (by omega)) (if_neg (by omega)) (if_neg (by omega)) (if_neg (by omega)) (by omega)
structure LB (h:Nat) (k sk sx pc n at_:Int) (W:World):Prop where
 c0:W.cell? ⟨h,0,none⟩=some (.int .i64 k)
 c1:W.cell? ⟨h,1,none⟩=some (.int .i64 sk)
 c2:W.cell? ⟨h,2,none⟩=some (.int .u32 sx)
 c3:W.cell? ⟨h,3,none⟩=some (.int .u32 pc)
 c4:W.cell? ⟨h,4,none⟩=some (.int .i64 n)
 c5:W.cell? ⟨h,5,none⟩=some (.int .i64 at_)
 z:∀j,W.frozen? ⟨h,j,none⟩=false
 l:h<W.heap.size
theorem LB.upto {S:Nat→Prop} {k sk sx pc n at_:Int} (a:LB h k sk sx pc n at_ W) (u:ah S W W') (hs:¬S h):LB h k sk sx pc n at_ W':=by
 have e:∀j,W'.cell? ⟨h,j,none⟩=W.cell? ⟨h,j,none⟩:=fun j=>u.cell (q:=⟨h,j,none⟩) a.l hs
 exact⟨(e _).trans a.c0,(e _).trans a.c1,(e _).trans a.c2,(e _).trans a.c3,(e _).trans a.c4,(e _).trans a.c5,fun j=>(u.frozen (q:=⟨h,j,none⟩) a.l hs).trans (a.z j),Nat.lt_of_lt_of_le a.l u.size⟩
theorem LB.drew {k sk sx pc n at_:Int} (a:LB h k sk sx pc n at_ W):LB h k sk sx pc n at_ W.drew:=a.upto (ah.refl (fun _=>False) W).drew id
theorem LB.new (w:World) (k sk sx pc n at_:Int) (t:TypeId):LB w.heap.size k sk sx pc n at_ (w.alloc (.cells #[.int .i64 k, .int .i64 sk, .int .u32 sx, .int .u32 pc, .int .i64 n, .int .i64 at_] t)):=
 ⟨aW w _ _ 0,aW w _ _ 1,aW w _ _ 2,aW w _ _ 3,aW w _ _ 4,aW w _ _ 5,fun j=>mg w _ _ j,by simp⟩
def Pm.aA (s:Pm) (r:Nat):Pm:={s with stuck:=s.stuck || s.fs r !=s.en}
def Pm.sets (s:Pm) (r:Nat) (x:Int):Pm:={s with reg:=aO s.reg r x,fs:=aO s.fs r s.en}
open Ho
def vY (us:List Int):Prop:=∀j,0≤us.getD j 0∧us.getD j 0<4294967296
structure XB (h:Nat) (x:Cd) (W:World):Prop where
 c0:W.cell? ⟨h,0,none⟩=some (.int .i64 x.op)
 c1:W.cell? ⟨h,1,none⟩=some (.int .i64 x.d)
 c2:W.cell? ⟨h,2,none⟩=some (.int .i64 x.a)
 c3:W.cell? ⟨h,3,none⟩=some (.int .i64 x.b)
 c4:W.cell? ⟨h,4,none⟩=some (.int .i64 x.c)
 c5:W.cell? ⟨h,5,none⟩=some (.int .i64 x.n)
 c6:W.cell? ⟨h,6,none⟩=some (.int .u32 x.k)
 c7:W.cell? ⟨h,7,none⟩=some (.int .u32 x.x)
 z:∀j,W.frozen? ⟨h,j,none⟩=false
 l:h<W.heap.size
theorem XB.upto {S:Nat→Prop} {h:Nat} {x:Cd} {W W':World} (a:XB h x W) (u:ah S W W') (hs:¬S h):XB h x W':=by
 have e:∀j,W'.cell? ⟨h,j,none⟩=W.cell? ⟨h,j,none⟩:=fun j=>u.cell (q:=⟨h,j,none⟩) a.l hs
 exact⟨(e _).trans a.c0,(e _).trans a.c1,(e _).trans a.c2,(e _).trans a.c3,(e _).trans a.c4,(e _).trans a.c5,(e _).trans a.c6,(e _).trans a.c7,fun j=>(u.frozen (q:=⟨h,j,none⟩) a.l hs).trans (a.z j),Nat.lt_of_lt_of_le a.l u.size⟩
theorem XB.drew {h:Nat} {x:Cd} {W:World} (a:XB h x W):XB h x W.drew:=a.upto (ah.refl (fun _=>False) W).drew id
theorem XB.new (w:World) (x:Cd) (t:TypeId):XB w.heap.size x (w.alloc (.cells #[.int .i64 x.op, .int .i64 x.d, .int .i64 x.a, .int .i64 x.b, .int .i64 x.c, .int .i64 x.n, .int .u32 x.k, .int .u32 x.x] t)):=
 ⟨aW w _ _ 0,aW w _ _ 1,aW w _ _ 2,aW w _ _ 3,aW w _ _ 4,aW w _ _ 5,aW w _ _ 6,aW w _ _ 7,fun j=>mg w _ _ j,by simp⟩
theorem XB.JR {h:Nat} {x:Cd} {W:World} (a:XB h x W) (n:Int):XB h {x with n:=n} (W.setCell ⟨h,5,none⟩ (.int .i64 n)):=
 ⟨(off (by omega)).trans a.c0,(off (by omega)).trans a.c1,(off (by omega)).trans a.c2,(off (by omega)).trans a.c3,(off (by omega)).trans a.c4,World.cell?_setCell_same _ _ _ a.c5,(off (by omega)).trans a.c6,(off (by omega)).trans a.c7,fun j=>by simpa using a.z j,by simpa using a.l⟩
theorem XB.pX {h:Nat} {x:Cd} {W:World} (a:XB h x W) (n:Int):XB h {x with k:=n} (W.setCell ⟨h,6,none⟩ (.int .u32 n)):=
 ⟨(off (by omega)).trans a.c0,(off (by omega)).trans a.c1,(off (by omega)).trans a.c2,(off (by omega)).trans a.c3,(off (by omega)).trans a.c4,(off (by omega)).trans a.c5,World.cell?_setCell_same _ _ _ a.c6,(off (by omega)).trans a.c7,fun j=>by simpa using a.z j,by simpa using a.l⟩
theorem fA (w:World) (x:Cd):XB w.heap.size x ((w.alloc (.cells #[.int .i64 x.op, .int .i64 x.d, .int .i64 x.a, .int .i64 x.b, .int .i64 x.c, .int .i64 x.n, .int .u32 x.k, .int .u32 x.x] 108)).alloc (.cells #[.int .i64 0, .int .i64 0, .int .u32 0, .int .u32 0, .int .i64 0, .int .i64 0] 52))∧LB (w.heap.size+1) 0 0 0 0 0 0 ((w.alloc (.cells #[.int .i64 x.op, .int .i64 x.d, .int .i64 x.a, .int .i64 x.b, .int .i64 x.c, .int .i64 x.n, .int .u32 x.k, .int .u32 x.x] 108)).alloc (.cells #[.int .i64 0, .int .i64 0, .int .u32 0, .int .u32 0, .int .i64 0, .int .i64 0] 52))∧ah (fun _=>False) w ((w.alloc (.cells #[.int .i64 x.op, .int .i64 x.d, .int .i64 x.a, .int .i64 x.b, .int .i64 x.c, .int .i64 x.n, .int .u32 x.k, .int .u32 x.x] 108)).alloc (.cells #[.int .i64 0, .int .i64 0, .int .u32 0, .int .u32 0, .int .i64 0, .int .i64 0] 52)):=by
 have b:=LB.new (w.alloc (.cells #[.int .i64 x.op, .int .i64 x.d, .int .i64 x.a, .int .i64 x.b, .int .i64 x.c, .int .i64 x.n, .int .u32 x.k, .int .u32 x.x] 108)) 0 0 0 0 0 0 52
 rw [show(w.alloc (.cells #[.int .i64 x.op, .int .i64 x.d, .int .i64 x.a, .int .i64 x.b, .int .i64 x.c, .int .i64 x.n, .int .u32 x.k, .int .u32 x.x] 108)).heap.size=w.heap.size+1 by simp] at b
 exact⟨(XB.new w x _).upto ((ah.refl (fun _=>False) _).alloc _) id,b,((ah.refl (fun _=>False) w).alloc _).alloc _⟩
theorem LB.all {h:Nat} {k sk sx pc n at_:Int} {W:World} (a:LB h k sk sx pc n at_ W):W.cell? ⟨h,0,none⟩=some (.int .i64 k)∧W.cell? ⟨h,1,none⟩=some (.int .i64 sk)∧W.cell? ⟨h,2,none⟩=some (.int .u32 sx)∧W.cell? ⟨h,3,none⟩=some (.int .u32 pc)∧W.cell? ⟨h,4,none⟩=some (.int .i64 n)∧W.cell? ⟨h,5,none⟩=some (.int .i64 at_):=⟨a.c0,a.c1,a.c2,a.c3,a.c4,a.c5⟩
theorem LB.set {h:Nat} {k sk sx pc n at_:Int} {W:World} (a:LB h k sk sx pc n at_ W) (k' Gt Je JL n' YP:Int):
  LB h k' Gt Je JL n' YP ((((((W.setCell ⟨h,0,none⟩ (.int .i64 k')).setCell ⟨h,1,none⟩ (.int .i64 Gt)).setCell ⟨h,2,none⟩ (.int .u32 Je)).setCell ⟨h,3,none⟩ (.int .u32 JL)).setCell ⟨h,4,none⟩ (.int .i64 n')).setCell ⟨h,5,none⟩ (.int .i64 YP)):=by
 have h0:=World.cell?_setCell_same W ⟨h,0,none⟩ (.int .i64 k') a.c0
 have g:∀ {W:World} {i j:Nat} {v x:Value},W.cell? ⟨h,i,none⟩=some x→i≠j→(W.setCell ⟨h,j,none⟩ v).cell? ⟨h,i,none⟩=some x:=fun hx hn=>(off hn).trans hx
 have h1:=World.cell?_setCell_same _ ⟨h,1,none⟩ (.int .i64 Gt) (g (j:=0) (v:= .int .i64 k') a.c1 (by omega))
 have h2:=World.cell?_setCell_same _ ⟨h,2,none⟩ (.int .u32 Je) (g (j:=1) (v:= .int .i64 Gt) (g (j:=0) (v:= .int .i64 k') a.c2 (by omega)) (by omega))
 have h3:=World.cell?_setCell_same _ ⟨h,3,none⟩ (.int .u32 JL) (g (j:=2) (v:= .int .u32 Je) (g (j:=1) (v:= .int .i64 Gt) (g (j:=0) (v:= .int .i64 k') a.c3 (by omega)) (by omega)) (by omega))
 have h4:=World.cell?_setCell_same _ ⟨h,4,none⟩ (.int .i64 n') (g (j:=3) (v:= .int .u32 JL) (g (j:=2) (v:= .int .u32 Je) (g (j:=1) (v:= .int .i64 Gt) (g (j:=0) (v:= .int .i64 k') a.c4 (by omega)) (by omega)) (by omega)) (by omega))
 have h5:=World.cell?_setCell_same _ ⟨h,5,none⟩ (.int .i64 YP) (g (j:=4) (v:= .int .i64 n') (g (j:=3) (v:= .int .u32 JL) (g (j:=2) (v:= .int .u32 Je) (g (j:=1) (v:= .int .i64 Gt) (g (j:=0) (v:= .int .i64 k') a.c5 (by omega)) (by omega)) (by omega)) (by omega)) (by omega))
 exact⟨g (g (g (g (g h0 (by omega)) (by omega)) (by omega)) (by omega)) (by omega),g (g (g (g h1 (by omega)) (by omega)) (by omega)) (by omega),g (g (g h2 (by omega)) (by omega)) (by omega),g (g h3 (by omega)) (by omega),g h4 (by omega),h5,fun j=>by simpa using a.z j,by simpa using a.l⟩
theorem Gv {S:Nat→Prop} {w W:World} {h:Nat} (b:ah S w W) (hh:S h∨w.heap.size≤h) (k sk sx pc n at_:Int):ah S w ((((((W.setCell ⟨h,0,none⟩ (.int .i64 k)).setCell ⟨h,1,none⟩ (.int .i64 sk)).setCell ⟨h,2,none⟩ (.int .u32 sx)).setCell ⟨h,3,none⟩ (.int .u32 pc)).setCell ⟨h,4,none⟩ (.int .i64 n)).setCell ⟨h,5,none⟩ (.int .i64 at_)):=
 (((((b.setCell (q:=⟨h,0,none⟩) hh (.int .i64 k)).setCell (q:=⟨h,1,none⟩) hh (.int .i64 sk)).setCell (q:=⟨h,2,none⟩) hh (.int .u32 sx)).setCell (q:=⟨h,3,none⟩) hh (.int .u32 pc)).setCell (q:=⟨h,4,none⟩) hh (.int .i64 n)).setCell (q:=⟨h,5,none⟩) hh (.int .i64 at_)
variable {h:Nat} {K:Hk} {s:Pm}
def Pm.goes (us:List Int) (s:Pm) (x:Cd):Pm:={s with stuck:=s.stuck || !zk us x.k,done:=wrap64 (s.done+x.n),at_:=x.k}
def p6 (h:Nat) (W:World) (k sk sx pc n at_:Int):World:=((((((W.setCell ⟨h,0,none⟩ (.int .i64 k)).setCell ⟨h,1,none⟩ (.int .i64 sk)).setCell ⟨h,2,none⟩ (.int .u32 sx)).setCell ⟨h,3,none⟩ (.int .u32 pc)).setCell ⟨h,4,none⟩ (.int .i64 n)).setCell ⟨h,5,none⟩ (.int .i64 at_))
theorem dX (h:Nat) (W:World) (k sk sx pc n at_:Int):((((((W.setCell ⟨h,0,none⟩ (.int .i64 k)).setCell ⟨h,1,none⟩ (.int .i64 sk)).setCell ⟨h,2,none⟩ (.int .u32 sx)).setCell ⟨h,3,none⟩ (.int .u32 pc)).setCell ⟨h,4,none⟩ (.int .i64 n)).setCell ⟨h,5,none⟩ (.int .i64 at_))=p6 h W k sk sx pc n at_:=rfl
theorem LB.put {h:Nat} {k sk sx pc n at_:Int} {W:World} (a:LB h k sk sx pc n at_ W) (k' Gt Je JL n' YP:Int):LB h k' Gt Je JL n' YP (p6 h W k' Gt Je JL n' YP):=a.set k' Gt Je JL n' YP
theorem up6 {S:Nat→Prop} {w W:World} {h:Nat} (b:ah S w W) (hh:S h∨w.heap.size≤h) (k sk sx pc n at_:Int):ah S w (p6 h W k sk sx pc n at_):=Gv b hh k sk sx pc n at_
theorem EI (h:Nat) (W:World) (k sk sx pc n at_:Int):ah (fun i=>i=h) W (p6 h W k sk sx pc n at_):=Gv (S:=fun i=>i=h) (h:=h) (ah.refl _ W) (.inl rfl) k sk sx pc n at_
theorem XB.all {h:Nat} {x:Cd} {W:World} (a:XB h x W):W.cell? ⟨h,0,none⟩=some (.int .i64 x.op)∧W.cell? ⟨h,1,none⟩=some (.int .i64 x.d)∧W.cell? ⟨h,2,none⟩=some (.int .i64 x.a)∧W.cell? ⟨h,3,none⟩=some (.int .i64 x.b)∧W.cell? ⟨h,4,none⟩=some (.int .i64 x.c)∧W.cell? ⟨h,5,none⟩=some (.int .i64 x.n)∧W.cell? ⟨h,6,none⟩=some (.int .u32 x.k)∧W.cell? ⟨h,7,none⟩=some (.int .u32 x.x):=⟨a.c0,a.c1,a.c2,a.c3,a.c4,a.c5,a.c6,a.c7⟩
def ZQ (h:Nat) (W:World) (c:Nat→Int):World:=((((((((((((W.setCell ⟨h,0,none⟩ (.int .u32 (c 0))).setCell ⟨h,1,none⟩ (.int .u32 (c 1))).setCell ⟨h,2,none⟩ (.int .u32 (c 2))).setCell ⟨h,3,none⟩ (.int .u32 (c 3))).setCell ⟨h,4,none⟩ (.int .u32 (c 4))).setCell ⟨h,5,none⟩ (.int .u32 (c 5))).setCell ⟨h,6,none⟩ (.int .u32 (c 6))).setCell ⟨h,7,none⟩ (.int .u32 (c 7))).setCell ⟨h,8,none⟩ (.int .u32 (c 8))).setCell ⟨h,9,none⟩ (.int .u32 (c 9))).setCell ⟨h,10,none⟩ (.int .u32 (c 10))).setCell ⟨h,11,none⟩ (.int .u32 (c 11)))
theorem vZ (h:Nat) (W:World) (c:Nat→Int):((((((((((((W.setCell ⟨h,0,none⟩ (.int .u32 (c 0))).setCell ⟨h,1,none⟩ (.int .u32 (c 1))).setCell ⟨h,2,none⟩ (.int .u32 (c 2))).setCell ⟨h,3,none⟩ (.int .u32 (c 3))).setCell ⟨h,4,none⟩ (.int .u32 (c 4))).setCell ⟨h,5,none⟩ (.int .u32 (c 5))).setCell ⟨h,6,none⟩ (.int .u32 (c 6))).setCell ⟨h,7,none⟩ (.int .u32 (c 7))).setCell ⟨h,8,none⟩ (.int .u32 (c 8))).setCell ⟨h,9,none⟩ (.int .u32 (c 9))).setCell ⟨h,10,none⟩ (.int .u32 (c 10))).setCell ⟨h,11,none⟩ (.int .u32 (c 11)))=ZQ h W c:=rfl
variable {h:Nat} {K:Hk} {s:Pm}
structure Lf where
 k:Int
 sk:Int
 sx:Int
 pc:Int
 n:Int
def Tb (gJ:List (Int×Int)) (ao:Option Addr) (cap:Nat) (W:World):Prop:=
 gJ.length≤cap∧cap≤maxLen∧(0<gJ.length→∃b off,ao=some ⟨b,off,none⟩∧b<W.heap.size∧∀j t,gJ[j]?=some t→W.cell? ⟨b,off+j*2,none⟩=some (.int .u32 t.1)∧W.cell? ⟨b,off+j*2+1,none⟩=some (.int .i64 t.2))
theorem Tb.upto {gJ:List (Int×Int)} {ao:Option Addr} {cap:Nat} {S:Nat→Prop} {W W':World} (a:Tb gJ ao cap W) (u:ah S W W') (hs:∀g,ao=some g→0<gJ.length→¬S g.block):Tb gJ ao cap W':=by
 obtain⟨h1,h2,h3⟩:=a
 refine⟨h1,h2,fun h0=> ?_⟩
 obtain⟨b,off,e,hb,hc⟩:=h3 h0
 refine⟨b,off,e,Nat.lt_of_lt_of_le hb u.size,fun j t ht=>⟨?_, ?_⟩⟩
 ·exact(u.cell (q:=⟨b,off+j*2,none⟩) hb (show¬S b from hs _ e h0)).trans (hc j t ht).1
 ·exact(u.cell (q:=⟨b,off+j*2+1,none⟩) hb (show¬S b from hs _ e h0)).trans (hc j t ht).2
theorem Sl.upto {us:List Int} {ao:Option Addr} {cap:Nat} {S:Nat→Prop} {W W':World} (a:Sl us ao cap W) (u:ah S W W') (hs:∀g,ao=some g→0<us.length→¬S g.block):Sl us ao cap W':=by
 obtain⟨h1,h2,h3⟩:=a
 refine⟨h1,h2,fun h0=> ?_⟩
 obtain⟨b,off,e,hb,hc⟩:=h3 h0
 exact⟨b,off,e,Nat.lt_of_lt_of_le hb u.size,fun j hj=>(u.cell (q:=⟨b,off+j,none⟩) hb (show¬S b from hs _ e h0)).trans (hc j hj)⟩
structure XO (h:Nat) (k ow oa ob oc kn on:Int) (W:World):Prop where
 c0:W.cell? ⟨h,0,none⟩=some (.int .i64 k)
 c1:W.cell? ⟨h,1,none⟩=some (.int .i64 ow)
 c2:W.cell? ⟨h,2,none⟩=some (.int .i64 oa)
 c3:W.cell? ⟨h,3,none⟩=some (.int .i64 ob)
 c4:W.cell? ⟨h,4,none⟩=some (.int .i64 oc)
 c5:W.cell? ⟨h,5,none⟩=some (.int .u32 kn)
 c6:W.cell? ⟨h,6,none⟩=some (.int .i64 on)
 z:∀j,W.frozen? ⟨h,j,none⟩=false
 l:h<W.heap.size
theorem XO.upto {S:Nat→Prop} {h:Nat} {k ow oa ob oc kn on:Int} {W W':World} (a:XO h k ow oa ob oc kn on W) (u:ah S W W') (hs:¬S h):XO h k ow oa ob oc kn on W':=by
 have e:∀j,W'.cell? ⟨h,j,none⟩=W.cell? ⟨h,j,none⟩:=fun j=>u.cell (q:=⟨h,j,none⟩) a.l hs
 exact⟨(e _).trans a.c0,(e _).trans a.c1,(e _).trans a.c2,(e _).trans a.c3,(e _).trans a.c4,(e _).trans a.c5,(e _).trans a.c6,fun j=>(u.frozen (q:=⟨h,j,none⟩) a.l hs).trans (a.z j),Nat.lt_of_lt_of_le a.l u.size⟩
theorem XO.all {h:Nat} {k ow oa ob oc kn on:Int} {W:World} (a:XO h k ow oa ob oc kn on W):W.cell? ⟨h,0,none⟩=some (.int .i64 k)∧W.cell? ⟨h,1,none⟩=some (.int .i64 ow)∧W.cell? ⟨h,2,none⟩=some (.int .i64 oa)∧W.cell? ⟨h,3,none⟩=some (.int .i64 ob)∧W.cell? ⟨h,4,none⟩=some (.int .i64 oc)∧W.cell? ⟨h,5,none⟩=some (.int .u32 kn)∧W.cell? ⟨h,6,none⟩=some (.int .i64 on):=⟨a.c0,a.c1,a.c2,a.c3,a.c4,a.c5,a.c6⟩
theorem XO.drew {h:Nat} {k ow oa ob oc kn on:Int} {W:World} (a:XO h k ow oa ob oc kn on W):XO h k ow oa ob oc kn on W.drew:=a.upto (ah.refl (fun _=>False) W).drew id
theorem XO.new (w:World) (k ow oa ob oc kn on:Int) (t:TypeId):XO w.heap.size k ow oa ob oc kn on (w.alloc (.cells #[.int .i64 k, .int .i64 ow, .int .i64 oa, .int .i64 ob, .int .i64 oc, .int .u32 kn, .int .i64 on] t)):=
 ⟨aW w _ _ 0,aW w _ _ 1,aW w _ _ 2,aW w _ _ 3,aW w _ _ 4,aW w _ _ 5,aW w _ _ 6,fun j=>mg w _ _ j,by simp⟩
theorem XO.put {h:Nat} {k ow oa ob oc kn on:Int} {W:World} (a:XO h k ow oa ob oc kn on W) (k' yO P8 Uo VX YQ ZR:Int):
  XO h k' yO P8 Uo VX YQ ZR (((((((W.setCell ⟨h,0,none⟩ (.int .i64 k')).setCell ⟨h,1,none⟩ (.int .i64 yO)).setCell ⟨h,2,none⟩ (.int .i64 P8)).setCell ⟨h,3,none⟩ (.int .i64 Uo)).setCell ⟨h,4,none⟩ (.int .i64 VX)).setCell ⟨h,5,none⟩ (.int .u32 YQ)).setCell ⟨h,6,none⟩ (.int .i64 ZR)):=by
 have g:∀ {W:World} {i j:Nat} {v x:Value},W.cell? ⟨h,i,none⟩=some x→i≠j→(W.setCell ⟨h,j,none⟩ v).cell? ⟨h,i,none⟩=some x:=fun hx hn=>(off hn).trans hx
 have h0:=World.cell?_setCell_same W ⟨h,0,none⟩ (.int .i64 k') a.c0
 have h1:=World.cell?_setCell_same _ ⟨h,1,none⟩ (.int .i64 yO) (g (j:=0) (v:= .int .i64 k') a.c1 (by omega))
 have h2:=World.cell?_setCell_same _ ⟨h,2,none⟩ (.int .i64 P8) (g (j:=1) (v:= .int .i64 yO) (g (j:=0) (v:= .int .i64 k') a.c2 (by omega)) (by omega))
 have h3:=World.cell?_setCell_same _ ⟨h,3,none⟩ (.int .i64 Uo) (g (j:=2) (v:= .int .i64 P8) (g (j:=1) (v:= .int .i64 yO) (g (j:=0) (v:= .int .i64 k') a.c3 (by omega)) (by omega)) (by omega))
 have h4:=World.cell?_setCell_same _ ⟨h,4,none⟩ (.int .i64 VX) (g (j:=3) (v:= .int .i64 Uo) (g (j:=2) (v:= .int .i64 P8) (g (j:=1) (v:= .int .i64 yO) (g (j:=0) (v:= .int .i64 k') a.c4 (by omega)) (by omega)) (by omega)) (by omega))
 have h5:=World.cell?_setCell_same _ ⟨h,5,none⟩ (.int .u32 YQ) (g (j:=4) (v:= .int .i64 VX) (g (j:=3) (v:= .int .i64 Uo) (g (j:=2) (v:= .int .i64 P8) (g (j:=1) (v:= .int .i64 yO) (g (j:=0) (v:= .int .i64 k') a.c5 (by omega)) (by omega)) (by omega)) (by omega)) (by omega))
 have h6:=World.cell?_setCell_same _ ⟨h,6,none⟩ (.int .i64 ZR) (g (j:=5) (v:= .int .u32 YQ) (g (j:=4) (v:= .int .i64 VX) (g (j:=3) (v:= .int .i64 Uo) (g (j:=2) (v:= .int .i64 P8) (g (j:=1) (v:= .int .i64 yO) (g (j:=0) (v:= .int .i64 k') a.c6 (by omega)) (by omega)) (by omega)) (by omega)) (by omega)) (by omega))
 exact⟨g (g (g (g (g (g h0 (by omega)) (by omega)) (by omega)) (by omega)) (by omega)) (by omega),g (g (g (g (g h1 (by omega)) (by omega)) (by omega)) (by omega)) (by omega),g (g (g (g h2 (by omega)) (by omega)) (by omega)) (by omega),g (g (g h3 (by omega)) (by omega)) (by omega),g (g h4 (by omega)) (by omega),g h5 (by omega),h6,fun j=>by simpa using a.z j,by simpa using a.l⟩
theorem uV {S:Nat→Prop} {w W:World} {h:Nat} (b:ah S w W) (hh:S h∨w.heap.size≤h) (k' yO P8 Uo VX YQ ZR:Int):ah S w (((((((W.setCell ⟨h,0,none⟩ (.int .i64 k')).setCell ⟨h,1,none⟩ (.int .i64 yO)).setCell ⟨h,2,none⟩ (.int .i64 P8)).setCell ⟨h,3,none⟩ (.int .i64 Uo)).setCell ⟨h,4,none⟩ (.int .i64 VX)).setCell ⟨h,5,none⟩ (.int .u32 YQ)).setCell ⟨h,6,none⟩ (.int .i64 ZR)):=
 ((((((b.setCell (q:=⟨h,0,none⟩) hh (.int .i64 k')).setCell (q:=⟨h,1,none⟩) hh (.int .i64 yO)).setCell (q:=⟨h,2,none⟩) hh (.int .i64 P8)).setCell (q:=⟨h,3,none⟩) hh (.int .i64 Uo)).setCell (q:=⟨h,4,none⟩) hh (.int .i64 VX)).setCell (q:=⟨h,5,none⟩) hh (.int .u32 YQ)).setCell (q:=⟨h,6,none⟩) hh (.int .i64 ZR)
variable {h:Nat} {K:Hk} {s:Pm}
open Go.Maps
def Gw (b:Nat) (f:Nat→Option Int) (n:Nat) (W:World):Prop:=
 ∃D:DataW Unit,W.ownsMap Try.prog 3 (plainElem Try.prog 22) b n D∧∀j:Nat,j<2048→Maps.has D (.int .i64 j)=(f j).isSome∧D.atKey (.int .i64 j) (.lit (.int .u32 0))= .lit (.int .u32 ((f j).getD 0))
theorem Ur:Keyed Try.prog 3:=int_keyed Try.underlying3
theorem YR (j:Nat) (h:j<2048):(Lit.int .i64 (j:Int)).wf=true:=WalkArith.wf_i64 (by omega)
theorem Gw.new {b:Nat} {W:World} (h:W.ownsMap (H:=Unit) Try.prog 3 (plainElem Try.prog 22) b 0 (.map [])):Gw b (fun _=>none) 0 W:=
 ⟨_,h,fun j hj=>⟨rfl,rfl⟩⟩
theorem Gw.upto {S:Nat→Prop} {b n:Nat} {f:Nat→Option Int} {W W':World} (a:Gw b f n W) (u:ah S W W') (hs:¬S b):Gw b f n W':=by
 obtain⟨D,⟨es,clock,hb,r⟩,hf⟩:=a
 have bV:b<W.heap.size:=(Array.getElem?_eq_some_iff.1 hb).1
 exact⟨D,⟨es,clock,(u.block b bV hs).trans hb,r⟩,hf⟩
theorem Gw.lt {b n:Nat} {f:Nat→Option Int} {W:World} (a:Gw b f n W):b<W.heap.size:=by
 obtain⟨D,h,_⟩:=a
 exact h.lt
theorem Gw.mono {b n n':Nat} {f:Nat→Option Int} {W:World} (a:Gw b f n W) (h:n≤n'):Gw b f n' W:=by
 obtain⟨D,o,hf⟩:=a
 exact⟨D,o.mono h,hf⟩
def abS (f:Nat→Option Int) (k:Nat) (z:Option Int):Nat→Option Int:=fun j=>if j=k then z else f j
theorem Gw.put {b n:Nat} {f:Nat→Option Int} {W:World} (a:Gw b f n W) (j:Nat) (hj:j<2048) (x:Int) (hx:0≤x∧x<4294967296) (hn:n<maxLen):
  ∃W',(Instr.mapUpdate 167 (.map (some b)) (.int .i64 j) (.int .u32 x)).run Try.prog W= .ok () W'∧Gw b (abS f j (some x)) (n+1) W'∧ah (fun i=>i=b) W W':=by
 obtain⟨D,o,hf⟩:=a
 have hw:(Lit.int .u32 x).wf=true:=WalkArith.wf_u32 (by omega)
 obtain⟨W',qB,o',g⟩:=o.update Ur Try.underlying167 hn (keyOf_int_mk Try.underlying3 (YR j hj)) (plainElem_int (H:=Unit) Try.underlying22 hw)
 refine⟨W',qB,⟨_,o',fun i hi=> ?_⟩,⟨g.os,g.tape,g.output,g.size,fun k hk dU=>g.block k hk (by simpa using dU)⟩⟩
 unfold abS
 by_cases e:i=j
 ·subst e
  rw [if_pos rfl]
  exact⟨Maps.has_put_same (k:= .int .i64 (i:Int)) o.isMap trivial _,Maps.atKey_put_same (k:= .int .i64 (i:Int)) o.isMap trivial _ _⟩
 ·rw [if_neg e]
  have dU:(Lit.int .i64 (i:Int))≠Lit.int .i64 (j:Int):=fun h=>e (by simp only [Lit.int.injEq,true_and] at h;omega)
  exact⟨(Maps.has_put_other dU _).trans (hf i hi).1,(Maps.atKey_put_other dU _ _).trans (hf i hi).2⟩
variable {h:Nat} {K:Hk} {s:Pm}
theorem m6 {hx rd rn:Nat} {x:Cd} {W:World} {h:Nat} {K:Hk} {s:Pm} (X:XB hx x W) (A:MR h K s W) (hd:x.d=rd) (hn:x.n=rn) (ln:rn<12):W.cell? ⟨hx,1,none⟩=some (.int .i64 (rd:Int))∧W.cell? ⟨hx,5,none⟩=some (.int .i64 (rn:Int))∧W.cell? ⟨h,2+rn,none⟩=some (.int .u32 (s.c rn)):=
 ⟨hd▸X.c1,hn▸X.c5,A.c rn ln⟩
variable {h:Nat} {K:Hk} {s:Pm}
def CQ (c:Bool) (l:Lf):Option Lf:=if c then some l else none
variable {h:Nat} {K:Hk} {s:Pm}
def ifM (c:Bool) (a b:MM):MM:=if c then a else b
theorem m2 {hx ra rd:Nat} {x:Cd} {W:World} (X:XB hx x W) (ha:x.a=ra) (hd:x.d=rd):W.cell? ⟨hx,2,none⟩=some (.int .i64 (ra:Int))∧W.cell? ⟨hx,1,none⟩=some (.int .i64 (rd:Int)):=⟨ha▸X.c2,hd▸X.c1⟩
theorem KB.drew {h:Nat} {k x:Int} {W:World} (a:KB h k x W):KB h k x W.drew:=a.upto (ah.refl (fun _=>False) W).drew id
structure Hst where
 s:Pm
 M:MM
 f:Nat→Option Int
def SpQ (base h:Nat) (sp:Option Nat) (f:Nat→Option Int) (n:Nat) (W:World):Prop:=∀b,sp=some b→Gw b f n W∧base≤b∧b≠h
variable {base h n:Nat} {K:Hk} {t:Hst} {x:Cd} {w w':World}
theorem SpQ.upto {S:Nat→Prop} {sp:Option Nat} {f:Nat→Option Int} (a:SpQ base h sp f n w) (u:ah S w w') (hs:∀b,sp=some b→¬S b):SpQ base h sp f (n+1) w':=
 fun b hb=>⟨((a b hb).1.upto u (hs b hb)).mono (Nat.le_succ _),(a b hb).2⟩
structure VY where
 c:Nat→Int
 M:MM
 l:Lf
 at_:Int
structure Rm where
 at_:Int
 c:Nat→Int
 done:Int
 reg:Nat→Int
 has:Nat→Bool
 lQ:Nat→Int
 held:Nat→Bool
 fC:Int
 stuck:Bool
def Rm.aA (s:Rm) (r:Nat):Rm:={s with stuck:=s.stuck || !s.has r}
def Rm.sets (s:Rm) (r:Nat) (x:Int):Rm:={s with reg:=aO s.reg r x,has:=aO s.has r true}
def Rm.dN (s:Rm):Rm:={s with reg:=fun _=>0,has:=fun _=>false,lQ:=fun _=>0,held:=fun _=>false}
def Rm.goes (us:List Int) (s:Rm) (x:Cd):Rm:={s with stuck:=s.stuck || !zk us x.k,done:=wrap64 (s.done+x.n),at_:=x.k}
structure jw where
 s:Rm
 M:MM
def jI (K:Hk) (M:MM) (s:Rm) (x:Cd):Option Lf:=
 if nM M.hi then some ⟨1,0,0,x.k,s.done⟩ else if wrap64 (K.left-s.done) <x.n then some ⟨4,0,0,x.k,s.done⟩ else if 1048576≤s.fC then some ⟨6,0,0,x.k,s.done⟩ else none
def zB (K:Hk) (s:Rm) (r:Nat):Option Int:=
 if K.gJ.length=0 then none else match K.gJ[(s.reg r%K.gJ.length).toNat]? with
  | none=>none
  | some t=>if t.1=s.reg r∧0≤t.2∧zk K.us t.2=true then some t.2 else none
def wU (K:Hk) (s:Rm) (r:Nat) (n:Int):Option Lf:=match zB K s r with
 | some _=>none
 | none=>some ⟨2,0,0,s.reg r,wrap64 (s.done+n)⟩
def wu (K:Hk) (s:Rm) (r:Nat) (n:Int):Rm:=match zB K s r with
 | some t=>{s.aA r with done:=wrap64 (s.done+n),at_:=t}
 | none=>s.aA r
def Jf (c:Bool) (a b:Rm):Rm:=if c then a else b
def oP (K:Hk) (x:Cd) (t:jw) (ra rb rc rd rn:Nat):Option Lf×jw:=
 if x.op=1 then(jI K t.M t.s x,if jI K t.M t.s x=none then{t with s:=t.s.dN} else t) else
 if x.op=10 then(CQ (nM t.M.hi) ⟨1,0,0,x.k,wrap64 (t.s.done+x.n)⟩,t) else
 if x.op=11 then(CQ (t.s.reg ra !=0) ⟨1,0,0,x.k,wrap64 (t.s.done+x.n)⟩,{t with s:=t.s.aA ra}) else
 if x.op=96 then(none,{t with s:=Jf (t.s.reg ra !=0) ((t.s.aA ra).goes K.us x) (t.s.aA ra)}) else
 if x.op=14 then(some ⟨1,0,0,x.k,wrap64 (t.s.done+x.n)⟩,t) else
 if x.op=15 then(none,{t with s:=t.s.goes K.us x}) else
 if x.op=12 then(some ⟨3,x.d,x.x,x.k,wrap64 (t.s.done+x.n)⟩,t) else
 if x.op=13 then(CQ (t.s.reg ra !=0) ⟨3,x.d,x.x,x.k,wrap64 (t.s.done+x.n)⟩,{t with s:=t.s.aA ra}) else
 if x.op=4 then(wU K t.s ra x.n,{t with s:=wu K t.s ra x.n}) else
 if x.op=2 then(none,{t with s:=t.s.sets rd x.k}) else
 if x.op=3 then(none,{t with s:=(t.s.aA ra).sets rd (t.s.reg ra)}) else
 if x.op=6 then(none,{t with s:=t.s.sets rd (t.s.c rn)}) else
 if x.op=7 then(none,{t with s:=if(t.s.aA ra).stuck then t.s.aA ra else{t.s.aA ra with c:=aO t.s.c rn (t.s.reg ra)}}) else
 if x.op=8 then(none,{t with s:=({t.s with stuck:=t.s.stuck || !t.s.held rn}:Rm).sets rd (t.s.lQ rn)}) else
 if x.op=9 then(none,{t with s:={t.s.aA ra with lQ:=aO t.s.lQ rn (t.s.reg ra),held:=aO t.s.held rn true}}) else
 if x.op=97 then(none,{t with s:=t.s.sets rd (fl (t.s.c 8) (t.s.c 9) (t.s.c 10) (t.s.c 11))}) else
 if x.op=5 then(none,{t with s:=(((t.s.aA ra).aA rb).aA rc).sets rd (fD 6 0 0 (t.s.reg ra) (t.s.reg rb) (t.s.reg rc))}) else
 if x.op<32 then(none,{t with s:=((t.s.aA ra).aA rb).sets rd (fD 4 (x.op-16) 0 (t.s.reg ra) (t.s.reg rb) 0)}) else
 if x.op<39 then(none,{t with s:=(t.s.aA ra).sets rd (fD 5 (x.op-32) 0 (t.s.reg ra) 0 0)}) else
 if x.op<61 then(none,{t with s:=(((t.s.aA ra).aA rb).aA rc).sets rd (fD 7 (x.op-48) 0 (t.s.reg ra) (t.s.reg rb) (t.s.reg rc))}) else
 if x.op<80 then(none,{t with s:=(t.s.aA ra).sets rd (fD 8 (x.op-64) 0 (t.s.reg ra) 0 0)}) else
 if x.op<85 then(CQ (St.qG 5 (cO t.M 1 (t.s.reg ra) (ni (x.op-80)).toNat) !=0) ⟨3,St.qG 5 (cO t.M 1 (t.s.reg ra) (ni (x.op-80)).toNat),St.wP (cO t.M 1 (t.s.reg ra) (ni (x.op-80)).toNat),x.k,wrap64 (t.s.done+x.n)⟩,{t with s:=Jf (St.qG 5 (cO t.M 1 (t.s.reg ra) (ni (x.op-80)).toNat) !=0) (t.s.aA ra) ((t.s.aA ra).sets rd (wid (x.op-80) (nC t.M (t.s.reg ra) (ni (x.op-80)))))}) else
 (CQ (!((t.s.aA ra).aA rd).stuck&&St.qG 6 (nJ t.M (t.s.reg ra) (oD (x.op-88))) !=0) ⟨3,St.qG 6 (nJ t.M (t.s.reg ra) (oD (x.op-88))),St.wP (nJ t.M (t.s.reg ra) (oD (x.op-88))),x.k,wrap64 (t.s.done+x.n)⟩,{t with s:=(t.s.aA ra).aA rd,M:=ifM ((t.s.aA ra).aA rd).stuck t.M (rU t.M (t.s.reg ra) (oD (x.op-88)) (t.s.reg rd))})
def iE (K:Hk) (x:Cd) (t:jw):Option Lf×jw:=oP K x t x.a.toNat x.b.toNat x.c.toNat x.d.toNat x.n.toNat
def pJ (K:Hk) (t:jw):VY ⊕ jw:=
 if(jE K.us t.s.at_).2.2=0 then
  (if(iE K (jE K.us t.s.at_).1 {t with s:={t.s with at_:=t.s.at_+(jE K.us t.s.at_).2.1}}).2.s.stuck=true then .inl ⟨(iE K (jE K.us t.s.at_).1 {t with s:={t.s with at_:=t.s.at_+(jE K.us t.s.at_).2.1}}).2.s.c,(iE K (jE K.us t.s.at_).1 {t with s:={t.s with at_:=t.s.at_+(jE K.us t.s.at_).2.1}}).2.M,⟨5,0,0,0,0⟩,t.s.at_⟩
  else match(iE K (jE K.us t.s.at_).1 {t with s:={t.s with at_:=t.s.at_+(jE K.us t.s.at_).2.1}}) with
   | (some l,d)=> .inl ⟨d.s.c,d.M,l,t.s.at_⟩
   | (none,d)=> .inr {d with s:={d.s with fC:=d.s.fC+1}})
 else .inl ⟨t.s.c,t.M,⟨5,0,0,0,0⟩,t.s.at_⟩
def ru (K:Hk):Nat→jw→Option VY
 | 0,t=>match pJ K t with
  | .inl r=>some r
  | .inr _=>none
 | n+1,t=>match pJ K t with
  | .inl r=>some r
  | .inr t'=>ru K n t'
theorem oq {K:Hk} {t:jw} {r:VY} (g:Nat) (h:pJ K t= .inl r):ru K g t=some r:=by
 cases g<;>(unfold ru;rw [h])
theorem OL {K:Hk} {t t':jw} {r:VY} {g:Nat} (h:pJ K t= .inr t') (e:ru K g t=some r):∃g',g=g'+1∧ru K g' t'=some r:=by
 cases g with
 | zero=>unfold ru at e;rw [h] at e;exact nomatch e
 | succ g=>unfold ru at e;rw [h] at e;exact⟨g,rfl,e⟩
theorem lS {K:Hk} {t d:jw} {x:Cd} {m:Int} {l:Option Lf} (hr:jE K.us t.s.at_=(x,m,0)) (hd:iE K x {t with s:={t.s with at_:=t.s.at_+m}}=(l,d)):
  (d.s.stuck=true→pJ K t= .inl ⟨d.s.c,d.M,⟨5,0,0,0,0⟩,t.s.at_⟩)∧(d.s.stuck=false→∀l',l=some l'→pJ K t= .inl ⟨d.s.c,d.M,l',t.s.at_⟩)∧(d.s.stuck=false→l=none→pJ K t= .inr {d with s:={d.s with fC:=d.s.fC+1}}):=by
 unfold pJ
 rw [hr]
 dsimp only
 rw [if_pos rfl]
 generalize iE K x {t with s:={t.s with at_:=t.s.at_+m}}=r at hd⊢
 subst hd
 refine⟨fun h=>by rw [if_pos h],fun h l' e=> ?_,fun h e=> ?_⟩
 ·subst e;rw [if_neg (by rw [h];simp)]
 ·subst e;rw [if_neg (by rw [h];simp)]
structure R0 (s:Pm) (M:MM) (u:jw):Prop where
 at_:s.at_=u.s.at_
 c:s.c=u.s.c
 done:s.done=u.s.done
 fC:s.fC=u.s.fC
 stk:s.stuck=u.s.stuck
 M:M=u.M
 fs:∀r,s.fs r≤s.en
 en:0≤s.en∧s.en≤s.fC
 dn: -9223372036854775808≤s.done∧s.done≤9223372036854775807
structure R1 (s:Pm) (f:Nat→Option Int) (u:Rm):Prop where
 has:∀r,(s.fs r !=s.en)= !u.has r
 reg:∀r,u.has r=true→s.reg r=u.reg r
 sp:∀j,f j=if u.held j then some (u.lQ j) else none
section
variable {s:Pm} {M:MM} {u:jw} {f:Nat→Option Int}
theorem R0.aA (a:R0 s M u) (b:R1 s f u.s) (r:Nat):R0 (s.aA r) M {u with s:=u.s.aA r}:=
 ⟨a.at_,a.c,a.done,a.fC,by show(s.stuck || s.fs r !=s.en)=(u.s.stuck || !u.s.has r);rw [a.stk,b.has],a.M,a.fs,a.en,a.dn⟩
theorem R1.aA {u:Rm} (b:R1 s f u) (r:Nat):R1 (s.aA r) f (u.aA r):=⟨b.has,b.reg,b.sp⟩
theorem R0.sets (a:R0 s M u) (r:Nat) (x y:Int):R0 (s.sets r x) M {u with s:=u.s.sets r y}:=
 ⟨a.at_,a.c,a.done,a.fC,a.stk,a.M,fun j=>by show aO s.fs r s.en j≤s.en;unfold aO;split;exact Int.le_refl _;exact a.fs j,a.en,a.dn⟩
theorem R1.sets {u:Rm} (b:R1 s f u) (r:Nat) (x:Int):R1 (s.sets r x) f (u.sets r x):=by
 refine⟨fun j=> ?_,fun j hj=> ?_,b.sp⟩
 ·show(aO s.fs r s.en j !=s.en)= !(aO u.has r true j)
  unfold aO
  split
  ·simp
  ·exact b.has j
 ·show aO s.reg r x j=aO u.reg r x j
  have VK:aO u.has r true j=true:=hj
  unfold aO at VK⊢
  split
  ·rfl
  ·rename_i hn;rw [if_neg hn] at VK;exact b.reg j VK
end
def Ra (r:Option Lf×Hst) (q:Option Lf×jw):Prop:=
 r.2.s.stuck=q.2.s.stuck∧r.2.s.c=q.2.s.c∧r.2.M=q.2.M∧(q.2.s.stuck=false→r.1=q.1∧(r.1=none→R0 {r.2.s with fC:=r.2.s.fC+1} r.2.M {q.2 with s:={q.2.s with fC:=q.2.s.fC+1}}∧R1 r.2.s r.2.f q.2.s))
theorem R0.next {s:Pm} {M:MM} {u:jw} (a:R0 s M u):R0 {s with fC:=s.fC+1} M {u with s:={u.s with fC:=u.s.fC+1}}:=
 ⟨a.at_,a.c,a.done,by show s.fC+1=u.s.fC+1;rw [a.fC],a.stk,a.M,a.fs,⟨a.en.1,by have:=a.en.2;show s.en≤s.fC+1;omega⟩,a.dn⟩
theorem Ra.of {l l':Option Lf} {t':Hst} {u':jw} (a:R0 t'.s t'.M u') (h:u'.s.stuck=false→l=l'∧(l=none→R1 t'.s t'.f u'.s)):Ra (l,t') (l',u'):=
 ⟨a.stk,a.c,a.M,fun hs=>⟨(h hs).1,fun hn=>⟨a.next,(h hs).2 hn⟩⟩⟩
def zC (at_:Int) (cx:Nat→Int):Rm:=⟨at_,cx,0,fun _=>0,fun _=>false,fun _=>0,fun _=>false,0,false⟩
def OM (K:Hk) (at_:Int) (cx:Nat→Int) (M:MM) (G:Nat):Option VY:=
 if zk K.us at_=true then ru K G ⟨zC at_ cx,M⟩ else some ⟨cx,M,⟨5,0,0,0,0⟩,at_⟩
end Go.Proofs.Ytcjcmnnhmajocab.Hr
namespace Go.Proofs.Ytcjcmnnhmajocab.Ev
open Go.RowKit Kt Me Fl Ic
structure nG where
 M:MM
 c:Nat→Int
 v:Nat→Int
structure Ext where
 k:Int
 x:Int
 pc:Int
 n:Int
def nG.get (s:nG) (t:Int):Int:=s.v t.toNat
def nG.set (s:nG) (i:Nat) (z:Int):nG:={s with v:=aO s.v i z}
def qC (o:cZ) (s:nG) (i:Nat):nG×Option Ext:=
 let a:=s.get o.a
 let b:=s.get o.b
 let c:=s.get o.c
 if o.k=2 then(s.set i (s.c o.w.toNat),none)
 else if o.k=3 then({s with c:=aO s.c o.w.toNat a},none)
 else if o.k=17 then(s.set i (fl (s.c 8) (s.c 9) (s.c 10) (s.c 11)),none)
 else if o.k=9 then(match cO s.M 1 a (ni o.w).toNat with
  | none=>(s.set i (wid o.w (nC s.M a (ni o.w))),none)
  | some x=>(s.set i (wid o.w 0),some ⟨5,x,o.kn,o.n⟩))
 else if o.k=10 then(match nJ s.M a (oD o.w) with
  | none=>({s with M:=rU s.M a (oD o.w) b},none)
  | some x=>(s,some ⟨6,x,o.kn,o.n⟩))
 else if o.k=11 then(s,if nM s.M.hi then some ⟨0,0,o.kn,o.n⟩ else none)
 else if o.k=12 then(s,if a=0 then none else some ⟨0,0,o.kn,o.n⟩)
 else if o.k=13 then(s,if a=0 then none else some ⟨o.w,0,o.kn,o.n⟩)
 else if o.k=14 then(s,some ⟨o.w,o.b%4294967296,o.kn,o.n⟩)
 else if o.k=15 then(s,some ⟨0,0,o.kn,o.n⟩)
 else if o.k=16 then(s,some ⟨0,0,a,o.n⟩)
 else(s.set i (fD o.k o.w o.kn a b c),none)
def qE (os:List cZ):Nat→nG→nG×Ext×Int
 | 0,s=>(s,⟨0,0,0,0⟩,-1)
 | n+1,s=>match os[os.length-(n+1)]? with
  | none=>(s,⟨0,0,0,0⟩,-1)
  | some o=>match qC o s (os.length-(n+1)) with
   | (s',none)=>qE os n s'
   | (s',some x)=>(s',x,((os.length-(n+1):Nat):Int))
def oL (c:Nat→Int):Prop:=∀j,0≤c j∧c j<4294967296
structure VZ (s:nG):Prop where
 M:iC s.M
 c:oL s.c
 v:oL s.v
theorem oL.aO {c:Nat→Int} (h:oL c) (k:Nat) (z:Int) (hz:0≤z∧z<4294967296):oL (Me.aO c k z):=by
 intro j
 unfold Me.aO
 split
 ·exact hz
 ·exact h j
theorem VZ.set {s:nG} (h:VZ s) (i:Nat) (z:Int) (hz:0≤z∧z<4294967296):VZ (s.set i z):=⟨h.M,h.c,h.v.aO i z hz⟩
theorem YS (o:cZ) (s:nG) (i:Nat) (h:VZ s) (k0:0≤o.kn) (k1:o.kn<4294967296):VZ (qC o s i).1:=by
 have ha:=h.v o.a.toNat
 have hb:=h.v o.b.toNat
 have hc:=h.v o.c.toNat
 unfold qC
 simp only [nG.get]
 by_cases e:o.k=2
 ·rw [if_pos e];exact h.set _ _ (h.c _)
 rw [if_neg e];clear e
 by_cases e:o.k=3
 ·rw [if_pos e];exact⟨h.M,h.c.aO _ _ ha,h.v⟩
 rw [if_neg e];clear e
 by_cases e:o.k=17
 ·rw [if_pos e];exact h.set _ _ (by have:=St.Ll (s.c 8) (s.c 9) (s.c 10) (s.c 11);show 0≤fl _ _ _ _∧fl _ _ _ _<4294967296;omega)
 rw [if_neg e];clear e
 by_cases e:o.k=9
 ·rw [if_pos e]
  split
  ·have b:=pR h.M (s.v o.a.toNat) (ni o.w)
   exact h.set _ _ (DN _ _ b.1 b.2)
  ·exact h.set _ _ (DN _ _ (by decide) (by decide))
 rw [if_neg e];clear e
 by_cases e:o.k=10
 ·rw [if_pos e]
  split
  ·exact⟨h.M.rU _ _ _ hb.1 hb.2,h.c,h.v⟩
  ·exact h
 rw [if_neg e];clear e
 by_cases e:o.k=11
 ·rw [if_pos e];exact h
 rw [if_neg e];clear e
 by_cases e:o.k=12
 ·rw [if_pos e];exact h
 rw [if_neg e];clear e
 by_cases e:o.k=13
 ·rw [if_pos e];exact h
 rw [if_neg e];clear e
 by_cases e:o.k=14
 ·rw [if_pos e];exact h
 rw [if_neg e];clear e
 by_cases e:o.k=15
 ·rw [if_pos e];exact h
 rw [if_neg e];clear e
 by_cases e:o.k=16
 ·rw [if_pos e];exact h
 rw [if_neg e];clear e
 exact h.set _ _ (oG _ _ _ _ _ _ k0 k1 ha.1 ha.2 hb.1 hb.2 hc.1 hc.2)
end Go.Proofs.Ytcjcmnnhmajocab.Ev
namespace Go.Proofs.Ytcjcmnnhmajocab.Hr
open Go.RowKit Kt Me Fl Ev Ho
structure TR (s:Rm):Prop where
 c:∀j,0≤s.c j∧s.c j<4294967296
 r:∀j,0≤s.reg j∧s.reg j<4294967296
 v:∀j,0≤s.lQ j∧s.lQ j<4294967296
theorem TR.aA {s:Rm} (a:TR s) (r:Nat):TR (s.aA r):=⟨a.c,a.r,a.v⟩
theorem EJ {f:Nat→Int} (h:∀j,0≤f j∧f j<4294967296) (r:Nat) (z:Int) (hz:0≤z∧z<4294967296):∀j,0≤aO f r z j∧aO f r z j<4294967296:=by
 intro j;unfold aO;split
 ·exact hz
 ·exact h j
theorem TR.sets {s:Rm} (a:TR s) (r:Nat) (z:Int) (hz:0≤z∧z<4294967296):TR (s.sets r z):=⟨a.c,EJ a.r r z hz,a.v⟩
theorem zz:(0:Int)≤0∧(0:Int) <4294967296:=by decide
theorem trR (K:Hk) (x:Cd) (t:jw) (T:TR t.s) (hM:iC t.M) (hx:X7 x):TR (iE K x t).2.s∧iC (iE K x t).2.M:=by
 have hk:=hx.k
 have hp:=hx.op
 unfold iE
 generalize x.a.toNat=ra
 generalize x.b.toNat=rb
 generalize x.c.toNat=rc
 generalize x.d.toNat=rd
 generalize x.n.toNat=rn
 unfold oP
 by_cases c0:x.op=1
 ·rw [if_pos c0]
  by_cases h:jI K t.M t.s x=none
  ·rw [if_pos h];exact⟨⟨T.c,fun _=>zz,fun _=>zz⟩,hM⟩
  ·rw [if_neg h];exact⟨T,hM⟩
 rw [if_neg c0]
 by_cases c1:x.op=10
 ·rw [if_pos c1];exact⟨T,hM⟩
 rw [if_neg c1]
 by_cases c2:x.op=11
 ·rw [if_pos c2];exact⟨T.aA ra,hM⟩
 rw [if_neg c2]
 by_cases c3:x.op=96
 ·rw [if_pos c3]
  refine⟨?_,hM⟩
  show TR (Jf _ _ _)
  unfold Jf
  split
  ·exact⟨T.c,T.r,T.v⟩
  ·exact T.aA ra
 rw [if_neg c3]
 by_cases c4:x.op=14
 ·rw [if_pos c4];exact⟨T,hM⟩
 rw [if_neg c4]
 by_cases c5:x.op=15
 ·rw [if_pos c5];exact⟨⟨T.c,T.r,T.v⟩,hM⟩
 rw [if_neg c5]
 by_cases c6:x.op=12
 ·rw [if_pos c6];exact⟨T,hM⟩
 rw [if_neg c6]
 by_cases c7:x.op=13
 ·rw [if_pos c7];exact⟨T.aA ra,hM⟩
 rw [if_neg c7]
 by_cases c8:x.op=4
 ·rw [if_pos c8]
  refine⟨?_,hM⟩
  show TR (wu K t.s ra x.n)
  unfold wu
  split<;>exact⟨T.c,T.r,T.v⟩
 rw [if_neg c8]
 by_cases c9:x.op=2
 ·rw [if_pos c9];exact⟨T.sets rd _ hk,hM⟩
 rw [if_neg c9]
 by_cases pW:x.op=3
 ·rw [if_pos pW];exact⟨(T.aA ra).sets rd _ (T.r ra),hM⟩
 rw [if_neg pW]
 by_cases oZ:x.op=6
 ·rw [if_pos oZ];exact⟨T.sets rd _ (T.c rn),hM⟩
 rw [if_neg oZ]
 by_cases Ce:x.op=7
 ·rw [if_pos Ce]
  refine⟨?_,hM⟩
  show TR (if(t.s.aA ra).stuck=true then t.s.aA ra else _)
  split
  ·exact T.aA ra
  ·exact⟨EJ T.c rn _ (T.r ra),T.r,T.v⟩
 rw [if_neg Ce]
 by_cases Ci:x.op=8
 ·rw [if_pos Ci];exact⟨TR.sets (s:=({t.s with stuck:=t.s.stuck || !t.s.held rn}:Rm)) ⟨T.c,T.r,T.v⟩ rd _ (T.v rn),hM⟩
 rw [if_neg Ci]
 by_cases P9:x.op=9
 ·rw [if_pos P9];exact⟨⟨T.c,T.r,EJ T.v rn _ (T.r ra)⟩,hM⟩
 rw [if_neg P9]
 by_cases Qa:x.op=97
 ·rw [if_pos Qa];exact⟨T.sets rd _ (by have:=St.Ll (t.s.c 8) (t.s.c 9) (t.s.c 10) (t.s.c 11);omega),hM⟩
 rw [if_neg Qa]
 by_cases Qb:x.op=5
 ·rw [if_pos Qb];exact⟨(((T.aA ra).aA rb).aA rc).sets rd _ (oG _ _ _ _ _ _ (by decide) (by decide) (T.r ra).1 (T.r ra).2 (T.r rb).1 (T.r rb).2 (T.r rc).1 (T.r rc).2),hM⟩
 rw [if_neg Qb]
 by_cases V5:x.op<32
 ·rw [if_pos V5];exact⟨((T.aA ra).aA rb).sets rd _ (oG _ _ _ _ _ _ (by decide) (by decide) (T.r ra).1 (T.r ra).2 (T.r rb).1 (T.r rb).2 (by decide) (by decide)),hM⟩
 rw [if_neg V5]
 by_cases V6:x.op<39
 ·rw [if_pos V6];exact⟨(T.aA ra).sets rd _ (oG _ _ _ _ _ _ (by decide) (by decide) (T.r ra).1 (T.r ra).2 (by decide) (by decide) (by decide) (by decide)),hM⟩
 rw [if_neg V6]
 by_cases V7:x.op<61
 ·rw [if_pos V7];exact⟨(((T.aA ra).aA rb).aA rc).sets rd _ (oG _ _ _ _ _ _ (by decide) (by decide) (T.r ra).1 (T.r ra).2 (T.r rb).1 (T.r rb).2 (T.r rc).1 (T.r rc).2),hM⟩
 rw [if_neg V7]
 by_cases V8:x.op<80
 ·rw [if_pos V8];exact⟨(T.aA ra).sets rd _ (oG _ _ _ _ _ _ (by decide) (by decide) (T.r ra).1 (T.r ra).2 (by decide) (by decide) (by decide) (by decide)),hM⟩
 rw [if_neg V8]
 by_cases Qc:x.op<85
 ·rw [if_pos Qc]
  have b:=pR hM (t.s.reg ra) (ni (x.op-80))
  refine⟨?_,hM⟩
  show TR (Jf _ _ _)
  unfold Jf
  split
  ·exact T.aA ra
  ·exact(T.aA ra).sets rd _ (DN _ _ b.1 b.2)
 rw [if_neg Qc]
 refine⟨(T.aA ra).aA rd, ?_⟩
 show iC (ifM _ _ _)
 unfold ifM
 split
 ·exact hM
 ·exact hM.rU _ _ _ (T.r rd).1 (T.r rd).2
theorem Ut (K:Hk) (x:Cd) (t:jw):(iE K x t).2.s.fC=t.s.fC:=by
 unfold iE
 generalize x.a.toNat=ra
 generalize x.b.toNat=rb
 generalize x.c.toNat=rc
 generalize x.d.toNat=rd
 generalize x.n.toNat=rn
 unfold oP
 by_cases c0:x.op=1
 ·rw [if_pos c0]
  first | rfl | (dsimp only;split<;>rfl)
 rw [if_neg c0]
 by_cases c1:x.op=10
 ·rw [if_pos c1]
  try rfl
 rw [if_neg c1]
 by_cases c2:x.op=11
 ·rw [if_pos c2]
  try rfl
 rw [if_neg c2]
 by_cases c3:x.op=96
 ·rw [if_pos c3]
  show(Jf _ _ _).fC=_
  unfold Jf
  (split<;>rfl)
 rw [if_neg c3]
 by_cases c4:x.op=14
 ·rw [if_pos c4]
  try rfl
 rw [if_neg c4]
 by_cases c5:x.op=15
 ·rw [if_pos c5]
  try rfl
 rw [if_neg c5]
 by_cases c6:x.op=12
 ·rw [if_pos c6]
  try rfl
 rw [if_neg c6]
 by_cases c7:x.op=13
 ·rw [if_pos c7]
  try rfl
 rw [if_neg c7]
 by_cases c8:x.op=4
 ·rw [if_pos c8]
  show(wu _ _ _ _).fC=_
  unfold wu
  split<;>rfl
 rw [if_neg c8]
 by_cases c9:x.op=2
 ·rw [if_pos c9]
  try rfl
 rw [if_neg c9]
 by_cases pW:x.op=3
 ·rw [if_pos pW]
  try rfl
 rw [if_neg pW]
 by_cases oZ:x.op=6
 ·rw [if_pos oZ]
  try rfl
 rw [if_neg oZ]
 by_cases Ce:x.op=7
 ·rw [if_pos Ce]
  first | rfl | (dsimp only;split<;>rfl)
 rw [if_neg Ce]
 by_cases Ci:x.op=8
 ·rw [if_pos Ci]
  try rfl
 rw [if_neg Ci]
 by_cases P9:x.op=9
 ·rw [if_pos P9]
  try rfl
 rw [if_neg P9]
 by_cases Qa:x.op=97
 ·rw [if_pos Qa]
  try rfl
 rw [if_neg Qa]
 by_cases Qb:x.op=5
 ·rw [if_pos Qb]
  try rfl
 rw [if_neg Qb]
 by_cases V5:x.op<32
 ·rw [if_pos V5]
  try rfl
 rw [if_neg V5]
 by_cases V6:x.op<39
 ·rw [if_pos V6]
  try rfl
 rw [if_neg V6]
 by_cases V7:x.op<61
 ·rw [if_pos V7]
  try rfl
 rw [if_neg V7]
 by_cases V8:x.op<80
 ·rw [if_pos V8]
  try rfl
 rw [if_neg V8]
 by_cases Qc:x.op<85
 ·rw [if_pos Qc]
  show(Jf _ _ _).fC=_
  unfold Jf
  (split<;>rfl)
 rw [if_neg Qc]
 rfl
end Go.Proofs.Ytcjcmnnhmajocab.Hr
