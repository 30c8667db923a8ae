import Derived.Test.YtcjcmnnhmajocabPmbm
set_option linter.unusedVariables false
set_option linter.unusedSimpArgs false
set_option maxRecDepth 100000
set_option maxHeartbeats 16000000
namespace Go.Proofs.Ytcjcmnnhmajocab.Hr
open Go.RowKit Kt Me Fl Ev Ho
theorem RW.jJ {w W:World} {x:Cd} {h:Nat} {K:Hk} {s:Rm} {B:B4} {P:RP} {M:MM} (a:RW w x h K s B P M W) (k sk sx pc n at_:Int):RW w x h K s B P M (p6 (w.heap.size+1) W k sk sx pc n at_):=a.mv ((EI (w.heap.size+1) W k sk sx pc n at_).mono fun i _ e=>by show w.heap.size<i;omega)
def yt:Option Lf→Value
 | none=> .agg #[.int .i64 0, .int .i64 0, .int .u32 0, .int .u32 0, .int .i64 0, .int .i64 0]
 | some l=> .agg #[.int .i64 l.k, .int .i64 l.sk, .int .u32 l.sx, .int .u32 l.pc, .int .i64 l.n, .int .i64 0]
theorem _root_.Go.Proofs.Ytcjcmnnhmajocab.Hr.LB.pX {h:Nat} {k sk sx pc n at_:Int} {W:World} (a:LB h k sk sx pc n at_ W) (k':Int):LB h k' sk sx pc n at_ (W.setCell ⟨h,0,none⟩ (.int .i64 k')):=
 ⟨(World.cell?_setCell_same _ _ _ a.c0),((off (by omega)).trans a.c1),((off (by omega)).trans a.c2),((off (by omega)).trans a.c3),((off (by omega)).trans a.c4),((off (by omega)).trans a.c5),fun j=>by simpa using a.z j,by simpa using a.l⟩
theorem _root_.Go.Proofs.Ytcjcmnnhmajocab.Hr.LB.xH {h:Nat} {k sk sx pc n at_:Int} {W:World} (a:LB h k sk sx pc n at_ W) (JL:Int):LB h k sk sx JL n at_ (W.setCell ⟨h,3,none⟩ (.int .u32 JL)):=
 ⟨((off (by omega)).trans a.c0),((off (by omega)).trans a.c1),((off (by omega)).trans a.c2),(World.cell?_setCell_same _ _ _ a.c3),((off (by omega)).trans a.c4),((off (by omega)).trans a.c5),fun j=>by simpa using a.z j,by simpa using a.l⟩
theorem _root_.Go.Proofs.Ytcjcmnnhmajocab.Hr.LB.JR {h:Nat} {k sk sx pc n at_:Int} {W:World} (a:LB h k sk sx pc n at_ W) (n':Int):LB h k sk sx pc n' at_ (W.setCell ⟨h,4,none⟩ (.int .i64 n')):=
 ⟨((off (by omega)).trans a.c0),((off (by omega)).trans a.c1),((off (by omega)).trans a.c2),((off (by omega)).trans a.c3),(World.cell?_setCell_same _ _ _ a.c4),((off (by omega)).trans a.c5),fun j=>by simpa using a.z j,by simpa using a.l⟩
theorem _root_.Go.Proofs.Ytcjcmnnhmajocab.Hr.LB.gI {h:Nat} {k sk sx pc n at_:Int} {W:World} (a:LB h k sk sx pc n at_ W) (Gt Je:Int):LB h k Gt Je pc n at_ ((W.setCell ⟨h,1,none⟩ (.int .i64 Gt)).setCell ⟨h,2,none⟩ (.int .u32 Je)):=
 ⟨((off (by omega)).trans ((off (by omega)).trans a.c0)),((off (by omega)).trans (World.cell?_setCell_same _ _ _ a.c1)),(World.cell?_setCell_same _ _ _ ((off (by omega)).trans a.c2)),((off (by omega)).trans ((off (by omega)).trans a.c3)),((off (by omega)).trans ((off (by omega)).trans a.c4)),((off (by omega)).trans ((off (by omega)).trans a.c5)),fun j=>by simpa using a.z j,by simpa using a.l⟩
theorem dM (w:World) (x:Cd) (pc n:Int):LB (w.heap.size+1) 0 0 0 0 0 0 (((w.alloc (.cells #[.int .i64 x.op, .int .i64 x.d, .int .i64 x.a, .int .i64 x.b, .int .i64 x.c, .int .i64 x.n, .int .u32 x.k, .int .u32 x.x] 108)).alloc (.cells #[.int .i64 0, .int .i64 0, .int .u32 0, .int .u32 0, .int .i64 0, .int .i64 0] 52)).alloc (.cells #[.int .i64 0, .int .i64 0, .int .u32 0, .int .u32 pc, .int .i64 n, .int .i64 0] 52))∧LB (w.heap.size+1+1) 0 0 0 pc n 0 (((w.alloc (.cells #[.int .i64 x.op, .int .i64 x.d, .int .i64 x.a, .int .i64 x.b, .int .i64 x.c, .int .i64 x.n, .int .u32 x.k, .int .u32 x.x] 108)).alloc (.cells #[.int .i64 0, .int .i64 0, .int .u32 0, .int .u32 0, .int .i64 0, .int .i64 0] 52)).alloc (.cells #[.int .i64 0, .int .i64 0, .int .u32 0, .int .u32 pc, .int .i64 n, .int .i64 0] 52)):=by
 have b:=LB.new ((w.alloc (.cells #[.int .i64 x.op, .int .i64 x.d, .int .i64 x.a, .int .i64 x.b, .int .i64 x.c, .int .i64 x.n, .int .u32 x.k, .int .u32 x.x] 108)).alloc (.cells #[.int .i64 0, .int .i64 0, .int .u32 0, .int .u32 0, .int .i64 0, .int .i64 0] 52)) 0 0 0 pc n 0 52
 rw [show((w.alloc (.cells #[.int .i64 x.op, .int .i64 x.d, .int .i64 x.a, .int .i64 x.b, .int .i64 x.c, .int .i64 x.n, .int .u32 x.k, .int .u32 x.x] 108)).alloc (.cells #[.int .i64 0, .int .i64 0, .int .u32 0, .int .u32 0, .int .i64 0, .int .i64 0] 52)).heap.size=w.heap.size+1+1 by simp] at b
 exact⟨(fA w x).2.1.upto ((ah.refl (fun _=>False) _).alloc _) id,b⟩
structure EB (h:Nat) (p a:Int) (W:World):Prop where
 c0:W.cell? ⟨h,0,none⟩=some (.int .u32 p)
 c1:W.cell? ⟨h,1,none⟩=some (.int .i64 a)
 l:h<W.heap.size
theorem EB.upto {S:Nat→Prop} {h:Nat} {p a:Int} {W W':World} (e:EB h p a W) (u:ah S W W') (hs:¬S h):EB h p a W':=
 ⟨(u.cell (q:=⟨h,0,none⟩) e.l hs).trans e.c0,(u.cell (q:=⟨h,1,none⟩) e.l hs).trans e.c1,Nat.lt_of_lt_of_le e.l u.size⟩
theorem EB.new (w:World) (p a:Int) (t:TypeId):EB w.heap.size p a (w.alloc (.cells #[.int .u32 p, .int .i64 a] t)).drew:=
 ⟨aW w _ _ 0,aW w _ _ 1,by show _<(w.alloc _).heap.size;simp⟩
variable {h:Nat} {K:Hk} {s:Rm} {B:B4} {P:RP} {M:MM}
theorem UH (x:Cd) (w:World) (a:RR h K s B w) (m:RM P M w) (hK:K.p=P.q) (hp:∀i,P.has i→i<w.heap.size) (ds:∀i,P.has i→¬B.has h i) (ho:x.op=10):
  Calls Try.prog 67 #[.pointer (some ⟨h,0,none⟩), .agg #[.int .i64 x.op, .int .i64 x.d, .int .i64 x.a, .int .i64 x.b, .int .i64 x.c, .int .i64 x.n, .int .u32 x.k, .int .u32 x.x]] w fun e w'=>e= .returned (yt (CQ (nM M.hi) ⟨1,0,0,x.k,(wrap64 (s.done+x.n))⟩))∧RR h K s B w'∧RM P M w'∧ah (fun i=>B.has h i∨P.has i) w w':=by
 have CT:=κ (fun w h=>vw P M w h)
 obtain⟨tb,pG⟩:∃tb,nM M.hi=tb:=⟨_,rfl⟩
 rw [pG] at CT⊢
 clear pG
 have e1:(x.op==1)=false:=by simp;omega
 have lK:(x.op==10)=true:=by simp;omega
 have qO:(x.op==11)=false:=by simp;omega
 have qP:(x.op==14)=false:=by simp;omega
 have jS:(x.op==12)=false:=by simp;omega
 have lu:(x.op==13)=false:=by simp;omega
 have e4:(x.op==4)=false:=by simp;omega
 have qQ:(x.op==15)=false:=by simp;omega
 have ny:(x.op==96)=false:=by simp;omega
 obtain⟨nn,iy⟩:∃n,(wrap64 (s.done+x.n))=n:=⟨_,rfl⟩
 try rw [iy]
 have mZ:wrap64 (s.done+x.n)=nn:=iy
 have kw:=((RW.new w x 108 a m a.lt hp ds).al (.cells #[.int .i64 0, .int .i64 0, .int .u32 0, .int .u32 0, .int .i64 0, .int .i64 0] 52)).al (.cells #[.int .i64 0, .int .i64 0, .int .u32 0, .int .u32 x.k, .int .i64 nn, .int .i64 0] 52)
 obtain⟨lr,lo⟩:=dM w x x.k nn
 have hh:h<w.heap.size:=a.x.l
 have rD:=κ hK
 have l2:=(fA w x).2.1.l
 have kd:=a.x.done
 have ke:=(((RW.new w x 108 a m a.lt hp ds).al (.cells #[.int .i64 0, .int .i64 0, .int .u32 0, .int .u32 0, .int .i64 0, .int .i64 0] 52)).al (.cells #[.int .i64 0, .int .i64 0, .int .u32 0, .int .u32 0, .int .i64 0, .int .i64 0] 52)).a.x.done
 clear iy a m hK ho
 go_enter Try.func67,Try.ntmps67
 go_upto_region 1 with fail
 go_region
 clear kd ke l2 mZ
 have kw:=kw.drew
 have lr:=lr.drew
 have lo:=lo.drew
 generalize(((w.alloc (.cells #[.int .i64 x.op, .int .i64 x.d, .int .i64 x.a, .int .i64 x.b, .int .i64 x.c, .int .i64 x.n, .int .u32 x.k, .int .u32 x.x] 108)).alloc (.cells #[.int .i64 0, .int .i64 0, .int .u32 0, .int .u32 0, .int .i64 0, .int .i64 0] 52)).alloc (.cells #[.int .i64 0, .int .i64 0, .int .u32 0, .int .u32 x.k, .int .i64 nn, .int .i64 0] 52)).drew=WA at kw lr lo⊢
 have x0:=kw.x.c0
 have lx:=kw.x.l
 have KW:=κ kw
 have LR:=κ lr
 have LO:=κ lo
 clear kw lr lo
 have am:WA.cell? ⟨h,14,none⟩=some (.pointer (some ⟨P.q,0,none⟩)):=rD.out▸KW.out.a.x.m
 have lh:=KW.out.a.x.l
 cases tb
 ·go_upto_region 55 with(go_at_call 25;(with_reducible refine(CT.out _ KW.out.m).mono ?_);rintro e w3 ⟨rfl,rfl⟩)
  clear am lh x0 lx
  obtain⟨y0,y1,y2,y3,y4,y5⟩:=LR.out.all
  have zy:=LR.out.z
  have ly:=LR.out.l
  go_wp2_with fail
  clear y0 y1 y2 y3 y4 y5 zy ly
  have kw:=KW.out.jJ (0) (0) (0) (0) (0) (0)
  have lr:=LR.out.put (0) (0) (0) (0) (0) (0)
  rw [dX]
  generalize p6 _ _ _ _ _ _ _ _=W9 at kw lr⊢
  obtain⟨g0,g1,g2,g3,g4,g5⟩:=lr.all
  exact bodyPost_ret (v:= .agg #[.int .i64 (0), .int .i64 (0), .int .u32 (0), .int .u32 (0), .int .i64 (0), .int .i64 (0)]) (by simp [results,Try.results67,go_sem,g0,g1,g2,g3,g4,g5]) rfl ⟨rfl,kw.a,kw.m,kw.u⟩
 ·go_upto_region 18 with(go_at_call 25;(with_reducible refine(CT.out _ KW.out.m).mono ?_);rintro e w3 ⟨rfl,rfl⟩)
  clear am lh x0 lx
  have q0:=LO.out.c0
  have uN:=LO.out.z 0
  have lq:=LO.out.l
  go_upto_region 19 with fail
  clear q0 uN lq
  have kw:=KW.out.mv ((ah.refl (fun i=>w.heap.size<i) WA).setCell (q:=⟨w.heap.size+1+1,0,none⟩) (.inl (by show w.heap.size<w.heap.size+1+1;omega)) (.int .i64 1))
  have lr:=LR.out.upto ((ah.refl (fun i=>i=w.heap.size+1+1) WA).setCell (q:=⟨w.heap.size+1+1,0,none⟩) (.inl rfl) (.int .i64 1)) (by omega)
  have lo:=LO.out.pX (1)
  generalize(WA.setCell ⟨w.heap.size+1+1,0,none⟩ (.int .i64 1))=w3 at kw lr lo⊢
  have KW:=κ kw
  have LR:=κ lr
  have LO:=κ lo
  clear kw lr lo
  obtain⟨y0,y1,y2,y3,y4,y5⟩:=LR.out.all
  have zy:=LR.out.z
  have ly:=LR.out.l
  obtain⟨q0,q1,q2,q3,q4,q5⟩:=LO.out.all
  have lq:=LO.out.l
  go_wp2_with fail
  clear y0 y1 y2 y3 y4 y5 zy ly q0 q1 q2 q3 q4 q5 lq
  have kw:=KW.out.jJ (1) (0) (0) (x.k) (nn) (0)
  have lr:=LR.out.put (1) (0) (0) (x.k) (nn) (0)
  rw [dX]
  generalize p6 _ _ _ _ _ _ _ _=W9 at kw lr⊢
  obtain⟨g0,g1,g2,g3,g4,g5⟩:=lr.all
  exact bodyPost_ret (v:= .agg #[.int .i64 (1), .int .i64 (0), .int .u32 (0), .int .u32 (x.k), .int .i64 (nn), .int .i64 (0)]) (by simp [results,Try.results67,go_sem,g0,g1,g2,g3,g4,g5]) rfl ⟨rfl,kw.a,kw.m,kw.u⟩
theorem UJ (x:Cd) (ra:Nat) (w:World) (a:RR h K s B w) (m:RM P M w) (hK:K.p=P.q) (hp:∀i,P.has i→i<w.heap.size) (ds:∀i,P.has i→¬B.has h i) (ho:x.op=11) (ha:x.a=ra) (la:ra<16):
  Calls Try.prog 67 #[.pointer (some ⟨h,0,none⟩), .agg #[.int .i64 x.op, .int .i64 x.d, .int .i64 x.a, .int .i64 x.b, .int .i64 x.c, .int .i64 x.n, .int .u32 x.k, .int .u32 x.x]] w fun e w'=>e= .returned (yt (CQ (s.reg ra !=0) ⟨1,0,0,x.k,(wrap64 (s.done+x.n))⟩))∧RR h K (s.aA ra) B w'∧RM P M w'∧ah (fun i=>B.has h i∨P.has i) w w':=by
 have GA:Hid (∀w,RR h K s B w→Calls Try.prog 110 #[.pointer (some ⟨h,0,none⟩), .int .i64 ra] w fun e w'=>e= .returned (.int .u32 (s.reg ra))∧RR h K (s.aA ra) B w'∧ah (fun i=>i=h) w w'):=fun w a=>bJ ra w a la
 have O4:(s.aA ra).done=s.done:=rfl
 generalize s.aA ra=s1 at GA⊢
 clear O4
 generalize s.reg ra=va at GA⊢
 have HA:=κ ha
 clear ha
 obtain⟨c,hc⟩:∃c,(va !=0)=c:=⟨_,rfl⟩
 rw [hc]
 have e1:(x.op==1)=false:=by simp;omega
 have lK:(x.op==10)=false:=by simp;omega
 have qO:(x.op==11)=true:=by simp;omega
 have qP:(x.op==14)=false:=by simp;omega
 have jS:(x.op==12)=false:=by simp;omega
 have lu:(x.op==13)=false:=by simp;omega
 have e4:(x.op==4)=false:=by simp;omega
 have qQ:(x.op==15)=false:=by simp;omega
 have ny:(x.op==96)=false:=by simp;omega
 obtain⟨nn,iy⟩:∃n,(wrap64 (s.done+x.n))=n:=⟨_,rfl⟩
 try rw [iy]
 have mZ:wrap64 (s.done+x.n)=nn:=iy
 have kw:=((RW.new w x 108 a m a.lt hp ds).al (.cells #[.int .i64 0, .int .i64 0, .int .u32 0, .int .u32 0, .int .i64 0, .int .i64 0] 52)).al (.cells #[.int .i64 0, .int .i64 0, .int .u32 0, .int .u32 x.k, .int .i64 nn, .int .i64 0] 52)
 obtain⟨lr,lo⟩:=dM w x x.k nn
 have hh:h<w.heap.size:=a.x.l
 have rD:=κ hK
 have l2:=(fA w x).2.1.l
 have kd:=a.x.done
 have ke:=(((RW.new w x 108 a m a.lt hp ds).al (.cells #[.int .i64 0, .int .i64 0, .int .u32 0, .int .u32 0, .int .i64 0, .int .i64 0] 52)).al (.cells #[.int .i64 0, .int .i64 0, .int .u32 0, .int .u32 0, .int .i64 0, .int .i64 0] 52)).a.x.done
 clear iy a m hK ho
 go_enter Try.func67,Try.ntmps67
 go_upto_region 1 with fail
 go_region
 clear kd ke l2 mZ
 have kw:=kw.drew
 have lr:=lr.drew
 have lo:=lo.drew
 generalize(((w.alloc (.cells #[.int .i64 x.op, .int .i64 x.d, .int .i64 x.a, .int .i64 x.b, .int .i64 x.c, .int .i64 x.n, .int .u32 x.k, .int .u32 x.x] 108)).alloc (.cells #[.int .i64 0, .int .i64 0, .int .u32 0, .int .u32 0, .int .i64 0, .int .i64 0] 52)).alloc (.cells #[.int .i64 0, .int .i64 0, .int .u32 0, .int .u32 x.k, .int .i64 nn, .int .i64 0] 52)).drew=WA at kw lr lo⊢
 have x0:=kw.x.c0
 have lx:=kw.x.l
 have KW:=κ kw
 have LR:=κ lr
 have LO:=κ lo
 clear kw lr lo
 have x2:=KW.out.x.c2
 rw [HA.out] at x2
 cases c
 ·go_upto_region 55 with(go_at_call 110;(with_reducible refine(GA.out _ KW.out.a).mono ?_);rintro e w2 ⟨rfl,a2,u2⟩;have LR:=κ (LR.out.upto u2 (by omega));have LO:=κ (LO.out.upto u2 (by omega));have KW:=κ (KW.out.lF a2 u2);clear a2 u2)
  clear x2 x0 lx
  obtain⟨y0,y1,y2,y3,y4,y5⟩:=LR.out.all
  have zy:=LR.out.z
  have ly:=LR.out.l
  go_wp2_with fail
  clear y0 y1 y2 y3 y4 y5 zy ly
  have kw:=KW.out.jJ (0) (0) (0) (0) (0) (0)
  have lr:=LR.out.put (0) (0) (0) (0) (0) (0)
  rw [dX]
  generalize p6 _ _ _ _ _ _ _ _=W9 at kw lr⊢
  obtain⟨g0,g1,g2,g3,g4,g5⟩:=lr.all
  exact bodyPost_ret (v:= .agg #[.int .i64 (0), .int .i64 (0), .int .u32 (0), .int .u32 (0), .int .i64 (0), .int .i64 (0)]) (by simp [results,Try.results67,go_sem,g0,g1,g2,g3,g4,g5]) rfl ⟨rfl,kw.a,kw.m,kw.u⟩
 ·go_upto_region 22 with(go_at_call 110;(with_reducible refine(GA.out _ KW.out.a).mono ?_);rintro e w2 ⟨rfl,a2,u2⟩;have LR:=κ (LR.out.upto u2 (by omega));have LO:=κ (LO.out.upto u2 (by omega));have KW:=κ (KW.out.lF a2 u2);clear a2 u2)
  clear x2 x0 lx
  have q0:=LO.out.c0
  have uN:=LO.out.z 0
  have lq:=LO.out.l
  go_upto_region 23 with fail
  clear q0 uN lq
  have kw:=KW.out.mv ((ah.refl (fun i=>w.heap.size<i) w2).setCell (q:=⟨w.heap.size+1+1,0,none⟩) (.inl (by show w.heap.size<w.heap.size+1+1;omega)) (.int .i64 1))
  have lr:=LR.out.upto ((ah.refl (fun i=>i=w.heap.size+1+1) w2).setCell (q:=⟨w.heap.size+1+1,0,none⟩) (.inl rfl) (.int .i64 1)) (by omega)
  have lo:=LO.out.pX (1)
  generalize(w2.setCell ⟨w.heap.size+1+1,0,none⟩ (.int .i64 1))=w3 at kw lr lo⊢
  have KW:=κ kw
  have LR:=κ lr
  have LO:=κ lo
  clear kw lr lo
  obtain⟨y0,y1,y2,y3,y4,y5⟩:=LR.out.all
  have zy:=LR.out.z
  have ly:=LR.out.l
  obtain⟨q0,q1,q2,q3,q4,q5⟩:=LO.out.all
  have lq:=LO.out.l
  go_wp2_with fail
  clear y0 y1 y2 y3 y4 y5 zy ly q0 q1 q2 q3 q4 q5 lq
  have kw:=KW.out.jJ (1) (0) (0) (x.k) (nn) (0)
  have lr:=LR.out.put (1) (0) (0) (x.k) (nn) (0)
  rw [dX]
  generalize p6 _ _ _ _ _ _ _ _=W9 at kw lr⊢
  obtain⟨g0,g1,g2,g3,g4,g5⟩:=lr.all
  exact bodyPost_ret (v:= .agg #[.int .i64 (1), .int .i64 (0), .int .u32 (0), .int .u32 (x.k), .int .i64 (nn), .int .i64 (0)]) (by simp [results,Try.results67,go_sem,g0,g1,g2,g3,g4,g5]) rfl ⟨rfl,kw.a,kw.m,kw.u⟩
theorem UK (x:Cd) (w:World) (a:RR h K s B w) (m:RM P M w) (hK:K.p=P.q) (hp:∀i,P.has i→i<w.heap.size) (ds:∀i,P.has i→¬B.has h i) (ho:x.op=14):
  Calls Try.prog 67 #[.pointer (some ⟨h,0,none⟩), .agg #[.int .i64 x.op, .int .i64 x.d, .int .i64 x.a, .int .i64 x.b, .int .i64 x.c, .int .i64 x.n, .int .u32 x.k, .int .u32 x.x]] w fun e w'=>e= .returned (yt (some ⟨1,0,0,x.k,(wrap64 (s.done+x.n))⟩))∧RR h K s B w'∧RM P M w'∧ah (fun i=>B.has h i∨P.has i) w w':=by
 have e1:(x.op==1)=false:=by simp;omega
 have lK:(x.op==10)=false:=by simp;omega
 have qO:(x.op==11)=false:=by simp;omega
 have qP:(x.op==14)=true:=by simp;omega
 have jS:(x.op==12)=false:=by simp;omega
 have lu:(x.op==13)=false:=by simp;omega
 have e4:(x.op==4)=false:=by simp;omega
 have qQ:(x.op==15)=false:=by simp;omega
 have ny:(x.op==96)=false:=by simp;omega
 obtain⟨nn,iy⟩:∃n,(wrap64 (s.done+x.n))=n:=⟨_,rfl⟩
 try rw [iy]
 have mZ:wrap64 (s.done+x.n)=nn:=iy
 have kw:=((RW.new w x 108 a m a.lt hp ds).al (.cells #[.int .i64 0, .int .i64 0, .int .u32 0, .int .u32 0, .int .i64 0, .int .i64 0] 52)).al (.cells #[.int .i64 0, .int .i64 0, .int .u32 0, .int .u32 x.k, .int .i64 nn, .int .i64 0] 52)
 obtain⟨lr,lo⟩:=dM w x x.k nn
 have hh:h<w.heap.size:=a.x.l
 have rD:=κ hK
 have l2:=(fA w x).2.1.l
 have kd:=a.x.done
 have ke:=(((RW.new w x 108 a m a.lt hp ds).al (.cells #[.int .i64 0, .int .i64 0, .int .u32 0, .int .u32 0, .int .i64 0, .int .i64 0] 52)).al (.cells #[.int .i64 0, .int .i64 0, .int .u32 0, .int .u32 0, .int .i64 0, .int .i64 0] 52)).a.x.done
 clear iy a m hK ho
 go_enter Try.func67,Try.ntmps67
 go_upto_region 1 with fail
 go_region
 clear kd ke l2 mZ
 have kw:=kw.drew
 have lr:=lr.drew
 have lo:=lo.drew
 generalize(((w.alloc (.cells #[.int .i64 x.op, .int .i64 x.d, .int .i64 x.a, .int .i64 x.b, .int .i64 x.c, .int .i64 x.n, .int .u32 x.k, .int .u32 x.x] 108)).alloc (.cells #[.int .i64 0, .int .i64 0, .int .u32 0, .int .u32 0, .int .i64 0, .int .i64 0] 52)).alloc (.cells #[.int .i64 0, .int .i64 0, .int .u32 0, .int .u32 x.k, .int .i64 nn, .int .i64 0] 52)).drew=WA at kw lr lo⊢
 have x0:=kw.x.c0
 have lx:=kw.x.l
 have KW:=κ kw
 have LR:=κ lr
 have LO:=κ lo
 clear kw lr lo
 go_upto_region 25 with fail
 clear x0 lx
 have q0:=LO.out.c0
 have uN:=LO.out.z 0
 have lq:=LO.out.l
 go_upto_region 26 with fail
 clear q0 uN lq
 have kw:=KW.out.mv ((ah.refl (fun i=>w.heap.size<i) WA).setCell (q:=⟨w.heap.size+1+1,0,none⟩) (.inl (by show w.heap.size<w.heap.size+1+1;omega)) (.int .i64 1))
 have lr:=LR.out.upto ((ah.refl (fun i=>i=w.heap.size+1+1) WA).setCell (q:=⟨w.heap.size+1+1,0,none⟩) (.inl rfl) (.int .i64 1)) (by omega)
 have lo:=LO.out.pX (1)
 generalize(WA.setCell ⟨w.heap.size+1+1,0,none⟩ (.int .i64 1))=w3 at kw lr lo⊢
 have KW:=κ kw
 have LR:=κ lr
 have LO:=κ lo
 clear kw lr lo
 obtain⟨y0,y1,y2,y3,y4,y5⟩:=LR.out.all
 have zy:=LR.out.z
 have ly:=LR.out.l
 obtain⟨q0,q1,q2,q3,q4,q5⟩:=LO.out.all
 have lq:=LO.out.l
 go_wp2_with fail
 clear y0 y1 y2 y3 y4 y5 zy ly q0 q1 q2 q3 q4 q5 lq
 have kw:=KW.out.jJ (1) (0) (0) (x.k) (nn) (0)
 have lr:=LR.out.put (1) (0) (0) (x.k) (nn) (0)
 rw [dX]
 generalize p6 _ _ _ _ _ _ _ _=W9 at kw lr⊢
 obtain⟨g0,g1,g2,g3,g4,g5⟩:=lr.all
 exact bodyPost_ret (v:= .agg #[.int .i64 (1), .int .i64 (0), .int .u32 (0), .int .u32 (x.k), .int .i64 (nn), .int .i64 (0)]) (by simp [results,Try.results67,go_sem,g0,g1,g2,g3,g4,g5]) rfl ⟨rfl,kw.a,kw.m,kw.u⟩
theorem UN (x:Cd) (w:World) (a:RR h K s B w) (m:RM P M w) (hK:K.p=P.q) (hp:∀i,P.has i→i<w.heap.size) (ds:∀i,P.has i→¬B.has h i) (ho:x.op=12):
  Calls Try.prog 67 #[.pointer (some ⟨h,0,none⟩), .agg #[.int .i64 x.op, .int .i64 x.d, .int .i64 x.a, .int .i64 x.b, .int .i64 x.c, .int .i64 x.n, .int .u32 x.k, .int .u32 x.x]] w fun e w'=>e= .returned (yt (some ⟨3,x.d,x.x,x.k,(wrap64 (s.done+x.n))⟩))∧RR h K s B w'∧RM P M w'∧ah (fun i=>B.has h i∨P.has i) w w':=by
 have e1:(x.op==1)=false:=by simp;omega
 have lK:(x.op==10)=false:=by simp;omega
 have qO:(x.op==11)=false:=by simp;omega
 have qP:(x.op==14)=false:=by simp;omega
 have jS:(x.op==12)=true:=by simp;omega
 have lu:(x.op==13)=false:=by simp;omega
 have e4:(x.op==4)=false:=by simp;omega
 have qQ:(x.op==15)=false:=by simp;omega
 have ny:(x.op==96)=false:=by simp;omega
 obtain⟨nn,iy⟩:∃n,(wrap64 (s.done+x.n))=n:=⟨_,rfl⟩
 try rw [iy]
 have mZ:wrap64 (s.done+x.n)=nn:=iy
 have kw:=((RW.new w x 108 a m a.lt hp ds).al (.cells #[.int .i64 0, .int .i64 0, .int .u32 0, .int .u32 0, .int .i64 0, .int .i64 0] 52)).al (.cells #[.int .i64 0, .int .i64 0, .int .u32 0, .int .u32 x.k, .int .i64 nn, .int .i64 0] 52)
 obtain⟨lr,lo⟩:=dM w x x.k nn
 have hh:h<w.heap.size:=a.x.l
 have rD:=κ hK
 have l2:=(fA w x).2.1.l
 have kd:=a.x.done
 have ke:=(((RW.new w x 108 a m a.lt hp ds).al (.cells #[.int .i64 0, .int .i64 0, .int .u32 0, .int .u32 0, .int .i64 0, .int .i64 0] 52)).al (.cells #[.int .i64 0, .int .i64 0, .int .u32 0, .int .u32 0, .int .i64 0, .int .i64 0] 52)).a.x.done
 clear iy a m hK ho
 go_enter Try.func67,Try.ntmps67
 go_upto_region 1 with fail
 go_region
 clear kd ke l2 mZ
 have kw:=kw.drew
 have lr:=lr.drew
 have lo:=lo.drew
 generalize(((w.alloc (.cells #[.int .i64 x.op, .int .i64 x.d, .int .i64 x.a, .int .i64 x.b, .int .i64 x.c, .int .i64 x.n, .int .u32 x.k, .int .u32 x.x] 108)).alloc (.cells #[.int .i64 0, .int .i64 0, .int .u32 0, .int .u32 0, .int .i64 0, .int .i64 0] 52)).alloc (.cells #[.int .i64 0, .int .i64 0, .int .u32 0, .int .u32 x.k, .int .i64 nn, .int .i64 0] 52)).drew=WA at kw lr lo⊢
 have x0:=kw.x.c0
 have lx:=kw.x.l
 have KW:=κ kw
 have LR:=κ lr
 have LO:=κ lo
 clear kw lr lo
 go_upto_region 28 with fail
 go_upto_region 29 with fail
 clear x0 lx
 have q0:=LO.out.c0
 have uN:=LO.out.z 0
 have lq:=LO.out.l
 go_upto_region 30 with fail
 clear q0 uN lq
 have kw:=KW.out.mv ((ah.refl (fun i=>w.heap.size<i) WA).setCell (q:=⟨w.heap.size+1+1,0,none⟩) (.inl (by show w.heap.size<w.heap.size+1+1;omega)) (.int .i64 3))
 have lr:=LR.out.upto ((ah.refl (fun i=>i=w.heap.size+1+1) WA).setCell (q:=⟨w.heap.size+1+1,0,none⟩) (.inl rfl) (.int .i64 3)) (by omega)
 have lo:=LO.out.pX (3)
 generalize(WA.setCell ⟨w.heap.size+1+1,0,none⟩ (.int .i64 3))=w3 at kw lr lo⊢
 have KW:=κ kw
 have LR:=κ lr
 have LO:=κ lo
 clear kw lr lo
 have x1:=KW.out.x.c1
 have x7:=KW.out.x.c7
 have lx:=KW.out.x.l
 have q1:=LO.out.c1
 have zq1:=LO.out.z 1
 have q2:=LO.out.c2
 have zq2:=LO.out.z 2
 have lq:=LO.out.l
 go_upto_region 31 with fail
 clear q1 zq1 q2 zq2 lq
 have kw:=KW.out.mv (((ah.refl (fun i=>w.heap.size<i) w3).setCell (q:=⟨w.heap.size+1+1,1,none⟩) (.inl (by show w.heap.size<w.heap.size+1+1;omega)) (.int .i64 x.d)).setCell (q:=⟨w.heap.size+1+1,2,none⟩) (.inl (by show w.heap.size<w.heap.size+1+1;omega)) (.int .u32 x.x))
 have lr:=LR.out.upto (((ah.refl (fun i=>i=w.heap.size+1+1) w3).setCell (q:=⟨w.heap.size+1+1,1,none⟩) (.inl rfl) (.int .i64 x.d)).setCell (q:=⟨w.heap.size+1+1,2,none⟩) (.inl rfl) (.int .u32 x.x)) (by omega)
 have lo:=LO.out.gI (x.d) (x.x)
 generalize((w3.setCell ⟨w.heap.size+1+1,1,none⟩ (.int .i64 x.d)).setCell ⟨w.heap.size+1+1,2,none⟩ (.int .u32 x.x))=w4 at kw lr lo⊢
 have KW:=κ kw
 have LR:=κ lr
 have LO:=κ lo
 clear kw lr lo
 clear x1 x7 lx
 obtain⟨y0,y1,y2,y3,y4,y5⟩:=LR.out.all
 have zy:=LR.out.z
 have ly:=LR.out.l
 obtain⟨q0,q1,q2,q3,q4,q5⟩:=LO.out.all
 have lq:=LO.out.l
 go_wp2_with fail
 clear y0 y1 y2 y3 y4 y5 zy ly q0 q1 q2 q3 q4 q5 lq
 have kw:=KW.out.jJ (3) (x.d) (x.x) (x.k) (nn) (0)
 have lr:=LR.out.put (3) (x.d) (x.x) (x.k) (nn) (0)
 rw [dX]
 generalize p6 _ _ _ _ _ _ _ _=W9 at kw lr⊢
 obtain⟨g0,g1,g2,g3,g4,g5⟩:=lr.all
 exact bodyPost_ret (v:= .agg #[.int .i64 (3), .int .i64 (x.d), .int .u32 (x.x), .int .u32 (x.k), .int .i64 (nn), .int .i64 (0)]) (by simp [results,Try.results67,go_sem,g0,g1,g2,g3,g4,g5]) rfl ⟨rfl,kw.a,kw.m,kw.u⟩
theorem UO (x:Cd) (ra:Nat) (w:World) (a:RR h K s B w) (m:RM P M w) (hK:K.p=P.q) (hp:∀i,P.has i→i<w.heap.size) (ds:∀i,P.has i→¬B.has h i) (ho:x.op=13) (ha:x.a=ra) (la:ra<16):
  Calls Try.prog 67 #[.pointer (some ⟨h,0,none⟩), .agg #[.int .i64 x.op, .int .i64 x.d, .int .i64 x.a, .int .i64 x.b, .int .i64 x.c, .int .i64 x.n, .int .u32 x.k, .int .u32 x.x]] w fun e w'=>e= .returned (yt (CQ (s.reg ra !=0) ⟨3,x.d,x.x,x.k,(wrap64 (s.done+x.n))⟩))∧RR h K (s.aA ra) B w'∧RM P M w'∧ah (fun i=>B.has h i∨P.has i) w w':=by
 have GA:Hid (∀w,RR h K s B w→Calls Try.prog 110 #[.pointer (some ⟨h,0,none⟩), .int .i64 ra] w fun e w'=>e= .returned (.int .u32 (s.reg ra))∧RR h K (s.aA ra) B w'∧ah (fun i=>i=h) w w'):=fun w a=>bJ ra w a la
 have O4:(s.aA ra).done=s.done:=rfl
 generalize s.aA ra=s1 at GA⊢
 clear O4
 generalize s.reg ra=va at GA⊢
 have HA:=κ ha
 clear ha
 obtain⟨c,hc⟩:∃c,(va !=0)=c:=⟨_,rfl⟩
 rw [hc]
 have e1:(x.op==1)=false:=by simp;omega
 have lK:(x.op==10)=false:=by simp;omega
 have qO:(x.op==11)=false:=by simp;omega
 have qP:(x.op==14)=false:=by simp;omega
 have jS:(x.op==12)=false:=by simp;omega
 have lu:(x.op==13)=true:=by simp;omega
 have e4:(x.op==4)=false:=by simp;omega
 have qQ:(x.op==15)=false:=by simp;omega
 have ny:(x.op==96)=false:=by simp;omega
 obtain⟨nn,iy⟩:∃n,(wrap64 (s.done+x.n))=n:=⟨_,rfl⟩
 try rw [iy]
 have mZ:wrap64 (s.done+x.n)=nn:=iy
 have kw:=((RW.new w x 108 a m a.lt hp ds).al (.cells #[.int .i64 0, .int .i64 0, .int .u32 0, .int .u32 0, .int .i64 0, .int .i64 0] 52)).al (.cells #[.int .i64 0, .int .i64 0, .int .u32 0, .int .u32 x.k, .int .i64 nn, .int .i64 0] 52)
 obtain⟨lr,lo⟩:=dM w x x.k nn
 have hh:h<w.heap.size:=a.x.l
 have rD:=κ hK
 have l2:=(fA w x).2.1.l
 have kd:=a.x.done
 have ke:=(((RW.new w x 108 a m a.lt hp ds).al (.cells #[.int .i64 0, .int .i64 0, .int .u32 0, .int .u32 0, .int .i64 0, .int .i64 0] 52)).al (.cells #[.int .i64 0, .int .i64 0, .int .u32 0, .int .u32 0, .int .i64 0, .int .i64 0] 52)).a.x.done
 clear iy a m hK ho
 go_enter Try.func67,Try.ntmps67
 go_upto_region 1 with fail
 go_region
 clear kd ke l2 mZ
 have kw:=kw.drew
 have lr:=lr.drew
 have lo:=lo.drew
 generalize(((w.alloc (.cells #[.int .i64 x.op, .int .i64 x.d, .int .i64 x.a, .int .i64 x.b, .int .i64 x.c, .int .i64 x.n, .int .u32 x.k, .int .u32 x.x] 108)).alloc (.cells #[.int .i64 0, .int .i64 0, .int .u32 0, .int .u32 0, .int .i64 0, .int .i64 0] 52)).alloc (.cells #[.int .i64 0, .int .i64 0, .int .u32 0, .int .u32 x.k, .int .i64 nn, .int .i64 0] 52)).drew=WA at kw lr lo⊢
 have x0:=kw.x.c0
 have lx:=kw.x.l
 have KW:=κ kw
 have LR:=κ lr
 have LO:=κ lo
 clear kw lr lo
 have x2:=KW.out.x.c2
 rw [HA.out] at x2
 cases c
 ·go_upto_region 55 with(go_at_call 110;(with_reducible refine(GA.out _ KW.out.a).mono ?_);rintro e w2 ⟨rfl,a2,u2⟩;have LR:=κ (LR.out.upto u2 (by omega));have LO:=κ (LO.out.upto u2 (by omega));have KW:=κ (KW.out.lF a2 u2);clear a2 u2)
  clear x2 x0 lx
  obtain⟨y0,y1,y2,y3,y4,y5⟩:=LR.out.all
  have zy:=LR.out.z
  have ly:=LR.out.l
  go_wp2_with fail
  clear y0 y1 y2 y3 y4 y5 zy ly
  have kw:=KW.out.jJ (0) (0) (0) (0) (0) (0)
  have lr:=LR.out.put (0) (0) (0) (0) (0) (0)
  rw [dX]
  generalize p6 _ _ _ _ _ _ _ _=W9 at kw lr⊢
  obtain⟨g0,g1,g2,g3,g4,g5⟩:=lr.all
  exact bodyPost_ret (v:= .agg #[.int .i64 (0), .int .i64 (0), .int .u32 (0), .int .u32 (0), .int .i64 (0), .int .i64 (0)]) (by simp [results,Try.results67,go_sem,g0,g1,g2,g3,g4,g5]) rfl ⟨rfl,kw.a,kw.m,kw.u⟩
 ·go_upto_region 29 with(go_at_call 110;(with_reducible refine(GA.out _ KW.out.a).mono ?_);rintro e w2 ⟨rfl,a2,u2⟩;have LR:=κ (LR.out.upto u2 (by omega));have LO:=κ (LO.out.upto u2 (by omega));have KW:=κ (KW.out.lF a2 u2);clear a2 u2)
  clear x2 x0 lx
  have q0:=LO.out.c0
  have uN:=LO.out.z 0
  have lq:=LO.out.l
  go_upto_region 30 with fail
  clear q0 uN lq
  have kw:=KW.out.mv ((ah.refl (fun i=>w.heap.size<i) w2).setCell (q:=⟨w.heap.size+1+1,0,none⟩) (.inl (by show w.heap.size<w.heap.size+1+1;omega)) (.int .i64 3))
  have lr:=LR.out.upto ((ah.refl (fun i=>i=w.heap.size+1+1) w2).setCell (q:=⟨w.heap.size+1+1,0,none⟩) (.inl rfl) (.int .i64 3)) (by omega)
  have lo:=LO.out.pX (3)
  generalize(w2.setCell ⟨w.heap.size+1+1,0,none⟩ (.int .i64 3))=w3 at kw lr lo⊢
  have KW:=κ kw
  have LR:=κ lr
  have LO:=κ lo
  clear kw lr lo
  have x1:=KW.out.x.c1
  have x7:=KW.out.x.c7
  have lx:=KW.out.x.l
  have q1:=LO.out.c1
  have zq1:=LO.out.z 1
  have q2:=LO.out.c2
  have zq2:=LO.out.z 2
  have lq:=LO.out.l
  go_upto_region 31 with fail
  clear q1 zq1 q2 zq2 lq
  have kw:=KW.out.mv (((ah.refl (fun i=>w.heap.size<i) w3).setCell (q:=⟨w.heap.size+1+1,1,none⟩) (.inl (by show w.heap.size<w.heap.size+1+1;omega)) (.int .i64 x.d)).setCell (q:=⟨w.heap.size+1+1,2,none⟩) (.inl (by show w.heap.size<w.heap.size+1+1;omega)) (.int .u32 x.x))
  have lr:=LR.out.upto (((ah.refl (fun i=>i=w.heap.size+1+1) w3).setCell (q:=⟨w.heap.size+1+1,1,none⟩) (.inl rfl) (.int .i64 x.d)).setCell (q:=⟨w.heap.size+1+1,2,none⟩) (.inl rfl) (.int .u32 x.x)) (by omega)
  have lo:=LO.out.gI (x.d) (x.x)
  generalize((w3.setCell ⟨w.heap.size+1+1,1,none⟩ (.int .i64 x.d)).setCell ⟨w.heap.size+1+1,2,none⟩ (.int .u32 x.x))=w4 at kw lr lo⊢
  have KW:=κ kw
  have LR:=κ lr
  have LO:=κ lo
  clear kw lr lo
  clear x1 x7 lx
  obtain⟨y0,y1,y2,y3,y4,y5⟩:=LR.out.all
  have zy:=LR.out.z
  have ly:=LR.out.l
  obtain⟨q0,q1,q2,q3,q4,q5⟩:=LO.out.all
  have lq:=LO.out.l
  go_wp2_with fail
  clear y0 y1 y2 y3 y4 y5 zy ly q0 q1 q2 q3 q4 q5 lq
  have kw:=KW.out.jJ (3) (x.d) (x.x) (x.k) (nn) (0)
  have lr:=LR.out.put (3) (x.d) (x.x) (x.k) (nn) (0)
  rw [dX]
  generalize p6 _ _ _ _ _ _ _ _=W9 at kw lr⊢
  obtain⟨g0,g1,g2,g3,g4,g5⟩:=lr.all
  exact bodyPost_ret (v:= .agg #[.int .i64 (3), .int .i64 (x.d), .int .u32 (x.x), .int .u32 (x.k), .int .i64 (nn), .int .i64 (0)]) (by simp [results,Try.results67,go_sem,g0,g1,g2,g3,g4,g5]) rfl ⟨rfl,kw.a,kw.m,kw.u⟩
theorem wB (x:Cd) (kk xq:Int) (s':Rm) (M':MM) (w:World) (a:RR h K s B w) (m:RM P M w) (hK:K.p=P.q) (hp:∀i,P.has i→i<w.heap.size) (ds:∀i,P.has i→¬B.has h i) (ho:80≤x.op∧x.op≤90) (hCM:∀w,RR h K s B w→RM P M w→(∀i,P.has i→i<w.heap.size)→Calls Try.prog 111 #[.pointer (some ⟨h,0,none⟩), .agg #[.int .i64 x.op, .int .i64 x.d, .int .i64 x.a, .int .i64 x.b, .int .i64 x.c, .int .i64 x.n, .int .u32 x.k, .int .u32 x.x]] w fun e w'=>e= .returned (.agg #[.int .i64 kk, .int .u32 xq])∧RR h K s' B w'∧RM P M' w'∧ah (fun i=>B.has h i∨P.has i) w w'):
  Calls Try.prog 67 #[.pointer (some ⟨h,0,none⟩), .agg #[.int .i64 x.op, .int .i64 x.d, .int .i64 x.a, .int .i64 x.b, .int .i64 x.c, .int .i64 x.n, .int .u32 x.k, .int .u32 x.x]] w fun e w'=>e= .returned (yt (CQ (kk !=0) ⟨3,kk,xq,x.k,(wrap64 (s.done+x.n))⟩))∧RR h K s' B w'∧RM P M' w'∧ah (fun i=>B.has h i∨P.has i) w w':=by
 have CM:=κ hCM
 clear hCM
 obtain⟨c,hc⟩:∃c,(kk !=0)=c:=⟨_,rfl⟩
 rw [hc]
 have e1:(x.op==1)=false:=by simp;omega
 have lK:(x.op==10)=false:=by simp;omega
 have qO:(x.op==11)=false:=by simp;omega
 have qP:(x.op==14)=false:=by simp;omega
 have jS:(x.op==12)=false:=by simp;omega
 have lu:(x.op==13)=false:=by simp;omega
 have e4:(x.op==4)=false:=by simp;omega
 have qQ:(x.op==15)=false:=by simp;omega
 have ny:(x.op==96)=false:=by simp;omega
 have r80:decide (80≤x.op)=true:=by simp;omega
 have r90:decide (x.op≤90)=true:=by simp;omega
 obtain⟨nn,iy⟩:∃n,(wrap64 (s.done+x.n))=n:=⟨_,rfl⟩
 try rw [iy]
 have mZ:wrap64 (s.done+x.n)=nn:=iy
 have kw:=((RW.new w x 108 a m a.lt hp ds).al (.cells #[.int .i64 0, .int .i64 0, .int .u32 0, .int .u32 0, .int .i64 0, .int .i64 0] 52)).al (.cells #[.int .i64 0, .int .i64 0, .int .u32 0, .int .u32 x.k, .int .i64 nn, .int .i64 0] 52)
 obtain⟨lr,lo⟩:=dM w x x.k nn
 have hh:h<w.heap.size:=a.x.l
 have rD:=κ hK
 have l2:=(fA w x).2.1.l
 have kd:=a.x.done
 have ke:=(((RW.new w x 108 a m a.lt hp ds).al (.cells #[.int .i64 0, .int .i64 0, .int .u32 0, .int .u32 0, .int .i64 0, .int .i64 0] 52)).al (.cells #[.int .i64 0, .int .i64 0, .int .u32 0, .int .u32 0, .int .i64 0, .int .i64 0] 52)).a.x.done
 clear iy a m hK ho
 go_enter Try.func67,Try.ntmps67
 go_upto_region 1 with fail
 go_region
 clear kd ke l2 mZ
 have kw:=kw.drew
 have lr:=lr.drew
 have lo:=lo.drew
 generalize(((w.alloc (.cells #[.int .i64 x.op, .int .i64 x.d, .int .i64 x.a, .int .i64 x.b, .int .i64 x.c, .int .i64 x.n, .int .u32 x.k, .int .u32 x.x] 108)).alloc (.cells #[.int .i64 0, .int .i64 0, .int .u32 0, .int .u32 0, .int .i64 0, .int .i64 0] 52)).alloc (.cells #[.int .i64 0, .int .i64 0, .int .u32 0, .int .u32 x.k, .int .i64 nn, .int .i64 0] 52)).drew=WA at kw lr lo⊢
 have x0:=kw.x.c0
 have lx:=kw.x.l
 have KW:=κ kw
 have LR:=κ lr
 have LO:=κ lo
 clear kw lr lo
 have x1:=KW.out.x.c1
 have x2:=KW.out.x.c2
 have x3:=KW.out.x.c3
 have x4:=KW.out.x.c4
 have x5:=KW.out.x.c5
 have x6:=KW.out.x.c6
 have x7:=KW.out.x.c7
 go_upto_region 51 with(go_at_call 111;(with_reducible refine(CM.out _ KW.out.a KW.out.m (fun i hi=>by have:=KW.out.hp i hi;omega)).mono ?_);rintro e w2 ⟨rfl,a2,m2,u2⟩)
 have hlA:w.heap.size<WA.heap.size:=lx
 clear x0 x1 x2 x3 x4 x5 x6 x7 lx
 have nb:¬ (B.has h (w.heap.size+1)∨P.has (w.heap.size+1)):=fun e=>e.elim (fun e=>by have:=KW.out.hb _ e;omega) (fun e=>by have:=KW.out.hp _ e;omega)
 have nb2:¬ (B.has h (w.heap.size+1+1)∨P.has (w.heap.size+1+1)):=fun e=>e.elim (fun e=>by have:=KW.out.hb _ e;omega) (fun e=>by have:=KW.out.hp _ e;omega)
 have Wh:¬ (B.has h w.heap.size∨P.has w.heap.size):=fun e=>e.elim (fun e=>by have:=KW.out.hb _ e;omega) (fun e=>by have:=KW.out.hp _ e;omega)
 have kw:RW w x h K s' B P M' w2:=⟨KW.out.x.upto u2 Wh,a2,m2,KW.out.u.trans u2,KW.out.hb,KW.out.hp,KW.out.ds⟩
 have lr:=LR.out.upto u2 nb
 have lo:=LO.out.upto u2 nb2
 have hl2:(w.heap.size+1+1) <w2.heap.size:=lo.l
 have KW:=κ (kw.al (.cells #[.int .i64 kk, .int .u32 xq] 46))
 have KD:=κ (KB.new w2 kk xq 46)
 have LR:=κ (lr.upto ((ah.refl (fun _=>False) w2).alloc (.cells #[.int .i64 kk, .int .u32 xq] 46)) id)
 have LO:=κ (lo.upto ((ah.refl (fun _=>False) w2).alloc (.cells #[.int .i64 kk, .int .u32 xq] 46)) id)
 clear nb nb2 Wh kw lr lo a2 m2 u2
 generalize w2.alloc (.cells #[.int .i64 kk, .int .u32 xq] 46)=w3 at KW KD LR LO⊢
 generalize w2.heap.size=gd at KD hl2⊢
 have k0:=KD.out.c0
 have lk:=KD.out.l
 cases c
 ·clear hl2 hlA
  go_upto_region 55 with fail
  clear k0 lk
  obtain⟨y0,y1,y2,y3,y4,y5⟩:=LR.out.all
  have zy:=LR.out.z
  have ly:=LR.out.l
  go_wp2_with fail
  clear y0 y1 y2 y3 y4 y5 zy ly
  have kw:=KW.out.jJ (0) (0) (0) (0) (0) (0)
  have lr:=LR.out.put (0) (0) (0) (0) (0) (0)
  rw [dX]
  generalize p6 _ _ _ _ _ _ _ _=W9 at kw lr⊢
  obtain⟨g0,g1,g2,g3,g4,g5⟩:=lr.all
  exact bodyPost_ret (v:= .agg #[.int .i64 (0), .int .i64 (0), .int .u32 (0), .int .u32 (0), .int .i64 (0), .int .i64 (0)]) (by simp [results,Try.results67,go_sem,g0,g1,g2,g3,g4,g5]) rfl ⟨rfl,kw.a,kw.m,kw.u⟩
 ·go_upto_region 52 with fail
  clear k0 lk
  have q0:=LO.out.c0
  have uN:=LO.out.z 0
  have lq:=LO.out.l
  go_upto_region 53 with fail
  clear q0 uN lq
  have kw:=KW.out.mv ((ah.refl (fun i=>w.heap.size<i) w3).setCell (q:=⟨w.heap.size+1+1,0,none⟩) (.inl (by show w.heap.size<w.heap.size+1+1;omega)) (.int .i64 3))
  have lr:=LR.out.upto ((ah.refl (fun i=>i=w.heap.size+1+1) w3).setCell (q:=⟨w.heap.size+1+1,0,none⟩) (.inl rfl) (.int .i64 3)) (by omega)
  have lo:=LO.out.pX (3)
  have kd:=KD.out.upto ((ah.refl (fun i=>i=w.heap.size+1+1) w3).setCell (q:=⟨w.heap.size+1+1,0,none⟩) (.inl rfl) (.int .i64 3)) (by omega)
  generalize(w3.setCell ⟨w.heap.size+1+1,0,none⟩ (.int .i64 3))=w4 at kw lr lo kd⊢
  have KD:=κ kd
  clear kd
  have KW:=κ kw
  have LR:=κ lr
  have LO:=κ lo
  clear kw lr lo
  have k0:=KD.out.c0
  have k1:=KD.out.c1
  have lk:=KD.out.l
  have q1:=LO.out.c1
  have zq1:=LO.out.z 1
  have q2:=LO.out.c2
  have zq2:=LO.out.z 2
  have lq:=LO.out.l
  go_upto_region 54 with fail
  clear q1 zq1 q2 zq2 lq
  have kw:=KW.out.mv (((ah.refl (fun i=>w.heap.size<i) w4).setCell (q:=⟨w.heap.size+1+1,1,none⟩) (.inl (by show w.heap.size<w.heap.size+1+1;omega)) (.int .i64 kk)).setCell (q:=⟨w.heap.size+1+1,2,none⟩) (.inl (by show w.heap.size<w.heap.size+1+1;omega)) (.int .u32 xq))
  have lr:=LR.out.upto (((ah.refl (fun i=>i=w.heap.size+1+1) w4).setCell (q:=⟨w.heap.size+1+1,1,none⟩) (.inl rfl) (.int .i64 kk)).setCell (q:=⟨w.heap.size+1+1,2,none⟩) (.inl rfl) (.int .u32 xq)) (by omega)
  have lo:=LO.out.gI (kk) (xq)
  generalize((w4.setCell ⟨w.heap.size+1+1,1,none⟩ (.int .i64 kk)).setCell ⟨w.heap.size+1+1,2,none⟩ (.int .u32 xq))=w5 at kw lr lo⊢
  have KW:=κ kw
  have LR:=κ lr
  have LO:=κ lo
  clear kw lr lo
  clear k0 k1 lk
  obtain⟨y0,y1,y2,y3,y4,y5⟩:=LR.out.all
  have zy:=LR.out.z
  have ly:=LR.out.l
  obtain⟨q0,q1,q2,q3,q4,q5⟩:=LO.out.all
  have lq:=LO.out.l
  go_wp2_with fail
  clear y0 y1 y2 y3 y4 y5 zy ly q0 q1 q2 q3 q4 q5 lq
  have kw:=KW.out.jJ (3) (kk) (xq) (x.k) (nn) (0)
  have lr:=LR.out.put (3) (kk) (xq) (x.k) (nn) (0)
  rw [dX]
  generalize p6 _ _ _ _ _ _ _ _=W9 at kw lr⊢
  obtain⟨g0,g1,g2,g3,g4,g5⟩:=lr.all
  exact bodyPost_ret (v:= .agg #[.int .i64 (3), .int .i64 (kk), .int .u32 (xq), .int .u32 (x.k), .int .i64 (nn), .int .i64 (0)]) (by simp [results,Try.results67,go_sem,g0,g1,g2,g3,g4,g5]) rfl ⟨rfl,kw.a,kw.m,kw.u⟩
theorem fU (x:Cd) (s':Rm) (w:World) (a:RR h K s B w) (m:RM P M w) (hK:K.p=P.q) (hp:∀i,P.has i→i<w.heap.size) (ds:∀i,P.has i→¬B.has h i) (ho:(x.op=2∨x.op=3∨x.op=5∨(6≤x.op∧x.op<10)∨(16≤x.op∧x.op<80)∨x.op=97)) (hCI:∀w,RR h K s B w→RM P M w→(∀i,P.has i→i<w.heap.size)→Calls Try.prog 112 #[.pointer (some ⟨h,0,none⟩), .agg #[.int .i64 x.op, .int .i64 x.d, .int .i64 x.a, .int .i64 x.b, .int .i64 x.c, .int .i64 x.n, .int .u32 x.k, .int .u32 x.x]] w fun e w'=>e= .returned (.tuple #[])∧RR h K s' B w'∧RM P M w'∧ah (fun i=>B.has h i∨P.has i) w w'):
  Calls Try.prog 67 #[.pointer (some ⟨h,0,none⟩), .agg #[.int .i64 x.op, .int .i64 x.d, .int .i64 x.a, .int .i64 x.b, .int .i64 x.c, .int .i64 x.n, .int .u32 x.k, .int .u32 x.x]] w fun e w'=>e= .returned (yt none)∧RR h K s' B w'∧RM P M w'∧ah (fun i=>B.has h i∨P.has i) w w':=by
 have CI:=κ hCI
 clear hCI
 obtain⟨bm,hbm⟩:∃b,(decide (80≤x.op))=b:=⟨_,rfl⟩
 have r90:bm=true→decide (x.op≤90)=false:=fun e=>by rw [e] at hbm;simp at hbm⊢;omega
 have e1:(x.op==1)=false:=by simp;omega
 have lK:(x.op==10)=false:=by simp;omega
 have qO:(x.op==11)=false:=by simp;omega
 have qP:(x.op==14)=false:=by simp;omega
 have jS:(x.op==12)=false:=by simp;omega
 have lu:(x.op==13)=false:=by simp;omega
 have e4:(x.op==4)=false:=by simp;omega
 have qQ:(x.op==15)=false:=by simp;omega
 have ny:(x.op==96)=false:=by simp;omega
 obtain⟨nn,iy⟩:∃n,(wrap64 (s.done+x.n))=n:=⟨_,rfl⟩
 try rw [iy]
 have mZ:wrap64 (s.done+x.n)=nn:=iy
 have kw:=((RW.new w x 108 a m a.lt hp ds).al (.cells #[.int .i64 0, .int .i64 0, .int .u32 0, .int .u32 0, .int .i64 0, .int .i64 0] 52)).al (.cells #[.int .i64 0, .int .i64 0, .int .u32 0, .int .u32 x.k, .int .i64 nn, .int .i64 0] 52)
 obtain⟨lr,lo⟩:=dM w x x.k nn
 have hh:h<w.heap.size:=a.x.l
 have rD:=κ hK
 have l2:=(fA w x).2.1.l
 have kd:=a.x.done
 have ke:=(((RW.new w x 108 a m a.lt hp ds).al (.cells #[.int .i64 0, .int .i64 0, .int .u32 0, .int .u32 0, .int .i64 0, .int .i64 0] 52)).al (.cells #[.int .i64 0, .int .i64 0, .int .u32 0, .int .u32 0, .int .i64 0, .int .i64 0] 52)).a.x.done
 clear iy a m hK ho
 go_enter Try.func67,Try.ntmps67
 go_upto_region 1 with fail
 go_region
 clear kd ke l2 mZ
 have kw:=kw.drew
 have lr:=lr.drew
 have lo:=lo.drew
 generalize(((w.alloc (.cells #[.int .i64 x.op, .int .i64 x.d, .int .i64 x.a, .int .i64 x.b, .int .i64 x.c, .int .i64 x.n, .int .u32 x.k, .int .u32 x.x] 108)).alloc (.cells #[.int .i64 0, .int .i64 0, .int .u32 0, .int .u32 0, .int .i64 0, .int .i64 0] 52)).alloc (.cells #[.int .i64 0, .int .i64 0, .int .u32 0, .int .u32 x.k, .int .i64 nn, .int .i64 0] 52)).drew=WA at kw lr lo⊢
 have x0:=kw.x.c0
 have lx:=kw.x.l
 have KW:=κ kw
 have LR:=κ lr
 have LO:=κ lo
 clear kw lr lo
 cases bm
 ·have x1:=KW.out.x.c1
  have x2:=KW.out.x.c2
  have x3:=KW.out.x.c3
  have x4:=KW.out.x.c4
  have x5:=KW.out.x.c5
  have x6:=KW.out.x.c6
  have x7:=KW.out.x.c7
  go_upto_region 55 with(go_at_call 112;(with_reducible refine(CI.out _ KW.out.a KW.out.m (fun i hi=>by have:=KW.out.hp i hi;omega)).mono ?_);rintro e w2 ⟨rfl,a2,m2,u2⟩)
  have hlA:w.heap.size<WA.heap.size:=lx
  clear x0 x1 x2 x3 x4 x5 x6 x7 lx
  have nb:¬ (B.has h (w.heap.size+1)∨P.has (w.heap.size+1)):=fun e=>e.elim (fun e=>by have:=KW.out.hb _ e;omega) (fun e=>by have:=KW.out.hp _ e;omega)
  have Wh:¬ (B.has h w.heap.size∨P.has w.heap.size):=fun e=>e.elim (fun e=>by have:=KW.out.hb _ e;omega) (fun e=>by have:=KW.out.hp _ e;omega)
  have kw:RW w x h K s' B P M w2:=⟨KW.out.x.upto u2 Wh,a2,m2,KW.out.u.trans u2,KW.out.hb,KW.out.hp,KW.out.ds⟩
  have lr:=LR.out.upto u2 nb
  have KW:=κ kw
  have LR:=κ lr
  clear nb Wh kw lr a2 m2 u2 LO
  obtain⟨y0,y1,y2,y3,y4,y5⟩:=LR.out.all
  have zy:=LR.out.z
  have ly:=LR.out.l
  go_wp2_with fail
  clear y0 y1 y2 y3 y4 y5 zy ly
  have kw:=KW.out.jJ (0) (0) (0) (0) (0) (0)
  have lr:=LR.out.put (0) (0) (0) (0) (0) (0)
  rw [dX]
  generalize p6 _ _ _ _ _ _ _ _=W9 at kw lr⊢
  obtain⟨g0,g1,g2,g3,g4,g5⟩:=lr.all
  exact bodyPost_ret (v:= .agg #[.int .i64 (0), .int .i64 (0), .int .u32 (0), .int .u32 (0), .int .i64 (0), .int .i64 (0)]) (by simp [results,Try.results67,go_sem,g0,g1,g2,g3,g4,g5]) rfl ⟨rfl,kw.a,kw.m,kw.u⟩
 ·have r90:=r90 rfl
  have x1:=KW.out.x.c1
  have x2:=KW.out.x.c2
  have x3:=KW.out.x.c3
  have x4:=KW.out.x.c4
  have x5:=KW.out.x.c5
  have x6:=KW.out.x.c6
  have x7:=KW.out.x.c7
  go_upto_region 55 with(go_at_call 112;(with_reducible refine(CI.out _ KW.out.a KW.out.m (fun i hi=>by have:=KW.out.hp i hi;omega)).mono ?_);rintro e w2 ⟨rfl,a2,m2,u2⟩)
  have hlA:w.heap.size<WA.heap.size:=lx
  clear x0 x1 x2 x3 x4 x5 x6 x7 lx
  have nb:¬ (B.has h (w.heap.size+1)∨P.has (w.heap.size+1)):=fun e=>e.elim (fun e=>by have:=KW.out.hb _ e;omega) (fun e=>by have:=KW.out.hp _ e;omega)
  have Wh:¬ (B.has h w.heap.size∨P.has w.heap.size):=fun e=>e.elim (fun e=>by have:=KW.out.hb _ e;omega) (fun e=>by have:=KW.out.hp _ e;omega)
  have kw:RW w x h K s' B P M w2:=⟨KW.out.x.upto u2 Wh,a2,m2,KW.out.u.trans u2,KW.out.hb,KW.out.hp,KW.out.ds⟩
  have lr:=LR.out.upto u2 nb
  have KW:=κ kw
  have LR:=κ lr
  clear nb Wh kw lr a2 m2 u2 LO
  obtain⟨y0,y1,y2,y3,y4,y5⟩:=LR.out.all
  have zy:=LR.out.z
  have ly:=LR.out.l
  go_wp2_with fail
  clear y0 y1 y2 y3 y4 y5 zy ly
  have kw:=KW.out.jJ (0) (0) (0) (0) (0) (0)
  have lr:=LR.out.put (0) (0) (0) (0) (0) (0)
  rw [dX]
  generalize p6 _ _ _ _ _ _ _ _=W9 at kw lr⊢
  obtain⟨g0,g1,g2,g3,g4,g5⟩:=lr.all
  exact bodyPost_ret (v:= .agg #[.int .i64 (0), .int .i64 (0), .int .u32 (0), .int .u32 (0), .int .i64 (0), .int .i64 (0)]) (by simp [results,Try.results67,go_sem,g0,g1,g2,g3,g4,g5]) rfl ⟨rfl,kw.a,kw.m,kw.u⟩
theorem UQ (x:Cd) (w:World) (a:RR h K s B w) (m:RM P M w) (hK:K.p=P.q) (hp:∀i,P.has i→i<w.heap.size) (ds:∀i,P.has i→¬B.has h i) (ho:x.op=15) (hs:Sl K.us K.ao K.cap w) (hw:vY K.us) (qH:∀g,K.ao=some g→0<K.us.length→¬ (B.has h g.block∨P.has g.block)) (wL:0≤x.k) (Ap:x.k<4294967296):
  Calls Try.prog 67 #[.pointer (some ⟨h,0,none⟩), .agg #[.int .i64 x.op, .int .i64 x.d, .int .i64 x.a, .int .i64 x.b, .int .i64 x.c, .int .i64 x.n, .int .u32 x.k, .int .u32 x.x]] w fun e w'=>e= .returned (yt none)∧RR h K (s.goes K.us x) B w'∧RM P M w'∧ah (fun i=>B.has h i∨P.has i) w w':=by
 have CV:=κ (fun W (u:ah (fun i=>B.has h i∨P.has i) w W)=>Sl.upto hs u qH)
 have EN:=(fun w (a:kN h K s B.qs w) hs=>ou (K:=K) x.k w a hs hw)
 obtain⟨sr,yY⟩:∃sr,s.goes K.us x=sr:=⟨_,rfl⟩
 rw [yY]
 have O5:=κ yY
 clear yY
 have e1:(x.op==1)=false:=by simp;omega
 have lK:(x.op==10)=false:=by simp;omega
 have qO:(x.op==11)=false:=by simp;omega
 have qP:(x.op==14)=false:=by simp;omega
 have jS:(x.op==12)=false:=by simp;omega
 have lu:(x.op==13)=false:=by simp;omega
 have e4:(x.op==4)=false:=by simp;omega
 have qQ:(x.op==15)=true:=by simp;omega
 have ny:(x.op==96)=false:=by simp;omega
 obtain⟨nn,iy⟩:∃n,(wrap64 (s.done+x.n))=n:=⟨_,rfl⟩
 try rw [iy]
 have NN:=κ iy
 have mZ:wrap64 (s.done+x.n)=nn:=iy
 have kw:=((RW.new w x 108 a m a.lt hp ds).al (.cells #[.int .i64 0, .int .i64 0, .int .u32 0, .int .u32 0, .int .i64 0, .int .i64 0] 52)).al (.cells #[.int .i64 0, .int .i64 0, .int .u32 0, .int .u32 x.k, .int .i64 nn, .int .i64 0] 52)
 obtain⟨lr,lo⟩:=dM w x x.k nn
 have hh:h<w.heap.size:=a.x.l
 have rD:=κ hK
 have l2:=(fA w x).2.1.l
 have kd:=a.x.done
 have ke:=(((RW.new w x 108 a m a.lt hp ds).al (.cells #[.int .i64 0, .int .i64 0, .int .u32 0, .int .u32 0, .int .i64 0, .int .i64 0] 52)).al (.cells #[.int .i64 0, .int .i64 0, .int .u32 0, .int .u32 0, .int .i64 0, .int .i64 0] 52)).a.x.done
 clear iy a m hK ho hs qH
 go_enter Try.func67,Try.ntmps67
 go_upto_region 1 with fail
 go_region
 clear kd ke l2 mZ
 have kw:=kw.drew
 have lr:=lr.drew
 have lo:=lo.drew
 generalize(((w.alloc (.cells #[.int .i64 x.op, .int .i64 x.d, .int .i64 x.a, .int .i64 x.b, .int .i64 x.c, .int .i64 x.n, .int .u32 x.k, .int .u32 x.x] 108)).alloc (.cells #[.int .i64 0, .int .i64 0, .int .u32 0, .int .u32 0, .int .i64 0, .int .i64 0] 52)).alloc (.cells #[.int .i64 0, .int .i64 0, .int .u32 0, .int .u32 x.k, .int .i64 nn, .int .i64 0] 52)).drew=WA at kw lr lo⊢
 have x0:=kw.x.c0
 have lx:=kw.x.l
 have KW:=κ kw
 have LR:=κ lr
 have LO:=κ lo
 clear kw lr lo
 have x6:=KW.out.x.c6
 have lx:=KW.out.x.l
 obtain⟨eb,EL⟩:∃eb,zk K.us x.k=eb:=⟨_,rfl⟩
 rw [EL] at EN
 have UW:=κ EL
 have EN:=κ EN
 clear EL
 cases eb
 ·go_upto_region 46 with(go_at_call 66;(with_reducible refine(EN.out _ KW.out.a.x (CV.out _ KW.out.u)).mono ?_);rintro e wE ⟨rfl,bt⟩;have ut:=ah.aG (S:=fun _=>False) bt;have KW:=κ (KW.out.quiet ut);have LR:=κ (LR.out.upto ut id);have LO:=κ (LO.out.upto ut id);clear bt ut)
  clear x0 x6 lx
  have b23:=KW.out.a.x.st
  have YZ:=KW.out.a.x.z 23
  have lh:=KW.out.a.x.l
  go_upto_region 47 with fail
  clear b23 YZ lh
  have ub:=(ah.refl (fun i=>i=h) wE).setCell (q:=⟨h,23,none⟩) (.inl rfl) (.bool true)
  have kw:=KW.out.lF (KW.out.a.kM true) ub
  have lr:=LR.out.upto ub (by omega)
  have lo:=LO.out.upto ub (by omega)
  clear ub
  generalize wE.setCell ⟨h,23,none⟩ (.bool true)=w6 at kw lr lo⊢
  have KW:=κ kw
  have LR:=κ lr
  have LO:=κ lo
  clear kw lr lo
  have x5:=KW.out.x.c5
  have lx:=KW.out.x.l
  have mZ:wrap64 (s.done+x.n)=nn:=NN.out
  have qX:=KW.out.a.x.done
  have yZ:=KW.out.a.x.z 16
  have lh:=KW.out.a.x.l
  go_region
  go_upto_region 48 with fail
  clear qX yZ lh
  have ub:=(ah.refl (fun i=>i=h) w6).setCell (q:=⟨h,16,none⟩) (.inl rfl) (.int .i64 nn)
  have kw:=KW.out.lF (KW.out.a.kV nn) ub
  have lr:=LR.out.upto ub (by omega)
  have lo:=LO.out.upto ub (by omega)
  clear ub
  have kw:=kw.drew
  have lr:=lr.drew
  have lo:=lo.drew
  generalize(w6.setCell ⟨h,16,none⟩ (.int .i64 nn)).drew=w7 at kw lr lo⊢
  have KW:=κ kw
  have LR:=κ lr
  have LO:=κ lo
  clear kw lr lo
  clear x5 lx mZ
  have x6:=KW.out.x.c6
  have lx:=KW.out.x.l
  have b1:=KW.out.a.x.at_
  have UY:=KW.out.a.x.z 1
  have lh:=KW.out.a.x.l
  go_upto_region 55 with fail
  clear b1 UY lh
  have ub:=(ah.refl (fun i=>i=h) w7).setCell (q:=⟨h,1,none⟩) (.inl rfl) (.int .i64 x.k)
  have kw:=KW.out.lF (KW.out.a.setAt x.k) ub
  have lr:=LR.out.upto ub (by omega)
  have lo:=LO.out.upto ub (by omega)
  clear ub
  generalize w7.setCell ⟨h,1,none⟩ (.int .i64 x.k)=w8 at kw lr lo⊢
  have KW:=κ kw
  have LR:=κ lr
  have LO:=κ lo
  clear kw lr lo
  clear x6 lx
  obtain⟨y0,y1,y2,y3,y4,y5⟩:=LR.out.all
  have zy:=LR.out.z
  have ly:=LR.out.l
  go_wp2_with fail
  clear y0 y1 y2 y3 y4 y5 zy ly
  have kw:=KW.out.jJ (0) (0) (0) (0) (0) (0)
  have lr:=LR.out.put (0) (0) (0) (0) (0) (0)
  rw [dX]
  generalize p6 _ _ _ _ _ _ _ _=W9 at kw lr⊢
  obtain⟨g0,g1,g2,g3,g4,g5⟩:=lr.all
  exact bodyPost_ret (v:= .agg #[.int .i64 (0), .int .i64 (0), .int .u32 (0), .int .u32 (0), .int .i64 (0), .int .i64 (0)]) (by simp [results,Try.results67,go_sem,g0,g1,g2,g3,g4,g5]) rfl ⟨rfl,by rw [←O5.out];unfold Rm.goes;rw [UW.out,NN.out];first | (rw [Bool.not_false,Bool.or_true];exact kw.a) | (rw [Bool.not_true,Bool.or_false];exact kw.a),kw.m,kw.u⟩
 ·go_upto_region 47 with(go_at_call 66;(with_reducible refine(EN.out _ KW.out.a.x (CV.out _ KW.out.u)).mono ?_);rintro e wE ⟨rfl,bt⟩;have ut:=ah.aG (S:=fun _=>False) bt;have KW:=κ (KW.out.quiet ut);have LR:=κ (LR.out.upto ut id);have LO:=κ (LO.out.upto ut id);clear bt ut)
  clear x0 x6 lx
  have x5:=KW.out.x.c5
  have lx:=KW.out.x.l
  have mZ:wrap64 (s.done+x.n)=nn:=NN.out
  have qX:=KW.out.a.x.done
  have yZ:=KW.out.a.x.z 16
  have lh:=KW.out.a.x.l
  go_region
  go_upto_region 48 with fail
  clear qX yZ lh
  have ub:=(ah.refl (fun i=>i=h) wE).setCell (q:=⟨h,16,none⟩) (.inl rfl) (.int .i64 nn)
  have kw:=KW.out.lF (KW.out.a.kV nn) ub
  have lr:=LR.out.upto ub (by omega)
  have lo:=LO.out.upto ub (by omega)
  clear ub
  have kw:=kw.drew
  have lr:=lr.drew
  have lo:=lo.drew
  generalize(wE.setCell ⟨h,16,none⟩ (.int .i64 nn)).drew=w7 at kw lr lo⊢
  have KW:=κ kw
  have LR:=κ lr
  have LO:=κ lo
  clear kw lr lo
  clear x5 lx mZ
  have x6:=KW.out.x.c6
  have lx:=KW.out.x.l
  have b1:=KW.out.a.x.at_
  have UY:=KW.out.a.x.z 1
  have lh:=KW.out.a.x.l
  go_upto_region 55 with fail
  clear b1 UY lh
  have ub:=(ah.refl (fun i=>i=h) w7).setCell (q:=⟨h,1,none⟩) (.inl rfl) (.int .i64 x.k)
  have kw:=KW.out.lF (KW.out.a.setAt x.k) ub
  have lr:=LR.out.upto ub (by omega)
  have lo:=LO.out.upto ub (by omega)
  clear ub
  generalize w7.setCell ⟨h,1,none⟩ (.int .i64 x.k)=w8 at kw lr lo⊢
  have KW:=κ kw
  have LR:=κ lr
  have LO:=κ lo
  clear kw lr lo
  clear x6 lx
  obtain⟨y0,y1,y2,y3,y4,y5⟩:=LR.out.all
  have zy:=LR.out.z
  have ly:=LR.out.l
  go_wp2_with fail
  clear y0 y1 y2 y3 y4 y5 zy ly
  have kw:=KW.out.jJ (0) (0) (0) (0) (0) (0)
  have lr:=LR.out.put (0) (0) (0) (0) (0) (0)
  rw [dX]
  generalize p6 _ _ _ _ _ _ _ _=W9 at kw lr⊢
  obtain⟨g0,g1,g2,g3,g4,g5⟩:=lr.all
  exact bodyPost_ret (v:= .agg #[.int .i64 (0), .int .i64 (0), .int .u32 (0), .int .u32 (0), .int .i64 (0), .int .i64 (0)]) (by simp [results,Try.results67,go_sem,g0,g1,g2,g3,g4,g5]) rfl ⟨rfl,by rw [←O5.out];unfold Rm.goes;rw [UW.out,NN.out];first | (rw [Bool.not_false,Bool.or_true];exact kw.a) | (rw [Bool.not_true,Bool.or_false];exact kw.a),kw.m,kw.u⟩
theorem UZ (x:Cd) (ra:Nat) (w:World) (a:RR h K s B w) (m:RM P M w) (hK:K.p=P.q) (hp:∀i,P.has i→i<w.heap.size) (ds:∀i,P.has i→¬B.has h i) (ho:x.op=96) (ha:x.a=ra) (la:ra<16) (hs:Sl K.us K.ao K.cap w) (hw:vY K.us) (qH:∀g,K.ao=some g→0<K.us.length→¬ (B.has h g.block∨P.has g.block)) (wL:0≤x.k) (Ap:x.k<4294967296):
  Calls Try.prog 67 #[.pointer (some ⟨h,0,none⟩), .agg #[.int .i64 x.op, .int .i64 x.d, .int .i64 x.a, .int .i64 x.b, .int .i64 x.c, .int .i64 x.n, .int .u32 x.k, .int .u32 x.x]] w fun e w'=>e= .returned (yt none)∧RR h K (Jf (s.reg ra !=0) ((s.aA ra).goes K.us x) (s.aA ra)) B w'∧RM P M w'∧ah (fun i=>B.has h i∨P.has i) w w':=by
 have CV:=κ (fun W (u:ah (fun i=>B.has h i∨P.has i) w W)=>Sl.upto hs u qH)
 have GA:Hid (∀w,RR h K s B w→Calls Try.prog 110 #[.pointer (some ⟨h,0,none⟩), .int .i64 ra] w fun e w'=>e= .returned (.int .u32 (s.reg ra))∧RR h K (s.aA ra) B w'∧ah (fun i=>i=h) w w'):=fun w a=>bJ ra w a la
 have D1:=κ (show(s.aA ra).done=s.done from rfl)
 obtain⟨s1,pV⟩:∃s1,s.aA ra=s1:=⟨_,rfl⟩
 rw [pV] at GA D1⊢
 generalize s.reg ra=va at GA⊢
 have EN:=(fun w (a:kN h K s1 B.qs w) hs=>ou (K:=K) x.k w a hs hw)
 obtain⟨c,hc⟩:∃c,(va !=0)=c:=⟨_,rfl⟩
 rw [hc]
 have ec:(va==0)= !c:=by rw [←hc];simp [bne]
 obtain⟨sr,yY⟩:∃sr,Jf c (s1.goes K.us x) s1=sr:=⟨_,rfl⟩
 rw [yY]
 have O5:=κ yY
 clear yY
 have HA:=κ ha
 clear ha hc pV
 have e1:(x.op==1)=false:=by simp;omega
 have lK:(x.op==10)=false:=by simp;omega
 have qO:(x.op==11)=false:=by simp;omega
 have qP:(x.op==14)=false:=by simp;omega
 have jS:(x.op==12)=false:=by simp;omega
 have lu:(x.op==13)=false:=by simp;omega
 have e4:(x.op==4)=false:=by simp;omega
 have qQ:(x.op==15)=false:=by simp;omega
 have ny:(x.op==96)=true:=by simp;omega
 obtain⟨nn,iy⟩:∃n,(wrap64 (s.done+x.n))=n:=⟨_,rfl⟩
 try rw [iy]
 have NN:=κ iy
 have mZ:wrap64 (s.done+x.n)=nn:=iy
 have kw:=((RW.new w x 108 a m a.lt hp ds).al (.cells #[.int .i64 0, .int .i64 0, .int .u32 0, .int .u32 0, .int .i64 0, .int .i64 0] 52)).al (.cells #[.int .i64 0, .int .i64 0, .int .u32 0, .int .u32 x.k, .int .i64 nn, .int .i64 0] 52)
 obtain⟨lr,lo⟩:=dM w x x.k nn
 have hh:h<w.heap.size:=a.x.l
 have rD:=κ hK
 have l2:=(fA w x).2.1.l
 have kd:=a.x.done
 have ke:=(((RW.new w x 108 a m a.lt hp ds).al (.cells #[.int .i64 0, .int .i64 0, .int .u32 0, .int .u32 0, .int .i64 0, .int .i64 0] 52)).al (.cells #[.int .i64 0, .int .i64 0, .int .u32 0, .int .u32 0, .int .i64 0, .int .i64 0] 52)).a.x.done
 clear iy a m hK ho hs qH
 go_enter Try.func67,Try.ntmps67
 go_upto_region 1 with fail
 go_region
 clear kd ke l2 mZ
 have kw:=kw.drew
 have lr:=lr.drew
 have lo:=lo.drew
 generalize(((w.alloc (.cells #[.int .i64 x.op, .int .i64 x.d, .int .i64 x.a, .int .i64 x.b, .int .i64 x.c, .int .i64 x.n, .int .u32 x.k, .int .u32 x.x] 108)).alloc (.cells #[.int .i64 0, .int .i64 0, .int .u32 0, .int .u32 0, .int .i64 0, .int .i64 0] 52)).alloc (.cells #[.int .i64 0, .int .i64 0, .int .u32 0, .int .u32 x.k, .int .i64 nn, .int .i64 0] 52)).drew=WA at kw lr lo⊢
 have x0:=kw.x.c0
 have lx:=kw.x.l
 have KW:=κ kw
 have LR:=κ lr
 have LO:=κ lo
 clear kw lr lo
 have x2:=KW.out.x.c2
 rw [HA.out] at x2
 cases c
 ·go_upto_region 44 with(go_at_call 110;(with_reducible refine(GA.out _ KW.out.a).mono ?_);rintro e w2 ⟨rfl,a2,u2⟩;have LR:=κ (LR.out.upto u2 (by omega));have LO:=κ (LO.out.upto u2 (by omega));have KW:=κ (KW.out.lF a2 u2);clear a2 u2)
  clear x2 x0 lx
  obtain⟨y0,y1,y2,y3,y4,y5⟩:=LR.out.all
  have zy:=LR.out.z
  have ly:=LR.out.l
  go_wp2_with fail
  clear y0 y1 y2 y3 y4 y5 zy ly
  have kw:=KW.out.jJ (0) (0) (0) (0) (0) (0)
  have lr:=LR.out.put (0) (0) (0) (0) (0) (0)
  rw [dX]
  generalize p6 _ _ _ _ _ _ _ _=W9 at kw lr⊢
  obtain⟨g0,g1,g2,g3,g4,g5⟩:=lr.all
  exact bodyPost_ret (v:= .agg #[.int .i64 (0), .int .i64 (0), .int .u32 (0), .int .u32 (0), .int .i64 (0), .int .i64 (0)]) (by simp [results,Try.results67,go_sem,g0,g1,g2,g3,g4,g5]) rfl ⟨rfl,(show s1=sr from O5.out)▸kw.a,kw.m,kw.u⟩
 ·go_upto_region 45 with(go_at_call 110;(with_reducible refine(GA.out _ KW.out.a).mono ?_);rintro e w2 ⟨rfl,a2,u2⟩;have LR:=κ (LR.out.upto u2 (by omega));have LO:=κ (LO.out.upto u2 (by omega));have KW:=κ (KW.out.lF a2 u2);clear a2 u2)
  clear x2 x0 lx
  have x6:=KW.out.x.c6
  have lx:=KW.out.x.l
  obtain⟨eb,EL⟩:∃eb,zk K.us x.k=eb:=⟨_,rfl⟩
  rw [EL] at EN
  have UW:=κ EL
  have EN:=κ EN
  clear EL
  cases eb
  ·go_upto_region 46 with(go_at_call 66;(with_reducible refine(EN.out _ KW.out.a.x (CV.out _ KW.out.u)).mono ?_);rintro e wE ⟨rfl,bt⟩;have ut:=ah.aG (S:=fun _=>False) bt;have KW:=κ (KW.out.quiet ut);have LR:=κ (LR.out.upto ut id);have LO:=κ (LO.out.upto ut id);clear bt ut)
   clear x6 lx
   have b23:=KW.out.a.x.st
   have YZ:=KW.out.a.x.z 23
   have lh:=KW.out.a.x.l
   go_upto_region 47 with fail
   clear b23 YZ lh
   have ub:=(ah.refl (fun i=>i=h) wE).setCell (q:=⟨h,23,none⟩) (.inl rfl) (.bool true)
   have kw:=KW.out.lF (KW.out.a.kM true) ub
   have lr:=LR.out.upto ub (by omega)
   have lo:=LO.out.upto ub (by omega)
   clear ub
   generalize wE.setCell ⟨h,23,none⟩ (.bool true)=w6 at kw lr lo⊢
   have KW:=κ kw
   have LR:=κ lr
   have LO:=κ lo
   clear kw lr lo
   have x5:=KW.out.x.c5
   have lx:=KW.out.x.l
   have mZ:wrap64 (s.done+x.n)=nn:=NN.out
   have qX:=KW.out.a.x.done
   have yZ:=KW.out.a.x.z 16
   have lh:=KW.out.a.x.l
   replace qX:_=some (Value.int .i64 s1.done):=qX
   rw [D1.out] at qX
   go_region
   go_upto_region 48 with fail
   clear qX yZ lh
   have ub:=(ah.refl (fun i=>i=h) w6).setCell (q:=⟨h,16,none⟩) (.inl rfl) (.int .i64 nn)
   have kw:=KW.out.lF (KW.out.a.kV nn) ub
   have lr:=LR.out.upto ub (by omega)
   have lo:=LO.out.upto ub (by omega)
   clear ub
   have kw:=kw.drew
   have lr:=lr.drew
   have lo:=lo.drew
   generalize(w6.setCell ⟨h,16,none⟩ (.int .i64 nn)).drew=w7 at kw lr lo⊢
   have KW:=κ kw
   have LR:=κ lr
   have LO:=κ lo
   clear kw lr lo
   clear x5 lx mZ
   have x6:=KW.out.x.c6
   have lx:=KW.out.x.l
   have b1:=KW.out.a.x.at_
   have UY:=KW.out.a.x.z 1
   have lh:=KW.out.a.x.l
   go_upto_region 55 with fail
   clear b1 UY lh
   have ub:=(ah.refl (fun i=>i=h) w7).setCell (q:=⟨h,1,none⟩) (.inl rfl) (.int .i64 x.k)
   have kw:=KW.out.lF (KW.out.a.setAt x.k) ub
   have lr:=LR.out.upto ub (by omega)
   have lo:=LO.out.upto ub (by omega)
   clear ub
   generalize w7.setCell ⟨h,1,none⟩ (.int .i64 x.k)=w8 at kw lr lo⊢
   have KW:=κ kw
   have LR:=κ lr
   have LO:=κ lo
   clear kw lr lo
   clear x6 lx
   obtain⟨y0,y1,y2,y3,y4,y5⟩:=LR.out.all
   have zy:=LR.out.z
   have ly:=LR.out.l
   go_wp2_with fail
   clear y0 y1 y2 y3 y4 y5 zy ly
   have kw:=KW.out.jJ (0) (0) (0) (0) (0) (0)
   have lr:=LR.out.put (0) (0) (0) (0) (0) (0)
   rw [dX]
   generalize p6 _ _ _ _ _ _ _ _=W9 at kw lr⊢
   obtain⟨g0,g1,g2,g3,g4,g5⟩:=lr.all
   exact bodyPost_ret (v:= .agg #[.int .i64 (0), .int .i64 (0), .int .u32 (0), .int .u32 (0), .int .i64 (0), .int .i64 (0)]) (by simp [results,Try.results67,go_sem,g0,g1,g2,g3,g4,g5]) rfl ⟨rfl,by rw [←O5.out];show RR h K (s1.goes K.us x) B W9;unfold Rm.goes;rw [UW.out,D1.out,NN.out];first | (rw [Bool.not_false,Bool.or_true];exact kw.a) | (rw [Bool.not_true,Bool.or_false];exact kw.a),kw.m,kw.u⟩
  ·go_upto_region 47 with(go_at_call 66;(with_reducible refine(EN.out _ KW.out.a.x (CV.out _ KW.out.u)).mono ?_);rintro e wE ⟨rfl,bt⟩;have ut:=ah.aG (S:=fun _=>False) bt;have KW:=κ (KW.out.quiet ut);have LR:=κ (LR.out.upto ut id);have LO:=κ (LO.out.upto ut id);clear bt ut)
   clear x6 lx
   have x5:=KW.out.x.c5
   have lx:=KW.out.x.l
   have mZ:wrap64 (s.done+x.n)=nn:=NN.out
   have qX:=KW.out.a.x.done
   have yZ:=KW.out.a.x.z 16
   have lh:=KW.out.a.x.l
   replace qX:_=some (Value.int .i64 s1.done):=qX
   rw [D1.out] at qX
   go_region
   go_upto_region 48 with fail
   clear qX yZ lh
   have ub:=(ah.refl (fun i=>i=h) wE).setCell (q:=⟨h,16,none⟩) (.inl rfl) (.int .i64 nn)
   have kw:=KW.out.lF (KW.out.a.kV nn) ub
   have lr:=LR.out.upto ub (by omega)
   have lo:=LO.out.upto ub (by omega)
   clear ub
   have kw:=kw.drew
   have lr:=lr.drew
   have lo:=lo.drew
   generalize(wE.setCell ⟨h,16,none⟩ (.int .i64 nn)).drew=w7 at kw lr lo⊢
   have KW:=κ kw
   have LR:=κ lr
   have LO:=κ lo
   clear kw lr lo
   clear x5 lx mZ
   have x6:=KW.out.x.c6
   have lx:=KW.out.x.l
   have b1:=KW.out.a.x.at_
   have UY:=KW.out.a.x.z 1
   have lh:=KW.out.a.x.l
   go_upto_region 55 with fail
   clear b1 UY lh
   have ub:=(ah.refl (fun i=>i=h) w7).setCell (q:=⟨h,1,none⟩) (.inl rfl) (.int .i64 x.k)
   have kw:=KW.out.lF (KW.out.a.setAt x.k) ub
   have lr:=LR.out.upto ub (by omega)
   have lo:=LO.out.upto ub (by omega)
   clear ub
   generalize w7.setCell ⟨h,1,none⟩ (.int .i64 x.k)=w8 at kw lr lo⊢
   have KW:=κ kw
   have LR:=κ lr
   have LO:=κ lo
   clear kw lr lo
   clear x6 lx
   obtain⟨y0,y1,y2,y3,y4,y5⟩:=LR.out.all
   have zy:=LR.out.z
   have ly:=LR.out.l
   go_wp2_with fail
   clear y0 y1 y2 y3 y4 y5 zy ly
   have kw:=KW.out.jJ (0) (0) (0) (0) (0) (0)
   have lr:=LR.out.put (0) (0) (0) (0) (0) (0)
   rw [dX]
   generalize p6 _ _ _ _ _ _ _ _=W9 at kw lr⊢
   obtain⟨g0,g1,g2,g3,g4,g5⟩:=lr.all
   exact bodyPost_ret (v:= .agg #[.int .i64 (0), .int .i64 (0), .int .u32 (0), .int .u32 (0), .int .i64 (0), .int .i64 (0)]) (by simp [results,Try.results67,go_sem,g0,g1,g2,g3,g4,g5]) rfl ⟨rfl,by rw [←O5.out];show RR h K (s1.goes K.us x) B W9;unfold Rm.goes;rw [UW.out,D1.out,NN.out];first | (rw [Bool.not_false,Bool.or_true];exact kw.a) | (rw [Bool.not_true,Bool.or_false];exact kw.a),kw.m,kw.u⟩
theorem Y0 (x:Cd) (w:World) (a:RR h K s B w) (m:RM P M w) (hK:K.p=P.q) (hp:∀i,P.has i→i<w.heap.size) (ds:∀i,P.has i→¬B.has h i) (ho:x.op=1):
  Calls Try.prog 67 #[.pointer (some ⟨h,0,none⟩), .agg #[.int .i64 x.op, .int .i64 x.d, .int .i64 x.a, .int .i64 x.b, .int .i64 x.c, .int .i64 x.n, .int .u32 x.k, .int .u32 x.x]] w fun e w'=>∃B',e= .returned (yt (jI K M s x))∧RR h K (if jI K M s x=none then s.dN else s) B' w'∧RM P M w'∧(∀i,B'.has h i→B.has h i∨w.heap.size≤i)∧ah (fun i=>B.has h i∨P.has i) w w':=by
 have CT:=κ (fun w h=>vw P M w h)
 obtain⟨tb,pG⟩:∃tb,nM M.hi=tb:=⟨_,rfl⟩
 rw [pG] at CT
 have HT:=κ pG
 clear pG
 obtain⟨oe,hoe⟩:∃o,jI K M s x=o:=⟨_,rfl⟩
 obtain⟨sr,yY⟩:∃sr,(if jI K M s x=none then s.dN else s)=sr:=⟨_,rfl⟩
 rw [yY,hoe]
 have HOE:=κ hoe
 have O5:=κ yY
 clear hoe yY
 have e1:(x.op==1)=true:=by simp;omega
 have lK:(x.op==10)=false:=by simp;omega
 have qO:(x.op==11)=false:=by simp;omega
 have qP:(x.op==14)=false:=by simp;omega
 have jS:(x.op==12)=false:=by simp;omega
 have lu:(x.op==13)=false:=by simp;omega
 have e4:(x.op==4)=false:=by simp;omega
 have qQ:(x.op==15)=false:=by simp;omega
 have ny:(x.op==96)=false:=by simp;omega
 obtain⟨nn,iy⟩:∃n,(wrap64 (s.done+x.n))=n:=⟨_,rfl⟩
 try rw [iy]
 have mZ:wrap64 (s.done+x.n)=nn:=iy
 have kw:=((RW.new w x 108 a m a.lt hp ds).al (.cells #[.int .i64 0, .int .i64 0, .int .u32 0, .int .u32 0, .int .i64 0, .int .i64 0] 52)).al (.cells #[.int .i64 0, .int .i64 0, .int .u32 0, .int .u32 x.k, .int .i64 nn, .int .i64 0] 52)
 obtain⟨lr,lo⟩:=dM w x x.k nn
 have hh:h<w.heap.size:=a.x.l
 have rD:=κ hK
 have l2:=(fA w x).2.1.l
 have kd:=a.x.done
 have ke:=(((RW.new w x 108 a m a.lt hp ds).al (.cells #[.int .i64 0, .int .i64 0, .int .u32 0, .int .u32 0, .int .i64 0, .int .i64 0] 52)).al (.cells #[.int .i64 0, .int .i64 0, .int .u32 0, .int .u32 0, .int .i64 0, .int .i64 0] 52)).a.x.done
 clear iy a m hK ho
 go_enter Try.func67,Try.ntmps67
 go_upto_region 1 with fail
 go_region
 clear kd ke l2 mZ
 have kw:=kw.drew
 have lr:=lr.drew
 have lo:=lo.drew
 generalize(((w.alloc (.cells #[.int .i64 x.op, .int .i64 x.d, .int .i64 x.a, .int .i64 x.b, .int .i64 x.c, .int .i64 x.n, .int .u32 x.k, .int .u32 x.x] 108)).alloc (.cells #[.int .i64 0, .int .i64 0, .int .u32 0, .int .u32 0, .int .i64 0, .int .i64 0] 52)).alloc (.cells #[.int .i64 0, .int .i64 0, .int .u32 0, .int .u32 x.k, .int .i64 nn, .int .i64 0] 52)).drew=WA at kw lr lo⊢
 have x0:=kw.x.c0
 have lx:=kw.x.l
 have KW:=κ kw
 have LR:=κ lr
 have LO:=κ lo
 clear kw lr lo
 have dn:=KW.out.a.x.done
 have lh:=KW.out.a.x.l
 have q4:=LO.out.c4
 have zq4:=LO.out.z 4
 have lq:=LO.out.l
 go_upto_region 6 with fail
 clear q4 zq4 lq
 have kw:=KW.out.mv ((ah.refl (fun i=>w.heap.size<i) WA).setCell (q:=⟨w.heap.size+1+1,4,none⟩) (.inl (by show w.heap.size<w.heap.size+1+1;omega)) (.int .i64 s.done))
 have lr:=LR.out.upto ((ah.refl (fun i=>i=w.heap.size+1+1) WA).setCell (q:=⟨w.heap.size+1+1,4,none⟩) (.inl rfl) (.int .i64 s.done)) (by omega)
 have lo:=LO.out.JR (s.done)
 generalize(WA.setCell ⟨w.heap.size+1+1,4,none⟩ (.int .i64 s.done))=w2 at kw lr lo⊢
 have KW:=κ kw
 have LR:=κ lr
 have LO:=κ lo
 clear kw lr lo
 clear dn lh x0 lx
 have am:w2.cell? ⟨h,14,none⟩=some (.pointer (some ⟨P.q,0,none⟩)):=rD.out▸KW.out.a.x.m
 have lh:=KW.out.a.x.l
 cases tb
 ·go_upto_region 9 with(go_at_call 25;(with_reducible refine(CT.out _ KW.out.m).mono ?_);rintro e w3 ⟨rfl,rfl⟩)
  have x5:=KW.out.x.c5
  have lx:=KW.out.x.l
  have dn:=KW.out.a.x.done
  have lf:=KW.out.a.x.left
  go_region
  clear x5 lx dn lf am lh
  have KW:=κ KW.out.drew
  have LR:=κ LR.out.drew
  have LO:=κ LO.out.drew
  generalize w2.drew=w4 at KW LR LO⊢
  by_cases hc:wrap64 (K.left-s.done) <x.n
  ·have EV:=κ (show jI K M s x=some ⟨4,0,0,x.k,s.done⟩ from by unfold jI;rw [HT.out,if_neg (by decide),if_pos hc])
   go_upto_region 10 with fail
   clear hc
   have q0:=LO.out.c0
   have uN:=LO.out.z 0
   have lq:=LO.out.l
   go_upto_region 11 with fail
   clear q0 uN lq
   have kw:=KW.out.mv ((ah.refl (fun i=>w.heap.size<i) w4).setCell (q:=⟨w.heap.size+1+1,0,none⟩) (.inl (by show w.heap.size<w.heap.size+1+1;omega)) (.int .i64 4))
   have lr:=LR.out.upto ((ah.refl (fun i=>i=w.heap.size+1+1) w4).setCell (q:=⟨w.heap.size+1+1,0,none⟩) (.inl rfl) (.int .i64 4)) (by omega)
   have lo:=LO.out.pX (4)
   generalize(w4.setCell ⟨w.heap.size+1+1,0,none⟩ (.int .i64 4))=w5 at kw lr lo⊢
   have KW:=κ kw
   have LR:=κ lr
   have LO:=κ lo
   clear kw lr lo
   obtain⟨y0,y1,y2,y3,y4,y5⟩:=LR.out.all
   have zy:=LR.out.z
   have ly:=LR.out.l
   obtain⟨q0,q1,q2,q3,q4,q5⟩:=LO.out.all
   have lq:=LO.out.l
   go_wp2_with fail
   clear y0 y1 y2 y3 y4 y5 zy ly q0 q1 q2 q3 q4 q5 lq
   have kw:=KW.out.jJ (4) (0) (0) (x.k) (s.done) (0)
   have lr:=LR.out.put (4) (0) (0) (x.k) (s.done) (0)
   rw [dX]
   generalize p6 _ _ _ _ _ _ _ _=W9 at kw lr⊢
   obtain⟨g0,g1,g2,g3,g4,g5⟩:=lr.all
   exact bodyPost_ret (v:= .agg #[.int .i64 (4), .int .i64 (0), .int .u32 (0), .int .u32 (x.k), .int .i64 (s.done), .int .i64 (0)]) (by simp [results,Try.results67,go_sem,g0,g1,g2,g3,g4,g5]) rfl ⟨B,by rw [←HOE.out,EV.out];rfl,by rw [←O5.out,EV.out];exact kw.a,kw.m,fun _=> .inl,kw.u⟩
  ·have rn:=KW.out.a.x.fC
   have lh:=KW.out.a.x.l
   by_cases hr:1048576≤s.fC
   ·have EV:=κ (show jI K M s x=some ⟨6,0,0,x.k,s.done⟩ from by unfold jI;rw [HT.out,if_neg (by decide),if_neg hc,if_pos hr])
    go_upto_region 13 with fail
    clear hc hr rn lh
    have q0:=LO.out.c0
    have uN:=LO.out.z 0
    have lq:=LO.out.l
    go_upto_region 14 with fail
    clear q0 uN lq
    have kw:=KW.out.mv ((ah.refl (fun i=>w.heap.size<i) w4).setCell (q:=⟨w.heap.size+1+1,0,none⟩) (.inl (by show w.heap.size<w.heap.size+1+1;omega)) (.int .i64 6))
    have lr:=LR.out.upto ((ah.refl (fun i=>i=w.heap.size+1+1) w4).setCell (q:=⟨w.heap.size+1+1,0,none⟩) (.inl rfl) (.int .i64 6)) (by omega)
    have lo:=LO.out.pX (6)
    generalize(w4.setCell ⟨w.heap.size+1+1,0,none⟩ (.int .i64 6))=w5 at kw lr lo⊢
    have KW:=κ kw
    have LR:=κ lr
    have LO:=κ lo
    clear kw lr lo
    obtain⟨y0,y1,y2,y3,y4,y5⟩:=LR.out.all
    have zy:=LR.out.z
    have ly:=LR.out.l
    obtain⟨q0,q1,q2,q3,q4,q5⟩:=LO.out.all
    have lq:=LO.out.l
    go_wp2_with fail
    clear y0 y1 y2 y3 y4 y5 zy ly q0 q1 q2 q3 q4 q5 lq
    have kw:=KW.out.jJ (6) (0) (0) (x.k) (s.done) (0)
    have lr:=LR.out.put (6) (0) (0) (x.k) (s.done) (0)
    rw [dX]
    generalize p6 _ _ _ _ _ _ _ _=W9 at kw lr⊢
    obtain⟨g0,g1,g2,g3,g4,g5⟩:=lr.all
    exact bodyPost_ret (v:= .agg #[.int .i64 (6), .int .i64 (0), .int .u32 (0), .int .u32 (x.k), .int .i64 (s.done), .int .i64 (0)]) (by simp [results,Try.results67,go_sem,g0,g1,g2,g3,g4,g5]) rfl ⟨B,by rw [←HOE.out,EV.out];rfl,by rw [←O5.out,EV.out];exact kw.a,kw.m,fun _=> .inl,kw.u⟩
   ·have EV:=κ (show jI K M s x=none from by unfold jI;rw [HT.out,if_neg (by decide),if_neg hc,if_neg hr])
    go_upto_region 15 with fail
    clear hc hr rn lh
    go_upto_region 55 with(go_at_call 65;(with_reducible refine(BL _ KW.out.a.x).mono ?_);rintro e w5 ⟨rfl,B',a5,hB,u5⟩)
    have hl1:(w.heap.size+1+1) <w4.heap.size:=LO.out.l
    have lr:=LR.out.upto u5 (by omega)
    have m5:=KW.out.m.upto u5 (fun i hi e=>KW.out.ds i hi (.inl e))
    have u6:=KW.out.u.trans (u5.mono fun _ _ e=> .inl (.inl e))
    have hB5:∀i,B'.has h i→i=h∨(w.heap.size+1+1) <i:=fun i hi=>(hB i hi).imp id (by omega)
    clear hB u5 LO
    generalize hKW:KW=KWX
    clear hKW KWX
    have LR:=κ lr
    have A5:=κ a5
    have M5:=κ m5
    have U5:=κ u6
    clear lr a5 m5 u6
    have y0:=LR.out.c0
    have zy0:=LR.out.z 0
    have y1:=LR.out.c1
    have zy1:=LR.out.z 1
    have y2:=LR.out.c2
    have zy2:=LR.out.z 2
    have y3:=LR.out.c3
    have zy3:=LR.out.z 3
    have y4:=LR.out.c4
    have zy4:=LR.out.z 4
    have y5:=LR.out.c5
    have zy5:=LR.out.z 5
    have ly:=LR.out.l
    go_wp2_with fail
    clear y0 zy0 y1 zy1 y2 zy2 y3 zy3 y4 zy4 y5 zy5 ly
    have us:=EI (w.heap.size+1) w5 0 0 0 0 0 0
    have a6:=A5.out.upto us (fun i hi e=>by rcases hB5 i hi with e' | e'<;>omega)
    have m6:=M5.out.upto us (fun i hi e=>by have:=KW.out.hp i hi;omega)
    have u7:=(U5.out.mono (T:=fun i=>(B.has h i∨P.has i)∨i=(w.heap.size+1)) fun _ _ e=> .inl e).trans (us.mono fun _ _ e=> .inr e) |>.mono (T:=fun i=>B.has h i∨P.has i) fun i hi e=>e.elim id fun e=>by omega
    have lr:=LR.out.put 0 0 0 0 0 0
    rw [dX]
    generalize p6 _ _ _ _ _ _ _ _=W9 at a6 m6 u7 lr⊢
    obtain⟨g0,g1,g2,g3,g4,g5⟩:=lr.all
    exact bodyPost_ret (v:= .agg #[.int .i64 (0), .int .i64 (0), .int .u32 (0), .int .u32 (0), .int .i64 (0), .int .i64 (0)]) (by simp [results,Try.results67,go_sem,g0,g1,g2,g3,g4,g5]) rfl ⟨B',by rw [←HOE.out,EV.out];rfl,by rw [←O5.out,EV.out];exact a6,m6,fun i hi=>(hB5 i hi).elim (fun e=> .inl (.inl e)) (fun e=> .inr (by omega)),u7⟩
 ·have EV:=κ (show jI K M s x=some ⟨1,0,0,x.k,s.done⟩ from by unfold jI;rw [HT.out,if_pos rfl])
  go_upto_region 7 with(go_at_call 25;(with_reducible refine(CT.out _ KW.out.m).mono ?_);rintro e w3 ⟨rfl,rfl⟩)
  clear am lh
  have q0:=LO.out.c0
  have uN:=LO.out.z 0
  have lq:=LO.out.l
  go_upto_region 8 with fail
  clear q0 uN lq
  have kw:=KW.out.mv ((ah.refl (fun i=>w.heap.size<i) w2).setCell (q:=⟨w.heap.size+1+1,0,none⟩) (.inl (by show w.heap.size<w.heap.size+1+1;omega)) (.int .i64 1))
  have lr:=LR.out.upto ((ah.refl (fun i=>i=w.heap.size+1+1) w2).setCell (q:=⟨w.heap.size+1+1,0,none⟩) (.inl rfl) (.int .i64 1)) (by omega)
  have lo:=LO.out.pX (1)
  generalize(w2.setCell ⟨w.heap.size+1+1,0,none⟩ (.int .i64 1))=w5 at kw lr lo⊢
  have KW:=κ kw
  have LR:=κ lr
  have LO:=κ lo
  clear kw lr lo
  obtain⟨y0,y1,y2,y3,y4,y5⟩:=LR.out.all
  have zy:=LR.out.z
  have ly:=LR.out.l
  obtain⟨q0,q1,q2,q3,q4,q5⟩:=LO.out.all
  have lq:=LO.out.l
  go_wp2_with fail
  clear y0 y1 y2 y3 y4 y5 zy ly q0 q1 q2 q3 q4 q5 lq
  have kw:=KW.out.jJ (1) (0) (0) (x.k) (s.done) (0)
  have lr:=LR.out.put (1) (0) (0) (x.k) (s.done) (0)
  rw [dX]
  generalize p6 _ _ _ _ _ _ _ _=W9 at kw lr⊢
  obtain⟨g0,g1,g2,g3,g4,g5⟩:=lr.all
  exact bodyPost_ret (v:= .agg #[.int .i64 (1), .int .i64 (0), .int .u32 (0), .int .u32 (x.k), .int .i64 (s.done), .int .i64 (0)]) (by simp [results,Try.results67,go_sem,g0,g1,g2,g3,g4,g5]) rfl ⟨B,by rw [←HOE.out,EV.out];rfl,by rw [←O5.out,EV.out];exact kw.a,kw.m,fun _=> .inl,kw.u⟩
end Go.Proofs.Ytcjcmnnhmajocab.Hr
