import Derived.Test.YtcjcmnnhmajocabGreatPmbl
set_option linter.unusedVariables false
set_option linter.unusedSimpArgs false
set_option maxRecDepth 100000
set_option maxHeartbeats 16000000
namespace Go.Proofs.YtcjcmnnhmajocabGreat.St
open Go.RowKit Kt Me Fl Gu
variable {R:Nat→Int} {pc f nx:Int}
theorem aI {P:RP} {M:MM} {W:World} {o:Obj} (h:RM P M W):RM P M (W.alloc o):=h.upto ((ah.refl (fun _=>False) W).alloc o) (fun _ _=>id)
theorem aY {h:Nat} {R:Nat→Int} {pc f k d s o m:Int} {R':Nat→Int} {kH f' kk xx:Int} {W:World} {b:Obj} (a:MB h R pc f k d s o m R' kH f' kk xx W):MB h R pc f k d s o m R' kH f' kk xx (W.alloc b):=a.upto ((ah.refl (fun _=>False) W).alloc b) (fun _ _=>id)
theorem TP {M:MM} (hM:bQ M) (a:Int):jD M a 1<256:=by
 have b0:=hM.1 (a.toNat+0)
 unfold jD aN
 rw [if_pos rfl]
 split<;>omega
theorem TQ {M:MM} (hM:bQ M) (a:Int):jD M a 2<65536:=by
 have b0:=hM.1 (a.toNat+0)
 have b1:=hM.1 (a.toNat+1)
 unfold jD aN
 split
 ·rw [if_neg (by decide),if_pos rfl];omega
 ·omega
def qE (P:RP) (w:World) (o:Out) (e:Ending) (w':World):Prop:=e= .returned (dS o)∧RM P o.M w'∧ah P.has w w'
theorem wE {M:MM} {a n x:Int} (h:aQ M 1 a n.toNat=some x):jD M a n=0:=by
 unfold jD
 rw [h]
 rfl
theorem MB.all {h:Nat} {pc f k d s o m:Int} {R':Nat→Int} {kH f' kk xx:Int} {W:World} (a:MB h R pc f k d s o m R' kH f' kk xx W) {D S:Nat} (hD:D<8) (hS:S<8):
  W.cell? ⟨h,1,none⟩=some (.int .i64 d)∧W.cell? ⟨h,2,none⟩=some (.int .i64 s)∧W.cell? ⟨h,3,none⟩=some (.int .i64 o)∧W.cell? ⟨h,4,none⟩=some (.int .u32 m)∧
  W.cell? ⟨h+1,7,none⟩=some (.int .u32 (R 7))∧W.cell? ⟨h+1,D,none⟩=some (.int .u32 (R D))∧W.cell? ⟨h+1,S,none⟩=some (.int .u32 (R S))∧W.cell? ⟨h+1,9,none⟩=some (.int .u32 f)∧
  W.cell? ⟨h+1+1,7,none⟩=some (.int .u32 (R' 7))∧W.cell? ⟨h+1+1,D,none⟩=some (.int .u32 (R' D))∧W.cell? ⟨h+1+1,8,none⟩=some (.int .u32 kH)∧W.cell? ⟨h+1+1,9,none⟩=some (.int .u32 f')∧
  W.frozen? ⟨h+1+1,7,none⟩=false∧W.frozen? ⟨h+1+1,D,none⟩=false∧W.frozen? ⟨h+1+1,8,none⟩=false∧W.frozen? ⟨h+1+1,9,none⟩=false∧
  W.cell? ⟨h+1+1+1+1+1,0,none⟩=some (.int .i64 kk)∧W.cell? ⟨h+1+1+1+1+1,1,none⟩=some (.int .u32 xx)∧W.frozen? ⟨h+1+1+1+1+1,0,none⟩=false∧W.frozen? ⟨h+1+1+1+1+1,1,none⟩=false∧h+1+1+1+1+1<W.heap.size∧h+1+1<W.heap.size:=
 ⟨a.x.c1,a.x.c2,a.x.c3,a.x.c4,a.s.r 7 (by omega),a.s.r D hD,a.s.r S hS,a.s.c9,a.t.r 7 (by omega),a.t.r D hD,a.t.c8,a.t.c9,a.t.z 7,a.t.z D,a.t.z 8,a.t.z 9,a.k.c0,a.k.c1,a.k.z 0,a.k.z 1,a.k.l,a.t.l⟩
theorem dJ {P:RP} {M:MM} {w W w3:World} {pc f k d s o m:Int} {R':Nat→Int} {kH f' kk xx:Int} (b:Below W.heap.size W w3) (h:MB w.heap.size R pc f k d s o m R' kH f' kk xx W) (hm:RM P M W) (u:ah P.has w W) (h0:∀i,w.heap.size≤i→P.has i→False):
  Hid (MB w.heap.size R pc f k d s o m R' kH f' kk xx w3)∧Hid (RM P M w3)∧Hid (ah P.has w w3):=
 have B:=ah.ak (S:=P.has) b
 ⟨κ (h.upto B h0),κ (hm.upto (ah.ak (S:=fun _=>False) b) (fun _ _=>id)),κ (u.trans B)⟩
theorem mV {P:RP} {M:MM} {w W w3:World} {pc f k d s o m:Int} {R':Nat→Int} {kH f' kk xx:Int} (b:RM P M w3∧ah P.S W w3) (h:MB w.heap.size R pc f k d s o m R' kH f' kk xx W) (u:ah P.has w W) (h0:∀i,w.heap.size≤i→P.has i→False):
  Hid (MB w.heap.size R pc f k d s o m R' kH f' kk xx w3)∧Hid (RM P M w3)∧Hid (ah P.has w w3):=
 ⟨κ (h.upto b.2 h0),κ b.1,κ (ah.trans (S:=P.has) u b.2)⟩
theorem oJ (P:RP) {M:MM} (q n:Int) (hM:bQ M) (q0:0≤q) (q1:q<4294967296) (hn:n<9223372036854775808) (g:Int→Out) (hg:∀v,(g v).k=0):
  ∃v kk xx,(0≤v∧v<4294967296∧(n=1→v<256)∧(n=2→v<65536))∧
   (∀w,RM P M w→Calls Tryz.prog 147 #[.pointer (some ⟨P.q,0,none⟩), .int .u32 q, .int .i64 n] w fun e w'=>e= .returned (.tuple #[.int .u32 v, .agg #[.int .i64 kk, .int .u32 xx]])∧Below w.heap.size w w')∧
   (kk=0∧xx=0∧stay R pc f (ldO M R pc f q n g)=g v∨kk≠0∧v=0∧stay R pc f (ldO M R pc f q n g)=⟨M,R,pc,f,kk,xx⟩):=by
 have CL:=fun w h=>iK P M q n w h hM q0 q1 hn
 have B:=ku hM q n
 have B1:n=1→jD M q n<256:=fun e=>e▸TP hM q
 have B2:n=2→jD M q n<65536:=fun e=>e▸TQ hM q
 unfold ldO
 obtain⟨oo,ho⟩:∃oo,aQ M 1 q n.toNat=oo:=⟨_,rfl⟩
 rw [ho] at CL⊢
 rcases oo with _ | x
 ·exact⟨_,0,0,⟨B.1,B.2,B1,B2⟩,CL, .inl ⟨rfl,rfl,if_pos (.inl (hg _))⟩⟩
 ·exact⟨_,5,x,⟨B.1,B.2,B1,B2⟩,CL, .inr ⟨by omega,wE ho,if_neg (show¬ ((5:Int)=0∨(5:Int)=1) by omega)⟩⟩
theorem zL (P:RP) {M:MM} (q n v:Int) (hM:bQ M) (q0:0≤q) (q1:q<4294967296) (v0:0≤v) (v1:v<4294967296) (g:MM→Out) (hg:∀M,(g M).k=0):
  ∃M' kk xx,(∀w,RM P M w→Calls Tryz.prog 148 #[.pointer (some ⟨P.q,0,none⟩), .int .u32 q, .int .i64 n, .int .u32 v] w fun e w'=>e= .returned (.agg #[.int .i64 kk, .int .u32 xx])∧RM P M' w'∧ah P.S w w')∧
   (kk=0∧xx=0∧stay R pc f (mg M R pc f q n v g)=g M'∨kk≠0∧stay R pc f (mg M R pc f q n v g)=⟨M',R,pc,f,kk,xx⟩):=by
 have CL:=fun w h=>dV P M q n v w h hM q0 q1 v0 v1
 unfold mg
 obtain⟨oo,ho⟩:∃oo,jE M q n=oo:=⟨_,rfl⟩
 rw [ho] at CL⊢
 rcases oo with _ | x
 ·exact⟨_,0,0,CL, .inl ⟨rfl,rfl,if_pos (.inl (hg _))⟩⟩
 ·rw [jl ho] at CL
  exact⟨_,6,x,CL, .inr ⟨by omega,if_neg (show¬ ((6:Int)=0∨(6:Int)=1) by omega)⟩⟩
theorem Yk (P:RP) (M:MM) (d s:Nat) (k o m:Int) (hd:d<8) (hs:s<8) (w:World) (hm:RM P M w) (hM:bQ M) (hR:qI R) (n0:0≤nx) (nb:nx<4294967296) (f0:0≤f) (f1:f<16)
  (hk:k=2∨k=4∨k=15∨k=11∨k=3∨k=8∨k=10∨k=14∨(k=30∧o=0)∨(k=30∧o=1)∨(k=30∧o=2)∨(k=30∧o=3)∨(k=30∧o=4)):
  Calls Tryz.prog 95 #[.pointer (some ⟨P.q,0,none⟩),jy k d s o m,iJ R pc f,iJ R nx f, .int .u32 (au (R s+m))] w (qE P w (stay R pc f (gK M R pc f nx k d s o m))):=by
 obtain⟨OO,Yj⟩:∃OO,stay R pc f (gK M R pc f nx k d s o m)=OO:=⟨_,rfl⟩
 rw [Yj]
 have HO:=κ Yj
 have HM:=κ hM
 have HR:=κ hR
 have NB:=κ (show(0≤nx∧nx<4294967296)∧0≤f∧f<16 from⟨⟨n0,nb⟩,f0,f1⟩)
 have Ou:(0:Int)≤(d:Int):=by omega
 have Ov:(d:Int) <8:=by omega
 have Jp:(0:Int)≤(s:Int):=by omega
 have vH:(s:Int) <8:=by omega
 have e4:(R 7-4)%4294967296=au (R 7-4):=rfl
 have e5:(R 7+4)%4294967296=au (R 7+4):=rfl
 have e6:(nx+m)%4294967296=au (nx+m):=rfl
 have n1:=MB.new w R pc f k d s o m R nx f
 have fQ:=((((((ah.refl (fun _=>False) w).alloc (.cells #[.int .i64 k, .int .i64 d, .int .i64 s, .int .i64 o, .int .u32 m] 74)).alloc (.cells (iY R pc f) 94)).alloc (.cells (iY R nx f) 94)).alloc (.cells oP 94)).alloc (.cells Z2 55)).alloc (.cells Z2 55)
 have m1:=hm.upto fQ (fun _ _=>id)
 have dD:=κ (fun i (hi:w.heap.size≤i) (h:P.has i)=>show False by have:=iG hm h;omega)
 have KK:=κ hk
 clear hm hR hM n0 nb f0 f1 Yj hk
 unfold iY oP Z2 at n1 fQ m1
 unfold jy iJ
 unfold qE
 go_enter Tryz.func95,Tryz.ntmps95
 go_upto_region 5 with fail
 have eZ:((((((w.alloc (.cells #[.int .i64 k, .int .i64 d, .int .i64 s, .int .i64 o, .int .u32 m] 74)).alloc (.cells #[.int .u32 (R 0), .int .u32 (R 1), .int .u32 (R 2), .int .u32 (R 3), .int .u32 (R 4), .int .u32 (R 5), .int .u32 (R 6), .int .u32 (R 7), .int .u32 pc, .int .u32 f] 94)).alloc (.cells #[.int .u32 (R 0), .int .u32 (R 1), .int .u32 (R 2), .int .u32 (R 3), .int .u32 (R 4), .int .u32 (R 5), .int .u32 (R 6), .int .u32 (R 7), .int .u32 nx, .int .u32 f] 94)).alloc (.cells #[.int .u32 0, .int .u32 0, .int .u32 0, .int .u32 0, .int .u32 0, .int .u32 0, .int .u32 0, .int .u32 0, .int .u32 0, .int .u32 0] 94)).alloc (.cells #[.int .i64 0, .int .u32 0] 55)).alloc (.cells #[.int .i64 0, .int .u32 0] 55)).heap.size=w.heap.size+1+1+1+1+1+1:=by simp
 generalize(((((w.alloc (.cells #[.int .i64 k, .int .i64 d, .int .i64 s, .int .i64 o, .int .u32 m] 74)).alloc (.cells #[.int .u32 (R 0), .int .u32 (R 1), .int .u32 (R 2), .int .u32 (R 3), .int .u32 (R 4), .int .u32 (R 5), .int .u32 (R 6), .int .u32 (R 7), .int .u32 pc, .int .u32 f] 94)).alloc (.cells #[.int .u32 (R 0), .int .u32 (R 1), .int .u32 (R 2), .int .u32 (R 3), .int .u32 (R 4), .int .u32 (R 5), .int .u32 (R 6), .int .u32 (R 7), .int .u32 nx, .int .u32 f] 94)).alloc (.cells #[.int .u32 0, .int .u32 0, .int .u32 0, .int .u32 0, .int .u32 0, .int .u32 0, .int .u32 0, .int .u32 0, .int .u32 0, .int .u32 0] 94)).alloc (.cells #[.int .i64 0, .int .u32 0] 55)).alloc (.cells #[.int .i64 0, .int .u32 0] 55)=WA at n1 fQ m1 eZ⊢
 have H1:=κ n1
 have U1:=κ (fQ.mono (T:=P.has) fun _ _ h=>h.elim)
 have M1:=κ m1
 clear n1 fQ m1
 have x0:=H1.out.x.c0
 obtain⟨x1,x2,x3,x4,s7,sd,ss,s9,t7,td,t8,t9,fF,fG,fH,fJ,k0,k1,eX,eY,lk,lt⟩:=H1.out.all hd hs
 have hk:=KK.out
 clear KK
 refine hk.elim ?c2 fun hk=>hk.elim ?c4 fun hk=>hk.elim ?c15 fun hk=>hk.elim ?c11 fun hk=>hk.elim ?c3 fun hk=>hk.elim ?c8 fun hk=>hk.elim ?c10 fun hk=>hk.elim ?c14 fun hk=>hk.elim ?abZ fun hk=>hk.elim ?ab1 fun hk=>hk.elim ?ab2 fun hk=>hk.elim ?ab3 ?ab4
 case' c2=>
  intro ek
  subst ek
  obtain⟨v,kk,xx,⟨v0,v1,vx⟩,C,hO⟩:=oJ (R:=R) (pc:=pc) (f:=f) P (R 7) 4 HM.out (HR.out 7).1 (HR.out 7).2 (by omega) (fun v=>⟨M,aF R 7 (au (R 7+4)),v,f,0,0⟩) (fun _=>rfl)
  clear vx
  have CS:=κ C
  clear C
  refine hO.elim ?g2 ?n2
 case' g2=>
  rintro⟨rfl,rfl,eo⟩
  have HE:=κ (show OO=(⟨M,aF R 7 (au (R 7+4)),v,f,0,0⟩:Out) from HO.out.symm.trans eo)
  clear eo
  go_wp2_with (go_at_call 147;(with_reducible refine(CS.out _ (by repeat(first | exact M1.out | apply aI | apply RM.drew))).mono ?_);rintro e w3 ⟨rfl,b3⟩;obtain⟨H3,M3,U3⟩:=(show Hid (MB w.heap.size R pc f 2 d s o m R nx f 0 0 w3)∧Hid (RM P M w3)∧Hid (ah P.has w w3) from dJ (P:=P) (M:=M) (R':=R) b3 (by repeat(first | exact H1.out | apply aY | apply MB.drew)) (by repeat(first | exact M1.out | apply aI | apply RM.drew)) (by repeat(first | exact U1.out | apply ah.alloc | apply ah.drew)) dD.out);clear b3 x1 x2 x3 x4 s7 sd ss s9 t7 td t8 t9 fF fG fH fJ k0 k1 eX eY lk lt x0;obtain⟨x1,x2,x3,x4,s7,sd,ss,s9,t7,td,t8,t9,fF,fG,fH,fJ,k0,k1,eX,eY,lk,lt⟩:=H3.out.all hd hs)
  have h4:=((H3.out.iD 0 0).bI 7 (by omega) (au (R 7+4))).jk v
  generalize eW:((((w3.setCell ⟨w.heap.size+1+1+1+1+1,0,none⟩ (.int .i64 0)).setCell ⟨w.heap.size+1+1+1+1+1,1,none⟩ (.int .u32 0)).setCell ⟨w.heap.size+1+1,7,none⟩ (.int .u32 (au (R 7+4)))).setCell ⟨w.heap.size+1+1,8,none⟩ (.int .u32 v))=W3 at h4⊢
  obtain⟨R4,p4,f4,kq,xq,M4,T4,K4,N4,HE⟩:∃R4 p4 f4 kq xq M4,Hid (SB (w.heap.size+1+1) R4 p4 f4 W3)∧Hid (KB (w.heap.size+1+1+1+1+1) kq xq W3)∧Hid (RM P M4 w3)∧Hid (OO=⟨M4,R4,p4,f4,kq,xq⟩):=⟨_,_,_,_,_,_,κ h4.t,κ h4.k,M3,HE⟩
 case' n2=>
  rintro⟨hk,rfl,eo⟩
  have HE:=κ (show OO=(⟨M,R,pc,f,kk,xx⟩:Out) from HO.out.symm.trans eo)
  clear eo
  have b0:(kk==0)=false:=by rw [beq_eq_false_iff_ne];exact hk
  have BH:(kk !=0)=true:=by rw [bne,b0];rfl
  go_wp2_with (go_at_call 147;(with_reducible refine(CS.out _ (by repeat(first | exact M1.out | apply aI | apply RM.drew))).mono ?_);rintro e w3 ⟨rfl,b3⟩;obtain⟨H3,M3,U3⟩:=(show Hid (MB w.heap.size R pc f 2 d s o m R nx f 0 0 w3)∧Hid (RM P M w3)∧Hid (ah P.has w w3) from dJ (P:=P) (M:=M) (R':=R) b3 (by repeat(first | exact H1.out | apply aY | apply MB.drew)) (by repeat(first | exact M1.out | apply aI | apply RM.drew)) (by repeat(first | exact U1.out | apply ah.alloc | apply ah.drew)) dD.out);clear b3 x1 x2 x3 x4 s7 sd ss s9 t7 td t8 t9 fF fG fH fJ k0 k1 eX eY lk lt x0;obtain⟨x1,x2,x3,x4,s7,sd,ss,s9,t7,td,t8,t9,fF,fG,fH,fJ,k0,k1,eX,eY,lk,lt⟩:=H3.out.all hd hs)
  have h4:=((H3.out.iD kk xx).bI 7 (by omega) (au (R 7+4))).jk 0
  generalize eW:((((w3.setCell ⟨w.heap.size+1+1+1+1+1,0,none⟩ (.int .i64 kk)).setCell ⟨w.heap.size+1+1+1+1+1,1,none⟩ (.int .u32 xx)).setCell ⟨w.heap.size+1+1,7,none⟩ (.int .u32 (au (R 7+4)))).setCell ⟨w.heap.size+1+1,8,none⟩ (.int .u32 0))=W3 at h4⊢
  obtain⟨R4,p4,f4,kq,xq,M4,T4,K4,N4,HE⟩:∃R4 p4 f4 kq xq M4,Hid (SB (w.heap.size+1) R4 p4 f4 W3)∧Hid (KB (w.heap.size+1+1+1+1+1) kq xq W3)∧Hid (RM P M4 w3)∧Hid (OO=⟨M4,R4,p4,f4,kq,xq⟩):=⟨_,_,_,_,_,_,κ h4.s,κ h4.k,M3,HE⟩
 case' c4=>
  intro ek
  subst ek
  obtain⟨v,kk,xx,⟨v0,v1,vx⟩,C,hO⟩:=oJ (R:=R) (pc:=pc) (f:=f) P (R 7) 4 HM.out (HR.out 7).1 (HR.out 7).2 (by omega) (fun v=>⟨M,aF R 7 (au (R 7+4)),nx,v%16,0,0⟩) (fun _=>rfl)
  clear vx
  have CS:=κ C
  clear C
  refine hO.elim ?g4 ?n4
 case' g4=>
  rintro⟨rfl,rfl,eo⟩
  have HE:=κ (show OO=(⟨M,aF R 7 (au (R 7+4)),nx,v%16,0,0⟩:Out) from HO.out.symm.trans eo)
  clear eo
  go_wp2_with (go_at_call 147;(with_reducible refine(CS.out _ (by repeat(first | exact M1.out | apply aI | apply RM.drew))).mono ?_);rintro e w3 ⟨rfl,b3⟩;obtain⟨H3,M3,U3⟩:=(show Hid (MB w.heap.size R pc f 4 d s o m R nx f 0 0 w3)∧Hid (RM P M w3)∧Hid (ah P.has w w3) from dJ (P:=P) (M:=M) (R':=R) b3 (by repeat(first | exact H1.out | apply aY | apply MB.drew)) (by repeat(first | exact M1.out | apply aI | apply RM.drew)) (by repeat(first | exact U1.out | apply ah.alloc | apply ah.drew)) dD.out);clear b3 x1 x2 x3 x4 s7 sd ss s9 t7 td t8 t9 fF fG fH fJ k0 k1 eX eY lk lt x0;obtain⟨x1,x2,x3,x4,s7,sd,ss,s9,t7,td,t8,t9,fF,fG,fH,fJ,k0,k1,eX,eY,lk,lt⟩:=H3.out.all hd hs)
  have h4:=((H3.out.iD 0 0).bI 7 (by omega) (au (R 7+4))).gU (v%16)
  generalize eW:((((w3.setCell ⟨w.heap.size+1+1+1+1+1,0,none⟩ (.int .i64 0)).setCell ⟨w.heap.size+1+1+1+1+1,1,none⟩ (.int .u32 0)).setCell ⟨w.heap.size+1+1,7,none⟩ (.int .u32 (au (R 7+4)))).setCell ⟨w.heap.size+1+1,9,none⟩ (.int .u32 (v%16)))=W3 at h4⊢
  obtain⟨R4,p4,f4,kq,xq,M4,T4,K4,N4,HE⟩:∃R4 p4 f4 kq xq M4,Hid (SB (w.heap.size+1+1) R4 p4 f4 W3)∧Hid (KB (w.heap.size+1+1+1+1+1) kq xq W3)∧Hid (RM P M4 w3)∧Hid (OO=⟨M4,R4,p4,f4,kq,xq⟩):=⟨_,_,_,_,_,_,κ h4.t,κ h4.k,M3,HE⟩
 case' n4=>
  rintro⟨hk,rfl,eo⟩
  have HE:=κ (show OO=(⟨M,R,pc,f,kk,xx⟩:Out) from HO.out.symm.trans eo)
  clear eo
  have b0:(kk==0)=false:=by rw [beq_eq_false_iff_ne];exact hk
  have BH:(kk !=0)=true:=by rw [bne,b0];rfl
  go_wp2_with (go_at_call 147;(with_reducible refine(CS.out _ (by repeat(first | exact M1.out | apply aI | apply RM.drew))).mono ?_);rintro e w3 ⟨rfl,b3⟩;obtain⟨H3,M3,U3⟩:=(show Hid (MB w.heap.size R pc f 4 d s o m R nx f 0 0 w3)∧Hid (RM P M w3)∧Hid (ah P.has w w3) from dJ (P:=P) (M:=M) (R':=R) b3 (by repeat(first | exact H1.out | apply aY | apply MB.drew)) (by repeat(first | exact M1.out | apply aI | apply RM.drew)) (by repeat(first | exact U1.out | apply ah.alloc | apply ah.drew)) dD.out);clear b3 x1 x2 x3 x4 s7 sd ss s9 t7 td t8 t9 fF fG fH fJ k0 k1 eX eY lk lt x0;obtain⟨x1,x2,x3,x4,s7,sd,ss,s9,t7,td,t8,t9,fF,fG,fH,fJ,k0,k1,eX,eY,lk,lt⟩:=H3.out.all hd hs)
  have h4:=((H3.out.iD kk xx).bI 7 (by omega) (au (R 7+4))).gU 0
  generalize eW:((((w3.setCell ⟨w.heap.size+1+1+1+1+1,0,none⟩ (.int .i64 kk)).setCell ⟨w.heap.size+1+1+1+1+1,1,none⟩ (.int .u32 xx)).setCell ⟨w.heap.size+1+1,7,none⟩ (.int .u32 (au (R 7+4)))).setCell ⟨w.heap.size+1+1,9,none⟩ (.int .u32 0))=W3 at h4⊢
  obtain⟨R4,p4,f4,kq,xq,M4,T4,K4,N4,HE⟩:∃R4 p4 f4 kq xq M4,Hid (SB (w.heap.size+1) R4 p4 f4 W3)∧Hid (KB (w.heap.size+1+1+1+1+1) kq xq W3)∧Hid (RM P M4 w3)∧Hid (OO=⟨M4,R4,p4,f4,kq,xq⟩):=⟨_,_,_,_,_,_,κ h4.s,κ h4.k,M3,HE⟩
 case' c15=>
  intro ek
  subst ek
  obtain⟨v,kk,xx,⟨v0,v1,vx⟩,C,hO⟩:=oJ (R:=R) (pc:=pc) (f:=f) P (R 7) 4 HM.out (HR.out 7).1 (HR.out 7).2 (by omega) (fun v=>⟨M,aF (aF R 7 (au (R 7+4))) d v,nx,f,0,0⟩) (fun _=>rfl)
  clear vx
  have CS:=κ C
  clear C
  refine hO.elim ?g15 ?n15
 case' g15=>
  rintro⟨rfl,rfl,eo⟩
  have HE:=κ (show OO=(⟨M,aF (aF R 7 (au (R 7+4))) d v,nx,f,0,0⟩:Out) from HO.out.symm.trans eo)
  clear eo
  go_upto_region 28 with(go_at_call 147;(with_reducible refine(CS.out _ (by repeat(first | exact M1.out | apply aI | apply RM.drew))).mono ?_);rintro e w3 ⟨rfl,b3⟩;obtain⟨H3,M3,U3⟩:=(show Hid (MB w.heap.size R pc f 15 d s o m R nx f 0 0 w3)∧Hid (RM P M w3)∧Hid (ah P.has w w3) from dJ (P:=P) (M:=M) (R':=R) b3 (by repeat(first | exact H1.out | apply aY | apply MB.drew)) (by repeat(first | exact M1.out | apply aI | apply RM.drew)) (by repeat(first | exact U1.out | apply ah.alloc | apply ah.drew)) dD.out);clear b3 x1 x2 x3 x4 s7 sd ss s9 t7 td t8 t9 fF fG fH fJ k0 k1 eX eY lk lt x0;obtain⟨x1,x2,x3,x4,s7,sd,ss,s9,t7,td,t8,t9,fF,fG,fH,fJ,k0,k1,eX,eY,lk,lt⟩:=H3.out.all hd hs)
  have h4:=(H3.out.iD 0 0).bI 7 (by omega) (au (R 7+4))
  generalize eW:(((w3.setCell ⟨w.heap.size+1+1+1+1+1,0,none⟩ (.int .i64 0)).setCell ⟨w.heap.size+1+1+1+1+1,1,none⟩ (.int .u32 0)).setCell ⟨w.heap.size+1+1,7,none⟩ (.int .u32 (au (R 7+4))))=W5 at h4⊢
  clear x1 x2 x3 x4 s7 sd ss s9 t7 td t8 t9 fF fG fH fJ k0 k1 eX eY lk lt
  have m4:RM P M W5:=by rw [←eW];repeat(first | exact M3.out | refine aS ?_ (dD.out _ (by omega)))
  have u4:ah P.has w W5:=by rw [←eW];repeat(first | exact U3.out | refine aK ?_ (by omega))
  clear eW
  have H3:=κ h4
  have M3:=κ m4
  have U3:=κ u4
  clear h4 m4 u4
  obtain⟨x1,x2,x3,x4,s7,sd,ss,s9,t7,td,t8,t9,fF,fG,fH,fJ,k0,k1,eX,eY,lk,lt⟩:=H3.out.all hd hs
  go_wp2_with fail
  have h4:=H3.out.bI d hd v
  generalize eW:(W5.setCell ⟨w.heap.size+1+1,d,none⟩ (.int .u32 v))=W3 at h4⊢
  obtain⟨R4,p4,f4,kq,xq,M4,T4,K4,N4,HE⟩:∃R4 p4 f4 kq xq M4,Hid (SB (w.heap.size+1+1) R4 p4 f4 W3)∧Hid (KB (w.heap.size+1+1+1+1+1) kq xq W3)∧Hid (RM P M4 W5)∧Hid (OO=⟨M4,R4,p4,f4,kq,xq⟩):=⟨_,_,_,_,_,_,κ h4.t,κ h4.k,M3,HE⟩
 case' n15=>
  rintro⟨hk,rfl,eo⟩
  have HE:=κ (show OO=(⟨M,R,pc,f,kk,xx⟩:Out) from HO.out.symm.trans eo)
  clear eo
  have b0:(kk==0)=false:=by rw [beq_eq_false_iff_ne];exact hk
  have BH:(kk !=0)=true:=by rw [bne,b0];rfl
  go_upto_region 28 with(go_at_call 147;(with_reducible refine(CS.out _ (by repeat(first | exact M1.out | apply aI | apply RM.drew))).mono ?_);rintro e w3 ⟨rfl,b3⟩;obtain⟨H3,M3,U3⟩:=(show Hid (MB w.heap.size R pc f 15 d s o m R nx f 0 0 w3)∧Hid (RM P M w3)∧Hid (ah P.has w w3) from dJ (P:=P) (M:=M) (R':=R) b3 (by repeat(first | exact H1.out | apply aY | apply MB.drew)) (by repeat(first | exact M1.out | apply aI | apply RM.drew)) (by repeat(first | exact U1.out | apply ah.alloc | apply ah.drew)) dD.out);clear b3 x1 x2 x3 x4 s7 sd ss s9 t7 td t8 t9 fF fG fH fJ k0 k1 eX eY lk lt x0;obtain⟨x1,x2,x3,x4,s7,sd,ss,s9,t7,td,t8,t9,fF,fG,fH,fJ,k0,k1,eX,eY,lk,lt⟩:=H3.out.all hd hs)
  have h4:=(H3.out.iD kk xx).bI 7 (by omega) (au (R 7+4))
  generalize eW:(((w3.setCell ⟨w.heap.size+1+1+1+1+1,0,none⟩ (.int .i64 kk)).setCell ⟨w.heap.size+1+1+1+1+1,1,none⟩ (.int .u32 xx)).setCell ⟨w.heap.size+1+1,7,none⟩ (.int .u32 (au (R 7+4))))=W5 at h4⊢
  clear x1 x2 x3 x4 s7 sd ss s9 t7 td t8 t9 fF fG fH fJ k0 k1 eX eY lk lt
  have m4:RM P M W5:=by rw [←eW];repeat(first | exact M3.out | refine aS ?_ (dD.out _ (by omega)))
  have u4:ah P.has w W5:=by rw [←eW];repeat(first | exact U3.out | refine aK ?_ (by omega))
  clear eW
  have H3:=κ h4
  have M3:=κ m4
  have U3:=κ u4
  clear h4 m4 u4
  obtain⟨x1,x2,x3,x4,s7,sd,ss,s9,t7,td,t8,t9,fF,fG,fH,fJ,k0,k1,eX,eY,lk,lt⟩:=H3.out.all hd hs
  go_wp2_with fail
  have h4:=H3.out.bI d hd 0
  generalize eW:(W5.setCell ⟨w.heap.size+1+1,d,none⟩ (.int .u32 0))=W3 at h4⊢
  obtain⟨R4,p4,f4,kq,xq,M4,T4,K4,N4,HE⟩:∃R4 p4 f4 kq xq M4,Hid (SB (w.heap.size+1) R4 p4 f4 W3)∧Hid (KB (w.heap.size+1+1+1+1+1) kq xq W3)∧Hid (RM P M4 W5)∧Hid (OO=⟨M4,R4,p4,f4,kq,xq⟩):=⟨_,_,_,_,_,_,κ h4.s,κ h4.k,M3,HE⟩
 case' c11=>
  intro ek
  subst ek
  obtain⟨v,kk,xx,⟨v0,v1,vx⟩,C,hO⟩:=oJ (R:=R) (pc:=pc) (f:=f) P (au (R s+m)) 4 HM.out (aP (R s+m)).1 (aP (R s+m)).2 (by omega) (fun v=>⟨M,R,v,f,0,0⟩) (fun _=>rfl)
  clear vx
  have CS:=κ C
  clear C
  refine hO.elim ?g11 ?n11
 case' g11=>
  rintro⟨rfl,rfl,eo⟩
  have HE:=κ (show OO=(⟨M,R,v,f,0,0⟩:Out) from HO.out.symm.trans eo)
  clear eo
  go_wp2_with (go_at_call 147;(with_reducible refine(CS.out _ (by repeat(first | exact M1.out | apply aI | apply RM.drew))).mono ?_);rintro e w3 ⟨rfl,b3⟩;obtain⟨H3,M3,U3⟩:=(show Hid (MB w.heap.size R pc f 11 d s o m R nx f 0 0 w3)∧Hid (RM P M w3)∧Hid (ah P.has w w3) from dJ (P:=P) (M:=M) (R':=R) b3 (by repeat(first | exact H1.out | apply aY | apply MB.drew)) (by repeat(first | exact M1.out | apply aI | apply RM.drew)) (by repeat(first | exact U1.out | apply ah.alloc | apply ah.drew)) dD.out);clear b3 x1 x2 x3 x4 s7 sd ss s9 t7 td t8 t9 fF fG fH fJ k0 k1 eX eY lk lt x0;obtain⟨x1,x2,x3,x4,s7,sd,ss,s9,t7,td,t8,t9,fF,fG,fH,fJ,k0,k1,eX,eY,lk,lt⟩:=H3.out.all hd hs)
  have h4:=(H3.out.jk v).iD 0 0
  generalize eW:(((w3.setCell ⟨w.heap.size+1+1,8,none⟩ (.int .u32 v)).setCell ⟨w.heap.size+1+1+1+1+1,0,none⟩ (.int .i64 0)).setCell ⟨w.heap.size+1+1+1+1+1,1,none⟩ (.int .u32 0))=W3 at h4⊢
  obtain⟨R4,p4,f4,kq,xq,M4,T4,K4,N4,HE⟩:∃R4 p4 f4 kq xq M4,Hid (SB (w.heap.size+1+1) R4 p4 f4 W3)∧Hid (KB (w.heap.size+1+1+1+1+1) kq xq W3)∧Hid (RM P M4 w3)∧Hid (OO=⟨M4,R4,p4,f4,kq,xq⟩):=⟨_,_,_,_,_,_,κ h4.t,κ h4.k,M3,HE⟩
 case' n11=>
  rintro⟨hk,rfl,eo⟩
  have HE:=κ (show OO=(⟨M,R,pc,f,kk,xx⟩:Out) from HO.out.symm.trans eo)
  clear eo
  have b0:(kk==0)=false:=by rw [beq_eq_false_iff_ne];exact hk
  have BH:(kk !=0)=true:=by rw [bne,b0];rfl
  go_wp2_with (go_at_call 147;(with_reducible refine(CS.out _ (by repeat(first | exact M1.out | apply aI | apply RM.drew))).mono ?_);rintro e w3 ⟨rfl,b3⟩;obtain⟨H3,M3,U3⟩:=(show Hid (MB w.heap.size R pc f 11 d s o m R nx f 0 0 w3)∧Hid (RM P M w3)∧Hid (ah P.has w w3) from dJ (P:=P) (M:=M) (R':=R) b3 (by repeat(first | exact H1.out | apply aY | apply MB.drew)) (by repeat(first | exact M1.out | apply aI | apply RM.drew)) (by repeat(first | exact U1.out | apply ah.alloc | apply ah.drew)) dD.out);clear b3 x1 x2 x3 x4 s7 sd ss s9 t7 td t8 t9 fF fG fH fJ k0 k1 eX eY lk lt x0;obtain⟨x1,x2,x3,x4,s7,sd,ss,s9,t7,td,t8,t9,fF,fG,fH,fJ,k0,k1,eX,eY,lk,lt⟩:=H3.out.all hd hs)
  have h4:=(H3.out.jk 0).iD kk xx
  generalize eW:(((w3.setCell ⟨w.heap.size+1+1,8,none⟩ (.int .u32 0)).setCell ⟨w.heap.size+1+1+1+1+1,0,none⟩ (.int .i64 kk)).setCell ⟨w.heap.size+1+1+1+1+1,1,none⟩ (.int .u32 xx))=W3 at h4⊢
  obtain⟨R4,p4,f4,kq,xq,M4,T4,K4,N4,HE⟩:∃R4 p4 f4 kq xq M4,Hid (SB (w.heap.size+1) R4 p4 f4 W3)∧Hid (KB (w.heap.size+1+1+1+1+1) kq xq W3)∧Hid (RM P M4 w3)∧Hid (OO=⟨M4,R4,p4,f4,kq,xq⟩):=⟨_,_,_,_,_,_,κ h4.s,κ h4.k,M3,HE⟩
 case' c3=>
  intro ek
  subst ek
  obtain⟨M',kk,xx,C,hO⟩:=zL (R:=R) (pc:=pc) (f:=f) P (au (R 7-4)) 4 (f) HM.out (aP (R 7-4)).1 (aP (R 7-4)).2 (NB.out.2).1 (by have:=NB.out.2.2;omega) (fun M'=>⟨M',aF R 7 (au (R 7-4)),nx,f,0,0⟩) (fun _=>rfl)
  have CS:=κ C
  clear C
  refine hO.elim ?g3 ?n3
 case' g3=>
  rintro⟨rfl,rfl,eo⟩
  have HE:=κ (show OO=(⟨M',aF R 7 (au (R 7-4)),nx,f,0,0⟩:Out) from HO.out.symm.trans eo)
  clear eo
  go_wp2_with (go_at_call 148;(with_reducible refine(CS.out _ (by repeat(first | exact M1.out | apply aI | apply RM.drew))).mono ?_);rintro e w3 ⟨rfl,b3⟩;obtain⟨H3,M3,U3⟩:=(show Hid (MB w.heap.size R pc f 3 d s o m R nx f 0 0 w3)∧Hid (RM P M' w3)∧Hid (ah P.has w w3) from mV (P:=P) (R':=R) b3 (by repeat(first | exact H1.out | apply aY | apply MB.drew)) (by repeat(first | exact U1.out | apply ah.alloc | apply ah.drew)) dD.out);clear b3 x1 x2 x3 x4 s7 sd ss s9 t7 td t8 t9 fF fG fH fJ k0 k1 eX eY lk lt x0;obtain⟨x1,x2,x3,x4,s7,sd,ss,s9,t7,td,t8,t9,fF,fG,fH,fJ,k0,k1,eX,eY,lk,lt⟩:=H3.out.all hd hs)
  have h4:=(H3.out.iD 0 0).bI 7 (by omega) (au (R 7-4))
  generalize eW:(((w3.setCell ⟨w.heap.size+1+1+1+1+1,0,none⟩ (.int .i64 0)).setCell ⟨w.heap.size+1+1+1+1+1,1,none⟩ (.int .u32 0)).setCell ⟨w.heap.size+1+1,7,none⟩ (.int .u32 (au (R 7-4))))=W3 at h4⊢
  obtain⟨R4,p4,f4,kq,xq,M4,T4,K4,N4,HE⟩:∃R4 p4 f4 kq xq M4,Hid (SB (w.heap.size+1+1) R4 p4 f4 W3)∧Hid (KB (w.heap.size+1+1+1+1+1) kq xq W3)∧Hid (RM P M4 w3)∧Hid (OO=⟨M4,R4,p4,f4,kq,xq⟩):=⟨_,_,_,_,_,_,κ h4.t,κ h4.k,M3,HE⟩
 case' n3=>
  rintro⟨hk,eo⟩
  have HE:=κ (show OO=(⟨M',R,pc,f,kk,xx⟩:Out) from HO.out.symm.trans eo)
  clear eo
  have b0:(kk==0)=false:=by rw [beq_eq_false_iff_ne];exact hk
  have BH:(kk !=0)=true:=by rw [bne,b0];rfl
  go_wp2_with (go_at_call 148;(with_reducible refine(CS.out _ (by repeat(first | exact M1.out | apply aI | apply RM.drew))).mono ?_);rintro e w3 ⟨rfl,b3⟩;obtain⟨H3,M3,U3⟩:=(show Hid (MB w.heap.size R pc f 3 d s o m R nx f 0 0 w3)∧Hid (RM P M' w3)∧Hid (ah P.has w w3) from mV (P:=P) (R':=R) b3 (by repeat(first | exact H1.out | apply aY | apply MB.drew)) (by repeat(first | exact U1.out | apply ah.alloc | apply ah.drew)) dD.out);clear b3 x1 x2 x3 x4 s7 sd ss s9 t7 td t8 t9 fF fG fH fJ k0 k1 eX eY lk lt x0;obtain⟨x1,x2,x3,x4,s7,sd,ss,s9,t7,td,t8,t9,fF,fG,fH,fJ,k0,k1,eX,eY,lk,lt⟩:=H3.out.all hd hs)
  have h4:=(H3.out.iD kk xx).bI 7 (by omega) (au (R 7-4))
  generalize eW:(((w3.setCell ⟨w.heap.size+1+1+1+1+1,0,none⟩ (.int .i64 kk)).setCell ⟨w.heap.size+1+1+1+1+1,1,none⟩ (.int .u32 xx)).setCell ⟨w.heap.size+1+1,7,none⟩ (.int .u32 (au (R 7-4))))=W3 at h4⊢
  obtain⟨R4,p4,f4,kq,xq,M4,T4,K4,N4,HE⟩:∃R4 p4 f4 kq xq M4,Hid (SB (w.heap.size+1) R4 p4 f4 W3)∧Hid (KB (w.heap.size+1+1+1+1+1) kq xq W3)∧Hid (RM P M4 w3)∧Hid (OO=⟨M4,R4,p4,f4,kq,xq⟩):=⟨_,_,_,_,_,_,κ h4.s,κ h4.k,M3,HE⟩
 case' c8=>
  intro ek
  subst ek
  obtain⟨M',kk,xx,C,hO⟩:=zL (R:=R) (pc:=pc) (f:=f) P (au (R 7-4)) 4 (nx) HM.out (aP (R 7-4)).1 (aP (R 7-4)).2 (NB.out.1).1 (NB.out.1).2 (fun M'=>⟨M',aF R 7 (au (R 7-4)),au (nx+m),f,0,0⟩) (fun _=>rfl)
  have CS:=κ C
  clear C
  refine hO.elim ?g8 ?n8
 case' g8=>
  rintro⟨rfl,rfl,eo⟩
  have HE:=κ (show OO=(⟨M',aF R 7 (au (R 7-4)),au (nx+m),f,0,0⟩:Out) from HO.out.symm.trans eo)
  clear eo
  go_wp2_with (go_at_call 148;(with_reducible refine(CS.out _ (by repeat(first | exact M1.out | apply aI | apply RM.drew))).mono ?_);rintro e w3 ⟨rfl,b3⟩;obtain⟨H3,M3,U3⟩:=(show Hid (MB w.heap.size R pc f 8 d s o m R nx f 0 0 w3)∧Hid (RM P M' w3)∧Hid (ah P.has w w3) from mV (P:=P) (R':=R) b3 (by repeat(first | exact H1.out | apply aY | apply MB.drew)) (by repeat(first | exact U1.out | apply ah.alloc | apply ah.drew)) dD.out);clear b3 x1 x2 x3 x4 s7 sd ss s9 t7 td t8 t9 fF fG fH fJ k0 k1 eX eY lk lt x0;obtain⟨x1,x2,x3,x4,s7,sd,ss,s9,t7,td,t8,t9,fF,fG,fH,fJ,k0,k1,eX,eY,lk,lt⟩:=H3.out.all hd hs)
  have h4:=((H3.out.iD 0 0).bI 7 (by omega) (au (R 7-4))).jk (au (nx+m))
  generalize eW:((((w3.setCell ⟨w.heap.size+1+1+1+1+1,0,none⟩ (.int .i64 0)).setCell ⟨w.heap.size+1+1+1+1+1,1,none⟩ (.int .u32 0)).setCell ⟨w.heap.size+1+1,7,none⟩ (.int .u32 (au (R 7-4)))).setCell ⟨w.heap.size+1+1,8,none⟩ (.int .u32 (au (nx+m))))=W3 at h4⊢
  obtain⟨R4,p4,f4,kq,xq,M4,T4,K4,N4,HE⟩:∃R4 p4 f4 kq xq M4,Hid (SB (w.heap.size+1+1) R4 p4 f4 W3)∧Hid (KB (w.heap.size+1+1+1+1+1) kq xq W3)∧Hid (RM P M4 w3)∧Hid (OO=⟨M4,R4,p4,f4,kq,xq⟩):=⟨_,_,_,_,_,_,κ h4.t,κ h4.k,M3,HE⟩
 case' n8=>
  rintro⟨hk,eo⟩
  have HE:=κ (show OO=(⟨M',R,pc,f,kk,xx⟩:Out) from HO.out.symm.trans eo)
  clear eo
  have b0:(kk==0)=false:=by rw [beq_eq_false_iff_ne];exact hk
  have BH:(kk !=0)=true:=by rw [bne,b0];rfl
  go_wp2_with (go_at_call 148;(with_reducible refine(CS.out _ (by repeat(first | exact M1.out | apply aI | apply RM.drew))).mono ?_);rintro e w3 ⟨rfl,b3⟩;obtain⟨H3,M3,U3⟩:=(show Hid (MB w.heap.size R pc f 8 d s o m R nx f 0 0 w3)∧Hid (RM P M' w3)∧Hid (ah P.has w w3) from mV (P:=P) (R':=R) b3 (by repeat(first | exact H1.out | apply aY | apply MB.drew)) (by repeat(first | exact U1.out | apply ah.alloc | apply ah.drew)) dD.out);clear b3 x1 x2 x3 x4 s7 sd ss s9 t7 td t8 t9 fF fG fH fJ k0 k1 eX eY lk lt x0;obtain⟨x1,x2,x3,x4,s7,sd,ss,s9,t7,td,t8,t9,fF,fG,fH,fJ,k0,k1,eX,eY,lk,lt⟩:=H3.out.all hd hs)
  have h4:=((H3.out.iD kk xx).bI 7 (by omega) (au (R 7-4))).jk (au (nx+m))
  generalize eW:((((w3.setCell ⟨w.heap.size+1+1+1+1+1,0,none⟩ (.int .i64 kk)).setCell ⟨w.heap.size+1+1+1+1+1,1,none⟩ (.int .u32 xx)).setCell ⟨w.heap.size+1+1,7,none⟩ (.int .u32 (au (R 7-4)))).setCell ⟨w.heap.size+1+1,8,none⟩ (.int .u32 (au (nx+m))))=W3 at h4⊢
  obtain⟨R4,p4,f4,kq,xq,M4,T4,K4,N4,HE⟩:∃R4 p4 f4 kq xq M4,Hid (SB (w.heap.size+1) R4 p4 f4 W3)∧Hid (KB (w.heap.size+1+1+1+1+1) kq xq W3)∧Hid (RM P M4 w3)∧Hid (OO=⟨M4,R4,p4,f4,kq,xq⟩):=⟨_,_,_,_,_,_,κ h4.s,κ h4.k,M3,HE⟩
 case' c10=>
  intro ek
  subst ek
  obtain⟨M',kk,xx,C,hO⟩:=zL (R:=R) (pc:=pc) (f:=f) P (au (R 7-4)) 4 (nx) HM.out (aP (R 7-4)).1 (aP (R 7-4)).2 (NB.out.1).1 (NB.out.1).2 (fun M'=>⟨M',aF R 7 (au (R 7-4)),R s,f,0,0⟩) (fun _=>rfl)
  have CS:=κ C
  clear C
  refine hO.elim ?g10 ?n10
 case' g10=>
  rintro⟨rfl,rfl,eo⟩
  have HE:=κ (show OO=(⟨M',aF R 7 (au (R 7-4)),R s,f,0,0⟩:Out) from HO.out.symm.trans eo)
  clear eo
  go_wp2_with (go_at_call 148;(with_reducible refine(CS.out _ (by repeat(first | exact M1.out | apply aI | apply RM.drew))).mono ?_);rintro e w3 ⟨rfl,b3⟩;obtain⟨H3,M3,U3⟩:=(show Hid (MB w.heap.size R pc f 10 d s o m R nx f 0 0 w3)∧Hid (RM P M' w3)∧Hid (ah P.has w w3) from mV (P:=P) (R':=R) b3 (by repeat(first | exact H1.out | apply aY | apply MB.drew)) (by repeat(first | exact U1.out | apply ah.alloc | apply ah.drew)) dD.out);clear b3 x1 x2 x3 x4 s7 sd ss s9 t7 td t8 t9 fF fG fH fJ k0 k1 eX eY lk lt x0;obtain⟨x1,x2,x3,x4,s7,sd,ss,s9,t7,td,t8,t9,fF,fG,fH,fJ,k0,k1,eX,eY,lk,lt⟩:=H3.out.all hd hs)
  have h4:=((H3.out.iD 0 0).bI 7 (by omega) (au (R 7-4))).jk (R s)
  generalize eW:((((w3.setCell ⟨w.heap.size+1+1+1+1+1,0,none⟩ (.int .i64 0)).setCell ⟨w.heap.size+1+1+1+1+1,1,none⟩ (.int .u32 0)).setCell ⟨w.heap.size+1+1,7,none⟩ (.int .u32 (au (R 7-4)))).setCell ⟨w.heap.size+1+1,8,none⟩ (.int .u32 (R s)))=W3 at h4⊢
  obtain⟨R4,p4,f4,kq,xq,M4,T4,K4,N4,HE⟩:∃R4 p4 f4 kq xq M4,Hid (SB (w.heap.size+1+1) R4 p4 f4 W3)∧Hid (KB (w.heap.size+1+1+1+1+1) kq xq W3)∧Hid (RM P M4 w3)∧Hid (OO=⟨M4,R4,p4,f4,kq,xq⟩):=⟨_,_,_,_,_,_,κ h4.t,κ h4.k,M3,HE⟩
 case' n10=>
  rintro⟨hk,eo⟩
  have HE:=κ (show OO=(⟨M',R,pc,f,kk,xx⟩:Out) from HO.out.symm.trans eo)
  clear eo
  have b0:(kk==0)=false:=by rw [beq_eq_false_iff_ne];exact hk
  have BH:(kk !=0)=true:=by rw [bne,b0];rfl
  go_wp2_with (go_at_call 148;(with_reducible refine(CS.out _ (by repeat(first | exact M1.out | apply aI | apply RM.drew))).mono ?_);rintro e w3 ⟨rfl,b3⟩;obtain⟨H3,M3,U3⟩:=(show Hid (MB w.heap.size R pc f 10 d s o m R nx f 0 0 w3)∧Hid (RM P M' w3)∧Hid (ah P.has w w3) from mV (P:=P) (R':=R) b3 (by repeat(first | exact H1.out | apply aY | apply MB.drew)) (by repeat(first | exact U1.out | apply ah.alloc | apply ah.drew)) dD.out);clear b3 x1 x2 x3 x4 s7 sd ss s9 t7 td t8 t9 fF fG fH fJ k0 k1 eX eY lk lt x0;obtain⟨x1,x2,x3,x4,s7,sd,ss,s9,t7,td,t8,t9,fF,fG,fH,fJ,k0,k1,eX,eY,lk,lt⟩:=H3.out.all hd hs)
  have h4:=((H3.out.iD kk xx).bI 7 (by omega) (au (R 7-4))).jk (R s)
  generalize eW:((((w3.setCell ⟨w.heap.size+1+1+1+1+1,0,none⟩ (.int .i64 kk)).setCell ⟨w.heap.size+1+1+1+1+1,1,none⟩ (.int .u32 xx)).setCell ⟨w.heap.size+1+1,7,none⟩ (.int .u32 (au (R 7-4)))).setCell ⟨w.heap.size+1+1,8,none⟩ (.int .u32 (R s)))=W3 at h4⊢
  obtain⟨R4,p4,f4,kq,xq,M4,T4,K4,N4,HE⟩:∃R4 p4 f4 kq xq M4,Hid (SB (w.heap.size+1) R4 p4 f4 W3)∧Hid (KB (w.heap.size+1+1+1+1+1) kq xq W3)∧Hid (RM P M4 w3)∧Hid (OO=⟨M4,R4,p4,f4,kq,xq⟩):=⟨_,_,_,_,_,_,κ h4.s,κ h4.k,M3,HE⟩
 case' c14=>
  intro ek
  subst ek
  obtain⟨M',kk,xx,C,hO⟩:=zL (R:=R) (pc:=pc) (f:=f) P (au (R 7-4)) 4 (R s) HM.out (aP (R 7-4)).1 (aP (R 7-4)).2 (HR.out s).1 (HR.out s).2 (fun M'=>⟨M',aF R 7 (au (R 7-4)),nx,f,0,0⟩) (fun _=>rfl)
  have CS:=κ C
  clear C
  refine hO.elim ?g14 ?n14
 case' g14=>
  rintro⟨rfl,rfl,eo⟩
  have HE:=κ (show OO=(⟨M',aF R 7 (au (R 7-4)),nx,f,0,0⟩:Out) from HO.out.symm.trans eo)
  clear eo
  go_wp2_with (go_at_call 148;(with_reducible refine(CS.out _ (by repeat(first | exact M1.out | apply aI | apply RM.drew))).mono ?_);rintro e w3 ⟨rfl,b3⟩;obtain⟨H3,M3,U3⟩:=(show Hid (MB w.heap.size R pc f 14 d s o m R nx f 0 0 w3)∧Hid (RM P M' w3)∧Hid (ah P.has w w3) from mV (P:=P) (R':=R) b3 (by repeat(first | exact H1.out | apply aY | apply MB.drew)) (by repeat(first | exact U1.out | apply ah.alloc | apply ah.drew)) dD.out);clear b3 x1 x2 x3 x4 s7 sd ss s9 t7 td t8 t9 fF fG fH fJ k0 k1 eX eY lk lt x0;obtain⟨x1,x2,x3,x4,s7,sd,ss,s9,t7,td,t8,t9,fF,fG,fH,fJ,k0,k1,eX,eY,lk,lt⟩:=H3.out.all hd hs)
  have h4:=(H3.out.iD 0 0).bI 7 (by omega) (au (R 7-4))
  generalize eW:(((w3.setCell ⟨w.heap.size+1+1+1+1+1,0,none⟩ (.int .i64 0)).setCell ⟨w.heap.size+1+1+1+1+1,1,none⟩ (.int .u32 0)).setCell ⟨w.heap.size+1+1,7,none⟩ (.int .u32 (au (R 7-4))))=W3 at h4⊢
  obtain⟨R4,p4,f4,kq,xq,M4,T4,K4,N4,HE⟩:∃R4 p4 f4 kq xq M4,Hid (SB (w.heap.size+1+1) R4 p4 f4 W3)∧Hid (KB (w.heap.size+1+1+1+1+1) kq xq W3)∧Hid (RM P M4 w3)∧Hid (OO=⟨M4,R4,p4,f4,kq,xq⟩):=⟨_,_,_,_,_,_,κ h4.t,κ h4.k,M3,HE⟩
 case' n14=>
  rintro⟨hk,eo⟩
  have HE:=κ (show OO=(⟨M',R,pc,f,kk,xx⟩:Out) from HO.out.symm.trans eo)
  clear eo
  have b0:(kk==0)=false:=by rw [beq_eq_false_iff_ne];exact hk
  have BH:(kk !=0)=true:=by rw [bne,b0];rfl
  go_wp2_with (go_at_call 148;(with_reducible refine(CS.out _ (by repeat(first | exact M1.out | apply aI | apply RM.drew))).mono ?_);rintro e w3 ⟨rfl,b3⟩;obtain⟨H3,M3,U3⟩:=(show Hid (MB w.heap.size R pc f 14 d s o m R nx f 0 0 w3)∧Hid (RM P M' w3)∧Hid (ah P.has w w3) from mV (P:=P) (R':=R) b3 (by repeat(first | exact H1.out | apply aY | apply MB.drew)) (by repeat(first | exact U1.out | apply ah.alloc | apply ah.drew)) dD.out);clear b3 x1 x2 x3 x4 s7 sd ss s9 t7 td t8 t9 fF fG fH fJ k0 k1 eX eY lk lt x0;obtain⟨x1,x2,x3,x4,s7,sd,ss,s9,t7,td,t8,t9,fF,fG,fH,fJ,k0,k1,eX,eY,lk,lt⟩:=H3.out.all hd hs)
  have h4:=(H3.out.iD kk xx).bI 7 (by omega) (au (R 7-4))
  generalize eW:(((w3.setCell ⟨w.heap.size+1+1+1+1+1,0,none⟩ (.int .i64 kk)).setCell ⟨w.heap.size+1+1+1+1+1,1,none⟩ (.int .u32 xx)).setCell ⟨w.heap.size+1+1,7,none⟩ (.int .u32 (au (R 7-4))))=W3 at h4⊢
  obtain⟨R4,p4,f4,kq,xq,M4,T4,K4,N4,HE⟩:∃R4 p4 f4 kq xq M4,Hid (SB (w.heap.size+1) R4 p4 f4 W3)∧Hid (KB (w.heap.size+1+1+1+1+1) kq xq W3)∧Hid (RM P M4 w3)∧Hid (OO=⟨M4,R4,p4,f4,kq,xq⟩):=⟨_,_,_,_,_,_,κ h4.s,κ h4.k,M3,HE⟩
 case' abZ=>
  rintro⟨ek,eo⟩
  subst ek
  subst eo
  obtain⟨v,kk,xx,⟨v0,v1,vx⟩,C,hO⟩:=oJ (R:=R) (pc:=pc) (f:=f) P (au (R s+m)) 1 HM.out (aP (R s+m)).1 (aP (R s+m)).2 (by omega) (fun v=>⟨M,aF R d (jd 0 v),nx,f,0,0⟩) (fun _=>rfl)
  clear vx
  have CS:=κ C
  clear C
  refine hO.elim ?ab5 ?ab6
 case' ab5=>
  rintro⟨rfl,rfl,eo⟩
  have HE:=κ (show OO=(⟨M,aF R d v,nx,f,0,0⟩:Out) from HO.out.symm.trans eo)
  clear eo
  go_wp2_with (go_at_call 147;(with_reducible refine(CS.out _ (by repeat(first | exact M1.out | apply aI | apply RM.drew))).mono ?_);rintro e w3 ⟨rfl,b3⟩;obtain⟨H3,M3,U3⟩:=(show Hid (MB w.heap.size R pc f 30 d s 0 m R nx f 0 0 w3)∧Hid (RM P M w3)∧Hid (ah P.has w w3) from dJ (P:=P) (M:=M) (R':=R) b3 (by repeat(first | exact H1.out | apply aY | apply MB.drew)) (by repeat(first | exact M1.out | apply aI | apply RM.drew)) (by repeat(first | exact U1.out | apply ah.alloc | apply ah.drew)) dD.out);clear b3 x1 x2 x3 x4 s7 sd ss s9 t7 td t8 t9 fF fG fH fJ k0 k1 eX eY lk lt x0;obtain⟨x1,x2,x3,x4,s7,sd,ss,s9,t7,td,t8,t9,fF,fG,fH,fJ,k0,k1,eX,eY,lk,lt⟩:=H3.out.all hd hs)
  have h4:=(H3.out.iD 0 0).bI d hd v
  generalize eW:(((w3.setCell ⟨w.heap.size+1+1+1+1+1,0,none⟩ (.int .i64 0)).setCell ⟨w.heap.size+1+1+1+1+1,1,none⟩ (.int .u32 0)).setCell ⟨w.heap.size+1+1,d,none⟩ (.int .u32 v))=W3 at h4⊢
  obtain⟨R4,p4,f4,kq,xq,M4,T4,K4,N4,HE⟩:∃R4 p4 f4 kq xq M4,Hid (SB (w.heap.size+1+1) R4 p4 f4 W3)∧Hid (KB (w.heap.size+1+1+1+1+1) kq xq W3)∧Hid (RM P M4 w3)∧Hid (OO=⟨M4,R4,p4,f4,kq,xq⟩):=⟨_,_,_,_,_,_,κ h4.t,κ h4.k,M3,HE⟩
 case' ab6=>
  rintro⟨hk,rfl,eo⟩
  have HE:=κ (show OO=(⟨M,R,pc,f,kk,xx⟩:Out) from HO.out.symm.trans eo)
  clear eo
  have b0:(kk==0)=false:=by rw [beq_eq_false_iff_ne];exact hk
  have BH:(kk !=0)=true:=by rw [bne,b0];rfl
  go_wp2_with (go_at_call 147;(with_reducible refine(CS.out _ (by repeat(first | exact M1.out | apply aI | apply RM.drew))).mono ?_);rintro e w3 ⟨rfl,b3⟩;obtain⟨H3,M3,U3⟩:=(show Hid (MB w.heap.size R pc f 30 d s 0 m R nx f 0 0 w3)∧Hid (RM P M w3)∧Hid (ah P.has w w3) from dJ (P:=P) (M:=M) (R':=R) b3 (by repeat(first | exact H1.out | apply aY | apply MB.drew)) (by repeat(first | exact M1.out | apply aI | apply RM.drew)) (by repeat(first | exact U1.out | apply ah.alloc | apply ah.drew)) dD.out);clear b3 x1 x2 x3 x4 s7 sd ss s9 t7 td t8 t9 fF fG fH fJ k0 k1 eX eY lk lt x0;obtain⟨x1,x2,x3,x4,s7,sd,ss,s9,t7,td,t8,t9,fF,fG,fH,fJ,k0,k1,eX,eY,lk,lt⟩:=H3.out.all hd hs)
  have h4:=(H3.out.iD kk xx).bI d hd 0
  generalize eW:(((w3.setCell ⟨w.heap.size+1+1+1+1+1,0,none⟩ (.int .i64 kk)).setCell ⟨w.heap.size+1+1+1+1+1,1,none⟩ (.int .u32 xx)).setCell ⟨w.heap.size+1+1,d,none⟩ (.int .u32 0))=W3 at h4⊢
  obtain⟨R4,p4,f4,kq,xq,M4,T4,K4,N4,HE⟩:∃R4 p4 f4 kq xq M4,Hid (SB (w.heap.size+1) R4 p4 f4 W3)∧Hid (KB (w.heap.size+1+1+1+1+1) kq xq W3)∧Hid (RM P M4 w3)∧Hid (OO=⟨M4,R4,p4,f4,kq,xq⟩):=⟨_,_,_,_,_,_,κ h4.s,κ h4.k,M3,HE⟩
 case' ab1=>
  rintro⟨ek,eo⟩
  subst ek
  subst eo
  obtain⟨v,kk,xx,⟨v0,v1,vx⟩,C,hO⟩:=oJ (R:=R) (pc:=pc) (f:=f) P (au (R s+m)) 1 HM.out (aP (R s+m)).1 (aP (R s+m)).2 (by omega) (fun v=>⟨M,aF R d (jd 1 v),nx,f,0,0⟩) (fun _=>rfl)
  have v2:=vx.1 rfl
  clear vx
  have CS:=κ C
  clear C
  refine hO.elim ?ab7 ?ab8
 case' ab7=>
  rintro⟨rfl,rfl,eo⟩
  refine(show v<128∨128≤v by omega).elim ?ab9 ?acd
 case' acd=>
  intro hv
  have ew:jd 1 v=(v+4294967040):=by unfold jd;split<;>(try split) <;>omega
  have e8:(v+4294967040)%4294967296=v+4294967040:=by omega
  have HE:=κ (show OO=(⟨M,aF R d (v+4294967040),nx,f,0,0⟩:Out) from HO.out.symm.trans (eo.trans (by rw [ew])))
  clear eo ew
  go_wp2_with (go_at_call 147;(with_reducible refine(CS.out _ (by repeat(first | exact M1.out | apply aI | apply RM.drew))).mono ?_);rintro e w3 ⟨rfl,b3⟩;obtain⟨H3,M3,U3⟩:=(show Hid (MB w.heap.size R pc f 30 d s 1 m R nx f 0 0 w3)∧Hid (RM P M w3)∧Hid (ah P.has w w3) from dJ (P:=P) (M:=M) (R':=R) b3 (by repeat(first | exact H1.out | apply aY | apply MB.drew)) (by repeat(first | exact M1.out | apply aI | apply RM.drew)) (by repeat(first | exact U1.out | apply ah.alloc | apply ah.drew)) dD.out);clear b3 x1 x2 x3 x4 s7 sd ss s9 t7 td t8 t9 fF fG fH fJ k0 k1 eX eY lk lt x0;obtain⟨x1,x2,x3,x4,s7,sd,ss,s9,t7,td,t8,t9,fF,fG,fH,fJ,k0,k1,eX,eY,lk,lt⟩:=H3.out.all hd hs)
  have h4:=(H3.out.iD 0 0).bI d hd (v+4294967040)
  generalize eW:(((w3.setCell ⟨w.heap.size+1+1+1+1+1,0,none⟩ (.int .i64 0)).setCell ⟨w.heap.size+1+1+1+1+1,1,none⟩ (.int .u32 0)).setCell ⟨w.heap.size+1+1,d,none⟩ (.int .u32 (v+4294967040)))=W3 at h4⊢
  obtain⟨R4,p4,f4,kq,xq,M4,T4,K4,N4,HE⟩:∃R4 p4 f4 kq xq M4,Hid (SB (w.heap.size+1+1) R4 p4 f4 W3)∧Hid (KB (w.heap.size+1+1+1+1+1) kq xq W3)∧Hid (RM P M4 w3)∧Hid (OO=⟨M4,R4,p4,f4,kq,xq⟩):=⟨_,_,_,_,_,_,κ h4.t,κ h4.k,M3,HE⟩
 case' ab9=>
  intro hv
  have ew:jd 1 v=v:=by unfold jd;split<;>(try split) <;>omega
  have HE:=κ (show OO=(⟨M,aF R d v,nx,f,0,0⟩:Out) from HO.out.symm.trans (eo.trans (by rw [ew])))
  clear eo ew
  go_wp2_with (go_at_call 147;(with_reducible refine(CS.out _ (by repeat(first | exact M1.out | apply aI | apply RM.drew))).mono ?_);rintro e w3 ⟨rfl,b3⟩;obtain⟨H3,M3,U3⟩:=(show Hid (MB w.heap.size R pc f 30 d s 1 m R nx f 0 0 w3)∧Hid (RM P M w3)∧Hid (ah P.has w w3) from dJ (P:=P) (M:=M) (R':=R) b3 (by repeat(first | exact H1.out | apply aY | apply MB.drew)) (by repeat(first | exact M1.out | apply aI | apply RM.drew)) (by repeat(first | exact U1.out | apply ah.alloc | apply ah.drew)) dD.out);clear b3 x1 x2 x3 x4 s7 sd ss s9 t7 td t8 t9 fF fG fH fJ k0 k1 eX eY lk lt x0;obtain⟨x1,x2,x3,x4,s7,sd,ss,s9,t7,td,t8,t9,fF,fG,fH,fJ,k0,k1,eX,eY,lk,lt⟩:=H3.out.all hd hs)
  have h4:=(H3.out.iD 0 0).bI d hd v
  generalize eW:(((w3.setCell ⟨w.heap.size+1+1+1+1+1,0,none⟩ (.int .i64 0)).setCell ⟨w.heap.size+1+1+1+1+1,1,none⟩ (.int .u32 0)).setCell ⟨w.heap.size+1+1,d,none⟩ (.int .u32 v))=W3 at h4⊢
  obtain⟨R4,p4,f4,kq,xq,M4,T4,K4,N4,HE⟩:∃R4 p4 f4 kq xq M4,Hid (SB (w.heap.size+1+1) R4 p4 f4 W3)∧Hid (KB (w.heap.size+1+1+1+1+1) kq xq W3)∧Hid (RM P M4 w3)∧Hid (OO=⟨M4,R4,p4,f4,kq,xq⟩):=⟨_,_,_,_,_,_,κ h4.t,κ h4.k,M3,HE⟩
 case' ab8=>
  rintro⟨hk,rfl,eo⟩
  have hv:(0:Int) <128:=by omega
  have HE:=κ (show OO=(⟨M,R,pc,f,kk,xx⟩:Out) from HO.out.symm.trans eo)
  clear eo
  have b0:(kk==0)=false:=by rw [beq_eq_false_iff_ne];exact hk
  have BH:(kk !=0)=true:=by rw [bne,b0];rfl
  go_wp2_with (go_at_call 147;(with_reducible refine(CS.out _ (by repeat(first | exact M1.out | apply aI | apply RM.drew))).mono ?_);rintro e w3 ⟨rfl,b3⟩;obtain⟨H3,M3,U3⟩:=(show Hid (MB w.heap.size R pc f 30 d s 1 m R nx f 0 0 w3)∧Hid (RM P M w3)∧Hid (ah P.has w w3) from dJ (P:=P) (M:=M) (R':=R) b3 (by repeat(first | exact H1.out | apply aY | apply MB.drew)) (by repeat(first | exact M1.out | apply aI | apply RM.drew)) (by repeat(first | exact U1.out | apply ah.alloc | apply ah.drew)) dD.out);clear b3 x1 x2 x3 x4 s7 sd ss s9 t7 td t8 t9 fF fG fH fJ k0 k1 eX eY lk lt x0;obtain⟨x1,x2,x3,x4,s7,sd,ss,s9,t7,td,t8,t9,fF,fG,fH,fJ,k0,k1,eX,eY,lk,lt⟩:=H3.out.all hd hs)
  have h4:=(H3.out.iD kk xx).bI d hd 0
  generalize eW:(((w3.setCell ⟨w.heap.size+1+1+1+1+1,0,none⟩ (.int .i64 kk)).setCell ⟨w.heap.size+1+1+1+1+1,1,none⟩ (.int .u32 xx)).setCell ⟨w.heap.size+1+1,d,none⟩ (.int .u32 0))=W3 at h4⊢
  obtain⟨R4,p4,f4,kq,xq,M4,T4,K4,N4,HE⟩:∃R4 p4 f4 kq xq M4,Hid (SB (w.heap.size+1) R4 p4 f4 W3)∧Hid (KB (w.heap.size+1+1+1+1+1) kq xq W3)∧Hid (RM P M4 w3)∧Hid (OO=⟨M4,R4,p4,f4,kq,xq⟩):=⟨_,_,_,_,_,_,κ h4.s,κ h4.k,M3,HE⟩
 case' ab2=>
  rintro⟨ek,eo⟩
  subst ek
  subst eo
  obtain⟨v,kk,xx,⟨v0,v1,vx⟩,C,hO⟩:=oJ (R:=R) (pc:=pc) (f:=f) P (au (R s+m)) 2 HM.out (aP (R s+m)).1 (aP (R s+m)).2 (by omega) (fun v=>⟨M,aF R d (jd 2 v),nx,f,0,0⟩) (fun _=>rfl)
  clear vx
  have CS:=κ C
  clear C
  refine hO.elim ?ace ?acf
 case' ace=>
  rintro⟨rfl,rfl,eo⟩
  have HE:=κ (show OO=(⟨M,aF R d v,nx,f,0,0⟩:Out) from HO.out.symm.trans eo)
  clear eo
  go_wp2_with (go_at_call 147;(with_reducible refine(CS.out _ (by repeat(first | exact M1.out | apply aI | apply RM.drew))).mono ?_);rintro e w3 ⟨rfl,b3⟩;obtain⟨H3,M3,U3⟩:=(show Hid (MB w.heap.size R pc f 30 d s 2 m R nx f 0 0 w3)∧Hid (RM P M w3)∧Hid (ah P.has w w3) from dJ (P:=P) (M:=M) (R':=R) b3 (by repeat(first | exact H1.out | apply aY | apply MB.drew)) (by repeat(first | exact M1.out | apply aI | apply RM.drew)) (by repeat(first | exact U1.out | apply ah.alloc | apply ah.drew)) dD.out);clear b3 x1 x2 x3 x4 s7 sd ss s9 t7 td t8 t9 fF fG fH fJ k0 k1 eX eY lk lt x0;obtain⟨x1,x2,x3,x4,s7,sd,ss,s9,t7,td,t8,t9,fF,fG,fH,fJ,k0,k1,eX,eY,lk,lt⟩:=H3.out.all hd hs)
  have h4:=(H3.out.iD 0 0).bI d hd v
  generalize eW:(((w3.setCell ⟨w.heap.size+1+1+1+1+1,0,none⟩ (.int .i64 0)).setCell ⟨w.heap.size+1+1+1+1+1,1,none⟩ (.int .u32 0)).setCell ⟨w.heap.size+1+1,d,none⟩ (.int .u32 v))=W3 at h4⊢
  obtain⟨R4,p4,f4,kq,xq,M4,T4,K4,N4,HE⟩:∃R4 p4 f4 kq xq M4,Hid (SB (w.heap.size+1+1) R4 p4 f4 W3)∧Hid (KB (w.heap.size+1+1+1+1+1) kq xq W3)∧Hid (RM P M4 w3)∧Hid (OO=⟨M4,R4,p4,f4,kq,xq⟩):=⟨_,_,_,_,_,_,κ h4.t,κ h4.k,M3,HE⟩
 case' acf=>
  rintro⟨hk,rfl,eo⟩
  have HE:=κ (show OO=(⟨M,R,pc,f,kk,xx⟩:Out) from HO.out.symm.trans eo)
  clear eo
  have b0:(kk==0)=false:=by rw [beq_eq_false_iff_ne];exact hk
  have BH:(kk !=0)=true:=by rw [bne,b0];rfl
  go_wp2_with (go_at_call 147;(with_reducible refine(CS.out _ (by repeat(first | exact M1.out | apply aI | apply RM.drew))).mono ?_);rintro e w3 ⟨rfl,b3⟩;obtain⟨H3,M3,U3⟩:=(show Hid (MB w.heap.size R pc f 30 d s 2 m R nx f 0 0 w3)∧Hid (RM P M w3)∧Hid (ah P.has w w3) from dJ (P:=P) (M:=M) (R':=R) b3 (by repeat(first | exact H1.out | apply aY | apply MB.drew)) (by repeat(first | exact M1.out | apply aI | apply RM.drew)) (by repeat(first | exact U1.out | apply ah.alloc | apply ah.drew)) dD.out);clear b3 x1 x2 x3 x4 s7 sd ss s9 t7 td t8 t9 fF fG fH fJ k0 k1 eX eY lk lt x0;obtain⟨x1,x2,x3,x4,s7,sd,ss,s9,t7,td,t8,t9,fF,fG,fH,fJ,k0,k1,eX,eY,lk,lt⟩:=H3.out.all hd hs)
  have h4:=(H3.out.iD kk xx).bI d hd 0
  generalize eW:(((w3.setCell ⟨w.heap.size+1+1+1+1+1,0,none⟩ (.int .i64 kk)).setCell ⟨w.heap.size+1+1+1+1+1,1,none⟩ (.int .u32 xx)).setCell ⟨w.heap.size+1+1,d,none⟩ (.int .u32 0))=W3 at h4⊢
  obtain⟨R4,p4,f4,kq,xq,M4,T4,K4,N4,HE⟩:∃R4 p4 f4 kq xq M4,Hid (SB (w.heap.size+1) R4 p4 f4 W3)∧Hid (KB (w.heap.size+1+1+1+1+1) kq xq W3)∧Hid (RM P M4 w3)∧Hid (OO=⟨M4,R4,p4,f4,kq,xq⟩):=⟨_,_,_,_,_,_,κ h4.s,κ h4.k,M3,HE⟩
 case' ab3=>
  rintro⟨ek,eo⟩
  subst ek
  subst eo
  obtain⟨v,kk,xx,⟨v0,v1,vx⟩,C,hO⟩:=oJ (R:=R) (pc:=pc) (f:=f) P (au (R s+m)) 2 HM.out (aP (R s+m)).1 (aP (R s+m)).2 (by omega) (fun v=>⟨M,aF R d (jd 3 v),nx,f,0,0⟩) (fun _=>rfl)
  have v2:=vx.2 rfl
  clear vx
  have CS:=κ C
  clear C
  refine hO.elim ?acg ?ach
 case' acg=>
  rintro⟨rfl,rfl,eo⟩
  refine(show v<32768∨32768≤v by omega).elim ?aci ?acj
 case' acj=>
  intro hv
  have ew:jd 3 v=(v+4294901760):=by unfold jd;split<;>(try split) <;>omega
  have e8:(v+4294901760)%4294967296=v+4294901760:=by omega
  have HE:=κ (show OO=(⟨M,aF R d (v+4294901760),nx,f,0,0⟩:Out) from HO.out.symm.trans (eo.trans (by rw [ew])))
  clear eo ew
  go_wp2_with (go_at_call 147;(with_reducible refine(CS.out _ (by repeat(first | exact M1.out | apply aI | apply RM.drew))).mono ?_);rintro e w3 ⟨rfl,b3⟩;obtain⟨H3,M3,U3⟩:=(show Hid (MB w.heap.size R pc f 30 d s 3 m R nx f 0 0 w3)∧Hid (RM P M w3)∧Hid (ah P.has w w3) from dJ (P:=P) (M:=M) (R':=R) b3 (by repeat(first | exact H1.out | apply aY | apply MB.drew)) (by repeat(first | exact M1.out | apply aI | apply RM.drew)) (by repeat(first | exact U1.out | apply ah.alloc | apply ah.drew)) dD.out);clear b3 x1 x2 x3 x4 s7 sd ss s9 t7 td t8 t9 fF fG fH fJ k0 k1 eX eY lk lt x0;obtain⟨x1,x2,x3,x4,s7,sd,ss,s9,t7,td,t8,t9,fF,fG,fH,fJ,k0,k1,eX,eY,lk,lt⟩:=H3.out.all hd hs)
  have h4:=(H3.out.iD 0 0).bI d hd (v+4294901760)
  generalize eW:(((w3.setCell ⟨w.heap.size+1+1+1+1+1,0,none⟩ (.int .i64 0)).setCell ⟨w.heap.size+1+1+1+1+1,1,none⟩ (.int .u32 0)).setCell ⟨w.heap.size+1+1,d,none⟩ (.int .u32 (v+4294901760)))=W3 at h4⊢
  obtain⟨R4,p4,f4,kq,xq,M4,T4,K4,N4,HE⟩:∃R4 p4 f4 kq xq M4,Hid (SB (w.heap.size+1+1) R4 p4 f4 W3)∧Hid (KB (w.heap.size+1+1+1+1+1) kq xq W3)∧Hid (RM P M4 w3)∧Hid (OO=⟨M4,R4,p4,f4,kq,xq⟩):=⟨_,_,_,_,_,_,κ h4.t,κ h4.k,M3,HE⟩
 case' aci=>
  intro hv
  have ew:jd 3 v=v:=by unfold jd;split<;>(try split) <;>omega
  have HE:=κ (show OO=(⟨M,aF R d v,nx,f,0,0⟩:Out) from HO.out.symm.trans (eo.trans (by rw [ew])))
  clear eo ew
  go_wp2_with (go_at_call 147;(with_reducible refine(CS.out _ (by repeat(first | exact M1.out | apply aI | apply RM.drew))).mono ?_);rintro e w3 ⟨rfl,b3⟩;obtain⟨H3,M3,U3⟩:=(show Hid (MB w.heap.size R pc f 30 d s 3 m R nx f 0 0 w3)∧Hid (RM P M w3)∧Hid (ah P.has w w3) from dJ (P:=P) (M:=M) (R':=R) b3 (by repeat(first | exact H1.out | apply aY | apply MB.drew)) (by repeat(first | exact M1.out | apply aI | apply RM.drew)) (by repeat(first | exact U1.out | apply ah.alloc | apply ah.drew)) dD.out);clear b3 x1 x2 x3 x4 s7 sd ss s9 t7 td t8 t9 fF fG fH fJ k0 k1 eX eY lk lt x0;obtain⟨x1,x2,x3,x4,s7,sd,ss,s9,t7,td,t8,t9,fF,fG,fH,fJ,k0,k1,eX,eY,lk,lt⟩:=H3.out.all hd hs)
  have h4:=(H3.out.iD 0 0).bI d hd v
  generalize eW:(((w3.setCell ⟨w.heap.size+1+1+1+1+1,0,none⟩ (.int .i64 0)).setCell ⟨w.heap.size+1+1+1+1+1,1,none⟩ (.int .u32 0)).setCell ⟨w.heap.size+1+1,d,none⟩ (.int .u32 v))=W3 at h4⊢
  obtain⟨R4,p4,f4,kq,xq,M4,T4,K4,N4,HE⟩:∃R4 p4 f4 kq xq M4,Hid (SB (w.heap.size+1+1) R4 p4 f4 W3)∧Hid (KB (w.heap.size+1+1+1+1+1) kq xq W3)∧Hid (RM P M4 w3)∧Hid (OO=⟨M4,R4,p4,f4,kq,xq⟩):=⟨_,_,_,_,_,_,κ h4.t,κ h4.k,M3,HE⟩
 case' ach=>
  rintro⟨hk,rfl,eo⟩
  have hv:(0:Int) <32768:=by omega
  have HE:=κ (show OO=(⟨M,R,pc,f,kk,xx⟩:Out) from HO.out.symm.trans eo)
  clear eo
  have b0:(kk==0)=false:=by rw [beq_eq_false_iff_ne];exact hk
  have BH:(kk !=0)=true:=by rw [bne,b0];rfl
  go_wp2_with (go_at_call 147;(with_reducible refine(CS.out _ (by repeat(first | exact M1.out | apply aI | apply RM.drew))).mono ?_);rintro e w3 ⟨rfl,b3⟩;obtain⟨H3,M3,U3⟩:=(show Hid (MB w.heap.size R pc f 30 d s 3 m R nx f 0 0 w3)∧Hid (RM P M w3)∧Hid (ah P.has w w3) from dJ (P:=P) (M:=M) (R':=R) b3 (by repeat(first | exact H1.out | apply aY | apply MB.drew)) (by repeat(first | exact M1.out | apply aI | apply RM.drew)) (by repeat(first | exact U1.out | apply ah.alloc | apply ah.drew)) dD.out);clear b3 x1 x2 x3 x4 s7 sd ss s9 t7 td t8 t9 fF fG fH fJ k0 k1 eX eY lk lt x0;obtain⟨x1,x2,x3,x4,s7,sd,ss,s9,t7,td,t8,t9,fF,fG,fH,fJ,k0,k1,eX,eY,lk,lt⟩:=H3.out.all hd hs)
  have h4:=(H3.out.iD kk xx).bI d hd 0
  generalize eW:(((w3.setCell ⟨w.heap.size+1+1+1+1+1,0,none⟩ (.int .i64 kk)).setCell ⟨w.heap.size+1+1+1+1+1,1,none⟩ (.int .u32 xx)).setCell ⟨w.heap.size+1+1,d,none⟩ (.int .u32 0))=W3 at h4⊢
  obtain⟨R4,p4,f4,kq,xq,M4,T4,K4,N4,HE⟩:∃R4 p4 f4 kq xq M4,Hid (SB (w.heap.size+1) R4 p4 f4 W3)∧Hid (KB (w.heap.size+1+1+1+1+1) kq xq W3)∧Hid (RM P M4 w3)∧Hid (OO=⟨M4,R4,p4,f4,kq,xq⟩):=⟨_,_,_,_,_,_,κ h4.s,κ h4.k,M3,HE⟩
 case' ab4=>
  rintro⟨ek,eo⟩
  subst ek
  subst eo
  obtain⟨v,kk,xx,⟨v0,v1,vx⟩,C,hO⟩:=oJ (R:=R) (pc:=pc) (f:=f) P (au (R s+m)) 4 HM.out (aP (R s+m)).1 (aP (R s+m)).2 (by omega) (fun v=>⟨M,aF R d (jd 4 v),nx,f,0,0⟩) (fun _=>rfl)
  clear vx
  have CS:=κ C
  clear C
  refine hO.elim ?acn ?aco
 case' acn=>
  rintro⟨rfl,rfl,eo⟩
  have HE:=κ (show OO=(⟨M,aF R d v,nx,f,0,0⟩:Out) from HO.out.symm.trans eo)
  clear eo
  go_wp2_with (go_at_call 147;(with_reducible refine(CS.out _ (by repeat(first | exact M1.out | apply aI | apply RM.drew))).mono ?_);rintro e w3 ⟨rfl,b3⟩;obtain⟨H3,M3,U3⟩:=(show Hid (MB w.heap.size R pc f 30 d s 4 m R nx f 0 0 w3)∧Hid (RM P M w3)∧Hid (ah P.has w w3) from dJ (P:=P) (M:=M) (R':=R) b3 (by repeat(first | exact H1.out | apply aY | apply MB.drew)) (by repeat(first | exact M1.out | apply aI | apply RM.drew)) (by repeat(first | exact U1.out | apply ah.alloc | apply ah.drew)) dD.out);clear b3 x1 x2 x3 x4 s7 sd ss s9 t7 td t8 t9 fF fG fH fJ k0 k1 eX eY lk lt x0;obtain⟨x1,x2,x3,x4,s7,sd,ss,s9,t7,td,t8,t9,fF,fG,fH,fJ,k0,k1,eX,eY,lk,lt⟩:=H3.out.all hd hs)
  have h4:=(H3.out.iD 0 0).bI d hd v
  generalize eW:(((w3.setCell ⟨w.heap.size+1+1+1+1+1,0,none⟩ (.int .i64 0)).setCell ⟨w.heap.size+1+1+1+1+1,1,none⟩ (.int .u32 0)).setCell ⟨w.heap.size+1+1,d,none⟩ (.int .u32 v))=W3 at h4⊢
  obtain⟨R4,p4,f4,kq,xq,M4,T4,K4,N4,HE⟩:∃R4 p4 f4 kq xq M4,Hid (SB (w.heap.size+1+1) R4 p4 f4 W3)∧Hid (KB (w.heap.size+1+1+1+1+1) kq xq W3)∧Hid (RM P M4 w3)∧Hid (OO=⟨M4,R4,p4,f4,kq,xq⟩):=⟨_,_,_,_,_,_,κ h4.t,κ h4.k,M3,HE⟩
 case' aco=>
  rintro⟨hk,rfl,eo⟩
  have HE:=κ (show OO=(⟨M,R,pc,f,kk,xx⟩:Out) from HO.out.symm.trans eo)
  clear eo
  have b0:(kk==0)=false:=by rw [beq_eq_false_iff_ne];exact hk
  have BH:(kk !=0)=true:=by rw [bne,b0];rfl
  go_wp2_with (go_at_call 147;(with_reducible refine(CS.out _ (by repeat(first | exact M1.out | apply aI | apply RM.drew))).mono ?_);rintro e w3 ⟨rfl,b3⟩;obtain⟨H3,M3,U3⟩:=(show Hid (MB w.heap.size R pc f 30 d s 4 m R nx f 0 0 w3)∧Hid (RM P M w3)∧Hid (ah P.has w w3) from dJ (P:=P) (M:=M) (R':=R) b3 (by repeat(first | exact H1.out | apply aY | apply MB.drew)) (by repeat(first | exact M1.out | apply aI | apply RM.drew)) (by repeat(first | exact U1.out | apply ah.alloc | apply ah.drew)) dD.out);clear b3 x1 x2 x3 x4 s7 sd ss s9 t7 td t8 t9 fF fG fH fJ k0 k1 eX eY lk lt x0;obtain⟨x1,x2,x3,x4,s7,sd,ss,s9,t7,td,t8,t9,fF,fG,fH,fJ,k0,k1,eX,eY,lk,lt⟩:=H3.out.all hd hs)
  have h4:=(H3.out.iD kk xx).bI d hd 0
  generalize eW:(((w3.setCell ⟨w.heap.size+1+1+1+1+1,0,none⟩ (.int .i64 kk)).setCell ⟨w.heap.size+1+1+1+1+1,1,none⟩ (.int .u32 xx)).setCell ⟨w.heap.size+1+1,d,none⟩ (.int .u32 0))=W3 at h4⊢
  obtain⟨R4,p4,f4,kq,xq,M4,T4,K4,N4,HE⟩:∃R4 p4 f4 kq xq M4,Hid (SB (w.heap.size+1) R4 p4 f4 W3)∧Hid (KB (w.heap.size+1+1+1+1+1) kq xq W3)∧Hid (RM P M4 w3)∧Hid (OO=⟨M4,R4,p4,f4,kq,xq⟩):=⟨_,_,_,_,_,_,κ h4.s,κ h4.k,M3,HE⟩
 all_goals
  have Q4:=κ h4.q
  have m4:RM P M4 W3:=by rw [←eW];repeat(first | exact N4.out | apply RM.drew | refine aS ?_ (dD.out _ (by omega)))
  have u4:ah P.has w W3:=by rw [←eW];repeat(first | exact U3.out | apply ah.drew | refine aK ?_ (by omega))
  have M5:=κ m4
  have U5:=κ u4
  clear h4 m4 u4 eW x1 x2 x3 x4 s7 sd ss s9 t7 td t8 t9 fF fG fH fJ k0 k1 eX eY lk lt
  obtain⟨a0,a1,a2,a3,a4,a5,a6,a7,a8,a9⟩:=T4.out.all
  have oL:=K4.out.c0
  have oN:=K4.out.c1
  obtain⟨q0,y0,q1,y1,q2,y2,q3,y3,q4,y4,q5,y5,q6,y6,q7,y7,q8,y8,q9,y9,r0,z0,r1,z1⟩:=Q4.out.all
  go_region
  clear q0 y0 q1 y1 q2 y2 q3 y3 q4 y4 q5 y5 q6 y6 q7 y7 q8 y8 q9 y9 r0 z0 r1 z1
  clear a0 a1 a2 a3 a4 a5 a6 a7 a8 a9 oL oN
  obtain⟨u,t,fq,v0,v1,v2,v3,v4,v5,v6,v7,v8,v9,t0,t1⟩:=Q4.out.put (.int .u32 (R4 0)) (.int .u32 (R4 1)) (.int .u32 (R4 2)) (.int .u32 (R4 3)) (.int .u32 (R4 4)) (.int .u32 (R4 5)) (.int .u32 (R4 6)) (.int .u32 (R4 7)) (.int .u32 p4) (.int .u32 f4) (.int .i64 kq) (.int .u32 xq)
  have bp:=(aO (h:=w.heap.size+1+1+1) (g:=w.heap.size+1+1+1+1) U5.out (.inr (by omega)) (.inr (by omega)) (.int .u32 (R4 0)) (.int .u32 (R4 1)) (.int .u32 (R4 2)) (.int .u32 (R4 3)) (.int .u32 (R4 4)) (.int .u32 (R4 5)) (.int .u32 (R4 6)) (.int .u32 (R4 7)) (.int .u32 p4) (.int .u32 f4) (.int .i64 kq) (.int .u32 xq)).drew
  have hp:=(M5.out.upto (aO (h:=w.heap.size+1+1+1) (g:=w.heap.size+1+1+1+1) (ah.refl (fun i=>i=w.heap.size+1+1+1∨i=w.heap.size+1+1+1+1) W3) (.inl (.inl rfl)) (.inl (.inr rfl)) (.int .u32 (R4 0)) (.int .u32 (R4 1)) (.int .u32 (R4 2)) (.int .u32 (R4 3)) (.int .u32 (R4 4)) (.int .u32 (R4 5)) (.int .u32 (R4 6)) (.int .u32 (R4 7)) (.int .u32 p4) (.int .u32 f4) (.int .i64 kq) (.int .u32 xq)) (fun j hj hx=>dD.out j (by rcases hx with hx | hx<;>omega) hj)).drew
  have bC:=fq.drew
  clear fq
  generalize World.drew _=WZ at bC bp hp⊢
  obtain⟨g0,g1,g2,g3,g4,g5,g6,g7,g8,g9,o0,o1⟩:=bC.got v0 v1 v2 v3 v4 v5 v6 v7 v8 v9 t0 t1
  go_wp2_with fail
  exact bodyPost_ret (v:=dS ⟨M4,R4,p4,f4,kq,xq⟩) (by simp [dS,iJ,results,Tryz.results95,go_sem,g0,g1,g2,g3,g4,g5,g6,g7,g8,g9,o0,o1]) rfl ⟨by rw [HE.out],by rw [HE.out];exact hp,bp⟩
end Go.Proofs.YtcjcmnnhmajocabGreat.St
