import Derived.Test.YtcjcmnnhmajocabGreatPmbl
set_option linter.unusedVariables false
set_option linter.unusedSimpArgs false
set_option maxRecDepth 100000
set_option maxHeartbeats 16000000
namespace Go.Proofs.YtcjcmnnhmajocabGreat.St
open Go.RowKit Kt Me Fl Gu
variable {R:Nat→Int} {pc f nx:Int}
theorem OD (k:Int) (P:RP) (M:MM) (d s:Nat) (o m q:Int) (hd:d<8) (hs:s<8) (w:World) (hm:RM P M w) (hR:qI R) (v:Int) (v0:0≤v) (v1:v<4294967296) (kk xx:Int) (hk1:24≤k) (hk2:k≤26) (hk:kk≠0) (C:∀w,RM P M w→Calls Tryz.prog 147 #[.pointer (some ⟨P.q,0,none⟩), .int .u32 (q), .int .i64 4] w fun e w'=>e= .returned (.tuple #[.int .u32 v, .agg #[.int .i64 kk, .int .u32 xx]])∧Below w.heap.size w w'):
  Calls Tryz.prog 95 #[.pointer (some ⟨P.q,0,none⟩),jy k d s o m,iJ R pc f,iJ R nx f, .int .u32 q] w fun e w'=>e= .returned (dS ⟨M,R,pc,f,kk,xx⟩)∧RM P M w'∧ah P.has w w':=by
 have CS:=κ C
 clear C
 have Ou:(0:Int)≤(d:Int):=by omega
 have Ov:(d:Int) <8:=by omega
 have Jp:(0:Int)≤(s:Int):=by omega
 have vH:(s:Int) <8:=by omega
 have e4:(R 7-4)%4294967296=au (R 7-4):=rfl
 have e5:(R 7+4)%4294967296=au (R 7+4):=rfl
 have e6:(nx+m)%4294967296=au (nx+m):=rfl
 have i11:(k==11)=false:=by rw [beq_eq_false_iff_ne];omega
 have i14:(k==14)=false:=by rw [beq_eq_false_iff_ne];omega
 have i3:(k==3)=false:=by rw [beq_eq_false_iff_ne];omega
 have i8:(k==8)=false:=by rw [beq_eq_false_iff_ne];omega
 have i10:(k==10)=false:=by rw [beq_eq_false_iff_ne];omega
 have i15:(k==15)=false:=by rw [beq_eq_false_iff_ne];omega
 have i4:(k==4)=false:=by rw [beq_eq_false_iff_ne];omega
 have i2:(k==2)=false:=by rw [beq_eq_false_iff_ne];omega
 have i30:(k==30)=false:=by rw [beq_eq_false_iff_ne];omega
 have i31:(k==31)=false:=by rw [beq_eq_false_iff_ne];omega
 have n1:=MB.new w R pc f k d s o m R nx f
 have fQ:=((((((ah.refl (fun _=>False) w).alloc (.cells #[.int .i64 k, .int .i64 d, .int .i64 s, .int .i64 o, .int .u32 m] 74)).alloc (.cells (iY R pc f) 94)).alloc (.cells (iY R nx f) 94)).alloc (.cells oP 94)).alloc (.cells Z2 55)).alloc (.cells Z2 55)
 have m1:=hm.upto fQ (fun _ _=>id)
 have dD:=κ (fun i (hi:w.heap.size≤i) (h:P.has i)=>show False by have:=iG hm h;omega)
 clear hm hR
 unfold iY oP Z2 at n1 fQ m1
 unfold jy iJ
 go_enter Tryz.func95,Tryz.ntmps95
 go_upto_region 5 with fail
 generalize(((((w.alloc (.cells #[.int .i64 k, .int .i64 d, .int .i64 s, .int .i64 o, .int .u32 m] 74)).alloc (.cells #[.int .u32 (R 0), .int .u32 (R 1), .int .u32 (R 2), .int .u32 (R 3), .int .u32 (R 4), .int .u32 (R 5), .int .u32 (R 6), .int .u32 (R 7), .int .u32 pc, .int .u32 f] 94)).alloc (.cells #[.int .u32 (R 0), .int .u32 (R 1), .int .u32 (R 2), .int .u32 (R 3), .int .u32 (R 4), .int .u32 (R 5), .int .u32 (R 6), .int .u32 (R 7), .int .u32 nx, .int .u32 f] 94)).alloc (.cells #[.int .u32 0, .int .u32 0, .int .u32 0, .int .u32 0, .int .u32 0, .int .u32 0, .int .u32 0, .int .u32 0, .int .u32 0, .int .u32 0] 94)).alloc (.cells #[.int .i64 0, .int .u32 0] 55)).alloc (.cells #[.int .i64 0, .int .u32 0] 55)=WA at n1 fQ m1⊢
 have H1:=κ n1
 have U1:=κ (fQ.mono (T:=P.has) fun _ _ h=>h.elim)
 have M1:=κ m1
 clear n1 fQ m1
 have x0:=H1.out.x.c0
 have x1:=H1.out.x.c1
 have x2:=H1.out.x.c2
 have x3:=H1.out.x.c3
 have x4:=H1.out.x.c4
 have s7:=H1.out.s.r 7 (by omega)
 have sd:=H1.out.s.r d hd
 have ss:=H1.out.s.r s hs
 have s9:=H1.out.s.c9
 have t7:=H1.out.t.r 7 (by omega)
 have td:=H1.out.t.r d hd
 have t8:=H1.out.t.c8
 have t9:=H1.out.t.c9
 have fF:=H1.out.t.z 7
 have fG:=H1.out.t.z d
 have fH:=H1.out.t.z 8
 have fJ:=H1.out.t.z 9
 have k0:=H1.out.k.c0
 have k1:=H1.out.k.c1
 have eX:=H1.out.k.z 0
 have eY:=H1.out.k.z 1
 have lk:=H1.out.k.l
 have lt:=H1.out.t.l
 have b0:(kk==0)=false:=by rw [beq_eq_false_iff_ne];exact hk
 have BH:(kk !=0)=true:=by rw [bne,b0];rfl
 go_wp2_with (go_at_call 147;(with_reducible refine(CS.out _ M1.out).mono ?_);rintro e w3 ⟨rfl,b3⟩;have B3:=ah.ak (S:=P.has) b3;have M3:=κ (M1.out.upto (ah.ak (S:=fun _=>False) b3) (fun _ _=>id));have Cb:=fun i hi=>dD.out i hi;clear x1 x2 x3 x4 s7 sd ss s9 t7 td t8 t9 fF fG fH fJ k0 k1 eX eY lk lt x0;have H3:=κ (H1.out.upto B3 Cb);have x1:=H3.out.x.c1;have x2:=H3.out.x.c2;have x3:=H3.out.x.c3;have x4:=H3.out.x.c4;have s7:=H3.out.s.r 7 (by omega);have sd:=H3.out.s.r d hd;have ss:=H3.out.s.r s hs;have s9:=H3.out.s.c9;have t7:=H3.out.t.r 7 (by omega);have td:=H3.out.t.r d hd;have t8:=H3.out.t.c8;have t9:=H3.out.t.c9;have fF:=H3.out.t.z 7;have fG:=H3.out.t.z d;have fH:=H3.out.t.z 8;have fJ:=H3.out.t.z 9;have k0:=H3.out.k.c0;have k1:=H3.out.k.c1;have eX:=H3.out.k.z 0;have eY:=H3.out.k.z 1;have lk:=H3.out.k.l;have lt:=H3.out.t.l;have U3:=κ (U1.out.trans B3);clear B3 b3 Cb)
 have h4:=H3.out.iD kk xx
 clear x1 x2 x3 x4 s7 sd ss s9 t7 td t8 t9 fF fG fH fJ k0 k1 eX eY lk lt
 have m4:RM P M (((w3.setCell ⟨w.heap.size+1+1+1+1+1,0,none⟩ (.int .i64 kk)).setCell ⟨w.heap.size+1+1+1+1+1,1,none⟩ (.int .u32 xx))):=by repeat(first | exact M3.out | apply RM.drew | refine aS ?_ (dD.out _ (by omega)))
 have u4:ah P.has w (((w3.setCell ⟨w.heap.size+1+1+1+1+1,0,none⟩ (.int .i64 kk)).setCell ⟨w.heap.size+1+1+1+1+1,1,none⟩ (.int .u32 xx))):=by repeat(first | exact U3.out | apply ah.drew | refine aK ?_ (by omega))
 generalize((w3.setCell ⟨w.heap.size+1+1+1+1+1,0,none⟩ (.int .i64 kk)).setCell ⟨w.heap.size+1+1+1+1+1,1,none⟩ (.int .u32 xx))=W3 at h4 m4 u4⊢
 have H4:=κ h4
 have M4:=κ m4
 have U4:=κ u4
 clear h4 m4 u4
 obtain⟨a0,a1,a2,a3,a4,a5,a6,a7,a8,a9⟩:=H4.out.s.all
 have oL:=H4.out.k.c0
 have oN:=H4.out.k.c1
 obtain⟨q0,y0,q1,y1,q2,y2,q3,y3,q4,y4,q5,y5,q6,y6,q7,y7,q8,y8,q9,y9,r0,z0,r1,z1⟩:=H4.out.q.all
 go_region
 clear q0 y0 q1 y1 q2 y2 q3 y3 q4 y4 q5 y5 q6 y6 q7 y7 q8 y8 q9 y9 r0 z0 r1 z1
 clear a0 a1 a2 a3 a4 a5 a6 a7 a8 a9 oL oN
 obtain⟨u,t,fq,v0,v1,v2,v3,v4,v5,v6,v7,v8,v9,t0,t1⟩:=H4.out.q.put (.int .u32 (R 0)) (.int .u32 (R 1)) (.int .u32 (R 2)) (.int .u32 (R 3)) (.int .u32 (R 4)) (.int .u32 (R 5)) (.int .u32 (R 6)) (.int .u32 (R 7)) (.int .u32 pc) (.int .u32 f) (.int .i64 kk) (.int .u32 xx)
 have bp:=(aO (h:=w.heap.size+1+1+1) (g:=w.heap.size+1+1+1+1) U4.out (.inr (by omega)) (.inr (by omega)) (.int .u32 (R 0)) (.int .u32 (R 1)) (.int .u32 (R 2)) (.int .u32 (R 3)) (.int .u32 (R 4)) (.int .u32 (R 5)) (.int .u32 (R 6)) (.int .u32 (R 7)) (.int .u32 pc) (.int .u32 f) (.int .i64 kk) (.int .u32 xx)).drew
 have hp:=(M4.out.upto (aO (h:=w.heap.size+1+1+1) (g:=w.heap.size+1+1+1+1) (ah.refl (fun i=>i=w.heap.size+1+1+1∨i=w.heap.size+1+1+1+1) W3) (.inl (.inl rfl)) (.inl (.inr rfl)) (.int .u32 (R 0)) (.int .u32 (R 1)) (.int .u32 (R 2)) (.int .u32 (R 3)) (.int .u32 (R 4)) (.int .u32 (R 5)) (.int .u32 (R 6)) (.int .u32 (R 7)) (.int .u32 pc) (.int .u32 f) (.int .i64 kk) (.int .u32 xx)) (fun j hj hx=>dD.out j (by rcases hx with hx | hx<;>omega) hj)).drew
 have bC:=fq.drew
 clear fq
 generalize World.drew _=WZ at bC bp hp⊢
 obtain⟨g0,g1,g2,g3,g4,g5,g6,g7,g8,g9,o0,o1⟩:=bC.got v0 v1 v2 v3 v4 v5 v6 v7 v8 v9 t0 t1
 go_wp2_with fail
 exact bodyPost_ret (v:=dS ⟨M,R,pc,f,kk,xx⟩) (by simp [dS,iJ,results,Tryz.results95,go_sem,g0,g1,g2,g3,g4,g5,g6,g7,g8,g9,o0,o1]) rfl ⟨rfl,hp,bp⟩
theorem uz (k:Int) (P:RP) (M:MM) (d s:Nat) (o m q:Int) (hd:d<8) (hs:s<8) (w:World) (hm:RM P M w) (hR:qI R) (v:Int) (v0:0≤v) (v1:v<4294967296) (kk xx:Int) (hk1:24≤k) (hk2:k≤26) (x0':Int) (M':MM) (R2:Nat→Int) (f2:Int) (CW:∀ (A:Nat) (w:World),RM P M w→SB A R nx f w→¬P.has A→Calls Tryz.prog 149 #[.pointer (some ⟨P.q,0,none⟩), .agg #[.int .i64 k, .int .i64 d, .int .i64 s, .int .i64 o, .int .u32 m], .agg #[.int .u32 (R 0), .int .u32 (R 1), .int .u32 (R 2), .int .u32 (R 3), .int .u32 (R 4), .int .u32 (R 5), .int .u32 (R 6), .int .u32 (R 7), .int .u32 pc, .int .u32 f], .pointer (some ⟨A,0,none⟩), .int .u32 q, .int .u32 v] w fun e w'=>e= .returned (.agg #[.int .i64 kk, .int .u32 xx])∧SB A R2 nx f2 w'∧RM P M' w'∧ah (fun i=>P.has i∨i=A) w w') (C:∀w,RM P M w→Calls Tryz.prog 147 #[.pointer (some ⟨P.q,0,none⟩), .int .u32 (q), .int .i64 4] w fun e w'=>e= .returned (.tuple #[.int .u32 v, .agg #[.int .i64 0, .int .u32 x0']])∧Below w.heap.size w w'):
  Calls Tryz.prog 95 #[.pointer (some ⟨P.q,0,none⟩),jy k d s o m,iJ R pc f,iJ R nx f, .int .u32 q] w fun e w'=>e= .returned (dS (if kk=0 then⟨M',R2,nx,f2,kk,xx⟩ else⟨M',R,pc,f,kk,xx⟩))∧RM P M' w'∧ah P.has w w':=by
 have CS:=κ C
 clear C
 have Ou:(0:Int)≤(d:Int):=by omega
 have Ov:(d:Int) <8:=by omega
 have Jp:(0:Int)≤(s:Int):=by omega
 have vH:(s:Int) <8:=by omega
 have e4:(R 7-4)%4294967296=au (R 7-4):=rfl
 have e5:(R 7+4)%4294967296=au (R 7+4):=rfl
 have e6:(nx+m)%4294967296=au (nx+m):=rfl
 have i11:(k==11)=false:=by rw [beq_eq_false_iff_ne];omega
 have i14:(k==14)=false:=by rw [beq_eq_false_iff_ne];omega
 have i3:(k==3)=false:=by rw [beq_eq_false_iff_ne];omega
 have i8:(k==8)=false:=by rw [beq_eq_false_iff_ne];omega
 have i10:(k==10)=false:=by rw [beq_eq_false_iff_ne];omega
 have i15:(k==15)=false:=by rw [beq_eq_false_iff_ne];omega
 have i4:(k==4)=false:=by rw [beq_eq_false_iff_ne];omega
 have i2:(k==2)=false:=by rw [beq_eq_false_iff_ne];omega
 have i30:(k==30)=false:=by rw [beq_eq_false_iff_ne];omega
 have i31:(k==31)=false:=by rw [beq_eq_false_iff_ne];omega
 have CW:=κ CW
 have n1:=MB.new w R pc f k d s o m R nx f
 have fQ:=((((((ah.refl (fun _=>False) w).alloc (.cells #[.int .i64 k, .int .i64 d, .int .i64 s, .int .i64 o, .int .u32 m] 74)).alloc (.cells (iY R pc f) 94)).alloc (.cells (iY R nx f) 94)).alloc (.cells oP 94)).alloc (.cells Z2 55)).alloc (.cells Z2 55)
 have m1:=hm.upto fQ (fun _ _=>id)
 have dD:=κ (fun i (hi:w.heap.size≤i) (h:P.has i)=>show False by have:=iG hm h;omega)
 clear hm hR
 unfold iY oP Z2 at n1 fQ m1
 unfold jy iJ
 go_enter Tryz.func95,Tryz.ntmps95
 go_upto_region 5 with fail
 generalize(((((w.alloc (.cells #[.int .i64 k, .int .i64 d, .int .i64 s, .int .i64 o, .int .u32 m] 74)).alloc (.cells #[.int .u32 (R 0), .int .u32 (R 1), .int .u32 (R 2), .int .u32 (R 3), .int .u32 (R 4), .int .u32 (R 5), .int .u32 (R 6), .int .u32 (R 7), .int .u32 pc, .int .u32 f] 94)).alloc (.cells #[.int .u32 (R 0), .int .u32 (R 1), .int .u32 (R 2), .int .u32 (R 3), .int .u32 (R 4), .int .u32 (R 5), .int .u32 (R 6), .int .u32 (R 7), .int .u32 nx, .int .u32 f] 94)).alloc (.cells #[.int .u32 0, .int .u32 0, .int .u32 0, .int .u32 0, .int .u32 0, .int .u32 0, .int .u32 0, .int .u32 0, .int .u32 0, .int .u32 0] 94)).alloc (.cells #[.int .i64 0, .int .u32 0] 55)).alloc (.cells #[.int .i64 0, .int .u32 0] 55)=WA at n1 fQ m1⊢
 have H1:=κ n1
 have U1:=κ (fQ.mono (T:=P.has) fun _ _ h=>h.elim)
 have M1:=κ m1
 clear n1 fQ m1
 have x0:=H1.out.x.c0
 have x1:=H1.out.x.c1
 have x2:=H1.out.x.c2
 have x3:=H1.out.x.c3
 have x4:=H1.out.x.c4
 have s7:=H1.out.s.r 7 (by omega)
 have sd:=H1.out.s.r d hd
 have ss:=H1.out.s.r s hs
 have s9:=H1.out.s.c9
 have t7:=H1.out.t.r 7 (by omega)
 have td:=H1.out.t.r d hd
 have t8:=H1.out.t.c8
 have t9:=H1.out.t.c9
 have fF:=H1.out.t.z 7
 have fG:=H1.out.t.z d
 have fH:=H1.out.t.z 8
 have fJ:=H1.out.t.z 9
 have k0:=H1.out.k.c0
 have k1:=H1.out.k.c1
 have eX:=H1.out.k.z 0
 have eY:=H1.out.k.z 1
 have lk:=H1.out.k.l
 have lt:=H1.out.t.l
 go_upto_region 8 with(go_at_call 147;(with_reducible refine(CS.out _ M1.out).mono ?_);rintro e w3 ⟨rfl,b3⟩;have B3:=ah.ak (S:=P.has) b3;have M3:=κ (M1.out.upto (ah.ak (S:=fun _=>False) b3) (fun _ _=>id));have Cb:=fun i hi=>dD.out i hi;clear x1 x2 x3 x4 s7 sd ss s9 t7 td t8 t9 fF fG fH fJ k0 k1 eX eY lk lt x0;have H3:=κ (H1.out.upto B3 Cb);have x1:=H3.out.x.c1;have x2:=H3.out.x.c2;have x3:=H3.out.x.c3;have x4:=H3.out.x.c4;have s7:=H3.out.s.r 7 (by omega);have sd:=H3.out.s.r d hd;have ss:=H3.out.s.r s hs;have s9:=H3.out.s.c9;have t7:=H3.out.t.r 7 (by omega);have td:=H3.out.t.r d hd;have t8:=H3.out.t.c8;have t9:=H3.out.t.c9;have fF:=H3.out.t.z 7;have fG:=H3.out.t.z d;have fH:=H3.out.t.z 8;have fJ:=H3.out.t.z 9;have k0:=H3.out.k.c0;have k1:=H3.out.k.c1;have eX:=H3.out.k.z 0;have eY:=H3.out.k.z 1;have lk:=H3.out.k.l;have lt:=H3.out.t.l;have U3:=κ (U1.out.trans B3);clear B3 b3 Cb)
 have h5:=H3.out.iD 0 x0'
 clear x1 x2 x3 x4 s7 sd ss s9 t7 td t8 t9 fF fG fH fJ k0 k1 eX eY lk lt
 have m5:RM P M (((w3.setCell ⟨w.heap.size+1+1+1+1+1,0,none⟩ (.int .i64 0)).setCell ⟨w.heap.size+1+1+1+1+1,1,none⟩ (.int .u32 x0'))):=by repeat(first | exact M3.out | refine aS ?_ (dD.out _ (by omega)))
 have u5:ah P.has w (((w3.setCell ⟨w.heap.size+1+1+1+1+1,0,none⟩ (.int .i64 0)).setCell ⟨w.heap.size+1+1+1+1+1,1,none⟩ (.int .u32 x0'))):=by repeat(first | exact U3.out | refine aK ?_ (by omega))
 generalize((w3.setCell ⟨w.heap.size+1+1+1+1+1,0,none⟩ (.int .i64 0)).setCell ⟨w.heap.size+1+1+1+1+1,1,none⟩ (.int .u32 x0'))=W5 at h5 m5 u5⊢
 have H5:=κ h5
 have M5:=κ m5
 have U5:=κ u5
 clear h5 m5 u5
 have x0:=H5.out.x.c0
 have x1:=H5.out.x.c1
 have x2:=H5.out.x.c2
 have x3:=H5.out.x.c3
 have x4:=H5.out.x.c4
 have s7:=H5.out.s.r 7 (by omega)
 have sd:=H5.out.s.r d hd
 have ss:=H5.out.s.r s hs
 have s9:=H5.out.s.c9
 have t7:=H5.out.t.r 7 (by omega)
 have td:=H5.out.t.r d hd
 have t8:=H5.out.t.c8
 have t9:=H5.out.t.c9
 have fF:=H5.out.t.z 7
 have fG:=H5.out.t.z d
 have fH:=H5.out.t.z 8
 have fJ:=H5.out.t.z 9
 have k0:=H5.out.k.c0
 have k1:=H5.out.k.c1
 have eX:=H5.out.k.z 0
 have eY:=H5.out.k.z 1
 have lk:=H5.out.k.l
 have lt:=H5.out.t.l
 have f0':=H5.out.s.r 0 (by omega)
 have f1':=H5.out.s.r 1 (by omega)
 have f2':=H5.out.s.r 2 (by omega)
 have f3':=H5.out.s.r 3 (by omega)
 have f4':=H5.out.s.r 4 (by omega)
 have f5':=H5.out.s.r 5 (by omega)
 have f6':=H5.out.s.r 6 (by omega)
 have f7':=H5.out.s.r 7 (by omega)
 have f8':=H5.out.s.c8
 by_cases hk:kk=0
 ·subst hk
  go_wp2_with (go_at_call 149;(with_reducible refine(CW.out _ _ M5.out H5.out.t (dD.out _ (by omega))).mono ?_);rintro e w4 ⟨rfl,t4,m4,u4⟩;have g4:∀i,w.heap.size≤i→i≠w.heap.size+1+1→¬ (P.has i∨i=w.heap.size+1+1):=fun i hi hn h=>h.elim (dD.out i hi) hn;have H6:=κ (MB.mk (H5.out.x.upto u4 (g4 _ (by omega) (by omega))) (H5.out.s.upto u4 (g4 _ (by omega) (by omega))) t4 (H5.out.q.upto u4 (g4 _ (by omega) (by omega)) (g4 _ (by omega) (by omega))) (H5.out.k.upto u4 (g4 _ (by omega) (by omega))));have M6:=κ m4;have U6:=κ ((U5.out.mono (T:=fun i=>P.has i∨i=w.heap.size+1+1) fun _ _ h=> .inl h).trans u4);clear x1 x2 x3 x4 s7 sd ss s9 t7 td t8 t9 fF fG fH fJ k0 k1 eX eY lk lt x0 f0' f1' f2' f3' f4' f5' f6' f7' f8';have k0:=H6.out.k.c0;have k1:=H6.out.k.c1;have eX:=H6.out.k.z 0;have eY:=H6.out.k.z 1;have lk:=H6.out.k.l;clear t4 m4 u4 g4)
  have h4:=H6.out.iD 0 xx
  clear k0 k1 eX eY lk
  have m4:RM P M' (((w4.setCell ⟨w.heap.size+1+1+1+1+1,0,none⟩ (.int .i64 0)).setCell ⟨w.heap.size+1+1+1+1+1,1,none⟩ (.int .u32 xx))):=by repeat(first | exact M6.out | refine aS ?_ (dD.out _ (by omega)))
  have u4:ah P.has w (((w4.setCell ⟨w.heap.size+1+1+1+1+1,0,none⟩ (.int .i64 0)).setCell ⟨w.heap.size+1+1+1+1+1,1,none⟩ (.int .u32 xx))):=by
   refine ah.mono (S:=fun i=>P.has i∨i=w.heap.size+1+1) ?_ (fun i hi h=>h.elim id (fun e=>absurd hi (by omega)))
   repeat(first | exact U6.out | refine aK ?_ (by omega))
  generalize((w4.setCell ⟨w.heap.size+1+1+1+1+1,0,none⟩ (.int .i64 0)).setCell ⟨w.heap.size+1+1+1+1+1,1,none⟩ (.int .u32 xx))=W3 at h4 m4 u4⊢
  have H4:=κ h4
  have M4:=κ m4
  have U4:=κ u4
  clear h4 m4 u4
  obtain⟨a0,a1,a2,a3,a4,a5,a6,a7,a8,a9⟩:=H4.out.t.all
  have oL:=H4.out.k.c0
  have oN:=H4.out.k.c1
  obtain⟨q0,y0,q1,y1,q2,y2,q3,y3,q4,y4,q5,y5,q6,y6,q7,y7,q8,y8,q9,y9,r0,z0,r1,z1⟩:=H4.out.q.all
  go_region
  clear q0 y0 q1 y1 q2 y2 q3 y3 q4 y4 q5 y5 q6 y6 q7 y7 q8 y8 q9 y9 r0 z0 r1 z1
  clear a0 a1 a2 a3 a4 a5 a6 a7 a8 a9 oL oN
  obtain⟨u,t,fq,v0,v1,v2,v3,v4,v5,v6,v7,v8,v9,t0,t1⟩:=H4.out.q.put (.int .u32 ((R2) 0)) (.int .u32 ((R2) 1)) (.int .u32 ((R2) 2)) (.int .u32 ((R2) 3)) (.int .u32 ((R2) 4)) (.int .u32 ((R2) 5)) (.int .u32 ((R2) 6)) (.int .u32 ((R2) 7)) (.int .u32 (nx)) (.int .u32 (f2)) (.int .i64 0) (.int .u32 xx)
  have bp:=(aO (h:=w.heap.size+1+1+1) (g:=w.heap.size+1+1+1+1) U4.out (.inr (by omega)) (.inr (by omega)) (.int .u32 ((R2) 0)) (.int .u32 ((R2) 1)) (.int .u32 ((R2) 2)) (.int .u32 ((R2) 3)) (.int .u32 ((R2) 4)) (.int .u32 ((R2) 5)) (.int .u32 ((R2) 6)) (.int .u32 ((R2) 7)) (.int .u32 (nx)) (.int .u32 (f2)) (.int .i64 0) (.int .u32 xx)).drew
  have hp:=(M4.out.upto (aO (h:=w.heap.size+1+1+1) (g:=w.heap.size+1+1+1+1) (ah.refl (fun i=>i=w.heap.size+1+1+1∨i=w.heap.size+1+1+1+1) W3) (.inl (.inl rfl)) (.inl (.inr rfl)) (.int .u32 ((R2) 0)) (.int .u32 ((R2) 1)) (.int .u32 ((R2) 2)) (.int .u32 ((R2) 3)) (.int .u32 ((R2) 4)) (.int .u32 ((R2) 5)) (.int .u32 ((R2) 6)) (.int .u32 ((R2) 7)) (.int .u32 (nx)) (.int .u32 (f2)) (.int .i64 0) (.int .u32 xx)) (fun j hj hx=>dD.out j (by rcases hx with hx | hx<;>omega) hj)).drew
  have bC:=fq.drew
  clear fq
  generalize World.drew _=WZ at bC bp hp⊢
  obtain⟨g0,g1,g2,g3,g4,g5,g6,g7,g8,g9,o0,o1⟩:=bC.got v0 v1 v2 v3 v4 v5 v6 v7 v8 v9 t0 t1
  go_wp2_with fail
  exact bodyPost_ret (v:=dS ⟨M',R2,nx,f2,0,xx⟩) (by simp [dS,iJ,results,Tryz.results95,go_sem,g0,g1,g2,g3,g4,g5,g6,g7,g8,g9,o0,o1]) rfl ⟨rfl,hp,bp⟩
 ·have b0:(kk==0)=false:=by rw [beq_eq_false_iff_ne];exact hk
  have BH:(kk !=0)=true:=by rw [bne,b0];rfl
  go_wp2_with (go_at_call 149;(with_reducible refine(CW.out _ _ M5.out H5.out.t (dD.out _ (by omega))).mono ?_);rintro e w4 ⟨rfl,t4,m4,u4⟩;have g4:∀i,w.heap.size≤i→i≠w.heap.size+1+1→¬ (P.has i∨i=w.heap.size+1+1):=fun i hi hn h=>h.elim (dD.out i hi) hn;have H6:=κ (MB.mk (H5.out.x.upto u4 (g4 _ (by omega) (by omega))) (H5.out.s.upto u4 (g4 _ (by omega) (by omega))) t4 (H5.out.q.upto u4 (g4 _ (by omega) (by omega)) (g4 _ (by omega) (by omega))) (H5.out.k.upto u4 (g4 _ (by omega) (by omega))));have M6:=κ m4;have U6:=κ ((U5.out.mono (T:=fun i=>P.has i∨i=w.heap.size+1+1) fun _ _ h=> .inl h).trans u4);clear x1 x2 x3 x4 s7 sd ss s9 t7 td t8 t9 fF fG fH fJ k0 k1 eX eY lk lt x0 f0' f1' f2' f3' f4' f5' f6' f7' f8';have k0:=H6.out.k.c0;have k1:=H6.out.k.c1;have eX:=H6.out.k.z 0;have eY:=H6.out.k.z 1;have lk:=H6.out.k.l;clear t4 m4 u4 g4)
  have h4:=H6.out.iD kk xx
  clear k0 k1 eX eY lk
  have m4:RM P M' (((w4.setCell ⟨w.heap.size+1+1+1+1+1,0,none⟩ (.int .i64 kk)).setCell ⟨w.heap.size+1+1+1+1+1,1,none⟩ (.int .u32 xx))):=by repeat(first | exact M6.out | refine aS ?_ (dD.out _ (by omega)))
  have u4:ah P.has w (((w4.setCell ⟨w.heap.size+1+1+1+1+1,0,none⟩ (.int .i64 kk)).setCell ⟨w.heap.size+1+1+1+1+1,1,none⟩ (.int .u32 xx))):=by
   refine ah.mono (S:=fun i=>P.has i∨i=w.heap.size+1+1) ?_ (fun i hi h=>h.elim id (fun e=>absurd hi (by omega)))
   repeat(first | exact U6.out | refine aK ?_ (by omega))
  generalize((w4.setCell ⟨w.heap.size+1+1+1+1+1,0,none⟩ (.int .i64 kk)).setCell ⟨w.heap.size+1+1+1+1+1,1,none⟩ (.int .u32 xx))=W3 at h4 m4 u4⊢
  have H4:=κ h4
  have M4:=κ m4
  have U4:=κ u4
  clear h4 m4 u4
  obtain⟨a0,a1,a2,a3,a4,a5,a6,a7,a8,a9⟩:=H4.out.s.all
  have oL:=H4.out.k.c0
  have oN:=H4.out.k.c1
  obtain⟨q0,y0,q1,y1,q2,y2,q3,y3,q4,y4,q5,y5,q6,y6,q7,y7,q8,y8,q9,y9,r0,z0,r1,z1⟩:=H4.out.q.all
  go_region
  clear q0 y0 q1 y1 q2 y2 q3 y3 q4 y4 q5 y5 q6 y6 q7 y7 q8 y8 q9 y9 r0 z0 r1 z1
  clear a0 a1 a2 a3 a4 a5 a6 a7 a8 a9 oL oN
  obtain⟨u,t,fq,v0,v1,v2,v3,v4,v5,v6,v7,v8,v9,t0,t1⟩:=H4.out.q.put (.int .u32 (R 0)) (.int .u32 (R 1)) (.int .u32 (R 2)) (.int .u32 (R 3)) (.int .u32 (R 4)) (.int .u32 (R 5)) (.int .u32 (R 6)) (.int .u32 (R 7)) (.int .u32 pc) (.int .u32 f) (.int .i64 kk) (.int .u32 xx)
  have bp:=(aO (h:=w.heap.size+1+1+1) (g:=w.heap.size+1+1+1+1) U4.out (.inr (by omega)) (.inr (by omega)) (.int .u32 (R 0)) (.int .u32 (R 1)) (.int .u32 (R 2)) (.int .u32 (R 3)) (.int .u32 (R 4)) (.int .u32 (R 5)) (.int .u32 (R 6)) (.int .u32 (R 7)) (.int .u32 pc) (.int .u32 f) (.int .i64 kk) (.int .u32 xx)).drew
  have hp:=(M4.out.upto (aO (h:=w.heap.size+1+1+1) (g:=w.heap.size+1+1+1+1) (ah.refl (fun i=>i=w.heap.size+1+1+1∨i=w.heap.size+1+1+1+1) W3) (.inl (.inl rfl)) (.inl (.inr rfl)) (.int .u32 (R 0)) (.int .u32 (R 1)) (.int .u32 (R 2)) (.int .u32 (R 3)) (.int .u32 (R 4)) (.int .u32 (R 5)) (.int .u32 (R 6)) (.int .u32 (R 7)) (.int .u32 pc) (.int .u32 f) (.int .i64 kk) (.int .u32 xx)) (fun j hj hx=>dD.out j (by rcases hx with hx | hx<;>omega) hj)).drew
  have bC:=fq.drew
  clear fq
  generalize World.drew _=WZ at bC bp hp⊢
  obtain⟨g0,g1,g2,g3,g4,g5,g6,g7,g8,g9,o0,o1⟩:=bC.got v0 v1 v2 v3 v4 v5 v6 v7 v8 v9 t0 t1
  go_wp2_with fail
  exact bodyPost_ret (v:=dS ⟨M',R,pc,f,kk,xx⟩) (by simp [dS,iJ,results,Tryz.results95,go_sem,g0,g1,g2,g3,g4,g5,g6,g7,g8,g9,o0,o1]) rfl ⟨rfl,hp,bp⟩
end Go.Proofs.YtcjcmnnhmajocabGreat.St
