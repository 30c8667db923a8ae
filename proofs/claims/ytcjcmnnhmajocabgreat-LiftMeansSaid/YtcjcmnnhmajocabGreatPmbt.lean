import Derived.Test.YtcjcmnnhmajocabGreatPmbl
set_option linter.unusedVariables false
set_option linter.unusedSimpArgs false
set_option maxRecDepth 100000
set_option maxHeartbeats 16000000
namespace Go.Proofs.YtcjcmnnhmajocabGreat.St
open Go.RowKit Kt Me Fl Gu
variable {R:Nat→Int} {pc f nx:Int}
theorem EI {P:RP} {M:MM} {W:World} {o:Obj} (h:RM P M W):RM P M (W.alloc o):=h.upto ((ah.refl (fun _=>False) W).alloc o) (fun _ _=>id)
theorem EJ {h:Nat} {R:Nat→Int} {pc f k d s o m:Int} {R':Nat→Int} {kH f' kk xx:Int} {W:World} {b:Obj} (a:MB h R pc f k d s o m R' kH f' kk xx W):MB h R pc f k d s o m R' kH f' kk xx (W.alloc b):=a.upto ((ah.refl (fun _=>False) W).alloc b) (fun _ _=>id)
theorem Gh (P:RP) (M:MM) (d s:Nat) (m q:Int) (hd:d<8) (hs:s<8) (w:World) (hm:RM P M w) (hR:qI R) (M':MM) (kk xx:Int) (C:∀w,RM P M w→Calls Tryz.prog 148 #[.pointer (some ⟨P.q,0,none⟩), .int .u32 (q), .int .i64 2, .int .u32 (R d)] w fun e w'=>e= .returned (.agg #[.int .i64 kk, .int .u32 xx])∧RM P M' w'∧ah P.S w w'):
  Calls Tryz.prog 95 #[.pointer (some ⟨P.q,0,none⟩),jy 31 d s 1 m,iJ R pc f,iJ R nx f, .int .u32 q] w fun e w'=>e= .returned (dS (if kk=0 then⟨M',R,nx,f,kk,xx⟩ else⟨M',R,pc,f,kk,xx⟩))∧RM P M' w'∧ah P.has w w':=by
 have CS:=κ C
 clear C
 have Ou:(0:Int)≤(d:Int):=by omega
 have Ov:(d:Int) <8:=by omega
 have Jp:(0:Int)≤(s:Int):=by omega
 have vH:(s:Int) <8:=by omega
 have e4:(R 7-4)%4294967296=au (R 7-4):=rfl
 have e5:(R 7+4)%4294967296=au (R 7+4):=rfl
 have e6:(nx+m)%4294967296=au (nx+m):=rfl
 have n1:=MB.new w R pc f 31 d s 1 m R nx f
 have fQ:=((((((ah.refl (fun _=>False) w).alloc (.cells #[.int .i64 31, .int .i64 d, .int .i64 s, .int .i64 1, .int .u32 m] 74)).alloc (.cells (iY R pc f) 94)).alloc (.cells (iY R nx f) 94)).alloc (.cells oP 94)).alloc (.cells Z2 55)).alloc (.cells Z2 55)
 have m1:=hm.upto fQ (fun _ _=>id)
 have dD:=κ (fun i (hi:w.heap.size≤i) (h:P.has i)=>show False by have:=iG hm h;omega)
 clear hm hR
 unfold iY oP Z2 at n1 fQ m1
 unfold jy iJ
 go_enter Tryz.func95,Tryz.ntmps95
 go_upto_region 5 with fail
 have eW:((((((w.alloc (.cells #[.int .i64 31, .int .i64 d, .int .i64 s, .int .i64 1, .int .u32 m] 74)).alloc (.cells #[.int .u32 (R 0), .int .u32 (R 1), .int .u32 (R 2), .int .u32 (R 3), .int .u32 (R 4), .int .u32 (R 5), .int .u32 (R 6), .int .u32 (R 7), .int .u32 pc, .int .u32 f] 94)).alloc (.cells #[.int .u32 (R 0), .int .u32 (R 1), .int .u32 (R 2), .int .u32 (R 3), .int .u32 (R 4), .int .u32 (R 5), .int .u32 (R 6), .int .u32 (R 7), .int .u32 nx, .int .u32 f] 94)).alloc (.cells #[.int .u32 0, .int .u32 0, .int .u32 0, .int .u32 0, .int .u32 0, .int .u32 0, .int .u32 0, .int .u32 0, .int .u32 0, .int .u32 0] 94)).alloc (.cells #[.int .i64 0, .int .u32 0] 55)).alloc (.cells #[.int .i64 0, .int .u32 0] 55)).heap.size=w.heap.size+1+1+1+1+1+1:=by simp
 generalize(((((w.alloc (.cells #[.int .i64 31, .int .i64 d, .int .i64 s, .int .i64 1, .int .u32 m] 74)).alloc (.cells #[.int .u32 (R 0), .int .u32 (R 1), .int .u32 (R 2), .int .u32 (R 3), .int .u32 (R 4), .int .u32 (R 5), .int .u32 (R 6), .int .u32 (R 7), .int .u32 pc, .int .u32 f] 94)).alloc (.cells #[.int .u32 (R 0), .int .u32 (R 1), .int .u32 (R 2), .int .u32 (R 3), .int .u32 (R 4), .int .u32 (R 5), .int .u32 (R 6), .int .u32 (R 7), .int .u32 nx, .int .u32 f] 94)).alloc (.cells #[.int .u32 0, .int .u32 0, .int .u32 0, .int .u32 0, .int .u32 0, .int .u32 0, .int .u32 0, .int .u32 0, .int .u32 0, .int .u32 0] 94)).alloc (.cells #[.int .i64 0, .int .u32 0] 55)).alloc (.cells #[.int .i64 0, .int .u32 0] 55)=WA at n1 fQ m1 eW⊢
 have H1:=κ n1
 have U1:=κ (fQ.mono (T:=P.has) fun _ _ h=>h.elim)
 have M1:=κ m1
 clear n1 fQ m1
 have x0:=H1.out.x.c0
 have x1:=H1.out.x.c1
 have x2:=H1.out.x.c2
 have x3:=H1.out.x.c3
 have x4:=H1.out.x.c4
 have s7:=H1.out.s.r 7 (by omega)
 have sd:=H1.out.s.r d hd
 have ss:=H1.out.s.r s hs
 have s9:=H1.out.s.c9
 have t7:=H1.out.t.r 7 (by omega)
 have td:=H1.out.t.r d hd
 have t8:=H1.out.t.c8
 have t9:=H1.out.t.c9
 have fF:=H1.out.t.z 7
 have fG:=H1.out.t.z d
 have fH:=H1.out.t.z 8
 have fJ:=H1.out.t.z 9
 have k0:=H1.out.k.c0
 have k1:=H1.out.k.c1
 have eX:=H1.out.k.z 0
 have eY:=H1.out.k.z 1
 have lk:=H1.out.k.l
 have lt:=H1.out.t.l
 go_upto_block 0 with fail
 go_cut [] (fun wx=>MB w.heap.size R pc f 31 d s 1 m R nx f kk xx wx∧RM P M' wx∧ah P.has w wx)
 case first=>
  go_wp2_with fail
  go_region_with (go_at_call 148;(with_reducible refine(CS.out _ (by repeat(first | exact M1.out | apply EI | apply RM.drew))).mono ?_);rintro e w3 ⟨rfl,m3,B3⟩;have M3:=κ m3;have Cb:=fun i hi=>dD.out i hi;clear x1 x2 x3 x4 s7 sd ss s9 t7 td t8 t9 fF fG fH fJ k0 k1 eX eY lk lt x0;have H3:=κ (show MB w.heap.size R pc f 31 d s 1 m R nx f 0 0 w3 from MB.upto (by repeat(first | exact H1.out | apply EJ | apply MB.drew)) B3 Cb);have x1:=H3.out.x.c1;have x2:=H3.out.x.c2;have x3:=H3.out.x.c3;have x4:=H3.out.x.c4;have s7:=H3.out.s.r 7 (by omega);have sd:=H3.out.s.r d hd;have ss:=H3.out.s.r s hs;have s9:=H3.out.s.c9;have t7:=H3.out.t.r 7 (by omega);have td:=H3.out.t.r d hd;have t8:=H3.out.t.c8;have t9:=H3.out.t.c9;have fF:=H3.out.t.z 7;have fG:=H3.out.t.z d;have fH:=H3.out.t.z 8;have fJ:=H3.out.t.z 9;have k0:=H3.out.k.c0;have k1:=H3.out.k.c1;have eX:=H3.out.k.z 0;have eY:=H3.out.k.z 1;have lk:=H3.out.k.l;have lt:=H3.out.t.l;have U3:=κ (ah.trans (S:=P.has) (a:=w) (by repeat(first | exact U1.out | apply ah.alloc | apply ah.drew)) B3);clear B3 m3 Cb)
  all_goals go_wp2_with fail
  all_goals go_meet
  all_goals refine⟨H3.out.iD kk xx, ?_, ?_⟩
  all_goals(repeat(first | exact M3.out | exact U3.out | refine aS ?_ (dD.out _ (by omega)) | refine aK ?_ (by omega)))
 case rest=>
  obtain⟨h4,m4,u4⟩:=hcut
  have H4:=κ h4
  have M4:=κ m4
  have U4:=κ u4
  clear h4 m4 u4 x1 x2 x3 x4 s7 sd ss s9 t7 td t8 t9 fF fG fH fJ k0 k1 eX eY lk lt x0
  have k0:=H4.out.k.c0
  have lk:=H4.out.k.l
  by_cases hk:kk=0
  ·subst hk
   go_wp2_with fail
   obtain⟨a0,a1,a2,a3,a4,a5,a6,a7,a8,a9⟩:=H4.out.t.all
   have oL:=H4.out.k.c0
   have oN:=H4.out.k.c1
   obtain⟨q0,y0,q1,y1,q2,y2,q3,y3,q4,y4,q5,y5,q6,y6,q7,y7,q8,y8,q9,y9,r0,z0,r1,z1⟩:=H4.out.q.all
   go_region
   clear q0 y0 q1 y1 q2 y2 q3 y3 q4 y4 q5 y5 q6 y6 q7 y7 q8 y8 q9 y9 r0 z0 r1 z1
   clear a0 a1 a2 a3 a4 a5 a6 a7 a8 a9 oL oN
   obtain⟨u,t,fq,v0,v1,v2,v3,v4,v5,v6,v7,v8,v9,t0,t1⟩:=H4.out.q.put (.int .u32 ((R) 0)) (.int .u32 ((R) 1)) (.int .u32 ((R) 2)) (.int .u32 ((R) 3)) (.int .u32 ((R) 4)) (.int .u32 ((R) 5)) (.int .u32 ((R) 6)) (.int .u32 ((R) 7)) (.int .u32 (nx)) (.int .u32 (f)) (.int .i64 0) (.int .u32 xx)
   have bp:=(aO (h:=w.heap.size+1+1+1) (g:=w.heap.size+1+1+1+1) U4.out (.inr (by omega)) (.inr (by omega)) (.int .u32 ((R) 0)) (.int .u32 ((R) 1)) (.int .u32 ((R) 2)) (.int .u32 ((R) 3)) (.int .u32 ((R) 4)) (.int .u32 ((R) 5)) (.int .u32 ((R) 6)) (.int .u32 ((R) 7)) (.int .u32 (nx)) (.int .u32 (f)) (.int .i64 0) (.int .u32 xx)).drew
   have hp:=(M4.out.upto (aO (h:=w.heap.size+1+1+1) (g:=w.heap.size+1+1+1+1) (ah.refl (fun i=>i=w.heap.size+1+1+1∨i=w.heap.size+1+1+1+1) wc) (.inl (.inl rfl)) (.inl (.inr rfl)) (.int .u32 ((R) 0)) (.int .u32 ((R) 1)) (.int .u32 ((R) 2)) (.int .u32 ((R) 3)) (.int .u32 ((R) 4)) (.int .u32 ((R) 5)) (.int .u32 ((R) 6)) (.int .u32 ((R) 7)) (.int .u32 (nx)) (.int .u32 (f)) (.int .i64 0) (.int .u32 xx)) (fun j hj hx=>dD.out j (by rcases hx with hx | hx<;>omega) hj)).drew
   have bC:=fq.drew
   clear fq
   generalize World.drew _=WZ at bC bp hp⊢
   obtain⟨g0,g1,g2,g3,g4,g5,g6,g7,g8,g9,o0,o1⟩:=bC.got v0 v1 v2 v3 v4 v5 v6 v7 v8 v9 t0 t1
   go_wp2_with fail
   exact bodyPost_ret (v:=dS ⟨M',R,nx,f,0,xx⟩) (by simp [dS,iJ,results,Tryz.results95,go_sem,g0,g1,g2,g3,g4,g5,g6,g7,g8,g9,o0,o1]) rfl ⟨rfl,hp,bp⟩
  ·have b0:(kk==0)=false:=by rw [beq_eq_false_iff_ne];exact hk
   have BH:(kk !=0)=true:=by rw [bne,b0];rfl
   go_wp2_with fail
   obtain⟨a0,a1,a2,a3,a4,a5,a6,a7,a8,a9⟩:=H4.out.s.all
   have oL:=H4.out.k.c0
   have oN:=H4.out.k.c1
   obtain⟨q0,y0,q1,y1,q2,y2,q3,y3,q4,y4,q5,y5,q6,y6,q7,y7,q8,y8,q9,y9,r0,z0,r1,z1⟩:=H4.out.q.all
   go_region
   clear q0 y0 q1 y1 q2 y2 q3 y3 q4 y4 q5 y5 q6 y6 q7 y7 q8 y8 q9 y9 r0 z0 r1 z1
   clear a0 a1 a2 a3 a4 a5 a6 a7 a8 a9 oL oN
   obtain⟨u,t,fq,v0,v1,v2,v3,v4,v5,v6,v7,v8,v9,t0,t1⟩:=H4.out.q.put (.int .u32 (R 0)) (.int .u32 (R 1)) (.int .u32 (R 2)) (.int .u32 (R 3)) (.int .u32 (R 4)) (.int .u32 (R 5)) (.int .u32 (R 6)) (.int .u32 (R 7)) (.int .u32 pc) (.int .u32 f) (.int .i64 kk) (.int .u32 xx)
   have bp:=(aO (h:=w.heap.size+1+1+1) (g:=w.heap.size+1+1+1+1) U4.out (.inr (by omega)) (.inr (by omega)) (.int .u32 (R 0)) (.int .u32 (R 1)) (.int .u32 (R 2)) (.int .u32 (R 3)) (.int .u32 (R 4)) (.int .u32 (R 5)) (.int .u32 (R 6)) (.int .u32 (R 7)) (.int .u32 pc) (.int .u32 f) (.int .i64 kk) (.int .u32 xx)).drew
   have hp:=(M4.out.upto (aO (h:=w.heap.size+1+1+1) (g:=w.heap.size+1+1+1+1) (ah.refl (fun i=>i=w.heap.size+1+1+1∨i=w.heap.size+1+1+1+1) wc) (.inl (.inl rfl)) (.inl (.inr rfl)) (.int .u32 (R 0)) (.int .u32 (R 1)) (.int .u32 (R 2)) (.int .u32 (R 3)) (.int .u32 (R 4)) (.int .u32 (R 5)) (.int .u32 (R 6)) (.int .u32 (R 7)) (.int .u32 pc) (.int .u32 f) (.int .i64 kk) (.int .u32 xx)) (fun j hj hx=>dD.out j (by rcases hx with hx | hx<;>omega) hj)).drew
   have bC:=fq.drew
   clear fq
   generalize World.drew _=WZ at bC bp hp⊢
   obtain⟨g0,g1,g2,g3,g4,g5,g6,g7,g8,g9,o0,o1⟩:=bC.got v0 v1 v2 v3 v4 v5 v6 v7 v8 v9 t0 t1
   go_wp2_with fail
   exact bodyPost_ret (v:=dS ⟨M',R,pc,f,kk,xx⟩) (by simp [dS,iJ,results,Tryz.results95,go_sem,g0,g1,g2,g3,g4,g5,g6,g7,g8,g9,o0,o1]) rfl ⟨rfl,hp,bp⟩
end Go.Proofs.YtcjcmnnhmajocabGreat.St
