import Derived.Test.YtcjcmnnhmajocabGreatPmbj
import Derived.Test.YtcjcmnnhmajocabGreatPmbn
set_option linter.unusedVariables false
set_option linter.unusedSimpArgs false
set_option maxRecDepth 100000
set_option maxHeartbeats 16000000
namespace Go.Proofs.YtcjcmnnhmajocabGreat.St
open Go.RowKit Kt Me Fl Gu
def afE (P:RP) (w:World) (o:Out) (e:Ending) (w':World):Prop:=e= .returned (dS o)∧RM P o.M w'∧ah P.has w w'
theorem ED (P:RP) (M:MM) (R:Nat→Int) (pc f:Int) (k x:Int) (hk:k≠0) (w:World) (h:RM P M w) (hM:bQ M) (c0:0≤pc) (c1:pc<4294967296) (f0:0≤f) (f1:f<4294967296) (hs:gG M pc=iy k x):
  Calls Tryz.prog 64 #[.pointer (some ⟨P.q,0,none⟩),iJ R pc f] w fun e w'=>afE P w ⟨M,R,pc,f%16,k,x⟩ e w':=by
 have CF:=κ (fun w h=>pW P M pc w h hM c0 c1)
 rw [hs] at CF
 have S0:=S3.new w R pc (f%16)
 have B0:Below w.heap.size w (((w.alloc (.cells (iY R pc (f%16)) 94)).alloc (.cells oP 94)).alloc (.cells Z2 55)):=(((Below.refl _ _).alloc (Nat.le_refl _) _).alloc (by simp) _).alloc (by simp;omega) _
 have HH:=κ (h.upto (ah.ak (S:=fun _=>False) B0) (fun _ _=>id))
 unfold iY oP Z2 at S0 B0 HH
 have hkb:(k==0)=false:=by rw [beq_eq_false_iff_ne];exact hk
 have oQ:(k !=0)=true:=by rw [bne,hkb];rfl
 unfold iy fE at CF
 unfold iJ
 have dD:=κ (fun i (hi:w.heap.size≤i) (hp:P.has i)=>show False by have:=iG h hp;omega)
 clear h hM hs
 go_enter Tryz.func64,Tryz.ntmps64
 go_wp2_with fail
 generalize((w.alloc (.cells #[.int .u32 (R 0), .int .u32 (R 1), .int .u32 (R 2), .int .u32 (R 3), .int .u32 (R 4), .int .u32 (R 5), .int .u32 (R 6), .int .u32 (R 7), .int .u32 pc, .int .u32 (f%16)] 94)).alloc (.cells #[.int .u32 0, .int .u32 0, .int .u32 0, .int .u32 0, .int .u32 0, .int .u32 0, .int .u32 0, .int .u32 0, .int .u32 0, .int .u32 0] 94)).alloc (.cells #[.int .i64 0, .int .u32 0] 55)=WA at S0 B0 HH⊢
 have HS:=κ S0
 have HB:=κ B0
 clear S0 B0
 go_wp2_with (go_at_call 57;(with_reducible refine(CF.out _ HH.out).mono ?_);rintro e w1 ⟨rfl,b1⟩;have Jo:=κ (HS.out.below b1);have rQ:=κ (HH.out.upto (ah.ak (S:=fun _=>False) b1) (fun _ _=>id)))
 have e1:(w1.alloc (.cells #[.int .i64 0, .int .i64 0, .int .i64 0, .int .i64 0, .int .u32 0] 74)).heap.size=w1.heap.size+1:=by simp
 have k0:=ay (w1.alloc (.cells #[.int .i64 0, .int .i64 0, .int .i64 0, .int .i64 0, .int .u32 0] 74)) #[.int .i64 k, .int .u32 x] 55 0
 have k1:=ay (w1.alloc (.cells #[.int .i64 0, .int .i64 0, .int .i64 0, .int .i64 0, .int .u32 0] 74)) #[.int .i64 k, .int .u32 x] 55 1
 rw [e1] at k0 k1
 simp only [List.getElem?_toArray,List.getElem?_cons_zero,List.getElem?_cons_succ] at k0 k1
 have b2:Below w1.heap.size w1 ((w1.alloc (.cells #[.int .i64 0, .int .i64 0, .int .i64 0, .int .i64 0, .int .u32 0] 74)).alloc (.cells #[.int .i64 k, .int .u32 x] 55)):=((Below.refl _ _).alloc (Nat.le_refl _) _).alloc (by simp) _
 have ng:=κ (Jo.out.below b2)
 have wZ:=κ (rQ.out.upto (ah.ak (S:=fun _=>False) b2) (fun _ _=>id))
 generalize(w1.alloc (.cells #[.int .i64 0, .int .i64 0, .int .i64 0, .int .i64 0, .int .u32 0] 74)).alloc (.cells #[.int .i64 k, .int .u32 x] 55)=W2 at k0 k1 b2 ng wZ⊢
 have s0:=ng.out.s 0 (by omega)
 have s1:=ng.out.s 1 (by omega)
 have s2:=ng.out.s 2 (by omega)
 have s3:=ng.out.s 3 (by omega)
 have s4:=ng.out.s 4 (by omega)
 have s5:=ng.out.s 5 (by omega)
 have s6:=ng.out.s 6 (by omega)
 have s7:=ng.out.s 7 (by omega)
 have s8:=ng.out.s8
 have s9:=ng.out.s9
 have q0:=ng.out.q.a 0 (by omega)
 have y0:=ng.out.q.za 0
 have q1:=ng.out.q.a 1 (by omega)
 have y1:=ng.out.q.za 1
 have q2:=ng.out.q.a 2 (by omega)
 have y2:=ng.out.q.za 2
 have q3:=ng.out.q.a 3 (by omega)
 have y3:=ng.out.q.za 3
 have q4:=ng.out.q.a 4 (by omega)
 have y4:=ng.out.q.za 4
 have q5:=ng.out.q.a 5 (by omega)
 have y5:=ng.out.q.za 5
 have q6:=ng.out.q.a 6 (by omega)
 have y6:=ng.out.q.za 6
 have q7:=ng.out.q.a 7 (by omega)
 have y7:=ng.out.q.za 7
 have q8:=ng.out.q.a 8 (by omega)
 have y8:=ng.out.q.za 8
 have q9:=ng.out.q.a 9 (by omega)
 have y9:=ng.out.q.za 9
 have r0:=ng.out.q.b 0 (by omega)
 have z0:=ng.out.q.zb 0
 have r1:=ng.out.q.b 1 (by omega)
 have z1:=ng.out.q.zb 1
 have lw:=Jo.out.q.lb
 have n1:¬w1.heap.size=w.heap.size:=by omega
 have n2:¬w.heap.size=w1.heap.size:=by omega
 have n3:¬w1.heap.size=w.heap.size+1:=by omega
 have n4:¬w.heap.size+1=w1.heap.size:=by omega
 go_region
 clear s0 s1 s2 s3 s4 s5 s6 s7 s8 s9 q0 y0 q1 y1 q2 y2 q3 y3 q4 y4 q5 y5 q6 y6 q7 y7 q8 y8 q9 y9 r0 z0 r1 z1 k0 k1
 obtain⟨u,t,fq,u0,u1,u2,u3,u4,u5,u6,u7,u8,u9,t0,t1⟩:=ng.out.q.put (.int .u32 (R 0)) (.int .u32 (R 1)) (.int .u32 (R 2)) (.int .u32 (R 3)) (.int .u32 (R 4)) (.int .u32 (R 5)) (.int .u32 (R 6)) (.int .u32 (R 7)) (.int .u32 pc) (.int .u32 (f%16)) (.int .i64 k) (.int .u32 x)
 have bw:ah P.has w W2:=ah.ak ((HB.out.trans (b1.mono HB.out.size)).trans (b2.mono (Nat.le_trans HB.out.size b1.size)))
 have bp:=(aO (h:=w.heap.size+1) (g:=w.heap.size+1+1) bw (.inr (Nat.le_succ _)) (.inr (Nat.le_add_right _ 2)) (.int .u32 (R 0)) (.int .u32 (R 1)) (.int .u32 (R 2)) (.int .u32 (R 3)) (.int .u32 (R 4)) (.int .u32 (R 5)) (.int .u32 (R 6)) (.int .u32 (R 7)) (.int .u32 pc) (.int .u32 (f%16)) (.int .i64 k) (.int .u32 x)).drew
 have hp:=(wZ.out.upto (aO (h:=w.heap.size+1) (g:=w.heap.size+1+1) (ah.refl (fun i=>i=w.heap.size+1∨i=w.heap.size+1+1) W2) (.inl (.inl rfl)) (.inl (.inr rfl)) (.int .u32 (R 0)) (.int .u32 (R 1)) (.int .u32 (R 2)) (.int .u32 (R 3)) (.int .u32 (R 4)) (.int .u32 (R 5)) (.int .u32 (R 6)) (.int .u32 (R 7)) (.int .u32 pc) (.int .u32 (f%16)) (.int .i64 k) (.int .u32 x)) (fun j hj hx=>dD.out j (by rcases hx with hx | hx<;>omega) hj)).drew
 have bC:=fq.drew
 clear fq
 generalize World.drew _=WZ at bC bp hp⊢
 have g0:=bC.a 0 (by omega)
 rw [u0] at g0
 have g1:=bC.a 1 (by omega)
 rw [u1] at g1
 have g2:=bC.a 2 (by omega)
 rw [u2] at g2
 have g3:=bC.a 3 (by omega)
 rw [u3] at g3
 have g4:=bC.a 4 (by omega)
 rw [u4] at g4
 have g5:=bC.a 5 (by omega)
 rw [u5] at g5
 have g6:=bC.a 6 (by omega)
 rw [u6] at g6
 have g7:=bC.a 7 (by omega)
 rw [u7] at g7
 have g8:=bC.a 8 (by omega)
 rw [u8] at g8
 have g9:=bC.a 9 (by omega)
 rw [u9] at g9
 have o0:=bC.b 0 (by omega)
 rw [t0] at o0
 have o1:=bC.b 1 (by omega)
 rw [t1] at o1
 go_wp2_with fail
 refine bodyPost_ret (v:=dS ⟨M,R,pc,f%16,k,x⟩) (by simp [dS,iJ,results,Tryz.results64,go_sem,g0,g1,g2,g3,g4,g5,g6,g7,g8,g9,o0,o1]) rfl ⟨rfl,hp,bp⟩
end Go.Proofs.YtcjcmnnhmajocabGreat.St
