import Derived.Test.YtcjcmnnhmajocabGreatPmbo
import Derived.Test.YtcjcmnnhmajocabGreatPmbp
import Derived.Test.YtcjcmnnhmajocabGreatPmbv
set_option linter.unusedVariables false
set_option linter.unusedSimpArgs false
set_option maxRecDepth 100000
set_option maxHeartbeats 16000000
namespace Go.Proofs.YtcjcmnnhmajocabGreat.St
open Go.RowKit Kt Me Fl Gu
variable {R:Nat→Int} {pc f:Int}
theorem Ym (P:RP) (M:MM) (d s:Nat) (o m n:Int) (w:World) (h:RM P M w) (hM:bQ M) (hR:qI R) (c0:0≤pc) (c1:pc<4294967296) (f0:0≤f) (f1:f<4294967296) (n0:0≤n) (n1:n<8) (hd:d<8) (O5:s<8) (o0:0≤o) (o1:o<16) (m0:0≤m) (m1:m<4294967296)
  (k:Int) (hk:(2≤k∧k≤4)∨k=8∨k=10∨k=11∨k=14∨k=15∨(24≤k∧k≤26)∨(k=30∧0≤o∧o<5)∨(k=31∧0≤o∧o<3)) (hs:gG M pc= .tuple #[fE k d s o m, .int .i64 n, .agg #[.int .i64 0, .int .u32 0]]):
  Calls Tryz.prog 64 #[.pointer (some ⟨P.q,0,none⟩),iJ R pc f] w fun e w'=>qE P w (stay R pc (f%16) (gK M R pc (f%16) (au (pc+n)) k d s o m)) e w':=by
 have CF:=κ (fun w h=>pW P M pc w h hM c0 c1)
 rw [hs] at CF
 have en:n%4294967296=n:=by omega
 have ew:(pc+n)%4294967296=au (pc+n):=rfl
 have S0:=S3.new w R pc (f%16)
 have B0:Below w.heap.size w (((w.alloc (.cells (iY R pc (f%16)) 94)).alloc (.cells oP 94)).alloc (.cells Z2 55)):=(((Below.refl _ _).alloc (Nat.le_refl _) _).alloc (by simp) _).alloc (by simp;omega) _
 have HH:=κ (h.upto (ah.ak (S:=fun _=>False) B0) (fun _ _=>id))
 unfold iY oP Z2 at S0 B0 HH
 unfold fE at CF
 unfold iJ
 have dD:=κ (fun i (hi:w.heap.size≤i) (hp:P.has i)=>show False by have:=iG h hp;omega)
 have Ou:(0:Int)≤(d:Int):=by omega
 have Ov:(d:Int) <8:=by omega
 have Jp:(0:Int)≤(s:Int):=by omega
 have vH:(s:Int) <8:=by omega
 have nxb:=aP (pc+n)
 obtain⟨nx,hnx⟩:∃nx,au (pc+n)=nx:=⟨_,rfl⟩
 rw [hnx] at ew nxb
 try rw [hnx]
 have CM:=(fun w h=>Yl (R:=R) (pc:=pc) (f:=f%16) (nx:=nx) k P M d s o m hd O5 w h hM hR nxb.1 nxb.2 (show 0≤f%16 by omega) (show f%16<16 by omega) hk)
 generalize stay R pc (f%16) (gK M R pc (f%16) nx k d s o m)=oo at CM⊢
 unfold qE dS jy iJ at CM
 have CM:=κ CM
 clear h hs
 go_enter Tryz.func64,Tryz.ntmps64
 go_wp2_with fail
 generalize((w.alloc (.cells #[.int .u32 (R 0), .int .u32 (R 1), .int .u32 (R 2), .int .u32 (R 3), .int .u32 (R 4), .int .u32 (R 5), .int .u32 (R 6), .int .u32 (R 7), .int .u32 pc, .int .u32 (f%16)] 94)).alloc (.cells #[.int .u32 0, .int .u32 0, .int .u32 0, .int .u32 0, .int .u32 0, .int .u32 0, .int .u32 0, .int .u32 0, .int .u32 0, .int .u32 0] 94)).alloc (.cells #[.int .i64 0, .int .u32 0] 55)=WA at S0 B0 HH⊢
 have HS:=κ S0
 have HB:=κ B0
 clear S0 B0
 go_upto_region 8 with(go_at_call 57;(with_reducible refine(CF.out _ HH.out).mono ?_);rintro e w1 ⟨rfl,b1⟩;have Jo:=κ (HS.out.below b1);have rQ:=κ (HH.out.upto (ah.ak (S:=fun _=>False) b1) (fun _ _=>id));have lw:=Jo.out.q.lb;obtain⟨s0,s1,s2,s3,s4,s5,s6,s7,s8,s9⟩:=Jo.out.all;have lh:w.heap.size<w1.heap.size:=by omega)
 have ev:(R s+m)%4294967296=au (R s+m):=rfl
 have i0:(k==0)=false:=by rw [beq_eq_false_iff_ne];omega
 have i1:(k==1)=false:=by rw [beq_eq_false_iff_ne];omega
 have i5:(k==5)=false:=by rw [beq_eq_false_iff_ne];omega
 have i6:(k==6)=false:=by rw [beq_eq_false_iff_ne];omega
 have i7:(k==7)=false:=by rw [beq_eq_false_iff_ne];omega
 have i9:(k==9)=false:=by rw [beq_eq_false_iff_ne];omega
 have i12:(k==12)=false:=by rw [beq_eq_false_iff_ne];omega
 have i13:(k==13)=false:=by rw [beq_eq_false_iff_ne];omega
 have i16:(k==16)=false:=by rw [beq_eq_false_iff_ne];omega
 have i17:(k==17)=false:=by rw [beq_eq_false_iff_ne];omega
 have i18:(k==18)=false:=by rw [beq_eq_false_iff_ne];omega
 have i19:(k==19)=false:=by rw [beq_eq_false_iff_ne];omega
 have i20:(k==20)=false:=by rw [beq_eq_false_iff_ne];omega
 have i21:(k==21)=false:=by rw [beq_eq_false_iff_ne];omega
 have i22:(k==22)=false:=by rw [beq_eq_false_iff_ne];omega
 have i23:(k==23)=false:=by rw [beq_eq_false_iff_ne];omega
 have i27:(k==27)=false:=by rw [beq_eq_false_iff_ne];omega
 have i28:(k==28)=false:=by rw [beq_eq_false_iff_ne];omega
 have i29:(k==29)=false:=by rw [beq_eq_false_iff_ne];omega
 obtain⟨oU,OC,fQ⟩:=Oz w1 R nx (f%16) k d s o m
 have lT:=OC.l
 have M1:=κ (rQ.out.upto fQ (fun _ _=>id))
 have U1:=κ ((ah.ak (S:=P.has) (HB.out.trans (b1.mono HB.out.size))).trans (fQ.mono (T:=P.has) fun _ _ h=>h.elim))
 have S1:=κ (Jo.out.upto fQ id id id)
 clear s0 s1 s2 s3 s4 s5 s6 s7 s8 s9
 unfold iY Z2 at oU OC fQ lT M1 U1 S1
 generalize((w1.alloc (.cells #[.int .i64 k, .int .i64 d, .int .i64 s, .int .i64 o, .int .u32 m] 74)).alloc (.cells #[.int .i64 0, .int .u32 0] 55)).alloc (.cells #[.int .u32 (R 0), .int .u32 (R 1), .int .u32 (R 2), .int .u32 (R 3), .int .u32 (R 4), .int .u32 (R 5), .int .u32 (R 6), .int .u32 (R 7), .int .u32 nx, .int .u32 (f%16)] 94)=WB at oU OC fQ lT M1 U1 S1⊢
 have X1:=κ oU
 have T1:=κ OC
 clear oU OC fQ
 have afF:¬w1.heap.size=w.heap.size:=by omega
 have afG:¬w.heap.size=w1.heap.size:=by omega
 have afH:¬w1.heap.size=w.heap.size+1:=by omega
 have afI:¬w.heap.size+1=w1.heap.size:=by omega
 have afJ:¬w1.heap.size=w.heap.size+1+1:=by omega
 have afK:¬w.heap.size+1+1=w1.heap.size:=by omega
 have afL:¬w1.heap.size+1+1=w.heap.size:=by omega
 have afM:¬w.heap.size=w1.heap.size+1+1:=by omega
 have afN:¬w1.heap.size+1+1=w.heap.size+1:=by omega
 have afO:¬w.heap.size+1=w1.heap.size+1+1:=by omega
 have afP:¬w1.heap.size+1+1=w.heap.size+1+1:=by omega
 have afQ:¬w.heap.size+1+1=w1.heap.size+1+1:=by omega
 have x0:=X1.out.c0
 have x1:=X1.out.c1
 have x2:=X1.out.c2
 have x3:=X1.out.c3
 have x4:=X1.out.c4
 have lX:=X1.out.l
 have sd:=S1.out.s d hd
 have ss:=S1.out.s s O5
 have s9:=S1.out.s9
 have td:=T1.out.r d hd
 have t8:=T1.out.c8
 have t9:=T1.out.c9
 have zd:=T1.out.z d
 have z8:=T1.out.z 8
 have z9:=T1.out.z 9
 go_upto_region 12 with fail
 have a0:=S1.out.s 0 (by omega)
 have b0:=T1.out.r 0 (by omega)
 have a1:=S1.out.s 1 (by omega)
 have b1:=T1.out.r 1 (by omega)
 have a2:=S1.out.s 2 (by omega)
 have b2:=T1.out.r 2 (by omega)
 have a3:=S1.out.s 3 (by omega)
 have b3:=T1.out.r 3 (by omega)
 have a4:=S1.out.s 4 (by omega)
 have b4:=T1.out.r 4 (by omega)
 have a5:=S1.out.s 5 (by omega)
 have b5:=T1.out.r 5 (by omega)
 have a6:=S1.out.s 6 (by omega)
 have b6:=T1.out.r 6 (by omega)
 have a7:=S1.out.s 7 (by omega)
 have b7:=T1.out.r 7 (by omega)
 have a8:=S1.out.s8
 have b8:=T1.out.c8
 have b9:=T1.out.c9
 clear sd ss td
 go_wp2_with (go_at_call 95;(with_reducible refine(CM.out _ M1.out).mono ?_);rintro e W3 ⟨rfl,m5,u5⟩;have M4:=κ m5;have U4:=κ (U1.out.trans u5);have S4:=κ (S1.out.upto u5 (fun hx=>dD.out _ (by omega) hx) (fun hx=>dD.out _ (by omega) hx) (fun hx=>dD.out _ (by omega) hx));clear a0 b0 a1 b1 a2 b2 a3 b3 a4 b4 a5 b5 a6 b6 a7 b7 a8 b8 b9 x0 x1 x2 x3 x4 lX s9 t8 t9 zd z8 z9 m5 u5;have Ze:w.heap.size+1+1<W3.heap.size:=S4.out.q.lb;obtain⟨q0,y0,q1,y1,q2,y2,q3,y3,q4,y4,q5,y5,q6,y6,q7,y7,q8,y8,q9,y9,r0,IL,r1,IQ⟩:=S4.out.q.all)
 clear q0 y0 q1 y1 q2 y2 q3 y3 q4 y4 q5 y5 q6 y6 q7 y7 q8 y8 q9 y9 r0 IL r1 IQ
 obtain⟨u,t,fq,v0,v1,v2,v3,v4,v5,v6,v7,v8,v9,t0,t1⟩:=S4.out.q.put (.int .u32 (oo.R 0)) (.int .u32 (oo.R 1)) (.int .u32 (oo.R 2)) (.int .u32 (oo.R 3)) (.int .u32 (oo.R 4)) (.int .u32 (oo.R 5)) (.int .u32 (oo.R 6)) (.int .u32 (oo.R 7)) (.int .u32 oo.pc) (.int .u32 oo.f) (.int .i64 oo.k) (.int .u32 oo.x)
 have bp:=(aO (h:=w.heap.size+1) (g:=w.heap.size+1+1) U4.out (.inr (by omega)) (.inr (by omega)) (.int .u32 (oo.R 0)) (.int .u32 (oo.R 1)) (.int .u32 (oo.R 2)) (.int .u32 (oo.R 3)) (.int .u32 (oo.R 4)) (.int .u32 (oo.R 5)) (.int .u32 (oo.R 6)) (.int .u32 (oo.R 7)) (.int .u32 oo.pc) (.int .u32 oo.f) (.int .i64 oo.k) (.int .u32 oo.x))
 have hp:=(M4.out.upto (aO (h:=w.heap.size+1) (g:=w.heap.size+1+1) (ah.refl (fun i=>i=w.heap.size+1∨i=w.heap.size+1+1) W3) (.inl (.inl rfl)) (.inl (.inr rfl)) (.int .u32 (oo.R 0)) (.int .u32 (oo.R 1)) (.int .u32 (oo.R 2)) (.int .u32 (oo.R 3)) (.int .u32 (oo.R 4)) (.int .u32 (oo.R 5)) (.int .u32 (oo.R 6)) (.int .u32 (oo.R 7)) (.int .u32 oo.pc) (.int .u32 oo.f) (.int .i64 oo.k) (.int .u32 oo.x)) (fun j hj hx=>dD.out j (by rcases hx with hx | hx<;>omega) hj))
 have bC:=fq
 clear fq
 obtain⟨g0,g1,g2,g3,g4,g5,g6,g7,g8,g9,o0,o1⟩:=bC.got v0 v1 v2 v3 v4 v5 v6 v7 v8 v9 t0 t1
 exact bodyPost_ret (v:=dS oo) (by simp [dS,iJ,results,Tryz.results64,go_sem,g0,g1,g2,g3,g4,g5,g6,g7,g8,g9,o0,o1]) rfl ⟨rfl,hp,bp⟩
variable {R:Nat→Int} {pc f:Int}
theorem OE (R:Nat→Int) (pc f:Int) (o:Out):(stay R pc f o).M=o.M:=by unfold stay;split<;>rfl
theorem OG {M:MM} {R:Nat→Int} {pc f nx k:Int} {d s:Nat} {o m:Int} (hk:k=0∨k=1∨k=5∨k=6∨k=7∨k=9∨k=12∨k=13∨k=16∨k=17∨k=18∨k=19∨k=20∨k=21∨k=22∨k=23∨k=27∨k=28∨k=29):(gK M R pc f nx k d s o m).M=M:=by
 rcases hk with rfl | rfl | rfl | rfl | rfl | rfl | rfl | rfl | rfl | rfl | rfl | rfl | rfl | rfl | rfl | rfl | rfl | rfl | rfl<;>first | rfl | (show(ite (_=true) _ _:Out).M=M;split<;>rfl)
theorem IU (M:MM) (R:Nat→Int) (pc f:Int) (hM:bQ M):
  (∃k x,k≠0∧gG M pc=iy k x∧stepO M R pc f=⟨M,R,pc,f%16,k,x⟩)∨
  (∃ (k:Int) (d s:Nat) (o m n:Int),gG M pc= .tuple #[fE k d s o m, .int .i64 n, .agg #[.int .i64 0, .int .u32 0]]∧stepO M R pc f=stay R pc (f%16) (gK M R pc (f%16) (au (pc+n)) k d s o m)∧
   (0≤n∧n<8)∧d<8∧s<8∧(0≤o∧o<16)∧(0≤m∧m<4294967296)∧(0≤k∧k<32)∧(k=30→o<5)∧(k=31→o<3)):=by
 unfold gG stepO
 rcases bY M pc 1 with _ | x
 ·rcases bY M pc (jf M pc) with _ | x
  ·by_cases h3:dz (gq (kU M pc)) 6=0
   ·have I:=sJ _ (N9 hM pc) h3
    refine .inr ⟨dz (gq (kU M pc)) 0,(dz (gq (kU M pc)) 1).toNat,(dz (gq (kU M pc)) 2).toNat,dz (gq (kU M pc)) 3,dz (gq (kU M pc)) 4,dz (gq (kU M pc)) 5, ?_, ?_,I.n, ?_, ?_,I.f,I.m,I.o,I.ld,I.st⟩
    ·simp only [if_pos h3,Int.toNat_of_nonneg I.d.1,Int.toNat_of_nonneg I.s.1]
    ·simp only [if_pos h3]
    ·have:=I.d;omega
    ·have:=I.s;omega
   ·exact .inl ⟨3,0,by omega,by simp only [if_neg h3],by simp only [if_neg h3]⟩
  ·exact .inl ⟨4,x,by omega,rfl,rfl⟩
 ·exact .inl ⟨4,x,by omega,rfl,rfl⟩
theorem xZ (P:RP) (M:MM) (R:Nat→Int) (pc f:Int) (w:World) (h:RM P M w) (hM:bQ M) (hR:qI R) (c0:0≤pc) (c1:pc<4294967296) (f0:0≤f) (f1:f<4294967296):
  Calls Tryz.prog 64 #[.pointer (some ⟨P.q,0,none⟩),iJ R pc f] w fun e w'=>e= .returned (dS (stepO M R pc f))∧RM P (stepO M R pc f).M w'∧ah P.has w w':=by
 rcases IU M R pc f hM with⟨k,x,hk,hi,ho⟩ | ⟨k,d,s,o,m,n,hi,ho,hn,hd,hs,hf,hm,hk,h30,h31⟩
 ·rw [ho]
  exact ED P M R pc f k x hk w h hM c0 c1 f0 f1 hi
 ·rw [ho,OE]
  by_cases Yn:(2≤k∧k≤4)∨k=8∨k=10∨k=11∨k=14∨k=15∨(24≤k∧k≤26)∨(k=30∧0≤o∧o<5)∨(k=31∧0≤o∧o<3)
  ·refine(Ym P M d s o m n w h hM hR c0 c1 f0 f1 hn.1 hn.2 hd hs hf.1 hf.2 hm.1 hm.2 k Yn hi).mono ?_
   rintro e w' ⟨h1,h2,h3⟩
   rw [OE] at h2
   exact⟨h1,h2,h3⟩
  have akf:k≠30:=fun e=>Yn (by have:=h30 e;omega)
  have akg:k≠31:=fun e=>Yn (by have:=h31 e;omega)
  have CG:k=0∨k=1∨k=5∨k=6∨k=7∨k=9∨k=12∨k=13∨k=16∨k=17∨k=18∨k=19∨k=20∨k=21∨k=22∨k=23∨k=27∨k=28∨k=29:=by omega
  have eM:(gK M R pc (f%16) (au (pc+n)) k d s o m).M=M:=OG CG
  refine(Yi P M d s o m n w h hM hR c0 c1 f0 f1 hn.1 hn.2 hd hs hf.1 hf.2 hm.1 hm.2 k CG hi).mono ?_
  rintro e w' ⟨h1,h2,h3⟩
  exact⟨h1,by rw [eM];exact h2,h3⟩
end Go.Proofs.YtcjcmnnhmajocabGreat.St
namespace Go.Proofs.YtcjcmnnhmajocabGreat.Gn
open Go.RowKit Kt Me
def tX (g n:Nat) (f:Nat→Value) (W:World):Prop:=g<W.heap.size∧(∀j,j<n→W.cell? ⟨g,j,none⟩=some (f j))∧∀j,W.frozen? ⟨g,j,none⟩=false
theorem tX.keep {g n:Nat} {f:Nat→Value} {W W':World} (h:tX g n f W) (b:Below W.heap.size W W'):tX g n f W':=
 ⟨Nat.lt_of_lt_of_le h.1 b.size,fun j hj=>(b.cell (p:=⟨g,j,none⟩) h.1).trans (h.2.1 j hj),fun j=>(b.frozen (p:=⟨g,j,none⟩) h.1).trans (h.2.2 j)⟩
theorem IV:∃i,Tryz.prog.info? 4=some i∧i.zero=some (.bool false)∧i.size=1∧i.bytes=1:=by
 have h:(Tryz.prog.info? 4).map (fun i=>(i.zero,i.size,i.bytes))=some (some (.bool false),1,1):=by kernel_rfl
 obtain⟨i,hi,hz⟩:=Option.map_eq_some_iff.1 h
 simp only [Prod.mk.injEq] at hz
 exact⟨i,hi,hz⟩
theorem TU {ops:Array Oper} {o:Oper} {a:Act} {w:World} {K:Act→World→Prop} {Q:Exit→Act→World→Prop} {E:Prop}
  (hg:o.guard=none) (x:Operand) (zQ:o.op=Op.call {callee:=Callee.builtin Builtin.append,args:= #[.const (.slice none 0 0),x],argTypes:= #[34,34]})
  (f:Nat→Int) (b n cap:Nat) (hx:a.eval x= .slice (some ⟨b,0,none⟩) n cap) (hc:∀j,j<n→w.cell? ⟨b,j,none⟩=some (Value.int .u8 (f j))) (h0:0<n) (hb:n≤65536)
  (hK:∀g c w',w.heap.size≤g→n≤c→tX g n (fun j=>Value.int .u8 (f j)) w'→Below w.heap.size w w'→K (a.put o.dst (.slice (some ⟨g,0,none⟩) n c)) w'):
  if Region.wanted o (yielded ops a.tmps)=true then Oper.wp Tryz.prog o a w K Q else E:=by
 have hw:Region.wanted o (yielded ops a.tmps)=true:=by simp [Region.wanted,hg]
 rw [if_pos hw]
 obtain⟨i,hi,hz,jS,Ko⟩:=Gu.og
 have Dt:(maxLen:Nat)=9223372036854775807:=rfl
 have el:((List.range n).map fun j=>Value.int .u8 (f j)).length=n:=by simp
 have e1:∀j u,((List.range n).map fun j=>Value.int .u8 (f j))[j]?=some u→w.cell? ((⟨b,0,none⟩:Addr).add j)=some u:=by
  intro j u hj
  rw [List.getElem?_map] at hj
  obtain⟨z,hz,rfl⟩:=Option.map_eq_some_iff.1 hj
  obtain⟨dh,hz⟩:=List.getElem?_eq_some_iff.1 hz
  rw [List.length_range] at dh
  rw [List.getElem_range] at hz
  subst hz
  rw [Addr.add_lit,Nat.zero_add]
  exact hc j dh
 have e2:∀u∈(List.range n).map (fun j=>Value.int .u8 (f j)),u.oneCell'=true:=by
  intro u hu
  obtain⟨z,_,rfl⟩:=List.mem_map.1 hu
  rfl
 obtain⟨v',w',vP,r1,r2,_⟩:=run_append_own (P:=Tryz.prog) w w.heap.size 34 o.type 5 i (.int .u8 0) 1 1 Tryz.underlying34 hi hz jS Ko rfl Nat.one_pos (.slice none 0 0) 0 [] (World.ownsRow_nil w _ _ _) ⟨b,0,none⟩ n cap ((List.range n).map fun j=>Value.int .u8 (f j)) (by simp) e1 e2 (by omega) (by omega) (Nat.le_refl _)
 have hB:Below w.heap.size w w':=(Below.refl _ _).grown r2 (Nat.le_refl _) (fun k hk=>by cases hk)
 have hv:∃g c,v'= .slice (some ⟨g,0,none⟩) n c∧w.heap.size≤g∧n≤c∧tX g n (fun j=>Value.int .u8 (f j)) w':=by
  rcases r1.2 with⟨_,hn⟩ | ⟨g,c1,cur,e,hg,iT,hle,Dt,jS,Ji⟩
  ·simp at hn;omega
  ·simp only [Nat.zero_add,List.nil_append] at e hle Ji
   refine⟨g,c1,e,hg,by simpa using hle,(Array.getElem?_eq_some_iff.1 iT).1,fun j hj=> ?_,fun j=>frozen_of_row _ _ _ _ _ iT⟩
   rw [cell_of_row w' g j _ _ _ iT,←Array.getElem?_toList]
   have h2:(cur.toList.take (n*1))[j]?=((List.range n).map fun j=>Value.int .u8 (f j))[j]?:=by rw [Ji]
   rw [Nat.mul_one,List.getElem?_take,if_pos hj,List.getElem?_map,List.getElem?_range hj] at h2
   rw [h2];rfl
 obtain⟨g,c,rfl,hg,hle,hr⟩:=hv
 unfold Oper.wp
 have hs:a.eval (.const (.slice none 0 0))= .slice none 0 0:=rfl
 simp [execOp,zQ,resolve,invoke,builtin,hs,hx,vP,Result.andThen]
 exact hK g c w' hg hle hr hB
theorem TV {ops:Array Oper} {o:Oper} {a:Act} {w:World} {K:Act→World→Prop} {Q:Exit→Act→World→Prop} {E:Prop}
  (hg:o.guard=none) (x:Operand) (zQ:o.op=Op.call {callee:=Callee.builtin Builtin.append,args:= #[.const (.slice none 0 0),x],argTypes:= #[45,45]})
  (f:Nat→Int) (b n cap:Nat) (hx:a.eval x= .slice (some ⟨b,0,none⟩) n cap) (hc:∀j,j<n→w.cell? ⟨b,j,none⟩=some (Value.int .i64 (f j))) (h0:0<n) (hb:n≤65536)
  (hK:∀g c w',w.heap.size≤g→n≤c→tX g n (fun j=>Value.int .i64 (f j)) w'→Below w.heap.size w w'→K (a.put o.dst (.slice (some ⟨g,0,none⟩) n c)) w'):
  if Region.wanted o (yielded ops a.tmps)=true then Oper.wp Tryz.prog o a w K Q else E:=by
 have hw:Region.wanted o (yielded ops a.tmps)=true:=by simp [Region.wanted,hg]
 rw [if_pos hw]
 obtain⟨i,hi,hz,jS,Ko⟩:=Ae
 have Dt:(maxLen:Nat)=9223372036854775807:=rfl
 have el:((List.range n).map fun j=>Value.int .i64 (f j)).length=n:=by simp
 have e1:∀j u,((List.range n).map fun j=>Value.int .i64 (f j))[j]?=some u→w.cell? ((⟨b,0,none⟩:Addr).add j)=some u:=by
  intro j u hj
  rw [List.getElem?_map] at hj
  obtain⟨z,hz,rfl⟩:=Option.map_eq_some_iff.1 hj
  obtain⟨dh,hz⟩:=List.getElem?_eq_some_iff.1 hz
  rw [List.length_range] at dh
  rw [List.getElem_range] at hz
  subst hz
  rw [Addr.add_lit,Nat.zero_add]
  exact hc j dh
 have e2:∀u∈(List.range n).map (fun j=>Value.int .i64 (f j)),u.oneCell'=true:=by
  intro u hu
  obtain⟨z,_,rfl⟩:=List.mem_map.1 hu
  rfl
 obtain⟨v',w',vP,r1,r2,_⟩:=run_append_own (P:=Tryz.prog) w w.heap.size 45 o.type 3 i (.int .i64 0) 1 8 Tryz.underlying45 hi hz jS Ko rfl Nat.one_pos (.slice none 0 0) 0 [] (World.ownsRow_nil w _ _ _) ⟨b,0,none⟩ n cap ((List.range n).map fun j=>Value.int .i64 (f j)) (by simp) e1 e2 (by omega) (by omega) (Nat.le_refl _)
 have hB:Below w.heap.size w w':=(Below.refl _ _).grown r2 (Nat.le_refl _) (fun k hk=>by cases hk)
 have hv:∃g c,v'= .slice (some ⟨g,0,none⟩) n c∧w.heap.size≤g∧n≤c∧tX g n (fun j=>Value.int .i64 (f j)) w':=by
  rcases r1.2 with⟨_,hn⟩ | ⟨g,c1,cur,e,hg,iT,hle,Dt,jS,Ji⟩
  ·simp at hn;omega
  ·simp only [Nat.zero_add,List.nil_append] at e hle Ji
   refine⟨g,c1,e,hg,by simpa using hle,(Array.getElem?_eq_some_iff.1 iT).1,fun j hj=> ?_,fun j=>frozen_of_row _ _ _ _ _ iT⟩
   rw [cell_of_row w' g j _ _ _ iT,←Array.getElem?_toList]
   have h2:(cur.toList.take (n*1))[j]?=((List.range n).map fun j=>Value.int .i64 (f j))[j]?:=by rw [Ji]
   rw [Nat.mul_one,List.getElem?_take,if_pos hj,List.getElem?_map,List.getElem?_range hj] at h2
   rw [h2];rfl
 obtain⟨g,c,rfl,hg,hle,hr⟩:=hv
 unfold Oper.wp
 have hs:a.eval (.const (.slice none 0 0))= .slice none 0 0:=rfl
 simp [execOp,zQ,resolve,invoke,builtin,hs,hx,vP,Result.andThen]
 exact hK g c w' hg hle hr hB
theorem Gj {ops:Array Oper} {o:Oper} {a:Act} {w:World} {K:Act→World→Prop} {Q:Exit→Act→World→Prop} {E:Prop}
  (hg:o.guard=none) (x:Operand) (zQ:o.op=Op.call {callee:=Callee.builtin Builtin.append,args:= #[.const (.slice none 0 0),x],argTypes:= #[131,131]})
  (f:Nat→Bool) (b n cap:Nat) (hx:a.eval x= .slice (some ⟨b,0,none⟩) n cap) (hc:∀j,j<n→w.cell? ⟨b,j,none⟩=some (Value.bool (f j))) (h0:0<n) (hb:n≤65536)
  (hK:∀g c w',w.heap.size≤g→n≤c→tX g n (fun j=>Value.bool (f j)) w'→Below w.heap.size w w'→K (a.put o.dst (.slice (some ⟨g,0,none⟩) n c)) w'):
  if Region.wanted o (yielded ops a.tmps)=true then Oper.wp Tryz.prog o a w K Q else E:=by
 have hw:Region.wanted o (yielded ops a.tmps)=true:=by simp [Region.wanted,hg]
 rw [if_pos hw]
 obtain⟨i,hi,hz,jS,Ko⟩:=IV
 have Dt:(maxLen:Nat)=9223372036854775807:=rfl
 have el:((List.range n).map fun j=>Value.bool (f j)).length=n:=by simp
 have e1:∀j u,((List.range n).map fun j=>Value.bool (f j))[j]?=some u→w.cell? ((⟨b,0,none⟩:Addr).add j)=some u:=by
  intro j u hj
  rw [List.getElem?_map] at hj
  obtain⟨z,hz,rfl⟩:=Option.map_eq_some_iff.1 hj
  obtain⟨dh,hz⟩:=List.getElem?_eq_some_iff.1 hz
  rw [List.length_range] at dh
  rw [List.getElem_range] at hz
  subst hz
  rw [Addr.add_lit,Nat.zero_add]
  exact hc j dh
 have e2:∀u∈(List.range n).map (fun j=>Value.bool (f j)),u.oneCell'=true:=by
  intro u hu
  obtain⟨z,_,rfl⟩:=List.mem_map.1 hu
  rfl
 obtain⟨v',w',vP,r1,r2,_⟩:=run_append_own (P:=Tryz.prog) w w.heap.size 131 o.type 4 i (.bool false) 1 1 Tryz.underlying131 hi hz jS Ko rfl Nat.one_pos (.slice none 0 0) 0 [] (World.ownsRow_nil w _ _ _) ⟨b,0,none⟩ n cap ((List.range n).map fun j=>Value.bool (f j)) (by simp) e1 e2 (by omega) (by omega) (Nat.le_refl _)
 have hB:Below w.heap.size w w':=(Below.refl _ _).grown r2 (Nat.le_refl _) (fun k hk=>by cases hk)
 have hv:∃g c,v'= .slice (some ⟨g,0,none⟩) n c∧w.heap.size≤g∧n≤c∧tX g n (fun j=>Value.bool (f j)) w':=by
  rcases r1.2 with⟨_,hn⟩ | ⟨g,c1,cur,e,hg,iT,hle,Dt,jS,Ji⟩
  ·simp at hn;omega
  ·simp only [Nat.zero_add,List.nil_append] at e hle Ji
   refine⟨g,c1,e,hg,by simpa using hle,(Array.getElem?_eq_some_iff.1 iT).1,fun j hj=> ?_,fun j=>frozen_of_row _ _ _ _ _ iT⟩
   rw [cell_of_row w' g j _ _ _ iT,←Array.getElem?_toList]
   have h2:(cur.toList.take (n*1))[j]?=((List.range n).map fun j=>Value.bool (f j))[j]?:=by rw [Ji]
   rw [Nat.mul_one,List.getElem?_take,if_pos hj,List.getElem?_map,List.getElem?_range hj] at h2
   rw [h2];rfl
 obtain⟨g,c,rfl,hg,hle,hr⟩:=hv
 unfold Oper.wp
 have hs:a.eval (.const (.slice none 0 0))= .slice none 0 0:=rfl
 simp [execOp,zQ,resolve,invoke,builtin,hs,hx,vP,Result.andThen]
 exact hK g c w' hg hle hr hB
theorem UQ {P:RP} {M:MM} {w':World} (h:RM P M w'):w'.cell? ⟨P.q,0,none⟩=some (.slice (some ⟨P.b,0,none⟩) 65536 P.cb)∧w'.cell? ⟨P.q,1,none⟩=some (.slice (some ⟨P.r,0,none⟩) 256 P.cr)∧w'.cell? ⟨P.q,2,none⟩=some (.slice (some ⟨P.m,0,none⟩) 256 P.cm)∧w'.cell? ⟨P.q,3,none⟩=some (.slice (some ⟨P.t,0,none⟩) 256 P.ct):=⟨h.wY,h.Jc,h.Jg,h.JW⟩
theorem RM.made {M:MM} {W:World} {gb gr gm gt cb cr cm ct:Nat} (hcb:65536≤cb) (b:tX gb 65536 (fun j=> .int .u8 (M.fD j)) W) (r:tX gr 256 (fun j=> .int .i64 (M.rt j)) W) (m:tX gm 256 (fun j=> .bool (M.wd j)) W) (t:tX gt 256 (fun j=> .bool (M.hi j)) W)
  (h:gb≠gr∧gb≠gm∧gb≠gt∧gr≠gm∧gr≠gt∧gm≠gt):RM ⟨W.heap.size,gb,gr,gm,gt,cb,cr,cm,ct,hcb⟩ M (W.alloc (.cells #[.slice (some ⟨gb,0,none⟩) 65536 cb, .slice (some ⟨gr,0,none⟩) 256 cr, .slice (some ⟨gm,0,none⟩) 256 cm, .slice (some ⟨gt,0,none⟩) 256 ct] 133)):=by
 generalize hz:(.cells #[.slice (some ⟨gb,0,none⟩) 65536 cb, .slice (some ⟨gr,0,none⟩) 256 cr, .slice (some ⟨gm,0,none⟩) 256 cm, .slice (some ⟨gt,0,none⟩) 256 ct] 133:Obj)=Z
 have tq:=(pY W Z _ rfl).trans (congrArg some hz.symm)
 have B:Below W.heap.size W (W.alloc Z):=(Below.refl _ _).alloc (Nat.le_refl _) _
 have dH:gb<W.heap.size∧gr<W.heap.size∧gm<W.heap.size∧gt<W.heap.size:=⟨b.1,r.1,m.1,t.1⟩
 have b:=b.keep B
 have r:=r.keep B
 have m:=m.keep B
 have t:=t.keep B
 have sz:(W.alloc Z).heap.size=W.heap.size+1:=by simp
 refine⟨?_, ?_, ?_, ?_, ?_,b.2.1,r.2.1,m.2.1,t.2.1,b.2.2,r.2.2,m.2.2,t.2.2, ?_,b.1,r.1,m.1,t.1⟩
 ·have:=b.1
  have b1:=dH
  show W.heap.size≠gb∧W.heap.size≠gr∧W.heap.size≠gm∧W.heap.size≠gt∧gb≠gr∧gb≠gm∧gb≠gt∧gr≠gm∧gr≠gt∧gm≠gt
  omega
 ·rw [cell_of_row _ _ _ _ _ _ tq];rfl
 ·rw [cell_of_row _ _ _ _ _ _ tq];rfl
 ·rw [cell_of_row _ _ _ _ _ _ tq];rfl
 ·rw [cell_of_row _ _ _ _ _ _ tq];rfl
 ·show W.heap.size<_;omega
theorem OH (P:RP) (M:MM) (w:World) (h:RM P M w):
  Calls Tryz.prog 31 #[.pointer (some ⟨P.q,0,none⟩)] w fun e w'=>∃Q:RP,e= .returned (.pointer (some ⟨Q.q,0,none⟩))∧RM Q M w'∧Below w.heap.size w w'∧∀k,Q.has k→w.heap.size≤k:=by
 have HR:=κ h.drew
 have BB:=κ (show Below w.heap.size w w.drew from(Below.refl _ _).drew)
 clear h
 go_enter Tryz.func31,Tryz.ntmps31
 go_upto_region 1 with fail
 go_region_held3 (fun w'=>w'.cell? ⟨P.q,0,none⟩=some (.slice (some ⟨P.b,0,none⟩) 65536 P.cb)∧w'.cell? ⟨P.q,1,none⟩=some (.slice (some ⟨P.r,0,none⟩) 256 P.cr)∧w'.cell? ⟨P.q,2,none⟩=some (.slice (some ⟨P.m,0,none⟩) 256 P.cm)∧w'.cell? ⟨P.q,3,none⟩=some (.slice (some ⟨P.t,0,none⟩) 256 P.ct)) (first | exact UQ HR.out | exact UQ (HR.out.upto ((ah.refl (fun _=>False) _).alloc _) (fun _ _=>id))) (first
  | (refine TU rfl (.tmp 6) rfl M.fD P.b 65536 P.cb (by simp [Act.eval,Act.put]) HR.out.hb (by decide) (by decide) ?_;intro g6 c6 w2 hg6 hc6 hr hb;have R6:=κ hr;clear hr;(try(replace OI:=κ (OI.out.keep hb)));(try(replace OJ:=κ (OJ.out.keep hb)));(try(replace OM:=κ (OM.out.keep hb)));have l6:=R6.out.1;replace HR:=κ (HR.out.upto (ah.ak (S:=fun _=>False) hb) (fun _ _=>id));replace BB:=κ (chain BB.out hb);have z6:=hb.size;clear hb)
  | (refine TV rfl (.tmp 11) rfl M.rt P.r 256 P.cr (by simp [Act.eval,Act.put]) HR.out.hr (by decide) (by decide) ?_;intro g11 c11 w2 akh aki hr hb;have OI:=κ hr;clear hr;(try(replace R6:=κ (R6.out.keep hb)));(try(replace OJ:=κ (OJ.out.keep hb)));(try(replace OM:=κ (OM.out.keep hb)));have l11:=OI.out.1;replace HR:=κ (HR.out.upto (ah.ak (S:=fun _=>False) hb) (fun _ _=>id));replace BB:=κ (chain BB.out hb);have UO:=hb.size;clear hb)
  | (refine Gj rfl (.tmp 16) rfl M.wd P.m 256 P.cm (by simp [Act.eval,Act.put]) HR.out.hm (by decide) (by decide) ?_;intro g16 c16 w2 akj akk hr hb;have OJ:=κ hr;clear hr;(try(replace R6:=κ (R6.out.keep hb)));(try(replace OI:=κ (OI.out.keep hb)));(try(replace OM:=κ (OM.out.keep hb)));have l16:=OJ.out.1;replace HR:=κ (HR.out.upto (ah.ak (S:=fun _=>False) hb) (fun _ _=>id));replace BB:=κ (chain BB.out hb);have z16:=hb.size;clear hb)
  | (refine Gj rfl (.tmp 21) rfl M.hi P.t 256 P.ct (by simp [Act.eval,Act.put]) HR.out.ht (by decide) (by decide) ?_;intro g21 c21 w2 akl akm hr hb;have OM:=κ hr;clear hr;(try(replace R6:=κ (R6.out.keep hb)));(try(replace OI:=κ (OI.out.keep hb)));(try(replace OJ:=κ (OJ.out.keep hb)));have l21:=OM.out.1;replace HR:=κ (HR.out.upto (ah.ak (S:=fun _=>False) hb) (fun _ _=>id));replace BB:=κ (chain BB.out hb);have z21:=hb.size;clear hb))
 all_goals go_wp2
 all_goals go_ret
 all_goals
  have hd:w.drew.heap.size=w.heap.size:=rfl
  refine⟨⟨w2.heap.size,g6,g11,g16,g21,c6,c11,c16,c21,hc6⟩,rfl,RM.made hc6 R6.out OI.out OJ.out OM.out (by clear HR BB R6 OI OJ OM;omega),BB.out.alloc (by clear HR R6 OI OJ OM;omega) _, ?_⟩
  clear HR BB R6 OI OJ OM
  rintro k (h | h | h | h | h)
  ·have h:k=w2.heap.size:=h
   omega
  ·have h:k=g6:=h
   omega
  ·have h:k=g11:=h
   omega
  ·have h:k=g16:=h
   omega
  ·have h:k=g21:=h
   omega
theorem OQ (P Q:RP) (M:MM) (w:World) (h:RM P M w) (h':RM Q M w):
  Calls Tryz.prog 67 #[.pointer (some ⟨P.q,0,none⟩), .pointer (some ⟨Q.q,0,none⟩)] w fun e w'=>e= .returned (.bool true)∧Below w.heap.size w w':=by
 have HP:=κ h
 have HQ:=κ h'
 have hq:=h.wY
 have hq':=h'.wY
 clear h h'
 go_enter Tryz.func67,Tryz.ntmps67
 go_wp2_with fail
 go_loopg [11] 65536 (fun k i wr=>∃j:Nat,k=65536-j∧j≤65536∧i= .int .i64 j∧Hid (Below w.heap.size w wr))
 case atStart=>exact⟨0,rfl,Nat.zero_le _,rfl,Below.refl _ _⟩
 case round=>
  obtain⟨j,hk,hj,rfl,HB⟩:=hrel
  by_cases dh:j<65536
  ·have pF:(j:Int) <65536:=by omega
   have ZB:(0:Int)≤(j:Int):=by omega
   have e1:=(HB.out.cell (p:=⟨P.b,j,none⟩) HP.out.lb).trans (HP.out.hb j dh)
   have e2:=(HB.out.cell (p:=⟨Q.b,j,none⟩) HQ.out.lb).trans (HQ.out.hb j dh)
   have e3:=(HB.out.cell (p:=⟨P.q,0,none⟩) HP.out.lq).trans hq
   have e4:=(HB.out.cell (p:=⟨Q.q,0,none⟩) HQ.out.lq).trans hq'
   generalize M.fD j=z at e1 e2
   go_wp2_with fail
   go_region
   go_wp2_with fail
   go_roundg (65536-(j+1))
   case measure=>omega
   case rel=>exact⟨j+1,rfl,by omega,by simp,HB.out.drew⟩
  ·obtain rfl:j=65536:=by omega
   go_wp2_with fail
   go_ret
   exact⟨rfl,HB.out⟩
end Go.Proofs.YtcjcmnnhmajocabGreat.Gn
