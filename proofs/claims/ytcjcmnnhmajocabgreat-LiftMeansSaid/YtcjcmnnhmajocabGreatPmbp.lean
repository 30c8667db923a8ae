import Derived.Test.YtcjcmnnhmajocabGreatPmbj
import Derived.Test.YtcjcmnnhmajocabGreatPmbn
set_option linter.unusedVariables false
set_option linter.unusedSimpArgs false
set_option maxRecDepth 100000
set_option maxHeartbeats 16000000
namespace Go.Proofs.YtcjcmnnhmajocabGreat.St
open Go.RowKit Kt Me Fl Gu
theorem Oz (w:World) (R:Nat→Int) (pc f k d s o m:Int):
  (XB w.heap.size k d s o m (((w.alloc (.cells #[.int .i64 k, .int .i64 d, .int .i64 s, .int .i64 o, .int .u32 m] 74)).alloc (.cells Z2 55)).alloc (.cells (iY R pc f) 94)))∧
  (SB (w.heap.size+1+1) R pc f (((w.alloc (.cells #[.int .i64 k, .int .i64 d, .int .i64 s, .int .i64 o, .int .u32 m] 74)).alloc (.cells Z2 55)).alloc (.cells (iY R pc f) 94)))∧
  ah (fun _=>False) w (((w.alloc (.cells #[.int .i64 k, .int .i64 d, .int .i64 s, .int .i64 o, .int .u32 m] 74)).alloc (.cells Z2 55)).alloc (.cells (iY R pc f) 94)):=by
 have hu:=(((ah.refl (fun _=>False) w).alloc (.cells #[.int .i64 k, .int .i64 d, .int .i64 s, .int .i64 o, .int .u32 m] 74)).alloc (.cells Z2 55)).alloc (.cells (iY R pc f) 94)
 refine⟨?_, ?_,hu⟩
 all_goals clear hu
 all_goals
  have x1:=XB.new w k d s o m 74
  have e1:(w.alloc (.cells #[.int .i64 k, .int .i64 d, .int .i64 s, .int .i64 o, .int .u32 m] 74)).heap.size=w.heap.size+1:=by simp
  generalize w.alloc (.cells #[.int .i64 k, .int .i64 d, .int .i64 s, .int .i64 o, .int .u32 m] 74)=W1 at x1 e1⊢
  have e2:(W1.alloc (.cells Z2 55)).heap.size=w.heap.size+1+1:=by simp [e1]
  have u2:=(ah.refl (fun _=>False) W1).alloc (.cells Z2 55)
  generalize W1.alloc (.cells Z2 55)=W2 at e2 u2⊢
  have s2:=SB.new W2 R pc f 94
  have u6:=(ah.refl (fun _=>False) W2).alloc (.cells (iY R pc f) 94)
  rw [e2] at s2
 ·exact(x1.upto u2 id).upto u6 id
 ·exact s2
theorem dL {h A i:Nat} {R:Nat→Int} {pc f:Int} {W:World} {v:Value} (a:S3 h R pc f W) (h0:¬h=A) (h1:¬h+1=A) (h2:¬h+1+1=A):S3 h R pc f (W.setCell ⟨A,i,none⟩ v):=
 a.upto (Oy (A:=A) (i:=i) (v:=v)) h0 h1 h2
theorem S3.drew {h:Nat} {R:Nat→Int} {pc f:Int} {W:World} (a:S3 h R pc f W):S3 h R pc f W.drew:=a.upto (ah.refl (fun _=>False) W).drew id id id
theorem Gf {W:World} {X H T d:Nat} {x1 x3 x9 xd:Value} (hX:¬T=X) (hH:¬T=H) (h1:W.cell? ⟨X,1,none⟩=some x1) (h3:W.cell? ⟨X,3,none⟩=some x3) (h9:W.cell? ⟨H,9,none⟩=some x9) (hdd:W.cell? ⟨T,d,none⟩=some xd) (hz:W.frozen? ⟨T,d,none⟩=false) (v:Value):
  (W.setCell ⟨T,d,none⟩ v).cell? ⟨X,1,none⟩=some x1∧(W.setCell ⟨T,d,none⟩ v).cell? ⟨X,3,none⟩=some x3∧(W.setCell ⟨T,d,none⟩ v).cell? ⟨H,9,none⟩=some x9∧((W.setCell ⟨T,d,none⟩ v).cell? ⟨T,d,none⟩).isSome=true∧(W.setCell ⟨T,d,none⟩ v).frozen? ⟨T,d,none⟩=false:=by
 have nX:∀i,(⟨T,d,none⟩:Addr)≠⟨X,i,none⟩:=fun i hx=>hX (congrArg Addr.block hx)
 have nH:∀i,(⟨T,d,none⟩:Addr)≠⟨H,i,none⟩:=fun i hx=>hH (congrArg Addr.block hx)
 refine⟨(World.cell?_setCell_other _ _ _ _ (nX _)).trans h1,(World.cell?_setCell_other _ _ _ _ (nX _)).trans h3,(World.cell?_setCell_other _ _ _ _ (nH _)).trans h9, ?_, ?_⟩
 ·rw [World.cell?_setCell_same _ _ _ hdd];rfl
 ·simpa using hz
variable {R:Nat→Int} {pc f:Int}
theorem Yi (P:RP) (M:MM) (d s:Nat) (o m n:Int) (w:World) (h:RM P M w) (hM:bQ M) (hR:qI R) (c0:0≤pc) (c1:pc<4294967296) (f0:0≤f) (f1:f<4294967296) (n0:0≤n) (n1:n<8) (hd:d<8) (O5:s<8) (o0:0≤o) (o1:o<16) (m0:0≤m) (m1:m<4294967296)
  (k:Int) (hk:k=0∨k=1∨k=5∨k=6∨k=7∨k=9∨k=12∨k=13∨k=16∨k=17∨k=18∨k=19∨k=20∨k=21∨k=22∨k=23∨k=27∨k=28∨k=29) (hs:gG M pc= .tuple #[fE k d s o m, .int .i64 n, .agg #[.int .i64 0, .int .u32 0]]):
  Calls Tryz.prog 64 #[.pointer (some ⟨P.q,0,none⟩),iJ R pc f] w fun e w'=>e= .returned (dS (stay R pc (f%16) (gK M R pc (f%16) (au (pc+n)) k d s o m)))∧RM P M w'∧ah P.has w w':=by
 have CF:=κ (fun w h=>pW P M pc w h hM c0 c1)
 rw [hs] at CF
 have en:n%4294967296=n:=by omega
 have ew:(pc+n)%4294967296=au (pc+n):=rfl
 have S0:=S3.new w R pc (f%16)
 have B0:Below w.heap.size w (((w.alloc (.cells (iY R pc (f%16)) 94)).alloc (.cells oP 94)).alloc (.cells Z2 55)):=(((Below.refl _ _).alloc (Nat.le_refl _) _).alloc (by simp) _).alloc (by simp;omega) _
 have HH:=κ (h.upto (ah.ak (S:=fun _=>False) B0) (fun _ _=>id))
 unfold iY oP Z2 at S0 B0 HH
 unfold fE at CF
 unfold iJ
 have dD:=κ (fun i (hi:w.heap.size≤i) (hp:P.has i)=>show False by have:=iG h hp;omega)
 have Ou:(0:Int)≤(d:Int):=by omega
 have Ov:(d:Int) <8:=by omega
 have Jp:(0:Int)≤(s:Int):=by omega
 have vH:(s:Int) <8:=by omega
 have nxb:=aP (pc+n)
 obtain⟨nx,hnx⟩:∃nx,au (pc+n)=nx:=⟨_,rfl⟩
 rw [hnx] at ew nxb
 try rw [hnx]
 obtain⟨OO,Yj⟩:∃OO,stay R pc (f%16) (gK M R pc (f%16) nx k d s o m)=OO:=⟨_,rfl⟩
 rw [Yj]
 have HO:=κ Yj.symm
 clear Yj
 clear h hs
 go_enter Tryz.func64,Tryz.ntmps64
 go_wp2_with fail
 generalize((w.alloc (.cells #[.int .u32 (R 0), .int .u32 (R 1), .int .u32 (R 2), .int .u32 (R 3), .int .u32 (R 4), .int .u32 (R 5), .int .u32 (R 6), .int .u32 (R 7), .int .u32 pc, .int .u32 (f%16)] 94)).alloc (.cells #[.int .u32 0, .int .u32 0, .int .u32 0, .int .u32 0, .int .u32 0, .int .u32 0, .int .u32 0, .int .u32 0, .int .u32 0, .int .u32 0] 94)).alloc (.cells #[.int .i64 0, .int .u32 0] 55)=WA at S0 B0 HH⊢
 have HS:=κ S0
 have HB:=κ B0
 clear S0 B0
 go_upto_region 8 with(go_at_call 57;(with_reducible refine(CF.out _ HH.out).mono ?_);rintro e w1 ⟨rfl,b1⟩;have Jo:=κ (HS.out.below b1);have rQ:=κ (HH.out.upto (ah.ak (S:=fun _=>False) b1) (fun _ _=>id));have lw:=Jo.out.q.lb;obtain⟨s0,s1,s2,s3,s4,s5,s6,s7,s8,s9⟩:=Jo.out.all;have lh:w.heap.size<w1.heap.size:=by omega)
 obtain⟨oU,OC,fQ⟩:=Oz w1 R nx (f%16) k d s o m
 have lT:=OC.l
 have M1:=κ (rQ.out.upto fQ (fun _ _=>id))
 have U1:=κ ((ah.ak (S:=P.has) (HB.out.trans (b1.mono HB.out.size))).trans (fQ.mono (T:=P.has) fun _ _ h=>h.elim))
 have S1:=κ (Jo.out.upto fQ id id id)
 clear s0 s1 s2 s3 s4 s5 s6 s7 s8 s9
 unfold iY Z2 at oU OC fQ lT M1 U1 S1
 generalize((w1.alloc (.cells #[.int .i64 k, .int .i64 d, .int .i64 s, .int .i64 o, .int .u32 m] 74)).alloc (.cells #[.int .i64 0, .int .u32 0] 55)).alloc (.cells #[.int .u32 (R 0), .int .u32 (R 1), .int .u32 (R 2), .int .u32 (R 3), .int .u32 (R 4), .int .u32 (R 5), .int .u32 (R 6), .int .u32 (R 7), .int .u32 nx, .int .u32 (f%16)] 94)=WB at oU OC fQ lT M1 U1 S1⊢
 have X1:=κ oU
 have T1:=κ OC
 clear oU OC fQ
 have afF:¬w1.heap.size=w.heap.size:=by omega
 have afG:¬w.heap.size=w1.heap.size:=by omega
 have afH:¬w1.heap.size=w.heap.size+1:=by omega
 have afI:¬w.heap.size+1=w1.heap.size:=by omega
 have afJ:¬w1.heap.size=w.heap.size+1+1:=by omega
 have afK:¬w.heap.size+1+1=w1.heap.size:=by omega
 have afL:¬w1.heap.size+1+1=w.heap.size:=by omega
 have afM:¬w.heap.size=w1.heap.size+1+1:=by omega
 have afN:¬w1.heap.size+1+1=w.heap.size+1:=by omega
 have afO:¬w.heap.size+1=w1.heap.size+1+1:=by omega
 have afP:¬w1.heap.size+1+1=w.heap.size+1+1:=by omega
 have afQ:¬w.heap.size+1+1=w1.heap.size+1+1:=by omega
 have x0:=X1.out.c0
 have x1:=X1.out.c1
 have x2:=X1.out.c2
 have x3:=X1.out.c3
 have x4:=X1.out.c4
 have lX:=X1.out.l
 have sd:=S1.out.s d hd
 have ss:=S1.out.s s O5
 have s9:=S1.out.s9
 have td:=T1.out.r d hd
 have t8:=T1.out.c8
 have t9:=T1.out.c9
 have zd:=T1.out.z d
 have z8:=T1.out.z 8
 have z9:=T1.out.z 9
 refine hk.elim ?c0 fun hk=>hk.elim ?c1 fun hk=>hk.elim ?c5 fun hk=>hk.elim ?c6 fun hk=>hk.elim ?c7 fun hk=>hk.elim ?c9 fun hk=>hk.elim ?c12 fun hk=>hk.elim ?c13 fun hk=>hk.elim ?c16 fun hk=>hk.elim ?c17 fun hk=>hk.elim ?c18 fun hk=>hk.elim ?c19 fun hk=>hk.elim ?c20 fun hk=>hk.elim ?c21 fun hk=>hk.elim ?c22 fun hk=>hk.elim ?c23 fun hk=>hk.elim ?c27 fun hk=>hk.elim ?c28 ?c29
 case' c0=>
  intro ek
  subst ek
  go_upto_region 57 with fail
  have t4:=T1.out
  clear x0 x1 x2 x3 x4 lX sd ss s9 td t8 t9 zd z8 z9
  have m4:RM P M (WB):=by repeat(first | exact M1.out | apply RM.drew | refine aS ?_ (dD.out _ (by omega)))
  have u4:ah P.has w (WB):=by repeat(first | exact U1.out | apply ah.drew | refine aK ?_ (by omega))
  have s4:S3 w.heap.size R pc (f%16) (WB):=by repeat(first | exact S1.out | apply S3.drew | refine dL ?_ (by omega) (by omega) (by omega))
  generalize WB=W3 at t4 m4 u4 s4⊢
  obtain⟨R4,p4,f4,T4,HE⟩:∃R4 p4 f4,Hid (SB (w1.heap.size+1+1) R4 p4 f4 W3)∧Hid (OO=⟨M,R4,p4,f4,0,0⟩):=⟨_,_,_,κ t4,κ (HO.out.trans (rfl))⟩
  have M4:=κ m4
  have U4:=κ u4
  have S4:=κ s4
  clear t4 m4 u4 s4 T1 M1 U1 S1 X1 HO
 case' c6=>
  intro ek
  subst ek
  have ev:(nx+m)%4294967296=au (nx+m):=rfl
  go_upto_region 57 with fail
  have t4:=T1.out.jk (au (nx+m))
  clear x0 x1 x2 x3 x4 lX sd ss s9 td t8 t9 zd z8 z9
  have m4:RM P M (WB.setCell ⟨w1.heap.size+1+1,8,none⟩ (.int .u32 (au (nx+m)))):=by repeat(first | exact M1.out | apply RM.drew | refine aS ?_ (dD.out _ (by omega)))
  have u4:ah P.has w (WB.setCell ⟨w1.heap.size+1+1,8,none⟩ (.int .u32 (au (nx+m)))):=by repeat(first | exact U1.out | apply ah.drew | refine aK ?_ (by omega))
  have s4:S3 w.heap.size R pc (f%16) (WB.setCell ⟨w1.heap.size+1+1,8,none⟩ (.int .u32 (au (nx+m)))):=by repeat(first | exact S1.out | apply S3.drew | refine dL ?_ (by omega) (by omega) (by omega))
  generalize WB.setCell ⟨w1.heap.size+1+1,8,none⟩ (.int .u32 (au (nx+m)))=W3 at t4 m4 u4 s4⊢
  obtain⟨R4,p4,f4,T4,HE⟩:∃R4 p4 f4,Hid (SB (w1.heap.size+1+1) R4 p4 f4 W3)∧Hid (OO=⟨M,R4,p4,f4,0,0⟩):=⟨_,_,_,κ t4,κ (HO.out.trans (rfl))⟩
  have M4:=κ m4
  have U4:=κ u4
  have S4:=κ s4
  clear t4 m4 u4 s4 T1 M1 U1 S1 X1 HO
 case' c7=>
  intro ek
  subst ek
  have ev:(nx+m)%4294967296=au (nx+m):=rfl
  go_upto_region 57 with fail
  have t4:=T1.out.jk (au (nx+m))
  clear x0 x1 x2 x3 x4 lX sd ss s9 td t8 t9 zd z8 z9
  have m4:RM P M (WB.setCell ⟨w1.heap.size+1+1,8,none⟩ (.int .u32 (au (nx+m)))):=by repeat(first | exact M1.out | apply RM.drew | refine aS ?_ (dD.out _ (by omega)))
  have u4:ah P.has w (WB.setCell ⟨w1.heap.size+1+1,8,none⟩ (.int .u32 (au (nx+m)))):=by repeat(first | exact U1.out | apply ah.drew | refine aK ?_ (by omega))
  have s4:S3 w.heap.size R pc (f%16) (WB.setCell ⟨w1.heap.size+1+1,8,none⟩ (.int .u32 (au (nx+m)))):=by repeat(first | exact S1.out | apply S3.drew | refine dL ?_ (by omega) (by omega) (by omega))
  generalize WB.setCell ⟨w1.heap.size+1+1,8,none⟩ (.int .u32 (au (nx+m)))=W3 at t4 m4 u4 s4⊢
  obtain⟨R4,p4,f4,T4,HE⟩:∃R4 p4 f4,Hid (SB (w1.heap.size+1+1) R4 p4 f4 W3)∧Hid (OO=⟨M,R4,p4,f4,0,0⟩):=⟨_,_,_,κ t4,κ (HO.out.trans (rfl))⟩
  have M4:=κ m4
  have U4:=κ u4
  have S4:=κ s4
  clear t4 m4 u4 s4 T1 M1 U1 S1 X1 HO
 case' c9=>
  intro ek
  subst ek
  go_upto_region 57 with fail
  have t4:=T1.out.jk (R s)
  clear x0 x1 x2 x3 x4 lX sd ss s9 td t8 t9 zd z8 z9
  have m4:RM P M (WB.setCell ⟨w1.heap.size+1+1,8,none⟩ (.int .u32 (R s))):=by repeat(first | exact M1.out | apply RM.drew | refine aS ?_ (dD.out _ (by omega)))
  have u4:ah P.has w (WB.setCell ⟨w1.heap.size+1+1,8,none⟩ (.int .u32 (R s))):=by repeat(first | exact U1.out | apply ah.drew | refine aK ?_ (by omega))
  have s4:S3 w.heap.size R pc (f%16) (WB.setCell ⟨w1.heap.size+1+1,8,none⟩ (.int .u32 (R s))):=by repeat(first | exact S1.out | apply S3.drew | refine dL ?_ (by omega) (by omega) (by omega))
  generalize WB.setCell ⟨w1.heap.size+1+1,8,none⟩ (.int .u32 (R s))=W3 at t4 m4 u4 s4⊢
  obtain⟨R4,p4,f4,T4,HE⟩:∃R4 p4 f4,Hid (SB (w1.heap.size+1+1) R4 p4 f4 W3)∧Hid (OO=⟨M,R4,p4,f4,0,0⟩):=⟨_,_,_,κ t4,κ (HO.out.trans (rfl))⟩
  have M4:=κ m4
  have U4:=κ u4
  have S4:=κ s4
  clear t4 m4 u4 s4 T1 M1 U1 S1 X1 HO
 case' c16=>
  intro ek
  subst ek
  go_upto_region 57 with fail
  have t4:=T1.out.bI d hd m
  clear x0 x1 x2 x3 x4 lX sd ss s9 td t8 t9 zd z8 z9
  have m4:RM P M (WB.setCell ⟨w1.heap.size+1+1,d,none⟩ (.int .u32 (m))):=by repeat(first | exact M1.out | apply RM.drew | refine aS ?_ (dD.out _ (by omega)))
  have u4:ah P.has w (WB.setCell ⟨w1.heap.size+1+1,d,none⟩ (.int .u32 (m))):=by repeat(first | exact U1.out | apply ah.drew | refine aK ?_ (by omega))
  have s4:S3 w.heap.size R pc (f%16) (WB.setCell ⟨w1.heap.size+1+1,d,none⟩ (.int .u32 (m))):=by repeat(first | exact S1.out | apply S3.drew | refine dL ?_ (by omega) (by omega) (by omega))
  generalize WB.setCell ⟨w1.heap.size+1+1,d,none⟩ (.int .u32 (m))=W3 at t4 m4 u4 s4⊢
  obtain⟨R4,p4,f4,T4,HE⟩:∃R4 p4 f4,Hid (SB (w1.heap.size+1+1) R4 p4 f4 W3)∧Hid (OO=⟨M,R4,p4,f4,0,0⟩):=⟨_,_,_,κ t4,κ (HO.out.trans (rfl))⟩
  have M4:=κ m4
  have U4:=κ u4
  have S4:=κ s4
  clear t4 m4 u4 s4 T1 M1 U1 S1 X1 HO
 case' c17=>
  intro ek
  subst ek
  have hr:=hR d
  have CK:=κ (fun w=>fU 11 (R d) 0 (f%16) w hr.1 hr.2 (by omega) (by omega) (by omega) (by omega))
  have ev:(R d+1)%4294967296=au (R d+1):=rfl
  go_upto_region 57 with(go_at_call 91;(with_reducible refine(CK.out _).mono ?_);rintro e w3 ⟨rfl,rfl⟩)
  have t4:=(T1.out.bI d hd (au (R d+1))).gU (Fl.fl 11 (R d) 0 (f%16))
  clear x0 x1 x2 x3 x4 lX sd ss s9 td t8 t9 zd z8 z9
  have m4:RM P M ((WB.setCell ⟨w1.heap.size+1+1,d,none⟩ (.int .u32 (au (R d+1)))).setCell ⟨w1.heap.size+1+1,9,none⟩ (.int .u32 (Fl.fl 11 (R d) 0 (f%16)))):=by repeat(first | exact M1.out | apply RM.drew | refine aS ?_ (dD.out _ (by omega)))
  have u4:ah P.has w ((WB.setCell ⟨w1.heap.size+1+1,d,none⟩ (.int .u32 (au (R d+1)))).setCell ⟨w1.heap.size+1+1,9,none⟩ (.int .u32 (Fl.fl 11 (R d) 0 (f%16)))):=by repeat(first | exact U1.out | apply ah.drew | refine aK ?_ (by omega))
  have s4:S3 w.heap.size R pc (f%16) ((WB.setCell ⟨w1.heap.size+1+1,d,none⟩ (.int .u32 (au (R d+1)))).setCell ⟨w1.heap.size+1+1,9,none⟩ (.int .u32 (Fl.fl 11 (R d) 0 (f%16)))):=by repeat(first | exact S1.out | apply S3.drew | refine dL ?_ (by omega) (by omega) (by omega))
  generalize(WB.setCell ⟨w1.heap.size+1+1,d,none⟩ (.int .u32 (au (R d+1)))).setCell ⟨w1.heap.size+1+1,9,none⟩ (.int .u32 (Fl.fl 11 (R d) 0 (f%16)))=W3 at t4 m4 u4 s4⊢
  obtain⟨R4,p4,f4,T4,HE⟩:∃R4 p4 f4,Hid (SB (w1.heap.size+1+1) R4 p4 f4 W3)∧Hid (OO=⟨M,R4,p4,f4,0,0⟩):=⟨_,_,_,κ t4,κ (HO.out.trans (rfl))⟩
  have M4:=κ m4
  have U4:=κ u4
  have S4:=κ s4
  clear t4 m4 u4 s4 T1 M1 U1 S1 X1 HO
 case' c18=>
  intro ek
  subst ek
  have hr:=hR d
  have CK:=κ (fun w=>fU 12 (R d) 0 (f%16) w hr.1 hr.2 (by omega) (by omega) (by omega) (by omega))
  have ev:(R d-1)%4294967296=au (R d-1):=rfl
  go_upto_region 57 with(go_at_call 91;(with_reducible refine(CK.out _).mono ?_);rintro e w3 ⟨rfl,rfl⟩)
  have t4:=(T1.out.bI d hd (au (R d-1))).gU (Fl.fl 12 (R d) 0 (f%16))
  clear x0 x1 x2 x3 x4 lX sd ss s9 td t8 t9 zd z8 z9
  have m4:RM P M ((WB.setCell ⟨w1.heap.size+1+1,d,none⟩ (.int .u32 (au (R d-1)))).setCell ⟨w1.heap.size+1+1,9,none⟩ (.int .u32 (Fl.fl 12 (R d) 0 (f%16)))):=by repeat(first | exact M1.out | apply RM.drew | refine aS ?_ (dD.out _ (by omega)))
  have u4:ah P.has w ((WB.setCell ⟨w1.heap.size+1+1,d,none⟩ (.int .u32 (au (R d-1)))).setCell ⟨w1.heap.size+1+1,9,none⟩ (.int .u32 (Fl.fl 12 (R d) 0 (f%16)))):=by repeat(first | exact U1.out | apply ah.drew | refine aK ?_ (by omega))
  have s4:S3 w.heap.size R pc (f%16) ((WB.setCell ⟨w1.heap.size+1+1,d,none⟩ (.int .u32 (au (R d-1)))).setCell ⟨w1.heap.size+1+1,9,none⟩ (.int .u32 (Fl.fl 12 (R d) 0 (f%16)))):=by repeat(first | exact S1.out | apply S3.drew | refine dL ?_ (by omega) (by omega) (by omega))
  generalize(WB.setCell ⟨w1.heap.size+1+1,d,none⟩ (.int .u32 (au (R d-1)))).setCell ⟨w1.heap.size+1+1,9,none⟩ (.int .u32 (Fl.fl 12 (R d) 0 (f%16)))=W3 at t4 m4 u4 s4⊢
  obtain⟨R4,p4,f4,T4,HE⟩:∃R4 p4 f4,Hid (SB (w1.heap.size+1+1) R4 p4 f4 W3)∧Hid (OO=⟨M,R4,p4,f4,0,0⟩):=⟨_,_,_,κ t4,κ (HO.out.trans (rfl))⟩
  have M4:=κ m4
  have U4:=κ u4
  have S4:=κ s4
  clear t4 m4 u4 s4 T1 M1 U1 S1 X1 HO
 case' c19=>
  intro ek
  subst ek
  have hr:=hR d
  have CK:=κ (fun w=>fU 3 0 (R d) (f%16) w (by omega) (by omega) hr.1 hr.2 (by omega) (by omega))
  have ev:(-R d)%4294967296=au (-R d):=rfl
  have ev':(0-R d)%4294967296=au (-R d):=by rw [Int.zero_sub];rfl
  go_upto_region 57 with(go_at_call 91;(with_reducible refine(CK.out _).mono ?_);rintro e w3 ⟨rfl,rfl⟩)
  have t4:=(T1.out.bI d hd (au (-R d))).gU (Fl.fl 3 0 (R d) (f%16))
  clear x0 x1 x2 x3 x4 lX sd ss s9 td t8 t9 zd z8 z9
  have m4:RM P M ((WB.setCell ⟨w1.heap.size+1+1,d,none⟩ (.int .u32 (au (-R d)))).setCell ⟨w1.heap.size+1+1,9,none⟩ (.int .u32 (Fl.fl 3 0 (R d) (f%16)))):=by repeat(first | exact M1.out | apply RM.drew | refine aS ?_ (dD.out _ (by omega)))
  have u4:ah P.has w ((WB.setCell ⟨w1.heap.size+1+1,d,none⟩ (.int .u32 (au (-R d)))).setCell ⟨w1.heap.size+1+1,9,none⟩ (.int .u32 (Fl.fl 3 0 (R d) (f%16)))):=by repeat(first | exact U1.out | apply ah.drew | refine aK ?_ (by omega))
  have s4:S3 w.heap.size R pc (f%16) ((WB.setCell ⟨w1.heap.size+1+1,d,none⟩ (.int .u32 (au (-R d)))).setCell ⟨w1.heap.size+1+1,9,none⟩ (.int .u32 (Fl.fl 3 0 (R d) (f%16)))):=by repeat(first | exact S1.out | apply S3.drew | refine dL ?_ (by omega) (by omega) (by omega))
  generalize(WB.setCell ⟨w1.heap.size+1+1,d,none⟩ (.int .u32 (au (-R d)))).setCell ⟨w1.heap.size+1+1,9,none⟩ (.int .u32 (Fl.fl 3 0 (R d) (f%16)))=W3 at t4 m4 u4 s4⊢
  obtain⟨R4,p4,f4,T4,HE⟩:∃R4 p4 f4,Hid (SB (w1.heap.size+1+1) R4 p4 f4 W3)∧Hid (OO=⟨M,R4,p4,f4,0,0⟩):=⟨_,_,_,κ t4,κ (HO.out.trans (rfl))⟩
  have M4:=κ m4
  have U4:=κ u4
  have S4:=κ s4
  clear t4 m4 u4 s4 T1 M1 U1 S1 X1 HO
 case' c20=>
  intro ek
  subst ek
  have hr:=hR d
  have ev:(4294967295-R d)%4294967296=4294967295-R d:=by omega
  go_upto_region 57 with fail
  have t4:=T1.out.bI d hd (4294967295-R d)
  clear x0 x1 x2 x3 x4 lX sd ss s9 td t8 t9 zd z8 z9
  have m4:RM P M (WB.setCell ⟨w1.heap.size+1+1,d,none⟩ (.int .u32 (4294967295-R d))):=by repeat(first | exact M1.out | apply RM.drew | refine aS ?_ (dD.out _ (by omega)))
  have u4:ah P.has w (WB.setCell ⟨w1.heap.size+1+1,d,none⟩ (.int .u32 (4294967295-R d))):=by repeat(first | exact U1.out | apply ah.drew | refine aK ?_ (by omega))
  have s4:S3 w.heap.size R pc (f%16) (WB.setCell ⟨w1.heap.size+1+1,d,none⟩ (.int .u32 (4294967295-R d))):=by repeat(first | exact S1.out | apply S3.drew | refine dL ?_ (by omega) (by omega) (by omega))
  generalize WB.setCell ⟨w1.heap.size+1+1,d,none⟩ (.int .u32 (4294967295-R d))=W3 at t4 m4 u4 s4⊢
  obtain⟨R4,p4,f4,T4,HE⟩:∃R4 p4 f4,Hid (SB (w1.heap.size+1+1) R4 p4 f4 W3)∧Hid (OO=⟨M,R4,p4,f4,0,0⟩):=⟨_,_,_,κ t4,κ (HO.out.trans (rfl))⟩
  have M4:=κ m4
  have U4:=κ u4
  have S4:=κ s4
  clear t4 m4 u4 s4 T1 M1 U1 S1 X1 HO
 case' c22=>
  intro ek
  subst ek
  go_upto_region 57 with fail
  have t4:=T1.out.bI d hd (R s)
  clear x0 x1 x2 x3 x4 lX sd ss s9 td t8 t9 zd z8 z9
  have m4:RM P M (WB.setCell ⟨w1.heap.size+1+1,d,none⟩ (.int .u32 (R s))):=by repeat(first | exact M1.out | apply RM.drew | refine aS ?_ (dD.out _ (by omega)))
  have u4:ah P.has w (WB.setCell ⟨w1.heap.size+1+1,d,none⟩ (.int .u32 (R s))):=by repeat(first | exact U1.out | apply ah.drew | refine aK ?_ (by omega))
  have s4:S3 w.heap.size R pc (f%16) (WB.setCell ⟨w1.heap.size+1+1,d,none⟩ (.int .u32 (R s))):=by repeat(first | exact S1.out | apply S3.drew | refine dL ?_ (by omega) (by omega) (by omega))
  generalize WB.setCell ⟨w1.heap.size+1+1,d,none⟩ (.int .u32 (R s))=W3 at t4 m4 u4 s4⊢
  obtain⟨R4,p4,f4,T4,HE⟩:∃R4 p4 f4,Hid (SB (w1.heap.size+1+1) R4 p4 f4 W3)∧Hid (OO=⟨M,R4,p4,f4,0,0⟩):=⟨_,_,_,κ t4,κ (HO.out.trans (rfl))⟩
  have M4:=κ m4
  have U4:=κ u4
  have S4:=κ s4
  clear t4 m4 u4 s4 T1 M1 U1 S1 X1 HO
 case' c23=>
  intro ek
  subst ek
  have ev:(R s+m)%4294967296=au (R s+m):=rfl
  go_upto_region 57 with fail
  have t4:=T1.out.bI d hd (au (R s+m))
  clear x0 x1 x2 x3 x4 lX sd ss s9 td t8 t9 zd z8 z9
  have m4:RM P M (WB.setCell ⟨w1.heap.size+1+1,d,none⟩ (.int .u32 (au (R s+m)))):=by repeat(first | exact M1.out | apply RM.drew | refine aS ?_ (dD.out _ (by omega)))
  have u4:ah P.has w (WB.setCell ⟨w1.heap.size+1+1,d,none⟩ (.int .u32 (au (R s+m)))):=by repeat(first | exact U1.out | apply ah.drew | refine aK ?_ (by omega))
  have s4:S3 w.heap.size R pc (f%16) (WB.setCell ⟨w1.heap.size+1+1,d,none⟩ (.int .u32 (au (R s+m)))):=by repeat(first | exact S1.out | apply S3.drew | refine dL ?_ (by omega) (by omega) (by omega))
  generalize WB.setCell ⟨w1.heap.size+1+1,d,none⟩ (.int .u32 (au (R s+m)))=W3 at t4 m4 u4 s4⊢
  obtain⟨R4,p4,f4,T4,HE⟩:∃R4 p4 f4,Hid (SB (w1.heap.size+1+1) R4 p4 f4 W3)∧Hid (OO=⟨M,R4,p4,f4,0,0⟩):=⟨_,_,_,κ t4,κ (HO.out.trans (rfl))⟩
  have M4:=κ m4
  have U4:=κ u4
  have S4:=κ s4
  clear t4 m4 u4 s4 T1 M1 U1 S1 X1 HO
 case' c12=>
  intro ek
  subst ek
  have CH:=κ (fun w=>nZ o (f%16) w (by omega) (by omega))
  have ev:(nx+m)%4294967296=au (nx+m):=rfl
  refine(Bool.eq_false_or_eq_true (Fl.hd o (f%16))).elim ?t12 ?f12
 case' t12=>
  intro ht
  rw [ht] at CH
  have HT:=κ ht
  clear ht
  go_upto_region 57 with(go_at_call 92;(with_reducible refine(CH.out _).mono ?_);rintro e w3 ⟨rfl,b3⟩;have ub:=ah.ak (S:=fun _=>False) b3;have T1:=κ (T1.out.upto ub id);have S1:=κ (S1.out.upto ub id id id);have X1:=κ (X1.out.upto ub id);have M1:=κ (M1.out.upto ub (fun _ _=>id));have U1:=κ (U1.out.trans (ub.mono (T:=P.has) fun _ _ h=>h.elim));clear ub b3 x0 x1 x2 x3 x4 lX sd ss s9 td t8 t9 zd z8 z9;have x0:=X1.out.c0;have x1:=X1.out.c1;have x2:=X1.out.c2;have x3:=X1.out.c3;have x4:=X1.out.c4;have lX:=X1.out.l;have sd:=S1.out.s d hd;have ss:=S1.out.s s O5;have s9:=S1.out.s9;have td:=T1.out.r d hd;have t8:=T1.out.c8;have t9:=T1.out.c9;have zd:=T1.out.z d;have z8:=T1.out.z 8;have z9:=T1.out.z 9)
  have t4:=T1.out.jk (au (nx+m))
  clear x0 x1 x2 x3 x4 lX sd ss s9 td t8 t9 zd z8 z9
  have m4:RM P M (w3.setCell ⟨w1.heap.size+1+1,8,none⟩ (.int .u32 (au (nx+m)))):=by repeat(first | exact M1.out | apply RM.drew | refine aS ?_ (dD.out _ (by omega)))
  have u4:ah P.has w (w3.setCell ⟨w1.heap.size+1+1,8,none⟩ (.int .u32 (au (nx+m)))):=by repeat(first | exact U1.out | apply ah.drew | refine aK ?_ (by omega))
  have s4:S3 w.heap.size R pc (f%16) (w3.setCell ⟨w1.heap.size+1+1,8,none⟩ (.int .u32 (au (nx+m)))):=by repeat(first | exact S1.out | apply S3.drew | refine dL ?_ (by omega) (by omega) (by omega))
  generalize w3.setCell ⟨w1.heap.size+1+1,8,none⟩ (.int .u32 (au (nx+m)))=W3 at t4 m4 u4 s4⊢
  obtain⟨R4,p4,f4,T4,HE⟩:∃R4 p4 f4,Hid (SB (w1.heap.size+1+1) R4 p4 f4 W3)∧Hid (OO=⟨M,R4,p4,f4,0,0⟩):=⟨_,_,_,κ t4,κ (HO.out.trans ((show stay R pc (f%16) (gK M R pc (f%16) nx 12 d s o m)=⟨M,R,if Fl.hd o (f%16)=true then au (nx+m) else nx,f%16,0,0⟩ from rfl).trans (by rw [HT.out];rfl)))⟩
  have M4:=κ m4
  have U4:=κ u4
  have S4:=κ s4
  clear t4 m4 u4 s4 T1 M1 U1 S1 X1 HO
 case' f12=>
  intro ht
  rw [ht] at CH
  have HT:=κ ht
  clear ht
  go_upto_region 57 with(go_at_call 92;(with_reducible refine(CH.out _).mono ?_);rintro e w3 ⟨rfl,b3⟩;have ub:=ah.ak (S:=fun _=>False) b3;have T1:=κ (T1.out.upto ub id);have S1:=κ (S1.out.upto ub id id id);have X1:=κ (X1.out.upto ub id);have M1:=κ (M1.out.upto ub (fun _ _=>id));have U1:=κ (U1.out.trans (ub.mono (T:=P.has) fun _ _ h=>h.elim));clear ub b3 x0 x1 x2 x3 x4 lX sd ss s9 td t8 t9 zd z8 z9;have x0:=X1.out.c0;have x1:=X1.out.c1;have x2:=X1.out.c2;have x3:=X1.out.c3;have x4:=X1.out.c4;have lX:=X1.out.l;have sd:=S1.out.s d hd;have ss:=S1.out.s s O5;have s9:=S1.out.s9;have td:=T1.out.r d hd;have t8:=T1.out.c8;have t9:=T1.out.c9;have zd:=T1.out.z d;have z8:=T1.out.z 8;have z9:=T1.out.z 9)
  have t4:=T1.out
  clear x0 x1 x2 x3 x4 lX sd ss s9 td t8 t9 zd z8 z9
  have m4:RM P M (w3):=by repeat(first | exact M1.out | apply RM.drew | refine aS ?_ (dD.out _ (by omega)))
  have u4:ah P.has w (w3):=by repeat(first | exact U1.out | apply ah.drew | refine aK ?_ (by omega))
  have s4:S3 w.heap.size R pc (f%16) (w3):=by repeat(first | exact S1.out | apply S3.drew | refine dL ?_ (by omega) (by omega) (by omega))
  generalize w3=W3 at t4 m4 u4 s4⊢
  obtain⟨R4,p4,f4,T4,HE⟩:∃R4 p4 f4,Hid (SB (w1.heap.size+1+1) R4 p4 f4 W3)∧Hid (OO=⟨M,R4,p4,f4,0,0⟩):=⟨_,_,_,κ t4,κ (HO.out.trans ((show stay R pc (f%16) (gK M R pc (f%16) nx 12 d s o m)=⟨M,R,if Fl.hd o (f%16)=true then au (nx+m) else nx,f%16,0,0⟩ from rfl).trans (by rw [HT.out];rfl)))⟩
  have M4:=κ m4
  have U4:=κ u4
  have S4:=κ s4
  clear t4 m4 u4 s4 T1 M1 U1 S1 X1 HO
 case' c13=>
  intro ek
  subst ek
  have CH:=κ (fun w=>nZ o (f%16) w (by omega) (by omega))
  have ev:(nx+m)%4294967296=au (nx+m):=rfl
  refine(Bool.eq_false_or_eq_true (Fl.hd o (f%16))).elim ?t13 ?f13
 case' t13=>
  intro ht
  rw [ht] at CH
  have HT:=κ ht
  clear ht
  go_upto_region 57 with(go_at_call 92;(with_reducible refine(CH.out _).mono ?_);rintro e w3 ⟨rfl,b3⟩;have ub:=ah.ak (S:=fun _=>False) b3;have T1:=κ (T1.out.upto ub id);have S1:=κ (S1.out.upto ub id id id);have X1:=κ (X1.out.upto ub id);have M1:=κ (M1.out.upto ub (fun _ _=>id));have U1:=κ (U1.out.trans (ub.mono (T:=P.has) fun _ _ h=>h.elim));clear ub b3 x0 x1 x2 x3 x4 lX sd ss s9 td t8 t9 zd z8 z9;have x0:=X1.out.c0;have x1:=X1.out.c1;have x2:=X1.out.c2;have x3:=X1.out.c3;have x4:=X1.out.c4;have lX:=X1.out.l;have sd:=S1.out.s d hd;have ss:=S1.out.s s O5;have s9:=S1.out.s9;have td:=T1.out.r d hd;have t8:=T1.out.c8;have t9:=T1.out.c9;have zd:=T1.out.z d;have z8:=T1.out.z 8;have z9:=T1.out.z 9)
  have t4:=T1.out.jk (au (nx+m))
  clear x0 x1 x2 x3 x4 lX sd ss s9 td t8 t9 zd z8 z9
  have m4:RM P M (w3.setCell ⟨w1.heap.size+1+1,8,none⟩ (.int .u32 (au (nx+m)))):=by repeat(first | exact M1.out | apply RM.drew | refine aS ?_ (dD.out _ (by omega)))
  have u4:ah P.has w (w3.setCell ⟨w1.heap.size+1+1,8,none⟩ (.int .u32 (au (nx+m)))):=by repeat(first | exact U1.out | apply ah.drew | refine aK ?_ (by omega))
  have s4:S3 w.heap.size R pc (f%16) (w3.setCell ⟨w1.heap.size+1+1,8,none⟩ (.int .u32 (au (nx+m)))):=by repeat(first | exact S1.out | apply S3.drew | refine dL ?_ (by omega) (by omega) (by omega))
  generalize w3.setCell ⟨w1.heap.size+1+1,8,none⟩ (.int .u32 (au (nx+m)))=W3 at t4 m4 u4 s4⊢
  obtain⟨R4,p4,f4,T4,HE⟩:∃R4 p4 f4,Hid (SB (w1.heap.size+1+1) R4 p4 f4 W3)∧Hid (OO=⟨M,R4,p4,f4,0,0⟩):=⟨_,_,_,κ t4,κ (HO.out.trans ((show stay R pc (f%16) (gK M R pc (f%16) nx 13 d s o m)=⟨M,R,if Fl.hd o (f%16)=true then au (nx+m) else nx,f%16,0,0⟩ from rfl).trans (by rw [HT.out];rfl)))⟩
  have M4:=κ m4
  have U4:=κ u4
  have S4:=κ s4
  clear t4 m4 u4 s4 T1 M1 U1 S1 X1 HO
 case' f13=>
  intro ht
  rw [ht] at CH
  have HT:=κ ht
  clear ht
  go_upto_region 57 with(go_at_call 92;(with_reducible refine(CH.out _).mono ?_);rintro e w3 ⟨rfl,b3⟩;have ub:=ah.ak (S:=fun _=>False) b3;have T1:=κ (T1.out.upto ub id);have S1:=κ (S1.out.upto ub id id id);have X1:=κ (X1.out.upto ub id);have M1:=κ (M1.out.upto ub (fun _ _=>id));have U1:=κ (U1.out.trans (ub.mono (T:=P.has) fun _ _ h=>h.elim));clear ub b3 x0 x1 x2 x3 x4 lX sd ss s9 td t8 t9 zd z8 z9;have x0:=X1.out.c0;have x1:=X1.out.c1;have x2:=X1.out.c2;have x3:=X1.out.c3;have x4:=X1.out.c4;have lX:=X1.out.l;have sd:=S1.out.s d hd;have ss:=S1.out.s s O5;have s9:=S1.out.s9;have td:=T1.out.r d hd;have t8:=T1.out.c8;have t9:=T1.out.c9;have zd:=T1.out.z d;have z8:=T1.out.z 8;have z9:=T1.out.z 9)
  have t4:=T1.out
  clear x0 x1 x2 x3 x4 lX sd ss s9 td t8 t9 zd z8 z9
  have m4:RM P M (w3):=by repeat(first | exact M1.out | apply RM.drew | refine aS ?_ (dD.out _ (by omega)))
  have u4:ah P.has w (w3):=by repeat(first | exact U1.out | apply ah.drew | refine aK ?_ (by omega))
  have s4:S3 w.heap.size R pc (f%16) (w3):=by repeat(first | exact S1.out | apply S3.drew | refine dL ?_ (by omega) (by omega) (by omega))
  generalize w3=W3 at t4 m4 u4 s4⊢
  obtain⟨R4,p4,f4,T4,HE⟩:∃R4 p4 f4,Hid (SB (w1.heap.size+1+1) R4 p4 f4 W3)∧Hid (OO=⟨M,R4,p4,f4,0,0⟩):=⟨_,_,_,κ t4,κ (HO.out.trans ((show stay R pc (f%16) (gK M R pc (f%16) nx 13 d s o m)=⟨M,R,if Fl.hd o (f%16)=true then au (nx+m) else nx,f%16,0,0⟩ from rfl).trans (by rw [HT.out];rfl)))⟩
  have M4:=κ m4
  have U4:=κ u4
  have S4:=κ s4
  clear t4 m4 u4 s4 T1 M1 U1 S1 X1 HO
 case' c27=>
  intro ek
  subst ek
  have hr:=hR d
  have hq:=hR s
  have CK:=κ (fun w=>aW o (R d) (R s) (f%16) w hr.1 hr.2 hq.1 hq.2 (by omega) (by omega))
  refine(Bool.eq_false_or_eq_true (uJ o (R s))).elim ?t27 ?f27
 case' t27=>
  intro ht
  rw [ht] at CK
  have HT:=κ ht
  clear ht
  go_upto_region 57 with(go_at_call 94;(with_reducible refine(CK.out _).mono ?_);rintro e w3 ⟨rfl,rfl⟩)
  have t4:=(T1.out.bI d hd (lW o (R d) (R s) (f%16))).gU (nR o (R d) (R s) (f%16))
  clear x0 x1 x2 x3 x4 lX sd ss s9 td t8 t9 zd z8 z9
  have m4:RM P M ((WB.setCell ⟨w1.heap.size+1+1,d,none⟩ (.int .u32 (lW o (R d) (R s) (f%16)))).setCell ⟨w1.heap.size+1+1,9,none⟩ (.int .u32 (nR o (R d) (R s) (f%16)))):=by repeat(first | exact M1.out | apply RM.drew | refine aS ?_ (dD.out _ (by omega)))
  have u4:ah P.has w ((WB.setCell ⟨w1.heap.size+1+1,d,none⟩ (.int .u32 (lW o (R d) (R s) (f%16)))).setCell ⟨w1.heap.size+1+1,9,none⟩ (.int .u32 (nR o (R d) (R s) (f%16)))):=by repeat(first | exact U1.out | apply ah.drew | refine aK ?_ (by omega))
  have s4:S3 w.heap.size R pc (f%16) ((WB.setCell ⟨w1.heap.size+1+1,d,none⟩ (.int .u32 (lW o (R d) (R s) (f%16)))).setCell ⟨w1.heap.size+1+1,9,none⟩ (.int .u32 (nR o (R d) (R s) (f%16)))):=by repeat(first | exact S1.out | apply S3.drew | refine dL ?_ (by omega) (by omega) (by omega))
  generalize(WB.setCell ⟨w1.heap.size+1+1,d,none⟩ (.int .u32 (lW o (R d) (R s) (f%16)))).setCell ⟨w1.heap.size+1+1,9,none⟩ (.int .u32 (nR o (R d) (R s) (f%16)))=W3 at t4 m4 u4 s4⊢
  obtain⟨R4,p4,f4,T4,HE⟩:∃R4 p4 f4,Hid (SB (w1.heap.size+1+1) R4 p4 f4 W3)∧Hid (OO=⟨M,R4,p4,f4,0,0⟩):=⟨_,_,_,κ t4,κ (HO.out.trans ((show stay R pc (f%16) (gK M R pc (f%16) nx 27 d s o m)=stay R pc (f%16) (if uJ o (R s)=true then⟨M,aF R d (lW o (R d) (R s) (f%16)),nx,nR o (R d) (R s) (f%16),0,0⟩ else⟨M,R,pc,f%16,7,0⟩) from rfl).trans (by rw [HT.out];rfl)))⟩
  have M4:=κ m4
  have U4:=κ u4
  have S4:=κ s4
  clear t4 m4 u4 s4 T1 M1 U1 S1 X1 HO
 case' f27=>
  intro ht
  rw [ht] at CK
  have HT:=κ ht
  clear ht
  have HE:Hid (OO=⟨M,R,pc,f%16,7,0⟩):=κ (HO.out.trans ((show stay R pc (f%16) (gK M R pc (f%16) nx 27 d s o m)=stay R pc (f%16) (if uJ o (R s)=true then⟨M,aF R d (lW o (R d) (R s) (f%16)),nx,nR o (R d) (R s) (f%16),0,0⟩ else⟨M,R,pc,f%16,7,0⟩) from rfl).trans (by rw [HT.out];rfl)))
  go_upto_region 53 with(go_at_call 94;(with_reducible refine(CK.out _).mono ?_);rintro e w3 ⟨rfl,rfl⟩)
  have t4:=T1.out
  clear x0 x1 x2 x3 x4 lX sd ss s9 td t8 t9 zd z8 z9
  have m4:RM P M (WB):=by repeat(first | exact M1.out | apply RM.drew | refine aS ?_ (dD.out _ (by omega)))
  have u4:ah P.has w (WB):=by repeat(first | exact U1.out | apply ah.drew | refine aK ?_ (by omega))
  have s4:S3 w.heap.size R pc (f%16) (WB):=by repeat(first | exact S1.out | apply S3.drew | refine dL ?_ (by omega) (by omega) (by omega))
  generalize WB=W3 at t4 m4 u4 s4⊢
  have T4:=κ t4
  have M4:=κ m4
  have U4:=κ u4
  have S4:=κ s4
  clear t4 m4 u4 s4
  obtain⟨a0,a1,a2,a3,a4,a5,a6,a7,a8,a9⟩:=S4.out.all
  have Ze:=T4.out.l
  obtain⟨q0,y0,q1,y1,q2,y2,q3,y3,q4,y4,q5,y5,q6,y6,q7,y7,q8,y8,q9,y9,r0,IL,r1,IQ⟩:=S4.out.q.all
  go_wp2_with fail
  clear q0 y0 q1 y1 q2 y2 q3 y3 q4 y4 q5 y5 q6 y6 q7 y7 q8 y8 q9 y9 r0 IL r1 IQ
  clear a0 a1 a2 a3 a4 a5 a6 a7 a8 a9
  obtain⟨u,t,fq,v0,v1,v2,v3,v4,v5,v6,v7,v8,v9,t0,t1⟩:=S4.out.q.put (.int .u32 ((R) 0)) (.int .u32 ((R) 1)) (.int .u32 ((R) 2)) (.int .u32 ((R) 3)) (.int .u32 ((R) 4)) (.int .u32 ((R) 5)) (.int .u32 ((R) 6)) (.int .u32 ((R) 7)) (.int .u32 (pc)) (.int .u32 (f%16)) (.int .i64 7) (.int .u32 0)
  have bp:=(aO (h:=w.heap.size+1) (g:=w.heap.size+1+1) U4.out (.inr (by omega)) (.inr (by omega)) (.int .u32 ((R) 0)) (.int .u32 ((R) 1)) (.int .u32 ((R) 2)) (.int .u32 ((R) 3)) (.int .u32 ((R) 4)) (.int .u32 ((R) 5)) (.int .u32 ((R) 6)) (.int .u32 ((R) 7)) (.int .u32 (pc)) (.int .u32 (f%16)) (.int .i64 7) (.int .u32 0))
  have hp:=(M4.out.upto (aO (h:=w.heap.size+1) (g:=w.heap.size+1+1) (ah.refl (fun i=>i=w.heap.size+1∨i=w.heap.size+1+1) W3) (.inl (.inl rfl)) (.inl (.inr rfl)) (.int .u32 ((R) 0)) (.int .u32 ((R) 1)) (.int .u32 ((R) 2)) (.int .u32 ((R) 3)) (.int .u32 ((R) 4)) (.int .u32 ((R) 5)) (.int .u32 ((R) 6)) (.int .u32 ((R) 7)) (.int .u32 (pc)) (.int .u32 (f%16)) (.int .i64 7) (.int .u32 0)) (fun j hj hx=>dD.out j (by rcases hx with hx | hx<;>omega) hj))
  have bC:=fq
  clear fq
  obtain⟨g0,g1,g2,g3,g4,g5,g6,g7,g8,g9,o0,o1⟩:=bC.got v0 v1 v2 v3 v4 v5 v6 v7 v8 v9 t0 t1
  exact bodyPost_ret (v:=dS ⟨M,R,pc,f%16,7,0⟩) (by simp [dS,iJ,results,Tryz.results64,go_sem,g0,g1,g2,g3,g4,g5,g6,g7,g8,g9,o0,o1]) rfl ⟨by rw [HE.out],hp,bp⟩
 case' c28=>
  intro ek
  subst ek
  have hr:=hR d
  have hq:=hR s
  have CK:=κ (fun w=>aW o (R d) (m) (f%16) w hr.1 hr.2 m0 m1 (by omega) (by omega))
  refine(Bool.eq_false_or_eq_true (uJ o (m))).elim ?t28 ?f28
 case' t28=>
  intro ht
  rw [ht] at CK
  have HT:=κ ht
  clear ht
  go_upto_region 57 with(go_at_call 94;(with_reducible refine(CK.out _).mono ?_);rintro e w3 ⟨rfl,rfl⟩)
  have t4:=(T1.out.bI d hd (lW o (R d) (m) (f%16))).gU (nR o (R d) (m) (f%16))
  clear x0 x1 x2 x3 x4 lX sd ss s9 td t8 t9 zd z8 z9
  have m4:RM P M ((WB.setCell ⟨w1.heap.size+1+1,d,none⟩ (.int .u32 (lW o (R d) (m) (f%16)))).setCell ⟨w1.heap.size+1+1,9,none⟩ (.int .u32 (nR o (R d) (m) (f%16)))):=by repeat(first | exact M1.out | apply RM.drew | refine aS ?_ (dD.out _ (by omega)))
  have u4:ah P.has w ((WB.setCell ⟨w1.heap.size+1+1,d,none⟩ (.int .u32 (lW o (R d) (m) (f%16)))).setCell ⟨w1.heap.size+1+1,9,none⟩ (.int .u32 (nR o (R d) (m) (f%16)))):=by repeat(first | exact U1.out | apply ah.drew | refine aK ?_ (by omega))
  have s4:S3 w.heap.size R pc (f%16) ((WB.setCell ⟨w1.heap.size+1+1,d,none⟩ (.int .u32 (lW o (R d) (m) (f%16)))).setCell ⟨w1.heap.size+1+1,9,none⟩ (.int .u32 (nR o (R d) (m) (f%16)))):=by repeat(first | exact S1.out | apply S3.drew | refine dL ?_ (by omega) (by omega) (by omega))
  generalize(WB.setCell ⟨w1.heap.size+1+1,d,none⟩ (.int .u32 (lW o (R d) (m) (f%16)))).setCell ⟨w1.heap.size+1+1,9,none⟩ (.int .u32 (nR o (R d) (m) (f%16)))=W3 at t4 m4 u4 s4⊢
  obtain⟨R4,p4,f4,T4,HE⟩:∃R4 p4 f4,Hid (SB (w1.heap.size+1+1) R4 p4 f4 W3)∧Hid (OO=⟨M,R4,p4,f4,0,0⟩):=⟨_,_,_,κ t4,κ (HO.out.trans ((show stay R pc (f%16) (gK M R pc (f%16) nx 28 d s o m)=stay R pc (f%16) (if uJ o (m)=true then⟨M,aF R d (lW o (R d) (m) (f%16)),nx,nR o (R d) (m) (f%16),0,0⟩ else⟨M,R,pc,f%16,7,0⟩) from rfl).trans (by rw [HT.out];rfl)))⟩
  have M4:=κ m4
  have U4:=κ u4
  have S4:=κ s4
  clear t4 m4 u4 s4 T1 M1 U1 S1 X1 HO
 case' f28=>
  intro ht
  rw [ht] at CK
  have HT:=κ ht
  clear ht
  have HE:Hid (OO=⟨M,R,pc,f%16,7,0⟩):=κ (HO.out.trans ((show stay R pc (f%16) (gK M R pc (f%16) nx 28 d s o m)=stay R pc (f%16) (if uJ o (m)=true then⟨M,aF R d (lW o (R d) (m) (f%16)),nx,nR o (R d) (m) (f%16),0,0⟩ else⟨M,R,pc,f%16,7,0⟩) from rfl).trans (by rw [HT.out];rfl)))
  go_upto_region 53 with(go_at_call 94;(with_reducible refine(CK.out _).mono ?_);rintro e w3 ⟨rfl,rfl⟩)
  have t4:=T1.out
  clear x0 x1 x2 x3 x4 lX sd ss s9 td t8 t9 zd z8 z9
  have m4:RM P M (WB):=by repeat(first | exact M1.out | apply RM.drew | refine aS ?_ (dD.out _ (by omega)))
  have u4:ah P.has w (WB):=by repeat(first | exact U1.out | apply ah.drew | refine aK ?_ (by omega))
  have s4:S3 w.heap.size R pc (f%16) (WB):=by repeat(first | exact S1.out | apply S3.drew | refine dL ?_ (by omega) (by omega) (by omega))
  generalize WB=W3 at t4 m4 u4 s4⊢
  have T4:=κ t4
  have M4:=κ m4
  have U4:=κ u4
  have S4:=κ s4
  clear t4 m4 u4 s4
  obtain⟨a0,a1,a2,a3,a4,a5,a6,a7,a8,a9⟩:=S4.out.all
  have Ze:=T4.out.l
  obtain⟨q0,y0,q1,y1,q2,y2,q3,y3,q4,y4,q5,y5,q6,y6,q7,y7,q8,y8,q9,y9,r0,IL,r1,IQ⟩:=S4.out.q.all
  go_wp2_with fail
  clear q0 y0 q1 y1 q2 y2 q3 y3 q4 y4 q5 y5 q6 y6 q7 y7 q8 y8 q9 y9 r0 IL r1 IQ
  clear a0 a1 a2 a3 a4 a5 a6 a7 a8 a9
  obtain⟨u,t,fq,v0,v1,v2,v3,v4,v5,v6,v7,v8,v9,t0,t1⟩:=S4.out.q.put (.int .u32 ((R) 0)) (.int .u32 ((R) 1)) (.int .u32 ((R) 2)) (.int .u32 ((R) 3)) (.int .u32 ((R) 4)) (.int .u32 ((R) 5)) (.int .u32 ((R) 6)) (.int .u32 ((R) 7)) (.int .u32 (pc)) (.int .u32 (f%16)) (.int .i64 7) (.int .u32 0)
  have bp:=(aO (h:=w.heap.size+1) (g:=w.heap.size+1+1) U4.out (.inr (by omega)) (.inr (by omega)) (.int .u32 ((R) 0)) (.int .u32 ((R) 1)) (.int .u32 ((R) 2)) (.int .u32 ((R) 3)) (.int .u32 ((R) 4)) (.int .u32 ((R) 5)) (.int .u32 ((R) 6)) (.int .u32 ((R) 7)) (.int .u32 (pc)) (.int .u32 (f%16)) (.int .i64 7) (.int .u32 0))
  have hp:=(M4.out.upto (aO (h:=w.heap.size+1) (g:=w.heap.size+1+1) (ah.refl (fun i=>i=w.heap.size+1∨i=w.heap.size+1+1) W3) (.inl (.inl rfl)) (.inl (.inr rfl)) (.int .u32 ((R) 0)) (.int .u32 ((R) 1)) (.int .u32 ((R) 2)) (.int .u32 ((R) 3)) (.int .u32 ((R) 4)) (.int .u32 ((R) 5)) (.int .u32 ((R) 6)) (.int .u32 ((R) 7)) (.int .u32 (pc)) (.int .u32 (f%16)) (.int .i64 7) (.int .u32 0)) (fun j hj hx=>dD.out j (by rcases hx with hx | hx<;>omega) hj))
  have bC:=fq
  clear fq
  obtain⟨g0,g1,g2,g3,g4,g5,g6,g7,g8,g9,o0,o1⟩:=bC.got v0 v1 v2 v3 v4 v5 v6 v7 v8 v9 t0 t1
  exact bodyPost_ret (v:=dS ⟨M,R,pc,f%16,7,0⟩) (by simp [dS,iJ,results,Tryz.results64,go_sem,g0,g1,g2,g3,g4,g5,g6,g7,g8,g9,o0,o1]) rfl ⟨by rw [HE.out],hp,bp⟩
 case' c29=>
  intro ek
  subst ek
  have hr:=hR d
  have hq:=hR s
  have CK:=κ (fun w=>aW o (R d) (m) (f%16) w hr.1 hr.2 m0 m1 (by omega) (by omega))
  refine(Bool.eq_false_or_eq_true (uJ o (m))).elim ?t29 ?f29
 case' t29=>
  intro ht
  rw [ht] at CK
  have HT:=κ ht
  clear ht
  go_upto_region 57 with(go_at_call 94;(with_reducible refine(CK.out _).mono ?_);rintro e w3 ⟨rfl,rfl⟩)
  have t4:=(T1.out.bI d hd (lW o (R d) (m) (f%16))).gU (nR o (R d) (m) (f%16))
  clear x0 x1 x2 x3 x4 lX sd ss s9 td t8 t9 zd z8 z9
  have m4:RM P M ((WB.setCell ⟨w1.heap.size+1+1,d,none⟩ (.int .u32 (lW o (R d) (m) (f%16)))).setCell ⟨w1.heap.size+1+1,9,none⟩ (.int .u32 (nR o (R d) (m) (f%16)))):=by repeat(first | exact M1.out | apply RM.drew | refine aS ?_ (dD.out _ (by omega)))
  have u4:ah P.has w ((WB.setCell ⟨w1.heap.size+1+1,d,none⟩ (.int .u32 (lW o (R d) (m) (f%16)))).setCell ⟨w1.heap.size+1+1,9,none⟩ (.int .u32 (nR o (R d) (m) (f%16)))):=by repeat(first | exact U1.out | apply ah.drew | refine aK ?_ (by omega))
  have s4:S3 w.heap.size R pc (f%16) ((WB.setCell ⟨w1.heap.size+1+1,d,none⟩ (.int .u32 (lW o (R d) (m) (f%16)))).setCell ⟨w1.heap.size+1+1,9,none⟩ (.int .u32 (nR o (R d) (m) (f%16)))):=by repeat(first | exact S1.out | apply S3.drew | refine dL ?_ (by omega) (by omega) (by omega))
  generalize(WB.setCell ⟨w1.heap.size+1+1,d,none⟩ (.int .u32 (lW o (R d) (m) (f%16)))).setCell ⟨w1.heap.size+1+1,9,none⟩ (.int .u32 (nR o (R d) (m) (f%16)))=W3 at t4 m4 u4 s4⊢
  obtain⟨R4,p4,f4,T4,HE⟩:∃R4 p4 f4,Hid (SB (w1.heap.size+1+1) R4 p4 f4 W3)∧Hid (OO=⟨M,R4,p4,f4,0,0⟩):=⟨_,_,_,κ t4,κ (HO.out.trans ((show stay R pc (f%16) (gK M R pc (f%16) nx 29 d s o m)=stay R pc (f%16) (if uJ o (m)=true then⟨M,aF R d (lW o (R d) (m) (f%16)),nx,nR o (R d) (m) (f%16),0,0⟩ else⟨M,R,pc,f%16,7,0⟩) from rfl).trans (by rw [HT.out];rfl)))⟩
  have M4:=κ m4
  have U4:=κ u4
  have S4:=κ s4
  clear t4 m4 u4 s4 T1 M1 U1 S1 X1 HO
 case' f29=>
  intro ht
  rw [ht] at CK
  have HT:=κ ht
  clear ht
  have HE:Hid (OO=⟨M,R,pc,f%16,7,0⟩):=κ (HO.out.trans ((show stay R pc (f%16) (gK M R pc (f%16) nx 29 d s o m)=stay R pc (f%16) (if uJ o (m)=true then⟨M,aF R d (lW o (R d) (m) (f%16)),nx,nR o (R d) (m) (f%16),0,0⟩ else⟨M,R,pc,f%16,7,0⟩) from rfl).trans (by rw [HT.out];rfl)))
  go_upto_region 53 with(go_at_call 94;(with_reducible refine(CK.out _).mono ?_);rintro e w3 ⟨rfl,rfl⟩)
  have t4:=T1.out
  clear x0 x1 x2 x3 x4 lX sd ss s9 td t8 t9 zd z8 z9
  have m4:RM P M (WB):=by repeat(first | exact M1.out | apply RM.drew | refine aS ?_ (dD.out _ (by omega)))
  have u4:ah P.has w (WB):=by repeat(first | exact U1.out | apply ah.drew | refine aK ?_ (by omega))
  have s4:S3 w.heap.size R pc (f%16) (WB):=by repeat(first | exact S1.out | apply S3.drew | refine dL ?_ (by omega) (by omega) (by omega))
  generalize WB=W3 at t4 m4 u4 s4⊢
  have T4:=κ t4
  have M4:=κ m4
  have U4:=κ u4
  have S4:=κ s4
  clear t4 m4 u4 s4
  obtain⟨a0,a1,a2,a3,a4,a5,a6,a7,a8,a9⟩:=S4.out.all
  have Ze:=T4.out.l
  obtain⟨q0,y0,q1,y1,q2,y2,q3,y3,q4,y4,q5,y5,q6,y6,q7,y7,q8,y8,q9,y9,r0,IL,r1,IQ⟩:=S4.out.q.all
  go_wp2_with fail
  clear q0 y0 q1 y1 q2 y2 q3 y3 q4 y4 q5 y5 q6 y6 q7 y7 q8 y8 q9 y9 r0 IL r1 IQ
  clear a0 a1 a2 a3 a4 a5 a6 a7 a8 a9
  obtain⟨u,t,fq,v0,v1,v2,v3,v4,v5,v6,v7,v8,v9,t0,t1⟩:=S4.out.q.put (.int .u32 ((R) 0)) (.int .u32 ((R) 1)) (.int .u32 ((R) 2)) (.int .u32 ((R) 3)) (.int .u32 ((R) 4)) (.int .u32 ((R) 5)) (.int .u32 ((R) 6)) (.int .u32 ((R) 7)) (.int .u32 (pc)) (.int .u32 (f%16)) (.int .i64 7) (.int .u32 0)
  have bp:=(aO (h:=w.heap.size+1) (g:=w.heap.size+1+1) U4.out (.inr (by omega)) (.inr (by omega)) (.int .u32 ((R) 0)) (.int .u32 ((R) 1)) (.int .u32 ((R) 2)) (.int .u32 ((R) 3)) (.int .u32 ((R) 4)) (.int .u32 ((R) 5)) (.int .u32 ((R) 6)) (.int .u32 ((R) 7)) (.int .u32 (pc)) (.int .u32 (f%16)) (.int .i64 7) (.int .u32 0))
  have hp:=(M4.out.upto (aO (h:=w.heap.size+1) (g:=w.heap.size+1+1) (ah.refl (fun i=>i=w.heap.size+1∨i=w.heap.size+1+1) W3) (.inl (.inl rfl)) (.inl (.inr rfl)) (.int .u32 ((R) 0)) (.int .u32 ((R) 1)) (.int .u32 ((R) 2)) (.int .u32 ((R) 3)) (.int .u32 ((R) 4)) (.int .u32 ((R) 5)) (.int .u32 ((R) 6)) (.int .u32 ((R) 7)) (.int .u32 (pc)) (.int .u32 (f%16)) (.int .i64 7) (.int .u32 0)) (fun j hj hx=>dD.out j (by rcases hx with hx | hx<;>omega) hj))
  have bC:=fq
  clear fq
  obtain⟨g0,g1,g2,g3,g4,g5,g6,g7,g8,g9,o0,o1⟩:=bC.got v0 v1 v2 v3 v4 v5 v6 v7 v8 v9 t0 t1
  exact bodyPost_ret (v:=dS ⟨M,R,pc,f%16,7,0⟩) (by simp [dS,iJ,results,Tryz.results64,go_sem,g0,g1,g2,g3,g4,g5,g6,g7,g8,g9,o0,o1]) rfl ⟨by rw [HE.out],hp,bp⟩
 case' c1=>
  intro ek
  subst ek
  have HE:Hid (OO=⟨M,R,pc,f%16,2,0⟩):=κ (HO.out.trans rfl)
  go_upto_region 14 with fail
  have t4:=T1.out
  clear x0 x1 x2 x3 x4 lX sd ss s9 td t8 t9 zd z8 z9
  have m4:RM P M (WB):=by repeat(first | exact M1.out | apply RM.drew | refine aS ?_ (dD.out _ (by omega)))
  have u4:ah P.has w (WB):=by repeat(first | exact U1.out | apply ah.drew | refine aK ?_ (by omega))
  have s4:S3 w.heap.size R pc (f%16) (WB):=by repeat(first | exact S1.out | apply S3.drew | refine dL ?_ (by omega) (by omega) (by omega))
  generalize WB=W3 at t4 m4 u4 s4⊢
  have T4:=κ t4
  have M4:=κ m4
  have U4:=κ u4
  have S4:=κ s4
  clear t4 m4 u4 s4
  obtain⟨a0,a1,a2,a3,a4,a5,a6,a7,a8,a9⟩:=S4.out.all
  have Ze:=T4.out.l
  obtain⟨q0,y0,q1,y1,q2,y2,q3,y3,q4,y4,q5,y5,q6,y6,q7,y7,q8,y8,q9,y9,r0,IL,r1,IQ⟩:=S4.out.q.all
  go_wp2_with fail
  clear q0 y0 q1 y1 q2 y2 q3 y3 q4 y4 q5 y5 q6 y6 q7 y7 q8 y8 q9 y9 r0 IL r1 IQ
  clear a0 a1 a2 a3 a4 a5 a6 a7 a8 a9
  obtain⟨u,t,fq,v0,v1,v2,v3,v4,v5,v6,v7,v8,v9,t0,t1⟩:=S4.out.q.put (.int .u32 ((R) 0)) (.int .u32 ((R) 1)) (.int .u32 ((R) 2)) (.int .u32 ((R) 3)) (.int .u32 ((R) 4)) (.int .u32 ((R) 5)) (.int .u32 ((R) 6)) (.int .u32 ((R) 7)) (.int .u32 (pc)) (.int .u32 (f%16)) (.int .i64 2) (.int .u32 0)
  have bp:=(aO (h:=w.heap.size+1) (g:=w.heap.size+1+1) U4.out (.inr (by omega)) (.inr (by omega)) (.int .u32 ((R) 0)) (.int .u32 ((R) 1)) (.int .u32 ((R) 2)) (.int .u32 ((R) 3)) (.int .u32 ((R) 4)) (.int .u32 ((R) 5)) (.int .u32 ((R) 6)) (.int .u32 ((R) 7)) (.int .u32 (pc)) (.int .u32 (f%16)) (.int .i64 2) (.int .u32 0))
  have hp:=(M4.out.upto (aO (h:=w.heap.size+1) (g:=w.heap.size+1+1) (ah.refl (fun i=>i=w.heap.size+1∨i=w.heap.size+1+1) W3) (.inl (.inl rfl)) (.inl (.inr rfl)) (.int .u32 ((R) 0)) (.int .u32 ((R) 1)) (.int .u32 ((R) 2)) (.int .u32 ((R) 3)) (.int .u32 ((R) 4)) (.int .u32 ((R) 5)) (.int .u32 ((R) 6)) (.int .u32 ((R) 7)) (.int .u32 (pc)) (.int .u32 (f%16)) (.int .i64 2) (.int .u32 0)) (fun j hj hx=>dD.out j (by rcases hx with hx | hx<;>omega) hj))
  have bC:=fq
  clear fq
  obtain⟨g0,g1,g2,g3,g4,g5,g6,g7,g8,g9,o0,o1⟩:=bC.got v0 v1 v2 v3 v4 v5 v6 v7 v8 v9 t0 t1
  exact bodyPost_ret (v:=dS ⟨M,R,pc,f%16,2,0⟩) (by simp [dS,iJ,results,Tryz.results64,go_sem,g0,g1,g2,g3,g4,g5,g6,g7,g8,g9,o0,o1]) rfl ⟨by rw [HE.out],hp,bp⟩
 case' c5=>
  intro ek
  subst ek
  have HE:Hid (OO=⟨M,R,nx,f%16,1,m⟩):=κ (HO.out.trans rfl)
  go_upto_region 16 with fail
  have t4:=T1.out
  clear x0 x1 x2 x3 lX sd ss s9 td t8 t9 zd z8 z9
  have m4:RM P M (WB):=by repeat(first | exact M1.out | apply RM.drew | refine aS ?_ (dD.out _ (by omega)))
  have u4:ah P.has w (WB):=by repeat(first | exact U1.out | apply ah.drew | refine aK ?_ (by omega))
  have s4:S3 w.heap.size R pc (f%16) (WB):=by repeat(first | exact S1.out | apply S3.drew | refine dL ?_ (by omega) (by omega) (by omega))
  generalize WB=W3 at t4 m4 u4 s4 x4⊢
  have T4:=κ t4
  have M4:=κ m4
  have U4:=κ u4
  have S4:=κ s4
  clear t4 m4 u4 s4
  obtain⟨a0,a1,a2,a3,a4,a5,a6,a7,a8,a9⟩:=T4.out.all
  have Ze:=T4.out.l
  obtain⟨q0,y0,q1,y1,q2,y2,q3,y3,q4,y4,q5,y5,q6,y6,q7,y7,q8,y8,q9,y9,r0,IL,r1,IQ⟩:=S4.out.q.all
  go_region
  clear q0 y0 q1 y1 q2 y2 q3 y3 q4 y4 q5 y5 q6 y6 q7 y7 q8 y8 q9 y9 r0 IL r1 IQ
  clear a0 a1 a2 a3 a4 a5 a6 a7 a8 a9
  obtain⟨u,t,fq,v0,v1,v2,v3,v4,v5,v6,v7,v8,v9,t0,t1⟩:=S4.out.q.put (.int .u32 ((R) 0)) (.int .u32 ((R) 1)) (.int .u32 ((R) 2)) (.int .u32 ((R) 3)) (.int .u32 ((R) 4)) (.int .u32 ((R) 5)) (.int .u32 ((R) 6)) (.int .u32 ((R) 7)) (.int .u32 (nx)) (.int .u32 (f%16)) (.int .i64 1) (.int .u32 m)
  have bp:=(aO (h:=w.heap.size+1) (g:=w.heap.size+1+1) U4.out (.inr (by omega)) (.inr (by omega)) (.int .u32 ((R) 0)) (.int .u32 ((R) 1)) (.int .u32 ((R) 2)) (.int .u32 ((R) 3)) (.int .u32 ((R) 4)) (.int .u32 ((R) 5)) (.int .u32 ((R) 6)) (.int .u32 ((R) 7)) (.int .u32 (nx)) (.int .u32 (f%16)) (.int .i64 1) (.int .u32 m)).drew
  have hp:=(M4.out.upto (aO (h:=w.heap.size+1) (g:=w.heap.size+1+1) (ah.refl (fun i=>i=w.heap.size+1∨i=w.heap.size+1+1) W3) (.inl (.inl rfl)) (.inl (.inr rfl)) (.int .u32 ((R) 0)) (.int .u32 ((R) 1)) (.int .u32 ((R) 2)) (.int .u32 ((R) 3)) (.int .u32 ((R) 4)) (.int .u32 ((R) 5)) (.int .u32 ((R) 6)) (.int .u32 ((R) 7)) (.int .u32 (nx)) (.int .u32 (f%16)) (.int .i64 1) (.int .u32 m)) (fun j hj hx=>dD.out j (by rcases hx with hx | hx<;>omega) hj)).drew
  have bC:=fq.drew
  clear fq
  generalize World.drew _=WZ at bC bp hp⊢
  obtain⟨g0,g1,g2,g3,g4,g5,g6,g7,g8,g9,o0,o1⟩:=bC.got v0 v1 v2 v3 v4 v5 v6 v7 v8 v9 t0 t1
  go_wp2_with fail
  exact bodyPost_ret (v:=dS ⟨M,R,nx,f%16,1,m⟩) (by simp [dS,iJ,results,Tryz.results64,go_sem,g0,g1,g2,g3,g4,g5,g6,g7,g8,g9,o0,o1]) rfl ⟨by rw [HE.out],hp,bp⟩
 case' c21=>
  intro ek
  subst ek
  have CH:=κ (fun w=>nZ o (f%16) w (by omega) (by omega))
  refine(Bool.eq_false_or_eq_true (Fl.hd o (f%16))).elim ?t21 ?f21
 case' t21=>
  intro ht
  rw [ht] at CH
  have HT:=κ ht
  clear ht
  have CI:=κ (fun w=>iP true 1 w)
  have ei:BP true 1=1:=rfl
  rw [ei] at CI
  go_upto_region 44 with fail
  have sdT:(WB.cell? ⟨w1.heap.size+1+1,d,none⟩).isSome=true:=(congrArg Option.isSome td).trans rfl
  have lT1:=T1.out.l
  have lH1:w.heap.size<WB.heap.size:=Nat.lt_of_succ_lt S1.out.q.la
  have kx:¬w1.heap.size+1+1=w1.heap.size:=by omega
  have ks:¬w1.heap.size+1+1=w.heap.size:=by omega
  go_region_held3 (fun W=>W.cell? ⟨w1.heap.size,1,none⟩=some (.int .i64 d)∧W.cell? ⟨w1.heap.size,3,none⟩=some (.int .i64 o)∧W.cell? ⟨w.heap.size,9,none⟩=some (.int .u32 (f%16))∧(W.cell? ⟨w1.heap.size+1+1,d,none⟩).isSome=true∧W.frozen? ⟨w1.heap.size+1+1,d,none⟩=false) (first | exact⟨x1,x3,s9,sdT,zd⟩ | exact⟨d1,d3,d9,se,yd⟩ | exact Gf kx ks d1 d3 d9 dd yd _)
   ((first
    | (go_at_call 92;(with_reducible refine(CH.out _).mono ?_);rintro e w3 ⟨rfl,um⟩;have d1:=(um.cell (p:=⟨w1.heap.size,1,none⟩) lX).trans x1;have d3:=(um.cell (p:=⟨w1.heap.size,3,none⟩) lX).trans x3;have d9:=(um.cell (p:=⟨w.heap.size,9,none⟩) lH1).trans s9;have dd:=(um.cell (p:=⟨w1.heap.size+1+1,d,none⟩) lT1).trans td;have yd:=(um.frozen (p:=⟨w1.heap.size+1+1,d,none⟩) lT1).trans zd;have se:(w3.cell? ⟨w1.heap.size+1+1,d,none⟩).isSome=true:=(congrArg Option.isSome dd).trans rfl;have B3:=κ um;clear um)
    | (go_at_call 93;(with_reducible refine(CI.out _).mono ?_);rintro e w4 ⟨rfl,rfl⟩)))
  all_goals go_upto_region 57 with fail
  all_goals
   have ub:=ah.ak (S:=fun _=>False) B3.out
   have T1:=κ (T1.out.drew.upto ub id)
   have M1:=κ (M1.out.drew.upto ub (fun _ _=>id))
   have U1:=κ (U1.out.drew.trans (ub.mono (T:=P.has) fun _ _ h=>h.elim))
   have S1:=κ (S1.out.drew.upto ub id id id)
   clear d1 d3 d9 dd yd se sdT
   have t4:=T1.out.bI d hd 1
   clear x0 x1 x2 x3 x4 lX sd ss s9 td t8 t9 zd z8 z9
   have m4:RM P M (w3.setCell ⟨w1.heap.size+1+1,d,none⟩ (.int .u32 (1))):=by repeat(first | exact M1.out | apply RM.drew | refine aS ?_ (dD.out _ (by omega)))
   have u4:ah P.has w (w3.setCell ⟨w1.heap.size+1+1,d,none⟩ (.int .u32 (1))):=by repeat(first | exact U1.out | apply ah.drew | refine aK ?_ (by omega))
   have s4:S3 w.heap.size R pc (f%16) (w3.setCell ⟨w1.heap.size+1+1,d,none⟩ (.int .u32 (1))):=by repeat(first | exact S1.out | apply S3.drew | refine dL ?_ (by omega) (by omega) (by omega))
   generalize w3.setCell ⟨w1.heap.size+1+1,d,none⟩ (.int .u32 (1))=W3 at t4 m4 u4 s4⊢
   obtain⟨R4,p4,f4,T4,HE⟩:∃R4 p4 f4,Hid (SB (w1.heap.size+1+1) R4 p4 f4 W3)∧Hid (OO=⟨M,R4,p4,f4,0,0⟩):=⟨_,_,_,κ t4,κ (HO.out.trans ((show stay R pc (f%16) (gK M R pc (f%16) nx 21 d s o m)=⟨M,aF R d (if Fl.hd o (f%16)=true then 1 else 0),nx,f%16,0,0⟩ from rfl).trans (by rw [HT.out];rfl)))⟩
   have M4:=κ m4
   have U4:=κ u4
   have S4:=κ s4
   clear t4 m4 u4 s4 T1 M1 U1 S1 X1 HO
 case' f21=>
  intro ht
  rw [ht] at CH
  have HT:=κ ht
  clear ht
  have CI:=κ (fun w=>iP false 1 w)
  have ei:BP false 1=0:=rfl
  rw [ei] at CI
  go_upto_region 44 with fail
  have sdT:(WB.cell? ⟨w1.heap.size+1+1,d,none⟩).isSome=true:=(congrArg Option.isSome td).trans rfl
  have lT1:=T1.out.l
  have lH1:w.heap.size<WB.heap.size:=Nat.lt_of_succ_lt S1.out.q.la
  have kx:¬w1.heap.size+1+1=w1.heap.size:=by omega
  have ks:¬w1.heap.size+1+1=w.heap.size:=by omega
  go_region_held3 (fun W=>W.cell? ⟨w1.heap.size,1,none⟩=some (.int .i64 d)∧W.cell? ⟨w1.heap.size,3,none⟩=some (.int .i64 o)∧W.cell? ⟨w.heap.size,9,none⟩=some (.int .u32 (f%16))∧(W.cell? ⟨w1.heap.size+1+1,d,none⟩).isSome=true∧W.frozen? ⟨w1.heap.size+1+1,d,none⟩=false) (first | exact⟨x1,x3,s9,sdT,zd⟩ | exact⟨d1,d3,d9,se,yd⟩ | exact Gf kx ks d1 d3 d9 dd yd _)
   ((first
    | (go_at_call 92;(with_reducible refine(CH.out _).mono ?_);rintro e w3 ⟨rfl,um⟩;have d1:=(um.cell (p:=⟨w1.heap.size,1,none⟩) lX).trans x1;have d3:=(um.cell (p:=⟨w1.heap.size,3,none⟩) lX).trans x3;have d9:=(um.cell (p:=⟨w.heap.size,9,none⟩) lH1).trans s9;have dd:=(um.cell (p:=⟨w1.heap.size+1+1,d,none⟩) lT1).trans td;have yd:=(um.frozen (p:=⟨w1.heap.size+1+1,d,none⟩) lT1).trans zd;have se:(w3.cell? ⟨w1.heap.size+1+1,d,none⟩).isSome=true:=(congrArg Option.isSome dd).trans rfl;have B3:=κ um;clear um)
    | (go_at_call 93;(with_reducible refine(CI.out _).mono ?_);rintro e w4 ⟨rfl,rfl⟩)))
  all_goals go_upto_region 57 with fail
  all_goals
   have ub:=ah.ak (S:=fun _=>False) B3.out
   have T1:=κ (T1.out.drew.upto ub id)
   have M1:=κ (M1.out.drew.upto ub (fun _ _=>id))
   have U1:=κ (U1.out.drew.trans (ub.mono (T:=P.has) fun _ _ h=>h.elim))
   have S1:=κ (S1.out.drew.upto ub id id id)
   clear d1 d3 d9 dd yd se sdT
   have t4:=T1.out.bI d hd 0
   clear x0 x1 x2 x3 x4 lX sd ss s9 td t8 t9 zd z8 z9
   have m4:RM P M (w3.setCell ⟨w1.heap.size+1+1,d,none⟩ (.int .u32 (0))):=by repeat(first | exact M1.out | apply RM.drew | refine aS ?_ (dD.out _ (by omega)))
   have u4:ah P.has w (w3.setCell ⟨w1.heap.size+1+1,d,none⟩ (.int .u32 (0))):=by repeat(first | exact U1.out | apply ah.drew | refine aK ?_ (by omega))
   have s4:S3 w.heap.size R pc (f%16) (w3.setCell ⟨w1.heap.size+1+1,d,none⟩ (.int .u32 (0))):=by repeat(first | exact S1.out | apply S3.drew | refine dL ?_ (by omega) (by omega) (by omega))
   generalize w3.setCell ⟨w1.heap.size+1+1,d,none⟩ (.int .u32 (0))=W3 at t4 m4 u4 s4⊢
   obtain⟨R4,p4,f4,T4,HE⟩:∃R4 p4 f4,Hid (SB (w1.heap.size+1+1) R4 p4 f4 W3)∧Hid (OO=⟨M,R4,p4,f4,0,0⟩):=⟨_,_,_,κ t4,κ (HO.out.trans ((show stay R pc (f%16) (gK M R pc (f%16) nx 21 d s o m)=⟨M,aF R d (if Fl.hd o (f%16)=true then 1 else 0),nx,f%16,0,0⟩ from rfl).trans (by rw [HT.out];rfl)))⟩
   have M4:=κ m4
   have U4:=κ u4
   have S4:=κ s4
   clear t4 m4 u4 s4 T1 M1 U1 S1 X1 HO
 all_goals
  obtain⟨a0,a1,a2,a3,a4,a5,a6,a7,a8,a9⟩:=T4.out.all
  have Ze:=T4.out.l
  obtain⟨q0,y0,q1,y1,q2,y2,q3,y3,q4,y4,q5,y5,q6,y6,q7,y7,q8,y8,q9,y9,r0,IL,r1,IQ⟩:=S4.out.q.all
  go_wp2_with fail
  clear q0 y0 q1 y1 q2 y2 q3 y3 q4 y4 q5 y5 q6 y6 q7 y7 q8 y8 q9 y9 r0 IL r1 IQ
  clear a0 a1 a2 a3 a4 a5 a6 a7 a8 a9
  obtain⟨u,t,fq,v0,v1,v2,v3,v4,v5,v6,v7,v8,v9,t0,t1⟩:=S4.out.q.put (.int .u32 ((R4) 0)) (.int .u32 ((R4) 1)) (.int .u32 ((R4) 2)) (.int .u32 ((R4) 3)) (.int .u32 ((R4) 4)) (.int .u32 ((R4) 5)) (.int .u32 ((R4) 6)) (.int .u32 ((R4) 7)) (.int .u32 (p4)) (.int .u32 (f4)) (.int .i64 0) (.int .u32 0)
  have bp:=(aO (h:=w.heap.size+1) (g:=w.heap.size+1+1) U4.out (.inr (by omega)) (.inr (by omega)) (.int .u32 ((R4) 0)) (.int .u32 ((R4) 1)) (.int .u32 ((R4) 2)) (.int .u32 ((R4) 3)) (.int .u32 ((R4) 4)) (.int .u32 ((R4) 5)) (.int .u32 ((R4) 6)) (.int .u32 ((R4) 7)) (.int .u32 (p4)) (.int .u32 (f4)) (.int .i64 0) (.int .u32 0))
  have hp:=(M4.out.upto (aO (h:=w.heap.size+1) (g:=w.heap.size+1+1) (ah.refl (fun i=>i=w.heap.size+1∨i=w.heap.size+1+1) W3) (.inl (.inl rfl)) (.inl (.inr rfl)) (.int .u32 ((R4) 0)) (.int .u32 ((R4) 1)) (.int .u32 ((R4) 2)) (.int .u32 ((R4) 3)) (.int .u32 ((R4) 4)) (.int .u32 ((R4) 5)) (.int .u32 ((R4) 6)) (.int .u32 ((R4) 7)) (.int .u32 (p4)) (.int .u32 (f4)) (.int .i64 0) (.int .u32 0)) (fun j hj hx=>dD.out j (by rcases hx with hx | hx<;>omega) hj))
  have bC:=fq
  clear fq
  obtain⟨g0,g1,g2,g3,g4,g5,g6,g7,g8,g9,o0,o1⟩:=bC.got v0 v1 v2 v3 v4 v5 v6 v7 v8 v9 t0 t1
  exact bodyPost_ret (v:=dS ⟨M,R4,p4,f4,0,0⟩) (by simp [dS,iJ,results,Tryz.results64,go_sem,g0,g1,g2,g3,g4,g5,g6,g7,g8,g9,o0,o1]) rfl ⟨by rw [HE.out],hp,bp⟩
end Go.Proofs.YtcjcmnnhmajocabGreat.St
