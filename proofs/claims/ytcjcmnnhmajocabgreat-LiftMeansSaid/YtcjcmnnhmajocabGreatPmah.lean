import Derived.Test.YtcjcmnnhmajocabGreatPmag
set_option linter.unusedVariables false
set_option linter.unusedSimpArgs false
set_option maxRecDepth 100000
set_option maxHeartbeats 16000000
namespace Go.Proofs.YtcjcmnnhmajocabGreat.Me
open Go.RowKit Kt
theorem RM.facts {P:RP} {M:MM} {W:World} (h:RM P M W) (k:Int) (k1:k<65536):(∃u,W.cell? ⟨P.b,k.toNat,none⟩=some u)∧W.frozen? ⟨P.b,k.toNat,none⟩=false:=
 ⟨⟨_,h.hb k.toNat (by omega)⟩,h.zb _⟩
theorem Dp (q:Nat) (a n v:Int) (w:World) (hn:¬ (n=1∨n=2∨n=4)):
  Calls Tryz.prog 148 #[.pointer (some ⟨q,0,none⟩), .int .u32 a, .int .i64 n, .int .u32 v] w fun e w'=>e= .returned (.agg #[.int .i64 0, .int .u32 0])∧Below w.heap.size w w':=by
 have b0:=Below.refl w.heap.size w
 have e1:(n !=1)=true:=by rw [bne_iff_ne];omega
 have e2:(n !=2)=true:=by rw [bne_iff_ne];omega
 have e4:(n !=4)=true:=by rw [bne_iff_ne];omega
 clear hn
 go_enter Tryz.func148,Tryz.ntmps148
 go_wp2
 refine bodyPost_ret (v:= .agg #[.int .i64 0, .int .u32 0]) (by simp [results,Tryz.results148,go_sem]) rfl ⟨rfl, ?_⟩
 exact b0.alloc (Nat.le_refl _) _
theorem Ah (P:RP) (M:MM) (a v x:Int) (w:World) (h:RM P M w) (hM:bQ M) (a0:0≤a) (a1:a<4294967296) (hs:aQ M 2 a 1=some x):
  Calls Tryz.prog 148 #[.pointer (some ⟨P.q,0,none⟩), .int .u32 a, .int .i64 1, .int .u32 v] w fun e w'=>e= .returned (.agg #[.int .i64 6, .int .u32 x])∧Below w.heap.size w w':=by
 have HB:=κ (fun w h=>rU P M a 1 2 6 w h hM (.inr (.inl rfl)) a0 a1 (by omega))
 rw [show(1:Int).toNat=1 from rfl,hs] at HB
 simp only [stpV] at HB
 have HH:=κ (fun o=>h.upto ((ah.refl (fun _=>False) w).alloc o) (fun _ _=>id))
 clear h hM hs
 go_enter Tryz.func148,Tryz.ntmps148
 go_wp2_with (go_at_call 136;refine(HB.out _ (HH.out _)).mono ?_;rintro e w1 ⟨rfl,dH⟩;obtain⟨g0,g1,g2,g3,g4⟩:=Rs.gZ dH;have B1:=κ (cZ dH);clear dH)
 refine bodyPost_ret (v:= .agg #[.int .i64 6, .int .u32 x]) (by simp [results,Tryz.results148,go_sem,g0,g1,g4]) rfl ⟨rfl, ?_⟩
 exact((B1.out.setCell (Nat.le_refl _) _).setCell (Nat.le_refl _) _).alloc (by simpa using B1.out.size) _
theorem J6 (P:RP) (M:MM) (a v:Int) (w:World) (h:RM P M w) (hM:bQ M) (a0:0≤a) (a1:a<4294967296) (v0:0≤v) (v1:v<4294967296) (hs:aQ M 2 a 1=none):
  Calls Tryz.prog 148 #[.pointer (some ⟨P.q,0,none⟩), .int .u32 a, .int .i64 1, .int .u32 v] w fun e w'=>e= .returned (.agg #[.int .i64 0, .int .u32 0])∧RM P (pk M a.toNat (O8 1 v)) w'∧ah P.S w w':=by
 have HB:=κ (fun w h=>rU P M a 1 2 6 w h hM (.inr (.inl rfl)) a0 a1 (by omega))
 rw [show(1:Int).toNat=1 from rfl,hs] at HB
 simp only [stpV] at HB
 have HH:=κ (fun o=>h.upto ((ah.refl (fun _=>False) w).alloc o) (fun _ _=>id))
 have p0:=(iF a0 a1 hs 0 (by omega) (by omega)).2
 have b0:a<65536:=by omega
 have HI:=κ h
 have HC:=κ (rJ P)
 have lq:=h.lq
 have lb:=h.lb
 have hX:¬P.S w.heap.size:=by
  have:=h.lr;have:=h.lm;have:=h.lt
  rintro(h | h | h | h | h) <;>omega
 have HP:=κ h
 have Jh:P.S P.b:= .inr (.inl rfl)
 obtain⟨pq,Dq⟩:∃x,P.q=x:=⟨_,rfl⟩
 obtain⟨pb,vO⟩:∃x,P.b=x:=⟨_,rfl⟩
 rw [Dq] at lq HB HC⊢
 rw [vO] at lb Jh
 have HQ:=κ Dq
 have BQ:=κ vO
 clear h hM hs p0 Dq vO
 go_enter Tryz.func148,Tryz.ntmps148
 go_wp2_with (go_at_call 136;refine(HB.out _ (HH.out _)).mono ?_;rintro e w0 ⟨rfl,dH⟩;have Un:=κ (Rs.gZ dH);have B1:=κ (cZ dH);have rP:=κ (HP.out.upto (ah.ak (S:=fun _=>False) B1.out) (fun _ _=>id));clear dH;have q0:=rP.out.wY;obtain⟨⟨u0,k0⟩,z0⟩:=rP.out.facts a (by omega);rw [BQ.out] at k0 z0 q0;rw [HQ.out] at q0;have lq0:=Nat.lt_of_lt_of_le lq B1.out.size;have lb0:=Nat.lt_of_lt_of_le lb B1.out.size;have hY:=κ (Below.size B1.out))
 have Qx:¬P.S w0.heap.size:=by
  have:=rP.out.lq;have:=rP.out.lb;have:=rP.out.lr;have:=rP.out.lm;have:=rP.out.lt
  rintro(h | h | h | h | h) <;>omega
 have Pg:¬w.heap.size=pb:=by omega
 have YO:¬w0.heap.size=pb:=by omega
 have hXY:¬w.heap.size=w0.heap.size:=by have:=Un.out.2.2.2.2;omega
 refine wp_loop_rounds 2 ?_
 rw [rounds_succ];go_wp2_with fail
 refine(HC.out _ _ (by omega) (by omega) _ (((BQ.out▸rP.out.rH a.toNat (by omega) (v%256)).upto ((ah.refl (fun _=>False) _).alloc _) (fun _ _=>id)))).mono ?_
 rintro e w1 ⟨rfl,h1,o1⟩
 rw [sQ _ a _ a0] at h1
 have Uo:=κ (((Un.out.put Pg).upto ((ah.refl (fun _=>False) _).alloc _) id).upto o1 hX)
 have ZG:=κ ((Rs.new (w0.setCell ⟨pb,a.toNat,none⟩ (.int .u8 (v%256))) w0.heap.size (by simp)).upto o1 Qx)
 have U1:=κ (ah.trans (((ah.ak B1.out).setCell (q:=⟨pb,(a).toNat,none⟩) (.inl Jh) (.int .u8 (v%256))).alloc (.cells #[.int .i64 0, .int .u32 0] 55)) o1)
 have rQ:=κ h1
 obtain⟨g0,g1,g2,g3,g4⟩:=Uo.out
 obtain⟨f0,f1,f2,f3,f4⟩:=ZG.out
 clear h1 o1
 go_wp2
 rw [rounds_succ];go_wp2
 refine bodyPost_ret (v:= .agg #[.int .i64 0, .int .u32 0]) (by simp [results,Tryz.results148,go_sem,g0,g1,g4]) rfl ⟨rfl, ?_, ?_⟩
 ·exact rQ.out.upto (S:=fun i=>i=w.heap.size) (((ah.refl (fun i=>i=w.heap.size) _).setCell (q:=⟨w.heap.size,0,none⟩) (.inl rfl) (.int .i64 0)).setCell (q:=⟨w.heap.size,1,none⟩) (.inl rfl) (.int .u32 0)) (fun k hk h=>hX (h▸hk))
 ·exact(U1.out.setCell (q:=⟨w.heap.size,0,none⟩) (.inr (Nat.le_refl _)) _).setCell (q:=⟨w.heap.size,1,none⟩) (.inr (Nat.le_refl _)) _
theorem Ai (P:RP) (M:MM) (a v x:Int) (w:World) (h:RM P M w) (hM:bQ M) (a0:0≤a) (a1:a<4294967296) (hs:aQ M 2 a 2=some x):
  Calls Tryz.prog 148 #[.pointer (some ⟨P.q,0,none⟩), .int .u32 a, .int .i64 2, .int .u32 v] w fun e w'=>e= .returned (.agg #[.int .i64 6, .int .u32 x])∧Below w.heap.size w w':=by
 have HB:=κ (fun w h=>rU P M a 2 2 6 w h hM (.inr (.inl rfl)) a0 a1 (by omega))
 rw [show(2:Int).toNat=2 from rfl,hs] at HB
 simp only [stpV] at HB
 have HH:=κ (fun o=>h.upto ((ah.refl (fun _=>False) w).alloc o) (fun _ _=>id))
 clear h hM hs
 go_enter Tryz.func148,Tryz.ntmps148
 go_wp2_with (go_at_call 136;refine(HB.out _ (HH.out _)).mono ?_;rintro e w1 ⟨rfl,dH⟩;obtain⟨g0,g1,g2,g3,g4⟩:=Rs.gZ dH;have B1:=κ (cZ dH);clear dH)
 refine bodyPost_ret (v:= .agg #[.int .i64 6, .int .u32 x]) (by simp [results,Tryz.results148,go_sem,g0,g1,g4]) rfl ⟨rfl, ?_⟩
 exact((B1.out.setCell (Nat.le_refl _) _).setCell (Nat.le_refl _) _).alloc (by simpa using B1.out.size) _
theorem J7 (P:RP) (M:MM) (a v:Int) (w:World) (h:RM P M w) (hM:bQ M) (a0:0≤a) (a1:a<4294967296) (v0:0≤v) (v1:v<4294967296) (hs:aQ M 2 a 2=none):
  Calls Tryz.prog 148 #[.pointer (some ⟨P.q,0,none⟩), .int .u32 a, .int .i64 2, .int .u32 v] w fun e w'=>e= .returned (.agg #[.int .i64 0, .int .u32 0])∧RM P (pk M a.toNat (O8 2 v)) w'∧ah P.S w w':=by
 have HB:=κ (fun w h=>rU P M a 2 2 6 w h hM (.inr (.inl rfl)) a0 a1 (by omega))
 rw [show(2:Int).toNat=2 from rfl,hs] at HB
 simp only [stpV] at HB
 have HH:=κ (fun o=>h.upto ((ah.refl (fun _=>False) w).alloc o) (fun _ _=>id))
 have p0:=(iF a0 a1 hs 1 (by omega) (by omega)).2
 have b0:a<65536:=by omega
 have b1:a+1<65536:=by omega
 have HI:=κ h
 have HC:=κ (rJ P)
 have lq:=h.lq
 have lb:=h.lb
 have hX:¬P.S w.heap.size:=by
  have:=h.lr;have:=h.lm;have:=h.lt
  rintro(h | h | h | h | h) <;>omega
 have HP:=κ h
 have Jh:P.S P.b:= .inr (.inl rfl)
 obtain⟨pq,Dq⟩:∃x,P.q=x:=⟨_,rfl⟩
 obtain⟨pb,vO⟩:∃x,P.b=x:=⟨_,rfl⟩
 rw [Dq] at lq HB HC⊢
 rw [vO] at lb Jh
 have HQ:=κ Dq
 have BQ:=κ vO
 clear h hM hs p0 Dq vO
 go_enter Tryz.func148,Tryz.ntmps148
 go_wp2_with (go_at_call 136;refine(HB.out _ (HH.out _)).mono ?_;rintro e w0 ⟨rfl,dH⟩;have Un:=κ (Rs.gZ dH);have B1:=κ (cZ dH);have rP:=κ (HP.out.upto (ah.ak (S:=fun _=>False) B1.out) (fun _ _=>id));clear dH;have q0:=rP.out.wY;obtain⟨⟨u0,k0⟩,z0⟩:=rP.out.facts a (by omega);rw [BQ.out] at k0 z0 q0;rw [HQ.out] at q0;have lq0:=Nat.lt_of_lt_of_le lq B1.out.size;have lb0:=Nat.lt_of_lt_of_le lb B1.out.size;have hY:=κ (Below.size B1.out))
 have Qx:¬P.S w0.heap.size:=by
  have:=rP.out.lq;have:=rP.out.lb;have:=rP.out.lr;have:=rP.out.lm;have:=rP.out.lt
  rintro(h | h | h | h | h) <;>omega
 have Pg:¬w.heap.size=pb:=by omega
 have YO:¬w0.heap.size=pb:=by omega
 have hXY:¬w.heap.size=w0.heap.size:=by have:=Un.out.2.2.2.2;omega
 refine wp_loop_rounds 3 ?_
 rw [rounds_succ];go_wp2_with fail
 refine(HC.out _ _ (by omega) (by omega) _ (((BQ.out▸rP.out.rH a.toNat (by omega) (v%256)).upto ((ah.refl (fun _=>False) _).alloc _) (fun _ _=>id)))).mono ?_
 rintro e w1 ⟨rfl,h1,o1⟩
 rw [sQ _ a _ a0] at h1
 have Uo:=κ (((Un.out.put Pg).upto ((ah.refl (fun _=>False) _).alloc _) id).upto o1 hX)
 have ZG:=κ ((Rs.new (w0.setCell ⟨pb,a.toNat,none⟩ (.int .u8 (v%256))) w0.heap.size (by simp)).upto o1 Qx)
 have U1:=κ (ah.trans (((ah.ak B1.out).setCell (q:=⟨pb,(a).toNat,none⟩) (.inl Jh) (.int .u8 (v%256))).alloc (.cells #[.int .i64 0, .int .u32 0] 55)) o1)
 have rQ:=κ h1
 obtain⟨⟨u1,k1⟩,z1⟩:=h1.facts (a+1) (by omega)
 have q1:=h1.wY
 rw [BQ.out] at k1 z1 q1;rw [HQ.out] at q1
 clear h1 o1
 go_wp2
 rw [rounds_succ];go_wp2_with fail
 refine(HC.out _ _ (by omega) (by omega) _ (BQ.out▸rQ.out.rH (a+1).toNat (by omega) (v/256%256))).mono ?_
 rintro e w2 ⟨rfl,h2,o2⟩
 rw [rM _ a 1 1 _ a0 rfl] at h2
 have ZH:=κ ((Uo.out.put Pg).upto o2 hX)
 have ZI:=κ ((ZG.out.put YO).upto o2 Qx)
 have U2:=κ (ah.trans (U1.out.setCell (q:=⟨pb,(a+1).toNat,none⟩) (.inl Jh) (.int .u8 (v/256%256))) o2)
 have wZ:=κ h2
 obtain⟨g0,g1,g2,g3,g4⟩:=ZH.out
 obtain⟨f0,f1,f2,f3,f4⟩:=ZI.out
 clear h2 o2
 go_wp2
 rw [rounds_succ];go_wp2
 refine bodyPost_ret (v:= .agg #[.int .i64 0, .int .u32 0]) (by simp [results,Tryz.results148,go_sem,g0,g1,g4]) rfl ⟨rfl, ?_, ?_⟩
 ·exact wZ.out.upto (S:=fun i=>i=w.heap.size) (((ah.refl (fun i=>i=w.heap.size) _).setCell (q:=⟨w.heap.size,0,none⟩) (.inl rfl) (.int .i64 0)).setCell (q:=⟨w.heap.size,1,none⟩) (.inl rfl) (.int .u32 0)) (fun k hk h=>hX (h▸hk))
 ·exact(U2.out.setCell (q:=⟨w.heap.size,0,none⟩) (.inr (Nat.le_refl _)) _).setCell (q:=⟨w.heap.size,1,none⟩) (.inr (Nat.le_refl _)) _
theorem Aj (P:RP) (M:MM) (a v x:Int) (w:World) (h:RM P M w) (hM:bQ M) (a0:0≤a) (a1:a<4294967296) (hs:aQ M 2 a 4=some x):
  Calls Tryz.prog 148 #[.pointer (some ⟨P.q,0,none⟩), .int .u32 a, .int .i64 4, .int .u32 v] w fun e w'=>e= .returned (.agg #[.int .i64 6, .int .u32 x])∧Below w.heap.size w w':=by
 have HB:=κ (fun w h=>rU P M a 4 2 6 w h hM (.inr (.inl rfl)) a0 a1 (by omega))
 rw [show(4:Int).toNat=4 from rfl,hs] at HB
 simp only [stpV] at HB
 have HH:=κ (fun o=>h.upto ((ah.refl (fun _=>False) w).alloc o) (fun _ _=>id))
 clear h hM hs
 go_enter Tryz.func148,Tryz.ntmps148
 go_wp2_with (go_at_call 136;refine(HB.out _ (HH.out _)).mono ?_;rintro e w1 ⟨rfl,dH⟩;obtain⟨g0,g1,g2,g3,g4⟩:=Rs.gZ dH;have B1:=κ (cZ dH);clear dH)
 refine bodyPost_ret (v:= .agg #[.int .i64 6, .int .u32 x]) (by simp [results,Tryz.results148,go_sem,g0,g1,g4]) rfl ⟨rfl, ?_⟩
 exact((B1.out.setCell (Nat.le_refl _) _).setCell (Nat.le_refl _) _).alloc (by simpa using B1.out.size) _
theorem J8 (P:RP) (M:MM) (a v:Int) (w:World) (h:RM P M w) (hM:bQ M) (a0:0≤a) (a1:a<4294967296) (v0:0≤v) (v1:v<4294967296) (hs:aQ M 2 a 4=none):
  Calls Tryz.prog 148 #[.pointer (some ⟨P.q,0,none⟩), .int .u32 a, .int .i64 4, .int .u32 v] w fun e w'=>e= .returned (.agg #[.int .i64 0, .int .u32 0])∧RM P (pk M a.toNat (O8 4 v)) w'∧ah P.S w w':=by
 have HB:=κ (fun w h=>rU P M a 4 2 6 w h hM (.inr (.inl rfl)) a0 a1 (by omega))
 rw [show(4:Int).toNat=4 from rfl,hs] at HB
 simp only [stpV] at HB
 have HH:=κ (fun o=>h.upto ((ah.refl (fun _=>False) w).alloc o) (fun _ _=>id))
 have p0:=(iF a0 a1 hs 3 (by omega) (by omega)).2
 have b0:a<65536:=by omega
 have b1:a+1<65536:=by omega
 have b2:a+2<65536:=by omega
 have b3:a+3<65536:=by omega
 have HI:=κ h
 have HC:=κ (rJ P)
 have lq:=h.lq
 have lb:=h.lb
 have hX:¬P.S w.heap.size:=by
  have:=h.lr;have:=h.lm;have:=h.lt
  rintro(h | h | h | h | h) <;>omega
 have HP:=κ h
 have Jh:P.S P.b:= .inr (.inl rfl)
 obtain⟨pq,Dq⟩:∃x,P.q=x:=⟨_,rfl⟩
 obtain⟨pb,vO⟩:∃x,P.b=x:=⟨_,rfl⟩
 rw [Dq] at lq HB HC⊢
 rw [vO] at lb Jh
 have HQ:=κ Dq
 have BQ:=κ vO
 clear h hM hs p0 Dq vO
 go_enter Tryz.func148,Tryz.ntmps148
 go_wp2_with (go_at_call 136;refine(HB.out _ (HH.out _)).mono ?_;rintro e w0 ⟨rfl,dH⟩;have Un:=κ (Rs.gZ dH);have B1:=κ (cZ dH);have rP:=κ (HP.out.upto (ah.ak (S:=fun _=>False) B1.out) (fun _ _=>id));clear dH;have q0:=rP.out.wY;obtain⟨⟨u0,k0⟩,z0⟩:=rP.out.facts a (by omega);rw [BQ.out] at k0 z0 q0;rw [HQ.out] at q0;have lq0:=Nat.lt_of_lt_of_le lq B1.out.size;have lb0:=Nat.lt_of_lt_of_le lb B1.out.size;have hY:=κ (Below.size B1.out))
 have Qx:¬P.S w0.heap.size:=by
  have:=rP.out.lq;have:=rP.out.lb;have:=rP.out.lr;have:=rP.out.lm;have:=rP.out.lt
  rintro(h | h | h | h | h) <;>omega
 have Pg:¬w.heap.size=pb:=by omega
 have YO:¬w0.heap.size=pb:=by omega
 have hXY:¬w.heap.size=w0.heap.size:=by have:=Un.out.2.2.2.2;omega
 refine wp_loop_rounds 5 ?_
 rw [rounds_succ];go_wp2_with fail
 refine(HC.out _ _ (by omega) (by omega) _ (((BQ.out▸rP.out.rH a.toNat (by omega) (v%256)).upto ((ah.refl (fun _=>False) _).alloc _) (fun _ _=>id)))).mono ?_
 rintro e w1 ⟨rfl,h1,o1⟩
 rw [sQ _ a _ a0] at h1
 have Uo:=κ (((Un.out.put Pg).upto ((ah.refl (fun _=>False) _).alloc _) id).upto o1 hX)
 have ZG:=κ ((Rs.new (w0.setCell ⟨pb,a.toNat,none⟩ (.int .u8 (v%256))) w0.heap.size (by simp)).upto o1 Qx)
 have U1:=κ (ah.trans (((ah.ak B1.out).setCell (q:=⟨pb,(a).toNat,none⟩) (.inl Jh) (.int .u8 (v%256))).alloc (.cells #[.int .i64 0, .int .u32 0] 55)) o1)
 have rQ:=κ h1
 obtain⟨⟨u1,k1⟩,z1⟩:=h1.facts (a+1) (by omega)
 have q1:=h1.wY
 rw [BQ.out] at k1 z1 q1;rw [HQ.out] at q1
 clear h1 o1
 go_wp2
 rw [rounds_succ];go_wp2_with fail
 refine(HC.out _ _ (by omega) (by omega) _ (BQ.out▸rQ.out.rH (a+1).toNat (by omega) (v/256%256))).mono ?_
 rintro e w2 ⟨rfl,h2,o2⟩
 rw [rM _ a 1 1 _ a0 rfl] at h2
 have ZH:=κ ((Uo.out.put Pg).upto o2 hX)
 have ZI:=κ ((ZG.out.put YO).upto o2 Qx)
 have U2:=κ (ah.trans (U1.out.setCell (q:=⟨pb,(a+1).toNat,none⟩) (.inl Jh) (.int .u8 (v/256%256))) o2)
 have wZ:=κ h2
 obtain⟨⟨u2,k2⟩,z2⟩:=h2.facts (a+2) (by omega)
 have q2:=h2.wY
 rw [BQ.out] at k2 z2 q2;rw [HQ.out] at q2
 clear h2 o2
 go_wp2
 rw [rounds_succ];go_wp2_with fail
 refine(HC.out _ _ (by omega) (by omega) _ (BQ.out▸wZ.out.rH (a+2).toNat (by omega) (v/256/256%256))).mono ?_
 rintro e w3 ⟨rfl,h3,o3⟩
 rw [rM _ a 2 2 _ a0 rfl] at h3
 rw [show v/256/256%256=v/65536%256 by omega] at h3
 have RX3:=κ ((ZH.out.put Pg).upto o3 hX)
 have RY3:=κ ((ZI.out.put YO).upto o3 Qx)
 have U3:=κ (ah.trans (U2.out.setCell (q:=⟨pb,(a+2).toNat,none⟩) (.inl Jh) (.int .u8 (v/256/256%256))) o3)
 have HH3:=κ h3
 obtain⟨⟨u3,k3⟩,z3⟩:=h3.facts (a+3) (by omega)
 have q3:=h3.wY
 rw [BQ.out] at k3 z3 q3;rw [HQ.out] at q3
 clear h3 o3
 go_wp2
 rw [rounds_succ];go_wp2_with fail
 refine(HC.out _ _ (by omega) (by omega) _ (BQ.out▸HH3.out.rH (a+3).toNat (by omega) (v/256/256/256%256))).mono ?_
 rintro e w4 ⟨rfl,h4,o4⟩
 rw [rM _ a 3 3 _ a0 rfl] at h4
 rw [show v/256/256/256%256=v/16777216 by omega] at h4
 have RX4:=κ ((RX3.out.put Pg).upto o4 hX)
 have RY4:=κ ((RY3.out.put YO).upto o4 Qx)
 have U4:=κ (ah.trans (U3.out.setCell (q:=⟨pb,(a+3).toNat,none⟩) (.inl Jh) (.int .u8 (v/256/256/256%256))) o4)
 have HH4:=κ h4
 obtain⟨g0,g1,g2,g3,g4⟩:=RX4.out
 obtain⟨f0,f1,f2,f3,f4⟩:=RY4.out
 clear h4 o4
 go_wp2
 rw [rounds_succ];go_wp2
 refine bodyPost_ret (v:= .agg #[.int .i64 0, .int .u32 0]) (by simp [results,Tryz.results148,go_sem,g0,g1,g4]) rfl ⟨rfl, ?_, ?_⟩
 ·exact HH4.out.upto (S:=fun i=>i=w.heap.size) (((ah.refl (fun i=>i=w.heap.size) _).setCell (q:=⟨w.heap.size,0,none⟩) (.inl rfl) (.int .i64 0)).setCell (q:=⟨w.heap.size,1,none⟩) (.inl rfl) (.int .u32 0)) (fun k hk h=>hX (h▸hk))
 ·exact(U4.out.setCell (q:=⟨w.heap.size,0,none⟩) (.inr (Nat.le_refl _)) _).setCell (q:=⟨w.heap.size,1,none⟩) (.inr (Nat.le_refl _)) _
theorem dV (P:RP) (M:MM) (a n v:Int) (w:World) (h:RM P M w) (hM:bQ M) (a0:0≤a) (a1:a<4294967296) (v0:0≤v) (v1:v<4294967296):
  Calls Tryz.prog 148 #[.pointer (some ⟨P.q,0,none⟩), .int .u32 a, .int .i64 n, .int .u32 v] w fun e w'=>e= .returned (stpV 6 (jE M a n))∧RM P (nU M a n v) w'∧ah P.S w w':=by
 have keep:∀ {e':Ending},(Calls Tryz.prog 148 #[.pointer (some ⟨P.q,0,none⟩), .int .u32 a, .int .i64 n, .int .u32 v] w fun e w'=>e=e'∧Below w.heap.size w w')→
   Calls Tryz.prog 148 #[.pointer (some ⟨P.q,0,none⟩), .int .u32 a, .int .i64 n, .int .u32 v] w fun e w'=>e=e'∧RM P M w'∧ah P.S w w':=by
  intro e' hc
  exact hc.mono fun e w' ⟨he,hb⟩=>⟨he,h.upto (ah.ak (S:=fun _=>False) hb) (fun _ _=>id),ah.ak hb⟩
 unfold jE nU
 by_cases hn:n=1∨n=2∨n=4
 ·rw [if_pos hn,if_pos hn]
  obtain⟨o,ho⟩:∃o,aQ M 2 a n.toNat=o:=⟨_,rfl⟩
  rw [ho]
  rcases o with _ | x
  ·simp only [Option.isNone_none,if_true,stpV]
   rcases hn with rfl | rfl | rfl
   ·exact J6 P M a v w h hM a0 a1 v0 v1 ho
   ·exact J7 P M a v w h hM a0 a1 v0 v1 ho
   ·exact J8 P M a v w h hM a0 a1 v0 v1 ho
  ·simp only [Option.isNone_some,Bool.false_eq_true,if_false,stpV]
   rcases hn with rfl | rfl | rfl
   ·exact keep (Ah P M a v x w h hM a0 a1 ho)
   ·exact keep (Ai P M a v x w h hM a0 a1 ho)
   ·exact keep (Aj P M a v x w h hM a0 a1 ho)
 ·rw [if_neg hn,if_neg hn]
  exact keep (Dp P.q a n v w hn)
theorem Ur (a n:Int) (h:0≤a∧0≤n∧a≤65536∧n≤65536-a) (w:World):Calls Tryz.prog 77 #[.int .i64 a, .int .i64 n] w fun e w'=>e= .returned (.bool true)∧w=w':=by
 obtain⟨h1,h2,h3,h4⟩:=h
 go_enter Tryz.func77,Tryz.ntmps77
 go_wp2
 go_ret
 exact⟨rfl,rfl⟩
theorem ZJ (a n:Int) (h:¬ (0≤a∧0≤n∧a≤65536∧n≤65536-a)) (w:World):Calls Tryz.prog 77 #[.int .i64 a, .int .i64 n] w fun e w'=>e= .returned (.bool false)∧w=w':=by
 rcases(show¬0≤a∨(0≤a∧¬0≤n)∨(0≤a∧0≤n∧¬a≤65536)∨(0≤a∧0≤n∧a≤65536∧¬n≤65536-a) by omega) with h1 | ⟨h1,h2⟩ | ⟨h1,h2,h3⟩ | ⟨h1,h2,h3,h4⟩
 all_goals clear h
 all_goals go_enter Tryz.func77,Tryz.ntmps77
 all_goals go_wp2
 all_goals go_ret
 all_goals exact⟨rfl,rfl⟩
end Go.Proofs.YtcjcmnnhmajocabGreat.Me
namespace Go.Proofs.YtcjcmnnhmajocabGreat.Gu
open Go.RowKit Kt
theorem og:∃i,Tryz.prog.info? 5=some i∧i.zero=some (.int .u8 0)∧i.size=1∧i.bytes=1:=by
 have h:(Tryz.prog.info? 5).map (fun i=>(i.zero,i.size,i.bytes))=some (some (.int .u8 0),1,1):=by kernel_rfl
 obtain⟨i,hi,hz⟩:=Option.map_eq_some_iff.1 h
 simp only [Prod.mk.injEq] at hz
 exact⟨i,hi,hz.1,hz.2.1,hz.2.2⟩
theorem bJ {w:World} {g:Nat} {cs:Array Value} {t:TypeId} (h:w.heap[g]?=some (.cells cs t (0,0))):(∀i,w.cell? ⟨g,i,none⟩=cs[i]?)∧∀i,w.frozen? ⟨g,i,none⟩=false:=
 ⟨fun i=>by simp [World.cell?,h],fun i=>frozen_of_row w g i cs t h⟩
def Bs (us:List Int) (ao:Option Addr) (cap:Nat) (w:World):Prop:=
 us.length≤cap∧cap≤maxLen∧(0<us.length→∃b off,ao=some ⟨b,off,none⟩∧b<w.heap.size∧∀j,j<us.length→w.cell? ⟨b,off+j,none⟩=some (.int .u8 (us.getD j 0)))
theorem Bs.keep {us:List Int} {ao:Option Addr} {cap:Nat} {w w':World} (h:Bs us ao cap w) (hb:Below w.heap.size w w'):Bs us ao cap w':=by
 obtain⟨l,m,k⟩:=h
 refine⟨l,m,fun hlen=> ?_⟩
 obtain⟨b,off,rfl,J9,hc⟩:=k hlen
 exact⟨b,off,rfl,Nat.lt_of_lt_of_le J9 hb.size,fun j hj=>by rw [hb.cell (p:=⟨b,off+j,none⟩) J9];exact hc j hj⟩
end Go.Proofs.YtcjcmnnhmajocabGreat.Gu
namespace Go.Proofs.YtcjcmnnhmajocabGreat.Me
open Go.RowKit Kt
def tZ (M:MM) (a:Nat) (n:Nat):List Int:=(List.range n).map fun j=>M.fD (a+j)
theorem uO (M:MM) (a n:Nat):(tZ M a n).length=n:=by simp [tZ]
theorem Fh (M:MM) (a n j:Nat) (h:j<n):(tZ M a n).getD j 0=M.fD (a+j):=by simp [tZ,List.getD_eq_getElem?_getD,h]
def Own (base:Nat) (v:Value) (us:List Int) (w:World):Prop:=w.ownsRow base 5 1 v us.length (us.map (Value.int .u8))
theorem Own.mono {base Us:Nat} {v:Value} {us:List Int} {w:World} (h:Own base v us w) (hb:Us≤base):Own Us v us w:=by
 obtain⟨h1,h⟩:=h
 refine⟨h1, ?_⟩
 rcases h with h | ⟨g,cap,cur,e1,e2,e3,e4⟩
 ·exact .inl h
 ·exact .inr ⟨g,cap,cur,e1,Nat.le_trans hb e2,e3,e4⟩
theorem Own.below {base:Nat} {v:Value} {us:List Int} {w:World} (h:Own base v us w) {q:Addr} (hq:q.block<base) (u:Value):Own base v us (w.setCell q u):=ownsRow_setCell_below h hq u
theorem VD {ops:Array Oper} {rest:List Oper} {o:Oper} {a:Act} {Q:Exit→Act→World→Prop} {w:World} (hgd:o.guard=none) (x:Operand)
  (ho:o.op= .call {callee:= .builtin .append,args:= #[.const (.slice none 0 0),x],argTypes:= #[34,34]})
  (us:List Int) (b off n cap:Nat) (hx:a.eval x= .slice (some ⟨b,off,none⟩) n cap) (hn:us.length=n) (hc:∀j,j<us.length→w.cell? ⟨b,off+j,none⟩=some (.int .u8 (us.getD j 0))) (hb:us.length≤140737488355328)
  (h:∀v' w',Own w.heap.size v' us w'→Below w.heap.size w w'→wpList Tryz.prog ops Q rest (a.put o.dst v') w'):wpList Tryz.prog ops Q (o::rest) a w:=by
 subst hn
 obtain⟨i,hi,hz,jS,Ko⟩:=Gu.og
 have Dt:(maxLen:Nat)=9223372036854775807:=rfl
 refine wpList_append_own w hgd (.const (.slice none 0 0)) x 34 ho w.heap.size 5 i (.int .u8 0) 1 1 Tryz.underlying34 hi hz jS Ko rfl Nat.one_pos (.slice none 0 0) 0 [] rfl (World.ownsRow_nil w _ _ _) ⟨b,off,none⟩ us.length cap (us.map (Value.int .u8)) hx (by simp) ?_ ?_ (by omega) (by omega) (Nat.le_refl _) (fun v' w' hv hg _=>h v' w' ?_ ((Below.refl _ _).grown hg (Nat.le_refl _) (fun k hk=> ?_)))
 ·intro j u hj
  rw [List.getElem?_map] at hj
  obtain⟨z,hz,rfl⟩:=Option.map_eq_some_iff.1 hj
  have dh:=(List.getElem?_eq_some_iff.1 hz).1
  rw [Addr.add_lit,hc j dh,List.getD_eq_getElem?_getD,hz];rfl
 ·intro u hu
  obtain⟨z,_,rfl⟩:=List.mem_map.1 hu
  rfl
 ·unfold Own;simpa using hv
 ·cases hk
theorem sS:Tryz.prog.arrayLen 153=65536∧Tryz.prog.underlying 153=some (.array (Tryz.prog.arrayLen 153) (Tryz.prog.elem 153))∧Tryz.prog.elem 153=5∧∀w,(sizeOf 5).run Tryz.prog w= .ok 1 w:=by
 refine⟨by kernel_rfl,by kernel_rfl,by kernel_rfl,fun w=> ?_⟩
 obtain⟨i,hi,hz,hs,hb⟩:=Gu.og
 simp [hi,hs,go_sem]
theorem GR (p a n:Nat) (k:IntKind) (w:World) (ha:a<65536) (hn:a+n≤65536):
  (Instr.sliceAt 153 (.pointer (some ⟨p,0,none⟩)) (some (.int k a)) (some (.int .i64 ((a:Int)+(n:Int)))) none).run Tryz.prog w= .ok (.slice (some ⟨p,a,none⟩) n (65536-a)) w:=by
 obtain⟨f1,f2,f3,f4⟩:=sS
 rw [run_sliceAt_array_lh w 153 ⟨p,0,none⟩ f2 k .i64 a (a+n) (by omega) (by omega) (by rw [f1];omega),f3,f4,f1]
 simp only [Result.andThen,slicedAt,Int.toNat_natCast]
 rw [show((a:Int)+(n:Int)).toNat=a+n by omega,if_neg (by omega)]
 have e:(⟨p,0,none⟩:Addr).add (a*1)=⟨p,a,none⟩:=by rw [Addr.add_lit];simp
 rw [e,show a+n-a=n by omega]
def YP (a n:Int):Bool:=decide (0≤a)&&decide (0≤n)&&decide (a≤65536)&&decide (n≤65536-a)
theorem uP (a n:Int):YP a n=true↔(0≤a∧0≤n∧a≤65536∧n≤65536-a):=by unfold YP;simp [and_assoc]
def inE (a n:Int):Int:=if YP a n then 0 else 4
theorem Own.nil (base:Nat) (w:World):Own base (.slice none 0 0) [] w:=World.ownsRow_nil w _ _ _
def fB (M:MM) (a n:Int):List Int:=if 0≤n∧n≤8 then(if(aQ M 4 a n.toNat).isNone then tZ M a.toNat n.toNat else []) else []
def bY (M:MM) (a n:Int):Option Int:=if 0≤n∧n≤8 then aQ M 4 a n.toNat else none
theorem Kq (p:Nat) (a n:Int) (w:World) (hn:n<0∨8<n):
  Calls Tryz.prog 82 #[.pointer (some ⟨p,0,none⟩), .int .u32 a, .int .i64 n] w fun e w'=>e= .returned (.tuple #[.slice none 0 0, .agg #[.int .i64 0, .int .u32 0]])∧Below w.heap.size w w':=by
 have b0:=Below.refl w.heap.size w
 rcases(show n<0∨(¬n<0∧8<n) by omega) with h | ⟨h,h1⟩
 all_goals clear hn
 all_goals go_enter Tryz.func82,Tryz.ntmps82
 all_goals go_wp2
 all_goals refine bodyPost_ret (v:= .tuple #[.slice none 0 0, .agg #[.int .i64 0, .int .u32 0]]) (by simp [results,Tryz.results82,go_sem]) rfl ⟨rfl, ?_⟩
 all_goals exact b0.alloc (Nat.le_refl _) _
theorem GU (p:Nat) (M:MM) (N a n x:Int) (w:World) (h:HM p M N w) (hM:bQ M) (a0:0≤a) (a1:a<4294967296) (n0:¬n<0) (n1:¬8<n) (hs:aQ M 4 a n.toNat=some x):
  Calls Tryz.prog 82 #[.pointer (some ⟨p,0,none⟩), .int .u32 a, .int .i64 n] w fun e w'=>e= .returned (.tuple #[.slice none 0 0, .agg #[.int .i64 4, .int .u32 x]])∧Below w.heap.size w w':=by
 have HB:=κ (fun w h=>gY p M N a n 4 w h hM (.inr (.inr rfl)) a0 a1 (by omega))
 rw [hs] at HB
 simp only [srV] at HB
 have b0:=Below.refl w.heap.size w
 have HH:=κ (fun o=>h.upto ((ah.refl (fun _=>False) w).alloc o) id)
 clear h hM hs
 go_enter Tryz.func82,Tryz.ntmps82
 go_wp2_with (go_at_call 111;refine(HB.out _ (HH.out _)).mono ?_;rintro e w' ⟨rfl,rfl⟩)
 refine bodyPost_ret (v:= .tuple #[.slice none 0 0, .agg #[.int .i64 4, .int .u32 x]]) (by simp [results,Tryz.results82,go_sem]) rfl ⟨rfl, ?_⟩
 exact b0.alloc (Nat.le_refl _) _
theorem Du (p:Nat) (M:MM) (N a:Int) (w:World) (h:HM p M N w) (hM:bQ M) (a0:0≤a) (a1:a<4294967296):
  Calls Tryz.prog 82 #[.pointer (some ⟨p,0,none⟩), .int .u32 a, .int .i64 0] w fun e w'=>e= .returned (.tuple #[.slice none 0 0, .agg #[.int .i64 0, .int .u32 0]])∧Below w.heap.size w w':=by
 have HB:=κ (fun w h=>gY p M N a 0 4 w h hM (.inr (.inr rfl)) a0 a1 (by omega))
 rw [show aQ M 4 a (0:Int).toNat=none from rfl] at HB
 simp only [srV] at HB
 have b0:=Below.refl w.heap.size w
 have HH:=κ (fun o=>h.upto ((ah.refl (fun _=>False) w).alloc o) id)
 clear h hM
 go_enter Tryz.func82,Tryz.ntmps82
 go_wp2_with (go_at_call 111;refine(HB.out _ (HH.out _)).mono ?_;rintro e w' ⟨rfl,rfl⟩)
 refine bodyPost_ret (v:= .tuple #[.slice none 0 0, .agg #[.int .i64 0, .int .u32 0]]) (by simp [results,Tryz.results82,go_sem]) rfl ⟨rfl, ?_⟩
 exact b0.alloc (Nat.le_refl _) _
theorem Dv (p:Nat) (a n:Int) (k:IntKind) (w:World) (a0:0≤a) (n0:0≤n) (ha:a<65536) (hn:a+n≤65536):
  (Instr.sliceAt 153 (.pointer (some ⟨p,0,none⟩)) (some (.int k a)) (some (.int .i64 (a+n))) none).run Tryz.prog w= .ok (.slice (some ⟨p,a.toNat,none⟩) n.toNat (65536-a.toNat)) w:=by
 obtain⟨i,rfl⟩:=Int.eq_ofNat_of_zero_le a0
 obtain⟨j,rfl⟩:=Int.eq_ofNat_of_zero_le n0
 exact GR p i j k w (by omega) (by omega)
theorem Kr (p:Nat) (M:MM) (N:Int) (a n:Int) (w:World) (h:HM p M N w) (hM:bQ M) (h0:0<n) (h8:n≤8) (a0:0≤a) (ha:a<4294967296) (hs:aQ M 4 a n.toNat=none):
  Calls Tryz.prog 82 #[.pointer (some ⟨p,0,none⟩), .int .u32 a, .int .i64 n] w fun e w'=>∃v,e= .returned (.tuple #[v, .agg #[.int .i64 0, .int .u32 0]])∧Own w.heap.size v (tZ M a.toNat n.toNat) w'∧Below w.heap.size w w':=by
 have HB:=κ (fun w h=>gY p M N a n 4 w h hM (.inr (.inr rfl)) (by omega) (by omega) (by omega))
 rw [hs] at HB
 simp only [srV] at HB
 have q0:=(iF (by omega) (by omega) hs 0 (by omega) (by omega)).2
 have q1:=(iF (by omega) (by omega) hs (n-1).toNat (by omega) (by omega)).2
 have k0:¬n<0:=by omega
 have k1:¬8<n:=by omega
 have k2:(n==0)=false:=by rw [beq_eq_false_iff_ne];omega
 have k3:a<65536:=by omega
 have k4:a+n≤65536:=by omega
 have b0:=Below.refl w.heap.size w
 have HH:=κ (fun o=>h.upto ((ah.refl (fun _=>False) w).alloc o) id)
 have HC:=κ (fun o=>show∀j,j<(tZ M a.toNat n.toNat).length→(w.alloc o).cell? ⟨p,a.toNat+j,none⟩=some (.int .u8 ((tZ M a.toNat n.toNat).getD j 0)) from fun j hj=>by
  rw [uO] at hj
  rw [Fh M a.toNat n.toNat j hj];exact(h.upto ((ah.refl (fun _=>False) w).alloc o) id).1 _ (by omega))
 have HL:=κ (uO M a.toNat n.toNat)
 have hr:=Dv p a n .u32 (w.alloc (.cells #[.int .i64 0, .int .u32 0] 55)) (by omega) (by omega) (by omega) (by omega)
 have hp:=h.2.2.2.2.2.2
 clear h hM hs q0 q1
 go_enter Tryz.func82,Tryz.ntmps82
 go_wp2_with (first
  | (go_at_call 111;refine(HB.out _ (HH.out _)).mono ?_;rintro e w' ⟨rfl,rfl⟩)
  | (at_builtin;refine VD rfl (.tmp 38) rfl (tZ M a.toNat n.toNat) p a.toNat n.toNat (65536-a.toNat) rfl HL.out (HC.out _) (by rw [HL.out];omega) ?_;intro v w1 hv hb;have R1:=κ ((Rs.new w w.heap.size rfl).upto (ah.ak (S:=fun _=>False) hb) id);obtain⟨g0,g1,g2,g3,g4⟩:=R1.out;have B1:=κ (cZ hb);have HV:=κ hv;clear hb hv))
 refine bodyPost_ret (v:= .tuple #[v, .agg #[.int .i64 0, .int .u32 0]]) (by simp [results,Tryz.results82,go_sem,g0,g1,g4]) rfl ⟨v,rfl, ?_, ?_⟩
 ·exact((HV.out.below (by simp) _).below (by simp) _).mono (by simp)
 ·exact(B1.out.setCell (Nat.le_refl _) _).setCell (Nat.le_refl _) _
theorem gJ (p:Nat) (M:MM) (a n:Int) (w:World) (h:HC p M w) (hM:bQ M) (a0:0≤a) (a1:a<4294967296):
  Calls Tryz.prog 82 #[.pointer (some ⟨p,0,none⟩), .int .u32 a, .int .i64 n] w fun e w'=>∃v,e= .returned (.tuple #[v,stpV 4 (bY M a n)])∧Own w.heap.size v (fB M a n) w'∧Below w.heap.size w w':=by
 unfold fB bY
 by_cases hn:0≤n∧n≤8
 ·rw [if_pos hn,if_pos hn]
  obtain⟨o,ho⟩:∃o,aQ M 4 a n.toNat=o:=⟨_,rfl⟩
  rw [ho]
  rcases o with _ | x
  ·simp only [Option.isNone_none,if_true,stpV]
   by_cases h0:n=0
   ·subst h0
    refine(Du p M _ a w h hM a0 a1).mono ?_
    rintro e w' ⟨rfl,hb⟩
    exact⟨_,rfl,Own.nil _ _,hb⟩
   ·exact Kr p M _ a n w h hM (by omega) (by omega) a0 a1 ho
  ·simp only [Option.isNone_some,Bool.false_eq_true,if_false,stpV]
   refine(GU p M _ a n x w h hM a0 a1 (by omega) (by omega) ho).mono ?_
   rintro e w' ⟨rfl,hb⟩
   exact⟨_,rfl,Own.nil _ _,hb⟩
 ·rw [if_neg hn,if_neg hn]
  refine(Kq p a n w (by omega)).mono ?_
  rintro e w' ⟨rfl,hb⟩
  exact⟨_,rfl,Own.nil _ _,hb⟩
def ZK (f:Nat→Int):Nat→List Int→Nat→Int
 | _, []=>f
 | at_,b::bs=>ZK (aF f at_ b) (at_+1) bs
def Ak (M:MM):Nat→Nat→MM
 | _,0=>M
 | at_,k+1=>Ak (l7 M (at_/256)) (at_+1) k
theorem GX (M:MM) (at_ k:Nat):Ak M at_ (k+1)=l7 (Ak M at_ k) ((at_+k)/256):=by
 induction k generalizing M at_ with
 | zero=>rfl
 | succ k ih=>
  show Ak (l7 M (at_/256)) (at_+1) (k+1)=_
  rw [ih]
  show _=l7 (Ak (l7 M (at_/256)) (at_+1) k) _
  rw [show at_+1+k=at_+(k+1) by omega]
theorem Ku (M:MM) (at_:Nat) (us:List Int):pk M at_ us=Ak {M with fD:=ZK M.fD at_ us} at_ us.length:=by
 induction us generalizing M at_ with
 | nil=>rfl
 | cons b bs ih=>
  show pk (l7 {M with fD:=aF M.fD at_ b} (at_/256)) (at_+1) bs=Ak (l7 {M with fD:=ZK (aF M.fD at_ b) (at_+1) bs} (at_/256)) (at_+1) bs.length
  rw [ih]
  congr 1
  exact(by unfold l7;split<;>rfl)
theorem HC.setCells {p:Nat} {W:World} (us:List Int):∀ (M:MM) (at_:Nat) (W:World),HC p M W→at_+us.length≤65536→HC p {M with fD:=ZK M.fD at_ us} (W.setCells p at_ (us.map (Value.int .u8))):=by
 induction us with
 | nil=>exact fun M at_ W h _=>h
 | cons b bs ih=>
  intro M at_ W h hl
  rw [List.length_cons] at hl
  exact ih {M with fD:=aF M.fD at_ b} (at_+1) _ (h.put at_ (by omega) b) (by omega)
theorem ah.setCells {S:Nat→Prop} {a:World} {p:Nat} (hp:S p) (us:List Value):∀ (w:World) (at_:Nat),ah S a w→ah S a (w.setCells p at_ us):=by
 induction us with
 | nil=>exact fun w at_ h=>h
 | cons b bs ih=>exact fun w at_ h=>ih _ _ (h.setCell (q:=⟨p,at_,none⟩) (.inl hp) b)
theorem uf (p:Nat) (a:Int) (w:World) (a0:0≤a) (ha:a<65536):
  (Instr.sliceAt 153 (.pointer (some ⟨p,0,none⟩)) (some (.int .i64 a)) none none).run Tryz.prog w= .ok (.slice (some ⟨p,a.toNat,none⟩) (65536-a.toNat) (65536-a.toNat)) w:=by
 obtain⟨f1,f2,f3,f4⟩:=sS
 rw [run_sliceAt_array_l w 153 ⟨p,0,none⟩ f2 .i64 a (by omega) (by rw [f1];omega),f3,f4,f1]
 simp only [Result.andThen,slicedAt]
 rw [if_neg (by omega)]
 have e:(⟨p,0,none⟩:Addr).add (a.toNat*1)=⟨p,a.toNat,none⟩:=by rw [Addr.add_lit];simp
 rw [e]
theorem Kv (p a:Nat) (us:List Int) (b off cap:Nat) (M:MM) (w:World) (h:HC p M w) (ha:a+us.length≤65536) (hc:∀j,j<us.length→w.cell? ⟨b,off+j,none⟩=some (.int .u8 (us.getD j 0))):
  (Builtin.copy_ #[34,34] 3 #[.slice (some ⟨p,a,none⟩) (65536-a) (65536-a), .slice (some ⟨b,off,none⟩) us.length cap]).run Tryz.prog w= .ok (goInt us.length) (w.setCells p a (us.map (Value.int .u8))):=by
 have hs:(Tryz.prog.info? 5).map (·.size)=some 1:=by
  obtain⟨i,hi,hz,hs,hb⟩:=Gu.og
  rw [hi,Option.map_some,hs]
 have hr:=run_copy_cells (P:=Tryz.prog) w 34 34 3 5 p a (65536-a) (65536-a) ⟨b,off,none⟩ us.length cap (us.map (Value.int .u8)) Tryz.underlying34 hs
  (by rw [List.length_map];exact(Nat.min_eq_left (by omega)).symm) (fun j v hj=> ?_) (fun j hj=> ?_) (fun j hj=>h.2.2.2.2.2.1 _) (fun v hv=> ?_)
 ·rw [List.length_map] at hr;exact hr
 ·rw [List.getElem?_map] at hj
  obtain⟨z,hz,rfl⟩:=Option.map_eq_some_iff.1 hj
  have dh:=(List.getElem?_eq_some_iff.1 hz).1
  rw [Addr.add_lit,hc j dh,List.getD_eq_getElem?_getD,hz];rfl
 ·rw [List.length_map] at hj
  rw [h.1 (a+j) (by omega)];rfl
 ·obtain⟨z,_,rfl⟩:=List.mem_map.1 hv
  rfl
theorem Qy (p:Nat) (a:Int) (ao:Option Addr) (n cap:Nat) (w:World) (hn:¬ (0≤a∧0≤(n:Int)∧a≤65536∧(n:Int)≤65536-a)):
  Calls Tryz.prog 47 #[.pointer (some ⟨p,0,none⟩), .int .i64 a, .slice ao n cap] w fun e w'=>e= .returned (.int .i64 4)∧w=w':=by
 have HI:=κ (ZJ a n hn)
 clear hn
 go_enter Tryz.func47,Tryz.ntmps47
 go_wp2_with (go_at_call 77;refine(HI.out _).mono ?_;rintro e w' ⟨rfl,rfl⟩)
 go_ret
 exact⟨rfl,rfl⟩
theorem Qz (p:Nat) (M:MM) (a:Int) (us:List Int) (b off cap:Nat) (w:World) (h:HC p M w) (a0:0≤a) (ha:a<65536) (hn:a+us.length≤65536) (h0:0<us.length)
  (hc:∀j,j<us.length→w.cell? ⟨b,off+j,none⟩=some (.int .u8 (us.getD j 0))):
  Calls Tryz.prog 47 #[.pointer (some ⟨p,0,none⟩), .int .i64 a, .slice (some ⟨b,off,none⟩) us.length cap] w fun e w'=>e= .returned (.int .i64 0)∧HC p (pk M a.toNat us) w'∧ah (fun i=>i=p) w w':=by
 have HI:=κ (Ur a us.length (by omega))
 have hs:=uf p a w a0 ha
 have hcp:=Kv p a.toNat us b off cap M w h (by omega) hc
 have H1:=κ (HC.setCells (W:=w) us M a.toNat w h (by omega))
 have U1:=κ (ah.setCells (S:=fun i=>i=p) rfl (us.map (Value.int .u8)) w a.toNat (ah.refl _ w))
 rw [Ku]
 obtain⟨L,hL⟩:∃L,us.length=L:=⟨_,rfl⟩
 rw [hL] at hcp hn HI h0⊢
 generalize w.setCells p a.toNat (us.map (Value.int .u8))=W1 at hcp H1 U1
 generalize({M with fD:=ZK M.fD a.toNat us}:MM)=M1 at H1⊢
 clear hL hc h
 go_enter Tryz.func47,Tryz.ntmps47
 go_wp2_with (go_at_call 77;refine(HI.out _).mono ?_;rintro e w' ⟨rfl,rfl⟩)
 go_loopg [22] L (fun g i wr=>∃k:Nat,g=L-k∧k≤L∧i= .int .i64 k∧Hid (HC p (Ak M1 a.toNat k) wr)∧Hid (ah (fun i=>i=p) w wr))
 case atStart=>exact⟨0,rfl,Nat.zero_le _,rfl,H1,U1⟩
 case round=>
  obtain⟨k,hg,hk,rfl,HR,UR⟩:=hrel
  by_cases dh:k<L
  ·have pF:(k:Int) <(L:Int):=by omega
   have e0:0≤(a+(k:Int))/256:=by omega
   have e1:(a+(k:Int))/256<256:=by omega
   have e2:a+(k:Int) <65536:=by omega
   go_wp2_with (go_at_call 78;refine(jX p _ _ e0 e1 _ HR.out).mono ?_;rintro e w2 ⟨rfl,h2,o2⟩)
   go_roundg (L-(k+1))
   case measure=>omega
   case rel=>
    refine⟨k+1,rfl,by omega,by simp, ?_,ah.trans UR.out o2⟩
    have e3:((a+(k:Int))/256).toNat=(a.toNat+k)/256:=by omega
    rw [e3] at h2
    exact(GX M1 a.toNat k)▸h2
  ·obtain rfl:k=L:=by omega
   go_wp2
   go_ret
   exact⟨rfl,HR.out,UR.out⟩
theorem GY (p:Nat) (a:Int) (ao:Option Addr) (cap:Nat) (w:World) (a0:0≤a) (ha:a≤65536):
  Calls Tryz.prog 47 #[.pointer (some ⟨p,0,none⟩), .int .i64 a, .slice ao 0 cap] w fun e w'=>e= .returned (.int .i64 0)∧w=w':=by
 have HI:=κ (Ur a 0 (by omega))
 have jW:(Tryz.prog.info? 5).map (·.size)=some 1:=by
  obtain⟨i,hi,hz,hs,hb⟩:=Gu.og
  rw [hi,Option.map_some,hs]
 have ZL:=fun d dl dc=>run_copy_none (P:=Tryz.prog) w 34 34 3 5 d ao dl dc 0 cap Tryz.underlying34 jW (Nat.zero_min _)
 by_cases he:a<65536
 ·have hs:=uf p a w a0 he
  have aek:=ZL (some ⟨p,a.toNat,none⟩) (65536-a.toNat) (65536-a.toNat)
  clear ZL jW
  go_enter Tryz.func47,Tryz.ntmps47
  go_wp2_with (go_at_call 77;refine(HI.out _).mono ?_;rintro e w' ⟨rfl,rfl⟩)
  refine wp_loop_rounds 1 ?_
  rw [rounds_succ];go_wp2
  go_ret
  exact⟨rfl,rfl⟩
 ·obtain rfl:a=65536:=by omega
  have aek:=ZL (some ⟨p,0,none⟩) 0 0
  have hs:(Instr.sliceAt 153 (.pointer (some ⟨p,0,none⟩)) (some (.int .i64 65536)) none none).run Tryz.prog w= .ok (.slice (some ⟨p,0,none⟩) 0 0) w:=by
   obtain⟨f1,f2,f3,f4⟩:=sS
   rw [run_sliceAt_array_l w 153 ⟨p,0,none⟩ f2 .i64 65536 (by omega) (by rw [f1];omega),f3,f4,f1]
   simp only [Result.andThen,slicedAt]
   rw [if_pos (by rfl)]
   rfl
  clear ZL jW
  go_enter Tryz.func47,Tryz.ntmps47
  go_wp2_with (go_at_call 77;refine(HI.out _).mono ?_;rintro e w' ⟨rfl,rfl⟩)
  refine wp_loop_rounds 1 ?_
  rw [rounds_succ];go_wp2
  go_ret
  exact⟨rfl,rfl⟩
def yx (M:MM) (a:Int) (us:List Int):MM:=if YP a us.length then pk M a.toNat us else M
theorem Am (p:Nat) (M:MM) (a:Int) (us:List Int) (ao:Option Addr) (cap:Nat) (w:World) (h:HC p M w) (hB:Gu.Bs us ao cap w):
  Calls Tryz.prog 47 #[.pointer (some ⟨p,0,none⟩), .int .i64 a, .slice ao us.length cap] w fun e w'=>e= .returned (.int .i64 (inE a us.length))∧HC p (yx M a us) w'∧ah (fun i=>i=p) w w':=by
 unfold yx inE
 by_cases hi:YP a us.length=true
 ·rw [if_pos hi,if_pos hi]
  obtain⟨h1,h2,h3,h4⟩:=(uP _ _).1 hi
  by_cases h0:us.length=0
  ·obtain rfl:us= []:=List.length_eq_zero_iff.1 h0
   refine(GY p a ao cap w h1 h3).mono ?_
   rintro e w' ⟨rfl,rfl⟩
   exact⟨rfl,h,ah.refl _ _⟩
  ·obtain⟨b,off,rfl,hb,hc⟩:=hB.2.2 (by omega)
   exact Qz p M a us b off cap w h h1 (by omega) (by omega) (by omega) hc
 ·have VE:=hi
  rw [if_neg hi,if_neg hi]
  rw [uP] at VE
  refine(Qy p a ao us.length cap w VE).mono ?_
  rintro e w' ⟨rfl,rfl⟩
  exact⟨rfl,h,ah.refl _ _⟩
theorem Kw (q:Nat) (a:Int) (ao:Option Addr) (n cap:Nat) (w:World) (ha: -9223372036854775808≤a) (hn:¬ (0≤a∧0≤(n:Int)∧a≤65536∧(n:Int)≤65536-a)):
  Calls Tryz.prog 48 #[.pointer (some ⟨q,0,none⟩), .int .i64 a, .slice ao n cap] w fun e w'=>e= .returned (.int .i64 4)∧w=w':=by
 rcases(show a<0∨(¬a<0∧65536<a)∨(¬a<0∧¬65536<a∧65536-a<n) by omega) with h1 | ⟨h1,h2⟩ | ⟨h1,h2,h4⟩
 all_goals clear hn
 all_goals go_enter Tryz.func48,Tryz.ntmps48
 all_goals go_wp2
 all_goals go_ret
 all_goals exact⟨rfl,rfl⟩
theorem QA (M:MM) (at_:Nat) (us:List Int) (b:Int):pk M at_ (us++ [b])=YN (pk M at_ us) (at_+us.length) b:=by
 induction us generalizing M at_ with
 | nil=>rfl
 | cons x xs ih=>
  show pk (l7 _ _) (at_+1) (xs++ [b])=_
  rw [ih]
  show _=YN (pk (l7 _ _) (at_+1) xs) (at_+(xs.length+1)) b
  rw [show at_+1+xs.length=at_+(xs.length+1) by omega]
theorem Dw (us:List Int) (k:Nat) (h:k<us.length):us.take (k+1)=us.take k++ [us.getD k 0]:=by
 rw [List.take_succ_eq_append_getElem h,List.getD_eq_getElem?_getD,List.getElem?_eq_getElem h];rfl
theorem Ky (P:RP) (M:MM) (a:Int) (us:List Int) (b off cap:Nat) (w:World) (h:RM P M w) (a0:0≤a) (hn:a+us.length≤65536) (hb:b<w.heap.size) (hP:¬P.has b)
  (hc:∀j,j<us.length→w.cell? ⟨b,off+j,none⟩=some (.int .u8 (us.getD j 0))):
  Calls Tryz.prog 48 #[.pointer (some ⟨P.q,0,none⟩), .int .i64 a, .slice (some ⟨b,off,none⟩) us.length cap] w fun e w'=>e= .returned (.int .i64 0)∧RM P (pk M a.toNat us) w'∧ah P.S w w':=by
 have h1:¬a<0:=by omega
 have h2:¬65536<a:=by omega
 have h3:¬65536-a<(us.length:Int):=by omega
 have HH:=κ h
 have YQ:=κ hc
 have HP:=κ hP
 have HC:=κ (rJ P)
 obtain⟨L,hL⟩:∃L,us.length=L:=⟨_,rfl⟩
 rw [hL] at hn h3⊢
 have HL:=κ hL
 clear h hc hP hL
 go_enter Tryz.func48,Tryz.ntmps48
 go_wp2
 go_loopg [24] L (fun g i wr=>∃k:Nat,g=L-k∧k≤L∧i= .int .i64 k∧Hid (RM P (pk M a.toNat (us.take k)) wr)∧Hid (ah P.S w wr))
 case atStart=>exact⟨0,rfl,Nat.zero_le _,rfl,HH.out,ah.refl _ _⟩
 case round=>
  obtain⟨k,hg,hk,rfl,HR,UR⟩:=hrel
  by_cases dh:k<L
  ·have pF:(k:Int) <(L:Int):=by omega
   have e0:0≤(a+(k:Int))/256:=by omega
   have e1:(a+(k:Int))/256<256:=by omega
   have e2:a+(k:Int) <65536:=by omega
   have e3:0≤a+(k:Int):=by omega
   have q0:=HR.out.wY
   obtain⟨⟨u,cu⟩,zu⟩:=HR.out.facts (a+k) e2
   have cs:=(UR.out.cell (q:=⟨b,off+k,none⟩) hb HP.out).trans (YQ.out k (by rw [HL.out];exact dh))
   have H2:=κ (HR.out.rH (a+k).toNat (by omega) (us.getD k 0))
   have hts:=κ (Dw us k (by rw [HL.out];exact dh))
   have hln:(us.take k).length=k:=by rw [List.length_take];have:=HL.out;omega
   have HLN:=κ hln
   clear hln
   generalize us.getD k 0=x at cs H2 hts
   go_wp2_with (go_at_call 79;refine(HC.out _ _ e0 e1 _ H2.out).mono ?_;rintro e w2 ⟨rfl,h2,o2⟩)
   go_roundg (L-(k+1))
   case measure=>omega
   case rel=>
    refine⟨k+1,rfl,by omega,by simp, ?_,ah.trans (UR.out.setCell (q:=⟨P.b,(a+k).toNat,none⟩) (.inl (.inr (.inl rfl))) _) o2⟩
    rw [rM _ a k k _ a0 rfl] at h2
    show RM P (pk M a.toNat (us.take (k+1))) w2
    rw [hts.out,QA,HLN.out]
    exact h2
  ·have hkl:k=L:=by omega
   have HK:=κ hkl
   have ZB:¬ (k:Int) <(L:Int):=by omega
   clear hkl dh
   go_wp2
   go_ret
   refine⟨rfl, ?_,UR.out⟩
   have:=HR.out
   rw [HK.out,←HL.out,List.take_length] at this
   exact this
theorem Dx (P:RP) (a:Int) (ao:Option Addr) (cap:Nat) (w:World) (a0:0≤a) (ha:a≤65536):
  Calls Tryz.prog 48 #[.pointer (some ⟨P.q,0,none⟩), .int .i64 a, .slice ao 0 cap] w fun e w'=>e= .returned (.int .i64 0)∧w=w':=by
 have h1:¬a<0:=by omega
 have h2:¬65536<a:=by omega
 have h3:¬65536-a<0:=by omega
 go_enter Tryz.func48,Tryz.ntmps48
 go_wp2
 refine wp_loop_rounds 1 ?_
 rw [rounds_succ];go_wp2
 go_ret
 exact⟨rfl,rfl⟩
theorem xO (P:RP) (M:MM) (a:Int) (us:List Int) (ao:Option Addr) (cap:Nat) (w:World) (h:RM P M w) (ha: -9223372036854775808≤a) (hB:Gu.Bs us ao cap w) (dR:∀g,ao=some g→0<us.length→¬P.has g.block):
  Calls Tryz.prog 48 #[.pointer (some ⟨P.q,0,none⟩), .int .i64 a, .slice ao us.length cap] w fun e w'=>e= .returned (.int .i64 (inE a us.length))∧RM P (yx M a us) w'∧ah P.S w w':=by
 unfold yx inE
 by_cases hi:YP a us.length=true
 ·rw [if_pos hi,if_pos hi]
  obtain⟨h1,h2,h3,h4⟩:=(uP _ _).1 hi
  by_cases h0:us.length=0
  ·obtain rfl:us= []:=List.length_eq_zero_iff.1 h0
   refine(Dx P a ao cap w h1 h3).mono ?_
   rintro e w' ⟨rfl,rfl⟩
   exact⟨rfl,h,ah.refl _ _⟩
  ·obtain⟨b,off,rfl,hb,hc⟩:=hB.2.2 (by omega)
   exact Ky P M a us b off cap w h h1 (by omega) hb (dR _ rfl (by omega)) hc
 ·have VE:=hi
  rw [if_neg hi,if_neg hi]
  rw [uP] at VE
  refine(Kw P.q a ao us.length cap w ha VE).mono ?_
  rintro e w' ⟨rfl,rfl⟩
  exact⟨rfl,h,ah.refl _ _⟩
end Go.Proofs.YtcjcmnnhmajocabGreat.Me
