import Derived.Deep.RegionLaw
import Derived.Deep.OwnRows
import Derived.Deep.RegionHeld3
import Derived.Test.YtcjcmnnhmajocabPmac
set_option linter.unusedVariables false
set_option linter.unusedSimpArgs false
set_option maxRecDepth 100000
set_option maxHeartbeats 16000000
namespace Go.Proofs.Ytcjcmnnhmajocab.Me
open Go.RowKit Kt
theorem RM.facts {P:RP} {M:MM} {W:World} (h:RM P M W) (k:Int) (k1:k<65536):(∃u,W.cell? ⟨P.b,k.toNat,none⟩=some u)∧W.frozen? ⟨P.b,k.toNat,none⟩=false:=
 ⟨⟨_,h.hb k.toNat (by omega)⟩,h.zb _⟩
theorem Dt (q:Nat) (a n v:Int) (w:World) (hn:¬ (n=1∨n=2∨n=4)):
  Calls Try.prog 107 #[.pointer (some ⟨q,0,none⟩), .int .u32 a, .int .i64 n, .int .u32 v] w fun e w'=>e= .returned (.agg #[.int .i64 0, .int .u32 0])∧Below w.heap.size w w':=by
 have b0:=Below.refl w.heap.size w
 have e1:(n !=1)=true:=by rw [bne_iff_ne];omega
 have e2:(n !=2)=true:=by rw [bne_iff_ne];omega
 have e4:(n !=4)=true:=by rw [bne_iff_ne];omega
 clear hn
 go_enter Try.func107,Try.ntmps107
 go_wp2
 refine bodyPost_ret (v:= .agg #[.int .i64 0, .int .u32 0]) (by simp [results,Try.results107,go_sem]) rfl ⟨rfl, ?_⟩
 exact b0.alloc (Nat.le_refl _) _
theorem zU (P:RP) (M:MM) (a v x:Int) (w:World) (h:RM P M w) (hM:iC M) (a0:0≤a) (a1:a<4294967296) (hs:cO M 2 a 1=some x):
  Calls Try.prog 107 #[.pointer (some ⟨P.q,0,none⟩), .int .u32 a, .int .i64 1, .int .u32 v] w fun e w'=>e= .returned (.agg #[.int .i64 6, .int .u32 x])∧Below w.heap.size w w':=by
 have HB:=κ (fun w h=>vC P M a 1 2 6 w h hM (.inr (.inl rfl)) a0 a1 (by omega))
 rw [show(1:Int).toNat=1 from rfl,hs] at HB
 simp only [iO] at HB
 have HH:=κ (fun o=>h.upto ((ah.refl (fun _=>False) w).alloc o) (fun _ _=>id))
 clear h hM hs
 go_enter Try.func107,Try.ntmps107
 go_wp2_with (go_at_call 162;refine(HB.out _ (HH.out _)).mono ?_;rintro e w1 ⟨rfl,aQ⟩;obtain⟨g0,g1,g2,g3,g4⟩:=Rs.iP aQ;have B1:=κ (fB aQ);clear aQ)
 refine bodyPost_ret (v:= .agg #[.int .i64 6, .int .u32 x]) (by simp [results,Try.results107,go_sem,g0,g1,g4]) rfl ⟨rfl, ?_⟩
 exact((B1.out.setCell (Nat.le_refl _) _).setCell (Nat.le_refl _) _).alloc (by simpa using B1.out.size) _
theorem KG (P:RP) (M:MM) (a v:Int) (w:World) (h:RM P M w) (hM:iC M) (a0:0≤a) (a1:a<4294967296) (v0:0≤v) (v1:v<4294967296) (hs:cO M 2 a 1=none):
  Calls Try.prog 107 #[.pointer (some ⟨P.q,0,none⟩), .int .u32 a, .int .i64 1, .int .u32 v] w fun e w'=>e= .returned (.agg #[.int .i64 0, .int .u32 0])∧RM P (pk M a.toNat (WE 1 v)) w'∧ah P.S w w':=by
 have HB:=κ (fun w h=>vC P M a 1 2 6 w h hM (.inr (.inl rfl)) a0 a1 (by omega))
 rw [show(1:Int).toNat=1 from rfl,hs] at HB
 simp only [iO] at HB
 have HH:=κ (fun o=>h.upto ((ah.refl (fun _=>False) w).alloc o) (fun _ _=>id))
 have p0:=(rZ a0 a1 hs 0 (by omega) (by omega)).2
 have b0:a<65536:=by omega
 have HI:=κ h
 have HC:=κ (qJ P)
 have lq:=h.lq
 have lb:=h.lb
 have hX:¬P.S w.heap.size:=by
  have:=h.lr;have:=h.lm;have:=h.lt
  rintro(h | h | h | h | h) <;>omega
 have HP:=κ h
 have JA:P.S P.b:= .inr (.inl rfl)
 obtain⟨pq,KH⟩:∃x,P.q=x:=⟨_,rfl⟩
 obtain⟨pb,vG⟩:∃x,P.b=x:=⟨_,rfl⟩
 rw [KH] at lq HB HC⊢
 rw [vG] at lb JA
 have HQ:=κ KH
 have Cb:=κ vG
 clear h hM hs p0 KH vG
 go_enter Try.func107,Try.ntmps107
 go_wp2_with (go_at_call 162;refine(HB.out _ (HH.out _)).mono ?_;rintro e w0 ⟨rfl,aQ⟩;have VE:=κ (Rs.iP aQ);have B1:=κ (fB aQ);have tN:=κ (HP.out.upto (ah.aG (S:=fun _=>False) B1.out) (fun _ _=>id));clear aQ;have q0:=tN.out.wO;obtain⟨⟨u0,k0⟩,z0⟩:=tN.out.facts a (by omega);rw [Cb.out] at k0 z0 q0;rw [HQ.out] at q0;have lq0:=Nat.lt_of_lt_of_le lq B1.out.size;have lb0:=Nat.lt_of_lt_of_le lb B1.out.size;have hY:=κ (Below.size B1.out))
 have Qx:¬P.S w0.heap.size:=by
  have:=tN.out.lq;have:=tN.out.lb;have:=tN.out.lr;have:=tN.out.lm;have:=tN.out.lt
  rintro(h | h | h | h | h) <;>omega
 have JB:¬w.heap.size=pb:=by omega
 have Zy:¬w0.heap.size=pb:=by omega
 have hXY:¬w.heap.size=w0.heap.size:=by have:=VE.out.2.2.2.2;omega
 refine wp_loop_rounds 2 ?_
 rw [rounds_succ];go_wp2_with fail
 refine(HC.out _ _ (by omega) (by omega) _ (((Cb.out▸tN.out.zM a.toNat (by omega) (v%256)).upto ((ah.refl (fun _=>False) _).alloc _) (fun _ _=>id)))).mono ?_
 rintro e w1 ⟨rfl,h1,o1⟩
 rw [Dl _ a _ a0] at h1
 have RX1:=κ (((VE.out.put JB).upto ((ah.refl (fun _=>False) _).alloc _) id).upto o1 hX)
 have RY1:=κ ((Rs.new (w0.setCell ⟨pb,a.toNat,none⟩ (.int .u8 (v%256))) w0.heap.size (by simp)).upto o1 Qx)
 have U1:=κ (ah.trans (((ah.aG B1.out).setCell (q:=⟨pb,(a).toNat,none⟩) (.inl JA) (.int .u8 (v%256))).alloc (.cells #[.int .i64 0, .int .u32 0] 46)) o1)
 have HH1:=κ h1
 obtain⟨g0,g1,g2,g3,g4⟩:=RX1.out
 obtain⟨f0,f1,f2,f3,f4⟩:=RY1.out
 clear h1 o1
 go_wp2
 rw [rounds_succ];go_wp2
 refine bodyPost_ret (v:= .agg #[.int .i64 0, .int .u32 0]) (by simp [results,Try.results107,go_sem,g0,g1,g4]) rfl ⟨rfl, ?_, ?_⟩
 ·exact HH1.out.upto (S:=fun i=>i=w.heap.size) (((ah.refl (fun i=>i=w.heap.size) _).setCell (q:=⟨w.heap.size,0,none⟩) (.inl rfl) (.int .i64 0)).setCell (q:=⟨w.heap.size,1,none⟩) (.inl rfl) (.int .u32 0)) (fun k hk h=>hX (h▸hk))
 ·exact(U1.out.setCell (q:=⟨w.heap.size,0,none⟩) (.inr (Nat.le_refl _)) _).setCell (q:=⟨w.heap.size,1,none⟩) (.inr (Nat.le_refl _)) _
theorem zV (P:RP) (M:MM) (a v x:Int) (w:World) (h:RM P M w) (hM:iC M) (a0:0≤a) (a1:a<4294967296) (hs:cO M 2 a 2=some x):
  Calls Try.prog 107 #[.pointer (some ⟨P.q,0,none⟩), .int .u32 a, .int .i64 2, .int .u32 v] w fun e w'=>e= .returned (.agg #[.int .i64 6, .int .u32 x])∧Below w.heap.size w w':=by
 have HB:=κ (fun w h=>vC P M a 2 2 6 w h hM (.inr (.inl rfl)) a0 a1 (by omega))
 rw [show(2:Int).toNat=2 from rfl,hs] at HB
 simp only [iO] at HB
 have HH:=κ (fun o=>h.upto ((ah.refl (fun _=>False) w).alloc o) (fun _ _=>id))
 clear h hM hs
 go_enter Try.func107,Try.ntmps107
 go_wp2_with (go_at_call 162;refine(HB.out _ (HH.out _)).mono ?_;rintro e w1 ⟨rfl,aQ⟩;obtain⟨g0,g1,g2,g3,g4⟩:=Rs.iP aQ;have B1:=κ (fB aQ);clear aQ)
 refine bodyPost_ret (v:= .agg #[.int .i64 6, .int .u32 x]) (by simp [results,Try.results107,go_sem,g0,g1,g4]) rfl ⟨rfl, ?_⟩
 exact((B1.out.setCell (Nat.le_refl _) _).setCell (Nat.le_refl _) _).alloc (by simpa using B1.out.size) _
theorem KI (P:RP) (M:MM) (a v:Int) (w:World) (h:RM P M w) (hM:iC M) (a0:0≤a) (a1:a<4294967296) (v0:0≤v) (v1:v<4294967296) (hs:cO M 2 a 2=none):
  Calls Try.prog 107 #[.pointer (some ⟨P.q,0,none⟩), .int .u32 a, .int .i64 2, .int .u32 v] w fun e w'=>e= .returned (.agg #[.int .i64 0, .int .u32 0])∧RM P (pk M a.toNat (WE 2 v)) w'∧ah P.S w w':=by
 have HB:=κ (fun w h=>vC P M a 2 2 6 w h hM (.inr (.inl rfl)) a0 a1 (by omega))
 rw [show(2:Int).toNat=2 from rfl,hs] at HB
 simp only [iO] at HB
 have HH:=κ (fun o=>h.upto ((ah.refl (fun _=>False) w).alloc o) (fun _ _=>id))
 have p0:=(rZ a0 a1 hs 1 (by omega) (by omega)).2
 have b0:a<65536:=by omega
 have b1:a+1<65536:=by omega
 have HI:=κ h
 have HC:=κ (qJ P)
 have lq:=h.lq
 have lb:=h.lb
 have hX:¬P.S w.heap.size:=by
  have:=h.lr;have:=h.lm;have:=h.lt
  rintro(h | h | h | h | h) <;>omega
 have HP:=κ h
 have JA:P.S P.b:= .inr (.inl rfl)
 obtain⟨pq,KH⟩:∃x,P.q=x:=⟨_,rfl⟩
 obtain⟨pb,vG⟩:∃x,P.b=x:=⟨_,rfl⟩
 rw [KH] at lq HB HC⊢
 rw [vG] at lb JA
 have HQ:=κ KH
 have Cb:=κ vG
 clear h hM hs p0 KH vG
 go_enter Try.func107,Try.ntmps107
 go_wp2_with (go_at_call 162;refine(HB.out _ (HH.out _)).mono ?_;rintro e w0 ⟨rfl,aQ⟩;have VE:=κ (Rs.iP aQ);have B1:=κ (fB aQ);have tN:=κ (HP.out.upto (ah.aG (S:=fun _=>False) B1.out) (fun _ _=>id));clear aQ;have q0:=tN.out.wO;obtain⟨⟨u0,k0⟩,z0⟩:=tN.out.facts a (by omega);rw [Cb.out] at k0 z0 q0;rw [HQ.out] at q0;have lq0:=Nat.lt_of_lt_of_le lq B1.out.size;have lb0:=Nat.lt_of_lt_of_le lb B1.out.size;have hY:=κ (Below.size B1.out))
 have Qx:¬P.S w0.heap.size:=by
  have:=tN.out.lq;have:=tN.out.lb;have:=tN.out.lr;have:=tN.out.lm;have:=tN.out.lt
  rintro(h | h | h | h | h) <;>omega
 have JB:¬w.heap.size=pb:=by omega
 have Zy:¬w0.heap.size=pb:=by omega
 have hXY:¬w.heap.size=w0.heap.size:=by have:=VE.out.2.2.2.2;omega
 refine wp_loop_rounds 3 ?_
 rw [rounds_succ];go_wp2_with fail
 refine(HC.out _ _ (by omega) (by omega) _ (((Cb.out▸tN.out.zM a.toNat (by omega) (v%256)).upto ((ah.refl (fun _=>False) _).alloc _) (fun _ _=>id)))).mono ?_
 rintro e w1 ⟨rfl,h1,o1⟩
 rw [Dl _ a _ a0] at h1
 have RX1:=κ (((VE.out.put JB).upto ((ah.refl (fun _=>False) _).alloc _) id).upto o1 hX)
 have RY1:=κ ((Rs.new (w0.setCell ⟨pb,a.toNat,none⟩ (.int .u8 (v%256))) w0.heap.size (by simp)).upto o1 Qx)
 have U1:=κ (ah.trans (((ah.aG B1.out).setCell (q:=⟨pb,(a).toNat,none⟩) (.inl JA) (.int .u8 (v%256))).alloc (.cells #[.int .i64 0, .int .u32 0] 46)) o1)
 have HH1:=κ h1
 obtain⟨⟨u1,k1⟩,z1⟩:=h1.facts (a+1) (by omega)
 have q1:=h1.wO
 rw [Cb.out] at k1 z1 q1;rw [HQ.out] at q1
 clear h1 o1
 go_wp2
 rw [rounds_succ];go_wp2_with fail
 refine(HC.out _ _ (by omega) (by omega) _ (Cb.out▸HH1.out.zM (a+1).toNat (by omega) (v/256%256))).mono ?_
 rintro e w2 ⟨rfl,h2,o2⟩
 rw [zL _ a 1 1 _ a0 rfl] at h2
 have RX2:=κ ((RX1.out.put JB).upto o2 hX)
 have RY2:=κ ((RY1.out.put Zy).upto o2 Qx)
 have U2:=κ (ah.trans (U1.out.setCell (q:=⟨pb,(a+1).toNat,none⟩) (.inl JA) (.int .u8 (v/256%256))) o2)
 have HH2:=κ h2
 obtain⟨g0,g1,g2,g3,g4⟩:=RX2.out
 obtain⟨f0,f1,f2,f3,f4⟩:=RY2.out
 clear h2 o2
 go_wp2
 rw [rounds_succ];go_wp2
 refine bodyPost_ret (v:= .agg #[.int .i64 0, .int .u32 0]) (by simp [results,Try.results107,go_sem,g0,g1,g4]) rfl ⟨rfl, ?_, ?_⟩
 ·exact HH2.out.upto (S:=fun i=>i=w.heap.size) (((ah.refl (fun i=>i=w.heap.size) _).setCell (q:=⟨w.heap.size,0,none⟩) (.inl rfl) (.int .i64 0)).setCell (q:=⟨w.heap.size,1,none⟩) (.inl rfl) (.int .u32 0)) (fun k hk h=>hX (h▸hk))
 ·exact(U2.out.setCell (q:=⟨w.heap.size,0,none⟩) (.inr (Nat.le_refl _)) _).setCell (q:=⟨w.heap.size,1,none⟩) (.inr (Nat.le_refl _)) _
theorem zW (P:RP) (M:MM) (a v x:Int) (w:World) (h:RM P M w) (hM:iC M) (a0:0≤a) (a1:a<4294967296) (hs:cO M 2 a 4=some x):
  Calls Try.prog 107 #[.pointer (some ⟨P.q,0,none⟩), .int .u32 a, .int .i64 4, .int .u32 v] w fun e w'=>e= .returned (.agg #[.int .i64 6, .int .u32 x])∧Below w.heap.size w w':=by
 have HB:=κ (fun w h=>vC P M a 4 2 6 w h hM (.inr (.inl rfl)) a0 a1 (by omega))
 rw [show(4:Int).toNat=4 from rfl,hs] at HB
 simp only [iO] at HB
 have HH:=κ (fun o=>h.upto ((ah.refl (fun _=>False) w).alloc o) (fun _ _=>id))
 clear h hM hs
 go_enter Try.func107,Try.ntmps107
 go_wp2_with (go_at_call 162;refine(HB.out _ (HH.out _)).mono ?_;rintro e w1 ⟨rfl,aQ⟩;obtain⟨g0,g1,g2,g3,g4⟩:=Rs.iP aQ;have B1:=κ (fB aQ);clear aQ)
 refine bodyPost_ret (v:= .agg #[.int .i64 6, .int .u32 x]) (by simp [results,Try.results107,go_sem,g0,g1,g4]) rfl ⟨rfl, ?_⟩
 exact((B1.out.setCell (Nat.le_refl _) _).setCell (Nat.le_refl _) _).alloc (by simpa using B1.out.size) _
theorem KJ (P:RP) (M:MM) (a v:Int) (w:World) (h:RM P M w) (hM:iC M) (a0:0≤a) (a1:a<4294967296) (v0:0≤v) (v1:v<4294967296) (hs:cO M 2 a 4=none):
  Calls Try.prog 107 #[.pointer (some ⟨P.q,0,none⟩), .int .u32 a, .int .i64 4, .int .u32 v] w fun e w'=>e= .returned (.agg #[.int .i64 0, .int .u32 0])∧RM P (pk M a.toNat (WE 4 v)) w'∧ah P.S w w':=by
 have HB:=κ (fun w h=>vC P M a 4 2 6 w h hM (.inr (.inl rfl)) a0 a1 (by omega))
 rw [show(4:Int).toNat=4 from rfl,hs] at HB
 simp only [iO] at HB
 have HH:=κ (fun o=>h.upto ((ah.refl (fun _=>False) w).alloc o) (fun _ _=>id))
 have p0:=(rZ a0 a1 hs 3 (by omega) (by omega)).2
 have b0:a<65536:=by omega
 have b1:a+1<65536:=by omega
 have b2:a+2<65536:=by omega
 have b3:a+3<65536:=by omega
 have HI:=κ h
 have HC:=κ (qJ P)
 have lq:=h.lq
 have lb:=h.lb
 have hX:¬P.S w.heap.size:=by
  have:=h.lr;have:=h.lm;have:=h.lt
  rintro(h | h | h | h | h) <;>omega
 have HP:=κ h
 have JA:P.S P.b:= .inr (.inl rfl)
 obtain⟨pq,KH⟩:∃x,P.q=x:=⟨_,rfl⟩
 obtain⟨pb,vG⟩:∃x,P.b=x:=⟨_,rfl⟩
 rw [KH] at lq HB HC⊢
 rw [vG] at lb JA
 have HQ:=κ KH
 have Cb:=κ vG
 clear h hM hs p0 KH vG
 go_enter Try.func107,Try.ntmps107
 go_wp2_with (go_at_call 162;refine(HB.out _ (HH.out _)).mono ?_;rintro e w0 ⟨rfl,aQ⟩;have VE:=κ (Rs.iP aQ);have B1:=κ (fB aQ);have tN:=κ (HP.out.upto (ah.aG (S:=fun _=>False) B1.out) (fun _ _=>id));clear aQ;have q0:=tN.out.wO;obtain⟨⟨u0,k0⟩,z0⟩:=tN.out.facts a (by omega);rw [Cb.out] at k0 z0 q0;rw [HQ.out] at q0;have lq0:=Nat.lt_of_lt_of_le lq B1.out.size;have lb0:=Nat.lt_of_lt_of_le lb B1.out.size;have hY:=κ (Below.size B1.out))
 have Qx:¬P.S w0.heap.size:=by
  have:=tN.out.lq;have:=tN.out.lb;have:=tN.out.lr;have:=tN.out.lm;have:=tN.out.lt
  rintro(h | h | h | h | h) <;>omega
 have JB:¬w.heap.size=pb:=by omega
 have Zy:¬w0.heap.size=pb:=by omega
 have hXY:¬w.heap.size=w0.heap.size:=by have:=VE.out.2.2.2.2;omega
 refine wp_loop_rounds 5 ?_
 rw [rounds_succ];go_wp2_with fail
 refine(HC.out _ _ (by omega) (by omega) _ (((Cb.out▸tN.out.zM a.toNat (by omega) (v%256)).upto ((ah.refl (fun _=>False) _).alloc _) (fun _ _=>id)))).mono ?_
 rintro e w1 ⟨rfl,h1,o1⟩
 rw [Dl _ a _ a0] at h1
 have RX1:=κ (((VE.out.put JB).upto ((ah.refl (fun _=>False) _).alloc _) id).upto o1 hX)
 have RY1:=κ ((Rs.new (w0.setCell ⟨pb,a.toNat,none⟩ (.int .u8 (v%256))) w0.heap.size (by simp)).upto o1 Qx)
 have U1:=κ (ah.trans (((ah.aG B1.out).setCell (q:=⟨pb,(a).toNat,none⟩) (.inl JA) (.int .u8 (v%256))).alloc (.cells #[.int .i64 0, .int .u32 0] 46)) o1)
 have HH1:=κ h1
 obtain⟨⟨u1,k1⟩,z1⟩:=h1.facts (a+1) (by omega)
 have q1:=h1.wO
 rw [Cb.out] at k1 z1 q1;rw [HQ.out] at q1
 clear h1 o1
 go_wp2
 rw [rounds_succ];go_wp2_with fail
 refine(HC.out _ _ (by omega) (by omega) _ (Cb.out▸HH1.out.zM (a+1).toNat (by omega) (v/256%256))).mono ?_
 rintro e w2 ⟨rfl,h2,o2⟩
 rw [zL _ a 1 1 _ a0 rfl] at h2
 have RX2:=κ ((RX1.out.put JB).upto o2 hX)
 have RY2:=κ ((RY1.out.put Zy).upto o2 Qx)
 have U2:=κ (ah.trans (U1.out.setCell (q:=⟨pb,(a+1).toNat,none⟩) (.inl JA) (.int .u8 (v/256%256))) o2)
 have HH2:=κ h2
 obtain⟨⟨u2,k2⟩,z2⟩:=h2.facts (a+2) (by omega)
 have q2:=h2.wO
 rw [Cb.out] at k2 z2 q2;rw [HQ.out] at q2
 clear h2 o2
 go_wp2
 rw [rounds_succ];go_wp2_with fail
 refine(HC.out _ _ (by omega) (by omega) _ (Cb.out▸HH2.out.zM (a+2).toNat (by omega) (v/256/256%256))).mono ?_
 rintro e w3 ⟨rfl,h3,o3⟩
 rw [zL _ a 2 2 _ a0 rfl] at h3
 rw [show v/256/256%256=v/65536%256 by omega] at h3
 have RX3:=κ ((RX2.out.put JB).upto o3 hX)
 have RY3:=κ ((RY2.out.put Zy).upto o3 Qx)
 have U3:=κ (ah.trans (U2.out.setCell (q:=⟨pb,(a+2).toNat,none⟩) (.inl JA) (.int .u8 (v/256/256%256))) o3)
 have HH3:=κ h3
 obtain⟨⟨u3,k3⟩,z3⟩:=h3.facts (a+3) (by omega)
 have q3:=h3.wO
 rw [Cb.out] at k3 z3 q3;rw [HQ.out] at q3
 clear h3 o3
 go_wp2
 rw [rounds_succ];go_wp2_with fail
 refine(HC.out _ _ (by omega) (by omega) _ (Cb.out▸HH3.out.zM (a+3).toNat (by omega) (v/256/256/256%256))).mono ?_
 rintro e w4 ⟨rfl,h4,o4⟩
 rw [zL _ a 3 3 _ a0 rfl] at h4
 rw [show v/256/256/256%256=v/16777216 by omega] at h4
 have RX4:=κ ((RX3.out.put JB).upto o4 hX)
 have RY4:=κ ((RY3.out.put Zy).upto o4 Qx)
 have U4:=κ (ah.trans (U3.out.setCell (q:=⟨pb,(a+3).toNat,none⟩) (.inl JA) (.int .u8 (v/256/256/256%256))) o4)
 have HH4:=κ h4
 obtain⟨g0,g1,g2,g3,g4⟩:=RX4.out
 obtain⟨f0,f1,f2,f3,f4⟩:=RY4.out
 clear h4 o4
 go_wp2
 rw [rounds_succ];go_wp2
 refine bodyPost_ret (v:= .agg #[.int .i64 0, .int .u32 0]) (by simp [results,Try.results107,go_sem,g0,g1,g4]) rfl ⟨rfl, ?_, ?_⟩
 ·exact HH4.out.upto (S:=fun i=>i=w.heap.size) (((ah.refl (fun i=>i=w.heap.size) _).setCell (q:=⟨w.heap.size,0,none⟩) (.inl rfl) (.int .i64 0)).setCell (q:=⟨w.heap.size,1,none⟩) (.inl rfl) (.int .u32 0)) (fun k hk h=>hX (h▸hk))
 ·exact(U4.out.setCell (q:=⟨w.heap.size,0,none⟩) (.inr (Nat.le_refl _)) _).setCell (q:=⟨w.heap.size,1,none⟩) (.inr (Nat.le_refl _)) _
theorem pU (P:RP) (M:MM) (a n v:Int) (w:World) (h:RM P M w) (hM:iC M) (a0:0≤a) (a1:a<4294967296) (v0:0≤v) (v1:v<4294967296):
  Calls Try.prog 107 #[.pointer (some ⟨P.q,0,none⟩), .int .u32 a, .int .i64 n, .int .u32 v] w fun e w'=>e= .returned (iO 6 (nJ M a n))∧RM P (rU M a n v) w'∧ah P.S w w':=by
 have keep:∀ {e':Ending},(Calls Try.prog 107 #[.pointer (some ⟨P.q,0,none⟩), .int .u32 a, .int .i64 n, .int .u32 v] w fun e w'=>e=e'∧Below w.heap.size w w')→
   Calls Try.prog 107 #[.pointer (some ⟨P.q,0,none⟩), .int .u32 a, .int .i64 n, .int .u32 v] w fun e w'=>e=e'∧RM P M w'∧ah P.S w w':=by
  intro e' hc
  exact hc.mono fun e w' ⟨he,hb⟩=>⟨he,h.upto (ah.aG (S:=fun _=>False) hb) (fun _ _=>id),ah.aG hb⟩
 unfold nJ rU
 by_cases hn:n=1∨n=2∨n=4
 ·rw [if_pos hn,if_pos hn]
  obtain⟨o,ho⟩:∃o,cO M 2 a n.toNat=o:=⟨_,rfl⟩
  rw [ho]
  rcases o with _ | x
  ·simp only [Option.isNone_none,if_true,iO]
   rcases hn with rfl | rfl | rfl
   ·exact KG P M a v w h hM a0 a1 v0 v1 ho
   ·exact KI P M a v w h hM a0 a1 v0 v1 ho
   ·exact KJ P M a v w h hM a0 a1 v0 v1 ho
  ·simp only [Option.isNone_some,Bool.false_eq_true,if_false,iO]
   rcases hn with rfl | rfl | rfl
   ·exact keep (zU P M a v x w h hM a0 a1 ho)
   ·exact keep (zV P M a v x w h hM a0 a1 ho)
   ·exact keep (zW P M a v x w h hM a0 a1 ho)
 ·rw [if_neg hn,if_neg hn]
  exact keep (Dt P.q a n v w hn)
theorem KL (q:Nat) (a:Int) (ao:Option Addr) (n cap:Nat) (w:World) (ha: -9223372036854775808≤a) (hn:¬ (0≤a∧0≤(n:Int)∧a≤65536∧(n:Int)≤65536-a)):
  Calls Try.prog 57 #[.pointer (some ⟨q,0,none⟩), .int .i64 a, .slice ao n cap] w fun e w'=>e= .returned (.int .i64 4)∧w=w':=by
 rcases(show a<0∨(¬a<0∧65536<a)∨(¬a<0∧¬65536<a∧65536-a<n) by omega) with h1 | ⟨h1,h2⟩ | ⟨h1,h2,h4⟩
 all_goals clear hn
 all_goals go_enter Try.func57,Try.ntmps57
 all_goals go_wp2
 all_goals go_ret
 all_goals exact⟨rfl,rfl⟩
theorem Qy (M:MM) (at_:Nat) (us:List Int) (b:Int):pk M at_ (us++ [b])=Zu (pk M at_ us) (at_+us.length) b:=by
 induction us generalizing M at_ with
 | nil=>rfl
 | cons x xs ih=>
  show pk (jM _ _) (at_+1) (xs++ [b])=_
  rw [ih]
  show _=Zu (pk (jM _ _) (at_+1) xs) (at_+(xs.length+1)) b
  rw [show at_+1+xs.length=at_+(xs.length+1) by omega]
theorem Du (us:List Int) (k:Nat) (h:k<us.length):us.take (k+1)=us.take k++ [us.getD k 0]:=by
 rw [List.take_succ_eq_append_getElem h,List.getD_eq_getElem?_getD,List.getElem?_eq_getElem h];rfl
theorem KO (P:RP) (M:MM) (a:Int) (us:List Int) (b off cap:Nat) (w:World) (h:RM P M w) (a0:0≤a) (hn:a+us.length≤65536) (hb:b<w.heap.size) (hP:¬P.has b)
  (hc:∀j,j<us.length→w.cell? ⟨b,off+j,none⟩=some (.int .u8 (us.getD j 0))):
  Calls Try.prog 57 #[.pointer (some ⟨P.q,0,none⟩), .int .i64 a, .slice (some ⟨b,off,none⟩) us.length cap] w fun e w'=>e= .returned (.int .i64 0)∧RM P (pk M a.toNat us) w'∧ah P.S w w':=by
 have h1:¬a<0:=by omega
 have h2:¬65536<a:=by omega
 have h3:¬65536-a<(us.length:Int):=by omega
 have HH:=κ h
 have HCC:=κ hc
 have HP:=κ hP
 have HC:=κ (qJ P)
 obtain⟨L,hL⟩:∃L,us.length=L:=⟨_,rfl⟩
 rw [hL] at hn h3⊢
 have HL:=κ hL
 clear h hc hP hL
 go_enter Try.func57,Try.ntmps57
 go_wp2
 go_loopg [24] L (fun g i wr=>∃k:Nat,g=L-k∧k≤L∧i= .int .i64 k∧Hid (RM P (pk M a.toNat (us.take k)) wr)∧Hid (ah P.S w wr))
 case atStart=>exact⟨0,rfl,Nat.zero_le _,rfl,HH.out,ah.refl _ _⟩
 case round=>
  obtain⟨k,hg,hk,rfl,HR,UR⟩:=hrel
  by_cases bV:k<L
  ·have oV:(k:Int) <(L:Int):=by omega
   have e0:0≤(a+(k:Int))/256:=by omega
   have e1:(a+(k:Int))/256<256:=by omega
   have e2:a+(k:Int) <65536:=by omega
   have e3:0≤a+(k:Int):=by omega
   have q0:=HR.out.wO
   obtain⟨⟨u,cu⟩,zu⟩:=HR.out.facts (a+k) e2
   have cs:=(UR.out.cell (q:=⟨b,off+k,none⟩) hb HP.out).trans (HCC.out k (by rw [HL.out];exact bV))
   have H2:=κ (HR.out.zM (a+k).toNat (by omega) (us.getD k 0))
   have hts:=κ (Du us k (by rw [HL.out];exact bV))
   have hln:(us.take k).length=k:=by rw [List.length_take];have:=HL.out;omega
   have HLN:=κ hln
   clear hln
   generalize us.getD k 0=x at cs H2 hts
   go_wp2_with (go_at_call 102;refine(HC.out _ _ e0 e1 _ H2.out).mono ?_;rintro e w2 ⟨rfl,h2,o2⟩)
   go_roundg (L-(k+1))
   case measure=>omega
   case rel=>
    refine⟨k+1,rfl,by omega,by simp, ?_,ah.trans (UR.out.setCell (q:=⟨P.b,(a+k).toNat,none⟩) (.inl (.inr (.inl rfl))) _) o2⟩
    rw [zL _ a k k _ a0 rfl] at h2
    show RM P (pk M a.toNat (us.take (k+1))) w2
    rw [hts.out,Qy,HLN.out]
    exact h2
  ·have hkl:k=L:=by omega
   have HK:=κ hkl
   have Jz:¬ (k:Int) <(L:Int):=by omega
   clear hkl bV
   go_wp2
   go_ret
   refine⟨rfl, ?_,UR.out⟩
   have:=HR.out
   rw [HK.out,←HL.out,List.take_length] at this
   exact this
theorem Dv (P:RP) (a:Int) (ao:Option Addr) (cap:Nat) (w:World) (a0:0≤a) (ha:a≤65536):
  Calls Try.prog 57 #[.pointer (some ⟨P.q,0,none⟩), .int .i64 a, .slice ao 0 cap] w fun e w'=>e= .returned (.int .i64 0)∧w=w':=by
 have h1:¬a<0:=by omega
 have h2:¬65536<a:=by omega
 have h3:¬65536-a<0:=by omega
 go_enter Try.func57,Try.ntmps57
 go_wp2
 refine wp_loop_rounds 1 ?_
 rw [rounds_succ];go_wp2
 go_ret
 exact⟨rfl,rfl⟩
theorem xu (P:RP) (M:MM) (a:Int) (us:List Int) (ao:Option Addr) (cap:Nat) (w:World) (h:RM P M w) (ha: -9223372036854775808≤a) (hB:Gu.Bs us ao cap w) (dU:∀g,ao=some g→0<us.length→¬P.has g.block):
  Calls Try.prog 57 #[.pointer (some ⟨P.q,0,none⟩), .int .i64 a, .slice ao us.length cap] w fun e w'=>e= .returned (.int .i64 (inE a us.length))∧RM P (zQ M a us) w'∧ah P.S w w':=by
 unfold zQ inE
 by_cases hi:Zx a us.length=true
 ·rw [if_pos hi,if_pos hi]
  obtain⟨h1,h2,h3,h4⟩:=(uQ _ _).1 hi
  by_cases h0:us.length=0
  ·obtain rfl:us= []:=List.length_eq_zero_iff.1 h0
   refine(Dv P a ao cap w h1 h3).mono ?_
   rintro e w' ⟨rfl,rfl⟩
   exact⟨rfl,h,ah.refl _ _⟩
  ·obtain⟨b,off,rfl,hb,hc⟩:=hB.2.2 (by omega)
   exact KO P M a us b off cap w h h1 (by omega) hb (dU _ rfl (by omega)) hc
 ·have PZ:=hi
  rw [if_neg hi,if_neg hi]
  rw [uQ] at PZ
  refine(KL P.q a ao us.length cap w ha PZ).mono ?_
  rintro e w' ⟨rfl,rfl⟩
  exact⟨rfl,h,ah.refl _ _⟩
def oW (z:Value) (n:Nat):Array Value:=madeCells #[z] n
theorem oW.get (z:Value) (n i:Nat) (h:i<n):(oW z n)[i]?=some z:=by unfold oW;simp [madeCells,h,Nat.mod_one]
theorem oC (w:World) (o:Obj) (k:Nat) (h:w.heap.size=k):(w.alloc o).heap[k]?=some o:=by subst h;exact heap_alloc_new w o
theorem jA {w:World} {o o':Obj} {k:Nat} (h:w.heap[k]?=some o):(w.alloc o').heap[k]?=some o:=by
 rw [Below.heap_alloc w o' k (Array.getElem?_eq_some_iff.1 h).1];exact h
theorem WO (w W4:World) (q b r m t:Nat) (Cc:Below w.heap.size w W4) (hq:W4.heap.size=q)
  (hb:W4.heap[b]?=some (.cells (oW (.int .u8 0) 65536) 5 (0,0))) (hr:W4.heap[r]?=some (.cells (oW (.int .i64 0) 256) 3 (0,0))) (hm:W4.heap[m]?=some (.cells (oW (.bool false) 256) 4 (0,0))) (ht:W4.heap[t]?=some (.cells (oW (.bool false) 256) 4 (0,0)))
  (Jz:w.heap.size≤b∧w.heap.size≤r∧w.heap.size≤m∧w.heap.size≤t) (dU:b≠r∧b≠m∧b≠t∧r≠m∧r≠t∧m≠t):
  ∃P:RP,Ending.returned (.pointer (some ⟨q,0,none⟩))=Ending.returned (.pointer (some ⟨P.q,0,none⟩))∧RM P M0 (W4.alloc (.cells #[.slice (some ⟨b,0,none⟩) 65536 65536, .slice (some ⟨r,0,none⟩) 256 256, .slice (some ⟨m,0,none⟩) 256 256, .slice (some ⟨t,0,none⟩) 256 256] 81)).drew∧
   Below w.heap.size w (W4.alloc (.cells #[.slice (some ⟨b,0,none⟩) 65536 65536, .slice (some ⟨r,0,none⟩) 256 256, .slice (some ⟨m,0,none⟩) 256 256, .slice (some ⟨t,0,none⟩) 256 256] 81)).drew∧(∀k,P.has k→w.heap.size≤k):=by
 have lb:=(Array.getElem?_eq_some_iff.1 hb).1
 have lr:=(Array.getElem?_eq_some_iff.1 hr).1
 have lm:=(Array.getElem?_eq_some_iff.1 hm).1
 have lt:=(Array.getElem?_eq_some_iff.1 ht).1
 have hs:=Cc.size
 obtain⟨n1,n2,n3,n4,n5,n6⟩:=dU
 generalize hz:(.cells #[.slice (some ⟨b,0,none⟩) 65536 65536, .slice (some ⟨r,0,none⟩) 256 256, .slice (some ⟨m,0,none⟩) 256 256, .slice (some ⟨t,0,none⟩) 256 256] 81:Obj)=Z
 have tq:=(oC W4 Z q hq).trans (congrArg some hz.symm)
 have tb:=jA (o':=Z) hb
 have tr:=jA (o':=Z) hr
 have tm:=jA (o':=Z) hm
 have tt:=jA (o':=Z) ht
 have sz:(W4.alloc Z).heap.size=W4.heap.size+1:=by simp
 have R:RM ⟨q,b,r,m,t,65536,256,256,256,Nat.le_refl _⟩ M0 (W4.alloc Z):=by
  refine⟨(show q≠b∧q≠r∧q≠m∧q≠t∧b≠r∧b≠m∧b≠t∧r≠m∧r≠t∧m≠t from⟨by omega,by omega,by omega,by omega,n1,n2,n3,n4,n5,n6⟩), ?_, ?_, ?_, ?_,fun j hj=> ?_,fun j hj=> ?_,fun j hj=> ?_,fun j hj=> ?_,fun j=>frozen_of_row _ _ _ _ _ tb,fun j=>frozen_of_row _ _ _ _ _ tr,fun j=>frozen_of_row _ _ _ _ _ tm,fun j=>frozen_of_row _ _ _ _ _ tt, ?_, ?_, ?_, ?_, ?_⟩
  ·rw [cell_of_row _ _ _ _ _ _ tq];rfl
  ·rw [cell_of_row _ _ _ _ _ _ tq];rfl
  ·rw [cell_of_row _ _ _ _ _ _ tq];rfl
  ·rw [cell_of_row _ _ _ _ _ _ tq];rfl
  ·rw [cell_of_row _ _ _ _ _ _ tb,oW.get _ _ _ hj];rfl
  ·rw [cell_of_row _ _ _ _ _ _ tr,oW.get _ _ _ hj];rfl
  ·rw [cell_of_row _ _ _ _ _ _ tm,oW.get _ _ _ hj];rfl
  ·rw [cell_of_row _ _ _ _ _ _ tt,oW.get _ _ _ hj];rfl
  ·show q<_;omega
  ·show b<_;omega
  ·show r<_;omega
  ·show m<_;omega
  ·show t<_;omega
 refine⟨⟨q,b,r,m,t,65536,256,256,256,Nat.le_refl _⟩,rfl,R.drew,(Cc.alloc hs _).drew, ?_⟩
 obtain⟨g1,g2,g3,g4⟩:=Jz
 rintro k (h | h | h | h | h)
 all_goals rw [h]
 ·show w.heap.size≤q
  exact hq▸hs
 ·exact g1
 ·exact g2
 ·exact g3
 ·exact g4
theorem KP (w:World):Calls Try.prog 55 #[] w fun e w'=>∃P:RP,e= .returned (.pointer (some ⟨P.q,0,none⟩))∧RM P M0 w'∧Below w.heap.size w w'∧(∀k,P.has k→w.heap.size≤k):=by
 have m1:∀w,(Instr.makeSlice 74 (.int .i64 65536) (.int .i64 65536)).run Try.prog w= .ok (.slice (some ⟨w.heap.size,0,none⟩) 65536 65536) (w.alloc (.cells (oW (.int .u8 0) 65536) 5)):=fun w=>by
  obtain⟨i,hi,hz,hs,hb⟩:=Gu.qK
  exact run_make_row 74 5 i (.int .u8 0) Try.underlying74 hi hz hs rfl .i64 .i64 65536 (by rw [hb];omega) (by omega) w
 have m2:∀w,(Instr.makeSlice 39 (.int .i64 256) (.int .i64 256)).run Try.prog w= .ok (.slice (some ⟨w.heap.size,0,none⟩) 256 256) (w.alloc (.cells (oW (.int .i64 0) 256) 3)):=fun w=>by
  obtain⟨i,hi,hz,hs,hb⟩:=zK
  exact run_make_row 39 3 i (.int .i64 0) Try.underlying39 hi hz hs rfl .i64 .i64 256 (by rw [hb];omega) (by omega) w
 have m3:∀w,(Instr.makeSlice 79 (.int .i64 256) (.int .i64 256)).run Try.prog w= .ok (.slice (some ⟨w.heap.size,0,none⟩) 256 256) (w.alloc (.cells (oW (.bool false) 256) 4)):=fun w=>by
  have hh:(Try.prog.info? 4).map (fun i=>(i.zero,i.size,i.bytes))=some (some (.bool false),1,1):=by kernel_rfl
  exact run_make_row' 79 4 (.bool false) 1 Try.underlying79 hh rfl .i64 .i64 256 (by omega) (by omega) w
 have HF:=κ WO
 generalize oW (.int .u8 0) 65536=Z1 at m1 HF
 generalize oW (.int .i64 0) 256=Z2 at m2 HF
 generalize oW (.bool false) 256=Z3 at m3 HF
 go_enter Try.func55,Try.ntmps55
 go_wp2
 go_region
 all_goals clear m1 m2 m3
 all_goals go_wp2
 all_goals go_ret
 all_goals refine HF.out w _ _ _ _ _ _ (((((Below.refl _ _).alloc (by simp) _).alloc (by simp) _).alloc (by simp;omega) _).alloc (by simp;omega) _) (by simp) ?_ ?_ ?_ ?_ (by omega) (by omega)
 all_goals first
  | (refine oC _ _ _ ?_;simp;done)
  | (refine jA (oC _ _ _ ?_);simp;done)
  | (refine jA (jA (oC _ _ _ ?_));simp;done)
  | (refine jA (jA (jA (oC _ _ _ ?_)));simp;done)
def prE (k x:Int):Int:=if 0≤k∧k<256∧0≤x∧x≤7 then 0 else 4
def JC (M:MM) (k x:Int):MM:=if 0≤k∧k<256∧0≤x∧x≤7 then Vt M k.toNat x else M
theorem tV (p:Nat) (M:MM) (k x:Int) (w:World) (h:HC p M w):
  Calls Try.prog 58 #[.pointer (some ⟨p,0,none⟩), .int .i64 k, .int .i64 x] w fun e w'=>e= .returned (.int .i64 (prE k x))∧HC p (JC M k x) w'∧ah (fun i=>i=p) w w':=by
 unfold prE JC
 by_cases hk:0≤k∧k<256∧0≤x∧x≤7
 ·rw [if_pos hk,if_pos hk]
  obtain⟨k0,k1,x0,x1⟩:=hk
  obtain⟨c,rfl⟩:=Int.eq_ofNat_of_zero_le k0
  refine(Dk p M (aC M.hi) c x w h (by omega) x0 x1 (rY _).1 (rY _).2).mono ?_
  rintro e w' ⟨rfl,h1,o1⟩
  refine⟨rfl, ?_,ah.yC o1⟩
  rw [Int.toNat_natCast]
  unfold HC
  rw [←Qk M c x (by omega)]
  exact h1
 ·rw [if_neg hk,if_neg hk]
  refine(zG p M (aC M.hi) k x w h (by omega)).mono ?_
  rintro e w' ⟨rfl,rfl⟩
  exact⟨rfl,h,ah.refl _ _⟩
theorem qL (P:RP) (M:MM) (k x:Int) (w:World) (h:RM P M w):
  Calls Try.prog 59 #[.pointer (some ⟨P.q,0,none⟩), .int .i64 k, .int .i64 x] w fun e w'=>e= .returned (.int .i64 (prE k x))∧RM P (JC M k x) w'∧ah P.S w w':=by
 unfold prE JC
 by_cases hk:0≤k∧k<256∧0≤x∧x≤7
 ·rw [if_pos hk,if_pos hk]
  obtain⟨k0,k1,x0,x1⟩:=hk
  exact zN P M k x w h k0 k1 x0 x1
 ·rw [if_neg hk,if_neg hk]
  refine(yD P.q k x w (by omega)).mono ?_
  rintro e w' ⟨rfl,rfl⟩
  exact⟨rfl,h,ah.refl _ _⟩
theorem Hz (P:RP) (M:MM) (k:Int) (b:Bool) (w:World) (h:RM P M w):
  Calls Try.prog 61 #[.pointer (some ⟨P.q,0,none⟩), .int .i64 k, .bool b] w fun e w'=>e= .returned (.int .i64 (mkE k))∧RM P (zJ M k b) w'∧ah P.S w w':=by
 unfold mkE zJ
 by_cases hk:0≤k∧k<256
 ·rw [if_pos hk,if_pos hk]
  exact Kq P M k b w h hk.1 hk.2
 ·rw [if_neg hk,if_neg hk]
  refine(Hg P.q k b w (by omega)).mono ?_
  rintro e w' ⟨rfl,rfl⟩
  exact⟨rfl,h,ah.refl _ _⟩
theorem iC.jM {M:MM} (h:iC M) (k:Nat):iC (jM M k):=by
 obtain⟨e1,e2,_⟩:=J4 M k
 exact⟨fun j=>by rw [e1];exact h.1 j,fun j=>by rw [e2];exact h.2 j⟩
theorem iC.put {M:MM} (h:iC M) (k:Nat) (x:Int) (hx:0≤x∧x<256):iC {M with jL:=aO M.jL k x}:=
 ⟨fun j=>by simp only [aO];split;exact hx;exact h.1 j,h.2⟩
theorem iC.pk {us:List Int}:∀ {M:MM} (at_:Nat),iC M→(∀j,0≤us.getD j 0∧us.getD j 0<256)→iC (pk M at_ us):=by
 induction us with
 | nil=>exact fun _ h _=>h
 | cons b bs ih=>
  intro M at_ h hr
  exact ih (at_+1) ((h.put at_ b (by simpa using hr 0)).jM _) (fun j=>by simpa using hr (j+1))
theorem iC.JC {M:MM} (h:iC M) (k x:Int):iC (JC M k x):=by
 unfold Me.JC
 split
 ·next hk=>
  have h1:iC (if M.rt k.toNat=x then M else Me.jM M k.toNat):=by split;exact h;exact h.jM _
  exact⟨h1.1,fun j=>by
   show 0≤aO M.rt k.toNat x j∧aO M.rt k.toNat x j<8
   simp only [aO];split
   ·omega
   ·exact h.2 j⟩
 ·exact h
theorem iC.zJ {M:MM} (h:iC M) (k:Int) (b:Bool):iC (zJ M k b):=by
 unfold Me.zJ Jw
 split
 ·split<;>exact⟨h.1,h.2⟩
 ·exact h
theorem iC.dN {M:MM} (h:iC M):iC (dN M):=⟨h.1,h.2⟩
theorem iC.zQ {M:MM} (h:iC M) (a:Int) {us:List Int} (hr:∀j,0≤us.getD j 0∧us.getD j 0<256):iC (zQ M a us):=by
 unfold Me.zQ;split
 ·exact h.pk _ hr
 ·exact h
theorem WQ (n v:Int) (v0:0≤v) (v1:v<4294967296):∀j,0≤(WE n v).getD j 0∧(WE n v).getD j 0<256:=by
 intro j
 unfold WE
 split
 ·match j with
  | 0=>simp;omega
  | j+1=>simp
 ·split
  ·match j with
   | 0=>simp;omega
   | 1=>simp;omega
   | j+2=>simp
  ·split
   ·match j with
    | 0=>simp;omega
    | 1=>simp;omega
    | 2=>simp;omega
    | 3=>simp;omega
    | j+4=>simp
   ·simp
theorem iC.rU {M:MM} (h:iC M) (a n v:Int) (v0:0≤v) (v1:v<4294967296):iC (rU M a n v):=by
 unfold Me.rU
 split
 ·split
  ·exact h.pk _ (WQ n v v0 v1)
  ·exact h
 ·exact h
theorem iC.zero:iC M0:=⟨fun _=>by simp [M0],fun _=>by simp [M0]⟩
structure vH (p:Nat) (P:RP) (M:MM) (W:World):Prop where
 hc:HC p M W
 rm:RM P M W
 ne:¬P.has p
 ok:iC M
def PS (p:Nat) (P:RP) (k:Nat):Prop:=k=p∨P.has k
theorem vH.upto {p:Nat} {P:RP} {M:MM} {w w':World} {S:Nat→Prop} (h:vH p P M w) (u:ah S w w') (hs:∀k,PS p P k→¬S k):vH p P M w':=
 ⟨h.hc.upto u (hs p (.inl rfl)),h.rm.upto u (fun k hk=>hs k (.inr hk)),h.ne,h.ok⟩
theorem vH.lt {p:Nat} {P:RP} {M:MM} {w:World} (h:vH p P M w) (k:Nat) (hk:PS p P k):k<w.heap.size:=by
 rcases hk with hk | hk | hk | hk | hk | hk
 ·rw [hk];exact h.hc.2.2.2.2.2.2
 ·rw [hk];exact h.rm.lq
 ·rw [hk];exact h.rm.lb
 ·rw [hk];exact h.rm.lr
 ·rw [hk];exact h.rm.lm
 ·rw [hk];exact h.rm.lt
theorem vH.hm {p:Nat} {P:RP} {M M':MM} {w w':World} (h:vH p P M w) (h1:HC p M' w') (u:ah (fun i=>i=p) w w'):RM P M w':=
 h.rm.upto u (fun k hk e=>h.ne (e▸hk))
end Go.Proofs.Ytcjcmnnhmajocab.Me
namespace Go.Proofs.Ytcjcmnnhmajocab.Gu
open Go.RowKit
theorem dh {P:Program} (d:Nat) (xs ys:Array Value) (f:Field) (fs:List Field) (hn:f.name≠ "_") {k k':IntKind} {a b:Int} {r:Bool} (hu:P.underlying f.type=some (.int k'))
  (p1:∀w:World,(part f.type xs f.offset).run P w= .ok (.int k a) w) (p2:∀w:World,(part f.type ys f.offset).run P w= .ok (.int k b) w) (ih:∀w:World,(Op.eqFields (d+1) xs ys fs).run P w= .ok r w):
  ∀w:World,(Op.eqFields (d+1) xs ys (f::fs)).run P w= .ok (a==b&&r) w:=by
 intro w
 simp only [Op.eqFields,if_pos hn,Sem.run_bind,p1,p2,Result.andThen_ok,run_equalIn_int w d f.type k k' a b hu]
 cases h:(a==b)
 ·simp
 ·simp [ih]
end Go.Proofs.Ytcjcmnnhmajocab.Gu
namespace Go.Proofs.Ytcjcmnnhmajocab.Me
open Go.RowKit Kt
noncomputable def Qz (i:Nat):Field:=(Try.prog.fieldsOf 46)[i]!
theorem aam:(Try.prog.fieldsOf 46).toList= [Qz 0,Qz 1]:=by kernel_rfl
def eqs (k x k' x':Int):Bool:=k==k'&&(x==x'&&true)
theorem Dw (k x k' x':Int) (w:World):(Op.equalIn 10000 46 (.agg #[.int .i64 k, .int .u32 x]) (.agg #[.int .i64 k', .int .u32 x'])).run Try.prog w= .ok (eqs k x k' x') w:=by
 have h:∀w:World,(Op.eqFields 9999 #[.int .i64 k, .int .u32 x] #[.int .i64 k', .int .u32 x'] [Qz 0,Qz 1]).run Try.prog w= .ok (eqs k x k' x') w:=by
  refine Gu.dh 9998 _ _ _ _ (by decide+kernel) (k:= .i64) (k':= .i64) (by kernel_rfl) (fun w=>by kernel_rfl) (fun w=>by kernel_rfl) ?_
  refine Gu.dh 9998 _ _ _ _ (by decide+kernel) (k:= .u32) (k':= .u32) (by kernel_rfl) (fun w=>by kernel_rfl) (fun w=>by kernel_rfl) ?_
  intro w
  simp [Op.eqFields]
 rw [←aam] at h
 rw [run_equalIn_struct w 9999 46 _ _ (by kernel_rfl) (by kernel_rfl),h]
theorem KT (k x k' x':Int):∀w:World,(binOp .eql 46 (.agg #[.int .i64 k, .int .u32 x]) (.agg #[.int .i64 k', .int .u32 x'])).run Try.prog w= .ok (.bool (eqs k x k' x')) w:=by
 intro w
 rw [run_eql_struct,Dw]
 rfl
def TB (B:Nat) (ao:Option Addr) (n:Nat) (W:World):Prop:=
 ∀j,j<n→∃g,ao=some ⟨g,0,none⟩∧B≤g∧g<W.heap.size∧(∃x:Int,W.cell? ⟨g,j,none⟩=some (.int .u8 x))∧∀i,W.frozen? ⟨g,i,none⟩=false
theorem Bs.upto {us:List Int} {ao:Option Addr} {cap:Nat} {w w':World} {S:Nat→Prop} (h:Gu.Bs us ao cap w) (u:ah S w w') (hs:∀g,ao=some g→0<us.length→¬S g.block):Gu.Bs us ao cap w':=by
 obtain⟨l,m,k⟩:=h
 refine⟨l,m,fun hlen=> ?_⟩
 obtain⟨b,off,rfl,Ku,hc⟩:=k hlen
 exact⟨b,off,rfl,Nat.lt_of_lt_of_le Ku u.size,fun j hj=>(u.cell (q:=⟨b,off+j,none⟩) Ku (hs ⟨b,off,none⟩ rfl hlen)).trans (hc j hj)⟩
theorem TB.upto {B:Nat} {ao:Option Addr} {n:Nat} {w w':World} {S:Nat→Prop} (h:TB B ao n w) (u:ah S w w') (hs:∀k,B≤k→¬S k):TB B ao n w':=by
 intro j hj
 obtain⟨g,e,hb,hl,⟨x,hx⟩,hf⟩:=h j hj
 exact⟨g,e,hb,Nat.lt_of_lt_of_le hl u.size,⟨x,(u.cell (q:=⟨g,j,none⟩) hl (hs g hb)).trans hx⟩,fun i=>(u.frozen (q:=⟨g,i,none⟩) hl (hs g hb)).trans (hf i)⟩
theorem TB.mono {B B':Nat} {ao:Option Addr} {n:Nat} {w:World} (h:TB B ao n w) (hB:B'≤B):TB B' ao n w:=by
 intro j hj
 obtain⟨g,e,hb,r⟩:=h j hj
 exact⟨g,e,Nat.le_trans hB hb,r⟩
end Go.Proofs.Ytcjcmnnhmajocab.Me
