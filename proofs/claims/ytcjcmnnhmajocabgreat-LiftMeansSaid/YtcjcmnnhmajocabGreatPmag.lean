import Derived.Test.YtcjcmnnhmajocabGreatPmaf
set_option linter.unusedVariables false
set_option linter.unusedSimpArgs false
set_option maxRecDepth 100000
set_option maxHeartbeats 16000000
namespace Go.Proofs.YtcjcmnnhmajocabGreat.Me
open Go.RowKit Kt
theorem HM.ZF {p:Nat} {M:MM} {n:Int} {W:World} (h:HM p M n W) (k:Nat) (hk:k<65536) (x:Int):HM p {M with fD:=aF M.fD k x} n (W.setCell ⟨p,k,none⟩ (.int .u8 x)):=by
 obtain⟨h1,h2,h3,h4,h5,h6,h7⟩:=h
 refine⟨fun j hj=> ?_,fun j hj=> ?_,fun j hj=> ?_,fun j hj=> ?_, ?_,fun i=>by simpa using h6 i,by simpa using h7⟩
 ·by_cases qZ:j=k
  ·subst qZ
   rw [World.cell?_setCell_same _ _ _ (h1 j hj)]
   simp [aF]
  ·rw [HM.aH (by omega),h1 j hj]
   simp [aF,qZ]
 ·rw [HM.aH (by omega)];exact h2 j hj
 ·rw [HM.aH (by omega)];exact h3 j hj
 ·rw [HM.aH (by omega)];exact h4 j hj
 ·rw [HM.aH (by omega)];exact h5
def YN (M:MM) (k:Nat) (b:Int):MM:=l7 {M with fD:=aF M.fD k b} (k/256)
theorem rM (M:MM) (a i:Int) (j:Nat) (b:Int) (a0:0≤a) (hi:i=(j:Int)):l7 {M with fD:=aF M.fD (a+i).toNat b} ((a+i)/256).toNat=YN M (a.toNat+j) b:=by
 subst hi
 unfold YN
 rw [show(a+(j:Int)).toNat=a.toNat+j by omega,show((a+(j:Int))/256).toNat=(a.toNat+j)/256 by omega]
theorem sQ (M:MM) (a b:Int) (a0:0≤a):l7 {M with fD:=aF M.fD a.toNat b} (a/256).toNat=YN M a.toNat b:=by
 unfold YN
 rw [show(a/256).toNat=a.toNat/256 by omega]
theorem jX (p:Nat) (M:MM) (k:Int) (k0:0≤k) (k1:k<256) (w:World) (h:HC p M w):
  Calls Tryz.prog 78 #[.pointer (some ⟨p,0,none⟩), .int .i64 k] w fun e w'=>e= .returned (.tuple #[])∧HC p (l7 M k.toNat) w'∧ah (fun i=>i=p) w w':=by
 obtain⟨c,rfl⟩:=Int.eq_ofNat_of_zero_le k0
 refine(vG p M (aj M.hi) c w h (by omega) (sO _).1 (sO _).2).mono ?_
 rintro e w' ⟨rfl,h1,o1⟩
 refine⟨rfl, ?_,ah.yu o1⟩
 rw [Int.toNat_natCast]
 unfold HC
 rw [←Fa M c (by omega)]
 exact h1
theorem HC.put {p:Nat} {M:MM} {W:World} (h:HC p M W) (k:Nat) (hk:k<65536) (x:Int):HC p {M with fD:=aF M.fD k x} (W.setCell ⟨p,k,none⟩ (.int .u8 x)):=HM.ZF h k hk x
theorem HC.drew {p:Nat} {M:MM} {W:World} (h:HC p M W):HC p M W.drew:=h
theorem HC.facts {p:Nat} {M:MM} {W:World} (h:HC p M W) (k:Int) (k1:k<65536):(∃u,W.cell? ⟨p,k.toNat,none⟩=some u)∧W.frozen? ⟨p,k.toNat,none⟩=false:=
 ⟨⟨_,h.1 k.toNat (by omega)⟩,h.2.2.2.2.2.1 _⟩
def Rs (X:Nat) (W:World):Prop:=W.cell? ⟨X,0,none⟩=some (.int .i64 0)∧W.cell? ⟨X,1,none⟩=some (.int .u32 0)∧W.frozen? ⟨X,0,none⟩=false∧W.frozen? ⟨X,1,none⟩=false∧X<W.heap.size
theorem Rs.new (W:World) (X:Nat) (hX:W.heap.size=X):Rs X (W.alloc (.cells #[.int .i64 0, .int .u32 0] 55)):=by
 subst hX
 have e:=heap_alloc_new W (.cells #[.int .i64 0, .int .u32 0] 55)
 refine⟨?_, ?_, ?_, ?_,by simp⟩
 ·rw [cell_of_row _ _ _ _ _ _ e];rfl
 ·rw [cell_of_row _ _ _ _ _ _ e];rfl
 ·unfold World.frozen?;simp only [e];rfl
 ·unfold World.frozen?;simp only [e];rfl
theorem Rs.drew {X:Nat} {W:World} (h:Rs X W):Rs X W.drew:=h
theorem Rs.upto {X:Nat} {W W':World} {S:Nat→Prop} (h:Rs X W) (u:ah S W W') (hs:¬S X):Rs X W':=by
 obtain⟨h1,h2,h3,h4,h5⟩:=h
 exact⟨(u.cell h5 hs).trans h1,(u.cell h5 hs).trans h2,(u.frozen h5 hs).trans h3,(u.frozen h5 hs).trans h4,Nat.lt_of_lt_of_le h5 u.size⟩
theorem Rs.put {X p:Nat} {W:World} (h:Rs X W) (dR:¬X=p) {j:Nat} {v:Value}:Rs X (W.setCell ⟨p,j,none⟩ v):=
 h.upto (S:=fun i=>i=p) ((ah.refl (fun i=>i=p) _).setCell (q:=⟨p,j,none⟩) (.inl rfl) _) dR
theorem GL (p:Nat) (a n v:Int) (w:World) (hn:¬ (n=1∨n=2∨n=4)):
  Calls Tryz.prog 283 #[.pointer (some ⟨p,0,none⟩), .int .u32 a, .int .i64 n, .int .u32 v] w fun e w'=>e= .returned (.agg #[.int .i64 0, .int .u32 0])∧Below w.heap.size w w':=by
 have b0:=Below.refl w.heap.size w
 have e1:(n !=1)=true:=by rw [bne_iff_ne];omega
 have e2:(n !=2)=true:=by rw [bne_iff_ne];omega
 have e4:(n !=4)=true:=by rw [bne_iff_ne];omega
 clear hn
 go_enter Tryz.func283,Tryz.ntmps283
 go_wp2
 refine bodyPost_ret (v:= .agg #[.int .i64 0, .int .u32 0]) (by simp [results,Tryz.results283,go_sem]) rfl ⟨rfl, ?_⟩
 exact b0.alloc (Nat.le_refl _) _
theorem Di (p:Nat) (M:MM) (N a v x:Int) (w:World) (h:HM p M N w) (hM:bQ M) (a0:0≤a) (a1:a<4294967296) (hs:aQ M 2 a 1=some x):
  Calls Tryz.prog 283 #[.pointer (some ⟨p,0,none⟩), .int .u32 a, .int .i64 1, .int .u32 v] w fun e w'=>e= .returned (.agg #[.int .i64 6, .int .u32 x])∧Below w.heap.size w w':=by
 have HB:=κ (fun w h=>gY p M N a 1 2 w h hM (.inr (.inl rfl)) a0 a1 (by omega))
 rw [show(1:Int).toNat=1 from rfl,hs] at HB
 simp only [srV] at HB
 have b0:=Below.refl w.heap.size w
 have HH:=κ (fun o=>h.upto ((ah.refl (fun _=>False) w).alloc o) id)
 clear h hM hs
 go_enter Tryz.func283,Tryz.ntmps283
 go_wp2_with (go_at_call 111;refine(HB.out _ (HH.out _)).mono ?_;rintro e w' ⟨rfl,rfl⟩)
 refine bodyPost_ret (v:= .agg #[.int .i64 6, .int .u32 x]) (by simp [results,Tryz.results283,go_sem]) rfl ⟨rfl, ?_⟩
 exact b0.alloc (Nat.le_refl _) _
theorem Qq (p:Nat) (M:MM) (a v:Int) (w:World) (h:HC p M w) (hM:bQ M) (a0:0≤a) (a1:a<4294967296) (v0:0≤v) (v1:v<4294967296) (hs:aQ M 2 a 1=none):
  Calls Tryz.prog 283 #[.pointer (some ⟨p,0,none⟩), .int .u32 a, .int .i64 1, .int .u32 v] w fun e w'=>e= .returned (.agg #[.int .i64 0, .int .u32 0])∧HC p (pk M a.toNat (O8 1 v)) w'∧ah (fun i=>i=p) w w':=by
 have HB:=κ (fun w h=>gY p M (aj M.hi) a 1 2 w h hM (.inr (.inl rfl)) a0 a1 (by omega))
 rw [show(1:Int).toNat=1 from rfl,hs] at HB
 simp only [srV] at HB
 have U0:=κ (fun o=>(ah.refl (fun i=>i=p) w).alloc o)
 have HH:=κ (fun o=>HM.upto h ((ah.refl (fun _=>False) w).alloc o) id)
 have rP:=κ (fun o=>HC.upto h ((ah.refl (fun _=>False) w).alloc o) id)
 have q0:=(iF a0 a1 hs 0 (by omega) (by omega)).2
 have hp:=h.2.2.2.2.2.2
 obtain⟨⟨u0,k0⟩,z0⟩:=h.facts a (by omega)
 have HI:=κ h
 have qA:¬w.heap.size=p:=by omega
 clear h hM hs
 have b0:a<65536:=by omega
 clear q0
 go_enter Tryz.func283,Tryz.ntmps283
 go_wp2_with (go_at_call 111;refine(HB.out _ (HH.out _)).mono ?_;rintro e w' ⟨rfl,rfl⟩)
 refine wp_loop_rounds 2 ?_
 rw [rounds_succ];go_wp2
 go_region
 go_wp2_with fail
 refine(jX p _ _ (by omega) (by omega) _ (((HI.out.put a.toNat (by omega) (v%256)).upto ((ah.refl (fun _=>False) _).alloc _) id).drew)).mono ?_
 rintro e w1 ⟨rfl,h1,o1⟩
 rw [sQ _ a _ a0] at h1
 have R1:=κ ((Rs.new (w.setCell ⟨p,a.toNat,none⟩ (.int .u8 (v%256))) w.heap.size (by simp)).drew.upto o1 qA)
 have U1:=κ (ah.trans (((ah.refl (fun i=>i=p) w).setCell (q:=⟨p,a.toNat,none⟩) (.inl rfl) (.int .u8 (v%256))).alloc (.cells #[.int .i64 0, .int .u32 0] 55)).drew o1)
 have rQ:=κ h1
 obtain⟨g0,g1,g2,g3,g4⟩:=R1.out
 clear h1 o1
 go_wp2
 rw [rounds_succ];go_wp2
 refine bodyPost_ret (v:= .agg #[.int .i64 0, .int .u32 0]) (by simp [results,Tryz.results283,go_sem,g0,g1,g4]) rfl ⟨rfl, ?_, ?_⟩
 ·exact rQ.out.upto (S:=fun i=>i=w.heap.size) (((ah.refl (fun i=>i=w.heap.size) _).setCell (q:=⟨w.heap.size,0,none⟩) (.inl rfl) (.int .i64 0)).setCell (q:=⟨w.heap.size,1,none⟩) (.inl rfl) (.int .u32 0)) (fun h=>qA h.symm)
 ·exact(U1.out.setCell (q:=⟨w.heap.size,0,none⟩) (.inr (Nat.le_refl _)) _).setCell (q:=⟨w.heap.size,1,none⟩) (.inr (Nat.le_refl _)) _
theorem Dj (p:Nat) (M:MM) (N a v x:Int) (w:World) (h:HM p M N w) (hM:bQ M) (a0:0≤a) (a1:a<4294967296) (hs:aQ M 2 a 2=some x):
  Calls Tryz.prog 283 #[.pointer (some ⟨p,0,none⟩), .int .u32 a, .int .i64 2, .int .u32 v] w fun e w'=>e= .returned (.agg #[.int .i64 6, .int .u32 x])∧Below w.heap.size w w':=by
 have HB:=κ (fun w h=>gY p M N a 2 2 w h hM (.inr (.inl rfl)) a0 a1 (by omega))
 rw [show(2:Int).toNat=2 from rfl,hs] at HB
 simp only [srV] at HB
 have b0:=Below.refl w.heap.size w
 have HH:=κ (fun o=>h.upto ((ah.refl (fun _=>False) w).alloc o) id)
 clear h hM hs
 go_enter Tryz.func283,Tryz.ntmps283
 go_wp2_with (go_at_call 111;refine(HB.out _ (HH.out _)).mono ?_;rintro e w' ⟨rfl,rfl⟩)
 refine bodyPost_ret (v:= .agg #[.int .i64 6, .int .u32 x]) (by simp [results,Tryz.results283,go_sem]) rfl ⟨rfl, ?_⟩
 exact b0.alloc (Nat.le_refl _) _
theorem Qr (p:Nat) (M:MM) (a v:Int) (w:World) (h:HC p M w) (hM:bQ M) (a0:0≤a) (a1:a<4294967296) (v0:0≤v) (v1:v<4294967296) (hs:aQ M 2 a 2=none):
  Calls Tryz.prog 283 #[.pointer (some ⟨p,0,none⟩), .int .u32 a, .int .i64 2, .int .u32 v] w fun e w'=>e= .returned (.agg #[.int .i64 0, .int .u32 0])∧HC p (pk M a.toNat (O8 2 v)) w'∧ah (fun i=>i=p) w w':=by
 have HB:=κ (fun w h=>gY p M (aj M.hi) a 2 2 w h hM (.inr (.inl rfl)) a0 a1 (by omega))
 rw [show(2:Int).toNat=2 from rfl,hs] at HB
 simp only [srV] at HB
 have U0:=κ (fun o=>(ah.refl (fun i=>i=p) w).alloc o)
 have HH:=κ (fun o=>HM.upto h ((ah.refl (fun _=>False) w).alloc o) id)
 have rP:=κ (fun o=>HC.upto h ((ah.refl (fun _=>False) w).alloc o) id)
 have q0:=(iF a0 a1 hs 1 (by omega) (by omega)).2
 have hp:=h.2.2.2.2.2.2
 obtain⟨⟨u0,k0⟩,z0⟩:=h.facts a (by omega)
 have HI:=κ h
 have qA:¬w.heap.size=p:=by omega
 clear h hM hs
 have b0:a<65536:=by omega
 have b1:a+1<65536:=by omega
 clear q0
 go_enter Tryz.func283,Tryz.ntmps283
 go_wp2_with (go_at_call 111;refine(HB.out _ (HH.out _)).mono ?_;rintro e w' ⟨rfl,rfl⟩)
 refine wp_loop_rounds 3 ?_
 rw [rounds_succ];go_wp2
 go_region
 go_wp2_with fail
 refine(jX p _ _ (by omega) (by omega) _ (((HI.out.put a.toNat (by omega) (v%256)).upto ((ah.refl (fun _=>False) _).alloc _) id).drew)).mono ?_
 rintro e w1 ⟨rfl,h1,o1⟩
 rw [sQ _ a _ a0] at h1
 have R1:=κ ((Rs.new (w.setCell ⟨p,a.toNat,none⟩ (.int .u8 (v%256))) w.heap.size (by simp)).drew.upto o1 qA)
 have U1:=κ (ah.trans (((ah.refl (fun i=>i=p) w).setCell (q:=⟨p,a.toNat,none⟩) (.inl rfl) (.int .u8 (v%256))).alloc (.cells #[.int .i64 0, .int .u32 0] 55)).drew o1)
 have rQ:=κ h1
 obtain⟨⟨u1,k1⟩,z1⟩:=h1.facts (a+1) (by omega)
 clear h1 o1
 go_wp2
 rw [rounds_succ];go_wp2
 go_region
 go_wp2_with fail
 refine(jX p _ _ (by omega) (by omega) _ ((rQ.out.put (a+1).toNat (by omega) (v/256%256)).drew)).mono ?_
 rintro e w2 ⟨rfl,h2,o2⟩
 rw [rM _ a 1 1 _ a0 rfl] at h2
 have R2:=κ ((R1.out.put qA).drew.upto o2 qA)
 have U2:=κ (ah.trans (U1.out.trans ((ah.refl (fun i=>i=p) _).setCell (q:=⟨p,(a+1).toNat,none⟩) (.inl rfl) (.int .u8 (v/256%256))).drew) o2)
 have wZ:=κ h2
 obtain⟨g0,g1,g2,g3,g4⟩:=R2.out
 clear h2 o2
 go_wp2
 rw [rounds_succ];go_wp2
 refine bodyPost_ret (v:= .agg #[.int .i64 0, .int .u32 0]) (by simp [results,Tryz.results283,go_sem,g0,g1,g4]) rfl ⟨rfl, ?_, ?_⟩
 ·exact wZ.out.upto (S:=fun i=>i=w.heap.size) (((ah.refl (fun i=>i=w.heap.size) _).setCell (q:=⟨w.heap.size,0,none⟩) (.inl rfl) (.int .i64 0)).setCell (q:=⟨w.heap.size,1,none⟩) (.inl rfl) (.int .u32 0)) (fun h=>qA h.symm)
 ·exact(U2.out.setCell (q:=⟨w.heap.size,0,none⟩) (.inr (Nat.le_refl _)) _).setCell (q:=⟨w.heap.size,1,none⟩) (.inr (Nat.le_refl _)) _
theorem Dk (p:Nat) (M:MM) (N a v x:Int) (w:World) (h:HM p M N w) (hM:bQ M) (a0:0≤a) (a1:a<4294967296) (hs:aQ M 2 a 4=some x):
  Calls Tryz.prog 283 #[.pointer (some ⟨p,0,none⟩), .int .u32 a, .int .i64 4, .int .u32 v] w fun e w'=>e= .returned (.agg #[.int .i64 6, .int .u32 x])∧Below w.heap.size w w':=by
 have HB:=κ (fun w h=>gY p M N a 4 2 w h hM (.inr (.inl rfl)) a0 a1 (by omega))
 rw [show(4:Int).toNat=4 from rfl,hs] at HB
 simp only [srV] at HB
 have b0:=Below.refl w.heap.size w
 have HH:=κ (fun o=>h.upto ((ah.refl (fun _=>False) w).alloc o) id)
 clear h hM hs
 go_enter Tryz.func283,Tryz.ntmps283
 go_wp2_with (go_at_call 111;refine(HB.out _ (HH.out _)).mono ?_;rintro e w' ⟨rfl,rfl⟩)
 refine bodyPost_ret (v:= .agg #[.int .i64 6, .int .u32 x]) (by simp [results,Tryz.results283,go_sem]) rfl ⟨rfl, ?_⟩
 exact b0.alloc (Nat.le_refl _) _
theorem Qs (p:Nat) (M:MM) (a v:Int) (w:World) (h:HC p M w) (hM:bQ M) (a0:0≤a) (a1:a<4294967296) (v0:0≤v) (v1:v<4294967296) (hs:aQ M 2 a 4=none):
  Calls Tryz.prog 283 #[.pointer (some ⟨p,0,none⟩), .int .u32 a, .int .i64 4, .int .u32 v] w fun e w'=>e= .returned (.agg #[.int .i64 0, .int .u32 0])∧HC p (pk M a.toNat (O8 4 v)) w'∧ah (fun i=>i=p) w w':=by
 have HB:=κ (fun w h=>gY p M (aj M.hi) a 4 2 w h hM (.inr (.inl rfl)) a0 a1 (by omega))
 rw [show(4:Int).toNat=4 from rfl,hs] at HB
 simp only [srV] at HB
 have U0:=κ (fun o=>(ah.refl (fun i=>i=p) w).alloc o)
 have HH:=κ (fun o=>HM.upto h ((ah.refl (fun _=>False) w).alloc o) id)
 have rP:=κ (fun o=>HC.upto h ((ah.refl (fun _=>False) w).alloc o) id)
 have q0:=(iF a0 a1 hs 3 (by omega) (by omega)).2
 have hp:=h.2.2.2.2.2.2
 obtain⟨⟨u0,k0⟩,z0⟩:=h.facts a (by omega)
 have HI:=κ h
 have qA:¬w.heap.size=p:=by omega
 clear h hM hs
 have b0:a<65536:=by omega
 have b1:a+1<65536:=by omega
 have b2:a+2<65536:=by omega
 have b3:a+3<65536:=by omega
 clear q0
 go_enter Tryz.func283,Tryz.ntmps283
 go_wp2_with (go_at_call 111;refine(HB.out _ (HH.out _)).mono ?_;rintro e w' ⟨rfl,rfl⟩)
 refine wp_loop_rounds 5 ?_
 rw [rounds_succ];go_wp2
 go_region
 go_wp2_with fail
 refine(jX p _ _ (by omega) (by omega) _ (((HI.out.put a.toNat (by omega) (v%256)).upto ((ah.refl (fun _=>False) _).alloc _) id).drew)).mono ?_
 rintro e w1 ⟨rfl,h1,o1⟩
 rw [sQ _ a _ a0] at h1
 have R1:=κ ((Rs.new (w.setCell ⟨p,a.toNat,none⟩ (.int .u8 (v%256))) w.heap.size (by simp)).drew.upto o1 qA)
 have U1:=κ (ah.trans (((ah.refl (fun i=>i=p) w).setCell (q:=⟨p,a.toNat,none⟩) (.inl rfl) (.int .u8 (v%256))).alloc (.cells #[.int .i64 0, .int .u32 0] 55)).drew o1)
 have rQ:=κ h1
 obtain⟨⟨u1,k1⟩,z1⟩:=h1.facts (a+1) (by omega)
 clear h1 o1
 go_wp2
 rw [rounds_succ];go_wp2
 go_region
 go_wp2_with fail
 refine(jX p _ _ (by omega) (by omega) _ ((rQ.out.put (a+1).toNat (by omega) (v/256%256)).drew)).mono ?_
 rintro e w2 ⟨rfl,h2,o2⟩
 rw [rM _ a 1 1 _ a0 rfl] at h2
 have R2:=κ ((R1.out.put qA).drew.upto o2 qA)
 have U2:=κ (ah.trans (U1.out.trans ((ah.refl (fun i=>i=p) _).setCell (q:=⟨p,(a+1).toNat,none⟩) (.inl rfl) (.int .u8 (v/256%256))).drew) o2)
 have wZ:=κ h2
 obtain⟨⟨u2,k2⟩,z2⟩:=h2.facts (a+2) (by omega)
 clear h2 o2
 go_wp2
 rw [rounds_succ];go_wp2
 go_region
 go_wp2_with fail
 refine(jX p _ _ (by omega) (by omega) _ ((wZ.out.put (a+2).toNat (by omega) (v/65536%256)).drew)).mono ?_
 rintro e w3 ⟨rfl,h3,o3⟩
 rw [rM _ a 2 2 _ a0 rfl] at h3
 have R3:=κ ((R2.out.put qA).drew.upto o3 qA)
 have U3:=κ (ah.trans (U2.out.trans ((ah.refl (fun i=>i=p) _).setCell (q:=⟨p,(a+2).toNat,none⟩) (.inl rfl) (.int .u8 (v/65536%256))).drew) o3)
 have HH3:=κ h3
 obtain⟨⟨u3,k3⟩,z3⟩:=h3.facts (a+3) (by omega)
 clear h3 o3
 go_wp2
 rw [rounds_succ];go_wp2
 go_region
 go_wp2_with fail
 refine(jX p _ _ (by omega) (by omega) _ ((HH3.out.put (a+3).toNat (by omega) (v/16777216)).drew)).mono ?_
 rintro e w4 ⟨rfl,h4,o4⟩
 rw [rM _ a 3 3 _ a0 rfl] at h4
 have R4:=κ ((R3.out.put qA).drew.upto o4 qA)
 have U4:=κ (ah.trans (U3.out.trans ((ah.refl (fun i=>i=p) _).setCell (q:=⟨p,(a+3).toNat,none⟩) (.inl rfl) (.int .u8 (v/16777216))).drew) o4)
 have HH4:=κ h4
 obtain⟨g0,g1,g2,g3,g4⟩:=R4.out
 clear h4 o4
 go_wp2
 rw [rounds_succ];go_wp2
 refine bodyPost_ret (v:= .agg #[.int .i64 0, .int .u32 0]) (by simp [results,Tryz.results283,go_sem,g0,g1,g4]) rfl ⟨rfl, ?_, ?_⟩
 ·exact HH4.out.upto (S:=fun i=>i=w.heap.size) (((ah.refl (fun i=>i=w.heap.size) _).setCell (q:=⟨w.heap.size,0,none⟩) (.inl rfl) (.int .i64 0)).setCell (q:=⟨w.heap.size,1,none⟩) (.inl rfl) (.int .u32 0)) (fun h=>qA h.symm)
 ·exact(U4.out.setCell (q:=⟨w.heap.size,0,none⟩) (.inr (Nat.le_refl _)) _).setCell (q:=⟨w.heap.size,1,none⟩) (.inr (Nat.le_refl _)) _
theorem kP (p:Nat) (M:MM) (a n v:Int) (w:World) (h:HC p M w) (hM:bQ M) (a0:0≤a) (a1:a<4294967296) (v0:0≤v) (v1:v<4294967296):
  Calls Tryz.prog 283 #[.pointer (some ⟨p,0,none⟩), .int .u32 a, .int .i64 n, .int .u32 v] w fun e w'=>e= .returned (stpV 6 (jE M a n))∧HC p (nU M a n v) w'∧ah (fun i=>i=p) w w':=by
 have keep:∀ {e':Ending},(Calls Tryz.prog 283 #[.pointer (some ⟨p,0,none⟩), .int .u32 a, .int .i64 n, .int .u32 v] w fun e w'=>e=e'∧Below w.heap.size w w')→
   Calls Tryz.prog 283 #[.pointer (some ⟨p,0,none⟩), .int .u32 a, .int .i64 n, .int .u32 v] w fun e w'=>e=e'∧HC p M w'∧ah (fun i=>i=p) w w':=by
  intro e' hc
  exact hc.mono fun e w' ⟨he,hb⟩=>⟨he,HM.upto h (ah.ak (S:=fun _=>False) hb) id,ah.ak hb⟩
 unfold jE nU
 by_cases hn:n=1∨n=2∨n=4
 ·rw [if_pos hn,if_pos hn]
  obtain⟨o,ho⟩:∃o,aQ M 2 a n.toNat=o:=⟨_,rfl⟩
  rw [ho]
  rcases o with _ | x
  ·simp only [Option.isNone_none,if_true,stpV]
   rcases hn with rfl | rfl | rfl
   ·exact Qq p M a v w h hM a0 a1 v0 v1 ho
   ·exact Qr p M a v w h hM a0 a1 v0 v1 ho
   ·exact Qs p M a v w h hM a0 a1 v0 v1 ho
  ·simp only [Option.isNone_some,Bool.false_eq_true,if_false,stpV]
   rcases hn with rfl | rfl | rfl
   ·exact keep (Di p M _ a v x w h hM a0 a1 ho)
   ·exact keep (Dj p M _ a v x w h hM a0 a1 ho)
   ·exact keep (Dk p M _ a v x w h hM a0 a1 ho)
 ·rw [if_neg hn,if_neg hn]
  exact keep (GL p a n v w hn)
theorem rU (P:RP) (M:MM) (a n r kind:Int) (w:World) (h:RM P M w) (hM:bQ M) (hr:r=1∨r=2∨r=4) (a0:0≤a) (a1:a<4294967296) (n1:n<9223372036854775808):
  Calls Tryz.prog 136 #[.pointer (some ⟨P.q,0,none⟩), .int .u32 a, .int .i64 n, .int .i64 r, .int .i64 kind] w fun e w'=>e= .returned (stpV kind (aQ M r a n.toNat))∧Below w.heap.size w w':=by
 have q1:=h.Jc
 have HH:=κ h
 have HM':=κ hM
 have HR:=κ hr
 have r0:0<r:=by omega
 have r1:r≤4:=by omega
 have rn:(r==0)=false:=by rw [beq_eq_false_iff_ne];omega
 have lq:=h.lq
 have lr:=h.lr
 have b0:=κ (fun o=>(Below.refl w.heap.size w).alloc (Nat.le_refl _) o)
 obtain⟨pq,pb,pr,pm,pt⟩:=P
 simp only at q1 lq lr
 clear h hM hr
 go_enter Tryz.func136,Tryz.ntmps136
 go_wp2
 go_loopg [11] n.toNat (fun g i wr=>∃k:Nat,g=n.toNat-k∧k≤n.toNat∧i= .int .i64 k∧Hid (∀j,j<k→lY M r (rE a j)=true)∧wr=w.alloc (.cells #[.int .i64 0, .int .u32 0] 55))
 case atStart=>exact⟨0,rfl,Nat.zero_le _,rfl,fun j hj=>absurd hj (by omega),rfl⟩
 case round=>
  obtain⟨k,hg,hk,rfl,hA,rfl⟩:=hrel
  by_cases dh:k<n.toNat
  ·have pF:(k:Int) <n:=by omega
   have k0:(0:Int)≤(k:Int):=by omega
   have hx:=Df a k
   have ex:(a+(k:Int)%4294967296)%4294967296=rE a k:=by unfold rE;omega
   obtain⟨x0,x1⟩:=hx
   obtain⟨x,GI⟩:∃x,rE a k=x:=⟨_,rfl⟩
   rw [GI] at x0 x1 ex
   have HX:=κ GI
   clear GI
   by_cases hm:65535<x
   ·go_wp2
    refine bodyPost_ret (v:= .agg #[.int .i64 kind, .int .u32 x]) (by simp [results,Tryz.results136,go_sem]) rfl ⟨?_, ?_⟩
    ·have vK:lY M r x=false:=by unfold lY;rw [decide_eq_false (by omega)];rfl
     rw [pX k dh hA (by rw [HX.out];exact vK),HX.out];rfl
    ·exact b0.out _
   ·have Gs:x≤65535:=by omega
    have q0:(x/256).toNat<256:=by omega
    have c2:=HH.out.hr (x/256).toNat q0
    have JD:lY M r x=decide (M.rt (x/256).toNat/r%2=1):=by
     unfold lY;rw [decide_eq_true (show x<65536 by omega)];rfl
    simp only at c2
    have yb:=HM'.out.2 (x/256).toNat
    generalize M.rt (x/256).toNat=y at c2 JD yb
    obtain⟨y0,y1⟩:=yb
    have d0:0≤y/r:=Int.ediv_nonneg (by omega) (by omega)
    have d1:y/r≤y:=Int.ediv_le_self _ (by omega)
    have d2:y/r<8:=by omega
    by_cases hd:y/r%2=1
    ·have vK:=κ (JD.trans (decide_eq_true hd))
     have hz:(y/r%2==0)=false:=by rw [beq_eq_false_iff_ne];omega
     clear hd JD
     go_wp2
     go_roundg (n.toNat-(k+1))
     case measure=>omega
     case rel=>exact⟨k+1,rfl,by omega,by simp,Ag hA HX vK,rfl⟩
    ·have vK:=κ (JD.trans (decide_eq_false hd))
     have hz:(y/r%2==0)=true:=by rw [beq_iff_eq];omega
     clear hd JD
     go_wp2
     refine bodyPost_ret (v:= .agg #[.int .i64 kind, .int .u32 x]) (by simp [results,Tryz.results136,go_sem]) rfl ⟨?_, ?_⟩
     ·rw [pX k dh hA (by rw [HX.out];exact vK.out),HX.out];rfl
     ·exact b0.out _
  ·have ZB:¬ (k:Int) <n:=by omega
   have oQ:k=n.toNat:=by omega
   have HK:=κ oQ
   clear oQ
   go_wp2
   refine bodyPost_ret (v:= .agg #[.int .i64 0, .int .u32 0]) (by simp [results,Tryz.results136,go_sem]) rfl ⟨?_, ?_⟩
   ·rw [sN (fun j hj=>hA.out j (by rw [HK.out];exact hj))];rfl
   ·exact b0.out _
theorem cZ {w w1:World} {ob:Obj} (hb:Below (w.alloc ob).heap.size (w.alloc ob) w1):Below w.heap.size w w1:=((Below.refl _ _).alloc (Nat.le_refl _) _).trans (hb.mono (by simp))
theorem Rs.gZ {w w1:World} (hb:Below (w.alloc (.cells #[.int .i64 0, .int .u32 0] 55)).heap.size (w.alloc (.cells #[.int .i64 0, .int .u32 0] 55)) w1):Rs w.heap.size w1:=
 (Rs.new w w.heap.size rfl).upto (ah.ak (S:=fun _=>False) hb) id
theorem Dl {a b:Int} {v:Value} (h:a=b):Ending.returned (.tuple #[.int .u32 a,v])= .returned (.tuple #[.int .u32 b,v]):=by rw [h]
theorem GN (P:RP) (M:MM) (a n x:Int) (w:World) (h:RM P M w) (hM:bQ M) (a0:0≤a) (a1:a<4294967296) (n1:n<9223372036854775808) (hs:aQ M 1 a n.toNat=some x):
  Calls Tryz.prog 147 #[.pointer (some ⟨P.q,0,none⟩), .int .u32 a, .int .i64 n] w fun e w'=>e= .returned (.tuple #[.int .u32 0, .agg #[.int .i64 5, .int .u32 x]])∧Below w.heap.size w w':=by
 have HB:=κ (fun w h=>rU P M a n 1 5 w h hM (.inl rfl) a0 a1 n1)
 rw [hs] at HB
 simp only [stpV] at HB
 have HH:=κ (fun o=>h.upto ((ah.refl (fun _=>False) w).alloc o) (fun _ _=>id))
 clear h hM hs
 go_enter Tryz.func147,Tryz.ntmps147
 go_wp2_with (go_at_call 136;refine(HB.out _ (HH.out _)).mono ?_;rintro e w1 ⟨rfl,dH⟩;obtain⟨g0,g1,g2,g3,g4⟩:=Rs.gZ dH;have B1:=κ (cZ dH);clear dH)
 go_region
 go_wp2
 refine bodyPost_ret (v:= .tuple #[.int .u32 0, .agg #[.int .i64 5, .int .u32 x]]) (by simp [results,Tryz.results147,go_sem,g0,g1,g4]) rfl ⟨rfl, ?_⟩
 exact(((B1.out.setCell (Nat.le_refl _) _).setCell (Nat.le_refl _) _).alloc (by simpa using B1.out.size) _).drew
theorem Dn (P:RP) (M:MM) (a n:Int) (w:World) (h:RM P M w) (hM:bQ M) (a0:0≤a) (a1:a<4294967296) (n1:n<9223372036854775808) (hs:aQ M 1 a n.toNat=none) (hn:¬ (n=1∨n=2∨n=4)):
  Calls Tryz.prog 147 #[.pointer (some ⟨P.q,0,none⟩), .int .u32 a, .int .i64 n] w fun e w'=>e= .returned (.tuple #[.int .u32 0, .agg #[.int .i64 0, .int .u32 0]])∧Below w.heap.size w w':=by
 have HB:=κ (fun w h=>rU P M a n 1 5 w h hM (.inl rfl) a0 a1 n1)
 rw [hs] at HB
 simp only [stpV] at HB
 have HH:=κ (fun o=>h.upto ((ah.refl (fun _=>False) w).alloc o) (fun _ _=>id))
 have e1:(n !=1)=true:=by rw [bne_iff_ne];omega
 have e2:(n !=2)=true:=by rw [bne_iff_ne];omega
 have e4:(n !=4)=true:=by rw [bne_iff_ne];omega
 clear h hM hs hn
 go_enter Tryz.func147,Tryz.ntmps147
 go_wp2_with (go_at_call 136;refine(HB.out _ (HH.out _)).mono ?_;rintro e w1 ⟨rfl,dH⟩;obtain⟨g0,g1,g2,g3,g4⟩:=Rs.gZ dH;have B1:=κ (cZ dH);clear dH)
 go_region
 go_wp2
 refine bodyPost_ret (v:= .tuple #[.int .u32 0, .agg #[.int .i64 0, .int .u32 0]]) (by simp [results,Tryz.results147,go_sem,g0,g1,g4]) rfl ⟨rfl, ?_⟩
 exact(((B1.out.setCell (Nat.le_refl _) _).setCell (Nat.le_refl _) _).alloc (by simpa using B1.out.size) _).drew
theorem Qu (P:RP) (M:MM) (a:Int) (w:World) (h:RM P M w) (hM:bQ M) (a0:0≤a) (a1:a<4294967296) (hs:aQ M 1 a 1=none):
  Calls Tryz.prog 147 #[.pointer (some ⟨P.q,0,none⟩), .int .u32 a, .int .i64 1] w fun e w'=>e= .returned (.tuple #[.int .u32 (aN M a 0), .agg #[.int .i64 0, .int .u32 0]])∧Below w.heap.size w w':=by
 have HB:=κ (fun w h=>rU P M a 1 1 5 w h hM (.inl rfl) a0 a1 (by omega))
 rw [show(1:Int).toNat=1 from rfl,hs] at HB
 simp only [stpV] at HB
 have HH:=κ (fun o=>h.upto ((ah.refl (fun _=>False) w).alloc o) (fun _ _=>id))
 have p0:=(iF a0 a1 hs 0 (by omega) (by omega)).2
 have q0:=h.wY
 have lq:=h.lq
 have lb:=h.lb
 unfold aN
 rw [Nat.add_zero]
 have b1:a<65536:=by omega
 have c0:=h.hb a.toNat (by omega)
 have r0:=hM.1 a.toNat
 generalize M.fD a.toNat=y0 at c0 r0⊢
 obtain⟨ZC,ZE⟩:=r0
 obtain⟨pq,pb,pr,pm,pt⟩:=P
 simp only at q0 lq lb c0 HB HH
 clear h hM hs p0
 go_enter Tryz.func147,Tryz.ntmps147
 go_wp2_with (go_at_call 136;refine(HB.out _ (HH.out _)).mono ?_;rintro e w1 ⟨rfl,dH⟩;obtain⟨g0,g1,g2,g3,g4⟩:=Rs.gZ dH;have B1:=κ (cZ dH);have q0':=(B1.out.cell (p:=⟨pq,0,none⟩) lq).trans q0;have c0':=(B1.out.cell (p:=⟨pb,a.toNat,none⟩) lb).trans c0;have lq':=Nat.lt_of_lt_of_le lq B1.out.size;have lb':=Nat.lt_of_lt_of_le lb B1.out.size;clear dH)
 refine wp_loop_rounds 2 ?_
 rw [rounds_succ];go_wp2
 rw [rounds_succ];go_wp2
 go_region
 go_wp2
 refine bodyPost_ret (v:= .tuple #[.int .u32 (y0), .agg #[.int .i64 0, .int .u32 0]]) (by simp [results,Tryz.results147,go_sem,g0,g1,g4]) rfl ⟨Dl (by omega), ?_⟩
 exact(((B1.out.setCell (Nat.le_refl _) _).setCell (Nat.le_refl _) _).alloc (by simpa using B1.out.size) _).drew
theorem Qv (P:RP) (M:MM) (a:Int) (w:World) (h:RM P M w) (hM:bQ M) (a0:0≤a) (a1:a<4294967296) (hs:aQ M 1 a 2=none):
  Calls Tryz.prog 147 #[.pointer (some ⟨P.q,0,none⟩), .int .u32 a, .int .i64 2] w fun e w'=>e= .returned (.tuple #[.int .u32 (aN M a 0+aN M a 1*256), .agg #[.int .i64 0, .int .u32 0]])∧Below w.heap.size w w':=by
 have HB:=κ (fun w h=>rU P M a 2 1 5 w h hM (.inl rfl) a0 a1 (by omega))
 rw [show(2:Int).toNat=2 from rfl,hs] at HB
 simp only [stpV] at HB
 have HH:=κ (fun o=>h.upto ((ah.refl (fun _=>False) w).alloc o) (fun _ _=>id))
 have p0:=(iF a0 a1 hs 1 (by omega) (by omega)).2
 have q0:=h.wY
 have lq:=h.lq
 have lb:=h.lb
 unfold aN
 rw [Nat.add_zero]
 have b1:a<65536:=by omega
 have b2:a+1<65536:=by omega
 have c0:=h.hb a.toNat (by omega)
 have r0:=hM.1 a.toNat
 have c1:=h.hb (a.toNat+1) (by omega)
 have r1:=hM.1 (a.toNat+1)
 rw [show a.toNat+1=(a+1).toNat by omega] at c1 r1
 generalize M.fD a.toNat=y0 at c0 r0⊢
 rw [show a.toNat+1=(a+1).toNat by omega]
 generalize M.fD (a+1).toNat=y1 at c1 r1⊢
 obtain⟨ZC,ZE⟩:=r0
 obtain⟨r1a,r1b⟩:=r1
 obtain⟨pq,pb,pr,pm,pt⟩:=P
 simp only at q0 lq lb c0 c1 HB HH
 clear h hM hs p0
 go_enter Tryz.func147,Tryz.ntmps147
 go_wp2_with (go_at_call 136;refine(HB.out _ (HH.out _)).mono ?_;rintro e w1 ⟨rfl,dH⟩;obtain⟨g0,g1,g2,g3,g4⟩:=Rs.gZ dH;have B1:=κ (cZ dH);have q0':=(B1.out.cell (p:=⟨pq,0,none⟩) lq).trans q0;have c0':=(B1.out.cell (p:=⟨pb,a.toNat,none⟩) lb).trans c0;have c1':=(B1.out.cell (p:=⟨pb,(a+1).toNat,none⟩) lb).trans c1;have lq':=Nat.lt_of_lt_of_le lq B1.out.size;have lb':=Nat.lt_of_lt_of_le lb B1.out.size;clear dH)
 refine wp_loop_rounds 3 ?_
 rw [rounds_succ];go_wp2
 rw [rounds_succ];go_wp2
 rw [rounds_succ];go_wp2
 go_region
 go_wp2
 refine bodyPost_ret (v:= .tuple #[.int .u32 (y1*256+y0), .agg #[.int .i64 0, .int .u32 0]]) (by simp [results,Tryz.results147,go_sem,g0,g1,g4]) rfl ⟨Dl (by omega), ?_⟩
 exact(((B1.out.setCell (Nat.le_refl _) _).setCell (Nat.le_refl _) _).alloc (by simpa using B1.out.size) _).drew
theorem Qw (P:RP) (M:MM) (a:Int) (w:World) (h:RM P M w) (hM:bQ M) (a0:0≤a) (a1:a<4294967296) (hs:aQ M 1 a 4=none):
  Calls Tryz.prog 147 #[.pointer (some ⟨P.q,0,none⟩), .int .u32 a, .int .i64 4] w fun e w'=>e= .returned (.tuple #[.int .u32 (aN M a 0+aN M a 1*256+aN M a 2*65536+aN M a 3*16777216), .agg #[.int .i64 0, .int .u32 0]])∧Below w.heap.size w w':=by
 have HB:=κ (fun w h=>rU P M a 4 1 5 w h hM (.inl rfl) a0 a1 (by omega))
 rw [show(4:Int).toNat=4 from rfl,hs] at HB
 simp only [stpV] at HB
 have HH:=κ (fun o=>h.upto ((ah.refl (fun _=>False) w).alloc o) (fun _ _=>id))
 have p0:=(iF a0 a1 hs 3 (by omega) (by omega)).2
 have q0:=h.wY
 have lq:=h.lq
 have lb:=h.lb
 unfold aN
 rw [Nat.add_zero]
 have b1:a<65536:=by omega
 have b2:a+1<65536:=by omega
 have b3:a+2<65536:=by omega
 have b4:a+3<65536:=by omega
 have c0:=h.hb a.toNat (by omega)
 have r0:=hM.1 a.toNat
 have c1:=h.hb (a.toNat+1) (by omega)
 have r1:=hM.1 (a.toNat+1)
 rw [show a.toNat+1=(a+1).toNat by omega] at c1 r1
 have c2:=h.hb (a.toNat+2) (by omega)
 have r2:=hM.1 (a.toNat+2)
 rw [show a.toNat+2=(a+2).toNat by omega] at c2 r2
 have c3:=h.hb (a.toNat+3) (by omega)
 have r3:=hM.1 (a.toNat+3)
 rw [show a.toNat+3=(a+3).toNat by omega] at c3 r3
 generalize M.fD a.toNat=y0 at c0 r0⊢
 rw [show a.toNat+1=(a+1).toNat by omega]
 generalize M.fD (a+1).toNat=y1 at c1 r1⊢
 rw [show a.toNat+2=(a+2).toNat by omega]
 generalize M.fD (a+2).toNat=y2 at c2 r2⊢
 rw [show a.toNat+3=(a+3).toNat by omega]
 generalize M.fD (a+3).toNat=y3 at c3 r3⊢
 obtain⟨ZC,ZE⟩:=r0
 obtain⟨r1a,r1b⟩:=r1
 obtain⟨r2a,r2b⟩:=r2
 obtain⟨r3a,r3b⟩:=r3
 obtain⟨pq,pb,pr,pm,pt⟩:=P
 simp only at q0 lq lb c0 c1 c2 c3 HB HH
 clear h hM hs p0
 go_enter Tryz.func147,Tryz.ntmps147
 go_wp2_with (go_at_call 136;refine(HB.out _ (HH.out _)).mono ?_;rintro e w1 ⟨rfl,dH⟩;obtain⟨g0,g1,g2,g3,g4⟩:=Rs.gZ dH;have B1:=κ (cZ dH);have q0':=(B1.out.cell (p:=⟨pq,0,none⟩) lq).trans q0;have c0':=(B1.out.cell (p:=⟨pb,a.toNat,none⟩) lb).trans c0;have c1':=(B1.out.cell (p:=⟨pb,(a+1).toNat,none⟩) lb).trans c1;have c2':=(B1.out.cell (p:=⟨pb,(a+2).toNat,none⟩) lb).trans c2;have c3':=(B1.out.cell (p:=⟨pb,(a+3).toNat,none⟩) lb).trans c3;have lq':=Nat.lt_of_lt_of_le lq B1.out.size;have lb':=Nat.lt_of_lt_of_le lb B1.out.size;clear dH)
 refine wp_loop_rounds 5 ?_
 rw [rounds_succ];go_wp2
 rw [rounds_succ];go_wp2
 rw [rounds_succ];go_wp2
 rw [rounds_succ];go_wp2
 rw [rounds_succ];go_wp2
 go_region
 go_wp2
 refine bodyPost_ret (v:= .tuple #[.int .u32 (((y3*256+y2)*256+y1)*256+y0), .agg #[.int .i64 0, .int .u32 0]]) (by simp [results,Tryz.results147,go_sem,g0,g1,g4]) rfl ⟨Dl (by omega), ?_⟩
 exact(((B1.out.setCell (Nat.le_refl _) _).setCell (Nat.le_refl _) _).alloc (by simpa using B1.out.size) _).drew
theorem iK (P:RP) (M:MM) (a n:Int) (w:World) (h:RM P M w) (hM:bQ M) (a0:0≤a) (a1:a<4294967296) (n1:n<9223372036854775808):
  Calls Tryz.prog 147 #[.pointer (some ⟨P.q,0,none⟩), .int .u32 a, .int .i64 n] w fun e w'=>e= .returned (.tuple #[.int .u32 (jD M a n),stpV 5 (aQ M 1 a n.toNat)])∧Below w.heap.size w w':=by
 unfold jD
 obtain⟨o,ho⟩:∃o,aQ M 1 a n.toNat=o:=⟨_,rfl⟩
 rw [ho]
 rcases o with _ | x
 ·simp only [Option.isNone_none,if_true,stpV]
  by_cases e1:n=1
  ·subst e1;rw [if_pos rfl];exact Qu P M a w h hM a0 a1 ho
  ·rw [if_neg e1]
   by_cases e2:n=2
   ·subst e2;rw [if_pos rfl];exact Qv P M a w h hM a0 a1 ho
   ·rw [if_neg e2]
    by_cases e4:n=4
    ·subst e4;rw [if_pos rfl];exact Qw P M a w h hM a0 a1 ho
    ·rw [if_neg e4]
     exact Dn P M a n w h hM a0 a1 n1 ho (by omega)
 ·simp only [Option.isNone_some,Bool.false_eq_true,if_false,stpV]
  exact GN P M a n x w h hM a0 a1 n1 ho
end Go.Proofs.YtcjcmnnhmajocabGreat.Me
