import Derived.Test.YtcjcmnnhmajocabGreatPmax
set_option linter.unusedVariables false
set_option linter.unusedSimpArgs false
set_option maxRecDepth 100000
set_option maxHeartbeats 16000000
namespace Go.Proofs.YtcjcmnnhmajocabGreat.Lf
open Go.RowKit Kt Ic Me
open Ot (fC OB)
variable {K:Kc} {s:Lk} {W W':World} {B:Nat}
theorem RU (d r:Nat) (f m:Int) (hd:d<8) (hr:r<8) (w:World) (a:LM K s w) (hc:1≤s.aj∧s.aj≤64) (hn:s.ops.length+60<1000000000):
  Calls Tryz.prog 85 #[.pointer (some ⟨K.h,0,none⟩), .agg #[.int .i64 0, .int .i64 d, .int .i64 r, .int .i64 f, .int .u32 m]] w fun e w'=>e= .returned (.bool true)∧LM K (s.plain 0 d r f m).2 w'∧UW K w w':=by
 have HN:=κ hn
 have HC:=κ hc
 have HR:=κ hr
 have HD:=κ hd
 have E:(s.plain 0 d r f m).2=s:=by
  unfold Lk.plain
  rw [if_pos (by decide)]
 rw [E]
 clear E
 obtain⟨A0,B0,U0⟩:=qm a #[.int .i64 0, .int .i64 d, .int .i64 r, .int .i64 f, .int .u32 m] 74
 have uI:=Tryz.underlying74
 have iI:=iM
 clear a hn hc hd hr
 go_enter Tryz.func85,Tryz.ntmps85
 go_upto_region 1 with fail
 generalize w.alloc (.cells #[.int .i64 0, .int .i64 d, .int .i64 r, .int .i64 f, .int .u32 m] 74)=w0 at*
 generalize w.heap.size=bx at*
 have R0:=κ (RS.of B0.out A0.out (Gw.refl s))
 obtain⟨_,_,_,_,_,_,_,_,_,_⟩:=R0.out.all A0.out.l
 go_wp2
 go_wp2
 go_ret
 exact⟨rfl,A0.out,U0.out⟩
theorem L9 (d r:Nat) (f m:Int) (hd:d<8) (hr:r<8) (w:World) (a:LM K s w) (hc:1≤s.aj∧s.aj≤64) (hn:s.ops.length+60<1000000000):
  Calls Tryz.prog 85 #[.pointer (some ⟨K.h,0,none⟩), .agg #[.int .i64 16, .int .i64 d, .int .i64 r, .int .i64 f, .int .u32 m]] w fun e w'=>e= .returned (.bool true)∧LM K (s.plain 16 d r f m).2 w'∧UW K w w':=by
 have HN:=κ hn
 have HC:=κ hc
 have HR:=κ hr
 have HD:=κ hd
 obtain⟨p1,bP,G1⟩:=kN _ (lF s m)
 obtain⟨p2,dM,G2⟩:=ni _ (G1.out.trans (bM p1.2 d p1.1))
 have E:(s.plain 16 d r f m).2=p2:=by
  unfold Lk.plain
  rw [if_neg (by decide),if_pos (by decide)]
  simp only [bP,dM,Int.reduceEq,↓reduceIte]
 rw [E]
 clear E
 obtain⟨A0,B0,U0⟩:=qm a #[.int .i64 16, .int .i64 d, .int .i64 r, .int .i64 f, .int .u32 m] 74
 have uI:=Tryz.underlying74
 have iI:=iM
 clear a hn hc hd hr
 go_enter Tryz.func85,Tryz.ntmps85
 go_upto_region 1 with fail
 generalize w.alloc (.cells #[.int .i64 16, .int .i64 d, .int .i64 r, .int .i64 f, .int .u32 m] 74)=w0 at*
 generalize w.heap.size=bx at*
 have R0:=κ (RS.of B0.out A0.out (Gw.refl s))
 obtain⟨_,_,_,_,_,_,_,_,_,_⟩:=R0.out.all A0.out.l
 have P1:=dF (K:=K) m w0.drew (A0.out.drew) (by have:=HN.out;omega)
 rw [bP] at P1
 have P1:=κ P1
 go_wp2
 refine wp_region_held_drew (S:=RS K s bx #[.int .i64 16, .int .i64 d, .int .i64 r, .int .i64 f, .int .u32 m]) (by kernel_rfl) (R0.out).drew (fun hHeld=> ?_)
 refine kM 0 17 (.pointer (some ⟨K.h,0,none⟩)) rfl rfl rfl rfl (by rfl) (by kernel_rfl) kD hHeld ?_
 try simp only [Act.put,aA,aB,aC]
 refine kF 1 18 (fI _ 1 (by decide)) rfl rfl rfl rfl (by rfl) (by kernel_rfl) kD hHeld ?_
 try simp only [Act.put,aA,aB,aC]
 refine kL 2 19 (fun _ h=>lI (h.b.c 1 _ rfl)) rfl rfl rfl rfl (by rfl) (by kernel_rfl) kD hHeld ?_
 try simp only [Act.put,aA,aB,aC]
 refine kM 3 20 (.pointer (some ⟨K.h,0,none⟩)) rfl rfl rfl rfl (by rfl) (by kernel_rfl) kD hHeld ?_
 try simp only [Act.put,aA,aB,aC]
 refine kF 4 21 (fI _ 4 (by decide)) rfl rfl rfl rfl (by rfl) (by kernel_rfl) kD hHeld ?_
 try simp only [Act.put,aA,aB,aC]
 refine kL 5 22 (fun _ h=>lU (h.b.c 4 _ rfl)) rfl rfl rfl rfl (by rfl) (by kernel_rfl) kD hHeld ?_
 try simp only [Act.put,aA,aB,aC]
 refine kR 6 (by kernel_rfl) rfl fun KK bF=> ?_
 go_simp
 go_wp2_with (go_at_call 117;refine P1.out.mono ?_;rintro e w1 ⟨rfl,A1,U1⟩)
 obtain⟨V1,B1,M1,R1,_,_,_,_,_,_,_,_,_,_⟩:=bW B0 ((UW.drew (K:=K) (W:=w0) A0.out.l).trans U1) A1 G1
 have P2:=dA (K:=K) d p1.1 HD.out w1 (A1) (by have:=G1.out.n;have:=HN.out;omega)
 rw [dM] at P2
 have P2:=κ P2
 clear A1 U1 P1
 clear hHeld
 refine bF.out _ _ R1 (fun hHeld=> ?_)
 clear bF KK
 try simp only [Act.put,aA,aB,aC]
 refine kR 7 (by kernel_rfl) rfl fun KK bF=> ?_
 go_simp
 go_wp2_with (go_at_call 116;refine P2.out.mono ?_;rintro e w2 ⟨rfl,A1,U1⟩)
 obtain⟨V2,B2,M2,R2,_,_,_,_,_,_,_,_,_,_⟩:=bW B1 (U1) A1 G2
 clear A1 U1 P2
 clear hHeld
 refine bF.out _ _ R2 (fun hHeld=> ?_)
 clear bF KK
 try simp only [Act.put,aA,aB,aC]
 refine wpAnyH_done (by kernel_rfl) ?_ _
 go_wp2
 go_ret
 exact⟨rfl,M2.out,((U0.out.trans V1.out).trans V2.out)⟩
theorem Mc (d r:Nat) (f m:Int) (hd:d<8) (hr:r<8) (w:World) (a:LM K s w) (hc:1≤s.aj∧s.aj≤64) (hn:s.ops.length+60<1000000000):
  Calls Tryz.prog 85 #[.pointer (some ⟨K.h,0,none⟩), .agg #[.int .i64 17, .int .i64 d, .int .i64 r, .int .i64 f, .int .u32 m]] w fun e w'=>e= .returned (.bool true)∧LM K (s.plain 17 d r f m).2 w'∧UW K w w':=by
 have HN:=κ hn
 have HC:=κ hc
 have HR:=κ hr
 have HD:=κ hd
 obtain⟨p1,bP,G1⟩:=kN _ (bG s d)
 obtain⟨p2,dM,G2⟩:=kN _ (G1.out.trans (kG p1.2))
 obtain⟨p3,je,G3⟩:=kN _ (G2.out.trans (qP p2.2 p1.1 1))
 obtain⟨p4,pJ,G4⟩:=ni _ (G3.out.trans (bM p3.2 d p3.1))
 obtain⟨p5,uM,G5⟩:=ni _ (G4.out.trans (fZ p4 11 p1.1 (-1) p2.1))
 have E:(s.plain 17 d r f m).2=p5:=by
  unfold Lk.plain
  rw [if_neg (by decide),if_neg (by decide),if_pos (by decide)]
  simp only [bP,dM,je,pJ,uM,Int.reduceEq,↓reduceIte]
 rw [E]
 clear E
 obtain⟨A0,B0,U0⟩:=qm a #[.int .i64 17, .int .i64 d, .int .i64 r, .int .i64 f, .int .u32 m] 74
 have uI:=Tryz.underlying74
 have iI:=iM
 clear a hn hc hd hr
 go_enter Tryz.func85,Tryz.ntmps85
 go_upto_region 1 with fail
 generalize w.alloc (.cells #[.int .i64 17, .int .i64 d, .int .i64 r, .int .i64 f, .int .u32 m] 74)=w0 at*
 generalize w.heap.size=bx at*
 have R0:=κ (RS.of B0.out A0.out (Gw.refl s))
 obtain⟨_,_,_,_,_,_,_,_,_,_⟩:=R0.out.all A0.out.l
 have P1:=bU (K:=K) d HD.out w0 (A0.out) (by have:=HN.out;omega)
 rw [bP] at P1
 have P1:=κ P1
 go_wp2_with (first
  | (go_at_call 118;refine P1.out.mono ?_;rintro e w1 ⟨rfl,A1,U1⟩;obtain⟨V1,B1,M1,R1,_,_,_,_,_,_,_,_,_,_⟩:=bW B0 (U1) A1 G1;have P2:=oH (K:=K) w1 (A1) (by have:=G1.out.n;have:=HN.out;omega);rw [dM] at P2;have P2:=κ P2;clear A1 U1 P1)
  | (go_at_call 119;refine P2.out.mono ?_;rintro e w2 ⟨rfl,A1,U1⟩;obtain⟨V2,B2,M2,R2,_,_,_,_,_,_,_,_,_,_⟩:=bW B1 (U1) A1 G2;have P3:=uU (K:=K) p1.1 1 w2.drew (A1.drew) (by have:=G2.out.n;have:=HN.out;omega);rw [je] at P3;have P3:=κ P3;clear A1 U1 P2))
 refine wp_region_held_drew (S:=RS K s bx #[.int .i64 17, .int .i64 d, .int .i64 r, .int .i64 f, .int .u32 m]) (by kernel_rfl) (R2).drew (fun hHeld=> ?_)
 refine kM 0 37 (.pointer (some ⟨K.h,0,none⟩)) rfl rfl rfl rfl (by rfl) (by kernel_rfl) kD hHeld ?_
 try simp only [Act.put,aA,aB,aC]
 refine kF 1 38 (fI _ 1 (by decide)) rfl rfl rfl rfl (by rfl) (by kernel_rfl) kD hHeld ?_
 try simp only [Act.put,aA,aB,aC]
 refine kL 2 39 (fun _ h=>lI (h.b.c 1 _ rfl)) rfl rfl rfl rfl (by rfl) (by kernel_rfl) kD hHeld ?_
 try simp only [Act.put,aA,aB,aC]
 refine kM 3 40 (.pointer (some ⟨K.h,0,none⟩)) rfl rfl rfl rfl (by rfl) (by kernel_rfl) kD hHeld ?_
 try simp only [Act.put,aA,aB,aC]
 refine kM 4 41 (.int .i64 p1.1) rfl rfl rfl rfl (by rfl) (by kernel_rfl) kD hHeld ?_
 try simp only [Act.put,aA,aB,aC]
 refine kM 5 42 (.int .i64 1) rfl rfl rfl rfl (by rfl) (by kernel_rfl) kD hHeld ?_
 try simp only [Act.put,aA,aB,aC]
 refine kR 6 (by kernel_rfl) rfl fun KK bF=> ?_
 go_simp
 go_wp2_with (go_at_call 120;refine P3.out.mono ?_;rintro e w3 ⟨rfl,A1,U1⟩)
 obtain⟨V3,B3,M3,R3,_,_,_,_,_,_,_,_,_,_⟩:=bW B2 ((UW.drew (K:=K) (W:=w2) M2.out.l).trans U1) A1 G3
 have P4:=dA (K:=K) d p3.1 HD.out w3 (A1) (by have:=G3.out.n;have:=HN.out;omega)
 rw [pJ] at P4
 have P4:=κ P4
 clear A1 U1 P3
 clear hHeld
 refine bF.out _ _ R3 (fun hHeld=> ?_)
 clear bF KK
 try simp only [Act.put,aA,aB,aC]
 refine kR 7 (by kernel_rfl) rfl fun KK bF=> ?_
 go_simp
 go_wp2_with (go_at_call 116;refine P4.out.mono ?_;rintro e w4 ⟨rfl,A1,U1⟩)
 obtain⟨V4,B4,M4,R4,_,_,_,_,_,_,_,_,_,_⟩:=bW B3 (U1) A1 G4
 have P5:=dX (K:=K) false 11 p1.1 (-1) p2.1 w4 (A1) (by have:=G4.out.n;have:=HN.out;omega)
 rw [uM] at P5
 have P5:=κ P5
 clear A1 U1 P4
 clear hHeld
 refine bF.out _ _ R4 (fun hHeld=> ?_)
 clear bF KK
 try simp only [Act.put,aA,aB,aC]
 refine wpAnyH_done (by kernel_rfl) ?_ _
 go_wp2_with (first
  | (go_at_call 121;refine P5.out.mono ?_;rintro e w5 ⟨rfl,A1,U1⟩;obtain⟨V5,B5,M5,R5,_,_,_,_,_,_,_,_,_,_⟩:=bW B4 (U1) A1 G5;clear A1 U1 P5))
 go_ret
 exact⟨rfl,M5.out,(((((U0.out.trans V1.out).trans V2.out).trans V3.out).trans V4.out).trans V5.out)⟩
theorem Md (d r:Nat) (f m:Int) (hd:d<8) (hr:r<8) (w:World) (a:LM K s w) (hc:1≤s.aj∧s.aj≤64) (hn:s.ops.length+60<1000000000):
  Calls Tryz.prog 85 #[.pointer (some ⟨K.h,0,none⟩), .agg #[.int .i64 18, .int .i64 d, .int .i64 r, .int .i64 f, .int .u32 m]] w fun e w'=>e= .returned (.bool true)∧LM K (s.plain 18 d r f m).2 w'∧UW K w w':=by
 have HN:=κ hn
 have HC:=κ hc
 have HR:=κ hr
 have HD:=κ hd
 obtain⟨p1,bP,G1⟩:=kN _ (bG s d)
 obtain⟨p2,dM,G2⟩:=kN _ (G1.out.trans (kG p1.2))
 obtain⟨p3,je,G3⟩:=kN _ (G2.out.trans (qP p2.2 p1.1 (-1)))
 obtain⟨p4,pJ,G4⟩:=ni _ (G3.out.trans (bM p3.2 d p3.1))
 obtain⟨p5,uM,G5⟩:=ni _ (G4.out.trans (fZ p4 12 p1.1 (-1) p2.1))
 have E:(s.plain 18 d r f m).2=p5:=by
  unfold Lk.plain
  rw [if_neg (by decide),if_neg (by decide),if_pos (by decide)]
  simp only [bP,dM,je,pJ,uM,Int.reduceEq,↓reduceIte]
 rw [E]
 clear E
 obtain⟨A0,B0,U0⟩:=qm a #[.int .i64 18, .int .i64 d, .int .i64 r, .int .i64 f, .int .u32 m] 74
 have uI:=Tryz.underlying74
 have iI:=iM
 clear a hn hc hd hr
 go_enter Tryz.func85,Tryz.ntmps85
 go_upto_region 1 with fail
 generalize w.alloc (.cells #[.int .i64 18, .int .i64 d, .int .i64 r, .int .i64 f, .int .u32 m] 74)=w0 at*
 generalize w.heap.size=bx at*
 have R0:=κ (RS.of B0.out A0.out (Gw.refl s))
 obtain⟨_,_,_,_,_,_,_,_,_,_⟩:=R0.out.all A0.out.l
 have P1:=bU (K:=K) d HD.out w0 (A0.out) (by have:=HN.out;omega)
 rw [bP] at P1
 have P1:=κ P1
 go_wp2_with (first
  | (go_at_call 118;refine P1.out.mono ?_;rintro e w1 ⟨rfl,A1,U1⟩;obtain⟨V1,B1,M1,R1,_,_,_,_,_,_,_,_,_,_⟩:=bW B0 (U1) A1 G1;have P2:=oH (K:=K) w1 (A1) (by have:=G1.out.n;have:=HN.out;omega);rw [dM] at P2;have P2:=κ P2;clear A1 U1 P1)
  | (go_at_call 119;refine P2.out.mono ?_;rintro e w2 ⟨rfl,A1,U1⟩;obtain⟨V2,B2,M2,R2,_,_,_,_,_,_,_,_,_,_⟩:=bW B1 (U1) A1 G2;have P3:=uU (K:=K) p1.1 (-1) w2.drew (A1.drew) (by have:=G2.out.n;have:=HN.out;omega);rw [je] at P3;have P3:=κ P3;clear A1 U1 P2))
 refine wp_region_held_drew (S:=RS K s bx #[.int .i64 18, .int .i64 d, .int .i64 r, .int .i64 f, .int .u32 m]) (by kernel_rfl) (R2).drew (fun hHeld=> ?_)
 refine kM 0 37 (.pointer (some ⟨K.h,0,none⟩)) rfl rfl rfl rfl (by rfl) (by kernel_rfl) kD hHeld ?_
 try simp only [Act.put,aA,aB,aC]
 refine kF 1 38 (fI _ 1 (by decide)) rfl rfl rfl rfl (by rfl) (by kernel_rfl) kD hHeld ?_
 try simp only [Act.put,aA,aB,aC]
 refine kL 2 39 (fun _ h=>lI (h.b.c 1 _ rfl)) rfl rfl rfl rfl (by rfl) (by kernel_rfl) kD hHeld ?_
 try simp only [Act.put,aA,aB,aC]
 refine kM 3 40 (.pointer (some ⟨K.h,0,none⟩)) rfl rfl rfl rfl (by rfl) (by kernel_rfl) kD hHeld ?_
 try simp only [Act.put,aA,aB,aC]
 refine kM 4 41 (.int .i64 p1.1) rfl rfl rfl rfl (by rfl) (by kernel_rfl) kD hHeld ?_
 try simp only [Act.put,aA,aB,aC]
 refine kM 5 42 (.int .i64 (-1)) rfl rfl rfl rfl (by rfl) (by kernel_rfl) kD hHeld ?_
 try simp only [Act.put,aA,aB,aC]
 refine kR 6 (by kernel_rfl) rfl fun KK bF=> ?_
 go_simp
 go_wp2_with (go_at_call 120;refine P3.out.mono ?_;rintro e w3 ⟨rfl,A1,U1⟩)
 obtain⟨V3,B3,M3,R3,_,_,_,_,_,_,_,_,_,_⟩:=bW B2 ((UW.drew (K:=K) (W:=w2) M2.out.l).trans U1) A1 G3
 have P4:=dA (K:=K) d p3.1 HD.out w3 (A1) (by have:=G3.out.n;have:=HN.out;omega)
 rw [pJ] at P4
 have P4:=κ P4
 clear A1 U1 P3
 clear hHeld
 refine bF.out _ _ R3 (fun hHeld=> ?_)
 clear bF KK
 try simp only [Act.put,aA,aB,aC]
 refine kR 7 (by kernel_rfl) rfl fun KK bF=> ?_
 go_simp
 go_wp2_with (go_at_call 116;refine P4.out.mono ?_;rintro e w4 ⟨rfl,A1,U1⟩)
 obtain⟨V4,B4,M4,R4,_,_,_,_,_,_,_,_,_,_⟩:=bW B3 (U1) A1 G4
 have P5:=dX (K:=K) false 12 p1.1 (-1) p2.1 w4 (A1) (by have:=G4.out.n;have:=HN.out;omega)
 rw [uM] at P5
 have P5:=κ P5
 clear A1 U1 P4
 clear hHeld
 refine bF.out _ _ R4 (fun hHeld=> ?_)
 clear bF KK
 try simp only [Act.put,aA,aB,aC]
 refine wpAnyH_done (by kernel_rfl) ?_ _
 go_wp2_with (first
  | (go_at_call 121;refine P5.out.mono ?_;rintro e w5 ⟨rfl,A1,U1⟩;obtain⟨V5,B5,M5,R5,_,_,_,_,_,_,_,_,_,_⟩:=bW B4 (U1) A1 G5;clear A1 U1 P5))
 go_ret
 exact⟨rfl,M5.out,(((((U0.out.trans V1.out).trans V2.out).trans V3.out).trans V4.out).trans V5.out)⟩
theorem MC (d r:Nat) (f m:Int) (hd:d<8) (hr:r<8) (w:World) (a:LM K s w) (hc:1≤s.aj∧s.aj≤64) (hn:s.ops.length+60<1000000000):
  Calls Tryz.prog 85 #[.pointer (some ⟨K.h,0,none⟩), .agg #[.int .i64 19, .int .i64 d, .int .i64 r, .int .i64 f, .int .u32 m]] w fun e w'=>e= .returned (.bool true)∧LM K (s.plain 19 d r f m).2 w'∧UW K w w':=by
 have HN:=κ hn
 have HC:=κ hc
 have HR:=κ hr
 have HD:=κ hd
 obtain⟨p1,bP,G1⟩:=kN _ (bG s d)
 obtain⟨p2,dM,G2⟩:=kN _ (G1.out.trans (lF p1.2 0))
 obtain⟨p3,je,G3⟩:=kN _ (G2.out.trans (Ie p2.2 1 p1.1))
 obtain⟨p4,pJ,G4⟩:=ni _ (G3.out.trans (bM p3.2 d p3.1))
 obtain⟨p5,uM,G5⟩:=ni _ (G4.out.trans (fZ p4 3 p2.1 p1.1 (-1)))
 have E:(s.plain 19 d r f m).2=p5:=by
  unfold Lk.plain
  rw [if_neg (by decide),if_neg (by decide),if_neg (by decide),if_pos (by decide)]
  simp only [bP,dM,je,pJ,uM,Int.reduceEq,↓reduceIte]
 rw [E]
 clear E
 obtain⟨A0,B0,U0⟩:=qm a #[.int .i64 19, .int .i64 d, .int .i64 r, .int .i64 f, .int .u32 m] 74
 have uI:=Tryz.underlying74
 have iI:=iM
 clear a hn hc hd hr
 go_enter Tryz.func85,Tryz.ntmps85
 go_upto_region 1 with fail
 generalize w.alloc (.cells #[.int .i64 19, .int .i64 d, .int .i64 r, .int .i64 f, .int .u32 m] 74)=w0 at*
 generalize w.heap.size=bx at*
 have R0:=κ (RS.of B0.out A0.out (Gw.refl s))
 obtain⟨_,_,_,_,_,_,_,_,_,_⟩:=R0.out.all A0.out.l
 have P1:=bU (K:=K) d HD.out w0 (A0.out) (by have:=HN.out;omega)
 rw [bP] at P1
 have P1:=κ P1
 go_wp2_with (first
  | (go_at_call 118;refine P1.out.mono ?_;rintro e w1 ⟨rfl,A1,U1⟩;obtain⟨V1,B1,M1,R1,_,_,_,_,_,_,_,_,_,_⟩:=bW B0 (U1) A1 G1;have P2:=dF (K:=K) 0 w1 (A1) (by have:=G1.out.n;have:=HN.out;omega);rw [dM] at P2;have P2:=κ P2;clear A1 U1 P1)
  | (go_at_call 117;refine P2.out.mono ?_;rintro e w2 ⟨rfl,A1,U1⟩;obtain⟨V2,B2,M2,R2,_,_,_,_,_,_,_,_,_,_⟩:=bW B1 (U1) A1 G2;have P3:=yQ (K:=K) 1 p1.1 w2.drew (A1.drew) (by have:=G2.out.n;have:=HN.out;omega);rw [je] at P3;have P3:=κ P3;clear A1 U1 P2))
 refine wp_region_held_drew (S:=RS K s bx #[.int .i64 19, .int .i64 d, .int .i64 r, .int .i64 f, .int .u32 m]) (by kernel_rfl) (R2).drew (fun hHeld=> ?_)
 refine kM 0 59 (.pointer (some ⟨K.h,0,none⟩)) rfl rfl rfl rfl (by rfl) (by kernel_rfl) kD hHeld ?_
 try simp only [Act.put,aA,aB,aC]
 refine kF 1 60 (fI _ 1 (by decide)) rfl rfl rfl rfl (by rfl) (by kernel_rfl) kD hHeld ?_
 try simp only [Act.put,aA,aB,aC]
 refine kL 2 61 (fun _ h=>lI (h.b.c 1 _ rfl)) rfl rfl rfl rfl (by rfl) (by kernel_rfl) kD hHeld ?_
 try simp only [Act.put,aA,aB,aC]
 refine kM 3 62 (.pointer (some ⟨K.h,0,none⟩)) rfl rfl rfl rfl (by rfl) (by kernel_rfl) kD hHeld ?_
 try simp only [Act.put,aA,aB,aC]
 refine kM 4 63 (.int .i64 p1.1) rfl rfl rfl rfl (by rfl) (by kernel_rfl) kD hHeld ?_
 try simp only [Act.put,aA,aB,aC]
 refine kR 5 (by kernel_rfl) rfl fun KK bF=> ?_
 go_simp
 go_wp2_with (go_at_call 122;refine P3.out.mono ?_;rintro e w3 ⟨rfl,A1,U1⟩)
 obtain⟨V3,B3,M3,R3,_,_,_,_,_,_,_,_,_,_⟩:=bW B2 ((UW.drew (K:=K) (W:=w2) M2.out.l).trans U1) A1 G3
 have P4:=dA (K:=K) d p3.1 HD.out w3 (A1) (by have:=G3.out.n;have:=HN.out;omega)
 rw [pJ] at P4
 have P4:=κ P4
 clear A1 U1 P3
 clear hHeld
 refine bF.out _ _ R3 (fun hHeld=> ?_)
 clear bF KK
 try simp only [Act.put,aA,aB,aC]
 refine kR 6 (by kernel_rfl) rfl fun KK bF=> ?_
 go_simp
 go_wp2_with (go_at_call 116;refine P4.out.mono ?_;rintro e w4 ⟨rfl,A1,U1⟩)
 obtain⟨V4,B4,M4,R4,_,_,_,_,_,_,_,_,_,_⟩:=bW B3 (U1) A1 G4
 have P5:=dX (K:=K) false 3 p2.1 p1.1 (-1) w4 (A1) (by have:=G4.out.n;have:=HN.out;omega)
 rw [uM] at P5
 have P5:=κ P5
 clear A1 U1 P4
 clear hHeld
 refine bF.out _ _ R4 (fun hHeld=> ?_)
 clear bF KK
 try simp only [Act.put,aA,aB,aC]
 refine wpAnyH_done (by kernel_rfl) ?_ _
 go_wp2_with (first
  | (go_at_call 121;refine P5.out.mono ?_;rintro e w5 ⟨rfl,A1,U1⟩;obtain⟨V5,B5,M5,R5,_,_,_,_,_,_,_,_,_,_⟩:=bW B4 (U1) A1 G5;clear A1 U1 P5))
 go_ret
 exact⟨rfl,M5.out,(((((U0.out.trans V1.out).trans V2.out).trans V3.out).trans V4.out).trans V5.out)⟩
theorem MF (d r:Nat) (f m:Int) (hd:d<8) (hr:r<8) (w:World) (a:LM K s w) (hc:1≤s.aj∧s.aj≤64) (hn:s.ops.length+60<1000000000):
  Calls Tryz.prog 85 #[.pointer (some ⟨K.h,0,none⟩), .agg #[.int .i64 20, .int .i64 d, .int .i64 r, .int .i64 f, .int .u32 m]] w fun e w'=>e= .returned (.bool true)∧LM K (s.plain 20 d r f m).2 w'∧UW K w w':=by
 have HN:=κ hn
 have HC:=κ hc
 have HR:=κ hr
 have HD:=κ hd
 obtain⟨p1,bP,G1⟩:=kN _ (bG s d)
 obtain⟨p2,dM,G2⟩:=kN _ (G1.out.trans (Ie p1.2 0 p1.1))
 obtain⟨p3,je,G3⟩:=ni _ (G2.out.trans (bM p2.2 d p2.1))
 have E:(s.plain 20 d r f m).2=p3:=by
  unfold Lk.plain
  rw [if_neg (by decide),if_neg (by decide),if_neg (by decide),if_neg (by decide),if_pos (by decide)]
  simp only [bP,dM,je,Int.reduceEq,↓reduceIte]
 rw [E]
 clear E
 obtain⟨A0,B0,U0⟩:=qm a #[.int .i64 20, .int .i64 d, .int .i64 r, .int .i64 f, .int .u32 m] 74
 have uI:=Tryz.underlying74
 have iI:=iM
 clear a hn hc hd hr
 go_enter Tryz.func85,Tryz.ntmps85
 go_upto_region 1 with fail
 generalize w.alloc (.cells #[.int .i64 20, .int .i64 d, .int .i64 r, .int .i64 f, .int .u32 m] 74)=w0 at*
 generalize w.heap.size=bx at*
 have R0:=κ (RS.of B0.out A0.out (Gw.refl s))
 obtain⟨_,_,_,_,_,_,_,_,_,_⟩:=R0.out.all A0.out.l
 have P1:=bU (K:=K) d HD.out w0.drew (A0.out.drew) (by have:=HN.out;omega)
 rw [bP] at P1
 have P1:=κ P1
 go_wp2
 refine wp_region_held_drew (S:=RS K s bx #[.int .i64 20, .int .i64 d, .int .i64 r, .int .i64 f, .int .u32 m]) (by kernel_rfl) (R0.out).drew (fun hHeld=> ?_)
 refine kM 0 73 (.pointer (some ⟨K.h,0,none⟩)) rfl rfl rfl rfl (by rfl) (by kernel_rfl) kD hHeld ?_
 try simp only [Act.put,aA,aB,aC]
 refine kF 1 74 (fI _ 1 (by decide)) rfl rfl rfl rfl (by rfl) (by kernel_rfl) kD hHeld ?_
 try simp only [Act.put,aA,aB,aC]
 refine kL 2 75 (fun _ h=>lI (h.b.c 1 _ rfl)) rfl rfl rfl rfl (by rfl) (by kernel_rfl) kD hHeld ?_
 try simp only [Act.put,aA,aB,aC]
 refine kM 3 76 (.pointer (some ⟨K.h,0,none⟩)) rfl rfl rfl rfl (by rfl) (by kernel_rfl) kD hHeld ?_
 try simp only [Act.put,aA,aB,aC]
 refine kM 4 77 (.pointer (some ⟨K.h,0,none⟩)) rfl rfl rfl rfl (by rfl) (by kernel_rfl) kD hHeld ?_
 try simp only [Act.put,aA,aB,aC]
 refine kF 5 78 (fI _ 1 (by decide)) rfl rfl rfl rfl (by rfl) (by kernel_rfl) kD hHeld ?_
 try simp only [Act.put,aA,aB,aC]
 refine kL 6 79 (fun _ h=>lI (h.b.c 1 _ rfl)) rfl rfl rfl rfl (by rfl) (by kernel_rfl) kD hHeld ?_
 try simp only [Act.put,aA,aB,aC]
 refine kR 7 (by kernel_rfl) rfl fun KK bF=> ?_
 go_simp
 go_wp2_with (go_at_call 118;refine P1.out.mono ?_;rintro e w1 ⟨rfl,A1,U1⟩)
 obtain⟨V1,B1,M1,R1,_,_,_,_,_,_,_,_,_,_⟩:=bW B0 ((UW.drew (K:=K) (W:=w0) A0.out.l).trans U1) A1 G1
 have P2:=yQ (K:=K) 0 p1.1 w1 (A1) (by have:=G1.out.n;have:=HN.out;omega)
 rw [dM] at P2
 have P2:=κ P2
 clear A1 U1 P1
 clear hHeld
 refine bF.out _ _ R1 (fun hHeld=> ?_)
 clear bF KK
 try simp only [Act.put,aA,aB,aC]
 refine kR 8 (by kernel_rfl) rfl fun KK bF=> ?_
 go_simp
 go_wp2_with (go_at_call 122;refine P2.out.mono ?_;rintro e w2 ⟨rfl,A1,U1⟩)
 obtain⟨V2,B2,M2,R2,_,_,_,_,_,_,_,_,_,_⟩:=bW B1 (U1) A1 G2
 have P3:=dA (K:=K) d p2.1 HD.out w2 (A1) (by have:=G2.out.n;have:=HN.out;omega)
 rw [je] at P3
 have P3:=κ P3
 clear A1 U1 P2
 clear hHeld
 refine bF.out _ _ R2 (fun hHeld=> ?_)
 clear bF KK
 try simp only [Act.put,aA,aB,aC]
 refine kR 9 (by kernel_rfl) rfl fun KK bF=> ?_
 go_simp
 go_wp2_with (go_at_call 116;refine P3.out.mono ?_;rintro e w3 ⟨rfl,A1,U1⟩)
 obtain⟨V3,B3,M3,R3,_,_,_,_,_,_,_,_,_,_⟩:=bW B2 (U1) A1 G3
 clear A1 U1 P3
 clear hHeld
 refine bF.out _ _ R3 (fun hHeld=> ?_)
 clear bF KK
 try simp only [Act.put,aA,aB,aC]
 refine wpAnyH_done (by kernel_rfl) ?_ _
 go_wp2
 go_ret
 exact⟨rfl,M3.out,(((U0.out.trans V1.out).trans V2.out).trans V3.out)⟩
theorem MG (d r:Nat) (f m:Int) (hd:d<8) (hr:r<8) (w:World) (a:LM K s w) (hc:1≤s.aj∧s.aj≤64) (hn:s.ops.length+60<1000000000):
  Calls Tryz.prog 85 #[.pointer (some ⟨K.h,0,none⟩), .agg #[.int .i64 21, .int .i64 d, .int .i64 r, .int .i64 f, .int .u32 m]] w fun e w'=>e= .returned (.bool true)∧LM K (s.plain 21 d r f m).2 w'∧UW K w w':=by
 have HN:=κ hn
 have HC:=κ hc
 have HR:=κ hr
 have HD:=κ hd
 obtain⟨p1,bP,G1⟩:=kN _ (pI s f)
 obtain⟨p2,dM,G2⟩:=ni _ (G1.out.trans (bM p1.2 d p1.1))
 have E:(s.plain 21 d r f m).2=p2:=by
  unfold Lk.plain
  rw [if_neg (by decide),if_neg (by decide),if_neg (by decide),if_neg (by decide),if_neg (by decide),if_pos (by decide)]
  simp only [bP,dM,Int.reduceEq,↓reduceIte]
 rw [E]
 clear E
 obtain⟨A0,B0,U0⟩:=qm a #[.int .i64 21, .int .i64 d, .int .i64 r, .int .i64 f, .int .u32 m] 74
 have uI:=Tryz.underlying74
 have iI:=iM
 clear a hn hc hd hr
 go_enter Tryz.func85,Tryz.ntmps85
 go_upto_region 1 with fail
 generalize w.alloc (.cells #[.int .i64 21, .int .i64 d, .int .i64 r, .int .i64 f, .int .u32 m] 74)=w0 at*
 generalize w.heap.size=bx at*
 have R0:=κ (RS.of B0.out A0.out (Gw.refl s))
 obtain⟨_,_,_,_,_,_,_,_,_,_⟩:=R0.out.all A0.out.l
 have P1:=tH (K:=K) f w0.drew (A0.out.drew) (by have:=HN.out;omega)
 rw [bP] at P1
 have P1:=κ P1
 go_wp2
 refine wp_region_held_drew (S:=RS K s bx #[.int .i64 21, .int .i64 d, .int .i64 r, .int .i64 f, .int .u32 m]) (by kernel_rfl) (R0.out).drew (fun hHeld=> ?_)
 refine kM 0 85 (.pointer (some ⟨K.h,0,none⟩)) rfl rfl rfl rfl (by rfl) (by kernel_rfl) kD hHeld ?_
 try simp only [Act.put,aA,aB,aC]
 refine kF 1 86 (fI _ 1 (by decide)) rfl rfl rfl rfl (by rfl) (by kernel_rfl) kD hHeld ?_
 try simp only [Act.put,aA,aB,aC]
 refine kL 2 87 (fun _ h=>lI (h.b.c 1 _ rfl)) rfl rfl rfl rfl (by rfl) (by kernel_rfl) kD hHeld ?_
 try simp only [Act.put,aA,aB,aC]
 refine kM 3 88 (.pointer (some ⟨K.h,0,none⟩)) rfl rfl rfl rfl (by rfl) (by kernel_rfl) kD hHeld ?_
 try simp only [Act.put,aA,aB,aC]
 refine kF 4 89 (fI _ 3 (by decide)) rfl rfl rfl rfl (by rfl) (by kernel_rfl) kD hHeld ?_
 try simp only [Act.put,aA,aB,aC]
 refine kL 5 90 (fun _ h=>lI (h.b.c 3 _ rfl)) rfl rfl rfl rfl (by rfl) (by kernel_rfl) kD hHeld ?_
 try simp only [Act.put,aA,aB,aC]
 refine kR 6 (by kernel_rfl) rfl fun KK bF=> ?_
 go_simp
 go_wp2_with (go_at_call 123;refine P1.out.mono ?_;rintro e w1 ⟨rfl,A1,U1⟩)
 obtain⟨V1,B1,M1,R1,_,_,_,_,_,_,_,_,_,_⟩:=bW B0 ((UW.drew (K:=K) (W:=w0) A0.out.l).trans U1) A1 G1
 have P2:=dA (K:=K) d p1.1 HD.out w1 (A1) (by have:=G1.out.n;have:=HN.out;omega)
 rw [dM] at P2
 have P2:=κ P2
 clear A1 U1 P1
 clear hHeld
 refine bF.out _ _ R1 (fun hHeld=> ?_)
 clear bF KK
 try simp only [Act.put,aA,aB,aC]
 refine kR 7 (by kernel_rfl) rfl fun KK bF=> ?_
 go_simp
 go_wp2_with (go_at_call 116;refine P2.out.mono ?_;rintro e w2 ⟨rfl,A1,U1⟩)
 obtain⟨V2,B2,M2,R2,_,_,_,_,_,_,_,_,_,_⟩:=bW B1 (U1) A1 G2
 clear A1 U1 P2
 clear hHeld
 refine bF.out _ _ R2 (fun hHeld=> ?_)
 clear bF KK
 try simp only [Act.put,aA,aB,aC]
 refine wpAnyH_done (by kernel_rfl) ?_ _
 go_wp2
 go_ret
 exact⟨rfl,M2.out,((U0.out.trans V1.out).trans V2.out)⟩
theorem MH (d r:Nat) (f m:Int) (hd:d<8) (hr:r<8) (w:World) (a:LM K s w) (hc:1≤s.aj∧s.aj≤64) (hn:s.ops.length+60<1000000000):
  Calls Tryz.prog 85 #[.pointer (some ⟨K.h,0,none⟩), .agg #[.int .i64 22, .int .i64 d, .int .i64 r, .int .i64 f, .int .u32 m]] w fun e w'=>e= .returned (.bool true)∧LM K (s.plain 22 d r f m).2 w'∧UW K w w':=by
 have HN:=κ hn
 have HC:=κ hc
 have HR:=κ hr
 have HD:=κ hd
 obtain⟨p1,bP,G1⟩:=kN _ (bG s r)
 obtain⟨p2,dM,G2⟩:=ni _ (G1.out.trans (bM p1.2 d p1.1))
 have E:(s.plain 22 d r f m).2=p2:=by
  unfold Lk.plain
  rw [if_neg (by decide),if_neg (by decide),if_neg (by decide),if_neg (by decide),if_neg (by decide),if_neg (by decide),if_pos (by decide)]
  simp only [bP,dM,Int.reduceEq,↓reduceIte]
 rw [E]
 clear E
 obtain⟨A0,B0,U0⟩:=qm a #[.int .i64 22, .int .i64 d, .int .i64 r, .int .i64 f, .int .u32 m] 74
 have uI:=Tryz.underlying74
 have iI:=iM
 clear a hn hc hd hr
 go_enter Tryz.func85,Tryz.ntmps85
 go_upto_region 1 with fail
 generalize w.alloc (.cells #[.int .i64 22, .int .i64 d, .int .i64 r, .int .i64 f, .int .u32 m] 74)=w0 at*
 generalize w.heap.size=bx at*
 have R0:=κ (RS.of B0.out A0.out (Gw.refl s))
 obtain⟨_,_,_,_,_,_,_,_,_,_⟩:=R0.out.all A0.out.l
 have P1:=bU (K:=K) r HR.out w0.drew (A0.out.drew) (by have:=HN.out;omega)
 rw [bP] at P1
 have P1:=κ P1
 go_wp2
 refine wp_region_held_drew (S:=RS K s bx #[.int .i64 22, .int .i64 d, .int .i64 r, .int .i64 f, .int .u32 m]) (by kernel_rfl) (R0.out).drew (fun hHeld=> ?_)
 refine kM 0 95 (.pointer (some ⟨K.h,0,none⟩)) rfl rfl rfl rfl (by rfl) (by kernel_rfl) kD hHeld ?_
 try simp only [Act.put,aA,aB,aC]
 refine kF 1 96 (fI _ 1 (by decide)) rfl rfl rfl rfl (by rfl) (by kernel_rfl) kD hHeld ?_
 try simp only [Act.put,aA,aB,aC]
 refine kL 2 97 (fun _ h=>lI (h.b.c 1 _ rfl)) rfl rfl rfl rfl (by rfl) (by kernel_rfl) kD hHeld ?_
 try simp only [Act.put,aA,aB,aC]
 refine kM 3 98 (.pointer (some ⟨K.h,0,none⟩)) rfl rfl rfl rfl (by rfl) (by kernel_rfl) kD hHeld ?_
 try simp only [Act.put,aA,aB,aC]
 refine kF 4 99 (fI _ 2 (by decide)) rfl rfl rfl rfl (by rfl) (by kernel_rfl) kD hHeld ?_
 try simp only [Act.put,aA,aB,aC]
 refine kL 5 100 (fun _ h=>lI (h.b.c 2 _ rfl)) rfl rfl rfl rfl (by rfl) (by kernel_rfl) kD hHeld ?_
 try simp only [Act.put,aA,aB,aC]
 refine kR 6 (by kernel_rfl) rfl fun KK bF=> ?_
 go_simp
 go_wp2_with (go_at_call 118;refine P1.out.mono ?_;rintro e w1 ⟨rfl,A1,U1⟩)
 obtain⟨V1,B1,M1,R1,_,_,_,_,_,_,_,_,_,_⟩:=bW B0 ((UW.drew (K:=K) (W:=w0) A0.out.l).trans U1) A1 G1
 have P2:=dA (K:=K) d p1.1 HD.out w1 (A1) (by have:=G1.out.n;have:=HN.out;omega)
 rw [dM] at P2
 have P2:=κ P2
 clear A1 U1 P1
 clear hHeld
 refine bF.out _ _ R1 (fun hHeld=> ?_)
 clear bF KK
 try simp only [Act.put,aA,aB,aC]
 refine kR 7 (by kernel_rfl) rfl fun KK bF=> ?_
 go_simp
 go_wp2_with (go_at_call 116;refine P2.out.mono ?_;rintro e w2 ⟨rfl,A1,U1⟩)
 obtain⟨V2,B2,M2,R2,_,_,_,_,_,_,_,_,_,_⟩:=bW B1 (U1) A1 G2
 clear A1 U1 P2
 clear hHeld
 refine bF.out _ _ R2 (fun hHeld=> ?_)
 clear bF KK
 try simp only [Act.put,aA,aB,aC]
 refine wpAnyH_done (by kernel_rfl) ?_ _
 go_wp2
 go_ret
 exact⟨rfl,M2.out,((U0.out.trans V1.out).trans V2.out)⟩
theorem MI (d r:Nat) (f m:Int) (hd:d<8) (hr:r<8) (w:World) (a:LM K s w) (hc:1≤s.aj∧s.aj≤64) (hn:s.ops.length+60<1000000000):
  Calls Tryz.prog 85 #[.pointer (some ⟨K.h,0,none⟩), .agg #[.int .i64 23, .int .i64 d, .int .i64 r, .int .i64 f, .int .u32 m]] w fun e w'=>e= .returned (.bool true)∧LM K (s.plain 23 d r f m).2 w'∧UW K w w':=by
 have HN:=κ hn
 have HC:=κ hc
 have HR:=κ hr
 have HD:=κ hd
 obtain⟨p1,bP,G1⟩:=kN _ (kE s r m)
 obtain⟨p2,dM,G2⟩:=ni _ (G1.out.trans (bM p1.2 d p1.1))
 have E:(s.plain 23 d r f m).2=p2:=by
  unfold Lk.plain
  rw [if_neg (by decide),if_neg (by decide),if_neg (by decide),if_neg (by decide),if_neg (by decide),if_neg (by decide),if_neg (by decide),if_pos (by decide)]
  simp only [bP,dM,Int.reduceEq,↓reduceIte]
 rw [E]
 clear E
 obtain⟨A0,B0,U0⟩:=qm a #[.int .i64 23, .int .i64 d, .int .i64 r, .int .i64 f, .int .u32 m] 74
 have uI:=Tryz.underlying74
 have iI:=iM
 clear a hn hc hd hr
 go_enter Tryz.func85,Tryz.ntmps85
 go_upto_region 1 with fail
 generalize w.alloc (.cells #[.int .i64 23, .int .i64 d, .int .i64 r, .int .i64 f, .int .u32 m] 74)=w0 at*
 generalize w.heap.size=bx at*
 have R0:=κ (RS.of B0.out A0.out (Gw.refl s))
 obtain⟨_,_,_,_,_,_,_,_,_,_⟩:=R0.out.all A0.out.l
 have P1:=oG (K:=K) 23 d f m r HR.out w0.drew (A0.out.drew) (by have:=HN.out;omega)
 rw [bP] at P1
 have P1:=κ P1
 go_wp2
 refine wp_region_held_drew (S:=RS K s bx #[.int .i64 23, .int .i64 d, .int .i64 r, .int .i64 f, .int .u32 m]) (by kernel_rfl) (R0.out).drew (fun hHeld=> ?_)
 refine kM 0 105 (.pointer (some ⟨K.h,0,none⟩)) rfl rfl rfl rfl (by rfl) (by kernel_rfl) kD hHeld ?_
 try simp only [Act.put,aA,aB,aC]
 refine kF 1 106 (fI _ 1 (by decide)) rfl rfl rfl rfl (by rfl) (by kernel_rfl) kD hHeld ?_
 try simp only [Act.put,aA,aB,aC]
 refine kL 2 107 (fun _ h=>lI (h.b.c 1 _ rfl)) rfl rfl rfl rfl (by rfl) (by kernel_rfl) kD hHeld ?_
 try simp only [Act.put,aA,aB,aC]
 refine kM 3 108 (.pointer (some ⟨K.h,0,none⟩)) rfl rfl rfl rfl (by rfl) (by kernel_rfl) kD hHeld ?_
 try simp only [Act.put,aA,aB,aC]
 refine kY 4 109 (.agg #[.int .i64 23, .int .i64 d, .int .i64 r, .int .i64 f, .int .u32 m]) rfl rfl (by kernel_rfl) kD (yieldsIf_load_mid (by rfl) _ _ rfl _ _ rfl _ _ (fun w h=>h.b.Y6) uI rfl iI) hHeld ?_
 try simp only [Act.put,aA,aB,aC]
 refine kR 5 (by kernel_rfl) rfl fun KK bF=> ?_
 go_simp
 go_wp2_with (go_at_call 124;refine P1.out.mono ?_;rintro e w1 ⟨rfl,A1,U1⟩)
 obtain⟨V1,B1,M1,R1,_,_,_,_,_,_,_,_,_,_⟩:=bW B0 ((UW.drew (K:=K) (W:=w0) A0.out.l).trans U1) A1 G1
 have P2:=dA (K:=K) d p1.1 HD.out w1 (A1) (by have:=G1.out.n;have:=HN.out;omega)
 rw [dM] at P2
 have P2:=κ P2
 clear A1 U1 P1
 clear hHeld
 refine bF.out _ _ R1 (fun hHeld=> ?_)
 clear bF KK
 try simp only [Act.put,aA,aB,aC]
 refine kR 6 (by kernel_rfl) rfl fun KK bF=> ?_
 go_simp
 go_wp2_with (go_at_call 116;refine P2.out.mono ?_;rintro e w2 ⟨rfl,A1,U1⟩)
 obtain⟨V2,B2,M2,R2,_,_,_,_,_,_,_,_,_,_⟩:=bW B1 (U1) A1 G2
 clear A1 U1 P2
 clear hHeld
 refine bF.out _ _ R2 (fun hHeld=> ?_)
 clear bF KK
 try simp only [Act.put,aA,aB,aC]
 refine wpAnyH_done (by kernel_rfl) ?_ _
 go_wp2
 go_ret
 exact⟨rfl,M2.out,((U0.out.trans V1.out).trans V2.out)⟩
theorem MJ (d r:Nat) (f m:Int) (hd:d<8) (hr:r<8) (f0:0≤f) (f1:f<16) (w:World) (a:LM K s w) (hc:1≤s.aj∧s.aj≤64) (hn:s.ops.length+60<1000000000):
  Calls Tryz.prog 85 #[.pointer (some ⟨K.h,0,none⟩), .agg #[.int .i64 27, .int .i64 d, .int .i64 r, .int .i64 f, .int .u32 m]] w fun e w'=>e= .returned (.bool true)∧LM K (s.plain 27 d r f m).2 w'∧UW K w w':=by
 have HN:=κ hn
 have HC:=κ hc
 have HR:=κ hr
 have HD:=κ hd
 have HF0:=κ f0
 have HF1:=κ f1
 obtain⟨p1,bP,G1⟩:=kN _ (bG s r)
 obtain⟨p2,dM,G2⟩:=ni _ (G1.out.trans (wJ p1.2 f d p1.1))
 have E:(s.plain 27 d r f m).2=p2:=by
  unfold Lk.plain
  rw [if_neg (by decide),if_neg (by decide),if_neg (by decide),if_neg (by decide),if_neg (by decide),if_neg (by decide),if_neg (by decide),if_neg (by decide),if_pos (by decide)]
  simp only [bP,dM,Int.reduceEq,↓reduceIte]
 rw [E]
 clear E
 obtain⟨A0,B0,U0⟩:=qm a #[.int .i64 27, .int .i64 d, .int .i64 r, .int .i64 f, .int .u32 m] 74
 have uI:=Tryz.underlying74
 have iI:=iM
 clear a hn hc hd hr
 go_enter Tryz.func85,Tryz.ntmps85
 go_upto_region 1 with fail
 generalize w.alloc (.cells #[.int .i64 27, .int .i64 d, .int .i64 r, .int .i64 f, .int .u32 m] 74)=w0 at*
 generalize w.heap.size=bx at*
 have R0:=κ (RS.of B0.out A0.out (Gw.refl s))
 obtain⟨_,_,_,_,_,_,_,_,_,_⟩:=R0.out.all A0.out.l
 have P1:=bU (K:=K) r HR.out w0.drew (A0.out.drew) (by have:=HN.out;omega)
 rw [bP] at P1
 have P1:=κ P1
 go_wp2
 refine wp_region_held_drew (S:=RS K s bx #[.int .i64 27, .int .i64 d, .int .i64 r, .int .i64 f, .int .u32 m]) (by kernel_rfl) (R0.out).drew (fun hHeld=> ?_)
 refine kM 0 114 (.pointer (some ⟨K.h,0,none⟩)) rfl rfl rfl rfl (by rfl) (by kernel_rfl) kD hHeld ?_
 try simp only [Act.put,aA,aB,aC]
 refine kF 1 115 (fI _ 3 (by decide)) rfl rfl rfl rfl (by rfl) (by kernel_rfl) kD hHeld ?_
 try simp only [Act.put,aA,aB,aC]
 refine kL 2 116 (fun _ h=>lI (h.b.c 3 _ rfl)) rfl rfl rfl rfl (by rfl) (by kernel_rfl) kD hHeld ?_
 try simp only [Act.put,aA,aB,aC]
 refine kF 3 117 (fI _ 1 (by decide)) rfl rfl rfl rfl (by rfl) (by kernel_rfl) kD hHeld ?_
 try simp only [Act.put,aA,aB,aC]
 refine kL 4 118 (fun _ h=>lI (h.b.c 1 _ rfl)) rfl rfl rfl rfl (by rfl) (by kernel_rfl) kD hHeld ?_
 try simp only [Act.put,aA,aB,aC]
 refine kM 5 119 (.pointer (some ⟨K.h,0,none⟩)) rfl rfl rfl rfl (by rfl) (by kernel_rfl) kD hHeld ?_
 try simp only [Act.put,aA,aB,aC]
 refine kF 6 120 (fI _ 2 (by decide)) rfl rfl rfl rfl (by rfl) (by kernel_rfl) kD hHeld ?_
 try simp only [Act.put,aA,aB,aC]
 refine kL 7 121 (fun _ h=>lI (h.b.c 2 _ rfl)) rfl rfl rfl rfl (by rfl) (by kernel_rfl) kD hHeld ?_
 try simp only [Act.put,aA,aB,aC]
 refine kR 8 (by kernel_rfl) rfl fun KK bF=> ?_
 go_simp
 go_wp2_with (go_at_call 118;refine P1.out.mono ?_;rintro e w1 ⟨rfl,A1,U1⟩)
 obtain⟨V1,B1,M1,R1,_,_,_,_,_,_,_,_,_,_⟩:=bW B0 ((UW.drew (K:=K) (W:=w0) A0.out.l).trans U1) A1 G1
 have P2:=yX (K:=K) f p1.1 d HD.out HF0.out HF1.out w1 (A1) (by rw [G1.out.aj];exact HC.out) (by have:=G1.out.n;have:=HN.out;omega)
 rw [dM] at P2
 have P2:=κ P2
 clear A1 U1 P1
 clear hHeld
 refine bF.out _ _ R1 (fun hHeld=> ?_)
 clear bF KK
 try simp only [Act.put,aA,aB,aC]
 refine kR 9 (by kernel_rfl) rfl fun KK bF=> ?_
 go_simp
 go_wp2_with (go_at_call 125;refine P2.out.mono ?_;rintro e w2 ⟨rfl,A1,U1⟩)
 obtain⟨V2,B2,M2,R2,_,_,_,_,_,_,_,_,_,_⟩:=bW B1 (U1) A1 G2
 clear A1 U1 P2
 clear hHeld
 refine bF.out _ _ R2 (fun hHeld=> ?_)
 clear bF KK
 try simp only [Act.put,aA,aB,aC]
 refine wpAnyH_done (by kernel_rfl) ?_ _
 go_wp2
 go_ret
 exact⟨rfl,M2.out,((U0.out.trans V1.out).trans V2.out)⟩
theorem ML (d r:Nat) (f m:Int) (hd:d<8) (hr:r<8) (f0:0≤f) (f1:f<16) (w:World) (a:LM K s w) (hc:1≤s.aj∧s.aj≤64) (hn:s.ops.length+60<1000000000):
  Calls Tryz.prog 85 #[.pointer (some ⟨K.h,0,none⟩), .agg #[.int .i64 28, .int .i64 d, .int .i64 r, .int .i64 f, .int .u32 m]] w fun e w'=>e= .returned (.bool true)∧LM K (s.plain 28 d r f m).2 w'∧UW K w w':=by
 have HN:=κ hn
 have HC:=κ hc
 have HR:=κ hr
 have HD:=κ hd
 have HF0:=κ f0
 have HF1:=κ f1
 obtain⟨p1,bP,G1⟩:=kN _ (lF s m)
 obtain⟨p2,dM,G2⟩:=ni _ (G1.out.trans (wJ p1.2 f d p1.1))
 have E:(s.plain 28 d r f m).2=p2:=by
  unfold Lk.plain
  rw [if_neg (by decide),if_neg (by decide),if_neg (by decide),if_neg (by decide),if_neg (by decide),if_neg (by decide),if_neg (by decide),if_neg (by decide),if_neg (by decide),if_pos (by decide)]
  simp only [bP,dM,Int.reduceEq,↓reduceIte]
 rw [E]
 clear E
 obtain⟨A0,B0,U0⟩:=qm a #[.int .i64 28, .int .i64 d, .int .i64 r, .int .i64 f, .int .u32 m] 74
 have uI:=Tryz.underlying74
 have iI:=iM
 clear a hn hc hd hr
 go_enter Tryz.func85,Tryz.ntmps85
 go_upto_region 1 with fail
 generalize w.alloc (.cells #[.int .i64 28, .int .i64 d, .int .i64 r, .int .i64 f, .int .u32 m] 74)=w0 at*
 generalize w.heap.size=bx at*
 have R0:=κ (RS.of B0.out A0.out (Gw.refl s))
 obtain⟨_,_,_,_,_,_,_,_,_,_⟩:=R0.out.all A0.out.l
 have P1:=dF (K:=K) m w0.drew (A0.out.drew) (by have:=HN.out;omega)
 rw [bP] at P1
 have P1:=κ P1
 go_wp2
 refine wp_region_held_drew (S:=RS K s bx #[.int .i64 28, .int .i64 d, .int .i64 r, .int .i64 f, .int .u32 m]) (by kernel_rfl) (R0.out).drew (fun hHeld=> ?_)
 refine kM 0 127 (.pointer (some ⟨K.h,0,none⟩)) rfl rfl rfl rfl (by rfl) (by kernel_rfl) kD hHeld ?_
 try simp only [Act.put,aA,aB,aC]
 refine kF 1 128 (fI _ 3 (by decide)) rfl rfl rfl rfl (by rfl) (by kernel_rfl) kD hHeld ?_
 try simp only [Act.put,aA,aB,aC]
 refine kL 2 129 (fun _ h=>lI (h.b.c 3 _ rfl)) rfl rfl rfl rfl (by rfl) (by kernel_rfl) kD hHeld ?_
 try simp only [Act.put,aA,aB,aC]
 refine kF 3 130 (fI _ 1 (by decide)) rfl rfl rfl rfl (by rfl) (by kernel_rfl) kD hHeld ?_
 try simp only [Act.put,aA,aB,aC]
 refine kL 4 131 (fun _ h=>lI (h.b.c 1 _ rfl)) rfl rfl rfl rfl (by rfl) (by kernel_rfl) kD hHeld ?_
 try simp only [Act.put,aA,aB,aC]
 refine kM 5 132 (.pointer (some ⟨K.h,0,none⟩)) rfl rfl rfl rfl (by rfl) (by kernel_rfl) kD hHeld ?_
 try simp only [Act.put,aA,aB,aC]
 refine kF 6 133 (fI _ 4 (by decide)) rfl rfl rfl rfl (by rfl) (by kernel_rfl) kD hHeld ?_
 try simp only [Act.put,aA,aB,aC]
 refine kL 7 134 (fun _ h=>lU (h.b.c 4 _ rfl)) rfl rfl rfl rfl (by rfl) (by kernel_rfl) kD hHeld ?_
 try simp only [Act.put,aA,aB,aC]
 refine kR 8 (by kernel_rfl) rfl fun KK bF=> ?_
 go_simp
 go_wp2_with (go_at_call 117;refine P1.out.mono ?_;rintro e w1 ⟨rfl,A1,U1⟩)
 obtain⟨V1,B1,M1,R1,_,_,_,_,_,_,_,_,_,_⟩:=bW B0 ((UW.drew (K:=K) (W:=w0) A0.out.l).trans U1) A1 G1
 have P2:=yX (K:=K) f p1.1 d HD.out HF0.out HF1.out w1 (A1) (by rw [G1.out.aj];exact HC.out) (by have:=G1.out.n;have:=HN.out;omega)
 rw [dM] at P2
 have P2:=κ P2
 clear A1 U1 P1
 clear hHeld
 refine bF.out _ _ R1 (fun hHeld=> ?_)
 clear bF KK
 try simp only [Act.put,aA,aB,aC]
 refine kR 9 (by kernel_rfl) rfl fun KK bF=> ?_
 go_simp
 go_wp2_with (go_at_call 125;refine P2.out.mono ?_;rintro e w2 ⟨rfl,A1,U1⟩)
 obtain⟨V2,B2,M2,R2,_,_,_,_,_,_,_,_,_,_⟩:=bW B1 (U1) A1 G2
 clear A1 U1 P2
 clear hHeld
 refine bF.out _ _ R2 (fun hHeld=> ?_)
 clear bF KK
 try simp only [Act.put,aA,aB,aC]
 refine wpAnyH_done (by kernel_rfl) ?_ _
 go_wp2
 go_ret
 exact⟨rfl,M2.out,((U0.out.trans V1.out).trans V2.out)⟩
theorem MN (d r:Nat) (f m:Int) (hd:d<8) (hr:r<8) (f0:0≤f) (f1:f<16) (w:World) (a:LM K s w) (hc:1≤s.aj∧s.aj≤64) (hn:s.ops.length+60<1000000000):
  Calls Tryz.prog 85 #[.pointer (some ⟨K.h,0,none⟩), .agg #[.int .i64 29, .int .i64 d, .int .i64 r, .int .i64 f, .int .u32 m]] w fun e w'=>e= .returned (.bool true)∧LM K (s.plain 29 d r f m).2 w'∧UW K w w':=by
 have HN:=κ hn
 have HC:=κ hc
 have HR:=κ hr
 have HD:=κ hd
 have HF0:=κ f0
 have HF1:=κ f1
 obtain⟨p1,bP,G1⟩:=kN _ (lF s m)
 obtain⟨p2,dM,G2⟩:=ni _ (G1.out.trans (wJ p1.2 f d p1.1))
 have E:(s.plain 29 d r f m).2=p2:=by
  unfold Lk.plain
  rw [if_neg (by decide),if_neg (by decide),if_neg (by decide),if_neg (by decide),if_neg (by decide),if_neg (by decide),if_neg (by decide),if_neg (by decide),if_neg (by decide),if_pos (by decide)]
  simp only [bP,dM,Int.reduceEq,↓reduceIte]
 rw [E]
 clear E
 obtain⟨A0,B0,U0⟩:=qm a #[.int .i64 29, .int .i64 d, .int .i64 r, .int .i64 f, .int .u32 m] 74
 have uI:=Tryz.underlying74
 have iI:=iM
 clear a hn hc hd hr
 go_enter Tryz.func85,Tryz.ntmps85
 go_upto_region 1 with fail
 generalize w.alloc (.cells #[.int .i64 29, .int .i64 d, .int .i64 r, .int .i64 f, .int .u32 m] 74)=w0 at*
 generalize w.heap.size=bx at*
 have R0:=κ (RS.of B0.out A0.out (Gw.refl s))
 obtain⟨_,_,_,_,_,_,_,_,_,_⟩:=R0.out.all A0.out.l
 have P1:=dF (K:=K) m w0.drew (A0.out.drew) (by have:=HN.out;omega)
 rw [bP] at P1
 have P1:=κ P1
 go_wp2
 refine wp_region_held_drew (S:=RS K s bx #[.int .i64 29, .int .i64 d, .int .i64 r, .int .i64 f, .int .u32 m]) (by kernel_rfl) (R0.out).drew (fun hHeld=> ?_)
 refine kM 0 127 (.pointer (some ⟨K.h,0,none⟩)) rfl rfl rfl rfl (by rfl) (by kernel_rfl) kD hHeld ?_
 try simp only [Act.put,aA,aB,aC]
 refine kF 1 128 (fI _ 3 (by decide)) rfl rfl rfl rfl (by rfl) (by kernel_rfl) kD hHeld ?_
 try simp only [Act.put,aA,aB,aC]
 refine kL 2 129 (fun _ h=>lI (h.b.c 3 _ rfl)) rfl rfl rfl rfl (by rfl) (by kernel_rfl) kD hHeld ?_
 try simp only [Act.put,aA,aB,aC]
 refine kF 3 130 (fI _ 1 (by decide)) rfl rfl rfl rfl (by rfl) (by kernel_rfl) kD hHeld ?_
 try simp only [Act.put,aA,aB,aC]
 refine kL 4 131 (fun _ h=>lI (h.b.c 1 _ rfl)) rfl rfl rfl rfl (by rfl) (by kernel_rfl) kD hHeld ?_
 try simp only [Act.put,aA,aB,aC]
 refine kM 5 132 (.pointer (some ⟨K.h,0,none⟩)) rfl rfl rfl rfl (by rfl) (by kernel_rfl) kD hHeld ?_
 try simp only [Act.put,aA,aB,aC]
 refine kF 6 133 (fI _ 4 (by decide)) rfl rfl rfl rfl (by rfl) (by kernel_rfl) kD hHeld ?_
 try simp only [Act.put,aA,aB,aC]
 refine kL 7 134 (fun _ h=>lU (h.b.c 4 _ rfl)) rfl rfl rfl rfl (by rfl) (by kernel_rfl) kD hHeld ?_
 try simp only [Act.put,aA,aB,aC]
 refine kR 8 (by kernel_rfl) rfl fun KK bF=> ?_
 go_simp
 go_wp2_with (go_at_call 117;refine P1.out.mono ?_;rintro e w1 ⟨rfl,A1,U1⟩)
 obtain⟨V1,B1,M1,R1,_,_,_,_,_,_,_,_,_,_⟩:=bW B0 ((UW.drew (K:=K) (W:=w0) A0.out.l).trans U1) A1 G1
 have P2:=yX (K:=K) f p1.1 d HD.out HF0.out HF1.out w1 (A1) (by rw [G1.out.aj];exact HC.out) (by have:=G1.out.n;have:=HN.out;omega)
 rw [dM] at P2
 have P2:=κ P2
 clear A1 U1 P1
 clear hHeld
 refine bF.out _ _ R1 (fun hHeld=> ?_)
 clear bF KK
 try simp only [Act.put,aA,aB,aC]
 refine kR 9 (by kernel_rfl) rfl fun KK bF=> ?_
 go_simp
 go_wp2_with (go_at_call 125;refine P2.out.mono ?_;rintro e w2 ⟨rfl,A1,U1⟩)
 obtain⟨V2,B2,M2,R2,_,_,_,_,_,_,_,_,_,_⟩:=bW B1 (U1) A1 G2
 clear A1 U1 P2
 clear hHeld
 refine bF.out _ _ R2 (fun hHeld=> ?_)
 clear bF KK
 try simp only [Act.put,aA,aB,aC]
 refine wpAnyH_done (by kernel_rfl) ?_ _
 go_wp2
 go_ret
 exact⟨rfl,M2.out,((U0.out.trans V1.out).trans V2.out)⟩
theorem MP (d r:Nat) (f m:Int) (hd:d<8) (hr:r<8) (w:World) (a:LM K s w) (hc:1≤s.aj∧s.aj≤64) (hn:s.ops.length+60<1000000000):
  Calls Tryz.prog 85 #[.pointer (some ⟨K.h,0,none⟩), .agg #[.int .i64 30, .int .i64 d, .int .i64 r, .int .i64 f, .int .u32 m]] w fun e w'=>e= .returned (.bool true)∧LM K (s.plain 30 d r f m).2 w'∧UW K w w':=by
 have HN:=κ hn
 have HC:=κ hc
 have HR:=κ hr
 have HD:=κ hd
 obtain⟨p1,bP,G1⟩:=kN _ (kE s r m)
 obtain⟨p2,dM,G2⟩:=kN _ (G1.out.trans (jV p1.2 f p1.1))
 obtain⟨p3,je,G3⟩:=ni _ (G2.out.trans (bM p2.2 d p2.1))
 have E:(s.plain 30 d r f m).2=p3:=by
  unfold Lk.plain
  rw [if_neg (by decide),if_neg (by decide),if_neg (by decide),if_neg (by decide),if_neg (by decide),if_neg (by decide),if_neg (by decide),if_neg (by decide),if_neg (by decide),if_neg (by decide),if_pos (by decide)]
  simp only [bP,dM,je,Int.reduceEq,↓reduceIte]
 rw [E]
 clear E
 obtain⟨A0,B0,U0⟩:=qm a #[.int .i64 30, .int .i64 d, .int .i64 r, .int .i64 f, .int .u32 m] 74
 have uI:=Tryz.underlying74
 have iI:=iM
 clear a hn hc hd hr
 go_enter Tryz.func85,Tryz.ntmps85
 go_upto_region 1 with fail
 generalize w.alloc (.cells #[.int .i64 30, .int .i64 d, .int .i64 r, .int .i64 f, .int .u32 m] 74)=w0 at*
 generalize w.heap.size=bx at*
 have R0:=κ (RS.of B0.out A0.out (Gw.refl s))
 obtain⟨_,_,_,_,_,_,_,_,_,_⟩:=R0.out.all A0.out.l
 have P1:=oG (K:=K) 30 d f m r HR.out w0.drew (A0.out.drew) (by have:=HN.out;omega)
 rw [bP] at P1
 have P1:=κ P1
 go_wp2
 refine wp_region_held_drew (S:=RS K s bx #[.int .i64 30, .int .i64 d, .int .i64 r, .int .i64 f, .int .u32 m]) (by kernel_rfl) (R0.out).drew (fun hHeld=> ?_)
 refine kM 0 139 (.pointer (some ⟨K.h,0,none⟩)) rfl rfl rfl rfl (by rfl) (by kernel_rfl) kD hHeld ?_
 try simp only [Act.put,aA,aB,aC]
 refine kF 1 140 (fI _ 1 (by decide)) rfl rfl rfl rfl (by rfl) (by kernel_rfl) kD hHeld ?_
 try simp only [Act.put,aA,aB,aC]
 refine kL 2 141 (fun _ h=>lI (h.b.c 1 _ rfl)) rfl rfl rfl rfl (by rfl) (by kernel_rfl) kD hHeld ?_
 try simp only [Act.put,aA,aB,aC]
 refine kM 3 142 (.pointer (some ⟨K.h,0,none⟩)) rfl rfl rfl rfl (by rfl) (by kernel_rfl) kD hHeld ?_
 try simp only [Act.put,aA,aB,aC]
 refine kF 4 143 (fI _ 3 (by decide)) rfl rfl rfl rfl (by rfl) (by kernel_rfl) kD hHeld ?_
 try simp only [Act.put,aA,aB,aC]
 refine kL 5 144 (fun _ h=>lI (h.b.c 3 _ rfl)) rfl rfl rfl rfl (by rfl) (by kernel_rfl) kD hHeld ?_
 try simp only [Act.put,aA,aB,aC]
 refine kM 6 145 (.pointer (some ⟨K.h,0,none⟩)) rfl rfl rfl rfl (by rfl) (by kernel_rfl) kD hHeld ?_
 try simp only [Act.put,aA,aB,aC]
 refine kY 7 146 (.agg #[.int .i64 30, .int .i64 d, .int .i64 r, .int .i64 f, .int .u32 m]) rfl rfl (by kernel_rfl) kD (yieldsIf_load_mid (by rfl) _ _ rfl _ _ rfl _ _ (fun w h=>h.b.Y6) uI rfl iI) hHeld ?_
 try simp only [Act.put,aA,aB,aC]
 refine kR 8 (by kernel_rfl) rfl fun KK bF=> ?_
 go_simp
 go_wp2_with (go_at_call 124;refine P1.out.mono ?_;rintro e w1 ⟨rfl,A1,U1⟩)
 obtain⟨V1,B1,M1,R1,_,_,_,_,_,_,_,_,_,_⟩:=bW B0 ((UW.drew (K:=K) (W:=w0) A0.out.l).trans U1) A1 G1
 have P2:=kW (K:=K) f p1.1 w1 (A1) (by rw [G1.out.aj];exact HC.out) (by have:=G1.out.n;have:=HN.out;omega)
 rw [dM] at P2
 have P2:=κ P2
 clear A1 U1 P1
 clear hHeld
 refine bF.out _ _ R1 (fun hHeld=> ?_)
 clear bF KK
 try simp only [Act.put,aA,aB,aC]
 refine kR 9 (by kernel_rfl) rfl fun KK bF=> ?_
 go_simp
 go_wp2_with (go_at_call 126;refine P2.out.mono ?_;rintro e w2 ⟨rfl,A1,U1⟩)
 obtain⟨V2,B2,M2,R2,_,_,_,_,_,_,_,_,_,_⟩:=bW B1 (U1) A1 G2
 have P3:=dA (K:=K) d p2.1 HD.out w2 (A1) (by have:=G2.out.n;have:=HN.out;omega)
 rw [je] at P3
 have P3:=κ P3
 clear A1 U1 P2
 clear hHeld
 refine bF.out _ _ R2 (fun hHeld=> ?_)
 clear bF KK
 try simp only [Act.put,aA,aB,aC]
 refine kR 10 (by kernel_rfl) rfl fun KK bF=> ?_
 go_simp
 go_wp2_with (go_at_call 116;refine P3.out.mono ?_;rintro e w3 ⟨rfl,A1,U1⟩)
 obtain⟨V3,B3,M3,R3,_,_,_,_,_,_,_,_,_,_⟩:=bW B2 (U1) A1 G3
 clear A1 U1 P3
 clear hHeld
 refine bF.out _ _ R3 (fun hHeld=> ?_)
 clear bF KK
 try simp only [Act.put,aA,aB,aC]
 refine wpAnyH_done (by kernel_rfl) ?_ _
 go_wp2
 go_ret
 exact⟨rfl,M3.out,(((U0.out.trans V1.out).trans V2.out).trans V3.out)⟩
theorem MQ (d r:Nat) (f m:Int) (hd:d<8) (hr:r<8) (w:World) (a:LM K s w) (hc:1≤s.aj∧s.aj≤64) (hn:s.ops.length+60<1000000000):
  Calls Tryz.prog 85 #[.pointer (some ⟨K.h,0,none⟩), .agg #[.int .i64 31, .int .i64 d, .int .i64 r, .int .i64 f, .int .u32 m]] w fun e w'=>e= .returned (.bool true)∧LM K (s.plain 31 d r f m).2 w'∧UW K w w':=by
 have HN:=κ hn
 have HC:=κ hc
 have HR:=κ hr
 have HD:=κ hd
 obtain⟨p1,bP,G1⟩:=kN _ (kE s r m)
 obtain⟨p2,dM,G2⟩:=kN _ (G1.out.trans (bG p1.2 d))
 obtain⟨p3,je,G3⟩:=ni _ (G2.out.trans (iU p2.2 f p1.1 p2.1))
 obtain⟨p4,pJ,G4⟩:=ni _ (G3.out.trans (iV p3))
 have E:(s.plain 31 d r f m).2=p4:=by
  unfold Lk.plain
  rw [if_neg (by decide),if_neg (by decide),if_neg (by decide),if_neg (by decide),if_neg (by decide),if_neg (by decide),if_neg (by decide),if_neg (by decide),if_neg (by decide),if_neg (by decide),if_neg (by decide),if_pos (by decide)]
  simp only [bP,dM,je,pJ,Int.reduceEq,↓reduceIte]
 rw [E]
 clear E
 obtain⟨A0,B0,U0⟩:=qm a #[.int .i64 31, .int .i64 d, .int .i64 r, .int .i64 f, .int .u32 m] 74
 have uI:=Tryz.underlying74
 have iI:=iM
 clear a hn hc hd hr
 go_enter Tryz.func85,Tryz.ntmps85
 go_upto_region 1 with fail
 generalize w.alloc (.cells #[.int .i64 31, .int .i64 d, .int .i64 r, .int .i64 f, .int .u32 m] 74)=w0 at*
 generalize w.heap.size=bx at*
 have R0:=κ (RS.of B0.out A0.out (Gw.refl s))
 obtain⟨_,_,_,_,_,_,_,_,_,_⟩:=R0.out.all A0.out.l
 have P1:=oG (K:=K) 31 d f m r HR.out w0.drew (A0.out.drew) (by have:=HN.out;omega)
 rw [bP] at P1
 have P1:=κ P1
 go_wp2
 refine wp_region_held_drew (S:=RS K s bx #[.int .i64 31, .int .i64 d, .int .i64 r, .int .i64 f, .int .u32 m]) (by kernel_rfl) (R0.out).drew (fun hHeld=> ?_)
 refine kM 0 152 (.pointer (some ⟨K.h,0,none⟩)) rfl rfl rfl rfl (by rfl) (by kernel_rfl) kD hHeld ?_
 try simp only [Act.put,aA,aB,aC]
 refine kF 1 153 (fI _ 3 (by decide)) rfl rfl rfl rfl (by rfl) (by kernel_rfl) kD hHeld ?_
 try simp only [Act.put,aA,aB,aC]
 refine kL 2 154 (fun _ h=>lI (h.b.c 3 _ rfl)) rfl rfl rfl rfl (by rfl) (by kernel_rfl) kD hHeld ?_
 try simp only [Act.put,aA,aB,aC]
 refine kM 3 155 (.pointer (some ⟨K.h,0,none⟩)) rfl rfl rfl rfl (by rfl) (by kernel_rfl) kD hHeld ?_
 try simp only [Act.put,aA,aB,aC]
 refine kY 4 156 (.agg #[.int .i64 31, .int .i64 d, .int .i64 r, .int .i64 f, .int .u32 m]) rfl rfl (by kernel_rfl) kD (yieldsIf_load_mid (by rfl) _ _ rfl _ _ rfl _ _ (fun w h=>h.b.Y6) uI rfl iI) hHeld ?_
 try simp only [Act.put,aA,aB,aC]
 refine kM 6 158 (.pointer (some ⟨K.h,0,none⟩)) rfl rfl rfl rfl (by rfl) (by kernel_rfl) kD hHeld ?_
 try simp only [Act.put,aA,aB,aC]
 refine kF 7 159 (fI _ 1 (by decide)) rfl rfl rfl rfl (by rfl) (by kernel_rfl) kD hHeld ?_
 try simp only [Act.put,aA,aB,aC]
 refine kL 8 160 (fun _ h=>lI (h.b.c 1 _ rfl)) rfl rfl rfl rfl (by rfl) (by kernel_rfl) kD hHeld ?_
 try simp only [Act.put,aA,aB,aC]
 refine kR 5 (by kernel_rfl) rfl fun KK bF=> ?_
 go_simp
 go_wp2_with (go_at_call 124;refine P1.out.mono ?_;rintro e w1 ⟨rfl,A1,U1⟩)
 obtain⟨V1,B1,M1,R1,_,_,_,_,_,_,_,_,_,_⟩:=bW B0 ((UW.drew (K:=K) (W:=w0) A0.out.l).trans U1) A1 G1
 have P2:=bU (K:=K) d HD.out w1 (A1) (by have:=G1.out.n;have:=HN.out;omega)
 rw [dM] at P2
 have P2:=κ P2
 clear A1 U1 P1
 clear hHeld
 refine bF.out _ _ R1 (fun hHeld=> ?_)
 clear bF KK
 try simp only [Act.put,aA,aB,aC]
 refine kR 9 (by kernel_rfl) rfl fun KK bF=> ?_
 go_simp
 go_wp2_with (go_at_call 118;refine P2.out.mono ?_;rintro e w2 ⟨rfl,A1,U1⟩)
 obtain⟨V2,B2,M2,R2,_,_,_,_,_,_,_,_,_,_⟩:=bW B1 (U1) A1 G2
 have P3:=kP (K:=K) f p1.1 p2.1 w2 (A1) (by rw [G2.out.aj];exact HC.out) (by have:=G2.out.n;have:=HN.out;omega)
 rw [je] at P3
 have P3:=κ P3
 clear A1 U1 P2
 clear hHeld
 refine bF.out _ _ R2 (fun hHeld=> ?_)
 clear bF KK
 try simp only [Act.put,aA,aB,aC]
 refine kR 10 (by kernel_rfl) rfl fun KK bF=> ?_
 go_simp
 go_wp2_with (go_at_call 127;refine P3.out.mono ?_;rintro e w3 ⟨rfl,A1,U1⟩)
 obtain⟨V3,B3,M3,R3,_,_,_,_,_,_,_,_,_,_⟩:=bW B2 (U1) A1 G3
 have P4:=kS (K:=K) w3 (A1) (by rw [G3.out.aj];exact HC.out) (by have:=G3.out.n;have:=HN.out;omega)
 rw [pJ] at P4
 have P4:=κ P4
 clear A1 U1 P3
 clear hHeld
 refine bF.out _ _ R3 (fun hHeld=> ?_)
 clear bF KK
 try simp only [Act.put,aA,aB,aC]
 refine wpAnyH_done (by kernel_rfl) ?_ _
 go_wp2_with (first
  | (go_at_call 128;refine P4.out.mono ?_;rintro e w4 ⟨rfl,A1,U1⟩;obtain⟨V4,B4,M4,R4,_,_,_,_,_,_,_,_,_,_⟩:=bW B3 (U1) A1 G4;clear A1 U1 P4))
 go_ret
 exact⟨rfl,M4.out,((((U0.out.trans V1.out).trans V2.out).trans V3.out).trans V4.out)⟩
theorem MR (d r:Nat) (f m:Int) (hd:d<8) (hr:r<8) (w:World) (a:LM K s w) (hc:1≤s.aj∧s.aj≤64) (hn:s.ops.length+60<1000000000):
  Calls Tryz.prog 85 #[.pointer (some ⟨K.h,0,none⟩), .agg #[.int .i64 24, .int .i64 d, .int .i64 r, .int .i64 f, .int .u32 m]] w fun e w'=>e= .returned (.bool true)∧LM K (s.plain 24 d r f m).2 w'∧UW K w w':=by
 have HN:=κ hn
 have HC:=κ hc
 have HR:=κ hr
 have HD:=κ hd
 obtain⟨p1,bP,G1⟩:=ni _ (uX s 24 d r m)
 obtain⟨p2,dM,G2⟩:=ni _ (G1.out.trans (iV p1))
 have E:(s.plain 24 d r f m).2=p2:=by
  unfold Lk.plain
  rw [if_neg (by decide),if_neg (by decide),if_neg (by decide),if_neg (by decide),if_neg (by decide),if_neg (by decide),if_neg (by decide),if_neg (by decide),if_neg (by decide),if_neg (by decide),if_neg (by decide),if_neg (by decide),if_pos (by decide)]
  simp only [bP,dM,Int.reduceEq,↓reduceIte]
 rw [E]
 clear E
 obtain⟨A0,B0,U0⟩:=qm a #[.int .i64 24, .int .i64 d, .int .i64 r, .int .i64 f, .int .u32 m] 74
 have uI:=Tryz.underlying74
 have iI:=iM
 clear a hn hc hd hr
 go_enter Tryz.func85,Tryz.ntmps85
 go_upto_region 1 with fail
 generalize w.alloc (.cells #[.int .i64 24, .int .i64 d, .int .i64 r, .int .i64 f, .int .u32 m] 74)=w0 at*
 generalize w.heap.size=bx at*
 have R0:=κ (RS.of B0.out A0.out (Gw.refl s))
 obtain⟨_,_,_,_,_,_,_,_,_,_⟩:=R0.out.all A0.out.l
 have P1:=RI (K:=K) d r f m HD.out HR.out w0 (A0.out) HC.out (by have:=HN.out;omega)
 rw [bP] at P1
 have P1:=κ P1
 go_wp2_with (first
  | (go_at_call 129;refine P1.out.mono ?_;rintro e w1 ⟨rfl,A1,U1⟩;obtain⟨V1,B1,M1,R1,_,_,_,_,_,_,_,_,_,_⟩:=bW B0 (U1) A1 G1;have P2:=kS (K:=K) w1 (A1) (by rw [G1.out.aj];exact HC.out) (by have:=G1.out.n;have:=HN.out;omega);rw [dM] at P2;have P2:=κ P2;clear A1 U1 P1)
  | (go_at_call 128;refine P2.out.mono ?_;rintro e w2 ⟨rfl,A1,U1⟩;obtain⟨V2,B2,M2,R2,_,_,_,_,_,_,_,_,_,_⟩:=bW B1 (U1) A1 G2;clear A1 U1 P2))
 go_ret
 exact⟨rfl,M2.out,((U0.out.trans V1.out).trans V2.out)⟩
theorem MS (d r:Nat) (f m:Int) (hd:d<8) (hr:r<8) (w:World) (a:LM K s w) (hc:1≤s.aj∧s.aj≤64) (hn:s.ops.length+60<1000000000):
  Calls Tryz.prog 85 #[.pointer (some ⟨K.h,0,none⟩), .agg #[.int .i64 25, .int .i64 d, .int .i64 r, .int .i64 f, .int .u32 m]] w fun e w'=>e= .returned (.bool true)∧LM K (s.plain 25 d r f m).2 w'∧UW K w w':=by
 have HN:=κ hn
 have HC:=κ hc
 have HR:=κ hr
 have HD:=κ hd
 obtain⟨p1,bP,G1⟩:=ni _ (uX s 25 d r m)
 obtain⟨p2,dM,G2⟩:=ni _ (G1.out.trans (iV p1))
 have E:(s.plain 25 d r f m).2=p2:=by
  unfold Lk.plain
  rw [if_neg (by decide),if_neg (by decide),if_neg (by decide),if_neg (by decide),if_neg (by decide),if_neg (by decide),if_neg (by decide),if_neg (by decide),if_neg (by decide),if_neg (by decide),if_neg (by decide),if_neg (by decide),if_pos (by decide)]
  simp only [bP,dM,Int.reduceEq,↓reduceIte]
 rw [E]
 clear E
 obtain⟨A0,B0,U0⟩:=qm a #[.int .i64 25, .int .i64 d, .int .i64 r, .int .i64 f, .int .u32 m] 74
 have uI:=Tryz.underlying74
 have iI:=iM
 clear a hn hc hd hr
 go_enter Tryz.func85,Tryz.ntmps85
 go_upto_region 1 with fail
 generalize w.alloc (.cells #[.int .i64 25, .int .i64 d, .int .i64 r, .int .i64 f, .int .u32 m] 74)=w0 at*
 generalize w.heap.size=bx at*
 have R0:=κ (RS.of B0.out A0.out (Gw.refl s))
 obtain⟨_,_,_,_,_,_,_,_,_,_⟩:=R0.out.all A0.out.l
 have P1:=RJ (K:=K) d r f m HD.out HR.out w0 (A0.out) HC.out (by have:=HN.out;omega)
 rw [bP] at P1
 have P1:=κ P1
 go_wp2_with (first
  | (go_at_call 129;refine P1.out.mono ?_;rintro e w1 ⟨rfl,A1,U1⟩;obtain⟨V1,B1,M1,R1,_,_,_,_,_,_,_,_,_,_⟩:=bW B0 (U1) A1 G1;have P2:=kS (K:=K) w1 (A1) (by rw [G1.out.aj];exact HC.out) (by have:=G1.out.n;have:=HN.out;omega);rw [dM] at P2;have P2:=κ P2;clear A1 U1 P1)
  | (go_at_call 128;refine P2.out.mono ?_;rintro e w2 ⟨rfl,A1,U1⟩;obtain⟨V2,B2,M2,R2,_,_,_,_,_,_,_,_,_,_⟩:=bW B1 (U1) A1 G2;clear A1 U1 P2))
 go_ret
 exact⟨rfl,M2.out,((U0.out.trans V1.out).trans V2.out)⟩
theorem MV (d r:Nat) (f m:Int) (hd:d<8) (hr:r<8) (w:World) (a:LM K s w) (hc:1≤s.aj∧s.aj≤64) (hn:s.ops.length+60<1000000000):
  Calls Tryz.prog 85 #[.pointer (some ⟨K.h,0,none⟩), .agg #[.int .i64 26, .int .i64 d, .int .i64 r, .int .i64 f, .int .u32 m]] w fun e w'=>e= .returned (.bool true)∧LM K (s.plain 26 d r f m).2 w'∧UW K w w':=by
 have HN:=κ hn
 have HC:=κ hc
 have HR:=κ hr
 have HD:=κ hd
 obtain⟨p1,bP,G1⟩:=ni _ (uX s 26 d r m)
 obtain⟨p2,dM,G2⟩:=ni _ (G1.out.trans (iV p1))
 have E:(s.plain 26 d r f m).2=p2:=by
  unfold Lk.plain
  rw [if_neg (by decide),if_neg (by decide),if_neg (by decide),if_neg (by decide),if_neg (by decide),if_neg (by decide),if_neg (by decide),if_neg (by decide),if_neg (by decide),if_neg (by decide),if_neg (by decide),if_neg (by decide),if_pos (by decide)]
  simp only [bP,dM,Int.reduceEq,↓reduceIte]
 rw [E]
 clear E
 obtain⟨A0,B0,U0⟩:=qm a #[.int .i64 26, .int .i64 d, .int .i64 r, .int .i64 f, .int .u32 m] 74
 have uI:=Tryz.underlying74
 have iI:=iM
 clear a hn hc hd hr
 go_enter Tryz.func85,Tryz.ntmps85
 go_upto_region 1 with fail
 generalize w.alloc (.cells #[.int .i64 26, .int .i64 d, .int .i64 r, .int .i64 f, .int .u32 m] 74)=w0 at*
 generalize w.heap.size=bx at*
 have R0:=κ (RS.of B0.out A0.out (Gw.refl s))
 obtain⟨_,_,_,_,_,_,_,_,_,_⟩:=R0.out.all A0.out.l
 have P1:=RN (K:=K) d r f m HD.out HR.out w0 (A0.out) HC.out (by have:=HN.out;omega)
 rw [bP] at P1
 have P1:=κ P1
 go_wp2_with (first
  | (go_at_call 129;refine P1.out.mono ?_;rintro e w1 ⟨rfl,A1,U1⟩;obtain⟨V1,B1,M1,R1,_,_,_,_,_,_,_,_,_,_⟩:=bW B0 (U1) A1 G1;have P2:=kS (K:=K) w1 (A1) (by rw [G1.out.aj];exact HC.out) (by have:=G1.out.n;have:=HN.out;omega);rw [dM] at P2;have P2:=κ P2;clear A1 U1 P1)
  | (go_at_call 128;refine P2.out.mono ?_;rintro e w2 ⟨rfl,A1,U1⟩;obtain⟨V2,B2,M2,R2,_,_,_,_,_,_,_,_,_,_⟩:=bW B1 (U1) A1 G2;clear A1 U1 P2))
 go_ret
 exact⟨rfl,M2.out,((U0.out.trans V1.out).trans V2.out)⟩
end Go.Proofs.YtcjcmnnhmajocabGreat.Lf
