import Derived.Test.YtcjcmnnhmajocabGreatPmay
set_option linter.unusedVariables false
set_option linter.unusedSimpArgs false
set_option maxRecDepth 100000
set_option maxHeartbeats 16000000
namespace Go.Proofs.YtcjcmnnhmajocabGreat.Lf
open Go.RowKit Kt Ic Me
open Ot (fC OB)
variable {K:Kc} {s:Lk} {W W':World} {B:Nat}
theorem RX (d r:Nat) (f m:Int) (hd:d<8) (hr:r<8) (m0:0≤m) (m1:m<4294967296) (w:World) (a:LM K s w) (hc:1≤s.aj∧s.aj≤64) (hn:s.ops.length+60<1000000000):
  Calls Tryz.prog 86 #[.pointer (some ⟨K.h,0,none⟩), .agg #[.int .i64 5, .int .i64 d, .int .i64 r, .int .i64 f, .int .u32 m]] w fun e w'=>e= .returned (.tuple #[])∧LM K (s.bg 5 d r f m) w'∧UW K w w':=by
 have HN:=κ hn
 have HC:=κ hc
 have HR:=κ hr
 have HD:=κ hd
 have hmw:IntKind.i64.wrap m=m:=by rw [IntKind.wrap_i64];omega
 obtain⟨p1,bP,G1⟩:=ni _ (bK s ⟨14,1,0,m,0,s.nx,s.aj⟩)
 have E:s.bg 5 d r f m=p1:=by
  unfold Lk.bg
  rw [if_neg (by decide),if_pos (by decide)]
  simp only [au,bP]
 rw [E]
 clear E
 obtain⟨A0,B0,U0⟩:=qm a #[.int .i64 5, .int .i64 d, .int .i64 r, .int .i64 f, .int .u32 m] 74
 have uI:=Tryz.underlying74
 have iI:=iM
 clear a hn hc hd hr
 go_enter Tryz.func86,Tryz.ntmps86
 go_upto_region 1 with fail
 generalize w.alloc (.cells #[.int .i64 5, .int .i64 d, .int .i64 r, .int .i64 f, .int .u32 m] 74)=wz at*
 generalize w.heap.size=bx at*
 have R0:=κ (RS.of B0.out A0.out (Gw.refl s))
 have jG:=B0.out.c 0 _ rfl
 have jH:=B0.out.c 1 _ rfl
 have jI:=B0.out.c 2 _ rfl
 have jJ:=B0.out.c 3 _ rfl
 have jK:=B0.out.c 4 _ rfl
 have jL:=B0.out.l
 have jM:=R0.out.p
 have jO:=R0.out.x
 have jP:=R0.out.n
 have jQ:=A0.out.l
 go_region
 replace B0:=κ (B0.out.uw (UW.drew (K:=K) A0.out.l))
 replace U0:=κ (U0.out.trans (UW.drew (K:=K) A0.out.l))
 replace A0:=κ A0.out.drew
 replace R0:=κ R0.out.drew
 clear jG jH jI jJ jK jL jM jO jP jQ
 generalize wz.drew=w0 at*
 obtain⟨_,_,_,_,_,_,_,_,_,_⟩:=R0.out.all A0.out.l
 have P1:=cO (K:=K) ⟨14,1,0,m,0,s.nx,s.aj⟩ w0.drew (A0.out.drew) (by have:=HN.out;omega)
 rw [bP] at P1
 have P1:=κ P1
 go_wp2
 have hv3:∀w:World,(convert 29 3 (.int .u32 m)).run Tryz.prog w= .ok (.int .i64 m) w:=fun w=>by
  go_simp
  all_goals exact hmw
 have ae9:∀w:World,(Instr.fieldAt 110 (.pointer (some ⟨K.h,0,none⟩)) 0).run Tryz.prog w= .ok (.pointer (some ⟨K.h,0,none⟩)) w:=fun w=>by go_simp
 have afa:∀w:World,(Instr.fieldAt 52 (.pointer (some ⟨K.h,0,none⟩)) 1).run Tryz.prog w= .ok (.pointer (some ⟨K.h,1,none⟩)) w:=fun w=>by go_simp
 have afb:∀w:World,(Instr.build 115 #[(0, .int .i64 14),(1, .int .i64 1),(3, .int .i64 m),(5, .int .u32 s.nx),(6, .int .i64 s.aj)]).run Tryz.prog w= .ok (.agg #[.int .i64 14, .int .i64 1, .int .i64 0, .int .i64 m, .int .i64 0, .int .u32 s.nx, .int .i64 s.aj]) w:=fun w=>by go_simp
 refine wp_region_held_drew (S:=RS K s bx #[.int .i64 5, .int .i64 d, .int .i64 r, .int .i64 f, .int .u32 m]) (by kernel_rfl) (R0.out).drew (fun hHeld=> ?_)
 refine kM 0 29 (.pointer (some ⟨K.h,0,none⟩)) rfl rfl rfl rfl (by rfl) (by kernel_rfl) kD hHeld ?_
 try simp only [Act.put,aA,aB,aC]
 refine kF 1 30 (fI _ 4 (by decide)) rfl rfl rfl rfl (by rfl) (by kernel_rfl) kD hHeld ?_
 try simp only [Act.put,aA,aB,aC]
 refine kL 2 31 (fun _ h=>lU (h.b.c 4 _ rfl)) rfl rfl rfl rfl (by rfl) (by kernel_rfl) kD hHeld ?_
 try simp only [Act.put,aA,aB,aC]
 refine kY 3 32 (.int .i64 m) rfl rfl (by kernel_rfl) kD (Kt.LW (by rfl) _ _ _ rfl _ _ rfl hv3) hHeld ?_
 try simp only [Act.put,aA,aB,aC]
 refine kM 4 33 (.pointer (some ⟨K.h,0,none⟩)) rfl rfl rfl rfl (by rfl) (by kernel_rfl) kD hHeld ?_
 try simp only [Act.put,aA,aB,aC]
 refine kY 5 34 (.pointer (some ⟨K.h,0,none⟩)) rfl rfl (by kernel_rfl) kD (Kt.lu (by rfl) _ rfl _ rfl) hHeld ?_
 try simp only [Act.put,aA,aB,aC]
 refine kF 6 35 (fM _).2 rfl rfl rfl rfl (by rfl) (by kernel_rfl) kD hHeld ?_
 try simp only [Act.put,aA,aB,aC]
 refine kL 7 36 (fun _ h=>lU (h.x)) rfl rfl rfl rfl (by rfl) (by kernel_rfl) kD hHeld ?_
 try simp only [Act.put,aA,aB,aC]
 refine kM 8 37 (.pointer (some ⟨K.h,0,none⟩)) rfl rfl rfl rfl (by rfl) (by kernel_rfl) kD hHeld ?_
 try simp only [Act.put,aA,aB,aC]
 refine kY 9 38 (.pointer (some ⟨K.h,0,none⟩)) rfl rfl (by kernel_rfl) kD (Kt.lu (by rfl) _ rfl _ rfl) hHeld ?_
 try simp only [Act.put,aA,aB,aC]
 refine kF 10 39 ae9 rfl rfl rfl rfl (by rfl) (by kernel_rfl) kD hHeld ?_
 try simp only [Act.put,aA,aB,aC]
 refine kF 11 40 afa rfl rfl rfl rfl (by rfl) (by kernel_rfl) kD hHeld ?_
 try simp only [Act.put,aA,aB,aC]
 refine kL 12 41 (fun _ h=>lI (h.n)) rfl rfl rfl rfl (by rfl) (by kernel_rfl) kD hHeld ?_
 try simp only [Act.put,aA,aB,aC]
 refine kY 13 42 (.agg #[.int .i64 14, .int .i64 1, .int .i64 0, .int .i64 m, .int .i64 0, .int .u32 s.nx, .int .i64 s.aj]) rfl rfl (by kernel_rfl) kD (Kt.qO (by rfl) _ _ rfl (#[(0, .int .i64 14),(1, .int .i64 1),(3, .int .i64 m),(5, .int .u32 s.nx),(6, .int .i64 s.aj)]) _ (by kernel_rfl) afb) hHeld ?_
 try simp only [Act.put,aA,aB,aC]
 refine kR 14 (by kernel_rfl) rfl fun KK bF=> ?_
 go_simp
 go_wp2_with (go_at_call 54;refine P1.out.mono ?_;rintro e w1 ⟨rfl,A1,U1⟩)
 obtain⟨V1,B1,M1,R1,_,_,_,_,_,_,_,_,_,_⟩:=bW B0 ((UW.drew (K:=K) (W:=w0) A0.out.l).trans U1) A1 G1
 clear A1 U1 P1
 clear hHeld
 refine bF.out _ _ R1 (fun hHeld=> ?_)
 clear bF KK
 try simp only [Act.put,aA,aB,aC]
 refine wpAnyH_done (by kernel_rfl) ?_ _
 go_wp2
 go_end0
 exact⟨rfl,M1.out,(U0.out.trans V1.out)⟩
theorem RY (d r:Nat) (f m:Int) (hd:d<8) (hr:r<8) (w:World) (a:LM K s w) (hc:1≤s.aj∧s.aj≤64) (hn:s.ops.length+60<1000000000):
  Calls Tryz.prog 86 #[.pointer (some ⟨K.h,0,none⟩), .agg #[.int .i64 6, .int .i64 d, .int .i64 r, .int .i64 f, .int .u32 m]] w fun e w'=>e= .returned (.tuple #[])∧LM K (s.bg 6 d r f m) w'∧UW K w w':=by
 have HN:=κ hn
 have HC:=κ hc
 have HR:=κ hr
 have HD:=κ hd
 obtain⟨p1,bP⟩:∃p,s.goes ((s.nx+m)%4294967296)=p:=⟨_,rfl⟩
 have g1:Gw 1 s p1:=by rw [←bP];exact bK s _
 have G1:=κ g1
 clear g1
 have E:s.bg 6 d r f m=p1:=by
  unfold Lk.bg
  rw [if_neg (by decide),if_neg (by decide),if_pos (by decide)]
  simp only [au,bP]
 rw [E]
 clear E
 obtain⟨A0,B0,U0⟩:=qm a #[.int .i64 6, .int .i64 d, .int .i64 r, .int .i64 f, .int .u32 m] 74
 have uI:=Tryz.underlying74
 have iI:=iM
 clear a hn hc hd hr
 go_enter Tryz.func86,Tryz.ntmps86
 go_upto_region 1 with fail
 generalize w.alloc (.cells #[.int .i64 6, .int .i64 d, .int .i64 r, .int .i64 f, .int .u32 m] 74)=wz at*
 generalize w.heap.size=bx at*
 have R0:=κ (RS.of B0.out A0.out (Gw.refl s))
 have jG:=B0.out.c 0 _ rfl
 have jH:=B0.out.c 1 _ rfl
 have jI:=B0.out.c 2 _ rfl
 have jJ:=B0.out.c 3 _ rfl
 have jK:=B0.out.c 4 _ rfl
 have jL:=B0.out.l
 have jM:=R0.out.p
 have jO:=R0.out.x
 have jP:=R0.out.n
 have jQ:=A0.out.l
 go_region
 replace B0:=κ (B0.out.uw (UW.drew (K:=K) A0.out.l))
 replace U0:=κ (U0.out.trans (UW.drew (K:=K) A0.out.l))
 replace A0:=κ A0.out.drew
 replace R0:=κ R0.out.drew
 clear jG jH jI jJ jK jL jM jO jP jQ
 generalize wz.drew=w0 at*
 obtain⟨_,_,_,_,_,_,_,_,_,_⟩:=R0.out.all A0.out.l
 have P1:=pG (K:=K) ((s.nx+m)%4294967296) w0 (A0.out) HC.out (by have:=HN.out;omega)
 rw [bP] at P1
 have P1:=κ P1
 go_wp2_with (first
  | (go_at_call 131;refine P1.out.mono ?_;rintro e w1 ⟨rfl,A1,U1⟩;obtain⟨V1,B1,M1,R1,_,_,_,_,_,_,_,_,_,_⟩:=bW B0 (U1) A1 G1;clear A1 U1 P1))
 go_end0
 exact⟨rfl,M1.out,(U0.out.trans V1.out)⟩
theorem RZ (d r:Nat) (f m:Int) (hd:d<8) (hr:r<8) (w:World) (a:LM K s w) (hc:1≤s.aj∧s.aj≤64) (hn:s.ops.length+60<1000000000):
  Calls Tryz.prog 86 #[.pointer (some ⟨K.h,0,none⟩), .agg #[.int .i64 7, .int .i64 d, .int .i64 r, .int .i64 f, .int .u32 m]] w fun e w'=>e= .returned (.tuple #[])∧LM K (s.bg 7 d r f m) w'∧UW K w w':=by
 have HN:=κ hn
 have HC:=κ hc
 have HR:=κ hr
 have HD:=κ hd
 obtain⟨p1,bP⟩:∃p,s.goes ((s.nx+m)%4294967296)=p:=⟨_,rfl⟩
 have g1:Gw 1 s p1:=by rw [←bP];exact bK s _
 have G1:=κ g1
 clear g1
 have E:s.bg 7 d r f m=p1:=by
  unfold Lk.bg
  rw [if_neg (by decide),if_neg (by decide),if_pos (by decide)]
  simp only [au,bP]
 rw [E]
 clear E
 obtain⟨A0,B0,U0⟩:=qm a #[.int .i64 7, .int .i64 d, .int .i64 r, .int .i64 f, .int .u32 m] 74
 have uI:=Tryz.underlying74
 have iI:=iM
 clear a hn hc hd hr
 go_enter Tryz.func86,Tryz.ntmps86
 go_upto_region 1 with fail
 generalize w.alloc (.cells #[.int .i64 7, .int .i64 d, .int .i64 r, .int .i64 f, .int .u32 m] 74)=wz at*
 generalize w.heap.size=bx at*
 have R0:=κ (RS.of B0.out A0.out (Gw.refl s))
 have jG:=B0.out.c 0 _ rfl
 have jH:=B0.out.c 1 _ rfl
 have jI:=B0.out.c 2 _ rfl
 have jJ:=B0.out.c 3 _ rfl
 have jK:=B0.out.c 4 _ rfl
 have jL:=B0.out.l
 have jM:=R0.out.p
 have jO:=R0.out.x
 have jP:=R0.out.n
 have jQ:=A0.out.l
 go_region
 replace B0:=κ (B0.out.uw (UW.drew (K:=K) A0.out.l))
 replace U0:=κ (U0.out.trans (UW.drew (K:=K) A0.out.l))
 replace A0:=κ A0.out.drew
 replace R0:=κ R0.out.drew
 clear jG jH jI jJ jK jL jM jO jP jQ
 generalize wz.drew=w0 at*
 obtain⟨_,_,_,_,_,_,_,_,_,_⟩:=R0.out.all A0.out.l
 have P1:=pG (K:=K) ((s.nx+m)%4294967296) w0 (A0.out) HC.out (by have:=HN.out;omega)
 rw [bP] at P1
 have P1:=κ P1
 go_wp2_with (first
  | (go_at_call 131;refine P1.out.mono ?_;rintro e w1 ⟨rfl,A1,U1⟩;obtain⟨V1,B1,M1,R1,_,_,_,_,_,_,_,_,_,_⟩:=bW B0 (U1) A1 G1;clear A1 U1 P1))
 go_end0
 exact⟨rfl,M1.out,(U0.out.trans V1.out)⟩
theorem MW (d r:Nat) (f m:Int) (hd:d<8) (hr:r<8) (w:World) (a:LM K s w) (hc:1≤s.aj∧s.aj≤64) (hn:s.ops.length+60<1000000000):
  Calls Tryz.prog 86 #[.pointer (some ⟨K.h,0,none⟩), .agg #[.int .i64 12, .int .i64 d, .int .i64 r, .int .i64 f, .int .u32 m]] w fun e w'=>e= .returned (.tuple #[])∧LM K (s.bg 12 d r f m) w'∧UW K w w':=by
 have HN:=κ hn
 have HC:=κ hc
 have HR:=κ hr
 have HD:=κ hd
 obtain⟨p1,bP,G1⟩:=kN _ (pI s f)
 obtain⟨p2,dM,G2⟩:=ni _ (G1.out.trans (bK p1.2 ⟨12,0,p1.1,0,0,((s.nx+m)%4294967296),s.aj⟩))
 obtain⟨p3,je⟩:∃p,p2.goes s.nx=p:=⟨_,rfl⟩
 have g3:Gw 1 p2 p3:=by rw [←je];exact bK p2 _
 have G3:=κ (G2.out.trans g3)
 clear g3
 have E:s.bg 12 d r f m=p3:=by
  unfold Lk.bg
  rw [if_neg (by decide),if_neg (by decide),if_neg (by decide),if_pos (by decide)]
  simp only [au,bP,dM,je]
 rw [E]
 clear E
 obtain⟨A0,B0,U0⟩:=qm a #[.int .i64 12, .int .i64 d, .int .i64 r, .int .i64 f, .int .u32 m] 74
 have uI:=Tryz.underlying74
 have iI:=iM
 clear a hn hc hd hr
 go_enter Tryz.func86,Tryz.ntmps86
 go_upto_region 1 with fail
 generalize w.alloc (.cells #[.int .i64 12, .int .i64 d, .int .i64 r, .int .i64 f, .int .u32 m] 74)=wz at*
 generalize w.heap.size=bx at*
 have R0:=κ (RS.of B0.out A0.out (Gw.refl s))
 have jG:=B0.out.c 0 _ rfl
 have jH:=B0.out.c 1 _ rfl
 have jI:=B0.out.c 2 _ rfl
 have jJ:=B0.out.c 3 _ rfl
 have jK:=B0.out.c 4 _ rfl
 have jL:=B0.out.l
 have jM:=R0.out.p
 have jO:=R0.out.x
 have jP:=R0.out.n
 have jQ:=A0.out.l
 go_region
 replace B0:=κ (B0.out.uw (UW.drew (K:=K) A0.out.l))
 replace U0:=κ (U0.out.trans (UW.drew (K:=K) A0.out.l))
 replace A0:=κ A0.out.drew
 replace R0:=κ R0.out.drew
 clear jG jH jI jJ jK jL jM jO jP jQ
 generalize wz.drew=w0 at*
 obtain⟨_,_,_,_,_,_,_,_,_,_⟩:=R0.out.all A0.out.l
 have P1:=tH (K:=K) f w0.drew (A0.out.drew) (by have:=HN.out;omega)
 rw [bP] at P1
 have P1:=κ P1
 go_wp2
 have hf8:∀w:World,(Instr.fieldAt 110 (.pointer (some ⟨K.h,0,none⟩)) 0).run Tryz.prog w= .ok (.pointer (some ⟨K.h,0,none⟩)) w:=fun w=>by go_simp
 have hf9:∀w:World,(Instr.fieldAt 52 (.pointer (some ⟨K.h,0,none⟩)) 1).run Tryz.prog w= .ok (.pointer (some ⟨K.h,1,none⟩)) w:=fun w=>by go_simp
 have Xf:∀w:World,(Instr.build 115 #[(0, .int .i64 12),(2, .int .i64 p1.1),(5, .int .u32 ((s.nx+m)%4294967296)),(6, .int .i64 s.aj)]).run Tryz.prog w= .ok (.agg #[.int .i64 12, .int .i64 0, .int .i64 p1.1, .int .i64 0, .int .i64 0, .int .u32 ((s.nx+m)%4294967296), .int .i64 s.aj]) w:=fun w=>by go_simp
 refine wp_region_held_drew (S:=RS K s bx #[.int .i64 12, .int .i64 d, .int .i64 r, .int .i64 f, .int .u32 m]) (by kernel_rfl) (R0.out).drew (fun hHeld=> ?_)
 refine kM 0 53 (.pointer (some ⟨K.h,0,none⟩)) rfl rfl rfl rfl (by rfl) (by kernel_rfl) kD hHeld ?_
 try simp only [Act.put,aA,aB,aC]
 refine kM 1 54 (.pointer (some ⟨K.h,0,none⟩)) rfl rfl rfl rfl (by rfl) (by kernel_rfl) kD hHeld ?_
 try simp only [Act.put,aA,aB,aC]
 refine kF 2 55 (fI _ 3 (by decide)) rfl rfl rfl rfl (by rfl) (by kernel_rfl) kD hHeld ?_
 try simp only [Act.put,aA,aB,aC]
 refine kL 3 56 (fun _ h=>lI (h.b.c 3 _ rfl)) rfl rfl rfl rfl (by rfl) (by kernel_rfl) kD hHeld ?_
 try simp only [Act.put,aA,aB,aC]
 refine kM 5 58 (.int .u32 ((s.nx+m)%4294967296)) rfl rfl rfl rfl (by rfl) (by kernel_rfl) kD hHeld ?_
 try simp only [Act.put,aA,aB,aC]
 refine kM 6 59 (.pointer (some ⟨K.h,0,none⟩)) rfl rfl rfl rfl (by rfl) (by kernel_rfl) kD hHeld ?_
 try simp only [Act.put,aA,aB,aC]
 refine kY 7 60 (.pointer (some ⟨K.h,0,none⟩)) rfl rfl (by kernel_rfl) kD (Kt.lu (by rfl) _ rfl _ rfl) hHeld ?_
 try simp only [Act.put,aA,aB,aC]
 refine kF 8 61 hf8 rfl rfl rfl rfl (by rfl) (by kernel_rfl) kD hHeld ?_
 try simp only [Act.put,aA,aB,aC]
 refine kF 9 62 hf9 rfl rfl rfl rfl (by rfl) (by kernel_rfl) kD hHeld ?_
 try simp only [Act.put,aA,aB,aC]
 refine kL 10 63 (fun _ h=>lI (h.n)) rfl rfl rfl rfl (by rfl) (by kernel_rfl) kD hHeld ?_
 try simp only [Act.put,aA,aB,aC]
 refine kR 4 (by kernel_rfl) rfl fun KK bF=> ?_
 go_simp
 go_wp2_with (go_at_call 123;refine P1.out.mono ?_;rintro e w1 ⟨rfl,A1,U1⟩)
 obtain⟨V1,B1,M1,R1,_,_,_,_,_,_,_,_,_,_⟩:=bW B0 ((UW.drew (K:=K) (W:=w0) A0.out.l).trans U1) A1 G1
 have P2:=cO (K:=K) ⟨12,0,p1.1,0,0,((s.nx+m)%4294967296),s.aj⟩ w1 (A1) (by have:=G1.out.n;have:=HN.out;omega)
 rw [dM] at P2
 have P2:=κ P2
 clear A1 U1 P1
 clear hHeld
 refine bF.out _ _ R1 (fun hHeld=> ?_)
 clear bF KK
 try simp only [Act.put,aA,aB,aC]
 refine kY 11 64 (.agg #[.int .i64 12, .int .i64 0, .int .i64 p1.1, .int .i64 0, .int .i64 0, .int .u32 ((s.nx+m)%4294967296), .int .i64 s.aj]) rfl rfl (by kernel_rfl) kD (Kt.qO (by rfl) _ _ rfl (#[(0, .int .i64 12),(2, .int .i64 p1.1),(5, .int .u32 ((s.nx+m)%4294967296)),(6, .int .i64 s.aj)]) _ (by kernel_rfl) Xf) hHeld ?_
 try simp only [Act.put,aA,aB,aC]
 refine kR 12 (by kernel_rfl) rfl fun KK bF=> ?_
 go_simp
 go_wp2_with (go_at_call 54;refine P2.out.mono ?_;rintro e w2 ⟨rfl,A1,U1⟩)
 obtain⟨V2,B2,M2,R2,_,_,_,_,_,_,_,_,_,_⟩:=bW B1 (U1) A1 G2
 have P3:=pG (K:=K) s.nx w2 (A1) (by rw [G2.out.aj];exact HC.out) (by have:=G2.out.n;have:=HN.out;omega)
 rw [je] at P3
 have P3:=κ P3
 clear A1 U1 P2
 clear hHeld
 refine bF.out _ _ R2 (fun hHeld=> ?_)
 clear bF KK
 try simp only [Act.put,aA,aB,aC]
 refine wpAnyH_done (by kernel_rfl) ?_ _
 go_wp2_with (first
  | (go_at_call 131;refine P3.out.mono ?_;rintro e w3 ⟨rfl,A1,U1⟩;obtain⟨V3,B3,M3,R3,_,_,_,_,_,_,_,_,_,_⟩:=bW B2 (U1) A1 G3;clear A1 U1 P3))
 go_end0
 exact⟨rfl,M3.out,(((U0.out.trans V1.out).trans V2.out).trans V3.out)⟩
theorem MX (d r:Nat) (f m:Int) (hd:d<8) (hr:r<8) (w:World) (a:LM K s w) (hc:1≤s.aj∧s.aj≤64) (hn:s.ops.length+60<1000000000):
  Calls Tryz.prog 86 #[.pointer (some ⟨K.h,0,none⟩), .agg #[.int .i64 13, .int .i64 d, .int .i64 r, .int .i64 f, .int .u32 m]] w fun e w'=>e= .returned (.tuple #[])∧LM K (s.bg 13 d r f m) w'∧UW K w w':=by
 have HN:=κ hn
 have HC:=κ hc
 have HR:=κ hr
 have HD:=κ hd
 obtain⟨p1,bP,G1⟩:=kN _ (pI s f)
 obtain⟨p2,dM,G2⟩:=ni _ (G1.out.trans (bK p1.2 ⟨12,0,p1.1,0,0,((s.nx+m)%4294967296),s.aj⟩))
 obtain⟨p3,je⟩:∃p,p2.goes s.nx=p:=⟨_,rfl⟩
 have g3:Gw 1 p2 p3:=by rw [←je];exact bK p2 _
 have G3:=κ (G2.out.trans g3)
 clear g3
 have E:s.bg 13 d r f m=p3:=by
  unfold Lk.bg
  rw [if_neg (by decide),if_neg (by decide),if_neg (by decide),if_pos (by decide)]
  simp only [au,bP,dM,je]
 rw [E]
 clear E
 obtain⟨A0,B0,U0⟩:=qm a #[.int .i64 13, .int .i64 d, .int .i64 r, .int .i64 f, .int .u32 m] 74
 have uI:=Tryz.underlying74
 have iI:=iM
 clear a hn hc hd hr
 go_enter Tryz.func86,Tryz.ntmps86
 go_upto_region 1 with fail
 generalize w.alloc (.cells #[.int .i64 13, .int .i64 d, .int .i64 r, .int .i64 f, .int .u32 m] 74)=wz at*
 generalize w.heap.size=bx at*
 have R0:=κ (RS.of B0.out A0.out (Gw.refl s))
 have jG:=B0.out.c 0 _ rfl
 have jH:=B0.out.c 1 _ rfl
 have jI:=B0.out.c 2 _ rfl
 have jJ:=B0.out.c 3 _ rfl
 have jK:=B0.out.c 4 _ rfl
 have jL:=B0.out.l
 have jM:=R0.out.p
 have jO:=R0.out.x
 have jP:=R0.out.n
 have jQ:=A0.out.l
 go_region
 replace B0:=κ (B0.out.uw (UW.drew (K:=K) A0.out.l))
 replace U0:=κ (U0.out.trans (UW.drew (K:=K) A0.out.l))
 replace A0:=κ A0.out.drew
 replace R0:=κ R0.out.drew
 clear jG jH jI jJ jK jL jM jO jP jQ
 generalize wz.drew=w0 at*
 obtain⟨_,_,_,_,_,_,_,_,_,_⟩:=R0.out.all A0.out.l
 have P1:=tH (K:=K) f w0.drew (A0.out.drew) (by have:=HN.out;omega)
 rw [bP] at P1
 have P1:=κ P1
 go_wp2
 have hf8:∀w:World,(Instr.fieldAt 110 (.pointer (some ⟨K.h,0,none⟩)) 0).run Tryz.prog w= .ok (.pointer (some ⟨K.h,0,none⟩)) w:=fun w=>by go_simp
 have hf9:∀w:World,(Instr.fieldAt 52 (.pointer (some ⟨K.h,0,none⟩)) 1).run Tryz.prog w= .ok (.pointer (some ⟨K.h,1,none⟩)) w:=fun w=>by go_simp
 have Xf:∀w:World,(Instr.build 115 #[(0, .int .i64 12),(2, .int .i64 p1.1),(5, .int .u32 ((s.nx+m)%4294967296)),(6, .int .i64 s.aj)]).run Tryz.prog w= .ok (.agg #[.int .i64 12, .int .i64 0, .int .i64 p1.1, .int .i64 0, .int .i64 0, .int .u32 ((s.nx+m)%4294967296), .int .i64 s.aj]) w:=fun w=>by go_simp
 refine wp_region_held_drew (S:=RS K s bx #[.int .i64 13, .int .i64 d, .int .i64 r, .int .i64 f, .int .u32 m]) (by kernel_rfl) (R0.out).drew (fun hHeld=> ?_)
 refine kM 0 53 (.pointer (some ⟨K.h,0,none⟩)) rfl rfl rfl rfl (by rfl) (by kernel_rfl) kD hHeld ?_
 try simp only [Act.put,aA,aB,aC]
 refine kM 1 54 (.pointer (some ⟨K.h,0,none⟩)) rfl rfl rfl rfl (by rfl) (by kernel_rfl) kD hHeld ?_
 try simp only [Act.put,aA,aB,aC]
 refine kF 2 55 (fI _ 3 (by decide)) rfl rfl rfl rfl (by rfl) (by kernel_rfl) kD hHeld ?_
 try simp only [Act.put,aA,aB,aC]
 refine kL 3 56 (fun _ h=>lI (h.b.c 3 _ rfl)) rfl rfl rfl rfl (by rfl) (by kernel_rfl) kD hHeld ?_
 try simp only [Act.put,aA,aB,aC]
 refine kM 5 58 (.int .u32 ((s.nx+m)%4294967296)) rfl rfl rfl rfl (by rfl) (by kernel_rfl) kD hHeld ?_
 try simp only [Act.put,aA,aB,aC]
 refine kM 6 59 (.pointer (some ⟨K.h,0,none⟩)) rfl rfl rfl rfl (by rfl) (by kernel_rfl) kD hHeld ?_
 try simp only [Act.put,aA,aB,aC]
 refine kY 7 60 (.pointer (some ⟨K.h,0,none⟩)) rfl rfl (by kernel_rfl) kD (Kt.lu (by rfl) _ rfl _ rfl) hHeld ?_
 try simp only [Act.put,aA,aB,aC]
 refine kF 8 61 hf8 rfl rfl rfl rfl (by rfl) (by kernel_rfl) kD hHeld ?_
 try simp only [Act.put,aA,aB,aC]
 refine kF 9 62 hf9 rfl rfl rfl rfl (by rfl) (by kernel_rfl) kD hHeld ?_
 try simp only [Act.put,aA,aB,aC]
 refine kL 10 63 (fun _ h=>lI (h.n)) rfl rfl rfl rfl (by rfl) (by kernel_rfl) kD hHeld ?_
 try simp only [Act.put,aA,aB,aC]
 refine kR 4 (by kernel_rfl) rfl fun KK bF=> ?_
 go_simp
 go_wp2_with (go_at_call 123;refine P1.out.mono ?_;rintro e w1 ⟨rfl,A1,U1⟩)
 obtain⟨V1,B1,M1,R1,_,_,_,_,_,_,_,_,_,_⟩:=bW B0 ((UW.drew (K:=K) (W:=w0) A0.out.l).trans U1) A1 G1
 have P2:=cO (K:=K) ⟨12,0,p1.1,0,0,((s.nx+m)%4294967296),s.aj⟩ w1 (A1) (by have:=G1.out.n;have:=HN.out;omega)
 rw [dM] at P2
 have P2:=κ P2
 clear A1 U1 P1
 clear hHeld
 refine bF.out _ _ R1 (fun hHeld=> ?_)
 clear bF KK
 try simp only [Act.put,aA,aB,aC]
 refine kY 11 64 (.agg #[.int .i64 12, .int .i64 0, .int .i64 p1.1, .int .i64 0, .int .i64 0, .int .u32 ((s.nx+m)%4294967296), .int .i64 s.aj]) rfl rfl (by kernel_rfl) kD (Kt.qO (by rfl) _ _ rfl (#[(0, .int .i64 12),(2, .int .i64 p1.1),(5, .int .u32 ((s.nx+m)%4294967296)),(6, .int .i64 s.aj)]) _ (by kernel_rfl) Xf) hHeld ?_
 try simp only [Act.put,aA,aB,aC]
 refine kR 12 (by kernel_rfl) rfl fun KK bF=> ?_
 go_simp
 go_wp2_with (go_at_call 54;refine P2.out.mono ?_;rintro e w2 ⟨rfl,A1,U1⟩)
 obtain⟨V2,B2,M2,R2,_,_,_,_,_,_,_,_,_,_⟩:=bW B1 (U1) A1 G2
 have P3:=pG (K:=K) s.nx w2 (A1) (by rw [G2.out.aj];exact HC.out) (by have:=G2.out.n;have:=HN.out;omega)
 rw [je] at P3
 have P3:=κ P3
 clear A1 U1 P2
 clear hHeld
 refine bF.out _ _ R2 (fun hHeld=> ?_)
 clear bF KK
 try simp only [Act.put,aA,aB,aC]
 refine wpAnyH_done (by kernel_rfl) ?_ _
 go_wp2_with (first
  | (go_at_call 131;refine P3.out.mono ?_;rintro e w3 ⟨rfl,A1,U1⟩;obtain⟨V3,B3,M3,R3,_,_,_,_,_,_,_,_,_,_⟩:=bW B2 (U1) A1 G3;clear A1 U1 P3))
 go_end0
 exact⟨rfl,M3.out,(((U0.out.trans V1.out).trans V2.out).trans V3.out)⟩
theorem Si (d r:Nat) (f m:Int) (hd:d<8) (hr:r<8) (w:World) (a:LM K s w) (hc:1≤s.aj∧s.aj≤64) (hn:s.ops.length+60<1000000000):
  Calls Tryz.prog 86 #[.pointer (some ⟨K.h,0,none⟩), .agg #[.int .i64 9, .int .i64 d, .int .i64 r, .int .i64 f, .int .u32 m]] w fun e w'=>e= .returned (.tuple #[])∧LM K (s.bg 9 d r f m) w'∧UW K w w':=by
 have HN:=κ hn
 have HC:=κ hc
 have HR:=κ hr
 have HD:=κ hd
 obtain⟨p1,bP,G1⟩:=kN _ (bG s r)
 obtain⟨p2,dM⟩:∃p,p1.2.dK p1.1=p:=⟨_,rfl⟩
 have g2:Gw 1 p1.2 p2:=by rw [←dM];exact bK p1.2 _
 have G2:=κ (G1.out.trans g2)
 clear g2
 have E:s.bg 9 d r f m=p2:=by
  unfold Lk.bg
  rw [if_neg (by decide),if_neg (by decide),if_neg (by decide),if_neg (by decide),if_pos (by decide)]
  simp only [au,bP,dM]
 rw [E]
 clear E
 obtain⟨A0,B0,U0⟩:=qm a #[.int .i64 9, .int .i64 d, .int .i64 r, .int .i64 f, .int .u32 m] 74
 have uI:=Tryz.underlying74
 have iI:=iM
 clear a hn hc hd hr
 go_enter Tryz.func86,Tryz.ntmps86
 go_upto_region 1 with fail
 generalize w.alloc (.cells #[.int .i64 9, .int .i64 d, .int .i64 r, .int .i64 f, .int .u32 m] 74)=wz at*
 generalize w.heap.size=bx at*
 have R0:=κ (RS.of B0.out A0.out (Gw.refl s))
 have jG:=B0.out.c 0 _ rfl
 have jH:=B0.out.c 1 _ rfl
 have jI:=B0.out.c 2 _ rfl
 have jJ:=B0.out.c 3 _ rfl
 have jK:=B0.out.c 4 _ rfl
 have jL:=B0.out.l
 have jM:=R0.out.p
 have jO:=R0.out.x
 have jP:=R0.out.n
 have jQ:=A0.out.l
 go_region
 replace B0:=κ (B0.out.uw (UW.drew (K:=K) A0.out.l))
 replace U0:=κ (U0.out.trans (UW.drew (K:=K) A0.out.l))
 replace A0:=κ A0.out.drew
 replace R0:=κ R0.out.drew
 clear jG jH jI jJ jK jL jM jO jP jQ
 generalize wz.drew=w0 at*
 obtain⟨_,_,_,_,_,_,_,_,_,_⟩:=R0.out.all A0.out.l
 have P1:=bU (K:=K) r HR.out w0 (A0.out) (by have:=HN.out;omega)
 rw [bP] at P1
 have P1:=κ P1
 go_wp2_with (first
  | (go_at_call 118;refine P1.out.mono ?_;rintro e w1 ⟨rfl,A1,U1⟩;obtain⟨V1,B1,M1,R1,_,_,_,_,_,_,_,_,_,_⟩:=bW B0 (U1) A1 G1;have P2:=oC (K:=K) p1.1 w1 (A1) (by rw [G1.out.aj];exact HC.out) (by have:=G1.out.n;have:=HN.out;omega);rw [dM] at P2;have P2:=κ P2;clear A1 U1 P1)
  | (go_at_call 132;refine P2.out.mono ?_;rintro e w2 ⟨rfl,A1,U1⟩;obtain⟨V2,B2,M2,R2,_,_,_,_,_,_,_,_,_,_⟩:=bW B1 (U1) A1 G2;clear A1 U1 P2))
 go_end0
 exact⟨rfl,M2.out,((U0.out.trans V1.out).trans V2.out)⟩
theorem MZ (d r:Nat) (f m:Int) (hd:d<8) (hr:r<8) (w:World) (a:LM K s w) (hc:1≤s.aj∧s.aj≤64) (hn:s.ops.length+60<1000000000):
  Calls Tryz.prog 86 #[.pointer (some ⟨K.h,0,none⟩), .agg #[.int .i64 11, .int .i64 d, .int .i64 r, .int .i64 f, .int .u32 m]] w fun e w'=>e= .returned (.tuple #[])∧LM K (s.bg 11 d r f m) w'∧UW K w w':=by
 have HN:=κ hn
 have HC:=κ hc
 have HR:=κ hr
 have HD:=κ hd
 obtain⟨p1,bP,G1⟩:=kN _ (kE s r m)
 obtain⟨p2,dM,G2⟩:=kN _ (G1.out.trans (jV p1.2 4 p1.1))
 obtain⟨p3,je⟩:∃p,p2.2.dK p2.1=p:=⟨_,rfl⟩
 have g3:Gw 1 p2.2 p3:=by rw [←je];exact bK p2.2 _
 have G3:=κ (G2.out.trans g3)
 clear g3
 have E:s.bg 11 d r f m=p3:=by
  unfold Lk.bg
  rw [if_neg (by decide),if_neg (by decide),if_neg (by decide),if_neg (by decide),if_neg (by decide),if_pos (by decide)]
  simp only [au,bP,dM,je]
 rw [E]
 clear E
 obtain⟨A0,B0,U0⟩:=qm a #[.int .i64 11, .int .i64 d, .int .i64 r, .int .i64 f, .int .u32 m] 74
 have uI:=Tryz.underlying74
 have iI:=iM
 clear a hn hc hd hr
 go_enter Tryz.func86,Tryz.ntmps86
 go_upto_region 1 with fail
 generalize w.alloc (.cells #[.int .i64 11, .int .i64 d, .int .i64 r, .int .i64 f, .int .u32 m] 74)=wz at*
 generalize w.heap.size=bx at*
 have R0:=κ (RS.of B0.out A0.out (Gw.refl s))
 have jG:=B0.out.c 0 _ rfl
 have jH:=B0.out.c 1 _ rfl
 have jI:=B0.out.c 2 _ rfl
 have jJ:=B0.out.c 3 _ rfl
 have jK:=B0.out.c 4 _ rfl
 have jL:=B0.out.l
 have jM:=R0.out.p
 have jO:=R0.out.x
 have jP:=R0.out.n
 have jQ:=A0.out.l
 go_region
 replace B0:=κ (B0.out.uw (UW.drew (K:=K) A0.out.l))
 replace U0:=κ (U0.out.trans (UW.drew (K:=K) A0.out.l))
 replace A0:=κ A0.out.drew
 replace R0:=κ R0.out.drew
 clear jG jH jI jJ jK jL jM jO jP jQ
 generalize wz.drew=w0 at*
 obtain⟨_,_,_,_,_,_,_,_,_,_⟩:=R0.out.all A0.out.l
 have P1:=oG (K:=K) 11 d f m r HR.out w0 (A0.out) (by have:=HN.out;omega)
 rw [bP] at P1
 have P1:=κ P1
 go_wp2_with (first
  | (go_at_call 124;refine P1.out.mono ?_;rintro e w1 ⟨rfl,A1,U1⟩;obtain⟨V1,B1,M1,R1,_,_,_,_,_,_,_,_,_,_⟩:=bW B0 (U1) A1 G1;have P2:=kW (K:=K) 4 p1.1 w1 (A1) (by rw [G1.out.aj];exact HC.out) (by have:=G1.out.n;have:=HN.out;omega);rw [dM] at P2;have P2:=κ P2;clear A1 U1 P1)
  | (go_at_call 126;refine P2.out.mono ?_;rintro e w2 ⟨rfl,A1,U1⟩;obtain⟨V2,B2,M2,R2,_,_,_,_,_,_,_,_,_,_⟩:=bW B1 (U1) A1 G2;have P3:=oC (K:=K) p2.1 w2 (A1) (by rw [G2.out.aj];exact HC.out) (by have:=G2.out.n;have:=HN.out;omega);rw [je] at P3;have P3:=κ P3;clear A1 U1 P2)
  | (go_at_call 132;refine P3.out.mono ?_;rintro e w3 ⟨rfl,A1,U1⟩;obtain⟨V3,B3,M3,R3,_,_,_,_,_,_,_,_,_,_⟩:=bW B2 (U1) A1 G3;clear A1 U1 P3))
 go_end0
 exact⟨rfl,M3.out,(((U0.out.trans V1.out).trans V2.out).trans V3.out)⟩
theorem Sj (d r:Nat) (f m:Int) (hd:d<8) (hr:r<8) (w:World) (a:LM K s w) (hc:1≤s.aj∧s.aj≤64) (hn:s.ops.length+60<1000000000):
  Calls Tryz.prog 86 #[.pointer (some ⟨K.h,0,none⟩), .agg #[.int .i64 8, .int .i64 d, .int .i64 r, .int .i64 f, .int .u32 m]] w fun e w'=>e= .returned (.tuple #[])∧LM K (s.bg 8 d r f m) w'∧UW K w w':=by
 have HN:=κ hn
 have HC:=κ hc
 have HR:=κ hr
 have HD:=κ hd
 obtain⟨p1,bP,G1⟩:=kN _ (lF s s.nx)
 obtain⟨p2,dM,G2⟩:=ni _ (G1.out.trans (mG p1.2 p1.1))
 obtain⟨p3,je⟩:∃p,p2.goes ((s.nx+m)%4294967296)=p:=⟨_,rfl⟩
 have g3:Gw 1 p2 p3:=by rw [←je];exact bK p2 _
 have G3:=κ (G2.out.trans g3)
 clear g3
 have E:s.bg 8 d r f m=p3:=by
  unfold Lk.bg
  rw [if_neg (by decide),if_neg (by decide),if_neg (by decide),if_neg (by decide),if_neg (by decide),if_neg (by decide),if_pos (by decide)]
  simp only [au,bP,dM,je]
 rw [E]
 clear E
 obtain⟨A0,B0,U0⟩:=qm a #[.int .i64 8, .int .i64 d, .int .i64 r, .int .i64 f, .int .u32 m] 74
 have uI:=Tryz.underlying74
 have iI:=iM
 clear a hn hc hd hr
 go_enter Tryz.func86,Tryz.ntmps86
 go_upto_region 1 with fail
 generalize w.alloc (.cells #[.int .i64 8, .int .i64 d, .int .i64 r, .int .i64 f, .int .u32 m] 74)=wz at*
 generalize w.heap.size=bx at*
 have R0:=κ (RS.of B0.out A0.out (Gw.refl s))
 have jG:=B0.out.c 0 _ rfl
 have jH:=B0.out.c 1 _ rfl
 have jI:=B0.out.c 2 _ rfl
 have jJ:=B0.out.c 3 _ rfl
 have jK:=B0.out.c 4 _ rfl
 have jL:=B0.out.l
 have jM:=R0.out.p
 have jO:=R0.out.x
 have jP:=R0.out.n
 have jQ:=A0.out.l
 go_region
 replace B0:=κ (B0.out.uw (UW.drew (K:=K) A0.out.l))
 replace U0:=κ (U0.out.trans (UW.drew (K:=K) A0.out.l))
 replace A0:=κ A0.out.drew
 replace R0:=κ R0.out.drew
 clear jG jH jI jJ jK jL jM jO jP jQ
 generalize wz.drew=w0 at*
 obtain⟨_,_,_,_,_,_,_,_,_,_⟩:=R0.out.all A0.out.l
 have P1:=dF (K:=K) s.nx w0 (A0.out) (by have:=HN.out;omega)
 rw [bP] at P1
 have P1:=κ P1
 go_wp2_with (first
  | (go_at_call 117;refine P1.out.mono ?_;rintro e w1 ⟨rfl,A1,U1⟩;obtain⟨V1,B1,M1,R1,_,_,_,_,_,_,_,_,_,_⟩:=bW B0 (U1) A1 G1;have P2:=rY (K:=K) p1.1 w1 (A1) (by rw [G1.out.aj];exact HC.out) (by have:=G1.out.n;have:=HN.out;omega);rw [dM] at P2;have P2:=κ P2;clear A1 U1 P1)
  | (go_at_call 133;refine P2.out.mono ?_;rintro e w2 ⟨rfl,A1,U1⟩;obtain⟨V2,B2,M2,R2,_,_,_,_,_,_,_,_,_,_⟩:=bW B1 (U1) A1 G2;have P3:=pG (K:=K) ((s.nx+m)%4294967296) w2 (A1) (by rw [G2.out.aj];exact HC.out) (by have:=G2.out.n;have:=HN.out;omega);rw [je] at P3;have P3:=κ P3;clear A1 U1 P2)
  | (go_at_call 131;refine P3.out.mono ?_;rintro e w3 ⟨rfl,A1,U1⟩;obtain⟨V3,B3,M3,R3,_,_,_,_,_,_,_,_,_,_⟩:=bW B2 (U1) A1 G3;clear A1 U1 P3))
 go_end0
 exact⟨rfl,M3.out,(((U0.out.trans V1.out).trans V2.out).trans V3.out)⟩
theorem Na (d r:Nat) (f m:Int) (hd:d<8) (hr:r<8) (w:World) (a:LM K s w) (hc:1≤s.aj∧s.aj≤64) (hn:s.ops.length+60<1000000000):
  Calls Tryz.prog 86 #[.pointer (some ⟨K.h,0,none⟩), .agg #[.int .i64 10, .int .i64 d, .int .i64 r, .int .i64 f, .int .u32 m]] w fun e w'=>e= .returned (.tuple #[])∧LM K (s.bg 10 d r f m) w'∧UW K w w':=by
 have HN:=κ hn
 have HC:=κ hc
 have HR:=κ hr
 have HD:=κ hd
 obtain⟨p1,bP,G1⟩:=kN _ (bG s r)
 obtain⟨p2,dM,G2⟩:=kN _ (G1.out.trans (lF p1.2 s.nx))
 obtain⟨p3,je,G3⟩:=ni _ (G2.out.trans (mG p2.2 p2.1))
 obtain⟨p4,pJ⟩:∃p,p3.dK p1.1=p:=⟨_,rfl⟩
 have g4:Gw 1 p3 p4:=by rw [←pJ];exact bK p3 _
 have G4:=κ (G3.out.trans g4)
 clear g4
 have E:s.bg 10 d r f m=p4:=by
  unfold Lk.bg
  rw [if_neg (by decide),if_neg (by decide),if_neg (by decide),if_neg (by decide),if_neg (by decide),if_neg (by decide),if_neg (by decide),if_pos (by decide)]
  simp only [au,bP,dM,je,pJ]
 rw [E]
 clear E
 obtain⟨A0,B0,U0⟩:=qm a #[.int .i64 10, .int .i64 d, .int .i64 r, .int .i64 f, .int .u32 m] 74
 have uI:=Tryz.underlying74
 have iI:=iM
 clear a hn hc hd hr
 go_enter Tryz.func86,Tryz.ntmps86
 go_upto_region 1 with fail
 generalize w.alloc (.cells #[.int .i64 10, .int .i64 d, .int .i64 r, .int .i64 f, .int .u32 m] 74)=wz at*
 generalize w.heap.size=bx at*
 have R0:=κ (RS.of B0.out A0.out (Gw.refl s))
 have jG:=B0.out.c 0 _ rfl
 have jH:=B0.out.c 1 _ rfl
 have jI:=B0.out.c 2 _ rfl
 have jJ:=B0.out.c 3 _ rfl
 have jK:=B0.out.c 4 _ rfl
 have jL:=B0.out.l
 have jM:=R0.out.p
 have jO:=R0.out.x
 have jP:=R0.out.n
 have jQ:=A0.out.l
 go_region
 replace B0:=κ (B0.out.uw (UW.drew (K:=K) A0.out.l))
 replace U0:=κ (U0.out.trans (UW.drew (K:=K) A0.out.l))
 replace A0:=κ A0.out.drew
 replace R0:=κ R0.out.drew
 clear jG jH jI jJ jK jL jM jO jP jQ
 generalize wz.drew=w0 at*
 obtain⟨_,_,_,_,_,_,_,_,_,_⟩:=R0.out.all A0.out.l
 have P1:=bU (K:=K) r HR.out w0 (A0.out) (by have:=HN.out;omega)
 rw [bP] at P1
 have P1:=κ P1
 go_wp2_with (first
  | (go_at_call 118;refine P1.out.mono ?_;rintro e w1 ⟨rfl,A1,U1⟩;obtain⟨V1,B1,M1,R1,_,_,_,_,_,_,_,_,_,_⟩:=bW B0 (U1) A1 G1;have P2:=dF (K:=K) s.nx w1 (A1) (by have:=G1.out.n;have:=HN.out;omega);rw [dM] at P2;have P2:=κ P2;clear A1 U1 P1)
  | (go_at_call 117;refine P2.out.mono ?_;rintro e w2 ⟨rfl,A1,U1⟩;obtain⟨V2,B2,M2,R2,_,_,_,_,_,_,_,_,_,_⟩:=bW B1 (U1) A1 G2;have P3:=rY (K:=K) p2.1 w2 (A1) (by rw [G2.out.aj];exact HC.out) (by have:=G2.out.n;have:=HN.out;omega);rw [je] at P3;have P3:=κ P3;clear A1 U1 P2)
  | (go_at_call 133;refine P3.out.mono ?_;rintro e w3 ⟨rfl,A1,U1⟩;obtain⟨V3,B3,M3,R3,_,_,_,_,_,_,_,_,_,_⟩:=bW B2 (U1) A1 G3;have P4:=oC (K:=K) p1.1 w3 (A1) (by rw [G3.out.aj];exact HC.out) (by have:=G3.out.n;have:=HN.out;omega);rw [pJ] at P4;have P4:=κ P4;clear A1 U1 P3)
  | (go_at_call 132;refine P4.out.mono ?_;rintro e w4 ⟨rfl,A1,U1⟩;obtain⟨V4,B4,M4,R4,_,_,_,_,_,_,_,_,_,_⟩:=bW B3 (U1) A1 G4;clear A1 U1 P4))
 go_end0
 exact⟨rfl,M4.out,((((U0.out.trans V1.out).trans V2.out).trans V3.out).trans V4.out)⟩
theorem Sl (d r:Nat) (f m:Int) (hd:d<8) (hr:r<8) (w:World) (a:LM K s w) (hc:1≤s.aj∧s.aj≤64) (hn:s.ops.length+60<1000000000):
  Calls Tryz.prog 86 #[.pointer (some ⟨K.h,0,none⟩), .agg #[.int .i64 2, .int .i64 d, .int .i64 r, .int .i64 f, .int .u32 m]] w fun e w'=>e= .returned (.tuple #[])∧LM K (s.bg 2 d r f m) w'∧UW K w w':=by
 have HN:=κ hn
 have HC:=κ hc
 have HR:=κ hr
 have HD:=κ hd
 obtain⟨p1,bP,G1⟩:=kN _ (tu s)
 obtain⟨p2,dM⟩:∃p,p1.2.dK p1.1=p:=⟨_,rfl⟩
 have g2:Gw 1 p1.2 p2:=by rw [←dM];exact bK p1.2 _
 have G2:=κ (G1.out.trans g2)
 clear g2
 have E:s.bg 2 d r f m=p2:=by
  unfold Lk.bg
  rw [if_neg (by decide),if_neg (by decide),if_neg (by decide),if_neg (by decide),if_neg (by decide),if_neg (by decide),if_neg (by decide),if_neg (by decide),if_pos (by decide)]
  simp only [au,bP,dM]
 rw [E]
 clear E
 obtain⟨A0,B0,U0⟩:=qm a #[.int .i64 2, .int .i64 d, .int .i64 r, .int .i64 f, .int .u32 m] 74
 have uI:=Tryz.underlying74
 have iI:=iM
 clear a hn hc hd hr
 go_enter Tryz.func86,Tryz.ntmps86
 go_upto_region 1 with fail
 generalize w.alloc (.cells #[.int .i64 2, .int .i64 d, .int .i64 r, .int .i64 f, .int .u32 m] 74)=wz at*
 generalize w.heap.size=bx at*
 have R0:=κ (RS.of B0.out A0.out (Gw.refl s))
 have jG:=B0.out.c 0 _ rfl
 have jH:=B0.out.c 1 _ rfl
 have jI:=B0.out.c 2 _ rfl
 have jJ:=B0.out.c 3 _ rfl
 have jK:=B0.out.c 4 _ rfl
 have jL:=B0.out.l
 have jM:=R0.out.p
 have jO:=R0.out.x
 have jP:=R0.out.n
 have jQ:=A0.out.l
 go_region
 replace B0:=κ (B0.out.uw (UW.drew (K:=K) A0.out.l))
 replace U0:=κ (U0.out.trans (UW.drew (K:=K) A0.out.l))
 replace A0:=κ A0.out.drew
 replace R0:=κ R0.out.drew
 clear jG jH jI jJ jK jL jM jO jP jQ
 generalize wz.drew=w0 at*
 obtain⟨_,_,_,_,_,_,_,_,_,_⟩:=R0.out.all A0.out.l
 have P1:=yU (K:=K) w0 (A0.out) HC.out (by have:=HN.out;omega)
 rw [bP] at P1
 have P1:=κ P1
 go_wp2_with (first
  | (go_at_call 134;refine P1.out.mono ?_;rintro e w1 ⟨rfl,A1,U1⟩;obtain⟨V1,B1,M1,R1,_,_,_,_,_,_,_,_,_,_⟩:=bW B0 (U1) A1 G1;have P2:=oC (K:=K) p1.1 w1 (A1) (by rw [G1.out.aj];exact HC.out) (by have:=G1.out.n;have:=HN.out;omega);rw [dM] at P2;have P2:=κ P2;clear A1 U1 P1)
  | (go_at_call 132;refine P2.out.mono ?_;rintro e w2 ⟨rfl,A1,U1⟩;obtain⟨V2,B2,M2,R2,_,_,_,_,_,_,_,_,_,_⟩:=bW B1 (U1) A1 G2;clear A1 U1 P2))
 go_end0
 exact⟨rfl,M2.out,((U0.out.trans V1.out).trans V2.out)⟩
theorem Nb (d r:Nat) (f m:Int) (hd:d<8) (hr:r<8) (w:World) (a:LM K s w) (hc:1≤s.aj∧s.aj≤64) (hn:s.ops.length+60<1000000000):
  Calls Tryz.prog 86 #[.pointer (some ⟨K.h,0,none⟩), .agg #[.int .i64 14, .int .i64 d, .int .i64 r, .int .i64 f, .int .u32 m]] w fun e w'=>e= .returned (.tuple #[])∧LM K (s.bg 14 d r f m) w'∧UW K w w':=by
 have HN:=κ hn
 have HC:=κ hc
 have HR:=κ hr
 have HD:=κ hd
 obtain⟨p1,bP,G1⟩:=kN _ (bG s r)
 obtain⟨p2,dM,G2⟩:=ni _ (G1.out.trans (mG p1.2 p1.1))
 obtain⟨p3,je,G3⟩:=ni _ (G2.out.trans (iV p2))
 have E:s.bg 14 d r f m=p3:=by
  unfold Lk.bg
  rw [if_neg (by decide),if_neg (by decide),if_neg (by decide),if_neg (by decide),if_neg (by decide),if_neg (by decide),if_neg (by decide),if_neg (by decide),if_neg (by decide),if_pos (by decide)]
  simp only [au,bP,dM,je]
 rw [E]
 clear E
 obtain⟨A0,B0,U0⟩:=qm a #[.int .i64 14, .int .i64 d, .int .i64 r, .int .i64 f, .int .u32 m] 74
 have uI:=Tryz.underlying74
 have iI:=iM
 clear a hn hc hd hr
 go_enter Tryz.func86,Tryz.ntmps86
 go_upto_region 1 with fail
 generalize w.alloc (.cells #[.int .i64 14, .int .i64 d, .int .i64 r, .int .i64 f, .int .u32 m] 74)=wz at*
 generalize w.heap.size=bx at*
 have R0:=κ (RS.of B0.out A0.out (Gw.refl s))
 have jG:=B0.out.c 0 _ rfl
 have jH:=B0.out.c 1 _ rfl
 have jI:=B0.out.c 2 _ rfl
 have jJ:=B0.out.c 3 _ rfl
 have jK:=B0.out.c 4 _ rfl
 have jL:=B0.out.l
 have jM:=R0.out.p
 have jO:=R0.out.x
 have jP:=R0.out.n
 have jQ:=A0.out.l
 go_region
 replace B0:=κ (B0.out.uw (UW.drew (K:=K) A0.out.l))
 replace U0:=κ (U0.out.trans (UW.drew (K:=K) A0.out.l))
 replace A0:=κ A0.out.drew
 replace R0:=κ R0.out.drew
 clear jG jH jI jJ jK jL jM jO jP jQ
 generalize wz.drew=w0 at*
 obtain⟨_,_,_,_,_,_,_,_,_,_⟩:=R0.out.all A0.out.l
 have P1:=bU (K:=K) r HR.out w0 (A0.out) (by have:=HN.out;omega)
 rw [bP] at P1
 have P1:=κ P1
 go_wp2_with (first
  | (go_at_call 118;refine P1.out.mono ?_;rintro e w1 ⟨rfl,A1,U1⟩;obtain⟨V1,B1,M1,R1,_,_,_,_,_,_,_,_,_,_⟩:=bW B0 (U1) A1 G1;have P2:=rY (K:=K) p1.1 w1 (A1) (by rw [G1.out.aj];exact HC.out) (by have:=G1.out.n;have:=HN.out;omega);rw [dM] at P2;have P2:=κ P2;clear A1 U1 P1)
  | (go_at_call 133;refine P2.out.mono ?_;rintro e w2 ⟨rfl,A1,U1⟩;obtain⟨V2,B2,M2,R2,_,_,_,_,_,_,_,_,_,_⟩:=bW B1 (U1) A1 G2;have P3:=kS (K:=K) w2 (A1) (by rw [G2.out.aj];exact HC.out) (by have:=G2.out.n;have:=HN.out;omega);rw [je] at P3;have P3:=κ P3;clear A1 U1 P2)
  | (go_at_call 128;refine P3.out.mono ?_;rintro e w3 ⟨rfl,A1,U1⟩;obtain⟨V3,B3,M3,R3,_,_,_,_,_,_,_,_,_,_⟩:=bW B2 (U1) A1 G3;clear A1 U1 P3))
 go_end0
 exact⟨rfl,M3.out,(((U0.out.trans V1.out).trans V2.out).trans V3.out)⟩
theorem Nc (d r:Nat) (f m:Int) (hd:d<8) (hr:r<8) (w:World) (a:LM K s w) (hc:1≤s.aj∧s.aj≤64) (hn:s.ops.length+60<1000000000):
  Calls Tryz.prog 86 #[.pointer (some ⟨K.h,0,none⟩), .agg #[.int .i64 15, .int .i64 d, .int .i64 r, .int .i64 f, .int .u32 m]] w fun e w'=>e= .returned (.tuple #[])∧LM K (s.bg 15 d r f m) w'∧UW K w w':=by
 have HN:=κ hn
 have HC:=κ hc
 have HR:=κ hr
 have HD:=κ hd
 obtain⟨p1,bP,G1⟩:=kN _ (tu s)
 obtain⟨p2,dM,G2⟩:=ni _ (G1.out.trans (bM p1.2 d p1.1))
 have E:s.bg 15 d r f m=p2:=by
  unfold Lk.bg
  rw [if_neg (by decide),if_neg (by decide),if_neg (by decide),if_neg (by decide),if_neg (by decide),if_neg (by decide),if_neg (by decide),if_neg (by decide),if_neg (by decide),if_neg (by decide),if_pos (by decide)]
  simp only [au,bP,dM]
 rw [E]
 clear E
 obtain⟨A0,B0,U0⟩:=qm a #[.int .i64 15, .int .i64 d, .int .i64 r, .int .i64 f, .int .u32 m] 74
 have uI:=Tryz.underlying74
 have iI:=iM
 clear a hn hc hd hr
 go_enter Tryz.func86,Tryz.ntmps86
 go_upto_region 1 with fail
 generalize w.alloc (.cells #[.int .i64 15, .int .i64 d, .int .i64 r, .int .i64 f, .int .u32 m] 74)=wz at*
 generalize w.heap.size=bx at*
 have R0:=κ (RS.of B0.out A0.out (Gw.refl s))
 have jG:=B0.out.c 0 _ rfl
 have jH:=B0.out.c 1 _ rfl
 have jI:=B0.out.c 2 _ rfl
 have jJ:=B0.out.c 3 _ rfl
 have jK:=B0.out.c 4 _ rfl
 have jL:=B0.out.l
 have jM:=R0.out.p
 have jO:=R0.out.x
 have jP:=R0.out.n
 have jQ:=A0.out.l
 go_region
 replace B0:=κ (B0.out.uw (UW.drew (K:=K) A0.out.l))
 replace U0:=κ (U0.out.trans (UW.drew (K:=K) A0.out.l))
 replace A0:=κ A0.out.drew
 replace R0:=κ R0.out.drew
 clear jG jH jI jJ jK jL jM jO jP jQ
 generalize wz.drew=w0 at*
 obtain⟨_,_,_,_,_,_,_,_,_,_⟩:=R0.out.all A0.out.l
 have P1:=yU (K:=K) w0.drew (A0.out.drew) HC.out (by have:=HN.out;omega)
 rw [bP] at P1
 have P1:=κ P1
 go_wp2
 refine wp_region_held_drew (S:=RS K s bx #[.int .i64 15, .int .i64 d, .int .i64 r, .int .i64 f, .int .u32 m]) (by kernel_rfl) (R0.out).drew (fun hHeld=> ?_)
 refine kM 0 137 (.pointer (some ⟨K.h,0,none⟩)) rfl rfl rfl rfl (by rfl) (by kernel_rfl) kD hHeld ?_
 try simp only [Act.put,aA,aB,aC]
 refine kF 1 138 (fI _ 1 (by decide)) rfl rfl rfl rfl (by rfl) (by kernel_rfl) kD hHeld ?_
 try simp only [Act.put,aA,aB,aC]
 refine kL 2 139 (fun _ h=>lI (h.b.c 1 _ rfl)) rfl rfl rfl rfl (by rfl) (by kernel_rfl) kD hHeld ?_
 try simp only [Act.put,aA,aB,aC]
 refine kM 3 140 (.pointer (some ⟨K.h,0,none⟩)) rfl rfl rfl rfl (by rfl) (by kernel_rfl) kD hHeld ?_
 try simp only [Act.put,aA,aB,aC]
 refine kR 4 (by kernel_rfl) rfl fun KK bF=> ?_
 go_simp
 go_wp2_with (go_at_call 134;refine P1.out.mono ?_;rintro e w1 ⟨rfl,A1,U1⟩)
 obtain⟨V1,B1,M1,R1,_,_,_,_,_,_,_,_,_,_⟩:=bW B0 ((UW.drew (K:=K) (W:=w0) A0.out.l).trans U1) A1 G1
 have P2:=dA (K:=K) d p1.1 HD.out w1 (A1) (by have:=G1.out.n;have:=HN.out;omega)
 rw [dM] at P2
 have P2:=κ P2
 clear A1 U1 P1
 clear hHeld
 refine bF.out _ _ R1 (fun hHeld=> ?_)
 clear bF KK
 try simp only [Act.put,aA,aB,aC]
 refine kR 5 (by kernel_rfl) rfl fun KK bF=> ?_
 go_simp
 go_wp2_with (go_at_call 116;refine P2.out.mono ?_;rintro e w2 ⟨rfl,A1,U1⟩)
 obtain⟨V2,B2,M2,R2,_,_,_,_,_,_,_,_,_,_⟩:=bW B1 (U1) A1 G2
 clear A1 U1 P2
 clear hHeld
 refine bF.out _ _ R2 (fun hHeld=> ?_)
 clear bF KK
 try simp only [Act.put,aA,aB,aC]
 refine wpAnyH_done (by kernel_rfl) ?_ _
 go_wp2
 go_end0
 exact⟨rfl,M2.out,((U0.out.trans V1.out).trans V2.out)⟩
theorem Sv (d r:Nat) (f m:Int) (hd:d<8) (hr:r<8) (w:World) (a:LM K s w) (hc:1≤s.aj∧s.aj≤64) (hn:s.ops.length+60<1000000000):
  Calls Tryz.prog 86 #[.pointer (some ⟨K.h,0,none⟩), .agg #[.int .i64 3, .int .i64 d, .int .i64 r, .int .i64 f, .int .u32 m]] w fun e w'=>e= .returned (.tuple #[])∧LM K (s.bg 3 d r f m) w'∧UW K w w':=by
 have HN:=κ hn
 have HC:=κ hc
 have HR:=κ hr
 have HD:=κ hd
 obtain⟨p1,bP,G1⟩:=kN _ (kG s)
 obtain⟨p2,dM,G2⟩:=ni _ (G1.out.trans (mG p1.2 p1.1))
 obtain⟨p3,je,G3⟩:=ni _ (G2.out.trans (iV p2))
 have E:s.bg 3 d r f m=p3:=by
  unfold Lk.bg
  rw [if_neg (by decide),if_neg (by decide),if_neg (by decide),if_neg (by decide),if_neg (by decide),if_neg (by decide),if_neg (by decide),if_neg (by decide),if_neg (by decide),if_neg (by decide),if_neg (by decide),if_pos (by decide)]
  simp only [au,bP,dM,je]
 rw [E]
 clear E
 obtain⟨A0,B0,U0⟩:=qm a #[.int .i64 3, .int .i64 d, .int .i64 r, .int .i64 f, .int .u32 m] 74
 have uI:=Tryz.underlying74
 have iI:=iM
 clear a hn hc hd hr
 go_enter Tryz.func86,Tryz.ntmps86
 go_upto_region 1 with fail
 generalize w.alloc (.cells #[.int .i64 3, .int .i64 d, .int .i64 r, .int .i64 f, .int .u32 m] 74)=wz at*
 generalize w.heap.size=bx at*
 have R0:=κ (RS.of B0.out A0.out (Gw.refl s))
 have jG:=B0.out.c 0 _ rfl
 have jH:=B0.out.c 1 _ rfl
 have jI:=B0.out.c 2 _ rfl
 have jJ:=B0.out.c 3 _ rfl
 have jK:=B0.out.c 4 _ rfl
 have jL:=B0.out.l
 have jM:=R0.out.p
 have jO:=R0.out.x
 have jP:=R0.out.n
 have jQ:=A0.out.l
 go_region
 replace B0:=κ (B0.out.uw (UW.drew (K:=K) A0.out.l))
 replace U0:=κ (U0.out.trans (UW.drew (K:=K) A0.out.l))
 replace A0:=κ A0.out.drew
 replace R0:=κ R0.out.drew
 clear jG jH jI jJ jK jL jM jO jP jQ
 generalize wz.drew=w0 at*
 obtain⟨_,_,_,_,_,_,_,_,_,_⟩:=R0.out.all A0.out.l
 have P1:=oH (K:=K) w0 (A0.out) (by have:=HN.out;omega)
 rw [bP] at P1
 have P1:=κ P1
 go_wp2_with (first
  | (go_at_call 119;refine P1.out.mono ?_;rintro e w1 ⟨rfl,A1,U1⟩;obtain⟨V1,B1,M1,R1,_,_,_,_,_,_,_,_,_,_⟩:=bW B0 (U1) A1 G1;have P2:=rY (K:=K) p1.1 w1 (A1) (by rw [G1.out.aj];exact HC.out) (by have:=G1.out.n;have:=HN.out;omega);rw [dM] at P2;have P2:=κ P2;clear A1 U1 P1)
  | (go_at_call 133;refine P2.out.mono ?_;rintro e w2 ⟨rfl,A1,U1⟩;obtain⟨V2,B2,M2,R2,_,_,_,_,_,_,_,_,_,_⟩:=bW B1 (U1) A1 G2;have P3:=kS (K:=K) w2 (A1) (by rw [G2.out.aj];exact HC.out) (by have:=G2.out.n;have:=HN.out;omega);rw [je] at P3;have P3:=κ P3;clear A1 U1 P2)
  | (go_at_call 128;refine P3.out.mono ?_;rintro e w3 ⟨rfl,A1,U1⟩;obtain⟨V3,B3,M3,R3,_,_,_,_,_,_,_,_,_,_⟩:=bW B2 (U1) A1 G3;clear A1 U1 P3))
 go_end0
 exact⟨rfl,M3.out,(((U0.out.trans V1.out).trans V2.out).trans V3.out)⟩
theorem Sz (d r:Nat) (f m:Int) (hd:d<8) (hr:r<8) (w:World) (a:LM K s w) (hc:1≤s.aj∧s.aj≤64) (hn:s.ops.length+60<1000000000):
  Calls Tryz.prog 86 #[.pointer (some ⟨K.h,0,none⟩), .agg #[.int .i64 4, .int .i64 d, .int .i64 r, .int .i64 f, .int .u32 m]] w fun e w'=>e= .returned (.tuple #[])∧LM K (s.bg 4 d r f m) w'∧UW K w w':=by
 have HN:=κ hn
 have HC:=κ hc
 have HR:=κ hr
 have HD:=κ hd
 obtain⟨p1,bP,G1⟩:=kN _ (tu s)
 obtain⟨p2,dM,G2⟩:=kN _ (G1.out.trans (lF p1.2 15))
 obtain⟨p3,je,G3⟩:=kN _ (G2.out.trans (jZ p2.2 2 p1.1 p2.1))
 obtain⟨p4,pJ,G4⟩:=ni _ (G3.out.trans (fZ p3.2 0 (-1) (-1) p3.1))
 have E:s.bg 4 d r f m=p4:=by
  unfold Lk.bg
  rw [if_neg (by decide),if_neg (by decide),if_neg (by decide),if_neg (by decide),if_neg (by decide),if_neg (by decide),if_neg (by decide),if_neg (by decide),if_neg (by decide),if_neg (by decide),if_neg (by decide),if_neg (by decide),if_pos (by decide)]
  simp only [au,bP,dM,je,pJ]
 rw [E]
 clear E
 obtain⟨A0,B0,U0⟩:=qm a #[.int .i64 4, .int .i64 d, .int .i64 r, .int .i64 f, .int .u32 m] 74
 have uI:=Tryz.underlying74
 have iI:=iM
 clear a hn hc hd hr
 go_enter Tryz.func86,Tryz.ntmps86
 go_upto_region 1 with fail
 generalize w.alloc (.cells #[.int .i64 4, .int .i64 d, .int .i64 r, .int .i64 f, .int .u32 m] 74)=wz at*
 generalize w.heap.size=bx at*
 have R0:=κ (RS.of B0.out A0.out (Gw.refl s))
 have jG:=B0.out.c 0 _ rfl
 have jH:=B0.out.c 1 _ rfl
 have jI:=B0.out.c 2 _ rfl
 have jJ:=B0.out.c 3 _ rfl
 have jK:=B0.out.c 4 _ rfl
 have jL:=B0.out.l
 have jM:=R0.out.p
 have jO:=R0.out.x
 have jP:=R0.out.n
 have jQ:=A0.out.l
 go_region
 replace B0:=κ (B0.out.uw (UW.drew (K:=K) A0.out.l))
 replace U0:=κ (U0.out.trans (UW.drew (K:=K) A0.out.l))
 replace A0:=κ A0.out.drew
 replace R0:=κ R0.out.drew
 clear jG jH jI jJ jK jL jM jO jP jQ
 generalize wz.drew=w0 at*
 obtain⟨_,_,_,_,_,_,_,_,_,_⟩:=R0.out.all A0.out.l
 have P1:=yU (K:=K) w0 (A0.out) HC.out (by have:=HN.out;omega)
 rw [bP] at P1
 have P1:=κ P1
 go_wp2_with (first
  | (go_at_call 134;refine P1.out.mono ?_;rintro e w1 ⟨rfl,A1,U1⟩;obtain⟨V1,B1,M1,R1,_,_,_,_,_,_,_,_,_,_⟩:=bW B0 (U1) A1 G1;have P2:=dF (K:=K) 15 w1 (A1) (by have:=G1.out.n;have:=HN.out;omega);rw [dM] at P2;have P2:=κ P2;clear A1 U1 P1)
  | (go_at_call 117;refine P2.out.mono ?_;rintro e w2 ⟨rfl,A1,U1⟩;obtain⟨V2,B2,M2,R2,_,_,_,_,_,_,_,_,_,_⟩:=bW B1 (U1) A1 G2;have P3:=dQ (K:=K) 2 p1.1 p2.1 w2 (A1) (by have:=G2.out.n;have:=HN.out;omega);rw [je] at P3;have P3:=κ P3;clear A1 U1 P2)
  | (go_at_call 135;refine P3.out.mono ?_;rintro e w3 ⟨rfl,A1,U1⟩;obtain⟨V3,B3,M3,R3,_,_,_,_,_,_,_,_,_,_⟩:=bW B2 (U1) A1 G3;have P4:=dX (K:=K) false 0 (-1) (-1) p3.1 w3 (A1) (by have:=G3.out.n;have:=HN.out;omega);rw [pJ] at P4;have P4:=κ P4;clear A1 U1 P3)
  | (go_at_call 121;refine P4.out.mono ?_;rintro e w4 ⟨rfl,A1,U1⟩;obtain⟨V4,B4,M4,R4,_,_,_,_,_,_,_,_,_,_⟩:=bW B3 (U1) A1 G4;clear A1 U1 P4))
 go_end0
 exact⟨rfl,M4.out,((((U0.out.trans V1.out).trans V2.out).trans V3.out).trans V4.out)⟩
open Ot (fC OB)
variable {K:Kc} {s:Lk} {W W':World} {B:Nat}
theorem SA (d r f m:Int) (w:World) (a:LM K s w) (hc:1≤s.aj∧s.aj≤64) (hn:s.ops.length+60<1000000000):
  Calls Tryz.prog 86 #[.pointer (some ⟨K.h,0,none⟩), .agg #[.int .i64 1, .int .i64 d, .int .i64 r, .int .i64 f, .int .u32 m]] w fun e w'=>e= .returned (.tuple #[])∧LM K (s.put ⟨14,2,0,0,0,s.pc,s.aj-1⟩) w'∧UW K w w':=by
 have A0:=κ (a.alloc (.cells #[.int .i64 1, .int .i64 d, .int .i64 r, .int .i64 f, .int .u32 m] 74))
 have B0:=κ (Bx.new a #[.int .i64 1, .int .i64 d, .int .i64 r, .int .i64 f, .int .u32 m] 74)
 have U0:=κ (UW.alloc a.l (.cells #[.int .i64 1, .int .i64 d, .int .i64 r, .int .i64 f, .int .u32 m] 74))
 have HN:=κ hn
 have HC:=κ hc
 clear a hn hc
 go_enter Tryz.func86,Tryz.ntmps86
 go_upto_region 1 with fail
 generalize w.alloc (.cells #[.int .i64 1, .int .i64 d, .int .i64 r, .int .i64 f, .int .u32 m] 74)=wz at*
 generalize w.heap.size=bx at*
 have x0:=B0.out.c 0 _ rfl
 have x4:=B0.out.c 4 _ rfl
 have xl:=B0.out.l
 have y5:wz.cell? ⟨K.h,5,none⟩=some (.int .u32 s.nx):=A0.out.c 5 (by decide) (by decide)
 have yl:=A0.out.l
 go_region
 replace B0:=κ (B0.out.uw (UW.drew (K:=K) A0.out.l))
 replace U0:=κ (U0.out.trans (UW.drew (K:=K) A0.out.l))
 replace A0:=κ A0.out.drew
 clear x0 x4 xl y5 yl
 generalize wz.drew=w0 at*
 have x0:=B0.out.c 0 _ rfl
 have xl:=B0.out.l
 have y4:w0.cell? ⟨K.h,4,none⟩=some (.int .u32 s.pc):=A0.out.c 4 (by decide) (by decide)
 have yl:=A0.out.l
 have P:=κ (cO (s:=s) (K:=K) ⟨14,2,0,0,0,s.pc,s.aj-1⟩ w0.drew A0.out.drew (by have:=HN.out;omega))
 have D:=κ (nM w0.drew A0.out.drew HC.out)
 have V0:=κ (UW.drew (K:=K) A0.out.l)
 go_wp2
 go_region_with (first
  | (go_at_call 130;refine D.out.mono ?_;rintro e wd ⟨rfl,rfl⟩)
  | (go_at_call 54;refine P.out.mono ?_;rintro e w1 ⟨rfl,A1,U1⟩;have H1:=κ A1;have V1:=κ U1;clear A1 U1))
 all_goals go_wp2
 all_goals go_end0
 all_goals exact⟨rfl,H1.out,U0.out.trans (V0.out.trans V1.out)⟩
theorem dY (o d r f m:Int) (w:World) (a:LM K s w) (ho:o=1∨o=5∨o=6∨o=7∨o=12∨o=13∨o=9∨o=11∨o=8∨o=10∨o=2∨o=14∨o=15∨o=3∨o=4):
  Calls Tryz.prog 85 #[.pointer (some ⟨K.h,0,none⟩), .agg #[.int .i64 o, .int .i64 d, .int .i64 r, .int .i64 f, .int .u32 m]] w fun e w'=>e= .returned (.bool false)∧LM K s w'∧UW K w w':=by
 have A0:=κ (a.alloc (.cells #[.int .i64 o, .int .i64 d, .int .i64 r, .int .i64 f, .int .u32 m] 74))
 have B0:=κ (Bx.new a #[.int .i64 o, .int .i64 d, .int .i64 r, .int .i64 f, .int .u32 m] 74)
 have U0:=κ (UW.alloc a.l (.cells #[.int .i64 o, .int .i64 d, .int .i64 r, .int .i64 f, .int .u32 m] 74))
 clear a
 go_enter Tryz.func85,Tryz.ntmps85
 go_upto_region 1 with fail
 generalize w.alloc (.cells #[.int .i64 o, .int .i64 d, .int .i64 r, .int .i64 f, .int .u32 m] 74)=w0 at*
 generalize w.heap.size=bx at*
 have x0:=B0.out.c 0 _ rfl
 have xl:=B0.out.l
 clear B0
 rcases ho with rfl | rfl | rfl | rfl | rfl | rfl | rfl | rfl | rfl | rfl | rfl | rfl | rfl | rfl | rfl
 all_goals
  go_wp2
  go_ret
  exact⟨rfl,A0.out,U0.out⟩
theorem Ik (o f m:Int) (d r:Nat) (hd:d<8) (hr:r<8) (ho:0≤o∧o<32) (hf:(o=27∨o=28∨o=29)→0≤f∧f<16) (w:World) (a:LM K s w) (hc:1≤s.aj∧s.aj≤64) (hn:s.ops.length+60<1000000000):
  Calls Tryz.prog 85 #[.pointer (some ⟨K.h,0,none⟩), .agg #[.int .i64 o, .int .i64 d, .int .i64 r, .int .i64 f, .int .u32 m]] w fun e w'=>e= .returned (.bool (s.plain o d r f m).1)∧LM K (s.plain o d r f m).2 w'∧UW K w w':=by
 rcases(show o=0∨o=1∨o=2∨o=3∨o=4∨o=5∨o=6∨o=7∨o=8∨o=9∨o=10∨o=11∨o=12∨o=13∨o=14∨o=15∨o=16∨o=17∨o=18∨o=19∨o=20∨o=21∨o=22∨o=23∨o=24∨o=25∨o=26∨o=27∨o=28∨o=29∨o=30∨o=31 by omega) with rfl | rfl | rfl | rfl | rfl | rfl | rfl | rfl | rfl | rfl | rfl | rfl | rfl | rfl | rfl | rfl | rfl | rfl | rfl | rfl | rfl | rfl | rfl | rfl | rfl | rfl | rfl | rfl | rfl | rfl | rfl | rfl
 ·exact RU d r f m hd hr w a hc hn
 ·exact dY 1 d r f m w a (by decide)
 ·exact dY 2 d r f m w a (by decide)
 ·exact dY 3 d r f m w a (by decide)
 ·exact dY 4 d r f m w a (by decide)
 ·exact dY 5 d r f m w a (by decide)
 ·exact dY 6 d r f m w a (by decide)
 ·exact dY 7 d r f m w a (by decide)
 ·exact dY 8 d r f m w a (by decide)
 ·exact dY 9 d r f m w a (by decide)
 ·exact dY 10 d r f m w a (by decide)
 ·exact dY 11 d r f m w a (by decide)
 ·exact dY 12 d r f m w a (by decide)
 ·exact dY 13 d r f m w a (by decide)
 ·exact dY 14 d r f m w a (by decide)
 ·exact dY 15 d r f m w a (by decide)
 ·exact L9 d r f m hd hr w a hc hn
 ·exact Mc d r f m hd hr w a hc hn
 ·exact Md d r f m hd hr w a hc hn
 ·exact MC d r f m hd hr w a hc hn
 ·exact MF d r f m hd hr w a hc hn
 ·exact MG d r f m hd hr w a hc hn
 ·exact MH d r f m hd hr w a hc hn
 ·exact MI d r f m hd hr w a hc hn
 ·exact MR d r f m hd hr w a hc hn
 ·exact MS d r f m hd hr w a hc hn
 ·exact MV d r f m hd hr w a hc hn
 ·exact MJ d r f m hd hr (hf (by decide)).1 (hf (by decide)).2 w a hc hn
 ·exact ML d r f m hd hr (hf (by decide)).1 (hf (by decide)).2 w a hc hn
 ·exact MN d r f m hd hr (hf (by decide)).1 (hf (by decide)).2 w a hc hn
 ·exact MP d r f m hd hr w a hc hn
 ·exact MQ d r f m hd hr w a hc hn
theorem Il (o f m:Int) (d r:Nat) (hd:d<8) (hr:r<8) (ho:o=1∨o=5∨o=6∨o=7∨o=12∨o=13∨o=9∨o=11∨o=8∨o=10∨o=2∨o=14∨o=15∨o=3∨o=4) (m0:0≤m) (m1:m<4294967296) (w:World) (a:LM K s w) (hc:1≤s.aj∧s.aj≤64) (hn:s.ops.length+60<1000000000):
  Calls Tryz.prog 86 #[.pointer (some ⟨K.h,0,none⟩), .agg #[.int .i64 o, .int .i64 d, .int .i64 r, .int .i64 f, .int .u32 m]] w fun e w'=>e= .returned (.tuple #[])∧LM K (s.bg o d r f m) w'∧UW K w w':=by
 rcases ho with rfl | rfl | rfl | rfl | rfl | rfl | rfl | rfl | rfl | rfl | rfl | rfl | rfl | rfl | rfl
 ·exact SA d r f m w a hc hn
 ·exact RX d r f m hd hr m0 m1 w a hc hn
 ·exact RY d r f m hd hr w a hc hn
 ·exact RZ d r f m hd hr w a hc hn
 ·exact MW d r f m hd hr w a hc hn
 ·exact MX d r f m hd hr w a hc hn
 ·exact Si d r f m hd hr w a hc hn
 ·exact MZ d r f m hd hr w a hc hn
 ·exact Sj d r f m hd hr w a hc hn
 ·exact Na d r f m hd hr w a hc hn
 ·exact Sl d r f m hd hr w a hc hn
 ·exact Nb d r f m hd hr w a hc hn
 ·exact Nc d r f m hd hr w a hc hn
 ·exact Sv d r f m hd hr w a hc hn
 ·exact Sz d r f m hd hr w a hc hn
theorem xU (s:Lk) (o f m:Int) (d r:Nat) (ho:0≤o∧o<32):(s.plain o d r f m).1=false→o=1∨o=5∨o=6∨o=7∨o=12∨o=13∨o=9∨o=11∨o=8∨o=10∨o=2∨o=14∨o=15∨o=3∨o=4:=by
 rcases(show o=0∨o=1∨o=2∨o=3∨o=4∨o=5∨o=6∨o=7∨o=8∨o=9∨o=10∨o=11∨o=12∨o=13∨o=14∨o=15∨o=16∨o=17∨o=18∨o=19∨o=20∨o=21∨o=22∨o=23∨o=24∨o=25∨o=26∨o=27∨o=28∨o=29∨o=30∨o=31 by omega) with rfl | rfl | rfl | rfl | rfl | rfl | rfl | rfl | rfl | rfl | rfl | rfl | rfl | rfl | rfl | rfl | rfl | rfl | rfl | rfl | rfl | rfl | rfl | rfl | rfl | rfl | rfl | rfl | rfl | rfl | rfl | rfl
 ·exact fun h=>absurd (show true=false from h) (by decide)
 ·exact fun _=>by decide
 ·exact fun _=>by decide
 ·exact fun _=>by decide
 ·exact fun _=>by decide
 ·exact fun _=>by decide
 ·exact fun _=>by decide
 ·exact fun _=>by decide
 ·exact fun _=>by decide
 ·exact fun _=>by decide
 ·exact fun _=>by decide
 ·exact fun _=>by decide
 ·exact fun _=>by decide
 ·exact fun _=>by decide
 ·exact fun _=>by decide
 ·exact fun _=>by decide
 ·exact fun h=>absurd (show true=false from h) (by decide)
 ·exact fun h=>absurd (show true=false from h) (by decide)
 ·exact fun h=>absurd (show true=false from h) (by decide)
 ·exact fun h=>absurd (show true=false from h) (by decide)
 ·exact fun h=>absurd (show true=false from h) (by decide)
 ·exact fun h=>absurd (show true=false from h) (by decide)
 ·exact fun h=>absurd (show true=false from h) (by decide)
 ·exact fun h=>absurd (show true=false from h) (by decide)
 ·exact fun h=>absurd (show true=false from h) (by decide)
 ·exact fun h=>absurd (show true=false from h) (by decide)
 ·exact fun h=>absurd (show true=false from h) (by decide)
 ·exact fun h=>absurd (show true=false from h) (by decide)
 ·exact fun h=>absurd (show true=false from h) (by decide)
 ·exact fun h=>absurd (show true=false from h) (by decide)
 ·exact fun h=>absurd (show true=false from h) (by decide)
 ·exact fun h=>absurd (show true=false from h) (by decide)
theorem Nh (s:Lk) (o f m:Int) (d r:Nat) (ho:0≤o∧o<32) (h:(s.plain o d r f m).1=false):(s.plain o d r f m).2=s:=by
 rcases xU s o f m d r ho h with rfl | rfl | rfl | rfl | rfl | rfl | rfl | rfl | rfl | rfl | rfl | rfl | rfl | rfl | rfl<;>rfl
theorem SC (o f m:Int) (d r:Nat) (hd:d<8) (hr:r<8) (ho:0≤o∧o<32) (hf:(o=27∨o=28∨o=29)→0≤f∧f<16) (m0:0≤m) (m1:m<4294967296) (w:World) (a:LM K s w) (hc:1≤s.aj∧s.aj≤64) (hn:s.ops.length+60<1000000000):
  Calls Tryz.prog 55 #[.pointer (some ⟨K.h,0,none⟩), .agg #[.int .i64 o, .int .i64 d, .int .i64 r, .int .i64 f, .int .u32 m]] w fun e w'=>e= .returned (.tuple #[])∧LM K (s.one o d r f m) w'∧UW K w w':=by
 have A0:=κ (a.alloc (.cells #[.int .i64 o, .int .i64 d, .int .i64 r, .int .i64 f, .int .u32 m] 74))
 have B0:=κ (Bx.new a #[.int .i64 o, .int .i64 d, .int .i64 r, .int .i64 f, .int .u32 m] 74)
 have U0:=κ (UW.alloc a.l (.cells #[.int .i64 o, .int .i64 d, .int .i64 r, .int .i64 f, .int .u32 m] 74))
 have E1:=κ (Nh s o f m d r ho)
 have E2:=κ (xU s o f m d r ho)
 have HN:=κ hn
 have HC:=κ hc
 have HO:=κ ho
 have HF:=κ hf
 have H0:=κ m0
 have H1:=κ m1
 have HD:=κ hd
 have HR:=κ hr
 obtain⟨sz,jS⟩:∃p,s.one o d r f m=p:=⟨_,rfl⟩
 have HZ:=κ jS
 rw [jS]
 clear jS
 clear a hn hc ho hf m0 m1 hd hr
 go_enter Tryz.func55,Tryz.ntmps55
 go_upto_region 1 with fail
 generalize w.alloc (.cells #[.int .i64 o, .int .i64 d, .int .i64 r, .int .i64 f, .int .u32 m] 74)=w0 at*
 generalize w.heap.size=bx at*
 have x0:=B0.out.c 0 _ rfl
 have x1:=B0.out.c 1 _ rfl
 have x2:=B0.out.c 2 _ rfl
 have x3:=B0.out.c 3 _ rfl
 have x4:=B0.out.c 4 _ rfl
 have xl:=B0.out.l
 have P:=Ik (K:=K) o f m d r HD.out HR.out HO.out HF.out w0 A0.out HC.out HN.out
 cases hp:(s.plain o d r f m).1 with
 | true=>
  rw [hp] at P
  have EZ:(s.plain o d r f m).2=sz:=by rw [←HZ.out];unfold Lk.one;rw [hp,if_pos rfl]
  rw [EZ] at P
  have P:=κ P
  clear hp EZ
  go_wp2_with (go_at_call 85;refine P.out.mono ?_;rintro e w1 ⟨rfl,A1,U1⟩;have G1:=κ A1;have V1:=κ U1;clear A1 U1)
  go_end0
  exact⟨rfl,G1.out,U0.out.trans V1.out⟩
 | false=>
  rw [hp,E1.out hp] at P
  have P:=κ P
  have EZ:=κ (show s.bg o d r f m=sz by rw [←HZ.out];unfold Lk.one;rw [hp,if_neg (by decide)])
  have HM:=κ (E2.out hp)
  clear hp
  go_wp2_with (first
   | (go_at_call 85;refine P.out.mono ?_;rintro e w1 ⟨rfl,A1,U1⟩;have V1:=κ U1;have B1:=κ (B0.out.uw U1);have z0:=B1.out.c 0 _ rfl;have z1:=B1.out.c 1 _ rfl;have z2:=B1.out.c 2 _ rfl;have z3:=B1.out.c 3 _ rfl;have z4:=B1.out.c 4 _ rfl;have zl:=B1.out.l;have P2:=κ (Il (K:=K) o f m d r HD.out HR.out HM.out H0.out H1.out w1 A1 HC.out HN.out);clear A1 U1)
   | (go_at_call 86;refine P2.out.mono ?_;rintro e w2 ⟨rfl,A2,U2⟩;have G2:=κ A2;have V2:=κ U2;clear A2 U2))
  go_end0
  exact⟨rfl,EZ.out▸G2.out,U0.out.trans (V1.out.trans V2.out)⟩
end Go.Proofs.YtcjcmnnhmajocabGreat.Lf
namespace Go.Proofs.YtcjcmnnhmajocabGreat.Me
open Go.RowKit Kt
def TB (B:Nat) (ao:Option Addr) (n:Nat) (W:World):Prop:=
 ∀j,j<n→∃g,ao=some ⟨g,0,none⟩∧B≤g∧g<W.heap.size∧(∃x:Int,W.cell? ⟨g,j,none⟩=some (.int .u8 x))∧∀i,W.frozen? ⟨g,i,none⟩=false
theorem Own.form {B:Nat} {v:Value} {us:List Int} {W:World} (h:Own B v us W):∃ao cap,v= .slice ao us.length cap∧Gu.Bs us ao cap W∧TB B ao us.length W:=by
 rcases h.2 with⟨rfl,hn⟩ | ⟨g,c1,cur,rfl,hg,iT,hle,Dt,jS,Ji⟩
 ·have Uw:us.length=0:=hn
  rw [Uw]
  exact⟨none,0,rfl,⟨by omega,by unfold maxLen;omega,fun h=>absurd h (by omega)⟩,fun j hj=>absurd hj (by omega)⟩
 ·have hc:∀j,j<us.length→W.cell? ⟨g,j,none⟩=some (.int .u8 (us.getD j 0)):=by
   intro j hj
   rw [cell_of_row W g j _ _ _ iT,←Array.getElem?_toList]
   have h2:(cur.toList.take (us.length*1))[j]?=(us.map (Value.int .u8))[j]?:=by rw [Ji]
   rw [Nat.mul_one,List.getElem?_take,if_pos hj,List.getElem?_map] at h2
   rw [h2,List.getElem?_eq_getElem hj,List.getD_eq_getElem?_getD,List.getElem?_eq_getElem hj]
   rfl
  exact⟨_,c1,rfl,⟨hle,Dt,fun _=>⟨g,0,rfl,(Array.getElem?_eq_some_iff.1 iT).1,fun j hj=>by rw [Nat.zero_add];exact hc j hj⟩⟩,
   fun j hj=>⟨g,rfl,hg,(Array.getElem?_eq_some_iff.1 iT).1,⟨_,hc j hj⟩,fun i=>frozen_of_row _ _ _ _ _ iT⟩⟩
theorem Bs.upto {us:List Int} {ao:Option Addr} {cap:Nat} {w w':World} {S:Nat→Prop} (h:Gu.Bs us ao cap w) (u:ah S w w') (hs:∀g,ao=some g→0<us.length→¬S g.block):Gu.Bs us ao cap w':=by
 obtain⟨l,m,k⟩:=h
 refine⟨l,m,fun hlen=> ?_⟩
 obtain⟨b,off,rfl,J9,hc⟩:=k hlen
 exact⟨b,off,rfl,Nat.lt_of_lt_of_le J9 u.size,fun j hj=>(u.cell (q:=⟨b,off+j,none⟩) J9 (hs ⟨b,off,none⟩ rfl hlen)).trans (hc j hj)⟩
theorem TB.upto {B:Nat} {ao:Option Addr} {n:Nat} {w w':World} {S:Nat→Prop} (h:TB B ao n w) (u:ah S w w') (hs:∀k,B≤k→¬S k):TB B ao n w':=by
 intro j hj
 obtain⟨g,e,hb,hl,⟨x,hx⟩,hf⟩:=h j hj
 exact⟨g,e,hb,Nat.lt_of_lt_of_le hl u.size,⟨x,(u.cell (q:=⟨g,j,none⟩) hl (hs g hb)).trans hx⟩,fun i=>(u.frozen (q:=⟨g,i,none⟩) hl (hs g hb)).trans (hf i)⟩
theorem TB.mono {B B':Nat} {ao:Option Addr} {n:Nat} {w:World} (h:TB B ao n w) (hB:B'≤B):TB B' ao n w:=by
 intro j hj
 obtain⟨g,e,hb,r⟩:=h j hj
 exact⟨g,e,Nat.le_trans hB hb,r⟩
theorem TB.set {B g:Nat} {n:Nat} {W:World} (h:TB B (some ⟨g,0,none⟩) n W) (k:Nat) (y:Int):TB B (some ⟨g,0,none⟩) n (W.setCell ⟨g,k,none⟩ (.int .u8 y)):=by
 intro j hj
 obtain⟨g',e,hb,hl,⟨x,hx⟩,hf⟩:=h j hj
 simp only [Option.some.injEq,Addr.mk.injEq,and_true] at e
 subst e
 refine⟨g,rfl,hb,by simpa using hl, ?_,fun i=>by simpa using hf i⟩
 by_cases qZ:j=k
 ·subst qZ
  exact⟨y,World.cell?_setCell_same _ _ _ hx⟩
 ·exact⟨x,by rw [World.cell?_setCell_other _ _ _ _ (by intro h;simp only [Addr.mk.injEq] at h;omega)];exact hx⟩
end Go.Proofs.YtcjcmnnhmajocabGreat.Me
