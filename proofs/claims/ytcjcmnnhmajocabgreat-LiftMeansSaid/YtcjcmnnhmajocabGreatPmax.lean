import Derived.Test.YtcjcmnnhmajocabGreatPmaw
set_option linter.unusedVariables false
set_option linter.unusedSimpArgs false
set_option maxRecDepth 100000
set_option maxHeartbeats 16000000
namespace Go.Proofs.YtcjcmnnhmajocabGreat.Lf
open Go.RowKit Kt Ic Me
open Ot (fC OB)
variable {K:Kc} {s:Lk} {W W':World} {B:Nat}
theorem Ee (o wp wq z:Int) (r:Nat) (hr:r<8) (w:World) (a:LM K s w) (hc:1≤s.aj∧s.aj≤64) (hn:s.ops.length+30<1000000000) (o0:0≤o) (o1:o<16) (hw:way o=(wp,wq)) (h1:o≠1) (h3:o≠3) (hB:¬ (o=14∨o=15)) (hC:¬ (6≤wq∧wq≤9)) (hD:o≠7) (hE:wq≠5) (hF:o≠8):
  Calls Tryz.prog 125 #[.pointer (some ⟨K.h,0,none⟩), .int .i64 o, .int .i64 r, .int .i64 z] w fun e w'=>e= .returned (.tuple #[])∧LM K (s.lZ o r z) w'∧UW K w w':=by
 have HN:=κ hn
 have HR:=κ hr
 have HC:=κ hc
 have WY:=κ (fun w=>ql o w o0 o1)
 rw [hw] at WY
 dsimp only at WY
 have e1:(o==1)=false:=by simpa using h1
 have e3:(o==3)=false:=by simpa using h3
 have Pj:(o==14)=false:=by simp;omega
 have UG:(o==15)=false:=by simp;omega
 have n7:(o !=7)=true:=by simpa using hD
 have n8:(o !=8)=true:=by simpa using hF
 have q5:(wq==5)=false:=by simpa using hE
 obtain⟨p1,bP⟩:∃p,s.get r=p:=⟨_,rfl⟩
 have G1:=κ (show Gw 1 s p1.2 by rw [←bP];exact bG s r)
 obtain⟨pv,xR⟩:∃p,p1.2.B wp p1.1 z=p:=⟨_,rfl⟩
 have G5:=κ (G1.out.trans (show Gw 1 p1.2 pv.2 by rw [←xR];exact jZ _ _ _ _))
 obtain⟨sf,Cc⟩:∃p,pv.2.set r pv.1=p:=⟨_,rfl⟩
 have G6:=κ (G5.out.trans (show Gw 1 pv.2 sf by rw [←Cc];exact bM _ _ _))
 obtain⟨sz,jS⟩:∃p,sf.flag wq p1.1 z (-1)=p:=⟨_,rfl⟩
 have E:s.lZ o r z=sz:=by
  simp only [Lk.lZ,hw,if_neg (show¬ (o=1∨o=3) by omega),if_neg hB,if_neg hC,if_pos hD,if_neg hE,if_pos (show o≠7∧o≠8 from⟨hD,hF⟩),bP,xR,Cc,jS,↓reduceIte]
 rw [E]
 have P1:=bU (K:=K) r HR.out w a (by omega)
 rw [bP] at P1
 have P1:=κ P1
 have d69:¬ (6≤wq∧wq≤9):=hC
 clear a hn hc hr E
 go_enter Tryz.func125,Tryz.ntmps125
 go_upto_region 6 with(first
  | (go_at_call 118;refine P1.out.mono ?_;rintro e w1 ⟨rfl,A1,U1⟩;have H1:=κ A1;have V1:=κ U1;clear P1 A1 U1)
  | (go_at_call 185;refine(WY.out _).mono ?_;rintro e w2 ⟨rfl,b2⟩;have H2:=κ (H1.out.below b2);have V2:=κ (V1.out.trans (UW.below H1.out.l b2));clear b2))
 go_upto_region 7 with fail
 have L0:=κ (AL.new H2.out V2.out #[.bool false, .int .i64 wq, .int .i64 p1.1, .int .i64 z, .int .i64 (-1)] 108)
 generalize w2.alloc (.cells #[.bool false, .int .i64 wq, .int .i64 p1.1, .int .i64 z, .int .i64 (-1)] 108)=w3 at*
 generalize w2.heap.size=bx at*
 clear H2 V2
 obtain⟨b0,b1,b2,b3,b4,bl,bz,ll⟩:=L0.out.five
 have PV:=dQ (K:=K) wp p1.1 z w3 L0.out.m (by have:=G1.out.n;have:=HN.out;omega)
 rw [xR] at PV
 have PV:=κ PV
 obtain⟨b0,b1,b2,b3,b4,bl,bz,ll⟩:=L0.out.five
 go_wp2_with (first
  | (go_at_call 135;refine PV.out.mono ?_;rintro e w4 ⟨rfl,A1,U1⟩;have L1:=κ (L0.out.call A1 U1);obtain⟨YX,YZ,Y0,Y1,Y2,Y3,Y4,Y5⟩:=L1.out.five;clear A1 U1 PV;have PF:=dA (K:=K) r pv.1 HR.out w4 L1.out.m (by have:=G5.out.n;have:=HN.out;omega);rw [Cc] at PF;have PF:=κ PF)
  | (go_at_call 116;refine PF.out.mono ?_;rintro e w5 ⟨rfl,A1,U1⟩;have L2:=κ (L1.out.call A1 U1);obtain⟨b01,b11,b21,b31,b41,bl1,bz1,ll1⟩:=L2.out.five;clear A1 U1 PF;have PZ:=dX (K:=K) false wq p1.1 z (-1) w5 L2.out.m (by have:=G6.out.n;have:=HN.out;omega);rw [jS] at PZ;have PZ:=κ PZ)
  | (go_at_call 121;refine PZ.out.mono ?_;rintro e w6 ⟨rfl,A1,U1⟩;have L3:=κ (L2.out.call A1 U1);obtain⟨b02,Xb,b22,b32,b42,bl2,bz2,YW⟩:=L3.out.five;clear A1 U1 PZ))
 all_goals go_end0
 all_goals exact⟨rfl,L3.out.m,L3.out.fin⟩
theorem RF (wp wq z:Int) (r:Nat) (hr:r<8) (w:World) (a:LM K s w) (hc:1≤s.aj∧s.aj≤64) (hn:s.ops.length+30<1000000000) (hw:way 7=(wp,wq)) (hC:¬ (6≤wq∧wq≤9)) (hE:wq≠5):
  Calls Tryz.prog 125 #[.pointer (some ⟨K.h,0,none⟩), .int .i64 7, .int .i64 r, .int .i64 z] w fun e w'=>e= .returned (.tuple #[])∧LM K (s.lZ 7 r z) w'∧UW K w w':=by
 have HN:=κ hn
 have HR:=κ hr
 have HC:=κ hc
 have WY:=κ (fun w=>ql 7 w (by decide) (by decide))
 rw [hw] at WY
 dsimp only at WY
 have q5:(wq==5)=false:=by simpa using hE
 obtain⟨p1,bP⟩:∃p,s.get r=p:=⟨_,rfl⟩
 have G1:=κ (show Gw 1 s p1.2 by rw [←bP];exact bG s r)
 obtain⟨sz,jS⟩:∃p,p1.2.flag wq p1.1 z (-1)=p:=⟨_,rfl⟩
 have E:s.lZ 7 r z=sz:=by
  simp only [Lk.lZ,hw,if_neg (show¬ ((7:Int)=1∨(7:Int)=3) by omega),if_neg (show¬ ((7:Int)=14∨(7:Int)=15) by omega),if_neg hC,if_neg (show¬ ((7:Int)≠7) by omega),if_neg hE,if_neg (show¬ ((7:Int)≠7∧(7:Int)≠8) by omega),bP,jS,↓reduceIte]
 rw [E]
 have P1:=bU (K:=K) r HR.out w a (by omega)
 rw [bP] at P1
 have P1:=κ P1
 have d69:¬ (6≤wq∧wq≤9):=hC
 clear a hn hc hr E
 go_enter Tryz.func125,Tryz.ntmps125
 go_upto_region 6 with(first
  | (go_at_call 118;refine P1.out.mono ?_;rintro e w1 ⟨rfl,A1,U1⟩;have H1:=κ A1;have V1:=κ U1;clear P1 A1 U1)
  | (go_at_call 185;refine(WY.out _).mono ?_;rintro e w2 ⟨rfl,b2⟩;have H2:=κ (H1.out.below b2);have V2:=κ (V1.out.trans (UW.below H1.out.l b2));clear b2))
 go_upto_region 7 with fail
 have L0:=κ (AL.new H2.out V2.out #[.bool false, .int .i64 wq, .int .i64 p1.1, .int .i64 z, .int .i64 (-1)] 108)
 generalize w2.alloc (.cells #[.bool false, .int .i64 wq, .int .i64 p1.1, .int .i64 z, .int .i64 (-1)] 108)=w3 at*
 generalize w2.heap.size=bx at*
 clear H2 V2
 obtain⟨b0,b1,b2,b3,b4,bl,bz,ll⟩:=L0.out.five
 have PZ:=dX (K:=K) false wq p1.1 z (-1) w3 L0.out.m (by have:=G1.out.n;have:=HN.out;omega)
 rw [jS] at PZ
 have PZ:=κ PZ
 obtain⟨b0,b1,b2,b3,b4,bl,bz,ll⟩:=L0.out.five
 go_wp2_with (first
  | (go_at_call 121;refine PZ.out.mono ?_;rintro e w4 ⟨rfl,A1,U1⟩;have L1:=κ (L0.out.call A1 U1);obtain⟨YX,YZ,Y0,Y1,Y2,Y3,Y4,Y5⟩:=L1.out.five;clear A1 U1 PZ))
 all_goals go_end0
 all_goals exact⟨rfl,L1.out.m,L1.out.fin⟩
theorem yV (o wp z:Int) (r:Nat) (hr:r<8) (w:World) (a:LM K s w) (hc:1≤s.aj∧s.aj≤64) (hn:s.ops.length+30<1000000000) (o0:0≤o) (o1:o<16) (hw:way o=(wp,5)) (h1:o≠1) (h3:o≠3) (hB:¬ (o=14∨o=15)) (hD:o≠7) (hF:o≠8):
  Calls Tryz.prog 125 #[.pointer (some ⟨K.h,0,none⟩), .int .i64 o, .int .i64 r, .int .i64 z] w fun e w'=>e= .returned (.tuple #[])∧LM K (s.lZ o r z) w'∧UW K w w':=by
 have HN:=κ hn
 have HR:=κ hr
 have HC:=κ hc
 have WY:=κ (fun w=>ql o w o0 o1)
 rw [hw] at WY
 dsimp only at WY
 have e1:(o==1)=false:=by simpa using h1
 have e3:(o==3)=false:=by simpa using h3
 have Pj:(o==14)=false:=by simp;omega
 have UG:(o==15)=false:=by simp;omega
 have n7:(o !=7)=true:=by simpa using hD
 have n8:(o !=8)=true:=by simpa using hF
 obtain⟨p1,bP⟩:∃p,s.get r=p:=⟨_,rfl⟩
 have G1:=κ (show Gw 1 s p1.2 by rw [←bP];exact bG s r)
 obtain⟨pv,xR⟩:∃p,p1.2.B wp p1.1 z=p:=⟨_,rfl⟩
 have G5:=κ (G1.out.trans (show Gw 1 p1.2 pv.2 by rw [←xR];exact jZ _ _ _ _))
 obtain⟨sf,Cc⟩:∃p,pv.2.set r pv.1=p:=⟨_,rfl⟩
 have G6:=κ (G5.out.trans (show Gw 1 pv.2 sf by rw [←Cc];exact bM _ _ _))
 obtain⟨sz,jS⟩:∃p,sf.flag 5 pv.1 (-1) (-1)=p:=⟨_,rfl⟩
 have E:s.lZ o r z=sz:=by
  simp only [Lk.lZ,hw,if_neg (show¬ (o=1∨o=3) by omega),if_neg hB,if_neg (show¬ ((6:Int)≤5∧(5:Int)≤9) by decide),if_pos hD,if_pos (show(5:Int)=5 from rfl),if_pos (show o≠7∧o≠8 from⟨hD,hF⟩),bP,xR,Cc,jS,↓reduceIte]
 rw [E]
 have P1:=bU (K:=K) r HR.out w a (by omega)
 rw [bP] at P1
 have P1:=κ P1
 clear a hn hc hr E
 go_enter Tryz.func125,Tryz.ntmps125
 go_upto_region 6 with(first
  | (go_at_call 118;refine P1.out.mono ?_;rintro e w1 ⟨rfl,A1,U1⟩;have H1:=κ A1;have V1:=κ U1;clear P1 A1 U1)
  | (go_at_call 185;refine(WY.out _).mono ?_;rintro e w2 ⟨rfl,b2⟩;have H2:=κ (H1.out.below b2);have V2:=κ (V1.out.trans (UW.below H1.out.l b2));clear b2))
 go_upto_region 7 with fail
 have L0:=κ (AL.new H2.out V2.out #[.bool false, .int .i64 5, .int .i64 p1.1, .int .i64 z, .int .i64 (-1)] 108)
 generalize w2.alloc (.cells #[.bool false, .int .i64 5, .int .i64 p1.1, .int .i64 z, .int .i64 (-1)] 108)=w3 at*
 generalize w2.heap.size=bx at*
 clear H2 V2
 obtain⟨b0,b1,b2,b3,b4,bl,bz,ll⟩:=L0.out.five
 have PV:=dQ (K:=K) wp p1.1 z w3 L0.out.m (by have:=G1.out.n;have:=HN.out;omega)
 rw [xR] at PV
 have PV:=κ PV
 obtain⟨b0,b1,b2,b3,b4,bl,bz,ll⟩:=L0.out.five
 go_wp2_with (first
  | (go_at_call 135;refine PV.out.mono ?_;rintro e w4 ⟨rfl,A1,U1⟩;have L1:=κ (L0.out.call A1 U1);obtain⟨YX,YZ,Y0,Y1,Y2,Y3,Y4,Y5⟩:=L1.out.five;clear A1 U1 PV;have M0:Hid (AL K w pv.2 bx #[.bool false, .int .i64 5, .int .i64 pv.1, .int .i64 (-1), .int .i64 (-1)] ((w4.setCell ⟨bx,2,none⟩ (.int .i64 pv.1)).setCell ⟨bx,3,none⟩ (.int .i64 (-1)))):=(L1.out.put 2 _).put 3 _;obtain⟨m00,m10,m20,m30,m40,ml0,mz0,mm0⟩:=M0.out.five;have PF:=dA (K:=K) r pv.1 HR.out ((w4.setCell ⟨bx,2,none⟩ (.int .i64 pv.1)).setCell ⟨bx,3,none⟩ (.int .i64 (-1))) M0.out.m (by have:=G5.out.n;have:=HN.out;omega);rw [Cc] at PF;have PF:=κ PF)
  | (go_at_call 116;refine PF.out.mono ?_;rintro e w5 ⟨rfl,A1,U1⟩;have L2:=κ (M0.out.call A1 U1);obtain⟨b01,b11,b21,b31,b41,bl1,bz1,ll1⟩:=L2.out.five;clear A1 U1 PF;have PZ:=dX (K:=K) false 5 pv.1 (-1) (-1) w5 L2.out.m (by have:=G6.out.n;have:=HN.out;omega);rw [jS] at PZ;have PZ:=κ PZ)
  | (go_at_call 121;refine PZ.out.mono ?_;rintro e w6 ⟨rfl,A1,U1⟩;have L3:=κ (L2.out.call A1 U1);obtain⟨b02,Xb,b22,b32,b42,bl2,bz2,YW⟩:=L3.out.five;clear A1 U1 PZ))
 all_goals go_end0
 all_goals exact⟨rfl,L3.out.m,L3.out.fin⟩
theorem RH (wp z:Int) (r:Nat) (hr:r<8) (w:World) (a:LM K s w) (hc:1≤s.aj∧s.aj≤64) (hn:s.ops.length+30<1000000000) (hw:way 8=(wp,5)):
  Calls Tryz.prog 125 #[.pointer (some ⟨K.h,0,none⟩), .int .i64 8, .int .i64 r, .int .i64 z] w fun e w'=>e= .returned (.tuple #[])∧LM K (s.lZ 8 r z) w'∧UW K w w':=by
 have HN:=κ hn
 have HR:=κ hr
 have HC:=κ hc
 have WY:=κ (fun w=>ql 8 w (by decide) (by decide))
 rw [hw] at WY
 dsimp only at WY
 obtain⟨p1,bP⟩:∃p,s.get r=p:=⟨_,rfl⟩
 have G1:=κ (show Gw 1 s p1.2 by rw [←bP];exact bG s r)
 obtain⟨pv,xR⟩:∃p,p1.2.B wp p1.1 z=p:=⟨_,rfl⟩
 have G5:=κ (G1.out.trans (show Gw 1 p1.2 pv.2 by rw [←xR];exact jZ _ _ _ _))
 obtain⟨sz,jS⟩:∃p,pv.2.flag 5 pv.1 (-1) (-1)=p:=⟨_,rfl⟩
 have E:s.lZ 8 r z=sz:=by
  simp only [Lk.lZ,hw,if_neg (show¬ ((8:Int)=1∨(8:Int)=3) by omega),if_neg (show¬ ((8:Int)=14∨(8:Int)=15) by omega),if_neg (show¬ ((6:Int)≤5∧(5:Int)≤9) by decide),if_pos (show(8:Int)≠7 by decide),if_neg (show¬ ((8:Int)≠7∧(8:Int)≠8) by omega),bP,xR,jS,↓reduceIte]
 rw [E]
 have P1:=bU (K:=K) r HR.out w a (by omega)
 rw [bP] at P1
 have P1:=κ P1
 clear a hn hc hr E
 go_enter Tryz.func125,Tryz.ntmps125
 go_upto_region 6 with(first
  | (go_at_call 118;refine P1.out.mono ?_;rintro e w1 ⟨rfl,A1,U1⟩;have H1:=κ A1;have V1:=κ U1;clear P1 A1 U1)
  | (go_at_call 185;refine(WY.out _).mono ?_;rintro e w2 ⟨rfl,b2⟩;have H2:=κ (H1.out.below b2);have V2:=κ (V1.out.trans (UW.below H1.out.l b2));clear b2))
 go_upto_region 7 with fail
 have L0:=κ (AL.new H2.out V2.out #[.bool false, .int .i64 5, .int .i64 p1.1, .int .i64 z, .int .i64 (-1)] 108)
 generalize w2.alloc (.cells #[.bool false, .int .i64 5, .int .i64 p1.1, .int .i64 z, .int .i64 (-1)] 108)=w3 at*
 generalize w2.heap.size=bx at*
 clear H2 V2
 obtain⟨b0,b1,b2,b3,b4,bl,bz,ll⟩:=L0.out.five
 have PV:=dQ (K:=K) wp p1.1 z w3 L0.out.m (by have:=G1.out.n;have:=HN.out;omega)
 rw [xR] at PV
 have PV:=κ PV
 obtain⟨b0,b1,b2,b3,b4,bl,bz,ll⟩:=L0.out.five
 go_wp2_with (first
  | (go_at_call 135;refine PV.out.mono ?_;rintro e w4 ⟨rfl,A1,U1⟩;have L1:=κ (L0.out.call A1 U1);obtain⟨YX,YZ,Y0,Y1,Y2,Y3,Y4,Y5⟩:=L1.out.five;clear A1 U1 PV;have M0:Hid (AL K w pv.2 bx #[.bool false, .int .i64 5, .int .i64 pv.1, .int .i64 (-1), .int .i64 (-1)] ((w4.setCell ⟨bx,2,none⟩ (.int .i64 pv.1)).setCell ⟨bx,3,none⟩ (.int .i64 (-1)))):=(L1.out.put 2 _).put 3 _;obtain⟨m00,m10,m20,m30,m40,ml0,mz0,mm0⟩:=M0.out.five;have PZ:=dX (K:=K) false 5 pv.1 (-1) (-1) ((w4.setCell ⟨bx,2,none⟩ (.int .i64 pv.1)).setCell ⟨bx,3,none⟩ (.int .i64 (-1))) M0.out.m (by have:=G5.out.n;have:=HN.out;omega);rw [jS] at PZ;have PZ:=κ PZ)
  | (go_at_call 121;refine PZ.out.mono ?_;rintro e w5 ⟨rfl,A1,U1⟩;have L2:=κ (M0.out.call A1 U1);obtain⟨b01,b11,b21,b31,b41,bl1,bz1,ll1⟩:=L2.out.five;clear A1 U1 PZ))
 all_goals go_end0
 all_goals exact⟨rfl,L2.out.m,L2.out.fin⟩
theorem FT (o wp z:Int) (r:Nat) (hr:r<8) (w:World) (a:LM K s w) (hc:1≤s.aj∧s.aj≤64) (hn:s.ops.length+30<1000000000) (o0:0≤o) (o1:o<16) (hw:way o=(wp,5)) (h1:o≠1) (h3:o≠3) (hB:o=14∨o=15) (hD:o≠7) (hF:o≠8):
  Calls Tryz.prog 125 #[.pointer (some ⟨K.h,0,none⟩), .int .i64 o, .int .i64 r, .int .i64 z] w fun e w'=>e= .returned (.tuple #[])∧LM K (s.lZ o r z) w'∧UW K w w':=by
 have HN:=κ hn
 have HR:=κ hr
 have HC:=κ hc
 have WY:=κ (fun w=>ql o w o0 o1)
 rw [hw] at WY
 dsimp only at WY
 have e1:(o==1)=false:=by simpa using h1
 have e3:(o==3)=false:=by simpa using h3
 have n7:(o !=7)=true:=by simpa using hD
 have n8:(o !=8)=true:=by simpa using hF
 obtain⟨p1,bP⟩:∃p,s.get r=p:=⟨_,rfl⟩
 have G1:=κ (show Gw 1 s p1.2 by rw [←bP];exact bG s r)
 obtain⟨pu,hpu⟩:∃p,p1.2.U 6 z=p:=⟨_,rfl⟩
 have G2:=κ (G1.out.trans (show Gw 1 p1.2 pu.2 by rw [←hpu];exact Ie _ _ _))
 obtain⟨sb,hsb⟩:∃p,pu.2.put ⟨13,7,pu.1,0,0,s.pc,s.aj-1⟩=p:=⟨_,rfl⟩
 have G3:=κ (G2.out.trans (show Gw 1 pu.2 sb by rw [←hsb];exact bK _ _))
 obtain⟨pv,xR⟩:∃p,sb.B wp p1.1 z=p:=⟨_,rfl⟩
 have G5:=κ (G3.out.trans (show Gw 1 sb pv.2 by rw [←xR];exact jZ _ _ _ _))
 obtain⟨sf,Cc⟩:∃p,pv.2.set r pv.1=p:=⟨_,rfl⟩
 have G6:=κ (G5.out.trans (show Gw 1 pv.2 sf by rw [←Cc];exact bM _ _ _))
 obtain⟨sz,jS⟩:∃p,sf.flag 5 pv.1 (-1) (-1)=p:=⟨_,rfl⟩
 have E:s.lZ o r z=sz:=by
  simp only [Lk.lZ,hw,if_neg (show¬ (o=1∨o=3) by omega),if_pos hB,if_neg (show¬ ((6:Int)≤5∧(5:Int)≤9) by decide),if_pos hD,if_pos (show(5:Int)=5 from rfl),if_pos (show o≠7∧o≠8 from⟨hD,hF⟩),bP,hpu,hsb,xR,Cc,jS,↓reduceIte]
 rw [E]
 have P1:=bU (K:=K) r HR.out w a (by omega)
 rw [bP] at P1
 have P1:=κ P1
 rcases hB with rfl | rfl
 ·clear a hn hc hr E
  go_enter Tryz.func125,Tryz.ntmps125
  go_upto_region 4 with(go_at_call 118;refine P1.out.mono ?_;rintro e w1 ⟨rfl,A1,U1⟩;have H1:=κ A1;have V1:=κ U1;clear P1 A1 U1)
  have PU:=yQ (K:=K) 6 z w1.drew H1.out.drew (by have:=G1.out.n;have:=HN.out;omega)
  rw [hpu] at PU
  have PU:=κ PU
  have c4:w1.cell? ⟨K.h,4,none⟩=some (.int .u32 s.pc):=(H1.out.c 4 (by decide) (by decide)).trans (by show some (Value.int .u32 p1.2.pc)=_;rw [G1.out.pc])
  have hl4:∀w',(fun w'=>w'.cell? ⟨K.h,4,none⟩=some (.int .u32 s.pc)) w'→(Instr.loadAt 29 (.pointer (some ⟨K.h,4,none⟩))).run Tryz.prog w'= .ok (.int .u32 s.pc) w':=fun w' h=>by
   dsimp only at h
   go_simp
  have Zq:∀w:World,(Instr.fieldAt 110 (.pointer (some ⟨K.h,0,none⟩)) 1).run Tryz.prog w= .ok (.pointer (some ⟨K.h,4,none⟩)) w:=fun w=>by go_simp
  have O6:∀w:World,(Instr.build 115 #[(0, .int .i64 13),(1, .int .i64 7),(2, .int .i64 pu.1),(5, .int .u32 s.pc),(6, .int .i64 (s.aj-1))]).run Tryz.prog w= .ok (.agg #[.int .i64 13, .int .i64 7, .int .i64 pu.1, .int .i64 0, .int .i64 0, .int .u32 s.pc, .int .i64 (s.aj-1)]) w:=fun w=>by go_simp
  refine wp_region_held_drew (S:=(fun w'=>w'.cell? ⟨K.h,4,none⟩=some (.int .u32 s.pc))) (by kernel_rfl) c4 (fun hHeld=> ?_)
  refine iR 0 34 (.pointer (some ⟨K.h,0,none⟩)) rfl rfl (by kernel_rfl) (by kernel_rfl) (by kernel_rfl) (fun _ _ _ h=>h) (Kt.fV (by rfl) _ rfl _ rfl) hHeld ?_
  try simp only [Act.put,aA,aB,aC]
  refine iR 1 35 (.pointer (some ⟨K.h,0,none⟩)) rfl rfl (by kernel_rfl) (by kernel_rfl) (by kernel_rfl) (fun _ _ _ h=>h) (Kt.fV (by rfl) _ rfl _ rfl) hHeld ?_
  try simp only [Act.put,aA,aB,aC]
  refine iR 2 36 (.int .i64 z) rfl rfl (by kernel_rfl) (by kernel_rfl) (by kernel_rfl) (fun _ _ _ h=>h) (Kt.fV (by rfl) _ rfl _ rfl) hHeld ?_
  try simp only [Act.put,aA,aB,aC]
  refine iR 4 38 (.pointer (some ⟨K.h,0,none⟩)) rfl rfl (by kernel_rfl) (by kernel_rfl) (by kernel_rfl) (fun _ _ _ h=>h) (Kt.fV (by rfl) _ rfl _ rfl) hHeld ?_
  try simp only [Act.put,aA,aB,aC]
  refine iR 5 39 (.pointer (some ⟨K.h,0,none⟩)) rfl rfl (by kernel_rfl) (by kernel_rfl) (by kernel_rfl) (fun _ _ _ h=>h) (Kt.lu (by rfl) _ rfl _ rfl) hHeld ?_
  try simp only [Act.put,aA,aB,aC]
  refine iR 6 40 (.pointer (some ⟨K.h,4,none⟩)) rfl rfl (by kernel_rfl) (by kernel_rfl) (by kernel_rfl) (fun _ _ _ h=>h) (Kt.jc (by rfl) _ _ _ rfl _ _ rfl Zq) hHeld ?_
  try simp only [Act.put,aA,aB,aC]
  refine iR 7 41 (.int .u32 s.pc) rfl rfl (by kernel_rfl) (by kernel_rfl) (by kernel_rfl) (fun _ _ _ h=>h) (Kt.kK (by rfl) _ _ rfl _ _ rfl hl4) hHeld ?_
  try simp only [Act.put,aA,aB,aC]
  refine iR 8 42 (.pointer (some ⟨K.h,0,none⟩)) rfl rfl (by kernel_rfl) (by kernel_rfl) (by kernel_rfl) (fun _ _ _ h=>h) (Kt.fV (by rfl) _ rfl _ rfl) hHeld ?_
  try simp only [Act.put,aA,aB,aC]
  refine wpAnyH_ready (rs:= [3]) (by kernel_rfl) (by simp) ?_
  refine AllReadyH.cons rfl (fun KK bF=> ?_) AllReadyH.nil
  go_simp
  go_wp2_with (go_at_call 122;refine PU.out.mono ?_;rintro e wu ⟨rfl,A1,U1⟩)
  have U2:=κ (V1.out.trans ((UW.drew (K:=K) H1.out.l).trans U1))
  have k4:wu.cell? ⟨K.h,4,none⟩=some (.int .u32 s.pc):=(A1.c 4 (by decide) (by decide)).trans (by show some (Value.int .u32 pu.2.pc)=_;rw [G2.out.pc])
  have DN:=nM (K:=K) wu A1 (by rw [G2.out.aj];exact HC.out)
  rw [G2.out.aj] at DN
  have DN:=κ DN
  have PB:=cO (K:=K) ⟨13,7,pu.1,0,0,s.pc,s.aj-1⟩ wu A1 (by have:=G2.out.n;have:=HN.out;omega)
  rw [hsb] at PB
  have PB:=κ PB
  clear A1 U1 PU
  refine bF.out _ _ ?_ (fun bH=> ?_)
  ·exact k4
  clear bF KK hHeld
  have hHeld:=bH
  clear bH
  try simp only [Act.put,aA,aB,aC]
  refine wpAnyH_ready (rs:= [9]) (by kernel_rfl) (by simp) ?_
  refine AllReadyH.cons rfl (fun KK bF=> ?_) AllReadyH.nil
  go_simp
  go_wp2_with (go_at_call 130;refine DN.out.mono ?_;rintro e wd ⟨rfl,rfl⟩)
  refine bF.out _ _ ?_ (fun bH=> ?_)
  ·exact k4
  clear bF KK hHeld
  have hHeld:=bH
  clear bH
  try simp only [Act.put,aA,aB,aC]
  refine iR 10 44 (.agg #[.int .i64 13, .int .i64 7, .int .i64 pu.1, .int .i64 0, .int .i64 0, .int .u32 s.pc, .int .i64 (s.aj-1)]) rfl rfl (by kernel_rfl) (by kernel_rfl) (by kernel_rfl) (fun _ _ _ h=>h) (Kt.qO (by rfl) _ _ rfl (#[(0, .int .i64 13),(1, .int .i64 7),(2, .int .i64 pu.1),(5, .int .u32 s.pc),(6, .int .i64 (s.aj-1))]) _ (by kernel_rfl) O6) hHeld ?_
  try simp only [Act.put,aA,aB,aC]
  refine wpAnyH_ready (rs:= [11]) (by kernel_rfl) (by simp) ?_
  refine AllReadyH.cons rfl (fun KK bF=> ?_) AllReadyH.nil
  go_simp
  go_wp2_with (go_at_call 54;refine PB.out.mono ?_;rintro e wb ⟨rfl,A1,U1⟩)
  have HB:=κ A1
  have VB:=κ (U2.out.trans U1)
  have j4:wb.cell? ⟨K.h,4,none⟩=some (.int .u32 s.pc):=(A1.c 4 (by decide) (by decide)).trans (by show some (Value.int .u32 sb.pc)=_;rw [G3.out.pc])
  clear A1 U1 PB
  refine bF.out _ _ ?_ (fun bH=> ?_)
  ·exact j4
  clear bF KK hHeld
  have hHeld:=bH
  clear bH
  try simp only [Act.put,aA,aB,aC]
  refine wpAnyH_done (by kernel_rfl) ?_ _
  go_upto_region 6 with(go_at_call 185;refine(WY.out _).mono ?_;rintro e w2 ⟨rfl,b2⟩;have H2:=κ (HB.out.below b2);have V2:=κ (VB.out.trans (UW.below HB.out.l b2));clear b2)
  go_upto_region 7 with fail
  have L0:=κ (AL.new H2.out V2.out #[.bool false, .int .i64 5, .int .i64 p1.1, .int .i64 z, .int .i64 (-1)] 108)
  generalize w2.alloc (.cells #[.bool false, .int .i64 5, .int .i64 p1.1, .int .i64 z, .int .i64 (-1)] 108)=w3 at*
  generalize w2.heap.size=bx at*
  clear H2 V2
  obtain⟨b0,b1,b2,b3,b4,bl,bz,ll⟩:=L0.out.five
  have PV:=dQ (K:=K) wp p1.1 z w3 L0.out.m (by have:=G3.out.n;have:=HN.out;omega)
  rw [xR] at PV
  have PV:=κ PV
  obtain⟨b0,b1,b2,b3,b4,bl,bz,ll⟩:=L0.out.five
  go_wp2_with (first
   | (go_at_call 135;refine PV.out.mono ?_;rintro e w4 ⟨rfl,A1,U1⟩;have L1:=κ (L0.out.call A1 U1);obtain⟨YX,YZ,Y0,Y1,Y2,Y3,Y4,Y5⟩:=L1.out.five;clear A1 U1 PV;have M0:Hid (AL K w pv.2 bx #[.bool false, .int .i64 5, .int .i64 pv.1, .int .i64 (-1), .int .i64 (-1)] ((w4.setCell ⟨bx,2,none⟩ (.int .i64 pv.1)).setCell ⟨bx,3,none⟩ (.int .i64 (-1)))):=(L1.out.put 2 _).put 3 _;obtain⟨m00,m10,m20,m30,m40,ml0,mz0,mm0⟩:=M0.out.five;have PF:=dA (K:=K) r pv.1 HR.out ((w4.setCell ⟨bx,2,none⟩ (.int .i64 pv.1)).setCell ⟨bx,3,none⟩ (.int .i64 (-1))) M0.out.m (by have:=G5.out.n;have:=HN.out;omega);rw [Cc] at PF;have PF:=κ PF)
   | (go_at_call 116;refine PF.out.mono ?_;rintro e w5 ⟨rfl,A1,U1⟩;have L2:=κ (M0.out.call A1 U1);obtain⟨b01,b11,b21,b31,b41,bl1,bz1,ll1⟩:=L2.out.five;clear A1 U1 PF;have PZ:=dX (K:=K) false 5 pv.1 (-1) (-1) w5 L2.out.m (by have:=G6.out.n;have:=HN.out;omega);rw [jS] at PZ;have PZ:=κ PZ)
   | (go_at_call 121;refine PZ.out.mono ?_;rintro e w6 ⟨rfl,A1,U1⟩;have L3:=κ (L2.out.call A1 U1);obtain⟨b02,Xb,b22,b32,b42,bl2,bz2,YW⟩:=L3.out.five;clear A1 U1 PZ))
  all_goals go_end0
  all_goals exact⟨rfl,L3.out.m,L3.out.fin⟩
 ·clear a hn hc hr E
  go_enter Tryz.func125,Tryz.ntmps125
  go_upto_region 4 with(go_at_call 118;refine P1.out.mono ?_;rintro e w1 ⟨rfl,A1,U1⟩;have H1:=κ A1;have V1:=κ U1;clear P1 A1 U1)
  have PU:=yQ (K:=K) 6 z w1.drew H1.out.drew (by have:=G1.out.n;have:=HN.out;omega)
  rw [hpu] at PU
  have PU:=κ PU
  have c4:w1.cell? ⟨K.h,4,none⟩=some (.int .u32 s.pc):=(H1.out.c 4 (by decide) (by decide)).trans (by show some (Value.int .u32 p1.2.pc)=_;rw [G1.out.pc])
  have hl4:∀w',(fun w'=>w'.cell? ⟨K.h,4,none⟩=some (.int .u32 s.pc)) w'→(Instr.loadAt 29 (.pointer (some ⟨K.h,4,none⟩))).run Tryz.prog w'= .ok (.int .u32 s.pc) w':=fun w' h=>by
   dsimp only at h
   go_simp
  have Zq:∀w:World,(Instr.fieldAt 110 (.pointer (some ⟨K.h,0,none⟩)) 1).run Tryz.prog w= .ok (.pointer (some ⟨K.h,4,none⟩)) w:=fun w=>by go_simp
  have O6:∀w:World,(Instr.build 115 #[(0, .int .i64 13),(1, .int .i64 7),(2, .int .i64 pu.1),(5, .int .u32 s.pc),(6, .int .i64 (s.aj-1))]).run Tryz.prog w= .ok (.agg #[.int .i64 13, .int .i64 7, .int .i64 pu.1, .int .i64 0, .int .i64 0, .int .u32 s.pc, .int .i64 (s.aj-1)]) w:=fun w=>by go_simp
  refine wp_region_held_drew (S:=(fun w'=>w'.cell? ⟨K.h,4,none⟩=some (.int .u32 s.pc))) (by kernel_rfl) c4 (fun hHeld=> ?_)
  refine iR 0 34 (.pointer (some ⟨K.h,0,none⟩)) rfl rfl (by kernel_rfl) (by kernel_rfl) (by kernel_rfl) (fun _ _ _ h=>h) (Kt.fV (by rfl) _ rfl _ rfl) hHeld ?_
  try simp only [Act.put,aA,aB,aC]
  refine iR 1 35 (.pointer (some ⟨K.h,0,none⟩)) rfl rfl (by kernel_rfl) (by kernel_rfl) (by kernel_rfl) (fun _ _ _ h=>h) (Kt.fV (by rfl) _ rfl _ rfl) hHeld ?_
  try simp only [Act.put,aA,aB,aC]
  refine iR 2 36 (.int .i64 z) rfl rfl (by kernel_rfl) (by kernel_rfl) (by kernel_rfl) (fun _ _ _ h=>h) (Kt.fV (by rfl) _ rfl _ rfl) hHeld ?_
  try simp only [Act.put,aA,aB,aC]
  refine iR 4 38 (.pointer (some ⟨K.h,0,none⟩)) rfl rfl (by kernel_rfl) (by kernel_rfl) (by kernel_rfl) (fun _ _ _ h=>h) (Kt.fV (by rfl) _ rfl _ rfl) hHeld ?_
  try simp only [Act.put,aA,aB,aC]
  refine iR 5 39 (.pointer (some ⟨K.h,0,none⟩)) rfl rfl (by kernel_rfl) (by kernel_rfl) (by kernel_rfl) (fun _ _ _ h=>h) (Kt.lu (by rfl) _ rfl _ rfl) hHeld ?_
  try simp only [Act.put,aA,aB,aC]
  refine iR 6 40 (.pointer (some ⟨K.h,4,none⟩)) rfl rfl (by kernel_rfl) (by kernel_rfl) (by kernel_rfl) (fun _ _ _ h=>h) (Kt.jc (by rfl) _ _ _ rfl _ _ rfl Zq) hHeld ?_
  try simp only [Act.put,aA,aB,aC]
  refine iR 7 41 (.int .u32 s.pc) rfl rfl (by kernel_rfl) (by kernel_rfl) (by kernel_rfl) (fun _ _ _ h=>h) (Kt.kK (by rfl) _ _ rfl _ _ rfl hl4) hHeld ?_
  try simp only [Act.put,aA,aB,aC]
  refine iR 8 42 (.pointer (some ⟨K.h,0,none⟩)) rfl rfl (by kernel_rfl) (by kernel_rfl) (by kernel_rfl) (fun _ _ _ h=>h) (Kt.fV (by rfl) _ rfl _ rfl) hHeld ?_
  try simp only [Act.put,aA,aB,aC]
  refine wpAnyH_ready (rs:= [3]) (by kernel_rfl) (by simp) ?_
  refine AllReadyH.cons rfl (fun KK bF=> ?_) AllReadyH.nil
  go_simp
  go_wp2_with (go_at_call 122;refine PU.out.mono ?_;rintro e wu ⟨rfl,A1,U1⟩)
  have U2:=κ (V1.out.trans ((UW.drew (K:=K) H1.out.l).trans U1))
  have k4:wu.cell? ⟨K.h,4,none⟩=some (.int .u32 s.pc):=(A1.c 4 (by decide) (by decide)).trans (by show some (Value.int .u32 pu.2.pc)=_;rw [G2.out.pc])
  have DN:=nM (K:=K) wu A1 (by rw [G2.out.aj];exact HC.out)
  rw [G2.out.aj] at DN
  have DN:=κ DN
  have PB:=cO (K:=K) ⟨13,7,pu.1,0,0,s.pc,s.aj-1⟩ wu A1 (by have:=G2.out.n;have:=HN.out;omega)
  rw [hsb] at PB
  have PB:=κ PB
  clear A1 U1 PU
  refine bF.out _ _ ?_ (fun bH=> ?_)
  ·exact k4
  clear bF KK hHeld
  have hHeld:=bH
  clear bH
  try simp only [Act.put,aA,aB,aC]
  refine wpAnyH_ready (rs:= [9]) (by kernel_rfl) (by simp) ?_
  refine AllReadyH.cons rfl (fun KK bF=> ?_) AllReadyH.nil
  go_simp
  go_wp2_with (go_at_call 130;refine DN.out.mono ?_;rintro e wd ⟨rfl,rfl⟩)
  refine bF.out _ _ ?_ (fun bH=> ?_)
  ·exact k4
  clear bF KK hHeld
  have hHeld:=bH
  clear bH
  try simp only [Act.put,aA,aB,aC]
  refine iR 10 44 (.agg #[.int .i64 13, .int .i64 7, .int .i64 pu.1, .int .i64 0, .int .i64 0, .int .u32 s.pc, .int .i64 (s.aj-1)]) rfl rfl (by kernel_rfl) (by kernel_rfl) (by kernel_rfl) (fun _ _ _ h=>h) (Kt.qO (by rfl) _ _ rfl (#[(0, .int .i64 13),(1, .int .i64 7),(2, .int .i64 pu.1),(5, .int .u32 s.pc),(6, .int .i64 (s.aj-1))]) _ (by kernel_rfl) O6) hHeld ?_
  try simp only [Act.put,aA,aB,aC]
  refine wpAnyH_ready (rs:= [11]) (by kernel_rfl) (by simp) ?_
  refine AllReadyH.cons rfl (fun KK bF=> ?_) AllReadyH.nil
  go_simp
  go_wp2_with (go_at_call 54;refine PB.out.mono ?_;rintro e wb ⟨rfl,A1,U1⟩)
  have HB:=κ A1
  have VB:=κ (U2.out.trans U1)
  have j4:wb.cell? ⟨K.h,4,none⟩=some (.int .u32 s.pc):=(A1.c 4 (by decide) (by decide)).trans (by show some (Value.int .u32 sb.pc)=_;rw [G3.out.pc])
  clear A1 U1 PB
  refine bF.out _ _ ?_ (fun bH=> ?_)
  ·exact j4
  clear bF KK hHeld
  have hHeld:=bH
  clear bH
  try simp only [Act.put,aA,aB,aC]
  refine wpAnyH_done (by kernel_rfl) ?_ _
  go_upto_region 6 with(go_at_call 185;refine(WY.out _).mono ?_;rintro e w2 ⟨rfl,b2⟩;have H2:=κ (HB.out.below b2);have V2:=κ (VB.out.trans (UW.below HB.out.l b2));clear b2)
  go_upto_region 7 with fail
  have L0:=κ (AL.new H2.out V2.out #[.bool false, .int .i64 5, .int .i64 p1.1, .int .i64 z, .int .i64 (-1)] 108)
  generalize w2.alloc (.cells #[.bool false, .int .i64 5, .int .i64 p1.1, .int .i64 z, .int .i64 (-1)] 108)=w3 at*
  generalize w2.heap.size=bx at*
  clear H2 V2
  obtain⟨b0,b1,b2,b3,b4,bl,bz,ll⟩:=L0.out.five
  have PV:=dQ (K:=K) wp p1.1 z w3 L0.out.m (by have:=G3.out.n;have:=HN.out;omega)
  rw [xR] at PV
  have PV:=κ PV
  obtain⟨b0,b1,b2,b3,b4,bl,bz,ll⟩:=L0.out.five
  go_wp2_with (first
   | (go_at_call 135;refine PV.out.mono ?_;rintro e w4 ⟨rfl,A1,U1⟩;have L1:=κ (L0.out.call A1 U1);obtain⟨YX,YZ,Y0,Y1,Y2,Y3,Y4,Y5⟩:=L1.out.five;clear A1 U1 PV;have M0:Hid (AL K w pv.2 bx #[.bool false, .int .i64 5, .int .i64 pv.1, .int .i64 (-1), .int .i64 (-1)] ((w4.setCell ⟨bx,2,none⟩ (.int .i64 pv.1)).setCell ⟨bx,3,none⟩ (.int .i64 (-1)))):=(L1.out.put 2 _).put 3 _;obtain⟨m00,m10,m20,m30,m40,ml0,mz0,mm0⟩:=M0.out.five;have PF:=dA (K:=K) r pv.1 HR.out ((w4.setCell ⟨bx,2,none⟩ (.int .i64 pv.1)).setCell ⟨bx,3,none⟩ (.int .i64 (-1))) M0.out.m (by have:=G5.out.n;have:=HN.out;omega);rw [Cc] at PF;have PF:=κ PF)
   | (go_at_call 116;refine PF.out.mono ?_;rintro e w5 ⟨rfl,A1,U1⟩;have L2:=κ (M0.out.call A1 U1);obtain⟨b01,b11,b21,b31,b41,bl1,bz1,ll1⟩:=L2.out.five;clear A1 U1 PF;have PZ:=dX (K:=K) false 5 pv.1 (-1) (-1) w5 L2.out.m (by have:=G6.out.n;have:=HN.out;omega);rw [jS] at PZ;have PZ:=κ PZ)
   | (go_at_call 121;refine PZ.out.mono ?_;rintro e w6 ⟨rfl,A1,U1⟩;have L3:=κ (L2.out.call A1 U1);obtain⟨b02,Xb,b22,b32,b42,bl2,bz2,YW⟩:=L3.out.five;clear A1 U1 PZ))
  all_goals go_end0
  all_goals exact⟨rfl,L3.out.m,L3.out.fin⟩
theorem uV (o wp wq z:Int) (r:Nat) (hr:r<8) (w:World) (a:LM K s w) (hc:1≤s.aj∧s.aj≤64) (hn:s.ops.length+30<1000000000) (o0:0≤o) (o1:o<16) (hw:way o=(wp,wq)) (h1:o≠1) (h3:o≠3) (hB:¬ (o=14∨o=15)) (hC:6≤wq∧wq≤9) (hD:o≠7) (hE:wq≠5) (hF:o≠8):
  Calls Tryz.prog 125 #[.pointer (some ⟨K.h,0,none⟩), .int .i64 o, .int .i64 r, .int .i64 z] w fun e w'=>e= .returned (.tuple #[])∧LM K (s.lZ o r z) w'∧UW K w w':=by
 have HN:=κ hn
 have HR:=κ hr
 have HC:=κ hc
 have WY:=κ (fun w=>ql o w o0 o1)
 rw [hw] at WY
 dsimp only at WY
 have e1:(o==1)=false:=by simpa using h1
 have e3:(o==3)=false:=by simpa using h3
 have Pj:(o==14)=false:=by simp;omega
 have UG:(o==15)=false:=by simp;omega
 have n7:(o !=7)=true:=by simpa using hD
 have n8:(o !=8)=true:=by simpa using hF
 have d6:decide (6≤wq)=true:=decide_eq_true hC.1
 have d9:decide (wq≤9)=true:=decide_eq_true hC.2
 have q5:(wq==5)=false:=by simpa using hE
 obtain⟨p1,bP⟩:∃p,s.get r=p:=⟨_,rfl⟩
 have G1:=κ (show Gw 1 s p1.2 by rw [←bP];exact bG s r)
 obtain⟨pn,hpn⟩:∃p,p1.2.now=p:=⟨_,rfl⟩
 have G4:=κ (G1.out.trans (show Gw 5 p1.2 pn.2 by rw [←hpn];exact kG _))
 obtain⟨pv,xR⟩:∃p,pn.2.B wp p1.1 z=p:=⟨_,rfl⟩
 have G5:=κ (G4.out.trans (show Gw 1 pn.2 pv.2 by rw [←xR];exact jZ _ _ _ _))
 obtain⟨sf,Cc⟩:∃p,pv.2.set r pv.1=p:=⟨_,rfl⟩
 have G6:=κ (G5.out.trans (show Gw 1 pv.2 sf by rw [←Cc];exact bM _ _ _))
 obtain⟨sz,jS⟩:∃p,sf.flag wq p1.1 z pn.1=p:=⟨_,rfl⟩
 have E:s.lZ o r z=sz:=by
  simp only [Lk.lZ,hw,if_neg (show¬ (o=1∨o=3) by omega),if_neg hB,if_pos hC,if_pos hD,if_neg hE,if_pos (show o≠7∧o≠8 from⟨hD,hF⟩),bP,hpn,xR,Cc,jS,↓reduceIte]
 rw [E]
 have P1:=bU (K:=K) r HR.out w a (by omega)
 rw [bP] at P1
 have P1:=κ P1
 clear a hn hc hr E
 go_enter Tryz.func125,Tryz.ntmps125
 go_upto_region 6 with(first
  | (go_at_call 118;refine P1.out.mono ?_;rintro e w1 ⟨rfl,A1,U1⟩;have H1:=κ A1;have V1:=κ U1;clear P1 A1 U1)
  | (go_at_call 185;refine(WY.out _).mono ?_;rintro e w2 ⟨rfl,b2⟩;have H2:=κ (H1.out.below b2);have V2:=κ (V1.out.trans (UW.below H1.out.l b2));clear b2))
 go_upto_region 7 with fail
 have L0:=κ (AL.new H2.out V2.out #[.bool false, .int .i64 wq, .int .i64 p1.1, .int .i64 z, .int .i64 (-1)] 108)
 generalize w2.alloc (.cells #[.bool false, .int .i64 wq, .int .i64 p1.1, .int .i64 z, .int .i64 (-1)] 108)=w3 at*
 generalize w2.heap.size=bx at*
 clear H2 V2
 obtain⟨b0,b1,b2,b3,b4,bl,bz,ll⟩:=L0.out.five
 have PN:=oH (K:=K) w3 L0.out.m (by have:=G1.out.n;have:=HN.out;omega)
 rw [hpn] at PN
 have PN:=κ PN
 obtain⟨b0,b1,b2,b3,b4,bl,bz,ll⟩:=L0.out.five
 go_wp2_with (first
  | (go_at_call 119;refine PN.out.mono ?_;rintro e w4 ⟨rfl,A1,U1⟩;have L1:=κ (L0.out.call A1 U1);obtain⟨YX,YZ,Y0,Y1,Y2,Y3,Y4,Y5⟩:=L1.out.five;clear A1 U1 PN;have M0:Hid (AL K w pn.2 bx #[.bool false, .int .i64 wq, .int .i64 p1.1, .int .i64 z, .int .i64 pn.1] (w4.setCell ⟨bx,4,none⟩ (.int .i64 pn.1))):=L1.out.put 4 _;obtain⟨m00,m10,m20,m30,m40,ml0,mz0,mm0⟩:=M0.out.five;have PV:=dQ (K:=K) wp p1.1 z (w4.setCell ⟨bx,4,none⟩ (.int .i64 pn.1)) M0.out.m (by have:=G4.out.n;have:=HN.out;omega);rw [xR] at PV;have PV:=κ PV)
  | (go_at_call 135;refine PV.out.mono ?_;rintro e w5 ⟨rfl,A1,U1⟩;have L2:=κ (M0.out.call A1 U1);obtain⟨b01,b11,b21,b31,b41,bl1,bz1,ll1⟩:=L2.out.five;clear A1 U1 PV;have PF:=dA (K:=K) r pv.1 HR.out w5 L2.out.m (by have:=G5.out.n;have:=HN.out;omega);rw [Cc] at PF;have PF:=κ PF)
  | (go_at_call 116;refine PF.out.mono ?_;rintro e w6 ⟨rfl,A1,U1⟩;have L3:=κ (L2.out.call A1 U1);obtain⟨b02,Xb,b22,b32,b42,bl2,bz2,YW⟩:=L3.out.five;clear A1 U1 PF;have PZ:=dX (K:=K) false wq p1.1 z pn.1 w6 L3.out.m (by have:=G6.out.n;have:=HN.out;omega);rw [jS] at PZ;have PZ:=κ PZ)
  | (go_at_call 121;refine PZ.out.mono ?_;rintro e w7 ⟨rfl,A1,U1⟩;have L4:=κ (L3.out.call A1 U1);obtain⟨b03,b13,Xc,b33,b43,bl3,bz3,ll3⟩:=L4.out.five;clear A1 U1 PZ))
 all_goals go_end0
 all_goals exact⟨rfl,L4.out.m,L4.out.fin⟩
theorem Xd (z:Int) (r:Nat) (hr:r<8) (w:World) (a:LM K s w) (hn:s.ops.length+30<1000000000):
  Calls Tryz.prog 125 #[.pointer (some ⟨K.h,0,none⟩), .int .i64 1, .int .i64 r, .int .i64 z] w fun e w'=>e= .returned (.tuple #[])∧LM K (s.lZ 1 r z) w'∧UW K w w':=by
 have HN:=κ hn
 have HR:=κ hr
 obtain⟨p1,bP⟩:∃p,s.get r=p:=⟨_,rfl⟩
 have G1:=κ (show Gw 1 s p1.2 by rw [←bP];exact bG s r)
 have E:s.lZ 1 r z=p1.2.mY 1 r p1.1 z:=by
  unfold Lk.lZ
  dsimp only
  rw [bP,if_pos (by decide)]
 rw [E]
 have P1:=bU (K:=K) r HR.out w a (by omega)
 rw [bP] at P1
 have P1:=κ P1
 clear a hn hr E
 go_enter Tryz.func125,Tryz.ntmps125
 go_wp2_with (first
  | (go_at_call 118;refine P1.out.mono ?_;rintro e w1 ⟨rfl,A1,U1⟩;have V1:=κ U1;have P2:=κ (WX (K:=K) p1.1 z r HR.out w1 A1 (by have:=G1.out.n;have:=HN.out;omega));clear A1 U1 P1)
  | (go_at_call 184;refine P2.out.mono ?_;rintro e w2 ⟨rfl,A2,U2⟩;have HL:=κ A2;have V2:=κ U2;clear A2 U2 P2))
 exact bodyPost_ret (v:= .tuple #[]) (by simp [results,Tryz.results125,go_sem]) rfl ⟨rfl,HL.out,V1.out.trans V2.out⟩
theorem Xe (z:Int) (r:Nat) (hr:r<8) (w:World) (a:LM K s w) (hn:s.ops.length+30<1000000000):
  Calls Tryz.prog 125 #[.pointer (some ⟨K.h,0,none⟩), .int .i64 3, .int .i64 r, .int .i64 z] w fun e w'=>e= .returned (.tuple #[])∧LM K (s.lZ 3 r z) w'∧UW K w w':=by
 have HN:=κ hn
 have HR:=κ hr
 obtain⟨p1,bP⟩:∃p,s.get r=p:=⟨_,rfl⟩
 have G1:=κ (show Gw 1 s p1.2 by rw [←bP];exact bG s r)
 have E:s.lZ 3 r z=p1.2.mY 3 r p1.1 z:=by
  unfold Lk.lZ
  dsimp only
  rw [bP,if_pos (by decide)]
 rw [E]
 have P1:=bU (K:=K) r HR.out w a (by omega)
 rw [bP] at P1
 have P1:=κ P1
 clear a hn hr E
 go_enter Tryz.func125,Tryz.ntmps125
 go_wp2_with (first
  | (go_at_call 118;refine P1.out.mono ?_;rintro e w1 ⟨rfl,A1,U1⟩;have V1:=κ U1;have P2:=κ (Xa (K:=K) p1.1 z r HR.out w1 A1 (by have:=G1.out.n;have:=HN.out;omega));clear A1 U1 P1)
  | (go_at_call 184;refine P2.out.mono ?_;rintro e w2 ⟨rfl,A2,U2⟩;have HL:=κ A2;have V2:=κ U2;clear A2 U2 P2))
 exact bodyPost_ret (v:= .tuple #[]) (by simp [results,Tryz.results125,go_sem]) rfl ⟨rfl,HL.out,V1.out.trans V2.out⟩
theorem wJ (s:Lk) (o:Int) (d:Nat) (b:Int):Gw 20 s (s.lZ o d b):=by
 unfold Lk.lZ
 dsimp only
 have hg:=bG s d
 generalize s.get d=g at hg⊢
 split
 ·exact(hg.trans (RD _ _ _ _ _)).mono (by decide)
 ·have h1:Gw 3 s (if o=14∨o=15 then(g.2.U 6 b).2.put ⟨13,7,(g.2.U 6 b).1,0,0,s.pc,s.aj-1⟩ else g.2):=by
   split
   ·exact(hg.trans (Ie _ _ _)).trans (bK _ _)
   ·exact hg.mono (by decide)
  generalize(if o=14∨o=15 then(g.2.U 6 b).2.put ⟨13,7,(g.2.U 6 b).1,0,0,s.pc,s.aj-1⟩ else g.2)=s1 at h1⊢
  have h2:Gw 8 s (if 6≤(way o).2∧(way o).2≤9 then s1.now else(-1,s1)).2:=by
   split
   ·exact h1.trans (kG _)
   ·exact h1.mono (by decide)
  generalize(if 6≤(way o).2∧(way o).2≤9 then s1.now else(-1,s1))=s2 at h2⊢
  have h3:Gw 9 s (if o≠7 then s2.2.B (way o).1 g.1 b else(0,s2.2)).2:=by
   split
   ·exact h2.trans (jZ _ _ _ _)
   ·exact h2.mono (by decide)
  generalize(if o≠7 then s2.2.B (way o).1 g.1 b else(0,s2.2))=v at h3⊢
  have h4:Gw 10 s (if o≠7∧o≠8 then v.2.set d v.1 else v.2):=by
   split
   ·exact h3.trans (bM _ _ _)
   ·exact h3.mono (by decide)
  exact(h4.trans (fZ _ _ _ _ _)).mono (by decide)
theorem yX (o z:Int) (r:Nat) (hr:r<8) (o0:0≤o) (o1:o<16) (w:World) (a:LM K s w) (hc:1≤s.aj∧s.aj≤64) (hn:s.ops.length+30<1000000000):
  Calls Tryz.prog 125 #[.pointer (some ⟨K.h,0,none⟩), .int .i64 o, .int .i64 r, .int .i64 z] w fun e w'=>e= .returned (.tuple #[])∧LM K (s.lZ o r z) w'∧UW K w w':=by
 rcases(show o=0∨o=1∨o=2∨o=3∨o=4∨o=5∨o=6∨o=7∨o=8∨o=9∨o=10∨o=11∨o=12∨o=13∨o=14∨o=15 by omega) with rfl | rfl | rfl | rfl | rfl | rfl | rfl | rfl | rfl | rfl | rfl | rfl | rfl | rfl | rfl | rfl
 ·exact Ee 0 0 1 z r hr w a hc hn o0 o1 rfl (by decide) (by decide) (by decide) (by decide) (by decide) (by decide) (by decide)
 ·exact Xd z r hr w a hn
 ·exact Ee 2 1 3 z r hr w a hc hn o0 o1 rfl (by decide) (by decide) (by decide) (by decide) (by decide) (by decide) (by decide)
 ·exact Xe z r hr w a hn
 ·exact yV 4 2 z r hr w a hc hn o0 o1 rfl (by decide) (by decide) (by decide) (by decide) (by decide)
 ·exact yV 5 3 z r hr w a hc hn o0 o1 rfl (by decide) (by decide) (by decide) (by decide) (by decide)
 ·exact yV 6 4 z r hr w a hc hn o0 o1 rfl (by decide) (by decide) (by decide) (by decide) (by decide)
 ·exact RF 1 3 z r hr w a hc hn rfl (by decide) (by decide)
 ·exact RH 2 z r hr w a hc hn rfl
 ·exact uV 9 5 6 z r hr w a hc hn o0 o1 rfl (by decide) (by decide) (by decide) (by decide) (by decide) (by decide) (by decide)
 ·exact uV 10 6 7 z r hr w a hc hn o0 o1 rfl (by decide) (by decide) (by decide) (by decide) (by decide) (by decide) (by decide)
 ·exact uV 11 7 8 z r hr w a hc hn o0 o1 rfl (by decide) (by decide) (by decide) (by decide) (by decide) (by decide) (by decide)
 ·exact uV 12 8 9 z r hr w a hc hn o0 o1 rfl (by decide) (by decide) (by decide) (by decide) (by decide) (by decide) (by decide)
 ·exact Ee 13 9 10 z r hr w a hc hn o0 o1 rfl (by decide) (by decide) (by decide) (by decide) (by decide) (by decide) (by decide)
 ·exact FT 14 11 z r hr w a hc hn o0 o1 rfl (by decide) (by decide) (by decide) (by decide) (by decide)
 ·exact FT 15 12 z r hr w a hc hn o0 o1 rfl (by decide) (by decide) (by decide) (by decide) (by decide)
end Go.Proofs.YtcjcmnnhmajocabGreat.Lf
namespace Go.Proofs.YtcjcmnnhmajocabGreat.Kt
open Go.RowKit
variable {P:Program} {ops:Array Oper} {Q:Exit→Act→World→Prop} {md:Region.Mode} {S:World→Prop} {fuel:Nat} {listed:Array Bool} {a:Act} {w:World} {oi:Oper}
def L8 (md:Region.Mode) (ops:Array Oper) (listed:Array Bool) (i:Nat):Bool:=Region.noSelect ops&&(Region.free md ops listed i&&(Region.ready md ops listed).contains i)
theorem kD {α β γ:Type} {p:α→β→γ→Prop}:∀c a w,p c a w→p c a w:=fun _ _ _ h=>h
theorem kY (i d:Nat) (v:Value) (hi:ops[i]?=some oi) (hd:oi.dst=some d) (hk:L8 md ops listed i=true) (hQ:∀c a w,Q (.panic c) (a.put oi.dst v) w→Q (.panic c) a w) (hy:YieldsIf P ops S oi v a) (hS:S w)
  (h:wpAnyH P md ops Q S fuel (listed.setIfInBounds i true) (a.put (some d) v) w):wpAnyH P md ops Q S (fuel+1) listed a w:=by
 unfold L8 at hk
 simp only [Bool.and_eq_true] at hk
 exact wpAnyH_take hi hk.1 hk.2.1 hk.2.2 hQ hy hS (by rw [hd];exact h)
theorem kM (i d:Nat) (v:Value) {x:Operand} (hi:ops[i]?=some oi) (hd:oi.dst=some d) (ho:oi.op= .move x) (hx:a.eval x=v) (hw:Region.wanted oi (yielded ops a.tmps)=true) (hk:L8 md ops listed i=true) (hQ:∀c a w,Q (.panic c) (a.put oi.dst v) w→Q (.panic c) a w) (hS:S w)
  (h:wpAnyH P md ops Q S fuel (listed.setIfInBounds i true) (a.put (some d) v) w):wpAnyH P md ops Q S (fuel+1) listed a w:=
 kY i d v hi hd hk hQ (fV hw x ho v hx) hS h
theorem kF (i d:Nat) {u v:Value} {t:TypeId} {x:Operand} {k:Nat} (hf:∀w:World,(Instr.fieldAt t u k).run P w= .ok v w) (hi:ops[i]?=some oi) (hd:oi.dst=some d) (ho:oi.op= .fieldAddr t x k) (hx:a.eval x=u) (hw:Region.wanted oi (yielded ops a.tmps)=true) (hk:L8 md ops listed i=true) (hQ:∀c a w,Q (.panic c) (a.put oi.dst v) w→Q (.panic c) a w) (hS:S w)
  (h:wpAnyH P md ops Q S fuel (listed.setIfInBounds i true) (a.put (some d) v) w):wpAnyH P md ops Q S (fuel+1) listed a w:=
 kY i d v hi hd hk hQ (jc hw t x k ho u v hx hf) hS h
theorem kL (i d:Nat) {u v:Value} {t:TypeId} {x:Operand} (hl:∀w,S w→(Instr.loadAt t u).run P w= .ok v w) (hi:ops[i]?=some oi) (hd:oi.dst=some d) (ho:oi.op= .load t x) (hx:a.eval x=u) (hw:Region.wanted oi (yielded ops a.tmps)=true) (hk:L8 md ops listed i=true) (hQ:∀c a w,Q (.panic c) (a.put oi.dst v) w→Q (.panic c) a w) (hS:S w)
  (h:wpAnyH P md ops Q S fuel (listed.setIfInBounds i true) (a.put (some d) v) w):wpAnyH P md ops Q S (fuel+1) listed a w:=
 kY i d v hi hd hk hQ (kK hw t x ho u v hx hl) hS h
theorem kR (i:Nat) {o:Oper} (hr:Region.ready md ops listed= [i]) (ho:ops[i]?=some o)
  (h:∀K':Act→World→Prop,Shut (∀a w,S w→(S w→wpAnyH P md ops Q S fuel (listed.setIfInBounds i true) a w)→K' a w)→if Region.wanted o (yielded ops a.tmps)=true then Oper.wp P o a w K' Q else K' (a.put o.dst undef) w):
  wpAnyH P md ops Q S (fuel+1) listed a w:=wpAnyH_ready hr (by simp) (AllReadyH.cons ho h AllReadyH.nil)
end Go.Proofs.YtcjcmnnhmajocabGreat.Kt
namespace Go.Proofs.YtcjcmnnhmajocabGreat.Lf
open Go.RowKit Kt Ic Me
open Ot (fC OB)
variable {K:Kc} {s s':Lk} {W W' w w':World} {B bx:Nat} {cs:Array Value}
structure RS (K:Kc) (s:Lk) (b:Nat) (cs:Array Value) (W:World):Prop where
 b:Bx K b cs W
 p:W.cell? ⟨K.h,4,none⟩=some (.int .u32 s.pc)
 x:W.cell? ⟨K.h,5,none⟩=some (.int .u32 s.nx)
 n:W.cell? ⟨K.h,1,none⟩=some (.int .i64 s.aj)
theorem RS.of {s s':Lk} {b c:Nat} {cs:Array Value} {W:World} (h:Bx K b cs W) (a:LM K s' W) (g:Gw c s s'):RS K s b cs W:=
 ⟨h,g.pc▸a.c 4 (by decide) (by decide),g.nx▸a.c 5 (by decide) (by decide),g.aj▸a.c 1 (by decide) (by decide)⟩
theorem RS.drew {b:Nat} {cs:Array Value} {W:World} (h:RS K s b cs W):RS K s b cs W.drew:=
 ⟨⟨h.b.l,h.b.c,h.b.z,fun e=>h.b.n e⟩,h.p,h.x,h.n⟩
theorem Bx.Y6 {b:Nat} {v0 v1 v2 v3 v4:Value} {W:World} (h:Bx K b #[v0,v1,v2,v3,v4] W):W.rangeAt b 0 [v0,v1,v2,v3,v4]:=fun i v hi=>by
 rw [Nat.zero_add]
 refine h.c i v ?_
 rw [←hi]
 simp
theorem fI (b q:Nat) (h:q<5):∀w:World,(Instr.fieldAt 74 (.pointer (some ⟨b,0,none⟩)) q).run Tryz.prog w= .ok (.pointer (some ⟨b,q,none⟩)) w:=by
 intro w
 match q,h with
 | 0,_=>go_simp
 | 1,_=>go_simp
 | 2,_=>go_simp
 | 3,_=>go_simp
 | 4,_=>go_simp
theorem fM (b:Nat):(∀w:World,(Instr.fieldAt 110 (.pointer (some ⟨b,0,none⟩)) 1).run Tryz.prog w= .ok (.pointer (some ⟨b,4,none⟩)) w)∧(∀w:World,(Instr.fieldAt 110 (.pointer (some ⟨b,0,none⟩)) 2).run Tryz.prog w= .ok (.pointer (some ⟨b,5,none⟩)) w):=⟨fun w=>by go_simp,fun w=>by go_simp⟩
theorem lI {b q:Nat} {x:Int} {w:World} (hp:w.cell? ⟨b,q,none⟩=some (.int .i64 x)):(Instr.loadAt 3 (.pointer (some ⟨b,q,none⟩))).run Tryz.prog w= .ok (.int .i64 x) w:=by go_simp
theorem lU {b q:Nat} {x:Int} {w:World} (hp:w.cell? ⟨b,q,none⟩=some (.int .u32 x)):(Instr.loadAt 29 (.pointer (some ⟨b,q,none⟩))).run Tryz.prog w= .ok (.int .u32 x) w:=by go_simp
theorem kN {α:Type} {c:Nat} (x:α×Lk) (g:Gw c s x.2):∃p,x=p∧Hid (Gw c s p.2):=⟨x,rfl,g⟩
theorem ni {c:Nat} (x:Lk) (g:Gw c s x):∃p,x=p∧Hid (Gw c s p):=⟨x,rfl,g⟩
theorem qm (a:LM K s w) (cs:Array Value) (t:TypeId):Hid (LM K s (w.alloc (.cells cs t)))∧Hid (Bx K w.heap.size cs (w.alloc (.cells cs t)))∧Hid (UW K w (w.alloc (.cells cs t))):=⟨a.alloc _,Bx.new a cs t,UW.alloc a.l _⟩
theorem iM:(Tryz.prog.info? 74).map (·.size)=some 5:=by kernel_rfl
theorem RS.all {v0 v1 v2 v3 v4:Value} (r:RS K s bx #[v0,v1,v2,v3,v4] w) (l:K.h<w.heap.size):w.cell? ⟨bx,0,none⟩=some v0∧w.cell? ⟨bx,1,none⟩=some v1∧w.cell? ⟨bx,2,none⟩=some v2∧w.cell? ⟨bx,3,none⟩=some v3∧w.cell? ⟨bx,4,none⟩=some v4∧bx<w.heap.size∧
  w.cell? ⟨K.h,4,none⟩=some (.int .u32 s.pc)∧w.cell? ⟨K.h,5,none⟩=some (.int .u32 s.nx)∧w.cell? ⟨K.h,1,none⟩=some (.int .i64 s.aj)∧K.h<w.heap.size:=
 ⟨r.b.c 0 _ rfl,r.b.c 1 _ rfl,r.b.c 2 _ rfl,r.b.c 3 _ rfl,r.b.c 4 _ rfl,r.b.l,r.p,r.x,r.n,l⟩
theorem bW {c:Nat} {v0 v1 v2 v3 v4:Value} (b:Hid (Bx K bx #[v0,v1,v2,v3,v4] w)) (u:UW K w w') (a:LM K s' w') (g:Hid (Gw c s s')):Hid (UW K w w')∧Hid (Bx K bx #[v0,v1,v2,v3,v4] w')∧Hid (LM K s' w')∧RS K s bx #[v0,v1,v2,v3,v4] w'∧
  w'.cell? ⟨bx,0,none⟩=some v0∧w'.cell? ⟨bx,1,none⟩=some v1∧w'.cell? ⟨bx,2,none⟩=some v2∧w'.cell? ⟨bx,3,none⟩=some v3∧w'.cell? ⟨bx,4,none⟩=some v4∧bx<w'.heap.size∧
  w'.cell? ⟨K.h,4,none⟩=some (.int .u32 s.pc)∧w'.cell? ⟨K.h,5,none⟩=some (.int .u32 s.nx)∧w'.cell? ⟨K.h,1,none⟩=some (.int .i64 s.aj)∧K.h<w'.heap.size:=
 ⟨u,b.out.uw u,a,RS.of (b.out.uw u) a g.out,(RS.of (b.out.uw u) a g.out).all a.l⟩
open Ot (fC OB)
variable {K:Kc} {s:Lk} {W W':World} {B:Nat}
theorem uX (s:Lk) (o:Int) (d r:Nat) (m:Int):Gw 20 s (s.both o d r m):=by
 unfold Lk.both
 dsimp only
 have h:=((kE s r m).trans (bG _ d)).trans (jV _ 4 (s.ig r m).1)
 split
 ·exact((h.trans (iU _ _ _ _)).trans (bM _ _ _)).mono (by decide)
 ·split
  ·exact((((h.trans (jZ _ _ _ _)).trans (iU _ _ _ _)).trans (bM _ _ _)).trans (fZ _ _ _ _ _)).mono (by decide)
  ·exact((((((h.trans (bG _ _)).trans (jZ _ _ _ _)).trans (aaS _ _ _ _)).trans (iU _ _ _ _)).trans (bM _ _ _)).trans (fZ _ _ _ _ _)).mono (by decide)
theorem RI (d r:Nat) (f m:Int) (hd:d<8) (hr:r<8) (w:World) (a:LM K s w) (hc:1≤s.aj∧s.aj≤64) (hn:s.ops.length+60<1000000000):
  Calls Tryz.prog 129 #[.pointer (some ⟨K.h,0,none⟩), .agg #[.int .i64 24, .int .i64 d, .int .i64 r, .int .i64 f, .int .u32 m]] w fun e w'=>e= .returned (.tuple #[])∧LM K (s.both 24 d r m) w'∧UW K w w':=by
 have HN:=κ hn
 have HC:=κ hc
 have HR:=κ hr
 have HD:=κ hd
 obtain⟨p1,bP,G1⟩:=kN _ (kE s r m)
 obtain⟨p2,dM,G2⟩:=kN _ (G1.out.trans (bG p1.2 d))
 obtain⟨p3,je,G3⟩:=kN _ (G2.out.trans (jV p2.2 4 p1.1))
 obtain⟨p4,pJ,G4⟩:=ni _ (G3.out.trans (iU p3.2 2 p1.1 p2.1))
 obtain⟨p5,uM,G5⟩:=ni _ (G4.out.trans (bM p4 d p3.1))
 have E:s.both 24 d r m=p5:=by
  unfold Lk.both
  rw [if_pos (by decide)]
  simp only [bP,dM,je,pJ,uM]
 rw [E]
 clear E
 obtain⟨A0,B0,U0⟩:=qm a #[.int .i64 24, .int .i64 d, .int .i64 r, .int .i64 f, .int .u32 m] 74
 have uI:=Tryz.underlying74
 have iI:=iM
 clear a hn hc hd hr
 go_enter Tryz.func129,Tryz.ntmps129
 go_upto_region 1 with fail
 generalize w.alloc (.cells #[.int .i64 24, .int .i64 d, .int .i64 r, .int .i64 f, .int .u32 m] 74)=w0 at*
 generalize w.heap.size=bx at*
 have R0:=κ (RS.of B0.out A0.out (Gw.refl s))
 obtain⟨_,_,_,_,_,_,_,_,_,_⟩:=R0.out.all A0.out.l
 have P1:=oG (K:=K) 24 d f m r HR.out w0.drew (A0.out.drew) (by have:=HN.out;omega)
 rw [bP] at P1
 have P1:=κ P1
 go_wp2
 refine wp_region_held_drew (S:=RS K s bx #[.int .i64 24, .int .i64 d, .int .i64 r, .int .i64 f, .int .u32 m]) (by kernel_rfl) (R0.out).drew (fun hHeld=> ?_)
 refine kM 0 8 (.pointer (some ⟨K.h,0,none⟩)) rfl rfl rfl rfl (by rfl) (by kernel_rfl) kD hHeld ?_
 try simp only [Act.put,aA,aB,aC]
 refine kY 1 9 (.agg #[.int .i64 24, .int .i64 d, .int .i64 r, .int .i64 f, .int .u32 m]) rfl rfl (by kernel_rfl) kD (yieldsIf_load_mid (by rfl) _ _ rfl _ _ rfl _ _ (fun w h=>h.b.Y6) uI rfl iI) hHeld ?_
 try simp only [Act.put,aA,aB,aC]
 refine kM 3 11 (.pointer (some ⟨K.h,0,none⟩)) rfl rfl rfl rfl (by rfl) (by kernel_rfl) kD hHeld ?_
 try simp only [Act.put,aA,aB,aC]
 refine kF 4 12 (fI _ 1 (by decide)) rfl rfl rfl rfl (by rfl) (by kernel_rfl) kD hHeld ?_
 try simp only [Act.put,aA,aB,aC]
 refine kL 5 13 (fun _ h=>lI (h.b.c 1 _ rfl)) rfl rfl rfl rfl (by rfl) (by kernel_rfl) kD hHeld ?_
 try simp only [Act.put,aA,aB,aC]
 refine kR 2 (by kernel_rfl) rfl fun KK bF=> ?_
 go_simp
 go_wp2_with (go_at_call 124;refine P1.out.mono ?_;rintro e w1 ⟨rfl,A1,U1⟩)
 obtain⟨V1,B1,M1,R1,_,_,_,_,_,_,_,_,_,_⟩:=bW B0 ((UW.drew (K:=K) (W:=w0) A0.out.l).trans U1) A1 G1
 have P2:=bU (K:=K) d HD.out w1 (A1) (by have:=G1.out.n;have:=HN.out;omega)
 rw [dM] at P2
 have P2:=κ P2
 clear A1 U1 P1
 clear hHeld
 refine bF.out _ _ R1 (fun hHeld=> ?_)
 clear bF KK
 try simp only [Act.put,aA,aB,aC]
 refine kR 6 (by kernel_rfl) rfl fun KK bF=> ?_
 go_simp
 go_wp2_with (go_at_call 118;refine P2.out.mono ?_;rintro e w2 ⟨rfl,A1,U1⟩)
 obtain⟨V2,B2,M2,R2,_,_,_,_,_,_,_,_,_,_⟩:=bW B1 (U1) A1 G2
 have P3:=kW (K:=K) 4 p1.1 w2 (A1) (by rw [G2.out.aj];exact HC.out) (by have:=G2.out.n;have:=HN.out;omega)
 rw [je] at P3
 have P3:=κ P3
 clear A1 U1 P2
 clear hHeld
 refine bF.out _ _ R2 (fun hHeld=> ?_)
 clear bF KK
 try simp only [Act.put,aA,aB,aC]
 refine kY 7 4 (.int .i64 p1.1) rfl rfl (by kernel_rfl) kD (Kt.qN (by rfl) _ rfl _ rfl) hHeld ?_
 try simp only [Act.put,aA,aB,aC]
 refine kY 8 5 (.int .i64 p2.1) rfl rfl (by kernel_rfl) kD (Kt.qN (by rfl) _ rfl _ rfl) hHeld ?_
 try simp only [Act.put,aA,aB,aC]
 refine wpAnyH_done (by kernel_rfl) ?_ _
 go_wp2_with (first
  | (go_at_call 126;refine P3.out.mono ?_;rintro e w3 ⟨rfl,A1,U1⟩;obtain⟨V3,B3,M3,R3,_,_,_,_,_,_,_,_,_,_⟩:=bW B2 (U1) A1 G3;have P4:=kP (K:=K) 2 p1.1 p2.1 w3 (A1) (by rw [G3.out.aj];exact HC.out) (by have:=G3.out.n;have:=HN.out;omega);rw [pJ] at P4;have P4:=κ P4;clear A1 U1 P3)
  | (go_at_call 127;refine P4.out.mono ?_;rintro e w4 ⟨rfl,A1,U1⟩;obtain⟨V4,B4,M4,R4,_,_,_,_,_,_,_,_,_,_⟩:=bW B3 (U1) A1 G4;have P5:=dA (K:=K) d p3.1 HD.out w4 (A1) (by have:=G4.out.n;have:=HN.out;omega);rw [uM] at P5;have P5:=κ P5;clear A1 U1 P4)
  | (go_at_call 116;refine P5.out.mono ?_;rintro e w5 ⟨rfl,A1,U1⟩;obtain⟨V5,B5,M5,R5,_,_,_,_,_,_,_,_,_,_⟩:=bW B4 (U1) A1 G5;clear A1 U1 P5))
 go_end0
 exact⟨rfl,M5.out,(((((U0.out.trans V1.out).trans V2.out).trans V3.out).trans V4.out).trans V5.out)⟩
theorem RJ (d r:Nat) (f m:Int) (hd:d<8) (hr:r<8) (w:World) (a:LM K s w) (hc:1≤s.aj∧s.aj≤64) (hn:s.ops.length+60<1000000000):
  Calls Tryz.prog 129 #[.pointer (some ⟨K.h,0,none⟩), .agg #[.int .i64 25, .int .i64 d, .int .i64 r, .int .i64 f, .int .u32 m]] w fun e w'=>e= .returned (.tuple #[])∧LM K (s.both 25 d r m) w'∧UW K w w':=by
 have HN:=κ hn
 have HC:=κ hc
 have HR:=κ hr
 have HD:=κ hd
 obtain⟨p1,bP,G1⟩:=kN _ (kE s r m)
 obtain⟨p2,dM,G2⟩:=kN _ (G1.out.trans (bG p1.2 d))
 obtain⟨p3,je,G3⟩:=kN _ (G2.out.trans (jV p2.2 4 p1.1))
 obtain⟨p4,pJ,G4⟩:=kN _ (G3.out.trans (jZ p3.2 0 p3.1 p2.1))
 obtain⟨p5,uM,G5⟩:=ni _ (G4.out.trans (iU p4.2 2 p1.1 p4.1))
 obtain⟨p6,Ii,G6⟩:=ni _ (G5.out.trans (bM p5 d p3.1))
 obtain⟨p7,Ij,G7⟩:=ni _ (G6.out.trans (fZ p6 1 p3.1 p2.1 (-1)))
 have E:s.both 25 d r m=p7:=by
  unfold Lk.both
  rw [if_neg (by decide),if_pos (by decide)]
  simp only [bP,dM,je,pJ,uM,Ii,Ij]
 rw [E]
 clear E
 obtain⟨A0,B0,U0⟩:=qm a #[.int .i64 25, .int .i64 d, .int .i64 r, .int .i64 f, .int .u32 m] 74
 have uI:=Tryz.underlying74
 have iI:=iM
 clear a hn hc hd hr
 go_enter Tryz.func129,Tryz.ntmps129
 go_upto_region 1 with fail
 generalize w.alloc (.cells #[.int .i64 25, .int .i64 d, .int .i64 r, .int .i64 f, .int .u32 m] 74)=w0 at*
 generalize w.heap.size=bx at*
 have R0:=κ (RS.of B0.out A0.out (Gw.refl s))
 obtain⟨_,_,_,_,_,_,_,_,_,_⟩:=R0.out.all A0.out.l
 have P1:=oG (K:=K) 25 d f m r HR.out w0.drew (A0.out.drew) (by have:=HN.out;omega)
 rw [bP] at P1
 have P1:=κ P1
 go_wp2
 refine wp_region_held_drew (S:=RS K s bx #[.int .i64 25, .int .i64 d, .int .i64 r, .int .i64 f, .int .u32 m]) (by kernel_rfl) (R0.out).drew (fun hHeld=> ?_)
 refine kM 0 8 (.pointer (some ⟨K.h,0,none⟩)) rfl rfl rfl rfl (by rfl) (by kernel_rfl) kD hHeld ?_
 try simp only [Act.put,aA,aB,aC]
 refine kY 1 9 (.agg #[.int .i64 25, .int .i64 d, .int .i64 r, .int .i64 f, .int .u32 m]) rfl rfl (by kernel_rfl) kD (yieldsIf_load_mid (by rfl) _ _ rfl _ _ rfl _ _ (fun w h=>h.b.Y6) uI rfl iI) hHeld ?_
 try simp only [Act.put,aA,aB,aC]
 refine kM 3 11 (.pointer (some ⟨K.h,0,none⟩)) rfl rfl rfl rfl (by rfl) (by kernel_rfl) kD hHeld ?_
 try simp only [Act.put,aA,aB,aC]
 refine kF 4 12 (fI _ 1 (by decide)) rfl rfl rfl rfl (by rfl) (by kernel_rfl) kD hHeld ?_
 try simp only [Act.put,aA,aB,aC]
 refine kL 5 13 (fun _ h=>lI (h.b.c 1 _ rfl)) rfl rfl rfl rfl (by rfl) (by kernel_rfl) kD hHeld ?_
 try simp only [Act.put,aA,aB,aC]
 refine kR 2 (by kernel_rfl) rfl fun KK bF=> ?_
 go_simp
 go_wp2_with (go_at_call 124;refine P1.out.mono ?_;rintro e w1 ⟨rfl,A1,U1⟩)
 obtain⟨V1,B1,M1,R1,_,_,_,_,_,_,_,_,_,_⟩:=bW B0 ((UW.drew (K:=K) (W:=w0) A0.out.l).trans U1) A1 G1
 have P2:=bU (K:=K) d HD.out w1 (A1) (by have:=G1.out.n;have:=HN.out;omega)
 rw [dM] at P2
 have P2:=κ P2
 clear A1 U1 P1
 clear hHeld
 refine bF.out _ _ R1 (fun hHeld=> ?_)
 clear bF KK
 try simp only [Act.put,aA,aB,aC]
 refine kR 6 (by kernel_rfl) rfl fun KK bF=> ?_
 go_simp
 go_wp2_with (go_at_call 118;refine P2.out.mono ?_;rintro e w2 ⟨rfl,A1,U1⟩)
 obtain⟨V2,B2,M2,R2,_,_,_,_,_,_,_,_,_,_⟩:=bW B1 (U1) A1 G2
 have P3:=kW (K:=K) 4 p1.1 w2 (A1) (by rw [G2.out.aj];exact HC.out) (by have:=G2.out.n;have:=HN.out;omega)
 rw [je] at P3
 have P3:=κ P3
 clear A1 U1 P2
 clear hHeld
 refine bF.out _ _ R2 (fun hHeld=> ?_)
 clear bF KK
 try simp only [Act.put,aA,aB,aC]
 refine kY 7 4 (.int .i64 p1.1) rfl rfl (by kernel_rfl) kD (Kt.qN (by rfl) _ rfl _ rfl) hHeld ?_
 try simp only [Act.put,aA,aB,aC]
 refine kY 8 5 (.int .i64 p2.1) rfl rfl (by kernel_rfl) kD (Kt.qN (by rfl) _ rfl _ rfl) hHeld ?_
 try simp only [Act.put,aA,aB,aC]
 refine wpAnyH_done (by kernel_rfl) ?_ _
 go_wp2_with (first
  | (go_at_call 126;refine P3.out.mono ?_;rintro e w3 ⟨rfl,A1,U1⟩;obtain⟨V3,B3,M3,R3,_,_,_,_,_,_,_,_,_,_⟩:=bW B2 (U1) A1 G3;have P4:=dQ (K:=K) 0 p3.1 p2.1 w3 (A1) (by have:=G3.out.n;have:=HN.out;omega);rw [pJ] at P4;have P4:=κ P4;clear A1 U1 P3)
  | (go_at_call 135;refine P4.out.mono ?_;rintro e w4 ⟨rfl,A1,U1⟩;obtain⟨V4,B4,M4,R4,_,_,_,_,_,_,_,_,_,_⟩:=bW B3 (U1) A1 G4;have P5:=kP (K:=K) 2 p1.1 p4.1 w4 (A1) (by rw [G4.out.aj];exact HC.out) (by have:=G4.out.n;have:=HN.out;omega);rw [uM] at P5;have P5:=κ P5;clear A1 U1 P4)
  | (go_at_call 127;refine P5.out.mono ?_;rintro e w5 ⟨rfl,A1,U1⟩;obtain⟨V5,B5,M5,R5,_,_,_,_,_,_,_,_,_,_⟩:=bW B4 (U1) A1 G5;have P6:=dA (K:=K) d p3.1 HD.out w5 (A1) (by have:=G5.out.n;have:=HN.out;omega);rw [Ii] at P6;have P6:=κ P6;clear A1 U1 P5)
  | (go_at_call 116;refine P6.out.mono ?_;rintro e w6 ⟨rfl,A1,U1⟩;obtain⟨V6,B6,M6,R6,_,_,_,_,_,_,_,_,_,_⟩:=bW B5 (U1) A1 G6;have P7:=dX (K:=K) false 1 p3.1 p2.1 (-1) w6 (A1) (by have:=G6.out.n;have:=HN.out;omega);rw [Ij] at P7;have P7:=κ P7;clear A1 U1 P6)
  | (go_at_call 121;refine P7.out.mono ?_;rintro e w7 ⟨rfl,A1,U1⟩;obtain⟨V7,B7,M7,R7,_,_,_,_,_,_,_,_,_,_⟩:=bW B6 (U1) A1 G7;clear A1 U1 P7))
 go_end0
 exact⟨rfl,M7.out,(((((((U0.out.trans V1.out).trans V2.out).trans V3.out).trans V4.out).trans V5.out).trans V6.out).trans V7.out)⟩
theorem RN (d r:Nat) (f m:Int) (hd:d<8) (hr:r<8) (w:World) (a:LM K s w) (hc:1≤s.aj∧s.aj≤64) (hn:s.ops.length+60<1000000000):
  Calls Tryz.prog 129 #[.pointer (some ⟨K.h,0,none⟩), .agg #[.int .i64 26, .int .i64 d, .int .i64 r, .int .i64 f, .int .u32 m]] w fun e w'=>e= .returned (.tuple #[])∧LM K (s.both 26 d r m) w'∧UW K w w':=by
 have HN:=κ hn
 have HC:=κ hc
 have HR:=κ hr
 have HD:=κ hd
 obtain⟨p1,bP,G1⟩:=kN _ (kE s r m)
 obtain⟨p2,dM,G2⟩:=kN _ (G1.out.trans (bG p1.2 d))
 obtain⟨p3,je,G3⟩:=kN _ (G2.out.trans (jV p2.2 4 p1.1))
 obtain⟨p4,pJ,G4⟩:=kN _ (G3.out.trans (bG p3.2 0))
 obtain⟨p5,uM,G5⟩:=kN _ (G4.out.trans (jZ p4.2 13 p4.1 p3.1))
 obtain⟨p6,Ii,G6⟩:=kN _ (G5.out.trans (aaS p5.2 p5.1 p2.1 p3.1))
 obtain⟨p7,Ij,G7⟩:=ni _ (G6.out.trans (iU p6.2 2 p1.1 p6.1))
 obtain⟨p8,Pn,G8⟩:=ni _ (G7.out.trans (bM p7 0 p3.1))
 obtain⟨p9,Po,G9⟩:=ni _ (G8.out.trans (fZ p8 3 p4.1 p3.1 (-1)))
 have E:s.both 26 d r m=p9:=by
  unfold Lk.both
  rw [if_neg (by decide),if_neg (by decide)]
  simp only [bP,dM,je,pJ,uM,Ii,Ij,Pn,Po]
 rw [E]
 clear E
 obtain⟨A0,B0,U0⟩:=qm a #[.int .i64 26, .int .i64 d, .int .i64 r, .int .i64 f, .int .u32 m] 74
 have uI:=Tryz.underlying74
 have iI:=iM
 clear a hn hc hd hr
 go_enter Tryz.func129,Tryz.ntmps129
 go_upto_region 1 with fail
 generalize w.alloc (.cells #[.int .i64 26, .int .i64 d, .int .i64 r, .int .i64 f, .int .u32 m] 74)=w0 at*
 generalize w.heap.size=bx at*
 have R0:=κ (RS.of B0.out A0.out (Gw.refl s))
 obtain⟨_,_,_,_,_,_,_,_,_,_⟩:=R0.out.all A0.out.l
 have P1:=oG (K:=K) 26 d f m r HR.out w0.drew (A0.out.drew) (by have:=HN.out;omega)
 rw [bP] at P1
 have P1:=κ P1
 go_wp2
 refine wp_region_held_drew (S:=RS K s bx #[.int .i64 26, .int .i64 d, .int .i64 r, .int .i64 f, .int .u32 m]) (by kernel_rfl) (R0.out).drew (fun hHeld=> ?_)
 refine kM 0 8 (.pointer (some ⟨K.h,0,none⟩)) rfl rfl rfl rfl (by rfl) (by kernel_rfl) kD hHeld ?_
 try simp only [Act.put,aA,aB,aC]
 refine kY 1 9 (.agg #[.int .i64 26, .int .i64 d, .int .i64 r, .int .i64 f, .int .u32 m]) rfl rfl (by kernel_rfl) kD (yieldsIf_load_mid (by rfl) _ _ rfl _ _ rfl _ _ (fun w h=>h.b.Y6) uI rfl iI) hHeld ?_
 try simp only [Act.put,aA,aB,aC]
 refine kM 3 11 (.pointer (some ⟨K.h,0,none⟩)) rfl rfl rfl rfl (by rfl) (by kernel_rfl) kD hHeld ?_
 try simp only [Act.put,aA,aB,aC]
 refine kF 4 12 (fI _ 1 (by decide)) rfl rfl rfl rfl (by rfl) (by kernel_rfl) kD hHeld ?_
 try simp only [Act.put,aA,aB,aC]
 refine kL 5 13 (fun _ h=>lI (h.b.c 1 _ rfl)) rfl rfl rfl rfl (by rfl) (by kernel_rfl) kD hHeld ?_
 try simp only [Act.put,aA,aB,aC]
 refine kR 2 (by kernel_rfl) rfl fun KK bF=> ?_
 go_simp
 go_wp2_with (go_at_call 124;refine P1.out.mono ?_;rintro e w1 ⟨rfl,A1,U1⟩)
 obtain⟨V1,B1,M1,R1,_,_,_,_,_,_,_,_,_,_⟩:=bW B0 ((UW.drew (K:=K) (W:=w0) A0.out.l).trans U1) A1 G1
 have P2:=bU (K:=K) d HD.out w1 (A1) (by have:=G1.out.n;have:=HN.out;omega)
 rw [dM] at P2
 have P2:=κ P2
 clear A1 U1 P1
 clear hHeld
 refine bF.out _ _ R1 (fun hHeld=> ?_)
 clear bF KK
 try simp only [Act.put,aA,aB,aC]
 refine kR 6 (by kernel_rfl) rfl fun KK bF=> ?_
 go_simp
 go_wp2_with (go_at_call 118;refine P2.out.mono ?_;rintro e w2 ⟨rfl,A1,U1⟩)
 obtain⟨V2,B2,M2,R2,_,_,_,_,_,_,_,_,_,_⟩:=bW B1 (U1) A1 G2
 have P3:=kW (K:=K) 4 p1.1 w2 (A1) (by rw [G2.out.aj];exact HC.out) (by have:=G2.out.n;have:=HN.out;omega)
 rw [je] at P3
 have P3:=κ P3
 clear A1 U1 P2
 clear hHeld
 refine bF.out _ _ R2 (fun hHeld=> ?_)
 clear bF KK
 try simp only [Act.put,aA,aB,aC]
 refine kY 7 4 (.int .i64 p1.1) rfl rfl (by kernel_rfl) kD (Kt.qN (by rfl) _ rfl _ rfl) hHeld ?_
 try simp only [Act.put,aA,aB,aC]
 refine kY 8 5 (.int .i64 p2.1) rfl rfl (by kernel_rfl) kD (Kt.qN (by rfl) _ rfl _ rfl) hHeld ?_
 try simp only [Act.put,aA,aB,aC]
 refine wpAnyH_done (by kernel_rfl) ?_ _
 go_wp2_with (first
  | (go_at_call 126;refine P3.out.mono ?_;rintro e w3 ⟨rfl,A1,U1⟩;obtain⟨V3,B3,M3,R3,_,_,_,_,_,_,_,_,_,_⟩:=bW B2 (U1) A1 G3;have P4:=bU (K:=K) 0 (by decide) w3 (A1) (by have:=G3.out.n;have:=HN.out;omega);rw [pJ] at P4;have P4:=κ P4;clear A1 U1 P3)
  | (go_at_call 118;refine P4.out.mono ?_;rintro e w4 ⟨rfl,A1,U1⟩;obtain⟨V4,B4,M4,R4,_,_,_,_,_,_,_,_,_,_⟩:=bW B3 (U1) A1 G4;have P5:=dQ (K:=K) 13 p4.1 p3.1 w4 (A1) (by have:=G4.out.n;have:=HN.out;omega);rw [uM] at P5;have P5:=κ P5;clear A1 U1 P4)
  | (go_at_call 135;refine P5.out.mono ?_;rintro e w5 ⟨rfl,A1,U1⟩;obtain⟨V5,B5,M5,R5,_,_,_,_,_,_,_,_,_,_⟩:=bW B4 (U1) A1 G5;have P6:=Ry (K:=K) p5.1 p2.1 p3.1 w5 (A1) (by have:=G5.out.n;have:=HN.out;omega);rw [Ii] at P6;have P6:=κ P6;clear A1 U1 P5)
  | (go_at_call 186;refine P6.out.mono ?_;rintro e w6 ⟨rfl,A1,U1⟩;obtain⟨V6,B6,M6,R6,_,_,_,_,_,_,_,_,_,_⟩:=bW B5 (U1) A1 G6;have P7:=kP (K:=K) 2 p1.1 p6.1 w6 (A1) (by rw [G6.out.aj];exact HC.out) (by have:=G6.out.n;have:=HN.out;omega);rw [Ij] at P7;have P7:=κ P7;clear A1 U1 P6)
  | (go_at_call 127;refine P7.out.mono ?_;rintro e w7 ⟨rfl,A1,U1⟩;obtain⟨V7,B7,M7,R7,_,_,_,_,_,_,_,_,_,_⟩:=bW B6 (U1) A1 G7;have P8:=dA (K:=K) 0 p3.1 (by decide) w7 (A1) (by have:=G7.out.n;have:=HN.out;omega);rw [Pn] at P8;have P8:=κ P8;clear A1 U1 P7)
  | (go_at_call 116;refine P8.out.mono ?_;rintro e w8 ⟨rfl,A1,U1⟩;obtain⟨V8,B8,M8,R8,_,_,_,_,_,_,_,_,_,_⟩:=bW B7 (U1) A1 G8;have P9:=dX (K:=K) false 3 p4.1 p3.1 (-1) w8 (A1) (by have:=G8.out.n;have:=HN.out;omega);rw [Po] at P9;have P9:=κ P9;clear A1 U1 P8)
  | (go_at_call 121;refine P9.out.mono ?_;rintro e w9 ⟨rfl,A1,U1⟩;obtain⟨V9,B9,M9,R9,_,_,_,_,_,_,_,_,_,_⟩:=bW B8 (U1) A1 G9;clear A1 U1 P9))
 go_end0
 exact⟨rfl,M9.out,(((((((((U0.out.trans V1.out).trans V2.out).trans V3.out).trans V4.out).trans V5.out).trans V6.out).trans V7.out).trans V8.out).trans V9.out)⟩
end Go.Proofs.YtcjcmnnhmajocabGreat.Lf
