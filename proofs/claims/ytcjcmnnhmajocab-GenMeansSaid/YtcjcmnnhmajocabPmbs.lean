import Derived.Test.YtcjcmnnhmajocabPmbo
import Derived.Test.YtcjcmnnhmajocabPmbp
import Derived.Test.YtcjcmnnhmajocabPmbq
import Derived.Test.YtcjcmnnhmajocabPmbr
set_option linter.unusedVariables false
set_option linter.unusedSimpArgs false
set_option maxRecDepth 100000
set_option maxHeartbeats 16000000
namespace Go.Proofs.Ytcjcmnnhmajocab.Hr
open Go.RowKit Kt Me Fl Ev Ho
variable {h:Nat} {K:Hk} {s:Rm} {B:B4} {P:RP} {M:MM}
theorem Y7 (x:Cd) (ra:Nat) (w:World) (a:RR h K s B w) (m:RM P M w) (hK:K.p=P.q) (hp:∀i,P.has i→i<w.heap.size) (ds:∀i,P.has i→¬B.has h i) (ho:x.op=4) (ha:x.a=ra) (la:ra<16) (hs:Sl K.us K.ao K.cap w) (hw:vY K.us) (qH:∀g,K.ao=some g→0<K.us.length→¬ (B.has h g.block∨P.has g.block)) (ht:Tb K.gJ K.uM K.pF w) (pG:∀g,K.uM=some g→0<K.gJ.length→¬ (B.has h g.block∨P.has g.block)) (vW:K.gJ.length≤1048576) (oz:0≤s.reg ra∧s.reg ra<4294967296):
  Calls Try.prog 67 #[.pointer (some ⟨h,0,none⟩), .agg #[.int .i64 x.op, .int .i64 x.d, .int .i64 x.a, .int .i64 x.b, .int .i64 x.c, .int .i64 x.n, .int .u32 x.k, .int .u32 x.x]] w fun e w'=>e= .returned (yt (wU K s ra x.n))∧RR h K (wu K s ra x.n) B w'∧RM P M w'∧ah (fun i=>B.has h i∨P.has i) w w':=by
 by_cases hz:K.gJ.length=0
 ·exact U7 x ra w a m hK hp ds ho ha la hs hw qH ht pG vW oz hz
 ·have j0:=Int.emod_nonneg (s.reg ra) (show(K.gJ.length:Int)≠0 by omega)
  have j1:=Int.emod_lt_of_pos (s.reg ra) (show(0:Int) <(K.gJ.length:Int) by omega)
  obtain⟨t,CX⟩:∃t,K.gJ[(s.reg ra%(K.gJ.length:Int)).toNat]?=some t:=⟨_,List.getElem?_eq_getElem (by omega)⟩
  by_cases c1:t.1=s.reg ra
  ·by_cases c2:0≤t.2
   ·cases he:zk K.us t.2
    ·exact Pg x ra w a m hK hp ds ho ha la hs hw qH ht pG vW oz hz t CX c1 c2 he
    ·exact Ph x ra w a m hK hp ds ho ha la hs hw qH ht pG vW oz hz t CX c1 c2 he
   ·exact Pe x ra w a m hK hp ds ho ha la hs hw qH ht pG vW oz hz t CX c1 c2
  ·exact O6 x ra w a m hK hp ds ho ha la hs hw qH ht pG vW oz hz t CX c1
variable {h:Nat} {K:Hk} {s:Rm} {B:B4} {P:RP} {M:MM}
def sZ (h:Nat) (K:Hk) (B:B4) (P:RP) (w:World) (q:Option Lf×jw) (e:Ending) (w':World):Prop:=
 ∃B',e= .returned (yt q.1)∧RR h K q.2.s B' w'∧RM P q.2.M w'∧(∀i,B'.has h i→B.has h i∨w.heap.size≤i)∧ah (fun i=>B.has h i∨P.has i) w w'
theorem sZ.of {w w':World} {q:Option Lf×jw} {o:Option Lf} {s':Rm} {M':MM} {e:Ending} (hd:q=(o,⟨s',M'⟩)) (r:e= .returned (yt o)∧RR h K s' B w'∧RM P M' w'∧ah (fun i=>B.has h i∨P.has i) w w'):sZ h K B P w q e w':=by
 subst hd
 exact⟨B,r.1,r.2.1,r.2.2.1,fun _=> .inl,r.2.2.2⟩
theorem Jk (x:Cd) (w:World) (a:RR h K s B w) (m:RM P M w) (hK:K.p=P.q) (hp:∀i,P.has i→i<w.heap.size) (ds:∀i,P.has i→¬B.has h i) (hx:X7 x) (hM:iC M) (hC:∀j,0≤s.c j∧s.c j<4294967296) (hr:Jg s)
  (hs:Sl K.us K.ao K.cap w) (hw:vY K.us) (qH:∀g,K.ao=some g→0<K.us.length→¬ (B.has h g.block∨P.has g.block)) (ht:Tb K.gJ K.uM K.pF w) (pG:∀g,K.uM=some g→0<K.gJ.length→¬ (B.has h g.block∨P.has g.block)) (vW:K.gJ.length≤1048576):
  Calls Try.prog 67 #[.pointer (some ⟨h,0,none⟩), .agg #[.int .i64 x.op, .int .i64 x.d, .int .i64 x.a, .int .i64 x.b, .int .i64 x.c, .int .i64 x.n, .int .u32 x.k, .int .u32 x.x]] w (sZ h K B P w (iE K x ⟨s,M⟩)):=by
 have hq:=hx.q
 have h0:=hx.op
 have ha:x.a=(x.a.toNat:Int):=by have:=hx.a;omega
 have la:x.a.toNat<16:=by have:=hx.a;omega
 have hb:x.b=(x.b.toNat:Int):=by have:=hx.b;omega
 have lb:x.b.toNat<16:=by have:=hx.b;omega
 have hc:x.c=(x.c.toNat:Int):=by have:=hx.c;omega
 have lc:x.c.toNat<16:=by have:=hx.c;omega
 have hd:x.d=(x.d.toNat:Int):=by have:=hx.d;omega
 have ld:x.d.toNat<16:=by have:=hx.d;omega
 have hn:x.n=(x.n.toNat:Int):=by have:=hx.n;omega
 have ln:x.n.toNat<2048:=by have:=hx.n;omega
 have n12:=hx.n12
 have hk:=hx.k
 by_cases c1:x.op=1
 ·refine(Y0 x w a m hK hp ds c1).mono ?_
  rintro e w' ⟨B',r1,r2,r3,r4,r5⟩
  have hd:iE K x ⟨s,M⟩=(jI K M s x,if jI K M s x=none then⟨s.dN,M⟩ else⟨s,M⟩):=by unfold iE oP;rw [if_pos (by omega)]
  rw [hd]
  refine⟨B',r1, ?_, ?_,r4,r5⟩
  ·by_cases he:jI K M s x=none
   ·rw [if_pos he] at r2⊢;exact r2
   ·rw [if_neg he] at r2⊢;exact r2
  ·by_cases he:jI K M s x=none
   ·rw [if_pos he];exact r3
   ·rw [if_neg he];exact r3
 by_cases pW:x.op=10
 ·exact(UH x w a m hK hp ds pW).mono fun e w' r=>sZ.of (by unfold iE oP;rw [if_neg (by omega)];rw [if_pos (by omega)]) r
 by_cases oZ:x.op=11
 ·exact(UJ x _ w a m hK hp ds oZ ha la).mono fun e w' r=>sZ.of (by unfold iE oP;rw [if_neg (by omega)];rw [if_neg (by omega)];rw [if_pos (by omega)]) r
 by_cases c96:x.op=96
 ·exact(UZ x _ w a m hK hp ds c96 ha la hs hw qH hk.1 hk.2).mono fun e w' r=>sZ.of (by unfold iE oP;rw [if_neg (by omega)];rw [if_neg (by omega)];rw [if_neg (by omega)];rw [if_pos (by omega)]) r
 by_cases P9:x.op=14
 ·exact(UK x w a m hK hp ds P9).mono fun e w' r=>sZ.of (by unfold iE oP;rw [if_neg (by omega)];rw [if_neg (by omega)];rw [if_neg (by omega)];rw [if_neg (by omega)];rw [if_pos (by omega)]) r
 by_cases Qa:x.op=15
 ·exact(UQ x w a m hK hp ds Qa hs hw qH hk.1 hk.2).mono fun e w' r=>sZ.of (by unfold iE oP;rw [if_neg (by omega)];rw [if_neg (by omega)];rw [if_neg (by omega)];rw [if_neg (by omega)];rw [if_neg (by omega)];rw [if_pos (by omega)]) r
 by_cases Ce:x.op=12
 ·exact(UN x w a m hK hp ds Ce).mono fun e w' r=>sZ.of (by unfold iE oP;rw [if_neg (by omega)];rw [if_neg (by omega)];rw [if_neg (by omega)];rw [if_neg (by omega)];rw [if_neg (by omega)];rw [if_neg (by omega)];rw [if_pos (by omega)]) r
 by_cases Ci:x.op=13
 ·exact(UO x _ w a m hK hp ds Ci ha la).mono fun e w' r=>sZ.of (by unfold iE oP;rw [if_neg (by omega)];rw [if_neg (by omega)];rw [if_neg (by omega)];rw [if_neg (by omega)];rw [if_neg (by omega)];rw [if_neg (by omega)];rw [if_neg (by omega)];rw [if_pos (by omega)]) r
 by_cases c4:x.op=4
 ·exact(Y7 x _ w a m hK hp ds c4 ha la hs hw qH ht pG vW (hr _)).mono fun e w' r=>sZ.of (by unfold iE oP;rw [if_neg (by omega)];rw [if_neg (by omega)];rw [if_neg (by omega)];rw [if_neg (by omega)];rw [if_neg (by omega)];rw [if_neg (by omega)];rw [if_neg (by omega)];rw [if_neg (by omega)];rw [if_pos (by omega)]) r
 by_cases c2:x.op=2
 ·exact(fU x _ w a m hK hp ds (by omega) (fun w a m hp=>Uy x _ w a m hp ds (by omega) hd ld)).mono fun e w' r=>sZ.of (by unfold iE oP;rw [if_neg (by omega)];rw [if_neg (by omega)];rw [if_neg (by omega)];rw [if_neg (by omega)];rw [if_neg (by omega)];rw [if_neg (by omega)];rw [if_neg (by omega)];rw [if_neg (by omega)];rw [if_neg (by omega)];rw [if_pos (by omega)]) r
 by_cases c3:x.op=3
 ·exact(fU x _ w a m hK hp ds (by omega) (fun w a m hp=>Uz x _ _ w a m hp ds (by omega) hd ha ld la)).mono fun e w' r=>sZ.of (by unfold iE oP;rw [if_neg (by omega)];rw [if_neg (by omega)];rw [if_neg (by omega)];rw [if_neg (by omega)];rw [if_neg (by omega)];rw [if_neg (by omega)];rw [if_neg (by omega)];rw [if_neg (by omega)];rw [if_neg (by omega)];rw [if_neg (by omega)];rw [if_pos (by omega)]) r
 by_cases c6:x.op=6
 ·exact(fU x _ w a m hK hp ds (by omega) (fun w a m hp=>UC x _ _ w a m hp ds (by omega) hd hn ld (by have:=n12 (.inl c6);omega))).mono fun e w' r=>sZ.of (by unfold iE oP;rw [if_neg (by omega)];rw [if_neg (by omega)];rw [if_neg (by omega)];rw [if_neg (by omega)];rw [if_neg (by omega)];rw [if_neg (by omega)];rw [if_neg (by omega)];rw [if_neg (by omega)];rw [if_neg (by omega)];rw [if_neg (by omega)];rw [if_neg (by omega)];rw [if_pos (by omega)]) r
 by_cases c7:x.op=7
 ·exact(fU x _ w a m hK hp ds (by omega) (fun w a m hp=>UD x _ _ w a m hp ds (by omega) ha hn la (by have:=n12 (.inr c7);omega))).mono fun e w' r=>sZ.of (by unfold iE oP;rw [if_neg (by omega)];rw [if_neg (by omega)];rw [if_neg (by omega)];rw [if_neg (by omega)];rw [if_neg (by omega)];rw [if_neg (by omega)];rw [if_neg (by omega)];rw [if_neg (by omega)];rw [if_neg (by omega)];rw [if_neg (by omega)];rw [if_neg (by omega)];rw [if_neg (by omega)];rw [if_pos (by omega)]) r
 by_cases c8:x.op=8
 ·exact(fU x _ w a m hK hp ds (by omega) (fun w a m hp=>UE x _ _ w a m hp ds (by omega) hd hn ld ln)).mono fun e w' r=>sZ.of (by unfold iE oP;rw [if_neg (by omega)];rw [if_neg (by omega)];rw [if_neg (by omega)];rw [if_neg (by omega)];rw [if_neg (by omega)];rw [if_neg (by omega)];rw [if_neg (by omega)];rw [if_neg (by omega)];rw [if_neg (by omega)];rw [if_neg (by omega)];rw [if_neg (by omega)];rw [if_neg (by omega)];rw [if_neg (by omega)];rw [if_pos (by omega)]) r
 by_cases c9:x.op=9
 ·exact(fU x _ w a m hK hp ds (by omega) (fun w a m hp=>UF x _ _ w a m hp ds (by omega) ha hn la ln)).mono fun e w' r=>sZ.of (by unfold iE oP;rw [if_neg (by omega)];rw [if_neg (by omega)];rw [if_neg (by omega)];rw [if_neg (by omega)];rw [if_neg (by omega)];rw [if_neg (by omega)];rw [if_neg (by omega)];rw [if_neg (by omega)];rw [if_neg (by omega)];rw [if_neg (by omega)];rw [if_neg (by omega)];rw [if_neg (by omega)];rw [if_neg (by omega)];rw [if_neg (by omega)];rw [if_pos (by omega)]) r
 by_cases c97:x.op=97
 ·exact(fU x _ w a m hK hp ds (by omega) (fun w a m hp=>OY x _ w a m hp ds (by omega) hd ld hC)).mono fun e w' r=>sZ.of (by unfold iE oP;rw [if_neg (by omega)];rw [if_neg (by omega)];rw [if_neg (by omega)];rw [if_neg (by omega)];rw [if_neg (by omega)];rw [if_neg (by omega)];rw [if_neg (by omega)];rw [if_neg (by omega)];rw [if_neg (by omega)];rw [if_neg (by omega)];rw [if_neg (by omega)];rw [if_neg (by omega)];rw [if_neg (by omega)];rw [if_neg (by omega)];rw [if_neg (by omega)];rw [if_pos (by omega)]) r
 by_cases ae8:5≤x.op∧x.op<6
 ·exact(fU x _ w a m hK hp ds (by omega) (fun w a m hp=>Ji x _ _ _ _ w a m hp ds ae8 ha hb hc hd la lb lc ld hr)).mono fun e w' r=>sZ.of (by unfold iE oP;rw [if_neg (by omega)];rw [if_neg (by omega)];rw [if_neg (by omega)];rw [if_neg (by omega)];rw [if_neg (by omega)];rw [if_neg (by omega)];rw [if_neg (by omega)];rw [if_neg (by omega)];rw [if_neg (by omega)];rw [if_neg (by omega)];rw [if_neg (by omega)];rw [if_neg (by omega)];rw [if_neg (by omega)];rw [if_neg (by omega)];rw [if_neg (by omega)];rw [if_neg (by omega)];rw [if_pos (by omega)]) r
 by_cases ae9:16≤x.op∧x.op<32
 ·exact(fU x _ w a m hK hp ds (by omega) (fun w a m hp=>Jj x _ _ _ _ w a m hp ds ae9 ha hb hc hd la lb lc ld hr)).mono fun e w' r=>sZ.of (by unfold iE oP;rw [if_neg (by omega)];rw [if_neg (by omega)];rw [if_neg (by omega)];rw [if_neg (by omega)];rw [if_neg (by omega)];rw [if_neg (by omega)];rw [if_neg (by omega)];rw [if_neg (by omega)];rw [if_neg (by omega)];rw [if_neg (by omega)];rw [if_neg (by omega)];rw [if_neg (by omega)];rw [if_neg (by omega)];rw [if_neg (by omega)];rw [if_neg (by omega)];rw [if_neg (by omega)];rw [if_neg (by omega)];rw [if_pos (by omega)]) r
 by_cases cun:32≤x.op∧x.op<39
 ·exact(fU x _ w a m hK hp ds (by omega) (fun w a m hp=>OZ x _ _ _ _ w a m hp ds cun ha hb hc hd la lb lc ld hr)).mono fun e w' r=>sZ.of (by unfold iE oP;rw [if_neg (by omega)];rw [if_neg (by omega)];rw [if_neg (by omega)];rw [if_neg (by omega)];rw [if_neg (by omega)];rw [if_neg (by omega)];rw [if_neg (by omega)];rw [if_neg (by omega)];rw [if_neg (by omega)];rw [if_neg (by omega)];rw [if_neg (by omega)];rw [if_neg (by omega)];rw [if_neg (by omega)];rw [if_neg (by omega)];rw [if_neg (by omega)];rw [if_neg (by omega)];rw [if_neg (by omega)];rw [if_neg (by omega)];rw [if_pos (by omega)]) r
 by_cases Y8:48≤x.op∧x.op<61
 ·exact(fU x _ w a m hK hp ds (by omega) (fun w a m hp=>BN x _ _ _ _ w a m hp ds Y8 ha hb hc hd la lb lc ld hr)).mono fun e w' r=>sZ.of (by unfold iE oP;rw [if_neg (by omega)];rw [if_neg (by omega)];rw [if_neg (by omega)];rw [if_neg (by omega)];rw [if_neg (by omega)];rw [if_neg (by omega)];rw [if_neg (by omega)];rw [if_neg (by omega)];rw [if_neg (by omega)];rw [if_neg (by omega)];rw [if_neg (by omega)];rw [if_neg (by omega)];rw [if_neg (by omega)];rw [if_neg (by omega)];rw [if_neg (by omega)];rw [if_neg (by omega)];rw [if_neg (by omega)];rw [if_neg (by omega)];rw [if_neg (by omega)];rw [if_pos (by omega)]) r
 by_cases ab2:64≤x.op∧x.op<80
 ·exact(fU x _ w a m hK hp ds (by omega) (fun w a m hp=>EK x _ _ _ _ w a m hp ds ab2 ha hb hc hd la lb lc ld hr)).mono fun e w' r=>sZ.of (by unfold iE oP;rw [if_neg (by omega)];rw [if_neg (by omega)];rw [if_neg (by omega)];rw [if_neg (by omega)];rw [if_neg (by omega)];rw [if_neg (by omega)];rw [if_neg (by omega)];rw [if_neg (by omega)];rw [if_neg (by omega)];rw [if_neg (by omega)];rw [if_neg (by omega)];rw [if_neg (by omega)];rw [if_neg (by omega)];rw [if_neg (by omega)];rw [if_neg (by omega)];rw [if_neg (by omega)];rw [if_neg (by omega)];rw [if_neg (by omega)];rw [if_neg (by omega)];rw [if_neg (by omega)];rw [if_pos (by omega)]) r
 by_cases cld:80≤x.op∧x.op<85
 ·exact(wB x _ _ _ _ w a m hK hp ds (by omega) (fun w a m hp=>Uw x _ _ w a m hK hp ds hM cld ha hd la ld (hr _))).mono fun e w' r=>sZ.of (by unfold iE oP;rw [if_neg (by omega)];rw [if_neg (by omega)];rw [if_neg (by omega)];rw [if_neg (by omega)];rw [if_neg (by omega)];rw [if_neg (by omega)];rw [if_neg (by omega)];rw [if_neg (by omega)];rw [if_neg (by omega)];rw [if_neg (by omega)];rw [if_neg (by omega)];rw [if_neg (by omega)];rw [if_neg (by omega)];rw [if_neg (by omega)];rw [if_neg (by omega)];rw [if_neg (by omega)];rw [if_neg (by omega)];rw [if_neg (by omega)];rw [if_neg (by omega)];rw [if_neg (by omega)];rw [if_neg (by omega)];rw [if_pos (by omega)];rfl) r
 by_cases wW:88≤x.op∧x.op<91
 ·cases gZ:((s.aA x.a.toNat).aA x.d.toNat).stuck
  ·refine(wB x _ _ _ _ w a m hK hp ds (by omega) (fun w a m hp=>OX x _ _ w a m hK hp ds hM wW ha hd la ld hr gZ)).mono fun e w' r=>sZ.of ?_ r
   unfold iE oP;rw [if_neg (by omega)];rw [if_neg (by omega)];rw [if_neg (by omega)];rw [if_neg (by omega)];rw [if_neg (by omega)];rw [if_neg (by omega)];rw [if_neg (by omega)];rw [if_neg (by omega)];rw [if_neg (by omega)];rw [if_neg (by omega)];rw [if_neg (by omega)];rw [if_neg (by omega)];rw [if_neg (by omega)];rw [if_neg (by omega)];rw [if_neg (by omega)];rw [if_neg (by omega)];rw [if_neg (by omega)];rw [if_neg (by omega)];rw [if_neg (by omega)];rw [if_neg (by omega)];rw [if_neg (by omega)];rw [if_neg (by omega)];skip
   dsimp only
   rw [gZ]
   rfl
  ·refine(wB x _ _ _ _ w a m hK hp ds (by omega) (fun w a m hp=>OT x _ _ w a m hK hp ds hM wW ha hd la ld hr gZ)).mono fun e w' r=>sZ.of ?_ r
   unfold iE oP;rw [if_neg (by omega)];rw [if_neg (by omega)];rw [if_neg (by omega)];rw [if_neg (by omega)];rw [if_neg (by omega)];rw [if_neg (by omega)];rw [if_neg (by omega)];rw [if_neg (by omega)];rw [if_neg (by omega)];rw [if_neg (by omega)];rw [if_neg (by omega)];rw [if_neg (by omega)];rw [if_neg (by omega)];rw [if_neg (by omega)];rw [if_neg (by omega)];rw [if_neg (by omega)];rw [if_neg (by omega)];rw [if_neg (by omega)];rw [if_neg (by omega)];rw [if_neg (by omega)];rw [if_neg (by omega)];rw [if_neg (by omega)];skip
   dsimp only
   rw [gZ]
   rfl
 exfalso
 apply hq
 unfold aF
 rw [if_neg (by omega),if_neg (by omega),if_neg (by omega),if_neg (by omega),if_neg (by omega),if_neg (by omega)]
 unfold FI
 repeat(first | rw [if_neg (by omega)] | rfl | (split<;>omega))
end Go.Proofs.Ytcjcmnnhmajocab.Hr
