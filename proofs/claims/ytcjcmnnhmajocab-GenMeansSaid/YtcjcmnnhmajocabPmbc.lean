import Derived.Test.YtcjcmnnhmajocabPmbb
set_option linter.unusedVariables false
set_option linter.unusedSimpArgs false
set_option maxRecDepth 100000
set_option maxHeartbeats 16000000
namespace Go.Proofs.Ytcjcmnnhmajocab.Gn
open Go.RowKit Kt Ic Hr Ho Me
variable {K:Gk} {g:Gm}
theorem Gi {g:Gm} {r:Nat} (h:g.pin r=true):kU g (r+1)=kU g r:=by rw [kU,if_pos h]
theorem uU {g:Gm} {r:Nat} {n:Int} (h:g.pin r=false) (hn:(if 0≤g.holds r then uF g (g.holds r).toNat else 1073741825)=n) (hf:(kU g r).2<n):kU g (r+1)=((r:Int),n):=by
 rw [kU,hn,if_neg (by simp [h]),if_pos hf]
theorem yP {g:Gm} {r:Nat} {n:Int} (h:g.pin r=false) (hn:(if 0≤g.holds r then uF g (g.holds r).toNat else 1073741825)=n) (hf:¬ (kU g r).2<n):kU g (r+1)=kU g r:=by
 rw [kU,hn,if_neg (by simp [h]),if_neg hf]
theorem Bo (b:Nat) (w:World) (a:GM K g w) (hR:K.R≤16) (hb:(kU g K.R).1=b) (b1:b<16) (hh:∀r,r<16→g.holds r<K.os.length)
  (wS:0≤g.holds b→(g.v (g.holds b).toNat).reg=b) (rV:0≤g.holds b→iw K.os g (g.holds b).toNat=true→0≤g.sp∧g.sp<2048) (hn:(dF g.xs).length≤1000000):
  Calls Try.prog 159 #[.pointer (some ⟨K.h,0,none⟩)] w fun e w'=>e= .returned (.int .i64 b)∧GM K (g.jF K.os K.R) w'∧ah (SG K) w w':=by
 have A:=κ a
 have c5:=a.c5
 have l:=a.l
 have HB:=κ hb
 have HR:=κ hR
 have HH:=κ hh
 have HG:=κ wS
 have HS:=κ rV
 have HN:=κ hn
 have b0':(0:Int)≤(b:Int):=by omega
 have b1':(b:Int) <16:=by omega
 clear a hb wS rV hn hh hR
 generalize ZJ:K.R=R at*
 go_enter Try.func159,Try.ntmps159
 go_wp2
 go_loopg [3,4,13] R (fun k bb ff i wr=>∃j:Nat,k=R-j∧j≤R∧i= .int .i64 j∧bb= .int .i64 (kU g j).1∧ff= .int .i64 (kU g j).2∧w=wr)
 case atStart=>exact⟨0,rfl,Nat.zero_le _,rfl,rfl,rfl,rfl⟩
 case round=>
  obtain⟨j,hk,hj,rfl,rfl,rfl,rfl⟩:=hrel
  by_cases bV:j<R
  ·have oV:(j:Int) <(R:Int):=by omega
   have Ym:j<16:=by have:=HR.out;omega
   have i0:(0:Int)≤(j:Int):=by omega
   have i1:(j:Int) <16:=by omega
   have cp:=A.out.pin j Ym
   have ch:=A.out.uj j Ym
   have h1:=HH.out j Ym
   have HK:=κ hk
   have jg:=κ bV
   clear hk bV
   obtain⟨⟨bb,ff⟩,hp⟩:∃p,kU g j=p:=⟨_,rfl⟩
   have HP:=κ hp
   rw [hp]
   clear hp
   dsimp only
   obtain⟨pn,hpn⟩:∃pn,g.pin j=pn:=⟨_,rfl⟩
   rw [hpn] at cp
   have P5:=κ hpn
   clear hpn
   obtain⟨x,hx⟩:∃x,g.holds j=x:=⟨_,rfl⟩
   rw [hx] at ch h1
   have HX:=κ hx
   clear hx
   cases pn
   ·by_cases wL:0≤x
    ·obtain⟨t,rfl⟩:=Int.eq_ofNat_of_zero_le wL
     have NX:=κ (fun w a=>vU (K:=K) (g:=g) t w a (by omega))
     obtain⟨n,I5⟩:∃n,uF g t=n:=⟨_,rfl⟩
     rw [I5] at NX
     have JJ:=κ (show(if 0≤g.holds j then uF g (g.holds j).toNat else 1073741825)=n from by rw [HX.out,if_pos wL,Int.toNat_natCast,I5])
     clear I5 h1
     by_cases hf:ff<n
     ·have hf':(n>ff)=True:=by simpa using hf
      have HF:=κ (show(kU g j).2<n from by rw [HP.out];exact hf)
      clear hf'
      go_wp2_with (go_at_call 194;refine(NX.out _ A.out).mono ?_;rintro e w' ⟨rfl,rfl⟩)
      go_roundg (R-(j+1))
      case measure=>have:=HK.out;have:=jg.out;omega
      case rel=>exact⟨j+1,rfl,jg.out,by simp,by rw [uU P5.out JJ.out HF.out],by rw [uU P5.out JJ.out HF.out],rfl⟩
     ·have HF:=κ (show¬ (kU g j).2<n from by rw [HP.out];exact hf)
      go_wp2_with (go_at_call 194;refine(NX.out _ A.out).mono ?_;rintro e w' ⟨rfl,rfl⟩)
      go_roundg (R-(j+1))
      case measure=>have:=HK.out;have:=jg.out;omega
      case rel=>exact⟨j+1,rfl,jg.out,by simp,by rw [yP P5.out JJ.out (Int.not_lt.2 HF.out),HP.out],by rw [yP P5.out JJ.out (Int.not_lt.2 HF.out),HP.out],rfl⟩
    ·have JJ:=κ (show(if 0≤g.holds j then uF g (g.holds j).toNat else 1073741825)=1073741825 from by rw [HX.out,if_neg wL])
     clear h1
     by_cases hf:ff<1073741825
     ·have hf':(1073741825>ff)=True:=by simpa using hf
      have HF:=κ (show(kU g j).2<1073741825 from by rw [HP.out];exact hf)
      clear hf'
      go_wp2
      go_roundg (R-(j+1))
      case measure=>have:=HK.out;have:=jg.out;omega
      case rel=>exact⟨j+1,rfl,jg.out,by simp,by rw [uU P5.out JJ.out HF.out],by rw [uU P5.out JJ.out HF.out],rfl⟩
     ·have HF:=κ (show¬ (kU g j).2<1073741825 from by rw [HP.out];exact hf)
      go_wp2
      go_roundg (R-(j+1))
      case measure=>have:=HK.out;have:=jg.out;omega
      case rel=>exact⟨j+1,rfl,jg.out,by simp,by rw [yP P5.out JJ.out (Int.not_lt.2 HF.out),HP.out],by rw [yP P5.out JJ.out (Int.not_lt.2 HF.out),HP.out],rfl⟩
   ·go_wp2
    go_roundg (R-(j+1))
    case measure=>have:=HK.out;have:=jg.out;omega
    case rel=>exact⟨j+1,rfl,jg.out,by simp,by rw [Gi P5.out,HP.out],by rw [Gi P5.out,HP.out],rfl⟩
  ·obtain rfl:j=R:=by omega
   have ch:=A.out.uj b b1
   rw [HB.out]
   clear hj hk
   obtain⟨ff,hff⟩:∃ff,(kU g j).2=ff:=⟨_,rfl⟩
   rw [hff]
   clear hff
   obtain⟨x,hx⟩:∃x,g.holds b=x:=⟨_,rfl⟩
   rw [hx] at ch
   have HX:=κ hx
   have FB:g.jF K.os j=if 0≤x then g.out K.os x.toNat else g:=by unfold Gm.jF;rw [HB.out,Int.toNat_natCast,hx]
   clear hx
   by_cases wL:0≤x
   ·obtain⟨t,rfl⟩:=Int.eq_ofNat_of_zero_le wL
    rw [if_pos wL,Int.toNat_natCast] at FB
    have h1:t<K.os.length:=by have:=HH.out b b1;rw [HX.out] at this;omega
    have e1:(g.v t).reg=b:=by have:=HG.out (by rw [HX.out];exact wL);rw [HX.out,Int.toNat_natCast] at this;exact this
    have e2:iw K.os g t=true→0≤g.sp∧g.sp<2048:=fun h=>HS.out (by rw [HX.out];exact wL) (by rw [HX.out,Int.toNat_natCast];exact h)
    have OU:=κ (fun w a=>Tj (K:=K) (g:=g) t b w a h1 b1 e1 e2 HN.out)
    rw [←FB] at OU
    clear e1 e2 h1 FB
    go_wp2_with (go_at_call 195;refine(OU.out _ A.out).mono ?_;rintro e w2 ⟨rfl,a2,u2⟩)
    go_ret
    exact⟨rfl,a2,u2⟩
   ·rw [if_neg wL] at FB
    have FB:=κ FB
    go_wp2
    go_ret
    exact⟨rfl,A.out,ah.refl _ _⟩
variable {K:Gk} {g:Gm}
theorem Bq {w:World} (a:GM K g w) {t:Nat} (ht:t<K.os.length):∃b off,K.ao=some ⟨b,off,none⟩∧b<w.heap.size∧K.os.length≤K.cap∧w.cell? ⟨b,off+t*7,none⟩=some (.int .i64 (opAt K.os t).k)∧w.cell? ⟨b,off+t*7+1,none⟩=some (.int .i64 (opAt K.os t).w)∧w.cell? ⟨b,off+t*7+2,none⟩=some (.int .i64 (opAt K.os t).a)∧
  w.cell? ⟨b,off+t*7+3,none⟩=some (.int .i64 (opAt K.os t).b)∧w.cell? ⟨b,off+t*7+4,none⟩=some (.int .i64 (opAt K.os t).c)∧w.cell? ⟨b,off+t*7+5,none⟩=some (.int .u32 (opAt K.os t).kn)∧w.cell? ⟨b,off+t*7+6,none⟩=some (.int .i64 (opAt K.os t).n):=by
 obtain⟨h1,h2,h3⟩:=a.op
 obtain⟨b,off,e,hb,hc⟩:=h3 (by omega)
 have hg:K.os[t]?=some (opAt K.os t):=by unfold opAt;rw [List.getD_eq_getElem?_getD,List.getElem?_eq_getElem ht];rfl
 exact⟨b,off,e,hb,h1,hc t _ hg 0 _ rfl,hc t _ hg 1 _ rfl,hc t _ hg 2 _ rfl,hc t _ hg 3 _ rfl,hc t _ hg 4 _ rfl,hc t _ hg 5 _ rfl,hc t _ hg 6 _ rfl⟩
theorem VW (r k:Int) (r0:0≤r) (r1:r<16):oL (JH r k):=by
 refine⟨⟨by show(0:Int)≤2;decide,by show(2:Int) <256;decide⟩,by show aF 2≠0;decide, ?_⟩
 show dS (aF 2) 2 r 0 0 0 0 k 0
 rw [show aF 2=8 by decide]
 simp [dS,hD,hA,hB,hC,nb,wd,hK,r0,r1]
theorem Oh (r sp:Int) (r0:0≤r) (r1:r<16) (s0:0≤sp) (s1:sp<2048):oL (uG r sp):=by
 refine⟨⟨by show(0:Int)≤8;decide,by show(8:Int) <256;decide⟩,by show aF 8≠0;decide, ?_⟩
 show dS (aF 8) 8 r 0 0 0 sp 0 0
 rw [show aF 8=12 by decide]
 simp [dS,hD,hA,hB,hC,nb,wd,hK,r0,r1,s0,s1]
theorem oN (x:Cd):(iZ x).length≤3:=by unfold iZ;rw [List.length_take];simp;omega
theorem Tt (xs:List Cd) (x:Cd):(dF (xs++ [x])).length≤(dF xs).length+3:=by
 have:=oN x
 unfold dF;rw [List.flatMap_append,List.length_append];simp;omega
theorem Tv (os:List cZ) (g:Gm) (t:Nat):(dF (g.out os t).xs).length≤(dF g.xs).length+3:=by
 show(dF (g.lay os t).xs).length≤_
 unfold Gm.lay;split
 ·exact Tt g.xs _
 ·omega
theorem jT (os:List cZ) (R:Nat) (g:Gm):(dF (g.jF os R).xs).length≤(dF g.xs).length+3:=by
 unfold Gm.jF;split
 ·exact Tv _ _ _
 ·omega
theorem Yn (t r:Nat) (w:World) (a:GM K g w) (ht:t<K.os.length) (hr:(g.v t).reg=r) (P6:r<16):
  Calls Try.prog 94 #[.pointer (some ⟨K.h,0,none⟩), .int .i64 t] w fun e w'=>e= .returned (.int .i64 (g.zq K.R t))∧GM K (g.vT K.os K.R t) w'∧ah (SG K) w w':=by
 have e1:g.zq K.R t=r:=by unfold Gm.zq;rw [if_neg (by omega),hr]
 have e2:g.vT K.os K.R t=g.jf r true:=by unfold Gm.vT;rw [if_neg (by omega),hr,Int.toNat_natCast]
 rw [e1,e2]
 have t0:(0:Int)≤(t:Int):=by omega
 have t1:(t:Int) <(K.os.length:Int):=by omega
 have r0:(0:Int)≤(r:Int):=by omega
 have r1:(r:Int) <16:=by omega
 have c6:=a.c6
 have cr:=a.vr t ht
 rw [hr] at cr
 have cp:=a.pin r P6
 have zp:=a.z (23+r)
 have l:=a.l
 have lv:=a.l2
 have A:=κ a
 have HT:=κ ht
 have HV:=κ (show((g.jf r true).v t).reg=r from hr)
 clear a e1 e2 hr ht
 generalize hL:K.os.length=L at c6 t1
 go_enter Try.func94,Try.ntmps94
 go_upto_region 9 with fail
 go_region
 have a2:=(A.out.jf r true P6).drew
 have u2:=((ah.refl (SG K) w).setCell (q:=⟨K.h,23+r,none⟩) (.inl (.inl rfl)) (.bool true)).drew
 clear c6
 generalize(w.setCell ⟨K.h,23+r,none⟩ (.bool true)).drew=w2 at a2 u2⊢
 clear cr cp zp lv
 have cr:=a2.vr t HT.out
 rw [HV.out] at cr
 have lv:=a2.l2
 go_wp2
 go_ret
 exact⟨rfl,a2,u2⟩
theorem Yo (t b:Nat) (w:World) (a:GM K g w) (ht:t<K.os.length) (hr:(g.v t).reg<0) (hR:K.R≤16) (hb:(kU g K.R).1=b) (qX:b<16) (hh:∀r,r<16→g.holds r<K.os.length)
  (wS:0≤g.holds b→(g.v (g.holds b).toNat).reg=b) (rV:0≤g.holds b→iw K.os g (g.holds b).toNat=true→0≤g.sp∧g.sp<2048) (hn:(dF g.xs).length≤999990)
  (hs:(opAt K.os t).k≠1→0≤((g.jF K.os K.R).v t).aZ∧((g.jF K.os K.R).v t).aZ<2048):
  Calls Try.prog 94 #[.pointer (some ⟨K.h,0,none⟩), .int .i64 t] w fun e w'=>e= .returned (.int .i64 (g.zq K.R t))∧GM K (g.vT K.os K.R t) w'∧ah (SG K) w w':=by
 have e1:g.zq K.R t=b:=by unfold Gm.zq;rw [if_pos hr,hb]
 have e2:g.vT K.os K.R t=((g.jF K.os K.R).fetch K.os b t).jf b true:=by unfold Gm.vT;rw [if_pos hr,hb,Int.toNat_natCast]
 rw [e1,e2]
 have t0:(0:Int)≤(t:Int):=by omega
 have t1:(t:Int) <(K.os.length:Int):=by omega
 have b0:(0:Int)≤(b:Int):=by omega
 have b1:(b:Int) <16:=by omega
 have c6:=a.c6
 have cr:=a.vr t ht
 have l:=a.l
 have lv:=a.l2
 have FR:=κ (Bo b w a hR hb qX hh wS rV (by omega))
 have hn1:=jT K.os K.R g
 have HN:=κ (show(dF (g.jF K.os K.R).xs).length≤1000000 by omega)
 have A:=κ a
 have HT:=κ ht
 generalize g.jF K.os K.R=g1 at FR hs HN⊢
 clear hn1 e1 e2 hb hh wS rV hn hR ht a
 generalize hL:K.os.length=L at c6 t1
 generalize hrr:(g.v t).reg=rr at cr hr
 obtain⟨ok,kS⟩:∃o,opAt K.os t=o:=⟨_,rfl⟩
 rw [kS] at hs
 have HO:=κ kS
 clear kS
 by_cases hk:ok.k=1
 ·have e1:(ok.k==1)=true:=by simpa using hk
  have HF:=κ (show g1.fetch K.os b t=(g1.put (JH b ok.kn)).has b t from by unfold Gm.fetch;rw [HO.out,if_pos hk])
  have PU:=κ (fun w a=>dR (K:=K) (g:=g1) (JH b ok.kn) w a (VW b ok.kn b0 b1) HN.out)
  have HA:=κ (fun w a=>jD (K:=K) (g:=g1.put (JH b ok.kn)) b t w a qX HT.out)
  rw [←HF.out] at HA
  have HV:=κ (show(((g1.fetch K.os b t).jf b true).v t).reg=b from by rw [HF.out];simp [Gm.has,Gm.jf,Gm.eF,Gm.eY,aO])
  clear HF
  generalize g1.fetch K.os b t=g3 at HA HV⊢
  clear hs hk
  go_enter Try.func94,Try.ntmps94
  go_upto_region 4 with(go_at_call 159;refine FR.out.mono ?_;rintro e w1 ⟨rfl,a1,u1⟩)
  clear c6 cr lv FR A
  obtain⟨kb,ko,ke,kl,kc,k0,k1,k2,k3,k4,k5,k6⟩:=Bq a1 HT.out
  have c3:=a1.c3
  have l:=a1.l
  rw [hL,ke] at c3
  rw [hL] at kc
  have A1:=κ a1
  have U1:=κ u1
  clear a1 u1 ke
  rw [HO.out] at k0 k1 k2 k3 k4 k5 k6
  go_upto_region 5 with fail
  have A2:=κ (A1.out.alloc (.cells #[.int .i64 ok.k, .int .i64 ok.w, .int .i64 ok.a, .int .i64 ok.b, .int .i64 ok.c, .int .u32 ok.kn, .int .i64 ok.n] 31))
  have U2:=κ (U1.out.alloc (.cells #[.int .i64 ok.k, .int .i64 ok.w, .int .i64 ok.a, .int .i64 ok.b, .int .i64 ok.c, .int .u32 ok.kn, .int .i64 ok.n] 31))
  have cs:=A2.out.vs t HT.out
  have l2:=A2.out.l2
  have l:=A2.out.l
  clear k0 k1 k2 k3 k4 k5 k6 c3 kl kc A1 U1
  go_upto_region 8 with(go_at_call 47;refine(PU.out _ A2.out).mono ?_;rintro e w3 ⟨rfl,a3,u3⟩;have A3:=κ a3;have U3:=κ (U2.out.trans u3);clear a3 u3)
  clear PU A2 U2 l l2 cs
  go_upto_region 9 with(go_at_call 160;refine(HA.out _ A3.out).mono ?_;rintro e w4 ⟨rfl,a4,u4⟩;have A4:=κ a4;have U4:=κ (U3.out.trans u4);clear a4 u4)
  clear HA A3 U3
  have cr:=A4.out.vr t HT.out
  rw [show(g3.v t).reg=b from HV.out] at cr
  have cp:=A4.out.pin b qX
  have zp:=A4.out.z (23+b)
  have l:=A4.out.l
  have lv:=A4.out.l2
  go_region
  have a5:=(A4.out.jf b true qX).drew
  have u5:=(U4.out.setCell (q:=⟨K.h,23+b,none⟩) (.inl (.inl rfl)) (.bool true)).drew
  clear cr cp zp lv l
  generalize(w4.setCell ⟨K.h,23+b,none⟩ (.bool true)).drew=w5 at a5 u5⊢
  have cr:=a5.vr t HT.out
  rw [HV.out] at cr
  have lv:=a5.l2
  go_wp2
  go_ret
  exact⟨rfl,a5,u5⟩
 ·have e1:(ok.k==1)=false:=by simpa using hk
  obtain⟨s0,s1⟩:=hs hk
  obtain⟨sp,rV⟩:∃sp,(g1.v t).aZ=sp:=⟨_,rfl⟩
  rw [rV] at s0 s1
  have HF:=κ (show g1.fetch K.os b t=(g1.put (uG b sp)).has b t from by unfold Gm.fetch;rw [HO.out,if_neg hk,rV])
  have PU:=κ (fun w a=>dR (K:=K) (g:=g1) (uG b sp) w a (Oh b _ b0 b1 s0 s1) HN.out)
  have HA:=κ (fun w a=>jD (K:=K) (g:=g1.put (uG b sp)) b t w a qX HT.out)
  rw [←HF.out] at HA
  have HV:=κ (show(((g1.fetch K.os b t).jf b true).v t).reg=b from by rw [HF.out];simp [Gm.has,Gm.jf,Gm.eF,Gm.eY,aO])
  clear HF
  generalize g1.fetch K.os b t=g3 at HA HV⊢
  clear hs hk
  have HSP:=κ rV
  clear rV
  go_enter Try.func94,Try.ntmps94
  go_upto_region 4 with(go_at_call 159;refine FR.out.mono ?_;rintro e w1 ⟨rfl,a1,u1⟩)
  clear c6 cr lv FR A
  obtain⟨kb,ko,ke,kl,kc,k0,k1,k2,k3,k4,k5,k6⟩:=Bq a1 HT.out
  have c3:=a1.c3
  have l:=a1.l
  rw [hL,ke] at c3
  rw [hL] at kc
  have A1:=κ a1
  have U1:=κ u1
  clear a1 u1 ke
  rw [HO.out] at k0 k1 k2 k3 k4 k5 k6
  go_upto_region 5 with fail
  have A2:=κ (A1.out.alloc (.cells #[.int .i64 ok.k, .int .i64 ok.w, .int .i64 ok.a, .int .i64 ok.b, .int .i64 ok.c, .int .u32 ok.kn, .int .i64 ok.n] 31))
  have U2:=κ (U1.out.alloc (.cells #[.int .i64 ok.k, .int .i64 ok.w, .int .i64 ok.a, .int .i64 ok.b, .int .i64 ok.c, .int .u32 ok.kn, .int .i64 ok.n] 31))
  have cs:=A2.out.vs t HT.out
  have l2:=A2.out.l2
  have l:=A2.out.l
  clear k0 k1 k2 k3 k4 k5 k6 c3 kl kc A1 U1
  rw [HSP.out] at cs
  go_upto_region 8 with(go_at_call 47;refine(PU.out _ A2.out).mono ?_;rintro e w3 ⟨rfl,a3,u3⟩;have A3:=κ a3;have U3:=κ (U2.out.trans u3);clear a3 u3)
  clear PU A2 U2 l l2 cs
  go_upto_region 9 with(go_at_call 160;refine(HA.out _ A3.out).mono ?_;rintro e w4 ⟨rfl,a4,u4⟩;have A4:=κ a4;have U4:=κ (U3.out.trans u4);clear a4 u4)
  clear HA A3 U3
  have cr:=A4.out.vr t HT.out
  rw [show(g3.v t).reg=b from HV.out] at cr
  have cp:=A4.out.pin b qX
  have zp:=A4.out.z (23+b)
  have l:=A4.out.l
  have lv:=A4.out.l2
  go_region
  have a5:=(A4.out.jf b true qX).drew
  have u5:=(U4.out.setCell (q:=⟨K.h,23+b,none⟩) (.inl (.inl rfl)) (.bool true)).drew
  clear cr cp zp lv l
  generalize(w4.setCell ⟨K.h,23+b,none⟩ (.bool true)).drew=w5 at a5 u5⊢
  have cr:=a5.vr t HT.out
  rw [HV.out] at cr
  have lv:=a5.l2
  go_wp2
  go_ret
  exact⟨rfl,a5,u5⟩
variable {K:Gk} {g:Gm}
structure I7 (os:List cZ) (R:Nat) (g:Gm) (b:Nat):Prop where
 hb:(kU g R).1=b
 qX:b<16
 wS:0≤g.holds b→(g.v (g.holds b).toNat).reg=b
 rV:0≤g.holds b→iw os g (g.holds b).toNat=true→0≤g.sp∧g.sp<2048
theorem fK (g:Gm) (n:Nat):(g.dN n).xs=g.xs:=by
 induction n with
 | zero=>rfl
 | succ n ih=>rw [Gm.dN];split<;>exact ih
theorem I8 (g:Gm) (n j:Nat):(g.dN n).holds j=g.holds j∨(j<n∧(g.dN n).holds j= -1):=by
 induction n with
 | zero=>exact .inl rfl
 | succ n ih=>
  rw [Gm.dN];split
  ·show aO (g.dN n).holds n (-1) j=_∨(_∧aO (g.dN n).holds n (-1) j= -1)
   unfold aO;by_cases e:j=n
   ·rw [if_pos e];exact .inr ⟨by omega,rfl⟩
   ·rw [if_neg e];rcases ih with h | h
    ·exact .inl h
    ·exact .inr ⟨by omega,h.2⟩
  ·rcases ih with h | h
   ·exact .inl h
   ·exact .inr ⟨by omega,h.2⟩
theorem Oi {g:Gm} {L:Nat} (hh:∀r,r<16→g.holds r<L) (n r:Nat) (hr:r<16):(g.dN n).holds r<L:=by
 rcases I8 g n r with h | h
 ·rw [h];exact hh r hr
 ·omega
theorem Gj {g:Gm} {r:Nat} {t:Nat} (hx:(g.dN r).holds r=t) (hn:uF (g.dN r) t=1073741824):g.dN (r+1)=((g.dN r).eY r (-1)).eF t (-1):=by
 rw [Gm.dN,hx,Int.toNat_natCast,if_pos ⟨by omega,hn⟩]
theorem EC {g:Gm} {r:Nat} (h:¬ (0≤(g.dN r).holds r∧uF (g.dN r) ((g.dN r).holds r).toNat=1073741824)):g.dN (r+1)=g.dN r:=by rw [Gm.dN,if_neg h]
theorem Gl {g:Gm} {r n:Nat} (h:g.holds r<0):emp g r (n+1)=some r:=by rw [emp,if_pos h]
theorem Oj {g:Gm} {r n:Nat} (h:¬g.holds r<0):emp g r (n+1)=emp g (r+1) n:=by rw [emp,if_neg h]
theorem iJ (w:World) (a:GM K g w) (hR:K.R≤16) (hh:∀r,r<16→g.holds r<K.os.length) (hf:emp (g.dN K.R) 0 K.R=none→∃b,I7 K.os K.R (g.dN K.R) b) (hn:(dF g.xs).length≤1000000):
  Calls Try.prog 161 #[.pointer (some ⟨K.h,0,none⟩)] w fun e w'=>e= .returned (.int .i64 (g.uT K.R))∧GM K (g.gU K.os K.R) w'∧ah (SG K) w w':=by
 have c5:=a.c5
 have l:=a.l
 have A:=κ a
 have HR:=κ hR
 have HH:=κ hh
 have HF:=κ hf
 have HN:=κ hn
 clear a hR hh hf hn
 have HPR:=κ (show g.uT K.R=match emp (g.dN K.R) 0 K.R with | some r=>(r:Int) | none=>(kU (g.dN K.R) K.R).1 from rfl)
 have HPG:=κ (show g.gU K.os K.R=match emp (g.dN K.R) 0 K.R with | some r=>g.dN K.R | none=>(g.dN K.R).jF K.os K.R from rfl)
 generalize g.uT K.R=pr at HPR⊢
 generalize g.gU K.os K.R=pg at HPG⊢
 have HRR:=κ (rfl:K.R=K.R)
 generalize ZJ:K.R=R at c5 HR
 go_enter Try.func161,Try.ntmps161
 go_wp2
 go_loopg [10] R (fun k i wr=>∃j:Nat,k=R-j∧j≤R∧i= .int .i64 j∧Hid (GM K (g.dN j) wr)∧Hid (ah (SG K) w wr))
 case atStart=>exact⟨0,rfl,Nat.zero_le _,rfl,A,κ (ah.refl _ _)⟩
 case round=>
  obtain⟨j,hk,hj,rfl,G,U⟩:=hrel
  by_cases bV:j<R
  ·have oV:(j:Int) <(R:Int):=by omega
   have Ym:j<16:=by have:=HR.out;omega
   have i0:(0:Int)≤(j:Int):=by omega
   have i1:(j:Int) <16:=by omega
   have ch:=G.out.uj j Ym
   have zh:=G.out.z (7+j)
   have l:=G.out.l
   have h1:=Oi HH.out j j Ym
   have HK:=κ hk
   have jg:=κ bV
   clear hk bV
   obtain⟨x,hx⟩:∃x,(g.dN j).holds j=x:=⟨_,rfl⟩
   rw [hx] at ch h1
   have HX:=κ hx
   clear hx
   by_cases wL:0≤x
   ·obtain⟨t,rfl⟩:=Int.eq_ofNat_of_zero_le wL
    have ht:t<K.os.length:=by omega
    have NX:=κ (fun w a=>vU (K:=K) (g:=g.dN j) t w a ht)
    have HT:=κ ht
    have t0:(0:Int)≤(t:Int):=wL
    have t1:(t:Int) <(K.os.length:Int):=h1
    obtain⟨n,I5⟩:∃n,uF (g.dN j) t=n:=⟨_,rfl⟩
    rw [I5] at NX
    have JJ:=κ I5
    clear I5 h1 ht
    by_cases JD:n=1073741824
    ·have e1:(n==1073741824)=true:=by simpa using JD
     have HC:=κ (Gj HX.out (JJ.out.trans JD))
     clear JD
     have a2:=G.out.eY j (-1) Ym
     have a3:=a2.eF t (-1) HT.out
     have u3:=(U.out.setCell (q:=⟨K.h,7+j,none⟩) (.inl (.inl rfl)) (.int .i64 (-1))).setCell (q:=⟨K.vb,t*3,none⟩) (.inl (.inr (.inl rfl))) (.int .i64 (-1))
     have A3:=κ a3
     have U3:=κ u3
     have c6:=G.out.c6
     have cr:=G.out.vr t HT.out
     have zv:=G.out.zv (t*3)
     have ne:=G.out.ne
     have lv:=G.out.l2
     clear a2 a3 u3
     generalize hL:K.os.length=L at c6 t1
     go_wp2_with (go_at_call 194;refine(NX.out _ G.out).mono ?_;rintro e w' ⟨rfl,rfl⟩)
     go_roundg (R-(j+1))
     case measure=>have:=HK.out;have:=jg.out;omega
     case rel=>exact⟨j+1,rfl,jg.out,by simp,by rw [HC.out];exact A3,U3⟩
    ·have e1:(n==1073741824)=false:=by simpa using JD
     have HC:=κ (EC (show¬ (0≤(g.dN j).holds j∧uF (g.dN j) ((g.dN j).holds j).toNat=1073741824) from by rw [HX.out,Int.toNat_natCast,JJ.out];exact fun h=>JD h.2))
     clear JD
     go_wp2_with (go_at_call 194;refine(NX.out _ G.out).mono ?_;rintro e w' ⟨rfl,rfl⟩)
     go_roundg (R-(j+1))
     case measure=>have:=HK.out;have:=jg.out;omega
     case rel=>exact⟨j+1,rfl,jg.out,by simp,by rw [HC.out];exact G,U⟩
   ·have HC:=κ (EC (show¬ (0≤(g.dN j).holds j∧uF (g.dN j) ((g.dN j).holds j).toNat=1073741824) from by rw [HX.out];exact fun h=>wL h.1))
    clear h1
    go_wp2
    go_roundg (R-(j+1))
    case measure=>have:=HK.out;have:=jg.out;omega
    case rel=>exact⟨j+1,rfl,jg.out,by simp,by rw [HC.out];exact G,U⟩
  ·obtain rfl:j=R:=by omega
   clear hj hk l
   have c5:=G.out.c5
   have l:=G.out.l
   rw [ZJ] at c5
   rw [ZJ] at HPR HPG HF
   have g1n:(dF (g.dN j).xs).length≤1000000:=by rw [fK];exact HN.out
   have g1h:∀r,r<16→(g.dN j).holds r<K.os.length:=Oi HH.out j
   have HN:=κ g1n
   have HH:=κ g1h
   clear g1n g1h
   generalize g.dN j=g1 at G HPR HPG HF HN HH
   go_wp2
   go_loopg [44] j (fun k i wx=>∃q:Nat,k=j-q∧q≤j∧i= .int .i64 q∧Hid (emp g1 0 j=emp g1 q (j-q))∧wr=wx)
   case atStart=>exact⟨0,rfl,Nat.zero_le _,rfl,κ rfl,rfl⟩
   case round=>
    obtain⟨q,hk,hj,rfl,HE,rfl⟩:=hrel
    by_cases bV:q<j
    ·have oV:(q:Int) <(j:Int):=by omega
     have q16:q<16:=by have:=HR.out;omega
     have i0:(0:Int)≤(q:Int):=by omega
     have i1:(q:Int) <16:=by omega
     have ch:=G.out.uj q q16
     obtain⟨x,hx⟩:∃x,g1.holds q=x:=⟨_,rfl⟩
     rw [hx] at ch
     have HX:=κ hx
     have hjq:j-q=(j-(q+1))+1:=by omega
     have HJ:=κ hjq
     have jg:=κ bV
     have HK:=κ hk
     clear hx hjq bV hk
     by_cases wL:x<0
     ·have he:emp g1 0 j=some q:=by rw [HE.out,HJ.out];exact Gl (by rw [HX.out];exact wL)
      have h1:pr=q:=by rw [HPR.out,he]
      have h2:pg=g1:=by rw [HPG.out,he]
      have H2:=κ h2
      have H1:=κ h1
      clear he h1 h2
      go_wp2
      go_ret
      exact⟨by rw [H1.out];rfl,by rw [H2.out];exact G.out,U.out⟩
     ·have HE2:=κ (show emp g1 0 j=emp g1 (q+1) (j-(q+1)) from by rw [HE.out,HJ.out];exact Oj (by rw [HX.out];exact wL))
      go_wp2
      go_roundg (j-(q+1))
      case measure=>have:=HK.out;have:=jg.out;omega
      case rel=>exact⟨q+1,rfl,jg.out,by simp,HE2,rfl⟩
    ·obtain rfl:q=j:=by omega
     have he:emp g1 0 q=none:=by rw [HE.out,Nat.sub_self];rfl
     obtain⟨b,fb⟩:=HF.out he
     have h1:pr=b:=by rw [HPR.out,he];exact fb.hb
     have h2:pg=g1.jF K.os K.R:=by rw [HPG.out,he,ZJ]
     have FR:=κ (Bo b wr G.out (by rw [ZJ];exact HR.out) (by rw [ZJ];exact fb.hb) fb.qX HH.out fb.wS fb.rV HN.out)
     have H2:=κ h2
     have H1:=κ h1
     clear he fb h1 h2 hj hk c5
     go_wp2_with (go_at_call 159;refine FR.out.mono ?_;rintro e w3 ⟨rfl,a3,u3⟩)
     go_ret
     exact⟨by rw [H1.out];rfl,by rw [H2.out];exact a3,U.out.trans u3⟩
end Go.Proofs.Ytcjcmnnhmajocab.Gn
