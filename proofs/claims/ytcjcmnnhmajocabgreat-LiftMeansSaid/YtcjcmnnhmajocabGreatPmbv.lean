import Derived.Test.YtcjcmnnhmajocabGreatPmbq
import Derived.Test.YtcjcmnnhmajocabGreatPmbr
import Derived.Test.YtcjcmnnhmajocabGreatPmbs
import Derived.Test.YtcjcmnnhmajocabGreatPmbt
import Derived.Test.YtcjcmnnhmajocabGreatPmbu
set_option linter.unusedVariables false
set_option linter.unusedSimpArgs false
set_option maxRecDepth 100000
set_option maxHeartbeats 16000000
namespace Go.Proofs.YtcjcmnnhmajocabGreat.St
open Go.RowKit Kt Me Fl Gu
variable {R:Nat→Int} {pc f nx:Int}
theorem TR (P:RP) (M:MM) (d s:Nat) (m:Int) (hd:d<8) (hs:s<8) (w:World) (hm:RM P M w) (hM:bQ M) (hR:qI R) (n0:0≤nx) (n1:nx<4294967296) (f0:0≤f) (f1:f<16):Calls Tryz.prog 95 #[.pointer (some ⟨P.q,0,none⟩),jy 31 d s 0 m,iJ R pc f,iJ R nx f, .int .u32 (au (R s+m))] w (qE P w (stay R pc f (gK M R pc f nx 31 d s 0 m))):=by
 have eO:gK M R pc f nx 31 d s 0 m=mg M R pc f (au (R s+m)) 1 (R d) fun M'=>⟨M',R,nx,f,0,0⟩:=rfl
 rw [eO]
 clear eO
 have qb:=aP (R s+m)
 have vb:0≤R d∧R d<4294967296:=hR d
 have CL:=fun w h=>dV P M (au (R s+m)) 1 (R d) w h hM qb.1 qb.2 vb.1 vb.2
 unfold mg
 obtain⟨oo,ho⟩:∃oo,jE M (au (R s+m)) 1=oo:=⟨_,rfl⟩
 rw [ho] at CL⊢
 rcases oo with _ | x
 ·refine(Gg P M d s m (au (R s+m)) hd hs w hm hR _ 0 0 CL).mono ?_
  rintro e w' ⟨h1,h2,h3⟩
  exact⟨h1,h2,h3⟩
 ·rw [jl ho] at CL
  refine(Gg P M d s m (au (R s+m)) hd hs w hm hR _ 6 x CL).mono ?_
  rintro e w' ⟨h1,h2,h3⟩
  exact⟨h1,h2,h3⟩
theorem TS (P:RP) (M:MM) (d s:Nat) (m:Int) (hd:d<8) (hs:s<8) (w:World) (hm:RM P M w) (hM:bQ M) (hR:qI R) (n0:0≤nx) (n1:nx<4294967296) (f0:0≤f) (f1:f<16):Calls Tryz.prog 95 #[.pointer (some ⟨P.q,0,none⟩),jy 31 d s 1 m,iJ R pc f,iJ R nx f, .int .u32 (au (R s+m))] w (qE P w (stay R pc f (gK M R pc f nx 31 d s 1 m))):=by
 have eO:gK M R pc f nx 31 d s 1 m=mg M R pc f (au (R s+m)) 2 (R d) fun M'=>⟨M',R,nx,f,0,0⟩:=rfl
 rw [eO]
 clear eO
 have qb:=aP (R s+m)
 have vb:0≤R d∧R d<4294967296:=hR d
 have CL:=fun w h=>dV P M (au (R s+m)) 2 (R d) w h hM qb.1 qb.2 vb.1 vb.2
 unfold mg
 obtain⟨oo,ho⟩:∃oo,jE M (au (R s+m)) 2=oo:=⟨_,rfl⟩
 rw [ho] at CL⊢
 rcases oo with _ | x
 ·refine(Gh P M d s m (au (R s+m)) hd hs w hm hR _ 0 0 CL).mono ?_
  rintro e w' ⟨h1,h2,h3⟩
  exact⟨h1,h2,h3⟩
 ·rw [jl ho] at CL
  refine(Gh P M d s m (au (R s+m)) hd hs w hm hR _ 6 x CL).mono ?_
  rintro e w' ⟨h1,h2,h3⟩
  exact⟨h1,h2,h3⟩
theorem TT (P:RP) (M:MM) (d s:Nat) (m:Int) (hd:d<8) (hs:s<8) (w:World) (hm:RM P M w) (hM:bQ M) (hR:qI R) (n0:0≤nx) (n1:nx<4294967296) (f0:0≤f) (f1:f<16):Calls Tryz.prog 95 #[.pointer (some ⟨P.q,0,none⟩),jy 31 d s 2 m,iJ R pc f,iJ R nx f, .int .u32 (au (R s+m))] w (qE P w (stay R pc f (gK M R pc f nx 31 d s 2 m))):=by
 have eO:gK M R pc f nx 31 d s 2 m=mg M R pc f (au (R s+m)) 4 (R d) fun M'=>⟨M',R,nx,f,0,0⟩:=rfl
 rw [eO]
 clear eO
 have qb:=aP (R s+m)
 have vb:0≤R d∧R d<4294967296:=hR d
 have CL:=fun w h=>dV P M (au (R s+m)) 4 (R d) w h hM qb.1 qb.2 vb.1 vb.2
 unfold mg
 obtain⟨oo,ho⟩:∃oo,jE M (au (R s+m)) 4=oo:=⟨_,rfl⟩
 rw [ho] at CL⊢
 rcases oo with _ | x
 ·refine(Gi P M d s m (au (R s+m)) hd hs w hm hR _ 0 0 CL).mono ?_
  rintro e w' ⟨h1,h2,h3⟩
  exact⟨h1,h2,h3⟩
 ·rw [jl ho] at CL
  refine(Gi P M d s m (au (R s+m)) hd hs w hm hR _ 6 x CL).mono ?_
  rintro e w' ⟨h1,h2,h3⟩
  exact⟨h1,h2,h3⟩
theorem acr (P:RP) (M:MM) (d s:Nat) (o m:Int) (hd:d<8) (hs:s<8) (w:World) (hm:RM P M w) (hM:bQ M) (hR:qI R) (n0:0≤nx) (n1:nx<4294967296) (f0:0≤f) (f1:f<16):Calls Tryz.prog 95 #[.pointer (some ⟨P.q,0,none⟩),jy 24 d s o m,iJ R pc f,iJ R nx f, .int .u32 (au (R s+m))] w (qE P w (stay R pc f (gK M R pc f nx 24 d s o m))):=by
 have eO:gK M R pc f nx 24 d s o m=ldO M R pc f (au (R s+m)) 4 fun v=>mg M R pc f (au (R s+m)) 4 (R d) fun M'=>⟨M',aF R d v,nx,f,0,0⟩:=rfl
 rw [eO]
 clear eO
 have qb:=aP (R s+m)
 have CL:=fun w h=>iK P M (au (R s+m)) 4 w h hM qb.1 qb.2 (by omega)
 obtain⟨b0,b1⟩:=ku hM (au (R s+m)) 4
 unfold ldO
 obtain⟨oo,ho⟩:∃oo,aQ M 1 (au (R s+m)) (4:Int).toNat=oo:=⟨_,rfl⟩
 rw [ho] at CL⊢
 clear ho
 generalize jD M (au (R s+m)) 4=v at b0 b1 CL⊢
 rcases oo with _ | x
 ·show Calls Tryz.prog 95 _ w (qE P w (stay R pc f (mg M R pc f (au (R s+m)) 4 (R d) fun M'=>⟨M',aF R d v,nx,f,0,0⟩)))
  have CW:=fun A w h hA dR=>abT (R:=R) (pc:=pc) (Rt:=R) (nx:=nx) (ft:=f) (f:=f) P M A d s o m (au (R s+m)) v hd hs w h hA dR hM hR qb.1 qb.2 b0 b1 f0 f1
  unfold mg
  obtain⟨oo,ho⟩:∃oo,jE M (au (R s+m)) 4=oo:=⟨_,rfl⟩
  rw [ho] at CW⊢
  rcases oo with _ | x
  ·refine(uz 24 P M d s o m (au (R s+m)) hd hs w hm hR v b0 b1 0 0 (by omega) (by omega) 0 _ _ _ CW CL).mono ?_
   rintro e w' ⟨h1,h2,h3⟩
   exact⟨h1,h2,h3⟩
  ·rw [jl ho] at CW
   refine(uz 24 P M d s o m (au (R s+m)) hd hs w hm hR v b0 b1 6 x (by omega) (by omega) 0 _ _ _ CW CL).mono ?_
   rintro e w' ⟨h1,h2,h3⟩
   exact⟨h1,h2,h3⟩
 ·refine(OD 24 P M d s o m (au (R s+m)) hd hs w hm hR v b0 b1 5 x (by omega) (by omega) (by omega) CL).mono ?_
  rintro e w' ⟨h1,h2,h3⟩
  exact⟨h1,h2,h3⟩
theorem acs (P:RP) (M:MM) (d s:Nat) (o m:Int) (hd:d<8) (hs:s<8) (w:World) (hm:RM P M w) (hM:bQ M) (hR:qI R) (n0:0≤nx) (n1:nx<4294967296) (f0:0≤f) (f1:f<16):Calls Tryz.prog 95 #[.pointer (some ⟨P.q,0,none⟩),jy 25 d s o m,iJ R pc f,iJ R nx f, .int .u32 (au (R s+m))] w (qE P w (stay R pc f (gK M R pc f nx 25 d s o m))):=by
 have eO:gK M R pc f nx 25 d s o m=ldO M R pc f (au (R s+m)) 4 fun v=>mg M R pc f (au (R s+m)) 4 (au (v+R d)) fun M'=>⟨M',aF R d v,nx,fl 1 v (R d) f,0,0⟩:=rfl
 rw [eO]
 clear eO
 have qb:=aP (R s+m)
 have CL:=fun w h=>iK P M (au (R s+m)) 4 w h hM qb.1 qb.2 (by omega)
 obtain⟨b0,b1⟩:=ku hM (au (R s+m)) 4
 unfold ldO
 obtain⟨oo,ho⟩:∃oo,aQ M 1 (au (R s+m)) (4:Int).toNat=oo:=⟨_,rfl⟩
 rw [ho] at CL⊢
 clear ho
 generalize jD M (au (R s+m)) 4=v at b0 b1 CL⊢
 rcases oo with _ | x
 ·show Calls Tryz.prog 95 _ w (qE P w (stay R pc f (mg M R pc f (au (R s+m)) 4 (au (v+R d)) fun M'=>⟨M',aF R d v,nx,fl 1 v (R d) f,0,0⟩)))
  have CW:=fun A w h hA dR=>abU (R:=R) (pc:=pc) (Rt:=R) (nx:=nx) (ft:=f) (f:=f) P M A d s o m (au (R s+m)) v hd hs w h hA dR hM hR qb.1 qb.2 b0 b1 f0 f1
  unfold mg
  obtain⟨oo,ho⟩:∃oo,jE M (au (R s+m)) 4=oo:=⟨_,rfl⟩
  rw [ho] at CW⊢
  rcases oo with _ | x
  ·refine(uz 25 P M d s o m (au (R s+m)) hd hs w hm hR v b0 b1 0 0 (by omega) (by omega) 0 _ _ _ CW CL).mono ?_
   rintro e w' ⟨h1,h2,h3⟩
   exact⟨h1,h2,h3⟩
  ·rw [jl ho] at CW
   refine(uz 25 P M d s o m (au (R s+m)) hd hs w hm hR v b0 b1 6 x (by omega) (by omega) 0 _ _ _ CW CL).mono ?_
   rintro e w' ⟨h1,h2,h3⟩
   exact⟨h1,h2,h3⟩
 ·refine(OD 25 P M d s o m (au (R s+m)) hd hs w hm hR v b0 b1 5 x (by omega) (by omega) (by omega) CL).mono ?_
  rintro e w' ⟨h1,h2,h3⟩
  exact⟨h1,h2,h3⟩
theorem acu (P:RP) (M:MM) (d s:Nat) (o m:Int) (hd:d<8) (hs:s<8) (w:World) (hm:RM P M w) (hM:bQ M) (hR:qI R) (n0:0≤nx) (n1:nx<4294967296) (f0:0≤f) (f1:f<16):Calls Tryz.prog 95 #[.pointer (some ⟨P.q,0,none⟩),jy 26 d s o m,iJ R pc f,iJ R nx f, .int .u32 (au (R s+m))] w (qE P w (stay R pc f (gK M R pc f nx 26 d s o m))):=by
 have eO:gK M R pc f nx 26 d s o m=ldO M R pc f (au (R s+m)) 4 fun v=>if R 0=v then mg M R pc f (au (R s+m)) 4 (R d) fun M'=>⟨M',R,nx,fl 3 (R 0) v f,0,0⟩ else mg M R pc f (au (R s+m)) 4 v fun M'=>⟨M',aF R 0 v,nx,fl 3 (R 0) v f,0,0⟩:=rfl
 rw [eO]
 clear eO
 have qb:=aP (R s+m)
 have CL:=fun w h=>iK P M (au (R s+m)) 4 w h hM qb.1 qb.2 (by omega)
 obtain⟨b0,b1⟩:=ku hM (au (R s+m)) 4
 unfold ldO
 obtain⟨oo,ho⟩:∃oo,aQ M 1 (au (R s+m)) (4:Int).toNat=oo:=⟨_,rfl⟩
 rw [ho] at CL⊢
 clear ho
 generalize jD M (au (R s+m)) 4=v at b0 b1 CL⊢
 rcases oo with _ | x
 ·show Calls Tryz.prog 95 _ w (qE P w (stay R pc f (if R 0=v then mg M R pc f (au (R s+m)) 4 (R d) fun M'=>⟨M',R,nx,fl 3 (R 0) v f,0,0⟩ else mg M R pc f (au (R s+m)) 4 v fun M'=>⟨M',aF R 0 v,nx,fl 3 (R 0) v f,0,0⟩)))
  by_cases he:R 0=v
  ·rw [if_pos he]
   show Calls Tryz.prog 95 _ w (qE P w (stay R pc f (mg M R pc f (au (R s+m)) 4 (R d) fun M'=>⟨M',R,nx,fl 3 (R 0) v f,0,0⟩)))
   have CW:=fun A w h hA dR=>Yg (R:=R) (pc:=pc) (Rt:=R) (nx:=nx) (ft:=f) (f:=f) P M A d s o m (au (R s+m)) v hd hs w h hA dR hM hR qb.1 qb.2 b0 b1 f0 f1 he
   unfold mg
   obtain⟨oo,ho⟩:∃oo,jE M (au (R s+m)) 4=oo:=⟨_,rfl⟩
   rw [ho] at CW⊢
   rcases oo with _ | x
   ·refine(uz 26 P M d s o m (au (R s+m)) hd hs w hm hR v b0 b1 0 0 (by omega) (by omega) 0 _ _ _ CW CL).mono ?_
    rintro e w' ⟨h1,h2,h3⟩
    exact⟨h1,h2,h3⟩
   ·rw [jl ho] at CW
    refine(uz 26 P M d s o m (au (R s+m)) hd hs w hm hR v b0 b1 6 x (by omega) (by omega) 0 _ _ _ CW CL).mono ?_
    rintro e w' ⟨h1,h2,h3⟩
    exact⟨h1,h2,h3⟩
  ·rw [if_neg he]
   show Calls Tryz.prog 95 _ w (qE P w (stay R pc f (mg M R pc f (au (R s+m)) 4 (v) fun M'=>⟨M',aF R 0 v,nx,fl 3 (R 0) v f,0,0⟩)))
   have CW:=fun A w h hA dR=>Yh (R:=R) (pc:=pc) (Rt:=R) (nx:=nx) (ft:=f) (f:=f) P M A d s o m (au (R s+m)) v hd hs w h hA dR hM hR qb.1 qb.2 b0 b1 f0 f1 he
   unfold mg
   obtain⟨oo,ho⟩:∃oo,jE M (au (R s+m)) 4=oo:=⟨_,rfl⟩
   rw [ho] at CW⊢
   rcases oo with _ | x
   ·refine(uz 26 P M d s o m (au (R s+m)) hd hs w hm hR v b0 b1 0 0 (by omega) (by omega) 0 _ _ _ CW CL).mono ?_
    rintro e w' ⟨h1,h2,h3⟩
    exact⟨h1,h2,h3⟩
   ·rw [jl ho] at CW
    refine(uz 26 P M d s o m (au (R s+m)) hd hs w hm hR v b0 b1 6 x (by omega) (by omega) 0 _ _ _ CW CL).mono ?_
    rintro e w' ⟨h1,h2,h3⟩
    exact⟨h1,h2,h3⟩
 ·refine(OD 26 P M d s o m (au (R s+m)) hd hs w hm hR v b0 b1 5 x (by omega) (by omega) (by omega) CL).mono ?_
  rintro e w' ⟨h1,h2,h3⟩
  exact⟨h1,h2,h3⟩
theorem Yl (k:Int) (P:RP) (M:MM) (d s:Nat) (o m:Int) (hd:d<8) (hs:s<8) (w:World) (hm:RM P M w) (hM:bQ M) (hR:qI R) (n0:0≤nx) (n1:nx<4294967296) (f0:0≤f) (f1:f<16) (hk:(2≤k∧k≤4)∨k=8∨k=10∨k=11∨k=14∨k=15∨(24≤k∧k≤26)∨(k=30∧0≤o∧o<5)∨(k=31∧0≤o∧o<3)):Calls Tryz.prog 95 #[.pointer (some ⟨P.q,0,none⟩),jy k d s o m,iJ R pc f,iJ R nx f, .int .u32 (au (R s+m))] w (qE P w (stay R pc f (gK M R pc f nx k d s o m))):=by
 by_cases hx:k=2∨k=4∨k=15∨k=11∨k=3∨k=8∨k=10∨k=14∨(k=30∧o=0)∨(k=30∧o=1)∨(k=30∧o=2)∨(k=30∧o=3)∨(k=30∧o=4)
 ·exact Yk P M d s k o m hd hs w hm hM hR n0 n1 f0 f1 hx
 rcases(show k=24∨k=25∨k=26∨(k=31∧o=0)∨(k=31∧o=1)∨(k=31∧o=2) by omega) with rfl | rfl | rfl | ⟨rfl,rfl⟩ | ⟨rfl,rfl⟩ | ⟨rfl,rfl⟩
 ·exact acr P M d s o m hd hs w hm hM hR n0 n1 f0 f1
 ·exact acs P M d s o m hd hs w hm hM hR n0 n1 f0 f1
 ·exact acu P M d s o m hd hs w hm hM hR n0 n1 f0 f1
 ·exact TR P M d s m hd hs w hm hM hR n0 n1 f0 f1
 ·exact TS P M d s m hd hs w hm hM hR n0 n1 f0 f1
 ·exact TT P M d s m hd hs w hm hM hR n0 n1 f0 f1
end Go.Proofs.YtcjcmnnhmajocabGreat.St
