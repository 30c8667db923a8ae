import Derived.Test.YtcjcmnnhmajocabPmar
set_option linter.unusedVariables false
set_option linter.unusedSimpArgs false
set_option maxRecDepth 100000
set_option maxHeartbeats 16000000
namespace Go.Proofs.Ytcjcmnnhmajocab.Ho
open Go.RowKit Kt
theorem Si {v k x:Int} (h:aV 6 v):dJ 6 v k x= .tuple #[.agg #[.int .i64 (v%256), .int .i64 (0), .int .i64 (v/256/16%16), .int .i64 (0), .int .i64 (0), .int .i64 (v/256/16/16%65536), .int .u32 k, .int .u32 0], .int .i64 2, .int .i64 0]:=by rw [aJ h,L8];rfl
theorem Nc (o d a b c n k x:Int):dS 6 o d a b c n k x↔(d=0∧(0≤a∧a<16)∧b=0∧c=0∧(0≤n∧n<65)∧x=0):=by simp [dS,hD,hA,hB,hC,hK,nb,wd]
theorem FZ {o d a b c n k x:Int} (p0:0≤o) (p1:o<256):dS 6 o d a b c n k x↔(aV 6 (o+d%16*256+a%16*4096+n%65536*65536)∧eqc ((o+d%16*256+a%16*4096+n%65536*65536)%256) (0) ((o+d%16*256+a%16*4096+n%65536*65536)/256/16%16) (0) (0) ((o+d%16*256+a%16*4096+n%65536*65536)/256/16/16%65536) k 0 o d a b c n k x=true):=by
 rw [Nc,mP,bQ]
 omega
theorem abk (o d a b c n k x:Int) (w:World) (hq:aF o=6) (p0:0≤o) (p1:o<256):
  Calls Try.prog 93 #[.agg #[.int .i64 o, .int .i64 d, .int .i64 a, .int .i64 b, .int .i64 c, .int .i64 n, .int .u32 k, .int .u32 x]] w (wK w 6 (o+d%16*256+a%16*4096+n%65536*65536) k x (dS 6 o d a b c n k x)):=by
 have m1:=aS d
 have m2:=aS a
 have m3:=aS b
 have m4:=aS c
 have m5:=dL n
 have j1:=qc o d p0 p1
 have j2:=qg o d a p0 p1
 have j3:=qh o d a n p0 p1
 have j4:=jZ b c
 have j5:=qj o d a b c p0 p1
 have CG:=ku
 have bD:=κ (FZ (d:=d) (a:=a) (b:=b) (c:=c) (n:=n) (k:=k) (x:=x) p0 p1)
 go_enter Try.func93,Try.ntmps93
 go_wp2_with (first
  | (go_at_call 149;refine(aN o _).mono ?_;rintro e w1 ⟨rfl,aQ⟩;rw [hq,show dO 6= #[.bool false, .bool true, .bool false, .bool false, .bool false, .int .i64 65, .int .i64 2] from rfl];obtain⟨kX,zX,s1,hB⟩:=fG aQ;clear aQ;have t1:=fV 1 s1;have t2:=fV 2 s1;have t3:=fV 3 s1;have t4:=fV 4 s1;have t5:=fV 5 s1)
  | (go_at_call 89;fail))
 refine(fH 6 (by decide) (by decide) (v0:=o+d%16*256+a%16*4096+n%65536*65536) (k1:=k) (x1:=0) (by decide) (by decide) (by omega) (by omega) (by rw [show(o+d%16*256+a%16*4096+n%65536*65536)%256=o by omega];exact hq) s1 kX hB
  (G:= #[.int .u32 (o+d%16*256+a%16*4096+n%65536*65536), .int .u32 k, .int .u32 0]) (by repeat(first | exact Below.refl _ _ | refine Below.alloc ?_ (by first | exact Nat.le_refl _ | (simp only [World.size_alloc];omega)) _)) (by(repeat rw [Below.heap_alloc _ (.cells #[_] _) _ (by simp)]);simpa using heap_alloc_new (w1.alloc _) _) rfl (fun _=>rfl) (fun h=>absurd h (by decide))).mono ?_
 rintro e w2 ⟨rfl,ig,FP,kD,s2⟩
 have kG:=(bM kD).1
 clear kX zX
 by_cases hg:aV 6 (o+d%16*256+a%16*4096+n%65536*65536)
 ·rw [Si hg]
  have dU:=fun w=>dW ((o+d%16*256+a%16*4096+n%65536*65536)%256) (0) ((o+d%16*256+a%16*4096+n%65536*65536)/256/16%16) (0) (0) ((o+d%16*256+a%16*4096+n%65536*65536)/256/16/16%65536) k 0 o d a b c n k x w
  cases hr:eqc ((o+d%16*256+a%16*4096+n%65536*65536)%256) (0) ((o+d%16*256+a%16*4096+n%65536*65536)/256/16%16) (0) (0) ((o+d%16*256+a%16*4096+n%65536*65536)/256/16/16%65536) k 0 o d a b c n k x
  ·rw [hr] at dU
   go_wp2
   go_ret2
   exact dD (fun h=>by have:=(bD.out.1 h).2;rw [hr] at this;cases this) ig s2
  ·rw [hr] at dU
   go_wp2
   go_ret2
   exact fJ (bD.out.2 ⟨hg,hr⟩) ig s1 s2 kD rfl (fun _=>rfl) (fun h=>absurd h (by decide)) rfl (by decide)
 ·rw [qm hg]
  go_wp2
  go_ret2
  exact dD (fun h=>hg (bD.out.1 h).1) ig s2
theorem Sj {v k x:Int} (h:aV 7 v):dJ 7 v k x= .tuple #[.agg #[.int .i64 (v%256), .int .i64 (0), .int .i64 (0), .int .i64 (0), .int .i64 (0), .int .i64 (v/256/16/16%65536), .int .u32 k, .int .u32 0], .int .i64 2, .int .i64 0]:=by rw [aJ h,L9];rfl
theorem Aw (o d a b c n k x:Int):dS 7 o d a b c n k x↔(d=0∧a=0∧b=0∧c=0∧(0≤n∧n<65)∧x=0):=by simp [dS,hD,hA,hB,hC,hK,nb,wd]
theorem F5 {o d a b c n k x:Int} (p0:0≤o) (p1:o<256):dS 7 o d a b c n k x↔(aV 7 (o+d%16*256+a%16*4096+n%65536*65536)∧eqc ((o+d%16*256+a%16*4096+n%65536*65536)%256) (0) (0) (0) (0) ((o+d%16*256+a%16*4096+n%65536*65536)/256/16/16%65536) k 0 o d a b c n k x=true):=by
 rw [Aw,mQ,bQ]
 omega
theorem abl (o d a b c n k x:Int) (w:World) (hq:aF o=7) (p0:0≤o) (p1:o<256):
  Calls Try.prog 93 #[.agg #[.int .i64 o, .int .i64 d, .int .i64 a, .int .i64 b, .int .i64 c, .int .i64 n, .int .u32 k, .int .u32 x]] w (wK w 7 (o+d%16*256+a%16*4096+n%65536*65536) k x (dS 7 o d a b c n k x)):=by
 have m1:=aS d
 have m2:=aS a
 have m3:=aS b
 have m4:=aS c
 have m5:=dL n
 have j1:=qc o d p0 p1
 have j2:=qg o d a p0 p1
 have j3:=qh o d a n p0 p1
 have j4:=jZ b c
 have j5:=qj o d a b c p0 p1
 have CG:=ku
 have bD:=κ (F5 (d:=d) (a:=a) (b:=b) (c:=c) (n:=n) (k:=k) (x:=x) p0 p1)
 go_enter Try.func93,Try.ntmps93
 go_wp2_with (first
  | (go_at_call 149;refine(aN o _).mono ?_;rintro e w1 ⟨rfl,aQ⟩;rw [hq,show dO 7= #[.bool false, .bool false, .bool false, .bool false, .bool false, .int .i64 65, .int .i64 2] from rfl];obtain⟨kX,zX,s1,hB⟩:=fG aQ;clear aQ;have t1:=fV 1 s1;have t2:=fV 2 s1;have t3:=fV 3 s1;have t4:=fV 4 s1;have t5:=fV 5 s1)
  | (go_at_call 89;fail))
 refine(fH 7 (by decide) (by decide) (v0:=o+d%16*256+a%16*4096+n%65536*65536) (k1:=k) (x1:=0) (by decide) (by decide) (by omega) (by omega) (by rw [show(o+d%16*256+a%16*4096+n%65536*65536)%256=o by omega];exact hq) s1 kX hB
  (G:= #[.int .u32 (o+d%16*256+a%16*4096+n%65536*65536), .int .u32 k, .int .u32 0]) (by repeat(first | exact Below.refl _ _ | refine Below.alloc ?_ (by first | exact Nat.le_refl _ | (simp only [World.size_alloc];omega)) _)) (by(repeat rw [Below.heap_alloc _ (.cells #[_] _) _ (by simp)]);simpa using heap_alloc_new (w1.alloc _) _) rfl (fun _=>rfl) (fun h=>absurd h (by decide))).mono ?_
 rintro e w2 ⟨rfl,ig,FP,kD,s2⟩
 have kG:=(bM kD).1
 clear kX zX
 by_cases hg:aV 7 (o+d%16*256+a%16*4096+n%65536*65536)
 ·rw [Sj hg]
  have dU:=fun w=>dW ((o+d%16*256+a%16*4096+n%65536*65536)%256) (0) (0) (0) (0) ((o+d%16*256+a%16*4096+n%65536*65536)/256/16/16%65536) k 0 o d a b c n k x w
  cases hr:eqc ((o+d%16*256+a%16*4096+n%65536*65536)%256) (0) (0) (0) (0) ((o+d%16*256+a%16*4096+n%65536*65536)/256/16/16%65536) k 0 o d a b c n k x
  ·rw [hr] at dU
   go_wp2
   go_ret2
   exact dD (fun h=>by have:=(bD.out.1 h).2;rw [hr] at this;cases this) ig s2
  ·rw [hr] at dU
   go_wp2
   go_ret2
   exact fJ (bD.out.2 ⟨hg,hr⟩) ig s1 s2 kD rfl (fun _=>rfl) (fun h=>absurd h (by decide)) rfl (by decide)
 ·rw [qm hg]
  go_wp2
  go_ret2
  exact dD (fun h=>hg (bD.out.1 h).1) ig s2
theorem Sr {v k x:Int} (h:aV 8 v):dJ 8 v k x= .tuple #[.agg #[.int .i64 (v%256), .int .i64 (v/256%16), .int .i64 (0), .int .i64 (0), .int .i64 (0), .int .i64 (0), .int .u32 k, .int .u32 0], .int .i64 2, .int .i64 0]:=by rw [aJ h,Mc];rfl
theorem VT (o d a b c n k x:Int):dS 8 o d a b c n k x↔((0≤d∧d<16)∧a=0∧b=0∧c=0∧n=0∧x=0):=by simp [dS,hD,hA,hB,hC,hK,nb,wd]
theorem F6 {o d a b c n k x:Int} (p0:0≤o) (p1:o<256):dS 8 o d a b c n k x↔(aV 8 (o+d%16*256+a%16*4096+(b%16*65536+c%16*1048576))∧eqc ((o+d%16*256+a%16*4096+(b%16*65536+c%16*1048576))%256) ((o+d%16*256+a%16*4096+(b%16*65536+c%16*1048576))/256%16) (0) (0) (0) (0) k 0 o d a b c n k x=true):=by
 rw [VT,mV,bQ]
 omega
theorem abm (o d a b c n k x:Int) (w:World) (hq:aF o=8) (p0:0≤o) (p1:o<256):
  Calls Try.prog 93 #[.agg #[.int .i64 o, .int .i64 d, .int .i64 a, .int .i64 b, .int .i64 c, .int .i64 n, .int .u32 k, .int .u32 x]] w (wK w 8 (o+d%16*256+a%16*4096+(b%16*65536+c%16*1048576)) k x (dS 8 o d a b c n k x)):=by
 have m1:=aS d
 have m2:=aS a
 have m3:=aS b
 have m4:=aS c
 have m5:=dL n
 have j1:=qc o d p0 p1
 have j2:=qg o d a p0 p1
 have j3:=qh o d a n p0 p1
 have j4:=jZ b c
 have j5:=qj o d a b c p0 p1
 have CG:=ku
 have bD:=κ (F6 (d:=d) (a:=a) (b:=b) (c:=c) (n:=n) (k:=k) (x:=x) p0 p1)
 go_enter Try.func93,Try.ntmps93
 go_wp2_with (first
  | (go_at_call 149;refine(aN o _).mono ?_;rintro e w1 ⟨rfl,aQ⟩;rw [hq,show dO 8= #[.bool true, .bool false, .bool false, .bool false, .bool false, .int .i64 0, .int .i64 2] from rfl];obtain⟨kX,zX,s1,hB⟩:=fG aQ;clear aQ;have t1:=fV 1 s1;have t2:=fV 2 s1;have t3:=fV 3 s1;have t4:=fV 4 s1;have t5:=fV 5 s1)
  | (go_at_call 89;fail))
 refine(fH 8 (by decide) (by decide) (v0:=o+d%16*256+a%16*4096+(b%16*65536+c%16*1048576)) (k1:=k) (x1:=0) (by decide) (by decide) (by omega) (by omega) (by rw [show(o+d%16*256+a%16*4096+(b%16*65536+c%16*1048576))%256=o by omega];exact hq) s1 kX hB
  (G:= #[.int .u32 (o+d%16*256+a%16*4096+(b%16*65536+c%16*1048576)), .int .u32 k, .int .u32 0]) (by repeat(first | exact Below.refl _ _ | refine Below.alloc ?_ (by first | exact Nat.le_refl _ | (simp only [World.size_alloc];omega)) _)) (by(repeat rw [Below.heap_alloc _ (.cells #[_] _) _ (by simp)]);simpa using heap_alloc_new (w1.alloc _) _) rfl (fun _=>rfl) (fun h=>absurd h (by decide))).mono ?_
 rintro e w2 ⟨rfl,ig,FP,kD,s2⟩
 have kG:=(bM kD).1
 clear kX zX
 by_cases hg:aV 8 (o+d%16*256+a%16*4096+(b%16*65536+c%16*1048576))
 ·rw [Sr hg]
  have dU:=fun w=>dW ((o+d%16*256+a%16*4096+(b%16*65536+c%16*1048576))%256) ((o+d%16*256+a%16*4096+(b%16*65536+c%16*1048576))/256%16) (0) (0) (0) (0) k 0 o d a b c n k x w
  cases hr:eqc ((o+d%16*256+a%16*4096+(b%16*65536+c%16*1048576))%256) ((o+d%16*256+a%16*4096+(b%16*65536+c%16*1048576))/256%16) (0) (0) (0) (0) k 0 o d a b c n k x
  ·rw [hr] at dU
   go_wp2
   go_ret2
   exact dD (fun h=>by have:=(bD.out.1 h).2;rw [hr] at this;cases this) ig s2
  ·rw [hr] at dU
   go_wp2
   go_ret2
   exact fJ (bD.out.2 ⟨hg,hr⟩) ig s1 s2 kD rfl (fun _=>rfl) (fun h=>absurd h (by decide)) rfl (by decide)
 ·rw [qm hg]
  go_wp2
  go_ret2
  exact dD (fun h=>hg (bD.out.1 h).1) ig s2
theorem Sv {v k x:Int} (h:aV 9 v):dJ 9 v k x= .tuple #[.agg #[.int .i64 (v%256), .int .i64 (0), .int .i64 (v/256/16%16), .int .i64 (0), .int .i64 (0), .int .i64 (v/256/16/16%65536), .int .u32 0, .int .u32 0], .int .i64 1, .int .i64 0]:=by rw [aJ h,Md];rfl
theorem Nh (o d a b c n k x:Int):dS 9 o d a b c n k x↔(d=0∧(0≤a∧a<16)∧b=0∧c=0∧(0≤n∧n<65)∧k=0∧x=0):=by simp [dS,hD,hA,hB,hC,hK,nb,wd]
theorem F7 {o d a b c n k x:Int} (p0:0≤o) (p1:o<256):dS 9 o d a b c n k x↔(aV 9 (o+d%16*256+a%16*4096+n%65536*65536)∧eqc ((o+d%16*256+a%16*4096+n%65536*65536)%256) (0) ((o+d%16*256+a%16*4096+n%65536*65536)/256/16%16) (0) (0) ((o+d%16*256+a%16*4096+n%65536*65536)/256/16/16%65536) 0 0 o d a b c n k x=true):=by
 rw [Nh,mW,bQ]
 omega
theorem abn (o d a b c n k x:Int) (w:World) (hq:aF o=9) (p0:0≤o) (p1:o<256):
  Calls Try.prog 93 #[.agg #[.int .i64 o, .int .i64 d, .int .i64 a, .int .i64 b, .int .i64 c, .int .i64 n, .int .u32 k, .int .u32 x]] w (wK w 9 (o+d%16*256+a%16*4096+n%65536*65536) k x (dS 9 o d a b c n k x)):=by
 have m1:=aS d
 have m2:=aS a
 have m3:=aS b
 have m4:=aS c
 have m5:=dL n
 have j1:=qc o d p0 p1
 have j2:=qg o d a p0 p1
 have j3:=qh o d a n p0 p1
 have j4:=jZ b c
 have j5:=qj o d a b c p0 p1
 have CG:=ku
 have bD:=κ (F7 (d:=d) (a:=a) (b:=b) (c:=c) (n:=n) (k:=k) (x:=x) p0 p1)
 go_enter Try.func93,Try.ntmps93
 go_wp2_with (first
  | (go_at_call 149;refine(aN o _).mono ?_;rintro e w1 ⟨rfl,aQ⟩;rw [hq,show dO 9= #[.bool false, .bool true, .bool false, .bool false, .bool false, .int .i64 65, .int .i64 1] from rfl];obtain⟨kX,zX,s1,hB⟩:=fG aQ;clear aQ;have t1:=fV 1 s1;have t2:=fV 2 s1;have t3:=fV 3 s1;have t4:=fV 4 s1;have t5:=fV 5 s1)
  | (go_at_call 89;fail))
 refine(fH 9 (by decide) (by decide) (v0:=o+d%16*256+a%16*4096+n%65536*65536) (k1:=0) (x1:=0) (by decide) (by decide) (by omega) (by omega) (by rw [show(o+d%16*256+a%16*4096+n%65536*65536)%256=o by omega];exact hq) s1 kX hB
  (G:= #[.int .u32 (o+d%16*256+a%16*4096+n%65536*65536), .int .u32 0, .int .u32 0]) (by repeat(first | exact Below.refl _ _ | refine Below.alloc ?_ (by first | exact Nat.le_refl _ | (simp only [World.size_alloc];omega)) _)) (by(repeat rw [Below.heap_alloc _ (.cells #[_] _) _ (by simp)]);simpa using heap_alloc_new (w1.alloc _) _) rfl (fun h=>absurd h (by decide)) (fun h=>absurd h (by decide))).mono ?_
 rintro e w2 ⟨rfl,ig,FP,kD,s2⟩
 have kG:=(bM kD).1
 clear kX zX
 by_cases hg:aV 9 (o+d%16*256+a%16*4096+n%65536*65536)
 ·rw [Sv hg]
  have dU:=fun w=>dW ((o+d%16*256+a%16*4096+n%65536*65536)%256) (0) ((o+d%16*256+a%16*4096+n%65536*65536)/256/16%16) (0) (0) ((o+d%16*256+a%16*4096+n%65536*65536)/256/16/16%65536) 0 0 o d a b c n k x w
  cases hr:eqc ((o+d%16*256+a%16*4096+n%65536*65536)%256) (0) ((o+d%16*256+a%16*4096+n%65536*65536)/256/16%16) (0) (0) ((o+d%16*256+a%16*4096+n%65536*65536)/256/16/16%65536) 0 0 o d a b c n k x
  ·rw [hr] at dU
   go_wp2
   go_ret2
   exact dD (fun h=>by have:=(bD.out.1 h).2;rw [hr] at this;cases this) ig s2
  ·rw [hr] at dU
   go_wp2
   go_ret2
   exact fJ (bD.out.2 ⟨hg,hr⟩) ig s1 s2 kD rfl (fun h=>absurd h (by decide)) (fun h=>absurd h (by decide)) rfl (by decide)
 ·rw [qm hg]
  go_wp2
  go_ret2
  exact dD (fun h=>hg (bD.out.1 h).1) ig s2
theorem Nj {v k x:Int} (h:aV 10 v):dJ 10 v k x= .tuple #[.agg #[.int .i64 (v%256), .int .i64 (v/256%16), .int .i64 (0), .int .i64 (0), .int .i64 (0), .int .i64 (v/256/16/16%65536), .int .u32 0, .int .u32 0], .int .i64 1, .int .i64 0]:=by rw [aJ h,DT];rfl
theorem Ea (o d a b c n k x:Int):dS 10 o d a b c n k x↔((0≤d∧d<16)∧a=0∧b=0∧c=0∧(0≤n∧n<12)∧k=0∧x=0):=by simp [dS,hD,hA,hB,hC,hK,nb,wd]
theorem Az {o d a b c n k x:Int} (p0:0≤o) (p1:o<256):dS 10 o d a b c n k x↔(aV 10 (o+d%16*256+a%16*4096+n%65536*65536)∧eqc ((o+d%16*256+a%16*4096+n%65536*65536)%256) ((o+d%16*256+a%16*4096+n%65536*65536)/256%16) (0) (0) (0) ((o+d%16*256+a%16*4096+n%65536*65536)/256/16/16%65536) 0 0 o d a b c n k x=true):=by
 rw [Ea,jO,bQ]
 omega
theorem X8 (o d a b c n k x:Int) (w:World) (hq:aF o=10) (p0:0≤o) (p1:o<256):
  Calls Try.prog 93 #[.agg #[.int .i64 o, .int .i64 d, .int .i64 a, .int .i64 b, .int .i64 c, .int .i64 n, .int .u32 k, .int .u32 x]] w (wK w 10 (o+d%16*256+a%16*4096+n%65536*65536) k x (dS 10 o d a b c n k x)):=by
 have m1:=aS d
 have m2:=aS a
 have m3:=aS b
 have m4:=aS c
 have m5:=dL n
 have j1:=qc o d p0 p1
 have j2:=qg o d a p0 p1
 have j3:=qh o d a n p0 p1
 have j4:=jZ b c
 have j5:=qj o d a b c p0 p1
 have CG:=ku
 have bD:=κ (Az (d:=d) (a:=a) (b:=b) (c:=c) (n:=n) (k:=k) (x:=x) p0 p1)
 go_enter Try.func93,Try.ntmps93
 go_wp2_with (first
  | (go_at_call 149;refine(aN o _).mono ?_;rintro e w1 ⟨rfl,aQ⟩;rw [hq,show dO 10= #[.bool true, .bool false, .bool false, .bool false, .bool false, .int .i64 12, .int .i64 1] from rfl];obtain⟨kX,zX,s1,hB⟩:=fG aQ;clear aQ;have t1:=fV 1 s1;have t2:=fV 2 s1;have t3:=fV 3 s1;have t4:=fV 4 s1;have t5:=fV 5 s1)
  | (go_at_call 89;fail))
 refine(fH 10 (by decide) (by decide) (v0:=o+d%16*256+a%16*4096+n%65536*65536) (k1:=0) (x1:=0) (by decide) (by decide) (by omega) (by omega) (by rw [show(o+d%16*256+a%16*4096+n%65536*65536)%256=o by omega];exact hq) s1 kX hB
  (G:= #[.int .u32 (o+d%16*256+a%16*4096+n%65536*65536), .int .u32 0, .int .u32 0]) (by repeat(first | exact Below.refl _ _ | refine Below.alloc ?_ (by first | exact Nat.le_refl _ | (simp only [World.size_alloc];omega)) _)) (by(repeat rw [Below.heap_alloc _ (.cells #[_] _) _ (by simp)]);simpa using heap_alloc_new (w1.alloc _) _) rfl (fun h=>absurd h (by decide)) (fun h=>absurd h (by decide))).mono ?_
 rintro e w2 ⟨rfl,ig,FP,kD,s2⟩
 have kG:=(bM kD).1
 clear kX zX
 by_cases hg:aV 10 (o+d%16*256+a%16*4096+n%65536*65536)
 ·rw [Nj hg]
  have dU:=fun w=>dW ((o+d%16*256+a%16*4096+n%65536*65536)%256) ((o+d%16*256+a%16*4096+n%65536*65536)/256%16) (0) (0) (0) ((o+d%16*256+a%16*4096+n%65536*65536)/256/16/16%65536) 0 0 o d a b c n k x w
  cases hr:eqc ((o+d%16*256+a%16*4096+n%65536*65536)%256) ((o+d%16*256+a%16*4096+n%65536*65536)/256%16) (0) (0) (0) ((o+d%16*256+a%16*4096+n%65536*65536)/256/16/16%65536) 0 0 o d a b c n k x
  ·rw [hr] at dU
   go_wp2
   go_ret2
   exact dD (fun h=>by have:=(bD.out.1 h).2;rw [hr] at this;cases this) ig s2
  ·rw [hr] at dU
   go_wp2
   go_ret2
   exact fJ (bD.out.2 ⟨hg,hr⟩) ig s1 s2 kD rfl (fun h=>absurd h (by decide)) (fun h=>absurd h (by decide)) rfl (by decide)
 ·rw [qm hg]
  go_wp2
  go_ret2
  exact dD (fun h=>hg (bD.out.1 h).1) ig s2
end Go.Proofs.Ytcjcmnnhmajocab.Ho
