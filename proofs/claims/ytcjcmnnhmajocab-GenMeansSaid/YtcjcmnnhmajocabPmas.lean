import Derived.Test.YtcjcmnnhmajocabPmar
set_option linter.unusedVariables false
set_option linter.unusedSimpArgs false
set_option maxRecDepth 100000
set_option maxHeartbeats 16000000
namespace Go.Proofs.Ytcjcmnnhmajocab.Ho
open Go.RowKit Kt
theorem RS {v k x:Int} (h:aV 1 v):dJ 1 v k x= .tuple #[.agg #[.int .i64 (v%256), .int .i64 (v/256%16), .int .i64 (v/256/16%16), .int .i64 (v/256/16/16%16), .int .i64 (0), .int .i64 (0), .int .u32 0, .int .u32 0], .int .i64 1, .int .i64 0]:=by rw [aJ h,LW];rfl
theorem Na (o d a b c n k x:Int):dS 1 o d a b c n k x↔((0≤d∧d<16)∧(0≤a∧a<16)∧(0≤b∧b<16)∧c=0∧n=0∧k=0∧x=0):=by simp [dS,hD,hA,hB,hC,hK,nb,wd]
theorem FN {o d a b c n k x:Int} (p0:0≤o) (p1:o<256):dS 1 o d a b c n k x↔(aV 1 (o+d%16*256+a%16*4096+(b%16*65536+c%16*1048576))∧eqc ((o+d%16*256+a%16*4096+(b%16*65536+c%16*1048576))%256) ((o+d%16*256+a%16*4096+(b%16*65536+c%16*1048576))/256%16) ((o+d%16*256+a%16*4096+(b%16*65536+c%16*1048576))/256/16%16) ((o+d%16*256+a%16*4096+(b%16*65536+c%16*1048576))/256/16/16%16) (0) (0) 0 0 o d a b c n k x=true):=by
 rw [Na,mF,bQ]
 omega
theorem abe (o d a b c n k x:Int) (w:World) (hq:aF o=1) (p0:0≤o) (p1:o<256):
  Calls Try.prog 93 #[.agg #[.int .i64 o, .int .i64 d, .int .i64 a, .int .i64 b, .int .i64 c, .int .i64 n, .int .u32 k, .int .u32 x]] w (wK w 1 (o+d%16*256+a%16*4096+(b%16*65536+c%16*1048576)) k x (dS 1 o d a b c n k x)):=by
 have m1:=aS d
 have m2:=aS a
 have m3:=aS b
 have m4:=aS c
 have m5:=dL n
 have j1:=qc o d p0 p1
 have j2:=qg o d a p0 p1
 have j3:=qh o d a n p0 p1
 have j4:=jZ b c
 have j5:=qj o d a b c p0 p1
 have CG:=ku
 have bD:=κ (FN (d:=d) (a:=a) (b:=b) (c:=c) (n:=n) (k:=k) (x:=x) p0 p1)
 go_enter Try.func93,Try.ntmps93
 go_wp2_with (first
  | (go_at_call 149;refine(aN o _).mono ?_;rintro e w1 ⟨rfl,aQ⟩;rw [hq,show dO 1= #[.bool true, .bool true, .bool true, .bool false, .bool false, .int .i64 0, .int .i64 1] from rfl];obtain⟨kX,zX,s1,hB⟩:=fG aQ;clear aQ;have t1:=fV 1 s1;have t2:=fV 2 s1;have t3:=fV 3 s1;have t4:=fV 4 s1;have t5:=fV 5 s1)
  | (go_at_call 89;fail))
 refine(fH 1 (by decide) (by decide) (v0:=o+d%16*256+a%16*4096+(b%16*65536+c%16*1048576)) (k1:=0) (x1:=0) (by decide) (by decide) (by omega) (by omega) (by rw [show(o+d%16*256+a%16*4096+(b%16*65536+c%16*1048576))%256=o by omega];exact hq) s1 kX hB
  (G:= #[.int .u32 (o+d%16*256+a%16*4096+(b%16*65536+c%16*1048576)), .int .u32 0, .int .u32 0]) (by repeat(first | exact Below.refl _ _ | refine Below.alloc ?_ (by first | exact Nat.le_refl _ | (simp only [World.size_alloc];omega)) _)) (by(repeat rw [Below.heap_alloc _ (.cells #[_] _) _ (by simp)]);simpa using heap_alloc_new (w1.alloc _) _) rfl (fun h=>absurd h (by decide)) (fun h=>absurd h (by decide))).mono ?_
 rintro e w2 ⟨rfl,ig,FP,kD,s2⟩
 have kG:=(bM kD).1
 clear kX zX
 by_cases hg:aV 1 (o+d%16*256+a%16*4096+(b%16*65536+c%16*1048576))
 ·rw [RS hg]
  have dU:=fun w=>dW ((o+d%16*256+a%16*4096+(b%16*65536+c%16*1048576))%256) ((o+d%16*256+a%16*4096+(b%16*65536+c%16*1048576))/256%16) ((o+d%16*256+a%16*4096+(b%16*65536+c%16*1048576))/256/16%16) ((o+d%16*256+a%16*4096+(b%16*65536+c%16*1048576))/256/16/16%16) (0) (0) 0 0 o d a b c n k x w
  cases hr:eqc ((o+d%16*256+a%16*4096+(b%16*65536+c%16*1048576))%256) ((o+d%16*256+a%16*4096+(b%16*65536+c%16*1048576))/256%16) ((o+d%16*256+a%16*4096+(b%16*65536+c%16*1048576))/256/16%16) ((o+d%16*256+a%16*4096+(b%16*65536+c%16*1048576))/256/16/16%16) (0) (0) 0 0 o d a b c n k x
  ·rw [hr] at dU
   go_wp2
   go_ret2
   exact dD (fun h=>by have:=(bD.out.1 h).2;rw [hr] at this;cases this) ig s2
  ·rw [hr] at dU
   go_wp2
   go_ret2
   exact fJ (bD.out.2 ⟨hg,hr⟩) ig s1 s2 kD rfl (fun h=>absurd h (by decide)) (fun h=>absurd h (by decide)) rfl (by decide)
 ·rw [qm hg]
  go_wp2
  go_ret2
  exact dD (fun h=>hg (bD.out.1 h).1) ig s2
theorem RU {v k x:Int} (h:aV 2 v):dJ 2 v k x= .tuple #[.agg #[.int .i64 (v%256), .int .i64 (v/256%16), .int .i64 (v/256/16%16), .int .i64 (0), .int .i64 (0), .int .i64 (0), .int .u32 0, .int .u32 0], .int .i64 1, .int .i64 0]:=by rw [aJ h,LX];rfl
theorem FQ (o d a b c n k x:Int):dS 2 o d a b c n k x↔((0≤d∧d<16)∧(0≤a∧a<16)∧b=0∧c=0∧n=0∧k=0∧x=0):=by simp [dS,hD,hA,hB,hC,hK,nb,wd]
theorem FT {o d a b c n k x:Int} (p0:0≤o) (p1:o<256):dS 2 o d a b c n k x↔(aV 2 (o+d%16*256+a%16*4096+(b%16*65536+c%16*1048576))∧eqc ((o+d%16*256+a%16*4096+(b%16*65536+c%16*1048576))%256) ((o+d%16*256+a%16*4096+(b%16*65536+c%16*1048576))/256%16) ((o+d%16*256+a%16*4096+(b%16*65536+c%16*1048576))/256/16%16) (0) (0) (0) 0 0 o d a b c n k x=true):=by
 rw [FQ,mG,bQ]
 omega
theorem abf (o d a b c n k x:Int) (w:World) (hq:aF o=2) (p0:0≤o) (p1:o<256):
  Calls Try.prog 93 #[.agg #[.int .i64 o, .int .i64 d, .int .i64 a, .int .i64 b, .int .i64 c, .int .i64 n, .int .u32 k, .int .u32 x]] w (wK w 2 (o+d%16*256+a%16*4096+(b%16*65536+c%16*1048576)) k x (dS 2 o d a b c n k x)):=by
 have m1:=aS d
 have m2:=aS a
 have m3:=aS b
 have m4:=aS c
 have m5:=dL n
 have j1:=qc o d p0 p1
 have j2:=qg o d a p0 p1
 have j3:=qh o d a n p0 p1
 have j4:=jZ b c
 have j5:=qj o d a b c p0 p1
 have CG:=ku
 have bD:=κ (FT (d:=d) (a:=a) (b:=b) (c:=c) (n:=n) (k:=k) (x:=x) p0 p1)
 go_enter Try.func93,Try.ntmps93
 go_wp2_with (first
  | (go_at_call 149;refine(aN o _).mono ?_;rintro e w1 ⟨rfl,aQ⟩;rw [hq,show dO 2= #[.bool true, .bool true, .bool false, .bool false, .bool false, .int .i64 0, .int .i64 1] from rfl];obtain⟨kX,zX,s1,hB⟩:=fG aQ;clear aQ;have t1:=fV 1 s1;have t2:=fV 2 s1;have t3:=fV 3 s1;have t4:=fV 4 s1;have t5:=fV 5 s1)
  | (go_at_call 89;fail))
 refine(fH 2 (by decide) (by decide) (v0:=o+d%16*256+a%16*4096+(b%16*65536+c%16*1048576)) (k1:=0) (x1:=0) (by decide) (by decide) (by omega) (by omega) (by rw [show(o+d%16*256+a%16*4096+(b%16*65536+c%16*1048576))%256=o by omega];exact hq) s1 kX hB
  (G:= #[.int .u32 (o+d%16*256+a%16*4096+(b%16*65536+c%16*1048576)), .int .u32 0, .int .u32 0]) (by repeat(first | exact Below.refl _ _ | refine Below.alloc ?_ (by first | exact Nat.le_refl _ | (simp only [World.size_alloc];omega)) _)) (by(repeat rw [Below.heap_alloc _ (.cells #[_] _) _ (by simp)]);simpa using heap_alloc_new (w1.alloc _) _) rfl (fun h=>absurd h (by decide)) (fun h=>absurd h (by decide))).mono ?_
 rintro e w2 ⟨rfl,ig,FP,kD,s2⟩
 have kG:=(bM kD).1
 clear kX zX
 by_cases hg:aV 2 (o+d%16*256+a%16*4096+(b%16*65536+c%16*1048576))
 ·rw [RU hg]
  have dU:=fun w=>dW ((o+d%16*256+a%16*4096+(b%16*65536+c%16*1048576))%256) ((o+d%16*256+a%16*4096+(b%16*65536+c%16*1048576))/256%16) ((o+d%16*256+a%16*4096+(b%16*65536+c%16*1048576))/256/16%16) (0) (0) (0) 0 0 o d a b c n k x w
  cases hr:eqc ((o+d%16*256+a%16*4096+(b%16*65536+c%16*1048576))%256) ((o+d%16*256+a%16*4096+(b%16*65536+c%16*1048576))/256%16) ((o+d%16*256+a%16*4096+(b%16*65536+c%16*1048576))/256/16%16) (0) (0) (0) 0 0 o d a b c n k x
  ·rw [hr] at dU
   go_wp2
   go_ret2
   exact dD (fun h=>by have:=(bD.out.1 h).2;rw [hr] at this;cases this) ig s2
  ·rw [hr] at dU
   go_wp2
   go_ret2
   exact fJ (bD.out.2 ⟨hg,hr⟩) ig s1 s2 kD rfl (fun h=>absurd h (by decide)) (fun h=>absurd h (by decide)) rfl (by decide)
 ·rw [qm hg]
  go_wp2
  go_ret2
  exact dD (fun h=>hg (bD.out.1 h).1) ig s2
theorem RX {v k x:Int} (h:aV 3 v):dJ 3 v k x= .tuple #[.agg #[.int .i64 (v%256), .int .i64 (v/256%16), .int .i64 (v/256/16%16), .int .i64 (v/256/16/16%16), .int .i64 (v/256/16/16/16%16), .int .i64 (0), .int .u32 0, .int .u32 0], .int .i64 1, .int .i64 0]:=by rw [aJ h,LY];rfl
theorem FU (o d a b c n k x:Int):dS 3 o d a b c n k x↔((0≤d∧d<16)∧(0≤a∧a<16)∧(0≤b∧b<16)∧(0≤c∧c<16)∧n=0∧k=0∧x=0):=by simp [dS,hD,hA,hB,hC,hK,nb,wd]
theorem FV {o d a b c n k x:Int} (p0:0≤o) (p1:o<256):dS 3 o d a b c n k x↔(aV 3 (o+d%16*256+a%16*4096+(b%16*65536+c%16*1048576))∧eqc ((o+d%16*256+a%16*4096+(b%16*65536+c%16*1048576))%256) ((o+d%16*256+a%16*4096+(b%16*65536+c%16*1048576))/256%16) ((o+d%16*256+a%16*4096+(b%16*65536+c%16*1048576))/256/16%16) ((o+d%16*256+a%16*4096+(b%16*65536+c%16*1048576))/256/16/16%16) ((o+d%16*256+a%16*4096+(b%16*65536+c%16*1048576))/256/16/16/16%16) (0) 0 0 o d a b c n k x=true):=by
 rw [FU,mJ,bQ]
 omega
theorem abg (o d a b c n k x:Int) (w:World) (hq:aF o=3) (p0:0≤o) (p1:o<256):
  Calls Try.prog 93 #[.agg #[.int .i64 o, .int .i64 d, .int .i64 a, .int .i64 b, .int .i64 c, .int .i64 n, .int .u32 k, .int .u32 x]] w (wK w 3 (o+d%16*256+a%16*4096+(b%16*65536+c%16*1048576)) k x (dS 3 o d a b c n k x)):=by
 have m1:=aS d
 have m2:=aS a
 have m3:=aS b
 have m4:=aS c
 have m5:=dL n
 have j1:=qc o d p0 p1
 have j2:=qg o d a p0 p1
 have j3:=qh o d a n p0 p1
 have j4:=jZ b c
 have j5:=qj o d a b c p0 p1
 have CG:=ku
 have bD:=κ (FV (d:=d) (a:=a) (b:=b) (c:=c) (n:=n) (k:=k) (x:=x) p0 p1)
 go_enter Try.func93,Try.ntmps93
 go_wp2_with (first
  | (go_at_call 149;refine(aN o _).mono ?_;rintro e w1 ⟨rfl,aQ⟩;rw [hq,show dO 3= #[.bool true, .bool true, .bool true, .bool true, .bool false, .int .i64 0, .int .i64 1] from rfl];obtain⟨kX,zX,s1,hB⟩:=fG aQ;clear aQ;have t1:=fV 1 s1;have t2:=fV 2 s1;have t3:=fV 3 s1;have t4:=fV 4 s1;have t5:=fV 5 s1)
  | (go_at_call 89;fail))
 refine(fH 3 (by decide) (by decide) (v0:=o+d%16*256+a%16*4096+(b%16*65536+c%16*1048576)) (k1:=0) (x1:=0) (by decide) (by decide) (by omega) (by omega) (by rw [show(o+d%16*256+a%16*4096+(b%16*65536+c%16*1048576))%256=o by omega];exact hq) s1 kX hB
  (G:= #[.int .u32 (o+d%16*256+a%16*4096+(b%16*65536+c%16*1048576)), .int .u32 0, .int .u32 0]) (by repeat(first | exact Below.refl _ _ | refine Below.alloc ?_ (by first | exact Nat.le_refl _ | (simp only [World.size_alloc];omega)) _)) (by(repeat rw [Below.heap_alloc _ (.cells #[_] _) _ (by simp)]);simpa using heap_alloc_new (w1.alloc _) _) rfl (fun h=>absurd h (by decide)) (fun h=>absurd h (by decide))).mono ?_
 rintro e w2 ⟨rfl,ig,FP,kD,s2⟩
 have kG:=(bM kD).1
 clear kX zX
 by_cases hg:aV 3 (o+d%16*256+a%16*4096+(b%16*65536+c%16*1048576))
 ·rw [RX hg]
  have dU:=fun w=>dW ((o+d%16*256+a%16*4096+(b%16*65536+c%16*1048576))%256) ((o+d%16*256+a%16*4096+(b%16*65536+c%16*1048576))/256%16) ((o+d%16*256+a%16*4096+(b%16*65536+c%16*1048576))/256/16%16) ((o+d%16*256+a%16*4096+(b%16*65536+c%16*1048576))/256/16/16%16) ((o+d%16*256+a%16*4096+(b%16*65536+c%16*1048576))/256/16/16/16%16) (0) 0 0 o d a b c n k x w
  cases hr:eqc ((o+d%16*256+a%16*4096+(b%16*65536+c%16*1048576))%256) ((o+d%16*256+a%16*4096+(b%16*65536+c%16*1048576))/256%16) ((o+d%16*256+a%16*4096+(b%16*65536+c%16*1048576))/256/16%16) ((o+d%16*256+a%16*4096+(b%16*65536+c%16*1048576))/256/16/16%16) ((o+d%16*256+a%16*4096+(b%16*65536+c%16*1048576))/256/16/16/16%16) (0) 0 0 o d a b c n k x
  ·rw [hr] at dU
   go_wp2
   go_ret2
   exact dD (fun h=>by have:=(bD.out.1 h).2;rw [hr] at this;cases this) ig s2
  ·rw [hr] at dU
   go_wp2
   go_ret2
   exact fJ (bD.out.2 ⟨hg,hr⟩) ig s1 s2 kD rfl (fun h=>absurd h (by decide)) (fun h=>absurd h (by decide)) rfl (by decide)
 ·rw [qm hg]
  go_wp2
  go_ret2
  exact dD (fun h=>hg (bD.out.1 h).1) ig s2
theorem RY {v k x:Int} (h:aV 4 v):dJ 4 v k x= .tuple #[.agg #[.int .i64 (v%256), .int .i64 (v/256%16), .int .i64 (v/256/16%16), .int .i64 (0), .int .i64 (0), .int .i64 (v/256/16/16%65536), .int .u32 k, .int .u32 0], .int .i64 2, .int .i64 0]:=by rw [aJ h,LZ];rfl
theorem FW (o d a b c n k x:Int):dS 4 o d a b c n k x↔((0≤d∧d<16)∧(0≤a∧a<16)∧b=0∧c=0∧(0≤n∧n<65)∧x=0):=by simp [dS,hD,hA,hB,hC,hK,nb,wd]
theorem FX {o d a b c n k x:Int} (p0:0≤o) (p1:o<256):dS 4 o d a b c n k x↔(aV 4 (o+d%16*256+a%16*4096+n%65536*65536)∧eqc ((o+d%16*256+a%16*4096+n%65536*65536)%256) ((o+d%16*256+a%16*4096+n%65536*65536)/256%16) ((o+d%16*256+a%16*4096+n%65536*65536)/256/16%16) (0) (0) ((o+d%16*256+a%16*4096+n%65536*65536)/256/16/16%65536) k 0 o d a b c n k x=true):=by
 rw [FW,mM,bQ]
 omega
theorem abh (o d a b c n k x:Int) (w:World) (hq:aF o=4) (p0:0≤o) (p1:o<256):
  Calls Try.prog 93 #[.agg #[.int .i64 o, .int .i64 d, .int .i64 a, .int .i64 b, .int .i64 c, .int .i64 n, .int .u32 k, .int .u32 x]] w (wK w 4 (o+d%16*256+a%16*4096+n%65536*65536) k x (dS 4 o d a b c n k x)):=by
 have m1:=aS d
 have m2:=aS a
 have m3:=aS b
 have m4:=aS c
 have m5:=dL n
 have j1:=qc o d p0 p1
 have j2:=qg o d a p0 p1
 have j3:=qh o d a n p0 p1
 have j4:=jZ b c
 have j5:=qj o d a b c p0 p1
 have CG:=ku
 have bD:=κ (FX (d:=d) (a:=a) (b:=b) (c:=c) (n:=n) (k:=k) (x:=x) p0 p1)
 go_enter Try.func93,Try.ntmps93
 go_wp2_with (first
  | (go_at_call 149;refine(aN o _).mono ?_;rintro e w1 ⟨rfl,aQ⟩;rw [hq,show dO 4= #[.bool true, .bool true, .bool false, .bool false, .bool false, .int .i64 65, .int .i64 2] from rfl];obtain⟨kX,zX,s1,hB⟩:=fG aQ;clear aQ;have t1:=fV 1 s1;have t2:=fV 2 s1;have t3:=fV 3 s1;have t4:=fV 4 s1;have t5:=fV 5 s1)
  | (go_at_call 89;fail))
 refine(fH 4 (by decide) (by decide) (v0:=o+d%16*256+a%16*4096+n%65536*65536) (k1:=k) (x1:=0) (by decide) (by decide) (by omega) (by omega) (by rw [show(o+d%16*256+a%16*4096+n%65536*65536)%256=o by omega];exact hq) s1 kX hB
  (G:= #[.int .u32 (o+d%16*256+a%16*4096+n%65536*65536), .int .u32 k, .int .u32 0]) (by repeat(first | exact Below.refl _ _ | refine Below.alloc ?_ (by first | exact Nat.le_refl _ | (simp only [World.size_alloc];omega)) _)) (by(repeat rw [Below.heap_alloc _ (.cells #[_] _) _ (by simp)]);simpa using heap_alloc_new (w1.alloc _) _) rfl (fun _=>rfl) (fun h=>absurd h (by decide))).mono ?_
 rintro e w2 ⟨rfl,ig,FP,kD,s2⟩
 have kG:=(bM kD).1
 clear kX zX
 by_cases hg:aV 4 (o+d%16*256+a%16*4096+n%65536*65536)
 ·rw [RY hg]
  have dU:=fun w=>dW ((o+d%16*256+a%16*4096+n%65536*65536)%256) ((o+d%16*256+a%16*4096+n%65536*65536)/256%16) ((o+d%16*256+a%16*4096+n%65536*65536)/256/16%16) (0) (0) ((o+d%16*256+a%16*4096+n%65536*65536)/256/16/16%65536) k 0 o d a b c n k x w
  cases hr:eqc ((o+d%16*256+a%16*4096+n%65536*65536)%256) ((o+d%16*256+a%16*4096+n%65536*65536)/256%16) ((o+d%16*256+a%16*4096+n%65536*65536)/256/16%16) (0) (0) ((o+d%16*256+a%16*4096+n%65536*65536)/256/16/16%65536) k 0 o d a b c n k x
  ·rw [hr] at dU
   go_wp2
   go_ret2
   exact dD (fun h=>by have:=(bD.out.1 h).2;rw [hr] at this;cases this) ig s2
  ·rw [hr] at dU
   go_wp2
   go_ret2
   exact fJ (bD.out.2 ⟨hg,hr⟩) ig s1 s2 kD rfl (fun _=>rfl) (fun h=>absurd h (by decide)) rfl (by decide)
 ·rw [qm hg]
  go_wp2
  go_ret2
  exact dD (fun h=>hg (bD.out.1 h).1) ig s2
theorem RZ {v k x:Int} (h:aV 5 v):dJ 5 v k x= .tuple #[.agg #[.int .i64 (v%256), .int .i64 (v/256%16), .int .i64 (0), .int .i64 (0), .int .i64 (0), .int .i64 (0), .int .u32 0, .int .u32 0], .int .i64 1, .int .i64 0]:=by rw [aJ h,L6];rfl
theorem Nb (o d a b c n k x:Int):dS 5 o d a b c n k x↔((0≤d∧d<16)∧a=0∧b=0∧c=0∧n=0∧k=0∧x=0):=by simp [dS,hD,hA,hB,hC,hK,nb,wd]
theorem FY {o d a b c n k x:Int} (p0:0≤o) (p1:o<256):dS 5 o d a b c n k x↔(aV 5 (o+d%16*256+a%16*4096+(b%16*65536+c%16*1048576))∧eqc ((o+d%16*256+a%16*4096+(b%16*65536+c%16*1048576))%256) ((o+d%16*256+a%16*4096+(b%16*65536+c%16*1048576))/256%16) (0) (0) (0) (0) 0 0 o d a b c n k x=true):=by
 rw [Nb,mO,bQ]
 omega
theorem abj (o d a b c n k x:Int) (w:World) (hq:aF o=5) (p0:0≤o) (p1:o<256):
  Calls Try.prog 93 #[.agg #[.int .i64 o, .int .i64 d, .int .i64 a, .int .i64 b, .int .i64 c, .int .i64 n, .int .u32 k, .int .u32 x]] w (wK w 5 (o+d%16*256+a%16*4096+(b%16*65536+c%16*1048576)) k x (dS 5 o d a b c n k x)):=by
 have m1:=aS d
 have m2:=aS a
 have m3:=aS b
 have m4:=aS c
 have m5:=dL n
 have j1:=qc o d p0 p1
 have j2:=qg o d a p0 p1
 have j3:=qh o d a n p0 p1
 have j4:=jZ b c
 have j5:=qj o d a b c p0 p1
 have CG:=ku
 have bD:=κ (FY (d:=d) (a:=a) (b:=b) (c:=c) (n:=n) (k:=k) (x:=x) p0 p1)
 go_enter Try.func93,Try.ntmps93
 go_wp2_with (first
  | (go_at_call 149;refine(aN o _).mono ?_;rintro e w1 ⟨rfl,aQ⟩;rw [hq,show dO 5= #[.bool true, .bool false, .bool false, .bool false, .bool false, .int .i64 0, .int .i64 1] from rfl];obtain⟨kX,zX,s1,hB⟩:=fG aQ;clear aQ;have t1:=fV 1 s1;have t2:=fV 2 s1;have t3:=fV 3 s1;have t4:=fV 4 s1;have t5:=fV 5 s1)
  | (go_at_call 89;fail))
 refine(fH 5 (by decide) (by decide) (v0:=o+d%16*256+a%16*4096+(b%16*65536+c%16*1048576)) (k1:=0) (x1:=0) (by decide) (by decide) (by omega) (by omega) (by rw [show(o+d%16*256+a%16*4096+(b%16*65536+c%16*1048576))%256=o by omega];exact hq) s1 kX hB
  (G:= #[.int .u32 (o+d%16*256+a%16*4096+(b%16*65536+c%16*1048576)), .int .u32 0, .int .u32 0]) (by repeat(first | exact Below.refl _ _ | refine Below.alloc ?_ (by first | exact Nat.le_refl _ | (simp only [World.size_alloc];omega)) _)) (by(repeat rw [Below.heap_alloc _ (.cells #[_] _) _ (by simp)]);simpa using heap_alloc_new (w1.alloc _) _) rfl (fun h=>absurd h (by decide)) (fun h=>absurd h (by decide))).mono ?_
 rintro e w2 ⟨rfl,ig,FP,kD,s2⟩
 have kG:=(bM kD).1
 clear kX zX
 by_cases hg:aV 5 (o+d%16*256+a%16*4096+(b%16*65536+c%16*1048576))
 ·rw [RZ hg]
  have dU:=fun w=>dW ((o+d%16*256+a%16*4096+(b%16*65536+c%16*1048576))%256) ((o+d%16*256+a%16*4096+(b%16*65536+c%16*1048576))/256%16) (0) (0) (0) (0) 0 0 o d a b c n k x w
  cases hr:eqc ((o+d%16*256+a%16*4096+(b%16*65536+c%16*1048576))%256) ((o+d%16*256+a%16*4096+(b%16*65536+c%16*1048576))/256%16) (0) (0) (0) (0) 0 0 o d a b c n k x
  ·rw [hr] at dU
   go_wp2
   go_ret2
   exact dD (fun h=>by have:=(bD.out.1 h).2;rw [hr] at this;cases this) ig s2
  ·rw [hr] at dU
   go_wp2
   go_ret2
   exact fJ (bD.out.2 ⟨hg,hr⟩) ig s1 s2 kD rfl (fun h=>absurd h (by decide)) (fun h=>absurd h (by decide)) rfl (by decide)
 ·rw [qm hg]
  go_wp2
  go_ret2
  exact dD (fun h=>hg (bD.out.1 h).1) ig s2
end Go.Proofs.Ytcjcmnnhmajocab.Ho
