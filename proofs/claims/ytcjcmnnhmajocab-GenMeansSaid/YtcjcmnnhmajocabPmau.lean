import Derived.Test.YtcjcmnnhmajocabPmas
import Derived.Test.YtcjcmnnhmajocabPmat
set_option linter.unusedVariables false
set_option linter.unusedSimpArgs false
set_option maxRecDepth 100000
set_option maxHeartbeats 16000000
namespace Go.Proofs.Ytcjcmnnhmajocab.Ho
open Go.RowKit Kt
theorem Nk {v k x:Int} (h:aV 11 v):dJ 11 v k x= .tuple #[.agg #[.int .i64 (v%256), .int .i64 (0), .int .i64 (v/256/16%16), .int .i64 (0), .int .i64 (0), .int .i64 (v/256/16/16%65536), .int .u32 0, .int .u32 0], .int .i64 1, .int .i64 0]:=by rw [aJ h,DU];rfl
theorem Eb (o d a b c n k x:Int):dS 11 o d a b c n k x↔(d=0∧(0≤a∧a<16)∧b=0∧c=0∧(0≤n∧n<12)∧k=0∧x=0):=by simp [dS,hD,hA,hB,hC,hK,nb,wd]
theorem AA {o d a b c n k x:Int} (p0:0≤o) (p1:o<256):dS 11 o d a b c n k x↔(aV 11 (o+d%16*256+a%16*4096+n%65536*65536)∧eqc ((o+d%16*256+a%16*4096+n%65536*65536)%256) (0) ((o+d%16*256+a%16*4096+n%65536*65536)/256/16%16) (0) (0) ((o+d%16*256+a%16*4096+n%65536*65536)/256/16/16%65536) 0 0 o d a b c n k x=true):=by
 rw [Eb,jP,bQ]
 omega
theorem X9 (o d a b c n k x:Int) (w:World) (hq:aF o=11) (p0:0≤o) (p1:o<256):
  Calls Try.prog 93 #[.agg #[.int .i64 o, .int .i64 d, .int .i64 a, .int .i64 b, .int .i64 c, .int .i64 n, .int .u32 k, .int .u32 x]] w (wK w 11 (o+d%16*256+a%16*4096+n%65536*65536) k x (dS 11 o d a b c n k x)):=by
 have m1:=aS d
 have m2:=aS a
 have m3:=aS b
 have m4:=aS c
 have m5:=dL n
 have j1:=qc o d p0 p1
 have j2:=qg o d a p0 p1
 have j3:=qh o d a n p0 p1
 have j4:=jZ b c
 have j5:=qj o d a b c p0 p1
 have CG:=ku
 have bD:=κ (AA (d:=d) (a:=a) (b:=b) (c:=c) (n:=n) (k:=k) (x:=x) p0 p1)
 go_enter Try.func93,Try.ntmps93
 go_wp2_with (first
  | (go_at_call 149;refine(aN o _).mono ?_;rintro e w1 ⟨rfl,aQ⟩;rw [hq,show dO 11= #[.bool false, .bool true, .bool false, .bool false, .bool false, .int .i64 12, .int .i64 1] from rfl];obtain⟨kX,zX,s1,hB⟩:=fG aQ;clear aQ;have t1:=fV 1 s1;have t2:=fV 2 s1;have t3:=fV 3 s1;have t4:=fV 4 s1;have t5:=fV 5 s1)
  | (go_at_call 89;fail))
 refine(fH 11 (by decide) (by decide) (v0:=o+d%16*256+a%16*4096+n%65536*65536) (k1:=0) (x1:=0) (by decide) (by decide) (by omega) (by omega) (by rw [show(o+d%16*256+a%16*4096+n%65536*65536)%256=o by omega];exact hq) s1 kX hB
  (G:= #[.int .u32 (o+d%16*256+a%16*4096+n%65536*65536), .int .u32 0, .int .u32 0]) (by repeat(first | exact Below.refl _ _ | refine Below.alloc ?_ (by first | exact Nat.le_refl _ | (simp only [World.size_alloc];omega)) _)) (by(repeat rw [Below.heap_alloc _ (.cells #[_] _) _ (by simp)]);simpa using heap_alloc_new (w1.alloc _) _) rfl (fun h=>absurd h (by decide)) (fun h=>absurd h (by decide))).mono ?_
 rintro e w2 ⟨rfl,ig,FP,kD,s2⟩
 have kG:=(bM kD).1
 clear kX zX
 by_cases hg:aV 11 (o+d%16*256+a%16*4096+n%65536*65536)
 ·rw [Nk hg]
  have dU:=fun w=>dW ((o+d%16*256+a%16*4096+n%65536*65536)%256) (0) ((o+d%16*256+a%16*4096+n%65536*65536)/256/16%16) (0) (0) ((o+d%16*256+a%16*4096+n%65536*65536)/256/16/16%65536) 0 0 o d a b c n k x w
  cases hr:eqc ((o+d%16*256+a%16*4096+n%65536*65536)%256) (0) ((o+d%16*256+a%16*4096+n%65536*65536)/256/16%16) (0) (0) ((o+d%16*256+a%16*4096+n%65536*65536)/256/16/16%65536) 0 0 o d a b c n k x
  ·rw [hr] at dU
   go_wp2
   go_ret2
   exact dD (fun h=>by have:=(bD.out.1 h).2;rw [hr] at this;cases this) ig s2
  ·rw [hr] at dU
   go_wp2
   go_ret2
   exact fJ (bD.out.2 ⟨hg,hr⟩) ig s1 s2 kD rfl (fun h=>absurd h (by decide)) (fun h=>absurd h (by decide)) rfl (by decide)
 ·rw [qm hg]
  go_wp2
  go_ret2
  exact dD (fun h=>hg (bD.out.1 h).1) ig s2
theorem Nl {v k x:Int} (h:aV 12 v):dJ 12 v k x= .tuple #[.agg #[.int .i64 (v%256), .int .i64 (v/256%16), .int .i64 (0), .int .i64 (0), .int .i64 (0), .int .i64 (v/256/16/16%65536), .int .u32 0, .int .u32 0], .int .i64 1, .int .i64 0]:=by rw [aJ h,DV];rfl
theorem Np (o d a b c n k x:Int):dS 12 o d a b c n k x↔((0≤d∧d<16)∧a=0∧b=0∧c=0∧(0≤n∧n<2048)∧k=0∧x=0):=by simp [dS,hD,hA,hB,hC,hK,nb,wd]
theorem AB {o d a b c n k x:Int} (p0:0≤o) (p1:o<256):dS 12 o d a b c n k x↔(aV 12 (o+d%16*256+a%16*4096+n%65536*65536)∧eqc ((o+d%16*256+a%16*4096+n%65536*65536)%256) ((o+d%16*256+a%16*4096+n%65536*65536)/256%16) (0) (0) (0) ((o+d%16*256+a%16*4096+n%65536*65536)/256/16/16%65536) 0 0 o d a b c n k x=true):=by
 rw [Np,jQ,bQ]
 omega
theorem Ya (o d a b c n k x:Int) (w:World) (hq:aF o=12) (p0:0≤o) (p1:o<256):
  Calls Try.prog 93 #[.agg #[.int .i64 o, .int .i64 d, .int .i64 a, .int .i64 b, .int .i64 c, .int .i64 n, .int .u32 k, .int .u32 x]] w (wK w 12 (o+d%16*256+a%16*4096+n%65536*65536) k x (dS 12 o d a b c n k x)):=by
 have m1:=aS d
 have m2:=aS a
 have m3:=aS b
 have m4:=aS c
 have m5:=dL n
 have j1:=qc o d p0 p1
 have j2:=qg o d a p0 p1
 have j3:=qh o d a n p0 p1
 have j4:=jZ b c
 have j5:=qj o d a b c p0 p1
 have CG:=ku
 have bD:=κ (AB (d:=d) (a:=a) (b:=b) (c:=c) (n:=n) (k:=k) (x:=x) p0 p1)
 go_enter Try.func93,Try.ntmps93
 go_wp2_with (first
  | (go_at_call 149;refine(aN o _).mono ?_;rintro e w1 ⟨rfl,aQ⟩;rw [hq,show dO 12= #[.bool true, .bool false, .bool false, .bool false, .bool false, .int .i64 2048, .int .i64 1] from rfl];obtain⟨kX,zX,s1,hB⟩:=fG aQ;clear aQ;have t1:=fV 1 s1;have t2:=fV 2 s1;have t3:=fV 3 s1;have t4:=fV 4 s1;have t5:=fV 5 s1)
  | (go_at_call 89;fail))
 refine(fH 12 (by decide) (by decide) (v0:=o+d%16*256+a%16*4096+n%65536*65536) (k1:=0) (x1:=0) (by decide) (by decide) (by omega) (by omega) (by rw [show(o+d%16*256+a%16*4096+n%65536*65536)%256=o by omega];exact hq) s1 kX hB
  (G:= #[.int .u32 (o+d%16*256+a%16*4096+n%65536*65536), .int .u32 0, .int .u32 0]) (by repeat(first | exact Below.refl _ _ | refine Below.alloc ?_ (by first | exact Nat.le_refl _ | (simp only [World.size_alloc];omega)) _)) (by(repeat rw [Below.heap_alloc _ (.cells #[_] _) _ (by simp)]);simpa using heap_alloc_new (w1.alloc _) _) rfl (fun h=>absurd h (by decide)) (fun h=>absurd h (by decide))).mono ?_
 rintro e w2 ⟨rfl,ig,FP,kD,s2⟩
 have kG:=(bM kD).1
 clear kX zX
 by_cases hg:aV 12 (o+d%16*256+a%16*4096+n%65536*65536)
 ·rw [Nl hg]
  have dU:=fun w=>dW ((o+d%16*256+a%16*4096+n%65536*65536)%256) ((o+d%16*256+a%16*4096+n%65536*65536)/256%16) (0) (0) (0) ((o+d%16*256+a%16*4096+n%65536*65536)/256/16/16%65536) 0 0 o d a b c n k x w
  cases hr:eqc ((o+d%16*256+a%16*4096+n%65536*65536)%256) ((o+d%16*256+a%16*4096+n%65536*65536)/256%16) (0) (0) (0) ((o+d%16*256+a%16*4096+n%65536*65536)/256/16/16%65536) 0 0 o d a b c n k x
  ·rw [hr] at dU
   go_wp2
   go_ret2
   exact dD (fun h=>by have:=(bD.out.1 h).2;rw [hr] at this;cases this) ig s2
  ·rw [hr] at dU
   go_wp2
   go_ret2
   exact fJ (bD.out.2 ⟨hg,hr⟩) ig s1 s2 kD rfl (fun h=>absurd h (by decide)) (fun h=>absurd h (by decide)) rfl (by decide)
 ·rw [qm hg]
  go_wp2
  go_ret2
  exact dD (fun h=>hg (bD.out.1 h).1) ig s2
theorem Nq {v k x:Int} (h:aV 13 v):dJ 13 v k x= .tuple #[.agg #[.int .i64 (v%256), .int .i64 (0), .int .i64 (v/256/16%16), .int .i64 (0), .int .i64 (0), .int .i64 (v/256/16/16%65536), .int .u32 0, .int .u32 0], .int .i64 1, .int .i64 0]:=by rw [aJ h,DW];rfl
theorem Nr (o d a b c n k x:Int):dS 13 o d a b c n k x↔(d=0∧(0≤a∧a<16)∧b=0∧c=0∧(0≤n∧n<2048)∧k=0∧x=0):=by simp [dS,hD,hA,hB,hC,hK,nb,wd]
theorem AL {o d a b c n k x:Int} (p0:0≤o) (p1:o<256):dS 13 o d a b c n k x↔(aV 13 (o+d%16*256+a%16*4096+n%65536*65536)∧eqc ((o+d%16*256+a%16*4096+n%65536*65536)%256) (0) ((o+d%16*256+a%16*4096+n%65536*65536)/256/16%16) (0) (0) ((o+d%16*256+a%16*4096+n%65536*65536)/256/16/16%65536) 0 0 o d a b c n k x=true):=by
 rw [Nr,jR,bQ]
 omega
theorem Yb (o d a b c n k x:Int) (w:World) (hq:aF o=13) (p0:0≤o) (p1:o<256):
  Calls Try.prog 93 #[.agg #[.int .i64 o, .int .i64 d, .int .i64 a, .int .i64 b, .int .i64 c, .int .i64 n, .int .u32 k, .int .u32 x]] w (wK w 13 (o+d%16*256+a%16*4096+n%65536*65536) k x (dS 13 o d a b c n k x)):=by
 have m1:=aS d
 have m2:=aS a
 have m3:=aS b
 have m4:=aS c
 have m5:=dL n
 have j1:=qc o d p0 p1
 have j2:=qg o d a p0 p1
 have j3:=qh o d a n p0 p1
 have j4:=jZ b c
 have j5:=qj o d a b c p0 p1
 have CG:=ku
 have bD:=κ (AL (d:=d) (a:=a) (b:=b) (c:=c) (n:=n) (k:=k) (x:=x) p0 p1)
 go_enter Try.func93,Try.ntmps93
 go_wp2_with (first
  | (go_at_call 149;refine(aN o _).mono ?_;rintro e w1 ⟨rfl,aQ⟩;rw [hq,show dO 13= #[.bool false, .bool true, .bool false, .bool false, .bool false, .int .i64 2048, .int .i64 1] from rfl];obtain⟨kX,zX,s1,hB⟩:=fG aQ;clear aQ;have t1:=fV 1 s1;have t2:=fV 2 s1;have t3:=fV 3 s1;have t4:=fV 4 s1;have t5:=fV 5 s1)
  | (go_at_call 89;fail))
 refine(fH 13 (by decide) (by decide) (v0:=o+d%16*256+a%16*4096+n%65536*65536) (k1:=0) (x1:=0) (by decide) (by decide) (by omega) (by omega) (by rw [show(o+d%16*256+a%16*4096+n%65536*65536)%256=o by omega];exact hq) s1 kX hB
  (G:= #[.int .u32 (o+d%16*256+a%16*4096+n%65536*65536), .int .u32 0, .int .u32 0]) (by repeat(first | exact Below.refl _ _ | refine Below.alloc ?_ (by first | exact Nat.le_refl _ | (simp only [World.size_alloc];omega)) _)) (by(repeat rw [Below.heap_alloc _ (.cells #[_] _) _ (by simp)]);simpa using heap_alloc_new (w1.alloc _) _) rfl (fun h=>absurd h (by decide)) (fun h=>absurd h (by decide))).mono ?_
 rintro e w2 ⟨rfl,ig,FP,kD,s2⟩
 have kG:=(bM kD).1
 clear kX zX
 by_cases hg:aV 13 (o+d%16*256+a%16*4096+n%65536*65536)
 ·rw [Nq hg]
  have dU:=fun w=>dW ((o+d%16*256+a%16*4096+n%65536*65536)%256) (0) ((o+d%16*256+a%16*4096+n%65536*65536)/256/16%16) (0) (0) ((o+d%16*256+a%16*4096+n%65536*65536)/256/16/16%65536) 0 0 o d a b c n k x w
  cases hr:eqc ((o+d%16*256+a%16*4096+n%65536*65536)%256) (0) ((o+d%16*256+a%16*4096+n%65536*65536)/256/16%16) (0) (0) ((o+d%16*256+a%16*4096+n%65536*65536)/256/16/16%65536) 0 0 o d a b c n k x
  ·rw [hr] at dU
   go_wp2
   go_ret2
   exact dD (fun h=>by have:=(bD.out.1 h).2;rw [hr] at this;cases this) ig s2
  ·rw [hr] at dU
   go_wp2
   go_ret2
   exact fJ (bD.out.2 ⟨hg,hr⟩) ig s1 s2 kD rfl (fun h=>absurd h (by decide)) (fun h=>absurd h (by decide)) rfl (by decide)
 ·rw [qm hg]
  go_wp2
  go_ret2
  exact dD (fun h=>hg (bD.out.1 h).1) ig s2
theorem Ns {v k x:Int} (h:aV 14 v):dJ 14 v k x= .tuple #[.agg #[.int .i64 (v%256), .int .i64 (v/256%16), .int .i64 (0), .int .i64 (0), .int .i64 (0), .int .i64 (v/256/16/16%65536), .int .u32 k, .int .u32 x], .int .i64 3, .int .i64 0]:=by rw [aJ h,DX];rfl
theorem Ec (o d a b c n k x:Int):dS 14 o d a b c n k x↔((0≤d∧d<16)∧a=0∧b=0∧c=0∧(0≤n∧n<65)∧(1≤d∧d≤7)):=by simp [dS,hD,hA,hB,hC,hK,nb,wd]
theorem AO {o d a b c n k x:Int} (p0:0≤o) (p1:o<256):dS 14 o d a b c n k x↔(aV 14 (o+d%16*256+a%16*4096+n%65536*65536)∧eqc ((o+d%16*256+a%16*4096+n%65536*65536)%256) ((o+d%16*256+a%16*4096+n%65536*65536)/256%16) (0) (0) (0) ((o+d%16*256+a%16*4096+n%65536*65536)/256/16/16%65536) k x o d a b c n k x=true):=by
 rw [Ec,jB,bQ]
 omega
theorem Yc (o d a b c n k x:Int) (w:World) (hq:aF o=14) (p0:0≤o) (p1:o<256):
  Calls Try.prog 93 #[.agg #[.int .i64 o, .int .i64 d, .int .i64 a, .int .i64 b, .int .i64 c, .int .i64 n, .int .u32 k, .int .u32 x]] w (wK w 14 (o+d%16*256+a%16*4096+n%65536*65536) k x (dS 14 o d a b c n k x)):=by
 have m1:=aS d
 have m2:=aS a
 have m3:=aS b
 have m4:=aS c
 have m5:=dL n
 have j1:=qc o d p0 p1
 have j2:=qg o d a p0 p1
 have j3:=qh o d a n p0 p1
 have j4:=jZ b c
 have j5:=qj o d a b c p0 p1
 have CG:=ku
 have bD:=κ (AO (d:=d) (a:=a) (b:=b) (c:=c) (n:=n) (k:=k) (x:=x) p0 p1)
 go_enter Try.func93,Try.ntmps93
 go_wp2_with (first
  | (go_at_call 149;refine(aN o _).mono ?_;rintro e w1 ⟨rfl,aQ⟩;rw [hq,show dO 14= #[.bool true, .bool false, .bool false, .bool false, .bool true, .int .i64 65, .int .i64 3] from rfl];obtain⟨kX,zX,s1,hB⟩:=fG aQ;clear aQ;have t1:=fV 1 s1;have t2:=fV 2 s1;have t3:=fV 3 s1;have t4:=fV 4 s1;have t5:=fV 5 s1)
  | (go_at_call 89;fail))
 refine(fH 14 (by decide) (by decide) (v0:=o+d%16*256+a%16*4096+n%65536*65536) (k1:=k) (x1:=x) (by decide) (by decide) (by omega) (by omega) (by rw [show(o+d%16*256+a%16*4096+n%65536*65536)%256=o by omega];exact hq) s1 kX hB
  (G:= #[.int .u32 (o+d%16*256+a%16*4096+n%65536*65536), .int .u32 k, .int .u32 x]) (by repeat(first | exact Below.refl _ _ | refine Below.alloc ?_ (by first | exact Nat.le_refl _ | (simp only [World.size_alloc];omega)) _)) (by(repeat rw [Below.heap_alloc _ (.cells #[_] _) _ (by simp)]);simpa using heap_alloc_new (w1.alloc _) _) rfl (fun _=>rfl) (fun _=>rfl)).mono ?_
 rintro e w2 ⟨rfl,ig,FP,kD,s2⟩
 have kG:=(bM kD).1
 clear kX zX
 by_cases hg:aV 14 (o+d%16*256+a%16*4096+n%65536*65536)
 ·rw [Ns hg]
  have dU:=fun w=>dW ((o+d%16*256+a%16*4096+n%65536*65536)%256) ((o+d%16*256+a%16*4096+n%65536*65536)/256%16) (0) (0) (0) ((o+d%16*256+a%16*4096+n%65536*65536)/256/16/16%65536) k x o d a b c n k x w
  cases hr:eqc ((o+d%16*256+a%16*4096+n%65536*65536)%256) ((o+d%16*256+a%16*4096+n%65536*65536)/256%16) (0) (0) (0) ((o+d%16*256+a%16*4096+n%65536*65536)/256/16/16%65536) k x o d a b c n k x
  ·rw [hr] at dU
   go_wp2
   go_ret2
   exact dD (fun h=>by have:=(bD.out.1 h).2;rw [hr] at this;cases this) ig s2
  ·rw [hr] at dU
   go_wp2
   go_ret2
   exact fJ (bD.out.2 ⟨hg,hr⟩) ig s1 s2 kD rfl (fun _=>rfl) (fun _=>rfl) rfl (by decide)
 ·rw [qm hg]
  go_wp2
  go_ret2
  exact dD (fun h=>hg (bD.out.1 h).1) ig s2
theorem Nu {v k x:Int} (h:aV 15 v):dJ 15 v k x= .tuple #[.agg #[.int .i64 (v%256), .int .i64 (v/256%16), .int .i64 (v/256/16%16), .int .i64 (0), .int .i64 (0), .int .i64 (v/256/16/16%65536), .int .u32 k, .int .u32 0], .int .i64 2, .int .i64 0]:=by rw [aJ h,DY];rfl
theorem Ed (o d a b c n k x:Int):dS 15 o d a b c n k x↔((0≤d∧d<16)∧(0≤a∧a<16)∧b=0∧c=0∧(0≤n∧n<65)∧x=0∧(1≤d∧d≤7)):=by simp [dS,hD,hA,hB,hC,hK,nb,wd]
theorem AP {o d a b c n k x:Int} (p0:0≤o) (p1:o<256):dS 15 o d a b c n k x↔(aV 15 (o+d%16*256+a%16*4096+n%65536*65536)∧eqc ((o+d%16*256+a%16*4096+n%65536*65536)%256) ((o+d%16*256+a%16*4096+n%65536*65536)/256%16) ((o+d%16*256+a%16*4096+n%65536*65536)/256/16%16) (0) (0) ((o+d%16*256+a%16*4096+n%65536*65536)/256/16/16%65536) k 0 o d a b c n k x=true):=by
 rw [Ed,jC,bQ]
 omega
theorem Yd (o d a b c n k x:Int) (w:World) (hq:aF o=15) (p0:0≤o) (p1:o<256):
  Calls Try.prog 93 #[.agg #[.int .i64 o, .int .i64 d, .int .i64 a, .int .i64 b, .int .i64 c, .int .i64 n, .int .u32 k, .int .u32 x]] w (wK w 15 (o+d%16*256+a%16*4096+n%65536*65536) k x (dS 15 o d a b c n k x)):=by
 have m1:=aS d
 have m2:=aS a
 have m3:=aS b
 have m4:=aS c
 have m5:=dL n
 have j1:=qc o d p0 p1
 have j2:=qg o d a p0 p1
 have j3:=qh o d a n p0 p1
 have j4:=jZ b c
 have j5:=qj o d a b c p0 p1
 have CG:=ku
 have bD:=κ (AP (d:=d) (a:=a) (b:=b) (c:=c) (n:=n) (k:=k) (x:=x) p0 p1)
 go_enter Try.func93,Try.ntmps93
 go_wp2_with (first
  | (go_at_call 149;refine(aN o _).mono ?_;rintro e w1 ⟨rfl,aQ⟩;rw [hq,show dO 15= #[.bool true, .bool true, .bool false, .bool false, .bool true, .int .i64 65, .int .i64 2] from rfl];obtain⟨kX,zX,s1,hB⟩:=fG aQ;clear aQ;have t1:=fV 1 s1;have t2:=fV 2 s1;have t3:=fV 3 s1;have t4:=fV 4 s1;have t5:=fV 5 s1)
  | (go_at_call 89;fail))
 refine(fH 15 (by decide) (by decide) (v0:=o+d%16*256+a%16*4096+n%65536*65536) (k1:=k) (x1:=0) (by decide) (by decide) (by omega) (by omega) (by rw [show(o+d%16*256+a%16*4096+n%65536*65536)%256=o by omega];exact hq) s1 kX hB
  (G:= #[.int .u32 (o+d%16*256+a%16*4096+n%65536*65536), .int .u32 k, .int .u32 0]) (by repeat(first | exact Below.refl _ _ | refine Below.alloc ?_ (by first | exact Nat.le_refl _ | (simp only [World.size_alloc];omega)) _)) (by(repeat rw [Below.heap_alloc _ (.cells #[_] _) _ (by simp)]);simpa using heap_alloc_new (w1.alloc _) _) rfl (fun _=>rfl) (fun h=>absurd h (by decide))).mono ?_
 rintro e w2 ⟨rfl,ig,FP,kD,s2⟩
 have kG:=(bM kD).1
 clear kX zX
 by_cases hg:aV 15 (o+d%16*256+a%16*4096+n%65536*65536)
 ·rw [Nu hg]
  have dU:=fun w=>dW ((o+d%16*256+a%16*4096+n%65536*65536)%256) ((o+d%16*256+a%16*4096+n%65536*65536)/256%16) ((o+d%16*256+a%16*4096+n%65536*65536)/256/16%16) (0) (0) ((o+d%16*256+a%16*4096+n%65536*65536)/256/16/16%65536) k 0 o d a b c n k x w
  cases hr:eqc ((o+d%16*256+a%16*4096+n%65536*65536)%256) ((o+d%16*256+a%16*4096+n%65536*65536)/256%16) ((o+d%16*256+a%16*4096+n%65536*65536)/256/16%16) (0) (0) ((o+d%16*256+a%16*4096+n%65536*65536)/256/16/16%65536) k 0 o d a b c n k x
  ·rw [hr] at dU
   go_wp2
   go_ret2
   exact dD (fun h=>by have:=(bD.out.1 h).2;rw [hr] at this;cases this) ig s2
  ·rw [hr] at dU
   go_wp2
   go_ret2
   exact fJ (bD.out.2 ⟨hg,hr⟩) ig s1 s2 kD rfl (fun _=>rfl) (fun h=>absurd h (by decide)) rfl (by decide)
 ·rw [qm hg]
  go_wp2
  go_ret2
  exact dD (fun h=>hg (bD.out.1 h).1) ig s2
def dw (o d a b c n:Int):Int:=(o+256*d+4096*a+65536*b+1048576*c+65536*n)%4294967296
theorem AQ {o d a b c n k x:Int} (p0:0≤o) (p1:o<256) (h:dS 1 o d a b c n k x):(0≤d∧d<16)∧(0≤a∧a<16)∧(0≤b∧b<16)∧(0≤c∧c<16)∧(0≤n∧n<65536)∧o+d%16*256+a%16*4096+(b%16*65536+c%16*1048576)=dw o d a b c n:=by
 rw [Na] at h
 unfold dw
 omega
theorem AU {o d a b c n k x:Int} (p0:0≤o) (p1:o<256) (h:dS 2 o d a b c n k x):(0≤d∧d<16)∧(0≤a∧a<16)∧(0≤b∧b<16)∧(0≤c∧c<16)∧(0≤n∧n<65536)∧o+d%16*256+a%16*4096+(b%16*65536+c%16*1048576)=dw o d a b c n:=by
 rw [FQ] at h
 unfold dw
 omega
theorem AV {o d a b c n k x:Int} (p0:0≤o) (p1:o<256) (h:dS 3 o d a b c n k x):(0≤d∧d<16)∧(0≤a∧a<16)∧(0≤b∧b<16)∧(0≤c∧c<16)∧(0≤n∧n<65536)∧o+d%16*256+a%16*4096+(b%16*65536+c%16*1048576)=dw o d a b c n:=by
 rw [FU] at h
 unfold dw
 omega
theorem AX {o d a b c n k x:Int} (p0:0≤o) (p1:o<256) (h:dS 4 o d a b c n k x):(0≤d∧d<16)∧(0≤a∧a<16)∧(0≤b∧b<16)∧(0≤c∧c<16)∧(0≤n∧n<65536)∧o+d%16*256+a%16*4096+n%65536*65536=dw o d a b c n:=by
 rw [FW] at h
 unfold dw
 omega
theorem AY {o d a b c n k x:Int} (p0:0≤o) (p1:o<256) (h:dS 5 o d a b c n k x):(0≤d∧d<16)∧(0≤a∧a<16)∧(0≤b∧b<16)∧(0≤c∧c<16)∧(0≤n∧n<65536)∧o+d%16*256+a%16*4096+(b%16*65536+c%16*1048576)=dw o d a b c n:=by
 rw [Nb] at h
 unfold dw
 omega
theorem AZ {o d a b c n k x:Int} (p0:0≤o) (p1:o<256) (h:dS 6 o d a b c n k x):(0≤d∧d<16)∧(0≤a∧a<16)∧(0≤b∧b<16)∧(0≤c∧c<16)∧(0≤n∧n<65536)∧o+d%16*256+a%16*4096+n%65536*65536=dw o d a b c n:=by
 rw [Nc] at h
 unfold dw
 omega
theorem Ba {o d a b c n k x:Int} (p0:0≤o) (p1:o<256) (h:dS 7 o d a b c n k x):(0≤d∧d<16)∧(0≤a∧a<16)∧(0≤b∧b<16)∧(0≤c∧c<16)∧(0≤n∧n<65536)∧o+d%16*256+a%16*4096+n%65536*65536=dw o d a b c n:=by
 rw [Aw] at h
 unfold dw
 omega
theorem Bc {o d a b c n k x:Int} (p0:0≤o) (p1:o<256) (h:dS 8 o d a b c n k x):(0≤d∧d<16)∧(0≤a∧a<16)∧(0≤b∧b<16)∧(0≤c∧c<16)∧(0≤n∧n<65536)∧o+d%16*256+a%16*4096+(b%16*65536+c%16*1048576)=dw o d a b c n:=by
 rw [VT] at h
 unfold dw
 omega
theorem Bd {o d a b c n k x:Int} (p0:0≤o) (p1:o<256) (h:dS 9 o d a b c n k x):(0≤d∧d<16)∧(0≤a∧a<16)∧(0≤b∧b<16)∧(0≤c∧c<16)∧(0≤n∧n<65536)∧o+d%16*256+a%16*4096+n%65536*65536=dw o d a b c n:=by
 rw [Nh] at h
 unfold dw
 omega
theorem xM {o d a b c n k x:Int} (p0:0≤o) (p1:o<256) (h:dS 10 o d a b c n k x):(0≤d∧d<16)∧(0≤a∧a<16)∧(0≤b∧b<16)∧(0≤c∧c<16)∧(0≤n∧n<65536)∧o+d%16*256+a%16*4096+n%65536*65536=dw o d a b c n:=by
 rw [Ea] at h
 unfold dw
 omega
theorem xO {o d a b c n k x:Int} (p0:0≤o) (p1:o<256) (h:dS 11 o d a b c n k x):(0≤d∧d<16)∧(0≤a∧a<16)∧(0≤b∧b<16)∧(0≤c∧c<16)∧(0≤n∧n<65536)∧o+d%16*256+a%16*4096+n%65536*65536=dw o d a b c n:=by
 rw [Eb] at h
 unfold dw
 omega
theorem xP {o d a b c n k x:Int} (p0:0≤o) (p1:o<256) (h:dS 12 o d a b c n k x):(0≤d∧d<16)∧(0≤a∧a<16)∧(0≤b∧b<16)∧(0≤c∧c<16)∧(0≤n∧n<65536)∧o+d%16*256+a%16*4096+n%65536*65536=dw o d a b c n:=by
 rw [Np] at h
 unfold dw
 omega
theorem xQ {o d a b c n k x:Int} (p0:0≤o) (p1:o<256) (h:dS 13 o d a b c n k x):(0≤d∧d<16)∧(0≤a∧a<16)∧(0≤b∧b<16)∧(0≤c∧c<16)∧(0≤n∧n<65536)∧o+d%16*256+a%16*4096+n%65536*65536=dw o d a b c n:=by
 rw [Nr] at h
 unfold dw
 omega
theorem xR {o d a b c n k x:Int} (p0:0≤o) (p1:o<256) (h:dS 14 o d a b c n k x):(0≤d∧d<16)∧(0≤a∧a<16)∧(0≤b∧b<16)∧(0≤c∧c<16)∧(0≤n∧n<65536)∧o+d%16*256+a%16*4096+n%65536*65536=dw o d a b c n:=by
 rw [Ec] at h
 unfold dw
 omega
theorem xU {o d a b c n k x:Int} (p0:0≤o) (p1:o<256) (h:dS 15 o d a b c n k x):(0≤d∧d<16)∧(0≤a∧a<16)∧(0≤b∧b<16)∧(0≤c∧c<16)∧(0≤n∧n<65536)∧o+d%16*256+a%16*4096+n%65536*65536=dw o d a b c n:=by
 rw [Ed] at h
 unfold dw
 omega
theorem wK.turn {w w':World} {q:Nat} {v0 v1 k x:Int} {ok:Prop} {e:Ending} (h:wK w q v0 k x ok e w') (hv:ok→v0=v1):wK w q v1 k x ok e w':=by
 obtain⟨hb,h⟩:=h
 refine⟨hb, ?_⟩
 rcases h with⟨kS,g,cap,he,h1,h2,h3,h4,h5,h6⟩ | h
 ·exact .inl ⟨kS,g,cap,he,h1,h2,h3,by rw [←hv kS];exact h4,h5,h6⟩
 ·exact .inr h
theorem Sz (q:Nat) (h1:1≤q) (h2:q≤15) (o d a b c n k x:Int) (w:World) (hq:aF o=q) (p0:0≤o) (p1:o<256):
  Calls Try.prog 93 #[.agg #[.int .i64 o, .int .i64 d, .int .i64 a, .int .i64 b, .int .i64 c, .int .i64 n, .int .u32 k, .int .u32 x]] w (wK w q (dw o d a b c n) k x (dS q o d a b c n k x)):=by
 rcases(show q=1∨q=2∨q=3∨q=4∨q=5∨q=6∨q=7∨q=8∨q=9∨q=10∨q=11∨q=12∨q=13∨q=14∨q=15 by omega) with rfl | rfl | rfl | rfl | rfl | rfl | rfl | rfl | rfl | rfl | rfl | rfl | rfl | rfl | rfl
 ·exact(abe o d a b c n k x w hq p0 p1).mono fun e w' h=>h.turn fun kS=>(AQ p0 p1 kS).2.2.2.2.2
 ·exact(abf o d a b c n k x w hq p0 p1).mono fun e w' h=>h.turn fun kS=>(AU p0 p1 kS).2.2.2.2.2
 ·exact(abg o d a b c n k x w hq p0 p1).mono fun e w' h=>h.turn fun kS=>(AV p0 p1 kS).2.2.2.2.2
 ·exact(abh o d a b c n k x w hq p0 p1).mono fun e w' h=>h.turn fun kS=>(AX p0 p1 kS).2.2.2.2.2
 ·exact(abj o d a b c n k x w hq p0 p1).mono fun e w' h=>h.turn fun kS=>(AY p0 p1 kS).2.2.2.2.2
 ·exact(abk o d a b c n k x w hq p0 p1).mono fun e w' h=>h.turn fun kS=>(AZ p0 p1 kS).2.2.2.2.2
 ·exact(abl o d a b c n k x w hq p0 p1).mono fun e w' h=>h.turn fun kS=>(Ba p0 p1 kS).2.2.2.2.2
 ·exact(abm o d a b c n k x w hq p0 p1).mono fun e w' h=>h.turn fun kS=>(Bc p0 p1 kS).2.2.2.2.2
 ·exact(abn o d a b c n k x w hq p0 p1).mono fun e w' h=>h.turn fun kS=>(Bd p0 p1 kS).2.2.2.2.2
 ·exact(X8 o d a b c n k x w hq p0 p1).mono fun e w' h=>h.turn fun kS=>(xM p0 p1 kS).2.2.2.2.2
 ·exact(X9 o d a b c n k x w hq p0 p1).mono fun e w' h=>h.turn fun kS=>(xO p0 p1 kS).2.2.2.2.2
 ·exact(Ya o d a b c n k x w hq p0 p1).mono fun e w' h=>h.turn fun kS=>(xP p0 p1 kS).2.2.2.2.2
 ·exact(Yb o d a b c n k x w hq p0 p1).mono fun e w' h=>h.turn fun kS=>(xQ p0 p1 kS).2.2.2.2.2
 ·exact(Yc o d a b c n k x w hq p0 p1).mono fun e w' h=>h.turn fun kS=>(xR p0 p1 kS).2.2.2.2.2
 ·exact(Yd o d a b c n k x w hq p0 p1).mono fun e w' h=>h.turn fun kS=>(xU p0 p1 kS).2.2.2.2.2
end Go.Proofs.Ytcjcmnnhmajocab.Ho
