import Derived.Test.YtcjcmnnhmajocabPmal
import Derived.Test.YtcjcmnnhmajocabPman
set_option linter.unusedVariables false
set_option linter.unusedSimpArgs false
set_option maxRecDepth 100000
set_option maxHeartbeats 16000000
namespace Go.Proofs.Ytcjcmnnhmajocab.Ho
open Go.RowKit Kt
theorem XZ (b off len cap k:Nat) (v0 k1 x1:Int) (w:World) (hk:k<len) (hl:len≤cap) (hm:cap≤maxLen) (hb:b<w.heap.size) (h0:0≤v0) (g0:v0<4294967296) (hq:aF (v0%256)=6)
  (hc:w.cell? ⟨b,off+k,none⟩=some (.int .u32 v0)) (xK:k+1<len) (dZ:w.cell? ⟨b,off+k+1,none⟩=some (.int .u32 k1)):Calls Try.prog 53 #[.slice (some ⟨b,off,none⟩) len cap, .int .i64 k] w fun e w'=>e= .returned (dJ 6 v0 k1 x1)∧Below w.heap.size w w':=by
 have c0:(0:Int)≤(k:Int):=by omega
 have c1:(k:Int)≤(len:Int):=by omega
 have c2:¬ ((len:Int) <(k:Int)):=by omega
 have c4:((k:Int)==(len:Int))=false:=by simp;omega
 have c5:¬ ((len:Int)-k<2):=by omega
 have c6:(k:Int) <(len:Int):=by omega
 have c7:wrap64 ((len:Int)-k)=(len:Int)-k:=by have mX:(maxLen:Nat)=9223372036854775807:=rfl;exact IntWalk.wrap64_in _ (by omega)
 have f1:wrap64 ((k:Int)+1)=(k:Int)+1:=by have mX:(maxLen:Nat)=9223372036854775807:=rfl;exact IntWalk.wrap64_in _ (by omega)
 have Ap:=dZ
 rw [Nat.add_assoc] at Ap
 have d1:(k:Int)+1<(len:Int):=by omega
 clear hm
 have jS:(v0%256==12)=false:=by simp;intro h;rw [h] at hq;exact absurd hq (by decide)
 have lu:(v0%256==13)=false:=by simp;intro h;rw [h] at hq;exact absurd hq (by decide)
 have:0≤v0/256%16∧v0/256%16<16:=by omega
 have:0≤v0/256:=by omega
 have:0≤v0/4096%16∧v0/4096%16<16:=by omega
 have:0≤v0/4096:=by omega
 have:0≤v0/65536%16∧v0/65536%16<16:=by omega
 have:0≤v0/65536:=by omega
 have:0≤v0/1048576%16∧v0/1048576%16<16:=by omega
 have:0≤v0/1048576:=by omega
 have:0≤v0/65536∧v0/65536<65536:=by omega
 go_enter Try.func53,Try.ntmps53
 go_wp2_with (first
  | (go_at_call 97;refine(bC (v0%256) _).mono ?_;rintro e w1 ⟨rfl,rfl⟩;rw [hq,show bW 6= .tuple #[.string {data:= #[97,110]}, .int .i64 65, .int .i64 2] from rfl])
  | (go_at_call 98;refine(yI _ _).mono ?_;rintro e w1 ⟨rfl,rfl⟩)
  | (go_at_call 98;fail)
  | (go_at_call 99;refine(dK _ _ _ _ _ _ _ _ _).mono ?_;rintro e w2 ⟨rfl,aQ⟩;obtain⟨kT,kX,zT,zX,s1,s2,hB⟩:=bP aQ;have hT:=fF aQ;clear aQ))
 all_goals first
  | exact bf hT hB (ay (by rw [mP];omega)) rfl rfl rfl rfl
  | exact bf hT hB (by rw [aJ (by rw [mP];omega),L8,show v0/256/16%16=v0/4096%16 by omega,show v0/256/16/16%65536=v0/65536 by omega];rfl) rfl rfl rfl rfl
  | skip
 all_goals done
theorem X0 (b off len cap k:Nat) (v0 k1 x1:Int) (w:World) (hk:k<len) (hl:len≤cap) (hm:cap≤maxLen) (hb:b<w.heap.size) (h0:0≤v0) (g0:v0<4294967296) (hq:aF (v0%256)=7)
  (hc:w.cell? ⟨b,off+k,none⟩=some (.int .u32 v0)) (xK:k+1<len) (dZ:w.cell? ⟨b,off+k+1,none⟩=some (.int .u32 k1)):Calls Try.prog 53 #[.slice (some ⟨b,off,none⟩) len cap, .int .i64 k] w fun e w'=>e= .returned (dJ 7 v0 k1 x1)∧Below w.heap.size w w':=by
 have c0:(0:Int)≤(k:Int):=by omega
 have c1:(k:Int)≤(len:Int):=by omega
 have c2:¬ ((len:Int) <(k:Int)):=by omega
 have c4:((k:Int)==(len:Int))=false:=by simp;omega
 have c5:¬ ((len:Int)-k<2):=by omega
 have c6:(k:Int) <(len:Int):=by omega
 have c7:wrap64 ((len:Int)-k)=(len:Int)-k:=by have mX:(maxLen:Nat)=9223372036854775807:=rfl;exact IntWalk.wrap64_in _ (by omega)
 have f1:wrap64 ((k:Int)+1)=(k:Int)+1:=by have mX:(maxLen:Nat)=9223372036854775807:=rfl;exact IntWalk.wrap64_in _ (by omega)
 have Ap:=dZ
 rw [Nat.add_assoc] at Ap
 have d1:(k:Int)+1<(len:Int):=by omega
 clear hm
 have jS:(v0%256==12)=false:=by simp;intro h;rw [h] at hq;exact absurd hq (by decide)
 have lu:(v0%256==13)=false:=by simp;intro h;rw [h] at hq;exact absurd hq (by decide)
 have:0≤v0/256%16∧v0/256%16<16:=by omega
 have:0≤v0/256:=by omega
 have:0≤v0/4096%16∧v0/4096%16<16:=by omega
 have:0≤v0/4096:=by omega
 have:0≤v0/65536%16∧v0/65536%16<16:=by omega
 have:0≤v0/65536:=by omega
 have:0≤v0/1048576%16∧v0/1048576%16<16:=by omega
 have:0≤v0/1048576:=by omega
 have:0≤v0/65536∧v0/65536<65536:=by omega
 go_enter Try.func53,Try.ntmps53
 go_wp2_with (first
  | (go_at_call 97;refine(bC (v0%256) _).mono ?_;rintro e w1 ⟨rfl,rfl⟩;rw [hq,show bW 7= .tuple #[.string {data:= #[110]}, .int .i64 65, .int .i64 2] from rfl])
  | (go_at_call 98;refine(aa6 _ _).mono ?_;rintro e w1 ⟨rfl,rfl⟩)
  | (go_at_call 98;fail)
  | (go_at_call 99;refine(dK _ _ _ _ _ _ _ _ _).mono ?_;rintro e w2 ⟨rfl,aQ⟩;obtain⟨kT,kX,zT,zX,s1,s2,hB⟩:=bP aQ;have hT:=fF aQ;clear aQ))
 all_goals first
  | exact bf hT hB (ay (by rw [mQ];omega)) rfl rfl rfl rfl
  | exact bf hT hB (by rw [aJ (by rw [mQ];omega),L9,show v0/256/16/16%65536=v0/65536 by omega];rfl) rfl rfl rfl rfl
  | skip
 all_goals done
theorem X4 (b off len cap k:Nat) (v0 k1 x1:Int) (w:World) (hk:k<len) (hl:len≤cap) (hm:cap≤maxLen) (hb:b<w.heap.size) (h0:0≤v0) (g0:v0<4294967296) (hq:aF (v0%256)=8)
  (hc:w.cell? ⟨b,off+k,none⟩=some (.int .u32 v0)) (xK:k+1<len) (dZ:w.cell? ⟨b,off+k+1,none⟩=some (.int .u32 k1)):Calls Try.prog 53 #[.slice (some ⟨b,off,none⟩) len cap, .int .i64 k] w fun e w'=>e= .returned (dJ 8 v0 k1 x1)∧Below w.heap.size w w':=by
 have c0:(0:Int)≤(k:Int):=by omega
 have c1:(k:Int)≤(len:Int):=by omega
 have c2:¬ ((len:Int) <(k:Int)):=by omega
 have c4:((k:Int)==(len:Int))=false:=by simp;omega
 have c5:¬ ((len:Int)-k<2):=by omega
 have c6:(k:Int) <(len:Int):=by omega
 have c7:wrap64 ((len:Int)-k)=(len:Int)-k:=by have mX:(maxLen:Nat)=9223372036854775807:=rfl;exact IntWalk.wrap64_in _ (by omega)
 have f1:wrap64 ((k:Int)+1)=(k:Int)+1:=by have mX:(maxLen:Nat)=9223372036854775807:=rfl;exact IntWalk.wrap64_in _ (by omega)
 have Ap:=dZ
 rw [Nat.add_assoc] at Ap
 have d1:(k:Int)+1<(len:Int):=by omega
 clear hm
 have jS:(v0%256==12)=false:=by simp;intro h;rw [h] at hq;exact absurd hq (by decide)
 have lu:(v0%256==13)=false:=by simp;intro h;rw [h] at hq;exact absurd hq (by decide)
 have:0≤v0/256%16∧v0/256%16<16:=by omega
 have:0≤v0/256:=by omega
 have:0≤v0/4096%16∧v0/4096%16<16:=by omega
 have:0≤v0/4096:=by omega
 have:0≤v0/65536%16∧v0/65536%16<16:=by omega
 have:0≤v0/65536:=by omega
 have:0≤v0/1048576%16∧v0/1048576%16<16:=by omega
 have:0≤v0/1048576:=by omega
 have:0≤v0/65536∧v0/65536<65536:=by omega
 go_enter Try.func53,Try.ntmps53
 go_wp2_with (first
  | (go_at_call 97;refine(bC (v0%256) _).mono ?_;rintro e w1 ⟨rfl,rfl⟩;rw [hq,show bW 8= .tuple #[.string {data:= #[100]}, .int .i64 0, .int .i64 2] from rfl])
  | (go_at_call 98;refine(VN _ _).mono ?_;rintro e w1 ⟨rfl,rfl⟩)
  | (go_at_call 98;fail)
  | (go_at_call 99;refine(dK _ _ _ _ _ _ _ _ _).mono ?_;rintro e w2 ⟨rfl,aQ⟩;obtain⟨kT,kX,zT,zX,s1,s2,hB⟩:=bP aQ;have hT:=fF aQ;clear aQ))
 all_goals first
  | exact bf hT hB (ay (by rw [mV];omega)) rfl rfl rfl rfl
  | exact bf hT hB (by rw [aJ (by rw [mV];omega),Mc];rfl) rfl rfl rfl rfl
  | skip
 all_goals done
theorem X5 (b off len cap k:Nat) (v0 k1 x1:Int) (w:World) (hk:k<len) (hl:len≤cap) (hm:cap≤maxLen) (hb:b<w.heap.size) (h0:0≤v0) (g0:v0<4294967296) (hq:aF (v0%256)=9)
  (hc:w.cell? ⟨b,off+k,none⟩=some (.int .u32 v0)):Calls Try.prog 53 #[.slice (some ⟨b,off,none⟩) len cap, .int .i64 k] w fun e w'=>e= .returned (dJ 9 v0 k1 x1)∧Below w.heap.size w w':=by
 have c0:(0:Int)≤(k:Int):=by omega
 have c1:(k:Int)≤(len:Int):=by omega
 have c2:¬ ((len:Int) <(k:Int)):=by omega
 have c4:((k:Int)==(len:Int))=false:=by simp;omega
 have c5:¬ ((len:Int)-k<1):=by omega
 have c6:(k:Int) <(len:Int):=by omega
 have c7:wrap64 ((len:Int)-k)=(len:Int)-k:=by have mX:(maxLen:Nat)=9223372036854775807:=rfl;exact IntWalk.wrap64_in _ (by omega)
 clear hm
 have jS:(v0%256==12)=false:=by simp;intro h;rw [h] at hq;exact absurd hq (by decide)
 have lu:(v0%256==13)=false:=by simp;intro h;rw [h] at hq;exact absurd hq (by decide)
 have:0≤v0/256%16∧v0/256%16<16:=by omega
 have:0≤v0/256:=by omega
 have:0≤v0/4096%16∧v0/4096%16<16:=by omega
 have:0≤v0/4096:=by omega
 have:0≤v0/65536%16∧v0/65536%16<16:=by omega
 have:0≤v0/65536:=by omega
 have:0≤v0/1048576%16∧v0/1048576%16<16:=by omega
 have:0≤v0/1048576:=by omega
 have:0≤v0/65536∧v0/65536<65536:=by omega
 go_enter Try.func53,Try.ntmps53
 go_wp2_with (first
  | (go_at_call 97;refine(bC (v0%256) _).mono ?_;rintro e w1 ⟨rfl,rfl⟩;rw [hq,show bW 9= .tuple #[.string {data:= #[97,110]}, .int .i64 65, .int .i64 1] from rfl])
  | (go_at_call 98;refine(yI _ _).mono ?_;rintro e w1 ⟨rfl,rfl⟩)
  | (go_at_call 98;fail)
  | (go_at_call 99;refine(dK _ _ _ _ _ _ _ _ _).mono ?_;rintro e w2 ⟨rfl,aQ⟩;obtain⟨kT,kX,zT,zX,s1,s2,hB⟩:=bP aQ;have hT:=fF aQ;clear aQ))
 all_goals first
  | exact bf hT hB (ay (by rw [mW];omega)) rfl rfl rfl rfl
  | exact bf hT hB (by rw [aJ (by rw [mW];omega),Md,show v0/256/16%16=v0/4096%16 by omega,show v0/256/16/16%65536=v0/65536 by omega];rfl) rfl rfl rfl rfl
  | skip
 all_goals done
theorem Ru (b off len cap k:Nat) (v0 k1 x1:Int) (w:World) (hk:k<len) (hl:len≤cap) (hm:cap≤maxLen) (hb:b<w.heap.size) (h0:0≤v0) (g0:v0<4294967296) (hq:aF (v0%256)=10)
  (hc:w.cell? ⟨b,off+k,none⟩=some (.int .u32 v0)):Calls Try.prog 53 #[.slice (some ⟨b,off,none⟩) len cap, .int .i64 k] w fun e w'=>e= .returned (dJ 10 v0 k1 x1)∧Below w.heap.size w w':=by
 have c0:(0:Int)≤(k:Int):=by omega
 have c1:(k:Int)≤(len:Int):=by omega
 have c2:¬ ((len:Int) <(k:Int)):=by omega
 have c4:((k:Int)==(len:Int))=false:=by simp;omega
 have c5:¬ ((len:Int)-k<1):=by omega
 have c6:(k:Int) <(len:Int):=by omega
 have c7:wrap64 ((len:Int)-k)=(len:Int)-k:=by have mX:(maxLen:Nat)=9223372036854775807:=rfl;exact IntWalk.wrap64_in _ (by omega)
 clear hm
 have jS:(v0%256==12)=false:=by simp;intro h;rw [h] at hq;exact absurd hq (by decide)
 have lu:(v0%256==13)=false:=by simp;intro h;rw [h] at hq;exact absurd hq (by decide)
 have:0≤v0/256%16∧v0/256%16<16:=by omega
 have:0≤v0/256:=by omega
 have:0≤v0/4096%16∧v0/4096%16<16:=by omega
 have:0≤v0/4096:=by omega
 have:0≤v0/65536%16∧v0/65536%16<16:=by omega
 have:0≤v0/65536:=by omega
 have:0≤v0/1048576%16∧v0/1048576%16<16:=by omega
 have:0≤v0/1048576:=by omega
 have:0≤v0/65536∧v0/65536<65536:=by omega
 go_enter Try.func53,Try.ntmps53
 go_wp2_with (first
  | (go_at_call 97;refine(bC (v0%256) _).mono ?_;rintro e w1 ⟨rfl,rfl⟩;rw [hq,show bW 10= .tuple #[.string {data:= #[100,110]}, .int .i64 12, .int .i64 1] from rfl])
  | (go_at_call 98;refine(D8 _ _).mono ?_;rintro e w1 ⟨rfl,rfl⟩)
  | (go_at_call 98;fail)
  | (go_at_call 99;refine(dK _ _ _ _ _ _ _ _ _).mono ?_;rintro e w2 ⟨rfl,aQ⟩;obtain⟨kT,kX,zT,zX,s1,s2,hB⟩:=bP aQ;have hT:=fF aQ;clear aQ))
 all_goals first
  | exact bf hT hB (ay (by rw [jO];omega)) rfl rfl rfl rfl
  | exact bf hT hB (by rw [aJ (by rw [jO];omega),DT,show v0/256/16/16%65536=v0/65536 by omega];rfl) rfl rfl rfl rfl
  | skip
 all_goals done
end Go.Proofs.Ytcjcmnnhmajocab.Ho
