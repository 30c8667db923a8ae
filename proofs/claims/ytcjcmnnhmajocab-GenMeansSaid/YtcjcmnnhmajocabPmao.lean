import Derived.Test.YtcjcmnnhmajocabPmak
import Derived.Test.YtcjcmnnhmajocabPman
set_option linter.unusedVariables false
set_option linter.unusedSimpArgs false
set_option maxRecDepth 100000
set_option maxHeartbeats 16000000
namespace Go.Proofs.Ytcjcmnnhmajocab.Ho
open Go.RowKit Kt
theorem XT (b off len cap k:Nat) (v0 k1 x1:Int) (w:World) (hk:k<len) (hl:len≤cap) (hm:cap≤maxLen) (hb:b<w.heap.size) (h0:0≤v0) (g0:v0<4294967296) (hq:aF (v0%256)=1)
  (hc:w.cell? ⟨b,off+k,none⟩=some (.int .u32 v0)):Calls Try.prog 53 #[.slice (some ⟨b,off,none⟩) len cap, .int .i64 k] w fun e w'=>e= .returned (dJ 1 v0 k1 x1)∧Below w.heap.size w w':=by
 have c0:(0:Int)≤(k:Int):=by omega
 have c1:(k:Int)≤(len:Int):=by omega
 have c2:¬ ((len:Int) <(k:Int)):=by omega
 have c4:((k:Int)==(len:Int))=false:=by simp;omega
 have c5:¬ ((len:Int)-k<1):=by omega
 have c6:(k:Int) <(len:Int):=by omega
 have c7:wrap64 ((len:Int)-k)=(len:Int)-k:=by have mX:(maxLen:Nat)=9223372036854775807:=rfl;exact IntWalk.wrap64_in _ (by omega)
 clear hm
 have jS:(v0%256==12)=false:=by simp;intro h;rw [h] at hq;exact absurd hq (by decide)
 have lu:(v0%256==13)=false:=by simp;intro h;rw [h] at hq;exact absurd hq (by decide)
 have:0≤v0/256%16∧v0/256%16<16:=by omega
 have:0≤v0/256:=by omega
 have:0≤v0/4096%16∧v0/4096%16<16:=by omega
 have:0≤v0/4096:=by omega
 have:0≤v0/65536%16∧v0/65536%16<16:=by omega
 have:0≤v0/65536:=by omega
 have:0≤v0/1048576%16∧v0/1048576%16<16:=by omega
 have:0≤v0/1048576:=by omega
 have:0≤v0/65536∧v0/65536<65536:=by omega
 go_enter Try.func53,Try.ntmps53
 go_wp2_with (first
  | (go_at_call 97;refine(bC (v0%256) _).mono ?_;rintro e w1 ⟨rfl,rfl⟩;rw [hq,show bW 1= .tuple #[.string {data:= #[100,97,98]}, .int .i64 0, .int .i64 1] from rfl])
  | (go_at_call 98;refine(yJ _ _).mono ?_;rintro e w1 ⟨rfl,rfl⟩)
  | (go_at_call 98;fail)
  | (go_at_call 99;refine(dK _ _ _ _ _ _ _ _ _).mono ?_;rintro e w2 ⟨rfl,aQ⟩;obtain⟨kT,kX,zT,zX,s1,s2,hB⟩:=bP aQ;have hT:=fF aQ;clear aQ))
 all_goals first
  | exact bf hT hB (ay (by rw [mF];omega)) rfl rfl rfl rfl
  | exact bf hT hB (by rw [aJ (by rw [mF];omega),LW,show v0/256/16%16=v0/4096%16 by omega,show v0/256/16/16%16=v0/65536%16 by omega];rfl) rfl rfl rfl rfl
  | skip
 all_goals done
theorem XU (b off len cap k:Nat) (v0 k1 x1:Int) (w:World) (hk:k<len) (hl:len≤cap) (hm:cap≤maxLen) (hb:b<w.heap.size) (h0:0≤v0) (g0:v0<4294967296) (hq:aF (v0%256)=2)
  (hc:w.cell? ⟨b,off+k,none⟩=some (.int .u32 v0)):Calls Try.prog 53 #[.slice (some ⟨b,off,none⟩) len cap, .int .i64 k] w fun e w'=>e= .returned (dJ 2 v0 k1 x1)∧Below w.heap.size w w':=by
 have c0:(0:Int)≤(k:Int):=by omega
 have c1:(k:Int)≤(len:Int):=by omega
 have c2:¬ ((len:Int) <(k:Int)):=by omega
 have c4:((k:Int)==(len:Int))=false:=by simp;omega
 have c5:¬ ((len:Int)-k<1):=by omega
 have c6:(k:Int) <(len:Int):=by omega
 have c7:wrap64 ((len:Int)-k)=(len:Int)-k:=by have mX:(maxLen:Nat)=9223372036854775807:=rfl;exact IntWalk.wrap64_in _ (by omega)
 clear hm
 have jS:(v0%256==12)=false:=by simp;intro h;rw [h] at hq;exact absurd hq (by decide)
 have lu:(v0%256==13)=false:=by simp;intro h;rw [h] at hq;exact absurd hq (by decide)
 have:0≤v0/256%16∧v0/256%16<16:=by omega
 have:0≤v0/256:=by omega
 have:0≤v0/4096%16∧v0/4096%16<16:=by omega
 have:0≤v0/4096:=by omega
 have:0≤v0/65536%16∧v0/65536%16<16:=by omega
 have:0≤v0/65536:=by omega
 have:0≤v0/1048576%16∧v0/1048576%16<16:=by omega
 have:0≤v0/1048576:=by omega
 have:0≤v0/65536∧v0/65536<65536:=by omega
 go_enter Try.func53,Try.ntmps53
 go_wp2_with (first
  | (go_at_call 97;refine(bC (v0%256) _).mono ?_;rintro e w1 ⟨rfl,rfl⟩;rw [hq,show bW 2= .tuple #[.string {data:= #[100,97]}, .int .i64 0, .int .i64 1] from rfl])
  | (go_at_call 98;refine(vO _ _).mono ?_;rintro e w1 ⟨rfl,rfl⟩)
  | (go_at_call 98;fail)
  | (go_at_call 99;refine(dK _ _ _ _ _ _ _ _ _).mono ?_;rintro e w2 ⟨rfl,aQ⟩;obtain⟨kT,kX,zT,zX,s1,s2,hB⟩:=bP aQ;have hT:=fF aQ;clear aQ))
 all_goals first
  | exact bf hT hB (ay (by rw [mG];omega)) rfl rfl rfl rfl
  | exact bf hT hB (by rw [aJ (by rw [mG];omega),LX,show v0/256/16%16=v0/4096%16 by omega];rfl) rfl rfl rfl rfl
  | skip
 all_goals done
theorem XV (b off len cap k:Nat) (v0 k1 x1:Int) (w:World) (hk:k<len) (hl:len≤cap) (hm:cap≤maxLen) (hb:b<w.heap.size) (h0:0≤v0) (g0:v0<4294967296) (hq:aF (v0%256)=3)
  (hc:w.cell? ⟨b,off+k,none⟩=some (.int .u32 v0)):Calls Try.prog 53 #[.slice (some ⟨b,off,none⟩) len cap, .int .i64 k] w fun e w'=>e= .returned (dJ 3 v0 k1 x1)∧Below w.heap.size w w':=by
 have c0:(0:Int)≤(k:Int):=by omega
 have c1:(k:Int)≤(len:Int):=by omega
 have c2:¬ ((len:Int) <(k:Int)):=by omega
 have c4:((k:Int)==(len:Int))=false:=by simp;omega
 have c5:¬ ((len:Int)-k<1):=by omega
 have c6:(k:Int) <(len:Int):=by omega
 have c7:wrap64 ((len:Int)-k)=(len:Int)-k:=by have mX:(maxLen:Nat)=9223372036854775807:=rfl;exact IntWalk.wrap64_in _ (by omega)
 clear hm
 have jS:(v0%256==12)=false:=by simp;intro h;rw [h] at hq;exact absurd hq (by decide)
 have lu:(v0%256==13)=false:=by simp;intro h;rw [h] at hq;exact absurd hq (by decide)
 have:0≤v0/256%16∧v0/256%16<16:=by omega
 have:0≤v0/256:=by omega
 have:0≤v0/4096%16∧v0/4096%16<16:=by omega
 have:0≤v0/4096:=by omega
 have:0≤v0/65536%16∧v0/65536%16<16:=by omega
 have:0≤v0/65536:=by omega
 have:0≤v0/1048576%16∧v0/1048576%16<16:=by omega
 have:0≤v0/1048576:=by omega
 have:0≤v0/65536∧v0/65536<65536:=by omega
 go_enter Try.func53,Try.ntmps53
 go_wp2_with (first
  | (go_at_call 97;refine(bC (v0%256) _).mono ?_;rintro e w1 ⟨rfl,rfl⟩;rw [hq,show bW 3= .tuple #[.string {data:= #[100,97,98,99]}, .int .i64 0, .int .i64 1] from rfl])
  | (go_at_call 98;refine(nX _ _).mono ?_;rintro e w1 ⟨rfl,rfl⟩)
  | (go_at_call 98;fail)
  | (go_at_call 99;refine(dK _ _ _ _ _ _ _ _ _).mono ?_;rintro e w2 ⟨rfl,aQ⟩;obtain⟨kT,kX,zT,zX,s1,s2,hB⟩:=bP aQ;have hT:=fF aQ;clear aQ))
 all_goals first
  | exact bf hT hB (ay (by rw [mJ];omega)) rfl rfl rfl rfl
  | exact bf hT hB (by rw [aJ (by rw [mJ];omega),LY,show v0/256/16%16=v0/4096%16 by omega,show v0/256/16/16%16=v0/65536%16 by omega,show v0/256/16/16/16%16=v0/1048576%16 by omega];rfl) rfl rfl rfl rfl
  | skip
 all_goals done
theorem XW (b off len cap k:Nat) (v0 k1 x1:Int) (w:World) (hk:k<len) (hl:len≤cap) (hm:cap≤maxLen) (hb:b<w.heap.size) (h0:0≤v0) (g0:v0<4294967296) (hq:aF (v0%256)=4)
  (hc:w.cell? ⟨b,off+k,none⟩=some (.int .u32 v0)) (xK:k+1<len) (dZ:w.cell? ⟨b,off+k+1,none⟩=some (.int .u32 k1)):Calls Try.prog 53 #[.slice (some ⟨b,off,none⟩) len cap, .int .i64 k] w fun e w'=>e= .returned (dJ 4 v0 k1 x1)∧Below w.heap.size w w':=by
 have c0:(0:Int)≤(k:Int):=by omega
 have c1:(k:Int)≤(len:Int):=by omega
 have c2:¬ ((len:Int) <(k:Int)):=by omega
 have c4:((k:Int)==(len:Int))=false:=by simp;omega
 have c5:¬ ((len:Int)-k<2):=by omega
 have c6:(k:Int) <(len:Int):=by omega
 have c7:wrap64 ((len:Int)-k)=(len:Int)-k:=by have mX:(maxLen:Nat)=9223372036854775807:=rfl;exact IntWalk.wrap64_in _ (by omega)
 have f1:wrap64 ((k:Int)+1)=(k:Int)+1:=by have mX:(maxLen:Nat)=9223372036854775807:=rfl;exact IntWalk.wrap64_in _ (by omega)
 have Ap:=dZ
 rw [Nat.add_assoc] at Ap
 have d1:(k:Int)+1<(len:Int):=by omega
 clear hm
 have jS:(v0%256==12)=false:=by simp;intro h;rw [h] at hq;exact absurd hq (by decide)
 have lu:(v0%256==13)=false:=by simp;intro h;rw [h] at hq;exact absurd hq (by decide)
 have:0≤v0/256%16∧v0/256%16<16:=by omega
 have:0≤v0/256:=by omega
 have:0≤v0/4096%16∧v0/4096%16<16:=by omega
 have:0≤v0/4096:=by omega
 have:0≤v0/65536%16∧v0/65536%16<16:=by omega
 have:0≤v0/65536:=by omega
 have:0≤v0/1048576%16∧v0/1048576%16<16:=by omega
 have:0≤v0/1048576:=by omega
 have:0≤v0/65536∧v0/65536<65536:=by omega
 go_enter Try.func53,Try.ntmps53
 go_wp2_with (first
  | (go_at_call 97;refine(bC (v0%256) _).mono ?_;rintro e w1 ⟨rfl,rfl⟩;rw [hq,show bW 4= .tuple #[.string {data:= #[100,97,110]}, .int .i64 65, .int .i64 2] from rfl])
  | (go_at_call 98;refine(FK _ _).mono ?_;rintro e w1 ⟨rfl,rfl⟩)
  | (go_at_call 98;fail)
  | (go_at_call 99;refine(dK _ _ _ _ _ _ _ _ _).mono ?_;rintro e w2 ⟨rfl,aQ⟩;obtain⟨kT,kX,zT,zX,s1,s2,hB⟩:=bP aQ;have hT:=fF aQ;clear aQ))
 all_goals first
  | exact bf hT hB (ay (by rw [mM];omega)) rfl rfl rfl rfl
  | exact bf hT hB (by rw [aJ (by rw [mM];omega),LZ,show v0/256/16%16=v0/4096%16 by omega,show v0/256/16/16%65536=v0/65536 by omega];rfl) rfl rfl rfl rfl
  | skip
 all_goals done
theorem XY (b off len cap k:Nat) (v0 k1 x1:Int) (w:World) (hk:k<len) (hl:len≤cap) (hm:cap≤maxLen) (hb:b<w.heap.size) (h0:0≤v0) (g0:v0<4294967296) (hq:aF (v0%256)=5)
  (hc:w.cell? ⟨b,off+k,none⟩=some (.int .u32 v0)):Calls Try.prog 53 #[.slice (some ⟨b,off,none⟩) len cap, .int .i64 k] w fun e w'=>e= .returned (dJ 5 v0 k1 x1)∧Below w.heap.size w w':=by
 have c0:(0:Int)≤(k:Int):=by omega
 have c1:(k:Int)≤(len:Int):=by omega
 have c2:¬ ((len:Int) <(k:Int)):=by omega
 have c4:((k:Int)==(len:Int))=false:=by simp;omega
 have c5:¬ ((len:Int)-k<1):=by omega
 have c6:(k:Int) <(len:Int):=by omega
 have c7:wrap64 ((len:Int)-k)=(len:Int)-k:=by have mX:(maxLen:Nat)=9223372036854775807:=rfl;exact IntWalk.wrap64_in _ (by omega)
 clear hm
 have jS:(v0%256==12)=false:=by simp;intro h;rw [h] at hq;exact absurd hq (by decide)
 have lu:(v0%256==13)=false:=by simp;intro h;rw [h] at hq;exact absurd hq (by decide)
 have:0≤v0/256%16∧v0/256%16<16:=by omega
 have:0≤v0/256:=by omega
 have:0≤v0/4096%16∧v0/4096%16<16:=by omega
 have:0≤v0/4096:=by omega
 have:0≤v0/65536%16∧v0/65536%16<16:=by omega
 have:0≤v0/65536:=by omega
 have:0≤v0/1048576%16∧v0/1048576%16<16:=by omega
 have:0≤v0/1048576:=by omega
 have:0≤v0/65536∧v0/65536<65536:=by omega
 go_enter Try.func53,Try.ntmps53
 go_wp2_with (first
  | (go_at_call 97;refine(bC (v0%256) _).mono ?_;rintro e w1 ⟨rfl,rfl⟩;rw [hq,show bW 5= .tuple #[.string {data:= #[100]}, .int .i64 0, .int .i64 1] from rfl])
  | (go_at_call 98;refine(VN _ _).mono ?_;rintro e w1 ⟨rfl,rfl⟩)
  | (go_at_call 98;fail)
  | (go_at_call 99;refine(dK _ _ _ _ _ _ _ _ _).mono ?_;rintro e w2 ⟨rfl,aQ⟩;obtain⟨kT,kX,zT,zX,s1,s2,hB⟩:=bP aQ;have hT:=fF aQ;clear aQ))
 all_goals first
  | exact bf hT hB (ay (by rw [mO];omega)) rfl rfl rfl rfl
  | exact bf hT hB (by rw [aJ (by rw [mO];omega),L6];rfl) rfl rfl rfl rfl
  | skip
 all_goals done
end Go.Proofs.Ytcjcmnnhmajocab.Ho
