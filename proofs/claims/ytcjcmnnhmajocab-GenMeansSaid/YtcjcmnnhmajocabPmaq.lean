import Derived.Deep.OwnRows
import Derived.Test.YtcjcmnnhmajocabPmam
import Derived.Test.YtcjcmnnhmajocabPmao
import Derived.Test.YtcjcmnnhmajocabPmap
set_option linter.unusedVariables false
set_option linter.unusedSimpArgs false
set_option maxRecDepth 100000
set_option maxHeartbeats 16000000
namespace Go.Proofs.Ytcjcmnnhmajocab.Ho
open Go.RowKit Kt
theorem Rw (b off len cap k:Nat) (v0 k1 x1:Int) (w:World) (hk:k<len) (hl:len≤cap) (hm:cap≤maxLen) (hb:b<w.heap.size) (h0:0≤v0) (g0:v0<4294967296) (hq:aF (v0%256)=11)
  (hc:w.cell? ⟨b,off+k,none⟩=some (.int .u32 v0)):Calls Try.prog 53 #[.slice (some ⟨b,off,none⟩) len cap, .int .i64 k] w fun e w'=>e= .returned (dJ 11 v0 k1 x1)∧Below w.heap.size w w':=by
 have c0:(0:Int)≤(k:Int):=by omega
 have c1:(k:Int)≤(len:Int):=by omega
 have c2:¬ ((len:Int) <(k:Int)):=by omega
 have c4:((k:Int)==(len:Int))=false:=by simp;omega
 have c5:¬ ((len:Int)-k<1):=by omega
 have c6:(k:Int) <(len:Int):=by omega
 have c7:wrap64 ((len:Int)-k)=(len:Int)-k:=by have mX:(maxLen:Nat)=9223372036854775807:=rfl;exact IntWalk.wrap64_in _ (by omega)
 clear hm
 have jS:(v0%256==12)=false:=by simp;intro h;rw [h] at hq;exact absurd hq (by decide)
 have lu:(v0%256==13)=false:=by simp;intro h;rw [h] at hq;exact absurd hq (by decide)
 have:0≤v0/256%16∧v0/256%16<16:=by omega
 have:0≤v0/256:=by omega
 have:0≤v0/4096%16∧v0/4096%16<16:=by omega
 have:0≤v0/4096:=by omega
 have:0≤v0/65536%16∧v0/65536%16<16:=by omega
 have:0≤v0/65536:=by omega
 have:0≤v0/1048576%16∧v0/1048576%16<16:=by omega
 have:0≤v0/1048576:=by omega
 have:0≤v0/65536∧v0/65536<65536:=by omega
 go_enter Try.func53,Try.ntmps53
 go_wp2_with (first
  | (go_at_call 97;refine(bC (v0%256) _).mono ?_;rintro e w1 ⟨rfl,rfl⟩;rw [hq,show bW 11= .tuple #[.string {data:= #[97,110]}, .int .i64 12, .int .i64 1] from rfl])
  | (go_at_call 98;refine(yI _ _).mono ?_;rintro e w1 ⟨rfl,rfl⟩)
  | (go_at_call 98;fail)
  | (go_at_call 99;refine(dK _ _ _ _ _ _ _ _ _).mono ?_;rintro e w2 ⟨rfl,aQ⟩;obtain⟨kT,kX,zT,zX,s1,s2,hB⟩:=bP aQ;have hT:=fF aQ;clear aQ))
 all_goals first
  | exact bf hT hB (ay (by rw [jP];omega)) rfl rfl rfl rfl
  | exact bf hT hB (by rw [aJ (by rw [jP];omega),DU,show v0/256/16%16=v0/4096%16 by omega,show v0/256/16/16%65536=v0/65536 by omega];rfl) rfl rfl rfl rfl
  | skip
 all_goals done
theorem Rx (b off len cap k:Nat) (v0 k1 x1:Int) (w:World) (hk:k<len) (hl:len≤cap) (hm:cap≤maxLen) (hb:b<w.heap.size) (h0:0≤v0) (g0:v0<4294967296) (hq:aF (v0%256)=12)
  (hc:w.cell? ⟨b,off+k,none⟩=some (.int .u32 v0)):Calls Try.prog 53 #[.slice (some ⟨b,off,none⟩) len cap, .int .i64 k] w fun e w'=>e= .returned (dJ 12 v0 k1 x1)∧Below w.heap.size w w':=by
 have c0:(0:Int)≤(k:Int):=by omega
 have c1:(k:Int)≤(len:Int):=by omega
 have c2:¬ ((len:Int) <(k:Int)):=by omega
 have c4:((k:Int)==(len:Int))=false:=by simp;omega
 have c5:¬ ((len:Int)-k<1):=by omega
 have c6:(k:Int) <(len:Int):=by omega
 have c7:wrap64 ((len:Int)-k)=(len:Int)-k:=by have mX:(maxLen:Nat)=9223372036854775807:=rfl;exact IntWalk.wrap64_in _ (by omega)
 clear hm
 have jS:(v0%256==12)=false:=by simp;intro h;rw [h] at hq;exact absurd hq (by decide)
 have lu:(v0%256==13)=false:=by simp;intro h;rw [h] at hq;exact absurd hq (by decide)
 have:0≤v0/256%16∧v0/256%16<16:=by omega
 have:0≤v0/256:=by omega
 have:0≤v0/4096%16∧v0/4096%16<16:=by omega
 have:0≤v0/4096:=by omega
 have:0≤v0/65536%16∧v0/65536%16<16:=by omega
 have:0≤v0/65536:=by omega
 have:0≤v0/1048576%16∧v0/1048576%16<16:=by omega
 have:0≤v0/1048576:=by omega
 have:0≤v0/65536∧v0/65536<65536:=by omega
 go_enter Try.func53,Try.ntmps53
 go_wp2_with (first
  | (go_at_call 97;refine(bC (v0%256) _).mono ?_;rintro e w1 ⟨rfl,rfl⟩;rw [hq,show bW 12= .tuple #[.string {data:= #[100,110]}, .int .i64 2048, .int .i64 1] from rfl])
  | (go_at_call 98;refine(D8 _ _).mono ?_;rintro e w1 ⟨rfl,rfl⟩)
  | (go_at_call 98;fail)
  | (go_at_call 99;refine(dK _ _ _ _ _ _ _ _ _).mono ?_;rintro e w2 ⟨rfl,aQ⟩;obtain⟨kT,kX,zT,zX,s1,s2,hB⟩:=bP aQ;have hT:=fF aQ;clear aQ))
 all_goals first
  | exact bf hT hB (ay (by rw [jQ];omega)) rfl rfl rfl rfl
  | exact bf hT hB (by rw [aJ (by rw [jQ];omega),DV,show v0/256/16/16%65536=v0/65536 by omega];rfl) rfl rfl rfl rfl
  | skip
 all_goals done
theorem Ry (b off len cap k:Nat) (v0 k1 x1:Int) (w:World) (hk:k<len) (hl:len≤cap) (hm:cap≤maxLen) (hb:b<w.heap.size) (h0:0≤v0) (g0:v0<4294967296) (hq:aF (v0%256)=13)
  (hc:w.cell? ⟨b,off+k,none⟩=some (.int .u32 v0)):Calls Try.prog 53 #[.slice (some ⟨b,off,none⟩) len cap, .int .i64 k] w fun e w'=>e= .returned (dJ 13 v0 k1 x1)∧Below w.heap.size w w':=by
 have c0:(0:Int)≤(k:Int):=by omega
 have c1:(k:Int)≤(len:Int):=by omega
 have c2:¬ ((len:Int) <(k:Int)):=by omega
 have c4:((k:Int)==(len:Int))=false:=by simp;omega
 have c5:¬ ((len:Int)-k<1):=by omega
 have c6:(k:Int) <(len:Int):=by omega
 have c7:wrap64 ((len:Int)-k)=(len:Int)-k:=by have mX:(maxLen:Nat)=9223372036854775807:=rfl;exact IntWalk.wrap64_in _ (by omega)
 clear hm
 have jS:(v0%256==12)=false:=by simp;intro h;rw [h] at hq;exact absurd hq (by decide)
 have lu:(v0%256==13)=false:=by simp;intro h;rw [h] at hq;exact absurd hq (by decide)
 have:0≤v0/256%16∧v0/256%16<16:=by omega
 have:0≤v0/256:=by omega
 have:0≤v0/4096%16∧v0/4096%16<16:=by omega
 have:0≤v0/4096:=by omega
 have:0≤v0/65536%16∧v0/65536%16<16:=by omega
 have:0≤v0/65536:=by omega
 have:0≤v0/1048576%16∧v0/1048576%16<16:=by omega
 have:0≤v0/1048576:=by omega
 have:0≤v0/65536∧v0/65536<65536:=by omega
 go_enter Try.func53,Try.ntmps53
 go_wp2_with (first
  | (go_at_call 97;refine(bC (v0%256) _).mono ?_;rintro e w1 ⟨rfl,rfl⟩;rw [hq,show bW 13= .tuple #[.string {data:= #[97,110]}, .int .i64 2048, .int .i64 1] from rfl])
  | (go_at_call 98;refine(yI _ _).mono ?_;rintro e w1 ⟨rfl,rfl⟩)
  | (go_at_call 98;fail)
  | (go_at_call 99;refine(dK _ _ _ _ _ _ _ _ _).mono ?_;rintro e w2 ⟨rfl,aQ⟩;obtain⟨kT,kX,zT,zX,s1,s2,hB⟩:=bP aQ;have hT:=fF aQ;clear aQ))
 all_goals first
  | exact bf hT hB (ay (by rw [jR];omega)) rfl rfl rfl rfl
  | exact bf hT hB (by rw [aJ (by rw [jR];omega),DW,show v0/256/16%16=v0/4096%16 by omega,show v0/256/16/16%65536=v0/65536 by omega];rfl) rfl rfl rfl rfl
  | skip
 all_goals done
theorem Rz (b off len cap k:Nat) (v0 k1 x1:Int) (w:World) (hk:k<len) (hl:len≤cap) (hm:cap≤maxLen) (hb:b<w.heap.size) (h0:0≤v0) (g0:v0<4294967296) (hq:aF (v0%256)=14)
  (hc:w.cell? ⟨b,off+k,none⟩=some (.int .u32 v0)) (xK:k+1<len) (dZ:w.cell? ⟨b,off+k+1,none⟩=some (.int .u32 k1)) (uD:k+2<len) (wR:w.cell? ⟨b,off+k+2,none⟩=some (.int .u32 x1)):Calls Try.prog 53 #[.slice (some ⟨b,off,none⟩) len cap, .int .i64 k] w fun e w'=>e= .returned (dJ 14 v0 k1 x1)∧Below w.heap.size w w':=by
 have c0:(0:Int)≤(k:Int):=by omega
 have c1:(k:Int)≤(len:Int):=by omega
 have c2:¬ ((len:Int) <(k:Int)):=by omega
 have c4:((k:Int)==(len:Int))=false:=by simp;omega
 have c5:¬ ((len:Int)-k<3):=by omega
 have c6:(k:Int) <(len:Int):=by omega
 have c7:wrap64 ((len:Int)-k)=(len:Int)-k:=by have mX:(maxLen:Nat)=9223372036854775807:=rfl;exact IntWalk.wrap64_in _ (by omega)
 have f1:wrap64 ((k:Int)+1)=(k:Int)+1:=by have mX:(maxLen:Nat)=9223372036854775807:=rfl;exact IntWalk.wrap64_in _ (by omega)
 have f2:wrap64 ((k:Int)+2)=(k:Int)+2:=by have mX:(maxLen:Nat)=9223372036854775807:=rfl;exact IntWalk.wrap64_in _ (by omega)
 have Ap:=dZ
 rw [Nat.add_assoc] at Ap
 have Zv:=wR
 rw [Nat.add_assoc] at Zv
 have d1:(k:Int)+1<(len:Int):=by omega
 have d2:(k:Int)+2<(len:Int):=by omega
 clear hm
 have:0≤v0/256%16∧v0/256%16<16:=by omega
 have:0≤v0/256:=by omega
 have:0≤v0/4096%16∧v0/4096%16<16:=by omega
 have:0≤v0/4096:=by omega
 have:0≤v0/65536%16∧v0/65536%16<16:=by omega
 have:0≤v0/65536:=by omega
 have:0≤v0/1048576%16∧v0/1048576%16<16:=by omega
 have:0≤v0/1048576:=by omega
 have:0≤v0/65536∧v0/65536<65536:=by omega
 go_enter Try.func53,Try.ntmps53
 go_wp2_with (first
  | (go_at_call 97;refine(bC (v0%256) _).mono ?_;rintro e w1 ⟨rfl,rfl⟩;rw [hq,show bW 14= .tuple #[.string {data:= #[100,110]}, .int .i64 65, .int .i64 3] from rfl])
  | (go_at_call 98;refine(D8 _ _).mono ?_;rintro e w1 ⟨rfl,rfl⟩)
  | (go_at_call 98;fail)
  | (go_at_call 99;refine(dK _ _ _ _ _ _ _ _ _).mono ?_;rintro e w2 ⟨rfl,aQ⟩;obtain⟨kT,kX,zT,zX,s1,s2,hB⟩:=bP aQ;have hT:=fF aQ;clear aQ;have Cj:=XP hq))
 all_goals first
  | exact bf hT hB (ay (by rw [jB];omega)) rfl rfl rfl rfl
  | exact bf hT hB (by rw [aJ (by rw [jB];omega),DX,show v0/256/16/16%65536=v0/65536 by omega,Cj];rfl) rfl rfl rfl rfl
  | skip
 all_goals done
theorem RF (b off len cap k:Nat) (v0 k1 x1:Int) (w:World) (hk:k<len) (hl:len≤cap) (hm:cap≤maxLen) (hb:b<w.heap.size) (h0:0≤v0) (g0:v0<4294967296) (hq:aF (v0%256)=15)
  (hc:w.cell? ⟨b,off+k,none⟩=some (.int .u32 v0)) (xK:k+1<len) (dZ:w.cell? ⟨b,off+k+1,none⟩=some (.int .u32 k1)):Calls Try.prog 53 #[.slice (some ⟨b,off,none⟩) len cap, .int .i64 k] w fun e w'=>e= .returned (dJ 15 v0 k1 x1)∧Below w.heap.size w w':=by
 have c0:(0:Int)≤(k:Int):=by omega
 have c1:(k:Int)≤(len:Int):=by omega
 have c2:¬ ((len:Int) <(k:Int)):=by omega
 have c4:((k:Int)==(len:Int))=false:=by simp;omega
 have c5:¬ ((len:Int)-k<2):=by omega
 have c6:(k:Int) <(len:Int):=by omega
 have c7:wrap64 ((len:Int)-k)=(len:Int)-k:=by have mX:(maxLen:Nat)=9223372036854775807:=rfl;exact IntWalk.wrap64_in _ (by omega)
 have f1:wrap64 ((k:Int)+1)=(k:Int)+1:=by have mX:(maxLen:Nat)=9223372036854775807:=rfl;exact IntWalk.wrap64_in _ (by omega)
 have Ap:=dZ
 rw [Nat.add_assoc] at Ap
 have d1:(k:Int)+1<(len:Int):=by omega
 clear hm
 have:0≤v0/256%16∧v0/256%16<16:=by omega
 have:0≤v0/256:=by omega
 have:0≤v0/4096%16∧v0/4096%16<16:=by omega
 have:0≤v0/4096:=by omega
 have:0≤v0/65536%16∧v0/65536%16<16:=by omega
 have:0≤v0/65536:=by omega
 have:0≤v0/1048576%16∧v0/1048576%16<16:=by omega
 have:0≤v0/1048576:=by omega
 have:0≤v0/65536∧v0/65536<65536:=by omega
 go_enter Try.func53,Try.ntmps53
 go_wp2_with (first
  | (go_at_call 97;refine(bC (v0%256) _).mono ?_;rintro e w1 ⟨rfl,rfl⟩;rw [hq,show bW 15= .tuple #[.string {data:= #[100,97,110]}, .int .i64 65, .int .i64 2] from rfl])
  | (go_at_call 98;refine(FK _ _).mono ?_;rintro e w1 ⟨rfl,rfl⟩)
  | (go_at_call 98;fail)
  | (go_at_call 99;refine(dK _ _ _ _ _ _ _ _ _).mono ?_;rintro e w2 ⟨rfl,aQ⟩;obtain⟨kT,kX,zT,zX,s1,s2,hB⟩:=bP aQ;have hT:=fF aQ;clear aQ;have Cj:=XQ hq))
 all_goals first
  | exact bf hT hB (ay (by rw [jC];omega)) rfl rfl rfl rfl
  | exact bf hT hB (by rw [aJ (by rw [jC];omega),DY,show v0/256/16%16=v0/4096%16 by omega,show v0/256/16/16%65536=v0/65536 by omega,Cj];rfl) rfl rfl rfl rfl
  | skip
 all_goals done
theorem Aq (i:Nat) (hi:i≤32) (x:Int):bits .and .i64 x (2^i-1)=x%2^i:=by
 have abb:0<2^i:=Nat.two_pow_pos i
 have hle:2^i≤2^32:=Nat.pow_le_pow_right (by decide) hi
 have hc:((2:Int)^i-1)=((2^i-1:Nat):Int):=by
  rw [Int.natCast_sub abb];simp
 have hA:(BitVec.ofInt 64 x).toNat=(x%18446744073709551616).toNat:=by
  rw [BitVec.toNat_ofInt];rfl
 have hb:(2^i-1)%2^64=2^i-1:=Nat.mod_eq_of_lt (by omega)
 rw [hc]
 show IntKind.i64.wrap ((BitVec.ofInt 64 x&&&BitVec.ofInt 64 ((2^i-1:Nat):Int)).toNat:Int)=_
 rw [BitVec.ofInt_natCast,BitVec.toNat_and,hA,BitVec.toNat_ofNat,hb,Nat.and_two_pow_sub_one_eq_mod]
 have hm:(x%18446744073709551616).toNat%2^i<2^i:=Nat.mod_lt _ abb
 rw [IntKind.wrap_i64]
 have MS:(((x%18446744073709551616).toNat%2^i:Nat):Int)=x%2^i:=by
  rw [Int.natCast_emod,Int.toNat_of_nonneg (Int.emod_nonneg _ (by decide))]
  have hd:((2^i:Nat):Int) ∣ 18446744073709551616:=by
   have:(2^i:Nat) ∣ 2^64:=Nat.pow_dvd_pow 2 (by omega)
   exact Int.natCast_dvd_natCast.mpr this
  rw [Int.emod_emod_of_dvd _ hd,Int.natCast_pow]
  rfl
 rw [MS]
 have h1:x%2^i<2^i:=by rw [←MS];have:=Int.ofNat_lt.mpr hm;rw [Int.natCast_pow] at this;exact this
 have h0:0≤x%2^i:=by rw [←MS];exact Int.natCast_nonneg _
 have h2:(2:Int)^i≤4294967296:=by have:=Int.ofNat_le.mpr hle;rw [Int.natCast_pow] at this;exact this
 omega
theorem aS (x:Int):bits .and .i64 x 15=x%16:=Aq 4 (by decide) x
theorem dL (x:Int):bits .and .i64 x 65535=x%65536:=Aq 16 (by decide) x
theorem Ar (i:Nat) (x y:Int) (hx:0≤x) (hx':x<2^i) (hy:0≤y) (hd:y%2^i=0) (h1:x<4294967296) (h2:y<4294967296):bits .or .u32 x y=x+y:=by
 obtain⟨a,rfl⟩:=Int.eq_ofNat_of_zero_le hx
 obtain⟨b,rfl⟩:=Int.eq_ofNat_of_zero_le hy
 have hw:∀n:Int,0≤n→n<2^32→IntKind.u32.wrap n=n:=fun n Xr Xt=>by rw [IntKind.wrap_u32];omega
 have h:=bits_join .u32 32 (by decide) hw i b a (by omega) hd (by omega) (by omega) hx' (by omega)
 have ha:a<2^32:=by omega
 have hb:b<2^32:=by omega
 rw [(bits_nat .u32 32 (by decide) hw b a hb ha).2] at h
 rw [(bits_nat .u32 32 (by decide) hw a b ha hb).2,Nat.or_comm,h]
 omega
theorem qc (o d:Int) (h:0≤o) (g:o<256):bits .or .u32 o (d%16*256)=o+d%16*256:=Ar 8 _ _ h g (by omega) (by omega) (by omega) (by omega)
theorem qg (o d a:Int) (h:0≤o) (g:o<256):bits .or .u32 (o+d%16*256) (a%16*4096)=o+d%16*256+a%16*4096:=Ar 12 _ _ (by omega) (by omega) (by omega) (by omega) (by omega) (by omega)
theorem qh (o d a n:Int) (h:0≤o) (g:o<256):bits .or .u32 (o+d%16*256+a%16*4096) (n%65536*65536)=o+d%16*256+a%16*4096+n%65536*65536:=Ar 16 _ _ (by omega) (by omega) (by omega) (by omega) (by omega) (by omega)
theorem jZ (b c:Int):bits .or .u32 (b%16*65536) (c%16*1048576)=b%16*65536+c%16*1048576:=Ar 20 _ _ (by omega) (by omega) (by omega) (by omega) (by omega) (by omega)
theorem qj (o d a b c:Int) (h:0≤o) (g:o<256):bits .or .u32 (o+d%16*256+a%16*4096) (b%16*65536+c%16*1048576)=o+d%16*256+a%16*4096+(b%16*65536+c%16*1048576):=Ar 16 _ _ (by omega) (by omega) (by omega) (by omega) (by omega) (by omega)
theorem vP:∃i,Try.prog.info? 22=some i∧i.zero=some (.int .u32 0)∧i.size=1∧i.bytes=4:=by
 have h:(Try.prog.info? 22).map (fun i=>(i.zero,i.size,i.bytes))=some (some (.int .u32 0),1,4):=by kernel_rfl
 obtain⟨i,hi,hz⟩:=Option.map_eq_some_iff.1 h
 simp only [Prod.mk.injEq] at hz
 exact⟨i,hi,hz.1,hz.2.1,hz.2.2⟩
theorem ku (w:World):(Instr.makeSlice 26 (.int .i64 0) (.int .i64 3)).run Try.prog w= .ok (.slice (some ⟨w.heap.size,0,none⟩) 0 3) (w.alloc (.cells #[.int .u32 0, .int .u32 0, .int .u32 0] 22)):=by
 obtain⟨i,hi,hz,hs,hb⟩:=vP
 have hr:=run_make (P:=Try.prog) w 26 22 i (.int .u32 0) Try.underlying26 hi hz .i64 .i64 0 3 (by omega) (by omega) (by rw [hb];decide) (by omega)
 rw [hs] at hr
 rw [show madeCells (Value.int IntKind.u32 0).cells ((3:Int).toNat*1)= #[.int .u32 0, .int .u32 0, .int .u32 0] by kernel_rfl] at hr
 exact hr
theorem dh {P:Program} (d:Nat) (xs ys:Array Value) (f:Field) (fs:List Field) (hn:f.name≠ "_") {k k':IntKind} {a b:Int} {r:Bool} (hu:P.underlying f.type=some (.int k'))
  (p1:∀w:World,(part f.type xs f.offset).run P w= .ok (.int k a) w) (p2:∀w:World,(part f.type ys f.offset).run P w= .ok (.int k b) w) (ih:∀w:World,(Op.eqFields (d+1) xs ys fs).run P w= .ok r w):
  ∀w:World,(Op.eqFields (d+1) xs ys (f::fs)).run P w= .ok (a==b&&r) w:=by
 intro w
 simp only [Op.eqFields,if_pos hn,Sem.run_bind,p1,p2,Result.andThen_ok,run_equalIn_int w d f.type k k' a b hu]
 cases h:(a==b)
 ·simp
 ·simp [ih]
noncomputable def Cm (i:Nat):Field:=(Try.prog.fieldsOf 108)[i]!
theorem adZ:(Try.prog.fieldsOf 108).toList= [Cm 0,Cm 1,Cm 2,Cm 3,Cm 4,Cm 5,Cm 6,Cm 7]:=by kernel_rfl
def eqc (o d a b c n k x o' d' a' b' c' n' k' x':Int):Bool:=o==o'&&(d==d'&&(a==a'&&(b==b'&&(c==c'&&(n==n'&&(k==k'&&(x==x'&&true)))))))
theorem bQ (o d a b c n k x o' d' a' b' c' n' k' x':Int):eqc o d a b c n k x o' d' a' b' c' n' k' x'=true↔(o=o'∧d=d'∧a=a'∧b=b'∧c=c'∧n=n'∧k=k'∧x=x'):=by
 simp [eqc]
theorem dW (o d a b c n k x o' d' a' b' c' n' k' x':Int):∀w:World,(binOp .neq 108 (.agg #[.int .i64 o, .int .i64 d, .int .i64 a, .int .i64 b, .int .i64 c, .int .i64 n, .int .u32 k, .int .u32 x])
  (.agg #[.int .i64 o', .int .i64 d', .int .i64 a', .int .i64 b', .int .i64 c', .int .i64 n', .int .u32 k', .int .u32 x'])).run Try.prog w= .ok (.bool (!eqc o d a b c n k x o' d' a' b' c' n' k' x')) w:=by
 intro w
 have h:∀w:World,(Op.eqFields 9999 #[.int .i64 o, .int .i64 d, .int .i64 a, .int .i64 b, .int .i64 c, .int .i64 n, .int .u32 k, .int .u32 x] #[.int .i64 o', .int .i64 d', .int .i64 a', .int .i64 b', .int .i64 c', .int .i64 n', .int .u32 k', .int .u32 x']
   [Cm 0,Cm 1,Cm 2,Cm 3,Cm 4,Cm 5,Cm 6,Cm 7]).run Try.prog w= .ok (eqc o d a b c n k x o' d' a' b' c' n' k' x') w:=by
  refine dh 9998 _ _ _ _ (by decide+kernel) (k:= .i64) (k':= .i64) (by kernel_rfl) (fun w=>by kernel_rfl) (fun w=>by kernel_rfl) ?_
  refine dh 9998 _ _ _ _ (by decide+kernel) (k:= .i64) (k':= .i64) (by kernel_rfl) (fun w=>by kernel_rfl) (fun w=>by kernel_rfl) ?_
  refine dh 9998 _ _ _ _ (by decide+kernel) (k:= .i64) (k':= .i64) (by kernel_rfl) (fun w=>by kernel_rfl) (fun w=>by kernel_rfl) ?_
  refine dh 9998 _ _ _ _ (by decide+kernel) (k:= .i64) (k':= .i64) (by kernel_rfl) (fun w=>by kernel_rfl) (fun w=>by kernel_rfl) ?_
  refine dh 9998 _ _ _ _ (by decide+kernel) (k:= .i64) (k':= .i64) (by kernel_rfl) (fun w=>by kernel_rfl) (fun w=>by kernel_rfl) ?_
  refine dh 9998 _ _ _ _ (by decide+kernel) (k:= .i64) (k':= .i64) (by kernel_rfl) (fun w=>by kernel_rfl) (fun w=>by kernel_rfl) ?_
  refine dh 9998 _ _ _ _ (by decide+kernel) (k:= .u32) (k':= .u32) (by kernel_rfl) (fun w=>by kernel_rfl) (fun w=>by kernel_rfl) ?_
  refine dh 9998 _ _ _ _ (by decide+kernel) (k:= .u32) (k':= .u32) (by kernel_rfl) (fun w=>by kernel_rfl) (fun w=>by kernel_rfl) ?_
  intro w
  simp [Op.eqFields]
 rw [←adZ] at h
 have hs:(Op.equalIn 10000 108 (.agg #[.int .i64 o, .int .i64 d, .int .i64 a, .int .i64 b, .int .i64 c, .int .i64 n, .int .u32 k, .int .u32 x]) (.agg #[.int .i64 o', .int .i64 d', .int .i64 a', .int .i64 b', .int .i64 c', .int .i64 n', .int .u32 k', .int .u32 x'])).run Try.prog w= .ok (eqc o d a b c n k x o' d' a' b' c' n' k' x') w:=by
  rw [run_equalIn_struct w 9999 108 _ _ (by kernel_rfl) (by kernel_rfl),h]
 rw [run_neq_struct,hs]
 rfl
theorem RH (q b off len cap k:Nat) (v0 k1 x1:Int) (w:World) (h1:1≤q) (h2:q≤15) (hw:(k:Int)+wd q≤len) (hl:len≤cap) (hm:cap≤maxLen) (hb:b<w.heap.size) (h0:0≤v0) (g0:v0<4294967296) (hq:aF (v0%256)=q)
  (hc:w.cell? ⟨b,off+k,none⟩=some (.int .u32 v0)) (dZ:1<wd q→w.cell? ⟨b,off+k+1,none⟩=some (.int .u32 k1)) (wR:2<wd q→w.cell? ⟨b,off+k+2,none⟩=some (.int .u32 x1)):
  Calls Try.prog 89 #[.slice (some ⟨b,off,none⟩) len cap, .int .i64 k] w fun e w'=>e= .returned (dJ q v0 k1 x1)∧Below w.heap.size w w':=by
 rcases(show q=1∨q=2∨q=3∨q=4∨q=5∨q=6∨q=7∨q=8∨q=9∨q=10∨q=11∨q=12∨q=13∨q=14∨q=15 by omega) with rfl | rfl | rfl | rfl | rfl | rfl | rfl | rfl | rfl | rfl | rfl | rfl | rfl | rfl | rfl
 ·have qR:k+1≤len:=by(have:wd 1=1:=by decide);omega
  exact aaL b off len cap k v0 k1 x1 w (by omega) hl hm hb h0 g0 hq hc
 ·have qR:k+1≤len:=by(have:wd 2=1:=by decide);omega
  exact aaM b off len cap k v0 k1 x1 w (by omega) hl hm hb h0 g0 hq hc
 ·have qR:k+1≤len:=by(have:wd 3=1:=by decide);omega
  exact aaN b off len cap k v0 k1 x1 w (by omega) hl hm hb h0 g0 hq hc
 ·have qR:k+2≤len:=by(have:wd 4=2:=by decide);omega
  exact aaO b off len cap k v0 k1 x1 w (by omega) hl hm hb h0 g0 hq hc (by omega) (dZ (by decide))
 ·have qR:k+1≤len:=by(have:wd 5=1:=by decide);omega
  exact aaP b off len cap k v0 k1 x1 w (by omega) hl hm hb h0 g0 hq hc
 ·have qR:k+2≤len:=by(have:wd 6=2:=by decide);omega
  exact aaQ b off len cap k v0 k1 x1 w (by omega) hl hm hb h0 g0 hq hc (by omega) (dZ (by decide))
 ·have qR:k+2≤len:=by(have:wd 7=2:=by decide);omega
  exact aaR b off len cap k v0 k1 x1 w (by omega) hl hm hb h0 g0 hq hc (by omega) (dZ (by decide))
 ·have qR:k+2≤len:=by(have:wd 8=2:=by decide);omega
  exact aaS b off len cap k v0 k1 x1 w (by omega) hl hm hb h0 g0 hq hc (by omega) (dZ (by decide))
 ·have qR:k+1≤len:=by(have:wd 9=1:=by decide);omega
  exact aaT b off len cap k v0 k1 x1 w (by omega) hl hm hb h0 g0 hq hc
 ·have qR:k+1≤len:=by(have:wd 10=1:=by decide);omega
  exact Xv b off len cap k v0 k1 x1 w (by omega) hl hm hb h0 g0 hq hc
 ·have qR:k+1≤len:=by(have:wd 11=1:=by decide);omega
  exact Xw b off len cap k v0 k1 x1 w (by omega) hl hm hb h0 g0 hq hc
 ·have qR:k+1≤len:=by(have:wd 12=1:=by decide);omega
  exact Xx b off len cap k v0 k1 x1 w (by omega) hl hm hb h0 g0 hq hc
 ·have qR:k+1≤len:=by(have:wd 13=1:=by decide);omega
  exact Xy b off len cap k v0 k1 x1 w (by omega) hl hm hb h0 g0 hq hc
 ·have qR:k+3≤len:=by(have:wd 14=3:=by decide);omega
  exact Xz b off len cap k v0 k1 x1 w (by omega) hl hm hb h0 g0 hq hc (by omega) (dZ (by decide)) (by omega) (wR (by decide))
 ·have qR:k+2≤len:=by(have:wd 15=2:=by decide);omega
  exact XC b off len cap k v0 k1 x1 w (by omega) hl hm hb h0 g0 hq hc (by omega) (dZ (by decide))
theorem MV (q b off len cap k:Nat) (v0 k1 x1:Int) (w:World) (h1:1≤q) (h2:q≤15) (hw:(k:Int)+wd q≤len) (hl:len≤cap) (hm:cap≤maxLen) (hb:b<w.heap.size) (h0:0≤v0) (g0:v0<4294967296) (hq:aF (v0%256)=q)
  (hc:w.cell? ⟨b,off+k,none⟩=some (.int .u32 v0)) (dZ:1<wd q→w.cell? ⟨b,off+k+1,none⟩=some (.int .u32 k1)) (wR:2<wd q→w.cell? ⟨b,off+k+2,none⟩=some (.int .u32 x1)):
  Calls Try.prog 53 #[.slice (some ⟨b,off,none⟩) len cap, .int .i64 k] w fun e w'=>e= .returned (dJ q v0 k1 x1)∧Below w.heap.size w w':=by
 rcases(show q=1∨q=2∨q=3∨q=4∨q=5∨q=6∨q=7∨q=8∨q=9∨q=10∨q=11∨q=12∨q=13∨q=14∨q=15 by omega) with rfl | rfl | rfl | rfl | rfl | rfl | rfl | rfl | rfl | rfl | rfl | rfl | rfl | rfl | rfl
 ·have qR:k+1≤len:=by(have:wd 1=1:=by decide);omega
  exact XT b off len cap k v0 k1 x1 w (by omega) hl hm hb h0 g0 hq hc
 ·have qR:k+1≤len:=by(have:wd 2=1:=by decide);omega
  exact XU b off len cap k v0 k1 x1 w (by omega) hl hm hb h0 g0 hq hc
 ·have qR:k+1≤len:=by(have:wd 3=1:=by decide);omega
  exact XV b off len cap k v0 k1 x1 w (by omega) hl hm hb h0 g0 hq hc
 ·have qR:k+2≤len:=by(have:wd 4=2:=by decide);omega
  exact XW b off len cap k v0 k1 x1 w (by omega) hl hm hb h0 g0 hq hc (by omega) (dZ (by decide))
 ·have qR:k+1≤len:=by(have:wd 5=1:=by decide);omega
  exact XY b off len cap k v0 k1 x1 w (by omega) hl hm hb h0 g0 hq hc
 ·have qR:k+2≤len:=by(have:wd 6=2:=by decide);omega
  exact XZ b off len cap k v0 k1 x1 w (by omega) hl hm hb h0 g0 hq hc (by omega) (dZ (by decide))
 ·have qR:k+2≤len:=by(have:wd 7=2:=by decide);omega
  exact X0 b off len cap k v0 k1 x1 w (by omega) hl hm hb h0 g0 hq hc (by omega) (dZ (by decide))
 ·have qR:k+2≤len:=by(have:wd 8=2:=by decide);omega
  exact X4 b off len cap k v0 k1 x1 w (by omega) hl hm hb h0 g0 hq hc (by omega) (dZ (by decide))
 ·have qR:k+1≤len:=by(have:wd 9=1:=by decide);omega
  exact X5 b off len cap k v0 k1 x1 w (by omega) hl hm hb h0 g0 hq hc
 ·have qR:k+1≤len:=by(have:wd 10=1:=by decide);omega
  exact Ru b off len cap k v0 k1 x1 w (by omega) hl hm hb h0 g0 hq hc
 ·have qR:k+1≤len:=by(have:wd 11=1:=by decide);omega
  exact Rw b off len cap k v0 k1 x1 w (by omega) hl hm hb h0 g0 hq hc
 ·have qR:k+1≤len:=by(have:wd 12=1:=by decide);omega
  exact Rx b off len cap k v0 k1 x1 w (by omega) hl hm hb h0 g0 hq hc
 ·have qR:k+1≤len:=by(have:wd 13=1:=by decide);omega
  exact Ry b off len cap k v0 k1 x1 w (by omega) hl hm hb h0 g0 hq hc
 ·have qR:k+3≤len:=by(have:wd 14=3:=by decide);omega
  exact Rz b off len cap k v0 k1 x1 w (by omega) hl hm hb h0 g0 hq hc (by omega) (dZ (by decide)) (by omega) (wR (by decide))
 ·have qR:k+2≤len:=by(have:wd 15=2:=by decide);omega
  exact RF b off len cap k v0 k1 x1 w (by omega) hl hm hb h0 g0 hq hc (by omega) (dZ (by decide))
theorem qU (o:Int):aF o≤15:=by
 have hs:FI o≤15:=by
  by_cases a0:o=0
  ·subst a0;decide
  by_cases a1:o=1
  ·subst a1;decide
  by_cases a2:o=2
  ·subst a2;decide
  by_cases a4:o=4
  ·subst a4;decide
  by_cases a6:o=6
  ·subst a6;decide
  by_cases a7:o=7
  ·subst a7;decide
  by_cases a8:o=8
  ·subst a8;decide
  by_cases a9:o=9
  ·subst a9;decide
  by_cases tZ:o=10
  ·subst tZ;decide
  by_cases uf:o=11
  ·subst uf;decide
  by_cases VO:o=12
  ·subst VO;decide
  by_cases VP:o=13
  ·subst VP;decide
  by_cases VQ:o=14
  ·subst VQ;decide
  by_cases VR:o=15
  ·subst VR;decide
  unfold FI
  rw [if_neg a0,if_neg a1,if_neg a2,if_neg a4,if_neg a6,if_neg a7,if_neg a8,if_neg a9,if_neg tZ,if_neg uf,if_neg VO,if_neg VP,if_neg VQ,if_neg VR]
  decide
 unfold aF
 repeat' split
 all_goals omega
def kC (z:Int):Value:= .tuple #[.agg #[.int .i64 0, .int .i64 0, .int .i64 0, .int .i64 0, .int .i64 0, .int .i64 0, .int .u32 0, .int .u32 0], .int .i64 0, .int .i64 z]
theorem ug (q:Nat) (h2:q≤15):∃ (s:ByteArray) (m:Int),bW q= .tuple #[.string s, .int .i64 m, .int .i64 (wd q)]:=by
 rcases(show q=0∨q=1∨q=2∨q=3∨q=4∨q=5∨q=6∨q=7∨q=8∨q=9∨q=10∨q=11∨q=12∨q=13∨q=14∨q=15 by omega) with rfl | rfl | rfl | rfl | rfl | rfl | rfl | rfl | rfl | rfl | rfl | rfl | rfl | rfl | rfl | rfl
 all_goals exact⟨_,_,rfl⟩
theorem MW (q:Nat) (h1:1≤q) (h2:q≤15):1≤wd q∧wd q≤3:=by
 rcases(show q=1∨q=2∨q=3∨q=4∨q=5∨q=6∨q=7∨q=8∨q=9∨q=10∨q=11∨q=12∨q=13∨q=14∨q=15 by omega) with rfl | rfl | rfl | rfl | rfl | rfl | rfl | rfl | rfl | rfl | rfl | rfl | rfl | rfl | rfl<;>decide
theorem ad1:wd 0=0:=by decide
theorem MX (ao:Option Addr) (len cap:Nat) (k:Int) (h:k<0) (w:World):Calls Try.prog 53 #[.slice ao len cap, .int .i64 k] w fun e w'=>e= .returned (kC 4)∧Below w.heap.size w w':=by
 go_enter Try.func53,Try.ntmps53
 go_wp2
 all_goals refine bodyPost_ret (v:=kC 4) (by simp [results,Try.results53,go_sem,kC]) rfl ⟨rfl, ?_⟩
 all_goals exact(Below.refl _ _).alloc (Nat.le_refl _) _
theorem Io (ao:Option Addr) (len cap:Nat) (k:Int) (h0:¬k<0) (h:(len:Int) <k) (w:World):Calls Try.prog 53 #[.slice ao len cap, .int .i64 k] w fun e w'=>e= .returned (kC 4)∧Below w.heap.size w w':=by
 go_enter Try.func53,Try.ntmps53
 go_wp2
 all_goals refine bodyPost_ret (v:=kC 4) (by simp [results,Try.results53,go_sem,kC]) rfl ⟨rfl, ?_⟩
 all_goals exact(Below.refl _ _).alloc (Nat.le_refl _) _
theorem Ip (ao:Option Addr) (cap:Nat) (w:World):Calls Try.prog 53 #[.slice ao 0 cap, .int .i64 ((0:Nat):Int)] w fun e w'=>e= .returned (kC 1)∧Below w.heap.size w w':=by
 go_enter Try.func53,Try.ntmps53
 go_wp2
 all_goals refine bodyPost_ret (v:=kC 1) (by simp [results,Try.results53,go_sem,kC]) rfl ⟨rfl, ?_⟩
 all_goals exact(Below.refl _ _).alloc (Nat.le_refl _) _
theorem MZ (b off len cap:Nat) (hl:len≤cap) (w:World):Calls Try.prog 53 #[.slice (some ⟨b,off,none⟩) len cap, .int .i64 (len:Int)] w fun e w'=>e= .returned (kC 1)∧Below w.heap.size w w':=by
 have c0:(0:Int)≤(len:Int):=by omega
 go_enter Try.func53,Try.ntmps53
 go_wp2
 all_goals refine bodyPost_ret (v:=kC 1) (by simp [results,Try.results53,go_sem,kC]) rfl ⟨rfl, ?_⟩
 all_goals exact(Below.refl _ _).alloc (Nat.le_refl _) _
theorem RI (b off len cap k:Nat) (v0:Int) (w:World) (hk:k<len) (hl:len≤cap) (hm:len≤9223372036854775807) (hb:b<w.heap.size) (h0:0≤v0) (g0:v0<4294967296) (hq:aF (v0%256)=0)
  (hc:w.cell? ⟨b,off+k,none⟩=some (.int .u32 v0)):Calls Try.prog 53 #[.slice (some ⟨b,off,none⟩) len cap, .int .i64 k] w fun e w'=>e= .returned (kC 2)∧Below w.heap.size w w':=by
 have c0:(0:Int)≤(k:Int):=by omega
 have c1:(k:Int)≤(len:Int):=by omega
 have c2:¬ ((len:Int) <(k:Int)):=by omega
 have c4:((k:Int)==(len:Int))=false:=by simp;omega
 have c6:(k:Int) <(len:Int):=by omega
 have c7:wrap64 ((len:Int)-k)=(len:Int)-k:=IntWalk.wrap64_in _ (by omega)
 obtain⟨fs,fm,hf⟩:=ug 0 (by omega)
 rw [ad1] at hf
 clear hm
 go_enter Try.func53,Try.ntmps53
 go_wp2_with (first
  | (go_at_call 97;refine(bC (v0%256) _).mono ?_;rintro e w1 ⟨rfl,rfl⟩;rw [hq,hf])
  | (go_at_call 98;fail))
 refine bodyPost_ret (v:=kC 2) (by simp [results,Try.results53,go_sem,kC]) rfl ⟨rfl, ?_⟩
 exact((Below.refl _ _).alloc (Nat.le_refl _) _).alloc (by simp) _
theorem D9 (b off len cap k:Nat) (v0:Int) (w:World) (hk:k<len) (hl:len≤cap) (hm:len≤9223372036854775807) (hb:b<w.heap.size) (h0:0≤v0) (g0:v0<4294967296) (q:Nat) (h1:1≤q) (h2:q≤15) (hq:aF (v0%256)=q) (hw:(len:Int)-k<wd q)
  (hc:w.cell? ⟨b,off+k,none⟩=some (.int .u32 v0)):Calls Try.prog 53 #[.slice (some ⟨b,off,none⟩) len cap, .int .i64 k] w fun e w'=>e= .returned (kC 1)∧Below w.heap.size w w':=by
 have c0:(0:Int)≤(k:Int):=by omega
 have c1:(k:Int)≤(len:Int):=by omega
 have c2:¬ ((len:Int) <(k:Int)):=by omega
 have c4:((k:Int)==(len:Int))=false:=by simp;omega
 have c6:(k:Int) <(len:Int):=by omega
 have c7:wrap64 ((len:Int)-k)=(len:Int)-k:=IntWalk.wrap64_in _ (by omega)
 obtain⟨fs,fm,hf⟩:=ug q (by omega)
 have hr:=MW q h1 h2
 have c8:(wd q==0)=false:=by simp;omega
 clear hm
 go_enter Try.func53,Try.ntmps53
 go_wp2_with (first
  | (go_at_call 97;refine(bC (v0%256) _).mono ?_;rintro e w1 ⟨rfl,rfl⟩;rw [hq,hf])
  | (go_at_call 98;fail))
 refine bodyPost_ret (v:=kC 1) (by simp [results,Try.results53,go_sem,kC]) rfl ⟨rfl, ?_⟩
 exact((Below.refl _ _).alloc (Nat.le_refl _) _).alloc (by simp) _
def RJ (us:List Int) (k:Int):Value:=
 if k<0 then kC 4 else if(us.length:Int) <k then kC 4 else if k=us.length then kC 1 else
  if aF (us.getD k.toNat 0%256)=0 then kC 2 else if(us.length:Int)-k<wd (aF (us.getD k.toNat 0%256)) then kC 1
  else dJ (aF (us.getD k.toNat 0%256)) (us.getD k.toNat 0) (us.getD (k.toNat+1) 0) (us.getD (k.toNat+2) 0)
def Sl (us:List Int) (ao:Option Addr) (cap:Nat) (w:World):Prop:=
 us.length≤cap∧cap≤maxLen∧(0<us.length→∃b off,ao=some ⟨b,off,none⟩∧b<w.heap.size∧∀j,j<us.length→w.cell? ⟨b,off+j,none⟩=some (.int .u32 (us.getD j 0)))
theorem Sl.keep {us:List Int} {ao:Option Addr} {cap:Nat} {w w':World} (h:Sl us ao cap w) (hb:Below w.heap.size w w'):Sl us ao cap w':=by
 obtain⟨h1,h2,h3⟩:=h
 refine⟨h1,h2,fun h=> ?_⟩
 obtain⟨b,off,e,bV,hc⟩:=h3 h
 have:=hb.size
 exact⟨b,off,e,by omega,fun j hj=>(hb.cell (p:=⟨b,off+j,none⟩) bV).trans (hc j hj)⟩
theorem Au (us:List Int) (ao:Option Addr) (cap:Nat) (k:Int) (w:World) (hs:Sl us ao cap w) (hw:∀j,0≤us.getD j 0∧us.getD j 0<4294967296):
  Calls Try.prog 53 #[.slice ao us.length cap, .int .i64 k] w fun e w'=>e= .returned (RJ us k)∧Below w.heap.size w w':=by
 have mX:(maxLen:Nat)=9223372036854775807:=rfl
 unfold RJ
 by_cases c1:k<0
 ·rw [if_pos c1];exact MX ao us.length cap k c1 w
 rw [if_neg c1]
 by_cases c2:(us.length:Int) <k
 ·rw [if_pos c2];exact Io ao us.length cap k c1 c2 w
 rw [if_neg c2]
 obtain⟨h1,h2,h3⟩:=hs
 by_cases c3:k=us.length
 ·rw [if_pos c3]
  by_cases c4:us.length=0
  ·rw [c4,c3,c4];exact Ip ao cap w
  ·obtain⟨b,off,rfl,_,_⟩:=h3 (by omega)
   rw [c3];exact MZ b off us.length cap h1 w
 rw [if_neg c3]
 obtain⟨j,rfl⟩:=Int.eq_ofNat_of_zero_le (show 0≤k by omega)
 obtain⟨b,off,rfl,hb,hc⟩:=h3 (by omega)
 have hj:j<us.length:=by omega
 simp only [Int.toNat_natCast]
 by_cases c5:aF (us.getD j 0%256)=0
 ·rw [if_pos c5];exact RI b off us.length cap j _ w hj h1 (by omega) hb (hw j).1 (hw j).2 c5 (hc j hj)
 rw [if_neg c5]
 have h15:=qU (us.getD j 0%256)
 by_cases c6:(us.length:Int)-(j:Int) <wd (aF (us.getD j 0%256))
 ·rw [if_pos c6];exact D9 b off us.length cap j _ w hj h1 (by omega) hb (hw j).1 (hw j).2 _ (by omega) h15 rfl c6 (hc j hj)
 rw [if_neg c6]
 have hr:=MW _ (show 1≤aF (us.getD j 0%256) by omega) h15
 exact MV _ b off us.length cap j _ _ _ w (by omega) h15 (by omega) h1 h2 hb (hw j).1 (hw j).2 rfl (hc j hj) (fun h=>by rw [Nat.add_assoc];exact hc (j+1) (by omega)) (fun h=>by rw [Nat.add_assoc];exact hc (j+2) (by omega))
end Go.Proofs.Ytcjcmnnhmajocab.Ho
namespace Go.Proofs.Ytcjcmnnhmajocab.Hr
open Go.RowKit Kt Ho
structure Cd where
 op:Int
 d:Int
 a:Int
 b:Int
 c:Int
 n:Int
 k:Int
 x:Int
def ZC:Cd:=⟨0,0,0,0,0,0,0,0⟩
def Cd.L (x:Cd):Array Value:= #[.int .i64 x.op, .int .i64 x.d, .int .i64 x.a, .int .i64 x.b, .int .i64 x.c, .int .i64 x.n, .int .u32 x.k, .int .u32 x.x]
def Cd.of (q:Nat) (v k x:Int):Cd:=⟨v%256,pick (hD q) (v/256%16),pick (hA q) (v/256/16%16),pick (hB q) (v/256/16/16%16),pick (hC q) (v/256/16/16/16%16),pick (decide (nb q≠0)) (v/256/16/16%65536),pick (decide (1<wd q)) k,pick (decide (2<wd q)) x⟩
def jE (us:List Int) (k:Int):Cd×Int×Int:=
 if k<0 then(ZC,0,4) else if(us.length:Int) <k then(ZC,0,4) else if k=us.length then(ZC,0,1) else
  if aF (us.getD k.toNat 0%256)=0 then(ZC,0,2) else if(us.length:Int)-k<wd (aF (us.getD k.toNat 0%256)) then(ZC,0,1)
  else if aV (aF (us.getD k.toNat 0%256)) (us.getD k.toNat 0) then(Cd.of (aF (us.getD k.toNat 0%256)) (us.getD k.toNat 0) (us.getD (k.toNat+1) 0) (us.getD (k.toNat+2) 0),wd (aF (us.getD k.toNat 0%256)),0)
  else(ZC,0,3)
def X6 (r:Cd×Int×Int):Value:= .tuple #[.agg r.1.L, .int .i64 r.2.1, .int .i64 r.2.2]
theorem FM (us:List Int) (k:Int):RJ us k=X6 (jE us k):=by
 unfold RJ jE
 split
 ·rfl
 split
 ·rfl
 split
 ·rfl
 split
 ·rfl
 split
 ·rfl
 unfold dJ
 split<;>rfl
structure X7 (x:Cd):Prop where
 op:0≤x.op∧x.op<256
 q:aF x.op≠0
 d:0≤x.d∧x.d<16
 a:0≤x.a∧x.a<16
 b:0≤x.b∧x.b<16
 c:0≤x.c∧x.c<16
 n:0≤x.n∧x.n<2048
 n12:x.op=6∨x.op=7→x.n<12
 k:0≤x.k∧x.k<4294967296
 x:0≤x.x∧x.x<4294967296
theorem oI (b:Bool) (v m:Int) (h:0≤v∧v<m) (hm:0<m):0≤pick b v∧pick b v<m:=by
 unfold pick;cases b
 ·exact⟨Int.le_refl _,hm⟩
 ·exact h
theorem abd (q:Nat):0≤nb q∧nb q≤2048:=by
 unfold nb;split
 ·omega
 split
 ·omega
 split<;>omega
theorem RQ (us:List Int) (hw:∀j,0≤us.getD j 0∧us.getD j 0<4294967296) (k:Int) (h:(jE us k).2.2=0):X7 (jE us k).1∧0≤k∧1≤(jE us k).2.1∧(jE us k).2.1≤3∧k+(jE us k).2.1≤us.length:=by
 unfold jE at h⊢
 by_cases c1:k<0
 ·rw [if_pos c1] at h;exact absurd h (by decide)
 rw [if_neg c1] at h⊢
 by_cases c2:(us.length:Int) <k
 ·rw [if_pos c2] at h;exact absurd h (by decide)
 rw [if_neg c2] at h⊢
 by_cases c3:k=us.length
 ·rw [if_pos c3] at h;exact absurd h (by decide)
 rw [if_neg c3] at h⊢
 by_cases c4:aF (us.getD k.toNat 0%256)=0
 ·rw [if_pos c4] at h;exact absurd h (by decide)
 rw [if_neg c4] at h⊢
 by_cases c5:(us.length:Int)-k<wd (aF (us.getD k.toNat 0%256))
 ·rw [if_pos c5] at h;exact absurd h (by decide)
 rw [if_neg c5] at h⊢
 by_cases c6:aV (aF (us.getD k.toNat 0%256)) (us.getD k.toNat 0)
 ·rw [if_pos c6]
  have hv:=hw k.toNat
  have hk:=hw (k.toNat+1)
  have hx:=hw (k.toNat+2)
  generalize us.getD k.toNat 0=v at*
  generalize us.getD (k.toNat+1) 0=k1 at*
  generalize us.getD (k.toNat+2) 0=x1 at*
  have hr:=MW (aF (v%256)) (by omega) (qU _)
  have hn:0≤pick (decide (nb (aF (v%256))≠0)) (v/256/16/16%65536)∧(pick (decide (nb (aF (v%256))≠0)) (v/256/16/16%65536) <nb (aF (v%256))∨pick (decide (nb (aF (v%256))≠0)) (v/256/16/16%65536)=0):=by
   by_cases e:nb (aF (v%256))=0
   ·rw [show decide (nb (aF (v%256))≠0)=false from by simp [e]]
    exact⟨Int.le_refl _, .inr rfl⟩
   ·rw [show decide (nb (aF (v%256))≠0)=true from by simp [e]]
    have:=c6.2.2.1 e
    exact⟨by show 0≤v/256/16/16%65536;omega, .inl this⟩
  have nl:=abd (aF (v%256))
  refine⟨⟨⟨by show 0≤v%256;omega,by show v%256<256;omega⟩,c4,oI _ _ 16 ⟨by omega,by omega⟩ (by omega),oI _ _ 16 ⟨by omega,by omega⟩ (by omega),oI _ _ 16 ⟨by omega,by omega⟩ (by omega),oI _ _ 16 ⟨by omega,by omega⟩ (by omega),⟨hn.1, ?_⟩, ?_,oI _ _ _ hk (by decide),oI _ _ _ hx (by decide)⟩,by omega,hr.1,hr.2,by show k+wd _≤_;omega⟩
  ·show pick (decide (nb (aF (v%256))≠0)) (v/256/16/16%65536) <2048
   omega
  ·intro ho
   show pick (decide (nb (aF (v%256))≠0)) (v/256/16/16%65536) <12
   have h6:nb (aF (v%256))=12:=by
    rcases ho with ho | ho
    ·have:v%256=6:=ho
     rw [this];decide
    ·have:v%256=7:=ho
     rw [this];decide
   omega
 ·rw [if_neg c6] at h;exact absurd h (by decide)
def zk (us:List Int) (k:Int):Bool:=decide ((jE us k).2.2=0)&&decide ((jE us k).1.op=1)
end Go.Proofs.Ytcjcmnnhmajocab.Hr
