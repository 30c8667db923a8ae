import Derived.Test.YtcjcmnnhmajocabPmaj
set_option linter.unusedVariables false
set_option linter.unusedSimpArgs false
set_option maxRecDepth 100000
set_option maxHeartbeats 16000000
namespace Go.Proofs.Ytcjcmnnhmajocab.Ho
open Go.RowKit Kt
theorem mF (v:Int):aV 1 v↔(v/256/16/16/16%16=0∧v/256/16/16/16/16=0):=by simp [aV,hD,hA,hB,hC,hK,nb]
theorem LW (v k x:Int):pI 1 v k x=tY (v%256) (v/256%16) (v/256/16%16) (v/256/16/16%16) (0) (0) 0 0:=by simp [pI,pick,hD,hA,hB,hC,hK,nb,wd]
theorem aaL (b off len cap k:Nat) (v0 k1 x1:Int) (w:World) (hk:k<len) (hl:len≤cap) (hm:cap≤maxLen) (hb:b<w.heap.size) (h0:0≤v0) (g0:v0<4294967296) (hq:aF (v0%256)=1)
  (hc:w.cell? ⟨b,off+k,none⟩=some (.int .u32 v0)):Calls Try.prog 89 #[.slice (some ⟨b,off,none⟩) len cap, .int .i64 k] w fun e w'=>e= .returned (dJ 1 v0 k1 x1)∧Below w.heap.size w w':=by
 have c0:(0:Int)≤(k:Int):=by omega
 have c1:(k:Int)≤(len:Int):=by omega
 have c2:¬ ((len:Int) <(k:Int)):=by omega
 have c3:((len-k:Nat):Int)=(len:Int)-k:=by omega
 have c4:((len:Int)-k==0)=false:=by simp;omega
 have c5:¬ ((len:Int)-k<1):=by omega
 have m:=fE v0 h0 g0
 go_enter Try.func89,Try.ntmps89
 go_wp2_with (first
  | (go_at_call 149;refine(aN (v0%256) _).mono ?_;rintro e w1 ⟨rfl,aQ⟩;rw [hq,show dO 1= #[.bool true, .bool true, .bool true, .bool false, .bool false, .int .i64 0, .int .i64 1] from rfl];have hS:=St.first (fs:= #[.bool true, .bool true, .bool true, .bool false, .bool false, .int .i64 0, .int .i64 1]) rfl h0 g0 aQ;obtain⟨kT,kX,zT,zX,s1,s2,hB⟩:=bP aQ;clear aQ;have s3:=Nat.lt_trans hb s1;have kc:=(hB.cell (p:=⟨b,off+k,none⟩) hb).trans hc)
  | (go_at_call 150;refine(hS.part true 1 (cs':= #[.int .i64 (v0%256), .int .i64 (v0/256%16), .int .i64 (0), .int .i64 (0), .int .i64 (0), .int .i64 (0), .int .u32 0, .int .u32 0]) rfl rfl).mono ?_;rintro e w2 ⟨rfl,gK⟩;clear kT kX zT zX hB kc hS;obtain⟨kT,kX,kF,kR,zT,zX,hB⟩:=gK.facts;have kc:=(hB.cell (p:=⟨b,off+k,none⟩) hb).trans hc)
  | (go_at_call 150;refine(gK.part true 2 (cs':= #[.int .i64 (v0%256), .int .i64 (v0/256%16), .int .i64 (v0/256/16%16), .int .i64 (0), .int .i64 (0), .int .i64 (0), .int .u32 0, .int .u32 0]) rfl rfl).mono ?_;rintro e w3 ⟨rfl,gQ⟩;clear kT kX zT zX hB kc kF kR gK;obtain⟨kT,kX,kF,kR,zT,zX,hB⟩:=gQ.facts;have kc:=(hB.cell (p:=⟨b,off+k,none⟩) hb).trans hc)
  | (go_at_call 150;refine(gQ.part true 3 (cs':= #[.int .i64 (v0%256), .int .i64 (v0/256%16), .int .i64 (v0/256/16%16), .int .i64 (v0/256/16/16%16), .int .i64 (0), .int .i64 (0), .int .u32 0, .int .u32 0]) rfl rfl).mono ?_;rintro e w4 ⟨rfl,nH⟩;clear kT kX zT zX hB kc kF kR gQ;obtain⟨kT,kX,kF,kR,zT,zX,hB⟩:=nH.facts;have kc:=(hB.cell (p:=⟨b,off+k,none⟩) hb).trans hc)
  | (go_at_call 150;refine(nH.part false 4 (cs':= #[.int .i64 (v0%256), .int .i64 (v0/256%16), .int .i64 (v0/256/16%16), .int .i64 (v0/256/16/16%16), .int .i64 (0), .int .i64 (0), .int .u32 0, .int .u32 0]) rfl rfl).mono ?_;rintro e w5 ⟨rfl,pK⟩;clear kT kX zT zX hB kc kF kR nH;obtain⟨kT,kX,kF,kR,zT,zX,hB⟩:=pK.facts;have kc:=(hB.cell (p:=⟨b,off+k,none⟩) hb).trans hc))
 all_goals first
  | exact aH gK.1 hB (ay (by rw [mF];omega)) rfl rfl rfl rfl
  | exact aH gQ.1 hB (ay (by rw [mF];omega)) rfl rfl rfl rfl
  | exact aH nH.1 hB (ay (by rw [mF];omega)) rfl rfl rfl rfl
  | exact aH kP.1 hB (ay (by rw [mF];omega)) rfl rfl rfl rfl
  | exact aH pK.1 hB (ay (by rw [mF];omega)) rfl rfl rfl rfl
  | (go_region;all_goals go_wp2;all_goals exact dV (pK.1) (hB) (by rw [aJ (by rw [mF];omega),LW];rfl) rfl rfl rfl rfl)
theorem mG (v:Int):aV 2 v↔(v/256/16/16%16=0∧v/256/16/16/16%16=0∧v/256/16/16/16/16=0):=by simp [aV,hD,hA,hB,hC,hK,nb]
theorem LX (v k x:Int):pI 2 v k x=tY (v%256) (v/256%16) (v/256/16%16) (0) (0) (0) 0 0:=by simp [pI,pick,hD,hA,hB,hC,hK,nb,wd]
theorem aaM (b off len cap k:Nat) (v0 k1 x1:Int) (w:World) (hk:k<len) (hl:len≤cap) (hm:cap≤maxLen) (hb:b<w.heap.size) (h0:0≤v0) (g0:v0<4294967296) (hq:aF (v0%256)=2)
  (hc:w.cell? ⟨b,off+k,none⟩=some (.int .u32 v0)):Calls Try.prog 89 #[.slice (some ⟨b,off,none⟩) len cap, .int .i64 k] w fun e w'=>e= .returned (dJ 2 v0 k1 x1)∧Below w.heap.size w w':=by
 have c0:(0:Int)≤(k:Int):=by omega
 have c1:(k:Int)≤(len:Int):=by omega
 have c2:¬ ((len:Int) <(k:Int)):=by omega
 have c3:((len-k:Nat):Int)=(len:Int)-k:=by omega
 have c4:((len:Int)-k==0)=false:=by simp;omega
 have c5:¬ ((len:Int)-k<1):=by omega
 have m:=fE v0 h0 g0
 go_enter Try.func89,Try.ntmps89
 go_wp2_with (first
  | (go_at_call 149;refine(aN (v0%256) _).mono ?_;rintro e w1 ⟨rfl,aQ⟩;rw [hq,show dO 2= #[.bool true, .bool true, .bool false, .bool false, .bool false, .int .i64 0, .int .i64 1] from rfl];have hS:=St.first (fs:= #[.bool true, .bool true, .bool false, .bool false, .bool false, .int .i64 0, .int .i64 1]) rfl h0 g0 aQ;obtain⟨kT,kX,zT,zX,s1,s2,hB⟩:=bP aQ;clear aQ;have s3:=Nat.lt_trans hb s1;have kc:=(hB.cell (p:=⟨b,off+k,none⟩) hb).trans hc)
  | (go_at_call 150;refine(hS.part true 1 (cs':= #[.int .i64 (v0%256), .int .i64 (v0/256%16), .int .i64 (0), .int .i64 (0), .int .i64 (0), .int .i64 (0), .int .u32 0, .int .u32 0]) rfl rfl).mono ?_;rintro e w2 ⟨rfl,gK⟩;clear kT kX zT zX hB kc hS;obtain⟨kT,kX,kF,kR,zT,zX,hB⟩:=gK.facts;have kc:=(hB.cell (p:=⟨b,off+k,none⟩) hb).trans hc)
  | (go_at_call 150;refine(gK.part true 2 (cs':= #[.int .i64 (v0%256), .int .i64 (v0/256%16), .int .i64 (v0/256/16%16), .int .i64 (0), .int .i64 (0), .int .i64 (0), .int .u32 0, .int .u32 0]) rfl rfl).mono ?_;rintro e w3 ⟨rfl,gQ⟩;clear kT kX zT zX hB kc kF kR gK;obtain⟨kT,kX,kF,kR,zT,zX,hB⟩:=gQ.facts;have kc:=(hB.cell (p:=⟨b,off+k,none⟩) hb).trans hc)
  | (go_at_call 150;refine(gQ.part false 3 (cs':= #[.int .i64 (v0%256), .int .i64 (v0/256%16), .int .i64 (v0/256/16%16), .int .i64 (0), .int .i64 (0), .int .i64 (0), .int .u32 0, .int .u32 0]) rfl rfl).mono ?_;rintro e w4 ⟨rfl,nH⟩;clear kT kX zT zX hB kc kF kR gQ;obtain⟨kT,kX,kF,kR,zT,zX,hB⟩:=nH.facts;have kc:=(hB.cell (p:=⟨b,off+k,none⟩) hb).trans hc)
  | (go_at_call 150;refine(nH.part false 4 (cs':= #[.int .i64 (v0%256), .int .i64 (v0/256%16), .int .i64 (v0/256/16%16), .int .i64 (0), .int .i64 (0), .int .i64 (0), .int .u32 0, .int .u32 0]) rfl rfl).mono ?_;rintro e w5 ⟨rfl,pK⟩;clear kT kX zT zX hB kc kF kR nH;obtain⟨kT,kX,kF,kR,zT,zX,hB⟩:=pK.facts;have kc:=(hB.cell (p:=⟨b,off+k,none⟩) hb).trans hc))
 all_goals first
  | exact aH gK.1 hB (ay (by rw [mG];omega)) rfl rfl rfl rfl
  | exact aH gQ.1 hB (ay (by rw [mG];omega)) rfl rfl rfl rfl
  | exact aH nH.1 hB (ay (by rw [mG];omega)) rfl rfl rfl rfl
  | exact aH kP.1 hB (ay (by rw [mG];omega)) rfl rfl rfl rfl
  | exact aH pK.1 hB (ay (by rw [mG];omega)) rfl rfl rfl rfl
  | (go_region;all_goals go_wp2;all_goals exact dV (pK.1) (hB) (by rw [aJ (by rw [mG];omega),LX];rfl) rfl rfl rfl rfl)
theorem mJ (v:Int):aV 3 v↔(v/256/16/16/16/16=0):=by simp [aV,hD,hA,hB,hC,hK,nb]
theorem LY (v k x:Int):pI 3 v k x=tY (v%256) (v/256%16) (v/256/16%16) (v/256/16/16%16) (v/256/16/16/16%16) (0) 0 0:=by simp [pI,pick,hD,hA,hB,hC,hK,nb,wd]
theorem aaN (b off len cap k:Nat) (v0 k1 x1:Int) (w:World) (hk:k<len) (hl:len≤cap) (hm:cap≤maxLen) (hb:b<w.heap.size) (h0:0≤v0) (g0:v0<4294967296) (hq:aF (v0%256)=3)
  (hc:w.cell? ⟨b,off+k,none⟩=some (.int .u32 v0)):Calls Try.prog 89 #[.slice (some ⟨b,off,none⟩) len cap, .int .i64 k] w fun e w'=>e= .returned (dJ 3 v0 k1 x1)∧Below w.heap.size w w':=by
 have c0:(0:Int)≤(k:Int):=by omega
 have c1:(k:Int)≤(len:Int):=by omega
 have c2:¬ ((len:Int) <(k:Int)):=by omega
 have c3:((len-k:Nat):Int)=(len:Int)-k:=by omega
 have c4:((len:Int)-k==0)=false:=by simp;omega
 have c5:¬ ((len:Int)-k<1):=by omega
 have m:=fE v0 h0 g0
 go_enter Try.func89,Try.ntmps89
 go_wp2_with (first
  | (go_at_call 149;refine(aN (v0%256) _).mono ?_;rintro e w1 ⟨rfl,aQ⟩;rw [hq,show dO 3= #[.bool true, .bool true, .bool true, .bool true, .bool false, .int .i64 0, .int .i64 1] from rfl];have hS:=St.first (fs:= #[.bool true, .bool true, .bool true, .bool true, .bool false, .int .i64 0, .int .i64 1]) rfl h0 g0 aQ;obtain⟨kT,kX,zT,zX,s1,s2,hB⟩:=bP aQ;clear aQ;have s3:=Nat.lt_trans hb s1;have kc:=(hB.cell (p:=⟨b,off+k,none⟩) hb).trans hc)
  | (go_at_call 150;refine(hS.part true 1 (cs':= #[.int .i64 (v0%256), .int .i64 (v0/256%16), .int .i64 (0), .int .i64 (0), .int .i64 (0), .int .i64 (0), .int .u32 0, .int .u32 0]) rfl rfl).mono ?_;rintro e w2 ⟨rfl,gK⟩;clear kT kX zT zX hB kc hS;obtain⟨kT,kX,kF,kR,zT,zX,hB⟩:=gK.facts;have kc:=(hB.cell (p:=⟨b,off+k,none⟩) hb).trans hc)
  | (go_at_call 150;refine(gK.part true 2 (cs':= #[.int .i64 (v0%256), .int .i64 (v0/256%16), .int .i64 (v0/256/16%16), .int .i64 (0), .int .i64 (0), .int .i64 (0), .int .u32 0, .int .u32 0]) rfl rfl).mono ?_;rintro e w3 ⟨rfl,gQ⟩;clear kT kX zT zX hB kc kF kR gK;obtain⟨kT,kX,kF,kR,zT,zX,hB⟩:=gQ.facts;have kc:=(hB.cell (p:=⟨b,off+k,none⟩) hb).trans hc)
  | (go_at_call 150;refine(gQ.part true 3 (cs':= #[.int .i64 (v0%256), .int .i64 (v0/256%16), .int .i64 (v0/256/16%16), .int .i64 (v0/256/16/16%16), .int .i64 (0), .int .i64 (0), .int .u32 0, .int .u32 0]) rfl rfl).mono ?_;rintro e w4 ⟨rfl,nH⟩;clear kT kX zT zX hB kc kF kR gQ;obtain⟨kT,kX,kF,kR,zT,zX,hB⟩:=nH.facts;have kc:=(hB.cell (p:=⟨b,off+k,none⟩) hb).trans hc)
  | (go_at_call 150;refine(nH.part true 4 (cs':= #[.int .i64 (v0%256), .int .i64 (v0/256%16), .int .i64 (v0/256/16%16), .int .i64 (v0/256/16/16%16), .int .i64 (v0/256/16/16/16%16), .int .i64 (0), .int .u32 0, .int .u32 0]) rfl rfl).mono ?_;rintro e w5 ⟨rfl,pK⟩;clear kT kX zT zX hB kc kF kR nH;obtain⟨kT,kX,kF,kR,zT,zX,hB⟩:=pK.facts;have kc:=(hB.cell (p:=⟨b,off+k,none⟩) hb).trans hc))
 all_goals first
  | exact aH gK.1 hB (ay (by rw [mJ];omega)) rfl rfl rfl rfl
  | exact aH gQ.1 hB (ay (by rw [mJ];omega)) rfl rfl rfl rfl
  | exact aH nH.1 hB (ay (by rw [mJ];omega)) rfl rfl rfl rfl
  | exact aH kP.1 hB (ay (by rw [mJ];omega)) rfl rfl rfl rfl
  | exact aH pK.1 hB (ay (by rw [mJ];omega)) rfl rfl rfl rfl
  | (go_region;all_goals go_wp2;all_goals exact dV (pK.1) (hB) (by rw [aJ (by rw [mJ];omega),LY];rfl) rfl rfl rfl rfl)
theorem mM (v:Int):aV 4 v↔(v/256/16/16%65536<65):=by simp [aV,hD,hA,hB,hC,hK,nb]
theorem LZ (v k x:Int):pI 4 v k x=tY (v%256) (v/256%16) (v/256/16%16) (0) (0) (v/256/16/16%65536) k 0:=by simp [pI,pick,hD,hA,hB,hC,hK,nb,wd]
theorem aaO (b off len cap k:Nat) (v0 k1 x1:Int) (w:World) (hk:k<len) (hl:len≤cap) (hm:cap≤maxLen) (hb:b<w.heap.size) (h0:0≤v0) (g0:v0<4294967296) (hq:aF (v0%256)=4)
  (hc:w.cell? ⟨b,off+k,none⟩=some (.int .u32 v0)) (xK:k+1<len) (dZ:w.cell? ⟨b,off+k+1,none⟩=some (.int .u32 k1)):Calls Try.prog 89 #[.slice (some ⟨b,off,none⟩) len cap, .int .i64 k] w fun e w'=>e= .returned (dJ 4 v0 k1 x1)∧Below w.heap.size w w':=by
 have c0:(0:Int)≤(k:Int):=by omega
 have c1:(k:Int)≤(len:Int):=by omega
 have c2:¬ ((len:Int) <(k:Int)):=by omega
 have c3:((len-k:Nat):Int)=(len:Int)-k:=by omega
 have c4:((len:Int)-k==0)=false:=by simp;omega
 have c5:¬ ((len:Int)-k<2):=by omega
 have m:=fE v0 h0 g0
 have d1:(1:Int) <(len:Int)-k:=by omega
 go_enter Try.func89,Try.ntmps89
 go_wp2_with (first
  | (go_at_call 149;refine(aN (v0%256) _).mono ?_;rintro e w1 ⟨rfl,aQ⟩;rw [hq,show dO 4= #[.bool true, .bool true, .bool false, .bool false, .bool false, .int .i64 65, .int .i64 2] from rfl];have hS:=St.first (fs:= #[.bool true, .bool true, .bool false, .bool false, .bool false, .int .i64 65, .int .i64 2]) rfl h0 g0 aQ;obtain⟨kT,kX,zT,zX,s1,s2,hB⟩:=bP aQ;clear aQ;have s3:=Nat.lt_trans hb s1;have kc:=(hB.cell (p:=⟨b,off+k,none⟩) hb).trans hc;have kZ:=(hB.cell (p:=⟨b,off+k+1,none⟩) hb).trans dZ)
  | (go_at_call 150;refine(hS.part true 1 (cs':= #[.int .i64 (v0%256), .int .i64 (v0/256%16), .int .i64 (0), .int .i64 (0), .int .i64 (0), .int .i64 (0), .int .u32 0, .int .u32 0]) rfl rfl).mono ?_;rintro e w2 ⟨rfl,gK⟩;clear kT kX zT zX hB kc kZ hS;obtain⟨kT,kX,kF,kR,zT,zX,hB⟩:=gK.facts;have kc:=(hB.cell (p:=⟨b,off+k,none⟩) hb).trans hc;have kZ:=(hB.cell (p:=⟨b,off+k+1,none⟩) hb).trans dZ)
  | (go_at_call 150;refine(gK.part true 2 (cs':= #[.int .i64 (v0%256), .int .i64 (v0/256%16), .int .i64 (v0/256/16%16), .int .i64 (0), .int .i64 (0), .int .i64 (0), .int .u32 0, .int .u32 0]) rfl rfl).mono ?_;rintro e w3 ⟨rfl,gQ⟩;clear kT kX zT zX hB kc kZ kF kR gK;obtain⟨kT,kX,kF,kR,zT,zX,hB⟩:=gQ.facts;have kc:=(hB.cell (p:=⟨b,off+k,none⟩) hb).trans hc;have kZ:=(hB.cell (p:=⟨b,off+k+1,none⟩) hb).trans dZ)
  | (go_at_call 150;refine(gQ.jH 5 (cs':= #[.int .i64 (v0%256), .int .i64 (v0/256%16), .int .i64 (v0/256/16%16), .int .i64 (0), .int .i64 (0), .int .i64 (v0/256/16/16%65536), .int .u32 0, .int .u32 0]) rfl rfl).mono ?_;rintro e w6 ⟨rfl,kP⟩;clear kT kX zT zX hB kc kZ kF kR gQ;obtain⟨kT,kX,kF,kR,zT,zX,hB⟩:=kP.facts;have kc:=(hB.cell (p:=⟨b,off+k,none⟩) hb).trans hc;have kZ:=(hB.cell (p:=⟨b,off+k+1,none⟩) hb).trans dZ))
 all_goals first
  | exact aH gK.1 hB (ay (by rw [mM];omega)) rfl rfl rfl rfl
  | exact aH gQ.1 hB (ay (by rw [mM];omega)) rfl rfl rfl rfl
  | exact aH nH.1 hB (ay (by rw [mM];omega)) rfl rfl rfl rfl
  | exact aH kP.1 hB (ay (by rw [mM];omega)) rfl rfl rfl rfl
  | exact aH pK.1 hB (ay (by rw [mM];omega)) rfl rfl rfl rfl
  | (go_region;all_goals go_wp2;all_goals exact dV ((heap_setCell_other _ _ _ _ (Nat.ne_of_lt (Nat.lt_succ_self _))).trans (kP.1)) ((hB).setCell (Nat.le_succ _) _) (by rw [aJ (by rw [mM];omega),LZ];rfl) rfl rfl rfl rfl)
theorem mO (v:Int):aV 5 v↔(v/256/16%16=0∧v/256/16/16%16=0∧v/256/16/16/16%16=0∧v/256/16/16/16/16=0):=by simp [aV,hD,hA,hB,hC,hK,nb]
theorem L6 (v k x:Int):pI 5 v k x=tY (v%256) (v/256%16) (0) (0) (0) (0) 0 0:=by simp [pI,pick,hD,hA,hB,hC,hK,nb,wd]
theorem aaP (b off len cap k:Nat) (v0 k1 x1:Int) (w:World) (hk:k<len) (hl:len≤cap) (hm:cap≤maxLen) (hb:b<w.heap.size) (h0:0≤v0) (g0:v0<4294967296) (hq:aF (v0%256)=5)
  (hc:w.cell? ⟨b,off+k,none⟩=some (.int .u32 v0)):Calls Try.prog 89 #[.slice (some ⟨b,off,none⟩) len cap, .int .i64 k] w fun e w'=>e= .returned (dJ 5 v0 k1 x1)∧Below w.heap.size w w':=by
 have c0:(0:Int)≤(k:Int):=by omega
 have c1:(k:Int)≤(len:Int):=by omega
 have c2:¬ ((len:Int) <(k:Int)):=by omega
 have c3:((len-k:Nat):Int)=(len:Int)-k:=by omega
 have c4:((len:Int)-k==0)=false:=by simp;omega
 have c5:¬ ((len:Int)-k<1):=by omega
 have m:=fE v0 h0 g0
 go_enter Try.func89,Try.ntmps89
 go_wp2_with (first
  | (go_at_call 149;refine(aN (v0%256) _).mono ?_;rintro e w1 ⟨rfl,aQ⟩;rw [hq,show dO 5= #[.bool true, .bool false, .bool false, .bool false, .bool false, .int .i64 0, .int .i64 1] from rfl];have hS:=St.first (fs:= #[.bool true, .bool false, .bool false, .bool false, .bool false, .int .i64 0, .int .i64 1]) rfl h0 g0 aQ;obtain⟨kT,kX,zT,zX,s1,s2,hB⟩:=bP aQ;clear aQ;have s3:=Nat.lt_trans hb s1;have kc:=(hB.cell (p:=⟨b,off+k,none⟩) hb).trans hc)
  | (go_at_call 150;refine(hS.part true 1 (cs':= #[.int .i64 (v0%256), .int .i64 (v0/256%16), .int .i64 (0), .int .i64 (0), .int .i64 (0), .int .i64 (0), .int .u32 0, .int .u32 0]) rfl rfl).mono ?_;rintro e w2 ⟨rfl,gK⟩;clear kT kX zT zX hB kc hS;obtain⟨kT,kX,kF,kR,zT,zX,hB⟩:=gK.facts;have kc:=(hB.cell (p:=⟨b,off+k,none⟩) hb).trans hc)
  | (go_at_call 150;refine(gK.part false 2 (cs':= #[.int .i64 (v0%256), .int .i64 (v0/256%16), .int .i64 (0), .int .i64 (0), .int .i64 (0), .int .i64 (0), .int .u32 0, .int .u32 0]) rfl rfl).mono ?_;rintro e w3 ⟨rfl,gQ⟩;clear kT kX zT zX hB kc kF kR gK;obtain⟨kT,kX,kF,kR,zT,zX,hB⟩:=gQ.facts;have kc:=(hB.cell (p:=⟨b,off+k,none⟩) hb).trans hc)
  | (go_at_call 150;refine(gQ.part false 3 (cs':= #[.int .i64 (v0%256), .int .i64 (v0/256%16), .int .i64 (0), .int .i64 (0), .int .i64 (0), .int .i64 (0), .int .u32 0, .int .u32 0]) rfl rfl).mono ?_;rintro e w4 ⟨rfl,nH⟩;clear kT kX zT zX hB kc kF kR gQ;obtain⟨kT,kX,kF,kR,zT,zX,hB⟩:=nH.facts;have kc:=(hB.cell (p:=⟨b,off+k,none⟩) hb).trans hc)
  | (go_at_call 150;refine(nH.part false 4 (cs':= #[.int .i64 (v0%256), .int .i64 (v0/256%16), .int .i64 (0), .int .i64 (0), .int .i64 (0), .int .i64 (0), .int .u32 0, .int .u32 0]) rfl rfl).mono ?_;rintro e w5 ⟨rfl,pK⟩;clear kT kX zT zX hB kc kF kR nH;obtain⟨kT,kX,kF,kR,zT,zX,hB⟩:=pK.facts;have kc:=(hB.cell (p:=⟨b,off+k,none⟩) hb).trans hc))
 all_goals first
  | exact aH gK.1 hB (ay (by rw [mO];omega)) rfl rfl rfl rfl
  | exact aH gQ.1 hB (ay (by rw [mO];omega)) rfl rfl rfl rfl
  | exact aH nH.1 hB (ay (by rw [mO];omega)) rfl rfl rfl rfl
  | exact aH kP.1 hB (ay (by rw [mO];omega)) rfl rfl rfl rfl
  | exact aH pK.1 hB (ay (by rw [mO];omega)) rfl rfl rfl rfl
  | (go_region;all_goals go_wp2;all_goals exact dV (pK.1) (hB) (by rw [aJ (by rw [mO];omega),L6];rfl) rfl rfl rfl rfl)
end Go.Proofs.Ytcjcmnnhmajocab.Ho
