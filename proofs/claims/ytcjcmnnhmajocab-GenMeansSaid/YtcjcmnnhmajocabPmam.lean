import Derived.Test.YtcjcmnnhmajocabPmaj
set_option linter.unusedVariables false
set_option linter.unusedSimpArgs false
set_option maxRecDepth 100000
set_option maxHeartbeats 16000000
namespace Go.Proofs.Ytcjcmnnhmajocab.Ho
open Go.RowKit Kt
theorem jP (v:Int):aV 11 v↔(v/256%16=0∧v/256/16/16%65536<12):=by simp [aV,hD,hA,hB,hC,hK,nb]
theorem DU (v k x:Int):pI 11 v k x=tY (v%256) (0) (v/256/16%16) (0) (0) (v/256/16/16%65536) 0 0:=by simp [pI,pick,hD,hA,hB,hC,hK,nb,wd]
theorem Xw (b off len cap k:Nat) (v0 k1 x1:Int) (w:World) (hk:k<len) (hl:len≤cap) (hm:cap≤maxLen) (hb:b<w.heap.size) (h0:0≤v0) (g0:v0<4294967296) (hq:aF (v0%256)=11)
  (hc:w.cell? ⟨b,off+k,none⟩=some (.int .u32 v0)):Calls Try.prog 89 #[.slice (some ⟨b,off,none⟩) len cap, .int .i64 k] w fun e w'=>e= .returned (dJ 11 v0 k1 x1)∧Below w.heap.size w w':=by
 have c0:(0:Int)≤(k:Int):=by omega
 have c1:(k:Int)≤(len:Int):=by omega
 have c2:¬ ((len:Int) <(k:Int)):=by omega
 have c3:((len-k:Nat):Int)=(len:Int)-k:=by omega
 have c4:((len:Int)-k==0)=false:=by simp;omega
 have c5:¬ ((len:Int)-k<1):=by omega
 have m:=fE v0 h0 g0
 go_enter Try.func89,Try.ntmps89
 go_wp2_with (first
  | (go_at_call 149;refine(aN (v0%256) _).mono ?_;rintro e w1 ⟨rfl,aQ⟩;rw [hq,show dO 11= #[.bool false, .bool true, .bool false, .bool false, .bool false, .int .i64 12, .int .i64 1] from rfl];have hS:=St.first (fs:= #[.bool false, .bool true, .bool false, .bool false, .bool false, .int .i64 12, .int .i64 1]) rfl h0 g0 aQ;obtain⟨kT,kX,zT,zX,s1,s2,hB⟩:=bP aQ;clear aQ;have s3:=Nat.lt_trans hb s1;have kc:=(hB.cell (p:=⟨b,off+k,none⟩) hb).trans hc)
  | (go_at_call 150;refine(hS.part false 1 (cs':= #[.int .i64 (v0%256), .int .i64 (0), .int .i64 (0), .int .i64 (0), .int .i64 (0), .int .i64 (0), .int .u32 0, .int .u32 0]) rfl rfl).mono ?_;rintro e w2 ⟨rfl,gK⟩;clear kT kX zT zX hB kc hS;obtain⟨kT,kX,kF,kR,zT,zX,hB⟩:=gK.facts;have kc:=(hB.cell (p:=⟨b,off+k,none⟩) hb).trans hc)
  | (go_at_call 150;refine(gK.part true 2 (cs':= #[.int .i64 (v0%256), .int .i64 (0), .int .i64 (v0/256/16%16), .int .i64 (0), .int .i64 (0), .int .i64 (0), .int .u32 0, .int .u32 0]) rfl rfl).mono ?_;rintro e w3 ⟨rfl,gQ⟩;clear kT kX zT zX hB kc kF kR gK;obtain⟨kT,kX,kF,kR,zT,zX,hB⟩:=gQ.facts;have kc:=(hB.cell (p:=⟨b,off+k,none⟩) hb).trans hc)
  | (go_at_call 150;refine(gQ.jH 5 (cs':= #[.int .i64 (v0%256), .int .i64 (0), .int .i64 (v0/256/16%16), .int .i64 (0), .int .i64 (0), .int .i64 (v0/256/16/16%65536), .int .u32 0, .int .u32 0]) rfl rfl).mono ?_;rintro e w6 ⟨rfl,kP⟩;clear kT kX zT zX hB kc kF kR gQ;obtain⟨kT,kX,kF,kR,zT,zX,hB⟩:=kP.facts;have kc:=(hB.cell (p:=⟨b,off+k,none⟩) hb).trans hc))
 all_goals first
  | exact aH gK.1 hB (ay (by rw [jP];omega)) rfl rfl rfl rfl
  | exact aH gQ.1 hB (ay (by rw [jP];omega)) rfl rfl rfl rfl
  | exact aH nH.1 hB (ay (by rw [jP];omega)) rfl rfl rfl rfl
  | exact aH kP.1 hB (ay (by rw [jP];omega)) rfl rfl rfl rfl
  | exact aH pK.1 hB (ay (by rw [jP];omega)) rfl rfl rfl rfl
  | (go_region;all_goals go_wp2;all_goals exact dV (kP.1) (hB) (by rw [aJ (by rw [jP];omega),DU];rfl) rfl rfl rfl rfl)
theorem jQ (v:Int):aV 12 v↔(v/256/16%16=0∧v/256/16/16%65536<2048):=by simp [aV,hD,hA,hB,hC,hK,nb]
theorem DV (v k x:Int):pI 12 v k x=tY (v%256) (v/256%16) (0) (0) (0) (v/256/16/16%65536) 0 0:=by simp [pI,pick,hD,hA,hB,hC,hK,nb,wd]
theorem Xx (b off len cap k:Nat) (v0 k1 x1:Int) (w:World) (hk:k<len) (hl:len≤cap) (hm:cap≤maxLen) (hb:b<w.heap.size) (h0:0≤v0) (g0:v0<4294967296) (hq:aF (v0%256)=12)
  (hc:w.cell? ⟨b,off+k,none⟩=some (.int .u32 v0)):Calls Try.prog 89 #[.slice (some ⟨b,off,none⟩) len cap, .int .i64 k] w fun e w'=>e= .returned (dJ 12 v0 k1 x1)∧Below w.heap.size w w':=by
 have c0:(0:Int)≤(k:Int):=by omega
 have c1:(k:Int)≤(len:Int):=by omega
 have c2:¬ ((len:Int) <(k:Int)):=by omega
 have c3:((len-k:Nat):Int)=(len:Int)-k:=by omega
 have c4:((len:Int)-k==0)=false:=by simp;omega
 have c5:¬ ((len:Int)-k<1):=by omega
 have m:=fE v0 h0 g0
 go_enter Try.func89,Try.ntmps89
 go_wp2_with (first
  | (go_at_call 149;refine(aN (v0%256) _).mono ?_;rintro e w1 ⟨rfl,aQ⟩;rw [hq,show dO 12= #[.bool true, .bool false, .bool false, .bool false, .bool false, .int .i64 2048, .int .i64 1] from rfl];have hS:=St.first (fs:= #[.bool true, .bool false, .bool false, .bool false, .bool false, .int .i64 2048, .int .i64 1]) rfl h0 g0 aQ;obtain⟨kT,kX,zT,zX,s1,s2,hB⟩:=bP aQ;clear aQ;have s3:=Nat.lt_trans hb s1;have kc:=(hB.cell (p:=⟨b,off+k,none⟩) hb).trans hc)
  | (go_at_call 150;refine(hS.part true 1 (cs':= #[.int .i64 (v0%256), .int .i64 (v0/256%16), .int .i64 (0), .int .i64 (0), .int .i64 (0), .int .i64 (0), .int .u32 0, .int .u32 0]) rfl rfl).mono ?_;rintro e w2 ⟨rfl,gK⟩;clear kT kX zT zX hB kc hS;obtain⟨kT,kX,kF,kR,zT,zX,hB⟩:=gK.facts;have kc:=(hB.cell (p:=⟨b,off+k,none⟩) hb).trans hc)
  | (go_at_call 150;refine(gK.part false 2 (cs':= #[.int .i64 (v0%256), .int .i64 (v0/256%16), .int .i64 (0), .int .i64 (0), .int .i64 (0), .int .i64 (0), .int .u32 0, .int .u32 0]) rfl rfl).mono ?_;rintro e w3 ⟨rfl,gQ⟩;clear kT kX zT zX hB kc kF kR gK;obtain⟨kT,kX,kF,kR,zT,zX,hB⟩:=gQ.facts;have kc:=(hB.cell (p:=⟨b,off+k,none⟩) hb).trans hc)
  | (go_at_call 150;refine(gQ.jH 5 (cs':= #[.int .i64 (v0%256), .int .i64 (v0/256%16), .int .i64 (0), .int .i64 (0), .int .i64 (0), .int .i64 (v0/256/16/16%65536), .int .u32 0, .int .u32 0]) rfl rfl).mono ?_;rintro e w6 ⟨rfl,kP⟩;clear kT kX zT zX hB kc kF kR gQ;obtain⟨kT,kX,kF,kR,zT,zX,hB⟩:=kP.facts;have kc:=(hB.cell (p:=⟨b,off+k,none⟩) hb).trans hc))
 all_goals first
  | exact aH gK.1 hB (ay (by rw [jQ];omega)) rfl rfl rfl rfl
  | exact aH gQ.1 hB (ay (by rw [jQ];omega)) rfl rfl rfl rfl
  | exact aH nH.1 hB (ay (by rw [jQ];omega)) rfl rfl rfl rfl
  | exact aH kP.1 hB (ay (by rw [jQ];omega)) rfl rfl rfl rfl
  | exact aH pK.1 hB (ay (by rw [jQ];omega)) rfl rfl rfl rfl
  | (go_region;all_goals go_wp2;all_goals exact dV (kP.1) (hB) (by rw [aJ (by rw [jQ];omega),DV];rfl) rfl rfl rfl rfl)
theorem jR (v:Int):aV 13 v↔(v/256%16=0∧v/256/16/16%65536<2048):=by simp [aV,hD,hA,hB,hC,hK,nb]
theorem DW (v k x:Int):pI 13 v k x=tY (v%256) (0) (v/256/16%16) (0) (0) (v/256/16/16%65536) 0 0:=by simp [pI,pick,hD,hA,hB,hC,hK,nb,wd]
theorem Xy (b off len cap k:Nat) (v0 k1 x1:Int) (w:World) (hk:k<len) (hl:len≤cap) (hm:cap≤maxLen) (hb:b<w.heap.size) (h0:0≤v0) (g0:v0<4294967296) (hq:aF (v0%256)=13)
  (hc:w.cell? ⟨b,off+k,none⟩=some (.int .u32 v0)):Calls Try.prog 89 #[.slice (some ⟨b,off,none⟩) len cap, .int .i64 k] w fun e w'=>e= .returned (dJ 13 v0 k1 x1)∧Below w.heap.size w w':=by
 have c0:(0:Int)≤(k:Int):=by omega
 have c1:(k:Int)≤(len:Int):=by omega
 have c2:¬ ((len:Int) <(k:Int)):=by omega
 have c3:((len-k:Nat):Int)=(len:Int)-k:=by omega
 have c4:((len:Int)-k==0)=false:=by simp;omega
 have c5:¬ ((len:Int)-k<1):=by omega
 have m:=fE v0 h0 g0
 go_enter Try.func89,Try.ntmps89
 go_wp2_with (first
  | (go_at_call 149;refine(aN (v0%256) _).mono ?_;rintro e w1 ⟨rfl,aQ⟩;rw [hq,show dO 13= #[.bool false, .bool true, .bool false, .bool false, .bool false, .int .i64 2048, .int .i64 1] from rfl];have hS:=St.first (fs:= #[.bool false, .bool true, .bool false, .bool false, .bool false, .int .i64 2048, .int .i64 1]) rfl h0 g0 aQ;obtain⟨kT,kX,zT,zX,s1,s2,hB⟩:=bP aQ;clear aQ;have s3:=Nat.lt_trans hb s1;have kc:=(hB.cell (p:=⟨b,off+k,none⟩) hb).trans hc)
  | (go_at_call 150;refine(hS.part false 1 (cs':= #[.int .i64 (v0%256), .int .i64 (0), .int .i64 (0), .int .i64 (0), .int .i64 (0), .int .i64 (0), .int .u32 0, .int .u32 0]) rfl rfl).mono ?_;rintro e w2 ⟨rfl,gK⟩;clear kT kX zT zX hB kc hS;obtain⟨kT,kX,kF,kR,zT,zX,hB⟩:=gK.facts;have kc:=(hB.cell (p:=⟨b,off+k,none⟩) hb).trans hc)
  | (go_at_call 150;refine(gK.part true 2 (cs':= #[.int .i64 (v0%256), .int .i64 (0), .int .i64 (v0/256/16%16), .int .i64 (0), .int .i64 (0), .int .i64 (0), .int .u32 0, .int .u32 0]) rfl rfl).mono ?_;rintro e w3 ⟨rfl,gQ⟩;clear kT kX zT zX hB kc kF kR gK;obtain⟨kT,kX,kF,kR,zT,zX,hB⟩:=gQ.facts;have kc:=(hB.cell (p:=⟨b,off+k,none⟩) hb).trans hc)
  | (go_at_call 150;refine(gQ.jH 5 (cs':= #[.int .i64 (v0%256), .int .i64 (0), .int .i64 (v0/256/16%16), .int .i64 (0), .int .i64 (0), .int .i64 (v0/256/16/16%65536), .int .u32 0, .int .u32 0]) rfl rfl).mono ?_;rintro e w6 ⟨rfl,kP⟩;clear kT kX zT zX hB kc kF kR gQ;obtain⟨kT,kX,kF,kR,zT,zX,hB⟩:=kP.facts;have kc:=(hB.cell (p:=⟨b,off+k,none⟩) hb).trans hc))
 all_goals first
  | exact aH gK.1 hB (ay (by rw [jR];omega)) rfl rfl rfl rfl
  | exact aH gQ.1 hB (ay (by rw [jR];omega)) rfl rfl rfl rfl
  | exact aH nH.1 hB (ay (by rw [jR];omega)) rfl rfl rfl rfl
  | exact aH kP.1 hB (ay (by rw [jR];omega)) rfl rfl rfl rfl
  | exact aH pK.1 hB (ay (by rw [jR];omega)) rfl rfl rfl rfl
  | (go_region;all_goals go_wp2;all_goals exact dV (kP.1) (hB) (by rw [aJ (by rw [jR];omega),DW];rfl) rfl rfl rfl rfl)
theorem jB (v:Int):aV 14 v↔(v/256/16%16=0∧v/256/16/16%65536<65∧v/256%16≠0∧v/256%16≤7):=by simp [aV,hD,hA,hB,hC,hK,nb]
theorem DX (v k x:Int):pI 14 v k x=tY (v%256) (v/256%16) (0) (0) (0) (v/256/16/16%65536) k x:=by simp [pI,pick,hD,hA,hB,hC,hK,nb,wd]
theorem Xz (b off len cap k:Nat) (v0 k1 x1:Int) (w:World) (hk:k<len) (hl:len≤cap) (hm:cap≤maxLen) (hb:b<w.heap.size) (h0:0≤v0) (g0:v0<4294967296) (hq:aF (v0%256)=14)
  (hc:w.cell? ⟨b,off+k,none⟩=some (.int .u32 v0)) (xK:k+1<len) (dZ:w.cell? ⟨b,off+k+1,none⟩=some (.int .u32 k1)) (uD:k+2<len) (wR:w.cell? ⟨b,off+k+2,none⟩=some (.int .u32 x1)):Calls Try.prog 89 #[.slice (some ⟨b,off,none⟩) len cap, .int .i64 k] w fun e w'=>e= .returned (dJ 14 v0 k1 x1)∧Below w.heap.size w w':=by
 have c0:(0:Int)≤(k:Int):=by omega
 have c1:(k:Int)≤(len:Int):=by omega
 have c2:¬ ((len:Int) <(k:Int)):=by omega
 have c3:((len-k:Nat):Int)=(len:Int)-k:=by omega
 have c4:((len:Int)-k==0)=false:=by simp;omega
 have c5:¬ ((len:Int)-k<3):=by omega
 have m:=fE v0 h0 g0
 have d1:(1:Int) <(len:Int)-k:=by omega
 have d2:(2:Int) <(len:Int)-k:=by omega
 go_enter Try.func89,Try.ntmps89
 go_wp2_with (first
  | (go_at_call 149;refine(aN (v0%256) _).mono ?_;rintro e w1 ⟨rfl,aQ⟩;rw [hq,show dO 14= #[.bool true, .bool false, .bool false, .bool false, .bool true, .int .i64 65, .int .i64 3] from rfl];have hS:=St.first (fs:= #[.bool true, .bool false, .bool false, .bool false, .bool true, .int .i64 65, .int .i64 3]) rfl h0 g0 aQ;obtain⟨kT,kX,zT,zX,s1,s2,hB⟩:=bP aQ;clear aQ;have s3:=Nat.lt_trans hb s1;have kc:=(hB.cell (p:=⟨b,off+k,none⟩) hb).trans hc;have kZ:=(hB.cell (p:=⟨b,off+k+1,none⟩) hb).trans dZ;have ZB:=(hB.cell (p:=⟨b,off+k+2,none⟩) hb).trans wR)
  | (go_at_call 150;refine(hS.part true 1 (cs':= #[.int .i64 (v0%256), .int .i64 (v0/256%16), .int .i64 (0), .int .i64 (0), .int .i64 (0), .int .i64 (0), .int .u32 0, .int .u32 0]) rfl rfl).mono ?_;rintro e w2 ⟨rfl,gK⟩;clear kT kX zT zX hB kc kZ ZB hS;obtain⟨kT,kX,kF,kR,zT,zX,hB⟩:=gK.facts;have kc:=(hB.cell (p:=⟨b,off+k,none⟩) hb).trans hc;have kZ:=(hB.cell (p:=⟨b,off+k+1,none⟩) hb).trans dZ;have ZB:=(hB.cell (p:=⟨b,off+k+2,none⟩) hb).trans wR)
  | (go_at_call 150;refine(gK.part false 2 (cs':= #[.int .i64 (v0%256), .int .i64 (v0/256%16), .int .i64 (0), .int .i64 (0), .int .i64 (0), .int .i64 (0), .int .u32 0, .int .u32 0]) rfl rfl).mono ?_;rintro e w3 ⟨rfl,gQ⟩;clear kT kX zT zX hB kc kZ ZB kF kR gK;obtain⟨kT,kX,kF,kR,zT,zX,hB⟩:=gQ.facts;have kc:=(hB.cell (p:=⟨b,off+k,none⟩) hb).trans hc;have kZ:=(hB.cell (p:=⟨b,off+k+1,none⟩) hb).trans dZ;have ZB:=(hB.cell (p:=⟨b,off+k+2,none⟩) hb).trans wR)
  | (go_at_call 150;refine(gQ.jH 5 (cs':= #[.int .i64 (v0%256), .int .i64 (v0/256%16), .int .i64 (0), .int .i64 (0), .int .i64 (0), .int .i64 (v0/256/16/16%65536), .int .u32 0, .int .u32 0]) rfl rfl).mono ?_;rintro e w6 ⟨rfl,kP⟩;clear kT kX zT zX hB kc kZ ZB kF kR gQ;obtain⟨kT,kX,kF,kR,zT,zX,hB⟩:=kP.facts;have kc:=(hB.cell (p:=⟨b,off+k,none⟩) hb).trans hc;have kZ:=(hB.cell (p:=⟨b,off+k+1,none⟩) hb).trans dZ;have ZB:=(hB.cell (p:=⟨b,off+k+2,none⟩) hb).trans wR))
 all_goals first
  | exact aH gK.1 hB (ay (by rw [jB];omega)) rfl rfl rfl rfl
  | exact aH gQ.1 hB (ay (by rw [jB];omega)) rfl rfl rfl rfl
  | exact aH nH.1 hB (ay (by rw [jB];omega)) rfl rfl rfl rfl
  | exact aH kP.1 hB (ay (by rw [jB];omega)) rfl rfl rfl rfl
  | exact aH pK.1 hB (ay (by rw [jB];omega)) rfl rfl rfl rfl
  | (have h':= ‹65≤v0/256/16/16%65536∨(v0/256%16==0)=true∨7<v0/256%16›;simp only [beq_iff_eq] at h';exact aH kP.1 hB (ay (by rw [jB];omega)) rfl rfl rfl rfl)
  | (have h':= ‹v0/256/16/16%65536<65∧(v0/256%16==0)=false∧v0/256%16≤7›;simp only [beq_eq_false_iff_ne,ne_eq] at h';go_region;all_goals go_wp2;all_goals exact dV ((heap_setCell_other _ _ _ _ (Nat.ne_of_lt (Nat.lt_succ_self _))).trans ((heap_setCell_other _ _ _ _ (Nat.ne_of_lt (Nat.lt_succ_self _))).trans (kP.1))) (((hB).setCell (Nat.le_succ _) _).setCell (Nat.le_succ _) _) (by rw [aJ (by rw [jB];omega),DX];rfl) rfl rfl rfl rfl)
theorem jC (v:Int):aV 15 v↔(v/256/16/16%65536<65∧v/256%16≠0∧v/256%16≤7):=by simp [aV,hD,hA,hB,hC,hK,nb]
theorem DY (v k x:Int):pI 15 v k x=tY (v%256) (v/256%16) (v/256/16%16) (0) (0) (v/256/16/16%65536) k 0:=by simp [pI,pick,hD,hA,hB,hC,hK,nb,wd]
theorem XC (b off len cap k:Nat) (v0 k1 x1:Int) (w:World) (hk:k<len) (hl:len≤cap) (hm:cap≤maxLen) (hb:b<w.heap.size) (h0:0≤v0) (g0:v0<4294967296) (hq:aF (v0%256)=15)
  (hc:w.cell? ⟨b,off+k,none⟩=some (.int .u32 v0)) (xK:k+1<len) (dZ:w.cell? ⟨b,off+k+1,none⟩=some (.int .u32 k1)):Calls Try.prog 89 #[.slice (some ⟨b,off,none⟩) len cap, .int .i64 k] w fun e w'=>e= .returned (dJ 15 v0 k1 x1)∧Below w.heap.size w w':=by
 have c0:(0:Int)≤(k:Int):=by omega
 have c1:(k:Int)≤(len:Int):=by omega
 have c2:¬ ((len:Int) <(k:Int)):=by omega
 have c3:((len-k:Nat):Int)=(len:Int)-k:=by omega
 have c4:((len:Int)-k==0)=false:=by simp;omega
 have c5:¬ ((len:Int)-k<2):=by omega
 have m:=fE v0 h0 g0
 have d1:(1:Int) <(len:Int)-k:=by omega
 go_enter Try.func89,Try.ntmps89
 go_wp2_with (first
  | (go_at_call 149;refine(aN (v0%256) _).mono ?_;rintro e w1 ⟨rfl,aQ⟩;rw [hq,show dO 15= #[.bool true, .bool true, .bool false, .bool false, .bool true, .int .i64 65, .int .i64 2] from rfl];have hS:=St.first (fs:= #[.bool true, .bool true, .bool false, .bool false, .bool true, .int .i64 65, .int .i64 2]) rfl h0 g0 aQ;obtain⟨kT,kX,zT,zX,s1,s2,hB⟩:=bP aQ;clear aQ;have s3:=Nat.lt_trans hb s1;have kc:=(hB.cell (p:=⟨b,off+k,none⟩) hb).trans hc;have kZ:=(hB.cell (p:=⟨b,off+k+1,none⟩) hb).trans dZ)
  | (go_at_call 150;refine(hS.part true 1 (cs':= #[.int .i64 (v0%256), .int .i64 (v0/256%16), .int .i64 (0), .int .i64 (0), .int .i64 (0), .int .i64 (0), .int .u32 0, .int .u32 0]) rfl rfl).mono ?_;rintro e w2 ⟨rfl,gK⟩;clear kT kX zT zX hB kc kZ hS;obtain⟨kT,kX,kF,kR,zT,zX,hB⟩:=gK.facts;have kc:=(hB.cell (p:=⟨b,off+k,none⟩) hb).trans hc;have kZ:=(hB.cell (p:=⟨b,off+k+1,none⟩) hb).trans dZ)
  | (go_at_call 150;refine(gK.part true 2 (cs':= #[.int .i64 (v0%256), .int .i64 (v0/256%16), .int .i64 (v0/256/16%16), .int .i64 (0), .int .i64 (0), .int .i64 (0), .int .u32 0, .int .u32 0]) rfl rfl).mono ?_;rintro e w3 ⟨rfl,gQ⟩;clear kT kX zT zX hB kc kZ kF kR gK;obtain⟨kT,kX,kF,kR,zT,zX,hB⟩:=gQ.facts;have kc:=(hB.cell (p:=⟨b,off+k,none⟩) hb).trans hc;have kZ:=(hB.cell (p:=⟨b,off+k+1,none⟩) hb).trans dZ)
  | (go_at_call 150;refine(gQ.jH 5 (cs':= #[.int .i64 (v0%256), .int .i64 (v0/256%16), .int .i64 (v0/256/16%16), .int .i64 (0), .int .i64 (0), .int .i64 (v0/256/16/16%65536), .int .u32 0, .int .u32 0]) rfl rfl).mono ?_;rintro e w6 ⟨rfl,kP⟩;clear kT kX zT zX hB kc kZ kF kR gQ;obtain⟨kT,kX,kF,kR,zT,zX,hB⟩:=kP.facts;have kc:=(hB.cell (p:=⟨b,off+k,none⟩) hb).trans hc;have kZ:=(hB.cell (p:=⟨b,off+k+1,none⟩) hb).trans dZ))
 all_goals first
  | exact aH gK.1 hB (ay (by rw [jC];omega)) rfl rfl rfl rfl
  | exact aH gQ.1 hB (ay (by rw [jC];omega)) rfl rfl rfl rfl
  | exact aH nH.1 hB (ay (by rw [jC];omega)) rfl rfl rfl rfl
  | exact aH kP.1 hB (ay (by rw [jC];omega)) rfl rfl rfl rfl
  | exact aH pK.1 hB (ay (by rw [jC];omega)) rfl rfl rfl rfl
  | (have h':= ‹65≤v0/256/16/16%65536∨(v0/256%16==0)=true∨7<v0/256%16›;simp only [beq_iff_eq] at h';exact aH kP.1 hB (ay (by rw [jC];omega)) rfl rfl rfl rfl)
  | (have h':= ‹v0/256/16/16%65536<65∧(v0/256%16==0)=false∧v0/256%16≤7›;simp only [beq_eq_false_iff_ne,ne_eq] at h';go_region;all_goals go_wp2;all_goals exact dV ((heap_setCell_other _ _ _ _ (Nat.ne_of_lt (Nat.lt_succ_self _))).trans (kP.1)) ((hB).setCell (Nat.le_succ _) _) (by rw [aJ (by rw [jC];omega),DY];rfl) rfl rfl rfl rfl)
end Go.Proofs.Ytcjcmnnhmajocab.Ho
