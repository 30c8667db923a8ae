import Derived.Deep.RegionLaw
import Derived.Test.YtcjcmnnhmajocabGreatPmah
set_option linter.unusedVariables false
set_option linter.unusedSimpArgs false
set_option maxRecDepth 100000
set_option maxHeartbeats 16000000
namespace Go.Proofs.YtcjcmnnhmajocabGreat.Me
open Go.RowKit Kt
theorem Kz {ops:Array Oper} {o:Oper} {a:Act} {w:World} {K:Act→World→Prop} {Q:Exit→Act→World→Prop} {E:Prop}
  (hg:o.guard=none) (x:Operand) (zQ:o.op=Op.call {callee:=Callee.builtin Builtin.append,args:= #[.const (.slice none 0 0),x],argTypes:= #[34,34]})
  (us:List Int) (b off n cap:Nat) (hx:a.eval x= .slice (some ⟨b,off,none⟩) n cap) (hn:us.length=n) (hc:∀j,j<us.length→w.cell? ⟨b,off+j,none⟩=some (.int .u8 (us.getD j 0))) (hb:us.length≤140737488355328)
  (hK:∀v' w',Own w.heap.size v' us w'→Below w.heap.size w w'→K (a.put o.dst v') w'):
  if Region.wanted o (yielded ops a.tmps)=true then Oper.wp Tryz.prog o a w K Q else E:=by
 have hw:Region.wanted o (yielded ops a.tmps)=true:=by simp [Region.wanted,hg]
 rw [if_pos hw]
 subst hn
 obtain⟨i,hi,hz,jS,Ko⟩:=Gu.og
 have Dt:(maxLen:Nat)=9223372036854775807:=rfl
 have e1:∀j u,(us.map (Value.int .u8))[j]?=some u→w.cell? ((⟨b,off,none⟩:Addr).add j)=some u:=by
  intro j u hj
  rw [List.getElem?_map] at hj
  obtain⟨z,hz,rfl⟩:=Option.map_eq_some_iff.1 hj
  have dh:=(List.getElem?_eq_some_iff.1 hz).1
  rw [Addr.add_lit,hc j dh,List.getD_eq_getElem?_getD,hz];rfl
 have e2:∀u∈us.map (Value.int .u8),u.oneCell'=true:=by
  intro u hu
  obtain⟨z,_,rfl⟩:=List.mem_map.1 hu
  rfl
 obtain⟨v',w',vP,r1,r2,_⟩:=run_append_own (P:=Tryz.prog) w w.heap.size 34 o.type 5 i (.int .u8 0) 1 1 Tryz.underlying34 hi hz jS Ko rfl Nat.one_pos (.slice none 0 0) 0 [] (World.ownsRow_nil w _ _ _) ⟨b,off,none⟩ us.length cap (us.map (Value.int .u8)) (by simp) e1 e2 (by omega) (by omega) (Nat.le_refl _)
 unfold Oper.wp
 have hs:a.eval (.const (.slice none 0 0))= .slice none 0 0:=rfl
 simp [execOp,zQ,resolve,invoke,builtin,hs,hx,vP,Result.andThen]
 exact hK v' w' (by unfold Own;simpa using r1) ((Below.refl _ _).grown r2 (Nat.le_refl _) (fun k hk=>by cases hk))
theorem GZ (q:Nat) (a n:Int) (w:World) (hn:n<0∨8<n):
  Calls Tryz.prog 87 #[.pointer (some ⟨q,0,none⟩), .int .u32 a, .int .i64 n] w fun e w'=>e= .returned (.tuple #[.slice none 0 0, .agg #[.int .i64 0, .int .u32 0]])∧Below w.heap.size w w':=by
 have b0:=Below.refl w.heap.size w
 rcases(show n<0∨(¬n<0∧8<n) by omega) with h | ⟨h,h1⟩
 all_goals clear hn
 all_goals go_enter Tryz.func87,Tryz.ntmps87
 all_goals go_wp2
 all_goals refine bodyPost_ret (v:= .tuple #[.slice none 0 0, .agg #[.int .i64 0, .int .u32 0]]) (by simp [results,Tryz.results87,go_sem]) rfl ⟨rfl, ?_⟩
 all_goals exact b0.alloc (Nat.le_refl _) _
theorem Dy (P:RP) (M:MM) (a n x:Int) (w:World) (h:RM P M w) (hM:bQ M) (a0:0≤a) (a1:a<4294967296) (n0:¬n<0) (n1:¬8<n) (hs:aQ M 4 a n.toNat=some x):
  Calls Tryz.prog 87 #[.pointer (some ⟨P.q,0,none⟩), .int .u32 a, .int .i64 n] w fun e w'=>e= .returned (.tuple #[.slice none 0 0, .agg #[.int .i64 4, .int .u32 x]])∧Below w.heap.size w w':=by
 have HB:=κ (fun w h=>rU P M a n 4 4 w h hM (.inr (.inr rfl)) a0 a1 (by omega))
 rw [hs] at HB
 simp only [stpV] at HB
 have HH:=κ (fun o=>h.upto ((ah.refl (fun _=>False) w).alloc o) (fun _ _=>id))
 clear h hM hs
 go_enter Tryz.func87,Tryz.ntmps87
 go_wp2_with (go_at_call 136;refine(HB.out _ (HH.out _)).mono ?_;rintro e w1 ⟨rfl,dH⟩;obtain⟨g0,g1,g2,g3,g4⟩:=Rs.gZ dH;have B1:=κ (cZ dH);clear dH)
 go_region
 go_wp2
 refine bodyPost_ret (v:= .tuple #[.slice none 0 0, .agg #[.int .i64 4, .int .u32 x]]) (by simp [results,Tryz.results87,go_sem,g0,g1,g4]) rfl ⟨rfl, ?_⟩
 exact(((B1.out.setCell (Nat.le_refl _) _).setCell (Nat.le_refl _) _).alloc (by simpa using B1.out.size) _).drew
theorem Ap (P:RP) (M:MM) (a:Int) (w:World) (h:RM P M w) (hM:bQ M) (a0:0≤a) (a1:a<4294967296):
  Calls Tryz.prog 87 #[.pointer (some ⟨P.q,0,none⟩), .int .u32 a, .int .i64 0] w fun e w'=>e= .returned (.tuple #[.slice none 0 0, .agg #[.int .i64 0, .int .u32 0]])∧Below w.heap.size w w':=by
 have HB:=κ (fun w h=>rU P M a 0 4 4 w h hM (.inr (.inr rfl)) a0 a1 (by omega))
 rw [show aQ M 4 a (0:Int).toNat=none from rfl] at HB
 simp only [stpV] at HB
 have HH:=κ (fun o=>h.upto ((ah.refl (fun _=>False) w).alloc o) (fun _ _=>id))
 clear h hM
 go_enter Tryz.func87,Tryz.ntmps87
 go_wp2_with (go_at_call 136;refine(HB.out _ (HH.out _)).mono ?_;rintro e w1 ⟨rfl,dH⟩;obtain⟨g0,g1,g2,g3,g4⟩:=Rs.gZ dH;have B1:=κ (cZ dH);clear dH)
 go_region
 go_wp2
 refine bodyPost_ret (v:= .tuple #[.slice none 0 0, .agg #[.int .i64 0, .int .u32 0]]) (by simp [results,Tryz.results87,go_sem,g0,g1,g4]) rfl ⟨rfl, ?_⟩
 exact(((B1.out.setCell (Nat.le_refl _) _).setCell (Nat.le_refl _) _).alloc (by simpa using B1.out.size) _).drew
theorem He (P:RP) (M:MM) (a n:Int) (w:World) (h:RM P M w) (hM:bQ M) (h0:0<n) (h8:n≤8) (a0:0≤a) (ha:a<4294967296) (hs:aQ M 4 a n.toNat=none):
  Calls Tryz.prog 87 #[.pointer (some ⟨P.q,0,none⟩), .int .u32 a, .int .i64 n] w fun e w'=>∃v,e= .returned (.tuple #[v, .agg #[.int .i64 0, .int .u32 0]])∧Own w.heap.size v (tZ M a.toNat n.toNat) w'∧Below w.heap.size w w':=by
 have HB:=κ (fun w h=>rU P M a n 4 4 w h hM (.inr (.inr rfl)) (by omega) (by omega) (by omega))
 rw [hs] at HB
 simp only [stpV] at HB
 have p0:=(iF (by omega) (by omega) hs 0 (by omega) (by omega)).2
 have p1:=(iF (by omega) (by omega) hs (n-1).toNat (by omega) (by omega)).2
 have k0:¬n<0:=by omega
 have k1:¬8<n:=by omega
 have k2:(n==0)=false:=by rw [beq_eq_false_iff_ne];omega
 have k3:a<65536:=by omega
 have k4:a+n≤65536:=by omega
 have k5:a≤a+n:=by omega
 have k6:0≤n:=by omega
 have HH:=κ (fun o=>h.upto ((ah.refl (fun _=>False) w).alloc o) (fun _ _=>id))
 have HP:=κ h
 have q0:=h.wY
 have lq:=h.lq
 have lb:=h.lb
 obtain⟨pq,pb,pr,pm,pt,cb,cr,cm,ct,hcb⟩:=P
 have k7:a+n≤(cb:Int):=by omega
 have HC:=κ (show∀j,j<(tZ M a.toNat n.toNat).length→w.cell? ⟨pb,a.toNat+j,none⟩=some (.int .u8 ((tZ M a.toNat n.toNat).getD j 0)) from fun j hj=>by
  rw [uO] at hj
  rw [Fh M a.toNat n.toNat j hj];exact h.hb _ (by omega))
 have HL:=κ (uO M a.toNat n.toNat)
 have HN:=κ (show n.toNat=(a+n).toNat-a.toNat by omega)
 simp only at q0 lq lb HB HH
 clear h hM hs p0 p1
 go_enter Tryz.func87,Tryz.ntmps87
 go_wp2_with (go_at_call 136;refine(HB.out _ (HH.out _)).mono ?_;rintro e w1 ⟨rfl,dH⟩;have Uo:=κ (Rs.gZ dH);obtain⟨g0,g1,g2,g3,g4⟩:=Uo.out;have B1:=κ (cZ dH);have q0':=(B1.out.cell (p:=⟨pq,0,none⟩) lq).trans q0;have lq':=Nat.lt_of_lt_of_le lq B1.out.size;have lb':=Nat.lt_of_lt_of_le lb B1.out.size;clear dH)
 have HLE:=κ (show(tZ M a.toNat n.toNat).length≤140737488355328 by rw [HL.out];omega)
 have ZM:=κ (show∀j,j<(tZ M a.toNat n.toNat).length→(w1.alloc (.cells #[.int .i64 0, .int .u32 0] 55)).drew.cell? ⟨pb,a.toNat+j,none⟩=some (.int .u8 ((tZ M a.toNat n.toNat).getD j 0)) from fun j hj=>
  (((B1.out.alloc B1.out.size _).drew).cell (p:=⟨pb,a.toNat+j,none⟩) lb).trans (HC.out j hj))
 have y1:¬cb=a.toNat:=by omega
 have y2:0≤a+n:=by omega
 have y3:max (a+n) 0=a+n:=by omega
 have y4:IntKind.i64.wrap a=a:=IntWalk.i64_in _ (by omega)
 have y5:IntKind.i64.wrap (a+n)=a+n:=IntWalk.i64_in _ (by omega)
 go_region_law (refine Kz rfl (.tmp 37) rfl (tZ M a.toNat n.toNat) pb a.toNat ((a+n).toNat-a.toNat) (cb-a.toNat) (by simp [Act.eval,Act.put]) (HL.out.trans HN.out) ZM.out HLE.out ?_;intro v w2 hv iE;have ZH:=κ ((Uo.out.upto ((ah.refl (fun _=>False) _).alloc (.cells #[.int .i64 0, .int .u32 0] 55)) id).drew.upto (ah.ak (S:=fun _=>False) iE) id);have ZI:=κ (((Rs.new w1 w1.heap.size rfl).drew).upto (ah.ak (S:=fun _=>False) iE) id);have B2:=κ iE;have HV:=κ hv;clear iE hv;obtain⟨i0,i1,i2,i3,i4⟩:=ZH.out;obtain⟨j0,j1,j2,j3,j4⟩:=ZI.out)
 all_goals go_wp2
 all_goals refine bodyPost_ret (v:= .tuple #[v, .agg #[.int .i64 0, .int .u32 0]]) (by simp [results,Tryz.results87,go_sem,i0,i1,i4]) rfl ⟨v,rfl, ?_, ?_⟩
 all_goals first
  | exact((HV.out.below (by simp;omega) _).below (by simp;omega) _).mono (by simp;omega)
  | exact((((B1.out.alloc B1.out.size _).drew).trans (B2.out.mono (by have:=B1.out.size;simp;omega))).setCell (Nat.le_refl _) _).setCell (Nat.le_refl _) _
theorem kZ (P:RP) (M:MM) (a n:Int) (w:World) (h:RM P M w) (hM:bQ M) (a0:0≤a) (a1:a<4294967296):
  Calls Tryz.prog 87 #[.pointer (some ⟨P.q,0,none⟩), .int .u32 a, .int .i64 n] w fun e w'=>∃v,e= .returned (.tuple #[v,stpV 4 (bY M a n)])∧Own w.heap.size v (fB M a n) w'∧Below w.heap.size w w':=by
 unfold fB bY
 by_cases hn:0≤n∧n≤8
 ·rw [if_pos hn,if_pos hn]
  obtain⟨o,ho⟩:∃o,aQ M 4 a n.toNat=o:=⟨_,rfl⟩
  rw [ho]
  rcases o with _ | x
  ·simp only [Option.isNone_none,if_true,stpV]
   by_cases h0:n=0
   ·subst h0
    refine(Ap P M a w h hM a0 a1).mono ?_
    rintro e w' ⟨rfl,hb⟩
    exact⟨_,rfl,Own.nil _ _,hb⟩
   ·exact He P M a n w h hM (by omega) (by omega) a0 a1 ho
  ·simp only [Option.isNone_some,Bool.false_eq_true,if_false,stpV]
   refine(Dy P M a n x w h hM a0 a1 (by omega) (by omega) ho).mono ?_
   rintro e w' ⟨rfl,hb⟩
   exact⟨_,rfl,Own.nil _ _,hb⟩
 ·rw [if_neg hn,if_neg hn]
  refine(GZ P.q a n w (by omega)).mono ?_
  rintro e w' ⟨rfl,hb⟩
  exact⟨_,rfl,Own.nil _ _,hb⟩
def eat (p:Value→Bool):Nat→List Value→Option (List Value)
 | 0,l=>some l
 | _+1, []=>none
 | n+1,v::r=>bif p v then eat p n r else none
theorem vS {p:Value→Bool} {n:Nat} {l r:List Value} (h:eat p n l=some r):r=l.drop n∧∀j,j<n→∃v,l[j]?=some v∧p v=true:=by
 induction n generalizing l with
 | zero=>
  simp only [eat,Option.some.injEq] at h
  exact⟨by rw [←h];rfl,fun j hj=>absurd hj (by omega)⟩
 | succ n ih=>
  cases l with
  | nil=>simp [eat] at h
  | cons v l=>
   simp only [eat] at h
   cases hp:p v with
   | false=>rw [hp] at h;cases h
   | true=>
    rw [hp] at h
    obtain⟨h1,h2⟩:=ih h
    refine⟨by rw [h1];rfl,fun j hj=> ?_⟩
    cases j with
    | zero=>exact⟨v,rfl,hp⟩
    | succ j=>exact h2 j (by omega)
def isU8z:Value→Bool | .int .u8 0=>true | _=>false
def isBz:Value→Bool | .bool false=>true | _=>false
def isIz:Value→Bool | .int .i64 0=>true | _=>false
theorem KC {v:Value} (h:isU8z v=true):v= .int .u8 0:=by
 unfold isU8z at h;split at h
 ·rfl
 ·cases h
theorem QB {v:Value} (h:isBz v=true):v= .bool false:=by
 unfold isBz at h;split at h
 ·rfl
 ·cases h
theorem QC {v:Value} (h:isIz v=true):v= .int .i64 0:=by
 unfold isIz at h;split at h
 ·rfl
 ·cases h
def zeros (o:Option Value):Bool:=match o with
 | some (.agg cs)=>match eat isU8z 65792 cs.toList with
  | some r=>match eat isBz 512 r with
   | some r=>match eat isIz 1 r with
    | some []=>true
    | _=>false
   | _=>false
  | _=>false
 | _=>false
theorem KD:zeros (some (.agg Tryz.zeroCells157))=true:=by kernel_rfl
theorem Dz {o:Option Value} (h:zeros o=true):∃cs:Array Value,o=some (.agg cs)∧(∀j,j<65792→cs[j]?=some (.int .u8 0))∧(∀j,j<512→cs[65792+j]?=some (.bool false))∧cs[66304]?=some (.int .i64 0):=by
 unfold zeros at h
 split at h
 ·next cs=>
  refine⟨cs,rfl, ?_⟩
  split at h
  ·next r1 e1=>
   split at h
   ·next r2 e2=>
    split at h
    ·next e3=>
     obtain⟨d1,s1⟩:=vS e1
     obtain⟨d2,s2⟩:=vS e2
     obtain⟨d3,s3⟩:=vS e3
     refine⟨fun j hj=> ?_,fun j hj=> ?_, ?_⟩
     ·obtain⟨v,hv,hp⟩:=s1 j hj
      rw [KC hp] at hv
      rw [←Array.getElem?_toList];exact hv
     ·obtain⟨v,hv,hp⟩:=s2 j hj
      rw [QB hp,d1,List.getElem?_drop] at hv
      rw [←Array.getElem?_toList];exact hv
     ·obtain⟨v,hv,hp⟩:=s3 0 (by omega)
      rw [QC hp,d2,d1,List.drop_drop,List.getElem?_drop] at hv
      rw [←Array.getElem?_toList];exact hv
    ·cases h
   ·cases h
  ·cases h
 ·cases h
def M0:MM:=⟨fun _=>0,fun _=>0,fun _=>false,fun _=>false⟩
theorem QD (w:World):Calls Tryz.prog 45 #[] w fun e w'=>e= .returned (.pointer (some ⟨w.heap.size,0,none⟩))∧HC w.heap.size M0 w'∧Below w.heap.size w w'∧w'.heap.size=w.heap.size+1:=by
 obtain⟨cs,hcs,k1,k2,k3⟩:=Dz KD
 simp only [Option.some.injEq,Value.agg.injEq] at hcs
 have HK1:=κ k1
 have HK2:=κ k2
 have HK3:=κ k3
 have HZ:=κ hcs
 clear hcs k1 k2 k3
 go_enter Tryz.func45,Tryz.ntmps45
 go_wp2
 go_ret
 rw [HZ.out]
 refine⟨rfl, ?_,(Below.refl _ _).alloc (Nat.le_refl _) _,by simp⟩
 have e:=heap_alloc_new w (.cells cs 157)
 have hc:∀i,(w.alloc (.cells cs 157)).cell? ⟨w.heap.size,i,none⟩=cs[i]?:=fun i=>cell_of_row _ _ _ _ _ _ e
 refine⟨fun j hj=> ?_,fun j hj=> ?_,fun j hj=> ?_,fun j hj=> ?_, ?_,fun i=>frozen_of_row _ _ _ _ _ e,by simp⟩
 ·rw [hc];exact HK1.out j (by omega)
 ·rw [hc];exact HK1.out (65536+j) (by omega)
 ·rw [hc];exact HK2.out j (by omega)
 ·rw [hc,show 66048+j=65792+(256+j) by omega];exact HK2.out (256+j) (by omega)
 ·rw [hc,HK3.out,show aj M0.hi=0 from Vt]
end Go.Proofs.YtcjcmnnhmajocabGreat.Me
