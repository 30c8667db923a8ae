import Derived.Test.YtcjcmnnhmajocabPmai
set_option linter.unusedVariables false
set_option linter.unusedSimpArgs false
set_option maxRecDepth 100000
set_option maxHeartbeats 16000000
namespace Go.Proofs.Ytcjcmnnhmajocab.Gn
open Go.RowKit Kt Me
def tH (g n:Nat) (f:Nat→Value) (W:World):Prop:=g<W.heap.size∧(∀j,j<n→W.cell? ⟨g,j,none⟩=some (f j))∧∀j,W.frozen? ⟨g,j,none⟩=false
theorem tH.keep {g n:Nat} {f:Nat→Value} {W W':World} (h:tH g n f W) (b:Below W.heap.size W W'):tH g n f W':=
 ⟨Nat.lt_of_lt_of_le h.1 b.size,fun j hj=>(b.cell (p:=⟨g,j,none⟩) h.1).trans (h.2.1 j hj),fun j=>(b.frozen (p:=⟨g,j,none⟩) h.1).trans (h.2.2 j)⟩
theorem Jr:∃i,Try.prog.info? 4=some i∧i.zero=some (.bool false)∧i.size=1∧i.bytes=1:=by
 have h:(Try.prog.info? 4).map (fun i=>(i.zero,i.size,i.bytes))=some (some (.bool false),1,1):=by kernel_rfl
 obtain⟨i,hi,hz⟩:=Option.map_eq_some_iff.1 h
 simp only [Prod.mk.injEq] at hz
 exact⟨i,hi,hz⟩
theorem Vg {ops:Array Oper} {o:Oper} {a:Act} {w:World} {K:Act→World→Prop} {Q:Exit→Act→World→Prop} {E:Prop}
  (hg:o.guard=none) (x:Operand) (Cj:o.op=Op.call {callee:=Callee.builtin Builtin.append,args:= #[.const (.slice none 0 0),x],argTypes:= #[74,74]})
  (f:Nat→Int) (b n cap:Nat) (hx:a.eval x= .slice (some ⟨b,0,none⟩) n cap) (hc:∀j,j<n→w.cell? ⟨b,j,none⟩=some (Value.int .u8 (f j))) (h0:0<n) (hb:n≤65536)
  (hK:∀g c w',w.heap.size≤g→n≤c→tH g n (fun j=>Value.int .u8 (f j)) w'→Below w.heap.size w w'→K (a.put o.dst (.slice (some ⟨g,0,none⟩) n c)) w'):
  if Region.wanted o (yielded ops a.tmps)=true then Oper.wp Try.prog o a w K Q else E:=by
 have hw:Region.wanted o (yielded ops a.tmps)=true:=by simp [Region.wanted,hg]
 rw [if_pos hw]
 obtain⟨i,hi,hz,uX,Tf⟩:=Gu.qK
 have mX:(maxLen:Nat)=9223372036854775807:=rfl
 have el:((List.range n).map fun j=>Value.int .u8 (f j)).length=n:=by simp
 have e1:∀j u,((List.range n).map fun j=>Value.int .u8 (f j))[j]?=some u→w.cell? ((⟨b,0,none⟩:Addr).add j)=some u:=by
  intro j u hj
  rw [List.getElem?_map] at hj
  obtain⟨z,hz,rfl⟩:=Option.map_eq_some_iff.1 hj
  obtain⟨bV,hz⟩:=List.getElem?_eq_some_iff.1 hz
  rw [List.length_range] at bV
  rw [List.getElem_range] at hz
  subst hz
  rw [Addr.add_lit,Nat.zero_add]
  exact hc j bV
 have e2:∀u∈(List.range n).map (fun j=>Value.int .u8 (f j)),u.oneCell'=true:=by
  intro u hu
  obtain⟨z,_,rfl⟩:=List.mem_map.1 hu
  rfl
 obtain⟨v',w',qB,r1,r2,_⟩:=run_append_own (P:=Try.prog) w w.heap.size 74 o.type 5 i (.int .u8 0) 1 1 Try.underlying74 hi hz uX Tf rfl Nat.one_pos (.slice none 0 0) 0 [] (World.ownsRow_nil w _ _ _) ⟨b,0,none⟩ n cap ((List.range n).map fun j=>Value.int .u8 (f j)) (by simp) e1 e2 (by omega) (by omega) (Nat.le_refl _)
 have hB:Below w.heap.size w w':=(Below.refl _ _).grown r2 (Nat.le_refl _) (fun k hk=>by cases hk)
 have hv:∃g c,v'= .slice (some ⟨g,0,none⟩) n c∧w.heap.size≤g∧n≤c∧tH g n (fun j=>Value.int .u8 (f j)) w':=by
  rcases r1.2 with⟨_,hn⟩ | ⟨g,c1,cur,e,hg,mD,hle,mX,uX,CJ⟩
  ·simp at hn;omega
  ·simp only [Nat.zero_add,List.nil_append] at e hle CJ
   refine⟨g,c1,e,hg,by simpa using hle,(Array.getElem?_eq_some_iff.1 mD).1,fun j hj=> ?_,fun j=>frozen_of_row _ _ _ _ _ mD⟩
   rw [cell_of_row w' g j _ _ _ mD,←Array.getElem?_toList]
   have h2:(cur.toList.take (n*1))[j]?=((List.range n).map fun j=>Value.int .u8 (f j))[j]?:=by rw [CJ]
   rw [Nat.mul_one,List.getElem?_take,if_pos hj,List.getElem?_map,List.getElem?_range hj] at h2
   rw [h2];rfl
 obtain⟨g,c,rfl,hg,hle,hr⟩:=hv
 unfold Oper.wp
 have hs:a.eval (.const (.slice none 0 0))= .slice none 0 0:=rfl
 simp [execOp,Cj,resolve,invoke,builtin,hs,hx,qB,Result.andThen]
 exact hK g c w' hg hle hr hB
theorem Vh {ops:Array Oper} {o:Oper} {a:Act} {w:World} {K:Act→World→Prop} {Q:Exit→Act→World→Prop} {E:Prop}
  (hg:o.guard=none) (x:Operand) (Cj:o.op=Op.call {callee:=Callee.builtin Builtin.append,args:= #[.const (.slice none 0 0),x],argTypes:= #[39,39]})
  (f:Nat→Int) (b n cap:Nat) (hx:a.eval x= .slice (some ⟨b,0,none⟩) n cap) (hc:∀j,j<n→w.cell? ⟨b,j,none⟩=some (Value.int .i64 (f j))) (h0:0<n) (hb:n≤65536)
  (hK:∀g c w',w.heap.size≤g→n≤c→tH g n (fun j=>Value.int .i64 (f j)) w'→Below w.heap.size w w'→K (a.put o.dst (.slice (some ⟨g,0,none⟩) n c)) w'):
  if Region.wanted o (yielded ops a.tmps)=true then Oper.wp Try.prog o a w K Q else E:=by
 have hw:Region.wanted o (yielded ops a.tmps)=true:=by simp [Region.wanted,hg]
 rw [if_pos hw]
 obtain⟨i,hi,hz,uX,Tf⟩:=zK
 have mX:(maxLen:Nat)=9223372036854775807:=rfl
 have el:((List.range n).map fun j=>Value.int .i64 (f j)).length=n:=by simp
 have e1:∀j u,((List.range n).map fun j=>Value.int .i64 (f j))[j]?=some u→w.cell? ((⟨b,0,none⟩:Addr).add j)=some u:=by
  intro j u hj
  rw [List.getElem?_map] at hj
  obtain⟨z,hz,rfl⟩:=Option.map_eq_some_iff.1 hj
  obtain⟨bV,hz⟩:=List.getElem?_eq_some_iff.1 hz
  rw [List.length_range] at bV
  rw [List.getElem_range] at hz
  subst hz
  rw [Addr.add_lit,Nat.zero_add]
  exact hc j bV
 have e2:∀u∈(List.range n).map (fun j=>Value.int .i64 (f j)),u.oneCell'=true:=by
  intro u hu
  obtain⟨z,_,rfl⟩:=List.mem_map.1 hu
  rfl
 obtain⟨v',w',qB,r1,r2,_⟩:=run_append_own (P:=Try.prog) w w.heap.size 39 o.type 3 i (.int .i64 0) 1 8 Try.underlying39 hi hz uX Tf rfl Nat.one_pos (.slice none 0 0) 0 [] (World.ownsRow_nil w _ _ _) ⟨b,0,none⟩ n cap ((List.range n).map fun j=>Value.int .i64 (f j)) (by simp) e1 e2 (by omega) (by omega) (Nat.le_refl _)
 have hB:Below w.heap.size w w':=(Below.refl _ _).grown r2 (Nat.le_refl _) (fun k hk=>by cases hk)
 have hv:∃g c,v'= .slice (some ⟨g,0,none⟩) n c∧w.heap.size≤g∧n≤c∧tH g n (fun j=>Value.int .i64 (f j)) w':=by
  rcases r1.2 with⟨_,hn⟩ | ⟨g,c1,cur,e,hg,mD,hle,mX,uX,CJ⟩
  ·simp at hn;omega
  ·simp only [Nat.zero_add,List.nil_append] at e hle CJ
   refine⟨g,c1,e,hg,by simpa using hle,(Array.getElem?_eq_some_iff.1 mD).1,fun j hj=> ?_,fun j=>frozen_of_row _ _ _ _ _ mD⟩
   rw [cell_of_row w' g j _ _ _ mD,←Array.getElem?_toList]
   have h2:(cur.toList.take (n*1))[j]?=((List.range n).map fun j=>Value.int .i64 (f j))[j]?:=by rw [CJ]
   rw [Nat.mul_one,List.getElem?_take,if_pos hj,List.getElem?_map,List.getElem?_range hj] at h2
   rw [h2];rfl
 obtain⟨g,c,rfl,hg,hle,hr⟩:=hv
 unfold Oper.wp
 have hs:a.eval (.const (.slice none 0 0))= .slice none 0 0:=rfl
 simp [execOp,Cj,resolve,invoke,builtin,hs,hx,qB,Result.andThen]
 exact hK g c w' hg hle hr hB
theorem GZ {ops:Array Oper} {o:Oper} {a:Act} {w:World} {K:Act→World→Prop} {Q:Exit→Act→World→Prop} {E:Prop}
  (hg:o.guard=none) (x:Operand) (Cj:o.op=Op.call {callee:=Callee.builtin Builtin.append,args:= #[.const (.slice none 0 0),x],argTypes:= #[79,79]})
  (f:Nat→Bool) (b n cap:Nat) (hx:a.eval x= .slice (some ⟨b,0,none⟩) n cap) (hc:∀j,j<n→w.cell? ⟨b,j,none⟩=some (Value.bool (f j))) (h0:0<n) (hb:n≤65536)
  (hK:∀g c w',w.heap.size≤g→n≤c→tH g n (fun j=>Value.bool (f j)) w'→Below w.heap.size w w'→K (a.put o.dst (.slice (some ⟨g,0,none⟩) n c)) w'):
  if Region.wanted o (yielded ops a.tmps)=true then Oper.wp Try.prog o a w K Q else E:=by
 have hw:Region.wanted o (yielded ops a.tmps)=true:=by simp [Region.wanted,hg]
 rw [if_pos hw]
 obtain⟨i,hi,hz,uX,Tf⟩:=Jr
 have mX:(maxLen:Nat)=9223372036854775807:=rfl
 have el:((List.range n).map fun j=>Value.bool (f j)).length=n:=by simp
 have e1:∀j u,((List.range n).map fun j=>Value.bool (f j))[j]?=some u→w.cell? ((⟨b,0,none⟩:Addr).add j)=some u:=by
  intro j u hj
  rw [List.getElem?_map] at hj
  obtain⟨z,hz,rfl⟩:=Option.map_eq_some_iff.1 hj
  obtain⟨bV,hz⟩:=List.getElem?_eq_some_iff.1 hz
  rw [List.length_range] at bV
  rw [List.getElem_range] at hz
  subst hz
  rw [Addr.add_lit,Nat.zero_add]
  exact hc j bV
 have e2:∀u∈(List.range n).map (fun j=>Value.bool (f j)),u.oneCell'=true:=by
  intro u hu
  obtain⟨z,_,rfl⟩:=List.mem_map.1 hu
  rfl
 obtain⟨v',w',qB,r1,r2,_⟩:=run_append_own (P:=Try.prog) w w.heap.size 79 o.type 4 i (.bool false) 1 1 Try.underlying79 hi hz uX Tf rfl Nat.one_pos (.slice none 0 0) 0 [] (World.ownsRow_nil w _ _ _) ⟨b,0,none⟩ n cap ((List.range n).map fun j=>Value.bool (f j)) (by simp) e1 e2 (by omega) (by omega) (Nat.le_refl _)
 have hB:Below w.heap.size w w':=(Below.refl _ _).grown r2 (Nat.le_refl _) (fun k hk=>by cases hk)
 have hv:∃g c,v'= .slice (some ⟨g,0,none⟩) n c∧w.heap.size≤g∧n≤c∧tH g n (fun j=>Value.bool (f j)) w':=by
  rcases r1.2 with⟨_,hn⟩ | ⟨g,c1,cur,e,hg,mD,hle,mX,uX,CJ⟩
  ·simp at hn;omega
  ·simp only [Nat.zero_add,List.nil_append] at e hle CJ
   refine⟨g,c1,e,hg,by simpa using hle,(Array.getElem?_eq_some_iff.1 mD).1,fun j hj=> ?_,fun j=>frozen_of_row _ _ _ _ _ mD⟩
   rw [cell_of_row w' g j _ _ _ mD,←Array.getElem?_toList]
   have h2:(cur.toList.take (n*1))[j]?=((List.range n).map fun j=>Value.bool (f j))[j]?:=by rw [CJ]
   rw [Nat.mul_one,List.getElem?_take,if_pos hj,List.getElem?_map,List.getElem?_range hj] at h2
   rw [h2];rfl
 obtain⟨g,c,rfl,hg,hle,hr⟩:=hv
 unfold Oper.wp
 have hs:a.eval (.const (.slice none 0 0))= .slice none 0 0:=rfl
 simp [execOp,Cj,resolve,invoke,builtin,hs,hx,qB,Result.andThen]
 exact hK g c w' hg hle hr hB
theorem Wn {P:RP} {M:MM} {w':World} (h:RM P M w'):w'.cell? ⟨P.q,0,none⟩=some (.slice (some ⟨P.b,0,none⟩) 65536 P.cb)∧w'.cell? ⟨P.q,1,none⟩=some (.slice (some ⟨P.r,0,none⟩) 256 P.cr)∧w'.cell? ⟨P.q,2,none⟩=some (.slice (some ⟨P.m,0,none⟩) 256 P.cm)∧w'.cell? ⟨P.q,3,none⟩=some (.slice (some ⟨P.t,0,none⟩) 256 P.ct):=⟨h.wO,h.Jy,h.BZ,h.J8⟩
theorem RM.made {M:MM} {W:World} {gb gr gm gt cb cr cm ct:Nat} (hcb:65536≤cb) (b:tH gb 65536 (fun j=> .int .u8 (M.jL j)) W) (r:tH gr 256 (fun j=> .int .i64 (M.rt j)) W) (m:tH gm 256 (fun j=> .bool (M.wd j)) W) (t:tH gt 256 (fun j=> .bool (M.hi j)) W)
  (h:gb≠gr∧gb≠gm∧gb≠gt∧gr≠gm∧gr≠gt∧gm≠gt):RM ⟨W.heap.size,gb,gr,gm,gt,cb,cr,cm,ct,hcb⟩ M (W.alloc (.cells #[.slice (some ⟨gb,0,none⟩) 65536 cb, .slice (some ⟨gr,0,none⟩) 256 cr, .slice (some ⟨gm,0,none⟩) 256 cm, .slice (some ⟨gt,0,none⟩) 256 ct] 81)):=by
 generalize hz:(.cells #[.slice (some ⟨gb,0,none⟩) 65536 cb, .slice (some ⟨gr,0,none⟩) 256 cr, .slice (some ⟨gm,0,none⟩) 256 cm, .slice (some ⟨gt,0,none⟩) 256 ct] 81:Obj)=Z
 have tq:=(oC W Z _ rfl).trans (congrArg some hz.symm)
 have B:Below W.heap.size W (W.alloc Z):=(Below.refl _ _).alloc (Nat.le_refl _) _
 have aQ:gb<W.heap.size∧gr<W.heap.size∧gm<W.heap.size∧gt<W.heap.size:=⟨b.1,r.1,m.1,t.1⟩
 have b:=b.keep B
 have r:=r.keep B
 have m:=m.keep B
 have t:=t.keep B
 have sz:(W.alloc Z).heap.size=W.heap.size+1:=by simp
 refine⟨?_, ?_, ?_, ?_, ?_,b.2.1,r.2.1,m.2.1,t.2.1,b.2.2,r.2.2,m.2.2,t.2.2, ?_,b.1,r.1,m.1,t.1⟩
 ·have:=b.1
  have b1:=aQ
  show W.heap.size≠gb∧W.heap.size≠gr∧W.heap.size≠gm∧W.heap.size≠gt∧gb≠gr∧gb≠gm∧gb≠gt∧gr≠gm∧gr≠gt∧gm≠gt
  omega
 ·rw [cell_of_row _ _ _ _ _ _ tq];rfl
 ·rw [cell_of_row _ _ _ _ _ _ tq];rfl
 ·rw [cell_of_row _ _ _ _ _ _ tq];rfl
 ·rw [cell_of_row _ _ _ _ _ _ tq];rfl
 ·show W.heap.size<_;omega
theorem PG (P:RP) (M:MM) (w:World) (h:RM P M w):
  Calls Try.prog 15 #[.pointer (some ⟨P.q,0,none⟩)] w fun e w'=>∃Q:RP,e= .returned (.pointer (some ⟨Q.q,0,none⟩))∧RM Q M w'∧Below w.heap.size w w'∧∀k,Q.has k→w.heap.size≤k:=by
 have HR:=κ h.drew
 have BB:=κ (show Below w.heap.size w w.drew from(Below.refl _ _).drew)
 clear h
 go_enter Try.func15,Try.ntmps15
 go_upto_region 1 with fail
 go_region_held3 (fun w'=>w'.cell? ⟨P.q,0,none⟩=some (.slice (some ⟨P.b,0,none⟩) 65536 P.cb)∧w'.cell? ⟨P.q,1,none⟩=some (.slice (some ⟨P.r,0,none⟩) 256 P.cr)∧w'.cell? ⟨P.q,2,none⟩=some (.slice (some ⟨P.m,0,none⟩) 256 P.cm)∧w'.cell? ⟨P.q,3,none⟩=some (.slice (some ⟨P.t,0,none⟩) 256 P.ct)) (first | exact Wn HR.out | exact Wn (HR.out.upto ((ah.refl (fun _=>False) _).alloc _) (fun _ _=>id))) (first
  | (refine Vg rfl (.tmp 6) rfl M.jL P.b 65536 P.cb (by simp [Act.eval,Act.put]) HR.out.hb (by decide) (by decide) ?_;intro g6 c6 w2 hg6 hc6 hr hb;have R6:=κ hr;clear hr;(try(replace PI:=κ (PI.out.keep hb)));(try(replace Jb:=κ (Jb.out.keep hb)));(try(replace PK:=κ (PK.out.keep hb)));have l6:=R6.out.1;replace HR:=κ (HR.out.upto (ah.aG (S:=fun _=>False) hb) (fun _ _=>id));replace BB:=κ (chain BB.out hb);have z6:=hb.size;clear hb)
  | (refine Vh rfl (.tmp 11) rfl M.rt P.r 256 P.cr (by simp [Act.eval,Act.put]) HR.out.hr (by decide) (by decide) ?_;intro BM oZ w2 ajy ajz hr hb;have PI:=κ hr;clear hr;(try(replace R6:=κ (R6.out.keep hb)));(try(replace Jb:=κ (Jb.out.keep hb)));(try(replace PK:=κ (PK.out.keep hb)));have l11:=PI.out.1;replace HR:=κ (HR.out.upto (ah.aG (S:=fun _=>False) hb) (fun _ _=>id));replace BB:=κ (chain BB.out hb);have z11:=hb.size;clear hb)
  | (refine GZ rfl (.tmp 16) rfl M.wd P.m 256 P.cm (by simp [Act.eval,Act.put]) HR.out.hm (by decide) (by decide) ?_;intro tX Qb w2 ajA ajB hr hb;have Jb:=κ hr;clear hr;(try(replace R6:=κ (R6.out.keep hb)));(try(replace PI:=κ (PI.out.keep hb)));(try(replace PK:=κ (PK.out.keep hb)));have l16:=Jb.out.1;replace HR:=κ (HR.out.upto (ah.aG (S:=fun _=>False) hb) (fun _ _=>id));replace BB:=κ (chain BB.out hb);have z16:=hb.size;clear hb)
  | (refine GZ rfl (.tmp 21) rfl M.hi P.t 256 P.ct (by simp [Act.eval,Act.put]) HR.out.ht (by decide) (by decide) ?_;intro g21 Qc w2 ajC ajD hr hb;have PK:=κ hr;clear hr;(try(replace R6:=κ (R6.out.keep hb)));(try(replace PI:=κ (PI.out.keep hb)));(try(replace Jb:=κ (Jb.out.keep hb)));have l21:=PK.out.1;replace HR:=κ (HR.out.upto (ah.aG (S:=fun _=>False) hb) (fun _ _=>id));replace BB:=κ (chain BB.out hb);have z21:=hb.size;clear hb))
 all_goals go_wp2
 all_goals go_ret
 all_goals
  have hd:w.drew.heap.size=w.heap.size:=rfl
  refine⟨⟨w2.heap.size,g6,BM,tX,g21,c6,oZ,Qb,Qc,hc6⟩,rfl,RM.made hc6 R6.out PI.out Jb.out PK.out (by clear HR BB R6 PI Jb PK;omega),BB.out.alloc (by clear HR R6 PI Jb PK;omega) _, ?_⟩
  clear HR BB R6 PI Jb PK
  rintro k (h | h | h | h | h)
  ·have h:k=w2.heap.size:=h
   omega
  ·have h:k=g6:=h
   omega
  ·have h:k=BM:=h
   omega
  ·have h:k=tX:=h
   omega
  ·have h:k=g21:=h
   omega
theorem PN (P Q:RP) (M:MM) (w:World) (h:RM P M w) (h':RM Q M w):
  Calls Try.prog 18 #[.pointer (some ⟨P.q,0,none⟩), .pointer (some ⟨Q.q,0,none⟩)] w fun e w'=>e= .returned (.bool true)∧Below w.heap.size w w':=by
 have HP:=κ h
 have HQ:=κ h'
 have hq:=h.wO
 have ZO:=h'.wO
 clear h h'
 go_enter Try.func18,Try.ntmps18
 go_wp2_with fail
 go_loopg [11] 65536 (fun k i wr=>∃j:Nat,k=65536-j∧j≤65536∧i= .int .i64 j∧Hid (Below w.heap.size w wr))
 case atStart=>exact⟨0,rfl,Nat.zero_le _,rfl,Below.refl _ _⟩
 case round=>
  obtain⟨j,hk,hj,rfl,HB⟩:=hrel
  by_cases bV:j<65536
  ·have oV:(j:Int) <65536:=by omega
   have Jz:(0:Int)≤(j:Int):=by omega
   have e1:=(HB.out.cell (p:=⟨P.b,j,none⟩) HP.out.lb).trans (HP.out.hb j bV)
   have e2:=(HB.out.cell (p:=⟨Q.b,j,none⟩) HQ.out.lb).trans (HQ.out.hb j bV)
   have e3:=(HB.out.cell (p:=⟨P.q,0,none⟩) HP.out.lq).trans hq
   have e4:=(HB.out.cell (p:=⟨Q.q,0,none⟩) HQ.out.lq).trans ZO
   generalize M.jL j=z at e1 e2
   go_wp2_with fail
   go_region
   go_wp2_with fail
   go_roundg (65536-(j+1))
   case measure=>omega
   case rel=>exact⟨j+1,rfl,by omega,by simp,HB.out.drew⟩
  ·obtain rfl:j=65536:=by omega
   go_wp2_with fail
   go_ret
   exact⟨rfl,HB.out⟩
end Go.Proofs.Ytcjcmnnhmajocab.Gn
namespace Go.Proofs.Ytcjcmnnhmajocab.Ev
open Go.RowKit Kt Me
structure yx where
 at_:Int
 us:List Int
 ao:Option Addr
 cap:Nat
 rt:Int
def yx.cells (s:yx):Array Value:= #[.int .i64 s.at_, .slice s.ao s.us.length s.cap, .int .i64 s.rt]
structure yA (s:yx) (W:World):Prop where
 a0: -9223372036854775808≤s.at_
 a1:s.at_<9223372036854775808
 bs:Gu.Bs s.us s.ao s.cap W
 rg:∀j,0≤s.us.getD j 0∧s.us.getD j 0<256
structure EY (ss:List yx) (ao:Option Addr) (cap:Nat) (W:World):Prop where
 lc:ss.length≤cap
 mx:cap≤maxLen
 ok:∀s∈ss,yA s W
 at_:0<ss.length→∃b off,ao=some ⟨b,off,none⟩∧b<W.heap.size∧∀i s,ss[i]?=some s→∀j v,s.cells[j]?=some v→W.cell? ⟨b,off+i*3+j,none⟩=some v
theorem yA.keep {s:yx} {w w':World} (h:yA s w) (b:Below w.heap.size w w'):yA s w':=⟨h.a0,h.a1,h.bs.keep b,h.rg⟩
theorem EY.keep {ss:List yx} {ao:Option Addr} {cap:Nat} {w w':World} (h:EY ss ao cap w) (b:Below w.heap.size w w'):EY ss ao cap w':=
 ⟨h.lc,h.mx,fun s hs=>(h.ok s hs).keep b,fun h0=>by
  obtain⟨g,off,e,hg,hc⟩:=h.at_ h0
  exact⟨g,off,e,Nat.lt_of_lt_of_le hg b.size,fun i s hi j v hj=>(b.cell (p:=⟨g,off+i*3+j,none⟩) hg).trans (hc i s hi j v hj)⟩⟩
def tJ (M:MM) (s:yx):MM:=JC (zQ M (s.at_%65536) s.us) (s.at_%65536/256) s.rt
def rE (ss:List yx):MM:=ss.foldl tJ M0
theorem Js (ss:List yx) (j:Nat) (s:yx) (h:ss[j]?=some s):(ss.take (j+1)).foldl tJ M0=tJ ((ss.take j).foldl tJ M0) s:=by
 rw [List.take_add_one,h,List.foldl_append]
 rfl
theorem EZ (a:Int):∃r,a.tmod 65536=r∧((0≤r∧r=a%65536)∨(r<0∧ -65536<r∧r+65536=a%65536)):=by
 refine⟨_,rfl, ?_⟩
 by_cases h:0≤a
 ·rw [Int.tmod_eq_emod_of_nonneg h];omega
 ·have e:a.tmod 65536= -((-a).tmod 65536):=by rw [Int.neg_tmod];omega
  rw [Int.tmod_eq_emod_of_nonneg (show 0≤ -a by omega)] at e
  omega
def Vj (ks:List Int) (ao:Option Addr) (cap:Nat) (W:World):Prop:=
 ks.length≤cap∧cap≤maxLen∧(0<ks.length→∃b off,ao=some ⟨b,off,none⟩∧b<W.heap.size∧∀j,j<ks.length→W.cell? ⟨b,off+j,none⟩=some (.int .i64 (ks.getD j 0)))
def rH (M:MM) (ks:List Int):MM:=ks.foldl (fun M k=>zJ M k true) M
theorem Jt (M:MM) (ks:List Int) (j:Nat) (h:j<ks.length):(ks.take (j+1)).foldl (fun M k=>zJ M k true) M=zJ ((ks.take j).foldl (fun M k=>zJ M k true) M) (ks.getD j 0) true:=by
 rw [List.take_add_one,List.getElem?_eq_getElem h,List.foldl_append,List.getD_eq_getElem?_getD,List.getElem?_eq_getElem h]
 rfl
theorem BU (ss:List yx) (ao:Option Addr) (cap:Nat) (ks:List Int) (ao2:Option Addr) (acu:Nat) (w:World) (h:EY ss ao cap w) (h2:Vj ks ao2 acu w):
  Calls Try.prog 14 #[.slice ao ss.length cap, .slice ao2 ks.length acu] w fun e w'=>∃p P,e= .returned (.tuple #[.pointer (some ⟨p,0,none⟩), .pointer (some ⟨P.q,0,none⟩), .bool true])∧vH p P (rH (rE ss) ks) w'∧Below w.heap.size w w'∧∀k,PS p P k→w.heap.size≤k:=by
 have mX:(maxLen:Nat)=9223372036854775807:=rfl
 have dZ:=h.lc
 have wR:=h.mx
 rw [mX] at wR
 clear mX
 have hc3:=h2.1
 have hc4:=h2.2.1
 rw [show(maxLen:Nat)=9223372036854775807 from rfl] at hc4
 have HS:=κ h
 have HK:=κ h2
 clear h h2
 go_enter Try.func14,Try.ntmps14
 go_wp2_with fail
 refine(Qw _).mono ?_
 rintro e w1 ⟨rfl,k1,b1,s1⟩
 have K1:=κ k1
 have B1:=κ b1
 have Z1:=κ s1
 clear k1 b1 s1
 go_wp2_with fail
 refine(KP _).mono ?_
 rintro e w2 ⟨P,rfl,r2,b2,g2⟩
 have hA:vH w.heap.size P M0 w2:=by
  refine⟨K1.out.upto (ah.aG (S:=fun _=>False) b2) id,r2,fun hp=> ?_,iC.zero⟩
  have:=g2 _ hp
  have:=Z1.out
  omega
 have hGa:∀k,PS w.heap.size P k→w.heap.size≤k:=by
  have z1:=Z1.out
  rintro k (hk | hk)
  ·omega
  ·have:=g2 _ hk;omega
 have B2:=κ (chain B1.out b2)
 have HA:=κ hA
 have GA:=κ hGa
 have Wp:=κ hA.ne
 clear hA hGa r2 b2 g2 K1 B1 Z1
 obtain⟨N,hN⟩:∃N,ss.length=N:=⟨_,rfl⟩
 have HN:=κ hN
 rw [hN] at dZ⊢
 clear hN
 go_wp2_with fail
 go_loopg [24] N (fun g i wr=>∃ (j:Nat),g=N-j∧j≤N∧i= .int .i64 j∧Hid (vH w.heap.size P ((ss.take j).foldl tJ M0) wr)∧Hid (Below w.heap.size w wr))
 case atStart=>exact⟨0,rfl,Nat.zero_le _,rfl,HA.out,B2.out⟩
 case round=>
  obtain⟨j,hg,hj,rfl,H1,CZ⟩:=hrel
  by_cases bV:j<N
  ·have oV:(j:Int) <(N:Int):=by omega
   have WI:(0:Int)≤(j:Int):=by omega
   obtain⟨g1,off,rfl,lg1,hcs⟩:=HS.out.at_ (by rw [HN.out];omega)
   obtain⟨s,hs⟩:∃s,ss[j]?=some s:=⟨_,List.getElem?_eq_getElem (by rw [HN.out];exact bV)⟩
   have kS:=κ ((HS.out.ok s (List.mem_of_getElem? hs)).keep CZ.out)
   have hfb:=κ (fun(g:Addr) (e:s.ao=some g) (h0:0<s.us.length) (hp:PS w.heap.size P g.block)=>show False by
    obtain⟨b,off,e',hb,_⟩:=(HS.out.ok s (List.mem_of_getElem? hs)).bs.2.2 h0
    rw [e] at e'
    obtain rfl:=Option.some.inj e'
    have:=GA.out _ hp
    simp only at this
    omega)
   have hcell:∀i v,s.cells[i]?=some v→wr.cell? ⟨g1,off+j*3+i,none⟩=some v:=fun i v hv=>(CZ.out.cell (p:=⟨g1,off+j*3+i,none⟩) lg1).trans (hcs j s hs i v hv)
   have q0:=hcell 0 (.int .i64 s.at_) rfl
   have q1:=hcell 1 (.slice s.ao s.us.length s.cap) rfl
   have q2:=hcell 2 (.int .i64 s.rt) rfl
   rw [Nat.add_zero] at q0
   have um:=κ (show(ss.take (j+1)).foldl tJ M0=JC (zQ ((ss.take j).foldl tJ M0) (s.at_%65536) s.us) (s.at_%65536/256) s.rt from Js ss j s hs)
   clear hcell hcs hs
   have a0:=kS.out.a0
   have a1:=kS.out.a1
   have at0:0≤s.at_%65536∧s.at_%65536<65536:=by omega
   obtain⟨r,er,hT⟩:=EZ s.at_
   generalize hM:(ss.take j).foldl tJ M0=M at H1 um
   generalize ha:s.at_%65536=a at um at0 hT
   clear hM ha
   have ed:a.tdiv 256=a/256:=Int.tdiv_eq_ediv_of_nonneg at0.1
   go_upto_region 8 with fail
   have nu1:=(ah.refl (fun _=>False) wr).alloc (.cells #[.int .i64 s.at_, .slice s.ao s.us.length s.cap, .int .i64 s.rt] 120)
   have c0:=aW wr #[.int .i64 s.at_, .slice s.ao s.us.length s.cap, .int .i64 s.rt] 120 0
   have c1:=aW wr #[.int .i64 s.at_, .slice s.ao s.us.length s.cap, .int .i64 s.rt] 120 1
   have c2:=aW wr #[.int .i64 s.at_, .slice s.ao s.us.length s.cap, .int .i64 s.rt] 120 2
   simp only [List.getElem?_toArray,List.getElem?_cons_zero,List.getElem?_cons_succ] at c0 c1 c2
   have lB:wr.heap.size<(wr.alloc (.cells #[.int .i64 s.at_, .slice s.ao s.us.length s.cap, .int .i64 s.rt] 120)).heap.size:=by simp
   have bA:Below wr.heap.size wr (wr.alloc (.cells #[.int .i64 s.at_, .slice s.ao s.us.length s.cap, .int .i64 s.rt] 120)):=(Below.refl _ _).alloc (Nat.le_refl _) _
   generalize wr.alloc (.cells #[.int .i64 s.at_, .slice s.ao s.us.length s.cap, .int .i64 s.rt] 120)=wA at nu1 c0 c1 c2 lB bA⊢
   have ne1:=Wp.out
   have l1:=H1.hc.2.2.2.2.2.2
   have ZX:¬wr.heap.size=w.heap.size:=by omega
   have FA:=κ (H1.upto nu1 (fun _ _=>id))
   have FB:=κ (kS.out.bs.keep bA)
   have rg:=kS.out.rg
   have nwP:¬P.has wr.heap.size:=fun hp=>Nat.lt_irrefl _ (qN H1.rm hp)
   clear nu1 H1
   have nP:∀k,P.has k→¬k=w.heap.size:=fun k hk e=>Wp.out (e▸hk)
   have NP:=κ nP
   clear nP ne1
   rcases hT with⟨t0,t1⟩ | ⟨t0,t1,t2⟩
   ·rw [t1] at er t0
    clear t1
    go_wp2_with fail
    refine(zS _ M a s.us s.ao s.cap _ FA.out.hc FB.out).mono ?_
    rintro e w5 ⟨rfl,h5,u5⟩
    have d1:=(u5.cell (q:=⟨wr.heap.size,1,none⟩) lB ZX).trans c1
    have d2:=(u5.cell (q:=⟨wr.heap.size,2,none⟩) lB ZX).trans c2
    have l5:=Nat.lt_of_lt_of_le lB u5.size
    have R5:=FA.out.rm.upto u5 (fun k hk=>NP.out k hk)
    have B5:=Bs.upto FB.out u5 (fun g hg h0 hp=>hfb.out g hg h0 (.inl hp))
    go_wp2_with fail
    refine(xu P M a s.us s.ao s.cap _ R5 (by omega) B5 (fun g hg h0 hp=>hfb.out g hg h0 (.inr hp))).mono ?_
    rintro e w6 ⟨rfl,h6,u6⟩
    have Zl:ah P.has w5 w6:=u6.mono (fun _ _ hk=>hk)
    have d2':=(Zl.cell (q:=⟨wr.heap.size,2,none⟩) l5 nwP).trans d2
    have l6:=Nat.lt_of_lt_of_le l5 u6.size
    have h5':=h5.upto Zl (fun hp=>Wp.out hp)
    go_wp2_with fail
    refine(tV _ (zQ M a s.us) (a/256) s.rt _ h5').mono ?_
    rintro e w7 ⟨rfl,h7,u7⟩
    have d3:=(u7.cell (q:=⟨wr.heap.size,2,none⟩) l6 ZX).trans d2'
    have R7:=h6.upto u7 (fun k hk=>NP.out k hk)
    go_wp2_with fail
    refine(qL P (zQ M a s.us) (a/256) s.rt _ R7).mono ?_
    rintro e w8 ⟨rfl,h8,u8⟩
    have u8':ah P.has w7 w8:=u8.mono (fun _ _ hk=>hk)
    have h7':=h7.upto u8' (fun hp=>Wp.out hp)
    have UU:ah (PS w.heap.size P) wA w8:=(((u5.mono (fun k _ hk=> .inl hk)).trans (Zl.mono (fun k _ hk=> .inr hk))).trans (u7.mono (fun k _ hk=> .inl hk))).trans (u8'.mono (fun k _ hk=> .inr hk))
    go_wp2_with fail
    go_roundg (N-(j+1))
    case measure=>omega
    case rel=>
     refine⟨j+1,rfl,by omega,by simp, ?_, ?_⟩
     ·rw [um.out]
      exact⟨h7',h8,FA.out.ne,(FA.out.ok.zQ _ rg).JC _ _⟩
     ·exact CZ.out.trans ((bA.mono CZ.out.size).trans (UU.below (Nat.le_trans CZ.out.size bA.size) (fun k hk hp=>by have:=GA.out k hp;omega)))
   ·go_wp2_with fail
    refine(zS _ M a s.us s.ao s.cap _ FA.out.hc FB.out).mono ?_
    rintro e w5 ⟨rfl,h5,u5⟩
    have d1:=(u5.cell (q:=⟨wr.heap.size,1,none⟩) lB ZX).trans c1
    have d2:=(u5.cell (q:=⟨wr.heap.size,2,none⟩) lB ZX).trans c2
    have l5:=Nat.lt_of_lt_of_le lB u5.size
    have R5:=FA.out.rm.upto u5 (fun k hk=>NP.out k hk)
    have B5:=Bs.upto FB.out u5 (fun g hg h0 hp=>hfb.out g hg h0 (.inl hp))
    go_wp2_with fail
    refine(xu P M a s.us s.ao s.cap _ R5 (by omega) B5 (fun g hg h0 hp=>hfb.out g hg h0 (.inr hp))).mono ?_
    rintro e w6 ⟨rfl,h6,u6⟩
    have Zl:ah P.has w5 w6:=u6.mono (fun _ _ hk=>hk)
    have d2':=(Zl.cell (q:=⟨wr.heap.size,2,none⟩) l5 nwP).trans d2
    have l6:=Nat.lt_of_lt_of_le l5 u6.size
    have h5':=h5.upto Zl (fun hp=>Wp.out hp)
    go_wp2_with fail
    refine(tV _ (zQ M a s.us) (a/256) s.rt _ h5').mono ?_
    rintro e w7 ⟨rfl,h7,u7⟩
    have d3:=(u7.cell (q:=⟨wr.heap.size,2,none⟩) l6 ZX).trans d2'
    have R7:=h6.upto u7 (fun k hk=>NP.out k hk)
    go_wp2_with fail
    refine(qL P (zQ M a s.us) (a/256) s.rt _ R7).mono ?_
    rintro e w8 ⟨rfl,h8,u8⟩
    have u8':ah P.has w7 w8:=u8.mono (fun _ _ hk=>hk)
    have h7':=h7.upto u8' (fun hp=>Wp.out hp)
    have UU:ah (PS w.heap.size P) wA w8:=(((u5.mono (fun k _ hk=> .inl hk)).trans (Zl.mono (fun k _ hk=> .inr hk))).trans (u7.mono (fun k _ hk=> .inl hk))).trans (u8'.mono (fun k _ hk=> .inr hk))
    go_wp2_with fail
    go_roundg (N-(j+1))
    case measure=>omega
    case rel=>
     refine⟨j+1,rfl,by omega,by simp, ?_, ?_⟩
     ·rw [um.out]
      exact⟨h7',h8,FA.out.ne,(FA.out.ok.zQ _ rg).JC _ _⟩
     ·exact CZ.out.trans ((bA.mono CZ.out.size).trans (UU.below (Nat.le_trans CZ.out.size bA.size) (fun k hk hp=>by have:=GA.out k hp;omega)))
  ·obtain rfl:N=j:=by omega
   have e:(ss.take N).foldl tJ M0=rE ss:=by unfold rE;rw [←HN.out,List.take_length]
   rw [e] at H1
   clear e
   obtain⟨K,hK⟩:∃K,ks.length=K:=⟨_,rfl⟩
   have HKL:=κ hK
   rw [hK] at hc3⊢
   clear hK
   go_wp2_with fail
   obtain⟨wo,hwo⟩:∃wo:World,wo=wr:=⟨_,rfl⟩
   rw [←hwo] at H1 CZ⊢
   clear hwo
   go_loopg [68] K (fun g i wq=>∃ (j:Nat),g=K-j∧j≤K∧i= .int .i64 j∧Hid (vH w.heap.size P ((ks.take j).foldl (fun M k=>zJ M k true) (rE ss)) wq)∧Hid (Below w.heap.size w wq))
   case atStart=>exact⟨0,rfl,Nat.zero_le _,rfl,H1,CZ⟩
   case round=>
    clear H1 CZ
    obtain⟨j2,hg2,Zz,rfl,H1,CZ⟩:=hrel
    have HG2:=κ hg2
    clear hg2
    by_cases bV:j2<K
    ·have oV:(j2:Int) <(K:Int):=by omega
     have WI:(0:Int)≤(j2:Int):=by omega
     obtain⟨g1,off,rfl,lg1,hcs⟩:=HK.out.2.2 (by rw [HKL.out];omega)
     have q0:=(CZ.out.cell (p:=⟨g1,off+j2,none⟩) lg1).trans (hcs j2 (by rw [HKL.out];exact bV))
     have um:=κ (Jt (rE ss) ks j2 (by rw [HKL.out];exact bV))
     clear hcs
     generalize ks.getD j2 0=kv at q0 um
     generalize(ks.take j2).foldl (fun M k=>zJ M k true) (rE ss)=M at H1 um
     go_wp2_with fail
     refine(J5 _ M kv true _ H1.out.hc).mono ?_
     rintro e w5 ⟨rfl,h5,u5⟩
     have R5:=H1.out.rm.upto u5 (fun k hk e=>Wp.out (e▸hk))
     go_wp2_with fail
     refine(Hz P M kv true _ R5).mono ?_
     rintro e w6 ⟨rfl,h6,u6⟩
     have h5':=h5.upto u6 (fun hp=>Wp.out hp)
     go_wp2_with fail
     go_roundg (K-(j2+1))
     case measure=>have:=HG2.out;omega
     case rel=>
      refine⟨j2+1,rfl,by omega,by simp, ?_, ?_⟩
      ·rw [um.out]
       exact⟨h5',h6,H1.out.ne,H1.out.ok.zJ _ _⟩
      ·have UU:ah (PS w.heap.size P) _ w6:=(u5.mono (fun k _ hk=> .inl hk)).trans (u6.mono (fun k _ hk=> .inr hk))
       exact CZ.out.trans (UU.below CZ.out.size (fun k hk hp=>by have:=GA.out k hp;omega))
    ·obtain rfl:K=j2:=by omega
     go_wp2_with fail
     go_ret3
     have e:(ks.take K).foldl (fun M k=>zJ M k true) (rE ss)=rH (rE ss) ks:=by unfold rH;rw [←HKL.out,List.take_length]
     rw [e] at H1
     exact⟨_,P,rfl,H1.out,CZ.out,GA.out⟩
end Go.Proofs.Ytcjcmnnhmajocab.Ev
namespace Go.Proofs.Ytcjcmnnhmajocab.Gn
open Go.RowKit Kt Me
open Ev (rE tJ rH yx)
def Qt (M:MM):Prop:=(∀j,M.wd j=false)∧∀j,M.hi j=false
theorem Qt.jM {M:MM} (h:Qt M) (k:Nat):Qt (jM M k):=by
 unfold Me.jM
 rw [h.1 k,Bool.false_and,if_neg (by decide)]
 exact h
theorem Qt.pk:∀ (us:List Int) (M:MM) (k:Nat),Qt M→Qt (pk M k us)
 | [],M,k,h=>h
 | b::us,M,k,h=>Qt.pk us _ _ (Qt.jM (M:={M with jL:=aO M.jL k b}) h _)
theorem Qt.lay {M:MM} (h:Qt M) (s:yx):Qt (tJ M s):=by
 have h1:Qt (zQ M (s.at_%65536) s.us):=by
  unfold zQ
  split
  ·exact Qt.pk _ _ _ h
  ·exact h
 unfold tJ JC
 split
 ·unfold Vt
  have h2:=fun k=>Qt.jM h1 k
  repeat' split
  all_goals first | exact h1 | exact h2 _ | exact⟨(h2 _).1,(h2 _).2⟩ | exact⟨h1.1,h1.2⟩
 ·exact h1
theorem G6:∀ (ks:List Int) (M:MM),(∀j,M.hi j=false)→∀j,(rH M ks).hi j=false
 | [],M,h=>h
 | k::ks,M,h=>by
  refine G6 ks _ ?_
  intro j
  show(zJ M k true).hi j=false
  unfold zJ
  split
  ·unfold Jw
   repeat' split
   all_goals first | exact h j | (simp [aO,h]) | (simp [h])
  ·exact h j
theorem Vk (ss:List yx) (ks:List Int):nM (rH (rE ss) ks).hi=false:=by
 have h:∀ (ss:List yx) (M:MM),Qt M→Qt (ss.foldl tJ M):=fun ss=>by
  induction ss with
  | nil=>exact fun M h=>h
  | cons s ss ih=>exact fun M h=>ih _ (h.lay s)
 have h1:=G6 ks _ (h ss M0 ⟨fun _=>rfl,fun _=>rfl⟩).2
 have h2:∀n,kQ (rH (rE ss) ks).hi n=0:=fun n=>by
  induction n with
  | zero=>rfl
  | succ n ih=>
   rw [kQ,ih,if_neg]
   have:=h1 n
   unfold rE
   rw [this];decide
 unfold nM
 rw [h2];rfl
end Go.Proofs.Ytcjcmnnhmajocab.Gn
