import Derived.Lib.SmallJoins
import Derived.Test.YtcjcmnnhmajocabPmbm
import Derived.Test.YtcjcmnnhmajocabPmbw
set_option linter.unusedVariables false
set_option linter.unusedSimpArgs false
set_option maxRecDepth 100000
set_option maxHeartbeats 16000000
namespace Go.Proofs.Ytcjcmnnhmajocab.Kt
open Go
variable {P:Program}
theorem rJ (d:Nat) {e:TypeId} (hu:P.underlying e=some (.int .u32)) (hp:P.plainKey e=true) (xs:Array Value):∀ (is:List Nat) (w:World),(∀i∈is,∃z,xs[i]?=some (.int .u32 z))→
  (Op.eqItems (d+1) e 1 xs xs is).run P w= .ok true w
 | [],w,_=>by simp [Op.eqItems]
 | i::is,w,h=>by
  obtain⟨z,hz⟩:=h i (by simp)
  have p1:=run_part_plain w hp hz
  have p3:=run_equalIn_int (P:=P) w d e .u32 .u32 z z hu
  simp only [Op.eqItems,Nat.mul_one,Sem.run_bind,p1,p3,Result.andThen_ok]
  simpa using rJ d hu hp xs is w (fun j hj=>h j (by simp [hj]))
theorem y9 (d:Nat) {t e:TypeId} {n:Nat} {i:TypeInfo} (hu:P.underlying t=some (.array n e)) (he:P.underlying e=some (.int .u32)) (hp:P.plainKey e=true) (hi:P.info? e=some i) (hc:P.cellsOf e=1) (xs:Array Value)
  (h:∀i,i<n→∃z,xs[i]?=some (.int .u32 z)) (w:World):(Op.equalIn (d+2) t (.agg xs) (.agg xs)).run P w= .ok true w:=by
 rw [run_equalIn_array w (d+1) xs xs hu hi,hc]
 exact rJ d he hp xs _ w (fun j hj=>h j (by simpa using hj))
theorem PO {t e:TypeId} {n:Nat} {i:TypeInfo} (hu:P.underlying t=some (.array n e)) (he:P.underlying e=some (.int .u32)) (hp:P.plainKey e=true) (hi:P.info? e=some i) (hc:P.cellsOf e=1) (xs:Array Value)
  (h:∀i,i<n→∃z,xs[i]?=some (.int .u32 z)):∀ (w:World),(binOp .eql t (.agg xs) (.agg xs)).run P w= .ok (.bool true) w:=by
 intro w
 rw [run_eql_struct,y9 9998 hu he hp hi hc xs h w]
 rfl
end Go.Proofs.Ytcjcmnnhmajocab.Kt
namespace Go.Proofs.Ytcjcmnnhmajocab.Ir
open Go Kt
theorem E5 (c0 c1 c2 c3 c4 c5 c6 c7 c8 c9 pW oZ:Int):∀ (w:World),(binOp .eql 37 (.agg #[.int .u32 c0, .int .u32 c1, .int .u32 c2, .int .u32 c3, .int .u32 c4, .int .u32 c5, .int .u32 c6, .int .u32 c7, .int .u32 c8, .int .u32 c9, .int .u32 pW, .int .u32 oZ]) (.agg #[.int .u32 c0, .int .u32 c1, .int .u32 c2, .int .u32 c3, .int .u32 c4, .int .u32 c5, .int .u32 c6, .int .u32 c7, .int .u32 c8, .int .u32 c9, .int .u32 pW, .int .u32 oZ])).run Try.prog w= .ok (.bool true) w:=by
 refine PO Try.underlying37 Try.underlying22 (by kernel_rfl) (i:=(Try.prog.info? 22).get!) (by kernel_rfl) (by kernel_rfl) _ ?_
 intro i hi
 match i,hi with
 | 0,_ | 1,_ | 2,_ | 3,_ | 4,_ | 5,_ | 6,_ | 7,_ | 8,_ | 9,_ | 10,_ | 11,_=>exact⟨_,rfl⟩
 | n+12,h=>omega
end Go.Proofs.Ytcjcmnnhmajocab.Ir
namespace Go.Proofs.Ytcjcmnnhmajocab.Ic
open Go.RowKit Go.ChangeShapes Go.WideShapes Go.Joins Go.Deep
theorem oQ {p:Nat→cZ→Prop}:∀n,(∀i,i<n→∃o,p i o)→∃os:List cZ,os.length=n∧∀i o,os[i]?=some o→p i o
 | 0,_=>⟨[],rfl,fun i o h=>by simp at h⟩
 | n+1,h=>by
  obtain⟨os,hl,hp⟩:=oQ n (fun i hi=>h i (by omega))
  obtain⟨o,ho⟩:=h n (by omega)
  refine⟨os++ [o],by simp [hl],fun i x hx=> ?_⟩
  by_cases hi:i<n
  ·rw [List.getElem?_append_left (by omega)] at hx
   exact hp i x hx
  ·have TV:i<(os++ [o]).length:=(List.getElem?_eq_some_iff.1 hx).1
   obtain rfl:i=n:=by simp [hl] at TV;omega
   rw [List.getElem?_append_right (by omega),hl,Nat.sub_self] at hx
   obtain rfl:o=x:=by simpa using hx
   exact ho
structure PW (o:cZ):Prop where
 k:(Lit.int .i64 o.k).wf=true
 w:(Lit.int .i64 o.w).wf=true
 a:(Lit.int .i64 o.a).wf=true
 b:(Lit.int .i64 o.b).wf=true
 c:(Lit.int .i64 o.c).wf=true
 kn:(Lit.int .u32 o.kn).wf=true
 n:(Lit.int .i64 o.n).wf=true
section
variable {H:Type} {enc:TypeId×Value→H} {w:World} {base:Nat} {spare:Nat→Bool} {held:Bool}
theorem Ju {fuel:Nat} {a:Addr} {i:Nat} {x:DataW H×List MemPlace} {cs:List Value} (hc:w.cells? base (a.add (i*7)) 7=some cs) (h:DataW.trod enc Try.prog w base spare held fuel 31 cs=some x):
  ∃o:cZ,PW o∧∀ (j:Nat) v,o.cells[j]?=some v→w.cell? (a.add (i*7+j))=some v:=by
 obtain⟨ys,n',hn',hy,hlen,hyl,hf⟩:=DataW.trod_struct Try.underlying31 h
 obtain⟨_,je,Vm⟩:=World.cells?_some hc
 have s1:Try.prog.cellsOf 3=1:=by kernel_rfl
 have s2:Try.prog.cellsOf 22=1:=by kernel_rfl
 match cs,je,ys,hyl with
 | [c0,c1,c2,c3,c4,c5,c6],_, [y0,y1,y2,y3,y4,y5,y6],_=>
  have k0:DataW.trod enc Try.prog w base spare held n' 3 [c0]=some y0:=by simpa [s1,s2] using hf 0 _ rfl
  obtain⟨v0,e0,_,w0⟩:=DataW.trod_int Try.underlying3 k0
  simp only [List.cons.injEq,and_true] at e0
  subst e0
  have k1:DataW.trod enc Try.prog w base spare held n' 3 [c1]=some y1:=by simpa [s1,s2] using hf 1 _ rfl
  obtain⟨v1,e1,_,w1⟩:=DataW.trod_int Try.underlying3 k1
  simp only [List.cons.injEq,and_true] at e1
  subst e1
  have k2:DataW.trod enc Try.prog w base spare held n' 3 [c2]=some y2:=by simpa [s1,s2] using hf 2 _ rfl
  obtain⟨v2,e2,_,w2⟩:=DataW.trod_int Try.underlying3 k2
  simp only [List.cons.injEq,and_true] at e2
  subst e2
  have k3:DataW.trod enc Try.prog w base spare held n' 3 [c3]=some y3:=by simpa [s1,s2] using hf 3 _ rfl
  obtain⟨v3,e3,_,w3⟩:=DataW.trod_int Try.underlying3 k3
  simp only [List.cons.injEq,and_true] at e3
  subst e3
  have k4:DataW.trod enc Try.prog w base spare held n' 3 [c4]=some y4:=by simpa [s1,s2] using hf 4 _ rfl
  obtain⟨v4,e4,_,w4⟩:=DataW.trod_int Try.underlying3 k4
  simp only [List.cons.injEq,and_true] at e4
  subst e4
  have k5:DataW.trod enc Try.prog w base spare held n' 22 [c5]=some y5:=by simpa [s1,s2] using hf 5 _ rfl
  obtain⟨v5,e5,_,w5⟩:=DataW.trod_int Try.underlying22 k5
  simp only [List.cons.injEq,and_true] at e5
  subst e5
  have k6:DataW.trod enc Try.prog w base spare held n' 3 [c6]=some y6:=by simpa [s1,s2] using hf 6 _ rfl
  obtain⟨v6,e6,_,w6⟩:=DataW.trod_int Try.underlying3 k6
  simp only [List.cons.injEq,and_true] at e6
  subst e6
  refine⟨⟨v0,v1,v2,v3,v4,v5,v6⟩,⟨w0,w1,w2,w3,w4,w5,w6⟩,fun j v hj=> ?_⟩
  have hj7:j<7:=by
   have:=(Array.getElem?_eq_some_iff.1 hj).1
   simpa [cZ.cells] using this
  have:=Vm j hj7
  rw [Go.Deep.add_add] at this
  rw [this,←hj]
  simp [cZ.cells]
theorem C9 {r:Reach} {b0:Nat} {v:Value} {d:DataW H} {p:List MemPlace} (hv:Value.okWide Try.prog w r b0 25 v) (h:DataW.Trod enc Try.prog w 0 (fun _=>true) true 25 v d p) (lt:∀x∈p,x.block<w.heap.size)
  (uX:∀n∈d.weights Try.prog 25,n≤reachBytes):
  ∃ (pc aC bg:Int) (os:List cZ) (ao:Option Addr) (cap:Nat),v= .agg #[.int .u32 pc, .int .i64 aC, .int .i64 bg, .slice ao os.length cap]∧(Lit.int .u32 pc).wf=true∧(Lit.int .i64 aC).wf=true∧(Lit.int .i64 bg).wf=true∧
   (∀o∈os,PW o)∧rQ os ao cap w∧os.length*56≤140737488351232:=by
 obtain⟨v0,v1,v2,v3,y0,y1,y2,y3,n,rfl,rfl,rfl,t0,t1,t2,t3⟩:=open_agg4 Try.underlying25 (by kernel_rfl) (by kernel_rfl) hv h
 obtain⟨pc,e0,_,w0⟩:=DataW.trod_int Try.underlying22 t0
 obtain⟨aC,e1,_,w1⟩:=DataW.trod_int Try.underlying3 t1
 obtain⟨bg,e2,_,w2⟩:=DataW.trod_int Try.underlying3 t2
 simp only [List.cons.injEq,and_true] at e0 e1 e2
 subst e0 e1 e2
 have hC:Try.prog.cellsOf 31=7:=by kernel_rfl
 have hB:Try.prog.bytesOf 31=56:=by kernel_rfl
 rcases open_slice Try.underlying23 t3 with⟨e3,hx⟩ | ⟨a,len,cap,m,n',D,Pl,e3,_,hl,hm,Wq,hx,hi⟩
 ·simp only [List.cons.injEq,and_true] at e3
  subst e3
  exact⟨pc,aC,bg, [],none,0,rfl,w0,w1,w2,fun o ho=>(nomatch ho),⟨Nat.le_refl _,by unfold maxLen;omega,fun h=>absurd h (by simp)⟩,by simp⟩
 ·simp only [List.cons.injEq,and_true] at e3
  subst e3
  simp only [if_true] at Wq
  subst Wq
  obtain⟨os,hos,hp⟩:=oQ (p:=fun i o=>PW o∧∀ (j:Nat) v,o.cells[j]?=some v→w.cell? (a.add (i*7+j))=some v) len (fun i bV=>by
   obtain⟨cs',hc,ht⟩:=hi i (by omega)
   rw [hC] at hc
   exact Ju hc ht)
  subst hos
  refine⟨pc,aC,bg,os,some a,m,rfl,w0,w1,w2,fun o ho=> ?_,⟨hl,hm,fun h0=> ?_⟩, ?_⟩
  ·obtain⟨i,PZ⟩:=List.mem_iff_getElem?.1 ho
   exact(hp i o PZ).1
  ·obtain⟨b,off,spot⟩:=a
   obtain⟨o,ho⟩:∃o,os[0]?=some o:=⟨os[0],List.getElem?_eq_getElem h0⟩
   have wG:spot=none:=by simpa [Addr.add] using World.cell?_spot ((hp 0 o ho).2 0 _ rfl)
   subst wG
   have Zm:b<w.heap.size:=lt (.cell b off) (by
    rw [hx]
    simp only [List.mem_append]
    exact .inr (.inr (.inr (.inl (MemPlace.mem_row.2 ⟨0,by rw [hC];omega,by simp⟩)))))
   refine⟨b,off,rfl,Zm,fun i o ho j v hj=> ?_⟩
   rw [Nat.add_assoc,←Addr.add_lit]
   exact(hp i o ho).2 j v hj
  ·have:=uX (((List.range os.length).map D).length*56+((List.range (m-os.length)).map fun j=>D (os.length+j)).length*56) (by
    simp [DataW.weights,DataW.weightsEach,Try.underlying25,Try.underlying23,hx,hB]
    exact .inr (.inr (.inr (.inl (by omega)))))
   simp [reachBytes] at this
   omega
end
end Go.Proofs.Ytcjcmnnhmajocab.Ic
namespace Go.Proofs.Ytcjcmnnhmajocab.Ev
open Go.RowKit Go.ChangeShapes Go.WideShapes Go.Deep Me
theorem oQ {α:Type} {p:Nat→α→Prop}:∀n,(∀i,i<n→∃o,p i o)→∃os:List α,os.length=n∧∀i o,os[i]?=some o→p i o
 | 0,_=>⟨[],rfl,fun i o h=>by simp at h⟩
 | n+1,h=>by
  obtain⟨os,hl,hp⟩:=oQ n (fun i hi=>h i (by omega))
  obtain⟨o,ho⟩:=h n (by omega)
  refine⟨os++ [o],by simp [hl],fun i x hx=> ?_⟩
  by_cases hi:i<n
  ·rw [List.getElem?_append_left (by omega)] at hx
   exact hp i x hx
  ·have TV:i<(os++ [o]).length:=(List.getElem?_eq_some_iff.1 hx).1
   obtain rfl:i=n:=by simp [hl] at TV;omega
   rw [List.getElem?_append_right (by omega),hl,Nat.sub_self] at hx
   obtain rfl:o=x:=by simpa using hx
   exact ho
theorem Zn (zs:List Int) (h:∀n∈zs,(Lit.int .u8 n).wf=true) (j:Nat):0≤zs.getD j 0∧zs.getD j 0<256:=by
 rw [List.getD_eq_getElem?_getD]
 cases hz:zs[j]? with
 | none=>simp
 | some z=>exact Kt.aad (h z (List.mem_of_getElem? hz))
theorem Zo (zs:List Int) (n j:Nat) (h:j<n):(zs.take n).getD j 0=zs.getD j 0:=by
 rw [List.getD_eq_getElem?_getD,List.getD_eq_getElem?_getD,List.getElem?_take,if_pos h]
theorem PX:Try.prog.cellsOf 5=1:=by kernel_rfl
section
variable {H:Type} {enc:TypeId×Value→H} {w:World} {base:Nat} {held:Bool}
theorem Fb {fuel:Nat} {c:Value} {x:DataW H×List MemPlace} (h:DataW.trod enc Try.prog w base (fun _=>true) held fuel 74 [c]=some x):
  ∃ (us:List Int) (ao:Option Addr) (cap:Nat),c= .slice ao us.length cap∧Gu.Bs us ao cap w∧∀j,0≤us.getD j 0∧us.getD j 0<256:=by
 rcases open_ints Try.underlying74 Try.underlying5 PX h with⟨hcs,hx⟩ | ⟨a,len,cap,zs,hcs,_,hl,hm,hz,hx,hcell,hwz⟩
 ·simp only [List.cons.injEq,and_true] at hcs
  subst hcs
  exact⟨[],none,0,rfl,⟨Nat.le_refl _,by unfold maxLen;omega,fun h=>absurd h (by simp)⟩,by simp⟩
 ·simp only [List.cons.injEq,and_true] at hcs
  subst hcs
  simp only [if_true] at hz
  have hlen:(zs.take len).length=len:=by rw [List.length_take];omega
  refine⟨zs.take len,some a,cap,by rw [hlen],⟨by omega,hm,fun h=> ?_⟩,Zn _ (fun n hn=>hwz n (List.mem_of_mem_take hn))⟩
  rw [hlen] at h
  have BJ:=hcell 0 (by omega)
  obtain⟨b,off,spot⟩:=a
  have wG:spot=none:=by simpa [Addr.add] using World.cell?_spot BJ
  subst wG
  have Zm:b<w.heap.size:=World.block_lt_of_cell? w _ BJ
  refine⟨b,off,rfl,Zm,fun j hj=> ?_⟩
  rw [hlen] at hj
  rw [←Addr.add_lit,hcell j (by omega),Zo _ _ _ hj]
theorem Jv {fuel:Nat} {a:Addr} {i:Nat} {x:DataW H×List MemPlace} {cs:List Value} (hc:w.cells? base (a.add (i*3)) 3=some cs) (h:DataW.trod enc Try.prog w base (fun _=>true) held fuel 120 cs=some x):
  ∃s:yx,yA s w∧∀ (j:Nat) v,s.cells[j]?=some v→w.cell? (a.add (i*3+j))=some v:=by
 obtain⟨ys,n',hn',hy,hlen,hyl,hf⟩:=DataW.trod_struct Try.underlying120 h
 obtain⟨_,je,Vm⟩:=World.cells?_some hc
 have s1:Try.prog.cellsOf 3=1:=by kernel_rfl
 have s4:Try.prog.cellsOf 74=1:=by kernel_rfl
 match cs,je,ys,hyl with
 | [c0,c1,c2],_, [y0,y1,y2],_=>
  have k0:DataW.trod enc Try.prog w base (fun _=>true) held n' 3 [c0]=some y0:=by simpa [s1,s4] using hf 0 _ rfl
  obtain⟨v0,e0,_,w0⟩:=DataW.trod_int Try.underlying3 k0
  simp only [List.cons.injEq,and_true] at e0
  subst e0
  have k1:DataW.trod enc Try.prog w base (fun _=>true) held n' 74 [c1]=some y1:=by simpa [s1,s4] using hf 1 _ rfl
  obtain⟨us,ao,cap,e1,hB,hG⟩:=Fb k1
  subst e1
  have k2:DataW.trod enc Try.prog w base (fun _=>true) held n' 3 [c2]=some y2:=by simpa [s1,s4] using hf 2 _ rfl
  obtain⟨v2,e2,_,w2⟩:=DataW.trod_int Try.underlying3 k2
  simp only [List.cons.injEq,and_true] at e2
  subst e2
  have b0:=Kt.Wv w0
  refine⟨⟨v0,us,ao,cap,v2⟩,⟨b0.1,b0.2,hB,hG⟩,fun j v hj=> ?_⟩
  have hj3:j<3:=by
   have:=(Array.getElem?_eq_some_iff.1 hj).1
   simpa [yx.cells] using this
  have:=Vm j hj3
  rw [Go.Deep.add_add] at this
  rw [this,←hj]
  simp [yx.cells]
theorem Dc {fuel:Nat} {c:Value} {x:DataW H×List MemPlace} (h:DataW.trod enc Try.prog w base (fun _=>true) held fuel 38 [c]=some x):
  ∃ (ss:List yx) (ao:Option Addr) (cap:Nat),c= .slice ao ss.length cap∧EY ss ao cap w:=by
 have hC:Try.prog.cellsOf 120=3:=by kernel_rfl
 rcases open_slice Try.underlying38 h with⟨e3,hx⟩ | ⟨a,len,cap,m,n',D,Pl,e3,_,hl,hm,Wq,hx,hi⟩
 ·simp only [List.cons.injEq,and_true] at e3
  subst e3
  exact⟨[],none,0,rfl,⟨Nat.le_refl _,by unfold maxLen;omega,fun o ho=>(nomatch ho),fun h=>absurd h (by simp)⟩⟩
 ·simp only [List.cons.injEq,and_true] at e3
  subst e3
  simp only [if_true] at Wq
  subst Wq
  obtain⟨ss,hss,hp⟩:=oQ (p:=fun i s=>yA s w∧∀ (j:Nat) v,s.cells[j]?=some v→w.cell? (a.add (i*3+j))=some v) len (fun i bV=>by
   obtain⟨cs',hc,ht⟩:=hi i (by omega)
   rw [hC] at hc
   exact Jv hc ht)
  subst hss
  refine⟨ss,some a,m,rfl,⟨hl,hm,fun s hs=> ?_,fun h0=> ?_⟩⟩
  ·obtain⟨i,PZ⟩:=List.mem_iff_getElem?.1 hs
   exact(hp i s PZ).1
  ·obtain⟨b,off,spot⟩:=a
   obtain⟨s,hs⟩:∃s,ss[0]?=some s:=⟨ss[0],List.getElem?_eq_getElem h0⟩
   have BJ:=(hp 0 s hs).2 0 (.int .i64 s.at_) rfl
   have wG:spot=none:=by simpa [Addr.add] using World.cell?_spot BJ
   subst wG
   have Zm:b<w.heap.size:=World.block_lt_of_cell? w _ BJ
   refine⟨b,off,rfl,Zm,fun i s hs j v hj=> ?_⟩
   rw [Nat.add_assoc,←Addr.add_lit]
   exact(hp i s hs).2 j v hj
end
section
variable {H:Type} {enc:TypeId×Value→H} {w:World} {base:Nat} {held:Bool}
theorem G8 {fuel:Nat} {c:Value} {x:DataW H×List MemPlace} (h:DataW.trod enc Try.prog w base (fun _=>true) held fuel 39 [c]=some x):
  ∃ (ks:List Int) (ao:Option Addr) (cap:Nat),c= .slice ao ks.length cap∧Vj ks ao cap w:=by
 have hC:Try.prog.cellsOf 3=1:=by kernel_rfl
 rcases open_slice Try.underlying39 h with⟨e3,hx⟩ | ⟨a,len,cap,m,n',D,Pl,e3,_,hl,hm,Wq,hx,hi⟩
 ·simp only [List.cons.injEq,and_true] at e3
  subst e3
  exact⟨[],none,0,rfl,⟨Nat.le_refl _,by unfold maxLen;omega,fun h=>absurd h (by simp)⟩⟩
 ·simp only [List.cons.injEq,and_true] at e3
  subst e3
  simp only [if_true] at Wq
  subst Wq
  obtain⟨bs,hbs,hp⟩:=oQ (p:=fun i b=>w.cell? (a.add i)=some (.int .i64 b)) len (fun i bV=>by
   obtain⟨cs',hc,ht⟩:=hi i (by omega)
   rw [hC] at hc
   obtain⟨b,e,_⟩:=DataW.trod_int Try.underlying3 ht
   subst e
   obtain⟨_,je,Vm⟩:=World.cells?_some hc
   have:=Vm 0 (by omega)
   rw [Go.Deep.add_add,Nat.mul_one,Nat.add_zero] at this
   exact⟨b,this⟩)
  subst hbs
  refine⟨bs,some a,m,rfl,⟨hl,hm,fun h0=> ?_⟩⟩
  obtain⟨b,off,spot⟩:=a
  have BJ:=hp 0 _ (List.getElem?_eq_getElem h0)
  have wG:spot=none:=by simpa [Addr.add] using World.cell?_spot BJ
  subst wG
  have Zm:b<w.heap.size:=World.block_lt_of_cell? w _ BJ
  refine⟨b,off,rfl,Zm,fun j hj=> ?_⟩
  rw [←Addr.add_lit,hp j _ (List.getElem?_eq_getElem hj),List.getD_eq_getElem?_getD,List.getElem?_eq_getElem hj]
  rfl
end
open Kt Fl
def Zp (a0 a1 a2 a3 a4 a5 a6 a7 a8 a9 tZ uf:Int):Nat→Int
 | 0=>a0 | 1=>a1 | 2=>a2 | 3=>a3 | 4=>a4 | 5=>a5 | 6=>a6 | 7=>a7 | 8=>a8 | 9=>a9 | 10=>tZ | 11=>uf | _=>0
theorem JO {r:Reach} {W:World} {b0:Nat} {v:Value} (h:Value.okWide Try.prog W r b0 37 v):∃cx:Nat→Int,v= .agg (kY cx)∧oL cx:=by
 obtain⟨cs1,rfl,hn1,dZ⟩:=Kt.yB (n:=12) (ts:= [22,22,22,22,22,22,22,22,22,22,22,22]) (by kernel_rfl) (by kernel_rfl) (by kernel_rfl) h
 obtain⟨x0,x1,x2,x3,x4,x5,x6,x7,x8,x9,uO,x11,rfl⟩:=Kt.Wx hn1
 obtain⟨a0,rfl,w0⟩:=Kt.fM (k:= .u32) Try.underlying22 (dZ 0 _ 22 rfl rfl)
 obtain⟨a1,rfl,w1⟩:=Kt.fM (k:= .u32) Try.underlying22 (dZ 1 _ 22 rfl rfl)
 obtain⟨a2,rfl,w2⟩:=Kt.fM (k:= .u32) Try.underlying22 (dZ 2 _ 22 rfl rfl)
 obtain⟨a3,rfl,w3⟩:=Kt.fM (k:= .u32) Try.underlying22 (dZ 3 _ 22 rfl rfl)
 obtain⟨a4,rfl,w4⟩:=Kt.fM (k:= .u32) Try.underlying22 (dZ 4 _ 22 rfl rfl)
 obtain⟨a5,rfl,w5⟩:=Kt.fM (k:= .u32) Try.underlying22 (dZ 5 _ 22 rfl rfl)
 obtain⟨a6,rfl,w6⟩:=Kt.fM (k:= .u32) Try.underlying22 (dZ 6 _ 22 rfl rfl)
 obtain⟨a7,rfl,w7⟩:=Kt.fM (k:= .u32) Try.underlying22 (dZ 7 _ 22 rfl rfl)
 obtain⟨a8,rfl,w8⟩:=Kt.fM (k:= .u32) Try.underlying22 (dZ 8 _ 22 rfl rfl)
 obtain⟨a9,rfl,w9⟩:=Kt.fM (k:= .u32) Try.underlying22 (dZ 9 _ 22 rfl rfl)
 obtain⟨tZ,rfl,w10⟩:=Kt.fM (k:= .u32) Try.underlying22 (dZ 10 _ 22 rfl rfl)
 obtain⟨uf,rfl,w11⟩:=Kt.fM (k:= .u32) Try.underlying22 (dZ 11 _ 22 rfl rfl)
 refine⟨Zp a0 a1 a2 a3 a4 a5 a6 a7 a8 a9 tZ uf,rfl,fun j=> ?_⟩
 match j with
 | 0=>exact Kt.iM w0
 | 1=>exact Kt.iM w1
 | 2=>exact Kt.iM w2
 | 3=>exact Kt.iM w3
 | 4=>exact Kt.iM w4
 | 5=>exact Kt.iM w5
 | 6=>exact Kt.iM w6
 | 7=>exact Kt.iM w7
 | 8=>exact Kt.iM w8
 | 9=>exact Kt.iM w9
 | 10=>exact Kt.iM w10
 | 11=>exact Kt.iM w11
 | n+12=>exact⟨Int.le_refl _,(by decide:(0:Int) <4294967296)⟩
end Go.Proofs.Ytcjcmnnhmajocab.Ev
