/- adl: GenMeans returns true for every input and leaves all memory as it was. No condition. -/
import Derived.Test.YtcjcmnnhmajocabRows
import Derived.Test.YtcjcmnnhmajocabPmby
set_option linter.unusedVariables false
set_option linter.unusedSimpArgs false
set_option maxRecDepth 100000
set_option maxHeartbeats 16000000
namespace Go.Proofs.Ytcjcmnnhmajocab.genMeans
open Go.ChangeShapes Go.WideShapes Go.ChangeAt Go.RowKit
theorem own:ownKnob Try.prog.godebug=none:=by kernel_rfl
theorem laidOut:laidOutB Try.prog=true:=by kernel_rfl
theorem lifted (os:Os) (started:os.Started) (H:Type) (enc:TypeId×Value→H):
  ReturnsInHanded {} Try.checked os 4 .any (Rows.genMeansSpec.pre6 enc Try.prog Try.f4 Rows.genMeansRow.domain false) (Rows.genMeansSpec.post enc Try.prog Try.f4 false true false false):=by
 refine returnsInHanded_of_change_sized (C:=Try.checked) own started (by kernel_rfl) Try.func4
  (ChangeSpec.witness6 (enc:=enc) (C:=Try.checked) false ⟨#[], #[.agg #[.int .u32 0, .int .i64 0, .int .i64 0, .slice none 0 0], .int .i64 0, .agg #[.int .u32 0, .int .u32 0, .int .u32 0, .int .u32 0, .int .u32 0, .int .u32 0, .int .u32 0, .int .u32 0, .int .u32 0, .int .u32 0, .int .u32 0, .int .u32 0], .slice none 0 0, .slice none 0 0], []⟩ 8 (by kernel_rfl) (by kernel_rfl) (by kernel_rfl) (by kernel_rfl)) ?_
 intro W base args ds gs before Vp hW _ Z5 _
 have uX:(DataW.weightsEach Try.prog (Try.f4.params.toList++Rows.genMeansSpec.plain.varTypes Try.prog) (ds++gs)).all (· ≤reachBytes)=true:=Z5
 clear Z5
 have hval:∀ (j:Nat) t v,Try.f4.params[j]?=some t→args[j]?=some v→Value.okWide Try.prog W .any base t v:=Vp
 have hW':=hW
 obtain⟨p,q,hA0,hV,rfl,hfz,hnd⟩:=hW
 have hA:DataW.TrodAll enc Try.prog W 0 (fun _=>true) true Try.f4.params.toList args.toList ds p:=hA0
 rw [Try.params4] at hA hval uX
 obtain⟨v0,vs0,d0,ds0,p0,q0,afG,rfl,rfl,h0,r0⟩:=trodAll_cons hA
 obtain⟨v1,vs1,d1,ds1,p1,q1,rfl,rfl,rfl,h1,r1⟩:=trodAll_cons r0
 obtain⟨v2,vs2,d2,ds2,p2,q2,rfl,rfl,rfl,h2,r2⟩:=trodAll_cons r1
 obtain⟨v3,vs3,d3,ds3,p3,q3,rfl,rfl,rfl,h3,r3⟩:=trodAll_cons r2
 obtain⟨v4,vs4,d4,ds4,p4,q4,rfl,rfl,rfl,h4,r4⟩:=trodAll_cons r3
 obtain⟨rfl,rfl,rfl⟩:=trodAll_nil r4
 obtain rfl:args= #[v0,v1,v2,v3,v4]:=by cases args;simp_all
 obtain⟨rfl,rfl⟩:=trodVars_none hV
 have k0:=h0
 have lt0:∀x∈p0,x.block<W.heap.size:=by obtain⟨m,hm⟩:=k0;exact DataW.trod_lt m _ _ _ hm
 have k1:=h1
 have lt1:∀x∈p1,x.block<W.heap.size:=by obtain⟨m,hm⟩:=k1;exact DataW.trod_lt m _ _ _ hm
 have k2:=h2
 have lt2:∀x∈p2,x.block<W.heap.size:=by obtain⟨m,hm⟩:=k2;exact DataW.trod_lt m _ _ _ hm
 have k3:=h3
 have lt3:∀x∈p3,x.block<W.heap.size:=by obtain⟨m,hm⟩:=k3;exact DataW.trod_lt m _ _ _ hm
 have k4:=h4
 have lt4:∀x∈p4,x.block<W.heap.size:=by obtain⟨m,hm⟩:=k4;exact DataW.trod_lt m _ _ _ hm
 have lW:∀n∈d0.weights Try.prog 25,n≤reachBytes:=fun n hn=>by
  have:=List.all_eq_true.1 uX n (DataW.weights_mem_each (j:=0) (t:=25) rfl rfl n hn)
  simpa using this
 obtain⟨pc0,adn,ado,os0,ao0,adp,rfl,bw0,bx0,by0,adq,Z7,acB⟩:=Ic.C9 (hval 0 25 v0 rfl rfl) h0 lt0 lW
 obtain⟨a1,rfl,w1⟩:∃n,v1= .int .i64 n∧(Lit.int .i64 n).wf=true:=Kt.G7 Try.underlying3 (hval 1 3 v1 rfl rfl)
 obtain⟨cx2,rfl,adr⟩:=Ev.JO (hval 2 37 v2 rfl rfl)
 obtain⟨a3,l3,c3,rfl⟩:=okWide_slice Try.underlying38 (hval 3 38 v3 rfl rfl)
 obtain⟨a4,l4,c4,rfl⟩:=okWide_slice Try.underlying39 (hval 4 39 v4 rfl rfl)
 clear hA0 Vp
 have g3:=h3
 obtain⟨afI,hf3⟩:=g3
 obtain⟨ps3,ao3,ahK,e3,nH⟩:=Ev.Dc hf3
 simp only [Value.slice.injEq] at e3
 obtain⟨rfl,rfl,rfl⟩:=e3
 have g4:=h4
 obtain⟨afK,hf4⟩:=g4
 obtain⟨ps4,ao4,ahN,e4,pK⟩:=Ev.G8 hf4
 simp only [Value.slice.injEq] at e4
 obtain⟨rfl,rfl,rfl⟩:=e4
 refine(Gn.Df os0 ao0 adp pc0 adn ado a1 cx2 ps3 _ _ ps4 _ _ W Z7 (fun o ho=>Kt.iM (adq o ho).kn) (Kt.iM bw0) adr nH pK).mono fun e W' ⟨he,Zr⟩=> ?_
 subst he
 exact⟨_,rfl,_,_,_, [],_, [],hW',trodAll_mk1 (shut_bool Try.underlying4 _),(trodAll_cons_mk (Below.trod laidOut (by kernel_rfl) (of_decide_eq_true (by kernel_rfl)) k0 Zr lt0) (trodAll_cons_mk (Below.trod laidOut (by kernel_rfl) (of_decide_eq_true (by kernel_rfl)) k1 Zr lt1) (trodAll_cons_mk (Below.trod laidOut (by kernel_rfl) (of_decide_eq_true (by kernel_rfl)) k2 Zr lt2) (trodAll_cons_mk (Below.trod laidOut (by kernel_rfl) (of_decide_eq_true (by kernel_rfl)) k3 Zr lt3) (trodAll_cons_mk (Below.trod laidOut (by kernel_rfl) (of_decide_eq_true (by kernel_rfl)) k4 Zr lt4) trodAll_mk0))))),rfl,Zr.frame _,fun h=>by cases h⟩
theorem over:Rows.genMeansRow.holds Try.pinned (OpenSpec.ofChange Rows.genMeansSpec):=
 OpenClaim.holds_of_wide 4 Try.f4 rfl rfl rfl rfl rfl rfl rfl ⟨rfl,rfl,rfl,rfl,rfl⟩ rfl rfl rfl rfl rfl (by kernel_rfl) Try.func4 (by kernel_rfl)
  (of_decide_eq_true (by kernel_rfl)) (by unfold Func.isWrapper;first | (rw [if_pos (by decide+kernel)];kernel_rfl) | (rw [if_neg (by decide+kernel)];exact⟨rfl,rfl⟩))
  (fun os started H enc _=>lifted os started H enc)
theorem proved:Rows.GenMeansSaid:=over
#print axioms proved
end Go.Proofs.Ytcjcmnnhmajocab.genMeans
