/- Proved: LiftMeans returns true for every input and leaves all memory as it was. No condition. -/
import Derived.Test.YtcjcmnnhmajocabGreatRows
import Derived.ShutString
import Derived.Test.YtcjcmnnhmajocabGreatPmca
set_option linter.unusedVariables false
set_option linter.unusedSimpArgs false
set_option maxRecDepth 100000
set_option maxHeartbeats 16000000
namespace Go.Proofs.YtcjcmnnhmajocabGreat.liftMeans
open Go.ChangeShapes Go.WideShapes Go.ChangeAt Go.RowKit
theorem own:ownKnob Tryz.prog.godebug=none:=by kernel_rfl
theorem laidOut:laidOutB Tryz.prog=true:=by kernel_rfl
theorem lifted (os:Os) (started:os.Started) (H:Type) (enc:TypeId×Value→H):
  ReturnsInHanded {} Tryz.checked os 4 .any (Rows.liftMeansSpec.pre6 enc Tryz.prog Tryz.f4 Rows.liftMeansRow.domain false) (Rows.liftMeansSpec.post enc Tryz.prog Tryz.f4 false true false false):=by
 refine returnsInHanded_of_change (C:=Tryz.checked) own started (by kernel_rfl) Tryz.func4
  (ChangeSpec.witness6 (enc:=enc) (C:=Tryz.checked) false ⟨#[], #[.slice none 0 0, .int .u32 0, .int .i64 0, .agg #[.int .u32 0, .int .u32 0, .int .u32 0, .int .u32 0, .int .u32 0, .int .u32 0, .int .u32 0, .int .u32 0, .int .u32 0, .int .u32 0, .int .u32 0, .int .u32 0], .slice none 0 0], []⟩ 8 (by kernel_rfl) (by kernel_rfl) (by kernel_rfl) (by kernel_rfl)) ?_
 intro W base args ds gs before Uf hW hcnd _
 have hval:∀ (j:Nat) t v,Tryz.f4.params[j]?=some t→args[j]?=some v→Value.okWide Tryz.prog W .any base t v:=Uf
 have hW':=hW
 obtain⟨p,q,hA0,hV,rfl,hfz,hnd⟩:=hW
 have hA:DataW.TrodAll enc Tryz.prog W 0 (fun _=>true) true Tryz.f4.params.toList args.toList ds p:=hA0
 rw [Tryz.params4] at hA hval
 obtain⟨v0,vs0,d0,ds0,p0,q0,agi,rfl,rfl,h0,r0⟩:=trodAll_cons hA
 obtain⟨v1,vs1,d1,ds1,p1,q1,rfl,rfl,rfl,h1,r1⟩:=trodAll_cons r0
 obtain⟨v2,vs2,d2,ds2,p2,q2,rfl,rfl,rfl,h2,r2⟩:=trodAll_cons r1
 obtain⟨v3,vs3,d3,ds3,p3,q3,rfl,rfl,rfl,h3,r3⟩:=trodAll_cons r2
 obtain⟨v4,vs4,d4,ds4,p4,q4,rfl,rfl,rfl,h4,r4⟩:=trodAll_cons r3
 obtain⟨rfl,rfl,rfl⟩:=trodAll_nil r4
 obtain rfl:args= #[v0,v1,v2,v3,v4]:=by cases args;simp_all
 obtain⟨rfl,rfl⟩:=trodVars_none hV
 have k0:=h0
 have lt0:∀x∈p0,x.block<W.heap.size:=by obtain⟨m,hm⟩:=k0;exact DataW.trod_lt m _ _ _ hm
 have k1:=h1
 have lt1:∀x∈p1,x.block<W.heap.size:=by obtain⟨m,hm⟩:=k1;exact DataW.trod_lt m _ _ _ hm
 have k2:=h2
 have lt2:∀x∈p2,x.block<W.heap.size:=by obtain⟨m,hm⟩:=k2;exact DataW.trod_lt m _ _ _ hm
 have k3:=h3
 have lt3:∀x∈p3,x.block<W.heap.size:=by obtain⟨m,hm⟩:=k3;exact DataW.trod_lt m _ _ _ hm
 have k4:=h4
 have lt4:∀x∈p4,x.block<W.heap.size:=by obtain⟨m,hm⟩:=k4;exact DataW.trod_lt m _ _ _ hm
 obtain⟨a0,l0,c0,rfl⟩:=okWide_slice Tryz.underlying42 (hval 0 42 v0 rfl rfl)
 obtain⟨a1,rfl,w1⟩:∃n,v1= .int .u32 n∧(Lit.int .u32 n).wf=true:=Kt.xH Tryz.underlying29 (hval 1 29 v1 rfl rfl)
 obtain⟨a2,rfl,w2⟩:∃n,v2= .int .i64 n∧(Lit.int .i64 n).wf=true:=Kt.xH Tryz.underlying3 (hval 2 3 v2 rfl rfl)
 obtain⟨cx3,rfl,adX⟩:=Ev.Jw (hval 3 44 v3 rfl rfl)
 obtain⟨a4,l4,c4,rfl⟩:=okWide_slice Tryz.underlying45 (hval 4 45 v4 rfl rfl)
 clear hA0 Uf
 have g0:=h0
 obtain⟨agj,BN⟩:=g0
 obtain⟨ps0,ao0,aiD,e0,hS0⟩:=Ev.Cj BN
 simp only [Value.slice.injEq] at e0
 obtain⟨rfl,rfl,rfl⟩:=e0
 have g4:=h4
 obtain⟨agk,Zq⟩:=g4
 obtain⟨ps4,ao4,aiG,e4,hS4⟩:=Ev.Gq Zq
 simp only [Value.slice.injEq] at e4
 obtain⟨rfl,rfl,rfl⟩:=e4
 refine(Lf.vF ps0 _ _ a1 a2 cx3 ps4 _ _ W hS0 hS4 (Kt.ji w1).1 (Kt.ji w1).2 adX).mono fun e W' ⟨he,yh⟩=> ?_
 subst he
 exact⟨_,rfl,_,_,_, [],_, [],hW',trodAll_mk1 (shut_bool Tryz.underlying4 _),(trodAll_cons_mk (Below.trod laidOut (by kernel_rfl) (of_decide_eq_true (by kernel_rfl)) k0 yh lt0) (trodAll_cons_mk (Below.trod laidOut (by kernel_rfl) (of_decide_eq_true (by kernel_rfl)) k1 yh lt1) (trodAll_cons_mk (Below.trod laidOut (by kernel_rfl) (of_decide_eq_true (by kernel_rfl)) k2 yh lt2) (trodAll_cons_mk (Below.trod laidOut (by kernel_rfl) (of_decide_eq_true (by kernel_rfl)) k3 yh lt3) (trodAll_cons_mk (Below.trod laidOut (by kernel_rfl) (of_decide_eq_true (by kernel_rfl)) k4 yh lt4) trodAll_mk0))))),rfl,yh.frame _,fun h=>by cases h⟩
theorem over:Rows.liftMeansRow.holds Tryz.pinned (OpenSpec.ofChange Rows.liftMeansSpec):=
 OpenClaim.holds_of_wide 4 Tryz.f4 rfl rfl rfl rfl rfl rfl rfl ⟨rfl,rfl,rfl,rfl,rfl⟩ rfl rfl rfl rfl rfl (by kernel_rfl) Tryz.func4 (by kernel_rfl)
  (of_decide_eq_true (by kernel_rfl)) (by unfold Func.isWrapper;first | (rw [if_pos (by decide+kernel)];kernel_rfl) | (rw [if_neg (by decide+kernel)];exact⟨rfl,rfl⟩))
  (fun os started H enc _=>lifted os started H enc)
theorem proved:Rows.LiftMeansSaid:=over
#print axioms proved
end Go.Proofs.YtcjcmnnhmajocabGreat.liftMeans
