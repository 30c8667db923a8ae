import Derived.Test.YtcjcmnnhmajocabPmbs
set_option linter.unusedVariables false
set_option linter.unusedSimpArgs false
set_option maxRecDepth 100000
set_option maxHeartbeats 16000000
namespace Go.Proofs.Ytcjcmnnhmajocab.Hr
open Go.RowKit Kt Me Fl Ev Ho
def ab3:Value×Value×Value×Value:=(.slice none 0 0, .slice none 0 0, .slice none 0 0, .slice none 0 0)
theorem kN.new (w:World) (K:Hk) (at_:Int) (cx:Nat→Int) (t:TypeId):kN w.heap.size K (zC at_ cx) ab3 (w.alloc (.cells #[.slice K.ao K.us.length K.cap, .int .i64 at_, .int .u32 (cx 0), .int .u32 (cx 1), .int .u32 (cx 2), .int .u32 (cx 3), .int .u32 (cx 4), .int .u32 (cx 5), .int .u32 (cx 6), .int .u32 (cx 7), .int .u32 (cx 8), .int .u32 (cx 9), .int .u32 (cx 10), .int .u32 (cx 11), .pointer (some ⟨K.p,0,none⟩), .int .i64 K.left, .int .i64 0, .slice K.uM K.gJ.length K.pF, .slice none 0 0, .slice none 0 0, .slice none 0 0, .slice none 0 0, .int .i64 0, .bool false] t)):=by
 have b:=fun i=>aW w #[.slice K.ao K.us.length K.cap, .int .i64 at_, .int .u32 (cx 0), .int .u32 (cx 1), .int .u32 (cx 2), .int .u32 (cx 3), .int .u32 (cx 4), .int .u32 (cx 5), .int .u32 (cx 6), .int .u32 (cx 7), .int .u32 (cx 8), .int .u32 (cx 9), .int .u32 (cx 10), .int .u32 (cx 11), .pointer (some ⟨K.p,0,none⟩), .int .i64 K.left, .int .i64 0, .slice K.uM K.gJ.length K.pF, .slice none 0 0, .slice none 0 0, .slice none 0 0, .slice none 0 0, .int .i64 0, .bool false] t i
 refine⟨b 0,b 1,fun j hj=> ?_,b 14,b 15,b 16,b 17,b 18,b 19,b 20,b 21,b 22,b 23,fun j=>mg w _ _ j,by simp⟩
 refine(b (2+j)).trans ?_
 match j,hj with
 | 0,_ | 1,_ | 2,_ | 3,_ | 4,_ | 5,_ | 6,_ | 7,_ | 8,_ | 9,_ | 10,_ | 11,_=>rfl
 | n+12,h=>omega
theorem Jl (w:World) (K:Hk) (at_:Int) (cx:Nat→Int):let W:=((((w.alloc (.cells #[.int .u32 (cx 0), .int .u32 (cx 1), .int .u32 (cx 2), .int .u32 (cx 3), .int .u32 (cx 4), .int .u32 (cx 5), .int .u32 (cx 6), .int .u32 (cx 7), .int .u32 (cx 8), .int .u32 (cx 9), .int .u32 (cx 10), .int .u32 (cx 11)] 37)).alloc (.cells #[.int .u32 0, .int .u32 0, .int .u32 0, .int .u32 0, .int .u32 0, .int .u32 0, .int .u32 0, .int .u32 0, .int .u32 0, .int .u32 0, .int .u32 0, .int .u32 0] 37)).alloc (.cells #[.int .i64 0, .int .i64 0, .int .u32 0, .int .u32 0, .int .i64 0, .int .i64 0] 52)).alloc (.cells #[.slice K.ao K.us.length K.cap, .int .i64 at_, .int .u32 (cx 0), .int .u32 (cx 1), .int .u32 (cx 2), .int .u32 (cx 3), .int .u32 (cx 4), .int .u32 (cx 5), .int .u32 (cx 6), .int .u32 (cx 7), .int .u32 (cx 8), .int .u32 (cx 9), .int .u32 (cx 10), .int .u32 (cx 11), .pointer (some ⟨K.p,0,none⟩), .int .i64 K.left, .int .i64 0, .slice K.uM K.gJ.length K.pF, .slice none 0 0, .slice none 0 0, .slice none 0 0, .slice none 0 0, .int .i64 0, .bool false] 130));
  CB w.heap.size cx W∧CB (w.heap.size+1) (fun _=>0) W∧LB (w.heap.size+1+1) 0 0 0 0 0 0 W∧kN (w.heap.size+1+1+1) K (zC at_ cx) ab3 W∧ah (fun _=>False) w W:=by
 intro W
 have u0:=ah.refl (fun _=>False) w
 have c1:=CB.new w cx 37
 unfold kY at c1
 have u1:=(ah.refl (fun _=>False) (w.alloc (.cells #[.int .u32 (cx 0), .int .u32 (cx 1), .int .u32 (cx 2), .int .u32 (cx 3), .int .u32 (cx 4), .int .u32 (cx 5), .int .u32 (cx 6), .int .u32 (cx 7), .int .u32 (cx 8), .int .u32 (cx 9), .int .u32 (cx 10), .int .u32 (cx 11)] 37))).alloc (.cells #[.int .u32 0, .int .u32 0, .int .u32 0, .int .u32 0, .int .u32 0, .int .u32 0, .int .u32 0, .int .u32 0, .int .u32 0, .int .u32 0, .int .u32 0, .int .u32 0] 37)
 have c2:=CB.new (w.alloc (.cells #[.int .u32 (cx 0), .int .u32 (cx 1), .int .u32 (cx 2), .int .u32 (cx 3), .int .u32 (cx 4), .int .u32 (cx 5), .int .u32 (cx 6), .int .u32 (cx 7), .int .u32 (cx 8), .int .u32 (cx 9), .int .u32 (cx 10), .int .u32 (cx 11)] 37)) (fun _=>0) 37
 unfold kY at c2
 dsimp only at c2
 rw [show(w.alloc (.cells #[.int .u32 (cx 0), .int .u32 (cx 1), .int .u32 (cx 2), .int .u32 (cx 3), .int .u32 (cx 4), .int .u32 (cx 5), .int .u32 (cx 6), .int .u32 (cx 7), .int .u32 (cx 8), .int .u32 (cx 9), .int .u32 (cx 10), .int .u32 (cx 11)] 37)).heap.size=w.heap.size+1 by simp] at c2
 have l3:=LB.new ((w.alloc (.cells #[.int .u32 (cx 0), .int .u32 (cx 1), .int .u32 (cx 2), .int .u32 (cx 3), .int .u32 (cx 4), .int .u32 (cx 5), .int .u32 (cx 6), .int .u32 (cx 7), .int .u32 (cx 8), .int .u32 (cx 9), .int .u32 (cx 10), .int .u32 (cx 11)] 37)).alloc (.cells #[.int .u32 0, .int .u32 0, .int .u32 0, .int .u32 0, .int .u32 0, .int .u32 0, .int .u32 0, .int .u32 0, .int .u32 0, .int .u32 0, .int .u32 0, .int .u32 0] 37)) 0 0 0 0 0 0 52
 rw [show((w.alloc (.cells #[.int .u32 (cx 0), .int .u32 (cx 1), .int .u32 (cx 2), .int .u32 (cx 3), .int .u32 (cx 4), .int .u32 (cx 5), .int .u32 (cx 6), .int .u32 (cx 7), .int .u32 (cx 8), .int .u32 (cx 9), .int .u32 (cx 10), .int .u32 (cx 11)] 37)).alloc (.cells #[.int .u32 0, .int .u32 0, .int .u32 0, .int .u32 0, .int .u32 0, .int .u32 0, .int .u32 0, .int .u32 0, .int .u32 0, .int .u32 0, .int .u32 0, .int .u32 0] 37)).heap.size=w.heap.size+1+1 by simp] at l3
 have m4:=kN.new (((w.alloc (.cells #[.int .u32 (cx 0), .int .u32 (cx 1), .int .u32 (cx 2), .int .u32 (cx 3), .int .u32 (cx 4), .int .u32 (cx 5), .int .u32 (cx 6), .int .u32 (cx 7), .int .u32 (cx 8), .int .u32 (cx 9), .int .u32 (cx 10), .int .u32 (cx 11)] 37)).alloc (.cells #[.int .u32 0, .int .u32 0, .int .u32 0, .int .u32 0, .int .u32 0, .int .u32 0, .int .u32 0, .int .u32 0, .int .u32 0, .int .u32 0, .int .u32 0, .int .u32 0] 37)).alloc (.cells #[.int .i64 0, .int .i64 0, .int .u32 0, .int .u32 0, .int .i64 0, .int .i64 0] 52)) K at_ cx 130
 rw [show(((w.alloc (.cells #[.int .u32 (cx 0), .int .u32 (cx 1), .int .u32 (cx 2), .int .u32 (cx 3), .int .u32 (cx 4), .int .u32 (cx 5), .int .u32 (cx 6), .int .u32 (cx 7), .int .u32 (cx 8), .int .u32 (cx 9), .int .u32 (cx 10), .int .u32 (cx 11)] 37)).alloc (.cells #[.int .u32 0, .int .u32 0, .int .u32 0, .int .u32 0, .int .u32 0, .int .u32 0, .int .u32 0, .int .u32 0, .int .u32 0, .int .u32 0, .int .u32 0, .int .u32 0] 37)).alloc (.cells #[.int .i64 0, .int .i64 0, .int .u32 0, .int .u32 0, .int .i64 0, .int .i64 0] 52)).heap.size=w.heap.size+1+1+1 by simp] at m4
 have u2:=(ah.refl (fun _=>False) ((w.alloc (.cells #[.int .u32 (cx 0), .int .u32 (cx 1), .int .u32 (cx 2), .int .u32 (cx 3), .int .u32 (cx 4), .int .u32 (cx 5), .int .u32 (cx 6), .int .u32 (cx 7), .int .u32 (cx 8), .int .u32 (cx 9), .int .u32 (cx 10), .int .u32 (cx 11)] 37)).alloc (.cells #[.int .u32 0, .int .u32 0, .int .u32 0, .int .u32 0, .int .u32 0, .int .u32 0, .int .u32 0, .int .u32 0, .int .u32 0, .int .u32 0, .int .u32 0, .int .u32 0] 37))).alloc (.cells #[.int .i64 0, .int .i64 0, .int .u32 0, .int .u32 0, .int .i64 0, .int .i64 0] 52)
 have u3:=(ah.refl (fun _=>False) (((w.alloc (.cells #[.int .u32 (cx 0), .int .u32 (cx 1), .int .u32 (cx 2), .int .u32 (cx 3), .int .u32 (cx 4), .int .u32 (cx 5), .int .u32 (cx 6), .int .u32 (cx 7), .int .u32 (cx 8), .int .u32 (cx 9), .int .u32 (cx 10), .int .u32 (cx 11)] 37)).alloc (.cells #[.int .u32 0, .int .u32 0, .int .u32 0, .int .u32 0, .int .u32 0, .int .u32 0, .int .u32 0, .int .u32 0, .int .u32 0, .int .u32 0, .int .u32 0, .int .u32 0] 37)).alloc (.cells #[.int .i64 0, .int .i64 0, .int .u32 0, .int .u32 0, .int .i64 0, .int .i64 0] 52))).alloc (.cells #[.slice K.ao K.us.length K.cap, .int .i64 at_, .int .u32 (cx 0), .int .u32 (cx 1), .int .u32 (cx 2), .int .u32 (cx 3), .int .u32 (cx 4), .int .u32 (cx 5), .int .u32 (cx 6), .int .u32 (cx 7), .int .u32 (cx 8), .int .u32 (cx 9), .int .u32 (cx 10), .int .u32 (cx 11), .pointer (some ⟨K.p,0,none⟩), .int .i64 K.left, .int .i64 0, .slice K.uM K.gJ.length K.pF, .slice none 0 0, .slice none 0 0, .slice none 0 0, .slice none 0 0, .int .i64 0, .bool false] 130)
 exact⟨((c1.upto u1 id).upto u2 id).upto u3 id,(c2.upto u2 id).upto u3 id,l3.upto u3 id,m4,(((u0.alloc _).alloc _).alloc _).alloc _⟩
theorem LB.afa {h:Nat} {k sk sx pc n at_:Int} {W:World} (a:LB h k sk sx pc n at_ W) (x:Int):LB h k sk sx pc n x (W.setCell ⟨h,5,none⟩ (.int .i64 x)):=
 ⟨(off (by omega)).trans a.c0,(off (by omega)).trans a.c1,(off (by omega)).trans a.c2,(off (by omega)).trans a.c3,(off (by omega)).trans a.c4,World.cell?_setCell_same _ _ _ a.c5,fun j=>by simpa using a.z j,by simpa using a.l⟩
structure BP (w:World) (K:Hk) (B:B4) (P:RP) (s:Rm) (M:MM) (W:World):Prop where
 a:RR (w.heap.size+1+1+1) K s B W
 m:RM P M W
 c:CB (w.heap.size+1) (fun _=>0) W
 l:LB (w.heap.size+1+1) 0 0 0 0 0 0 W
 u:ah P.has w W
 hb:∀i,B.has (w.heap.size+1+1+1) i→(w.heap.size+1+1+1)≤i
 hp:∀i,P.has i→i<w.heap.size
section
variable {w W W':World} {K:Hk} {B B':B4} {P:RP} {s s':Rm} {M M':MM}
theorem BP.quiet (a:BP w K B P s M W) (u:ah (fun _=>False) W W'):BP w K B P s M W':=
 ⟨a.a.quiet u,a.m.upto u (fun _ _=>id),a.c.upto u id,a.l.upto u id,a.u.trans (u.mono fun _ _ h=>h.elim),a.hb,a.hp⟩
theorem BP.drew (a:BP w K B P s M W):BP w K B P s M W.drew:=a.quiet (ah.refl _ W).drew
theorem BP.al (a:BP w K B P s M W) (o:Obj):BP w K B P s M (W.alloc o):=a.quiet ((ah.refl _ W).alloc o)
theorem BP.go (a:BP w K B P s M W) (r:RR (w.heap.size+1+1+1) K s' B' W') (m:RM P M' W') (u:ah (fun i=>B.has (w.heap.size+1+1+1) i∨P.has i) W W') (hb:∀i,B'.has (w.heap.size+1+1+1) i→B.has (w.heap.size+1+1+1) i∨W.heap.size≤i):BP w K B' P s' M' W':=by
 have h1:¬ (B.has (w.heap.size+1+1+1) (w.heap.size+1)∨P.has (w.heap.size+1)):=fun e=>e.elim (fun e=>by have:=a.hb _ e;omega) (fun e=>by have:=a.hp _ e;omega)
 have h2:¬ (B.has (w.heap.size+1+1+1) (w.heap.size+1+1)∨P.has (w.heap.size+1+1)):=fun e=>e.elim (fun e=>by have:=a.hb _ e;omega) (fun e=>by have:=a.hp _ e;omega)
 have hl:=a.a.x.l
 refine⟨r,m,a.c.upto u h1,a.l.upto u h2, ?_,fun i hi=>(hb i hi).elim (a.hb i) (fun e=>by omega),a.hp⟩
 exact((a.u.mono (T:=fun i=>P.has i∨(w.heap.size+1+1+1)≤i) fun _ _ e=> .inl e).trans (u.mono (T:=fun i=>P.has i∨(w.heap.size+1+1+1)≤i) fun i _ e=>e.elim (fun e=> .inr (a.hb i e)) .inl)).mono fun i hi e=>e.elim id fun e=>by omega
theorem BP.box (a:BP w K B P s M W) {g:Nat} (u:ah (fun i=>i=g) W W') (hg:(w.heap.size+1+1+1) <g) (hn:¬B.has (w.heap.size+1+1+1) g):BP w K B P s M W':=
 ⟨a.a.upto u (fun i hi e=>hn (e▸hi)),a.m.upto u (fun i hi e=>by have:=a.hp i hi;omega),a.c.upto u (by omega),a.l.upto u (by omega),(a.u.mono (T:=fun i=>P.has i∨(w.heap.size+1+1+1) <i) fun _ _ e=> .inl e).trans (u.mono (T:=fun i=>P.has i∨(w.heap.size+1+1+1) <i) fun i _ e=> .inr (by omega)) |>.mono fun i hi e=>e.elim id fun e=>by omega,a.hb,a.hp⟩
end
theorem ab4 (K:Hk) (x:Cd) (t:jw):∀l,(iE K x t).1=some l→l.k≠0:=by
 have F:∀ (c:Bool) (l0 l:Lf),l0.k≠0→CQ c l0=some l→l.k≠0:=fun c l0 l h e=>by
  unfold CQ at e
  split at e
  ·cases e;exact h
  ·exact nomatch e
 intro l
 unfold iE
 generalize x.a.toNat=ra
 generalize x.b.toNat=rb
 generalize x.c.toNat=rc
 generalize x.d.toNat=rd
 generalize x.n.toNat=rn
 unfold oP
 by_cases c0:x.op=1
 ·rw [if_pos c0]
  intro e
  have e':jI K t.M t.s x=some l:=e
  unfold jI at e'
  split at e'
  ·cases e';dsimp only;decide
  split at e'
  ·cases e';dsimp only;decide
  split at e'
  ·cases e';dsimp only;decide
  ·exact nomatch e'
 rw [if_neg c0]
 by_cases c1:x.op=10
 ·rw [if_pos c1]
  exact F _ _ _ (by dsimp only;decide)
 rw [if_neg c1]
 by_cases c2:x.op=11
 ·rw [if_pos c2]
  exact F _ _ _ (by dsimp only;decide)
 rw [if_neg c2]
 by_cases c3:x.op=96
 ·rw [if_pos c3]
  exact fun e=>nomatch e
 rw [if_neg c3]
 by_cases c4:x.op=14
 ·rw [if_pos c4]
  intro e;cases e;dsimp only;decide
 rw [if_neg c4]
 by_cases c5:x.op=15
 ·rw [if_pos c5]
  exact fun e=>nomatch e
 rw [if_neg c5]
 by_cases c6:x.op=12
 ·rw [if_pos c6]
  intro e;cases e;dsimp only;decide
 rw [if_neg c6]
 by_cases c7:x.op=13
 ·rw [if_pos c7]
  exact F _ _ _ (by dsimp only;decide)
 rw [if_neg c7]
 by_cases c8:x.op=4
 ·rw [if_pos c8]
  intro e
  have e':wU K t.s ra x.n=some l:=e
  unfold wU at e'
  split at e'
  ·exact nomatch e'
  ·cases e';dsimp only;decide
 rw [if_neg c8]
 by_cases c9:x.op=2
 ·rw [if_pos c9]
  exact fun e=>nomatch e
 rw [if_neg c9]
 by_cases pW:x.op=3
 ·rw [if_pos pW]
  exact fun e=>nomatch e
 rw [if_neg pW]
 by_cases oZ:x.op=6
 ·rw [if_pos oZ]
  exact fun e=>nomatch e
 rw [if_neg oZ]
 by_cases Ce:x.op=7
 ·rw [if_pos Ce]
  exact fun e=>nomatch e
 rw [if_neg Ce]
 by_cases Ci:x.op=8
 ·rw [if_pos Ci]
  exact fun e=>nomatch e
 rw [if_neg Ci]
 by_cases P9:x.op=9
 ·rw [if_pos P9]
  exact fun e=>nomatch e
 rw [if_neg P9]
 by_cases Qa:x.op=97
 ·rw [if_pos Qa]
  exact fun e=>nomatch e
 rw [if_neg Qa]
 by_cases Qb:x.op=5
 ·rw [if_pos Qb]
  exact fun e=>nomatch e
 rw [if_neg Qb]
 by_cases V5:x.op<32
 ·rw [if_pos V5]
  exact fun e=>nomatch e
 rw [if_neg V5]
 by_cases V6:x.op<39
 ·rw [if_pos V6]
  exact fun e=>nomatch e
 rw [if_neg V6]
 by_cases V7:x.op<61
 ·rw [if_pos V7]
  exact fun e=>nomatch e
 rw [if_neg V7]
 by_cases V8:x.op<80
 ·rw [if_pos V8]
  exact fun e=>nomatch e
 rw [if_neg V8]
 by_cases Qc:x.op<85
 ·rw [if_pos Qc]
  exact F _ _ _ (by dsimp only;decide)
 rw [if_neg Qc]
 exact F _ _ _ (by dsimp only;decide)
theorem Pj (K:Hk) (P:RP) (at_:Int) (cx:Nat→Int) (M:MM) (G:Nat) (RV:VY) (w:World) (ZT:Sl K.us K.ao K.cap w) (pG:Tb K.gJ K.uM K.pF w) (hm:RM P M w) (hK:K.p=P.q) (hus:vY K.us) (hl:K.us.length≤1048576) (vW:K.gJ.length≤1048576) (hC:∀j,0≤cx j∧cx j<4294967296) (hM:iC M)
  (hw:∀g,K.ao=some g→0<K.us.length→¬P.has g.block) (ht:∀g,K.uM=some g→0<K.gJ.length→¬P.has g.block) (hG:G≤1152921504606846976) (qB:OM K at_ cx M G=some RV):
  Calls Try.prog 17 #[.slice K.ao K.us.length K.cap, .int .i64 at_, .agg #[.int .u32 (cx 0), .int .u32 (cx 1), .int .u32 (cx 2), .int .u32 (cx 3), .int .u32 (cx 4), .int .u32 (cx 5), .int .u32 (cx 6), .int .u32 (cx 7), .int .u32 (cx 8), .int .u32 (cx 9), .int .u32 (cx 10), .int .u32 (cx 11)], .pointer (some ⟨K.p,0,none⟩), .int .i64 K.left, .slice K.uM K.gJ.length K.pF] w fun e w'=>e= .returned (.tuple #[.agg (kY RV.c), .agg #[.int .i64 RV.l.k, .int .i64 RV.l.sk, .int .u32 RV.l.sx, .int .u32 RV.l.pc, .int .i64 RV.l.n, .int .i64 RV.at_]])∧RM P RV.M w'∧ah P.has w w':=by
 have wM:∀i,P.has i→i<w.heap.size:=fun i hi=>qN hm hi
 have WB:=κ (show∀g,K.ao=some g→0<K.us.length→g.block<w.heap.size∧¬P.has g.block from fun g hg h0=>⟨by obtain⟨b,off,e,hb,_⟩:=ZT.2.2 h0;rw [hg] at e;cases e;exact hb,hw g hg h0⟩)
 have y7:=κ (show∀g,K.uM=some g→0<K.gJ.length→g.block<w.heap.size∧¬P.has g.block from fun g hg h0=>⟨by obtain⟨b,off,e,hb,_⟩:=pG.2.2 h0;rw [hg] at e;cases e;exact hb,ht g hg h0⟩)
 have CV:=κ (fun W (u:ah P.has w W)=>Sl.upto ZT u hw)
 have TBW:=κ (fun W (u:ah P.has w W)=>Tb.upto pG u ht)
 have HM:=κ hm
 have HPL:=κ wM
 have HK:=κ hK
 have US:=κ hus
 have TK:=κ (show TR (zC at_ cx) from⟨hC,fun _=>zz,fun _=>zz⟩)
 have HMO:=κ hM
 have HRU:=κ qB
 have HGG:=κ hG
 have HL:=κ hl
 have HTL:=κ vW
 have NW:=Jl w K at_ cx
 dsimp only at NW
 clear ZT pG hm hus hC hM hw ht qB hG hl vW hK wM
 go_enter Try.func17,Try.ntmps17
 go_upto_region 2 with fail
 generalize((((w.alloc (.cells #[.int .u32 (cx 0), .int .u32 (cx 1), .int .u32 (cx 2), .int .u32 (cx 3), .int .u32 (cx 4), .int .u32 (cx 5), .int .u32 (cx 6), .int .u32 (cx 7), .int .u32 (cx 8), .int .u32 (cx 9), .int .u32 (cx 10), .int .u32 (cx 11)] 37)).alloc (.cells #[.int .u32 0, .int .u32 0, .int .u32 0, .int .u32 0, .int .u32 0, .int .u32 0, .int .u32 0, .int .u32 0, .int .u32 0, .int .u32 0, .int .u32 0, .int .u32 0] 37)).alloc (.cells #[.int .i64 0, .int .i64 0, .int .u32 0, .int .u32 0, .int .i64 0, .int .i64 0] 52)).alloc (.cells #[.slice K.ao K.us.length K.cap, .int .i64 at_, .int .u32 (cx 0), .int .u32 (cx 1), .int .u32 (cx 2), .int .u32 (cx 3), .int .u32 (cx 4), .int .u32 (cx 5), .int .u32 (cx 6), .int .u32 (cx 7), .int .u32 (cx 8), .int .u32 (cx 9), .int .u32 (cx 10), .int .u32 (cx 11), .pointer (some ⟨K.p,0,none⟩), .int .i64 K.left, .int .i64 0, .slice K.uM K.gJ.length K.pF, .slice none 0 0, .slice none 0 0, .slice none 0 0, .slice none 0 0, .int .i64 0, .bool false] 130))=W1 at NW⊢
 obtain⟨c0,cr,lr,mr,u0⟩:=NW
 have lm:=mr.l
 have CL:=κ (BL W1 mr)
 have hW1:(w.heap.size+1+1+1) <W1.heap.size:=mr.l
 go_upto_region 3 with(go_at_call 65;(with_reducible refine CL.out.mono ?_);rintro e w0 ⟨rfl,B,aB,hB,uB⟩)
 have hb:∀i,B.has (w.heap.size+1+1+1) i→(w.heap.size+1+1+1)≤i:=fun i hi=>(hB i hi).elim (fun e=>by omega) (fun e=>by omega)
 have KQ:=κ (show BP w K B P (zC at_ cx) M w0 from⟨aB,(HM.out.upto u0 (fun _ _=>id)).upto uB (fun i hi e=>by have:=HPL.out i hi;omega),cr.upto uB (by omega),lr.upto uB (by omega),(u0.mono (T:=fun i=>P.has i∨i=(w.heap.size+1+1+1)) fun _ _ h=>h.elim).trans (uB.mono (T:=fun i=>P.has i∨i=(w.heap.size+1+1+1)) fun _ _ e=> .inr e) |>.mono fun i hi e=>e.elim id (fun e=>by omega),hb,HPL.out⟩)
 have C0:=κ (c0.upto uB (by omega))
 clear c0 cr lr mr u0 CL aB hB uB hb lm hW1
 have lc:=KQ.out.a.x.l
 have EN:=κ (ou at_ w0 KQ.out.a.x (CV.out _ KQ.out.u) US.out)
 obtain⟨b,hb⟩:∃b,zk K.us at_=b:=⟨_,rfl⟩
 rw [hb] at EN
 have HB:=κ hb
 clear hb
 cases b
 ·go_upto_region 4 with(go_at_call 66;(with_reducible refine EN.out.mono ?_);rintro e w1 ⟨rfl,b1⟩)
  have KQ:=κ (KQ.out.quiet (ah.aG b1))
  have C0:=κ (C0.out.upto (ah.aG (S:=fun _=>False) b1) id)
  clear b1 lc
  have RE:=κ (show some (VY.mk cx M ⟨5,0,0,0,0⟩ at_)=some RV from by have h:=HRU.out;unfold OM at h;rw [HB.out,if_neg (by simp)] at h;exact h)
  have RE:=κ (Option.some.inj RE.out)
  obtain⟨a0,a1,a2,a3,a4,a5,a6,a7,a8,a9,tZ,uf⟩:=C0.out.all
  have la:=C0.out.l
  obtain⟨r0,r1,r2,r3,r4,r5,r6,r7,r8,r9,Jm,Jo⟩:=KQ.out.c.all
  have rz:=KQ.out.c.z
  obtain⟨y0,y1,y2,y3,y4,y5⟩:=KQ.out.l.all
  have vz:=KQ.out.l.z
  have lr:=KQ.out.c.l
  have ly:=KQ.out.l.l
  go_wp2_with fail
  clear r0 r1 r2 r3 r4 r5 r6 r7 r8 r9 Jm Jo rz y0 y1 y2 y3 y4 y5 vz lr ly
  clear a0 a1 a2 a3 a4 a5 a6 a7 a8 a9 tZ uf la
  have wM:=KQ.out.hp
  have c8:=KQ.out.c.put cx
  have v8:=eU (S:=fun i=>i=(w.heap.size+1)) (h:=(w.heap.size+1)) (ah.refl _ w1) (.inl rfl) cx
  have l8:=KQ.out.l.upto v8 (by omega)
  have m8:=KQ.out.m.upto v8 (fun i hi e=>by have:=wM i hi;omega)
  have u8:=eU (h:=(w.heap.size+1)) KQ.out.u (.inr (Nat.le_succ _)) cx
  rw [vZ] at c8 v8 l8 m8 u8⊢
  generalize ZQ _ _ _=W8 at c8 v8 l8 m8 u8⊢
  have v9:=EI (w.heap.size+1+1) W8 (5) (0) (0) (0) (0) (at_)
  have l9:=l8.put (5) (0) (0) (0) (0) (at_)
  have c9:=c8.upto v9 (by omega)
  have m9:=m8.upto v9 (fun i hi e=>by have:=wM i hi;omega)
  have u9:=up6 (h:=(w.heap.size+1+1)) u8 (.inr (Nat.le_trans (Nat.le_succ _) (Nat.le_succ _))) (5) (0) (0) (0) (0) (at_)
  rw [dX]
  generalize p6 _ _ _ _ _ _ _ _=W9 at c9 v9 l9 m9 u9⊢
  clear v8 v9 c8 l8 m8 u8 wM
  obtain⟨g0,g1,g2,g3,g4,g5,g6,g7,g8,g9,Gz,BM⟩:=c9.all
  obtain⟨o0,o1,o2,o3,o4,o5⟩:=l9.all
  exact bodyPost_ret (v:= .tuple #[.agg (kY cx), .agg #[.int .i64 (5), .int .i64 (0), .int .u32 (0), .int .u32 (0), .int .i64 (0), .int .i64 (at_)]]) (by simp [kY,results,Try.results17,go_sem,g0,g1,g2,g3,g4,g5,g6,g7,g8,g9,Gz,BM,o0,o1,o2,o3,o4,o5]) rfl ⟨by rw [←RE.out],by rw [←RE.out];exact m9,u9⟩
 ·go_wp2_with (go_at_call 66;(with_reducible refine EN.out.mono ?_);rintro e w1 ⟨rfl,b1⟩)
  have KQ:=κ (KQ.out.quiet (ah.aG b1))
  have C0:=κ (C0.out.upto (ah.aG (S:=fun _=>False) b1) id)
  clear b1
  have RE:=κ (show ru K G ⟨zC at_ cx,M⟩=some RV from by have h:=HRU.out;unfold OM at h;rw [HB.out,if_pos rfl] at h;exact h)
  clear HRU C0 EN lc
  go_loopg [] G (fun g wr=>∃ (t:jw) (B:B4),Hid (ru K g t=some RV)∧Hid (BP w K B P t.s t.M wr)∧Hid (TR t.s)∧Hid (iC t.M)∧Hid (0≤t.s.fC∧t.s.fC+g≤G))
  case atStart=>exact⟨⟨zC at_ cx,M⟩,B,RE.out,KQ.out,TK.out,HMO.out,⟨Int.le_refl _,by show(0:Int)+_≤_;omega⟩⟩
  case round=>
   obtain⟨t,B,RN,KQ,T,MK,BD⟩:=hrel
   obtain⟨⟨x,m,z⟩,hr⟩:∃r,jE K.us t.s.at_=r:=⟨_,rfl⟩
   have DC:=fun W hW=>Au K.us K.ao K.cap t.s.at_ W hW US.out
   rw [FM,hr] at DC
   unfold X6 Cd.L at DC
   dsimp only at DC
   have DC:=κ DC
   have Y9:=κ hr
   have a1:wr.cell? ⟨w.heap.size+1+1+1,1,none⟩=some (.int .i64 t.s.at_):=KQ.out.a.x.at_
   have la:=KQ.out.a.x.l
   clear hr
   go_upto_region 6 with(go_at_call 53;(with_reducible refine(DC.out _ (CV.out _ KQ.out.u)).mono ?_);rintro e w2 ⟨rfl,b2⟩)
   have k4:=(KQ.out.quiet (ah.aG b2)).al (.cells #[.int .i64 x.op, .int .i64 x.d, .int .i64 x.a, .int .i64 x.b, .int .i64 x.c, .int .i64 x.n, .int .u32 x.k, .int .u32 x.x] 108)
   have xx:=XB.new w2 x 108
   have hD:(w.heap.size+1+1+1) <w2.heap.size:=(KQ.out.quiet (ah.aG b2)).a.x.l
   have I5:¬B.has (w.heap.size+1+1+1) w2.heap.size:=fun e=>Nat.lt_irrefl _ ((KQ.out.quiet (ah.aG b2)).a.lt _ e)
   clear a1 la b2
   generalize w2.alloc (.cells #[.int .i64 x.op, .int .i64 x.d, .int .i64 x.a, .int .i64 x.b, .int .i64 x.c, .int .i64 x.n, .int .u32 x.k, .int .u32 x.x] 108)=w4 at k4 xx⊢
   generalize w2.heap.size=gd at xx hD I5⊢
   have K4:=κ k4
   have XX:=κ xx
   clear k4 xx KQ DC
   have b1:w4.cell? ⟨w.heap.size+1+1+1,1,none⟩=some (.int .i64 t.s.at_):=K4.out.a.x.at_
   have la:=K4.out.a.x.l
   by_cases hz:z=0
   ·subst hz
    have DK:=RQ K.us US.out t.s.at_ (by rw [Y9.out])
    rw [Y9.out] at DK
    obtain⟨hx,k0,m1,m3,kl⟩:=DK
    dsimp only at hx m1 m3 kl
    have hlen:=HL.out
    have mX:(maxLen:Nat)=9223372036854775807:=rfl
    obtain⟨⟨l,d⟩,hd⟩:∃r,iE K x ({t with s:={t.s with at_:=t.s.at_+m}}:jw)=r:=⟨_,rfl⟩
    have HD:=κ hd
    have TD:=trR K x ({t with s:={t.s with at_:=t.s.at_+m}}:jw) ⟨T.out.c,T.out.r,T.out.v⟩ MK.out hx
    have RD:=Ut K x ({t with s:={t.s with at_:=t.s.at_+m}}:jw)
    have LK:=ab4 K x ({t with s:={t.s with at_:=t.s.at_+m}}:jw)
    rw [hd] at TD RD LK
    have TD:=κ TD
    have LK:=κ LK
    replace RD:Hid (d.s.fC=t.s.fC):=RD
    have HX:=κ hx
    have z1:=K4.out.a.x.z 1
    clear hd hx
    go_upto_region 10 with fail
    have uz:=(ah.refl (fun i=>i=(w.heap.size+1+1+1)) w4).setCell (q:=⟨w.heap.size+1+1+1,1,none⟩) (.inl rfl) (.int .i64 (t.s.at_+m))
    have k5:=K4.out.go (K4.out.a.setAt (t.s.at_+m)) (K4.out.m.upto uz (fun i hi e=>by have:=K4.out.hp i hi;omega)) (uz.mono (T:=fun i=>B.has (w.heap.size+1+1+1) i∨P.has i) fun _ _ e=> .inl (.inl e)) (fun _=> .inl)
    have xx:=XX.out.upto uz (by omega)
    clear b1 la z1 k0 m1 m3 kl hlen mX
    generalize w4.setCell ⟨w.heap.size+1+1+1,1,none⟩ (.int .i64 (t.s.at_+m))=w5 at k5 xx uz⊢
    clear uz
    have K5:=κ k5
    have l5h:=k5.a.x.l
    have ST:=Jk x w5 k5.a k5.m HK.out (fun i hi=>by have:=k5.hp i hi;omega) (fun i hi e=>by have:=k5.hp i hi;have:=k5.hb i e;omega) HX.out MK.out T.out.c T.out.r (CV.out _ k5.u) US.out (fun g hg h0 e=>by rcases e with e | e;exact(by have:=WB.out g hg h0;have:=k5.hb _ e;omega);exact(WB.out g hg h0).2 e) (TBW.out _ k5.u) (fun g hg h0 e=>by rcases e with e | e;exact(by have:=y7.out g hg h0;have:=k5.hb _ e;omega);exact(y7.out g hg h0).2 e) HTL.out
    unfold sZ at ST
    rw [show iE K x ⟨{t.s with at_:=t.s.at_+m},t.M⟩=(l,d) from HD.out] at ST
    dsimp only at ST
    have ST:=κ ST
    have x0:=xx.c0
    have x1:=xx.c1
    have x2:=xx.c2
    have x3:=xx.c3
    have x4:=xx.c4
    have x5:=xx.c5
    have x6:=xx.c6
    have x7:=xx.c7
    have lx:=xx.l
    clear xx k5 K4 XX
    rcases l with _ | l
    ·unfold yt at ST
     dsimp only at ST
     go_upto_region 11 with(go_at_call 67;(with_reducible refine ST.out.mono ?_);rintro e w6 ⟨B',rfl,a6,m6,hB6,u6⟩)
     have k6:=K5.out.go a6 m6 u6 hB6
     have lb:=LB.new w6 0 0 0 0 0 0 52
     have k7:=k6.al (.cells #[.int .i64 0, .int .i64 0, .int .u32 0, .int .u32 0, .int .i64 0, .int .i64 0] 52)
     have lq:(w.heap.size+1+1+1) <w6.heap.size:=k6.a.x.l
     have hnB:¬B'.has (w.heap.size+1+1+1) w6.heap.size:=fun e=>Nat.lt_irrefl _ (k6.a.lt _ e)
     clear a6 m6 hB6 u6 k6 x0 x1 x2 x3 x4 x5 x6 x7 lx l5h
     generalize w6.alloc (.cells #[.int .i64 0, .int .i64 0, .int .u32 0, .int .u32 0, .int .i64 0, .int .i64 0] 52)=w7 at lb k7⊢
     generalize w6.heap.size=gl at lb lq hnB⊢
     have K7:=κ k7
     have Wi:=κ lb
     clear k7 lb
     obtain⟨kU,gZ⟩:∃b,d.s.stuck=b:=⟨_,rfl⟩
     have wW:w7.cell? ⟨w.heap.size+1+1+1,23,none⟩=some (.bool d.s.stuck):=K7.out.a.x.st
     rw [gZ] at wW
     have DJ:=κ gZ
     clear gZ
     have k0:=Wi.out.c0
     have lk:=Wi.out.l
     cases kU
     ·obtain⟨g',Ue,RN'⟩:=OL ((lS Y9.out HD.out).2.2 DJ.out rfl) RN.out
      have RN:=κ RN'
      have HG':=κ Ue
      clear RN' Ue
      have er:IntKind.i64.wrap (d.s.fC+1)=d.s.fC+1:=IntWalk.i64_in _ (by have bd1:=BD.out;have hG1:=HGG.out;have rd1:d.s.fC=t.s.fC:=RD;omega)
      have cr:w7.cell? ⟨w.heap.size+1+1+1,22,none⟩=some (.int .i64 d.s.fC):=K7.out.a.x.fC
      have cz:=K7.out.a.x.z 22
      have la:=K7.out.a.x.l
      go_wp2_with fail
      have uk:=(ah.refl (fun i=>B'.has (w.heap.size+1+1+1) i∨P.has i) w7).setCell (q:=⟨w.heap.size+1+1+1,22,none⟩) (.inl (.inl (.inl rfl))) (.int .i64 (d.s.fC+1))
      have k8:=K7.out.go (K7.out.a.yU (d.s.fC+1)) (K7.out.m.upto ((ah.refl (fun i=>i=(w.heap.size+1+1+1)) w7).setCell (q:=⟨w.heap.size+1+1+1,22,none⟩) (.inl rfl) (.int .i64 (d.s.fC+1))) (fun i hi e=>by have:=K7.out.hp i hi;omega)) uk (fun _=> .inl)
      clear uk cr cz la wW er k0 lk
      generalize w7.setCell ⟨w.heap.size+1+1+1,22,none⟩ (.int .i64 (d.s.fC+1))=w8 at k8⊢
      go_roundg g'
      case measure=>exact HG'.out▸Nat.lt_succ_self _
      case rel=>exact⟨⟨{d.s with fC:=d.s.fC+1},d.M⟩,B',RN.out,k8,⟨TD.out.1.c,TD.out.1.r,TD.out.1.v⟩,TD.out.2,⟨by have bd1:=BD.out;have rd1:d.s.fC=t.s.fC:=RD;show(0:Int)≤d.s.fC+1;omega,by have bd1:=BD.out;have rd1:d.s.fC=t.s.fC:=RD;have:=HG'.out;show d.s.fC+1+(g':Int)≤G;omega⟩⟩
     ·have SP:=oq gk ((lS Y9.out HD.out).1 DJ.out)
      have RE:=κ (Option.some.inj (SP.symm.trans RN.out))
      clear SP
      have a0:w7.cell? ⟨w.heap.size+1+1+1,2,none⟩=some (.int .u32 (d.s.c 0)):=K7.out.a.x.c 0 (by omega)
      have a1:w7.cell? ⟨w.heap.size+1+1+1,3,none⟩=some (.int .u32 (d.s.c 1)):=K7.out.a.x.c 1 (by omega)
      have a2:w7.cell? ⟨w.heap.size+1+1+1,4,none⟩=some (.int .u32 (d.s.c 2)):=K7.out.a.x.c 2 (by omega)
      have a3:w7.cell? ⟨w.heap.size+1+1+1,5,none⟩=some (.int .u32 (d.s.c 3)):=K7.out.a.x.c 3 (by omega)
      have a4:w7.cell? ⟨w.heap.size+1+1+1,6,none⟩=some (.int .u32 (d.s.c 4)):=K7.out.a.x.c 4 (by omega)
      have a5:w7.cell? ⟨w.heap.size+1+1+1,7,none⟩=some (.int .u32 (d.s.c 5)):=K7.out.a.x.c 5 (by omega)
      have a6:w7.cell? ⟨w.heap.size+1+1+1,8,none⟩=some (.int .u32 (d.s.c 6)):=K7.out.a.x.c 6 (by omega)
      have a7:w7.cell? ⟨w.heap.size+1+1+1,9,none⟩=some (.int .u32 (d.s.c 7)):=K7.out.a.x.c 7 (by omega)
      have a8:w7.cell? ⟨w.heap.size+1+1+1,10,none⟩=some (.int .u32 (d.s.c 8)):=K7.out.a.x.c 8 (by omega)
      have a9:w7.cell? ⟨w.heap.size+1+1+1,11,none⟩=some (.int .u32 (d.s.c 9)):=K7.out.a.x.c 9 (by omega)
      have tZ:w7.cell? ⟨w.heap.size+1+1+1,12,none⟩=some (.int .u32 (d.s.c 10)):=K7.out.a.x.c 10 (by omega)
      have uf:w7.cell? ⟨w.heap.size+1+1+1,13,none⟩=some (.int .u32 (d.s.c 11)):=K7.out.a.x.c 11 (by omega)
      have la:=K7.out.a.x.l
      go_upto_region 12 with fail
      obtain⟨r0,r1,r2,r3,r4,r5,r6,r7,r8,r9,Jm,Jo⟩:=K7.out.c.all
      have rz:=K7.out.c.z
      obtain⟨y0,y1,y2,y3,y4,y5⟩:=K7.out.l.all
      have vz:=K7.out.l.z
      have lr:=K7.out.c.l
      have ly:=K7.out.l.l
      go_wp2_with fail
      clear r0 r1 r2 r3 r4 r5 r6 r7 r8 r9 Jm Jo rz y0 y1 y2 y3 y4 y5 vz lr ly
      clear a0 a1 a2 a3 a4 a5 a6 a7 a8 a9 tZ uf la
      clear wW k0 lk
      have wM:=K7.out.hp
      have c8:=K7.out.c.put d.s.c
      have v8:=eU (S:=fun i=>i=(w.heap.size+1)) (h:=(w.heap.size+1)) (ah.refl _ w7) (.inl rfl) d.s.c
      have l8:=K7.out.l.upto v8 (by omega)
      have m8:=K7.out.m.upto v8 (fun i hi e=>by have:=wM i hi;omega)
      have u8:=eU (h:=(w.heap.size+1)) K7.out.u (.inr (Nat.le_succ _)) d.s.c
      rw [vZ] at c8 v8 l8 m8 u8⊢
      generalize ZQ _ _ _=W8 at c8 v8 l8 m8 u8⊢
      have v9:=EI (w.heap.size+1+1) W8 (5) (0) (0) (0) (0) (t.s.at_)
      have l9:=l8.put (5) (0) (0) (0) (0) (t.s.at_)
      have c9:=c8.upto v9 (by omega)
      have m9:=m8.upto v9 (fun i hi e=>by have:=wM i hi;omega)
      have u9:=up6 (h:=(w.heap.size+1+1)) u8 (.inr (Nat.le_trans (Nat.le_succ _) (Nat.le_succ _))) (5) (0) (0) (0) (0) (t.s.at_)
      rw [dX]
      generalize p6 _ _ _ _ _ _ _ _=W9 at c9 v9 l9 m9 u9⊢
      clear v8 v9 c8 l8 m8 u8 wM
      obtain⟨g0,g1,g2,g3,g4,g5,g6,g7,g8,g9,Gz,BM⟩:=c9.all
      obtain⟨o0,o1,o2,o3,o4,o5⟩:=l9.all
      exact bodyPost_ret (v:= .tuple #[.agg (kY d.s.c), .agg #[.int .i64 (5), .int .i64 (0), .int .u32 (0), .int .u32 (0), .int .i64 (0), .int .i64 (t.s.at_)]]) (by simp [kY,results,Try.results17,go_sem,g0,g1,g2,g3,g4,g5,g6,g7,g8,g9,Gz,BM,o0,o1,o2,o3,o4,o5]) rfl ⟨by rw [←RE.out],by rw [←RE.out];exact m9,u9⟩
    ·unfold yt at ST
     dsimp only at ST
     go_upto_region 11 with(go_at_call 67;(with_reducible refine ST.out.mono ?_);rintro e w6 ⟨B',rfl,a6,m6,hB6,u6⟩)
     have k6:=K5.out.go a6 m6 u6 hB6
     have lb:=LB.new w6 l.k l.sk l.sx l.pc l.n 0 52
     have k7:=k6.al (.cells #[.int .i64 l.k, .int .i64 l.sk, .int .u32 l.sx, .int .u32 l.pc, .int .i64 l.n, .int .i64 0] 52)
     have lq:(w.heap.size+1+1+1) <w6.heap.size:=k6.a.x.l
     have hnB:¬B'.has (w.heap.size+1+1+1) w6.heap.size:=fun e=>Nat.lt_irrefl _ (k6.a.lt _ e)
     clear a6 m6 hB6 u6 k6 x0 x1 x2 x3 x4 x5 x6 x7 lx l5h
     generalize w6.alloc (.cells #[.int .i64 l.k, .int .i64 l.sk, .int .u32 l.sx, .int .u32 l.pc, .int .i64 l.n, .int .i64 0] 52)=w7 at lb k7⊢
     generalize w6.heap.size=gl at lb lq hnB⊢
     have K7:=κ k7
     have Wi:=κ lb
     clear k7 lb
     obtain⟨kU,gZ⟩:∃b,d.s.stuck=b:=⟨_,rfl⟩
     have wW:w7.cell? ⟨w.heap.size+1+1+1,23,none⟩=some (.bool d.s.stuck):=K7.out.a.x.st
     rw [gZ] at wW
     have DJ:=κ gZ
     clear gZ
     have k0:=Wi.out.c0
     have lk:=Wi.out.l
     cases kU
     ·have SP:=oq gk ((lS Y9.out HD.out).2.1 DJ.out l rfl)
      have RE:=κ (Option.some.inj (SP.symm.trans RN.out))
      clear SP
      have e1:(l.k !=0)=true:=by simp [LK.out l rfl]
      have k5:=Wi.out.c5
      have kz5:=Wi.out.z 5
      go_upto_region 15 with fail
      clear k5 kz5 k0 lk wW
      have uk:=(ah.refl (fun i=>i=gl) w7).setCell (q:=⟨gl,5,none⟩) (.inl rfl) (.int .i64 t.s.at_)
      have lb8:=Wi.out.afa t.s.at_
      have k8:=K7.out.box uk lq hnB
      generalize w7.setCell ⟨gl,5,none⟩ (.int .i64 t.s.at_)=w8 at uk lb8 k8⊢
      clear uk
      have K8:=κ k8
      have Za:=κ lb8
      clear k8 lb8
      have a0:w8.cell? ⟨w.heap.size+1+1+1,2,none⟩=some (.int .u32 (d.s.c 0)):=K8.out.a.x.c 0 (by omega)
      have a1:w8.cell? ⟨w.heap.size+1+1+1,3,none⟩=some (.int .u32 (d.s.c 1)):=K8.out.a.x.c 1 (by omega)
      have a2:w8.cell? ⟨w.heap.size+1+1+1,4,none⟩=some (.int .u32 (d.s.c 2)):=K8.out.a.x.c 2 (by omega)
      have a3:w8.cell? ⟨w.heap.size+1+1+1,5,none⟩=some (.int .u32 (d.s.c 3)):=K8.out.a.x.c 3 (by omega)
      have a4:w8.cell? ⟨w.heap.size+1+1+1,6,none⟩=some (.int .u32 (d.s.c 4)):=K8.out.a.x.c 4 (by omega)
      have a5:w8.cell? ⟨w.heap.size+1+1+1,7,none⟩=some (.int .u32 (d.s.c 5)):=K8.out.a.x.c 5 (by omega)
      have a6:w8.cell? ⟨w.heap.size+1+1+1,8,none⟩=some (.int .u32 (d.s.c 6)):=K8.out.a.x.c 6 (by omega)
      have a7:w8.cell? ⟨w.heap.size+1+1+1,9,none⟩=some (.int .u32 (d.s.c 7)):=K8.out.a.x.c 7 (by omega)
      have a8:w8.cell? ⟨w.heap.size+1+1+1,10,none⟩=some (.int .u32 (d.s.c 8)):=K8.out.a.x.c 8 (by omega)
      have a9:w8.cell? ⟨w.heap.size+1+1+1,11,none⟩=some (.int .u32 (d.s.c 9)):=K8.out.a.x.c 9 (by omega)
      have tZ:w8.cell? ⟨w.heap.size+1+1+1,12,none⟩=some (.int .u32 (d.s.c 10)):=K8.out.a.x.c 10 (by omega)
      have uf:w8.cell? ⟨w.heap.size+1+1+1,13,none⟩=some (.int .u32 (d.s.c 11)):=K8.out.a.x.c 11 (by omega)
      have la:=K8.out.a.x.l
      have k0:=Za.out.c0
      have k1:=Za.out.c1
      have k2:=Za.out.c2
      have k3:=Za.out.c3
      have k4:=Za.out.c4
      have k5:=Za.out.c5
      have kl:=Za.out.l
      obtain⟨r0,r1,r2,r3,r4,r5,r6,r7,r8,r9,Jm,Jo⟩:=K8.out.c.all
      have rz:=K8.out.c.z
      obtain⟨y0,y1,y2,y3,y4,y5⟩:=K8.out.l.all
      have vz:=K8.out.l.z
      have lr:=K8.out.c.l
      have ly:=K8.out.l.l
      go_region
      clear r0 r1 r2 r3 r4 r5 r6 r7 r8 r9 Jm Jo rz y0 y1 y2 y3 y4 y5 vz lr ly
      clear a0 a1 a2 a3 a4 a5 a6 a7 a8 a9 tZ uf la
      clear k0 k1 k2 k3 k4 k5 kl
      have wM:=K8.out.hp
      have c8:=K8.out.c.put d.s.c
      have v8:=eU (S:=fun i=>i=(w.heap.size+1)) (h:=(w.heap.size+1)) (ah.refl _ w8) (.inl rfl) d.s.c
      have l8:=K8.out.l.upto v8 (by omega)
      have m8:=K8.out.m.upto v8 (fun i hi e=>by have:=wM i hi;omega)
      have u8:=eU (h:=(w.heap.size+1)) K8.out.u (.inr (Nat.le_succ _)) d.s.c
      rw [vZ] at c8 v8 l8 m8 u8⊢
      generalize ZQ _ _ _=W8 at c8 v8 l8 m8 u8⊢
      have v9:=EI (w.heap.size+1+1) W8 (l.k) (l.sk) (l.sx) (l.pc) (l.n) (t.s.at_)
      have l9:=l8.put (l.k) (l.sk) (l.sx) (l.pc) (l.n) (t.s.at_)
      have c9:=c8.upto v9 (by omega)
      have m9:=m8.upto v9 (fun i hi e=>by have:=wM i hi;omega)
      have u9:=up6 (h:=(w.heap.size+1+1)) u8 (.inr (Nat.le_trans (Nat.le_succ _) (Nat.le_succ _))) (l.k) (l.sk) (l.sx) (l.pc) (l.n) (t.s.at_)
      rw [dX]
      generalize p6 _ _ _ _ _ _ _ _=W9 at c9 v9 l9 m9 u9⊢
      clear v8 v9 c8 l8 m8 u8 wM
      have c9:=c9.drew
      have l9:=l9.drew
      have m9:=m9.upto (ah.refl (fun _=>False) _).drew (fun _ _=>id)
      have u9:=u9.drew
      generalize W9.drew=W10 at c9 l9 m9 u9⊢
      go_wp2_with fail
      obtain⟨g0,g1,g2,g3,g4,g5,g6,g7,g8,g9,Gz,BM⟩:=c9.all
      obtain⟨o0,o1,o2,o3,o4,o5⟩:=l9.all
      exact bodyPost_ret (v:= .tuple #[.agg (kY d.s.c), .agg #[.int .i64 (l.k), .int .i64 (l.sk), .int .u32 (l.sx), .int .u32 (l.pc), .int .i64 (l.n), .int .i64 (t.s.at_)]]) (by simp [kY,results,Try.results17,go_sem,g0,g1,g2,g3,g4,g5,g6,g7,g8,g9,Gz,BM,o0,o1,o2,o3,o4,o5]) rfl ⟨by rw [←RE.out],by rw [←RE.out];exact m9,u9⟩
     ·have SP:=oq gk ((lS Y9.out HD.out).1 DJ.out)
      have RE:=κ (Option.some.inj (SP.symm.trans RN.out))
      clear SP
      have a0:w7.cell? ⟨w.heap.size+1+1+1,2,none⟩=some (.int .u32 (d.s.c 0)):=K7.out.a.x.c 0 (by omega)
      have a1:w7.cell? ⟨w.heap.size+1+1+1,3,none⟩=some (.int .u32 (d.s.c 1)):=K7.out.a.x.c 1 (by omega)
      have a2:w7.cell? ⟨w.heap.size+1+1+1,4,none⟩=some (.int .u32 (d.s.c 2)):=K7.out.a.x.c 2 (by omega)
      have a3:w7.cell? ⟨w.heap.size+1+1+1,5,none⟩=some (.int .u32 (d.s.c 3)):=K7.out.a.x.c 3 (by omega)
      have a4:w7.cell? ⟨w.heap.size+1+1+1,6,none⟩=some (.int .u32 (d.s.c 4)):=K7.out.a.x.c 4 (by omega)
      have a5:w7.cell? ⟨w.heap.size+1+1+1,7,none⟩=some (.int .u32 (d.s.c 5)):=K7.out.a.x.c 5 (by omega)
      have a6:w7.cell? ⟨w.heap.size+1+1+1,8,none⟩=some (.int .u32 (d.s.c 6)):=K7.out.a.x.c 6 (by omega)
      have a7:w7.cell? ⟨w.heap.size+1+1+1,9,none⟩=some (.int .u32 (d.s.c 7)):=K7.out.a.x.c 7 (by omega)
      have a8:w7.cell? ⟨w.heap.size+1+1+1,10,none⟩=some (.int .u32 (d.s.c 8)):=K7.out.a.x.c 8 (by omega)
      have a9:w7.cell? ⟨w.heap.size+1+1+1,11,none⟩=some (.int .u32 (d.s.c 9)):=K7.out.a.x.c 9 (by omega)
      have tZ:w7.cell? ⟨w.heap.size+1+1+1,12,none⟩=some (.int .u32 (d.s.c 10)):=K7.out.a.x.c 10 (by omega)
      have uf:w7.cell? ⟨w.heap.size+1+1+1,13,none⟩=some (.int .u32 (d.s.c 11)):=K7.out.a.x.c 11 (by omega)
      have la:=K7.out.a.x.l
      go_upto_region 12 with fail
      obtain⟨r0,r1,r2,r3,r4,r5,r6,r7,r8,r9,Jm,Jo⟩:=K7.out.c.all
      have rz:=K7.out.c.z
      obtain⟨y0,y1,y2,y3,y4,y5⟩:=K7.out.l.all
      have vz:=K7.out.l.z
      have lr:=K7.out.c.l
      have ly:=K7.out.l.l
      go_wp2_with fail
      clear r0 r1 r2 r3 r4 r5 r6 r7 r8 r9 Jm Jo rz y0 y1 y2 y3 y4 y5 vz lr ly
      clear a0 a1 a2 a3 a4 a5 a6 a7 a8 a9 tZ uf la
      clear wW k0 lk
      have wM:=K7.out.hp
      have c8:=K7.out.c.put d.s.c
      have v8:=eU (S:=fun i=>i=(w.heap.size+1)) (h:=(w.heap.size+1)) (ah.refl _ w7) (.inl rfl) d.s.c
      have l8:=K7.out.l.upto v8 (by omega)
      have m8:=K7.out.m.upto v8 (fun i hi e=>by have:=wM i hi;omega)
      have u8:=eU (h:=(w.heap.size+1)) K7.out.u (.inr (Nat.le_succ _)) d.s.c
      rw [vZ] at c8 v8 l8 m8 u8⊢
      generalize ZQ _ _ _=W8 at c8 v8 l8 m8 u8⊢
      have v9:=EI (w.heap.size+1+1) W8 (5) (0) (0) (0) (0) (t.s.at_)
      have l9:=l8.put (5) (0) (0) (0) (0) (t.s.at_)
      have c9:=c8.upto v9 (by omega)
      have m9:=m8.upto v9 (fun i hi e=>by have:=wM i hi;omega)
      have u9:=up6 (h:=(w.heap.size+1+1)) u8 (.inr (Nat.le_trans (Nat.le_succ _) (Nat.le_succ _))) (5) (0) (0) (0) (0) (t.s.at_)
      rw [dX]
      generalize p6 _ _ _ _ _ _ _ _=W9 at c9 v9 l9 m9 u9⊢
      clear v8 v9 c8 l8 m8 u8 wM
      obtain⟨g0,g1,g2,g3,g4,g5,g6,g7,g8,g9,Gz,BM⟩:=c9.all
      obtain⟨o0,o1,o2,o3,o4,o5⟩:=l9.all
      exact bodyPost_ret (v:= .tuple #[.agg (kY d.s.c), .agg #[.int .i64 (5), .int .i64 (0), .int .u32 (0), .int .u32 (0), .int .i64 (0), .int .i64 (t.s.at_)]]) (by simp [kY,results,Try.results17,go_sem,g0,g1,g2,g3,g4,g5,g6,g7,g8,g9,Gz,BM,o0,o1,o2,o3,o4,o5]) rfl ⟨by rw [←RE.out],by rw [←RE.out];exact m9,u9⟩
   ·have e1:(z !=0)=true:=by simp [hz]
    have SP:=oq gk (show pJ K t= .inl ⟨t.s.c,t.M,⟨5,0,0,0,0⟩,t.s.at_⟩ from by unfold pJ;rw [Y9.out];exact if_neg hz)
    have RE:=κ (Option.some.inj (SP.symm.trans RN.out))
    clear SP hz XX
    go_upto_region 8 with fail
    clear b1 la
    have a0:w4.cell? ⟨w.heap.size+1+1+1,2,none⟩=some (.int .u32 (t.s.c 0)):=K4.out.a.x.c 0 (by omega)
    have a1:w4.cell? ⟨w.heap.size+1+1+1,3,none⟩=some (.int .u32 (t.s.c 1)):=K4.out.a.x.c 1 (by omega)
    have a2:w4.cell? ⟨w.heap.size+1+1+1,4,none⟩=some (.int .u32 (t.s.c 2)):=K4.out.a.x.c 2 (by omega)
    have a3:w4.cell? ⟨w.heap.size+1+1+1,5,none⟩=some (.int .u32 (t.s.c 3)):=K4.out.a.x.c 3 (by omega)
    have a4:w4.cell? ⟨w.heap.size+1+1+1,6,none⟩=some (.int .u32 (t.s.c 4)):=K4.out.a.x.c 4 (by omega)
    have a5:w4.cell? ⟨w.heap.size+1+1+1,7,none⟩=some (.int .u32 (t.s.c 5)):=K4.out.a.x.c 5 (by omega)
    have a6:w4.cell? ⟨w.heap.size+1+1+1,8,none⟩=some (.int .u32 (t.s.c 6)):=K4.out.a.x.c 6 (by omega)
    have a7:w4.cell? ⟨w.heap.size+1+1+1,9,none⟩=some (.int .u32 (t.s.c 7)):=K4.out.a.x.c 7 (by omega)
    have a8:w4.cell? ⟨w.heap.size+1+1+1,10,none⟩=some (.int .u32 (t.s.c 8)):=K4.out.a.x.c 8 (by omega)
    have a9:w4.cell? ⟨w.heap.size+1+1+1,11,none⟩=some (.int .u32 (t.s.c 9)):=K4.out.a.x.c 9 (by omega)
    have tZ:w4.cell? ⟨w.heap.size+1+1+1,12,none⟩=some (.int .u32 (t.s.c 10)):=K4.out.a.x.c 10 (by omega)
    have uf:w4.cell? ⟨w.heap.size+1+1+1,13,none⟩=some (.int .u32 (t.s.c 11)):=K4.out.a.x.c 11 (by omega)
    have la:=K4.out.a.x.l
    obtain⟨r0,r1,r2,r3,r4,r5,r6,r7,r8,r9,Jm,Jo⟩:=K4.out.c.all
    have rz:=K4.out.c.z
    obtain⟨y0,y1,y2,y3,y4,y5⟩:=K4.out.l.all
    have vz:=K4.out.l.z
    have lr:=K4.out.c.l
    have ly:=K4.out.l.l
    go_wp2_with fail
    clear r0 r1 r2 r3 r4 r5 r6 r7 r8 r9 Jm Jo rz y0 y1 y2 y3 y4 y5 vz lr ly
    clear a0 a1 a2 a3 a4 a5 a6 a7 a8 a9 tZ uf la
    have wM:=K4.out.hp
    have c8:=K4.out.c.put t.s.c
    have v8:=eU (S:=fun i=>i=(w.heap.size+1)) (h:=(w.heap.size+1)) (ah.refl _ w4) (.inl rfl) t.s.c
    have l8:=K4.out.l.upto v8 (by omega)
    have m8:=K4.out.m.upto v8 (fun i hi e=>by have:=wM i hi;omega)
    have u8:=eU (h:=(w.heap.size+1)) K4.out.u (.inr (Nat.le_succ _)) t.s.c
    rw [vZ] at c8 v8 l8 m8 u8⊢
    generalize ZQ _ _ _=W8 at c8 v8 l8 m8 u8⊢
    have v9:=EI (w.heap.size+1+1) W8 (5) (0) (0) (0) (0) (t.s.at_)
    have l9:=l8.put (5) (0) (0) (0) (0) (t.s.at_)
    have c9:=c8.upto v9 (by omega)
    have m9:=m8.upto v9 (fun i hi e=>by have:=wM i hi;omega)
    have u9:=up6 (h:=(w.heap.size+1+1)) u8 (.inr (Nat.le_trans (Nat.le_succ _) (Nat.le_succ _))) (5) (0) (0) (0) (0) (t.s.at_)
    rw [dX]
    generalize p6 _ _ _ _ _ _ _ _=W9 at c9 v9 l9 m9 u9⊢
    clear v8 v9 c8 l8 m8 u8 wM
    obtain⟨g0,g1,g2,g3,g4,g5,g6,g7,g8,g9,Gz,BM⟩:=c9.all
    obtain⟨o0,o1,o2,o3,o4,o5⟩:=l9.all
    exact bodyPost_ret (v:= .tuple #[.agg (kY t.s.c), .agg #[.int .i64 (5), .int .i64 (0), .int .u32 (0), .int .u32 (0), .int .i64 (0), .int .i64 (t.s.at_)]]) (by simp [kY,results,Try.results17,go_sem,g0,g1,g2,g3,g4,g5,g6,g7,g8,g9,Gz,BM,o0,o1,o2,o3,o4,o5]) rfl ⟨by rw [←RE.out],by rw [←RE.out];exact m9,u9⟩
end Go.Proofs.Ytcjcmnnhmajocab.Hr
