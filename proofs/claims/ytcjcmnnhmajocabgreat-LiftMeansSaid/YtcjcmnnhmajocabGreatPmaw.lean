import Derived.Test.YtcjcmnnhmajocabGreatPmav
set_option linter.unusedVariables false
set_option linter.unusedSimpArgs false
set_option maxRecDepth 100000
set_option maxHeartbeats 16000000
namespace Go.Proofs.YtcjcmnnhmajocabGreat.Lf
open Go.RowKit Kt Ic Me
open Ot (fC OB)
variable {K:Kc} {s:Lk} {W W':World} {B:Nat}
structure UX (K:Kc) (B:Nat) (W W':World):Prop where
 u:ah (fun i=>SW K W i∨B≤i) W W'
 ow:∀i,own K W' i→own K W i∨W.heap.size≤i
theorem UX.of (u:UW K W W'):UX K B W W':=⟨u.u.mono fun i _ h=> .inl h,u.ow⟩
theorem UX.trans {a b c:World} (hB:B≤a.heap.size) (h:UX K B a b) (k:UX K B b c):UX K B a c:=
 ⟨⟨k.u.os.trans h.u.os,k.u.tape.trans h.u.tape,k.u.output.trans h.u.output,Nat.le_trans h.u.size k.u.size,fun i hi hs=>(k.u.block i (Nat.lt_of_lt_of_le hi h.u.size) fun e=>by
   rcases e with e | e
   ·rcases e with e | e
    ·exact hs (.inl (.inl e))
    ·rcases h.ow i e with e | e
     ·exact hs (.inl (.inr e))
     ·omega
   ·exact hs (.inr e)).trans (h.u.block i hi hs)⟩,
  fun i e=>(k.ow i e).elim (h.ow i) fun e=> .inr (Nat.le_trans h.u.size e)⟩
theorem UX.fin {w w':World} (h:UX K w.heap.size w w'):UW K w w':=⟨h.u.mono fun i hi e=>e.elim id fun e=>by omega,h.ow⟩
theorem UX.set (z j:Nat) (v:Value) (hz:B≤z) (hh:z≠K.h):UX K B W (W.setCell ⟨z,j,none⟩ v):=
 ⟨(ah.refl _ W).setCell (q:=⟨z,j,none⟩) (.inl (.inr hz)) v,fun i ⟨x,h1,h2⟩=> .inl ⟨x,(World.cell?_setCell_other _ _ _ _ (fun hx=>hh (congrArg Addr.block hx))).symm.trans h1,h2⟩⟩
theorem Bx.aeX {b:Nat} {v v':Value} (h:Bx K b #[v] W):Bx K b #[v'] (W.setCell ⟨b,0,none⟩ v'):=by
 refine⟨by simpa using h.l,fun j u hj=> ?_,fun j=>by simpa using h.z j,fun e=> ?_⟩
 ·match j,hj with
  | 0,hj=>
   obtain rfl:v'=u:=by simpa using hj
   exact World.cell?_setCell_same _ _ _ (h.c 0 _ rfl)
  | n+1,hj=>simp at hj
 ·rcases e with e | e
  ·exact h.n (.inl e)
  ·have hh:b≠K.h:=fun e=>h.n (.inl e)
   obtain⟨x,h1,h2⟩:=e
   exact h.n (.inr ⟨x,(World.cell?_setCell_other _ _ _ _ (fun hx=>hh (congrArg Addr.block hx))).symm.trans h1,h2⟩)
theorem Bx.apart {b z:Nat} {cs:Array Value} (h:Bx K b cs W) (hz:b≠z) (hh:z≠K.h) (j:Nat) (v:Value):Bx K b cs (W.setCell ⟨z,j,none⟩ v):=by
 refine⟨by simpa using h.l,fun i u hi=>(World.cell?_setCell_other _ _ _ _ (fun hx=>hz (congrArg Addr.block hx).symm)).trans (h.c i u hi),fun i=>by simpa using h.z i,fun e=> ?_⟩
 rcases e with e | e
 ·exact h.n (.inl e)
 ·obtain⟨x,h1,h2⟩:=e
  exact h.n (.inr ⟨x,(World.cell?_setCell_other _ _ _ _ (fun hx=>hh (congrArg Addr.block hx))).symm.trans h1,h2⟩)
theorem LM.apart {z:Nat} (a:LM K s W) (hz:¬SW K W z) (hl:z<W.heap.size) (j:Nat) (v:Value):LM K s (W.setCell ⟨z,j,none⟩ v):=by
 have hh:z≠K.h:=fun e=>hz (.inl e)
 have c:∀j',(W.setCell ⟨z,j,none⟩ v).cell? ⟨K.h,j',none⟩=W.cell? ⟨K.h,j',none⟩:=fun j'=>World.cell?_setCell_other _ _ _ _ (fun hx=>hh (congrArg Addr.block hx))
 obtain⟨x,h1,h2⟩:=a.o
 exact⟨fun j' h3 h4=>(c j').trans (a.c j' h3 h4),⟨x,(c 3).trans h1,h2.upto ((ah.refl (fun i=>i=z) W).setCell (q:=⟨z,j,none⟩) (.inl rfl) v) fun k hk e=>hz (.inr ⟨x,h1,by rw [←show k=z from e];exact hk⟩)⟩,fun j'=>by simpa using a.z j',a.lh,by simpa using a.lb⟩
theorem wI (t zv:Int) (z kb:Nat) (w:World) (a:LM K s w) (hz:Bx K z #[.int .i64 zv] w) (hk:Bx K kb #[.pointer (some ⟨K.h,0,none⟩)] w) (ne:kb≠z) (hB:B≤z) (hn:s.ops.length<1000000000):
  Calls Tryz.prog 183 #[.int .i64 t, .pointer (some ⟨z,0,none⟩), .pointer (some ⟨kb,0,none⟩)] w fun e w'=>e= .returned (.int .i64 (s.some zv t).1)∧LM K (s.some zv t).2.2 w'∧Bx K z #[.int .i64 (s.some zv t).2.1] w'∧Bx K kb #[.pointer (some ⟨K.h,0,none⟩)] w'∧UX K B w w':=by
 have z0:=hz.c 0 _ rfl
 have zz:=hz.z 0
 have zl:=hz.l
 have k0:=hk.c 0 _ rfl
 have kl:=hk.l
 have HH:=κ (show z≠K.h from fun e=>hz.n (.inl e))
 unfold Lk.some
 by_cases h0:0≤t
 ·rw [if_pos h0]
  have d0:decide (0≤t)=true:=decide_eq_true h0
  have A:=κ a;have Z:=κ hz;have KB:=κ hk
  clear a hz hk hn h0
  go_enter Tryz.func183,Tryz.ntmps183
  go_wp2
  go_ret
  exact⟨rfl,A.out,Z.out,KB.out,UX.of (UW.refl _ _)⟩
 ·rw [if_neg h0]
  have d0:decide (0≤t)=false:=decide_eq_false h0
  by_cases h1:zv<0
  ·rw [if_pos h1]
   have d1:decide (zv<0)=true:=decide_eq_true h1
   have P:=κ (dF (s:=s) (K:=K) 0 w a hn)
   have Z:=κ hz;have KB:=κ hk
   have NE:=κ ne
   have HB:=κ hB
   clear a hz hk hn h0 h1 ne
   go_enter Tryz.func183,Tryz.ntmps183
   go_wp2_with (go_at_call 117;refine P.out.mono ?_;rintro e w1 ⟨rfl,A1,U1⟩;have H1:=κ A1;have V1:=κ U1;have Z1:=κ (Z.out.uw U1);have K1:=κ (KB.out.uw U1);have y0:=Z1.out.c 0 _ rfl;have yz:=Z1.out.z 0;have yl:=Z1.out.l;clear A1 U1)
   go_ret
   exact⟨rfl,H1.out.apart Z1.out.n Z1.out.l 0 _,Z1.out.aeX,K1.out.apart NE.out HH.out 0 _,(UX.of V1.out).trans (Nat.le_trans HB.out (Nat.le_of_lt Z.out.l)) (UX.set z 0 _ HB.out HH.out)⟩
  ·rw [if_neg h1]
   have d1:decide (zv<0)=false:=decide_eq_false h1
   have A:=κ a;have Z:=κ hz;have KB:=κ hk
   clear a hz hk hn h0 h1
   go_enter Tryz.func183,Tryz.ntmps183
   go_wp2
   go_ret
   exact⟨rfl,A.out,Z.out,KB.out,UX.of (UW.refl _ _)⟩
open Ot (fC OB)
variable {K:Kc} {s:Lk} {W W':World} {B:Nat}
theorem Rz (w:World) (a:LM K s w) (hk:s.kn=true) (hd:s.kd=0):
  Calls Tryz.prog 119 #[.pointer (some ⟨K.h,0,none⟩)] w fun e w'=>e= .returned (.int .i64 s.fo)∧LM K s w'∧UW K w w':=by
 have B0:=Bx.new a #[.pointer (some ⟨K.h,0,none⟩)] 105
 have a1:=a.alloc (.cells #[.pointer (some ⟨K.h,0,none⟩)] 105)
 have U0:=κ (UW.alloc a.l (.cells #[.pointer (some ⟨K.h,0,none⟩)] 105))
 have b0:=B0.c 0 _ rfl
 have bl:=B0.l
 have Pj:(w.alloc (.cells #[.pointer (some ⟨K.h,0,none⟩)] 105)).cell? ⟨K.h,14,none⟩=some (.bool true):=hk▸a1.c 14 (by decide) (by decide)
 have UG:(w.alloc (.cells #[.pointer (some ⟨K.h,0,none⟩)] 105)).cell? ⟨K.h,15,none⟩=some (.int .i64 0):=hd▸a1.c 15 (by decide) (by decide)
 have e18:(w.alloc (.cells #[.pointer (some ⟨K.h,0,none⟩)] 105)).cell? ⟨K.h,18,none⟩=some (.int .i64 s.fo):=a1.c 18 (by decide) (by decide)
 have l1:=a1.l
 have A:=κ a1
 clear a a1 B0 hk hd
 go_enter Tryz.func119,Tryz.ntmps119
 go_wp2
 go_ret
 exact⟨rfl,A.out,U0.out⟩
theorem WS (w:World) (a:LM K s w) (hk:s.kn=false) (hn:s.ops.length<1000000000):
  Calls Tryz.prog 119 #[.pointer (some ⟨K.h,0,none⟩)] w fun e w'=>e= .returned (.int .i64 s.n)∧LM K ((s.put ⟨17,0,0,0,0,0,0⟩).gU 0 (-1) (-1) s.n) w'∧UW K w w':=by
 have B0:=Bx.new a #[.pointer (some ⟨K.h,0,none⟩)] 105
 have a1:=a.alloc (.cells #[.pointer (some ⟨K.h,0,none⟩)] 105)
 have U0:=κ ((UW.alloc a.l (.cells #[.pointer (some ⟨K.h,0,none⟩)] 105)).trans (UW.drew (K:=K) a1.l))
 have b0:=B0.c 0 _ rfl
 have bl:=B0.l
 have BD:=κ (B0.uw (UW.drew (K:=K) a1.l))
 have Pj:(w.alloc (.cells #[.pointer (some ⟨K.h,0,none⟩)] 105)).cell? ⟨K.h,14,none⟩=some (.bool false):=hk▸a1.c 14 (by decide) (by decide)
 have l1:=a1.l
 have P:=κ (cO (s:=s) (K:=K) ⟨17,0,0,0,0,0,0⟩ _ a1.drew hn)
 clear a a1 B0 hk
 go_enter Tryz.func119,Tryz.ntmps119
 go_upto_region 2 with fail
 go_region_with (go_at_call 54;refine P.out.mono ?_;rintro e w1 ⟨rfl,A1,U1⟩;have H1:=κ A1;have V1:=κ U1;have B1:=κ (BD.out.uw U1);have k14:=A1.c 14 (by decide) (by decide);have k15:=A1.c 15 (by decide) (by decide);have k16:=A1.c 16 (by decide) (by decide);have k17:=A1.c 17 (by decide) (by decide);have k18:=A1.c 18 (by decide) (by decide);have kz:=A1.z;have kl:=A1.l;have y0:=B1.out.c 0 _ rfl;have yl:=B1.out.l;clear A1 U1)
 all_goals
  have H2:=H1.out.AZ 0 (-1) (-1) s.n
  have V2:=κ (UW.AZ (K:=K) (W:=w1) (.bool true) (.int .i64 0) (.int .i64 (-1)) (.int .i64 (-1)) (.int .i64 s.n))
  have B2:=B1.out.uw V2.out
  clear k14 k15 k16 k17 k18 kz kl y0 yl Pj b0 bl l1
  generalize((((w1.setCell ⟨K.h,14,none⟩ (.bool true)).setCell ⟨K.h,15,none⟩ (.int .i64 0)).setCell ⟨K.h,16,none⟩ (.int .i64 (-1))).setCell ⟨K.h,17,none⟩ (.int .i64 (-1))).setCell ⟨K.h,18,none⟩ (.int .i64 s.n)=w2 at*
  have k15:w2.cell? ⟨K.h,15,none⟩=some (.int .i64 0):=H2.c 15 (by decide) (by decide)
  have k18:w2.cell? ⟨K.h,18,none⟩=some (.int .i64 s.n):=H2.c 18 (by decide) (by decide)
  have kl:=H2.l
  have y0:=B2.c 0 _ rfl
  have yl:=B2.l
  have H3:=κ H2
  clear H2 B2
 all_goals go_wp2
 all_goals go_ret
 all_goals exact⟨rfl,H3.out,U0.out.trans (V1.out.trans V2.out)⟩
open Ot (fC OB)
variable {K:Kc} {s:Lk} {W W':World} {B:Nat}
structure Fe (s s':Lk) (c:Nat):Prop where
 kn:s'.kn=s.kn
 kd:s'.kd=s.kd
 fa:s'.fa=s.fa
 fb:s'.fb=s.fb
 fo:s'.fo=s.fo
 n:s'.ops.length≤s.ops.length+c
theorem Ed (s:Lk) (z t:Int):Fe s (s.some z t).2.2 1:=by
 unfold Lk.some
 split
 ·exact⟨rfl,rfl,rfl,rfl,rfl,Nat.le_succ _⟩
 ·split
  ·exact⟨rfl,rfl,rfl,rfl,rfl,Nat.le_of_eq (Lk.yR s _)⟩
  ·exact⟨rfl,rfl,rfl,rfl,rfl,Nat.le_succ _⟩
theorem Fe.trans {a b c:Lk} {m n:Nat} (h:Fe a b m) (k:Fe b c n):Fe a c (m+n):=⟨k.kn.trans h.kn,k.kd.trans h.kd,k.fa.trans h.fa,k.fb.trans h.fb,k.fo.trans h.fo,by have:=h.n;have:=k.n;omega⟩
theorem aaQ (s:Lk) (o:aV):Fe s (s.put o) 1:=⟨rfl,rfl,rfl,rfl,rfl,Nat.le_of_eq (Lk.yR s o)⟩
theorem LM.fc {s0:Lk} {c:Nat} (a:LM K s W) (f:Fe s0 s c):W.cell? ⟨K.h,15,none⟩=some (.int .i64 s0.kd)∧W.cell? ⟨K.h,16,none⟩=some (.int .i64 s0.fa)∧W.cell? ⟨K.h,17,none⟩=some (.int .i64 s0.fb)∧W.cell? ⟨K.h,18,none⟩=some (.int .i64 s0.fo):=
 ⟨f.kd▸a.c 15 (by decide) (by decide),f.fa▸a.c 16 (by decide) (by decide),f.fb▸a.c 17 (by decide) (by decide),f.fo▸a.c 18 (by decide) (by decide)⟩
theorem WT (w:World) (a:LM K s w) (hk:s.kn=true) (hd:s.kd≠0) (hn:s.ops.length+3<1000000000):
  Calls Tryz.prog 119 #[.pointer (some ⟨K.h,0,none⟩)] w fun e w'=>e= .returned (.int .i64 (s.s3.2.2.P ⟨7,s.kd,s.s1.1,s.s2.1,s.s3.1,0,0⟩).1)∧LM K (s.s3.2.2.P ⟨7,s.kd,s.s1.1,s.s2.1,s.s3.1,0,0⟩).2 w'∧UW K w w':=by
 have B0:=Bx.new a #[.pointer (some ⟨K.h,0,none⟩)] 105
 have a1:=a.alloc (.cells #[.pointer (some ⟨K.h,0,none⟩)] 105)
 have U0:=κ (UW.alloc a.l (.cells #[.pointer (some ⟨K.h,0,none⟩)] 105))
 have b0:=B0.c 0 _ rfl
 have bl:=B0.l
 have Pj:(w.alloc (.cells #[.pointer (some ⟨K.h,0,none⟩)] 105)).cell? ⟨K.h,14,none⟩=some (.bool true):=hk▸a1.c 14 (by decide) (by decide)
 have UG:(w.alloc (.cells #[.pointer (some ⟨K.h,0,none⟩)] 105)).cell? ⟨K.h,15,none⟩=some (.int .i64 s.kd):=a1.c 15 (by decide) (by decide)
 have dR:(s.kd==0)=false:=by simpa using hd
 have l1:=a1.l
 have A:=κ a1
 have BB:=κ B0
 have HN:=κ hn
 clear a a1 B0 hk hd hn
 go_enter Tryz.func119,Tryz.ntmps119
 go_upto_region 6 with fail
 have U1:=κ ((U0.out.trans (UW.alloc A.out.l (.cells #[.int .i64 (-1)] 3))).trans (UW.drew (K:=K) (A.out.alloc (.cells #[.int .i64 (-1)] 3)).l))
 have A1:=(A.out.alloc (.cells #[.int .i64 (-1)] 3)).drew
 have Z1:Bx K (w.heap.size+1) #[.int .i64 (-1)] ((w.alloc (.cells #[.pointer (some ⟨K.h,0,none⟩)] 105)).alloc (.cells #[.int .i64 (-1)] 3)):=by
  have h:=Bx.new A.out #[.int .i64 (-1)] 3
  rw [World.size_alloc] at h;exact h
 have K1:=BB.out.uw (UW.alloc A.out.l (.cells #[.int .i64 (-1)] 3))
 have A2:=A.out.alloc (.cells #[.int .i64 (-1)] 3)
 obtain⟨f15,f16,f17,f18⟩:=A2.fc (s0:=s) (c:=0) ⟨rfl,rfl,rfl,rfl,rfl,Nat.le_refl _⟩
 have al:=A2.l
 have y0:=K1.c 0 _ rfl
 have yl:=K1.l
 have lz:=Z1.l
 have HZ:=κ (Z1.uw (UW.drew (K:=K) A2.l))
 have HK:=κ (K1.uw (UW.drew (K:=K) A2.l))
 have HA:=κ A1
 clear A1 Z1 K1 A2 b0 bl Pj UG l1 U0 BB A
 generalize(w.alloc (.cells #[.pointer (some ⟨K.h,0,none⟩)] 105)).alloc (.cells #[.int .i64 (-1)] 3)=w0 at*
 have C1:=κ (wI (B:=w.heap.size) s.fa (-1) (w.heap.size+1) w.heap.size w0.drew HA.out HZ.out HK.out (by omega) (by omega) (by have:=HN.out;omega))
 have HS:=κ (show w.heap.size≤w0.drew.heap.size by show w.heap.size≤w0.heap.size;omega)
 go_wp2_with fail
 have hlk:∀w',(fun w'=>w'.cell? ⟨K.h,15,none⟩=some (.int .i64 s.kd)∧w'.cell? ⟨K.h,16,none⟩=some (.int .i64 s.fa)∧w'.cell? ⟨K.h,17,none⟩=some (.int .i64 s.fb)∧w'.cell? ⟨K.h,18,none⟩=some (.int .i64 s.fo)∧w'.cell? ⟨w.heap.size,0,none⟩=some (.pointer (some ⟨K.h,0,none⟩))) w'→(Instr.loadAt 105 (.pointer (some ⟨w.heap.size,0,none⟩))).run Tryz.prog w'= .ok (.pointer (some ⟨K.h,0,none⟩)) w':=fun w' h=>by
  have hp:=h.2.2.2.2
  clear h
  go_simp
 have aeY:∀w',(fun w'=>w'.cell? ⟨K.h,15,none⟩=some (.int .i64 s.kd)∧w'.cell? ⟨K.h,16,none⟩=some (.int .i64 s.fa)∧w'.cell? ⟨K.h,17,none⟩=some (.int .i64 s.fb)∧w'.cell? ⟨K.h,18,none⟩=some (.int .i64 s.fo)∧w'.cell? ⟨w.heap.size,0,none⟩=some (.pointer (some ⟨K.h,0,none⟩))) w'→(Instr.loadAt 3 (.pointer (some ⟨K.h,15,none⟩))).run Tryz.prog w'= .ok (.int .i64 s.kd) w':=fun w' h=>by
  have hp:=h.1
  clear h
  go_simp
 have aeZ:∀w:World,(Instr.fieldAt 108 (.pointer (some ⟨K.h,14,none⟩)) 1).run Tryz.prog w= .ok (.pointer (some ⟨K.h,15,none⟩)) w:=fun w=>by go_simp
 have ae0:∀w',(fun w'=>w'.cell? ⟨K.h,15,none⟩=some (.int .i64 s.kd)∧w'.cell? ⟨K.h,16,none⟩=some (.int .i64 s.fa)∧w'.cell? ⟨K.h,17,none⟩=some (.int .i64 s.fb)∧w'.cell? ⟨K.h,18,none⟩=some (.int .i64 s.fo)∧w'.cell? ⟨w.heap.size,0,none⟩=some (.pointer (some ⟨K.h,0,none⟩))) w'→(Instr.loadAt 3 (.pointer (some ⟨K.h,16,none⟩))).run Tryz.prog w'= .ok (.int .i64 s.fa) w':=fun w' h=>by
  have hp:=h.2.1
  clear h
  go_simp
 have ae1:∀w:World,(Instr.fieldAt 108 (.pointer (some ⟨K.h,14,none⟩)) 2).run Tryz.prog w= .ok (.pointer (some ⟨K.h,16,none⟩)) w:=fun w=>by go_simp
 have ae2:∀w',(fun w'=>w'.cell? ⟨K.h,15,none⟩=some (.int .i64 s.kd)∧w'.cell? ⟨K.h,16,none⟩=some (.int .i64 s.fa)∧w'.cell? ⟨K.h,17,none⟩=some (.int .i64 s.fb)∧w'.cell? ⟨K.h,18,none⟩=some (.int .i64 s.fo)∧w'.cell? ⟨w.heap.size,0,none⟩=some (.pointer (some ⟨K.h,0,none⟩))) w'→(Instr.loadAt 3 (.pointer (some ⟨K.h,17,none⟩))).run Tryz.prog w'= .ok (.int .i64 s.fb) w':=fun w' h=>by
  have hp:=h.2.2.1
  clear h
  go_simp
 have ae3:∀w:World,(Instr.fieldAt 108 (.pointer (some ⟨K.h,14,none⟩)) 3).run Tryz.prog w= .ok (.pointer (some ⟨K.h,17,none⟩)) w:=fun w=>by go_simp
 have ae4:∀w',(fun w'=>w'.cell? ⟨K.h,15,none⟩=some (.int .i64 s.kd)∧w'.cell? ⟨K.h,16,none⟩=some (.int .i64 s.fa)∧w'.cell? ⟨K.h,17,none⟩=some (.int .i64 s.fb)∧w'.cell? ⟨K.h,18,none⟩=some (.int .i64 s.fo)∧w'.cell? ⟨w.heap.size,0,none⟩=some (.pointer (some ⟨K.h,0,none⟩))) w'→(Instr.loadAt 3 (.pointer (some ⟨K.h,18,none⟩))).run Tryz.prog w'= .ok (.int .i64 s.fo) w':=fun w' h=>by
  have hp:=h.2.2.2.1
  clear h
  go_simp
 have ae5:∀w:World,(Instr.fieldAt 108 (.pointer (some ⟨K.h,14,none⟩)) 4).run Tryz.prog w= .ok (.pointer (some ⟨K.h,18,none⟩)) w:=fun w=>by go_simp
 have hfF:∀w:World,(Instr.fieldAt 110 (.pointer (some ⟨K.h,0,none⟩)) 4).run Tryz.prog w= .ok (.pointer (some ⟨K.h,14,none⟩)) w:=fun w=>by go_simp
 have O6:∀w:World,(Instr.build 115 #[(0, .int .i64 7),(1, .int .i64 s.kd),(2, .int .i64 s.s1.1),(3, .int .i64 s.s2.1),(4, .int .i64 s.s3.1)]).run Tryz.prog w= .ok (.agg #[.int .i64 7, .int .i64 s.kd, .int .i64 s.s1.1, .int .i64 s.s2.1, .int .i64 s.s3.1, .int .u32 0, .int .i64 0]) w:=fun w=>by go_simp
 refine wp_region_held_drew (S:=(fun w'=>w'.cell? ⟨K.h,15,none⟩=some (.int .i64 s.kd)∧w'.cell? ⟨K.h,16,none⟩=some (.int .i64 s.fa)∧w'.cell? ⟨K.h,17,none⟩=some (.int .i64 s.fb)∧w'.cell? ⟨K.h,18,none⟩=some (.int .i64 s.fo)∧w'.cell? ⟨w.heap.size,0,none⟩=some (.pointer (some ⟨K.h,0,none⟩)))) (by kernel_rfl) ⟨f15,f16,f17,f18,y0⟩ (fun hHeld=> ?_)
 refine iR 0 30 (.pointer (some ⟨K.h,0,none⟩)) rfl rfl (by kernel_rfl) (by kernel_rfl) (by kernel_rfl) (fun _ _ _ h=>h) (Kt.kK (by rfl) _ _ rfl _ _ rfl hlk) hHeld ?_
 try simp only [Act.put,aA,aB,aC]
 refine iR 1 31 (.pointer (some ⟨K.h,0,none⟩)) rfl rfl (by kernel_rfl) (by kernel_rfl) (by kernel_rfl) (fun _ _ _ h=>h) (Kt.kK (by rfl) _ _ rfl _ _ rfl hlk) hHeld ?_
 try simp only [Act.put,aA,aB,aC]
 refine iR 2 32 (.pointer (some ⟨K.h,0,none⟩)) rfl rfl (by kernel_rfl) (by kernel_rfl) (by kernel_rfl) (fun _ _ _ h=>h) (Kt.lu (by rfl) _ rfl _ rfl) hHeld ?_
 try simp only [Act.put,aA,aB,aC]
 refine iR 3 33 (.pointer (some ⟨K.h,14,none⟩)) rfl rfl (by kernel_rfl) (by kernel_rfl) (by kernel_rfl) (fun _ _ _ h=>h) (Kt.jc (by rfl) _ _ _ rfl _ _ rfl hfF) hHeld ?_
 try simp only [Act.put,aA,aB,aC]
 refine iR 4 34 (.pointer (some ⟨K.h,15,none⟩)) rfl rfl (by kernel_rfl) (by kernel_rfl) (by kernel_rfl) (fun _ _ _ h=>h) (Kt.jc (by rfl) _ _ _ rfl _ _ rfl aeZ) hHeld ?_
 try simp only [Act.put,aA,aB,aC]
 refine iR 5 35 (.int .i64 s.kd) rfl rfl (by kernel_rfl) (by kernel_rfl) (by kernel_rfl) (fun _ _ _ h=>h) (Kt.kK (by rfl) _ _ rfl _ _ rfl aeY) hHeld ?_
 try simp only [Act.put,aA,aB,aC]
 refine iR 6 36 (.func (Fn.func 183) #[] #[.pointer (some ⟨w.heap.size+1,0,none⟩), .pointer (some ⟨w.heap.size,0,none⟩)]) rfl rfl (by kernel_rfl) (by kernel_rfl) (by kernel_rfl) (fun _ _ _ h=>h) (Kt.fV (by rfl) _ rfl _ rfl) hHeld ?_
 try simp only [Act.put,aA,aB,aC]
 refine iR 7 37 (.pointer (some ⟨K.h,0,none⟩)) rfl rfl (by kernel_rfl) (by kernel_rfl) (by kernel_rfl) (fun _ _ _ h=>h) (Kt.kK (by rfl) _ _ rfl _ _ rfl hlk) hHeld ?_
 try simp only [Act.put,aA,aB,aC]
 refine iR 8 38 (.pointer (some ⟨K.h,0,none⟩)) rfl rfl (by kernel_rfl) (by kernel_rfl) (by kernel_rfl) (fun _ _ _ h=>h) (Kt.lu (by rfl) _ rfl _ rfl) hHeld ?_
 try simp only [Act.put,aA,aB,aC]
 refine iR 9 39 (.pointer (some ⟨K.h,14,none⟩)) rfl rfl (by kernel_rfl) (by kernel_rfl) (by kernel_rfl) (fun _ _ _ h=>h) (Kt.jc (by rfl) _ _ _ rfl _ _ rfl hfF) hHeld ?_
 try simp only [Act.put,aA,aB,aC]
 refine iR 10 40 (.pointer (some ⟨K.h,16,none⟩)) rfl rfl (by kernel_rfl) (by kernel_rfl) (by kernel_rfl) (fun _ _ _ h=>h) (Kt.jc (by rfl) _ _ _ rfl _ _ rfl ae1) hHeld ?_
 try simp only [Act.put,aA,aB,aC]
 refine iR 11 41 (.int .i64 s.fa) rfl rfl (by kernel_rfl) (by kernel_rfl) (by kernel_rfl) (fun _ _ _ h=>h) (Kt.kK (by rfl) _ _ rfl _ _ rfl ae0) hHeld ?_
 try simp only [Act.put,aA,aB,aC]
 refine iR 13 43 (.func (Fn.func 183) #[] #[.pointer (some ⟨w.heap.size+1,0,none⟩), .pointer (some ⟨w.heap.size,0,none⟩)]) rfl rfl (by kernel_rfl) (by kernel_rfl) (by kernel_rfl) (fun _ _ _ h=>h) (Kt.fV (by rfl) _ rfl _ rfl) hHeld ?_
 try simp only [Act.put,aA,aB,aC]
 refine iR 14 44 (.pointer (some ⟨K.h,0,none⟩)) rfl rfl (by kernel_rfl) (by kernel_rfl) (by kernel_rfl) (fun _ _ _ h=>h) (Kt.kK (by rfl) _ _ rfl _ _ rfl hlk) hHeld ?_
 try simp only [Act.put,aA,aB,aC]
 refine iR 15 45 (.pointer (some ⟨K.h,0,none⟩)) rfl rfl (by kernel_rfl) (by kernel_rfl) (by kernel_rfl) (fun _ _ _ h=>h) (Kt.lu (by rfl) _ rfl _ rfl) hHeld ?_
 try simp only [Act.put,aA,aB,aC]
 refine iR 16 46 (.pointer (some ⟨K.h,14,none⟩)) rfl rfl (by kernel_rfl) (by kernel_rfl) (by kernel_rfl) (fun _ _ _ h=>h) (Kt.jc (by rfl) _ _ _ rfl _ _ rfl hfF) hHeld ?_
 try simp only [Act.put,aA,aB,aC]
 refine iR 17 47 (.pointer (some ⟨K.h,17,none⟩)) rfl rfl (by kernel_rfl) (by kernel_rfl) (by kernel_rfl) (fun _ _ _ h=>h) (Kt.jc (by rfl) _ _ _ rfl _ _ rfl ae3) hHeld ?_
 try simp only [Act.put,aA,aB,aC]
 refine iR 18 48 (.int .i64 s.fb) rfl rfl (by kernel_rfl) (by kernel_rfl) (by kernel_rfl) (fun _ _ _ h=>h) (Kt.kK (by rfl) _ _ rfl _ _ rfl ae2) hHeld ?_
 try simp only [Act.put,aA,aB,aC]
 refine iR 20 50 (.func (Fn.func 183) #[] #[.pointer (some ⟨w.heap.size+1,0,none⟩), .pointer (some ⟨w.heap.size,0,none⟩)]) rfl rfl (by kernel_rfl) (by kernel_rfl) (by kernel_rfl) (fun _ _ _ h=>h) (Kt.fV (by rfl) _ rfl _ rfl) hHeld ?_
 try simp only [Act.put,aA,aB,aC]
 refine iR 21 51 (.pointer (some ⟨K.h,0,none⟩)) rfl rfl (by kernel_rfl) (by kernel_rfl) (by kernel_rfl) (fun _ _ _ h=>h) (Kt.kK (by rfl) _ _ rfl _ _ rfl hlk) hHeld ?_
 try simp only [Act.put,aA,aB,aC]
 refine iR 22 52 (.pointer (some ⟨K.h,0,none⟩)) rfl rfl (by kernel_rfl) (by kernel_rfl) (by kernel_rfl) (fun _ _ _ h=>h) (Kt.lu (by rfl) _ rfl _ rfl) hHeld ?_
 try simp only [Act.put,aA,aB,aC]
 refine iR 23 53 (.pointer (some ⟨K.h,14,none⟩)) rfl rfl (by kernel_rfl) (by kernel_rfl) (by kernel_rfl) (fun _ _ _ h=>h) (Kt.jc (by rfl) _ _ _ rfl _ _ rfl hfF) hHeld ?_
 try simp only [Act.put,aA,aB,aC]
 refine iR 24 54 (.pointer (some ⟨K.h,18,none⟩)) rfl rfl (by kernel_rfl) (by kernel_rfl) (by kernel_rfl) (fun _ _ _ h=>h) (Kt.jc (by rfl) _ _ _ rfl _ _ rfl ae5) hHeld ?_
 try simp only [Act.put,aA,aB,aC]
 refine iR 25 55 (.int .i64 s.fo) rfl rfl (by kernel_rfl) (by kernel_rfl) (by kernel_rfl) (fun _ _ _ h=>h) (Kt.kK (by rfl) _ _ rfl _ _ rfl ae4) hHeld ?_
 try simp only [Act.put,aA,aB,aC]
 refine wpAnyH_ready (rs:= [12]) (by kernel_rfl) (by simp) ?_
 refine AllReadyH.cons rfl (fun KK bF=> ?_) AllReadyH.nil
 go_simp
 go_wp2_with (go_at_call 183;refine C1.out.mono ?_;rintro e w1 ⟨rfl,A1,Z1,K1,V1⟩)
 have F1:=Ed s (-1) s.fa
 have C2:=κ (wI (B:=w.heap.size) s.fb s.s1.2.1 (w.heap.size+1) w.heap.size w1 A1 Z1 K1 (by omega) (by omega) (by have:=HN.out;have:=F1.n;show s.s1.2.2.ops.length<_;unfold Lk.s1;omega))
 have X1:=κ V1
 have G1:=κ F1
 have BS1:=κ (show w.heap.size≤w1.heap.size by have:=V1.u.size;have:=HS.out;omega)
 have AA:=A1.fc F1
 refine bF.out _ _ ?_ (fun bH=> ?_)
 ·exact⟨AA.1,AA.2.1,AA.2.2.1,AA.2.2.2,K1.c 0 _ rfl⟩
 clear bF KK hHeld
 try clear A1 Z1 K1 V1 F1 AA
 try clear A1 V1 F4 AA K4
 have hHeld:=bH
 clear bH
 try simp only [Act.put,aA,aB,aC]
 refine wpAnyH_ready (rs:= [19]) (by kernel_rfl) (by simp) ?_
 refine AllReadyH.cons rfl (fun KK bF=> ?_) AllReadyH.nil
 go_simp
 go_wp2_with (go_at_call 183;refine C2.out.mono ?_;rintro e w2 ⟨rfl,A1,Z1,K1,V1⟩)
 have F1:=G1.out.trans (Ed s.s1.2.2 s.s1.2.1 s.fb)
 have C3:=κ (wI (B:=w.heap.size) s.fo s.s2.2.1 (w.heap.size+1) w.heap.size w2 A1 Z1 K1 (by omega) (by omega) (by have:=HN.out;have:=F1.n;show s.s2.2.2.ops.length<_;unfold Lk.s2;omega))
 have X2:=κ V1
 have G2:=κ F1
 have BS2:=κ (show w.heap.size≤w2.heap.size by have:=V1.u.size;have:=BS1.out;omega)
 have AA:=LM.fc (s0:=s) A1 F1
 refine bF.out _ _ ?_ (fun bH=> ?_)
 ·exact⟨AA.1,AA.2.1,AA.2.2.1,AA.2.2.2,K1.c 0 _ rfl⟩
 clear bF KK hHeld
 try clear A1 Z1 K1 V1 F1 AA
 try clear A1 V1 F4 AA K4
 have hHeld:=bH
 clear bH
 try simp only [Act.put,aA,aB,aC]
 refine wpAnyH_ready (rs:= [26]) (by kernel_rfl) (by simp) ?_
 refine AllReadyH.cons rfl (fun KK bF=> ?_) AllReadyH.nil
 go_simp
 go_wp2_with (go_at_call 183;refine C3.out.mono ?_;rintro e w3 ⟨rfl,A1,Z1,K1,V1⟩)
 have F1:=G2.out.trans (Ed s.s2.2.2 s.s2.2.1 s.fo)
 have P:=κ (cO (K:=K) ⟨7,s.kd,s.s1.1,s.s2.1,s.s3.1,0,0⟩ w3 A1 (by have:=HN.out;have:=F1.n;show s.s3.2.2.ops.length<_;unfold Lk.s3;omega))
 have X3:=κ V1
 have BS3:=κ (show w.heap.size≤w3.heap.size by have:=V1.u.size;have:=BS2.out;omega)
 have AA:=LM.fc (s0:=s) A1 F1
 have K3:=κ K1
 have F3:=κ F1
 refine bF.out _ _ ?_ (fun bH=> ?_)
 ·exact⟨AA.1,AA.2.1,AA.2.2.1,AA.2.2.2,K1.c 0 _ rfl⟩
 clear bF KK hHeld
 try clear A1 Z1 K1 V1 F1 AA
 try clear A1 V1 F4 AA K4
 have hHeld:=bH
 clear bH
 try simp only [Act.put,aA,aB,aC]
 refine iR 27 57 (.agg #[.int .i64 7, .int .i64 s.kd, .int .i64 s.s1.1, .int .i64 s.s2.1, .int .i64 s.s3.1, .int .u32 0, .int .i64 0]) rfl rfl (by kernel_rfl) (by kernel_rfl) (by kernel_rfl) (fun _ _ _ h=>h) (Kt.qO (by rfl) _ _ rfl (#[(0, .int .i64 7),(1, .int .i64 s.kd),(2, .int .i64 s.s1.1),(3, .int .i64 s.s2.1),(4, .int .i64 s.s3.1)]) _ (by kernel_rfl) O6) hHeld ?_
 try simp only [Act.put,aA,aB,aC]
 refine wpAnyH_ready (rs:= [28]) (by kernel_rfl) (by simp) ?_
 refine AllReadyH.cons rfl (fun KK bF=> ?_) AllReadyH.nil
 go_simp
 go_wp2_with (go_at_call 54;refine P.out.mono ?_;rintro e w4 ⟨rfl,A1,V1⟩)
 have H4:=κ A1
 have H5:=κ V1
 have F4:=F3.out.trans (aaQ s.s3.2.2 ⟨7,s.kd,s.s1.1,s.s2.1,s.s3.1,0,0⟩)
 have AA:=LM.fc (s0:=s) A1 F4
 have K4:=K3.out.uw V1
 refine bF.out _ _ ?_ (fun bH=> ?_)
 ·exact⟨AA.1,AA.2.1,AA.2.2.1,AA.2.2.2,K4.c 0 _ rfl⟩
 clear bF KK hHeld
 try clear A1 Z1 K1 V1 F1 AA
 try clear A1 V1 F4 AA K4
 have hHeld:=bH
 clear bH
 try simp only [Act.put,aA,aB,aC]
 refine iR 29 2 (.int .i64 s.s3.2.2.n) rfl rfl (by kernel_rfl) (by kernel_rfl) (by kernel_rfl) (fun _ _ _ h=>h) (Kt.qN (by rfl) _ rfl _ rfl) hHeld ?_
 try simp only [Act.put,aA,aB,aC]
 refine wpAnyH_done (by kernel_rfl) ?_ _
 go_wp2
 go_ret
 exact⟨rfl,H4.out,UX.fin ((UX.of U1.out).trans (Nat.le_refl _) (X1.out.trans HS.out (X2.out.trans BS1.out (X3.out.trans BS2.out (UX.of H5.out)))))⟩
open Ot (fC OB)
variable {K:Kc} {s:Lk} {W W':World} {B:Nat}
structure Gw (c:Nat) (s s':Lk):Prop where
 n:s'.ops.length≤s.ops.length+c
 aj:s'.aj=s.aj
 pc:s'.pc=s.pc
 nx:s'.nx=s.nx
 bp:s'.jg=s.jg
 fD:s'.aN=s.aN
theorem Gw.refl (s:Lk):Gw 0 s s:=⟨Nat.le_refl _,rfl,rfl,rfl,rfl,rfl⟩
theorem Gw.trans {a b c:Lk} {m n:Nat} (h:Gw m a b) (k:Gw n b c):Gw (m+n) a c:=⟨by have:=h.n;have:=k.n;omega,k.aj.trans h.aj,k.pc.trans h.pc,k.nx.trans h.nx,k.bp.trans h.bp,k.fD.trans h.fD⟩
theorem Gw.mono {a b:Lk} {m n:Nat} (h:Gw m a b) (hm:m≤n):Gw n a b:=⟨by have:=h.n;omega,h.aj,h.pc,h.nx,h.bp,h.fD⟩
theorem bK (s:Lk) (o:aV):Gw 1 s (s.put o):=⟨Nat.le_of_eq (Lk.yR s o),rfl,rfl,rfl,rfl,rfl⟩
theorem FM (s:Lk) (r:Nat) (x:Int):Gw 0 s (s.bI r x):=⟨Nat.le_refl _,rfl,rfl,rfl,rfl,rfl⟩
theorem FN (s:Lk) (k a b o:Int):Gw 0 s (s.gU k a b o):=⟨Nat.le_refl _,rfl,rfl,rfl,rfl,rfl⟩
theorem lF (s:Lk) (x:Int):Gw 1 s (s.K x).2:=bK s _
theorem jZ (s:Lk) (x y z:Int):Gw 1 s (s.B x y z).2:=bK s _
theorem Ie (s:Lk) (x y:Int):Gw 1 s (s.U x y).2:=bK s _
theorem aaS (s:Lk) (x y z:Int):Gw 1 s (s.S x y z).2:=bK s _
theorem yS (s:Lk) (x y:Int):Gw 1 s (s.slot x y):=bK s _
theorem jV (s:Lk) (x y:Int):Gw 1 s (s.load x y).2:=bK s _
theorem iU (s:Lk) (x y z:Int):Gw 1 s (s.store x y z):=bK s _
theorem iV (s:Lk):Gw 1 s s.watch:=bK s _
theorem bG (s:Lk) (r:Nat):Gw 1 s (s.get r).2:=by
 unfold Lk.get
 split
 ·exact(bK s _).trans (FM _ _ _)
 ·exact(Gw.refl s).mono (by decide)
theorem bM (s:Lk) (r:Nat) (x:Int):Gw 1 s (s.set r x):=(FM s r x).trans (yS _ _ _)
theorem qP (s:Lk) (x y:Int):Gw 2 s (s.add x y).2:=(lF s _).trans (jZ _ _ _ _)
theorem kE (s:Lk) (r:Nat) (m:Int):Gw 3 s (s.ig r m).2:=((bG s r).trans (lF _ _)).trans (jZ _ _ _ _)
theorem yT (s:Lk) (z t:Int):Gw 1 s (s.some z t).2.2:=by
 unfold Lk.some
 split
 ·exact(Gw.refl s).mono (by decide)
 ·split
  ·exact lF s 0
  ·exact(Gw.refl s).mono (by decide)
theorem kG (s:Lk):Gw 5 s s.now.2:=by
 have h0:Gw 1 s s.nJ:=by
  unfold Lk.nJ
  split
  ·exact(Gw.refl s).mono (by decide)
  ·exact(bK s _).trans (FN _ _ _ _ _)
 unfold Lk.now Lk.mX
 generalize s.nJ=t at h0
 split
 ·exact h0.mono (by decide)
 ·exact h0.trans ((((yT t _ _).trans (yT _ _ _)).trans (yT _ _ _)).trans (bK _ _))
theorem pI (s:Lk) (c:Int):Gw 6 s (s.holds c).2:=(kG s).trans (bK _ _)
theorem iL (s:Lk) (w t:Int):Gw 1 s (s.aZ w t):=by
 unfold Lk.aZ
 split
 ·exact yS s w t
 ·exact(Gw.refl s).mono (by decide)
theorem fZ (s:Lk) (k a b o:Int):Gw 5 s (s.flag k a b o):=(((((FN s k a b o).trans (lF _ _)).trans (yS _ _ _)).trans (iL _ _ _)).trans (iL _ _ _)).trans (iL _ _ _)
theorem mG (s:Lk) (a:Int):Gw 5 s (s.push a):=(((bG s 7).trans (qP _ _ _)).trans (iU _ _ _ _)).trans (bM _ _ _)
theorem tu (s:Lk):Gw 5 s s.pop.2:=(((bG s 7).trans (jV _ _ _)).trans (qP _ _ _)).trans (bM _ _ _)
theorem oH (w:World) (a:LM K s w) (hn:s.ops.length+4<1000000000):
  Calls Tryz.prog 119 #[.pointer (some ⟨K.h,0,none⟩)] w fun e w'=>e= .returned (.int .i64 s.now.1)∧LM K s.now.2 w'∧UW K w w':=by
 unfold Lk.now Lk.nJ
 cases hk:s.kn with
 | false=>
  rw [if_neg (by decide)]
  unfold Lk.mX
  rw [if_pos (show((s.put ⟨17,0,0,0,0,0,0⟩).gU 0 (-1) (-1) s.n).kd=0 from rfl)]
  exact WS w a hk (by omega)
 | true=>
  rw [if_pos rfl]
  unfold Lk.mX
  by_cases hd:s.kd=0
  ·rw [if_pos hd];exact Rz w a hk hd
  ·rw [if_neg hd];exact WT w a hk hd (by omega)
theorem tH (c:Int) (w:World) (a:LM K s w) (hn:s.ops.length+5<1000000000):
  Calls Tryz.prog 123 #[.pointer (some ⟨K.h,0,none⟩), .int .i64 c] w fun e w'=>e= .returned (.int .i64 (s.holds c).1)∧LM K (s.holds c).2 w'∧UW K w w':=by
 have P:=κ (oH w a (by omega))
 have G:=κ (kG s)
 have HN:=κ hn
 clear a hn
 go_enter Tryz.func123,Tryz.ntmps123
 go_wp2_with (first
  | (go_at_call 119;refine P.out.mono ?_;rintro e w1 ⟨rfl,A1,U1⟩;have V1:=κ U1;have P2:=κ (cO (K:=K) ⟨8,c,s.now.1,0,0,0,0⟩ w1 A1 (by have:=G.out.n;have:=HN.out;omega));clear A1 U1)
  | (go_at_call 54;refine P2.out.mono ?_;rintro e w2 ⟨rfl,A2,U2⟩;have H2:=κ A2;have V2:=κ U2;clear A2 U2))
 go_ret
 exact⟨rfl,H2.out,V1.out.trans V2.out⟩
theorem rY (x:Int) (w:World) (a:LM K s w) (hc:1≤s.aj∧s.aj≤64) (hn:s.ops.length+5<1000000000):
  Calls Tryz.prog 133 #[.pointer (some ⟨K.h,0,none⟩), .int .i64 x] w fun e w'=>e= .returned (.tuple #[])∧LM K (s.push x) w'∧UW K w w':=by
 have P:=κ (bU 7 (by decide) w a (by omega))
 have G1:=κ (bG s 7)
 have G2:=κ (G1.out.trans (qP (s.get 7).2 (s.get 7).1 (-4)))
 have G3:=κ (G2.out.trans (iU _ 2 ((s.get 7).2.add (s.get 7).1 (-4)).1 x))
 have HN:=κ hn
 have HC:=κ hc
 clear a hn hc
 go_enter Tryz.func133,Tryz.ntmps133
 go_wp2_with (first
  | (go_at_call 118;refine P.out.mono ?_;rintro e w1 ⟨rfl,A1,U1⟩;have V1:=κ U1;have P2:=κ (uU (K:=K) (s.get 7).1 (-4) w1 A1 (by have:=G1.out.n;have:=HN.out;omega));clear A1 U1)
  | (go_at_call 120;refine P2.out.mono ?_;rintro e w2 ⟨rfl,A2,U2⟩;have V2:=κ U2;have P3:=κ (kP (K:=K) 2 ((s.get 7).2.add (s.get 7).1 (-4)).1 x w2 A2 (by rw [G2.out.aj];exact HC.out) (by have:=G2.out.n;have:=HN.out;omega));clear A2 U2)
  | (go_at_call 127;refine P3.out.mono ?_;rintro e w3 ⟨rfl,A3,U3⟩;have V3:=κ U3;have P4:=κ (dA (K:=K) 7 ((s.get 7).2.add (s.get 7).1 (-4)).1 (by decide) w3 A3 (by have:=G3.out.n;have:=HN.out;omega));clear A3 U3)
  | (go_at_call 116;refine P4.out.mono ?_;rintro e w4 ⟨rfl,A4,U4⟩;have H4:=κ A4;have V4:=κ U4;clear A4 U4))
 go_end0
 exact⟨rfl,H4.out,V1.out.trans (V2.out.trans (V3.out.trans V4.out))⟩
theorem yU (w:World) (a:LM K s w) (hc:1≤s.aj∧s.aj≤64) (hn:s.ops.length+5<1000000000):
  Calls Tryz.prog 134 #[.pointer (some ⟨K.h,0,none⟩)] w fun e w'=>e= .returned (.int .i64 s.pop.1)∧LM K s.pop.2 w'∧UW K w w':=by
 have P:=κ (bU 7 (by decide) w a (by omega))
 have G1:=κ (bG s 7)
 have G2:=κ (G1.out.trans (jV (s.get 7).2 4 (s.get 7).1))
 have G3:=κ (G2.out.trans (qP _ (s.get 7).1 4))
 have HN:=κ hn
 have HC:=κ hc
 clear a hn hc
 go_enter Tryz.func134,Tryz.ntmps134
 go_wp2_with (first
  | (go_at_call 118;refine P.out.mono ?_;rintro e w1 ⟨rfl,A1,U1⟩;have V1:=κ U1;have P2:=κ (kW (K:=K) 4 (s.get 7).1 w1 A1 (by rw [G1.out.aj];exact HC.out) (by have:=G1.out.n;have:=HN.out;omega));clear A1 U1)
  | (go_at_call 126;refine P2.out.mono ?_;rintro e w2 ⟨rfl,A2,U2⟩;have V2:=κ U2;have P3:=κ (uU (K:=K) (s.get 7).1 4 w2 A2 (by have:=G2.out.n;have:=HN.out;omega));clear A2 U2)
  | (go_at_call 120;refine P3.out.mono ?_;rintro e w3 ⟨rfl,A3,U3⟩;have V3:=κ U3;have P4:=κ (dA (K:=K) 7 (((s.get 7).2.load 4 (s.get 7).1).2.add (s.get 7).1 4).1 (by decide) w3 A3 (by have:=G3.out.n;have:=HN.out;omega));clear A3 U3)
  | (go_at_call 116;refine P4.out.mono ?_;rintro e w4 ⟨rfl,A4,U4⟩;have H4:=κ A4;have V4:=κ U4;clear A4 U4))
 go_ret
 exact⟨rfl,H4.out,V1.out.trans (V2.out.trans (V3.out.trans V4.out))⟩
open Ot (fC OB)
variable {K:Kc} {s:Lk} {W W':World} {B:Nat}
def Pm (s:Lk) (a b o:Int):Nat→Lk
 | 0=>s
 | 1=>s.aZ 9 a
 | 2=>(s.aZ 9 a).aZ 10 b
 | _=>((s.aZ 9 a).aZ 10 b).aZ 11 o
def tri (a b o:Int) (j:Nat):Int:=if j=0 then a else if j=1 then b else o
theorem LX (s:Lk) (a b o:Int) {j:Nat} (hj:j<3):Pm s a b o (j+1)=(Pm s a b o j).aZ (9+(j:Int)) (tri a b o j):=by
 rcases(show j=0∨j=1∨j=2 by omega) with rfl | rfl | rfl<;>rfl
theorem WU (s:Lk) (a b o:Int):∀j,Gw j s (Pm s a b o j)∨Gw 3 s (Pm s a b o j)
 | 0=> .inl (Gw.refl s)
 | 1=> .inl (iL s _ _)
 | 2=> .inl ((iL s _ _).trans (iL _ _ _))
 | n+3=> .inr (((iL s _ _).trans (iL _ _ _)).trans (iL _ _ _))
theorem dX (kn:Bool) (k x y o:Int) (w:World) (a:LM K s w) (hn:s.ops.length+5<1000000000):
  Calls Tryz.prog 121 #[.pointer (some ⟨K.h,0,none⟩), .agg #[.bool kn, .int .i64 k, .int .i64 x, .int .i64 y, .int .i64 o]] w fun e w'=>e= .returned (.tuple #[])∧LM K (s.flag k x y o) w'∧UW K w w':=by
 have B0:=Bx.new a #[.bool true, .int .i64 k, .int .i64 x, .int .i64 y, .int .i64 o] 108
 have a1:=a.alloc (.cells #[.bool true, .int .i64 k, .int .i64 x, .int .i64 y, .int .i64 o] 108)
 have U0:=κ (UW.alloc a.l (.cells #[.bool true, .int .i64 k, .int .i64 x, .int .i64 y, .int .i64 o] 108))
 have l:=a.l
 have HN:=κ hn
 have A:=κ a1
 have BB:=κ B0
 clear a a1 B0 hn
 go_enter Tryz.func121,Tryz.ntmps121
 go_upto_region 2 with fail
 generalize w.alloc (.cells #[.bool true, .int .i64 k, .int .i64 x, .int .i64 y, .int .i64 o] 108)=w1 at*
 obtain⟨bx,Ba⟩:∃bx,w.heap.size=bx:=⟨_,rfl⟩
 have HBX:=κ Ba
 rw [Ba] at BB⊢
 clear Ba
 have al:=A.out.l
 have f14:=A.out.c 14 (by decide) (by decide)
 have f15:=A.out.c 15 (by decide) (by decide)
 have f16:=A.out.c 16 (by decide) (by decide)
 have f17:=A.out.c 17 (by decide) (by decide)
 have f18:=A.out.c 18 (by decide) (by decide)
 have fz:=A.out.z
 have b0:=BB.out.c 0 _ rfl
 have b1:=BB.out.c 1 _ rfl
 have b2:=BB.out.c 2 _ rfl
 have b3:=BB.out.c 3 _ rfl
 have b4:=BB.out.c 4 _ rfl
 have bl:=BB.out.l
 go_upto_region 3 with fail
 have A2:=A.out.AZ k x y o
 have V2:=UW.AZ (K:=K) (W:=w1) (.bool true) (.int .i64 k) (.int .i64 x) (.int .i64 y) (.int .i64 o)
 have B2:=BB.out.uw V2
 have U2:=κ (U0.out.trans V2)
 clear al f14 f15 f16 f17 f18 fz b0 b1 b2 b3 b4 bl V2 U0 A BB
 generalize((((w1.setCell ⟨K.h,14,none⟩ (.bool true)).setCell ⟨K.h,15,none⟩ (.int .i64 k)).setCell ⟨K.h,16,none⟩ (.int .i64 x)).setCell ⟨K.h,17,none⟩ (.int .i64 y)).setCell ⟨K.h,18,none⟩ (.int .i64 o)=w2 at*
 have b1:=B2.c 1 _ rfl
 have bl:=B2.l
 have BB:=κ B2
 obtain⟨s1,vH⟩:∃s1,s.gU k x y o=s1:=⟨_,rfl⟩
 rw [vH] at A2
 have LY:s1.ops.length=s.ops.length:=by rw [←vH];rfl
 have hn1:s1.n=s.n:=by rw [←vH];rfl
 have HL1:=κ LY
 have HN1:=κ hn1
 have Jo:=κ vH
 have P:=κ (dF (K:=K) (k%4294967296) w2 A2 (by have:=HN.out;omega))
 have hw:IntKind.u32.wrap k=k%4294967296:=IntKind.wrap_u32 k
 clear A2 B2 LY hn1 vH
 go_upto_region 4 with(first
  | (go_at_call 117;refine P.out.mono ?_;rintro e w3 ⟨rfl,A1,U1⟩;have B3:=BB.out.uw U1;have V3:=κ U1;have P2:=κ (wH (K:=K) 8 (s1.K (k%4294967296)).1 w3 A1 (by show(s1.put _).ops.length<_;rw [Lk.yR];have:=HN.out;have:=HL1.out;omega));have HB3:=κ B3;clear A1 U1 B3)
  | (go_at_call 182;refine P2.out.mono ?_;rintro e w4 ⟨rfl,A1,U1⟩;have HA:=κ A1;have B4:=κ (HB3.out.uw U1);have V4:=κ U1;clear A1 U1))
 clear b1 bl hw
 have U4:=κ (U2.out.trans (V3.out.trans V4.out))
 have b2:=B4.out.c 2 _ rfl
 have b3:=B4.out.c 3 _ rfl
 have b4:=B4.out.c 4 _ rfl
 have bl:=B4.out.l
 obtain⟨s2,jW⟩:∃s2,(s1.K (k%4294967296)).2.slot 8 (s1.K (k%4294967296)).1=s2:=⟨_,rfl⟩
 rw [jW] at HA
 have hl2:s2.ops.length=s.ops.length+2:=by
  rw [←jW,←HL1.out]
  show((s1.put _).put _).ops.length=_
  rw [Lk.yR,Lk.yR]
 have HL2:=κ hl2
 have ng:=κ jW
 clear jW hl2 P P2 HB3 BB
 go_wp2
 have A5:=HA.out.alloc (.cells #[.int .i64 x, .int .i64 y, .int .i64 o] 3)
 have T5:=κ (Bx.new HA.out #[.int .i64 x, .int .i64 y, .int .i64 o] 3)
 have U5:=κ (U4.out.trans (UW.alloc HA.out.l (.cells #[.int .i64 x, .int .i64 y, .int .i64 o] 3)))
 have H5:=κ A5
 generalize w4.alloc (.cells #[.int .i64 x, .int .i64 y, .int .i64 o] 3)=w5 at*
 generalize w4.heap.size=bt at*
 clear A5 HA B4 U4 V3 V4 b2 b3 b4 bl
 go_loopg [26] 3 (fun n ix wr=>∃j:Nat,n=3-j∧j≤3∧ix= .int .i64 j∧Hid (LM K (Pm s2 x y o j) wr)∧Hid (Bx K bt #[.int .i64 x, .int .i64 y, .int .i64 o] wr)∧Hid (UW K w wr))
 case atStart=>exact⟨0,rfl,by decide,rfl,H5,T5,U5⟩
 case round=>
  obtain⟨j,hk,hj,rfl,A,T,U⟩:=hrel
  have HK:=κ hk
  clear hk
  by_cases dh:j<3
  ·have pF:(j:Int) <3:=by omega
   have FP:=κ dh
   have ct:wr.cell? ⟨bt,j,none⟩=some (.int .i64 (tri x y o j)):=by
    rcases(show j=0∨j=1∨j=2 by omega) with rfl | rfl | rfl
    ·exact T.out.c 0 _ rfl
    ·exact T.out.c 1 _ rfl
    ·exact T.out.c 2 _ rfl
   have bl:=T.out.l
   have ST:=κ (LX s2 x y o dh)
   obtain⟨t,ht⟩:∃t,tri x y o j=t:=⟨_,rfl⟩
   rw [ht] at ct ST
   have hlen:(Pm s2 x y o j).ops.length<1000000000:=by
    have h1:=HN.out
    have h2:=HL2.out
    rcases WU s2 x y o j with h | h<;>have:=h.n<;>omega
   obtain⟨sj,hsj⟩:∃sj,Pm s2 x y o j=sj:=⟨_,rfl⟩
   rw [hsj] at A ST hlen
   clear ht hsj dh
   by_cases h0:0≤t
   ·have d0:decide (0≤t)=true:=decide_eq_true h0
    have P:=κ (wH (K:=K) (9+(j:Int)) t wr A.out hlen)
    have E:=κ (show Pm s2 x y o (j+1)=sj.slot (9+(j:Int)) t by rw [ST.out];unfold Lk.aZ;rw [if_pos h0])
    clear h0 hlen
    go_wp2_with (go_at_call 182;refine P.out.mono ?_;rintro e w6 ⟨rfl,A1,U1⟩;have HA:=κ A1;have T6:=κ (T.out.uw U1);have U6:=κ (U.out.trans U1);clear A1 U1)
    go_roundg (3-(j+1))
    case measure=>have:=HK.out;have:=FP.out;omega
    case rel=>exact⟨j+1,rfl,FP.out,by simp,κ (by rw [E.out];exact HA.out),T6,U6⟩
   ·have d0:decide (0≤t)=false:=decide_eq_false h0
    have E:=κ (show Pm s2 x y o (j+1)=sj by rw [ST.out];unfold Lk.aZ;rw [if_neg h0])
    clear h0 hlen
    go_wp2
    go_roundg (3-(j+1))
    case measure=>have:=HK.out;have:=FP.out;omega
    case rel=>exact⟨j+1,rfl,FP.out,by simp,κ (by rw [E.out];exact A.out),T,U⟩
  ·obtain rfl:j=3:=by omega
   have E:Pm s2 x y o 3=s.flag k x y o:=by
    rw [←ng.out,←Jo.out];rfl
   have AE:=κ (E▸A.out)
   clear dh hj A E
   go_wp2
   go_end0
   exact⟨rfl,AE.out,U.out⟩
def xB:Array Value:= #[.int .i64 0, .int .i64 1, .int .i64 0, .int .i64 0, .int .i64 1, .int .i64 3, .int .i64 0, .int .i64 0, .int .i64 2, .int .i64 5, .int .i64 3, .int .i64 5, .int .i64 4, .int .i64 5, .int .i64 1, .int .i64 3, .int .i64 2, .int .i64 5, .int .i64 5, .int .i64 6, .int .i64 6, .int .i64 7, .int .i64 7, .int .i64 8, .int .i64 8, .int .i64 9, .int .i64 9, .int .i64 10, .int .i64 11, .int .i64 5, .int .i64 12, .int .i64 5]
theorem dN {B:Nat} {w w':World} (h:Below B w w') (n:Nat):Below B w (w'.drewN n):=⟨h.os,h.tape,h.output,h.size,h.block⟩
theorem Ig:xB.size=32:=by kernel_rfl
theorem LZ:xB.all (·.oneCell')=true:=by kernel_rfl
theorem Ih:(Tryz.prog.info? 308).map (fun i=>(i.zero.map (fun z=>z.cells.size),i.size))=some (some 32,32):=by kernel_rfl
theorem ql (o:Int) (w:World) (h0:0≤o) (h1:o<16):Calls Tryz.prog 185 #[.int .i64 o] w fun e w'=>e= .returned (.tuple #[.int .i64 (way o).1, .int .i64 (way o).2])∧Below w.heap.size w w':=by
 obtain⟨i,hi,O7⟩:=Option.map_eq_some_iff.1 Ih
 simp only [Prod.mk.injEq] at O7
 obtain⟨WV,hz2⟩:=O7
 obtain⟨z,hz,hzs⟩:=Option.map_eq_some_iff.1 WV
 have HI:=κ hi
 have HZ:=κ hz
 have HS:=κ hzs
 have HN:=κ hz2
 clear hi hz hzs hz2 WV
 have C:=fun j v (h:xB[j]?=some v)=>(cell_of_row _ _ _ _ _ _ (heap_alloc_new w (.cells xB 308))).trans h
 have CH:=κ C
 have B1:=κ ((Below.refl _ w).alloc (Nat.le_refl _) (.cells xB 308))
 have L1:w.heap.size<(w.alloc (.cells xB 308)).heap.size:=by simp
 clear C
 go_enter Tryz.func185,Tryz.ntmps185
 go_upto_region 2 with(first
  | ((with_reducible refine yt (o:=⟨some 20,_,_,_,_,_⟩) (v:= .agg xB) ?_ ?_ ?_);(rfl);(kernel_rfl))
  | ((with_reducible refine C9 (o2:=⟨some 4,_,_,_,_,_⟩) (o3:=⟨none,_,_,_,_,_⟩) ?_ ?_ 308 ?_ (.tmp 4) (.tmp 20) ?_ ?_ i z HI.out HZ.out 32 HS.out HN.out xB Ig LZ ?_ ?_ ?_);(rfl);(rfl);(rfl);(rfl);(rfl);(rfl);(rfl)))
 generalize w.alloc (.cells xB 308)=w1 at*
 generalize Value.agg xB=tv
 clear HI HZ HS HN
 rcases(show o=0∨o=1∨o=2∨o=3∨o=4∨o=5∨o=6∨o=7∨o=8∨o=9∨o=10∨o=11∨o=12∨o=13∨o=14∨o=15 by omega) with rfl | rfl | rfl | rfl | rfl | rfl | rfl | rfl | rfl | rfl | rfl | rfl | rfl | rfl | rfl | rfl
 ·have c0:=CH.out 0 (.int .i64 0) (by kernel_rfl)
  have c1:=CH.out 1 (.int .i64 1) (by kernel_rfl)
  clear CH h0 h1
  go_wp2
  go_quiet (fail)
  go_wp2
  go_ret2
  exact⟨rfl,dN (B1.out.alloc B1.out.size _) _⟩
 ·have c0:=CH.out 2 (.int .i64 0) (by kernel_rfl)
  have c1:=CH.out 3 (.int .i64 0) (by kernel_rfl)
  clear CH h0 h1
  go_wp2
  go_quiet (fail)
  go_wp2
  go_ret2
  exact⟨rfl,dN (B1.out.alloc B1.out.size _) _⟩
 ·have c0:=CH.out 4 (.int .i64 1) (by kernel_rfl)
  have c1:=CH.out 5 (.int .i64 3) (by kernel_rfl)
  clear CH h0 h1
  go_wp2
  go_quiet (fail)
  go_wp2
  go_ret2
  exact⟨rfl,dN (B1.out.alloc B1.out.size _) _⟩
 ·have c0:=CH.out 6 (.int .i64 0) (by kernel_rfl)
  have c1:=CH.out 7 (.int .i64 0) (by kernel_rfl)
  clear CH h0 h1
  go_wp2
  go_quiet (fail)
  go_wp2
  go_ret2
  exact⟨rfl,dN (B1.out.alloc B1.out.size _) _⟩
 ·have c0:=CH.out 8 (.int .i64 2) (by kernel_rfl)
  have c1:=CH.out 9 (.int .i64 5) (by kernel_rfl)
  clear CH h0 h1
  go_wp2
  go_quiet (fail)
  go_wp2
  go_ret2
  exact⟨rfl,dN (B1.out.alloc B1.out.size _) _⟩
 ·have c0:=CH.out 10 (.int .i64 3) (by kernel_rfl)
  have c1:=CH.out 11 (.int .i64 5) (by kernel_rfl)
  clear CH h0 h1
  go_wp2
  go_quiet (fail)
  go_wp2
  go_ret2
  exact⟨rfl,dN (B1.out.alloc B1.out.size _) _⟩
 ·have c0:=CH.out 12 (.int .i64 4) (by kernel_rfl)
  have c1:=CH.out 13 (.int .i64 5) (by kernel_rfl)
  clear CH h0 h1
  go_wp2
  go_quiet (fail)
  go_wp2
  go_ret2
  exact⟨rfl,dN (B1.out.alloc B1.out.size _) _⟩
 ·have c0:=CH.out 14 (.int .i64 1) (by kernel_rfl)
  have c1:=CH.out 15 (.int .i64 3) (by kernel_rfl)
  clear CH h0 h1
  go_wp2
  go_quiet (fail)
  go_wp2
  go_ret2
  exact⟨rfl,dN (B1.out.alloc B1.out.size _) _⟩
 ·have c0:=CH.out 16 (.int .i64 2) (by kernel_rfl)
  have c1:=CH.out 17 (.int .i64 5) (by kernel_rfl)
  clear CH h0 h1
  go_wp2
  go_quiet (fail)
  go_wp2
  go_ret2
  exact⟨rfl,dN (B1.out.alloc B1.out.size _) _⟩
 ·have c0:=CH.out 18 (.int .i64 5) (by kernel_rfl)
  have c1:=CH.out 19 (.int .i64 6) (by kernel_rfl)
  clear CH h0 h1
  go_wp2
  go_quiet (fail)
  go_wp2
  go_ret2
  exact⟨rfl,dN (B1.out.alloc B1.out.size _) _⟩
 ·have c0:=CH.out 20 (.int .i64 6) (by kernel_rfl)
  have c1:=CH.out 21 (.int .i64 7) (by kernel_rfl)
  clear CH h0 h1
  go_wp2
  go_quiet (fail)
  go_wp2
  go_ret2
  exact⟨rfl,dN (B1.out.alloc B1.out.size _) _⟩
 ·have c0:=CH.out 22 (.int .i64 7) (by kernel_rfl)
  have c1:=CH.out 23 (.int .i64 8) (by kernel_rfl)
  clear CH h0 h1
  go_wp2
  go_quiet (fail)
  go_wp2
  go_ret2
  exact⟨rfl,dN (B1.out.alloc B1.out.size _) _⟩
 ·have c0:=CH.out 24 (.int .i64 8) (by kernel_rfl)
  have c1:=CH.out 25 (.int .i64 9) (by kernel_rfl)
  clear CH h0 h1
  go_wp2
  go_quiet (fail)
  go_wp2
  go_ret2
  exact⟨rfl,dN (B1.out.alloc B1.out.size _) _⟩
 ·have c0:=CH.out 26 (.int .i64 9) (by kernel_rfl)
  have c1:=CH.out 27 (.int .i64 10) (by kernel_rfl)
  clear CH h0 h1
  go_wp2
  go_quiet (fail)
  go_wp2
  go_ret2
  exact⟨rfl,dN (B1.out.alloc B1.out.size _) _⟩
 ·have c0:=CH.out 28 (.int .i64 11) (by kernel_rfl)
  have c1:=CH.out 29 (.int .i64 5) (by kernel_rfl)
  clear CH h0 h1
  go_wp2
  go_quiet (fail)
  go_wp2
  go_ret2
  exact⟨rfl,dN (B1.out.alloc B1.out.size _) _⟩
 ·have c0:=CH.out 30 (.int .i64 12) (by kernel_rfl)
  have c1:=CH.out 31 (.int .i64 5) (by kernel_rfl)
  clear CH h0 h1
  go_wp2
  go_quiet (fail)
  go_wp2
  go_ret2
  exact⟨rfl,dN (B1.out.alloc B1.out.size _) _⟩
open Ot (fC OB)
variable {K:Kc} {s:Lk} {W W':World} {B:Nat}
theorem RD (s:Lk) (o:Int) (d:Nat) (a b:Int):Gw 17 s (s.mY o d a b):=by
 unfold Lk.mY
 exact((((((((kG s).trans (lF _ _)).trans (jZ _ _ _ _)).trans (lF _ _)).trans (jZ _ _ _ _)).trans (jZ _ _ _ _)).trans (jZ _ _ _ _)).trans (bM _ _ _)).trans (fZ _ _ _ _ _)
theorem WX (x y:Int) (r:Nat) (hr:r<8) (w:World) (a:LM K s w) (hn:s.ops.length+20<1000000000):
  Calls Tryz.prog 184 #[.pointer (some ⟨K.h,0,none⟩), .int .i64 1, .int .i64 r, .int .i64 x, .int .i64 y] w fun e w'=>e= .returned (.tuple #[])∧LM K (s.mY 1 r x y) w'∧UW K w w':=by
 have HN:=κ hn
 have HR:=κ hr
 obtain⟨p1,bP⟩:∃p,s.now=p:=⟨_,rfl⟩
 have g1:Gw 5 s p1.2:=by rw [←bP];exact kG s
 have G1:=κ g1
 clear g1
 obtain⟨p2,dM⟩:∃p,p1.2.K 2=p:=⟨_,rfl⟩
 have g2:Gw 1 p1.2 p2.2:=by rw [←dM];exact lF p1.2 _
 have G2:=κ (G1.out.trans g2)
 clear g2
 obtain⟨p3,je⟩:∃p,p2.2.B 6 p1.1 p2.1=p:=⟨_,rfl⟩
 have g3:Gw 1 p2.2 p3.2:=by rw [←je];exact jZ p2.2 _ _ _
 have G3:=κ (G2.out.trans g3)
 clear g3
 obtain⟨p4,pJ⟩:∃p,p3.2.K 1=p:=⟨_,rfl⟩
 have g4:Gw 1 p3.2 p4.2:=by rw [←pJ];exact lF p3.2 _
 have G4:=κ (G3.out.trans g4)
 clear g4
 obtain⟨p5,uM⟩:∃p,p4.2.B 2 p3.1 p4.1=p:=⟨_,rfl⟩
 have g5:Gw 1 p4.2 p5.2:=by rw [←uM];exact jZ p4.2 _ _ _
 have G5:=κ (G4.out.trans g5)
 clear g5
 obtain⟨p6,Ii⟩:∃p,p5.2.B 0 x y=p:=⟨_,rfl⟩
 have g6:Gw 1 p5.2 p6.2:=by rw [←Ii];exact jZ p5.2 _ _ _
 have G6:=κ (G5.out.trans g6)
 clear g6
 obtain⟨p7,Ij⟩:∃p,p6.2.B 0 p6.1 p5.1=p:=⟨_,rfl⟩
 have g7:Gw 1 p6.2 p7.2:=by rw [←Ij];exact jZ p6.2 _ _ _
 have G7:=κ (G6.out.trans g7)
 clear g7
 obtain⟨p8,Pn⟩:∃p,p7.2.set r p7.1=p:=⟨_,rfl⟩
 have g8:Gw 1 p7.2 p8:=by rw [←Pn];exact bM p7.2 _ _
 have G8:=κ (G7.out.trans g8)
 clear g8
 obtain⟨p9,Po⟩:∃p,p8.flag 2 x y p1.1=p:=⟨_,rfl⟩
 have g9:Gw 5 p8 p9:=by rw [←Po];exact fZ p8 _ _ _ _
 have G9:=κ (G8.out.trans g9)
 clear g9
 have E:s.mY 1 r x y=p9:=by simp only [Lk.mY,bP,dM,je,pJ,uM,Ii,Ij,Pn,Po,Int.reduceEq,↓reduceIte]
 rw [E]
 have P1:=oH (K:=K) w a (by have:=HN.out;omega)
 rw [bP] at P1
 have P1:=κ P1
 clear a hn hr E
 go_enter Tryz.func184,Tryz.ntmps184
 go_wp2_with (first
  | (go_at_call 119;refine P1.out.mono ?_;rintro e w1 ⟨rfl,A1,U1⟩;have V1:=κ U1;have P2:=dF (K:=K) 2 w1 A1 (by have:=G1.out.n;have:=HN.out;omega);rw [dM] at P2;have P2:=κ P2;clear P1 A1 U1)
  | (go_at_call 117;refine P2.out.mono ?_;rintro e w2 ⟨rfl,A1,U1⟩;have V2:=κ U1;have P3:=dQ (K:=K) 6 p1.1 p2.1 w2 A1 (by have:=G2.out.n;have:=HN.out;omega);rw [je] at P3;have P3:=κ P3;clear P2 A1 U1)
  | (go_at_call 135;refine P3.out.mono ?_;rintro e w3 ⟨rfl,A1,U1⟩;have V3:=κ U1;have P4:=dF (K:=K) 1 w3 A1 (by have:=G3.out.n;have:=HN.out;omega);rw [pJ] at P4;have P4:=κ P4;clear P3 A1 U1)
  | (go_at_call 117;refine P4.out.mono ?_;rintro e w4 ⟨rfl,A1,U1⟩;have V4:=κ U1;have P5:=dQ (K:=K) 2 p3.1 p4.1 w4 A1 (by have:=G4.out.n;have:=HN.out;omega);rw [uM] at P5;have P5:=κ P5;clear P4 A1 U1)
  | (go_at_call 135;refine P5.out.mono ?_;rintro e w5 ⟨rfl,A1,U1⟩;have V5:=κ U1;have P6:=dQ (K:=K) 0 x y w5 A1 (by have:=G5.out.n;have:=HN.out;omega);rw [Ii] at P6;have P6:=κ P6;clear P5 A1 U1)
  | (go_at_call 135;refine P6.out.mono ?_;rintro e w6 ⟨rfl,A1,U1⟩;have V6:=κ U1;have P7:=dQ (K:=K) 0 p6.1 p5.1 w6 A1 (by have:=G6.out.n;have:=HN.out;omega);rw [Ij] at P7;have P7:=κ P7;clear P6 A1 U1)
  | (go_at_call 135;refine P7.out.mono ?_;rintro e w7 ⟨rfl,A1,U1⟩;have V7:=κ U1;have P8:=dA (K:=K) r p7.1 HR.out w7 A1 (by have:=G7.out.n;have:=HN.out;omega);rw [Pn] at P8;have P8:=κ P8;clear P7 A1 U1)
  | (go_at_call 116;refine P8.out.mono ?_;rintro e w8 ⟨rfl,A1,U1⟩;have V8:=κ U1;have P9:=dX (K:=K) false 2 x y p1.1 w8 A1 (by have:=G8.out.n;have:=HN.out;omega);rw [Po] at P9;have P9:=κ P9;clear P8 A1 U1)
  | (go_at_call 121;refine P9.out.mono ?_;rintro e w9 ⟨rfl,A1,U1⟩;have V9:=κ U1;have HL:=κ A1;clear P9 A1 U1))
 go_end0
 exact⟨rfl,HL.out,(V1.out.trans (V2.out.trans (V3.out.trans (V4.out.trans (V5.out.trans (V6.out.trans (V7.out.trans (V8.out.trans V9.out))))))))⟩
theorem Xa (x y:Int) (r:Nat) (hr:r<8) (w:World) (a:LM K s w) (hn:s.ops.length+20<1000000000):
  Calls Tryz.prog 184 #[.pointer (some ⟨K.h,0,none⟩), .int .i64 3, .int .i64 r, .int .i64 x, .int .i64 y] w fun e w'=>e= .returned (.tuple #[])∧LM K (s.mY 3 r x y) w'∧UW K w w':=by
 have HN:=κ hn
 have HR:=κ hr
 obtain⟨p1,bP⟩:∃p,s.now=p:=⟨_,rfl⟩
 have g1:Gw 5 s p1.2:=by rw [←bP];exact kG s
 have G1:=κ g1
 clear g1
 obtain⟨p2,dM⟩:∃p,p1.2.K 2=p:=⟨_,rfl⟩
 have g2:Gw 1 p1.2 p2.2:=by rw [←dM];exact lF p1.2 _
 have G2:=κ (G1.out.trans g2)
 clear g2
 obtain⟨p3,je⟩:∃p,p2.2.B 6 p1.1 p2.1=p:=⟨_,rfl⟩
 have g3:Gw 1 p2.2 p3.2:=by rw [←je];exact jZ p2.2 _ _ _
 have G3:=κ (G2.out.trans g3)
 clear g3
 obtain⟨p4,pJ⟩:∃p,p3.2.K 1=p:=⟨_,rfl⟩
 have g4:Gw 1 p3.2 p4.2:=by rw [←pJ];exact lF p3.2 _
 have G4:=κ (G3.out.trans g4)
 clear g4
 obtain⟨p5,uM⟩:∃p,p4.2.B 2 p3.1 p4.1=p:=⟨_,rfl⟩
 have g5:Gw 1 p4.2 p5.2:=by rw [←uM];exact jZ p4.2 _ _ _
 have G5:=κ (G4.out.trans g5)
 clear g5
 obtain⟨p6,Ii⟩:∃p,p5.2.B 1 x y=p:=⟨_,rfl⟩
 have g6:Gw 1 p5.2 p6.2:=by rw [←Ii];exact jZ p5.2 _ _ _
 have G6:=κ (G5.out.trans g6)
 clear g6
 obtain⟨p7,Ij⟩:∃p,p6.2.B 1 p6.1 p5.1=p:=⟨_,rfl⟩
 have g7:Gw 1 p6.2 p7.2:=by rw [←Ij];exact jZ p6.2 _ _ _
 have G7:=κ (G6.out.trans g7)
 clear g7
 obtain⟨p8,Pn⟩:∃p,p7.2.set r p7.1=p:=⟨_,rfl⟩
 have g8:Gw 1 p7.2 p8:=by rw [←Pn];exact bM p7.2 _ _
 have G8:=κ (G7.out.trans g8)
 clear g8
 obtain⟨p9,Po⟩:∃p,p8.flag 4 x y p1.1=p:=⟨_,rfl⟩
 have g9:Gw 5 p8 p9:=by rw [←Po];exact fZ p8 _ _ _ _
 have G9:=κ (G8.out.trans g9)
 clear g9
 have E:s.mY 3 r x y=p9:=by simp only [Lk.mY,bP,dM,je,pJ,uM,Ii,Ij,Pn,Po,Int.reduceEq,↓reduceIte]
 rw [E]
 have P1:=oH (K:=K) w a (by have:=HN.out;omega)
 rw [bP] at P1
 have P1:=κ P1
 clear a hn hr E
 go_enter Tryz.func184,Tryz.ntmps184
 go_wp2_with (first
  | (go_at_call 119;refine P1.out.mono ?_;rintro e w1 ⟨rfl,A1,U1⟩;have V1:=κ U1;have P2:=dF (K:=K) 2 w1 A1 (by have:=G1.out.n;have:=HN.out;omega);rw [dM] at P2;have P2:=κ P2;clear P1 A1 U1)
  | (go_at_call 117;refine P2.out.mono ?_;rintro e w2 ⟨rfl,A1,U1⟩;have V2:=κ U1;have P3:=dQ (K:=K) 6 p1.1 p2.1 w2 A1 (by have:=G2.out.n;have:=HN.out;omega);rw [je] at P3;have P3:=κ P3;clear P2 A1 U1)
  | (go_at_call 135;refine P3.out.mono ?_;rintro e w3 ⟨rfl,A1,U1⟩;have V3:=κ U1;have P4:=dF (K:=K) 1 w3 A1 (by have:=G3.out.n;have:=HN.out;omega);rw [pJ] at P4;have P4:=κ P4;clear P3 A1 U1)
  | (go_at_call 117;refine P4.out.mono ?_;rintro e w4 ⟨rfl,A1,U1⟩;have V4:=κ U1;have P5:=dQ (K:=K) 2 p3.1 p4.1 w4 A1 (by have:=G4.out.n;have:=HN.out;omega);rw [uM] at P5;have P5:=κ P5;clear P4 A1 U1)
  | (go_at_call 135;refine P5.out.mono ?_;rintro e w5 ⟨rfl,A1,U1⟩;have V5:=κ U1;have P6:=dQ (K:=K) 1 x y w5 A1 (by have:=G5.out.n;have:=HN.out;omega);rw [Ii] at P6;have P6:=κ P6;clear P5 A1 U1)
  | (go_at_call 135;refine P6.out.mono ?_;rintro e w6 ⟨rfl,A1,U1⟩;have V6:=κ U1;have P7:=dQ (K:=K) 1 p6.1 p5.1 w6 A1 (by have:=G6.out.n;have:=HN.out;omega);rw [Ij] at P7;have P7:=κ P7;clear P6 A1 U1)
  | (go_at_call 135;refine P7.out.mono ?_;rintro e w7 ⟨rfl,A1,U1⟩;have V7:=κ U1;have P8:=dA (K:=K) r p7.1 HR.out w7 A1 (by have:=G7.out.n;have:=HN.out;omega);rw [Pn] at P8;have P8:=κ P8;clear P7 A1 U1)
  | (go_at_call 116;refine P8.out.mono ?_;rintro e w8 ⟨rfl,A1,U1⟩;have V8:=κ U1;have P9:=dX (K:=K) false 4 x y p1.1 w8 A1 (by have:=G8.out.n;have:=HN.out;omega);rw [Po] at P9;have P9:=κ P9;clear P8 A1 U1)
  | (go_at_call 121;refine P9.out.mono ?_;rintro e w9 ⟨rfl,A1,U1⟩;have V9:=κ U1;have HL:=κ A1;clear P9 A1 U1))
 go_end0
 exact⟨rfl,HL.out,(V1.out.trans (V2.out.trans (V3.out.trans (V4.out.trans (V5.out.trans (V6.out.trans (V7.out.trans (V8.out.trans V9.out))))))))⟩
structure AL (K:Kc) (w0:World) (s:Lk) (bx:Nat) (cs:Array Value) (W:World):Prop where
 m:LM K s W
 u:UX K w0.heap.size w0 W
 b:Bx K bx cs W
 g:w0.heap.size≤bx
variable {w0:World} {bx:Nat} {cs:Array Value}
theorem AL.call {s':Lk} (h:AL K w0 s bx cs W) (A:LM K s' W') (U:UW K W W'):AL K w0 s' bx cs W':=⟨A,h.u.trans (Nat.le_refl _) (UX.of U),h.b.uw U,h.g⟩
theorem AL.new {a:World} (m:LM K s a) (u:UW K w0 a) (cs:Array Value) (t:TypeId):AL K w0 s a.heap.size cs (a.alloc (.cells cs t)):=⟨m.alloc _,UX.of (u.trans (UW.alloc m.l _)),Bx.new m cs t,u.u.size⟩
theorem Bx.L6 {b:Nat} (h:Bx K b cs W) (j:Nat) (v:Value):Bx K b (cs.setIfInBounds j v) (W.setCell ⟨b,j,none⟩ v):=by
 refine⟨by simpa using h.l,fun i u hi=> ?_,fun i=>by simpa using h.z i,fun e=> ?_⟩
 ·by_cases e:i=j
  ·subst e
   have hs:i<cs.size:=by
    have:=(Array.getElem?_eq_some_iff.1 hi).1
    simpa using this
   rw [Array.getElem?_setIfInBounds_self_of_lt hs] at hi
   obtain rfl:=Option.some.inj hi
   exact World.cell?_setCell_same _ _ _ (h.c i _ (Array.getElem?_eq_getElem hs))
  ·rw [Array.getElem?_setIfInBounds_ne (fun h=>e h.symm)] at hi
   rw [HM.aH e];exact h.c i u hi
 ·rcases e with e | e
  ·exact h.n (.inl e)
  ·have hh:b≠K.h:=fun e=>h.n (.inl e)
   obtain⟨x,h1,h2⟩:=e
   exact h.n (.inr ⟨x,(World.cell?_setCell_other _ _ _ _ (fun hx=>hh (congrArg Addr.block hx))).symm.trans h1,h2⟩)
theorem AL.put (h:AL K w0 s bx cs W) (j:Nat) (v:Value):AL K w0 s bx (cs.setIfInBounds j v) (W.setCell ⟨bx,j,none⟩ v):=
 ⟨h.m.apart h.b.n h.b.l j v,h.u.trans (Nat.le_refl _) (UX.set bx j v h.g (fun e=>h.b.n (.inl e))),h.b.L6 j v,h.g⟩
theorem AL.fin (h:AL K w0 s bx cs W):UW K w0 W:=h.u.fin
theorem AL.five {v0 v1 v2 v3 v4:Value} (h:AL K w0 s bx #[v0,v1,v2,v3,v4] W):W.cell? ⟨bx,0,none⟩=some v0∧W.cell? ⟨bx,1,none⟩=some v1∧W.cell? ⟨bx,2,none⟩=some v2∧W.cell? ⟨bx,3,none⟩=some v3∧W.cell? ⟨bx,4,none⟩=some v4∧bx<W.heap.size∧(∀j,W.frozen? ⟨bx,j,none⟩=false)∧K.h<W.heap.size:=
 ⟨h.b.c 0 _ rfl,h.b.c 1 _ rfl,h.b.c 2 _ rfl,h.b.c 3 _ rfl,h.b.c 4 _ rfl,h.b.l,h.b.z,h.m.l⟩
end Go.Proofs.YtcjcmnnhmajocabGreat.Lf
