import Derived.Test.YtcjcmnnhmajocabPmbc
set_option linter.unusedVariables false
set_option linter.unusedSimpArgs false
set_option maxRecDepth 100000
set_option maxHeartbeats 16000000
namespace Go.Proofs.Ytcjcmnnhmajocab.Gn
open Go.RowKit Kt Ic Hr Ho Me
variable {K:Gk} {g:Gm}
theorem boxes (w:World) (a:GM K g w) (X Y:Array Value) (t u:TypeId):GM (K.add w.heap.size) g ((w.alloc (.cells X t)).alloc (.cells Y u))∧Bx w.heap.size X ((w.alloc (.cells X t)).alloc (.cells Y u))∧Bx (w.heap.size+1) Y ((w.alloc (.cells X t)).alloc (.cells Y u))∧ah (SG (K.add w.heap.size)) w ((w.alloc (.cells X t)).alloc (.cells Y u)):=by
 have u0:=((ah.refl (fun _=>False) w).alloc (.cells X t)).alloc (.cells Y u)
 have b:=Bx.new (w.alloc (.cells X t)) Y u
 rw [show(w.alloc (.cells X t)).heap.size=w.heap.size+1 by simp] at b
 exact⟨a.add u0 (by simp),(Bx.new w X t).upto ((ah.refl (fun _=>False) _).alloc (.cells Y u)) id,b,u0.mono fun _ _ h=>h.elim⟩
theorem Bv (i:Nat) (ow oa ob oc kn n r0 r1 r2:Int) (w:World) (a:GM K g w):
  Calls Try.prog 96 #[.pointer (some ⟨K.h,0,none⟩), .int .i64 i, .agg #[.int .i64 1, .int .i64 ow, .int .i64 oa, .int .i64 ob, .int .i64 oc, .int .u32 kn, .int .i64 n], .agg #[.int .i64 r0, .int .i64 r1, .int .i64 r2]] w fun e w'=>e= .returned (.tuple #[])∧GM K g w'∧ah (SG K) w w':=by
 have A:=κ ((a.alloc (.cells #[.int .i64 1, .int .i64 ow, .int .i64 oa, .int .i64 ob, .int .i64 oc, .int .u32 kn, .int .i64 n] 31)).alloc (.cells #[.int .i64 r0, .int .i64 r1, .int .i64 r2] 175))
 have U:=κ (((ah.refl (SG K) w).alloc (.cells #[.int .i64 1, .int .i64 ow, .int .i64 oa, .int .i64 ob, .int .i64 oc, .int .u32 kn, .int .i64 n] 31)).alloc (.cells #[.int .i64 r0, .int .i64 r1, .int .i64 r2] 175))
 clear a
 go_enter Try.func96,Try.ntmps96
 go_wp2
 exact bodyPost_ret (v:= .tuple #[]) (by simp [results,Try.results96,go_sem]) rfl ⟨rfl,A.out,U.out⟩
theorem Tz (i d:Nat) (ow oa ob oc kn n r0 r1 r2:Int) (w:World) (a:GM K g w) (lW:0≤ow) (xY:ow<16) (hR:K.R≤16) (hh:∀r,r<16→g.holds r<K.os.length) (hf:emp (g.au.dN K.R) 0 K.R=none→∃b,I7 K.os K.R (g.au.dN K.R) b) (hn:(dF g.xs).length≤999990)
  (hd:g.au.uT K.R=d) (d16:d<16) (hi:i<K.os.length) (hx:oL ⟨6,d,r0,r1,r2,ow,0,0⟩):
  Calls Try.prog 96 #[.pointer (some ⟨K.h,0,none⟩), .int .i64 i, .agg #[.int .i64 2, .int .i64 ow, .int .i64 oa, .int .i64 ob, .int .i64 oc, .int .u32 kn, .int .i64 n], .agg #[.int .i64 r0, .int .i64 r1, .int .i64 r2]] w fun e w'=>e= .returned (.tuple #[])∧GM K (((g.au.gU K.os K.R).put ⟨6,d,r0,r1,r2,ow,0,0⟩).has d i) w'∧ah (SG K) w w':=by
 obtain⟨a1,bo,br,u1⟩:=boxes w a #[.int .i64 2, .int .i64 ow, .int .i64 oa, .int .i64 ob, .int .i64 oc, .int .u32 kn, .int .i64 n] #[.int .i64 r0, .int .i64 r1, .int .i64 r2] 31 175
 have hs:=gX K.h
 have je:(Builtin.clear_ #[79] 0 #[.slice (some ⟨K.h,23,none⟩) 16 16]).run Try.prog ((w.alloc (.cells #[.int .i64 2, .int .i64 ow, .int .i64 oa, .int .i64 ob, .int .i64 oc, .int .u32 kn, .int .i64 n] 31)).alloc (.cells #[.int .i64 r0, .int .i64 r1, .int .i64 r2] 175))= .ok (.tuple #[]) (((w.alloc (.cells #[.int .i64 2, .int .i64 ow, .int .i64 oa, .int .i64 ob, .int .i64 oc, .int .u32 kn, .int .i64 n] 31)).alloc (.cells #[.int .i64 r0, .int .i64 r1, .int .i64 r2] 175)).setCells K.h 23 (iI 16)):=gW (K:=K.add w.heap.size) _ a1 0
 have lB:=a.lb
 have lh:=a.lh
 have lv:=a.lv
 have PL:Hid (∀w2,GM (K.add w.heap.size) g.au w2→Calls Try.prog 161 #[.pointer (some ⟨K.h,0,none⟩)] w2 fun e w'=>e= .returned (.int .i64 (g.au.uT K.R))∧GM (K.add w.heap.size) (g.au.gU K.os K.R) w'∧ah (SG (K.add w.heap.size)) w2 w'):=fun w2 a=>iJ (K:=K.add w.heap.size) (g:=g.au) w2 a hR hh hf (show(dF g.au.xs).length≤1000000 from Nat.le_trans hn (by decide))
 rw [hd] at PL
 have qp:(dF (g.au.gU K.os K.R).xs).length≤1000000:=by
  have h1:(dF (g.au.gU K.os K.R).xs).length≤(dF g.xs).length+3:=by
   unfold Gm.gU
   split
   ·rw [fK];exact Nat.le_add_right _ _
   ·exact Nat.le_trans (jT _ _ _) (by rw [fK];exact Nat.le_refl _)
  omega
 generalize g.au.gU K.os K.R=g2 at PL qp⊢
 have PU:Hid (∀w2,GM (K.add w.heap.size) g2 w2→Calls Try.prog 47 #[.pointer (some ⟨K.h,0,none⟩), .agg #[.int .i64 6, .int .i64 d, .int .i64 r0, .int .i64 r1, .int .i64 r2, .int .i64 ow, .int .u32 0, .int .u32 0]] w2 fun e w'=>e= .returned (.tuple #[])∧GM (K.add w.heap.size) (g2.put ⟨6,d,r0,r1,r2,ow,0,0⟩) w'∧ah (SG (K.add w.heap.size)) w2 w'):=fun w2 a=>dR (K:=K.add w.heap.size) (g:=g2) ⟨6,d,r0,r1,r2,ow,0,0⟩ w2 a hx qp
 have HA:Hid (∀w2,GM (K.add w.heap.size) (g2.put ⟨6,d,r0,r1,r2,ow,0,0⟩) w2→Calls Try.prog 160 #[.pointer (some ⟨K.h,0,none⟩), .int .i64 d, .int .i64 i] w2 fun e w'=>e= .returned (.tuple #[])∧GM (K.add w.heap.size) ((g2.put ⟨6,d,r0,r1,r2,ow,0,0⟩).has d i) w'∧ah (SG (K.add w.heap.size)) w2 w'):=fun w2 a=>jD (K:=K.add w.heap.size) (g:=g2.put ⟨6,d,r0,r1,r2,ow,0,0⟩) d i w2 a d16 hi
 generalize g2.put ⟨6,d,r0,r1,r2,ow,0,0⟩=g3 at PU HA⊢
 generalize g3.has d i=g4 at HA⊢
 have A:=κ a1
 have BO:=κ bo
 have BR:=κ br
 have U:=κ u1
 have l:=a1.l
 have o0:=bo.2.1 0 _ rfl
 have HH:=κ hh
 clear a1 bo br u1 a hd hx qp hf hn hR hh
 go_enter Try.func96,Try.ntmps96
 go_upto_region 3 with fail
 have A2:=κ A.out.au
 have qw:=κ (BO.out.upto (ah.setCells (S:=fun i=>i=K.h) rfl (iI 16) _ 23 (ah.refl _ _)) (by omega))
 have qx:=κ (BR.out.upto (ah.setCells (S:=fun i=>i=K.h) rfl (iI 16) _ 23 (ah.refl _ _)) (by omega))
 have U2:=κ (ah.setCells (p:=K.h) (S:=SG (K.add w.heap.size)) (.inl rfl) (iI 16) _ 23 U.out)
 have A2:Hid (GM (K.add w.heap.size) g.au (World.setCells _ K.h 23 (iI 16))):=A2
 generalize World.setCells _ K.h 23 (iI 16)=w1 at A2 qw qx U2⊢
 clear hs je o0 A BO BR U l
 go_upto_region 4 with(go_at_call 161;refine(PL.out _ A2.out).mono ?_;rintro e w2 ⟨rfl,a3,u3⟩;have A3:=κ a3;have kK:=κ (qw.out.upto u3 (SG.box lh lv lB ⟨Nat.le_refl _,by omega⟩));have mY:=κ (qx.out.upto u3 (SG.box lh lv lB ⟨by omega,by omega⟩));have U3:=κ (U2.out.trans u3);clear a3 u3)
 clear PL A2 qw qx U2
 have q0:=mY.out.2.1 0 _ rfl
 have q1:=mY.out.2.1 1 _ rfl
 have q2:=mY.out.2.1 2 _ rfl
 have l1:=mY.out.1
 go_upto_region 5 with fail
 clear q0 q1 q2
 have sz:w.heap.size<w2.heap.size:=by have:=kK.out.1;omega
 have o0:=kK.out.2.1 0 _ rfl
 have o1:=kK.out.2.1 1 _ rfl
 have o5:=kK.out.2.1 5 _ rfl
 have o6:=kK.out.2.1 6 _ rfl
 go_upto_region 7 with fail
 go_region
 go_wp2_with (first
  | (go_at_call 47;refine(PU.out _ (A3.out.alloc _).drew).mono ?_;rintro e w4 ⟨rfl,a4,u4⟩;have A4:=κ a4;have U4:=κ ((U3.out.alloc _).drew.trans u4);clear a4 u4)
  | (go_at_call 160;refine(HA.out _ A4.out).mono ?_;rintro e w5 ⟨rfl,a5,u5⟩;have U5:=κ (U4.out.trans u5)))
 go_end0
 exact⟨rfl,a5.drop,SG.drop U5.out⟩
theorem Ol (i d:Nat) (ow oa ob oc kn n r0 r1 r2:Int) (w:World) (a:GM K g w) (lW:0≤ow) (xY:ow<16) (hR:K.R≤16) (hh:∀r,r<16→g.holds r<K.os.length) (hf:emp (g.au.dN K.R) 0 K.R=none→∃b,I7 K.os K.R (g.au.dN K.R) b) (hn:(dF g.xs).length≤999990)
  (hd:g.au.uT K.R=d) (d16:d<16) (hi:i<K.os.length) (hx:oL ⟨97,d,r0,r1,r2,0,0,0⟩):
  Calls Try.prog 96 #[.pointer (some ⟨K.h,0,none⟩), .int .i64 i, .agg #[.int .i64 17, .int .i64 ow, .int .i64 oa, .int .i64 ob, .int .i64 oc, .int .u32 kn, .int .i64 n], .agg #[.int .i64 r0, .int .i64 r1, .int .i64 r2]] w fun e w'=>e= .returned (.tuple #[])∧GM K (((g.au.gU K.os K.R).put ⟨97,d,r0,r1,r2,0,0,0⟩).has d i) w'∧ah (SG K) w w':=by
 obtain⟨a1,bo,br,u1⟩:=boxes w a #[.int .i64 17, .int .i64 ow, .int .i64 oa, .int .i64 ob, .int .i64 oc, .int .u32 kn, .int .i64 n] #[.int .i64 r0, .int .i64 r1, .int .i64 r2] 31 175
 have hs:=gX K.h
 have je:(Builtin.clear_ #[79] 0 #[.slice (some ⟨K.h,23,none⟩) 16 16]).run Try.prog ((w.alloc (.cells #[.int .i64 17, .int .i64 ow, .int .i64 oa, .int .i64 ob, .int .i64 oc, .int .u32 kn, .int .i64 n] 31)).alloc (.cells #[.int .i64 r0, .int .i64 r1, .int .i64 r2] 175))= .ok (.tuple #[]) (((w.alloc (.cells #[.int .i64 17, .int .i64 ow, .int .i64 oa, .int .i64 ob, .int .i64 oc, .int .u32 kn, .int .i64 n] 31)).alloc (.cells #[.int .i64 r0, .int .i64 r1, .int .i64 r2] 175)).setCells K.h 23 (iI 16)):=gW (K:=K.add w.heap.size) _ a1 0
 have lB:=a.lb
 have lh:=a.lh
 have lv:=a.lv
 have PL:Hid (∀w2,GM (K.add w.heap.size) g.au w2→Calls Try.prog 161 #[.pointer (some ⟨K.h,0,none⟩)] w2 fun e w'=>e= .returned (.int .i64 (g.au.uT K.R))∧GM (K.add w.heap.size) (g.au.gU K.os K.R) w'∧ah (SG (K.add w.heap.size)) w2 w'):=fun w2 a=>iJ (K:=K.add w.heap.size) (g:=g.au) w2 a hR hh hf (show(dF g.au.xs).length≤1000000 from Nat.le_trans hn (by decide))
 rw [hd] at PL
 have qp:(dF (g.au.gU K.os K.R).xs).length≤1000000:=by
  have h1:(dF (g.au.gU K.os K.R).xs).length≤(dF g.xs).length+3:=by
   unfold Gm.gU
   split
   ·rw [fK];exact Nat.le_add_right _ _
   ·exact Nat.le_trans (jT _ _ _) (by rw [fK];exact Nat.le_refl _)
  omega
 generalize g.au.gU K.os K.R=g2 at PL qp⊢
 have PU:Hid (∀w2,GM (K.add w.heap.size) g2 w2→Calls Try.prog 47 #[.pointer (some ⟨K.h,0,none⟩), .agg #[.int .i64 97, .int .i64 d, .int .i64 r0, .int .i64 r1, .int .i64 r2, .int .i64 0, .int .u32 0, .int .u32 0]] w2 fun e w'=>e= .returned (.tuple #[])∧GM (K.add w.heap.size) (g2.put ⟨97,d,r0,r1,r2,0,0,0⟩) w'∧ah (SG (K.add w.heap.size)) w2 w'):=fun w2 a=>dR (K:=K.add w.heap.size) (g:=g2) ⟨97,d,r0,r1,r2,0,0,0⟩ w2 a hx qp
 have HA:Hid (∀w2,GM (K.add w.heap.size) (g2.put ⟨97,d,r0,r1,r2,0,0,0⟩) w2→Calls Try.prog 160 #[.pointer (some ⟨K.h,0,none⟩), .int .i64 d, .int .i64 i] w2 fun e w'=>e= .returned (.tuple #[])∧GM (K.add w.heap.size) ((g2.put ⟨97,d,r0,r1,r2,0,0,0⟩).has d i) w'∧ah (SG (K.add w.heap.size)) w2 w'):=fun w2 a=>jD (K:=K.add w.heap.size) (g:=g2.put ⟨97,d,r0,r1,r2,0,0,0⟩) d i w2 a d16 hi
 generalize g2.put ⟨97,d,r0,r1,r2,0,0,0⟩=g3 at PU HA⊢
 generalize g3.has d i=g4 at HA⊢
 have A:=κ a1
 have BO:=κ bo
 have BR:=κ br
 have U:=κ u1
 have l:=a1.l
 have o0:=bo.2.1 0 _ rfl
 have HH:=κ hh
 clear a1 bo br u1 a hd hx qp hf hn hR hh
 go_enter Try.func96,Try.ntmps96
 go_upto_region 3 with fail
 have A2:=κ A.out.au
 have qw:=κ (BO.out.upto (ah.setCells (S:=fun i=>i=K.h) rfl (iI 16) _ 23 (ah.refl _ _)) (by omega))
 have qx:=κ (BR.out.upto (ah.setCells (S:=fun i=>i=K.h) rfl (iI 16) _ 23 (ah.refl _ _)) (by omega))
 have U2:=κ (ah.setCells (p:=K.h) (S:=SG (K.add w.heap.size)) (.inl rfl) (iI 16) _ 23 U.out)
 have A2:Hid (GM (K.add w.heap.size) g.au (World.setCells _ K.h 23 (iI 16))):=A2
 generalize World.setCells _ K.h 23 (iI 16)=w1 at A2 qw qx U2⊢
 clear hs je o0 A BO BR U l
 go_upto_region 4 with(go_at_call 161;refine(PL.out _ A2.out).mono ?_;rintro e w2 ⟨rfl,a3,u3⟩;have A3:=κ a3;have kK:=κ (qw.out.upto u3 (SG.box lh lv lB ⟨Nat.le_refl _,by omega⟩));have mY:=κ (qx.out.upto u3 (SG.box lh lv lB ⟨by omega,by omega⟩));have U3:=κ (U2.out.trans u3);clear a3 u3)
 clear PL A2 qw qx U2
 have q0:=mY.out.2.1 0 _ rfl
 have q1:=mY.out.2.1 1 _ rfl
 have q2:=mY.out.2.1 2 _ rfl
 have l1:=mY.out.1
 go_upto_region 5 with fail
 clear q0 q1 q2
 have sz:w.heap.size<w2.heap.size:=by have:=kK.out.1;omega
 have o0:=kK.out.2.1 0 _ rfl
 have o1:=kK.out.2.1 1 _ rfl
 have o5:=kK.out.2.1 5 _ rfl
 have o6:=kK.out.2.1 6 _ rfl
 go_upto_region 9 with fail
 go_upto_region 22 with fail
 go_wp2_with (first
  | (go_at_call 47;refine(PU.out _ (A3.out.alloc _)).mono ?_;rintro e w4 ⟨rfl,a4,u4⟩;have A4:=κ a4;have U4:=κ ((U3.out.alloc _).trans u4);clear a4 u4)
  | (go_at_call 160;refine(HA.out _ A4.out).mono ?_;rintro e w5 ⟨rfl,a5,u5⟩;have U5:=κ (U4.out.trans u5)))
 go_end0
 exact⟨rfl,a5.drop,SG.drop U5.out⟩
theorem TF (i d:Nat) (ow oa ob oc kn n r0 r1 r2:Int) (w:World) (a:GM K g w) (lW:0≤ow) (xY:ow<16) (hR:K.R≤16) (hh:∀r,r<16→g.holds r<K.os.length) (hf:emp (g.au.dN K.R) 0 K.R=none→∃b,I7 K.os K.R (g.au.dN K.R) b) (hn:(dF g.xs).length≤999990)
  (hd:g.au.uT K.R=d) (d16:d<16) (hi:i<K.os.length) (hx:oL ⟨(16+ow),d,r0,r1,r2,0,0,0⟩):
  Calls Try.prog 96 #[.pointer (some ⟨K.h,0,none⟩), .int .i64 i, .agg #[.int .i64 4, .int .i64 ow, .int .i64 oa, .int .i64 ob, .int .i64 oc, .int .u32 kn, .int .i64 n], .agg #[.int .i64 r0, .int .i64 r1, .int .i64 r2]] w fun e w'=>e= .returned (.tuple #[])∧GM K (((g.au.gU K.os K.R).put ⟨(16+ow),d,r0,r1,r2,0,0,0⟩).has d i) w'∧ah (SG K) w w':=by
 obtain⟨a1,bo,br,u1⟩:=boxes w a #[.int .i64 4, .int .i64 ow, .int .i64 oa, .int .i64 ob, .int .i64 oc, .int .u32 kn, .int .i64 n] #[.int .i64 r0, .int .i64 r1, .int .i64 r2] 31 175
 have hs:=gX K.h
 have je:(Builtin.clear_ #[79] 0 #[.slice (some ⟨K.h,23,none⟩) 16 16]).run Try.prog ((w.alloc (.cells #[.int .i64 4, .int .i64 ow, .int .i64 oa, .int .i64 ob, .int .i64 oc, .int .u32 kn, .int .i64 n] 31)).alloc (.cells #[.int .i64 r0, .int .i64 r1, .int .i64 r2] 175))= .ok (.tuple #[]) (((w.alloc (.cells #[.int .i64 4, .int .i64 ow, .int .i64 oa, .int .i64 ob, .int .i64 oc, .int .u32 kn, .int .i64 n] 31)).alloc (.cells #[.int .i64 r0, .int .i64 r1, .int .i64 r2] 175)).setCells K.h 23 (iI 16)):=gW (K:=K.add w.heap.size) _ a1 0
 have lB:=a.lb
 have lh:=a.lh
 have lv:=a.lv
 have PL:Hid (∀w2,GM (K.add w.heap.size) g.au w2→Calls Try.prog 161 #[.pointer (some ⟨K.h,0,none⟩)] w2 fun e w'=>e= .returned (.int .i64 (g.au.uT K.R))∧GM (K.add w.heap.size) (g.au.gU K.os K.R) w'∧ah (SG (K.add w.heap.size)) w2 w'):=fun w2 a=>iJ (K:=K.add w.heap.size) (g:=g.au) w2 a hR hh hf (show(dF g.au.xs).length≤1000000 from Nat.le_trans hn (by decide))
 rw [hd] at PL
 have qp:(dF (g.au.gU K.os K.R).xs).length≤1000000:=by
  have h1:(dF (g.au.gU K.os K.R).xs).length≤(dF g.xs).length+3:=by
   unfold Gm.gU
   split
   ·rw [fK];exact Nat.le_add_right _ _
   ·exact Nat.le_trans (jT _ _ _) (by rw [fK];exact Nat.le_refl _)
  omega
 generalize g.au.gU K.os K.R=g2 at PL qp⊢
 have PU:Hid (∀w2,GM (K.add w.heap.size) g2 w2→Calls Try.prog 47 #[.pointer (some ⟨K.h,0,none⟩), .agg #[.int .i64 (16+ow), .int .i64 d, .int .i64 r0, .int .i64 r1, .int .i64 r2, .int .i64 0, .int .u32 0, .int .u32 0]] w2 fun e w'=>e= .returned (.tuple #[])∧GM (K.add w.heap.size) (g2.put ⟨(16+ow),d,r0,r1,r2,0,0,0⟩) w'∧ah (SG (K.add w.heap.size)) w2 w'):=fun w2 a=>dR (K:=K.add w.heap.size) (g:=g2) ⟨(16+ow),d,r0,r1,r2,0,0,0⟩ w2 a hx qp
 have HA:Hid (∀w2,GM (K.add w.heap.size) (g2.put ⟨(16+ow),d,r0,r1,r2,0,0,0⟩) w2→Calls Try.prog 160 #[.pointer (some ⟨K.h,0,none⟩), .int .i64 d, .int .i64 i] w2 fun e w'=>e= .returned (.tuple #[])∧GM (K.add w.heap.size) ((g2.put ⟨(16+ow),d,r0,r1,r2,0,0,0⟩).has d i) w'∧ah (SG (K.add w.heap.size)) w2 w'):=fun w2 a=>jD (K:=K.add w.heap.size) (g:=g2.put ⟨(16+ow),d,r0,r1,r2,0,0,0⟩) d i w2 a d16 hi
 generalize g2.put ⟨(16+ow),d,r0,r1,r2,0,0,0⟩=g3 at PU HA⊢
 generalize g3.has d i=g4 at HA⊢
 have A:=κ a1
 have BO:=κ bo
 have BR:=κ br
 have U:=κ u1
 have l:=a1.l
 have o0:=bo.2.1 0 _ rfl
 have HH:=κ hh
 clear a1 bo br u1 a hd hx qp hf hn hR hh
 go_enter Try.func96,Try.ntmps96
 go_upto_region 3 with fail
 have A2:=κ A.out.au
 have qw:=κ (BO.out.upto (ah.setCells (S:=fun i=>i=K.h) rfl (iI 16) _ 23 (ah.refl _ _)) (by omega))
 have qx:=κ (BR.out.upto (ah.setCells (S:=fun i=>i=K.h) rfl (iI 16) _ 23 (ah.refl _ _)) (by omega))
 have U2:=κ (ah.setCells (p:=K.h) (S:=SG (K.add w.heap.size)) (.inl rfl) (iI 16) _ 23 U.out)
 have A2:Hid (GM (K.add w.heap.size) g.au (World.setCells _ K.h 23 (iI 16))):=A2
 generalize World.setCells _ K.h 23 (iI 16)=w1 at A2 qw qx U2⊢
 clear hs je o0 A BO BR U l
 go_upto_region 4 with(go_at_call 161;refine(PL.out _ A2.out).mono ?_;rintro e w2 ⟨rfl,a3,u3⟩;have A3:=κ a3;have kK:=κ (qw.out.upto u3 (SG.box lh lv lB ⟨Nat.le_refl _,by omega⟩));have mY:=κ (qx.out.upto u3 (SG.box lh lv lB ⟨by omega,by omega⟩));have U3:=κ (U2.out.trans u3);clear a3 u3)
 clear PL A2 qw qx U2
 have q0:=mY.out.2.1 0 _ rfl
 have q1:=mY.out.2.1 1 _ rfl
 have q2:=mY.out.2.1 2 _ rfl
 have l1:=mY.out.1
 go_upto_region 5 with fail
 clear q0 q1 q2
 have sz:w.heap.size<w2.heap.size:=by have:=kK.out.1;omega
 have o0:=kK.out.2.1 0 _ rfl
 have o1:=kK.out.2.1 1 _ rfl
 have o5:=kK.out.2.1 5 _ rfl
 have o6:=kK.out.2.1 6 _ rfl
 go_upto_region 11 with fail
 go_upto_region 22 with fail
 go_wp2_with (first
  | (go_at_call 47;refine(PU.out _ (A3.out.alloc _)).mono ?_;rintro e w4 ⟨rfl,a4,u4⟩;have A4:=κ a4;have U4:=κ ((U3.out.alloc _).trans u4);clear a4 u4)
  | (go_at_call 160;refine(HA.out _ A4.out).mono ?_;rintro e w5 ⟨rfl,a5,u5⟩;have U5:=κ (U4.out.trans u5)))
 go_end0
 exact⟨rfl,a5.drop,SG.drop U5.out⟩
theorem TG (i d:Nat) (ow oa ob oc kn n r0 r1 r2:Int) (w:World) (a:GM K g w) (lW:0≤ow) (xY:ow<16) (hR:K.R≤16) (hh:∀r,r<16→g.holds r<K.os.length) (hf:emp (g.au.dN K.R) 0 K.R=none→∃b,I7 K.os K.R (g.au.dN K.R) b) (hn:(dF g.xs).length≤999990)
  (hd:g.au.uT K.R=d) (d16:d<16) (hi:i<K.os.length) (hx:oL ⟨(32+ow),d,r0,r1,r2,0,0,0⟩):
  Calls Try.prog 96 #[.pointer (some ⟨K.h,0,none⟩), .int .i64 i, .agg #[.int .i64 5, .int .i64 ow, .int .i64 oa, .int .i64 ob, .int .i64 oc, .int .u32 kn, .int .i64 n], .agg #[.int .i64 r0, .int .i64 r1, .int .i64 r2]] w fun e w'=>e= .returned (.tuple #[])∧GM K (((g.au.gU K.os K.R).put ⟨(32+ow),d,r0,r1,r2,0,0,0⟩).has d i) w'∧ah (SG K) w w':=by
 obtain⟨a1,bo,br,u1⟩:=boxes w a #[.int .i64 5, .int .i64 ow, .int .i64 oa, .int .i64 ob, .int .i64 oc, .int .u32 kn, .int .i64 n] #[.int .i64 r0, .int .i64 r1, .int .i64 r2] 31 175
 have hs:=gX K.h
 have je:(Builtin.clear_ #[79] 0 #[.slice (some ⟨K.h,23,none⟩) 16 16]).run Try.prog ((w.alloc (.cells #[.int .i64 5, .int .i64 ow, .int .i64 oa, .int .i64 ob, .int .i64 oc, .int .u32 kn, .int .i64 n] 31)).alloc (.cells #[.int .i64 r0, .int .i64 r1, .int .i64 r2] 175))= .ok (.tuple #[]) (((w.alloc (.cells #[.int .i64 5, .int .i64 ow, .int .i64 oa, .int .i64 ob, .int .i64 oc, .int .u32 kn, .int .i64 n] 31)).alloc (.cells #[.int .i64 r0, .int .i64 r1, .int .i64 r2] 175)).setCells K.h 23 (iI 16)):=gW (K:=K.add w.heap.size) _ a1 0
 have lB:=a.lb
 have lh:=a.lh
 have lv:=a.lv
 have PL:Hid (∀w2,GM (K.add w.heap.size) g.au w2→Calls Try.prog 161 #[.pointer (some ⟨K.h,0,none⟩)] w2 fun e w'=>e= .returned (.int .i64 (g.au.uT K.R))∧GM (K.add w.heap.size) (g.au.gU K.os K.R) w'∧ah (SG (K.add w.heap.size)) w2 w'):=fun w2 a=>iJ (K:=K.add w.heap.size) (g:=g.au) w2 a hR hh hf (show(dF g.au.xs).length≤1000000 from Nat.le_trans hn (by decide))
 rw [hd] at PL
 have qp:(dF (g.au.gU K.os K.R).xs).length≤1000000:=by
  have h1:(dF (g.au.gU K.os K.R).xs).length≤(dF g.xs).length+3:=by
   unfold Gm.gU
   split
   ·rw [fK];exact Nat.le_add_right _ _
   ·exact Nat.le_trans (jT _ _ _) (by rw [fK];exact Nat.le_refl _)
  omega
 generalize g.au.gU K.os K.R=g2 at PL qp⊢
 have PU:Hid (∀w2,GM (K.add w.heap.size) g2 w2→Calls Try.prog 47 #[.pointer (some ⟨K.h,0,none⟩), .agg #[.int .i64 (32+ow), .int .i64 d, .int .i64 r0, .int .i64 r1, .int .i64 r2, .int .i64 0, .int .u32 0, .int .u32 0]] w2 fun e w'=>e= .returned (.tuple #[])∧GM (K.add w.heap.size) (g2.put ⟨(32+ow),d,r0,r1,r2,0,0,0⟩) w'∧ah (SG (K.add w.heap.size)) w2 w'):=fun w2 a=>dR (K:=K.add w.heap.size) (g:=g2) ⟨(32+ow),d,r0,r1,r2,0,0,0⟩ w2 a hx qp
 have HA:Hid (∀w2,GM (K.add w.heap.size) (g2.put ⟨(32+ow),d,r0,r1,r2,0,0,0⟩) w2→Calls Try.prog 160 #[.pointer (some ⟨K.h,0,none⟩), .int .i64 d, .int .i64 i] w2 fun e w'=>e= .returned (.tuple #[])∧GM (K.add w.heap.size) ((g2.put ⟨(32+ow),d,r0,r1,r2,0,0,0⟩).has d i) w'∧ah (SG (K.add w.heap.size)) w2 w'):=fun w2 a=>jD (K:=K.add w.heap.size) (g:=g2.put ⟨(32+ow),d,r0,r1,r2,0,0,0⟩) d i w2 a d16 hi
 generalize g2.put ⟨(32+ow),d,r0,r1,r2,0,0,0⟩=g3 at PU HA⊢
 generalize g3.has d i=g4 at HA⊢
 have A:=κ a1
 have BO:=κ bo
 have BR:=κ br
 have U:=κ u1
 have l:=a1.l
 have o0:=bo.2.1 0 _ rfl
 have HH:=κ hh
 clear a1 bo br u1 a hd hx qp hf hn hR hh
 go_enter Try.func96,Try.ntmps96
 go_upto_region 3 with fail
 have A2:=κ A.out.au
 have qw:=κ (BO.out.upto (ah.setCells (S:=fun i=>i=K.h) rfl (iI 16) _ 23 (ah.refl _ _)) (by omega))
 have qx:=κ (BR.out.upto (ah.setCells (S:=fun i=>i=K.h) rfl (iI 16) _ 23 (ah.refl _ _)) (by omega))
 have U2:=κ (ah.setCells (p:=K.h) (S:=SG (K.add w.heap.size)) (.inl rfl) (iI 16) _ 23 U.out)
 have A2:Hid (GM (K.add w.heap.size) g.au (World.setCells _ K.h 23 (iI 16))):=A2
 generalize World.setCells _ K.h 23 (iI 16)=w1 at A2 qw qx U2⊢
 clear hs je o0 A BO BR U l
 go_upto_region 4 with(go_at_call 161;refine(PL.out _ A2.out).mono ?_;rintro e w2 ⟨rfl,a3,u3⟩;have A3:=κ a3;have kK:=κ (qw.out.upto u3 (SG.box lh lv lB ⟨Nat.le_refl _,by omega⟩));have mY:=κ (qx.out.upto u3 (SG.box lh lv lB ⟨by omega,by omega⟩));have U3:=κ (U2.out.trans u3);clear a3 u3)
 clear PL A2 qw qx U2
 have q0:=mY.out.2.1 0 _ rfl
 have q1:=mY.out.2.1 1 _ rfl
 have q2:=mY.out.2.1 2 _ rfl
 have l1:=mY.out.1
 go_upto_region 5 with fail
 clear q0 q1 q2
 have sz:w.heap.size<w2.heap.size:=by have:=kK.out.1;omega
 have o0:=kK.out.2.1 0 _ rfl
 have o1:=kK.out.2.1 1 _ rfl
 have o5:=kK.out.2.1 5 _ rfl
 have o6:=kK.out.2.1 6 _ rfl
 go_upto_region 13 with fail
 go_upto_region 22 with fail
 go_wp2_with (first
  | (go_at_call 47;refine(PU.out _ (A3.out.alloc _)).mono ?_;rintro e w4 ⟨rfl,a4,u4⟩;have A4:=κ a4;have U4:=κ ((U3.out.alloc _).trans u4);clear a4 u4)
  | (go_at_call 160;refine(HA.out _ A4.out).mono ?_;rintro e w5 ⟨rfl,a5,u5⟩;have U5:=κ (U4.out.trans u5)))
 go_end0
 exact⟨rfl,a5.drop,SG.drop U5.out⟩
theorem TI (i d:Nat) (ow oa ob oc kn n r0 r1 r2:Int) (w:World) (a:GM K g w) (lW:0≤ow) (xY:ow<16) (hR:K.R≤16) (hh:∀r,r<16→g.holds r<K.os.length) (hf:emp (g.au.dN K.R) 0 K.R=none→∃b,I7 K.os K.R (g.au.dN K.R) b) (hn:(dF g.xs).length≤999990)
  (hd:g.au.uT K.R=d) (d16:d<16) (hi:i<K.os.length) (hx:oL ⟨5,d,r0,r1,r2,0,0,0⟩):
  Calls Try.prog 96 #[.pointer (some ⟨K.h,0,none⟩), .int .i64 i, .agg #[.int .i64 6, .int .i64 ow, .int .i64 oa, .int .i64 ob, .int .i64 oc, .int .u32 kn, .int .i64 n], .agg #[.int .i64 r0, .int .i64 r1, .int .i64 r2]] w fun e w'=>e= .returned (.tuple #[])∧GM K (((g.au.gU K.os K.R).put ⟨5,d,r0,r1,r2,0,0,0⟩).has d i) w'∧ah (SG K) w w':=by
 obtain⟨a1,bo,br,u1⟩:=boxes w a #[.int .i64 6, .int .i64 ow, .int .i64 oa, .int .i64 ob, .int .i64 oc, .int .u32 kn, .int .i64 n] #[.int .i64 r0, .int .i64 r1, .int .i64 r2] 31 175
 have hs:=gX K.h
 have je:(Builtin.clear_ #[79] 0 #[.slice (some ⟨K.h,23,none⟩) 16 16]).run Try.prog ((w.alloc (.cells #[.int .i64 6, .int .i64 ow, .int .i64 oa, .int .i64 ob, .int .i64 oc, .int .u32 kn, .int .i64 n] 31)).alloc (.cells #[.int .i64 r0, .int .i64 r1, .int .i64 r2] 175))= .ok (.tuple #[]) (((w.alloc (.cells #[.int .i64 6, .int .i64 ow, .int .i64 oa, .int .i64 ob, .int .i64 oc, .int .u32 kn, .int .i64 n] 31)).alloc (.cells #[.int .i64 r0, .int .i64 r1, .int .i64 r2] 175)).setCells K.h 23 (iI 16)):=gW (K:=K.add w.heap.size) _ a1 0
 have lB:=a.lb
 have lh:=a.lh
 have lv:=a.lv
 have PL:Hid (∀w2,GM (K.add w.heap.size) g.au w2→Calls Try.prog 161 #[.pointer (some ⟨K.h,0,none⟩)] w2 fun e w'=>e= .returned (.int .i64 (g.au.uT K.R))∧GM (K.add w.heap.size) (g.au.gU K.os K.R) w'∧ah (SG (K.add w.heap.size)) w2 w'):=fun w2 a=>iJ (K:=K.add w.heap.size) (g:=g.au) w2 a hR hh hf (show(dF g.au.xs).length≤1000000 from Nat.le_trans hn (by decide))
 rw [hd] at PL
 have qp:(dF (g.au.gU K.os K.R).xs).length≤1000000:=by
  have h1:(dF (g.au.gU K.os K.R).xs).length≤(dF g.xs).length+3:=by
   unfold Gm.gU
   split
   ·rw [fK];exact Nat.le_add_right _ _
   ·exact Nat.le_trans (jT _ _ _) (by rw [fK];exact Nat.le_refl _)
  omega
 generalize g.au.gU K.os K.R=g2 at PL qp⊢
 have PU:Hid (∀w2,GM (K.add w.heap.size) g2 w2→Calls Try.prog 47 #[.pointer (some ⟨K.h,0,none⟩), .agg #[.int .i64 5, .int .i64 d, .int .i64 r0, .int .i64 r1, .int .i64 r2, .int .i64 0, .int .u32 0, .int .u32 0]] w2 fun e w'=>e= .returned (.tuple #[])∧GM (K.add w.heap.size) (g2.put ⟨5,d,r0,r1,r2,0,0,0⟩) w'∧ah (SG (K.add w.heap.size)) w2 w'):=fun w2 a=>dR (K:=K.add w.heap.size) (g:=g2) ⟨5,d,r0,r1,r2,0,0,0⟩ w2 a hx qp
 have HA:Hid (∀w2,GM (K.add w.heap.size) (g2.put ⟨5,d,r0,r1,r2,0,0,0⟩) w2→Calls Try.prog 160 #[.pointer (some ⟨K.h,0,none⟩), .int .i64 d, .int .i64 i] w2 fun e w'=>e= .returned (.tuple #[])∧GM (K.add w.heap.size) ((g2.put ⟨5,d,r0,r1,r2,0,0,0⟩).has d i) w'∧ah (SG (K.add w.heap.size)) w2 w'):=fun w2 a=>jD (K:=K.add w.heap.size) (g:=g2.put ⟨5,d,r0,r1,r2,0,0,0⟩) d i w2 a d16 hi
 generalize g2.put ⟨5,d,r0,r1,r2,0,0,0⟩=g3 at PU HA⊢
 generalize g3.has d i=g4 at HA⊢
 have A:=κ a1
 have BO:=κ bo
 have BR:=κ br
 have U:=κ u1
 have l:=a1.l
 have o0:=bo.2.1 0 _ rfl
 have HH:=κ hh
 clear a1 bo br u1 a hd hx qp hf hn hR hh
 go_enter Try.func96,Try.ntmps96
 go_upto_region 3 with fail
 have A2:=κ A.out.au
 have qw:=κ (BO.out.upto (ah.setCells (S:=fun i=>i=K.h) rfl (iI 16) _ 23 (ah.refl _ _)) (by omega))
 have qx:=κ (BR.out.upto (ah.setCells (S:=fun i=>i=K.h) rfl (iI 16) _ 23 (ah.refl _ _)) (by omega))
 have U2:=κ (ah.setCells (p:=K.h) (S:=SG (K.add w.heap.size)) (.inl rfl) (iI 16) _ 23 U.out)
 have A2:Hid (GM (K.add w.heap.size) g.au (World.setCells _ K.h 23 (iI 16))):=A2
 generalize World.setCells _ K.h 23 (iI 16)=w1 at A2 qw qx U2⊢
 clear hs je o0 A BO BR U l
 go_upto_region 4 with(go_at_call 161;refine(PL.out _ A2.out).mono ?_;rintro e w2 ⟨rfl,a3,u3⟩;have A3:=κ a3;have kK:=κ (qw.out.upto u3 (SG.box lh lv lB ⟨Nat.le_refl _,by omega⟩));have mY:=κ (qx.out.upto u3 (SG.box lh lv lB ⟨by omega,by omega⟩));have U3:=κ (U2.out.trans u3);clear a3 u3)
 clear PL A2 qw qx U2
 have q0:=mY.out.2.1 0 _ rfl
 have q1:=mY.out.2.1 1 _ rfl
 have q2:=mY.out.2.1 2 _ rfl
 have l1:=mY.out.1
 go_upto_region 5 with fail
 clear q0 q1 q2
 have sz:w.heap.size<w2.heap.size:=by have:=kK.out.1;omega
 have o0:=kK.out.2.1 0 _ rfl
 have o1:=kK.out.2.1 1 _ rfl
 have o5:=kK.out.2.1 5 _ rfl
 have o6:=kK.out.2.1 6 _ rfl
 go_upto_region 15 with fail
 go_upto_region 22 with fail
 go_wp2_with (first
  | (go_at_call 47;refine(PU.out _ (A3.out.alloc _)).mono ?_;rintro e w4 ⟨rfl,a4,u4⟩;have A4:=κ a4;have U4:=κ ((U3.out.alloc _).trans u4);clear a4 u4)
  | (go_at_call 160;refine(HA.out _ A4.out).mono ?_;rintro e w5 ⟨rfl,a5,u5⟩;have U5:=κ (U4.out.trans u5)))
 go_end0
 exact⟨rfl,a5.drop,SG.drop U5.out⟩
theorem TJ (i d:Nat) (ow oa ob oc kn n r0 r1 r2:Int) (w:World) (a:GM K g w) (lW:0≤ow) (xY:ow<16) (hR:K.R≤16) (hh:∀r,r<16→g.holds r<K.os.length) (hf:emp (g.au.dN K.R) 0 K.R=none→∃b,I7 K.os K.R (g.au.dN K.R) b) (hn:(dF g.xs).length≤999990)
  (hd:g.au.uT K.R=d) (d16:d<16) (hi:i<K.os.length) (hx:oL ⟨(48+ow),d,r0,r1,r2,0,0,0⟩):
  Calls Try.prog 96 #[.pointer (some ⟨K.h,0,none⟩), .int .i64 i, .agg #[.int .i64 7, .int .i64 ow, .int .i64 oa, .int .i64 ob, .int .i64 oc, .int .u32 kn, .int .i64 n], .agg #[.int .i64 r0, .int .i64 r1, .int .i64 r2]] w fun e w'=>e= .returned (.tuple #[])∧GM K (((g.au.gU K.os K.R).put ⟨(48+ow),d,r0,r1,r2,0,0,0⟩).has d i) w'∧ah (SG K) w w':=by
 obtain⟨a1,bo,br,u1⟩:=boxes w a #[.int .i64 7, .int .i64 ow, .int .i64 oa, .int .i64 ob, .int .i64 oc, .int .u32 kn, .int .i64 n] #[.int .i64 r0, .int .i64 r1, .int .i64 r2] 31 175
 have hs:=gX K.h
 have je:(Builtin.clear_ #[79] 0 #[.slice (some ⟨K.h,23,none⟩) 16 16]).run Try.prog ((w.alloc (.cells #[.int .i64 7, .int .i64 ow, .int .i64 oa, .int .i64 ob, .int .i64 oc, .int .u32 kn, .int .i64 n] 31)).alloc (.cells #[.int .i64 r0, .int .i64 r1, .int .i64 r2] 175))= .ok (.tuple #[]) (((w.alloc (.cells #[.int .i64 7, .int .i64 ow, .int .i64 oa, .int .i64 ob, .int .i64 oc, .int .u32 kn, .int .i64 n] 31)).alloc (.cells #[.int .i64 r0, .int .i64 r1, .int .i64 r2] 175)).setCells K.h 23 (iI 16)):=gW (K:=K.add w.heap.size) _ a1 0
 have lB:=a.lb
 have lh:=a.lh
 have lv:=a.lv
 have PL:Hid (∀w2,GM (K.add w.heap.size) g.au w2→Calls Try.prog 161 #[.pointer (some ⟨K.h,0,none⟩)] w2 fun e w'=>e= .returned (.int .i64 (g.au.uT K.R))∧GM (K.add w.heap.size) (g.au.gU K.os K.R) w'∧ah (SG (K.add w.heap.size)) w2 w'):=fun w2 a=>iJ (K:=K.add w.heap.size) (g:=g.au) w2 a hR hh hf (show(dF g.au.xs).length≤1000000 from Nat.le_trans hn (by decide))
 rw [hd] at PL
 have qp:(dF (g.au.gU K.os K.R).xs).length≤1000000:=by
  have h1:(dF (g.au.gU K.os K.R).xs).length≤(dF g.xs).length+3:=by
   unfold Gm.gU
   split
   ·rw [fK];exact Nat.le_add_right _ _
   ·exact Nat.le_trans (jT _ _ _) (by rw [fK];exact Nat.le_refl _)
  omega
 generalize g.au.gU K.os K.R=g2 at PL qp⊢
 have PU:Hid (∀w2,GM (K.add w.heap.size) g2 w2→Calls Try.prog 47 #[.pointer (some ⟨K.h,0,none⟩), .agg #[.int .i64 (48+ow), .int .i64 d, .int .i64 r0, .int .i64 r1, .int .i64 r2, .int .i64 0, .int .u32 0, .int .u32 0]] w2 fun e w'=>e= .returned (.tuple #[])∧GM (K.add w.heap.size) (g2.put ⟨(48+ow),d,r0,r1,r2,0,0,0⟩) w'∧ah (SG (K.add w.heap.size)) w2 w'):=fun w2 a=>dR (K:=K.add w.heap.size) (g:=g2) ⟨(48+ow),d,r0,r1,r2,0,0,0⟩ w2 a hx qp
 have HA:Hid (∀w2,GM (K.add w.heap.size) (g2.put ⟨(48+ow),d,r0,r1,r2,0,0,0⟩) w2→Calls Try.prog 160 #[.pointer (some ⟨K.h,0,none⟩), .int .i64 d, .int .i64 i] w2 fun e w'=>e= .returned (.tuple #[])∧GM (K.add w.heap.size) ((g2.put ⟨(48+ow),d,r0,r1,r2,0,0,0⟩).has d i) w'∧ah (SG (K.add w.heap.size)) w2 w'):=fun w2 a=>jD (K:=K.add w.heap.size) (g:=g2.put ⟨(48+ow),d,r0,r1,r2,0,0,0⟩) d i w2 a d16 hi
 generalize g2.put ⟨(48+ow),d,r0,r1,r2,0,0,0⟩=g3 at PU HA⊢
 generalize g3.has d i=g4 at HA⊢
 have A:=κ a1
 have BO:=κ bo
 have BR:=κ br
 have U:=κ u1
 have l:=a1.l
 have o0:=bo.2.1 0 _ rfl
 have HH:=κ hh
 clear a1 bo br u1 a hd hx qp hf hn hR hh
 go_enter Try.func96,Try.ntmps96
 go_upto_region 3 with fail
 have A2:=κ A.out.au
 have qw:=κ (BO.out.upto (ah.setCells (S:=fun i=>i=K.h) rfl (iI 16) _ 23 (ah.refl _ _)) (by omega))
 have qx:=κ (BR.out.upto (ah.setCells (S:=fun i=>i=K.h) rfl (iI 16) _ 23 (ah.refl _ _)) (by omega))
 have U2:=κ (ah.setCells (p:=K.h) (S:=SG (K.add w.heap.size)) (.inl rfl) (iI 16) _ 23 U.out)
 have A2:Hid (GM (K.add w.heap.size) g.au (World.setCells _ K.h 23 (iI 16))):=A2
 generalize World.setCells _ K.h 23 (iI 16)=w1 at A2 qw qx U2⊢
 clear hs je o0 A BO BR U l
 go_upto_region 4 with(go_at_call 161;refine(PL.out _ A2.out).mono ?_;rintro e w2 ⟨rfl,a3,u3⟩;have A3:=κ a3;have kK:=κ (qw.out.upto u3 (SG.box lh lv lB ⟨Nat.le_refl _,by omega⟩));have mY:=κ (qx.out.upto u3 (SG.box lh lv lB ⟨by omega,by omega⟩));have U3:=κ (U2.out.trans u3);clear a3 u3)
 clear PL A2 qw qx U2
 have q0:=mY.out.2.1 0 _ rfl
 have q1:=mY.out.2.1 1 _ rfl
 have q2:=mY.out.2.1 2 _ rfl
 have l1:=mY.out.1
 go_upto_region 5 with fail
 clear q0 q1 q2
 have sz:w.heap.size<w2.heap.size:=by have:=kK.out.1;omega
 have o0:=kK.out.2.1 0 _ rfl
 have o1:=kK.out.2.1 1 _ rfl
 have o5:=kK.out.2.1 5 _ rfl
 have o6:=kK.out.2.1 6 _ rfl
 go_upto_region 17 with fail
 go_upto_region 22 with fail
 go_wp2_with (first
  | (go_at_call 47;refine(PU.out _ (A3.out.alloc _)).mono ?_;rintro e w4 ⟨rfl,a4,u4⟩;have A4:=κ a4;have U4:=κ ((U3.out.alloc _).trans u4);clear a4 u4)
  | (go_at_call 160;refine(HA.out _ A4.out).mono ?_;rintro e w5 ⟨rfl,a5,u5⟩;have U5:=κ (U4.out.trans u5)))
 go_end0
 exact⟨rfl,a5.drop,SG.drop U5.out⟩
theorem TM (i d:Nat) (ow oa ob oc kn n r0 r1 r2:Int) (w:World) (a:GM K g w) (lW:0≤ow) (xY:ow<16) (hR:K.R≤16) (hh:∀r,r<16→g.holds r<K.os.length) (hf:emp (g.au.dN K.R) 0 K.R=none→∃b,I7 K.os K.R (g.au.dN K.R) b) (hn:(dF g.xs).length≤999990)
  (hd:g.au.uT K.R=d) (d16:d<16) (hi:i<K.os.length) (hx:oL ⟨(64+ow),d,r0,r1,r2,0,0,0⟩):
  Calls Try.prog 96 #[.pointer (some ⟨K.h,0,none⟩), .int .i64 i, .agg #[.int .i64 8, .int .i64 ow, .int .i64 oa, .int .i64 ob, .int .i64 oc, .int .u32 kn, .int .i64 n], .agg #[.int .i64 r0, .int .i64 r1, .int .i64 r2]] w fun e w'=>e= .returned (.tuple #[])∧GM K (((g.au.gU K.os K.R).put ⟨(64+ow),d,r0,r1,r2,0,0,0⟩).has d i) w'∧ah (SG K) w w':=by
 obtain⟨a1,bo,br,u1⟩:=boxes w a #[.int .i64 8, .int .i64 ow, .int .i64 oa, .int .i64 ob, .int .i64 oc, .int .u32 kn, .int .i64 n] #[.int .i64 r0, .int .i64 r1, .int .i64 r2] 31 175
 have hs:=gX K.h
 have je:(Builtin.clear_ #[79] 0 #[.slice (some ⟨K.h,23,none⟩) 16 16]).run Try.prog ((w.alloc (.cells #[.int .i64 8, .int .i64 ow, .int .i64 oa, .int .i64 ob, .int .i64 oc, .int .u32 kn, .int .i64 n] 31)).alloc (.cells #[.int .i64 r0, .int .i64 r1, .int .i64 r2] 175))= .ok (.tuple #[]) (((w.alloc (.cells #[.int .i64 8, .int .i64 ow, .int .i64 oa, .int .i64 ob, .int .i64 oc, .int .u32 kn, .int .i64 n] 31)).alloc (.cells #[.int .i64 r0, .int .i64 r1, .int .i64 r2] 175)).setCells K.h 23 (iI 16)):=gW (K:=K.add w.heap.size) _ a1 0
 have lB:=a.lb
 have lh:=a.lh
 have lv:=a.lv
 have PL:Hid (∀w2,GM (K.add w.heap.size) g.au w2→Calls Try.prog 161 #[.pointer (some ⟨K.h,0,none⟩)] w2 fun e w'=>e= .returned (.int .i64 (g.au.uT K.R))∧GM (K.add w.heap.size) (g.au.gU K.os K.R) w'∧ah (SG (K.add w.heap.size)) w2 w'):=fun w2 a=>iJ (K:=K.add w.heap.size) (g:=g.au) w2 a hR hh hf (show(dF g.au.xs).length≤1000000 from Nat.le_trans hn (by decide))
 rw [hd] at PL
 have qp:(dF (g.au.gU K.os K.R).xs).length≤1000000:=by
  have h1:(dF (g.au.gU K.os K.R).xs).length≤(dF g.xs).length+3:=by
   unfold Gm.gU
   split
   ·rw [fK];exact Nat.le_add_right _ _
   ·exact Nat.le_trans (jT _ _ _) (by rw [fK];exact Nat.le_refl _)
  omega
 generalize g.au.gU K.os K.R=g2 at PL qp⊢
 have PU:Hid (∀w2,GM (K.add w.heap.size) g2 w2→Calls Try.prog 47 #[.pointer (some ⟨K.h,0,none⟩), .agg #[.int .i64 (64+ow), .int .i64 d, .int .i64 r0, .int .i64 r1, .int .i64 r2, .int .i64 0, .int .u32 0, .int .u32 0]] w2 fun e w'=>e= .returned (.tuple #[])∧GM (K.add w.heap.size) (g2.put ⟨(64+ow),d,r0,r1,r2,0,0,0⟩) w'∧ah (SG (K.add w.heap.size)) w2 w'):=fun w2 a=>dR (K:=K.add w.heap.size) (g:=g2) ⟨(64+ow),d,r0,r1,r2,0,0,0⟩ w2 a hx qp
 have HA:Hid (∀w2,GM (K.add w.heap.size) (g2.put ⟨(64+ow),d,r0,r1,r2,0,0,0⟩) w2→Calls Try.prog 160 #[.pointer (some ⟨K.h,0,none⟩), .int .i64 d, .int .i64 i] w2 fun e w'=>e= .returned (.tuple #[])∧GM (K.add w.heap.size) ((g2.put ⟨(64+ow),d,r0,r1,r2,0,0,0⟩).has d i) w'∧ah (SG (K.add w.heap.size)) w2 w'):=fun w2 a=>jD (K:=K.add w.heap.size) (g:=g2.put ⟨(64+ow),d,r0,r1,r2,0,0,0⟩) d i w2 a d16 hi
 generalize g2.put ⟨(64+ow),d,r0,r1,r2,0,0,0⟩=g3 at PU HA⊢
 generalize g3.has d i=g4 at HA⊢
 have A:=κ a1
 have BO:=κ bo
 have BR:=κ br
 have U:=κ u1
 have l:=a1.l
 have o0:=bo.2.1 0 _ rfl
 have HH:=κ hh
 clear a1 bo br u1 a hd hx qp hf hn hR hh
 go_enter Try.func96,Try.ntmps96
 go_upto_region 3 with fail
 have A2:=κ A.out.au
 have qw:=κ (BO.out.upto (ah.setCells (S:=fun i=>i=K.h) rfl (iI 16) _ 23 (ah.refl _ _)) (by omega))
 have qx:=κ (BR.out.upto (ah.setCells (S:=fun i=>i=K.h) rfl (iI 16) _ 23 (ah.refl _ _)) (by omega))
 have U2:=κ (ah.setCells (p:=K.h) (S:=SG (K.add w.heap.size)) (.inl rfl) (iI 16) _ 23 U.out)
 have A2:Hid (GM (K.add w.heap.size) g.au (World.setCells _ K.h 23 (iI 16))):=A2
 generalize World.setCells _ K.h 23 (iI 16)=w1 at A2 qw qx U2⊢
 clear hs je o0 A BO BR U l
 go_upto_region 4 with(go_at_call 161;refine(PL.out _ A2.out).mono ?_;rintro e w2 ⟨rfl,a3,u3⟩;have A3:=κ a3;have kK:=κ (qw.out.upto u3 (SG.box lh lv lB ⟨Nat.le_refl _,by omega⟩));have mY:=κ (qx.out.upto u3 (SG.box lh lv lB ⟨by omega,by omega⟩));have U3:=κ (U2.out.trans u3);clear a3 u3)
 clear PL A2 qw qx U2
 have q0:=mY.out.2.1 0 _ rfl
 have q1:=mY.out.2.1 1 _ rfl
 have q2:=mY.out.2.1 2 _ rfl
 have l1:=mY.out.1
 go_upto_region 5 with fail
 clear q0 q1 q2
 have sz:w.heap.size<w2.heap.size:=by have:=kK.out.1;omega
 have o0:=kK.out.2.1 0 _ rfl
 have o1:=kK.out.2.1 1 _ rfl
 have o5:=kK.out.2.1 5 _ rfl
 have o6:=kK.out.2.1 6 _ rfl
 go_upto_region 19 with fail
 go_upto_region 22 with fail
 go_wp2_with (first
  | (go_at_call 47;refine(PU.out _ (A3.out.alloc _)).mono ?_;rintro e w4 ⟨rfl,a4,u4⟩;have A4:=κ a4;have U4:=κ ((U3.out.alloc _).trans u4);clear a4 u4)
  | (go_at_call 160;refine(HA.out _ A4.out).mono ?_;rintro e w5 ⟨rfl,a5,u5⟩;have U5:=κ (U4.out.trans u5)))
 go_end0
 exact⟨rfl,a5.drop,SG.drop U5.out⟩
theorem TN (i d:Nat) (ow oa ob oc kn n r0 r1 r2:Int) (w:World) (a:GM K g w) (lW:0≤ow) (xY:ow<16) (hR:K.R≤16) (hh:∀r,r<16→g.holds r<K.os.length) (hf:emp (g.au.dN K.R) 0 K.R=none→∃b,I7 K.os K.R (g.au.dN K.R) b) (hn:(dF g.xs).length≤999990)
  (hd:g.au.uT K.R=d) (d16:d<16) (hi:i<K.os.length) (hx:oL ⟨(80+ow),d,r0,r1,r2,n,kn,0⟩):
  Calls Try.prog 96 #[.pointer (some ⟨K.h,0,none⟩), .int .i64 i, .agg #[.int .i64 9, .int .i64 ow, .int .i64 oa, .int .i64 ob, .int .i64 oc, .int .u32 kn, .int .i64 n], .agg #[.int .i64 r0, .int .i64 r1, .int .i64 r2]] w fun e w'=>e= .returned (.tuple #[])∧GM K (((g.au.gU K.os K.R).put ⟨(80+ow),d,r0,r1,r2,n,kn,0⟩).has d i) w'∧ah (SG K) w w':=by
 obtain⟨a1,bo,br,u1⟩:=boxes w a #[.int .i64 9, .int .i64 ow, .int .i64 oa, .int .i64 ob, .int .i64 oc, .int .u32 kn, .int .i64 n] #[.int .i64 r0, .int .i64 r1, .int .i64 r2] 31 175
 have hs:=gX K.h
 have je:(Builtin.clear_ #[79] 0 #[.slice (some ⟨K.h,23,none⟩) 16 16]).run Try.prog ((w.alloc (.cells #[.int .i64 9, .int .i64 ow, .int .i64 oa, .int .i64 ob, .int .i64 oc, .int .u32 kn, .int .i64 n] 31)).alloc (.cells #[.int .i64 r0, .int .i64 r1, .int .i64 r2] 175))= .ok (.tuple #[]) (((w.alloc (.cells #[.int .i64 9, .int .i64 ow, .int .i64 oa, .int .i64 ob, .int .i64 oc, .int .u32 kn, .int .i64 n] 31)).alloc (.cells #[.int .i64 r0, .int .i64 r1, .int .i64 r2] 175)).setCells K.h 23 (iI 16)):=gW (K:=K.add w.heap.size) _ a1 0
 have lB:=a.lb
 have lh:=a.lh
 have lv:=a.lv
 have PL:Hid (∀w2,GM (K.add w.heap.size) g.au w2→Calls Try.prog 161 #[.pointer (some ⟨K.h,0,none⟩)] w2 fun e w'=>e= .returned (.int .i64 (g.au.uT K.R))∧GM (K.add w.heap.size) (g.au.gU K.os K.R) w'∧ah (SG (K.add w.heap.size)) w2 w'):=fun w2 a=>iJ (K:=K.add w.heap.size) (g:=g.au) w2 a hR hh hf (show(dF g.au.xs).length≤1000000 from Nat.le_trans hn (by decide))
 rw [hd] at PL
 have qp:(dF (g.au.gU K.os K.R).xs).length≤1000000:=by
  have h1:(dF (g.au.gU K.os K.R).xs).length≤(dF g.xs).length+3:=by
   unfold Gm.gU
   split
   ·rw [fK];exact Nat.le_add_right _ _
   ·exact Nat.le_trans (jT _ _ _) (by rw [fK];exact Nat.le_refl _)
  omega
 generalize g.au.gU K.os K.R=g2 at PL qp⊢
 have PU:Hid (∀w2,GM (K.add w.heap.size) g2 w2→Calls Try.prog 47 #[.pointer (some ⟨K.h,0,none⟩), .agg #[.int .i64 (80+ow), .int .i64 d, .int .i64 r0, .int .i64 r1, .int .i64 r2, .int .i64 n, .int .u32 kn, .int .u32 0]] w2 fun e w'=>e= .returned (.tuple #[])∧GM (K.add w.heap.size) (g2.put ⟨(80+ow),d,r0,r1,r2,n,kn,0⟩) w'∧ah (SG (K.add w.heap.size)) w2 w'):=fun w2 a=>dR (K:=K.add w.heap.size) (g:=g2) ⟨(80+ow),d,r0,r1,r2,n,kn,0⟩ w2 a hx qp
 have HA:Hid (∀w2,GM (K.add w.heap.size) (g2.put ⟨(80+ow),d,r0,r1,r2,n,kn,0⟩) w2→Calls Try.prog 160 #[.pointer (some ⟨K.h,0,none⟩), .int .i64 d, .int .i64 i] w2 fun e w'=>e= .returned (.tuple #[])∧GM (K.add w.heap.size) ((g2.put ⟨(80+ow),d,r0,r1,r2,n,kn,0⟩).has d i) w'∧ah (SG (K.add w.heap.size)) w2 w'):=fun w2 a=>jD (K:=K.add w.heap.size) (g:=g2.put ⟨(80+ow),d,r0,r1,r2,n,kn,0⟩) d i w2 a d16 hi
 generalize g2.put ⟨(80+ow),d,r0,r1,r2,n,kn,0⟩=g3 at PU HA⊢
 generalize g3.has d i=g4 at HA⊢
 have A:=κ a1
 have BO:=κ bo
 have BR:=κ br
 have U:=κ u1
 have l:=a1.l
 have o0:=bo.2.1 0 _ rfl
 have HH:=κ hh
 clear a1 bo br u1 a hd hx qp hf hn hR hh
 go_enter Try.func96,Try.ntmps96
 go_upto_region 3 with fail
 have A2:=κ A.out.au
 have qw:=κ (BO.out.upto (ah.setCells (S:=fun i=>i=K.h) rfl (iI 16) _ 23 (ah.refl _ _)) (by omega))
 have qx:=κ (BR.out.upto (ah.setCells (S:=fun i=>i=K.h) rfl (iI 16) _ 23 (ah.refl _ _)) (by omega))
 have U2:=κ (ah.setCells (p:=K.h) (S:=SG (K.add w.heap.size)) (.inl rfl) (iI 16) _ 23 U.out)
 have A2:Hid (GM (K.add w.heap.size) g.au (World.setCells _ K.h 23 (iI 16))):=A2
 generalize World.setCells _ K.h 23 (iI 16)=w1 at A2 qw qx U2⊢
 clear hs je o0 A BO BR U l
 go_upto_region 4 with(go_at_call 161;refine(PL.out _ A2.out).mono ?_;rintro e w2 ⟨rfl,a3,u3⟩;have A3:=κ a3;have kK:=κ (qw.out.upto u3 (SG.box lh lv lB ⟨Nat.le_refl _,by omega⟩));have mY:=κ (qx.out.upto u3 (SG.box lh lv lB ⟨by omega,by omega⟩));have U3:=κ (U2.out.trans u3);clear a3 u3)
 clear PL A2 qw qx U2
 have q0:=mY.out.2.1 0 _ rfl
 have q1:=mY.out.2.1 1 _ rfl
 have q2:=mY.out.2.1 2 _ rfl
 have l1:=mY.out.1
 go_upto_region 5 with fail
 clear q0 q1 q2
 have sz:w.heap.size<w2.heap.size:=by have:=kK.out.1;omega
 have o0:=kK.out.2.1 0 _ rfl
 have o1:=kK.out.2.1 1 _ rfl
 have o5:=kK.out.2.1 5 _ rfl
 have o6:=kK.out.2.1 6 _ rfl
 go_upto_region 21 with fail
 go_region
 go_wp2_with (first
  | (go_at_call 47;refine(PU.out _ (A3.out.alloc _).drew).mono ?_;rintro e w4 ⟨rfl,a4,u4⟩;have A4:=κ a4;have U4:=κ ((U3.out.alloc _).drew.trans u4);clear a4 u4)
  | (go_at_call 160;refine(HA.out _ A4.out).mono ?_;rintro e w5 ⟨rfl,a5,u5⟩;have U5:=κ (U4.out.trans u5)))
 go_end0
 exact⟨rfl,a5.drop,SG.drop U5.out⟩
end Go.Proofs.Ytcjcmnnhmajocab.Gn
