import Derived.Test.YtcjcmnnhmajocabGreatPmbm
import Derived.Test.YtcjcmnnhmajocabGreatPmbw
set_option linter.unusedVariables false
set_option linter.unusedSimpArgs false
set_option maxRecDepth 100000
set_option maxHeartbeats 16000000
namespace Go.Proofs.YtcjcmnnhmajocabGreat.Lf
open Go.RowKit Kt Ic Me Ev Gu St Fl
structure LQ (P Q:RP) (bb bd bs:Nat) (bc:Array Value) (dc:Nat→Int) (ny:MM) (ek ex ep en:Int) (O:Out) (W:World):Prop where
 b:Bo bb bc W
 d:CB bd dc W
 x:qM (bd+1) ek ex ep en W
 s:SB bs O.R O.pc O.f W
 p:RM P O.M W
 q:RM Q ny W
 hp:∀k,P.has k→k<bb
 hq:∀k,Q.has k→bb<k∧k<bd
 hd:bb<bd∧bd+1<bs
section
variable {P Q:RP} {bb bd bs:Nat} {bc:Array Value} {dc:Nat→Int} {ny:MM} {ek ex ep en:Int} {O O':Out} {W W':World}
theorem LQ.keep (a:LQ P Q bb bd bs bc dc ny ek ex ep en O W) (b:Below W.heap.size W W'):LQ P Q bb bd bs bc dc ny ek ex ep en O W':=
 have u:=ah.ak (S:=fun _=>False) b
 ⟨a.b.upto u id,a.d.upto u id,a.x.upto u id,a.s.upto u id,a.p.upto u (fun _ _=>id),a.q.upto u (fun _ _=>id),a.hp,a.hq,a.hd⟩
theorem LQ.drew (a:LQ P Q bb bd bs bc dc ny ek ex ep en O W):LQ P Q bb bd bs bc dc ny ek ex ep en O W.drew:=a.keep (Below.refl _ _).drew
theorem LQ.alloc (a:LQ P Q bb bd bs bc dc ny ek ex ep en O W) (o:Obj):LQ P Q bb bd bs bc dc ny ek ex ep en O (W.alloc o):=a.keep ((Below.refl _ _).alloc (Nat.le_refl _) o)
structure LH (P Q:RP) (bb bd bs:Nat) (bc:Array Value) (dc:Nat→Int) (ny:MM) (ek ex ep en:Int) (R:Nat→Int) (p f:Int) (M:MM) (W:World):Prop where
 b:Bo bb bc W
 d:CB bd dc W
 x:qM (bd+1) ek ex ep en W
 s:SB bs R p f W
 p:RM P M W
 q:RM Q ny W
 hp:∀k,P.has k→k<bb
 hq:∀k,Q.has k→bb<k∧k<bd
 hd:bb<bd∧bd+1<bs
theorem LQ.mem {M':MM} (a:LQ P Q bb bd bs bc dc ny ek ex ep en O W) (m:RM P M' W') (u:ah P.has W W'):LH P Q bb bd bs bc dc ny ek ex ep en O.R O.pc O.f M' W':=by
 have n:∀k,bb≤k→¬P.has k:=fun k hk h=>by have:=a.hp k h;omega
 have:=a.hd
 exact⟨a.b.upto u (n _ (Nat.le_refl _)),a.d.upto u (n _ (by omega)),a.x.upto u (n _ (by omega)),a.s.upto u (n _ (by omega)),m,a.q.upto u (fun k hk h=>by have:=a.hp k h;have:=a.hq k hk;omega),a.hp,a.hq,a.hd⟩
theorem LH.keep {R:Nat→Int} {p f:Int} {M:MM} (a:LH P Q bb bd bs bc dc ny ek ex ep en R p f M W) (b:Below W.heap.size W W'):LH P Q bb bd bs bc dc ny ek ex ep en R p f M W':=
 have u:=ah.ak (S:=fun _=>False) b
 ⟨a.b.upto u id,a.d.upto u id,a.x.upto u id,a.s.upto u id,a.p.upto u (fun _ _=>id),a.q.upto u (fun _ _=>id),a.hp,a.hq,a.hd⟩
theorem LH.put {R:Nat→Int} {p f:Int} (a:LH P Q bb bd bs bc dc ny ek ex ep en R p f O.M W):
  LQ P Q bb bd bs bc dc ny ek ex ep en O ((((((((((W.setCell ⟨bs,0,none⟩ (.int .u32 (O.R 0))).setCell ⟨bs,1,none⟩ (.int .u32 (O.R 1))).setCell ⟨bs,2,none⟩ (.int .u32 (O.R 2))).setCell ⟨bs,3,none⟩ (.int .u32 (O.R 3))).setCell ⟨bs,4,none⟩ (.int .u32 (O.R 4))).setCell ⟨bs,5,none⟩ (.int .u32 (O.R 5))).setCell ⟨bs,6,none⟩ (.int .u32 (O.R 6))).setCell ⟨bs,7,none⟩ (.int .u32 (O.R 7))).setCell ⟨bs,8,none⟩ (.int .u32 O.pc)).setCell ⟨bs,9,none⟩ (.int .u32 O.f)):=by
 have u:=wV (S:=fun k=>k=bs) (h:=bs) (ah.refl _ W) (.inl rfl) (.int .u32 (O.R 0)) (.int .u32 (O.R 1)) (.int .u32 (O.R 2)) (.int .u32 (O.R 3)) (.int .u32 (O.R 4)) (.int .u32 (O.R 5)) (.int .u32 (O.R 6)) (.int .u32 (O.R 7)) (.int .u32 O.pc) (.int .u32 O.f)
 have hd:=a.hd
 exact⟨a.b.upto u (by omega),a.d.upto u (by omega),a.x.upto u (by omega),a.s.put O.R O.pc O.f,a.p.upto u (fun k hk h=>by have:=a.hp k hk;omega),a.q.upto u (fun k hk h=>by have:=a.hq k hk;omega),a.hp,a.hq,a.hd⟩
end
theorem Yo {P:Program} {ops:Array Oper} {S:World→Prop} {op:Oper} {a:Act} (hw:Region.wanted op (yielded ops a.tmps)=true) (t:TypeId) (x:Operand) (ho:op.op= .unOp .not t x) (b:Bool) (hx:a.eval x= .bool b):YieldsIf P ops S op (.bool !b) a:=
 .inl ⟨hw,fun w _=>by unfold execOp;simp only [ho,hx];rfl⟩
theorem Yp {P:Program} {ops:Array Oper} {S:World→Prop} {op:Oper} {a:Act} (hw:Region.wanted op (yielded ops a.tmps)=true) (c x y:Operand) (ho:op.op= .pick c x y) (v:Value) (hc:a.eval c= .bool false) (hx:a.eval y=v):YieldsIf P ops S op v a:=
 .inl ⟨hw,fun w _=>by unfold execOp;simp only [ho,hx,hc];rfl⟩
theorem BI (k x:Int):∀w:World,(binOp .eql 55 (.agg #[.int .i64 k, .int .u32 x]) (.agg #[.int .i64 k, .int .u32 x])).run Tryz.prog w= .ok (.bool true) w:=by
 intro w
 rw [run_eql_struct,show(10000:Nat)=9998+2 by kernel_rfl,TM 9998 k x w]
 rfl
theorem qx {O:Out} (h:St.Jq O):∀k,St.Jq (aG O k)
 | 0=>h
 | k+1=>St.Bv _ _ _ _ (qx h k).M (qx h k).R (qx h k).p
theorem CBr {h:Nat} {c:Nat→Int} {W:World} (a:CB h c W):W.rangeAt h 0 [.int .u32 (c 0), .int .u32 (c 1), .int .u32 (c 2), .int .u32 (c 3), .int .u32 (c 4), .int .u32 (c 5), .int .u32 (c 6), .int .u32 (c 7), .int .u32 (c 8), .int .u32 (c 9), .int .u32 (c 10), .int .u32 (c 11)]:=fun i v hi=>by
 rw [Nat.zero_add]
 match i,hi with
 | 0,hi=>(obtain rfl:Value.int .u32 (c 0)=v:=by simpa using hi);exact a.r 0 (by decide)
 | 1,hi=>(obtain rfl:Value.int .u32 (c 1)=v:=by simpa using hi);exact a.r 1 (by decide)
 | 2,hi=>(obtain rfl:Value.int .u32 (c 2)=v:=by simpa using hi);exact a.r 2 (by decide)
 | 3,hi=>(obtain rfl:Value.int .u32 (c 3)=v:=by simpa using hi);exact a.r 3 (by decide)
 | 4,hi=>(obtain rfl:Value.int .u32 (c 4)=v:=by simpa using hi);exact a.r 4 (by decide)
 | 5,hi=>(obtain rfl:Value.int .u32 (c 5)=v:=by simpa using hi);exact a.r 5 (by decide)
 | 6,hi=>(obtain rfl:Value.int .u32 (c 6)=v:=by simpa using hi);exact a.r 6 (by decide)
 | 7,hi=>(obtain rfl:Value.int .u32 (c 7)=v:=by simpa using hi);exact a.r 7 (by decide)
 | 8,hi=>(obtain rfl:Value.int .u32 (c 8)=v:=by simpa using hi);exact a.r 8 (by decide)
 | 9,hi=>(obtain rfl:Value.int .u32 (c 9)=v:=by simpa using hi);exact a.r 9 (by decide)
 | 10,hi=>(obtain rfl:Value.int .u32 (c 10)=v:=by simpa using hi);exact a.r 10 (by decide)
 | 11,hi=>(obtain rfl:Value.int .u32 (c 11)=v:=by simpa using hi);exact a.r 11 (by decide)
 | n+12,hi=>simp at hi
theorem SBr {h:Nat} {R:Nat→Int} {pc f:Int} {W:World} (a:SB h R pc f W):W.rangeAt h 0 [.int .u32 (R 0), .int .u32 (R 1), .int .u32 (R 2), .int .u32 (R 3), .int .u32 (R 4), .int .u32 (R 5), .int .u32 (R 6), .int .u32 (R 7), .int .u32 pc, .int .u32 f]:=fun i v hi=>by
 rw [Nat.zero_add]
 match i,hi with
 | 0,hi=>(obtain rfl:Value.int .u32 (R 0)=v:=by simpa using hi);exact a.r 0 (by decide)
 | 1,hi=>(obtain rfl:Value.int .u32 (R 1)=v:=by simpa using hi);exact a.r 1 (by decide)
 | 2,hi=>(obtain rfl:Value.int .u32 (R 2)=v:=by simpa using hi);exact a.r 2 (by decide)
 | 3,hi=>(obtain rfl:Value.int .u32 (R 3)=v:=by simpa using hi);exact a.r 3 (by decide)
 | 4,hi=>(obtain rfl:Value.int .u32 (R 4)=v:=by simpa using hi);exact a.r 4 (by decide)
 | 5,hi=>(obtain rfl:Value.int .u32 (R 5)=v:=by simpa using hi);exact a.r 5 (by decide)
 | 6,hi=>(obtain rfl:Value.int .u32 (R 6)=v:=by simpa using hi);exact a.r 6 (by decide)
 | 7,hi=>(obtain rfl:Value.int .u32 (R 7)=v:=by simpa using hi);exact a.r 7 (by decide)
 | 8,hi=>(obtain rfl:Value.int .u32 pc=v:=by simpa using hi);exact a.c8
 | 9,hi=>(obtain rfl:Value.int .u32 f=v:=by simpa using hi);exact a.c9
 | n+10,hi=>simp at hi
theorem EM (P:RP) (M:MM) (os:List aV) (ao:Option Addr) (cap:Nat) (pc aj aN:Int) (cx dc dv:Nat→Int) (ny:MM) (ek ex ep en:Int) (w:World) (qC:zY os ao cap w) (h:RM P M w) (hM:bQ M) (hC:Fz cx) (oQ:∀o∈os,0≤o.kn∧o.kn<4294967296) (BA:∀g,ao=some g→0<os.length→g.block<w.heap.size∧¬P.has g.block)
  (CK:∀w,zY os ao cap w→Calls Tryz.prog 27 #[.agg #[.int .u32 pc, .int .i64 aj, .int .i64 aN, .slice ao os.length cap]] w fun e w'=>e= .returned (Lj (xu os aj aN))∧Below w.heap.size w w')
  (ev:rX os aj aN ⟨M,cx,fun _=>0⟩=(⟨ny,dc,dv⟩,⟨ek,ex,ep,en⟩,0)) (Jt:Fz dc) (c0:0≤pc) (c1:pc<4294967296) (c64:aj≤64)
  (hL:Bz aj ⟨M,lo cx,pc,bT cx,0,0⟩ ⟨ny,dc,dv⟩ ⟨ek,ex,ep,en⟩):
  Calls Tryz.prog 28 #[.agg #[.int .u32 pc, .int .i64 aj, .int .i64 aN, .slice ao os.length cap], .agg #[.int .u32 (cx 0), .int .u32 (cx 1), .int .u32 (cx 2), .int .u32 (cx 3), .int .u32 (cx 4), .int .u32 (cx 5), .int .u32 (cx 6), .int .u32 (cx 7), .int .u32 (cx 8), .int .u32 (cx 9), .int .u32 (cx 10), .int .u32 (cx 11)], .pointer (some ⟨P.q,0,none⟩)] w fun e w'=>e= .returned (.bool true)∧ah P.has w w':=by
 have u0:=((ah.refl (fun _=>False) w).alloc (.cells #[.int .u32 pc, .int .i64 aj, .int .i64 aN, .slice ao os.length cap] 52)).alloc (.cells #[.int .u32 (cx 0), .int .u32 (cx 1), .int .u32 (cx 2), .int .u32 (cx 3), .int .u32 (cx 4), .int .u32 (cx 5), .int .u32 (cx 6), .int .u32 (cx 7), .int .u32 (cx 8), .int .u32 (cx 9), .int .u32 (cx 10), .int .u32 (cx 11)] 44)
 have bw:=u0.below (Nat.le_refl _) (fun _ _=>id)
 have QX:=κ ((Bo.new w #[.int .u32 pc, .int .i64 aj, .int .i64 aN, .slice ao os.length cap] 52).upto ((ah.refl (fun _=>False) _).alloc (.cells #[.int .u32 (cx 0), .int .u32 (cx 1), .int .u32 (cx 2), .int .u32 (cx 3), .int .u32 (cx 4), .int .u32 (cx 5), .int .u32 (cx 6), .int .u32 (cx 7), .int .u32 (cx 8), .int .u32 (cx 9), .int .u32 (cx 10), .int .u32 (cx 11)] 44)) id)
 have cy:=CB.new (w.alloc (.cells #[.int .u32 pc, .int .i64 aj, .int .i64 aN, .slice ao os.length cap] 52)) cx 44
 rw [show(w.alloc (.cells #[.int .u32 pc, .int .i64 aj, .int .i64 aN, .slice ao os.length cap] 52)).heap.size=w.heap.size+1 by simp] at cy
 unfold ou at cy
 have CY:=κ cy
 have OA:=κ (qC.keep bw)
 have RP0:=κ (h.upto u0 (fun _ _=>id))
 have BW:=κ (show ah P.has w _ from u0.mono (T:=P.has) fun _ _ e=>e.elim)
 have GA:=κ (show∀k,P.has k→k<w.heap.size from fun k hk=>Ev.iG h hk)
 have F1:=κ BA
 have ok0:St.Jq ⟨M,lo cx,pc,bT cx,0,0⟩:=⟨hM,fun j=>by show 0≤lo cx j∧lo cx j<4294967296;unfold lo;split;exact hC j;decide,⟨c0,c1⟩,wF cx⟩
 have OK:=κ (qx ok0)
 have Yq:=fun Q W h1 h2 hd=>IJ os ao cap pc aj aN cx M Q CK W h1 h2 hM hC oQ hd
 rw [ev] at Yq
 unfold Uz ou at Yq
 dsimp only at Yq
 have Yq:=κ Yq
 have SA1:=κ (fun W=>Ir.qL (cx 0) (cx 1) (cx 2) (cx 3) (cx 4) (cx 5) (cx 6) (cx 7) (cx 8) (cx 9) (cx 10) (cx 11) pc W (hC 8).1 (hC 8).2 (hC 9).1 (hC 9).2 (hC 10).1 (hC 10).2 (hC 11).1 (hC 11).2)
 have SA2:=κ (fun W=>Ir.qL (dc 0) (dc 1) (dc 2) (dc 3) (dc 4) (dc 5) (dc 6) (dc 7) (dc 8) (dc 9) (dc 10) (dc 11) ep W (Jt 8).1 (Jt 8).2 (Jt 9).1 (Jt 9).2 (Jt 10).1 (Jt 10).2 (Jt 11).1 (Jt 11).2)
 have HL:=κ hL
 have C64:=κ c64
 clear qC h hM hC oQ BA CK ev Jt c0 c1 c64 hL u0 bw cy ok0
 go_enter Tryz.func28,Tryz.ntmps28
 go_upto_region 1 with fail
 generalize hWA:(w.alloc (.cells #[.int .u32 pc, .int .i64 aj, .int .i64 aN, .slice ao os.length cap] 52)).alloc (.cells #[.int .u32 (cx 0), .int .u32 (cx 1), .int .u32 (cx 2), .int .u32 (cx 3), .int .u32 (cx 4), .int .u32 (cx 5), .int .u32 (cx 6), .int .u32 (cx 7), .int .u32 (cx 8), .int .u32 (cx 9), .int .u32 (cx 10), .int .u32 (cx 11)] 44)=WA at QX CY OA RP0 BW⊢
 have hA:w.heap.size+2=WA.heap.size:=by rw [←hWA];simp
 clear hWA
 go_wp2_with fail
 refine(Gn.OH P M WA RP0.out).mono ?_
 rintro e w1 ⟨Q,rfl,hQ,b1,hQn⟩
 have u1:=ah.ak (S:=fun _=>False) b1
 have RQ1:=κ hQ
 have QN:=κ (show∀k,Q.has k→w.heap.size+2≤k∧k<w1.heap.size from fun k hk=>⟨Nat.le_trans (Nat.le_of_eq hA) (hQn k hk),Ev.iG hQ hk⟩)
 have QX:=κ (QX.out.upto u1 id)
 have CY:=κ (CY.out.upto u1 id)
 have OA:=κ (OA.out.keep b1)
 have RP1:=κ (RP0.out.upto u1 (fun _ _=>id))
 have BW:=κ (BW.out.trans (u1.mono (T:=P.has) fun _ _ e=>e.elim))
 have h01:w.heap.size+2≤w1.heap.size:=by have:=b1.size;omega
 obtain⟨bb,qQ⟩:∃B,w.heap.size=B:=⟨_,rfl⟩
 rw [qQ] at QX CY GA QN h01 F1 hA⊢
 have HB:=κ qQ
 clear hQ b1 hQn u1 RP0 hA qQ
 have r0:=QX.out.c 0 _ rfl
 have r1:=QX.out.c 1 _ rfl
 have r2:=QX.out.c 2 _ rfl
 have r3:=QX.out.c 3 _ rfl
 have rl:=QX.out.l
 obtain⟨a0,a1,a2,a3,a4,a5,a6,a7,a8,a9,oL,oN⟩:=CY.out.all
 have al:=CY.out.l
 go_wp2_with fail
 refine(Yq.out Q w1 OA.out RQ1.out (fun g hg h0 hh=>by have:=F1.out g hg h0;have:=QN.out _ hh;omega)).mono ?_
 rintro e w2 ⟨rfl,m2,u2⟩
 have QX2:=κ (QX.out.upto u2 (fun h=>by have:=QN.out _ h;omega))
 have CY2:=κ (CY.out.upto u2 (fun h=>by have:=QN.out _ h;omega))
 have RP2:=κ (RP1.out.upto u2 (fun k hk h=>by have:=QN.out k h;have:=GA.out k hk;omega))
 have BW2:=κ (lV BW.out u2 (fun k h=> .inr (by have:=QN.out k h;have:=HB.out;omega)))
 have Jk:=u2.size
 clear r0 r1 r2 r3 rl a0 a1 a2 a3 a4 a5 a6 a7 a8 a9 oL oN al u2 Yq QX CY RP1 BW OA RQ1 F1
 go_upto_region 3 with fail
 have un:=((ah.refl (fun _=>False) w2).alloc (.cells #[.int .u32 (dc 0), .int .u32 (dc 1), .int .u32 (dc 2), .int .u32 (dc 3), .int .u32 (dc 4), .int .u32 (dc 5), .int .u32 (dc 6), .int .u32 (dc 7), .int .u32 (dc 8), .int .u32 (dc 9), .int .u32 (dc 10), .int .u32 (dc 11)] 44)).alloc (.cells #[.int .i64 ek, .int .u32 ex, .int .u32 ep, .int .i64 en] 66)
 have ca:=CB.new w2 dc 44
 have xa:=qM.new (w2.alloc (.cells #[.int .u32 (dc 0), .int .u32 (dc 1), .int .u32 (dc 2), .int .u32 (dc 3), .int .u32 (dc 4), .int .u32 (dc 5), .int .u32 (dc 6), .int .u32 (dc 7), .int .u32 (dc 8), .int .u32 (dc 9), .int .u32 (dc 10), .int .u32 (dc 11)] 44)) ek ex ep en 66
 rw [show(w2.alloc (.cells #[.int .u32 (dc 0), .int .u32 (dc 1), .int .u32 (dc 2), .int .u32 (dc 3), .int .u32 (dc 4), .int .u32 (dc 5), .int .u32 (dc 6), .int .u32 (dc 7), .int .u32 (dc 8), .int .u32 (dc 9), .int .u32 (dc 10), .int .u32 (dc 11)] 44)).heap.size=w2.heap.size+1 by simp] at xa
 unfold ou at ca
 have DA:=κ (ca.upto ((ah.refl (fun _=>False) _).alloc (.cells #[.int .i64 ek, .int .u32 ex, .int .u32 ep, .int .i64 en] 66)) id)
 have XA:=κ xa
 have Zf:=κ (QX2.out.upto un id)
 have CY3:=κ (CY2.out.upto un id)
 have RP3:=κ (RP2.out.upto un (fun _ _=>id))
 have RQ3:=κ (RM.upto m2 un (fun _ _=>id))
 have BW3:=κ (lV BW2.out un (fun _ e=>e.elim))
 have Zg:=un.size
 generalize(w2.alloc (.cells #[.int .u32 (dc 0), .int .u32 (dc 1), .int .u32 (dc 2), .int .u32 (dc 3), .int .u32 (dc 4), .int .u32 (dc 5), .int .u32 (dc 6), .int .u32 (dc 7), .int .u32 (dc 8), .int .u32 (dc 9), .int .u32 (dc 10), .int .u32 (dc 11)] 44)).alloc (.cells #[.int .i64 ek, .int .u32 ex, .int .u32 ep, .int .i64 en] 66)=w3 at DA XA Zf CY3 RP3 RQ3 BW3 Zg⊢
 obtain⟨bd,O6⟩:∃bd,w2.heap.size=bd:=⟨_,rfl⟩
 rw [O6] at DA XA Jk Zg⊢
 clear un ca xa m2 O6 QX2 CY2 RP2 BW2
 have Uk:0≤en∧en≤aj:=HL.out.n
 have d1:decide (en<0)=false:=decide_eq_false (by omega)
 have d2:decide (aj<en)=false:=decide_eq_false (by omega)
 have N0:=κ Uk
 clear Uk
 have r0:=Zf.out.c 0 _ rfl
 have r1:=Zf.out.c 1 _ rfl
 have rl:=Zf.out.l
 have x3:=XA.out.c3
 have xl:=XA.out.l
 obtain⟨a0,a1,a2,a3,a4,a5,a6,a7,a8,a9,oL,oN⟩:=CY3.out.all
 have al:=CY3.out.l
 go_upto_region 6 with(go_at_call 63;refine(SA1.out _).mono ?_;rintro e w4 ⟨rfl,b4⟩;have B4:=κ b4;clear b4)
 have u4:=ah.ak (S:=fun _=>False) B4.out
 have un:=(ah.refl (fun _=>False) w4).alloc (.cells #[.int .u32 (cx 0), .int .u32 (cx 1), .int .u32 (cx 2), .int .u32 (cx 3), .int .u32 (cx 4), .int .u32 (cx 5), .int .u32 (cx 6), .int .u32 (cx 7), .int .u32 pc, .int .u32 (fl (cx 8) (cx 9) (cx 10) (cx 11))] 94)
 have sb:=SB.new w4 cx pc (fl (cx 8) (cx 9) (cx 10) (cx 11)) 94
 unfold iY at sb
 have sb:=sb.congr (R':=lo cx) (fun j hj=>(bV hj).symm)
 have A:=κ (show LQ P Q bb bd w4.heap.size #[.int .u32 pc, .int .i64 aj, .int .i64 aN, .slice ao os.length cap] dc ny ek ex ep en (aG ⟨M,lo cx,pc,bT cx,0,0⟩ 0) _ from
  ⟨(Zf.out.upto u4 id).upto un id,(DA.out.upto u4 id).upto un id,(XA.out.upto u4 id).upto un id,sb,(RP3.out.upto u4 (fun _ _=>id)).upto un (fun _ _=>id),(RQ3.out.upto u4 (fun _ _=>id)).upto un (fun _ _=>id),GA.out,fun k hk=>by have:=QN.out k hk;omega,by have:=B4.out.size;omega⟩)
 have BW5:=κ (lV (lV BW3.out u4 (fun _ e=>e.elim)) un (fun _ e=>e.elim))
 generalize w4.alloc (.cells #[.int .u32 (cx 0), .int .u32 (cx 1), .int .u32 (cx 2), .int .u32 (cx 3), .int .u32 (cx 4), .int .u32 (cx 5), .int .u32 (cx 6), .int .u32 (cx 7), .int .u32 pc, .int .u32 (fl (cx 8) (cx 9) (cx 10) (cx 11))] 94)=w5 at A BW5⊢
 generalize w4.heap.size=bs at A⊢
 clear u4 un sb B4 Zf CY3 RP3 RQ3 BW3 DA XA SA1 r0 r1 rl x3 xl a0 a1 a2 a3 a4 a5 a6 a7 a8 a9 oL oN al d1 d2 h01 Jk Zg GA QN
 obtain⟨O,hO⟩:∃O:Out,(⟨M,lo cx,pc,bT cx,0,0⟩:Out)=O:=⟨_,rfl⟩
 rw [hO] at A HL OK
 clear hO
 have x3:=A.out.x.c3
 have xl:=A.out.x.l
 have xz:=A.out.x.z
 go_wp2
 clear x3 xl xz
 obtain⟨tn,htn⟩:∃n:Nat,(n:Int)=en:=⟨en.toNat,Int.toNat_of_nonneg N0.out.1⟩
 have TN:=κ htn
 clear htn
 go_loopg [13] tn (fun g ix wr=>∃k:Nat,g=tn-k∧k≤tn∧ix= .int .i64 k∧Hid (LQ P Q bb bd bs #[.int .u32 pc, .int .i64 aj, .int .i64 aN, .slice ao os.length cap] dc ny ek ex ep en (aG O k) wr)∧Hid (ah P.has w wr))
 case atStart=>exact⟨0,rfl,Nat.zero_le _,rfl,A,BW5⟩
 case round=>
  obtain⟨k,hk,hle,rfl,A,U⟩:=hrel
  clear BW5
  have x3:=A.out.x.c3
  have xl:=A.out.x.l
  by_cases dh:k<tn
  ·have d0:decide ((k:Int) <en)=true:=decide_eq_true (by have:=TN.out;omega)
   have g:=HL.out.g k (by have:=TN.out;show(k:Int) <en;omega)
   have HG:=κ g
   have LT:=κ dh
   have KK:=κ hk
   have Ju:=OK.out k
   obtain⟨S1,hS1⟩:∃S,aG O k=S:=⟨_,rfl⟩
   have Zh:aG O (k+1)=stepO S1.M S1.R S1.pc S1.f:=by rw [←hS1];rfl
   rw [hS1] at A Ju
   obtain⟨S2,hS3⟩:∃S,aG O (k+1)=S:=⟨_,rfl⟩
   rw [hS3] at HG Zh
   have ng:=κ hS3
   have PI:=pW P S1.M S1.pc wr A.out.p Ju.M Ju.p.1 Ju.p.2
   rw [zF] at PI
   unfold fE at PI
   have PI:=κ PI
   have PS:=κ (fun W h=>xZ P S1.M S1.R S1.pc S1.f W h Ju.M Ju.R Ju.p.1 Ju.p.2 Ju.f.1 (by have:=Ju.f;omega))
   rw [←Zh] at PS
   unfold dS iJ at PS
   have IR:=κ (zG S1.M Ju.M S1.pc)
   clear g dh hk Ju hS1 Zh hS3
   have s8:=A.out.s.c8
   have sl:=A.out.s.l
   go_upto_region 11 with(go_at_call 57;refine PI.out.mono ?_;rintro e w3 ⟨rfl,b3⟩;have B3:=κ b3;clear b3)
   have un:=((ah.refl (fun _=>False) w3).alloc (.cells #[.int .i64 (iz S1.M S1.pc 0), .int .i64 (iz S1.M S1.pc 1), .int .i64 (iz S1.M S1.pc 2), .int .i64 (iz S1.M S1.pc 3), .int .u32 (iz S1.M S1.pc 4)] 74)).alloc (.cells #[.int .i64 (ik S1.M S1.pc).1, .int .u32 (ik S1.M S1.pc).2] 55)
   have A4:=κ (((A.out.keep B3.out).alloc (.cells #[.int .i64 (iz S1.M S1.pc 0), .int .i64 (iz S1.M S1.pc 1), .int .i64 (iz S1.M S1.pc 2), .int .i64 (iz S1.M S1.pc 3), .int .u32 (iz S1.M S1.pc 4)] 74)).alloc (.cells #[.int .i64 (ik S1.M S1.pc).1, .int .u32 (ik S1.M S1.pc).2] 55))
   have X4:=κ ((Bo.new w3 #[.int .i64 (iz S1.M S1.pc 0), .int .i64 (iz S1.M S1.pc 1), .int .i64 (iz S1.M S1.pc 2), .int .i64 (iz S1.M S1.pc 3), .int .u32 (iz S1.M S1.pc 4)] 74).upto ((ah.refl (fun _=>False) _).alloc (.cells #[.int .i64 (ik S1.M S1.pc).1, .int .u32 (ik S1.M S1.pc).2] 55)) id)
   have U4:=κ (lV (lV U.out (ah.ak (S:=fun _=>False) B3.out) (fun _ e=>e.elim)) un (fun _ e=>e.elim))
   have hbi:bs<w3.heap.size:=Nat.lt_of_lt_of_le sl B3.out.size
   generalize(w3.alloc (.cells #[.int .i64 (iz S1.M S1.pc 0), .int .i64 (iz S1.M S1.pc 1), .int .i64 (iz S1.M S1.pc 2), .int .i64 (iz S1.M S1.pc 3), .int .u32 (iz S1.M S1.pc 4)] 74)).alloc (.cells #[.int .i64 (ik S1.M S1.pc).1, .int .u32 (ik S1.M S1.pc).2] 55)=w4 at A4 X4 U4⊢
   generalize w3.heap.size=bi at*
   clear un B3 A U PI s8 sl x3 xl d0
   obtain⟨s0,s1,s2,s3,s4,s5,s6,s7,s8,s9⟩:=A4.out.s.all
   have sl:=A4.out.s.l
   go_upto_region 12 with(go_at_call 64;refine(PS.out _ A4.out.p).mono ?_;rintro e w5 ⟨rfl,m5,u5⟩;have M5:=κ m5;have V5:=κ u5;clear m5 u5)
   have H5:=A4.out.mem M5.out V5.out
   have un:=((ah.refl (fun _=>False) w5).alloc (.cells #[.int .u32 (S2.R 0), .int .u32 (S2.R 1), .int .u32 (S2.R 2), .int .u32 (S2.R 3), .int .u32 (S2.R 4), .int .u32 (S2.R 5), .int .u32 (S2.R 6), .int .u32 (S2.R 7), .int .u32 S2.pc, .int .u32 S2.f] 94)).alloc (.cells #[.int .i64 S2.k, .int .u32 S2.x] 55)
   have bn:=un.below (Nat.le_refl _) (fun _ _=>id)
   have H6:=κ (H5.keep bn)
   have X6:=κ ((X4.out.upto V5.out (fun h=>by have:=A4.out.hp _ h;have:=A4.out.hd;omega)).upto un id)
   have U6:=κ (lV (lV U4.out V5.out (fun _ e=> .inl e)) un (fun _ e=>e.elim))
   have tb:=SB.new w5 S2.R S2.pc S2.f 94
   unfold iY at tb
   have T6:=κ (tb.upto ((ah.refl (fun _=>False) _).alloc (.cells #[.int .i64 S2.k, .int .u32 S2.x] 55)) id)
   have kb:=Bo.new (w5.alloc (.cells #[.int .u32 (S2.R 0), .int .u32 (S2.R 1), .int .u32 (S2.R 2), .int .u32 (S2.R 3), .int .u32 (S2.R 4), .int .u32 (S2.R 5), .int .u32 (S2.R 6), .int .u32 (S2.R 7), .int .u32 S2.pc, .int .u32 S2.f] 94)) #[.int .i64 S2.k, .int .u32 S2.x] 55
   rw [show(w5.alloc (.cells #[.int .u32 (S2.R 0), .int .u32 (S2.R 1), .int .u32 (S2.R 2), .int .u32 (S2.R 3), .int .u32 (S2.R 4), .int .u32 (S2.R 5), .int .u32 (S2.R 6), .int .u32 (S2.R 7), .int .u32 S2.pc, .int .u32 S2.f] 94)).heap.size=w5.heap.size+1 by simp] at kb
   have K6:=κ kb
   have hbt:bs<w5.heap.size:=Nat.lt_of_lt_of_le sl V5.out.size
   generalize(w5.alloc (.cells #[.int .u32 (S2.R 0), .int .u32 (S2.R 1), .int .u32 (S2.R 2), .int .u32 (S2.R 3), .int .u32 (S2.R 4), .int .u32 (S2.R 5), .int .u32 (S2.R 6), .int .u32 (S2.R 7), .int .u32 S2.pc, .int .u32 S2.f] 94)).alloc (.cells #[.int .i64 S2.k, .int .u32 S2.x] 55)=w6 at H6 X6 U6 T6 K6⊢
   generalize w5.heap.size=bt at*
   clear un bn tb kb H5 M5 V5 A4 X4 U4 PS s0 s1 s2 s3 s4 s5 s6 s7 s8 s9 sl
   have k0:=K6.out.c 0 _ rfl
   have k1:=K6.out.c 1 _ rfl
   have kl:=K6.out.l
   obtain⟨t0,t1,t2,t3,t4,t5,t6,t7,t8,t9⟩:=T6.out.all
   have tl:=T6.out.l
   obtain⟨s0,s1,s2,s3,s4,s5,s6,s7,s8,s9⟩:=H6.out.s.all
   have sl:=H6.out.s.l
   have sz:=H6.out.s.z
   have e4:IntKind.i64.wrap ((k:Int)+1)=(k:Int)+1:=by rw [IntKind.wrap_i64];have:=TN.out;have:=N0.out;have:=C64.out;have:=LT.out;omega
   have e5:IntKind.i64.wrap (en-1)=en-1:=by rw [IntKind.wrap_i64];have:=TN.out;have:=N0.out;have:=C64.out;omega
   rcases HG.out with⟨g1,g2⟩ | ⟨g1,g2,g3,g4⟩
   ·rw [g1] at k0
    clear g1 k1
    go_upto_region 17 with fail
    have A7:=κ H6.out.put
    have uu:=wV (S:=fun k=>k=bs) (h:=bs) (ah.refl _ w6) (.inl rfl) (.int .u32 (S2.R 0)) (.int .u32 (S2.R 1)) (.int .u32 (S2.R 2)) (.int .u32 (S2.R 3)) (.int .u32 (S2.R 4)) (.int .u32 (S2.R 5)) (.int .u32 (S2.R 6)) (.int .u32 (S2.R 7)) (.int .u32 S2.pc) (.int .u32 S2.f)
    have X7:=X6.out.upto uu (by omega)
    have U7:=κ (lV U6.out uu (fun i e=> .inr (by have:=H6.out.hd;have:=HB.out;omega)))
    generalize World.setCell (World.setCell (World.setCell (World.setCell (World.setCell (World.setCell (World.setCell (World.setCell (World.setCell (World.setCell w6 _ _) _ _) _ _) _ _) _ _) _ _) _ _) _ _) _ _) _ _=w7 at A7 X7 U7⊢
    have x0:=X7.c 0 _ rfl
    have xl:=X7.l
    clear uu X7 X6 U6 H6 T6 K6 k0 kl t0 t1 t2 t3 t4 t5 t6 t7 t8 t9 tl s0 s1 s2 s3 s4 s5 s6 s7 s8 s9 sl sz
    have ST:=κ (qJ (iz S1.M S1.pc 0) w7 IR.out.o)
    have TC:=κ (vJ P S2.M w7 A7.out.p)
    cases rD:decide (iz S1.M S1.pc 0=31∨iz S1.M S1.pc 0=24∨iz S1.M S1.pc 0=25∨iz S1.M S1.pc 0=26∨iz S1.M S1.pc 0=14∨iz S1.M S1.pc 0=3) with
    | false=>
     rw [rD] at ST
     clear g2 rD TC
     go_wp2_with (go_at_call 65;refine ST.out.mono ?_;rintro e w8 ⟨rfl,rfl⟩)
     go_roundg (tn-(k+1))
     case measure=>have:=KK.out;have:=LT.out;omega
     case rel=>exact⟨k+1,rfl,LT.out,by simp,by rw [ng.out];exact A7,U7⟩
    | true=>
     rw [rD] at ST
     clear rD
     cases ha:dG S2.M.hi with
     | false=>
      rw [ha] at TC
      clear g2
      go_wp2_with (first | (go_at_call 65;refine ST.out.mono ?_;rintro e w8 ⟨rfl,rfl⟩) | (go_at_call 66;refine TC.out.mono ?_;rintro e w9 ⟨rfl,rfl⟩))
      go_roundg (tn-(k+1))
      case measure=>have:=KK.out;have:=LT.out;omega
      case rel=>exact⟨k+1,rfl,LT.out,by simp,by rw [ng.out];exact A7,U7⟩
     | true=>
      rw [ha] at TC
      have d3:decide ((k:Int) <en-1)=false:=decide_eq_false (fun hh=>by have h2:dG S2.M.hi=false:=g2 (by show(k:Int)+1<en;omega);rw [ha] at h2;exact absurd h2 (by decide))
      clear g2
      go_wp2_with (first | (go_at_call 65;refine ST.out.mono ?_;rintro e w8 ⟨rfl,rfl⟩) | (go_at_call 66;refine TC.out.mono ?_;rintro e w9 ⟨rfl,rfl⟩))
      go_roundg (tn-(k+1))
      case measure=>have:=KK.out;have:=LT.out;omega
      case rel=>exact⟨k+1,rfl,LT.out,by simp,by rw [ng.out];exact A7,U7⟩
   ·have q3:ek=1:=g3
    have q4:ex=S2.x:=g4
    have q2:(k:Int)+1=en:=g2
    rw [g1] at k0
    rw [←q4] at k1
    have x0:=H6.out.x.c0
    have x1:=H6.out.x.c1
    have x3:=H6.out.x.c3
    have xl:=H6.out.x.l
    rw [q3] at x0
    have d3:((k:Int)==en-1)=true:=by simp;omega
    have EQ:=BI 1 ex
    clear g1 g2 g3 g4 q2 q3 q4
    go_upto_region 9 with fail
    have A7:=κ H6.out.put
    have uu:=wV (S:=fun k=>k=bs) (h:=bs) (ah.refl _ w6) (.inl rfl) (.int .u32 (S2.R 0)) (.int .u32 (S2.R 1)) (.int .u32 (S2.R 2)) (.int .u32 (S2.R 3)) (.int .u32 (S2.R 4)) (.int .u32 (S2.R 5)) (.int .u32 (S2.R 6)) (.int .u32 (S2.R 7)) (.int .u32 S2.pc) (.int .u32 S2.f)
    have U7:=κ (lV U6.out uu (fun i e=> .inr (by have:=H6.out.hd;have:=HB.out;omega)))
    generalize World.setCell (World.setCell (World.setCell (World.setCell (World.setCell (World.setCell (World.setCell (World.setCell (World.setCell (World.setCell w6 _ _) _ _) _ _) _ _) _ _) _ _) _ _) _ _) _ _) _ _=w7 at A7 U7⊢
    clear uu X6 U6 H6 T6 K6 k0 k1 kl t0 t1 t2 t3 t4 t5 t6 t7 t8 t9 tl s0 s1 s2 s3 s4 s5 s6 s7 s8 s9 sl sz x0 x1 x3 xl d3
    go_wp2
    go_roundg (tn-(k+1))
    case measure=>have:=KK.out;have:=LT.out;omega
    case rel=>exact⟨k+1,rfl,LT.out,by simp,by rw [ng.out];exact A7,U7⟩
  ·obtain⟨hL1,hL2,hL3,hL4⟩:lo dc=(aG O tn).R∧bT dc=(aG O tn).f∧(aG O tn).pc=ep∧ny=(aG O tn).M:=by
    have e:tn=en.toNat:=by have:=TN.out;omega
    rw [e];exact⟨HL.out.r,HL.out.f,HL.out.p,HL.out.m⟩
   obtain rfl:k=tn:=by omega
   have B:=κ (show LQ P Q bb bd bs #[.int .u32 pc, .int .i64 aj, .int .i64 aN, .slice ao os.length cap] dc ny ek ex ep en (⟨ny,dc,ep,fl (dc 8) (dc 9) (dc 10) (dc 11),0,0⟩:Out) wr from
    ⟨A.out.b,A.out.d,A.out.x,(by have s:=A.out.s;rw [←hL1,←hL2,hL3] at s;exact s.congr fun j hj=>bV hj),(by rw [hL4];exact A.out.p),A.out.q,A.out.hp,A.out.hq,A.out.hd⟩)
   have PS:=fun W h=>xZ P ny (lo dc) ep (bT dc) W h (by rw [hL4];exact(OK.out k).M) (by rw [hL1];exact(OK.out k).R) (by rw [←hL3];exact(OK.out k).p.1) (by rw [←hL3];exact(OK.out k).p.2) (wF dc).1 (by have:=wF dc;omega)
   have hS:stepO ny (lo dc) ep (bT dc)=aG O (k+1):=by rw [hL1,hL2,←hL3,hL4];rfl
   rw [hS] at PS
   unfold dS at PS
   have PS:∀W,RM P ny W→Calls Tryz.prog 64 #[.pointer (some ⟨P.q,0,none⟩), .agg #[.int .u32 (dc 0), .int .u32 (dc 1), .int .u32 (dc 2), .int .u32 (dc 3), .int .u32 (dc 4), .int .u32 (dc 5), .int .u32 (dc 6), .int .u32 (dc 7), .int .u32 ep, .int .u32 (fl (dc 8) (dc 9) (dc 10) (dc 11))]] W (fun e w'=>e= .returned (.tuple #[iJ (aG O (k+1)).R (aG O (k+1)).pc (aG O (k+1)).f, .agg #[.int .i64 (aG O (k+1)).k, .int .u32 (aG O (k+1)).x]])∧RM P (aG O (k+1)).M w'∧ah P.has W w'):=PS
   have PS:=κ PS
   have HK:=κ (show(ek=1∧en=aj)∨(ek=0∧0<en∧(en=aj∨dG ny.hi=true))∨(2≤ek∧(aG O (k+1)).k=ek∧(aG O (k+1)).x=ex) by
    have h:=HL.out.k
    have e:(⟨ek,ex,ep,en⟩:Ext).n.toNat=k:=by show en.toNat=k;have:=TN.out;omega
    rw [e,←hL4] at h
    exact h)
   have d0:decide ((k:Int) <en)=false:=decide_eq_false (by have:=TN.out;omega)
   clear hL1 hL2 hL3 hL4 hS A HL OK hk dh hle
   go_upto_region 19 with fail
   clear x3 xl d0
   have uS:=Tryz.underlying94
   have uC:=Tryz.underlying44
   have i12:(Tryz.prog.info? 44).map (·.size)=some ([.int .u32 (dc 0), .int .u32 (dc 1), .int .u32 (dc 2), .int .u32 (dc 3), .int .u32 (dc 4), .int .u32 (dc 5), .int .u32 (dc 6), .int .u32 (dc 7), .int .u32 (dc 8), .int .u32 (dc 9), .int .u32 (dc 10), .int .u32 (dc 11)]:List Value).length:=by kernel_rfl
   have i10:(Tryz.prog.info? 94).map (·.size)=some ([.int .u32 (dc 0), .int .u32 (dc 1), .int .u32 (dc 2), .int .u32 (dc 3), .int .u32 (dc 4), .int .u32 (dc 5), .int .u32 (dc 6), .int .u32 (dc 7), .int .u32 ep, .int .u32 (fl (dc 8) (dc 9) (dc 10) (dc 11))]:List Value).length:=by kernel_rfl
   have g2:=IK (dc 0) (dc 1) (dc 2) (dc 3) (dc 4) (dc 5) (dc 6) (dc 7) ep (fl (dc 8) (dc 9) (dc 10) (dc 11))
   have ge2:Tryz.prog.eqGuardType Tryz.prog.depth 94=false:=by kernel_rfl
   have hf1:∀w:World,(Instr.fieldAt 66 (.pointer (some ⟨bd+1,0,none⟩)) 1).run Tryz.prog w= .ok (.pointer (some ⟨bd+1,2,none⟩)) w:=fun w=>by go_simp
   have Zc:∀w:World,(do eqGuard .neq 94 (.tmp 105) (.tmp 109) (.agg #[.int .u32 (dc 0), .int .u32 (dc 1), .int .u32 (dc 2), .int .u32 (dc 3), .int .u32 (dc 4), .int .u32 (dc 5), .int .u32 (dc 6), .int .u32 (dc 7), .int .u32 ep, .int .u32 (fl (dc 8) (dc 9) (dc 10) (dc 11))]) (.agg #[.int .u32 (dc 0), .int .u32 (dc 1), .int .u32 (dc 2), .int .u32 (dc 3), .int .u32 (dc 4), .int .u32 (dc 5), .int .u32 (dc 6), .int .u32 (dc 7), .int .u32 ep, .int .u32 (fl (dc 8) (dc 9) (dc 10) (dc 11))]);binOp .neq 94 (.agg #[.int .u32 (dc 0), .int .u32 (dc 1), .int .u32 (dc 2), .int .u32 (dc 3), .int .u32 (dc 4), .int .u32 (dc 5), .int .u32 (dc 6), .int .u32 (dc 7), .int .u32 ep, .int .u32 (fl (dc 8) (dc 9) (dc 10) (dc 11))]) (.agg #[.int .u32 (dc 0), .int .u32 (dc 1), .int .u32 (dc 2), .int .u32 (dc 3), .int .u32 (dc 4), .int .u32 (dc 5), .int .u32 (dc 6), .int .u32 (dc 7), .int .u32 ep, .int .u32 (fl (dc 8) (dc 9) (dc 10) (dc 11))]):Sem Value).run Tryz.prog w= .ok (.bool false) w:=fun w=>by clear B;go_simp
   have LY:∀w',(fun w'=>LQ P Q bb bd bs #[.int .u32 pc, .int .i64 aj, .int .i64 aN, .slice ao os.length cap] dc ny ek ex ep en (⟨ny,dc,ep,fl (dc 8) (dc 9) (dc 10) (dc 11),0,0⟩:Out) w'∧ah P.has w w') w'→(Instr.loadAt 29 (.pointer (some ⟨bd+1,2,none⟩))).run Tryz.prog w'= .ok (.int .u32 ep) w':=fun w' h=>by
    have hpc:=h.1.x.c2
    clear h
    go_simp
   clear g2 ge2
   refine wp_region_held_drew (S:=(fun w'=>LQ P Q bb bd bs #[.int .u32 pc, .int .i64 aj, .int .i64 aN, .slice ao os.length cap] dc ny ek ex ep en (⟨ny,dc,ep,fl (dc 8) (dc 9) (dc 10) (dc 11),0,0⟩:Out) w'∧ah P.has w w')) (by kernel_rfl) ⟨B.out.drew,lV U.out (ah.refl (fun _=>False) wr).drew (fun _ e=>e.elim)⟩ (fun hHeld=> ?_)
   refine iR 0 105 (.agg #[.int .u32 (dc 0), .int .u32 (dc 1), .int .u32 (dc 2), .int .u32 (dc 3), .int .u32 (dc 4), .int .u32 (dc 5), .int .u32 (dc 6), .int .u32 (dc 7), .int .u32 ep, .int .u32 (fl (dc 8) (dc 9) (dc 10) (dc 11))]) rfl rfl (by kernel_rfl) (by kernel_rfl) (by kernel_rfl) (fun _ _ _ h=>h) (yieldsIf_load_mid (by rfl) _ _ rfl _ _ rfl _ _ (fun w h=>SBr h.1.s) uS rfl i10) hHeld ?_
   try simp only [Act.put,aA,aB,aC]
   refine iR 1 106 (.agg #[.int .u32 (dc 0), .int .u32 (dc 1), .int .u32 (dc 2), .int .u32 (dc 3), .int .u32 (dc 4), .int .u32 (dc 5), .int .u32 (dc 6), .int .u32 (dc 7), .int .u32 (dc 8), .int .u32 (dc 9), .int .u32 (dc 10), .int .u32 (dc 11)]) rfl rfl (by kernel_rfl) (by kernel_rfl) (by kernel_rfl) (fun _ _ _ h=>h) (yieldsIf_load_mid (by rfl) _ _ rfl _ _ rfl _ _ (fun w h=>CBr h.1.d) uC rfl i12) hHeld ?_
   try simp only [Act.put,aA,aB,aC]
   refine iR 2 107 (.pointer (some ⟨bd+1,2,none⟩)) rfl rfl (by kernel_rfl) (by kernel_rfl) (by kernel_rfl) (fun _ _ _ h=>h) (Kt.jc (by rfl) _ _ _ rfl _ _ rfl hf1) hHeld ?_
   try simp only [Act.put,aA,aB,aC]
   refine iR 3 108 (.int .u32 ep) rfl rfl (by kernel_rfl) (by kernel_rfl) (by kernel_rfl) (fun _ _ _ h=>h) (Kt.kK (by rfl) _ _ rfl _ _ rfl LY) hHeld ?_
   try simp only [Act.put,aA,aB,aC]
   refine wpAnyH_ready (rs:= [4]) (by kernel_rfl) (by simp) ?_
   refine AllReadyH.cons rfl (fun KK bF=> ?_) AllReadyH.nil
   go_simp
   go_wp2_with (go_at_call 63;refine(SA2.out _).mono ?_;rintro e wq ⟨rfl,hq⟩)
   refine bF.out _ _ ?_ (fun bH=> ?_)
   ·exact⟨hHeld.1.keep hq,lV hHeld.2 (ah.ak (S:=fun _=>False) hq) (fun _ e=>e.elim)⟩
   clear bF KK hHeld hq
   have hHeld:=bH
   clear bH
   try simp only [Act.put,aA,aB,aC]
   refine iR 5 110 (.bool false) rfl rfl (by kernel_rfl) (by kernel_rfl) (by kernel_rfl) (fun _ _ _ h=>h) (Kt.WQ (by rfl) _ _ _ _ _ rfl _ _ _ rfl rfl Zc) hHeld ?_
   try simp only [Act.put,aA,aB,aC]
   refine iR 6 111 (.bool false) rfl rfl (by kernel_rfl) (by kernel_rfl) (by kernel_rfl) (fun _ _ _ h=>h) (Kt.fV (by rfl) _ rfl _ rfl) hHeld ?_
   try simp only [Act.put,aA,aB,aC]
   refine iR 7 112 (.pointer (some ⟨Q.q,0,none⟩)) rfl rfl (by kernel_rfl) (by kernel_rfl) (by kernel_rfl) (fun _ _ _ h=>h) (Kt.fV (by rfl) _ rfl _ rfl) hHeld ?_
   try simp only [Act.put,aA,aB,aC]
   refine iR 8 113 (.pointer (some ⟨P.q,0,none⟩)) rfl rfl (by kernel_rfl) (by kernel_rfl) (by kernel_rfl) (fun _ _ _ h=>h) (Kt.fV (by rfl) _ rfl _ rfl) hHeld ?_
   try simp only [Act.put,aA,aB,aC]
   refine wpAnyH_ready (rs:= [9]) (by kernel_rfl) (by simp) ?_
   refine AllReadyH.cons rfl (fun KK bF=> ?_) AllReadyH.nil
   go_simp
   go_wp2_with (go_at_call 67;refine(Gn.OQ Q P ny _ hHeld.1.q hHeld.1.p).mono ?_;rintro e wq ⟨rfl,hq⟩)
   refine bF.out _ _ ?_ (fun bH=> ?_)
   ·exact⟨hHeld.1.keep hq,lV hHeld.2 (ah.ak (S:=fun _=>False) hq) (fun _ e=>e.elim)⟩
   clear bF KK hHeld hq
   have hHeld:=bH
   clear bH
   try simp only [Act.put,aA,aB,aC]
   refine iR 10 115 (.bool false) rfl rfl (by kernel_rfl) (by kernel_rfl) (by kernel_rfl) (fun _ _ _ h=>h) (Yo (by rfl) _ _ rfl true rfl) hHeld ?_
   try simp only [Act.put,aA,aB,aC]
   refine iR 11 116 (.bool false) rfl rfl (by kernel_rfl) (by kernel_rfl) (by kernel_rfl) (fun _ _ _ h=>h) (Yp (by rfl) _ _ _ rfl _ rfl rfl) hHeld ?_
   try simp only [Act.put,aA,aB,aC]
   refine wpAnyH_done (by kernel_rfl) ?_ _
   clear uS uC i12 i10 hf1 Zc LY
   obtain⟨B9,U9⟩:=hHeld
   have B9:=κ B9
   have U9:=κ U9
   have x0:=B9.out.x.c0
   have x3:=B9.out.x.c3
   have xl:=B9.out.x.l
   have r1:=B9.out.b.c 1 _ rfl
   have rl:=B9.out.b.l
   rcases HK.out with⟨q1,q2⟩ | ⟨q1,q2,q3⟩ | ⟨q1,q2,q3⟩
   ·rw [q1] at x0
    have n1:(en==aj)=true:=by simpa using q2
    clear q1 q2
    go_wp2
    go_ret
    exact⟨rfl,U9.out⟩
   ·rw [q1] at x0
    have d1:decide (0<en)=true:=decide_eq_true q2
    have TC:=κ (fun W h=>vJ P ny W h)
    cases hn:(en==aj) with
    | true=>
     clear q1 q2 q3
     go_wp2
     go_ret
     exact⟨rfl,U9.out⟩
    | false=>
     have q4:dG ny.hi=true:=q3.resolve_left (fun e=>by rw [e] at hn;simp at hn)
     rw [q4] at TC
     clear q1 q2 q3 q4
     go_wp2_with (go_at_call 66;refine(TC.out _ B9.out.p).mono ?_;rintro e w9 ⟨rfl,rfl⟩)
     go_ret
     exact⟨rfl,U9.out⟩
   ·have n1:(ek==1)=false:=by simp;omega
    have n2:(ek==0)=false:=by simp;omega
    obtain⟨S2,Zh⟩:∃S,aG O (k+1)=S:=⟨_,rfl⟩
    rw [Zh] at PS q2 q3
    unfold iJ at PS
    obtain⟨s0,s1,s2,s3,s4,s5,s6,s7,s8,s9⟩:=B9.out.s.all
    have sl:=B9.out.s.l
    have Q2:=κ q2
    have Q3:=κ q3
    clear q1 q2 q3 Zh HK
    go_upto_region 27 with(go_at_call 64;refine(PS.out _ B9.out.p).mono ?_;rintro e w5 ⟨rfl,m5,u5⟩;have V5:=κ u5;clear m5 u5)
    have un:=((ah.refl (fun _=>False) w5).alloc (.cells #[.int .u32 (S2.R 0), .int .u32 (S2.R 1), .int .u32 (S2.R 2), .int .u32 (S2.R 3), .int .u32 (S2.R 4), .int .u32 (S2.R 5), .int .u32 (S2.R 6), .int .u32 (S2.R 7), .int .u32 S2.pc, .int .u32 S2.f] 94)).alloc (.cells #[.int .i64 S2.k, .int .u32 S2.x] 55)
    have hx:¬P.has (bd+1):=fun h=>by have:=B9.out.hp _ h;have:=B9.out.hd;omega
    have X6:=(B9.out.x.upto V5.out hx).upto un id
    have U6:=κ (lV (lV U9.out V5.out (fun _ e=> .inl e)) un (fun _ e=>e.elim))
    have kb:=Bo.new (w5.alloc (.cells #[.int .u32 (S2.R 0), .int .u32 (S2.R 1), .int .u32 (S2.R 2), .int .u32 (S2.R 3), .int .u32 (S2.R 4), .int .u32 (S2.R 5), .int .u32 (S2.R 6), .int .u32 (S2.R 7), .int .u32 S2.pc, .int .u32 S2.f] 94)) #[.int .i64 S2.k, .int .u32 S2.x] 55
    rw [show(w5.alloc (.cells #[.int .u32 (S2.R 0), .int .u32 (S2.R 1), .int .u32 (S2.R 2), .int .u32 (S2.R 3), .int .u32 (S2.R 4), .int .u32 (S2.R 5), .int .u32 (S2.R 6), .int .u32 (S2.R 7), .int .u32 S2.pc, .int .u32 S2.f] 94)).heap.size=w5.heap.size+1 by simp] at kb
    generalize(w5.alloc (.cells #[.int .u32 (S2.R 0), .int .u32 (S2.R 1), .int .u32 (S2.R 2), .int .u32 (S2.R 3), .int .u32 (S2.R 4), .int .u32 (S2.R 5), .int .u32 (S2.R 6), .int .u32 (S2.R 7), .int .u32 S2.pc, .int .u32 S2.f] 94)).alloc (.cells #[.int .i64 S2.k, .int .u32 S2.x] 55)=w6 at X6 U6 kb⊢
    generalize w5.heap.size=bt at*
    clear un hx V5 x0 x3 xl r1 rl s0 s1 s2 s3 s4 s5 s6 s7 s8 s9 sl
    have k0:=kb.c 0 _ rfl
    have k1:=kb.c 1 _ rfl
    have kl:=kb.l
    rw [Q2.out] at k0
    rw [Q3.out] at k1
    have x0:=X6.c0
    have x1:=X6.c1
    have xl:=X6.l
    have EQ:=BI ek ex
    clear kb X6 B9 U9 B U
    go_wp2
    go_ret
    exact⟨rfl,U6.out⟩
end Go.Proofs.YtcjcmnnhmajocabGreat.Lf
namespace Go.Proofs.YtcjcmnnhmajocabGreat.Ev
open Go.RowKit Kt Me
structure zV where
 at_:Int
 us:List Int
 ao:Option Addr
 cap:Nat
 rt:Int
def zV.cells (s:zV):Array Value:= #[.int .i64 s.at_, .slice s.ao s.us.length s.cap, .int .i64 s.rt]
structure yc (s:zV) (W:World):Prop where
 a0: -9223372036854775808≤s.at_
 a1:s.at_<9223372036854775808
 bs:Gu.Bs s.us s.ao s.cap W
 rg:∀j,0≤s.us.getD j 0∧s.us.getD j 0<256
structure IW (ss:List zV) (ao:Option Addr) (cap:Nat) (W:World):Prop where
 lc:ss.length≤cap
 mx:cap≤maxLen
 ok:∀s∈ss,yc s W
 at_:0<ss.length→∃b off,ao=some ⟨b,off,none⟩∧b<W.heap.size∧∀i s,ss[i]?=some s→∀j v,s.cells[j]?=some v→W.cell? ⟨b,off+i*3+j,none⟩=some v
theorem yc.keep {s:zV} {w w':World} (h:yc s w) (b:Below w.heap.size w w'):yc s w':=⟨h.a0,h.a1,h.bs.keep b,h.rg⟩
theorem IW.keep {ss:List zV} {ao:Option Addr} {cap:Nat} {w w':World} (h:IW ss ao cap w) (b:Below w.heap.size w w'):IW ss ao cap w':=
 ⟨h.lc,h.mx,fun s hs=>(h.ok s hs).keep b,fun h0=>by
  obtain⟨g,off,e,hg,hc⟩:=h.at_ h0
  exact⟨g,off,e,Nat.lt_of_lt_of_le hg b.size,fun i s hi j v hj=>(b.cell (p:=⟨g,off+i*3+j,none⟩) hg).trans (hc i s hi j v hj)⟩⟩
def xG (M:MM) (s:zV):MM:=DC (yx M (s.at_%65536) s.us) (s.at_%65536/256) s.rt
def wW (ss:List zV):MM:=ss.foldl xG M0
theorem IX (ss:List zV) (j:Nat) (s:zV) (h:ss[j]?=some s):(ss.take (j+1)).foldl xG M0=xG ((ss.take j).foldl xG M0) s:=by
 rw [List.take_add_one,h,List.foldl_append]
 rfl
theorem EO (a:Int):∃r,a.tmod 65536=r∧((0≤r∧r=a%65536)∨(r<0∧ -65536<r∧r+65536=a%65536)):=by
 refine⟨_,rfl, ?_⟩
 by_cases h:0≤a
 ·rw [Int.tmod_eq_emod_of_nonneg h];omega
 ·have e:a.tmod 65536= -((-a).tmod 65536):=by rw [Int.neg_tmod];omega
  rw [Int.tmod_eq_emod_of_nonneg (show 0≤ -a by omega)] at e
  omega
def Yr (ks:List Int) (ao:Option Addr) (cap:Nat) (W:World):Prop:=
 ks.length≤cap∧cap≤maxLen∧(0<ks.length→∃b off,ao=some ⟨b,off,none⟩∧b<W.heap.size∧∀j,j<ks.length→W.cell? ⟨b,off+j,none⟩=some (.int .i64 (ks.getD j 0)))
def yg (M:MM) (ks:List Int):MM:=ks.foldl (fun M k=>uK M k true) M
theorem IY (M:MM) (ks:List Int) (j:Nat) (h:j<ks.length):(ks.take (j+1)).foldl (fun M k=>uK M k true) M=uK ((ks.take j).foldl (fun M k=>uK M k true) M) (ks.getD j 0) true:=by
 rw [List.take_add_one,List.getElem?_eq_getElem h,List.foldl_append,List.getD_eq_getElem?_getD,List.getElem?_eq_getElem h]
 rfl
theorem OT (ss:List zV) (ao:Option Addr) (cap:Nat) (ks:List Int) (ao2:Option Addr) (acA:Nat) (w:World) (h:IW ss ao cap w) (h2:Yr ks ao2 acA w):
  Calls Tryz.prog 23 #[.slice ao ss.length cap, .slice ao2 ks.length acA] w fun e w'=>∃p P,e= .returned (.tuple #[.pointer (some ⟨p,0,none⟩), .pointer (some ⟨P.q,0,none⟩), .bool true])∧vU p P (yg (wW ss) ks) w'∧Below w.heap.size w w'∧∀k,PS p P k→w.heap.size≤k:=by
 have Dt:(maxLen:Nat)=9223372036854775807:=rfl
 have yC:=h.lc
 have hc2:=h.mx
 rw [Dt] at hc2
 clear Dt
 have hc3:=h2.1
 have hc4:=h2.2.1
 rw [show(maxLen:Nat)=9223372036854775807 from rfl] at hc4
 have HS:=κ h
 have HK:=κ h2
 clear h h2
 go_enter Tryz.func23,Tryz.ntmps23
 go_wp2_with fail
 refine(QD _).mono ?_
 rintro e w1 ⟨rfl,k1,b1,s1⟩
 have K1:=κ k1
 have B1:=κ b1
 have Z1:=κ s1
 clear k1 b1 s1
 go_wp2_with fail
 refine(KE _).mono ?_
 rintro e w2 ⟨P,rfl,r2,b2,g2⟩
 have hA:vU w.heap.size P M0 w2:=by
  refine⟨K1.out.upto (ah.ak (S:=fun _=>False) b2) id,r2,fun hp=> ?_,bQ.zero⟩
  have:=g2 _ hp
  have:=Z1.out
  omega
 have hGa:∀k,PS w.heap.size P k→w.heap.size≤k:=by
  have z1:=Z1.out
  rintro k (hk | hk)
  ·omega
  ·have:=g2 _ hk;omega
 have B2:=κ (chain B1.out b2)
 have HA:=κ hA
 have GA:=κ hGa
 have UY:=κ hA.ne
 clear hA hGa r2 b2 g2 K1 B1 Z1
 obtain⟨N,hN⟩:∃N,ss.length=N:=⟨_,rfl⟩
 have HN:=κ hN
 rw [hN] at yC⊢
 clear hN
 go_wp2_with fail
 go_loopg [24] N (fun g i wr=>∃ (j:Nat),g=N-j∧j≤N∧i= .int .i64 j∧Hid (vU w.heap.size P ((ss.take j).foldl xG M0) wr)∧Hid (Below w.heap.size w wr))
 case atStart=>exact⟨0,rfl,Nat.zero_le _,rfl,HA.out,B2.out⟩
 case round=>
  obtain⟨j,hg,hj,rfl,H1,Ci⟩:=hrel
  by_cases dh:j<N
  ·have pF:(j:Int) <(N:Int):=by omega
   have Vw:(0:Int)≤(j:Int):=by omega
   obtain⟨g1,off,rfl,lg1,hcs⟩:=HS.out.at_ (by rw [HN.out];omega)
   obtain⟨s,hs⟩:∃s,ss[j]?=some s:=⟨_,List.getElem?_eq_getElem (by rw [HN.out];exact dh)⟩
   have FW:=κ ((HS.out.ok s (List.mem_of_getElem? hs)).keep Ci.out)
   have hfb:=κ (fun(g:Addr) (e:s.ao=some g) (h0:0<s.us.length) (hp:PS w.heap.size P g.block)=>show False by
    obtain⟨b,off,e',hb,_⟩:=(HS.out.ok s (List.mem_of_getElem? hs)).bs.2.2 h0
    rw [e] at e'
    obtain rfl:=Option.some.inj e'
    have:=GA.out _ hp
    simp only at this
    omega)
   have hcell:∀i v,s.cells[i]?=some v→wr.cell? ⟨g1,off+j*3+i,none⟩=some v:=fun i v hv=>(Ci.out.cell (p:=⟨g1,off+j*3+i,none⟩) lg1).trans (hcs j s hs i v hv)
   have q0:=hcell 0 (.int .i64 s.at_) rfl
   have q1:=hcell 1 (.slice s.ao s.us.length s.cap) rfl
   have q2:=hcell 2 (.int .i64 s.rt) rfl
   rw [Nat.add_zero] at q0
   have uD:=κ (show(ss.take (j+1)).foldl xG M0=DC (yx ((ss.take j).foldl xG M0) (s.at_%65536) s.us) (s.at_%65536/256) s.rt from IX ss j s hs)
   clear hcell hcs hs
   have a0:=FW.out.a0
   have a1:=FW.out.a1
   have at0:0≤s.at_%65536∧s.at_%65536<65536:=by omega
   obtain⟨r,er,hT⟩:=EO s.at_
   generalize hM:(ss.take j).foldl xG M0=M at H1 uD
   generalize ha:s.at_%65536=a at uD at0 hT
   clear hM ha
   have ed:a.tdiv 256=a/256:=Int.tdiv_eq_ediv_of_nonneg at0.1
   go_upto_region 8 with fail
   have fQ:=(ah.refl (fun _=>False) wr).alloc (.cells #[.int .i64 s.at_, .slice s.ao s.us.length s.cap, .int .i64 s.rt] 101)
   have c0:=ay wr #[.int .i64 s.at_, .slice s.ao s.us.length s.cap, .int .i64 s.rt] 101 0
   have c1:=ay wr #[.int .i64 s.at_, .slice s.ao s.us.length s.cap, .int .i64 s.rt] 101 1
   have c2:=ay wr #[.int .i64 s.at_, .slice s.ao s.us.length s.cap, .int .i64 s.rt] 101 2
   simp only [List.getElem?_toArray,List.getElem?_cons_zero,List.getElem?_cons_succ] at c0 c1 c2
   have lB:wr.heap.size<(wr.alloc (.cells #[.int .i64 s.at_, .slice s.ao s.us.length s.cap, .int .i64 s.rt] 101)).heap.size:=by simp
   have bA:Below wr.heap.size wr (wr.alloc (.cells #[.int .i64 s.at_, .slice s.ao s.us.length s.cap, .int .i64 s.rt] 101)):=(Below.refl _ _).alloc (Nat.le_refl _) _
   generalize wr.alloc (.cells #[.int .i64 s.at_, .slice s.ao s.us.length s.cap, .int .i64 s.rt] 101)=wA at fQ c0 c1 c2 lB bA⊢
   have ne1:=UY.out
   have l1:=H1.hc.2.2.2.2.2.2
   have Zi:¬wr.heap.size=w.heap.size:=by omega
   have FA:=κ (H1.upto fQ (fun _ _=>id))
   have FB:=κ (FW.out.bs.keep bA)
   have rg:=FW.out.rg
   have nwP:¬P.has wr.heap.size:=fun hp=>Nat.lt_irrefl _ (iG H1.rm hp)
   clear fQ H1
   have nP:∀k,P.has k→¬k=w.heap.size:=fun k hk e=>UY.out (e▸hk)
   have NP:=κ nP
   clear nP ne1
   rcases hT with⟨t0,t1⟩ | ⟨t0,t1,t2⟩
   ·rw [t1] at er t0
    clear t1
    go_wp2_with fail
    refine(Am _ M a s.us s.ao s.cap _ FA.out.hc FB.out).mono ?_
    rintro e w5 ⟨rfl,h5,u5⟩
    have d1:=(u5.cell (q:=⟨wr.heap.size,1,none⟩) lB Zi).trans c1
    have d2:=(u5.cell (q:=⟨wr.heap.size,2,none⟩) lB Zi).trans c2
    have l5:=Nat.lt_of_lt_of_le lB u5.size
    have R5:=FA.out.rm.upto u5 (fun k hk=>NP.out k hk)
    have B5:=Bs.upto FB.out u5 (fun g hg h0 hp=>hfb.out g hg h0 (.inl hp))
    go_wp2_with fail
    refine(xO P M a s.us s.ao s.cap _ R5 (by omega) B5 (fun g hg h0 hp=>hfb.out g hg h0 (.inr hp))).mono ?_
    rintro e w6 ⟨rfl,h6,u6⟩
    have Yt:ah P.has w5 w6:=u6.mono (fun _ _ hk=>hk)
    have d2':=(Yt.cell (q:=⟨wr.heap.size,2,none⟩) l5 nwP).trans d2
    have l6:=Nat.lt_of_lt_of_le l5 u6.size
    have h5':=h5.upto Yt (fun hp=>UY.out hp)
    go_wp2_with fail
    refine(ug _ (yx M a s.us) (a/256) s.rt _ h5').mono ?_
    rintro e w7 ⟨rfl,h7,u7⟩
    have d3:=(u7.cell (q:=⟨wr.heap.size,2,none⟩) l6 Zi).trans d2'
    have R7:=h6.upto u7 (fun k hk=>NP.out k hk)
    go_wp2_with fail
    refine(rV P (yx M a s.us) (a/256) s.rt _ R7).mono ?_
    rintro e w8 ⟨rfl,h8,u8⟩
    have u8':ah P.has w7 w8:=u8.mono (fun _ _ hk=>hk)
    have h7':=h7.upto u8' (fun hp=>UY.out hp)
    have UU:ah (PS w.heap.size P) wA w8:=(((u5.mono (fun k _ hk=> .inl hk)).trans (Yt.mono (fun k _ hk=> .inr hk))).trans (u7.mono (fun k _ hk=> .inl hk))).trans (u8'.mono (fun k _ hk=> .inr hk))
    go_wp2_with fail
    go_roundg (N-(j+1))
    case measure=>omega
    case rel=>
     refine⟨j+1,rfl,by omega,by simp, ?_, ?_⟩
     ·rw [uD.out]
      exact⟨h7',h8,FA.out.ne,(FA.out.ok.yx _ rg).DC _ _⟩
     ·exact Ci.out.trans ((bA.mono Ci.out.size).trans (UU.below (Nat.le_trans Ci.out.size bA.size) (fun k hk hp=>by have:=GA.out k hp;omega)))
   ·go_wp2_with fail
    refine(Am _ M a s.us s.ao s.cap _ FA.out.hc FB.out).mono ?_
    rintro e w5 ⟨rfl,h5,u5⟩
    have d1:=(u5.cell (q:=⟨wr.heap.size,1,none⟩) lB Zi).trans c1
    have d2:=(u5.cell (q:=⟨wr.heap.size,2,none⟩) lB Zi).trans c2
    have l5:=Nat.lt_of_lt_of_le lB u5.size
    have R5:=FA.out.rm.upto u5 (fun k hk=>NP.out k hk)
    have B5:=Bs.upto FB.out u5 (fun g hg h0 hp=>hfb.out g hg h0 (.inl hp))
    go_wp2_with fail
    refine(xO P M a s.us s.ao s.cap _ R5 (by omega) B5 (fun g hg h0 hp=>hfb.out g hg h0 (.inr hp))).mono ?_
    rintro e w6 ⟨rfl,h6,u6⟩
    have Yt:ah P.has w5 w6:=u6.mono (fun _ _ hk=>hk)
    have d2':=(Yt.cell (q:=⟨wr.heap.size,2,none⟩) l5 nwP).trans d2
    have l6:=Nat.lt_of_lt_of_le l5 u6.size
    have h5':=h5.upto Yt (fun hp=>UY.out hp)
    go_wp2_with fail
    refine(ug _ (yx M a s.us) (a/256) s.rt _ h5').mono ?_
    rintro e w7 ⟨rfl,h7,u7⟩
    have d3:=(u7.cell (q:=⟨wr.heap.size,2,none⟩) l6 Zi).trans d2'
    have R7:=h6.upto u7 (fun k hk=>NP.out k hk)
    go_wp2_with fail
    refine(rV P (yx M a s.us) (a/256) s.rt _ R7).mono ?_
    rintro e w8 ⟨rfl,h8,u8⟩
    have u8':ah P.has w7 w8:=u8.mono (fun _ _ hk=>hk)
    have h7':=h7.upto u8' (fun hp=>UY.out hp)
    have UU:ah (PS w.heap.size P) wA w8:=(((u5.mono (fun k _ hk=> .inl hk)).trans (Yt.mono (fun k _ hk=> .inr hk))).trans (u7.mono (fun k _ hk=> .inl hk))).trans (u8'.mono (fun k _ hk=> .inr hk))
    go_wp2_with fail
    go_roundg (N-(j+1))
    case measure=>omega
    case rel=>
     refine⟨j+1,rfl,by omega,by simp, ?_, ?_⟩
     ·rw [uD.out]
      exact⟨h7',h8,FA.out.ne,(FA.out.ok.yx _ rg).DC _ _⟩
     ·exact Ci.out.trans ((bA.mono Ci.out.size).trans (UU.below (Nat.le_trans Ci.out.size bA.size) (fun k hk hp=>by have:=GA.out k hp;omega)))
  ·obtain rfl:N=j:=by omega
   have e:(ss.take N).foldl xG M0=wW ss:=by unfold wW;rw [←HN.out,List.take_length]
   rw [e] at H1
   clear e
   obtain⟨K,hK⟩:∃K,ks.length=K:=⟨_,rfl⟩
   have HKL:=κ hK
   rw [hK] at hc3⊢
   clear hK
   go_wp2_with fail
   obtain⟨wo,hwo⟩:∃wo:World,wo=wr:=⟨_,rfl⟩
   rw [←hwo] at H1 Ci⊢
   clear hwo
   go_loopg [68] K (fun g i wq=>∃ (j:Nat),g=K-j∧j≤K∧i= .int .i64 j∧Hid (vU w.heap.size P ((ks.take j).foldl (fun M k=>uK M k true) (wW ss)) wq)∧Hid (Below w.heap.size w wq))
   case atStart=>exact⟨0,rfl,Nat.zero_le _,rfl,H1,Ci⟩
   case round=>
    clear H1 Ci
    obtain⟨j2,hg2,hj2,rfl,H1,Ci⟩:=hrel
    have HG2:=κ hg2
    clear hg2
    by_cases dh:j2<K
    ·have pF:(j2:Int) <(K:Int):=by omega
     have Vw:(0:Int)≤(j2:Int):=by omega
     obtain⟨g1,off,rfl,lg1,hcs⟩:=HK.out.2.2 (by rw [HKL.out];omega)
     have q0:=(Ci.out.cell (p:=⟨g1,off+j2,none⟩) lg1).trans (hcs j2 (by rw [HKL.out];exact dh))
     have uD:=κ (IY (wW ss) ks j2 (by rw [HKL.out];exact dh))
     clear hcs
     generalize ks.getD j2 0=kv at q0 uD
     generalize(ks.take j2).foldl (fun M k=>uK M k true) (wW ss)=M at H1 uD
     go_wp2_with fail
     refine(JV _ M kv true _ H1.out.hc).mono ?_
     rintro e w5 ⟨rfl,h5,u5⟩
     have R5:=H1.out.rm.upto u5 (fun k hk e=>UY.out (e▸hk))
     go_wp2_with fail
     refine(xP P M kv true _ R5).mono ?_
     rintro e w6 ⟨rfl,h6,u6⟩
     have h5':=h5.upto u6 (fun hp=>UY.out hp)
     go_wp2_with fail
     go_roundg (K-(j2+1))
     case measure=>have:=HG2.out;omega
     case rel=>
      refine⟨j2+1,rfl,by omega,by simp, ?_, ?_⟩
      ·rw [uD.out]
       exact⟨h5',h6,H1.out.ne,H1.out.ok.uK _ _⟩
      ·have UU:ah (PS w.heap.size P) _ w6:=(u5.mono (fun k _ hk=> .inl hk)).trans (u6.mono (fun k _ hk=> .inr hk))
       exact Ci.out.trans (UU.below Ci.out.size (fun k hk hp=>by have:=GA.out k hp;omega))
    ·obtain rfl:K=j2:=by omega
     go_wp2_with fail
     go_ret3
     have e:(ks.take K).foldl (fun M k=>uK M k true) (wW ss)=yg (wW ss) ks:=by unfold yg;rw [←HKL.out,List.take_length]
     rw [e] at H1
     exact⟨_,P,rfl,H1.out,Ci.out,GA.out⟩
end Go.Proofs.YtcjcmnnhmajocabGreat.Ev
namespace Go.Proofs.YtcjcmnnhmajocabGreat.Lf
open Go.RowKit Kt Ic Me Ev Gu
open St (jf)
open Ot (run yN D6)
theorem BJ {M M':MM} (h1:M'.fD=M.fD) (h2:M'.rt=M.rt):∀ (n:Nat) (s:Lk),blk M' n s=blk M n s
 | 0,s=>rfl
 | n+1,s=>by
  have e:=Tt h1 h2 s.pc
  have en:s.xg M'=s.xg M:=by
   unfold Lk.xg
   simp only [e.2]
  unfold blk
  rw [e.1,e.2 0,en,BJ h1 h2 n]
theorem OU (M:MM) (k:Int):(uK M k true).fD=M.fD∧(uK M k true).rt=M.rt∧(uK M k true).hi=M.hi∧(0≤k∧k<256→(uK M k true).wd=aF M.wd k.toNat true)∧(∀j,M.wd j=true→(uK M k true).wd j=true):=by
 unfold uK
 by_cases h:0≤k∧k<256
 ·rw [if_pos h]
  unfold Jf
  rw [if_neg (by simp)]
  refine⟨rfl,rfl,rfl,fun _=>rfl,fun j hj=> ?_⟩
  show aF M.wd k.toNat true j=true
  unfold aF
  split
  ·rfl
  ·exact hj
 ·rw [if_neg h];exact⟨rfl,rfl,rfl,fun e=>absurd e h,fun _ hj=>hj⟩
theorem OV (M:MM) (q:Int):∀n,(zH M q n).fD=M.fD∧(zH M q n).rt=M.rt∧(zH M q n).hi=M.hi
 | 0=>⟨rfl,rfl,rfl⟩
 | n+1=>by
  have h:=OU (zH M q n) (au (q+n)/256)
  have i:=OV M q n
  exact⟨h.1.trans i.1,h.2.1.trans i.2.1,h.2.2.1.trans i.2.2⟩
theorem Gl (M:MM) (q:Int):∀ (n z:Nat),z<n→au (q+z) <65536→(zH M q n).wd ((au (q+z)).toNat/256)=true
 | 0,z,h,_=>absurd h (Nat.not_lt_zero _)
 | n+1,z,h,hz=>by
  have m:=OU (zH M q n) (au (q+n)/256)
  have b:=aP (q+z)
  by_cases e:z=n
  ·subst e
   show(uK (zH M q z) (au (q+z)/256) true).wd _=true
   rw [m.2.2.2.1 (by omega),show(au (q+z)).toNat/256=(au (q+z)/256).toNat by omega]
   exact if_pos rfl
  ·exact m.2.2.2.2 _ (Gl M q n z (by omega) hz)
theorem ER {M:MM} (h:bQ M) (q:Int) (n:Nat):bQ (zH M q n):=by
 have i:=OV M q n
 exact⟨by rw [i.1];exact h.1,by rw [i.2.1];exact h.2⟩
def Qt (M:MM):Prop:=(∀j,M.wd j=false)∧∀j,M.hi j=false
theorem Qt.l7 {M:MM} (h:Qt M) (k:Nat):Qt (l7 M k):=by
 unfold Me.l7
 rw [h.1 k]
 exact h
theorem Qt.pk (us:List Int):∀ (M:MM) (a:Nat),Qt M→Qt (pk M a us):=by
 induction us with
 | nil=>exact fun _ _ h=>h
 | cons b bs ih=>exact fun M a h=>ih _ _ (Qt.l7 (show Qt ({M with fD:=aF M.fD a b}:MM) from h) _)
theorem Qt.yx {M:MM} (h:Qt M) (a:Int) (us:List Int):Qt (yx M a us):=by
 unfold Me.yx
 split
 ·exact Qt.pk _ _ _ h
 ·exact h
theorem Qt.DC {M:MM} (h:Qt M) (k x:Int):Qt (DC M k x):=by
 unfold Me.DC
 split
 ·unfold Um
  have h2:Qt (if M.rt k.toNat=x then M else Me.l7 M k.toNat):=by
   split
   ·exact h
   ·exact h.l7 _
  exact h2
 ·exact h
theorem TW (ss:List zV):Qt (wW ss):=by
 have g:∀ (l:List zV) (M:MM),Qt M→Qt (l.foldl xG M):=by
  intro l
  induction l with
  | nil=>exact fun M h=>h
  | cons s l ih=>exact fun M h=>ih _ ((h.yx _ _).DC _ _)
 exact g ss M0 ⟨fun _=>rfl,fun _=>rfl⟩
theorem OX (M:MM) (ks:List Int):(yg M ks).hi=M.hi:=by
 have g:∀ (l:List Int) (M:MM),(l.foldl (fun M k=>uK M k true) M).hi=M.hi:=by
  intro l
  induction l with
  | nil=>exact fun _=>rfl
  | cons k l ih=>exact fun M=>(ih _).trans (OU M k).2.2.1
 exact g ks M
theorem TY {f:Nat→Bool} (h:∀j,f j=false):dG f=false:=by
 have:f=fun _=>false:=funext h
 rw [this]
 unfold dG
 rw [Fb];rfl
theorem OY {M:MM} (hM:bQ M) {q:Int} (hq:0≤q∧q<4294967296) (most:Int) (cx:Nat→Int) (hC:Fz cx) (h0:dG M.hi=false):
  ∃ny dc dv ek ex ep en,rX (eU M q most).ops (eU M q most).aj (eU M q most).aN ⟨zH M q (eU M q most).aN.toNat,cx,fun _=>0⟩=(⟨ny,dc,dv⟩,⟨ek,ex,ep,en⟩,0)∧Fz dc∧
   Bz (eU M q most).aj ⟨zH M q (eU M q most).aN.toNat,lo cx,q,bT cx,0,0⟩ ⟨ny,dc,dv⟩ ⟨ek,ex,ep,en⟩:=by
 have F:=OV M q (eU M q most).aN.toNat
 have hb:eU (zH M q (eU M q most).aN.toNat) q most=eU M q most:=BJ F.1 F.2.1 _ _
 have B:=F5 hM hq most
 have m:=Eo (ER hM q (eU M q most).aN.toNat) hq most cx (fun _=>0) hC (by rw [F.2.2];exact h0) (by
  rw [hb]
  intro z z0 z1 z2
  have:=Gl M q (eU M q most).aN.toNat z.toNat (by omega) (by rw [Int.toNat_of_nonneg z0];exact z2)
  rw [Int.toNat_of_nonneg z0] at this
  exact this)
 rw [hb] at m
 obtain⟨⟨ny,dc,dv⟩,⟨ek,ex,ep,en⟩,hr,hL⟩:=m
 have Ux:∀o∈(eU M q most).ops,Ot.Fp o:=fun o ho=>by
  obtain⟨j,hj,rfl⟩:=Ot.AX ho
  exact(B.g.a.l j hj).r
 have I4:(xu (eU M q most).ops (eU M q most).aj (eU M q most).aN).1=0:=(Ot.AV Ux).2 ⟨B.g,B.y⟩
 have hn:=yN (os:=(eU M q most).ops) (s0:=⟨zH M q (eU M q most).aN.toNat,cx,fun _=>0⟩) (eU M q most).ops.length 0 (by omega) _ rfl
 rw [Nat.sub_zero] at hn
 have hk:=D6 (os:=(eU M q most).ops) (s0:=⟨zH M q (eU M q most).aN.toNat,cx,fun _=>0⟩) ⟨ER hM q _,hC,fun _=>⟨Int.le_refl _,(by decide:(0:Int) <4294967296)⟩⟩ (fun j hj=>(B.g.a.l j hj).r.kn) _ (Nat.le_refl _)
 rw [hr] at hn hk
 refine⟨ny,dc,dv,ek,ex,ep,en, ?_,hk.c,hL⟩
 unfold rX
 rw [if_pos I4,hn.1,hn.2 _ rfl]
end Go.Proofs.YtcjcmnnhmajocabGreat.Lf
