import Derived.Deep.Fields
import Derived.Test.YtcjcmnnhmajocabGreatPmbx
import Derived.Test.YtcjcmnnhmajocabGreatPmby
import Derived.Test.YtcjcmnnhmajocabGreatPmbz
set_option linter.unusedVariables false
set_option linter.unusedSimpArgs false
set_option maxRecDepth 100000
set_option maxHeartbeats 16000000
namespace Go.Proofs.YtcjcmnnhmajocabGreat.Lf
open Go.RowKit Kt Ic Me Ev Gu St Fl
open Ot (fC)
theorem vF (ps:List zV) (pao:Option Addr) (YF:Nat) (q most:Int) (cx:Nat→Int) (ks:List Int) (kao:Option Addr) (YG:Nat)
  (w:World) (hps:IW ps pao YF w) (hks:Yr ks kao YG w) (q0:0≤q) (q1:q<4294967296) (hC:Fz cx):
  Calls Tryz.prog 4 #[.slice pao ps.length YF, .int .u32 q, .int .i64 most, .agg #[.int .u32 (cx 0), .int .u32 (cx 1), .int .u32 (cx 2), .int .u32 (cx 3), .int .u32 (cx 4), .int .u32 (cx 5), .int .u32 (cx 6), .int .u32 (cx 7), .int .u32 (cx 8), .int .u32 (cx 9), .int .u32 (cx 10), .int .u32 (cx 11)], .slice kao ks.length YG] w fun e w'=>e= .returned (.bool true)∧Below w.heap.size w w':=by
 have u0:=(ah.refl (fun _=>False) w).alloc (.cells #[.int .u32 (cx 0), .int .u32 (cx 1), .int .u32 (cx 2), .int .u32 (cx 3), .int .u32 (cx 4), .int .u32 (cx 5), .int .u32 (cx 6), .int .u32 (cx 7), .int .u32 (cx 8), .int .u32 (cx 9), .int .u32 (cx 10), .int .u32 (cx 11)] 44)
 have bw:=u0.below (Nat.le_refl _) (fun _ _=>id)
 have BO:=κ (OT ps pao YF ks kao YG _ (hps.keep bw) (by
  refine⟨hks.1,hks.2.1,fun h0=> ?_⟩
  obtain⟨b,off,e,hb,hc⟩:=hks.2.2 h0
  exact⟨b,off,e,Nat.lt_of_lt_of_le hb bw.size,fun j hj=>(bw.cell (p:=⟨b,off+j,none⟩) hb).trans (hc j hj)⟩))
 have cy:=CB.new w cx 44
 unfold ou at cy
 have CY:=κ cy
 have BW:=κ bw
 have HC0:=κ hC
 have hh:dG (yg (wW ps) ks).hi=false:=by rw [OX];exact TY (TW ps).2
 have C0:=κ q0
 have C1:=κ q1
 have HH:=κ hh
 clear hps hks u0 bw cy hC q0 q1 hh
 generalize yg (wW ps) ks=M at BO HH
 generalize ps.length=pl at BO⊢
 generalize ks.length=kl at BO⊢
 go_enter Tryz.func4,Tryz.ntmps4
 go_upto_region 1 with fail
 generalize hWA:w.alloc (.cells #[.int .u32 (cx 0), .int .u32 (cx 1), .int .u32 (cx 2), .int .u32 (cx 3), .int .u32 (cx 4), .int .u32 (cx 5), .int .u32 (cx 6), .int .u32 (cx 7), .int .u32 (cx 8), .int .u32 (cx 9), .int .u32 (cx 10), .int .u32 (cx 11)] 44)=WA at BO CY BW⊢
 have hA:w.heap.size+1=WA.heap.size:=by rw [←hWA];simp
 clear hWA
 go_wp2_with fail
 refine BO.out.mono ?_
 rintro e w1 ⟨p,P,rfl,hP,hb,hGA⟩
 have u1:=ah.ak (S:=fun _=>False) hb
 have CY:=κ (CY.out.upto u1 id)
 have HP:=κ hP.hc
 have Jv:=κ hP.rm
 have Zp:=κ hP.ok
 have GA:=κ (show∀k,P.has k→w.heap.size+1≤k∧k<w1.heap.size from fun k hk=>⟨Nat.le_trans (Nat.le_of_eq hA) (hGA k (.inr hk)),Ev.iG Jv.out hk⟩)
 have BW:=κ (BW.out.trans (hb.mono (by omega)))
 have h01:w.heap.size+1≤w1.heap.size:=by have:=hb.size;omega
 obtain⟨B,hB⟩:∃B,w.heap.size=B:=⟨_,rfl⟩
 rw [hB] at CY GA BW h01⊢
 have HB:=κ hB
 clear hP hb hGA u1 BO hA hB
 have YH:=I9 p M q most w1 HP.out Zp.out C0.out C1.out
 obtain⟨⟨ny,dc,dv,ek,ex,ep,en,hev,Jt,hL⟩,Ue,hlg⟩:=And.intro (OY Zp.out ⟨C0.out,C1.out⟩ most cx HC0.out HH.out) (And.intro (F5 Zp.out ⟨C0.out,C1.out⟩ most) (Om (M:=M) ⟨C0.out,C1.out⟩ most))
 have LN:=fun W h=>Es P M q most W h Zp.out C0.out C1.out
 have hl2:∃s0 s1,lng M q (xC most) 0 0=((eU M q most).aj,(eU M q most).aN,s0,s1):=⟨_,_,Prod.ext hlg.c (Prod.ext hlg.y rfl)⟩
 obtain⟨s0,s1,hl3⟩:=hl2
 rw [hl3] at LN
 unfold XZ at LN
 dsimp only at LN
 have Ux:∀o∈(eU M q most).ops,Ot.Fp o:=fun o ho=>by
  obtain⟨j,hj,rfl⟩:=Ot.AX ho
  exact(Ue.g.a.l j hj).r
 have I4:(xu (eU M q most).ops (eU M q most).aj (eU M q most).aN).1=0:=(Ot.AV Ux).2 ⟨Ue.g,Ue.y⟩
 obtain⟨kz,hkz⟩:∃n:Nat,(eU M q most).aN=(n:Int):=⟨(eU M q most).aN.toNat,(Int.toNat_of_nonneg Ue.y.1).symm⟩
 have acU:(eU M q most).aN.toNat=kz:=by rw [hkz];exact Int.toNat_natCast kz
 have hz4:kz≤384:=by have:=Ue.y;omega
 have hc6:=Ue.g.c
 have hbp:=Ue.b
 have hl0:=Ue.g.n0
 rw [acU] at hev hL
 rw [hkz] at hev LN I4 YH
 rw [hbp] at YH
 clear Ue hlg hl3 hkz acU hbp
 generalize(eU M q most).aj=kc at*
 obtain⟨os,hos⟩:∃os,(eU M q most).ops=os:=⟨_,rfl⟩
 rw [hos] at YH hev Ux I4 hl0
 clear hos
 have YH:=κ YH
 have LN:=κ LN
 have HEV:=κ hev
 have HDC:=κ Jt
 have HL:=κ hL
 have HRO:=κ Ux
 have HL0:=κ hl0
 have Z4:=κ hz4
 have C6:=κ hc6
 obtain⟨zz,O7⟩:∃z,(xu os kc (kz:Int)).2=z:=⟨_,rfl⟩
 have HCH:=κ (show xu os kc (kz:Int)=(0,zz) from Prod.ext I4 O7)
 clear hev Jt hL Ux hl0 hz4 hc6 I4 O7
 go_wp2_with fail
 refine YH.out.mono ?_
 rintro e w2 ⟨v,rfl,ow,b2⟩
 obtain⟨av,cv,rfl,opv,zy⟩:=ow.form
 have u2:=ah.ak (S:=fun _=>False) b2
 have CY:=κ (CY.out.upto u2 id)
 have OL:=κ opv
 have Jv:=κ (Jv.out.upto u2 (fun _ _=>id))
 have BW:=κ (BW.out.trans (b2.mono (by omega)))
 have F2:=κ (show∀g,av=some g→0<os.length→w1.heap.size≤g.block from fun g hg h0=>by
  obtain⟨b,e,_,h1,_⟩:=zy h0
  rw [hg] at e
  cases e
  exact h1)
 have Jk:w1.heap.size≤w2.heap.size:=b2.size
 clear ow opv zy b2 u2 HP YH
 go_upto_region 5 with fail
 have un:=(ah.refl (fun _=>False) w2).alloc (.cells #[.int .u32 q, .int .i64 kc, .int .i64 (kz:Int), .slice av os.length cv] 52)
 have QO:=κ (Bo.new w2 #[.int .u32 q, .int .i64 kc, .int .i64 (kz:Int), .slice av os.length cv] 52)
 have CY:=κ (CY.out.upto un id)
 have bn:=un.below (Nat.le_refl _) (fun _ _=>id)
 have OL:=κ (OL.out.keep bn)
 have Jv:=κ (Jv.out.upto un (fun _ _=>id))
 have BW:=κ (BW.out.trans (bn.mono (by omega)))
 have Zg:w2.heap.size+1=(w2.alloc (.cells #[.int .u32 q, .int .i64 kc, .int .i64 (kz:Int), .slice av os.length cv] 52)).heap.size:=by simp
 generalize w2.alloc (.cells #[.int .u32 q, .int .i64 kc, .int .i64 (kz:Int), .slice av os.length cv] 52)=w3 at QO CY OL Jv BW Zg⊢
 obtain⟨bo,hbo⟩:∃bo,w2.heap.size=bo:=⟨_,rfl⟩
 rw [hbo] at QO Jk Zg⊢
 clear un bn hbo
 go_upto_region 6 with(go_at_call 25;refine(LN.out _ Jv.out).mono ?_;rintro e w4 ⟨rfl,b4⟩;have B4:=κ b4;clear b4)
 have u4:=ah.ak (S:=fun _=>False) B4.out
 have un:=(ah.refl (fun _=>False) w4).alloc (.cells #[.int .i64 s0, .int .u32 s1] 55)
 have bn:=un.below (Nat.le_refl _) (fun _ _=>id)
 have QO:=κ ((QO.out.upto u4 id).upto un id)
 have CY:=κ ((CY.out.upto u4 id).upto un id)
 have OL:=κ ((OL.out.keep B4.out).keep bn)
 have Jv:=κ ((Jv.out.upto u4 (fun _ _=>id)).upto un (fun _ _=>id))
 have BW:=κ ((BW.out.trans (B4.out.mono (by omega))).trans (bn.mono (by have:=B4.out.size;omega)))
 have h34:w3.heap.size<(w4.alloc (.cells #[.int .i64 s0, .int .u32 s1] 55)).heap.size:=by have:=B4.out.size;simp;omega
 generalize w4.alloc (.cells #[.int .i64 s0, .int .u32 s1] 55)=w5 at QO CY OL Jv BW h34⊢
 clear u4 un bn B4 LN
 generalize w4.heap.size=b4
 have MK:=κ (Ep P M q kz w5 Jv.out C0.out C1.out (by have:=Z4.out;omega))
 go_upto_region 7 with(go_at_call 26;refine MK.out.mono ?_;rintro e w6 ⟨rfl,m6,u6⟩;have M6:=κ m6;have V6:=κ u6;clear m6 u6)
 have QO:=κ (QO.out.upto V6.out (fun h=>by have:=GA.out _ h;omega))
 have CY:=κ (CY.out.upto V6.out (fun h=>by have:=GA.out _ h;omega))
 have OL:=κ (XY OL.out V6.out (fun g hg h0 h=>by have:=F2.out g hg h0;have:=GA.out _ h;omega))
 have BW:=κ (BW.out.trans (V6.out.below (B:=B) (by omega) (fun k hk h=>by have:=GA.out k h;omega)))
 have h56:=V6.out.size
 clear Jv V6 MK
 have acV:=κ (ER Zp.out q kz)
 generalize zH M q kz=M2 at M6 HEV HL acV
 clear Zp HH
 have CK:=κ (fun w h=>wX os av cv q kc (kz:Int) w h)
 rw [HCH.out] at CK
 unfold Lj at CK
 dsimp only at CK
 have r0:=QO.out.c 0 _ rfl
 have r1:=QO.out.c 1 _ rfl
 have r2:=QO.out.c 2 _ rfl
 have r3:=QO.out.c 3 _ rfl
 have rl:=QO.out.l
 have n1:(q !=q)=false:=by simp
 go_upto_region 10 with(go_at_call 27;refine(CK.out _ OL.out).mono ?_;rintro e w7 ⟨rfl,b7⟩;have u7:=ah.ak (S:=fun _=>False) b7;have OL7:=κ (OL.out.keep b7);have QO7:=κ (QO.out.upto u7 id);have CY7:=κ (CY.out.upto u7 id);have RM7:=κ (M6.out.upto u7 (fun _ _=>id));have BW7:=κ (BW.out.trans (b7.mono (by omega)));have h67:=b7.size;obtain⟨r0,r1,r2,r3⟩:_∧_∧_∧_:=⟨QO7.out.c 0 _ rfl,QO7.out.c 1 _ rfl,QO7.out.c 2 _ rfl,QO7.out.c 3 _ rfl⟩;have rl:=QO7.out.l;clear b7 u7)
 obtain⟨a0,a1,a2,a3,a4,a5,a6,a7,a8,a9,oL,oN⟩:=CY7.out.all
 have al:=CY7.out.l
 have LI:=κ (EM P M2 os av cv q kc (kz:Int) cx dc dv ny ek ex ep en w7 OL7.out RM7.out acV.out HC0.out (fun o ho=>(HRO.out o ho).kn) (fun g hg h0=>by
  have h1:=F2.out g hg h0
  obtain⟨b,off,e,hb,_⟩:=OL7.out.2.2 h0
  rw [hg] at e
  cases e
  exact⟨hb,fun h=>by have:=GA.out _ h;omega⟩) (fun w h=>wX os av cv q kc (kz:Int) w h) HEV.out HDC.out C0.out C1.out C6.out.2 HL.out)
 go_wp2_with (go_at_call 28;refine LI.out.mono ?_;rintro e w8 ⟨rfl,u8⟩;have U8:=κ u8;clear u8)
 go_ret
 exact⟨rfl,by rw [HB.out];exact BW7.out.trans (U8.out.below (B:=B) (by omega) (fun k hk h=>by have:=GA.out k h;omega))⟩
end Go.Proofs.YtcjcmnnhmajocabGreat.Lf
namespace Go.Proofs.YtcjcmnnhmajocabGreat.Kt
open Go
variable {P:Program} {w:World} {r:Reach} {base:Nat} {t:TypeId} {v:Value}
def Vb (P:Program) (t:TypeId):Bool:=match P.underlying t with
 | some (.struct _)=>true
 | some (.array _ _)=>true
 | _=>false
theorem zN {n:Nat} {ts:List TypeId} (hu:Vb P t=true) (hc:P.cellsOf t=n) (ht:P.cellTypes P.depth t=some ts) (h:Value.okWide P w r base t v):
  ∃cs,v= .agg cs∧cs.size=n∧∀ (i:Nat) (x:Value) (u:TypeId),cs[i]?=some x→ts[i]?=some u→Cell.okWide P w r base u x:=by
 have h':∃cs,v= .agg cs∧cs.size=P.cellsOf t∧Row.okWide P w r base t cs:=by
  unfold Vb at hu
  unfold Value.okWide at h
  cases hx:P.underlying t with
  | none=>simp [hx] at hu
  | some d=>cases d<;>simp_all
 obtain⟨cs,h1,h2,ts',h3,_,h5⟩:=h'
 rw [ht] at h3
 obtain rfl:=Option.some.inj h3
 refine⟨cs,h1,h2.trans hc,fun i x u hi hu'=> ?_⟩
 obtain⟨u2,e1,e2⟩:=h5 i x hi
 have dh:i<ts.length:=by
  by_cases hh:i<ts.length
  ·exact hh
  ·rw [List.getElem?_eq_none (by omega)] at hu';cases hu'
 rw [Nat.mod_eq_of_lt dh,hu'] at e1
 obtain rfl:=Option.some.inj e1
 exact e2
theorem gI {u:TypeId} {k:IntKind} {x:Value} (hu:P.underlying u=some (.int k)) (h:Cell.okWide P w r base u x):∃n,x= .int k n∧(Lit.int k n).wf=true:=by
 simp only [Cell.okWide,hu] at h
 cases x<;>simp_all [Cell.ok,Lit.wf,IntKind.has]
theorem xH {k:IntKind} (hu:P.underlying t=some (.int k)) (h:Value.okWide P w r base t v):∃n,v= .int k n∧(Lit.int k n).wf=true:=by
 simp only [Value.okWide,Cell.okWide,hu] at h
 cases v<;>simp_all [Cell.ok,Lit.wf,IntKind.has]
theorem YI {cs:Array Value} (h:cs.size=12):∃x0 x1 x2 x3 x4 x5 x6 x7 x8 x9 zT x11,cs= #[x0,x1,x2,x3,x4,x5,x6,x7,x8,x9,zT,x11]:=by
 rcases cs with⟨l⟩
 match l,h with
 | [x0,x1,x2,x3,x4,x5,x6,x7,x8,x9,zT,x11],_=>exact⟨x0,x1,x2,x3,x4,x5,x6,x7,x8,x9,zT,x11,rfl⟩
end Go.Proofs.YtcjcmnnhmajocabGreat.Kt
namespace Go.Proofs.YtcjcmnnhmajocabGreat.Ev
open Go.RowKit Kt Me Fl
def YJ (a0 a1 a2 a3 a4 a5 a6 a7 a8 a9 oL oN:Int):Nat→Int
 | 0=>a0 | 1=>a1 | 2=>a2 | 3=>a3 | 4=>a4 | 5=>a5 | 6=>a6 | 7=>a7 | 8=>a8 | 9=>a9 | 10=>oL | 11=>oN | _=>0
theorem Jw {r:Reach} {W:World} {b0:Nat} {v:Value} (h:Value.okWide Tryz.prog W r b0 44 v):∃cx:Nat→Int,v= .agg (ou cx)∧Fz cx:=by
 obtain⟨cs1,rfl,hn1,yC⟩:=Kt.zN (n:=12) (ts:= [29,29,29,29,29,29,29,29,29,29,29,29]) (by kernel_rfl) (by kernel_rfl) (by kernel_rfl) h
 obtain⟨x0,x1,x2,x3,x4,x5,x6,x7,x8,x9,zT,x11,rfl⟩:=Kt.YI hn1
 obtain⟨a0,rfl,w0⟩:=Kt.gI (k:= .u32) Tryz.underlying29 (yC 0 _ 29 rfl rfl)
 obtain⟨a1,rfl,w1⟩:=Kt.gI (k:= .u32) Tryz.underlying29 (yC 1 _ 29 rfl rfl)
 obtain⟨a2,rfl,w2⟩:=Kt.gI (k:= .u32) Tryz.underlying29 (yC 2 _ 29 rfl rfl)
 obtain⟨a3,rfl,w3⟩:=Kt.gI (k:= .u32) Tryz.underlying29 (yC 3 _ 29 rfl rfl)
 obtain⟨a4,rfl,w4⟩:=Kt.gI (k:= .u32) Tryz.underlying29 (yC 4 _ 29 rfl rfl)
 obtain⟨a5,rfl,w5⟩:=Kt.gI (k:= .u32) Tryz.underlying29 (yC 5 _ 29 rfl rfl)
 obtain⟨a6,rfl,w6⟩:=Kt.gI (k:= .u32) Tryz.underlying29 (yC 6 _ 29 rfl rfl)
 obtain⟨a7,rfl,w7⟩:=Kt.gI (k:= .u32) Tryz.underlying29 (yC 7 _ 29 rfl rfl)
 obtain⟨a8,rfl,w8⟩:=Kt.gI (k:= .u32) Tryz.underlying29 (yC 8 _ 29 rfl rfl)
 obtain⟨a9,rfl,w9⟩:=Kt.gI (k:= .u32) Tryz.underlying29 (yC 9 _ 29 rfl rfl)
 obtain⟨oL,rfl,w10⟩:=Kt.gI (k:= .u32) Tryz.underlying29 (yC 10 _ 29 rfl rfl)
 obtain⟨oN,rfl,w11⟩:=Kt.gI (k:= .u32) Tryz.underlying29 (yC 11 _ 29 rfl rfl)
 refine⟨YJ a0 a1 a2 a3 a4 a5 a6 a7 a8 a9 oL oN,rfl,fun j=> ?_⟩
 match j with
 | 0=>exact Kt.ji w0
 | 1=>exact Kt.ji w1
 | 2=>exact Kt.ji w2
 | 3=>exact Kt.ji w3
 | 4=>exact Kt.ji w4
 | 5=>exact Kt.ji w5
 | 6=>exact Kt.ji w6
 | 7=>exact Kt.ji w7
 | 8=>exact Kt.ji w8
 | 9=>exact Kt.ji w9
 | 10=>exact Kt.ji w10
 | 11=>exact Kt.ji w11
 | n+12=>exact⟨Int.le_refl _,(by decide:(0:Int) <4294967296)⟩
open Go.ChangeShapes Go.WideShapes Go.Deep
theorem zO {α:Type} {p:Nat→α→Prop}:∀n,(∀i,i<n→∃o,p i o)→∃os:List α,os.length=n∧∀i o,os[i]?=some o→p i o
 | 0,_=>⟨[],rfl,fun i o h=>by simp at h⟩
 | n+1,h=>by
  obtain⟨os,hl,hp⟩:=zO n (fun i hi=>h i (by omega))
  obtain⟨o,ho⟩:=h n (by omega)
  refine⟨os++ [o],by simp [hl],fun i x hx=> ?_⟩
  by_cases hi:i<n
  ·rw [List.getElem?_append_left (by omega)] at hx
   exact hp i x hx
  ·have hin:i<(os++ [o]).length:=(List.getElem?_eq_some_iff.1 hx).1
   obtain rfl:i=n:=by simp [hl] at hin;omega
   rw [List.getElem?_append_right (by omega),hl,Nat.sub_self] at hx
   obtain rfl:o=x:=by simpa using hx
   exact ho
theorem YK (zs:List Int) (h:∀n∈zs,(Lit.int .u8 n).wf=true) (j:Nat):0≤zs.getD j 0∧zs.getD j 0<256:=by
 rw [List.getD_eq_getElem?_getD]
 cases hz:zs[j]? with
 | none=>simp
 | some z=>exact Kt.Zu (h z (List.mem_of_getElem? hz))
theorem YL (zs:List Int) (n j:Nat) (h:j<n):(zs.take n).getD j 0=zs.getD j 0:=by
 rw [List.getD_eq_getElem?_getD,List.getD_eq_getElem?_getD,List.getElem?_take,if_pos h]
theorem OZ:Tryz.prog.cellsOf 5=1:=by kernel_rfl
section
variable {H:Type} {enc:TypeId×Value→H} {w:World} {base:Nat} {held:Bool}
theorem EU {fuel:Nat} {c:Value} {x:DataW H×List MemPlace} (h:DataW.trod enc Tryz.prog w base (fun _=>true) held fuel 34 [c]=some x):
  ∃ (us:List Int) (ao:Option Addr) (cap:Nat),c= .slice ao us.length cap∧Gu.Bs us ao cap w∧∀j,0≤us.getD j 0∧us.getD j 0<256:=by
 rcases open_ints Tryz.underlying34 Tryz.underlying5 OZ h with⟨hcs,hx⟩ | ⟨a,len,cap,zs,hcs,_,hl,hm,hz,hx,hcell,hwz⟩
 ·simp only [List.cons.injEq,and_true] at hcs
  subst hcs
  exact⟨[],none,0,rfl,⟨Nat.le_refl _,by unfold maxLen;omega,fun h=>absurd h (by simp)⟩,by simp⟩
 ·simp only [List.cons.injEq,and_true] at hcs
  subst hcs
  simp only [if_true] at hz
  have hlen:(zs.take len).length=len:=by rw [List.length_take];omega
  refine⟨zs.take len,some a,cap,by rw [hlen],⟨by omega,hm,fun h=> ?_⟩,YK _ (fun n hn=>hwz n (List.mem_of_mem_take hn))⟩
  rw [hlen] at h
  have Vd:=hcell 0 (by omega)
  obtain⟨b,off,spot⟩:=a
  have BM:spot=none:=by simpa [Addr.add] using World.cell?_spot Vd
  subst BM
  have hbW:b<w.heap.size:=World.block_lt_of_cell? w _ Vd
  refine⟨b,off,rfl,hbW,fun j hj=> ?_⟩
  rw [hlen] at hj
  rw [←Addr.add_lit,hcell j (by omega),YL _ _ _ hj]
theorem Jb {fuel:Nat} {a:Addr} {i:Nat} {x:DataW H×List MemPlace} {cs:List Value} (hc:w.cells? base (a.add (i*3)) 3=some cs) (h:DataW.trod enc Tryz.prog w base (fun _=>true) held fuel 101 cs=some x):
  ∃s:zV,yc s w∧∀ (j:Nat) v,s.cells[j]?=some v→w.cell? (a.add (i*3+j))=some v:=by
 obtain⟨ys,n',Uw,hy,hlen,hyl,hf⟩:=DataW.trod_struct Tryz.underlying101 h
 obtain⟨_,hcl,XD⟩:=World.cells?_some hc
 have s1:Tryz.prog.cellsOf 3=1:=by kernel_rfl
 have s4:Tryz.prog.cellsOf 34=1:=by kernel_rfl
 match cs,hcl,ys,hyl with
 | [c0,c1,c2],_, [y0,y1,y2],_=>
  have k0:DataW.trod enc Tryz.prog w base (fun _=>true) held n' 3 [c0]=some y0:=by simpa [s1,s4] using hf 0 _ rfl
  obtain⟨v0,e0,_,w0⟩:=DataW.trod_int Tryz.underlying3 k0
  simp only [List.cons.injEq,and_true] at e0
  subst e0
  have k1:DataW.trod enc Tryz.prog w base (fun _=>true) held n' 34 [c1]=some y1:=by simpa [s1,s4] using hf 1 _ rfl
  obtain⟨us,ao,cap,e1,hB,hG⟩:=EU k1
  subst e1
  have k2:DataW.trod enc Tryz.prog w base (fun _=>true) held n' 3 [c2]=some y2:=by simpa [s1,s4] using hf 2 _ rfl
  obtain⟨v2,e2,_,w2⟩:=DataW.trod_int Tryz.underlying3 k2
  simp only [List.cons.injEq,and_true] at e2
  subst e2
  have b0:=Kt.Vf w0
  refine⟨⟨v0,us,ao,cap,v2⟩,⟨b0.1,b0.2,hB,hG⟩,fun j v hj=> ?_⟩
  have hj3:j<3:=by
   have:=(Array.getElem?_eq_some_iff.1 hj).1
   simpa [zV.cells] using this
  have:=XD j hj3
  rw [Go.Deep.add_add] at this
  rw [this,←hj]
  simp [zV.cells]
theorem Cj {fuel:Nat} {c:Value} {x:DataW H×List MemPlace} (h:DataW.trod enc Tryz.prog w base (fun _=>true) held fuel 42 [c]=some x):
  ∃ (ss:List zV) (ao:Option Addr) (cap:Nat),c= .slice ao ss.length cap∧IW ss ao cap w:=by
 have hC:Tryz.prog.cellsOf 101=3:=by kernel_rfl
 rcases open_slice Tryz.underlying42 h with⟨e3,hx⟩ | ⟨a,len,cap,m,n',D,Pl,e3,_,hl,hm,hmm,hx,hi⟩
 ·simp only [List.cons.injEq,and_true] at e3
  subst e3
  exact⟨[],none,0,rfl,⟨Nat.le_refl _,by unfold maxLen;omega,fun o ho=>(nomatch ho),fun h=>absurd h (by simp)⟩⟩
 ·simp only [List.cons.injEq,and_true] at e3
  subst e3
  simp only [if_true] at hmm
  subst hmm
  obtain⟨ss,hss,hp⟩:=zO (p:=fun i s=>yc s w∧∀ (j:Nat) v,s.cells[j]?=some v→w.cell? (a.add (i*3+j))=some v) len (fun i dh=>by
   obtain⟨cs',hc,ht⟩:=hi i (by omega)
   rw [hC] at hc
   exact Jb hc ht)
  subst hss
  refine⟨ss,some a,m,rfl,⟨hl,hm,fun s hs=> ?_,fun h0=> ?_⟩⟩
  ·obtain⟨i,VE⟩:=List.mem_iff_getElem?.1 hs
   exact(hp i s VE).1
  ·obtain⟨b,off,spot⟩:=a
   obtain⟨s,hs⟩:∃s,ss[0]?=some s:=⟨ss[0],List.getElem?_eq_getElem h0⟩
   have Vd:=(hp 0 s hs).2 0 (.int .i64 s.at_) rfl
   have BM:spot=none:=by simpa [Addr.add] using World.cell?_spot Vd
   subst BM
   have hbW:b<w.heap.size:=World.block_lt_of_cell? w _ Vd
   refine⟨b,off,rfl,hbW,fun i s hs j v hj=> ?_⟩
   rw [Nat.add_assoc,←Addr.add_lit]
   exact(hp i s hs).2 j v hj
end
section
variable {H:Type} {enc:TypeId×Value→H} {w:World} {base:Nat} {held:Bool}
theorem Gq {fuel:Nat} {c:Value} {x:DataW H×List MemPlace} (h:DataW.trod enc Tryz.prog w base (fun _=>true) held fuel 45 [c]=some x):
  ∃ (ks:List Int) (ao:Option Addr) (cap:Nat),c= .slice ao ks.length cap∧Yr ks ao cap w:=by
 have hC:Tryz.prog.cellsOf 3=1:=by kernel_rfl
 rcases open_slice Tryz.underlying45 h with⟨e3,hx⟩ | ⟨a,len,cap,m,n',D,Pl,e3,_,hl,hm,hmm,hx,hi⟩
 ·simp only [List.cons.injEq,and_true] at e3
  subst e3
  exact⟨[],none,0,rfl,⟨Nat.le_refl _,by unfold maxLen;omega,fun h=>absurd h (by simp)⟩⟩
 ·simp only [List.cons.injEq,and_true] at e3
  subst e3
  simp only [if_true] at hmm
  subst hmm
  obtain⟨bs,Xz,hp⟩:=zO (p:=fun i b=>w.cell? (a.add i)=some (.int .i64 b)) len (fun i dh=>by
   obtain⟨cs',hc,ht⟩:=hi i (by omega)
   rw [hC] at hc
   obtain⟨b,e,_⟩:=DataW.trod_int Tryz.underlying3 ht
   subst e
   obtain⟨_,hcl,XD⟩:=World.cells?_some hc
   have:=XD 0 (by omega)
   rw [Go.Deep.add_add,Nat.mul_one,Nat.add_zero] at this
   exact⟨b,this⟩)
  subst Xz
  refine⟨bs,some a,m,rfl,⟨hl,hm,fun h0=> ?_⟩⟩
  obtain⟨b,off,spot⟩:=a
  have Vd:=hp 0 _ (List.getElem?_eq_getElem h0)
  have BM:spot=none:=by simpa [Addr.add] using World.cell?_spot Vd
  subst BM
  have hbW:b<w.heap.size:=World.block_lt_of_cell? w _ Vd
  refine⟨b,off,rfl,hbW,fun j hj=> ?_⟩
  rw [←Addr.add_lit,hp j _ (List.getElem?_eq_getElem hj),List.getD_eq_getElem?_getD,List.getElem?_eq_getElem hj]
  rfl
end
end Go.Proofs.YtcjcmnnhmajocabGreat.Ev
