import Derived.Deep.RegionWith
import Derived.Test.YtcjcmnnhmajocabPmaz
set_option linter.unusedVariables false
set_option linter.unusedSimpArgs false
set_option maxRecDepth 100000
set_option maxHeartbeats 16000000
namespace Go.Proofs.Ytcjcmnnhmajocab.Ic
open Go.RowKit Kt
def YJ (ok:Bool) (f s W:Int):Bool:= !ok || (decide (W<f) || decide (f+s≤W))
def dP (k n a b c g:Bool) (aC Kn N A B C:Int):Bool:=(!k&&Kn !=0) || ((!n&&N !=0) || (decide (N<0) || (decide (aC<N) || ((!a&&A !=0) || ((!b&&(!g&&B !=0)) || ((!c&&C !=0) || (g&&(decide (B<0) || decide (4294967295<B)))))))))
def Jd (x2 x4 uO yK:Bool):Int:=if x2 then 2 else if x4 then 3 else if uO then 6 else if yK then 7 else 0
theorem YK (k W:Int):e2 (rO k) (rS k) k W=YJ (rO k) (nF k) (nS k) W:=by
 rcases kinds k with h | h | h
 ·unfold e2 YJ;rw [sQ (.inl h)];rfl
 ·unfold e2 YJ;rw [sQ (.inr h)];rfl
 ·unfold e2 YJ
  rw [Bool.eq_iff_iff]
  rcases h with rfl | rfl | rfl | rfl | rfl | rfl | rfl | rfl | rfl | rfl | rfl | rfl | rfl | rfl | rfl | rfl | rfl<;>simp [rO,rS,nF,nS] <;>omega
theorem Ul (os:List cZ) (aC:Int) (j:Nat) (o:cZ) (ho:os[j]?=some o):fQ os aC j=Jd (YJ (rO o.k) (nF o.k) (nS o.k) o.w) (dP (rK o.k) (rN o.k) (rA o.k) (rB o.k) (rC o.k) (rG o.k) aC o.kn o.n o.a o.b o.c)
  (lK (rA o.k) (rB o.k) (rC o.k) (nI os j o.a) (nI os j o.b) (nI os j o.c)) (rF o.k&&decide ((j:Int)+1<(os.length:Int))):=by
 have h:fQ os aC j=SV os aC j o:=by unfold fQ;rw [ho]
 rw [h,SV,YK]
 have h4:∀ (k n a b c g:Bool) (Kn N A B C:Int),dP k n a b c g aC Kn N A B C=(e4 k n aC Kn N || (e6 a b c g A B C || e8 g B)):=by
  intro k n a b c g Kn N A B C
  unfold dP e4 e6 e8
  simp only [Bool.or_assoc]
 have ZH:decide ((j:Int) <(os.length:Int)-1)=decide ((j:Int)+1<(os.length:Int)):=by
  rw [Bool.eq_iff_iff];simp;omega
 rw [h4,ZH]
 unfold Eu Jd jS
 generalize e4 (rK o.k) (rN o.k) aC o.kn o.n=x4
 generalize e6 (rA o.k) (rB o.k) (rC o.k) (rG o.k) o.a o.b o.c=x6
 generalize e8 (rG o.k) o.b=x8
 cases x4<;>cases x6<;>cases x8<;>rfl
theorem letters (k:Int):(rK k,rN k,rA k,rB k,rC k,rG k)∈ [(false,false,false,false,false,false),(true,false,false,false,false,false),(false,false,true,false,false,false),(false,false,true,true,false,false),(false,false,true,true,true,false),
  (true,true,true,false,false,false),(true,true,true,true,false,false),(true,true,false,false,false,false),(true,true,false,false,false,true),(false,true,true,false,false,false)]:=by
 rcases kinds k with h | h | h
 ·rw [sK (.inl h),sN (.inl h),sG (.inl h),sH (.inl h),sJ (.inl h),sO (.inl h)];decide
 ·rw [sK (.inr h),sN (.inr h),sG (.inr h),sH (.inr h),sJ (.inr h),sO (.inr h)];decide
 ·rcases h with rfl | rfl | rfl | rfl | rfl | rfl | rfl | rfl | rfl | rfl | rfl | rfl | rfl | rfl | rfl | rfl | rfl<;>decide
theorem two {w w1:World} {Y Z:Array Value} {u v:TypeId} (hb:Below (w.alloc (.cells Y u)).heap.size (w.alloc (.cells Y u)) w1):
  kE w.heap.size Y (w1.alloc (.cells Z v))∧kE w1.heap.size Z (w1.alloc (.cells Z v))∧Below w.heap.size w (w1.alloc (.cells Z v))∧w.heap.size+1≤w1.heap.size:=by
 have hs:w.heap.size+1≤w1.heap.size:=by have:=hb.size;simp at this;omega
 refine⟨⟨by simp;omega,fun j x hj=> ?_⟩,kE.new _ _ _,(((Below.refl _ _).alloc (Nat.le_refl _) _).trans (hb.mono (by simp))).alloc (by omega) _,hs⟩
 rw [qV (by omega),hb.cell (p:=⟨w.heap.size,j,none⟩) (by simp),nY]
 exact hj
def Rd (bx ro rn:Nat) (X Y Z:Array Value) (w:World):Prop:=kE bx X w∧kE ro Y w∧kE rn Z w
theorem Rd.keep {bx ro rn:Nat} {X Y Z:Array Value} {w w':World} (h:Rd bx ro rn X Y Z w) (hb:Below w.heap.size w w'):Rd bx ro rn X Y Z w':=⟨h.1.keep hb,h.2.1.keep hb,h.2.2.keep hb⟩
theorem below_drewN {B:Nat} {a w:World} (h:Below B a w) (n:Nat):Below B a (w.drewN n):=⟨h.os,h.tape,h.output,h.size,h.block⟩
theorem EG (os:List cZ) (ao:Option Addr) (cap:Nat) (pc aC bg:Int) (w:World) (gy:rQ os ao cap w):
  Calls Try.prog 12 #[.agg #[.int .u32 pc, .int .i64 aC, .int .i64 bg, .slice ao os.length cap]] w fun e w'=>e= .returned (SY (uh os aC bg))∧Below w.heap.size w w':=by
 have hL:os.length≤9223372036854775807:=by have:=gy.1;have h2:=gy.2.1;unfold maxLen at h2;omega
 by_cases hlen:2048<os.length
 ·have hv:uh os aC bg=(5,-1):=by unfold uh;rw [if_pos hlen]
  rw [hv]
  clear hv gy
  have h1:(2048:Int) <(os.length:Int):=by omega
  go_enter Try.func12,Try.ntmps12
  go_wp2
  go_ret2
  exact⟨rfl,(Below.refl _ _).alloc (Nat.le_refl _) _⟩
 have h1:¬ (2048:Int) <(os.length:Int):=by omega
 by_cases yM:aC<0∨64<aC∨bg<0∨384<bg
 ·have hv:uh os aC bg=(4,-1):=by unfold uh;rw [if_neg hlen,if_pos yM]
  rw [hv]
  clear hv gy
  have hc:aC<0∨(¬aC<0∧64<aC)∨(¬aC<0∧¬64<aC∧bg<0)∨(¬aC<0∧¬64<aC∧¬bg<0∧384<bg):=by omega
  clear yM
  rcases hc with q0 | ⟨q0,q1⟩ | ⟨q0,q1,q2⟩ | ⟨q0,q1,q2,q3⟩
  all_goals go_enter Try.func12,Try.ntmps12
  all_goals go_wp2
  all_goals go_ret2
  all_goals exact⟨rfl,(Below.refl _ _).alloc (Nat.le_refl _) _⟩
 have hv:uh os aC bg=scan os aC os.length:=by unfold uh;rw [if_neg hlen,if_neg yM]
 rw [hv]
 clear hv
 have q0:¬aC<0:=by omega
 have q1:¬64<aC:=by omega
 have q2:¬bg<0:=by omega
 have q3:¬384<bg:=by omega
 clear yM hlen
 have HO:=κ gy
 clear gy
 go_enter Try.func12,Try.ntmps12
 go_wp2
 have S9:=kE.new w #[.int .u32 pc, .int .i64 aC, .int .i64 bg, .slice ao os.length cap] 25
 have Tc:Below w.heap.size w (w.alloc (.cells #[.int .u32 pc, .int .i64 aC, .int .i64 bg, .slice ao os.length cap] 25)):=(Below.refl _ _).alloc (Nat.le_refl _) _
 generalize w.alloc (.cells #[.int .u32 pc, .int .i64 aC, .int .i64 bg, .slice ao os.length cap] 25)=wA at S9 Tc⊢
 generalize xW:w.heap.size=bx at S9 Tc⊢
 have HX:=κ xW
 clear xW
 go_loopg [33] os.length (fun k i wr=>∃j:Nat,k=os.length-j∧j≤os.length∧i= .int .i64 j∧Hid (scan os aC os.length=scan os aC (os.length-j))∧Below bx w wr∧kE bx #[.int .u32 pc, .int .i64 aC, .int .i64 bg, .slice ao os.length cap] wr)
 case atStart=>exact⟨0,rfl,Nat.zero_le _,rfl,rfl,Tc,S9⟩
 case round=>
  obtain⟨j,hk,hj,rfl,JG,hb,hx⟩:=hrel
  have IZ:rQ os ao cap wr:=HO.out.keep (by rw [HX.out];exact hb)
  have HK:=κ hk
  clear S9 Tc hk
  by_cases bV:j<os.length
  ·obtain⟨o,ho⟩:∃o,os[j]?=some o:=⟨os[j],List.getElem?_eq_getElem bV⟩
   have hE:=Ul os aC j o ho
   have JK:=IZ
   obtain⟨g,off,rfl,hg,hc⟩:=IZ.2.2 (by omega)
   have HN:=κ (IX o.k)
   have jq:=κ (ad8 o.k)
   have jr:=κ (ad9 o.k)
   have jh:=κ (aea o.k)
   have ji:=κ (hasB o.k)
   have jk:=κ (aeb o.k)
   have jv:=κ (aec o.k)
   have Um:=κ (wY o.k)
   rw [←N8] at Um
   have jg:=κ (letters o.k)
   have c0:wr.cell? ⟨g,off+j*7,none⟩=some (.int .i64 o.k):=hc j o ho 0 _ rfl
   have c1:wr.cell? ⟨g,off+j*7+1,none⟩=some (.int .i64 o.w):=hc j o ho 1 _ rfl
   have c2:wr.cell? ⟨g,off+j*7+2,none⟩=some (.int .i64 o.a):=hc j o ho 2 _ rfl
   have c3:wr.cell? ⟨g,off+j*7+3,none⟩=some (.int .i64 o.b):=hc j o ho 3 _ rfl
   have c4:wr.cell? ⟨g,off+j*7+4,none⟩=some (.int .i64 o.c):=hc j o ho 4 _ rfl
   have c5:wr.cell? ⟨g,off+j*7+5,none⟩=some (.int .u32 o.kn):=hc j o ho 5 _ rfl
   have c6:wr.cell? ⟨g,off+j*7+6,none⟩=some (.int .i64 o.n):=hc j o ho 6 _ rfl
   have oV:(j:Int) <(os.length:Int):=by omega
   have hii:j≤os.length:=by omega
   have hfs:0≤nF o.k∧nF o.k<100∧0≤nS o.k∧nS o.k<100:=by
    constructor
    ·unfold nF;split<;>omega
    constructor
    ·unfold nF;split<;>omega
    unfold nS
    split<;>omega
   clear hc ho
   obtain⟨ok,ow,oa,ob,oc,nK,on⟩:=o
   dsimp only at hE HN jq jr jh ji jk jv Um jg c0 c1 c2 c3 c4 c5 c6 hfs
   generalize rO ok=oO at hE HN
   generalize nF ok=nf at hE HN jq jr jh ji jk jv hfs
   generalize nS ok=ns at hE HN jq jr jh ji jk jv hfs
   generalize nT ok=nt at HN jq jr jh ji jk jv
   generalize rK ok=lk at hE jq jg
   generalize rN ok=ln at hE jr jg
   generalize rA ok=la at hE jh jg
   generalize rB ok=lb at hE ji jg
   generalize rC ok=lc at hE jk jg
   generalize rG ok=lg at hE jv jg
   generalize rF ok=lf at hE Um
   obtain⟨hf0,hf1,hf2,hf3⟩:=hfs
   generalize hE2:YJ oO nf ns ow=x2 at hE
   generalize hE4:dP lk ln la lb lc lg aC nK on oa ob oc=x4 at hE
   generalize abN:lK la lb lc (nI os j oa) (nI os j ob) (nI os j oc)=uO at hE
   generalize abO:(lf&&decide ((j:Int)+1<(os.length:Int)))=yK at hE
   have E2:=κ hE2
   have E4:=κ hE4
   have ZF:=κ abN
   have E12:=κ abO
   have EE:=κ hE
   clear hE2 hE4 abN abO hE
   have wL:=hx.2 0 _ rfl
   have Ap:=hx.2 1 _ rfl
   have Zv:=hx.2 2 _ rfl
   have hx3:=hx.2 3 _ rfl
   have hxl:=hx.1
   have HXB:=κ hx
   have HOR:=κ JK
   clear hx IZ JK
   go_upto_region 9 with(go_at_call 49;refine(HN.out _).mono ?_;rintro e w1 ⟨rfl,aQ⟩)
   obtain⟨d5,d6,F8,hz⟩:=two (Z:= #[.int .i64 nf, .int .i64 ns, .string nt]) (v:=111) aQ
   have hR:Rd bx wr.heap.size w1.heap.size _ _ _ (w1.alloc (.cells #[.int .i64 nf, .int .i64 ns, .string nt] 111)):=⟨HXB.out.keep F8,d5,d6⟩
   have hoA:=HOR.out.keep F8
   have Un:=hb.trans (F8.mono (by omega))
   generalize w1.alloc (.cells #[.int .i64 nf, .int .i64 ns, .string nt] 111)=wA at hR hoA Un⊢
   clear aQ d5 d6 F8 HN wL Ap Zv hx3 hxl c0 c1 c2 c3 c4 c5 c6 HXB HOR hb
   generalize wr.heap.size=ro at hR hz hg⊢
   generalize w1.heap.size=rn at hR hz⊢
   clear hz hg
   have b0:=hR.1.2 0 _ rfl
   have b1:=hR.1.2 1 _ rfl
   have b2:=hR.1.2 2 _ rfl
   have b3:=hR.1.2 3 _ rfl
   have o0:=hR.2.1.2 0 _ rfl
   have o1:=hR.2.1.2 1 _ rfl
   have o2:=hR.2.1.2 2 _ rfl
   have o3:=hR.2.1.2 3 _ rfl
   have o4:=hR.2.1.2 4 _ rfl
   have o5:=hR.2.1.2 5 _ rfl
   have o6:=hR.2.1.2 6 _ rfl
   have p0:=hR.2.2.2 0 _ rfl
   have p1:=hR.2.2.2 1 _ rfl
   have p2:=hR.2.2.2 2 _ rfl
   have l1:=hR.1.1
   have l5:=hR.2.1.1
   have l6:=hR.2.2.1
   go_cut [4,7,62] from 38 to 61 (fun s4 s7 s62 wx=>s4= .int .i64 (j:Int)∧s62= .bool x2∧wA=wx)
   case first=>
    go_wp2
    all_goals go_meet
    all_goals refine⟨rfl,congrArg Value.bool ?_,rfl⟩
    all_goals rw [←E2.out]
    all_goals simp [YJ, *]
    all_goals first | omega | (rw [Bool.eq_iff_iff];simp [*] <;>omega) | (rw [Bool.eq_iff_iff];simp<;>omega)
   obtain⟨rfl,rfl,rfl⟩:=hcut
   cases x2
   case true=>
    have hz:scan os aC os.length=(fQ os aC j,(j:Int)):=by rw [JG.out];exact nZ bV (by rw [EE.out];simp [Jd])
    have HZ:=κ hz
    clear hz
    go_wp2
    go_ret2
    exact⟨by rw [HZ.out,EE.out];rfl,by rw [HX.out];exact Un⟩
   go_upto_region 11 with fail
   have hr:=Below.refl wA.heap.size wA
   go_cut [142] from 64 to 141 (fun aeV wx=>aeV= .bool x4∧Below wA.heap.size wA wx)
   case first=>
    have abP:=jg.out
    clear jg
    simp only [List.mem_cons,Prod.mk.injEq,List.not_mem_nil,or_false] at abP
    rcases abP with⟨rfl,rfl,rfl,rfl,rfl,rfl⟩ | ⟨rfl,rfl,rfl,rfl,rfl,rfl⟩ | ⟨rfl,rfl,rfl,rfl,rfl,rfl⟩ | ⟨rfl,rfl,rfl,rfl,rfl,rfl⟩ | ⟨rfl,rfl,rfl,rfl,rfl,rfl⟩ | ⟨rfl,rfl,rfl,rfl,rfl,rfl⟩ | ⟨rfl,rfl,rfl,rfl,rfl,rfl⟩ | ⟨rfl,rfl,rfl,rfl,rfl,rfl⟩ | ⟨rfl,rfl,rfl,rfl,rfl,rfl⟩ | ⟨rfl,rfl,rfl,rfl,rfl,rfl⟩
    ·
     rcases(show(nK≠0)∨(nK=0∧on≠0)∨(nK=0∧on=0∧oa≠0)∨(nK=0∧on=0∧oa=0∧ob≠0)∨(nK=0∧on=0∧oa=0∧ob=0∧oc≠0)∨(nK=0∧on=0∧oa=0∧ob=0∧oc=0) by omega) with y0 | ⟨rfl,y1⟩ | ⟨rfl,rfl,y2⟩ | ⟨rfl,rfl,rfl,y3⟩ | ⟨rfl,rfl,rfl,rfl,y4⟩ | ⟨rfl,rfl,rfl,rfl,rfl⟩
     ·as_aux_lemma=>
       have t0:(nK==0)=false:=by rw [beq_eq_false_iff_ne];exact y0
       have u0':(nK !=0)=true:=by rw [bne_iff_ne];exact y0
       go_wp2_with (first
         | (go_at_call_of 50 (Value.int IntKind.u8 107);refine(jq.out _).mono ?_;rintro e w2 ⟨rfl,aj⟩;have ak:Below wA.heap.size wA w2:=Kt.chain (by assumption) aj;have aK:=bc ak)
         | (go_at_call_of 50 (Value.int IntKind.u8 110);refine(jr.out _).mono ?_;rintro e w2 ⟨rfl,aj⟩;have ak:Below wA.heap.size wA w2:=Kt.chain (by assumption) aj;have aK:=bc ak)
         | (go_at_call_of 50 (Value.int IntKind.u8 97);refine(jh.out _).mono ?_;rintro e w2 ⟨rfl,aj⟩;have ak:Below wA.heap.size wA w2:=Kt.chain (by assumption) aj;have aK:=bc ak)
         | (go_at_call_of 50 (Value.int IntKind.u8 98);refine(ji.out _).mono ?_;rintro e w2 ⟨rfl,aj⟩;have ak:Below wA.heap.size wA w2:=Kt.chain (by assumption) aj;have aK:=bc ak)
         | (go_at_call_of 50 (Value.int IntKind.u8 99);refine(jk.out _).mono ?_;rintro e w2 ⟨rfl,aj⟩;have ak:Below wA.heap.size wA w2:=Kt.chain (by assumption) aj;have aK:=bc ak)
         | (go_at_call_of 50 (Value.int IntKind.u8 103);refine(jv.out _).mono ?_;rintro e w2 ⟨rfl,aj⟩;have ak:Below wA.heap.size wA w2:=Kt.chain (by assumption) aj;have aK:=bc ak))
       all_goals go_meet
       all_goals refine⟨congrArg Value.bool ?_,by assumption⟩
       all_goals rw [←E4.out]
       all_goals first | (simp [dP, *];done) | (simp [dP, *,Bool.or_assoc];done)
     ·as_aux_lemma=>
       have t1:(on==0)=false:=by rw [beq_eq_false_iff_ne];exact y1
       have u1':(on !=0)=true:=by rw [bne_iff_ne];exact y1
       go_wp2_with (first
         | (go_at_call_of 50 (Value.int IntKind.u8 107);refine(jq.out _).mono ?_;rintro e w2 ⟨rfl,aj⟩;have ak:Below wA.heap.size wA w2:=Kt.chain (by assumption) aj;have aK:=bc ak)
         | (go_at_call_of 50 (Value.int IntKind.u8 110);refine(jr.out _).mono ?_;rintro e w2 ⟨rfl,aj⟩;have ak:Below wA.heap.size wA w2:=Kt.chain (by assumption) aj;have aK:=bc ak)
         | (go_at_call_of 50 (Value.int IntKind.u8 97);refine(jh.out _).mono ?_;rintro e w2 ⟨rfl,aj⟩;have ak:Below wA.heap.size wA w2:=Kt.chain (by assumption) aj;have aK:=bc ak)
         | (go_at_call_of 50 (Value.int IntKind.u8 98);refine(ji.out _).mono ?_;rintro e w2 ⟨rfl,aj⟩;have ak:Below wA.heap.size wA w2:=Kt.chain (by assumption) aj;have aK:=bc ak)
         | (go_at_call_of 50 (Value.int IntKind.u8 99);refine(jk.out _).mono ?_;rintro e w2 ⟨rfl,aj⟩;have ak:Below wA.heap.size wA w2:=Kt.chain (by assumption) aj;have aK:=bc ak)
         | (go_at_call_of 50 (Value.int IntKind.u8 103);refine(jv.out _).mono ?_;rintro e w2 ⟨rfl,aj⟩;have ak:Below wA.heap.size wA w2:=Kt.chain (by assumption) aj;have aK:=bc ak))
       all_goals go_meet
       all_goals refine⟨congrArg Value.bool ?_,by assumption⟩
       all_goals rw [←E4.out]
       all_goals first | (simp [dP, *];done) | (simp [dP, *,Bool.or_assoc];done)
     ·as_aux_lemma=>
       have t2:(oa==0)=false:=by rw [beq_eq_false_iff_ne];exact y2
       have YL:(oa !=0)=true:=by rw [bne_iff_ne];exact y2
       go_wp2_with (first
         | (go_at_call_of 50 (Value.int IntKind.u8 107);refine(jq.out _).mono ?_;rintro e w2 ⟨rfl,aj⟩;have ak:Below wA.heap.size wA w2:=Kt.chain (by assumption) aj;have aK:=bc ak)
         | (go_at_call_of 50 (Value.int IntKind.u8 110);refine(jr.out _).mono ?_;rintro e w2 ⟨rfl,aj⟩;have ak:Below wA.heap.size wA w2:=Kt.chain (by assumption) aj;have aK:=bc ak)
         | (go_at_call_of 50 (Value.int IntKind.u8 97);refine(jh.out _).mono ?_;rintro e w2 ⟨rfl,aj⟩;have ak:Below wA.heap.size wA w2:=Kt.chain (by assumption) aj;have aK:=bc ak)
         | (go_at_call_of 50 (Value.int IntKind.u8 98);refine(ji.out _).mono ?_;rintro e w2 ⟨rfl,aj⟩;have ak:Below wA.heap.size wA w2:=Kt.chain (by assumption) aj;have aK:=bc ak)
         | (go_at_call_of 50 (Value.int IntKind.u8 99);refine(jk.out _).mono ?_;rintro e w2 ⟨rfl,aj⟩;have ak:Below wA.heap.size wA w2:=Kt.chain (by assumption) aj;have aK:=bc ak)
         | (go_at_call_of 50 (Value.int IntKind.u8 103);refine(jv.out _).mono ?_;rintro e w2 ⟨rfl,aj⟩;have ak:Below wA.heap.size wA w2:=Kt.chain (by assumption) aj;have aK:=bc ak))
       all_goals go_meet
       all_goals refine⟨congrArg Value.bool ?_,by assumption⟩
       all_goals rw [←E4.out]
       all_goals first | (simp [dP, *];done) | (simp [dP, *,Bool.or_assoc];done)
     ·as_aux_lemma=>
       have t3:(ob==0)=false:=by rw [beq_eq_false_iff_ne];exact y3
       have ZP:(ob !=0)=true:=by rw [bne_iff_ne];exact y3
       go_wp2_with (first
         | (go_at_call_of 50 (Value.int IntKind.u8 107);refine(jq.out _).mono ?_;rintro e w2 ⟨rfl,aj⟩;have ak:Below wA.heap.size wA w2:=Kt.chain (by assumption) aj;have aK:=bc ak)
         | (go_at_call_of 50 (Value.int IntKind.u8 110);refine(jr.out _).mono ?_;rintro e w2 ⟨rfl,aj⟩;have ak:Below wA.heap.size wA w2:=Kt.chain (by assumption) aj;have aK:=bc ak)
         | (go_at_call_of 50 (Value.int IntKind.u8 97);refine(jh.out _).mono ?_;rintro e w2 ⟨rfl,aj⟩;have ak:Below wA.heap.size wA w2:=Kt.chain (by assumption) aj;have aK:=bc ak)
         | (go_at_call_of 50 (Value.int IntKind.u8 98);refine(ji.out _).mono ?_;rintro e w2 ⟨rfl,aj⟩;have ak:Below wA.heap.size wA w2:=Kt.chain (by assumption) aj;have aK:=bc ak)
         | (go_at_call_of 50 (Value.int IntKind.u8 99);refine(jk.out _).mono ?_;rintro e w2 ⟨rfl,aj⟩;have ak:Below wA.heap.size wA w2:=Kt.chain (by assumption) aj;have aK:=bc ak)
         | (go_at_call_of 50 (Value.int IntKind.u8 103);refine(jv.out _).mono ?_;rintro e w2 ⟨rfl,aj⟩;have ak:Below wA.heap.size wA w2:=Kt.chain (by assumption) aj;have aK:=bc ak))
       all_goals go_meet
       all_goals refine⟨congrArg Value.bool ?_,by assumption⟩
       all_goals rw [←E4.out]
       all_goals first | (simp [dP, *];done) | (simp [dP, *,Bool.or_assoc];done)
     ·as_aux_lemma=>
       have t4:(oc==0)=false:=by rw [beq_eq_false_iff_ne];exact y4
       have u4':(oc !=0)=true:=by rw [bne_iff_ne];exact y4
       go_wp2_with (first
         | (go_at_call_of 50 (Value.int IntKind.u8 107);refine(jq.out _).mono ?_;rintro e w2 ⟨rfl,aj⟩;have ak:Below wA.heap.size wA w2:=Kt.chain (by assumption) aj;have aK:=bc ak)
         | (go_at_call_of 50 (Value.int IntKind.u8 110);refine(jr.out _).mono ?_;rintro e w2 ⟨rfl,aj⟩;have ak:Below wA.heap.size wA w2:=Kt.chain (by assumption) aj;have aK:=bc ak)
         | (go_at_call_of 50 (Value.int IntKind.u8 97);refine(jh.out _).mono ?_;rintro e w2 ⟨rfl,aj⟩;have ak:Below wA.heap.size wA w2:=Kt.chain (by assumption) aj;have aK:=bc ak)
         | (go_at_call_of 50 (Value.int IntKind.u8 98);refine(ji.out _).mono ?_;rintro e w2 ⟨rfl,aj⟩;have ak:Below wA.heap.size wA w2:=Kt.chain (by assumption) aj;have aK:=bc ak)
         | (go_at_call_of 50 (Value.int IntKind.u8 99);refine(jk.out _).mono ?_;rintro e w2 ⟨rfl,aj⟩;have ak:Below wA.heap.size wA w2:=Kt.chain (by assumption) aj;have aK:=bc ak)
         | (go_at_call_of 50 (Value.int IntKind.u8 103);refine(jv.out _).mono ?_;rintro e w2 ⟨rfl,aj⟩;have ak:Below wA.heap.size wA w2:=Kt.chain (by assumption) aj;have aK:=bc ak))
       all_goals go_meet
       all_goals refine⟨congrArg Value.bool ?_,by assumption⟩
       all_goals rw [←E4.out]
       all_goals first | (simp [dP, *];done) | (simp [dP, *,Bool.or_assoc];done)
     ·as_aux_lemma=>
       go_wp2_with (first
         | (go_at_call_of 50 (Value.int IntKind.u8 107);refine(jq.out _).mono ?_;rintro e w2 ⟨rfl,aj⟩;have ak:Below wA.heap.size wA w2:=Kt.chain (by assumption) aj;have aK:=bc ak)
         | (go_at_call_of 50 (Value.int IntKind.u8 110);refine(jr.out _).mono ?_;rintro e w2 ⟨rfl,aj⟩;have ak:Below wA.heap.size wA w2:=Kt.chain (by assumption) aj;have aK:=bc ak)
         | (go_at_call_of 50 (Value.int IntKind.u8 97);refine(jh.out _).mono ?_;rintro e w2 ⟨rfl,aj⟩;have ak:Below wA.heap.size wA w2:=Kt.chain (by assumption) aj;have aK:=bc ak)
         | (go_at_call_of 50 (Value.int IntKind.u8 98);refine(ji.out _).mono ?_;rintro e w2 ⟨rfl,aj⟩;have ak:Below wA.heap.size wA w2:=Kt.chain (by assumption) aj;have aK:=bc ak)
         | (go_at_call_of 50 (Value.int IntKind.u8 99);refine(jk.out _).mono ?_;rintro e w2 ⟨rfl,aj⟩;have ak:Below wA.heap.size wA w2:=Kt.chain (by assumption) aj;have aK:=bc ak)
         | (go_at_call_of 50 (Value.int IntKind.u8 103);refine(jv.out _).mono ?_;rintro e w2 ⟨rfl,aj⟩;have ak:Below wA.heap.size wA w2:=Kt.chain (by assumption) aj;have aK:=bc ak))
       all_goals go_meet
       all_goals refine⟨congrArg Value.bool ?_,by assumption⟩
       all_goals rw [←E4.out]
       all_goals first | (simp [dP, *];done) | (simp [dP, *,Bool.or_assoc];done)
    ·
     rcases(show(on≠0)∨(on=0∧oa≠0)∨(on=0∧oa=0∧ob≠0)∨(on=0∧oa=0∧ob=0∧oc≠0)∨(on=0∧oa=0∧ob=0∧oc=0) by omega) with y0 | ⟨rfl,y1⟩ | ⟨rfl,rfl,y2⟩ | ⟨rfl,rfl,rfl,y3⟩ | ⟨rfl,rfl,rfl,rfl⟩
     ·as_aux_lemma=>
       have t0:(on==0)=false:=by rw [beq_eq_false_iff_ne];exact y0
       have u0':(on !=0)=true:=by rw [bne_iff_ne];exact y0
       go_wp2_with (first
         | (go_at_call_of 50 (Value.int IntKind.u8 107);refine(jq.out _).mono ?_;rintro e w2 ⟨rfl,aj⟩;have ak:Below wA.heap.size wA w2:=Kt.chain (by assumption) aj;have aK:=bc ak)
         | (go_at_call_of 50 (Value.int IntKind.u8 110);refine(jr.out _).mono ?_;rintro e w2 ⟨rfl,aj⟩;have ak:Below wA.heap.size wA w2:=Kt.chain (by assumption) aj;have aK:=bc ak)
         | (go_at_call_of 50 (Value.int IntKind.u8 97);refine(jh.out _).mono ?_;rintro e w2 ⟨rfl,aj⟩;have ak:Below wA.heap.size wA w2:=Kt.chain (by assumption) aj;have aK:=bc ak)
         | (go_at_call_of 50 (Value.int IntKind.u8 98);refine(ji.out _).mono ?_;rintro e w2 ⟨rfl,aj⟩;have ak:Below wA.heap.size wA w2:=Kt.chain (by assumption) aj;have aK:=bc ak)
         | (go_at_call_of 50 (Value.int IntKind.u8 99);refine(jk.out _).mono ?_;rintro e w2 ⟨rfl,aj⟩;have ak:Below wA.heap.size wA w2:=Kt.chain (by assumption) aj;have aK:=bc ak)
         | (go_at_call_of 50 (Value.int IntKind.u8 103);refine(jv.out _).mono ?_;rintro e w2 ⟨rfl,aj⟩;have ak:Below wA.heap.size wA w2:=Kt.chain (by assumption) aj;have aK:=bc ak))
       all_goals go_meet
       all_goals refine⟨congrArg Value.bool ?_,by assumption⟩
       all_goals rw [←E4.out]
       all_goals first | (simp [dP, *];done) | (simp [dP, *,Bool.or_assoc];done)
     ·as_aux_lemma=>
       have t1:(oa==0)=false:=by rw [beq_eq_false_iff_ne];exact y1
       have u1':(oa !=0)=true:=by rw [bne_iff_ne];exact y1
       go_wp2_with (first
         | (go_at_call_of 50 (Value.int IntKind.u8 107);refine(jq.out _).mono ?_;rintro e w2 ⟨rfl,aj⟩;have ak:Below wA.heap.size wA w2:=Kt.chain (by assumption) aj;have aK:=bc ak)
         | (go_at_call_of 50 (Value.int IntKind.u8 110);refine(jr.out _).mono ?_;rintro e w2 ⟨rfl,aj⟩;have ak:Below wA.heap.size wA w2:=Kt.chain (by assumption) aj;have aK:=bc ak)
         | (go_at_call_of 50 (Value.int IntKind.u8 97);refine(jh.out _).mono ?_;rintro e w2 ⟨rfl,aj⟩;have ak:Below wA.heap.size wA w2:=Kt.chain (by assumption) aj;have aK:=bc ak)
         | (go_at_call_of 50 (Value.int IntKind.u8 98);refine(ji.out _).mono ?_;rintro e w2 ⟨rfl,aj⟩;have ak:Below wA.heap.size wA w2:=Kt.chain (by assumption) aj;have aK:=bc ak)
         | (go_at_call_of 50 (Value.int IntKind.u8 99);refine(jk.out _).mono ?_;rintro e w2 ⟨rfl,aj⟩;have ak:Below wA.heap.size wA w2:=Kt.chain (by assumption) aj;have aK:=bc ak)
         | (go_at_call_of 50 (Value.int IntKind.u8 103);refine(jv.out _).mono ?_;rintro e w2 ⟨rfl,aj⟩;have ak:Below wA.heap.size wA w2:=Kt.chain (by assumption) aj;have aK:=bc ak))
       all_goals go_meet
       all_goals refine⟨congrArg Value.bool ?_,by assumption⟩
       all_goals rw [←E4.out]
       all_goals first | (simp [dP, *];done) | (simp [dP, *,Bool.or_assoc];done)
     ·as_aux_lemma=>
       have t2:(ob==0)=false:=by rw [beq_eq_false_iff_ne];exact y2
       have YL:(ob !=0)=true:=by rw [bne_iff_ne];exact y2
       go_wp2_with (first
         | (go_at_call_of 50 (Value.int IntKind.u8 107);refine(jq.out _).mono ?_;rintro e w2 ⟨rfl,aj⟩;have ak:Below wA.heap.size wA w2:=Kt.chain (by assumption) aj;have aK:=bc ak)
         | (go_at_call_of 50 (Value.int IntKind.u8 110);refine(jr.out _).mono ?_;rintro e w2 ⟨rfl,aj⟩;have ak:Below wA.heap.size wA w2:=Kt.chain (by assumption) aj;have aK:=bc ak)
         | (go_at_call_of 50 (Value.int IntKind.u8 97);refine(jh.out _).mono ?_;rintro e w2 ⟨rfl,aj⟩;have ak:Below wA.heap.size wA w2:=Kt.chain (by assumption) aj;have aK:=bc ak)
         | (go_at_call_of 50 (Value.int IntKind.u8 98);refine(ji.out _).mono ?_;rintro e w2 ⟨rfl,aj⟩;have ak:Below wA.heap.size wA w2:=Kt.chain (by assumption) aj;have aK:=bc ak)
         | (go_at_call_of 50 (Value.int IntKind.u8 99);refine(jk.out _).mono ?_;rintro e w2 ⟨rfl,aj⟩;have ak:Below wA.heap.size wA w2:=Kt.chain (by assumption) aj;have aK:=bc ak)
         | (go_at_call_of 50 (Value.int IntKind.u8 103);refine(jv.out _).mono ?_;rintro e w2 ⟨rfl,aj⟩;have ak:Below wA.heap.size wA w2:=Kt.chain (by assumption) aj;have aK:=bc ak))
       all_goals go_meet
       all_goals refine⟨congrArg Value.bool ?_,by assumption⟩
       all_goals rw [←E4.out]
       all_goals first | (simp [dP, *];done) | (simp [dP, *,Bool.or_assoc];done)
     ·as_aux_lemma=>
       have t3:(oc==0)=false:=by rw [beq_eq_false_iff_ne];exact y3
       have ZP:(oc !=0)=true:=by rw [bne_iff_ne];exact y3
       go_wp2_with (first
         | (go_at_call_of 50 (Value.int IntKind.u8 107);refine(jq.out _).mono ?_;rintro e w2 ⟨rfl,aj⟩;have ak:Below wA.heap.size wA w2:=Kt.chain (by assumption) aj;have aK:=bc ak)
         | (go_at_call_of 50 (Value.int IntKind.u8 110);refine(jr.out _).mono ?_;rintro e w2 ⟨rfl,aj⟩;have ak:Below wA.heap.size wA w2:=Kt.chain (by assumption) aj;have aK:=bc ak)
         | (go_at_call_of 50 (Value.int IntKind.u8 97);refine(jh.out _).mono ?_;rintro e w2 ⟨rfl,aj⟩;have ak:Below wA.heap.size wA w2:=Kt.chain (by assumption) aj;have aK:=bc ak)
         | (go_at_call_of 50 (Value.int IntKind.u8 98);refine(ji.out _).mono ?_;rintro e w2 ⟨rfl,aj⟩;have ak:Below wA.heap.size wA w2:=Kt.chain (by assumption) aj;have aK:=bc ak)
         | (go_at_call_of 50 (Value.int IntKind.u8 99);refine(jk.out _).mono ?_;rintro e w2 ⟨rfl,aj⟩;have ak:Below wA.heap.size wA w2:=Kt.chain (by assumption) aj;have aK:=bc ak)
         | (go_at_call_of 50 (Value.int IntKind.u8 103);refine(jv.out _).mono ?_;rintro e w2 ⟨rfl,aj⟩;have ak:Below wA.heap.size wA w2:=Kt.chain (by assumption) aj;have aK:=bc ak))
       all_goals go_meet
       all_goals refine⟨congrArg Value.bool ?_,by assumption⟩
       all_goals rw [←E4.out]
       all_goals first | (simp [dP, *];done) | (simp [dP, *,Bool.or_assoc];done)
     ·as_aux_lemma=>
       go_wp2_with (first
         | (go_at_call_of 50 (Value.int IntKind.u8 107);refine(jq.out _).mono ?_;rintro e w2 ⟨rfl,aj⟩;have ak:Below wA.heap.size wA w2:=Kt.chain (by assumption) aj;have aK:=bc ak)
         | (go_at_call_of 50 (Value.int IntKind.u8 110);refine(jr.out _).mono ?_;rintro e w2 ⟨rfl,aj⟩;have ak:Below wA.heap.size wA w2:=Kt.chain (by assumption) aj;have aK:=bc ak)
         | (go_at_call_of 50 (Value.int IntKind.u8 97);refine(jh.out _).mono ?_;rintro e w2 ⟨rfl,aj⟩;have ak:Below wA.heap.size wA w2:=Kt.chain (by assumption) aj;have aK:=bc ak)
         | (go_at_call_of 50 (Value.int IntKind.u8 98);refine(ji.out _).mono ?_;rintro e w2 ⟨rfl,aj⟩;have ak:Below wA.heap.size wA w2:=Kt.chain (by assumption) aj;have aK:=bc ak)
         | (go_at_call_of 50 (Value.int IntKind.u8 99);refine(jk.out _).mono ?_;rintro e w2 ⟨rfl,aj⟩;have ak:Below wA.heap.size wA w2:=Kt.chain (by assumption) aj;have aK:=bc ak)
         | (go_at_call_of 50 (Value.int IntKind.u8 103);refine(jv.out _).mono ?_;rintro e w2 ⟨rfl,aj⟩;have ak:Below wA.heap.size wA w2:=Kt.chain (by assumption) aj;have aK:=bc ak))
       all_goals go_meet
       all_goals refine⟨congrArg Value.bool ?_,by assumption⟩
       all_goals rw [←E4.out]
       all_goals first | (simp [dP, *];done) | (simp [dP, *,Bool.or_assoc];done)
    ·
     rcases(show(nK≠0)∨(nK=0∧on≠0)∨(nK=0∧on=0∧ob≠0)∨(nK=0∧on=0∧ob=0∧oc≠0)∨(nK=0∧on=0∧ob=0∧oc=0) by omega) with y0 | ⟨rfl,y1⟩ | ⟨rfl,rfl,y2⟩ | ⟨rfl,rfl,rfl,y3⟩ | ⟨rfl,rfl,rfl,rfl⟩
     ·as_aux_lemma=>
       have t0:(nK==0)=false:=by rw [beq_eq_false_iff_ne];exact y0
       have u0':(nK !=0)=true:=by rw [bne_iff_ne];exact y0
       go_wp2_with (first
         | (go_at_call_of 50 (Value.int IntKind.u8 107);refine(jq.out _).mono ?_;rintro e w2 ⟨rfl,aj⟩;have ak:Below wA.heap.size wA w2:=Kt.chain (by assumption) aj;have aK:=bc ak)
         | (go_at_call_of 50 (Value.int IntKind.u8 110);refine(jr.out _).mono ?_;rintro e w2 ⟨rfl,aj⟩;have ak:Below wA.heap.size wA w2:=Kt.chain (by assumption) aj;have aK:=bc ak)
         | (go_at_call_of 50 (Value.int IntKind.u8 97);refine(jh.out _).mono ?_;rintro e w2 ⟨rfl,aj⟩;have ak:Below wA.heap.size wA w2:=Kt.chain (by assumption) aj;have aK:=bc ak)
         | (go_at_call_of 50 (Value.int IntKind.u8 98);refine(ji.out _).mono ?_;rintro e w2 ⟨rfl,aj⟩;have ak:Below wA.heap.size wA w2:=Kt.chain (by assumption) aj;have aK:=bc ak)
         | (go_at_call_of 50 (Value.int IntKind.u8 99);refine(jk.out _).mono ?_;rintro e w2 ⟨rfl,aj⟩;have ak:Below wA.heap.size wA w2:=Kt.chain (by assumption) aj;have aK:=bc ak)
         | (go_at_call_of 50 (Value.int IntKind.u8 103);refine(jv.out _).mono ?_;rintro e w2 ⟨rfl,aj⟩;have ak:Below wA.heap.size wA w2:=Kt.chain (by assumption) aj;have aK:=bc ak))
       all_goals go_meet
       all_goals refine⟨congrArg Value.bool ?_,by assumption⟩
       all_goals rw [←E4.out]
       all_goals first | (simp [dP, *];done) | (simp [dP, *,Bool.or_assoc];done)
     ·as_aux_lemma=>
       have t1:(on==0)=false:=by rw [beq_eq_false_iff_ne];exact y1
       have u1':(on !=0)=true:=by rw [bne_iff_ne];exact y1
       go_wp2_with (first
         | (go_at_call_of 50 (Value.int IntKind.u8 107);refine(jq.out _).mono ?_;rintro e w2 ⟨rfl,aj⟩;have ak:Below wA.heap.size wA w2:=Kt.chain (by assumption) aj;have aK:=bc ak)
         | (go_at_call_of 50 (Value.int IntKind.u8 110);refine(jr.out _).mono ?_;rintro e w2 ⟨rfl,aj⟩;have ak:Below wA.heap.size wA w2:=Kt.chain (by assumption) aj;have aK:=bc ak)
         | (go_at_call_of 50 (Value.int IntKind.u8 97);refine(jh.out _).mono ?_;rintro e w2 ⟨rfl,aj⟩;have ak:Below wA.heap.size wA w2:=Kt.chain (by assumption) aj;have aK:=bc ak)
         | (go_at_call_of 50 (Value.int IntKind.u8 98);refine(ji.out _).mono ?_;rintro e w2 ⟨rfl,aj⟩;have ak:Below wA.heap.size wA w2:=Kt.chain (by assumption) aj;have aK:=bc ak)
         | (go_at_call_of 50 (Value.int IntKind.u8 99);refine(jk.out _).mono ?_;rintro e w2 ⟨rfl,aj⟩;have ak:Below wA.heap.size wA w2:=Kt.chain (by assumption) aj;have aK:=bc ak)
         | (go_at_call_of 50 (Value.int IntKind.u8 103);refine(jv.out _).mono ?_;rintro e w2 ⟨rfl,aj⟩;have ak:Below wA.heap.size wA w2:=Kt.chain (by assumption) aj;have aK:=bc ak))
       all_goals go_meet
       all_goals refine⟨congrArg Value.bool ?_,by assumption⟩
       all_goals rw [←E4.out]
       all_goals first | (simp [dP, *];done) | (simp [dP, *,Bool.or_assoc];done)
     ·as_aux_lemma=>
       have t2:(ob==0)=false:=by rw [beq_eq_false_iff_ne];exact y2
       have YL:(ob !=0)=true:=by rw [bne_iff_ne];exact y2
       go_wp2_with (first
         | (go_at_call_of 50 (Value.int IntKind.u8 107);refine(jq.out _).mono ?_;rintro e w2 ⟨rfl,aj⟩;have ak:Below wA.heap.size wA w2:=Kt.chain (by assumption) aj;have aK:=bc ak)
         | (go_at_call_of 50 (Value.int IntKind.u8 110);refine(jr.out _).mono ?_;rintro e w2 ⟨rfl,aj⟩;have ak:Below wA.heap.size wA w2:=Kt.chain (by assumption) aj;have aK:=bc ak)
         | (go_at_call_of 50 (Value.int IntKind.u8 97);refine(jh.out _).mono ?_;rintro e w2 ⟨rfl,aj⟩;have ak:Below wA.heap.size wA w2:=Kt.chain (by assumption) aj;have aK:=bc ak)
         | (go_at_call_of 50 (Value.int IntKind.u8 98);refine(ji.out _).mono ?_;rintro e w2 ⟨rfl,aj⟩;have ak:Below wA.heap.size wA w2:=Kt.chain (by assumption) aj;have aK:=bc ak)
         | (go_at_call_of 50 (Value.int IntKind.u8 99);refine(jk.out _).mono ?_;rintro e w2 ⟨rfl,aj⟩;have ak:Below wA.heap.size wA w2:=Kt.chain (by assumption) aj;have aK:=bc ak)
         | (go_at_call_of 50 (Value.int IntKind.u8 103);refine(jv.out _).mono ?_;rintro e w2 ⟨rfl,aj⟩;have ak:Below wA.heap.size wA w2:=Kt.chain (by assumption) aj;have aK:=bc ak))
       all_goals go_meet
       all_goals refine⟨congrArg Value.bool ?_,by assumption⟩
       all_goals rw [←E4.out]
       all_goals first | (simp [dP, *];done) | (simp [dP, *,Bool.or_assoc];done)
     ·as_aux_lemma=>
       have t3:(oc==0)=false:=by rw [beq_eq_false_iff_ne];exact y3
       have ZP:(oc !=0)=true:=by rw [bne_iff_ne];exact y3
       go_wp2_with (first
         | (go_at_call_of 50 (Value.int IntKind.u8 107);refine(jq.out _).mono ?_;rintro e w2 ⟨rfl,aj⟩;have ak:Below wA.heap.size wA w2:=Kt.chain (by assumption) aj;have aK:=bc ak)
         | (go_at_call_of 50 (Value.int IntKind.u8 110);refine(jr.out _).mono ?_;rintro e w2 ⟨rfl,aj⟩;have ak:Below wA.heap.size wA w2:=Kt.chain (by assumption) aj;have aK:=bc ak)
         | (go_at_call_of 50 (Value.int IntKind.u8 97);refine(jh.out _).mono ?_;rintro e w2 ⟨rfl,aj⟩;have ak:Below wA.heap.size wA w2:=Kt.chain (by assumption) aj;have aK:=bc ak)
         | (go_at_call_of 50 (Value.int IntKind.u8 98);refine(ji.out _).mono ?_;rintro e w2 ⟨rfl,aj⟩;have ak:Below wA.heap.size wA w2:=Kt.chain (by assumption) aj;have aK:=bc ak)
         | (go_at_call_of 50 (Value.int IntKind.u8 99);refine(jk.out _).mono ?_;rintro e w2 ⟨rfl,aj⟩;have ak:Below wA.heap.size wA w2:=Kt.chain (by assumption) aj;have aK:=bc ak)
         | (go_at_call_of 50 (Value.int IntKind.u8 103);refine(jv.out _).mono ?_;rintro e w2 ⟨rfl,aj⟩;have ak:Below wA.heap.size wA w2:=Kt.chain (by assumption) aj;have aK:=bc ak))
       all_goals go_meet
       all_goals refine⟨congrArg Value.bool ?_,by assumption⟩
       all_goals rw [←E4.out]
       all_goals first | (simp [dP, *];done) | (simp [dP, *,Bool.or_assoc];done)
     ·as_aux_lemma=>
       go_wp2_with (first
         | (go_at_call_of 50 (Value.int IntKind.u8 107);refine(jq.out _).mono ?_;rintro e w2 ⟨rfl,aj⟩;have ak:Below wA.heap.size wA w2:=Kt.chain (by assumption) aj;have aK:=bc ak)
         | (go_at_call_of 50 (Value.int IntKind.u8 110);refine(jr.out _).mono ?_;rintro e w2 ⟨rfl,aj⟩;have ak:Below wA.heap.size wA w2:=Kt.chain (by assumption) aj;have aK:=bc ak)
         | (go_at_call_of 50 (Value.int IntKind.u8 97);refine(jh.out _).mono ?_;rintro e w2 ⟨rfl,aj⟩;have ak:Below wA.heap.size wA w2:=Kt.chain (by assumption) aj;have aK:=bc ak)
         | (go_at_call_of 50 (Value.int IntKind.u8 98);refine(ji.out _).mono ?_;rintro e w2 ⟨rfl,aj⟩;have ak:Below wA.heap.size wA w2:=Kt.chain (by assumption) aj;have aK:=bc ak)
         | (go_at_call_of 50 (Value.int IntKind.u8 99);refine(jk.out _).mono ?_;rintro e w2 ⟨rfl,aj⟩;have ak:Below wA.heap.size wA w2:=Kt.chain (by assumption) aj;have aK:=bc ak)
         | (go_at_call_of 50 (Value.int IntKind.u8 103);refine(jv.out _).mono ?_;rintro e w2 ⟨rfl,aj⟩;have ak:Below wA.heap.size wA w2:=Kt.chain (by assumption) aj;have aK:=bc ak))
       all_goals go_meet
       all_goals refine⟨congrArg Value.bool ?_,by assumption⟩
       all_goals rw [←E4.out]
       all_goals first | (simp [dP, *];done) | (simp [dP, *,Bool.or_assoc];done)
    ·
     rcases(show(nK≠0)∨(nK=0∧on≠0)∨(nK=0∧on=0∧oc≠0)∨(nK=0∧on=0∧oc=0) by omega) with y0 | ⟨rfl,y1⟩ | ⟨rfl,rfl,y2⟩ | ⟨rfl,rfl,rfl⟩
     ·as_aux_lemma=>
       have t0:(nK==0)=false:=by rw [beq_eq_false_iff_ne];exact y0
       have u0':(nK !=0)=true:=by rw [bne_iff_ne];exact y0
       go_wp2_with (first
         | (go_at_call_of 50 (Value.int IntKind.u8 107);refine(jq.out _).mono ?_;rintro e w2 ⟨rfl,aj⟩;have ak:Below wA.heap.size wA w2:=Kt.chain (by assumption) aj;have aK:=bc ak)
         | (go_at_call_of 50 (Value.int IntKind.u8 110);refine(jr.out _).mono ?_;rintro e w2 ⟨rfl,aj⟩;have ak:Below wA.heap.size wA w2:=Kt.chain (by assumption) aj;have aK:=bc ak)
         | (go_at_call_of 50 (Value.int IntKind.u8 97);refine(jh.out _).mono ?_;rintro e w2 ⟨rfl,aj⟩;have ak:Below wA.heap.size wA w2:=Kt.chain (by assumption) aj;have aK:=bc ak)
         | (go_at_call_of 50 (Value.int IntKind.u8 98);refine(ji.out _).mono ?_;rintro e w2 ⟨rfl,aj⟩;have ak:Below wA.heap.size wA w2:=Kt.chain (by assumption) aj;have aK:=bc ak)
         | (go_at_call_of 50 (Value.int IntKind.u8 99);refine(jk.out _).mono ?_;rintro e w2 ⟨rfl,aj⟩;have ak:Below wA.heap.size wA w2:=Kt.chain (by assumption) aj;have aK:=bc ak)
         | (go_at_call_of 50 (Value.int IntKind.u8 103);refine(jv.out _).mono ?_;rintro e w2 ⟨rfl,aj⟩;have ak:Below wA.heap.size wA w2:=Kt.chain (by assumption) aj;have aK:=bc ak))
       all_goals go_meet
       all_goals refine⟨congrArg Value.bool ?_,by assumption⟩
       all_goals rw [←E4.out]
       all_goals first | (simp [dP, *];done) | (simp [dP, *,Bool.or_assoc];done)
     ·as_aux_lemma=>
       have t1:(on==0)=false:=by rw [beq_eq_false_iff_ne];exact y1
       have u1':(on !=0)=true:=by rw [bne_iff_ne];exact y1
       go_wp2_with (first
         | (go_at_call_of 50 (Value.int IntKind.u8 107);refine(jq.out _).mono ?_;rintro e w2 ⟨rfl,aj⟩;have ak:Below wA.heap.size wA w2:=Kt.chain (by assumption) aj;have aK:=bc ak)
         | (go_at_call_of 50 (Value.int IntKind.u8 110);refine(jr.out _).mono ?_;rintro e w2 ⟨rfl,aj⟩;have ak:Below wA.heap.size wA w2:=Kt.chain (by assumption) aj;have aK:=bc ak)
         | (go_at_call_of 50 (Value.int IntKind.u8 97);refine(jh.out _).mono ?_;rintro e w2 ⟨rfl,aj⟩;have ak:Below wA.heap.size wA w2:=Kt.chain (by assumption) aj;have aK:=bc ak)
         | (go_at_call_of 50 (Value.int IntKind.u8 98);refine(ji.out _).mono ?_;rintro e w2 ⟨rfl,aj⟩;have ak:Below wA.heap.size wA w2:=Kt.chain (by assumption) aj;have aK:=bc ak)
         | (go_at_call_of 50 (Value.int IntKind.u8 99);refine(jk.out _).mono ?_;rintro e w2 ⟨rfl,aj⟩;have ak:Below wA.heap.size wA w2:=Kt.chain (by assumption) aj;have aK:=bc ak)
         | (go_at_call_of 50 (Value.int IntKind.u8 103);refine(jv.out _).mono ?_;rintro e w2 ⟨rfl,aj⟩;have ak:Below wA.heap.size wA w2:=Kt.chain (by assumption) aj;have aK:=bc ak))
       all_goals go_meet
       all_goals refine⟨congrArg Value.bool ?_,by assumption⟩
       all_goals rw [←E4.out]
       all_goals first | (simp [dP, *];done) | (simp [dP, *,Bool.or_assoc];done)
     ·as_aux_lemma=>
       have t2:(oc==0)=false:=by rw [beq_eq_false_iff_ne];exact y2
       have YL:(oc !=0)=true:=by rw [bne_iff_ne];exact y2
       go_wp2_with (first
         | (go_at_call_of 50 (Value.int IntKind.u8 107);refine(jq.out _).mono ?_;rintro e w2 ⟨rfl,aj⟩;have ak:Below wA.heap.size wA w2:=Kt.chain (by assumption) aj;have aK:=bc ak)
         | (go_at_call_of 50 (Value.int IntKind.u8 110);refine(jr.out _).mono ?_;rintro e w2 ⟨rfl,aj⟩;have ak:Below wA.heap.size wA w2:=Kt.chain (by assumption) aj;have aK:=bc ak)
         | (go_at_call_of 50 (Value.int IntKind.u8 97);refine(jh.out _).mono ?_;rintro e w2 ⟨rfl,aj⟩;have ak:Below wA.heap.size wA w2:=Kt.chain (by assumption) aj;have aK:=bc ak)
         | (go_at_call_of 50 (Value.int IntKind.u8 98);refine(ji.out _).mono ?_;rintro e w2 ⟨rfl,aj⟩;have ak:Below wA.heap.size wA w2:=Kt.chain (by assumption) aj;have aK:=bc ak)
         | (go_at_call_of 50 (Value.int IntKind.u8 99);refine(jk.out _).mono ?_;rintro e w2 ⟨rfl,aj⟩;have ak:Below wA.heap.size wA w2:=Kt.chain (by assumption) aj;have aK:=bc ak)
         | (go_at_call_of 50 (Value.int IntKind.u8 103);refine(jv.out _).mono ?_;rintro e w2 ⟨rfl,aj⟩;have ak:Below wA.heap.size wA w2:=Kt.chain (by assumption) aj;have aK:=bc ak))
       all_goals go_meet
       all_goals refine⟨congrArg Value.bool ?_,by assumption⟩
       all_goals rw [←E4.out]
       all_goals first | (simp [dP, *];done) | (simp [dP, *,Bool.or_assoc];done)
     ·as_aux_lemma=>
       go_wp2_with (first
         | (go_at_call_of 50 (Value.int IntKind.u8 107);refine(jq.out _).mono ?_;rintro e w2 ⟨rfl,aj⟩;have ak:Below wA.heap.size wA w2:=Kt.chain (by assumption) aj;have aK:=bc ak)
         | (go_at_call_of 50 (Value.int IntKind.u8 110);refine(jr.out _).mono ?_;rintro e w2 ⟨rfl,aj⟩;have ak:Below wA.heap.size wA w2:=Kt.chain (by assumption) aj;have aK:=bc ak)
         | (go_at_call_of 50 (Value.int IntKind.u8 97);refine(jh.out _).mono ?_;rintro e w2 ⟨rfl,aj⟩;have ak:Below wA.heap.size wA w2:=Kt.chain (by assumption) aj;have aK:=bc ak)
         | (go_at_call_of 50 (Value.int IntKind.u8 98);refine(ji.out _).mono ?_;rintro e w2 ⟨rfl,aj⟩;have ak:Below wA.heap.size wA w2:=Kt.chain (by assumption) aj;have aK:=bc ak)
         | (go_at_call_of 50 (Value.int IntKind.u8 99);refine(jk.out _).mono ?_;rintro e w2 ⟨rfl,aj⟩;have ak:Below wA.heap.size wA w2:=Kt.chain (by assumption) aj;have aK:=bc ak)
         | (go_at_call_of 50 (Value.int IntKind.u8 103);refine(jv.out _).mono ?_;rintro e w2 ⟨rfl,aj⟩;have ak:Below wA.heap.size wA w2:=Kt.chain (by assumption) aj;have aK:=bc ak))
       all_goals go_meet
       all_goals refine⟨congrArg Value.bool ?_,by assumption⟩
       all_goals rw [←E4.out]
       all_goals first | (simp [dP, *];done) | (simp [dP, *,Bool.or_assoc];done)
    ·
     rcases(show(nK≠0)∨(nK=0∧on≠0)∨(nK=0∧on=0) by omega) with y0 | ⟨rfl,y1⟩ | ⟨rfl,rfl⟩
     ·as_aux_lemma=>
       have t0:(nK==0)=false:=by rw [beq_eq_false_iff_ne];exact y0
       have u0':(nK !=0)=true:=by rw [bne_iff_ne];exact y0
       go_wp2_with (first
         | (go_at_call_of 50 (Value.int IntKind.u8 107);refine(jq.out _).mono ?_;rintro e w2 ⟨rfl,aj⟩;have ak:Below wA.heap.size wA w2:=Kt.chain (by assumption) aj;have aK:=bc ak)
         | (go_at_call_of 50 (Value.int IntKind.u8 110);refine(jr.out _).mono ?_;rintro e w2 ⟨rfl,aj⟩;have ak:Below wA.heap.size wA w2:=Kt.chain (by assumption) aj;have aK:=bc ak)
         | (go_at_call_of 50 (Value.int IntKind.u8 97);refine(jh.out _).mono ?_;rintro e w2 ⟨rfl,aj⟩;have ak:Below wA.heap.size wA w2:=Kt.chain (by assumption) aj;have aK:=bc ak)
         | (go_at_call_of 50 (Value.int IntKind.u8 98);refine(ji.out _).mono ?_;rintro e w2 ⟨rfl,aj⟩;have ak:Below wA.heap.size wA w2:=Kt.chain (by assumption) aj;have aK:=bc ak)
         | (go_at_call_of 50 (Value.int IntKind.u8 99);refine(jk.out _).mono ?_;rintro e w2 ⟨rfl,aj⟩;have ak:Below wA.heap.size wA w2:=Kt.chain (by assumption) aj;have aK:=bc ak)
         | (go_at_call_of 50 (Value.int IntKind.u8 103);refine(jv.out _).mono ?_;rintro e w2 ⟨rfl,aj⟩;have ak:Below wA.heap.size wA w2:=Kt.chain (by assumption) aj;have aK:=bc ak))
       all_goals go_meet
       all_goals refine⟨congrArg Value.bool ?_,by assumption⟩
       all_goals rw [←E4.out]
       all_goals first | (simp [dP, *];done) | (simp [dP, *,Bool.or_assoc];done)
     ·as_aux_lemma=>
       have t1:(on==0)=false:=by rw [beq_eq_false_iff_ne];exact y1
       have u1':(on !=0)=true:=by rw [bne_iff_ne];exact y1
       go_wp2_with (first
         | (go_at_call_of 50 (Value.int IntKind.u8 107);refine(jq.out _).mono ?_;rintro e w2 ⟨rfl,aj⟩;have ak:Below wA.heap.size wA w2:=Kt.chain (by assumption) aj;have aK:=bc ak)
         | (go_at_call_of 50 (Value.int IntKind.u8 110);refine(jr.out _).mono ?_;rintro e w2 ⟨rfl,aj⟩;have ak:Below wA.heap.size wA w2:=Kt.chain (by assumption) aj;have aK:=bc ak)
         | (go_at_call_of 50 (Value.int IntKind.u8 97);refine(jh.out _).mono ?_;rintro e w2 ⟨rfl,aj⟩;have ak:Below wA.heap.size wA w2:=Kt.chain (by assumption) aj;have aK:=bc ak)
         | (go_at_call_of 50 (Value.int IntKind.u8 98);refine(ji.out _).mono ?_;rintro e w2 ⟨rfl,aj⟩;have ak:Below wA.heap.size wA w2:=Kt.chain (by assumption) aj;have aK:=bc ak)
         | (go_at_call_of 50 (Value.int IntKind.u8 99);refine(jk.out _).mono ?_;rintro e w2 ⟨rfl,aj⟩;have ak:Below wA.heap.size wA w2:=Kt.chain (by assumption) aj;have aK:=bc ak)
         | (go_at_call_of 50 (Value.int IntKind.u8 103);refine(jv.out _).mono ?_;rintro e w2 ⟨rfl,aj⟩;have ak:Below wA.heap.size wA w2:=Kt.chain (by assumption) aj;have aK:=bc ak))
       all_goals go_meet
       all_goals refine⟨congrArg Value.bool ?_,by assumption⟩
       all_goals rw [←E4.out]
       all_goals first | (simp [dP, *];done) | (simp [dP, *,Bool.or_assoc];done)
     ·as_aux_lemma=>
       go_wp2_with (first
         | (go_at_call_of 50 (Value.int IntKind.u8 107);refine(jq.out _).mono ?_;rintro e w2 ⟨rfl,aj⟩;have ak:Below wA.heap.size wA w2:=Kt.chain (by assumption) aj;have aK:=bc ak)
         | (go_at_call_of 50 (Value.int IntKind.u8 110);refine(jr.out _).mono ?_;rintro e w2 ⟨rfl,aj⟩;have ak:Below wA.heap.size wA w2:=Kt.chain (by assumption) aj;have aK:=bc ak)
         | (go_at_call_of 50 (Value.int IntKind.u8 97);refine(jh.out _).mono ?_;rintro e w2 ⟨rfl,aj⟩;have ak:Below wA.heap.size wA w2:=Kt.chain (by assumption) aj;have aK:=bc ak)
         | (go_at_call_of 50 (Value.int IntKind.u8 98);refine(ji.out _).mono ?_;rintro e w2 ⟨rfl,aj⟩;have ak:Below wA.heap.size wA w2:=Kt.chain (by assumption) aj;have aK:=bc ak)
         | (go_at_call_of 50 (Value.int IntKind.u8 99);refine(jk.out _).mono ?_;rintro e w2 ⟨rfl,aj⟩;have ak:Below wA.heap.size wA w2:=Kt.chain (by assumption) aj;have aK:=bc ak)
         | (go_at_call_of 50 (Value.int IntKind.u8 103);refine(jv.out _).mono ?_;rintro e w2 ⟨rfl,aj⟩;have ak:Below wA.heap.size wA w2:=Kt.chain (by assumption) aj;have aK:=bc ak))
       all_goals go_meet
       all_goals refine⟨congrArg Value.bool ?_,by assumption⟩
       all_goals rw [←E4.out]
       all_goals first | (simp [dP, *];done) | (simp [dP, *,Bool.or_assoc];done)
    ·
     rcases(show(on<0)∨(¬on<0∧aC<on)∨(¬on<0∧¬aC<on∧ob≠0)∨(¬on<0∧¬aC<on∧ob=0∧oc≠0)∨(¬on<0∧¬aC<on∧ob=0∧oc=0) by omega) with y0 | ⟨y0,y1⟩ | ⟨y0,y1,y2⟩ | ⟨y0,y1,rfl,y3⟩ | ⟨y0,y1,rfl,rfl⟩
     ·as_aux_lemma=>
       go_wp2_with (first
         | (go_at_call_of 50 (Value.int IntKind.u8 107);refine(jq.out _).mono ?_;rintro e w2 ⟨rfl,aj⟩;have ak:Below wA.heap.size wA w2:=Kt.chain (by assumption) aj;have aK:=bc ak)
         | (go_at_call_of 50 (Value.int IntKind.u8 110);refine(jr.out _).mono ?_;rintro e w2 ⟨rfl,aj⟩;have ak:Below wA.heap.size wA w2:=Kt.chain (by assumption) aj;have aK:=bc ak)
         | (go_at_call_of 50 (Value.int IntKind.u8 97);refine(jh.out _).mono ?_;rintro e w2 ⟨rfl,aj⟩;have ak:Below wA.heap.size wA w2:=Kt.chain (by assumption) aj;have aK:=bc ak)
         | (go_at_call_of 50 (Value.int IntKind.u8 98);refine(ji.out _).mono ?_;rintro e w2 ⟨rfl,aj⟩;have ak:Below wA.heap.size wA w2:=Kt.chain (by assumption) aj;have aK:=bc ak)
         | (go_at_call_of 50 (Value.int IntKind.u8 99);refine(jk.out _).mono ?_;rintro e w2 ⟨rfl,aj⟩;have ak:Below wA.heap.size wA w2:=Kt.chain (by assumption) aj;have aK:=bc ak)
         | (go_at_call_of 50 (Value.int IntKind.u8 103);refine(jv.out _).mono ?_;rintro e w2 ⟨rfl,aj⟩;have ak:Below wA.heap.size wA w2:=Kt.chain (by assumption) aj;have aK:=bc ak))
       all_goals go_meet
       all_goals refine⟨congrArg Value.bool ?_,by assumption⟩
       all_goals rw [←E4.out]
       all_goals first | (simp [dP, *];done) | (simp [dP, *,Bool.or_assoc];done)
     ·as_aux_lemma=>
       go_wp2_with (first
         | (go_at_call_of 50 (Value.int IntKind.u8 107);refine(jq.out _).mono ?_;rintro e w2 ⟨rfl,aj⟩;have ak:Below wA.heap.size wA w2:=Kt.chain (by assumption) aj;have aK:=bc ak)
         | (go_at_call_of 50 (Value.int IntKind.u8 110);refine(jr.out _).mono ?_;rintro e w2 ⟨rfl,aj⟩;have ak:Below wA.heap.size wA w2:=Kt.chain (by assumption) aj;have aK:=bc ak)
         | (go_at_call_of 50 (Value.int IntKind.u8 97);refine(jh.out _).mono ?_;rintro e w2 ⟨rfl,aj⟩;have ak:Below wA.heap.size wA w2:=Kt.chain (by assumption) aj;have aK:=bc ak)
         | (go_at_call_of 50 (Value.int IntKind.u8 98);refine(ji.out _).mono ?_;rintro e w2 ⟨rfl,aj⟩;have ak:Below wA.heap.size wA w2:=Kt.chain (by assumption) aj;have aK:=bc ak)
         | (go_at_call_of 50 (Value.int IntKind.u8 99);refine(jk.out _).mono ?_;rintro e w2 ⟨rfl,aj⟩;have ak:Below wA.heap.size wA w2:=Kt.chain (by assumption) aj;have aK:=bc ak)
         | (go_at_call_of 50 (Value.int IntKind.u8 103);refine(jv.out _).mono ?_;rintro e w2 ⟨rfl,aj⟩;have ak:Below wA.heap.size wA w2:=Kt.chain (by assumption) aj;have aK:=bc ak))
       all_goals go_meet
       all_goals refine⟨congrArg Value.bool ?_,by assumption⟩
       all_goals rw [←E4.out]
       all_goals first | (simp [dP, *];done) | (simp [dP, *,Bool.or_assoc];done)
     ·as_aux_lemma=>
       have t2:(ob==0)=false:=by rw [beq_eq_false_iff_ne];exact y2
       have YL:(ob !=0)=true:=by rw [bne_iff_ne];exact y2
       go_wp2_with (first
         | (go_at_call_of 50 (Value.int IntKind.u8 107);refine(jq.out _).mono ?_;rintro e w2 ⟨rfl,aj⟩;have ak:Below wA.heap.size wA w2:=Kt.chain (by assumption) aj;have aK:=bc ak)
         | (go_at_call_of 50 (Value.int IntKind.u8 110);refine(jr.out _).mono ?_;rintro e w2 ⟨rfl,aj⟩;have ak:Below wA.heap.size wA w2:=Kt.chain (by assumption) aj;have aK:=bc ak)
         | (go_at_call_of 50 (Value.int IntKind.u8 97);refine(jh.out _).mono ?_;rintro e w2 ⟨rfl,aj⟩;have ak:Below wA.heap.size wA w2:=Kt.chain (by assumption) aj;have aK:=bc ak)
         | (go_at_call_of 50 (Value.int IntKind.u8 98);refine(ji.out _).mono ?_;rintro e w2 ⟨rfl,aj⟩;have ak:Below wA.heap.size wA w2:=Kt.chain (by assumption) aj;have aK:=bc ak)
         | (go_at_call_of 50 (Value.int IntKind.u8 99);refine(jk.out _).mono ?_;rintro e w2 ⟨rfl,aj⟩;have ak:Below wA.heap.size wA w2:=Kt.chain (by assumption) aj;have aK:=bc ak)
         | (go_at_call_of 50 (Value.int IntKind.u8 103);refine(jv.out _).mono ?_;rintro e w2 ⟨rfl,aj⟩;have ak:Below wA.heap.size wA w2:=Kt.chain (by assumption) aj;have aK:=bc ak))
       all_goals go_meet
       all_goals refine⟨congrArg Value.bool ?_,by assumption⟩
       all_goals rw [←E4.out]
       all_goals first | (simp [dP, *];done) | (simp [dP, *,Bool.or_assoc];done)
     ·as_aux_lemma=>
       have t3:(oc==0)=false:=by rw [beq_eq_false_iff_ne];exact y3
       have ZP:(oc !=0)=true:=by rw [bne_iff_ne];exact y3
       go_wp2_with (first
         | (go_at_call_of 50 (Value.int IntKind.u8 107);refine(jq.out _).mono ?_;rintro e w2 ⟨rfl,aj⟩;have ak:Below wA.heap.size wA w2:=Kt.chain (by assumption) aj;have aK:=bc ak)
         | (go_at_call_of 50 (Value.int IntKind.u8 110);refine(jr.out _).mono ?_;rintro e w2 ⟨rfl,aj⟩;have ak:Below wA.heap.size wA w2:=Kt.chain (by assumption) aj;have aK:=bc ak)
         | (go_at_call_of 50 (Value.int IntKind.u8 97);refine(jh.out _).mono ?_;rintro e w2 ⟨rfl,aj⟩;have ak:Below wA.heap.size wA w2:=Kt.chain (by assumption) aj;have aK:=bc ak)
         | (go_at_call_of 50 (Value.int IntKind.u8 98);refine(ji.out _).mono ?_;rintro e w2 ⟨rfl,aj⟩;have ak:Below wA.heap.size wA w2:=Kt.chain (by assumption) aj;have aK:=bc ak)
         | (go_at_call_of 50 (Value.int IntKind.u8 99);refine(jk.out _).mono ?_;rintro e w2 ⟨rfl,aj⟩;have ak:Below wA.heap.size wA w2:=Kt.chain (by assumption) aj;have aK:=bc ak)
         | (go_at_call_of 50 (Value.int IntKind.u8 103);refine(jv.out _).mono ?_;rintro e w2 ⟨rfl,aj⟩;have ak:Below wA.heap.size wA w2:=Kt.chain (by assumption) aj;have aK:=bc ak))
       all_goals go_meet
       all_goals refine⟨congrArg Value.bool ?_,by assumption⟩
       all_goals rw [←E4.out]
       all_goals first | (simp [dP, *];done) | (simp [dP, *,Bool.or_assoc];done)
     ·as_aux_lemma=>
       go_wp2_with (first
         | (go_at_call_of 50 (Value.int IntKind.u8 107);refine(jq.out _).mono ?_;rintro e w2 ⟨rfl,aj⟩;have ak:Below wA.heap.size wA w2:=Kt.chain (by assumption) aj;have aK:=bc ak)
         | (go_at_call_of 50 (Value.int IntKind.u8 110);refine(jr.out _).mono ?_;rintro e w2 ⟨rfl,aj⟩;have ak:Below wA.heap.size wA w2:=Kt.chain (by assumption) aj;have aK:=bc ak)
         | (go_at_call_of 50 (Value.int IntKind.u8 97);refine(jh.out _).mono ?_;rintro e w2 ⟨rfl,aj⟩;have ak:Below wA.heap.size wA w2:=Kt.chain (by assumption) aj;have aK:=bc ak)
         | (go_at_call_of 50 (Value.int IntKind.u8 98);refine(ji.out _).mono ?_;rintro e w2 ⟨rfl,aj⟩;have ak:Below wA.heap.size wA w2:=Kt.chain (by assumption) aj;have aK:=bc ak)
         | (go_at_call_of 50 (Value.int IntKind.u8 99);refine(jk.out _).mono ?_;rintro e w2 ⟨rfl,aj⟩;have ak:Below wA.heap.size wA w2:=Kt.chain (by assumption) aj;have aK:=bc ak)
         | (go_at_call_of 50 (Value.int IntKind.u8 103);refine(jv.out _).mono ?_;rintro e w2 ⟨rfl,aj⟩;have ak:Below wA.heap.size wA w2:=Kt.chain (by assumption) aj;have aK:=bc ak))
       all_goals go_meet
       all_goals refine⟨congrArg Value.bool ?_,by assumption⟩
       all_goals rw [←E4.out]
       all_goals first | (simp [dP, *];done) | (simp [dP, *,Bool.or_assoc];done)
    ·
     rcases(show(on<0)∨(¬on<0∧aC<on)∨(¬on<0∧¬aC<on∧oc≠0)∨(¬on<0∧¬aC<on∧oc=0) by omega) with y0 | ⟨y0,y1⟩ | ⟨y0,y1,y2⟩ | ⟨y0,y1,rfl⟩
     ·as_aux_lemma=>
       go_wp2_with (first
         | (go_at_call_of 50 (Value.int IntKind.u8 107);refine(jq.out _).mono ?_;rintro e w2 ⟨rfl,aj⟩;have ak:Below wA.heap.size wA w2:=Kt.chain (by assumption) aj;have aK:=bc ak)
         | (go_at_call_of 50 (Value.int IntKind.u8 110);refine(jr.out _).mono ?_;rintro e w2 ⟨rfl,aj⟩;have ak:Below wA.heap.size wA w2:=Kt.chain (by assumption) aj;have aK:=bc ak)
         | (go_at_call_of 50 (Value.int IntKind.u8 97);refine(jh.out _).mono ?_;rintro e w2 ⟨rfl,aj⟩;have ak:Below wA.heap.size wA w2:=Kt.chain (by assumption) aj;have aK:=bc ak)
         | (go_at_call_of 50 (Value.int IntKind.u8 98);refine(ji.out _).mono ?_;rintro e w2 ⟨rfl,aj⟩;have ak:Below wA.heap.size wA w2:=Kt.chain (by assumption) aj;have aK:=bc ak)
         | (go_at_call_of 50 (Value.int IntKind.u8 99);refine(jk.out _).mono ?_;rintro e w2 ⟨rfl,aj⟩;have ak:Below wA.heap.size wA w2:=Kt.chain (by assumption) aj;have aK:=bc ak)
         | (go_at_call_of 50 (Value.int IntKind.u8 103);refine(jv.out _).mono ?_;rintro e w2 ⟨rfl,aj⟩;have ak:Below wA.heap.size wA w2:=Kt.chain (by assumption) aj;have aK:=bc ak))
       all_goals go_meet
       all_goals refine⟨congrArg Value.bool ?_,by assumption⟩
       all_goals rw [←E4.out]
       all_goals first | (simp [dP, *];done) | (simp [dP, *,Bool.or_assoc];done)
     ·as_aux_lemma=>
       go_wp2_with (first
         | (go_at_call_of 50 (Value.int IntKind.u8 107);refine(jq.out _).mono ?_;rintro e w2 ⟨rfl,aj⟩;have ak:Below wA.heap.size wA w2:=Kt.chain (by assumption) aj;have aK:=bc ak)
         | (go_at_call_of 50 (Value.int IntKind.u8 110);refine(jr.out _).mono ?_;rintro e w2 ⟨rfl,aj⟩;have ak:Below wA.heap.size wA w2:=Kt.chain (by assumption) aj;have aK:=bc ak)
         | (go_at_call_of 50 (Value.int IntKind.u8 97);refine(jh.out _).mono ?_;rintro e w2 ⟨rfl,aj⟩;have ak:Below wA.heap.size wA w2:=Kt.chain (by assumption) aj;have aK:=bc ak)
         | (go_at_call_of 50 (Value.int IntKind.u8 98);refine(ji.out _).mono ?_;rintro e w2 ⟨rfl,aj⟩;have ak:Below wA.heap.size wA w2:=Kt.chain (by assumption) aj;have aK:=bc ak)
         | (go_at_call_of 50 (Value.int IntKind.u8 99);refine(jk.out _).mono ?_;rintro e w2 ⟨rfl,aj⟩;have ak:Below wA.heap.size wA w2:=Kt.chain (by assumption) aj;have aK:=bc ak)
         | (go_at_call_of 50 (Value.int IntKind.u8 103);refine(jv.out _).mono ?_;rintro e w2 ⟨rfl,aj⟩;have ak:Below wA.heap.size wA w2:=Kt.chain (by assumption) aj;have aK:=bc ak))
       all_goals go_meet
       all_goals refine⟨congrArg Value.bool ?_,by assumption⟩
       all_goals rw [←E4.out]
       all_goals first | (simp [dP, *];done) | (simp [dP, *,Bool.or_assoc];done)
     ·as_aux_lemma=>
       have t2:(oc==0)=false:=by rw [beq_eq_false_iff_ne];exact y2
       have YL:(oc !=0)=true:=by rw [bne_iff_ne];exact y2
       go_wp2_with (first
         | (go_at_call_of 50 (Value.int IntKind.u8 107);refine(jq.out _).mono ?_;rintro e w2 ⟨rfl,aj⟩;have ak:Below wA.heap.size wA w2:=Kt.chain (by assumption) aj;have aK:=bc ak)
         | (go_at_call_of 50 (Value.int IntKind.u8 110);refine(jr.out _).mono ?_;rintro e w2 ⟨rfl,aj⟩;have ak:Below wA.heap.size wA w2:=Kt.chain (by assumption) aj;have aK:=bc ak)
         | (go_at_call_of 50 (Value.int IntKind.u8 97);refine(jh.out _).mono ?_;rintro e w2 ⟨rfl,aj⟩;have ak:Below wA.heap.size wA w2:=Kt.chain (by assumption) aj;have aK:=bc ak)
         | (go_at_call_of 50 (Value.int IntKind.u8 98);refine(ji.out _).mono ?_;rintro e w2 ⟨rfl,aj⟩;have ak:Below wA.heap.size wA w2:=Kt.chain (by assumption) aj;have aK:=bc ak)
         | (go_at_call_of 50 (Value.int IntKind.u8 99);refine(jk.out _).mono ?_;rintro e w2 ⟨rfl,aj⟩;have ak:Below wA.heap.size wA w2:=Kt.chain (by assumption) aj;have aK:=bc ak)
         | (go_at_call_of 50 (Value.int IntKind.u8 103);refine(jv.out _).mono ?_;rintro e w2 ⟨rfl,aj⟩;have ak:Below wA.heap.size wA w2:=Kt.chain (by assumption) aj;have aK:=bc ak))
       all_goals go_meet
       all_goals refine⟨congrArg Value.bool ?_,by assumption⟩
       all_goals rw [←E4.out]
       all_goals first | (simp [dP, *];done) | (simp [dP, *,Bool.or_assoc];done)
     ·as_aux_lemma=>
       go_wp2_with (first
         | (go_at_call_of 50 (Value.int IntKind.u8 107);refine(jq.out _).mono ?_;rintro e w2 ⟨rfl,aj⟩;have ak:Below wA.heap.size wA w2:=Kt.chain (by assumption) aj;have aK:=bc ak)
         | (go_at_call_of 50 (Value.int IntKind.u8 110);refine(jr.out _).mono ?_;rintro e w2 ⟨rfl,aj⟩;have ak:Below wA.heap.size wA w2:=Kt.chain (by assumption) aj;have aK:=bc ak)
         | (go_at_call_of 50 (Value.int IntKind.u8 97);refine(jh.out _).mono ?_;rintro e w2 ⟨rfl,aj⟩;have ak:Below wA.heap.size wA w2:=Kt.chain (by assumption) aj;have aK:=bc ak)
         | (go_at_call_of 50 (Value.int IntKind.u8 98);refine(ji.out _).mono ?_;rintro e w2 ⟨rfl,aj⟩;have ak:Below wA.heap.size wA w2:=Kt.chain (by assumption) aj;have aK:=bc ak)
         | (go_at_call_of 50 (Value.int IntKind.u8 99);refine(jk.out _).mono ?_;rintro e w2 ⟨rfl,aj⟩;have ak:Below wA.heap.size wA w2:=Kt.chain (by assumption) aj;have aK:=bc ak)
         | (go_at_call_of 50 (Value.int IntKind.u8 103);refine(jv.out _).mono ?_;rintro e w2 ⟨rfl,aj⟩;have ak:Below wA.heap.size wA w2:=Kt.chain (by assumption) aj;have aK:=bc ak))
       all_goals go_meet
       all_goals refine⟨congrArg Value.bool ?_,by assumption⟩
       all_goals rw [←E4.out]
       all_goals first | (simp [dP, *];done) | (simp [dP, *,Bool.or_assoc];done)
    ·
     rcases(show(on<0)∨(¬on<0∧aC<on)∨(¬on<0∧¬aC<on∧oa≠0)∨(¬on<0∧¬aC<on∧oa=0∧ob≠0)∨(¬on<0∧¬aC<on∧oa=0∧ob=0∧oc≠0)∨(¬on<0∧¬aC<on∧oa=0∧ob=0∧oc=0) by omega) with y0 | ⟨y0,y1⟩ | ⟨y0,y1,y2⟩ | ⟨y0,y1,rfl,y3⟩ | ⟨y0,y1,rfl,rfl,y4⟩ | ⟨y0,y1,rfl,rfl,rfl⟩
     ·as_aux_lemma=>
       go_wp2_with (first
         | (go_at_call_of 50 (Value.int IntKind.u8 107);refine(jq.out _).mono ?_;rintro e w2 ⟨rfl,aj⟩;have ak:Below wA.heap.size wA w2:=Kt.chain (by assumption) aj;have aK:=bc ak)
         | (go_at_call_of 50 (Value.int IntKind.u8 110);refine(jr.out _).mono ?_;rintro e w2 ⟨rfl,aj⟩;have ak:Below wA.heap.size wA w2:=Kt.chain (by assumption) aj;have aK:=bc ak)
         | (go_at_call_of 50 (Value.int IntKind.u8 97);refine(jh.out _).mono ?_;rintro e w2 ⟨rfl,aj⟩;have ak:Below wA.heap.size wA w2:=Kt.chain (by assumption) aj;have aK:=bc ak)
         | (go_at_call_of 50 (Value.int IntKind.u8 98);refine(ji.out _).mono ?_;rintro e w2 ⟨rfl,aj⟩;have ak:Below wA.heap.size wA w2:=Kt.chain (by assumption) aj;have aK:=bc ak)
         | (go_at_call_of 50 (Value.int IntKind.u8 99);refine(jk.out _).mono ?_;rintro e w2 ⟨rfl,aj⟩;have ak:Below wA.heap.size wA w2:=Kt.chain (by assumption) aj;have aK:=bc ak)
         | (go_at_call_of 50 (Value.int IntKind.u8 103);refine(jv.out _).mono ?_;rintro e w2 ⟨rfl,aj⟩;have ak:Below wA.heap.size wA w2:=Kt.chain (by assumption) aj;have aK:=bc ak))
       all_goals go_meet
       all_goals refine⟨congrArg Value.bool ?_,by assumption⟩
       all_goals rw [←E4.out]
       all_goals first | (simp [dP, *];done) | (simp [dP, *,Bool.or_assoc];done)
     ·as_aux_lemma=>
       go_wp2_with (first
         | (go_at_call_of 50 (Value.int IntKind.u8 107);refine(jq.out _).mono ?_;rintro e w2 ⟨rfl,aj⟩;have ak:Below wA.heap.size wA w2:=Kt.chain (by assumption) aj;have aK:=bc ak)
         | (go_at_call_of 50 (Value.int IntKind.u8 110);refine(jr.out _).mono ?_;rintro e w2 ⟨rfl,aj⟩;have ak:Below wA.heap.size wA w2:=Kt.chain (by assumption) aj;have aK:=bc ak)
         | (go_at_call_of 50 (Value.int IntKind.u8 97);refine(jh.out _).mono ?_;rintro e w2 ⟨rfl,aj⟩;have ak:Below wA.heap.size wA w2:=Kt.chain (by assumption) aj;have aK:=bc ak)
         | (go_at_call_of 50 (Value.int IntKind.u8 98);refine(ji.out _).mono ?_;rintro e w2 ⟨rfl,aj⟩;have ak:Below wA.heap.size wA w2:=Kt.chain (by assumption) aj;have aK:=bc ak)
         | (go_at_call_of 50 (Value.int IntKind.u8 99);refine(jk.out _).mono ?_;rintro e w2 ⟨rfl,aj⟩;have ak:Below wA.heap.size wA w2:=Kt.chain (by assumption) aj;have aK:=bc ak)
         | (go_at_call_of 50 (Value.int IntKind.u8 103);refine(jv.out _).mono ?_;rintro e w2 ⟨rfl,aj⟩;have ak:Below wA.heap.size wA w2:=Kt.chain (by assumption) aj;have aK:=bc ak))
       all_goals go_meet
       all_goals refine⟨congrArg Value.bool ?_,by assumption⟩
       all_goals rw [←E4.out]
       all_goals first | (simp [dP, *];done) | (simp [dP, *,Bool.or_assoc];done)
     ·as_aux_lemma=>
       have t2:(oa==0)=false:=by rw [beq_eq_false_iff_ne];exact y2
       have YL:(oa !=0)=true:=by rw [bne_iff_ne];exact y2
       go_wp2_with (first
         | (go_at_call_of 50 (Value.int IntKind.u8 107);refine(jq.out _).mono ?_;rintro e w2 ⟨rfl,aj⟩;have ak:Below wA.heap.size wA w2:=Kt.chain (by assumption) aj;have aK:=bc ak)
         | (go_at_call_of 50 (Value.int IntKind.u8 110);refine(jr.out _).mono ?_;rintro e w2 ⟨rfl,aj⟩;have ak:Below wA.heap.size wA w2:=Kt.chain (by assumption) aj;have aK:=bc ak)
         | (go_at_call_of 50 (Value.int IntKind.u8 97);refine(jh.out _).mono ?_;rintro e w2 ⟨rfl,aj⟩;have ak:Below wA.heap.size wA w2:=Kt.chain (by assumption) aj;have aK:=bc ak)
         | (go_at_call_of 50 (Value.int IntKind.u8 98);refine(ji.out _).mono ?_;rintro e w2 ⟨rfl,aj⟩;have ak:Below wA.heap.size wA w2:=Kt.chain (by assumption) aj;have aK:=bc ak)
         | (go_at_call_of 50 (Value.int IntKind.u8 99);refine(jk.out _).mono ?_;rintro e w2 ⟨rfl,aj⟩;have ak:Below wA.heap.size wA w2:=Kt.chain (by assumption) aj;have aK:=bc ak)
         | (go_at_call_of 50 (Value.int IntKind.u8 103);refine(jv.out _).mono ?_;rintro e w2 ⟨rfl,aj⟩;have ak:Below wA.heap.size wA w2:=Kt.chain (by assumption) aj;have aK:=bc ak))
       all_goals go_meet
       all_goals refine⟨congrArg Value.bool ?_,by assumption⟩
       all_goals rw [←E4.out]
       all_goals first | (simp [dP, *];done) | (simp [dP, *,Bool.or_assoc];done)
     ·as_aux_lemma=>
       have t3:(ob==0)=false:=by rw [beq_eq_false_iff_ne];exact y3
       have ZP:(ob !=0)=true:=by rw [bne_iff_ne];exact y3
       go_wp2_with (first
         | (go_at_call_of 50 (Value.int IntKind.u8 107);refine(jq.out _).mono ?_;rintro e w2 ⟨rfl,aj⟩;have ak:Below wA.heap.size wA w2:=Kt.chain (by assumption) aj;have aK:=bc ak)
         | (go_at_call_of 50 (Value.int IntKind.u8 110);refine(jr.out _).mono ?_;rintro e w2 ⟨rfl,aj⟩;have ak:Below wA.heap.size wA w2:=Kt.chain (by assumption) aj;have aK:=bc ak)
         | (go_at_call_of 50 (Value.int IntKind.u8 97);refine(jh.out _).mono ?_;rintro e w2 ⟨rfl,aj⟩;have ak:Below wA.heap.size wA w2:=Kt.chain (by assumption) aj;have aK:=bc ak)
         | (go_at_call_of 50 (Value.int IntKind.u8 98);refine(ji.out _).mono ?_;rintro e w2 ⟨rfl,aj⟩;have ak:Below wA.heap.size wA w2:=Kt.chain (by assumption) aj;have aK:=bc ak)
         | (go_at_call_of 50 (Value.int IntKind.u8 99);refine(jk.out _).mono ?_;rintro e w2 ⟨rfl,aj⟩;have ak:Below wA.heap.size wA w2:=Kt.chain (by assumption) aj;have aK:=bc ak)
         | (go_at_call_of 50 (Value.int IntKind.u8 103);refine(jv.out _).mono ?_;rintro e w2 ⟨rfl,aj⟩;have ak:Below wA.heap.size wA w2:=Kt.chain (by assumption) aj;have aK:=bc ak))
       all_goals go_meet
       all_goals refine⟨congrArg Value.bool ?_,by assumption⟩
       all_goals rw [←E4.out]
       all_goals first | (simp [dP, *];done) | (simp [dP, *,Bool.or_assoc];done)
     ·as_aux_lemma=>
       have t4:(oc==0)=false:=by rw [beq_eq_false_iff_ne];exact y4
       have u4':(oc !=0)=true:=by rw [bne_iff_ne];exact y4
       go_wp2_with (first
         | (go_at_call_of 50 (Value.int IntKind.u8 107);refine(jq.out _).mono ?_;rintro e w2 ⟨rfl,aj⟩;have ak:Below wA.heap.size wA w2:=Kt.chain (by assumption) aj;have aK:=bc ak)
         | (go_at_call_of 50 (Value.int IntKind.u8 110);refine(jr.out _).mono ?_;rintro e w2 ⟨rfl,aj⟩;have ak:Below wA.heap.size wA w2:=Kt.chain (by assumption) aj;have aK:=bc ak)
         | (go_at_call_of 50 (Value.int IntKind.u8 97);refine(jh.out _).mono ?_;rintro e w2 ⟨rfl,aj⟩;have ak:Below wA.heap.size wA w2:=Kt.chain (by assumption) aj;have aK:=bc ak)
         | (go_at_call_of 50 (Value.int IntKind.u8 98);refine(ji.out _).mono ?_;rintro e w2 ⟨rfl,aj⟩;have ak:Below wA.heap.size wA w2:=Kt.chain (by assumption) aj;have aK:=bc ak)
         | (go_at_call_of 50 (Value.int IntKind.u8 99);refine(jk.out _).mono ?_;rintro e w2 ⟨rfl,aj⟩;have ak:Below wA.heap.size wA w2:=Kt.chain (by assumption) aj;have aK:=bc ak)
         | (go_at_call_of 50 (Value.int IntKind.u8 103);refine(jv.out _).mono ?_;rintro e w2 ⟨rfl,aj⟩;have ak:Below wA.heap.size wA w2:=Kt.chain (by assumption) aj;have aK:=bc ak))
       all_goals go_meet
       all_goals refine⟨congrArg Value.bool ?_,by assumption⟩
       all_goals rw [←E4.out]
       all_goals first | (simp [dP, *];done) | (simp [dP, *,Bool.or_assoc];done)
     ·as_aux_lemma=>
       go_wp2_with (first
         | (go_at_call_of 50 (Value.int IntKind.u8 107);refine(jq.out _).mono ?_;rintro e w2 ⟨rfl,aj⟩;have ak:Below wA.heap.size wA w2:=Kt.chain (by assumption) aj;have aK:=bc ak)
         | (go_at_call_of 50 (Value.int IntKind.u8 110);refine(jr.out _).mono ?_;rintro e w2 ⟨rfl,aj⟩;have ak:Below wA.heap.size wA w2:=Kt.chain (by assumption) aj;have aK:=bc ak)
         | (go_at_call_of 50 (Value.int IntKind.u8 97);refine(jh.out _).mono ?_;rintro e w2 ⟨rfl,aj⟩;have ak:Below wA.heap.size wA w2:=Kt.chain (by assumption) aj;have aK:=bc ak)
         | (go_at_call_of 50 (Value.int IntKind.u8 98);refine(ji.out _).mono ?_;rintro e w2 ⟨rfl,aj⟩;have ak:Below wA.heap.size wA w2:=Kt.chain (by assumption) aj;have aK:=bc ak)
         | (go_at_call_of 50 (Value.int IntKind.u8 99);refine(jk.out _).mono ?_;rintro e w2 ⟨rfl,aj⟩;have ak:Below wA.heap.size wA w2:=Kt.chain (by assumption) aj;have aK:=bc ak)
         | (go_at_call_of 50 (Value.int IntKind.u8 103);refine(jv.out _).mono ?_;rintro e w2 ⟨rfl,aj⟩;have ak:Below wA.heap.size wA w2:=Kt.chain (by assumption) aj;have aK:=bc ak))
       all_goals go_meet
       all_goals refine⟨congrArg Value.bool ?_,by assumption⟩
       all_goals rw [←E4.out]
       all_goals first | (simp [dP, *];done) | (simp [dP, *,Bool.or_assoc];done)
    ·
     rcases(show(on<0)∨(¬on<0∧aC<on)∨(¬on<0∧¬aC<on∧oa≠0)∨(¬on<0∧¬aC<on∧oa=0∧oc≠0)∨(¬on<0∧¬aC<on∧oa=0∧oc=0∧ob<0)∨(¬on<0∧¬aC<on∧oa=0∧oc=0∧¬ob<0∧4294967295<ob)∨(¬on<0∧¬aC<on∧oa=0∧oc=0∧¬ob<0∧¬4294967295<ob) by omega) with y0 | ⟨y0,y1⟩ | ⟨y0,y1,y2⟩ | ⟨y0,y1,rfl,y3⟩ | ⟨y0,y1,rfl,rfl,y4⟩ | ⟨y0,y1,rfl,rfl,y4,y5⟩ | ⟨y0,y1,rfl,rfl,y4,y5⟩
     ·as_aux_lemma=>
       go_wp2_with (first
         | (go_at_call_of 50 (Value.int IntKind.u8 107);refine(jq.out _).mono ?_;rintro e w2 ⟨rfl,aj⟩;have ak:Below wA.heap.size wA w2:=Kt.chain (by assumption) aj;have aK:=bc ak)
         | (go_at_call_of 50 (Value.int IntKind.u8 110);refine(jr.out _).mono ?_;rintro e w2 ⟨rfl,aj⟩;have ak:Below wA.heap.size wA w2:=Kt.chain (by assumption) aj;have aK:=bc ak)
         | (go_at_call_of 50 (Value.int IntKind.u8 97);refine(jh.out _).mono ?_;rintro e w2 ⟨rfl,aj⟩;have ak:Below wA.heap.size wA w2:=Kt.chain (by assumption) aj;have aK:=bc ak)
         | (go_at_call_of 50 (Value.int IntKind.u8 98);refine(ji.out _).mono ?_;rintro e w2 ⟨rfl,aj⟩;have ak:Below wA.heap.size wA w2:=Kt.chain (by assumption) aj;have aK:=bc ak)
         | (go_at_call_of 50 (Value.int IntKind.u8 99);refine(jk.out _).mono ?_;rintro e w2 ⟨rfl,aj⟩;have ak:Below wA.heap.size wA w2:=Kt.chain (by assumption) aj;have aK:=bc ak)
         | (go_at_call_of 50 (Value.int IntKind.u8 103);refine(jv.out _).mono ?_;rintro e w2 ⟨rfl,aj⟩;have ak:Below wA.heap.size wA w2:=Kt.chain (by assumption) aj;have aK:=bc ak))
       all_goals go_meet
       all_goals refine⟨congrArg Value.bool ?_,by assumption⟩
       all_goals rw [←E4.out]
       all_goals first | (simp [dP, *];done) | (simp [dP, *,Bool.or_assoc];done)
     ·as_aux_lemma=>
       go_wp2_with (first
         | (go_at_call_of 50 (Value.int IntKind.u8 107);refine(jq.out _).mono ?_;rintro e w2 ⟨rfl,aj⟩;have ak:Below wA.heap.size wA w2:=Kt.chain (by assumption) aj;have aK:=bc ak)
         | (go_at_call_of 50 (Value.int IntKind.u8 110);refine(jr.out _).mono ?_;rintro e w2 ⟨rfl,aj⟩;have ak:Below wA.heap.size wA w2:=Kt.chain (by assumption) aj;have aK:=bc ak)
         | (go_at_call_of 50 (Value.int IntKind.u8 97);refine(jh.out _).mono ?_;rintro e w2 ⟨rfl,aj⟩;have ak:Below wA.heap.size wA w2:=Kt.chain (by assumption) aj;have aK:=bc ak)
         | (go_at_call_of 50 (Value.int IntKind.u8 98);refine(ji.out _).mono ?_;rintro e w2 ⟨rfl,aj⟩;have ak:Below wA.heap.size wA w2:=Kt.chain (by assumption) aj;have aK:=bc ak)
         | (go_at_call_of 50 (Value.int IntKind.u8 99);refine(jk.out _).mono ?_;rintro e w2 ⟨rfl,aj⟩;have ak:Below wA.heap.size wA w2:=Kt.chain (by assumption) aj;have aK:=bc ak)
         | (go_at_call_of 50 (Value.int IntKind.u8 103);refine(jv.out _).mono ?_;rintro e w2 ⟨rfl,aj⟩;have ak:Below wA.heap.size wA w2:=Kt.chain (by assumption) aj;have aK:=bc ak))
       all_goals go_meet
       all_goals refine⟨congrArg Value.bool ?_,by assumption⟩
       all_goals rw [←E4.out]
       all_goals first | (simp [dP, *];done) | (simp [dP, *,Bool.or_assoc];done)
     ·as_aux_lemma=>
       have t2:(oa==0)=false:=by rw [beq_eq_false_iff_ne];exact y2
       have YL:(oa !=0)=true:=by rw [bne_iff_ne];exact y2
       go_wp2_with (first
         | (go_at_call_of 50 (Value.int IntKind.u8 107);refine(jq.out _).mono ?_;rintro e w2 ⟨rfl,aj⟩;have ak:Below wA.heap.size wA w2:=Kt.chain (by assumption) aj;have aK:=bc ak)
         | (go_at_call_of 50 (Value.int IntKind.u8 110);refine(jr.out _).mono ?_;rintro e w2 ⟨rfl,aj⟩;have ak:Below wA.heap.size wA w2:=Kt.chain (by assumption) aj;have aK:=bc ak)
         | (go_at_call_of 50 (Value.int IntKind.u8 97);refine(jh.out _).mono ?_;rintro e w2 ⟨rfl,aj⟩;have ak:Below wA.heap.size wA w2:=Kt.chain (by assumption) aj;have aK:=bc ak)
         | (go_at_call_of 50 (Value.int IntKind.u8 98);refine(ji.out _).mono ?_;rintro e w2 ⟨rfl,aj⟩;have ak:Below wA.heap.size wA w2:=Kt.chain (by assumption) aj;have aK:=bc ak)
         | (go_at_call_of 50 (Value.int IntKind.u8 99);refine(jk.out _).mono ?_;rintro e w2 ⟨rfl,aj⟩;have ak:Below wA.heap.size wA w2:=Kt.chain (by assumption) aj;have aK:=bc ak)
         | (go_at_call_of 50 (Value.int IntKind.u8 103);refine(jv.out _).mono ?_;rintro e w2 ⟨rfl,aj⟩;have ak:Below wA.heap.size wA w2:=Kt.chain (by assumption) aj;have aK:=bc ak))
       all_goals go_meet
       all_goals refine⟨congrArg Value.bool ?_,by assumption⟩
       all_goals rw [←E4.out]
       all_goals first | (simp [dP, *];done) | (simp [dP, *,Bool.or_assoc];done)
     ·as_aux_lemma=>
       have t3:(oc==0)=false:=by rw [beq_eq_false_iff_ne];exact y3
       have ZP:(oc !=0)=true:=by rw [bne_iff_ne];exact y3
       go_wp2_with (first
         | (go_at_call_of 50 (Value.int IntKind.u8 107);refine(jq.out _).mono ?_;rintro e w2 ⟨rfl,aj⟩;have ak:Below wA.heap.size wA w2:=Kt.chain (by assumption) aj;have aK:=bc ak)
         | (go_at_call_of 50 (Value.int IntKind.u8 110);refine(jr.out _).mono ?_;rintro e w2 ⟨rfl,aj⟩;have ak:Below wA.heap.size wA w2:=Kt.chain (by assumption) aj;have aK:=bc ak)
         | (go_at_call_of 50 (Value.int IntKind.u8 97);refine(jh.out _).mono ?_;rintro e w2 ⟨rfl,aj⟩;have ak:Below wA.heap.size wA w2:=Kt.chain (by assumption) aj;have aK:=bc ak)
         | (go_at_call_of 50 (Value.int IntKind.u8 98);refine(ji.out _).mono ?_;rintro e w2 ⟨rfl,aj⟩;have ak:Below wA.heap.size wA w2:=Kt.chain (by assumption) aj;have aK:=bc ak)
         | (go_at_call_of 50 (Value.int IntKind.u8 99);refine(jk.out _).mono ?_;rintro e w2 ⟨rfl,aj⟩;have ak:Below wA.heap.size wA w2:=Kt.chain (by assumption) aj;have aK:=bc ak)
         | (go_at_call_of 50 (Value.int IntKind.u8 103);refine(jv.out _).mono ?_;rintro e w2 ⟨rfl,aj⟩;have ak:Below wA.heap.size wA w2:=Kt.chain (by assumption) aj;have aK:=bc ak))
       all_goals go_meet
       all_goals refine⟨congrArg Value.bool ?_,by assumption⟩
       all_goals rw [←E4.out]
       all_goals first | (simp [dP, *];done) | (simp [dP, *,Bool.or_assoc];done)
     ·as_aux_lemma=>
       go_wp2_with (first
         | (go_at_call_of 50 (Value.int IntKind.u8 107);refine(jq.out _).mono ?_;rintro e w2 ⟨rfl,aj⟩;have ak:Below wA.heap.size wA w2:=Kt.chain (by assumption) aj;have aK:=bc ak)
         | (go_at_call_of 50 (Value.int IntKind.u8 110);refine(jr.out _).mono ?_;rintro e w2 ⟨rfl,aj⟩;have ak:Below wA.heap.size wA w2:=Kt.chain (by assumption) aj;have aK:=bc ak)
         | (go_at_call_of 50 (Value.int IntKind.u8 97);refine(jh.out _).mono ?_;rintro e w2 ⟨rfl,aj⟩;have ak:Below wA.heap.size wA w2:=Kt.chain (by assumption) aj;have aK:=bc ak)
         | (go_at_call_of 50 (Value.int IntKind.u8 98);refine(ji.out _).mono ?_;rintro e w2 ⟨rfl,aj⟩;have ak:Below wA.heap.size wA w2:=Kt.chain (by assumption) aj;have aK:=bc ak)
         | (go_at_call_of 50 (Value.int IntKind.u8 99);refine(jk.out _).mono ?_;rintro e w2 ⟨rfl,aj⟩;have ak:Below wA.heap.size wA w2:=Kt.chain (by assumption) aj;have aK:=bc ak)
         | (go_at_call_of 50 (Value.int IntKind.u8 103);refine(jv.out _).mono ?_;rintro e w2 ⟨rfl,aj⟩;have ak:Below wA.heap.size wA w2:=Kt.chain (by assumption) aj;have aK:=bc ak))
       all_goals go_meet
       all_goals refine⟨congrArg Value.bool ?_,by assumption⟩
       all_goals rw [←E4.out]
       all_goals first | (simp [dP, *];done) | (simp [dP, *,Bool.or_assoc];done)
     ·as_aux_lemma=>
       go_wp2_with (first
         | (go_at_call_of 50 (Value.int IntKind.u8 107);refine(jq.out _).mono ?_;rintro e w2 ⟨rfl,aj⟩;have ak:Below wA.heap.size wA w2:=Kt.chain (by assumption) aj;have aK:=bc ak)
         | (go_at_call_of 50 (Value.int IntKind.u8 110);refine(jr.out _).mono ?_;rintro e w2 ⟨rfl,aj⟩;have ak:Below wA.heap.size wA w2:=Kt.chain (by assumption) aj;have aK:=bc ak)
         | (go_at_call_of 50 (Value.int IntKind.u8 97);refine(jh.out _).mono ?_;rintro e w2 ⟨rfl,aj⟩;have ak:Below wA.heap.size wA w2:=Kt.chain (by assumption) aj;have aK:=bc ak)
         | (go_at_call_of 50 (Value.int IntKind.u8 98);refine(ji.out _).mono ?_;rintro e w2 ⟨rfl,aj⟩;have ak:Below wA.heap.size wA w2:=Kt.chain (by assumption) aj;have aK:=bc ak)
         | (go_at_call_of 50 (Value.int IntKind.u8 99);refine(jk.out _).mono ?_;rintro e w2 ⟨rfl,aj⟩;have ak:Below wA.heap.size wA w2:=Kt.chain (by assumption) aj;have aK:=bc ak)
         | (go_at_call_of 50 (Value.int IntKind.u8 103);refine(jv.out _).mono ?_;rintro e w2 ⟨rfl,aj⟩;have ak:Below wA.heap.size wA w2:=Kt.chain (by assumption) aj;have aK:=bc ak))
       all_goals go_meet
       all_goals refine⟨congrArg Value.bool ?_,by assumption⟩
       all_goals rw [←E4.out]
       all_goals first | (simp [dP, *];done) | (simp [dP, *,Bool.or_assoc];done)
     ·as_aux_lemma=>
       go_wp2_with (first
         | (go_at_call_of 50 (Value.int IntKind.u8 107);refine(jq.out _).mono ?_;rintro e w2 ⟨rfl,aj⟩;have ak:Below wA.heap.size wA w2:=Kt.chain (by assumption) aj;have aK:=bc ak)
         | (go_at_call_of 50 (Value.int IntKind.u8 110);refine(jr.out _).mono ?_;rintro e w2 ⟨rfl,aj⟩;have ak:Below wA.heap.size wA w2:=Kt.chain (by assumption) aj;have aK:=bc ak)
         | (go_at_call_of 50 (Value.int IntKind.u8 97);refine(jh.out _).mono ?_;rintro e w2 ⟨rfl,aj⟩;have ak:Below wA.heap.size wA w2:=Kt.chain (by assumption) aj;have aK:=bc ak)
         | (go_at_call_of 50 (Value.int IntKind.u8 98);refine(ji.out _).mono ?_;rintro e w2 ⟨rfl,aj⟩;have ak:Below wA.heap.size wA w2:=Kt.chain (by assumption) aj;have aK:=bc ak)
         | (go_at_call_of 50 (Value.int IntKind.u8 99);refine(jk.out _).mono ?_;rintro e w2 ⟨rfl,aj⟩;have ak:Below wA.heap.size wA w2:=Kt.chain (by assumption) aj;have aK:=bc ak)
         | (go_at_call_of 50 (Value.int IntKind.u8 103);refine(jv.out _).mono ?_;rintro e w2 ⟨rfl,aj⟩;have ak:Below wA.heap.size wA w2:=Kt.chain (by assumption) aj;have aK:=bc ak))
       all_goals go_meet
       all_goals refine⟨congrArg Value.bool ?_,by assumption⟩
       all_goals rw [←E4.out]
       all_goals first | (simp [dP, *];done) | (simp [dP, *,Bool.or_assoc];done)
    ·
     rcases(show(nK≠0)∨(nK=0∧on<0)∨(nK=0∧¬on<0∧aC<on)∨(nK=0∧¬on<0∧¬aC<on∧ob≠0)∨(nK=0∧¬on<0∧¬aC<on∧ob=0∧oc≠0)∨(nK=0∧¬on<0∧¬aC<on∧ob=0∧oc=0) by omega) with y0 | ⟨rfl,y1⟩ | ⟨rfl,y1,y2⟩ | ⟨rfl,y1,y2,y3⟩ | ⟨rfl,y1,y2,rfl,y4⟩ | ⟨rfl,y1,y2,rfl,rfl⟩
     ·as_aux_lemma=>
       have t0:(nK==0)=false:=by rw [beq_eq_false_iff_ne];exact y0
       have u0':(nK !=0)=true:=by rw [bne_iff_ne];exact y0
       go_wp2_with (first
         | (go_at_call_of 50 (Value.int IntKind.u8 107);refine(jq.out _).mono ?_;rintro e w2 ⟨rfl,aj⟩;have ak:Below wA.heap.size wA w2:=Kt.chain (by assumption) aj;have aK:=bc ak)
         | (go_at_call_of 50 (Value.int IntKind.u8 110);refine(jr.out _).mono ?_;rintro e w2 ⟨rfl,aj⟩;have ak:Below wA.heap.size wA w2:=Kt.chain (by assumption) aj;have aK:=bc ak)
         | (go_at_call_of 50 (Value.int IntKind.u8 97);refine(jh.out _).mono ?_;rintro e w2 ⟨rfl,aj⟩;have ak:Below wA.heap.size wA w2:=Kt.chain (by assumption) aj;have aK:=bc ak)
         | (go_at_call_of 50 (Value.int IntKind.u8 98);refine(ji.out _).mono ?_;rintro e w2 ⟨rfl,aj⟩;have ak:Below wA.heap.size wA w2:=Kt.chain (by assumption) aj;have aK:=bc ak)
         | (go_at_call_of 50 (Value.int IntKind.u8 99);refine(jk.out _).mono ?_;rintro e w2 ⟨rfl,aj⟩;have ak:Below wA.heap.size wA w2:=Kt.chain (by assumption) aj;have aK:=bc ak)
         | (go_at_call_of 50 (Value.int IntKind.u8 103);refine(jv.out _).mono ?_;rintro e w2 ⟨rfl,aj⟩;have ak:Below wA.heap.size wA w2:=Kt.chain (by assumption) aj;have aK:=bc ak))
       all_goals go_meet
       all_goals refine⟨congrArg Value.bool ?_,by assumption⟩
       all_goals rw [←E4.out]
       all_goals first | (simp [dP, *];done) | (simp [dP, *,Bool.or_assoc];done)
     ·as_aux_lemma=>
       go_wp2_with (first
         | (go_at_call_of 50 (Value.int IntKind.u8 107);refine(jq.out _).mono ?_;rintro e w2 ⟨rfl,aj⟩;have ak:Below wA.heap.size wA w2:=Kt.chain (by assumption) aj;have aK:=bc ak)
         | (go_at_call_of 50 (Value.int IntKind.u8 110);refine(jr.out _).mono ?_;rintro e w2 ⟨rfl,aj⟩;have ak:Below wA.heap.size wA w2:=Kt.chain (by assumption) aj;have aK:=bc ak)
         | (go_at_call_of 50 (Value.int IntKind.u8 97);refine(jh.out _).mono ?_;rintro e w2 ⟨rfl,aj⟩;have ak:Below wA.heap.size wA w2:=Kt.chain (by assumption) aj;have aK:=bc ak)
         | (go_at_call_of 50 (Value.int IntKind.u8 98);refine(ji.out _).mono ?_;rintro e w2 ⟨rfl,aj⟩;have ak:Below wA.heap.size wA w2:=Kt.chain (by assumption) aj;have aK:=bc ak)
         | (go_at_call_of 50 (Value.int IntKind.u8 99);refine(jk.out _).mono ?_;rintro e w2 ⟨rfl,aj⟩;have ak:Below wA.heap.size wA w2:=Kt.chain (by assumption) aj;have aK:=bc ak)
         | (go_at_call_of 50 (Value.int IntKind.u8 103);refine(jv.out _).mono ?_;rintro e w2 ⟨rfl,aj⟩;have ak:Below wA.heap.size wA w2:=Kt.chain (by assumption) aj;have aK:=bc ak))
       all_goals go_meet
       all_goals refine⟨congrArg Value.bool ?_,by assumption⟩
       all_goals rw [←E4.out]
       all_goals first | (simp [dP, *];done) | (simp [dP, *,Bool.or_assoc];done)
     ·as_aux_lemma=>
       go_wp2_with (first
         | (go_at_call_of 50 (Value.int IntKind.u8 107);refine(jq.out _).mono ?_;rintro e w2 ⟨rfl,aj⟩;have ak:Below wA.heap.size wA w2:=Kt.chain (by assumption) aj;have aK:=bc ak)
         | (go_at_call_of 50 (Value.int IntKind.u8 110);refine(jr.out _).mono ?_;rintro e w2 ⟨rfl,aj⟩;have ak:Below wA.heap.size wA w2:=Kt.chain (by assumption) aj;have aK:=bc ak)
         | (go_at_call_of 50 (Value.int IntKind.u8 97);refine(jh.out _).mono ?_;rintro e w2 ⟨rfl,aj⟩;have ak:Below wA.heap.size wA w2:=Kt.chain (by assumption) aj;have aK:=bc ak)
         | (go_at_call_of 50 (Value.int IntKind.u8 98);refine(ji.out _).mono ?_;rintro e w2 ⟨rfl,aj⟩;have ak:Below wA.heap.size wA w2:=Kt.chain (by assumption) aj;have aK:=bc ak)
         | (go_at_call_of 50 (Value.int IntKind.u8 99);refine(jk.out _).mono ?_;rintro e w2 ⟨rfl,aj⟩;have ak:Below wA.heap.size wA w2:=Kt.chain (by assumption) aj;have aK:=bc ak)
         | (go_at_call_of 50 (Value.int IntKind.u8 103);refine(jv.out _).mono ?_;rintro e w2 ⟨rfl,aj⟩;have ak:Below wA.heap.size wA w2:=Kt.chain (by assumption) aj;have aK:=bc ak))
       all_goals go_meet
       all_goals refine⟨congrArg Value.bool ?_,by assumption⟩
       all_goals rw [←E4.out]
       all_goals first | (simp [dP, *];done) | (simp [dP, *,Bool.or_assoc];done)
     ·as_aux_lemma=>
       have t3:(ob==0)=false:=by rw [beq_eq_false_iff_ne];exact y3
       have ZP:(ob !=0)=true:=by rw [bne_iff_ne];exact y3
       go_wp2_with (first
         | (go_at_call_of 50 (Value.int IntKind.u8 107);refine(jq.out _).mono ?_;rintro e w2 ⟨rfl,aj⟩;have ak:Below wA.heap.size wA w2:=Kt.chain (by assumption) aj;have aK:=bc ak)
         | (go_at_call_of 50 (Value.int IntKind.u8 110);refine(jr.out _).mono ?_;rintro e w2 ⟨rfl,aj⟩;have ak:Below wA.heap.size wA w2:=Kt.chain (by assumption) aj;have aK:=bc ak)
         | (go_at_call_of 50 (Value.int IntKind.u8 97);refine(jh.out _).mono ?_;rintro e w2 ⟨rfl,aj⟩;have ak:Below wA.heap.size wA w2:=Kt.chain (by assumption) aj;have aK:=bc ak)
         | (go_at_call_of 50 (Value.int IntKind.u8 98);refine(ji.out _).mono ?_;rintro e w2 ⟨rfl,aj⟩;have ak:Below wA.heap.size wA w2:=Kt.chain (by assumption) aj;have aK:=bc ak)
         | (go_at_call_of 50 (Value.int IntKind.u8 99);refine(jk.out _).mono ?_;rintro e w2 ⟨rfl,aj⟩;have ak:Below wA.heap.size wA w2:=Kt.chain (by assumption) aj;have aK:=bc ak)
         | (go_at_call_of 50 (Value.int IntKind.u8 103);refine(jv.out _).mono ?_;rintro e w2 ⟨rfl,aj⟩;have ak:Below wA.heap.size wA w2:=Kt.chain (by assumption) aj;have aK:=bc ak))
       all_goals go_meet
       all_goals refine⟨congrArg Value.bool ?_,by assumption⟩
       all_goals rw [←E4.out]
       all_goals first | (simp [dP, *];done) | (simp [dP, *,Bool.or_assoc];done)
     ·as_aux_lemma=>
       have t4:(oc==0)=false:=by rw [beq_eq_false_iff_ne];exact y4
       have u4':(oc !=0)=true:=by rw [bne_iff_ne];exact y4
       go_wp2_with (first
         | (go_at_call_of 50 (Value.int IntKind.u8 107);refine(jq.out _).mono ?_;rintro e w2 ⟨rfl,aj⟩;have ak:Below wA.heap.size wA w2:=Kt.chain (by assumption) aj;have aK:=bc ak)
         | (go_at_call_of 50 (Value.int IntKind.u8 110);refine(jr.out _).mono ?_;rintro e w2 ⟨rfl,aj⟩;have ak:Below wA.heap.size wA w2:=Kt.chain (by assumption) aj;have aK:=bc ak)
         | (go_at_call_of 50 (Value.int IntKind.u8 97);refine(jh.out _).mono ?_;rintro e w2 ⟨rfl,aj⟩;have ak:Below wA.heap.size wA w2:=Kt.chain (by assumption) aj;have aK:=bc ak)
         | (go_at_call_of 50 (Value.int IntKind.u8 98);refine(ji.out _).mono ?_;rintro e w2 ⟨rfl,aj⟩;have ak:Below wA.heap.size wA w2:=Kt.chain (by assumption) aj;have aK:=bc ak)
         | (go_at_call_of 50 (Value.int IntKind.u8 99);refine(jk.out _).mono ?_;rintro e w2 ⟨rfl,aj⟩;have ak:Below wA.heap.size wA w2:=Kt.chain (by assumption) aj;have aK:=bc ak)
         | (go_at_call_of 50 (Value.int IntKind.u8 103);refine(jv.out _).mono ?_;rintro e w2 ⟨rfl,aj⟩;have ak:Below wA.heap.size wA w2:=Kt.chain (by assumption) aj;have aK:=bc ak))
       all_goals go_meet
       all_goals refine⟨congrArg Value.bool ?_,by assumption⟩
       all_goals rw [←E4.out]
       all_goals first | (simp [dP, *];done) | (simp [dP, *,Bool.or_assoc];done)
     ·as_aux_lemma=>
       go_wp2_with (first
         | (go_at_call_of 50 (Value.int IntKind.u8 107);refine(jq.out _).mono ?_;rintro e w2 ⟨rfl,aj⟩;have ak:Below wA.heap.size wA w2:=Kt.chain (by assumption) aj;have aK:=bc ak)
         | (go_at_call_of 50 (Value.int IntKind.u8 110);refine(jr.out _).mono ?_;rintro e w2 ⟨rfl,aj⟩;have ak:Below wA.heap.size wA w2:=Kt.chain (by assumption) aj;have aK:=bc ak)
         | (go_at_call_of 50 (Value.int IntKind.u8 97);refine(jh.out _).mono ?_;rintro e w2 ⟨rfl,aj⟩;have ak:Below wA.heap.size wA w2:=Kt.chain (by assumption) aj;have aK:=bc ak)
         | (go_at_call_of 50 (Value.int IntKind.u8 98);refine(ji.out _).mono ?_;rintro e w2 ⟨rfl,aj⟩;have ak:Below wA.heap.size wA w2:=Kt.chain (by assumption) aj;have aK:=bc ak)
         | (go_at_call_of 50 (Value.int IntKind.u8 99);refine(jk.out _).mono ?_;rintro e w2 ⟨rfl,aj⟩;have ak:Below wA.heap.size wA w2:=Kt.chain (by assumption) aj;have aK:=bc ak)
         | (go_at_call_of 50 (Value.int IntKind.u8 103);refine(jv.out _).mono ?_;rintro e w2 ⟨rfl,aj⟩;have ak:Below wA.heap.size wA w2:=Kt.chain (by assumption) aj;have aK:=bc ak))
       all_goals go_meet
       all_goals refine⟨congrArg Value.bool ?_,by assumption⟩
       all_goals rw [←E4.out]
       all_goals first | (simp [dP, *];done) | (simp [dP, *,Bool.or_assoc];done)
   obtain⟨rfl,xW⟩:=hcut
   have yT:=hR.keep xW
   have YM:=hoA.keep xW
   have YN:=Un.trans (xW.mono (by omega))
   clear b0 b1 b2 b3 o0 o1 o2 o3 o4 o5 o6 p0 p1 p2 l1 l5 l6 xW hR hoA Un hr
   have b0:=yT.1.2 0 _ rfl
   have b1:=yT.1.2 1 _ rfl
   have b2:=yT.1.2 2 _ rfl
   have b3:=yT.1.2 3 _ rfl
   have o0:=yT.2.1.2 0 _ rfl
   have o1:=yT.2.1.2 1 _ rfl
   have o2:=yT.2.1.2 2 _ rfl
   have o3:=yT.2.1.2 3 _ rfl
   have o4:=yT.2.1.2 4 _ rfl
   have o5:=yT.2.1.2 5 _ rfl
   have o6:=yT.2.1.2 6 _ rfl
   have p0:=yT.2.2.2 0 _ rfl
   have p1:=yT.2.2.2 1 _ rfl
   have p2:=yT.2.2.2 2 _ rfl
   have l1:=yT.1.1
   have l5:=yT.2.1.1
   have l6:=yT.2.2.1
   cases x4
   case true=>
    have hz:scan os aC os.length=(fQ os aC j,(j:Int)):=by rw [JG.out];exact nZ bV (by rw [EE.out];simp [Jd])
    have HZ:=κ hz
    clear hz
    go_wp2
    go_ret2
    exact⟨by rw [HZ.out,EE.out];rfl,by rw [HX.out];exact YN⟩
   go_upto_region 13 with fail
   have hr:=Below.refl wc.heap.size wc
   go_cut [177] from 144 to 176 (fun aeW wx=>aeW= .bool uO∧Below wc.heap.size wc wx)
   case first=>
    have HGA:Hid (∀w,rQ os (some ⟨g,off,none⟩) cap w→Calls Try.prog 51 #[.agg #[.int .u32 pc, .int .i64 aC, .int .i64 bg, .slice (some ⟨g,off,none⟩) os.length cap], .int .i64 (j:Int), .int .i64 oa] w fun e w'=>e= .returned (.bool (nI os j oa))∧Below w.heap.size w w'):=fun w h=>pO os (some ⟨g,off,none⟩) cap pc aC bg j oa w h hii
    have HGB:Hid (∀w,rQ os (some ⟨g,off,none⟩) cap w→Calls Try.prog 51 #[.agg #[.int .u32 pc, .int .i64 aC, .int .i64 bg, .slice (some ⟨g,off,none⟩) os.length cap], .int .i64 (j:Int), .int .i64 ob] w fun e w'=>e= .returned (.bool (nI os j ob))∧Below w.heap.size w w'):=fun w h=>pO os (some ⟨g,off,none⟩) cap pc aC bg j ob w h hii
    have HGC:Hid (∀w,rQ os (some ⟨g,off,none⟩) cap w→Calls Try.prog 51 #[.agg #[.int .u32 pc, .int .i64 aC, .int .i64 bg, .slice (some ⟨g,off,none⟩) os.length cap], .int .i64 (j:Int), .int .i64 oc] w fun e w'=>e= .returned (.bool (nI os j oc))∧Below w.heap.size w w'):=fun w h=>pO os (some ⟨g,off,none⟩) cap pc aC bg j oc w h hii
    generalize nI os j oa=gA at ZF HGA
    generalize nI os j ob=gB at ZF HGB
    generalize nI os j oc=gC at ZF HGC
    cases la<;>cases lb<;>cases lc
    all_goals
     go_wp2_with (first
        | (go_at_call_of 50 (Value.int IntKind.u8 97);refine(jh.out _).mono ?_;rintro e w2 ⟨rfl,aj⟩;have ak:Below wc.heap.size wc w2:=Kt.chain (by assumption) aj;have aK:=bc ak;have ZG:=YM.keep ak)
        | (go_at_call_of 50 (Value.int IntKind.u8 98);refine(ji.out _).mono ?_;rintro e w2 ⟨rfl,aj⟩;have ak:Below wc.heap.size wc w2:=Kt.chain (by assumption) aj;have aK:=bc ak;have ZG:=YM.keep ak)
        | (go_at_call_of 50 (Value.int IntKind.u8 99);refine(jk.out _).mono ?_;rintro e w2 ⟨rfl,aj⟩;have ak:Below wc.heap.size wc w2:=Kt.chain (by assumption) aj;have aK:=bc ak;have ZG:=YM.keep ak)
        | (go_at_call_of 51 (Value.int IntKind.i64 oa);refine(HGA.out _ (by assumption)).mono ?_;rintro e w2 ⟨rfl,aj⟩;have ak:Below wc.heap.size wc w2:=Kt.chain (by assumption) aj;have aK:=bc ak;have ZG:=YM.keep ak)
        | (go_at_call_of 51 (Value.int IntKind.i64 ob);refine(HGB.out _ (by assumption)).mono ?_;rintro e w2 ⟨rfl,aj⟩;have ak:Below wc.heap.size wc w2:=Kt.chain (by assumption) aj;have aK:=bc ak;have ZG:=YM.keep ak)
        | (go_at_call_of 51 (Value.int IntKind.i64 oc);refine(HGC.out _ (by assumption)).mono ?_;rintro e w2 ⟨rfl,aj⟩;have ak:Below wc.heap.size wc w2:=Kt.chain (by assumption) aj;have aK:=bc ak;have ZG:=YM.keep ak))
     all_goals go_meet
     all_goals refine⟨congrArg Value.bool ?_,by assumption⟩
     all_goals rw [←ZF.out]
     all_goals simp [lK, *]
   obtain⟨rfl,xW⟩:=hcut
   have zA:=yT.keep xW
   have YO:=YN.trans (xW.mono (by omega))
   clear b0 b1 b2 b3 o0 o1 o2 o3 o4 o5 o6 p0 p1 p2 l1 l5 l6 yT YM YN hr xW
   have b0:=zA.1.2 0 _ rfl
   have b1:=zA.1.2 1 _ rfl
   have b2:=zA.1.2 2 _ rfl
   have b3:=zA.1.2 3 _ rfl
   have o0:=zA.2.1.2 0 _ rfl
   have o1:=zA.2.1.2 1 _ rfl
   have o2:=zA.2.1.2 2 _ rfl
   have o3:=zA.2.1.2 3 _ rfl
   have o4:=zA.2.1.2 4 _ rfl
   have o5:=zA.2.1.2 5 _ rfl
   have o6:=zA.2.1.2 6 _ rfl
   have p0:=zA.2.2.2 0 _ rfl
   have p1:=zA.2.2.2 1 _ rfl
   have p2:=zA.2.2.2 2 _ rfl
   have l1:=zA.1.1
   have l5:=zA.2.1.1
   have l6:=zA.2.2.1
   cases uO
   case true=>
    have hz:scan os aC os.length=(fQ os aC j,(j:Int)):=by rw [JG.out];exact nZ bV (by rw [EE.out];simp [Jd])
    have HZ:=κ hz
    clear hz
    go_wp2
    go_ret2
    exact⟨by rw [HZ.out,EE.out];rfl,by rw [HX.out];exact YO⟩
   go_upto_region 15 with fail
   go_cut [189] from 179 to 188 (fun aeX wx=>aeX= .bool yK∧wc=wx)
   case first=>
    cases lf
    all_goals
     go_wp2_with (go_at_call 52;refine(Um.out _).mono ?_;rintro e w2 ⟨rfl,rfl⟩)
     all_goals go_meet
     all_goals refine⟨congrArg Value.bool ?_,rfl⟩
     all_goals rw [←E12.out]
     all_goals simp [*]
   obtain⟨rfl,rfl⟩:=hcut
   cases yK
   case true=>
    have hz:scan os aC os.length=(fQ os aC j,(j:Int)):=by rw [JG.out];exact nZ bV (by rw [EE.out];simp [Jd])
    have HZ:=κ hz
    clear hz
    go_wp2
    go_ret2
    exact⟨by rw [HZ.out,EE.out];rfl,by rw [HX.out];exact YO⟩
   go_wp2
   go_roundg (os.length-(j+1))
   case measure=>
    have:=HK.out
    omega
   case rel=>exact⟨j+1,rfl,by omega,by simp,by rw [←xX bV (by rw [EE.out];rfl)];exact JG,YO,zA.1⟩
  ·obtain rfl:j=os.length:=by omega
   have wL:=hx.2 0 _ rfl
   have Ap:=hx.2 1 _ rfl
   have Zv:=hx.2 2 _ rfl
   have hx3:=hx.2 3 _ rfl
   have hxl:=hx.1
   have ZE:scan os aC os.length=if gG os then(0,0) else(7,(os.length:Int)):=by rw [JG.out,Nat.sub_self];rfl
   have HS:=κ ZE
   clear ZE JG
   rcases Nat.eq_zero_or_pos os.length with h0 | h0
   ·have hl:gG os=false:=by
     have:os= []:=List.eq_nil_of_length_eq_zero h0
     subst this
     rfl
    have hz:scan os aC os.length=(7,(os.length:Int)):=by rw [HS.out,hl];rfl
    have HZ:=κ hz
    have h0':((os.length:Int)==0)=true:=by rw [beq_iff_eq];omega
    clear hz hl h0 HS IZ
    go_wp2
    go_quiet (fail)
    go_wp2
    go_ret2
    exact⟨by rw [HZ.out];rfl,by rw [HX.out];exact below_drewN hb _⟩
   ·obtain⟨g,off,rfl,hg,hc⟩:=IZ.2.2 h0
    obtain⟨o,ho⟩:∃o,os[os.length-1]?=some o:=⟨os[os.length-1],List.getElem?_eq_getElem (by omega)⟩
    have hl:gG os=rF o.k:=by unfold gG;rw [ho]
    have c0:wr.cell? ⟨g,off+(os.length-1)*7,none⟩=some (.int .i64 o.k):=hc _ o ho 0 _ rfl
    have h0':((os.length:Int)==0)=false:=by rw [beq_eq_false_iff_ne];omega
    have Um:=κ (wY o.k)
    rw [hl] at HS
    rw [←N8] at Um
    clear hl hc ho IZ
    generalize rF o.k=fi at HS Um
    cases fi
    ·go_wp2_with (go_at_call 52;refine(Um.out _).mono ?_;rintro e w2 ⟨rfl,rfl⟩)
     go_quiet (fail)
     go_wp2
     go_ret2
     exact⟨by rw [HS.out];rfl,by rw [HX.out];exact below_drewN hb _⟩
    ·go_wp2_with (go_at_call 52;refine(Um.out _).mono ?_;rintro e w2 ⟨rfl,rfl⟩)
     go_ret2
     exact⟨by rw [HS.out];rfl,by rw [HX.out];exact hb⟩
end Go.Proofs.Ytcjcmnnhmajocab.Ic
