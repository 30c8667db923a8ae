import Derived.Test.YtcjcmnnhmajocabGreatPmat
set_option linter.unusedVariables false
set_option linter.unusedSimpArgs false
set_option maxRecDepth 100000
set_option maxHeartbeats 16000000
namespace Go.Proofs.YtcjcmnnhmajocabGreat.Ic
open Go.RowKit Kt
def Yx (ok:Bool) (f s W:Int):Bool:= !ok || (decide (W<f) || decide (f+s≤W))
def Zj (k n a b c g:Bool) (aj Kn N A B C:Int):Bool:=(!k&&Kn !=0) || ((!n&&N !=0) || (decide (N<0) || (decide (aj<N) || ((!a&&A !=0) || ((!b&&(!g&&B !=0)) || ((!c&&C !=0) || (g&&(decide (B<0) || decide (4294967295<B)))))))))
def Ja (x2 x4 zT Hl:Bool):Int:=if x2 then 2 else if x4 then 3 else if zT then 6 else if Hl then 7 else 0
theorem Yy (k W:Int):e2 (rO k) (rS k) k W=Yx (rO k) (nF k) (nS k) W:=by
 rcases kinds k with h | h | h
 ·unfold e2 Yx;rw [yJ (.inl h)];rfl
 ·unfold e2 Yx;rw [yJ (.inr h)];rfl
 ·unfold e2 Yx
  rw [Bool.eq_iff_iff]
  rcases h with rfl | rfl | rfl | rfl | rfl | rfl | rfl | rfl | rfl | rfl | rfl | rfl | rfl | rfl | rfl | rfl | rfl<;>simp [rO,rS,nF,nS] <;>omega
theorem Ua (os:List aV) (aj:Int) (j:Nat) (o:aV) (ho:os[j]?=some o):jr os aj j=Ja (Yx (rO o.k) (nF o.k) (nS o.k) o.w) (Zj (rK o.k) (rN o.k) (rA o.k) (rB o.k) (rC o.k) (rG o.k) aj o.kn o.n o.a o.b o.c)
  (BZ (rA o.k) (rB o.k) (rC o.k) (qy os j o.a) (qy os j o.b) (qy os j o.c)) (rF o.k&&decide ((j:Int)+1<(os.length:Int))):=by
 have h:jr os aj j=Jj os aj j o:=by unfold jr;rw [ho]
 rw [h,Jj,Yy]
 have h4:∀ (k n a b c g:Bool) (Kn N A B C:Int),Zj k n a b c g aj Kn N A B C=(e4 k n aj Kn N || (e6 a b c g A B C || e8 g B)):=by
  intro k n a b c g Kn N A B C
  unfold Zj e4 e6 e8
  simp only [Bool.or_assoc]
 have Jk:decide ((j:Int) <(os.length:Int)-1)=decide ((j:Int)+1<(os.length:Int)):=by
  rw [Bool.eq_iff_iff];simp;omega
 rw [h4,Jk]
 unfold KR Ja YT
 generalize e4 (rK o.k) (rN o.k) aj o.kn o.n=x4
 generalize e6 (rA o.k) (rB o.k) (rC o.k) (rG o.k) o.a o.b o.c=x6
 generalize e8 (rG o.k) o.b=x8
 cases x4<;>cases x6<;>cases x8<;>rfl
theorem letters (k:Int):(rK k,rN k,rA k,rB k,rC k,rG k)∈ [(false,false,false,false,false,false),(true,false,false,false,false,false),(false,false,true,false,false,false),(false,false,true,true,false,false),(false,false,true,true,true,false),
  (true,true,true,false,false,false),(true,true,true,true,false,false),(true,true,false,false,false,false),(true,true,false,false,false,true),(false,true,true,false,false,false)]:=by
 rcases kinds k with h | h | h
 ·rw [yG (.inl h),yH (.inl h),yD (.inl h),yE (.inl h),yF (.inl h),yI (.inl h)];decide
 ·rw [yG (.inr h),yH (.inr h),yD (.inr h),yE (.inr h),yF (.inr h),yI (.inr h)];decide
 ·rcases h with rfl | rfl | rfl | rfl | rfl | rfl | rfl | rfl | rfl | rfl | rfl | rfl | rfl | rfl | rfl | rfl | rfl<;>decide
theorem two {w w1:World} {Y Z:Array Value} {u v:TypeId} (hb:Below (w.alloc (.cells Y u)).heap.size (w.alloc (.cells Y u)) w1):
  nI w.heap.size Y (w1.alloc (.cells Z v))∧nI w1.heap.size Z (w1.alloc (.cells Z v))∧Below w.heap.size w (w1.alloc (.cells Z v))∧w.heap.size+1≤w1.heap.size:=by
 have hs:w.heap.size+1≤w1.heap.size:=by have:=hb.size;simp at this;omega
 refine⟨⟨by simp;omega,fun j x hj=> ?_⟩,nI.new _ _ _,(((Below.refl _ _).alloc (Nat.le_refl _) _).trans (hb.mono (by simp))).alloc (by omega) _,hs⟩
 rw [KQ (by omega),hb.cell (p:=⟨w.heap.size,j,none⟩) (by simp),Az]
 exact hj
def Rd (bx ro rn:Nat) (X Y Z:Array Value) (w:World):Prop:=nI bx X w∧nI ro Y w∧nI rn Z w
theorem Rd.keep {bx ro rn:Nat} {X Y Z:Array Value} {w w':World} (h:Rd bx ro rn X Y Z w) (hb:Below w.heap.size w w'):Rd bx ro rn X Y Z w':=⟨h.1.keep hb,h.2.1.keep hb,h.2.2.keep hb⟩
theorem below_drewN {B:Nat} {a w:World} (h:Below B a w) (n:Nat):Below B a (w.drewN n):=⟨h.os,h.tape,h.output,h.size,h.block⟩
theorem wX (os:List aV) (ao:Option Addr) (cap:Nat) (pc aj aN:Int) (w:World) (qC:zY os ao cap w):
  Calls Tryz.prog 27 #[.agg #[.int .u32 pc, .int .i64 aj, .int .i64 aN, .slice ao os.length cap]] w fun e w'=>e= .returned (Lj (xu os aj aN))∧Below w.heap.size w w':=by
 have hL:os.length≤9223372036854775807:=by have:=qC.1;have h2:=qC.2.1;unfold maxLen at h2;omega
 by_cases hlen:2048<os.length
 ·have hv:xu os aj aN=(5,-1):=by unfold xu;rw [if_pos hlen]
  rw [hv]
  clear hv qC
  have h1:(2048:Int) <(os.length:Int):=by omega
  go_enter Tryz.func27,Tryz.ntmps27
  go_wp2
  go_ret2
  exact⟨rfl,(Below.refl _ _).alloc (Nat.le_refl _) _⟩
 have h1:¬ (2048:Int) <(os.length:Int):=by omega
 by_cases Ub:aj<0∨64<aj∨aN<0∨384<aN
 ·have hv:xu os aj aN=(4,-1):=by unfold xu;rw [if_neg hlen,if_pos Ub]
  rw [hv]
  clear hv qC
  have hc:aj<0∨(¬aj<0∧64<aj)∨(¬aj<0∧¬64<aj∧aN<0)∨(¬aj<0∧¬64<aj∧¬aN<0∧384<aN):=by omega
  clear Ub
  rcases hc with q0 | ⟨q0,q1⟩ | ⟨q0,q1,q2⟩ | ⟨q0,q1,q2,q3⟩
  all_goals go_enter Tryz.func27,Tryz.ntmps27
  all_goals go_wp2
  all_goals go_ret2
  all_goals exact⟨rfl,(Below.refl _ _).alloc (Nat.le_refl _) _⟩
 have hv:xu os aj aN=scan os aj os.length:=by unfold xu;rw [if_neg hlen,if_neg Ub]
 rw [hv]
 clear hv
 have q0:¬aj<0:=by omega
 have q1:¬64<aj:=by omega
 have q2:¬aN<0:=by omega
 have q3:¬384<aN:=by omega
 clear Ub hlen
 have HO:=κ qC
 clear qC
 go_enter Tryz.func27,Tryz.ntmps27
 go_wp2
 have HB0:=nI.new w #[.int .u32 pc, .int .i64 aj, .int .i64 aN, .slice ao os.length cap] 52
 have HA0:Below w.heap.size w (w.alloc (.cells #[.int .u32 pc, .int .i64 aj, .int .i64 aN, .slice ao os.length cap] 52)):=(Below.refl _ _).alloc (Nat.le_refl _) _
 generalize w.alloc (.cells #[.int .u32 pc, .int .i64 aj, .int .i64 aN, .slice ao os.length cap] 52)=wA at HB0 HA0⊢
 generalize Ba:w.heap.size=bx at HB0 HA0⊢
 have HX:=κ Ba
 clear Ba
 go_loopg [33] os.length (fun k i wr=>∃j:Nat,k=os.length-j∧j≤os.length∧i= .int .i64 j∧Hid (scan os aj os.length=scan os aj (os.length-j))∧Below bx w wr∧nI bx #[.int .u32 pc, .int .i64 aj, .int .i64 aN, .slice ao os.length cap] wr)
 case atStart=>exact⟨0,rfl,Nat.zero_le _,rfl,rfl,HA0,HB0⟩
 case round=>
  obtain⟨j,hk,hj,rfl,Ce,hb,hx⟩:=hrel
  have Zk:zY os ao cap wr:=HO.out.keep (by rw [HX.out];exact hb)
  have HK:=κ hk
  clear HB0 HA0 hk
  by_cases dh:j<os.length
  ·obtain⟨o,ho⟩:∃o,os[j]?=some o:=⟨os[j],List.getElem?_eq_getElem dh⟩
   have hE:=Ua os aj j o ho
   have hgo:=Zk
   obtain⟨g,off,rfl,hg,hc⟩:=Zk.2.2 (by omega)
   have HN:=κ (H7 o.k)
   have Zl:=κ (aev o.k)
   have Zm:=κ (aew o.k)
   have Yz:=κ (aex o.k)
   have YA:=κ (hasB o.k)
   have YB:=κ (aey o.k)
   have Zn:=κ (aez o.k)
   have Uc:=κ (xI o.k)
   rw [←Lh] at Uc
   have FP:=κ (letters o.k)
   have c0:wr.cell? ⟨g,off+j*7,none⟩=some (.int .i64 o.k):=hc j o ho 0 _ rfl
   have c1:wr.cell? ⟨g,off+j*7+1,none⟩=some (.int .i64 o.w):=hc j o ho 1 _ rfl
   have c2:wr.cell? ⟨g,off+j*7+2,none⟩=some (.int .i64 o.a):=hc j o ho 2 _ rfl
   have c3:wr.cell? ⟨g,off+j*7+3,none⟩=some (.int .i64 o.b):=hc j o ho 3 _ rfl
   have c4:wr.cell? ⟨g,off+j*7+4,none⟩=some (.int .i64 o.c):=hc j o ho 4 _ rfl
   have c5:wr.cell? ⟨g,off+j*7+5,none⟩=some (.int .u32 o.kn):=hc j o ho 5 _ rfl
   have c6:wr.cell? ⟨g,off+j*7+6,none⟩=some (.int .i64 o.n):=hc j o ho 6 _ rfl
   have pF:(j:Int) <(os.length:Int):=by omega
   have hii:j≤os.length:=by omega
   have hfs:0≤nF o.k∧nF o.k<100∧0≤nS o.k∧nS o.k<100:=by
    constructor
    ·unfold nF;split<;>omega
    constructor
    ·unfold nF;split<;>omega
    unfold nS
    split<;>omega
   clear hc ho
   obtain⟨ok,ow,oa,ob,oc,oh,on⟩:=o
   dsimp only at hE HN Zl Zm Yz YA YB Zn Uc FP c0 c1 c2 c3 c4 c5 c6 hfs
   generalize rO ok=oO at hE HN
   generalize nF ok=nf at hE HN Zl Zm Yz YA YB Zn hfs
   generalize nS ok=ns at hE HN Zl Zm Yz YA YB Zn hfs
   generalize nT ok=nt at HN Zl Zm Yz YA YB Zn
   generalize rK ok=lk at hE Zl FP
   generalize rN ok=ln at hE Zm FP
   generalize rA ok=la at hE Yz FP
   generalize rB ok=lb at hE YA FP
   generalize rC ok=lc at hE YB FP
   generalize rG ok=lg at hE Zn FP
   generalize rF ok=lf at hE Uc
   obtain⟨BN,hf1,hf2,hf3⟩:=hfs
   generalize hE2:Yx oO nf ns ow=x2 at hE
   generalize hE4:Zj lk ln la lb lc lg aj oh on oa ob oc=x4 at hE
   generalize acP:BZ la lb lc (qy os j oa) (qy os j ob) (qy os j oc)=zT at hE
   generalize acQ:(lf&&decide ((j:Int)+1<(os.length:Int)))=Hl at hE
   have E2:=κ hE2
   have E4:=κ hE4
   have E10:=κ acP
   have E12:=κ acQ
   have EE:=κ hE
   clear hE2 hE4 acP acQ hE
   have hx0:=hx.2 0 _ rfl
   have hx1:=hx.2 1 _ rfl
   have hx2:=hx.2 2 _ rfl
   have hx3:=hx.2 3 _ rfl
   have hxl:=hx.1
   have HXB:=κ hx
   have HOR:=κ hgo
   clear hx Zk hgo
   go_upto_region 9 with(go_at_call 59;refine(HN.out _).mono ?_;rintro e w1 ⟨rfl,dH⟩)
   obtain⟨d5,d6,Io,hz⟩:=two (Z:= #[.int .i64 nf, .int .i64 ns, .string nt]) (v:=119) dH
   have hR:Rd bx wr.heap.size w1.heap.size _ _ _ (w1.alloc (.cells #[.int .i64 nf, .int .i64 ns, .string nt] 119)):=⟨HXB.out.keep Io,d5,d6⟩
   have hoA:=HOR.out.keep Io
   have Ud:=hb.trans (Io.mono (by omega))
   generalize w1.alloc (.cells #[.int .i64 nf, .int .i64 ns, .string nt] 119)=wA at hR hoA Ud⊢
   clear dH d5 d6 Io HN hx0 hx1 hx2 hx3 hxl c0 c1 c2 c3 c4 c5 c6 HXB HOR hb
   generalize wr.heap.size=ro at hR hz hg⊢
   generalize w1.heap.size=rn at hR hz⊢
   clear hz hg
   have b0:=hR.1.2 0 _ rfl
   have b1:=hR.1.2 1 _ rfl
   have b2:=hR.1.2 2 _ rfl
   have b3:=hR.1.2 3 _ rfl
   have o0:=hR.2.1.2 0 _ rfl
   have o1:=hR.2.1.2 1 _ rfl
   have o2:=hR.2.1.2 2 _ rfl
   have o3:=hR.2.1.2 3 _ rfl
   have o4:=hR.2.1.2 4 _ rfl
   have o5:=hR.2.1.2 5 _ rfl
   have o6:=hR.2.1.2 6 _ rfl
   have p0:=hR.2.2.2 0 _ rfl
   have p1:=hR.2.2.2 1 _ rfl
   have p2:=hR.2.2.2 2 _ rfl
   have l1:=hR.1.1
   have l5:=hR.2.1.1
   have l6:=hR.2.2.1
   go_cut [4,7,62] from 38 to 61 (fun s4 s7 s62 wx=>s4= .int .i64 (j:Int)∧s62= .bool x2∧wA=wx)
   case first=>
    go_wp2
    all_goals go_meet
    all_goals refine⟨rfl,congrArg Value.bool ?_,rfl⟩
    all_goals rw [←E2.out]
    all_goals simp [Yx, *]
    all_goals first | omega | (rw [Bool.eq_iff_iff];simp [*] <;>omega) | (rw [Bool.eq_iff_iff];simp<;>omega)
   obtain⟨rfl,rfl,rfl⟩:=hcut
   cases x2
   case true=>
    have hz:scan os aj os.length=(jr os aj j,(j:Int)):=by rw [Ce.out];exact rW dh (by rw [EE.out];simp [Ja])
    have HZ:=κ hz
    clear hz
    go_wp2
    go_ret2
    exact⟨by rw [HZ.out,EE.out];rfl,by rw [HX.out];exact Ud⟩
   go_upto_region 11 with fail
   have hr:=Below.refl wA.heap.size wA
   go_cut [142] from 64 to 141 (fun af8 wx=>af8= .bool x4∧Below wA.heap.size wA wx)
   case first=>
    have acR:=FP.out
    clear FP
    simp only [List.mem_cons,Prod.mk.injEq,List.not_mem_nil,or_false] at acR
    rcases acR with⟨rfl,rfl,rfl,rfl,rfl,rfl⟩ | ⟨rfl,rfl,rfl,rfl,rfl,rfl⟩ | ⟨rfl,rfl,rfl,rfl,rfl,rfl⟩ | ⟨rfl,rfl,rfl,rfl,rfl,rfl⟩ | ⟨rfl,rfl,rfl,rfl,rfl,rfl⟩ | ⟨rfl,rfl,rfl,rfl,rfl,rfl⟩ | ⟨rfl,rfl,rfl,rfl,rfl,rfl⟩ | ⟨rfl,rfl,rfl,rfl,rfl,rfl⟩ | ⟨rfl,rfl,rfl,rfl,rfl,rfl⟩ | ⟨rfl,rfl,rfl,rfl,rfl,rfl⟩
    rcases(show(oh≠0)∨(oh=0∧on≠0)∨(oh=0∧on=0∧oa≠0)∨(oh=0∧on=0∧oa=0∧ob≠0)∨(oh=0∧on=0∧oa=0∧ob=0∧oc≠0)∨(oh=0∧on=0∧oa=0∧ob=0∧oc=0) by omega) with y0 | ⟨rfl,y1⟩ | ⟨rfl,rfl,y2⟩ | ⟨rfl,rfl,rfl,y3⟩ | ⟨rfl,rfl,rfl,rfl,y4⟩ | ⟨rfl,rfl,rfl,rfl,rfl⟩
    rotate_left 6
    rcases(show(on≠0)∨(on=0∧oa≠0)∨(on=0∧oa=0∧ob≠0)∨(on=0∧oa=0∧ob=0∧oc≠0)∨(on=0∧oa=0∧ob=0∧oc=0) by omega) with y0 | ⟨rfl,y1⟩ | ⟨rfl,rfl,y2⟩ | ⟨rfl,rfl,rfl,y3⟩ | ⟨rfl,rfl,rfl,rfl⟩
    rotate_left 5
    rcases(show(oh≠0)∨(oh=0∧on≠0)∨(oh=0∧on=0∧ob≠0)∨(oh=0∧on=0∧ob=0∧oc≠0)∨(oh=0∧on=0∧ob=0∧oc=0) by omega) with y0 | ⟨rfl,y1⟩ | ⟨rfl,rfl,y2⟩ | ⟨rfl,rfl,rfl,y3⟩ | ⟨rfl,rfl,rfl,rfl⟩
    rotate_left 5
    rcases(show(oh≠0)∨(oh=0∧on≠0)∨(oh=0∧on=0∧oc≠0)∨(oh=0∧on=0∧oc=0) by omega) with y0 | ⟨rfl,y1⟩ | ⟨rfl,rfl,y2⟩ | ⟨rfl,rfl,rfl⟩
    rotate_left 4
    rcases(show(oh≠0)∨(oh=0∧on≠0)∨(oh=0∧on=0) by omega) with y0 | ⟨rfl,y1⟩ | ⟨rfl,rfl⟩
    rotate_left 3
    rcases(show(on<0)∨(¬on<0∧aj<on)∨(¬on<0∧¬aj<on∧ob≠0)∨(¬on<0∧¬aj<on∧ob=0∧oc≠0)∨(¬on<0∧¬aj<on∧ob=0∧oc=0) by omega) with y0 | ⟨y0,y1⟩ | ⟨y0,y1,y2⟩ | ⟨y0,y1,rfl,y3⟩ | ⟨y0,y1,rfl,rfl⟩
    rotate_left 5
    rcases(show(on<0)∨(¬on<0∧aj<on)∨(¬on<0∧¬aj<on∧oc≠0)∨(¬on<0∧¬aj<on∧oc=0) by omega) with y0 | ⟨y0,y1⟩ | ⟨y0,y1,y2⟩ | ⟨y0,y1,rfl⟩
    rotate_left 4
    rcases(show(on<0)∨(¬on<0∧aj<on)∨(¬on<0∧¬aj<on∧oa≠0)∨(¬on<0∧¬aj<on∧oa=0∧ob≠0)∨(¬on<0∧¬aj<on∧oa=0∧ob=0∧oc≠0)∨(¬on<0∧¬aj<on∧oa=0∧ob=0∧oc=0) by omega) with y0 | ⟨y0,y1⟩ | ⟨y0,y1,y2⟩ | ⟨y0,y1,rfl,y3⟩ | ⟨y0,y1,rfl,rfl,y4⟩ | ⟨y0,y1,rfl,rfl,rfl⟩
    rotate_left 6
    rcases(show(on<0)∨(¬on<0∧aj<on)∨(¬on<0∧¬aj<on∧oa≠0)∨(¬on<0∧¬aj<on∧oa=0∧oc≠0)∨(¬on<0∧¬aj<on∧oa=0∧oc=0∧ob<0)∨(¬on<0∧¬aj<on∧oa=0∧oc=0∧¬ob<0∧4294967295<ob)∨(¬on<0∧¬aj<on∧oa=0∧oc=0∧¬ob<0∧¬4294967295<ob) by omega) with y0 | ⟨y0,y1⟩ | ⟨y0,y1,y2⟩ | ⟨y0,y1,rfl,y3⟩ | ⟨y0,y1,rfl,rfl,y4⟩ | ⟨y0,y1,rfl,rfl,y4,y5⟩ | ⟨y0,y1,rfl,rfl,y4,y5⟩
    rotate_left 7
    rcases(show(oh≠0)∨(oh=0∧on<0)∨(oh=0∧¬on<0∧aj<on)∨(oh=0∧¬on<0∧¬aj<on∧ob≠0)∨(oh=0∧¬on<0∧¬aj<on∧ob=0∧oc≠0)∨(oh=0∧¬on<0∧¬aj<on∧ob=0∧oc=0) by omega) with y0 | ⟨rfl,y1⟩ | ⟨rfl,y1,y2⟩ | ⟨rfl,y1,y2,y3⟩ | ⟨rfl,y1,y2,rfl,y4⟩ | ⟨rfl,y1,y2,rfl,rfl⟩
    rotate_left 6
    all_goals try have aic:(oh==0)=false:=by rw [beq_eq_false_iff_ne];assumption
    all_goals try have aie:(oh !=0)=true:=by rw [bne_iff_ne];assumption
    all_goals try have akD:(on==0)=false:=by rw [beq_eq_false_iff_ne];assumption
    all_goals try have akE:(on !=0)=true:=by rw [bne_iff_ne];assumption
    all_goals try have akF:(oa==0)=false:=by rw [beq_eq_false_iff_ne];assumption
    all_goals try have akG:(oa !=0)=true:=by rw [bne_iff_ne];assumption
    all_goals try have akH:(ob==0)=false:=by rw [beq_eq_false_iff_ne];assumption
    all_goals try have akI:(ob !=0)=true:=by rw [bne_iff_ne];assumption
    all_goals try have akJ:(oc==0)=false:=by rw [beq_eq_false_iff_ne];assumption
    all_goals try have akK:(oc !=0)=true:=by rw [bne_iff_ne];assumption
    all_goals as_aux_lemma=>
     go_wp2_with ((first
      | (go_at_call_of 60 (Value.int IntKind.u8 107);refine(Zl.out _).mono ?_)
      | (go_at_call_of 60 (Value.int IntKind.u8 110);refine(Zm.out _).mono ?_)
      | (go_at_call_of 60 (Value.int IntKind.u8 97);refine(Yz.out _).mono ?_)
      | (go_at_call_of 60 (Value.int IntKind.u8 98);refine(YA.out _).mono ?_)
      | (go_at_call_of 60 (Value.int IntKind.u8 99);refine(YB.out _).mono ?_)
      | (go_at_call_of 60 (Value.int IntKind.u8 103);refine(Zn.out _).mono ?_));rintro e w2 ⟨rfl,iE⟩;have qF:Below wA.heap.size wA w2:=Kt.chain (by assumption) iE;have Zo:=bc qF)
     all_goals go_meet
     all_goals refine⟨congrArg Value.bool ?_,by assumption⟩
     all_goals rw [←E4.out]
     all_goals first | (simp [Zj, *];done) | (simp [Zj, *,Bool.or_assoc];done)
   obtain⟨rfl,Ba⟩:=hcut
   have zM:=hR.keep Ba
   have YC:=hoA.keep Ba
   have YD:=Ud.trans (Ba.mono (by omega))
   clear b0 b1 b2 b3 o0 o1 o2 o3 o4 o5 o6 p0 p1 p2 l1 l5 l6 Ba hR hoA Ud hr
   have b0:=zM.1.2 0 _ rfl
   have b1:=zM.1.2 1 _ rfl
   have b2:=zM.1.2 2 _ rfl
   have b3:=zM.1.2 3 _ rfl
   have o0:=zM.2.1.2 0 _ rfl
   have o1:=zM.2.1.2 1 _ rfl
   have o2:=zM.2.1.2 2 _ rfl
   have o3:=zM.2.1.2 3 _ rfl
   have o4:=zM.2.1.2 4 _ rfl
   have o5:=zM.2.1.2 5 _ rfl
   have o6:=zM.2.1.2 6 _ rfl
   have p0:=zM.2.2.2 0 _ rfl
   have p1:=zM.2.2.2 1 _ rfl
   have p2:=zM.2.2.2 2 _ rfl
   have l1:=zM.1.1
   have l5:=zM.2.1.1
   have l6:=zM.2.2.1
   cases x4
   case true=>
    have hz:scan os aj os.length=(jr os aj j,(j:Int)):=by rw [Ce.out];exact rW dh (by rw [EE.out];simp [Ja])
    have HZ:=κ hz
    clear hz
    go_wp2
    go_ret2
    exact⟨by rw [HZ.out,EE.out];rfl,by rw [HX.out];exact YD⟩
   go_upto_region 13 with fail
   have hr:=Below.refl wc.heap.size wc
   go_cut [177] from 144 to 176 (fun af9 wx=>af9= .bool zT∧Below wc.heap.size wc wx)
   case first=>
    have HGA:Hid (∀w,zY os (some ⟨g,off,none⟩) cap w→Calls Tryz.prog 61 #[.agg #[.int .u32 pc, .int .i64 aj, .int .i64 aN, .slice (some ⟨g,off,none⟩) os.length cap], .int .i64 (j:Int), .int .i64 oa] w fun e w'=>e= .returned (.bool (qy os j oa))∧Below w.heap.size w w'):=fun w h=>qG os (some ⟨g,off,none⟩) cap pc aj aN j oa w h hii
    have HGB:Hid (∀w,zY os (some ⟨g,off,none⟩) cap w→Calls Tryz.prog 61 #[.agg #[.int .u32 pc, .int .i64 aj, .int .i64 aN, .slice (some ⟨g,off,none⟩) os.length cap], .int .i64 (j:Int), .int .i64 ob] w fun e w'=>e= .returned (.bool (qy os j ob))∧Below w.heap.size w w'):=fun w h=>qG os (some ⟨g,off,none⟩) cap pc aj aN j ob w h hii
    have HGC:Hid (∀w,zY os (some ⟨g,off,none⟩) cap w→Calls Tryz.prog 61 #[.agg #[.int .u32 pc, .int .i64 aj, .int .i64 aN, .slice (some ⟨g,off,none⟩) os.length cap], .int .i64 (j:Int), .int .i64 oc] w fun e w'=>e= .returned (.bool (qy os j oc))∧Below w.heap.size w w'):=fun w h=>qG os (some ⟨g,off,none⟩) cap pc aj aN j oc w h hii
    generalize qy os j oa=gA at E10 HGA
    generalize qy os j ob=gB at E10 HGB
    generalize qy os j oc=gC at E10 HGC
    cases la<;>cases lb<;>cases lc
    all_goals
     go_wp2_with (first
        | (go_at_call_of 60 (Value.int IntKind.u8 97);refine(Yz.out _).mono ?_;rintro e w2 ⟨rfl,iE⟩;have qF:Below wc.heap.size wc w2:=Kt.chain (by assumption) iE;have Zo:=bc qF;have ho2:=YC.keep qF)
        | (go_at_call_of 60 (Value.int IntKind.u8 98);refine(YA.out _).mono ?_;rintro e w2 ⟨rfl,iE⟩;have qF:Below wc.heap.size wc w2:=Kt.chain (by assumption) iE;have Zo:=bc qF;have ho2:=YC.keep qF)
        | (go_at_call_of 60 (Value.int IntKind.u8 99);refine(YB.out _).mono ?_;rintro e w2 ⟨rfl,iE⟩;have qF:Below wc.heap.size wc w2:=Kt.chain (by assumption) iE;have Zo:=bc qF;have ho2:=YC.keep qF)
        | (go_at_call_of 61 (Value.int IntKind.i64 oa);refine(HGA.out _ (by assumption)).mono ?_;rintro e w2 ⟨rfl,iE⟩;have qF:Below wc.heap.size wc w2:=Kt.chain (by assumption) iE;have Zo:=bc qF;have ho2:=YC.keep qF)
        | (go_at_call_of 61 (Value.int IntKind.i64 ob);refine(HGB.out _ (by assumption)).mono ?_;rintro e w2 ⟨rfl,iE⟩;have qF:Below wc.heap.size wc w2:=Kt.chain (by assumption) iE;have Zo:=bc qF;have ho2:=YC.keep qF)
        | (go_at_call_of 61 (Value.int IntKind.i64 oc);refine(HGC.out _ (by assumption)).mono ?_;rintro e w2 ⟨rfl,iE⟩;have qF:Below wc.heap.size wc w2:=Kt.chain (by assumption) iE;have Zo:=bc qF;have ho2:=YC.keep qF))
     all_goals go_meet
     all_goals refine⟨congrArg Value.bool ?_,by assumption⟩
     all_goals rw [←E10.out]
     all_goals simp [BZ, *]
   obtain⟨rfl,Ba⟩:=hcut
   have zW:=zM.keep Ba
   have YE:=YD.trans (Ba.mono (by omega))
   clear b0 b1 b2 b3 o0 o1 o2 o3 o4 o5 o6 p0 p1 p2 l1 l5 l6 zM YC YD hr Ba
   have b0:=zW.1.2 0 _ rfl
   have b1:=zW.1.2 1 _ rfl
   have b2:=zW.1.2 2 _ rfl
   have b3:=zW.1.2 3 _ rfl
   have o0:=zW.2.1.2 0 _ rfl
   have o1:=zW.2.1.2 1 _ rfl
   have o2:=zW.2.1.2 2 _ rfl
   have o3:=zW.2.1.2 3 _ rfl
   have o4:=zW.2.1.2 4 _ rfl
   have o5:=zW.2.1.2 5 _ rfl
   have o6:=zW.2.1.2 6 _ rfl
   have p0:=zW.2.2.2 0 _ rfl
   have p1:=zW.2.2.2 1 _ rfl
   have p2:=zW.2.2.2 2 _ rfl
   have l1:=zW.1.1
   have l5:=zW.2.1.1
   have l6:=zW.2.2.1
   cases zT
   case true=>
    have hz:scan os aj os.length=(jr os aj j,(j:Int)):=by rw [Ce.out];exact rW dh (by rw [EE.out];simp [Ja])
    have HZ:=κ hz
    clear hz
    go_wp2
    go_ret2
    exact⟨by rw [HZ.out,EE.out];rfl,by rw [HX.out];exact YE⟩
   go_upto_region 15 with fail
   go_cut [189] from 179 to 188 (fun aga wx=>aga= .bool Hl∧wc=wx)
   case first=>
    cases lf
    all_goals
     go_wp2_with (go_at_call 62;refine(Uc.out _).mono ?_;rintro e w2 ⟨rfl,rfl⟩)
     all_goals go_meet
     all_goals refine⟨congrArg Value.bool ?_,rfl⟩
     all_goals rw [←E12.out]
     all_goals simp [*]
   obtain⟨rfl,rfl⟩:=hcut
   cases Hl
   case true=>
    have hz:scan os aj os.length=(jr os aj j,(j:Int)):=by rw [Ce.out];exact rW dh (by rw [EE.out];simp [Ja])
    have HZ:=κ hz
    clear hz
    go_wp2
    go_ret2
    exact⟨by rw [HZ.out,EE.out];rfl,by rw [HX.out];exact YE⟩
   go_wp2
   go_roundg (os.length-(j+1))
   case measure=>
    have:=HK.out
    omega
   case rel=>exact⟨j+1,rfl,by omega,by simp,by rw [←H8 dh (by rw [EE.out];rfl)];exact Ce,YE,zW.1⟩
  ·obtain rfl:j=os.length:=by omega
   have hx0:=hx.2 0 _ rfl
   have hx1:=hx.2 1 _ rfl
   have hx2:=hx.2 2 _ rfl
   have hx3:=hx.2 3 _ rfl
   have hxl:=hx.1
   have Jp:scan os aj os.length=if jF os then(0,0) else(7,(os.length:Int)):=by rw [Ce.out,Nat.sub_self];rfl
   have HS:=κ Jp
   clear Jp Ce
   rcases Nat.eq_zero_or_pos os.length with h0 | h0
   ·have hl:jF os=false:=by
     have:os= []:=List.eq_nil_of_length_eq_zero h0
     subst this
     rfl
    have hz:scan os aj os.length=(7,(os.length:Int)):=by rw [HS.out,hl];rfl
    have HZ:=κ hz
    have h0':((os.length:Int)==0)=true:=by rw [beq_iff_eq];omega
    clear hz hl h0 HS Zk
    go_wp2
    go_quiet (fail)
    go_wp2
    go_ret2
    exact⟨by rw [HZ.out];rfl,by rw [HX.out];exact below_drewN hb _⟩
   ·obtain⟨g,off,rfl,hg,hc⟩:=Zk.2.2 h0
    obtain⟨o,ho⟩:∃o,os[os.length-1]?=some o:=⟨os[os.length-1],List.getElem?_eq_getElem (by omega)⟩
    have hl:jF os=rF o.k:=by unfold jF;rw [ho]
    have c0:wr.cell? ⟨g,off+(os.length-1)*7,none⟩=some (.int .i64 o.k):=hc _ o ho 0 _ rfl
    have h0':((os.length:Int)==0)=false:=by rw [beq_eq_false_iff_ne];omega
    have Uc:=κ (xI o.k)
    rw [hl] at HS
    rw [←Lh] at Uc
    clear hl hc ho Zk
    generalize rF o.k=fi at HS Uc
    cases fi
    ·go_wp2_with (go_at_call 62;refine(Uc.out _).mono ?_;rintro e w2 ⟨rfl,rfl⟩)
     go_quiet (fail)
     go_wp2
     go_ret2
     exact⟨by rw [HS.out];rfl,by rw [HX.out];exact below_drewN hb _⟩
    ·go_wp2_with (go_at_call 62;refine(Uc.out _).mono ?_;rintro e w2 ⟨rfl,rfl⟩)
     go_ret2
     exact⟨by rw [HS.out];rfl,by rw [HX.out];exact hb⟩
end Go.Proofs.YtcjcmnnhmajocabGreat.Ic
