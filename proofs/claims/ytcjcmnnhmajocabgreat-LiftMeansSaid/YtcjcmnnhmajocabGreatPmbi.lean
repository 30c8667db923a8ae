import Derived.Test.YtcjcmnnhmajocabGreatPmau
import Derived.Test.YtcjcmnnhmajocabGreatPmaz
import Derived.Test.YtcjcmnnhmajocabGreatPmbh
set_option linter.unusedVariables false
set_option linter.unusedSimpArgs false
set_option maxRecDepth 100000
set_option maxHeartbeats 16000000
namespace Go.Proofs.YtcjcmnnhmajocabGreat.Gu
open Go.RowKit Kt
def lets (sh:Int):List UInt8:=match sh with
 | 2=> [98]
 | 3=> [115]
 | 4=> [119]
 | 5=> [101]
 | 6=> [112]
 | 7=> [99]
 | 8=> [112,115]
 | 9=> [100,119]
 | 10=> [100,115]
 | 11=> [119]
 | 12=> [101,115]
 | _=> []
def kin (fi:Int):List UInt8:=match fi with
 | 1=> [68]
 | 2=> [83]
 | 3=> [79]
 | _=> []
def rowok (b:Int):Bool:=
 if fndFrom b oV 0<0 then decide (shSize (rowOf b).sh=0) else
 match oV[(fndFrom b oV 0).toNat]? with
 | some f=>decide ((rowOf b).op=fndFrom b oV 0)&&decide (1≤(rowOf b).sh)&&decide (f.Y9.data.toList=lets (rowOf b).sh)&&decide (f.inn.data.toList=kin (rowOf b).fi)&&decide ((rowOf b).fi=0∨(rowOf b).lo=b-f.first)
 | none=>false
theorem Iz:∀n:Fin 256,rowok (n.val:Int)=true:=by decide+kernel
theorem XG {x:ByteArray} {l:List UInt8} (h:x.data.toList=l):x=⟨l.toArray⟩:=by
 cases x
 subst h
 simp
theorem Td {fi:Int} (h0:0≤fi) (h3:fi≤3) {x:ByteArray} (h:x.data.toList=kin fi) (b lo:Int) (hl:fi=0∨lo=b):
  (x=Ei∨x=lH∨x=lJ∨x=lK)∧(if x=lH then b else 0)=(if fi=1 then lo else 0)∧(if x=lJ then b else 0)=(if fi=2 then lo else 0)∧(if x=lK then b else 0)=(if fi=3 then lo else 0):=by
 have hx:=XG h
 rcases(show fi=0∨fi=1∨fi=2∨fi=3 by omega) with rfl | rfl | rfl | rfl
 ·subst hx
  refine⟨.inl rfl, ?_, ?_, ?_⟩ <;>simp [kin,lH,lJ,lK]
 all_goals obtain rfl:lo=b:=by omega
 ·subst hx
  refine⟨.inr (.inl rfl), ?_, ?_, ?_⟩ <;>simp [kin,lH,lJ,lK]
 ·subst hx
  refine⟨.inr (.inr (.inl rfl)), ?_, ?_, ?_⟩ <;>simp [kin,lH,lJ,lK]
 ·subst hx
  refine⟨.inr (.inr (.inr rfl)), ?_, ?_, ?_⟩ <;>simp [kin,lH,lJ,lK]
theorem xW (sh:Int) (h1:1≤sh) (h2:sh≤12):1+wsz (lets sh)=shSize sh:=by
 rcases(show sh=1∨sh=2∨sh=3∨sh=4∨sh=5∨sh=6∨sh=7∨sh=8∨sh=9∨sh=10∨sh=11∨sh=12 by omega) with rfl | rfl | rfl | rfl | rfl | rfl | rfl | rfl | rfl | rfl | rfl | rfl
 all_goals decide
theorem XH (sh op lo fi d s f:Int) (h1:1≤sh) (h2:sh≤12) (a:Nat→Int):
  (if(dI a (lets sh) ⟨d,s,f,0,1⟩).d≤7∧(dI a (lets sh) ⟨d,s,f,0,1⟩).s≤7 then
   Value.tuple #[fE op (dI a (lets sh) ⟨d,s,f,0,1⟩).d (dI a (lets sh) ⟨d,s,f,0,1⟩).s (dI a (lets sh) ⟨d,s,f,0,1⟩).f (dI a (lets sh) ⟨d,s,f,0,1⟩).m, .int .i64 (1+wsz (lets sh)), .int .i64 0] else qU 3)=
  fin ⟨op,sh,lo,fi⟩ d s f (fun j=>a (j+1)):=by
 rw [xW sh h1 h2]
 have h8:∀x:Int,x≤7↔x<8:=fun x=>by omega
 unfold fin
 rcases(show sh=1∨sh=2∨sh=3∨sh=4∨sh=5∨sh=6∨sh=7∨sh=8∨sh=9∨sh=10∨sh=11∨sh=12 by omega) with rfl | rfl | rfl | rfl | rfl | rfl | rfl | rfl | rfl | rfl | rfl | rfl
 all_goals simp [dI,rl,lets,oD,oS,oF,oM,h8]
theorem IB (r:Rw) (d s f:Int) (a:Nat→Int):∃o' d' s' f' m n z:Int,fin r d s f a= .tuple #[fE o' d' s' f' m, .int .i64 n, .int .i64 z]:=by
 unfold fin
 by_cases h:oD r.sh d a<8∧oS r.sh s a<8
 ·rw [if_pos h];exact⟨_,_,_,_,_,_,_,rfl⟩
 ·rw [if_neg h];exact⟨_,_,_,_,_,_,_,rfl⟩
theorem qW (us:List Int):∃o d s f m n z:Int,gq us= .tuple #[fE o d s f m, .int .i64 n, .int .i64 z]:=by
 unfold gq
 by_cases h0:us.length=0
 ·rw [if_pos h0];exact⟨_,_,_,_,_,_,_,rfl⟩
 rw [if_neg h0]
 by_cases h1:shSize (rowOf (us.getD 0 0)).sh=0
 ·rw [if_pos h1];exact⟨_,_,_,_,_,_,_,rfl⟩
 rw [if_neg h1]
 by_cases h2:(us.length:Int) <shSize (rowOf (us.getD 0 0)).sh
 ·rw [if_pos h2];exact⟨_,_,_,_,_,_,_,rfl⟩
 rw [if_neg h2]
 exact IB _ _ _ _ _
theorem Tf (x:Int):fndFrom x oV 0<0↔fndFrom x oV 0= -1:=by
 rcases wP x oV 0 with h | ⟨j,f,_,h2,_,_⟩
 ·omega
 ·omega
theorem Nz (us:List Int) (ao:Option Addr) (cap:Nat) (w:World) (hs:Bs us ao cap w) (hw:∀j,0≤us.getD j 0∧us.getD j 0<256):
  Calls Tryz.prog 89 #[.slice ao us.length cap] w fun e w'=>e= .returned (gq us)∧Below w.heap.size w w':=by
 obtain⟨l1,m1,k1⟩:=hs
 unfold gq
 by_cases h0:us.length=0
 ·rw [if_pos h0,h0];exact Iy ao cap w
 ·obtain⟨b,off,rfl,hb,hc⟩:=k1 (by omega)
  rw [if_neg h0]
  have XI:0<us.length:=by omega
  have uH:=hw 0
  have FW:rowok (us.getD 0 0)=true:=by
   obtain⟨n,hn⟩:=Int.eq_ofNat_of_zero_le uH.1
   rw [hn]
   exact Iz ⟨n,by omega⟩
  have hr:=qR (us.getD 0 0) uH.1 uH.2
  have hz:=wQ (us.getD 0 0) uH.1 uH.2
  unfold rowok at FW
  by_cases hf:fndFrom (us.getD 0 0) oV 0<0
  ·rw [if_pos hf] at FW
   rw [if_pos (of_decide_eq_true FW)]
   exact Bh us b off us.length cap w hb XI hw hc 2 (.inl ⟨rfl,(Tf _).1 hf⟩)
  ·rw [if_neg hf] at FW
   have BN:0≤fndFrom (us.getD 0 0) oV 0:=by omega
   obtain⟨j,hj⟩:=Int.eq_ofNat_of_zero_le BN
   rw [hj,Int.toNat_natCast] at FW
   split at FW
   ·rename_i f hfj
    simp only [Bool.and_eq_true,decide_eq_true_eq] at FW
    obtain⟨⟨⟨⟨o1,o2⟩,o3⟩,o4⟩,o5⟩:=FW
    obtain⟨f0,fn,fi,s⟩:=f
    dsimp only at o3 o4 o5
    have afs:j<32:=by
     have:=(List.getElem?_eq_some_iff.1 hfj).1
     rwa [uY] at this
    have jS:=xW (rowOf (us.getD 0 0)).sh o2 hr.2.2.2.1
    have hp:1≤shSize (rowOf (us.getD 0 0)).sh:=by
     rw [←jS]
     have:=qp (lets (rowOf (us.getD 0 0)).sh)
     omega
    rw [if_neg (by omega)]
    by_cases h2:(us.length:Int) <shSize (rowOf (us.getD 0 0)).sh
    ·rw [if_pos h2]
     exact Bh us b off us.length cap w hb XI hw hc 1 (.inr ⟨rfl,BN,by rw [hz];exact h2⟩)
    ·rw [if_neg h2]
     have O7:1+wsz s.data.toList≤(us.length:Int):=by rw [o3,jS];omega
     obtain⟨q1,q2,q3,q4⟩:=Td hr.2.2.2.2.2.2.1 hr.2.2.2.2.2.2.2 o4 (us.getD 0 0-f0) _ o5
     have:=S9 us b off us.length cap w rfl XI l1 hb m1 hw hc j f0 fn fi s afs hfj hj q1 O7
     unfold SX at this
     rw [q2,q3,q4,o3,XH _ _ (rowOf (us.getD 0 0)).lo (rowOf (us.getD 0 0)).fi _ _ _ o2 hr.2.2.2.1,←o1] at this
     exact this
   ·exact absurd FW (by simp)
end Go.Proofs.YtcjcmnnhmajocabGreat.Gu
namespace Go.Proofs.YtcjcmnnhmajocabGreat.St
open Go.RowKit Kt Me Fl Gu
def dz (v:Value) (i:Nat):Int:=match v with
 | .tuple #[.agg #[.int _ a, .int _ b, .int _ c, .int _ d, .int _ e], .int _ n, .int _ z]=> [a,b,c,d,e,n,z].getD i 0
 | _=>0
def iy (k x:Int):Value:= .tuple #[fE 0 0 0 0 0, .int .i64 0, .agg #[.int .i64 k, .int .u32 x]]
def jf (M:MM) (pc:Int):Int:=shSize (rowOf ((fB M pc 1).getD 0 0)).sh
def kU (M:MM) (pc:Int):List Int:=fB M pc (jf M pc)
def gG (M:MM) (pc:Int):Value:=match bY M pc 1 with
 | some x=>iy 4 x
 | none=>match bY M pc (jf M pc) with
  | some x=>iy 4 x
  | none=>if dz (gq (kU M pc)) 6=0 then .tuple #[fE (dz (gq (kU M pc)) 0) (dz (gq (kU M pc)) 1) (dz (gq (kU M pc)) 2) (dz (gq (kU M pc)) 3) (dz (gq (kU M pc)) 4), .int .i64 (dz (gq (kU M pc)) 5), .agg #[.int .i64 0, .int .u32 0]] else iy 3 0
structure FR (h:Nat) (W:World):Prop where
 a0:W.cell? ⟨h,0,none⟩=some (.int .i64 0)
 a1:W.cell? ⟨h,1,none⟩=some (.int .i64 0)
 a2:W.cell? ⟨h,2,none⟩=some (.int .i64 0)
 a3:W.cell? ⟨h,3,none⟩=some (.int .i64 0)
 a4:W.cell? ⟨h,4,none⟩=some (.int .u32 0)
 b0:W.cell? ⟨h+1,0,none⟩=some (.int .i64 0)
 b1:W.cell? ⟨h+1,1,none⟩=some (.int .u32 0)
 za:∀i,W.frozen? ⟨h,i,none⟩=false
 zb:∀i,W.frozen? ⟨h+1,i,none⟩=false
 l:h+1<W.heap.size
theorem FR.below {h:Nat} {W W':World} (f:FR h W) (b:Below W.heap.size W W'):FR h W':=
 have l0:h<W.heap.size:=Nat.lt_of_succ_lt f.l
 ⟨(b.cell (p:=⟨h,0,none⟩) l0).trans f.a0,(b.cell (p:=⟨h,1,none⟩) l0).trans f.a1,(b.cell (p:=⟨h,2,none⟩) l0).trans f.a2,(b.cell (p:=⟨h,3,none⟩) l0).trans f.a3,(b.cell (p:=⟨h,4,none⟩) l0).trans f.a4,
  (b.cell (p:=⟨h+1,0,none⟩) f.l).trans f.b0,(b.cell (p:=⟨h+1,1,none⟩) f.l).trans f.b1,fun i=>(b.frozen (p:=⟨h,i,none⟩) l0).trans (f.za i),fun i=>(b.frozen (p:=⟨h+1,i,none⟩) f.l).trans (f.zb i),Nat.lt_of_lt_of_le f.l b.size⟩
structure FQ (h:Nat) (u t:Nat→Value) (W:World):Prop where
 a:∀i,i<5→W.cell? ⟨h,i,none⟩=some (u i)
 b:∀i,i<2→W.cell? ⟨h+1,i,none⟩=some (t i)
 l:h+1<W.heap.size
theorem FQ.qB {h:Nat} {u t:Nat→Value} {W:World} (f:FQ h u t W) (i:Nat) (hi:i<5) (v:Value):FQ h (aF u i v) t (W.setCell ⟨h,i,none⟩ v):=by
 refine⟨fun j hj=> ?_,fun j hj=> ?_,by simpa using f.l⟩
 ·by_cases e:j=i
  ·subst e;rw [World.cell?_setCell_same _ _ _ (f.a j hj)];simp [aF]
  ·rw [World.cell?_setCell_other _ _ _ _ (by intro hx;exact e (congrArg Addr.off hx).symm),f.a j hj];simp [aF,e]
 ·rw [World.cell?_setCell_other _ _ _ _ (by intro hx;exact absurd (congrArg Addr.block hx) (by show h≠h+1;omega))];exact f.b j hj
theorem FQ.rH {h:Nat} {u t:Nat→Value} {W:World} (f:FQ h u t W) (i:Nat) (hi:i<2) (v:Value):FQ h u (aF t i v) (W.setCell ⟨h+1,i,none⟩ v):=by
 refine⟨fun j hj=> ?_,fun j hj=> ?_,by simpa using f.l⟩
 ·rw [World.cell?_setCell_other _ _ _ _ (by intro hx;exact absurd (congrArg Addr.block hx) (by show h+1≠h;omega))];exact f.a j hj
 ·by_cases e:j=i
  ·subst e;rw [World.cell?_setCell_same _ _ _ (f.b j hj)];simp [aF]
  ·rw [World.cell?_setCell_other _ _ _ _ (by intro hx;exact e (congrArg Addr.off hx).symm),f.b j hj];simp [aF,e]
theorem FQ.alloc {h:Nat} {u t:Nat→Value} {W:World} (f:FQ h u t W) (o:Obj):FQ h u t (W.alloc o):=by
 have hb:=(Below.refl W.heap.size W).alloc (Nat.le_refl _) o
 exact⟨fun i hi=>(hb.cell (p:=⟨h,i,none⟩) (Nat.lt_of_succ_lt f.l)).trans (f.a i hi),fun i hi=>(hb.cell (p:=⟨h+1,i,none⟩) f.l).trans (f.b i hi),Nat.lt_of_lt_of_le f.l hb.size⟩
theorem FQ.drew {h:Nat} {u t:Nat→Value} {W:World} (f:FQ h u t W):FQ h u t W.drew:=⟨f.a,f.b,f.l⟩
theorem FR.q {h:Nat} {W:World} (f:FR h W):FQ h (fun i=>if i=4 then .int .u32 0 else .int .i64 0) (fun i=>if i=1 then .int .u32 0 else .int .i64 0) W:=by
 refine⟨fun i hi=> ?_,fun i hi=> ?_,f.l⟩
 ·rcases(show i=0∨i=1∨i=2∨i=3∨i=4 by omega) with rfl | rfl | rfl | rfl | rfl
  ·exact f.a0
  ·exact f.a1
  ·exact f.a2
  ·exact f.a3
  ·exact f.a4
 ·rcases(show i=0∨i=1 by omega) with rfl | rfl
  ·exact f.b0
  ·exact f.b1
theorem FR.put {h:Nat} {W:World} (f:FR h W) (v0 v1 v2 v3 v4 y0 y1:Value):
  ∃u t,FQ h u t (((((((W.setCell ⟨h,0,none⟩ v0).setCell ⟨h,1,none⟩ v1).setCell ⟨h,2,none⟩ v2).setCell ⟨h,3,none⟩ v3).setCell ⟨h,4,none⟩ v4).setCell ⟨h+1,0,none⟩ y0).setCell ⟨h+1,1,none⟩ y1)∧u 0=v0∧u 1=v1∧u 2=v2∧u 3=v3∧u 4=v4∧t 0=y0∧t 1=y1:=
 ⟨_,_,((((((f.q.qB 0 (by omega) v0).qB 1 (by omega) v1).qB 2 (by omega) v2).qB 3 (by omega) v3).qB 4 (by omega) v4).rH 0 (by omega) y0).rH 1 (by omega) y1,by simp [aF],by simp [aF],by simp [aF],by simp [aF],by simp [aF],by simp [aF],by simp [aF]⟩
theorem eH {B h:Nat} {W w:World} (hb:Below B w W) (hB:B≤h) (v0 v1 v2 v3 v4 y0 y1:Value):
  Below B w (((((((W.setCell ⟨h,0,none⟩ v0).setCell ⟨h,1,none⟩ v1).setCell ⟨h,2,none⟩ v2).setCell ⟨h,3,none⟩ v3).setCell ⟨h,4,none⟩ v4).setCell ⟨h+1,0,none⟩ y0).setCell ⟨h+1,1,none⟩ y1):=
 ((((((hb.setCell hB _).setCell hB _).setCell hB _).setCell hB _).setCell hB _).setCell (Nat.le_succ_of_le hB) _).setCell (Nat.le_succ_of_le hB) _
def Z5:Array Value:= #[.int .i64 0, .int .i64 0, .int .i64 0, .int .i64 0, .int .u32 0]
def Z2:Array Value:= #[.int .i64 0, .int .u32 0]
theorem FR.new (w:World):FR w.heap.size ((w.alloc (.cells Z5 74)).alloc (.cells Z2 55)):=by
 have e:(w.alloc (.cells Z5 74)).heap.size=w.heap.size+1:=by simp
 have hb:Below (w.heap.size+1) (w.alloc (.cells Z5 74)) ((w.alloc (.cells Z5 74)).alloc (.cells Z2 55)):=(Below.refl _ _).alloc (by rw [e];exact Nat.le_refl _) _
 have A:∀i,((w.alloc (.cells Z5 74)).alloc (.cells Z2 55)).cell? ⟨w.heap.size,i,none⟩=Z5[i]?:=fun i=>(hb.cell (p:=⟨w.heap.size,i,none⟩) (Nat.lt_succ_self _)).trans (ay w Z5 _ i)
 have B:∀i,((w.alloc (.cells Z5 74)).alloc (.cells Z2 55)).cell? ⟨w.heap.size+1,i,none⟩=Z2[i]?:=fun i=>by
  have:=ay (w.alloc (.cells Z5 74)) Z2 55 i
  rw [e] at this;exact this
 refine⟨A 0,A 1,A 2,A 3,A 4,B 0,B 1,fun i=> ?_,fun i=> ?_,by simp⟩
 ·refine(hb.frozen (p:=⟨w.heap.size,i,none⟩) (Nat.lt_succ_self _)).trans ?_
  unfold World.frozen?
  rw [heap_alloc_new];simp
 ·rw [←e]
  unfold World.frozen?
  rw [heap_alloc_new];simp
theorem Below.Ti (w:World) (o o':Obj):Below w.heap.size w ((w.alloc o).alloc o'):=((Below.refl _ _).alloc (Nat.le_refl _) _).alloc (by simp) _
theorem zB (p:Nat) (M:MM) (pc x:Int) (w:World) (h:HC p M w) (hM:bQ M) (c0:0≤pc) (c1:pc<4294967296) (hs:bY M pc 1=some x):
  Calls Tryz.prog 238 #[.pointer (some ⟨p,0,none⟩), .int .u32 pc] w fun e w'=>e= .returned (gG M pc)∧Below w.heap.size w w':=by
 have eV:gG M pc=iy 4 x:=by unfold gG;rw [hs]
 rw [eV]
 have CF:=κ (fun w h=>gJ p M pc 1 w h hM c0 c1)
 rw [hs,show stpV 4 (some x)= .agg #[.int .i64 4, .int .u32 x] from rfl] at CF
 have F0:=FR.new w
 have B0:=Below.Ti w (.cells Z5 74) (.cells Z2 55)
 have HH:=κ (h.upto (ah.ak (S:=fun _=>False) B0) id)
 unfold Z5 Z2 at F0 B0 HH
 unfold iy fE
 clear eV hs h hM
 go_enter Tryz.func238,Tryz.ntmps238
 go_wp2_with fail
 generalize(w.alloc (.cells #[.int .i64 0, .int .i64 0, .int .i64 0, .int .i64 0, .int .u32 0] 74)).alloc (.cells #[.int .i64 0, .int .u32 0] 55)=WA at F0 B0 HH⊢
 have HF:=κ F0
 have HB:=κ B0
 clear F0 B0
 go_wp2_with (go_at_call 82;(with_reducible refine(CF.out _ HH.out).mono ?_);rintro e w1 ⟨v,rfl,o1,b1⟩;have HR:=κ (HF.out.below b1);obtain⟨mJ,lM,lN,lQ,mM,mO,mP,iC,jB,rl⟩:=HR.out;have B1:=κ (HB.out.trans (b1.mono HB.out.size));have oK:w.heap.size<w1.heap.size:=Nat.lt_of_succ_lt rl;clear o1 b1)
 go_region
 obtain⟨u,t,fq,u0,u1,u2,u3,u4,t0,t1⟩:=HR.out.put (.int .i64 0) (.int .i64 0) (.int .i64 0) (.int .i64 0) (.int .u32 0) (.int .i64 4) (.int .u32 x)
 have bp:=eH B1.out (Nat.le_refl _) (.int .i64 0) (.int .i64 0) (.int .i64 0) (.int .i64 0) (.int .u32 0) (.int .i64 4) (.int .u32 x)
 have bC:=(fq.alloc (.cells #[.int .i64 4, .int .u32 x] 55)).drew
 have pR:=(bp.alloc (Nat.le_trans (Nat.le_of_lt (Nat.lt_of_succ_lt fq.l)) (Nat.le_refl _)) (.cells #[.int .i64 4, .int .u32 x] 55)).drew
 clear fq bp mJ lM lN lQ mM mO mP iC jB
 generalize(World.alloc _ _).drew=WZ at bC pR⊢
 have f0:=bC.a 0 (by omega)
 have f1:=bC.a 1 (by omega)
 have f2:=bC.a 2 (by omega)
 have f3:=bC.a 3 (by omega)
 have f4:=bC.a 4 (by omega)
 have g0:=bC.b 0 (by omega)
 have g1:=bC.b 1 (by omega)
 rw [u0] at f0
 rw [u1] at f1
 rw [u2] at f2
 rw [u3] at f3
 rw [u4] at f4
 rw [t0] at g0
 rw [t1] at g1
 go_wp2_with fail
 refine bodyPost_ret (v:= .tuple #[.agg #[.int .i64 0, .int .i64 0, .int .i64 0, .int .i64 0, .int .u32 0], .int .i64 0, .agg #[.int .i64 4, .int .u32 x]]) (by simp [results,Tryz.results238,go_sem,f0,f1,f2,f3,f4,g0,g1]) rfl ⟨rfl,pR⟩
theorem FR.off {h:Nat} {W:World} (f:FR h W) {q:Addr} (h1:q.block≠h) (h2:q.block≠h+1) (v:Value):FR h (W.setCell q v):=by
 have A:∀i,(W.setCell q v).cell? ⟨h,i,none⟩=W.cell? ⟨h,i,none⟩:=fun i=>World.cell?_setCell_other _ _ _ _ (fun hx=>h1 (congrArg Addr.block hx))
 have B:∀i,(W.setCell q v).cell? ⟨h+1,i,none⟩=W.cell? ⟨h+1,i,none⟩:=fun i=>World.cell?_setCell_other _ _ _ _ (fun hx=>h2 (congrArg Addr.block hx))
 exact⟨(A 0).trans f.a0,(A 1).trans f.a1,(A 2).trans f.a2,(A 3).trans f.a3,(A 4).trans f.a4,(B 0).trans f.b0,(B 1).trans f.b1,fun i=>by simpa using f.za i,fun i=>by simpa using f.zb i,by simpa using f.l⟩
theorem gW (w:World) (cs:Array Value) (t:TypeId) (i:Nat):(w.alloc (.cells cs t)).frozen? ⟨w.heap.size,i,none⟩=false:=by
 unfold World.frozen?
 rw [heap_alloc_new];simp
theorem nN {M:MM} {a n:Int} (h:bY M a n=none) (h0:0≤n) (h8:n≤8):(fB M a n).length=n.toNat:=by
 unfold bY at h
 unfold fB
 rw [if_pos ⟨h0,h8⟩] at h⊢
 rw [h]
 simp [tZ]
theorem iO {M:MM} (hM:bQ M) (a n:Int):∀j,0≤(fB M a n).getD j 0∧(fB M a n).getD j 0<256:=by
 intro j
 unfold fB
 split
 ·split
  ·rw [List.getD_eq_getElem?_getD]
   by_cases hj:j<n.toNat
   ·have:=hM.1 (a.toNat+j)
    simp [tZ,hj];exact this
   ·simp [tZ,hj]
  ·simp
 ·simp
theorem lS (M:MM) (hM:bQ M) (pc:Int):0≤jf M pc∧jf M pc≤8:=by
 have hb:=iO hM pc 1 0
 obtain⟨_,_,h3,h4,_⟩:=qR _ hb.1 hb.2
 unfold jf
 generalize(rowOf ((fB M pc 1).getD 0 0)).sh=q at h3 h4⊢
 rcases(show q=0∨q=1∨q=2∨q=3∨q=4∨q=5∨q=6∨q=7∨q=8∨q=9∨q=10∨q=11∨q=12 by omega) with rfl | rfl | rfl | rfl | rfl | rfl | rfl | rfl | rfl | rfl | rfl | rfl | rfl<;>decide
theorem zC (p:Nat) (M:MM) (pc x:Int) (w:World) (h:HC p M w) (hM:bQ M) (c0:0≤pc) (c1:pc<4294967296) (hs:bY M pc 1=none) (jW:bY M pc (jf M pc)=some x):
  Calls Tryz.prog 238 #[.pointer (some ⟨p,0,none⟩), .int .u32 pc] w fun e w'=>e= .returned (gG M pc)∧Below w.heap.size w w':=by
 have eV:gG M pc=iy 4 x:=by unfold gG;rw [hs];dsimp only;rw [jW]
 rw [eV]
 have CF:=κ (fun w h=>gJ p M pc 1 w h hM c0 c1)
 have uy:=κ (fun w h=>gJ p M pc (jf M pc) w h hM c0 c1)
 rw [hs,show stpV 4 none= .agg #[.int .i64 0, .int .u32 0] from rfl] at CF
 rw [jW,show stpV 4 (some x)= .agg #[.int .i64 4, .int .u32 x] from rfl] at uy
 have HL:=κ (show(fB M pc 1).length=1 from nN hs (by omega) (by omega))
 have hb:=iO hM pc 1 0
 have CZ:=κ (fun w=>rZ ((fB M pc 1).getD 0 0) hb.1 hb.2 w)
 have hz:=lS M hM pc
 rw [show shSize (rowOf ((fB M pc 1).getD 0 0)).sh=jf M pc from rfl] at CZ
 obtain⟨y,hy⟩:∃y,(fB M pc 1).getD 0 0=y:=⟨_,rfl⟩
 rw [hy] at CZ hb
 have HY:=κ hy
 clear hy
 generalize jf M pc=z at uy CZ hz
 have F0:=FR.new w
 have B0:=Below.Ti w (.cells Z5 74) (.cells Z2 55)
 have HH:=κ (h.upto (ah.ak (S:=fun _=>False) B0) id)
 unfold Z5 Z2 at F0 B0 HH
 unfold iy fE
 clear eV hs jW h hM
 go_enter Tryz.func238,Tryz.ntmps238
 go_wp2_with fail
 generalize(w.alloc (.cells #[.int .i64 0, .int .i64 0, .int .i64 0, .int .i64 0, .int .u32 0] 74)).alloc (.cells #[.int .i64 0, .int .u32 0] 55)=WA at F0 B0 HH⊢
 have HF:=κ F0
 have HB:=κ B0
 clear F0 B0
 go_wp2_with (go_at_call 82;(with_reducible refine(CF.out _ HH.out).mono ?_);rintro e w1 ⟨v,rfl,o1,b1⟩;have HR:=κ (HF.out.below b1);have oK:w.heap.size<w1.heap.size:=Nat.lt_of_succ_lt HR.out.l;obtain⟨ao,cap,rfl,bs,_⟩:=o1.form;obtain⟨bl,bm,bk⟩:=bs;rw [HL.out] at bl bk⊢;obtain⟨bb,NC,rfl,bbl,bc⟩:=bk (by omega);have ND:=bc 0 (by omega);rw [Nat.add_zero,HY.out] at ND;have rQ:=κ (HH.out.upto (ah.ak (S:=fun _=>False) b1) id);have B1:=κ (HB.out.trans (b1.mono HB.out.size));clear o1 b1 bk bc)
 go_at_call 83
 (with_reducible refine(CZ.out _).mono ?_)
 rintro e w2 ⟨rfl,b2⟩
 have hw:Below w1.heap.size w1 (w1.alloc (.cells #[.int .i64 0, .int .u32 0] 55)):=(Below.refl _ _).alloc (Nat.le_refl _) _
 have sH:w1.heap.size<(w1.alloc (.cells #[.int .i64 0, .int .u32 0] 55)).heap.size:=by simp
 have Bj:=κ ((HR.out.below hw).below b2)
 have wZ:=κ ((rQ.out.upto (ah.ak (S:=fun _=>False) hw) id).upto (ah.ak (S:=fun _=>False) b2) id)
 have B2:=κ ((B1.out.trans (hw.mono (Nat.le_of_lt oK))).trans (b2.mono (Nat.le_trans (Nat.le_of_lt oK) hw.size)))
 have s0:=(b2.cell (p:=⟨w1.heap.size,0,none⟩) sH).trans (ay w1 _ _ 0)
 have s1:=(b2.cell (p:=⟨w1.heap.size,1,none⟩) sH).trans (ay w1 _ _ 1)
 have zs:=fun i=>(b2.frozen (p:=⟨w1.heap.size,i,none⟩) sH).trans (gW w1 _ _ i)
 have ls:=Nat.lt_of_lt_of_le sH b2.size
 have sb:w.heap.size<w2.heap.size:=Nat.lt_of_succ_lt Bj.out.l
 clear b2 hw
 go_wp2_with (go_at_call 82;(with_reducible refine(uy.out _ wZ.out).mono ?_);rintro e w3 ⟨v2,rfl,o3,b3⟩;have Bl:=κ (Bj.out.below b3);have B3:=κ (B2.out.trans (b3.mono (Nat.le_of_lt sb)));have r0:=(b3.cell (p:=⟨w1.heap.size,0,none⟩) ls).trans s0;have r1:=(b3.cell (p:=⟨w1.heap.size,1,none⟩) ls).trans s1;have zr:=fun i=>(b3.frozen (p:=⟨w1.heap.size,i,none⟩) ls).trans (zs i);have lr:=Nat.lt_of_lt_of_le ls b3.size;obtain⟨mJ,lM,lN,lQ,mM,mO,mP,iC,jB,rl⟩:=Bl.out;have NG:=Nat.lt_of_succ_lt rl;have O3:=κ o3;clear b3 o3)
 have n1:w1.heap.size≠w.heap.size:=Nat.ne_of_gt oK
 have n2:w1.heap.size≠w.heap.size+1:=Nat.ne_of_gt HR.out.l
 have wR:=κ ((Bl.out.off (q:=⟨w1.heap.size,0,none⟩) n1 n2 (.int .i64 4)).off (q:=⟨w1.heap.size,1,none⟩) n1 n2 (.int .u32 x))
 have q0:((w3.setCell ⟨w1.heap.size,0,none⟩ (.int .i64 4)).setCell ⟨w1.heap.size,1,none⟩ (.int .u32 x)).cell? ⟨w1.heap.size,0,none⟩=some (.int .i64 4):=(off (by omega)).trans (World.cell?_setCell_same _ _ _ r0)
 have q1:((w3.setCell ⟨w1.heap.size,0,none⟩ (.int .i64 4)).setCell ⟨w1.heap.size,1,none⟩ (.int .u32 x)).cell? ⟨w1.heap.size,1,none⟩=some (.int .u32 x):=World.cell?_setCell_same _ _ _ ((off (by omega)).trans r1)
 have B4:=κ ((B3.out.setCell (p:=⟨w1.heap.size,0,none⟩) (Nat.le_of_lt oK) (.int .i64 4)).setCell (p:=⟨w1.heap.size,1,none⟩) (Nat.le_of_lt oK) (.int .u32 x))
 clear mJ lM lN lQ mM mO mP iC jB rl NG r0 r1 zr lr s0 s1 zs ls
 generalize(w3.setCell ⟨w1.heap.size,0,none⟩ (.int .i64 4)).setCell ⟨w1.heap.size,1,none⟩ (.int .u32 x)=W4 at wR q0 q1 B4⊢
 obtain⟨mJ,lM,lN,lQ,mM,mO,mP,iC,jB,rl⟩:=wR.out
 go_region
 obtain⟨u,t,fq,u0,u1,u2,u3,u4,t0,t1⟩:=wR.out.put (.int .i64 0) (.int .i64 0) (.int .i64 0) (.int .i64 0) (.int .u32 0) (.int .i64 4) (.int .u32 x)
 have pR:=(eH B4.out (Nat.le_refl _) (.int .i64 0) (.int .i64 0) (.int .i64 0) (.int .i64 0) (.int .u32 0) (.int .i64 4) (.int .u32 x)).drew
 have bC:=fq.drew
 clear fq mJ lM lN lQ mM mO mP iC jB
 generalize World.drew _=WZ at bC pR⊢
 have f0:=bC.a 0 (by omega)
 have f1:=bC.a 1 (by omega)
 have f2:=bC.a 2 (by omega)
 have f3:=bC.a 3 (by omega)
 have f4:=bC.a 4 (by omega)
 have g0:=bC.b 0 (by omega)
 have g1:=bC.b 1 (by omega)
 rw [u0] at f0
 rw [u1] at f1
 rw [u2] at f2
 rw [u3] at f3
 rw [u4] at f4
 rw [t0] at g0
 rw [t1] at g1
 go_wp2_with fail
 refine bodyPost_ret (v:= .tuple #[.agg #[.int .i64 0, .int .i64 0, .int .i64 0, .int .i64 0, .int .u32 0], .int .i64 0, .agg #[.int .i64 4, .int .u32 x]]) (by simp [results,Tryz.results238,go_sem,f0,f1,f2,f3,f4,g0,g1]) rfl ⟨rfl,pR⟩
theorem zD (p:Nat) (M:MM) (pc:Int) (w:World) (h:HC p M w) (hM:bQ M) (c0:0≤pc) (c1:pc<4294967296) (hs:bY M pc 1=none) (jW:bY M pc (jf M pc)=none):
  Calls Tryz.prog 238 #[.pointer (some ⟨p,0,none⟩), .int .u32 pc] w fun e w'=>e= .returned (gG M pc)∧Below w.heap.size w w':=by
 obtain⟨o,d,s,g,m,n,zz,hd⟩:=qW (kU M pc)
 have eV:gG M pc=if zz=0 then .tuple #[fE o d s g m, .int .i64 n, .agg #[.int .i64 0, .int .u32 0]] else iy 3 0:=by
  unfold gG;rw [hs];dsimp only;rw [jW];dsimp only;rw [hd];rfl
 rw [eV]
 have hu:=iO hM pc (jf M pc)
 unfold kU at hd
 have CF:=κ (fun w h=>gJ p M pc 1 w h hM c0 c1)
 have uy:=κ (fun w h=>gJ p M pc (jf M pc) w h hM c0 c1)
 rw [hs,show stpV 4 none= .agg #[.int .i64 0, .int .u32 0] from rfl] at CF
 rw [jW,show stpV 4 none= .agg #[.int .i64 0, .int .u32 0] from rfl] at uy
 have HL:=κ (show(fB M pc 1).length=1 from nN hs (by omega) (by omega))
 have hb:=iO hM pc 1 0
 have CZ:=κ (fun w=>rZ ((fB M pc 1).getD 0 0) hb.1 hb.2 w)
 have hz:=lS M hM pc
 rw [show shSize (rowOf ((fB M pc 1).getD 0 0)).sh=jf M pc from rfl] at CZ
 obtain⟨y,hy⟩:∃y,(fB M pc 1).getD 0 0=y:=⟨_,rfl⟩
 rw [hy] at CZ hb
 have HY:=κ hy
 clear hy
 generalize jf M pc=z at uy CZ hz hd hu
 generalize fB M pc z=us at uy hd hu
 have CD:=κ (fun ao cap w h=>Bf us ao cap w h hu)
 rw [hd] at CD
 clear hd hu
 have F0:=FR.new w
 have B0:=Below.Ti w (.cells Z5 74) (.cells Z2 55)
 have HH:=κ (h.upto (ah.ak (S:=fun _=>False) B0) id)
 unfold Z5 Z2 at F0 B0 HH
 unfold iy fE
 unfold fE at CD
 generalize hV:(if zz=0 then _ else _:Value)=V
 have HV:=κ hV
 clear hV
 clear eV hs jW h hM
 go_enter Tryz.func238,Tryz.ntmps238
 go_wp2_with fail
 generalize(w.alloc (.cells #[.int .i64 0, .int .i64 0, .int .i64 0, .int .i64 0, .int .u32 0] 74)).alloc (.cells #[.int .i64 0, .int .u32 0] 55)=WA at F0 B0 HH⊢
 have HF:=κ F0
 have HB:=κ B0
 clear F0 B0
 go_wp2_with (go_at_call 82;(with_reducible refine(CF.out _ HH.out).mono ?_);rintro e w1 ⟨v,rfl,o1,b1⟩;have HR:=κ (HF.out.below b1);have oK:w.heap.size<w1.heap.size:=Nat.lt_of_succ_lt HR.out.l;obtain⟨ao,cap,rfl,bs,_⟩:=o1.form;obtain⟨bl,bm,bk⟩:=bs;rw [HL.out] at bl bk⊢;obtain⟨bb,NC,rfl,bbl,bc⟩:=bk (by omega);have ND:=bc 0 (by omega);rw [Nat.add_zero,HY.out] at ND;have rQ:=κ (HH.out.upto (ah.ak (S:=fun _=>False) b1) id);have B1:=κ (HB.out.trans (b1.mono HB.out.size));clear o1 b1 bk bc)
 go_at_call 83
 (with_reducible refine(CZ.out _).mono ?_)
 rintro e w2 ⟨rfl,b2⟩
 have hw:Below w1.heap.size w1 (w1.alloc (.cells #[.int .i64 0, .int .u32 0] 55)):=(Below.refl _ _).alloc (Nat.le_refl _) _
 have sH:w1.heap.size<(w1.alloc (.cells #[.int .i64 0, .int .u32 0] 55)).heap.size:=by simp
 have Bj:=κ ((HR.out.below hw).below b2)
 have wZ:=κ ((rQ.out.upto (ah.ak (S:=fun _=>False) hw) id).upto (ah.ak (S:=fun _=>False) b2) id)
 have B2:=κ ((B1.out.trans (hw.mono (Nat.le_of_lt oK))).trans (b2.mono (Nat.le_trans (Nat.le_of_lt oK) hw.size)))
 have s0:=(b2.cell (p:=⟨w1.heap.size,0,none⟩) sH).trans (ay w1 _ _ 0)
 have s1:=(b2.cell (p:=⟨w1.heap.size,1,none⟩) sH).trans (ay w1 _ _ 1)
 have zs:=fun i=>(b2.frozen (p:=⟨w1.heap.size,i,none⟩) sH).trans (gW w1 _ _ i)
 have ls:=Nat.lt_of_lt_of_le sH b2.size
 have sb:w.heap.size<w2.heap.size:=Nat.lt_of_succ_lt Bj.out.l
 clear b2 hw
 go_wp2_with (go_at_call 82;(with_reducible refine(uy.out _ wZ.out).mono ?_);rintro e w3 ⟨v2,rfl,o3,b3⟩;have Bl:=κ (Bj.out.below b3);have B3:=κ (B2.out.trans (b3.mono (Nat.le_of_lt sb)));have r0:=(b3.cell (p:=⟨w1.heap.size,0,none⟩) ls).trans s0;have r1:=(b3.cell (p:=⟨w1.heap.size,1,none⟩) ls).trans s1;have zr:=fun i=>(b3.frozen (p:=⟨w1.heap.size,i,none⟩) ls).trans (zs i);have lr:=Nat.lt_of_lt_of_le ls b3.size;obtain⟨mJ,lM,lN,lQ,mM,mO,mP,iC,jB,rl⟩:=Bl.out;have NG:=Nat.lt_of_succ_lt rl;have O3:=κ o3;clear b3 o3)
 have n1:w1.heap.size≠w.heap.size:=Nat.ne_of_gt oK
 have n2:w1.heap.size≠w.heap.size+1:=Nat.ne_of_gt HR.out.l
 have wR:=κ ((Bl.out.off (q:=⟨w1.heap.size,0,none⟩) n1 n2 (.int .i64 0)).off (q:=⟨w1.heap.size,1,none⟩) n1 n2 (.int .u32 0))
 have B4:=κ ((B3.out.setCell (p:=⟨w1.heap.size,0,none⟩) (Nat.le_of_lt oK) (.int .i64 0)).setCell (p:=⟨w1.heap.size,1,none⟩) (Nat.le_of_lt oK) (.int .u32 0))
 have O4:=(O3.out.below (q:=⟨w1.heap.size,0,none⟩) ls (.int .i64 0)).below (q:=⟨w1.heap.size,1,none⟩) ls (.int .u32 0)
 clear mJ lM lN lQ mM mO mP iC jB rl NG r0 r1 zr lr s0 s1 zs ls
 generalize(w3.setCell ⟨w1.heap.size,0,none⟩ (.int .i64 0)).setCell ⟨w1.heap.size,1,none⟩ (.int .u32 0)=W4 at wR B4 O4⊢
 obtain⟨ao3,abx,rfl,UK,_⟩:=O4.form
 clear O4
 go_at_call 84
 with_reducible refine(CD.out _ _ _ UK).mono ?_
 clear UK
 rintro e w5 ⟨rfl,b5⟩
 have NH:=κ (wR.out.below b5)
 have lw4:w.heap.size<W4.heap.size:=Nat.lt_of_succ_lt wR.out.l
 have B5:=κ (B4.out.trans (b5.mono (Nat.le_of_lt lw4)))
 clear b5
 obtain⟨mJ,lM,lN,lQ,mM,mO,mP,iC,jB,rl⟩:=NH.out
 have UL:=Nat.lt_of_succ_lt rl
 by_cases BX:zz=0
 ·subst BX
  go_upto_region 10 with fail
  have Bq:=(Below.refl w5.heap.size w5).alloc (Nat.le_refl _) (.cells #[.int .i64 o, .int .i64 d, .int .i64 s, .int .i64 g, .int .u32 m] 74)
  have wS:=κ (NH.out.below Bq)
  have B6:=κ (B5.out.alloc (Nat.le_of_lt UL) (.cells #[.int .i64 o, .int .i64 d, .int .i64 s, .int .i64 g, .int .u32 m] 74))
  have k0:=ay w5 #[.int .i64 o, .int .i64 d, .int .i64 s, .int .i64 g, .int .u32 m] 74 0
  have k1:=ay w5 #[.int .i64 o, .int .i64 d, .int .i64 s, .int .i64 g, .int .u32 m] 74 1
  have k2:=ay w5 #[.int .i64 o, .int .i64 d, .int .i64 s, .int .i64 g, .int .u32 m] 74 2
  have k3:=ay w5 #[.int .i64 o, .int .i64 d, .int .i64 s, .int .i64 g, .int .u32 m] 74 3
  have k4:=ay w5 #[.int .i64 o, .int .i64 d, .int .i64 s, .int .i64 g, .int .u32 m] 74 4
  simp only [List.getElem?_toArray,List.getElem?_cons_zero,List.getElem?_cons_succ] at k0 k1 k2 k3 k4
  clear mJ lM lN lQ mM mO mP iC jB rl Bq
  generalize w5.alloc (.cells #[.int .i64 o, .int .i64 d, .int .i64 s, .int .i64 g, .int .u32 m] 74)=W6 at wS B6 k0 k1 k2 k3 k4⊢
  obtain⟨mJ,lM,lN,lQ,mM,mO,mP,iC,jB,rl⟩:=wS.out
  have NI:=iC 0
  have NJ:=iC 1
  have NM:=iC 2
  have NQ:=iC 3
  have NR:=iC 4
  have NT:=jB 0
  have NV:=jB 1
  clear iC jB
  go_wp2_with fail
  obtain⟨u,t,bC,u0,u1,u2,u3,u4,t0,t1⟩:=wS.out.put (.int .i64 o) (.int .i64 d) (.int .i64 s) (.int .i64 g) (.int .u32 m) (.int .i64 0) (.int .u32 0)
  have pR:=eH B6.out (Nat.le_refl _) (.int .i64 o) (.int .i64 d) (.int .i64 s) (.int .i64 g) (.int .u32 m) (.int .i64 0) (.int .u32 0)
  clear mJ lM lN lQ mM mO mP NI NJ NM NQ NR NT NV k0 k1 k2 k3 k4
  generalize World.setCell _ ⟨w.heap.size+1,1,none⟩ _=WZ at bC pR⊢
  have f0:=bC.a 0 (by omega)
  have f1:=bC.a 1 (by omega)
  have f2:=bC.a 2 (by omega)
  have f3:=bC.a 3 (by omega)
  have f4:=bC.a 4 (by omega)
  have g0:=bC.b 0 (by omega)
  have g1:=bC.b 1 (by omega)
  rw [u0] at f0
  rw [u1] at f1
  rw [u2] at f2
  rw [u3] at f3
  rw [u4] at f4
  rw [t0] at g0
  rw [t1] at g1
  refine bodyPost_ret (v:= .tuple #[.agg #[.int .i64 o, .int .i64 d, .int .i64 s, .int .i64 g, .int .u32 m], .int .i64 n, .agg #[.int .i64 0, .int .u32 0]]) (by simp [results,Tryz.results238,go_sem,f0,f1,f2,f3,f4,g0,g1]) rfl ⟨by rw [←HV.out,if_pos trivial],pR⟩
 ·have hzb:(zz==0)=false:=by rw [beq_eq_false_iff_ne];exact BX
  have hzn:(zz !=0)=true:=by rw [bne,hzb];rfl
  go_upto_region 9 with fail
  have Bq:=(Below.refl w5.heap.size w5).alloc (Nat.le_refl _) (.cells #[.int .i64 o, .int .i64 d, .int .i64 s, .int .i64 g, .int .u32 m] 74)
  have wS:=κ (NH.out.below Bq)
  have B6:=κ (B5.out.alloc (Nat.le_of_lt UL) (.cells #[.int .i64 o, .int .i64 d, .int .i64 s, .int .i64 g, .int .u32 m] 74))
  have k0:=ay w5 #[.int .i64 o, .int .i64 d, .int .i64 s, .int .i64 g, .int .u32 m] 74 0
  have k1:=ay w5 #[.int .i64 o, .int .i64 d, .int .i64 s, .int .i64 g, .int .u32 m] 74 1
  have k2:=ay w5 #[.int .i64 o, .int .i64 d, .int .i64 s, .int .i64 g, .int .u32 m] 74 2
  have k3:=ay w5 #[.int .i64 o, .int .i64 d, .int .i64 s, .int .i64 g, .int .u32 m] 74 3
  have k4:=ay w5 #[.int .i64 o, .int .i64 d, .int .i64 s, .int .i64 g, .int .u32 m] 74 4
  simp only [List.getElem?_toArray,List.getElem?_cons_zero,List.getElem?_cons_succ] at k0 k1 k2 k3 k4
  clear mJ lM lN lQ mM mO mP iC jB rl Bq
  generalize w5.alloc (.cells #[.int .i64 o, .int .i64 d, .int .i64 s, .int .i64 g, .int .u32 m] 74)=W6 at wS B6 k0 k1 k2 k3 k4⊢
  obtain⟨mJ,lM,lN,lQ,mM,mO,mP,iC,jB,rl⟩:=wS.out
  have NI:=iC 0
  have NJ:=iC 1
  have NM:=iC 2
  have NQ:=iC 3
  have NR:=iC 4
  have NT:=jB 0
  have NV:=jB 1
  clear iC jB
  go_wp2_with fail
  obtain⟨u,t,bC,u0,u1,u2,u3,u4,t0,t1⟩:=wS.out.put (.int .i64 0) (.int .i64 0) (.int .i64 0) (.int .i64 0) (.int .u32 0) (.int .i64 3) (.int .u32 0)
  have pR:=eH B6.out (Nat.le_refl _) (.int .i64 0) (.int .i64 0) (.int .i64 0) (.int .i64 0) (.int .u32 0) (.int .i64 3) (.int .u32 0)
  clear mJ lM lN lQ mM mO mP NI NJ NM NQ NR NT NV k0 k1 k2 k3 k4
  generalize World.setCell _ ⟨w.heap.size+1,1,none⟩ _=WZ at bC pR⊢
  have f0:=bC.a 0 (by omega)
  have f1:=bC.a 1 (by omega)
  have f2:=bC.a 2 (by omega)
  have f3:=bC.a 3 (by omega)
  have f4:=bC.a 4 (by omega)
  have g0:=bC.b 0 (by omega)
  have g1:=bC.b 1 (by omega)
  rw [u0] at f0
  rw [u1] at f1
  rw [u2] at f2
  rw [u3] at f3
  rw [u4] at f4
  rw [t0] at g0
  rw [t1] at g1
  refine bodyPost_ret (v:= .tuple #[.agg #[.int .i64 0, .int .i64 0, .int .i64 0, .int .i64 0, .int .u32 0], .int .i64 0, .agg #[.int .i64 3, .int .u32 0]]) (by simp [results,Tryz.results238,go_sem,f0,f1,f2,f3,f4,g0,g1]) rfl ⟨by rw [←HV.out,if_neg BX],pR⟩
theorem xX (p:Nat) (M:MM) (pc:Int) (w:World) (h:HC p M w) (hM:bQ M) (c0:0≤pc) (c1:pc<4294967296):
  Calls Tryz.prog 238 #[.pointer (some ⟨p,0,none⟩), .int .u32 pc] w fun e w'=>e= .returned (gG M pc)∧Below w.heap.size w w':=by
 cases hs:bY M pc 1 with
 | some x=>exact zB p M pc x w h hM c0 c1 hs
 | none=>cases jW:bY M pc (jf M pc) with
  | some x=>exact zC p M pc x w h hM c0 c1 hs jW
  | none=>exact zD p M pc w h hM c0 c1 hs jW
end Go.Proofs.YtcjcmnnhmajocabGreat.St
namespace Go.Proofs.YtcjcmnnhmajocabGreat.Lf
open Go.RowKit Kt Me Fl Gu St
theorem zB (p:Nat) (M:MM) (pc x:Int) (w:World) (h:HC p M w) (hM:bQ M) (c0:0≤pc) (c1:pc<4294967296) (hs:bY M pc 1=some x):
  Calls Tryz.prog 53 #[.pointer (some ⟨p,0,none⟩), .int .u32 pc] w fun e w'=>e= .returned (gG M pc)∧Below w.heap.size w w':=by
 have eV:gG M pc=iy 4 x:=by unfold gG;rw [hs]
 rw [eV]
 have CF:=κ (fun w h=>gJ p M pc 1 w h hM c0 c1)
 rw [hs,show stpV 4 (some x)= .agg #[.int .i64 4, .int .u32 x] from rfl] at CF
 have F0:=FR.new w
 have B0:=Below.Ti w (.cells Z5 74) (.cells Z2 55)
 have HH:=κ (h.upto (ah.ak (S:=fun _=>False) B0) id)
 unfold Z5 Z2 at F0 B0 HH
 unfold iy fE
 clear eV hs h hM
 go_enter Tryz.func53,Tryz.ntmps53
 go_wp2_with fail
 generalize(w.alloc (.cells #[.int .i64 0, .int .i64 0, .int .i64 0, .int .i64 0, .int .u32 0] 74)).alloc (.cells #[.int .i64 0, .int .u32 0] 55)=WA at F0 B0 HH⊢
 have HF:=κ F0
 have HB:=κ B0
 clear F0 B0
 go_wp2_with (go_at_call 82;(with_reducible refine(CF.out _ HH.out).mono ?_);rintro e w1 ⟨v,rfl,o1,b1⟩;have HR:=κ (HF.out.below b1);obtain⟨mJ,lM,lN,lQ,mM,mO,mP,iC,jB,rl⟩:=HR.out;have B1:=κ (HB.out.trans (b1.mono HB.out.size));have oK:w.heap.size<w1.heap.size:=Nat.lt_of_succ_lt rl;clear o1 b1)
 go_region
 obtain⟨u,t,fq,u0,u1,u2,u3,u4,t0,t1⟩:=HR.out.put (.int .i64 0) (.int .i64 0) (.int .i64 0) (.int .i64 0) (.int .u32 0) (.int .i64 4) (.int .u32 x)
 have bp:=eH B1.out (Nat.le_refl _) (.int .i64 0) (.int .i64 0) (.int .i64 0) (.int .i64 0) (.int .u32 0) (.int .i64 4) (.int .u32 x)
 have bC:=(fq.alloc (.cells #[.int .i64 4, .int .u32 x] 55)).drew
 have pR:=(bp.alloc (Nat.le_trans (Nat.le_of_lt (Nat.lt_of_succ_lt fq.l)) (Nat.le_refl _)) (.cells #[.int .i64 4, .int .u32 x] 55)).drew
 clear fq bp mJ lM lN lQ mM mO mP iC jB
 generalize(World.alloc _ _).drew=WZ at bC pR⊢
 have f0:=bC.a 0 (by omega)
 have f1:=bC.a 1 (by omega)
 have f2:=bC.a 2 (by omega)
 have f3:=bC.a 3 (by omega)
 have f4:=bC.a 4 (by omega)
 have g0:=bC.b 0 (by omega)
 have g1:=bC.b 1 (by omega)
 rw [u0] at f0
 rw [u1] at f1
 rw [u2] at f2
 rw [u3] at f3
 rw [u4] at f4
 rw [t0] at g0
 rw [t1] at g1
 go_wp2_with fail
 refine bodyPost_ret (v:= .tuple #[.agg #[.int .i64 0, .int .i64 0, .int .i64 0, .int .i64 0, .int .u32 0], .int .i64 0, .agg #[.int .i64 4, .int .u32 x]]) (by simp [results,Tryz.results53,go_sem,f0,f1,f2,f3,f4,g0,g1]) rfl ⟨rfl,pR⟩
theorem zC (p:Nat) (M:MM) (pc x:Int) (w:World) (h:HC p M w) (hM:bQ M) (c0:0≤pc) (c1:pc<4294967296) (hs:bY M pc 1=none) (jW:bY M pc (jf M pc)=some x):
  Calls Tryz.prog 53 #[.pointer (some ⟨p,0,none⟩), .int .u32 pc] w fun e w'=>e= .returned (gG M pc)∧Below w.heap.size w w':=by
 have eV:gG M pc=iy 4 x:=by unfold gG;rw [hs];dsimp only;rw [jW]
 rw [eV]
 have CF:=κ (fun w h=>gJ p M pc 1 w h hM c0 c1)
 have uy:=κ (fun w h=>gJ p M pc (jf M pc) w h hM c0 c1)
 rw [hs,show stpV 4 none= .agg #[.int .i64 0, .int .u32 0] from rfl] at CF
 rw [jW,show stpV 4 (some x)= .agg #[.int .i64 4, .int .u32 x] from rfl] at uy
 have HL:=κ (show(fB M pc 1).length=1 from nN hs (by omega) (by omega))
 have hb:=iO hM pc 1 0
 have CZ:=κ (fun w=>rZ ((fB M pc 1).getD 0 0) hb.1 hb.2 w)
 have hz:=lS M hM pc
 rw [show shSize (rowOf ((fB M pc 1).getD 0 0)).sh=jf M pc from rfl] at CZ
 obtain⟨y,hy⟩:∃y,(fB M pc 1).getD 0 0=y:=⟨_,rfl⟩
 rw [hy] at CZ hb
 have HY:=κ hy
 clear hy
 generalize jf M pc=z at uy CZ hz
 have F0:=FR.new w
 have B0:=Below.Ti w (.cells Z5 74) (.cells Z2 55)
 have HH:=κ (h.upto (ah.ak (S:=fun _=>False) B0) id)
 unfold Z5 Z2 at F0 B0 HH
 unfold iy fE
 clear eV hs jW h hM
 go_enter Tryz.func53,Tryz.ntmps53
 go_wp2_with fail
 generalize(w.alloc (.cells #[.int .i64 0, .int .i64 0, .int .i64 0, .int .i64 0, .int .u32 0] 74)).alloc (.cells #[.int .i64 0, .int .u32 0] 55)=WA at F0 B0 HH⊢
 have HF:=κ F0
 have HB:=κ B0
 clear F0 B0
 go_wp2_with (go_at_call 82;(with_reducible refine(CF.out _ HH.out).mono ?_);rintro e w1 ⟨v,rfl,o1,b1⟩;have HR:=κ (HF.out.below b1);have oK:w.heap.size<w1.heap.size:=Nat.lt_of_succ_lt HR.out.l;obtain⟨ao,cap,rfl,bs,_⟩:=o1.form;obtain⟨bl,bm,bk⟩:=bs;rw [HL.out] at bl bk⊢;obtain⟨bb,NC,rfl,bbl,bc⟩:=bk (by omega);have ND:=bc 0 (by omega);rw [Nat.add_zero,HY.out] at ND;have rQ:=κ (HH.out.upto (ah.ak (S:=fun _=>False) b1) id);have B1:=κ (HB.out.trans (b1.mono HB.out.size));clear o1 b1 bk bc)
 go_at_call 83
 (with_reducible refine(CZ.out _).mono ?_)
 rintro e w2 ⟨rfl,b2⟩
 have hw:Below w1.heap.size w1 (w1.alloc (.cells #[.int .i64 0, .int .u32 0] 55)):=(Below.refl _ _).alloc (Nat.le_refl _) _
 have sH:w1.heap.size<(w1.alloc (.cells #[.int .i64 0, .int .u32 0] 55)).heap.size:=by simp
 have Bj:=κ ((HR.out.below hw).below b2)
 have wZ:=κ ((rQ.out.upto (ah.ak (S:=fun _=>False) hw) id).upto (ah.ak (S:=fun _=>False) b2) id)
 have B2:=κ ((B1.out.trans (hw.mono (Nat.le_of_lt oK))).trans (b2.mono (Nat.le_trans (Nat.le_of_lt oK) hw.size)))
 have s0:=(b2.cell (p:=⟨w1.heap.size,0,none⟩) sH).trans (ay w1 _ _ 0)
 have s1:=(b2.cell (p:=⟨w1.heap.size,1,none⟩) sH).trans (ay w1 _ _ 1)
 have zs:=fun i=>(b2.frozen (p:=⟨w1.heap.size,i,none⟩) sH).trans (gW w1 _ _ i)
 have ls:=Nat.lt_of_lt_of_le sH b2.size
 have sb:w.heap.size<w2.heap.size:=Nat.lt_of_succ_lt Bj.out.l
 clear b2 hw
 go_wp2_with (go_at_call 82;(with_reducible refine(uy.out _ wZ.out).mono ?_);rintro e w3 ⟨v2,rfl,o3,b3⟩;have Bl:=κ (Bj.out.below b3);have B3:=κ (B2.out.trans (b3.mono (Nat.le_of_lt sb)));have r0:=(b3.cell (p:=⟨w1.heap.size,0,none⟩) ls).trans s0;have r1:=(b3.cell (p:=⟨w1.heap.size,1,none⟩) ls).trans s1;have zr:=fun i=>(b3.frozen (p:=⟨w1.heap.size,i,none⟩) ls).trans (zs i);have lr:=Nat.lt_of_lt_of_le ls b3.size;obtain⟨mJ,lM,lN,lQ,mM,mO,mP,iC,jB,rl⟩:=Bl.out;have NG:=Nat.lt_of_succ_lt rl;have O3:=κ o3;clear b3 o3)
 have n1:w1.heap.size≠w.heap.size:=Nat.ne_of_gt oK
 have n2:w1.heap.size≠w.heap.size+1:=Nat.ne_of_gt HR.out.l
 have wR:=κ ((Bl.out.off (q:=⟨w1.heap.size,0,none⟩) n1 n2 (.int .i64 4)).off (q:=⟨w1.heap.size,1,none⟩) n1 n2 (.int .u32 x))
 have q0:((w3.setCell ⟨w1.heap.size,0,none⟩ (.int .i64 4)).setCell ⟨w1.heap.size,1,none⟩ (.int .u32 x)).cell? ⟨w1.heap.size,0,none⟩=some (.int .i64 4):=(off (by omega)).trans (World.cell?_setCell_same _ _ _ r0)
 have q1:((w3.setCell ⟨w1.heap.size,0,none⟩ (.int .i64 4)).setCell ⟨w1.heap.size,1,none⟩ (.int .u32 x)).cell? ⟨w1.heap.size,1,none⟩=some (.int .u32 x):=World.cell?_setCell_same _ _ _ ((off (by omega)).trans r1)
 have B4:=κ ((B3.out.setCell (p:=⟨w1.heap.size,0,none⟩) (Nat.le_of_lt oK) (.int .i64 4)).setCell (p:=⟨w1.heap.size,1,none⟩) (Nat.le_of_lt oK) (.int .u32 x))
 clear mJ lM lN lQ mM mO mP iC jB rl NG r0 r1 zr lr s0 s1 zs ls
 generalize(w3.setCell ⟨w1.heap.size,0,none⟩ (.int .i64 4)).setCell ⟨w1.heap.size,1,none⟩ (.int .u32 x)=W4 at wR q0 q1 B4⊢
 obtain⟨mJ,lM,lN,lQ,mM,mO,mP,iC,jB,rl⟩:=wR.out
 go_region
 obtain⟨u,t,fq,u0,u1,u2,u3,u4,t0,t1⟩:=wR.out.put (.int .i64 0) (.int .i64 0) (.int .i64 0) (.int .i64 0) (.int .u32 0) (.int .i64 4) (.int .u32 x)
 have pR:=(eH B4.out (Nat.le_refl _) (.int .i64 0) (.int .i64 0) (.int .i64 0) (.int .i64 0) (.int .u32 0) (.int .i64 4) (.int .u32 x)).drew
 have bC:=fq.drew
 clear fq mJ lM lN lQ mM mO mP iC jB
 generalize World.drew _=WZ at bC pR⊢
 have f0:=bC.a 0 (by omega)
 have f1:=bC.a 1 (by omega)
 have f2:=bC.a 2 (by omega)
 have f3:=bC.a 3 (by omega)
 have f4:=bC.a 4 (by omega)
 have g0:=bC.b 0 (by omega)
 have g1:=bC.b 1 (by omega)
 rw [u0] at f0
 rw [u1] at f1
 rw [u2] at f2
 rw [u3] at f3
 rw [u4] at f4
 rw [t0] at g0
 rw [t1] at g1
 go_wp2_with fail
 refine bodyPost_ret (v:= .tuple #[.agg #[.int .i64 0, .int .i64 0, .int .i64 0, .int .i64 0, .int .u32 0], .int .i64 0, .agg #[.int .i64 4, .int .u32 x]]) (by simp [results,Tryz.results53,go_sem,f0,f1,f2,f3,f4,g0,g1]) rfl ⟨rfl,pR⟩
theorem zD (p:Nat) (M:MM) (pc:Int) (w:World) (h:HC p M w) (hM:bQ M) (c0:0≤pc) (c1:pc<4294967296) (hs:bY M pc 1=none) (jW:bY M pc (jf M pc)=none):
  Calls Tryz.prog 53 #[.pointer (some ⟨p,0,none⟩), .int .u32 pc] w fun e w'=>e= .returned (gG M pc)∧Below w.heap.size w w':=by
 obtain⟨o,d,s,g,m,n,zz,hd⟩:=qW (kU M pc)
 have eV:gG M pc=if zz=0 then .tuple #[fE o d s g m, .int .i64 n, .agg #[.int .i64 0, .int .u32 0]] else iy 3 0:=by
  unfold gG;rw [hs];dsimp only;rw [jW];dsimp only;rw [hd];rfl
 rw [eV]
 have hu:=iO hM pc (jf M pc)
 unfold kU at hd
 have CF:=κ (fun w h=>gJ p M pc 1 w h hM c0 c1)
 have uy:=κ (fun w h=>gJ p M pc (jf M pc) w h hM c0 c1)
 rw [hs,show stpV 4 none= .agg #[.int .i64 0, .int .u32 0] from rfl] at CF
 rw [jW,show stpV 4 none= .agg #[.int .i64 0, .int .u32 0] from rfl] at uy
 have HL:=κ (show(fB M pc 1).length=1 from nN hs (by omega) (by omega))
 have hb:=iO hM pc 1 0
 have CZ:=κ (fun w=>rZ ((fB M pc 1).getD 0 0) hb.1 hb.2 w)
 have hz:=lS M hM pc
 rw [show shSize (rowOf ((fB M pc 1).getD 0 0)).sh=jf M pc from rfl] at CZ
 obtain⟨y,hy⟩:∃y,(fB M pc 1).getD 0 0=y:=⟨_,rfl⟩
 rw [hy] at CZ hb
 have HY:=κ hy
 clear hy
 generalize jf M pc=z at uy CZ hz hd hu
 generalize fB M pc z=us at uy hd hu
 have CD:=κ (fun ao cap w h=>Bf us ao cap w h hu)
 rw [hd] at CD
 clear hd hu
 have F0:=FR.new w
 have B0:=Below.Ti w (.cells Z5 74) (.cells Z2 55)
 have HH:=κ (h.upto (ah.ak (S:=fun _=>False) B0) id)
 unfold Z5 Z2 at F0 B0 HH
 unfold iy fE
 unfold fE at CD
 generalize hV:(if zz=0 then _ else _:Value)=V
 have HV:=κ hV
 clear hV
 clear eV hs jW h hM
 go_enter Tryz.func53,Tryz.ntmps53
 go_wp2_with fail
 generalize(w.alloc (.cells #[.int .i64 0, .int .i64 0, .int .i64 0, .int .i64 0, .int .u32 0] 74)).alloc (.cells #[.int .i64 0, .int .u32 0] 55)=WA at F0 B0 HH⊢
 have HF:=κ F0
 have HB:=κ B0
 clear F0 B0
 go_wp2_with (go_at_call 82;(with_reducible refine(CF.out _ HH.out).mono ?_);rintro e w1 ⟨v,rfl,o1,b1⟩;have HR:=κ (HF.out.below b1);have oK:w.heap.size<w1.heap.size:=Nat.lt_of_succ_lt HR.out.l;obtain⟨ao,cap,rfl,bs,_⟩:=o1.form;obtain⟨bl,bm,bk⟩:=bs;rw [HL.out] at bl bk⊢;obtain⟨bb,NC,rfl,bbl,bc⟩:=bk (by omega);have ND:=bc 0 (by omega);rw [Nat.add_zero,HY.out] at ND;have rQ:=κ (HH.out.upto (ah.ak (S:=fun _=>False) b1) id);have B1:=κ (HB.out.trans (b1.mono HB.out.size));clear o1 b1 bk bc)
 go_at_call 83
 (with_reducible refine(CZ.out _).mono ?_)
 rintro e w2 ⟨rfl,b2⟩
 have hw:Below w1.heap.size w1 (w1.alloc (.cells #[.int .i64 0, .int .u32 0] 55)):=(Below.refl _ _).alloc (Nat.le_refl _) _
 have sH:w1.heap.size<(w1.alloc (.cells #[.int .i64 0, .int .u32 0] 55)).heap.size:=by simp
 have Bj:=κ ((HR.out.below hw).below b2)
 have wZ:=κ ((rQ.out.upto (ah.ak (S:=fun _=>False) hw) id).upto (ah.ak (S:=fun _=>False) b2) id)
 have B2:=κ ((B1.out.trans (hw.mono (Nat.le_of_lt oK))).trans (b2.mono (Nat.le_trans (Nat.le_of_lt oK) hw.size)))
 have s0:=(b2.cell (p:=⟨w1.heap.size,0,none⟩) sH).trans (ay w1 _ _ 0)
 have s1:=(b2.cell (p:=⟨w1.heap.size,1,none⟩) sH).trans (ay w1 _ _ 1)
 have zs:=fun i=>(b2.frozen (p:=⟨w1.heap.size,i,none⟩) sH).trans (gW w1 _ _ i)
 have ls:=Nat.lt_of_lt_of_le sH b2.size
 have sb:w.heap.size<w2.heap.size:=Nat.lt_of_succ_lt Bj.out.l
 clear b2 hw
 go_wp2_with (go_at_call 82;(with_reducible refine(uy.out _ wZ.out).mono ?_);rintro e w3 ⟨v2,rfl,o3,b3⟩;have Bl:=κ (Bj.out.below b3);have B3:=κ (B2.out.trans (b3.mono (Nat.le_of_lt sb)));have r0:=(b3.cell (p:=⟨w1.heap.size,0,none⟩) ls).trans s0;have r1:=(b3.cell (p:=⟨w1.heap.size,1,none⟩) ls).trans s1;have zr:=fun i=>(b3.frozen (p:=⟨w1.heap.size,i,none⟩) ls).trans (zs i);have lr:=Nat.lt_of_lt_of_le ls b3.size;obtain⟨mJ,lM,lN,lQ,mM,mO,mP,iC,jB,rl⟩:=Bl.out;have NG:=Nat.lt_of_succ_lt rl;have O3:=κ o3;clear b3 o3)
 have n1:w1.heap.size≠w.heap.size:=Nat.ne_of_gt oK
 have n2:w1.heap.size≠w.heap.size+1:=Nat.ne_of_gt HR.out.l
 have wR:=κ ((Bl.out.off (q:=⟨w1.heap.size,0,none⟩) n1 n2 (.int .i64 0)).off (q:=⟨w1.heap.size,1,none⟩) n1 n2 (.int .u32 0))
 have B4:=κ ((B3.out.setCell (p:=⟨w1.heap.size,0,none⟩) (Nat.le_of_lt oK) (.int .i64 0)).setCell (p:=⟨w1.heap.size,1,none⟩) (Nat.le_of_lt oK) (.int .u32 0))
 have O4:=(O3.out.below (q:=⟨w1.heap.size,0,none⟩) ls (.int .i64 0)).below (q:=⟨w1.heap.size,1,none⟩) ls (.int .u32 0)
 clear mJ lM lN lQ mM mO mP iC jB rl NG r0 r1 zr lr s0 s1 zs ls
 generalize(w3.setCell ⟨w1.heap.size,0,none⟩ (.int .i64 0)).setCell ⟨w1.heap.size,1,none⟩ (.int .u32 0)=W4 at wR B4 O4⊢
 obtain⟨ao3,abx,rfl,UK,_⟩:=O4.form
 clear O4
 go_at_call 84
 with_reducible refine(CD.out _ _ _ UK).mono ?_
 clear UK
 rintro e w5 ⟨rfl,b5⟩
 have NH:=κ (wR.out.below b5)
 have lw4:w.heap.size<W4.heap.size:=Nat.lt_of_succ_lt wR.out.l
 have B5:=κ (B4.out.trans (b5.mono (Nat.le_of_lt lw4)))
 clear b5
 obtain⟨mJ,lM,lN,lQ,mM,mO,mP,iC,jB,rl⟩:=NH.out
 have UL:=Nat.lt_of_succ_lt rl
 by_cases BX:zz=0
 ·subst BX
  go_upto_region 10 with fail
  have Bq:=(Below.refl w5.heap.size w5).alloc (Nat.le_refl _) (.cells #[.int .i64 o, .int .i64 d, .int .i64 s, .int .i64 g, .int .u32 m] 74)
  have wS:=κ (NH.out.below Bq)
  have B6:=κ (B5.out.alloc (Nat.le_of_lt UL) (.cells #[.int .i64 o, .int .i64 d, .int .i64 s, .int .i64 g, .int .u32 m] 74))
  have k0:=ay w5 #[.int .i64 o, .int .i64 d, .int .i64 s, .int .i64 g, .int .u32 m] 74 0
  have k1:=ay w5 #[.int .i64 o, .int .i64 d, .int .i64 s, .int .i64 g, .int .u32 m] 74 1
  have k2:=ay w5 #[.int .i64 o, .int .i64 d, .int .i64 s, .int .i64 g, .int .u32 m] 74 2
  have k3:=ay w5 #[.int .i64 o, .int .i64 d, .int .i64 s, .int .i64 g, .int .u32 m] 74 3
  have k4:=ay w5 #[.int .i64 o, .int .i64 d, .int .i64 s, .int .i64 g, .int .u32 m] 74 4
  simp only [List.getElem?_toArray,List.getElem?_cons_zero,List.getElem?_cons_succ] at k0 k1 k2 k3 k4
  clear mJ lM lN lQ mM mO mP iC jB rl Bq
  generalize w5.alloc (.cells #[.int .i64 o, .int .i64 d, .int .i64 s, .int .i64 g, .int .u32 m] 74)=W6 at wS B6 k0 k1 k2 k3 k4⊢
  obtain⟨mJ,lM,lN,lQ,mM,mO,mP,iC,jB,rl⟩:=wS.out
  have NI:=iC 0
  have NJ:=iC 1
  have NM:=iC 2
  have NQ:=iC 3
  have NR:=iC 4
  have NT:=jB 0
  have NV:=jB 1
  clear iC jB
  go_wp2_with fail
  obtain⟨u,t,bC,u0,u1,u2,u3,u4,t0,t1⟩:=wS.out.put (.int .i64 o) (.int .i64 d) (.int .i64 s) (.int .i64 g) (.int .u32 m) (.int .i64 0) (.int .u32 0)
  have pR:=eH B6.out (Nat.le_refl _) (.int .i64 o) (.int .i64 d) (.int .i64 s) (.int .i64 g) (.int .u32 m) (.int .i64 0) (.int .u32 0)
  clear mJ lM lN lQ mM mO mP NI NJ NM NQ NR NT NV k0 k1 k2 k3 k4
  generalize World.setCell _ ⟨w.heap.size+1,1,none⟩ _=WZ at bC pR⊢
  have f0:=bC.a 0 (by omega)
  have f1:=bC.a 1 (by omega)
  have f2:=bC.a 2 (by omega)
  have f3:=bC.a 3 (by omega)
  have f4:=bC.a 4 (by omega)
  have g0:=bC.b 0 (by omega)
  have g1:=bC.b 1 (by omega)
  rw [u0] at f0
  rw [u1] at f1
  rw [u2] at f2
  rw [u3] at f3
  rw [u4] at f4
  rw [t0] at g0
  rw [t1] at g1
  refine bodyPost_ret (v:= .tuple #[.agg #[.int .i64 o, .int .i64 d, .int .i64 s, .int .i64 g, .int .u32 m], .int .i64 n, .agg #[.int .i64 0, .int .u32 0]]) (by simp [results,Tryz.results53,go_sem,f0,f1,f2,f3,f4,g0,g1]) rfl ⟨by rw [←HV.out,if_pos trivial],pR⟩
 ·have hzb:(zz==0)=false:=by rw [beq_eq_false_iff_ne];exact BX
  have hzn:(zz !=0)=true:=by rw [bne,hzb];rfl
  go_upto_region 9 with fail
  have Bq:=(Below.refl w5.heap.size w5).alloc (Nat.le_refl _) (.cells #[.int .i64 o, .int .i64 d, .int .i64 s, .int .i64 g, .int .u32 m] 74)
  have wS:=κ (NH.out.below Bq)
  have B6:=κ (B5.out.alloc (Nat.le_of_lt UL) (.cells #[.int .i64 o, .int .i64 d, .int .i64 s, .int .i64 g, .int .u32 m] 74))
  have k0:=ay w5 #[.int .i64 o, .int .i64 d, .int .i64 s, .int .i64 g, .int .u32 m] 74 0
  have k1:=ay w5 #[.int .i64 o, .int .i64 d, .int .i64 s, .int .i64 g, .int .u32 m] 74 1
  have k2:=ay w5 #[.int .i64 o, .int .i64 d, .int .i64 s, .int .i64 g, .int .u32 m] 74 2
  have k3:=ay w5 #[.int .i64 o, .int .i64 d, .int .i64 s, .int .i64 g, .int .u32 m] 74 3
  have k4:=ay w5 #[.int .i64 o, .int .i64 d, .int .i64 s, .int .i64 g, .int .u32 m] 74 4
  simp only [List.getElem?_toArray,List.getElem?_cons_zero,List.getElem?_cons_succ] at k0 k1 k2 k3 k4
  clear mJ lM lN lQ mM mO mP iC jB rl Bq
  generalize w5.alloc (.cells #[.int .i64 o, .int .i64 d, .int .i64 s, .int .i64 g, .int .u32 m] 74)=W6 at wS B6 k0 k1 k2 k3 k4⊢
  obtain⟨mJ,lM,lN,lQ,mM,mO,mP,iC,jB,rl⟩:=wS.out
  have NI:=iC 0
  have NJ:=iC 1
  have NM:=iC 2
  have NQ:=iC 3
  have NR:=iC 4
  have NT:=jB 0
  have NV:=jB 1
  clear iC jB
  go_wp2_with fail
  obtain⟨u,t,bC,u0,u1,u2,u3,u4,t0,t1⟩:=wS.out.put (.int .i64 0) (.int .i64 0) (.int .i64 0) (.int .i64 0) (.int .u32 0) (.int .i64 3) (.int .u32 0)
  have pR:=eH B6.out (Nat.le_refl _) (.int .i64 0) (.int .i64 0) (.int .i64 0) (.int .i64 0) (.int .u32 0) (.int .i64 3) (.int .u32 0)
  clear mJ lM lN lQ mM mO mP NI NJ NM NQ NR NT NV k0 k1 k2 k3 k4
  generalize World.setCell _ ⟨w.heap.size+1,1,none⟩ _=WZ at bC pR⊢
  have f0:=bC.a 0 (by omega)
  have f1:=bC.a 1 (by omega)
  have f2:=bC.a 2 (by omega)
  have f3:=bC.a 3 (by omega)
  have f4:=bC.a 4 (by omega)
  have g0:=bC.b 0 (by omega)
  have g1:=bC.b 1 (by omega)
  rw [u0] at f0
  rw [u1] at f1
  rw [u2] at f2
  rw [u3] at f3
  rw [u4] at f4
  rw [t0] at g0
  rw [t1] at g1
  refine bodyPost_ret (v:= .tuple #[.agg #[.int .i64 0, .int .i64 0, .int .i64 0, .int .i64 0, .int .u32 0], .int .i64 0, .agg #[.int .i64 3, .int .u32 0]]) (by simp [results,Tryz.results53,go_sem,f0,f1,f2,f3,f4,g0,g1]) rfl ⟨by rw [←HV.out,if_neg BX],pR⟩
theorem xX (p:Nat) (M:MM) (pc:Int) (w:World) (h:HC p M w) (hM:bQ M) (c0:0≤pc) (c1:pc<4294967296):
  Calls Tryz.prog 53 #[.pointer (some ⟨p,0,none⟩), .int .u32 pc] w fun e w'=>e= .returned (gG M pc)∧Below w.heap.size w w':=by
 cases hs:bY M pc 1 with
 | some x=>exact zB p M pc x w h hM c0 c1 hs
 | none=>cases jW:bY M pc (jf M pc) with
  | some x=>exact zC p M pc x w h hM c0 c1 hs jW
  | none=>exact zD p M pc w h hM c0 c1 hs jW
open Ic
def ik (M:MM) (pc:Int):Int×Int:=match bY M pc 1 with
 | some x=>(4,x)
 | none=>match bY M pc (jf M pc) with
  | some x=>(4,x)
  | none=>if dz (gq (kU M pc)) 6=0 then(0,0) else(3,0)
def iz (M:MM) (pc:Int) (i:Nat):Int:=if(ik M pc).1=0 then dz (gq (kU M pc)) i else 0
theorem zF (M:MM) (pc:Int):gG M pc= .tuple #[fE (iz M pc 0) (iz M pc 1) (iz M pc 2) (iz M pc 3) (iz M pc 4), .int .i64 (iz M pc 5), .agg #[.int .i64 (ik M pc).1, .int .u32 (ik M pc).2]]:=by
 unfold gG iz ik
 cases bY M pc 1 with
 | some x=>rfl
 | none=>
  dsimp only
  cases bY M pc (jf M pc) with
  | some x=>rfl
  | none=>
   dsimp only
   by_cases h:dz (gq (kU M pc)) 6=0
   ·rw [if_pos h,if_pos h];rfl
   ·rw [if_neg h,if_neg h];rfl
def Lk.xg (s:Lk) (M:MM):Lk:=
 let t:=({s with nx:=au (s.pc+iz M s.pc 5),aj:=s.aj+1,aN:=s.aN+iz M s.pc 5}:Lk).one (iz M s.pc 0) (iz M s.pc 1).toNat (iz M s.pc 2).toNat (iz M s.pc 3) (iz M s.pc 4)
 {t with pc:=t.nx}
def blk (M:MM):Nat→Lk→Lk
 | 0,s=>s.put ⟨15,0,0,0,0,s.pc,s.aj⟩
 | n+1,s=>
  if(ik M s.pc).1≠0 then(if s.aj=0 then s.put ⟨14,(ik M s.pc).1,0,(ik M s.pc).2,0,s.pc,0⟩ else s.put ⟨15,0,0,0,0,s.pc,s.aj⟩)
  else if en (iz M s.pc 0) then s.xg M else blk M n (s.xg M)
def Pv (pc:Int):Lk:=⟨[],pc,0,0,pc,0,fun _=> -1,false,0,0,0,0⟩
def xC (most:Int):Nat:=(min (max most 1) 64).toNat
def eU (M:MM) (pc most:Int):Lk:=blk M (xC most) (Pv pc)
end Go.Proofs.YtcjcmnnhmajocabGreat.Lf
namespace Go.Proofs.YtcjcmnnhmajocabGreat.St
open Go.RowKit Kt Me Fl Gu
theorem XJ:∀n:Fin 256,((rowOf (n.val:Int)).op=30→(rowOf (n.val:Int)).sh≠7∧((rowOf (n.val:Int)).fi=3→(rowOf (n.val:Int)).lo<5))∧((rowOf (n.val:Int)).op=31→(rowOf (n.val:Int)).sh≠7∧((rowOf (n.val:Int)).fi=3→(rowOf (n.val:Int)).lo<3)):=by decide+kernel
structure InR (v:Value):Prop where
 o:0≤dz v 0∧dz v 0<32
 d:0≤dz v 1∧dz v 1<8
 s:0≤dz v 2∧dz v 2<8
 f:0≤dz v 3∧dz v 3<16
 ld:dz v 0=30→dz v 3<5
 st:dz v 0=31→dz v 3<3
 m:0≤dz v 4∧dz v 4<4294967296
 n:0≤dz v 5∧dz v 5<8
theorem Tj (b:Int) (b0:0≤b) (b1:b<256) (a:Nat→Int) (ha:∀j,0≤a j∧a j<256)
  (h:dz (fin (rowOf b) (if(rowOf b).fi=1 then(rowOf b).lo else 0) (if(rowOf b).fi=2 then(rowOf b).lo else 0) (if(rowOf b).fi=3 then(rowOf b).lo else 0) a) 6=0):
  InR (fin (rowOf b) (if(rowOf b).fi=1 then(rowOf b).lo else 0) (if(rowOf b).fi=2 then(rowOf b).lo else 0) (if(rowOf b).fi=3 then(rowOf b).lo else 0) a):=by
 obtain⟨p1,p2,p3,p4,p5,p6,p7,p8⟩:=qR b b0 b1
 obtain⟨e1,e2⟩:((rowOf b).op=30→(rowOf b).sh≠7∧((rowOf b).fi=3→(rowOf b).lo<5))∧((rowOf b).op=31→(rowOf b).sh≠7∧((rowOf b).fi=3→(rowOf b).lo<3)):=by
  obtain⟨n,rfl⟩:=Int.eq_ofNat_of_zero_le b0
  exact XJ ⟨n,by omega⟩
 generalize rowOf b=r at*
 obtain⟨op,sh,lo,fi⟩:=r
 dsimp only at*
 have d0:0≤(if fi=1 then lo else 0):=by split<;>omega
 have s0:0≤(if fi=2 then lo else 0):=by split<;>omega
 have f0:0≤(if fi=3 then lo else 0)∧(if fi=3 then lo else 0) <16:=by split<;>omega
 have f30:op=30→(if fi=3 then lo else 0) <5:=fun h=>by
  split
  ·next h3=>exact(e1 h).2 h3
  ·omega
 have f31:op=31→(if fi=3 then lo else 0) <3:=fun h=>by
  split
  ·next h3=>exact(e2 h).2 h3
  ·omega
 generalize(if fi=1 then lo else 0)=dd at*
 generalize(if fi=2 then lo else 0)=ss at*
 generalize(if fi=3 then lo else 0)=ff at*
 have a0:=ha 0
 have a1:=ha 1
 have a2:=ha 2
 have a3:=ha 3
 have a4:=ha 4
 have a5:=ha 5
 unfold fin at h⊢
 by_cases hk:oD sh dd a<8∧oS sh ss a<8
 ·rw [if_pos hk]
  refine⟨⟨p1,by show op<32;omega⟩,⟨?_,hk.1⟩,⟨?_,hk.2⟩,⟨?_, ?_⟩,fun h=> ?_,fun h=> ?_, ?_, ?_⟩
  ·show 0≤oD sh dd a;unfold oD;repeat' split
   all_goals omega
  ·show 0≤oS sh ss a;unfold oS;repeat' split
   all_goals omega
  ·show 0≤oF sh ff a;unfold oF;split<;>omega
  ·show oF sh ff a<16;unfold oF;split<;>omega
  ·show oF sh ff a<5;unfold oF;rw [if_neg (e1 h).1];exact f30 h
  ·show oF sh ff a<3;unfold oF;rw [if_neg (e2 h).1];exact f31 h
  ·show 0≤oM sh 0 a∧oM sh 0 a<4294967296
   unfold oM xM four
   repeat' split
   all_goals omega
  ·show 0≤shSize sh∧shSize sh<8
   rcases(show sh=0∨sh=1∨sh=2∨sh=3∨sh=4∨sh=5∨sh=6∨sh=7∨sh=8∨sh=9∨sh=10∨sh=11∨sh=12 by omega) with rfl | rfl | rfl | rfl | rfl | rfl | rfl | rfl | rfl | rfl | rfl | rfl | rfl<;>decide
 ·rw [if_neg hk] at h
  exact absurd h (by decide)
theorem sJ (us:List Int) (hw:∀j,0≤us.getD j 0∧us.getD j 0<256) (h:dz (gq us) 6=0):InR (gq us):=by
 unfold gq at h⊢
 by_cases c1:us.length=0
 ·rw [if_pos c1] at h;exact absurd h (by decide)
 rw [if_neg c1] at h⊢
 by_cases c2:shSize (rowOf (us.getD 0 0)).sh=0
 ·rw [if_pos c2] at h;exact absurd h (by decide)
 rw [if_neg c2] at h⊢
 by_cases c3:(us.length:Int) <shSize (rowOf (us.getD 0 0)).sh
 ·rw [if_pos c3] at h;exact absurd h (by decide)
 rw [if_neg c3] at h⊢
 exact Tj _ (hw 0).1 (hw 0).2 _ (fun j=>hw (j+1)) h
end Go.Proofs.YtcjcmnnhmajocabGreat.St
namespace Go.Proofs.YtcjcmnnhmajocabGreat.Lf
open Go.RowKit Kt Ic Me Gu St
theorem abA {c:Prop} [Decidable c] {n:Nat} {s a b:Lk} (h:Gw n s a) (k:Gw n s b):Gw n s (if c then a else b):=by
 split
 ·exact h
 ·exact k
theorem XK {c:Prop} [Decidable c] {n:Nat} {s:Lk} {a b:Bool×Lk} (h:Gw n s a.2) (k:Gw n s b.2):Gw n s (if c then a else b).2:=by
 split
 ·exact h
 ·exact k
theorem IC (s:Lk) (o f m:Int) (d r:Nat):Gw 60 s (s.plain o d r f m).2:=by
 unfold Lk.plain
 dsimp only
 repeat' with_reducible refine XK ?_ ?_
 ·exact(Gw.refl s).mono (by omega)
 ·exact((lF s _).trans (bM _ _ _)).mono (by omega)
 ·exact(((((bG s _).trans (kG _)).trans (qP _ _ _)).trans (bM _ _ _)).trans (fZ _ _ _ _ _)).mono (by omega)
 ·exact(((((bG s d).trans (lF _ 0)).trans (Ie _ 1 (s.get d).1)).trans (bM _ d _)).trans (fZ _ 3 _ _ (-1))).mono (show 1+1+1+1+5≤60 by omega)
 ·exact(((bG s _).trans (Ie _ _ _)).trans (bM _ _ _)).mono (by omega)
 ·exact((pI s _).trans (bM _ _ _)).mono (by omega)
 ·exact((bG s _).trans (bM _ _ _)).mono (by omega)
 ·exact((kE s _ _).trans (bM _ _ _)).mono (by omega)
 ·exact((bG s _).trans (wJ _ _ _ _)).mono (by omega)
 ·exact((lF s _).trans (wJ _ _ _ _)).mono (by omega)
 ·exact(((kE s _ _).trans (jV _ _ _)).trans (bM _ _ _)).mono (by omega)
 ·exact((((kE s _ _).trans (bG _ _)).trans (iU _ _ _ _)).trans (iV _)).mono (by omega)
 ·exact((uX s _ _ _ _).trans (iV _)).mono (by omega)
 ·exact(Gw.refl s).mono (by omega)
theorem IE (s:Lk) (o f m:Int) (d r:Nat):Gw 60 s (s.bg o d r f m):=by
 unfold Lk.bg
 dsimp only
 repeat' with_reducible refine abA ?_ ?_
 ·exact(bK s _).mono (by omega)
 ·exact(bK s _).mono (by omega)
 ·exact(bK s _).mono (by omega)
 ·exact(((pI s _).trans (bK _ _)).trans (bK _ _)).mono (by omega)
 ·exact((bG s _).trans (bK _ _)).mono (by omega)
 ·exact(((kE s _ _).trans (jV _ _ _)).trans (bK _ _)).mono (by omega)
 ·exact(((lF s _).trans (mG _ _)).trans (bK _ _)).mono (by omega)
 ·exact((((bG s _).trans (lF _ _)).trans (mG _ _)).trans (bK _ _)).mono (by omega)
 ·exact((tu s).trans (bK _ _)).mono (by omega)
 ·exact(((bG s _).trans (mG _ _)).trans (iV _)).mono (by omega)
 ·exact((tu s).trans (bM _ _ _)).mono (by omega)
 ·exact(((kG s).trans (mG _ _)).trans (iV _)).mono (by omega)
 ·exact((((tu s).trans (lF _ _)).trans (jZ _ _ _ _)).trans (fZ _ _ _ _ _)).mono (by omega)
 ·exact(Gw.refl s).mono (by omega)
theorem NW (s:Lk) (o f m:Int) (d r:Nat):Gw 60 s (s.one o d r f m):=by
 unfold Lk.one
 split
 ·exact IC s o f m d r
 ·exact IE s o f m d r
structure IzR (M:MM) (pc:Int):Prop where
 o:0≤iz M pc 0∧iz M pc 0<32
 d:0≤iz M pc 1∧iz M pc 1<8
 s:0≤iz M pc 2∧iz M pc 2<8
 f:0≤iz M pc 3∧iz M pc 3<16
 m:0≤iz M pc 4∧iz M pc 4<4294967296
 n:0≤iz M pc 5∧iz M pc 5<8
theorem NY {M:MM} {pc:Int} (h:(ik M pc).1=0):dz (gq (kU M pc)) 6=0:=by
 unfold ik at h
 cases e1:bY M pc 1 with
 | some x=>rw [e1] at h;exact absurd h (by show¬ ((4:Int)=0);decide)
 | none=>
  rw [e1] at h
  dsimp only at h
  cases e2:bY M pc (jf M pc) with
  | some x=>rw [e2] at h;exact absurd h (by show¬ ((4:Int)=0);decide)
  | none=>
   rw [e2] at h
   dsimp only at h
   by_cases hz:dz (gq (kU M pc)) 6=0
   ·exact hz
   ·rw [if_neg hz] at h;exact absurd h (by show¬ ((3:Int)=0);decide)
theorem zG (M:MM) (hM:bQ M) (pc:Int):IzR M pc:=by
 by_cases h:(ik M pc).1=0
 ·have R:=sJ (kU M pc) (fun j=>iO hM _ _ j) (NY h)
  have e:∀i,iz M pc i=dz (gq (kU M pc)) i:=fun i=>by unfold iz;rw [if_pos h]
  exact⟨by rw [e];exact R.o,by rw [e];exact R.d,by rw [e];exact R.s,by rw [e];exact R.f,by rw [e];exact R.m,by rw [e];exact R.n⟩
 ·have e:∀i,iz M pc i=0:=fun i=>by unfold iz;rw [if_neg h]
  exact⟨by rw [e];decide,by rw [e];decide,by rw [e];decide,by rw [e];decide,by rw [e];decide,by rw [e];decide⟩
end Go.Proofs.YtcjcmnnhmajocabGreat.Lf
namespace Go.Proofs.YtcjcmnnhmajocabGreat.St
open Go.RowKit Kt Me Fl Gu
def iJ (R:Nat→Int) (pc f:Int):Value:= .agg #[.int .u32 (R 0), .int .u32 (R 1), .int .u32 (R 2), .int .u32 (R 3), .int .u32 (R 4), .int .u32 (R 5), .int .u32 (R 6), .int .u32 (R 7), .int .u32 pc, .int .u32 f]
def dS (o:Out):Value:= .tuple #[iJ o.R o.pc o.f, .agg #[.int .i64 o.k, .int .u32 o.x]]
def stay (R:Nat→Int) (pc f:Int) (o:Out):Out:=if o.k=0∨o.k=1 then o else⟨o.M,R,pc,f,o.k,o.x⟩
def stepO (M:MM) (R:Nat→Int) (pc f0:Int):Out:=
 match bY M pc 1 with
 | some x=>⟨M,R,pc,f0%16,4,x⟩
 | none=>match bY M pc (jf M pc) with
  | some x=>⟨M,R,pc,f0%16,4,x⟩
  | none=>
   if dz (gq (kU M pc)) 6=0 then
    stay R pc (f0%16) (gK M R pc (f0%16) (au (pc+dz (gq (kU M pc)) 5)) (dz (gq (kU M pc)) 0) (dz (gq (kU M pc)) 1).toNat (dz (gq (kU M pc)) 2).toNat (dz (gq (kU M pc)) 3) (dz (gq (kU M pc)) 4))
   else⟨M,R,pc,f0%16,3,0⟩
theorem NZ (o a b f:Int) (a0:0≤a) (a1:a<4294967296) (b0:0≤b) (b1:b<4294967296):0≤lW o a b f∧lW o a b f<4294967296:=by
 have h1:=jR .and a b a0 a1 b0 b1
 have h2:=jR .or a b a0 a1 b0 b1
 have h3:=jR .xor a b a0 a1 b0 b1
 have h4:=nY a (n5 b) (Uj b) a0 a1
 have h5:0≤a/2^n5 b∧a/2^n5 b≤a:=⟨Int.ediv_nonneg a0 (Int.le_of_lt (two_pow_pos _)),Int.ediv_le_self _ a0⟩
 have h6:0≤a/b∧a/b≤a:=⟨Int.ediv_nonneg a0 b0,Int.ediv_le_self _ a0⟩
 have h7:b≠0→0≤a%b∧a%b<b:=fun h=>⟨Int.emod_nonneg _ h,Int.emod_lt_of_pos _ (by omega)⟩
 have e1:0≤a*2^n5 b%4294967296∧a*2^n5 b%4294967296<4294967296:=⟨Int.emod_nonneg _ (by decide),Int.emod_lt_of_pos _ (by decide)⟩
 have e2:0≤sg a/2^n5 b%4294967296∧sg a/2^n5 b%4294967296<4294967296:=⟨Int.emod_nonneg _ (by decide),Int.emod_lt_of_pos _ (by decide)⟩
 have e3:0≤a*b%4294967296∧a*b%4294967296<4294967296:=⟨Int.emod_nonneg _ (by decide),Int.emod_lt_of_pos _ (by decide)⟩
 unfold lW
 by_cases e:o=0
 ·rw [if_pos e];omega
 rw [if_neg e];clear e
 by_cases e:o=1
 ·rw [if_pos e];omega
 rw [if_neg e];clear e
 by_cases e:o=2
 ·rw [if_pos e];omega
 rw [if_neg e];clear e
 by_cases e:o=3
 ·rw [if_pos e];omega
 rw [if_neg e];clear e
 by_cases e:o=4
 ·rw [if_pos e];exact h1
 rw [if_neg e];clear e
 by_cases e:o=5
 ·rw [if_pos e];exact h2
 rw [if_neg e];clear e
 by_cases e:o=6
 ·rw [if_pos e];exact h3
 rw [if_neg e];clear e
 by_cases e:o=7
 ·rw [if_pos e];exact⟨a0,a1⟩
 rw [if_neg e];clear e
 by_cases e:o=8
 ·rw [if_pos e];exact⟨a0,a1⟩
 rw [if_neg e];clear e
 by_cases e:o=9
 ·rw [if_pos e];exact e1
 rw [if_neg e];clear e
 by_cases e:o=10
 ·rw [if_pos e];exact⟨h5.1,Int.lt_of_le_of_lt h5.2 a1⟩
 rw [if_neg e];clear e
 by_cases e:o=11
 ·rw [if_pos e];exact e2
 rw [if_neg e];clear e
 by_cases e:o=12
 ·rw [if_pos e];exact h4
 rw [if_neg e];clear e
 by_cases e:o=13
 ·rw [if_pos e];exact e3
 rw [if_neg e];clear e
 by_cases e:o=14
 ·rw [if_pos e]
  split
  ·omega
  ·exact⟨h6.1,Int.lt_of_le_of_lt h6.2 a1⟩
 rw [if_neg e];clear e
 by_cases e:o=15
 ·rw [if_pos e]
  split
  ·omega
  ·next hb=>exact⟨(h7 hb).1,Int.lt_trans (h7 hb).2 b1⟩
 rw [if_neg e];omega
theorem N7 (o a b f:Int):0≤nR o a b f∧nR o a b f<16:=by
 have h0:=nD 1 a b f
 have h1:=nD 2 a b f
 have h2:=nD 3 a b f
 have h3:=nD 4 a b f
 have h4:=gX (bits .and .u32 a b)
 have h5:=gX (bits .or .u32 a b)
 have h6:=gX (bits .xor .u32 a b)
 have h7:=nD 6 a b f
 have h8:=nD 7 a b f
 have h9:=nD 8 a b f
 have BU:=nD 9 a b f
 have YR:=nD 10 a b f
 have Jk:=gX (a/b)
 have h13:=gX (a%b)
 unfold nR
 repeat' split
 all_goals omega
structure Jq (o:Out):Prop where
 M:bQ o.M
 R:qI o.R
 p:0≤o.pc∧o.pc<4294967296
 f:0≤o.f∧o.f<16
theorem pU {M:MM} {R:Nat→Int} {pc f q n:Int} {g:Int→Out} (hM:bQ M) (hR:qI R) (hp:0≤pc∧pc<4294967296) (hf:0≤f∧f<16) (h:∀v,0≤v→v<4294967296→Jq (g v)):Jq (ldO M R pc f q n g):=by
 unfold ldO
 have b:=ku hM q n
 split
 ·exact h _ b.1 b.2
 ·exact⟨hM,hR,hp,hf⟩
theorem oI {M:MM} {R:Nat→Int} {pc f q n v:Int} {g:MM→Out} (hM:bQ M) (hR:qI R) (hp:0≤pc∧pc<4294967296) (hf:0≤f∧f<16) (hv:0≤v∧v<4294967296) (h:∀M',bQ M'→Jq (g M')):Jq (mg M R pc f q n v g):=by
 unfold mg
 split
 ·exact h _ (hM.nU q n v hv.1 hv.2)
 ·exact⟨hM,hR,hp,hf⟩
theorem N8 (o v:Int) (v0:0≤v) (v1:v<4294967296):0≤jd o v∧jd o v<4294967296:=by
 unfold jd
 repeat' split
 all_goals omega
theorem XL (M:MM) (R:Nat→Int) (pc f nx k:Int) (d s:Nat) (o m:Int) (hM:bQ M) (hR:qI R) (hp:0≤pc∧pc<4294967296) (hf:0≤f∧f<16) (hx:0≤nx∧nx<4294967296) (hm:0≤m∧m<4294967296):
  Jq (gK M R pc f nx k d s o m):=by
 have W:=aP
 have hd:=hR d
 have hs:=hR s
 have h0:=hR 0
 have h7:=hR 7
 have F:=nD
 unfold gK
 by_cases e:k=0
 ·rw [if_pos e];exact⟨hM,hR,hx,hf⟩
 rw [if_neg e];clear e
 by_cases e:k=1
 ·rw [if_pos e];exact⟨hM,hR,hp,hf⟩
 rw [if_neg e];clear e
 by_cases e:k=2
 ·rw [if_pos e];exact pU hM hR hp hf fun v v0 v1=>⟨hM,hR.aF 7 _ (W _),⟨v0,v1⟩,hf⟩
 rw [if_neg e];clear e
 by_cases e:k=3
 ·rw [if_pos e];exact oI hM hR hp hf ⟨hf.1,by omega⟩ fun M' h=>⟨h,hR.aF 7 _ (W _),hx,hf⟩
 rw [if_neg e];clear e
 by_cases e:k=4
 ·rw [if_pos e];exact pU hM hR hp hf fun v v0 v1=>⟨hM,hR.aF 7 _ (W _),hx,by show 0≤v%16∧v%16<16;omega⟩
 rw [if_neg e];clear e
 by_cases e:k=5
 ·rw [if_pos e];exact⟨hM,hR,hx,hf⟩
 rw [if_neg e];clear e
 by_cases e:k=6∨k=7
 ·rw [if_pos e];exact⟨hM,hR,W _,hf⟩
 rw [if_neg e];clear e
 by_cases e:k=8
 ·rw [if_pos e];exact oI hM hR hp hf hx fun M' h=>⟨h,hR.aF 7 _ (W _),W _,hf⟩
 rw [if_neg e];clear e
 by_cases e:k=9
 ·rw [if_pos e];exact⟨hM,hR,hs,hf⟩
 rw [if_neg e];clear e
 by_cases e:k=10
 ·rw [if_pos e];exact oI hM hR hp hf hx fun M' h=>⟨h,hR.aF 7 _ (W _),hs,hf⟩
 rw [if_neg e];clear e
 by_cases e:k=11
 ·rw [if_pos e];exact pU hM hR hp hf fun v v0 v1=>⟨hM,hR,⟨v0,v1⟩,hf⟩
 rw [if_neg e];clear e
 by_cases e:k=12∨k=13
 ·rw [if_pos e]
  refine⟨hM,hR, ?_,hf⟩
  show 0≤(if Fl.hd o f then au (nx+m) else nx)∧_
  split
  ·exact W _
  ·exact hx
 rw [if_neg e];clear e
 by_cases e:k=14
 ·rw [if_pos e];exact oI hM hR hp hf hs fun M' h=>⟨h,hR.aF 7 _ (W _),hx,hf⟩
 rw [if_neg e];clear e
 by_cases e:k=15
 ·rw [if_pos e];exact pU hM hR hp hf fun v v0 v1=>⟨hM,(hR.aF 7 _ (W _)).aF d _ ⟨v0,v1⟩,hx,hf⟩
 rw [if_neg e];clear e
 by_cases e:k=16
 ·rw [if_pos e];exact⟨hM,hR.aF d _ hm,hx,hf⟩
 rw [if_neg e];clear e
 by_cases e:k=17
 ·rw [if_pos e];exact⟨hM,hR.aF d _ (W _),hx,F 11 (R d) 0 f⟩
 rw [if_neg e];clear e
 by_cases e:k=18
 ·rw [if_pos e];exact⟨hM,hR.aF d _ (W _),hx,F 12 (R d) 0 f⟩
 rw [if_neg e];clear e
 by_cases e:k=19
 ·rw [if_pos e];exact⟨hM,hR.aF d _ (W _),hx,F 3 0 (R d) f⟩
 rw [if_neg e];clear e
 by_cases e:k=20
 ·rw [if_pos e];exact⟨hM,hR.aF d _ (by omega),hx,hf⟩
 rw [if_neg e];clear e
 by_cases e:k=21
 ·rw [if_pos e];exact⟨hM,hR.aF d _ (by split<;>omega),hx,hf⟩
 rw [if_neg e];clear e
 by_cases e:k=22
 ·rw [if_pos e];exact⟨hM,hR.aF d _ hs,hx,hf⟩
 rw [if_neg e];clear e
 by_cases e:k=23
 ·rw [if_pos e];exact⟨hM,hR.aF d _ (W _),hx,hf⟩
 rw [if_neg e];clear e
 by_cases e:k=24
 ·rw [if_pos e];exact pU hM hR hp hf fun v v0 v1=>oI hM hR hp hf hd fun M' h=>⟨h,hR.aF d _ ⟨v0,v1⟩,hx,hf⟩
 rw [if_neg e];clear e
 by_cases e:k=25
 ·rw [if_pos e];exact pU hM hR hp hf fun v v0 v1=>oI hM hR hp hf (W _) fun M' h=>⟨h,hR.aF d _ ⟨v0,v1⟩,hx,F 1 v (R d) f⟩
 rw [if_neg e];clear e
 by_cases e:k=26
 ·rw [if_pos e]
  refine pU hM hR hp hf fun v v0 v1=> ?_
  by_cases g:R 0=v
  ·rw [if_pos g];exact oI hM hR hp hf hd fun M' h=>⟨h,hR,hx,F 3 (R 0) v f⟩
  ·rw [if_neg g];exact oI hM hR hp hf ⟨v0,v1⟩ fun M' h=>⟨h,hR.aF 0 _ ⟨v0,v1⟩,hx,F 3 (R 0) v f⟩
 rw [if_neg e];clear e
 by_cases e:k=27
 ·rw [if_pos e]
  split
  ·exact⟨hM,hR.aF d _ (NZ _ _ _ _ hd.1 hd.2 hs.1 hs.2),hx,N7 _ _ _ _⟩
  ·exact⟨hM,hR,hp,hf⟩
 rw [if_neg e];clear e
 by_cases e:k=28∨k=29
 ·rw [if_pos e]
  split
  ·exact⟨hM,hR.aF d _ (NZ _ _ _ _ hd.1 hd.2 hm.1 hm.2),hx,N7 _ _ _ _⟩
  ·exact⟨hM,hR,hp,hf⟩
 rw [if_neg e];clear e
 by_cases e:k=30
 ·rw [if_pos e];exact pU hM hR hp hf fun v v0 v1=>⟨hM,hR.aF d _ (N8 _ _ v0 v1),hx,hf⟩
 rw [if_neg e];clear e
 exact oI hM hR hp hf hd fun M' h=>⟨h,hR,hx,hf⟩
theorem Tn {R:Nat→Int} {pc f:Int} {o:Out} (h:Jq o) (hR:qI R) (hp:0≤pc∧pc<4294967296) (hf:0≤f∧f<16):Jq (stay R pc f o):=by
 unfold stay
 split
 ·exact h
 ·exact⟨h.M,hR,hp,hf⟩
theorem N9 {M:MM} (hM:bQ M) (pc:Int):∀j,0≤(kU M pc).getD j 0∧(kU M pc).getD j 0<256:=iO hM _ _
theorem Bv (M:MM) (R:Nat→Int) (pc f0:Int) (hM:bQ M) (hR:qI R) (hp:0≤pc∧pc<4294967296):Jq (stepO M R pc f0):=by
 have hf:0≤f0%16∧f0%16<16:=by omega
 unfold stepO
 split
 ·exact⟨hM,hR,hp,hf⟩
 ·split
  ·exact⟨hM,hR,hp,hf⟩
  ·split
   ·next e=>exact Tn (XL _ _ _ _ _ _ _ _ _ _ hM hR hp hf (aP _) (sJ _ (N9 hM pc) e).m) hR hp hf
   ·exact⟨hM,hR,hp,hf⟩
end Go.Proofs.YtcjcmnnhmajocabGreat.St
namespace Go.Proofs.YtcjcmnnhmajocabGreat.Lf
open Go.RowKit Kt Ic Me Gu St
structure Kp (M M':MM):Prop where
 r:M'.rt=M.rt
 w:M'.wd=M.wd
 h:∀p,M.hi p=true→M'.hi p=true
 b:∀j,M.wd (j/256)=true→M'.hi (j/256)=false→M'.fD j=M.fD j
theorem Kp.refl (M:MM):Kp M M:=⟨rfl,rfl,fun _ h=>h,fun _ _ _=>rfl⟩
theorem Kp.trans {A B C:MM} (h:Kp A B) (k:Kp B C):Kp A C:=
 ⟨k.r.trans h.r,k.w.trans h.w,fun p hp=>k.h p (h.h p hp),fun j hw hh=>by
  have h1:B.hi (j/256)=false:=by
   cases e:B.hi (j/256) with
   | false=>rfl
   | true=>rw [k.h _ e] at hh;exact absurd hh (by decide)
  exact(k.b j (by rw [h.w];exact hw) hh).trans (h.b j hw h1)⟩
theorem UM {α:Type} (f:Nat→α) (i:Nat) (x:α):aF f i x i=x:=if_pos rfl
theorem FX {α:Type} (f:Nat→α) {i j:Nat} (x:α) (h:j≠i):aF f i x j=f j:=if_neg h
theorem Kp.byte (M:MM) (a:Nat) (x:Int):Kp M (l7 {M with fD:=aF M.fD a x} (a/256)):=by
 unfold l7
 dsimp only
 cases hw:M.wd (a/256) with
 | false=>
  rw [Bool.false_and,if_neg (by decide)]
  refine⟨rfl,rfl,fun _ h=>h,fun j hj _=> ?_⟩
  have:j≠a:=by rintro rfl;rw [hw] at hj;exact absurd hj (by decide)
  exact FX _ _ this
 | true=>
  cases hh:M.hi (a/256) with
  | true=>
   rw [if_neg (by decide)]
   refine⟨rfl,rfl,fun _ h=>h,fun j _ hj=> ?_⟩
   have:j≠a:=by
    rintro rfl
    have hj':M.hi (j/256)=false:=hj
    rw [hh] at hj';exact absurd hj' (by decide)
   exact FX _ _ this
  | false=>
   rw [if_pos (by decide)]
   refine⟨rfl,rfl,fun p hp=> ?_,fun j _ hj=> ?_⟩
   ·show aF M.hi (a/256) true p=true
    by_cases e:p=a/256
    ·rw [e,UM]
    ·rw [FX _ _ e];exact hp
   ·have:j≠a:=by
     rintro rfl
     have hj':aF M.hi (j/256) true (j/256)=false:=hj
     rw [UM] at hj';exact absurd hj' (by decide)
    exact FX _ _ this
theorem Kp.pk (us:List Int):∀ (M:MM) (a:Nat),Kp M (pk M a us):=by
 induction us with
 | nil=>exact fun M _=>Kp.refl M
 | cons b bs ih=>exact fun M a=>(Kp.byte M a b).trans (ih _ _)
theorem Kp.nU (M:MM) (a n v:Int):Kp M (nU M a n v):=by
 unfold Me.nU
 split
 ·split
  ·exact Kp.pk _ _ _
  ·exact Kp.refl M
 ·exact Kp.refl M
theorem abC {M:MM} {R:Nat→Int} {pc f q n:Int} {g:Int→Out} (h:∀v,Kp M (g v).M):Kp M (ldO M R pc f q n g).M:=by
 unfold ldO
 split
 ·exact h _
 ·exact Kp.refl M
theorem abD {M:MM} {R:Nat→Int} {pc f q n v:Int} {g:MM→Out} (h:∀M',Kp M M'→Kp M (g M').M):Kp M (mg M R pc f q n v g).M:=by
 unfold mg
 split
 ·exact h _ (Kp.nU _ _ _ _)
 ·exact Kp.refl M
theorem abE {M:MM} {c:Prop} [Decidable c] {a b:Out} (h:Kp M a.M) (k:Kp M b.M):Kp M (if c then a else b).M:=by
 split
 ·exact h
 ·exact k
theorem XM (M:MM) (R:Nat→Int) (pc f nx k:Int) (d s:Nat) (o m:Int):Kp M (gK M R pc f nx k d s o m).M:=by
 unfold gK
 dsimp only
 repeat' first
  | with_reducible refine abE ?_ ?_
  | with_reducible refine abC fun _=> ?_
  | with_reducible refine abD fun _ hm=> ?_
  | exact Kp.refl M
  | exact hm
theorem uZ {M:MM} {pc:Int} (h:(ik M pc).1=0):bY M pc 1=none∧bY M pc (jf M pc)=none:=by
 unfold ik at h
 cases e1:bY M pc 1 with
 | some x=>rw [e1] at h;exact absurd h (by show¬ ((4:Int)=0);decide)
 | none=>
  rw [e1] at h
  dsimp only at h
  cases e2:bY M pc (jf M pc) with
  | some x=>rw [e2] at h;exact absurd h (by show¬ ((4:Int)=0);decide)
  | none=>exact⟨rfl,rfl⟩
theorem pV {M:MM} {pc:Int} (h:(ik M pc).1=0) (i:Nat):iz M pc i=dz (gq (kU M pc)) i:=by unfold iz;rw [if_pos h]
theorem Oa {M:MM} {R:Nat→Int} {pc f:Int} (h:(ik M pc).1=0):stepO M R pc f=stay R pc (f%16) (gK M R pc (f%16) (au (pc+iz M pc 5)) (iz M pc 0) (iz M pc 1).toNat (iz M pc 2).toNat (iz M pc 3) (iz M pc 4)):=by
 obtain⟨h1,h2⟩:=uZ h
 have hz:=NY h
 rw [pV h,pV h,pV h,pV h,pV h,pV h]
 unfold stepO
 rw [h1]
 dsimp only
 rw [h2]
 dsimp only
 rw [if_pos hz];rfl
theorem Ob {M:MM} {R:Nat→Int} {pc f:Int} (h:(ik M pc).1≠0):stepO M R pc f=⟨M,R,pc,f%16,(ik M pc).1,(ik M pc).2⟩:=by
 unfold ik at h⊢
 unfold stepO
 cases e1:bY M pc 1 with
 | some x=>rfl
 | none=>
  rw [e1] at h
  dsimp only at h⊢
  cases e2:bY M pc (jf M pc) with
  | some x=>rfl
  | none=>
   rw [e2] at h
   dsimp only at h⊢
   by_cases hz:dz (gq (kU M pc)) 6=0
   ·rw [if_pos hz] at h;exact absurd rfl h
   ·rw [if_neg hz,if_neg hz]
theorem aft (s:Int):0≤shSize s∧shSize s≤6:=by
 unfold shSize
 split<;>decide
theorem lS (M:MM) (pc:Int):0≤jf M pc∧jf M pc≤6:=aft _
theorem UN (M:MM) (a:Nat) {n:Nat} (h:0<n):(tZ M a n).getD 0 0=M.fD a:=by
 obtain⟨m,rfl⟩:∃m,n=m+1:=⟨n-1,by omega⟩
 unfold tZ
 rw [List.range_succ_eq_map]
 rfl
theorem qw {M:MM} {pc n:Int} (hn:0≤n∧n≤8) (h:bY M pc n=none):fB M pc n=tZ M pc.toNat n.toNat:=by
 unfold bY at h
 unfold fB
 rw [if_pos hn] at h⊢
 rw [h];rfl
theorem XO {r:Rw} {d s f:Int} {a:Nat→Int} (h:dz (Gu.fin r d s f a) 6=0):dz (Gu.fin r d s f a) 5=shSize r.sh:=by
 unfold Gu.fin at h⊢
 by_cases hk:oD r.sh d a<8∧oS r.sh s a<8
 ·rw [if_pos hk];rfl
 ·rw [if_neg hk] at h;exact absurd h (by decide)
theorem XP {M:MM} {pc:Int} (h:(ik M pc).1=0):iz M pc 5=jf M pc∧0<jf M pc:=by
 obtain⟨h1,h2⟩:=uZ h
 have hz:=NY h
 rw [pV h]
 have hb:=lS M pc
 have e1:=qw (n:=1) (by decide) h1
 have e2:=qw (n:=jf M pc) (by omega) h2
 have jS:jf M pc=shSize (rowOf (M.fD pc.toNat)).sh:=by
  unfold jf
  rw [e1,UN _ _ (by decide)]
 have hu:kU M pc=tZ M pc.toNat (jf M pc).toNat:=e2
 unfold gq at hz⊢
 by_cases c1:(kU M pc).length=0
 ·rw [if_pos c1] at hz;exact absurd hz (by decide)
 rw [if_neg c1] at hz⊢
 have hp:0<jf M pc:=by
  rcases Int.lt_or_le 0 (jf M pc) with e | e
  ·exact e
  ·exfalso
   apply c1
   rw [hu,show(jf M pc).toNat=0 by omega];rfl
 have hu0:(kU M pc).getD 0 0=M.fD pc.toNat:=by rw [hu,UN _ _ (by omega)]
 by_cases c2:shSize (rowOf ((kU M pc).getD 0 0)).sh=0
 ·rw [if_pos c2] at hz;exact absurd hz (by decide)
 rw [if_neg c2] at hz⊢
 by_cases c3:((kU M pc).length:Int) <shSize (rowOf ((kU M pc).getD 0 0)).sh
 ·rw [if_pos c3] at hz;exact absurd hz (by decide)
 rw [if_neg c3] at hz⊢
 refine⟨?_,hp⟩
 rw [XO hz,hu0,jS]
theorem Tq (M:MM) (pc:Int):0≤iz M pc 5∧iz M pc 5≤6:=by
 by_cases h:(ik M pc).1=0
 ·rw [(XP h).1];exact lS M pc
 ·unfold iz;rw [if_neg h];decide
theorem abG {M:MM} (hM:bQ M) (pc:Int):(iz M pc 0=30→iz M pc 3<5)∧(iz M pc 0=31→iz M pc 3<3):=by
 by_cases h:(ik M pc).1=0
 ·have R:=sJ (kU M pc) (fun j=>iO hM _ _ j) (NY h)
  rw [pV h,pV h];exact⟨R.ld,R.st⟩
 ·unfold iz;rw [if_neg h,if_neg h];decide
theorem abH {M:MM} {pc:Int} (c0:0≤pc∧pc<4294967296) (h:(ik M pc).1=0) (k:Nat) (hk:(k:Int) <iz M pc 5):pc+k<65536:=by
 obtain⟨h1,h2⟩:=uZ h
 have hb:=lS M pc
 rw [(XP h).1] at hk
 unfold bY at h2
 rw [if_pos (by omega)] at h2
 exact(iF c0.1 c0.2 h2 k (by omega) (by omega)).2
theorem Tt {M M':MM} (h1:M'.fD=M.fD) (h2:M'.rt=M.rt) (pc:Int):ik M' pc=ik M pc∧∀i,iz M' pc i=iz M pc i:=by
 obtain⟨a,b,c,d⟩:=M
 obtain⟨a',b',c',d'⟩:=M'
 dsimp only at h1 h2
 subst h1 h2
 exact⟨rfl,fun _=>rfl⟩
theorem Tv {M M':MM} (h:M'.rt=M.rt) (r a:Int) (n:Nat):aQ M' r a n=aQ M r a n:=by
 unfold aQ lY
 rw [h]
theorem FY {M M':MM} (h:M'.rt=M.rt) (a n:Int):bY M' a n=bY M a n:=by
 unfold bY
 rw [Tv h]
theorem Oe {M M':MM} {a n:Nat} (h:∀j,j<n→M'.fD (a+j)=M.fD (a+j)):tZ M' a n=tZ M a n:=by
 unfold tZ
 exact List.map_congr_left fun j hj=>h j (List.mem_range.1 hj)
theorem Tz {M M':MM} {pc:Int} (hr:M'.rt=M.rt) (h:(ik M pc).1=0) (hb:∀j:Nat,(j:Int) <iz M pc 5→M'.fD (pc.toNat+j)=M.fD (pc.toNat+j)):(ik M' pc).1=0∧∀i,iz M' pc i=iz M pc i:=by
 obtain⟨h1,h2⟩:=uZ h
 obtain⟨h5,hp⟩:=XP h
 have hz:=NY h
 have b6:=lS M pc
 have h1':bY M' pc 1=none:=(FY hr _ _).trans h1
 have e1:fB M' pc 1=fB M pc 1:=by
  rw [qw (by decide) h1',qw (by decide) h1]
  exact Oe fun j hj=>hb j (by rw [h5];have:j<1:=hj;omega)
 have es:jf M' pc=jf M pc:=by unfold jf;rw [e1]
 have h2':bY M' pc (jf M' pc)=none:=by rw [es];exact(FY hr _ _).trans h2
 have eu:kU M' pc=kU M pc:=by
  unfold kU
  rw [es] at h2'⊢
  rw [qw (by omega) h2',qw (by omega) h2]
  exact Oe fun j hj=>hb j (by rw [h5];omega)
 have hk:(ik M' pc).1=0:=by
  unfold ik
  rw [h1']
  dsimp only
  rw [h2']
  dsimp only
  rw [eu,if_pos hz]
 exact⟨hk,fun i=>by rw [pV hk,pV h,eu]⟩
theorem Og {f:Nat→Bool}:∀n,cntN f n=0→∀k,k<n→f k=false
 | 0,_,k,hk=>absurd hk (Nat.not_lt_zero _)
 | n+1,h,k,hk=>by
  unfold cntN at h
  have hs:cntN f n=0∧f n=false:=by
   cases e:f n with
   | false=>rw [e] at h;exact⟨by simpa using h,rfl⟩
   | true=>rw [e] at h;simp at h
  by_cases oQ:k=n
  ·rw [oQ];exact hs.2
  ·exact Og n hs.1 k (by omega)
theorem TA {f:Nat→Bool} (h:dG f=false) (k:Nat) (hk:k<256):f k=false:=by
 unfold dG at h
 rw [decide_eq_false_iff_not] at h
 exact Og 256 (by omega) k hk
open Ev
open St (jf)
open Ot (Fp GV Pre mD bZ dW)
variable {s s' a b:Lk}
theorem Px.mY (s:Lk) (o:Int) (d:Nat) (x y:Int):Px s (s.mY o d x y):=by
 unfold Lk.mY
 exact(Px.flag _ _ _ _ _).to<| (Px.set _ _ _).to<| (Px.B _ _ _ _).to<| (Px.B _ _ _ _).to<| (Px.B _ _ _ _).to<| (Px.K _ _).to<| (Px.B _ _ _ _).to<| (Px.K _ _).to<| Px.now s
theorem Px.lZ (s:Lk) (o:Int) (d:Nat) (y:Int):Px s (s.lZ o d y):=by
 unfold Lk.lZ
 refine Px.kC ((Px.mY _ _ _ _ _).to (Px.get s d)) ?_
 refine(Px.flag _ _ _ _ _).to ?_
 have h1:Px s (if o=14∨o=15 then(((s.get d).2.U 6 y).2.put ⟨13,7,((s.get d).2.U 6 y).1,0,0,s.pc,s.aj-1⟩) else(s.get d).2):=Px.kC ((Px.put _ _).to ((Px.U _ _ _).to (Px.get s d))) (Px.get s d)
 dsimp only
 generalize(if o=14∨o=15 then(((s.get d).2.U 6 y).2.put ⟨13,7,((s.get d).2.U 6 y).1,0,0,s.pc,s.aj-1⟩) else(s.get d).2)=s1 at h1⊢
 have h2:Px s (if 6≤(way o).2∧(way o).2≤9 then s1.now else(-1,s1)).2:=Px.DY ((Px.now _).to h1) h1
 generalize(if 6≤(way o).2∧(way o).2≤9 then s1.now else(-1,s1))=s2 at h2⊢
 have h3:Px s (if o≠7 then s2.2.B (way o).1 (s.get d).1 y else(0,s2.2)).2:=Px.DY ((Px.B _ _ _ _).to h2) h2
 generalize(if o≠7 then s2.2.B (way o).1 (s.get d).1 y else(0,s2.2))=v at h3⊢
 exact Px.kC ((Px.set _ _ _).to h3) h3
theorem Px.both (s:Lk) (o:Int) (d r:Nat) (m:Int):Px s (s.both o d r m):=by
 unfold Lk.both
 have h1:Px s (((s.ig r m).2.get d).2.load 4 (s.ig r m).1).2:=(Px.load _ _ _).to ((Px.get _ _).to (Px.ig s r m))
 refine Px.kC ((Px.set _ _ _).to ((Px.store _ _ _ _).to h1)) (Px.kC ?_ ?_)
 ·exact(Px.flag _ _ _ _ _).to ((Px.set _ _ _).to ((Px.store _ _ _ _).to ((Px.B _ _ _ _).to h1)))
 ·exact(Px.flag _ _ _ _ _).to ((Px.set _ _ _).to ((Px.store _ _ _ _).to ((Px.S _ _ _ _).to ((Px.B _ _ _ _).to ((Px.get _ _).to h1)))))
theorem Px.plain (s:Lk) (o:Int) (d r:Nat) (f m:Int):Px s (s.plain o d r f m).2:=by
 unfold Lk.plain
 refine Px.DY ?_<| Px.DY ?_<| Px.DY ?_<| Px.DY ?_<| Px.DY ?_<| Px.DY ?_<| Px.DY ?_<| Px.DY ?_<| Px.DY ?_<| Px.DY ?_<| Px.DY ?_<| Px.DY ?_<| Px.DY ?_ ?_
 ·exact Px.refl s
 ·exact(Px.set _ _ _).to (Px.K s _)
 ·exact(Px.flag _ _ _ _ _).to ((Px.set _ _ _).to ((Px.add _ _ _).to ((Px.now _).to (Px.get s d))))
 ·dsimp only
  exact(Px.flag _ _ _ _ _).to ((Px.set _ _ _).to ((Px.U _ _ _).to ((Px.K _ _).to (Px.get s d))))
 ·exact(Px.set _ _ _).to ((Px.U _ _ _).to (Px.get s d))
 ·exact(Px.set _ _ _).to (Px.holds s f)
 ·exact(Px.set _ _ _).to (Px.get s r)
 ·exact(Px.set _ _ _).to (Px.ig s r m)
 ·exact(Px.lZ _ _ _ _).to (Px.get s r)
 ·exact(Px.lZ _ _ _ _).to (Px.K s m)
 ·exact(Px.set _ _ _).to ((Px.load _ _ _).to (Px.ig s r m))
 ·exact(Px.watch _).to ((Px.store _ _ _ _).to ((Px.get _ _).to (Px.ig s r m)))
 ·exact(Px.watch _).to (Px.both s o d r m)
 ·exact Px.refl s
theorem Px.bg (s:Lk) (o:Int) (d r:Nat) (f m:Int):Px s (s.bg o d r f m):=by
 unfold Lk.bg
 refine Px.kC ?_<| Px.kC ?_<| Px.kC ?_<| Px.kC ?_<| Px.kC ?_<| Px.kC ?_<| Px.kC ?_<| Px.kC ?_<| Px.kC ?_<| Px.kC ?_<| Px.kC ?_<| Px.kC ?_<| Px.kC ?_ ?_
 ·exact Px.put s _
 ·exact Px.put s _
 ·exact Px.goes s _
 ·exact(Px.goes _ _).to ((Px.put _ _).to (Px.holds s f))
 ·exact(Px.dK _ _).to (Px.get s r)
 ·exact(Px.dK _ _).to ((Px.load _ _ _).to (Px.ig s r m))
 ·exact(Px.goes _ _).to ((Px.push _ _).to (Px.K s _))
 ·exact(Px.dK _ _).to ((Px.push _ _).to ((Px.K _ _).to (Px.get s r)))
 ·exact(Px.dK _ _).to (Px.pop s)
 ·exact(Px.watch _).to ((Px.push _ _).to (Px.get s r))
 ·exact(Px.set _ _ _).to (Px.pop s)
 ·exact(Px.watch _).to ((Px.push _ _).to (Px.now s))
 ·exact(Px.flag _ _ _ _ _).to ((Px.B _ _ _ _).to ((Px.K _ _).to (Px.pop s)))
 ·exact Px.refl s
theorem Px.one (s:Lk) (o:Int) (d r:Nat) (f m:Int):Px s (s.one o d r f m):=Px.kC (Px.plain s o d r f m) (Px.bg s o d r f m)
def Lk.Jr (s:Lk) (M:MM):Lk:={s with nx:=au (s.pc+iz M s.pc 5),aj:=s.aj+1,aN:=s.aN+iz M s.pc 5}
def Lk.ins (s:Lk) (M:MM):Lk:=(s.Jr M).one (iz M s.pc 0) (iz M s.pc 1).toNat (iz M s.pc 2).toNat (iz M s.pc 3) (iz M s.pc 4)
structure Nx (M:MM) (s t:Lk):Prop where
 aj:t.aj=s.aj+1
 aN:t.aN=s.aN+iz M s.pc 5
 jg:t.jg=s.jg
 pc:t.pc=au (s.pc+iz M s.pc 5)
 o:∃l,t.ops=s.ops++l
theorem tV (M:MM) (s:Lk):Nx M s (s.xg M):=by
 have g:=NW (s.Jr M) (iz M s.pc 0) (iz M s.pc 3) (iz M s.pc 4) (iz M s.pc 1).toNat (iz M s.pc 2).toNat
 have p:=Px.one (s.Jr M) (iz M s.pc 0) (iz M s.pc 1).toNat (iz M s.pc 2).toNat (iz M s.pc 3) (iz M s.pc 4)
 exact⟨g.aj,g.fD,g.bp,g.nx,p.o⟩
structure Bd (M:MM) (q:Int) (s:Lk):Prop where
 p:Pre s.aj s.ops
 r:∀j,j<8→GM s.ops (s.reg j)
 f:s.kn=true→(0≤s.kd∧s.kd≤12)∧GM s.ops s.fa∧GM s.ops s.fb∧GM s.ops s.fo∧(s.kd=0→GV s.ops s.fo)
 c:0≤s.aj∧s.aj≤64
 y:0≤s.aN∧s.aN≤6*s.aj
 b:s.pc=au (q+s.aN)∧s.jg=q
 n:(s.ops.length:Int)≤25*s.aj
theorem Oh {c c':Int} {o:aV} (h:Ot.Loc c o) (hc:c≤c'):Ot.Loc c' o:=by
 refine⟨h.r, ?_⟩
 have he:=h.e
 unfold Ot.vZ at he⊢
 have e4:e4 (rK o.k) (rN o.k) c' o.kn o.n=true→e4 (rK o.k) (rN o.k) c o.kn o.n=true:=by
  unfold Ic.e4
  intro h
  simp only [Bool.or_eq_true,decide_eq_true_eq] at h⊢
  rcases h with h | h | h | h
  ·exact .inl h
  ·exact .inr (.inl h)
  ·exact .inr (.inr (.inl h))
  ·exact .inr (.inr (.inr (by omega)))
 revert e4
 generalize Ic.e4 (rK o.k) (rN o.k) c' o.kn o.n=x at*
 generalize Ic.e4 (rK o.k) (rN o.k) c o.kn o.n=y at*
 intro e4
 cases y with
 | true=>simp at he
 | false=>
  cases x with
  | true=>exact absurd (e4 rfl) (by decide)
  | false=>exact he
theorem Oi {c c':Int} {ops:List aV} (h:Pre c ops) (hc:c≤c'):Pre c' ops:=⟨⟨fun m hm=>Oh (h.a.l m hm) hc,h.a.t⟩,h.f⟩
theorem Bd.Jr {M:MM} {q:Int} (h:Bd M q s) (h64:s.aj<64):Gd (25*s.aj).toNat 0 (s.Jr M):=
 ⟨Oi h.p (by show s.aj≤s.aj+1;omega),h.r,h.f,⟨by show 1≤s.aj+1;have:=h.c;omega,by show s.aj+1≤64;omega⟩,⟨by rw [show(s.Jr M).pc=s.pc from rfl,h.b.1];exact(aP _).1,by rw [show(s.Jr M).pc=s.pc from rfl,h.b.1];exact(aP _).2,(aP _).1,(aP _).2⟩,
  by show s.ops.length≤_;have:=h.n;omega,by have:=h.c;omega⟩
theorem vg (x y:Int):au (au x+y)=au (x+y):=by unfold au;omega
structure BF (q:Int) (t:Lk):Prop where
 g:Ot.Good t.aj t.ops
 y:0≤t.aN∧t.aN≤384
 b:t.jg=q
theorem Fn.bf {n:Nat} {q:Int} {t:Lk} (h:Fn n t) (hn:n≤2000) (hc:0≤t.aj∧t.aj≤64) (hy:0≤t.aN∧t.aN≤384) (hb:t.jg=q):BF q t:=⟨⟨h.n0,by have:=h.n;omega,hc,h.a,h.f⟩,hy,hb⟩
theorem XQ {M:MM} (hM:bQ M) {q:Int} (h:Bd M q s) (h64:s.aj<64):(en (iz M s.pc 0)=false→Bd M q (s.xg M))∧(en (iz M s.pc 0)=true→BF q (s.xg M)):=by
 have R:=zG M hM s.pc
 have L:=abG hM s.pc
 have n6:=Tq M s.pc
 have g:=(h.Jr h64 (M:=M)).one (by decide) R.o (d:=(iz M s.pc 1).toNat) (r:=(iz M s.pc 2).toNat) (by have:=R.d;omega) (by have:=R.s;omega) R.f L.1 L.2 R.m
 have x:=tV M s
 have hy:=h.y
 have hc:=h.c
 refine⟨fun e=> ?_,fun e=> ?_⟩
 ·have g1:=g.go e
  refine⟨?_,g1.r,g1.f,by rw [x.aj];omega,by rw [x.aj,x.aN];omega,⟨by rw [x.pc,x.aN,h.b.1,vg,Int.add_assoc],x.jg.trans h.b.2⟩, ?_⟩
  ·exact g1.p
  ·have:=g1.n
   have l:(s.xg M).ops.length≤(25*s.aj).toNat+(0+25):=this
   rw [x.aj];omega
 ·have g1:=g.fin e
  have g2:Fn ((25*s.aj).toNat+(0+25)) (s.xg M):=⟨g1.a,g1.f,g1.n0,g1.n⟩
  exact g2.bf (by omega) (by rw [x.aj];omega) (by rw [x.aN];omega) (x.jg.trans h.b.2)
theorem Bd.gd {M:MM} {q:Int} (h:Bd M q s) (h1:1≤s.aj):Gd (25*s.aj).toNat 0 {s with nx:=0}:=
 ⟨h.p,h.r,h.f,⟨h1,h.c.2⟩,⟨by show 0≤s.pc;rw [h.b.1];exact(aP _).1,by show s.pc<_;rw [h.b.1];exact(aP _).2,by show(0:Int)≤0;decide,by show(0:Int) <4294967296;decide⟩,by show s.ops.length≤_;have:=h.n;omega,by have:=h.c;omega⟩
theorem Bd.out {M:MM} {q:Int} (h:Bd M q s) (h1:1≤s.aj):BF q (s.put ⟨15,0,0,0,0,s.pc,s.aj⟩):=by
 have g:=(h.gd h1).goes (t:=s.pc) (by rw [h.b.1];exact aP _)
 have g2:Fn ((25*s.aj).toNat+(0+1)) (s.put ⟨15,0,0,0,0,s.pc,s.aj⟩):=⟨g.a,g.f,g.n0,g.n⟩
 have hc:=h.c
 have hy:=h.y
 exact g2.bf (by omega) hc (by show 0≤s.aN∧s.aN≤384;omega) h.b.2
theorem TD {M:MM} {r a x:Int} {n:Nat} (h:aQ M r a n=some x):0≤x∧x<4294967296:=by
 unfold aQ at h
 have:=List.mem_of_find?_eq_some h
 obtain⟨k,_,rfl⟩:=List.mem_map.1 this
 exact Df a k
theorem FZ {M:MM} {a n x:Int} (h:bY M a n=some x):0≤x∧x<4294967296:=by
 unfold bY at h
 split at h
 ·exact TD h
 ·cases h
theorem Oj (M:MM) (pc:Int):((ik M pc).1=0∨(ik M pc).1=3∨(ik M pc).1=4)∧0≤(ik M pc).2∧(ik M pc).2<4294967296:=by
 unfold ik
 cases e:bY M pc 1 with
 | some x=>exact⟨.inr (.inr rfl),FZ e⟩
 | none=>
  dsimp only
  cases e2:bY M pc (jf M pc) with
  | some x=>exact⟨.inr (.inr rfl),FZ e2⟩
  | none=>
   dsimp only
   split
   ·exact⟨.inl rfl,by decide⟩
   ·exact⟨.inr (.inl rfl),by decide⟩
theorem TF {q k x:Int} (s:Lk) (h:s.ops= []) (hq:s.jg=q) (hc:s.aj=0) (hy:s.aN=0) (hp:0≤s.pc∧s.pc<4294967296) (hk:1≤k∧k<8) (hx:0≤x∧x<4294967296):BF q (s.put ⟨14,k,0,x,0,s.pc,0⟩):=by
 have hl:Ot.Loc s.aj ⟨14,k,0,x,0,s.pc,0⟩:=jv 14 k 0 x 0 s.pc 0 rfl (by decide) ⟨by omega,show k<8 by omega⟩ (by decide) (fun _=>by omega) hp (fun e=>nomatch e) ⟨Int.le_refl 0,by omega⟩ (by omega) (fun e=>nomatch e) (fun _=>rfl) (fun _ e=>nomatch e) (fun _=>hx) (fun _=>rfl) z6 (Ot.i6 x (by omega)) z6
 have hf:Fn 1 (s.put ⟨14,k,0,x,0,s.pc,0⟩):=by
  have e:(s.put ⟨14,k,0,x,0,s.pc,0⟩).ops= []++ [⟨14,k,0,x,0,s.pc,0⟩]:=by show s.ops++_=_;rw [h]
  refine⟨?_, ?_, ?_, ?_⟩
  ·rw [e];exact(mD.nil _).app hl (Ot.jU rfl rfl rfl)
  ·rw [e]
   intro m hm
   have:m=0:=by simpa using hm
   subst this
   exact⟨fun _=>rfl,fun _=>rfl⟩
  ·rw [e];exact Nat.lt_succ_self 0
  ·rw [e];exact Nat.le_refl 1
 exact hf.bf (by decide) (by show 0≤s.aj∧s.aj≤64;omega) (by show 0≤s.aN∧s.aN≤384;omega) hq
theorem Ol {M:MM} (hM:bQ M) {q:Int}:∀ (n:Nat) (s:Lk),Bd M q s→s.aj+n≤64→(s.aj=0→0<n∧s.ops= [])→BF q (blk M n s)
 | 0,s,h,_,h0=>by
  have hc:=h.c
  exact h.out (by rcases(show s.aj=0∨1≤s.aj by omega) with e | e;exact absurd (h0 e).1 (by decide);exact e)
 | n+1,s,h,hn,h0=>by
  have hc:=h.c
  unfold blk
  by_cases e:(ik M s.pc).1≠0
  ·rw [if_pos e]
   by_cases e0:s.aj=0
   ·rw [if_pos e0]
    have r:=Oj M s.pc
    have hy:=h.y
    exact TF s (h0 e0).2 h.b.2 e0 (by omega) (by rw [h.b.1];exact aP _) (by omega) r.2
   ·rw [if_neg e0]
    exact h.out (by omega)
  ·rw [if_neg e]
   have g:=XQ hM h (by omega)
   by_cases e2:en (iz M s.pc 0)=true
   ·rw [if_pos e2];exact g.2 e2
   ·rw [if_neg e2]
    have x:=tV M s
    exact Ol hM n (s.xg M) (g.1 (by simpa using e2)) (by rw [x.aj];omega) (fun e=>by rw [x.aj] at e;omega)
theorem XT (M:MM) (q:Int) (hq:0≤q∧q<4294967296):Bd M q (Pv q):=
 ⟨⟨mD.nil _,fun m hm=>absurd hm (Nat.not_lt_zero m)⟩,fun _ _=> .inl rfl,(fun e=>absurd e Bool.false_ne_true),⟨Int.le_refl 0,by show(0:Int)≤64;decide⟩,⟨Int.le_refl 0,by show(0:Int)≤6*0;decide⟩,⟨by show q=au (q+0);unfold au;omega,rfl⟩,by show((0:Nat):Int)≤25*0;decide⟩
theorem En (most:Int):0<xC most∧xC most≤64:=by unfold xC;omega
theorem F5 {M:MM} (hM:bQ M) {q:Int} (hq:0≤q∧q<4294967296) (most:Int):BF q (eU M q most):=by
 have hm:=En most
 exact Ol hM _ _ (XT M q hq) (by show(0:Int)+(xC most:Int)≤64;omega) fun _=>⟨hm.1,rfl⟩
def lng (M:MM) (q:Int):Nat→Int→Int→Int×Int×Int×Int
 | 0,n,z=>(n,z,0,0)
 | k+1,n,z=>
  if(ik M (au (q+z))).1≠0 then(if n=0 then(0,0,(ik M (au (q+z))).1,(ik M (au (q+z))).2) else(n,z,0,0))
  else if en (iz M (au (q+z)) 0) then(n+1,z+iz M (au (q+z)) 5,0,0) else lng M q k (n+1) (z+iz M (au (q+z)) 5)
structure BL (M:MM) (q:Int) (t:Lk) (r:Int×Int×Int×Int):Prop where
 c:r.1=t.aj
 y:r.2.1=t.aN
 s:t.aj=0→t.aN=0∧(ik M q).1≠0∧r.2.2=ik M q∧t.ops= [⟨14,(ik M q).1,0,(ik M q).2,0,q,0⟩]
theorem F6 {M:MM} {q:Int} (hq:0≤q∧q<4294967296):∀ (n:Nat) (s:Lk),s.pc=au (q+s.aN)→0≤s.aj→(s.aj=0→0<n∧s.ops= []∧s.aN=0)→BL M q (blk M n s) (lng M q n s.aj s.aN)
 | 0,s,_,hc,h0=>⟨rfl,rfl,fun e=>absurd (h0 e).1 (by decide)⟩
 | n+1,s,hp,hc,h0=>by
  unfold blk lng
  rw [←hp]
  by_cases e:(ik M s.pc).1≠0
  ·rw [if_pos e,if_pos e]
   by_cases e0:s.aj=0
   ·obtain⟨_,h1,h2⟩:=h0 e0
    have Dq:s.pc=q:=by rw [hp,h2];unfold au;omega
    rw [if_pos e0,if_pos e0]
    refine⟨e0.symm,h2.symm,fun _=>⟨h2,by rw [←Dq];exact e,by rw [Dq], ?_⟩⟩
    show s.ops++_=_
    rw [h1,Dq];rfl
   ·rw [if_neg e0,if_neg e0]
    exact⟨rfl,rfl,fun e=>absurd e e0⟩
  ·rw [if_neg e,if_neg e]
   have x:=tV M s
   by_cases e2:en (iz M s.pc 0)=true
   ·rw [if_pos e2,if_pos e2]
    exact⟨x.aj.symm,x.aN.symm,fun e=>by rw [x.aj] at e;omega⟩
   ·rw [if_neg e2,if_neg e2]
    have:=F6 (M:=M) hq n (s.xg M) (by rw [x.pc,x.aN,hp,vg,Int.add_assoc]) (by rw [x.aj];omega) (fun e=>by rw [x.aj] at e;omega)
    rw [x.aj,x.aN] at this
    exact this
theorem Om {M:MM} {q:Int} (hq:0≤q∧q<4294967296) (most:Int):BL M q (eU M q most) (lng M q (xC most) 0 0):=
 F6 hq (xC most) (Pv q) (by show q=au (q+0);unfold au;omega) (Int.le_refl 0) fun _=>⟨(En most).1,rfl,rfl⟩
end Go.Proofs.YtcjcmnnhmajocabGreat.Lf
