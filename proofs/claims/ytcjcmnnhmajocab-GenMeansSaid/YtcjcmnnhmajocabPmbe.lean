import Derived.Test.YtcjcmnnhmajocabPmbd
set_option linter.unusedVariables false
set_option linter.unusedSimpArgs false
set_option maxRecDepth 100000
set_option maxHeartbeats 16000000
namespace Go.Proofs.Ytcjcmnnhmajocab.Gn
open Go.RowKit Kt Ic Hr Ho Me
def TS (B:Nat) (l:List Int) (ao:Option Addr) (cap:Nat) (w:World):Prop:=l.length≤cap∧(0<l.length→∃b,ao=some ⟨b,0,none⟩∧B≤b∧b<w.heap.size∧∀j,j<l.length→w.cell? ⟨b,j,none⟩=some (.int .i64 (l.getD j 0)))
theorem TS.upto {B:Nat} {l:List Int} {ao:Option Addr} {cap:Nat} {S:Nat→Prop} {w w':World} (a:TS B l ao cap w) (u:ah S w w') (hs:∀q,ao=some q→0<l.length→¬S q.block):TS B l ao cap w':=by
 obtain⟨h1,h2⟩:=a
 refine⟨h1,fun h0=> ?_⟩
 obtain⟨b,e,l1,l2,hc⟩:=h2 h0
 exact⟨b,e,l1,Nat.lt_of_lt_of_le l2 u.size,fun j hj=>(u.cell (q:=⟨b,j,none⟩) l2 (show¬S b from hs _ e h0)).trans (hc j hj)⟩
theorem kL (w:World) (B:Nat) (l:List Int) (cs:Array Value) (t:TypeId) (hB:B≤w.heap.size) (hcs:cs=(l.map (Value.int .i64)).toArray):TS B l (some ⟨w.heap.size,0,none⟩) l.length (w.alloc (.cells cs t)):=by
 refine⟨Nat.le_refl _,fun _=>⟨w.heap.size,rfl,hB,by simp,fun j hj=> ?_⟩⟩
 subst hcs
 rw [cell_of_row _ w.heap.size j _ _ _ (heap_alloc_new w _),List.getElem?_toArray,List.getElem?_map,List.getD_eq_getElem?_getD,List.getElem?_eq_getElem hj]
 rfl
theorem xZ (o:cZ) (w:World):
  Calls Try.prog 46 #[.agg #[.int .i64 o.k, .int .i64 o.w, .int .i64 o.a, .int .i64 o.b, .int .i64 o.c, .int .u32 o.kn, .int .i64 o.n]] w fun e w'=>(∃ao cap,e= .returned (.slice ao (tk o).length cap)∧TS w.heap.size (tk o) ao cap w')∧Below w.heap.size w w':=by
 obtain⟨k,ow,a,b,c,kn,n⟩:=o
 have b1:=((Below.refl w.heap.size w).alloc (Nat.le_refl _) (.cells #[.int .i64 k, .int .i64 ow, .int .i64 a, .int .i64 b, .int .i64 c, .int .u32 kn, .int .i64 n] 31))
 have B1:=κ b1
 have sz:(w.alloc (.cells #[.int .i64 k, .int .i64 ow, .int .i64 a, .int .i64 b, .int .i64 c, .int .u32 kn, .int .i64 n] 31)).heap.size=w.heap.size+1:=by simp
 have SZ:=κ sz
 clear b1 sz
 dsimp only
 by_cases hk:k=4∨k=10∨k=6∨k=7∨k=3∨k=5∨k=8∨k=9∨k=12∨k=13∨k=16
 ·rcases hk with rfl | rfl | rfl | rfl | rfl | rfl | rfl | rfl | rfl | rfl | rfl
  ·rw [show tk ⟨4,ow,a,b,c,kn,n⟩= [a,b] from rfl] at*
   go_enter Try.func46,Try.ntmps46
   go_wp2
   go_ret
   refine⟨⟨_,_,rfl, ?_⟩,B1.out.alloc (by rw [SZ.out];omega) _⟩
   have:=kL (w.alloc (.cells #[.int .i64 4, .int .i64 ow, .int .i64 a, .int .i64 b, .int .i64 c, .int .u32 kn, .int .i64 n] 31)) w.heap.size [a,b] #[.int .i64 a, .int .i64 b] 3 (by rw [SZ.out];omega) rfl
   rw [SZ.out] at this
   exact this
  ·rw [show tk ⟨10,ow,a,b,c,kn,n⟩= [a,b] from rfl] at*
   go_enter Try.func46,Try.ntmps46
   go_wp2
   go_ret
   refine⟨⟨_,_,rfl, ?_⟩,B1.out.alloc (by rw [SZ.out];omega) _⟩
   have:=kL (w.alloc (.cells #[.int .i64 10, .int .i64 ow, .int .i64 a, .int .i64 b, .int .i64 c, .int .u32 kn, .int .i64 n] 31)) w.heap.size [a,b] #[.int .i64 a, .int .i64 b] 3 (by rw [SZ.out];omega) rfl
   rw [SZ.out] at this
   exact this
  ·rw [show tk ⟨6,ow,a,b,c,kn,n⟩= [a,b,c] from rfl] at*
   go_enter Try.func46,Try.ntmps46
   go_wp2
   go_ret
   refine⟨⟨_,_,rfl, ?_⟩,B1.out.alloc (by rw [SZ.out];omega) _⟩
   have:=kL (w.alloc (.cells #[.int .i64 6, .int .i64 ow, .int .i64 a, .int .i64 b, .int .i64 c, .int .u32 kn, .int .i64 n] 31)) w.heap.size [a,b,c] #[.int .i64 a, .int .i64 b, .int .i64 c] 3 (by rw [SZ.out];omega) rfl
   rw [SZ.out] at this
   exact this
  ·rw [show tk ⟨7,ow,a,b,c,kn,n⟩= [a,b,c] from rfl] at*
   go_enter Try.func46,Try.ntmps46
   go_wp2
   go_ret
   refine⟨⟨_,_,rfl, ?_⟩,B1.out.alloc (by rw [SZ.out];omega) _⟩
   have:=kL (w.alloc (.cells #[.int .i64 7, .int .i64 ow, .int .i64 a, .int .i64 b, .int .i64 c, .int .u32 kn, .int .i64 n] 31)) w.heap.size [a,b,c] #[.int .i64 a, .int .i64 b, .int .i64 c] 3 (by rw [SZ.out];omega) rfl
   rw [SZ.out] at this
   exact this
  ·rw [show tk ⟨3,ow,a,b,c,kn,n⟩= [a] from rfl] at*
   go_enter Try.func46,Try.ntmps46
   go_wp2
   go_ret
   refine⟨⟨_,_,rfl, ?_⟩,B1.out.alloc (by rw [SZ.out];omega) _⟩
   have:=kL (w.alloc (.cells #[.int .i64 3, .int .i64 ow, .int .i64 a, .int .i64 b, .int .i64 c, .int .u32 kn, .int .i64 n] 31)) w.heap.size [a] #[.int .i64 a] 3 (by rw [SZ.out];omega) rfl
   rw [SZ.out] at this
   exact this
  ·rw [show tk ⟨5,ow,a,b,c,kn,n⟩= [a] from rfl] at*
   go_enter Try.func46,Try.ntmps46
   go_wp2
   go_ret
   refine⟨⟨_,_,rfl, ?_⟩,B1.out.alloc (by rw [SZ.out];omega) _⟩
   have:=kL (w.alloc (.cells #[.int .i64 5, .int .i64 ow, .int .i64 a, .int .i64 b, .int .i64 c, .int .u32 kn, .int .i64 n] 31)) w.heap.size [a] #[.int .i64 a] 3 (by rw [SZ.out];omega) rfl
   rw [SZ.out] at this
   exact this
  ·rw [show tk ⟨8,ow,a,b,c,kn,n⟩= [a] from rfl] at*
   go_enter Try.func46,Try.ntmps46
   go_wp2
   go_ret
   refine⟨⟨_,_,rfl, ?_⟩,B1.out.alloc (by rw [SZ.out];omega) _⟩
   have:=kL (w.alloc (.cells #[.int .i64 8, .int .i64 ow, .int .i64 a, .int .i64 b, .int .i64 c, .int .u32 kn, .int .i64 n] 31)) w.heap.size [a] #[.int .i64 a] 3 (by rw [SZ.out];omega) rfl
   rw [SZ.out] at this
   exact this
  ·rw [show tk ⟨9,ow,a,b,c,kn,n⟩= [a] from rfl] at*
   go_enter Try.func46,Try.ntmps46
   go_wp2
   go_ret
   refine⟨⟨_,_,rfl, ?_⟩,B1.out.alloc (by rw [SZ.out];omega) _⟩
   have:=kL (w.alloc (.cells #[.int .i64 9, .int .i64 ow, .int .i64 a, .int .i64 b, .int .i64 c, .int .u32 kn, .int .i64 n] 31)) w.heap.size [a] #[.int .i64 a] 3 (by rw [SZ.out];omega) rfl
   rw [SZ.out] at this
   exact this
  ·rw [show tk ⟨12,ow,a,b,c,kn,n⟩= [a] from rfl] at*
   go_enter Try.func46,Try.ntmps46
   go_wp2
   go_ret
   refine⟨⟨_,_,rfl, ?_⟩,B1.out.alloc (by rw [SZ.out];omega) _⟩
   have:=kL (w.alloc (.cells #[.int .i64 12, .int .i64 ow, .int .i64 a, .int .i64 b, .int .i64 c, .int .u32 kn, .int .i64 n] 31)) w.heap.size [a] #[.int .i64 a] 3 (by rw [SZ.out];omega) rfl
   rw [SZ.out] at this
   exact this
  ·rw [show tk ⟨13,ow,a,b,c,kn,n⟩= [a] from rfl] at*
   go_enter Try.func46,Try.ntmps46
   go_wp2
   go_ret
   refine⟨⟨_,_,rfl, ?_⟩,B1.out.alloc (by rw [SZ.out];omega) _⟩
   have:=kL (w.alloc (.cells #[.int .i64 13, .int .i64 ow, .int .i64 a, .int .i64 b, .int .i64 c, .int .u32 kn, .int .i64 n] 31)) w.heap.size [a] #[.int .i64 a] 3 (by rw [SZ.out];omega) rfl
   rw [SZ.out] at this
   exact this
  ·rw [show tk ⟨16,ow,a,b,c,kn,n⟩= [a] from rfl] at*
   go_enter Try.func46,Try.ntmps46
   go_wp2
   go_ret
   refine⟨⟨_,_,rfl, ?_⟩,B1.out.alloc (by rw [SZ.out];omega) _⟩
   have:=kL (w.alloc (.cells #[.int .i64 16, .int .i64 ow, .int .i64 a, .int .i64 b, .int .i64 c, .int .u32 kn, .int .i64 n] 31)) w.heap.size [a] #[.int .i64 a] 3 (by rw [SZ.out];omega) rfl
   rw [SZ.out] at this
   exact this
 ·have et:tk ⟨k,ow,a,b,c,kn,n⟩= []:=by unfold tk;dsimp only;rw [if_neg (by omega),if_neg (by omega),if_neg (by omega)]
  rw [et]
  have e4:(k==4)=false:=by simp;omega
  have lK:(k==10)=false:=by simp;omega
  have e6:(k==6)=false:=by simp;omega
  have e7:(k==7)=false:=by simp;omega
  have e3:(k==3)=false:=by simp;omega
  have e5:(k==5)=false:=by simp;omega
  have e8:(k==8)=false:=by simp;omega
  have e9:(k==9)=false:=by simp;omega
  have jS:(k==12)=false:=by simp;omega
  have lu:(k==13)=false:=by simp;omega
  have e16:(k==16)=false:=by simp;omega
  clear hk
  go_enter Try.func46,Try.ntmps46
  go_wp2
  go_ret
  exact⟨⟨_,_,rfl,Nat.le_refl _,fun h=>absurd h (by decide)⟩,B1.out⟩
variable {K:Gk} {g:Gm}
def I9 (os:List cZ) (R:Nat) (g:Gm) (t:Nat):Prop:=t<os.length∧((∃r:Nat,(g.v t).reg=r∧r<16)∨((g.v t).reg<0∧(∃b,I7 os R g b)∧(∀r,r<16→g.holds r<os.length)∧
 ((opAt os t).k≠1→0≤((g.jF os R).v t).aZ∧((g.jF os R).v t).aZ<2048)))
theorem Yp (t:Nat) (w:World) (a:GM K g w) (hR:K.R≤16) (h:I9 K.os K.R g t) (hn:(dF g.xs).length≤999990):
  Calls Try.prog 94 #[.pointer (some ⟨K.h,0,none⟩), .int .i64 t] w fun e w'=>e= .returned (.int .i64 (g.zq K.R t))∧GM K (g.vT K.os K.R t) w'∧ah (SG K) w w':=by
 obtain⟨ht,⟨r,h1,h2⟩ | ⟨h1,⟨b,fb⟩,h3,h4⟩⟩:=h
 ·exact Yn t r w a ht h1 h2
 ·exact Yo t b w a ht h1 hR fb.hb fb.qX h3 fb.wS fb.rV hn h4
theorem vV (os:List cZ) (R:Nat) (l:List Int) (t:Int) (g:Gm):Gm.ins os R (l++ [t]) g=((Gm.ins os R l g).1++ [(Gm.ins os R l g).2.zq R t.toNat],(Gm.ins os R l g).2.vT os R t.toNat):=by
 induction l generalizing g with
 | nil=>rfl
 | cons x l ih=>rw [List.cons_append,Gm.ins,ih];rfl
theorem TP (os:List cZ) (R:Nat) (l:List Int) (g:Gm):(Gm.ins os R l g).1.length=l.length:=by
 induction l generalizing g with
 | nil=>rfl
 | cons x l ih=>rw [Gm.ins,List.length_cons,ih];rfl
theorem jV (l:List Int) (j:Nat) (hj:j<l.length):l.take (j+1)=l.take j++ [l.getD j 0]:=by
 rw [List.take_add_one,List.getElem?_eq_getElem hj,List.getD_eq_getElem?_getD,List.getElem?_eq_getElem hj];rfl
theorem iK (p:List Int) (v:Int) (k:Nat):(p++ [v]).getD k 0=if k=p.length then v else p.getD k 0:=by
 rw [List.getD_eq_getElem?_getD,List.getD_eq_getElem?_getD]
 by_cases h:k<p.length
 ·rw [List.getElem?_append_left h,if_neg (by omega)]
 ·rw [List.getElem?_append_right (by omega)]
  by_cases e:k=p.length
  ·subst e;simp
  ·rw [if_neg e,List.getElem?_eq_none (by simp;omega),List.getElem?_eq_none (by omega)]
theorem sV (o:cZ):(tk o).length≤3:=by
 unfold tk
 split
 ·simp
 split
 ·simp
 split<;>simp
def Gk.k3 (K:Gk) (B:Nat) (ao:Option Addr) (n:Nat):Gk:=((K.ad fun i=>i=B).ad fun i=>i=B+1).ad fun i=>∃q,ao=some q∧0<n∧i=q.block
theorem GM.uI {B n:Nat} {ao:Option Addr} {W:World} (a:GM (K.k3 B ao n) g W):GM K g W:=a.Ez.Ez.Ez
theorem SG.uI {B n:Nat} {ao:Option Addr} {W W':World} (u:ah (SG (K.k3 B ao n)) W W'):ah (SG K) W W':=SG.Ez (SG.Ez (SG.Ez u))
theorem SG.no3 {B n:Nat} {ao:Option Addr} (a:K.h<K.base) (b:K.vb<K.base) (hB:K.base≤B):¬SG (K.k3 B ao n) B∧¬SG (K.k3 B ao n) (B+1):=
 ⟨SG.no (K:=K.k3 B ao n) a b hB (.inl (.inl (.inr rfl))),SG.no (K:=K.k3 B ao n) a b (Nat.le_succ_of_le hB) (.inl (.inr rfl))⟩
theorem SG.noT {B n:Nat} {ao:Option Addr} (a:K.h<K.base) (b:K.vb<K.base) {q:Addr} (hq:ao=some q) (h0:0<n) (hB:K.base≤q.block):¬SG (K.k3 B ao n) q.block:=
 SG.no (K:=K.k3 B ao n) a b hB (.inr ⟨q,hq,h0,rfl⟩)
theorem TQ (g off cap:Nat):∃o':Nat,(if cap=1 then some (⟨g,off,none⟩:Addr) else some ⟨g,off+1,none⟩)=some ⟨g,o',none⟩∧(1<cap→o'=off+1):=by
 by_cases h:cap=1
 ·exact⟨off,by rw [if_pos h],fun k=>by omega⟩
 ·exact⟨off+1,by rw [if_neg h],fun _=>rfl⟩
def r3 (p:List Int):Array Value:= #[.int .i64 (p.getD 0 0), .int .i64 (p.getD 1 0), .int .i64 (p.getD 2 0)]
theorem Gp (q:List Int) (j:Nat) (h:j<3):(r3 q)[j]?=some (.int .i64 (q.getD j 0)):=by
 match j,h with
 | 0,_=>rfl
 | 1,_=>rfl
 | 2,_=>rfl
 | n+3,h=>omega
theorem Bx.aes {b:Nat} {p:List Int} {W:World} (a:Bx b (r3 p) W) (v:Int) (hp:p.length<3):Bx b (r3 (p++ [v])) (W.setCell ⟨b,p.length,none⟩ (.int .i64 v)):=by
 refine⟨by simpa using a.1,fun j u hj=> ?_,fun j=>by simpa using a.2.2 j⟩
 have hj3:j<3:=by
  have:=(Array.getElem?_eq_some_iff.1 hj).1
  simpa [r3] using this
 have e:∀ (q:List Int) (j:Nat),j<3→(r3 q)[j]?=some (.int .i64 (q.getD j 0)):=fun q j h=>by
  match j,h with
  | 0,_=>rfl
  | 1,_=>rfl
  | 2,_=>rfl
  | n+3,h=>omega
 rw [e _ _ hj3,iK] at hj
 obtain rfl:=Option.some.inj hj
 by_cases ej:j=p.length
 ·subst ej
  rw [if_pos rfl]
  exact World.cell?_setCell_same _ _ _ (a.2.1 _ _ (e p p.length hp))
 ·rw [if_neg ej,HM.aP ej]
  exact a.2.1 _ _ (e p j hj3)
structure TT (os:List cZ) (R:Nat) (g:Gm) (o:cZ) (r:List Int) (d:Nat):Prop where
 hh:∀r,r<16→g.holds r<os.length
 hf:emp (g.au.dN R) 0 R=none→∃b,I7 os R (g.au.dN R) b
 hd:g.au.uT R=d
 d16:d<16
 hx:oL (qo o d (r.getD 0 0) (r.getD 1 0) (r.getD 2 0))
theorem lH (i:Nat) (o:cZ) (r:List Int) (w:World) (a:GM K g w) (hR:K.R≤16) (hi:i<K.os.length) (hn:(dF g.xs).length≤999990) (lW:0≤o.w) (xY:o.w<16) (Om:gv o.k=true) (hG:o.k≠1→∃d,TT K.os K.R g o r d):
  Calls Try.prog 96 #[.pointer (some ⟨K.h,0,none⟩), .int .i64 i, .agg #[.int .i64 o.k, .int .i64 o.w, .int .i64 o.a, .int .i64 o.b, .int .i64 o.c, .int .u32 o.kn, .int .i64 o.n], .agg (r3 r)] w fun e w'=>e= .returned (.tuple #[])∧GM K (g.give K.os K.R i o r) w'∧ah (SG K) w w':=by
 obtain⟨k,ow,oa,ob,oc,kn,n⟩:=o
 dsimp only at*
 unfold gv at Om
 rw [decide_eq_true_eq] at Om
 have hk:k=1∨k=2∨k=17∨k=4∨k=5∨k=6∨k=7∨k=8∨k=9:=by omega
 clear Om
 rcases hk with rfl | rfl | rfl | rfl | rfl | rfl | rfl | rfl | rfl
 ·exact Bv i ow oa ob oc kn n _ _ _ w a
 ·obtain⟨d,G⟩:=hG (by decide)
  have e:g.give K.os K.R i ⟨2,ow,oa,ob,oc,kn,n⟩ r=((g.au.gU K.os K.R).put (qo ⟨2,ow,oa,ob,oc,kn,n⟩ d (r.getD 0 0) (r.getD 1 0) (r.getD 2 0))).has d i:=by unfold Gm.give;rw [if_neg (by show¬ ((2:Int)=1);decide),G.hd,Int.toNat_natCast]
  rw [e]
  exact Tz i d ow oa ob oc kn n _ _ _ w a lW xY hR G.hh G.hf hn G.hd G.d16 hi G.hx
 ·obtain⟨d,G⟩:=hG (by decide)
  have e:g.give K.os K.R i ⟨17,ow,oa,ob,oc,kn,n⟩ r=((g.au.gU K.os K.R).put (qo ⟨17,ow,oa,ob,oc,kn,n⟩ d (r.getD 0 0) (r.getD 1 0) (r.getD 2 0))).has d i:=by unfold Gm.give;rw [if_neg (by show¬ ((17:Int)=1);decide),G.hd,Int.toNat_natCast]
  rw [e]
  exact Ol i d ow oa ob oc kn n _ _ _ w a lW xY hR G.hh G.hf hn G.hd G.d16 hi G.hx
 ·obtain⟨d,G⟩:=hG (by decide)
  have e:g.give K.os K.R i ⟨4,ow,oa,ob,oc,kn,n⟩ r=((g.au.gU K.os K.R).put (qo ⟨4,ow,oa,ob,oc,kn,n⟩ d (r.getD 0 0) (r.getD 1 0) (r.getD 2 0))).has d i:=by unfold Gm.give;rw [if_neg (by show¬ ((4:Int)=1);decide),G.hd,Int.toNat_natCast]
  rw [e]
  exact TF i d ow oa ob oc kn n _ _ _ w a lW xY hR G.hh G.hf hn G.hd G.d16 hi G.hx
 ·obtain⟨d,G⟩:=hG (by decide)
  have e:g.give K.os K.R i ⟨5,ow,oa,ob,oc,kn,n⟩ r=((g.au.gU K.os K.R).put (qo ⟨5,ow,oa,ob,oc,kn,n⟩ d (r.getD 0 0) (r.getD 1 0) (r.getD 2 0))).has d i:=by unfold Gm.give;rw [if_neg (by show¬ ((5:Int)=1);decide),G.hd,Int.toNat_natCast]
  rw [e]
  exact TG i d ow oa ob oc kn n _ _ _ w a lW xY hR G.hh G.hf hn G.hd G.d16 hi G.hx
 ·obtain⟨d,G⟩:=hG (by decide)
  have e:g.give K.os K.R i ⟨6,ow,oa,ob,oc,kn,n⟩ r=((g.au.gU K.os K.R).put (qo ⟨6,ow,oa,ob,oc,kn,n⟩ d (r.getD 0 0) (r.getD 1 0) (r.getD 2 0))).has d i:=by unfold Gm.give;rw [if_neg (by show¬ ((6:Int)=1);decide),G.hd,Int.toNat_natCast]
  rw [e]
  exact TI i d ow oa ob oc kn n _ _ _ w a lW xY hR G.hh G.hf hn G.hd G.d16 hi G.hx
 ·obtain⟨d,G⟩:=hG (by decide)
  have e:g.give K.os K.R i ⟨7,ow,oa,ob,oc,kn,n⟩ r=((g.au.gU K.os K.R).put (qo ⟨7,ow,oa,ob,oc,kn,n⟩ d (r.getD 0 0) (r.getD 1 0) (r.getD 2 0))).has d i:=by unfold Gm.give;rw [if_neg (by show¬ ((7:Int)=1);decide),G.hd,Int.toNat_natCast]
  rw [e]
  exact TJ i d ow oa ob oc kn n _ _ _ w a lW xY hR G.hh G.hf hn G.hd G.d16 hi G.hx
 ·obtain⟨d,G⟩:=hG (by decide)
  have e:g.give K.os K.R i ⟨8,ow,oa,ob,oc,kn,n⟩ r=((g.au.gU K.os K.R).put (qo ⟨8,ow,oa,ob,oc,kn,n⟩ d (r.getD 0 0) (r.getD 1 0) (r.getD 2 0))).has d i:=by unfold Gm.give;rw [if_neg (by show¬ ((8:Int)=1);decide),G.hd,Int.toNat_natCast]
  rw [e]
  exact TM i d ow oa ob oc kn n _ _ _ w a lW xY hR G.hh G.hf hn G.hd G.d16 hi G.hx
 ·obtain⟨d,G⟩:=hG (by decide)
  have e:g.give K.os K.R i ⟨9,ow,oa,ob,oc,kn,n⟩ r=((g.au.gU K.os K.R).put (qo ⟨9,ow,oa,ob,oc,kn,n⟩ d (r.getD 0 0) (r.getD 1 0) (r.getD 2 0))).has d i:=by unfold Gm.give;rw [if_neg (by show¬ ((9:Int)=1);decide),G.hd,Int.toNat_natCast]
  rw [e]
  exact TN i d ow oa ob oc kn n _ _ _ w a lW xY hR G.hh G.hf hn G.hd G.d16 hi G.hx
theorem TU (i:Int) (l:List Int) (g:Gm):(l.foldl (fun g t=>Gm.jy i g t.toNat) g).xs=g.xs:=by
 induction l generalizing g with
 | nil=>rfl
 | cons t l ih=>
  rw [List.foldl_cons,ih]
  unfold Gm.jy
  split<;>rfl
theorem yL (i:Nat) (o:cZ) (w:World) (a:GM K g w) (hR:K.R≤16) (hi:i<K.os.length) (hi2:i<2048)
  (hI:∀j,j<(tk o).length→∃t:Nat,(tk o).getD j 0=t∧I9 K.os K.R (Gm.ins K.os K.R ((tk o).take j) g.au).2 t)
  (hn:∀j,j≤(tk o).length→(dF (Gm.ins K.os K.R ((tk o).take j) g.au).2.xs).length≤999000)
  (lW:0≤o.w) (xY:o.w<16) (hG:gv o.k=true→o.k≠1→∃d,TT K.os K.R ((Gm.ins K.os K.R (tk o) g.au).2.used i (tk o)) o (Gm.ins K.os K.R (tk o) g.au).1 d)
  (hX:gv o.k=false→oL (jc o ((Gm.ins K.os K.R (tk o) g.au).1.getD 0 0) ((Gm.ins K.os K.R (tk o) g.au).1.getD 1 0))):
  Calls Try.prog 48 #[.pointer (some ⟨K.h,0,none⟩), .int .i64 i, .agg #[.int .i64 o.k, .int .i64 o.w, .int .i64 o.a, .int .i64 o.b, .int .i64 o.c, .int .u32 o.kn, .int .i64 o.n]] w fun e w'=>e= .returned (.tuple #[])∧GM K (g.one K.os K.R i o) w'∧ah (SG K) w w':=by
 have hs:=gX K.h
 have a0:=a.alloc (.cells #[.int .i64 o.k, .int .i64 o.w, .int .i64 o.a, .int .i64 o.b, .int .i64 o.c, .int .u32 o.kn, .int .i64 o.n] 31)
 have je:(Builtin.clear_ #[79] 0 #[.slice (some ⟨K.h,23,none⟩) 16 16]).run Try.prog (w.alloc (.cells #[.int .i64 o.k, .int .i64 o.w, .int .i64 o.a, .int .i64 o.b, .int .i64 o.c, .int .u32 o.kn, .int .i64 o.n] 31))= .ok (.tuple #[]) ((w.alloc (.cells #[.int .i64 o.k, .int .i64 o.w, .int .i64 o.a, .int .i64 o.b, .int .i64 o.c, .int .u32 o.kn, .int .i64 o.n] 31)).setCells K.h 23 (iI 16)):=gW _ a0 0
 have lB:=a.lb
 have lh:=a.lh
 have lv:=a.lv
 have l:=a0.l
 have B0:=Bx.new w #[.int .i64 o.k, .int .i64 o.w, .int .i64 o.a, .int .i64 o.b, .int .i64 o.c, .int .u32 o.kn, .int .i64 o.n] 31
 have u0:=(ah.refl (fun _=>False) w).alloc (.cells #[.int .i64 o.k, .int .i64 o.w, .int .i64 o.a, .int .i64 o.b, .int .i64 o.c, .int .u32 o.kn, .int .i64 o.n] 31)
 have A0:=κ (a.ad u0 (fun i=>i=w.heap.size) (fun i hi=>⟨by omega,by simp;omega⟩))
 have HI:=κ hI
 have HGV:=κ hG
 have HXX:=κ hX
 have HN:=κ hn
 have HR:=κ hR
 have HL:=κ hi
 have B0:=κ B0
 have U0:=κ (u0.mono (T:=fun i=>SG K i∨w.heap.size≤i) fun _ _ h=>h.elim)
 clear a a0 u0 hI hn hR hi hG hX
 go_enter Try.func48,Try.ntmps48
 go_upto_region 2 with fail
 have A1:Hid (GM (K.ad fun i=>i=w.heap.size) g.au ((w.alloc (.cells #[.int .i64 o.k, .int .i64 o.w, .int .i64 o.a, .int .i64 o.b, .int .i64 o.c, .int .u32 o.kn, .int .i64 o.n] 31)).setCells K.h 23 (iI 16))):=A0.out.au
 have B1:=κ (B0.out.upto (ah.setCells (S:=fun i=>i=K.h) (p:=K.h) rfl (iI 16) _ 23 (ah.refl _ _)) (by omega))
 have U1:=κ (ah.setCells (p:=K.h) (S:=fun i=>SG K i∨w.heap.size≤i) (.inl (.inl rfl)) (iI 16) _ 23 U0.out)
 have sz:((w.alloc (.cells #[.int .i64 o.k, .int .i64 o.w, .int .i64 o.a, .int .i64 o.b, .int .i64 o.c, .int .u32 o.kn, .int .i64 o.n] 31)).setCells K.h 23 (iI 16)).heap.size=w.heap.size+1:=by simp [iI,World.setCells]
 clear hs je A0 B0 U0 l
 generalize(w.alloc (.cells #[.int .i64 o.k, .int .i64 o.w, .int .i64 o.a, .int .i64 o.b, .int .i64 o.c, .int .u32 o.kn, .int .i64 o.n] 31)).setCells K.h 23 (iI 16)=w1 at A1 B1 U1 sz⊢
 have u2:=(ah.refl (fun _=>False) w1).alloc (.cells #[.int .i64 0, .int .i64 0, .int .i64 0] 175)
 have A2:=κ (A1.out.ad u2 (fun i=>i=w1.heap.size) (fun i hi=>⟨by omega,by simp;omega⟩))
 have B2:=κ (B1.out.upto u2 id)
 have R2:=κ (show Bx w1.heap.size (r3 []) (w1.alloc (.cells #[.int .i64 0, .int .i64 0, .int .i64 0] 175)) from Bx.new w1 _ _)
 have U2:=κ (U1.out.alloc (.cells #[.int .i64 0, .int .i64 0, .int .i64 0] 175))
 clear u2 A1 B1 U1
 go_upto_region 3 with fail
 rw [sz] at A2 R2
 have sz2:(w1.alloc (.cells #[.int .i64 0, .int .i64 0, .int .i64 0] 175)).heap.size=w.heap.size+1+1:=by simp [sz]
 generalize w1.alloc (.cells #[.int .i64 0, .int .i64 0, .int .i64 0] 175)=w2 at A2 B2 R2 U2 sz2⊢
 have o0:=B2.out.2.1 0 _ rfl
 have o1:=B2.out.2.1 1 _ rfl
 have o2:=B2.out.2.1 2 _ rfl
 have o3:=B2.out.2.1 3 _ rfl
 have o4:=B2.out.2.1 4 _ rfl
 have o5:=B2.out.2.1 5 _ rfl
 have o6:=B2.out.2.1 6 _ rfl
 have lo:=B2.out.1
 have TA:=κ (xZ o w2)
 go_upto_region 4 with(go_at_call 46;refine TA.out.mono ?_;rintro e w3 ⟨⟨ao,cap,rfl,ts⟩,b3⟩)
 clear o0 o1 o2 o3 o4 o5 o6 lo TA
 have A3:Hid (GM (K.k3 w.heap.size ao (tk o).length) g.au w3):=A2.out.ad (ah.aG b3) (fun i=>∃q,ao=some q∧0<(tk o).length∧i=q.block) (fun i hi=>by
  obtain⟨q,hq,h0,rfl⟩:=hi
  obtain⟨b,e,h1,h2,_⟩:=ts.2 h0
  rw [hq] at e;cases e
  exact⟨h1,h2⟩)
 have u3:=ah.aG (S:=fun _=>False) b3
 have B3:=κ (B2.out.upto u3 id)
 have R3:=κ (R2.out.upto u3 id)
 have U3:=κ (U2.out.trans (u3.mono fun _ _ h=>h.elim))
 have NS:=κ (SG.no3 (n:=(tk o).length) (ao:=ao) lh lv lB)
 have NT:=κ (show∀q,ao=some q→0<(tk o).length→¬SG (K.k3 w.heap.size ao (tk o).length) q.block from fun q hq h0=>SG.noT lh lv hq h0 (by
  obtain⟨b,e,h1,h2,_⟩:=ts.2 h0
  rw [hq] at e;cases e
  show K.base≤b;omega))
 have TS3:=κ ts
 have TL:=κ (sV o)
 have SZ:=κ sz2
 clear A2 B2 R2 U2 u3 b3 ts sz2 sz
 have IN:Hid (∀ (t:Nat) (gx:Gm) (wx:World),GM (K.k3 w.heap.size ao (tk o).length) gx wx→I9 K.os K.R gx t→(dF gx.xs).length≤999990→Calls Try.prog 94 #[.pointer (some ⟨K.h,0,none⟩), .int .i64 t] wx fun e w'=>e= .returned (.int .i64 (gx.zq K.R t))∧GM (K.k3 w.heap.size ao (tk o).length) (gx.vT K.os K.R t) w'∧ah (SG (K.k3 w.heap.size ao (tk o).length)) wx w'):=
  fun t gx wx a h hn=>Yp (K:=K.k3 w.heap.size ao (tk o).length) (g:=gx) t wx a HR.out h hn
 obtain⟨l,CJ⟩:∃l,tk o=l:=⟨_,rfl⟩
 rw [CJ] at A3 NS NT TS3 TL IN HI HN HGV HXX⊢
 have HTK:=κ CJ
 clear CJ
 go_wp2
 go_loopg [22] l.length (fun k ix wr=>∃j:Nat,k=l.length-j∧j≤l.length∧ix= .int .i64 j∧Hid (GM (K.k3 w.heap.size ao l.length) (Gm.ins K.os K.R (l.take j) g.au).2 wr)∧Hid (Bx w.heap.size #[.int .i64 o.k, .int .i64 o.w, .int .i64 o.a, .int .i64 o.b, .int .i64 o.c, .int .u32 o.kn, .int .i64 o.n] wr)∧Hid (Bx (w.heap.size+1) (r3 (Gm.ins K.os K.R (l.take j) g.au).1) wr)∧Hid (TS w2.heap.size l ao cap wr)∧Hid (ah (fun i=>SG K i∨w.heap.size≤i) w wr))
 case atStart=>exact⟨0,rfl,Nat.zero_le _,rfl,A3,B3,R3,TS3,U3⟩
 case round=>
  obtain⟨j,hk,hj,rfl,G,BO,BR,T,U⟩:=hrel
  by_cases bV:j<l.length
  ·have oV:(j:Int) <(l.length:Int):=by omega
   have j0:(0:Int)≤(j:Int):=by omega
   have j3:(j:Int) <3:=by have:=TL.out;omega
   have jn:j<3:=by omega
   obtain⟨b',e,aQ,aj,hc⟩:=T.out.2 (by omega)
   subst e
   have cj:wr.cell? ⟨b',j,none⟩=some (.int .i64 (l.getD j 0)):=hc j bV
   obtain⟨t,ht,TV⟩:=HI.out j bV
   rw [ht] at cj
   have jg:=κ bV
   have HK:=κ hk
   have pl:(Gm.ins K.os K.R (l.take j) g.au).1.length=j:=by rw [TP,List.length_take];omega
   have PS:=κ (show Gm.ins K.os K.R (l.take (j+1)) g.au=((Gm.ins K.os K.R (l.take j) g.au).1++ [(Gm.ins K.os K.R (l.take j) g.au).2.zq K.R t],(Gm.ins K.os K.R (l.take j) g.au).2.vT K.os K.R t) from by rw [jV l j bV,vV,ht,Int.toNat_natCast])
   have IJ:=κ (IN.out t _ wr G.out TV (Nat.le_trans (HN.out j hj) (by decide)))
   have NS':=κ NS.out
   have NT':=κ (NT.out _ rfl (by omega))
   have PL:=κ pl
   clear hc bV hk TV ht pl
   generalize Gm.ins K.os K.R (l.take j) g.au=p at G BR PS IJ PL
   generalize p.2.zq K.R t=rr at PS IJ
   generalize p.2.vT K.os K.R t=g5 at PS IJ
   go_wp2_with (go_at_call 94;refine IJ.out.mono ?_;rintro e w4 ⟨rfl,a4,u4⟩;have G4:=κ a4;have BO4:=κ (BO.out.upto u4 NS'.out.1);have br4:=BR.out.upto u4 NS'.out.2;have T4:=κ (T.out.upto u4 (fun q hq h0=>by cases hq;exact NT'.out));have U4:=κ (U.out.trans ((SG.uI u4).mono fun _ _ h=> .inl h));have cr:=br4.2.1 j _ (Gp p.1 j jn);have zr:=br4.2.2 j;have lr:=br4.1;have BR4:=κ br4;clear a4 u4 br4)
   have vs:=(ah.refl (fun i=>i=w.heap.size+1) w4).setCell (q:=⟨w.heap.size+1,j,none⟩) (.inl rfl) (.int .i64 rr)
   have a6:=G4.out.upto vs (fun i hi=> .inl (.inl (.inr hi)))
   have b6:=BO4.out.upto vs (by omega)
   have r6:=BR4.out.aes rr (by rw [PL.out];exact jn)
   rw [PL.out] at r6
   have t6:=T4.out.upto vs (fun q hq h0=>by cases hq;have:=SZ.out;show¬b'=_;omega)
   have u6:=(U4.out.trans (vs.mono (T:=fun i=>SG K i∨w.heap.size≤i) fun i _ hi=> .inr (by omega)))
   go_roundg (l.length-(j+1))
   case measure=>have:=HK.out;have:=jg.out;omega
   case rel=>exact⟨j+1,rfl,jg.out,by simp,by rw [PS.out];exact a6,b6,by rw [PS.out];exact r6,t6,u6⟩
  ·obtain rfl:j=l.length:=by omega
   clear hj hk bV IN
   have HP:=κ (show g.one K.os K.R i o=if gv o.k then((Gm.ins K.os K.R l g.au).2.used i l).give K.os K.R i o (Gm.ins K.os K.R l g.au).1 else((Gm.ins K.os K.R l g.au).2.used i l).put (jc o ((Gm.ins K.os K.R l g.au).1.getD 0 0) ((Gm.ins K.os K.R l g.au).1.getD 1 0)) from by unfold Gm.one;rw [HTK.out])
   rw [List.take_length] at G BR
   have HN':=κ (HN.out l.length (Nat.le_refl _))
   rw [List.take_length] at HN'
   have HTL:Hid (∀j,j<l.length→∃t:Nat,l.getD j 0=t∧t<K.os.length):=fun j hj=>by
    obtain⟨t,h1,h2⟩:=HI.out j hj
    exact⟨t,h1,h2.1⟩
   clear HI HN A3 B3 R3 U3 TS3
   have ZK:=κ (show g.one K.os K.R i o=if gv o.k then((l.take l.length).foldl (fun g t=>Gm.jy i g t.toNat) (Gm.ins K.os K.R l g.au).2).give K.os K.R i o (Gm.ins K.os K.R l g.au).1 else((l.take l.length).foldl (fun g t=>Gm.jy i g t.toNat) (Gm.ins K.os K.R l g.au).2).put (jc o ((Gm.ins K.os K.R l g.au).1.getD 0 0) ((Gm.ins K.os K.R l g.au).1.getD 1 0)) from by rw [HP.out,List.take_length];rfl)
   clear HP
   obtain⟨p,hp⟩:∃p,Gm.ins K.os K.R l g.au=p:=⟨_,rfl⟩
   rw [hp] at G BR HN' ZK HGV HXX
   clear hp
   go_wp2
   go_loopg [35] l.length (fun k ix wx=>∃q:Nat,k=l.length-q∧q≤l.length∧ix= .int .i64 q∧Hid (GM (K.k3 w.heap.size ao l.length) ((l.take q).foldl (fun g t=>Gm.jy i g t.toNat) p.2) wx)∧Hid (Bx w.heap.size #[.int .i64 o.k, .int .i64 o.w, .int .i64 o.a, .int .i64 o.b, .int .i64 o.c, .int .u32 o.kn, .int .i64 o.n] wx)∧Hid (Bx (w.heap.size+1) (r3 p.1) wx)∧Hid (TS w2.heap.size l ao cap wx)∧Hid (ah (fun i=>SG K i∨w.heap.size≤i) w wx))
   case atStart=>exact⟨0,rfl,Nat.zero_le _,rfl,G,BO,BR,T,U⟩
   case round=>
    obtain⟨q,hk,hj,rfl,G,BO,BR,T,U⟩:=hrel
    by_cases bV:q<l.length
    ·have oV:(q:Int) <(l.length:Int):=by omega
     have q0:(0:Int)≤(q:Int):=by omega
     obtain⟨b',e,aQ,aj,hc⟩:=T.out.2 (by omega)
     subst e
     have cj:wr.cell? ⟨b',q,none⟩=some (.int .i64 (l.getD q 0)):=hc q bV
     obtain⟨t,ht,TV⟩:=HTL.out q bV
     rw [ht] at cj
     have jg:=κ bV
     have HK:=κ hk
     have PS:=κ (show(l.take (q+1)).foldl (fun g t=>Gm.jy i g t.toNat) p.2=Gm.jy i ((l.take q).foldl (fun g t=>Gm.jy i g t.toNat) p.2) t from by rw [jV l q bV,List.foldl_append,ht];rfl)
     have HT:=κ TV
     clear hc bV hk TV ht
     generalize(l.take q).foldl (fun g t=>Gm.jy i g t.toNat) p.2=g6 at G PS
     have t0:(0:Int)≤(t:Int):=by omega
     have t1:(t:Int) <(K.os.length:Int):=by have:=HT.out;omega
     have c6:=G.out.uI.c6
     have lhh:=G.out.uI.l
     have lvv:=G.out.uI.l2
     have q3:(q:Int) <3:=by have:=TL.out;have:=jg.out;omega
     have zv:=G.out.uI.zv (t*3+2)
     obtain⟨ua,cp,cu,ul1,ul2,ub⟩:=G.out.uI.vu t HT.out
     have UB:=κ ub
     have UL:=κ ul1
     have UM:=κ ul2
     clear ub ul1 ul2
     cases hu:(g6.v t).uses with
     | nil=>
      have HU:=κ (show Gm.jy i g6 t=g6 from by unfold Gm.jy;rw [hu];exact if_neg (by show¬ (1073741824:Int)=i;omega))
      rw [hu] at cu
      clear hu UB UL
      go_wp2
      go_roundg (l.length-(q+1))
      case measure=>have:=HK.out;have:=jg.out;omega
      case rel=>exact⟨q+1,rfl,jg.out,by simp,by rw [PS.out,HU.out];exact G,BO,BR,T,U⟩
     | cons u us=>
      rw [hu] at cu
      obtain⟨b,off,e,l3,l4,l5,hc⟩:=UB.out (by rw [hu];simp)
      subst e
      have c0:=hc 0 (by rw [hu];simp)
      rw [hu] at c0
      simp only [List.getD_cons_zero,Nat.add_zero] at c0
      have UL2:=κ (show us.length+1≤cp from by have:=UL.out;rw [hu] at this;simpa using this)
      have HC:=κ (show∀j,j<us.length→wr.cell? ⟨b,off+1+j,none⟩=some (.int .i64 (us.getD j 0)) from fun j hj=>by
       have:=hc (j+1) (by rw [hu];simp;omega)
       rw [hu,List.getD_cons_succ,show off+(j+1)=off+1+j by omega] at this
       exact this)
      have HUU:=κ hu
      have LB:=κ (show b<K.base∧b≠K.h∧b≠K.vb from⟨l3,l4,l5⟩)
      rw [List.length_cons] at cu
      have m0:(0:Int) <(us.length:Int)+1:=by omega
      have m1:us.length+1≤cp:=UL2.out
      clear hc hu UB UL l3 l4 l5
      obtain⟨m,hm⟩:∃m,us.length=m:=⟨_,rfl⟩
      rw [hm] at cu m0 m1
      have HM:=κ hm
      clear hm
      by_cases hui:u=i
      ·have e1:(u==(i:Int))=true:=by simpa using hui
       obtain⟨o',PZ,ho'⟩:=TQ b off cp
       have HO:=κ ho'
       clear ho' hui
       have HU:=κ (show Gm.jy i g6 t=g6.kH t us from by unfold Gm.jy;rw [HUU.out];exact if_pos (show u=i from by simpa using e1))
       go_upto_region 14 with fail
       go_region
       have hub:UB (K.k3 w.heap.size (some ⟨b',0,none⟩) l.length) us (some ⟨b,o',none⟩) (cp-1) wr:=⟨by have:=HM.out;omega,by have:=UM.out;omega,fun h0=>⟨b,o',rfl,LB.out.1,LB.out.2.1,LB.out.2.2,fun j hj=>by rw [HO.out (by have:=HM.out;omega)];exact HC.out j hj⟩⟩
       have a6:GM (K.k3 w.heap.size (some ⟨b',0,none⟩) l.length) (g6.kH t us) (wr.setCell ⟨K.vb,t*3+2,none⟩ (.slice (some ⟨b,o',none⟩) us.length (cp-1))).drew:=(G.out.kH t us _ _ HT.out hub).drew
       rw [HM.out] at a6
       have vs:=((ah.refl (fun i=>i=K.vb) wr).setCell (q:=⟨K.vb,t*3+2,none⟩) (.inl rfl) (.slice (some ⟨b,o',none⟩) m (cp-1))).drew
       have b6:=BO.out.upto vs (by omega)
       have r6:=BR.out.upto vs (by omega)
       have t6:=T.out.upto vs (fun q hq h0=>by cases hq;have:=SZ.out;show¬b'=_;omega)
       have u6:=U.out.trans (vs.mono (T:=fun i=>SG K i∨w.heap.size≤i) fun i _ hi=> .inl (.inr (.inl hi)))
       clear c6 cu zv c0
       generalize(wr.setCell ⟨K.vb,t*3+2,none⟩ (.slice (some ⟨b,o',none⟩) m (cp-1))).drew=w7 at a6 b6 r6 t6 u6⊢
       have A6:=κ a6
       have B6:=κ b6
       have R6:=κ r6
       have T6:=κ t6
       have U6:=κ u6
       clear a6 b6 r6 t6 u6 hub vs
       go_wp2
       go_roundg (l.length-(q+1))
       case measure=>have:=HK.out;have:=jg.out;omega
       case rel=>exact⟨q+1,rfl,jg.out,by simp,by rw [PS.out,HU.out];exact A6,B6,R6,T6,U6⟩
      ·have e1:(u==(i:Int))=false:=by simpa using hui
       have HU:=κ (show Gm.jy i g6 t=g6 from by unfold Gm.jy;rw [HUU.out];exact if_neg (by show¬u=i;exact hui))
       clear hui
       go_wp2
       go_roundg (l.length-(q+1))
       case measure=>have:=HK.out;have:=jg.out;omega
       case rel=>exact⟨q+1,rfl,jg.out,by simp,by rw [PS.out,HU.out];exact G,BO,BR,T,U⟩
    ·obtain rfl:q=l.length:=by omega
     clear hj hk bV
     have P7:Hid ((dF ((l.take l.length).foldl (fun g t=>Gm.jy i g t.toNat) p.2).xs).length≤999000):=by rw [TU];exact HN'
     have HG2:Hid (gv o.k=true→o.k≠1→∃d,TT K.os K.R ((l.take l.length).foldl (fun g t=>Gm.jy i g t.toNat) p.2) o p.1 d):=by rw [List.take_length];exact HGV.out
     generalize(l.take l.length).foldl (fun g t=>Gm.jy i g t.toNat) p.2=g7 at G ZK P7 HG2
     have o0:=BO.out.2.1 0 _ rfl
     have o1:=BO.out.2.1 1 _ rfl
     have o2:=BO.out.2.1 2 _ rfl
     have o3:=BO.out.2.1 3 _ rfl
     have o4:=BO.out.2.1 4 _ rfl
     have o5:=BO.out.2.1 5 _ rfl
     have o6:=BO.out.2.1 6 _ rfl
     have lo:=BO.out.1
     have q0:=BR.out.2.1 0 _ (Gp p.1 0 (by decide))
     have q1:=BR.out.2.1 1 _ (Gp p.1 1 (by decide))
     have q2:=BR.out.2.1 2 _ (Gp p.1 2 (by decide))
     have lq:=BR.out.1
     by_cases Om:gv o.k=true
     ·have GI:=κ (fun w=>Ic.lH o.k w)
      rw [Om] at GI
      have zx:=κ (show g.one K.os K.R i o=g7.give K.os K.R i o p.1 from by rw [ZK.out,if_pos Om])
      have GV:Hid (∀wx,GM (K.k3 w.heap.size ao l.length) g7 wx→Calls Try.prog 96 #[.pointer (some ⟨K.h,0,none⟩), .int .i64 i, .agg #[.int .i64 o.k, .int .i64 o.w, .int .i64 o.a, .int .i64 o.b, .int .i64 o.c, .int .u32 o.kn, .int .i64 o.n], .agg #[.int .i64 (p.1.getD 0 0), .int .i64 (p.1.getD 1 0), .int .i64 (p.1.getD 2 0)]] wx fun e w'=>e= .returned (.tuple #[])∧GM (K.k3 w.heap.size ao l.length) (g7.give K.os K.R i o p.1) w'∧ah (SG (K.k3 w.heap.size ao l.length)) wx w'):=
       fun wx a=>lH (K:=K.k3 w.heap.size ao l.length) (g:=g7) i o p.1 wx a HR.out HL.out (Nat.le_trans P7.out (by decide)) lW xY Om (HG2.out Om)
      clear Om ZK
      go_wp2_with (first
       | (go_at_call 95;refine(GI.out _).mono ?_;rintro e w' ⟨rfl,rfl⟩)
       | (go_at_call 96;refine(GV.out _ G.out).mono ?_;rintro e w8 ⟨rfl,a8,u8⟩;have A8:=κ a8;have U8:=κ (U.out.trans ((SG.uI u8).mono fun _ _ h=> .inl h));clear a8 u8))
      exact bodyPost_ret (v:= .tuple #[]) (by simp [results,Try.results48,go_sem]) rfl ⟨rfl,by rw [zx.out];exact A8.out.uI,U8.out.mono fun i hi h=>h.elim id (fun h=>absurd hi (by omega))⟩
     ·have hgf:gv o.k=false:=by simpa using Om
      have GI:=κ (fun w=>Ic.lH o.k w)
      rw [hgf] at GI
      have Vw:=HXX.out hgf
      have zx:=κ (show g.one K.os K.R i o=g7.put (jc o (p.1.getD 0 0) (p.1.getD 1 0)) from by rw [ZK.out,if_neg (by rw [hgf];decide)])
      have ZL:o.k=3∨o.k=10∨o.k=11∨o.k=12∨o.k=13∨o.k=14∨o.k=15∨o.k=16:=by
       refine Classical.byContradiction fun hc=> ?_
       have e:jc o (p.1.getD 0 0) (p.1.getD 1 0)=⟨0,0,p.1.getD 0 0,0,0,o.n,o.kn,0⟩:=by
        unfold jc
        rw [if_neg (fun h=>hc (by omega)),if_neg (fun h=>hc (by omega)),if_neg (fun h=>hc (by omega)),if_neg (fun h=>hc (by omega)),if_neg (fun h=>hc (by omega)),if_neg (fun h=>hc (by omega)),if_neg (fun h=>hc (by omega)),if_neg (fun h=>hc (by omega))]
       rw [e] at Vw
       exact Vw.q (by show aF 0=0;decide)
      have CP:=κ Vw
      clear Om hgf ZK Vw HGV HXX HG2
      rcases ZL with hk | hk | hk | hk | hk | hk | hk | hk
      ·have e:jc o (p.1.getD 0 0) (p.1.getD 1 0)=⟨7,0,p.1.getD 0 0,0,0,o.w,o.kn,0⟩:=by unfold jc;rw [if_pos hk]
       have qy:=CP.out
       rw [e] at qy
       have qA:=zx.out
       rw [e] at qA
       have PU:Hid (∀wx,GM (K.k3 w.heap.size ao l.length) g7 wx→Calls Try.prog 47 #[.pointer (some ⟨K.h,0,none⟩), .agg #[.int .i64 7, .int .i64 0, .int .i64 (p.1.getD 0 0), .int .i64 0, .int .i64 0, .int .i64 o.w, .int .u32 o.kn, .int .u32 0]] wx fun e w'=>e= .returned (.tuple #[])∧GM (K.k3 w.heap.size ao l.length) (g7.put ⟨7,0,p.1.getD 0 0,0,0,o.w,o.kn,0⟩) w'∧ah (SG (K.k3 w.heap.size ao l.length)) wx w'):=
        fun wx a=>dR (K:=K.k3 w.heap.size ao l.length) (g:=g7) _ wx a qy (Nat.le_trans P7.out (by decide))
       have ED:=κ qA
       rw [hk] at o0 GI
       clear qy qA zx CP e hk
       go_upto_region 21 with(go_at_call 95;refine(GI.out _).mono ?_;rintro e w' ⟨rfl,rfl⟩)
       go_region
       go_wp2_with (go_at_call 47;refine(PU.out _ (G.out.alloc _).drew).mono ?_;rintro e w8 ⟨rfl,a8,u8⟩;have A8:=κ a8;have U8:=κ (((U.out.alloc _).drew).trans ((SG.uI u8).mono fun _ _ h=> .inl h));clear a8 u8)
       go_end0
       exact⟨rfl,by rw [ED.out];exact A8.out.uI,U8.out.mono fun i hi h=>h.elim id (fun h=>absurd hi (by omega))⟩
      ·have e:jc o (p.1.getD 0 0) (p.1.getD 1 0)=⟨(88+o.w),(p.1.getD 1 0),p.1.getD 0 0,0,0,o.n,o.kn,0⟩:=by unfold jc;rw [if_neg (by rw [hk];decide),if_pos hk]
       have qy:=CP.out
       rw [e] at qy
       have qA:=zx.out
       rw [e] at qA
       have PU:Hid (∀wx,GM (K.k3 w.heap.size ao l.length) g7 wx→Calls Try.prog 47 #[.pointer (some ⟨K.h,0,none⟩), .agg #[.int .i64 (88+o.w), .int .i64 (p.1.getD 1 0), .int .i64 (p.1.getD 0 0), .int .i64 0, .int .i64 0, .int .i64 o.n, .int .u32 o.kn, .int .u32 0]] wx fun e w'=>e= .returned (.tuple #[])∧GM (K.k3 w.heap.size ao l.length) (g7.put ⟨(88+o.w),(p.1.getD 1 0),p.1.getD 0 0,0,0,o.n,o.kn,0⟩) w'∧ah (SG (K.k3 w.heap.size ao l.length)) wx w'):=
        fun wx a=>dR (K:=K.k3 w.heap.size ao l.length) (g:=g7) _ wx a qy (Nat.le_trans P7.out (by decide))
       have ED:=κ qA
       rw [hk] at o0 GI
       clear qy qA zx CP e hk
       go_upto_region 23 with(go_at_call 95;refine(GI.out _).mono ?_;rintro e w' ⟨rfl,rfl⟩)
       go_region
       go_wp2_with (go_at_call 47;refine(PU.out _ (G.out.alloc _).drew).mono ?_;rintro e w8 ⟨rfl,a8,u8⟩;have A8:=κ a8;have U8:=κ (((U.out.alloc _).drew).trans ((SG.uI u8).mono fun _ _ h=> .inl h));clear a8 u8)
       go_end0
       exact⟨rfl,by rw [ED.out];exact A8.out.uI,U8.out.mono fun i hi h=>h.elim id (fun h=>absurd hi (by omega))⟩
      ·have e:jc o (p.1.getD 0 0) (p.1.getD 1 0)=⟨10,0,p.1.getD 0 0,0,0,o.n,o.kn,0⟩:=by unfold jc;rw [if_neg (by rw [hk];decide),if_neg (by rw [hk];decide),if_pos hk]
       have qy:=CP.out
       rw [e] at qy
       have qA:=zx.out
       rw [e] at qA
       have PU:Hid (∀wx,GM (K.k3 w.heap.size ao l.length) g7 wx→Calls Try.prog 47 #[.pointer (some ⟨K.h,0,none⟩), .agg #[.int .i64 10, .int .i64 0, .int .i64 (p.1.getD 0 0), .int .i64 0, .int .i64 0, .int .i64 o.n, .int .u32 o.kn, .int .u32 0]] wx fun e w'=>e= .returned (.tuple #[])∧GM (K.k3 w.heap.size ao l.length) (g7.put ⟨10,0,p.1.getD 0 0,0,0,o.n,o.kn,0⟩) w'∧ah (SG (K.k3 w.heap.size ao l.length)) wx w'):=
        fun wx a=>dR (K:=K.k3 w.heap.size ao l.length) (g:=g7) _ wx a qy (Nat.le_trans P7.out (by decide))
       have ED:=κ qA
       rw [hk] at o0 GI
       clear qy qA zx CP e hk
       go_upto_region 25 with(go_at_call 95;refine(GI.out _).mono ?_;rintro e w' ⟨rfl,rfl⟩)
       go_upto_region 36 with fail
       go_wp2_with (go_at_call 47;refine(PU.out _ (G.out.alloc _)).mono ?_;rintro e w8 ⟨rfl,a8,u8⟩;have A8:=κ a8;have U8:=κ (((U.out.alloc _)).trans ((SG.uI u8).mono fun _ _ h=> .inl h));clear a8 u8)
       go_end0
       exact⟨rfl,by rw [ED.out];exact A8.out.uI,U8.out.mono fun i hi h=>h.elim id (fun h=>absurd hi (by omega))⟩
      ·have e:jc o (p.1.getD 0 0) (p.1.getD 1 0)=⟨11,0,p.1.getD 0 0,0,0,o.n,o.kn,0⟩:=by unfold jc;rw [if_neg (by rw [hk];decide),if_neg (by rw [hk];decide),if_neg (by rw [hk];decide),if_pos hk]
       have qy:=CP.out
       rw [e] at qy
       have qA:=zx.out
       rw [e] at qA
       have PU:Hid (∀wx,GM (K.k3 w.heap.size ao l.length) g7 wx→Calls Try.prog 47 #[.pointer (some ⟨K.h,0,none⟩), .agg #[.int .i64 11, .int .i64 0, .int .i64 (p.1.getD 0 0), .int .i64 0, .int .i64 0, .int .i64 o.n, .int .u32 o.kn, .int .u32 0]] wx fun e w'=>e= .returned (.tuple #[])∧GM (K.k3 w.heap.size ao l.length) (g7.put ⟨11,0,p.1.getD 0 0,0,0,o.n,o.kn,0⟩) w'∧ah (SG (K.k3 w.heap.size ao l.length)) wx w'):=
        fun wx a=>dR (K:=K.k3 w.heap.size ao l.length) (g:=g7) _ wx a qy (Nat.le_trans P7.out (by decide))
       have ED:=κ qA
       rw [hk] at o0 GI
       clear qy qA zx CP e hk
       go_upto_region 27 with(go_at_call 95;refine(GI.out _).mono ?_;rintro e w' ⟨rfl,rfl⟩)
       go_upto_region 36 with fail
       go_wp2_with (go_at_call 47;refine(PU.out _ (G.out.alloc _)).mono ?_;rintro e w8 ⟨rfl,a8,u8⟩;have A8:=κ a8;have U8:=κ (((U.out.alloc _)).trans ((SG.uI u8).mono fun _ _ h=> .inl h));clear a8 u8)
       go_end0
       exact⟨rfl,by rw [ED.out];exact A8.out.uI,U8.out.mono fun i hi h=>h.elim id (fun h=>absurd hi (by omega))⟩
      ·have e:jc o (p.1.getD 0 0) (p.1.getD 1 0)=⟨13,o.w,p.1.getD 0 0,0,0,o.n,o.kn,0⟩:=by unfold jc;rw [if_neg (by rw [hk];decide),if_neg (by rw [hk];decide),if_neg (by rw [hk];decide),if_neg (by rw [hk];decide),if_pos hk]
       have qy:=CP.out
       rw [e] at qy
       have qA:=zx.out
       rw [e] at qA
       have PU:Hid (∀wx,GM (K.k3 w.heap.size ao l.length) g7 wx→Calls Try.prog 47 #[.pointer (some ⟨K.h,0,none⟩), .agg #[.int .i64 13, .int .i64 o.w, .int .i64 (p.1.getD 0 0), .int .i64 0, .int .i64 0, .int .i64 o.n, .int .u32 o.kn, .int .u32 0]] wx fun e w'=>e= .returned (.tuple #[])∧GM (K.k3 w.heap.size ao l.length) (g7.put ⟨13,o.w,p.1.getD 0 0,0,0,o.n,o.kn,0⟩) w'∧ah (SG (K.k3 w.heap.size ao l.length)) wx w'):=
        fun wx a=>dR (K:=K.k3 w.heap.size ao l.length) (g:=g7) _ wx a qy (Nat.le_trans P7.out (by decide))
       have ED:=κ qA
       rw [hk] at o0 GI
       clear qy qA zx CP e hk
       go_upto_region 29 with(go_at_call 95;refine(GI.out _).mono ?_;rintro e w' ⟨rfl,rfl⟩)
       go_region
       go_wp2_with (go_at_call 47;refine(PU.out _ (G.out.alloc _).drew).mono ?_;rintro e w8 ⟨rfl,a8,u8⟩;have A8:=κ a8;have U8:=κ (((U.out.alloc _).drew).trans ((SG.uI u8).mono fun _ _ h=> .inl h));clear a8 u8)
       go_end0
       exact⟨rfl,by rw [ED.out];exact A8.out.uI,U8.out.mono fun i hi h=>h.elim id (fun h=>absurd hi (by omega))⟩
      ·have e:jc o (p.1.getD 0 0) (p.1.getD 1 0)=⟨12,o.w,p.1.getD 0 0,0,0,o.n,o.kn,(o.b%4294967296)⟩:=by unfold jc;rw [if_neg (by rw [hk];decide),if_neg (by rw [hk];decide),if_neg (by rw [hk];decide),if_neg (by rw [hk];decide),if_neg (by rw [hk];decide),if_pos hk]
       have qy:=CP.out
       rw [e] at qy
       have qA:=zx.out
       rw [e] at qA
       have PU:Hid (∀wx,GM (K.k3 w.heap.size ao l.length) g7 wx→Calls Try.prog 47 #[.pointer (some ⟨K.h,0,none⟩), .agg #[.int .i64 12, .int .i64 o.w, .int .i64 (p.1.getD 0 0), .int .i64 0, .int .i64 0, .int .i64 o.n, .int .u32 o.kn, .int .u32 (o.b%4294967296)]] wx fun e w'=>e= .returned (.tuple #[])∧GM (K.k3 w.heap.size ao l.length) (g7.put ⟨12,o.w,p.1.getD 0 0,0,0,o.n,o.kn,(o.b%4294967296)⟩) w'∧ah (SG (K.k3 w.heap.size ao l.length)) wx w'):=
        fun wx a=>dR (K:=K.k3 w.heap.size ao l.length) (g:=g7) _ wx a qy (Nat.le_trans P7.out (by decide))
       have ED:=κ qA
       rw [hk] at o0 GI
       clear qy qA zx CP e hk
       go_upto_region 31 with(go_at_call 95;refine(GI.out _).mono ?_;rintro e w' ⟨rfl,rfl⟩)
       go_region
       go_wp2_with (go_at_call 47;refine(PU.out _ (G.out.alloc _).drew).mono ?_;rintro e w8 ⟨rfl,a8,u8⟩;have A8:=κ a8;have U8:=κ (((U.out.alloc _).drew).trans ((SG.uI u8).mono fun _ _ h=> .inl h));clear a8 u8)
       go_end0
       exact⟨rfl,by rw [ED.out];exact A8.out.uI,U8.out.mono fun i hi h=>h.elim id (fun h=>absurd hi (by omega))⟩
      ·have e:jc o (p.1.getD 0 0) (p.1.getD 1 0)=⟨14,0,p.1.getD 0 0,0,0,o.n,o.kn,0⟩:=by unfold jc;rw [if_neg (by rw [hk];decide),if_neg (by rw [hk];decide),if_neg (by rw [hk];decide),if_neg (by rw [hk];decide),if_neg (by rw [hk];decide),if_neg (by rw [hk];decide),if_pos hk]
       have qy:=CP.out
       rw [e] at qy
       have qA:=zx.out
       rw [e] at qA
       have PU:Hid (∀wx,GM (K.k3 w.heap.size ao l.length) g7 wx→Calls Try.prog 47 #[.pointer (some ⟨K.h,0,none⟩), .agg #[.int .i64 14, .int .i64 0, .int .i64 (p.1.getD 0 0), .int .i64 0, .int .i64 0, .int .i64 o.n, .int .u32 o.kn, .int .u32 0]] wx fun e w'=>e= .returned (.tuple #[])∧GM (K.k3 w.heap.size ao l.length) (g7.put ⟨14,0,p.1.getD 0 0,0,0,o.n,o.kn,0⟩) w'∧ah (SG (K.k3 w.heap.size ao l.length)) wx w'):=
        fun wx a=>dR (K:=K.k3 w.heap.size ao l.length) (g:=g7) _ wx a qy (Nat.le_trans P7.out (by decide))
       have ED:=κ qA
       rw [hk] at o0 GI
       clear qy qA zx CP e hk
       go_upto_region 33 with(go_at_call 95;refine(GI.out _).mono ?_;rintro e w' ⟨rfl,rfl⟩)
       go_upto_region 36 with fail
       go_wp2_with (go_at_call 47;refine(PU.out _ (G.out.alloc _)).mono ?_;rintro e w8 ⟨rfl,a8,u8⟩;have A8:=κ a8;have U8:=κ (((U.out.alloc _)).trans ((SG.uI u8).mono fun _ _ h=> .inl h));clear a8 u8)
       go_end0
       exact⟨rfl,by rw [ED.out];exact A8.out.uI,U8.out.mono fun i hi h=>h.elim id (fun h=>absurd hi (by omega))⟩
      ·have e:jc o (p.1.getD 0 0) (p.1.getD 1 0)=⟨4,0,p.1.getD 0 0,0,0,o.n,o.kn,0⟩:=by unfold jc;rw [if_neg (by rw [hk];decide),if_neg (by rw [hk];decide),if_neg (by rw [hk];decide),if_neg (by rw [hk];decide),if_neg (by rw [hk];decide),if_neg (by rw [hk];decide),if_neg (by rw [hk];decide),if_pos hk]
       have qy:=CP.out
       rw [e] at qy
       have qA:=zx.out
       rw [e] at qA
       have PU:Hid (∀wx,GM (K.k3 w.heap.size ao l.length) g7 wx→Calls Try.prog 47 #[.pointer (some ⟨K.h,0,none⟩), .agg #[.int .i64 4, .int .i64 0, .int .i64 (p.1.getD 0 0), .int .i64 0, .int .i64 0, .int .i64 o.n, .int .u32 o.kn, .int .u32 0]] wx fun e w'=>e= .returned (.tuple #[])∧GM (K.k3 w.heap.size ao l.length) (g7.put ⟨4,0,p.1.getD 0 0,0,0,o.n,o.kn,0⟩) w'∧ah (SG (K.k3 w.heap.size ao l.length)) wx w'):=
        fun wx a=>dR (K:=K.k3 w.heap.size ao l.length) (g:=g7) _ wx a qy (Nat.le_trans P7.out (by decide))
       have ED:=κ qA
       rw [hk] at o0 GI
       clear qy qA zx CP e hk
       go_upto_region 35 with(go_at_call 95;refine(GI.out _).mono ?_;rintro e w' ⟨rfl,rfl⟩)
       go_upto_region 36 with fail
       go_wp2_with (go_at_call 47;refine(PU.out _ (G.out.alloc _)).mono ?_;rintro e w8 ⟨rfl,a8,u8⟩;have A8:=κ a8;have U8:=κ (((U.out.alloc _)).trans ((SG.uI u8).mono fun _ _ h=> .inl h));clear a8 u8)
       go_end0
       exact⟨rfl,by rw [ED.out];exact A8.out.uI,U8.out.mono fun i hi h=>h.elim id (fun h=>absurd hi (by omega))⟩
end Go.Proofs.Ytcjcmnnhmajocab.Gn
