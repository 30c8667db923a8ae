import Derived.Test.YtcjcmnnhmajocabGreatProg
import Derived.Lib.Hide
import Derived.ProofKit
import Derived.WalkLawsBesides
import Derived.WalkSpells
import Derived.BigQuiet
import Derived.Deep.RegionHeld3
set_option linter.unusedVariables false
set_option linter.unusedSimpArgs false
set_option maxRecDepth 100000
set_option maxHeartbeats 16000000
theorem Go.Proofs.YtcjcmnnhmajocabGreat.iR {P:Go.Program} {ops:Array Go.Oper} {Q:Go.Exit→Go.Act→Go.World→Prop} {md:Go.Region.Mode} {S:Go.World→Prop} {fuel:Nat} {listed:Array Bool} {a:Go.Act} {w:Go.World} (i:Nat) (d:Go.Tmp) (v:Go.Value) {oi:Go.Oper} (hi:ops[i]?=some oi) (hd:oi.dst=some d) (hs:Go.Region.noSelect ops=true) (hf:Go.Region.free md ops listed i=true) (hr:(Go.Region.ready md ops listed).contains i=true) (hQ:∀c a w,Q (.panic c) (a.put (some d) v) w→Q (.panic c) a w) (hy:Go.YieldsIf P ops S oi v a) (hS:S w) (h:Go.wpAnyH P md ops Q S fuel (listed.setIfInBounds i true) (a.put (some d) v) w):Go.wpAnyH P md ops Q S (fuel+1) listed a w:=Go.wpAnyH_take hi hs hf hr (by rw [hd];exact hQ) hy hS (by rw [hd];exact h)
theorem Go.Proofs.YtcjcmnnhmajocabGreat.aA {α:Type} (l:List α) (i:Nat) (x:α):l.toArray.setIfInBounds i x=(l.set i x).toArray:=List.setIfInBounds_toArray ..
theorem Go.Proofs.YtcjcmnnhmajocabGreat.aB {α:Type} (a:α) (l:List α) (x:α):(a::l).set 0 x=x::l:=List.set_cons_zero ..
theorem Go.Proofs.YtcjcmnnhmajocabGreat.aC {α:Type} (a:α) (l:List α) (i:Nat) (x:α):(a::l).set (i+1) x=a::l.set i x:=List.set_cons_succ ..
theorem Go.Proofs.YtcjcmnnhmajocabGreat.κ {p:Prop} (h:p):Go.RowKit.Hid p:=h
namespace Go.Proofs.YtcjcmnnhmajocabGreat.Ic
open Go.RowKit
def gv (k:Int):Bool:=decide ((1≤k∧k≤9∧k≠3)∨k=17)
def fin (k:Int):Bool:=decide (14≤k∧k≤16)
theorem Ve {k:Int} (h:(1≤k∧k≤9∧k≠3)∨k=17):gv k=true:=decide_eq_true h
theorem Ug {k:Int} (h:¬ ((1≤k∧k≤9∧k≠3)∨k=17)):gv k=false:=decide_eq_false h
theorem Cm (k:Int) (w:World):Calls Tryz.prog 90 #[.int .i64 k] w fun e w'=>e= .returned (.bool (gv k))∧w=w':=by
 rcases(show k<1∨(1≤k∧k≤9∧k≠3)∨k=3∨(10≤k∧k≠17)∨k=17 by omega) with h | h | h | h | h
 ·rw [Ug (by omega)]
  have c1:¬1≤k:=by omega
  have c2:(k==17)=false:=by simp;omega
  go_enter Tryz.func90,Tryz.ntmps90
  go_wp2
  go_ret
  exact⟨rfl,rfl⟩
 ·rw [Ve (.inl h)]
  have c1:1≤k:=h.1
  have c3:k≤9:=h.2.1
  have c4:(k==3)=false:=by simp;omega
  go_enter Tryz.func90,Tryz.ntmps90
  go_wp2
  go_ret
  exact⟨rfl,rfl⟩
 ·subst h
  go_enter Tryz.func90,Tryz.ntmps90
  go_wp2
  go_ret
  exact⟨rfl,rfl⟩
 ·rw [Ug (by omega)]
  have c1:1≤k:=by omega
  have c3:¬k≤9:=by omega
  have c2:(k==17)=false:=by simp;omega
  go_enter Tryz.func90,Tryz.ntmps90
  go_wp2
  go_ret
  exact⟨rfl,rfl⟩
 ·subst h
  go_enter Tryz.func90,Tryz.ntmps90
  go_wp2
  go_ret
  exact⟨rfl,rfl⟩
theorem xI (k:Int) (w:World):Calls Tryz.prog 62 #[.int .i64 k] w fun e w'=>e= .returned (.bool (fin k))∧w=w':=by
 rcases(show k<14∨(14≤k∧k≤16)∨16<k by omega) with h | h | h
 ·rw [show fin k=false from decide_eq_false (by omega)]
  have c1:¬14≤k:=by omega
  go_enter Tryz.func62,Tryz.ntmps62
  go_wp2
  go_ret
  exact⟨rfl,rfl⟩
 ·rw [show fin k=true from decide_eq_true h]
  have c1:14≤k:=h.1
  have c2:k≤16:=h.2
  go_enter Tryz.func62,Tryz.ntmps62
  go_wp2
  go_ret
  exact⟨rfl,rfl⟩
 ·rw [show fin k=false from decide_eq_false (by omega)]
  have c1:14≤k:=by omega
  have c2:¬k≤16:=by omega
  go_enter Tryz.func62,Tryz.ntmps62
  go_wp2
  go_ret
  exact⟨rfl,rfl⟩
structure aV where
 k:Int
 w:Int
 a:Int
 b:Int
 c:Int
 kn:Int
 n:Int
def aV.cells (o:aV):Array Value:= #[.int .i64 o.k, .int .i64 o.w, .int .i64 o.a, .int .i64 o.b, .int .i64 o.c, .int .u32 o.kn, .int .i64 o.n]
def zY (os:List aV) (ao:Option Addr) (cap:Nat) (w:World):Prop:=
 os.length≤cap∧cap≤maxLen∧(0<os.length→∃g off,ao=some ⟨g,off,none⟩∧g<w.heap.size∧∀i o,os[i]?=some o→∀j v,o.cells[j]?=some v→w.cell? ⟨g,off+i*7+j,none⟩=some v)
theorem zY.keep {os:List aV} {ao:Option Addr} {cap:Nat} {w w':World} (h:zY os ao cap w) (hb:Below w.heap.size w w'):zY os ao cap w':=by
 obtain⟨h1,h2,h3⟩:=h
 refine⟨h1,h2,fun hp=> ?_⟩
 obtain⟨g,off,e,hg,hc⟩:=h3 hp
 exact⟨g,off,e,Nat.lt_of_lt_of_le hg hb.size,fun i o hi j v hj=>(hb.cell (p:=⟨g,_,none⟩) hg).trans (hc i o hi j v hj)⟩
def yj (os:List aV) (t:Nat):Int:=match os[t]? with
 | some o=>o.k
 | none=>0
def qy (os:List aV) (i:Nat) (t:Int):Bool:=decide (0≤t∧t<(i:Int))&&gv (yj os t.toNat)
def blk (pc aj aN:Int) (ao:Option Addr) (L cap:Nat):Value:= .agg #[.int .u32 pc, .int .i64 aj, .int .i64 aN, .slice ao L cap]
theorem qG (os:List aV) (ao:Option Addr) (cap:Nat) (pc aj aN:Int) (i:Nat) (t:Int) (w:World) (h:zY os ao cap w) (hi:i≤os.length):
  Calls Tryz.prog 61 #[.agg #[.int .u32 pc, .int .i64 aj, .int .i64 aN, .slice ao os.length cap], .int .i64 i, .int .i64 t] w fun e w'=>e= .returned (.bool (qy os i t))∧Below w.heap.size w w':=by
 have hm:(maxLen:Nat)=9223372036854775807:=rfl
 obtain⟨h1,h2,h3⟩:=h
 rw [hm] at h2
 clear hm
 by_cases h0:0≤t
 ·obtain⟨s,rfl⟩:=Int.eq_ofNat_of_zero_le h0
  by_cases hs:s<i
  ·obtain⟨g,off,rfl,hg,hc⟩:=h3 (by omega)
   have hl:s<os.length:=by omega
   have hcell:w.cell? ⟨g,off+s*7,none⟩=some (.int .i64 (os[s].k)):=hc s _ (List.getElem?_eq_getElem hl) 0 _ rfl
   have hv:qy os i (s:Int)=gv os[s].k:=by
    unfold qy yj
    rw [decide_eq_true (by omega),Bool.true_and,Int.toNat_natCast,List.getElem?_eq_getElem hl]
   rw [hv]
   generalize os[s].k=kk at hcell
   have O5:(s:Int) <(i:Int):=by omega
   have hl':(s:Int) <(os.length:Int):=by omega
   clear hc h3 hv
   go_enter Tryz.func61,Tryz.ntmps61
   go_wp2_with (go_at_call 90;refine(Cm kk _).mono ?_;rintro e w' ⟨rfl,rfl⟩)
   go_ret
   exact⟨rfl,(Below.refl _ _).alloc (Nat.le_refl _) _⟩
  ·have hv:qy os i (s:Int)=false:=by unfold qy;rw [decide_eq_false (by omega),Bool.false_and]
   rw [hv]
   clear hv h3
   have O5:¬ (s:Int) <(i:Int):=by omega
   go_enter Tryz.func61,Tryz.ntmps61
   go_wp2
   go_ret
   exact⟨rfl,(Below.refl _ _).alloc (Nat.le_refl _) _⟩
 ·have hv:qy os i t=false:=by unfold qy;rw [decide_eq_false (by omega),Bool.false_and]
  rw [hv]
  clear hv h3
  go_enter Tryz.func61,Tryz.ntmps61
  go_wp2
  go_ret
  exact⟨rfl,(Below.refl _ _).alloc (Nat.le_refl _) _⟩
end Go.Proofs.YtcjcmnnhmajocabGreat.Ic
namespace Go.Proofs.YtcjcmnnhmajocabGreat.Kt
open Go.RowKit Go.WideShapes Go.ChangeShapes
section
variable {H:Type} {enc:TypeId×Value→H} {P:Program}
end
theorem chain {w a b:World} (h:Below w.heap.size w a) (k:Below a.heap.size a b):Below w.heap.size w b:=h.trans (k.mono h.size)
theorem ji {n:Int} (h:(Lit.int .u32 n).wf=true):0≤n∧n<4294967296:=by
 have Zr:IntKind.u32.min=0:=rfl
 have Zt:IntKind.u32.max=4294967295:=rfl
 simp only [Lit.wf,Bool.and_eq_true,decide_eq_true_eq] at h
 omega
theorem Zu {n:Int} (h:(Lit.int .u8 n).wf=true):0≤n∧n<256:=by
 have Zr:IntKind.u8.min=0:=rfl
 have Zt:IntKind.u8.max=255:=rfl
 simp only [Lit.wf,Bool.and_eq_true,decide_eq_true_eq] at h
 omega
theorem Vf {n:Int} (h:(Lit.int .i64 n).wf=true): -9223372036854775808≤n∧n<9223372036854775808:=by
 have Zr:IntKind.i64.min= -9223372036854775808:=rfl
 have Zt:IntKind.i64.max=9223372036854775807:=rfl
 simp only [Lit.wf,Bool.and_eq_true,decide_eq_true_eq] at h
 omega
end Go.Proofs.YtcjcmnnhmajocabGreat.Kt
namespace Go.Proofs.YtcjcmnnhmajocabGreat.Me
open Go.RowKit Kt
structure MM where
 fD:Nat→Int
 rt:Nat→Int
 wd:Nat→Bool
 hi:Nat→Bool
def aF {α:Type} (f:Nat→α) (k:Nat) (v:α):Nat→α:=fun j=>if j=k then v else f j
def HM (p:Nat) (M:MM) (n:Int) (W:World):Prop:=
 (∀j,j<65536→W.cell? ⟨p,j,none⟩=some (.int .u8 (M.fD j)))∧(∀j,j<256→W.cell? ⟨p,65536+j,none⟩=some (.int .u8 (M.rt j)))∧(∀j,j<256→W.cell? ⟨p,65792+j,none⟩=some (.bool (M.wd j)))∧
  (∀j,j<256→W.cell? ⟨p,66048+j,none⟩=some (.bool (M.hi j)))∧W.cell? ⟨p,66304,none⟩=some (.int .i64 n)∧(∀i,W.frozen? ⟨p,i,none⟩=false)∧p<W.heap.size
def nC (p:Nat) (W W':World):Prop:=W'.heap.size=W.heap.size∧(∀b,b≠p→W'.heap[b]?=W.heap[b]?)∧∀B,B≤p→Below B W W'
theorem nC.refl (p:Nat) (W:World):nC p W W:=⟨rfl,fun _ _=>rfl,fun B _=>Below.refl B W⟩
theorem nC.set {p:Nat} {W W':World} (h:nC p W W') (j:Nat) (v:Value):nC p W (W'.setCell ⟨p,j,none⟩ v):=
 ⟨by rw [←h.1];simp,fun b hb=>(heap_setCell_other _ ⟨p,j,none⟩ b _ hb).trans (h.2.1 b hb),fun B hB=>(h.2.2 B hB).setCell hB _⟩
theorem HM.aH {p:Nat} {W:World} {j i:Nat} {v:Value} (dR:i≠j):(W.setCell ⟨p,j,none⟩ v).cell? ⟨p,i,none⟩=W.cell? ⟨p,i,none⟩:=
 World.cell?_setCell_other _ _ _ _ (by intro h;simp only [Addr.mk.injEq] at h;omega)
theorem HM.Uh {p:Nat} {M:MM} {n:Int} {W:World} (h:HM p M n W) (k:Nat) (hk:k<256) (b:Bool):HM p {M with hi:=aF M.hi k b} n (W.setCell ⟨p,66048+k,none⟩ (.bool b)):=by
 obtain⟨h1,h2,h3,h4,h5,h6,h7⟩:=h
 refine⟨fun j hj=> ?_,fun j hj=> ?_,fun j hj=> ?_,fun j hj=> ?_, ?_,fun i=>by simpa using h6 i,by simpa using h7⟩
 ·rw [HM.aH (by omega)];exact h1 j hj
 ·rw [HM.aH (by omega)];exact h2 j hj
 ·rw [HM.aH (by omega)];exact h3 j hj
 ·by_cases qZ:j=k
  ·subst qZ
   rw [World.cell?_setCell_same _ _ _ (h4 j hj)]
   simp [aF]
  ·rw [HM.aH (by omega),h4 j hj]
   simp [aF,qZ]
 ·rw [HM.aH (by omega)];exact h5
theorem HM.Jy {p:Nat} {M:MM} {n:Int} {W:World} (h:HM p M n W) (n':Int):HM p M n' (W.setCell ⟨p,66304,none⟩ (.int .i64 n')):=by
 obtain⟨h1,h2,h3,h4,h5,h6,h7⟩:=h
 refine⟨fun j hj=> ?_,fun j hj=> ?_,fun j hj=> ?_,fun j hj=> ?_, ?_,fun i=>by simpa using h6 i,by simpa using h7⟩
 ·rw [HM.aH (by omega)];exact h1 j hj
 ·rw [HM.aH (by omega)];exact h2 j hj
 ·rw [HM.aH (by omega)];exact h3 j hj
 ·rw [HM.aH (by omega)];exact h4 j hj
 ·exact World.cell?_setCell_same _ _ _ h5
theorem nV (k:Int) (w:World):Calls Tryz.prog 80 #[.int .i64 k] w fun e w'=>e= .returned (.bool (decide (0≤k)&&decide (k<256)))∧w=w':=by
 by_cases h:0≤k
 ·go_enter Tryz.func80,Tryz.ntmps80
  go_wp2
  go_ret
  exact⟨by simp [h],rfl⟩
 ·go_enter Tryz.func80,Tryz.ntmps80
  go_wp2
  go_ret
  exact⟨by simp;omega,rfl⟩
theorem ru (k:Int) (w:World):Calls Tryz.prog 81 #[.int .i64 k] w fun e w'=>e= .returned (.bool (decide (0≤k)&&decide (k<256)))∧w=w':=by
 by_cases h:0≤k
 ·go_enter Tryz.func81,Tryz.ntmps81
  go_wp2
  go_ret
  exact⟨by simp [h],rfl⟩
 ·go_enter Tryz.func81,Tryz.ntmps81
  go_wp2
  go_ret
  exact⟨by simp;omega,rfl⟩
def l7 (M:MM) (k:Nat):MM:=if M.wd k&& !M.hi k then{M with hi:=aF M.hi k true} else M
def Jz (M:MM) (n:Int) (k:Nat):Int:=if M.wd k&& !M.hi k then n+1 else n
theorem vG (p:Nat) (M:MM) (n:Int) (k:Nat) (w:World) (h:HM p M n w) (hk:k<256) (n0:0≤n) (n1:n≤256):
  Calls Tryz.prog 78 #[.pointer (some ⟨p,0,none⟩), .int .i64 (k:Int)] w fun e w'=>e= .returned (.tuple #[])∧HM p (l7 M k) (Jz M n k) w'∧nC p w w':=by
 have c3:=h.2.2.1 k hk
 have c4:=h.2.2.2.1 k hk
 have c5:=h.2.2.2.2.1
 have z4:=h.2.2.2.2.2.1 (66048+k)
 have z5:=h.2.2.2.2.2.1 66304
 have HH:=κ h
 clear h
 have k0:(0:Int)≤(k:Int):=by omega
 have k1:(k:Int) <256:=by omega
 unfold l7 Jz
 generalize hm:M.wd k=bm at c3⊢
 generalize hh:M.hi k=bh at c4⊢
 clear hm hh
 cases bm
 ·go_enter Tryz.func78,Tryz.ntmps78
  go_wp2
  go_end0
  exact⟨rfl,HH.out,nC.refl _ _⟩
 ·cases bh
  ·go_enter Tryz.func78,Tryz.ntmps78
   go_wp2
   go_end0
   exact⟨rfl,(HH.out.Uh k hk true).Jy (n+1),((nC.refl _ _).set _ _).set _ _⟩
  ·go_enter Tryz.func78,Tryz.ntmps78
   go_wp2
   go_end0
   exact⟨rfl,HH.out,nC.refl _ _⟩
end Go.Proofs.YtcjcmnnhmajocabGreat.Me
namespace Go.Proofs.YtcjcmnnhmajocabGreat.Fl
open Go
def zn (x:Int):Int:=(if x=0 then 1 else 0)+(if 2147483648≤x then 2 else 0)
def sg (x:Int):Int:=if 2147483648≤x then x-4294967296 else x
def oW (x:Int):Bool:=decide (2147483648≤x) || decide (x< -2147483648)
def uF (a b c:Int):Int:=zn ((a+b+c)%4294967296)+(if 4294967296≤a+b+c then 4 else 0)+(if oW (sg a+sg b+c) then 8 else 0)
def uG (a b c:Int):Int:=zn ((a-b-c)%4294967296)+(if a-b-c<0 then 4 else 0)+(if oW (sg a-sg b-c) then 8 else 0)
theorem Vg {a b:Nat} (ha:a<4294967296) (hb:b<4294967296):a^^^b<4294967296:=Nat.xor_lt_two_pow (n:=32) ha hb
theorem Vh {a b:Nat} (hb:b<4294967296):a&&&b<4294967296:=Nat.and_lt_two_pow (n:=32) _ hb
theorem Ui {a b:Nat} (ha:a<4294967296) (hb:b<4294967296):a ||| b<4294967296:=Nat.or_lt_two_pow (n:=32) ha hb
theorem gX (x:Int):0≤zn x∧zn x<4:=by unfold zn;split<;>split<;>omega
theorem Vj (x:Int) (h:0≤x) (g:x<4294967296):bits .and .u32 x 15=x%16:=bits_mask .u32 32 (by decide) (fun n Vk Vl=>by rw [IntKind.wrap_u32];omega) 4 (by decide) x h g
theorem Zv (x:Int) (h:0≤x) (g:x<4294967296):bits .and .u32 x 1=x%2:=bits_mask .u32 32 (by decide) (fun n Vk Vl=>by rw [IntKind.wrap_u32];omega) 1 (by decide) x h g
def n5 (b:Int):Nat:=(b%32).toNat
def xJ (a:Int) (n:Nat):Int:=a*2^n%4294967296+a/2^(32-n)
def fl (k a b old:Int):Int:=
 if k=1 then uF a b 0
 else if k=2 then uF a b (old/4%2)
 else if k=3 then uG a b 0
 else if k=4 then uG a b (old/4%2)
 else if k=5 then zn a
 else if k=10 then zn (a*b%4294967296)+(if 4294967296≤a*b then 12 else 0)
 else if k=11 then zn ((a+1)%4294967296)+old/4%2*4+(if oW (sg a+1) then 8 else 0)
 else if k=12 then zn ((a-1)%4294967296)+old/4%2*4+(if oW (sg a-1) then 8 else 0)
 else if k<6∨9<k∨b%32=0 then old%16
 else if k=6 then zn (a*2^n5 b%4294967296)+(if a*2^n5 b/4294967296%2=1 then 4 else 0)
 else if k=7 then zn (a/2^n5 b)+(if a/2^(n5 b-1)%2=1 then 4 else 0)
 else if k=8 then zn (sg a/2^n5 b%4294967296)+(if a/2^(n5 b-1)%2=1 then 4 else 0)
 else old%16-old/4%2*4+(if xJ a (n5 b)%2=1 then 4 else 0)
theorem Uj (b:Int):n5 b<32:=by unfold n5;omega
theorem two_pow_pos (n:Nat):(0:Int) <2^n:=Int.pow_pos (by omega)
theorem xK (n:Nat) (h:n≤32):(2:Int)^n*2^(32-n)=4294967296:=by
 rw [←Int.pow_add];rw [show n+(32-n)=32 by omega];rfl
theorem dU (a:Int) (n:Nat) (h:0≤a):0≤a/2^n∧a/2^n≤a:=
 ⟨Int.ediv_nonneg h (Int.le_of_lt (two_pow_pos n)),Int.ediv_le_self _ h⟩
theorem adY (a b old:Int) (hn:1≤b%32):fl 6 a b old=zn (a*2^n5 b%4294967296)+(if a*2^n5 b/4294967296%2=1 then 4 else 0):=by
 unfold fl
 rw [if_neg (show¬ (6:Int)=1 by decide),if_neg (show¬ (6:Int)=2 by decide),if_neg (show¬ (6:Int)=3 by decide),if_neg (show¬ (6:Int)=4 by decide),if_neg (show¬ (6:Int)=5 by decide),if_neg (show¬ (6:Int)=10 by decide),if_neg (show¬ (6:Int)=11 by decide),if_neg (show¬ (6:Int)=12 by decide),if_neg (show¬ ((6:Int) <6∨9<(6:Int)∨b%32=0) by omega),if_pos (show(6:Int)=6 from rfl)]
theorem adZ (a b old:Int) (hn:1≤b%32):fl 7 a b old=zn (a/2^n5 b)+(if a/2^(n5 b-1)%2=1 then 4 else 0):=by
 unfold fl
 rw [if_neg (show¬ (7:Int)=1 by decide),if_neg (show¬ (7:Int)=2 by decide),if_neg (show¬ (7:Int)=3 by decide),if_neg (show¬ (7:Int)=4 by decide),if_neg (show¬ (7:Int)=5 by decide),if_neg (show¬ (7:Int)=10 by decide),if_neg (show¬ (7:Int)=11 by decide),if_neg (show¬ (7:Int)=12 by decide),if_neg (show¬ ((7:Int) <6∨9<(7:Int)∨b%32=0) by omega),if_neg (show¬ (7:Int)=6 by decide),if_pos (show(7:Int)=7 from rfl)]
theorem ad1 (a b old:Int) (hn:1≤b%32):fl 8 a b old=zn (sg a/2^n5 b%4294967296)+(if a/2^(n5 b-1)%2=1 then 4 else 0):=by
 unfold fl
 rw [if_neg (show¬ (8:Int)=1 by decide),if_neg (show¬ (8:Int)=2 by decide),if_neg (show¬ (8:Int)=3 by decide),if_neg (show¬ (8:Int)=4 by decide),if_neg (show¬ (8:Int)=5 by decide),if_neg (show¬ (8:Int)=10 by decide),if_neg (show¬ (8:Int)=11 by decide),if_neg (show¬ (8:Int)=12 by decide),if_neg (show¬ ((8:Int) <6∨9<(8:Int)∨b%32=0) by omega),if_neg (show¬ (8:Int)=6 by decide),if_neg (show¬ (8:Int)=7 by decide),if_pos (show(8:Int)=8 from rfl)]
theorem ad2 (a b old:Int) (hn:1≤b%32):fl 9 a b old=old%16-old/4%2*4+(if xJ a (n5 b)%2=1 then 4 else 0):=by
 unfold fl
 rw [if_neg (show¬ (9:Int)=1 by decide),if_neg (show¬ (9:Int)=2 by decide),if_neg (show¬ (9:Int)=3 by decide),if_neg (show¬ (9:Int)=4 by decide),if_neg (show¬ (9:Int)=5 by decide),if_neg (show¬ (9:Int)=10 by decide),if_neg (show¬ (9:Int)=11 by decide),if_neg (show¬ (9:Int)=12 by decide),if_neg (show¬ ((9:Int) <6∨9<(9:Int)∨b%32=0) by omega),if_neg (show¬ (9:Int)=6 by decide),if_neg (show¬ (9:Int)=7 by decide),if_neg (show¬ (9:Int)=8 by decide)]
theorem ad3 (k a b old:Int) (hk:6≤k) (CG:k≤9) (hn:b%32=0):fl k a b old=old%16:=by
 unfold fl
 rw [if_neg (by omega),if_neg (by omega),if_neg (by omega),if_neg (by omega),if_neg (by omega),if_neg (by omega),if_neg (by omega),if_neg (by omega),if_pos (by omega)]
theorem Pz (k a b old:Int) (hk:k<1∨12<k):fl k a b old=old%16:=by
 unfold fl
 rw [if_neg (by omega),if_neg (by omega),if_neg (by omega),if_neg (by omega),if_neg (by omega),if_neg (by omega),if_neg (by omega),if_neg (by omega),if_pos (by omega)]
theorem CJ (a b c:Int):∃u v:Int,0≤u∧u<2∧0≤v∧v<2∧u*4=(if 4294967296≤a+b+c then 4 else 0)∧v*8=(if oW (sg a+sg b+c) then 8 else 0)∧uF a b c=zn ((a+b+c)%4294967296)+u*4+v*8:=by
 refine⟨if 4294967296≤a+b+c then 1 else 0,if oW (sg a+sg b+c) then 1 else 0, ?_, ?_, ?_, ?_, ?_, ?_, ?_⟩
 any_goals (split<;>omega)
 unfold uF
 have e1:(if 4294967296≤a+b+c then(4:Int) else 0)=(if 4294967296≤a+b+c then 1 else 0)*4:=by split<;>rfl
 have e2:(if oW (sg a+sg b+c) then(8:Int) else 0)=(if oW (sg a+sg b+c) then 1 else 0)*8:=by split<;>rfl
 rw [e1,e2]
theorem CO (a b c:Int):∃u v:Int,0≤u∧u<2∧0≤v∧v<2∧u*4=(if a-b-c<0 then 4 else 0)∧v*8=(if oW (sg a-sg b-c) then 8 else 0)∧uG a b c=zn ((a-b-c)%4294967296)+u*4+v*8:=by
 refine⟨if a-b-c<0 then 1 else 0,if oW (sg a-sg b-c) then 1 else 0, ?_, ?_, ?_, ?_, ?_, ?_, ?_⟩
 any_goals (split<;>omega)
 unfold uG
 have e1:(if a-b-c<0 then(4:Int) else 0)=(if a-b-c<0 then 1 else 0)*4:=by split<;>rfl
 have e2:(if oW (sg a-sg b-c) then(8:Int) else 0)=(if oW (sg a-sg b-c) then 1 else 0)*8:=by split<;>rfl
 rw [e1,e2]
theorem EW (a b c:Int):0≤uF a b c∧uF a b c<16:=by
 obtain⟨u,v,_,_,_,_,_,_,e⟩:=CJ a b c
 have:=gX ((a+b+c)%4294967296)
 omega
theorem EY (a b c:Int):0≤uG a b c∧uG a b c<16:=by
 obtain⟨u,v,_,_,_,_,_,_,e⟩:=CO a b c
 have:=gX ((a-b-c)%4294967296)
 omega
theorem Vm (a:Int) (n:Nat) (hn:n<32) (h0:0≤a) (g0:a<4294967296):bits .or .u32 (a*2^n%4294967296) (a/2^(32-n))=xJ a n:=by
 obtain⟨A,rfl⟩:=Int.eq_ofNat_of_zero_le h0
 have e1:((A:Int)*2^n%4294967296)=((A*2^n%4294967296:Nat):Int):=by rw [Int.natCast_emod,Int.natCast_mul,Int.natCast_pow];rfl
 have e2:((A:Int)/2^(32-n))=((A/2^(32-n):Nat):Int):=by rw [Int.natCast_ediv,Int.natCast_pow];rfl
 have dh:A/2^(32-n) <2^n:=by
  rw [Nat.div_lt_iff_lt_mul (Nat.two_pow_pos _),←Nat.pow_add,show n+(32-n)=32 by omega];omega
 have hle:A/2^(32-n) <4294967296:=by
  have:=Nat.div_le_self A (2^(32-n));omega
 have e3:A*2^n%4294967296=2^n*(A%2^(32-n)):=by
  rw [show(4294967296:Nat)=2^n*2^(32-n) by rw [←Nat.pow_add,show n+(32-n)=32 by omega],Nat.mul_comm A,Nat.mul_mod_mul_left]
 unfold xJ
 rw [e1,e2,u32_or_nat _ _ (Nat.mod_lt _ (by omega)) hle,e3,←Nat.two_pow_add_eq_or_of_lt dh]
 push_cast;rfl
theorem nY (a:Int) (n:Nat) (hn:n<32) (h0:0≤a) (g0:a<4294967296):0≤xJ a n∧xJ a n<4294967296:=by
 rw [←Vm a n hn h0 g0]
 obtain⟨A,rfl⟩:=Int.eq_ofNat_of_zero_le h0
 have e1:((A:Int)*2^n%4294967296)=((A*2^n%4294967296:Nat):Int):=by rw [Int.natCast_emod,Int.natCast_mul,Int.natCast_pow];rfl
 have e2:((A:Int)/2^(32-n))=((A/2^(32-n):Nat):Int):=by rw [Int.natCast_ediv,Int.natCast_pow];rfl
 have hle:A/2^(32-n) <4294967296:=by
  have:=Nat.div_le_self A (2^(32-n));omega
 rw [e1,e2,u32_or_nat _ _ (Nat.mod_lt _ (by omega)) hle]
 have:=Ui (a:=A*2^n%4294967296) (b:=A/2^(32-n)) (Nat.mod_lt _ (by omega)) hle
 omega
open Go.RowKit
theorem dZ {k:IntKind} {a b:Int} (h:a=b):Ending.returned (.int k a)= .returned (.int k b):=by rw [h]
theorem JA (A B i:Nat):(A&&&B)/2^i=2*((A&&&B)/2^(i+1))+(A/2^i%2)*(B/2^i%2):=by
 have h:=Nat.shiftRight_and_distrib (a:=A) (b:=B) (i:=i)
 simp only [Nat.shiftRight_eq_div_pow] at h
 have h2:=Nat.and_mod_two_pow (a:=A/2^i) (b:=B/2^i) (n:=1)
 rw [Nat.pow_succ,←Nat.div_div_eq_div_mul,h]
 have e:(A/2^i&&&B/2^i)%2=(A/2^i%2)*(B/2^i%2):=by
  rw [Nat.pow_one] at h2;rw [h2]
  rcases Nat.mod_two_eq_zero_or_one (A/2^i) with p | p<;>rcases Nat.mod_two_eq_zero_or_one (B/2^i) with q | q<;>rw [p,q] <;>rfl
 omega
theorem PD (A B i:Nat):(A ||| B)/2^i=2*((A ||| B)/2^(i+1))+(A/2^i%2+B/2^i%2-(A/2^i%2)*(B/2^i%2)):=by
 have h:=Nat.shiftRight_or_distrib (a:=A) (b:=B) (i:=i)
 simp only [Nat.shiftRight_eq_div_pow] at h
 have h2:=Nat.or_mod_two_pow (a:=A/2^i) (b:=B/2^i) (n:=1)
 rw [Nat.pow_succ,←Nat.div_div_eq_div_mul,h]
 have e:(A/2^i ||| B/2^i)%2=A/2^i%2+B/2^i%2-(A/2^i%2)*(B/2^i%2):=by
  rw [Nat.pow_one] at h2;rw [h2]
  rcases Nat.mod_two_eq_zero_or_one (A/2^i) with p | p<;>rcases Nat.mod_two_eq_zero_or_one (B/2^i) with q | q<;>rw [p,q] <;>rfl
 omega
theorem JB (A B i:Nat):(A^^^B)/2^i=2*((A^^^B)/2^(i+1))+(A/2^i%2+B/2^i%2)%2:=by
 have h:=Nat.shiftRight_xor_distrib (a:=A) (b:=B) (i:=i)
 simp only [Nat.shiftRight_eq_div_pow] at h
 have h2:=Nat.xor_mod_two_pow (a:=A/2^i) (b:=B/2^i) (n:=1)
 rw [Nat.pow_succ,←Nat.div_div_eq_div_mul,h]
 have e:(A/2^i^^^B/2^i)%2=(A/2^i%2+B/2^i%2)%2:=by
  rw [Nat.pow_one] at h2;rw [h2]
  rcases Nat.mod_two_eq_zero_or_one (A/2^i) with p | p<;>rcases Nat.mod_two_eq_zero_or_one (B/2^i) with q | q<;>rw [p,q] <;>rfl
 omega
theorem tdiv_neg (y:Int) (h:y<0):(y-1).tdiv 2=y/2:=by
 obtain⟨n,hn⟩:=Int.eq_ofNat_of_zero_le (show 0≤ -(y-1) by omega)
 have:y-1= -(n:Int):=by omega
 rw [this,Int.neg_tdiv,Int.tdiv_eq_ediv_of_nonneg (by omega)]
 omega
theorem oZ (x:Int) (i:Nat):x/2^i/2=x/2^(i+1):=by
 rw [Int.ediv_ediv_of_nonneg (Int.le_of_lt (two_pow_pos i)),Int.pow_succ]
theorem fA (x:Int) (i:Nat) (h: -4294967296≤x) (g:x<4294967296): -4294967296≤x/2^i∧x/2^i<4294967296:=by
 induction i with
 | zero=>simp;omega
 | succ i ih=>rw [←oZ];omega
theorem JC (x:Int) (n:Nat) (w:World) (h: -4294967296≤x) (g:x<4294967296) (hn:n<4294967296):
  Calls Tryz.prog 144 #[.int .i64 x, .int .u32 n] w fun e w'=>e= .returned (.int .i64 (x/2^n))∧w=w':=by
 go_enter Tryz.func144,Tryz.ntmps144
 go_wp2
 go_loop [0,1] (fun s r=>∃i:Nat,i≤n∧s= .int .i64 (x/2^i)∧r= .int .u32 ((n-i:Nat):Int)) (fun _ r=>(intOf r).toNat)
 case atStart=>exact⟨0,by omega,by simp,rfl⟩
 case round=>
  obtain⟨i,hi,rfl,rfl⟩:=hrel
  obtain⟨j,hj⟩:∃j,j=n-i:=⟨_,rfl⟩
  rw [←hj]
  have O6:=fA x i h g
  have H:=κ (oZ x i)
  have HD:=κ (tdiv_neg (x/2^i))
  obtain⟨y,hy⟩:∃y,y=x/2^i:=⟨_,rfl⟩
  rw [←hy] at O6 H HD⊢
  have Hy:=κ hy
  have Hj:=κ hj
  have hj2:j≤n:=by omega
  clear hy hj h g
  by_cases hz:j=0
  ·subst hz
   go_wp2
   go_ret
   have:i=n:=by have:=Hj.out;omega
   exact⟨by rw [Hy.out,this];rfl,rfl⟩
  ·have Zw:1≤j:=by omega
   clear hz
   by_cases Zx:y<0
   ·go_wp2
    go_round
    case rel=>exact⟨i+1,by have:=Hj.out;omega,by rw [←H.out,←HD.out Zx],by have:=Hj.out;go_num⟩
    case measure=>simp [intOf];omega
   ·have h0:0≤y:=by omega
    clear Zx
    go_wp2
    go_round
    case rel=>exact⟨i+1,by have:=Hj.out;omega,by rw [←H.out],by have:=Hj.out;go_num⟩
    case measure=>simp [intOf];omega
theorem CP (x:Int) (n:Nat) (w:World) (h:0≤x) (g:x<4294967296) (hn:n<32):
  Calls Tryz.prog 143 #[.int .u32 x, .int .u32 n] w fun e w'=>e= .returned (.int .u64 (x*2^n))∧w=w':=by
 go_enter Tryz.func143,Tryz.ntmps143
 go_wp2
 go_loop [1,5] (fun r s=>∃i:Nat,i≤n∧s= .int .u64 (x*2^i)∧r= .int .u32 ((n-i:Nat):Int)) (fun r _=>(intOf r).toNat)
 case atStart=>exact⟨0,by omega,by simp,rfl⟩
 case round=>
  obtain⟨i,hi,rfl,rfl⟩:=hrel
  obtain⟨j,hj⟩:∃j,j=n-i:=⟨_,rfl⟩
  rw [←hj]
  have hb:x*2^i≤4294967295*2147483648:=by
   have e31:(2:Int)^i≤2147483648:=by
    have:=Nat.pow_le_pow_right (n:=2) (by omega) (show i≤31 by omega)
    have t:=Int.ofNat_le.2 this
    rw [Int.natCast_pow] at t
    exact t
   exact Int.mul_le_mul (by omega) e31 (Int.le_of_lt (two_pow_pos i)) (by omega)
  have uH:0≤x*2^i:=Int.mul_nonneg h (Int.le_of_lt (two_pow_pos i))
  have H:=κ (show 2*(x*2^i)=x*2^(i+1) by rw [Int.pow_succ,←Int.mul_assoc x,Int.mul_comm 2])
  obtain⟨y,hy⟩:∃y,y=x*2^i:=⟨_,rfl⟩
  rw [←hy] at hb uH H⊢
  have Hy:=κ hy
  have Hj:=κ hj
  have hj2:j≤n:=by omega
  clear hy hj h g
  by_cases hz:j=0
  ·subst hz
   go_wp2
   go_ret
   have:i=n:=by have:=Hj.out;omega
   exact⟨by rw [Hy.out,this];rfl,rfl⟩
  ·have Zw:1≤j:=by omega
   clear hz
   go_wp2
   go_round
   case rel=>exact⟨i+1,by have:=Hj.out;omega,by rw [←H.out],by have:=Hj.out;go_num⟩
   case measure=>simp [intOf];omega
theorem eP (x:Int) (w:World) (h: -4611686018427387904≤x) (g:x<4611686018427387904):
  Calls Tryz.prog 140 #[.int .i64 x] w fun e w'=>e= .returned (.int .u32 (x%4294967296))∧w=w':=by
 have h1:=Int.tmod_lt_of_pos x (show(0:Int) <4294967296 by omega)
 have h2: -4294967296<x.tmod 4294967296:=Int.lt_tmod_of_pos x (by omega)
 have H:=κ (show x.tmod 4294967296%4294967296=x%4294967296 by
  have:=Int.mul_tdiv_add_tmod x 4294967296
  omega)
 go_enter Tryz.func140,Tryz.ntmps140
 go_wp2
 go_ret
 exact⟨dZ (by rw [←H.out]),rfl⟩
theorem aJ (x:Int) (w:World) (h:0≤x) (g:x<4294967296):
  Calls Tryz.prog 142 #[.int .u32 x] w fun e w'=>e= .returned (.int .i64 (sg x))∧w=w':=by
 by_cases hc:2147483648≤x
 all_goals
  go_enter Tryz.func142,Tryz.ntmps142
  go_wp2
  go_ret
  exact⟨dZ (by unfold sg;split<;>omega),rfl⟩
def BP (b:Bool) (f:Int):Int:=if b then f else 0
theorem iP (b:Bool) (f:Int) (w:World):Calls Tryz.prog 93 #[.bool b, .int .u32 f] w fun e w'=>e= .returned (.int .u32 (BP b f))∧w=w':=by
 cases b<;>(go_enter Tryz.func93,Tryz.ntmps93;go_wp2;go_ret;exact⟨rfl,rfl⟩)
theorem gu (x:Int) (w:World):Calls Tryz.prog 141 #[.int .i64 x] w fun e w'=>e= .returned (.bool (oW x))∧w=w':=by
 by_cases hc:2147483648≤x
 ·go_enter Tryz.func141,Tryz.ntmps141
  go_wp2
  go_ret
  exact⟨by simp [oW,hc],rfl⟩
 ·have h2:x<2147483648:=by omega
  clear hc
  go_enter Tryz.func141,Tryz.ntmps141
  go_wp2
  go_ret
  exact⟨by simp [oW],rfl⟩
theorem eG (x:Int) (w:World) (h:0≤x) (g:x<4294967296):
  Calls Tryz.prog 139 #[.int .u32 x] w fun e w'=>e= .returned (.int .u32 (zn x))∧w=w':=by
 have Jc:0≤(if(x==0)=true then(1:Int) else 0)∧(if(x==0)=true then(1:Int) else 0)≤1:=by split<;>omega
 by_cases hx:x=0
 ·subst hx
  go_enter Tryz.func139,Tryz.ntmps139
  go_wp2_with (go_at_call 93;refine(iP _ _ _).mono ?_;rintro e w' ⟨rfl,rfl⟩)
  go_ret
  exact⟨dZ (by decide),rfl⟩
 ·have hb:(x==0)=false:=by simp [hx]
  by_cases hs:2147483648≤x
  all_goals
   go_enter Tryz.func139,Tryz.ntmps139
   go_wp2_with (go_at_call 93;refine(iP _ _ _).mono ?_;rintro e w' ⟨rfl,rfl⟩)
   go_ret
   exact⟨dZ (by first | (unfold zn BP;rw [if_neg hx,if_pos hs];rfl) | (rw [show decide (2147483648≤x)=false from decide_eq_false (by omega)];unfold zn BP;rw [if_neg hx,if_neg (show¬2147483648≤x by omega)];rfl)),rfl⟩
theorem zZ (x:Int) (i:Nat) (hi:i<31) (h:0≤x) (g:x<4294967296):2*xJ x i%4294967296+xJ x i/2147483648=xJ x (i+1):=by
 obtain⟨X,rfl⟩:=Int.eq_ofNat_of_zero_le h
 have e32:(2:Int)^i*2^(32-i)=4294967296:=xK i (by omega)
 obtain⟨p,hp⟩:∃p,p=(2:Int)^i:=⟨_,rfl⟩
 obtain⟨q,hq⟩:∃q,q=(2:Int)^(32-(i+1)):=⟨_,rfl⟩
 have hpp:0<p:=by rw [hp];exact two_pow_pos i
 have hqp:0<q:=by rw [hq];exact two_pow_pos _
 have eq2:(2:Int)^(32-i)=2*q:=by rw [hq,show 32-i=(32-(i+1))+1 by omega,Int.pow_succ,Int.mul_comm]
 have ep2:(2:Int)^(i+1)=2*p:=by rw [hp,Int.pow_succ,Int.mul_comm]
 have Vo:p*q=2147483648:=by
  rw [eq2,←hp] at e32
  have:2*(p*q)=4294967296:=by rw [←e32,←Int.mul_assoc,←Int.mul_assoc,Int.mul_comm 2]
  omega
 unfold xJ
 rw [eq2,ep2,←hp,←hq]
 have d1:=Int.mul_ediv_add_emod (X:Int) (2*q)
 have m1:=Int.emod_nonneg (X:Int) (show 2*q≠0 by omega)
 have m2:=Int.emod_lt_of_pos (X:Int) (show 0<2*q by omega)
 obtain⟨u,hu⟩:∃u,u=(X:Int)/(2*q):=⟨_,rfl⟩
 obtain⟨r,hr⟩:∃r,r=(X:Int)%(2*q):=⟨_,rfl⟩
 rw [←hu,←hr] at d1
 rw [←hr] at m1 m2
 have a1:(X:Int)*p%4294967296=r*p:=by
  have:(X:Int)*p=r*p+4294967296*u:=by
   rw [←d1,Int.add_mul]
   have:2*q*u*p=4294967296*u:=by
    rw [show 2*q*u*p=2*(p*q)*u by ac_rfl,Vo];omega
   omega
  rw [this,Int.add_mul_emod_self_left]
  exact Int.emod_eq_of_lt (Int.mul_nonneg m1 (Int.le_of_lt hpp)) (by
   have:r*p<2*q*p:=Int.mul_lt_mul_of_pos_right m2 hpp
   have e:2*q*p=2*(p*q):=by ac_rfl
   rw [e,Vo] at this;omega)
 have JD:u<p:=by
  have:u*(2*q)≤X:=by
   have e:2*q*u=u*(2*q):=by ac_rfl
   omega
  have h2:u*(2*q) <p*(2*q):=by
   have e:p*(2*q)=2*(p*q):=by ac_rfl
   rw [e,Vo];omega
  exact Int.lt_of_mul_lt_mul_right h2 (by omega)
 have hu0:0≤u:=by rw [hu];exact Int.ediv_nonneg h (by omega)
 obtain⟨t,ht⟩:∃t,t=r/q:=⟨_,rfl⟩
 obtain⟨v,hv⟩:∃v,v=r%q:=⟨_,rfl⟩
 have d2:=Int.mul_ediv_add_emod r q
 have n1:=Int.emod_nonneg r (show q≠0 by omega)
 have n2:=Int.emod_lt_of_pos r hqp
 rw [←ht,←hv] at d2
 rw [←hv] at n1 n2
 have ht0:0≤t:=by rw [ht];exact Int.ediv_nonneg m1 (by omega)
 have ht1:t<2:=by
  have:q*t<q*2:=by omega
  exact Int.lt_of_mul_lt_mul_left this (by omega)
 have p1:0≤v*p:=Int.mul_nonneg n1 (by omega)
 have p2:v*p+p≤2147483648:=by
  have:=Int.mul_le_mul_of_nonneg_right (show v+1≤q by omega) (show 0≤p by omega)
  rw [Int.add_mul,Int.one_mul,Int.mul_comm q,Vo] at this
  exact this
 have b1:r*p=t*2147483648+v*p:=by
  rw [←d2,Int.add_mul]
  have:q*t*p=t*(p*q):=by ac_rfl
  rw [this,Vo]
 have b2:(X:Int)/q=2*u+t:=by
  have:(X:Int)=v+q*(2*u+t):=by
   rw [←d1,←d2,Int.mul_add]
   have:2*q*u=q*(2*u):=by ac_rfl
   omega
  rw [this,Int.add_mul_ediv_left _ _ (by omega),Int.ediv_eq_zero_of_lt n1 n2]
  omega
 have b3:(X:Int)*(2*p)%4294967296=2*(v*p):=by
  have:(X:Int)*(2*p)=2*(v*p)+4294967296*(2*u+t):=by
   have e1:(X:Int)=v+q*(2*u+t):=by
    rw [←d1,←d2,Int.mul_add]
    have:2*q*u=q*(2*u):=by ac_rfl
    omega
   rw [e1,Int.add_mul]
   have e2:q*(2*u+t)*(2*p)=2*(p*q)*(2*u+t):=by ac_rfl
   have e3:v*(2*p)=2*(v*p):=by ac_rfl
   rw [e2,e3,Vo]
   omega
  rw [this,Int.add_mul_emod_self_left]
  omega
 rw [a1,b1,b2,b3]
 obtain⟨V,hV⟩:∃V,V=v*p:=⟨_,rfl⟩
 rw [←hV] at p1 p2⊢
 clear d1 d2 a1 b1 b2 b3 Vo e32 eq2 ep2
 rcases(show t=0∨t=1 by omega) with rfl | rfl<;>omega
theorem CQ (x:Int) (n:Nat) (w:World) (h:0≤x) (g:x<4294967296) (hn:n<32):
  Calls Tryz.prog 145 #[.int .u32 x, .int .u32 n] w fun e w'=>e= .returned (.int .u32 (xJ x n))∧w=w':=by
 have r0:xJ x 0=x:=by
  have a1:x*2^0=x:=by omega
  have a2:x/2^(32-0)=0:=Int.ediv_eq_zero_of_lt h g
  unfold xJ;rw [a1,a2];omega
 go_enter Tryz.func145,Tryz.ntmps145
 go_wp2
 go_loop [0,1] (fun s r=>∃i:Nat,i≤n∧s= .int .u32 (xJ x i)∧r= .int .u32 ((n-i:Nat):Int)) (fun _ r=>(intOf r).toNat)
 case atStart=>exact⟨0,by omega,by rw [r0],rfl⟩
 case round=>
  obtain⟨i,hi,rfl,rfl⟩:=hrel
  clear r0
  obtain⟨j,hj⟩:∃j,j=n-i:=⟨_,rfl⟩
  rw [←hj]
  have hb:=nY x i (by omega) h g
  by_cases hz:j=0
  ·obtain⟨y,hy⟩:∃y,y=xJ x i:=⟨_,rfl⟩
   rw [←hy] at hb⊢
   have Hy:=κ hy
   have Hj:=κ hj
   clear hy hj h g
   subst hz
   go_wp2_with fail
   go_ret
   have:i=n:=by have:=Hj.out;omega
   exact⟨by rw [Hy.out,this];rfl,rfl⟩
  ·have Zw:1≤j:=by omega
   have H:=κ (zZ x i (by omega) h g)
   have iE:=nY x (i+1) (by omega) h g
   have rD:=zZ x i (by omega) h g
   obtain⟨y,hy⟩:∃y,y=xJ x i:=⟨_,rfl⟩
   obtain⟨z,O7⟩:∃z,z=xJ x (i+1):=⟨_,rfl⟩
   rw [←hy] at hb H rD⊢
   rw [←O7] at iE rD
   have vH:0≤2*y%4294967296+y/2147483648:=by omega
   have jW:2*y%4294967296+y/2147483648<4294967296:=by omega
   have Hy:=κ hy
   have Hj:=κ hj
   have hj2:j≤n:=by omega
   clear hy hj h g hz rD O7 iE
   go_wp2_with (go_at_call 140;refine(eP _ _ (by omega) (by omega)).mono ?_;rintro e w' ⟨rfl,rfl⟩)
   go_round
   case rel=>exact⟨i+1,by have:=Hj.out;omega,by rw [←H.out],by have:=Hj.out;go_num⟩
   case measure=>simp [intOf];omega
theorem jC (x n:Int) (w:World) (h: -4294967296≤x) (g:x<4294967296) (Uk:0≤n) (hn:n<4294967296):
  Calls Tryz.prog 144 #[.int .i64 x, .int .u32 n] w fun e w'=>e= .returned (.int .i64 (x/2^n.toNat))∧w=w':=by
 obtain⟨N,rfl⟩:=Int.eq_ofNat_of_zero_le Uk
 exact JC x N w h g (by omega)
theorem fK (x n:Int) (w:World) (h:0≤x) (g:x<4294967296) (Uk:0≤n) (hn:n<32):
  Calls Tryz.prog 143 #[.int .u32 x, .int .u32 n] w fun e w'=>e= .returned (.int .u64 (x*2^n.toNat))∧w=w':=by
 obtain⟨N,rfl⟩:=Int.eq_ofNat_of_zero_le Uk
 exact CP x N w h g (by omega)
theorem fO (x n:Int) (w:World) (h:0≤x) (g:x<4294967296) (Uk:0≤n) (hn:n<32):
  Calls Tryz.prog 145 #[.int .u32 x, .int .u32 n] w fun e w'=>e= .returned (.int .u32 (xJ x n.toNat))∧w=w':=by
 obtain⟨N,rfl⟩:=Int.eq_ofNat_of_zero_le Uk
 exact CQ x N w h g (by omega)
theorem kV (x:Int) (n:Nat) (h:0≤x) (g:x<4294967296) (hn:n<32):0≤x*2^n∧x*2^n<9223372036854775808:=by
 have e31:(2:Int)^n≤2147483648:=by
  have:=Nat.pow_le_pow_right (n:=2) (by omega) (show n≤31 by omega)
  have t:=Int.ofNat_le.2 this
  rw [Int.natCast_pow] at t
  exact t
 have:x*2^n≤4294967295*2147483648:=Int.mul_le_mul (by omega) e31 (Int.le_of_lt (two_pow_pos n)) (by omega)
 exact⟨Int.mul_nonneg h (Int.le_of_lt (two_pow_pos n)),by omega⟩
theorem o4 (old:Int):old%16/4%2=old/4%2:=by omega
theorem PK (a b old:Int) (w:World) (h0:0≤a) (g0:a<4294967296) (h1:0≤b) (g1:b<4294967296) (h2:0≤old) (g2:old<4294967296):
  Calls Tryz.prog 91 #[.int .i64 1, .int .u32 a, .int .u32 b, .int .u32 old] w fun e w'=>e= .returned (.int .u32 (fl 1 a b old))∧w=w':=by
 have hm:0≤a*b:=Int.mul_nonneg h0 h1
 have Gs:a*b<18446744065119617026:=by
  have h:a*b≤4294967295*4294967295:=Int.mul_le_mul (by omega) (by omega) h1 (by omega)
  omega
 have sa: -2147483648≤sg a∧sg a<2147483648:=by unfold sg;split<;>omega
 have sb: -2147483648≤sg b∧sg b<2147483648:=by unfold sg;split<;>omega
 have Jd:=sa.1
 have Je:=sa.2
 have JE:=sb.1
 have JF:=sb.2
 clear sa sb
 go_enter Tryz.func91,Tryz.ntmps91
 go_wp2_with (first
  | (go_at_call 140;refine(eP _ _ (by omega) (by omega)).mono ?_;rintro e w' ⟨rfl,rfl⟩)
  | (go_at_call 139;refine(eG _ _ (by omega) (by omega)).mono ?_;rintro e w' ⟨rfl,rfl⟩)
  | (go_at_call 93;refine(iP _ _ _).mono ?_;rintro e w' ⟨rfl,rfl⟩)
  | (go_at_call 141;refine(gu _ _).mono ?_;rintro e w' ⟨rfl,rfl⟩)
  | (go_at_call 144;refine(jC _ _ _ (by omega) (by omega) (by omega) (by omega)).mono ?_;rintro e w' ⟨rfl,rfl⟩)
  | (go_at_call 143;refine(fK _ _ _ (by omega) (by omega) (by omega) (by omega)).mono ?_;rintro e w' ⟨rfl,rfl⟩)
  | (go_at_call 145;refine(fO _ _ _ (by omega) (by omega) (by omega) (by omega)).mono ?_;rintro e w' ⟨rfl,rfl⟩)
  | (go_at_call 142;refine(aJ _ _ (by omega) (by omega)).mono ?_;rintro e w' ⟨rfl,rfl⟩))
 go_ret
 exact⟨dZ (by show _=uF a b 0;unfold uF;have hz:=gX ((a+b+0)%4294967296);simp only [Int.add_zero,BP,decide_eq_true_eq] at*;split<;>split<;>omega),rfl⟩
theorem PL (a b old:Int) (w:World) (h0:0≤a) (g0:a<4294967296) (h1:0≤b) (g1:b<4294967296) (h2:0≤old) (g2:old<4294967296):
  Calls Tryz.prog 91 #[.int .i64 2, .int .u32 a, .int .u32 b, .int .u32 old] w fun e w'=>e= .returned (.int .u32 (fl 2 a b old))∧w=w':=by
 have hm:0≤a*b:=Int.mul_nonneg h0 h1
 have Gs:a*b<18446744065119617026:=by
  have h:a*b≤4294967295*4294967295:=Int.mul_le_mul (by omega) (by omega) h1 (by omega)
  omega
 have sa: -2147483648≤sg a∧sg a<2147483648:=by unfold sg;split<;>omega
 have sb: -2147483648≤sg b∧sg b<2147483648:=by unfold sg;split<;>omega
 have Jd:=sa.1
 have Je:=sa.2
 have JE:=sb.1
 have JF:=sb.2
 clear sa sb
 go_enter Tryz.func91,Tryz.ntmps91
 go_wp2_with (first
  | (go_at_call 140;refine(eP _ _ (by omega) (by omega)).mono ?_;rintro e w' ⟨rfl,rfl⟩)
  | (go_at_call 139;refine(eG _ _ (by omega) (by omega)).mono ?_;rintro e w' ⟨rfl,rfl⟩)
  | (go_at_call 93;refine(iP _ _ _).mono ?_;rintro e w' ⟨rfl,rfl⟩)
  | (go_at_call 141;refine(gu _ _).mono ?_;rintro e w' ⟨rfl,rfl⟩)
  | (go_at_call 144;refine(jC _ _ _ (by omega) (by omega) (by omega) (by omega)).mono ?_;rintro e w' ⟨rfl,rfl⟩)
  | (go_at_call 143;refine(fK _ _ _ (by omega) (by omega) (by omega) (by omega)).mono ?_;rintro e w' ⟨rfl,rfl⟩)
  | (go_at_call 145;refine(fO _ _ _ (by omega) (by omega) (by omega) (by omega)).mono ?_;rintro e w' ⟨rfl,rfl⟩)
  | (go_at_call 142;refine(aJ _ _ (by omega) (by omega)).mono ?_;rintro e w' ⟨rfl,rfl⟩))
 go_ret
 exact⟨dZ (by rw [o4];show _=uF a b (old/4%2);unfold uF;have hz:=gX ((a+b+old/4%2)%4294967296);simp only [BP,decide_eq_true_eq] at*;split<;>split<;>omega),rfl⟩
theorem PO (a b old:Int) (w:World) (h0:0≤a) (g0:a<4294967296) (h1:0≤b) (g1:b<4294967296) (h2:0≤old) (g2:old<4294967296):
  Calls Tryz.prog 91 #[.int .i64 3, .int .u32 a, .int .u32 b, .int .u32 old] w fun e w'=>e= .returned (.int .u32 (fl 3 a b old))∧w=w':=by
 have hm:0≤a*b:=Int.mul_nonneg h0 h1
 have Gs:a*b<18446744065119617026:=by
  have h:a*b≤4294967295*4294967295:=Int.mul_le_mul (by omega) (by omega) h1 (by omega)
  omega
 have sa: -2147483648≤sg a∧sg a<2147483648:=by unfold sg;split<;>omega
 have sb: -2147483648≤sg b∧sg b<2147483648:=by unfold sg;split<;>omega
 have Jd:=sa.1
 have Je:=sa.2
 have JE:=sb.1
 have JF:=sb.2
 clear sa sb
 go_enter Tryz.func91,Tryz.ntmps91
 go_wp2_with (first
  | (go_at_call 140;refine(eP _ _ (by omega) (by omega)).mono ?_;rintro e w' ⟨rfl,rfl⟩)
  | (go_at_call 139;refine(eG _ _ (by omega) (by omega)).mono ?_;rintro e w' ⟨rfl,rfl⟩)
  | (go_at_call 93;refine(iP _ _ _).mono ?_;rintro e w' ⟨rfl,rfl⟩)
  | (go_at_call 141;refine(gu _ _).mono ?_;rintro e w' ⟨rfl,rfl⟩)
  | (go_at_call 144;refine(jC _ _ _ (by omega) (by omega) (by omega) (by omega)).mono ?_;rintro e w' ⟨rfl,rfl⟩)
  | (go_at_call 143;refine(fK _ _ _ (by omega) (by omega) (by omega) (by omega)).mono ?_;rintro e w' ⟨rfl,rfl⟩)
  | (go_at_call 145;refine(fO _ _ _ (by omega) (by omega) (by omega) (by omega)).mono ?_;rintro e w' ⟨rfl,rfl⟩)
  | (go_at_call 142;refine(aJ _ _ (by omega) (by omega)).mono ?_;rintro e w' ⟨rfl,rfl⟩))
 go_ret
 exact⟨dZ (by show _=uG a b 0;unfold uG;have hz:=gX ((a-b-0)%4294967296);simp only [Int.sub_zero,Int.add_zero,BP,decide_eq_true_eq] at*;split<;>split<;>omega),rfl⟩
theorem PW (a b old:Int) (w:World) (h0:0≤a) (g0:a<4294967296) (h1:0≤b) (g1:b<4294967296) (h2:0≤old) (g2:old<4294967296):
  Calls Tryz.prog 91 #[.int .i64 4, .int .u32 a, .int .u32 b, .int .u32 old] w fun e w'=>e= .returned (.int .u32 (fl 4 a b old))∧w=w':=by
 have hm:0≤a*b:=Int.mul_nonneg h0 h1
 have Gs:a*b<18446744065119617026:=by
  have h:a*b≤4294967295*4294967295:=Int.mul_le_mul (by omega) (by omega) h1 (by omega)
  omega
 have sa: -2147483648≤sg a∧sg a<2147483648:=by unfold sg;split<;>omega
 have sb: -2147483648≤sg b∧sg b<2147483648:=by unfold sg;split<;>omega
 have Jd:=sa.1
 have Je:=sa.2
 have JE:=sb.1
 have JF:=sb.2
 clear sa sb
 go_enter Tryz.func91,Tryz.ntmps91
 go_wp2_with (first
  | (go_at_call 140;refine(eP _ _ (by omega) (by omega)).mono ?_;rintro e w' ⟨rfl,rfl⟩)
  | (go_at_call 139;refine(eG _ _ (by omega) (by omega)).mono ?_;rintro e w' ⟨rfl,rfl⟩)
  | (go_at_call 93;refine(iP _ _ _).mono ?_;rintro e w' ⟨rfl,rfl⟩)
  | (go_at_call 141;refine(gu _ _).mono ?_;rintro e w' ⟨rfl,rfl⟩)
  | (go_at_call 144;refine(jC _ _ _ (by omega) (by omega) (by omega) (by omega)).mono ?_;rintro e w' ⟨rfl,rfl⟩)
  | (go_at_call 143;refine(fK _ _ _ (by omega) (by omega) (by omega) (by omega)).mono ?_;rintro e w' ⟨rfl,rfl⟩)
  | (go_at_call 145;refine(fO _ _ _ (by omega) (by omega) (by omega) (by omega)).mono ?_;rintro e w' ⟨rfl,rfl⟩)
  | (go_at_call 142;refine(aJ _ _ (by omega) (by omega)).mono ?_;rintro e w' ⟨rfl,rfl⟩))
 go_ret
 exact⟨dZ (by rw [o4];show _=uG a b (old/4%2);unfold uG;have hz:=gX ((a-b-old/4%2)%4294967296);simp only [BP,decide_eq_true_eq] at*;split<;>split<;>omega),rfl⟩
theorem PX (a b old:Int) (w:World) (h0:0≤a) (g0:a<4294967296) (h1:0≤b) (g1:b<4294967296) (h2:0≤old) (g2:old<4294967296):
  Calls Tryz.prog 91 #[.int .i64 5, .int .u32 a, .int .u32 b, .int .u32 old] w fun e w'=>e= .returned (.int .u32 (fl 5 a b old))∧w=w':=by
 have hm:0≤a*b:=Int.mul_nonneg h0 h1
 have Gs:a*b<18446744065119617026:=by
  have h:a*b≤4294967295*4294967295:=Int.mul_le_mul (by omega) (by omega) h1 (by omega)
  omega
 have sa: -2147483648≤sg a∧sg a<2147483648:=by unfold sg;split<;>omega
 have sb: -2147483648≤sg b∧sg b<2147483648:=by unfold sg;split<;>omega
 have Jd:=sa.1
 have Je:=sa.2
 have JE:=sb.1
 have JF:=sb.2
 clear sa sb
 go_enter Tryz.func91,Tryz.ntmps91
 go_wp2_with (first
  | (go_at_call 140;refine(eP _ _ (by omega) (by omega)).mono ?_;rintro e w' ⟨rfl,rfl⟩)
  | (go_at_call 139;refine(eG _ _ (by omega) (by omega)).mono ?_;rintro e w' ⟨rfl,rfl⟩)
  | (go_at_call 93;refine(iP _ _ _).mono ?_;rintro e w' ⟨rfl,rfl⟩)
  | (go_at_call 141;refine(gu _ _).mono ?_;rintro e w' ⟨rfl,rfl⟩)
  | (go_at_call 144;refine(jC _ _ _ (by omega) (by omega) (by omega) (by omega)).mono ?_;rintro e w' ⟨rfl,rfl⟩)
  | (go_at_call 143;refine(fK _ _ _ (by omega) (by omega) (by omega) (by omega)).mono ?_;rintro e w' ⟨rfl,rfl⟩)
  | (go_at_call 145;refine(fO _ _ _ (by omega) (by omega) (by omega) (by omega)).mono ?_;rintro e w' ⟨rfl,rfl⟩)
  | (go_at_call 142;refine(aJ _ _ (by omega) (by omega)).mono ?_;rintro e w' ⟨rfl,rfl⟩))
 go_ret
 exact⟨dZ (by rfl),rfl⟩
theorem JG (a b old:Int) (w:World) (h0:0≤a) (g0:a<4294967296) (h1:0≤b) (g1:b<4294967296) (h2:0≤old) (g2:old<4294967296):
  Calls Tryz.prog 91 #[.int .i64 10, .int .u32 a, .int .u32 b, .int .u32 old] w fun e w'=>e= .returned (.int .u32 (fl 10 a b old))∧w=w':=by
 have hm:0≤a*b:=Int.mul_nonneg h0 h1
 have Gs:a*b<18446744065119617026:=by
  have h:a*b≤4294967295*4294967295:=Int.mul_le_mul (by omega) (by omega) h1 (by omega)
  omega
 have sa: -2147483648≤sg a∧sg a<2147483648:=by unfold sg;split<;>omega
 have sb: -2147483648≤sg b∧sg b<2147483648:=by unfold sg;split<;>omega
 have Jd:=sa.1
 have Je:=sa.2
 have JE:=sb.1
 have JF:=sb.2
 clear sa sb
 go_enter Tryz.func91,Tryz.ntmps91
 go_wp2_with (first
  | (go_at_call 140;refine(eP _ _ (by omega) (by omega)).mono ?_;rintro e w' ⟨rfl,rfl⟩)
  | (go_at_call 139;refine(eG _ _ (by omega) (by omega)).mono ?_;rintro e w' ⟨rfl,rfl⟩)
  | (go_at_call 93;refine(iP _ _ _).mono ?_;rintro e w' ⟨rfl,rfl⟩)
  | (go_at_call 141;refine(gu _ _).mono ?_;rintro e w' ⟨rfl,rfl⟩)
  | (go_at_call 144;refine(jC _ _ _ (by omega) (by omega) (by omega) (by omega)).mono ?_;rintro e w' ⟨rfl,rfl⟩)
  | (go_at_call 143;refine(fK _ _ _ (by omega) (by omega) (by omega) (by omega)).mono ?_;rintro e w' ⟨rfl,rfl⟩)
  | (go_at_call 145;refine(fO _ _ _ (by omega) (by omega) (by omega) (by omega)).mono ?_;rintro e w' ⟨rfl,rfl⟩)
  | (go_at_call 142;refine(aJ _ _ (by omega) (by omega)).mono ?_;rintro e w' ⟨rfl,rfl⟩))
 go_ret
 exact⟨dZ (by show _=zn (a*b%4294967296)+(if 4294967296≤a*b then 12 else 0);have hz:=gX (a*b%4294967296);simp only [BP,decide_eq_true_eq] at*;split<;>omega),rfl⟩
theorem JH (a b old:Int) (w:World) (h0:0≤a) (g0:a<4294967296) (h1:0≤b) (g1:b<4294967296) (h2:0≤old) (g2:old<4294967296):
  Calls Tryz.prog 91 #[.int .i64 11, .int .u32 a, .int .u32 b, .int .u32 old] w fun e w'=>e= .returned (.int .u32 (fl 11 a b old))∧w=w':=by
 have hm:0≤a*b:=Int.mul_nonneg h0 h1
 have Gs:a*b<18446744065119617026:=by
  have h:a*b≤4294967295*4294967295:=Int.mul_le_mul (by omega) (by omega) h1 (by omega)
  omega
 have sa: -2147483648≤sg a∧sg a<2147483648:=by unfold sg;split<;>omega
 have sb: -2147483648≤sg b∧sg b<2147483648:=by unfold sg;split<;>omega
 have Jd:=sa.1
 have Je:=sa.2
 have JE:=sb.1
 have JF:=sb.2
 clear sa sb
 go_enter Tryz.func91,Tryz.ntmps91
 go_wp2_with (first
  | (go_at_call 140;refine(eP _ _ (by omega) (by omega)).mono ?_;rintro e w' ⟨rfl,rfl⟩)
  | (go_at_call 139;refine(eG _ _ (by omega) (by omega)).mono ?_;rintro e w' ⟨rfl,rfl⟩)
  | (go_at_call 93;refine(iP _ _ _).mono ?_;rintro e w' ⟨rfl,rfl⟩)
  | (go_at_call 141;refine(gu _ _).mono ?_;rintro e w' ⟨rfl,rfl⟩)
  | (go_at_call 144;refine(jC _ _ _ (by omega) (by omega) (by omega) (by omega)).mono ?_;rintro e w' ⟨rfl,rfl⟩)
  | (go_at_call 143;refine(fK _ _ _ (by omega) (by omega) (by omega) (by omega)).mono ?_;rintro e w' ⟨rfl,rfl⟩)
  | (go_at_call 145;refine(fO _ _ _ (by omega) (by omega) (by omega) (by omega)).mono ?_;rintro e w' ⟨rfl,rfl⟩)
  | (go_at_call 142;refine(aJ _ _ (by omega) (by omega)).mono ?_;rintro e w' ⟨rfl,rfl⟩))
 go_ret
 exact⟨dZ (by rw [o4];show _=zn ((a+1)%4294967296)+old/4%2*4+(if oW (sg a+1) then 8 else 0);have hz:=gX ((a+1)%4294967296);simp only [BP] at*;split<;>omega),rfl⟩
theorem JI (a b old:Int) (w:World) (h0:0≤a) (g0:a<4294967296) (h1:0≤b) (g1:b<4294967296) (h2:0≤old) (g2:old<4294967296):
  Calls Tryz.prog 91 #[.int .i64 12, .int .u32 a, .int .u32 b, .int .u32 old] w fun e w'=>e= .returned (.int .u32 (fl 12 a b old))∧w=w':=by
 have hm:0≤a*b:=Int.mul_nonneg h0 h1
 have Gs:a*b<18446744065119617026:=by
  have h:a*b≤4294967295*4294967295:=Int.mul_le_mul (by omega) (by omega) h1 (by omega)
  omega
 have sa: -2147483648≤sg a∧sg a<2147483648:=by unfold sg;split<;>omega
 have sb: -2147483648≤sg b∧sg b<2147483648:=by unfold sg;split<;>omega
 have Jd:=sa.1
 have Je:=sa.2
 have JE:=sb.1
 have JF:=sb.2
 clear sa sb
 go_enter Tryz.func91,Tryz.ntmps91
 go_wp2_with (first
  | (go_at_call 140;refine(eP _ _ (by omega) (by omega)).mono ?_;rintro e w' ⟨rfl,rfl⟩)
  | (go_at_call 139;refine(eG _ _ (by omega) (by omega)).mono ?_;rintro e w' ⟨rfl,rfl⟩)
  | (go_at_call 93;refine(iP _ _ _).mono ?_;rintro e w' ⟨rfl,rfl⟩)
  | (go_at_call 141;refine(gu _ _).mono ?_;rintro e w' ⟨rfl,rfl⟩)
  | (go_at_call 144;refine(jC _ _ _ (by omega) (by omega) (by omega) (by omega)).mono ?_;rintro e w' ⟨rfl,rfl⟩)
  | (go_at_call 143;refine(fK _ _ _ (by omega) (by omega) (by omega) (by omega)).mono ?_;rintro e w' ⟨rfl,rfl⟩)
  | (go_at_call 145;refine(fO _ _ _ (by omega) (by omega) (by omega) (by omega)).mono ?_;rintro e w' ⟨rfl,rfl⟩)
  | (go_at_call 142;refine(aJ _ _ (by omega) (by omega)).mono ?_;rintro e w' ⟨rfl,rfl⟩))
 go_ret
 exact⟨dZ (by rw [o4];show _=zn ((a-1)%4294967296)+old/4%2*4+(if oW (sg a-1) then 8 else 0);have hz:=gX ((a-1)%4294967296);simp only [BP] at*;split<;>omega),rfl⟩
end Go.Proofs.YtcjcmnnhmajocabGreat.Fl
