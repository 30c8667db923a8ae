import Derived.Test.YtcjcmnnhmajocabProg
import Derived.WalkLawsBesides
import Derived.WalkSpells
import Derived.BigQuiet
import Derived.Lib.Hide
set_option linter.unusedVariables false
set_option linter.unusedSimpArgs false
set_option maxRecDepth 100000
set_option maxHeartbeats 16000000
namespace Go.Proofs.Ytcjcmnnhmajocab.Fl
open Go
def zn (x:Int):Int:=(if x=0 then 1 else 0)+(if 2147483648≤x then 2 else 0)
def sg (x:Int):Int:=if 2147483648≤x then x-4294967296 else x
def nO (x:Int):Bool:=decide (2147483648≤x) || decide (x< -2147483648)
def uq (a b c:Int):Int:=zn ((a+b+c)%4294967296)+(if 4294967296≤a+b+c then 4 else 0)+(if nO (sg a+sg b+c) then 8 else 0)
def uw (a b c:Int):Int:=zn ((a-b-c)%4294967296)+(if a-b-c<0 then 4 else 0)+(if nO (sg a-sg b-c) then 8 else 0)
theorem WR {a b:Nat} (ha:a<4294967296) (hb:b<4294967296):a^^^b<4294967296:=Nat.xor_lt_two_pow (n:=32) ha hb
theorem WS {a b:Nat} (hb:b<4294967296):a&&&b<4294967296:=Nat.and_lt_two_pow (n:=32) _ hb
theorem VF {a b:Nat} (ha:a<4294967296) (hb:b<4294967296):a ||| b<4294967296:=Nat.or_lt_two_pow (n:=32) ha hb
theorem iQ (x:Int):0≤zn x∧zn x<4:=by unfold zn;split<;>split<;>omega
def n5 (b:Int):Nat:=(b%32).toNat
def xw (a:Int) (n:Nat):Int:=a*2^n%4294967296+a/2^(32-n)
def fl (k a b old:Int):Int:=
 if k=1 then uq a b 0
 else if k=2 then uq a b (old/4%2)
 else if k=3 then uw a b 0
 else if k=4 then uw a b (old/4%2)
 else if k=5 then zn a
 else if k=10 then zn (a*b%4294967296)+(if 4294967296≤a*b then 12 else 0)
 else if k=11 then zn ((a+1)%4294967296)+old/4%2*4+(if nO (sg a+1) then 8 else 0)
 else if k=12 then zn ((a-1)%4294967296)+old/4%2*4+(if nO (sg a-1) then 8 else 0)
 else if k<6∨9<k∨b%32=0 then old%16
 else if k=6 then zn (a*2^n5 b%4294967296)+(if a*2^n5 b/4294967296%2=1 then 4 else 0)
 else if k=7 then zn (a/2^n5 b)+(if a/2^(n5 b-1)%2=1 then 4 else 0)
 else if k=8 then zn (sg a/2^n5 b%4294967296)+(if a/2^(n5 b-1)%2=1 then 4 else 0)
 else old%16-old/4%2*4+(if xw a (n5 b)%2=1 then 4 else 0)
theorem aan (b:Int):n5 b<32:=by unfold n5;omega
theorem two_pow_pos (n:Nat):(0:Int) <2^n:=Int.pow_pos (by omega)
theorem xA (n:Nat) (h:n≤32):(2:Int)^n*2^(32-n)=4294967296:=by
 rw [←Int.pow_add];rw [show n+(32-n)=32 by omega];rfl
theorem dA (a:Int) (n:Nat) (h:0≤a):0≤a/2^n∧a/2^n≤a:=
 ⟨Int.ediv_nonneg h (Int.le_of_lt (two_pow_pos n)),Int.ediv_le_self _ h⟩
theorem ady (a b old:Int) (hn:1≤b%32):fl 6 a b old=zn (a*2^n5 b%4294967296)+(if a*2^n5 b/4294967296%2=1 then 4 else 0):=by
 unfold fl
 rw [if_neg (show¬ (6:Int)=1 by decide),if_neg (show¬ (6:Int)=2 by decide),if_neg (show¬ (6:Int)=3 by decide),if_neg (show¬ (6:Int)=4 by decide),if_neg (show¬ (6:Int)=5 by decide),if_neg (show¬ (6:Int)=10 by decide),if_neg (show¬ (6:Int)=11 by decide),if_neg (show¬ (6:Int)=12 by decide),if_neg (show¬ ((6:Int) <6∨9<(6:Int)∨b%32=0) by omega),if_pos (show(6:Int)=6 from rfl)]
theorem adz (a b old:Int) (hn:1≤b%32):fl 7 a b old=zn (a/2^n5 b)+(if a/2^(n5 b-1)%2=1 then 4 else 0):=by
 unfold fl
 rw [if_neg (show¬ (7:Int)=1 by decide),if_neg (show¬ (7:Int)=2 by decide),if_neg (show¬ (7:Int)=3 by decide),if_neg (show¬ (7:Int)=4 by decide),if_neg (show¬ (7:Int)=5 by decide),if_neg (show¬ (7:Int)=10 by decide),if_neg (show¬ (7:Int)=11 by decide),if_neg (show¬ (7:Int)=12 by decide),if_neg (show¬ ((7:Int) <6∨9<(7:Int)∨b%32=0) by omega),if_neg (show¬ (7:Int)=6 by decide),if_pos (show(7:Int)=7 from rfl)]
theorem adA (a b old:Int) (hn:1≤b%32):fl 8 a b old=zn (sg a/2^n5 b%4294967296)+(if a/2^(n5 b-1)%2=1 then 4 else 0):=by
 unfold fl
 rw [if_neg (show¬ (8:Int)=1 by decide),if_neg (show¬ (8:Int)=2 by decide),if_neg (show¬ (8:Int)=3 by decide),if_neg (show¬ (8:Int)=4 by decide),if_neg (show¬ (8:Int)=5 by decide),if_neg (show¬ (8:Int)=10 by decide),if_neg (show¬ (8:Int)=11 by decide),if_neg (show¬ (8:Int)=12 by decide),if_neg (show¬ ((8:Int) <6∨9<(8:Int)∨b%32=0) by omega),if_neg (show¬ (8:Int)=6 by decide),if_neg (show¬ (8:Int)=7 by decide),if_pos (show(8:Int)=8 from rfl)]
theorem adB (a b old:Int) (hn:1≤b%32):fl 9 a b old=old%16-old/4%2*4+(if xw a (n5 b)%2=1 then 4 else 0):=by
 unfold fl
 rw [if_neg (show¬ (9:Int)=1 by decide),if_neg (show¬ (9:Int)=2 by decide),if_neg (show¬ (9:Int)=3 by decide),if_neg (show¬ (9:Int)=4 by decide),if_neg (show¬ (9:Int)=5 by decide),if_neg (show¬ (9:Int)=10 by decide),if_neg (show¬ (9:Int)=11 by decide),if_neg (show¬ (9:Int)=12 by decide),if_neg (show¬ ((9:Int) <6∨9<(9:Int)∨b%32=0) by omega),if_neg (show¬ (9:Int)=6 by decide),if_neg (show¬ (9:Int)=7 by decide),if_neg (show¬ (9:Int)=8 by decide)]
theorem adC (k a b old:Int) (hk:6≤k) (qF:k≤9) (hn:b%32=0):fl k a b old=old%16:=by
 unfold fl
 rw [if_neg (by omega),if_neg (by omega),if_neg (by omega),if_neg (by omega),if_neg (by omega),if_neg (by omega),if_neg (by omega),if_neg (by omega),if_pos (by omega)]
theorem QA (k a b old:Int) (hk:k<1∨12<k):fl k a b old=old%16:=by
 unfold fl
 rw [if_neg (by omega),if_neg (by omega),if_neg (by omega),if_neg (by omega),if_neg (by omega),if_neg (by omega),if_neg (by omega),if_neg (by omega),if_pos (by omega)]
theorem Dx (a b c:Int):∃u v:Int,0≤u∧u<2∧0≤v∧v<2∧u*4=(if 4294967296≤a+b+c then 4 else 0)∧v*8=(if nO (sg a+sg b+c) then 8 else 0)∧uq a b c=zn ((a+b+c)%4294967296)+u*4+v*8:=by
 refine⟨if 4294967296≤a+b+c then 1 else 0,if nO (sg a+sg b+c) then 1 else 0, ?_, ?_, ?_, ?_, ?_, ?_, ?_⟩
 any_goals (split<;>omega)
 unfold uq
 have e1:(if 4294967296≤a+b+c then(4:Int) else 0)=(if 4294967296≤a+b+c then 1 else 0)*4:=by split<;>rfl
 have e2:(if nO (sg a+sg b+c) then(8:Int) else 0)=(if nO (sg a+sg b+c) then 1 else 0)*8:=by split<;>rfl
 rw [e1,e2]
theorem Dy (a b c:Int):∃u v:Int,0≤u∧u<2∧0≤v∧v<2∧u*4=(if a-b-c<0 then 4 else 0)∧v*8=(if nO (sg a-sg b-c) then 8 else 0)∧uw a b c=zn ((a-b-c)%4294967296)+u*4+v*8:=by
 refine⟨if a-b-c<0 then 1 else 0,if nO (sg a-sg b-c) then 1 else 0, ?_, ?_, ?_, ?_, ?_, ?_, ?_⟩
 any_goals (split<;>omega)
 unfold uw
 have e1:(if a-b-c<0 then(4:Int) else 0)=(if a-b-c<0 then 1 else 0)*4:=by split<;>rfl
 have e2:(if nO (sg a-sg b-c) then(8:Int) else 0)=(if nO (sg a-sg b-c) then 1 else 0)*8:=by split<;>rfl
 rw [e1,e2]
theorem Fj (a b c:Int):0≤uq a b c∧uq a b c<16:=by
 obtain⟨u,v,_,_,_,_,_,_,e⟩:=Dx a b c
 have:=iQ ((a+b+c)%4294967296)
 omega
theorem Fp (a b c:Int):0≤uw a b c∧uw a b c<16:=by
 obtain⟨u,v,_,_,_,_,_,_,e⟩:=Dy a b c
 have:=iQ ((a-b-c)%4294967296)
 omega
theorem WT (a:Int) (n:Nat) (hn:n<32) (h0:0≤a) (g0:a<4294967296):bits .or .u32 (a*2^n%4294967296) (a/2^(32-n))=xw a n:=by
 obtain⟨A,rfl⟩:=Int.eq_ofNat_of_zero_le h0
 have e1:((A:Int)*2^n%4294967296)=((A*2^n%4294967296:Nat):Int):=by rw [Int.natCast_emod,Int.natCast_mul,Int.natCast_pow];rfl
 have e2:((A:Int)/2^(32-n))=((A/2^(32-n):Nat):Int):=by rw [Int.natCast_ediv,Int.natCast_pow];rfl
 have bV:A/2^(32-n) <2^n:=by
  rw [Nat.div_lt_iff_lt_mul (Nat.two_pow_pos _),←Nat.pow_add,show n+(32-n)=32 by omega];omega
 have hle:A/2^(32-n) <4294967296:=by
  have:=Nat.div_le_self A (2^(32-n));omega
 have e3:A*2^n%4294967296=2^n*(A%2^(32-n)):=by
  rw [show(4294967296:Nat)=2^n*2^(32-n) by rw [←Nat.pow_add,show n+(32-n)=32 by omega],Nat.mul_comm A,Nat.mul_mod_mul_left]
 unfold xw
 rw [e1,e2,u32_or_nat _ _ (Nat.mod_lt _ (by omega)) hle,e3,←Nat.two_pow_add_eq_or_of_lt bV]
 push_cast;rfl
theorem nR (a:Int) (n:Nat) (hn:n<32) (h0:0≤a) (g0:a<4294967296):0≤xw a n∧xw a n<4294967296:=by
 rw [←WT a n hn h0 g0]
 obtain⟨A,rfl⟩:=Int.eq_ofNat_of_zero_le h0
 have e1:((A:Int)*2^n%4294967296)=((A*2^n%4294967296:Nat):Int):=by rw [Int.natCast_emod,Int.natCast_mul,Int.natCast_pow];rfl
 have e2:((A:Int)/2^(32-n))=((A/2^(32-n):Nat):Int):=by rw [Int.natCast_ediv,Int.natCast_pow];rfl
 have hle:A/2^(32-n) <4294967296:=by
  have:=Nat.div_le_self A (2^(32-n));omega
 rw [e1,e2,u32_or_nat _ _ (Nat.mod_lt _ (by omega)) hle]
 have:=VF (a:=A*2^n%4294967296) (b:=A/2^(32-n)) (Nat.mod_lt _ (by omega)) hle
 omega
open Go.RowKit
theorem dY {k:IntKind} {a b:Int} (h:a=b):Ending.returned (.int k a)= .returned (.int k b):=by rw [h]
end Go.Proofs.Ytcjcmnnhmajocab.Fl
