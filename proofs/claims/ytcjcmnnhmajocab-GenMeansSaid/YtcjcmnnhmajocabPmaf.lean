import Derived.Test.YtcjcmnnhmajocabPmaa
import Derived.Test.YtcjcmnnhmajocabPmae
set_option linter.unusedVariables false
set_option linter.unusedSimpArgs false
set_option maxRecDepth 100000
set_option maxHeartbeats 16000000
namespace Go.Proofs.Ytcjcmnnhmajocab.Fl
open Go.RowKit
theorem KU (A B i:Nat):(A&&&B)/2^i=2*((A&&&B)/2^(i+1))+(A/2^i%2)*(B/2^i%2):=by
 have h:=Nat.shiftRight_and_distrib (a:=A) (b:=B) (i:=i)
 simp only [Nat.shiftRight_eq_div_pow] at h
 have h2:=Nat.and_mod_two_pow (a:=A/2^i) (b:=B/2^i) (n:=1)
 rw [Nat.pow_succ,←Nat.div_div_eq_div_mul,h]
 have e:(A/2^i&&&B/2^i)%2=(A/2^i%2)*(B/2^i%2):=by
  rw [Nat.pow_one] at h2;rw [h2]
  rcases Nat.mod_two_eq_zero_or_one (A/2^i) with p | p<;>rcases Nat.mod_two_eq_zero_or_one (B/2^i) with q | q<;>rw [p,q] <;>rfl
 omega
theorem QB (A B i:Nat):(A ||| B)/2^i=2*((A ||| B)/2^(i+1))+(A/2^i%2+B/2^i%2-(A/2^i%2)*(B/2^i%2)):=by
 have h:=Nat.shiftRight_or_distrib (a:=A) (b:=B) (i:=i)
 simp only [Nat.shiftRight_eq_div_pow] at h
 have h2:=Nat.or_mod_two_pow (a:=A/2^i) (b:=B/2^i) (n:=1)
 rw [Nat.pow_succ,←Nat.div_div_eq_div_mul,h]
 have e:(A/2^i ||| B/2^i)%2=A/2^i%2+B/2^i%2-(A/2^i%2)*(B/2^i%2):=by
  rw [Nat.pow_one] at h2;rw [h2]
  rcases Nat.mod_two_eq_zero_or_one (A/2^i) with p | p<;>rcases Nat.mod_two_eq_zero_or_one (B/2^i) with q | q<;>rw [p,q] <;>rfl
 omega
theorem KX (A B i:Nat):(A^^^B)/2^i=2*((A^^^B)/2^(i+1))+(A/2^i%2+B/2^i%2)%2:=by
 have h:=Nat.shiftRight_xor_distrib (a:=A) (b:=B) (i:=i)
 simp only [Nat.shiftRight_eq_div_pow] at h
 have h2:=Nat.xor_mod_two_pow (a:=A/2^i) (b:=B/2^i) (n:=1)
 rw [Nat.pow_succ,←Nat.div_div_eq_div_mul,h]
 have e:(A/2^i^^^B/2^i)%2=(A/2^i%2+B/2^i%2)%2:=by
  rw [Nat.pow_one] at h2;rw [h2]
  rcases Nat.mod_two_eq_zero_or_one (A/2^i) with p | p<;>rcases Nat.mod_two_eq_zero_or_one (B/2^i) with q | q<;>rw [p,q] <;>rfl
 omega
theorem tdiv_neg (y:Int) (h:y<0):(y-1).tdiv 2=y/2:=by
 obtain⟨n,hn⟩:=Int.eq_ofNat_of_zero_le (show 0≤ -(y-1) by omega)
 have:y-1= -(n:Int):=by omega
 rw [this,Int.neg_tdiv,Int.tdiv_eq_ediv_of_nonneg (by omega)]
 omega
theorem nU (x:Int) (i:Nat):x/2^i/2=x/2^(i+1):=by
 rw [Int.ediv_ediv_of_nonneg (Int.le_of_lt (two_pow_pos i)),Int.pow_succ]
theorem eX (x:Int) (i:Nat) (h: -4294967296≤x) (g:x<4294967296): -4294967296≤x/2^i∧x/2^i<4294967296:=by
 induction i with
 | zero=>simp;omega
 | succ i ih=>rw [←nU];omega
theorem KY (x:Int) (n:Nat) (w:World) (h: -4294967296≤x) (g:x<4294967296) (hn:n<4294967296):
  Calls Try.prog 145 #[.int .i64 x, .int .u32 n] w fun e w'=>e= .returned (.int .i64 (x/2^n))∧w=w':=by
 go_enter Try.func145,Try.ntmps145
 go_wp2
 go_loop [0,1] (fun s r=>∃i:Nat,i≤n∧s= .int .i64 (x/2^i)∧r= .int .u32 ((n-i:Nat):Int)) (fun _ r=>(intOf r).toNat)
 case atStart=>exact⟨0,by omega,by simp,rfl⟩
 case round=>
  obtain⟨i,hi,rfl,rfl⟩:=hrel
  obtain⟨j,hj⟩:∃j,j=n-i:=⟨_,rfl⟩
  rw [←hj]
  have hbd:=eX x i h g
  have H:=κ (nU x i)
  have HD:=κ (tdiv_neg (x/2^i))
  obtain⟨y,hy⟩:∃y,y=x/2^i:=⟨_,rfl⟩
  rw [←hy] at hbd H HD⊢
  have Hy:=κ hy
  have Hj:=κ hj
  have Zz:j≤n:=by omega
  clear hy hj h g
  by_cases hz:j=0
  ·subst hz
   go_wp2
   go_ret
   have:i=n:=by have:=Hj.out;omega
   exact⟨by rw [Hy.out,this];rfl,rfl⟩
  ·have hj1:1≤j:=by omega
   clear hz
   by_cases aap:y<0
   ·go_wp2
    go_round
    case rel=>exact⟨i+1,by have:=Hj.out;omega,by rw [←H.out,←HD.out aap],by have:=Hj.out;go_num⟩
    case measure=>simp [intOf];omega
   ·have h0:0≤y:=by omega
    clear aap
    go_wp2
    go_round
    case rel=>exact⟨i+1,by have:=Hj.out;omega,by rw [←H.out],by have:=Hj.out;go_num⟩
    case measure=>simp [intOf];omega
theorem Dz (x:Int) (n:Nat) (w:World) (h:0≤x) (g:x<4294967296) (hn:n<32):
  Calls Try.prog 144 #[.int .u32 x, .int .u32 n] w fun e w'=>e= .returned (.int .u64 (x*2^n))∧w=w':=by
 go_enter Try.func144,Try.ntmps144
 go_wp2
 go_loop [1,5] (fun r s=>∃i:Nat,i≤n∧s= .int .u64 (x*2^i)∧r= .int .u32 ((n-i:Nat):Int)) (fun r _=>(intOf r).toNat)
 case atStart=>exact⟨0,by omega,by simp,rfl⟩
 case round=>
  obtain⟨i,hi,rfl,rfl⟩:=hrel
  obtain⟨j,hj⟩:∃j,j=n-i:=⟨_,rfl⟩
  rw [←hj]
  have hb:x*2^i≤4294967295*2147483648:=by
   have e31:(2:Int)^i≤2147483648:=by
    have:=Nat.pow_le_pow_right (n:=2) (by omega) (show i≤31 by omega)
    have t:=Int.ofNat_le.2 this
    rw [Int.natCast_pow] at t
    exact t
   exact Int.mul_le_mul (by omega) e31 (Int.le_of_lt (two_pow_pos i)) (by omega)
  have Cc:0≤x*2^i:=Int.mul_nonneg h (Int.le_of_lt (two_pow_pos i))
  have H:=κ (show 2*(x*2^i)=x*2^(i+1) by rw [Int.pow_succ,←Int.mul_assoc x,Int.mul_comm 2])
  obtain⟨y,hy⟩:∃y,y=x*2^i:=⟨_,rfl⟩
  rw [←hy] at hb Cc H⊢
  have Hy:=κ hy
  have Hj:=κ hj
  have Zz:j≤n:=by omega
  clear hy hj h g
  by_cases hz:j=0
  ·subst hz
   go_wp2
   go_ret
   have:i=n:=by have:=Hj.out;omega
   exact⟨by rw [Hy.out,this];rfl,rfl⟩
  ·have hj1:1≤j:=by omega
   clear hz
   go_wp2
   go_round
   case rel=>exact⟨i+1,by have:=Hj.out;omega,by rw [←H.out],by have:=Hj.out;go_num⟩
   case measure=>simp [intOf];omega
theorem bn (x:Int) (w:World) (h: -4611686018427387904≤x) (g:x<4611686018427387904):
  Calls Try.prog 141 #[.int .i64 x] w fun e w'=>e= .returned (.int .u32 (x%4294967296))∧w=w':=by
 have h1:=Int.tmod_lt_of_pos x (show(0:Int) <4294967296 by omega)
 have h2: -4294967296<x.tmod 4294967296:=Int.lt_tmod_of_pos x (by omega)
 have H:=κ (show x.tmod 4294967296%4294967296=x%4294967296 by
  have:=Int.mul_tdiv_add_tmod x 4294967296
  omega)
 go_enter Try.func141,Try.ntmps141
 go_wp2
 go_ret
 exact⟨dY (by rw [←H.out]),rfl⟩
theorem aT (x:Int) (w:World) (h:0≤x) (g:x<4294967296):
  Calls Try.prog 143 #[.int .u32 x] w fun e w'=>e= .returned (.int .i64 (sg x))∧w=w':=by
 by_cases hc:2147483648≤x
 all_goals
  go_enter Try.func143,Try.ntmps143
  go_wp2
  go_ret
  exact⟨dY (by unfold sg;split<;>omega),rfl⟩
def Fq (b:Bool) (f:Int):Int:=if b then f else 0
theorem iR (b:Bool) (f:Int) (w:World):Calls Try.prog 85 #[.bool b, .int .u32 f] w fun e w'=>e= .returned (.int .u32 (Fq b f))∧w=w':=by
 cases b<;>(go_enter Try.func85,Try.ntmps85;go_wp2;go_ret;exact⟨rfl,rfl⟩)
theorem fO (x:Int) (w:World):Calls Try.prog 142 #[.int .i64 x] w fun e w'=>e= .returned (.bool (nO x))∧w=w':=by
 by_cases hc:2147483648≤x
 ·go_enter Try.func142,Try.ntmps142
  go_wp2
  go_ret
  exact⟨by simp [nO,hc],rfl⟩
 ·have h2:x<2147483648:=by omega
  clear hc
  go_enter Try.func142,Try.ntmps142
  go_wp2
  go_ret
  exact⟨by simp [nO],rfl⟩
theorem eH (x:Int) (w:World) (h:0≤x) (g:x<4294967296):
  Calls Try.prog 140 #[.int .u32 x] w fun e w'=>e= .returned (.int .u32 (zn x))∧w=w':=by
 have Jy:0≤(if(x==0)=true then(1:Int) else 0)∧(if(x==0)=true then(1:Int) else 0)≤1:=by split<;>omega
 by_cases hx:x=0
 ·subst hx
  go_enter Try.func140,Try.ntmps140
  go_wp2_with (go_at_call 85;refine(iR _ _ _).mono ?_;rintro e w' ⟨rfl,rfl⟩)
  go_ret
  exact⟨dY (by decide),rfl⟩
 ·have hb:(x==0)=false:=by simp [hx]
  by_cases hs:2147483648≤x
  all_goals
   go_enter Try.func140,Try.ntmps140
   go_wp2_with (go_at_call 85;refine(iR _ _ _).mono ?_;rintro e w' ⟨rfl,rfl⟩)
   go_ret
   exact⟨dY (by first | (unfold zn Fq;rw [if_neg hx,if_pos hs];rfl) | (rw [show decide (2147483648≤x)=false from decide_eq_false (by omega)];unfold zn Fq;rw [if_neg hx,if_neg (show¬2147483648≤x by omega)];rfl)),rfl⟩
theorem zY (x:Int) (i:Nat) (hi:i<31) (h:0≤x) (g:x<4294967296):2*xw x i%4294967296+xw x i/2147483648=xw x (i+1):=by
 obtain⟨X,rfl⟩:=Int.eq_ofNat_of_zero_le h
 have e32:(2:Int)^i*2^(32-i)=4294967296:=xA i (by omega)
 obtain⟨p,hp⟩:∃p,p=(2:Int)^i:=⟨_,rfl⟩
 obtain⟨q,hq⟩:∃q,q=(2:Int)^(32-(i+1)):=⟨_,rfl⟩
 have hpp:0<p:=by rw [hp];exact two_pow_pos i
 have hqp:0<q:=by rw [hq];exact two_pow_pos _
 have eq2:(2:Int)^(32-i)=2*q:=by rw [hq,show 32-i=(32-(i+1))+1 by omega,Int.pow_succ,Int.mul_comm]
 have ep2:(2:Int)^(i+1)=2*p:=by rw [hp,Int.pow_succ,Int.mul_comm]
 have WU:p*q=2147483648:=by
  rw [eq2,←hp] at e32
  have:2*(p*q)=4294967296:=by rw [←e32,←Int.mul_assoc,←Int.mul_assoc,Int.mul_comm 2]
  omega
 unfold xw
 rw [eq2,ep2,←hp,←hq]
 have d1:=Int.mul_ediv_add_emod (X:Int) (2*q)
 have m1:=Int.emod_nonneg (X:Int) (show 2*q≠0 by omega)
 have m2:=Int.emod_lt_of_pos (X:Int) (show 0<2*q by omega)
 obtain⟨u,hu⟩:∃u,u=(X:Int)/(2*q):=⟨_,rfl⟩
 obtain⟨r,hr⟩:∃r,r=(X:Int)%(2*q):=⟨_,rfl⟩
 rw [←hu,←hr] at d1
 rw [←hr] at m1 m2
 have a1:(X:Int)*p%4294967296=r*p:=by
  have:(X:Int)*p=r*p+4294967296*u:=by
   rw [←d1,Int.add_mul]
   have:2*q*u*p=4294967296*u:=by
    rw [show 2*q*u*p=2*(p*q)*u by ac_rfl,WU];omega
   omega
  rw [this,Int.add_mul_emod_self_left]
  exact Int.emod_eq_of_lt (Int.mul_nonneg m1 (Int.le_of_lt hpp)) (by
   have:r*p<2*q*p:=Int.mul_lt_mul_of_pos_right m2 hpp
   have e:2*q*p=2*(p*q):=by ac_rfl
   rw [e,WU] at this;omega)
 have Zw:u<p:=by
  have:u*(2*q)≤X:=by
   have e:2*q*u=u*(2*q):=by ac_rfl
   omega
  have h2:u*(2*q) <p*(2*q):=by
   have e:p*(2*q)=2*(p*q):=by ac_rfl
   rw [e,WU];omega
  exact Int.lt_of_mul_lt_mul_right h2 (by omega)
 have hu0:0≤u:=by rw [hu];exact Int.ediv_nonneg h (by omega)
 obtain⟨t,ht⟩:∃t,t=r/q:=⟨_,rfl⟩
 obtain⟨v,hv⟩:∃v,v=r%q:=⟨_,rfl⟩
 have d2:=Int.mul_ediv_add_emod r q
 have n1:=Int.emod_nonneg r (show q≠0 by omega)
 have n2:=Int.emod_lt_of_pos r hqp
 rw [←ht,←hv] at d2
 rw [←hv] at n1 n2
 have ht0:0≤t:=by rw [ht];exact Int.ediv_nonneg m1 (by omega)
 have ht1:t<2:=by
  have:q*t<q*2:=by omega
  exact Int.lt_of_mul_lt_mul_left this (by omega)
 have p1:0≤v*p:=Int.mul_nonneg n1 (by omega)
 have p2:v*p+p≤2147483648:=by
  have:=Int.mul_le_mul_of_nonneg_right (show v+1≤q by omega) (show 0≤p by omega)
  rw [Int.add_mul,Int.one_mul,Int.mul_comm q,WU] at this
  exact this
 have b1:r*p=t*2147483648+v*p:=by
  rw [←d2,Int.add_mul]
  have:q*t*p=t*(p*q):=by ac_rfl
  rw [this,WU]
 have b2:(X:Int)/q=2*u+t:=by
  have:(X:Int)=v+q*(2*u+t):=by
   rw [←d1,←d2,Int.mul_add]
   have:2*q*u=q*(2*u):=by ac_rfl
   omega
  rw [this,Int.add_mul_ediv_left _ _ (by omega),Int.ediv_eq_zero_of_lt n1 n2]
  omega
 have b3:(X:Int)*(2*p)%4294967296=2*(v*p):=by
  have:(X:Int)*(2*p)=2*(v*p)+4294967296*(2*u+t):=by
   have e1:(X:Int)=v+q*(2*u+t):=by
    rw [←d1,←d2,Int.mul_add]
    have:2*q*u=q*(2*u):=by ac_rfl
    omega
   rw [e1,Int.add_mul]
   have e2:q*(2*u+t)*(2*p)=2*(p*q)*(2*u+t):=by ac_rfl
   have e3:v*(2*p)=2*(v*p):=by ac_rfl
   rw [e2,e3,WU]
   omega
  rw [this,Int.add_mul_emod_self_left]
  omega
 rw [a1,b1,b2,b3]
 obtain⟨V,hV⟩:∃V,V=v*p:=⟨_,rfl⟩
 rw [←hV] at p1 p2⊢
 clear d1 d2 a1 b1 b2 b3 WU e32 eq2 ep2
 rcases(show t=0∨t=1 by omega) with rfl | rfl<;>omega
theorem DF (x:Int) (n:Nat) (w:World) (h:0≤x) (g:x<4294967296) (hn:n<32):
  Calls Try.prog 146 #[.int .u32 x, .int .u32 n] w fun e w'=>e= .returned (.int .u32 (xw x n))∧w=w':=by
 have r0:xw x 0=x:=by
  have a1:x*2^0=x:=by omega
  have a2:x/2^(32-0)=0:=Int.ediv_eq_zero_of_lt h g
  unfold xw;rw [a1,a2];omega
 go_enter Try.func146,Try.ntmps146
 go_wp2
 go_loop [0,1] (fun s r=>∃i:Nat,i≤n∧s= .int .u32 (xw x i)∧r= .int .u32 ((n-i:Nat):Int)) (fun _ r=>(intOf r).toNat)
 case atStart=>exact⟨0,by omega,by rw [r0],rfl⟩
 case round=>
  obtain⟨i,hi,rfl,rfl⟩:=hrel
  clear r0
  obtain⟨j,hj⟩:∃j,j=n-i:=⟨_,rfl⟩
  rw [←hj]
  have hb:=nR x i (by omega) h g
  by_cases hz:j=0
  ·obtain⟨y,hy⟩:∃y,y=xw x i:=⟨_,rfl⟩
   rw [←hy] at hb⊢
   have Hy:=κ hy
   have Hj:=κ hj
   clear hy hj h g
   subst hz
   go_wp2_with fail
   go_ret
   have:i=n:=by have:=Hj.out;omega
   exact⟨by rw [Hy.out,this];rfl,rfl⟩
  ·have hj1:1≤j:=by omega
   have H:=κ (zY x i (by omega) h g)
   have aj:=nR x (i+1) (by omega) h g
   have gZ:=zY x i (by omega) h g
   obtain⟨y,hy⟩:∃y,y=xw x i:=⟨_,rfl⟩
   obtain⟨z,iT⟩:∃z,z=xw x (i+1):=⟨_,rfl⟩
   rw [←hy] at hb H gZ⊢
   rw [←iT] at aj gZ
   have pV:0≤2*y%4294967296+y/2147483648:=by omega
   have wH:2*y%4294967296+y/2147483648<4294967296:=by omega
   have Hy:=κ hy
   have Hj:=κ hj
   have Zz:j≤n:=by omega
   clear hy hj h g hz gZ iT aj
   go_wp2_with (go_at_call 141;refine(bn _ _ (by omega) (by omega)).mono ?_;rintro e w' ⟨rfl,rfl⟩)
   go_round
   case rel=>exact⟨i+1,by have:=Hj.out;omega,by rw [←H.out],by have:=Hj.out;go_num⟩
   case measure=>simp [intOf];omega
theorem dH (x n:Int) (w:World) (h: -4294967296≤x) (g:x<4294967296) (JD:0≤n) (hn:n<4294967296):
  Calls Try.prog 145 #[.int .i64 x, .int .u32 n] w fun e w'=>e= .returned (.int .i64 (x/2^n.toNat))∧w=w':=by
 obtain⟨N,rfl⟩:=Int.eq_ofNat_of_zero_le JD
 exact KY x N w h g (by omega)
theorem bG (x n:Int) (w:World) (h:0≤x) (g:x<4294967296) (JD:0≤n) (hn:n<32):
  Calls Try.prog 144 #[.int .u32 x, .int .u32 n] w fun e w'=>e= .returned (.int .u64 (x*2^n.toNat))∧w=w':=by
 obtain⟨N,rfl⟩:=Int.eq_ofNat_of_zero_le JD
 exact Dz x N w h g (by omega)
theorem bH (x n:Int) (w:World) (h:0≤x) (g:x<4294967296) (JD:0≤n) (hn:n<32):
  Calls Try.prog 146 #[.int .u32 x, .int .u32 n] w fun e w'=>e= .returned (.int .u32 (xw x n.toNat))∧w=w':=by
 obtain⟨N,rfl⟩:=Int.eq_ofNat_of_zero_le JD
 exact DF x N w h g (by omega)
theorem jX (x:Int) (n:Nat) (h:0≤x) (g:x<4294967296) (hn:n<32):0≤x*2^n∧x*2^n<9223372036854775808:=by
 have e31:(2:Int)^n≤2147483648:=by
  have:=Nat.pow_le_pow_right (n:=2) (by omega) (show n≤31 by omega)
  have t:=Int.ofNat_le.2 this
  rw [Int.natCast_pow] at t
  exact t
 have:x*2^n≤4294967295*2147483648:=Int.mul_le_mul (by omega) e31 (Int.le_of_lt (two_pow_pos n)) (by omega)
 exact⟨Int.mul_nonneg h (Int.le_of_lt (two_pow_pos n)),by omega⟩
theorem o4 (old:Int):old%16/4%2=old/4%2:=by omega
theorem QC (a b old:Int) (w:World) (h0:0≤a) (g0:a<4294967296) (h1:0≤b) (g1:b<4294967296) (h2:0≤old) (g2:old<4294967296):
  Calls Try.prog 84 #[.int .i64 1, .int .u32 a, .int .u32 b, .int .u32 old] w fun e w'=>e= .returned (.int .u32 (fl 1 a b old))∧w=w':=by
 have hm:0≤a*b:=Int.mul_nonneg h0 h1
 have Hq:a*b<18446744065119617026:=by
  have h:a*b≤4294967295*4294967295:=Int.mul_le_mul (by omega) (by omega) h1 (by omega)
  omega
 have sa: -2147483648≤sg a∧sg a<2147483648:=by unfold sg;split<;>omega
 have sb: -2147483648≤sg b∧sg b<2147483648:=by unfold sg;split<;>omega
 have JE:=sa.1
 have JF:=sa.2
 have KZ:=sb.1
 have La:=sb.2
 clear sa sb
 go_enter Try.func84,Try.ntmps84
 go_wp2_with (first
  | (go_at_call 141;refine(bn _ _ (by omega) (by omega)).mono ?_;rintro e w' ⟨rfl,rfl⟩)
  | (go_at_call 140;refine(eH _ _ (by omega) (by omega)).mono ?_;rintro e w' ⟨rfl,rfl⟩)
  | (go_at_call 85;refine(iR _ _ _).mono ?_;rintro e w' ⟨rfl,rfl⟩)
  | (go_at_call 142;refine(fO _ _).mono ?_;rintro e w' ⟨rfl,rfl⟩)
  | (go_at_call 145;refine(dH _ _ _ (by omega) (by omega) (by omega) (by omega)).mono ?_;rintro e w' ⟨rfl,rfl⟩)
  | (go_at_call 144;refine(bG _ _ _ (by omega) (by omega) (by omega) (by omega)).mono ?_;rintro e w' ⟨rfl,rfl⟩)
  | (go_at_call 146;refine(bH _ _ _ (by omega) (by omega) (by omega) (by omega)).mono ?_;rintro e w' ⟨rfl,rfl⟩)
  | (go_at_call 143;refine(aT _ _ (by omega) (by omega)).mono ?_;rintro e w' ⟨rfl,rfl⟩))
 go_ret
 exact⟨dY (by show _=uq a b 0;unfold uq;have hz:=iQ ((a+b+0)%4294967296);simp only [Int.add_zero,Fq,decide_eq_true_eq] at*;split<;>split<;>omega),rfl⟩
theorem QD (a b old:Int) (w:World) (h0:0≤a) (g0:a<4294967296) (h1:0≤b) (g1:b<4294967296) (h2:0≤old) (g2:old<4294967296):
  Calls Try.prog 84 #[.int .i64 2, .int .u32 a, .int .u32 b, .int .u32 old] w fun e w'=>e= .returned (.int .u32 (fl 2 a b old))∧w=w':=by
 have hm:0≤a*b:=Int.mul_nonneg h0 h1
 have Hq:a*b<18446744065119617026:=by
  have h:a*b≤4294967295*4294967295:=Int.mul_le_mul (by omega) (by omega) h1 (by omega)
  omega
 have sa: -2147483648≤sg a∧sg a<2147483648:=by unfold sg;split<;>omega
 have sb: -2147483648≤sg b∧sg b<2147483648:=by unfold sg;split<;>omega
 have JE:=sa.1
 have JF:=sa.2
 have KZ:=sb.1
 have La:=sb.2
 clear sa sb
 go_enter Try.func84,Try.ntmps84
 go_wp2_with (first
  | (go_at_call 141;refine(bn _ _ (by omega) (by omega)).mono ?_;rintro e w' ⟨rfl,rfl⟩)
  | (go_at_call 140;refine(eH _ _ (by omega) (by omega)).mono ?_;rintro e w' ⟨rfl,rfl⟩)
  | (go_at_call 85;refine(iR _ _ _).mono ?_;rintro e w' ⟨rfl,rfl⟩)
  | (go_at_call 142;refine(fO _ _).mono ?_;rintro e w' ⟨rfl,rfl⟩)
  | (go_at_call 145;refine(dH _ _ _ (by omega) (by omega) (by omega) (by omega)).mono ?_;rintro e w' ⟨rfl,rfl⟩)
  | (go_at_call 144;refine(bG _ _ _ (by omega) (by omega) (by omega) (by omega)).mono ?_;rintro e w' ⟨rfl,rfl⟩)
  | (go_at_call 146;refine(bH _ _ _ (by omega) (by omega) (by omega) (by omega)).mono ?_;rintro e w' ⟨rfl,rfl⟩)
  | (go_at_call 143;refine(aT _ _ (by omega) (by omega)).mono ?_;rintro e w' ⟨rfl,rfl⟩))
 go_ret
 exact⟨dY (by rw [o4];show _=uq a b (old/4%2);unfold uq;have hz:=iQ ((a+b+old/4%2)%4294967296);simp only [Fq,decide_eq_true_eq] at*;split<;>split<;>omega),rfl⟩
theorem QE (a b old:Int) (w:World) (h0:0≤a) (g0:a<4294967296) (h1:0≤b) (g1:b<4294967296) (h2:0≤old) (g2:old<4294967296):
  Calls Try.prog 84 #[.int .i64 3, .int .u32 a, .int .u32 b, .int .u32 old] w fun e w'=>e= .returned (.int .u32 (fl 3 a b old))∧w=w':=by
 have hm:0≤a*b:=Int.mul_nonneg h0 h1
 have Hq:a*b<18446744065119617026:=by
  have h:a*b≤4294967295*4294967295:=Int.mul_le_mul (by omega) (by omega) h1 (by omega)
  omega
 have sa: -2147483648≤sg a∧sg a<2147483648:=by unfold sg;split<;>omega
 have sb: -2147483648≤sg b∧sg b<2147483648:=by unfold sg;split<;>omega
 have JE:=sa.1
 have JF:=sa.2
 have KZ:=sb.1
 have La:=sb.2
 clear sa sb
 go_enter Try.func84,Try.ntmps84
 go_wp2_with (first
  | (go_at_call 141;refine(bn _ _ (by omega) (by omega)).mono ?_;rintro e w' ⟨rfl,rfl⟩)
  | (go_at_call 140;refine(eH _ _ (by omega) (by omega)).mono ?_;rintro e w' ⟨rfl,rfl⟩)
  | (go_at_call 85;refine(iR _ _ _).mono ?_;rintro e w' ⟨rfl,rfl⟩)
  | (go_at_call 142;refine(fO _ _).mono ?_;rintro e w' ⟨rfl,rfl⟩)
  | (go_at_call 145;refine(dH _ _ _ (by omega) (by omega) (by omega) (by omega)).mono ?_;rintro e w' ⟨rfl,rfl⟩)
  | (go_at_call 144;refine(bG _ _ _ (by omega) (by omega) (by omega) (by omega)).mono ?_;rintro e w' ⟨rfl,rfl⟩)
  | (go_at_call 146;refine(bH _ _ _ (by omega) (by omega) (by omega) (by omega)).mono ?_;rintro e w' ⟨rfl,rfl⟩)
  | (go_at_call 143;refine(aT _ _ (by omega) (by omega)).mono ?_;rintro e w' ⟨rfl,rfl⟩))
 go_ret
 exact⟨dY (by show _=uw a b 0;unfold uw;have hz:=iQ ((a-b-0)%4294967296);simp only [Int.sub_zero,Int.add_zero,Fq,decide_eq_true_eq] at*;split<;>split<;>omega),rfl⟩
theorem QF (a b old:Int) (w:World) (h0:0≤a) (g0:a<4294967296) (h1:0≤b) (g1:b<4294967296) (h2:0≤old) (g2:old<4294967296):
  Calls Try.prog 84 #[.int .i64 4, .int .u32 a, .int .u32 b, .int .u32 old] w fun e w'=>e= .returned (.int .u32 (fl 4 a b old))∧w=w':=by
 have hm:0≤a*b:=Int.mul_nonneg h0 h1
 have Hq:a*b<18446744065119617026:=by
  have h:a*b≤4294967295*4294967295:=Int.mul_le_mul (by omega) (by omega) h1 (by omega)
  omega
 have sa: -2147483648≤sg a∧sg a<2147483648:=by unfold sg;split<;>omega
 have sb: -2147483648≤sg b∧sg b<2147483648:=by unfold sg;split<;>omega
 have JE:=sa.1
 have JF:=sa.2
 have KZ:=sb.1
 have La:=sb.2
 clear sa sb
 go_enter Try.func84,Try.ntmps84
 go_wp2_with (first
  | (go_at_call 141;refine(bn _ _ (by omega) (by omega)).mono ?_;rintro e w' ⟨rfl,rfl⟩)
  | (go_at_call 140;refine(eH _ _ (by omega) (by omega)).mono ?_;rintro e w' ⟨rfl,rfl⟩)
  | (go_at_call 85;refine(iR _ _ _).mono ?_;rintro e w' ⟨rfl,rfl⟩)
  | (go_at_call 142;refine(fO _ _).mono ?_;rintro e w' ⟨rfl,rfl⟩)
  | (go_at_call 145;refine(dH _ _ _ (by omega) (by omega) (by omega) (by omega)).mono ?_;rintro e w' ⟨rfl,rfl⟩)
  | (go_at_call 144;refine(bG _ _ _ (by omega) (by omega) (by omega) (by omega)).mono ?_;rintro e w' ⟨rfl,rfl⟩)
  | (go_at_call 146;refine(bH _ _ _ (by omega) (by omega) (by omega) (by omega)).mono ?_;rintro e w' ⟨rfl,rfl⟩)
  | (go_at_call 143;refine(aT _ _ (by omega) (by omega)).mono ?_;rintro e w' ⟨rfl,rfl⟩))
 go_ret
 exact⟨dY (by rw [o4];show _=uw a b (old/4%2);unfold uw;have hz:=iQ ((a-b-old/4%2)%4294967296);simp only [Fq,decide_eq_true_eq] at*;split<;>split<;>omega),rfl⟩
theorem QG (a b old:Int) (w:World) (h0:0≤a) (g0:a<4294967296) (h1:0≤b) (g1:b<4294967296) (h2:0≤old) (g2:old<4294967296):
  Calls Try.prog 84 #[.int .i64 5, .int .u32 a, .int .u32 b, .int .u32 old] w fun e w'=>e= .returned (.int .u32 (fl 5 a b old))∧w=w':=by
 have hm:0≤a*b:=Int.mul_nonneg h0 h1
 have Hq:a*b<18446744065119617026:=by
  have h:a*b≤4294967295*4294967295:=Int.mul_le_mul (by omega) (by omega) h1 (by omega)
  omega
 have sa: -2147483648≤sg a∧sg a<2147483648:=by unfold sg;split<;>omega
 have sb: -2147483648≤sg b∧sg b<2147483648:=by unfold sg;split<;>omega
 have JE:=sa.1
 have JF:=sa.2
 have KZ:=sb.1
 have La:=sb.2
 clear sa sb
 go_enter Try.func84,Try.ntmps84
 go_wp2_with (first
  | (go_at_call 141;refine(bn _ _ (by omega) (by omega)).mono ?_;rintro e w' ⟨rfl,rfl⟩)
  | (go_at_call 140;refine(eH _ _ (by omega) (by omega)).mono ?_;rintro e w' ⟨rfl,rfl⟩)
  | (go_at_call 85;refine(iR _ _ _).mono ?_;rintro e w' ⟨rfl,rfl⟩)
  | (go_at_call 142;refine(fO _ _).mono ?_;rintro e w' ⟨rfl,rfl⟩)
  | (go_at_call 145;refine(dH _ _ _ (by omega) (by omega) (by omega) (by omega)).mono ?_;rintro e w' ⟨rfl,rfl⟩)
  | (go_at_call 144;refine(bG _ _ _ (by omega) (by omega) (by omega) (by omega)).mono ?_;rintro e w' ⟨rfl,rfl⟩)
  | (go_at_call 146;refine(bH _ _ _ (by omega) (by omega) (by omega) (by omega)).mono ?_;rintro e w' ⟨rfl,rfl⟩)
  | (go_at_call 143;refine(aT _ _ (by omega) (by omega)).mono ?_;rintro e w' ⟨rfl,rfl⟩))
 go_ret
 exact⟨dY (by rfl),rfl⟩
theorem Lc (a b old:Int) (w:World) (h0:0≤a) (g0:a<4294967296) (h1:0≤b) (g1:b<4294967296) (h2:0≤old) (g2:old<4294967296):
  Calls Try.prog 84 #[.int .i64 10, .int .u32 a, .int .u32 b, .int .u32 old] w fun e w'=>e= .returned (.int .u32 (fl 10 a b old))∧w=w':=by
 have hm:0≤a*b:=Int.mul_nonneg h0 h1
 have Hq:a*b<18446744065119617026:=by
  have h:a*b≤4294967295*4294967295:=Int.mul_le_mul (by omega) (by omega) h1 (by omega)
  omega
 have sa: -2147483648≤sg a∧sg a<2147483648:=by unfold sg;split<;>omega
 have sb: -2147483648≤sg b∧sg b<2147483648:=by unfold sg;split<;>omega
 have JE:=sa.1
 have JF:=sa.2
 have KZ:=sb.1
 have La:=sb.2
 clear sa sb
 go_enter Try.func84,Try.ntmps84
 go_wp2_with (first
  | (go_at_call 141;refine(bn _ _ (by omega) (by omega)).mono ?_;rintro e w' ⟨rfl,rfl⟩)
  | (go_at_call 140;refine(eH _ _ (by omega) (by omega)).mono ?_;rintro e w' ⟨rfl,rfl⟩)
  | (go_at_call 85;refine(iR _ _ _).mono ?_;rintro e w' ⟨rfl,rfl⟩)
  | (go_at_call 142;refine(fO _ _).mono ?_;rintro e w' ⟨rfl,rfl⟩)
  | (go_at_call 145;refine(dH _ _ _ (by omega) (by omega) (by omega) (by omega)).mono ?_;rintro e w' ⟨rfl,rfl⟩)
  | (go_at_call 144;refine(bG _ _ _ (by omega) (by omega) (by omega) (by omega)).mono ?_;rintro e w' ⟨rfl,rfl⟩)
  | (go_at_call 146;refine(bH _ _ _ (by omega) (by omega) (by omega) (by omega)).mono ?_;rintro e w' ⟨rfl,rfl⟩)
  | (go_at_call 143;refine(aT _ _ (by omega) (by omega)).mono ?_;rintro e w' ⟨rfl,rfl⟩))
 go_ret
 exact⟨dY (by show _=zn (a*b%4294967296)+(if 4294967296≤a*b then 12 else 0);have hz:=iQ (a*b%4294967296);simp only [Fq,decide_eq_true_eq] at*;split<;>omega),rfl⟩
theorem Ld (a b old:Int) (w:World) (h0:0≤a) (g0:a<4294967296) (h1:0≤b) (g1:b<4294967296) (h2:0≤old) (g2:old<4294967296):
  Calls Try.prog 84 #[.int .i64 11, .int .u32 a, .int .u32 b, .int .u32 old] w fun e w'=>e= .returned (.int .u32 (fl 11 a b old))∧w=w':=by
 have hm:0≤a*b:=Int.mul_nonneg h0 h1
 have Hq:a*b<18446744065119617026:=by
  have h:a*b≤4294967295*4294967295:=Int.mul_le_mul (by omega) (by omega) h1 (by omega)
  omega
 have sa: -2147483648≤sg a∧sg a<2147483648:=by unfold sg;split<;>omega
 have sb: -2147483648≤sg b∧sg b<2147483648:=by unfold sg;split<;>omega
 have JE:=sa.1
 have JF:=sa.2
 have KZ:=sb.1
 have La:=sb.2
 clear sa sb
 go_enter Try.func84,Try.ntmps84
 go_wp2_with (first
  | (go_at_call 141;refine(bn _ _ (by omega) (by omega)).mono ?_;rintro e w' ⟨rfl,rfl⟩)
  | (go_at_call 140;refine(eH _ _ (by omega) (by omega)).mono ?_;rintro e w' ⟨rfl,rfl⟩)
  | (go_at_call 85;refine(iR _ _ _).mono ?_;rintro e w' ⟨rfl,rfl⟩)
  | (go_at_call 142;refine(fO _ _).mono ?_;rintro e w' ⟨rfl,rfl⟩)
  | (go_at_call 145;refine(dH _ _ _ (by omega) (by omega) (by omega) (by omega)).mono ?_;rintro e w' ⟨rfl,rfl⟩)
  | (go_at_call 144;refine(bG _ _ _ (by omega) (by omega) (by omega) (by omega)).mono ?_;rintro e w' ⟨rfl,rfl⟩)
  | (go_at_call 146;refine(bH _ _ _ (by omega) (by omega) (by omega) (by omega)).mono ?_;rintro e w' ⟨rfl,rfl⟩)
  | (go_at_call 143;refine(aT _ _ (by omega) (by omega)).mono ?_;rintro e w' ⟨rfl,rfl⟩))
 go_ret
 exact⟨dY (by rw [o4];show _=zn ((a+1)%4294967296)+old/4%2*4+(if nO (sg a+1) then 8 else 0);have hz:=iQ ((a+1)%4294967296);simp only [Fq] at*;split<;>omega),rfl⟩
theorem Le (a b old:Int) (w:World) (h0:0≤a) (g0:a<4294967296) (h1:0≤b) (g1:b<4294967296) (h2:0≤old) (g2:old<4294967296):
  Calls Try.prog 84 #[.int .i64 12, .int .u32 a, .int .u32 b, .int .u32 old] w fun e w'=>e= .returned (.int .u32 (fl 12 a b old))∧w=w':=by
 have hm:0≤a*b:=Int.mul_nonneg h0 h1
 have Hq:a*b<18446744065119617026:=by
  have h:a*b≤4294967295*4294967295:=Int.mul_le_mul (by omega) (by omega) h1 (by omega)
  omega
 have sa: -2147483648≤sg a∧sg a<2147483648:=by unfold sg;split<;>omega
 have sb: -2147483648≤sg b∧sg b<2147483648:=by unfold sg;split<;>omega
 have JE:=sa.1
 have JF:=sa.2
 have KZ:=sb.1
 have La:=sb.2
 clear sa sb
 go_enter Try.func84,Try.ntmps84
 go_wp2_with (first
  | (go_at_call 141;refine(bn _ _ (by omega) (by omega)).mono ?_;rintro e w' ⟨rfl,rfl⟩)
  | (go_at_call 140;refine(eH _ _ (by omega) (by omega)).mono ?_;rintro e w' ⟨rfl,rfl⟩)
  | (go_at_call 85;refine(iR _ _ _).mono ?_;rintro e w' ⟨rfl,rfl⟩)
  | (go_at_call 142;refine(fO _ _).mono ?_;rintro e w' ⟨rfl,rfl⟩)
  | (go_at_call 145;refine(dH _ _ _ (by omega) (by omega) (by omega) (by omega)).mono ?_;rintro e w' ⟨rfl,rfl⟩)
  | (go_at_call 144;refine(bG _ _ _ (by omega) (by omega) (by omega) (by omega)).mono ?_;rintro e w' ⟨rfl,rfl⟩)
  | (go_at_call 146;refine(bH _ _ _ (by omega) (by omega) (by omega) (by omega)).mono ?_;rintro e w' ⟨rfl,rfl⟩)
  | (go_at_call 143;refine(aT _ _ (by omega) (by omega)).mono ?_;rintro e w' ⟨rfl,rfl⟩))
 go_ret
 exact⟨dY (by rw [o4];show _=zn ((a-1)%4294967296)+old/4%2*4+(if nO (sg a-1) then 8 else 0);have hz:=iQ ((a-1)%4294967296);simp only [Fq] at*;split<;>omega),rfl⟩
theorem WV (a:Int) (j:Nat) (hj:j≤30):sg a/2^j%4294967296%2=a/2^j%2:=by
 have e:(4294967296:Int)=2^j*(2*2^(31-j)):=by
  rw [show(2:Int)*2^(31-j)=2^(32-j) by rw [show 32-j=(31-j)+1 by omega,Int.pow_succ,Int.mul_comm],xA j (by omega)]
 unfold sg
 split
 ·have:(a-4294967296)/2^j=a/2^j-2*2^(31-j):=by
   have h:=Int.add_mul_ediv_left a (-(2*2^(31-j))) (show(2:Int)^j≠0 by have:=two_pow_pos j;omega)
   rw [Int.mul_neg,←e] at h
   rw [Int.sub_eq_add_neg,h];omega
  rw [this];omega
 ·omega
theorem QH (a b old:Int) (w:World) (h0:0≤a) (g0:a<4294967296) (h1:0≤b) (g1:b<4294967296) (h2:0≤old) (g2:old<4294967296) (hn:1≤b%32) (hn2:b%32<32):
  Calls Try.prog 84 #[.int .i64 6, .int .u32 a, .int .u32 b, .int .u32 old] w fun e w'=>e= .returned (.int .u32 (fl 6 a b old))∧w=w':=by
 have hm:0≤a*b:=Int.mul_nonneg h0 h1
 have Hq:a*b<18446744065119617026:=by
  have h:a*b≤4294967295*4294967295:=Int.mul_le_mul (by omega) (by omega) h1 (by omega)
  omega
 have sa: -2147483648≤sg a∧sg a<2147483648:=by unfold sg;split<;>omega
 have sb: -2147483648≤sg b∧sg b<2147483648:=by unfold sg;split<;>omega
 have JE:=sa.1
 have JF:=sa.2
 have KZ:=sb.1
 have La:=sb.2
 clear sa sb
 have d1:=dA a (b%32).toNat h0
 have d2:=dA a ((b%32).toNat-1) h0
 have d4:=nR a (b%32).toNat (by omega) h0 g0
 have d5:=jX a (b%32).toNat h0 g0 (by omega)
 have d6:=eX (sg a) ((b%32).toNat-1) (by omega) (by omega)
 have d7:=eX (sg a/2^((b%32).toNat-1)) 1 d6.1 d6.2
 have e1:(1:Int).toNat=1:=rfl
 go_enter Try.func84,Try.ntmps84
 go_wp2_with (first
  | (go_at_call 141;refine(bn _ _ (by omega) (by omega)).mono ?_;rintro e w' ⟨rfl,rfl⟩)
  | (go_at_call 140;refine(eH _ _ (by omega) (by omega)).mono ?_;rintro e w' ⟨rfl,rfl⟩)
  | (go_at_call 85;refine(iR _ _ _).mono ?_;rintro e w' ⟨rfl,rfl⟩)
  | (go_at_call 142;refine(fO _ _).mono ?_;rintro e w' ⟨rfl,rfl⟩)
  | (go_at_call 145;refine(dH _ _ _ (by omega) (by omega) (by omega) (by omega)).mono ?_;rintro e w' ⟨rfl,rfl⟩)
  | (go_at_call 144;refine(bG _ _ _ (by omega) (by omega) (by omega) (by omega)).mono ?_;rintro e w' ⟨rfl,rfl⟩)
  | (go_at_call 146;refine(bH _ _ _ (by omega) (by omega) (by omega) (by omega)).mono ?_;rintro e w' ⟨rfl,rfl⟩)
  | (go_at_call 143;refine(aT _ _ (by omega) (by omega)).mono ?_;rintro e w' ⟨rfl,rfl⟩))
 go_ret
 exact⟨dY (by rw [ady a b old hn];show _=zn (a*2^(b%32).toNat%4294967296)+(if a*2^(b%32).toNat/4294967296%2=1 then 4 else 0);have hz:=iQ (a*2^(b%32).toNat%4294967296);simp only [Fq,beq_iff_eq];split<;>omega),rfl⟩
theorem QI (a b old:Int) (w:World) (h0:0≤a) (g0:a<4294967296) (h1:0≤b) (g1:b<4294967296) (h2:0≤old) (g2:old<4294967296) (hn:1≤b%32) (hn2:b%32<32):
  Calls Try.prog 84 #[.int .i64 7, .int .u32 a, .int .u32 b, .int .u32 old] w fun e w'=>e= .returned (.int .u32 (fl 7 a b old))∧w=w':=by
 have hm:0≤a*b:=Int.mul_nonneg h0 h1
 have Hq:a*b<18446744065119617026:=by
  have h:a*b≤4294967295*4294967295:=Int.mul_le_mul (by omega) (by omega) h1 (by omega)
  omega
 have sa: -2147483648≤sg a∧sg a<2147483648:=by unfold sg;split<;>omega
 have sb: -2147483648≤sg b∧sg b<2147483648:=by unfold sg;split<;>omega
 have JE:=sa.1
 have JF:=sa.2
 have KZ:=sb.1
 have La:=sb.2
 clear sa sb
 have d1:=dA a (b%32).toNat h0
 have d2:=dA a ((b%32).toNat-1) h0
 have d4:=nR a (b%32).toNat (by omega) h0 g0
 have d5:=jX a (b%32).toNat h0 g0 (by omega)
 have d6:=eX (sg a) ((b%32).toNat-1) (by omega) (by omega)
 have d7:=eX (sg a/2^((b%32).toNat-1)) 1 d6.1 d6.2
 have e1:(1:Int).toNat=1:=rfl
 go_enter Try.func84,Try.ntmps84
 go_wp2_with (first
  | (go_at_call 141;refine(bn _ _ (by omega) (by omega)).mono ?_;rintro e w' ⟨rfl,rfl⟩)
  | (go_at_call 140;refine(eH _ _ (by omega) (by omega)).mono ?_;rintro e w' ⟨rfl,rfl⟩)
  | (go_at_call 85;refine(iR _ _ _).mono ?_;rintro e w' ⟨rfl,rfl⟩)
  | (go_at_call 142;refine(fO _ _).mono ?_;rintro e w' ⟨rfl,rfl⟩)
  | (go_at_call 145;refine(dH _ _ _ (by omega) (by omega) (by omega) (by omega)).mono ?_;rintro e w' ⟨rfl,rfl⟩)
  | (go_at_call 144;refine(bG _ _ _ (by omega) (by omega) (by omega) (by omega)).mono ?_;rintro e w' ⟨rfl,rfl⟩)
  | (go_at_call 146;refine(bH _ _ _ (by omega) (by omega) (by omega) (by omega)).mono ?_;rintro e w' ⟨rfl,rfl⟩)
  | (go_at_call 143;refine(aT _ _ (by omega) (by omega)).mono ?_;rintro e w' ⟨rfl,rfl⟩))
 go_ret
 exact⟨dY (by rw [adz a b old hn];show _=zn (a/2^(b%32).toNat)+(if a/2^((b%32).toNat-1)%2=1 then 4 else 0);have hz:=iQ (a/2^(b%32).toNat);simp only [Fq,beq_iff_eq];split<;>omega),rfl⟩
theorem QJ (a b old:Int) (w:World) (h0:0≤a) (g0:a<4294967296) (h1:0≤b) (g1:b<4294967296) (h2:0≤old) (g2:old<4294967296) (hn:1≤b%32) (hn2:b%32<32):
  Calls Try.prog 84 #[.int .i64 8, .int .u32 a, .int .u32 b, .int .u32 old] w fun e w'=>e= .returned (.int .u32 (fl 8 a b old))∧w=w':=by
 have hm:0≤a*b:=Int.mul_nonneg h0 h1
 have Hq:a*b<18446744065119617026:=by
  have h:a*b≤4294967295*4294967295:=Int.mul_le_mul (by omega) (by omega) h1 (by omega)
  omega
 have sa: -2147483648≤sg a∧sg a<2147483648:=by unfold sg;split<;>omega
 have sb: -2147483648≤sg b∧sg b<2147483648:=by unfold sg;split<;>omega
 have JE:=sa.1
 have JF:=sa.2
 have KZ:=sb.1
 have La:=sb.2
 clear sa sb
 have d1:=dA a (b%32).toNat h0
 have d2:=dA a ((b%32).toNat-1) h0
 have d4:=nR a (b%32).toNat (by omega) h0 g0
 have d5:=jX a (b%32).toNat h0 g0 (by omega)
 have d6:=eX (sg a) ((b%32).toNat-1) (by omega) (by omega)
 have d7:=eX (sg a/2^((b%32).toNat-1)) 1 d6.1 d6.2
 have e1:(1:Int).toNat=1:=rfl
 go_enter Try.func84,Try.ntmps84
 go_wp2_with (first
  | (go_at_call 141;refine(bn _ _ (by omega) (by omega)).mono ?_;rintro e w' ⟨rfl,rfl⟩)
  | (go_at_call 140;refine(eH _ _ (by omega) (by omega)).mono ?_;rintro e w' ⟨rfl,rfl⟩)
  | (go_at_call 85;refine(iR _ _ _).mono ?_;rintro e w' ⟨rfl,rfl⟩)
  | (go_at_call 142;refine(fO _ _).mono ?_;rintro e w' ⟨rfl,rfl⟩)
  | (go_at_call 145;refine(dH _ _ _ (by omega) (by omega) (by omega) (by omega)).mono ?_;rintro e w' ⟨rfl,rfl⟩)
  | (go_at_call 144;refine(bG _ _ _ (by omega) (by omega) (by omega) (by omega)).mono ?_;rintro e w' ⟨rfl,rfl⟩)
  | (go_at_call 146;refine(bH _ _ _ (by omega) (by omega) (by omega) (by omega)).mono ?_;rintro e w' ⟨rfl,rfl⟩)
  | (go_at_call 143;refine(aT _ _ (by omega) (by omega)).mono ?_;rintro e w' ⟨rfl,rfl⟩))
 go_ret
 exact⟨dY (by rw [adA a b old hn];show _=zn (sg a/2^(b%32).toNat%4294967296)+(if a/2^((b%32).toNat-1)%2=1 then 4 else 0);rw [nU,show(b%32).toNat-1+1=(b%32).toNat by omega];have hp:=WV a ((b%32).toNat-1) (by omega);have hz:=iQ (sg a/2^(b%32).toNat%4294967296);simp only [Fq,beq_iff_eq];split<;>split<;>omega),rfl⟩
theorem QK (a b old:Int) (w:World) (h0:0≤a) (g0:a<4294967296) (h1:0≤b) (g1:b<4294967296) (h2:0≤old) (g2:old<4294967296) (hn:1≤b%32) (hn2:b%32<32):
  Calls Try.prog 84 #[.int .i64 9, .int .u32 a, .int .u32 b, .int .u32 old] w fun e w'=>e= .returned (.int .u32 (fl 9 a b old))∧w=w':=by
 have hm:0≤a*b:=Int.mul_nonneg h0 h1
 have Hq:a*b<18446744065119617026:=by
  have h:a*b≤4294967295*4294967295:=Int.mul_le_mul (by omega) (by omega) h1 (by omega)
  omega
 have sa: -2147483648≤sg a∧sg a<2147483648:=by unfold sg;split<;>omega
 have sb: -2147483648≤sg b∧sg b<2147483648:=by unfold sg;split<;>omega
 have JE:=sa.1
 have JF:=sa.2
 have KZ:=sb.1
 have La:=sb.2
 clear sa sb
 have d1:=dA a (b%32).toNat h0
 have d2:=dA a ((b%32).toNat-1) h0
 have d4:=nR a (b%32).toNat (by omega) h0 g0
 have d5:=jX a (b%32).toNat h0 g0 (by omega)
 have d6:=eX (sg a) ((b%32).toNat-1) (by omega) (by omega)
 have d7:=eX (sg a/2^((b%32).toNat-1)) 1 d6.1 d6.2
 have e1:(1:Int).toNat=1:=rfl
 go_enter Try.func84,Try.ntmps84
 go_wp2_with (first
  | (go_at_call 141;refine(bn _ _ (by omega) (by omega)).mono ?_;rintro e w' ⟨rfl,rfl⟩)
  | (go_at_call 140;refine(eH _ _ (by omega) (by omega)).mono ?_;rintro e w' ⟨rfl,rfl⟩)
  | (go_at_call 85;refine(iR _ _ _).mono ?_;rintro e w' ⟨rfl,rfl⟩)
  | (go_at_call 142;refine(fO _ _).mono ?_;rintro e w' ⟨rfl,rfl⟩)
  | (go_at_call 145;refine(dH _ _ _ (by omega) (by omega) (by omega) (by omega)).mono ?_;rintro e w' ⟨rfl,rfl⟩)
  | (go_at_call 144;refine(bG _ _ _ (by omega) (by omega) (by omega) (by omega)).mono ?_;rintro e w' ⟨rfl,rfl⟩)
  | (go_at_call 146;refine(bH _ _ _ (by omega) (by omega) (by omega) (by omega)).mono ?_;rintro e w' ⟨rfl,rfl⟩)
  | (go_at_call 143;refine(aT _ _ (by omega) (by omega)).mono ?_;rintro e w' ⟨rfl,rfl⟩))
 go_ret
 exact⟨dY (by rw [o4,adB a b old hn];show _=old%16-old/4%2*4+(if xw a (b%32).toNat%2=1 then 4 else 0);simp only [Fq,beq_iff_eq];split<;>omega),rfl⟩
theorem Lh (k:Int) (hk:6≤k) (qF:k≤9) (a b old:Int) (w:World) (h0:0≤a) (g0:a<4294967296) (h1:0≤b) (g1:b<4294967296) (h2:0≤old) (g2:old<4294967296) (hn:b%32=0):
  Calls Try.prog 84 #[.int .i64 k, .int .u32 a, .int .u32 b, .int .u32 old] w fun e w'=>e= .returned (.int .u32 (fl k a b old))∧w=w':=by
 have H:=κ (adC k a b old hk qF hn)
 rcases(show k=6∨k=7∨k=8∨k=9 by omega) with rfl | rfl | rfl | rfl
 all_goals
  go_enter Try.func84,Try.ntmps84
  go_wp2_with fail
  go_ret
  exact⟨dY H.out.symm,rfl⟩
theorem QL (k:Int) (hk:k<1∨12<k) (a b old:Int) (w:World) (h0:0≤a) (g0:a<4294967296) (h1:0≤b) (g1:b<4294967296) (h2:0≤old) (g2:old<4294967296):
  Calls Try.prog 84 #[.int .i64 k, .int .u32 a, .int .u32 b, .int .u32 old] w fun e w'=>e= .returned (.int .u32 (fl k a b old))∧w=w':=by
 have H:=κ (QA k a b old hk)
 rcases hk with hk | hk
 all_goals
  go_enter Try.func84,Try.ntmps84
  go_wp2_with fail
  all_goals go_ret
  all_goals exact⟨dY H.out.symm,rfl⟩
theorem bU (k a b old:Int) (w:World) (h0:0≤a) (g0:a<4294967296) (h1:0≤b) (g1:b<4294967296) (h2:0≤old) (g2:old<4294967296):
  Calls Try.prog 84 #[.int .i64 k, .int .u32 a, .int .u32 b, .int .u32 old] w fun e w'=>e= .returned (.int .u32 (fl k a b old))∧w=w':=by
 by_cases hx:k<1∨12<k
 ·exact QL k hx a b old w h0 g0 h1 g1 h2 g2
 by_cases hk:6≤k∧k≤9
 ·by_cases hn:b%32=0
  ·exact Lh k hk.1 hk.2 a b old w h0 g0 h1 g1 h2 g2 hn
  ·rcases(show k=6∨k=7∨k=8∨k=9 by omega) with rfl | rfl | rfl | rfl
   ·exact QH a b old w h0 g0 h1 g1 h2 g2 (by omega) (by omega)
   ·exact QI a b old w h0 g0 h1 g1 h2 g2 (by omega) (by omega)
   ·exact QJ a b old w h0 g0 h1 g1 h2 g2 (by omega) (by omega)
   ·exact QK a b old w h0 g0 h1 g1 h2 g2 (by omega) (by omega)
 ·rcases(show k=1∨k=2∨k=3∨k=4∨k=5∨k=10∨k=11∨k=12 by omega) with rfl | rfl | rfl | rfl | rfl | rfl | rfl | rfl
  ·exact QC a b old w h0 g0 h1 g1 h2 g2
  ·exact QD a b old w h0 g0 h1 g1 h2 g2
  ·exact QE a b old w h0 g0 h1 g1 h2 g2
  ·exact QF a b old w h0 g0 h1 g1 h2 g2
  ·exact QG a b old w h0 g0 h1 g1 h2 g2
  ·exact Lc a b old w h0 g0 h1 g1 h2 g2
  ·exact Ld a b old w h0 g0 h1 g1 h2 g2
  ·exact Le a b old w h0 g0 h1 g1 h2 g2
def qM (j:Int) (z n y v:Bool):Bool:=if j=0 then v else if j=1 then y else if j=2 then z else if j=3 then y || z else if j=4 then n else if j=5 then n !=v else if j=6 then z || (n !=v) else true
def hd (c f:Int):Bool:=if c<0∨15<c then false else if c%2=1 then !(qM (c/2) (f%2==1) (f/2%2==1) (f/4%2==1) (f/8%2==1)) else qM (c/2) (f%2==1) (f/2%2==1) (f/4%2==1) (f/8%2==1)
theorem QM (c f:Int) (h:c<0∨15<c):hd c f=false:=by unfold hd;rw [if_pos h]
theorem aaq (j:Nat) (hj:j<8) (f:Int):hd (2*(j:Int)) f=qM j (f%2==1) (f/2%2==1) (f/4%2==1) (f/8%2==1):=by
 unfold hd;rw [if_neg (by omega),if_neg (by omega),show 2*(j:Int)/2=j by omega]
theorem aar (j:Nat) (hj:j<8) (f:Int):hd (2*(j:Int)+1) f= !qM j (f%2==1) (f/2%2==1) (f/4%2==1) (f/8%2==1):=by
 unfold hd;rw [if_neg (by omega),if_pos (by omega),show(2*(j:Int)+1)/2=j by omega]
theorem Fv (z n y v:Bool):∀j:Fin 8, [Value.bool v, .bool y, .bool z, .bool (y || z), .bool n, .bool (!n==v), .bool (z || (!n==v)), .bool true][j.1]= .bool (qM j.1 z n y v):=by
 intro j
 match j with
 | ⟨0,_⟩ | ⟨1,_⟩ | ⟨2,_⟩ | ⟨3,_⟩ | ⟨4,_⟩ | ⟨7,_⟩=>rfl
 | ⟨5,_⟩=>cases n<;>cases v<;>rfl
 | ⟨6,_⟩=>cases z<;>cases n<;>cases v<;>rfl
theorem H6 (j:Nat) (hj:j<8) (f:Int) (w:World) (h:0≤f) (g:f<4294967296):
  Calls Try.prog 83 #[.int .i64 (2*(j:Int)), .int .u32 f] w fun e w'=>e= .returned (.bool (hd (2*(j:Int)) f))∧Below w.heap.size w w':=by
 obtain⟨z,hz⟩:∃z,(f%2==1)=z:=⟨_,rfl⟩
 obtain⟨n,hn⟩:∃z,(f/2%2==1)=z:=⟨_,rfl⟩
 obtain⟨y,hy⟩:∃z,(f/4%2==1)=z:=⟨_,rfl⟩
 obtain⟨v,hv⟩:∃z,(f/8%2==1)=z:=⟨_,rfl⟩
 have H:=κ (aaq j hj f)
 have hb:=Fv z n y v ⟨j,hj⟩
 have e1:(2*(j:Int))%2=0:=by omega
 have e2:(2*(j:Int))/2=j:=by omega
 cases y<;>cases z
 all_goals
  simp only [Bool.false_or,Bool.true_or,Bool.or_false] at hb
  have Hb:=κ hb
  clear hb
  go_enter Try.func83,Try.ntmps83
  go_wp2_with fail
  go_ret
  exact⟨by rw [H.out,hz,hn,hy,hv,←Hb.out];rfl,(Below.refl _ _).alloc (Nat.le_refl _) _⟩
theorem H7 (j:Nat) (hj:j<8) (f:Int) (w:World) (h:0≤f) (g:f<4294967296):
  Calls Try.prog 83 #[.int .i64 (2*(j:Int)+1), .int .u32 f] w fun e w'=>e= .returned (.bool (hd (2*(j:Int)+1) f))∧Below w.heap.size w w':=by
 obtain⟨z,hz⟩:∃z,(f%2==1)=z:=⟨_,rfl⟩
 obtain⟨n,hn⟩:∃z,(f/2%2==1)=z:=⟨_,rfl⟩
 obtain⟨y,hy⟩:∃z,(f/4%2==1)=z:=⟨_,rfl⟩
 obtain⟨v,hv⟩:∃z,(f/8%2==1)=z:=⟨_,rfl⟩
 have H:=κ (aar j hj f)
 have hb:=Fv z n y v ⟨j,hj⟩
 have e1:(2*(j:Int)+1)%2=1:=by omega
 have e2:(2*(j:Int)+1)/2=j:=by omega
 cases y<;>cases z
 all_goals
  simp only [Bool.false_or,Bool.true_or,Bool.or_false] at hb
  go_enter Try.func83,Try.ntmps83
  go_wp2_with fail
  go_ret
  exact⟨by rw [H.out,hz,hn,hy,hv];rfl,(Below.refl _ _).alloc (Nat.le_refl _) _⟩
theorem DI (c f:Int) (w:World) (h:0≤f) (g:f<4294967296):
  Calls Try.prog 83 #[.int .i64 c, .int .u32 f] w fun e w'=>e= .returned (.bool (hd c f))∧Below w.heap.size w w':=by
 by_cases hc:c<0∨15<c
 ·have H:=κ (QM c f hc)
  rcases hc with hc | hc
  all_goals
   go_enter Try.func83,Try.ntmps83
   go_wp2_with fail
   go_ret
   exact⟨by rw [H.out];rfl,Below.refl _ _⟩
 ·rcases(show c%2=0∨c%2=1 by omega) with hp | hp
  ·obtain⟨j,hj⟩:=Int.eq_ofNat_of_zero_le (show 0≤c/2 by omega)
   obtain rfl:c=2*(j:Int):=by omega
   exact H6 j (by omega) f w h g
  ·obtain⟨j,hj⟩:=Int.eq_ofNat_of_zero_le (show 0≤c/2 by omega)
   obtain rfl:c=2*(j:Int)+1:=by omega
   exact H7 j (by omega) f w h g
open Kt
def uy (o a b f:Int):Int:=
 if o=0 then(a+b)%4294967296
 else if o=1 then(a+b+f/4%2)%4294967296
 else if o=2 then(a-b)%4294967296
 else if o=3 then(a-b-f/4%2)%4294967296
 else if o=4 then bits .and .u32 a b
 else if o=5 then bits .or .u32 a b
 else if o=6 then bits .xor .u32 a b
 else if o=7 then a
 else if o=8 then a
 else if o=9 then a*2^n5 b%4294967296
 else if o=10 then a/2^n5 b
 else if o=11 then sg a/2^n5 b%4294967296
 else if o=12 then xw a (n5 b)
 else if o=13 then a*b%4294967296
 else if o=14 then(if b=0 then 0 else a/b)
 else if o=15 then(if b=0 then 0 else a%b)
 else 0
def wI (o a b f:Int):Int:=
 if o=0 then fl 1 a b f
 else if o=1 then fl 2 a b f
 else if o=2 then fl 3 a b f
 else if o=3 then fl 4 a b f
 else if o=4 then zn (bits .and .u32 a b)
 else if o=5 then zn (bits .or .u32 a b)
 else if o=6 then zn (bits .xor .u32 a b)
 else if o=7 then fl 3 a b f
 else if o=8 then zn (bits .and .u32 a b)
 else if o=9 then fl 6 a b f
 else if o=10 then fl 7 a b f
 else if o=11 then fl 8 a b f
 else if o=12 then fl 9 a b f
 else if o=13 then fl 10 a b f
 else if o=14 then(if b=0 then 0 else zn (a/b))
 else if o=15 then(if b=0 then 0 else zn (a%b))
 else 0
def wJ (o b:Int):Bool:= !(decide (o<0) || decide (15<o) || (decide (14≤o)&&decide (b=0)))
theorem lZ (op:BinOp) (a b:Int) (h0:0≤a) (g0:a<4294967296) (h1:0≤b) (g1:b<4294967296):0≤bits op .u32 a b∧bits op .u32 a b<4294967296:=by
 unfold bits
 rw [IntKind.wrap_u32]
 omega
theorem WW (o a b f:Int) (h:o<0∨15<o):uy o a b f=0∧wI o a b f=0∧wJ o b=false:=by
 refine⟨?_, ?_, ?_⟩
 ·unfold uy;rw [if_neg (by omega),if_neg (by omega),if_neg (by omega),if_neg (by omega),if_neg (by omega),if_neg (by omega),if_neg (by omega),if_neg (by omega),if_neg (by omega),if_neg (by omega),if_neg (by omega),if_neg (by omega),if_neg (by omega),if_neg (by omega),if_neg (by omega),if_neg (by omega)]
 ·unfold wI;rw [if_neg (by omega),if_neg (by omega),if_neg (by omega),if_neg (by omega),if_neg (by omega),if_neg (by omega),if_neg (by omega),if_neg (by omega),if_neg (by omega),if_neg (by omega),if_neg (by omega),if_neg (by omega),if_neg (by omega),if_neg (by omega),if_neg (by omega),if_neg (by omega)]
 ·unfold wJ;rcases h with h | h<;>simp [h]
theorem iq {a a' c c':Int} {d d':Bool} (h:a=a') (g:c=c') (k:d=d'):Ending.returned (.tuple #[.int .u32 a, .int .u32 c, .bool d])= .returned (.tuple #[.int .u32 a', .int .u32 c', .bool d']):=by rw [h,g,k]
theorem QO (o a f:Int) (h:o=14∨o=15):uy o a 0 f=0∧wI o a 0 f=0∧wJ o 0=false:=by
 rcases h with rfl | rfl<;>exact⟨rfl,rfl,rfl⟩
end Go.Proofs.Ytcjcmnnhmajocab.Fl
