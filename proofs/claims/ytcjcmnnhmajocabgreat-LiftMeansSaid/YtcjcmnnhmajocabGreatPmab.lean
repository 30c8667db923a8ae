import Derived.Test.YtcjcmnnhmajocabGreatPmaa
set_option linter.unusedVariables false
set_option linter.unusedSimpArgs false
set_option maxRecDepth 100000
set_option maxHeartbeats 16000000
namespace Go.Proofs.YtcjcmnnhmajocabGreat.Fl
open Go.RowKit
theorem Vp (a:Int) (j:Nat) (hj:j≤30):sg a/2^j%4294967296%2=a/2^j%2:=by
 have e:(4294967296:Int)=2^j*(2*2^(31-j)):=by
  rw [show(2:Int)*2^(31-j)=2^(32-j) by rw [show 32-j=(31-j)+1 by omega,Int.pow_succ,Int.mul_comm],xK j (by omega)]
 unfold sg
 split
 ·have:(a-4294967296)/2^j=a/2^j-2*2^(31-j):=by
   have h:=Int.add_mul_ediv_left a (-(2*2^(31-j))) (show(2:Int)^j≠0 by have:=two_pow_pos j;omega)
   rw [Int.mul_neg,←e] at h
   rw [Int.sub_eq_add_neg,h];omega
  rw [this];omega
 ·omega
theorem PY (a b old:Int) (w:World) (h0:0≤a) (g0:a<4294967296) (h1:0≤b) (g1:b<4294967296) (h2:0≤old) (g2:old<4294967296) (hn:1≤b%32) (hn2:b%32<32):
  Calls Tryz.prog 91 #[.int .i64 6, .int .u32 a, .int .u32 b, .int .u32 old] w fun e w'=>e= .returned (.int .u32 (fl 6 a b old))∧w=w':=by
 have hm:0≤a*b:=Int.mul_nonneg h0 h1
 have Gs:a*b<18446744065119617026:=by
  have h:a*b≤4294967295*4294967295:=Int.mul_le_mul (by omega) (by omega) h1 (by omega)
  omega
 have sa: -2147483648≤sg a∧sg a<2147483648:=by unfold sg;split<;>omega
 have sb: -2147483648≤sg b∧sg b<2147483648:=by unfold sg;split<;>omega
 have Jd:=sa.1
 have Je:=sa.2
 have JE:=sb.1
 have JF:=sb.2
 clear sa sb
 have d1:=dU a (b%32).toNat h0
 have d2:=dU a ((b%32).toNat-1) h0
 have d4:=nY a (b%32).toNat (by omega) h0 g0
 have d5:=kV a (b%32).toNat h0 g0 (by omega)
 have d6:=fA (sg a) ((b%32).toNat-1) (by omega) (by omega)
 have d7:=fA (sg a/2^((b%32).toNat-1)) 1 d6.1 d6.2
 have e1:(1:Int).toNat=1:=rfl
 go_enter Tryz.func91,Tryz.ntmps91
 go_wp2_with (first
  | (go_at_call 140;refine(eP _ _ (by omega) (by omega)).mono ?_;rintro e w' ⟨rfl,rfl⟩)
  | (go_at_call 139;refine(eG _ _ (by omega) (by omega)).mono ?_;rintro e w' ⟨rfl,rfl⟩)
  | (go_at_call 93;refine(iP _ _ _).mono ?_;rintro e w' ⟨rfl,rfl⟩)
  | (go_at_call 141;refine(gu _ _).mono ?_;rintro e w' ⟨rfl,rfl⟩)
  | (go_at_call 144;refine(jC _ _ _ (by omega) (by omega) (by omega) (by omega)).mono ?_;rintro e w' ⟨rfl,rfl⟩)
  | (go_at_call 143;refine(fK _ _ _ (by omega) (by omega) (by omega) (by omega)).mono ?_;rintro e w' ⟨rfl,rfl⟩)
  | (go_at_call 145;refine(fO _ _ _ (by omega) (by omega) (by omega) (by omega)).mono ?_;rintro e w' ⟨rfl,rfl⟩)
  | (go_at_call 142;refine(aJ _ _ (by omega) (by omega)).mono ?_;rintro e w' ⟨rfl,rfl⟩))
 go_ret
 exact⟨dZ (by rw [adY a b old hn];show _=zn (a*2^(b%32).toNat%4294967296)+(if a*2^(b%32).toNat/4294967296%2=1 then 4 else 0);have hz:=gX (a*2^(b%32).toNat%4294967296);simp only [BP,beq_iff_eq];split<;>omega),rfl⟩
theorem Qa (a b old:Int) (w:World) (h0:0≤a) (g0:a<4294967296) (h1:0≤b) (g1:b<4294967296) (h2:0≤old) (g2:old<4294967296) (hn:1≤b%32) (hn2:b%32<32):
  Calls Tryz.prog 91 #[.int .i64 7, .int .u32 a, .int .u32 b, .int .u32 old] w fun e w'=>e= .returned (.int .u32 (fl 7 a b old))∧w=w':=by
 have hm:0≤a*b:=Int.mul_nonneg h0 h1
 have Gs:a*b<18446744065119617026:=by
  have h:a*b≤4294967295*4294967295:=Int.mul_le_mul (by omega) (by omega) h1 (by omega)
  omega
 have sa: -2147483648≤sg a∧sg a<2147483648:=by unfold sg;split<;>omega
 have sb: -2147483648≤sg b∧sg b<2147483648:=by unfold sg;split<;>omega
 have Jd:=sa.1
 have Je:=sa.2
 have JE:=sb.1
 have JF:=sb.2
 clear sa sb
 have d1:=dU a (b%32).toNat h0
 have d2:=dU a ((b%32).toNat-1) h0
 have d4:=nY a (b%32).toNat (by omega) h0 g0
 have d5:=kV a (b%32).toNat h0 g0 (by omega)
 have d6:=fA (sg a) ((b%32).toNat-1) (by omega) (by omega)
 have d7:=fA (sg a/2^((b%32).toNat-1)) 1 d6.1 d6.2
 have e1:(1:Int).toNat=1:=rfl
 go_enter Tryz.func91,Tryz.ntmps91
 go_wp2_with (first
  | (go_at_call 140;refine(eP _ _ (by omega) (by omega)).mono ?_;rintro e w' ⟨rfl,rfl⟩)
  | (go_at_call 139;refine(eG _ _ (by omega) (by omega)).mono ?_;rintro e w' ⟨rfl,rfl⟩)
  | (go_at_call 93;refine(iP _ _ _).mono ?_;rintro e w' ⟨rfl,rfl⟩)
  | (go_at_call 141;refine(gu _ _).mono ?_;rintro e w' ⟨rfl,rfl⟩)
  | (go_at_call 144;refine(jC _ _ _ (by omega) (by omega) (by omega) (by omega)).mono ?_;rintro e w' ⟨rfl,rfl⟩)
  | (go_at_call 143;refine(fK _ _ _ (by omega) (by omega) (by omega) (by omega)).mono ?_;rintro e w' ⟨rfl,rfl⟩)
  | (go_at_call 145;refine(fO _ _ _ (by omega) (by omega) (by omega) (by omega)).mono ?_;rintro e w' ⟨rfl,rfl⟩)
  | (go_at_call 142;refine(aJ _ _ (by omega) (by omega)).mono ?_;rintro e w' ⟨rfl,rfl⟩))
 go_ret
 exact⟨dZ (by rw [adZ a b old hn];show _=zn (a/2^(b%32).toNat)+(if a/2^((b%32).toNat-1)%2=1 then 4 else 0);have hz:=gX (a/2^(b%32).toNat);simp only [BP,beq_iff_eq];split<;>omega),rfl⟩
theorem Qb (a b old:Int) (w:World) (h0:0≤a) (g0:a<4294967296) (h1:0≤b) (g1:b<4294967296) (h2:0≤old) (g2:old<4294967296) (hn:1≤b%32) (hn2:b%32<32):
  Calls Tryz.prog 91 #[.int .i64 8, .int .u32 a, .int .u32 b, .int .u32 old] w fun e w'=>e= .returned (.int .u32 (fl 8 a b old))∧w=w':=by
 have hm:0≤a*b:=Int.mul_nonneg h0 h1
 have Gs:a*b<18446744065119617026:=by
  have h:a*b≤4294967295*4294967295:=Int.mul_le_mul (by omega) (by omega) h1 (by omega)
  omega
 have sa: -2147483648≤sg a∧sg a<2147483648:=by unfold sg;split<;>omega
 have sb: -2147483648≤sg b∧sg b<2147483648:=by unfold sg;split<;>omega
 have Jd:=sa.1
 have Je:=sa.2
 have JE:=sb.1
 have JF:=sb.2
 clear sa sb
 have d1:=dU a (b%32).toNat h0
 have d2:=dU a ((b%32).toNat-1) h0
 have d4:=nY a (b%32).toNat (by omega) h0 g0
 have d5:=kV a (b%32).toNat h0 g0 (by omega)
 have d6:=fA (sg a) ((b%32).toNat-1) (by omega) (by omega)
 have d7:=fA (sg a/2^((b%32).toNat-1)) 1 d6.1 d6.2
 have e1:(1:Int).toNat=1:=rfl
 go_enter Tryz.func91,Tryz.ntmps91
 go_wp2_with (first
  | (go_at_call 140;refine(eP _ _ (by omega) (by omega)).mono ?_;rintro e w' ⟨rfl,rfl⟩)
  | (go_at_call 139;refine(eG _ _ (by omega) (by omega)).mono ?_;rintro e w' ⟨rfl,rfl⟩)
  | (go_at_call 93;refine(iP _ _ _).mono ?_;rintro e w' ⟨rfl,rfl⟩)
  | (go_at_call 141;refine(gu _ _).mono ?_;rintro e w' ⟨rfl,rfl⟩)
  | (go_at_call 144;refine(jC _ _ _ (by omega) (by omega) (by omega) (by omega)).mono ?_;rintro e w' ⟨rfl,rfl⟩)
  | (go_at_call 143;refine(fK _ _ _ (by omega) (by omega) (by omega) (by omega)).mono ?_;rintro e w' ⟨rfl,rfl⟩)
  | (go_at_call 145;refine(fO _ _ _ (by omega) (by omega) (by omega) (by omega)).mono ?_;rintro e w' ⟨rfl,rfl⟩)
  | (go_at_call 142;refine(aJ _ _ (by omega) (by omega)).mono ?_;rintro e w' ⟨rfl,rfl⟩))
 go_ret
 exact⟨dZ (by rw [ad1 a b old hn];show _=zn (sg a/2^(b%32).toNat%4294967296)+(if a/2^((b%32).toNat-1)%2=1 then 4 else 0);rw [oZ,show(b%32).toNat-1+1=(b%32).toNat by omega];have hp:=Vp a ((b%32).toNat-1) (by omega);have hz:=gX (sg a/2^(b%32).toNat%4294967296);simp only [BP,beq_iff_eq];split<;>split<;>omega),rfl⟩
theorem Qc (a b old:Int) (w:World) (h0:0≤a) (g0:a<4294967296) (h1:0≤b) (g1:b<4294967296) (h2:0≤old) (g2:old<4294967296) (hn:1≤b%32) (hn2:b%32<32):
  Calls Tryz.prog 91 #[.int .i64 9, .int .u32 a, .int .u32 b, .int .u32 old] w fun e w'=>e= .returned (.int .u32 (fl 9 a b old))∧w=w':=by
 have hm:0≤a*b:=Int.mul_nonneg h0 h1
 have Gs:a*b<18446744065119617026:=by
  have h:a*b≤4294967295*4294967295:=Int.mul_le_mul (by omega) (by omega) h1 (by omega)
  omega
 have sa: -2147483648≤sg a∧sg a<2147483648:=by unfold sg;split<;>omega
 have sb: -2147483648≤sg b∧sg b<2147483648:=by unfold sg;split<;>omega
 have Jd:=sa.1
 have Je:=sa.2
 have JE:=sb.1
 have JF:=sb.2
 clear sa sb
 have d1:=dU a (b%32).toNat h0
 have d2:=dU a ((b%32).toNat-1) h0
 have d4:=nY a (b%32).toNat (by omega) h0 g0
 have d5:=kV a (b%32).toNat h0 g0 (by omega)
 have d6:=fA (sg a) ((b%32).toNat-1) (by omega) (by omega)
 have d7:=fA (sg a/2^((b%32).toNat-1)) 1 d6.1 d6.2
 have e1:(1:Int).toNat=1:=rfl
 go_enter Tryz.func91,Tryz.ntmps91
 go_wp2_with (first
  | (go_at_call 140;refine(eP _ _ (by omega) (by omega)).mono ?_;rintro e w' ⟨rfl,rfl⟩)
  | (go_at_call 139;refine(eG _ _ (by omega) (by omega)).mono ?_;rintro e w' ⟨rfl,rfl⟩)
  | (go_at_call 93;refine(iP _ _ _).mono ?_;rintro e w' ⟨rfl,rfl⟩)
  | (go_at_call 141;refine(gu _ _).mono ?_;rintro e w' ⟨rfl,rfl⟩)
  | (go_at_call 144;refine(jC _ _ _ (by omega) (by omega) (by omega) (by omega)).mono ?_;rintro e w' ⟨rfl,rfl⟩)
  | (go_at_call 143;refine(fK _ _ _ (by omega) (by omega) (by omega) (by omega)).mono ?_;rintro e w' ⟨rfl,rfl⟩)
  | (go_at_call 145;refine(fO _ _ _ (by omega) (by omega) (by omega) (by omega)).mono ?_;rintro e w' ⟨rfl,rfl⟩)
  | (go_at_call 142;refine(aJ _ _ (by omega) (by omega)).mono ?_;rintro e w' ⟨rfl,rfl⟩))
 go_ret
 exact⟨dZ (by rw [o4,ad2 a b old hn];show _=old%16-old/4%2*4+(if xJ a (b%32).toNat%2=1 then 4 else 0);simp only [BP,beq_iff_eq];split<;>omega),rfl⟩
theorem JJ (k:Int) (hk:6≤k) (CG:k≤9) (a b old:Int) (w:World) (h0:0≤a) (g0:a<4294967296) (h1:0≤b) (g1:b<4294967296) (h2:0≤old) (g2:old<4294967296) (hn:b%32=0):
  Calls Tryz.prog 91 #[.int .i64 k, .int .u32 a, .int .u32 b, .int .u32 old] w fun e w'=>e= .returned (.int .u32 (fl k a b old))∧w=w':=by
 have H:=κ (ad3 k a b old hk CG hn)
 rcases(show k=6∨k=7∨k=8∨k=9 by omega) with rfl | rfl | rfl | rfl
 all_goals
  go_enter Tryz.func91,Tryz.ntmps91
  go_wp2_with fail
  go_ret
  exact⟨dZ H.out.symm,rfl⟩
theorem Qd (k:Int) (hk:k<1∨12<k) (a b old:Int) (w:World) (h0:0≤a) (g0:a<4294967296) (h1:0≤b) (g1:b<4294967296) (h2:0≤old) (g2:old<4294967296):
  Calls Tryz.prog 91 #[.int .i64 k, .int .u32 a, .int .u32 b, .int .u32 old] w fun e w'=>e= .returned (.int .u32 (fl k a b old))∧w=w':=by
 have H:=κ (Pz k a b old hk)
 rcases hk with hk | hk
 all_goals
  go_enter Tryz.func91,Tryz.ntmps91
  go_wp2_with fail
  all_goals go_ret
  all_goals exact⟨dZ H.out.symm,rfl⟩
theorem fU (k a b old:Int) (w:World) (h0:0≤a) (g0:a<4294967296) (h1:0≤b) (g1:b<4294967296) (h2:0≤old) (g2:old<4294967296):
  Calls Tryz.prog 91 #[.int .i64 k, .int .u32 a, .int .u32 b, .int .u32 old] w fun e w'=>e= .returned (.int .u32 (fl k a b old))∧w=w':=by
 by_cases hx:k<1∨12<k
 ·exact Qd k hx a b old w h0 g0 h1 g1 h2 g2
 by_cases hk:6≤k∧k≤9
 ·by_cases hn:b%32=0
  ·exact JJ k hk.1 hk.2 a b old w h0 g0 h1 g1 h2 g2 hn
  ·rcases(show k=6∨k=7∨k=8∨k=9 by omega) with rfl | rfl | rfl | rfl
   ·exact PY a b old w h0 g0 h1 g1 h2 g2 (by omega) (by omega)
   ·exact Qa a b old w h0 g0 h1 g1 h2 g2 (by omega) (by omega)
   ·exact Qb a b old w h0 g0 h1 g1 h2 g2 (by omega) (by omega)
   ·exact Qc a b old w h0 g0 h1 g1 h2 g2 (by omega) (by omega)
 ·rcases(show k=1∨k=2∨k=3∨k=4∨k=5∨k=10∨k=11∨k=12 by omega) with rfl | rfl | rfl | rfl | rfl | rfl | rfl | rfl
  ·exact PK a b old w h0 g0 h1 g1 h2 g2
  ·exact PL a b old w h0 g0 h1 g1 h2 g2
  ·exact PO a b old w h0 g0 h1 g1 h2 g2
  ·exact PW a b old w h0 g0 h1 g1 h2 g2
  ·exact PX a b old w h0 g0 h1 g1 h2 g2
  ·exact JG a b old w h0 g0 h1 g1 h2 g2
  ·exact JH a b old w h0 g0 h1 g1 h2 g2
  ·exact JI a b old w h0 g0 h1 g1 h2 g2
end Go.Proofs.YtcjcmnnhmajocabGreat.Fl
