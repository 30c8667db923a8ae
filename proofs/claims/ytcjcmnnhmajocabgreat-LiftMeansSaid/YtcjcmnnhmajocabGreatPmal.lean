import Derived.Test.YtcjcmnnhmajocabGreatPmak
set_option linter.unusedVariables false
set_option linter.unusedSimpArgs false
set_option maxRecDepth 100000
set_option maxHeartbeats 16000000
namespace Go.Proofs.YtcjcmnnhmajocabGreat.Fl
open Go.RowKit Kt
theorem KN (o:Int) (V A B:Nat) (w:World) (hV:V<4294967296) (g0:A<4294967296) (g1:B<4294967296) (H:((o==5)=false∧(o==6)=false∧∀i,V/2^i=2*(V/2^(i+1))+(A/2^i%2)*(B/2^i%2))∨((o==5)=true∧(o==6)=false∧∀i,V/2^i=2*(V/2^(i+1))+(A/2^i%2+B/2^i%2-(A/2^i%2)*(B/2^i%2)))∨(o==5)=false∧(o==6)=true∧∀i,V/2^i=2*(V/2^(i+1))+(A/2^i%2+B/2^i%2)%2):
  Calls Tryz.prog 146 #[.int .i64 o, .int .u32 (A:Int), .int .u32 (B:Int)] w fun e w'=>e= .returned (.int .u32 (V:Int))∧w=w':=by
 rcases H with⟨h5,h6,HS⟩ | ⟨h5,h6,HS⟩ | ⟨h5,h6,HS⟩
 all_goals
  replace HS:=κ HS
  have h32:V/2^32=0:=Nat.div_eq_of_lt hV
  go_enter Tryz.func146,Tryz.ntmps146
  go_wp2
  go_loop [7,8] (fun x k=>∃j:Int,-1≤j∧j≤31∧k= .int .i64 j∧x= .int .u32 ((V/2^(j+1).toNat:Nat):Int)) (fun _ k=>(intOf k+1).toNat)
  case atStart=>exact⟨31,by omega,by omega,rfl,by rw [show((31:Int)+1).toNat=32 from rfl,h32];rfl⟩
  case round=>
   obtain⟨j,hj0,Zw,rfl,rfl⟩:=hrel
   clear h32
   by_cases hz:j<0
   ·have e0:V/2^(j+1).toNat=V:=by rw [show(j+1).toNat=0 by omega];simp
    rw [e0]
    clear e0
    go_wp2
    go_ret
    exact⟨rfl,rfl⟩
   ·have BX:0≤j:=by omega
    clear hz
    have rD:=HS.out j.toNat
    rw [show j.toNat+1=(j+1).toNat by omega] at rD
    have dM:=Nat.mod_lt (A/2^j.toNat) (show 2>0 by omega)
    have Jg:=Nat.mod_lt (B/2^j.toNat) (show 2>0 by omega)
    have cp:(A:Int)/2^j.toNat%2=((A/2^j.toNat%2:Nat):Int):=by rw [Int.natCast_emod,Int.natCast_ediv,Int.natCast_pow];rfl
    have cq:(B:Int)/2^j.toNat%2=((B/2^j.toNat%2:Nat):Int):=by rw [Int.natCast_emod,Int.natCast_ediv,Int.natCast_pow];rfl
    have jh:0≤(A:Int)/2^j.toNat:=(dU (A:Int) j.toNat (by omega)).1
    have uH:0≤(B:Int)/2^j.toNat:=(dU (B:Int) j.toNat (by omega)).1
    obtain⟨p,hp⟩:∃p,p=A/2^j.toNat%2:=⟨_,rfl⟩
    obtain⟨q,hq⟩:∃q,q=B/2^j.toNat%2:=⟨_,rfl⟩
    rw [←hp] at cp dM rD
    rw [←hq] at cq Jg rD
    clear hp hq
    have hle:=Nat.div_le_self V (2^j.toNat)
    obtain⟨X,hX⟩:∃X,X=V/2^(j+1).toNat:=⟨_,rfl⟩
    obtain⟨Y,hY⟩:∃Y,Y=V/2^j.toNat:=⟨_,rfl⟩
    rw [←hX,←hY] at rD
    rw [←hY] at hle
    rw [←hX]
    have HX:=κ hX
    have HY:=κ hY
    clear hX hY
    rcases(show(p=0∨p=1) by omega) with rfl | rfl<;>rcases(show(q=0∨q=1) by omega) with rfl | rfl
    all_goals
     have Pg:2*X≤Y:=by omega
     have zS:=κ rD
     clear rD
     go_wp2
     go_round
     case rel=>exact⟨j-1,by omega,by omega,rfl,by rw [show(j-1+1).toNat=j.toNat by omega,←HY.out];have:=zS.out;go_num⟩
     case measure=>simp [intOf];omega
theorem KO (a b:Int) (w:World) (h0:0≤a) (g0:a<4294967296) (h1:0≤b) (g1:b<4294967296):
  Calls Tryz.prog 146 #[.int .i64 4, .int .u32 a, .int .u32 b] w fun e w'=>e= .returned (.int .u32 (bits .and .u32 a b))∧w=w':=by
 obtain⟨A,rfl⟩:=Int.eq_ofNat_of_zero_le h0
 obtain⟨B,rfl⟩:=Int.eq_ofNat_of_zero_le h1
 rw [u32_and_nat _ _ (by omega) (by omega)]
 exact KN 4 (A&&&B) A B w (Vh (by omega)) (by omega) (by omega) (.inl ⟨rfl,rfl,JA A B⟩)
theorem ZQ (a b:Int) (w:World) (h0:0≤a) (g0:a<4294967296) (h1:0≤b) (g1:b<4294967296):
  Calls Tryz.prog 146 #[.int .i64 5, .int .u32 a, .int .u32 b] w fun e w'=>e= .returned (.int .u32 (bits .or .u32 a b))∧w=w':=by
 obtain⟨A,rfl⟩:=Int.eq_ofNat_of_zero_le h0
 obtain⟨B,rfl⟩:=Int.eq_ofNat_of_zero_le h1
 rw [u32_or_nat _ _ (by omega) (by omega)]
 exact KN 5 (A ||| B) A B w (Ui (by omega) (by omega)) (by omega) (by omega) (.inr (.inl ⟨rfl,rfl,PD A B⟩))
theorem VN (a b:Int) (w:World) (h0:0≤a) (g0:a<4294967296) (h1:0≤b) (g1:b<4294967296):
  Calls Tryz.prog 146 #[.int .i64 6, .int .u32 a, .int .u32 b] w fun e w'=>e= .returned (.int .u32 (bits .xor .u32 a b))∧w=w':=by
 obtain⟨A,rfl⟩:=Int.eq_ofNat_of_zero_le h0
 obtain⟨B,rfl⟩:=Int.eq_ofNat_of_zero_le h1
 rw [u32_xor_nat _ _ (by omega) (by omega)]
 exact KN 6 (A^^^B) A B w (Vg (by omega) (by omega)) (by omega) (by omega) (.inr (.inr ⟨rfl,rfl,JB A B⟩))
theorem QI (o a b f:Int) (w:World) (hk:(0≤o∧o<14)∨(13<o∧o<16∧1≤b)) (h0:0≤a) (g0:a<4294967296) (h1:0≤b) (g1:b<4294967296) (h2:0≤f) (g2:f<4294967296):
  Calls Tryz.prog 94 #[.int .i64 o, .int .u32 a, .int .u32 b, .int .u32 f] w fun e w'=>e= .returned (.tuple #[.int .u32 (lW o a b f), .int .u32 (nR o a b f), .bool (uJ o b)])∧w=w':=by
 rcases(show(o=0∨o=1∨o=2∨o=3∨o=4∨o=5∨o=6∨o=7∨o=8∨o=9∨o=10∨o=11∨o=12∨o=13)∨(o=14∨o=15)∧1≤b by omega) with(rfl | rfl | rfl | rfl | rfl | rfl | rfl | rfl | rfl | rfl | rfl | rfl | rfl | rfl) | ⟨rfl | rfl,hb⟩
 rotate_left 4
 have bb:=jR .and a b h0 g0 h1 g1
 have HB:=κ (@KO)
 rotate_left 1
 have bb:=jR .or a b h0 g0 h1 g1
 have HB:=κ (@ZQ)
 rotate_left 1
 have bb:=jR .xor a b h0 g0 h1 g1
 have HB:=κ (@VN)
 rotate_left 2
 have bb:=jR .and a b h0 g0 h1 g1
 have HB:=κ (@KO)
 rotate_left 1
 have d5:=kV a (b%32).toNat h0 g0 (by omega)
 rotate_left 1
 have d1:=dU a (b%32).toNat h0
 rotate_left 1
 have sa: -2147483648≤sg a∧sg a<2147483648:=by unfold sg;split<;>omega
 have Jd:=sa.1
 have Je:=sa.2
 clear sa
 have d6:=fA (sg a) (b%32).toNat (by omega) (by omega)
 rotate_left 1
 have d4:=nY a (b%32).toNat (by omega) h0 g0
 rotate_left 1
 have hm:0≤a*b:=Int.mul_nonneg h0 h1
 have Gs:a*b<18446744065119617026:=by
  have h:a*b≤4294967295*4294967295:=Int.mul_le_mul (by omega) (by omega) h1 (by omega)
  omega
 rotate_left 1
 have bb:0≤a/b∧a/b≤a:=⟨Int.ediv_nonneg h0 h1,Int.ediv_le_self _ h0⟩
 rotate_left 1
 have bb:0≤a%b∧a%b<b:=⟨Int.emod_nonneg _ (by omega),Int.emod_lt_of_pos _ (by omega)⟩
 all_goals clear hk
 all_goals
  go_enter Tryz.func94,Tryz.ntmps94
  go_wp2_with (first
   | (go_at_call 91;refine(fU _ _ _ _ _ (by omega) (by omega) (by omega) (by omega) (by omega) (by omega)).mono ?_;rintro e w' ⟨rfl,rfl⟩)
   | (go_at_call 140;refine(eP _ _ (by omega) (by omega)).mono ?_;rintro e w' ⟨rfl,rfl⟩)
   | (go_at_call 146;refine(HB.out _ _ _ (by omega) (by omega) (by omega) (by omega)).mono ?_;rintro e w' ⟨rfl,rfl⟩)
   | (go_at_call 144;refine(jC _ _ _ (by omega) (by omega) (by omega) (by omega)).mono ?_;rintro e w' ⟨rfl,rfl⟩)
   | (go_at_call 143;refine(fK _ _ _ (by omega) (by omega) (by omega) (by omega)).mono ?_;rintro e w' ⟨rfl,rfl⟩)
   | (go_at_call 145;refine(fO _ _ _ (by omega) (by omega) (by omega) (by omega)).mono ?_;rintro e w' ⟨rfl,rfl⟩)
   | (go_at_call 142;refine(aJ _ _ (by omega) (by omega)).mono ?_;rintro e w' ⟨rfl,rfl⟩))
  go_ret3
  refine⟨Vr ?_ ?_ ?_,rfl⟩
 all_goals try rfl
 all_goals first
  | (show a/b=if b=0 then 0 else a/b;rw [if_neg (by omega)])
  | (show zn (a/b)=if b=0 then 0 else zn (a/b);rw [if_neg (by omega)])
  | (show a%b=if b=0 then 0 else a%b;rw [if_neg (by omega)])
  | (show zn (a%b)=if b=0 then 0 else zn (a%b);rw [if_neg (by omega)])
  | (show true= !(decide (b=0));rw [decide_eq_false (by omega)];rfl)
theorem DF (o:Int) (h:o<0∨15<o) (a b f:Int) (w:World) (h0:0≤a) (g0:a<4294967296) (h1:0≤b) (g1:b<4294967296) (h2:0≤f) (g2:f<4294967296):
  Calls Tryz.prog 94 #[.int .i64 o, .int .u32 a, .int .u32 b, .int .u32 f] w fun e w'=>e= .returned (.tuple #[.int .u32 (lW o a b f), .int .u32 (nR o a b f), .bool (uJ o b)])∧w=w':=by
 have H:=κ (Vq o a b f h)
 have k14:(o !=14)=true:=by rw [bne_iff_ne];omega
 have k15:(o !=15)=true:=by rw [bne_iff_ne];omega
 rcases h with h | h
 all_goals
  go_enter Tryz.func94,Tryz.ntmps94
  go_wp2_with fail
  go_ret3
  exact⟨by rw [H.out.1,H.out.2.1,H.out.2.2];rfl,rfl⟩
theorem Au (o:Int) (h:o=14∨o=15) (a f:Int) (w:World) (h0:0≤a) (g0:a<4294967296) (h2:0≤f) (g2:f<4294967296):
  Calls Tryz.prog 94 #[.int .i64 o, .int .u32 a, .int .u32 0, .int .u32 f] w fun e w'=>e= .returned (.tuple #[.int .u32 (lW o a 0 f), .int .u32 (nR o a 0 f), .bool (uJ o 0)])∧w=w':=by
 have H:=κ (Qg o a f h)
 rcases h with rfl | rfl
 all_goals
  go_enter Tryz.func94,Tryz.ntmps94
  go_wp2_with fail
  go_ret3
  exact⟨by rw [H.out.1,H.out.2.1,H.out.2.2];rfl,rfl⟩
theorem aW (o:Int) (a b f:Int) (w:World) (h0:0≤a) (g0:a<4294967296) (h1:0≤b) (g1:b<4294967296) (h2:0≤f) (g2:f<4294967296):
  Calls Tryz.prog 94 #[.int .i64 o, .int .u32 a, .int .u32 b, .int .u32 f] w fun e w'=>e= .returned (.tuple #[.int .u32 (lW o a b f), .int .u32 (nR o a b f), .bool (uJ o b)])∧w=w':=by
 by_cases hb:o<0∨15<o
 ·exact DF o hb a b f w h0 g0 h1 g1 h2 g2
 by_cases hz:b=0∧(o=14∨o=15)
 ·obtain⟨rfl,ho⟩:=hz;exact Au o ho a f w h0 g0 h2 g2
 ·exact QI o a b f w (by omega) h0 g0 h1 g1 h2 g2
end Go.Proofs.YtcjcmnnhmajocabGreat.Fl
namespace Go.Proofs.YtcjcmnnhmajocabGreat.Ev
open Go.RowKit Kt Me Fl
theorem dP {a b:Int} (h:a=b):Ending.returned (.int .u32 a)= .returned (.int .u32 b):=by rw [h]
theorem bD (b:Bool) (w:World):Calls Tryz.prog 152 #[.bool b] w fun e w'=>e= .returned (.int .u32 (if b then 1 else 0))∧w=w':=by
 cases b
 all_goals go_enter Tryz.func152,Tryz.ntmps152
 all_goals go_wp2
 all_goals go_ret
 all_goals exact⟨rfl,rfl⟩
theorem aU (x:Int) (w:World) (h:0≤x) (g:x<4294967296):Calls Tryz.prog 187 #[.int .u32 x] w fun e w'=>e= .returned (.int .i64 (sg x))∧w=w':=by
 by_cases hx:2147483648≤x
 ·have es:sg x=x-4294967296:=by unfold sg;rw [if_pos hx]
  rw [es]
  clear es
  go_enter Tryz.func187,Tryz.ntmps187
  go_wp2
  go_ret
  exact⟨rfl,rfl⟩
 ·have es:sg x=x:=by unfold sg;rw [if_neg hx]
  rw [es]
  clear es
  go_enter Tryz.func187,Tryz.ntmps187
  go_wp2
  go_ret
  exact⟨rfl,rfl⟩
end Go.Proofs.YtcjcmnnhmajocabGreat.Ev
namespace Go.Proofs.YtcjcmnnhmajocabGreat.St
open Go.RowKit Kt Me Fl
theorem qJ (o:Int) (w:World) (o0:0≤o) (o1:o<3):Calls Tryz.prog 270 #[.int .i64 o] w fun e w'=>e= .returned (.int .i64 (ZN o))∧w=w':=by
 rcases(show o=0∨o=1∨o=2 by omega) with rfl | rfl | rfl
 all_goals
  go_enter Tryz.func270,Tryz.ntmps270
  go_wp2_with fail
 ·change Oper.upon _ _ _ _ _ (.ok (.value (.int .i64 1)) _);go_wp2;go_ret;exact⟨rfl,rfl⟩
 ·change Oper.upon _ _ _ _ _ (.ok (.value (.int .i64 2)) _);go_wp2;go_ret;exact⟨rfl,rfl⟩
 ·change Oper.upon _ _ _ _ _ (.ok (.value (.int .i64 4)) _);go_wp2;go_ret;exact⟨rfl,rfl⟩
def jy (k:Int) (d s:Nat) (o m:Int):Value:= .agg #[.int .i64 k, .int .i64 d, .int .i64 s, .int .i64 o, .int .u32 m]
theorem ay (w:World) (cs:Array Value) (t:TypeId) (i:Nat):(w.alloc (.cells cs t)).cell? ⟨w.heap.size,i,none⟩=cs[i]?:=cell_of_row _ _ _ _ _ _ (heap_alloc_new w (.cells cs t))
end Go.Proofs.YtcjcmnnhmajocabGreat.St
