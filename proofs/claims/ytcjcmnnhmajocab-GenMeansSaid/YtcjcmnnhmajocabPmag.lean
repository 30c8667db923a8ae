import Derived.Test.YtcjcmnnhmajocabPmaf
set_option linter.unusedVariables false
set_option linter.unusedSimpArgs false
set_option maxRecDepth 100000
set_option maxHeartbeats 16000000
namespace Go.Proofs.Ytcjcmnnhmajocab.Fl
open Go.RowKit Kt
theorem H8 (o:Int) (ho:o<5∨6<o) (A B:Nat) (w:World) (g0:A<4294967296) (g1:B<4294967296):
  Calls Try.prog 147 #[.int .i64 o, .int .u32 (A:Int), .int .u32 (B:Int)] w fun e w'=>e= .returned (.int .u32 ((A&&&B:Nat):Int))∧w=w':=by
 have hV:A&&&B<4294967296:=WS g1
 have h5:(o==5)=false:=by simp;omega
 have h6:(o==6)=false:=by simp;omega
 clear ho
 have HS:=κ (KU A B)
 obtain⟨V,VG⟩:∃V,V=A&&&B:=⟨_,rfl⟩
 rw [←VG] at hV HS⊢
 clear VG
 have VH:V/2^32=0:=Nat.div_eq_of_lt hV
 go_enter Try.func147,Try.ntmps147
 go_wp2
 go_loop [7,8] (fun x k=>∃j:Int,-1≤j∧j≤31∧k= .int .i64 j∧x= .int .u32 ((V/2^(j+1).toNat:Nat):Int)) (fun _ k=>(intOf k+1).toNat)
 case atStart=>exact⟨31,by omega,by omega,rfl,by rw [show((31:Int)+1).toNat=32 from rfl,VH];rfl⟩
 case round=>
  obtain⟨j,hj0,hj1,rfl,rfl⟩:=hrel
  clear VH
  by_cases hz:j<0
  ·have e0:V/2^(j+1).toNat=V:=by rw [show(j+1).toNat=0 by omega];simp
   rw [e0]
   clear e0
   go_wp2
   go_ret
   exact⟨rfl,rfl⟩
  ·have hz0:0≤j:=by omega
   clear hz
   have gZ:=HS.out j.toNat
   rw [show j.toNat+1=(j+1).toNat by omega] at gZ
   have WX:=Nat.mod_lt (A/2^j.toNat) (show 2>0 by omega)
   have BZ:=Nat.mod_lt (B/2^j.toNat) (show 2>0 by omega)
   have cp:(A:Int)/2^j.toNat%2=((A/2^j.toNat%2:Nat):Int):=by rw [Int.natCast_emod,Int.natCast_ediv,Int.natCast_pow];rfl
   have cq:(B:Int)/2^j.toNat%2=((B/2^j.toNat%2:Nat):Int):=by rw [Int.natCast_emod,Int.natCast_ediv,Int.natCast_pow];rfl
   have ha0:0≤(A:Int)/2^j.toNat:=(dA (A:Int) j.toNat (by omega)).1
   have Cc:0≤(B:Int)/2^j.toNat:=(dA (B:Int) j.toNat (by omega)).1
   obtain⟨p,hp⟩:∃p,p=A/2^j.toNat%2:=⟨_,rfl⟩
   obtain⟨q,hq⟩:∃q,q=B/2^j.toNat%2:=⟨_,rfl⟩
   rw [←hp] at cp WX gZ
   rw [←hq] at cq BZ gZ
   clear hp hq
   have hle:=Nat.div_le_self V (2^j.toNat)
   obtain⟨X,hX⟩:∃X,X=V/2^(j+1).toNat:=⟨_,rfl⟩
   obtain⟨Y,hY⟩:∃Y,Y=V/2^j.toNat:=⟨_,rfl⟩
   rw [←hX,←hY] at gZ
   rw [←hY] at hle
   rw [←hX]
   have HX:=κ hX
   have HY:=κ hY
   clear hX hY
   rcases(show(p=0∨p=1) by omega) with rfl | rfl<;>rcases(show(q=0∨q=1) by omega) with rfl | rfl
   all_goals
    have JB:2*X≤Y:=by omega
    have DJ:=κ gZ
    clear gZ
    go_wp2
    go_round
    case rel=>exact⟨j-1,by omega,by omega,rfl,by rw [show(j-1+1).toNat=j.toNat by omega,←HY.out];have:=DJ.out;go_num⟩
    case measure=>simp [intOf];omega
theorem Lj (o:Int) (ho:o=5) (A B:Nat) (w:World) (g0:A<4294967296) (g1:B<4294967296):
  Calls Try.prog 147 #[.int .i64 o, .int .u32 (A:Int), .int .u32 (B:Int)] w fun e w'=>e= .returned (.int .u32 ((A ||| B:Nat):Int))∧w=w':=by
 have hV:A ||| B<4294967296:=VF g0 g1
 have h5:(o==5)=true:=by simp [ho]
 have h6:(o==6)=false:=by simp [ho]
 clear ho
 have HS:=κ (QB A B)
 obtain⟨V,VG⟩:∃V,V=A ||| B:=⟨_,rfl⟩
 rw [←VG] at hV HS⊢
 clear VG
 have VH:V/2^32=0:=Nat.div_eq_of_lt hV
 go_enter Try.func147,Try.ntmps147
 go_wp2
 go_loop [7,8] (fun x k=>∃j:Int,-1≤j∧j≤31∧k= .int .i64 j∧x= .int .u32 ((V/2^(j+1).toNat:Nat):Int)) (fun _ k=>(intOf k+1).toNat)
 case atStart=>exact⟨31,by omega,by omega,rfl,by rw [show((31:Int)+1).toNat=32 from rfl,VH];rfl⟩
 case round=>
  obtain⟨j,hj0,hj1,rfl,rfl⟩:=hrel
  clear VH
  by_cases hz:j<0
  ·have e0:V/2^(j+1).toNat=V:=by rw [show(j+1).toNat=0 by omega];simp
   rw [e0]
   clear e0
   go_wp2
   go_ret
   exact⟨rfl,rfl⟩
  ·have hz0:0≤j:=by omega
   clear hz
   have gZ:=HS.out j.toNat
   rw [show j.toNat+1=(j+1).toNat by omega] at gZ
   have WX:=Nat.mod_lt (A/2^j.toNat) (show 2>0 by omega)
   have BZ:=Nat.mod_lt (B/2^j.toNat) (show 2>0 by omega)
   have cp:(A:Int)/2^j.toNat%2=((A/2^j.toNat%2:Nat):Int):=by rw [Int.natCast_emod,Int.natCast_ediv,Int.natCast_pow];rfl
   have cq:(B:Int)/2^j.toNat%2=((B/2^j.toNat%2:Nat):Int):=by rw [Int.natCast_emod,Int.natCast_ediv,Int.natCast_pow];rfl
   have ha0:0≤(A:Int)/2^j.toNat:=(dA (A:Int) j.toNat (by omega)).1
   have Cc:0≤(B:Int)/2^j.toNat:=(dA (B:Int) j.toNat (by omega)).1
   obtain⟨p,hp⟩:∃p,p=A/2^j.toNat%2:=⟨_,rfl⟩
   obtain⟨q,hq⟩:∃q,q=B/2^j.toNat%2:=⟨_,rfl⟩
   rw [←hp] at cp WX gZ
   rw [←hq] at cq BZ gZ
   clear hp hq
   have hle:=Nat.div_le_self V (2^j.toNat)
   obtain⟨X,hX⟩:∃X,X=V/2^(j+1).toNat:=⟨_,rfl⟩
   obtain⟨Y,hY⟩:∃Y,Y=V/2^j.toNat:=⟨_,rfl⟩
   rw [←hX,←hY] at gZ
   rw [←hY] at hle
   rw [←hX]
   have HX:=κ hX
   have HY:=κ hY
   clear hX hY
   rcases(show(p=0∨p=1) by omega) with rfl | rfl<;>rcases(show(q=0∨q=1) by omega) with rfl | rfl
   all_goals
    have JB:2*X≤Y:=by omega
    have DJ:=κ gZ
    clear gZ
    go_wp2
    go_round
    case rel=>exact⟨j-1,by omega,by omega,rfl,by rw [show(j-1+1).toNat=j.toNat by omega,←HY.out];have:=DJ.out;go_num⟩
    case measure=>simp [intOf];omega
theorem H9 (o:Int) (ho:o=6) (A B:Nat) (w:World) (g0:A<4294967296) (g1:B<4294967296):
  Calls Try.prog 147 #[.int .i64 o, .int .u32 (A:Int), .int .u32 (B:Int)] w fun e w'=>e= .returned (.int .u32 ((A^^^B:Nat):Int))∧w=w':=by
 have hV:A^^^B<4294967296:=WR g0 g1
 have h5:(o==5)=false:=by simp [ho]
 have h6:(o==6)=true:=by simp [ho]
 clear ho
 have HS:=κ (KX A B)
 obtain⟨V,VG⟩:∃V,V=A^^^B:=⟨_,rfl⟩
 rw [←VG] at hV HS⊢
 clear VG
 have VH:V/2^32=0:=Nat.div_eq_of_lt hV
 go_enter Try.func147,Try.ntmps147
 go_wp2
 go_loop [7,8] (fun x k=>∃j:Int,-1≤j∧j≤31∧k= .int .i64 j∧x= .int .u32 ((V/2^(j+1).toNat:Nat):Int)) (fun _ k=>(intOf k+1).toNat)
 case atStart=>exact⟨31,by omega,by omega,rfl,by rw [show((31:Int)+1).toNat=32 from rfl,VH];rfl⟩
 case round=>
  obtain⟨j,hj0,hj1,rfl,rfl⟩:=hrel
  clear VH
  by_cases hz:j<0
  ·have e0:V/2^(j+1).toNat=V:=by rw [show(j+1).toNat=0 by omega];simp
   rw [e0]
   clear e0
   go_wp2
   go_ret
   exact⟨rfl,rfl⟩
  ·have hz0:0≤j:=by omega
   clear hz
   have gZ:=HS.out j.toNat
   rw [show j.toNat+1=(j+1).toNat by omega] at gZ
   have WX:=Nat.mod_lt (A/2^j.toNat) (show 2>0 by omega)
   have BZ:=Nat.mod_lt (B/2^j.toNat) (show 2>0 by omega)
   have cp:(A:Int)/2^j.toNat%2=((A/2^j.toNat%2:Nat):Int):=by rw [Int.natCast_emod,Int.natCast_ediv,Int.natCast_pow];rfl
   have cq:(B:Int)/2^j.toNat%2=((B/2^j.toNat%2:Nat):Int):=by rw [Int.natCast_emod,Int.natCast_ediv,Int.natCast_pow];rfl
   have ha0:0≤(A:Int)/2^j.toNat:=(dA (A:Int) j.toNat (by omega)).1
   have Cc:0≤(B:Int)/2^j.toNat:=(dA (B:Int) j.toNat (by omega)).1
   obtain⟨p,hp⟩:∃p,p=A/2^j.toNat%2:=⟨_,rfl⟩
   obtain⟨q,hq⟩:∃q,q=B/2^j.toNat%2:=⟨_,rfl⟩
   rw [←hp] at cp WX gZ
   rw [←hq] at cq BZ gZ
   clear hp hq
   have hle:=Nat.div_le_self V (2^j.toNat)
   obtain⟨X,hX⟩:∃X,X=V/2^(j+1).toNat:=⟨_,rfl⟩
   obtain⟨Y,hY⟩:∃Y,Y=V/2^j.toNat:=⟨_,rfl⟩
   rw [←hX,←hY] at gZ
   rw [←hY] at hle
   rw [←hX]
   have HX:=κ hX
   have HY:=κ hY
   clear hX hY
   rcases(show(p=0∨p=1) by omega) with rfl | rfl<;>rcases(show(q=0∨q=1) by omega) with rfl | rfl
   all_goals
    have JB:2*X≤Y:=by omega
    have DJ:=κ gZ
    clear gZ
    go_wp2
    go_round
    case rel=>exact⟨j-1,by omega,by omega,rfl,by rw [show(j-1+1).toNat=j.toNat by omega,←HY.out];have:=DJ.out;go_num⟩
    case measure=>simp [intOf];omega
theorem iU (a b:Int) (w:World) (h0:0≤a) (g0:a<4294967296) (h1:0≤b) (g1:b<4294967296):
  Calls Try.prog 147 #[.int .i64 4, .int .u32 a, .int .u32 b] w fun e w'=>e= .returned (.int .u32 (bits .and .u32 a b))∧w=w':=by
 obtain⟨A,rfl⟩:=Int.eq_ofNat_of_zero_le h0
 obtain⟨B,rfl⟩:=Int.eq_ofNat_of_zero_le h1
 rw [u32_and_nat _ _ (by omega) (by omega)]
 exact H8 4 (by omega) A B w (by omega) (by omega)
theorem aas (a b:Int) (w:World) (h0:0≤a) (g0:a<4294967296) (h1:0≤b) (g1:b<4294967296):
  Calls Try.prog 147 #[.int .i64 5, .int .u32 a, .int .u32 b] w fun e w'=>e= .returned (.int .u32 (bits .or .u32 a b))∧w=w':=by
 obtain⟨A,rfl⟩:=Int.eq_ofNat_of_zero_le h0
 obtain⟨B,rfl⟩:=Int.eq_ofNat_of_zero_le h1
 rw [u32_or_nat _ _ (by omega) (by omega)]
 exact Lj 5 (by omega) A B w (by omega) (by omega)
theorem WY (a b:Int) (w:World) (h0:0≤a) (g0:a<4294967296) (h1:0≤b) (g1:b<4294967296):
  Calls Try.prog 147 #[.int .i64 6, .int .u32 a, .int .u32 b] w fun e w'=>e= .returned (.int .u32 (bits .xor .u32 a b))∧w=w':=by
 obtain⟨A,rfl⟩:=Int.eq_ofNat_of_zero_le h0
 obtain⟨B,rfl⟩:=Int.eq_ofNat_of_zero_le h1
 rw [u32_xor_nat _ _ (by omega) (by omega)]
 exact H9 6 (by omega) A B w (by omega) (by omega)
theorem zZ (a b f:Int) (w:World) (h0:0≤a) (g0:a<4294967296) (h1:0≤b) (g1:b<4294967296) (h2:0≤f) (g2:f<4294967296):
  Calls Try.prog 86 #[.int .i64 0, .int .u32 a, .int .u32 b, .int .u32 f] w fun e w'=>e= .returned (.tuple #[.int .u32 (uy 0 a b f), .int .u32 (wI 0 a b f), .bool (wJ 0 b)])∧w=w':=by
 go_enter Try.func86,Try.ntmps86
 go_wp2_with (first
  | (go_at_call 84;refine(bU _ _ _ _ _ (by omega) (by omega) (by omega) (by omega) (by omega) (by omega)).mono ?_;rintro e w' ⟨rfl,rfl⟩)
  | (go_at_call 141;refine(bn _ _ (by omega) (by omega)).mono ?_;rintro e w' ⟨rfl,rfl⟩)
  | (go_at_call 147;refine(iU _ _ _ (by omega) (by omega) (by omega) (by omega)).mono ?_;rintro e w' ⟨rfl,rfl⟩)
  | (go_at_call 145;refine(dH _ _ _ (by omega) (by omega) (by omega) (by omega)).mono ?_;rintro e w' ⟨rfl,rfl⟩)
  | (go_at_call 144;refine(bG _ _ _ (by omega) (by omega) (by omega) (by omega)).mono ?_;rintro e w' ⟨rfl,rfl⟩)
  | (go_at_call 146;refine(bH _ _ _ (by omega) (by omega) (by omega) (by omega)).mono ?_;rintro e w' ⟨rfl,rfl⟩)
  | (go_at_call 143;refine(aT _ _ (by omega) (by omega)).mono ?_;rintro e w' ⟨rfl,rfl⟩))
 go_ret3
 refine⟨iq ?_ ?_ ?_,rfl⟩
 all_goals(try rfl)
theorem Aa (a b f:Int) (w:World) (h0:0≤a) (g0:a<4294967296) (h1:0≤b) (g1:b<4294967296) (h2:0≤f) (g2:f<4294967296):
  Calls Try.prog 86 #[.int .i64 1, .int .u32 a, .int .u32 b, .int .u32 f] w fun e w'=>e= .returned (.tuple #[.int .u32 (uy 1 a b f), .int .u32 (wI 1 a b f), .bool (wJ 1 b)])∧w=w':=by
 go_enter Try.func86,Try.ntmps86
 go_wp2_with (first
  | (go_at_call 84;refine(bU _ _ _ _ _ (by omega) (by omega) (by omega) (by omega) (by omega) (by omega)).mono ?_;rintro e w' ⟨rfl,rfl⟩)
  | (go_at_call 141;refine(bn _ _ (by omega) (by omega)).mono ?_;rintro e w' ⟨rfl,rfl⟩)
  | (go_at_call 147;refine(iU _ _ _ (by omega) (by omega) (by omega) (by omega)).mono ?_;rintro e w' ⟨rfl,rfl⟩)
  | (go_at_call 145;refine(dH _ _ _ (by omega) (by omega) (by omega) (by omega)).mono ?_;rintro e w' ⟨rfl,rfl⟩)
  | (go_at_call 144;refine(bG _ _ _ (by omega) (by omega) (by omega) (by omega)).mono ?_;rintro e w' ⟨rfl,rfl⟩)
  | (go_at_call 146;refine(bH _ _ _ (by omega) (by omega) (by omega) (by omega)).mono ?_;rintro e w' ⟨rfl,rfl⟩)
  | (go_at_call 143;refine(aT _ _ (by omega) (by omega)).mono ?_;rintro e w' ⟨rfl,rfl⟩))
 go_ret3
 refine⟨iq ?_ ?_ ?_,rfl⟩
 all_goals(try rfl)
theorem Ac (a b f:Int) (w:World) (h0:0≤a) (g0:a<4294967296) (h1:0≤b) (g1:b<4294967296) (h2:0≤f) (g2:f<4294967296):
  Calls Try.prog 86 #[.int .i64 2, .int .u32 a, .int .u32 b, .int .u32 f] w fun e w'=>e= .returned (.tuple #[.int .u32 (uy 2 a b f), .int .u32 (wI 2 a b f), .bool (wJ 2 b)])∧w=w':=by
 go_enter Try.func86,Try.ntmps86
 go_wp2_with (first
  | (go_at_call 84;refine(bU _ _ _ _ _ (by omega) (by omega) (by omega) (by omega) (by omega) (by omega)).mono ?_;rintro e w' ⟨rfl,rfl⟩)
  | (go_at_call 141;refine(bn _ _ (by omega) (by omega)).mono ?_;rintro e w' ⟨rfl,rfl⟩)
  | (go_at_call 147;refine(iU _ _ _ (by omega) (by omega) (by omega) (by omega)).mono ?_;rintro e w' ⟨rfl,rfl⟩)
  | (go_at_call 145;refine(dH _ _ _ (by omega) (by omega) (by omega) (by omega)).mono ?_;rintro e w' ⟨rfl,rfl⟩)
  | (go_at_call 144;refine(bG _ _ _ (by omega) (by omega) (by omega) (by omega)).mono ?_;rintro e w' ⟨rfl,rfl⟩)
  | (go_at_call 146;refine(bH _ _ _ (by omega) (by omega) (by omega) (by omega)).mono ?_;rintro e w' ⟨rfl,rfl⟩)
  | (go_at_call 143;refine(aT _ _ (by omega) (by omega)).mono ?_;rintro e w' ⟨rfl,rfl⟩))
 go_ret3
 refine⟨iq ?_ ?_ ?_,rfl⟩
 all_goals(try rfl)
theorem Ad (a b f:Int) (w:World) (h0:0≤a) (g0:a<4294967296) (h1:0≤b) (g1:b<4294967296) (h2:0≤f) (g2:f<4294967296):
  Calls Try.prog 86 #[.int .i64 3, .int .u32 a, .int .u32 b, .int .u32 f] w fun e w'=>e= .returned (.tuple #[.int .u32 (uy 3 a b f), .int .u32 (wI 3 a b f), .bool (wJ 3 b)])∧w=w':=by
 go_enter Try.func86,Try.ntmps86
 go_wp2_with (first
  | (go_at_call 84;refine(bU _ _ _ _ _ (by omega) (by omega) (by omega) (by omega) (by omega) (by omega)).mono ?_;rintro e w' ⟨rfl,rfl⟩)
  | (go_at_call 141;refine(bn _ _ (by omega) (by omega)).mono ?_;rintro e w' ⟨rfl,rfl⟩)
  | (go_at_call 147;refine(iU _ _ _ (by omega) (by omega) (by omega) (by omega)).mono ?_;rintro e w' ⟨rfl,rfl⟩)
  | (go_at_call 145;refine(dH _ _ _ (by omega) (by omega) (by omega) (by omega)).mono ?_;rintro e w' ⟨rfl,rfl⟩)
  | (go_at_call 144;refine(bG _ _ _ (by omega) (by omega) (by omega) (by omega)).mono ?_;rintro e w' ⟨rfl,rfl⟩)
  | (go_at_call 146;refine(bH _ _ _ (by omega) (by omega) (by omega) (by omega)).mono ?_;rintro e w' ⟨rfl,rfl⟩)
  | (go_at_call 143;refine(aT _ _ (by omega) (by omega)).mono ?_;rintro e w' ⟨rfl,rfl⟩))
 go_ret3
 refine⟨iq ?_ ?_ ?_,rfl⟩
 all_goals(try rfl)
theorem Ae (a b f:Int) (w:World) (h0:0≤a) (g0:a<4294967296) (h1:0≤b) (g1:b<4294967296) (h2:0≤f) (g2:f<4294967296):
  Calls Try.prog 86 #[.int .i64 4, .int .u32 a, .int .u32 b, .int .u32 f] w fun e w'=>e= .returned (.tuple #[.int .u32 (uy 4 a b f), .int .u32 (wI 4 a b f), .bool (wJ 4 b)])∧w=w':=by
 have bb:=lZ .and a b h0 g0 h1 g1
 go_enter Try.func86,Try.ntmps86
 go_wp2_with (first
  | (go_at_call 84;refine(bU _ _ _ _ _ (by omega) (by omega) (by omega) (by omega) (by omega) (by omega)).mono ?_;rintro e w' ⟨rfl,rfl⟩)
  | (go_at_call 141;refine(bn _ _ (by omega) (by omega)).mono ?_;rintro e w' ⟨rfl,rfl⟩)
  | (go_at_call 147;refine(iU _ _ _ (by omega) (by omega) (by omega) (by omega)).mono ?_;rintro e w' ⟨rfl,rfl⟩)
  | (go_at_call 145;refine(dH _ _ _ (by omega) (by omega) (by omega) (by omega)).mono ?_;rintro e w' ⟨rfl,rfl⟩)
  | (go_at_call 144;refine(bG _ _ _ (by omega) (by omega) (by omega) (by omega)).mono ?_;rintro e w' ⟨rfl,rfl⟩)
  | (go_at_call 146;refine(bH _ _ _ (by omega) (by omega) (by omega) (by omega)).mono ?_;rintro e w' ⟨rfl,rfl⟩)
  | (go_at_call 143;refine(aT _ _ (by omega) (by omega)).mono ?_;rintro e w' ⟨rfl,rfl⟩))
 go_ret3
 refine⟨iq ?_ ?_ ?_,rfl⟩
 all_goals(try rfl)
theorem Af (a b f:Int) (w:World) (h0:0≤a) (g0:a<4294967296) (h1:0≤b) (g1:b<4294967296) (h2:0≤f) (g2:f<4294967296):
  Calls Try.prog 86 #[.int .i64 5, .int .u32 a, .int .u32 b, .int .u32 f] w fun e w'=>e= .returned (.tuple #[.int .u32 (uy 5 a b f), .int .u32 (wI 5 a b f), .bool (wJ 5 b)])∧w=w':=by
 have bb:=lZ .or a b h0 g0 h1 g1
 go_enter Try.func86,Try.ntmps86
 go_wp2_with (first
  | (go_at_call 84;refine(bU _ _ _ _ _ (by omega) (by omega) (by omega) (by omega) (by omega) (by omega)).mono ?_;rintro e w' ⟨rfl,rfl⟩)
  | (go_at_call 141;refine(bn _ _ (by omega) (by omega)).mono ?_;rintro e w' ⟨rfl,rfl⟩)
  | (go_at_call 147;refine(aas _ _ _ (by omega) (by omega) (by omega) (by omega)).mono ?_;rintro e w' ⟨rfl,rfl⟩)
  | (go_at_call 145;refine(dH _ _ _ (by omega) (by omega) (by omega) (by omega)).mono ?_;rintro e w' ⟨rfl,rfl⟩)
  | (go_at_call 144;refine(bG _ _ _ (by omega) (by omega) (by omega) (by omega)).mono ?_;rintro e w' ⟨rfl,rfl⟩)
  | (go_at_call 146;refine(bH _ _ _ (by omega) (by omega) (by omega) (by omega)).mono ?_;rintro e w' ⟨rfl,rfl⟩)
  | (go_at_call 143;refine(aT _ _ (by omega) (by omega)).mono ?_;rintro e w' ⟨rfl,rfl⟩))
 go_ret3
 refine⟨iq ?_ ?_ ?_,rfl⟩
 all_goals(try rfl)
theorem Ag (a b f:Int) (w:World) (h0:0≤a) (g0:a<4294967296) (h1:0≤b) (g1:b<4294967296) (h2:0≤f) (g2:f<4294967296):
  Calls Try.prog 86 #[.int .i64 6, .int .u32 a, .int .u32 b, .int .u32 f] w fun e w'=>e= .returned (.tuple #[.int .u32 (uy 6 a b f), .int .u32 (wI 6 a b f), .bool (wJ 6 b)])∧w=w':=by
 have bb:=lZ .xor a b h0 g0 h1 g1
 go_enter Try.func86,Try.ntmps86
 go_wp2_with (first
  | (go_at_call 84;refine(bU _ _ _ _ _ (by omega) (by omega) (by omega) (by omega) (by omega) (by omega)).mono ?_;rintro e w' ⟨rfl,rfl⟩)
  | (go_at_call 141;refine(bn _ _ (by omega) (by omega)).mono ?_;rintro e w' ⟨rfl,rfl⟩)
  | (go_at_call 147;refine(WY _ _ _ (by omega) (by omega) (by omega) (by omega)).mono ?_;rintro e w' ⟨rfl,rfl⟩)
  | (go_at_call 145;refine(dH _ _ _ (by omega) (by omega) (by omega) (by omega)).mono ?_;rintro e w' ⟨rfl,rfl⟩)
  | (go_at_call 144;refine(bG _ _ _ (by omega) (by omega) (by omega) (by omega)).mono ?_;rintro e w' ⟨rfl,rfl⟩)
  | (go_at_call 146;refine(bH _ _ _ (by omega) (by omega) (by omega) (by omega)).mono ?_;rintro e w' ⟨rfl,rfl⟩)
  | (go_at_call 143;refine(aT _ _ (by omega) (by omega)).mono ?_;rintro e w' ⟨rfl,rfl⟩))
 go_ret3
 refine⟨iq ?_ ?_ ?_,rfl⟩
 all_goals(try rfl)
theorem Ah (a b f:Int) (w:World) (h0:0≤a) (g0:a<4294967296) (h1:0≤b) (g1:b<4294967296) (h2:0≤f) (g2:f<4294967296):
  Calls Try.prog 86 #[.int .i64 7, .int .u32 a, .int .u32 b, .int .u32 f] w fun e w'=>e= .returned (.tuple #[.int .u32 (uy 7 a b f), .int .u32 (wI 7 a b f), .bool (wJ 7 b)])∧w=w':=by
 go_enter Try.func86,Try.ntmps86
 go_wp2_with (first
  | (go_at_call 84;refine(bU _ _ _ _ _ (by omega) (by omega) (by omega) (by omega) (by omega) (by omega)).mono ?_;rintro e w' ⟨rfl,rfl⟩)
  | (go_at_call 141;refine(bn _ _ (by omega) (by omega)).mono ?_;rintro e w' ⟨rfl,rfl⟩)
  | (go_at_call 147;refine(iU _ _ _ (by omega) (by omega) (by omega) (by omega)).mono ?_;rintro e w' ⟨rfl,rfl⟩)
  | (go_at_call 145;refine(dH _ _ _ (by omega) (by omega) (by omega) (by omega)).mono ?_;rintro e w' ⟨rfl,rfl⟩)
  | (go_at_call 144;refine(bG _ _ _ (by omega) (by omega) (by omega) (by omega)).mono ?_;rintro e w' ⟨rfl,rfl⟩)
  | (go_at_call 146;refine(bH _ _ _ (by omega) (by omega) (by omega) (by omega)).mono ?_;rintro e w' ⟨rfl,rfl⟩)
  | (go_at_call 143;refine(aT _ _ (by omega) (by omega)).mono ?_;rintro e w' ⟨rfl,rfl⟩))
 go_ret3
 refine⟨iq ?_ ?_ ?_,rfl⟩
 all_goals(try rfl)
theorem Ai (a b f:Int) (w:World) (h0:0≤a) (g0:a<4294967296) (h1:0≤b) (g1:b<4294967296) (h2:0≤f) (g2:f<4294967296):
  Calls Try.prog 86 #[.int .i64 8, .int .u32 a, .int .u32 b, .int .u32 f] w fun e w'=>e= .returned (.tuple #[.int .u32 (uy 8 a b f), .int .u32 (wI 8 a b f), .bool (wJ 8 b)])∧w=w':=by
 have bb:=lZ .and a b h0 g0 h1 g1
 go_enter Try.func86,Try.ntmps86
 go_wp2_with (first
  | (go_at_call 84;refine(bU _ _ _ _ _ (by omega) (by omega) (by omega) (by omega) (by omega) (by omega)).mono ?_;rintro e w' ⟨rfl,rfl⟩)
  | (go_at_call 141;refine(bn _ _ (by omega) (by omega)).mono ?_;rintro e w' ⟨rfl,rfl⟩)
  | (go_at_call 147;refine(iU _ _ _ (by omega) (by omega) (by omega) (by omega)).mono ?_;rintro e w' ⟨rfl,rfl⟩)
  | (go_at_call 145;refine(dH _ _ _ (by omega) (by omega) (by omega) (by omega)).mono ?_;rintro e w' ⟨rfl,rfl⟩)
  | (go_at_call 144;refine(bG _ _ _ (by omega) (by omega) (by omega) (by omega)).mono ?_;rintro e w' ⟨rfl,rfl⟩)
  | (go_at_call 146;refine(bH _ _ _ (by omega) (by omega) (by omega) (by omega)).mono ?_;rintro e w' ⟨rfl,rfl⟩)
  | (go_at_call 143;refine(aT _ _ (by omega) (by omega)).mono ?_;rintro e w' ⟨rfl,rfl⟩))
 go_ret3
 refine⟨iq ?_ ?_ ?_,rfl⟩
 all_goals(try rfl)
theorem Aj (a b f:Int) (w:World) (h0:0≤a) (g0:a<4294967296) (h1:0≤b) (g1:b<4294967296) (h2:0≤f) (g2:f<4294967296):
  Calls Try.prog 86 #[.int .i64 9, .int .u32 a, .int .u32 b, .int .u32 f] w fun e w'=>e= .returned (.tuple #[.int .u32 (uy 9 a b f), .int .u32 (wI 9 a b f), .bool (wJ 9 b)])∧w=w':=by
 have d5:=jX a (b%32).toNat h0 g0 (by omega)
 go_enter Try.func86,Try.ntmps86
 go_wp2_with (first
  | (go_at_call 84;refine(bU _ _ _ _ _ (by omega) (by omega) (by omega) (by omega) (by omega) (by omega)).mono ?_;rintro e w' ⟨rfl,rfl⟩)
  | (go_at_call 141;refine(bn _ _ (by omega) (by omega)).mono ?_;rintro e w' ⟨rfl,rfl⟩)
  | (go_at_call 147;refine(iU _ _ _ (by omega) (by omega) (by omega) (by omega)).mono ?_;rintro e w' ⟨rfl,rfl⟩)
  | (go_at_call 145;refine(dH _ _ _ (by omega) (by omega) (by omega) (by omega)).mono ?_;rintro e w' ⟨rfl,rfl⟩)
  | (go_at_call 144;refine(bG _ _ _ (by omega) (by omega) (by omega) (by omega)).mono ?_;rintro e w' ⟨rfl,rfl⟩)
  | (go_at_call 146;refine(bH _ _ _ (by omega) (by omega) (by omega) (by omega)).mono ?_;rintro e w' ⟨rfl,rfl⟩)
  | (go_at_call 143;refine(aT _ _ (by omega) (by omega)).mono ?_;rintro e w' ⟨rfl,rfl⟩))
 go_ret3
 refine⟨iq ?_ ?_ ?_,rfl⟩
 all_goals(try rfl)
theorem xB (a b f:Int) (w:World) (h0:0≤a) (g0:a<4294967296) (h1:0≤b) (g1:b<4294967296) (h2:0≤f) (g2:f<4294967296):
  Calls Try.prog 86 #[.int .i64 10, .int .u32 a, .int .u32 b, .int .u32 f] w fun e w'=>e= .returned (.tuple #[.int .u32 (uy 10 a b f), .int .u32 (wI 10 a b f), .bool (wJ 10 b)])∧w=w':=by
 have d1:=dA a (b%32).toNat h0
 go_enter Try.func86,Try.ntmps86
 go_wp2_with (first
  | (go_at_call 84;refine(bU _ _ _ _ _ (by omega) (by omega) (by omega) (by omega) (by omega) (by omega)).mono ?_;rintro e w' ⟨rfl,rfl⟩)
  | (go_at_call 141;refine(bn _ _ (by omega) (by omega)).mono ?_;rintro e w' ⟨rfl,rfl⟩)
  | (go_at_call 147;refine(iU _ _ _ (by omega) (by omega) (by omega) (by omega)).mono ?_;rintro e w' ⟨rfl,rfl⟩)
  | (go_at_call 145;refine(dH _ _ _ (by omega) (by omega) (by omega) (by omega)).mono ?_;rintro e w' ⟨rfl,rfl⟩)
  | (go_at_call 144;refine(bG _ _ _ (by omega) (by omega) (by omega) (by omega)).mono ?_;rintro e w' ⟨rfl,rfl⟩)
  | (go_at_call 146;refine(bH _ _ _ (by omega) (by omega) (by omega) (by omega)).mono ?_;rintro e w' ⟨rfl,rfl⟩)
  | (go_at_call 143;refine(aT _ _ (by omega) (by omega)).mono ?_;rintro e w' ⟨rfl,rfl⟩))
 go_ret3
 refine⟨iq ?_ ?_ ?_,rfl⟩
 all_goals(try rfl)
theorem xC (a b f:Int) (w:World) (h0:0≤a) (g0:a<4294967296) (h1:0≤b) (g1:b<4294967296) (h2:0≤f) (g2:f<4294967296):
  Calls Try.prog 86 #[.int .i64 11, .int .u32 a, .int .u32 b, .int .u32 f] w fun e w'=>e= .returned (.tuple #[.int .u32 (uy 11 a b f), .int .u32 (wI 11 a b f), .bool (wJ 11 b)])∧w=w':=by
 have sa: -2147483648≤sg a∧sg a<2147483648:=by unfold sg;split<;>omega
 have JE:=sa.1
 have JF:=sa.2
 clear sa
 have d6:=eX (sg a) (b%32).toNat (by omega) (by omega)
 go_enter Try.func86,Try.ntmps86
 go_wp2_with (first
  | (go_at_call 84;refine(bU _ _ _ _ _ (by omega) (by omega) (by omega) (by omega) (by omega) (by omega)).mono ?_;rintro e w' ⟨rfl,rfl⟩)
  | (go_at_call 141;refine(bn _ _ (by omega) (by omega)).mono ?_;rintro e w' ⟨rfl,rfl⟩)
  | (go_at_call 147;refine(iU _ _ _ (by omega) (by omega) (by omega) (by omega)).mono ?_;rintro e w' ⟨rfl,rfl⟩)
  | (go_at_call 145;refine(dH _ _ _ (by omega) (by omega) (by omega) (by omega)).mono ?_;rintro e w' ⟨rfl,rfl⟩)
  | (go_at_call 144;refine(bG _ _ _ (by omega) (by omega) (by omega) (by omega)).mono ?_;rintro e w' ⟨rfl,rfl⟩)
  | (go_at_call 146;refine(bH _ _ _ (by omega) (by omega) (by omega) (by omega)).mono ?_;rintro e w' ⟨rfl,rfl⟩)
  | (go_at_call 143;refine(aT _ _ (by omega) (by omega)).mono ?_;rintro e w' ⟨rfl,rfl⟩))
 go_ret3
 refine⟨iq ?_ ?_ ?_,rfl⟩
 all_goals(try rfl)
theorem xE (a b f:Int) (w:World) (h0:0≤a) (g0:a<4294967296) (h1:0≤b) (g1:b<4294967296) (h2:0≤f) (g2:f<4294967296):
  Calls Try.prog 86 #[.int .i64 12, .int .u32 a, .int .u32 b, .int .u32 f] w fun e w'=>e= .returned (.tuple #[.int .u32 (uy 12 a b f), .int .u32 (wI 12 a b f), .bool (wJ 12 b)])∧w=w':=by
 have d4:=nR a (b%32).toNat (by omega) h0 g0
 go_enter Try.func86,Try.ntmps86
 go_wp2_with (first
  | (go_at_call 84;refine(bU _ _ _ _ _ (by omega) (by omega) (by omega) (by omega) (by omega) (by omega)).mono ?_;rintro e w' ⟨rfl,rfl⟩)
  | (go_at_call 141;refine(bn _ _ (by omega) (by omega)).mono ?_;rintro e w' ⟨rfl,rfl⟩)
  | (go_at_call 147;refine(iU _ _ _ (by omega) (by omega) (by omega) (by omega)).mono ?_;rintro e w' ⟨rfl,rfl⟩)
  | (go_at_call 145;refine(dH _ _ _ (by omega) (by omega) (by omega) (by omega)).mono ?_;rintro e w' ⟨rfl,rfl⟩)
  | (go_at_call 144;refine(bG _ _ _ (by omega) (by omega) (by omega) (by omega)).mono ?_;rintro e w' ⟨rfl,rfl⟩)
  | (go_at_call 146;refine(bH _ _ _ (by omega) (by omega) (by omega) (by omega)).mono ?_;rintro e w' ⟨rfl,rfl⟩)
  | (go_at_call 143;refine(aT _ _ (by omega) (by omega)).mono ?_;rintro e w' ⟨rfl,rfl⟩))
 go_ret3
 refine⟨iq ?_ ?_ ?_,rfl⟩
 all_goals(try rfl)
theorem xG (a b f:Int) (w:World) (h0:0≤a) (g0:a<4294967296) (h1:0≤b) (g1:b<4294967296) (h2:0≤f) (g2:f<4294967296):
  Calls Try.prog 86 #[.int .i64 13, .int .u32 a, .int .u32 b, .int .u32 f] w fun e w'=>e= .returned (.tuple #[.int .u32 (uy 13 a b f), .int .u32 (wI 13 a b f), .bool (wJ 13 b)])∧w=w':=by
 have hm:0≤a*b:=Int.mul_nonneg h0 h1
 have Hq:a*b<18446744065119617026:=by
  have h:a*b≤4294967295*4294967295:=Int.mul_le_mul (by omega) (by omega) h1 (by omega)
  omega
 go_enter Try.func86,Try.ntmps86
 go_wp2_with (first
  | (go_at_call 84;refine(bU _ _ _ _ _ (by omega) (by omega) (by omega) (by omega) (by omega) (by omega)).mono ?_;rintro e w' ⟨rfl,rfl⟩)
  | (go_at_call 141;refine(bn _ _ (by omega) (by omega)).mono ?_;rintro e w' ⟨rfl,rfl⟩)
  | (go_at_call 147;refine(iU _ _ _ (by omega) (by omega) (by omega) (by omega)).mono ?_;rintro e w' ⟨rfl,rfl⟩)
  | (go_at_call 145;refine(dH _ _ _ (by omega) (by omega) (by omega) (by omega)).mono ?_;rintro e w' ⟨rfl,rfl⟩)
  | (go_at_call 144;refine(bG _ _ _ (by omega) (by omega) (by omega) (by omega)).mono ?_;rintro e w' ⟨rfl,rfl⟩)
  | (go_at_call 146;refine(bH _ _ _ (by omega) (by omega) (by omega) (by omega)).mono ?_;rintro e w' ⟨rfl,rfl⟩)
  | (go_at_call 143;refine(aT _ _ (by omega) (by omega)).mono ?_;rintro e w' ⟨rfl,rfl⟩))
 go_ret3
 refine⟨iq ?_ ?_ ?_,rfl⟩
 all_goals(try rfl)
theorem Ia (a b f:Int) (w:World) (h0:0≤a) (g0:a<4294967296) (h1:0≤b) (g1:b<4294967296) (h2:0≤f) (g2:f<4294967296) (hb:1≤b):
  Calls Try.prog 86 #[.int .i64 14, .int .u32 a, .int .u32 b, .int .u32 f] w fun e w'=>e= .returned (.tuple #[.int .u32 (uy 14 a b f), .int .u32 (wI 14 a b f), .bool (wJ 14 b)])∧w=w':=by
 have bb:0≤a/b∧a/b≤a:=⟨Int.ediv_nonneg h0 h1,Int.ediv_le_self _ h0⟩
 go_enter Try.func86,Try.ntmps86
 go_wp2_with (first
  | (go_at_call 84;refine(bU _ _ _ _ _ (by omega) (by omega) (by omega) (by omega) (by omega) (by omega)).mono ?_;rintro e w' ⟨rfl,rfl⟩)
  | (go_at_call 141;refine(bn _ _ (by omega) (by omega)).mono ?_;rintro e w' ⟨rfl,rfl⟩)
  | (go_at_call 147;refine(iU _ _ _ (by omega) (by omega) (by omega) (by omega)).mono ?_;rintro e w' ⟨rfl,rfl⟩)
  | (go_at_call 145;refine(dH _ _ _ (by omega) (by omega) (by omega) (by omega)).mono ?_;rintro e w' ⟨rfl,rfl⟩)
  | (go_at_call 144;refine(bG _ _ _ (by omega) (by omega) (by omega) (by omega)).mono ?_;rintro e w' ⟨rfl,rfl⟩)
  | (go_at_call 146;refine(bH _ _ _ (by omega) (by omega) (by omega) (by omega)).mono ?_;rintro e w' ⟨rfl,rfl⟩)
  | (go_at_call 143;refine(aT _ _ (by omega) (by omega)).mono ?_;rintro e w' ⟨rfl,rfl⟩))
 go_ret3
 refine⟨iq ?_ ?_ ?_,rfl⟩
 all_goals(try rfl)
 ·show a/b=if b=0 then 0 else a/b
  rw [if_neg (by omega)]
 ·show zn (a/b)=if b=0 then 0 else zn (a/b)
  rw [if_neg (by omega)]
 ·show true= !(decide (b=0))
  rw [decide_eq_false (by omega)];rfl
theorem Ib (a b f:Int) (w:World) (h0:0≤a) (g0:a<4294967296) (h1:0≤b) (g1:b<4294967296) (h2:0≤f) (g2:f<4294967296) (hb:1≤b):
  Calls Try.prog 86 #[.int .i64 15, .int .u32 a, .int .u32 b, .int .u32 f] w fun e w'=>e= .returned (.tuple #[.int .u32 (uy 15 a b f), .int .u32 (wI 15 a b f), .bool (wJ 15 b)])∧w=w':=by
 have bb:0≤a%b∧a%b<b:=⟨Int.emod_nonneg _ (by omega),Int.emod_lt_of_pos _ (by omega)⟩
 go_enter Try.func86,Try.ntmps86
 go_wp2_with (first
  | (go_at_call 84;refine(bU _ _ _ _ _ (by omega) (by omega) (by omega) (by omega) (by omega) (by omega)).mono ?_;rintro e w' ⟨rfl,rfl⟩)
  | (go_at_call 141;refine(bn _ _ (by omega) (by omega)).mono ?_;rintro e w' ⟨rfl,rfl⟩)
  | (go_at_call 147;refine(iU _ _ _ (by omega) (by omega) (by omega) (by omega)).mono ?_;rintro e w' ⟨rfl,rfl⟩)
  | (go_at_call 145;refine(dH _ _ _ (by omega) (by omega) (by omega) (by omega)).mono ?_;rintro e w' ⟨rfl,rfl⟩)
  | (go_at_call 144;refine(bG _ _ _ (by omega) (by omega) (by omega) (by omega)).mono ?_;rintro e w' ⟨rfl,rfl⟩)
  | (go_at_call 146;refine(bH _ _ _ (by omega) (by omega) (by omega) (by omega)).mono ?_;rintro e w' ⟨rfl,rfl⟩)
  | (go_at_call 143;refine(aT _ _ (by omega) (by omega)).mono ?_;rintro e w' ⟨rfl,rfl⟩))
 go_ret3
 refine⟨iq ?_ ?_ ?_,rfl⟩
 all_goals(try rfl)
 ·show a%b=if b=0 then 0 else a%b
  rw [if_neg (by omega)]
 ·show zn (a%b)=if b=0 then 0 else zn (a%b)
  rw [if_neg (by omega)]
 ·show true= !(decide (b=0))
  rw [decide_eq_false (by omega)];rfl
theorem DL (o:Int) (h:o<0∨15<o) (a b f:Int) (w:World) (h0:0≤a) (g0:a<4294967296) (h1:0≤b) (g1:b<4294967296) (h2:0≤f) (g2:f<4294967296):
  Calls Try.prog 86 #[.int .i64 o, .int .u32 a, .int .u32 b, .int .u32 f] w fun e w'=>e= .returned (.tuple #[.int .u32 (uy o a b f), .int .u32 (wI o a b f), .bool (wJ o b)])∧w=w':=by
 have H:=κ (WW o a b f h)
 have k14:(o !=14)=true:=by rw [bne_iff_ne];omega
 have k15:(o !=15)=true:=by rw [bne_iff_ne];omega
 rcases h with h | h
 all_goals
  go_enter Try.func86,Try.ntmps86
  go_wp2_with fail
  go_ret3
  exact⟨by rw [H.out.1,H.out.2.1,H.out.2.2];rfl,rfl⟩
theorem Ak (o:Int) (h:o=14∨o=15) (a f:Int) (w:World) (h0:0≤a) (g0:a<4294967296) (h2:0≤f) (g2:f<4294967296):
  Calls Try.prog 86 #[.int .i64 o, .int .u32 a, .int .u32 0, .int .u32 f] w fun e w'=>e= .returned (.tuple #[.int .u32 (uy o a 0 f), .int .u32 (wI o a 0 f), .bool (wJ o 0)])∧w=w':=by
 have H:=κ (QO o a f h)
 rcases h with rfl | rfl
 all_goals
  go_enter Try.func86,Try.ntmps86
  go_wp2_with fail
  go_ret3
  exact⟨by rw [H.out.1,H.out.2.1,H.out.2.2];rfl,rfl⟩
theorem bT (o:Int) (a b f:Int) (w:World) (h0:0≤a) (g0:a<4294967296) (h1:0≤b) (g1:b<4294967296) (h2:0≤f) (g2:f<4294967296):
  Calls Try.prog 86 #[.int .i64 o, .int .u32 a, .int .u32 b, .int .u32 f] w fun e w'=>e= .returned (.tuple #[.int .u32 (uy o a b f), .int .u32 (wI o a b f), .bool (wJ o b)])∧w=w':=by
 by_cases hb:o<0∨15<o
 ·exact DL o hb a b f w h0 g0 h1 g1 h2 g2
 by_cases hz:b=0
 ·by_cases ho:o=14∨o=15
  ·subst hz;exact Ak o ho a f w h0 g0 h2 g2
  ·rcases(show o=0∨o=1∨o=2∨o=3∨o=4∨o=5∨o=6∨o=7∨o=8∨o=9∨o=10∨o=11∨o=12∨o=13 by omega) with rfl | rfl | rfl | rfl | rfl | rfl | rfl | rfl | rfl | rfl | rfl | rfl | rfl | rfl
   ·exact zZ a b f w h0 g0 h1 g1 h2 g2
   ·exact Aa a b f w h0 g0 h1 g1 h2 g2
   ·exact Ac a b f w h0 g0 h1 g1 h2 g2
   ·exact Ad a b f w h0 g0 h1 g1 h2 g2
   ·exact Ae a b f w h0 g0 h1 g1 h2 g2
   ·exact Af a b f w h0 g0 h1 g1 h2 g2
   ·exact Ag a b f w h0 g0 h1 g1 h2 g2
   ·exact Ah a b f w h0 g0 h1 g1 h2 g2
   ·exact Ai a b f w h0 g0 h1 g1 h2 g2
   ·exact Aj a b f w h0 g0 h1 g1 h2 g2
   ·exact xB a b f w h0 g0 h1 g1 h2 g2
   ·exact xC a b f w h0 g0 h1 g1 h2 g2
   ·exact xE a b f w h0 g0 h1 g1 h2 g2
   ·exact xG a b f w h0 g0 h1 g1 h2 g2
 ·rcases(show o=0∨o=1∨o=2∨o=3∨o=4∨o=5∨o=6∨o=7∨o=8∨o=9∨o=10∨o=11∨o=12∨o=13∨o=14∨o=15 by omega) with rfl | rfl | rfl | rfl | rfl | rfl | rfl | rfl | rfl | rfl | rfl | rfl | rfl | rfl | rfl | rfl
  ·exact zZ a b f w h0 g0 h1 g1 h2 g2
  ·exact Aa a b f w h0 g0 h1 g1 h2 g2
  ·exact Ac a b f w h0 g0 h1 g1 h2 g2
  ·exact Ad a b f w h0 g0 h1 g1 h2 g2
  ·exact Ae a b f w h0 g0 h1 g1 h2 g2
  ·exact Af a b f w h0 g0 h1 g1 h2 g2
  ·exact Ag a b f w h0 g0 h1 g1 h2 g2
  ·exact Ah a b f w h0 g0 h1 g1 h2 g2
  ·exact Ai a b f w h0 g0 h1 g1 h2 g2
  ·exact Aj a b f w h0 g0 h1 g1 h2 g2
  ·exact xB a b f w h0 g0 h1 g1 h2 g2
  ·exact xC a b f w h0 g0 h1 g1 h2 g2
  ·exact xE a b f w h0 g0 h1 g1 h2 g2
  ·exact xG a b f w h0 g0 h1 g1 h2 g2
  ·exact Ia a b f w h0 g0 h1 g1 h2 g2 (by omega)
  ·exact Ib a b f w h0 g0 h1 g1 h2 g2 (by omega)
end Go.Proofs.Ytcjcmnnhmajocab.Fl
