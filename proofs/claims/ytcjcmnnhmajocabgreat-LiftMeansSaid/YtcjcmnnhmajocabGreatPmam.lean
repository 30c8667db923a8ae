import Derived.Test.YtcjcmnnhmajocabGreatPmal
set_option linter.unusedVariables false
set_option linter.unusedSimpArgs false
set_option maxRecDepth 100000
set_option maxHeartbeats 16000000
namespace Go.Proofs.YtcjcmnnhmajocabGreat.Ev
open Go.RowKit Kt Me Fl
theorem ZR (a:Int) (w:World) (h0:0≤a) (g0:a<4294967296):
  Calls Tryz.prog 150 #[.int .i64 0, .int .u32 a] w fun e w'=>e= .returned (.int .u32 (uQ 0 a))∧w=w':=by
 go_enter Tryz.func150,Tryz.ntmps150
 go_wp2_with (go_at_call 152;(with_reducible refine(bD _ _).mono ?_);rintro e w' ⟨rfl,rfl⟩)
 go_ret
 exact⟨rfl,rfl⟩
theorem ZT (a:Int) (w:World) (h0:0≤a) (g0:a<4294967296):
  Calls Tryz.prog 150 #[.int .i64 1, .int .u32 a] w fun e w'=>e= .returned (.int .u32 (uQ 1 a))∧w=w':=by
 go_enter Tryz.func150,Tryz.ntmps150
 go_wp2_with (go_at_call 152;(with_reducible refine(bD _ _).mono ?_);rintro e w' ⟨rfl,rfl⟩)
 go_ret
 first | exact⟨rfl,rfl⟩ | exact⟨dP (by show _=(-a)%4294967296;omega),rfl⟩
theorem ZU (a:Int) (w:World) (h0:0≤a) (g0:a<4294967296):
  Calls Tryz.prog 150 #[.int .i64 2, .int .u32 a] w fun e w'=>e= .returned (.int .u32 (uQ 2 a))∧w=w':=by
 by_cases hx:128≤a%256
 ·have e:uQ 2 a=a%256+4294967040:=by show(if 128≤a%256 then a%256+4294967040 else a%256)=_;rw [if_pos hx]
  rw [e]
  clear e
  go_enter Tryz.func150,Tryz.ntmps150
  go_wp2_with (go_at_call 152;(with_reducible refine(bD _ _).mono ?_);rintro e w' ⟨rfl,rfl⟩)
  go_ret
  first | exact⟨rfl,rfl⟩ | exact⟨dP (by simp),rfl⟩
 ·have e:uQ 2 a=a%256:=by show(if 128≤a%256 then a%256+4294967040 else a%256)=_;rw [if_neg hx]
  rw [e]
  clear e
  go_enter Tryz.func150,Tryz.ntmps150
  go_wp2_with (go_at_call 152;(with_reducible refine(bD _ _).mono ?_);rintro e w' ⟨rfl,rfl⟩)
  go_ret
  first | exact⟨rfl,rfl⟩ | exact⟨dP (by simp),rfl⟩
theorem ZV (a:Int) (w:World) (h0:0≤a) (g0:a<4294967296):
  Calls Tryz.prog 150 #[.int .i64 3, .int .u32 a] w fun e w'=>e= .returned (.int .u32 (uQ 3 a))∧w=w':=by
 by_cases hx:32768≤a%65536
 ·have e:uQ 3 a=a%65536+4294901760:=by show(if 32768≤a%65536 then a%65536+4294901760 else a%65536)=_;rw [if_pos hx]
  rw [e]
  clear e
  go_enter Tryz.func150,Tryz.ntmps150
  go_wp2_with (go_at_call 152;(with_reducible refine(bD _ _).mono ?_);rintro e w' ⟨rfl,rfl⟩)
  go_ret
  first | exact⟨rfl,rfl⟩ | exact⟨dP (by simp),rfl⟩
 ·have e:uQ 3 a=a%65536:=by show(if 32768≤a%65536 then a%65536+4294901760 else a%65536)=_;rw [if_neg hx]
  rw [e]
  clear e
  go_enter Tryz.func150,Tryz.ntmps150
  go_wp2_with (go_at_call 152;(with_reducible refine(bD _ _).mono ?_);rintro e w' ⟨rfl,rfl⟩)
  go_ret
  first | exact⟨rfl,rfl⟩ | exact⟨dP (by simp),rfl⟩
theorem ZW (a:Int) (w:World) (h0:0≤a) (g0:a<4294967296):
  Calls Tryz.prog 150 #[.int .i64 4, .int .u32 a] w fun e w'=>e= .returned (.int .u32 (uQ 4 a))∧w=w':=by
 go_enter Tryz.func150,Tryz.ntmps150
 go_wp2_with (go_at_call 152;(with_reducible refine(bD _ _).mono ?_);rintro e w' ⟨rfl,rfl⟩)
 go_ret
 exact⟨rfl,rfl⟩
theorem ZX (a:Int) (w:World) (h0:0≤a) (g0:a<4294967296):
  Calls Tryz.prog 150 #[.int .i64 5, .int .u32 a] w fun e w'=>e= .returned (.int .u32 (uQ 5 a))∧w=w':=by
 go_enter Tryz.func150,Tryz.ntmps150
 go_wp2_with (go_at_call 152;(with_reducible refine(bD _ _).mono ?_);rintro e w' ⟨rfl,rfl⟩)
 go_ret
 exact⟨rfl,rfl⟩
theorem ZY (a:Int) (w:World) (h0:0≤a) (g0:a<4294967296):
  Calls Tryz.prog 150 #[.int .i64 6, .int .u32 a] w fun e w'=>e= .returned (.int .u32 (uQ 6 a))∧w=w':=by
 by_cases hx:a=0
 ·have e:uQ 6 a=1:=by show(if a=0 then 1 else 0)=_;rw [if_pos hx]
  rw [e]
  clear e
  go_enter Tryz.func150,Tryz.ntmps150
  go_wp2_with (go_at_call 152;(with_reducible refine(bD _ _).mono ?_);rintro e w' ⟨rfl,rfl⟩)
  go_ret
  first | exact⟨rfl,rfl⟩ | exact⟨dP (by simp),rfl⟩
 ·have e:uQ 6 a=0:=by show(if a=0 then 1 else 0)=_;rw [if_neg hx]
  rw [e]
  clear e
  go_enter Tryz.func150,Tryz.ntmps150
  go_wp2_with (go_at_call 152;(with_reducible refine(bD _ _).mono ?_);rintro e w' ⟨rfl,rfl⟩)
  go_ret
  first | exact⟨rfl,rfl⟩ | exact⟨dP (by simp),rfl⟩
theorem qc (k a:Int) (w:World) (k0:0≤k) (k1:k<7) (h0:0≤a) (g0:a<4294967296):
  Calls Tryz.prog 150 #[.int .i64 k, .int .u32 a] w fun e w'=>e= .returned (.int .u32 (uQ k a))∧w=w':=by
 rcases(show k=0∨k=1∨k=2∨k=3∨k=4∨k=5∨k=6 by omega) with rfl | rfl | rfl | rfl | rfl | rfl | rfl
 ·exact ZR a w h0 g0
 ·exact ZT a w h0 g0
 ·exact ZU a w h0 g0
 ·exact ZV a w h0 g0
 ·exact ZW a w h0 g0
 ·exact ZX a w h0 g0
 ·exact ZY a w h0 g0
theorem VO (a b:Int) (w:World) (h0:0≤a) (g0:a<4294967296) (h1:0≤b) (g1:b<4294967296):
  Calls Tryz.prog 151 #[.int .i64 0, .int .u32 a, .int .u32 b] w fun e w'=>e= .returned (.int .u32 (eF 0 a b))∧Below w.heap.size w w':=by
 have CK:=κ (fun w=>aW 0 a b 0 w h0 g0 h1 g1 (by decide) (by decide))
 go_enter Tryz.func151,Tryz.ntmps151
 go_wp2_with (first
  | (go_at_call 94;(with_reducible refine(CK.out _).mono ?_);rintro e w' ⟨rfl,rfl⟩)
  | (go_at_call 187;(with_reducible refine(aU _ _ (by omega) (by omega)).mono ?_);rintro e w' ⟨rfl,rfl⟩)
  | (go_at_call 152;(with_reducible refine(bD _ _).mono ?_);rintro e w' ⟨rfl,rfl⟩))
 go_ret
 first | exact⟨rfl,((Below.refl _ _).alloc (Nat.le_refl _) _)⟩ | exact⟨rfl,((Below.refl _ _).alloc (Nat.le_refl _) _).drew⟩
theorem VP (a b:Int) (w:World) (h0:0≤a) (g0:a<4294967296) (h1:0≤b) (g1:b<4294967296):
  Calls Tryz.prog 151 #[.int .i64 1, .int .u32 a, .int .u32 b] w fun e w'=>e= .returned (.int .u32 (eF 1 a b))∧Below w.heap.size w w':=by
 have CK:=κ (fun w=>aW 2 a b 0 w h0 g0 h1 g1 (by decide) (by decide))
 go_enter Tryz.func151,Tryz.ntmps151
 go_wp2_with (first
  | (go_at_call 94;(with_reducible refine(CK.out _).mono ?_);rintro e w' ⟨rfl,rfl⟩)
  | (go_at_call 187;(with_reducible refine(aU _ _ (by omega) (by omega)).mono ?_);rintro e w' ⟨rfl,rfl⟩)
  | (go_at_call 152;(with_reducible refine(bD _ _).mono ?_);rintro e w' ⟨rfl,rfl⟩))
 go_ret
 first | exact⟨rfl,((Below.refl _ _).alloc (Nat.le_refl _) _)⟩ | exact⟨rfl,((Below.refl _ _).alloc (Nat.le_refl _) _).drew⟩
theorem VQ (a b:Int) (w:World) (h0:0≤a) (g0:a<4294967296) (h1:0≤b) (g1:b<4294967296):
  Calls Tryz.prog 151 #[.int .i64 2, .int .u32 a, .int .u32 b] w fun e w'=>e= .returned (.int .u32 (eF 2 a b))∧Below w.heap.size w w':=by
 have CK:=κ (fun w=>aW 4 a b 0 w h0 g0 h1 g1 (by decide) (by decide))
 go_enter Tryz.func151,Tryz.ntmps151
 go_wp2_with (first
  | (go_at_call 94;(with_reducible refine(CK.out _).mono ?_);rintro e w' ⟨rfl,rfl⟩)
  | (go_at_call 187;(with_reducible refine(aU _ _ (by omega) (by omega)).mono ?_);rintro e w' ⟨rfl,rfl⟩)
  | (go_at_call 152;(with_reducible refine(bD _ _).mono ?_);rintro e w' ⟨rfl,rfl⟩))
 go_ret
 first | exact⟨rfl,((Below.refl _ _).alloc (Nat.le_refl _) _)⟩ | exact⟨rfl,((Below.refl _ _).alloc (Nat.le_refl _) _).drew⟩
theorem VR (a b:Int) (w:World) (h0:0≤a) (g0:a<4294967296) (h1:0≤b) (g1:b<4294967296):
  Calls Tryz.prog 151 #[.int .i64 3, .int .u32 a, .int .u32 b] w fun e w'=>e= .returned (.int .u32 (eF 3 a b))∧Below w.heap.size w w':=by
 have CK:=κ (fun w=>aW 5 a b 0 w h0 g0 h1 g1 (by decide) (by decide))
 go_enter Tryz.func151,Tryz.ntmps151
 go_wp2_with (first
  | (go_at_call 94;(with_reducible refine(CK.out _).mono ?_);rintro e w' ⟨rfl,rfl⟩)
  | (go_at_call 187;(with_reducible refine(aU _ _ (by omega) (by omega)).mono ?_);rintro e w' ⟨rfl,rfl⟩)
  | (go_at_call 152;(with_reducible refine(bD _ _).mono ?_);rintro e w' ⟨rfl,rfl⟩))
 go_ret
 first | exact⟨rfl,((Below.refl _ _).alloc (Nat.le_refl _) _)⟩ | exact⟨rfl,((Below.refl _ _).alloc (Nat.le_refl _) _).drew⟩
theorem VT (a b:Int) (w:World) (h0:0≤a) (g0:a<4294967296) (h1:0≤b) (g1:b<4294967296):
  Calls Tryz.prog 151 #[.int .i64 4, .int .u32 a, .int .u32 b] w fun e w'=>e= .returned (.int .u32 (eF 4 a b))∧Below w.heap.size w w':=by
 have CK:=κ (fun w=>aW 6 a b 0 w h0 g0 h1 g1 (by decide) (by decide))
 go_enter Tryz.func151,Tryz.ntmps151
 go_wp2_with (first
  | (go_at_call 94;(with_reducible refine(CK.out _).mono ?_);rintro e w' ⟨rfl,rfl⟩)
  | (go_at_call 187;(with_reducible refine(aU _ _ (by omega) (by omega)).mono ?_);rintro e w' ⟨rfl,rfl⟩)
  | (go_at_call 152;(with_reducible refine(bD _ _).mono ?_);rintro e w' ⟨rfl,rfl⟩))
 go_ret
 first | exact⟨rfl,((Below.refl _ _).alloc (Nat.le_refl _) _)⟩ | exact⟨rfl,((Below.refl _ _).alloc (Nat.le_refl _) _).drew⟩
theorem VU (a b:Int) (w:World) (h0:0≤a) (g0:a<4294967296) (h1:0≤b) (g1:b<4294967296):
  Calls Tryz.prog 151 #[.int .i64 5, .int .u32 a, .int .u32 b] w fun e w'=>e= .returned (.int .u32 (eF 5 a b))∧Below w.heap.size w w':=by
 have CK:=κ (fun w=>aW 9 a b 0 w h0 g0 h1 g1 (by decide) (by decide))
 go_enter Tryz.func151,Tryz.ntmps151
 go_wp2_with (first
  | (go_at_call 94;(with_reducible refine(CK.out _).mono ?_);rintro e w' ⟨rfl,rfl⟩)
  | (go_at_call 187;(with_reducible refine(aU _ _ (by omega) (by omega)).mono ?_);rintro e w' ⟨rfl,rfl⟩)
  | (go_at_call 152;(with_reducible refine(bD _ _).mono ?_);rintro e w' ⟨rfl,rfl⟩))
 go_ret
 first | exact⟨rfl,((Below.refl _ _).alloc (Nat.le_refl _) _)⟩ | exact⟨rfl,((Below.refl _ _).alloc (Nat.le_refl _) _).drew⟩
theorem VW (a b:Int) (w:World) (h0:0≤a) (g0:a<4294967296) (h1:0≤b) (g1:b<4294967296):
  Calls Tryz.prog 151 #[.int .i64 6, .int .u32 a, .int .u32 b] w fun e w'=>e= .returned (.int .u32 (eF 6 a b))∧Below w.heap.size w w':=by
 have CK:=κ (fun w=>aW 10 a b 0 w h0 g0 h1 g1 (by decide) (by decide))
 go_enter Tryz.func151,Tryz.ntmps151
 go_wp2_with (first
  | (go_at_call 94;(with_reducible refine(CK.out _).mono ?_);rintro e w' ⟨rfl,rfl⟩)
  | (go_at_call 187;(with_reducible refine(aU _ _ (by omega) (by omega)).mono ?_);rintro e w' ⟨rfl,rfl⟩)
  | (go_at_call 152;(with_reducible refine(bD _ _).mono ?_);rintro e w' ⟨rfl,rfl⟩))
 go_ret
 first | exact⟨rfl,((Below.refl _ _).alloc (Nat.le_refl _) _)⟩ | exact⟨rfl,((Below.refl _ _).alloc (Nat.le_refl _) _).drew⟩
theorem VX (a b:Int) (w:World) (h0:0≤a) (g0:a<4294967296) (h1:0≤b) (g1:b<4294967296):
  Calls Tryz.prog 151 #[.int .i64 7, .int .u32 a, .int .u32 b] w fun e w'=>e= .returned (.int .u32 (eF 7 a b))∧Below w.heap.size w w':=by
 have CK:=κ (fun w=>aW 11 a b 0 w h0 g0 h1 g1 (by decide) (by decide))
 go_enter Tryz.func151,Tryz.ntmps151
 go_wp2_with (first
  | (go_at_call 94;(with_reducible refine(CK.out _).mono ?_);rintro e w' ⟨rfl,rfl⟩)
  | (go_at_call 187;(with_reducible refine(aU _ _ (by omega) (by omega)).mono ?_);rintro e w' ⟨rfl,rfl⟩)
  | (go_at_call 152;(with_reducible refine(bD _ _).mono ?_);rintro e w' ⟨rfl,rfl⟩))
 go_ret
 first | exact⟨rfl,((Below.refl _ _).alloc (Nat.le_refl _) _)⟩ | exact⟨rfl,((Below.refl _ _).alloc (Nat.le_refl _) _).drew⟩
theorem VY (a b:Int) (w:World) (h0:0≤a) (g0:a<4294967296) (h1:0≤b) (g1:b<4294967296):
  Calls Tryz.prog 151 #[.int .i64 8, .int .u32 a, .int .u32 b] w fun e w'=>e= .returned (.int .u32 (eF 8 a b))∧Below w.heap.size w w':=by
 have CK:=κ (fun w=>aW 12 a b 0 w h0 g0 h1 g1 (by decide) (by decide))
 go_enter Tryz.func151,Tryz.ntmps151
 go_wp2_with (first
  | (go_at_call 94;(with_reducible refine(CK.out _).mono ?_);rintro e w' ⟨rfl,rfl⟩)
  | (go_at_call 187;(with_reducible refine(aU _ _ (by omega) (by omega)).mono ?_);rintro e w' ⟨rfl,rfl⟩)
  | (go_at_call 152;(with_reducible refine(bD _ _).mono ?_);rintro e w' ⟨rfl,rfl⟩))
 go_ret
 first | exact⟨rfl,((Below.refl _ _).alloc (Nat.le_refl _) _)⟩ | exact⟨rfl,((Below.refl _ _).alloc (Nat.le_refl _) _).drew⟩
theorem VZ (a b:Int) (w:World) (h0:0≤a) (g0:a<4294967296) (h1:0≤b) (g1:b<4294967296):
  Calls Tryz.prog 151 #[.int .i64 9, .int .u32 a, .int .u32 b] w fun e w'=>e= .returned (.int .u32 (eF 9 a b))∧Below w.heap.size w w':=by
 have CK:=κ (fun w=>aW 13 a b 0 w h0 g0 h1 g1 (by decide) (by decide))
 go_enter Tryz.func151,Tryz.ntmps151
 go_wp2_with (first
  | (go_at_call 94;(with_reducible refine(CK.out _).mono ?_);rintro e w' ⟨rfl,rfl⟩)
  | (go_at_call 187;(with_reducible refine(aU _ _ (by omega) (by omega)).mono ?_);rintro e w' ⟨rfl,rfl⟩)
  | (go_at_call 152;(with_reducible refine(bD _ _).mono ?_);rintro e w' ⟨rfl,rfl⟩))
 go_ret
 first | exact⟨rfl,((Below.refl _ _).alloc (Nat.le_refl _) _)⟩ | exact⟨rfl,((Below.refl _ _).alloc (Nat.le_refl _) _).drew⟩
theorem QJ (a b:Int) (w:World) (h0:0≤a) (g0:a<4294967296) (h1:0≤b) (g1:b<4294967296):
  Calls Tryz.prog 151 #[.int .i64 10, .int .u32 a, .int .u32 b] w fun e w'=>e= .returned (.int .u32 (eF 10 a b))∧Below w.heap.size w w':=by
 have CK:=κ (fun w=>aW 0 a b 0 w h0 g0 h1 g1 (by decide) (by decide))
 have h2:0≤a*b:=Int.mul_nonneg h0 h1
 have h3:a*b≤4294967295*4294967295:=Int.mul_le_mul (by omega) (by omega) h1 (by decide)
 have h4:a*b<18446744073709551616:=by omega
 have h5:a*b%18446744073709551616=a*b:=by omega
 have h6:0≤a*b/4294967296:=by omega
 have h7:a*b/4294967296<4294967296:=by omega
 have h8:a*b/4294967296%4294967296=a*b/4294967296:=by omega
 go_enter Tryz.func151,Tryz.ntmps151
 go_wp2_with (first
  | (go_at_call 94;(with_reducible refine(CK.out _).mono ?_);rintro e w' ⟨rfl,rfl⟩)
  | (go_at_call 187;(with_reducible refine(aU _ _ (by omega) (by omega)).mono ?_);rintro e w' ⟨rfl,rfl⟩)
  | (go_at_call 152;(with_reducible refine(bD _ _).mono ?_);rintro e w' ⟨rfl,rfl⟩))
 go_ret
 exact⟨rfl,((Below.refl _ _).alloc (Nat.le_refl _) _)⟩
theorem QK (a b:Int) (w:World) (h0:0≤a) (g0:a<4294967296) (h1:0≤b) (g1:b<4294967296):
  Calls Tryz.prog 151 #[.int .i64 11, .int .u32 a, .int .u32 b] w fun e w'=>e= .returned (.int .u32 (eF 11 a b))∧Below w.heap.size w w':=by
 have CK:=κ (fun w=>aW 0 a b 0 w h0 g0 h1 g1 (by decide) (by decide))
 by_cases hx:b=0
 ·have e:eF 11 a b=4294967295:=by show(if b=0 then 4294967295 else a/b)=_;rw [if_pos hx]
  rw [e]
  clear e
  go_enter Tryz.func151,Tryz.ntmps151
  go_wp2_with (first
   | (go_at_call 94;(with_reducible refine(CK.out _).mono ?_);rintro e w' ⟨rfl,rfl⟩)
   | (go_at_call 187;(with_reducible refine(aU _ _ (by omega) (by omega)).mono ?_);rintro e w' ⟨rfl,rfl⟩)
   | (go_at_call 152;(with_reducible refine(bD _ _).mono ?_);rintro e w' ⟨rfl,rfl⟩))
  go_ret
  first | exact⟨rfl,((Below.refl _ _).alloc (Nat.le_refl _) _)⟩ | exact⟨dP (by simp),((Below.refl _ _).alloc (Nat.le_refl _) _)⟩
 ·have e:eF 11 a b=a/b:=by show(if b=0 then 4294967295 else a/b)=_;rw [if_neg hx]
  rw [e]
  clear e
  go_enter Tryz.func151,Tryz.ntmps151
  go_wp2_with (first
   | (go_at_call 94;(with_reducible refine(CK.out _).mono ?_);rintro e w' ⟨rfl,rfl⟩)
   | (go_at_call 187;(with_reducible refine(aU _ _ (by omega) (by omega)).mono ?_);rintro e w' ⟨rfl,rfl⟩)
   | (go_at_call 152;(with_reducible refine(bD _ _).mono ?_);rintro e w' ⟨rfl,rfl⟩))
  go_ret
  first | exact⟨rfl,((Below.refl _ _).alloc (Nat.le_refl _) _)⟩ | exact⟨dP (by simp),((Below.refl _ _).alloc (Nat.le_refl _) _)⟩
theorem QL (a b:Int) (w:World) (h0:0≤a) (g0:a<4294967296) (h1:0≤b) (g1:b<4294967296):
  Calls Tryz.prog 151 #[.int .i64 12, .int .u32 a, .int .u32 b] w fun e w'=>e= .returned (.int .u32 (eF 12 a b))∧Below w.heap.size w w':=by
 have CK:=κ (fun w=>aW 0 a b 0 w h0 g0 h1 g1 (by decide) (by decide))
 by_cases hx:b=0
 ·have e:eF 12 a b=a:=by show(if b=0 then a else a%b)=_;rw [if_pos hx]
  rw [e]
  clear e
  go_enter Tryz.func151,Tryz.ntmps151
  go_wp2_with (first
   | (go_at_call 94;(with_reducible refine(CK.out _).mono ?_);rintro e w' ⟨rfl,rfl⟩)
   | (go_at_call 187;(with_reducible refine(aU _ _ (by omega) (by omega)).mono ?_);rintro e w' ⟨rfl,rfl⟩)
   | (go_at_call 152;(with_reducible refine(bD _ _).mono ?_);rintro e w' ⟨rfl,rfl⟩))
  go_ret
  first | exact⟨rfl,((Below.refl _ _).alloc (Nat.le_refl _) _)⟩ | exact⟨dP (by simp),((Below.refl _ _).alloc (Nat.le_refl _) _)⟩
 ·have e:eF 12 a b=a%b:=by show(if b=0 then a else a%b)=_;rw [if_neg hx]
  rw [e]
  clear e
  go_enter Tryz.func151,Tryz.ntmps151
  go_wp2_with (first
   | (go_at_call 94;(with_reducible refine(CK.out _).mono ?_);rintro e w' ⟨rfl,rfl⟩)
   | (go_at_call 187;(with_reducible refine(aU _ _ (by omega) (by omega)).mono ?_);rintro e w' ⟨rfl,rfl⟩)
   | (go_at_call 152;(with_reducible refine(bD _ _).mono ?_);rintro e w' ⟨rfl,rfl⟩))
  go_ret
  first | exact⟨rfl,((Below.refl _ _).alloc (Nat.le_refl _) _)⟩ | exact⟨dP (by simp),((Below.refl _ _).alloc (Nat.le_refl _) _)⟩
theorem QM (a b:Int) (w:World) (h0:0≤a) (g0:a<4294967296) (h1:0≤b) (g1:b<4294967296):
  Calls Tryz.prog 151 #[.int .i64 13, .int .u32 a, .int .u32 b] w fun e w'=>e= .returned (.int .u32 (eF 13 a b))∧Below w.heap.size w w':=by
 have CK:=κ (fun w=>aW 0 a b 0 w h0 g0 h1 g1 (by decide) (by decide))
 by_cases hx:a=b
 ·have e:eF 13 a b=1:=by show(if a=b then 1 else 0)=_;rw [if_pos hx]
  rw [e]
  clear e
  go_enter Tryz.func151,Tryz.ntmps151
  go_wp2_with (first
   | (go_at_call 94;(with_reducible refine(CK.out _).mono ?_);rintro e w' ⟨rfl,rfl⟩)
   | (go_at_call 187;(with_reducible refine(aU _ _ (by omega) (by omega)).mono ?_);rintro e w' ⟨rfl,rfl⟩)
   | (go_at_call 152;(with_reducible refine(bD _ _).mono ?_);rintro e w' ⟨rfl,rfl⟩))
  go_ret
  first | exact⟨rfl,((Below.refl _ _).alloc (Nat.le_refl _) _)⟩ | exact⟨dP (by simp),((Below.refl _ _).alloc (Nat.le_refl _) _)⟩
 ·have e:eF 13 a b=0:=by show(if a=b then 1 else 0)=_;rw [if_neg hx]
  rw [e]
  clear e
  go_enter Tryz.func151,Tryz.ntmps151
  go_wp2_with (first
   | (go_at_call 94;(with_reducible refine(CK.out _).mono ?_);rintro e w' ⟨rfl,rfl⟩)
   | (go_at_call 187;(with_reducible refine(aU _ _ (by omega) (by omega)).mono ?_);rintro e w' ⟨rfl,rfl⟩)
   | (go_at_call 152;(with_reducible refine(bD _ _).mono ?_);rintro e w' ⟨rfl,rfl⟩))
  go_ret
  first | exact⟨rfl,((Below.refl _ _).alloc (Nat.le_refl _) _)⟩ | exact⟨dP (by simp),((Below.refl _ _).alloc (Nat.le_refl _) _)⟩
theorem QS (a b:Int) (w:World) (h0:0≤a) (g0:a<4294967296) (h1:0≤b) (g1:b<4294967296):
  Calls Tryz.prog 151 #[.int .i64 14, .int .u32 a, .int .u32 b] w fun e w'=>e= .returned (.int .u32 (eF 14 a b))∧Below w.heap.size w w':=by
 have CK:=κ (fun w=>aW 0 a b 0 w h0 g0 h1 g1 (by decide) (by decide))
 by_cases hx:a<b
 ·have e:eF 14 a b=1:=by show(if a<b then 1 else 0)=_;rw [if_pos hx]
  rw [e]
  clear e
  go_enter Tryz.func151,Tryz.ntmps151
  go_wp2_with (first
   | (go_at_call 94;(with_reducible refine(CK.out _).mono ?_);rintro e w' ⟨rfl,rfl⟩)
   | (go_at_call 187;(with_reducible refine(aU _ _ (by omega) (by omega)).mono ?_);rintro e w' ⟨rfl,rfl⟩)
   | (go_at_call 152;(with_reducible refine(bD _ _).mono ?_);rintro e w' ⟨rfl,rfl⟩))
  go_ret
  first | exact⟨rfl,((Below.refl _ _).alloc (Nat.le_refl _) _)⟩ | exact⟨dP (by simp),((Below.refl _ _).alloc (Nat.le_refl _) _)⟩
 ·have e:eF 14 a b=0:=by show(if a<b then 1 else 0)=_;rw [if_neg hx]
  rw [e]
  clear e
  go_enter Tryz.func151,Tryz.ntmps151
  go_wp2_with (first
   | (go_at_call 94;(with_reducible refine(CK.out _).mono ?_);rintro e w' ⟨rfl,rfl⟩)
   | (go_at_call 187;(with_reducible refine(aU _ _ (by omega) (by omega)).mono ?_);rintro e w' ⟨rfl,rfl⟩)
   | (go_at_call 152;(with_reducible refine(bD _ _).mono ?_);rintro e w' ⟨rfl,rfl⟩))
  go_ret
  first | exact⟨rfl,((Below.refl _ _).alloc (Nat.le_refl _) _)⟩ | exact⟨dP (by simp),((Below.refl _ _).alloc (Nat.le_refl _) _)⟩
theorem QT (a b:Int) (w:World) (h0:0≤a) (g0:a<4294967296) (h1:0≤b) (g1:b<4294967296):
  Calls Tryz.prog 151 #[.int .i64 15, .int .u32 a, .int .u32 b] w fun e w'=>e= .returned (.int .u32 (eF 15 a b))∧Below w.heap.size w w':=by
 have CK:=κ (fun w=>aW 0 a b 0 w h0 g0 h1 g1 (by decide) (by decide))
 by_cases hx:sg a<sg b
 ·have e:eF 15 a b=1:=by show(if sg a<sg b then 1 else 0)=_;rw [if_pos hx]
  rw [e]
  clear e
  go_enter Tryz.func151,Tryz.ntmps151
  go_wp2_with (first
   | (go_at_call 94;(with_reducible refine(CK.out _).mono ?_);rintro e w' ⟨rfl,rfl⟩)
   | (go_at_call 187;(with_reducible refine(aU _ _ (by omega) (by omega)).mono ?_);rintro e w' ⟨rfl,rfl⟩)
   | (go_at_call 152;(with_reducible refine(bD _ _).mono ?_);rintro e w' ⟨rfl,rfl⟩))
  go_ret
  first | exact⟨rfl,((Below.refl _ _).alloc (Nat.le_refl _) _)⟩ | exact⟨dP (by simp),((Below.refl _ _).alloc (Nat.le_refl _) _)⟩
 ·have e:eF 15 a b=0:=by show(if sg a<sg b then 1 else 0)=_;rw [if_neg hx]
  rw [e]
  clear e
  go_enter Tryz.func151,Tryz.ntmps151
  go_wp2_with (first
   | (go_at_call 94;(with_reducible refine(CK.out _).mono ?_);rintro e w' ⟨rfl,rfl⟩)
   | (go_at_call 187;(with_reducible refine(aU _ _ (by omega) (by omega)).mono ?_);rintro e w' ⟨rfl,rfl⟩)
   | (go_at_call 152;(with_reducible refine(bD _ _).mono ?_);rintro e w' ⟨rfl,rfl⟩))
  go_ret
  first | exact⟨rfl,((Below.refl _ _).alloc (Nat.le_refl _) _)⟩ | exact⟨dP (by simp),((Below.refl _ _).alloc (Nat.le_refl _) _)⟩
theorem KP (k a b:Int) (w:World) (k0:0≤k) (k1:k<16) (h0:0≤a) (g0:a<4294967296) (h1:0≤b) (g1:b<4294967296):
  Calls Tryz.prog 151 #[.int .i64 k, .int .u32 a, .int .u32 b] w fun e w'=>e= .returned (.int .u32 (eF k a b))∧Below w.heap.size w w':=by
 rcases(show k=0∨k=1∨k=2∨k=3∨k=4∨k=5∨k=6∨k=7∨k=8∨k=9∨k=10∨k=11∨k=12∨k=13∨k=14∨k=15 by omega) with rfl | rfl | rfl | rfl | rfl | rfl | rfl | rfl | rfl | rfl | rfl | rfl | rfl | rfl | rfl | rfl
 ·exact VO a b w h0 g0 h1 g1
 ·exact VP a b w h0 g0 h1 g1
 ·exact VQ a b w h0 g0 h1 g1
 ·exact VR a b w h0 g0 h1 g1
 ·exact VT a b w h0 g0 h1 g1
 ·exact VU a b w h0 g0 h1 g1
 ·exact VW a b w h0 g0 h1 g1
 ·exact VX a b w h0 g0 h1 g1
 ·exact VY a b w h0 g0 h1 g1
 ·exact VZ a b w h0 g0 h1 g1
 ·exact QJ a b w h0 g0 h1 g1
 ·exact QK a b w h0 g0 h1 g1
 ·exact QL a b w h0 g0 h1 g1
 ·exact QM a b w h0 g0 h1 g1
 ·exact QS a b w h0 g0 h1 g1
 ·exact QT a b w h0 g0 h1 g1
theorem Wh (ow oa ob oc kn on a b c:Int) (w:World) (k0:0≤kn) (k1:kn<4294967296) (a0:0≤a) (a1:a<4294967296) (b0:0≤b) (b1:b<4294967296) (c0:0≤c) (c1:c<4294967296):
  Calls Tryz.prog 98 #[.agg #[.int .i64 1, .int .i64 ow, .int .i64 oa, .int .i64 ob, .int .i64 oc, .int .u32 kn, .int .i64 on], .int .u32 a, .int .u32 b, .int .u32 c] w fun e w'=>e= .returned (.int .u32 (mW 1 ow kn a b c))∧Below w.heap.size w w':=by
 go_enter Tryz.func98,Tryz.ntmps98
 go_wp2_with fail
 go_ret
 exact⟨rfl,(Below.refl _ _).alloc (Nat.le_refl _) _⟩
theorem Wi (ow oa ob oc kn on a b c:Int) (w:World) (k0:0≤kn) (k1:kn<4294967296) (a0:0≤a) (a1:a<4294967296) (b0:0≤b) (b1:b<4294967296) (c0:0≤c) (c1:c<4294967296) (hw:0≤ow∧ow<16):
  Calls Tryz.prog 98 #[.agg #[.int .i64 4, .int .i64 ow, .int .i64 oa, .int .i64 ob, .int .i64 oc, .int .u32 kn, .int .i64 on], .int .u32 a, .int .u32 b, .int .u32 c] w fun e w'=>e= .returned (.int .u32 (mW 4 ow kn a b c))∧Below w.heap.size w w':=by
 have CB:=κ (fun w=>KP ow a b w hw.1 hw.2 a0 a1 b0 b1)
 go_enter Tryz.func98,Tryz.ntmps98
 go_wp2_with (go_at_call 151;(with_reducible refine(CB.out _).mono ?_);rintro e w1 ⟨rfl,hb⟩)
 go_ret
 exact⟨rfl,((Below.refl _ _).alloc (Nat.le_refl _) _).trans (hb.mono (by simp))⟩
theorem Wj (ow oa ob oc kn on a b c:Int) (w:World) (k0:0≤kn) (k1:kn<4294967296) (a0:0≤a) (a1:a<4294967296) (b0:0≤b) (b1:b<4294967296) (c0:0≤c) (c1:c<4294967296) (hw:0≤ow∧ow<7):
  Calls Tryz.prog 98 #[.agg #[.int .i64 5, .int .i64 ow, .int .i64 oa, .int .i64 ob, .int .i64 oc, .int .u32 kn, .int .i64 on], .int .u32 a, .int .u32 b, .int .u32 c] w fun e w'=>e= .returned (.int .u32 (mW 5 ow kn a b c))∧Below w.heap.size w w':=by
 have CB:=κ (fun w=>qc ow a w hw.1 hw.2 a0 a1)
 go_enter Tryz.func98,Tryz.ntmps98
 go_wp2_with (go_at_call 150;(with_reducible refine(CB.out _).mono ?_);rintro e w1 ⟨rfl,rfl⟩)
 go_ret
 exact⟨rfl,(Below.refl _ _).alloc (Nat.le_refl _) _⟩
theorem Wn (ow oa ob oc kn on a b c:Int) (w:World) (k0:0≤kn) (k1:kn<4294967296) (a0:0≤a) (a1:a<4294967296) (b0:0≤b) (b1:b<4294967296) (c0:0≤c) (c1:c<4294967296):
  Calls Tryz.prog 98 #[.agg #[.int .i64 6, .int .i64 ow, .int .i64 oa, .int .i64 ob, .int .i64 oc, .int .u32 kn, .int .i64 on], .int .u32 a, .int .u32 b, .int .u32 c] w fun e w'=>e= .returned (.int .u32 (mW 6 ow kn a b c))∧Below w.heap.size w w':=by
 by_cases hx:a=0
 ·have e:mW 6 ow kn a b c=c:=by show(if a=0 then c else b)=_;rw [if_pos hx]
  rw [e]
  clear e
  have dH:(a !=0)=false:=by simp [hx]
  go_enter Tryz.func98,Tryz.ntmps98
  go_wp2_with fail
  go_ret
  exact⟨rfl,(Below.refl _ _).alloc (Nat.le_refl _) _⟩
 ·have e:mW 6 ow kn a b c=b:=by show(if a=0 then c else b)=_;rw [if_neg hx]
  rw [e]
  clear e
  have dH:(a !=0)=true:=by simp [hx]
  go_enter Tryz.func98,Tryz.ntmps98
  go_wp2_with fail
  go_ret
  exact⟨rfl,(Below.refl _ _).alloc (Nat.le_refl _) _⟩
theorem Wp (ow oa ob oc kn on a b c:Int) (w:World) (k0:0≤kn) (k1:kn<4294967296) (a0:0≤a) (a1:a<4294967296) (b0:0≤b) (b1:b<4294967296) (c0:0≤c) (c1:c<4294967296):
  Calls Tryz.prog 98 #[.agg #[.int .i64 7, .int .i64 ow, .int .i64 oa, .int .i64 ob, .int .i64 oc, .int .u32 kn, .int .i64 on], .int .u32 a, .int .u32 b, .int .u32 c] w fun e w'=>e= .returned (.int .u32 (mW 7 ow kn a b c))∧Below w.heap.size w w':=by
 have CB:=κ (fun w=>fU ow a b c w a0 a1 b0 b1 c0 c1)
 go_enter Tryz.func98,Tryz.ntmps98
 go_wp2_with (go_at_call 91;(with_reducible refine(CB.out _).mono ?_);rintro e w1 ⟨rfl,rfl⟩)
 go_ret
 exact⟨rfl,(Below.refl _ _).alloc (Nat.le_refl _) _⟩
theorem Wq (ow oa ob oc kn on a b c:Int) (w:World) (k0:0≤kn) (k1:kn<4294967296) (a0:0≤a) (a1:a<4294967296) (b0:0≤b) (b1:b<4294967296) (c0:0≤c) (c1:c<4294967296) (hw: -9223372036854775808≤ow∧ow<9223372036854775808):
  Calls Tryz.prog 98 #[.agg #[.int .i64 8, .int .i64 ow, .int .i64 oa, .int .i64 ob, .int .i64 oc, .int .u32 kn, .int .i64 on], .int .u32 a, .int .u32 b, .int .u32 c] w fun e w'=>e= .returned (.int .u32 (mW 8 ow kn a b c))∧Below w.heap.size w w':=by
 have CB:=κ (fun w=>nZ ow a w a0 a1)
 have e:mW 8 ow kn a b c=(if Fl.hd ow a then 1 else 0):=rfl
 rw [e]
 clear e
 generalize Fl.hd ow a=t at CB
 have CT:=κ (fun w=>bD t w)
 generalize(if t=true then(1:Int) else 0)=z at CT⊢
 go_enter Tryz.func98,Tryz.ntmps98
 go_wp2_with (first | (go_at_call 92;(with_reducible refine(CB.out _).mono ?_);rintro e w1 ⟨rfl,hb⟩) | (go_at_call 152;(with_reducible refine(CT.out _).mono ?_);rintro e w2 ⟨rfl,rfl⟩))
 go_ret
 exact⟨rfl,((Below.refl _ _).alloc (Nat.le_refl _) _).trans (hb.mono (by simp))⟩
theorem Aw (k:Int) (ow oa ob oc kn on a b c:Int) (w:World) (k0:0≤kn) (k1:kn<4294967296) (a0:0≤a) (a1:a<4294967296) (b0:0≤b) (b1:b<4294967296) (c0:0≤c) (c1:c<4294967296) (hk:k=1∨(k=4∧0≤ow∧ow<16)∨(k=5∧0≤ow∧ow<7)∨k=6∨k=7∨(k=8∧0≤ow∧ow<16)):
  Calls Tryz.prog 98 #[.agg #[.int .i64 k, .int .i64 ow, .int .i64 oa, .int .i64 ob, .int .i64 oc, .int .u32 kn, .int .i64 on], .int .u32 a, .int .u32 b, .int .u32 c] w fun e w'=>e= .returned (.int .u32 (mW k ow kn a b c))∧Below w.heap.size w w':=by
 rcases hk with rfl | ⟨rfl,hw⟩ | ⟨rfl,hw⟩ | rfl | rfl | ⟨rfl,hw⟩
 ·exact Wh ow oa ob oc kn on a b c w k0 k1 a0 a1 b0 b1 c0 c1
 ·exact Wi ow oa ob oc kn on a b c w k0 k1 a0 a1 b0 b1 c0 c1 hw
 ·exact Wj ow oa ob oc kn on a b c w k0 k1 a0 a1 b0 b1 c0 c1 hw
 ·exact Wn ow oa ob oc kn on a b c w k0 k1 a0 a1 b0 b1 c0 c1
 ·exact Wp ow oa ob oc kn on a b c w k0 k1 a0 a1 b0 b1 c0 c1
 ·exact Wq ow oa ob oc kn on a b c w k0 k1 a0 a1 b0 b1 c0 c1 ⟨by omega,by omega⟩
end Go.Proofs.YtcjcmnnhmajocabGreat.Ev
namespace Go.Proofs.YtcjcmnnhmajocabGreat.Ot
open Go.RowKit Kt Ic Me Ev
variable {K:Wc} {s:Wk} {W W':World}
def B3 (b:Nat) (g:Nat→Value) (W:World):Prop:=b<W.heap.size∧(∀j,j<3→W.cell? ⟨b,j,none⟩=some (g j))∧∀j,W.frozen? ⟨b,j,none⟩=false
theorem B3.new (w:World) (x y z:Value) (t:TypeId):B3 w.heap.size (fun j=>if j=0 then x else if j=1 then y else z) (w.alloc (.cells #[x,y,z] t)):=
 ⟨by simp,fun j hj=>(cell_of_row _ _ _ _ _ _ (heap_alloc_new w _)).trans (by rcases(show j=0∨j=1∨j=2 by omega) with rfl | rfl | rfl<;>rfl),fun j=>by simp⟩
theorem B3.upto {b:Nat} {g:Nat→Value} {S:Nat→Prop} (h:B3 b g W) (u:ah S W W') (hs:¬S b):B3 b g W':=
 ⟨Nat.lt_of_lt_of_le h.1 u.size,fun j hj=>(u.cell (q:=⟨b,j,none⟩) h.1 hs).trans (h.2.1 j hj),fun j=>(u.frozen (q:=⟨b,j,none⟩) h.1 hs).trans (h.2.2 j)⟩
theorem B3.below {b:Nat} {g:Nat→Value} (h:B3 b g W) (u:Below W.heap.size W W'):B3 b g W':=h.upto (ah.ak (S:=fun _=>False) u) id
theorem B3.set {b:Nat} {g:Nat→Value} (h:B3 b g W) (i:Nat) (hi:i<3) (v:Value):B3 b (aF g i v) (W.setCell ⟨b,i,none⟩ v):=
 ⟨by simpa using h.1,fun j hj=>by
  unfold aF
  by_cases e:j=i
  ·rw [if_pos e,e];exact World.cell?_setCell_same _ _ _ (h.2.1 i hi)
  ·rw [if_neg e,HM.aH e];exact h.2.1 j hj,fun j=>by simpa using h.2.2 j⟩
theorem B3.all {b:Nat} {g:Nat→Value} (h:B3 b g W):b<W.heap.size∧W.cell? ⟨b,0,none⟩=some (g 0)∧W.cell? ⟨b,1,none⟩=some (g 1)∧W.cell? ⟨b,2,none⟩=some (g 2)∧W.frozen? ⟨b,0,none⟩=false∧W.frozen? ⟨b,1,none⟩=false∧W.frozen? ⟨b,2,none⟩=false:=
 ⟨h.1,h.2.1 0 (by decide),h.2.1 1 (by decide),h.2.1 2 (by decide),h.2.2 0,h.2.2 1,h.2.2 2⟩
theorem WW.keep {S:Nat→Prop} (a:WW K s W) (u:ah S W W') (hS:∀i,S i→i≠K.h∧i≠K.tb∧i≠K.mb∧¬own K W i):WW K s W':=by
 have nh:¬S K.h:=fun h=>(hS _ h).1 rfl
 have nt:¬S K.tb:=fun h=>(hS _ h).2.1 rfl
 have m:=a.m
 have e:∀j,W'.cell? ⟨K.h,j,none⟩=W.cell? ⟨K.h,j,none⟩:=fun j=>u.cell (q:=⟨K.h,j,none⟩) m.l nh
 have f:∀j,W'.cell? ⟨K.tb,j,none⟩=W.cell? ⟨K.tb,j,none⟩:=fun j=>u.cell (q:=⟨K.tb,j,none⟩) m.l2 nt
 obtain⟨v,h1,h2⟩:=m.c0
 exact⟨⟨⟨v,(e _).trans h1,h2.upto u fun k hk hs=>(hS k hs).2.2.2 ⟨v,h1,hk⟩⟩,(e _).trans m.c1,fun j hj=>(e _).trans (m.sl j hj),(e _).trans m.cm,(e _).trans m.cn,fun t ht=>(f _).trans (m.to t ht),
  fun j=>(u.frozen (q:=⟨K.h,j,none⟩) m.l nh).trans (m.z j),fun j=>(u.frozen (q:=⟨K.tb,j,none⟩) m.l2 nt).trans (m.zt j),m.lh,m.lt,m.ne,Nat.le_trans m.lb u.size⟩,a.o.upto u fun h=>(hS _ h).2.2.1 rfl,a.mv,a.lb,a.nh,a.nt⟩
theorem UW.new {S:Nat→Prop} {w:World} (h:UW K w W) (hl:K.h<w.heap.size) (u:ah S W W') (hS:∀i,S i→w.heap.size≤i):UW K w W':=
 ⟨⟨u.os.trans h.u.os,u.tape.trans h.u.tape,u.output.trans h.u.output,Nat.le_trans h.u.size u.size,fun i hi hs=>(u.block i (Nat.lt_of_lt_of_le hi h.u.size) fun e=>by have:=hS i e;omega).trans (h.u.block i hi hs)⟩,
  fun i e=>by
   obtain⟨v,h1,h2⟩:=e
   exact h.ow i ⟨v,(u.cell (q:=⟨K.h,0,none⟩) (Nat.lt_of_lt_of_le hl h.u.size) fun e=>by have:=hS _ e;dsimp only at this;omega).symm.trans h1,h2⟩⟩
end Go.Proofs.YtcjcmnnhmajocabGreat.Ot
