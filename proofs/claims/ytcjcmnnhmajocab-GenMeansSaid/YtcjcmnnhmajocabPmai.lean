import Derived.Deep.DeepCutAuto
import Derived.Test.YtcjcmnnhmajocabPmah
set_option linter.unusedVariables false
set_option linter.unusedSimpArgs false
set_option maxRecDepth 100000
set_option maxHeartbeats 16000000
namespace Go.Proofs.Ytcjcmnnhmajocab.Ev
open Go.RowKit Kt Me Fl
theorem aau (a:Int) (w:World) (h0:0≤a) (g0:a<4294967296):
  Calls Try.prog 106 #[.int .i64 0, .int .u32 a] w fun e w'=>e= .returned (.int .u32 (xI 0 a))∧w=w':=by
 go_enter Try.func106,Try.ntmps106
 go_wp2_with (go_at_call 109;(with_reducible refine(bI _ _).mono ?_);rintro e w' ⟨rfl,rfl⟩)
 go_ret
 exact⟨rfl,rfl⟩
theorem aav (a:Int) (w:World) (h0:0≤a) (g0:a<4294967296):
  Calls Try.prog 106 #[.int .i64 1, .int .u32 a] w fun e w'=>e= .returned (.int .u32 (xI 1 a))∧w=w':=by
 go_enter Try.func106,Try.ntmps106
 go_wp2_with (go_at_call 109;(with_reducible refine(bI _ _).mono ?_);rintro e w' ⟨rfl,rfl⟩)
 go_ret
 first | exact⟨rfl,rfl⟩ | exact⟨eP (by show _=(-a)%4294967296;omega),rfl⟩
theorem aaw (a:Int) (w:World) (h0:0≤a) (g0:a<4294967296):
  Calls Try.prog 106 #[.int .i64 2, .int .u32 a] w fun e w'=>e= .returned (.int .u32 (xI 2 a))∧w=w':=by
 by_cases hx:128≤a%256
 ·have e:xI 2 a=a%256+4294967040:=by show(if 128≤a%256 then a%256+4294967040 else a%256)=_;rw [if_pos hx]
  rw [e]
  clear e
  go_enter Try.func106,Try.ntmps106
  go_wp2_with (go_at_call 109;(with_reducible refine(bI _ _).mono ?_);rintro e w' ⟨rfl,rfl⟩)
  go_ret
  first | exact⟨rfl,rfl⟩ | exact⟨eP (by simp),rfl⟩
 ·have e:xI 2 a=a%256:=by show(if 128≤a%256 then a%256+4294967040 else a%256)=_;rw [if_neg hx]
  rw [e]
  clear e
  go_enter Try.func106,Try.ntmps106
  go_wp2_with (go_at_call 109;(with_reducible refine(bI _ _).mono ?_);rintro e w' ⟨rfl,rfl⟩)
  go_ret
  first | exact⟨rfl,rfl⟩ | exact⟨eP (by simp),rfl⟩
theorem aax (a:Int) (w:World) (h0:0≤a) (g0:a<4294967296):
  Calls Try.prog 106 #[.int .i64 3, .int .u32 a] w fun e w'=>e= .returned (.int .u32 (xI 3 a))∧w=w':=by
 by_cases hx:32768≤a%65536
 ·have e:xI 3 a=a%65536+4294901760:=by show(if 32768≤a%65536 then a%65536+4294901760 else a%65536)=_;rw [if_pos hx]
  rw [e]
  clear e
  go_enter Try.func106,Try.ntmps106
  go_wp2_with (go_at_call 109;(with_reducible refine(bI _ _).mono ?_);rintro e w' ⟨rfl,rfl⟩)
  go_ret
  first | exact⟨rfl,rfl⟩ | exact⟨eP (by simp),rfl⟩
 ·have e:xI 3 a=a%65536:=by show(if 32768≤a%65536 then a%65536+4294901760 else a%65536)=_;rw [if_neg hx]
  rw [e]
  clear e
  go_enter Try.func106,Try.ntmps106
  go_wp2_with (go_at_call 109;(with_reducible refine(bI _ _).mono ?_);rintro e w' ⟨rfl,rfl⟩)
  go_ret
  first | exact⟨rfl,rfl⟩ | exact⟨eP (by simp),rfl⟩
theorem aay (a:Int) (w:World) (h0:0≤a) (g0:a<4294967296):
  Calls Try.prog 106 #[.int .i64 4, .int .u32 a] w fun e w'=>e= .returned (.int .u32 (xI 4 a))∧w=w':=by
 go_enter Try.func106,Try.ntmps106
 go_wp2_with (go_at_call 109;(with_reducible refine(bI _ _).mono ?_);rintro e w' ⟨rfl,rfl⟩)
 go_ret
 exact⟨rfl,rfl⟩
theorem aaz (a:Int) (w:World) (h0:0≤a) (g0:a<4294967296):
  Calls Try.prog 106 #[.int .i64 5, .int .u32 a] w fun e w'=>e= .returned (.int .u32 (xI 5 a))∧w=w':=by
 go_enter Try.func106,Try.ntmps106
 go_wp2_with (go_at_call 109;(with_reducible refine(bI _ _).mono ?_);rintro e w' ⟨rfl,rfl⟩)
 go_ret
 exact⟨rfl,rfl⟩
theorem aaA (a:Int) (w:World) (h0:0≤a) (g0:a<4294967296):
  Calls Try.prog 106 #[.int .i64 6, .int .u32 a] w fun e w'=>e= .returned (.int .u32 (xI 6 a))∧w=w':=by
 by_cases hx:a=0
 ·have e:xI 6 a=1:=by show(if a=0 then 1 else 0)=_;rw [if_pos hx]
  rw [e]
  clear e
  go_enter Try.func106,Try.ntmps106
  go_wp2_with (go_at_call 109;(with_reducible refine(bI _ _).mono ?_);rintro e w' ⟨rfl,rfl⟩)
  go_ret
  first | exact⟨rfl,rfl⟩ | exact⟨eP (by simp),rfl⟩
 ·have e:xI 6 a=0:=by show(if a=0 then 1 else 0)=_;rw [if_neg hx]
  rw [e]
  clear e
  go_enter Try.func106,Try.ntmps106
  go_wp2_with (go_at_call 109;(with_reducible refine(bI _ _).mono ?_);rintro e w' ⟨rfl,rfl⟩)
  go_ret
  first | exact⟨rfl,rfl⟩ | exact⟨eP (by simp),rfl⟩
theorem oH (k a:Int) (w:World) (k0:0≤k) (k1:k<7) (h0:0≤a) (g0:a<4294967296):
  Calls Try.prog 106 #[.int .i64 k, .int .u32 a] w fun e w'=>e= .returned (.int .u32 (xI k a))∧w=w':=by
 rcases(show k=0∨k=1∨k=2∨k=3∨k=4∨k=5∨k=6 by omega) with rfl | rfl | rfl | rfl | rfl | rfl | rfl
 ·exact aau a w h0 g0
 ·exact aav a w h0 g0
 ·exact aaw a w h0 g0
 ·exact aax a w h0 g0
 ·exact aay a w h0 g0
 ·exact aaz a w h0 g0
 ·exact aaA a w h0 g0
theorem Xa (a b:Int) (w:World) (h0:0≤a) (g0:a<4294967296) (h1:0≤b) (g1:b<4294967296):
  Calls Try.prog 108 #[.int .i64 0, .int .u32 a, .int .u32 b] w fun e w'=>e= .returned (.int .u32 (iH 0 a b))∧Below w.heap.size w w':=by
 have CK:=κ (fun w=>bT 0 a b 0 w h0 g0 h1 g1 (by decide) (by decide))
 go_enter Try.func108,Try.ntmps108
 go_wp2_with (first
  | (go_at_call 86;(with_reducible refine(CK.out _).mono ?_);rintro e w' ⟨rfl,rfl⟩)
  | (go_at_call 163;(with_reducible refine(aY _ _ (by omega) (by omega)).mono ?_);rintro e w' ⟨rfl,rfl⟩)
  | (go_at_call 109;(with_reducible refine(bI _ _).mono ?_);rintro e w' ⟨rfl,rfl⟩))
 go_ret
 first | exact⟨rfl,((Below.refl _ _).alloc (Nat.le_refl _) _)⟩ | exact⟨rfl,((Below.refl _ _).alloc (Nat.le_refl _) _).drew⟩
theorem Xb (a b:Int) (w:World) (h0:0≤a) (g0:a<4294967296) (h1:0≤b) (g1:b<4294967296):
  Calls Try.prog 108 #[.int .i64 1, .int .u32 a, .int .u32 b] w fun e w'=>e= .returned (.int .u32 (iH 1 a b))∧Below w.heap.size w w':=by
 have CK:=κ (fun w=>bT 2 a b 0 w h0 g0 h1 g1 (by decide) (by decide))
 go_enter Try.func108,Try.ntmps108
 go_wp2_with (first
  | (go_at_call 86;(with_reducible refine(CK.out _).mono ?_);rintro e w' ⟨rfl,rfl⟩)
  | (go_at_call 163;(with_reducible refine(aY _ _ (by omega) (by omega)).mono ?_);rintro e w' ⟨rfl,rfl⟩)
  | (go_at_call 109;(with_reducible refine(bI _ _).mono ?_);rintro e w' ⟨rfl,rfl⟩))
 go_ret
 first | exact⟨rfl,((Below.refl _ _).alloc (Nat.le_refl _) _)⟩ | exact⟨rfl,((Below.refl _ _).alloc (Nat.le_refl _) _).drew⟩
theorem Xc (a b:Int) (w:World) (h0:0≤a) (g0:a<4294967296) (h1:0≤b) (g1:b<4294967296):
  Calls Try.prog 108 #[.int .i64 2, .int .u32 a, .int .u32 b] w fun e w'=>e= .returned (.int .u32 (iH 2 a b))∧Below w.heap.size w w':=by
 have CK:=κ (fun w=>bT 4 a b 0 w h0 g0 h1 g1 (by decide) (by decide))
 go_enter Try.func108,Try.ntmps108
 go_wp2_with (first
  | (go_at_call 86;(with_reducible refine(CK.out _).mono ?_);rintro e w' ⟨rfl,rfl⟩)
  | (go_at_call 163;(with_reducible refine(aY _ _ (by omega) (by omega)).mono ?_);rintro e w' ⟨rfl,rfl⟩)
  | (go_at_call 109;(with_reducible refine(bI _ _).mono ?_);rintro e w' ⟨rfl,rfl⟩))
 go_ret
 first | exact⟨rfl,((Below.refl _ _).alloc (Nat.le_refl _) _)⟩ | exact⟨rfl,((Below.refl _ _).alloc (Nat.le_refl _) _).drew⟩
theorem Xd (a b:Int) (w:World) (h0:0≤a) (g0:a<4294967296) (h1:0≤b) (g1:b<4294967296):
  Calls Try.prog 108 #[.int .i64 3, .int .u32 a, .int .u32 b] w fun e w'=>e= .returned (.int .u32 (iH 3 a b))∧Below w.heap.size w w':=by
 have CK:=κ (fun w=>bT 5 a b 0 w h0 g0 h1 g1 (by decide) (by decide))
 go_enter Try.func108,Try.ntmps108
 go_wp2_with (first
  | (go_at_call 86;(with_reducible refine(CK.out _).mono ?_);rintro e w' ⟨rfl,rfl⟩)
  | (go_at_call 163;(with_reducible refine(aY _ _ (by omega) (by omega)).mono ?_);rintro e w' ⟨rfl,rfl⟩)
  | (go_at_call 109;(with_reducible refine(bI _ _).mono ?_);rintro e w' ⟨rfl,rfl⟩))
 go_ret
 first | exact⟨rfl,((Below.refl _ _).alloc (Nat.le_refl _) _)⟩ | exact⟨rfl,((Below.refl _ _).alloc (Nat.le_refl _) _).drew⟩
theorem Xe (a b:Int) (w:World) (h0:0≤a) (g0:a<4294967296) (h1:0≤b) (g1:b<4294967296):
  Calls Try.prog 108 #[.int .i64 4, .int .u32 a, .int .u32 b] w fun e w'=>e= .returned (.int .u32 (iH 4 a b))∧Below w.heap.size w w':=by
 have CK:=κ (fun w=>bT 6 a b 0 w h0 g0 h1 g1 (by decide) (by decide))
 go_enter Try.func108,Try.ntmps108
 go_wp2_with (first
  | (go_at_call 86;(with_reducible refine(CK.out _).mono ?_);rintro e w' ⟨rfl,rfl⟩)
  | (go_at_call 163;(with_reducible refine(aY _ _ (by omega) (by omega)).mono ?_);rintro e w' ⟨rfl,rfl⟩)
  | (go_at_call 109;(with_reducible refine(bI _ _).mono ?_);rintro e w' ⟨rfl,rfl⟩))
 go_ret
 first | exact⟨rfl,((Below.refl _ _).alloc (Nat.le_refl _) _)⟩ | exact⟨rfl,((Below.refl _ _).alloc (Nat.le_refl _) _).drew⟩
theorem Xf (a b:Int) (w:World) (h0:0≤a) (g0:a<4294967296) (h1:0≤b) (g1:b<4294967296):
  Calls Try.prog 108 #[.int .i64 5, .int .u32 a, .int .u32 b] w fun e w'=>e= .returned (.int .u32 (iH 5 a b))∧Below w.heap.size w w':=by
 have CK:=κ (fun w=>bT 9 a b 0 w h0 g0 h1 g1 (by decide) (by decide))
 go_enter Try.func108,Try.ntmps108
 go_wp2_with (first
  | (go_at_call 86;(with_reducible refine(CK.out _).mono ?_);rintro e w' ⟨rfl,rfl⟩)
  | (go_at_call 163;(with_reducible refine(aY _ _ (by omega) (by omega)).mono ?_);rintro e w' ⟨rfl,rfl⟩)
  | (go_at_call 109;(with_reducible refine(bI _ _).mono ?_);rintro e w' ⟨rfl,rfl⟩))
 go_ret
 first | exact⟨rfl,((Below.refl _ _).alloc (Nat.le_refl _) _)⟩ | exact⟨rfl,((Below.refl _ _).alloc (Nat.le_refl _) _).drew⟩
theorem Xg (a b:Int) (w:World) (h0:0≤a) (g0:a<4294967296) (h1:0≤b) (g1:b<4294967296):
  Calls Try.prog 108 #[.int .i64 6, .int .u32 a, .int .u32 b] w fun e w'=>e= .returned (.int .u32 (iH 6 a b))∧Below w.heap.size w w':=by
 have CK:=κ (fun w=>bT 10 a b 0 w h0 g0 h1 g1 (by decide) (by decide))
 go_enter Try.func108,Try.ntmps108
 go_wp2_with (first
  | (go_at_call 86;(with_reducible refine(CK.out _).mono ?_);rintro e w' ⟨rfl,rfl⟩)
  | (go_at_call 163;(with_reducible refine(aY _ _ (by omega) (by omega)).mono ?_);rintro e w' ⟨rfl,rfl⟩)
  | (go_at_call 109;(with_reducible refine(bI _ _).mono ?_);rintro e w' ⟨rfl,rfl⟩))
 go_ret
 first | exact⟨rfl,((Below.refl _ _).alloc (Nat.le_refl _) _)⟩ | exact⟨rfl,((Below.refl _ _).alloc (Nat.le_refl _) _).drew⟩
theorem Xh (a b:Int) (w:World) (h0:0≤a) (g0:a<4294967296) (h1:0≤b) (g1:b<4294967296):
  Calls Try.prog 108 #[.int .i64 7, .int .u32 a, .int .u32 b] w fun e w'=>e= .returned (.int .u32 (iH 7 a b))∧Below w.heap.size w w':=by
 have CK:=κ (fun w=>bT 11 a b 0 w h0 g0 h1 g1 (by decide) (by decide))
 go_enter Try.func108,Try.ntmps108
 go_wp2_with (first
  | (go_at_call 86;(with_reducible refine(CK.out _).mono ?_);rintro e w' ⟨rfl,rfl⟩)
  | (go_at_call 163;(with_reducible refine(aY _ _ (by omega) (by omega)).mono ?_);rintro e w' ⟨rfl,rfl⟩)
  | (go_at_call 109;(with_reducible refine(bI _ _).mono ?_);rintro e w' ⟨rfl,rfl⟩))
 go_ret
 first | exact⟨rfl,((Below.refl _ _).alloc (Nat.le_refl _) _)⟩ | exact⟨rfl,((Below.refl _ _).alloc (Nat.le_refl _) _).drew⟩
theorem Xi (a b:Int) (w:World) (h0:0≤a) (g0:a<4294967296) (h1:0≤b) (g1:b<4294967296):
  Calls Try.prog 108 #[.int .i64 8, .int .u32 a, .int .u32 b] w fun e w'=>e= .returned (.int .u32 (iH 8 a b))∧Below w.heap.size w w':=by
 have CK:=κ (fun w=>bT 12 a b 0 w h0 g0 h1 g1 (by decide) (by decide))
 go_enter Try.func108,Try.ntmps108
 go_wp2_with (first
  | (go_at_call 86;(with_reducible refine(CK.out _).mono ?_);rintro e w' ⟨rfl,rfl⟩)
  | (go_at_call 163;(with_reducible refine(aY _ _ (by omega) (by omega)).mono ?_);rintro e w' ⟨rfl,rfl⟩)
  | (go_at_call 109;(with_reducible refine(bI _ _).mono ?_);rintro e w' ⟨rfl,rfl⟩))
 go_ret
 first | exact⟨rfl,((Below.refl _ _).alloc (Nat.le_refl _) _)⟩ | exact⟨rfl,((Below.refl _ _).alloc (Nat.le_refl _) _).drew⟩
theorem Xj (a b:Int) (w:World) (h0:0≤a) (g0:a<4294967296) (h1:0≤b) (g1:b<4294967296):
  Calls Try.prog 108 #[.int .i64 9, .int .u32 a, .int .u32 b] w fun e w'=>e= .returned (.int .u32 (iH 9 a b))∧Below w.heap.size w w':=by
 have CK:=κ (fun w=>bT 13 a b 0 w h0 g0 h1 g1 (by decide) (by decide))
 go_enter Try.func108,Try.ntmps108
 go_wp2_with (first
  | (go_at_call 86;(with_reducible refine(CK.out _).mono ?_);rintro e w' ⟨rfl,rfl⟩)
  | (go_at_call 163;(with_reducible refine(aY _ _ (by omega) (by omega)).mono ?_);rintro e w' ⟨rfl,rfl⟩)
  | (go_at_call 109;(with_reducible refine(bI _ _).mono ?_);rintro e w' ⟨rfl,rfl⟩))
 go_ret
 first | exact⟨rfl,((Below.refl _ _).alloc (Nat.le_refl _) _)⟩ | exact⟨rfl,((Below.refl _ _).alloc (Nat.le_refl _) _).drew⟩
theorem QU (a b:Int) (w:World) (h0:0≤a) (g0:a<4294967296) (h1:0≤b) (g1:b<4294967296):
  Calls Try.prog 108 #[.int .i64 10, .int .u32 a, .int .u32 b] w fun e w'=>e= .returned (.int .u32 (iH 10 a b))∧Below w.heap.size w w':=by
 have CK:=κ (fun w=>bT 0 a b 0 w h0 g0 h1 g1 (by decide) (by decide))
 have h2:0≤a*b:=Int.mul_nonneg h0 h1
 have h3:a*b≤4294967295*4294967295:=Int.mul_le_mul (by omega) (by omega) h1 (by decide)
 have h4:a*b<18446744073709551616:=by omega
 have h5:a*b%18446744073709551616=a*b:=by omega
 have h6:0≤a*b/4294967296:=by omega
 have h7:a*b/4294967296<4294967296:=by omega
 have h8:a*b/4294967296%4294967296=a*b/4294967296:=by omega
 go_enter Try.func108,Try.ntmps108
 go_wp2_with (first
  | (go_at_call 86;(with_reducible refine(CK.out _).mono ?_);rintro e w' ⟨rfl,rfl⟩)
  | (go_at_call 163;(with_reducible refine(aY _ _ (by omega) (by omega)).mono ?_);rintro e w' ⟨rfl,rfl⟩)
  | (go_at_call 109;(with_reducible refine(bI _ _).mono ?_);rintro e w' ⟨rfl,rfl⟩))
 go_ret
 exact⟨rfl,((Below.refl _ _).alloc (Nat.le_refl _) _)⟩
theorem QV (a b:Int) (w:World) (h0:0≤a) (g0:a<4294967296) (h1:0≤b) (g1:b<4294967296):
  Calls Try.prog 108 #[.int .i64 11, .int .u32 a, .int .u32 b] w fun e w'=>e= .returned (.int .u32 (iH 11 a b))∧Below w.heap.size w w':=by
 have CK:=κ (fun w=>bT 0 a b 0 w h0 g0 h1 g1 (by decide) (by decide))
 by_cases hx:b=0
 ·have e:iH 11 a b=4294967295:=by show(if b=0 then 4294967295 else a/b)=_;rw [if_pos hx]
  rw [e]
  clear e
  go_enter Try.func108,Try.ntmps108
  go_wp2_with (first
   | (go_at_call 86;(with_reducible refine(CK.out _).mono ?_);rintro e w' ⟨rfl,rfl⟩)
   | (go_at_call 163;(with_reducible refine(aY _ _ (by omega) (by omega)).mono ?_);rintro e w' ⟨rfl,rfl⟩)
   | (go_at_call 109;(with_reducible refine(bI _ _).mono ?_);rintro e w' ⟨rfl,rfl⟩))
  go_ret
  first | exact⟨rfl,((Below.refl _ _).alloc (Nat.le_refl _) _)⟩ | exact⟨eP (by simp),((Below.refl _ _).alloc (Nat.le_refl _) _)⟩
 ·have e:iH 11 a b=a/b:=by show(if b=0 then 4294967295 else a/b)=_;rw [if_neg hx]
  rw [e]
  clear e
  go_enter Try.func108,Try.ntmps108
  go_wp2_with (first
   | (go_at_call 86;(with_reducible refine(CK.out _).mono ?_);rintro e w' ⟨rfl,rfl⟩)
   | (go_at_call 163;(with_reducible refine(aY _ _ (by omega) (by omega)).mono ?_);rintro e w' ⟨rfl,rfl⟩)
   | (go_at_call 109;(with_reducible refine(bI _ _).mono ?_);rintro e w' ⟨rfl,rfl⟩))
  go_ret
  first | exact⟨rfl,((Below.refl _ _).alloc (Nat.le_refl _) _)⟩ | exact⟨eP (by simp),((Below.refl _ _).alloc (Nat.le_refl _) _)⟩
theorem QW (a b:Int) (w:World) (h0:0≤a) (g0:a<4294967296) (h1:0≤b) (g1:b<4294967296):
  Calls Try.prog 108 #[.int .i64 12, .int .u32 a, .int .u32 b] w fun e w'=>e= .returned (.int .u32 (iH 12 a b))∧Below w.heap.size w w':=by
 have CK:=κ (fun w=>bT 0 a b 0 w h0 g0 h1 g1 (by decide) (by decide))
 by_cases hx:b=0
 ·have e:iH 12 a b=a:=by show(if b=0 then a else a%b)=_;rw [if_pos hx]
  rw [e]
  clear e
  go_enter Try.func108,Try.ntmps108
  go_wp2_with (first
   | (go_at_call 86;(with_reducible refine(CK.out _).mono ?_);rintro e w' ⟨rfl,rfl⟩)
   | (go_at_call 163;(with_reducible refine(aY _ _ (by omega) (by omega)).mono ?_);rintro e w' ⟨rfl,rfl⟩)
   | (go_at_call 109;(with_reducible refine(bI _ _).mono ?_);rintro e w' ⟨rfl,rfl⟩))
  go_ret
  first | exact⟨rfl,((Below.refl _ _).alloc (Nat.le_refl _) _)⟩ | exact⟨eP (by simp),((Below.refl _ _).alloc (Nat.le_refl _) _)⟩
 ·have e:iH 12 a b=a%b:=by show(if b=0 then a else a%b)=_;rw [if_neg hx]
  rw [e]
  clear e
  go_enter Try.func108,Try.ntmps108
  go_wp2_with (first
   | (go_at_call 86;(with_reducible refine(CK.out _).mono ?_);rintro e w' ⟨rfl,rfl⟩)
   | (go_at_call 163;(with_reducible refine(aY _ _ (by omega) (by omega)).mono ?_);rintro e w' ⟨rfl,rfl⟩)
   | (go_at_call 109;(with_reducible refine(bI _ _).mono ?_);rintro e w' ⟨rfl,rfl⟩))
  go_ret
  first | exact⟨rfl,((Below.refl _ _).alloc (Nat.le_refl _) _)⟩ | exact⟨eP (by simp),((Below.refl _ _).alloc (Nat.le_refl _) _)⟩
theorem QY (a b:Int) (w:World) (h0:0≤a) (g0:a<4294967296) (h1:0≤b) (g1:b<4294967296):
  Calls Try.prog 108 #[.int .i64 13, .int .u32 a, .int .u32 b] w fun e w'=>e= .returned (.int .u32 (iH 13 a b))∧Below w.heap.size w w':=by
 have CK:=κ (fun w=>bT 0 a b 0 w h0 g0 h1 g1 (by decide) (by decide))
 by_cases hx:a=b
 ·have e:iH 13 a b=1:=by show(if a=b then 1 else 0)=_;rw [if_pos hx]
  rw [e]
  clear e
  go_enter Try.func108,Try.ntmps108
  go_wp2_with (first
   | (go_at_call 86;(with_reducible refine(CK.out _).mono ?_);rintro e w' ⟨rfl,rfl⟩)
   | (go_at_call 163;(with_reducible refine(aY _ _ (by omega) (by omega)).mono ?_);rintro e w' ⟨rfl,rfl⟩)
   | (go_at_call 109;(with_reducible refine(bI _ _).mono ?_);rintro e w' ⟨rfl,rfl⟩))
  go_ret
  first | exact⟨rfl,((Below.refl _ _).alloc (Nat.le_refl _) _)⟩ | exact⟨eP (by simp),((Below.refl _ _).alloc (Nat.le_refl _) _)⟩
 ·have e:iH 13 a b=0:=by show(if a=b then 1 else 0)=_;rw [if_neg hx]
  rw [e]
  clear e
  go_enter Try.func108,Try.ntmps108
  go_wp2_with (first
   | (go_at_call 86;(with_reducible refine(CK.out _).mono ?_);rintro e w' ⟨rfl,rfl⟩)
   | (go_at_call 163;(with_reducible refine(aY _ _ (by omega) (by omega)).mono ?_);rintro e w' ⟨rfl,rfl⟩)
   | (go_at_call 109;(with_reducible refine(bI _ _).mono ?_);rintro e w' ⟨rfl,rfl⟩))
  go_ret
  first | exact⟨rfl,((Below.refl _ _).alloc (Nat.le_refl _) _)⟩ | exact⟨eP (by simp),((Below.refl _ _).alloc (Nat.le_refl _) _)⟩
theorem QZ (a b:Int) (w:World) (h0:0≤a) (g0:a<4294967296) (h1:0≤b) (g1:b<4294967296):
  Calls Try.prog 108 #[.int .i64 14, .int .u32 a, .int .u32 b] w fun e w'=>e= .returned (.int .u32 (iH 14 a b))∧Below w.heap.size w w':=by
 have CK:=κ (fun w=>bT 0 a b 0 w h0 g0 h1 g1 (by decide) (by decide))
 by_cases hx:a<b
 ·have e:iH 14 a b=1:=by show(if a<b then 1 else 0)=_;rw [if_pos hx]
  rw [e]
  clear e
  go_enter Try.func108,Try.ntmps108
  go_wp2_with (first
   | (go_at_call 86;(with_reducible refine(CK.out _).mono ?_);rintro e w' ⟨rfl,rfl⟩)
   | (go_at_call 163;(with_reducible refine(aY _ _ (by omega) (by omega)).mono ?_);rintro e w' ⟨rfl,rfl⟩)
   | (go_at_call 109;(with_reducible refine(bI _ _).mono ?_);rintro e w' ⟨rfl,rfl⟩))
  go_ret
  first | exact⟨rfl,((Below.refl _ _).alloc (Nat.le_refl _) _)⟩ | exact⟨eP (by simp),((Below.refl _ _).alloc (Nat.le_refl _) _)⟩
 ·have e:iH 14 a b=0:=by show(if a<b then 1 else 0)=_;rw [if_neg hx]
  rw [e]
  clear e
  go_enter Try.func108,Try.ntmps108
  go_wp2_with (first
   | (go_at_call 86;(with_reducible refine(CK.out _).mono ?_);rintro e w' ⟨rfl,rfl⟩)
   | (go_at_call 163;(with_reducible refine(aY _ _ (by omega) (by omega)).mono ?_);rintro e w' ⟨rfl,rfl⟩)
   | (go_at_call 109;(with_reducible refine(bI _ _).mono ?_);rintro e w' ⟨rfl,rfl⟩))
  go_ret
  first | exact⟨rfl,((Below.refl _ _).alloc (Nat.le_refl _) _)⟩ | exact⟨eP (by simp),((Below.refl _ _).alloc (Nat.le_refl _) _)⟩
theorem Q5 (a b:Int) (w:World) (h0:0≤a) (g0:a<4294967296) (h1:0≤b) (g1:b<4294967296):
  Calls Try.prog 108 #[.int .i64 15, .int .u32 a, .int .u32 b] w fun e w'=>e= .returned (.int .u32 (iH 15 a b))∧Below w.heap.size w w':=by
 have CK:=κ (fun w=>bT 0 a b 0 w h0 g0 h1 g1 (by decide) (by decide))
 by_cases hx:sg a<sg b
 ·have e:iH 15 a b=1:=by show(if sg a<sg b then 1 else 0)=_;rw [if_pos hx]
  rw [e]
  clear e
  go_enter Try.func108,Try.ntmps108
  go_wp2_with (first
   | (go_at_call 86;(with_reducible refine(CK.out _).mono ?_);rintro e w' ⟨rfl,rfl⟩)
   | (go_at_call 163;(with_reducible refine(aY _ _ (by omega) (by omega)).mono ?_);rintro e w' ⟨rfl,rfl⟩)
   | (go_at_call 109;(with_reducible refine(bI _ _).mono ?_);rintro e w' ⟨rfl,rfl⟩))
  go_ret
  first | exact⟨rfl,((Below.refl _ _).alloc (Nat.le_refl _) _)⟩ | exact⟨eP (by simp),((Below.refl _ _).alloc (Nat.le_refl _) _)⟩
 ·have e:iH 15 a b=0:=by show(if sg a<sg b then 1 else 0)=_;rw [if_neg hx]
  rw [e]
  clear e
  go_enter Try.func108,Try.ntmps108
  go_wp2_with (first
   | (go_at_call 86;(with_reducible refine(CK.out _).mono ?_);rintro e w' ⟨rfl,rfl⟩)
   | (go_at_call 163;(with_reducible refine(aY _ _ (by omega) (by omega)).mono ?_);rintro e w' ⟨rfl,rfl⟩)
   | (go_at_call 109;(with_reducible refine(bI _ _).mono ?_);rintro e w' ⟨rfl,rfl⟩))
  go_ret
  first | exact⟨rfl,((Below.refl _ _).alloc (Nat.le_refl _) _)⟩ | exact⟨eP (by simp),((Below.refl _ _).alloc (Nat.le_refl _) _)⟩
theorem Lr (k a b:Int) (w:World) (k0:0≤k) (k1:k<16) (h0:0≤a) (g0:a<4294967296) (h1:0≤b) (g1:b<4294967296):
  Calls Try.prog 108 #[.int .i64 k, .int .u32 a, .int .u32 b] w fun e w'=>e= .returned (.int .u32 (iH k a b))∧Below w.heap.size w w':=by
 rcases(show k=0∨k=1∨k=2∨k=3∨k=4∨k=5∨k=6∨k=7∨k=8∨k=9∨k=10∨k=11∨k=12∨k=13∨k=14∨k=15 by omega) with rfl | rfl | rfl | rfl | rfl | rfl | rfl | rfl | rfl | rfl | rfl | rfl | rfl | rfl | rfl | rfl
 ·exact Xa a b w h0 g0 h1 g1
 ·exact Xb a b w h0 g0 h1 g1
 ·exact Xc a b w h0 g0 h1 g1
 ·exact Xd a b w h0 g0 h1 g1
 ·exact Xe a b w h0 g0 h1 g1
 ·exact Xf a b w h0 g0 h1 g1
 ·exact Xg a b w h0 g0 h1 g1
 ·exact Xh a b w h0 g0 h1 g1
 ·exact Xi a b w h0 g0 h1 g1
 ·exact Xj a b w h0 g0 h1 g1
 ·exact QU a b w h0 g0 h1 g1
 ·exact QV a b w h0 g0 h1 g1
 ·exact QW a b w h0 g0 h1 g1
 ·exact QY a b w h0 g0 h1 g1
 ·exact QZ a b w h0 g0 h1 g1
 ·exact Q5 a b w h0 g0 h1 g1
theorem Xk (ow oa ob oc kn on a b c:Int) (w:World) (k0:0≤kn) (k1:kn<4294967296) (a0:0≤a) (a1:a<4294967296) (b0:0≤b) (b1:b<4294967296) (c0:0≤c) (c1:c<4294967296):
  Calls Try.prog 64 #[.agg #[.int .i64 1, .int .i64 ow, .int .i64 oa, .int .i64 ob, .int .i64 oc, .int .u32 kn, .int .i64 on], .int .u32 a, .int .u32 b, .int .u32 c] w fun e w'=>e= .returned (.int .u32 (fD 1 ow kn a b c))∧Below w.heap.size w w':=by
 go_enter Try.func64,Try.ntmps64
 go_wp2_with fail
 go_ret
 exact⟨rfl,(Below.refl _ _).alloc (Nat.le_refl _) _⟩
theorem Xl (ow oa ob oc kn on a b c:Int) (w:World) (k0:0≤kn) (k1:kn<4294967296) (a0:0≤a) (a1:a<4294967296) (b0:0≤b) (b1:b<4294967296) (c0:0≤c) (c1:c<4294967296) (hw:0≤ow∧ow<16):
  Calls Try.prog 64 #[.agg #[.int .i64 4, .int .i64 ow, .int .i64 oa, .int .i64 ob, .int .i64 oc, .int .u32 kn, .int .i64 on], .int .u32 a, .int .u32 b, .int .u32 c] w fun e w'=>e= .returned (.int .u32 (fD 4 ow kn a b c))∧Below w.heap.size w w':=by
 have CB:=κ (fun w=>Lr ow a b w hw.1 hw.2 a0 a1 b0 b1)
 go_enter Try.func64,Try.ntmps64
 go_wp2_with (go_at_call 108;(with_reducible refine(CB.out _).mono ?_);rintro e w1 ⟨rfl,hb⟩)
 go_ret
 exact⟨rfl,((Below.refl _ _).alloc (Nat.le_refl _) _).trans (hb.mono (by simp))⟩
theorem Xm (ow oa ob oc kn on a b c:Int) (w:World) (k0:0≤kn) (k1:kn<4294967296) (a0:0≤a) (a1:a<4294967296) (b0:0≤b) (b1:b<4294967296) (c0:0≤c) (c1:c<4294967296) (hw:0≤ow∧ow<7):
  Calls Try.prog 64 #[.agg #[.int .i64 5, .int .i64 ow, .int .i64 oa, .int .i64 ob, .int .i64 oc, .int .u32 kn, .int .i64 on], .int .u32 a, .int .u32 b, .int .u32 c] w fun e w'=>e= .returned (.int .u32 (fD 5 ow kn a b c))∧Below w.heap.size w w':=by
 have CB:=κ (fun w=>oH ow a w hw.1 hw.2 a0 a1)
 go_enter Try.func64,Try.ntmps64
 go_wp2_with (go_at_call 106;(with_reducible refine(CB.out _).mono ?_);rintro e w1 ⟨rfl,rfl⟩)
 go_ret
 exact⟨rfl,(Below.refl _ _).alloc (Nat.le_refl _) _⟩
theorem Xn (ow oa ob oc kn on a b c:Int) (w:World) (k0:0≤kn) (k1:kn<4294967296) (a0:0≤a) (a1:a<4294967296) (b0:0≤b) (b1:b<4294967296) (c0:0≤c) (c1:c<4294967296):
  Calls Try.prog 64 #[.agg #[.int .i64 6, .int .i64 ow, .int .i64 oa, .int .i64 ob, .int .i64 oc, .int .u32 kn, .int .i64 on], .int .u32 a, .int .u32 b, .int .u32 c] w fun e w'=>e= .returned (.int .u32 (fD 6 ow kn a b c))∧Below w.heap.size w w':=by
 by_cases hx:a=0
 ·have e:fD 6 ow kn a b c=c:=by show(if a=0 then c else b)=_;rw [if_pos hx]
  rw [e]
  clear e
  have aQ:(a !=0)=false:=by simp [hx]
  go_enter Try.func64,Try.ntmps64
  go_wp2_with fail
  go_ret
  exact⟨rfl,(Below.refl _ _).alloc (Nat.le_refl _) _⟩
 ·have e:fD 6 ow kn a b c=b:=by show(if a=0 then c else b)=_;rw [if_neg hx]
  rw [e]
  clear e
  have aQ:(a !=0)=true:=by simp [hx]
  go_enter Try.func64,Try.ntmps64
  go_wp2_with fail
  go_ret
  exact⟨rfl,(Below.refl _ _).alloc (Nat.le_refl _) _⟩
theorem Xo (ow oa ob oc kn on a b c:Int) (w:World) (k0:0≤kn) (k1:kn<4294967296) (a0:0≤a) (a1:a<4294967296) (b0:0≤b) (b1:b<4294967296) (c0:0≤c) (c1:c<4294967296):
  Calls Try.prog 64 #[.agg #[.int .i64 7, .int .i64 ow, .int .i64 oa, .int .i64 ob, .int .i64 oc, .int .u32 kn, .int .i64 on], .int .u32 a, .int .u32 b, .int .u32 c] w fun e w'=>e= .returned (.int .u32 (fD 7 ow kn a b c))∧Below w.heap.size w w':=by
 have CB:=κ (fun w=>bU ow a b c w a0 a1 b0 b1 c0 c1)
 go_enter Try.func64,Try.ntmps64
 go_wp2_with (go_at_call 84;(with_reducible refine(CB.out _).mono ?_);rintro e w1 ⟨rfl,rfl⟩)
 go_ret
 exact⟨rfl,(Below.refl _ _).alloc (Nat.le_refl _) _⟩
theorem Xp (ow oa ob oc kn on a b c:Int) (w:World) (k0:0≤kn) (k1:kn<4294967296) (a0:0≤a) (a1:a<4294967296) (b0:0≤b) (b1:b<4294967296) (c0:0≤c) (c1:c<4294967296) (hw: -9223372036854775808≤ow∧ow<9223372036854775808):
  Calls Try.prog 64 #[.agg #[.int .i64 8, .int .i64 ow, .int .i64 oa, .int .i64 ob, .int .i64 oc, .int .u32 kn, .int .i64 on], .int .u32 a, .int .u32 b, .int .u32 c] w fun e w'=>e= .returned (.int .u32 (fD 8 ow kn a b c))∧Below w.heap.size w w':=by
 have CB:=κ (fun w=>DI ow a w a0 a1)
 have e:fD 8 ow kn a b c=(if Fl.hd ow a then 1 else 0):=rfl
 rw [e]
 clear e
 generalize Fl.hd ow a=t at CB
 have CT:=κ (fun w=>bI t w)
 generalize(if t=true then(1:Int) else 0)=z at CT⊢
 go_enter Try.func64,Try.ntmps64
 go_wp2_with (first | (go_at_call 83;(with_reducible refine(CB.out _).mono ?_);rintro e w1 ⟨rfl,hb⟩) | (go_at_call 109;(with_reducible refine(CT.out _).mono ?_);rintro e w2 ⟨rfl,rfl⟩))
 go_ret
 exact⟨rfl,((Below.refl _ _).alloc (Nat.le_refl _) _).trans (hb.mono (by simp))⟩
theorem jY (k:Int) (ow oa ob oc kn on a b c:Int) (w:World) (k0:0≤kn) (k1:kn<4294967296) (a0:0≤a) (a1:a<4294967296) (b0:0≤b) (b1:b<4294967296) (c0:0≤c) (c1:c<4294967296) (hk:k=1∨(k=4∧0≤ow∧ow<16)∨(k=5∧0≤ow∧ow<7)∨k=6∨k=7∨(k=8∧0≤ow∧ow<16)):
  Calls Try.prog 64 #[.agg #[.int .i64 k, .int .i64 ow, .int .i64 oa, .int .i64 ob, .int .i64 oc, .int .u32 kn, .int .i64 on], .int .u32 a, .int .u32 b, .int .u32 c] w fun e w'=>e= .returned (.int .u32 (fD k ow kn a b c))∧Below w.heap.size w w':=by
 rcases hk with rfl | ⟨rfl,hw⟩ | ⟨rfl,hw⟩ | rfl | rfl | ⟨rfl,hw⟩
 ·exact Xk ow oa ob oc kn on a b c w k0 k1 a0 a1 b0 b1 c0 c1
 ·exact Xl ow oa ob oc kn on a b c w k0 k1 a0 a1 b0 b1 c0 c1 hw
 ·exact Xm ow oa ob oc kn on a b c w k0 k1 a0 a1 b0 b1 c0 c1 hw
 ·exact Xn ow oa ob oc kn on a b c w k0 k1 a0 a1 b0 b1 c0 c1
 ·exact Xo ow oa ob oc kn on a b c w k0 k1 a0 a1 b0 b1 c0 c1
 ·exact Xp ow oa ob oc kn on a b c w k0 k1 a0 a1 b0 b1 c0 c1 ⟨by omega,by omega⟩
theorem qN {P:RP} {M:MM} {W:World} (h:RM P M W) {i:Nat} (hi:P.has i):i<W.heap.size:=by
 rcases hi with e | e | e | e | e
 ·rw [e];exact h.lq
 ·rw [e];exact h.lb
 ·rw [e];exact h.lr
 ·rw [e];exact h.lm
 ·rw [e];exact h.lt
theorem aaB (P:RP) (M:MM) (a:Int) (w:World) (h:RM P M w) (hM:iC M) (a0:0≤a) (a1:a<4294967296):
  Calls Try.prog 62 #[.pointer (some ⟨P.q,0,none⟩), .int .i64 0, .int .u32 a] w fun e w'=>e= .returned (.tuple #[.int .u32 (wid 0 (nC M a 1)),iO 5 (cO M 1 a (1:Int).toNat)])∧Below w.heap.size w w':=by
 have CL:=fun w h=>lJ P M a 1 w h hM a0 a1 (by omega)
 have VB:=pR hM a 1
 have ew:wid 0 (nC M a 1)=nC M a 1:=rfl
 rw [ew]
 rw [St.dQ]
 simp only [St.dQ] at CL
 generalize nC M a 1=v at CL VB⊢
 generalize St.qG 5 (cO M 1 a (1:Int).toNat)=kk at CL⊢
 generalize St.wP (cO M 1 a (1:Int).toNat)=xx at CL⊢
 have CL:=κ CL
 have CU:=κ (fun(k:Int) (hk:0≤k∧k<7) w=>oH k v w hk.1 hk.2 VB.1 VB.2)
 have u0:=(ah.refl (fun _=>False) w).alloc (.cells #[.int .i64 0, .int .u32 0] 46)
 have HH:=κ (h.upto u0 (fun _ _=>id))
 have kb:=KB.new w 0 0 46
 have b0:Below w.heap.size w (w.alloc (.cells #[.int .i64 0, .int .u32 0] 46)):=(Below.refl _ _).alloc (Nat.le_refl _) _
 clear h ew u0
 go_enter Try.func62,Try.ntmps62
 go_upto_region 1 with fail
 generalize w.alloc (.cells #[.int .i64 0, .int .u32 0] 46)=WA at HH kb b0⊢
 have KA:=κ kb
 clear kb
 go_upto_region 6 with(first
  | (go_at_call 105;(with_reducible refine(CL.out _ (by first | exact HH.out | exact HH.out.upto ((ah.refl (fun _=>False) WA).alloc _) (fun _ _=>id))).mono ?_);rintro e w1 ⟨rfl,b1⟩;have ub:ah (fun _=>False) WA w1:=(by first | exact ah.aG b1 | exact((ah.refl _ WA).alloc _).trans (ah.aG b1));have lA:=KA.out.l;have bb:=κ (b0.trans (ub.below b0.size (fun _ _=>id)));have K1:=κ (KA.out.upto ub id);have lw:=Nat.lt_of_lt_of_le lA ub.size;clear b1 ub)
  | (go_at_call 106;(with_reducible refine(CU.out _ (by decide) _).mono ?_);rintro e w2 ⟨rfl,rfl⟩))
 have tn:=KB.new w1 kk xx 46
 have un:=(ah.refl (fun _=>False) w1).alloc (.cells #[.int .i64 kk, .int .u32 xx] 46)
 have R2:=K1.out.upto un id
 have B2:=κ (bb.out.trans (un.below bb.out.size (fun _ _=>id)))
 generalize w1.alloc (.cells #[.int .i64 kk, .int .u32 xx] 46)=W2 at tn un R2 B2⊢
 clear un
 have nb:¬w1.heap.size=w.heap.size:=by omega
 have nb':¬w.heap.size=w1.heap.size:=by omega
 have t0:=tn.c0
 have t1:=tn.c1
 have r0:=R2.c0
 have r1:=R2.c1
 have z0:=R2.z 0
 have z1:=R2.z 1
 have lr:=R2.l
 have R2:=κ R2
 clear tn
 go_region
 clear t0 t1 r0 r1 z0 z1
 have ks:=(R2.out.set kk xx)
 have bs:=((B2.out.setCell (p:=⟨w.heap.size,0,none⟩) (Nat.le_refl _) (.int .i64 kk)).setCell (p:=⟨w.heap.size,1,none⟩) (Nat.le_refl _) (.int .u32 xx))
 generalize(W2.setCell ⟨w.heap.size,0,none⟩ (.int .i64 kk)).setCell ⟨w.heap.size,1,none⟩ (.int .u32 xx)=W3 at ks bs⊢
 have bd:=bs.drew
 have g0:W3.drew.cell? ⟨w.heap.size,0,none⟩=some (.int .i64 kk):=ks.c0
 have g1:W3.drew.cell? ⟨w.heap.size,1,none⟩=some (.int .u32 xx):=ks.c1
 clear ks bs
 generalize W3.drew=W4 at bd g0 g1⊢
 go_wp2_with fail
 exact bodyPost_ret (v:= .tuple #[.int .u32 (v), .agg #[.int .i64 kk, .int .u32 xx]]) (by simp [results,Try.results62,go_sem,g0,g1]) rfl ⟨rfl,bd⟩
theorem aaC (P:RP) (M:MM) (a:Int) (w:World) (h:RM P M w) (hM:iC M) (a0:0≤a) (a1:a<4294967296):
  Calls Try.prog 62 #[.pointer (some ⟨P.q,0,none⟩), .int .i64 1, .int .u32 a] w fun e w'=>e= .returned (.tuple #[.int .u32 (wid 1 (nC M a 1)),iO 5 (cO M 1 a (1:Int).toNat)])∧Below w.heap.size w w':=by
 have CL:=fun w h=>lJ P M a 1 w h hM a0 a1 (by omega)
 have VB:=pR hM a 1
 have ew:wid 1 (nC M a 1)=s8 (nC M a 1):=rfl
 rw [ew]
 rw [St.dQ]
 simp only [St.dQ] at CL
 generalize nC M a 1=v at CL VB⊢
 generalize St.qG 5 (cO M 1 a (1:Int).toNat)=kk at CL⊢
 generalize St.wP (cO M 1 a (1:Int).toNat)=xx at CL⊢
 have CL:=κ CL
 have CU:=κ (fun(k:Int) (hk:0≤k∧k<7) w=>oH k v w hk.1 hk.2 VB.1 VB.2)
 have u0:=(ah.refl (fun _=>False) w).alloc (.cells #[.int .i64 0, .int .u32 0] 46)
 have HH:=κ (h.upto u0 (fun _ _=>id))
 have kb:=KB.new w 0 0 46
 have b0:Below w.heap.size w (w.alloc (.cells #[.int .i64 0, .int .u32 0] 46)):=(Below.refl _ _).alloc (Nat.le_refl _) _
 clear h ew u0
 go_enter Try.func62,Try.ntmps62
 go_upto_region 1 with fail
 generalize w.alloc (.cells #[.int .i64 0, .int .u32 0] 46)=WA at HH kb b0⊢
 have KA:=κ kb
 clear kb
 go_upto_region 6 with(first
  | (go_at_call 105;(with_reducible refine(CL.out _ (by first | exact HH.out | exact HH.out.upto ((ah.refl (fun _=>False) WA).alloc _) (fun _ _=>id))).mono ?_);rintro e w1 ⟨rfl,b1⟩;have ub:ah (fun _=>False) WA w1:=(by first | exact ah.aG b1 | exact((ah.refl _ WA).alloc _).trans (ah.aG b1));have lA:=KA.out.l;have bb:=κ (b0.trans (ub.below b0.size (fun _ _=>id)));have K1:=κ (KA.out.upto ub id);have lw:=Nat.lt_of_lt_of_le lA ub.size;clear b1 ub)
  | (go_at_call 106;(with_reducible refine(CU.out _ (by decide) _).mono ?_);rintro e w2 ⟨rfl,rfl⟩))
 have tn:=KB.new w1 kk xx 46
 have un:=(ah.refl (fun _=>False) w1).alloc (.cells #[.int .i64 kk, .int .u32 xx] 46)
 have R2:=K1.out.upto un id
 have B2:=κ (bb.out.trans (un.below bb.out.size (fun _ _=>id)))
 generalize w1.alloc (.cells #[.int .i64 kk, .int .u32 xx] 46)=W2 at tn un R2 B2⊢
 clear un
 have nb:¬w1.heap.size=w.heap.size:=by omega
 have nb':¬w.heap.size=w1.heap.size:=by omega
 have t0:=tn.c0
 have t1:=tn.c1
 have r0:=R2.c0
 have r1:=R2.c1
 have z0:=R2.z 0
 have z1:=R2.z 1
 have lr:=R2.l
 have R2:=κ R2
 clear tn
 go_region
 clear t0 t1 r0 r1 z0 z1
 have ks:=(R2.out.set kk xx)
 have bs:=((B2.out.setCell (p:=⟨w.heap.size,0,none⟩) (Nat.le_refl _) (.int .i64 kk)).setCell (p:=⟨w.heap.size,1,none⟩) (Nat.le_refl _) (.int .u32 xx))
 generalize(W2.setCell ⟨w.heap.size,0,none⟩ (.int .i64 kk)).setCell ⟨w.heap.size,1,none⟩ (.int .u32 xx)=W3 at ks bs⊢
 have bd:=bs.drew
 have g0:W3.drew.cell? ⟨w.heap.size,0,none⟩=some (.int .i64 kk):=ks.c0
 have g1:W3.drew.cell? ⟨w.heap.size,1,none⟩=some (.int .u32 xx):=ks.c1
 clear ks bs
 generalize W3.drew=W4 at bd g0 g1⊢
 go_wp2_with fail
 exact bodyPost_ret (v:= .tuple #[.int .u32 (xI 2 v), .agg #[.int .i64 kk, .int .u32 xx]]) (by simp [results,Try.results62,go_sem,g0,g1]) rfl ⟨rfl,bd⟩
theorem aaD (P:RP) (M:MM) (a:Int) (w:World) (h:RM P M w) (hM:iC M) (a0:0≤a) (a1:a<4294967296):
  Calls Try.prog 62 #[.pointer (some ⟨P.q,0,none⟩), .int .i64 2, .int .u32 a] w fun e w'=>e= .returned (.tuple #[.int .u32 (wid 2 (nC M a 2)),iO 5 (cO M 1 a (2:Int).toNat)])∧Below w.heap.size w w':=by
 have CL:=fun w h=>lJ P M a 2 w h hM a0 a1 (by omega)
 have VB:=pR hM a 2
 have ew:wid 2 (nC M a 2)=nC M a 2:=rfl
 rw [ew]
 rw [St.dQ]
 simp only [St.dQ] at CL
 generalize nC M a 2=v at CL VB⊢
 generalize St.qG 5 (cO M 1 a (2:Int).toNat)=kk at CL⊢
 generalize St.wP (cO M 1 a (2:Int).toNat)=xx at CL⊢
 have CL:=κ CL
 have CU:=κ (fun(k:Int) (hk:0≤k∧k<7) w=>oH k v w hk.1 hk.2 VB.1 VB.2)
 have u0:=(ah.refl (fun _=>False) w).alloc (.cells #[.int .i64 0, .int .u32 0] 46)
 have HH:=κ (h.upto u0 (fun _ _=>id))
 have kb:=KB.new w 0 0 46
 have b0:Below w.heap.size w (w.alloc (.cells #[.int .i64 0, .int .u32 0] 46)):=(Below.refl _ _).alloc (Nat.le_refl _) _
 clear h ew u0
 go_enter Try.func62,Try.ntmps62
 go_upto_region 1 with fail
 generalize w.alloc (.cells #[.int .i64 0, .int .u32 0] 46)=WA at HH kb b0⊢
 have KA:=κ kb
 clear kb
 go_upto_region 6 with(first
  | (go_at_call 105;(with_reducible refine(CL.out _ (by first | exact HH.out | exact HH.out.upto ((ah.refl (fun _=>False) WA).alloc _) (fun _ _=>id))).mono ?_);rintro e w1 ⟨rfl,b1⟩;have ub:ah (fun _=>False) WA w1:=(by first | exact ah.aG b1 | exact((ah.refl _ WA).alloc _).trans (ah.aG b1));have lA:=KA.out.l;have bb:=κ (b0.trans (ub.below b0.size (fun _ _=>id)));have K1:=κ (KA.out.upto ub id);have lw:=Nat.lt_of_lt_of_le lA ub.size;clear b1 ub)
  | (go_at_call 106;(with_reducible refine(CU.out _ (by decide) _).mono ?_);rintro e w2 ⟨rfl,rfl⟩))
 have tn:=KB.new w1 kk xx 46
 have un:=(ah.refl (fun _=>False) w1).alloc (.cells #[.int .i64 kk, .int .u32 xx] 46)
 have R2:=K1.out.upto un id
 have B2:=κ (bb.out.trans (un.below bb.out.size (fun _ _=>id)))
 generalize w1.alloc (.cells #[.int .i64 kk, .int .u32 xx] 46)=W2 at tn un R2 B2⊢
 clear un
 have nb:¬w1.heap.size=w.heap.size:=by omega
 have nb':¬w.heap.size=w1.heap.size:=by omega
 have t0:=tn.c0
 have t1:=tn.c1
 have r0:=R2.c0
 have r1:=R2.c1
 have z0:=R2.z 0
 have z1:=R2.z 1
 have lr:=R2.l
 have R2:=κ R2
 clear tn
 go_region
 clear t0 t1 r0 r1 z0 z1
 have ks:=(R2.out.set kk xx)
 have bs:=((B2.out.setCell (p:=⟨w.heap.size,0,none⟩) (Nat.le_refl _) (.int .i64 kk)).setCell (p:=⟨w.heap.size,1,none⟩) (Nat.le_refl _) (.int .u32 xx))
 generalize(W2.setCell ⟨w.heap.size,0,none⟩ (.int .i64 kk)).setCell ⟨w.heap.size,1,none⟩ (.int .u32 xx)=W3 at ks bs⊢
 have bd:=bs.drew
 have g0:W3.drew.cell? ⟨w.heap.size,0,none⟩=some (.int .i64 kk):=ks.c0
 have g1:W3.drew.cell? ⟨w.heap.size,1,none⟩=some (.int .u32 xx):=ks.c1
 clear ks bs
 generalize W3.drew=W4 at bd g0 g1⊢
 go_wp2_with fail
 exact bodyPost_ret (v:= .tuple #[.int .u32 (v), .agg #[.int .i64 kk, .int .u32 xx]]) (by simp [results,Try.results62,go_sem,g0,g1]) rfl ⟨rfl,bd⟩
theorem aaE (P:RP) (M:MM) (a:Int) (w:World) (h:RM P M w) (hM:iC M) (a0:0≤a) (a1:a<4294967296):
  Calls Try.prog 62 #[.pointer (some ⟨P.q,0,none⟩), .int .i64 3, .int .u32 a] w fun e w'=>e= .returned (.tuple #[.int .u32 (wid 3 (nC M a 2)),iO 5 (cO M 1 a (2:Int).toNat)])∧Below w.heap.size w w':=by
 have CL:=fun w h=>lJ P M a 2 w h hM a0 a1 (by omega)
 have VB:=pR hM a 2
 have ew:wid 3 (nC M a 2)=ZA (nC M a 2):=rfl
 rw [ew]
 rw [St.dQ]
 simp only [St.dQ] at CL
 generalize nC M a 2=v at CL VB⊢
 generalize St.qG 5 (cO M 1 a (2:Int).toNat)=kk at CL⊢
 generalize St.wP (cO M 1 a (2:Int).toNat)=xx at CL⊢
 have CL:=κ CL
 have CU:=κ (fun(k:Int) (hk:0≤k∧k<7) w=>oH k v w hk.1 hk.2 VB.1 VB.2)
 have u0:=(ah.refl (fun _=>False) w).alloc (.cells #[.int .i64 0, .int .u32 0] 46)
 have HH:=κ (h.upto u0 (fun _ _=>id))
 have kb:=KB.new w 0 0 46
 have b0:Below w.heap.size w (w.alloc (.cells #[.int .i64 0, .int .u32 0] 46)):=(Below.refl _ _).alloc (Nat.le_refl _) _
 clear h ew u0
 go_enter Try.func62,Try.ntmps62
 go_upto_region 1 with fail
 generalize w.alloc (.cells #[.int .i64 0, .int .u32 0] 46)=WA at HH kb b0⊢
 have KA:=κ kb
 clear kb
 go_upto_region 6 with(first
  | (go_at_call 105;(with_reducible refine(CL.out _ (by first | exact HH.out | exact HH.out.upto ((ah.refl (fun _=>False) WA).alloc _) (fun _ _=>id))).mono ?_);rintro e w1 ⟨rfl,b1⟩;have ub:ah (fun _=>False) WA w1:=(by first | exact ah.aG b1 | exact((ah.refl _ WA).alloc _).trans (ah.aG b1));have lA:=KA.out.l;have bb:=κ (b0.trans (ub.below b0.size (fun _ _=>id)));have K1:=κ (KA.out.upto ub id);have lw:=Nat.lt_of_lt_of_le lA ub.size;clear b1 ub)
  | (go_at_call 106;(with_reducible refine(CU.out _ (by decide) _).mono ?_);rintro e w2 ⟨rfl,rfl⟩))
 have tn:=KB.new w1 kk xx 46
 have un:=(ah.refl (fun _=>False) w1).alloc (.cells #[.int .i64 kk, .int .u32 xx] 46)
 have R2:=K1.out.upto un id
 have B2:=κ (bb.out.trans (un.below bb.out.size (fun _ _=>id)))
 generalize w1.alloc (.cells #[.int .i64 kk, .int .u32 xx] 46)=W2 at tn un R2 B2⊢
 clear un
 have nb:¬w1.heap.size=w.heap.size:=by omega
 have nb':¬w.heap.size=w1.heap.size:=by omega
 have t0:=tn.c0
 have t1:=tn.c1
 have r0:=R2.c0
 have r1:=R2.c1
 have z0:=R2.z 0
 have z1:=R2.z 1
 have lr:=R2.l
 have R2:=κ R2
 clear tn
 go_region
 clear t0 t1 r0 r1 z0 z1
 have ks:=(R2.out.set kk xx)
 have bs:=((B2.out.setCell (p:=⟨w.heap.size,0,none⟩) (Nat.le_refl _) (.int .i64 kk)).setCell (p:=⟨w.heap.size,1,none⟩) (Nat.le_refl _) (.int .u32 xx))
 generalize(W2.setCell ⟨w.heap.size,0,none⟩ (.int .i64 kk)).setCell ⟨w.heap.size,1,none⟩ (.int .u32 xx)=W3 at ks bs⊢
 have bd:=bs.drew
 have g0:W3.drew.cell? ⟨w.heap.size,0,none⟩=some (.int .i64 kk):=ks.c0
 have g1:W3.drew.cell? ⟨w.heap.size,1,none⟩=some (.int .u32 xx):=ks.c1
 clear ks bs
 generalize W3.drew=W4 at bd g0 g1⊢
 go_wp2_with fail
 exact bodyPost_ret (v:= .tuple #[.int .u32 (xI 3 v), .agg #[.int .i64 kk, .int .u32 xx]]) (by simp [results,Try.results62,go_sem,g0,g1]) rfl ⟨rfl,bd⟩
theorem aaF (P:RP) (M:MM) (a:Int) (w:World) (h:RM P M w) (hM:iC M) (a0:0≤a) (a1:a<4294967296):
  Calls Try.prog 62 #[.pointer (some ⟨P.q,0,none⟩), .int .i64 4, .int .u32 a] w fun e w'=>e= .returned (.tuple #[.int .u32 (wid 4 (nC M a 4)),iO 5 (cO M 1 a (4:Int).toNat)])∧Below w.heap.size w w':=by
 have CL:=fun w h=>lJ P M a 4 w h hM a0 a1 (by omega)
 have VB:=pR hM a 4
 have ew:wid 4 (nC M a 4)=nC M a 4:=rfl
 rw [ew]
 rw [St.dQ]
 simp only [St.dQ] at CL
 generalize nC M a 4=v at CL VB⊢
 generalize St.qG 5 (cO M 1 a (4:Int).toNat)=kk at CL⊢
 generalize St.wP (cO M 1 a (4:Int).toNat)=xx at CL⊢
 have CL:=κ CL
 have CU:=κ (fun(k:Int) (hk:0≤k∧k<7) w=>oH k v w hk.1 hk.2 VB.1 VB.2)
 have u0:=(ah.refl (fun _=>False) w).alloc (.cells #[.int .i64 0, .int .u32 0] 46)
 have HH:=κ (h.upto u0 (fun _ _=>id))
 have kb:=KB.new w 0 0 46
 have b0:Below w.heap.size w (w.alloc (.cells #[.int .i64 0, .int .u32 0] 46)):=(Below.refl _ _).alloc (Nat.le_refl _) _
 clear h ew u0
 go_enter Try.func62,Try.ntmps62
 go_upto_region 1 with fail
 generalize w.alloc (.cells #[.int .i64 0, .int .u32 0] 46)=WA at HH kb b0⊢
 have KA:=κ kb
 clear kb
 go_upto_region 6 with(first
  | (go_at_call 105;(with_reducible refine(CL.out _ (by first | exact HH.out | exact HH.out.upto ((ah.refl (fun _=>False) WA).alloc _) (fun _ _=>id))).mono ?_);rintro e w1 ⟨rfl,b1⟩;have ub:ah (fun _=>False) WA w1:=(by first | exact ah.aG b1 | exact((ah.refl _ WA).alloc _).trans (ah.aG b1));have lA:=KA.out.l;have bb:=κ (b0.trans (ub.below b0.size (fun _ _=>id)));have K1:=κ (KA.out.upto ub id);have lw:=Nat.lt_of_lt_of_le lA ub.size;clear b1 ub)
  | (go_at_call 106;(with_reducible refine(CU.out _ (by decide) _).mono ?_);rintro e w2 ⟨rfl,rfl⟩))
 have tn:=KB.new w1 kk xx 46
 have un:=(ah.refl (fun _=>False) w1).alloc (.cells #[.int .i64 kk, .int .u32 xx] 46)
 have R2:=K1.out.upto un id
 have B2:=κ (bb.out.trans (un.below bb.out.size (fun _ _=>id)))
 generalize w1.alloc (.cells #[.int .i64 kk, .int .u32 xx] 46)=W2 at tn un R2 B2⊢
 clear un
 have nb:¬w1.heap.size=w.heap.size:=by omega
 have nb':¬w.heap.size=w1.heap.size:=by omega
 have t0:=tn.c0
 have t1:=tn.c1
 have r0:=R2.c0
 have r1:=R2.c1
 have z0:=R2.z 0
 have z1:=R2.z 1
 have lr:=R2.l
 have R2:=κ R2
 clear tn
 go_region
 clear t0 t1 r0 r1 z0 z1
 have ks:=(R2.out.set kk xx)
 have bs:=((B2.out.setCell (p:=⟨w.heap.size,0,none⟩) (Nat.le_refl _) (.int .i64 kk)).setCell (p:=⟨w.heap.size,1,none⟩) (Nat.le_refl _) (.int .u32 xx))
 generalize(W2.setCell ⟨w.heap.size,0,none⟩ (.int .i64 kk)).setCell ⟨w.heap.size,1,none⟩ (.int .u32 xx)=W3 at ks bs⊢
 have bd:=bs.drew
 have g0:W3.drew.cell? ⟨w.heap.size,0,none⟩=some (.int .i64 kk):=ks.c0
 have g1:W3.drew.cell? ⟨w.heap.size,1,none⟩=some (.int .u32 xx):=ks.c1
 clear ks bs
 generalize W3.drew=W4 at bd g0 g1⊢
 go_wp2_with fail
 exact bodyPost_ret (v:= .tuple #[.int .u32 (v), .agg #[.int .i64 kk, .int .u32 xx]]) (by simp [results,Try.results62,go_sem,g0,g1]) rfl ⟨rfl,bd⟩
theorem aaG (P:RP) (M:MM) (a v:Int) (w:World) (h:RM P M w) (hM:iC M) (a0:0≤a) (a1:a<4294967296) (v0:0≤v) (v1:v<4294967296):
  Calls Try.prog 63 #[.pointer (some ⟨P.q,0,none⟩), .int .i64 0, .int .u32 a, .int .u32 v] w fun e w'=>e= .returned (iO 6 (nJ M a 1))∧RM P (rU M a 1 v) w'∧ah P.has w w':=by
 have CL:=fun w h=>pU P M a 1 v w h hM a0 a1 v0 v1
 have bV:¬P.has w.heap.size:=fun hx=>Nat.lt_irrefl _ (qN h hx)
 rw [St.dQ]
 simp only [St.dQ] at CL
 generalize St.qG 6 (nJ M a 1)=kk at CL⊢
 generalize St.wP (nJ M a 1)=xx at CL⊢
 generalize rU M a 1 v=M' at CL⊢
 have CL:=κ CL
 have u0:=(ah.refl (fun _=>False) w).alloc (.cells #[.int .i64 0, .int .u32 0] 46)
 have HH:=κ (h.upto u0 (fun _ _=>id))
 have kb:=KB.new w 0 0 46
 have U0:=κ (u0.mono (T:=P.has) fun _ _ h=>h.elim)
 clear h u0
 go_enter Try.func63,Try.ntmps63
 go_upto_region 1 with fail
 generalize w.alloc (.cells #[.int .i64 0, .int .u32 0] 46)=WA at HH kb U0⊢
 have KA:=κ kb
 have lA:=kb.l
 have z0:=kb.z 0
 have z1:=kb.z 1
 clear kb
 go_wp2_with (first
  | (go_at_call 107;(with_reducible refine(CL.out _ (by first | exact HH.out | exact HH.out.upto ((ah.refl (fun _=>False) WA).alloc _) (fun _ _=>id))).mono ?_);rintro e w1 ⟨rfl,m1,u1⟩;have ub:ah P.has WA w1:=(by first | exact u1 | exact((ah.refl _ WA).alloc _).trans u1);have M1:=κ m1;have U1:=κ (U0.out.trans ub);have K1:=κ (KA.out.upto ub bV);have r0:=K1.out.c0;have r1:=K1.out.c1;have z0:=K1.out.z 0;have z1:=K1.out.z 1;have lw:=K1.out.l;clear m1 u1 ub))
 have ks:=(K1.out.set kk xx)
 have vs:=(ah.refl (fun i=>i=w.heap.size) w1).setCell (q:=⟨w.heap.size,0,none⟩) (.inl rfl) (.int .i64 kk)
 have vs:=vs.setCell (q:=⟨w.heap.size,1,none⟩) (.inl rfl) (.int .u32 xx)
 have ms:=M1.out.upto vs (fun k hk e=>bV (e▸hk))
 have us:=(U1.out.setCell (q:=⟨w.heap.size,0,none⟩) (.inr (Nat.le_refl _)) (.int .i64 kk)).setCell (q:=⟨w.heap.size,1,none⟩) (.inr (Nat.le_refl _)) (.int .u32 xx)
 clear r0 r1 z0 z1 vs
 have g0:=ks.c0
 have g1:=ks.c1
 generalize(w1.setCell ⟨w.heap.size,0,none⟩ (.int .i64 kk)).setCell ⟨w.heap.size,1,none⟩ (.int .u32 xx)=W3 at ks ms us g0 g1⊢
 exact bodyPost_ret (v:= .agg #[.int .i64 kk, .int .u32 xx]) (by simp [results,Try.results63,go_sem,g0,g1]) rfl ⟨rfl,ms,us⟩
theorem aaH (P:RP) (M:MM) (a v:Int) (w:World) (h:RM P M w) (hM:iC M) (a0:0≤a) (a1:a<4294967296) (v0:0≤v) (v1:v<4294967296):
  Calls Try.prog 63 #[.pointer (some ⟨P.q,0,none⟩), .int .i64 1, .int .u32 a, .int .u32 v] w fun e w'=>e= .returned (iO 6 (nJ M a 2))∧RM P (rU M a 2 v) w'∧ah P.has w w':=by
 have CL:=fun w h=>pU P M a 2 v w h hM a0 a1 v0 v1
 have bV:¬P.has w.heap.size:=fun hx=>Nat.lt_irrefl _ (qN h hx)
 rw [St.dQ]
 simp only [St.dQ] at CL
 generalize St.qG 6 (nJ M a 2)=kk at CL⊢
 generalize St.wP (nJ M a 2)=xx at CL⊢
 generalize rU M a 2 v=M' at CL⊢
 have CL:=κ CL
 have u0:=(ah.refl (fun _=>False) w).alloc (.cells #[.int .i64 0, .int .u32 0] 46)
 have HH:=κ (h.upto u0 (fun _ _=>id))
 have kb:=KB.new w 0 0 46
 have U0:=κ (u0.mono (T:=P.has) fun _ _ h=>h.elim)
 clear h u0
 go_enter Try.func63,Try.ntmps63
 go_upto_region 1 with fail
 generalize w.alloc (.cells #[.int .i64 0, .int .u32 0] 46)=WA at HH kb U0⊢
 have KA:=κ kb
 have lA:=kb.l
 have z0:=kb.z 0
 have z1:=kb.z 1
 clear kb
 go_wp2_with (first
  | (go_at_call 107;(with_reducible refine(CL.out _ (by first | exact HH.out | exact HH.out.upto ((ah.refl (fun _=>False) WA).alloc _) (fun _ _=>id))).mono ?_);rintro e w1 ⟨rfl,m1,u1⟩;have ub:ah P.has WA w1:=(by first | exact u1 | exact((ah.refl _ WA).alloc _).trans u1);have M1:=κ m1;have U1:=κ (U0.out.trans ub);have K1:=κ (KA.out.upto ub bV);have r0:=K1.out.c0;have r1:=K1.out.c1;have z0:=K1.out.z 0;have z1:=K1.out.z 1;have lw:=K1.out.l;clear m1 u1 ub))
 have ks:=(K1.out.set kk xx)
 have vs:=(ah.refl (fun i=>i=w.heap.size) w1).setCell (q:=⟨w.heap.size,0,none⟩) (.inl rfl) (.int .i64 kk)
 have vs:=vs.setCell (q:=⟨w.heap.size,1,none⟩) (.inl rfl) (.int .u32 xx)
 have ms:=M1.out.upto vs (fun k hk e=>bV (e▸hk))
 have us:=(U1.out.setCell (q:=⟨w.heap.size,0,none⟩) (.inr (Nat.le_refl _)) (.int .i64 kk)).setCell (q:=⟨w.heap.size,1,none⟩) (.inr (Nat.le_refl _)) (.int .u32 xx)
 clear r0 r1 z0 z1 vs
 have g0:=ks.c0
 have g1:=ks.c1
 generalize(w1.setCell ⟨w.heap.size,0,none⟩ (.int .i64 kk)).setCell ⟨w.heap.size,1,none⟩ (.int .u32 xx)=W3 at ks ms us g0 g1⊢
 exact bodyPost_ret (v:= .agg #[.int .i64 kk, .int .u32 xx]) (by simp [results,Try.results63,go_sem,g0,g1]) rfl ⟨rfl,ms,us⟩
theorem aaI (P:RP) (M:MM) (a v:Int) (w:World) (h:RM P M w) (hM:iC M) (a0:0≤a) (a1:a<4294967296) (v0:0≤v) (v1:v<4294967296):
  Calls Try.prog 63 #[.pointer (some ⟨P.q,0,none⟩), .int .i64 2, .int .u32 a, .int .u32 v] w fun e w'=>e= .returned (iO 6 (nJ M a 4))∧RM P (rU M a 4 v) w'∧ah P.has w w':=by
 have CL:=fun w h=>pU P M a 4 v w h hM a0 a1 v0 v1
 have bV:¬P.has w.heap.size:=fun hx=>Nat.lt_irrefl _ (qN h hx)
 rw [St.dQ]
 simp only [St.dQ] at CL
 generalize St.qG 6 (nJ M a 4)=kk at CL⊢
 generalize St.wP (nJ M a 4)=xx at CL⊢
 generalize rU M a 4 v=M' at CL⊢
 have CL:=κ CL
 have u0:=(ah.refl (fun _=>False) w).alloc (.cells #[.int .i64 0, .int .u32 0] 46)
 have HH:=κ (h.upto u0 (fun _ _=>id))
 have kb:=KB.new w 0 0 46
 have U0:=κ (u0.mono (T:=P.has) fun _ _ h=>h.elim)
 clear h u0
 go_enter Try.func63,Try.ntmps63
 go_upto_region 1 with fail
 generalize w.alloc (.cells #[.int .i64 0, .int .u32 0] 46)=WA at HH kb U0⊢
 have KA:=κ kb
 have lA:=kb.l
 have z0:=kb.z 0
 have z1:=kb.z 1
 clear kb
 go_wp2_with (first
  | (go_at_call 107;(with_reducible refine(CL.out _ (by first | exact HH.out | exact HH.out.upto ((ah.refl (fun _=>False) WA).alloc _) (fun _ _=>id))).mono ?_);rintro e w1 ⟨rfl,m1,u1⟩;have ub:ah P.has WA w1:=(by first | exact u1 | exact((ah.refl _ WA).alloc _).trans u1);have M1:=κ m1;have U1:=κ (U0.out.trans ub);have K1:=κ (KA.out.upto ub bV);have r0:=K1.out.c0;have r1:=K1.out.c1;have z0:=K1.out.z 0;have z1:=K1.out.z 1;have lw:=K1.out.l;clear m1 u1 ub))
 have ks:=(K1.out.set kk xx)
 have vs:=(ah.refl (fun i=>i=w.heap.size) w1).setCell (q:=⟨w.heap.size,0,none⟩) (.inl rfl) (.int .i64 kk)
 have vs:=vs.setCell (q:=⟨w.heap.size,1,none⟩) (.inl rfl) (.int .u32 xx)
 have ms:=M1.out.upto vs (fun k hk e=>bV (e▸hk))
 have us:=(U1.out.setCell (q:=⟨w.heap.size,0,none⟩) (.inr (Nat.le_refl _)) (.int .i64 kk)).setCell (q:=⟨w.heap.size,1,none⟩) (.inr (Nat.le_refl _)) (.int .u32 xx)
 clear r0 r1 z0 z1 vs
 have g0:=ks.c0
 have g1:=ks.c1
 generalize(w1.setCell ⟨w.heap.size,0,none⟩ (.int .i64 kk)).setCell ⟨w.heap.size,1,none⟩ (.int .u32 xx)=W3 at ks ms us g0 g1⊢
 exact bodyPost_ret (v:= .agg #[.int .i64 kk, .int .u32 xx]) (by simp [results,Try.results63,go_sem,g0,g1]) rfl ⟨rfl,ms,us⟩
theorem FD (P:RP) (M:MM) (j a:Int) (w:World) (h:RM P M w) (hM:iC M) (j0:0≤j) (j1:j<5) (a0:0≤a) (a1:a<4294967296):
  Calls Try.prog 62 #[.pointer (some ⟨P.q,0,none⟩), .int .i64 j, .int .u32 a] w fun e w'=>e= .returned (.tuple #[.int .u32 (wid j (nC M a (ni j))),iO 5 (cO M 1 a (ni j).toNat)])∧Below w.heap.size w w':=by
 rcases(show j=0∨j=1∨j=2∨j=3∨j=4 by omega) with rfl | rfl | rfl | rfl | rfl
 ·exact aaB P M a w h hM a0 a1
 ·exact aaC P M a w h hM a0 a1
 ·exact aaD P M a w h hM a0 a1
 ·exact aaE P M a w h hM a0 a1
 ·exact aaF P M a w h hM a0 a1
theorem FH (P:RP) (M:MM) (j a v:Int) (w:World) (h:RM P M w) (hM:iC M) (j0:0≤j) (j1:j<3) (a0:0≤a) (a1:a<4294967296) (v0:0≤v) (v1:v<4294967296):
  Calls Try.prog 63 #[.pointer (some ⟨P.q,0,none⟩), .int .i64 j, .int .u32 a, .int .u32 v] w fun e w'=>e= .returned (iO 6 (nJ M a (oD j)))∧RM P (rU M a (oD j) v) w'∧ah P.has w w':=by
 rcases(show j=0∨j=1∨j=2 by omega) with rfl | rfl | rfl
 ·exact aaG P M a v w h hM a0 a1 v0 v1
 ·exact aaH P M a v w h hM a0 a1 v0 v1
 ·exact aaI P M a v w h hM a0 a1 v0 v1
def kY (c:Nat→Int):Array Value:= #[.int .u32 (c 0), .int .u32 (c 1), .int .u32 (c 2), .int .u32 (c 3), .int .u32 (c 4), .int .u32 (c 5), .int .u32 (c 6), .int .u32 (c 7), .int .u32 (c 8), .int .u32 (c 9), .int .u32 (c 10), .int .u32 (c 11)]
structure CB (h:Nat) (c:Nat→Int) (W:World):Prop where
 r:∀j,j<12→W.cell? ⟨h,j,none⟩=some (.int .u32 (c j))
 z:∀j,W.frozen? ⟨h,j,none⟩=false
 l:h<W.heap.size
variable {h:Nat} {c:Nat→Int} {W W':World}
theorem CB.upto {S:Nat→Prop} (a:CB h c W) (u:ah S W W') (hs:¬S h):CB h c W':=
 ⟨fun j hj=>(u.cell (q:=⟨h,j,none⟩) a.l hs).trans (a.r j hj),fun j=>(u.frozen (q:=⟨h,j,none⟩) a.l hs).trans (a.z j),Nat.lt_of_lt_of_le a.l u.size⟩
theorem CB.drew (a:CB h c W):CB h c W.drew:=a.upto (ah.refl (fun _=>False) W).drew id
theorem CB.new (w:World) (c:Nat→Int) (t:TypeId):CB w.heap.size c (w.alloc (.cells (kY c) t)):=by
 refine⟨fun j hj=> ?_,fun j=>mg w _ _ j,by simp⟩
 rw [aW w (kY c) t j]
 match j,hj with
 | 0,_ | 1,_ | 2,_ | 3,_ | 4,_ | 5,_ | 6,_ | 7,_ | 8,_ | 9,_ | 10,_ | 11,_=>rfl
 | n+12,h=>omega
theorem CB.all (a:CB h c W):W.cell? ⟨h,0,none⟩=some (.int .u32 (c 0))∧W.cell? ⟨h,1,none⟩=some (.int .u32 (c 1))∧W.cell? ⟨h,2,none⟩=some (.int .u32 (c 2))∧W.cell? ⟨h,3,none⟩=some (.int .u32 (c 3))∧W.cell? ⟨h,4,none⟩=some (.int .u32 (c 4))∧W.cell? ⟨h,5,none⟩=some (.int .u32 (c 5))∧W.cell? ⟨h,6,none⟩=some (.int .u32 (c 6))∧W.cell? ⟨h,7,none⟩=some (.int .u32 (c 7))∧W.cell? ⟨h,8,none⟩=some (.int .u32 (c 8))∧W.cell? ⟨h,9,none⟩=some (.int .u32 (c 9))∧W.cell? ⟨h,10,none⟩=some (.int .u32 (c 10))∧W.cell? ⟨h,11,none⟩=some (.int .u32 (c 11)):=
 ⟨a.r 0 (by omega),a.r 1 (by omega),a.r 2 (by omega),a.r 3 (by omega),a.r 4 (by omega),a.r 5 (by omega),a.r 6 (by omega),a.r 7 (by omega),a.r 8 (by omega),a.r 9 (by omega),a.r 10 (by omega),a.r 11 (by omega)⟩
theorem CB.set (a:CB h c W) (i:Nat) (hi:i<12) (z:Int):CB h (aO c i z) (W.setCell ⟨h,i,none⟩ (.int .u32 z)):=by
 refine⟨fun j hj=> ?_,fun j=>by simpa using a.z j,by simpa using a.l⟩
 by_cases e:j=i
 ·subst e;rw [World.cell?_setCell_same _ _ _ (a.r j hj)];simp [aO]
 ·rw [off e,a.r j hj];simp [aO,e]
theorem CB.congr {c':Nat→Int} (a:CB h c W) (e:∀j,j<12→c j=c' j):CB h c' W:=⟨fun j hj=>(a.r j hj).trans (by rw [e j hj]),a.z,a.l⟩
theorem CB.put (a:CB h c W) (c':Nat→Int):CB h c' ((((((((((((W.setCell ⟨h,0,none⟩ (.int .u32 (c' 0))).setCell ⟨h,1,none⟩ (.int .u32 (c' 1))).setCell ⟨h,2,none⟩ (.int .u32 (c' 2))).setCell ⟨h,3,none⟩ (.int .u32 (c' 3))).setCell ⟨h,4,none⟩ (.int .u32 (c' 4))).setCell ⟨h,5,none⟩ (.int .u32 (c' 5))).setCell ⟨h,6,none⟩ (.int .u32 (c' 6))).setCell ⟨h,7,none⟩ (.int .u32 (c' 7))).setCell ⟨h,8,none⟩ (.int .u32 (c' 8))).setCell ⟨h,9,none⟩ (.int .u32 (c' 9))).setCell ⟨h,10,none⟩ (.int .u32 (c' 10))).setCell ⟨h,11,none⟩ (.int .u32 (c' 11))):=by
 refine((((((((((((a.set 0 (by omega) (c' 0)).set 1 (by omega) (c' 1)).set 2 (by omega) (c' 2)).set 3 (by omega) (c' 3)).set 4 (by omega) (c' 4)).set 5 (by omega) (c' 5)).set 6 (by omega) (c' 6)).set 7 (by omega) (c' 7)).set 8 (by omega) (c' 8)).set 9 (by omega) (c' 9)).set 10 (by omega) (c' 10)).set 11 (by omega) (c' 11)).congr fun j hj=> ?_
 match j,hj with
 | 0,_ | 1,_ | 2,_ | 3,_ | 4,_ | 5,_ | 6,_ | 7,_ | 8,_ | 9,_ | 10,_ | 11,_=>simp [aO]
 | n+12,h=>omega
theorem eU {S:Nat→Prop} {w W:World} (b:ah S w W) (hh:S h∨w.heap.size≤h) (c':Nat→Int):ah S w ((((((((((((W.setCell ⟨h,0,none⟩ (.int .u32 (c' 0))).setCell ⟨h,1,none⟩ (.int .u32 (c' 1))).setCell ⟨h,2,none⟩ (.int .u32 (c' 2))).setCell ⟨h,3,none⟩ (.int .u32 (c' 3))).setCell ⟨h,4,none⟩ (.int .u32 (c' 4))).setCell ⟨h,5,none⟩ (.int .u32 (c' 5))).setCell ⟨h,6,none⟩ (.int .u32 (c' 6))).setCell ⟨h,7,none⟩ (.int .u32 (c' 7))).setCell ⟨h,8,none⟩ (.int .u32 (c' 8))).setCell ⟨h,9,none⟩ (.int .u32 (c' 9))).setCell ⟨h,10,none⟩ (.int .u32 (c' 10))).setCell ⟨h,11,none⟩ (.int .u32 (c' 11))):=
 (((((((((((b.setCell (q:=⟨h,0,none⟩) hh (.int .u32 (c' 0))).setCell (q:=⟨h,1,none⟩) hh (.int .u32 (c' 1))).setCell (q:=⟨h,2,none⟩) hh (.int .u32 (c' 2))).setCell (q:=⟨h,3,none⟩) hh (.int .u32 (c' 3))).setCell (q:=⟨h,4,none⟩) hh (.int .u32 (c' 4))).setCell (q:=⟨h,5,none⟩) hh (.int .u32 (c' 5))).setCell (q:=⟨h,6,none⟩) hh (.int .u32 (c' 6))).setCell (q:=⟨h,7,none⟩) hh (.int .u32 (c' 7))).setCell (q:=⟨h,8,none⟩) hh (.int .u32 (c' 8))).setCell (q:=⟨h,9,none⟩) hh (.int .u32 (c' 9))).setCell (q:=⟨h,10,none⟩) hh (.int .u32 (c' 10))).setCell (q:=⟨h,11,none⟩) hh (.int .u32 (c' 11))
theorem uS {S:Nat→Prop} {w W:World} (b:ah S w W) (hh:S h∨w.heap.size≤h) (k' x' p' n':Int):ah S w ((((W.setCell ⟨h,0,none⟩ (.int .i64 k')).setCell ⟨h,1,none⟩ (.int .u32 x')).setCell ⟨h,2,none⟩ (.int .u32 p')).setCell ⟨h,3,none⟩ (.int .i64 n')):=
 (((b.setCell (q:=⟨h,0,none⟩) hh (.int .i64 k')).setCell (q:=⟨h,1,none⟩) hh (.int .u32 x')).setCell (q:=⟨h,2,none⟩) hh (.int .u32 p')).setCell (q:=⟨h,3,none⟩) hh (.int .i64 n')
end Go.Proofs.Ytcjcmnnhmajocab.Ev
