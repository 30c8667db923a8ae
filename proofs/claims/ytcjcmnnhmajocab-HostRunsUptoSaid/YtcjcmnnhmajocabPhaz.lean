/- Lemmas. -/
import Derived.Deep.OwnRows
import Derived.ArgAppend
import Derived.Laws.StructEq
import Derived.Test.YtcjcmnnhmajocabPhar
import Derived.Test.YtcjcmnnhmajocabPhas
import Derived.Test.YtcjcmnnhmajocabPhat
import Derived.Test.YtcjcmnnhmajocabPhav
import Derived.Test.YtcjcmnnhmajocabPhaw
import Derived.Test.YtcjcmnnhmajocabPhax
import Derived.Test.YtcjcmnnhmajocabPhay
set_option linter.unusedVariables false
set_option linter.unusedSimpArgs false
set_option maxRecDepth 100000
set_option maxHeartbeats 16000000
namespace Go.Proofs.Ytcjcmnnhmajocab.Ho
open Go.RowKit
theorem or_up (i : Nat) (x y : Int) (hx : 0 ≤ x) (hx' : x < 2 ^ i) (hy : 0 ≤ y) (hd : y % 2 ^ i = 0) (h1 : x < 4294967296) (h2 : y < 4294967296) : bits .or .u32 x y = x + y := by
 obtain ⟨a, rfl⟩ := Int.eq_ofNat_of_zero_le hx
 obtain ⟨b, rfl⟩ := Int.eq_ofNat_of_zero_le hy
 have hw : ∀ n : Int, 0 ≤ n → n < 2 ^ 32 → IntKind.u32.wrap n = n := fun n h₀ h₁ => by rw [IntKind.wrap_u32]; omega
 have h := bits_join .u32 32 (by decide) hw i b a (by omega) hd (by omega) (by omega) hx' (by omega)
 have ha : a < 2 ^ 32 := by omega
 have hb : b < 2 ^ 32 := by omega
 rw [(bits_nat .u32 32 (by decide) hw b a hb ha).2] at h
 rw [(bits_nat .u32 32 (by decide) hw a b ha hb).2, Nat.or_comm, h]
 omega
end Go.Proofs.Ytcjcmnnhmajocab.Ho
namespace Go.Proofs.Ytcjcmnnhmajocab.Ho
open Go.RowKit Kt
theorem u32_info : ∃ i, Try.prog.info? 22 = some i ∧ i.zero = some (.int .u32 0) ∧ i.size = 1 ∧ i.bytes = 4 := by
 have h : (Try.prog.info? 22).map (fun i => (i.zero, i.size, i.bytes)) = some (some (.int .u32 0), 1, 4) := by kernel_rfl
 obtain ⟨i, hi, hz⟩ := Option.map_eq_some_iff.1 h
 simp only [Prod.mk.injEq] at hz
 exact ⟨i, hi, hz.1, hz.2.1, hz.2.2⟩
end Go.Proofs.Ytcjcmnnhmajocab.Ho
namespace Go.Proofs.Ytcjcmnnhmajocab.Ho
open Go.RowKit Kt
theorem dec_any (q b off len cap k : Nat) (v0 k1 x1 : Int) (w : World) (h1 : 1 ≤ q) (h2 : q ≤ 15) (hw : (k : Int) + wd q ≤ len) (hl : len ≤ cap) (hm : cap ≤ maxLen) (hb : b < w.heap.size) (h0 : 0 ≤ v0) (g0 : v0 < 4294967296) (hq : fcls (v0 % 256) = q)
  (hc : w.cell? ⟨b, off + k, none⟩ = some (.int .u32 v0)) (hc1 : 1 < wd q → w.cell? ⟨b, off + k + 1, none⟩ = some (.int .u32 k1)) (hc2 : 2 < wd q → w.cell? ⟨b, off + k + 2, none⟩ = some (.int .u32 x1)) :
  Calls Try.prog 89 #[.slice (some ⟨b, off, none⟩) len cap, .int .i64 k] w fun e w' => e = .returned (dres q v0 k1 x1) ∧ Below w.heap.size w w' := by
 rcases (show q = 1 ∨ q = 2 ∨ q = 3 ∨ q = 4 ∨ q = 5 ∨ q = 6 ∨ q = 7 ∨ q = 8 ∨ q = 9 ∨ q = 10 ∨ q = 11 ∨ q = 12 ∨ q = 13 ∨ q = 14 ∨ q = 15 by omega) with rfl | rfl | rfl | rfl | rfl | rfl | rfl | rfl | rfl | rfl | rfl | rfl | rfl | rfl | rfl
 ·have hw' : k + 1 ≤ len := by (have : wd 1 = 1 := by decide); omega
  exact dec_1 b off len cap k v0 k1 x1 w (by omega) hl hm hb h0 g0 hq hc
 ·have hw' : k + 1 ≤ len := by (have : wd 2 = 1 := by decide); omega
  exact dec_2 b off len cap k v0 k1 x1 w (by omega) hl hm hb h0 g0 hq hc
 ·have hw' : k + 1 ≤ len := by (have : wd 3 = 1 := by decide); omega
  exact dec_3 b off len cap k v0 k1 x1 w (by omega) hl hm hb h0 g0 hq hc
 ·have hw' : k + 2 ≤ len := by (have : wd 4 = 2 := by decide); omega
  exact dec_4 b off len cap k v0 k1 x1 w (by omega) hl hm hb h0 g0 hq hc (by omega) (hc1 (by decide))
 ·have hw' : k + 1 ≤ len := by (have : wd 5 = 1 := by decide); omega
  exact dec_5 b off len cap k v0 k1 x1 w (by omega) hl hm hb h0 g0 hq hc
 ·have hw' : k + 2 ≤ len := by (have : wd 6 = 2 := by decide); omega
  exact dec_6 b off len cap k v0 k1 x1 w (by omega) hl hm hb h0 g0 hq hc (by omega) (hc1 (by decide))
 ·have hw' : k + 2 ≤ len := by (have : wd 7 = 2 := by decide); omega
  exact dec_7 b off len cap k v0 k1 x1 w (by omega) hl hm hb h0 g0 hq hc (by omega) (hc1 (by decide))
 ·have hw' : k + 2 ≤ len := by (have : wd 8 = 2 := by decide); omega
  exact dec_8 b off len cap k v0 k1 x1 w (by omega) hl hm hb h0 g0 hq hc (by omega) (hc1 (by decide))
 ·have hw' : k + 1 ≤ len := by (have : wd 9 = 1 := by decide); omega
  exact dec_9 b off len cap k v0 k1 x1 w (by omega) hl hm hb h0 g0 hq hc
 ·have hw' : k + 1 ≤ len := by (have : wd 10 = 1 := by decide); omega
  exact dec_10 b off len cap k v0 k1 x1 w (by omega) hl hm hb h0 g0 hq hc
 ·have hw' : k + 1 ≤ len := by (have : wd 11 = 1 := by decide); omega
  exact dec_11 b off len cap k v0 k1 x1 w (by omega) hl hm hb h0 g0 hq hc
 ·have hw' : k + 1 ≤ len := by (have : wd 12 = 1 := by decide); omega
  exact dec_12 b off len cap k v0 k1 x1 w (by omega) hl hm hb h0 g0 hq hc
 ·have hw' : k + 1 ≤ len := by (have : wd 13 = 1 := by decide); omega
  exact dec_13 b off len cap k v0 k1 x1 w (by omega) hl hm hb h0 g0 hq hc
 ·have hw' : k + 3 ≤ len := by (have : wd 14 = 3 := by decide); omega
  exact dec_14 b off len cap k v0 k1 x1 w (by omega) hl hm hb h0 g0 hq hc (by omega) (hc1 (by decide)) (by omega) (hc2 (by decide))
 ·have hw' : k + 2 ≤ len := by (have : wd 15 = 2 := by decide); omega
  exact dec_15 b off len cap k v0 k1 x1 w (by omega) hl hm hb h0 g0 hq hc (by omega) (hc1 (by decide))
theorem rdec_any (q b off len cap k : Nat) (v0 k1 x1 : Int) (w : World) (h1 : 1 ≤ q) (h2 : q ≤ 15) (hw : (k : Int) + wd q ≤ len) (hl : len ≤ cap) (hm : cap ≤ maxLen) (hb : b < w.heap.size) (h0 : 0 ≤ v0) (g0 : v0 < 4294967296) (hq : fcls (v0 % 256) = q)
  (hc : w.cell? ⟨b, off + k, none⟩ = some (.int .u32 v0)) (hc1 : 1 < wd q → w.cell? ⟨b, off + k + 1, none⟩ = some (.int .u32 k1)) (hc2 : 2 < wd q → w.cell? ⟨b, off + k + 2, none⟩ = some (.int .u32 x1)) :
  Calls Try.prog 53 #[.slice (some ⟨b, off, none⟩) len cap, .int .i64 k] w fun e w' => e = .returned (dres q v0 k1 x1) ∧ Below w.heap.size w w' := by
 rcases (show q = 1 ∨ q = 2 ∨ q = 3 ∨ q = 4 ∨ q = 5 ∨ q = 6 ∨ q = 7 ∨ q = 8 ∨ q = 9 ∨ q = 10 ∨ q = 11 ∨ q = 12 ∨ q = 13 ∨ q = 14 ∨ q = 15 by omega) with rfl | rfl | rfl | rfl | rfl | rfl | rfl | rfl | rfl | rfl | rfl | rfl | rfl | rfl | rfl
 ·have hw' : k + 1 ≤ len := by (have : wd 1 = 1 := by decide); omega
  exact rdec_1 b off len cap k v0 k1 x1 w (by omega) hl hm hb h0 g0 hq hc
 ·have hw' : k + 1 ≤ len := by (have : wd 2 = 1 := by decide); omega
  exact rdec_2 b off len cap k v0 k1 x1 w (by omega) hl hm hb h0 g0 hq hc
 ·have hw' : k + 1 ≤ len := by (have : wd 3 = 1 := by decide); omega
  exact rdec_3 b off len cap k v0 k1 x1 w (by omega) hl hm hb h0 g0 hq hc
 ·have hw' : k + 2 ≤ len := by (have : wd 4 = 2 := by decide); omega
  exact rdec_4 b off len cap k v0 k1 x1 w (by omega) hl hm hb h0 g0 hq hc (by omega) (hc1 (by decide))
 ·have hw' : k + 1 ≤ len := by (have : wd 5 = 1 := by decide); omega
  exact rdec_5 b off len cap k v0 k1 x1 w (by omega) hl hm hb h0 g0 hq hc
 ·have hw' : k + 2 ≤ len := by (have : wd 6 = 2 := by decide); omega
  exact rdec_6 b off len cap k v0 k1 x1 w (by omega) hl hm hb h0 g0 hq hc (by omega) (hc1 (by decide))
 ·have hw' : k + 2 ≤ len := by (have : wd 7 = 2 := by decide); omega
  exact rdec_7 b off len cap k v0 k1 x1 w (by omega) hl hm hb h0 g0 hq hc (by omega) (hc1 (by decide))
 ·have hw' : k + 2 ≤ len := by (have : wd 8 = 2 := by decide); omega
  exact rdec_8 b off len cap k v0 k1 x1 w (by omega) hl hm hb h0 g0 hq hc (by omega) (hc1 (by decide))
 ·have hw' : k + 1 ≤ len := by (have : wd 9 = 1 := by decide); omega
  exact rdec_9 b off len cap k v0 k1 x1 w (by omega) hl hm hb h0 g0 hq hc
 ·have hw' : k + 1 ≤ len := by (have : wd 10 = 1 := by decide); omega
  exact rdec_10 b off len cap k v0 k1 x1 w (by omega) hl hm hb h0 g0 hq hc
 ·have hw' : k + 1 ≤ len := by (have : wd 11 = 1 := by decide); omega
  exact rdec_11 b off len cap k v0 k1 x1 w (by omega) hl hm hb h0 g0 hq hc
 ·have hw' : k + 1 ≤ len := by (have : wd 12 = 1 := by decide); omega
  exact rdec_12 b off len cap k v0 k1 x1 w (by omega) hl hm hb h0 g0 hq hc
 ·have hw' : k + 1 ≤ len := by (have : wd 13 = 1 := by decide); omega
  exact rdec_13 b off len cap k v0 k1 x1 w (by omega) hl hm hb h0 g0 hq hc
 ·have hw' : k + 3 ≤ len := by (have : wd 14 = 3 := by decide); omega
  exact rdec_14 b off len cap k v0 k1 x1 w (by omega) hl hm hb h0 g0 hq hc (by omega) (hc1 (by decide)) (by omega) (hc2 (by decide))
 ·have hw' : k + 2 ≤ len := by (have : wd 15 = 2 := by decide); omega
  exact rdec_15 b off len cap k v0 k1 x1 w (by omega) hl hm hb h0 g0 hq hc (by omega) (hc1 (by decide))
theorem fcls_le (o : Int) : fcls o ≤ 15 := by
 have hs : fsm o ≤ 15 := by
  by_cases a0 : o = 0
  ·subst a0; decide
  by_cases a1 : o = 1
  ·subst a1; decide
  by_cases a2 : o = 2
  ·subst a2; decide
  by_cases a4 : o = 4
  ·subst a4; decide
  by_cases a6 : o = 6
  ·subst a6; decide
  by_cases a7 : o = 7
  ·subst a7; decide
  by_cases a8 : o = 8
  ·subst a8; decide
  by_cases a9 : o = 9
  ·subst a9; decide
  by_cases a10 : o = 10
  ·subst a10; decide
  by_cases a11 : o = 11
  ·subst a11; decide
  by_cases a12 : o = 12
  ·subst a12; decide
  by_cases a13 : o = 13
  ·subst a13; decide
  by_cases a14 : o = 14
  ·subst a14; decide
  by_cases a15 : o = 15
  ·subst a15; decide
  unfold fsm
  rw [if_neg a0, if_neg a1, if_neg a2, if_neg a4, if_neg a6, if_neg a7, if_neg a8, if_neg a9, if_neg a10, if_neg a11, if_neg a12, if_neg a13, if_neg a14, if_neg a15]
  decide
 unfold fcls
 repeat' split
 all_goals omega
end Go.Proofs.Ytcjcmnnhmajocab.Ho
