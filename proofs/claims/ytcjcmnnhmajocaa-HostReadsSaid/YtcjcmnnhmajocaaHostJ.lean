import Derived.Test.YtcjcmnnhmajocaaHostDa
import Derived.Test.YtcjcmnnhmajocaaHostDb
import Derived.Test.YtcjcmnnhmajocaaHostDc
import Derived.Test.YtcjcmnnhmajocaaHostRa
import Derived.Test.YtcjcmnnhmajocaaHostRb
import Derived.Test.YtcjcmnnhmajocaaHostRc
import Derived.Test.YtcjcmnnhmajocaaHostQ
namespace Go.Proofs.Ytcjcmnnhmajocaa.Ho
open Go.RowKit Kt
set_option linter.unusedVariables false
theorem dec_any (q b off len cap k : Nat) (v0 k1 x1 : Int) (w : World) (h1 : 1 ≤ q) (h2 : q ≤ 15) (hw : (k : Int) + wd q ≤ len) (hl : len ≤ cap) (hm : cap ≤ maxLen) (hb : b < w.heap.size) (h0 : 0 ≤ v0) (g0 : v0 < 4294967296) (hq : fcls (v0 % 256) = q)
   (hc : w.cell? ⟨b, off + k, none⟩ = some (.int .u32 v0)) (hc1 : 1 < wd q → w.cell? ⟨b, off + k + 1, none⟩ = some (.int .u32 k1)) (hc2 : 2 < wd q → w.cell? ⟨b, off + k + 2, none⟩ = some (.int .u32 x1)) :
   Calls Try.prog 25 #[.slice (some ⟨b, off, none⟩) len cap, .int .i64 k] w fun e w' => e = .returned (dres q v0 k1 x1) ∧ Below w.heap.size w w' := by
  rcases (show q = 1 ∨ q = 2 ∨ q = 3 ∨ q = 4 ∨ q = 5 ∨ q = 6 ∨ q = 7 ∨ q = 8 ∨ q = 9 ∨ q = 10 ∨ q = 11 ∨ q = 12 ∨ q = 13 ∨ q = 14 ∨ q = 15 by omega) with rfl | rfl | rfl | rfl | rfl | rfl | rfl | rfl | rfl | rfl | rfl | rfl | rfl | rfl | rfl
  · have hw' : k + 1 ≤ len := by (have : wd 1 = 1 := by decide); omega
    exact dec_1 b off len cap k v0 k1 x1 w (by omega) hl hm hb h0 g0 hq hc
  · have hw' : k + 1 ≤ len := by (have : wd 2 = 1 := by decide); omega
    exact dec_2 b off len cap k v0 k1 x1 w (by omega) hl hm hb h0 g0 hq hc
  · have hw' : k + 1 ≤ len := by (have : wd 3 = 1 := by decide); omega
    exact dec_3 b off len cap k v0 k1 x1 w (by omega) hl hm hb h0 g0 hq hc
  · have hw' : k + 2 ≤ len := by (have : wd 4 = 2 := by decide); omega
    exact dec_4 b off len cap k v0 k1 x1 w (by omega) hl hm hb h0 g0 hq hc (by omega) (hc1 (by decide))
  · have hw' : k + 1 ≤ len := by (have : wd 5 = 1 := by decide); omega
    exact dec_5 b off len cap k v0 k1 x1 w (by omega) hl hm hb h0 g0 hq hc
  · have hw' : k + 2 ≤ len := by (have : wd 6 = 2 := by decide); omega
    exact dec_6 b off len cap k v0 k1 x1 w (by omega) hl hm hb h0 g0 hq hc (by omega) (hc1 (by decide))
  · have hw' : k + 2 ≤ len := by (have : wd 7 = 2 := by decide); omega
    exact dec_7 b off len cap k v0 k1 x1 w (by omega) hl hm hb h0 g0 hq hc (by omega) (hc1 (by decide))
  · have hw' : k + 2 ≤ len := by (have : wd 8 = 2 := by decide); omega
    exact dec_8 b off len cap k v0 k1 x1 w (by omega) hl hm hb h0 g0 hq hc (by omega) (hc1 (by decide))
  · have hw' : k + 1 ≤ len := by (have : wd 9 = 1 := by decide); omega
    exact dec_9 b off len cap k v0 k1 x1 w (by omega) hl hm hb h0 g0 hq hc
  · have hw' : k + 1 ≤ len := by (have : wd 10 = 1 := by decide); omega
    exact dec_10 b off len cap k v0 k1 x1 w (by omega) hl hm hb h0 g0 hq hc
  · have hw' : k + 1 ≤ len := by (have : wd 11 = 1 := by decide); omega
    exact dec_11 b off len cap k v0 k1 x1 w (by omega) hl hm hb h0 g0 hq hc
  · have hw' : k + 1 ≤ len := by (have : wd 12 = 1 := by decide); omega
    exact dec_12 b off len cap k v0 k1 x1 w (by omega) hl hm hb h0 g0 hq hc
  · have hw' : k + 1 ≤ len := by (have : wd 13 = 1 := by decide); omega
    exact dec_13 b off len cap k v0 k1 x1 w (by omega) hl hm hb h0 g0 hq hc
  · have hw' : k + 3 ≤ len := by (have : wd 14 = 3 := by decide); omega
    exact dec_14 b off len cap k v0 k1 x1 w (by omega) hl hm hb h0 g0 hq hc (by omega) (hc1 (by decide)) (by omega) (hc2 (by decide))
  · have hw' : k + 2 ≤ len := by (have : wd 15 = 2 := by decide); omega
    exact dec_15 b off len cap k v0 k1 x1 w (by omega) hl hm hb h0 g0 hq hc (by omega) (hc1 (by decide))
theorem rdec_any (q b off len cap k : Nat) (v0 k1 x1 : Int) (w : World) (h1 : 1 ≤ q) (h2 : q ≤ 15) (hw : (k : Int) + wd q ≤ len) (hl : len ≤ cap) (hm : cap ≤ maxLen) (hb : b < w.heap.size) (h0 : 0 ≤ v0) (g0 : v0 < 4294967296) (hq : fcls (v0 % 256) = q)
   (hc : w.cell? ⟨b, off + k, none⟩ = some (.int .u32 v0)) (hc1 : 1 < wd q → w.cell? ⟨b, off + k + 1, none⟩ = some (.int .u32 k1)) (hc2 : 2 < wd q → w.cell? ⟨b, off + k + 2, none⟩ = some (.int .u32 x1)) :
   Calls Try.prog 26 #[.slice (some ⟨b, off, none⟩) len cap, .int .i64 k] w fun e w' => e = .returned (dres q v0 k1 x1) ∧ Below w.heap.size w w' := by
  rcases (show q = 1 ∨ q = 2 ∨ q = 3 ∨ q = 4 ∨ q = 5 ∨ q = 6 ∨ q = 7 ∨ q = 8 ∨ q = 9 ∨ q = 10 ∨ q = 11 ∨ q = 12 ∨ q = 13 ∨ q = 14 ∨ q = 15 by omega) with rfl | rfl | rfl | rfl | rfl | rfl | rfl | rfl | rfl | rfl | rfl | rfl | rfl | rfl | rfl
  · have hw' : k + 1 ≤ len := by (have : wd 1 = 1 := by decide); omega
    exact rdec_1 b off len cap k v0 k1 x1 w (by omega) hl hm hb h0 g0 hq hc
  · have hw' : k + 1 ≤ len := by (have : wd 2 = 1 := by decide); omega
    exact rdec_2 b off len cap k v0 k1 x1 w (by omega) hl hm hb h0 g0 hq hc
  · have hw' : k + 1 ≤ len := by (have : wd 3 = 1 := by decide); omega
    exact rdec_3 b off len cap k v0 k1 x1 w (by omega) hl hm hb h0 g0 hq hc
  · have hw' : k + 2 ≤ len := by (have : wd 4 = 2 := by decide); omega
    exact rdec_4 b off len cap k v0 k1 x1 w (by omega) hl hm hb h0 g0 hq hc (by omega) (hc1 (by decide))
  · have hw' : k + 1 ≤ len := by (have : wd 5 = 1 := by decide); omega
    exact rdec_5 b off len cap k v0 k1 x1 w (by omega) hl hm hb h0 g0 hq hc
  · have hw' : k + 2 ≤ len := by (have : wd 6 = 2 := by decide); omega
    exact rdec_6 b off len cap k v0 k1 x1 w (by omega) hl hm hb h0 g0 hq hc (by omega) (hc1 (by decide))
  · have hw' : k + 2 ≤ len := by (have : wd 7 = 2 := by decide); omega
    exact rdec_7 b off len cap k v0 k1 x1 w (by omega) hl hm hb h0 g0 hq hc (by omega) (hc1 (by decide))
  · have hw' : k + 2 ≤ len := by (have : wd 8 = 2 := by decide); omega
    exact rdec_8 b off len cap k v0 k1 x1 w (by omega) hl hm hb h0 g0 hq hc (by omega) (hc1 (by decide))
  · have hw' : k + 1 ≤ len := by (have : wd 9 = 1 := by decide); omega
    exact rdec_9 b off len cap k v0 k1 x1 w (by omega) hl hm hb h0 g0 hq hc
  · have hw' : k + 1 ≤ len := by (have : wd 10 = 1 := by decide); omega
    exact rdec_10 b off len cap k v0 k1 x1 w (by omega) hl hm hb h0 g0 hq hc
  · have hw' : k + 1 ≤ len := by (have : wd 11 = 1 := by decide); omega
    exact rdec_11 b off len cap k v0 k1 x1 w (by omega) hl hm hb h0 g0 hq hc
  · have hw' : k + 1 ≤ len := by (have : wd 12 = 1 := by decide); omega
    exact rdec_12 b off len cap k v0 k1 x1 w (by omega) hl hm hb h0 g0 hq hc
  · have hw' : k + 1 ≤ len := by (have : wd 13 = 1 := by decide); omega
    exact rdec_13 b off len cap k v0 k1 x1 w (by omega) hl hm hb h0 g0 hq hc
  · have hw' : k + 3 ≤ len := by (have : wd 14 = 3 := by decide); omega
    exact rdec_14 b off len cap k v0 k1 x1 w (by omega) hl hm hb h0 g0 hq hc (by omega) (hc1 (by decide)) (by omega) (hc2 (by decide))
  · have hw' : k + 2 ≤ len := by (have : wd 15 = 2 := by decide); omega
    exact rdec_15 b off len cap k v0 k1 x1 w (by omega) hl hm hb h0 g0 hq hc (by omega) (hc1 (by decide))
theorem fcls_le (o : Int) : fcls o ≤ 15 := by
  have hs : fsm o ≤ 15 := by
    by_cases a0 : o = 0
    · subst a0; decide
    by_cases a1 : o = 1
    · subst a1; decide
    by_cases a2 : o = 2
    · subst a2; decide
    by_cases a4 : o = 4
    · subst a4; decide
    by_cases a6 : o = 6
    · subst a6; decide
    by_cases a7 : o = 7
    · subst a7; decide
    by_cases a8 : o = 8
    · subst a8; decide
    by_cases a9 : o = 9
    · subst a9; decide
    by_cases a10 : o = 10
    · subst a10; decide
    by_cases a11 : o = 11
    · subst a11; decide
    by_cases a12 : o = 12
    · subst a12; decide
    by_cases a13 : o = 13
    · subst a13; decide
    by_cases a14 : o = 14
    · subst a14; decide
    by_cases a15 : o = 15
    · subst a15; decide
    unfold fsm
    rw [if_neg a0, if_neg a1, if_neg a2, if_neg a4, if_neg a6, if_neg a7, if_neg a8, if_neg a9, if_neg a10, if_neg a11, if_neg a12, if_neg a13, if_neg a14, if_neg a15]
    decide
  unfold fcls
  repeat' split
  all_goals omega
theorem fcls_range {o : Int} (h : 1 ≤ fcls o) : 0 ≤ o ∧ o < 98 := by
  by_cases g : 0 ≤ o ∧ o < 98
  · exact g
  · rw [fcls_0 o (by omega) (by omega) (by omega) (by omega) (by omega) (by omega) (by omega)] at h
    omega
end Go.Proofs.Ytcjcmnnhmajocaa.Ho
