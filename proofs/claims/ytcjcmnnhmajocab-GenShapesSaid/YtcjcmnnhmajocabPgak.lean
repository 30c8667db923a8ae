/- Lemmas. -/
import Derived.Laws.StructEq
import Derived.Test.YtcjcmnnhmajocabPgad
import Derived.Test.YtcjcmnnhmajocabPgae
import Derived.Test.YtcjcmnnhmajocabPgaf
import Derived.Test.YtcjcmnnhmajocabPgai
import Derived.Test.YtcjcmnnhmajocabPgaj
namespace Go.Proofs.Ytcjcmnnhmajocab.Ho
open Go.RowKit Kt
set_option linter.unusedVariables false
theorem eqFields_step {P : Program} (d : Nat) (xs ys : Array Value) (f : Field) (fs : List Field) (hn : f.name ≠ "_") {k k' : IntKind} {a b : Int} {r : Bool} (hu : P.underlying f.type = some (.int k'))
    (p1 : ∀ w : World, (part f.type xs f.offset).run P w = .ok (.int k a) w) (p2 : ∀ w : World, (part f.type ys f.offset).run P w = .ok (.int k b) w) (ih : ∀ w : World, (Op.eqFields (d + 1) xs ys fs).run P w = .ok r w) :
    ∀ w : World, (Op.eqFields (d + 1) xs ys (f :: fs)).run P w = .ok (a == b && r) w := by
  intro w
  simp only [Op.eqFields, if_pos hn, Sem.run_bind, p1, p2, Result.andThen_ok, run_equalIn_int w d f.type k k' a b hu]
  cases h : (a == b)
  · simp
  · simp [ih]
noncomputable def fld (i : Nat) : Field := (Try.prog.fieldsOf 108)[i]!
theorem flds : (Try.prog.fieldsOf 108).toList = [fld 0, fld 1, fld 2, fld 3, fld 4, fld 5, fld 6, fld 7] := by kernel_rfl
def eqc (o d a b c n k x o' d' a' b' c' n' k' x' : Int) : Bool := o == o' && (d == d' && (a == a' && (b == b' && (c == c' && (n == n' && (k == k' && (x == x' && true)))))))
theorem eqc_iff (o d a b c n k x o' d' a' b' c' n' k' x' : Int) : eqc o d a b c n k x o' d' a' b' c' n' k' x' = true ↔ (o = o' ∧ d = d' ∧ a = a' ∧ b = b' ∧ c = c' ∧ n = n' ∧ k = k' ∧ x = x') := by
  simp [eqc]
theorem neq_code (o d a b c n k x o' d' a' b' c' n' k' x' : Int) : ∀ w : World, (binOp .neq 108 (.agg #[.int .i64 o, .int .i64 d, .int .i64 a, .int .i64 b, .int .i64 c, .int .i64 n, .int .u32 k, .int .u32 x])
    (.agg #[.int .i64 o', .int .i64 d', .int .i64 a', .int .i64 b', .int .i64 c', .int .i64 n', .int .u32 k', .int .u32 x'])).run Try.prog w = .ok (.bool (!eqc o d a b c n k x o' d' a' b' c' n' k' x')) w := by
  intro w
  have h : ∀ w : World, (Op.eqFields 9999 #[.int .i64 o, .int .i64 d, .int .i64 a, .int .i64 b, .int .i64 c, .int .i64 n, .int .u32 k, .int .u32 x] #[.int .i64 o', .int .i64 d', .int .i64 a', .int .i64 b', .int .i64 c', .int .i64 n', .int .u32 k', .int .u32 x']
      [fld 0, fld 1, fld 2, fld 3, fld 4, fld 5, fld 6, fld 7]).run Try.prog w = .ok (eqc o d a b c n k x o' d' a' b' c' n' k' x') w := by
    refine eqFields_step 9998 _ _ _ _ (by decide +kernel) (k := .i64) (k' := .i64) (by kernel_rfl) (fun w => by kernel_rfl) (fun w => by kernel_rfl) ?_
    refine eqFields_step 9998 _ _ _ _ (by decide +kernel) (k := .i64) (k' := .i64) (by kernel_rfl) (fun w => by kernel_rfl) (fun w => by kernel_rfl) ?_
    refine eqFields_step 9998 _ _ _ _ (by decide +kernel) (k := .i64) (k' := .i64) (by kernel_rfl) (fun w => by kernel_rfl) (fun w => by kernel_rfl) ?_
    refine eqFields_step 9998 _ _ _ _ (by decide +kernel) (k := .i64) (k' := .i64) (by kernel_rfl) (fun w => by kernel_rfl) (fun w => by kernel_rfl) ?_
    refine eqFields_step 9998 _ _ _ _ (by decide +kernel) (k := .i64) (k' := .i64) (by kernel_rfl) (fun w => by kernel_rfl) (fun w => by kernel_rfl) ?_
    refine eqFields_step 9998 _ _ _ _ (by decide +kernel) (k := .i64) (k' := .i64) (by kernel_rfl) (fun w => by kernel_rfl) (fun w => by kernel_rfl) ?_
    refine eqFields_step 9998 _ _ _ _ (by decide +kernel) (k := .u32) (k' := .u32) (by kernel_rfl) (fun w => by kernel_rfl) (fun w => by kernel_rfl) ?_
    refine eqFields_step 9998 _ _ _ _ (by decide +kernel) (k := .u32) (k' := .u32) (by kernel_rfl) (fun w => by kernel_rfl) (fun w => by kernel_rfl) ?_
    intro w
    simp [Op.eqFields]
  rw [← flds] at h
  have hs : (Op.equalIn 10000 108 (.agg #[.int .i64 o, .int .i64 d, .int .i64 a, .int .i64 b, .int .i64 c, .int .i64 n, .int .u32 k, .int .u32 x]) (.agg #[.int .i64 o', .int .i64 d', .int .i64 a', .int .i64 b', .int .i64 c', .int .i64 n', .int .u32 k', .int .u32 x'])).run Try.prog w = .ok (eqc o d a b c n k x o' d' a' b' c' n' k' x') w := by
    rw [run_equalIn_struct w 9999 108 _ _ (by kernel_rfl) (by kernel_rfl), h]
  rw [run_neq_struct, hs]
  rfl
end Go.Proofs.Ytcjcmnnhmajocab.Ho
namespace Go.Proofs.Ytcjcmnnhmajocab.Ho
open Go.RowKit Kt
set_option linter.unusedVariables false
theorem dec_any (q b off len cap k : Nat) (v0 k1 x1 : Int) (w : World) (h1 : 1 ≤ q) (h2 : q ≤ 15) (hw : (k : Int) + wd q ≤ len) (hl : len ≤ cap) (hm : cap ≤ maxLen) (hb : b < w.heap.size) (h0 : 0 ≤ v0) (g0 : v0 < 4294967296) (hq : fcls (v0 % 256) = q)
   (hc : w.cell? ⟨b, off + k, none⟩ = some (.int .u32 v0)) (hc1 : 1 < wd q → w.cell? ⟨b, off + k + 1, none⟩ = some (.int .u32 k1)) (hc2 : 2 < wd q → w.cell? ⟨b, off + k + 2, none⟩ = some (.int .u32 x1)) :
   Calls Try.prog 89 #[.slice (some ⟨b, off, none⟩) len cap, .int .i64 k] w fun e w' => e = .returned (dres q v0 k1 x1) ∧ Below w.heap.size w w' := by
  rcases (show q = 1 ∨ q = 2 ∨ q = 3 ∨ q = 4 ∨ q = 5 ∨ q = 6 ∨ q = 7 ∨ q = 8 ∨ q = 9 ∨ q = 10 ∨ q = 11 ∨ q = 12 ∨ q = 13 ∨ q = 14 ∨ q = 15 by omega) with rfl | rfl | rfl | rfl | rfl | rfl | rfl | rfl | rfl | rfl | rfl | rfl | rfl | rfl | rfl
  · have hw' : k + 1 ≤ len := by (have : wd 1 = 1 := by decide); omega
    exact dec_1 b off len cap k v0 k1 x1 w (by omega) hl hm hb h0 g0 hq hc
  · have hw' : k + 1 ≤ len := by (have : wd 2 = 1 := by decide); omega
    exact dec_2 b off len cap k v0 k1 x1 w (by omega) hl hm hb h0 g0 hq hc
  · have hw' : k + 1 ≤ len := by (have : wd 3 = 1 := by decide); omega
    exact dec_3 b off len cap k v0 k1 x1 w (by omega) hl hm hb h0 g0 hq hc
  · have hw' : k + 2 ≤ len := by (have : wd 4 = 2 := by decide); omega
    exact dec_4 b off len cap k v0 k1 x1 w (by omega) hl hm hb h0 g0 hq hc (by omega) (hc1 (by decide))
  · have hw' : k + 1 ≤ len := by (have : wd 5 = 1 := by decide); omega
    exact dec_5 b off len cap k v0 k1 x1 w (by omega) hl hm hb h0 g0 hq hc
  · have hw' : k + 2 ≤ len := by (have : wd 6 = 2 := by decide); omega
    exact dec_6 b off len cap k v0 k1 x1 w (by omega) hl hm hb h0 g0 hq hc (by omega) (hc1 (by decide))
  · have hw' : k + 2 ≤ len := by (have : wd 7 = 2 := by decide); omega
    exact dec_7 b off len cap k v0 k1 x1 w (by omega) hl hm hb h0 g0 hq hc (by omega) (hc1 (by decide))
  · have hw' : k + 2 ≤ len := by (have : wd 8 = 2 := by decide); omega
    exact dec_8 b off len cap k v0 k1 x1 w (by omega) hl hm hb h0 g0 hq hc (by omega) (hc1 (by decide))
  · have hw' : k + 1 ≤ len := by (have : wd 9 = 1 := by decide); omega
    exact dec_9 b off len cap k v0 k1 x1 w (by omega) hl hm hb h0 g0 hq hc
  · have hw' : k + 1 ≤ len := by (have : wd 10 = 1 := by decide); omega
    exact dec_10 b off len cap k v0 k1 x1 w (by omega) hl hm hb h0 g0 hq hc
  · have hw' : k + 1 ≤ len := by (have : wd 11 = 1 := by decide); omega
    exact dec_11 b off len cap k v0 k1 x1 w (by omega) hl hm hb h0 g0 hq hc
  · have hw' : k + 1 ≤ len := by (have : wd 12 = 1 := by decide); omega
    exact dec_12 b off len cap k v0 k1 x1 w (by omega) hl hm hb h0 g0 hq hc
  · have hw' : k + 1 ≤ len := by (have : wd 13 = 1 := by decide); omega
    exact dec_13 b off len cap k v0 k1 x1 w (by omega) hl hm hb h0 g0 hq hc
  · have hw' : k + 3 ≤ len := by (have : wd 14 = 3 := by decide); omega
    exact dec_14 b off len cap k v0 k1 x1 w (by omega) hl hm hb h0 g0 hq hc (by omega) (hc1 (by decide)) (by omega) (hc2 (by decide))
  · have hw' : k + 2 ≤ len := by (have : wd 15 = 2 := by decide); omega
    exact dec_15 b off len cap k v0 k1 x1 w (by omega) hl hm hb h0 g0 hq hc (by omega) (hc1 (by decide))
theorem rdec_any (q b off len cap k : Nat) (v0 k1 x1 : Int) (w : World) (h1 : 1 ≤ q) (h2 : q ≤ 15) (hw : (k : Int) + wd q ≤ len) (hl : len ≤ cap) (hm : cap ≤ maxLen) (hb : b < w.heap.size) (h0 : 0 ≤ v0) (g0 : v0 < 4294967296) (hq : fcls (v0 % 256) = q)
   (hc : w.cell? ⟨b, off + k, none⟩ = some (.int .u32 v0)) (hc1 : 1 < wd q → w.cell? ⟨b, off + k + 1, none⟩ = some (.int .u32 k1)) (hc2 : 2 < wd q → w.cell? ⟨b, off + k + 2, none⟩ = some (.int .u32 x1)) :
   Calls Try.prog 53 #[.slice (some ⟨b, off, none⟩) len cap, .int .i64 k] w fun e w' => e = .returned (dres q v0 k1 x1) ∧ Below w.heap.size w w' := by
  rcases (show q = 1 ∨ q = 2 ∨ q = 3 ∨ q = 4 ∨ q = 5 ∨ q = 6 ∨ q = 7 ∨ q = 8 ∨ q = 9 ∨ q = 10 ∨ q = 11 ∨ q = 12 ∨ q = 13 ∨ q = 14 ∨ q = 15 by omega) with rfl | rfl | rfl | rfl | rfl | rfl | rfl | rfl | rfl | rfl | rfl | rfl | rfl | rfl | rfl
  · have hw' : k + 1 ≤ len := by (have : wd 1 = 1 := by decide); omega
    exact rdec_1 b off len cap k v0 k1 x1 w (by omega) hl hm hb h0 g0 hq hc
  · have hw' : k + 1 ≤ len := by (have : wd 2 = 1 := by decide); omega
    exact rdec_2 b off len cap k v0 k1 x1 w (by omega) hl hm hb h0 g0 hq hc
  · have hw' : k + 1 ≤ len := by (have : wd 3 = 1 := by decide); omega
    exact rdec_3 b off len cap k v0 k1 x1 w (by omega) hl hm hb h0 g0 hq hc
  · have hw' : k + 2 ≤ len := by (have : wd 4 = 2 := by decide); omega
    exact rdec_4 b off len cap k v0 k1 x1 w (by omega) hl hm hb h0 g0 hq hc (by omega) (hc1 (by decide))
  · have hw' : k + 1 ≤ len := by (have : wd 5 = 1 := by decide); omega
    exact rdec_5 b off len cap k v0 k1 x1 w (by omega) hl hm hb h0 g0 hq hc
  · have hw' : k + 2 ≤ len := by (have : wd 6 = 2 := by decide); omega
    exact rdec_6 b off len cap k v0 k1 x1 w (by omega) hl hm hb h0 g0 hq hc (by omega) (hc1 (by decide))
  · have hw' : k + 2 ≤ len := by (have : wd 7 = 2 := by decide); omega
    exact rdec_7 b off len cap k v0 k1 x1 w (by omega) hl hm hb h0 g0 hq hc (by omega) (hc1 (by decide))
  · have hw' : k + 2 ≤ len := by (have : wd 8 = 2 := by decide); omega
    exact rdec_8 b off len cap k v0 k1 x1 w (by omega) hl hm hb h0 g0 hq hc (by omega) (hc1 (by decide))
  · have hw' : k + 1 ≤ len := by (have : wd 9 = 1 := by decide); omega
    exact rdec_9 b off len cap k v0 k1 x1 w (by omega) hl hm hb h0 g0 hq hc
  · have hw' : k + 1 ≤ len := by (have : wd 10 = 1 := by decide); omega
    exact rdec_10 b off len cap k v0 k1 x1 w (by omega) hl hm hb h0 g0 hq hc
  · have hw' : k + 1 ≤ len := by (have : wd 11 = 1 := by decide); omega
    exact rdec_11 b off len cap k v0 k1 x1 w (by omega) hl hm hb h0 g0 hq hc
  · have hw' : k + 1 ≤ len := by (have : wd 12 = 1 := by decide); omega
    exact rdec_12 b off len cap k v0 k1 x1 w (by omega) hl hm hb h0 g0 hq hc
  · have hw' : k + 1 ≤ len := by (have : wd 13 = 1 := by decide); omega
    exact rdec_13 b off len cap k v0 k1 x1 w (by omega) hl hm hb h0 g0 hq hc
  · have hw' : k + 3 ≤ len := by (have : wd 14 = 3 := by decide); omega
    exact rdec_14 b off len cap k v0 k1 x1 w (by omega) hl hm hb h0 g0 hq hc (by omega) (hc1 (by decide)) (by omega) (hc2 (by decide))
  · have hw' : k + 2 ≤ len := by (have : wd 15 = 2 := by decide); omega
    exact rdec_15 b off len cap k v0 k1 x1 w (by omega) hl hm hb h0 g0 hq hc (by omega) (hc1 (by decide))
theorem fcls_le (o : Int) : fcls o ≤ 15 := by
  have hs : fsm o ≤ 15 := by
    by_cases a0 : o = 0
    · subst a0; decide
    by_cases a1 : o = 1
    · subst a1; decide
    by_cases a2 : o = 2
    · subst a2; decide
    by_cases a4 : o = 4
    · subst a4; decide
    by_cases a6 : o = 6
    · subst a6; decide
    by_cases a7 : o = 7
    · subst a7; decide
    by_cases a8 : o = 8
    · subst a8; decide
    by_cases a9 : o = 9
    · subst a9; decide
    by_cases a10 : o = 10
    · subst a10; decide
    by_cases a11 : o = 11
    · subst a11; decide
    by_cases a12 : o = 12
    · subst a12; decide
    by_cases a13 : o = 13
    · subst a13; decide
    by_cases a14 : o = 14
    · subst a14; decide
    by_cases a15 : o = 15
    · subst a15; decide
    unfold fsm
    rw [if_neg a0, if_neg a1, if_neg a2, if_neg a4, if_neg a6, if_neg a7, if_neg a8, if_neg a9, if_neg a10, if_neg a11, if_neg a12, if_neg a13, if_neg a14, if_neg a15]
    decide
  unfold fcls
  repeat' split
  all_goals omega
end Go.Proofs.Ytcjcmnnhmajocab.Ho
