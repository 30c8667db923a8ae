/- Plain: an instruction of the host as read. -/
import Derived.Test.YtcjcmnnhmajocabPgak
namespace Go.Proofs.Ytcjcmnnhmajocab.Ho
open Go.RowKit Kt
set_option linter.unusedVariables false
set_option linter.unusedSimpArgs false
def derr (z : Int) : Value := .tuple #[.agg #[.int .i64 0, .int .i64 0, .int .i64 0, .int .i64 0, .int .i64 0, .int .i64 0, .int .u32 0, .int .u32 0], .int .i64 0, .int .i64 z]
theorem rform_words (q : Nat) (h2 : q ≤ 15) : ∃ (s : ByteArray) (m : Int), rform q = .tuple #[.string s, .int .i64 m, .int .i64 (wd q)] := by
  rcases (show q = 0 ∨ q = 1 ∨ q = 2 ∨ q = 3 ∨ q = 4 ∨ q = 5 ∨ q = 6 ∨ q = 7 ∨ q = 8 ∨ q = 9 ∨ q = 10 ∨ q = 11 ∨ q = 12 ∨ q = 13 ∨ q = 14 ∨ q = 15 by omega) with rfl | rfl | rfl | rfl | rfl | rfl | rfl | rfl | rfl | rfl | rfl | rfl | rfl | rfl | rfl | rfl
  all_goals exact ⟨_, _, rfl⟩
theorem wd_rg (q : Nat) (h1 : 1 ≤ q) (h2 : q ≤ 15) : 1 ≤ wd q ∧ wd q ≤ 3 := by
  rcases (show q = 1 ∨ q = 2 ∨ q = 3 ∨ q = 4 ∨ q = 5 ∨ q = 6 ∨ q = 7 ∨ q = 8 ∨ q = 9 ∨ q = 10 ∨ q = 11 ∨ q = 12 ∨ q = 13 ∨ q = 14 ∨ q = 15 by omega) with rfl | rfl | rfl | rfl | rfl | rfl | rfl | rfl | rfl | rfl | rfl | rfl | rfl | rfl | rfl <;> decide
theorem wd_0 : wd 0 = 0 := by decide
set_option maxRecDepth 100000 in
set_option maxHeartbeats 4000000 in
theorem rdec_neg (ao : Option Addr) (len cap : Nat) (k : Int) (h : k < 0) (w : World) : Calls Try.prog 53 #[.slice ao len cap, .int .i64 k] w fun e w' => e = .returned (derr 4) ∧ Below w.heap.size w w' := by
  go_enter Try.func53, Try.ntmps53
  go_wp2
  all_goals refine bodyPost_ret (v := derr 4) (by simp [results, Try.results53, go_sem, derr]) rfl ⟨rfl, ?_⟩
  all_goals exact (Below.refl _ _).alloc (Nat.le_refl _) _
set_option maxRecDepth 100000 in
set_option maxHeartbeats 4000000 in
theorem rdec_past (ao : Option Addr) (len cap : Nat) (k : Int) (h0 : ¬ k < 0) (h : (len : Int) < k) (w : World) : Calls Try.prog 53 #[.slice ao len cap, .int .i64 k] w fun e w' => e = .returned (derr 4) ∧ Below w.heap.size w w' := by
  go_enter Try.func53, Try.ntmps53
  go_wp2
  all_goals refine bodyPost_ret (v := derr 4) (by simp [results, Try.results53, go_sem, derr]) rfl ⟨rfl, ?_⟩
  all_goals exact (Below.refl _ _).alloc (Nat.le_refl _) _
set_option maxRecDepth 100000 in
set_option maxHeartbeats 4000000 in
theorem rdec_zero (ao : Option Addr) (cap : Nat) (w : World) : Calls Try.prog 53 #[.slice ao 0 cap, .int .i64 ((0 : Nat) : Int)] w fun e w' => e = .returned (derr 1) ∧ Below w.heap.size w w' := by
  go_enter Try.func53, Try.ntmps53
  go_wp2
  all_goals refine bodyPost_ret (v := derr 1) (by simp [results, Try.results53, go_sem, derr]) rfl ⟨rfl, ?_⟩
  all_goals exact (Below.refl _ _).alloc (Nat.le_refl _) _
set_option maxRecDepth 100000 in
set_option maxHeartbeats 4000000 in
theorem rdec_end (b off len cap : Nat) (hl : len ≤ cap) (w : World) : Calls Try.prog 53 #[.slice (some ⟨b, off, none⟩) len cap, .int .i64 (len : Int)] w fun e w' => e = .returned (derr 1) ∧ Below w.heap.size w w' := by
  have c0 : (0 : Int) ≤ (len : Int) := by omega
  go_enter Try.func53, Try.ntmps53
  go_wp2
  all_goals refine bodyPost_ret (v := derr 1) (by simp [results, Try.results53, go_sem, derr]) rfl ⟨rfl, ?_⟩
  all_goals exact (Below.refl _ _).alloc (Nat.le_refl _) _
set_option maxRecDepth 100000 in
set_option maxHeartbeats 4000000 in
theorem rdec_op (b off len cap k : Nat) (v0 : Int) (w : World) (hk : k < len) (hl : len ≤ cap) (hm : len ≤ 9223372036854775807) (hb : b < w.heap.size) (h0 : 0 ≤ v0) (g0 : v0 < 4294967296) (hq : fcls (v0 % 256) = 0)
   (hc : w.cell? ⟨b, off + k, none⟩ = some (.int .u32 v0)) : Calls Try.prog 53 #[.slice (some ⟨b, off, none⟩) len cap, .int .i64 k] w fun e w' => e = .returned (derr 2) ∧ Below w.heap.size w w' := by
  have c0 : (0 : Int) ≤ (k : Int) := by omega
  have c1 : (k : Int) ≤ (len : Int) := by omega
  have c2 : ¬ ((len : Int) < (k : Int)) := by omega
  have c4 : ((k : Int) == (len : Int)) = false := by simp; omega
  have c6 : (k : Int) < (len : Int) := by omega
  have c7 : wrap64 ((len : Int) - k) = (len : Int) - k := IntWalk.wrap64_in _ (by omega)
  obtain ⟨fs, fm, hf⟩ := rform_words 0 (by omega)
  rw [wd_0] at hf
  clear hm
  go_enter Try.func53, Try.ntmps53
  go_wp2_with (first
    | (go_at_call 97; refine (form_any (v0 % 256) _).mono ?_; rintro e w1 ⟨rfl, rfl⟩; rw [hq, hf])
    | (go_at_call 98; fail))
  refine bodyPost_ret (v := derr 2) (by simp [results, Try.results53, go_sem, derr]) rfl ⟨rfl, ?_⟩
  exact ((Below.refl _ _).alloc (Nat.le_refl _) _).alloc (by simp) _
set_option maxRecDepth 100000 in
set_option maxHeartbeats 4000000 in
theorem rdec_short (b off len cap k : Nat) (v0 : Int) (w : World) (hk : k < len) (hl : len ≤ cap) (hm : len ≤ 9223372036854775807) (hb : b < w.heap.size) (h0 : 0 ≤ v0) (g0 : v0 < 4294967296) (q : Nat) (h1 : 1 ≤ q) (h2 : q ≤ 15) (hq : fcls (v0 % 256) = q) (hw : (len : Int) - k < wd q)
   (hc : w.cell? ⟨b, off + k, none⟩ = some (.int .u32 v0)) : Calls Try.prog 53 #[.slice (some ⟨b, off, none⟩) len cap, .int .i64 k] w fun e w' => e = .returned (derr 1) ∧ Below w.heap.size w w' := by
  have c0 : (0 : Int) ≤ (k : Int) := by omega
  have c1 : (k : Int) ≤ (len : Int) := by omega
  have c2 : ¬ ((len : Int) < (k : Int)) := by omega
  have c4 : ((k : Int) == (len : Int)) = false := by simp; omega
  have c6 : (k : Int) < (len : Int) := by omega
  have c7 : wrap64 ((len : Int) - k) = (len : Int) - k := IntWalk.wrap64_in _ (by omega)
  obtain ⟨fs, fm, hf⟩ := rform_words q (by omega)
  have hr := wd_rg q h1 h2
  have c8 : (wd q == 0) = false := by simp; omega
  clear hm
  go_enter Try.func53, Try.ntmps53
  go_wp2_with (first
    | (go_at_call 97; refine (form_any (v0 % 256) _).mono ?_; rintro e w1 ⟨rfl, rfl⟩; rw [hq, hf])
    | (go_at_call 98; fail))
  refine bodyPost_ret (v := derr 1) (by simp [results, Try.results53, go_sem, derr]) rfl ⟨rfl, ?_⟩
  exact ((Below.refl _ _).alloc (Nat.le_refl _) _).alloc (by simp) _
end Go.Proofs.Ytcjcmnnhmajocab.Ho
namespace Go.Proofs.Ytcjcmnnhmajocab.Ho
open Go.RowKit Kt
set_option linter.unusedVariables false
set_option linter.unusedSimpArgs false
def decv (us : List Int) (k : Int) : Value :=
  if k < 0 then derr 4 else if (us.length : Int) < k then derr 4 else if k = us.length then derr 1 else
    if fcls (us.getD k.toNat 0 % 256) = 0 then derr 2 else if (us.length : Int) - k < wd (fcls (us.getD k.toNat 0 % 256)) then derr 1
    else dres (fcls (us.getD k.toNat 0 % 256)) (us.getD k.toNat 0) (us.getD (k.toNat + 1) 0) (us.getD (k.toNat + 2) 0)
/-- a slice whose words these are -/
def Sl (us : List Int) (ao : Option Addr) (cap : Nat) (w : World) : Prop :=
  us.length ≤ cap ∧ cap ≤ maxLen ∧ (0 < us.length → ∃ b off, ao = some ⟨b, off, none⟩ ∧ b < w.heap.size ∧ ∀ j, j < us.length → w.cell? ⟨b, off + j, none⟩ = some (.int .u32 (us.getD j 0)))
theorem Sl.keep {us : List Int} {ao : Option Addr} {cap : Nat} {w w' : World} (h : Sl us ao cap w) (hb : Below w.heap.size w w') : Sl us ao cap w' := by
  obtain ⟨h1, h2, h3⟩ := h
  refine ⟨h1, h2, fun h => ?_⟩
  obtain ⟨b, off, e, hlt, hc⟩ := h3 h
  have := hb.size
  exact ⟨b, off, e, by omega, fun j hj => (hb.cell (p := ⟨b, off + j, none⟩) hlt).trans (hc j hj)⟩
theorem rdec_all (us : List Int) (ao : Option Addr) (cap : Nat) (k : Int) (w : World) (hs : Sl us ao cap w) (hw : ∀ j, 0 ≤ us.getD j 0 ∧ us.getD j 0 < 4294967296) :
    Calls Try.prog 53 #[.slice ao us.length cap, .int .i64 k] w fun e w' => e = .returned (decv us k) ∧ Below w.heap.size w w' := by
  have hmx : (maxLen : Nat) = 9223372036854775807 := rfl
  unfold decv
  by_cases c1 : k < 0
  · rw [if_pos c1]; exact rdec_neg ao us.length cap k c1 w
  rw [if_neg c1]
  by_cases c2 : (us.length : Int) < k
  · rw [if_pos c2]; exact rdec_past ao us.length cap k c1 c2 w
  rw [if_neg c2]
  obtain ⟨h1, h2, h3⟩ := hs
  by_cases c3 : k = us.length
  · rw [if_pos c3]
    by_cases c4 : us.length = 0
    · rw [c4, c3, c4]; exact rdec_zero ao cap w
    · obtain ⟨b, off, rfl, _, _⟩ := h3 (by omega)
      rw [c3]; exact rdec_end b off us.length cap h1 w
  rw [if_neg c3]
  obtain ⟨j, rfl⟩ := Int.eq_ofNat_of_zero_le (show 0 ≤ k by omega)
  obtain ⟨b, off, rfl, hb, hc⟩ := h3 (by omega)
  have hj : j < us.length := by omega
  simp only [Int.toNat_natCast]
  by_cases c5 : fcls (us.getD j 0 % 256) = 0
  · rw [if_pos c5]; exact rdec_op b off us.length cap j _ w hj h1 (by omega) hb (hw j).1 (hw j).2 c5 (hc j hj)
  rw [if_neg c5]
  have h15 := fcls_le (us.getD j 0 % 256)
  by_cases c6 : (us.length : Int) - (j : Int) < wd (fcls (us.getD j 0 % 256))
  · rw [if_pos c6]; exact rdec_short b off us.length cap j _ w hj h1 (by omega) hb (hw j).1 (hw j).2 _ (by omega) h15 rfl c6 (hc j hj)
  rw [if_neg c6]
  have hr := wd_rg _ (show 1 ≤ fcls (us.getD j 0 % 256) by omega) h15
  exact rdec_any _ b off us.length cap j _ _ _ w (by omega) h15 (by omega) h1 h2 hb (hw j).1 (hw j).2 rfl (hc j hj) (fun h => by rw [Nat.add_assoc]; exact hc (j + 1) (by omega)) (fun h => by rw [Nat.add_assoc]; exact hc (j + 2) (by omega))
end Go.Proofs.Ytcjcmnnhmajocab.Ho
namespace Go.Proofs.Ytcjcmnnhmajocab.Hr
open Go.RowKit Kt Ho
set_option linter.unusedVariables false
set_option linter.unusedSimpArgs false
structure Cd where
  op : Int
  d : Int
  a : Int
  b : Int
  c : Int
  n : Int
  k : Int
  x : Int
def zcd : Cd := ⟨0, 0, 0, 0, 0, 0, 0, 0⟩
def Cd.L (x : Cd) : Array Value := #[.int .i64 x.op, .int .i64 x.d, .int .i64 x.a, .int .i64 x.b, .int .i64 x.c, .int .i64 x.n, .int .u32 x.k, .int .u32 x.x]
def Cd.of (q : Nat) (v k x : Int) : Cd := ⟨v % 256, pick (hD q) (v / 256 % 16), pick (hA q) (v / 256 / 16 % 16), pick (hB q) (v / 256 / 16 / 16 % 16), pick (hC q) (v / 256 / 16 / 16 / 16 % 16), pick (decide (nb q ≠ 0)) (v / 256 / 16 / 16 % 65536), pick (decide (1 < wd q)) k, pick (decide (2 < wd q)) x⟩
/-- the instruction at a place, its words, the error -/
def decP (us : List Int) (k : Int) : Cd × Int × Int :=
  if k < 0 then (zcd, 0, 4) else if (us.length : Int) < k then (zcd, 0, 4) else if k = us.length then (zcd, 0, 1) else
    if fcls (us.getD k.toNat 0 % 256) = 0 then (zcd, 0, 2) else if (us.length : Int) - k < wd (fcls (us.getD k.toNat 0 % 256)) then (zcd, 0, 1)
    else if good (fcls (us.getD k.toNat 0 % 256)) (us.getD k.toNat 0) then (Cd.of (fcls (us.getD k.toNat 0 % 256)) (us.getD k.toNat 0) (us.getD (k.toNat + 1) 0) (us.getD (k.toNat + 2) 0), wd (fcls (us.getD k.toNat 0 % 256)), 0)
    else (zcd, 0, 3)
def decT (r : Cd × Int × Int) : Value := .tuple #[.agg r.1.L, .int .i64 r.2.1, .int .i64 r.2.2]
theorem decv_eq (us : List Int) (k : Int) : decv us k = decT (decP us k) := by
  unfold decv decP
  split
  · rfl
  split
  · rfl
  split
  · rfl
  split
  · rfl
  split
  · rfl
  unfold dres
  split <;> rfl
/-- what is known of an instruction -/
structure CdOk (x : Cd) : Prop where
  op : 0 ≤ x.op ∧ x.op < 256
  q : fcls x.op ≠ 0
  d : 0 ≤ x.d ∧ x.d < 16
  a : 0 ≤ x.a ∧ x.a < 16
  b : 0 ≤ x.b ∧ x.b < 16
  c : 0 ≤ x.c ∧ x.c < 16
  n : 0 ≤ x.n ∧ x.n < 2048
  n12 : x.op = 6 ∨ x.op = 7 → x.n < 12
  k : 0 ≤ x.k ∧ x.k < 4294967296
  x : 0 ≤ x.x ∧ x.x < 4294967296
end Go.Proofs.Ytcjcmnnhmajocab.Hr
