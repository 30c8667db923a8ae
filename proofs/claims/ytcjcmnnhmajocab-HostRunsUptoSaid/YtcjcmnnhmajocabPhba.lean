/- Both Decodes, of any slice and place. -/
import Derived.Test.YtcjcmnnhmajocabPhaz
set_option linter.unusedVariables false
set_option linter.unusedSimpArgs false
set_option maxRecDepth 100000
set_option maxHeartbeats 16000000
namespace Go.Proofs.Ytcjcmnnhmajocab.Ho
open Go.RowKit Kt
def derr (z : Int) : Value := .tuple #[.agg #[.int .i64 0, .int .i64 0, .int .i64 0, .int .i64 0, .int .i64 0, .int .i64 0, .int .u32 0, .int .u32 0], .int .i64 0, .int .i64 z]
theorem frow_words (q : Nat) (h2 : q ≤ 15) : ∃ (d a b c k : Bool) (n : Int), frow q = #[.bool d, .bool a, .bool b, .bool c, .bool k, .int .i64 n, .int .i64 (wd q)] := by
 rcases (show q = 0 ∨ q = 1 ∨ q = 2 ∨ q = 3 ∨ q = 4 ∨ q = 5 ∨ q = 6 ∨ q = 7 ∨ q = 8 ∨ q = 9 ∨ q = 10 ∨ q = 11 ∨ q = 12 ∨ q = 13 ∨ q = 14 ∨ q = 15 by omega) with rfl | rfl | rfl | rfl | rfl | rfl | rfl | rfl | rfl | rfl | rfl | rfl | rfl | rfl | rfl | rfl
 all_goals exact ⟨_, _, _, _, _, _, rfl⟩
theorem rform_words (q : Nat) (h2 : q ≤ 15) : ∃ (s : ByteArray) (m : Int), rform q = .tuple #[.string s, .int .i64 m, .int .i64 (wd q)] := by
 rcases (show q = 0 ∨ q = 1 ∨ q = 2 ∨ q = 3 ∨ q = 4 ∨ q = 5 ∨ q = 6 ∨ q = 7 ∨ q = 8 ∨ q = 9 ∨ q = 10 ∨ q = 11 ∨ q = 12 ∨ q = 13 ∨ q = 14 ∨ q = 15 by omega) with rfl | rfl | rfl | rfl | rfl | rfl | rfl | rfl | rfl | rfl | rfl | rfl | rfl | rfl | rfl | rfl
 all_goals exact ⟨_, _, rfl⟩
theorem wd_rg (q : Nat) (h1 : 1 ≤ q) (h2 : q ≤ 15) : 1 ≤ wd q ∧ wd q ≤ 3 := by
 rcases (show q = 1 ∨ q = 2 ∨ q = 3 ∨ q = 4 ∨ q = 5 ∨ q = 6 ∨ q = 7 ∨ q = 8 ∨ q = 9 ∨ q = 10 ∨ q = 11 ∨ q = 12 ∨ q = 13 ∨ q = 14 ∨ q = 15 by omega) with rfl | rfl | rfl | rfl | rfl | rfl | rfl | rfl | rfl | rfl | rfl | rfl | rfl | rfl | rfl <;> decide
theorem wd_0 : wd 0 = 0 := by decide
theorem end_alloc {w W : World} {a : Act} {v : Value} {o d r b c n k x m e : Int} {ob : Obj} (hT : W.heap[w.heap.size]? = some (.cells zer 108 (0, 0))) (hBel : Below w.heap.size w W) (hv : v = .tuple #[.agg (cod o d r b c n k x), .int .i64 m, .int .i64 e])
  (h4 : a.tmps.getD 4 undef = .pointer (some ⟨w.heap.size, 0, none⟩)) (h5 : a.tmps.getD 5 undef = .int .i64 m) (h6 : a.tmps.getD 6 undef = .int .i64 e) (hd : a.defers = []) :
  bodyPost Try.prog Try.f89 (fun e w' => e = .returned v ∧ Below w.heap.size w w') .ret a
   (((((((((W.setCell ⟨w.heap.size, 0, none⟩ (.int .i64 o)).setCell ⟨w.heap.size, 1, none⟩ (.int .i64 d)).setCell ⟨w.heap.size, 2, none⟩ (.int .i64 r)).setCell ⟨w.heap.size, 3, none⟩ (.int .i64 b)).setCell ⟨w.heap.size, 4, none⟩ (.int .i64 c)).setCell ⟨w.heap.size, 5, none⟩ (.int .i64 n)).setCell ⟨w.heap.size, 6, none⟩ (.int .u32 k)).setCell ⟨w.heap.size, 7, none⟩ (.int .u32 x)).alloc ob) := by
 subst hv
 have h8 := set8 hT rfl (.int .i64 o) (.int .i64 d) (.int .i64 r) (.int .i64 b) (.int .i64 c) (.int .i64 n) (.int .u32 k) (.int .u32 x)
 have hb8 := set8_below hBel (Nat.le_refl _) (.int .i64 o) (.int .i64 d) (.int .i64 r) (.int .i64 b) (.int .i64 c) (.int .i64 n) (.int .u32 k) (.int .u32 x)
 exact bodyPost_ret (fin25 ((Below.heap_alloc _ ob _ (lt_of_block h8)).trans h8) h4 h5 h6) hd ⟨rfl, hb8.alloc hb8.size ob⟩
theorem dec_neg (ao : Option Addr) (len cap : Nat) (k : Int) (h : k < 0) (w : World) : Calls Try.prog 89 #[.slice ao len cap, .int .i64 k] w fun e w' => e = .returned (derr 4) ∧ Below w.heap.size w w' := by
 go_enter Try.func89, Try.ntmps89
 go_wp2
 all_goals refine bodyPost_ret (v := derr 4) (by simp [results, Try.results89, go_sem, derr]) rfl ⟨rfl, ?_⟩
 all_goals exact (Below.refl _ _).alloc (Nat.le_refl _) _
theorem dec_past (ao : Option Addr) (len cap : Nat) (k : Int) (h0 : ¬ k < 0) (h : (len : Int) < k) (w : World) : Calls Try.prog 89 #[.slice ao len cap, .int .i64 k] w fun e w' => e = .returned (derr 4) ∧ Below w.heap.size w w' := by
 go_enter Try.func89, Try.ntmps89
 go_wp2
 all_goals refine bodyPost_ret (v := derr 4) (by simp [results, Try.results89, go_sem, derr]) rfl ⟨rfl, ?_⟩
 all_goals exact (Below.refl _ _).alloc (Nat.le_refl _) _
theorem dec_zero (ao : Option Addr) (cap : Nat) (w : World) : Calls Try.prog 89 #[.slice ao 0 cap, .int .i64 ((0 : Nat) : Int)] w fun e w' => e = .returned (derr 1) ∧ Below w.heap.size w w' := by
 go_enter Try.func89, Try.ntmps89
 go_wp2
 all_goals refine bodyPost_ret (v := derr 1) (by simp [results, Try.results89, go_sem, derr]) rfl ⟨rfl, ?_⟩
 all_goals exact (Below.refl _ _).alloc (Nat.le_refl _) _
theorem dec_end (b off len cap : Nat) (hl : len ≤ cap) (w : World) : Calls Try.prog 89 #[.slice (some ⟨b, off, none⟩) len cap, .int .i64 (len : Int)] w fun e w' => e = .returned (derr 1) ∧ Below w.heap.size w w' := by
 have c0 : (0 : Int) ≤ (len : Int) := by omega
 go_enter Try.func89, Try.ntmps89
 go_wp2
 all_goals refine bodyPost_ret (v := derr 1) (by simp [results, Try.results89, go_sem, derr]) rfl ⟨rfl, ?_⟩
 all_goals exact (Below.refl _ _).alloc (Nat.le_refl _) _
theorem rdec_neg (ao : Option Addr) (len cap : Nat) (k : Int) (h : k < 0) (w : World) : Calls Try.prog 53 #[.slice ao len cap, .int .i64 k] w fun e w' => e = .returned (derr 4) ∧ Below w.heap.size w w' := by
 go_enter Try.func53, Try.ntmps53
 go_wp2
 all_goals refine bodyPost_ret (v := derr 4) (by simp [results, Try.results53, go_sem, derr]) rfl ⟨rfl, ?_⟩
 all_goals exact (Below.refl _ _).alloc (Nat.le_refl _) _
theorem rdec_past (ao : Option Addr) (len cap : Nat) (k : Int) (h0 : ¬ k < 0) (h : (len : Int) < k) (w : World) : Calls Try.prog 53 #[.slice ao len cap, .int .i64 k] w fun e w' => e = .returned (derr 4) ∧ Below w.heap.size w w' := by
 go_enter Try.func53, Try.ntmps53
 go_wp2
 all_goals refine bodyPost_ret (v := derr 4) (by simp [results, Try.results53, go_sem, derr]) rfl ⟨rfl, ?_⟩
 all_goals exact (Below.refl _ _).alloc (Nat.le_refl _) _
theorem rdec_zero (ao : Option Addr) (cap : Nat) (w : World) : Calls Try.prog 53 #[.slice ao 0 cap, .int .i64 ((0 : Nat) : Int)] w fun e w' => e = .returned (derr 1) ∧ Below w.heap.size w w' := by
 go_enter Try.func53, Try.ntmps53
 go_wp2
 all_goals refine bodyPost_ret (v := derr 1) (by simp [results, Try.results53, go_sem, derr]) rfl ⟨rfl, ?_⟩
 all_goals exact (Below.refl _ _).alloc (Nat.le_refl _) _
theorem rdec_end (b off len cap : Nat) (hl : len ≤ cap) (w : World) : Calls Try.prog 53 #[.slice (some ⟨b, off, none⟩) len cap, .int .i64 (len : Int)] w fun e w' => e = .returned (derr 1) ∧ Below w.heap.size w w' := by
 have c0 : (0 : Int) ≤ (len : Int) := by omega
 go_enter Try.func53, Try.ntmps53
 go_wp2
 all_goals refine bodyPost_ret (v := derr 1) (by simp [results, Try.results53, go_sem, derr]) rfl ⟨rfl, ?_⟩
 all_goals exact (Below.refl _ _).alloc (Nat.le_refl _) _
theorem dec_op (b off len cap k : Nat) (v0 : Int) (w : World) (hk : k < len) (hl : len ≤ cap) (hb : b < w.heap.size) (h0 : 0 ≤ v0) (g0 : v0 < 4294967296) (hq : fcls (v0 % 256) = 0)
  (hc : w.cell? ⟨b, off + k, none⟩ = some (.int .u32 v0)) : Calls Try.prog 89 #[.slice (some ⟨b, off, none⟩) len cap, .int .i64 k] w fun e w' => e = .returned (derr 2) ∧ Below w.heap.size w w' := by
 have c0 : (0 : Int) ≤ (k : Int) := by omega
 have c1 : (k : Int) ≤ (len : Int) := by omega
 have c2 : ¬ ((len : Int) < (k : Int)) := by omega
 have c3 : ((len - k : Nat) : Int) = (len : Int) - k := by omega
 have c4 : ((len : Int) - k == 0) = false := by simp; omega
 have m := mask255 v0 h0 g0
 obtain ⟨fd, fa, fb, fc, fk, fn, hf⟩ := frow_words 0 (by omega)
 rw [wd_0] at hf
 go_enter Try.func89, Try.ntmps89
 go_wp2_with (first
  | (go_at_call 149; refine (formatOf_any (v0 % 256) _).mono ?_; rintro e w1 ⟨rfl, hb1⟩; rw [hq, hf]; have hT := behindT hb1; obtain ⟨kT, kX, zT, zX, s1, s2, hBel⟩ := behind2 hb1; clear hb1)
  | (go_at_call 150; fail))
 exact end_alloc hT hBel rfl rfl rfl rfl rfl
theorem rdec_op (b off len cap k : Nat) (v0 : Int) (w : World) (hk : k < len) (hl : len ≤ cap) (hm : len ≤ 9223372036854775807) (hb : b < w.heap.size) (h0 : 0 ≤ v0) (g0 : v0 < 4294967296) (hq : fcls (v0 % 256) = 0)
  (hc : w.cell? ⟨b, off + k, none⟩ = some (.int .u32 v0)) : Calls Try.prog 53 #[.slice (some ⟨b, off, none⟩) len cap, .int .i64 k] w fun e w' => e = .returned (derr 2) ∧ Below w.heap.size w w' := by
 have c0 : (0 : Int) ≤ (k : Int) := by omega
 have c1 : (k : Int) ≤ (len : Int) := by omega
 have c2 : ¬ ((len : Int) < (k : Int)) := by omega
 have c4 : ((k : Int) == (len : Int)) = false := by simp; omega
 have c6 : (k : Int) < (len : Int) := by omega
 have c7 : wrap64 ((len : Int) - k) = (len : Int) - k := IntWalk.wrap64_in _ (by omega)
 obtain ⟨fs, fm, hf⟩ := rform_words 0 (by omega)
 rw [wd_0] at hf
 clear hm
 go_enter Try.func53, Try.ntmps53
 go_wp2_with (first
  | (go_at_call 97; refine (form_any (v0 % 256) _).mono ?_; rintro e w1 ⟨rfl, rfl⟩; rw [hq, hf])
  | (go_at_call 98; fail))
 refine bodyPost_ret (v := derr 2) (by simp [results, Try.results53, go_sem, derr]) rfl ⟨rfl, ?_⟩
 exact ((Below.refl _ _).alloc (Nat.le_refl _) _).alloc (by simp) _
theorem dec_short (b off len cap k : Nat) (v0 : Int) (w : World) (hk : k < len) (hl : len ≤ cap) (hb : b < w.heap.size) (h0 : 0 ≤ v0) (g0 : v0 < 4294967296) (q : Nat) (h1 : 1 ≤ q) (h2 : q ≤ 15) (hq : fcls (v0 % 256) = q) (hw : (len : Int) - k < wd q)
  (hc : w.cell? ⟨b, off + k, none⟩ = some (.int .u32 v0)) : Calls Try.prog 89 #[.slice (some ⟨b, off, none⟩) len cap, .int .i64 k] w fun e w' => e = .returned (derr 1) ∧ Below w.heap.size w w' := by
 have c0 : (0 : Int) ≤ (k : Int) := by omega
 have c1 : (k : Int) ≤ (len : Int) := by omega
 have c2 : ¬ ((len : Int) < (k : Int)) := by omega
 have c3 : ((len - k : Nat) : Int) = (len : Int) - k := by omega
 have c4 : ((len : Int) - k == 0) = false := by simp; omega
 have m := mask255 v0 h0 g0
 obtain ⟨fd, fa, fb, fc, fk, fn, hf⟩ := frow_words q (by omega)
 have hr := wd_rg q h1 h2
 have c6 : (wd q == 0) = false := by simp; omega
 go_enter Try.func89, Try.ntmps89
 go_wp2_with (first
  | (go_at_call 149; refine (formatOf_any (v0 % 256) _).mono ?_; rintro e w1 ⟨rfl, hb1⟩; rw [hq, hf]; have hT := behindT hb1; obtain ⟨kT, kX, zT, zX, s1, s2, hBel⟩ := behind2 hb1; clear hb1)
  | (go_at_call 150; fail))
 exact end_alloc hT hBel rfl rfl rfl rfl rfl
theorem rdec_short (b off len cap k : Nat) (v0 : Int) (w : World) (hk : k < len) (hl : len ≤ cap) (hm : len ≤ 9223372036854775807) (hb : b < w.heap.size) (h0 : 0 ≤ v0) (g0 : v0 < 4294967296) (q : Nat) (h1 : 1 ≤ q) (h2 : q ≤ 15) (hq : fcls (v0 % 256) = q) (hw : (len : Int) - k < wd q)
  (hc : w.cell? ⟨b, off + k, none⟩ = some (.int .u32 v0)) : Calls Try.prog 53 #[.slice (some ⟨b, off, none⟩) len cap, .int .i64 k] w fun e w' => e = .returned (derr 1) ∧ Below w.heap.size w w' := by
 have c0 : (0 : Int) ≤ (k : Int) := by omega
 have c1 : (k : Int) ≤ (len : Int) := by omega
 have c2 : ¬ ((len : Int) < (k : Int)) := by omega
 have c4 : ((k : Int) == (len : Int)) = false := by simp; omega
 have c6 : (k : Int) < (len : Int) := by omega
 have c7 : wrap64 ((len : Int) - k) = (len : Int) - k := IntWalk.wrap64_in _ (by omega)
 obtain ⟨fs, fm, hf⟩ := rform_words q (by omega)
 have hr := wd_rg q h1 h2
 have c8 : (wd q == 0) = false := by simp; omega
 clear hm
 go_enter Try.func53, Try.ntmps53
 go_wp2_with (first
  | (go_at_call 97; refine (form_any (v0 % 256) _).mono ?_; rintro e w1 ⟨rfl, rfl⟩; rw [hq, hf])
  | (go_at_call 98; fail))
 refine bodyPost_ret (v := derr 1) (by simp [results, Try.results53, go_sem, derr]) rfl ⟨rfl, ?_⟩
 exact ((Below.refl _ _).alloc (Nat.le_refl _) _).alloc (by simp) _
end Go.Proofs.Ytcjcmnnhmajocab.Ho
namespace Go.Proofs.Ytcjcmnnhmajocab.Ho
open Go.RowKit Kt
def decv (us : List Int) (k : Int) : Value :=
 if k < 0 then derr 4 else if (us.length : Int) < k then derr 4 else if k = us.length then derr 1 else
  if fcls (us.getD k.toNat 0 % 256) = 0 then derr 2 else if (us.length : Int) - k < wd (fcls (us.getD k.toNat 0 % 256)) then derr 1
  else dres (fcls (us.getD k.toNat 0 % 256)) (us.getD k.toNat 0) (us.getD (k.toNat + 1) 0) (us.getD (k.toNat + 2) 0)
/-- a slice whose words these are -/
def Sl (us : List Int) (ao : Option Addr) (cap : Nat) (w : World) : Prop :=
 us.length ≤ cap ∧ cap ≤ maxLen ∧ (0 < us.length → ∃ b off, ao = some ⟨b, off, none⟩ ∧ b < w.heap.size ∧ ∀ j, j < us.length → w.cell? ⟨b, off + j, none⟩ = some (.int .u32 (us.getD j 0)))
theorem Sl.keep {us : List Int} {ao : Option Addr} {cap : Nat} {w w' : World} (h : Sl us ao cap w) (hb : Below w.heap.size w w') : Sl us ao cap w' := by
 obtain ⟨h1, h2, h3⟩ := h
 refine ⟨h1, h2, fun h => ?_⟩
 obtain ⟨b, off, e, hlt, hc⟩ := h3 h
 have := hb.size
 exact ⟨b, off, e, by omega, fun j hj => (hb.cell (p := ⟨b, off + j, none⟩) hlt).trans (hc j hj)⟩
theorem dec_all (us : List Int) (ao : Option Addr) (cap : Nat) (k : Int) (w : World) (hs : Sl us ao cap w) (hw : ∀ j, 0 ≤ us.getD j 0 ∧ us.getD j 0 < 4294967296) :
  Calls Try.prog 89 #[.slice ao us.length cap, .int .i64 k] w fun e w' => e = .returned (decv us k) ∧ Below w.heap.size w w' := by
 have hmx : (maxLen : Nat) = 9223372036854775807 := rfl
 unfold decv
 by_cases c1 : k < 0
 ·rw [if_pos c1]; exact dec_neg ao us.length cap k c1 w
 rw [if_neg c1]
 by_cases c2 : (us.length : Int) < k
 ·rw [if_pos c2]; exact dec_past ao us.length cap k c1 c2 w
 rw [if_neg c2]
 obtain ⟨h1, h2, h3⟩ := hs
 by_cases c3 : k = us.length
 ·rw [if_pos c3]
  by_cases c4 : us.length = 0
  ·rw [c4, c3, c4]; exact dec_zero ao cap w
  ·obtain ⟨b, off, rfl, _, _⟩ := h3 (by omega)
   rw [c3]; exact dec_end b off us.length cap h1 w
 rw [if_neg c3]
 obtain ⟨j, rfl⟩ := Int.eq_ofNat_of_zero_le (show 0 ≤ k by omega)
 obtain ⟨b, off, rfl, hb, hc⟩ := h3 (by omega)
 have hj : j < us.length := by omega
 simp only [Int.toNat_natCast]
 by_cases c5 : fcls (us.getD j 0 % 256) = 0
 ·rw [if_pos c5]; exact dec_op b off us.length cap j _ w hj h1 hb (hw j).1 (hw j).2 c5 (hc j hj)
 rw [if_neg c5]
 have h15 := fcls_le (us.getD j 0 % 256)
 by_cases c6 : (us.length : Int) - (j : Int) < wd (fcls (us.getD j 0 % 256))
 ·rw [if_pos c6]; exact dec_short b off us.length cap j _ w hj h1 hb (hw j).1 (hw j).2 _ (by omega) h15 rfl c6 (hc j hj)
 rw [if_neg c6]
 have hr := wd_rg _ (show 1 ≤ fcls (us.getD j 0 % 256) by omega) h15
 exact dec_any _ b off us.length cap j _ _ _ w (by omega) h15 (by omega) h1 h2 hb (hw j).1 (hw j).2 rfl (hc j hj) (fun h => by rw [Nat.add_assoc]; exact hc (j + 1) (by omega)) (fun h => by rw [Nat.add_assoc]; exact hc (j + 2) (by omega))
theorem rdec_all (us : List Int) (ao : Option Addr) (cap : Nat) (k : Int) (w : World) (hs : Sl us ao cap w) (hw : ∀ j, 0 ≤ us.getD j 0 ∧ us.getD j 0 < 4294967296) :
  Calls Try.prog 53 #[.slice ao us.length cap, .int .i64 k] w fun e w' => e = .returned (decv us k) ∧ Below w.heap.size w w' := by
 have hmx : (maxLen : Nat) = 9223372036854775807 := rfl
 unfold decv
 by_cases c1 : k < 0
 ·rw [if_pos c1]; exact rdec_neg ao us.length cap k c1 w
 rw [if_neg c1]
 by_cases c2 : (us.length : Int) < k
 ·rw [if_pos c2]; exact rdec_past ao us.length cap k c1 c2 w
 rw [if_neg c2]
 obtain ⟨h1, h2, h3⟩ := hs
 by_cases c3 : k = us.length
 ·rw [if_pos c3]
  by_cases c4 : us.length = 0
  ·rw [c4, c3, c4]; exact rdec_zero ao cap w
  ·obtain ⟨b, off, rfl, _, _⟩ := h3 (by omega)
   rw [c3]; exact rdec_end b off us.length cap h1 w
 rw [if_neg c3]
 obtain ⟨j, rfl⟩ := Int.eq_ofNat_of_zero_le (show 0 ≤ k by omega)
 obtain ⟨b, off, rfl, hb, hc⟩ := h3 (by omega)
 have hj : j < us.length := by omega
 simp only [Int.toNat_natCast]
 by_cases c5 : fcls (us.getD j 0 % 256) = 0
 ·rw [if_pos c5]; exact rdec_op b off us.length cap j _ w hj h1 (by omega) hb (hw j).1 (hw j).2 c5 (hc j hj)
 rw [if_neg c5]
 have h15 := fcls_le (us.getD j 0 % 256)
 by_cases c6 : (us.length : Int) - (j : Int) < wd (fcls (us.getD j 0 % 256))
 ·rw [if_pos c6]; exact rdec_short b off us.length cap j _ w hj h1 (by omega) hb (hw j).1 (hw j).2 _ (by omega) h15 rfl c6 (hc j hj)
 rw [if_neg c6]
 have hr := wd_rg _ (show 1 ≤ fcls (us.getD j 0 % 256) by omega) h15
 exact rdec_any _ b off us.length cap j _ _ _ w (by omega) h15 (by omega) h1 h2 hb (hw j).1 (hw j).2 rfl (hc j hj) (fun h => by rw [Nat.add_assoc]; exact hc (j + 1) (by omega)) (fun h => by rw [Nat.add_assoc]; exact hc (j + 2) (by omega))
end Go.Proofs.Ytcjcmnnhmajocab.Ho
