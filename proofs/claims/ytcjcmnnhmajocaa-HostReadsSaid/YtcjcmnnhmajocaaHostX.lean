import Derived.Test.YtcjcmnnhmajocaaHostW
namespace Go.Proofs.Ytcjcmnnhmajocaa.Ho
open Go.RowKit Kt
set_option linter.unusedVariables false
set_option linter.unusedSimpArgs false
def derr (z : Int) : Value := .tuple #[.agg #[.int .i64 0, .int .i64 0, .int .i64 0, .int .i64 0, .int .i64 0, .int .i64 0, .int .u32 0, .int .u32 0], .int .i64 0, .int .i64 z]
theorem frow_words (q : Nat) (h2 : q ≤ 15) : ∃ (d a b c k : Bool) (n : Int), frow q = #[.bool d, .bool a, .bool b, .bool c, .bool k, .int .i64 n, .int .i64 (wd q)] := by
  rcases (show q = 0 ∨ q = 1 ∨ q = 2 ∨ q = 3 ∨ q = 4 ∨ q = 5 ∨ q = 6 ∨ q = 7 ∨ q = 8 ∨ q = 9 ∨ q = 10 ∨ q = 11 ∨ q = 12 ∨ q = 13 ∨ q = 14 ∨ q = 15 by omega) with rfl | rfl | rfl | rfl | rfl | rfl | rfl | rfl | rfl | rfl | rfl | rfl | rfl | rfl | rfl | rfl
  all_goals exact ⟨_, _, _, _, _, _, rfl⟩
theorem rform_words (q : Nat) (h2 : q ≤ 15) : ∃ (s : ByteArray) (m : Int), rform q = .tuple #[.string s, .int .i64 m, .int .i64 (wd q)] := by
  rcases (show q = 0 ∨ q = 1 ∨ q = 2 ∨ q = 3 ∨ q = 4 ∨ q = 5 ∨ q = 6 ∨ q = 7 ∨ q = 8 ∨ q = 9 ∨ q = 10 ∨ q = 11 ∨ q = 12 ∨ q = 13 ∨ q = 14 ∨ q = 15 by omega) with rfl | rfl | rfl | rfl | rfl | rfl | rfl | rfl | rfl | rfl | rfl | rfl | rfl | rfl | rfl | rfl
  all_goals exact ⟨_, _, rfl⟩
theorem wd_0 : wd 0 = 0 := by decide
theorem end_alloc {w W : World} {a : Act} {v : Value} {o d r b c n k x m e : Int} {ob : Obj} (hT : W.heap[w.heap.size]? = some (.cells zer 46 (0, 0))) (hBel : Below w.heap.size w W) (hv : v = .tuple #[.agg (cod o d r b c n k x), .int .i64 m, .int .i64 e])
    (h4 : a.tmps.getD 4 undef = .pointer (some ⟨w.heap.size, 0, none⟩)) (h5 : a.tmps.getD 5 undef = .int .i64 m) (h6 : a.tmps.getD 6 undef = .int .i64 e) (hd : a.defers = []) :
    bodyPost Try.prog Try.f25 (fun e w' => e = .returned v ∧ Below w.heap.size w w') .ret a
      (((((((((W.setCell ⟨w.heap.size, 0, none⟩ (.int .i64 o)).setCell ⟨w.heap.size, 1, none⟩ (.int .i64 d)).setCell ⟨w.heap.size, 2, none⟩ (.int .i64 r)).setCell ⟨w.heap.size, 3, none⟩ (.int .i64 b)).setCell ⟨w.heap.size, 4, none⟩ (.int .i64 c)).setCell ⟨w.heap.size, 5, none⟩ (.int .i64 n)).setCell ⟨w.heap.size, 6, none⟩ (.int .u32 k)).setCell ⟨w.heap.size, 7, none⟩ (.int .u32 x)).alloc ob) := by
  subst hv
  have h8 := set8 hT rfl (.int .i64 o) (.int .i64 d) (.int .i64 r) (.int .i64 b) (.int .i64 c) (.int .i64 n) (.int .u32 k) (.int .u32 x)
  have hb8 := set8_below hBel (Nat.le_refl _) (.int .i64 o) (.int .i64 d) (.int .i64 r) (.int .i64 b) (.int .i64 c) (.int .i64 n) (.int .u32 k) (.int .u32 x)
  exact bodyPost_ret (fin25 ((Below.heap_alloc _ ob _ (lt_of_block h8)).trans h8) h4 h5 h6) hd ⟨rfl, hb8.alloc hb8.size ob⟩
set_option maxRecDepth 100000 in
set_option maxHeartbeats 4000000 in
theorem dec_neg (ao : Option Addr) (len cap : Nat) (k : Int) (h : k < 0) (w : World) : Calls Try.prog 25 #[.slice ao len cap, .int .i64 k] w fun e w' => e = .returned (derr 4) ∧ Below w.heap.size w w' := by
  go_enter Try.func25, Try.ntmps25
  go_wp2
  all_goals refine bodyPost_ret (v := derr 4) (by simp [results, Try.results25, go_sem, derr]) rfl ⟨rfl, ?_⟩
  all_goals exact (Below.refl _ _).alloc (Nat.le_refl _) _
set_option maxRecDepth 100000 in
set_option maxHeartbeats 4000000 in
theorem dec_past (ao : Option Addr) (len cap : Nat) (k : Int) (h0 : ¬ k < 0) (h : (len : Int) < k) (w : World) : Calls Try.prog 25 #[.slice ao len cap, .int .i64 k] w fun e w' => e = .returned (derr 4) ∧ Below w.heap.size w w' := by
  go_enter Try.func25, Try.ntmps25
  go_wp2
  all_goals refine bodyPost_ret (v := derr 4) (by simp [results, Try.results25, go_sem, derr]) rfl ⟨rfl, ?_⟩
  all_goals exact (Below.refl _ _).alloc (Nat.le_refl _) _
set_option maxRecDepth 100000 in
set_option maxHeartbeats 4000000 in
theorem dec_zero (ao : Option Addr) (cap : Nat) (w : World) : Calls Try.prog 25 #[.slice ao 0 cap, .int .i64 ((0 : Nat) : Int)] w fun e w' => e = .returned (derr 1) ∧ Below w.heap.size w w' := by
  go_enter Try.func25, Try.ntmps25
  go_wp2
  all_goals refine bodyPost_ret (v := derr 1) (by simp [results, Try.results25, go_sem, derr]) rfl ⟨rfl, ?_⟩
  all_goals exact (Below.refl _ _).alloc (Nat.le_refl _) _
set_option maxRecDepth 100000 in
set_option maxHeartbeats 4000000 in
theorem dec_end (b off len cap : Nat) (hl : len ≤ cap) (w : World) : Calls Try.prog 25 #[.slice (some ⟨b, off, none⟩) len cap, .int .i64 (len : Int)] w fun e w' => e = .returned (derr 1) ∧ Below w.heap.size w w' := by
  have c0 : (0 : Int) ≤ (len : Int) := by omega
  go_enter Try.func25, Try.ntmps25
  go_wp2
  all_goals refine bodyPost_ret (v := derr 1) (by simp [results, Try.results25, go_sem, derr]) rfl ⟨rfl, ?_⟩
  all_goals exact (Below.refl _ _).alloc (Nat.le_refl _) _
set_option maxRecDepth 100000 in
set_option maxHeartbeats 4000000 in
theorem dec_nil (w : World) : Calls Try.prog 25 #[.slice none 0 0, .int .i64 0] w fun e w' => e = .returned (derr 1) ∧ Below w.heap.size w w' := by
  go_enter Try.func25, Try.ntmps25
  go_wp2
  all_goals refine bodyPost_ret (v := derr 1) (by simp [results, Try.results25, go_sem, derr]) rfl ⟨rfl, ?_⟩
  all_goals exact (Below.refl _ _).alloc (Nat.le_refl _) _
set_option maxRecDepth 100000 in
set_option maxHeartbeats 4000000 in
theorem rdec_neg (ao : Option Addr) (len cap : Nat) (k : Int) (h : k < 0) (w : World) : Calls Try.prog 26 #[.slice ao len cap, .int .i64 k] w fun e w' => e = .returned (derr 4) ∧ Below w.heap.size w w' := by
  go_enter Try.func26, Try.ntmps26
  go_wp2
  all_goals refine bodyPost_ret (v := derr 4) (by simp [results, Try.results26, go_sem, derr]) rfl ⟨rfl, ?_⟩
  all_goals exact (Below.refl _ _).alloc (Nat.le_refl _) _
set_option maxRecDepth 100000 in
set_option maxHeartbeats 4000000 in
theorem rdec_past (ao : Option Addr) (len cap : Nat) (k : Int) (h0 : ¬ k < 0) (h : (len : Int) < k) (w : World) : Calls Try.prog 26 #[.slice ao len cap, .int .i64 k] w fun e w' => e = .returned (derr 4) ∧ Below w.heap.size w w' := by
  go_enter Try.func26, Try.ntmps26
  go_wp2
  all_goals refine bodyPost_ret (v := derr 4) (by simp [results, Try.results26, go_sem, derr]) rfl ⟨rfl, ?_⟩
  all_goals exact (Below.refl _ _).alloc (Nat.le_refl _) _
set_option maxRecDepth 100000 in
set_option maxHeartbeats 4000000 in
theorem rdec_zero (ao : Option Addr) (cap : Nat) (w : World) : Calls Try.prog 26 #[.slice ao 0 cap, .int .i64 ((0 : Nat) : Int)] w fun e w' => e = .returned (derr 1) ∧ Below w.heap.size w w' := by
  go_enter Try.func26, Try.ntmps26
  go_wp2
  all_goals refine bodyPost_ret (v := derr 1) (by simp [results, Try.results26, go_sem, derr]) rfl ⟨rfl, ?_⟩
  all_goals exact (Below.refl _ _).alloc (Nat.le_refl _) _
set_option maxRecDepth 100000 in
set_option maxHeartbeats 4000000 in
theorem rdec_end (b off len cap : Nat) (hl : len ≤ cap) (w : World) : Calls Try.prog 26 #[.slice (some ⟨b, off, none⟩) len cap, .int .i64 (len : Int)] w fun e w' => e = .returned (derr 1) ∧ Below w.heap.size w w' := by
  have c0 : (0 : Int) ≤ (len : Int) := by omega
  go_enter Try.func26, Try.ntmps26
  go_wp2
  all_goals refine bodyPost_ret (v := derr 1) (by simp [results, Try.results26, go_sem, derr]) rfl ⟨rfl, ?_⟩
  all_goals exact (Below.refl _ _).alloc (Nat.le_refl _) _
set_option maxRecDepth 100000 in
set_option maxHeartbeats 4000000 in
theorem rdec_nil (w : World) : Calls Try.prog 26 #[.slice none 0 0, .int .i64 0] w fun e w' => e = .returned (derr 1) ∧ Below w.heap.size w w' := by
  go_enter Try.func26, Try.ntmps26
  go_wp2
  all_goals refine bodyPost_ret (v := derr 1) (by simp [results, Try.results26, go_sem, derr]) rfl ⟨rfl, ?_⟩
  all_goals exact (Below.refl _ _).alloc (Nat.le_refl _) _
set_option maxRecDepth 100000 in
set_option maxHeartbeats 4000000 in
theorem dec_op (b off len cap k : Nat) (v0 : Int) (w : World) (hk : k < len) (hl : len ≤ cap) (hb : b < w.heap.size) (h0 : 0 ≤ v0) (g0 : v0 < 4294967296) (hq : fcls (v0 % 256) = 0)
   (hc : w.cell? ⟨b, off + k, none⟩ = some (.int .u32 v0)) : Calls Try.prog 25 #[.slice (some ⟨b, off, none⟩) len cap, .int .i64 k] w fun e w' => e = .returned (derr 2) ∧ Below w.heap.size w w' := by
  have c0 : (0 : Int) ≤ (k : Int) := by omega
  have c1 : (k : Int) ≤ (len : Int) := by omega
  have c2 : ¬ ((len : Int) < (k : Int)) := by omega
  have c3 : ((len - k : Nat) : Int) = (len : Int) - k := by omega
  have c4 : ((len : Int) - k == 0) = false := by simp; omega
  have m := mask255 v0 h0 g0
  obtain ⟨fd, fa, fb, fc, fk, fn, hf⟩ := frow_words 0 (by omega)
  rw [wd_0] at hf
  go_enter Try.func25, Try.ntmps25
  go_wp2_with (first
    | (go_at_call 56; refine (formatOf_any (v0 % 256) _).mono ?_; rintro e w1 ⟨rfl, hb1⟩; rw [hq, hf]; have hT := behindT hb1; obtain ⟨kT, kX, zT, zX, s1, s2, hBel⟩ := behind2 hb1; clear hb1)
    | (go_at_call 57; fail))
  exact end_alloc hT hBel rfl rfl rfl rfl rfl
set_option maxRecDepth 100000 in
set_option maxHeartbeats 4000000 in
theorem rdec_op (b off len cap k : Nat) (v0 : Int) (w : World) (hk : k < len) (hl : len ≤ cap) (hm : len ≤ 9223372036854775807) (hb : b < w.heap.size) (h0 : 0 ≤ v0) (g0 : v0 < 4294967296) (hq : fcls (v0 % 256) = 0)
   (hc : w.cell? ⟨b, off + k, none⟩ = some (.int .u32 v0)) : Calls Try.prog 26 #[.slice (some ⟨b, off, none⟩) len cap, .int .i64 k] w fun e w' => e = .returned (derr 2) ∧ Below w.heap.size w w' := by
  have c0 : (0 : Int) ≤ (k : Int) := by omega
  have c1 : (k : Int) ≤ (len : Int) := by omega
  have c2 : ¬ ((len : Int) < (k : Int)) := by omega
  have c4 : ((k : Int) == (len : Int)) = false := by simp; omega
  have c6 : (k : Int) < (len : Int) := by omega
  have c7 : wrap64 ((len : Int) - k) = (len : Int) - k := IntWalk.wrap64_in _ (by omega)
  obtain ⟨fs, fm, hf⟩ := rform_words 0 (by omega)
  rw [wd_0] at hf
  clear hm
  go_enter Try.func26, Try.ntmps26
  go_wp2_with (first
    | (go_at_call 58; refine (form_any (v0 % 256) _).mono ?_; rintro e w1 ⟨rfl, rfl⟩; rw [hq, hf])
    | (go_at_call 59; fail))
  refine bodyPost_ret (v := derr 2) (by simp [results, Try.results26, go_sem, derr]) rfl ⟨rfl, ?_⟩
  exact ((Below.refl _ _).alloc (Nat.le_refl _) _).alloc (by simp) _
set_option maxRecDepth 100000 in
set_option maxHeartbeats 4000000 in
theorem dec_short (b off len cap k : Nat) (v0 : Int) (w : World) (hk : k < len) (hl : len ≤ cap) (hb : b < w.heap.size) (h0 : 0 ≤ v0) (g0 : v0 < 4294967296) (q : Nat) (h1 : 1 ≤ q) (h2 : q ≤ 15) (hq : fcls (v0 % 256) = q) (hw : (len : Int) - k < wd q)
   (hc : w.cell? ⟨b, off + k, none⟩ = some (.int .u32 v0)) : Calls Try.prog 25 #[.slice (some ⟨b, off, none⟩) len cap, .int .i64 k] w fun e w' => e = .returned (derr 1) ∧ Below w.heap.size w w' := by
  have c0 : (0 : Int) ≤ (k : Int) := by omega
  have c1 : (k : Int) ≤ (len : Int) := by omega
  have c2 : ¬ ((len : Int) < (k : Int)) := by omega
  have c3 : ((len - k : Nat) : Int) = (len : Int) - k := by omega
  have c4 : ((len : Int) - k == 0) = false := by simp; omega
  have m := mask255 v0 h0 g0
  obtain ⟨fd, fa, fb, fc, fk, fn, hf⟩ := frow_words q (by omega)
  have hr := wd_range q h1 h2
  have c6 : (wd q == 0) = false := by simp; omega
  go_enter Try.func25, Try.ntmps25
  go_wp2_with (first
    | (go_at_call 56; refine (formatOf_any (v0 % 256) _).mono ?_; rintro e w1 ⟨rfl, hb1⟩; rw [hq, hf]; have hT := behindT hb1; obtain ⟨kT, kX, zT, zX, s1, s2, hBel⟩ := behind2 hb1; clear hb1)
    | (go_at_call 57; fail))
  exact end_alloc hT hBel rfl rfl rfl rfl rfl
set_option maxRecDepth 100000 in
set_option maxHeartbeats 4000000 in
theorem rdec_short (b off len cap k : Nat) (v0 : Int) (w : World) (hk : k < len) (hl : len ≤ cap) (hm : len ≤ 9223372036854775807) (hb : b < w.heap.size) (h0 : 0 ≤ v0) (g0 : v0 < 4294967296) (q : Nat) (h1 : 1 ≤ q) (h2 : q ≤ 15) (hq : fcls (v0 % 256) = q) (hw : (len : Int) - k < wd q)
   (hc : w.cell? ⟨b, off + k, none⟩ = some (.int .u32 v0)) : Calls Try.prog 26 #[.slice (some ⟨b, off, none⟩) len cap, .int .i64 k] w fun e w' => e = .returned (derr 1) ∧ Below w.heap.size w w' := by
  have c0 : (0 : Int) ≤ (k : Int) := by omega
  have c1 : (k : Int) ≤ (len : Int) := by omega
  have c2 : ¬ ((len : Int) < (k : Int)) := by omega
  have c4 : ((k : Int) == (len : Int)) = false := by simp; omega
  have c6 : (k : Int) < (len : Int) := by omega
  have c7 : wrap64 ((len : Int) - k) = (len : Int) - k := IntWalk.wrap64_in _ (by omega)
  obtain ⟨fs, fm, hf⟩ := rform_words q (by omega)
  have hr := wd_range q h1 h2
  have c8 : (wd q == 0) = false := by simp; omega
  clear hm
  go_enter Try.func26, Try.ntmps26
  go_wp2_with (first
    | (go_at_call 58; refine (form_any (v0 % 256) _).mono ?_; rintro e w1 ⟨rfl, rfl⟩; rw [hq, hf])
    | (go_at_call 59; fail))
  refine bodyPost_ret (v := derr 1) (by simp [results, Try.results26, go_sem, derr]) rfl ⟨rfl, ?_⟩
  exact ((Below.refl _ _).alloc (Nat.le_refl _) _).alloc (by simp) _
end Go.Proofs.Ytcjcmnnhmajocaa.Ho
