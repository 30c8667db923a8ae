/- mem.Memory.Load. -/
import Derived.Test.YtcjcmnnhmajocaaMeF
import Derived.Test.YtcjcmnnhmajocaaMeG
import Derived.Test.YtcjcmnnhmajocaaGuV
namespace Go.Proofs.Ytcjcmnnhmajocaa.Me
open Go.RowKit Kt
set_option linter.unusedVariables false
set_option linter.unusedSimpArgs false
theorem or_two (a b : Int) (ha : 0 ≤ a ∧ a < 256) (hb : 0 ≤ b ∧ b < 256) : bits .or .u32 a (b * 256) = a + b * 256 := Gu.or_up 8 _ _ (by omega) (by omega) (by omega) (by omega) (by omega) (by omega)
theorem or_zero (b : Int) (hb : 0 ≤ b ∧ b < 256) : bits .or .u32 0 b = b := (Gu.or_up 0 0 b (by omega) (by omega) (by omega) (by omega) (by omega) (by omega)).trans (by omega)
theorem or_three (a b c : Int) (ha : 0 ≤ a ∧ a < 256) (hb : 0 ≤ b ∧ b < 256) (hc : 0 ≤ c ∧ c < 256) : bits .or .u32 (a + b * 256) (c * 65536) = a + b * 256 + c * 65536 := Gu.or_up 16 _ _ (by omega) (by omega) (by omega) (by omega) (by omega) (by omega)
theorem or_four (a b c d : Int) (ha : 0 ≤ a ∧ a < 256) (hb : 0 ≤ b ∧ b < 256) (hc : 0 ≤ c ∧ c < 256) (hd : 0 ≤ d ∧ d < 256) : bits .or .u32 (a + b * 256 + c * 65536) (d * 16777216) = a + b * 256 + c * 65536 + d * 16777216 := Gu.or_up 24 _ _ (by omega) (by omega) (by omega) (by omega) (by omega) (by omega)
set_option maxRecDepth 100000 in
set_option maxHeartbeats 2000000 in
theorem load_bad (p : Nat) (M : MM) (N a n x : Int) (w : World) (h : HM p M N w) (hM : MOk M) (a0 : 0 ≤ a) (a1 : a < 4294967296) (n1 : n < 9223372036854775808) (hs : srch M 1 a n.toNat = some x) :
    Calls Try.prog 74 #[.pointer (some ⟨p, 0, none⟩), .int .u32 a, .int .i64 n] w fun e w' => e = .returned (.tuple #[.int .u32 0, .agg #[.int .i64 5, .int .u32 x]]) ∧ Below w.heap.size w w' := by
  have HB := Lib.hid (fun w h => bad_any p M N a n 1 w h hM (.inl rfl) a0 a1 n1)
  rw [hs] at HB
  simp only [srV] at HB
  have b0 := Below.refl w.heap.size w
  have HH := Lib.hid (fun o => h.upto ((Upto.refl (fun _ => False) w).alloc o) id)
  clear h hM hs
  go_enter Try.func74, Try.ntmps74
  go_wp2_with (go_at_call 117; refine (HB.out _ (HH.out _)).mono ?_; rintro e w' ⟨rfl, rfl⟩)
  refine bodyPost_ret (v := .tuple #[.int .u32 0, .agg #[.int .i64 5, .int .u32 x]]) (by simp [results, Try.results74, go_sem]) rfl ⟨rfl, ?_⟩
  exact b0.alloc (Nat.le_refl _) _
set_option maxRecDepth 100000 in
set_option maxHeartbeats 2000000 in
theorem load_none (p : Nat) (M : MM) (N a n : Int) (w : World) (h : HM p M N w) (hM : MOk M) (a0 : 0 ≤ a) (a1 : a < 4294967296) (n1 : n < 9223372036854775808) (hs : srch M 1 a n.toNat = none) (hn : ¬ (n = 1 ∨ n = 2 ∨ n = 4)) :
    Calls Try.prog 74 #[.pointer (some ⟨p, 0, none⟩), .int .u32 a, .int .i64 n] w fun e w' => e = .returned (.tuple #[.int .u32 0, .agg #[.int .i64 0, .int .u32 0]]) ∧ Below w.heap.size w w' := by
  have HB := Lib.hid (fun w h => bad_any p M N a n 1 w h hM (.inl rfl) a0 a1 n1)
  rw [hs] at HB
  simp only [srV] at HB
  have b0 := Below.refl w.heap.size w
  have HH := Lib.hid (fun o => h.upto ((Upto.refl (fun _ => False) w).alloc o) id)
  have e1 : (n != 1) = true := by rw [bne_iff_ne]; omega
  have e2 : (n != 2) = true := by rw [bne_iff_ne]; omega
  have e4 : (n != 4) = true := by rw [bne_iff_ne]; omega
  clear h hM hs hn
  go_enter Try.func74, Try.ntmps74
  go_wp2_with (go_at_call 117; refine (HB.out _ (HH.out _)).mono ?_; rintro e w' ⟨rfl, rfl⟩)
  refine bodyPost_ret (v := .tuple #[.int .u32 0, .agg #[.int .i64 0, .int .u32 0]]) (by simp [results, Try.results74, go_sem]) rfl ⟨rfl, ?_⟩
  exact b0.alloc (Nat.le_refl _) _
set_option maxRecDepth 100000 in
set_option maxHeartbeats 2000000 in
theorem load_1 (p : Nat) (M : MM) (N a : Int) (w : World) (h : HM p M N w) (hM : MOk M) (a0 : 0 ≤ a) (a1 : a < 4294967296) (hs : srch M 1 a 1 = none) :
    Calls Try.prog 74 #[.pointer (some ⟨p, 0, none⟩), .int .u32 a, .int .i64 1] w fun e w' => e = .returned (.tuple #[.int .u32 (byt M a 0), .agg #[.int .i64 0, .int .u32 0]]) ∧ Below w.heap.size w w' := by
  have HB := Lib.hid (fun w h => bad_any p M N a 1 1 w h hM (.inl rfl) a0 a1 (by omega))
  rw [show (1 : Int).toNat = 1 from rfl, hs] at HB
  simp only [srV] at HB
  have b0 := Below.refl w.heap.size w
  have HH := Lib.hid (fun o => h.upto ((Upto.refl (fun _ => False) w).alloc o) id)
  have p0 := (plc_in a0 a1 hs 0 (by omega) (by omega)).2
  unfold byt
  rw [Nat.add_zero]
  have hp := h.2.2.2.2.2.2
  have b1 : a < 65536 := by omega
  have c0 := h.1 a.toNat (by omega)
  have r0 := hM.1 a.toNat
  generalize M.by_ a.toNat = y0 at c0 r0 ⊢
  have o1 := or_zero y0 r0
  obtain ⟨r0a, r0b⟩ := r0
  clear h hM hs p0
  go_enter Try.func74, Try.ntmps74
  go_wp2_with (go_at_call 117; refine (HB.out _ (HH.out _)).mono ?_; rintro e w' ⟨rfl, rfl⟩)
  refine wp_loop_rounds 2 ?_
  rw [rounds_succ]; go_wp2
  rw [rounds_succ]; go_wp2
  refine bodyPost_ret (v := .tuple #[.int .u32 (y0), .agg #[.int .i64 0, .int .u32 0]]) (by simp [results, Try.results74, go_sem]) rfl ⟨rfl, ?_⟩
  exact b0.alloc (Nat.le_refl _) _
set_option maxRecDepth 100000 in
set_option maxHeartbeats 2000000 in
theorem load_2 (p : Nat) (M : MM) (N a : Int) (w : World) (h : HM p M N w) (hM : MOk M) (a0 : 0 ≤ a) (a1 : a < 4294967296) (hs : srch M 1 a 2 = none) :
    Calls Try.prog 74 #[.pointer (some ⟨p, 0, none⟩), .int .u32 a, .int .i64 2] w fun e w' => e = .returned (.tuple #[.int .u32 (byt M a 0 + byt M a 1 * 256), .agg #[.int .i64 0, .int .u32 0]]) ∧ Below w.heap.size w w' := by
  have HB := Lib.hid (fun w h => bad_any p M N a 2 1 w h hM (.inl rfl) a0 a1 (by omega))
  rw [show (2 : Int).toNat = 2 from rfl, hs] at HB
  simp only [srV] at HB
  have b0 := Below.refl w.heap.size w
  have HH := Lib.hid (fun o => h.upto ((Upto.refl (fun _ => False) w).alloc o) id)
  have p0 := (plc_in a0 a1 hs 1 (by omega) (by omega)).2
  unfold byt
  rw [Nat.add_zero]
  have hp := h.2.2.2.2.2.2
  have b1 : a < 65536 := by omega
  have b2 : a + 1 < 65536 := by omega
  have c0 := h.1 a.toNat (by omega)
  have r0 := hM.1 a.toNat
  have c1 := h.1 (a.toNat + 1) (by omega)
  have r1 := hM.1 (a.toNat + 1)
  rw [show a.toNat + 1 = (a + 1).toNat by omega] at c1 r1
  generalize M.by_ a.toNat = y0 at c0 r0 ⊢
  rw [show a.toNat + 1 = (a + 1).toNat by omega]
  generalize M.by_ ((a + 1).toNat) = y1 at c1 r1 ⊢
  have o1 := or_zero y0 r0
  have o2 := or_two y0 y1 r0 r1
  obtain ⟨r0a, r0b⟩ := r0
  obtain ⟨r1a, r1b⟩ := r1
  clear h hM hs p0
  go_enter Try.func74, Try.ntmps74
  go_wp2_with (go_at_call 117; refine (HB.out _ (HH.out _)).mono ?_; rintro e w' ⟨rfl, rfl⟩)
  refine wp_loop_rounds 3 ?_
  rw [rounds_succ]; go_wp2
  rw [rounds_succ]; go_wp2
  rw [rounds_succ]; go_wp2
  refine bodyPost_ret (v := .tuple #[.int .u32 (y0 + y1 * 256), .agg #[.int .i64 0, .int .u32 0]]) (by simp [results, Try.results74, go_sem]) rfl ⟨rfl, ?_⟩
  exact b0.alloc (Nat.le_refl _) _
set_option maxRecDepth 100000 in
set_option maxHeartbeats 2000000 in
theorem load_4 (p : Nat) (M : MM) (N a : Int) (w : World) (h : HM p M N w) (hM : MOk M) (a0 : 0 ≤ a) (a1 : a < 4294967296) (hs : srch M 1 a 4 = none) :
    Calls Try.prog 74 #[.pointer (some ⟨p, 0, none⟩), .int .u32 a, .int .i64 4] w fun e w' => e = .returned (.tuple #[.int .u32 (byt M a 0 + byt M a 1 * 256 + byt M a 2 * 65536 + byt M a 3 * 16777216), .agg #[.int .i64 0, .int .u32 0]]) ∧ Below w.heap.size w w' := by
  have HB := Lib.hid (fun w h => bad_any p M N a 4 1 w h hM (.inl rfl) a0 a1 (by omega))
  rw [show (4 : Int).toNat = 4 from rfl, hs] at HB
  simp only [srV] at HB
  have b0 := Below.refl w.heap.size w
  have HH := Lib.hid (fun o => h.upto ((Upto.refl (fun _ => False) w).alloc o) id)
  have p0 := (plc_in a0 a1 hs 3 (by omega) (by omega)).2
  unfold byt
  rw [Nat.add_zero]
  have hp := h.2.2.2.2.2.2
  have b1 : a < 65536 := by omega
  have b2 : a + 1 < 65536 := by omega
  have b3 : a + 2 < 65536 := by omega
  have b4 : a + 3 < 65536 := by omega
  have c0 := h.1 a.toNat (by omega)
  have r0 := hM.1 a.toNat
  have c1 := h.1 (a.toNat + 1) (by omega)
  have r1 := hM.1 (a.toNat + 1)
  rw [show a.toNat + 1 = (a + 1).toNat by omega] at c1 r1
  have c2 := h.1 (a.toNat + 2) (by omega)
  have r2 := hM.1 (a.toNat + 2)
  rw [show a.toNat + 2 = (a + 2).toNat by omega] at c2 r2
  have c3 := h.1 (a.toNat + 3) (by omega)
  have r3 := hM.1 (a.toNat + 3)
  rw [show a.toNat + 3 = (a + 3).toNat by omega] at c3 r3
  generalize M.by_ a.toNat = y0 at c0 r0 ⊢
  rw [show a.toNat + 1 = (a + 1).toNat by omega]
  generalize M.by_ ((a + 1).toNat) = y1 at c1 r1 ⊢
  rw [show a.toNat + 2 = (a + 2).toNat by omega]
  generalize M.by_ ((a + 2).toNat) = y2 at c2 r2 ⊢
  rw [show a.toNat + 3 = (a + 3).toNat by omega]
  generalize M.by_ ((a + 3).toNat) = y3 at c3 r3 ⊢
  have o1 := or_zero y0 r0
  have o2 := or_two y0 y1 r0 r1
  have o3 := or_three y0 y1 y2 r0 r1 r2
  have o4 := or_four y0 y1 y2 y3 r0 r1 r2 r3
  obtain ⟨r0a, r0b⟩ := r0
  obtain ⟨r1a, r1b⟩ := r1
  obtain ⟨r2a, r2b⟩ := r2
  obtain ⟨r3a, r3b⟩ := r3
  clear h hM hs p0
  go_enter Try.func74, Try.ntmps74
  go_wp2_with (go_at_call 117; refine (HB.out _ (HH.out _)).mono ?_; rintro e w' ⟨rfl, rfl⟩)
  refine wp_loop_rounds 5 ?_
  rw [rounds_succ]; go_wp2
  rw [rounds_succ]; go_wp2
  rw [rounds_succ]; go_wp2
  rw [rounds_succ]; go_wp2
  rw [rounds_succ]; go_wp2
  refine bodyPost_ret (v := .tuple #[.int .u32 (y0 + y1 * 256 + y2 * 65536 + y3 * 16777216), .agg #[.int .i64 0, .int .u32 0]]) (by simp [results, Try.results74, go_sem]) rfl ⟨rfl, ?_⟩
  exact b0.alloc (Nat.le_refl _) _
theorem load_any (p : Nat) (M : MM) (a n : Int) (w : World) (h : HC p M w) (hM : MOk M) (a0 : 0 ≤ a) (a1 : a < 4294967296) (n1 : n < 9223372036854775808) :
    Calls Try.prog 74 #[.pointer (some ⟨p, 0, none⟩), .int .u32 a, .int .i64 n] w fun e w' => e = .returned (.tuple #[.int .u32 (ldv M a n), stpV 5 (srch M 1 a n.toNat)]) ∧ Below w.heap.size w w' := by
  unfold ldv
  obtain ⟨o, ho⟩ : ∃ o, srch M 1 a n.toNat = o := ⟨_, rfl⟩
  rw [ho]
  rcases o with _ | x
  · simp only [Option.isNone_none, if_true, stpV]
    by_cases e1 : n = 1
    · subst e1; rw [if_pos rfl]; exact load_1 p M _ a w h hM a0 a1 ho
    · rw [if_neg e1]
      by_cases e2 : n = 2
      · subst e2; rw [if_pos rfl]; exact load_2 p M _ a w h hM a0 a1 ho
      · rw [if_neg e2]
        by_cases e4 : n = 4
        · subst e4; rw [if_pos rfl]; exact load_4 p M _ a w h hM a0 a1 ho
        · rw [if_neg e4]
          exact load_none p M _ a n w h hM a0 a1 n1 ho (by omega)
  · simp only [Option.isNone_some, Bool.false_eq_true, if_false, stpV]
    exact load_bad p M _ a n x w h hM a0 a1 n1 ho
end Go.Proofs.Ytcjcmnnhmajocaa.Me
