/- crossgrainref2.Memory.use. -/
import Derived.Test.YtcjcmnnhmajocabGreatPlad
set_option linter.unusedVariables false
set_option linter.unusedSimpArgs false
set_option maxRecDepth 100000
set_option maxHeartbeats 16000000
namespace Go.Proofs.YtcjcmnnhmajocabGreat.Gu
open Go.RowKit
def sgn (b : Int) : Int := if 128 ≤ b then b + 4294967040 else b
theorem wrap_i8 (n : Int) : IntKind.i8.wrap n = (n + 128) % 256 - 128 := by
 have h1 : IntKind.i8.bits = 8 := rfl
 have h2 : IntKind.i8.signed = true := rfl
 simp only [IntKind.wrap, h1, h2, Bool.true_and]
 split
 ·rename_i h
  simp at h
  omega
 ·rename_i h
  simp at h
  omega
theorem signed_any (b : Int) (h0 : 0 ≤ b) (h1 : b < 256) (w : World) : Calls Tryz.prog 180 #[.int .u8 b] w fun e w' => e = .returned (.int .u32 (sgn b)) ∧ w = w' := by
 by_cases h : 128 ≤ b
 ·have e : sgn b = b + 4294967040 := if_pos h
  have c1 : IntKind.i8.wrap b = b - 256 := by rw [wrap_i8]; omega
  have c2 : IntKind.i32.wrap (b - 256) = b - 256 := by rw [IntKind.wrap_i32]; omega
  have c3 : IntKind.u32.wrap (b - 256) = b + 4294967040 := by rw [IntKind.wrap_u32]; omega
  rw [e]
  go_enter Tryz.func180, Tryz.ntmps180
  go_wp2
  go_ret
  exact ⟨rfl, rfl⟩
 ·have e : sgn b = b := if_neg h
  have c1 : IntKind.i8.wrap b = b := by rw [wrap_i8]; omega
  have c2 : IntKind.i32.wrap b = b := by rw [IntKind.wrap_i32]; omega
  have c3 : IntKind.u32.wrap b = b := by rw [IntKind.wrap_u32]; omega
  rw [e]
  go_enter Tryz.func180, Tryz.ntmps180
  go_wp2
  go_ret
  exact ⟨rfl, rfl⟩
theorem byteOf_any (b : Int) (h0 : 0 ≤ b) (h1 : b < 256) (w : World) : Calls Tryz.prog 138 #[.int .u8 b] w fun e w' => e = .returned (.int .u32 (sgn b)) ∧ w = w' := by
 by_cases h : 128 ≤ b
 ·have e : sgn b = b + 4294967040 := if_pos h
  rw [e]
  go_enter Tryz.func138, Tryz.ntmps138
  go_wp2
  go_ret
  exact ⟨rfl, rfl⟩
 ·have e : sgn b = b := if_neg h
  rw [e]
  go_enter Tryz.func138, Tryz.ntmps138
  go_wp2
  go_ret
  exact ⟨rfl, rfl⟩
theorem or_up (i : Nat) (x y : Int) (hx : 0 ≤ x) (hx' : x < 2 ^ i) (hy : 0 ≤ y) (hd : y % 2 ^ i = 0) (h1 : x < 4294967296) (h2 : y < 4294967296) : bits .or .u32 x y = x + y := by
 obtain ⟨a, rfl⟩ := Int.eq_ofNat_of_zero_le hx
 obtain ⟨b, rfl⟩ := Int.eq_ofNat_of_zero_le hy
 have hw : ∀ n : Int, 0 ≤ n → n < 2 ^ 32 → IntKind.u32.wrap n = n := fun n h₀ h₁ => by rw [IntKind.wrap_u32]; omega
 have h := bits_join .u32 32 (by decide) hw i b a (by omega) hd (by omega) (by omega) hx' (by omega)
 have ha : a < 2 ^ 32 := by omega
 have hb : b < 2 ^ 32 := by omega
 rw [(bits_nat .u32 32 (by decide) hw b a hb ha).2] at h
 rw [(bits_nat .u32 32 (by decide) hw a b ha hb).2, Nat.or_comm, h]
 omega
def four (a b c d : Int) : Int := a + b * 256 + c * 65536 + d * 16777216
theorem four_or (a b c d : Int) (ha : 0 ≤ a ∧ a < 256) (hb : 0 ≤ b ∧ b < 256) (hc : 0 ≤ c ∧ c < 256) (hd : 0 ≤ d ∧ d < 256) : bits .or .u32 (bits .or .u32 (bits .or .u32 a (b * 256)) (c * 65536)) (d * 16777216) = four a b c d := by
 rw [or_up 8 a (b * 256) (by omega) (by omega) (by omega) (by omega) (by omega) (by omega), or_up 16 (a + b * 256) (c * 65536) (by omega) (by omega) (by omega) (by omega) (by omega) (by omega),
  or_up 24 (a + b * 256 + c * 65536) (d * 16777216) (by omega) (by omega) (by omega) (by omega) (by omega) (by omega)]
 rfl
theorem ret_u32 {a b : Int} (h : a = b) : Ending.returned (.int .u32 a) = .returned (.int .u32 b) := by rw [h]
theorem four_any (g off n cap : Nat) (a b c d : Int) (w : World) (hn : 4 ≤ n) (ha : 0 ≤ a ∧ a < 256) (hb : 0 ≤ b ∧ b < 256) (hc : 0 ≤ c ∧ c < 256) (hd : 0 ≤ d ∧ d < 256)
  (c0 : w.cell? ⟨g, off, none⟩ = some (.int .u8 a)) (c1 : w.cell? ⟨g, off + 1, none⟩ = some (.int .u8 b)) (c2 : w.cell? ⟨g, off + 2, none⟩ = some (.int .u8 c)) (c3 : w.cell? ⟨g, off + 3, none⟩ = some (.int .u8 d)) :
  Calls Tryz.prog 181 #[.slice (some ⟨g, off, none⟩) n cap] w fun e w' => e = .returned (.int .u32 (four a b c d)) ∧ ∃ m, w' = w.drewN m := by
 have n0 : (0 : Int) < (n : Int) := by omega
 have n1 : (1 : Int) < (n : Int) := by omega
 have n2 : (2 : Int) < (n : Int) := by omega
 have n3 : (3 : Int) < (n : Int) := by omega
 have HE := κ (four_or a b c d ha hb hc hd)
 obtain ⟨a0, a1⟩ := ha
 obtain ⟨b0, b1⟩ := hb
 obtain ⟨d0, d1⟩ := hc
 obtain ⟨e0, e1⟩ := hd
 go_enter Tryz.func181, Tryz.ntmps181
 go_wp2
 go_quiet (fail)
 go_wp2
 go_ret
 exact ⟨ret_u32 HE.out, _, rfl⟩
end Go.Proofs.YtcjcmnnhmajocabGreat.Gu
namespace Go.Proofs.YtcjcmnnhmajocabGreat.Me
open Go.RowKit Kt
theorem or_two (a b : Int) (ha : 0 ≤ a ∧ a < 256) (hb : 0 ≤ b ∧ b < 256) : bits .or .u32 a (b * 256) = a + b * 256 := Gu.or_up 8 _ _ (by omega) (by omega) (by omega) (by omega) (by omega) (by omega)
theorem or_zero (b : Int) (hb : 0 ≤ b ∧ b < 256) : bits .or .u32 0 b = b := (Gu.or_up 0 0 b (by omega) (by omega) (by omega) (by omega) (by omega) (by omega)).trans (by omega)
theorem or_three (a b c : Int) (ha : 0 ≤ a ∧ a < 256) (hb : 0 ≤ b ∧ b < 256) (hc : 0 ≤ c ∧ c < 256) : bits .or .u32 (a + b * 256) (c * 65536) = a + b * 256 + c * 65536 := Gu.or_up 16 _ _ (by omega) (by omega) (by omega) (by omega) (by omega) (by omega)
theorem or_four (a b c d : Int) (ha : 0 ≤ a ∧ a < 256) (hb : 0 ≤ b ∧ b < 256) (hc : 0 ≤ c ∧ c < 256) (hd : 0 ≤ d ∧ d < 256) : bits .or .u32 (a + b * 256 + c * 65536) (d * 16777216) = a + b * 256 + c * 65536 + d * 16777216 := Gu.or_up 24 _ _ (by omega) (by omega) (by omega) (by omega) (by omega) (by omega)
theorem load_bad (p : Nat) (M : MM) (N a n x : Int) (w : World) (h : HM p M N w) (hM : MOk M) (a0 : 0 ≤ a) (a1 : a < 4294967296) (n1 : n < 9223372036854775808) (hs : srch M 1 a n.toNat = some x) :
  Calls Tryz.prog 209 #[.pointer (some ⟨p, 0, none⟩), .int .u32 a, .int .i64 n] w fun e w' => e = .returned (.tuple #[.int .u32 0, .agg #[.int .i64 5, .int .u32 x]]) ∧ Below w.heap.size w w' := by
 have HB := κ (fun w h => bad_any p M N a n 1 w h hM (.inl rfl) a0 a1 n1)
 rw [hs] at HB
 simp only [srV] at HB
 have b0 := Below.refl w.heap.size w
 have HH := κ (fun o => h.upto ((Upto.refl (fun _ => False) w).alloc o) id)
 clear h hM hs
 go_enter Tryz.func209, Tryz.ntmps209
 go_wp2_with (go_at_call 111; refine (HB.out _ (HH.out _)).mono ?_; rintro e w' ⟨rfl, rfl⟩)
 refine bodyPost_ret (v := .tuple #[.int .u32 0, .agg #[.int .i64 5, .int .u32 x]]) (by simp [results, Tryz.results209, go_sem]) rfl ⟨rfl, ?_⟩
 exact b0.alloc (Nat.le_refl _) _
theorem load_none (p : Nat) (M : MM) (N a n : Int) (w : World) (h : HM p M N w) (hM : MOk M) (a0 : 0 ≤ a) (a1 : a < 4294967296) (n1 : n < 9223372036854775808) (hs : srch M 1 a n.toNat = none) (hn : ¬ (n = 1 ∨ n = 2 ∨ n = 4)) :
  Calls Tryz.prog 209 #[.pointer (some ⟨p, 0, none⟩), .int .u32 a, .int .i64 n] w fun e w' => e = .returned (.tuple #[.int .u32 0, .agg #[.int .i64 0, .int .u32 0]]) ∧ Below w.heap.size w w' := by
 have HB := κ (fun w h => bad_any p M N a n 1 w h hM (.inl rfl) a0 a1 n1)
 rw [hs] at HB
 simp only [srV] at HB
 have b0 := Below.refl w.heap.size w
 have HH := κ (fun o => h.upto ((Upto.refl (fun _ => False) w).alloc o) id)
 have e1 : (n != 1) = true := by rw [bne_iff_ne]; omega
 have e2 : (n != 2) = true := by rw [bne_iff_ne]; omega
 have e4 : (n != 4) = true := by rw [bne_iff_ne]; omega
 clear h hM hs hn
 go_enter Tryz.func209, Tryz.ntmps209
 go_wp2_with (go_at_call 111; refine (HB.out _ (HH.out _)).mono ?_; rintro e w' ⟨rfl, rfl⟩)
 refine bodyPost_ret (v := .tuple #[.int .u32 0, .agg #[.int .i64 0, .int .u32 0]]) (by simp [results, Tryz.results209, go_sem]) rfl ⟨rfl, ?_⟩
 exact b0.alloc (Nat.le_refl _) _
theorem load_1 (p : Nat) (M : MM) (N a : Int) (w : World) (h : HM p M N w) (hM : MOk M) (a0 : 0 ≤ a) (a1 : a < 4294967296) (hs : srch M 1 a 1 = none) :
  Calls Tryz.prog 209 #[.pointer (some ⟨p, 0, none⟩), .int .u32 a, .int .i64 1] w fun e w' => e = .returned (.tuple #[.int .u32 (byt M a 0), .agg #[.int .i64 0, .int .u32 0]]) ∧ Below w.heap.size w w' := by
 have HB := κ (fun w h => bad_any p M N a 1 1 w h hM (.inl rfl) a0 a1 (by omega))
 rw [show (1 : Int).toNat = 1 from rfl, hs] at HB
 simp only [srV] at HB
 have b0 := Below.refl w.heap.size w
 have HH := κ (fun o => h.upto ((Upto.refl (fun _ => False) w).alloc o) id)
 have p0 := (plc_in a0 a1 hs 0 (by omega) (by omega)).2
 unfold byt
 rw [Nat.add_zero]
 have hp := h.2.2.2.2.2.2
 have b1 : a < 65536 := by omega
 have c0 := h.1 a.toNat (by omega)
 have r0 := hM.1 a.toNat
 generalize M.by_ a.toNat = y0 at c0 r0 ⊢
 have o1 := or_zero y0 r0
 obtain ⟨r0a, r0b⟩ := r0
 clear h hM hs p0
 go_enter Tryz.func209, Tryz.ntmps209
 go_wp2_with (go_at_call 111; refine (HB.out _ (HH.out _)).mono ?_; rintro e w' ⟨rfl, rfl⟩)
 refine wp_loop_rounds 2 ?_
 rw [rounds_succ]; go_wp2
 rw [rounds_succ]; go_wp2
 refine bodyPost_ret (v := .tuple #[.int .u32 (y0), .agg #[.int .i64 0, .int .u32 0]]) (by simp [results, Tryz.results209, go_sem]) rfl ⟨rfl, ?_⟩
 exact b0.alloc (Nat.le_refl _) _
theorem load_2 (p : Nat) (M : MM) (N a : Int) (w : World) (h : HM p M N w) (hM : MOk M) (a0 : 0 ≤ a) (a1 : a < 4294967296) (hs : srch M 1 a 2 = none) :
  Calls Tryz.prog 209 #[.pointer (some ⟨p, 0, none⟩), .int .u32 a, .int .i64 2] w fun e w' => e = .returned (.tuple #[.int .u32 (byt M a 0 + byt M a 1 * 256), .agg #[.int .i64 0, .int .u32 0]]) ∧ Below w.heap.size w w' := by
 have HB := κ (fun w h => bad_any p M N a 2 1 w h hM (.inl rfl) a0 a1 (by omega))
 rw [show (2 : Int).toNat = 2 from rfl, hs] at HB
 simp only [srV] at HB
 have b0 := Below.refl w.heap.size w
 have HH := κ (fun o => h.upto ((Upto.refl (fun _ => False) w).alloc o) id)
 have p0 := (plc_in a0 a1 hs 1 (by omega) (by omega)).2
 unfold byt
 rw [Nat.add_zero]
 have hp := h.2.2.2.2.2.2
 have b1 : a < 65536 := by omega
 have b2 : a + 1 < 65536 := by omega
 have c0 := h.1 a.toNat (by omega)
 have r0 := hM.1 a.toNat
 have c1 := h.1 (a.toNat + 1) (by omega)
 have r1 := hM.1 (a.toNat + 1)
 rw [show a.toNat + 1 = (a + 1).toNat by omega] at c1 r1
 generalize M.by_ a.toNat = y0 at c0 r0 ⊢
 rw [show a.toNat + 1 = (a + 1).toNat by omega]
 generalize M.by_ ((a + 1).toNat) = y1 at c1 r1 ⊢
 have o1 := or_zero y0 r0
 have o2 := or_two y0 y1 r0 r1
 obtain ⟨r0a, r0b⟩ := r0
 obtain ⟨r1a, r1b⟩ := r1
 clear h hM hs p0
 go_enter Tryz.func209, Tryz.ntmps209
 go_wp2_with (go_at_call 111; refine (HB.out _ (HH.out _)).mono ?_; rintro e w' ⟨rfl, rfl⟩)
 refine wp_loop_rounds 3 ?_
 rw [rounds_succ]; go_wp2
 rw [rounds_succ]; go_wp2
 rw [rounds_succ]; go_wp2
 refine bodyPost_ret (v := .tuple #[.int .u32 (y0 + y1 * 256), .agg #[.int .i64 0, .int .u32 0]]) (by simp [results, Tryz.results209, go_sem]) rfl ⟨rfl, ?_⟩
 exact b0.alloc (Nat.le_refl _) _
theorem load_4 (p : Nat) (M : MM) (N a : Int) (w : World) (h : HM p M N w) (hM : MOk M) (a0 : 0 ≤ a) (a1 : a < 4294967296) (hs : srch M 1 a 4 = none) :
  Calls Tryz.prog 209 #[.pointer (some ⟨p, 0, none⟩), .int .u32 a, .int .i64 4] w fun e w' => e = .returned (.tuple #[.int .u32 (byt M a 0 + byt M a 1 * 256 + byt M a 2 * 65536 + byt M a 3 * 16777216), .agg #[.int .i64 0, .int .u32 0]]) ∧ Below w.heap.size w w' := by
 have HB := κ (fun w h => bad_any p M N a 4 1 w h hM (.inl rfl) a0 a1 (by omega))
 rw [show (4 : Int).toNat = 4 from rfl, hs] at HB
 simp only [srV] at HB
 have b0 := Below.refl w.heap.size w
 have HH := κ (fun o => h.upto ((Upto.refl (fun _ => False) w).alloc o) id)
 have p0 := (plc_in a0 a1 hs 3 (by omega) (by omega)).2
 unfold byt
 rw [Nat.add_zero]
 have hp := h.2.2.2.2.2.2
 have b1 : a < 65536 := by omega
 have b2 : a + 1 < 65536 := by omega
 have b3 : a + 2 < 65536 := by omega
 have b4 : a + 3 < 65536 := by omega
 have c0 := h.1 a.toNat (by omega)
 have r0 := hM.1 a.toNat
 have c1 := h.1 (a.toNat + 1) (by omega)
 have r1 := hM.1 (a.toNat + 1)
 rw [show a.toNat + 1 = (a + 1).toNat by omega] at c1 r1
 have c2 := h.1 (a.toNat + 2) (by omega)
 have r2 := hM.1 (a.toNat + 2)
 rw [show a.toNat + 2 = (a + 2).toNat by omega] at c2 r2
 have c3 := h.1 (a.toNat + 3) (by omega)
 have r3 := hM.1 (a.toNat + 3)
 rw [show a.toNat + 3 = (a + 3).toNat by omega] at c3 r3
 generalize M.by_ a.toNat = y0 at c0 r0 ⊢
 rw [show a.toNat + 1 = (a + 1).toNat by omega]
 generalize M.by_ ((a + 1).toNat) = y1 at c1 r1 ⊢
 rw [show a.toNat + 2 = (a + 2).toNat by omega]
 generalize M.by_ ((a + 2).toNat) = y2 at c2 r2 ⊢
 rw [show a.toNat + 3 = (a + 3).toNat by omega]
 generalize M.by_ ((a + 3).toNat) = y3 at c3 r3 ⊢
 have o1 := or_zero y0 r0
 have o2 := or_two y0 y1 r0 r1
 have o3 := or_three y0 y1 y2 r0 r1 r2
 have o4 := or_four y0 y1 y2 y3 r0 r1 r2 r3
 obtain ⟨r0a, r0b⟩ := r0
 obtain ⟨r1a, r1b⟩ := r1
 obtain ⟨r2a, r2b⟩ := r2
 obtain ⟨r3a, r3b⟩ := r3
 clear h hM hs p0
 go_enter Tryz.func209, Tryz.ntmps209
 go_wp2_with (go_at_call 111; refine (HB.out _ (HH.out _)).mono ?_; rintro e w' ⟨rfl, rfl⟩)
 refine wp_loop_rounds 5 ?_
 rw [rounds_succ]; go_wp2
 rw [rounds_succ]; go_wp2
 rw [rounds_succ]; go_wp2
 rw [rounds_succ]; go_wp2
 rw [rounds_succ]; go_wp2
 refine bodyPost_ret (v := .tuple #[.int .u32 (y0 + y1 * 256 + y2 * 65536 + y3 * 16777216), .agg #[.int .i64 0, .int .u32 0]]) (by simp [results, Tryz.results209, go_sem]) rfl ⟨rfl, ?_⟩
 exact b0.alloc (Nat.le_refl _) _
theorem load_any (p : Nat) (M : MM) (a n : Int) (w : World) (h : HC p M w) (hM : MOk M) (a0 : 0 ≤ a) (a1 : a < 4294967296) (n1 : n < 9223372036854775808) :
  Calls Tryz.prog 209 #[.pointer (some ⟨p, 0, none⟩), .int .u32 a, .int .i64 n] w fun e w' => e = .returned (.tuple #[.int .u32 (ldv M a n), stpV 5 (srch M 1 a n.toNat)]) ∧ Below w.heap.size w w' := by
 unfold ldv
 obtain ⟨o, ho⟩ : ∃ o, srch M 1 a n.toNat = o := ⟨_, rfl⟩
 rw [ho]
 rcases o with _ | x
 ·simp only [Option.isNone_none, if_true, stpV]
  by_cases e1 : n = 1
  ·subst e1; rw [if_pos rfl]; exact load_1 p M _ a w h hM a0 a1 ho
  ·rw [if_neg e1]
   by_cases e2 : n = 2
   ·subst e2; rw [if_pos rfl]; exact load_2 p M _ a w h hM a0 a1 ho
   ·rw [if_neg e2]
    by_cases e4 : n = 4
    ·subst e4; rw [if_pos rfl]; exact load_4 p M _ a w h hM a0 a1 ho
    ·rw [if_neg e4]
     exact load_none p M _ a n w h hM a0 a1 n1 ho (by omega)
 ·simp only [Option.isNone_some, Bool.false_eq_true, if_false, stpV]
  exact load_bad p M _ a n x w h hM a0 a1 n1 ho
theorem HM.setBy {p : Nat} {M : MM} {n : Int} {W : World} (h : HM p M n W) (k : Nat) (hk : k < 65536) (x : Int) : HM p { M with by_ := upd M.by_ k x } n (W.setCell ⟨p, k, none⟩ (.int .u8 x)) := by
 obtain ⟨h1, h2, h3, h4, h5, h6, h7⟩ := h
 refine ⟨fun j hj => ?_, fun j hj => ?_, fun j hj => ?_, fun j hj => ?_, ?_, fun i => by simpa using h6 i, by simpa using h7⟩
 ·by_cases hjk : j = k
  ·subst hjk
   rw [World.cell?_setCell_same _ _ _ (h1 j hj)]
   simp [upd]
  ·rw [HM.cell_other (by omega), h1 j hj]
   simp [upd, hjk]
 ·rw [HM.cell_other (by omega)]; exact h2 j hj
 ·rw [HM.cell_other (by omega)]; exact h3 j hj
 ·rw [HM.cell_other (by omega)]; exact h4 j hj
 ·rw [HM.cell_other (by omega)]; exact h5
/-- one byte is written, its page changed -/
def wr1 (M : MM) (k : Nat) (b : Int) : MM := chg { M with by_ := upd M.by_ k b } (k / 256)
theorem w1_at (M : MM) (a i : Int) (j : Nat) (b : Int) (a0 : 0 ≤ a) (hi : i = (j : Int)) : chg { M with by_ := upd M.by_ (a + i).toNat b } ((a + i) / 256).toNat = wr1 M (a.toNat + j) b := by
 subst hi
 unfold wr1
 rw [show (a + (j : Int)).toNat = a.toNat + j by omega, show ((a + (j : Int)) / 256).toNat = (a.toNat + j) / 256 by omega]
theorem w1_at0 (M : MM) (a b : Int) (a0 : 0 ≤ a) : chg { M with by_ := upd M.by_ a.toNat b } (a / 256).toNat = wr1 M a.toNat b := by
 unfold wr1
 rw [show (a / 256).toNat = a.toNat / 256 by omega]
theorem change_c (p : Nat) (M : MM) (k : Int) (k0 : 0 ≤ k) (k1 : k < 256) (w : World) (h : HC p M w) :
  Calls Tryz.prog 78 #[.pointer (some ⟨p, 0, none⟩), .int .i64 k] w fun e w' => e = .returned (.tuple #[]) ∧ HC p (chg M k.toNat) w' ∧ Upto (fun i => i = p) w w' := by
 obtain ⟨c, rfl⟩ := Int.eq_ofNat_of_zero_le k0
 refine (change_any p M (cnt M.hi) c w h (by omega) (cnt_bd _).1 (cnt_bd _).2).mono ?_
 rintro e w' ⟨rfl, h1, o1⟩
 refine ⟨rfl, ?_, Upto.of_only o1⟩
 rw [Int.toNat_natCast]
 unfold HC
 rw [← chg_cnt M c (by omega)]
 exact h1
theorem HC.put {p : Nat} {M : MM} {W : World} (h : HC p M W) (k : Nat) (hk : k < 65536) (x : Int) : HC p { M with by_ := upd M.by_ k x } (W.setCell ⟨p, k, none⟩ (.int .u8 x)) := HM.setBy h k hk x
theorem HC.drew {p : Nat} {M : MM} {W : World} (h : HC p M W) : HC p M W.drew := h
theorem HC.facts {p : Nat} {M : MM} {W : World} (h : HC p M W) (k : Int) (k1 : k < 65536) : (∃ u, W.cell? ⟨p, k.toNat, none⟩ = some u) ∧ W.frozen? ⟨p, k.toNat, none⟩ = false :=
 ⟨⟨_, h.1 k.toNat (by omega)⟩, h.2.2.2.2.2.1 _⟩
/-- a result's block -/
def Rs (X : Nat) (W : World) : Prop := W.cell? ⟨X, 0, none⟩ = some (.int .i64 0) ∧ W.cell? ⟨X, 1, none⟩ = some (.int .u32 0) ∧ W.frozen? ⟨X, 0, none⟩ = false ∧ W.frozen? ⟨X, 1, none⟩ = false ∧ X < W.heap.size
theorem Rs.new (W : World) (X : Nat) (hX : W.heap.size = X) : Rs X (W.alloc (.cells #[.int .i64 0, .int .u32 0] 55)) := by
 subst hX
 have e := heap_alloc_new W (.cells #[.int .i64 0, .int .u32 0] 55)
 refine ⟨?_, ?_, ?_, ?_, by simp⟩
 ·rw [cell_of_row _ _ _ _ _ _ e]; rfl
 ·rw [cell_of_row _ _ _ _ _ _ e]; rfl
 ·unfold World.frozen?; simp only [e]; rfl
 ·unfold World.frozen?; simp only [e]; rfl
theorem Rs.drew {X : Nat} {W : World} (h : Rs X W) : Rs X W.drew := h
theorem Rs.upto {X : Nat} {W W' : World} {S : Nat → Prop} (h : Rs X W) (u : Upto S W W') (hs : ¬ S X) : Rs X W' := by
 obtain ⟨h1, h2, h3, h4, h5⟩ := h
 exact ⟨(u.cell h5 hs).trans h1, (u.cell h5 hs).trans h2, (u.frozen h5 hs).trans h3, (u.frozen h5 hs).trans h4, Nat.lt_of_lt_of_le h5 u.size⟩
theorem Rs.put {X p : Nat} {W : World} (h : Rs X W) (hne : ¬ X = p) {j : Nat} {v : Value} : Rs X (W.setCell ⟨p, j, none⟩ v) :=
 h.upto (S := fun i => i = p) ((Upto.refl (fun i => i = p) _).setCell (q := ⟨p, j, none⟩) (.inl rfl) _) hne
theorem store_not (p : Nat) (a n v : Int) (w : World) (hn : ¬ (n = 1 ∨ n = 2 ∨ n = 4)) :
  Calls Tryz.prog 283 #[.pointer (some ⟨p, 0, none⟩), .int .u32 a, .int .i64 n, .int .u32 v] w fun e w' => e = .returned (.agg #[.int .i64 0, .int .u32 0]) ∧ Below w.heap.size w w' := by
 have b0 := Below.refl w.heap.size w
 have e1 : (n != 1) = true := by rw [bne_iff_ne]; omega
 have e2 : (n != 2) = true := by rw [bne_iff_ne]; omega
 have e4 : (n != 4) = true := by rw [bne_iff_ne]; omega
 clear hn
 go_enter Tryz.func283, Tryz.ntmps283
 go_wp2
 refine bodyPost_ret (v := .agg #[.int .i64 0, .int .u32 0]) (by simp [results, Tryz.results283, go_sem]) rfl ⟨rfl, ?_⟩
 exact b0.alloc (Nat.le_refl _) _
theorem store_bad1 (p : Nat) (M : MM) (N a v x : Int) (w : World) (h : HM p M N w) (hM : MOk M) (a0 : 0 ≤ a) (a1 : a < 4294967296) (hs : srch M 2 a 1 = some x) :
  Calls Tryz.prog 283 #[.pointer (some ⟨p, 0, none⟩), .int .u32 a, .int .i64 1, .int .u32 v] w fun e w' => e = .returned (.agg #[.int .i64 6, .int .u32 x]) ∧ Below w.heap.size w w' := by
 have HB := κ (fun w h => bad_any p M N a 1 2 w h hM (.inr (.inl rfl)) a0 a1 (by omega))
 rw [show (1 : Int).toNat = 1 from rfl, hs] at HB
 simp only [srV] at HB
 have b0 := Below.refl w.heap.size w
 have HH := κ (fun o => h.upto ((Upto.refl (fun _ => False) w).alloc o) id)
 clear h hM hs
 go_enter Tryz.func283, Tryz.ntmps283
 go_wp2_with (go_at_call 111; refine (HB.out _ (HH.out _)).mono ?_; rintro e w' ⟨rfl, rfl⟩)
 refine bodyPost_ret (v := .agg #[.int .i64 6, .int .u32 x]) (by simp [results, Tryz.results283, go_sem]) rfl ⟨rfl, ?_⟩
 exact b0.alloc (Nat.le_refl _) _
theorem store_1 (p : Nat) (M : MM) (a v : Int) (w : World) (h : HC p M w) (hM : MOk M) (a0 : 0 ≤ a) (a1 : a < 4294967296) (v0 : 0 ≤ v) (v1 : v < 4294967296) (hs : srch M 2 a 1 = none) :
  Calls Tryz.prog 283 #[.pointer (some ⟨p, 0, none⟩), .int .u32 a, .int .i64 1, .int .u32 v] w fun e w' => e = .returned (.agg #[.int .i64 0, .int .u32 0]) ∧ HC p (pk M a.toNat (bts 1 v)) w' ∧ Upto (fun i => i = p) w w' := by
 have HB := κ (fun w h => bad_any p M (cnt M.hi) a 1 2 w h hM (.inr (.inl rfl)) a0 a1 (by omega))
 rw [show (1 : Int).toNat = 1 from rfl, hs] at HB
 simp only [srV] at HB
 have U0 := κ (fun o => (Upto.refl (fun i => i = p) w).alloc o)
 have HH := κ (fun o => HM.upto h ((Upto.refl (fun _ => False) w).alloc o) id)
 have HH0 := κ (fun o => HC.upto h ((Upto.refl (fun _ => False) w).alloc o) id)
 have q0 := (plc_in a0 a1 hs 0 (by omega) (by omega)).2
 have hp := h.2.2.2.2.2.2
 obtain ⟨⟨u0, k0⟩, z0⟩ := h.facts a (by omega)
 have HI := κ h
 have hne' : ¬ w.heap.size = p := by omega
 clear h hM hs
 have b0 : a < 65536 := by omega
 clear q0
 go_enter Tryz.func283, Tryz.ntmps283
 go_wp2_with (go_at_call 111; refine (HB.out _ (HH.out _)).mono ?_; rintro e w' ⟨rfl, rfl⟩)
 refine wp_loop_rounds 2 ?_
 rw [rounds_succ]; go_wp2
 go_region
 go_wp2_with fail
 refine (change_c p _ _ (by omega) (by omega) _ (((HI.out.put a.toNat (by omega) (v % 256)).upto ((Upto.refl (fun _ => False) _).alloc _) id).drew)).mono ?_
 rintro e w1 ⟨rfl, h1, o1⟩
 rw [w1_at0 _ a _ a0] at h1
 have R1 := κ ((Rs.new (w.setCell ⟨p, a.toNat, none⟩ (.int .u8 (v % 256))) w.heap.size (by simp)).drew.upto o1 hne')
 have U1 := κ (Upto.trans (((Upto.refl (fun i => i = p) w).setCell (q := ⟨p, a.toNat, none⟩) (.inl rfl) (.int .u8 (v % 256))).alloc (.cells #[.int .i64 0, .int .u32 0] 55)).drew o1)
 have HH1 := κ h1
 obtain ⟨g0, g1, g2, g3, g4⟩ := R1.out
 clear h1 o1
 go_wp2
 rw [rounds_succ]; go_wp2
 refine bodyPost_ret (v := .agg #[.int .i64 0, .int .u32 0]) (by simp [results, Tryz.results283, go_sem, g0, g1, g4]) rfl ⟨rfl, ?_, ?_⟩
 ·exact HH1.out.upto (S := fun i => i = w.heap.size) (((Upto.refl (fun i => i = w.heap.size) _).setCell (q := ⟨w.heap.size, 0, none⟩) (.inl rfl) (.int .i64 0)).setCell (q := ⟨w.heap.size, 1, none⟩) (.inl rfl) (.int .u32 0)) (fun h => hne' h.symm)
 ·exact (U1.out.setCell (q := ⟨w.heap.size, 0, none⟩) (.inr (Nat.le_refl _)) _).setCell (q := ⟨w.heap.size, 1, none⟩) (.inr (Nat.le_refl _)) _
theorem store_bad2 (p : Nat) (M : MM) (N a v x : Int) (w : World) (h : HM p M N w) (hM : MOk M) (a0 : 0 ≤ a) (a1 : a < 4294967296) (hs : srch M 2 a 2 = some x) :
  Calls Tryz.prog 283 #[.pointer (some ⟨p, 0, none⟩), .int .u32 a, .int .i64 2, .int .u32 v] w fun e w' => e = .returned (.agg #[.int .i64 6, .int .u32 x]) ∧ Below w.heap.size w w' := by
 have HB := κ (fun w h => bad_any p M N a 2 2 w h hM (.inr (.inl rfl)) a0 a1 (by omega))
 rw [show (2 : Int).toNat = 2 from rfl, hs] at HB
 simp only [srV] at HB
 have b0 := Below.refl w.heap.size w
 have HH := κ (fun o => h.upto ((Upto.refl (fun _ => False) w).alloc o) id)
 clear h hM hs
 go_enter Tryz.func283, Tryz.ntmps283
 go_wp2_with (go_at_call 111; refine (HB.out _ (HH.out _)).mono ?_; rintro e w' ⟨rfl, rfl⟩)
 refine bodyPost_ret (v := .agg #[.int .i64 6, .int .u32 x]) (by simp [results, Tryz.results283, go_sem]) rfl ⟨rfl, ?_⟩
 exact b0.alloc (Nat.le_refl _) _
theorem store_2 (p : Nat) (M : MM) (a v : Int) (w : World) (h : HC p M w) (hM : MOk M) (a0 : 0 ≤ a) (a1 : a < 4294967296) (v0 : 0 ≤ v) (v1 : v < 4294967296) (hs : srch M 2 a 2 = none) :
  Calls Tryz.prog 283 #[.pointer (some ⟨p, 0, none⟩), .int .u32 a, .int .i64 2, .int .u32 v] w fun e w' => e = .returned (.agg #[.int .i64 0, .int .u32 0]) ∧ HC p (pk M a.toNat (bts 2 v)) w' ∧ Upto (fun i => i = p) w w' := by
 have HB := κ (fun w h => bad_any p M (cnt M.hi) a 2 2 w h hM (.inr (.inl rfl)) a0 a1 (by omega))
 rw [show (2 : Int).toNat = 2 from rfl, hs] at HB
 simp only [srV] at HB
 have U0 := κ (fun o => (Upto.refl (fun i => i = p) w).alloc o)
 have HH := κ (fun o => HM.upto h ((Upto.refl (fun _ => False) w).alloc o) id)
 have HH0 := κ (fun o => HC.upto h ((Upto.refl (fun _ => False) w).alloc o) id)
 have q0 := (plc_in a0 a1 hs 1 (by omega) (by omega)).2
 have hp := h.2.2.2.2.2.2
 obtain ⟨⟨u0, k0⟩, z0⟩ := h.facts a (by omega)
 have HI := κ h
 have hne' : ¬ w.heap.size = p := by omega
 clear h hM hs
 have b0 : a < 65536 := by omega
 have b1 : a + 1 < 65536 := by omega
 clear q0
 go_enter Tryz.func283, Tryz.ntmps283
 go_wp2_with (go_at_call 111; refine (HB.out _ (HH.out _)).mono ?_; rintro e w' ⟨rfl, rfl⟩)
 refine wp_loop_rounds 3 ?_
 rw [rounds_succ]; go_wp2
 go_region
 go_wp2_with fail
 refine (change_c p _ _ (by omega) (by omega) _ (((HI.out.put a.toNat (by omega) (v % 256)).upto ((Upto.refl (fun _ => False) _).alloc _) id).drew)).mono ?_
 rintro e w1 ⟨rfl, h1, o1⟩
 rw [w1_at0 _ a _ a0] at h1
 have R1 := κ ((Rs.new (w.setCell ⟨p, a.toNat, none⟩ (.int .u8 (v % 256))) w.heap.size (by simp)).drew.upto o1 hne')
 have U1 := κ (Upto.trans (((Upto.refl (fun i => i = p) w).setCell (q := ⟨p, a.toNat, none⟩) (.inl rfl) (.int .u8 (v % 256))).alloc (.cells #[.int .i64 0, .int .u32 0] 55)).drew o1)
 have HH1 := κ h1
 obtain ⟨⟨u1, k1⟩, z1⟩ := h1.facts (a + 1) (by omega)
 clear h1 o1
 go_wp2
 rw [rounds_succ]; go_wp2
 go_region
 go_wp2_with fail
 refine (change_c p _ _ (by omega) (by omega) _ ((HH1.out.put (a + 1).toNat (by omega) (v / 256 % 256)).drew)).mono ?_
 rintro e w2 ⟨rfl, h2, o2⟩
 rw [w1_at _ a 1 1 _ a0 rfl] at h2
 have R2 := κ ((R1.out.put hne').drew.upto o2 hne')
 have U2 := κ (Upto.trans (U1.out.trans ((Upto.refl (fun i => i = p) _).setCell (q := ⟨p, (a + 1).toNat, none⟩) (.inl rfl) (.int .u8 (v / 256 % 256))).drew) o2)
 have HH2 := κ h2
 obtain ⟨g0, g1, g2, g3, g4⟩ := R2.out
 clear h2 o2
 go_wp2
 rw [rounds_succ]; go_wp2
 refine bodyPost_ret (v := .agg #[.int .i64 0, .int .u32 0]) (by simp [results, Tryz.results283, go_sem, g0, g1, g4]) rfl ⟨rfl, ?_, ?_⟩
 ·exact HH2.out.upto (S := fun i => i = w.heap.size) (((Upto.refl (fun i => i = w.heap.size) _).setCell (q := ⟨w.heap.size, 0, none⟩) (.inl rfl) (.int .i64 0)).setCell (q := ⟨w.heap.size, 1, none⟩) (.inl rfl) (.int .u32 0)) (fun h => hne' h.symm)
 ·exact (U2.out.setCell (q := ⟨w.heap.size, 0, none⟩) (.inr (Nat.le_refl _)) _).setCell (q := ⟨w.heap.size, 1, none⟩) (.inr (Nat.le_refl _)) _
theorem store_bad4 (p : Nat) (M : MM) (N a v x : Int) (w : World) (h : HM p M N w) (hM : MOk M) (a0 : 0 ≤ a) (a1 : a < 4294967296) (hs : srch M 2 a 4 = some x) :
  Calls Tryz.prog 283 #[.pointer (some ⟨p, 0, none⟩), .int .u32 a, .int .i64 4, .int .u32 v] w fun e w' => e = .returned (.agg #[.int .i64 6, .int .u32 x]) ∧ Below w.heap.size w w' := by
 have HB := κ (fun w h => bad_any p M N a 4 2 w h hM (.inr (.inl rfl)) a0 a1 (by omega))
 rw [show (4 : Int).toNat = 4 from rfl, hs] at HB
 simp only [srV] at HB
 have b0 := Below.refl w.heap.size w
 have HH := κ (fun o => h.upto ((Upto.refl (fun _ => False) w).alloc o) id)
 clear h hM hs
 go_enter Tryz.func283, Tryz.ntmps283
 go_wp2_with (go_at_call 111; refine (HB.out _ (HH.out _)).mono ?_; rintro e w' ⟨rfl, rfl⟩)
 refine bodyPost_ret (v := .agg #[.int .i64 6, .int .u32 x]) (by simp [results, Tryz.results283, go_sem]) rfl ⟨rfl, ?_⟩
 exact b0.alloc (Nat.le_refl _) _
theorem store_4 (p : Nat) (M : MM) (a v : Int) (w : World) (h : HC p M w) (hM : MOk M) (a0 : 0 ≤ a) (a1 : a < 4294967296) (v0 : 0 ≤ v) (v1 : v < 4294967296) (hs : srch M 2 a 4 = none) :
  Calls Tryz.prog 283 #[.pointer (some ⟨p, 0, none⟩), .int .u32 a, .int .i64 4, .int .u32 v] w fun e w' => e = .returned (.agg #[.int .i64 0, .int .u32 0]) ∧ HC p (pk M a.toNat (bts 4 v)) w' ∧ Upto (fun i => i = p) w w' := by
 have HB := κ (fun w h => bad_any p M (cnt M.hi) a 4 2 w h hM (.inr (.inl rfl)) a0 a1 (by omega))
 rw [show (4 : Int).toNat = 4 from rfl, hs] at HB
 simp only [srV] at HB
 have U0 := κ (fun o => (Upto.refl (fun i => i = p) w).alloc o)
 have HH := κ (fun o => HM.upto h ((Upto.refl (fun _ => False) w).alloc o) id)
 have HH0 := κ (fun o => HC.upto h ((Upto.refl (fun _ => False) w).alloc o) id)
 have q0 := (plc_in a0 a1 hs 3 (by omega) (by omega)).2
 have hp := h.2.2.2.2.2.2
 obtain ⟨⟨u0, k0⟩, z0⟩ := h.facts a (by omega)
 have HI := κ h
 have hne' : ¬ w.heap.size = p := by omega
 clear h hM hs
 have b0 : a < 65536 := by omega
 have b1 : a + 1 < 65536 := by omega
 have b2 : a + 2 < 65536 := by omega
 have b3 : a + 3 < 65536 := by omega
 clear q0
 go_enter Tryz.func283, Tryz.ntmps283
 go_wp2_with (go_at_call 111; refine (HB.out _ (HH.out _)).mono ?_; rintro e w' ⟨rfl, rfl⟩)
 refine wp_loop_rounds 5 ?_
 rw [rounds_succ]; go_wp2
 go_region
 go_wp2_with fail
 refine (change_c p _ _ (by omega) (by omega) _ (((HI.out.put a.toNat (by omega) (v % 256)).upto ((Upto.refl (fun _ => False) _).alloc _) id).drew)).mono ?_
 rintro e w1 ⟨rfl, h1, o1⟩
 rw [w1_at0 _ a _ a0] at h1
 have R1 := κ ((Rs.new (w.setCell ⟨p, a.toNat, none⟩ (.int .u8 (v % 256))) w.heap.size (by simp)).drew.upto o1 hne')
 have U1 := κ (Upto.trans (((Upto.refl (fun i => i = p) w).setCell (q := ⟨p, a.toNat, none⟩) (.inl rfl) (.int .u8 (v % 256))).alloc (.cells #[.int .i64 0, .int .u32 0] 55)).drew o1)
 have HH1 := κ h1
 obtain ⟨⟨u1, k1⟩, z1⟩ := h1.facts (a + 1) (by omega)
 clear h1 o1
 go_wp2
 rw [rounds_succ]; go_wp2
 go_region
 go_wp2_with fail
 refine (change_c p _ _ (by omega) (by omega) _ ((HH1.out.put (a + 1).toNat (by omega) (v / 256 % 256)).drew)).mono ?_
 rintro e w2 ⟨rfl, h2, o2⟩
 rw [w1_at _ a 1 1 _ a0 rfl] at h2
 have R2 := κ ((R1.out.put hne').drew.upto o2 hne')
 have U2 := κ (Upto.trans (U1.out.trans ((Upto.refl (fun i => i = p) _).setCell (q := ⟨p, (a + 1).toNat, none⟩) (.inl rfl) (.int .u8 (v / 256 % 256))).drew) o2)
 have HH2 := κ h2
 obtain ⟨⟨u2, k2⟩, z2⟩ := h2.facts (a + 2) (by omega)
 clear h2 o2
 go_wp2
 rw [rounds_succ]; go_wp2
 go_region
 go_wp2_with fail
 refine (change_c p _ _ (by omega) (by omega) _ ((HH2.out.put (a + 2).toNat (by omega) (v / 65536 % 256)).drew)).mono ?_
 rintro e w3 ⟨rfl, h3, o3⟩
 rw [w1_at _ a 2 2 _ a0 rfl] at h3
 have R3 := κ ((R2.out.put hne').drew.upto o3 hne')
 have U3 := κ (Upto.trans (U2.out.trans ((Upto.refl (fun i => i = p) _).setCell (q := ⟨p, (a + 2).toNat, none⟩) (.inl rfl) (.int .u8 (v / 65536 % 256))).drew) o3)
 have HH3 := κ h3
 obtain ⟨⟨u3, k3⟩, z3⟩ := h3.facts (a + 3) (by omega)
 clear h3 o3
 go_wp2
 rw [rounds_succ]; go_wp2
 go_region
 go_wp2_with fail
 refine (change_c p _ _ (by omega) (by omega) _ ((HH3.out.put (a + 3).toNat (by omega) (v / 16777216)).drew)).mono ?_
 rintro e w4 ⟨rfl, h4, o4⟩
 rw [w1_at _ a 3 3 _ a0 rfl] at h4
 have R4 := κ ((R3.out.put hne').drew.upto o4 hne')
 have U4 := κ (Upto.trans (U3.out.trans ((Upto.refl (fun i => i = p) _).setCell (q := ⟨p, (a + 3).toNat, none⟩) (.inl rfl) (.int .u8 (v / 16777216))).drew) o4)
 have HH4 := κ h4
 obtain ⟨g0, g1, g2, g3, g4⟩ := R4.out
 clear h4 o4
 go_wp2
 rw [rounds_succ]; go_wp2
 refine bodyPost_ret (v := .agg #[.int .i64 0, .int .u32 0]) (by simp [results, Tryz.results283, go_sem, g0, g1, g4]) rfl ⟨rfl, ?_, ?_⟩
 ·exact HH4.out.upto (S := fun i => i = w.heap.size) (((Upto.refl (fun i => i = w.heap.size) _).setCell (q := ⟨w.heap.size, 0, none⟩) (.inl rfl) (.int .i64 0)).setCell (q := ⟨w.heap.size, 1, none⟩) (.inl rfl) (.int .u32 0)) (fun h => hne' h.symm)
 ·exact (U4.out.setCell (q := ⟨w.heap.size, 0, none⟩) (.inr (Nat.le_refl _)) _).setCell (q := ⟨w.heap.size, 1, none⟩) (.inr (Nat.le_refl _)) _
theorem store_any (p : Nat) (M : MM) (a n v : Int) (w : World) (h : HC p M w) (hM : MOk M) (a0 : 0 ≤ a) (a1 : a < 4294967296) (v0 : 0 ≤ v) (v1 : v < 4294967296) :
  Calls Tryz.prog 283 #[.pointer (some ⟨p, 0, none⟩), .int .u32 a, .int .i64 n, .int .u32 v] w fun e w' => e = .returned (stpV 6 (sto M a n)) ∧ HC p (stm M a n v) w' ∧ Upto (fun i => i = p) w w' := by
 have keep : ∀ {e' : Ending}, (Calls Tryz.prog 283 #[.pointer (some ⟨p, 0, none⟩), .int .u32 a, .int .i64 n, .int .u32 v] w fun e w' => e = e' ∧ Below w.heap.size w w') →
   Calls Tryz.prog 283 #[.pointer (some ⟨p, 0, none⟩), .int .u32 a, .int .i64 n, .int .u32 v] w fun e w' => e = e' ∧ HC p M w' ∧ Upto (fun i => i = p) w w' := by
  intro e' hc
  exact hc.mono fun e w' ⟨he, hb⟩ => ⟨he, HM.upto h (Upto.of_below (S := fun _ => False) hb) id, Upto.of_below hb⟩
 unfold sto stm
 by_cases hn : n = 1 ∨ n = 2 ∨ n = 4
 ·rw [if_pos hn, if_pos hn]
  obtain ⟨o, ho⟩ : ∃ o, srch M 2 a n.toNat = o := ⟨_, rfl⟩
  rw [ho]
  rcases o with _ | x
  ·simp only [Option.isNone_none, if_true, stpV]
   rcases hn with rfl | rfl | rfl
   ·exact store_1 p M a v w h hM a0 a1 v0 v1 ho
   ·exact store_2 p M a v w h hM a0 a1 v0 v1 ho
   ·exact store_4 p M a v w h hM a0 a1 v0 v1 ho
  ·simp only [Option.isNone_some, Bool.false_eq_true, if_false, stpV]
   rcases hn with rfl | rfl | rfl
   ·exact keep (store_bad1 p M _ a v x w h hM a0 a1 ho)
   ·exact keep (store_bad2 p M _ a v x w h hM a0 a1 ho)
   ·exact keep (store_bad4 p M _ a v x w h hM a0 a1 ho)
 ·rw [if_neg hn, if_neg hn]
  exact keep (store_not p a n v w hn)
theorem ruse (P : RP) (M : MM) (a n r kind : Int) (w : World) (h : RM P M w) (hM : MOk M) (hr : r = 1 ∨ r = 2 ∨ r = 4) (a0 : 0 ≤ a) (a1 : a < 4294967296) (n1 : n < 9223372036854775808) :
  Calls Tryz.prog 136 #[.pointer (some ⟨P.q, 0, none⟩), .int .u32 a, .int .i64 n, .int .i64 r, .int .i64 kind] w fun e w' => e = .returned (stpV kind (srch M r a n.toNat)) ∧ Below w.heap.size w w' := by
 have q1 := h.hq1
 have HH := κ h
 have HM' := κ hM
 have HR := κ hr
 have r0 : 0 < r := by omega
 have r1 : r ≤ 4 := by omega
 have rn : (r == 0) = false := by rw [beq_eq_false_iff_ne]; omega
 have lq := h.lq
 have lr := h.lr
 have b0 := κ (fun o => (Below.refl w.heap.size w).alloc (Nat.le_refl _) o)
 obtain ⟨pq, pb, pr, pm, pt⟩ := P
 simp only at q1 lq lr
 clear h hM hr
 go_enter Tryz.func136, Tryz.ntmps136
 go_wp2
 go_loopg [11] n.toNat (fun g i wr => ∃ k : Nat, g = n.toNat - k ∧ k ≤ n.toNat ∧ i = .int .i64 k ∧ Hid (∀ j, j < k → useB M r (plc a j) = true) ∧ wr = w.alloc (.cells #[.int .i64 0, .int .u32 0] 55))
 case atStart => exact ⟨0, rfl, Nat.zero_le _, rfl, fun j hj => absurd hj (by omega), rfl⟩
 case round =>
  obtain ⟨k, hg, hk, rfl, hA, rfl⟩ := hrel
  by_cases hlt : k < n.toNat
  ·have hlt' : (k : Int) < n := by omega
   have k0 : (0 : Int) ≤ (k : Int) := by omega
   have hx := plc_bd a k
   have ex : (a + (k : Int) % 4294967296) % 4294967296 = plc a k := by unfold plc; omega
   obtain ⟨x0, x1⟩ := hx
   obtain ⟨x, hxx⟩ : ∃ x, plc a k = x := ⟨_, rfl⟩
   rw [hxx] at x0 x1 ex
   have HX := κ hxx
   clear hxx
   by_cases hm : 65535 < x
   ·go_wp2
    refine bodyPost_ret (v := .agg #[.int .i64 kind, .int .u32 x]) (by simp [results, Tryz.results136, go_sem]) rfl ⟨?_, ?_⟩
    ·have hu2' : useB M r x = false := by unfold useB; rw [decide_eq_false (by omega)]; rfl
     rw [srch_some k hlt hA (by rw [HX.out]; exact hu2'), HX.out]; rfl
    ·exact b0.out _
   ·have hm' : x ≤ 65535 := by omega
    have q0 : (x / 256).toNat < 256 := by omega
    have c2 := HH.out.hr (x / 256).toNat q0
    have hu2 : useB M r x = decide (M.rt (x / 256).toNat / r % 2 = 1) := by
     unfold useB; rw [decide_eq_true (show x < 65536 by omega)]; rfl
    simp only at c2
    have yb := HM'.out.2 (x / 256).toNat
    generalize M.rt (x / 256).toNat = y at c2 hu2 yb
    obtain ⟨y0, y1⟩ := yb
    have d0 : 0 ≤ y / r := Int.ediv_nonneg (by omega) (by omega)
    have d1 : y / r ≤ y := Int.ediv_le_self _ (by omega)
    have d2 : y / r < 8 := by omega
    by_cases hd : y / r % 2 = 1
    ·have hu2' := κ (hu2.trans (decide_eq_true hd))
     have hz : (y / r % 2 == 0) = false := by rw [beq_eq_false_iff_ne]; omega
     clear hd hu2
     go_wp2
     go_roundg (n.toNat - (k + 1))
     case measure => omega
     case rel => exact ⟨k + 1, rfl, by omega, by simp, use_snoc hA HX hu2', rfl⟩
    ·have hu2' := κ (hu2.trans (decide_eq_false hd))
     have hz : (y / r % 2 == 0) = true := by rw [beq_iff_eq]; omega
     clear hd hu2
     go_wp2
     refine bodyPost_ret (v := .agg #[.int .i64 kind, .int .u32 x]) (by simp [results, Tryz.results136, go_sem]) rfl ⟨?_, ?_⟩
     ·rw [srch_some k hlt hA (by rw [HX.out]; exact hu2'.out), HX.out]; rfl
     ·exact b0.out _
  ·have hge : ¬ (k : Int) < n := by omega
   have hkn : k = n.toNat := by omega
   have HK := κ hkn
   clear hkn
   go_wp2
   refine bodyPost_ret (v := .agg #[.int .i64 0, .int .u32 0]) (by simp [results, Tryz.results136, go_sem]) rfl ⟨?_, ?_⟩
   ·rw [srch_none (fun j hj => hA.out j (by rw [HK.out]; exact hj))]; rfl
   ·exact b0.out _
end Go.Proofs.YtcjcmnnhmajocabGreat.Me
