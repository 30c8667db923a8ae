/- mem.Memory.Poke. -/
import Derived.Test.YtcjcmnnhmajocabGreatPlae
set_option linter.unusedVariables false
set_option linter.unusedSimpArgs false
set_option maxRecDepth 100000
set_option maxHeartbeats 16000000
namespace Go.Proofs.YtcjcmnnhmajocabGreat.Me
open Go.RowKit Kt
theorem aft_alloc {w w1 : World} {ob : Obj} (hb : Below (w.alloc ob).heap.size (w.alloc ob) w1) : Below w.heap.size w w1 := ((Below.refl _ _).alloc (Nat.le_refl _) _).trans (hb.mono (by simp))
theorem Rs.of_call {w w1 : World} (hb : Below (w.alloc (.cells #[.int .i64 0, .int .u32 0] 55)).heap.size (w.alloc (.cells #[.int .i64 0, .int .u32 0] 55)) w1) : Rs w.heap.size w1 :=
 (Rs.new w w.heap.size rfl).upto (Upto.of_below (S := fun _ => False) hb) id
theorem ret_ld {a b : Int} {v : Value} (h : a = b) : Ending.returned (.tuple #[.int .u32 a, v]) = .returned (.tuple #[.int .u32 b, v]) := by rw [h]
theorem rload_bad (P : RP) (M : MM) (a n x : Int) (w : World) (h : RM P M w) (hM : MOk M) (a0 : 0 ≤ a) (a1 : a < 4294967296) (n1 : n < 9223372036854775808) (hs : srch M 1 a n.toNat = some x) :
  Calls Tryz.prog 147 #[.pointer (some ⟨P.q, 0, none⟩), .int .u32 a, .int .i64 n] w fun e w' => e = .returned (.tuple #[.int .u32 0, .agg #[.int .i64 5, .int .u32 x]]) ∧ Below w.heap.size w w' := by
 have HB := κ (fun w h => ruse P M a n 1 5 w h hM (.inl rfl) a0 a1 n1)
 rw [hs] at HB
 simp only [stpV] at HB
 have HH := κ (fun o => h.upto ((Upto.refl (fun _ => False) w).alloc o) (fun _ _ => id))
 clear h hM hs
 go_enter Tryz.func147, Tryz.ntmps147
 go_wp2_with (go_at_call 136; refine (HB.out _ (HH.out _)).mono ?_; rintro e w1 ⟨rfl, hb1⟩; obtain ⟨g0, g1, g2, g3, g4⟩ := Rs.of_call hb1; have B1 := κ (aft_alloc hb1); clear hb1)
 go_region
 go_wp2
 refine bodyPost_ret (v := .tuple #[.int .u32 0, .agg #[.int .i64 5, .int .u32 x]]) (by simp [results, Tryz.results147, go_sem, g0, g1, g4]) rfl ⟨rfl, ?_⟩
 exact (((B1.out.setCell (Nat.le_refl _) _).setCell (Nat.le_refl _) _).alloc (by simpa using B1.out.size) _).drew
theorem rload_none (P : RP) (M : MM) (a n : Int) (w : World) (h : RM P M w) (hM : MOk M) (a0 : 0 ≤ a) (a1 : a < 4294967296) (n1 : n < 9223372036854775808) (hs : srch M 1 a n.toNat = none) (hn : ¬ (n = 1 ∨ n = 2 ∨ n = 4)) :
  Calls Tryz.prog 147 #[.pointer (some ⟨P.q, 0, none⟩), .int .u32 a, .int .i64 n] w fun e w' => e = .returned (.tuple #[.int .u32 0, .agg #[.int .i64 0, .int .u32 0]]) ∧ Below w.heap.size w w' := by
 have HB := κ (fun w h => ruse P M a n 1 5 w h hM (.inl rfl) a0 a1 n1)
 rw [hs] at HB
 simp only [stpV] at HB
 have HH := κ (fun o => h.upto ((Upto.refl (fun _ => False) w).alloc o) (fun _ _ => id))
 have e1 : (n != 1) = true := by rw [bne_iff_ne]; omega
 have e2 : (n != 2) = true := by rw [bne_iff_ne]; omega
 have e4 : (n != 4) = true := by rw [bne_iff_ne]; omega
 clear h hM hs hn
 go_enter Tryz.func147, Tryz.ntmps147
 go_wp2_with (go_at_call 136; refine (HB.out _ (HH.out _)).mono ?_; rintro e w1 ⟨rfl, hb1⟩; obtain ⟨g0, g1, g2, g3, g4⟩ := Rs.of_call hb1; have B1 := κ (aft_alloc hb1); clear hb1)
 go_region
 go_wp2
 refine bodyPost_ret (v := .tuple #[.int .u32 0, .agg #[.int .i64 0, .int .u32 0]]) (by simp [results, Tryz.results147, go_sem, g0, g1, g4]) rfl ⟨rfl, ?_⟩
 exact (((B1.out.setCell (Nat.le_refl _) _).setCell (Nat.le_refl _) _).alloc (by simpa using B1.out.size) _).drew
theorem rload_1 (P : RP) (M : MM) (a : Int) (w : World) (h : RM P M w) (hM : MOk M) (a0 : 0 ≤ a) (a1 : a < 4294967296) (hs : srch M 1 a 1 = none) :
  Calls Tryz.prog 147 #[.pointer (some ⟨P.q, 0, none⟩), .int .u32 a, .int .i64 1] w fun e w' => e = .returned (.tuple #[.int .u32 (byt M a 0), .agg #[.int .i64 0, .int .u32 0]]) ∧ Below w.heap.size w w' := by
 have HB := κ (fun w h => ruse P M a 1 1 5 w h hM (.inl rfl) a0 a1 (by omega))
 rw [show (1 : Int).toNat = 1 from rfl, hs] at HB
 simp only [stpV] at HB
 have HH := κ (fun o => h.upto ((Upto.refl (fun _ => False) w).alloc o) (fun _ _ => id))
 have p0 := (plc_in a0 a1 hs 0 (by omega) (by omega)).2
 have q0 := h.hq0
 have lq := h.lq
 have lb := h.lb
 unfold byt
 rw [Nat.add_zero]
 have b1 : a < 65536 := by omega
 have c0 := h.hb a.toNat (by omega)
 have r0 := hM.1 a.toNat
 generalize M.by_ a.toNat = y0 at c0 r0 ⊢
 obtain ⟨r0a, r0b⟩ := r0
 obtain ⟨pq, pb, pr, pm, pt⟩ := P
 simp only at q0 lq lb c0 HB HH
 clear h hM hs p0
 go_enter Tryz.func147, Tryz.ntmps147
 go_wp2_with (go_at_call 136; refine (HB.out _ (HH.out _)).mono ?_; rintro e w1 ⟨rfl, hb1⟩; obtain ⟨g0, g1, g2, g3, g4⟩ := Rs.of_call hb1; have B1 := κ (aft_alloc hb1); have q0' := (B1.out.cell (p := ⟨pq, 0, none⟩) lq).trans q0; have c0' := (B1.out.cell (p := ⟨pb, a.toNat, none⟩) lb).trans c0; have lq' := Nat.lt_of_lt_of_le lq B1.out.size; have lb' := Nat.lt_of_lt_of_le lb B1.out.size; clear hb1)
 refine wp_loop_rounds 2 ?_
 rw [rounds_succ]; go_wp2
 rw [rounds_succ]; go_wp2
 go_region
 go_wp2
 refine bodyPost_ret (v := .tuple #[.int .u32 (y0), .agg #[.int .i64 0, .int .u32 0]]) (by simp [results, Tryz.results147, go_sem, g0, g1, g4]) rfl ⟨ret_ld (by omega), ?_⟩
 exact (((B1.out.setCell (Nat.le_refl _) _).setCell (Nat.le_refl _) _).alloc (by simpa using B1.out.size) _).drew
theorem rload_2 (P : RP) (M : MM) (a : Int) (w : World) (h : RM P M w) (hM : MOk M) (a0 : 0 ≤ a) (a1 : a < 4294967296) (hs : srch M 1 a 2 = none) :
  Calls Tryz.prog 147 #[.pointer (some ⟨P.q, 0, none⟩), .int .u32 a, .int .i64 2] w fun e w' => e = .returned (.tuple #[.int .u32 (byt M a 0 + byt M a 1 * 256), .agg #[.int .i64 0, .int .u32 0]]) ∧ Below w.heap.size w w' := by
 have HB := κ (fun w h => ruse P M a 2 1 5 w h hM (.inl rfl) a0 a1 (by omega))
 rw [show (2 : Int).toNat = 2 from rfl, hs] at HB
 simp only [stpV] at HB
 have HH := κ (fun o => h.upto ((Upto.refl (fun _ => False) w).alloc o) (fun _ _ => id))
 have p0 := (plc_in a0 a1 hs 1 (by omega) (by omega)).2
 have q0 := h.hq0
 have lq := h.lq
 have lb := h.lb
 unfold byt
 rw [Nat.add_zero]
 have b1 : a < 65536 := by omega
 have b2 : a + 1 < 65536 := by omega
 have c0 := h.hb a.toNat (by omega)
 have r0 := hM.1 a.toNat
 have c1 := h.hb (a.toNat + 1) (by omega)
 have r1 := hM.1 (a.toNat + 1)
 rw [show a.toNat + 1 = (a + 1).toNat by omega] at c1 r1
 generalize M.by_ a.toNat = y0 at c0 r0 ⊢
 rw [show a.toNat + 1 = (a + 1).toNat by omega]
 generalize M.by_ (a + 1).toNat = y1 at c1 r1 ⊢
 obtain ⟨r0a, r0b⟩ := r0
 obtain ⟨r1a, r1b⟩ := r1
 obtain ⟨pq, pb, pr, pm, pt⟩ := P
 simp only at q0 lq lb c0 c1 HB HH
 clear h hM hs p0
 go_enter Tryz.func147, Tryz.ntmps147
 go_wp2_with (go_at_call 136; refine (HB.out _ (HH.out _)).mono ?_; rintro e w1 ⟨rfl, hb1⟩; obtain ⟨g0, g1, g2, g3, g4⟩ := Rs.of_call hb1; have B1 := κ (aft_alloc hb1); have q0' := (B1.out.cell (p := ⟨pq, 0, none⟩) lq).trans q0; have c0' := (B1.out.cell (p := ⟨pb, a.toNat, none⟩) lb).trans c0; have c1' := (B1.out.cell (p := ⟨pb, (a + 1).toNat, none⟩) lb).trans c1; have lq' := Nat.lt_of_lt_of_le lq B1.out.size; have lb' := Nat.lt_of_lt_of_le lb B1.out.size; clear hb1)
 refine wp_loop_rounds 3 ?_
 rw [rounds_succ]; go_wp2
 rw [rounds_succ]; go_wp2
 rw [rounds_succ]; go_wp2
 go_region
 go_wp2
 refine bodyPost_ret (v := .tuple #[.int .u32 (y1 * 256 + y0), .agg #[.int .i64 0, .int .u32 0]]) (by simp [results, Tryz.results147, go_sem, g0, g1, g4]) rfl ⟨ret_ld (by omega), ?_⟩
 exact (((B1.out.setCell (Nat.le_refl _) _).setCell (Nat.le_refl _) _).alloc (by simpa using B1.out.size) _).drew
theorem rload_4 (P : RP) (M : MM) (a : Int) (w : World) (h : RM P M w) (hM : MOk M) (a0 : 0 ≤ a) (a1 : a < 4294967296) (hs : srch M 1 a 4 = none) :
  Calls Tryz.prog 147 #[.pointer (some ⟨P.q, 0, none⟩), .int .u32 a, .int .i64 4] w fun e w' => e = .returned (.tuple #[.int .u32 (byt M a 0 + byt M a 1 * 256 + byt M a 2 * 65536 + byt M a 3 * 16777216), .agg #[.int .i64 0, .int .u32 0]]) ∧ Below w.heap.size w w' := by
 have HB := κ (fun w h => ruse P M a 4 1 5 w h hM (.inl rfl) a0 a1 (by omega))
 rw [show (4 : Int).toNat = 4 from rfl, hs] at HB
 simp only [stpV] at HB
 have HH := κ (fun o => h.upto ((Upto.refl (fun _ => False) w).alloc o) (fun _ _ => id))
 have p0 := (plc_in a0 a1 hs 3 (by omega) (by omega)).2
 have q0 := h.hq0
 have lq := h.lq
 have lb := h.lb
 unfold byt
 rw [Nat.add_zero]
 have b1 : a < 65536 := by omega
 have b2 : a + 1 < 65536 := by omega
 have b3 : a + 2 < 65536 := by omega
 have b4 : a + 3 < 65536 := by omega
 have c0 := h.hb a.toNat (by omega)
 have r0 := hM.1 a.toNat
 have c1 := h.hb (a.toNat + 1) (by omega)
 have r1 := hM.1 (a.toNat + 1)
 rw [show a.toNat + 1 = (a + 1).toNat by omega] at c1 r1
 have c2 := h.hb (a.toNat + 2) (by omega)
 have r2 := hM.1 (a.toNat + 2)
 rw [show a.toNat + 2 = (a + 2).toNat by omega] at c2 r2
 have c3 := h.hb (a.toNat + 3) (by omega)
 have r3 := hM.1 (a.toNat + 3)
 rw [show a.toNat + 3 = (a + 3).toNat by omega] at c3 r3
 generalize M.by_ a.toNat = y0 at c0 r0 ⊢
 rw [show a.toNat + 1 = (a + 1).toNat by omega]
 generalize M.by_ (a + 1).toNat = y1 at c1 r1 ⊢
 rw [show a.toNat + 2 = (a + 2).toNat by omega]
 generalize M.by_ (a + 2).toNat = y2 at c2 r2 ⊢
 rw [show a.toNat + 3 = (a + 3).toNat by omega]
 generalize M.by_ (a + 3).toNat = y3 at c3 r3 ⊢
 obtain ⟨r0a, r0b⟩ := r0
 obtain ⟨r1a, r1b⟩ := r1
 obtain ⟨r2a, r2b⟩ := r2
 obtain ⟨r3a, r3b⟩ := r3
 obtain ⟨pq, pb, pr, pm, pt⟩ := P
 simp only at q0 lq lb c0 c1 c2 c3 HB HH
 clear h hM hs p0
 go_enter Tryz.func147, Tryz.ntmps147
 go_wp2_with (go_at_call 136; refine (HB.out _ (HH.out _)).mono ?_; rintro e w1 ⟨rfl, hb1⟩; obtain ⟨g0, g1, g2, g3, g4⟩ := Rs.of_call hb1; have B1 := κ (aft_alloc hb1); have q0' := (B1.out.cell (p := ⟨pq, 0, none⟩) lq).trans q0; have c0' := (B1.out.cell (p := ⟨pb, a.toNat, none⟩) lb).trans c0; have c1' := (B1.out.cell (p := ⟨pb, (a + 1).toNat, none⟩) lb).trans c1; have c2' := (B1.out.cell (p := ⟨pb, (a + 2).toNat, none⟩) lb).trans c2; have c3' := (B1.out.cell (p := ⟨pb, (a + 3).toNat, none⟩) lb).trans c3; have lq' := Nat.lt_of_lt_of_le lq B1.out.size; have lb' := Nat.lt_of_lt_of_le lb B1.out.size; clear hb1)
 refine wp_loop_rounds 5 ?_
 rw [rounds_succ]; go_wp2
 rw [rounds_succ]; go_wp2
 rw [rounds_succ]; go_wp2
 rw [rounds_succ]; go_wp2
 rw [rounds_succ]; go_wp2
 go_region
 go_wp2
 refine bodyPost_ret (v := .tuple #[.int .u32 (((y3 * 256 + y2) * 256 + y1) * 256 + y0), .agg #[.int .i64 0, .int .u32 0]]) (by simp [results, Tryz.results147, go_sem, g0, g1, g4]) rfl ⟨ret_ld (by omega), ?_⟩
 exact (((B1.out.setCell (Nat.le_refl _) _).setCell (Nat.le_refl _) _).alloc (by simpa using B1.out.size) _).drew
theorem rload_any (P : RP) (M : MM) (a n : Int) (w : World) (h : RM P M w) (hM : MOk M) (a0 : 0 ≤ a) (a1 : a < 4294967296) (n1 : n < 9223372036854775808) :
  Calls Tryz.prog 147 #[.pointer (some ⟨P.q, 0, none⟩), .int .u32 a, .int .i64 n] w fun e w' => e = .returned (.tuple #[.int .u32 (ldv M a n), stpV 5 (srch M 1 a n.toNat)]) ∧ Below w.heap.size w w' := by
 unfold ldv
 obtain ⟨o, ho⟩ : ∃ o, srch M 1 a n.toNat = o := ⟨_, rfl⟩
 rw [ho]
 rcases o with _ | x
 ·simp only [Option.isNone_none, if_true, stpV]
  by_cases e1 : n = 1
  ·subst e1; rw [if_pos rfl]; exact rload_1 P M a w h hM a0 a1 ho
  ·rw [if_neg e1]
   by_cases e2 : n = 2
   ·subst e2; rw [if_pos rfl]; exact rload_2 P M a w h hM a0 a1 ho
   ·rw [if_neg e2]
    by_cases e4 : n = 4
    ·subst e4; rw [if_pos rfl]; exact rload_4 P M a w h hM a0 a1 ho
    ·rw [if_neg e4]
     exact rload_none P M a n w h hM a0 a1 n1 ho (by omega)
 ·simp only [Option.isNone_some, Bool.false_eq_true, if_false, stpV]
  exact rload_bad P M a n x w h hM a0 a1 n1 ho
theorem RM.facts {P : RP} {M : MM} {W : World} (h : RM P M W) (k : Int) (k1 : k < 65536) : (∃ u, W.cell? ⟨P.b, k.toNat, none⟩ = some u) ∧ W.frozen? ⟨P.b, k.toNat, none⟩ = false :=
 ⟨⟨_, h.hb k.toNat (by omega)⟩, h.zb _⟩
theorem rstore_not (q : Nat) (a n v : Int) (w : World) (hn : ¬ (n = 1 ∨ n = 2 ∨ n = 4)) :
  Calls Tryz.prog 148 #[.pointer (some ⟨q, 0, none⟩), .int .u32 a, .int .i64 n, .int .u32 v] w fun e w' => e = .returned (.agg #[.int .i64 0, .int .u32 0]) ∧ Below w.heap.size w w' := by
 have b0 := Below.refl w.heap.size w
 have e1 : (n != 1) = true := by rw [bne_iff_ne]; omega
 have e2 : (n != 2) = true := by rw [bne_iff_ne]; omega
 have e4 : (n != 4) = true := by rw [bne_iff_ne]; omega
 clear hn
 go_enter Tryz.func148, Tryz.ntmps148
 go_wp2
 refine bodyPost_ret (v := .agg #[.int .i64 0, .int .u32 0]) (by simp [results, Tryz.results148, go_sem]) rfl ⟨rfl, ?_⟩
 exact b0.alloc (Nat.le_refl _) _
theorem rstore_bad1 (P : RP) (M : MM) (a v x : Int) (w : World) (h : RM P M w) (hM : MOk M) (a0 : 0 ≤ a) (a1 : a < 4294967296) (hs : srch M 2 a 1 = some x) :
  Calls Tryz.prog 148 #[.pointer (some ⟨P.q, 0, none⟩), .int .u32 a, .int .i64 1, .int .u32 v] w fun e w' => e = .returned (.agg #[.int .i64 6, .int .u32 x]) ∧ Below w.heap.size w w' := by
 have HB := κ (fun w h => ruse P M a 1 2 6 w h hM (.inr (.inl rfl)) a0 a1 (by omega))
 rw [show (1 : Int).toNat = 1 from rfl, hs] at HB
 simp only [stpV] at HB
 have HH := κ (fun o => h.upto ((Upto.refl (fun _ => False) w).alloc o) (fun _ _ => id))
 clear h hM hs
 go_enter Tryz.func148, Tryz.ntmps148
 go_wp2_with (go_at_call 136; refine (HB.out _ (HH.out _)).mono ?_; rintro e w1 ⟨rfl, hb1⟩; obtain ⟨g0, g1, g2, g3, g4⟩ := Rs.of_call hb1; have B1 := κ (aft_alloc hb1); clear hb1)
 refine bodyPost_ret (v := .agg #[.int .i64 6, .int .u32 x]) (by simp [results, Tryz.results148, go_sem, g0, g1, g4]) rfl ⟨rfl, ?_⟩
 exact ((B1.out.setCell (Nat.le_refl _) _).setCell (Nat.le_refl _) _).alloc (by simpa using B1.out.size) _
theorem rstore_1 (P : RP) (M : MM) (a v : Int) (w : World) (h : RM P M w) (hM : MOk M) (a0 : 0 ≤ a) (a1 : a < 4294967296) (v0 : 0 ≤ v) (v1 : v < 4294967296) (hs : srch M 2 a 1 = none) :
  Calls Tryz.prog 148 #[.pointer (some ⟨P.q, 0, none⟩), .int .u32 a, .int .i64 1, .int .u32 v] w fun e w' => e = .returned (.agg #[.int .i64 0, .int .u32 0]) ∧ RM P (pk M a.toNat (bts 1 v)) w' ∧ Upto P.S w w' := by
 have HB := κ (fun w h => ruse P M a 1 2 6 w h hM (.inr (.inl rfl)) a0 a1 (by omega))
 rw [show (1 : Int).toNat = 1 from rfl, hs] at HB
 simp only [stpV] at HB
 have HH := κ (fun o => h.upto ((Upto.refl (fun _ => False) w).alloc o) (fun _ _ => id))
 have p0 := (plc_in a0 a1 hs 0 (by omega) (by omega)).2
 have b0 : a < 65536 := by omega
 have HI := κ h
 have HC := κ (rchange P)
 have lq := h.lq
 have lb := h.lb
 have hX : ¬ P.S w.heap.size := by
  have := h.lr; have := h.lm; have := h.lt
  rintro (h | h | h | h | h) <;> omega
 have HP := κ h
 have hpb : P.S P.b := .inr (.inl rfl)
 obtain ⟨pq, hpq⟩ : ∃ x, P.q = x := ⟨_, rfl⟩
 obtain ⟨pb, hpb'⟩ : ∃ x, P.b = x := ⟨_, rfl⟩
 rw [hpq] at lq HB HC ⊢
 rw [hpb'] at lb hpb
 have HQ := κ hpq
 have HPB := κ hpb'
 clear h hM hs p0 hpq hpb'
 go_enter Tryz.func148, Tryz.ntmps148
 go_wp2_with (go_at_call 136; refine (HB.out _ (HH.out _)).mono ?_; rintro e w0 ⟨rfl, hb1⟩; have RX0 := κ (Rs.of_call hb1); have B1 := κ (aft_alloc hb1); have HH0 := κ (HP.out.upto (Upto.of_below (S := fun _ => False) B1.out) (fun _ _ => id)); clear hb1; have q0 := HH0.out.hq0; obtain ⟨⟨u0, k0⟩, z0⟩ := HH0.out.facts a (by omega); rw [HPB.out] at k0 z0 q0; rw [HQ.out] at q0; have lq0 := Nat.lt_of_lt_of_le lq B1.out.size; have lb0 := Nat.lt_of_lt_of_le lb B1.out.size; have hY := κ (Below.size B1.out))
 have hYS : ¬ P.S w0.heap.size := by
  have := HH0.out.lq; have := HH0.out.lb; have := HH0.out.lr; have := HH0.out.lm; have := HH0.out.lt
  rintro (h | h | h | h | h) <;> omega
 have hXb : ¬ w.heap.size = pb := by omega
 have hYb : ¬ w0.heap.size = pb := by omega
 have hXY : ¬ w.heap.size = w0.heap.size := by have := RX0.out.2.2.2.2; omega
 refine wp_loop_rounds 2 ?_
 rw [rounds_succ]; go_wp2_with fail
 refine (HC.out _ _ (by omega) (by omega) _ (((HPB.out ▸ HH0.out.setB a.toNat (by omega) (v % 256)).upto ((Upto.refl (fun _ => False) _).alloc _) (fun _ _ => id)))).mono ?_
 rintro e w1 ⟨rfl, h1, o1⟩
 rw [w1_at0 _ a _ a0] at h1
 have RX1 := κ (((RX0.out.put hXb).upto ((Upto.refl (fun _ => False) _).alloc _) id).upto o1 hX)
 have RY1 := κ ((Rs.new (w0.setCell ⟨pb, a.toNat, none⟩ (.int .u8 (v % 256))) w0.heap.size (by simp)).upto o1 hYS)
 have U1 := κ (Upto.trans (((Upto.of_below B1.out).setCell (q := ⟨pb, (a).toNat, none⟩) (.inl hpb) (.int .u8 (v % 256))).alloc (.cells #[.int .i64 0, .int .u32 0] 55)) o1)
 have HH1 := κ h1
 obtain ⟨g0, g1, g2, g3, g4⟩ := RX1.out
 obtain ⟨f0, f1, f2, f3, f4⟩ := RY1.out
 clear h1 o1
 go_wp2
 rw [rounds_succ]; go_wp2
 refine bodyPost_ret (v := .agg #[.int .i64 0, .int .u32 0]) (by simp [results, Tryz.results148, go_sem, g0, g1, g4]) rfl ⟨rfl, ?_, ?_⟩
 ·exact HH1.out.upto (S := fun i => i = w.heap.size) (((Upto.refl (fun i => i = w.heap.size) _).setCell (q := ⟨w.heap.size, 0, none⟩) (.inl rfl) (.int .i64 0)).setCell (q := ⟨w.heap.size, 1, none⟩) (.inl rfl) (.int .u32 0)) (fun k hk h => hX (h ▸ hk))
 ·exact (U1.out.setCell (q := ⟨w.heap.size, 0, none⟩) (.inr (Nat.le_refl _)) _).setCell (q := ⟨w.heap.size, 1, none⟩) (.inr (Nat.le_refl _)) _
theorem rstore_bad2 (P : RP) (M : MM) (a v x : Int) (w : World) (h : RM P M w) (hM : MOk M) (a0 : 0 ≤ a) (a1 : a < 4294967296) (hs : srch M 2 a 2 = some x) :
  Calls Tryz.prog 148 #[.pointer (some ⟨P.q, 0, none⟩), .int .u32 a, .int .i64 2, .int .u32 v] w fun e w' => e = .returned (.agg #[.int .i64 6, .int .u32 x]) ∧ Below w.heap.size w w' := by
 have HB := κ (fun w h => ruse P M a 2 2 6 w h hM (.inr (.inl rfl)) a0 a1 (by omega))
 rw [show (2 : Int).toNat = 2 from rfl, hs] at HB
 simp only [stpV] at HB
 have HH := κ (fun o => h.upto ((Upto.refl (fun _ => False) w).alloc o) (fun _ _ => id))
 clear h hM hs
 go_enter Tryz.func148, Tryz.ntmps148
 go_wp2_with (go_at_call 136; refine (HB.out _ (HH.out _)).mono ?_; rintro e w1 ⟨rfl, hb1⟩; obtain ⟨g0, g1, g2, g3, g4⟩ := Rs.of_call hb1; have B1 := κ (aft_alloc hb1); clear hb1)
 refine bodyPost_ret (v := .agg #[.int .i64 6, .int .u32 x]) (by simp [results, Tryz.results148, go_sem, g0, g1, g4]) rfl ⟨rfl, ?_⟩
 exact ((B1.out.setCell (Nat.le_refl _) _).setCell (Nat.le_refl _) _).alloc (by simpa using B1.out.size) _
theorem rstore_2 (P : RP) (M : MM) (a v : Int) (w : World) (h : RM P M w) (hM : MOk M) (a0 : 0 ≤ a) (a1 : a < 4294967296) (v0 : 0 ≤ v) (v1 : v < 4294967296) (hs : srch M 2 a 2 = none) :
  Calls Tryz.prog 148 #[.pointer (some ⟨P.q, 0, none⟩), .int .u32 a, .int .i64 2, .int .u32 v] w fun e w' => e = .returned (.agg #[.int .i64 0, .int .u32 0]) ∧ RM P (pk M a.toNat (bts 2 v)) w' ∧ Upto P.S w w' := by
 have HB := κ (fun w h => ruse P M a 2 2 6 w h hM (.inr (.inl rfl)) a0 a1 (by omega))
 rw [show (2 : Int).toNat = 2 from rfl, hs] at HB
 simp only [stpV] at HB
 have HH := κ (fun o => h.upto ((Upto.refl (fun _ => False) w).alloc o) (fun _ _ => id))
 have p0 := (plc_in a0 a1 hs 1 (by omega) (by omega)).2
 have b0 : a < 65536 := by omega
 have b1 : a + 1 < 65536 := by omega
 have HI := κ h
 have HC := κ (rchange P)
 have lq := h.lq
 have lb := h.lb
 have hX : ¬ P.S w.heap.size := by
  have := h.lr; have := h.lm; have := h.lt
  rintro (h | h | h | h | h) <;> omega
 have HP := κ h
 have hpb : P.S P.b := .inr (.inl rfl)
 obtain ⟨pq, hpq⟩ : ∃ x, P.q = x := ⟨_, rfl⟩
 obtain ⟨pb, hpb'⟩ : ∃ x, P.b = x := ⟨_, rfl⟩
 rw [hpq] at lq HB HC ⊢
 rw [hpb'] at lb hpb
 have HQ := κ hpq
 have HPB := κ hpb'
 clear h hM hs p0 hpq hpb'
 go_enter Tryz.func148, Tryz.ntmps148
 go_wp2_with (go_at_call 136; refine (HB.out _ (HH.out _)).mono ?_; rintro e w0 ⟨rfl, hb1⟩; have RX0 := κ (Rs.of_call hb1); have B1 := κ (aft_alloc hb1); have HH0 := κ (HP.out.upto (Upto.of_below (S := fun _ => False) B1.out) (fun _ _ => id)); clear hb1; have q0 := HH0.out.hq0; obtain ⟨⟨u0, k0⟩, z0⟩ := HH0.out.facts a (by omega); rw [HPB.out] at k0 z0 q0; rw [HQ.out] at q0; have lq0 := Nat.lt_of_lt_of_le lq B1.out.size; have lb0 := Nat.lt_of_lt_of_le lb B1.out.size; have hY := κ (Below.size B1.out))
 have hYS : ¬ P.S w0.heap.size := by
  have := HH0.out.lq; have := HH0.out.lb; have := HH0.out.lr; have := HH0.out.lm; have := HH0.out.lt
  rintro (h | h | h | h | h) <;> omega
 have hXb : ¬ w.heap.size = pb := by omega
 have hYb : ¬ w0.heap.size = pb := by omega
 have hXY : ¬ w.heap.size = w0.heap.size := by have := RX0.out.2.2.2.2; omega
 refine wp_loop_rounds 3 ?_
 rw [rounds_succ]; go_wp2_with fail
 refine (HC.out _ _ (by omega) (by omega) _ (((HPB.out ▸ HH0.out.setB a.toNat (by omega) (v % 256)).upto ((Upto.refl (fun _ => False) _).alloc _) (fun _ _ => id)))).mono ?_
 rintro e w1 ⟨rfl, h1, o1⟩
 rw [w1_at0 _ a _ a0] at h1
 have RX1 := κ (((RX0.out.put hXb).upto ((Upto.refl (fun _ => False) _).alloc _) id).upto o1 hX)
 have RY1 := κ ((Rs.new (w0.setCell ⟨pb, a.toNat, none⟩ (.int .u8 (v % 256))) w0.heap.size (by simp)).upto o1 hYS)
 have U1 := κ (Upto.trans (((Upto.of_below B1.out).setCell (q := ⟨pb, (a).toNat, none⟩) (.inl hpb) (.int .u8 (v % 256))).alloc (.cells #[.int .i64 0, .int .u32 0] 55)) o1)
 have HH1 := κ h1
 obtain ⟨⟨u1, k1⟩, z1⟩ := h1.facts (a + 1) (by omega)
 have q1 := h1.hq0
 rw [HPB.out] at k1 z1 q1; rw [HQ.out] at q1
 clear h1 o1
 go_wp2
 rw [rounds_succ]; go_wp2_with fail
 refine (HC.out _ _ (by omega) (by omega) _ (HPB.out ▸ HH1.out.setB (a + 1).toNat (by omega) (v / 256 % 256))).mono ?_
 rintro e w2 ⟨rfl, h2, o2⟩
 rw [w1_at _ a 1 1 _ a0 rfl] at h2
 have RX2 := κ ((RX1.out.put hXb).upto o2 hX)
 have RY2 := κ ((RY1.out.put hYb).upto o2 hYS)
 have U2 := κ (Upto.trans (U1.out.setCell (q := ⟨pb, (a + 1).toNat, none⟩) (.inl hpb) (.int .u8 (v / 256 % 256))) o2)
 have HH2 := κ h2
 obtain ⟨g0, g1, g2, g3, g4⟩ := RX2.out
 obtain ⟨f0, f1, f2, f3, f4⟩ := RY2.out
 clear h2 o2
 go_wp2
 rw [rounds_succ]; go_wp2
 refine bodyPost_ret (v := .agg #[.int .i64 0, .int .u32 0]) (by simp [results, Tryz.results148, go_sem, g0, g1, g4]) rfl ⟨rfl, ?_, ?_⟩
 ·exact HH2.out.upto (S := fun i => i = w.heap.size) (((Upto.refl (fun i => i = w.heap.size) _).setCell (q := ⟨w.heap.size, 0, none⟩) (.inl rfl) (.int .i64 0)).setCell (q := ⟨w.heap.size, 1, none⟩) (.inl rfl) (.int .u32 0)) (fun k hk h => hX (h ▸ hk))
 ·exact (U2.out.setCell (q := ⟨w.heap.size, 0, none⟩) (.inr (Nat.le_refl _)) _).setCell (q := ⟨w.heap.size, 1, none⟩) (.inr (Nat.le_refl _)) _
theorem rstore_bad4 (P : RP) (M : MM) (a v x : Int) (w : World) (h : RM P M w) (hM : MOk M) (a0 : 0 ≤ a) (a1 : a < 4294967296) (hs : srch M 2 a 4 = some x) :
  Calls Tryz.prog 148 #[.pointer (some ⟨P.q, 0, none⟩), .int .u32 a, .int .i64 4, .int .u32 v] w fun e w' => e = .returned (.agg #[.int .i64 6, .int .u32 x]) ∧ Below w.heap.size w w' := by
 have HB := κ (fun w h => ruse P M a 4 2 6 w h hM (.inr (.inl rfl)) a0 a1 (by omega))
 rw [show (4 : Int).toNat = 4 from rfl, hs] at HB
 simp only [stpV] at HB
 have HH := κ (fun o => h.upto ((Upto.refl (fun _ => False) w).alloc o) (fun _ _ => id))
 clear h hM hs
 go_enter Tryz.func148, Tryz.ntmps148
 go_wp2_with (go_at_call 136; refine (HB.out _ (HH.out _)).mono ?_; rintro e w1 ⟨rfl, hb1⟩; obtain ⟨g0, g1, g2, g3, g4⟩ := Rs.of_call hb1; have B1 := κ (aft_alloc hb1); clear hb1)
 refine bodyPost_ret (v := .agg #[.int .i64 6, .int .u32 x]) (by simp [results, Tryz.results148, go_sem, g0, g1, g4]) rfl ⟨rfl, ?_⟩
 exact ((B1.out.setCell (Nat.le_refl _) _).setCell (Nat.le_refl _) _).alloc (by simpa using B1.out.size) _
theorem rstore_4 (P : RP) (M : MM) (a v : Int) (w : World) (h : RM P M w) (hM : MOk M) (a0 : 0 ≤ a) (a1 : a < 4294967296) (v0 : 0 ≤ v) (v1 : v < 4294967296) (hs : srch M 2 a 4 = none) :
  Calls Tryz.prog 148 #[.pointer (some ⟨P.q, 0, none⟩), .int .u32 a, .int .i64 4, .int .u32 v] w fun e w' => e = .returned (.agg #[.int .i64 0, .int .u32 0]) ∧ RM P (pk M a.toNat (bts 4 v)) w' ∧ Upto P.S w w' := by
 have HB := κ (fun w h => ruse P M a 4 2 6 w h hM (.inr (.inl rfl)) a0 a1 (by omega))
 rw [show (4 : Int).toNat = 4 from rfl, hs] at HB
 simp only [stpV] at HB
 have HH := κ (fun o => h.upto ((Upto.refl (fun _ => False) w).alloc o) (fun _ _ => id))
 have p0 := (plc_in a0 a1 hs 3 (by omega) (by omega)).2
 have b0 : a < 65536 := by omega
 have b1 : a + 1 < 65536 := by omega
 have b2 : a + 2 < 65536 := by omega
 have b3 : a + 3 < 65536 := by omega
 have HI := κ h
 have HC := κ (rchange P)
 have lq := h.lq
 have lb := h.lb
 have hX : ¬ P.S w.heap.size := by
  have := h.lr; have := h.lm; have := h.lt
  rintro (h | h | h | h | h) <;> omega
 have HP := κ h
 have hpb : P.S P.b := .inr (.inl rfl)
 obtain ⟨pq, hpq⟩ : ∃ x, P.q = x := ⟨_, rfl⟩
 obtain ⟨pb, hpb'⟩ : ∃ x, P.b = x := ⟨_, rfl⟩
 rw [hpq] at lq HB HC ⊢
 rw [hpb'] at lb hpb
 have HQ := κ hpq
 have HPB := κ hpb'
 clear h hM hs p0 hpq hpb'
 go_enter Tryz.func148, Tryz.ntmps148
 go_wp2_with (go_at_call 136; refine (HB.out _ (HH.out _)).mono ?_; rintro e w0 ⟨rfl, hb1⟩; have RX0 := κ (Rs.of_call hb1); have B1 := κ (aft_alloc hb1); have HH0 := κ (HP.out.upto (Upto.of_below (S := fun _ => False) B1.out) (fun _ _ => id)); clear hb1; have q0 := HH0.out.hq0; obtain ⟨⟨u0, k0⟩, z0⟩ := HH0.out.facts a (by omega); rw [HPB.out] at k0 z0 q0; rw [HQ.out] at q0; have lq0 := Nat.lt_of_lt_of_le lq B1.out.size; have lb0 := Nat.lt_of_lt_of_le lb B1.out.size; have hY := κ (Below.size B1.out))
 have hYS : ¬ P.S w0.heap.size := by
  have := HH0.out.lq; have := HH0.out.lb; have := HH0.out.lr; have := HH0.out.lm; have := HH0.out.lt
  rintro (h | h | h | h | h) <;> omega
 have hXb : ¬ w.heap.size = pb := by omega
 have hYb : ¬ w0.heap.size = pb := by omega
 have hXY : ¬ w.heap.size = w0.heap.size := by have := RX0.out.2.2.2.2; omega
 refine wp_loop_rounds 5 ?_
 rw [rounds_succ]; go_wp2_with fail
 refine (HC.out _ _ (by omega) (by omega) _ (((HPB.out ▸ HH0.out.setB a.toNat (by omega) (v % 256)).upto ((Upto.refl (fun _ => False) _).alloc _) (fun _ _ => id)))).mono ?_
 rintro e w1 ⟨rfl, h1, o1⟩
 rw [w1_at0 _ a _ a0] at h1
 have RX1 := κ (((RX0.out.put hXb).upto ((Upto.refl (fun _ => False) _).alloc _) id).upto o1 hX)
 have RY1 := κ ((Rs.new (w0.setCell ⟨pb, a.toNat, none⟩ (.int .u8 (v % 256))) w0.heap.size (by simp)).upto o1 hYS)
 have U1 := κ (Upto.trans (((Upto.of_below B1.out).setCell (q := ⟨pb, (a).toNat, none⟩) (.inl hpb) (.int .u8 (v % 256))).alloc (.cells #[.int .i64 0, .int .u32 0] 55)) o1)
 have HH1 := κ h1
 obtain ⟨⟨u1, k1⟩, z1⟩ := h1.facts (a + 1) (by omega)
 have q1 := h1.hq0
 rw [HPB.out] at k1 z1 q1; rw [HQ.out] at q1
 clear h1 o1
 go_wp2
 rw [rounds_succ]; go_wp2_with fail
 refine (HC.out _ _ (by omega) (by omega) _ (HPB.out ▸ HH1.out.setB (a + 1).toNat (by omega) (v / 256 % 256))).mono ?_
 rintro e w2 ⟨rfl, h2, o2⟩
 rw [w1_at _ a 1 1 _ a0 rfl] at h2
 have RX2 := κ ((RX1.out.put hXb).upto o2 hX)
 have RY2 := κ ((RY1.out.put hYb).upto o2 hYS)
 have U2 := κ (Upto.trans (U1.out.setCell (q := ⟨pb, (a + 1).toNat, none⟩) (.inl hpb) (.int .u8 (v / 256 % 256))) o2)
 have HH2 := κ h2
 obtain ⟨⟨u2, k2⟩, z2⟩ := h2.facts (a + 2) (by omega)
 have q2 := h2.hq0
 rw [HPB.out] at k2 z2 q2; rw [HQ.out] at q2
 clear h2 o2
 go_wp2
 rw [rounds_succ]; go_wp2_with fail
 refine (HC.out _ _ (by omega) (by omega) _ (HPB.out ▸ HH2.out.setB (a + 2).toNat (by omega) (v / 256 / 256 % 256))).mono ?_
 rintro e w3 ⟨rfl, h3, o3⟩
 rw [w1_at _ a 2 2 _ a0 rfl] at h3
 rw [show v / 256 / 256 % 256 = v / 65536 % 256 by omega] at h3
 have RX3 := κ ((RX2.out.put hXb).upto o3 hX)
 have RY3 := κ ((RY2.out.put hYb).upto o3 hYS)
 have U3 := κ (Upto.trans (U2.out.setCell (q := ⟨pb, (a + 2).toNat, none⟩) (.inl hpb) (.int .u8 (v / 256 / 256 % 256))) o3)
 have HH3 := κ h3
 obtain ⟨⟨u3, k3⟩, z3⟩ := h3.facts (a + 3) (by omega)
 have q3 := h3.hq0
 rw [HPB.out] at k3 z3 q3; rw [HQ.out] at q3
 clear h3 o3
 go_wp2
 rw [rounds_succ]; go_wp2_with fail
 refine (HC.out _ _ (by omega) (by omega) _ (HPB.out ▸ HH3.out.setB (a + 3).toNat (by omega) (v / 256 / 256 / 256 % 256))).mono ?_
 rintro e w4 ⟨rfl, h4, o4⟩
 rw [w1_at _ a 3 3 _ a0 rfl] at h4
 rw [show v / 256 / 256 / 256 % 256 = v / 16777216 by omega] at h4
 have RX4 := κ ((RX3.out.put hXb).upto o4 hX)
 have RY4 := κ ((RY3.out.put hYb).upto o4 hYS)
 have U4 := κ (Upto.trans (U3.out.setCell (q := ⟨pb, (a + 3).toNat, none⟩) (.inl hpb) (.int .u8 (v / 256 / 256 / 256 % 256))) o4)
 have HH4 := κ h4
 obtain ⟨g0, g1, g2, g3, g4⟩ := RX4.out
 obtain ⟨f0, f1, f2, f3, f4⟩ := RY4.out
 clear h4 o4
 go_wp2
 rw [rounds_succ]; go_wp2
 refine bodyPost_ret (v := .agg #[.int .i64 0, .int .u32 0]) (by simp [results, Tryz.results148, go_sem, g0, g1, g4]) rfl ⟨rfl, ?_, ?_⟩
 ·exact HH4.out.upto (S := fun i => i = w.heap.size) (((Upto.refl (fun i => i = w.heap.size) _).setCell (q := ⟨w.heap.size, 0, none⟩) (.inl rfl) (.int .i64 0)).setCell (q := ⟨w.heap.size, 1, none⟩) (.inl rfl) (.int .u32 0)) (fun k hk h => hX (h ▸ hk))
 ·exact (U4.out.setCell (q := ⟨w.heap.size, 0, none⟩) (.inr (Nat.le_refl _)) _).setCell (q := ⟨w.heap.size, 1, none⟩) (.inr (Nat.le_refl _)) _
theorem rstore_any (P : RP) (M : MM) (a n v : Int) (w : World) (h : RM P M w) (hM : MOk M) (a0 : 0 ≤ a) (a1 : a < 4294967296) (v0 : 0 ≤ v) (v1 : v < 4294967296) :
  Calls Tryz.prog 148 #[.pointer (some ⟨P.q, 0, none⟩), .int .u32 a, .int .i64 n, .int .u32 v] w fun e w' => e = .returned (stpV 6 (sto M a n)) ∧ RM P (stm M a n v) w' ∧ Upto P.S w w' := by
 have keep : ∀ {e' : Ending}, (Calls Tryz.prog 148 #[.pointer (some ⟨P.q, 0, none⟩), .int .u32 a, .int .i64 n, .int .u32 v] w fun e w' => e = e' ∧ Below w.heap.size w w') →
   Calls Tryz.prog 148 #[.pointer (some ⟨P.q, 0, none⟩), .int .u32 a, .int .i64 n, .int .u32 v] w fun e w' => e = e' ∧ RM P M w' ∧ Upto P.S w w' := by
  intro e' hc
  exact hc.mono fun e w' ⟨he, hb⟩ => ⟨he, h.upto (Upto.of_below (S := fun _ => False) hb) (fun _ _ => id), Upto.of_below hb⟩
 unfold sto stm
 by_cases hn : n = 1 ∨ n = 2 ∨ n = 4
 ·rw [if_pos hn, if_pos hn]
  obtain ⟨o, ho⟩ : ∃ o, srch M 2 a n.toNat = o := ⟨_, rfl⟩
  rw [ho]
  rcases o with _ | x
  ·simp only [Option.isNone_none, if_true, stpV]
   rcases hn with rfl | rfl | rfl
   ·exact rstore_1 P M a v w h hM a0 a1 v0 v1 ho
   ·exact rstore_2 P M a v w h hM a0 a1 v0 v1 ho
   ·exact rstore_4 P M a v w h hM a0 a1 v0 v1 ho
  ·simp only [Option.isNone_some, Bool.false_eq_true, if_false, stpV]
   rcases hn with rfl | rfl | rfl
   ·exact keep (rstore_bad1 P M a v x w h hM a0 a1 ho)
   ·exact keep (rstore_bad2 P M a v x w h hM a0 a1 ho)
   ·exact keep (rstore_bad4 P M a v x w h hM a0 a1 ho)
 ·rw [if_neg hn, if_neg hn]
  exact keep (rstore_not P.q a n v w hn)
theorem in_ok (a n : Int) (h : 0 ≤ a ∧ 0 ≤ n ∧ a ≤ 65536 ∧ n ≤ 65536 - a) (w : World) : Calls Tryz.prog 77 #[.int .i64 a, .int .i64 n] w fun e w' => e = .returned (.bool true) ∧ w = w' := by
 obtain ⟨h1, h2, h3, h4⟩ := h
 go_enter Tryz.func77, Tryz.ntmps77
 go_wp2
 go_ret
 exact ⟨rfl, rfl⟩
theorem in_no (a n : Int) (h : ¬ (0 ≤ a ∧ 0 ≤ n ∧ a ≤ 65536 ∧ n ≤ 65536 - a)) (w : World) : Calls Tryz.prog 77 #[.int .i64 a, .int .i64 n] w fun e w' => e = .returned (.bool false) ∧ w = w' := by
 rcases (show ¬ 0 ≤ a ∨ (0 ≤ a ∧ ¬ 0 ≤ n) ∨ (0 ≤ a ∧ 0 ≤ n ∧ ¬ a ≤ 65536) ∨ (0 ≤ a ∧ 0 ≤ n ∧ a ≤ 65536 ∧ ¬ n ≤ 65536 - a) by omega) with h1 | ⟨h1, h2⟩ | ⟨h1, h2, h3⟩ | ⟨h1, h2, h3, h4⟩
 all_goals clear h
 all_goals go_enter Tryz.func77, Tryz.ntmps77
 all_goals go_wp2
 all_goals go_ret
 all_goals exact ⟨rfl, rfl⟩
end Go.Proofs.YtcjcmnnhmajocabGreat.Me
namespace Go.Proofs.YtcjcmnnhmajocabGreat.Gu
open Go.RowKit Kt
theorem u8_info : ∃ i, Tryz.prog.info? 5 = some i ∧ i.zero = some (.int .u8 0) ∧ i.size = 1 ∧ i.bytes = 1 := by
 have h : (Tryz.prog.info? 5).map (fun i => (i.zero, i.size, i.bytes)) = some (some (.int .u8 0), 1, 1) := by kernel_rfl
 obtain ⟨i, hi, hz⟩ := Option.map_eq_some_iff.1 h
 simp only [Prod.mk.injEq] at hz
 exact ⟨i, hi, hz.1, hz.2.1, hz.2.2⟩
theorem rowcells {w : World} {g : Nat} {cs : Array Value} {t : TypeId} (h : w.heap[g]? = some (.cells cs t (0, 0))) : (∀ i, w.cell? ⟨g, i, none⟩ = cs[i]?) ∧ ∀ i, w.frozen? ⟨g, i, none⟩ = false :=
 ⟨fun i => by simp [World.cell?, h], fun i => frozen_of_row w g i cs t h⟩
/-- bytes that lie in a slice -/
def Bs (us : List Int) (ao : Option Addr) (cap : Nat) (w : World) : Prop :=
 us.length ≤ cap ∧ cap ≤ maxLen ∧ (0 < us.length → ∃ b off, ao = some ⟨b, off, none⟩ ∧ b < w.heap.size ∧ ∀ j, j < us.length → w.cell? ⟨b, off + j, none⟩ = some (.int .u8 (us.getD j 0)))
theorem Bs.keep {us : List Int} {ao : Option Addr} {cap : Nat} {w w' : World} (h : Bs us ao cap w) (hb : Below w.heap.size w w') : Bs us ao cap w' := by
 obtain ⟨l, m, k⟩ := h
 refine ⟨l, m, fun hlen => ?_⟩
 obtain ⟨b, off, rfl, hb', hc⟩ := k hlen
 exact ⟨b, off, rfl, Nat.lt_of_lt_of_le hb' hb.size, fun j hj => by rw [hb.cell (p := ⟨b, off + j, none⟩) hb']; exact hc j hj⟩
end Go.Proofs.YtcjcmnnhmajocabGreat.Gu
namespace Go.Proofs.YtcjcmnnhmajocabGreat.Me
open Go.RowKit Kt
/-- bytes of a memory, from a place on -/
def rdB (M : MM) (a : Nat) (n : Nat) : List Int := (List.range n).map fun j => M.by_ (a + j)
theorem rdB_len (M : MM) (a n : Nat) : (rdB M a n).length = n := by simp [rdB]
theorem rdB_get (M : MM) (a n j : Nat) (h : j < n) : (rdB M a n).getD j 0 = M.by_ (a + j) := by simp [rdB, List.getD_eq_getElem?_getD, h]
/-- a slice of the call's own, with these bytes -/
def Own (base : Nat) (v : Value) (us : List Int) (w : World) : Prop := w.ownsRow base 5 1 v us.length (us.map (Value.int .u8))
theorem Own.mono {base base' : Nat} {v : Value} {us : List Int} {w : World} (h : Own base v us w) (hb : base' ≤ base) : Own base' v us w := by
 obtain ⟨h1, h⟩ := h
 refine ⟨h1, ?_⟩
 rcases h with h | ⟨g, cap, cur, e1, e2, e3, e4⟩
 ·exact .inl h
 ·exact .inr ⟨g, cap, cur, e1, Nat.le_trans hb e2, e3, e4⟩
theorem Own.below {base : Nat} {v : Value} {us : List Int} {w : World} (h : Own base v us w) {q : Addr} (hq : q.block < base) (u : Value) : Own base v us (w.setCell q u) := ownsRow_setCell_below h hq u
/-- append to nil, of bytes that lie in a block: a new slice -/
theorem ap_new {ops : Array Oper} {rest : List Oper} {o : Oper} {a : Act} {Q : Exit → Act → World → Prop} {w : World} (hgd : o.guard = none) (x : Operand)
  (ho : o.op = .call { callee := .builtin .append, args := #[.const (.slice none 0 0), x], argTypes := #[34, 34] })
  (us : List Int) (b off n cap : Nat) (hx : a.eval x = .slice (some ⟨b, off, none⟩) n cap) (hn : us.length = n) (hc : ∀ j, j < us.length → w.cell? ⟨b, off + j, none⟩ = some (.int .u8 (us.getD j 0))) (hb : us.length ≤ 140737488355328)
  (h : ∀ v' w', Own w.heap.size v' us w' → Below w.heap.size w w' → wpList Tryz.prog ops Q rest (a.put o.dst v') w') : wpList Tryz.prog ops Q (o :: rest) a w := by
 subst hn
 obtain ⟨i, hi, hz, hsz, hby⟩ := Gu.u8_info
 have hmx : (maxLen : Nat) = 9223372036854775807 := rfl
 refine wpList_append_own w hgd (.const (.slice none 0 0)) x 34 ho w.heap.size 5 i (.int .u8 0) 1 1 Tryz.underlying34 hi hz hsz hby rfl Nat.one_pos (.slice none 0 0) 0 [] rfl (World.ownsRow_nil w _ _ _) ⟨b, off, none⟩ us.length cap (us.map (Value.int .u8)) hx (by simp) ?_ ?_ (by omega) (by omega) (Nat.le_refl _) (fun v' w' hv hg _ => h v' w' ?_ ((Below.refl _ _).grown hg (Nat.le_refl _) (fun k hk => ?_)))
 ·intro j u hj
  rw [List.getElem?_map] at hj
  obtain ⟨z, hz, rfl⟩ := Option.map_eq_some_iff.1 hj
  have hlt := (List.getElem?_eq_some_iff.1 hz).1
  rw [Addr.add_lit, hc j hlt, List.getD_eq_getElem?_getD, hz]; rfl
 ·intro u hu
  obtain ⟨z, _, rfl⟩ := List.mem_map.1 hu
  rfl
 ·unfold Own; simpa using hv
 ·cases hk
theorem arr_facts : Tryz.prog.arrayLen 153 = 65536 ∧ Tryz.prog.underlying 153 = some (.array (Tryz.prog.arrayLen 153) (Tryz.prog.elem 153)) ∧ Tryz.prog.elem 153 = 5 ∧ ∀ w, (sizeOf 5).run Tryz.prog w = .ok 1 w := by
 refine ⟨by kernel_rfl, by kernel_rfl, by kernel_rfl, fun w => ?_⟩
 obtain ⟨i, hi, hz, hs, hb⟩ := Gu.u8_info
 simp [hi, hs, go_sem]
theorem slice_run (p a n : Nat) (k : IntKind) (w : World) (ha : a < 65536) (hn : a + n ≤ 65536) :
  (Instr.sliceAt 153 (.pointer (some ⟨p, 0, none⟩)) (some (.int k a)) (some (.int .i64 ((a : Int) + (n : Int)))) none).run Tryz.prog w = .ok (.slice (some ⟨p, a, none⟩) n (65536 - a)) w := by
 obtain ⟨f1, f2, f3, f4⟩ := arr_facts
 rw [run_sliceAt_array_lh w 153 ⟨p, 0, none⟩ f2 k .i64 a (a + n) (by omega) (by omega) (by rw [f1]; omega), f3, f4, f1]
 simp only [Result.andThen, slicedAt, Int.toNat_natCast]
 rw [show ((a : Int) + (n : Int)).toNat = a + n by omega, if_neg (by omega)]
 have e : (⟨p, 0, none⟩ : Addr).add (a * 1) = ⟨p, a, none⟩ := by rw [Addr.add_lit]; simp
 rw [e, show a + n - a = n by omega]
theorem peek_no (p : Nat) (a n : Int) (w : World) (hn : ¬ (0 ≤ a ∧ 0 ≤ n ∧ a ≤ 65536 ∧ n ≤ 65536 - a)) :
  Calls Tryz.prog 68 #[.pointer (some ⟨p, 0, none⟩), .int .i64 a, .int .i64 n] w fun e w' => e = .returned (.tuple #[.slice none 0 0, .int .i64 4]) ∧ w = w' := by
 have HI := κ (in_no a n hn)
 clear hn
 go_enter Tryz.func68, Tryz.ntmps68
 go_wp2_with (go_at_call 77; refine (HI.out _).mono ?_; rintro e w' ⟨rfl, rfl⟩)
 go_ret2
 exact ⟨rfl, rfl⟩
theorem peek_ok (p : Nat) (M : MM) (N : Int) (a n : Nat) (w : World) (h : HM p M N w) (hn : a < 65536) (hn2 : a + n ≤ 65536) :
  Calls Tryz.prog 68 #[.pointer (some ⟨p, 0, none⟩), .int .i64 (a : Int), .int .i64 (n : Int)] w fun e w' => ∃ v, e = .returned (.tuple #[v, .int .i64 0]) ∧ Own w.heap.size v (rdB M a n) w' ∧ Below w.heap.size w w' := by
 have HI := κ (in_ok (a : Int) n (by omega))
 have a0 : (a : Int) < 65536 := by omega
 have a1 : (a : Int) + n ≤ 65536 := by omega
 have a2 : a ≤ a + n := by omega
 have HC := κ (show ∀ j, j < (rdB M a n).length → w.cell? ⟨p, a + j, none⟩ = some (.int .u8 ((rdB M a n).getD j 0)) from fun j hj => by
  rw [rdB_len] at hj
  rw [rdB_get M a n j hj]; exact h.1 _ (by omega))
 have HL := κ (rdB_len M a n)
 have hr := slice_run p a n .i64 w hn hn2
 clear h hn hn2
 go_enter Tryz.func68, Tryz.ntmps68
 go_wp2_with (first
  | (go_at_call 77; refine (HI.out _).mono ?_; rintro e w' ⟨rfl, rfl⟩)
  | (at_builtin; refine ap_new rfl (.tmp 19) rfl (rdB M a n) p a n (65536 - a) rfl HL.out HC.out (by rw [HL.out]; omega) ?_; intro v w1 hv hb))
 go_ret2
 exact ⟨v, rfl, hv, hb⟩
theorem slice_end (p : Nat) (w : World) :
  (Instr.sliceAt 153 (.pointer (some ⟨p, 0, none⟩)) (some (.int .i64 65536)) (some (.int .i64 65536)) none).run Tryz.prog w = .ok (.slice (some ⟨p, 0, none⟩) 0 0) w := by
 obtain ⟨f1, f2, f3, f4⟩ := arr_facts
 rw [run_sliceAt_array_lh w 153 ⟨p, 0, none⟩ f2 .i64 .i64 65536 65536 (by omega) (by omega) (by rw [f1]; omega), f3, f4, f1]
 simp only [Result.andThen, slicedAt]
 rw [if_pos (by rfl)]
 rfl
theorem peek_end (p : Nat) (w : World) :
  Calls Tryz.prog 68 #[.pointer (some ⟨p, 0, none⟩), .int .i64 65536, .int .i64 0] w fun e w' => ∃ v, e = .returned (.tuple #[v, .int .i64 0]) ∧ Own w.heap.size v [] w' ∧ Below w.heap.size w w' := by
 have HI := κ (in_ok 65536 0 (by omega))
 have hr := slice_end p w
 go_enter Tryz.func68, Tryz.ntmps68
 go_wp2_with (first
  | (go_at_call 77; refine (HI.out _).mono ?_; rintro e w' ⟨rfl, rfl⟩)
  | (at_builtin; refine ap_new rfl (.tmp 19) rfl [] p 0 0 0 rfl rfl (fun j hj => absurd hj (by simp)) (by simp) ?_; intro v w1 hv hb))
 go_ret2
 exact ⟨v, rfl, hv, hb⟩
/-- may so many bytes be asked for there? -/
def inB (a n : Int) : Bool := decide (0 ≤ a) && decide (0 ≤ n) && decide (a ≤ 65536) && decide (n ≤ 65536 - a)
theorem inB_iff (a n : Int) : inB a n = true ↔ (0 ≤ a ∧ 0 ≤ n ∧ a ≤ 65536 ∧ n ≤ 65536 - a) := by unfold inB; simp [and_assoc]
def pekL (M : MM) (a n : Int) : List Int := if inB a n then rdB M a.toNat n.toNat else []
def inE (a n : Int) : Int := if inB a n then 0 else 4
theorem Own.nil (base : Nat) (w : World) : Own base (.slice none 0 0) [] w := World.ownsRow_nil w _ _ _
theorem peek_any (p : Nat) (M : MM) (a n : Int) (w : World) (h : HC p M w) :
  Calls Tryz.prog 68 #[.pointer (some ⟨p, 0, none⟩), .int .i64 a, .int .i64 n] w fun e w' => ∃ v, e = .returned (.tuple #[v, .int .i64 (inE a n)]) ∧ Own w.heap.size v (pekL M a n) w' ∧ Below w.heap.size w w' := by
 unfold pekL inE
 by_cases hi : inB a n = true
 ·rw [if_pos hi, if_pos hi]
  obtain ⟨h1, h2, h3, h4⟩ := (inB_iff a n).1 hi
  obtain ⟨i, rfl⟩ := Int.eq_ofNat_of_zero_le h1
  obtain ⟨k, rfl⟩ := Int.eq_ofNat_of_zero_le h2
  rw [Int.toNat_natCast, Int.toNat_natCast]
  by_cases he : i < 65536
  ·exact peek_ok p M _ i k w h he (by omega)
  ·obtain rfl : i = 65536 := by omega
   obtain rfl : k = 0 := by omega
   exact peek_end p w
 ·have hi' := hi
  rw [if_neg hi, if_neg hi]
  rw [inB_iff] at hi'
  refine (peek_no p a n w hi').mono ?_
  rintro e w' ⟨rfl, rfl⟩
  exact ⟨_, rfl, Own.nil _ _, Below.refl _ _⟩
/-- what is fetched, the stop -/
def fetL (M : MM) (a n : Int) : List Int := if 0 ≤ n ∧ n ≤ 8 then (if (srch M 4 a n.toNat).isNone then rdB M a.toNat n.toNat else []) else []
def fetS (M : MM) (a n : Int) : Option Int := if 0 ≤ n ∧ n ≤ 8 then srch M 4 a n.toNat else none
theorem fetch_no (p : Nat) (a n : Int) (w : World) (hn : n < 0 ∨ 8 < n) :
  Calls Tryz.prog 82 #[.pointer (some ⟨p, 0, none⟩), .int .u32 a, .int .i64 n] w fun e w' => e = .returned (.tuple #[.slice none 0 0, .agg #[.int .i64 0, .int .u32 0]]) ∧ Below w.heap.size w w' := by
 have b0 := Below.refl w.heap.size w
 rcases (show n < 0 ∨ (¬ n < 0 ∧ 8 < n) by omega) with h | ⟨h, h1⟩
 all_goals clear hn
 all_goals go_enter Tryz.func82, Tryz.ntmps82
 all_goals go_wp2
 all_goals refine bodyPost_ret (v := .tuple #[.slice none 0 0, .agg #[.int .i64 0, .int .u32 0]]) (by simp [results, Tryz.results82, go_sem]) rfl ⟨rfl, ?_⟩
 all_goals exact b0.alloc (Nat.le_refl _) _
theorem fetch_bad (p : Nat) (M : MM) (N a n x : Int) (w : World) (h : HM p M N w) (hM : MOk M) (a0 : 0 ≤ a) (a1 : a < 4294967296) (n0 : ¬ n < 0) (n1 : ¬ 8 < n) (hs : srch M 4 a n.toNat = some x) :
  Calls Tryz.prog 82 #[.pointer (some ⟨p, 0, none⟩), .int .u32 a, .int .i64 n] w fun e w' => e = .returned (.tuple #[.slice none 0 0, .agg #[.int .i64 4, .int .u32 x]]) ∧ Below w.heap.size w w' := by
 have HB := κ (fun w h => bad_any p M N a n 4 w h hM (.inr (.inr rfl)) a0 a1 (by omega))
 rw [hs] at HB
 simp only [srV] at HB
 have b0 := Below.refl w.heap.size w
 have HH := κ (fun o => h.upto ((Upto.refl (fun _ => False) w).alloc o) id)
 clear h hM hs
 go_enter Tryz.func82, Tryz.ntmps82
 go_wp2_with (go_at_call 111; refine (HB.out _ (HH.out _)).mono ?_; rintro e w' ⟨rfl, rfl⟩)
 refine bodyPost_ret (v := .tuple #[.slice none 0 0, .agg #[.int .i64 4, .int .u32 x]]) (by simp [results, Tryz.results82, go_sem]) rfl ⟨rfl, ?_⟩
 exact b0.alloc (Nat.le_refl _) _
theorem fetch_zero (p : Nat) (M : MM) (N a : Int) (w : World) (h : HM p M N w) (hM : MOk M) (a0 : 0 ≤ a) (a1 : a < 4294967296) :
  Calls Tryz.prog 82 #[.pointer (some ⟨p, 0, none⟩), .int .u32 a, .int .i64 0] w fun e w' => e = .returned (.tuple #[.slice none 0 0, .agg #[.int .i64 0, .int .u32 0]]) ∧ Below w.heap.size w w' := by
 have HB := κ (fun w h => bad_any p M N a 0 4 w h hM (.inr (.inr rfl)) a0 a1 (by omega))
 rw [show srch M 4 a (0 : Int).toNat = none from rfl] at HB
 simp only [srV] at HB
 have b0 := Below.refl w.heap.size w
 have HH := κ (fun o => h.upto ((Upto.refl (fun _ => False) w).alloc o) id)
 clear h hM
 go_enter Tryz.func82, Tryz.ntmps82
 go_wp2_with (go_at_call 111; refine (HB.out _ (HH.out _)).mono ?_; rintro e w' ⟨rfl, rfl⟩)
 refine bodyPost_ret (v := .tuple #[.slice none 0 0, .agg #[.int .i64 0, .int .u32 0]]) (by simp [results, Tryz.results82, go_sem]) rfl ⟨rfl, ?_⟩
 exact b0.alloc (Nat.le_refl _) _
theorem slice_run' (p : Nat) (a n : Int) (k : IntKind) (w : World) (a0 : 0 ≤ a) (n0 : 0 ≤ n) (ha : a < 65536) (hn : a + n ≤ 65536) :
  (Instr.sliceAt 153 (.pointer (some ⟨p, 0, none⟩)) (some (.int k a)) (some (.int .i64 (a + n))) none).run Tryz.prog w = .ok (.slice (some ⟨p, a.toNat, none⟩) n.toNat (65536 - a.toNat)) w := by
 obtain ⟨i, rfl⟩ := Int.eq_ofNat_of_zero_le a0
 obtain ⟨j, rfl⟩ := Int.eq_ofNat_of_zero_le n0
 exact slice_run p i j k w (by omega) (by omega)
theorem fetch_ok (p : Nat) (M : MM) (N : Int) (a n : Int) (w : World) (h : HM p M N w) (hM : MOk M) (h0 : 0 < n) (h8 : n ≤ 8) (a0 : 0 ≤ a) (ha : a < 4294967296) (hs : srch M 4 a n.toNat = none) :
  Calls Tryz.prog 82 #[.pointer (some ⟨p, 0, none⟩), .int .u32 a, .int .i64 n] w fun e w' => ∃ v, e = .returned (.tuple #[v, .agg #[.int .i64 0, .int .u32 0]]) ∧ Own w.heap.size v (rdB M a.toNat n.toNat) w' ∧ Below w.heap.size w w' := by
 have HB := κ (fun w h => bad_any p M N a n 4 w h hM (.inr (.inr rfl)) (by omega) (by omega) (by omega))
 rw [hs] at HB
 simp only [srV] at HB
 have q0 := (plc_in (by omega) (by omega) hs 0 (by omega) (by omega)).2
 have q1 := (plc_in (by omega) (by omega) hs (n - 1).toNat (by omega) (by omega)).2
 have k0 : ¬ n < 0 := by omega
 have k1 : ¬ 8 < n := by omega
 have k2 : (n == 0) = false := by rw [beq_eq_false_iff_ne]; omega
 have k3 : a < 65536 := by omega
 have k4 : a + n ≤ 65536 := by omega
 have b0 := Below.refl w.heap.size w
 have HH := κ (fun o => h.upto ((Upto.refl (fun _ => False) w).alloc o) id)
 have HC := κ (fun o => show ∀ j, j < (rdB M a.toNat n.toNat).length → (w.alloc o).cell? ⟨p, a.toNat + j, none⟩ = some (.int .u8 ((rdB M a.toNat n.toNat).getD j 0)) from fun j hj => by
  rw [rdB_len] at hj
  rw [rdB_get M a.toNat n.toNat j hj]; exact (h.upto ((Upto.refl (fun _ => False) w).alloc o) id).1 _ (by omega))
 have HL := κ (rdB_len M a.toNat n.toNat)
 have hr := slice_run' p a n .u32 (w.alloc (.cells #[.int .i64 0, .int .u32 0] 55)) (by omega) (by omega) (by omega) (by omega)
 have hp := h.2.2.2.2.2.2
 clear h hM hs q0 q1
 go_enter Tryz.func82, Tryz.ntmps82
 go_wp2_with (first
  | (go_at_call 111; refine (HB.out _ (HH.out _)).mono ?_; rintro e w' ⟨rfl, rfl⟩)
  | (at_builtin; refine ap_new rfl (.tmp 38) rfl (rdB M a.toNat n.toNat) p a.toNat n.toNat (65536 - a.toNat) rfl HL.out (HC.out _) (by rw [HL.out]; omega) ?_; intro v w1 hv hb; have R1 := κ ((Rs.new w w.heap.size rfl).upto (Upto.of_below (S := fun _ => False) hb) id); obtain ⟨g0, g1, g2, g3, g4⟩ := R1.out; have B1 := κ (aft_alloc hb); have HV := κ hv; clear hb hv))
 refine bodyPost_ret (v := .tuple #[v, .agg #[.int .i64 0, .int .u32 0]]) (by simp [results, Tryz.results82, go_sem, g0, g1, g4]) rfl ⟨v, rfl, ?_, ?_⟩
 ·exact ((HV.out.below (by simp) _).below (by simp) _).mono (by simp)
 ·exact (B1.out.setCell (Nat.le_refl _) _).setCell (Nat.le_refl _) _
theorem fetch_any (p : Nat) (M : MM) (a n : Int) (w : World) (h : HC p M w) (hM : MOk M) (a0 : 0 ≤ a) (a1 : a < 4294967296) :
  Calls Tryz.prog 82 #[.pointer (some ⟨p, 0, none⟩), .int .u32 a, .int .i64 n] w fun e w' => ∃ v, e = .returned (.tuple #[v, stpV 4 (fetS M a n)]) ∧ Own w.heap.size v (fetL M a n) w' ∧ Below w.heap.size w w' := by
 unfold fetL fetS
 by_cases hn : 0 ≤ n ∧ n ≤ 8
 ·rw [if_pos hn, if_pos hn]
  obtain ⟨o, ho⟩ : ∃ o, srch M 4 a n.toNat = o := ⟨_, rfl⟩
  rw [ho]
  rcases o with _ | x
  ·simp only [Option.isNone_none, if_true, stpV]
   by_cases h0 : n = 0
   ·subst h0
    refine (fetch_zero p M _ a w h hM a0 a1).mono ?_
    rintro e w' ⟨rfl, hb⟩
    exact ⟨_, rfl, Own.nil _ _, hb⟩
   ·exact fetch_ok p M _ a n w h hM (by omega) (by omega) a0 a1 ho
  ·simp only [Option.isNone_some, Bool.false_eq_true, if_false, stpV]
   refine (fetch_bad p M _ a n x w h hM a0 a1 (by omega) (by omega) ho).mono ?_
   rintro e w' ⟨rfl, hb⟩
   exact ⟨_, rfl, Own.nil _ _, hb⟩
 ·rw [if_neg hn, if_neg hn]
  refine (fetch_no p a n w (by omega)).mono ?_
  rintro e w' ⟨rfl, hb⟩
  exact ⟨_, rfl, Own.nil _ _, hb⟩
/-- bytes written over a memory's -/
def ovl (f : Nat → Int) : Nat → List Int → Nat → Int
 | _, [] => f
 | at_, b :: bs => ovl (upd f at_ b) (at_ + 1) bs
/-- pages changed, byte after byte -/
def chgF (M : MM) : Nat → Nat → MM
 | _, 0 => M
 | at_, k + 1 => chgF (chg M (at_ / 256)) (at_ + 1) k
theorem chgF_snoc (M : MM) (at_ k : Nat) : chgF M at_ (k + 1) = chg (chgF M at_ k) ((at_ + k) / 256) := by
 induction k generalizing M at_ with
 | zero => rfl
 | succ k ih =>
  show chgF (chg M (at_ / 256)) (at_ + 1) (k + 1) = _
  rw [ih]
  show _ = chg (chgF (chg M (at_ / 256)) (at_ + 1) k) _
  rw [show at_ + 1 + k = at_ + (k + 1) by omega]
theorem pk_split (M : MM) (at_ : Nat) (us : List Int) : pk M at_ us = chgF { M with by_ := ovl M.by_ at_ us } at_ us.length := by
 induction us generalizing M at_ with
 | nil => rfl
 | cons b bs ih =>
  show pk (chg { M with by_ := upd M.by_ at_ b } (at_ / 256)) (at_ + 1) bs = chgF (chg { M with by_ := ovl (upd M.by_ at_ b) (at_ + 1) bs } (at_ / 256)) (at_ + 1) bs.length
  rw [ih]
  congr 1
  exact (by unfold chg; split <;> rfl)
theorem HC.setCells {p : Nat} {W : World} (us : List Int) : ∀ (M : MM) (at_ : Nat) (W : World), HC p M W → at_ + us.length ≤ 65536 → HC p { M with by_ := ovl M.by_ at_ us } (W.setCells p at_ (us.map (Value.int .u8))) := by
 induction us with
 | nil => exact fun M at_ W h _ => h
 | cons b bs ih =>
  intro M at_ W h hl
  rw [List.length_cons] at hl
  exact ih { M with by_ := upd M.by_ at_ b } (at_ + 1) _ (h.put at_ (by omega) b) (by omega)
theorem Upto.setCells {S : Nat → Prop} {a : World} {p : Nat} (hp : S p) (us : List Value) : ∀ (w : World) (at_ : Nat), Upto S a w → Upto S a (w.setCells p at_ us) := by
 induction us with
 | nil => exact fun w at_ h => h
 | cons b bs ih => exact fun w at_ h => ih _ _ (h.setCell (q := ⟨p, at_, none⟩) (.inl hp) b)
theorem slice_run_l (p : Nat) (a : Int) (w : World) (a0 : 0 ≤ a) (ha : a < 65536) :
  (Instr.sliceAt 153 (.pointer (some ⟨p, 0, none⟩)) (some (.int .i64 a)) none none).run Tryz.prog w = .ok (.slice (some ⟨p, a.toNat, none⟩) (65536 - a.toNat) (65536 - a.toNat)) w := by
 obtain ⟨f1, f2, f3, f4⟩ := arr_facts
 rw [run_sliceAt_array_l w 153 ⟨p, 0, none⟩ f2 .i64 a (by omega) (by rw [f1]; omega), f3, f4, f1]
 simp only [Result.andThen, slicedAt]
 rw [if_neg (by omega)]
 have e : (⟨p, 0, none⟩ : Addr).add (a.toNat * 1) = ⟨p, a.toNat, none⟩ := by rw [Addr.add_lit]; simp
 rw [e]
theorem copy_run (p a : Nat) (us : List Int) (b off cap : Nat) (M : MM) (w : World) (h : HC p M w) (ha : a + us.length ≤ 65536) (hc : ∀ j, j < us.length → w.cell? ⟨b, off + j, none⟩ = some (.int .u8 (us.getD j 0))) :
  (Builtin.copy_ #[34, 34] 3 #[.slice (some ⟨p, a, none⟩) (65536 - a) (65536 - a), .slice (some ⟨b, off, none⟩) us.length cap]).run Tryz.prog w = .ok (goInt us.length) (w.setCells p a (us.map (Value.int .u8))) := by
 have hs : (Tryz.prog.info? 5).map (·.size) = some 1 := by
  obtain ⟨i, hi, hz, hs, hb⟩ := Gu.u8_info
  rw [hi, Option.map_some, hs]
 have hr := run_copy_cells (P := Tryz.prog) w 34 34 3 5 p a (65536 - a) (65536 - a) ⟨b, off, none⟩ us.length cap (us.map (Value.int .u8)) Tryz.underlying34 hs
  (by rw [List.length_map]; exact (Nat.min_eq_left (by omega)).symm) (fun j v hj => ?_) (fun j hj => ?_) (fun j hj => h.2.2.2.2.2.1 _) (fun v hv => ?_)
 ·rw [List.length_map] at hr; exact hr
 ·rw [List.getElem?_map] at hj
  obtain ⟨z, hz, rfl⟩ := Option.map_eq_some_iff.1 hj
  have hlt := (List.getElem?_eq_some_iff.1 hz).1
  rw [Addr.add_lit, hc j hlt, List.getD_eq_getElem?_getD, hz]; rfl
 ·rw [List.length_map] at hj
  rw [h.1 (a + j) (by omega)]; rfl
 ·obtain ⟨z, _, rfl⟩ := List.mem_map.1 hv
  rfl
theorem poke_no (p : Nat) (a : Int) (ao : Option Addr) (n cap : Nat) (w : World) (hn : ¬ (0 ≤ a ∧ 0 ≤ (n : Int) ∧ a ≤ 65536 ∧ (n : Int) ≤ 65536 - a)) :
  Calls Tryz.prog 47 #[.pointer (some ⟨p, 0, none⟩), .int .i64 a, .slice ao n cap] w fun e w' => e = .returned (.int .i64 4) ∧ w = w' := by
 have HI := κ (in_no a n hn)
 clear hn
 go_enter Tryz.func47, Tryz.ntmps47
 go_wp2_with (go_at_call 77; refine (HI.out _).mono ?_; rintro e w' ⟨rfl, rfl⟩)
 go_ret
 exact ⟨rfl, rfl⟩
theorem poke_ok (p : Nat) (M : MM) (a : Int) (us : List Int) (b off cap : Nat) (w : World) (h : HC p M w) (a0 : 0 ≤ a) (ha : a < 65536) (hn : a + us.length ≤ 65536) (h0 : 0 < us.length)
  (hc : ∀ j, j < us.length → w.cell? ⟨b, off + j, none⟩ = some (.int .u8 (us.getD j 0))) :
  Calls Tryz.prog 47 #[.pointer (some ⟨p, 0, none⟩), .int .i64 a, .slice (some ⟨b, off, none⟩) us.length cap] w fun e w' => e = .returned (.int .i64 0) ∧ HC p (pk M a.toNat us) w' ∧ Upto (fun i => i = p) w w' := by
 have HI := κ (in_ok a us.length (by omega))
 have hs := slice_run_l p a w a0 ha
 have hcp := copy_run p a.toNat us b off cap M w h (by omega) hc
 have H1 := κ (HC.setCells (W := w) us M a.toNat w h (by omega))
 have U1 := κ (Upto.setCells (S := fun i => i = p) rfl (us.map (Value.int .u8)) w a.toNat (Upto.refl _ w))
 rw [pk_split]
 obtain ⟨L, hL⟩ : ∃ L, us.length = L := ⟨_, rfl⟩
 rw [hL] at hcp hn HI h0 ⊢
 generalize w.setCells p a.toNat (us.map (Value.int .u8)) = W1 at hcp H1 U1
 generalize ({ M with by_ := ovl M.by_ a.toNat us } : MM) = M1 at H1 ⊢
 clear hL hc h
 go_enter Tryz.func47, Tryz.ntmps47
 go_wp2_with (go_at_call 77; refine (HI.out _).mono ?_; rintro e w' ⟨rfl, rfl⟩)
 go_loopg [22] L (fun g i wr => ∃ k : Nat, g = L - k ∧ k ≤ L ∧ i = .int .i64 k ∧ Hid (HC p (chgF M1 a.toNat k) wr) ∧ Hid (Upto (fun i => i = p) w wr))
 case atStart => exact ⟨0, rfl, Nat.zero_le _, rfl, H1, U1⟩
 case round =>
  obtain ⟨k, hg, hk, rfl, HR, UR⟩ := hrel
  by_cases hlt : k < L
  ·have hlt' : (k : Int) < (L : Int) := by omega
   have e0 : 0 ≤ (a + (k : Int)) / 256 := by omega
   have e1 : (a + (k : Int)) / 256 < 256 := by omega
   have e2 : a + (k : Int) < 65536 := by omega
   go_wp2_with (go_at_call 78; refine (change_c p _ _ e0 e1 _ HR.out).mono ?_; rintro e w2 ⟨rfl, h2, o2⟩)
   go_roundg (L - (k + 1))
   case measure => omega
   case rel =>
    refine ⟨k + 1, rfl, by omega, by simp, ?_, Upto.trans UR.out o2⟩
    have e3 : ((a + (k : Int)) / 256).toNat = (a.toNat + k) / 256 := by omega
    rw [e3] at h2
    exact (chgF_snoc M1 a.toNat k) ▸ h2
  ·obtain rfl : k = L := by omega
   go_wp2
   go_ret
   exact ⟨rfl, HR.out, UR.out⟩
theorem poke_zero (p : Nat) (a : Int) (ao : Option Addr) (cap : Nat) (w : World) (a0 : 0 ≤ a) (ha : a ≤ 65536) :
  Calls Tryz.prog 47 #[.pointer (some ⟨p, 0, none⟩), .int .i64 a, .slice ao 0 cap] w fun e w' => e = .returned (.int .i64 0) ∧ w = w' := by
 have HI := κ (in_ok a 0 (by omega))
 have hs2 : (Tryz.prog.info? 5).map (·.size) = some 1 := by
  obtain ⟨i, hi, hz, hs, hb⟩ := Gu.u8_info
  rw [hi, Option.map_some, hs]
 have hcn := fun d dl dc => run_copy_none (P := Tryz.prog) w 34 34 3 5 d ao dl dc 0 cap Tryz.underlying34 hs2 (Nat.zero_min _)
 by_cases he : a < 65536
 ·have hs := slice_run_l p a w a0 he
  have hcn' := hcn (some ⟨p, a.toNat, none⟩) (65536 - a.toNat) (65536 - a.toNat)
  clear hcn hs2
  go_enter Tryz.func47, Tryz.ntmps47
  go_wp2_with (go_at_call 77; refine (HI.out _).mono ?_; rintro e w' ⟨rfl, rfl⟩)
  refine wp_loop_rounds 1 ?_
  rw [rounds_succ]; go_wp2
  go_ret
  exact ⟨rfl, rfl⟩
 ·obtain rfl : a = 65536 := by omega
  have hcn' := hcn (some ⟨p, 0, none⟩) 0 0
  have hs : (Instr.sliceAt 153 (.pointer (some ⟨p, 0, none⟩)) (some (.int .i64 65536)) none none).run Tryz.prog w = .ok (.slice (some ⟨p, 0, none⟩) 0 0) w := by
   obtain ⟨f1, f2, f3, f4⟩ := arr_facts
   rw [run_sliceAt_array_l w 153 ⟨p, 0, none⟩ f2 .i64 65536 (by omega) (by rw [f1]; omega), f3, f4, f1]
   simp only [Result.andThen, slicedAt]
   rw [if_pos (by rfl)]
   rfl
  clear hcn hs2
  go_enter Tryz.func47, Tryz.ntmps47
  go_wp2_with (go_at_call 77; refine (HI.out _).mono ?_; rintro e w' ⟨rfl, rfl⟩)
  refine wp_loop_rounds 1 ?_
  rw [rounds_succ]; go_wp2
  go_ret
  exact ⟨rfl, rfl⟩
/-- what is written -/
def pok (M : MM) (a : Int) (us : List Int) : MM := if inB a us.length then pk M a.toNat us else M
theorem poke_any (p : Nat) (M : MM) (a : Int) (us : List Int) (ao : Option Addr) (cap : Nat) (w : World) (h : HC p M w) (hB : Gu.Bs us ao cap w) :
  Calls Tryz.prog 47 #[.pointer (some ⟨p, 0, none⟩), .int .i64 a, .slice ao us.length cap] w fun e w' => e = .returned (.int .i64 (inE a us.length)) ∧ HC p (pok M a us) w' ∧ Upto (fun i => i = p) w w' := by
 unfold pok inE
 by_cases hi : inB a us.length = true
 ·rw [if_pos hi, if_pos hi]
  obtain ⟨h1, h2, h3, h4⟩ := (inB_iff _ _).1 hi
  by_cases h0 : us.length = 0
  ·obtain rfl : us = [] := List.length_eq_zero_iff.1 h0
   refine (poke_zero p a ao cap w h1 h3).mono ?_
   rintro e w' ⟨rfl, rfl⟩
   exact ⟨rfl, h, Upto.refl _ _⟩
  ·obtain ⟨b, off, rfl, hb, hc⟩ := hB.2.2 (by omega)
   exact poke_ok p M a us b off cap w h h1 (by omega) (by omega) (by omega) hc
 ·have hi' := hi
  rw [if_neg hi, if_neg hi]
  rw [inB_iff] at hi'
  refine (poke_no p a ao us.length cap w hi').mono ?_
  rintro e w' ⟨rfl, rfl⟩
  exact ⟨rfl, h, Upto.refl _ _⟩
end Go.Proofs.YtcjcmnnhmajocabGreat.Me
