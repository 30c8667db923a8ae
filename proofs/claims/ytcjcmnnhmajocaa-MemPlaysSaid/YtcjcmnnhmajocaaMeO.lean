/- crossgrainref2.Memory.Load. -/
import Derived.Test.YtcjcmnnhmajocaaMeN
import Derived.RegionTactic
import Derived.BigRegion
namespace Go.Proofs.Ytcjcmnnhmajocaa.Me
open Go.RowKit Kt
set_option linter.unusedVariables false
set_option linter.unusedSimpArgs false
theorem aft_alloc {w w1 : World} {ob : Obj} (hb : Below (w.alloc ob).heap.size (w.alloc ob) w1) : Below w.heap.size w w1 := ((Below.refl _ _).alloc (Nat.le_refl _) _).trans (hb.mono (by simp))
theorem Rs.of_call {w w1 : World} (hb : Below (w.alloc (.cells #[.int .i64 0, .int .u32 0] 131)).heap.size (w.alloc (.cells #[.int .i64 0, .int .u32 0] 131)) w1) : Rs w.heap.size w1 :=
  (Rs.new w w.heap.size rfl).upto (Upto.of_below (S := fun _ => False) hb) id
theorem ret_ld {a b : Int} {v : Value} (h : a = b) : Ending.returned (.tuple #[.int .u32 a, v]) = .returned (.tuple #[.int .u32 b, v]) := by rw [h]
set_option maxRecDepth 100000 in
set_option maxHeartbeats 2000000 in
theorem rload_bad (P : RP) (M : MM) (a n x : Int) (w : World) (h : RM P M w) (hM : MOk M) (a0 : 0 ≤ a) (a1 : a < 4294967296) (n1 : n < 9223372036854775808) (hs : srch M 1 a n.toNat = some x) :
    Calls Try.prog 75 #[.pointer (some ⟨P.q, 0, none⟩), .int .u32 a, .int .i64 n] w fun e w' => e = .returned (.tuple #[.int .u32 0, .agg #[.int .i64 5, .int .u32 x]]) ∧ Below w.heap.size w w' := by
  have HB := Lib.hid (fun w h => ruse P M a n 1 5 w h hM (.inl rfl) a0 a1 n1)
  rw [hs] at HB
  simp only [stpV] at HB
  have HH := Lib.hid (fun o => h.upto ((Upto.refl (fun _ => False) w).alloc o) (fun _ _ => id))
  clear h hM hs
  go_enter Try.func75, Try.ntmps75
  go_wp2_with (go_at_call 118; refine (HB.out _ (HH.out _)).mono ?_; rintro e w1 ⟨rfl, hb1⟩; obtain ⟨g0, g1, g2, g3, g4⟩ := Rs.of_call hb1; have B1 := Lib.hid (aft_alloc hb1); clear hb1)
  go_region
  go_wp2
  refine bodyPost_ret (v := .tuple #[.int .u32 0, .agg #[.int .i64 5, .int .u32 x]]) (by simp [results, Try.results75, go_sem, g0, g1, g4]) rfl ⟨rfl, ?_⟩
  exact (((B1.out.setCell (Nat.le_refl _) _).setCell (Nat.le_refl _) _).alloc (by simpa using B1.out.size) _).drew
set_option maxRecDepth 100000 in
set_option maxHeartbeats 2000000 in
theorem rload_none (P : RP) (M : MM) (a n : Int) (w : World) (h : RM P M w) (hM : MOk M) (a0 : 0 ≤ a) (a1 : a < 4294967296) (n1 : n < 9223372036854775808) (hs : srch M 1 a n.toNat = none) (hn : ¬ (n = 1 ∨ n = 2 ∨ n = 4)) :
    Calls Try.prog 75 #[.pointer (some ⟨P.q, 0, none⟩), .int .u32 a, .int .i64 n] w fun e w' => e = .returned (.tuple #[.int .u32 0, .agg #[.int .i64 0, .int .u32 0]]) ∧ Below w.heap.size w w' := by
  have HB := Lib.hid (fun w h => ruse P M a n 1 5 w h hM (.inl rfl) a0 a1 n1)
  rw [hs] at HB
  simp only [stpV] at HB
  have HH := Lib.hid (fun o => h.upto ((Upto.refl (fun _ => False) w).alloc o) (fun _ _ => id))
  have e1 : (n != 1) = true := by rw [bne_iff_ne]; omega
  have e2 : (n != 2) = true := by rw [bne_iff_ne]; omega
  have e4 : (n != 4) = true := by rw [bne_iff_ne]; omega
  clear h hM hs hn
  go_enter Try.func75, Try.ntmps75
  go_wp2_with (go_at_call 118; refine (HB.out _ (HH.out _)).mono ?_; rintro e w1 ⟨rfl, hb1⟩; obtain ⟨g0, g1, g2, g3, g4⟩ := Rs.of_call hb1; have B1 := Lib.hid (aft_alloc hb1); clear hb1)
  go_region
  go_wp2
  refine bodyPost_ret (v := .tuple #[.int .u32 0, .agg #[.int .i64 0, .int .u32 0]]) (by simp [results, Try.results75, go_sem, g0, g1, g4]) rfl ⟨rfl, ?_⟩
  exact (((B1.out.setCell (Nat.le_refl _) _).setCell (Nat.le_refl _) _).alloc (by simpa using B1.out.size) _).drew
set_option maxRecDepth 100000 in
set_option maxHeartbeats 2000000 in
theorem rload_1 (P : RP) (M : MM) (a : Int) (w : World) (h : RM P M w) (hM : MOk M) (a0 : 0 ≤ a) (a1 : a < 4294967296) (hs : srch M 1 a 1 = none) :
    Calls Try.prog 75 #[.pointer (some ⟨P.q, 0, none⟩), .int .u32 a, .int .i64 1] w fun e w' => e = .returned (.tuple #[.int .u32 (byt M a 0), .agg #[.int .i64 0, .int .u32 0]]) ∧ Below w.heap.size w w' := by
  have HB := Lib.hid (fun w h => ruse P M a 1 1 5 w h hM (.inl rfl) a0 a1 (by omega))
  rw [show (1 : Int).toNat = 1 from rfl, hs] at HB
  simp only [stpV] at HB
  have HH := Lib.hid (fun o => h.upto ((Upto.refl (fun _ => False) w).alloc o) (fun _ _ => id))
  have p0 := (plc_in a0 a1 hs 0 (by omega) (by omega)).2
  have q0 := h.hq0
  have lq := h.lq
  have lb := h.lb
  unfold byt
  rw [Nat.add_zero]
  have b1 : a < 65536 := by omega
  have c0 := h.hb a.toNat (by omega)
  have r0 := hM.1 a.toNat
  generalize M.by_ a.toNat = y0 at c0 r0 ⊢
  obtain ⟨r0a, r0b⟩ := r0
  obtain ⟨pq, pb, pr, pm, pt⟩ := P
  simp only at q0 lq lb c0 HB HH
  clear h hM hs p0
  go_enter Try.func75, Try.ntmps75
  go_wp2_with (go_at_call 118; refine (HB.out _ (HH.out _)).mono ?_; rintro e w1 ⟨rfl, hb1⟩; obtain ⟨g0, g1, g2, g3, g4⟩ := Rs.of_call hb1; have B1 := Lib.hid (aft_alloc hb1); have q0' := (B1.out.cell (p := ⟨pq, 0, none⟩) lq).trans q0; have c0' := (B1.out.cell (p := ⟨pb, a.toNat, none⟩) lb).trans c0; have lq' := Nat.lt_of_lt_of_le lq B1.out.size; have lb' := Nat.lt_of_lt_of_le lb B1.out.size; clear hb1)
  refine wp_loop_rounds 2 ?_
  rw [rounds_succ]; go_wp2
  rw [rounds_succ]; go_wp2
  go_region
  go_wp2
  refine bodyPost_ret (v := .tuple #[.int .u32 (y0), .agg #[.int .i64 0, .int .u32 0]]) (by simp [results, Try.results75, go_sem, g0, g1, g4]) rfl ⟨ret_ld (by omega), ?_⟩
  exact (((B1.out.setCell (Nat.le_refl _) _).setCell (Nat.le_refl _) _).alloc (by simpa using B1.out.size) _).drew
set_option maxRecDepth 100000 in
set_option maxHeartbeats 2000000 in
theorem rload_2 (P : RP) (M : MM) (a : Int) (w : World) (h : RM P M w) (hM : MOk M) (a0 : 0 ≤ a) (a1 : a < 4294967296) (hs : srch M 1 a 2 = none) :
    Calls Try.prog 75 #[.pointer (some ⟨P.q, 0, none⟩), .int .u32 a, .int .i64 2] w fun e w' => e = .returned (.tuple #[.int .u32 (byt M a 0 + byt M a 1 * 256), .agg #[.int .i64 0, .int .u32 0]]) ∧ Below w.heap.size w w' := by
  have HB := Lib.hid (fun w h => ruse P M a 2 1 5 w h hM (.inl rfl) a0 a1 (by omega))
  rw [show (2 : Int).toNat = 2 from rfl, hs] at HB
  simp only [stpV] at HB
  have HH := Lib.hid (fun o => h.upto ((Upto.refl (fun _ => False) w).alloc o) (fun _ _ => id))
  have p0 := (plc_in a0 a1 hs 1 (by omega) (by omega)).2
  have q0 := h.hq0
  have lq := h.lq
  have lb := h.lb
  unfold byt
  rw [Nat.add_zero]
  have b1 : a < 65536 := by omega
  have b2 : a + 1 < 65536 := by omega
  have c0 := h.hb a.toNat (by omega)
  have r0 := hM.1 a.toNat
  have c1 := h.hb (a.toNat + 1) (by omega)
  have r1 := hM.1 (a.toNat + 1)
  rw [show a.toNat + 1 = (a + 1).toNat by omega] at c1 r1
  generalize M.by_ a.toNat = y0 at c0 r0 ⊢
  rw [show a.toNat + 1 = (a + 1).toNat by omega]
  generalize M.by_ (a + 1).toNat = y1 at c1 r1 ⊢
  obtain ⟨r0a, r0b⟩ := r0
  obtain ⟨r1a, r1b⟩ := r1
  obtain ⟨pq, pb, pr, pm, pt⟩ := P
  simp only at q0 lq lb c0 c1 HB HH
  clear h hM hs p0
  go_enter Try.func75, Try.ntmps75
  go_wp2_with (go_at_call 118; refine (HB.out _ (HH.out _)).mono ?_; rintro e w1 ⟨rfl, hb1⟩; obtain ⟨g0, g1, g2, g3, g4⟩ := Rs.of_call hb1; have B1 := Lib.hid (aft_alloc hb1); have q0' := (B1.out.cell (p := ⟨pq, 0, none⟩) lq).trans q0; have c0' := (B1.out.cell (p := ⟨pb, a.toNat, none⟩) lb).trans c0; have c1' := (B1.out.cell (p := ⟨pb, (a + 1).toNat, none⟩) lb).trans c1; have lq' := Nat.lt_of_lt_of_le lq B1.out.size; have lb' := Nat.lt_of_lt_of_le lb B1.out.size; clear hb1)
  refine wp_loop_rounds 3 ?_
  rw [rounds_succ]; go_wp2
  rw [rounds_succ]; go_wp2
  rw [rounds_succ]; go_wp2
  go_region
  go_wp2
  refine bodyPost_ret (v := .tuple #[.int .u32 (y1 * 256 + y0), .agg #[.int .i64 0, .int .u32 0]]) (by simp [results, Try.results75, go_sem, g0, g1, g4]) rfl ⟨ret_ld (by omega), ?_⟩
  exact (((B1.out.setCell (Nat.le_refl _) _).setCell (Nat.le_refl _) _).alloc (by simpa using B1.out.size) _).drew
set_option maxRecDepth 100000 in
set_option maxHeartbeats 2000000 in
theorem rload_4 (P : RP) (M : MM) (a : Int) (w : World) (h : RM P M w) (hM : MOk M) (a0 : 0 ≤ a) (a1 : a < 4294967296) (hs : srch M 1 a 4 = none) :
    Calls Try.prog 75 #[.pointer (some ⟨P.q, 0, none⟩), .int .u32 a, .int .i64 4] w fun e w' => e = .returned (.tuple #[.int .u32 (byt M a 0 + byt M a 1 * 256 + byt M a 2 * 65536 + byt M a 3 * 16777216), .agg #[.int .i64 0, .int .u32 0]]) ∧ Below w.heap.size w w' := by
  have HB := Lib.hid (fun w h => ruse P M a 4 1 5 w h hM (.inl rfl) a0 a1 (by omega))
  rw [show (4 : Int).toNat = 4 from rfl, hs] at HB
  simp only [stpV] at HB
  have HH := Lib.hid (fun o => h.upto ((Upto.refl (fun _ => False) w).alloc o) (fun _ _ => id))
  have p0 := (plc_in a0 a1 hs 3 (by omega) (by omega)).2
  have q0 := h.hq0
  have lq := h.lq
  have lb := h.lb
  unfold byt
  rw [Nat.add_zero]
  have b1 : a < 65536 := by omega
  have b2 : a + 1 < 65536 := by omega
  have b3 : a + 2 < 65536 := by omega
  have b4 : a + 3 < 65536 := by omega
  have c0 := h.hb a.toNat (by omega)
  have r0 := hM.1 a.toNat
  have c1 := h.hb (a.toNat + 1) (by omega)
  have r1 := hM.1 (a.toNat + 1)
  rw [show a.toNat + 1 = (a + 1).toNat by omega] at c1 r1
  have c2 := h.hb (a.toNat + 2) (by omega)
  have r2 := hM.1 (a.toNat + 2)
  rw [show a.toNat + 2 = (a + 2).toNat by omega] at c2 r2
  have c3 := h.hb (a.toNat + 3) (by omega)
  have r3 := hM.1 (a.toNat + 3)
  rw [show a.toNat + 3 = (a + 3).toNat by omega] at c3 r3
  generalize M.by_ a.toNat = y0 at c0 r0 ⊢
  rw [show a.toNat + 1 = (a + 1).toNat by omega]
  generalize M.by_ (a + 1).toNat = y1 at c1 r1 ⊢
  rw [show a.toNat + 2 = (a + 2).toNat by omega]
  generalize M.by_ (a + 2).toNat = y2 at c2 r2 ⊢
  rw [show a.toNat + 3 = (a + 3).toNat by omega]
  generalize M.by_ (a + 3).toNat = y3 at c3 r3 ⊢
  obtain ⟨r0a, r0b⟩ := r0
  obtain ⟨r1a, r1b⟩ := r1
  obtain ⟨r2a, r2b⟩ := r2
  obtain ⟨r3a, r3b⟩ := r3
  obtain ⟨pq, pb, pr, pm, pt⟩ := P
  simp only at q0 lq lb c0 c1 c2 c3 HB HH
  clear h hM hs p0
  go_enter Try.func75, Try.ntmps75
  go_wp2_with (go_at_call 118; refine (HB.out _ (HH.out _)).mono ?_; rintro e w1 ⟨rfl, hb1⟩; obtain ⟨g0, g1, g2, g3, g4⟩ := Rs.of_call hb1; have B1 := Lib.hid (aft_alloc hb1); have q0' := (B1.out.cell (p := ⟨pq, 0, none⟩) lq).trans q0; have c0' := (B1.out.cell (p := ⟨pb, a.toNat, none⟩) lb).trans c0; have c1' := (B1.out.cell (p := ⟨pb, (a + 1).toNat, none⟩) lb).trans c1; have c2' := (B1.out.cell (p := ⟨pb, (a + 2).toNat, none⟩) lb).trans c2; have c3' := (B1.out.cell (p := ⟨pb, (a + 3).toNat, none⟩) lb).trans c3; have lq' := Nat.lt_of_lt_of_le lq B1.out.size; have lb' := Nat.lt_of_lt_of_le lb B1.out.size; clear hb1)
  refine wp_loop_rounds 5 ?_
  rw [rounds_succ]; go_wp2
  rw [rounds_succ]; go_wp2
  rw [rounds_succ]; go_wp2
  rw [rounds_succ]; go_wp2
  rw [rounds_succ]; go_wp2
  go_region
  go_wp2
  refine bodyPost_ret (v := .tuple #[.int .u32 (((y3 * 256 + y2) * 256 + y1) * 256 + y0), .agg #[.int .i64 0, .int .u32 0]]) (by simp [results, Try.results75, go_sem, g0, g1, g4]) rfl ⟨ret_ld (by omega), ?_⟩
  exact (((B1.out.setCell (Nat.le_refl _) _).setCell (Nat.le_refl _) _).alloc (by simpa using B1.out.size) _).drew
theorem rload_any (P : RP) (M : MM) (a n : Int) (w : World) (h : RM P M w) (hM : MOk M) (a0 : 0 ≤ a) (a1 : a < 4294967296) (n1 : n < 9223372036854775808) :
    Calls Try.prog 75 #[.pointer (some ⟨P.q, 0, none⟩), .int .u32 a, .int .i64 n] w fun e w' => e = .returned (.tuple #[.int .u32 (ldv M a n), stpV 5 (srch M 1 a n.toNat)]) ∧ Below w.heap.size w w' := by
  unfold ldv
  obtain ⟨o, ho⟩ : ∃ o, srch M 1 a n.toNat = o := ⟨_, rfl⟩
  rw [ho]
  rcases o with _ | x
  · simp only [Option.isNone_none, if_true, stpV]
    by_cases e1 : n = 1
    · subst e1; rw [if_pos rfl]; exact rload_1 P M a w h hM a0 a1 ho
    · rw [if_neg e1]
      by_cases e2 : n = 2
      · subst e2; rw [if_pos rfl]; exact rload_2 P M a w h hM a0 a1 ho
      · rw [if_neg e2]
        by_cases e4 : n = 4
        · subst e4; rw [if_pos rfl]; exact rload_4 P M a w h hM a0 a1 ho
        · rw [if_neg e4]
          exact rload_none P M a n w h hM a0 a1 n1 ho (by omega)
  · simp only [Option.isNone_some, Bool.false_eq_true, if_false, stpV]
    exact rload_bad P M a n x w h hM a0 a1 n1 ho
end Go.Proofs.Ytcjcmnnhmajocaa.Me
