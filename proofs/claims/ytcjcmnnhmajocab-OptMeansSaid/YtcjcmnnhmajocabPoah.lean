/- crossgrainref2.Memory.Store. -/
import Derived.RegionTactic
import Derived.BigRegion
import Derived.Test.YtcjcmnnhmajocabPoae
import Derived.Test.YtcjcmnnhmajocabPoag
namespace Go.Proofs.Ytcjcmnnhmajocab.Me
open Go.RowKit Kt
set_option linter.unusedVariables false
set_option linter.unusedSimpArgs false
set_option maxRecDepth 100000 in
set_option maxHeartbeats 2000000 in
theorem ruse (P : RP) (M : MM) (a n r kind : Int) (w : World) (h : RM P M w) (hM : MOk M) (hr : r = 1 ∨ r = 2 ∨ r = 4) (a0 : 0 ≤ a) (a1 : a < 4294967296) (n1 : n < 9223372036854775808) :
    Calls Try.prog 162 #[.pointer (some ⟨P.q, 0, none⟩), .int .u32 a, .int .i64 n, .int .i64 r, .int .i64 kind] w fun e w' => e = .returned (stpV kind (srch M r a n.toNat)) ∧ Below w.heap.size w w' := by
  have q1 := h.hq1
  have HH := Lib.hid h
  have HM' := Lib.hid hM
  have HR := Lib.hid hr
  have r0 : 0 < r := by omega
  have r1 : r ≤ 4 := by omega
  have rn : (r == 0) = false := by rw [beq_eq_false_iff_ne]; omega
  have lq := h.lq
  have lr := h.lr
  have b0 := Lib.hid (fun o => (Below.refl w.heap.size w).alloc (Nat.le_refl _) o)
  obtain ⟨pq, pb, pr, pm, pt⟩ := P
  simp only at q1 lq lr
  clear h hM hr
  go_enter Try.func162, Try.ntmps162
  go_wp2
  go_loopg [11] n.toNat (fun g i wr => ∃ k : Nat, g = n.toNat - k ∧ k ≤ n.toNat ∧ i = .int .i64 k ∧ Hid (∀ j, j < k → useB M r (plc a j) = true) ∧ wr = w.alloc (.cells #[.int .i64 0, .int .u32 0] 46))
  case atStart => exact ⟨0, rfl, Nat.zero_le _, rfl, fun j hj => absurd hj (by omega), rfl⟩
  case round =>
    obtain ⟨k, hg, hk, rfl, hA, rfl⟩ := hrel
    by_cases hlt : k < n.toNat
    · have hlt' : (k : Int) < n := by omega
      have k0 : (0 : Int) ≤ (k : Int) := by omega
      have hx := plc_bd a k
      have ex : (a + (k : Int) % 4294967296) % 4294967296 = plc a k := by unfold plc; omega
      obtain ⟨x0, x1⟩ := hx
      obtain ⟨x, hxx⟩ : ∃ x, plc a k = x := ⟨_, rfl⟩
      rw [hxx] at x0 x1 ex
      have HX := Lib.hid hxx
      clear hxx
      by_cases hm : 65535 < x
      · go_wp2
        refine bodyPost_ret (v := .agg #[.int .i64 kind, .int .u32 x]) (by simp [results, Try.results162, go_sem]) rfl ⟨?_, ?_⟩
        · have hu2' : useB M r x = false := by unfold useB; rw [decide_eq_false (by omega)]; rfl
          rw [srch_some k hlt hA (by rw [HX.out]; exact hu2'), HX.out]; rfl
        · exact b0.out _
      · have hm' : x ≤ 65535 := by omega
        have q0 : (x / 256).toNat < 256 := by omega
        have c2 := HH.out.hr (x / 256).toNat q0
        have hu2 : useB M r x = decide (M.rt (x / 256).toNat / r % 2 = 1) := by
          unfold useB; rw [decide_eq_true (show x < 65536 by omega)]; rfl
        simp only at c2
        have yb := HM'.out.2 (x / 256).toNat
        generalize M.rt (x / 256).toNat = y at c2 hu2 yb
        obtain ⟨y0, y1⟩ := yb
        have d0 : 0 ≤ y / r := Int.ediv_nonneg (by omega) (by omega)
        have d1 : y / r ≤ y := Int.ediv_le_self _ (by omega)
        have d2 : y / r < 8 := by omega
        by_cases hd : y / r % 2 = 1
        · have hu2' := Lib.hid (hu2.trans (decide_eq_true hd))
          have hz : (y / r % 2 == 0) = false := by rw [beq_eq_false_iff_ne]; omega
          clear hd hu2
          go_wp2
          go_roundg (n.toNat - (k + 1))
          case measure => omega
          case rel => exact ⟨k + 1, rfl, by omega, by simp, use_snoc hA HX hu2', rfl⟩
        · have hu2' := Lib.hid (hu2.trans (decide_eq_false hd))
          have hz : (y / r % 2 == 0) = true := by rw [beq_iff_eq]; omega
          clear hd hu2
          go_wp2
          refine bodyPost_ret (v := .agg #[.int .i64 kind, .int .u32 x]) (by simp [results, Try.results162, go_sem]) rfl ⟨?_, ?_⟩
          · rw [srch_some k hlt hA (by rw [HX.out]; exact hu2'.out), HX.out]; rfl
          · exact b0.out _
    · have hge : ¬ (k : Int) < n := by omega
      have hkn : k = n.toNat := by omega
      have HK := Lib.hid hkn
      clear hkn
      go_wp2
      refine bodyPost_ret (v := .agg #[.int .i64 0, .int .u32 0]) (by simp [results, Try.results162, go_sem]) rfl ⟨?_, ?_⟩
      · rw [srch_none (fun j hj => hA.out j (by rw [HK.out]; exact hj))]; rfl
      · exact b0.out _
end Go.Proofs.Ytcjcmnnhmajocab.Me
namespace Go.Proofs.Ytcjcmnnhmajocab.Me
open Go.RowKit Kt
set_option linter.unusedVariables false
set_option linter.unusedSimpArgs false
theorem Rs.of_call {w w1 : World} (hb : Below (w.alloc (.cells #[.int .i64 0, .int .u32 0] 46)).heap.size (w.alloc (.cells #[.int .i64 0, .int .u32 0] 46)) w1) : Rs w.heap.size w1 :=
  (Rs.new w w.heap.size rfl).upto (Upto.of_below (S := fun _ => False) hb) id
theorem ret_ld {a b : Int} {v : Value} (h : a = b) : Ending.returned (.tuple #[.int .u32 a, v]) = .returned (.tuple #[.int .u32 b, v]) := by rw [h]
set_option maxRecDepth 100000 in
set_option maxHeartbeats 2000000 in
theorem rload_bad (P : RP) (M : MM) (a n x : Int) (w : World) (h : RM P M w) (hM : MOk M) (a0 : 0 ≤ a) (a1 : a < 4294967296) (n1 : n < 9223372036854775808) (hs : srch M 1 a n.toNat = some x) :
    Calls Try.prog 105 #[.pointer (some ⟨P.q, 0, none⟩), .int .u32 a, .int .i64 n] w fun e w' => e = .returned (.tuple #[.int .u32 0, .agg #[.int .i64 5, .int .u32 x]]) ∧ Below w.heap.size w w' := by
  have HB := Lib.hid (fun w h => ruse P M a n 1 5 w h hM (.inl rfl) a0 a1 n1)
  rw [hs] at HB
  simp only [stpV] at HB
  have HH := Lib.hid (fun o => h.upto ((Upto.refl (fun _ => False) w).alloc o) (fun _ _ => id))
  clear h hM hs
  go_enter Try.func105, Try.ntmps105
  go_wp2_with (go_at_call 162; refine (HB.out _ (HH.out _)).mono ?_; rintro e w1 ⟨rfl, hb1⟩; obtain ⟨g0, g1, g2, g3, g4⟩ := Rs.of_call hb1; have B1 := Lib.hid (aft_alloc hb1); clear hb1)
  go_region
  go_wp2
  refine bodyPost_ret (v := .tuple #[.int .u32 0, .agg #[.int .i64 5, .int .u32 x]]) (by simp [results, Try.results105, go_sem, g0, g1, g4]) rfl ⟨rfl, ?_⟩
  exact (((B1.out.setCell (Nat.le_refl _) _).setCell (Nat.le_refl _) _).alloc (by simpa using B1.out.size) _).drew
set_option maxRecDepth 100000 in
set_option maxHeartbeats 2000000 in
theorem rload_none (P : RP) (M : MM) (a n : Int) (w : World) (h : RM P M w) (hM : MOk M) (a0 : 0 ≤ a) (a1 : a < 4294967296) (n1 : n < 9223372036854775808) (hs : srch M 1 a n.toNat = none) (hn : ¬ (n = 1 ∨ n = 2 ∨ n = 4)) :
    Calls Try.prog 105 #[.pointer (some ⟨P.q, 0, none⟩), .int .u32 a, .int .i64 n] w fun e w' => e = .returned (.tuple #[.int .u32 0, .agg #[.int .i64 0, .int .u32 0]]) ∧ Below w.heap.size w w' := by
  have HB := Lib.hid (fun w h => ruse P M a n 1 5 w h hM (.inl rfl) a0 a1 n1)
  rw [hs] at HB
  simp only [stpV] at HB
  have HH := Lib.hid (fun o => h.upto ((Upto.refl (fun _ => False) w).alloc o) (fun _ _ => id))
  have e1 : (n != 1) = true := by rw [bne_iff_ne]; omega
  have e2 : (n != 2) = true := by rw [bne_iff_ne]; omega
  have e4 : (n != 4) = true := by rw [bne_iff_ne]; omega
  clear h hM hs hn
  go_enter Try.func105, Try.ntmps105
  go_wp2_with (go_at_call 162; refine (HB.out _ (HH.out _)).mono ?_; rintro e w1 ⟨rfl, hb1⟩; obtain ⟨g0, g1, g2, g3, g4⟩ := Rs.of_call hb1; have B1 := Lib.hid (aft_alloc hb1); clear hb1)
  go_region
  go_wp2
  refine bodyPost_ret (v := .tuple #[.int .u32 0, .agg #[.int .i64 0, .int .u32 0]]) (by simp [results, Try.results105, go_sem, g0, g1, g4]) rfl ⟨rfl, ?_⟩
  exact (((B1.out.setCell (Nat.le_refl _) _).setCell (Nat.le_refl _) _).alloc (by simpa using B1.out.size) _).drew
set_option maxRecDepth 100000 in
set_option maxHeartbeats 2000000 in
theorem rload_1 (P : RP) (M : MM) (a : Int) (w : World) (h : RM P M w) (hM : MOk M) (a0 : 0 ≤ a) (a1 : a < 4294967296) (hs : srch M 1 a 1 = none) :
    Calls Try.prog 105 #[.pointer (some ⟨P.q, 0, none⟩), .int .u32 a, .int .i64 1] w fun e w' => e = .returned (.tuple #[.int .u32 (byt M a 0), .agg #[.int .i64 0, .int .u32 0]]) ∧ Below w.heap.size w w' := by
  have HB := Lib.hid (fun w h => ruse P M a 1 1 5 w h hM (.inl rfl) a0 a1 (by omega))
  rw [show (1 : Int).toNat = 1 from rfl, hs] at HB
  simp only [stpV] at HB
  have HH := Lib.hid (fun o => h.upto ((Upto.refl (fun _ => False) w).alloc o) (fun _ _ => id))
  have p0 := (plc_in a0 a1 hs 0 (by omega) (by omega)).2
  have q0 := h.hq0
  have lq := h.lq
  have lb := h.lb
  unfold byt
  rw [Nat.add_zero]
  have b1 : a < 65536 := by omega
  have c0 := h.hb a.toNat (by omega)
  have r0 := hM.1 a.toNat
  generalize M.by_ a.toNat = y0 at c0 r0 ⊢
  obtain ⟨r0a, r0b⟩ := r0
  obtain ⟨pq, pb, pr, pm, pt⟩ := P
  simp only at q0 lq lb c0 HB HH
  clear h hM hs p0
  go_enter Try.func105, Try.ntmps105
  go_wp2_with (go_at_call 162; refine (HB.out _ (HH.out _)).mono ?_; rintro e w1 ⟨rfl, hb1⟩; obtain ⟨g0, g1, g2, g3, g4⟩ := Rs.of_call hb1; have B1 := Lib.hid (aft_alloc hb1); have q0' := (B1.out.cell (p := ⟨pq, 0, none⟩) lq).trans q0; have c0' := (B1.out.cell (p := ⟨pb, a.toNat, none⟩) lb).trans c0; have lq' := Nat.lt_of_lt_of_le lq B1.out.size; have lb' := Nat.lt_of_lt_of_le lb B1.out.size; clear hb1)
  refine wp_loop_rounds 2 ?_
  rw [rounds_succ]; go_wp2
  rw [rounds_succ]; go_wp2
  go_region
  go_wp2
  refine bodyPost_ret (v := .tuple #[.int .u32 (y0), .agg #[.int .i64 0, .int .u32 0]]) (by simp [results, Try.results105, go_sem, g0, g1, g4]) rfl ⟨ret_ld (by omega), ?_⟩
  exact (((B1.out.setCell (Nat.le_refl _) _).setCell (Nat.le_refl _) _).alloc (by simpa using B1.out.size) _).drew
set_option maxRecDepth 100000 in
set_option maxHeartbeats 2000000 in
theorem rload_2 (P : RP) (M : MM) (a : Int) (w : World) (h : RM P M w) (hM : MOk M) (a0 : 0 ≤ a) (a1 : a < 4294967296) (hs : srch M 1 a 2 = none) :
    Calls Try.prog 105 #[.pointer (some ⟨P.q, 0, none⟩), .int .u32 a, .int .i64 2] w fun e w' => e = .returned (.tuple #[.int .u32 (byt M a 0 + byt M a 1 * 256), .agg #[.int .i64 0, .int .u32 0]]) ∧ Below w.heap.size w w' := by
  have HB := Lib.hid (fun w h => ruse P M a 2 1 5 w h hM (.inl rfl) a0 a1 (by omega))
  rw [show (2 : Int).toNat = 2 from rfl, hs] at HB
  simp only [stpV] at HB
  have HH := Lib.hid (fun o => h.upto ((Upto.refl (fun _ => False) w).alloc o) (fun _ _ => id))
  have p0 := (plc_in a0 a1 hs 1 (by omega) (by omega)).2
  have q0 := h.hq0
  have lq := h.lq
  have lb := h.lb
  unfold byt
  rw [Nat.add_zero]
  have b1 : a < 65536 := by omega
  have b2 : a + 1 < 65536 := by omega
  have c0 := h.hb a.toNat (by omega)
  have r0 := hM.1 a.toNat
  have c1 := h.hb (a.toNat + 1) (by omega)
  have r1 := hM.1 (a.toNat + 1)
  rw [show a.toNat + 1 = (a + 1).toNat by omega] at c1 r1
  generalize M.by_ a.toNat = y0 at c0 r0 ⊢
  rw [show a.toNat + 1 = (a + 1).toNat by omega]
  generalize M.by_ (a + 1).toNat = y1 at c1 r1 ⊢
  obtain ⟨r0a, r0b⟩ := r0
  obtain ⟨r1a, r1b⟩ := r1
  obtain ⟨pq, pb, pr, pm, pt⟩ := P
  simp only at q0 lq lb c0 c1 HB HH
  clear h hM hs p0
  go_enter Try.func105, Try.ntmps105
  go_wp2_with (go_at_call 162; refine (HB.out _ (HH.out _)).mono ?_; rintro e w1 ⟨rfl, hb1⟩; obtain ⟨g0, g1, g2, g3, g4⟩ := Rs.of_call hb1; have B1 := Lib.hid (aft_alloc hb1); have q0' := (B1.out.cell (p := ⟨pq, 0, none⟩) lq).trans q0; have c0' := (B1.out.cell (p := ⟨pb, a.toNat, none⟩) lb).trans c0; have c1' := (B1.out.cell (p := ⟨pb, (a + 1).toNat, none⟩) lb).trans c1; have lq' := Nat.lt_of_lt_of_le lq B1.out.size; have lb' := Nat.lt_of_lt_of_le lb B1.out.size; clear hb1)
  refine wp_loop_rounds 3 ?_
  rw [rounds_succ]; go_wp2
  rw [rounds_succ]; go_wp2
  rw [rounds_succ]; go_wp2
  go_region
  go_wp2
  refine bodyPost_ret (v := .tuple #[.int .u32 (y1 * 256 + y0), .agg #[.int .i64 0, .int .u32 0]]) (by simp [results, Try.results105, go_sem, g0, g1, g4]) rfl ⟨ret_ld (by omega), ?_⟩
  exact (((B1.out.setCell (Nat.le_refl _) _).setCell (Nat.le_refl _) _).alloc (by simpa using B1.out.size) _).drew
set_option maxRecDepth 100000 in
set_option maxHeartbeats 2000000 in
theorem rload_4 (P : RP) (M : MM) (a : Int) (w : World) (h : RM P M w) (hM : MOk M) (a0 : 0 ≤ a) (a1 : a < 4294967296) (hs : srch M 1 a 4 = none) :
    Calls Try.prog 105 #[.pointer (some ⟨P.q, 0, none⟩), .int .u32 a, .int .i64 4] w fun e w' => e = .returned (.tuple #[.int .u32 (byt M a 0 + byt M a 1 * 256 + byt M a 2 * 65536 + byt M a 3 * 16777216), .agg #[.int .i64 0, .int .u32 0]]) ∧ Below w.heap.size w w' := by
  have HB := Lib.hid (fun w h => ruse P M a 4 1 5 w h hM (.inl rfl) a0 a1 (by omega))
  rw [show (4 : Int).toNat = 4 from rfl, hs] at HB
  simp only [stpV] at HB
  have HH := Lib.hid (fun o => h.upto ((Upto.refl (fun _ => False) w).alloc o) (fun _ _ => id))
  have p0 := (plc_in a0 a1 hs 3 (by omega) (by omega)).2
  have q0 := h.hq0
  have lq := h.lq
  have lb := h.lb
  unfold byt
  rw [Nat.add_zero]
  have b1 : a < 65536 := by omega
  have b2 : a + 1 < 65536 := by omega
  have b3 : a + 2 < 65536 := by omega
  have b4 : a + 3 < 65536 := by omega
  have c0 := h.hb a.toNat (by omega)
  have r0 := hM.1 a.toNat
  have c1 := h.hb (a.toNat + 1) (by omega)
  have r1 := hM.1 (a.toNat + 1)
  rw [show a.toNat + 1 = (a + 1).toNat by omega] at c1 r1
  have c2 := h.hb (a.toNat + 2) (by omega)
  have r2 := hM.1 (a.toNat + 2)
  rw [show a.toNat + 2 = (a + 2).toNat by omega] at c2 r2
  have c3 := h.hb (a.toNat + 3) (by omega)
  have r3 := hM.1 (a.toNat + 3)
  rw [show a.toNat + 3 = (a + 3).toNat by omega] at c3 r3
  generalize M.by_ a.toNat = y0 at c0 r0 ⊢
  rw [show a.toNat + 1 = (a + 1).toNat by omega]
  generalize M.by_ (a + 1).toNat = y1 at c1 r1 ⊢
  rw [show a.toNat + 2 = (a + 2).toNat by omega]
  generalize M.by_ (a + 2).toNat = y2 at c2 r2 ⊢
  rw [show a.toNat + 3 = (a + 3).toNat by omega]
  generalize M.by_ (a + 3).toNat = y3 at c3 r3 ⊢
  obtain ⟨r0a, r0b⟩ := r0
  obtain ⟨r1a, r1b⟩ := r1
  obtain ⟨r2a, r2b⟩ := r2
  obtain ⟨r3a, r3b⟩ := r3
  obtain ⟨pq, pb, pr, pm, pt⟩ := P
  simp only at q0 lq lb c0 c1 c2 c3 HB HH
  clear h hM hs p0
  go_enter Try.func105, Try.ntmps105
  go_wp2_with (go_at_call 162; refine (HB.out _ (HH.out _)).mono ?_; rintro e w1 ⟨rfl, hb1⟩; obtain ⟨g0, g1, g2, g3, g4⟩ := Rs.of_call hb1; have B1 := Lib.hid (aft_alloc hb1); have q0' := (B1.out.cell (p := ⟨pq, 0, none⟩) lq).trans q0; have c0' := (B1.out.cell (p := ⟨pb, a.toNat, none⟩) lb).trans c0; have c1' := (B1.out.cell (p := ⟨pb, (a + 1).toNat, none⟩) lb).trans c1; have c2' := (B1.out.cell (p := ⟨pb, (a + 2).toNat, none⟩) lb).trans c2; have c3' := (B1.out.cell (p := ⟨pb, (a + 3).toNat, none⟩) lb).trans c3; have lq' := Nat.lt_of_lt_of_le lq B1.out.size; have lb' := Nat.lt_of_lt_of_le lb B1.out.size; clear hb1)
  refine wp_loop_rounds 5 ?_
  rw [rounds_succ]; go_wp2
  rw [rounds_succ]; go_wp2
  rw [rounds_succ]; go_wp2
  rw [rounds_succ]; go_wp2
  rw [rounds_succ]; go_wp2
  go_region
  go_wp2
  refine bodyPost_ret (v := .tuple #[.int .u32 (((y3 * 256 + y2) * 256 + y1) * 256 + y0), .agg #[.int .i64 0, .int .u32 0]]) (by simp [results, Try.results105, go_sem, g0, g1, g4]) rfl ⟨ret_ld (by omega), ?_⟩
  exact (((B1.out.setCell (Nat.le_refl _) _).setCell (Nat.le_refl _) _).alloc (by simpa using B1.out.size) _).drew
theorem rload_any (P : RP) (M : MM) (a n : Int) (w : World) (h : RM P M w) (hM : MOk M) (a0 : 0 ≤ a) (a1 : a < 4294967296) (n1 : n < 9223372036854775808) :
    Calls Try.prog 105 #[.pointer (some ⟨P.q, 0, none⟩), .int .u32 a, .int .i64 n] w fun e w' => e = .returned (.tuple #[.int .u32 (ldv M a n), stpV 5 (srch M 1 a n.toNat)]) ∧ Below w.heap.size w w' := by
  unfold ldv
  obtain ⟨o, ho⟩ : ∃ o, srch M 1 a n.toNat = o := ⟨_, rfl⟩
  rw [ho]
  rcases o with _ | x
  · simp only [Option.isNone_none, if_true, stpV]
    by_cases e1 : n = 1
    · subst e1; rw [if_pos rfl]; exact rload_1 P M a w h hM a0 a1 ho
    · rw [if_neg e1]
      by_cases e2 : n = 2
      · subst e2; rw [if_pos rfl]; exact rload_2 P M a w h hM a0 a1 ho
      · rw [if_neg e2]
        by_cases e4 : n = 4
        · subst e4; rw [if_pos rfl]; exact rload_4 P M a w h hM a0 a1 ho
        · rw [if_neg e4]
          exact rload_none P M a n w h hM a0 a1 n1 ho (by omega)
  · simp only [Option.isNone_some, Bool.false_eq_true, if_false, stpV]
    exact rload_bad P M a n x w h hM a0 a1 n1 ho
end Go.Proofs.Ytcjcmnnhmajocab.Me
namespace Go.Proofs.Ytcjcmnnhmajocab.Me
open Go.RowKit Kt
set_option linter.unusedVariables false
set_option linter.unusedSimpArgs false
theorem RM.facts {P : RP} {M : MM} {W : World} (h : RM P M W) (k : Int) (k1 : k < 65536) : (∃ u, W.cell? ⟨P.b, k.toNat, none⟩ = some u) ∧ W.frozen? ⟨P.b, k.toNat, none⟩ = false :=
  ⟨⟨_, h.hb k.toNat (by omega)⟩, h.zb _⟩
set_option maxRecDepth 100000 in
set_option maxHeartbeats 2000000 in
theorem rstore_not (q : Nat) (a n v : Int) (w : World) (hn : ¬ (n = 1 ∨ n = 2 ∨ n = 4)) :
    Calls Try.prog 107 #[.pointer (some ⟨q, 0, none⟩), .int .u32 a, .int .i64 n, .int .u32 v] w fun e w' => e = .returned (.agg #[.int .i64 0, .int .u32 0]) ∧ Below w.heap.size w w' := by
  have b0 := Below.refl w.heap.size w
  have e1 : (n != 1) = true := by rw [bne_iff_ne]; omega
  have e2 : (n != 2) = true := by rw [bne_iff_ne]; omega
  have e4 : (n != 4) = true := by rw [bne_iff_ne]; omega
  clear hn
  go_enter Try.func107, Try.ntmps107
  go_wp2
  refine bodyPost_ret (v := .agg #[.int .i64 0, .int .u32 0]) (by simp [results, Try.results107, go_sem]) rfl ⟨rfl, ?_⟩
  exact b0.alloc (Nat.le_refl _) _
set_option maxRecDepth 100000 in
set_option maxHeartbeats 2000000 in
theorem rstore_bad1 (P : RP) (M : MM) (a v x : Int) (w : World) (h : RM P M w) (hM : MOk M) (a0 : 0 ≤ a) (a1 : a < 4294967296) (hs : srch M 2 a 1 = some x) :
    Calls Try.prog 107 #[.pointer (some ⟨P.q, 0, none⟩), .int .u32 a, .int .i64 1, .int .u32 v] w fun e w' => e = .returned (.agg #[.int .i64 6, .int .u32 x]) ∧ Below w.heap.size w w' := by
  have HB := Lib.hid (fun w h => ruse P M a 1 2 6 w h hM (.inr (.inl rfl)) a0 a1 (by omega))
  rw [show (1 : Int).toNat = 1 from rfl, hs] at HB
  simp only [stpV] at HB
  have HH := Lib.hid (fun o => h.upto ((Upto.refl (fun _ => False) w).alloc o) (fun _ _ => id))
  clear h hM hs
  go_enter Try.func107, Try.ntmps107
  go_wp2_with (go_at_call 162; refine (HB.out _ (HH.out _)).mono ?_; rintro e w1 ⟨rfl, hb1⟩; obtain ⟨g0, g1, g2, g3, g4⟩ := Rs.of_call hb1; have B1 := Lib.hid (aft_alloc hb1); clear hb1)
  refine bodyPost_ret (v := .agg #[.int .i64 6, .int .u32 x]) (by simp [results, Try.results107, go_sem, g0, g1, g4]) rfl ⟨rfl, ?_⟩
  exact ((B1.out.setCell (Nat.le_refl _) _).setCell (Nat.le_refl _) _).alloc (by simpa using B1.out.size) _
set_option maxRecDepth 100000 in
set_option maxHeartbeats 4000000 in
theorem rstore_1 (P : RP) (M : MM) (a v : Int) (w : World) (h : RM P M w) (hM : MOk M) (a0 : 0 ≤ a) (a1 : a < 4294967296) (v0 : 0 ≤ v) (v1 : v < 4294967296) (hs : srch M 2 a 1 = none) :
    Calls Try.prog 107 #[.pointer (some ⟨P.q, 0, none⟩), .int .u32 a, .int .i64 1, .int .u32 v] w fun e w' => e = .returned (.agg #[.int .i64 0, .int .u32 0]) ∧ RM P (pk M a.toNat (bts 1 v)) w' ∧ Upto P.S w w' := by
  have HB := Lib.hid (fun w h => ruse P M a 1 2 6 w h hM (.inr (.inl rfl)) a0 a1 (by omega))
  rw [show (1 : Int).toNat = 1 from rfl, hs] at HB
  simp only [stpV] at HB
  have HH := Lib.hid (fun o => h.upto ((Upto.refl (fun _ => False) w).alloc o) (fun _ _ => id))
  have p0 := (plc_in a0 a1 hs 0 (by omega) (by omega)).2
  have b0 : a < 65536 := by omega
  have HI := Lib.hid h
  have HC := Lib.hid (rchange P)
  have lq := h.lq
  have lb := h.lb
  have hX : ¬ P.S w.heap.size := by
    have := h.lr; have := h.lm; have := h.lt
    rintro (h | h | h | h | h) <;> omega
  have HP := Lib.hid h
  have hpb : P.S P.b := .inr (.inl rfl)
  obtain ⟨pq, hpq⟩ : ∃ x, P.q = x := ⟨_, rfl⟩
  obtain ⟨pb, hpb'⟩ : ∃ x, P.b = x := ⟨_, rfl⟩
  rw [hpq] at lq HB HC ⊢
  rw [hpb'] at lb hpb
  have HQ := Lib.hid hpq
  have HPB := Lib.hid hpb'
  clear h hM hs p0 hpq hpb'
  go_enter Try.func107, Try.ntmps107
  go_wp2_with (go_at_call 162; refine (HB.out _ (HH.out _)).mono ?_; rintro e w0 ⟨rfl, hb1⟩; have RX0 := Lib.hid (Rs.of_call hb1); have B1 := Lib.hid (aft_alloc hb1); have HH0 := Lib.hid (HP.out.upto (Upto.of_below (S := fun _ => False) B1.out) (fun _ _ => id)); clear hb1; have q0 := HH0.out.hq0; obtain ⟨⟨u0, k0⟩, z0⟩ := HH0.out.facts a (by omega); rw [HPB.out] at k0 z0 q0; rw [HQ.out] at q0; have lq0 := Nat.lt_of_lt_of_le lq B1.out.size; have lb0 := Nat.lt_of_lt_of_le lb B1.out.size; have hY := Lib.hid (Below.size B1.out))
  have hYS : ¬ P.S w0.heap.size := by
    have := HH0.out.lq; have := HH0.out.lb; have := HH0.out.lr; have := HH0.out.lm; have := HH0.out.lt
    rintro (h | h | h | h | h) <;> omega
  have hXb : ¬ w.heap.size = pb := by omega
  have hYb : ¬ w0.heap.size = pb := by omega
  have hXY : ¬ w.heap.size = w0.heap.size := by have := RX0.out.2.2.2.2; omega
  refine wp_loop_rounds 2 ?_
  rw [rounds_succ]; go_wp2_with fail
  refine (HC.out _ _ (by omega) (by omega) _ (((HPB.out ▸ HH0.out.setB a.toNat (by omega) (v % 256)).upto ((Upto.refl (fun _ => False) _).alloc _) (fun _ _ => id)))).mono ?_
  rintro e w1 ⟨rfl, h1, o1⟩
  rw [w1_at0 _ a _ a0] at h1
  have RX1 := Lib.hid (((RX0.out.put hXb).upto ((Upto.refl (fun _ => False) _).alloc _) id).upto o1 hX)
  have RY1 := Lib.hid ((Rs.new (w0.setCell ⟨pb, a.toNat, none⟩ (.int .u8 (v % 256))) w0.heap.size (by simp)).upto o1 hYS)
  have U1 := Lib.hid (Upto.trans (((Upto.of_below B1.out).setCell (q := ⟨pb, (a).toNat, none⟩) (.inl hpb) (.int .u8 (v % 256))).alloc (.cells #[.int .i64 0, .int .u32 0] 46)) o1)
  have HH1 := Lib.hid h1
  obtain ⟨g0, g1, g2, g3, g4⟩ := RX1.out
  obtain ⟨f0, f1, f2, f3, f4⟩ := RY1.out
  clear h1 o1
  go_wp2
  rw [rounds_succ]; go_wp2
  refine bodyPost_ret (v := .agg #[.int .i64 0, .int .u32 0]) (by simp [results, Try.results107, go_sem, g0, g1, g4]) rfl ⟨rfl, ?_, ?_⟩
  · exact HH1.out.upto (S := fun i => i = w.heap.size) (((Upto.refl (fun i => i = w.heap.size) _).setCell (q := ⟨w.heap.size, 0, none⟩) (.inl rfl) (.int .i64 0)).setCell (q := ⟨w.heap.size, 1, none⟩) (.inl rfl) (.int .u32 0)) (fun k hk h => hX (h ▸ hk))
  · exact (U1.out.setCell (q := ⟨w.heap.size, 0, none⟩) (.inr (Nat.le_refl _)) _).setCell (q := ⟨w.heap.size, 1, none⟩) (.inr (Nat.le_refl _)) _
set_option maxRecDepth 100000 in
set_option maxHeartbeats 2000000 in
theorem rstore_bad2 (P : RP) (M : MM) (a v x : Int) (w : World) (h : RM P M w) (hM : MOk M) (a0 : 0 ≤ a) (a1 : a < 4294967296) (hs : srch M 2 a 2 = some x) :
    Calls Try.prog 107 #[.pointer (some ⟨P.q, 0, none⟩), .int .u32 a, .int .i64 2, .int .u32 v] w fun e w' => e = .returned (.agg #[.int .i64 6, .int .u32 x]) ∧ Below w.heap.size w w' := by
  have HB := Lib.hid (fun w h => ruse P M a 2 2 6 w h hM (.inr (.inl rfl)) a0 a1 (by omega))
  rw [show (2 : Int).toNat = 2 from rfl, hs] at HB
  simp only [stpV] at HB
  have HH := Lib.hid (fun o => h.upto ((Upto.refl (fun _ => False) w).alloc o) (fun _ _ => id))
  clear h hM hs
  go_enter Try.func107, Try.ntmps107
  go_wp2_with (go_at_call 162; refine (HB.out _ (HH.out _)).mono ?_; rintro e w1 ⟨rfl, hb1⟩; obtain ⟨g0, g1, g2, g3, g4⟩ := Rs.of_call hb1; have B1 := Lib.hid (aft_alloc hb1); clear hb1)
  refine bodyPost_ret (v := .agg #[.int .i64 6, .int .u32 x]) (by simp [results, Try.results107, go_sem, g0, g1, g4]) rfl ⟨rfl, ?_⟩
  exact ((B1.out.setCell (Nat.le_refl _) _).setCell (Nat.le_refl _) _).alloc (by simpa using B1.out.size) _
set_option maxRecDepth 100000 in
set_option maxHeartbeats 4000000 in
theorem rstore_2 (P : RP) (M : MM) (a v : Int) (w : World) (h : RM P M w) (hM : MOk M) (a0 : 0 ≤ a) (a1 : a < 4294967296) (v0 : 0 ≤ v) (v1 : v < 4294967296) (hs : srch M 2 a 2 = none) :
    Calls Try.prog 107 #[.pointer (some ⟨P.q, 0, none⟩), .int .u32 a, .int .i64 2, .int .u32 v] w fun e w' => e = .returned (.agg #[.int .i64 0, .int .u32 0]) ∧ RM P (pk M a.toNat (bts 2 v)) w' ∧ Upto P.S w w' := by
  have HB := Lib.hid (fun w h => ruse P M a 2 2 6 w h hM (.inr (.inl rfl)) a0 a1 (by omega))
  rw [show (2 : Int).toNat = 2 from rfl, hs] at HB
  simp only [stpV] at HB
  have HH := Lib.hid (fun o => h.upto ((Upto.refl (fun _ => False) w).alloc o) (fun _ _ => id))
  have p0 := (plc_in a0 a1 hs 1 (by omega) (by omega)).2
  have b0 : a < 65536 := by omega
  have b1 : a + 1 < 65536 := by omega
  have HI := Lib.hid h
  have HC := Lib.hid (rchange P)
  have lq := h.lq
  have lb := h.lb
  have hX : ¬ P.S w.heap.size := by
    have := h.lr; have := h.lm; have := h.lt
    rintro (h | h | h | h | h) <;> omega
  have HP := Lib.hid h
  have hpb : P.S P.b := .inr (.inl rfl)
  obtain ⟨pq, hpq⟩ : ∃ x, P.q = x := ⟨_, rfl⟩
  obtain ⟨pb, hpb'⟩ : ∃ x, P.b = x := ⟨_, rfl⟩
  rw [hpq] at lq HB HC ⊢
  rw [hpb'] at lb hpb
  have HQ := Lib.hid hpq
  have HPB := Lib.hid hpb'
  clear h hM hs p0 hpq hpb'
  go_enter Try.func107, Try.ntmps107
  go_wp2_with (go_at_call 162; refine (HB.out _ (HH.out _)).mono ?_; rintro e w0 ⟨rfl, hb1⟩; have RX0 := Lib.hid (Rs.of_call hb1); have B1 := Lib.hid (aft_alloc hb1); have HH0 := Lib.hid (HP.out.upto (Upto.of_below (S := fun _ => False) B1.out) (fun _ _ => id)); clear hb1; have q0 := HH0.out.hq0; obtain ⟨⟨u0, k0⟩, z0⟩ := HH0.out.facts a (by omega); rw [HPB.out] at k0 z0 q0; rw [HQ.out] at q0; have lq0 := Nat.lt_of_lt_of_le lq B1.out.size; have lb0 := Nat.lt_of_lt_of_le lb B1.out.size; have hY := Lib.hid (Below.size B1.out))
  have hYS : ¬ P.S w0.heap.size := by
    have := HH0.out.lq; have := HH0.out.lb; have := HH0.out.lr; have := HH0.out.lm; have := HH0.out.lt
    rintro (h | h | h | h | h) <;> omega
  have hXb : ¬ w.heap.size = pb := by omega
  have hYb : ¬ w0.heap.size = pb := by omega
  have hXY : ¬ w.heap.size = w0.heap.size := by have := RX0.out.2.2.2.2; omega
  refine wp_loop_rounds 3 ?_
  rw [rounds_succ]; go_wp2_with fail
  refine (HC.out _ _ (by omega) (by omega) _ (((HPB.out ▸ HH0.out.setB a.toNat (by omega) (v % 256)).upto ((Upto.refl (fun _ => False) _).alloc _) (fun _ _ => id)))).mono ?_
  rintro e w1 ⟨rfl, h1, o1⟩
  rw [w1_at0 _ a _ a0] at h1
  have RX1 := Lib.hid (((RX0.out.put hXb).upto ((Upto.refl (fun _ => False) _).alloc _) id).upto o1 hX)
  have RY1 := Lib.hid ((Rs.new (w0.setCell ⟨pb, a.toNat, none⟩ (.int .u8 (v % 256))) w0.heap.size (by simp)).upto o1 hYS)
  have U1 := Lib.hid (Upto.trans (((Upto.of_below B1.out).setCell (q := ⟨pb, (a).toNat, none⟩) (.inl hpb) (.int .u8 (v % 256))).alloc (.cells #[.int .i64 0, .int .u32 0] 46)) o1)
  have HH1 := Lib.hid h1
  obtain ⟨⟨u1, k1⟩, z1⟩ := h1.facts (a + 1) (by omega)
  have q1 := h1.hq0
  rw [HPB.out] at k1 z1 q1; rw [HQ.out] at q1
  clear h1 o1
  go_wp2
  rw [rounds_succ]; go_wp2_with fail
  refine (HC.out _ _ (by omega) (by omega) _ (HPB.out ▸ HH1.out.setB (a + 1).toNat (by omega) (v / 256 % 256))).mono ?_
  rintro e w2 ⟨rfl, h2, o2⟩
  rw [w1_at _ a 1 1 _ a0 rfl] at h2
  have RX2 := Lib.hid ((RX1.out.put hXb).upto o2 hX)
  have RY2 := Lib.hid ((RY1.out.put hYb).upto o2 hYS)
  have U2 := Lib.hid (Upto.trans (U1.out.setCell (q := ⟨pb, (a + 1).toNat, none⟩) (.inl hpb) (.int .u8 (v / 256 % 256))) o2)
  have HH2 := Lib.hid h2
  obtain ⟨g0, g1, g2, g3, g4⟩ := RX2.out
  obtain ⟨f0, f1, f2, f3, f4⟩ := RY2.out
  clear h2 o2
  go_wp2
  rw [rounds_succ]; go_wp2
  refine bodyPost_ret (v := .agg #[.int .i64 0, .int .u32 0]) (by simp [results, Try.results107, go_sem, g0, g1, g4]) rfl ⟨rfl, ?_, ?_⟩
  · exact HH2.out.upto (S := fun i => i = w.heap.size) (((Upto.refl (fun i => i = w.heap.size) _).setCell (q := ⟨w.heap.size, 0, none⟩) (.inl rfl) (.int .i64 0)).setCell (q := ⟨w.heap.size, 1, none⟩) (.inl rfl) (.int .u32 0)) (fun k hk h => hX (h ▸ hk))
  · exact (U2.out.setCell (q := ⟨w.heap.size, 0, none⟩) (.inr (Nat.le_refl _)) _).setCell (q := ⟨w.heap.size, 1, none⟩) (.inr (Nat.le_refl _)) _
set_option maxRecDepth 100000 in
set_option maxHeartbeats 2000000 in
theorem rstore_bad4 (P : RP) (M : MM) (a v x : Int) (w : World) (h : RM P M w) (hM : MOk M) (a0 : 0 ≤ a) (a1 : a < 4294967296) (hs : srch M 2 a 4 = some x) :
    Calls Try.prog 107 #[.pointer (some ⟨P.q, 0, none⟩), .int .u32 a, .int .i64 4, .int .u32 v] w fun e w' => e = .returned (.agg #[.int .i64 6, .int .u32 x]) ∧ Below w.heap.size w w' := by
  have HB := Lib.hid (fun w h => ruse P M a 4 2 6 w h hM (.inr (.inl rfl)) a0 a1 (by omega))
  rw [show (4 : Int).toNat = 4 from rfl, hs] at HB
  simp only [stpV] at HB
  have HH := Lib.hid (fun o => h.upto ((Upto.refl (fun _ => False) w).alloc o) (fun _ _ => id))
  clear h hM hs
  go_enter Try.func107, Try.ntmps107
  go_wp2_with (go_at_call 162; refine (HB.out _ (HH.out _)).mono ?_; rintro e w1 ⟨rfl, hb1⟩; obtain ⟨g0, g1, g2, g3, g4⟩ := Rs.of_call hb1; have B1 := Lib.hid (aft_alloc hb1); clear hb1)
  refine bodyPost_ret (v := .agg #[.int .i64 6, .int .u32 x]) (by simp [results, Try.results107, go_sem, g0, g1, g4]) rfl ⟨rfl, ?_⟩
  exact ((B1.out.setCell (Nat.le_refl _) _).setCell (Nat.le_refl _) _).alloc (by simpa using B1.out.size) _
set_option maxRecDepth 100000 in
set_option maxHeartbeats 4000000 in
theorem rstore_4 (P : RP) (M : MM) (a v : Int) (w : World) (h : RM P M w) (hM : MOk M) (a0 : 0 ≤ a) (a1 : a < 4294967296) (v0 : 0 ≤ v) (v1 : v < 4294967296) (hs : srch M 2 a 4 = none) :
    Calls Try.prog 107 #[.pointer (some ⟨P.q, 0, none⟩), .int .u32 a, .int .i64 4, .int .u32 v] w fun e w' => e = .returned (.agg #[.int .i64 0, .int .u32 0]) ∧ RM P (pk M a.toNat (bts 4 v)) w' ∧ Upto P.S w w' := by
  have HB := Lib.hid (fun w h => ruse P M a 4 2 6 w h hM (.inr (.inl rfl)) a0 a1 (by omega))
  rw [show (4 : Int).toNat = 4 from rfl, hs] at HB
  simp only [stpV] at HB
  have HH := Lib.hid (fun o => h.upto ((Upto.refl (fun _ => False) w).alloc o) (fun _ _ => id))
  have p0 := (plc_in a0 a1 hs 3 (by omega) (by omega)).2
  have b0 : a < 65536 := by omega
  have b1 : a + 1 < 65536 := by omega
  have b2 : a + 2 < 65536 := by omega
  have b3 : a + 3 < 65536 := by omega
  have HI := Lib.hid h
  have HC := Lib.hid (rchange P)
  have lq := h.lq
  have lb := h.lb
  have hX : ¬ P.S w.heap.size := by
    have := h.lr; have := h.lm; have := h.lt
    rintro (h | h | h | h | h) <;> omega
  have HP := Lib.hid h
  have hpb : P.S P.b := .inr (.inl rfl)
  obtain ⟨pq, hpq⟩ : ∃ x, P.q = x := ⟨_, rfl⟩
  obtain ⟨pb, hpb'⟩ : ∃ x, P.b = x := ⟨_, rfl⟩
  rw [hpq] at lq HB HC ⊢
  rw [hpb'] at lb hpb
  have HQ := Lib.hid hpq
  have HPB := Lib.hid hpb'
  clear h hM hs p0 hpq hpb'
  go_enter Try.func107, Try.ntmps107
  go_wp2_with (go_at_call 162; refine (HB.out _ (HH.out _)).mono ?_; rintro e w0 ⟨rfl, hb1⟩; have RX0 := Lib.hid (Rs.of_call hb1); have B1 := Lib.hid (aft_alloc hb1); have HH0 := Lib.hid (HP.out.upto (Upto.of_below (S := fun _ => False) B1.out) (fun _ _ => id)); clear hb1; have q0 := HH0.out.hq0; obtain ⟨⟨u0, k0⟩, z0⟩ := HH0.out.facts a (by omega); rw [HPB.out] at k0 z0 q0; rw [HQ.out] at q0; have lq0 := Nat.lt_of_lt_of_le lq B1.out.size; have lb0 := Nat.lt_of_lt_of_le lb B1.out.size; have hY := Lib.hid (Below.size B1.out))
  have hYS : ¬ P.S w0.heap.size := by
    have := HH0.out.lq; have := HH0.out.lb; have := HH0.out.lr; have := HH0.out.lm; have := HH0.out.lt
    rintro (h | h | h | h | h) <;> omega
  have hXb : ¬ w.heap.size = pb := by omega
  have hYb : ¬ w0.heap.size = pb := by omega
  have hXY : ¬ w.heap.size = w0.heap.size := by have := RX0.out.2.2.2.2; omega
  refine wp_loop_rounds 5 ?_
  rw [rounds_succ]; go_wp2_with fail
  refine (HC.out _ _ (by omega) (by omega) _ (((HPB.out ▸ HH0.out.setB a.toNat (by omega) (v % 256)).upto ((Upto.refl (fun _ => False) _).alloc _) (fun _ _ => id)))).mono ?_
  rintro e w1 ⟨rfl, h1, o1⟩
  rw [w1_at0 _ a _ a0] at h1
  have RX1 := Lib.hid (((RX0.out.put hXb).upto ((Upto.refl (fun _ => False) _).alloc _) id).upto o1 hX)
  have RY1 := Lib.hid ((Rs.new (w0.setCell ⟨pb, a.toNat, none⟩ (.int .u8 (v % 256))) w0.heap.size (by simp)).upto o1 hYS)
  have U1 := Lib.hid (Upto.trans (((Upto.of_below B1.out).setCell (q := ⟨pb, (a).toNat, none⟩) (.inl hpb) (.int .u8 (v % 256))).alloc (.cells #[.int .i64 0, .int .u32 0] 46)) o1)
  have HH1 := Lib.hid h1
  obtain ⟨⟨u1, k1⟩, z1⟩ := h1.facts (a + 1) (by omega)
  have q1 := h1.hq0
  rw [HPB.out] at k1 z1 q1; rw [HQ.out] at q1
  clear h1 o1
  go_wp2
  rw [rounds_succ]; go_wp2_with fail
  refine (HC.out _ _ (by omega) (by omega) _ (HPB.out ▸ HH1.out.setB (a + 1).toNat (by omega) (v / 256 % 256))).mono ?_
  rintro e w2 ⟨rfl, h2, o2⟩
  rw [w1_at _ a 1 1 _ a0 rfl] at h2
  have RX2 := Lib.hid ((RX1.out.put hXb).upto o2 hX)
  have RY2 := Lib.hid ((RY1.out.put hYb).upto o2 hYS)
  have U2 := Lib.hid (Upto.trans (U1.out.setCell (q := ⟨pb, (a + 1).toNat, none⟩) (.inl hpb) (.int .u8 (v / 256 % 256))) o2)
  have HH2 := Lib.hid h2
  obtain ⟨⟨u2, k2⟩, z2⟩ := h2.facts (a + 2) (by omega)
  have q2 := h2.hq0
  rw [HPB.out] at k2 z2 q2; rw [HQ.out] at q2
  clear h2 o2
  go_wp2
  rw [rounds_succ]; go_wp2_with fail
  refine (HC.out _ _ (by omega) (by omega) _ (HPB.out ▸ HH2.out.setB (a + 2).toNat (by omega) (v / 256 / 256 % 256))).mono ?_
  rintro e w3 ⟨rfl, h3, o3⟩
  rw [w1_at _ a 2 2 _ a0 rfl] at h3
  rw [show v / 256 / 256 % 256 = v / 65536 % 256 by omega] at h3
  have RX3 := Lib.hid ((RX2.out.put hXb).upto o3 hX)
  have RY3 := Lib.hid ((RY2.out.put hYb).upto o3 hYS)
  have U3 := Lib.hid (Upto.trans (U2.out.setCell (q := ⟨pb, (a + 2).toNat, none⟩) (.inl hpb) (.int .u8 (v / 256 / 256 % 256))) o3)
  have HH3 := Lib.hid h3
  obtain ⟨⟨u3, k3⟩, z3⟩ := h3.facts (a + 3) (by omega)
  have q3 := h3.hq0
  rw [HPB.out] at k3 z3 q3; rw [HQ.out] at q3
  clear h3 o3
  go_wp2
  rw [rounds_succ]; go_wp2_with fail
  refine (HC.out _ _ (by omega) (by omega) _ (HPB.out ▸ HH3.out.setB (a + 3).toNat (by omega) (v / 256 / 256 / 256 % 256))).mono ?_
  rintro e w4 ⟨rfl, h4, o4⟩
  rw [w1_at _ a 3 3 _ a0 rfl] at h4
  rw [show v / 256 / 256 / 256 % 256 = v / 16777216 by omega] at h4
  have RX4 := Lib.hid ((RX3.out.put hXb).upto o4 hX)
  have RY4 := Lib.hid ((RY3.out.put hYb).upto o4 hYS)
  have U4 := Lib.hid (Upto.trans (U3.out.setCell (q := ⟨pb, (a + 3).toNat, none⟩) (.inl hpb) (.int .u8 (v / 256 / 256 / 256 % 256))) o4)
  have HH4 := Lib.hid h4
  obtain ⟨g0, g1, g2, g3, g4⟩ := RX4.out
  obtain ⟨f0, f1, f2, f3, f4⟩ := RY4.out
  clear h4 o4
  go_wp2
  rw [rounds_succ]; go_wp2
  refine bodyPost_ret (v := .agg #[.int .i64 0, .int .u32 0]) (by simp [results, Try.results107, go_sem, g0, g1, g4]) rfl ⟨rfl, ?_, ?_⟩
  · exact HH4.out.upto (S := fun i => i = w.heap.size) (((Upto.refl (fun i => i = w.heap.size) _).setCell (q := ⟨w.heap.size, 0, none⟩) (.inl rfl) (.int .i64 0)).setCell (q := ⟨w.heap.size, 1, none⟩) (.inl rfl) (.int .u32 0)) (fun k hk h => hX (h ▸ hk))
  · exact (U4.out.setCell (q := ⟨w.heap.size, 0, none⟩) (.inr (Nat.le_refl _)) _).setCell (q := ⟨w.heap.size, 1, none⟩) (.inr (Nat.le_refl _)) _
theorem rstore_any (P : RP) (M : MM) (a n v : Int) (w : World) (h : RM P M w) (hM : MOk M) (a0 : 0 ≤ a) (a1 : a < 4294967296) (v0 : 0 ≤ v) (v1 : v < 4294967296) :
    Calls Try.prog 107 #[.pointer (some ⟨P.q, 0, none⟩), .int .u32 a, .int .i64 n, .int .u32 v] w fun e w' => e = .returned (stpV 6 (sto M a n)) ∧ RM P (stm M a n v) w' ∧ Upto P.S w w' := by
  have keep : ∀ {e' : Ending}, (Calls Try.prog 107 #[.pointer (some ⟨P.q, 0, none⟩), .int .u32 a, .int .i64 n, .int .u32 v] w fun e w' => e = e' ∧ Below w.heap.size w w') →
      Calls Try.prog 107 #[.pointer (some ⟨P.q, 0, none⟩), .int .u32 a, .int .i64 n, .int .u32 v] w fun e w' => e = e' ∧ RM P M w' ∧ Upto P.S w w' := by
    intro e' hc
    exact hc.mono fun e w' ⟨he, hb⟩ => ⟨he, h.upto (Upto.of_below (S := fun _ => False) hb) (fun _ _ => id), Upto.of_below hb⟩
  unfold sto stm
  by_cases hn : n = 1 ∨ n = 2 ∨ n = 4
  · rw [if_pos hn, if_pos hn]
    obtain ⟨o, ho⟩ : ∃ o, srch M 2 a n.toNat = o := ⟨_, rfl⟩
    rw [ho]
    rcases o with _ | x
    · simp only [Option.isNone_none, if_true, stpV]
      rcases hn with rfl | rfl | rfl
      · exact rstore_1 P M a v w h hM a0 a1 v0 v1 ho
      · exact rstore_2 P M a v w h hM a0 a1 v0 v1 ho
      · exact rstore_4 P M a v w h hM a0 a1 v0 v1 ho
    · simp only [Option.isNone_some, Bool.false_eq_true, if_false, stpV]
      rcases hn with rfl | rfl | rfl
      · exact keep (rstore_bad1 P M a v x w h hM a0 a1 ho)
      · exact keep (rstore_bad2 P M a v x w h hM a0 a1 ho)
      · exact keep (rstore_bad4 P M a v x w h hM a0 a1 ho)
  · rw [if_neg hn, if_neg hn]
    exact keep (rstore_not P.q a n v w hn)
end Go.Proofs.Ytcjcmnnhmajocab.Me
