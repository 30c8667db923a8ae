/- crossgrainref2.Memory.use. -/
import Derived.Test.YtcjcmnnhmajocaaMeM
import Derived.Test.YtcjcmnnhmajocaaMeF
import Derived.Test.YtcjcmnnhmajocaaMeI
namespace Go.Proofs.Ytcjcmnnhmajocaa.Me
open Go.RowKit Kt
set_option linter.unusedVariables false
set_option linter.unusedSimpArgs false
set_option maxRecDepth 100000 in
set_option maxHeartbeats 2000000 in
theorem ruse (P : RP) (M : MM) (a n r kind : Int) (w : World) (h : RM P M w) (hM : MOk M) (hr : r = 1 ∨ r = 2 ∨ r = 4) (a0 : 0 ≤ a) (a1 : a < 4294967296) (n1 : n < 9223372036854775808) :
    Calls Try.prog 118 #[.pointer (some ⟨P.q, 0, none⟩), .int .u32 a, .int .i64 n, .int .i64 r, .int .i64 kind] w fun e w' => e = .returned (stpV kind (srch M r a n.toNat)) ∧ Below w.heap.size w w' := by
  have q1 := h.hq1
  have HH := Lib.hid h
  have HM' := Lib.hid hM
  have HR := Lib.hid hr
  have r0 : 0 < r := by omega
  have r1 : r ≤ 4 := by omega
  have rn : (r == 0) = false := by rw [beq_eq_false_iff_ne]; omega
  have lq := h.lq
  have lr := h.lr
  have b0 := Lib.hid (fun o => (Below.refl w.heap.size w).alloc (Nat.le_refl _) o)
  obtain ⟨pq, pb, pr, pm, pt⟩ := P
  simp only at q1 lq lr
  clear h hM hr
  go_enter Try.func118, Try.ntmps118
  go_wp2
  go_loopg [11] n.toNat (fun g i wr => ∃ k : Nat, g = n.toNat - k ∧ k ≤ n.toNat ∧ i = .int .i64 k ∧ Hid (∀ j, j < k → useB M r (plc a j) = true) ∧ wr = w.alloc (.cells #[.int .i64 0, .int .u32 0] 131))
  case atStart => exact ⟨0, rfl, Nat.zero_le _, rfl, fun j hj => absurd hj (by omega), rfl⟩
  case round =>
    obtain ⟨k, hg, hk, rfl, hA, rfl⟩ := hrel
    by_cases hlt : k < n.toNat
    · have hlt' : (k : Int) < n := by omega
      have k0 : (0 : Int) ≤ (k : Int) := by omega
      have hx := plc_bd a k
      have ex : (a + (k : Int) % 4294967296) % 4294967296 = plc a k := by unfold plc; omega
      obtain ⟨x0, x1⟩ := hx
      obtain ⟨x, hxx⟩ : ∃ x, plc a k = x := ⟨_, rfl⟩
      rw [hxx] at x0 x1 ex
      have HX := Lib.hid hxx
      clear hxx
      by_cases hm : 65535 < x
      · go_wp2
        refine bodyPost_ret (v := .agg #[.int .i64 kind, .int .u32 x]) (by simp [results, Try.results118, go_sem]) rfl ⟨?_, ?_⟩
        · have hu2' : useB M r x = false := by unfold useB; rw [decide_eq_false (by omega)]; rfl
          rw [srch_some k hlt hA (by rw [HX.out]; exact hu2'), HX.out]; rfl
        · exact b0.out _
      · have hm' : x ≤ 65535 := by omega
        have q0 : (x / 256).toNat < 256 := by omega
        have c2 := HH.out.hr (x / 256).toNat q0
        have hu2 : useB M r x = decide (M.rt (x / 256).toNat / r % 2 = 1) := by
          unfold useB; rw [decide_eq_true (show x < 65536 by omega)]; rfl
        simp only at c2
        have yb := HM'.out.2 (x / 256).toNat
        generalize M.rt (x / 256).toNat = y at c2 hu2 yb
        obtain ⟨y0, y1⟩ := yb
        have d0 : 0 ≤ y / r := Int.ediv_nonneg (by omega) (by omega)
        have d1 : y / r ≤ y := Int.ediv_le_self _ (by omega)
        have d2 : y / r < 8 := by omega
        by_cases hd : y / r % 2 = 1
        · have hu2' := Lib.hid (hu2.trans (decide_eq_true hd))
          have hz : (y / r % 2 == 0) = false := by rw [beq_eq_false_iff_ne]; omega
          clear hd hu2
          go_wp2
          go_roundg (n.toNat - (k + 1))
          case measure => omega
          case rel => exact ⟨k + 1, rfl, by omega, by simp, use_snoc hA HX hu2', rfl⟩
        · have hu2' := Lib.hid (hu2.trans (decide_eq_false hd))
          have hz : (y / r % 2 == 0) = true := by rw [beq_iff_eq]; omega
          clear hd hu2
          go_wp2
          refine bodyPost_ret (v := .agg #[.int .i64 kind, .int .u32 x]) (by simp [results, Try.results118, go_sem]) rfl ⟨?_, ?_⟩
          · rw [srch_some k hlt hA (by rw [HX.out]; exact hu2'.out), HX.out]; rfl
          · exact b0.out _
    · have hge : ¬ (k : Int) < n := by omega
      have hkn : k = n.toNat := by omega
      have HK := Lib.hid hkn
      clear hkn
      go_wp2
      refine bodyPost_ret (v := .agg #[.int .i64 0, .int .u32 0]) (by simp [results, Try.results118, go_sem]) rfl ⟨?_, ?_⟩
      · rw [srch_none (fun j hj => hA.out j (by rw [HK.out]; exact hj))]; rfl
      · exact b0.out _
end Go.Proofs.Ytcjcmnnhmajocaa.Me
