/- mem.Memory.bad: the first of n bytes that may not be used so. -/
import Derived.Test.YtcjcmnnhmajocaaMeE
import Derived.LoopTactic
import Derived.Deep.LoopGhost
import Derived.Deep.QuietTactic
import Derived.BigQuiet
import Derived.RegionTactic
import Derived.BigRegion
import Derived.Outline
namespace Go.Proofs.Ytcjcmnnhmajocaa.Me
open Go.RowKit Kt
set_option linter.unusedVariables false
set_option linter.unusedSimpArgs false
theorem use_snoc {M : MM} {r a x : Int} {k : Nat} (h : ∀ j, j < k → useB M r (plc a j) = true) (e : plc a k = x) (hu : useB M r x = true) : ∀ j, j < k + 1 → useB M r (plc a j) = true := by
  intro j hj
  by_cases hjk : j = k
  · subst hjk; rw [e]; exact hu
  · exact h j (by omega)
set_option maxRecDepth 100000 in
set_option maxHeartbeats 2000000 in
theorem bad_any (p : Nat) (M : MM) (N a n r : Int) (w : World) (h : HM p M N w) (hM : MOk M) (hr : r = 1 ∨ r = 2 ∨ r = 4) (a0 : 0 ≤ a) (a1 : a < 4294967296) (n1 : n < 9223372036854775808) :
    Calls Try.prog 117 #[.pointer (some ⟨p, 0, none⟩), .int .u32 a, .int .i64 n, .int .u8 r] w fun e w' => e = .returned (srV (srch M r a n.toNat)) ∧ w = w' := by
  have HH := Lib.hid h
  have HM' := Lib.hid hM
  have HR := Lib.hid hr
  have r0 : 0 ≤ r := by omega
  have r1 : r < 256 := by omega
  clear h hM hr
  go_enter Try.func117, Try.ntmps117
  go_wp2
  go_loopg [13] n.toNat (fun g i wr => ∃ k : Nat, g = n.toNat - k ∧ k ≤ n.toNat ∧ i = .int .i64 k ∧ Hid (∀ j, j < k → useB M r (plc a j) = true) ∧ w = wr)
  case atStart => exact ⟨0, rfl, Nat.zero_le _, rfl, fun j hj => absurd hj (by omega), rfl⟩
  case round =>
    obtain ⟨k, hg, hk, rfl, hA, rfl⟩ := hrel
    by_cases hlt : k < n.toNat
    · have hlt' : (k : Int) < n := by omega
      have k0 : (0 : Int) ≤ (k : Int) := by omega
      have hx := plc_bd a k
      have ex : (a + (k : Int) % 4294967296) % 4294967296 = plc a k := by unfold plc; omega
      obtain ⟨x0, x1⟩ := hx
      have EX := Lib.hid ex
      obtain ⟨x, hxx⟩ : ∃ x, plc a k = x := ⟨_, rfl⟩
      rw [hxx] at x0 x1 ex
      have HX := Lib.hid hxx
      clear hxx EX
      by_cases hm : x < 65536
      · have q0 : (x / 256).toNat < 256 := by omega
        have c2 := HH.out.2.1 (x / 256).toNat q0
        have hu := and_zero (M.rt (x / 256).toNat) r (HM'.out.2 _).1 (HM'.out.2 _).2 HR.out
        have hu2 : useB M r x = decide (M.rt (x / 256).toNat / r % 2 = 1) := by unfold useB; simp [hm]
        by_cases hd : M.rt (x / 256).toNat / r % 2 = 1
        · have hu2' := Lib.hid (hu2.trans (decide_eq_true hd))
          rw [decide_eq_true hd] at hu
          generalize M.rt (x / 256).toNat = y at c2 hu
          clear hd hu2
          go_wp2
          go_roundg (n.toNat - (k + 1))
          case measure => omega
          case rel => exact ⟨k + 1, rfl, by omega, by simp, use_snoc hA HX hu2', rfl⟩
        · have hu2' := Lib.hid (hu2.trans (decide_eq_false hd))
          rw [decide_eq_false hd] at hu
          generalize M.rt (x / 256).toNat = y at c2 hu
          clear hd hu2
          go_wp2
          go_ret2
          exact ⟨by rw [srch_some k hlt hA (by rw [HX.out]; exact hu2'.out), HX.out]; rfl, rfl⟩
      · go_wp2
        go_ret2
        have hu2' : useB M r x = false := by unfold useB; rw [decide_eq_false (by omega)]; rfl
        exact ⟨by rw [srch_some k hlt hA (by rw [HX.out]; exact hu2'), HX.out]; rfl, rfl⟩
    · have hge : ¬ (k : Int) < n := by omega
      go_wp2
      go_ret2
      obtain rfl : k = n.toNat := by omega
      exact ⟨by rw [srch_none hA]; rfl, rfl⟩
end Go.Proofs.Ytcjcmnnhmajocaa.Me
