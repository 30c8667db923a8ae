/- mem.Memory: Mark, Touched. -/
import Derived.Test.YtcjcmnnhmajocacMeB
namespace Go.Proofs.Ytcjcmnnhmajocac.Me
open Go.RowKit Kt
set_option linter.unusedVariables false
set_option linter.unusedSimpArgs false
/-- a page is watched, or not -/
def mrk (M : MM) (k : Nat) (b : Bool) : MM := { (if b = false ∧ M.hi k = true then { M with hi := upd M.hi k false } else M) with wd := upd M.wd k b }
def mrkN (M : MM) (n : Int) (k : Nat) (b : Bool) : Int := if b = false ∧ M.hi k = true then n - 1 else n
set_option maxRecDepth 100000 in
set_option maxHeartbeats 2000000 in
theorem mark_bad (p : Nat) (k : Int) (b : Bool) (w : World) (hb : k < 0 ∨ 256 ≤ k) :
    Calls Try.prog 47 #[.pointer (some ⟨p, 0, none⟩), .int .i64 k, .bool b] w fun e w' => e = .returned (.int .i64 4) ∧ w = w' := by
  have HP := Lib.hid (isPage_any k)
  have e : (decide (0 ≤ k) && decide (k < 256)) = false := by simp; omega
  rw [e] at HP
  clear hb
  go_enter Try.func47, Try.ntmps47
  go_wp2_with (go_at_call 67; refine (HP.out _).mono ?_; rintro e w' ⟨rfl, rfl⟩)
  go_ret
  exact ⟨rfl, rfl⟩
set_option maxRecDepth 100000 in
set_option maxHeartbeats 2000000 in
theorem mark_ok (p : Nat) (M : MM) (n : Int) (k : Nat) (b : Bool) (w : World) (h : HM p M n w) (hk : k < 256) (n0 : 0 ≤ n) (n1 : n ≤ 256) :
    Calls Try.prog 47 #[.pointer (some ⟨p, 0, none⟩), .int .i64 (k : Int), .bool b] w fun e w' => e = .returned (.int .i64 0) ∧ HM p (mrk M k b) (mrkN M n k b) w' ∧ Only p w w' := by
  have HP := Lib.hid (isPage_any (k : Int))
  have k0 : (0 : Int) ≤ (k : Int) := by omega
  have k1 : (k : Int) < 256 := by omega
  have e : (decide (0 ≤ (k : Int)) && decide ((k : Int) < 256)) = true := by simp; omega
  rw [e] at HP
  have c3 := h.2.2.1 k hk
  have c4 := h.2.2.2.1 k hk
  have c5 := h.2.2.2.2.1
  have z3 := h.2.2.2.2.2.1 (65792 + k)
  have z4 := h.2.2.2.2.2.1 (66048 + k)
  have z5 := h.2.2.2.2.2.1 66304
  have HH := Lib.hid h
  have hne : 66048 + k ≠ 65792 + k := by omega
  clear h
  unfold mrk mrkN
  obtain ⟨bh, hh⟩ : ∃ bh, M.hi k = bh := ⟨_, rfl⟩
  rw [hh] at c4 ⊢
  clear hh
  cases b <;> cases bh
  all_goals go_enter Try.func47, Try.ntmps47
  all_goals go_wp2_with (go_at_call 67; refine (HP.out _).mono ?_; rintro e w' ⟨rfl, rfl⟩)
  all_goals go_ret
  all_goals first
    | exact ⟨rfl, HH.out.setWd k hk false, (Only.refl _ _).set _ _⟩
    | exact ⟨rfl, ((HH.out.setWd k hk false).setHi k hk false).setN (n - 1), (((Only.refl _ _).set _ _).set _ _).set _ _⟩
    | exact ⟨rfl, HH.out.setWd k hk true, (Only.refl _ _).set _ _⟩
end Go.Proofs.Ytcjcmnnhmajocac.Me
