/- mem.Memory: Protect, Rights, Mark, Touched. -/
import Derived.Test.YtcjcmnnhmajocaaMeA
namespace Go.Proofs.Ytcjcmnnhmajocaa.Me
open Go.RowKit Kt
set_option linter.unusedVariables false
set_option linter.unusedSimpArgs false
theorem HM.setRt {p : Nat} {M : MM} {n : Int} {W : World} (h : HM p M n W) (k : Nat) (hk : k < 256) (x : Int) : HM p { M with rt := upd M.rt k x } n (W.setCell ⟨p, 65536 + k, none⟩ (.int .u8 x)) := by
  obtain ⟨h1, h2, h3, h4, h5, h6, h7⟩ := h
  refine ⟨fun j hj => ?_, fun j hj => ?_, fun j hj => ?_, fun j hj => ?_, ?_, fun i => by simpa using h6 i, by simpa using h7⟩
  · rw [HM.cell_other (by omega)]; exact h1 j hj
  · by_cases hjk : j = k
    · subst hjk
      rw [World.cell?_setCell_same _ _ _ (h2 j hj)]
      simp [upd]
    · rw [HM.cell_other (by omega), h2 j hj]
      simp [upd, hjk]
  · rw [HM.cell_other (by omega)]; exact h3 j hj
  · rw [HM.cell_other (by omega)]; exact h4 j hj
  · rw [HM.cell_other (by omega)]; exact h5
theorem HM.setWd {p : Nat} {M : MM} {n : Int} {W : World} (h : HM p M n W) (k : Nat) (hk : k < 256) (b : Bool) : HM p { M with wd := upd M.wd k b } n (W.setCell ⟨p, 65792 + k, none⟩ (.bool b)) := by
  obtain ⟨h1, h2, h3, h4, h5, h6, h7⟩ := h
  refine ⟨fun j hj => ?_, fun j hj => ?_, fun j hj => ?_, fun j hj => ?_, ?_, fun i => by simpa using h6 i, by simpa using h7⟩
  · rw [HM.cell_other (by omega)]; exact h1 j hj
  · rw [HM.cell_other (by omega)]; exact h2 j hj
  · by_cases hjk : j = k
    · subst hjk
      rw [World.cell?_setCell_same _ _ _ (h3 j hj)]
      simp [upd]
    · rw [HM.cell_other (by omega), h3 j hj]
      simp [upd, hjk]
  · rw [HM.cell_other (by omega)]; exact h4 j hj
  · rw [HM.cell_other (by omega)]; exact h5
theorem Only.trans {p : Nat} {a b c : World} (h : Only p a b) (k : Only p b c) : Only p a c :=
  ⟨k.1.trans h.1, fun g hg => (k.2.1 g hg).trans (h.2.1 g hg), fun B hB => (h.2.2 B hB).trans (k.2.2 B hB)⟩
/-- rights of a page -/
def prt (M : MM) (k : Nat) (x : Int) : MM := { (if M.rt k = x then M else chg M k) with rt := upd M.rt k x }
def prtN (M : MM) (n : Int) (k : Nat) (x : Int) : Int := if M.rt k = x then n else chgN M n k
set_option maxRecDepth 100000 in
set_option maxHeartbeats 2000000 in
theorem protect_bad (p : Nat) (M : MM) (n k x : Int) (w : World) (h : HM p M n w) (hb : k < 0 ∨ 256 ≤ k ∨ x < 0 ∨ 7 < x) :
    Calls Try.prog 68 #[.pointer (some ⟨p, 0, none⟩), .int .i64 k, .int .i64 x] w fun e w' => e = .returned (.int .i64 4) ∧ w = w' := by
  have HP := Lib.hid (isPage_any k)
  have hp : k < 0 ∨ 256 ≤ k ∨ (0 ≤ k ∧ k < 256 ∧ (x < 0 ∨ 7 < x)) := by omega
  clear h hb
  rcases hp with hp | hp | ⟨p0, p1, hx | hx⟩
  · have e : (decide (0 ≤ k) && decide (k < 256)) = false := by simp; omega
    rw [e] at HP
    go_enter Try.func68, Try.ntmps68
    go_wp2_with (go_at_call 112; refine (HP.out _).mono ?_; rintro e w' ⟨rfl, rfl⟩)
    go_ret
    exact ⟨rfl, rfl⟩
  · have e : (decide (0 ≤ k) && decide (k < 256)) = false := by simp; omega
    rw [e] at HP
    go_enter Try.func68, Try.ntmps68
    go_wp2_with (go_at_call 112; refine (HP.out _).mono ?_; rintro e w' ⟨rfl, rfl⟩)
    go_ret
    exact ⟨rfl, rfl⟩
  · have e : (decide (0 ≤ k) && decide (k < 256)) = true := by simp; omega
    rw [e] at HP
    go_enter Try.func68, Try.ntmps68
    go_wp2_with (go_at_call 112; refine (HP.out _).mono ?_; rintro e w' ⟨rfl, rfl⟩)
    go_ret
    exact ⟨rfl, rfl⟩
  · have e : (decide (0 ≤ k) && decide (k < 256)) = true := by simp; omega
    rw [e] at HP
    have x0 : ¬ x < 0 := by omega
    go_enter Try.func68, Try.ntmps68
    go_wp2_with (go_at_call 112; refine (HP.out _).mono ?_; rintro e w' ⟨rfl, rfl⟩)
    go_ret
    exact ⟨rfl, rfl⟩
theorem chg_rt (M : MM) (k : Nat) : (chg M k).rt = M.rt := by unfold chg; split <;> rfl
set_option maxRecDepth 100000 in
set_option maxHeartbeats 2000000 in
theorem protect_ok (p : Nat) (M : MM) (n : Int) (k : Nat) (x : Int) (w : World) (h : HM p M n w) (hk : k < 256) (x0 : 0 ≤ x) (x7 : x ≤ 7) (n0 : 0 ≤ n) (n1 : n ≤ 256) :
    Calls Try.prog 68 #[.pointer (some ⟨p, 0, none⟩), .int .i64 (k : Int), .int .i64 x] w fun e w' => e = .returned (.int .i64 0) ∧ HM p (prt M k x) (prtN M n k x) w' ∧ Only p w w' := by
  have HP := Lib.hid (isPage_any (k : Int))
  have k0 : (0 : Int) ≤ (k : Int) := by omega
  have k1 : (k : Int) < 256 := by omega
  have e : (decide (0 ≤ (k : Int)) && decide ((k : Int) < 256)) = true := by simp; omega
  rw [e] at HP
  have c2 := h.2.1 k hk
  have z2 := h.2.2.2.2.2.1 (65536 + k)
  have HH := Lib.hid h
  have xa : ¬ x < 0 := by omega
  have xb : ¬ 7 < x := by omega
  unfold prt prtN
  by_cases hr : M.rt k = x
  · rw [if_pos hr, if_pos hr]
    rw [hr] at c2
    clear h hr
    go_enter Try.func68, Try.ntmps68
    go_wp2_with (go_at_call 112; refine (HP.out _).mono ?_; rintro e w' ⟨rfl, rfl⟩)
    go_ret
    exact ⟨rfl, HH.out.setRt k hk x, (Only.refl _ _).set _ _⟩
  · rw [if_neg hr, if_neg hr]
    have hrb : (M.rt k == x) = false := by rw [beq_eq_false_iff_ne]; exact hr
    have HC := Lib.hid (fun w (h : HM p M n w) => change_any p M n k w h hk n0 n1)
    generalize M.rt k = r at c2 hrb
    clear h hr
    go_enter Try.func68, Try.ntmps68
    go_wp2_with (first
      | (go_at_call 112; refine (HP.out _).mono ?_; rintro e w' ⟨rfl, rfl⟩)
      | (go_at_call 113; refine (HC.out _ HH.out).mono ?_; rintro e w1 ⟨rfl, h1, o1⟩; have d2 := h1.2.1 k hk; have y2 := h1.2.2.2.2.2.1 (65536 + k)))
    go_ret
    have h9 := h1.setRt k hk x
    rw [chg_rt] at h9
    exact ⟨rfl, h9, o1.set _ _⟩
set_option maxHeartbeats 1000000 in
theorem rights_any (p : Nat) (M : MM) (n k : Int) (w : World) (h : HM p M n w) (hrg : ∀ j, 0 ≤ M.rt j ∧ M.rt j < 256) :
    Calls Try.prog 84 #[.pointer (some ⟨p, 0, none⟩), .int .i64 k] w fun e w' => e = .returned (.int .i64 (if 0 ≤ k ∧ k < 256 then M.rt k.toNat else 0)) ∧ w = w' := by
  have HP := Lib.hid (isPage_any k)
  by_cases hk : 0 ≤ k ∧ k < 256
  · rw [if_pos hk]
    obtain ⟨k0, k1⟩ := hk
    obtain ⟨j, rfl⟩ := Int.eq_ofNat_of_zero_le k0
    have e : (decide (0 ≤ (j : Int)) && decide ((j : Int) < 256)) = true := by simp; omega
    rw [e] at HP
    have c2 := h.2.1 j (by omega)
    rw [Int.toNat_natCast]
    obtain ⟨g0, g1⟩ := hrg j
    generalize M.rt j = r at c2 g0 g1 ⊢
    clear h
    go_enter Try.func84, Try.ntmps84
    go_wp2_with (go_at_call 112; refine (HP.out _).mono ?_; rintro e w' ⟨rfl, rfl⟩)
    go_ret
    exact ⟨rfl, rfl⟩
  · rw [if_neg hk]
    have e : (decide (0 ≤ k) && decide (k < 256)) = false := by simp; omega
    rw [e] at HP
    clear h
    go_enter Try.func84, Try.ntmps84
    go_wp2_with (go_at_call 112; refine (HP.out _).mono ?_; rintro e w' ⟨rfl, rfl⟩)
    go_ret
    exact ⟨rfl, rfl⟩
end Go.Proofs.Ytcjcmnnhmajocaa.Me
