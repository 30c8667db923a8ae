/- mem.Memory: Protect, Rights, Mark, Touched. -/
import Derived.Test.YtcjcmnnhmajocacMeA
namespace Go.Proofs.Ytcjcmnnhmajocac.Me
open Go.RowKit Kt
set_option linter.unusedVariables false
set_option linter.unusedSimpArgs false
theorem HM.setRt {p : Nat} {M : MM} {n : Int} {W : World} (h : HM p M n W) (k : Nat) (hk : k < 256) (x : Int) : HM p { M with rt := upd M.rt k x } n (W.setCell ⟨p, 65536 + k, none⟩ (.int .u8 x)) := by
  obtain ⟨h1, h2, h3, h4, h5, h6, h7⟩ := h
  refine ⟨fun j hj => ?_, fun j hj => ?_, fun j hj => ?_, fun j hj => ?_, ?_, fun i => by simpa using h6 i, by simpa using h7⟩
  · rw [HM.cell_other (by omega)]; exact h1 j hj
  · by_cases hjk : j = k
    · subst hjk
      rw [World.cell?_setCell_same _ _ _ (h2 j hj)]
      simp [upd]
    · rw [HM.cell_other (by omega), h2 j hj]
      simp [upd, hjk]
  · rw [HM.cell_other (by omega)]; exact h3 j hj
  · rw [HM.cell_other (by omega)]; exact h4 j hj
  · rw [HM.cell_other (by omega)]; exact h5
theorem HM.setWd {p : Nat} {M : MM} {n : Int} {W : World} (h : HM p M n W) (k : Nat) (hk : k < 256) (b : Bool) : HM p { M with wd := upd M.wd k b } n (W.setCell ⟨p, 65792 + k, none⟩ (.bool b)) := by
  obtain ⟨h1, h2, h3, h4, h5, h6, h7⟩ := h
  refine ⟨fun j hj => ?_, fun j hj => ?_, fun j hj => ?_, fun j hj => ?_, ?_, fun i => by simpa using h6 i, by simpa using h7⟩
  · rw [HM.cell_other (by omega)]; exact h1 j hj
  · rw [HM.cell_other (by omega)]; exact h2 j hj
  · by_cases hjk : j = k
    · subst hjk
      rw [World.cell?_setCell_same _ _ _ (h3 j hj)]
      simp [upd]
    · rw [HM.cell_other (by omega), h3 j hj]
      simp [upd, hjk]
  · rw [HM.cell_other (by omega)]; exact h4 j hj
  · rw [HM.cell_other (by omega)]; exact h5
theorem Only.trans {p : Nat} {a b c : World} (h : Only p a b) (k : Only p b c) : Only p a c :=
  ⟨k.1.trans h.1, fun g hg => (k.2.1 g hg).trans (h.2.1 g hg), fun B hB => (h.2.2 B hB).trans (k.2.2 B hB)⟩
/-- rights of a page -/
def prt (M : MM) (k : Nat) (x : Int) : MM := { (if M.rt k = x then M else chg M k) with rt := upd M.rt k x }
def prtN (M : MM) (n : Int) (k : Nat) (x : Int) : Int := if M.rt k = x then n else chgN M n k
theorem chg_rt (M : MM) (k : Nat) : (chg M k).rt = M.rt := by unfold chg; split <;> rfl
end Go.Proofs.Ytcjcmnnhmajocac.Me
