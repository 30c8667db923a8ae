import Derived.Test.YtcjcmnnhmajocaaGuF
namespace Go.Proofs.Ytcjcmnnhmajocaa.Gu
open Go.RowKit
set_option linter.unusedVariables false
set_option linter.unusedSimpArgs false
def fndFrom (x : Int) : List Fm → Int → Int
  | [], _ => -1
  | f :: l, i => if f.first ≤ x ∧ x < f.first + f.n then i else fndFrom x l (i + 1)
theorem ftab_get (j r : Nat) (hr : r < 4) : ftab[j * 4 + r]? = (fms[j]?).bind fun f => f.cells[r]? := by
  have h : ∀ (l : List Fm) (j : Nat), (l.flatMap Fm.cells)[j * 4 + r]? = (l[j]?).bind fun f => f.cells[r]? := by
    intro l
    induction l with
    | nil => intro j; simp
    | cons f l ih =>
      intro j
      have h4 : f.cells.length = 4 := rfl
      rw [List.flatMap_cons]
      cases j with
      | zero => rw [Nat.zero_mul, Nat.zero_add, List.getElem?_append_left (by omega)]; simp
      | succ j => rw [List.getElem?_append_right (by omega), h4, show (j + 1) * 4 + r - 4 = j * 4 + r by omega, ih j]; simp
  rw [← Array.getElem?_toList, ftab_eq]
  exact h fms j
theorem fms_len : fms.length = 32 := rfl
theorem fms_ok : ∀ f ∈ fms, 0 ≤ f.first ∧ f.first < 256 ∧ 0 < f.n ∧ f.n ≤ 16 := by decide +kernel
set_option maxHeartbeats 4000000 in
theorem find_any (x : Int) (w : World) : Calls Try.prog 65 #[.int .i64 x] w fun e w' => e = .returned (.int .i64 (fndFrom x fms 0)) ∧ Below w.heap.size w w' := by
  go_enter Try.func65, Try.ntmps65
  go_wp2_with (go_at_call 66; refine (forms_any _).mono ?_; rintro e w1 ⟨rfl, rfl⟩)
  have hB := heap_alloc_new w (.cells ftab 116)
  have hb0 : Below w.heap.size w (w.alloc (.cells ftab 116)) := (Below.refl _ _).alloc (Nat.le_refl _) _
  have hlt : w.heap.size < (w.alloc (.cells ftab 116)).heap.size := by simp
  generalize w.alloc (.cells ftab 116) = wA at hB hb0 hlt ⊢
  generalize hg : w.heap.size = g at hB hb0 hlt ⊢
  have HG := Lib.hid hg
  have HB := Lib.hid hB
  clear hg hB
  go_loopg [7] 32 (fun k i wr => ∃ j : Nat, k = 32 - j ∧ j ≤ 32 ∧ i = .int .i64 j ∧ Hid (fndFrom x fms 0 = fndFrom x (fms.drop j) j) ∧ Below wA.heap.size wA wr)
  case atStart => exact ⟨0, rfl, by omega, rfl, rfl, Below.refl _ _⟩
  case round =>
    obtain ⟨j, hk, hj, rfl, hsc, hb⟩ := hrel
    have HK := Lib.hid hk
    clear hk
    have hblk : wr.heap[g]? = some (.cells ftab 116 (0, 0)) := (hb.block g hlt).trans HB.out
    have hgr : g < wr.heap.size := (Array.getElem?_eq_some_iff.1 hblk).1
    by_cases hlt32 : j < 32
    · obtain ⟨f, hf⟩ : ∃ f, fms[j]? = some f := ⟨fms[j]'(by rw [fms_len]; exact hlt32), List.getElem?_eq_getElem _⟩
      have hfo := fms_ok f (List.mem_of_getElem? hf)
      have hdrop : fms.drop j = f :: fms.drop (j + 1) := by
        have hjl : j < fms.length := by rw [fms_len]; exact hlt32
        rw [List.drop_eq_getElem_cons hjl]
        have := (List.getElem?_eq_some_iff.1 hf).2
        rw [this]
      rw [hdrop, fndFrom] at hsc
      obtain ⟨f0, fn, fi, fb⟩ := f
      have c0 : wr.cell? ⟨g, j * 4, none⟩ = some (.int .i64 f0) := by rw [cell_of_row wr g _ _ _ _ hblk]; have := ftab_get j 0 (by omega); rw [hf] at this; exact this
      have c1 : wr.cell? ⟨g, j * 4 + 1, none⟩ = some (.int .i64 fn) := by rw [cell_of_row wr g _ _ _ _ hblk, ftab_get j 1 (by omega), hf]; rfl
      have c2 : wr.cell? ⟨g, j * 4 + 2, none⟩ = some (.string fi) := by rw [cell_of_row wr g _ _ _ _ hblk, ftab_get j 2 (by omega), hf]; rfl
      have c3 : wr.cell? ⟨g, j * 4 + 3, none⟩ = some (.string fb) := by rw [cell_of_row wr g _ _ _ _ hblk, ftab_get j 3 (by omega), hf]; rfl
      dsimp only at hfo hsc
      obtain ⟨o1, o2, o3, o4⟩ := hfo
      have hlt' : (j : Int) < 32 := by omega
      clear hblk hf hdrop
      by_cases hin : f0 ≤ x ∧ x < f0 + fn
      · rw [if_pos hin] at hsc
        obtain ⟨i1, i2⟩ := hin
        go_wp2
        go_ret
        exact ⟨by rw [hsc.out]; rfl, by rw [HG.out]; exact hb0.trans ((hb.mono (by omega)).alloc (by omega) _)⟩
      · rw [if_neg hin] at hsc
        by_cases i1 : f0 ≤ x
        · have i2 : ¬ x < f0 + fn := by omega
          go_wp2
          go_roundg (32 - (j + 1))
          case measure =>
            have := HK.out
            omega
          case rel => exact ⟨j + 1, rfl, by omega, by simp, hsc, hb.alloc hb.size _⟩
        · go_wp2
          go_roundg (32 - (j + 1))
          case measure =>
            have := HK.out
            omega
          case rel => exact ⟨j + 1, rfl, by omega, by simp, hsc, hb.alloc hb.size _⟩
    · obtain rfl : j = 32 := by omega
      go_wp2
      go_ret
      exact ⟨by rw [hsc.out]; rfl, by rw [HG.out]; exact hb0.trans (hb.mono (by omega))⟩
end Go.Proofs.Ytcjcmnnhmajocaa.Gu
