/- crossgrainref1.Size. -/
import Derived.Lib.ConvBytes
import Derived.Test.YtcjcmnnhmajocabGreatPlbe
import Derived.Test.YtcjcmnnhmajocabGreatPlbk
set_option linter.unusedVariables false
set_option linter.unusedSimpArgs false
set_option maxRecDepth 100000
set_option maxHeartbeats 16000000
namespace Go.Proofs.YtcjcmnnhmajocabGreat.Gu
open Go.RowKit
def fndFrom (x : Int) : List Fm → Int → Int
 | [], _ => -1
 | f :: l, i => if f.first ≤ x ∧ x < f.first + f.n then i else fndFrom x l (i + 1)
theorem ftab_get (j r : Nat) (hr : r < 4) : ftab[j * 4 + r]? = (fms[j]?).bind fun f => f.cells[r]? := by
 have h : ∀ (l : List Fm) (j : Nat), (l.flatMap Fm.cells)[j * 4 + r]? = (l[j]?).bind fun f => f.cells[r]? := by
  intro l
  induction l with
  | nil => intro j; simp
  | cons f l ih =>
   intro j
   have h4 : f.cells.length = 4 := rfl
   rw [List.flatMap_cons]
   cases j with
   | zero => rw [Nat.zero_mul, Nat.zero_add, List.getElem?_append_left (by omega)]; simp
   | succ j => rw [List.getElem?_append_right (by omega), h4, show (j + 1) * 4 + r - 4 = j * 4 + r by omega, ih j]; simp
 rw [← Array.getElem?_toList, ftab_eq]
 exact h fms j
theorem fms_len : fms.length = 32 := rfl
theorem fms_ok : ∀ f ∈ fms, 0 ≤ f.first ∧ f.first < 256 ∧ 0 < f.n ∧ f.n ≤ 16 := by decide +kernel
theorem find_any (x : Int) (w : World) : Calls Tryz.prog 137 #[.int .i64 x] w fun e w' => e = .returned (.int .i64 (fndFrom x fms 0)) ∧ Below w.heap.size w w' := by
 go_enter Tryz.func137, Tryz.ntmps137
 go_wp2_with (go_at_call 99; refine (forms_any _).mono ?_; rintro e w1 ⟨rfl, rfl⟩)
 have hB := heap_alloc_new w (.cells ftab 180)
 have hb0 : Below w.heap.size w (w.alloc (.cells ftab 180)) := (Below.refl _ _).alloc (Nat.le_refl _) _
 have hlt : w.heap.size < (w.alloc (.cells ftab 180)).heap.size := by simp
 generalize w.alloc (.cells ftab 180) = wA at hB hb0 hlt ⊢
 generalize hg : w.heap.size = g at hB hb0 hlt ⊢
 have HG := κ hg
 have HB := κ hB
 clear hg hB
 go_loopg [7] 32 (fun k i wr => ∃ j : Nat, k = 32 - j ∧ j ≤ 32 ∧ i = .int .i64 j ∧ Hid (fndFrom x fms 0 = fndFrom x (fms.drop j) j) ∧ Below wA.heap.size wA wr)
 case atStart => exact ⟨0, rfl, by omega, rfl, rfl, Below.refl _ _⟩
 case round =>
  obtain ⟨j, hk, hj, rfl, hsc, hb⟩ := hrel
  have HK := κ hk
  clear hk
  have hblk : wr.heap[g]? = some (.cells ftab 180 (0, 0)) := (hb.block g hlt).trans HB.out
  have hgr : g < wr.heap.size := (Array.getElem?_eq_some_iff.1 hblk).1
  by_cases hlt32 : j < 32
  ·obtain ⟨f, hf⟩ : ∃ f, fms[j]? = some f := ⟨fms[j]'(by rw [fms_len]; exact hlt32), List.getElem?_eq_getElem _⟩
   have hfo := fms_ok f (List.mem_of_getElem? hf)
   have hdrop : fms.drop j = f :: fms.drop (j + 1) := by
    have hjl : j < fms.length := by rw [fms_len]; exact hlt32
    rw [List.drop_eq_getElem_cons hjl]
    have := (List.getElem?_eq_some_iff.1 hf).2
    rw [this]
   rw [hdrop, fndFrom] at hsc
   obtain ⟨f0, fn, fi, fb⟩ := f
   have c0 : wr.cell? ⟨g, j * 4, none⟩ = some (.int .i64 f0) := by rw [cell_of_row wr g _ _ _ _ hblk]; have := ftab_get j 0 (by omega); rw [hf] at this; exact this
   have c1 : wr.cell? ⟨g, j * 4 + 1, none⟩ = some (.int .i64 fn) := by rw [cell_of_row wr g _ _ _ _ hblk, ftab_get j 1 (by omega), hf]; rfl
   have c2 : wr.cell? ⟨g, j * 4 + 2, none⟩ = some (.string fi) := by rw [cell_of_row wr g _ _ _ _ hblk, ftab_get j 2 (by omega), hf]; rfl
   have c3 : wr.cell? ⟨g, j * 4 + 3, none⟩ = some (.string fb) := by rw [cell_of_row wr g _ _ _ _ hblk, ftab_get j 3 (by omega), hf]; rfl
   dsimp only at hfo hsc
   obtain ⟨o1, o2, o3, o4⟩ := hfo
   have hlt' : (j : Int) < 32 := by omega
   clear hblk hf hdrop
   by_cases hin : f0 ≤ x ∧ x < f0 + fn
   ·rw [if_pos hin] at hsc
    obtain ⟨i1, i2⟩ := hin
    go_wp2
    go_ret
    exact ⟨by rw [hsc.out]; rfl, by rw [HG.out]; exact hb0.trans ((hb.mono (by omega)).alloc (by omega) _)⟩
   ·rw [if_neg hin] at hsc
    by_cases i1 : f0 ≤ x
    ·have i2 : ¬ x < f0 + fn := by omega
     go_wp2
     go_roundg (32 - (j + 1))
     case measure =>
      have := HK.out
      omega
     case rel => exact ⟨j + 1, rfl, by omega, by simp, hsc, hb.alloc hb.size _⟩
    ·go_wp2
     go_roundg (32 - (j + 1))
     case measure =>
      have := HK.out
      omega
     case rel => exact ⟨j + 1, rfl, by omega, by simp, hsc, hb.alloc hb.size _⟩
  ·obtain rfl : j = 32 := by omega
   go_wp2
   go_ret
   exact ⟨by rw [hsc.out]; rfl, by rw [HG.out]; exact hb0.trans (hb.mono (by omega))⟩
theorem below_bytes (w : World) (e : TypeId) (s : ByteArray) : Below w.heap.size w (Lib.bytesWorld w e s) :=
 ⟨rfl, rfl, rfl, by rw [Lib.bytesWorld_size]; omega, fun j hj => Lib.bytesWorld_at_old w e s j hj⟩
def wsz : List UInt8 → Int
 | [] => 0
 | c :: l => (if (c.toNat : Int) == 119 then 4 else 1) + wsz l
theorem wsz_take (l : List UInt8) (j : Nat) (hj : j < l.length) : wsz (l.take (j + 1)) = wsz (l.take j) + (if ((l.getD j 0).toNat : Int) == 119 then 4 else 1) := by
 induction l generalizing j with
 | nil => simp at hj
 | cons c l ih =>
  cases j with
  | zero => simp [wsz]
  | succ j =>
   simp only [List.length_cons] at hj
   rw [List.take_succ_cons, List.take_succ_cons, wsz, wsz, ih j (by omega)]
   simp only [List.getD_cons_succ]
   omega
theorem wsz_range (l : List UInt8) : 0 ≤ wsz l ∧ wsz l ≤ 4 * l.length := by
 induction l with
 | nil => simp [wsz]
 | cons c l ih =>
  rw [wsz, List.length_cons]
  split <;> omega
theorem fms_beh : ∀ f ∈ fms, f.beh.size ≤ 2 := by decide +kernel
theorem rsize_some (x : Int) (j : Nat) (f0 fn : Int) (fi s : ByteArray) (hj : j < 32) (hf : fms[j]? = some ⟨f0, fn, fi, s⟩) (hx : fndFrom x fms 0 = (j : Int)) (w : World) :
  Calls Tryz.prog 88 #[.int .i64 x] w fun e w' => e = .returned (.int .i64 (1 + wsz s.data.toList)) ∧ Below w.heap.size w w' := by
 have hs2 : s.size ≤ 2 := fms_beh _ (List.mem_of_getElem? hf)
 have hlen : s.data.toList.length = s.size := by simp
 generalize hL : s.data.toList = l at hlen ⊢
 have HL := κ hL
 clear hL
 have HF := κ (find_any x)
 have H2 := κ hf
 rw [hx] at HF
 have kc : ∀ w : World, (convert 9 34 (.string s)).run Tryz.prog w = .ok (.slice (some ⟨w.heap.size, 0, none⟩) s.size (grownCap w s.size 0 5)) (Lib.bytesWorld w 5 s) := fun w => Lib.run_convert_string_bytes w 9 34 5 s Tryz.underlying9 Tryz.underlying34 Tryz.underlying5
 have hj0 : (0 : Int) ≤ (j : Int) := by omega
 have hj1 : (j : Int) < 32 := by omega
 clear hf hx
 go_enter Tryz.func88, Tryz.ntmps88
 go_wp2_with (first
  | (go_at_call 137; refine (HF.out _).mono ?_; rintro e w1 ⟨rfl, hb1⟩)
  | (go_at_call 99; refine (forms_any _).mono ?_; rintro e w2 ⟨rfl, rfl⟩; have hB := heap_alloc_new w1 (.cells ftab 180); have c3 : (w1.alloc (.cells ftab 180)).cell? ⟨w1.heap.size, j * 4 + 3, none⟩ = some (.string s) := by rw [cell_of_row _ _ _ _ _ _ hB, ftab_get j 3 (by omega), H2.out]; rfl))
 have hb2 : Below w1.heap.size w1 (Lib.bytesWorld (w1.alloc (.cells ftab 180)) 5 s) := ((Below.refl _ _).alloc (Nat.le_refl _) _).trans ((below_bytes _ _ _).mono (by simp))
 have hcell := fun i hi => Lib.bytesWorld_cell (w1.alloc (.cells ftab 180)) 5 s i hi
 have hbs := Lib.bytesWorld_size (w1.alloc (.cells ftab 180)) 5 s
 simp only [World.size_alloc] at hcell hbs
 simp only [HL.out] at hcell
 have HC := κ hcell
 clear hcell kc c3 hB
 generalize Lib.bytesWorld (w1.alloc (.cells ftab 180)) 5 s = wB at HC hb2 hbs ⊢
 generalize grownCap (w1.alloc (.cells ftab 180)) s.size 0 5 = cp
 generalize s.size = z at HC hlen hs2 ⊢
 go_loopg [4, 18] z (fun k n i wr => ∃ q : Nat, k = z - q ∧ q ≤ z ∧ i = .int .i64 q ∧ n = .int .i64 (1 + wsz (l.take q)) ∧ wB = wr)
 case atStart => exact ⟨0, rfl, Nat.zero_le _, rfl, by simp [wsz], rfl⟩
 case round =>
  obtain ⟨q, hk, hq, rfl, rfl, rfl⟩ := hrel
  have HK := κ hk
  have hr := wsz_range (l.take q)
  have hl : (l.take q).length ≤ 2 := by rw [List.length_take]; omega
  clear hk
  by_cases hlt : q < z
  ·have hstep := wsz_take l q (by omega)
   have c0 := HC.out q hlt
   generalize wsz (l.take q) = S at hr hstep
   generalize ((l.getD q 0).toNat : Int) = c at c0 hstep
   have HS := κ hstep
   have hlt' : (q : Int) < (z : Int) := by omega
   obtain ⟨r0, r1⟩ := hr
   clear hstep
   by_cases hc : c = 119
   ·subst hc
    go_wp2
    go_roundg (z - (q + 1))
    case measure =>
     have := HK.out
     omega
    case rel => exact ⟨q + 1, rfl, by omega, by simp, by rw [HS.out]; simp; omega, rfl⟩
   ·have hc1 : (c == 119) = false := by rw [beq_eq_false_iff_ne]; exact hc
    go_wp2
    go_roundg (z - (q + 1))
    case measure =>
     have := HK.out
     omega
    case rel => exact ⟨q + 1, rfl, by omega, by simp, by rw [HS.out, hc1]; simp; omega, rfl⟩
  ·obtain rfl : q = z := by omega
   have ht : l.take q = l := List.take_of_length_le (by omega)
   rw [ht]
   go_wp2
   go_ret
   exact ⟨rfl, hb1.trans (hb2.mono hb1.size)⟩
theorem fnd_spec (x : Int) : ∀ (l : List Fm) (i : Int), fndFrom x l i = -1 ∨ ∃ (j : Nat) (f : Fm), l[j]? = some f ∧ fndFrom x l i = i + j ∧ f.first ≤ x ∧ x < f.first + f.n
 | [], i => .inl rfl
 | f :: l, i => by
  by_cases h : f.first ≤ x ∧ x < f.first + f.n
  ·exact .inr ⟨0, f, rfl, by simp [fndFrom, h], h.1, h.2⟩
  ·rw [fndFrom, if_neg h]
   rcases fnd_spec x l (i + 1) with h1 | ⟨j, g, h1, h2, h3⟩
   ·exact .inl h1
   ·exact .inr ⟨j + 1, g, by simpa using h1, by rw [h2]; push_cast; omega, h3⟩
def rsz (x : Int) : Int := if fndFrom x fms 0 < 0 then 0 else match fms[(fndFrom x fms 0).toNat]? with
 | some f => 1 + wsz f.beh.data.toList
 | none => 0
theorem rsize_none (x : Int) (hx : fndFrom x fms 0 = -1) (w : World) : Calls Tryz.prog 88 #[.int .i64 x] w fun e w' => e = .returned (.int .i64 0) ∧ Below w.heap.size w w' := by
 have HF := κ (find_any x)
 rw [hx] at HF
 clear hx
 go_enter Tryz.func88, Tryz.ntmps88
 go_wp2_with (go_at_call 137; refine (HF.out _).mono ?_; rintro e w1 ⟨rfl, hb1⟩)
 go_ret
 exact ⟨rfl, hb1⟩
theorem rsize_any (x : Int) (w : World) : Calls Tryz.prog 88 #[.int .i64 x] w fun e w' => e = .returned (.int .i64 (rsz x)) ∧ Below w.heap.size w w' := by
 rcases fnd_spec x fms 0 with h | ⟨j, f, h1, h2, _, _⟩
 ·rw [show rsz x = 0 by unfold rsz; rw [h]; rfl]
  exact rsize_none x h w
 ·rw [Int.zero_add] at h2
  have hj : j < 32 := by
   have := (List.getElem?_eq_some_iff.1 h1).1
   rwa [fms_len] at this
  rw [show rsz x = 1 + wsz f.beh.data.toList by unfold rsz; rw [h2, if_neg (by omega), Int.toNat_natCast, h1]]
  exact rsize_some x j f.first f.n f.inn f.beh hj h1 h2 w
theorem rsz_eq : ∀ n : Fin 256, rsz (n.val : Int) = shSize (rowOf (n.val : Int)).sh := by decide +kernel
theorem rsz_byte (b : Int) (h1 : 0 ≤ b) (h2 : b < 256) : rsz b = shSize (rowOf b).sh := by
 obtain ⟨n, rfl⟩ := Int.eq_ofNat_of_zero_le h1
 exact rsz_eq ⟨n, by omega⟩
end Go.Proofs.YtcjcmnnhmajocabGreat.Gu
