/- Two memories side by side: what each call answers of both; numbers stay within their bounds. -/
import Derived.Deep.RegionLaw
import Derived.IntWalk
import Derived.Deep.OwnRows
import Derived.Test.YtcjcmnnhmajocabPoae
import Derived.Test.YtcjcmnnhmajocabPoag
import Derived.Test.YtcjcmnnhmajocabPoah
namespace Go.Proofs.Ytcjcmnnhmajocab.Me
open Go.RowKit Kt
set_option linter.unusedVariables false
set_option linter.unusedSimpArgs false
set_option maxRecDepth 100000 in
set_option maxHeartbeats 2000000 in
theorem rpoke_no (q : Nat) (a : Int) (ao : Option Addr) (n cap : Nat) (w : World) (ha : -9223372036854775808 ≤ a) (hn : ¬ (0 ≤ a ∧ 0 ≤ (n : Int) ∧ a ≤ 65536 ∧ (n : Int) ≤ 65536 - a)) :
    Calls Try.prog 57 #[.pointer (some ⟨q, 0, none⟩), .int .i64 a, .slice ao n cap] w fun e w' => e = .returned (.int .i64 4) ∧ w = w' := by
  rcases (show a < 0 ∨ (¬ a < 0 ∧ 65536 < a) ∨ (¬ a < 0 ∧ ¬ 65536 < a ∧ 65536 - a < n) by omega) with h1 | ⟨h1, h2⟩ | ⟨h1, h2, h4⟩
  all_goals clear hn
  all_goals go_enter Try.func57, Try.ntmps57
  all_goals go_wp2
  all_goals go_ret
  all_goals exact ⟨rfl, rfl⟩
theorem pk_snoc (M : MM) (at_ : Nat) (us : List Int) (b : Int) : pk M at_ (us ++ [b]) = wr1 (pk M at_ us) (at_ + us.length) b := by
  induction us generalizing M at_ with
  | nil => rfl
  | cons x xs ih =>
    show pk (chg _ _) (at_ + 1) (xs ++ [b]) = _
    rw [ih]
    show _ = wr1 (pk (chg _ _) (at_ + 1) xs) (at_ + (xs.length + 1)) b
    rw [show at_ + 1 + xs.length = at_ + (xs.length + 1) by omega]
theorem take_snoc' (us : List Int) (k : Nat) (h : k < us.length) : us.take (k + 1) = us.take k ++ [us.getD k 0] := by
  rw [List.take_succ_eq_append_getElem h, List.getD_eq_getElem?_getD, List.getElem?_eq_getElem h]; rfl
set_option maxRecDepth 100000 in
set_option maxHeartbeats 4000000 in
theorem rpoke_ok (P : RP) (M : MM) (a : Int) (us : List Int) (b off cap : Nat) (w : World) (h : RM P M w) (a0 : 0 ≤ a) (hn : a + us.length ≤ 65536) (hb : b < w.heap.size) (hP : ¬ P.has b)
    (hc : ∀ j, j < us.length → w.cell? ⟨b, off + j, none⟩ = some (.int .u8 (us.getD j 0))) :
    Calls Try.prog 57 #[.pointer (some ⟨P.q, 0, none⟩), .int .i64 a, .slice (some ⟨b, off, none⟩) us.length cap] w fun e w' => e = .returned (.int .i64 0) ∧ RM P (pk M a.toNat us) w' ∧ Upto P.S w w' := by
  have h1 : ¬ a < 0 := by omega
  have h2 : ¬ 65536 < a := by omega
  have h3 : ¬ 65536 - a < (us.length : Int) := by omega
  have HH := Lib.hid h
  have HCC := Lib.hid hc
  have HP := Lib.hid hP
  have HC := Lib.hid (rchange P)
  obtain ⟨L, hL⟩ : ∃ L, us.length = L := ⟨_, rfl⟩
  rw [hL] at hn h3 ⊢
  have HL := Lib.hid hL
  clear h hc hP hL
  go_enter Try.func57, Try.ntmps57
  go_wp2
  go_loopg [24] L (fun g i wr => ∃ k : Nat, g = L - k ∧ k ≤ L ∧ i = .int .i64 k ∧ Hid (RM P (pk M a.toNat (us.take k)) wr) ∧ Hid (Upto P.S w wr))
  case atStart => exact ⟨0, rfl, Nat.zero_le _, rfl, HH.out, Upto.refl _ _⟩
  case round =>
    obtain ⟨k, hg, hk, rfl, HR, UR⟩ := hrel
    by_cases hlt : k < L
    · have hlt' : (k : Int) < (L : Int) := by omega
      have e0 : 0 ≤ (a + (k : Int)) / 256 := by omega
      have e1 : (a + (k : Int)) / 256 < 256 := by omega
      have e2 : a + (k : Int) < 65536 := by omega
      have e3 : 0 ≤ a + (k : Int) := by omega
      have q0 := HR.out.hq0
      obtain ⟨⟨u, cu⟩, zu⟩ := HR.out.facts (a + k) e2
      have cs := (UR.out.cell (q := ⟨b, off + k, none⟩) hb HP.out).trans (HCC.out k (by rw [HL.out]; exact hlt))
      have H2 := Lib.hid (HR.out.setB (a + k).toNat (by omega) (us.getD k 0))
      have hts := Lib.hid (take_snoc' us k (by rw [HL.out]; exact hlt))
      have hln : (us.take k).length = k := by rw [List.length_take]; have := HL.out; omega
      have HLN := Lib.hid hln
      clear hln
      generalize us.getD k 0 = x at cs H2 hts
      go_wp2_with (go_at_call 102; refine (HC.out _ _ e0 e1 _ H2.out).mono ?_; rintro e w2 ⟨rfl, h2, o2⟩)
      go_roundg (L - (k + 1))
      case measure => omega
      case rel =>
        refine ⟨k + 1, rfl, by omega, by simp, ?_, Upto.trans (UR.out.setCell (q := ⟨P.b, (a + k).toNat, none⟩) (.inl (.inr (.inl rfl))) _) o2⟩
        rw [w1_at _ a k k _ a0 rfl] at h2
        show RM P (pk M a.toNat (us.take (k + 1))) w2
        rw [hts.out, pk_snoc, HLN.out]
        exact h2
    · have hkl : k = L := by omega
      have HK := Lib.hid hkl
      have hge : ¬ (k : Int) < (L : Int) := by omega
      clear hkl hlt
      go_wp2
      go_ret
      refine ⟨rfl, ?_, UR.out⟩
      have := HR.out
      rw [HK.out, ← HL.out, List.take_length] at this
      exact this
theorem rpoke_zero (P : RP) (a : Int) (ao : Option Addr) (cap : Nat) (w : World) (a0 : 0 ≤ a) (ha : a ≤ 65536) :
    Calls Try.prog 57 #[.pointer (some ⟨P.q, 0, none⟩), .int .i64 a, .slice ao 0 cap] w fun e w' => e = .returned (.int .i64 0) ∧ w = w' := by
  have h1 : ¬ a < 0 := by omega
  have h2 : ¬ 65536 < a := by omega
  have h3 : ¬ 65536 - a < 0 := by omega
  go_enter Try.func57, Try.ntmps57
  go_wp2
  refine wp_loop_rounds 1 ?_
  rw [rounds_succ]; go_wp2
  go_ret
  exact ⟨rfl, rfl⟩
theorem rpoke_any (P : RP) (M : MM) (a : Int) (us : List Int) (ao : Option Addr) (cap : Nat) (w : World) (h : RM P M w) (ha : -9223372036854775808 ≤ a) (hB : Gu.Bs us ao cap w) (hne : ∀ g, ao = some g → 0 < us.length → ¬ P.has g.block) :
    Calls Try.prog 57 #[.pointer (some ⟨P.q, 0, none⟩), .int .i64 a, .slice ao us.length cap] w fun e w' => e = .returned (.int .i64 (inE a us.length)) ∧ RM P (pok M a us) w' ∧ Upto P.S w w' := by
  unfold pok inE
  by_cases hi : inB a us.length = true
  · rw [if_pos hi, if_pos hi]
    obtain ⟨h1, h2, h3, h4⟩ := (inB_iff _ _).1 hi
    by_cases h0 : us.length = 0
    · obtain rfl : us = [] := List.length_eq_zero_iff.1 h0
      refine (rpoke_zero P a ao cap w h1 h3).mono ?_
      rintro e w' ⟨rfl, rfl⟩
      exact ⟨rfl, h, Upto.refl _ _⟩
    · obtain ⟨b, off, rfl, hb, hc⟩ := hB.2.2 (by omega)
      exact rpoke_ok P M a us b off cap w h h1 (by omega) hb (hne _ rfl (by omega)) hc
  · have hi' := hi
    rw [if_neg hi, if_neg hi]
    rw [inB_iff] at hi'
    refine (rpoke_no P.q a ao us.length cap w ha hi').mono ?_
    rintro e w' ⟨rfl, rfl⟩
    exact ⟨rfl, h, Upto.refl _ _⟩
end Go.Proofs.Ytcjcmnnhmajocab.Me
namespace Go.Proofs.Ytcjcmnnhmajocab.Me
open Go.RowKit Kt
set_option linter.unusedVariables false
set_option linter.unusedSimpArgs false
/-- the first n of a list are such; what stands behind them -/
def eat (p : Value → Bool) : Nat → List Value → Option (List Value)
  | 0, l => some l
  | _ + 1, [] => none
  | n + 1, v :: r => bif p v then eat p n r else none
theorem eat_spec {p : Value → Bool} {n : Nat} {l r : List Value} (h : eat p n l = some r) : r = l.drop n ∧ ∀ j, j < n → ∃ v, l[j]? = some v ∧ p v = true := by
  induction n generalizing l with
  | zero =>
    simp only [eat, Option.some.injEq] at h
    exact ⟨by rw [← h]; rfl, fun j hj => absurd hj (by omega)⟩
  | succ n ih =>
    cases l with
    | nil => simp [eat] at h
    | cons v l =>
      simp only [eat] at h
      cases hp : p v with
      | false => rw [hp] at h; cases h
      | true =>
        rw [hp] at h
        obtain ⟨h1, h2⟩ := ih h
        refine ⟨by rw [h1]; rfl, fun j hj => ?_⟩
        cases j with
        | zero => exact ⟨v, rfl, hp⟩
        | succ j => exact h2 j (by omega)
def isU8z : Value → Bool | .int .u8 0 => true | _ => false
def isBz : Value → Bool | .bool false => true | _ => false
def isIz : Value → Bool | .int .i64 0 => true | _ => false
theorem isU8z_eq {v : Value} (h : isU8z v = true) : v = .int .u8 0 := by
  unfold isU8z at h; split at h
  · rfl
  · cases h
theorem isBz_eq {v : Value} (h : isBz v = true) : v = .bool false := by
  unfold isBz at h; split at h
  · rfl
  · cases h
theorem isIz_eq {v : Value} (h : isIz v = true) : v = .int .i64 0 := by
  unfold isIz at h; split at h
  · rfl
  · cases h
def zeros (o : Option Value) : Bool := match o with
  | some (.agg cs) => match eat isU8z 65792 cs.toList with
    | some r => match eat isBz 512 r with
      | some r => match eat isIz 1 r with
        | some [] => true
        | _ => false
      | _ => false
    | _ => false
  | _ => false
theorem zero_mem : zeros (some (.agg Try.zeroCells144)) = true := by kernel_rfl
theorem zeros_spec {o : Option Value} (h : zeros o = true) : ∃ cs : Array Value, o = some (.agg cs) ∧ (∀ j, j < 65792 → cs[j]? = some (.int .u8 0)) ∧ (∀ j, j < 512 → cs[65792 + j]? = some (.bool false)) ∧ cs[66304]? = some (.int .i64 0) := by
  unfold zeros at h
  split at h
  · next cs =>
    refine ⟨cs, rfl, ?_⟩
    split at h
    · next r1 e1 =>
      split at h
      · next r2 e2 =>
        split at h
        · next e3 =>
          obtain ⟨d1, s1⟩ := eat_spec e1
          obtain ⟨d2, s2⟩ := eat_spec e2
          obtain ⟨d3, s3⟩ := eat_spec e3
          refine ⟨fun j hj => ?_, fun j hj => ?_, ?_⟩
          · obtain ⟨v, hv, hp⟩ := s1 j hj
            rw [isU8z_eq hp] at hv
            rw [← Array.getElem?_toList]; exact hv
          · obtain ⟨v, hv, hp⟩ := s2 j hj
            rw [isBz_eq hp, d1, List.getElem?_drop] at hv
            rw [← Array.getElem?_toList]; exact hv
          · obtain ⟨v, hv, hp⟩ := s3 0 (by omega)
            rw [isIz_eq hp, d2, d1, List.drop_drop, List.getElem?_drop] at hv
            rw [← Array.getElem?_toList]; exact hv
        · cases h
      · cases h
    · cases h
  · cases h
def M0 : MM := ⟨fun _ => 0, fun _ => 0, fun _ => false, fun _ => false⟩
set_option maxRecDepth 100000 in
set_option maxHeartbeats 2000000 in
theorem new_any (w : World) : Calls Try.prog 54 #[] w fun e w' => e = .returned (.pointer (some ⟨w.heap.size, 0, none⟩)) ∧ HC w.heap.size M0 w' ∧ Below w.heap.size w w' ∧ w'.heap.size = w.heap.size + 1 := by
  obtain ⟨cs, hcs, k1, k2, k3⟩ := zeros_spec zero_mem
  simp only [Option.some.injEq, Value.agg.injEq] at hcs
  have HK1 := Lib.hid k1
  have HK2 := Lib.hid k2
  have HK3 := Lib.hid k3
  have HZ := Lib.hid hcs
  clear hcs k1 k2 k3
  go_enter Try.func54, Try.ntmps54
  go_wp2
  go_ret
  rw [HZ.out]
  refine ⟨rfl, ?_, (Below.refl _ _).alloc (Nat.le_refl _) _, by simp⟩
  have e := heap_alloc_new w (.cells cs 144)
  have hc : ∀ i, (w.alloc (.cells cs 144)).cell? ⟨w.heap.size, i, none⟩ = cs[i]? := fun i => cell_of_row _ _ _ _ _ _ e
  refine ⟨fun j hj => ?_, fun j hj => ?_, fun j hj => ?_, fun j hj => ?_, ?_, fun i => frozen_of_row _ _ _ _ _ e, by simp⟩
  · rw [hc]; exact HK1.out j (by omega)
  · rw [hc]; exact HK1.out (65536 + j) (by omega)
  · rw [hc]; exact HK2.out j (by omega)
  · rw [hc, show 66048 + j = 65792 + (256 + j) by omega]; exact HK2.out (256 + j) (by omega)
  · rw [hc, HK3.out, show cnt M0.hi = 0 from cnt_no]
end Go.Proofs.Ytcjcmnnhmajocab.Me
namespace Go.Proofs.Ytcjcmnnhmajocab.Me
open Go.RowKit Kt
set_option linter.unusedVariables false
set_option linter.unusedSimpArgs false
/-- a new block of so many cells, all the same -/
def Rep (z : Value) (n : Nat) : Array Value := madeCells #[z] n
theorem Rep.get (z : Value) (n i : Nat) (h : i < n) : (Rep z n)[i]? = some z := by unfold Rep; simp [madeCells, h, Nat.mod_one]
theorem blk_top (w : World) (o : Obj) (k : Nat) (h : w.heap.size = k) : (w.alloc o).heap[k]? = some o := by subst h; exact heap_alloc_new w o
theorem blk_old {w : World} {o o' : Obj} {k : Nat} (h : w.heap[k]? = some o) : (w.alloc o').heap[k]? = some o := by
  rw [Below.heap_alloc w o' k (Array.getElem?_eq_some_iff.1 h).1]; exact h
theorem fresh5 (w W4 : World) (q b r m t : Nat) (hb0 : Below w.heap.size w W4) (hq : W4.heap.size = q)
    (hb : W4.heap[b]? = some (.cells (Rep (.int .u8 0) 65536) 5 (0, 0))) (hr : W4.heap[r]? = some (.cells (Rep (.int .i64 0) 256) 3 (0, 0))) (hm : W4.heap[m]? = some (.cells (Rep (.bool false) 256) 4 (0, 0))) (ht : W4.heap[t]? = some (.cells (Rep (.bool false) 256) 4 (0, 0)))
    (hge : w.heap.size ≤ b ∧ w.heap.size ≤ r ∧ w.heap.size ≤ m ∧ w.heap.size ≤ t) (hne : b ≠ r ∧ b ≠ m ∧ b ≠ t ∧ r ≠ m ∧ r ≠ t ∧ m ≠ t) :
    ∃ P : RP, Ending.returned (.pointer (some ⟨q, 0, none⟩)) = Ending.returned (.pointer (some ⟨P.q, 0, none⟩)) ∧ RM P M0 (W4.alloc (.cells #[.slice (some ⟨b, 0, none⟩) 65536 65536, .slice (some ⟨r, 0, none⟩) 256 256, .slice (some ⟨m, 0, none⟩) 256 256, .slice (some ⟨t, 0, none⟩) 256 256] 81)).drew ∧
      Below w.heap.size w (W4.alloc (.cells #[.slice (some ⟨b, 0, none⟩) 65536 65536, .slice (some ⟨r, 0, none⟩) 256 256, .slice (some ⟨m, 0, none⟩) 256 256, .slice (some ⟨t, 0, none⟩) 256 256] 81)).drew ∧ (∀ k, P.has k → w.heap.size ≤ k) := by
  have lb := (Array.getElem?_eq_some_iff.1 hb).1
  have lr := (Array.getElem?_eq_some_iff.1 hr).1
  have lm := (Array.getElem?_eq_some_iff.1 hm).1
  have lt := (Array.getElem?_eq_some_iff.1 ht).1
  have hs := hb0.size
  obtain ⟨n1, n2, n3, n4, n5, n6⟩ := hne
  generalize hz : (.cells #[.slice (some ⟨b, 0, none⟩) 65536 65536, .slice (some ⟨r, 0, none⟩) 256 256, .slice (some ⟨m, 0, none⟩) 256 256, .slice (some ⟨t, 0, none⟩) 256 256] 81 : Obj) = Z
  have tq := (blk_top W4 Z q hq).trans (congrArg some hz.symm)
  have tb := blk_old (o' := Z) hb
  have tr := blk_old (o' := Z) hr
  have tm := blk_old (o' := Z) hm
  have tt := blk_old (o' := Z) ht
  have sz : (W4.alloc Z).heap.size = W4.heap.size + 1 := by simp
  have R : RM ⟨q, b, r, m, t, 65536, 256, 256, 256, Nat.le_refl _⟩ M0 (W4.alloc Z) := by
    refine ⟨(show q ≠ b ∧ q ≠ r ∧ q ≠ m ∧ q ≠ t ∧ b ≠ r ∧ b ≠ m ∧ b ≠ t ∧ r ≠ m ∧ r ≠ t ∧ m ≠ t from ⟨by omega, by omega, by omega, by omega, n1, n2, n3, n4, n5, n6⟩), ?_, ?_, ?_, ?_, fun j hj => ?_, fun j hj => ?_, fun j hj => ?_, fun j hj => ?_, fun j => frozen_of_row _ _ _ _ _ tb, fun j => frozen_of_row _ _ _ _ _ tr, fun j => frozen_of_row _ _ _ _ _ tm, fun j => frozen_of_row _ _ _ _ _ tt, ?_, ?_, ?_, ?_, ?_⟩
    · rw [cell_of_row _ _ _ _ _ _ tq]; rfl
    · rw [cell_of_row _ _ _ _ _ _ tq]; rfl
    · rw [cell_of_row _ _ _ _ _ _ tq]; rfl
    · rw [cell_of_row _ _ _ _ _ _ tq]; rfl
    · rw [cell_of_row _ _ _ _ _ _ tb, Rep.get _ _ _ hj]; rfl
    · rw [cell_of_row _ _ _ _ _ _ tr, Rep.get _ _ _ hj]; rfl
    · rw [cell_of_row _ _ _ _ _ _ tm, Rep.get _ _ _ hj]; rfl
    · rw [cell_of_row _ _ _ _ _ _ tt, Rep.get _ _ _ hj]; rfl
    · show q < _; omega
    · show b < _; omega
    · show r < _; omega
    · show m < _; omega
    · show t < _; omega
  refine ⟨⟨q, b, r, m, t, 65536, 256, 256, 256, Nat.le_refl _⟩, rfl, R.drew, (hb0.alloc hs _).drew, ?_⟩
  obtain ⟨g1, g2, g3, g4⟩ := hge
  rintro k (h | h | h | h | h)
  all_goals rw [h]
  · show w.heap.size ≤ q
    exact hq ▸ hs
  · exact g1
  · exact g2
  · exact g3
  · exact g4
set_option maxRecDepth 100000 in
set_option maxHeartbeats 2000000 in
theorem rnew_any (w : World) : Calls Try.prog 55 #[] w fun e w' => ∃ P : RP, e = .returned (.pointer (some ⟨P.q, 0, none⟩)) ∧ RM P M0 w' ∧ Below w.heap.size w w' ∧ (∀ k, P.has k → w.heap.size ≤ k) := by
  have m1 : ∀ w, (Instr.makeSlice 74 (.int .i64 65536) (.int .i64 65536)).run Try.prog w = .ok (.slice (some ⟨w.heap.size, 0, none⟩) 65536 65536) (w.alloc (.cells (Rep (.int .u8 0) 65536) 5)) := fun w => by
    obtain ⟨i, hi, hz, hs, hb⟩ := Gu.u8_info
    exact run_make_row 74 5 i (.int .u8 0) Try.underlying74 hi hz hs rfl .i64 .i64 65536 (by rw [hb]; omega) (by omega) w
  have m2 : ∀ w, (Instr.makeSlice 39 (.int .i64 256) (.int .i64 256)).run Try.prog w = .ok (.slice (some ⟨w.heap.size, 0, none⟩) 256 256) (w.alloc (.cells (Rep (.int .i64 0) 256) 3)) := fun w => by
    obtain ⟨i, hi, hz, hs, hb⟩ := i64_info
    exact run_make_row 39 3 i (.int .i64 0) Try.underlying39 hi hz hs rfl .i64 .i64 256 (by rw [hb]; omega) (by omega) w
  have m3 : ∀ w, (Instr.makeSlice 79 (.int .i64 256) (.int .i64 256)).run Try.prog w = .ok (.slice (some ⟨w.heap.size, 0, none⟩) 256 256) (w.alloc (.cells (Rep (.bool false) 256) 4)) := fun w => by
    have hh : (Try.prog.info? 4).map (fun i => (i.zero, i.size, i.bytes)) = some (some (.bool false), 1, 1) := by kernel_rfl
    exact run_make_row' 79 4 (.bool false) 1 Try.underlying79 hh rfl .i64 .i64 256 (by omega) (by omega) w
  have HF := Lib.hid fresh5
  generalize Rep (.int .u8 0) 65536 = Z1 at m1 HF
  generalize Rep (.int .i64 0) 256 = Z2 at m2 HF
  generalize Rep (.bool false) 256 = Z3 at m3 HF
  go_enter Try.func55, Try.ntmps55
  go_wp2
  go_region
  all_goals clear m1 m2 m3
  all_goals go_wp2
  all_goals go_ret
  all_goals refine HF.out w _ _ _ _ _ _ (((((Below.refl _ _).alloc (by simp) _).alloc (by simp) _).alloc (by simp; omega) _).alloc (by simp; omega) _) (by simp) ?_ ?_ ?_ ?_ (by omega) (by omega)
  all_goals first
    | (refine blk_top _ _ _ ?_; simp; done)
    | (refine blk_old (blk_top _ _ _ ?_); simp; done)
    | (refine blk_old (blk_old (blk_top _ _ _ ?_)); simp; done)
    | (refine blk_old (blk_old (blk_old (blk_top _ _ _ ?_))); simp; done)
end Go.Proofs.Ytcjcmnnhmajocab.Me
namespace Go.Proofs.Ytcjcmnnhmajocab.Me
open Go.RowKit Kt
set_option linter.unusedVariables false
set_option linter.unusedSimpArgs false
def prE (k x : Int) : Int := if 0 ≤ k ∧ k < 256 ∧ 0 ≤ x ∧ x ≤ 7 then 0 else 4
def prM (M : MM) (k x : Int) : MM := if 0 ≤ k ∧ k < 256 ∧ 0 ≤ x ∧ x ≤ 7 then prt M k.toNat x else M
theorem protect_any (p : Nat) (M : MM) (k x : Int) (w : World) (h : HC p M w) :
    Calls Try.prog 58 #[.pointer (some ⟨p, 0, none⟩), .int .i64 k, .int .i64 x] w fun e w' => e = .returned (.int .i64 (prE k x)) ∧ HC p (prM M k x) w' ∧ Upto (fun i => i = p) w w' := by
  unfold prE prM
  by_cases hk : 0 ≤ k ∧ k < 256 ∧ 0 ≤ x ∧ x ≤ 7
  · rw [if_pos hk, if_pos hk]
    obtain ⟨k0, k1, x0, x1⟩ := hk
    obtain ⟨c, rfl⟩ := Int.eq_ofNat_of_zero_le k0
    refine (protect_ok p M (cnt M.hi) c x w h (by omega) x0 x1 (cnt_bd _).1 (cnt_bd _).2).mono ?_
    rintro e w' ⟨rfl, h1, o1⟩
    refine ⟨rfl, ?_, Upto.of_only o1⟩
    rw [Int.toNat_natCast]
    unfold HC
    rw [← prt_cnt M c x (by omega)]
    exact h1
  · rw [if_neg hk, if_neg hk]
    refine (protect_bad p M (cnt M.hi) k x w h (by omega)).mono ?_
    rintro e w' ⟨rfl, rfl⟩
    exact ⟨rfl, h, Upto.refl _ _⟩
theorem rprotect_any (P : RP) (M : MM) (k x : Int) (w : World) (h : RM P M w) :
    Calls Try.prog 59 #[.pointer (some ⟨P.q, 0, none⟩), .int .i64 k, .int .i64 x] w fun e w' => e = .returned (.int .i64 (prE k x)) ∧ RM P (prM M k x) w' ∧ Upto P.S w w' := by
  unfold prE prM
  by_cases hk : 0 ≤ k ∧ k < 256 ∧ 0 ≤ x ∧ x ≤ 7
  · rw [if_pos hk, if_pos hk]
    obtain ⟨k0, k1, x0, x1⟩ := hk
    exact rprotect_ok P M k x w h k0 k1 x0 x1
  · rw [if_neg hk, if_neg hk]
    refine (rprotect_bad P.q k x w (by omega)).mono ?_
    rintro e w' ⟨rfl, rfl⟩
    exact ⟨rfl, h, Upto.refl _ _⟩
theorem rmark_any (P : RP) (M : MM) (k : Int) (b : Bool) (w : World) (h : RM P M w) :
    Calls Try.prog 61 #[.pointer (some ⟨P.q, 0, none⟩), .int .i64 k, .bool b] w fun e w' => e = .returned (.int .i64 (mkE k)) ∧ RM P (mkM M k b) w' ∧ Upto P.S w w' := by
  unfold mkE mkM
  by_cases hk : 0 ≤ k ∧ k < 256
  · rw [if_pos hk, if_pos hk]
    exact rmark_ok P M k b w h hk.1 hk.2
  · rw [if_neg hk, if_neg hk]
    refine (rmark_bad P.q k b w (by omega)).mono ?_
    rintro e w' ⟨rfl, rfl⟩
    exact ⟨rfl, h, Upto.refl _ _⟩
theorem MOk.chg {M : MM} (h : MOk M) (k : Nat) : MOk (chg M k) := by
  obtain ⟨e1, e2, _⟩ := chg_same M k
  exact ⟨fun j => by rw [e1]; exact h.1 j, fun j => by rw [e2]; exact h.2 j⟩
theorem MOk.put {M : MM} (h : MOk M) (k : Nat) (x : Int) (hx : 0 ≤ x ∧ x < 256) : MOk { M with by_ := upd M.by_ k x } :=
  ⟨fun j => by simp only [upd]; split; exact hx; exact h.1 j, h.2⟩
theorem MOk.pk {us : List Int} : ∀ {M : MM} (at_ : Nat), MOk M → (∀ j, 0 ≤ us.getD j 0 ∧ us.getD j 0 < 256) → MOk (pk M at_ us) := by
  induction us with
  | nil => exact fun _ h _ => h
  | cons b bs ih =>
    intro M at_ h hr
    exact ih (at_ + 1) ((h.put at_ b (by simpa using hr 0)).chg _) (fun j => by simpa using hr (j + 1))
theorem MOk.prM {M : MM} (h : MOk M) (k x : Int) : MOk (prM M k x) := by
  unfold Me.prM
  split
  · next hk =>
    have h1 : MOk (if M.rt k.toNat = x then M else Me.chg M k.toNat) := by split; exact h; exact h.chg _
    exact ⟨h1.1, fun j => by
      show 0 ≤ upd M.rt k.toNat x j ∧ upd M.rt k.toNat x j < 8
      simp only [upd]; split
      · omega
      · exact h.2 j⟩
  · exact h
theorem MOk.mkM {M : MM} (h : MOk M) (k : Int) (b : Bool) : MOk (mkM M k b) := by
  unfold Me.mkM mrk
  split
  · split <;> exact ⟨h.1, h.2⟩
  · exact h
theorem MOk.clr {M : MM} (h : MOk M) : MOk (clr M) := ⟨h.1, h.2⟩
theorem MOk.pok {M : MM} (h : MOk M) (a : Int) {us : List Int} (hr : ∀ j, 0 ≤ us.getD j 0 ∧ us.getD j 0 < 256) : MOk (pok M a us) := by
  unfold Me.pok; split
  · exact h.pk _ hr
  · exact h
theorem bts_rg (n v : Int) (v0 : 0 ≤ v) (v1 : v < 4294967296) : ∀ j, 0 ≤ (bts n v).getD j 0 ∧ (bts n v).getD j 0 < 256 := by
  intro j
  unfold bts
  split
  · match j with
    | 0 => simp; omega
    | j + 1 => simp
  · split
    · match j with
      | 0 => simp; omega
      | 1 => simp; omega
      | j + 2 => simp
    · split
      · match j with
        | 0 => simp; omega
        | 1 => simp; omega
        | 2 => simp; omega
        | 3 => simp; omega
        | j + 4 => simp
      · simp
theorem MOk.stm {M : MM} (h : MOk M) (a n v : Int) (v0 : 0 ≤ v) (v1 : v < 4294967296) : MOk (stm M a n v) := by
  unfold Me.stm
  split
  · split
    · exact h.pk _ (bts_rg n v v0 v1)
    · exact h
  · exact h
theorem MOk.zero : MOk M0 := ⟨fun _ => by simp [M0], fun _ => by simp [M0]⟩
/-- a memory of the program's and one of the meaning, with the same in them -/
structure Pair (p : Nat) (P : RP) (M : MM) (W : World) : Prop where
  hc : HC p M W
  rm : RM P M W
  ne : ¬ P.has p
  ok : MOk M
def PS (p : Nat) (P : RP) (k : Nat) : Prop := k = p ∨ P.has k
theorem Pair.upto {p : Nat} {P : RP} {M : MM} {w w' : World} {S : Nat → Prop} (h : Pair p P M w) (u : Upto S w w') (hs : ∀ k, PS p P k → ¬ S k) : Pair p P M w' :=
  ⟨h.hc.upto u (hs p (.inl rfl)), h.rm.upto u (fun k hk => hs k (.inr hk)), h.ne, h.ok⟩
theorem Pair.lt {p : Nat} {P : RP} {M : MM} {w : World} (h : Pair p P M w) (k : Nat) (hk : PS p P k) : k < w.heap.size := by
  rcases hk with hk | hk | hk | hk | hk | hk
  · rw [hk]; exact h.hc.2.2.2.2.2.2
  · rw [hk]; exact h.rm.lq
  · rw [hk]; exact h.rm.lb
  · rw [hk]; exact h.rm.lr
  · rw [hk]; exact h.rm.lm
  · rw [hk]; exact h.rm.lt
theorem Pair.hm {p : Nat} {P : RP} {M M' : MM} {w w' : World} (h : Pair p P M w) (h1 : HC p M' w') (u : Upto (fun i => i = p) w w') : RM P M w' :=
  h.rm.upto u (fun k hk e => h.ne (e ▸ hk))
end Go.Proofs.Ytcjcmnnhmajocab.Me
