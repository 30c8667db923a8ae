/- crossgrainref2.Memory: Peek, Poke. -/
import Derived.Test.YtcjcmnnhmajocaaMeP
import Derived.Test.YtcjcmnnhmajocaaMeK
namespace Go.Proofs.Ytcjcmnnhmajocaa.Me
open Go.RowKit Kt
set_option linter.unusedVariables false
set_option linter.unusedSimpArgs false
set_option maxRecDepth 100000 in
set_option maxHeartbeats 2000000 in
theorem rpeek_no (q : Nat) (a n : Int) (w : World) (ha : -9223372036854775808 ≤ a) (hn : ¬ (0 ≤ a ∧ 0 ≤ n ∧ a ≤ 65536 ∧ n ≤ 65536 - a)) :
    Calls Try.prog 73 #[.pointer (some ⟨q, 0, none⟩), .int .i64 a, .int .i64 n] w fun e w' => e = .returned (.tuple #[.slice none 0 0, .int .i64 4]) ∧ w = w' := by
  rcases (show a < 0 ∨ (¬ a < 0 ∧ 65536 < a) ∨ (¬ a < 0 ∧ ¬ 65536 < a ∧ n < 0) ∨ (¬ a < 0 ∧ ¬ 65536 < a ∧ ¬ n < 0 ∧ 65536 - a < n) by omega) with h1 | ⟨h1, h2⟩ | ⟨h1, h2, h3⟩ | ⟨h1, h2, h3, h4⟩
  all_goals clear hn
  all_goals go_enter Try.func73, Try.ntmps73
  all_goals go_wp2
  all_goals go_ret2
  all_goals exact ⟨rfl, rfl⟩
set_option maxRecDepth 100000 in
set_option maxHeartbeats 2000000 in
theorem rpeek_ok (P : RP) (M : MM) (a n : Int) (w : World) (h : RM P M w) (a0 : 0 ≤ a) (n0 : 0 ≤ n) (ha : a < 65536) (hn : a + n ≤ 65536) :
    Calls Try.prog 73 #[.pointer (some ⟨P.q, 0, none⟩), .int .i64 a, .int .i64 n] w fun e w' => ∃ v, e = .returned (.tuple #[v, .int .i64 0]) ∧ Own w.heap.size v (rdB M a.toNat n.toNat) w' ∧ Below w.heap.size w w' := by
  have h1 : ¬ a < 0 := by omega
  have h2 : ¬ 65536 < a := by omega
  have h3 : ¬ n < 0 := by omega
  have h4 : ¬ 65536 - a < n := by omega
  have h5 : a ≤ a + n := by omega
  have q0 := h.hq0
  obtain ⟨pq, pb, pr, pm, pt⟩ := P
  have HC := Lib.hid (show ∀ j, j < (rdB M a.toNat n.toNat).length → w.cell? ⟨pb, a.toNat + j, none⟩ = some (.int .u8 ((rdB M a.toNat n.toNat).getD j 0)) from fun j hj => by
    rw [rdB_len] at hj
    rw [rdB_get M a.toNat n.toNat j hj]; exact h.hb _ (by omega))
  have HL := Lib.hid (rdB_len M a.toNat n.toNat)
  simp only at q0
  clear h
  have hlen : n.toNat = (a + n).toNat - a.toNat := by omega
  have HN := Lib.hid hlen
  clear hlen
  go_enter Try.func73, Try.ntmps73
  go_wp2_with (at_builtin; refine ap_new rfl (.tmp 32) rfl (rdB M a.toNat n.toNat) pb a.toNat ((a + n).toNat - a.toNat) (65536 - a.toNat) rfl (HL.out.trans HN.out) HC.out (by rw [HL.out]; omega) ?_; intro v w1 hv hb)
  go_ret2
  exact ⟨v, rfl, hv, hb⟩
set_option maxRecDepth 100000 in
set_option maxHeartbeats 2000000 in
theorem rpeek_end (P : RP) (M : MM) (w : World) (h : RM P M w) :
    Calls Try.prog 73 #[.pointer (some ⟨P.q, 0, none⟩), .int .i64 65536, .int .i64 0] w fun e w' => ∃ v, e = .returned (.tuple #[v, .int .i64 0]) ∧ Own w.heap.size v [] w' ∧ Below w.heap.size w w' := by
  have q0 := h.hq0
  obtain ⟨pq, pb, pr, pm, pt⟩ := P
  simp only at q0
  clear h
  go_enter Try.func73, Try.ntmps73
  go_wp2_with (at_builtin; refine ap_new rfl (.tmp 32) rfl [] pb 0 0 0 rfl rfl (fun j hj => absurd hj (by simp)) (by simp) ?_; intro v w1 hv hb)
  go_ret2
  exact ⟨v, rfl, hv, hb⟩
theorem rpeek_any (P : RP) (M : MM) (a n : Int) (w : World) (h : RM P M w) (ha : -9223372036854775808 ≤ a) :
    Calls Try.prog 73 #[.pointer (some ⟨P.q, 0, none⟩), .int .i64 a, .int .i64 n] w fun e w' => ∃ v, e = .returned (.tuple #[v, .int .i64 (inE a n)]) ∧ Own w.heap.size v (pekL M a n) w' ∧ Below w.heap.size w w' := by
  unfold pekL inE
  by_cases hi : inB a n = true
  · rw [if_pos hi, if_pos hi]
    obtain ⟨h1, h2, h3, h4⟩ := (inB_iff a n).1 hi
    by_cases he : a < 65536
    · exact rpeek_ok P M a n w h h1 h2 he (by omega)
    · obtain rfl : a = 65536 := by omega
      obtain rfl : n = 0 := by omega
      exact rpeek_end P M w h
  · have hi' := hi
    rw [if_neg hi, if_neg hi]
    rw [inB_iff] at hi'
    refine (rpeek_no P.q a n w ha hi').mono ?_
    rintro e w' ⟨rfl, rfl⟩
    exact ⟨_, rfl, Own.nil _ _, Below.refl _ _⟩
set_option maxRecDepth 100000 in
set_option maxHeartbeats 2000000 in
theorem rpoke_no (q : Nat) (a : Int) (ao : Option Addr) (n cap : Nat) (w : World) (ha : -9223372036854775808 ≤ a) (hn : ¬ (0 ≤ a ∧ 0 ≤ (n : Int) ∧ a ≤ 65536 ∧ (n : Int) ≤ 65536 - a)) :
    Calls Try.prog 71 #[.pointer (some ⟨q, 0, none⟩), .int .i64 a, .slice ao n cap] w fun e w' => e = .returned (.int .i64 4) ∧ w = w' := by
  rcases (show a < 0 ∨ (¬ a < 0 ∧ 65536 < a) ∨ (¬ a < 0 ∧ ¬ 65536 < a ∧ 65536 - a < n) by omega) with h1 | ⟨h1, h2⟩ | ⟨h1, h2, h4⟩
  all_goals clear hn
  all_goals go_enter Try.func71, Try.ntmps71
  all_goals go_wp2
  all_goals go_ret
  all_goals exact ⟨rfl, rfl⟩
theorem pk_snoc (M : MM) (at_ : Nat) (us : List Int) (b : Int) : pk M at_ (us ++ [b]) = wr1 (pk M at_ us) (at_ + us.length) b := by
  induction us generalizing M at_ with
  | nil => rfl
  | cons x xs ih =>
    show pk (chg _ _) (at_ + 1) (xs ++ [b]) = _
    rw [ih]
    show _ = wr1 (pk (chg _ _) (at_ + 1) xs) (at_ + (xs.length + 1)) b
    rw [show at_ + 1 + xs.length = at_ + (xs.length + 1) by omega]
theorem take_snoc' (us : List Int) (k : Nat) (h : k < us.length) : us.take (k + 1) = us.take k ++ [us.getD k 0] := by
  rw [List.take_succ_eq_append_getElem h, List.getD_eq_getElem?_getD, List.getElem?_eq_getElem h]; rfl
set_option maxRecDepth 100000 in
set_option maxHeartbeats 4000000 in
theorem rpoke_ok (P : RP) (M : MM) (a : Int) (us : List Int) (b off cap : Nat) (w : World) (h : RM P M w) (a0 : 0 ≤ a) (hn : a + us.length ≤ 65536) (hb : b < w.heap.size) (hP : ¬ P.has b)
    (hc : ∀ j, j < us.length → w.cell? ⟨b, off + j, none⟩ = some (.int .u8 (us.getD j 0))) :
    Calls Try.prog 71 #[.pointer (some ⟨P.q, 0, none⟩), .int .i64 a, .slice (some ⟨b, off, none⟩) us.length cap] w fun e w' => e = .returned (.int .i64 0) ∧ RM P (pk M a.toNat us) w' ∧ Upto P.S w w' := by
  have h1 : ¬ a < 0 := by omega
  have h2 : ¬ 65536 < a := by omega
  have h3 : ¬ 65536 - a < (us.length : Int) := by omega
  have HH := Lib.hid h
  have HCC := Lib.hid hc
  have HP := Lib.hid hP
  have HC := Lib.hid (rchange P)
  obtain ⟨L, hL⟩ : ∃ L, us.length = L := ⟨_, rfl⟩
  rw [hL] at hn h3 ⊢
  have HL := Lib.hid hL
  clear h hc hP hL
  go_enter Try.func71, Try.ntmps71
  go_wp2
  go_loopg [24] L (fun g i wr => ∃ k : Nat, g = L - k ∧ k ≤ L ∧ i = .int .i64 k ∧ Hid (RM P (pk M a.toNat (us.take k)) wr) ∧ Hid (Upto P.S w wr))
  case atStart => exact ⟨0, rfl, Nat.zero_le _, rfl, HH.out, Upto.refl _ _⟩
  case round =>
    obtain ⟨k, hg, hk, rfl, HR, UR⟩ := hrel
    by_cases hlt : k < L
    · have hlt' : (k : Int) < (L : Int) := by omega
      have e0 : 0 ≤ (a + (k : Int)) / 256 := by omega
      have e1 : (a + (k : Int)) / 256 < 256 := by omega
      have e2 : a + (k : Int) < 65536 := by omega
      have e3 : 0 ≤ a + (k : Int) := by omega
      have q0 := HR.out.hq0
      obtain ⟨⟨u, cu⟩, zu⟩ := HR.out.facts (a + k) e2
      have cs := (UR.out.cell (q := ⟨b, off + k, none⟩) hb HP.out).trans (HCC.out k (by rw [HL.out]; exact hlt))
      have H2 := Lib.hid (HR.out.setB (a + k).toNat (by omega) (us.getD k 0))
      have hts := Lib.hid (take_snoc' us k (by rw [HL.out]; exact hlt))
      have hln : (us.take k).length = k := by rw [List.length_take]; have := HL.out; omega
      have HLN := Lib.hid hln
      clear hln
      generalize us.getD k 0 = x at cs H2 hts
      go_wp2_with (go_at_call 115; refine (HC.out _ _ e0 e1 _ H2.out).mono ?_; rintro e w2 ⟨rfl, h2, o2⟩)
      go_roundg (L - (k + 1))
      case measure => omega
      case rel =>
        refine ⟨k + 1, rfl, by omega, by simp, ?_, Upto.trans (UR.out.setCell (q := ⟨P.b, (a + k).toNat, none⟩) (.inl (.inr (.inl rfl))) _) o2⟩
        rw [w1_at _ a k k _ a0 rfl] at h2
        show RM P (pk M a.toNat (us.take (k + 1))) w2
        rw [hts.out, pk_snoc, HLN.out]
        exact h2
    · have hkl : k = L := by omega
      have HK := Lib.hid hkl
      have hge : ¬ (k : Int) < (L : Int) := by omega
      clear hkl hlt
      go_wp2
      go_ret
      refine ⟨rfl, ?_, UR.out⟩
      have := HR.out
      rw [HK.out, ← HL.out, List.take_length] at this
      exact this
theorem rpoke_zero (P : RP) (a : Int) (ao : Option Addr) (cap : Nat) (w : World) (a0 : 0 ≤ a) (ha : a ≤ 65536) :
    Calls Try.prog 71 #[.pointer (some ⟨P.q, 0, none⟩), .int .i64 a, .slice ao 0 cap] w fun e w' => e = .returned (.int .i64 0) ∧ w = w' := by
  have h1 : ¬ a < 0 := by omega
  have h2 : ¬ 65536 < a := by omega
  have h3 : ¬ 65536 - a < 0 := by omega
  go_enter Try.func71, Try.ntmps71
  go_wp2
  refine wp_loop_rounds 1 ?_
  rw [rounds_succ]; go_wp2
  go_ret
  exact ⟨rfl, rfl⟩
theorem rpoke_any (P : RP) (M : MM) (a : Int) (us : List Int) (ao : Option Addr) (cap : Nat) (w : World) (h : RM P M w) (ha : -9223372036854775808 ≤ a) (hB : Gu.Bs us ao cap w) (hne : ∀ g, ao = some g → 0 < us.length → ¬ P.has g.block) :
    Calls Try.prog 71 #[.pointer (some ⟨P.q, 0, none⟩), .int .i64 a, .slice ao us.length cap] w fun e w' => e = .returned (.int .i64 (inE a us.length)) ∧ RM P (pok M a us) w' ∧ Upto P.S w w' := by
  unfold pok inE
  by_cases hi : inB a us.length = true
  · rw [if_pos hi, if_pos hi]
    obtain ⟨h1, h2, h3, h4⟩ := (inB_iff _ _).1 hi
    by_cases h0 : us.length = 0
    · obtain rfl : us = [] := List.length_eq_zero_iff.1 h0
      refine (rpoke_zero P a ao cap w h1 h3).mono ?_
      rintro e w' ⟨rfl, rfl⟩
      exact ⟨rfl, h, Upto.refl _ _⟩
    · obtain ⟨b, off, rfl, hb, hc⟩ := hB.2.2 (by omega)
      exact rpoke_ok P M a us b off cap w h h1 (by omega) hb (hne _ rfl (by omega)) hc
  · have hi' := hi
    rw [if_neg hi, if_neg hi]
    rw [inB_iff] at hi'
    refine (rpoke_no P.q a ao us.length cap w ha hi').mono ?_
    rintro e w' ⟨rfl, rfl⟩
    exact ⟨rfl, h, Upto.refl _ _⟩
end Go.Proofs.Ytcjcmnnhmajocaa.Me
