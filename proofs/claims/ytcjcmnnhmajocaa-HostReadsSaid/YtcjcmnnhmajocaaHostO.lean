import Derived.Test.YtcjcmnnhmajocaaHostZ
import Derived.ArgAppend
namespace Go.Proofs.Ytcjcmnnhmajocaa.Ho
open Go.RowKit Kt
set_option linter.unusedVariables false
set_option linter.unusedSimpArgs false
theorem hr_same (us : List Int) (b0 off cap j l : Nat) {w4 w5 : World} {u : Value} {q : Nat} {o d a b c n k x : Int} (hs5 : Sl us (some ⟨b0, off, none⟩) cap w5) (hjl : (j : Int) + (l : Int) ≤ (us.length : Int)) (L : 1 ≤ l ∧ l ≤ 3 ∧ wd q = l)
    (E : sumw o d a b c n = us.getD j 0 ∧ (1 < wd q → k = us.getD (j + 1) 0) ∧ (2 < wd q → x = us.getD (j + 2) 0)) (hWd : Wd [sumw o d a b c n, k, x] (wd q).toNat u w4 w5) :
    Calls Try.prog 27 #[u, .slice (some ⟨b0, off + j, none⟩) l (cap - j)] w5 fun e w' => e = .returned (.bool true) ∧ Below w5.heap.size w5 w' := by
  obtain ⟨l1, l3, hl⟩ := L
  have hN : (wd q).toNat = l := by rw [hl]; rfl
  rw [hN] at hWd
  obtain ⟨a1, c1, rfl, hc1, hm, k1⟩ := hWd
  obtain ⟨g1, rfl, _, g1b, e1⟩ := k1 (by omega)
  obtain ⟨hlen, _, k2⟩ := hs5
  obtain ⟨b', off', he, hb, hc⟩ := k2 (by omega)
  simp only [Option.some.injEq, Addr.mk.injEq, and_true] at he
  obtain ⟨rfl, rfl⟩ := he
  obtain ⟨E0, E1, E2⟩ := E
  rw [hl] at E1 E2
  refine same_any g1 0 b0 (off + j) l c1 (cap - j) _ w5 e1 (fun t ht => ?_) g1b hb hc1 (by omega) hm
  rw [Nat.add_assoc, hc (j + t) (by omega)]
  match t, ht with
  | 0, _ => rw [Nat.add_zero, ← E0]; rfl
  | 1, ht => rw [← E1 (by omega)]; rfl
  | 2, ht => rw [← E2 (by omega)]; rfl
  | t + 3, ht => omega
set_option maxRecDepth 100000 in
set_option maxHeartbeats 4000000 in
theorem hr_ok (us : List Int) (b0 off cap j l : Nat) (w : World) (hs : Sl us (some ⟨b0, off, none⟩) cap w) (hreach : us.length * 4 ≤ 140737488351232) (hH : Hid (∀ j, 0 ≤ us.getD j 0 ∧ us.getD j 0 < 4294967296))
    (o d a b c n k x : Int) (q : Nat) (hD : decv us (j : Int) = .tuple #[.agg #[.int .i64 o, .int .i64 d, .int .i64 a, .int .i64 b, .int .i64 c, .int .i64 n, .int .u32 k, .int .u32 x], .int .i64 (l : Int), .int .i64 0])
    (P : Hid (1 ≤ q ∧ q ≤ 15 ∧ fcls o = q ∧ 0 ≤ o ∧ o < 256 ∧ EOK q o d a b c n k x))
    (L : Hid (1 ≤ l ∧ l ≤ 3 ∧ wd q = l)) (E : Hid (sumw o d a b c n = us.getD j 0 ∧ (1 < wd q → k = us.getD (j + 1) 0) ∧ (2 < wd q → x = us.getD (j + 2) 0)))
    (g1 : (j : Int) + (l : Int) ≤ (us.length : Int)) (g2 : wrap64 ((j : Int) + (l : Int)) = (j : Int) + (l : Int)) (g3 : (0 : Int) ≤ (j : Int)) (g4 : (j : Int) ≤ (j : Int) + (l : Int)) (g5 : (j : Int) + (l : Int) ≤ (cap : Int)) :
    Calls Try.prog 6 #[.slice (some ⟨b0, off, none⟩) us.length cap, .int .i64 (j : Int)] w fun e w' => e = .returned (.bool true) ∧ Below w.heap.size w w' := by
  have hne := neq_code o d a b c n k x o d a b c n k x
  rw [(eqc_iff o d a b c n k x o d a b c n k x).2 ⟨rfl, rfl, rfl, rfl, rfl, rfl, rfl, rfl⟩] at hne
  go_enter Try.func6, Try.ntmps6
  go_wp2_with (first
    | (go_at_call 24; refine (words_any us _ _ _ hs hreach).mono ?_; rintro e w1 ⟨ao1, c1, rfl, hs1, hb1⟩)
    | (go_at_call 25; refine (dec_all us _ _ (j : Int) _ (hs.keep hb1) hH.out).mono ?_; rintro e w2 ⟨rfl, hb2⟩; rw [hD])
    | (go_at_call 26; refine (rdec_all us _ _ (j : Int) _ (Sl.keep (hs1.keep hb2) (Below.alloc (Below.refl _ _) (Nat.le_refl _) _)) hH.out).mono ?_; rintro e w3 ⟨rfl, hb3⟩; rw [hD]; obtain ⟨kX, zX, s3, hb3'⟩ := behind1 hb3; have s4 := ltn 1 s3)
    | (go_at_call 27; refine (same_sl us (some ⟨b0, off, none⟩) cap ao1 c1 _ (hs.keep ((chain (chain hb1 hb2) hb3').alloc (chain (chain hb1 hb2) hb3').size _)) (hs1.keep ((chain hb2 hb3').alloc (chain hb2 hb3').size _))).mono ?_; rintro e w4 ⟨rfl, hb5⟩; have kX4 := keepY kX s3 hb5)
    | (go_at_call 28; refine (henc_ok q P.out.1 P.out.2.1 o d a b c n k x _ P.out.2.2.1 P.out.2.2.2.1 P.out.2.2.2.2.1).mono ?_; rintro e w5 hE; obtain ⟨u, rfl, hWd, hb6⟩ := hE.wd P.out.1 P.out.2.1 P.out.2.2.2.2.2; clear hs1)
    | (go_at_call 27; fail))
  case inl =>
    exfalso
    have hL := L.out
    omega
  case inr =>
    have hB4 := chain ((chain (chain hb1 hb2) hb3').alloc (chain (chain hb1 hb2) hb3').size _) hb5
    have hB5 := chain hB4 hb6
    refine (hr_same us b0 off cap j l (hs.keep hB5) g1 L.out E.out hWd).mono ?_
    rintro e w6 ⟨rfl, hb7⟩
    go_wp2
    go_ret
    exact ⟨rfl, chain hB5 hb7⟩
theorem hostreads_walk (us : List Int) (ao : Option Addr) (cap : Nat) (i : Int) (w : World) (hs : Sl us ao cap w) (hreach : us.length * 4 ≤ 140737488351232) (hw : ∀ j, 0 ≤ us.getD j 0 ∧ us.getD j 0 < 4294967296) :
    Calls Try.prog 6 #[.slice ao us.length cap, .int .i64 i] w fun e w' => e = .returned (.bool true) ∧ Below w.heap.size w w' := by
  obtain ⟨o, d, a, b, c, n, k, x, m, z, hD, hz⟩ := decv_shape us i hw
  by_cases h0 : z = 0
  · subst h0
    obtain ⟨i0, im, q, h1, h2, hq, hm, hok, E⟩ := hz rfl
    have hr := wd_range q h1 h2
    obtain ⟨j, rfl⟩ := Int.eq_ofNat_of_zero_le i0
    obtain ⟨l, rfl⟩ := Int.eq_ofNat_of_zero_le (show 0 ≤ m by omega)
    have hl1 : 1 ≤ l := by omega
    have hl3 : l ≤ 3 := by omega
    have hlen : 0 < us.length := by omega
    obtain ⟨b0, off, hao, _, _⟩ := hs.2.2 hlen
    subst hao
    have hcap := hs.1
    have ho := fcls_range (o := o) (by rw [hq]; exact h1)
    simp only [Int.toNat_natCast] at E
    exact hr_ok us b0 off cap j l w hs hreach hw o d a b c n k x q hD ⟨h1, h2, hq, ho.1, by omega, hok⟩ ⟨hl1, hl3, hm.symm⟩ E (by omega) (IntWalk.wrap64_in _ (by omega)) (by omega) (by omega) (by omega)
  · exact hr_err us ao cap i w hs hreach hw o d a b c n k x m z hD (by simpa using h0)
end Go.Proofs.Ytcjcmnnhmajocaa.Ho
