import Derived.Test.YtcjcmnnhmajocaaHostY
import Derived.ArgAppend
namespace Go.Proofs.Ytcjcmnnhmajocaa.Ho
open Go.RowKit Kt
set_option linter.unusedVariables false
set_option linter.unusedSimpArgs false
theorem same_sl (us : List Int) (ao : Option Addr) (cap : Nat) (ao1 : Option Addr) (c1 : Nat) (W : World) (h : Sl us ao cap W) (h1 : Sl us ao1 c1 W) :
    Calls Try.prog 27 #[.slice ao us.length cap, .slice ao1 us.length c1] W fun e w' => e = .returned (.bool true) ∧ Below W.heap.size W w' := by
  have hmx : (maxLen : Nat) = 9223372036854775807 := rfl
  obtain ⟨l1, m1, k1⟩ := h
  obtain ⟨l2, m2, k2⟩ := h1
  by_cases h0 : us.length = 0
  · rw [h0]; exact same_nil ao ao1 cap c1 W
  · obtain ⟨b, off, rfl, hb, hc⟩ := k1 (by omega)
    obtain ⟨b1, o1, rfl, hb1, hc1⟩ := k2 (by omega)
    exact same_any b off b1 o1 us.length cap c1 us W hc hc1 hb hb1 l1 l2 (by omega)
set_option maxHeartbeats 1000000 in
theorem words_zero (ao : Option Addr) (cap : Nat) (w : World) : Calls Try.prog 24 #[.slice ao 0 cap] w fun e w' => e = .returned (.slice none 0 0) ∧ Below w.heap.size w w' := by
  have hp : ∀ w : World, Sem.run Try.prog (pure #[] : Sem (Array Value)) w = .ok #[] w := fun _ => rfl
  rcases ao with _ | ad
  all_goals go_enter Try.func24, Try.ntmps24
  all_goals go_wp2
  all_goals go_ret
  all_goals exact ⟨rfl, Below.refl _ _⟩
set_option maxHeartbeats 1000000 in
theorem words_some (us : List Int) (b off cap : Nat) (w : World) (hc : ∀ j, j < us.length → w.cell? ⟨b, off + j, none⟩ = some (.int .u32 (us.getD j 0))) (h0 : 0 < us.length) (hreach : us.length * 4 ≤ 140737488351232) :
    Calls Try.prog 24 #[.slice (some ⟨b, off, none⟩) us.length cap] w fun e w' => ∃ v, e = .returned v ∧ w'.ownsRow w.heap.size 25 1 v us.length (us.map (Value.int .u32)) ∧ Below w.heap.size w w' := by
  obtain ⟨i0, hi0, hz0, hs0, hb0⟩ := u32_info
  go_enter Try.func24, Try.ntmps24
  go_wp2_with (at_builtin; refine wpList_append_grows _ rfl (.const (.slice none 0 0)) (.tmp 3) 43 rfl 25 i0 (.int .u32 0) 1 4 Try.underlying43 hi0 hz0 hs0 hb0 rfl Nat.one_pos none 0 0 [] rfl (fun _ => ⟨rfl, rfl⟩) rfl (fun b hb => nomatch hb) ⟨b, off, none⟩ us.length cap (us.map (Value.int .u32)) rfl ?c0 ?c1 ?c2 ?c3 ?c4 ?c5 ?grow)
  case c0 => simp
  case c1 =>
    intro j u hj
    rw [List.getElem?_map] at hj
    obtain ⟨z, hz, rfl⟩ := Option.map_eq_some_iff.1 hj
    have hlt := (List.getElem?_eq_some_iff.1 hz).1
    rw [Addr.add_lit, hc j hlt, List.getD_eq_getElem?_getD, hz]
    rfl
  case c2 =>
    intro u hu
    obtain ⟨z, _, rfl⟩ := List.mem_map.1 hu
    rfl
  case c3 => omega
  case c4 => unfold maxLen; omega
  case c5 => omega
  case grow =>
    intro v' w' hown hgrow
    go_wp2
    go_ret
    exact ⟨_, rfl, by simpa using hown, (Below.refl _ _).grown hgrow (Nat.le_refl _) (fun k h => by cases h)⟩
theorem words_any (us : List Int) (ao : Option Addr) (cap : Nat) (w : World) (hs : Sl us ao cap w) (hreach : us.length * 4 ≤ 140737488351232) :
    Calls Try.prog 24 #[.slice ao us.length cap] w fun e w' => ∃ (ao1 : Option Addr) (c1 : Nat), e = .returned (.slice ao1 us.length c1) ∧ Sl us ao1 c1 w' ∧ Below w.heap.size w w' := by
  obtain ⟨l1, m1, k1⟩ := hs
  by_cases h0 : us.length = 0
  · rw [h0]
    exact (words_zero ao cap w).mono fun e w' h => ⟨none, 0, h.1, ⟨by omega, by unfold maxLen; omega, fun h => absurd h (by omega)⟩, h.2⟩
  · obtain ⟨b, off, rfl, hb, hc⟩ := k1 (by omega)
    refine (words_some us b off cap w hc (by omega) hreach).mono ?_
    rintro e w' ⟨v, rfl, hown, hb'⟩
    rcases hown.2 with ⟨rfl, hn⟩ | ⟨g, c1, cur, rfl, hg, hrow, hle, hmx, hsz, htk⟩
    · exact absurd hn h0
    · refine ⟨_, c1, rfl, ⟨hle, hmx, fun _ => ⟨g, 0, rfl, lt_of_block hrow, fun j hj => ?_⟩⟩, hb'⟩
      rw [Nat.zero_add, (cells_of hrow).1 j, ← Array.getElem?_toList]
      have h2 : (cur.toList.take (us.length * 1))[j]? = (us.map (Value.int .u32))[j]? := by rw [htk]
      rw [Nat.mul_one, List.getElem?_take, if_pos hj, List.getElem?_map] at h2
      rw [h2, List.getElem?_eq_getElem hj, List.getD_eq_getElem?_getD, List.getElem?_eq_getElem hj]
      rfl
theorem keepY {g : Nat} {w w' : World} {ob : Obj} {Y : Array Value} (h : ∀ i, w.cell? ⟨g, i, none⟩ = Y[i]?) (hg : g < w.heap.size) (hb : Below (w.alloc ob).heap.size (w.alloc ob) w') : ∀ i, w'.cell? ⟨g, i, none⟩ = Y[i]? := fun i => by
  rw [hb.cell (p := ⟨g, i, none⟩) (by simp; omega), World.cell?_of_block (w := w) (a := ⟨g, i, none⟩) (Below.heap_alloc w ob g hg)]
  exact h i
set_option maxRecDepth 100000 in
set_option maxHeartbeats 4000000 in
theorem hr_err (us : List Int) (ao : Option Addr) (cap : Nat) (i : Int) (w : World) (hs : Sl us ao cap w) (hreach : us.length * 4 ≤ 140737488351232) (hw : ∀ j, 0 ≤ us.getD j 0 ∧ us.getD j 0 < 4294967296)
    (o d a b c n k x m z : Int) (hD : decv us i = .tuple #[.agg #[.int .i64 o, .int .i64 d, .int .i64 a, .int .i64 b, .int .i64 c, .int .i64 n, .int .u32 k, .int .u32 x], .int .i64 m, .int .i64 z]) (hz : (z == 0) = false) :
    Calls Try.prog 6 #[.slice ao us.length cap, .int .i64 i] w fun e w' => e = .returned (.bool true) ∧ Below w.heap.size w w' := by
  have hH := Lib.hid hw
  clear hw
  have hne := neq_code o d a b c n k x o d a b c n k x
  rw [(eqc_iff o d a b c n k x o d a b c n k x).2 ⟨rfl, rfl, rfl, rfl, rfl, rfl, rfl, rfl⟩] at hne
  go_enter Try.func6, Try.ntmps6
  go_wp2_with (first
    | (go_at_call 24; refine (words_any us _ _ _ hs hreach).mono ?_; rintro e w1 ⟨ao1, c1, rfl, hs1, hb1⟩)
    | (go_at_call 25; refine (dec_all us _ _ i _ (hs.keep hb1) hH.out).mono ?_; rintro e w2 ⟨rfl, hb2⟩; rw [hD])
    | (go_at_call 26; refine (rdec_all us _ _ i _ (Sl.keep (hs1.keep hb2) (Below.alloc (Below.refl _ _) (Nat.le_refl _) _)) hH.out).mono ?_; rintro e w3 ⟨rfl, hb3⟩; rw [hD]; obtain ⟨kX, zX, s3, hb3'⟩ := behind1 hb3; have s4 := ltn 1 s3)
    | (go_at_call 27; refine (same_sl us ao cap ao1 c1 _ (hs.keep ((chain (chain hb1 hb2) hb3').alloc (chain (chain hb1 hb2) hb3').size _)) (hs1.keep ((chain hb2 hb3').alloc (chain hb2 hb3').size _))).mono ?_; rintro e w4 ⟨rfl, hb5⟩))
  go_ret
  exact ⟨rfl, chain ((chain (chain hb1 hb2) hb3').alloc (chain (chain hb1 hb2) hb3').size _) hb5⟩
end Go.Proofs.Ytcjcmnnhmajocaa.Ho
