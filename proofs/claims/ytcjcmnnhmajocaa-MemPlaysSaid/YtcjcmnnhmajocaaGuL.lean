/- Slices of bytes: crossgrainlaw1.sameBytes of equal ones, crossgrainlaw1.twin. -/
import Derived.Test.YtcjcmnnhmajocaaProg
import Derived.Test.YtcjcmnnhmajocaaPost
import Derived.Below
import Derived.WalkKit
import Derived.LoopN
import Derived.Deep.LoopGhost
import Derived.ArgAppend
import Derived.Lib.Hide
namespace Go.Proofs.Ytcjcmnnhmajocaa.Gu
open Go.RowKit Kt
set_option linter.unusedVariables false
set_option linter.unusedSimpArgs false
theorem u8_info : ∃ i, Try.prog.info? 5 = some i ∧ i.zero = some (.int .u8 0) ∧ i.size = 1 ∧ i.bytes = 1 := by
  have h : (Try.prog.info? 5).map (fun i => (i.zero, i.size, i.bytes)) = some (some (.int .u8 0), 1, 1) := by kernel_rfl
  obtain ⟨i, hi, hz⟩ := Option.map_eq_some_iff.1 h
  simp only [Prod.mk.injEq] at hz
  exact ⟨i, hi, hz.1, hz.2.1, hz.2.2⟩
theorem rowcells {w : World} {g : Nat} {cs : Array Value} {t : TypeId} (h : w.heap[g]? = some (.cells cs t (0, 0))) : (∀ i, w.cell? ⟨g, i, none⟩ = cs[i]?) ∧ ∀ i, w.frozen? ⟨g, i, none⟩ = false :=
  ⟨fun i => by simp [World.cell?, h], fun i => frozen_of_row w g i cs t h⟩
/-- bytes that lie in a slice -/
def Bs (us : List Int) (ao : Option Addr) (cap : Nat) (w : World) : Prop :=
  us.length ≤ cap ∧ cap ≤ maxLen ∧ (0 < us.length → ∃ b off, ao = some ⟨b, off, none⟩ ∧ b < w.heap.size ∧ ∀ j, j < us.length → w.cell? ⟨b, off + j, none⟩ = some (.int .u8 (us.getD j 0)))
theorem Bs.keep {us : List Int} {ao : Option Addr} {cap : Nat} {w w' : World} (h : Bs us ao cap w) (hb : Below w.heap.size w w') : Bs us ao cap w' := by
  obtain ⟨l, m, k⟩ := h
  refine ⟨l, m, fun hlen => ?_⟩
  obtain ⟨b, off, rfl, hb', hc⟩ := k hlen
  exact ⟨b, off, rfl, Nat.lt_of_lt_of_le hb' hb.size, fun j hj => by rw [hb.cell (p := ⟨b, off + j, none⟩) hb']; exact hc j hj⟩
set_option maxHeartbeats 4000000 in
theorem same_nil (a1 a2 : Option Addr) (c1 c2 : Nat) (w : World) : Calls Try.prog 33 #[.slice a1 0 c1, .slice a2 0 c2] w fun e w' => e = .returned (.bool true) ∧ Below w.heap.size w w' := by
  go_enter Try.func33, Try.ntmps33
  go_wp2
  refine wp_loop_rounds 1 ?_
  rw [rounds_succ]; go_wp2
  go_ret
  exact ⟨rfl, Below.refl _ _⟩
set_option maxHeartbeats 4000000 in
theorem same_any (g o1 g' o2 L c1 c2 : Nat) (us : List Int) (w : World) (h1 : ∀ j, j < L → w.cell? ⟨g, o1 + j, none⟩ = some (.int .u8 (us.getD j 0))) (h2 : ∀ j, j < L → w.cell? ⟨g', o2 + j, none⟩ = some (.int .u8 (us.getD j 0)))
    (hg : g < w.heap.size) (hg' : g' < w.heap.size) (hl1 : L ≤ c1) (hl2 : L ≤ c2) (hmax : L ≤ 9223372036854775807) :
    Calls Try.prog 33 #[.slice (some ⟨g, o1, none⟩) L c1, .slice (some ⟨g', o2, none⟩) L c2] w fun e w' => e = .returned (.bool true) ∧ Below w.heap.size w w' := by
  go_enter Try.func33, Try.ntmps33
  go_wp2
  go_loopg [13] L (fun k i wr => ∃ j : Nat, k = L - j ∧ j ≤ L ∧ i = .int .i64 j ∧ Below w.heap.size w wr)
  case atStart => exact ⟨0, rfl, Nat.zero_le _, rfl, Below.refl _ _⟩
  case round =>
    obtain ⟨j, hk, hj, rfl, hb⟩ := hrel
    by_cases hlt : j < L
    · have e1 := (hb.cell (p := ⟨g, o1 + j, none⟩) hg).trans (h1 j hlt)
      have e2 := (hb.cell (p := ⟨g', o2 + j, none⟩) hg').trans (h2 j hlt)
      have hlt' : (j : Int) < (L : Int) := by omega
      generalize us.getD j 0 = u at e1 e2
      go_wp2
      go_region
      go_wp2
      go_roundg (L - (j + 1))
      case measure => omega
      case rel => exact ⟨j + 1, rfl, by omega, by simp, hb.drew⟩
    · obtain rfl : j = L := by omega
      go_wp2
      go_ret
      exact ⟨rfl, hb⟩
theorem same_bs (us : List Int) (ao : Option Addr) (cap : Nat) (ao1 : Option Addr) (c1 : Nat) (W : World) (h : Bs us ao cap W) (h1 : Bs us ao1 c1 W) :
    Calls Try.prog 33 #[.slice ao us.length cap, .slice ao1 us.length c1] W fun e w' => e = .returned (.bool true) ∧ Below W.heap.size W w' := by
  have hmx : (maxLen : Nat) = 9223372036854775807 := rfl
  obtain ⟨l1, m1, k1⟩ := h
  obtain ⟨l2, m2, k2⟩ := h1
  by_cases h0 : us.length = 0
  · rw [h0]; exact same_nil ao ao1 cap c1 W
  · obtain ⟨b, off, rfl, hb, hc⟩ := k1 (by omega)
    obtain ⟨b1, o1, rfl, hb1, hc1⟩ := k2 (by omega)
    exact same_any b off b1 o1 us.length cap c1 us W hc hc1 hb hb1 l1 l2 (by omega)
set_option maxHeartbeats 1000000 in
theorem twin_zero (ao : Option Addr) (cap : Nat) (w : World) : Calls Try.prog 30 #[.slice ao 0 cap] w fun e w' => e = .returned (.slice none 0 0) ∧ Below w.heap.size w w' := by
  have hp : ∀ w : World, Sem.run Try.prog (pure #[] : Sem (Array Value)) w = .ok #[] w := fun _ => rfl
  rcases ao with _ | ad
  all_goals go_enter Try.func30, Try.ntmps30
  all_goals go_wp2
  all_goals go_ret
  all_goals exact ⟨rfl, Below.refl _ _⟩
set_option maxHeartbeats 1000000 in
theorem twin_some (us : List Int) (b off cap : Nat) (w : World) (hc : ∀ j, j < us.length → w.cell? ⟨b, off + j, none⟩ = some (.int .u8 (us.getD j 0))) (h0 : 0 < us.length) (hreach : us.length ≤ 140737488351232) :
    Calls Try.prog 30 #[.slice (some ⟨b, off, none⟩) us.length cap] w fun e w' => ∃ v, e = .returned v ∧ w'.ownsRow w.heap.size 5 1 v us.length (us.map (Value.int .u8)) ∧ Below w.heap.size w w' := by
  obtain ⟨i0, hi0, hz0, hs0, hb0⟩ := u8_info
  go_enter Try.func30, Try.ntmps30
  go_wp2_with (at_builtin; refine wpList_append_grows _ rfl (.const (.slice none 0 0)) (.tmp 3) 54 rfl 5 i0 (.int .u8 0) 1 1 Try.underlying54 hi0 hz0 hs0 hb0 rfl Nat.one_pos none 0 0 [] rfl (fun _ => ⟨rfl, rfl⟩) rfl (fun b hb => nomatch hb) ⟨b, off, none⟩ us.length cap (us.map (Value.int .u8)) rfl ?c0 ?c1 ?c2 ?c3 ?c4 ?c5 ?grow)
  case c0 => simp
  case c1 =>
    intro j u hj
    rw [List.getElem?_map] at hj
    obtain ⟨z, hz, rfl⟩ := Option.map_eq_some_iff.1 hj
    have hlt := (List.getElem?_eq_some_iff.1 hz).1
    rw [Addr.add_lit, hc j hlt, List.getD_eq_getElem?_getD, hz]
    rfl
  case c2 =>
    intro u hu
    obtain ⟨z, _, rfl⟩ := List.mem_map.1 hu
    rfl
  case c3 => omega
  case c4 => unfold maxLen; omega
  case c5 => omega
  case grow =>
    intro v' w' hown hgrow
    go_wp2
    go_ret
    exact ⟨_, rfl, by simpa using hown, (Below.refl _ _).grown hgrow (Nat.le_refl _) (fun k h => by cases h)⟩
theorem twin_any (us : List Int) (ao : Option Addr) (cap : Nat) (w : World) (hs : Bs us ao cap w) (hreach : us.length ≤ 140737488351232) :
    Calls Try.prog 30 #[.slice ao us.length cap] w fun e w' => ∃ (ao1 : Option Addr) (c1 : Nat), e = .returned (.slice ao1 us.length c1) ∧ Bs us ao1 c1 w' ∧ Below w.heap.size w w' := by
  obtain ⟨l1, m1, k1⟩ := hs
  by_cases h0 : us.length = 0
  · rw [h0]
    exact (twin_zero ao cap w).mono fun e w' h => ⟨none, 0, h.1, ⟨by omega, by unfold maxLen; omega, fun h => absurd h (by omega)⟩, h.2⟩
  · obtain ⟨b, off, rfl, hb, hc⟩ := k1 (by omega)
    refine (twin_some us b off cap w hc (by omega) hreach).mono ?_
    rintro e w' ⟨v, rfl, hown, hb'⟩
    rcases hown.2 with ⟨rfl, hn⟩ | ⟨g, c1, cur, rfl, hg, hrow, hle, hmx, hsz, htk⟩
    · exact absurd hn h0
    · refine ⟨_, c1, rfl, ⟨hle, hmx, fun _ => ⟨g, 0, rfl, lt_of_block hrow, fun j hj => ?_⟩⟩, hb'⟩
      rw [Nat.zero_add, (rowcells hrow).1 j, ← Array.getElem?_toList]
      have h2 : (cur.toList.take (us.length * 1))[j]? = (us.map (Value.int .u8))[j]? := by rw [htk]
      rw [Nat.mul_one, List.getElem?_take, if_pos hj, List.getElem?_map] at h2
      rw [h2, List.getElem?_eq_getElem hj, List.getD_eq_getElem?_getD, List.getElem?_eq_getElem hj]
      rfl
end Go.Proofs.Ytcjcmnnhmajocaa.Gu
