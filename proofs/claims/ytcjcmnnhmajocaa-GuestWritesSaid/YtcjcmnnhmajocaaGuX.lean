/- crossgrainlaw1.GuestWrites: the walk. -/
import Derived.Test.YtcjcmnnhmajocaaGuM
import Derived.LoopN
import Derived.Deep.LoopGhost
namespace Go.Proofs.Ytcjcmnnhmajocaa.Gu
open Go.RowKit Kt
set_option linter.unusedVariables false
set_option linter.unusedSimpArgs false
/-- only the block of ao has been turned, in its first n bytes -/
def Tn (ao : Option Addr) (n : Nat) (w wA wr : World) : Prop :=
  wr.heap.size = wA.heap.size ∧ (∀ k, (∀ g, ao = some g → g.block ≠ k) → wr.heap[k]? = wA.heap[k]?) ∧ (∀ g, ao = some g → ∀ j, j < n → ∃ v : Int, wr.cell? ⟨g.block, g.off + j, none⟩ = some (.int .u8 v)) ∧ (∀ g, ao = some g → 0 < n → ∀ i, wr.frozen? ⟨g.block, i, none⟩ = false) ∧ Below w.heap.size w wr
theorem frz_keep {W W' : World} {g : Nat} (h : ∀ i, W.frozen? ⟨g, i, none⟩ = false) (hb : Below W.heap.size W W') (hlt : g < W.heap.size) : ∀ i, W'.frozen? ⟨g, i, none⟩ = false := by
  intro i
  have hh := hb.block g hlt
  have := h i
  simp only [World.frozen?, hh] at this ⊢
  exact this
theorem blk_lt {us : List Int} {ao : Option Addr} {cap : Nat} {W : World} (h : Bs us ao cap W) (g : Addr) (hg : ao = some g) (hn : 0 < us.length) : g.block < W.heap.size ∧ g.spot = none := by
  obtain ⟨b, off, he, hb, _⟩ := h.2.2 hn
  rw [hg] at he
  obtain rfl := Option.some.inj he
  exact ⟨hb, rfl⟩
theorem Bs.other {us : List Int} {ao : Option Addr} {cap : Nat} {W W' : World} (h : Bs us ao cap W) (hs : W'.heap.size = W.heap.size) (hk : ∀ g, ao = some g → 0 < us.length → W'.heap[g.block]? = W.heap[g.block]?) : Bs us ao cap W' := by
  refine ⟨h.1, h.2.1, fun hn => ?_⟩
  obtain ⟨b, off, he, hb, hc⟩ := h.2.2 hn
  refine ⟨b, off, he, by omega, fun j hj => ?_⟩
  exact (World.cell?_of_block (a := ⟨b, off + j, none⟩) (show W'.heap[b]? = W.heap[b]? from hk ⟨b, off, none⟩ he hn)).trans (hc j hj)
theorem Tn.start {us : List Int} {ao : Option Addr} {cap : Nat} {w wA : World} (h : Bs us ao cap wA) (hf : ∀ g, ao = some g → 0 < us.length → ∀ i, wA.frozen? ⟨g.block, i, none⟩ = false) (hb : Below w.heap.size w wA) : Tn ao us.length w wA wA := by
  refine ⟨rfl, fun k _ => rfl, fun g hg j hj => ?_, hf, hb⟩
  obtain ⟨b, off, he, _, hc⟩ := h.2.2 (by omega)
  rw [hg] at he
  obtain rfl := Option.some.inj he
  exact ⟨_, hc j hj⟩
theorem Tn.set {g : Addr} {n : Nat} {w wA wr : World} (h : Tn (some g) n w wA wr) (hw : w.heap.size ≤ g.block) (j : Nat) (x : Int) : Tn (some g) n w wA (wr.setCell ⟨g.block, g.off + j, none⟩ (.int .u8 x)) := by
  obtain ⟨h1, h2, h3, h4, h5⟩ := h
  refine ⟨by simpa using h1, fun k hk => ?_, fun g' hg i hi => ?_, fun g' hg hn i => ?_, h5.setCell (show w.heap.size ≤ (⟨g.block, g.off + j, none⟩ : Addr).block from hw) _⟩
  · exact (heap_setCell_other wr ⟨g.block, g.off + j, none⟩ k _ (fun h => hk g rfl h.symm)).trans (h2 k hk)
  · obtain rfl := Option.some.inj hg
    by_cases hij : i = j
    · subst hij
      obtain ⟨v, hv⟩ := h3 g rfl i hi
      exact ⟨x, World.cell?_setCell_same _ _ _ hv⟩
    · obtain ⟨v, hv⟩ := h3 g rfl i hi
      refine ⟨v, ?_⟩
      rw [World.cell?_setCell_other _ _ _ _ (by intro h; simp only [Addr.mk.injEq] at h; omega)]
      exact hv
  · obtain rfl := Option.some.inj hg
    have := h4 g rfl hn i
    simpa using this
set_option maxRecDepth 100000 in
set_option maxHeartbeats 4000000 in
theorem guestwrites_walk (o d s f m : Int) (hm : 0 ≤ m ∧ m < 4294967296) (w : World) :
    Calls Try.prog 10 #[.agg #[.int .i64 o, .int .i64 d, .int .i64 s, .int .i64 f, .int .u32 m]] w fun e w' => e = .returned (.bool true) ∧ Below w.heap.size w w' := by
  obtain ⟨us, z, hrg, hz0, hz1, _, hG, hR⟩ := enc_both o d s f m hm
  have HG := Lib.hid hG
  have HR := Lib.hid hR
  clear hG hR hrg hz0 hz1 hm
  go_enter Try.func10, Try.ntmps10
  go_wp2_with (first
    | (go_at_call 42; refine (HG.out _).mono ?_; rintro e w1 ⟨ao1, c1, rfl, bs1, fr1, hb1⟩; obtain ⟨kX, s1, hb1'⟩ := behindF hb1)
    | (go_at_call 43; refine (HR.out _).mono ?_; rintro e w2 ⟨ao2, c2, rfl, bs2, fr2, hb2⟩)
    | (go_at_call 33; refine (same_bs us ao1 c1 ao2 c2 _ (bs1.keep hb2) bs2).mono ?_; rintro e w3 ⟨rfl, hb3⟩))
  have hB3 : Below w.heap.size w w3 := chain (chain hb1' hb2) hb3
  have hT := Tn.start ((bs1.keep hb2).keep hb3) (w := w) (fun g hg hn => frz_keep (frz_keep (fr1 g hg).2 hb2 (blk_lt bs1 g hg hn).1) hb3 (blk_lt (bs1.keep hb2) g hg hn).1) hB3
  go_loopg [31] us.length (fun k i wr => ∃ q : Nat, k = us.length - q ∧ q ≤ us.length ∧ i = .int .i64 q ∧ Hid (Tn ao1 us.length w w3 wr))
  case atStart => exact ⟨0, rfl, Nat.zero_le _, rfl, Lib.hid hT⟩
  case round =>
    obtain ⟨q, hk, hq, rfl, hT⟩ := hrel
    have HK := Lib.hid hk
    clear hk
    by_cases hlt : q < us.length
    · obtain ⟨g, off, rfl, hgw, _⟩ := bs1.2.2 (by omega)
      have hcap := bs1.1
      obtain ⟨v, cv⟩ := hT.out.2.2.1 ⟨g, off, none⟩ rfl q hlt
      have zv := hT.out.2.2.2.1 ⟨g, off, none⟩ rfl (by omega) (off + q)
      dsimp only at cv zv
      have hlt' : (q : Int) < (us.length : Int) := by omega
      have hmx : (maxLen : Nat) = 9223372036854775807 := rfl
      have hcm := bs1.2.1
      have hg1 : w.heap.size ≤ (⟨g, off, none⟩ : Addr).block := by
        have := (fr1 _ rfl).1
        simp only [World.size_alloc] at this
        show w.heap.size ≤ g
        omega
      go_wp2
      go_roundg (us.length - (q + 1))
      case measure =>
        have := HK.out
        omega
      case rel => exact ⟨q + 1, rfl, by omega, by simp, Lib.hid (hT.out.set (g := ⟨g, off, none⟩) hg1 q _)⟩
    · obtain rfl : q = us.length := by omega
      have hne : ∀ g, ao1 = some g → 0 < us.length → g.block < w1.heap.size := fun g hg hn => (blk_lt bs1 g hg hn).1
      have hX1 : ∀ g, ao1 = some g → g.block ≠ w.heap.size := fun g hg => by
        have := (fr1 g hg).1
        simp only [World.size_alloc] at this
        omega
      have hXr : wr.heap[w.heap.size]? = w3.heap[w.heap.size]? := hT.out.2.1 _ hX1
      have kX3 : ∀ i, wr.cell? ⟨w.heap.size, i, none⟩ = (#[.int .i64 o, .int .i64 d, .int .i64 s, .int .i64 f, .int .u32 m] : Array Value)[i]? := fun i => by
        rw [World.cell?_of_block (a := ⟨w.heap.size, i, none⟩) hXr, hb3.cell (p := ⟨w.heap.size, i, none⟩) (by have := hb2.size; simp only; omega), hb2.cell (p := ⟨w.heap.size, i, none⟩) s1]
        exact kX i
      have bs2r : Bs us ao2 c2 wr := (bs2.keep hb3).other hT.out.1 (fun g2 hg2 hn => hT.out.2.1 _ (fun g hg => by
        have h1 := fr2 g2 hg2
        have h2 := hne g hg hn
        omega))
      have HB2 := Lib.hid bs2r
      have HBr := Lib.hid hT.out.2.2.2.2
      clear kX hT bs2r hne hX1 hXr
      go_wp2_with (first
        | (go_at_call 42; refine (HG.out _).mono ?_; rintro e w5 ⟨ao3, c3, rfl, bs3, fr3, hb5⟩)
        | (go_at_call 33; refine (same_bs us ao3 c3 ao2 c2 _ bs3 (HB2.out.keep hb5)).mono ?_; rintro e w6 ⟨rfl, hb6⟩))
      go_ret
      exact ⟨rfl, chain (chain HBr.out hb5) hb6⟩
end Go.Proofs.Ytcjcmnnhmajocaa.Gu
