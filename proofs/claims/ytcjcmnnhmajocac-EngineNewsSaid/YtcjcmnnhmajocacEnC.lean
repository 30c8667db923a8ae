/- engine.New: of which options there is one. -/
import Derived.Test.YtcjcmnnhmajocacEnB
namespace Go.Proofs.Ytcjcmnnhmajocac.En
open Go.RowKit Kt Me
set_option linter.unusedVariables false
set_option linter.unusedSimpArgs false
theorem up_drop {E : Nat} {S : Nat → Prop} {w a b : World} (h : Upto S w a) (k : Upto (fun i => i = E) a b) (hB : w.heap.size ≤ E) : Upto S w b :=
  ⟨k.os.trans h.os, k.tape.trans h.tape, k.output.trans h.output, Nat.le_trans h.size k.size, fun i hi hs => (k.block i (Nat.lt_of_lt_of_le hi h.size) (by omega)).trans (h.block i hi hs)⟩
def opV (a b c d e : Int) (o h : Bool) : Array Value := #[.int .i64 a, .int .i64 b, .int .i64 c, .int .i64 d, .int .i64 e, .bool o, .bool h]
/-- may options be so? -/
def opOk (a b c d e : Int) : Prop := 1 ≤ c ∧ c ≤ 64 ∧ 3 ≤ d ∧ d ≤ 16 ∧ 0 ≤ e ∧ 1 ≤ a ∧ a ≤ 1048576 ∧ 1 ≤ b ∧ b ≤ 65536
set_option maxRecDepth 100000 in
set_option maxHeartbeats 2000000 in
theorem enew_nil (a b c d e : Int) (o h : Bool) (w : World) :
    Calls Try.prog 18 #[.pointer none, .agg (opV a b c d e o h)] w fun e w' => e = .returned (.tuple #[.pointer none, .int .i64 4]) ∧ Below w.heap.size w w' := by
  unfold opV
  have b0 := Below.refl w.heap.size w
  go_enter Try.func18, Try.ntmps18
  go_wp2
  go_ret2
  exact ⟨rfl, b0.alloc (Nat.le_refl _) _⟩
set_option maxRecDepth 100000 in
set_option maxHeartbeats 2000000 in
theorem enew_bad (p : Nat) (a b c d e : Int) (o h : Bool) (w : World) (hn : ¬ opOk a b c d e) :
    Calls Try.prog 18 #[.pointer (some ⟨p, 0, none⟩), .agg (opV a b c d e o h)] w fun e w' => e = .returned (.tuple #[.pointer none, .int .i64 4]) ∧ Below w.heap.size w w' := by
  unfold opV
  have B0 := Lib.hid (fun ob => (Below.refl w.heap.size w).alloc (Nat.le_refl _) ob)
  unfold opOk at hn
  rcases (show c < 1 ∨ (¬ c < 1 ∧ 64 < c) ∨ (¬ c < 1 ∧ ¬ 64 < c ∧ d < 3) ∨ (¬ c < 1 ∧ ¬ 64 < c ∧ ¬ d < 3 ∧ 16 < d) ∨ (¬ c < 1 ∧ ¬ 64 < c ∧ ¬ d < 3 ∧ ¬ 16 < d ∧ e < 0) ∨ (¬ c < 1 ∧ ¬ 64 < c ∧ ¬ d < 3 ∧ ¬ 16 < d ∧ ¬ e < 0 ∧ ¬ (1 ≤ a ∧ a ≤ 1048576 ∧ 1 ≤ b ∧ b ≤ 65536)) by omega) with h1 | ⟨h1, h2⟩ | ⟨h1, h2, h3⟩ | ⟨h1, h2, h3, h4⟩ | ⟨h1, h2, h3, h4, h5⟩ | ⟨h1, h2, h3, h4, h5, h6⟩
  · clear hn; go_enter Try.func18, Try.ntmps18; go_wp2; go_ret2; exact ⟨rfl, B0.out _⟩
  · clear hn; go_enter Try.func18, Try.ntmps18; go_wp2; go_ret2; exact ⟨rfl, B0.out _⟩
  · clear hn; go_enter Try.func18, Try.ntmps18; go_wp2; go_ret2; exact ⟨rfl, B0.out _⟩
  · clear hn; go_enter Try.func18, Try.ntmps18; go_wp2; go_ret2; exact ⟨rfl, B0.out _⟩
  · clear hn; go_enter Try.func18, Try.ntmps18; go_wp2; go_ret2; exact ⟨rfl, B0.out _⟩
  · have HC := Lib.hid (fun w => cnew_no a b w h6)
    clear hn h6
    go_enter Try.func18, Try.ntmps18
    go_wp2_with (go_at_call 6; refine (HC.out _).mono ?_; rintro e w' ⟨rfl, rfl⟩)
    go_ret2
    exact ⟨rfl, B0.out _⟩
set_option maxHeartbeats 2000000 in
theorem forget_any (E : Nat) (w : World) (u9 u10 : Value) (h9 : w.cell? ⟨E, 9, none⟩ = some u9) (h10 : w.cell? ⟨E, 10, none⟩ = some u10) (z : ∀ i, w.frozen? ⟨E, i, none⟩ = false) (lE : E < w.heap.size) :
    Calls Try.prog 51 #[.pointer (some ⟨E, 0, none⟩)] w fun e w' => e = .returned (.tuple #[]) ∧ Upto (fun i => i = E) w w' := by
  have hmm := @run_makeMap Try.prog
  have z9 := z 9
  have z10 := z 10
  clear z
  go_enter Try.func51, Try.ntmps51
  go_wp2
  go_end0
  exact ⟨rfl, ((((Upto.refl (fun i => i = E) _).setCell (q := ⟨E, 9, none⟩) (.inl rfl) _).setCell (q := ⟨E, 10, none⟩) (.inl rfl) _).alloc _).alloc _⟩
theorem eng_cells (W : World) (cs : Array Value) (t t' : TypeId) (v : Value) (E : Nat) (hE : W.heap.size = E) : (∀ i, ((W.alloc (.cells cs t)).alloc (.cells #[v] t')).cell? ⟨E, i, none⟩ = cs[i]?) ∧ (∀ i, ((W.alloc (.cells cs t)).alloc (.cells #[v] t')).frozen? ⟨E, i, none⟩ = false) ∧ ((W.alloc (.cells cs t)).alloc (.cells #[v] t')).cell? ⟨E + 1, 0, none⟩ = some v ∧ E + 1 < ((W.alloc (.cells cs t)).alloc (.cells #[v] t')).heap.size := by
  have e1 : ((W.alloc (.cells cs t)).alloc (.cells #[v] t')).heap[E]? = some (.cells cs t (0, 0)) := by
    rw [Below.heap_alloc _ _ _ (by simp; omega)]; subst hE; exact heap_alloc_new W (.cells cs t)
  have e2 : ((W.alloc (.cells cs t)).alloc (.cells #[v] t')).heap[E + 1]? = some (.cells #[v] t' (0, 0)) := by
    have h : (W.alloc (.cells cs t)).heap.size = E + 1 := by simp [hE]
    rw [← h]; exact heap_alloc_new _ _
  exact ⟨fun i => cell_of_row _ _ _ _ _ _ e1, fun i => frozen_of_row _ _ _ _ _ e1, cell_of_row _ _ _ _ _ _ e2, by simp [hE]⟩
theorem forget_after (W : World) (cs : Array Value) (t t' : TypeId) (v : Value) (E : Nat) (hE : W.heap.size = E) (h12 : cs.size = 12) :
    Calls Try.prog 51 #[.pointer (some ⟨E, 0, none⟩)] ((W.alloc (.cells cs t)).alloc (.cells #[v] t')) fun e w' => e = .returned (.tuple #[]) ∧ w'.cell? ⟨E + 1, 0, none⟩ = some v ∧ Upto (fun i => i = E) ((W.alloc (.cells cs t)).alloc (.cells #[v] t')) w' := by
  obtain ⟨h1, h2, h3, h4⟩ := eng_cells W cs t t' v E hE
  refine (forget_any E _ _ _ ((h1 9).trans (Array.getElem?_eq_getElem (by omega))) ((h1 10).trans (Array.getElem?_eq_getElem (by omega))) h2 (Nat.lt_of_succ_lt h4)).mono ?_
  rintro e w' ⟨rfl, u⟩
  exact ⟨rfl, (u.cell (q := ⟨E + 1, 0, none⟩) h4 (by simp)).trans h3, u⟩
set_option maxRecDepth 100000 in
set_option maxHeartbeats 4000000 in
theorem enew_ok (p : Nat) (M : MM) (a b c d e : Int) (o h : Bool) (w : World) (hH : HC p M w) (hn : opOk a b c d e) :
    Calls Try.prog 18 #[.pointer (some ⟨p, 0, none⟩), .agg (opV a b c d e o h)] w fun e w' => ∃ g, e = .returned (.tuple #[.pointer (some ⟨g, 0, none⟩), .int .i64 0]) ∧ Upto (fun i => i = p) w w' := by
  unfold opV
  obtain ⟨h1, h2, h3, h4, h5, h6, h7, h8, h9⟩ := hn
  have k1 : ¬ c < 1 := by omega
  have k2 : ¬ 64 < c := by omega
  have k3 : ¬ d < 3 := by omega
  have k4 : ¬ 16 < d := by omega
  have k5 : ¬ e < 0 := by omega
  have HCN := Lib.hid (fun w => cnew_ok a b w h6 h7 h8 h9)
  have HM0 := Lib.hid (fun ob => HC.upto hH ((Upto.refl (fun _ => False) w).alloc ob) id)
  have U0 := Lib.hid (fun ob => (Upto.refl (fun i => i = p) w).alloc ob)
  have lp := hH.2.2.2.2.2.2
  have hXp : ¬ w.heap.size = p := by omega
  have HX := Lib.hid (fun i => cell_of_row _ w.heap.size i _ _ _ (heap_alloc_new w (.cells #[.int .i64 a, .int .i64 b, .int .i64 c, .int .i64 d, .int .i64 e, .bool o, .bool h] 51)))
  have sX : w.heap.size < (w.alloc (.cells #[.int .i64 a, .int .i64 b, .int .i64 c, .int .i64 d, .int .i64 e, .bool o, .bool h] 51)).heap.size := by simp
  have hmm := @run_makeMap Try.prog
  clear hH h1 h2 h3 h4 h5 h6 h7 h8 h9
  go_enter Try.func18, Try.ntmps18
  go_wp2_with (go_at_call 6; refine (HCN.out _).mono ?_; rintro e w1 ⟨g, rfl, hb1⟩)
  have HM1 := Lib.hid (HC.upto (HM0.out _) (Upto.of_below (S := fun _ => False) hb1) id)
  have U1 := Lib.hid ((U0.out _).trans (Upto.of_below hb1))
  have X1 := Lib.hid (fun i => (hb1.cell (p := ⟨w.heap.size, i, none⟩) sX).trans (HX.out i))
  have sX1 := Nat.lt_of_lt_of_le sX hb1.size
  clear hb1 HX sX HM0 U0
  go_loopg [48] 256 (fun gg i wr => ∃ (k : Nat) (M' : MM), gg = 256 - k ∧ k ≤ 256 ∧ i = .int .i64 k ∧ Hid (HC p M' wr) ∧ Hid (Upto (fun i => i = p) w1 wr))
  case atStart => exact ⟨0, M, rfl, Nat.zero_le _, rfl, HM1.out, Upto.refl _ _⟩
  case round =>
    obtain ⟨k, M', hg, hk, rfl, HM, HU⟩ := hrel
    by_cases hlt : k < 256
    · have hlt' : (k : Int) < 256 := by omega
      go_wp2_with (go_at_call 47; refine (mark_any p M' (k : Int) false _ HM.out).mono ?_; rintro e w2 ⟨rfl, h2, o2⟩)
      go_roundg (256 - (k + 1))
      case measure => omega
      case rel => exact ⟨k + 1, _, rfl, by omega, by simp, h2, HU.out.trans o2⟩
    · obtain rfl : k = 256 := by omega
      have x0 := (HU.out.cell (q := ⟨w.heap.size, 0, none⟩) sX1 hXp).trans (X1.out 0)
      have x1 := (HU.out.cell (q := ⟨w.heap.size, 1, none⟩) sX1 hXp).trans (X1.out 1)
      have x2 := (HU.out.cell (q := ⟨w.heap.size, 2, none⟩) sX1 hXp).trans (X1.out 2)
      have x3 := (HU.out.cell (q := ⟨w.heap.size, 3, none⟩) sX1 hXp).trans (X1.out 3)
      have x4 := (HU.out.cell (q := ⟨w.heap.size, 4, none⟩) sX1 hXp).trans (X1.out 4)
      have x5 := (HU.out.cell (q := ⟨w.heap.size, 5, none⟩) sX1 hXp).trans (X1.out 5)
      have x6 := (HU.out.cell (q := ⟨w.heap.size, 6, none⟩) sX1 hXp).trans (X1.out 6)
      simp only [List.getElem?_toArray, List.getElem?_cons_zero, List.getElem?_cons_succ] at x0 x1 x2 x3 x4 x5 x6
      have sX2 := Nat.lt_of_lt_of_le sX1 HU.out.size
      have U2 := Lib.hid (U1.out.trans HU.out)
      cases o
      all_goals go_wp2_with fail
      all_goals
        obtain ⟨E, hE⟩ : ∃ E, wr.heap.size = E := ⟨_, rfl⟩
        have U3 := Lib.hid (fun o1 o2 => (U2.out.alloc o1).alloc o2)
        rw [hE]
        refine (forget_after wr _ _ _ _ E hE rfl).mono ?_
        rintro e w5 ⟨rfl, r0, u5⟩
        have U5 := Lib.hid (up_drop (U3.out _ _) u5 (by have := U2.out.size; omega))
        clear u5
        go_wp2_with fail
        go_ret2
        exact ⟨E, rfl, U5.out⟩
end Go.Proofs.Ytcjcmnnhmajocac.En
