/- crossgrainlaw4.EngineNews: the walk. -/
import Derived.Test.YtcjcmnnhmajocacEnC
namespace Go.Proofs.Ytcjcmnnhmajocac.En
open Go.RowKit Kt Me
set_option linter.unusedVariables false
set_option linter.unusedSimpArgs false
theorem chain' {w a b : World} (h : Below w.heap.size w a) (k : Below a.heap.size a b) : Below w.heap.size w b := h.trans (k.mono h.size)
set_option maxRecDepth 100000 in
set_option maxHeartbeats 4000000 in
theorem news_nil (a b c d e : Int) (o h : Bool) (w : World) :
    Calls Try.prog 5 #[.agg (opV a b c d e o h), .bool true] w fun e w' => e = .returned (.bool true) ∧ Below w.heap.size w w' := by
  have HN := Lib.hid (fun w => enew_nil a b c d e o h w)
  unfold opV at HN ⊢
  have B0 := Lib.hid (fun ob => (Below.refl w.heap.size w).alloc (Nat.le_refl _) ob)
  go_enter Try.func5, Try.ntmps5
  go_wp2_with (go_at_call 18; refine (HN.out _).mono ?_; rintro e w1 ⟨rfl, hb1⟩; have B1 := Lib.hid (chain' (B0.out _) hb1); clear hb1)
  go_ret
  exact ⟨rfl, B1.out⟩
theorem box_op (w : World) (cs : Array Value) (t : TypeId) (i : Nat) : (w.alloc (.cells cs t)).cell? ⟨w.heap.size, i, none⟩ = cs[i]? := cell_of_row _ _ _ _ _ _ (heap_alloc_new w (.cells cs t))
theorem box_up {w w' : World} {S : Nat → Prop} {cs : Array Value} {X : Nat} (h : (∀ i, w.cell? ⟨X, i, none⟩ = cs[i]?) ∧ X < w.heap.size) (u : Upto S w w') (hs : ¬ S X) : (∀ i, w'.cell? ⟨X, i, none⟩ = cs[i]?) ∧ X < w'.heap.size :=
  ⟨fun i => (u.cell (q := ⟨X, i, none⟩) h.2 hs).trans (h.1 i), Nat.lt_of_lt_of_le h.2 u.size⟩
/-- the law's own test of options -/
def opB (a b c d e : Int) : Bool := decide (c < 1) || decide (64 < c) || decide (d < 3) || decide (16 < d) || decide (e < 0) || decide (a < 1) || decide (1048576 < a) || decide (b < 1) || decide (65536 < b)
set_option maxRecDepth 100000 in
set_option maxHeartbeats 4000000 in
theorem news_ok (a b c d e : Int) (o h : Bool) (w : World) (hn : opOk a b c d e) :
    Calls Try.prog 5 #[.agg (opV a b c d e o h), .bool false] w fun e w' => e = .returned (.bool true) ∧ Below w.heap.size w w' := by
  have HN := Lib.hid (fun p M w hH => enew_ok p M a b c d e o h w hH hn)
  have HB := Lib.hid (⟨box_op w (opV a b c d e o h) 51, by simp⟩ : (∀ i, (w.alloc (.cells (opV a b c d e o h) 51)).cell? ⟨w.heap.size, i, none⟩ = (opV a b c d e o h)[i]?) ∧ w.heap.size < (w.alloc (.cells (opV a b c d e o h) 51)).heap.size)
  have B0 := Lib.hid ((Below.refl w.heap.size w).alloc (Nat.le_refl _) (.cells (opV a b c d e o h) 51))
  unfold opV at HN HB B0 ⊢
  obtain ⟨h1, h2, h3, h4, h5, h6, h7, h8, h9⟩ := hn
  have k1 : ¬ c < 1 := by omega
  have k2 : ¬ 64 < c := by omega
  have k3 : ¬ d < 3 := by omega
  have k4 : ¬ 16 < d := by omega
  have k5 : ¬ e < 0 := by omega
  have k6 : ¬ a < 1 := by omega
  have k7 : ¬ 1048576 < a := by omega
  have k8 : ¬ b < 1 := by omega
  have k9 : ¬ 65536 < b := by omega
  clear h1 h2 h3 h4 h5 h6 h7 h8 h9
  go_enter Try.func5, Try.ntmps5
  go_wp2_with fail
  generalize w.alloc (.cells #[.int .i64 a, .int .i64 b, .int .i64 c, .int .i64 d, .int .i64 e, .bool o, .bool h] 51) = WA at HB B0 ⊢
  refine (new_any _).mono ?_
  rintro e w1 ⟨rfl, q1, b1, s1⟩
  have HB1 := Lib.hid (box_up HB.out (Upto.of_below (S := fun _ => False) b1) id)
  have B1 := Lib.hid (chain' B0.out b1)
  have Z := Lib.hid (show w.heap.size < WA.heap.size from HB.out.2)
  obtain ⟨x, sx⟩ := HB1.out
  have x0 := x 0; have x1 := x 1; have x2 := x 2; have x3 := x 3; have x4 := x 4; have x5 := x 5; have x6 := x 6
  simp only [List.getElem?_toArray, List.getElem?_cons_zero, List.getElem?_cons_succ] at x0 x1 x2 x3 x4 x5 x6
  have Q1 := Lib.hid q1
  clear q1 b1 s1 x
  go_wp2_with fail
  refine (HN.out _ _ _ Q1.out).mono ?_
  rintro e w2 ⟨g, rfl, u2⟩
  have HB2 := Lib.hid (box_up HB1.out u2 (by have := Z.out; omega))
  have B2 := Lib.hid (B1.out.trans (u2.below B1.out.size (fun k hk he => by have := Z.out; omega)))
  clear x0 x1 x2 x3 x4 x5 x6 sx u2
  obtain ⟨x, sx⟩ := HB2.out
  have x0 := x 0; have x1 := x 1; have x2 := x 2; have x3 := x 3; have x4 := x 4; have x5 := x 5; have x6 := x 6
  simp only [List.getElem?_toArray, List.getElem?_cons_zero, List.getElem?_cons_succ] at x0 x1 x2 x3 x4 x5 x6
  clear x
  go_wp2
  go_ret
  refine ⟨congrArg (fun b => Ending.returned (.bool b)) ?_, B2.out⟩
  rw [Bool.eq_iff_iff]; simp; omega
set_option maxRecDepth 100000 in
set_option maxHeartbeats 4000000 in
theorem news_bad (a b c d e : Int) (o h : Bool) (w : World) (hn : ¬ opOk a b c d e) :
    Calls Try.prog 5 #[.agg (opV a b c d e o h), .bool false] w fun e w' => e = .returned (.bool true) ∧ Below w.heap.size w w' := by
  have HN := Lib.hid (fun p w => enew_bad p a b c d e o h w hn)
  have HB := Lib.hid (⟨box_op w (opV a b c d e o h) 51, by simp⟩ : (∀ i, (w.alloc (.cells (opV a b c d e o h) 51)).cell? ⟨w.heap.size, i, none⟩ = (opV a b c d e o h)[i]?) ∧ w.heap.size < (w.alloc (.cells (opV a b c d e o h) 51)).heap.size)
  have B0 := Lib.hid ((Below.refl w.heap.size w).alloc (Nat.le_refl _) (.cells (opV a b c d e o h) 51))
  have HO := Lib.hid hn
  unfold opV at HN HB B0 ⊢
  clear hn
  go_enter Try.func5, Try.ntmps5
  go_wp2_with fail
  generalize w.alloc (.cells #[.int .i64 a, .int .i64 b, .int .i64 c, .int .i64 d, .int .i64 e, .bool o, .bool h] 51) = WA at HB B0 ⊢
  refine (new_any _).mono ?_
  rintro e w1 ⟨rfl, q1, b1, s1⟩
  have HB1 := Lib.hid (box_up HB.out (Upto.of_below (S := fun _ => False) b1) id)
  have B1 := Lib.hid (chain' B0.out b1)
  obtain ⟨x, sx⟩ := HB1.out
  have x0 := x 0; have x1 := x 1; have x2 := x 2; have x3 := x 3; have x4 := x 4; have x5 := x 5; have x6 := x 6
  simp only [List.getElem?_toArray, List.getElem?_cons_zero, List.getElem?_cons_succ] at x0 x1 x2 x3 x4 x5 x6
  clear q1 b1 s1 x
  go_wp2_with fail
  refine (HN.out _ _).mono ?_
  rintro e w2 ⟨rfl, b2⟩
  have HB2 := Lib.hid (box_up HB1.out (Upto.of_below (S := fun _ => False) b2) id)
  have B2 := Lib.hid (chain' B1.out b2)
  clear x0 x1 x2 x3 x4 x5 x6 sx b2
  obtain ⟨x, sx⟩ := HB2.out
  have x0 := x 0; have x1 := x 1; have x2 := x 2; have x3 := x 3; have x4 := x 4; have x5 := x 5; have x6 := x 6
  simp only [List.getElem?_toArray, List.getElem?_cons_zero, List.getElem?_cons_succ] at x0 x1 x2 x3 x4 x5 x6
  clear x
  have hb : opB a b c d e = true := by
    have hn := HO.out
    unfold opOk at hn
    unfold opB
    simp only [Bool.or_eq_true, decide_eq_true_eq]
    omega
  unfold opB at hb
  go_wp2
  all_goals go_ret
  all_goals first
    | exact ⟨rfl, B2.out⟩
    | (exfalso; simp_all; done)
end Go.Proofs.Ytcjcmnnhmajocac.En
