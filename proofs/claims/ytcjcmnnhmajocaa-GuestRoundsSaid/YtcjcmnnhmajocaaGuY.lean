/- guest.Encode's closures: a byte of two halves; the low bytes of a number. -/
import Derived.Test.YtcjcmnnhmajocaaGuL
import Derived.Test.YtcjcmnnhmajocaaGuO
import Derived.RegionTactic
import Derived.BigRegion
namespace Go.Proofs.Ytcjcmnnhmajocaa.Gu
open Go.RowKit Kt
set_option linter.unusedVariables false
set_option linter.unusedSimpArgs false
theorem app6 (W : World) (g s n c : Nat) (v : Int) (hn : n + 1 ≤ 6) (hg : (W.cell? ⟨g, n, none⟩).isSome = true) (hf : W.frozen? ⟨g, n, none⟩ = false) (hs : W.cell? ⟨s, 0, none⟩ = some (.int .u8 v)) :
    (Builtin.append_ #[54, 54] 54 #[.slice (some ⟨g, 0, none⟩) n 6, .slice (some ⟨s, 0, none⟩) 1 c]).run Try.prog W = .ok (.slice (some ⟨g, 0, none⟩) (n + 1) 6) (W.setCell ⟨g, n, none⟩ (.int .u8 v)) := by
  obtain ⟨i, hi, hz, hsz, hb⟩ := u8_info
  have hr := run_append_room_cells (P := Try.prog) W 54 54 5 i Try.underlying54 hi g 0 n 6 ⟨s, 0, none⟩ 1 c [.int .u8 v] (by rw [hsz]; rfl) (fun j u hj => ?_) (by simp [Value.oneCell']) hn (fun j hj => ?_) (fun j hj => ?_)
  · rw [hr, hsz]
    simp [World.setCells]
  · match j, hj with
    | 0, hj => simp only [List.getElem?_cons_zero, Option.some.injEq] at hj; subst hj; exact hs
  · obtain rfl : j = 0 := by simpa using hj
    rw [hsz]; simpa using hg
  · obtain rfl : j = 0 := by simpa using hj
    rw [hsz]; simpa using hf
/-- block X: the instruction; B: the variable with the slice; M: its six cells -/
def Bf (X B M : Nat) (x : Array Value) (us : List Int) (W : World) : Prop :=
  W.heap[X]? = some (.cells x 57 (0, 0)) ∧ W.heap[B]? = some (.cells #[.slice (some ⟨M, 0, none⟩) us.length 6] 54 (0, 0)) ∧
    (∃ ms : Array Value, W.heap[M]? = some (.cells ms 5 (0, 0)) ∧ ms.size = 6 ∧ ∀ j, j < us.length → ms[j]? = some (.int .u8 (us.getD j 0))) ∧ X ≠ B ∧ X ≠ M ∧ B ≠ M
/-- what two halves make -/
def tv (hi lo : Int) : Int := bits .or .i64 (wrap64 (hi * 16)) (bits .and .i64 lo 15) % 256
/-- one byte is added: the cell, then the variable, and a new block -/
theorem Bf.push {X B M : Nat} {x : Array Value} {us : List Int} {W : World} {v : Int} (ob : Obj) (h : Bf X B M x us W) (hl : us.length + 1 ≤ 6) :
    Bf X B M x (us ++ [v]) (((W.setCell ⟨M, us.length, none⟩ (.int .u8 v)).setCell ⟨B, 0, none⟩ (.slice (some ⟨M, 0, none⟩) (us.length + 1) 6)).alloc ob) := by
  obtain ⟨h1, h2, ⟨ms, h3, h4, h5⟩, h6, h7, h8⟩ := h
  have g1 : ((W.setCell ⟨M, us.length, none⟩ (.int .u8 v)).setCell ⟨B, 0, none⟩ (.slice (some ⟨M, 0, none⟩) (us.length + 1) 6)).heap[X]? = some (.cells x 57 (0, 0)) :=
    (heap_setCell_other _ _ _ _ h6).trans ((heap_setCell_other _ _ _ _ h7).trans h1)
  have g2 : ((W.setCell ⟨M, us.length, none⟩ (.int .u8 v)).setCell ⟨B, 0, none⟩ (.slice (some ⟨M, 0, none⟩) (us.length + 1) 6)).heap[B]? = some (.cells #[.slice (some ⟨M, 0, none⟩) (us ++ [v]).length 6] 54 (0, 0)) := by
    rw [List.length_append]
    exact heap_setCell_same _ B 0 _ _ _ ((heap_setCell_other W ⟨M, us.length, none⟩ B _ h8).trans h2)
  have g3 : ((W.setCell ⟨M, us.length, none⟩ (.int .u8 v)).setCell ⟨B, 0, none⟩ (.slice (some ⟨M, 0, none⟩) (us.length + 1) 6)).heap[M]? = some (.cells (ms.setIfInBounds us.length (.int .u8 v)) 5 (0, 0)) :=
    (heap_setCell_other _ _ _ _ (fun h => h8 h.symm)).trans (heap_setCell_same _ _ _ _ _ _ h3)
  refine ⟨(Below.heap_alloc _ ob _ (lt_of_block g1)).trans g1, (Below.heap_alloc _ ob _ (lt_of_block g2)).trans g2, ⟨_, (Below.heap_alloc _ ob _ (lt_of_block g3)).trans g3, by simpa using h4, fun j hj => ?_⟩, h6, h7, h8⟩
  rw [List.length_append, List.length_singleton] at hj
  by_cases hk : j < us.length
  · rw [Array.getElem?_setIfInBounds_ne (by omega), h5 j hk, List.getD_eq_getElem?_getD, List.getD_eq_getElem?_getD, List.getElem?_append_left hk]
  · obtain rfl : j = us.length := by omega
    rw [Array.getElem?_setIfInBounds_self_of_lt (by omega)]
    simp
theorem Bf.drew {X B M : Nat} {x : Array Value} {us : List Int} {W : World} (h : Bf X B M x us W) : Bf X B M x us W.drew := h
theorem push_below {B M D : Nat} {w : World} {n : Nat} {a b : Value} (ob : Obj) (hB : D ≤ B) (hM : D ≤ M) (hD : D ≤ w.heap.size) : Below D w (((w.setCell ⟨M, n, none⟩ a).setCell ⟨B, 0, none⟩ b).alloc ob) :=
  (((Below.refl D w).setCell hM _).setCell hB _).alloc (by simpa using hD) _
theorem Bf.facts {X B M : Nat} {x : Array Value} {us : List Int} {W : World} (h : Bf X B M x us W) (hl : us.length + 1 ≤ 6) :
    (∀ i, W.cell? ⟨X, i, none⟩ = x[i]?) ∧ W.cell? ⟨B, 0, none⟩ = some (.slice (some ⟨M, 0, none⟩) us.length 6) ∧ W.frozen? ⟨B, 0, none⟩ = false ∧ (W.cell? ⟨M, us.length, none⟩).isSome = true ∧ W.frozen? ⟨M, us.length, none⟩ = false ∧ B < W.heap.size ∧ M < W.heap.size ∧ X < W.heap.size := by
  obtain ⟨h1, h2, ⟨ms, h3, h4, h5⟩, h6, h7, h8⟩ := h
  refine ⟨(rowcells h1).1, ?_, (rowcells h2).2 0, ?_, (rowcells h3).2 _, (Array.getElem?_eq_some_iff.1 h2).1, (Array.getElem?_eq_some_iff.1 h3).1, (Array.getElem?_eq_some_iff.1 h1).1⟩
  · rw [(rowcells h2).1]; rfl
  · rw [(rowcells h3).1, Array.getElem?_eq_getElem (by omega)]; rfl
set_option maxRecDepth 100000 in
set_option maxHeartbeats 4000000 in
theorem two_any (hi lo : Int) (X B M D : Nat) (x : Array Value) (us : List Int) (w : World) (h : Bf X B M x us w) (hl : us.length + 1 ≤ 6) (hB : D ≤ B) (hM : D ≤ M) (hD : D ≤ w.heap.size) :
    Calls Try.prog 89 #[.int .i64 hi, .int .i64 lo, .pointer (some ⟨B, 0, none⟩)] w fun e w' => e = .returned (.tuple #[]) ∧ Bf X B M x (us ++ [tv hi lo]) w' ∧ Below D w w' := by
  obtain ⟨k1, k2, k3, k4, k5, k6, k7, k8⟩ := h.facts hl
  have HH := Lib.hid h
  have hBM := h.2.2.2.2.2
  clear h
  have hA := fun (W : World) s c v (a : (W.cell? ⟨M, us.length, none⟩).isSome = true) (b : W.frozen? ⟨M, us.length, none⟩ = false) (d : W.cell? ⟨s, 0, none⟩ = some (.int .u8 v)) => app6 W M s us.length c v hl a b d
  obtain ⟨u, hu⟩ := Option.isSome_iff_exists.1 k4
  clear k4 hA
  have hMB : M ≠ B := fun h => hBM h.symm
  go_enter Try.func89, Try.ntmps89
  go_wp2
  go_end0
  exact ⟨rfl, HH.out.push _ hl, push_below _ hB hM hD⟩
set_option maxRecDepth 100000 in
set_option maxHeartbeats 4000000 in
theorem low_1 (X B M D : Nat) (o d s f m : Int) (us : List Int) (w : World) (hm : 0 ≤ m ∧ m < 4294967296) (h : Bf X B M (In5 o d s f m) us w) (hl : us.length + 1 ≤ 6) (hB : D ≤ B) (hM : D ≤ M) (hD : D ≤ w.heap.size) :
    Calls Try.prog 88 #[.int .i64 1, .pointer (some ⟨B, 0, none⟩), .pointer (some ⟨X, 0, none⟩)] w fun e w' => e = .returned (.tuple #[]) ∧ Bf X B M (In5 o d s f m) (us ++ [m % 256]) w' ∧ Below D w w' := by
  obtain ⟨k1, k2, k3, k4, k5, k6, k7, k8⟩ := h.facts hl
  simp only [In5] at k1
  have HH := Lib.hid h
  have hBM := h.2.2.2.2.2
  clear h
  obtain ⟨u, hu⟩ := Option.isSome_iff_exists.1 k4
  clear k4
  have hMB : M ≠ B := fun h => hBM h.symm
  obtain ⟨m0, m1⟩ := hm
  go_enter Try.func88, Try.ntmps88
  go_wp2
  refine wp_loop_rounds 2 ?_
  rw [rounds_succ]; go_wp2
  go_region
  go_wp2
  rw [rounds_succ]; go_wp2
  go_end0
  exact ⟨rfl, (HH.out.push _ hl).drew, (push_below _ hB hM hD).drew⟩
set_option maxRecDepth 100000 in
set_option maxHeartbeats 4000000 in
theorem low_4 (X B M D : Nat) (o d s f m : Int) (us : List Int) (w : World) (hm : 0 ≤ m ∧ m < 4294967296) (h : Bf X B M (In5 o d s f m) us w) (hl : us.length + 4 ≤ 6) (hB : D ≤ B) (hM : D ≤ M) (hD : D ≤ w.heap.size) :
    Calls Try.prog 88 #[.int .i64 4, .pointer (some ⟨B, 0, none⟩), .pointer (some ⟨X, 0, none⟩)] w fun e w' => e = .returned (.tuple #[]) ∧ Bf X B M (In5 o d s f m) (us ++ [m % 256] ++ [m / 256 % 256] ++ [m / 65536 % 256] ++ [m / 16777216]) w' ∧ Below D w w' := by
  have hBM := h.2.2.2.2.2
  have hMB : M ≠ B := fun h => hBM h.symm
  obtain ⟨m0, m1⟩ := hm
  have b0 := Below.refl D w
  obtain ⟨us0, hu0⟩ : ∃ u, us = u := ⟨_, rfl⟩
  have HU := Lib.hid hu0
  have L0 : us0.length + 4 ≤ 6 := by rw [← hu0]; exact hl
  have l0 : us0.length + 1 ≤ 6 := by omega
  rw [hu0] at h
  clear hl
  obtain ⟨k1, k2, k3, k4, k5, k6, k7, k8⟩ := h.facts l0
  obtain ⟨u, k4⟩ := Option.isSome_iff_exists.1 k4
  simp only [In5] at k1
  have HH := Lib.hid h
  have BB := Lib.hid b0
  clear h b0 hu0
  go_enter Try.func88, Try.ntmps88
  go_wp2
  refine wp_loop_rounds 5 ?_
  rw [rounds_succ]; go_wp2
  go_region
  go_wp2
  have P0 := (HH.out.push (v := m % 256) (.cells #[.int .u8 (m % 256)] 5) l0).drew
  have b1 : Below D w _ := BB.out.trans (push_below (B := B) (M := M) (n := us0.length) (a := .int .u8 (m % 256)) (b := .slice (some ⟨M, 0, none⟩) (us0.length + 1) 6) (.cells #[.int .u8 (m % 256)] 5) hB hM (Nat.le_trans hD BB.out.size)).drew
  generalize ((((w.setCell ⟨M, us0.length, none⟩ (.int .u8 (m % 256))).setCell ⟨B, 0, none⟩ (.slice (some ⟨M, 0, none⟩) (us0.length + 1) 6)).alloc (.cells #[.int .u8 (m % 256)] 5))).drew = ww1 at P0 b1 ⊢
  obtain ⟨us1, hu1⟩ : ∃ u, us0 ++ [m % 256] = u := ⟨_, rfl⟩
  rw [hu1] at P0
  have L1 : us1.length + 3 ≤ 6 := by rw [← hu1, List.length_append, List.length_singleton]; omega
  have HU1 := Lib.hid hu1
  clear HH BB k1 k2 k3 k4 k5 k6 k7 k8 hu1
  have l1 : us1.length + 1 ≤ 6 := by omega
  obtain ⟨k1, k2, k3, k4, k5, k6, k7, k8⟩ := P0.facts l1
  obtain ⟨u, k4⟩ := Option.isSome_iff_exists.1 k4
  simp only [In5] at k1
  have HH := Lib.hid P0
  have BB := Lib.hid b1
  clear P0 b1
  rw [rounds_succ]; go_wp2
  go_region
  go_wp2
  have P1 := (HH.out.push (v := m / 256 % 256) (.cells #[.int .u8 (m / 256 % 256)] 5) l1).drew
  have b2 : Below D w _ := BB.out.trans (push_below (B := B) (M := M) (n := us1.length) (a := .int .u8 (m / 256 % 256)) (b := .slice (some ⟨M, 0, none⟩) (us1.length + 1) 6) (.cells #[.int .u8 (m / 256 % 256)] 5) hB hM (Nat.le_trans hD BB.out.size)).drew
  generalize ((((ww1.setCell ⟨M, us1.length, none⟩ (.int .u8 (m / 256 % 256))).setCell ⟨B, 0, none⟩ (.slice (some ⟨M, 0, none⟩) (us1.length + 1) 6)).alloc (.cells #[.int .u8 (m / 256 % 256)] 5))).drew = ww2 at P1 b2 ⊢
  obtain ⟨us2, hu2⟩ : ∃ u, us1 ++ [m / 256 % 256] = u := ⟨_, rfl⟩
  rw [hu2] at P1
  have L2 : us2.length + 2 ≤ 6 := by rw [← hu2, List.length_append, List.length_singleton]; omega
  have HU2 := Lib.hid hu2
  clear HH BB k1 k2 k3 k4 k5 k6 k7 k8 hu2
  have l2 : us2.length + 1 ≤ 6 := by omega
  obtain ⟨k1, k2, k3, k4, k5, k6, k7, k8⟩ := P1.facts l2
  obtain ⟨u, k4⟩ := Option.isSome_iff_exists.1 k4
  simp only [In5] at k1
  have HH := Lib.hid P1
  have BB := Lib.hid b2
  clear P1 b2
  rw [rounds_succ]; go_wp2
  go_region
  go_wp2
  have P2 := (HH.out.push (v := m / 65536 % 256) (.cells #[.int .u8 (m / 65536 % 256)] 5) l2).drew
  have b3 : Below D w _ := BB.out.trans (push_below (B := B) (M := M) (n := us2.length) (a := .int .u8 (m / 65536 % 256)) (b := .slice (some ⟨M, 0, none⟩) (us2.length + 1) 6) (.cells #[.int .u8 (m / 65536 % 256)] 5) hB hM (Nat.le_trans hD BB.out.size)).drew
  generalize ((((ww2.setCell ⟨M, us2.length, none⟩ (.int .u8 (m / 65536 % 256))).setCell ⟨B, 0, none⟩ (.slice (some ⟨M, 0, none⟩) (us2.length + 1) 6)).alloc (.cells #[.int .u8 (m / 65536 % 256)] 5))).drew = ww3 at P2 b3 ⊢
  obtain ⟨us3, hu3⟩ : ∃ u, us2 ++ [m / 65536 % 256] = u := ⟨_, rfl⟩
  rw [hu3] at P2
  have L3 : us3.length + 1 ≤ 6 := by rw [← hu3, List.length_append, List.length_singleton]; omega
  have HU3 := Lib.hid hu3
  clear HH BB k1 k2 k3 k4 k5 k6 k7 k8 hu3
  have l3 : us3.length + 1 ≤ 6 := by omega
  obtain ⟨k1, k2, k3, k4, k5, k6, k7, k8⟩ := P2.facts l3
  obtain ⟨u, k4⟩ := Option.isSome_iff_exists.1 k4
  simp only [In5] at k1
  have HH := Lib.hid P2
  have BB := Lib.hid b3
  clear P2 b3
  rw [rounds_succ]; go_wp2
  go_region
  go_wp2
  have P3 := (HH.out.push (v := m / 16777216) (.cells #[.int .u8 (m / 16777216)] 5) l3).drew
  have b4 : Below D w _ := BB.out.trans (push_below (B := B) (M := M) (n := us3.length) (a := .int .u8 (m / 16777216)) (b := .slice (some ⟨M, 0, none⟩) (us3.length + 1) 6) (.cells #[.int .u8 (m / 16777216)] 5) hB hM (Nat.le_trans hD BB.out.size)).drew
  generalize ((((ww3.setCell ⟨M, us3.length, none⟩ (.int .u8 (m / 16777216))).setCell ⟨B, 0, none⟩ (.slice (some ⟨M, 0, none⟩) (us3.length + 1) 6)).alloc (.cells #[.int .u8 (m / 16777216)] 5))).drew = ww4 at P3 b4 ⊢
  obtain ⟨us4, hu4⟩ : ∃ u, us3 ++ [m / 16777216] = u := ⟨_, rfl⟩
  rw [hu4] at P3
  have HU4 := Lib.hid hu4
  clear HH BB k1 k2 k3 k4 k5 k6 k7 k8 hu4
  have HH := Lib.hid P3
  have BB := Lib.hid b4
  clear P3 b4
  rw [rounds_succ]; go_wp2
  go_end0
  have e : us4 = us ++ [m % 256] ++ [m / 256 % 256] ++ [m / 65536 % 256] ++ [m / 16777216] := by rw [← HU4.out, ← HU3.out, ← HU2.out, ← HU1.out, HU.out]
  rw [← e]
  exact ⟨rfl, HH.out, BB.out⟩
end Go.Proofs.Ytcjcmnnhmajocaa.Gu
