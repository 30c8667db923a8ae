import Derived.Test.YtcjcmnnhmajocaaIrS
import Derived.Test.YtcjcmnnhmajocaaEq
import Derived.Test.YtcjcmnnhmajocaaPost
import Derived.Deep.RegionHeld3
namespace Go.Proofs.Ytcjcmnnhmajocaa.Ir
open Go.RowKit Kt
set_option linter.unusedVariables false
theorem all_cells (w : World) (cs : Array Value) (t : TypeId) : ∀ i, (w.alloc (.cells cs t)).cell? ⟨w.heap.size, i, none⟩ = cs[i]? := fun i => World.cell?_alloc_new w cs t i
theorem keep_cells {g : Nat} {w w' : World} {cs : Array Value} (h : ∀ i, w.cell? ⟨g, i, none⟩ = cs[i]?) (hb : Below w.heap.size w w') (hg : g < w.heap.size) : ∀ i, w'.cell? ⟨g, i, none⟩ = cs[i]? :=
  fun i => (hb.cell (p := ⟨g, i, none⟩) hg).trans (h i)
theorem after2 {w w1 : World} {A B : Array Value} {ta tb : TypeId} (hb1 : Below ((w.alloc (.cells A ta)).alloc (.cells B tb)).heap.size ((w.alloc (.cells A ta)).alloc (.cells B tb)) w1) :
    (∀ i, w1.cell? ⟨w.heap.size, i, none⟩ = A[i]?) ∧ (∀ i, w1.cell? ⟨w.heap.size + 1, i, none⟩ = B[i]?) ∧ w.heap.size < w1.heap.size ∧ w.heap.size + 1 < w1.heap.size ∧ Below w.heap.size w w1 := by
  have hs := hb1.size
  simp only [World.size_alloc] at hs
  refine ⟨keep_cells (fun i => ?_) hb1 (by simp; omega), keep_cells (fun i => ?_) hb1 (by simp), by omega, by omega, (((Below.refl _ _).alloc (Nat.le_refl _) _).alloc (by simp) _).trans (hb1.mono (by simp; omega))⟩
  · exact World.cell?_alloc2_first _ _ _ _
  · exact World.cell?_alloc2_new _ _ _ _
theorem range_of {w : World} {g : Nat} {cs : List Value} (h : ∀ i, w.cell? ⟨g, i, none⟩ = cs.toArray[i]?) : w.rangeAt g 0 cs := by
  intro j v hj
  rw [h, Nat.zero_add]
  simpa using hj
theorem keep_range {g : Nat} {w w' : World} {cs : List Value} (h : w.rangeAt g 0 cs) (hb : Below w.heap.size w w') (hg : g < w.heap.size) : w'.rangeAt g 0 cs :=
  fun j v hj => (hb.cell (p := ⟨g, 0 + j, none⟩) hg).trans (h j v hj)
theorem info39 (cs : List Value) (h : cs.length = 12) : (Try.prog.info? 39).map (·.size) = some cs.length := by rw [h]; kernel_rfl
theorem info37 (cs : List Value) (h : cs.length = 10) : (Try.prog.info? 37).map (·.size) = some cs.length := by rw [h]; kernel_rfl
theorem start2 {B : Nat} {w w1 : World} {g1 g2 : Nat} {A C D T : Array Value} {td tt : TypeId} (ks : ∀ i, w1.cell? ⟨g1, i, none⟩ = A[i]?) (kc : ∀ i, w1.cell? ⟨g2, i, none⟩ = C[i]?) (h1 : g1 < w1.heap.size) (h2 : g2 < w1.heap.size) (hb : Below B w w1) (hB : B ≤ w1.heap.size) :
    (∀ i, ((w1.alloc (.cells D td)).alloc (.cells T tt)).drew.cell? ⟨g1, i, none⟩ = A[i]?) ∧ (∀ i, ((w1.alloc (.cells D td)).alloc (.cells T tt)).drew.cell? ⟨g2, i, none⟩ = C[i]?) ∧
    (∀ i, ((w1.alloc (.cells D td)).alloc (.cells T tt)).drew.cell? ⟨w1.heap.size, i, none⟩ = D[i]?) ∧ (∀ i, ((w1.alloc (.cells D td)).alloc (.cells T tt)).drew.cell? ⟨w1.heap.size + 1, i, none⟩ = T[i]?) ∧
    w1.heap.size + 2 ≤ ((w1.alloc (.cells D td)).alloc (.cells T tt)).drew.heap.size ∧ Below B w ((w1.alloc (.cells D td)).alloc (.cells T tt)).drew := by
  have hbb : Below w1.heap.size w1 ((w1.alloc (.cells D td)).alloc (.cells T tt)).drew := (((Below.refl _ _).alloc (Nat.le_refl _) _).alloc (by simp) _).drew
  refine ⟨keep_cells ks hbb h1, keep_cells kc hbb h2, fun i => ?_, fun i => ?_, ?_, hb.trans (hbb.mono hB)⟩
  · exact World.cell?_alloc2_first _ _ _ _
  · exact World.cell?_alloc2_new _ _ _ _
  · show _ ≤ ((w1.alloc (.cells D td)).alloc (.cells T tt)).heap.size
    simp
set_option linter.unusedSimpArgs false in
set_option maxRecDepth 100000 in
set_option maxHeartbeats 8000000 in
theorem irstates_walk (r0 r1 r2 r3 r4 r5 r6 r7 pc f : Int) (c0 c1 c2 c3 c4 c5 c6 c7 c8 c9 c10 c11 p : Int) (w : World) (h : 0 ≤ f) (g : f < 4294967296)
   (h8 : 0 ≤ c8) (g8 : c8 < 4294967296) (h9 : 0 ≤ c9) (g9 : c9 < 4294967296) (h10 : 0 ≤ c10) (g10 : c10 < 4294967296) (h11 : 0 ≤ c11) (g11 : c11 < 4294967296) :
    Calls Try.prog 5 #[.agg #[.int .u32 r0, .int .u32 r1, .int .u32 r2, .int .u32 r3, .int .u32 r4, .int .u32 r5, .int .u32 r6, .int .u32 r7, .int .u32 pc, .int .u32 f], .agg #[.int .u32 c0, .int .u32 c1, .int .u32 c2, .int .u32 c3, .int .u32 c4, .int .u32 c5, .int .u32 c6, .int .u32 c7, .int .u32 c8, .int .u32 c9, .int .u32 c10, .int .u32 c11], .int .u32 p] w
      fun e w' => e = .returned (.bool true) ∧ Below w.heap.size w w' := by
  have f0 : Fl.fl 0 0 0 (f % 16) = f % 16 := by rw [Fl.fl_else _ _ _ _ (by omega)]; omega
  have hu39 := Try.underlying39
  have hu37 := Try.underlying37
  have i1 := info39 [.int .u32 c0, .int .u32 c1, .int .u32 c2, .int .u32 c3, .int .u32 c4, .int .u32 c5, .int .u32 c6, .int .u32 c7, .int .u32 c8, .int .u32 c9, .int .u32 c10, .int .u32 c11] rfl
  have i2 := info39 [.int .u32 r0, .int .u32 r1, .int .u32 r2, .int .u32 r3, .int .u32 r4, .int .u32 r5, .int .u32 r6, .int .u32 r7, .int .u32 0, .int .u32 0, .int .u32 0, .int .u32 (f % 16)] rfl
  have ge1 : Try.prog.eqGuardType Try.prog.depth 39 = false := by kernel_rfl
  have ge2 : Try.prog.eqGuardType Try.prog.depth 37 = false := by kernel_rfl
  have q1 := eq_context c0 c1 c2 c3 c4 c5 c6 c7 c8 c9 c10 c11
  have q2 := eq_context r0 r1 r2 r3 r4 r5 r6 r7 0 0 0 (f % 16)
  have q3 := eq_state r0 r1 r2 r3 r4 r5 r6 r7 pc (f % 16)
  have q4 := eq_state c0 c1 c2 c3 c4 c5 c6 c7 p (Fl.fl c8 c9 c10 c11)
  have i3 := info37 [.int .u32 r0, .int .u32 r1, .int .u32 r2, .int .u32 r3, .int .u32 r4, .int .u32 r5, .int .u32 r6, .int .u32 r7, .int .u32 pc, .int .u32 f] rfl
  have i4 := info37 [.int .u32 r0, .int .u32 r1, .int .u32 r2, .int .u32 r3, .int .u32 r4, .int .u32 r5, .int .u32 r6, .int .u32 r7, .int .u32 pc, .int .u32 (f % 16)] rfl
  go_enter Try.func5, Try.ntmps5
  go_wp2_with (go_at_call 20; refine (enter_any _ _ _ _ _ _ _ _ _ _ _ (by omega) (by omega)).mono ?_; rintro e w1 ⟨rfl, hb1⟩; obtain ⟨ks, kc, hz, hz1, hb⟩ := after2 hb1; clear hb1)
  refine wp_region_held_drew (S := (fun w' => w'.rangeAt w.heap.size 0 [.int .u32 r0, .int .u32 r1, .int .u32 r2, .int .u32 r3, .int .u32 r4, .int .u32 r5, .int .u32 r6, .int .u32 r7, .int .u32 pc, .int .u32 f] ∧ w'.rangeAt (w.heap.size + 1) 0 [.int .u32 c0, .int .u32 c1, .int .u32 c2, .int .u32 c3, .int .u32 c4, .int .u32 c5, .int .u32 c6, .int .u32 c7, .int .u32 c8, .int .u32 c9, .int .u32 c10, .int .u32 c11] ∧ w'.rangeAt w1.heap.size 0 [.int .u32 r0, .int .u32 r1, .int .u32 r2, .int .u32 r3, .int .u32 r4, .int .u32 r5, .int .u32 r6, .int .u32 r7, .int .u32 0, .int .u32 0, .int .u32 0, .int .u32 (f % 16)] ∧ w'.rangeAt (w1.heap.size + 1) 0 [.int .u32 r0, .int .u32 r1, .int .u32 r2, .int .u32 r3, .int .u32 r4, .int .u32 r5, .int .u32 r6, .int .u32 r7, .int .u32 pc, .int .u32 (f % 16)] ∧ w1.heap.size + 2 ≤ w'.heap.size ∧ Below w.heap.size w w')) (by kernel_rfl) ?_ (fun hHeld => ?_)
  · exact (start2 ks kc hz hz1 hb (by omega)).imp (fun h => range_of h) (fun h => ⟨range_of h.1, range_of h.2.1, range_of h.2.2.1, h.2.2.2⟩)
  -- 0
  refine wpAnyH_take (i := 0) rfl (by kernel_rfl) (by kernel_rfl) (by kernel_rfl) (fun _ _ _ h => h) (yieldsIf_load_mid (by rfl) _ _ rfl _ _ rfl _ _ (fun w h => h.2.2.1) hu39 rfl i2) hHeld ?_
  try simp only [Act.put, List.setIfInBounds_toArray, List.set_cons_zero, List.set_cons_succ]
  -- 1
  refine wpAnyH_take (i := 1) rfl (by kernel_rfl) (by kernel_rfl) (by kernel_rfl) (fun _ _ _ h => h) (yieldsIf_load_mid (by rfl) _ _ rfl _ _ rfl _ _ (fun w h => h.1) hu37 rfl i3) hHeld ?_
  try simp only [Act.put, List.setIfInBounds_toArray, List.set_cons_zero, List.set_cons_succ]
  -- 2
  refine wpAnyH_ready (rs := [2]) (by kernel_rfl) (by simp) ?_
  refine AllReadyH.cons rfl (fun K hK => ?_) AllReadyH.nil
  go_simp
  go_wp2_with (go_at_call 21; refine (renter_any _ _ _ _ _ _ _ _ _ _ _ (by omega) (by omega)).mono ?_; rintro e wq ⟨rfl, hq⟩)
  refine hK.out _ _ ?_ (fun hHeld2 => ?_)
  · exact ⟨keep_range hHeld.1 hq (by have := hHeld.2.2.2.2.1; omega), keep_range hHeld.2.1 hq (by have := hHeld.2.2.2.2.1; omega), keep_range hHeld.2.2.1 hq (by have := hHeld.2.2.2.2.1; omega), keep_range hHeld.2.2.2.1 hq (by have := hHeld.2.2.2.2.1; omega), (by have := hHeld.2.2.2.2.1; have := hq.size; omega), hHeld.2.2.2.2.2.trans (hq.mono (by have := hHeld.2.2.2.2.2.size; omega))⟩
  clear hK K hHeld hq
  have hHeld := hHeld2
  clear hHeld2
  try simp only [Act.put, List.setIfInBounds_toArray, List.set_cons_zero, List.set_cons_succ]
  -- 3
  refine wpAnyH_take (i := 3) (oi := _) (v := .bool true) rfl (by kernel_rfl) (by kernel_rfl) (by kernel_rfl) (fun _ _ _ h => h) (Or.inl ⟨by rfl, ?_⟩) hHeld ?_
  · intro w hSw; (try dsimp only at hSw); go_simp; (try with_reducible rfl)
  try simp only [Act.put, List.setIfInBounds_toArray, List.set_cons_zero, List.set_cons_succ]
  -- 4
  refine wpAnyH_take (i := 4) (oi := _) (v := .bool true) rfl (by kernel_rfl) (by kernel_rfl) (by kernel_rfl) (fun _ _ _ h => h) (Or.inl ⟨by rfl, ?_⟩) hHeld ?_
  · intro w hSw; (try dsimp only at hSw); go_simp; (try with_reducible rfl)
  try simp only [Act.put, List.setIfInBounds_toArray, List.set_cons_zero, List.set_cons_succ]
  -- 5
  refine wpAnyH_take (i := 5) rfl (by kernel_rfl) (by kernel_rfl) (by kernel_rfl) (fun _ _ _ h => h) (yieldsIf_load_mid (by rfl) _ _ rfl _ _ rfl _ _ (fun w h => h.2.1) hu39 rfl i1) hHeld ?_
  try simp only [Act.put, List.setIfInBounds_toArray, List.set_cons_zero, List.set_cons_succ]
  -- 6
  refine wpAnyH_take (i := 6) (oi := _) (v := .int .u32 p) rfl (by kernel_rfl) (by kernel_rfl) (by kernel_rfl) (fun _ _ _ h => h) (Or.inl ⟨by rfl, ?_⟩) hHeld ?_
  · intro w hSw; (try dsimp only at hSw); go_simp; (try with_reducible rfl)
  try simp only [Act.put, List.setIfInBounds_toArray, List.set_cons_zero, List.set_cons_succ]
  -- 7
  refine wpAnyH_take (i := 8) rfl (by kernel_rfl) (by kernel_rfl) (by kernel_rfl) (fun _ _ _ h => h) (yieldsIf_load_mid (by rfl) _ _ rfl _ _ rfl _ _ (fun w h => h.2.1) hu39 rfl i1) hHeld ?_
  try simp only [Act.put, List.setIfInBounds_toArray, List.set_cons_zero, List.set_cons_succ]
  -- 8
  refine wpAnyH_take (i := 9) (oi := _) (v := .int .u32 p) rfl (by kernel_rfl) (by kernel_rfl) (by kernel_rfl) (fun _ _ _ h => h) (Or.inl ⟨by rfl, ?_⟩) hHeld ?_
  · intro w hSw; (try dsimp only at hSw); go_simp; (try with_reducible rfl)
  try simp only [Act.put, List.setIfInBounds_toArray, List.set_cons_zero, List.set_cons_succ]
  -- 9
  refine wpAnyH_ready (rs := [7]) (by kernel_rfl) (by simp) ?_
  refine AllReadyH.cons rfl (fun K hK => ?_) AllReadyH.nil
  go_simp
  go_wp2_with (go_at_call 22; refine (state_any _ _ _ _ _ _ _ _ _ _ _ _ _ _ (by omega) (by omega) (by omega) (by omega) (by omega) (by omega) (by omega) (by omega)).mono ?_; rintro e wq ⟨rfl, hq⟩)
  refine hK.out _ _ ?_ (fun hHeld2 => ?_)
  · exact ⟨keep_range hHeld.1 hq (by have := hHeld.2.2.2.2.1; omega), keep_range hHeld.2.1 hq (by have := hHeld.2.2.2.2.1; omega), keep_range hHeld.2.2.1 hq (by have := hHeld.2.2.2.2.1; omega), keep_range hHeld.2.2.2.1 hq (by have := hHeld.2.2.2.2.1; omega), (by have := hHeld.2.2.2.2.1; have := hq.size; omega), hHeld.2.2.2.2.2.trans (hq.mono (by have := hHeld.2.2.2.2.2.size; omega))⟩
  clear hK K hHeld hq
  have hHeld := hHeld2
  clear hHeld2
  try simp only [Act.put, List.setIfInBounds_toArray, List.set_cons_zero, List.set_cons_succ]
  -- 10
  refine wpAnyH_ready (rs := [10]) (by kernel_rfl) (by simp) ?_
  refine AllReadyH.cons rfl (fun K hK => ?_) AllReadyH.nil
  go_simp
  go_wp2_with (go_at_call 23; refine (rstate_any _ _ _ _ _ _ _ _ _ _ _ _ _ _ (by omega) (by omega) (by omega) (by omega) (by omega) (by omega) (by omega) (by omega)).mono ?_; rintro e wq ⟨rfl, hq⟩)
  refine hK.out _ _ ?_ (fun hHeld2 => ?_)
  · exact ⟨keep_range hHeld.1 hq (by have := hHeld.2.2.2.2.1; omega), keep_range hHeld.2.1 hq (by have := hHeld.2.2.2.2.1; omega), keep_range hHeld.2.2.1 hq (by have := hHeld.2.2.2.2.1; omega), keep_range hHeld.2.2.2.1 hq (by have := hHeld.2.2.2.2.1; omega), (by have := hHeld.2.2.2.2.1; have := hq.size; omega), hHeld.2.2.2.2.2.trans (hq.mono (by have := hHeld.2.2.2.2.2.size; omega))⟩
  clear hK K hHeld hq
  have hHeld := hHeld2
  clear hHeld2
  try simp only [Act.put, List.setIfInBounds_toArray, List.set_cons_zero, List.set_cons_succ]
  -- 11
  refine wpAnyH_take (i := 11) (oi := _) (v := .bool true) rfl (by kernel_rfl) (by kernel_rfl) (by kernel_rfl) (fun _ _ _ h => h) (Or.inl ⟨by rfl, ?_⟩) hHeld ?_
  · intro w hSw; (try dsimp only at hSw); go_simp; (try with_reducible rfl)
  try simp only [Act.put, List.setIfInBounds_toArray, List.set_cons_zero, List.set_cons_succ]
  -- 12
  refine wpAnyH_take (i := 12) (oi := _) (v := .bool true) rfl (by kernel_rfl) (by kernel_rfl) (by kernel_rfl) (fun _ _ _ h => h) (Or.inl ⟨by rfl, ?_⟩) hHeld ?_
  · intro w hSw; (try dsimp only at hSw); go_simp; (try with_reducible rfl)
  try simp only [Act.put, List.setIfInBounds_toArray, List.set_cons_zero, List.set_cons_succ]
  -- 13
  refine wpAnyH_take (i := 13) (oi := _) (v := .bool true) rfl (by kernel_rfl) (by kernel_rfl) (by kernel_rfl) (fun _ _ _ h => h) (Or.inl ⟨by rfl, ?_⟩) hHeld ?_
  · intro w hSw; (try dsimp only at hSw); go_simp; (try with_reducible rfl)
  try simp only [Act.put, List.setIfInBounds_toArray, List.set_cons_zero, List.set_cons_succ]
  -- 14
  refine wpAnyH_take (i := 14) rfl (by kernel_rfl) (by kernel_rfl) (by kernel_rfl) (fun _ _ _ h => h) (yieldsIf_load_mid (by rfl) _ _ rfl _ _ rfl _ _ (fun w h => h.2.2.1) hu39 rfl i2) hHeld ?_
  try simp only [Act.put, List.setIfInBounds_toArray, List.set_cons_zero, List.set_cons_succ]
  -- 15
  refine wpAnyH_take (i := 15) (oi := _) (v := .pointer (some ⟨w.heap.size, 8, none⟩)) rfl (by kernel_rfl) (by kernel_rfl) (by kernel_rfl) (fun _ _ _ h => h) (Or.inl ⟨by rfl, ?_⟩) hHeld ?_
  · intro w hSw; (try dsimp only at hSw); go_simp; (try with_reducible rfl)
  try simp only [Act.put, List.setIfInBounds_toArray, List.set_cons_zero, List.set_cons_succ]
  -- 16
  refine wpAnyH_take (i := 16) (oi := _) (v := .int .u32 pc) rfl (by kernel_rfl) (by kernel_rfl) (by kernel_rfl) (fun _ _ _ h => h) (Or.inl ⟨by rfl, ?_⟩) hHeld ?_
  · intro w hSw; have hpc := hSw.1 8 (.int .u32 pc) rfl; clear hSw; simp only [Nat.zero_add] at hpc; go_simp; (try with_reducible rfl)
  try simp only [Act.put, List.setIfInBounds_toArray, List.set_cons_zero, List.set_cons_succ]
  -- 17
  refine wpAnyH_take (i := 18) rfl (by kernel_rfl) (by kernel_rfl) (by kernel_rfl) (fun _ _ _ h => h) (yieldsIf_load_mid (by rfl) _ _ rfl _ _ rfl _ _ (fun w h => h.2.2.2.1) hu37 rfl i4) hHeld ?_
  try simp only [Act.put, List.setIfInBounds_toArray, List.set_cons_zero, List.set_cons_succ]
  -- 18
  refine wpAnyH_ready (rs := [17]) (by kernel_rfl) (by simp) ?_
  refine AllReadyH.cons rfl (fun K hK => ?_) AllReadyH.nil
  go_simp
  go_wp2_with (go_at_call 22; refine (state_any _ _ _ _ _ _ _ _ _ _ _ _ _ _ (by omega) (by omega) (by omega) (by omega) (by omega) (by omega) (by omega) (by omega)).mono ?_; rintro e wq ⟨rfl, hq⟩)
  refine hK.out _ _ ?_ (fun hHeld2 => ?_)
  · exact ⟨keep_range hHeld.1 hq (by have := hHeld.2.2.2.2.1; omega), keep_range hHeld.2.1 hq (by have := hHeld.2.2.2.2.1; omega), keep_range hHeld.2.2.1 hq (by have := hHeld.2.2.2.2.1; omega), keep_range hHeld.2.2.2.1 hq (by have := hHeld.2.2.2.2.1; omega), (by have := hHeld.2.2.2.2.1; have := hq.size; omega), hHeld.2.2.2.2.2.trans (hq.mono (by have := hHeld.2.2.2.2.2.size; omega))⟩
  clear hK K hHeld hq
  have hHeld := hHeld2
  clear hHeld2
  try simp only [Act.put, List.setIfInBounds_toArray, List.set_cons_zero, List.set_cons_succ]
  -- 19
  refine wpAnyH_take (i := 19) (oi := _) (v := .bool true) rfl (by kernel_rfl) (by kernel_rfl) (by kernel_rfl) (fun _ _ _ h => h) (Or.inl ⟨by rfl, ?_⟩) hHeld ?_
  · intro w hSw; (try dsimp only at hSw); go_simp; (try with_reducible rfl)
  try simp only [Act.put, List.setIfInBounds_toArray, List.set_cons_zero, List.set_cons_succ]
  -- 20
  refine wpAnyH_take (i := 20) (oi := { dst := some 36, op := .pick (.tmp 29) (.tmp 35) (.const (.bool false)), type := 4, pos := "law.go:107", after := _, guard := none }) (v := .bool true) rfl (by kernel_rfl) (by kernel_rfl) (by kernel_rfl) (fun _ _ _ h => h) (Or.inl ⟨by rfl, ?_⟩) hHeld ?_
  · intro w hSw; (try dsimp only at hSw); go_simp; (try with_reducible rfl)
  try simp only [Act.put, List.setIfInBounds_toArray, List.set_cons_zero, List.set_cons_succ]
  -- 21
  refine wpAnyH_take (i := 21) (oi := { dst := some 6, op := .assign (.tmp 36), type := 4, pos := "law.go:107", after := _, guard := none }) (v := .bool true) rfl (by kernel_rfl) (by kernel_rfl) (by kernel_rfl) (fun _ _ _ h => h) (Or.inl ⟨by rfl, ?_⟩) hHeld ?_
  · intro w hSw; (try dsimp only at hSw); go_simp; (try with_reducible rfl)
  try simp only [Act.put, List.setIfInBounds_toArray, List.set_cons_zero, List.set_cons_succ]
  refine wpAnyH_done (by kernel_rfl) ?_ _
  go_wp2
  go_ret
  exact ⟨by simp [results, Try.results5, go_sem], hHeld.2.2.2.2.2⟩
end Go.Proofs.Ytcjcmnnhmajocaa.Ir
