/- mem.Memory.Store. -/
import Derived.Test.YtcjcmnnhmajocabPhaa
set_option linter.unusedVariables false
set_option linter.unusedSimpArgs false
set_option maxRecDepth 100000
set_option maxHeartbeats 16000000
namespace Go.Proofs.Ytcjcmnnhmajocab.Me
open Go.RowKit Kt
theorem HM.setBy {p : Nat} {M : MM} {n : Int} {W : World} (h : HM p M n W) (k : Nat) (hk : k < 65536) (x : Int) : HM p { M with by_ := upd M.by_ k x } n (W.setCell ⟨p, k, none⟩ (.int .u8 x)) := by
 obtain ⟨h1, h2, h3, h4, h5, h6, h7⟩ := h
 refine ⟨fun j hj => ?_, fun j hj => ?_, fun j hj => ?_, fun j hj => ?_, ?_, fun i => by simpa using h6 i, by simpa using h7⟩
 ·by_cases hjk : j = k
  ·subst hjk
   rw [World.cell?_setCell_same _ _ _ (h1 j hj)]
   simp [upd]
  ·rw [HM.cell_other (by omega), h1 j hj]
   simp [upd, hjk]
 ·rw [HM.cell_other (by omega)]; exact h2 j hj
 ·rw [HM.cell_other (by omega)]; exact h3 j hj
 ·rw [HM.cell_other (by omega)]; exact h4 j hj
 ·rw [HM.cell_other (by omega)]; exact h5
/-- one byte is written, its page changed -/
def wr1 (M : MM) (k : Nat) (b : Int) : MM := chg { M with by_ := upd M.by_ k b } (k / 256)
theorem w1_at (M : MM) (a i : Int) (j : Nat) (b : Int) (a0 : 0 ≤ a) (hi : i = (j : Int)) : chg { M with by_ := upd M.by_ (a + i).toNat b } ((a + i) / 256).toNat = wr1 M (a.toNat + j) b := by
 subst hi
 unfold wr1
 rw [show (a + (j : Int)).toNat = a.toNat + j by omega, show ((a + (j : Int)) / 256).toNat = (a.toNat + j) / 256 by omega]
theorem w1_at0 (M : MM) (a b : Int) (a0 : 0 ≤ a) : chg { M with by_ := upd M.by_ a.toNat b } (a / 256).toNat = wr1 M a.toNat b := by
 unfold wr1
 rw [show (a / 256).toNat = a.toNat / 256 by omega]
theorem change_c (p : Nat) (M : MM) (k : Int) (k0 : 0 ≤ k) (k1 : k < 256) (w : World) (h : HC p M w) :
  Calls Try.prog 101 #[.pointer (some ⟨p, 0, none⟩), .int .i64 k] w fun e w' => e = .returned (.tuple #[]) ∧ HC p (chg M k.toNat) w' ∧ Upto (fun i => i = p) w w' := by
 obtain ⟨c, rfl⟩ := Int.eq_ofNat_of_zero_le k0
 refine (change_any p M (cnt M.hi) c w h (by omega) (cnt_bd _).1 (cnt_bd _).2).mono ?_
 rintro e w' ⟨rfl, h1, o1⟩
 refine ⟨rfl, ?_, Upto.of_only o1⟩
 rw [Int.toNat_natCast]
 unfold HC
 rw [← chg_cnt M c (by omega)]
 exact h1
theorem HC.put {p : Nat} {M : MM} {W : World} (h : HC p M W) (k : Nat) (hk : k < 65536) (x : Int) : HC p { M with by_ := upd M.by_ k x } (W.setCell ⟨p, k, none⟩ (.int .u8 x)) := HM.setBy h k hk x
theorem HC.drew {p : Nat} {M : MM} {W : World} (h : HC p M W) : HC p M W.drew := h
theorem HC.facts {p : Nat} {M : MM} {W : World} (h : HC p M W) (k : Int) (k1 : k < 65536) : (∃ u, W.cell? ⟨p, k.toNat, none⟩ = some u) ∧ W.frozen? ⟨p, k.toNat, none⟩ = false :=
 ⟨⟨_, h.1 k.toNat (by omega)⟩, h.2.2.2.2.2.1 _⟩
/-- a result's block -/
def Rs (X : Nat) (W : World) : Prop := W.cell? ⟨X, 0, none⟩ = some (.int .i64 0) ∧ W.cell? ⟨X, 1, none⟩ = some (.int .u32 0) ∧ W.frozen? ⟨X, 0, none⟩ = false ∧ W.frozen? ⟨X, 1, none⟩ = false ∧ X < W.heap.size
theorem Rs.new (W : World) (X : Nat) (hX : W.heap.size = X) : Rs X (W.alloc (.cells #[.int .i64 0, .int .u32 0] 46)) := by
 subst hX
 have e := heap_alloc_new W (.cells #[.int .i64 0, .int .u32 0] 46)
 refine ⟨?_, ?_, ?_, ?_, by simp⟩
 ·rw [cell_of_row _ _ _ _ _ _ e]; rfl
 ·rw [cell_of_row _ _ _ _ _ _ e]; rfl
 ·unfold World.frozen?; simp only [e]; rfl
 ·unfold World.frozen?; simp only [e]; rfl
theorem Rs.drew {X : Nat} {W : World} (h : Rs X W) : Rs X W.drew := h
theorem Rs.upto {X : Nat} {W W' : World} {S : Nat → Prop} (h : Rs X W) (u : Upto S W W') (hs : ¬ S X) : Rs X W' := by
 obtain ⟨h1, h2, h3, h4, h5⟩ := h
 exact ⟨(u.cell h5 hs).trans h1, (u.cell h5 hs).trans h2, (u.frozen h5 hs).trans h3, (u.frozen h5 hs).trans h4, Nat.lt_of_lt_of_le h5 u.size⟩
theorem Rs.put {X p : Nat} {W : World} (h : Rs X W) (hne : ¬ X = p) {j : Nat} {v : Value} : Rs X (W.setCell ⟨p, j, none⟩ v) :=
 h.upto (S := fun i => i = p) ((Upto.refl (fun i => i = p) _).setCell (q := ⟨p, j, none⟩) (.inl rfl) _) hne
theorem store_not (p : Nat) (a n v : Int) (w : World) (hn : ¬ (n = 1 ∨ n = 2 ∨ n = 4)) :
  Calls Try.prog 168 #[.pointer (some ⟨p, 0, none⟩), .int .u32 a, .int .i64 n, .int .u32 v] w fun e w' => e = .returned (.agg #[.int .i64 0, .int .u32 0]) ∧ Below w.heap.size w w' := by
 have b0 := Below.refl w.heap.size w
 have e1 : (n != 1) = true := by rw [bne_iff_ne]; omega
 have e2 : (n != 2) = true := by rw [bne_iff_ne]; omega
 have e4 : (n != 4) = true := by rw [bne_iff_ne]; omega
 clear hn
 go_enter Try.func168, Try.ntmps168
 go_wp2
 refine bodyPost_ret (v := .agg #[.int .i64 0, .int .u32 0]) (by simp [results, Try.results168, go_sem]) rfl ⟨rfl, ?_⟩
 exact b0.alloc (Nat.le_refl _) _
theorem store_bad1 (p : Nat) (M : MM) (N a v x : Int) (w : World) (h : HM p M N w) (hM : MOk M) (a0 : 0 ≤ a) (a1 : a < 4294967296) (hs : srch M 2 a 1 = some x) :
  Calls Try.prog 168 #[.pointer (some ⟨p, 0, none⟩), .int .u32 a, .int .i64 1, .int .u32 v] w fun e w' => e = .returned (.agg #[.int .i64 6, .int .u32 x]) ∧ Below w.heap.size w w' := by
 have HB := κ (fun w h => bad_any p M N a 1 2 w h hM (.inr (.inl rfl)) a0 a1 (by omega))
 rw [show (1 : Int).toNat = 1 from rfl, hs] at HB
 simp only [srV] at HB
 have b0 := Below.refl w.heap.size w
 have HH := κ (fun o => h.upto ((Upto.refl (fun _ => False) w).alloc o) id)
 clear h hM hs
 go_enter Try.func168, Try.ntmps168
 go_wp2_with (go_at_call 177; refine (HB.out _ (HH.out _)).mono ?_; rintro e w' ⟨rfl, rfl⟩)
 refine bodyPost_ret (v := .agg #[.int .i64 6, .int .u32 x]) (by simp [results, Try.results168, go_sem]) rfl ⟨rfl, ?_⟩
 exact b0.alloc (Nat.le_refl _) _
theorem store_1 (p : Nat) (M : MM) (a v : Int) (w : World) (h : HC p M w) (hM : MOk M) (a0 : 0 ≤ a) (a1 : a < 4294967296) (v0 : 0 ≤ v) (v1 : v < 4294967296) (hs : srch M 2 a 1 = none) :
  Calls Try.prog 168 #[.pointer (some ⟨p, 0, none⟩), .int .u32 a, .int .i64 1, .int .u32 v] w fun e w' => e = .returned (.agg #[.int .i64 0, .int .u32 0]) ∧ HC p (pk M a.toNat (bts 1 v)) w' ∧ Upto (fun i => i = p) w w' := by
 have HB := κ (fun w h => bad_any p M (cnt M.hi) a 1 2 w h hM (.inr (.inl rfl)) a0 a1 (by omega))
 rw [show (1 : Int).toNat = 1 from rfl, hs] at HB
 simp only [srV] at HB
 have U0 := κ (fun o => (Upto.refl (fun i => i = p) w).alloc o)
 have HH := κ (fun o => HM.upto h ((Upto.refl (fun _ => False) w).alloc o) id)
 have HH0 := κ (fun o => HC.upto h ((Upto.refl (fun _ => False) w).alloc o) id)
 have q0 := (plc_in a0 a1 hs 0 (by omega) (by omega)).2
 have hp := h.2.2.2.2.2.2
 obtain ⟨⟨u0, k0⟩, z0⟩ := h.facts a (by omega)
 have HI := κ h
 have hne' : ¬ w.heap.size = p := by omega
 clear h hM hs
 have b0 : a < 65536 := by omega
 clear q0
 go_enter Try.func168, Try.ntmps168
 go_wp2_with (go_at_call 177; refine (HB.out _ (HH.out _)).mono ?_; rintro e w' ⟨rfl, rfl⟩)
 refine wp_loop_rounds 2 ?_
 rw [rounds_succ]; go_wp2
 go_region
 go_wp2_with fail
 refine (change_c p _ _ (by omega) (by omega) _ (((HI.out.put a.toNat (by omega) (v % 256)).upto ((Upto.refl (fun _ => False) _).alloc _) id).drew)).mono ?_
 rintro e w1 ⟨rfl, h1, o1⟩
 rw [w1_at0 _ a _ a0] at h1
 have R1 := κ ((Rs.new (w.setCell ⟨p, a.toNat, none⟩ (.int .u8 (v % 256))) w.heap.size (by simp)).drew.upto o1 hne')
 have U1 := κ (Upto.trans (((Upto.refl (fun i => i = p) w).setCell (q := ⟨p, a.toNat, none⟩) (.inl rfl) (.int .u8 (v % 256))).alloc (.cells #[.int .i64 0, .int .u32 0] 46)).drew o1)
 have HH1 := κ h1
 obtain ⟨g0, g1, g2, g3, g4⟩ := R1.out
 clear h1 o1
 go_wp2
 rw [rounds_succ]; go_wp2
 refine bodyPost_ret (v := .agg #[.int .i64 0, .int .u32 0]) (by simp [results, Try.results168, go_sem, g0, g1, g4]) rfl ⟨rfl, ?_, ?_⟩
 ·exact HH1.out.upto (S := fun i => i = w.heap.size) (((Upto.refl (fun i => i = w.heap.size) _).setCell (q := ⟨w.heap.size, 0, none⟩) (.inl rfl) (.int .i64 0)).setCell (q := ⟨w.heap.size, 1, none⟩) (.inl rfl) (.int .u32 0)) (fun h => hne' h.symm)
 ·exact (U1.out.setCell (q := ⟨w.heap.size, 0, none⟩) (.inr (Nat.le_refl _)) _).setCell (q := ⟨w.heap.size, 1, none⟩) (.inr (Nat.le_refl _)) _
theorem store_bad2 (p : Nat) (M : MM) (N a v x : Int) (w : World) (h : HM p M N w) (hM : MOk M) (a0 : 0 ≤ a) (a1 : a < 4294967296) (hs : srch M 2 a 2 = some x) :
  Calls Try.prog 168 #[.pointer (some ⟨p, 0, none⟩), .int .u32 a, .int .i64 2, .int .u32 v] w fun e w' => e = .returned (.agg #[.int .i64 6, .int .u32 x]) ∧ Below w.heap.size w w' := by
 have HB := κ (fun w h => bad_any p M N a 2 2 w h hM (.inr (.inl rfl)) a0 a1 (by omega))
 rw [show (2 : Int).toNat = 2 from rfl, hs] at HB
 simp only [srV] at HB
 have b0 := Below.refl w.heap.size w
 have HH := κ (fun o => h.upto ((Upto.refl (fun _ => False) w).alloc o) id)
 clear h hM hs
 go_enter Try.func168, Try.ntmps168
 go_wp2_with (go_at_call 177; refine (HB.out _ (HH.out _)).mono ?_; rintro e w' ⟨rfl, rfl⟩)
 refine bodyPost_ret (v := .agg #[.int .i64 6, .int .u32 x]) (by simp [results, Try.results168, go_sem]) rfl ⟨rfl, ?_⟩
 exact b0.alloc (Nat.le_refl _) _
theorem store_2 (p : Nat) (M : MM) (a v : Int) (w : World) (h : HC p M w) (hM : MOk M) (a0 : 0 ≤ a) (a1 : a < 4294967296) (v0 : 0 ≤ v) (v1 : v < 4294967296) (hs : srch M 2 a 2 = none) :
  Calls Try.prog 168 #[.pointer (some ⟨p, 0, none⟩), .int .u32 a, .int .i64 2, .int .u32 v] w fun e w' => e = .returned (.agg #[.int .i64 0, .int .u32 0]) ∧ HC p (pk M a.toNat (bts 2 v)) w' ∧ Upto (fun i => i = p) w w' := by
 have HB := κ (fun w h => bad_any p M (cnt M.hi) a 2 2 w h hM (.inr (.inl rfl)) a0 a1 (by omega))
 rw [show (2 : Int).toNat = 2 from rfl, hs] at HB
 simp only [srV] at HB
 have U0 := κ (fun o => (Upto.refl (fun i => i = p) w).alloc o)
 have HH := κ (fun o => HM.upto h ((Upto.refl (fun _ => False) w).alloc o) id)
 have HH0 := κ (fun o => HC.upto h ((Upto.refl (fun _ => False) w).alloc o) id)
 have q0 := (plc_in a0 a1 hs 1 (by omega) (by omega)).2
 have hp := h.2.2.2.2.2.2
 obtain ⟨⟨u0, k0⟩, z0⟩ := h.facts a (by omega)
 have HI := κ h
 have hne' : ¬ w.heap.size = p := by omega
 clear h hM hs
 have b0 : a < 65536 := by omega
 have b1 : a + 1 < 65536 := by omega
 clear q0
 go_enter Try.func168, Try.ntmps168
 go_wp2_with (go_at_call 177; refine (HB.out _ (HH.out _)).mono ?_; rintro e w' ⟨rfl, rfl⟩)
 refine wp_loop_rounds 3 ?_
 rw [rounds_succ]; go_wp2
 go_region
 go_wp2_with fail
 refine (change_c p _ _ (by omega) (by omega) _ (((HI.out.put a.toNat (by omega) (v % 256)).upto ((Upto.refl (fun _ => False) _).alloc _) id).drew)).mono ?_
 rintro e w1 ⟨rfl, h1, o1⟩
 rw [w1_at0 _ a _ a0] at h1
 have R1 := κ ((Rs.new (w.setCell ⟨p, a.toNat, none⟩ (.int .u8 (v % 256))) w.heap.size (by simp)).drew.upto o1 hne')
 have U1 := κ (Upto.trans (((Upto.refl (fun i => i = p) w).setCell (q := ⟨p, a.toNat, none⟩) (.inl rfl) (.int .u8 (v % 256))).alloc (.cells #[.int .i64 0, .int .u32 0] 46)).drew o1)
 have HH1 := κ h1
 obtain ⟨⟨u1, k1⟩, z1⟩ := h1.facts (a + 1) (by omega)
 clear h1 o1
 go_wp2
 rw [rounds_succ]; go_wp2
 go_region
 go_wp2_with fail
 refine (change_c p _ _ (by omega) (by omega) _ ((HH1.out.put (a + 1).toNat (by omega) (v / 256 % 256)).drew)).mono ?_
 rintro e w2 ⟨rfl, h2, o2⟩
 rw [w1_at _ a 1 1 _ a0 rfl] at h2
 have R2 := κ ((R1.out.put hne').drew.upto o2 hne')
 have U2 := κ (Upto.trans (U1.out.trans ((Upto.refl (fun i => i = p) _).setCell (q := ⟨p, (a + 1).toNat, none⟩) (.inl rfl) (.int .u8 (v / 256 % 256))).drew) o2)
 have HH2 := κ h2
 obtain ⟨g0, g1, g2, g3, g4⟩ := R2.out
 clear h2 o2
 go_wp2
 rw [rounds_succ]; go_wp2
 refine bodyPost_ret (v := .agg #[.int .i64 0, .int .u32 0]) (by simp [results, Try.results168, go_sem, g0, g1, g4]) rfl ⟨rfl, ?_, ?_⟩
 ·exact HH2.out.upto (S := fun i => i = w.heap.size) (((Upto.refl (fun i => i = w.heap.size) _).setCell (q := ⟨w.heap.size, 0, none⟩) (.inl rfl) (.int .i64 0)).setCell (q := ⟨w.heap.size, 1, none⟩) (.inl rfl) (.int .u32 0)) (fun h => hne' h.symm)
 ·exact (U2.out.setCell (q := ⟨w.heap.size, 0, none⟩) (.inr (Nat.le_refl _)) _).setCell (q := ⟨w.heap.size, 1, none⟩) (.inr (Nat.le_refl _)) _
theorem store_bad4 (p : Nat) (M : MM) (N a v x : Int) (w : World) (h : HM p M N w) (hM : MOk M) (a0 : 0 ≤ a) (a1 : a < 4294967296) (hs : srch M 2 a 4 = some x) :
  Calls Try.prog 168 #[.pointer (some ⟨p, 0, none⟩), .int .u32 a, .int .i64 4, .int .u32 v] w fun e w' => e = .returned (.agg #[.int .i64 6, .int .u32 x]) ∧ Below w.heap.size w w' := by
 have HB := κ (fun w h => bad_any p M N a 4 2 w h hM (.inr (.inl rfl)) a0 a1 (by omega))
 rw [show (4 : Int).toNat = 4 from rfl, hs] at HB
 simp only [srV] at HB
 have b0 := Below.refl w.heap.size w
 have HH := κ (fun o => h.upto ((Upto.refl (fun _ => False) w).alloc o) id)
 clear h hM hs
 go_enter Try.func168, Try.ntmps168
 go_wp2_with (go_at_call 177; refine (HB.out _ (HH.out _)).mono ?_; rintro e w' ⟨rfl, rfl⟩)
 refine bodyPost_ret (v := .agg #[.int .i64 6, .int .u32 x]) (by simp [results, Try.results168, go_sem]) rfl ⟨rfl, ?_⟩
 exact b0.alloc (Nat.le_refl _) _
theorem store_4 (p : Nat) (M : MM) (a v : Int) (w : World) (h : HC p M w) (hM : MOk M) (a0 : 0 ≤ a) (a1 : a < 4294967296) (v0 : 0 ≤ v) (v1 : v < 4294967296) (hs : srch M 2 a 4 = none) :
  Calls Try.prog 168 #[.pointer (some ⟨p, 0, none⟩), .int .u32 a, .int .i64 4, .int .u32 v] w fun e w' => e = .returned (.agg #[.int .i64 0, .int .u32 0]) ∧ HC p (pk M a.toNat (bts 4 v)) w' ∧ Upto (fun i => i = p) w w' := by
 have HB := κ (fun w h => bad_any p M (cnt M.hi) a 4 2 w h hM (.inr (.inl rfl)) a0 a1 (by omega))
 rw [show (4 : Int).toNat = 4 from rfl, hs] at HB
 simp only [srV] at HB
 have U0 := κ (fun o => (Upto.refl (fun i => i = p) w).alloc o)
 have HH := κ (fun o => HM.upto h ((Upto.refl (fun _ => False) w).alloc o) id)
 have HH0 := κ (fun o => HC.upto h ((Upto.refl (fun _ => False) w).alloc o) id)
 have q0 := (plc_in a0 a1 hs 3 (by omega) (by omega)).2
 have hp := h.2.2.2.2.2.2
 obtain ⟨⟨u0, k0⟩, z0⟩ := h.facts a (by omega)
 have HI := κ h
 have hne' : ¬ w.heap.size = p := by omega
 clear h hM hs
 have b0 : a < 65536 := by omega
 have b1 : a + 1 < 65536 := by omega
 have b2 : a + 2 < 65536 := by omega
 have b3 : a + 3 < 65536 := by omega
 clear q0
 go_enter Try.func168, Try.ntmps168
 go_wp2_with (go_at_call 177; refine (HB.out _ (HH.out _)).mono ?_; rintro e w' ⟨rfl, rfl⟩)
 refine wp_loop_rounds 5 ?_
 rw [rounds_succ]; go_wp2
 go_region
 go_wp2_with fail
 refine (change_c p _ _ (by omega) (by omega) _ (((HI.out.put a.toNat (by omega) (v % 256)).upto ((Upto.refl (fun _ => False) _).alloc _) id).drew)).mono ?_
 rintro e w1 ⟨rfl, h1, o1⟩
 rw [w1_at0 _ a _ a0] at h1
 have R1 := κ ((Rs.new (w.setCell ⟨p, a.toNat, none⟩ (.int .u8 (v % 256))) w.heap.size (by simp)).drew.upto o1 hne')
 have U1 := κ (Upto.trans (((Upto.refl (fun i => i = p) w).setCell (q := ⟨p, a.toNat, none⟩) (.inl rfl) (.int .u8 (v % 256))).alloc (.cells #[.int .i64 0, .int .u32 0] 46)).drew o1)
 have HH1 := κ h1
 obtain ⟨⟨u1, k1⟩, z1⟩ := h1.facts (a + 1) (by omega)
 clear h1 o1
 go_wp2
 rw [rounds_succ]; go_wp2
 go_region
 go_wp2_with fail
 refine (change_c p _ _ (by omega) (by omega) _ ((HH1.out.put (a + 1).toNat (by omega) (v / 256 % 256)).drew)).mono ?_
 rintro e w2 ⟨rfl, h2, o2⟩
 rw [w1_at _ a 1 1 _ a0 rfl] at h2
 have R2 := κ ((R1.out.put hne').drew.upto o2 hne')
 have U2 := κ (Upto.trans (U1.out.trans ((Upto.refl (fun i => i = p) _).setCell (q := ⟨p, (a + 1).toNat, none⟩) (.inl rfl) (.int .u8 (v / 256 % 256))).drew) o2)
 have HH2 := κ h2
 obtain ⟨⟨u2, k2⟩, z2⟩ := h2.facts (a + 2) (by omega)
 clear h2 o2
 go_wp2
 rw [rounds_succ]; go_wp2
 go_region
 go_wp2_with fail
 refine (change_c p _ _ (by omega) (by omega) _ ((HH2.out.put (a + 2).toNat (by omega) (v / 65536 % 256)).drew)).mono ?_
 rintro e w3 ⟨rfl, h3, o3⟩
 rw [w1_at _ a 2 2 _ a0 rfl] at h3
 have R3 := κ ((R2.out.put hne').drew.upto o3 hne')
 have U3 := κ (Upto.trans (U2.out.trans ((Upto.refl (fun i => i = p) _).setCell (q := ⟨p, (a + 2).toNat, none⟩) (.inl rfl) (.int .u8 (v / 65536 % 256))).drew) o3)
 have HH3 := κ h3
 obtain ⟨⟨u3, k3⟩, z3⟩ := h3.facts (a + 3) (by omega)
 clear h3 o3
 go_wp2
 rw [rounds_succ]; go_wp2
 go_region
 go_wp2_with fail
 refine (change_c p _ _ (by omega) (by omega) _ ((HH3.out.put (a + 3).toNat (by omega) (v / 16777216)).drew)).mono ?_
 rintro e w4 ⟨rfl, h4, o4⟩
 rw [w1_at _ a 3 3 _ a0 rfl] at h4
 have R4 := κ ((R3.out.put hne').drew.upto o4 hne')
 have U4 := κ (Upto.trans (U3.out.trans ((Upto.refl (fun i => i = p) _).setCell (q := ⟨p, (a + 3).toNat, none⟩) (.inl rfl) (.int .u8 (v / 16777216))).drew) o4)
 have HH4 := κ h4
 obtain ⟨g0, g1, g2, g3, g4⟩ := R4.out
 clear h4 o4
 go_wp2
 rw [rounds_succ]; go_wp2
 refine bodyPost_ret (v := .agg #[.int .i64 0, .int .u32 0]) (by simp [results, Try.results168, go_sem, g0, g1, g4]) rfl ⟨rfl, ?_, ?_⟩
 ·exact HH4.out.upto (S := fun i => i = w.heap.size) (((Upto.refl (fun i => i = w.heap.size) _).setCell (q := ⟨w.heap.size, 0, none⟩) (.inl rfl) (.int .i64 0)).setCell (q := ⟨w.heap.size, 1, none⟩) (.inl rfl) (.int .u32 0)) (fun h => hne' h.symm)
 ·exact (U4.out.setCell (q := ⟨w.heap.size, 0, none⟩) (.inr (Nat.le_refl _)) _).setCell (q := ⟨w.heap.size, 1, none⟩) (.inr (Nat.le_refl _)) _
theorem store_any (p : Nat) (M : MM) (a n v : Int) (w : World) (h : HC p M w) (hM : MOk M) (a0 : 0 ≤ a) (a1 : a < 4294967296) (v0 : 0 ≤ v) (v1 : v < 4294967296) :
  Calls Try.prog 168 #[.pointer (some ⟨p, 0, none⟩), .int .u32 a, .int .i64 n, .int .u32 v] w fun e w' => e = .returned (stpV 6 (sto M a n)) ∧ HC p (stm M a n v) w' ∧ Upto (fun i => i = p) w w' := by
 have keep : ∀ {e' : Ending}, (Calls Try.prog 168 #[.pointer (some ⟨p, 0, none⟩), .int .u32 a, .int .i64 n, .int .u32 v] w fun e w' => e = e' ∧ Below w.heap.size w w') →
   Calls Try.prog 168 #[.pointer (some ⟨p, 0, none⟩), .int .u32 a, .int .i64 n, .int .u32 v] w fun e w' => e = e' ∧ HC p M w' ∧ Upto (fun i => i = p) w w' := by
  intro e' hc
  exact hc.mono fun e w' ⟨he, hb⟩ => ⟨he, HM.upto h (Upto.of_below (S := fun _ => False) hb) id, Upto.of_below hb⟩
 unfold sto stm
 by_cases hn : n = 1 ∨ n = 2 ∨ n = 4
 ·rw [if_pos hn, if_pos hn]
  obtain ⟨o, ho⟩ : ∃ o, srch M 2 a n.toNat = o := ⟨_, rfl⟩
  rw [ho]
  rcases o with _ | x
  ·simp only [Option.isNone_none, if_true, stpV]
   rcases hn with rfl | rfl | rfl
   ·exact store_1 p M a v w h hM a0 a1 v0 v1 ho
   ·exact store_2 p M a v w h hM a0 a1 v0 v1 ho
   ·exact store_4 p M a v w h hM a0 a1 v0 v1 ho
  ·simp only [Option.isNone_some, Bool.false_eq_true, if_false, stpV]
   rcases hn with rfl | rfl | rfl
   ·exact keep (store_bad1 p M _ a v x w h hM a0 a1 ho)
   ·exact keep (store_bad2 p M _ a v x w h hM a0 a1 ho)
   ·exact keep (store_bad4 p M _ a v x w h hM a0 a1 ho)
 ·rw [if_neg hn, if_neg hn]
  exact keep (store_not p a n v w hn)
end Go.Proofs.Ytcjcmnnhmajocab.Me
