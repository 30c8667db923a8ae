/- Plain law: what a block of operations does. -/
import Derived.Deep.CutBlock
import Derived.StillTailTactics
import Derived.Test.YtcjcmnnhmajocabGreatPlat
set_option linter.unusedVariables false
set_option linter.unusedSimpArgs false
set_option maxRecDepth 100000
set_option maxHeartbeats 16000000
namespace Go.Proofs.YtcjcmnnhmajocabGreat.Ev
open Go.RowKit Kt Me Fl
theorem off {W : World} {b i j : Nat} {v : Value} (hne : i ≠ j) : (W.setCell ⟨b, j, none⟩ v).cell? ⟨b, i, none⟩ = W.cell? ⟨b, i, none⟩ := St.off hne
theorem box_at (w : World) (cs : Array Value) (t : TypeId) (i : Nat) : (w.alloc (.cells cs t)).cell? ⟨w.heap.size, i, none⟩ = cs[i]? := St.box_at w cs t i
theorem fz_new (w : World) (cs : Array Value) (t : TypeId) (i : Nat) : (w.alloc (.cells cs t)).frozen? ⟨w.heap.size, i, none⟩ = false := by
 unfold World.frozen?
 rw [heap_alloc_new]; simp
/-- a stop in a box -/
structure KB (h : Nat) (k x : Int) (W : World) : Prop where
 c0 : W.cell? ⟨h, 0, none⟩ = some (.int .i64 k)
 c1 : W.cell? ⟨h, 1, none⟩ = some (.int .u32 x)
 z : ∀ i, W.frozen? ⟨h, i, none⟩ = false
 l : h < W.heap.size
theorem KB.upto {S : Nat → Prop} {h : Nat} {k x : Int} {W W' : World} (a : KB h k x W) (u : Upto S W W') (hs : ¬ S h) : KB h k x W' :=
 ⟨(u.cell (q := ⟨h, 0, none⟩) a.l hs).trans a.c0, (u.cell (q := ⟨h, 1, none⟩) a.l hs).trans a.c1, fun i => (u.frozen (q := ⟨h, i, none⟩) a.l hs).trans (a.z i), Nat.lt_of_lt_of_le a.l u.size⟩
theorem KB.set {h : Nat} {k x : Int} {W : World} (a : KB h k x W) (k' x' : Int) : KB h k' x' ((W.setCell ⟨h, 0, none⟩ (.int .i64 k')).setCell ⟨h, 1, none⟩ (.int .u32 x')) := by
 refine ⟨(off (by omega)).trans (World.cell?_setCell_same _ _ _ a.c0), World.cell?_setCell_same _ _ _ ((off (by omega)).trans a.c1), fun i => by simpa using a.z i, by simpa using a.l⟩
theorem KB.new (w : World) (k x : Int) (t : TypeId) : KB w.heap.size k x (w.alloc (.cells #[.int .i64 k, .int .u32 x] t)) :=
 ⟨box_at w _ _ 0, box_at w _ _ 1, fun i => fz_new w _ _ i, by simp⟩
theorem rm_lt {P : RP} {M : MM} {W : World} (h : RM P M W) {i : Nat} (hi : P.has i) : i < W.heap.size := by
 rcases hi with e | e | e | e | e
 ·rw [e]; exact h.lq
 ·rw [e]; exact h.lb
 ·rw [e]; exact h.lr
 ·rw [e]; exact h.lm
 ·rw [e]; exact h.lt
theorem rld_0 (P : RP) (M : MM) (a : Int) (w : World) (h : RM P M w) (hM : MOk M) (a0 : 0 ≤ a) (a1 : a < 4294967296) :
  Calls Tryz.prog 96 #[.pointer (some ⟨P.q, 0, none⟩), .int .i64 0, .int .u32 a] w fun e w' => e = .returned (.tuple #[.int .u32 (wid 0 (ldv M a 1)), stpV 5 (srch M 1 a (1 : Int).toNat)]) ∧ Below w.heap.size w w' := by
 have CL := fun w h => rload_any P M a 1 w h hM a0 a1 (by omega)
 have VB := ldv_bd hM a 1
 have ew : wid 0 (ldv M a 1) = ldv M a 1 := rfl
 rw [ew]
 rw [St.stpV_eq]
 simp only [St.stpV_eq] at CL
 generalize ldv M a 1 = v at CL VB ⊢
 generalize St.stK 5 (srch M 1 a (1 : Int).toNat) = kk at CL ⊢
 generalize St.stX (srch M 1 a (1 : Int).toNat) = xx at CL ⊢
 have CL := κ CL
 have CU := κ (fun (k : Int) (hk : 0 ≤ k ∧ k < 7) w => run_any k v w hk.1 hk.2 VB.1 VB.2)
 have u0 := (Upto.refl (fun _ => False) w).alloc (.cells #[.int .i64 0, .int .u32 0] 55)
 have HH := κ (h.upto u0 (fun _ _ => id))
 have kb := KB.new w 0 0 55
 have b0 : Below w.heap.size w (w.alloc (.cells #[.int .i64 0, .int .u32 0] 55)) := (Below.refl _ _).alloc (Nat.le_refl _) _
 clear h ew u0
 go_enter Tryz.func96, Tryz.ntmps96
 go_upto_region 1 with fail
 generalize w.alloc (.cells #[.int .i64 0, .int .u32 0] 55) = WA at HH kb b0 ⊢
 have KA := κ kb
 clear kb
 go_upto_region 6 with (first
  | (go_at_call 147; (with_reducible refine (CL.out _ (by first | exact HH.out | exact HH.out.upto ((Upto.refl (fun _ => False) WA).alloc _) (fun _ _ => id))).mono ?_); rintro e w1 ⟨rfl, b1⟩; have ub : Upto (fun _ => False) WA w1 := (by first | exact Upto.of_below b1 | exact ((Upto.refl _ WA).alloc _).trans (Upto.of_below b1)); have lA := KA.out.l; have bb := κ (b0.trans (ub.below b0.size (fun _ _ => id))); have K1 := κ (KA.out.upto ub id); have lw := Nat.lt_of_lt_of_le lA ub.size; clear b1 ub)
  | (go_at_call 150; (with_reducible refine (CU.out _ (by decide) _).mono ?_); rintro e w2 ⟨rfl, rfl⟩))
 have tn := KB.new w1 kk xx 55
 have un := (Upto.refl (fun _ => False) w1).alloc (.cells #[.int .i64 kk, .int .u32 xx] 55)
 have R2 := K1.out.upto un id
 have B2 := κ (bb.out.trans (un.below bb.out.size (fun _ _ => id)))
 generalize w1.alloc (.cells #[.int .i64 kk, .int .u32 xx] 55) = W2 at tn un R2 B2 ⊢
 clear un
 have nb : ¬ w1.heap.size = w.heap.size := by omega
 have nb' : ¬ w.heap.size = w1.heap.size := by omega
 have t0 := tn.c0
 have t1 := tn.c1
 have r0 := R2.c0
 have r1 := R2.c1
 have z0 := R2.z 0
 have z1 := R2.z 1
 have lr := R2.l
 have R2 := κ R2
 clear tn
 go_region
 clear t0 t1 r0 r1 z0 z1
 have ks := (R2.out.set kk xx)
 have bs := ((B2.out.setCell (p := ⟨w.heap.size, 0, none⟩) (Nat.le_refl _) (.int .i64 kk)).setCell (p := ⟨w.heap.size, 1, none⟩) (Nat.le_refl _) (.int .u32 xx))
 generalize (W2.setCell ⟨w.heap.size, 0, none⟩ (.int .i64 kk)).setCell ⟨w.heap.size, 1, none⟩ (.int .u32 xx) = W3 at ks bs ⊢
 have bd := bs.drew
 have g0 : W3.drew.cell? ⟨w.heap.size, 0, none⟩ = some (.int .i64 kk) := ks.c0
 have g1 : W3.drew.cell? ⟨w.heap.size, 1, none⟩ = some (.int .u32 xx) := ks.c1
 clear ks bs
 generalize W3.drew = W4 at bd g0 g1 ⊢
 go_wp2_with fail
 exact bodyPost_ret (v := .tuple #[.int .u32 (v), .agg #[.int .i64 kk, .int .u32 xx]]) (by simp [results, Tryz.results96, go_sem, g0, g1]) rfl ⟨rfl, bd⟩
theorem rld_1 (P : RP) (M : MM) (a : Int) (w : World) (h : RM P M w) (hM : MOk M) (a0 : 0 ≤ a) (a1 : a < 4294967296) :
  Calls Tryz.prog 96 #[.pointer (some ⟨P.q, 0, none⟩), .int .i64 1, .int .u32 a] w fun e w' => e = .returned (.tuple #[.int .u32 (wid 1 (ldv M a 1)), stpV 5 (srch M 1 a (1 : Int).toNat)]) ∧ Below w.heap.size w w' := by
 have CL := fun w h => rload_any P M a 1 w h hM a0 a1 (by omega)
 have VB := ldv_bd hM a 1
 have ew : wid 1 (ldv M a 1) = s8 (ldv M a 1) := rfl
 rw [ew]
 rw [St.stpV_eq]
 simp only [St.stpV_eq] at CL
 generalize ldv M a 1 = v at CL VB ⊢
 generalize St.stK 5 (srch M 1 a (1 : Int).toNat) = kk at CL ⊢
 generalize St.stX (srch M 1 a (1 : Int).toNat) = xx at CL ⊢
 have CL := κ CL
 have CU := κ (fun (k : Int) (hk : 0 ≤ k ∧ k < 7) w => run_any k v w hk.1 hk.2 VB.1 VB.2)
 have u0 := (Upto.refl (fun _ => False) w).alloc (.cells #[.int .i64 0, .int .u32 0] 55)
 have HH := κ (h.upto u0 (fun _ _ => id))
 have kb := KB.new w 0 0 55
 have b0 : Below w.heap.size w (w.alloc (.cells #[.int .i64 0, .int .u32 0] 55)) := (Below.refl _ _).alloc (Nat.le_refl _) _
 clear h ew u0
 go_enter Tryz.func96, Tryz.ntmps96
 go_upto_region 1 with fail
 generalize w.alloc (.cells #[.int .i64 0, .int .u32 0] 55) = WA at HH kb b0 ⊢
 have KA := κ kb
 clear kb
 go_upto_region 6 with (first
  | (go_at_call 147; (with_reducible refine (CL.out _ (by first | exact HH.out | exact HH.out.upto ((Upto.refl (fun _ => False) WA).alloc _) (fun _ _ => id))).mono ?_); rintro e w1 ⟨rfl, b1⟩; have ub : Upto (fun _ => False) WA w1 := (by first | exact Upto.of_below b1 | exact ((Upto.refl _ WA).alloc _).trans (Upto.of_below b1)); have lA := KA.out.l; have bb := κ (b0.trans (ub.below b0.size (fun _ _ => id))); have K1 := κ (KA.out.upto ub id); have lw := Nat.lt_of_lt_of_le lA ub.size; clear b1 ub)
  | (go_at_call 150; (with_reducible refine (CU.out _ (by decide) _).mono ?_); rintro e w2 ⟨rfl, rfl⟩))
 have tn := KB.new w1 kk xx 55
 have un := (Upto.refl (fun _ => False) w1).alloc (.cells #[.int .i64 kk, .int .u32 xx] 55)
 have R2 := K1.out.upto un id
 have B2 := κ (bb.out.trans (un.below bb.out.size (fun _ _ => id)))
 generalize w1.alloc (.cells #[.int .i64 kk, .int .u32 xx] 55) = W2 at tn un R2 B2 ⊢
 clear un
 have nb : ¬ w1.heap.size = w.heap.size := by omega
 have nb' : ¬ w.heap.size = w1.heap.size := by omega
 have t0 := tn.c0
 have t1 := tn.c1
 have r0 := R2.c0
 have r1 := R2.c1
 have z0 := R2.z 0
 have z1 := R2.z 1
 have lr := R2.l
 have R2 := κ R2
 clear tn
 go_region
 clear t0 t1 r0 r1 z0 z1
 have ks := (R2.out.set kk xx)
 have bs := ((B2.out.setCell (p := ⟨w.heap.size, 0, none⟩) (Nat.le_refl _) (.int .i64 kk)).setCell (p := ⟨w.heap.size, 1, none⟩) (Nat.le_refl _) (.int .u32 xx))
 generalize (W2.setCell ⟨w.heap.size, 0, none⟩ (.int .i64 kk)).setCell ⟨w.heap.size, 1, none⟩ (.int .u32 xx) = W3 at ks bs ⊢
 have bd := bs.drew
 have g0 : W3.drew.cell? ⟨w.heap.size, 0, none⟩ = some (.int .i64 kk) := ks.c0
 have g1 : W3.drew.cell? ⟨w.heap.size, 1, none⟩ = some (.int .u32 xx) := ks.c1
 clear ks bs
 generalize W3.drew = W4 at bd g0 g1 ⊢
 go_wp2_with fail
 exact bodyPost_ret (v := .tuple #[.int .u32 (unV 2 v), .agg #[.int .i64 kk, .int .u32 xx]]) (by simp [results, Tryz.results96, go_sem, g0, g1]) rfl ⟨rfl, bd⟩
theorem rld_2 (P : RP) (M : MM) (a : Int) (w : World) (h : RM P M w) (hM : MOk M) (a0 : 0 ≤ a) (a1 : a < 4294967296) :
  Calls Tryz.prog 96 #[.pointer (some ⟨P.q, 0, none⟩), .int .i64 2, .int .u32 a] w fun e w' => e = .returned (.tuple #[.int .u32 (wid 2 (ldv M a 2)), stpV 5 (srch M 1 a (2 : Int).toNat)]) ∧ Below w.heap.size w w' := by
 have CL := fun w h => rload_any P M a 2 w h hM a0 a1 (by omega)
 have VB := ldv_bd hM a 2
 have ew : wid 2 (ldv M a 2) = ldv M a 2 := rfl
 rw [ew]
 rw [St.stpV_eq]
 simp only [St.stpV_eq] at CL
 generalize ldv M a 2 = v at CL VB ⊢
 generalize St.stK 5 (srch M 1 a (2 : Int).toNat) = kk at CL ⊢
 generalize St.stX (srch M 1 a (2 : Int).toNat) = xx at CL ⊢
 have CL := κ CL
 have CU := κ (fun (k : Int) (hk : 0 ≤ k ∧ k < 7) w => run_any k v w hk.1 hk.2 VB.1 VB.2)
 have u0 := (Upto.refl (fun _ => False) w).alloc (.cells #[.int .i64 0, .int .u32 0] 55)
 have HH := κ (h.upto u0 (fun _ _ => id))
 have kb := KB.new w 0 0 55
 have b0 : Below w.heap.size w (w.alloc (.cells #[.int .i64 0, .int .u32 0] 55)) := (Below.refl _ _).alloc (Nat.le_refl _) _
 clear h ew u0
 go_enter Tryz.func96, Tryz.ntmps96
 go_upto_region 1 with fail
 generalize w.alloc (.cells #[.int .i64 0, .int .u32 0] 55) = WA at HH kb b0 ⊢
 have KA := κ kb
 clear kb
 go_upto_region 6 with (first
  | (go_at_call 147; (with_reducible refine (CL.out _ (by first | exact HH.out | exact HH.out.upto ((Upto.refl (fun _ => False) WA).alloc _) (fun _ _ => id))).mono ?_); rintro e w1 ⟨rfl, b1⟩; have ub : Upto (fun _ => False) WA w1 := (by first | exact Upto.of_below b1 | exact ((Upto.refl _ WA).alloc _).trans (Upto.of_below b1)); have lA := KA.out.l; have bb := κ (b0.trans (ub.below b0.size (fun _ _ => id))); have K1 := κ (KA.out.upto ub id); have lw := Nat.lt_of_lt_of_le lA ub.size; clear b1 ub)
  | (go_at_call 150; (with_reducible refine (CU.out _ (by decide) _).mono ?_); rintro e w2 ⟨rfl, rfl⟩))
 have tn := KB.new w1 kk xx 55
 have un := (Upto.refl (fun _ => False) w1).alloc (.cells #[.int .i64 kk, .int .u32 xx] 55)
 have R2 := K1.out.upto un id
 have B2 := κ (bb.out.trans (un.below bb.out.size (fun _ _ => id)))
 generalize w1.alloc (.cells #[.int .i64 kk, .int .u32 xx] 55) = W2 at tn un R2 B2 ⊢
 clear un
 have nb : ¬ w1.heap.size = w.heap.size := by omega
 have nb' : ¬ w.heap.size = w1.heap.size := by omega
 have t0 := tn.c0
 have t1 := tn.c1
 have r0 := R2.c0
 have r1 := R2.c1
 have z0 := R2.z 0
 have z1 := R2.z 1
 have lr := R2.l
 have R2 := κ R2
 clear tn
 go_region
 clear t0 t1 r0 r1 z0 z1
 have ks := (R2.out.set kk xx)
 have bs := ((B2.out.setCell (p := ⟨w.heap.size, 0, none⟩) (Nat.le_refl _) (.int .i64 kk)).setCell (p := ⟨w.heap.size, 1, none⟩) (Nat.le_refl _) (.int .u32 xx))
 generalize (W2.setCell ⟨w.heap.size, 0, none⟩ (.int .i64 kk)).setCell ⟨w.heap.size, 1, none⟩ (.int .u32 xx) = W3 at ks bs ⊢
 have bd := bs.drew
 have g0 : W3.drew.cell? ⟨w.heap.size, 0, none⟩ = some (.int .i64 kk) := ks.c0
 have g1 : W3.drew.cell? ⟨w.heap.size, 1, none⟩ = some (.int .u32 xx) := ks.c1
 clear ks bs
 generalize W3.drew = W4 at bd g0 g1 ⊢
 go_wp2_with fail
 exact bodyPost_ret (v := .tuple #[.int .u32 (v), .agg #[.int .i64 kk, .int .u32 xx]]) (by simp [results, Tryz.results96, go_sem, g0, g1]) rfl ⟨rfl, bd⟩
theorem rld_3 (P : RP) (M : MM) (a : Int) (w : World) (h : RM P M w) (hM : MOk M) (a0 : 0 ≤ a) (a1 : a < 4294967296) :
  Calls Tryz.prog 96 #[.pointer (some ⟨P.q, 0, none⟩), .int .i64 3, .int .u32 a] w fun e w' => e = .returned (.tuple #[.int .u32 (wid 3 (ldv M a 2)), stpV 5 (srch M 1 a (2 : Int).toNat)]) ∧ Below w.heap.size w w' := by
 have CL := fun w h => rload_any P M a 2 w h hM a0 a1 (by omega)
 have VB := ldv_bd hM a 2
 have ew : wid 3 (ldv M a 2) = s16 (ldv M a 2) := rfl
 rw [ew]
 rw [St.stpV_eq]
 simp only [St.stpV_eq] at CL
 generalize ldv M a 2 = v at CL VB ⊢
 generalize St.stK 5 (srch M 1 a (2 : Int).toNat) = kk at CL ⊢
 generalize St.stX (srch M 1 a (2 : Int).toNat) = xx at CL ⊢
 have CL := κ CL
 have CU := κ (fun (k : Int) (hk : 0 ≤ k ∧ k < 7) w => run_any k v w hk.1 hk.2 VB.1 VB.2)
 have u0 := (Upto.refl (fun _ => False) w).alloc (.cells #[.int .i64 0, .int .u32 0] 55)
 have HH := κ (h.upto u0 (fun _ _ => id))
 have kb := KB.new w 0 0 55
 have b0 : Below w.heap.size w (w.alloc (.cells #[.int .i64 0, .int .u32 0] 55)) := (Below.refl _ _).alloc (Nat.le_refl _) _
 clear h ew u0
 go_enter Tryz.func96, Tryz.ntmps96
 go_upto_region 1 with fail
 generalize w.alloc (.cells #[.int .i64 0, .int .u32 0] 55) = WA at HH kb b0 ⊢
 have KA := κ kb
 clear kb
 go_upto_region 6 with (first
  | (go_at_call 147; (with_reducible refine (CL.out _ (by first | exact HH.out | exact HH.out.upto ((Upto.refl (fun _ => False) WA).alloc _) (fun _ _ => id))).mono ?_); rintro e w1 ⟨rfl, b1⟩; have ub : Upto (fun _ => False) WA w1 := (by first | exact Upto.of_below b1 | exact ((Upto.refl _ WA).alloc _).trans (Upto.of_below b1)); have lA := KA.out.l; have bb := κ (b0.trans (ub.below b0.size (fun _ _ => id))); have K1 := κ (KA.out.upto ub id); have lw := Nat.lt_of_lt_of_le lA ub.size; clear b1 ub)
  | (go_at_call 150; (with_reducible refine (CU.out _ (by decide) _).mono ?_); rintro e w2 ⟨rfl, rfl⟩))
 have tn := KB.new w1 kk xx 55
 have un := (Upto.refl (fun _ => False) w1).alloc (.cells #[.int .i64 kk, .int .u32 xx] 55)
 have R2 := K1.out.upto un id
 have B2 := κ (bb.out.trans (un.below bb.out.size (fun _ _ => id)))
 generalize w1.alloc (.cells #[.int .i64 kk, .int .u32 xx] 55) = W2 at tn un R2 B2 ⊢
 clear un
 have nb : ¬ w1.heap.size = w.heap.size := by omega
 have nb' : ¬ w.heap.size = w1.heap.size := by omega
 have t0 := tn.c0
 have t1 := tn.c1
 have r0 := R2.c0
 have r1 := R2.c1
 have z0 := R2.z 0
 have z1 := R2.z 1
 have lr := R2.l
 have R2 := κ R2
 clear tn
 go_region
 clear t0 t1 r0 r1 z0 z1
 have ks := (R2.out.set kk xx)
 have bs := ((B2.out.setCell (p := ⟨w.heap.size, 0, none⟩) (Nat.le_refl _) (.int .i64 kk)).setCell (p := ⟨w.heap.size, 1, none⟩) (Nat.le_refl _) (.int .u32 xx))
 generalize (W2.setCell ⟨w.heap.size, 0, none⟩ (.int .i64 kk)).setCell ⟨w.heap.size, 1, none⟩ (.int .u32 xx) = W3 at ks bs ⊢
 have bd := bs.drew
 have g0 : W3.drew.cell? ⟨w.heap.size, 0, none⟩ = some (.int .i64 kk) := ks.c0
 have g1 : W3.drew.cell? ⟨w.heap.size, 1, none⟩ = some (.int .u32 xx) := ks.c1
 clear ks bs
 generalize W3.drew = W4 at bd g0 g1 ⊢
 go_wp2_with fail
 exact bodyPost_ret (v := .tuple #[.int .u32 (unV 3 v), .agg #[.int .i64 kk, .int .u32 xx]]) (by simp [results, Tryz.results96, go_sem, g0, g1]) rfl ⟨rfl, bd⟩
theorem rld_4 (P : RP) (M : MM) (a : Int) (w : World) (h : RM P M w) (hM : MOk M) (a0 : 0 ≤ a) (a1 : a < 4294967296) :
  Calls Tryz.prog 96 #[.pointer (some ⟨P.q, 0, none⟩), .int .i64 4, .int .u32 a] w fun e w' => e = .returned (.tuple #[.int .u32 (wid 4 (ldv M a 4)), stpV 5 (srch M 1 a (4 : Int).toNat)]) ∧ Below w.heap.size w w' := by
 have CL := fun w h => rload_any P M a 4 w h hM a0 a1 (by omega)
 have VB := ldv_bd hM a 4
 have ew : wid 4 (ldv M a 4) = ldv M a 4 := rfl
 rw [ew]
 rw [St.stpV_eq]
 simp only [St.stpV_eq] at CL
 generalize ldv M a 4 = v at CL VB ⊢
 generalize St.stK 5 (srch M 1 a (4 : Int).toNat) = kk at CL ⊢
 generalize St.stX (srch M 1 a (4 : Int).toNat) = xx at CL ⊢
 have CL := κ CL
 have CU := κ (fun (k : Int) (hk : 0 ≤ k ∧ k < 7) w => run_any k v w hk.1 hk.2 VB.1 VB.2)
 have u0 := (Upto.refl (fun _ => False) w).alloc (.cells #[.int .i64 0, .int .u32 0] 55)
 have HH := κ (h.upto u0 (fun _ _ => id))
 have kb := KB.new w 0 0 55
 have b0 : Below w.heap.size w (w.alloc (.cells #[.int .i64 0, .int .u32 0] 55)) := (Below.refl _ _).alloc (Nat.le_refl _) _
 clear h ew u0
 go_enter Tryz.func96, Tryz.ntmps96
 go_upto_region 1 with fail
 generalize w.alloc (.cells #[.int .i64 0, .int .u32 0] 55) = WA at HH kb b0 ⊢
 have KA := κ kb
 clear kb
 go_upto_region 6 with (first
  | (go_at_call 147; (with_reducible refine (CL.out _ (by first | exact HH.out | exact HH.out.upto ((Upto.refl (fun _ => False) WA).alloc _) (fun _ _ => id))).mono ?_); rintro e w1 ⟨rfl, b1⟩; have ub : Upto (fun _ => False) WA w1 := (by first | exact Upto.of_below b1 | exact ((Upto.refl _ WA).alloc _).trans (Upto.of_below b1)); have lA := KA.out.l; have bb := κ (b0.trans (ub.below b0.size (fun _ _ => id))); have K1 := κ (KA.out.upto ub id); have lw := Nat.lt_of_lt_of_le lA ub.size; clear b1 ub)
  | (go_at_call 150; (with_reducible refine (CU.out _ (by decide) _).mono ?_); rintro e w2 ⟨rfl, rfl⟩))
 have tn := KB.new w1 kk xx 55
 have un := (Upto.refl (fun _ => False) w1).alloc (.cells #[.int .i64 kk, .int .u32 xx] 55)
 have R2 := K1.out.upto un id
 have B2 := κ (bb.out.trans (un.below bb.out.size (fun _ _ => id)))
 generalize w1.alloc (.cells #[.int .i64 kk, .int .u32 xx] 55) = W2 at tn un R2 B2 ⊢
 clear un
 have nb : ¬ w1.heap.size = w.heap.size := by omega
 have nb' : ¬ w.heap.size = w1.heap.size := by omega
 have t0 := tn.c0
 have t1 := tn.c1
 have r0 := R2.c0
 have r1 := R2.c1
 have z0 := R2.z 0
 have z1 := R2.z 1
 have lr := R2.l
 have R2 := κ R2
 clear tn
 go_region
 clear t0 t1 r0 r1 z0 z1
 have ks := (R2.out.set kk xx)
 have bs := ((B2.out.setCell (p := ⟨w.heap.size, 0, none⟩) (Nat.le_refl _) (.int .i64 kk)).setCell (p := ⟨w.heap.size, 1, none⟩) (Nat.le_refl _) (.int .u32 xx))
 generalize (W2.setCell ⟨w.heap.size, 0, none⟩ (.int .i64 kk)).setCell ⟨w.heap.size, 1, none⟩ (.int .u32 xx) = W3 at ks bs ⊢
 have bd := bs.drew
 have g0 : W3.drew.cell? ⟨w.heap.size, 0, none⟩ = some (.int .i64 kk) := ks.c0
 have g1 : W3.drew.cell? ⟨w.heap.size, 1, none⟩ = some (.int .u32 xx) := ks.c1
 clear ks bs
 generalize W3.drew = W4 at bd g0 g1 ⊢
 go_wp2_with fail
 exact bodyPost_ret (v := .tuple #[.int .u32 (v), .agg #[.int .i64 kk, .int .u32 xx]]) (by simp [results, Tryz.results96, go_sem, g0, g1]) rfl ⟨rfl, bd⟩
theorem rst_0 (P : RP) (M : MM) (a v : Int) (w : World) (h : RM P M w) (hM : MOk M) (a0 : 0 ≤ a) (a1 : a < 4294967296) (v0 : 0 ≤ v) (v1 : v < 4294967296) :
  Calls Tryz.prog 97 #[.pointer (some ⟨P.q, 0, none⟩), .int .i64 0, .int .u32 a, .int .u32 v] w fun e w' => e = .returned (stpV 6 (sto M a 1)) ∧ RM P (stm M a 1 v) w' ∧ Upto P.has w w' := by
 have CL := fun w h => rstore_any P M a 1 v w h hM a0 a1 v0 v1
 have hlt : ¬ P.has w.heap.size := fun hx => Nat.lt_irrefl _ (rm_lt h hx)
 rw [St.stpV_eq]
 simp only [St.stpV_eq] at CL
 generalize St.stK 6 (sto M a 1) = kk at CL ⊢
 generalize St.stX (sto M a 1) = xx at CL ⊢
 generalize stm M a 1 v = M' at CL ⊢
 have CL := κ CL
 have u0 := (Upto.refl (fun _ => False) w).alloc (.cells #[.int .i64 0, .int .u32 0] 55)
 have HH := κ (h.upto u0 (fun _ _ => id))
 have kb := KB.new w 0 0 55
 have U0 := κ (u0.mono (T := P.has) fun _ _ h => h.elim)
 clear h u0
 go_enter Tryz.func97, Tryz.ntmps97
 go_upto_region 1 with fail
 generalize w.alloc (.cells #[.int .i64 0, .int .u32 0] 55) = WA at HH kb U0 ⊢
 have KA := κ kb
 have lA := kb.l
 have z0 := kb.z 0
 have z1 := kb.z 1
 clear kb
 go_wp2_with (first
  | (go_at_call 148; (with_reducible refine (CL.out _ (by first | exact HH.out | exact HH.out.upto ((Upto.refl (fun _ => False) WA).alloc _) (fun _ _ => id))).mono ?_); rintro e w1 ⟨rfl, m1, u1⟩; have ub : Upto P.has WA w1 := (by first | exact u1 | exact ((Upto.refl _ WA).alloc _).trans u1); have M1 := κ m1; have U1 := κ (U0.out.trans ub); have K1 := κ (KA.out.upto ub hlt); have r0 := K1.out.c0; have r1 := K1.out.c1; have z0 := K1.out.z 0; have z1 := K1.out.z 1; have lw := K1.out.l; clear m1 u1 ub))
 have ks := (K1.out.set kk xx)
 have vs := (Upto.refl (fun i => i = w.heap.size) w1).setCell (q := ⟨w.heap.size, 0, none⟩) (.inl rfl) (.int .i64 kk)
 have vs := vs.setCell (q := ⟨w.heap.size, 1, none⟩) (.inl rfl) (.int .u32 xx)
 have ms := M1.out.upto vs (fun k hk e => hlt (e ▸ hk))
 have us := (U1.out.setCell (q := ⟨w.heap.size, 0, none⟩) (.inr (Nat.le_refl _)) (.int .i64 kk)).setCell (q := ⟨w.heap.size, 1, none⟩) (.inr (Nat.le_refl _)) (.int .u32 xx)
 clear r0 r1 z0 z1 vs
 have g0 := ks.c0
 have g1 := ks.c1
 generalize (w1.setCell ⟨w.heap.size, 0, none⟩ (.int .i64 kk)).setCell ⟨w.heap.size, 1, none⟩ (.int .u32 xx) = W3 at ks ms us g0 g1 ⊢
 exact bodyPost_ret (v := .agg #[.int .i64 kk, .int .u32 xx]) (by simp [results, Tryz.results97, go_sem, g0, g1]) rfl ⟨rfl, ms, us⟩
theorem rst_1 (P : RP) (M : MM) (a v : Int) (w : World) (h : RM P M w) (hM : MOk M) (a0 : 0 ≤ a) (a1 : a < 4294967296) (v0 : 0 ≤ v) (v1 : v < 4294967296) :
  Calls Tryz.prog 97 #[.pointer (some ⟨P.q, 0, none⟩), .int .i64 1, .int .u32 a, .int .u32 v] w fun e w' => e = .returned (stpV 6 (sto M a 2)) ∧ RM P (stm M a 2 v) w' ∧ Upto P.has w w' := by
 have CL := fun w h => rstore_any P M a 2 v w h hM a0 a1 v0 v1
 have hlt : ¬ P.has w.heap.size := fun hx => Nat.lt_irrefl _ (rm_lt h hx)
 rw [St.stpV_eq]
 simp only [St.stpV_eq] at CL
 generalize St.stK 6 (sto M a 2) = kk at CL ⊢
 generalize St.stX (sto M a 2) = xx at CL ⊢
 generalize stm M a 2 v = M' at CL ⊢
 have CL := κ CL
 have u0 := (Upto.refl (fun _ => False) w).alloc (.cells #[.int .i64 0, .int .u32 0] 55)
 have HH := κ (h.upto u0 (fun _ _ => id))
 have kb := KB.new w 0 0 55
 have U0 := κ (u0.mono (T := P.has) fun _ _ h => h.elim)
 clear h u0
 go_enter Tryz.func97, Tryz.ntmps97
 go_upto_region 1 with fail
 generalize w.alloc (.cells #[.int .i64 0, .int .u32 0] 55) = WA at HH kb U0 ⊢
 have KA := κ kb
 have lA := kb.l
 have z0 := kb.z 0
 have z1 := kb.z 1
 clear kb
 go_wp2_with (first
  | (go_at_call 148; (with_reducible refine (CL.out _ (by first | exact HH.out | exact HH.out.upto ((Upto.refl (fun _ => False) WA).alloc _) (fun _ _ => id))).mono ?_); rintro e w1 ⟨rfl, m1, u1⟩; have ub : Upto P.has WA w1 := (by first | exact u1 | exact ((Upto.refl _ WA).alloc _).trans u1); have M1 := κ m1; have U1 := κ (U0.out.trans ub); have K1 := κ (KA.out.upto ub hlt); have r0 := K1.out.c0; have r1 := K1.out.c1; have z0 := K1.out.z 0; have z1 := K1.out.z 1; have lw := K1.out.l; clear m1 u1 ub))
 have ks := (K1.out.set kk xx)
 have vs := (Upto.refl (fun i => i = w.heap.size) w1).setCell (q := ⟨w.heap.size, 0, none⟩) (.inl rfl) (.int .i64 kk)
 have vs := vs.setCell (q := ⟨w.heap.size, 1, none⟩) (.inl rfl) (.int .u32 xx)
 have ms := M1.out.upto vs (fun k hk e => hlt (e ▸ hk))
 have us := (U1.out.setCell (q := ⟨w.heap.size, 0, none⟩) (.inr (Nat.le_refl _)) (.int .i64 kk)).setCell (q := ⟨w.heap.size, 1, none⟩) (.inr (Nat.le_refl _)) (.int .u32 xx)
 clear r0 r1 z0 z1 vs
 have g0 := ks.c0
 have g1 := ks.c1
 generalize (w1.setCell ⟨w.heap.size, 0, none⟩ (.int .i64 kk)).setCell ⟨w.heap.size, 1, none⟩ (.int .u32 xx) = W3 at ks ms us g0 g1 ⊢
 exact bodyPost_ret (v := .agg #[.int .i64 kk, .int .u32 xx]) (by simp [results, Tryz.results97, go_sem, g0, g1]) rfl ⟨rfl, ms, us⟩
theorem rst_2 (P : RP) (M : MM) (a v : Int) (w : World) (h : RM P M w) (hM : MOk M) (a0 : 0 ≤ a) (a1 : a < 4294967296) (v0 : 0 ≤ v) (v1 : v < 4294967296) :
  Calls Tryz.prog 97 #[.pointer (some ⟨P.q, 0, none⟩), .int .i64 2, .int .u32 a, .int .u32 v] w fun e w' => e = .returned (stpV 6 (sto M a 4)) ∧ RM P (stm M a 4 v) w' ∧ Upto P.has w w' := by
 have CL := fun w h => rstore_any P M a 4 v w h hM a0 a1 v0 v1
 have hlt : ¬ P.has w.heap.size := fun hx => Nat.lt_irrefl _ (rm_lt h hx)
 rw [St.stpV_eq]
 simp only [St.stpV_eq] at CL
 generalize St.stK 6 (sto M a 4) = kk at CL ⊢
 generalize St.stX (sto M a 4) = xx at CL ⊢
 generalize stm M a 4 v = M' at CL ⊢
 have CL := κ CL
 have u0 := (Upto.refl (fun _ => False) w).alloc (.cells #[.int .i64 0, .int .u32 0] 55)
 have HH := κ (h.upto u0 (fun _ _ => id))
 have kb := KB.new w 0 0 55
 have U0 := κ (u0.mono (T := P.has) fun _ _ h => h.elim)
 clear h u0
 go_enter Tryz.func97, Tryz.ntmps97
 go_upto_region 1 with fail
 generalize w.alloc (.cells #[.int .i64 0, .int .u32 0] 55) = WA at HH kb U0 ⊢
 have KA := κ kb
 have lA := kb.l
 have z0 := kb.z 0
 have z1 := kb.z 1
 clear kb
 go_wp2_with (first
  | (go_at_call 148; (with_reducible refine (CL.out _ (by first | exact HH.out | exact HH.out.upto ((Upto.refl (fun _ => False) WA).alloc _) (fun _ _ => id))).mono ?_); rintro e w1 ⟨rfl, m1, u1⟩; have ub : Upto P.has WA w1 := (by first | exact u1 | exact ((Upto.refl _ WA).alloc _).trans u1); have M1 := κ m1; have U1 := κ (U0.out.trans ub); have K1 := κ (KA.out.upto ub hlt); have r0 := K1.out.c0; have r1 := K1.out.c1; have z0 := K1.out.z 0; have z1 := K1.out.z 1; have lw := K1.out.l; clear m1 u1 ub))
 have ks := (K1.out.set kk xx)
 have vs := (Upto.refl (fun i => i = w.heap.size) w1).setCell (q := ⟨w.heap.size, 0, none⟩) (.inl rfl) (.int .i64 kk)
 have vs := vs.setCell (q := ⟨w.heap.size, 1, none⟩) (.inl rfl) (.int .u32 xx)
 have ms := M1.out.upto vs (fun k hk e => hlt (e ▸ hk))
 have us := (U1.out.setCell (q := ⟨w.heap.size, 0, none⟩) (.inr (Nat.le_refl _)) (.int .i64 kk)).setCell (q := ⟨w.heap.size, 1, none⟩) (.inr (Nat.le_refl _)) (.int .u32 xx)
 clear r0 r1 z0 z1 vs
 have g0 := ks.c0
 have g1 := ks.c1
 generalize (w1.setCell ⟨w.heap.size, 0, none⟩ (.int .i64 kk)).setCell ⟨w.heap.size, 1, none⟩ (.int .u32 xx) = W3 at ks ms us g0 g1 ⊢
 exact bodyPost_ret (v := .agg #[.int .i64 kk, .int .u32 xx]) (by simp [results, Tryz.results97, go_sem, g0, g1]) rfl ⟨rfl, ms, us⟩
theorem rld_any (P : RP) (M : MM) (j a : Int) (w : World) (h : RM P M w) (hM : MOk M) (j0 : 0 ≤ j) (j1 : j < 5) (a0 : 0 ≤ a) (a1 : a < 4294967296) :
  Calls Tryz.prog 96 #[.pointer (some ⟨P.q, 0, none⟩), .int .i64 j, .int .u32 a] w fun e w' => e = .returned (.tuple #[.int .u32 (wid j (ldv M a (ldn j))), stpV 5 (srch M 1 a (ldn j).toNat)]) ∧ Below w.heap.size w w' := by
 rcases (show j = 0 ∨ j = 1 ∨ j = 2 ∨ j = 3 ∨ j = 4 by omega) with rfl | rfl | rfl | rfl | rfl
 ·exact rld_0 P M a w h hM a0 a1
 ·exact rld_1 P M a w h hM a0 a1
 ·exact rld_2 P M a w h hM a0 a1
 ·exact rld_3 P M a w h hM a0 a1
 ·exact rld_4 P M a w h hM a0 a1
theorem rst_any (P : RP) (M : MM) (j a v : Int) (w : World) (h : RM P M w) (hM : MOk M) (j0 : 0 ≤ j) (j1 : j < 3) (a0 : 0 ≤ a) (a1 : a < 4294967296) (v0 : 0 ≤ v) (v1 : v < 4294967296) :
  Calls Tryz.prog 97 #[.pointer (some ⟨P.q, 0, none⟩), .int .i64 j, .int .u32 a, .int .u32 v] w fun e w' => e = .returned (stpV 6 (sto M a (stn j))) ∧ RM P (stm M a (stn j) v) w' ∧ Upto P.has w w' := by
 rcases (show j = 0 ∨ j = 1 ∨ j = 2 by omega) with rfl | rfl | rfl
 ·exact rst_0 P M a v w h hM a0 a1 v0 v1
 ·exact rst_1 P M a v w h hM a0 a1 v0 v1
 ·exact rst_2 P M a v w h hM a0 a1 v0 v1
end Go.Proofs.YtcjcmnnhmajocabGreat.Ev
namespace Go.Proofs.YtcjcmnnhmajocabGreat.Ir
open Go.RowKit Kt
theorem rstate_any (c0 c1 c2 c3 c4 c5 c6 c7 c8 c9 c10 c11 pc : Int) (w : World) (h8 : 0 ≤ c8) (g8 : c8 < 4294967296) (h9 : 0 ≤ c9) (g9 : c9 < 4294967296) (h10 : 0 ≤ c10) (g10 : c10 < 4294967296) (h11 : 0 ≤ c11) (g11 : c11 < 4294967296) :
  Calls Tryz.prog 63 #[.agg #[.int .u32 c0, .int .u32 c1, .int .u32 c2, .int .u32 c3, .int .u32 c4, .int .u32 c5, .int .u32 c6, .int .u32 c7, .int .u32 c8, .int .u32 c9, .int .u32 c10, .int .u32 c11], .int .u32 pc] w
   fun e w' => e = .returned (.agg #[.int .u32 c0, .int .u32 c1, .int .u32 c2, .int .u32 c3, .int .u32 c4, .int .u32 c5, .int .u32 c6, .int .u32 c7, .int .u32 pc, .int .u32 (Fl.fl c8 c9 c10 c11)]) ∧ Below w.heap.size w w' := by
 go_enter Tryz.func63, Tryz.ntmps63
 go_wp2_with (go_at_call 91; refine (Fl.rflags_any _ _ _ _ _ (by omega) (by omega) (by omega) (by omega) (by omega) (by omega)).mono ?_; rintro e w' ⟨rfl, rfl⟩)
 refine wp_loop_rounds 9 ?_
 repeat (rw [rounds_succ]; go_wp2)
 refine bodyPost_ret (v := .agg #[.int .u32 c0, .int .u32 c1, .int .u32 c2, .int .u32 c3, .int .u32 c4, .int .u32 c5, .int .u32 c6, .int .u32 c7, .int .u32 pc, .int .u32 (Fl.fl c8 c9 c10 c11)]) (by simp [results, Tryz.results63, go_sem]) rfl ⟨rfl, ?_⟩
 repeat (first | exact Below.refl _ _ | apply Below.drew | (refine Below.alloc ?_ (by simp; try omega) _))
end Go.Proofs.YtcjcmnnhmajocabGreat.Ir
namespace Go.Proofs.YtcjcmnnhmajocabGreat.Ev
open Go.RowKit Kt Me Fl
/-- ir's run: memory, context, values -/
structure Rn (A T p L : Nat) (c v : Nat → Int) (W : World) : Prop where
 m : W.cell? ⟨A, 0, none⟩ = some (.pointer (some ⟨p, 0, none⟩))
 c : ∀ j, j < 12 → W.cell? ⟨A, 1 + j, none⟩ = some (.int .u32 (c j))
 t : W.cell? ⟨A, 13, none⟩ = some (.slice (some ⟨T, 0, none⟩) L L)
 v : ∀ j, j < L → W.cell? ⟨T, j, none⟩ = some (.int .u32 (v j))
 za : ∀ j, W.frozen? ⟨A, j, none⟩ = false
 zt : ∀ j, W.frozen? ⟨T, j, none⟩ = false
 la : A < W.heap.size
 lt : T < W.heap.size
 ne : A ≠ T
variable {A T p L : Nat} {c v : Nat → Int} {W W' : World}
theorem Rn.upto {S : Nat → Prop} (a : Rn A T p L c v W) (u : Upto S W W') (hA : ¬ S A) (hT : ¬ S T) : Rn A T p L c v W' :=
 ⟨(u.cell (q := ⟨A, 0, none⟩) a.la hA).trans a.m, fun j hj => (u.cell (q := ⟨A, 1 + j, none⟩) a.la hA).trans (a.c j hj), (u.cell (q := ⟨A, 13, none⟩) a.la hA).trans a.t,
  fun j hj => (u.cell (q := ⟨T, j, none⟩) a.lt hT).trans (a.v j hj), fun j => (u.frozen (q := ⟨A, j, none⟩) a.la hA).trans (a.za j), fun j => (u.frozen (q := ⟨T, j, none⟩) a.lt hT).trans (a.zt j),
  Nat.lt_of_lt_of_le a.la u.size, Nat.lt_of_lt_of_le a.lt u.size, a.ne⟩
theorem Rn.drew (a : Rn A T p L c v W) : Rn A T p L c v W.drew := a.upto (Upto.refl (fun _ => False) W).drew id id
theorem oth {W : World} {b b' i j : Nat} {x : Value} (hne : b' ≠ b) : (W.setCell ⟨b, j, none⟩ x).cell? ⟨b', i, none⟩ = W.cell? ⟨b', i, none⟩ :=
 World.cell?_setCell_other _ _ _ _ (fun hx => hne (congrArg Addr.block hx).symm)
theorem Rn.setV (a : Rn A T p L c v W) (i : Nat) (hi : i < L) (z : Int) : Rn A T p L c (upd v i z) (W.setCell ⟨T, i, none⟩ (.int .u32 z)) := by
 refine ⟨(oth a.ne).trans a.m, fun j hj => (oth a.ne).trans (a.c j hj), (oth a.ne).trans a.t, fun j hj => ?_, fun j => by simpa using a.za j, fun j => by simpa using a.zt j, by simpa using a.la, by simpa using a.lt, a.ne⟩
 by_cases e : j = i
 ·subst e; rw [World.cell?_setCell_same _ _ _ (a.v j hj)]; simp [upd]
 ·rw [off e, a.v j hj]; simp [upd, e]
theorem Rn.setC (a : Rn A T p L c v W) (i : Nat) (hi : i < 12) (z : Int) : Rn A T p L (upd c i z) v (W.setCell ⟨A, 1 + i, none⟩ (.int .u32 z)) := by
 have hne : T ≠ A := fun e => a.ne e.symm
 refine ⟨(off (by omega)).trans a.m, fun j hj => ?_, (off (by omega)).trans a.t, fun j hj => (oth hne).trans (a.v j hj), fun j => by simpa using a.za j, fun j => by simpa using a.zt j, by simpa using a.la, by simpa using a.lt, a.ne⟩
 by_cases e : j = i
 ·subst e; rw [World.cell?_setCell_same _ _ _ (a.c j hj)]; simp [upd]
 ·rw [off (by omega), a.c j hj]; simp [upd, e]
/-- an operation in a box -/
structure OB (h : Nat) (k ow oa ob oc kn on : Int) (W : World) : Prop where
 c0 : W.cell? ⟨h, 0, none⟩ = some (.int .i64 k)
 c1 : W.cell? ⟨h, 1, none⟩ = some (.int .i64 ow)
 c2 : W.cell? ⟨h, 2, none⟩ = some (.int .i64 oa)
 c3 : W.cell? ⟨h, 3, none⟩ = some (.int .i64 ob)
 c4 : W.cell? ⟨h, 4, none⟩ = some (.int .i64 oc)
 c5 : W.cell? ⟨h, 5, none⟩ = some (.int .u32 kn)
 c6 : W.cell? ⟨h, 6, none⟩ = some (.int .i64 on)
 l : h < W.heap.size
theorem OB.upto {S : Nat → Prop} {h : Nat} {k ow oa ob oc kn on : Int} {W W' : World} (a : OB h k ow oa ob oc kn on W) (u : Upto S W W') (hs : ¬ S h) : OB h k ow oa ob oc kn on W' :=
 ⟨(u.cell (q := ⟨h, 0, none⟩) a.l hs).trans a.c0, (u.cell (q := ⟨h, 1, none⟩) a.l hs).trans a.c1, (u.cell (q := ⟨h, 2, none⟩) a.l hs).trans a.c2, (u.cell (q := ⟨h, 3, none⟩) a.l hs).trans a.c3, (u.cell (q := ⟨h, 4, none⟩) a.l hs).trans a.c4, (u.cell (q := ⟨h, 5, none⟩) a.l hs).trans a.c5, (u.cell (q := ⟨h, 6, none⟩) a.l hs).trans a.c6, Nat.lt_of_lt_of_le a.l u.size⟩
theorem OB.setV {h i : Nat} {k ow oa ob oc kn on : Int} {W : World} (b : OB h k ow oa ob oc kn on W) {T : Nat} (hne : h ≠ T) (z : Value) : OB h k ow oa ob oc kn on (W.setCell ⟨T, i, none⟩ z) :=
 ⟨(oth hne).trans b.c0, (oth hne).trans b.c1, (oth hne).trans b.c2, (oth hne).trans b.c3, (oth hne).trans b.c4, (oth hne).trans b.c5, (oth hne).trans b.c6, by simpa using b.l⟩
/-- what the context and the values are behind it -/
def pc (k ow : Int) (oa : Nat) (c v : Nat → Int) : Nat → Int := if k = 3 then upd c ow.toNat (v oa) else c
/-- an exit in a box -/
structure XB4 (h : Nat) (ek ex ep en : Int) (W : World) : Prop where
 c0 : W.cell? ⟨h, 0, none⟩ = some (.int .i64 ek)
 c1 : W.cell? ⟨h, 1, none⟩ = some (.int .u32 ex)
 c2 : W.cell? ⟨h, 2, none⟩ = some (.int .u32 ep)
 c3 : W.cell? ⟨h, 3, none⟩ = some (.int .i64 en)
 z : ∀ j, W.frozen? ⟨h, j, none⟩ = false
 l : h < W.heap.size
theorem XB4.upto {S : Nat → Prop} {h : Nat} {ek ex ep en : Int} {W W' : World} (a : XB4 h ek ex ep en W) (u : Upto S W W') (hs : ¬ S h) : XB4 h ek ex ep en W' :=
 ⟨(u.cell (q := ⟨h, 0, none⟩) a.l hs).trans a.c0, (u.cell (q := ⟨h, 1, none⟩) a.l hs).trans a.c1, (u.cell (q := ⟨h, 2, none⟩) a.l hs).trans a.c2, (u.cell (q := ⟨h, 3, none⟩) a.l hs).trans a.c3, fun j => (u.frozen (q := ⟨h, j, none⟩) a.l hs).trans (a.z j), Nat.lt_of_lt_of_le a.l u.size⟩
theorem XB4.new (w : World) (ek ex ep en : Int) (t : TypeId) : XB4 w.heap.size ek ex ep en (w.alloc (.cells #[.int .i64 ek, .int .u32 ex, .int .u32 ep, .int .i64 en] t)) :=
 ⟨box_at w _ _ 0, box_at w _ _ 1, box_at w _ _ 2, box_at w _ _ 3, fun j => fz_new w _ _ j, by simp⟩
theorem XB4.set {h : Nat} {ek ex ep en : Int} {W : World} (a : XB4 h ek ex ep en W) (k x p n : Int) : XB4 h k x p n ((((W.setCell ⟨h, 0, none⟩ (.int .i64 k)).setCell ⟨h, 1, none⟩ (.int .u32 x)).setCell ⟨h, 2, none⟩ (.int .u32 p)).setCell ⟨h, 3, none⟩ (.int .i64 n)) := by
 have e0 := World.cell?_setCell_same W ⟨h, 0, none⟩ (.int .i64 k) a.c0
 have d1 := (off (W := W) (b := h) (i := 1) (j := 0) (v := .int .i64 k) (by omega)).trans a.c1
 have d2 := (off (W := W) (b := h) (i := 2) (j := 0) (v := .int .i64 k) (by omega)).trans a.c2
 have d3 := (off (W := W) (b := h) (i := 3) (j := 0) (v := .int .i64 k) (by omega)).trans a.c3
 generalize hW1 : W.setCell ⟨h, 0, none⟩ (.int .i64 k) = W1 at e0 d1 d2 d3 ⊢
 have e1 := World.cell?_setCell_same W1 ⟨h, 1, none⟩ (.int .u32 x) d1
 have f0 := (off (W := W1) (b := h) (i := 0) (j := 1) (v := .int .u32 x) (by omega)).trans e0
 have f2 := (off (W := W1) (b := h) (i := 2) (j := 1) (v := .int .u32 x) (by omega)).trans d2
 have f3 := (off (W := W1) (b := h) (i := 3) (j := 1) (v := .int .u32 x) (by omega)).trans d3
 generalize hW2 : W1.setCell ⟨h, 1, none⟩ (.int .u32 x) = W2 at e1 f0 f2 f3 ⊢
 have e2 := World.cell?_setCell_same W2 ⟨h, 2, none⟩ (.int .u32 p) f2
 refine ⟨?_, ?_, ?_, ?_, fun j => by subst hW2; subst hW1; simpa using a.z j, by subst hW2; subst hW1; simpa using a.l⟩
 ·exact (off (by omega)).trans ((off (by omega)).trans f0)
 ·exact (off (by omega)).trans ((off (by omega)).trans e1)
 ·exact (off (by omega)).trans e2
 ·exact World.cell?_setCell_same _ _ _ ((off (by omega)).trans f3)
variable {A T p L : Nat} {c v : Nat → Int}
theorem XB4.drew {h : Nat} {ek ex ep en : Int} {W : World} (a : XB4 h ek ex ep en W) : XB4 h ek ex ep en W.drew := a.upto (Upto.refl (fun _ => False) W).drew id
theorem OB.drew {h : Nat} {k ow oa ob oc kn on : Int} {W : World} (a : OB h k ow oa ob oc kn on W) : OB h k ow oa ob oc kn on W.drew := a.upto (Upto.refl (fun _ => False) W).drew id
open Ic
/-- what is under way: memory, context, values -/
structure Evs where
 M : MM
 c : Nat → Int
 v : Nat → Int
/-- how a block is left -/
structure Ext where
 k : Int
 x : Int
 pc : Int
 n : Int
def Evs.get (s : Evs) (t : Int) : Int := s.v t.toNat
def Evs.set (s : Evs) (i : Nat) (z : Int) : Evs := { s with v := upd s.v i z }
/-- one operation -/
def opV (o : Opr) (s : Evs) (i : Nat) : Evs × Option Ext :=
 let a := s.get o.a
 let b := s.get o.b
 let c := s.get o.c
 if o.k = 2 then (s.set i (s.c o.w.toNat), none)
 else if o.k = 3 then ({ s with c := upd s.c o.w.toNat a }, none)
 else if o.k = 17 then (s.set i (fl (s.c 8) (s.c 9) (s.c 10) (s.c 11)), none)
 else if o.k = 9 then (match srch s.M 1 a (ldn o.w).toNat with
  | none => (s.set i (wid o.w (ldv s.M a (ldn o.w))), none)
  | some x => (s.set i (wid o.w 0), some ⟨5, x, o.kn, o.n⟩))
 else if o.k = 10 then (match sto s.M a (stn o.w) with
  | none => ({ s with M := stm s.M a (stn o.w) b }, none)
  | some x => (s, some ⟨6, x, o.kn, o.n⟩))
 else if o.k = 11 then (s, if anyT s.M.hi then some ⟨0, 0, o.kn, o.n⟩ else none)
 else if o.k = 12 then (s, if a = 0 then none else some ⟨0, 0, o.kn, o.n⟩)
 else if o.k = 13 then (s, if a = 0 then none else some ⟨o.w, 0, o.kn, o.n⟩)
 else if o.k = 14 then (s, some ⟨o.w, o.b % 4294967296, o.kn, o.n⟩)
 else if o.k = 15 then (s, some ⟨0, 0, o.kn, o.n⟩)
 else if o.k = 16 then (s, some ⟨0, 0, a, o.n⟩)
 else (s.set i (valV o.k o.w o.kn a b c), none)
/-- the last so many -/
def evN (os : List Opr) : Nat → Evs → Evs × Ext × Int
 | 0, s => (s, ⟨0, 0, 0, 0⟩, -1)
 | n + 1, s => match os[os.length - (n + 1)]? with
  | none => (s, ⟨0, 0, 0, 0⟩, -1)
  | some o => match opV o s (os.length - (n + 1)) with
   | (s', none) => evN os n s'
   | (s', some x) => (s', x, ((os.length - (n + 1) : Nat) : Int))
/-- a context's numbers -/
def COk (c : Nat → Int) : Prop := ∀ j, 0 ≤ c j ∧ c j < 4294967296
structure EOk (s : Evs) : Prop where
 M : MOk s.M
 c : COk s.c
 v : COk s.v
theorem COk.upd {c : Nat → Int} (h : COk c) (k : Nat) (z : Int) (hz : 0 ≤ z ∧ z < 4294967296) : COk (Me.upd c k z) := by
 intro j
 unfold Me.upd
 split
 ·exact hz
 ·exact h j
theorem EOk.set {s : Evs} (h : EOk s) (i : Nat) (z : Int) (hz : 0 ≤ z ∧ z < 4294967296) : EOk (s.set i z) := ⟨h.M, h.c, h.v.upd i z hz⟩
theorem opV_ok (o : Opr) (s : Evs) (i : Nat) (h : EOk s) (k0 : 0 ≤ o.kn) (k1 : o.kn < 4294967296) : EOk (opV o s i).1 := by
 have ha := h.v o.a.toNat
 have hb := h.v o.b.toNat
 have hc := h.v o.c.toNat
 unfold opV
 simp only [Evs.get]
 by_cases e : o.k = 2
 ·rw [if_pos e]; exact h.set _ _ (h.c _)
 rw [if_neg e]; clear e
 by_cases e : o.k = 3
 ·rw [if_pos e]; exact ⟨h.M, h.c.upd _ _ ha, h.v⟩
 rw [if_neg e]; clear e
 by_cases e : o.k = 17
 ·rw [if_pos e]; exact h.set _ _ (by have := St.fl_bd (s.c 8) (s.c 9) (s.c 10) (s.c 11); show 0 ≤ fl _ _ _ _ ∧ fl _ _ _ _ < 4294967296; omega)
 rw [if_neg e]; clear e
 by_cases e : o.k = 9
 ·rw [if_pos e]
  split
  ·have b := ldv_bd h.M (s.v o.a.toNat) (ldn o.w)
   exact h.set _ _ (wid_bd _ _ b.1 b.2)
  ·exact h.set _ _ (wid_bd _ _ (by decide) (by decide))
 rw [if_neg e]; clear e
 by_cases e : o.k = 10
 ·rw [if_pos e]
  split
  ·exact ⟨h.M.stm _ _ _ hb.1 hb.2, h.c, h.v⟩
  ·exact h
 rw [if_neg e]; clear e
 by_cases e : o.k = 11
 ·rw [if_pos e]; exact h
 rw [if_neg e]; clear e
 by_cases e : o.k = 12
 ·rw [if_pos e]; exact h
 rw [if_neg e]; clear e
 by_cases e : o.k = 13
 ·rw [if_pos e]; exact h
 rw [if_neg e]; clear e
 by_cases e : o.k = 14
 ·rw [if_pos e]; exact h
 rw [if_neg e]; clear e
 by_cases e : o.k = 15
 ·rw [if_pos e]; exact h
 rw [if_neg e]; clear e
 by_cases e : o.k = 16
 ·rw [if_pos e]; exact h
 rw [if_neg e]; clear e
 exact h.set _ _ (valV_bd _ _ _ _ _ _ k0 k1 ha.1 ha.2 hb.1 hb.2 hc.1 hc.2)
end Go.Proofs.YtcjcmnnhmajocabGreat.Ev
