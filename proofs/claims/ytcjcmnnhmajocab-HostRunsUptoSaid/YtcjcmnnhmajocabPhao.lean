/- A context in a box; the result's cells. -/
import Derived.Deep.RegionWith
import Derived.Deep.DeepCutAuto
import Derived.Test.YtcjcmnnhmajocabPhaa
import Derived.Test.YtcjcmnnhmajocabPhab
import Derived.Test.YtcjcmnnhmajocabPhad
import Derived.Test.YtcjcmnnhmajocabPhae
import Derived.Test.YtcjcmnnhmajocabPhak
import Derived.Test.YtcjcmnnhmajocabPhan
set_option linter.unusedVariables false
set_option linter.unusedSimpArgs false
set_option maxRecDepth 100000
set_option maxHeartbeats 16000000
namespace Go.Proofs.Ytcjcmnnhmajocab.Ev
open Go.RowKit Kt Me Fl
theorem rm_lt {P : RP} {M : MM} {W : World} (h : RM P M W) {i : Nat} (hi : P.has i) : i < W.heap.size := by
 rcases hi with e | e | e | e | e
 ·rw [e]; exact h.lq
 ·rw [e]; exact h.lb
 ·rw [e]; exact h.lr
 ·rw [e]; exact h.lm
 ·rw [e]; exact h.lt
theorem loads_any (o : Int) (w : World) (o0 : 0 ≤ o) (o1 : o < 5) : Calls Try.prog 166 #[.int .i64 o] w fun e w' => e = .returned (.int .i64 (ldn o)) ∧ w = w' := by
 rcases (show o = 0 ∨ o = 1 ∨ o = 2 ∨ o = 3 ∨ o = 4 by omega) with rfl | rfl | rfl | rfl | rfl
 all_goals
  go_enter Try.func166, Try.ntmps166
  go_wp2_with fail
 ·change Oper.upon _ _ _ _ _ (.ok (.value (.int .i64 1)) _); go_wp2; go_ret; exact ⟨rfl, rfl⟩
 ·change Oper.upon _ _ _ _ _ (.ok (.value (.int .i64 1)) _); go_wp2; go_ret; exact ⟨rfl, rfl⟩
 ·change Oper.upon _ _ _ _ _ (.ok (.value (.int .i64 2)) _); go_wp2; go_ret; exact ⟨rfl, rfl⟩
 ·change Oper.upon _ _ _ _ _ (.ok (.value (.int .i64 2)) _); go_wp2; go_ret; exact ⟨rfl, rfl⟩
 ·change Oper.upon _ _ _ _ _ (.ok (.value (.int .i64 4)) _); go_wp2; go_ret; exact ⟨rfl, rfl⟩
theorem stores_any (o : Int) (w : World) (o0 : 0 ≤ o) (o1 : o < 3) : Calls Try.prog 169 #[.int .i64 o] w fun e w' => e = .returned (.int .i64 (stn o)) ∧ w = w' := by
 rcases (show o = 0 ∨ o = 1 ∨ o = 2 by omega) with rfl | rfl | rfl
 all_goals
  go_enter Try.func169, Try.ntmps169
  go_wp2_with fail
 ·change Oper.upon _ _ _ _ _ (.ok (.value (.int .i64 1)) _); go_wp2; go_ret; exact ⟨rfl, rfl⟩
 ·change Oper.upon _ _ _ _ _ (.ok (.value (.int .i64 2)) _); go_wp2; go_ret; exact ⟨rfl, rfl⟩
 ·change Oper.upon _ _ _ _ _ (.ok (.value (.int .i64 4)) _); go_wp2; go_ret; exact ⟨rfl, rfl⟩
theorem ld_0 (p : Nat) (M : MM) (a : Int) (w : World) (h : HC p M w) (hM : MOk M) (a0 : 0 ≤ a) (a1 : a < 4294967296) :
  Calls Try.prog 113 #[.pointer (some ⟨p, 0, none⟩), .int .i64 0, .int .u32 a] w fun e w' => e = .returned (.tuple #[.int .u32 (wid 0 (ldv M a 1)), stpV 5 (srch M 1 a (1 : Int).toNat)]) ∧ Below w.heap.size w w' := by
 have CL := fun w h => load_any p M a 1 w h hM a0 a1 (by omega)
 have VB := ldv_bd hM a 1
 have ew : wid 0 (ldv M a 1) = ldv M a 1 := rfl
 rw [ew]
 rw [St.stpV_eq]
 simp only [St.stpV_eq] at CL
 generalize ldv M a 1 = v at CL VB ⊢
 generalize St.stK 5 (srch M 1 a (1 : Int).toNat) = kk at CL ⊢
 generalize St.stX (srch M 1 a (1 : Int).toNat) = xx at CL ⊢
 have CL := κ CL
 have CS0 : ∀ w, Calls Try.prog 166 #[.int .i64 0] w fun e w' => e = .returned (.int .i64 1) ∧ w = w' := fun w => loads_any 0 w (by decide) (by decide)
 have CU := κ (fun (k : Int) (hk : 0 ≤ k ∧ k < 7) w => un_any k v w hk.1 hk.2 VB.1 VB.2)
 have u0 := (Upto.refl (fun _ => False) w).alloc (.cells #[.int .i64 0, .int .u32 0] 46)
 have HH := κ (h.upto u0 id)
 have kb := KB.new w 0 0 46
 have b0 : Below w.heap.size w (w.alloc (.cells #[.int .i64 0, .int .u32 0] 46)) := (Below.refl _ _).alloc (Nat.le_refl _) _
 clear h ew u0
 go_enter Try.func113, Try.ntmps113
 go_upto_region 1 with fail
 generalize w.alloc (.cells #[.int .i64 0, .int .u32 0] 46) = WA at HH kb b0 ⊢
 have KA := κ kb
 clear kb
 go_upto_region 7 with (first
  | (go_at_call 166; (with_reducible refine (CS0 _).mono ?_); rintro e w2 ⟨rfl, rfl⟩)
  | (go_at_call 165; (with_reducible refine (CL.out _ (by first | exact HH.out | exact HH.out.upto ((Upto.refl (fun _ => False) WA).alloc _) id)).mono ?_); rintro e w1 ⟨rfl, b1⟩; have ub : Upto (fun _ => False) WA w1 := (by first | exact Upto.of_below b1 | exact ((Upto.refl _ WA).alloc _).trans (Upto.of_below b1)); have lA := KA.out.l; have bb := κ (b0.trans (ub.below b0.size (fun _ _ => id))); have K1 := κ (KA.out.upto ub id); have lw := Nat.lt_of_lt_of_le lA ub.size; clear b1 ub)
  | (go_at_call 167; (with_reducible refine (CU.out _ (by decide) _).mono ?_); rintro e w2 ⟨rfl, rfl⟩))
 have tn := KB.new w1 kk xx 46
 have un := (Upto.refl (fun _ => False) w1).alloc (.cells #[.int .i64 kk, .int .u32 xx] 46)
 have R2 := K1.out.upto un id
 have B2 := κ (bb.out.trans (un.below bb.out.size (fun _ _ => id)))
 generalize w1.alloc (.cells #[.int .i64 kk, .int .u32 xx] 46) = W2 at tn un R2 B2 ⊢
 clear un
 have nb : ¬ w1.heap.size = w.heap.size := by omega
 have nb' : ¬ w.heap.size = w1.heap.size := by omega
 have t0 := tn.c0
 have t1 := tn.c1
 have r0 := R2.c0
 have r1 := R2.c1
 have z0 := R2.z 0
 have z1 := R2.z 1
 have lr := R2.l
 have R2 := κ R2
 clear tn
 go_region
 clear t0 t1 r0 r1 z0 z1
 have ks := (R2.out.set kk xx)
 have bs := ((B2.out.setCell (p := ⟨w.heap.size, 0, none⟩) (Nat.le_refl _) (.int .i64 kk)).setCell (p := ⟨w.heap.size, 1, none⟩) (Nat.le_refl _) (.int .u32 xx))
 generalize (W2.setCell ⟨w.heap.size, 0, none⟩ (.int .i64 kk)).setCell ⟨w.heap.size, 1, none⟩ (.int .u32 xx) = W3 at ks bs ⊢
 have bd := bs.drew
 have g0 : W3.drew.cell? ⟨w.heap.size, 0, none⟩ = some (.int .i64 kk) := ks.c0
 have g1 : W3.drew.cell? ⟨w.heap.size, 1, none⟩ = some (.int .u32 xx) := ks.c1
 clear ks bs
 generalize W3.drew = W4 at bd g0 g1 ⊢
 go_wp2_with fail
 exact bodyPost_ret (v := .tuple #[.int .u32 (v), .agg #[.int .i64 kk, .int .u32 xx]]) (by simp [results, Try.results113, go_sem, g0, g1]) rfl ⟨rfl, bd⟩
theorem ld_1 (p : Nat) (M : MM) (a : Int) (w : World) (h : HC p M w) (hM : MOk M) (a0 : 0 ≤ a) (a1 : a < 4294967296) :
  Calls Try.prog 113 #[.pointer (some ⟨p, 0, none⟩), .int .i64 1, .int .u32 a] w fun e w' => e = .returned (.tuple #[.int .u32 (wid 1 (ldv M a 1)), stpV 5 (srch M 1 a (1 : Int).toNat)]) ∧ Below w.heap.size w w' := by
 have CL := fun w h => load_any p M a 1 w h hM a0 a1 (by omega)
 have VB := ldv_bd hM a 1
 have ew : wid 1 (ldv M a 1) = s8 (ldv M a 1) := rfl
 rw [ew]
 rw [St.stpV_eq]
 simp only [St.stpV_eq] at CL
 generalize ldv M a 1 = v at CL VB ⊢
 generalize St.stK 5 (srch M 1 a (1 : Int).toNat) = kk at CL ⊢
 generalize St.stX (srch M 1 a (1 : Int).toNat) = xx at CL ⊢
 have CL := κ CL
 have CS0 : ∀ w, Calls Try.prog 166 #[.int .i64 1] w fun e w' => e = .returned (.int .i64 1) ∧ w = w' := fun w => loads_any 1 w (by decide) (by decide)
 have CU := κ (fun (k : Int) (hk : 0 ≤ k ∧ k < 7) w => un_any k v w hk.1 hk.2 VB.1 VB.2)
 have u0 := (Upto.refl (fun _ => False) w).alloc (.cells #[.int .i64 0, .int .u32 0] 46)
 have HH := κ (h.upto u0 id)
 have kb := KB.new w 0 0 46
 have b0 : Below w.heap.size w (w.alloc (.cells #[.int .i64 0, .int .u32 0] 46)) := (Below.refl _ _).alloc (Nat.le_refl _) _
 clear h ew u0
 go_enter Try.func113, Try.ntmps113
 go_upto_region 1 with fail
 generalize w.alloc (.cells #[.int .i64 0, .int .u32 0] 46) = WA at HH kb b0 ⊢
 have KA := κ kb
 clear kb
 go_upto_region 7 with (first
  | (go_at_call 166; (with_reducible refine (CS0 _).mono ?_); rintro e w2 ⟨rfl, rfl⟩)
  | (go_at_call 165; (with_reducible refine (CL.out _ (by first | exact HH.out | exact HH.out.upto ((Upto.refl (fun _ => False) WA).alloc _) id)).mono ?_); rintro e w1 ⟨rfl, b1⟩; have ub : Upto (fun _ => False) WA w1 := (by first | exact Upto.of_below b1 | exact ((Upto.refl _ WA).alloc _).trans (Upto.of_below b1)); have lA := KA.out.l; have bb := κ (b0.trans (ub.below b0.size (fun _ _ => id))); have K1 := κ (KA.out.upto ub id); have lw := Nat.lt_of_lt_of_le lA ub.size; clear b1 ub)
  | (go_at_call 167; (with_reducible refine (CU.out _ (by decide) _).mono ?_); rintro e w2 ⟨rfl, rfl⟩))
 have tn := KB.new w1 kk xx 46
 have un := (Upto.refl (fun _ => False) w1).alloc (.cells #[.int .i64 kk, .int .u32 xx] 46)
 have R2 := K1.out.upto un id
 have B2 := κ (bb.out.trans (un.below bb.out.size (fun _ _ => id)))
 generalize w1.alloc (.cells #[.int .i64 kk, .int .u32 xx] 46) = W2 at tn un R2 B2 ⊢
 clear un
 have nb : ¬ w1.heap.size = w.heap.size := by omega
 have nb' : ¬ w.heap.size = w1.heap.size := by omega
 have t0 := tn.c0
 have t1 := tn.c1
 have r0 := R2.c0
 have r1 := R2.c1
 have z0 := R2.z 0
 have z1 := R2.z 1
 have lr := R2.l
 have R2 := κ R2
 clear tn
 go_region
 clear t0 t1 r0 r1 z0 z1
 have ks := (R2.out.set kk xx)
 have bs := ((B2.out.setCell (p := ⟨w.heap.size, 0, none⟩) (Nat.le_refl _) (.int .i64 kk)).setCell (p := ⟨w.heap.size, 1, none⟩) (Nat.le_refl _) (.int .u32 xx))
 generalize (W2.setCell ⟨w.heap.size, 0, none⟩ (.int .i64 kk)).setCell ⟨w.heap.size, 1, none⟩ (.int .u32 xx) = W3 at ks bs ⊢
 have bd := bs.drew
 have g0 : W3.drew.cell? ⟨w.heap.size, 0, none⟩ = some (.int .i64 kk) := ks.c0
 have g1 : W3.drew.cell? ⟨w.heap.size, 1, none⟩ = some (.int .u32 xx) := ks.c1
 clear ks bs
 generalize W3.drew = W4 at bd g0 g1 ⊢
 go_wp2_with fail
 exact bodyPost_ret (v := .tuple #[.int .u32 (unV 2 v), .agg #[.int .i64 kk, .int .u32 xx]]) (by simp [results, Try.results113, go_sem, g0, g1]) rfl ⟨rfl, bd⟩
theorem ld_2 (p : Nat) (M : MM) (a : Int) (w : World) (h : HC p M w) (hM : MOk M) (a0 : 0 ≤ a) (a1 : a < 4294967296) :
  Calls Try.prog 113 #[.pointer (some ⟨p, 0, none⟩), .int .i64 2, .int .u32 a] w fun e w' => e = .returned (.tuple #[.int .u32 (wid 2 (ldv M a 2)), stpV 5 (srch M 1 a (2 : Int).toNat)]) ∧ Below w.heap.size w w' := by
 have CL := fun w h => load_any p M a 2 w h hM a0 a1 (by omega)
 have VB := ldv_bd hM a 2
 have ew : wid 2 (ldv M a 2) = ldv M a 2 := rfl
 rw [ew]
 rw [St.stpV_eq]
 simp only [St.stpV_eq] at CL
 generalize ldv M a 2 = v at CL VB ⊢
 generalize St.stK 5 (srch M 1 a (2 : Int).toNat) = kk at CL ⊢
 generalize St.stX (srch M 1 a (2 : Int).toNat) = xx at CL ⊢
 have CL := κ CL
 have CS0 : ∀ w, Calls Try.prog 166 #[.int .i64 2] w fun e w' => e = .returned (.int .i64 2) ∧ w = w' := fun w => loads_any 2 w (by decide) (by decide)
 have CU := κ (fun (k : Int) (hk : 0 ≤ k ∧ k < 7) w => un_any k v w hk.1 hk.2 VB.1 VB.2)
 have u0 := (Upto.refl (fun _ => False) w).alloc (.cells #[.int .i64 0, .int .u32 0] 46)
 have HH := κ (h.upto u0 id)
 have kb := KB.new w 0 0 46
 have b0 : Below w.heap.size w (w.alloc (.cells #[.int .i64 0, .int .u32 0] 46)) := (Below.refl _ _).alloc (Nat.le_refl _) _
 clear h ew u0
 go_enter Try.func113, Try.ntmps113
 go_upto_region 1 with fail
 generalize w.alloc (.cells #[.int .i64 0, .int .u32 0] 46) = WA at HH kb b0 ⊢
 have KA := κ kb
 clear kb
 go_upto_region 7 with (first
  | (go_at_call 166; (with_reducible refine (CS0 _).mono ?_); rintro e w2 ⟨rfl, rfl⟩)
  | (go_at_call 165; (with_reducible refine (CL.out _ (by first | exact HH.out | exact HH.out.upto ((Upto.refl (fun _ => False) WA).alloc _) id)).mono ?_); rintro e w1 ⟨rfl, b1⟩; have ub : Upto (fun _ => False) WA w1 := (by first | exact Upto.of_below b1 | exact ((Upto.refl _ WA).alloc _).trans (Upto.of_below b1)); have lA := KA.out.l; have bb := κ (b0.trans (ub.below b0.size (fun _ _ => id))); have K1 := κ (KA.out.upto ub id); have lw := Nat.lt_of_lt_of_le lA ub.size; clear b1 ub)
  | (go_at_call 167; (with_reducible refine (CU.out _ (by decide) _).mono ?_); rintro e w2 ⟨rfl, rfl⟩))
 have tn := KB.new w1 kk xx 46
 have un := (Upto.refl (fun _ => False) w1).alloc (.cells #[.int .i64 kk, .int .u32 xx] 46)
 have R2 := K1.out.upto un id
 have B2 := κ (bb.out.trans (un.below bb.out.size (fun _ _ => id)))
 generalize w1.alloc (.cells #[.int .i64 kk, .int .u32 xx] 46) = W2 at tn un R2 B2 ⊢
 clear un
 have nb : ¬ w1.heap.size = w.heap.size := by omega
 have nb' : ¬ w.heap.size = w1.heap.size := by omega
 have t0 := tn.c0
 have t1 := tn.c1
 have r0 := R2.c0
 have r1 := R2.c1
 have z0 := R2.z 0
 have z1 := R2.z 1
 have lr := R2.l
 have R2 := κ R2
 clear tn
 go_region
 clear t0 t1 r0 r1 z0 z1
 have ks := (R2.out.set kk xx)
 have bs := ((B2.out.setCell (p := ⟨w.heap.size, 0, none⟩) (Nat.le_refl _) (.int .i64 kk)).setCell (p := ⟨w.heap.size, 1, none⟩) (Nat.le_refl _) (.int .u32 xx))
 generalize (W2.setCell ⟨w.heap.size, 0, none⟩ (.int .i64 kk)).setCell ⟨w.heap.size, 1, none⟩ (.int .u32 xx) = W3 at ks bs ⊢
 have bd := bs.drew
 have g0 : W3.drew.cell? ⟨w.heap.size, 0, none⟩ = some (.int .i64 kk) := ks.c0
 have g1 : W3.drew.cell? ⟨w.heap.size, 1, none⟩ = some (.int .u32 xx) := ks.c1
 clear ks bs
 generalize W3.drew = W4 at bd g0 g1 ⊢
 go_wp2_with fail
 exact bodyPost_ret (v := .tuple #[.int .u32 (v), .agg #[.int .i64 kk, .int .u32 xx]]) (by simp [results, Try.results113, go_sem, g0, g1]) rfl ⟨rfl, bd⟩
theorem ld_3 (p : Nat) (M : MM) (a : Int) (w : World) (h : HC p M w) (hM : MOk M) (a0 : 0 ≤ a) (a1 : a < 4294967296) :
  Calls Try.prog 113 #[.pointer (some ⟨p, 0, none⟩), .int .i64 3, .int .u32 a] w fun e w' => e = .returned (.tuple #[.int .u32 (wid 3 (ldv M a 2)), stpV 5 (srch M 1 a (2 : Int).toNat)]) ∧ Below w.heap.size w w' := by
 have CL := fun w h => load_any p M a 2 w h hM a0 a1 (by omega)
 have VB := ldv_bd hM a 2
 have ew : wid 3 (ldv M a 2) = s16 (ldv M a 2) := rfl
 rw [ew]
 rw [St.stpV_eq]
 simp only [St.stpV_eq] at CL
 generalize ldv M a 2 = v at CL VB ⊢
 generalize St.stK 5 (srch M 1 a (2 : Int).toNat) = kk at CL ⊢
 generalize St.stX (srch M 1 a (2 : Int).toNat) = xx at CL ⊢
 have CL := κ CL
 have CS0 : ∀ w, Calls Try.prog 166 #[.int .i64 3] w fun e w' => e = .returned (.int .i64 2) ∧ w = w' := fun w => loads_any 3 w (by decide) (by decide)
 have CU := κ (fun (k : Int) (hk : 0 ≤ k ∧ k < 7) w => un_any k v w hk.1 hk.2 VB.1 VB.2)
 have u0 := (Upto.refl (fun _ => False) w).alloc (.cells #[.int .i64 0, .int .u32 0] 46)
 have HH := κ (h.upto u0 id)
 have kb := KB.new w 0 0 46
 have b0 : Below w.heap.size w (w.alloc (.cells #[.int .i64 0, .int .u32 0] 46)) := (Below.refl _ _).alloc (Nat.le_refl _) _
 clear h ew u0
 go_enter Try.func113, Try.ntmps113
 go_upto_region 1 with fail
 generalize w.alloc (.cells #[.int .i64 0, .int .u32 0] 46) = WA at HH kb b0 ⊢
 have KA := κ kb
 clear kb
 go_upto_region 7 with (first
  | (go_at_call 166; (with_reducible refine (CS0 _).mono ?_); rintro e w2 ⟨rfl, rfl⟩)
  | (go_at_call 165; (with_reducible refine (CL.out _ (by first | exact HH.out | exact HH.out.upto ((Upto.refl (fun _ => False) WA).alloc _) id)).mono ?_); rintro e w1 ⟨rfl, b1⟩; have ub : Upto (fun _ => False) WA w1 := (by first | exact Upto.of_below b1 | exact ((Upto.refl _ WA).alloc _).trans (Upto.of_below b1)); have lA := KA.out.l; have bb := κ (b0.trans (ub.below b0.size (fun _ _ => id))); have K1 := κ (KA.out.upto ub id); have lw := Nat.lt_of_lt_of_le lA ub.size; clear b1 ub)
  | (go_at_call 167; (with_reducible refine (CU.out _ (by decide) _).mono ?_); rintro e w2 ⟨rfl, rfl⟩))
 have tn := KB.new w1 kk xx 46
 have un := (Upto.refl (fun _ => False) w1).alloc (.cells #[.int .i64 kk, .int .u32 xx] 46)
 have R2 := K1.out.upto un id
 have B2 := κ (bb.out.trans (un.below bb.out.size (fun _ _ => id)))
 generalize w1.alloc (.cells #[.int .i64 kk, .int .u32 xx] 46) = W2 at tn un R2 B2 ⊢
 clear un
 have nb : ¬ w1.heap.size = w.heap.size := by omega
 have nb' : ¬ w.heap.size = w1.heap.size := by omega
 have t0 := tn.c0
 have t1 := tn.c1
 have r0 := R2.c0
 have r1 := R2.c1
 have z0 := R2.z 0
 have z1 := R2.z 1
 have lr := R2.l
 have R2 := κ R2
 clear tn
 go_region
 clear t0 t1 r0 r1 z0 z1
 have ks := (R2.out.set kk xx)
 have bs := ((B2.out.setCell (p := ⟨w.heap.size, 0, none⟩) (Nat.le_refl _) (.int .i64 kk)).setCell (p := ⟨w.heap.size, 1, none⟩) (Nat.le_refl _) (.int .u32 xx))
 generalize (W2.setCell ⟨w.heap.size, 0, none⟩ (.int .i64 kk)).setCell ⟨w.heap.size, 1, none⟩ (.int .u32 xx) = W3 at ks bs ⊢
 have bd := bs.drew
 have g0 : W3.drew.cell? ⟨w.heap.size, 0, none⟩ = some (.int .i64 kk) := ks.c0
 have g1 : W3.drew.cell? ⟨w.heap.size, 1, none⟩ = some (.int .u32 xx) := ks.c1
 clear ks bs
 generalize W3.drew = W4 at bd g0 g1 ⊢
 go_wp2_with fail
 exact bodyPost_ret (v := .tuple #[.int .u32 (unV 3 v), .agg #[.int .i64 kk, .int .u32 xx]]) (by simp [results, Try.results113, go_sem, g0, g1]) rfl ⟨rfl, bd⟩
theorem ld_4 (p : Nat) (M : MM) (a : Int) (w : World) (h : HC p M w) (hM : MOk M) (a0 : 0 ≤ a) (a1 : a < 4294967296) :
  Calls Try.prog 113 #[.pointer (some ⟨p, 0, none⟩), .int .i64 4, .int .u32 a] w fun e w' => e = .returned (.tuple #[.int .u32 (wid 4 (ldv M a 4)), stpV 5 (srch M 1 a (4 : Int).toNat)]) ∧ Below w.heap.size w w' := by
 have CL := fun w h => load_any p M a 4 w h hM a0 a1 (by omega)
 have VB := ldv_bd hM a 4
 have ew : wid 4 (ldv M a 4) = ldv M a 4 := rfl
 rw [ew]
 rw [St.stpV_eq]
 simp only [St.stpV_eq] at CL
 generalize ldv M a 4 = v at CL VB ⊢
 generalize St.stK 5 (srch M 1 a (4 : Int).toNat) = kk at CL ⊢
 generalize St.stX (srch M 1 a (4 : Int).toNat) = xx at CL ⊢
 have CL := κ CL
 have CS0 : ∀ w, Calls Try.prog 166 #[.int .i64 4] w fun e w' => e = .returned (.int .i64 4) ∧ w = w' := fun w => loads_any 4 w (by decide) (by decide)
 have CU := κ (fun (k : Int) (hk : 0 ≤ k ∧ k < 7) w => un_any k v w hk.1 hk.2 VB.1 VB.2)
 have u0 := (Upto.refl (fun _ => False) w).alloc (.cells #[.int .i64 0, .int .u32 0] 46)
 have HH := κ (h.upto u0 id)
 have kb := KB.new w 0 0 46
 have b0 : Below w.heap.size w (w.alloc (.cells #[.int .i64 0, .int .u32 0] 46)) := (Below.refl _ _).alloc (Nat.le_refl _) _
 clear h ew u0
 go_enter Try.func113, Try.ntmps113
 go_upto_region 1 with fail
 generalize w.alloc (.cells #[.int .i64 0, .int .u32 0] 46) = WA at HH kb b0 ⊢
 have KA := κ kb
 clear kb
 go_upto_region 7 with (first
  | (go_at_call 166; (with_reducible refine (CS0 _).mono ?_); rintro e w2 ⟨rfl, rfl⟩)
  | (go_at_call 165; (with_reducible refine (CL.out _ (by first | exact HH.out | exact HH.out.upto ((Upto.refl (fun _ => False) WA).alloc _) id)).mono ?_); rintro e w1 ⟨rfl, b1⟩; have ub : Upto (fun _ => False) WA w1 := (by first | exact Upto.of_below b1 | exact ((Upto.refl _ WA).alloc _).trans (Upto.of_below b1)); have lA := KA.out.l; have bb := κ (b0.trans (ub.below b0.size (fun _ _ => id))); have K1 := κ (KA.out.upto ub id); have lw := Nat.lt_of_lt_of_le lA ub.size; clear b1 ub)
  | (go_at_call 167; (with_reducible refine (CU.out _ (by decide) _).mono ?_); rintro e w2 ⟨rfl, rfl⟩))
 have tn := KB.new w1 kk xx 46
 have un := (Upto.refl (fun _ => False) w1).alloc (.cells #[.int .i64 kk, .int .u32 xx] 46)
 have R2 := K1.out.upto un id
 have B2 := κ (bb.out.trans (un.below bb.out.size (fun _ _ => id)))
 generalize w1.alloc (.cells #[.int .i64 kk, .int .u32 xx] 46) = W2 at tn un R2 B2 ⊢
 clear un
 have nb : ¬ w1.heap.size = w.heap.size := by omega
 have nb' : ¬ w.heap.size = w1.heap.size := by omega
 have t0 := tn.c0
 have t1 := tn.c1
 have r0 := R2.c0
 have r1 := R2.c1
 have z0 := R2.z 0
 have z1 := R2.z 1
 have lr := R2.l
 have R2 := κ R2
 clear tn
 go_region
 clear t0 t1 r0 r1 z0 z1
 have ks := (R2.out.set kk xx)
 have bs := ((B2.out.setCell (p := ⟨w.heap.size, 0, none⟩) (Nat.le_refl _) (.int .i64 kk)).setCell (p := ⟨w.heap.size, 1, none⟩) (Nat.le_refl _) (.int .u32 xx))
 generalize (W2.setCell ⟨w.heap.size, 0, none⟩ (.int .i64 kk)).setCell ⟨w.heap.size, 1, none⟩ (.int .u32 xx) = W3 at ks bs ⊢
 have bd := bs.drew
 have g0 : W3.drew.cell? ⟨w.heap.size, 0, none⟩ = some (.int .i64 kk) := ks.c0
 have g1 : W3.drew.cell? ⟨w.heap.size, 1, none⟩ = some (.int .u32 xx) := ks.c1
 clear ks bs
 generalize W3.drew = W4 at bd g0 g1 ⊢
 go_wp2_with fail
 exact bodyPost_ret (v := .tuple #[.int .u32 (v), .agg #[.int .i64 kk, .int .u32 xx]]) (by simp [results, Try.results113, go_sem, g0, g1]) rfl ⟨rfl, bd⟩
theorem st_0 (p : Nat) (M : MM) (a v : Int) (w : World) (h : HC p M w) (hM : MOk M) (a0 : 0 ≤ a) (a1 : a < 4294967296) (v0 : 0 ≤ v) (v1 : v < 4294967296) :
  Calls Try.prog 115 #[.pointer (some ⟨p, 0, none⟩), .int .i64 0, .int .u32 a, .int .u32 v] w fun e w' => e = .returned (stpV 6 (sto M a 1)) ∧ HC p (stm M a 1 v) w' ∧ Upto (fun i => i = p) w w' := by
 have CL := fun w h => store_any p M a 1 v w h hM a0 a1 v0 v1
 have hlt : ¬ (fun i => i = p) w.heap.size := fun hx => by have l : p < w.heap.size := h.2.2.2.2.2.2; have e : w.heap.size = p := hx; omega
 rw [St.stpV_eq]
 simp only [St.stpV_eq] at CL
 generalize St.stK 6 (sto M a 1) = kk at CL ⊢
 generalize St.stX (sto M a 1) = xx at CL ⊢
 generalize stm M a 1 v = M' at CL ⊢
 have CL := κ CL
 have CS0 : ∀ w, Calls Try.prog 169 #[.int .i64 0] w fun e w' => e = .returned (.int .i64 1) ∧ w = w' := fun w => stores_any 0 w (by decide) (by decide)
 have u0 := (Upto.refl (fun _ => False) w).alloc (.cells #[.int .i64 0, .int .u32 0] 46)
 have HH := κ (h.upto u0 id)
 have kb := KB.new w 0 0 46
 have U0 := κ (u0.mono (T := (fun i => i = p)) fun _ _ h => h.elim)
 clear h u0
 go_enter Try.func115, Try.ntmps115
 go_upto_region 1 with fail
 generalize w.alloc (.cells #[.int .i64 0, .int .u32 0] 46) = WA at HH kb U0 ⊢
 have KA := κ kb
 have lA := kb.l
 have z0 := kb.z 0
 have z1 := kb.z 1
 clear kb
 go_wp2_with (first
  | (go_at_call 169; (with_reducible refine (CS0 _).mono ?_); rintro e w2 ⟨rfl, rfl⟩)
  | (go_at_call 168; (with_reducible refine (CL.out _ (by first | exact HH.out | exact HH.out.upto ((Upto.refl (fun _ => False) WA).alloc _) id)).mono ?_); rintro e w1 ⟨rfl, m1, u1⟩; have ub : Upto (fun i => i = p) WA w1 := (by first | exact u1 | exact ((Upto.refl _ WA).alloc _).trans u1); have M1 := κ m1; have U1 := κ (U0.out.trans ub); have K1 := κ (KA.out.upto ub hlt); have r0 := K1.out.c0; have r1 := K1.out.c1; have z0 := K1.out.z 0; have z1 := K1.out.z 1; have lw := K1.out.l; clear m1 u1 ub))
 have ks := (K1.out.set kk xx)
 have vs := (Upto.refl (fun i => i = w.heap.size) w1).setCell (q := ⟨w.heap.size, 0, none⟩) (.inl rfl) (.int .i64 kk)
 have vs := vs.setCell (q := ⟨w.heap.size, 1, none⟩) (.inl rfl) (.int .u32 xx)
 have ms := M1.out.upto vs (fun e => hlt e.symm)
 have us := (U1.out.setCell (q := ⟨w.heap.size, 0, none⟩) (.inr (Nat.le_refl _)) (.int .i64 kk)).setCell (q := ⟨w.heap.size, 1, none⟩) (.inr (Nat.le_refl _)) (.int .u32 xx)
 clear r0 r1 z0 z1 vs
 have g0 := ks.c0
 have g1 := ks.c1
 generalize (w1.setCell ⟨w.heap.size, 0, none⟩ (.int .i64 kk)).setCell ⟨w.heap.size, 1, none⟩ (.int .u32 xx) = W3 at ks ms us g0 g1 ⊢
 exact bodyPost_ret (v := .agg #[.int .i64 kk, .int .u32 xx]) (by simp [results, Try.results115, go_sem, g0, g1]) rfl ⟨rfl, ms, us⟩
theorem st_1 (p : Nat) (M : MM) (a v : Int) (w : World) (h : HC p M w) (hM : MOk M) (a0 : 0 ≤ a) (a1 : a < 4294967296) (v0 : 0 ≤ v) (v1 : v < 4294967296) :
  Calls Try.prog 115 #[.pointer (some ⟨p, 0, none⟩), .int .i64 1, .int .u32 a, .int .u32 v] w fun e w' => e = .returned (stpV 6 (sto M a 2)) ∧ HC p (stm M a 2 v) w' ∧ Upto (fun i => i = p) w w' := by
 have CL := fun w h => store_any p M a 2 v w h hM a0 a1 v0 v1
 have hlt : ¬ (fun i => i = p) w.heap.size := fun hx => by have l : p < w.heap.size := h.2.2.2.2.2.2; have e : w.heap.size = p := hx; omega
 rw [St.stpV_eq]
 simp only [St.stpV_eq] at CL
 generalize St.stK 6 (sto M a 2) = kk at CL ⊢
 generalize St.stX (sto M a 2) = xx at CL ⊢
 generalize stm M a 2 v = M' at CL ⊢
 have CL := κ CL
 have CS0 : ∀ w, Calls Try.prog 169 #[.int .i64 1] w fun e w' => e = .returned (.int .i64 2) ∧ w = w' := fun w => stores_any 1 w (by decide) (by decide)
 have u0 := (Upto.refl (fun _ => False) w).alloc (.cells #[.int .i64 0, .int .u32 0] 46)
 have HH := κ (h.upto u0 id)
 have kb := KB.new w 0 0 46
 have U0 := κ (u0.mono (T := (fun i => i = p)) fun _ _ h => h.elim)
 clear h u0
 go_enter Try.func115, Try.ntmps115
 go_upto_region 1 with fail
 generalize w.alloc (.cells #[.int .i64 0, .int .u32 0] 46) = WA at HH kb U0 ⊢
 have KA := κ kb
 have lA := kb.l
 have z0 := kb.z 0
 have z1 := kb.z 1
 clear kb
 go_wp2_with (first
  | (go_at_call 169; (with_reducible refine (CS0 _).mono ?_); rintro e w2 ⟨rfl, rfl⟩)
  | (go_at_call 168; (with_reducible refine (CL.out _ (by first | exact HH.out | exact HH.out.upto ((Upto.refl (fun _ => False) WA).alloc _) id)).mono ?_); rintro e w1 ⟨rfl, m1, u1⟩; have ub : Upto (fun i => i = p) WA w1 := (by first | exact u1 | exact ((Upto.refl _ WA).alloc _).trans u1); have M1 := κ m1; have U1 := κ (U0.out.trans ub); have K1 := κ (KA.out.upto ub hlt); have r0 := K1.out.c0; have r1 := K1.out.c1; have z0 := K1.out.z 0; have z1 := K1.out.z 1; have lw := K1.out.l; clear m1 u1 ub))
 have ks := (K1.out.set kk xx)
 have vs := (Upto.refl (fun i => i = w.heap.size) w1).setCell (q := ⟨w.heap.size, 0, none⟩) (.inl rfl) (.int .i64 kk)
 have vs := vs.setCell (q := ⟨w.heap.size, 1, none⟩) (.inl rfl) (.int .u32 xx)
 have ms := M1.out.upto vs (fun e => hlt e.symm)
 have us := (U1.out.setCell (q := ⟨w.heap.size, 0, none⟩) (.inr (Nat.le_refl _)) (.int .i64 kk)).setCell (q := ⟨w.heap.size, 1, none⟩) (.inr (Nat.le_refl _)) (.int .u32 xx)
 clear r0 r1 z0 z1 vs
 have g0 := ks.c0
 have g1 := ks.c1
 generalize (w1.setCell ⟨w.heap.size, 0, none⟩ (.int .i64 kk)).setCell ⟨w.heap.size, 1, none⟩ (.int .u32 xx) = W3 at ks ms us g0 g1 ⊢
 exact bodyPost_ret (v := .agg #[.int .i64 kk, .int .u32 xx]) (by simp [results, Try.results115, go_sem, g0, g1]) rfl ⟨rfl, ms, us⟩
theorem st_2 (p : Nat) (M : MM) (a v : Int) (w : World) (h : HC p M w) (hM : MOk M) (a0 : 0 ≤ a) (a1 : a < 4294967296) (v0 : 0 ≤ v) (v1 : v < 4294967296) :
  Calls Try.prog 115 #[.pointer (some ⟨p, 0, none⟩), .int .i64 2, .int .u32 a, .int .u32 v] w fun e w' => e = .returned (stpV 6 (sto M a 4)) ∧ HC p (stm M a 4 v) w' ∧ Upto (fun i => i = p) w w' := by
 have CL := fun w h => store_any p M a 4 v w h hM a0 a1 v0 v1
 have hlt : ¬ (fun i => i = p) w.heap.size := fun hx => by have l : p < w.heap.size := h.2.2.2.2.2.2; have e : w.heap.size = p := hx; omega
 rw [St.stpV_eq]
 simp only [St.stpV_eq] at CL
 generalize St.stK 6 (sto M a 4) = kk at CL ⊢
 generalize St.stX (sto M a 4) = xx at CL ⊢
 generalize stm M a 4 v = M' at CL ⊢
 have CL := κ CL
 have CS0 : ∀ w, Calls Try.prog 169 #[.int .i64 2] w fun e w' => e = .returned (.int .i64 4) ∧ w = w' := fun w => stores_any 2 w (by decide) (by decide)
 have u0 := (Upto.refl (fun _ => False) w).alloc (.cells #[.int .i64 0, .int .u32 0] 46)
 have HH := κ (h.upto u0 id)
 have kb := KB.new w 0 0 46
 have U0 := κ (u0.mono (T := (fun i => i = p)) fun _ _ h => h.elim)
 clear h u0
 go_enter Try.func115, Try.ntmps115
 go_upto_region 1 with fail
 generalize w.alloc (.cells #[.int .i64 0, .int .u32 0] 46) = WA at HH kb U0 ⊢
 have KA := κ kb
 have lA := kb.l
 have z0 := kb.z 0
 have z1 := kb.z 1
 clear kb
 go_wp2_with (first
  | (go_at_call 169; (with_reducible refine (CS0 _).mono ?_); rintro e w2 ⟨rfl, rfl⟩)
  | (go_at_call 168; (with_reducible refine (CL.out _ (by first | exact HH.out | exact HH.out.upto ((Upto.refl (fun _ => False) WA).alloc _) id)).mono ?_); rintro e w1 ⟨rfl, m1, u1⟩; have ub : Upto (fun i => i = p) WA w1 := (by first | exact u1 | exact ((Upto.refl _ WA).alloc _).trans u1); have M1 := κ m1; have U1 := κ (U0.out.trans ub); have K1 := κ (KA.out.upto ub hlt); have r0 := K1.out.c0; have r1 := K1.out.c1; have z0 := K1.out.z 0; have z1 := K1.out.z 1; have lw := K1.out.l; clear m1 u1 ub))
 have ks := (K1.out.set kk xx)
 have vs := (Upto.refl (fun i => i = w.heap.size) w1).setCell (q := ⟨w.heap.size, 0, none⟩) (.inl rfl) (.int .i64 kk)
 have vs := vs.setCell (q := ⟨w.heap.size, 1, none⟩) (.inl rfl) (.int .u32 xx)
 have ms := M1.out.upto vs (fun e => hlt e.symm)
 have us := (U1.out.setCell (q := ⟨w.heap.size, 0, none⟩) (.inr (Nat.le_refl _)) (.int .i64 kk)).setCell (q := ⟨w.heap.size, 1, none⟩) (.inr (Nat.le_refl _)) (.int .u32 xx)
 clear r0 r1 z0 z1 vs
 have g0 := ks.c0
 have g1 := ks.c1
 generalize (w1.setCell ⟨w.heap.size, 0, none⟩ (.int .i64 kk)).setCell ⟨w.heap.size, 1, none⟩ (.int .u32 xx) = W3 at ks ms us g0 g1 ⊢
 exact bodyPost_ret (v := .agg #[.int .i64 kk, .int .u32 xx]) (by simp [results, Try.results115, go_sem, g0, g1]) rfl ⟨rfl, ms, us⟩
theorem rld_0 (P : RP) (M : MM) (a : Int) (w : World) (h : RM P M w) (hM : MOk M) (a0 : 0 ≤ a) (a1 : a < 4294967296) :
  Calls Try.prog 62 #[.pointer (some ⟨P.q, 0, none⟩), .int .i64 0, .int .u32 a] w fun e w' => e = .returned (.tuple #[.int .u32 (wid 0 (ldv M a 1)), stpV 5 (srch M 1 a (1 : Int).toNat)]) ∧ Below w.heap.size w w' := by
 have CL := fun w h => rload_any P M a 1 w h hM a0 a1 (by omega)
 have VB := ldv_bd hM a 1
 have ew : wid 0 (ldv M a 1) = ldv M a 1 := rfl
 rw [ew]
 rw [St.stpV_eq]
 simp only [St.stpV_eq] at CL
 generalize ldv M a 1 = v at CL VB ⊢
 generalize St.stK 5 (srch M 1 a (1 : Int).toNat) = kk at CL ⊢
 generalize St.stX (srch M 1 a (1 : Int).toNat) = xx at CL ⊢
 have CL := κ CL
 have CU := κ (fun (k : Int) (hk : 0 ≤ k ∧ k < 7) w => run_any k v w hk.1 hk.2 VB.1 VB.2)
 have u0 := (Upto.refl (fun _ => False) w).alloc (.cells #[.int .i64 0, .int .u32 0] 46)
 have HH := κ (h.upto u0 (fun _ _ => id))
 have kb := KB.new w 0 0 46
 have b0 : Below w.heap.size w (w.alloc (.cells #[.int .i64 0, .int .u32 0] 46)) := (Below.refl _ _).alloc (Nat.le_refl _) _
 clear h ew u0
 go_enter Try.func62, Try.ntmps62
 go_upto_region 1 with fail
 generalize w.alloc (.cells #[.int .i64 0, .int .u32 0] 46) = WA at HH kb b0 ⊢
 have KA := κ kb
 clear kb
 go_upto_region 6 with (first
  | (go_at_call 105; (with_reducible refine (CL.out _ (by first | exact HH.out | exact HH.out.upto ((Upto.refl (fun _ => False) WA).alloc _) (fun _ _ => id))).mono ?_); rintro e w1 ⟨rfl, b1⟩; have ub : Upto (fun _ => False) WA w1 := (by first | exact Upto.of_below b1 | exact ((Upto.refl _ WA).alloc _).trans (Upto.of_below b1)); have lA := KA.out.l; have bb := κ (b0.trans (ub.below b0.size (fun _ _ => id))); have K1 := κ (KA.out.upto ub id); have lw := Nat.lt_of_lt_of_le lA ub.size; clear b1 ub)
  | (go_at_call 106; (with_reducible refine (CU.out _ (by decide) _).mono ?_); rintro e w2 ⟨rfl, rfl⟩))
 have tn := KB.new w1 kk xx 46
 have un := (Upto.refl (fun _ => False) w1).alloc (.cells #[.int .i64 kk, .int .u32 xx] 46)
 have R2 := K1.out.upto un id
 have B2 := κ (bb.out.trans (un.below bb.out.size (fun _ _ => id)))
 generalize w1.alloc (.cells #[.int .i64 kk, .int .u32 xx] 46) = W2 at tn un R2 B2 ⊢
 clear un
 have nb : ¬ w1.heap.size = w.heap.size := by omega
 have nb' : ¬ w.heap.size = w1.heap.size := by omega
 have t0 := tn.c0
 have t1 := tn.c1
 have r0 := R2.c0
 have r1 := R2.c1
 have z0 := R2.z 0
 have z1 := R2.z 1
 have lr := R2.l
 have R2 := κ R2
 clear tn
 go_region
 clear t0 t1 r0 r1 z0 z1
 have ks := (R2.out.set kk xx)
 have bs := ((B2.out.setCell (p := ⟨w.heap.size, 0, none⟩) (Nat.le_refl _) (.int .i64 kk)).setCell (p := ⟨w.heap.size, 1, none⟩) (Nat.le_refl _) (.int .u32 xx))
 generalize (W2.setCell ⟨w.heap.size, 0, none⟩ (.int .i64 kk)).setCell ⟨w.heap.size, 1, none⟩ (.int .u32 xx) = W3 at ks bs ⊢
 have bd := bs.drew
 have g0 : W3.drew.cell? ⟨w.heap.size, 0, none⟩ = some (.int .i64 kk) := ks.c0
 have g1 : W3.drew.cell? ⟨w.heap.size, 1, none⟩ = some (.int .u32 xx) := ks.c1
 clear ks bs
 generalize W3.drew = W4 at bd g0 g1 ⊢
 go_wp2_with fail
 exact bodyPost_ret (v := .tuple #[.int .u32 (v), .agg #[.int .i64 kk, .int .u32 xx]]) (by simp [results, Try.results62, go_sem, g0, g1]) rfl ⟨rfl, bd⟩
theorem rld_1 (P : RP) (M : MM) (a : Int) (w : World) (h : RM P M w) (hM : MOk M) (a0 : 0 ≤ a) (a1 : a < 4294967296) :
  Calls Try.prog 62 #[.pointer (some ⟨P.q, 0, none⟩), .int .i64 1, .int .u32 a] w fun e w' => e = .returned (.tuple #[.int .u32 (wid 1 (ldv M a 1)), stpV 5 (srch M 1 a (1 : Int).toNat)]) ∧ Below w.heap.size w w' := by
 have CL := fun w h => rload_any P M a 1 w h hM a0 a1 (by omega)
 have VB := ldv_bd hM a 1
 have ew : wid 1 (ldv M a 1) = s8 (ldv M a 1) := rfl
 rw [ew]
 rw [St.stpV_eq]
 simp only [St.stpV_eq] at CL
 generalize ldv M a 1 = v at CL VB ⊢
 generalize St.stK 5 (srch M 1 a (1 : Int).toNat) = kk at CL ⊢
 generalize St.stX (srch M 1 a (1 : Int).toNat) = xx at CL ⊢
 have CL := κ CL
 have CU := κ (fun (k : Int) (hk : 0 ≤ k ∧ k < 7) w => run_any k v w hk.1 hk.2 VB.1 VB.2)
 have u0 := (Upto.refl (fun _ => False) w).alloc (.cells #[.int .i64 0, .int .u32 0] 46)
 have HH := κ (h.upto u0 (fun _ _ => id))
 have kb := KB.new w 0 0 46
 have b0 : Below w.heap.size w (w.alloc (.cells #[.int .i64 0, .int .u32 0] 46)) := (Below.refl _ _).alloc (Nat.le_refl _) _
 clear h ew u0
 go_enter Try.func62, Try.ntmps62
 go_upto_region 1 with fail
 generalize w.alloc (.cells #[.int .i64 0, .int .u32 0] 46) = WA at HH kb b0 ⊢
 have KA := κ kb
 clear kb
 go_upto_region 6 with (first
  | (go_at_call 105; (with_reducible refine (CL.out _ (by first | exact HH.out | exact HH.out.upto ((Upto.refl (fun _ => False) WA).alloc _) (fun _ _ => id))).mono ?_); rintro e w1 ⟨rfl, b1⟩; have ub : Upto (fun _ => False) WA w1 := (by first | exact Upto.of_below b1 | exact ((Upto.refl _ WA).alloc _).trans (Upto.of_below b1)); have lA := KA.out.l; have bb := κ (b0.trans (ub.below b0.size (fun _ _ => id))); have K1 := κ (KA.out.upto ub id); have lw := Nat.lt_of_lt_of_le lA ub.size; clear b1 ub)
  | (go_at_call 106; (with_reducible refine (CU.out _ (by decide) _).mono ?_); rintro e w2 ⟨rfl, rfl⟩))
 have tn := KB.new w1 kk xx 46
 have un := (Upto.refl (fun _ => False) w1).alloc (.cells #[.int .i64 kk, .int .u32 xx] 46)
 have R2 := K1.out.upto un id
 have B2 := κ (bb.out.trans (un.below bb.out.size (fun _ _ => id)))
 generalize w1.alloc (.cells #[.int .i64 kk, .int .u32 xx] 46) = W2 at tn un R2 B2 ⊢
 clear un
 have nb : ¬ w1.heap.size = w.heap.size := by omega
 have nb' : ¬ w.heap.size = w1.heap.size := by omega
 have t0 := tn.c0
 have t1 := tn.c1
 have r0 := R2.c0
 have r1 := R2.c1
 have z0 := R2.z 0
 have z1 := R2.z 1
 have lr := R2.l
 have R2 := κ R2
 clear tn
 go_region
 clear t0 t1 r0 r1 z0 z1
 have ks := (R2.out.set kk xx)
 have bs := ((B2.out.setCell (p := ⟨w.heap.size, 0, none⟩) (Nat.le_refl _) (.int .i64 kk)).setCell (p := ⟨w.heap.size, 1, none⟩) (Nat.le_refl _) (.int .u32 xx))
 generalize (W2.setCell ⟨w.heap.size, 0, none⟩ (.int .i64 kk)).setCell ⟨w.heap.size, 1, none⟩ (.int .u32 xx) = W3 at ks bs ⊢
 have bd := bs.drew
 have g0 : W3.drew.cell? ⟨w.heap.size, 0, none⟩ = some (.int .i64 kk) := ks.c0
 have g1 : W3.drew.cell? ⟨w.heap.size, 1, none⟩ = some (.int .u32 xx) := ks.c1
 clear ks bs
 generalize W3.drew = W4 at bd g0 g1 ⊢
 go_wp2_with fail
 exact bodyPost_ret (v := .tuple #[.int .u32 (unV 2 v), .agg #[.int .i64 kk, .int .u32 xx]]) (by simp [results, Try.results62, go_sem, g0, g1]) rfl ⟨rfl, bd⟩
theorem rld_2 (P : RP) (M : MM) (a : Int) (w : World) (h : RM P M w) (hM : MOk M) (a0 : 0 ≤ a) (a1 : a < 4294967296) :
  Calls Try.prog 62 #[.pointer (some ⟨P.q, 0, none⟩), .int .i64 2, .int .u32 a] w fun e w' => e = .returned (.tuple #[.int .u32 (wid 2 (ldv M a 2)), stpV 5 (srch M 1 a (2 : Int).toNat)]) ∧ Below w.heap.size w w' := by
 have CL := fun w h => rload_any P M a 2 w h hM a0 a1 (by omega)
 have VB := ldv_bd hM a 2
 have ew : wid 2 (ldv M a 2) = ldv M a 2 := rfl
 rw [ew]
 rw [St.stpV_eq]
 simp only [St.stpV_eq] at CL
 generalize ldv M a 2 = v at CL VB ⊢
 generalize St.stK 5 (srch M 1 a (2 : Int).toNat) = kk at CL ⊢
 generalize St.stX (srch M 1 a (2 : Int).toNat) = xx at CL ⊢
 have CL := κ CL
 have CU := κ (fun (k : Int) (hk : 0 ≤ k ∧ k < 7) w => run_any k v w hk.1 hk.2 VB.1 VB.2)
 have u0 := (Upto.refl (fun _ => False) w).alloc (.cells #[.int .i64 0, .int .u32 0] 46)
 have HH := κ (h.upto u0 (fun _ _ => id))
 have kb := KB.new w 0 0 46
 have b0 : Below w.heap.size w (w.alloc (.cells #[.int .i64 0, .int .u32 0] 46)) := (Below.refl _ _).alloc (Nat.le_refl _) _
 clear h ew u0
 go_enter Try.func62, Try.ntmps62
 go_upto_region 1 with fail
 generalize w.alloc (.cells #[.int .i64 0, .int .u32 0] 46) = WA at HH kb b0 ⊢
 have KA := κ kb
 clear kb
 go_upto_region 6 with (first
  | (go_at_call 105; (with_reducible refine (CL.out _ (by first | exact HH.out | exact HH.out.upto ((Upto.refl (fun _ => False) WA).alloc _) (fun _ _ => id))).mono ?_); rintro e w1 ⟨rfl, b1⟩; have ub : Upto (fun _ => False) WA w1 := (by first | exact Upto.of_below b1 | exact ((Upto.refl _ WA).alloc _).trans (Upto.of_below b1)); have lA := KA.out.l; have bb := κ (b0.trans (ub.below b0.size (fun _ _ => id))); have K1 := κ (KA.out.upto ub id); have lw := Nat.lt_of_lt_of_le lA ub.size; clear b1 ub)
  | (go_at_call 106; (with_reducible refine (CU.out _ (by decide) _).mono ?_); rintro e w2 ⟨rfl, rfl⟩))
 have tn := KB.new w1 kk xx 46
 have un := (Upto.refl (fun _ => False) w1).alloc (.cells #[.int .i64 kk, .int .u32 xx] 46)
 have R2 := K1.out.upto un id
 have B2 := κ (bb.out.trans (un.below bb.out.size (fun _ _ => id)))
 generalize w1.alloc (.cells #[.int .i64 kk, .int .u32 xx] 46) = W2 at tn un R2 B2 ⊢
 clear un
 have nb : ¬ w1.heap.size = w.heap.size := by omega
 have nb' : ¬ w.heap.size = w1.heap.size := by omega
 have t0 := tn.c0
 have t1 := tn.c1
 have r0 := R2.c0
 have r1 := R2.c1
 have z0 := R2.z 0
 have z1 := R2.z 1
 have lr := R2.l
 have R2 := κ R2
 clear tn
 go_region
 clear t0 t1 r0 r1 z0 z1
 have ks := (R2.out.set kk xx)
 have bs := ((B2.out.setCell (p := ⟨w.heap.size, 0, none⟩) (Nat.le_refl _) (.int .i64 kk)).setCell (p := ⟨w.heap.size, 1, none⟩) (Nat.le_refl _) (.int .u32 xx))
 generalize (W2.setCell ⟨w.heap.size, 0, none⟩ (.int .i64 kk)).setCell ⟨w.heap.size, 1, none⟩ (.int .u32 xx) = W3 at ks bs ⊢
 have bd := bs.drew
 have g0 : W3.drew.cell? ⟨w.heap.size, 0, none⟩ = some (.int .i64 kk) := ks.c0
 have g1 : W3.drew.cell? ⟨w.heap.size, 1, none⟩ = some (.int .u32 xx) := ks.c1
 clear ks bs
 generalize W3.drew = W4 at bd g0 g1 ⊢
 go_wp2_with fail
 exact bodyPost_ret (v := .tuple #[.int .u32 (v), .agg #[.int .i64 kk, .int .u32 xx]]) (by simp [results, Try.results62, go_sem, g0, g1]) rfl ⟨rfl, bd⟩
theorem rld_3 (P : RP) (M : MM) (a : Int) (w : World) (h : RM P M w) (hM : MOk M) (a0 : 0 ≤ a) (a1 : a < 4294967296) :
  Calls Try.prog 62 #[.pointer (some ⟨P.q, 0, none⟩), .int .i64 3, .int .u32 a] w fun e w' => e = .returned (.tuple #[.int .u32 (wid 3 (ldv M a 2)), stpV 5 (srch M 1 a (2 : Int).toNat)]) ∧ Below w.heap.size w w' := by
 have CL := fun w h => rload_any P M a 2 w h hM a0 a1 (by omega)
 have VB := ldv_bd hM a 2
 have ew : wid 3 (ldv M a 2) = s16 (ldv M a 2) := rfl
 rw [ew]
 rw [St.stpV_eq]
 simp only [St.stpV_eq] at CL
 generalize ldv M a 2 = v at CL VB ⊢
 generalize St.stK 5 (srch M 1 a (2 : Int).toNat) = kk at CL ⊢
 generalize St.stX (srch M 1 a (2 : Int).toNat) = xx at CL ⊢
 have CL := κ CL
 have CU := κ (fun (k : Int) (hk : 0 ≤ k ∧ k < 7) w => run_any k v w hk.1 hk.2 VB.1 VB.2)
 have u0 := (Upto.refl (fun _ => False) w).alloc (.cells #[.int .i64 0, .int .u32 0] 46)
 have HH := κ (h.upto u0 (fun _ _ => id))
 have kb := KB.new w 0 0 46
 have b0 : Below w.heap.size w (w.alloc (.cells #[.int .i64 0, .int .u32 0] 46)) := (Below.refl _ _).alloc (Nat.le_refl _) _
 clear h ew u0
 go_enter Try.func62, Try.ntmps62
 go_upto_region 1 with fail
 generalize w.alloc (.cells #[.int .i64 0, .int .u32 0] 46) = WA at HH kb b0 ⊢
 have KA := κ kb
 clear kb
 go_upto_region 6 with (first
  | (go_at_call 105; (with_reducible refine (CL.out _ (by first | exact HH.out | exact HH.out.upto ((Upto.refl (fun _ => False) WA).alloc _) (fun _ _ => id))).mono ?_); rintro e w1 ⟨rfl, b1⟩; have ub : Upto (fun _ => False) WA w1 := (by first | exact Upto.of_below b1 | exact ((Upto.refl _ WA).alloc _).trans (Upto.of_below b1)); have lA := KA.out.l; have bb := κ (b0.trans (ub.below b0.size (fun _ _ => id))); have K1 := κ (KA.out.upto ub id); have lw := Nat.lt_of_lt_of_le lA ub.size; clear b1 ub)
  | (go_at_call 106; (with_reducible refine (CU.out _ (by decide) _).mono ?_); rintro e w2 ⟨rfl, rfl⟩))
 have tn := KB.new w1 kk xx 46
 have un := (Upto.refl (fun _ => False) w1).alloc (.cells #[.int .i64 kk, .int .u32 xx] 46)
 have R2 := K1.out.upto un id
 have B2 := κ (bb.out.trans (un.below bb.out.size (fun _ _ => id)))
 generalize w1.alloc (.cells #[.int .i64 kk, .int .u32 xx] 46) = W2 at tn un R2 B2 ⊢
 clear un
 have nb : ¬ w1.heap.size = w.heap.size := by omega
 have nb' : ¬ w.heap.size = w1.heap.size := by omega
 have t0 := tn.c0
 have t1 := tn.c1
 have r0 := R2.c0
 have r1 := R2.c1
 have z0 := R2.z 0
 have z1 := R2.z 1
 have lr := R2.l
 have R2 := κ R2
 clear tn
 go_region
 clear t0 t1 r0 r1 z0 z1
 have ks := (R2.out.set kk xx)
 have bs := ((B2.out.setCell (p := ⟨w.heap.size, 0, none⟩) (Nat.le_refl _) (.int .i64 kk)).setCell (p := ⟨w.heap.size, 1, none⟩) (Nat.le_refl _) (.int .u32 xx))
 generalize (W2.setCell ⟨w.heap.size, 0, none⟩ (.int .i64 kk)).setCell ⟨w.heap.size, 1, none⟩ (.int .u32 xx) = W3 at ks bs ⊢
 have bd := bs.drew
 have g0 : W3.drew.cell? ⟨w.heap.size, 0, none⟩ = some (.int .i64 kk) := ks.c0
 have g1 : W3.drew.cell? ⟨w.heap.size, 1, none⟩ = some (.int .u32 xx) := ks.c1
 clear ks bs
 generalize W3.drew = W4 at bd g0 g1 ⊢
 go_wp2_with fail
 exact bodyPost_ret (v := .tuple #[.int .u32 (unV 3 v), .agg #[.int .i64 kk, .int .u32 xx]]) (by simp [results, Try.results62, go_sem, g0, g1]) rfl ⟨rfl, bd⟩
theorem rld_4 (P : RP) (M : MM) (a : Int) (w : World) (h : RM P M w) (hM : MOk M) (a0 : 0 ≤ a) (a1 : a < 4294967296) :
  Calls Try.prog 62 #[.pointer (some ⟨P.q, 0, none⟩), .int .i64 4, .int .u32 a] w fun e w' => e = .returned (.tuple #[.int .u32 (wid 4 (ldv M a 4)), stpV 5 (srch M 1 a (4 : Int).toNat)]) ∧ Below w.heap.size w w' := by
 have CL := fun w h => rload_any P M a 4 w h hM a0 a1 (by omega)
 have VB := ldv_bd hM a 4
 have ew : wid 4 (ldv M a 4) = ldv M a 4 := rfl
 rw [ew]
 rw [St.stpV_eq]
 simp only [St.stpV_eq] at CL
 generalize ldv M a 4 = v at CL VB ⊢
 generalize St.stK 5 (srch M 1 a (4 : Int).toNat) = kk at CL ⊢
 generalize St.stX (srch M 1 a (4 : Int).toNat) = xx at CL ⊢
 have CL := κ CL
 have CU := κ (fun (k : Int) (hk : 0 ≤ k ∧ k < 7) w => run_any k v w hk.1 hk.2 VB.1 VB.2)
 have u0 := (Upto.refl (fun _ => False) w).alloc (.cells #[.int .i64 0, .int .u32 0] 46)
 have HH := κ (h.upto u0 (fun _ _ => id))
 have kb := KB.new w 0 0 46
 have b0 : Below w.heap.size w (w.alloc (.cells #[.int .i64 0, .int .u32 0] 46)) := (Below.refl _ _).alloc (Nat.le_refl _) _
 clear h ew u0
 go_enter Try.func62, Try.ntmps62
 go_upto_region 1 with fail
 generalize w.alloc (.cells #[.int .i64 0, .int .u32 0] 46) = WA at HH kb b0 ⊢
 have KA := κ kb
 clear kb
 go_upto_region 6 with (first
  | (go_at_call 105; (with_reducible refine (CL.out _ (by first | exact HH.out | exact HH.out.upto ((Upto.refl (fun _ => False) WA).alloc _) (fun _ _ => id))).mono ?_); rintro e w1 ⟨rfl, b1⟩; have ub : Upto (fun _ => False) WA w1 := (by first | exact Upto.of_below b1 | exact ((Upto.refl _ WA).alloc _).trans (Upto.of_below b1)); have lA := KA.out.l; have bb := κ (b0.trans (ub.below b0.size (fun _ _ => id))); have K1 := κ (KA.out.upto ub id); have lw := Nat.lt_of_lt_of_le lA ub.size; clear b1 ub)
  | (go_at_call 106; (with_reducible refine (CU.out _ (by decide) _).mono ?_); rintro e w2 ⟨rfl, rfl⟩))
 have tn := KB.new w1 kk xx 46
 have un := (Upto.refl (fun _ => False) w1).alloc (.cells #[.int .i64 kk, .int .u32 xx] 46)
 have R2 := K1.out.upto un id
 have B2 := κ (bb.out.trans (un.below bb.out.size (fun _ _ => id)))
 generalize w1.alloc (.cells #[.int .i64 kk, .int .u32 xx] 46) = W2 at tn un R2 B2 ⊢
 clear un
 have nb : ¬ w1.heap.size = w.heap.size := by omega
 have nb' : ¬ w.heap.size = w1.heap.size := by omega
 have t0 := tn.c0
 have t1 := tn.c1
 have r0 := R2.c0
 have r1 := R2.c1
 have z0 := R2.z 0
 have z1 := R2.z 1
 have lr := R2.l
 have R2 := κ R2
 clear tn
 go_region
 clear t0 t1 r0 r1 z0 z1
 have ks := (R2.out.set kk xx)
 have bs := ((B2.out.setCell (p := ⟨w.heap.size, 0, none⟩) (Nat.le_refl _) (.int .i64 kk)).setCell (p := ⟨w.heap.size, 1, none⟩) (Nat.le_refl _) (.int .u32 xx))
 generalize (W2.setCell ⟨w.heap.size, 0, none⟩ (.int .i64 kk)).setCell ⟨w.heap.size, 1, none⟩ (.int .u32 xx) = W3 at ks bs ⊢
 have bd := bs.drew
 have g0 : W3.drew.cell? ⟨w.heap.size, 0, none⟩ = some (.int .i64 kk) := ks.c0
 have g1 : W3.drew.cell? ⟨w.heap.size, 1, none⟩ = some (.int .u32 xx) := ks.c1
 clear ks bs
 generalize W3.drew = W4 at bd g0 g1 ⊢
 go_wp2_with fail
 exact bodyPost_ret (v := .tuple #[.int .u32 (v), .agg #[.int .i64 kk, .int .u32 xx]]) (by simp [results, Try.results62, go_sem, g0, g1]) rfl ⟨rfl, bd⟩
theorem rst_0 (P : RP) (M : MM) (a v : Int) (w : World) (h : RM P M w) (hM : MOk M) (a0 : 0 ≤ a) (a1 : a < 4294967296) (v0 : 0 ≤ v) (v1 : v < 4294967296) :
  Calls Try.prog 63 #[.pointer (some ⟨P.q, 0, none⟩), .int .i64 0, .int .u32 a, .int .u32 v] w fun e w' => e = .returned (stpV 6 (sto M a 1)) ∧ RM P (stm M a 1 v) w' ∧ Upto P.has w w' := by
 have CL := fun w h => rstore_any P M a 1 v w h hM a0 a1 v0 v1
 have hlt : ¬ P.has w.heap.size := fun hx => Nat.lt_irrefl _ (rm_lt h hx)
 rw [St.stpV_eq]
 simp only [St.stpV_eq] at CL
 generalize St.stK 6 (sto M a 1) = kk at CL ⊢
 generalize St.stX (sto M a 1) = xx at CL ⊢
 generalize stm M a 1 v = M' at CL ⊢
 have CL := κ CL
 have u0 := (Upto.refl (fun _ => False) w).alloc (.cells #[.int .i64 0, .int .u32 0] 46)
 have HH := κ (h.upto u0 (fun _ _ => id))
 have kb := KB.new w 0 0 46
 have U0 := κ (u0.mono (T := P.has) fun _ _ h => h.elim)
 clear h u0
 go_enter Try.func63, Try.ntmps63
 go_upto_region 1 with fail
 generalize w.alloc (.cells #[.int .i64 0, .int .u32 0] 46) = WA at HH kb U0 ⊢
 have KA := κ kb
 have lA := kb.l
 have z0 := kb.z 0
 have z1 := kb.z 1
 clear kb
 go_wp2_with (first
  | (go_at_call 107; (with_reducible refine (CL.out _ (by first | exact HH.out | exact HH.out.upto ((Upto.refl (fun _ => False) WA).alloc _) (fun _ _ => id))).mono ?_); rintro e w1 ⟨rfl, m1, u1⟩; have ub : Upto P.has WA w1 := (by first | exact u1 | exact ((Upto.refl _ WA).alloc _).trans u1); have M1 := κ m1; have U1 := κ (U0.out.trans ub); have K1 := κ (KA.out.upto ub hlt); have r0 := K1.out.c0; have r1 := K1.out.c1; have z0 := K1.out.z 0; have z1 := K1.out.z 1; have lw := K1.out.l; clear m1 u1 ub))
 have ks := (K1.out.set kk xx)
 have vs := (Upto.refl (fun i => i = w.heap.size) w1).setCell (q := ⟨w.heap.size, 0, none⟩) (.inl rfl) (.int .i64 kk)
 have vs := vs.setCell (q := ⟨w.heap.size, 1, none⟩) (.inl rfl) (.int .u32 xx)
 have ms := M1.out.upto vs (fun k hk e => hlt (e ▸ hk))
 have us := (U1.out.setCell (q := ⟨w.heap.size, 0, none⟩) (.inr (Nat.le_refl _)) (.int .i64 kk)).setCell (q := ⟨w.heap.size, 1, none⟩) (.inr (Nat.le_refl _)) (.int .u32 xx)
 clear r0 r1 z0 z1 vs
 have g0 := ks.c0
 have g1 := ks.c1
 generalize (w1.setCell ⟨w.heap.size, 0, none⟩ (.int .i64 kk)).setCell ⟨w.heap.size, 1, none⟩ (.int .u32 xx) = W3 at ks ms us g0 g1 ⊢
 exact bodyPost_ret (v := .agg #[.int .i64 kk, .int .u32 xx]) (by simp [results, Try.results63, go_sem, g0, g1]) rfl ⟨rfl, ms, us⟩
theorem rst_1 (P : RP) (M : MM) (a v : Int) (w : World) (h : RM P M w) (hM : MOk M) (a0 : 0 ≤ a) (a1 : a < 4294967296) (v0 : 0 ≤ v) (v1 : v < 4294967296) :
  Calls Try.prog 63 #[.pointer (some ⟨P.q, 0, none⟩), .int .i64 1, .int .u32 a, .int .u32 v] w fun e w' => e = .returned (stpV 6 (sto M a 2)) ∧ RM P (stm M a 2 v) w' ∧ Upto P.has w w' := by
 have CL := fun w h => rstore_any P M a 2 v w h hM a0 a1 v0 v1
 have hlt : ¬ P.has w.heap.size := fun hx => Nat.lt_irrefl _ (rm_lt h hx)
 rw [St.stpV_eq]
 simp only [St.stpV_eq] at CL
 generalize St.stK 6 (sto M a 2) = kk at CL ⊢
 generalize St.stX (sto M a 2) = xx at CL ⊢
 generalize stm M a 2 v = M' at CL ⊢
 have CL := κ CL
 have u0 := (Upto.refl (fun _ => False) w).alloc (.cells #[.int .i64 0, .int .u32 0] 46)
 have HH := κ (h.upto u0 (fun _ _ => id))
 have kb := KB.new w 0 0 46
 have U0 := κ (u0.mono (T := P.has) fun _ _ h => h.elim)
 clear h u0
 go_enter Try.func63, Try.ntmps63
 go_upto_region 1 with fail
 generalize w.alloc (.cells #[.int .i64 0, .int .u32 0] 46) = WA at HH kb U0 ⊢
 have KA := κ kb
 have lA := kb.l
 have z0 := kb.z 0
 have z1 := kb.z 1
 clear kb
 go_wp2_with (first
  | (go_at_call 107; (with_reducible refine (CL.out _ (by first | exact HH.out | exact HH.out.upto ((Upto.refl (fun _ => False) WA).alloc _) (fun _ _ => id))).mono ?_); rintro e w1 ⟨rfl, m1, u1⟩; have ub : Upto P.has WA w1 := (by first | exact u1 | exact ((Upto.refl _ WA).alloc _).trans u1); have M1 := κ m1; have U1 := κ (U0.out.trans ub); have K1 := κ (KA.out.upto ub hlt); have r0 := K1.out.c0; have r1 := K1.out.c1; have z0 := K1.out.z 0; have z1 := K1.out.z 1; have lw := K1.out.l; clear m1 u1 ub))
 have ks := (K1.out.set kk xx)
 have vs := (Upto.refl (fun i => i = w.heap.size) w1).setCell (q := ⟨w.heap.size, 0, none⟩) (.inl rfl) (.int .i64 kk)
 have vs := vs.setCell (q := ⟨w.heap.size, 1, none⟩) (.inl rfl) (.int .u32 xx)
 have ms := M1.out.upto vs (fun k hk e => hlt (e ▸ hk))
 have us := (U1.out.setCell (q := ⟨w.heap.size, 0, none⟩) (.inr (Nat.le_refl _)) (.int .i64 kk)).setCell (q := ⟨w.heap.size, 1, none⟩) (.inr (Nat.le_refl _)) (.int .u32 xx)
 clear r0 r1 z0 z1 vs
 have g0 := ks.c0
 have g1 := ks.c1
 generalize (w1.setCell ⟨w.heap.size, 0, none⟩ (.int .i64 kk)).setCell ⟨w.heap.size, 1, none⟩ (.int .u32 xx) = W3 at ks ms us g0 g1 ⊢
 exact bodyPost_ret (v := .agg #[.int .i64 kk, .int .u32 xx]) (by simp [results, Try.results63, go_sem, g0, g1]) rfl ⟨rfl, ms, us⟩
theorem rst_2 (P : RP) (M : MM) (a v : Int) (w : World) (h : RM P M w) (hM : MOk M) (a0 : 0 ≤ a) (a1 : a < 4294967296) (v0 : 0 ≤ v) (v1 : v < 4294967296) :
  Calls Try.prog 63 #[.pointer (some ⟨P.q, 0, none⟩), .int .i64 2, .int .u32 a, .int .u32 v] w fun e w' => e = .returned (stpV 6 (sto M a 4)) ∧ RM P (stm M a 4 v) w' ∧ Upto P.has w w' := by
 have CL := fun w h => rstore_any P M a 4 v w h hM a0 a1 v0 v1
 have hlt : ¬ P.has w.heap.size := fun hx => Nat.lt_irrefl _ (rm_lt h hx)
 rw [St.stpV_eq]
 simp only [St.stpV_eq] at CL
 generalize St.stK 6 (sto M a 4) = kk at CL ⊢
 generalize St.stX (sto M a 4) = xx at CL ⊢
 generalize stm M a 4 v = M' at CL ⊢
 have CL := κ CL
 have u0 := (Upto.refl (fun _ => False) w).alloc (.cells #[.int .i64 0, .int .u32 0] 46)
 have HH := κ (h.upto u0 (fun _ _ => id))
 have kb := KB.new w 0 0 46
 have U0 := κ (u0.mono (T := P.has) fun _ _ h => h.elim)
 clear h u0
 go_enter Try.func63, Try.ntmps63
 go_upto_region 1 with fail
 generalize w.alloc (.cells #[.int .i64 0, .int .u32 0] 46) = WA at HH kb U0 ⊢
 have KA := κ kb
 have lA := kb.l
 have z0 := kb.z 0
 have z1 := kb.z 1
 clear kb
 go_wp2_with (first
  | (go_at_call 107; (with_reducible refine (CL.out _ (by first | exact HH.out | exact HH.out.upto ((Upto.refl (fun _ => False) WA).alloc _) (fun _ _ => id))).mono ?_); rintro e w1 ⟨rfl, m1, u1⟩; have ub : Upto P.has WA w1 := (by first | exact u1 | exact ((Upto.refl _ WA).alloc _).trans u1); have M1 := κ m1; have U1 := κ (U0.out.trans ub); have K1 := κ (KA.out.upto ub hlt); have r0 := K1.out.c0; have r1 := K1.out.c1; have z0 := K1.out.z 0; have z1 := K1.out.z 1; have lw := K1.out.l; clear m1 u1 ub))
 have ks := (K1.out.set kk xx)
 have vs := (Upto.refl (fun i => i = w.heap.size) w1).setCell (q := ⟨w.heap.size, 0, none⟩) (.inl rfl) (.int .i64 kk)
 have vs := vs.setCell (q := ⟨w.heap.size, 1, none⟩) (.inl rfl) (.int .u32 xx)
 have ms := M1.out.upto vs (fun k hk e => hlt (e ▸ hk))
 have us := (U1.out.setCell (q := ⟨w.heap.size, 0, none⟩) (.inr (Nat.le_refl _)) (.int .i64 kk)).setCell (q := ⟨w.heap.size, 1, none⟩) (.inr (Nat.le_refl _)) (.int .u32 xx)
 clear r0 r1 z0 z1 vs
 have g0 := ks.c0
 have g1 := ks.c1
 generalize (w1.setCell ⟨w.heap.size, 0, none⟩ (.int .i64 kk)).setCell ⟨w.heap.size, 1, none⟩ (.int .u32 xx) = W3 at ks ms us g0 g1 ⊢
 exact bodyPost_ret (v := .agg #[.int .i64 kk, .int .u32 xx]) (by simp [results, Try.results63, go_sem, g0, g1]) rfl ⟨rfl, ms, us⟩
theorem ld_any (p : Nat) (M : MM) (j a : Int) (w : World) (h : HC p M w) (hM : MOk M) (j0 : 0 ≤ j) (j1 : j < 5) (a0 : 0 ≤ a) (a1 : a < 4294967296) :
  Calls Try.prog 113 #[.pointer (some ⟨p, 0, none⟩), .int .i64 j, .int .u32 a] w fun e w' => e = .returned (.tuple #[.int .u32 (wid j (ldv M a (ldn j))), stpV 5 (srch M 1 a (ldn j).toNat)]) ∧ Below w.heap.size w w' := by
 rcases (show j = 0 ∨ j = 1 ∨ j = 2 ∨ j = 3 ∨ j = 4 by omega) with rfl | rfl | rfl | rfl | rfl
 ·exact ld_0 p M a w h hM a0 a1
 ·exact ld_1 p M a w h hM a0 a1
 ·exact ld_2 p M a w h hM a0 a1
 ·exact ld_3 p M a w h hM a0 a1
 ·exact ld_4 p M a w h hM a0 a1
theorem rld_any (P : RP) (M : MM) (j a : Int) (w : World) (h : RM P M w) (hM : MOk M) (j0 : 0 ≤ j) (j1 : j < 5) (a0 : 0 ≤ a) (a1 : a < 4294967296) :
  Calls Try.prog 62 #[.pointer (some ⟨P.q, 0, none⟩), .int .i64 j, .int .u32 a] w fun e w' => e = .returned (.tuple #[.int .u32 (wid j (ldv M a (ldn j))), stpV 5 (srch M 1 a (ldn j).toNat)]) ∧ Below w.heap.size w w' := by
 rcases (show j = 0 ∨ j = 1 ∨ j = 2 ∨ j = 3 ∨ j = 4 by omega) with rfl | rfl | rfl | rfl | rfl
 ·exact rld_0 P M a w h hM a0 a1
 ·exact rld_1 P M a w h hM a0 a1
 ·exact rld_2 P M a w h hM a0 a1
 ·exact rld_3 P M a w h hM a0 a1
 ·exact rld_4 P M a w h hM a0 a1
theorem st_any (p : Nat) (M : MM) (j a v : Int) (w : World) (h : HC p M w) (hM : MOk M) (j0 : 0 ≤ j) (j1 : j < 3) (a0 : 0 ≤ a) (a1 : a < 4294967296) (v0 : 0 ≤ v) (v1 : v < 4294967296) :
  Calls Try.prog 115 #[.pointer (some ⟨p, 0, none⟩), .int .i64 j, .int .u32 a, .int .u32 v] w fun e w' => e = .returned (stpV 6 (sto M a (stn j))) ∧ HC p (stm M a (stn j) v) w' ∧ Upto (fun i => i = p) w w' := by
 rcases (show j = 0 ∨ j = 1 ∨ j = 2 by omega) with rfl | rfl | rfl
 ·exact st_0 p M a v w h hM a0 a1 v0 v1
 ·exact st_1 p M a v w h hM a0 a1 v0 v1
 ·exact st_2 p M a v w h hM a0 a1 v0 v1
theorem rst_any (P : RP) (M : MM) (j a v : Int) (w : World) (h : RM P M w) (hM : MOk M) (j0 : 0 ≤ j) (j1 : j < 3) (a0 : 0 ≤ a) (a1 : a < 4294967296) (v0 : 0 ≤ v) (v1 : v < 4294967296) :
  Calls Try.prog 63 #[.pointer (some ⟨P.q, 0, none⟩), .int .i64 j, .int .u32 a, .int .u32 v] w fun e w' => e = .returned (stpV 6 (sto M a (stn j))) ∧ RM P (stm M a (stn j) v) w' ∧ Upto P.has w w' := by
 rcases (show j = 0 ∨ j = 1 ∨ j = 2 by omega) with rfl | rfl | rfl
 ·exact rst_0 P M a v w h hM a0 a1 v0 v1
 ·exact rst_1 P M a v w h hM a0 a1 v0 v1
 ·exact rst_2 P M a v w h hM a0 a1 v0 v1
end Go.Proofs.Ytcjcmnnhmajocab.Ev
namespace Go.Proofs.Ytcjcmnnhmajocab.Ev
open Go.RowKit Kt Me Fl
def ctL (c : Nat → Int) : Array Value := #[.int .u32 (c 0), .int .u32 (c 1), .int .u32 (c 2), .int .u32 (c 3), .int .u32 (c 4), .int .u32 (c 5), .int .u32 (c 6), .int .u32 (c 7), .int .u32 (c 8), .int .u32 (c 9), .int .u32 (c 10), .int .u32 (c 11)]
/-- a context in a box -/
structure CB (h : Nat) (c : Nat → Int) (W : World) : Prop where
 r : ∀ j, j < 12 → W.cell? ⟨h, j, none⟩ = some (.int .u32 (c j))
 z : ∀ j, W.frozen? ⟨h, j, none⟩ = false
 l : h < W.heap.size
variable {h : Nat} {c : Nat → Int} {W W' : World}
theorem CB.upto {S : Nat → Prop} (a : CB h c W) (u : Upto S W W') (hs : ¬ S h) : CB h c W' :=
 ⟨fun j hj => (u.cell (q := ⟨h, j, none⟩) a.l hs).trans (a.r j hj), fun j => (u.frozen (q := ⟨h, j, none⟩) a.l hs).trans (a.z j), Nat.lt_of_lt_of_le a.l u.size⟩
theorem CB.drew (a : CB h c W) : CB h c W.drew := a.upto (Upto.refl (fun _ => False) W).drew id
theorem CB.new (w : World) (c : Nat → Int) (t : TypeId) : CB w.heap.size c (w.alloc (.cells (ctL c) t)) := by
 refine ⟨fun j hj => ?_, fun j => fz_new w _ _ j, by simp⟩
 rw [box_at w (ctL c) t j]
 match j, hj with
 | 0, _ | 1, _ | 2, _ | 3, _ | 4, _ | 5, _ | 6, _ | 7, _ | 8, _ | 9, _ | 10, _ | 11, _ => rfl
 | n + 12, h => omega
theorem CB.all (a : CB h c W) : W.cell? ⟨h, 0, none⟩ = some (.int .u32 (c 0)) ∧ W.cell? ⟨h, 1, none⟩ = some (.int .u32 (c 1)) ∧ W.cell? ⟨h, 2, none⟩ = some (.int .u32 (c 2)) ∧ W.cell? ⟨h, 3, none⟩ = some (.int .u32 (c 3)) ∧ W.cell? ⟨h, 4, none⟩ = some (.int .u32 (c 4)) ∧ W.cell? ⟨h, 5, none⟩ = some (.int .u32 (c 5)) ∧ W.cell? ⟨h, 6, none⟩ = some (.int .u32 (c 6)) ∧ W.cell? ⟨h, 7, none⟩ = some (.int .u32 (c 7)) ∧ W.cell? ⟨h, 8, none⟩ = some (.int .u32 (c 8)) ∧ W.cell? ⟨h, 9, none⟩ = some (.int .u32 (c 9)) ∧ W.cell? ⟨h, 10, none⟩ = some (.int .u32 (c 10)) ∧ W.cell? ⟨h, 11, none⟩ = some (.int .u32 (c 11)) :=
 ⟨a.r 0 (by omega), a.r 1 (by omega), a.r 2 (by omega), a.r 3 (by omega), a.r 4 (by omega), a.r 5 (by omega), a.r 6 (by omega), a.r 7 (by omega), a.r 8 (by omega), a.r 9 (by omega), a.r 10 (by omega), a.r 11 (by omega)⟩
theorem CB.set (a : CB h c W) (i : Nat) (hi : i < 12) (z : Int) : CB h (upd c i z) (W.setCell ⟨h, i, none⟩ (.int .u32 z)) := by
 refine ⟨fun j hj => ?_, fun j => by simpa using a.z j, by simpa using a.l⟩
 by_cases e : j = i
 ·subst e; rw [World.cell?_setCell_same _ _ _ (a.r j hj)]; simp [upd]
 ·rw [off e, a.r j hj]; simp [upd, e]
theorem CB.congr {c' : Nat → Int} (a : CB h c W) (e : ∀ j, j < 12 → c j = c' j) : CB h c' W := ⟨fun j hj => (a.r j hj).trans (by rw [e j hj]), a.z, a.l⟩
theorem CB.put (a : CB h c W) (c' : Nat → Int) : CB h c' ((((((((((((W.setCell ⟨h, 0, none⟩ (.int .u32 (c' 0))).setCell ⟨h, 1, none⟩ (.int .u32 (c' 1))).setCell ⟨h, 2, none⟩ (.int .u32 (c' 2))).setCell ⟨h, 3, none⟩ (.int .u32 (c' 3))).setCell ⟨h, 4, none⟩ (.int .u32 (c' 4))).setCell ⟨h, 5, none⟩ (.int .u32 (c' 5))).setCell ⟨h, 6, none⟩ (.int .u32 (c' 6))).setCell ⟨h, 7, none⟩ (.int .u32 (c' 7))).setCell ⟨h, 8, none⟩ (.int .u32 (c' 8))).setCell ⟨h, 9, none⟩ (.int .u32 (c' 9))).setCell ⟨h, 10, none⟩ (.int .u32 (c' 10))).setCell ⟨h, 11, none⟩ (.int .u32 (c' 11))) := by
 refine ((((((((((((a.set 0 (by omega) (c' 0)).set 1 (by omega) (c' 1)).set 2 (by omega) (c' 2)).set 3 (by omega) (c' 3)).set 4 (by omega) (c' 4)).set 5 (by omega) (c' 5)).set 6 (by omega) (c' 6)).set 7 (by omega) (c' 7)).set 8 (by omega) (c' 8)).set 9 (by omega) (c' 9)).set 10 (by omega) (c' 10)).set 11 (by omega) (c' 11)).congr fun j hj => ?_
 match j, hj with
 | 0, _ | 1, _ | 2, _ | 3, _ | 4, _ | 5, _ | 6, _ | 7, _ | 8, _ | 9, _ | 10, _ | 11, _ => simp [upd]
 | n + 12, h => omega
theorem up_put12 {S : Nat → Prop} {w W : World} (b : Upto S w W) (hh : S h ∨ w.heap.size ≤ h) (c' : Nat → Int) : Upto S w ((((((((((((W.setCell ⟨h, 0, none⟩ (.int .u32 (c' 0))).setCell ⟨h, 1, none⟩ (.int .u32 (c' 1))).setCell ⟨h, 2, none⟩ (.int .u32 (c' 2))).setCell ⟨h, 3, none⟩ (.int .u32 (c' 3))).setCell ⟨h, 4, none⟩ (.int .u32 (c' 4))).setCell ⟨h, 5, none⟩ (.int .u32 (c' 5))).setCell ⟨h, 6, none⟩ (.int .u32 (c' 6))).setCell ⟨h, 7, none⟩ (.int .u32 (c' 7))).setCell ⟨h, 8, none⟩ (.int .u32 (c' 8))).setCell ⟨h, 9, none⟩ (.int .u32 (c' 9))).setCell ⟨h, 10, none⟩ (.int .u32 (c' 10))).setCell ⟨h, 11, none⟩ (.int .u32 (c' 11))) :=
 (((((((((((b.setCell (q := ⟨h, 0, none⟩) hh (.int .u32 (c' 0))).setCell (q := ⟨h, 1, none⟩) hh (.int .u32 (c' 1))).setCell (q := ⟨h, 2, none⟩) hh (.int .u32 (c' 2))).setCell (q := ⟨h, 3, none⟩) hh (.int .u32 (c' 3))).setCell (q := ⟨h, 4, none⟩) hh (.int .u32 (c' 4))).setCell (q := ⟨h, 5, none⟩) hh (.int .u32 (c' 5))).setCell (q := ⟨h, 6, none⟩) hh (.int .u32 (c' 6))).setCell (q := ⟨h, 7, none⟩) hh (.int .u32 (c' 7))).setCell (q := ⟨h, 8, none⟩) hh (.int .u32 (c' 8))).setCell (q := ⟨h, 9, none⟩) hh (.int .u32 (c' 9))).setCell (q := ⟨h, 10, none⟩) hh (.int .u32 (c' 10))).setCell (q := ⟨h, 11, none⟩) hh (.int .u32 (c' 11))
end Go.Proofs.Ytcjcmnnhmajocab.Ev
