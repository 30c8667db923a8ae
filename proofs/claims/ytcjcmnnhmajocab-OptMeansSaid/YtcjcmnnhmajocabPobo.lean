/- Load and Store by kinds: ir's and the reference's. -/
import Derived.Deep.RegionWith
import Derived.Deep.DeepCutAuto
import Derived.Test.YtcjcmnnhmajocabPoaf
import Derived.Test.YtcjcmnnhmajocabPoag
import Derived.Test.YtcjcmnnhmajocabPoah
import Derived.Test.YtcjcmnnhmajocabPoaj
import Derived.Test.YtcjcmnnhmajocabPoan
namespace Go.Proofs.Ytcjcmnnhmajocab.Ev
open Go.RowKit Kt Me Fl
set_option linter.unusedVariables false
theorem off {W : World} {b i j : Nat} {v : Value} (hne : i ≠ j) : (W.setCell ⟨b, j, none⟩ v).cell? ⟨b, i, none⟩ = W.cell? ⟨b, i, none⟩ := St.off hne
theorem box_at (w : World) (cs : Array Value) (t : TypeId) (i : Nat) : (w.alloc (.cells cs t)).cell? ⟨w.heap.size, i, none⟩ = cs[i]? := St.box_at w cs t i
theorem fz_new (w : World) (cs : Array Value) (t : TypeId) (i : Nat) : (w.alloc (.cells cs t)).frozen? ⟨w.heap.size, i, none⟩ = false := by
  unfold World.frozen?
  rw [heap_alloc_new]; simp
/-- a stop in a box -/
structure KB (h : Nat) (k x : Int) (W : World) : Prop where
  c0 : W.cell? ⟨h, 0, none⟩ = some (.int .i64 k)
  c1 : W.cell? ⟨h, 1, none⟩ = some (.int .u32 x)
  z : ∀ i, W.frozen? ⟨h, i, none⟩ = false
  l : h < W.heap.size
theorem KB.upto {S : Nat → Prop} {h : Nat} {k x : Int} {W W' : World} (a : KB h k x W) (u : Upto S W W') (hs : ¬ S h) : KB h k x W' :=
  ⟨(u.cell (q := ⟨h, 0, none⟩) a.l hs).trans a.c0, (u.cell (q := ⟨h, 1, none⟩) a.l hs).trans a.c1, fun i => (u.frozen (q := ⟨h, i, none⟩) a.l hs).trans (a.z i), Nat.lt_of_lt_of_le a.l u.size⟩
theorem KB.set {h : Nat} {k x : Int} {W : World} (a : KB h k x W) (k' x' : Int) : KB h k' x' ((W.setCell ⟨h, 0, none⟩ (.int .i64 k')).setCell ⟨h, 1, none⟩ (.int .u32 x')) := by
  refine ⟨(off (by omega)).trans (World.cell?_setCell_same _ _ _ a.c0), World.cell?_setCell_same _ _ _ ((off (by omega)).trans a.c1), fun i => by simpa using a.z i, by simpa using a.l⟩
theorem KB.new (w : World) (k x : Int) (t : TypeId) : KB w.heap.size k x (w.alloc (.cells #[.int .i64 k, .int .u32 x] t)) :=
  ⟨box_at w _ _ 0, box_at w _ _ 1, fun i => fz_new w _ _ i, by simp⟩
end Go.Proofs.Ytcjcmnnhmajocab.Ev
namespace Go.Proofs.Ytcjcmnnhmajocab.Ev
open Go.RowKit Kt Me Fl
set_option linter.unusedVariables false
set_option linter.unusedSimpArgs false
theorem rm_lt {P : RP} {M : MM} {W : World} (h : RM P M W) {i : Nat} (hi : P.has i) : i < W.heap.size := by
  rcases hi with e | e | e | e | e
  · rw [e]; exact h.lq
  · rw [e]; exact h.lb
  · rw [e]; exact h.lr
  · rw [e]; exact h.lm
  · rw [e]; exact h.lt
set_option maxRecDepth 100000 in
set_option maxHeartbeats 4000000 in
theorem rld_0 (P : RP) (M : MM) (a : Int) (w : World) (h : RM P M w) (hM : MOk M) (a0 : 0 ≤ a) (a1 : a < 4294967296) :
    Calls Try.prog 62 #[.pointer (some ⟨P.q, 0, none⟩), .int .i64 0, .int .u32 a] w fun e w' => e = .returned (.tuple #[.int .u32 (wid 0 (ldv M a 1)), stpV 5 (srch M 1 a (1 : Int).toNat)]) ∧ Below w.heap.size w w' := by
  have CL := fun w h => rload_any P M a 1 w h hM a0 a1 (by omega)
  have VB := ldv_bd hM a 1
  have ew : wid 0 (ldv M a 1) = ldv M a 1 := rfl
  rw [ew]
  rw [St.stpV_eq]
  simp only [St.stpV_eq] at CL
  generalize ldv M a 1 = v at CL VB ⊢
  generalize St.stK 5 (srch M 1 a (1 : Int).toNat) = kk at CL ⊢
  generalize St.stX (srch M 1 a (1 : Int).toNat) = xx at CL ⊢
  have CL := Lib.hid CL
  have CU := Lib.hid (fun (k : Int) (hk : 0 ≤ k ∧ k < 7) w => run_any k v w hk.1 hk.2 VB.1 VB.2)
  have u0 := (Upto.refl (fun _ => False) w).alloc (.cells #[.int .i64 0, .int .u32 0] 46)
  have HH := Lib.hid (h.upto u0 (fun _ _ => id))
  have kb := KB.new w 0 0 46
  have b0 : Below w.heap.size w (w.alloc (.cells #[.int .i64 0, .int .u32 0] 46)) := (Below.refl _ _).alloc (Nat.le_refl _) _
  clear h ew u0
  go_enter Try.func62, Try.ntmps62
  go_upto_region 1 with fail
  generalize w.alloc (.cells #[.int .i64 0, .int .u32 0] 46) = WA at HH kb b0 ⊢
  have KA := Lib.hid kb
  clear kb
  go_upto_region 6 with (first
    | (go_at_call 105; (with_reducible refine (CL.out _ (by first | exact HH.out | exact HH.out.upto ((Upto.refl (fun _ => False) WA).alloc _) (fun _ _ => id))).mono ?_); rintro e w1 ⟨rfl, b1⟩; have ub : Upto (fun _ => False) WA w1 := (by first | exact Upto.of_below b1 | exact ((Upto.refl _ WA).alloc _).trans (Upto.of_below b1)); have lA := KA.out.l; have bb := Lib.hid (b0.trans (ub.below b0.size (fun _ _ => id))); have K1 := Lib.hid (KA.out.upto ub id); have lw := Nat.lt_of_lt_of_le lA ub.size; clear b1 ub)
    | (go_at_call 106; (with_reducible refine (CU.out _ (by decide) _).mono ?_); rintro e w2 ⟨rfl, rfl⟩))
  have tn := KB.new w1 kk xx 46
  have un := (Upto.refl (fun _ => False) w1).alloc (.cells #[.int .i64 kk, .int .u32 xx] 46)
  have R2 := K1.out.upto un id
  have B2 := Lib.hid (bb.out.trans (un.below bb.out.size (fun _ _ => id)))
  generalize w1.alloc (.cells #[.int .i64 kk, .int .u32 xx] 46) = W2 at tn un R2 B2 ⊢
  clear un
  have nb : ¬ w1.heap.size = w.heap.size := by omega
  have nb' : ¬ w.heap.size = w1.heap.size := by omega
  have t0 := tn.c0
  have t1 := tn.c1
  have r0 := R2.c0
  have r1 := R2.c1
  have z0 := R2.z 0
  have z1 := R2.z 1
  have lr := R2.l
  have R2 := Lib.hid R2
  clear tn
  go_region
  clear t0 t1 r0 r1 z0 z1
  have ks := (R2.out.set kk xx)
  have bs := ((B2.out.setCell (p := ⟨w.heap.size, 0, none⟩) (Nat.le_refl _) (.int .i64 kk)).setCell (p := ⟨w.heap.size, 1, none⟩) (Nat.le_refl _) (.int .u32 xx))
  generalize (W2.setCell ⟨w.heap.size, 0, none⟩ (.int .i64 kk)).setCell ⟨w.heap.size, 1, none⟩ (.int .u32 xx) = W3 at ks bs ⊢
  have bd := bs.drew
  have g0 : W3.drew.cell? ⟨w.heap.size, 0, none⟩ = some (.int .i64 kk) := ks.c0
  have g1 : W3.drew.cell? ⟨w.heap.size, 1, none⟩ = some (.int .u32 xx) := ks.c1
  clear ks bs
  generalize W3.drew = W4 at bd g0 g1 ⊢
  go_wp2_with fail
  exact bodyPost_ret (v := .tuple #[.int .u32 (v), .agg #[.int .i64 kk, .int .u32 xx]]) (by simp [results, Try.results62, go_sem, g0, g1]) rfl ⟨rfl, bd⟩
set_option maxRecDepth 100000 in
set_option maxHeartbeats 4000000 in
theorem rld_1 (P : RP) (M : MM) (a : Int) (w : World) (h : RM P M w) (hM : MOk M) (a0 : 0 ≤ a) (a1 : a < 4294967296) :
    Calls Try.prog 62 #[.pointer (some ⟨P.q, 0, none⟩), .int .i64 1, .int .u32 a] w fun e w' => e = .returned (.tuple #[.int .u32 (wid 1 (ldv M a 1)), stpV 5 (srch M 1 a (1 : Int).toNat)]) ∧ Below w.heap.size w w' := by
  have CL := fun w h => rload_any P M a 1 w h hM a0 a1 (by omega)
  have VB := ldv_bd hM a 1
  have ew : wid 1 (ldv M a 1) = s8 (ldv M a 1) := rfl
  rw [ew]
  rw [St.stpV_eq]
  simp only [St.stpV_eq] at CL
  generalize ldv M a 1 = v at CL VB ⊢
  generalize St.stK 5 (srch M 1 a (1 : Int).toNat) = kk at CL ⊢
  generalize St.stX (srch M 1 a (1 : Int).toNat) = xx at CL ⊢
  have CL := Lib.hid CL
  have CU := Lib.hid (fun (k : Int) (hk : 0 ≤ k ∧ k < 7) w => run_any k v w hk.1 hk.2 VB.1 VB.2)
  have u0 := (Upto.refl (fun _ => False) w).alloc (.cells #[.int .i64 0, .int .u32 0] 46)
  have HH := Lib.hid (h.upto u0 (fun _ _ => id))
  have kb := KB.new w 0 0 46
  have b0 : Below w.heap.size w (w.alloc (.cells #[.int .i64 0, .int .u32 0] 46)) := (Below.refl _ _).alloc (Nat.le_refl _) _
  clear h ew u0
  go_enter Try.func62, Try.ntmps62
  go_upto_region 1 with fail
  generalize w.alloc (.cells #[.int .i64 0, .int .u32 0] 46) = WA at HH kb b0 ⊢
  have KA := Lib.hid kb
  clear kb
  go_upto_region 6 with (first
    | (go_at_call 105; (with_reducible refine (CL.out _ (by first | exact HH.out | exact HH.out.upto ((Upto.refl (fun _ => False) WA).alloc _) (fun _ _ => id))).mono ?_); rintro e w1 ⟨rfl, b1⟩; have ub : Upto (fun _ => False) WA w1 := (by first | exact Upto.of_below b1 | exact ((Upto.refl _ WA).alloc _).trans (Upto.of_below b1)); have lA := KA.out.l; have bb := Lib.hid (b0.trans (ub.below b0.size (fun _ _ => id))); have K1 := Lib.hid (KA.out.upto ub id); have lw := Nat.lt_of_lt_of_le lA ub.size; clear b1 ub)
    | (go_at_call 106; (with_reducible refine (CU.out _ (by decide) _).mono ?_); rintro e w2 ⟨rfl, rfl⟩))
  have tn := KB.new w1 kk xx 46
  have un := (Upto.refl (fun _ => False) w1).alloc (.cells #[.int .i64 kk, .int .u32 xx] 46)
  have R2 := K1.out.upto un id
  have B2 := Lib.hid (bb.out.trans (un.below bb.out.size (fun _ _ => id)))
  generalize w1.alloc (.cells #[.int .i64 kk, .int .u32 xx] 46) = W2 at tn un R2 B2 ⊢
  clear un
  have nb : ¬ w1.heap.size = w.heap.size := by omega
  have nb' : ¬ w.heap.size = w1.heap.size := by omega
  have t0 := tn.c0
  have t1 := tn.c1
  have r0 := R2.c0
  have r1 := R2.c1
  have z0 := R2.z 0
  have z1 := R2.z 1
  have lr := R2.l
  have R2 := Lib.hid R2
  clear tn
  go_region
  clear t0 t1 r0 r1 z0 z1
  have ks := (R2.out.set kk xx)
  have bs := ((B2.out.setCell (p := ⟨w.heap.size, 0, none⟩) (Nat.le_refl _) (.int .i64 kk)).setCell (p := ⟨w.heap.size, 1, none⟩) (Nat.le_refl _) (.int .u32 xx))
  generalize (W2.setCell ⟨w.heap.size, 0, none⟩ (.int .i64 kk)).setCell ⟨w.heap.size, 1, none⟩ (.int .u32 xx) = W3 at ks bs ⊢
  have bd := bs.drew
  have g0 : W3.drew.cell? ⟨w.heap.size, 0, none⟩ = some (.int .i64 kk) := ks.c0
  have g1 : W3.drew.cell? ⟨w.heap.size, 1, none⟩ = some (.int .u32 xx) := ks.c1
  clear ks bs
  generalize W3.drew = W4 at bd g0 g1 ⊢
  go_wp2_with fail
  exact bodyPost_ret (v := .tuple #[.int .u32 (unV 2 v), .agg #[.int .i64 kk, .int .u32 xx]]) (by simp [results, Try.results62, go_sem, g0, g1]) rfl ⟨rfl, bd⟩
set_option maxRecDepth 100000 in
set_option maxHeartbeats 4000000 in
theorem rld_2 (P : RP) (M : MM) (a : Int) (w : World) (h : RM P M w) (hM : MOk M) (a0 : 0 ≤ a) (a1 : a < 4294967296) :
    Calls Try.prog 62 #[.pointer (some ⟨P.q, 0, none⟩), .int .i64 2, .int .u32 a] w fun e w' => e = .returned (.tuple #[.int .u32 (wid 2 (ldv M a 2)), stpV 5 (srch M 1 a (2 : Int).toNat)]) ∧ Below w.heap.size w w' := by
  have CL := fun w h => rload_any P M a 2 w h hM a0 a1 (by omega)
  have VB := ldv_bd hM a 2
  have ew : wid 2 (ldv M a 2) = ldv M a 2 := rfl
  rw [ew]
  rw [St.stpV_eq]
  simp only [St.stpV_eq] at CL
  generalize ldv M a 2 = v at CL VB ⊢
  generalize St.stK 5 (srch M 1 a (2 : Int).toNat) = kk at CL ⊢
  generalize St.stX (srch M 1 a (2 : Int).toNat) = xx at CL ⊢
  have CL := Lib.hid CL
  have CU := Lib.hid (fun (k : Int) (hk : 0 ≤ k ∧ k < 7) w => run_any k v w hk.1 hk.2 VB.1 VB.2)
  have u0 := (Upto.refl (fun _ => False) w).alloc (.cells #[.int .i64 0, .int .u32 0] 46)
  have HH := Lib.hid (h.upto u0 (fun _ _ => id))
  have kb := KB.new w 0 0 46
  have b0 : Below w.heap.size w (w.alloc (.cells #[.int .i64 0, .int .u32 0] 46)) := (Below.refl _ _).alloc (Nat.le_refl _) _
  clear h ew u0
  go_enter Try.func62, Try.ntmps62
  go_upto_region 1 with fail
  generalize w.alloc (.cells #[.int .i64 0, .int .u32 0] 46) = WA at HH kb b0 ⊢
  have KA := Lib.hid kb
  clear kb
  go_upto_region 6 with (first
    | (go_at_call 105; (with_reducible refine (CL.out _ (by first | exact HH.out | exact HH.out.upto ((Upto.refl (fun _ => False) WA).alloc _) (fun _ _ => id))).mono ?_); rintro e w1 ⟨rfl, b1⟩; have ub : Upto (fun _ => False) WA w1 := (by first | exact Upto.of_below b1 | exact ((Upto.refl _ WA).alloc _).trans (Upto.of_below b1)); have lA := KA.out.l; have bb := Lib.hid (b0.trans (ub.below b0.size (fun _ _ => id))); have K1 := Lib.hid (KA.out.upto ub id); have lw := Nat.lt_of_lt_of_le lA ub.size; clear b1 ub)
    | (go_at_call 106; (with_reducible refine (CU.out _ (by decide) _).mono ?_); rintro e w2 ⟨rfl, rfl⟩))
  have tn := KB.new w1 kk xx 46
  have un := (Upto.refl (fun _ => False) w1).alloc (.cells #[.int .i64 kk, .int .u32 xx] 46)
  have R2 := K1.out.upto un id
  have B2 := Lib.hid (bb.out.trans (un.below bb.out.size (fun _ _ => id)))
  generalize w1.alloc (.cells #[.int .i64 kk, .int .u32 xx] 46) = W2 at tn un R2 B2 ⊢
  clear un
  have nb : ¬ w1.heap.size = w.heap.size := by omega
  have nb' : ¬ w.heap.size = w1.heap.size := by omega
  have t0 := tn.c0
  have t1 := tn.c1
  have r0 := R2.c0
  have r1 := R2.c1
  have z0 := R2.z 0
  have z1 := R2.z 1
  have lr := R2.l
  have R2 := Lib.hid R2
  clear tn
  go_region
  clear t0 t1 r0 r1 z0 z1
  have ks := (R2.out.set kk xx)
  have bs := ((B2.out.setCell (p := ⟨w.heap.size, 0, none⟩) (Nat.le_refl _) (.int .i64 kk)).setCell (p := ⟨w.heap.size, 1, none⟩) (Nat.le_refl _) (.int .u32 xx))
  generalize (W2.setCell ⟨w.heap.size, 0, none⟩ (.int .i64 kk)).setCell ⟨w.heap.size, 1, none⟩ (.int .u32 xx) = W3 at ks bs ⊢
  have bd := bs.drew
  have g0 : W3.drew.cell? ⟨w.heap.size, 0, none⟩ = some (.int .i64 kk) := ks.c0
  have g1 : W3.drew.cell? ⟨w.heap.size, 1, none⟩ = some (.int .u32 xx) := ks.c1
  clear ks bs
  generalize W3.drew = W4 at bd g0 g1 ⊢
  go_wp2_with fail
  exact bodyPost_ret (v := .tuple #[.int .u32 (v), .agg #[.int .i64 kk, .int .u32 xx]]) (by simp [results, Try.results62, go_sem, g0, g1]) rfl ⟨rfl, bd⟩
set_option maxRecDepth 100000 in
set_option maxHeartbeats 4000000 in
theorem rld_3 (P : RP) (M : MM) (a : Int) (w : World) (h : RM P M w) (hM : MOk M) (a0 : 0 ≤ a) (a1 : a < 4294967296) :
    Calls Try.prog 62 #[.pointer (some ⟨P.q, 0, none⟩), .int .i64 3, .int .u32 a] w fun e w' => e = .returned (.tuple #[.int .u32 (wid 3 (ldv M a 2)), stpV 5 (srch M 1 a (2 : Int).toNat)]) ∧ Below w.heap.size w w' := by
  have CL := fun w h => rload_any P M a 2 w h hM a0 a1 (by omega)
  have VB := ldv_bd hM a 2
  have ew : wid 3 (ldv M a 2) = s16 (ldv M a 2) := rfl
  rw [ew]
  rw [St.stpV_eq]
  simp only [St.stpV_eq] at CL
  generalize ldv M a 2 = v at CL VB ⊢
  generalize St.stK 5 (srch M 1 a (2 : Int).toNat) = kk at CL ⊢
  generalize St.stX (srch M 1 a (2 : Int).toNat) = xx at CL ⊢
  have CL := Lib.hid CL
  have CU := Lib.hid (fun (k : Int) (hk : 0 ≤ k ∧ k < 7) w => run_any k v w hk.1 hk.2 VB.1 VB.2)
  have u0 := (Upto.refl (fun _ => False) w).alloc (.cells #[.int .i64 0, .int .u32 0] 46)
  have HH := Lib.hid (h.upto u0 (fun _ _ => id))
  have kb := KB.new w 0 0 46
  have b0 : Below w.heap.size w (w.alloc (.cells #[.int .i64 0, .int .u32 0] 46)) := (Below.refl _ _).alloc (Nat.le_refl _) _
  clear h ew u0
  go_enter Try.func62, Try.ntmps62
  go_upto_region 1 with fail
  generalize w.alloc (.cells #[.int .i64 0, .int .u32 0] 46) = WA at HH kb b0 ⊢
  have KA := Lib.hid kb
  clear kb
  go_upto_region 6 with (first
    | (go_at_call 105; (with_reducible refine (CL.out _ (by first | exact HH.out | exact HH.out.upto ((Upto.refl (fun _ => False) WA).alloc _) (fun _ _ => id))).mono ?_); rintro e w1 ⟨rfl, b1⟩; have ub : Upto (fun _ => False) WA w1 := (by first | exact Upto.of_below b1 | exact ((Upto.refl _ WA).alloc _).trans (Upto.of_below b1)); have lA := KA.out.l; have bb := Lib.hid (b0.trans (ub.below b0.size (fun _ _ => id))); have K1 := Lib.hid (KA.out.upto ub id); have lw := Nat.lt_of_lt_of_le lA ub.size; clear b1 ub)
    | (go_at_call 106; (with_reducible refine (CU.out _ (by decide) _).mono ?_); rintro e w2 ⟨rfl, rfl⟩))
  have tn := KB.new w1 kk xx 46
  have un := (Upto.refl (fun _ => False) w1).alloc (.cells #[.int .i64 kk, .int .u32 xx] 46)
  have R2 := K1.out.upto un id
  have B2 := Lib.hid (bb.out.trans (un.below bb.out.size (fun _ _ => id)))
  generalize w1.alloc (.cells #[.int .i64 kk, .int .u32 xx] 46) = W2 at tn un R2 B2 ⊢
  clear un
  have nb : ¬ w1.heap.size = w.heap.size := by omega
  have nb' : ¬ w.heap.size = w1.heap.size := by omega
  have t0 := tn.c0
  have t1 := tn.c1
  have r0 := R2.c0
  have r1 := R2.c1
  have z0 := R2.z 0
  have z1 := R2.z 1
  have lr := R2.l
  have R2 := Lib.hid R2
  clear tn
  go_region
  clear t0 t1 r0 r1 z0 z1
  have ks := (R2.out.set kk xx)
  have bs := ((B2.out.setCell (p := ⟨w.heap.size, 0, none⟩) (Nat.le_refl _) (.int .i64 kk)).setCell (p := ⟨w.heap.size, 1, none⟩) (Nat.le_refl _) (.int .u32 xx))
  generalize (W2.setCell ⟨w.heap.size, 0, none⟩ (.int .i64 kk)).setCell ⟨w.heap.size, 1, none⟩ (.int .u32 xx) = W3 at ks bs ⊢
  have bd := bs.drew
  have g0 : W3.drew.cell? ⟨w.heap.size, 0, none⟩ = some (.int .i64 kk) := ks.c0
  have g1 : W3.drew.cell? ⟨w.heap.size, 1, none⟩ = some (.int .u32 xx) := ks.c1
  clear ks bs
  generalize W3.drew = W4 at bd g0 g1 ⊢
  go_wp2_with fail
  exact bodyPost_ret (v := .tuple #[.int .u32 (unV 3 v), .agg #[.int .i64 kk, .int .u32 xx]]) (by simp [results, Try.results62, go_sem, g0, g1]) rfl ⟨rfl, bd⟩
set_option maxRecDepth 100000 in
set_option maxHeartbeats 4000000 in
theorem rld_4 (P : RP) (M : MM) (a : Int) (w : World) (h : RM P M w) (hM : MOk M) (a0 : 0 ≤ a) (a1 : a < 4294967296) :
    Calls Try.prog 62 #[.pointer (some ⟨P.q, 0, none⟩), .int .i64 4, .int .u32 a] w fun e w' => e = .returned (.tuple #[.int .u32 (wid 4 (ldv M a 4)), stpV 5 (srch M 1 a (4 : Int).toNat)]) ∧ Below w.heap.size w w' := by
  have CL := fun w h => rload_any P M a 4 w h hM a0 a1 (by omega)
  have VB := ldv_bd hM a 4
  have ew : wid 4 (ldv M a 4) = ldv M a 4 := rfl
  rw [ew]
  rw [St.stpV_eq]
  simp only [St.stpV_eq] at CL
  generalize ldv M a 4 = v at CL VB ⊢
  generalize St.stK 5 (srch M 1 a (4 : Int).toNat) = kk at CL ⊢
  generalize St.stX (srch M 1 a (4 : Int).toNat) = xx at CL ⊢
  have CL := Lib.hid CL
  have CU := Lib.hid (fun (k : Int) (hk : 0 ≤ k ∧ k < 7) w => run_any k v w hk.1 hk.2 VB.1 VB.2)
  have u0 := (Upto.refl (fun _ => False) w).alloc (.cells #[.int .i64 0, .int .u32 0] 46)
  have HH := Lib.hid (h.upto u0 (fun _ _ => id))
  have kb := KB.new w 0 0 46
  have b0 : Below w.heap.size w (w.alloc (.cells #[.int .i64 0, .int .u32 0] 46)) := (Below.refl _ _).alloc (Nat.le_refl _) _
  clear h ew u0
  go_enter Try.func62, Try.ntmps62
  go_upto_region 1 with fail
  generalize w.alloc (.cells #[.int .i64 0, .int .u32 0] 46) = WA at HH kb b0 ⊢
  have KA := Lib.hid kb
  clear kb
  go_upto_region 6 with (first
    | (go_at_call 105; (with_reducible refine (CL.out _ (by first | exact HH.out | exact HH.out.upto ((Upto.refl (fun _ => False) WA).alloc _) (fun _ _ => id))).mono ?_); rintro e w1 ⟨rfl, b1⟩; have ub : Upto (fun _ => False) WA w1 := (by first | exact Upto.of_below b1 | exact ((Upto.refl _ WA).alloc _).trans (Upto.of_below b1)); have lA := KA.out.l; have bb := Lib.hid (b0.trans (ub.below b0.size (fun _ _ => id))); have K1 := Lib.hid (KA.out.upto ub id); have lw := Nat.lt_of_lt_of_le lA ub.size; clear b1 ub)
    | (go_at_call 106; (with_reducible refine (CU.out _ (by decide) _).mono ?_); rintro e w2 ⟨rfl, rfl⟩))
  have tn := KB.new w1 kk xx 46
  have un := (Upto.refl (fun _ => False) w1).alloc (.cells #[.int .i64 kk, .int .u32 xx] 46)
  have R2 := K1.out.upto un id
  have B2 := Lib.hid (bb.out.trans (un.below bb.out.size (fun _ _ => id)))
  generalize w1.alloc (.cells #[.int .i64 kk, .int .u32 xx] 46) = W2 at tn un R2 B2 ⊢
  clear un
  have nb : ¬ w1.heap.size = w.heap.size := by omega
  have nb' : ¬ w.heap.size = w1.heap.size := by omega
  have t0 := tn.c0
  have t1 := tn.c1
  have r0 := R2.c0
  have r1 := R2.c1
  have z0 := R2.z 0
  have z1 := R2.z 1
  have lr := R2.l
  have R2 := Lib.hid R2
  clear tn
  go_region
  clear t0 t1 r0 r1 z0 z1
  have ks := (R2.out.set kk xx)
  have bs := ((B2.out.setCell (p := ⟨w.heap.size, 0, none⟩) (Nat.le_refl _) (.int .i64 kk)).setCell (p := ⟨w.heap.size, 1, none⟩) (Nat.le_refl _) (.int .u32 xx))
  generalize (W2.setCell ⟨w.heap.size, 0, none⟩ (.int .i64 kk)).setCell ⟨w.heap.size, 1, none⟩ (.int .u32 xx) = W3 at ks bs ⊢
  have bd := bs.drew
  have g0 : W3.drew.cell? ⟨w.heap.size, 0, none⟩ = some (.int .i64 kk) := ks.c0
  have g1 : W3.drew.cell? ⟨w.heap.size, 1, none⟩ = some (.int .u32 xx) := ks.c1
  clear ks bs
  generalize W3.drew = W4 at bd g0 g1 ⊢
  go_wp2_with fail
  exact bodyPost_ret (v := .tuple #[.int .u32 (v), .agg #[.int .i64 kk, .int .u32 xx]]) (by simp [results, Try.results62, go_sem, g0, g1]) rfl ⟨rfl, bd⟩
set_option maxRecDepth 100000 in
set_option maxHeartbeats 4000000 in
theorem rst_0 (P : RP) (M : MM) (a v : Int) (w : World) (h : RM P M w) (hM : MOk M) (a0 : 0 ≤ a) (a1 : a < 4294967296) (v0 : 0 ≤ v) (v1 : v < 4294967296) :
    Calls Try.prog 63 #[.pointer (some ⟨P.q, 0, none⟩), .int .i64 0, .int .u32 a, .int .u32 v] w fun e w' => e = .returned (stpV 6 (sto M a 1)) ∧ RM P (stm M a 1 v) w' ∧ Upto P.has w w' := by
  have CL := fun w h => rstore_any P M a 1 v w h hM a0 a1 v0 v1
  have hlt : ¬ P.has w.heap.size := fun hx => Nat.lt_irrefl _ (rm_lt h hx)
  rw [St.stpV_eq]
  simp only [St.stpV_eq] at CL
  generalize St.stK 6 (sto M a 1) = kk at CL ⊢
  generalize St.stX (sto M a 1) = xx at CL ⊢
  generalize stm M a 1 v = M' at CL ⊢
  have CL := Lib.hid CL
  have u0 := (Upto.refl (fun _ => False) w).alloc (.cells #[.int .i64 0, .int .u32 0] 46)
  have HH := Lib.hid (h.upto u0 (fun _ _ => id))
  have kb := KB.new w 0 0 46
  have U0 := Lib.hid (u0.mono (T := P.has) fun _ _ h => h.elim)
  clear h u0
  go_enter Try.func63, Try.ntmps63
  go_upto_region 1 with fail
  generalize w.alloc (.cells #[.int .i64 0, .int .u32 0] 46) = WA at HH kb U0 ⊢
  have KA := Lib.hid kb
  have lA := kb.l
  have z0 := kb.z 0
  have z1 := kb.z 1
  clear kb
  go_wp2_with (first
    | (go_at_call 107; (with_reducible refine (CL.out _ (by first | exact HH.out | exact HH.out.upto ((Upto.refl (fun _ => False) WA).alloc _) (fun _ _ => id))).mono ?_); rintro e w1 ⟨rfl, m1, u1⟩; have ub : Upto P.has WA w1 := (by first | exact u1 | exact ((Upto.refl _ WA).alloc _).trans u1); have M1 := Lib.hid m1; have U1 := Lib.hid (U0.out.trans ub); have K1 := Lib.hid (KA.out.upto ub hlt); have r0 := K1.out.c0; have r1 := K1.out.c1; have z0 := K1.out.z 0; have z1 := K1.out.z 1; have lw := K1.out.l; clear m1 u1 ub))
  have ks := (K1.out.set kk xx)
  have vs := (Upto.refl (fun i => i = w.heap.size) w1).setCell (q := ⟨w.heap.size, 0, none⟩) (.inl rfl) (.int .i64 kk)
  have vs := vs.setCell (q := ⟨w.heap.size, 1, none⟩) (.inl rfl) (.int .u32 xx)
  have ms := M1.out.upto vs (fun k hk e => hlt (e ▸ hk))
  have us := (U1.out.setCell (q := ⟨w.heap.size, 0, none⟩) (.inr (Nat.le_refl _)) (.int .i64 kk)).setCell (q := ⟨w.heap.size, 1, none⟩) (.inr (Nat.le_refl _)) (.int .u32 xx)
  clear r0 r1 z0 z1 vs
  have g0 := ks.c0
  have g1 := ks.c1
  generalize (w1.setCell ⟨w.heap.size, 0, none⟩ (.int .i64 kk)).setCell ⟨w.heap.size, 1, none⟩ (.int .u32 xx) = W3 at ks ms us g0 g1 ⊢
  exact bodyPost_ret (v := .agg #[.int .i64 kk, .int .u32 xx]) (by simp [results, Try.results63, go_sem, g0, g1]) rfl ⟨rfl, ms, us⟩
set_option maxRecDepth 100000 in
set_option maxHeartbeats 4000000 in
theorem rst_1 (P : RP) (M : MM) (a v : Int) (w : World) (h : RM P M w) (hM : MOk M) (a0 : 0 ≤ a) (a1 : a < 4294967296) (v0 : 0 ≤ v) (v1 : v < 4294967296) :
    Calls Try.prog 63 #[.pointer (some ⟨P.q, 0, none⟩), .int .i64 1, .int .u32 a, .int .u32 v] w fun e w' => e = .returned (stpV 6 (sto M a 2)) ∧ RM P (stm M a 2 v) w' ∧ Upto P.has w w' := by
  have CL := fun w h => rstore_any P M a 2 v w h hM a0 a1 v0 v1
  have hlt : ¬ P.has w.heap.size := fun hx => Nat.lt_irrefl _ (rm_lt h hx)
  rw [St.stpV_eq]
  simp only [St.stpV_eq] at CL
  generalize St.stK 6 (sto M a 2) = kk at CL ⊢
  generalize St.stX (sto M a 2) = xx at CL ⊢
  generalize stm M a 2 v = M' at CL ⊢
  have CL := Lib.hid CL
  have u0 := (Upto.refl (fun _ => False) w).alloc (.cells #[.int .i64 0, .int .u32 0] 46)
  have HH := Lib.hid (h.upto u0 (fun _ _ => id))
  have kb := KB.new w 0 0 46
  have U0 := Lib.hid (u0.mono (T := P.has) fun _ _ h => h.elim)
  clear h u0
  go_enter Try.func63, Try.ntmps63
  go_upto_region 1 with fail
  generalize w.alloc (.cells #[.int .i64 0, .int .u32 0] 46) = WA at HH kb U0 ⊢
  have KA := Lib.hid kb
  have lA := kb.l
  have z0 := kb.z 0
  have z1 := kb.z 1
  clear kb
  go_wp2_with (first
    | (go_at_call 107; (with_reducible refine (CL.out _ (by first | exact HH.out | exact HH.out.upto ((Upto.refl (fun _ => False) WA).alloc _) (fun _ _ => id))).mono ?_); rintro e w1 ⟨rfl, m1, u1⟩; have ub : Upto P.has WA w1 := (by first | exact u1 | exact ((Upto.refl _ WA).alloc _).trans u1); have M1 := Lib.hid m1; have U1 := Lib.hid (U0.out.trans ub); have K1 := Lib.hid (KA.out.upto ub hlt); have r0 := K1.out.c0; have r1 := K1.out.c1; have z0 := K1.out.z 0; have z1 := K1.out.z 1; have lw := K1.out.l; clear m1 u1 ub))
  have ks := (K1.out.set kk xx)
  have vs := (Upto.refl (fun i => i = w.heap.size) w1).setCell (q := ⟨w.heap.size, 0, none⟩) (.inl rfl) (.int .i64 kk)
  have vs := vs.setCell (q := ⟨w.heap.size, 1, none⟩) (.inl rfl) (.int .u32 xx)
  have ms := M1.out.upto vs (fun k hk e => hlt (e ▸ hk))
  have us := (U1.out.setCell (q := ⟨w.heap.size, 0, none⟩) (.inr (Nat.le_refl _)) (.int .i64 kk)).setCell (q := ⟨w.heap.size, 1, none⟩) (.inr (Nat.le_refl _)) (.int .u32 xx)
  clear r0 r1 z0 z1 vs
  have g0 := ks.c0
  have g1 := ks.c1
  generalize (w1.setCell ⟨w.heap.size, 0, none⟩ (.int .i64 kk)).setCell ⟨w.heap.size, 1, none⟩ (.int .u32 xx) = W3 at ks ms us g0 g1 ⊢
  exact bodyPost_ret (v := .agg #[.int .i64 kk, .int .u32 xx]) (by simp [results, Try.results63, go_sem, g0, g1]) rfl ⟨rfl, ms, us⟩
set_option maxRecDepth 100000 in
set_option maxHeartbeats 4000000 in
theorem rst_2 (P : RP) (M : MM) (a v : Int) (w : World) (h : RM P M w) (hM : MOk M) (a0 : 0 ≤ a) (a1 : a < 4294967296) (v0 : 0 ≤ v) (v1 : v < 4294967296) :
    Calls Try.prog 63 #[.pointer (some ⟨P.q, 0, none⟩), .int .i64 2, .int .u32 a, .int .u32 v] w fun e w' => e = .returned (stpV 6 (sto M a 4)) ∧ RM P (stm M a 4 v) w' ∧ Upto P.has w w' := by
  have CL := fun w h => rstore_any P M a 4 v w h hM a0 a1 v0 v1
  have hlt : ¬ P.has w.heap.size := fun hx => Nat.lt_irrefl _ (rm_lt h hx)
  rw [St.stpV_eq]
  simp only [St.stpV_eq] at CL
  generalize St.stK 6 (sto M a 4) = kk at CL ⊢
  generalize St.stX (sto M a 4) = xx at CL ⊢
  generalize stm M a 4 v = M' at CL ⊢
  have CL := Lib.hid CL
  have u0 := (Upto.refl (fun _ => False) w).alloc (.cells #[.int .i64 0, .int .u32 0] 46)
  have HH := Lib.hid (h.upto u0 (fun _ _ => id))
  have kb := KB.new w 0 0 46
  have U0 := Lib.hid (u0.mono (T := P.has) fun _ _ h => h.elim)
  clear h u0
  go_enter Try.func63, Try.ntmps63
  go_upto_region 1 with fail
  generalize w.alloc (.cells #[.int .i64 0, .int .u32 0] 46) = WA at HH kb U0 ⊢
  have KA := Lib.hid kb
  have lA := kb.l
  have z0 := kb.z 0
  have z1 := kb.z 1
  clear kb
  go_wp2_with (first
    | (go_at_call 107; (with_reducible refine (CL.out _ (by first | exact HH.out | exact HH.out.upto ((Upto.refl (fun _ => False) WA).alloc _) (fun _ _ => id))).mono ?_); rintro e w1 ⟨rfl, m1, u1⟩; have ub : Upto P.has WA w1 := (by first | exact u1 | exact ((Upto.refl _ WA).alloc _).trans u1); have M1 := Lib.hid m1; have U1 := Lib.hid (U0.out.trans ub); have K1 := Lib.hid (KA.out.upto ub hlt); have r0 := K1.out.c0; have r1 := K1.out.c1; have z0 := K1.out.z 0; have z1 := K1.out.z 1; have lw := K1.out.l; clear m1 u1 ub))
  have ks := (K1.out.set kk xx)
  have vs := (Upto.refl (fun i => i = w.heap.size) w1).setCell (q := ⟨w.heap.size, 0, none⟩) (.inl rfl) (.int .i64 kk)
  have vs := vs.setCell (q := ⟨w.heap.size, 1, none⟩) (.inl rfl) (.int .u32 xx)
  have ms := M1.out.upto vs (fun k hk e => hlt (e ▸ hk))
  have us := (U1.out.setCell (q := ⟨w.heap.size, 0, none⟩) (.inr (Nat.le_refl _)) (.int .i64 kk)).setCell (q := ⟨w.heap.size, 1, none⟩) (.inr (Nat.le_refl _)) (.int .u32 xx)
  clear r0 r1 z0 z1 vs
  have g0 := ks.c0
  have g1 := ks.c1
  generalize (w1.setCell ⟨w.heap.size, 0, none⟩ (.int .i64 kk)).setCell ⟨w.heap.size, 1, none⟩ (.int .u32 xx) = W3 at ks ms us g0 g1 ⊢
  exact bodyPost_ret (v := .agg #[.int .i64 kk, .int .u32 xx]) (by simp [results, Try.results63, go_sem, g0, g1]) rfl ⟨rfl, ms, us⟩
theorem rld_any (P : RP) (M : MM) (j a : Int) (w : World) (h : RM P M w) (hM : MOk M) (j0 : 0 ≤ j) (j1 : j < 5) (a0 : 0 ≤ a) (a1 : a < 4294967296) :
    Calls Try.prog 62 #[.pointer (some ⟨P.q, 0, none⟩), .int .i64 j, .int .u32 a] w fun e w' => e = .returned (.tuple #[.int .u32 (wid j (ldv M a (ldn j))), stpV 5 (srch M 1 a (ldn j).toNat)]) ∧ Below w.heap.size w w' := by
  rcases (show j = 0 ∨ j = 1 ∨ j = 2 ∨ j = 3 ∨ j = 4 by omega) with rfl | rfl | rfl | rfl | rfl
  · exact rld_0 P M a w h hM a0 a1
  · exact rld_1 P M a w h hM a0 a1
  · exact rld_2 P M a w h hM a0 a1
  · exact rld_3 P M a w h hM a0 a1
  · exact rld_4 P M a w h hM a0 a1
theorem rst_any (P : RP) (M : MM) (j a v : Int) (w : World) (h : RM P M w) (hM : MOk M) (j0 : 0 ≤ j) (j1 : j < 3) (a0 : 0 ≤ a) (a1 : a < 4294967296) (v0 : 0 ≤ v) (v1 : v < 4294967296) :
    Calls Try.prog 63 #[.pointer (some ⟨P.q, 0, none⟩), .int .i64 j, .int .u32 a, .int .u32 v] w fun e w' => e = .returned (stpV 6 (sto M a (stn j))) ∧ RM P (stm M a (stn j) v) w' ∧ Upto P.has w w' := by
  rcases (show j = 0 ∨ j = 1 ∨ j = 2 by omega) with rfl | rfl | rfl
  · exact rst_0 P M a v w h hM a0 a1 v0 v1
  · exact rst_1 P M a v w h hM a0 a1 v0 v1
  · exact rst_2 P M a v w h hM a0 a1 v0 v1
end Go.Proofs.Ytcjcmnnhmajocab.Ev
