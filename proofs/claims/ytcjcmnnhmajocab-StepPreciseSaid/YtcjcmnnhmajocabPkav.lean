/- crossgrainref2's swap: exchange, add, compare. -/
import Derived.RegionTactic
import Derived.BigRegion
import Derived.Test.YtcjcmnnhmajocabPkae
import Derived.Test.YtcjcmnnhmajocabPkag
import Derived.Test.YtcjcmnnhmajocabPkat
namespace Go.Proofs.Ytcjcmnnhmajocab.St
open Go.RowKit Kt Me Fl Gu
set_option linter.unusedVariables false
set_option linter.unusedSimpArgs false
theorem rm_setA {P : RP} {M : MM} {W : World} {A i : Nat} {v : Value} (h : RM P M W) (hne : ¬ P.has A) : RM P M (W.setCell ⟨A, i, none⟩ v) :=
  h.upto ((Upto.refl (fun j => j = A) W).setCell (q := ⟨A, i, none⟩) (.inl rfl) v) (fun k hk e => hne (e ▸ hk))
theorem rm_lt {P : RP} {M : MM} {W : World} (h : RM P M W) {i : Nat} (hi : P.has i) : i < W.heap.size := by
  rcases hi with e | e | e | e | e
  · rw [e]; exact h.lq
  · rw [e]; exact h.lb
  · rw [e]; exact h.lr
  · rw [e]; exact h.lm
  · rw [e]; exact h.lt
theorem sw_new (w : World) (R : Nat → Int) (pc f k d s o m : Int) :
    (XB w.heap.size k d s o m (((w.alloc (.cells #[.int .i64 k, .int .i64 d, .int .i64 s, .int .i64 o, .int .u32 m] 149)).alloc (.cells (stL R pc f) 72)).alloc (.cells Z2 46))) ∧
    (SB (w.heap.size + 1) R pc f (((w.alloc (.cells #[.int .i64 k, .int .i64 d, .int .i64 s, .int .i64 o, .int .u32 m] 149)).alloc (.cells (stL R pc f) 72)).alloc (.cells Z2 46))) ∧
    (KB (w.heap.size + 1 + 1) 0 0 (((w.alloc (.cells #[.int .i64 k, .int .i64 d, .int .i64 s, .int .i64 o, .int .u32 m] 149)).alloc (.cells (stL R pc f) 72)).alloc (.cells Z2 46))) ∧
    Upto (fun _ => False) w (((w.alloc (.cells #[.int .i64 k, .int .i64 d, .int .i64 s, .int .i64 o, .int .u32 m] 149)).alloc (.cells (stL R pc f) 72)).alloc (.cells Z2 46)) := by
  have hu := (((Upto.refl (fun _ => False) w).alloc (.cells #[.int .i64 k, .int .i64 d, .int .i64 s, .int .i64 o, .int .u32 m] 149)).alloc (.cells (stL R pc f) 72)).alloc (.cells Z2 46)
  refine ⟨?_, ?_, ?_, hu⟩
  all_goals clear hu
  all_goals
    have x1 := XB.new w k d s o m 149
    have e1 : (w.alloc (.cells #[.int .i64 k, .int .i64 d, .int .i64 s, .int .i64 o, .int .u32 m] 149)).heap.size = w.heap.size + 1 := by simp
    generalize w.alloc (.cells #[.int .i64 k, .int .i64 d, .int .i64 s, .int .i64 o, .int .u32 m] 149) = W1 at x1 e1 ⊢
    have s2 := SB.new W1 R pc f 72
    have e2 : (W1.alloc (.cells (stL R pc f) 72)).heap.size = w.heap.size + 1 + 1 := by simp [e1]
    have u2 := (Upto.refl (fun _ => False) W1).alloc (.cells (stL R pc f) 72)
    rw [e1] at s2
    generalize W1.alloc (.cells (stL R pc f) 72) = W2 at s2 e2 u2 ⊢
    have k6 := KB.new W2 0 0 46
    have u6 := (Upto.refl (fun _ => False) W2).alloc (.cells Z2 46)
    rw [e2] at k6
  · exact (x1.upto u2 id).upto u6 id
  · exact s2.upto u6 id
  · exact k6
theorem KB.drew {h : Nat} {k x : Int} {W : World} (a : KB h k x W) : KB h k x W.drew := ⟨a.c0, a.c1, a.z, a.l⟩
theorem kb_off {b A i : Nat} {k x : Int} {v : Value} {W : World} (a : KB b k x W) (hne : ¬ b = A) : KB b k x (W.setCell ⟨A, i, none⟩ v) := a.upto ((Upto.refl (fun j => j = A) W).setCell (q := ⟨A, i, none⟩) (.inl rfl) v) hne
theorem upto_eq {A i : Nat} {v : Value} {a w : World} (h : Upto (fun j => j = A) a w) : Upto (fun j => j = A) a (w.setCell ⟨A, i, none⟩ v) := h.setCell (q := ⟨A, i, none⟩) (.inl rfl) v
theorem upto_pa {P : RP} {A i : Nat} {v : Value} {a w : World} (h : Upto (fun j => P.has j ∨ j = A) a w) : Upto (fun j => P.has j ∨ j = A) a (w.setCell ⟨A, i, none⟩ v) := h.setCell (q := ⟨A, i, none⟩) (.inl (.inr rfl)) v
theorem upto_big {S : Nat → Prop} {b i : Nat} {v : Value} {a w : World} (h : Upto S a w) (hb : a.heap.size ≤ b) : Upto S a (w.setCell ⟨b, i, none⟩ v) := h.setCell (q := ⟨b, i, none⟩) (.inr hb) v
variable {R Rt : Nat → Int} {pc f nx ft : Int}
set_option maxRecDepth 100000 in
set_option maxHeartbeats 8000000 in
theorem sw_24 (P : RP) (M : MM) (A d s : Nat) (o m q v : Int) (hd : d < 8) (hs : s < 8) (w : World) (hm : RM P M w) (hA : SB A Rt nx ft w) (hne : ¬ P.has A) (hM : MOk M) (hR : ROk R) (q0 : 0 ≤ q) (q1 : q < 4294967296) (v0 : 0 ≤ v) (v1 : v < 4294967296) (f0 : 0 ≤ f) (f1 : f < 16) :
    Calls Try.prog 148 #[.pointer (some ⟨P.q, 0, none⟩), insL 24 d s o m, stV R pc f, .pointer (some ⟨A, 0, none⟩), .int .u32 q, .int .u32 v] w fun e w' => e = .returned (stpV 6 (sto M q 4)) ∧ SB A (upd Rt d v) nx (ft) w' ∧ RM P (stm M q 4 (R d)) w' ∧ Upto (fun i => P.has i ∨ i = A) w w' := by
  have CS := Lib.hid (fun w h => rstore_any P M q 4 (R d) w h hM q0 q1 (hR d).1 (hR d).2)
  rw [stpV_eq] at CS ⊢
  generalize stK 6 (sto M q 4) = kk at CS ⊢
  generalize stX (sto M q 4) = xx at CS ⊢
  generalize stm M q 4 (R d) = M' at CS ⊢
  have hd0 : (0 : Int) ≤ (d : Int) := by omega
  have hd1 : (d : Int) < 8 := by omega
  have hr := hR d
  have r0 := hR 0
  obtain ⟨nx1, ns1, nk1, nu1⟩ := sw_new w R pc f 24 d s o m
  have lA := hA.l
  have HA := Lib.hid (hA.upto nu1 id)
  have HM := Lib.hid (hm.upto nu1 (fun _ _ => id))
  have hW : ∀ i, w.heap.size ≤ i → ¬ (P.has i ∨ i = A) := fun i hi h => by
    rcases h with h | h
    · have := rm_lt hm h; omega
    · omega
  have hW0 := Lib.hid hW
  have hAh : ¬ A = w.heap.size := by omega
  have hAh1 : ¬ A = w.heap.size + 1 := by omega
  have hAh2 : ¬ A = w.heap.size + 1 + 1 := by omega
  have hAh' : ¬ w.heap.size = A := by omega
  have hAh1' : ¬ w.heap.size + 1 = A := by omega
  have hAh2' : ¬ w.heap.size + 1 + 1 = A := by omega
  clear hm hA hW
  unfold stL Z2 at nx1 ns1 nk1 nu1 HA HM
  unfold insL stV
  go_enter Try.func148, Try.ntmps148
  go_upto_region 1 with fail
  generalize ((w.alloc (.cells #[.int .i64 24, .int .i64 d, .int .i64 s, .int .i64 o, .int .u32 m] 149)).alloc (.cells #[.int .u32 (R 0), .int .u32 (R 1), .int .u32 (R 2), .int .u32 (R 3), .int .u32 (R 4), .int .u32 (R 5), .int .u32 (R 6), .int .u32 (R 7), .int .u32 pc, .int .u32 f] 72)).alloc (.cells #[.int .i64 0, .int .u32 0] 46) = WA at nx1 ns1 nk1 nu1 HA HM ⊢
  have x0 := nx1.c0
  have x1 := nx1.c1
  have sd := ns1.r d hd
  have s0 := ns1.r 0 (by omega)
  have s9 := ns1.c9
  have td := HA.out.r d hd
  have zd := HA.out.z d
  have t0 := HA.out.r 0 (by omega)
  have z0 := HA.out.z 0
  have t9 := HA.out.c9
  have z9 := HA.out.z 9
  have b0 := nk1.c0
  have b1 := nk1.c1
  have lk := nk1.l
  have lAA := HA.out.l
  have NK := Lib.hid nk1
  have NU := Lib.hid nu1
  have NS := Lib.hid ns1
  have NX := Lib.hid nx1
  clear nx1 ns1 nk1 nu1
  go_wp2_with fail
  go_region
  go_wp2_with (go_at_call 107; (with_reducible refine (CS.out _ (by repeat (first | exact HM.out | apply RM.drew | apply rm_setA _ hne))).mono ?_); rintro e w3 ⟨rfl, m3, u3⟩; have l3 := u3.size; have k3 := KB.upto (h := w.heap.size + 1 + 1) (k := 0) (x := 0) (by repeat (first | exact NK.out | apply KB.drew | refine kb_off ?_ hAh2')) u3 (fun h => hW0.out _ (by omega) (.inl h)); have g0 := k3.c0; have g1 := k3.c1; have y0 := k3.z 0; have y1 := k3.z 1; have lk3 := k3.l; have K3 := Lib.hid k3; have M3 := Lib.hid m3; have U3 := Lib.hid u3; clear k3 m3 u3)
  refine bodyPost_ret (v := .agg #[.int .i64 kk, .int .u32 xx]) (by simp [results, Try.results148, go_sem, g0, g1, y0, y1]) rfl ⟨rfl, ?_, ?_, ?_⟩
  · refine SB.upto (S := fun j => j = w.heap.size + 1 + 1) (W := w3) ?_ (by repeat (first | exact Upto.refl _ _ | apply Upto.drew | apply upto_eq)) hAh2
    refine SB.upto ?_ U3.out hne
    repeat (first | exact HA.out | apply SB.drew | refine SB.setR ?_ _ (by omega) _ | refine SB.setF (f := ft) ?_ _)
  · refine RM.upto (S := fun j => j = w.heap.size + 1 + 1) M3.out (by repeat (first | exact Upto.refl _ _ | apply Upto.drew | apply upto_eq)) (fun j hj e => hW0.out (w.heap.size + 1 + 1) (by omega) (.inl (e ▸ hj)))
  · repeat (first | apply Upto.drew | refine upto_big (b := w.heap.size + 1 + 1) ?_ (by omega))
    refine Upto.trans ?_ (U3.out.mono fun _ _ h => .inl h)
    repeat (first | exact NU.out.mono (fun _ _ h => h.elim) | apply Upto.drew | apply upto_pa)
set_option maxRecDepth 100000 in
set_option maxHeartbeats 8000000 in
theorem sw_25 (P : RP) (M : MM) (A d s : Nat) (o m q v : Int) (hd : d < 8) (hs : s < 8) (w : World) (hm : RM P M w) (hA : SB A Rt nx ft w) (hne : ¬ P.has A) (hM : MOk M) (hR : ROk R) (q0 : 0 ≤ q) (q1 : q < 4294967296) (v0 : 0 ≤ v) (v1 : v < 4294967296) (f0 : 0 ≤ f) (f1 : f < 16) :
    Calls Try.prog 148 #[.pointer (some ⟨P.q, 0, none⟩), insL 25 d s o m, stV R pc f, .pointer (some ⟨A, 0, none⟩), .int .u32 q, .int .u32 v] w fun e w' => e = .returned (stpV 6 (sto M q 4)) ∧ SB A (upd Rt d v) nx (fl 1 v (R d) f) w' ∧ RM P (stm M q 4 (w32 (v + R d))) w' ∧ Upto (fun i => P.has i ∨ i = A) w w' := by
  have CS := Lib.hid (fun w h => rstore_any P M q 4 (w32 (v + R d)) w h hM q0 q1 (w32_bd _).1 (w32_bd _).2)
  have CF := Lib.hid (fun w => rflags_any 1 v (R d) f w v0 v1 (hR d).1 (hR d).2 f0 (by omega))
  have ew : (v + R d) % 4294967296 = w32 (v + R d) := rfl
  rw [stpV_eq] at CS ⊢
  generalize stK 6 (sto M q 4) = kk at CS ⊢
  generalize stX (sto M q 4) = xx at CS ⊢
  generalize stm M q 4 (w32 (v + R d)) = M' at CS ⊢
  have hd0 : (0 : Int) ≤ (d : Int) := by omega
  have hd1 : (d : Int) < 8 := by omega
  have hr := hR d
  have r0 := hR 0
  obtain ⟨nx1, ns1, nk1, nu1⟩ := sw_new w R pc f 25 d s o m
  have lA := hA.l
  have HA := Lib.hid (hA.upto nu1 id)
  have HM := Lib.hid (hm.upto nu1 (fun _ _ => id))
  have hW : ∀ i, w.heap.size ≤ i → ¬ (P.has i ∨ i = A) := fun i hi h => by
    rcases h with h | h
    · have := rm_lt hm h; omega
    · omega
  have hW0 := Lib.hid hW
  have hAh : ¬ A = w.heap.size := by omega
  have hAh1 : ¬ A = w.heap.size + 1 := by omega
  have hAh2 : ¬ A = w.heap.size + 1 + 1 := by omega
  have hAh' : ¬ w.heap.size = A := by omega
  have hAh1' : ¬ w.heap.size + 1 = A := by omega
  have hAh2' : ¬ w.heap.size + 1 + 1 = A := by omega
  clear hm hA hW
  unfold stL Z2 at nx1 ns1 nk1 nu1 HA HM
  unfold insL stV
  go_enter Try.func148, Try.ntmps148
  go_upto_region 1 with fail
  generalize ((w.alloc (.cells #[.int .i64 25, .int .i64 d, .int .i64 s, .int .i64 o, .int .u32 m] 149)).alloc (.cells #[.int .u32 (R 0), .int .u32 (R 1), .int .u32 (R 2), .int .u32 (R 3), .int .u32 (R 4), .int .u32 (R 5), .int .u32 (R 6), .int .u32 (R 7), .int .u32 pc, .int .u32 f] 72)).alloc (.cells #[.int .i64 0, .int .u32 0] 46) = WA at nx1 ns1 nk1 nu1 HA HM ⊢
  have x0 := nx1.c0
  have x1 := nx1.c1
  have sd := ns1.r d hd
  have s0 := ns1.r 0 (by omega)
  have s9 := ns1.c9
  have td := HA.out.r d hd
  have zd := HA.out.z d
  have t0 := HA.out.r 0 (by omega)
  have z0 := HA.out.z 0
  have t9 := HA.out.c9
  have z9 := HA.out.z 9
  have b0 := nk1.c0
  have b1 := nk1.c1
  have lk := nk1.l
  have lAA := HA.out.l
  have NK := Lib.hid nk1
  have NU := Lib.hid nu1
  have NS := Lib.hid ns1
  have NX := Lib.hid nx1
  clear nx1 ns1 nk1 nu1
  go_wp2_with fail
  go_region
  go_wp2_with fail
  go_wp2_with (go_at_call 84; (with_reducible refine (CF.out _).mono ?_); rintro e w4 ⟨rfl, rfl⟩)
  go_wp2_with (go_at_call 107; (with_reducible refine (CS.out _ (by repeat (first | exact HM.out | apply RM.drew | apply rm_setA _ hne))).mono ?_); rintro e w3 ⟨rfl, m3, u3⟩; have l3 := u3.size; have k3 := KB.upto (h := w.heap.size + 1 + 1) (k := 0) (x := 0) (by repeat (first | exact NK.out | apply KB.drew | refine kb_off ?_ hAh2')) u3 (fun h => hW0.out _ (by omega) (.inl h)); have g0 := k3.c0; have g1 := k3.c1; have y0 := k3.z 0; have y1 := k3.z 1; have lk3 := k3.l; have K3 := Lib.hid k3; have M3 := Lib.hid m3; have U3 := Lib.hid u3; clear k3 m3 u3)
  refine bodyPost_ret (v := .agg #[.int .i64 kk, .int .u32 xx]) (by simp [results, Try.results148, go_sem, g0, g1, y0, y1]) rfl ⟨rfl, ?_, ?_, ?_⟩
  · refine SB.upto (S := fun j => j = w.heap.size + 1 + 1) (W := w3) ?_ (by repeat (first | exact Upto.refl _ _ | apply Upto.drew | apply upto_eq)) hAh2
    refine SB.upto ?_ U3.out hne
    repeat (first | exact HA.out | apply SB.drew | refine SB.setR ?_ _ (by omega) _ | refine SB.setF (f := ft) ?_ _)
  · refine RM.upto (S := fun j => j = w.heap.size + 1 + 1) M3.out (by repeat (first | exact Upto.refl _ _ | apply Upto.drew | apply upto_eq)) (fun j hj e => hW0.out (w.heap.size + 1 + 1) (by omega) (.inl (e ▸ hj)))
  · repeat (first | apply Upto.drew | refine upto_big (b := w.heap.size + 1 + 1) ?_ (by omega))
    refine Upto.trans ?_ (U3.out.mono fun _ _ h => .inl h)
    repeat (first | exact NU.out.mono (fun _ _ h => h.elim) | apply Upto.drew | apply upto_pa)
set_option maxRecDepth 100000 in
set_option maxHeartbeats 8000000 in
theorem sw_26y (P : RP) (M : MM) (A d s : Nat) (o m q v : Int) (hd : d < 8) (hs : s < 8) (w : World) (hm : RM P M w) (hA : SB A Rt nx ft w) (hne : ¬ P.has A) (hM : MOk M) (hR : ROk R) (q0 : 0 ≤ q) (q1 : q < 4294967296) (v0 : 0 ≤ v) (v1 : v < 4294967296) (f0 : 0 ≤ f) (f1 : f < 16) (he : R 0 = v) :
    Calls Try.prog 148 #[.pointer (some ⟨P.q, 0, none⟩), insL 26 d s o m, stV R pc f, .pointer (some ⟨A, 0, none⟩), .int .u32 q, .int .u32 v] w fun e w' => e = .returned (stpV 6 (sto M q 4)) ∧ SB A (Rt) nx (fl 3 (R 0) v f) w' ∧ RM P (stm M q 4 (R d)) w' ∧ Upto (fun i => P.has i ∨ i = A) w w' := by
  have CS := Lib.hid (fun w h => rstore_any P M q 4 (R d) w h hM q0 q1 (hR d).1 (hR d).2)
  have CF := Lib.hid (fun w => rflags_any 3 (R 0) v f w (hR 0).1 (hR 0).2 v0 v1 f0 (by omega))
  have eb : (v == R 0) = true := by rw [he]; exact beq_self_eq_true v
  clear he
  rw [stpV_eq] at CS ⊢
  generalize stK 6 (sto M q 4) = kk at CS ⊢
  generalize stX (sto M q 4) = xx at CS ⊢
  generalize stm M q 4 (R d) = M' at CS ⊢
  have hd0 : (0 : Int) ≤ (d : Int) := by omega
  have hd1 : (d : Int) < 8 := by omega
  have hr := hR d
  have r0 := hR 0
  obtain ⟨nx1, ns1, nk1, nu1⟩ := sw_new w R pc f 26 d s o m
  have lA := hA.l
  have HA := Lib.hid (hA.upto nu1 id)
  have HM := Lib.hid (hm.upto nu1 (fun _ _ => id))
  have hW : ∀ i, w.heap.size ≤ i → ¬ (P.has i ∨ i = A) := fun i hi h => by
    rcases h with h | h
    · have := rm_lt hm h; omega
    · omega
  have hW0 := Lib.hid hW
  have hAh : ¬ A = w.heap.size := by omega
  have hAh1 : ¬ A = w.heap.size + 1 := by omega
  have hAh2 : ¬ A = w.heap.size + 1 + 1 := by omega
  have hAh' : ¬ w.heap.size = A := by omega
  have hAh1' : ¬ w.heap.size + 1 = A := by omega
  have hAh2' : ¬ w.heap.size + 1 + 1 = A := by omega
  clear hm hA hW
  unfold stL Z2 at nx1 ns1 nk1 nu1 HA HM
  unfold insL stV
  go_enter Try.func148, Try.ntmps148
  go_upto_region 1 with fail
  generalize ((w.alloc (.cells #[.int .i64 26, .int .i64 d, .int .i64 s, .int .i64 o, .int .u32 m] 149)).alloc (.cells #[.int .u32 (R 0), .int .u32 (R 1), .int .u32 (R 2), .int .u32 (R 3), .int .u32 (R 4), .int .u32 (R 5), .int .u32 (R 6), .int .u32 (R 7), .int .u32 pc, .int .u32 f] 72)).alloc (.cells #[.int .i64 0, .int .u32 0] 46) = WA at nx1 ns1 nk1 nu1 HA HM ⊢
  have x0 := nx1.c0
  have x1 := nx1.c1
  have sd := ns1.r d hd
  have s0 := ns1.r 0 (by omega)
  have s9 := ns1.c9
  have td := HA.out.r d hd
  have zd := HA.out.z d
  have t0 := HA.out.r 0 (by omega)
  have z0 := HA.out.z 0
  have t9 := HA.out.c9
  have z9 := HA.out.z 9
  have b0 := nk1.c0
  have b1 := nk1.c1
  have lk := nk1.l
  have lAA := HA.out.l
  have NK := Lib.hid nk1
  have NU := Lib.hid nu1
  have NS := Lib.hid ns1
  have NX := Lib.hid nx1
  clear nx1 ns1 nk1 nu1
  go_wp2_with fail
  go_wp2_with (go_at_call 84; (with_reducible refine (CF.out _).mono ?_); rintro e w4 ⟨rfl, rfl⟩)
  go_wp2_with (go_at_call 107; (with_reducible refine (CS.out _ (by repeat (first | exact HM.out | apply RM.drew | apply rm_setA _ hne))).mono ?_); rintro e w3 ⟨rfl, m3, u3⟩; have l3 := u3.size; have k3 := KB.upto (h := w.heap.size + 1 + 1) (k := 0) (x := 0) (by repeat (first | exact NK.out | apply KB.drew | refine kb_off ?_ hAh2')) u3 (fun h => hW0.out _ (by omega) (.inl h)); have g0 := k3.c0; have g1 := k3.c1; have y0 := k3.z 0; have y1 := k3.z 1; have lk3 := k3.l; have K3 := Lib.hid k3; have M3 := Lib.hid m3; have U3 := Lib.hid u3; clear k3 m3 u3)
  refine bodyPost_ret (v := .agg #[.int .i64 kk, .int .u32 xx]) (by simp [results, Try.results148, go_sem, g0, g1, y0, y1]) rfl ⟨rfl, ?_, ?_, ?_⟩
  · refine SB.upto (S := fun j => j = w.heap.size + 1 + 1) (W := w3) ?_ (by repeat (first | exact Upto.refl _ _ | apply Upto.drew | apply upto_eq)) hAh2
    refine SB.upto ?_ U3.out hne
    repeat (first | exact HA.out | apply SB.drew | refine SB.setR ?_ _ (by omega) _ | refine SB.setF (f := ft) ?_ _)
  · refine RM.upto (S := fun j => j = w.heap.size + 1 + 1) M3.out (by repeat (first | exact Upto.refl _ _ | apply Upto.drew | apply upto_eq)) (fun j hj e => hW0.out (w.heap.size + 1 + 1) (by omega) (.inl (e ▸ hj)))
  · repeat (first | apply Upto.drew | refine upto_big (b := w.heap.size + 1 + 1) ?_ (by omega))
    refine Upto.trans ?_ (U3.out.mono fun _ _ h => .inl h)
    repeat (first | exact NU.out.mono (fun _ _ h => h.elim) | apply Upto.drew | apply upto_pa)
set_option maxRecDepth 100000 in
set_option maxHeartbeats 8000000 in
theorem sw_26n (P : RP) (M : MM) (A d s : Nat) (o m q v : Int) (hd : d < 8) (hs : s < 8) (w : World) (hm : RM P M w) (hA : SB A Rt nx ft w) (hne : ¬ P.has A) (hM : MOk M) (hR : ROk R) (q0 : 0 ≤ q) (q1 : q < 4294967296) (v0 : 0 ≤ v) (v1 : v < 4294967296) (f0 : 0 ≤ f) (f1 : f < 16) (he : ¬ R 0 = v) :
    Calls Try.prog 148 #[.pointer (some ⟨P.q, 0, none⟩), insL 26 d s o m, stV R pc f, .pointer (some ⟨A, 0, none⟩), .int .u32 q, .int .u32 v] w fun e w' => e = .returned (stpV 6 (sto M q 4)) ∧ SB A (upd Rt 0 v) nx (fl 3 (R 0) v f) w' ∧ RM P (stm M q 4 (v)) w' ∧ Upto (fun i => P.has i ∨ i = A) w w' := by
  have CS := Lib.hid (fun w h => rstore_any P M q 4 (v) w h hM q0 q1 v0 v1)
  have CF := Lib.hid (fun w => rflags_any 3 (R 0) v f w (hR 0).1 (hR 0).2 v0 v1 f0 (by omega))
  have eb : (v == R 0) = false := by rw [beq_eq_false_iff_ne]; exact fun h => he h.symm
  clear he
  rw [stpV_eq] at CS ⊢
  generalize stK 6 (sto M q 4) = kk at CS ⊢
  generalize stX (sto M q 4) = xx at CS ⊢
  generalize stm M q 4 (v) = M' at CS ⊢
  have hd0 : (0 : Int) ≤ (d : Int) := by omega
  have hd1 : (d : Int) < 8 := by omega
  have hr := hR d
  have r0 := hR 0
  obtain ⟨nx1, ns1, nk1, nu1⟩ := sw_new w R pc f 26 d s o m
  have lA := hA.l
  have HA := Lib.hid (hA.upto nu1 id)
  have HM := Lib.hid (hm.upto nu1 (fun _ _ => id))
  have hW : ∀ i, w.heap.size ≤ i → ¬ (P.has i ∨ i = A) := fun i hi h => by
    rcases h with h | h
    · have := rm_lt hm h; omega
    · omega
  have hW0 := Lib.hid hW
  have hAh : ¬ A = w.heap.size := by omega
  have hAh1 : ¬ A = w.heap.size + 1 := by omega
  have hAh2 : ¬ A = w.heap.size + 1 + 1 := by omega
  have hAh' : ¬ w.heap.size = A := by omega
  have hAh1' : ¬ w.heap.size + 1 = A := by omega
  have hAh2' : ¬ w.heap.size + 1 + 1 = A := by omega
  clear hm hA hW
  unfold stL Z2 at nx1 ns1 nk1 nu1 HA HM
  unfold insL stV
  go_enter Try.func148, Try.ntmps148
  go_upto_region 1 with fail
  generalize ((w.alloc (.cells #[.int .i64 26, .int .i64 d, .int .i64 s, .int .i64 o, .int .u32 m] 149)).alloc (.cells #[.int .u32 (R 0), .int .u32 (R 1), .int .u32 (R 2), .int .u32 (R 3), .int .u32 (R 4), .int .u32 (R 5), .int .u32 (R 6), .int .u32 (R 7), .int .u32 pc, .int .u32 f] 72)).alloc (.cells #[.int .i64 0, .int .u32 0] 46) = WA at nx1 ns1 nk1 nu1 HA HM ⊢
  have x0 := nx1.c0
  have x1 := nx1.c1
  have sd := ns1.r d hd
  have s0 := ns1.r 0 (by omega)
  have s9 := ns1.c9
  have td := HA.out.r d hd
  have zd := HA.out.z d
  have t0 := HA.out.r 0 (by omega)
  have z0 := HA.out.z 0
  have t9 := HA.out.c9
  have z9 := HA.out.z 9
  have b0 := nk1.c0
  have b1 := nk1.c1
  have lk := nk1.l
  have lAA := HA.out.l
  have NK := Lib.hid nk1
  have NU := Lib.hid nu1
  have NS := Lib.hid ns1
  have NX := Lib.hid nx1
  clear nx1 ns1 nk1 nu1
  go_wp2_with fail
  go_wp2_with (go_at_call 84; (with_reducible refine (CF.out _).mono ?_); rintro e w4 ⟨rfl, rfl⟩)
  go_wp2_with (go_at_call 107; (with_reducible refine (CS.out _ (by repeat (first | exact HM.out | apply RM.drew | apply rm_setA _ hne))).mono ?_); rintro e w3 ⟨rfl, m3, u3⟩; have l3 := u3.size; have k3 := KB.upto (h := w.heap.size + 1 + 1) (k := 0) (x := 0) (by repeat (first | exact NK.out | apply KB.drew | refine kb_off ?_ hAh2')) u3 (fun h => hW0.out _ (by omega) (.inl h)); have g0 := k3.c0; have g1 := k3.c1; have y0 := k3.z 0; have y1 := k3.z 1; have lk3 := k3.l; have K3 := Lib.hid k3; have M3 := Lib.hid m3; have U3 := Lib.hid u3; clear k3 m3 u3)
  refine bodyPost_ret (v := .agg #[.int .i64 kk, .int .u32 xx]) (by simp [results, Try.results148, go_sem, g0, g1, y0, y1]) rfl ⟨rfl, ?_, ?_, ?_⟩
  · refine SB.upto (S := fun j => j = w.heap.size + 1 + 1) (W := w3) ?_ (by repeat (first | exact Upto.refl _ _ | apply Upto.drew | apply upto_eq)) hAh2
    refine SB.upto ?_ U3.out hne
    repeat (first | exact HA.out | apply SB.drew | refine SB.setR ?_ _ (by omega) _ | refine SB.setF (f := ft) ?_ _)
  · refine RM.upto (S := fun j => j = w.heap.size + 1 + 1) M3.out (by repeat (first | exact Upto.refl _ _ | apply Upto.drew | apply upto_eq)) (fun j hj e => hW0.out (w.heap.size + 1 + 1) (by omega) (.inl (e ▸ hj)))
  · repeat (first | apply Upto.drew | refine upto_big (b := w.heap.size + 1 + 1) ?_ (by omega))
    refine Upto.trans ?_ (U3.out.mono fun _ _ h => .inl h)
    repeat (first | exact NU.out.mono (fun _ _ h => h.elim) | apply Upto.drew | apply upto_pa)
end Go.Proofs.Ytcjcmnnhmajocab.St
