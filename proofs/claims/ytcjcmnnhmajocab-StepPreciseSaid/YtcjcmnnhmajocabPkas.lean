/- interp's instruction under way: any instruction. -/
import Derived.RegionTactic
import Derived.BigRegion
import Derived.Deep.RegionWith
import Derived.Deep.RegionHeld3
import Derived.Test.YtcjcmnnhmajocabPkah
import Derived.Test.YtcjcmnnhmajocabPkao
import Derived.Test.YtcjcmnnhmajocabPkap
import Derived.Test.YtcjcmnnhmajocabPkaq
import Derived.Test.YtcjcmnnhmajocabPkar
namespace Go.Proofs.Ytcjcmnnhmajocab.St
open Go.RowKit Kt Me Fl
set_option linter.unusedVariables false
set_option linter.unusedSimpArgs false
variable {A p : Nat} {R : Nat → Int} {pc f nx k x : Int} {W W' : World}
set_option maxRecDepth 100000 in
set_option maxHeartbeats 8000000 in
theorem mv_1 (M : MM) (d s : Nat) (o m : Int) (hd : d < 8) (hs : s < 8) (w : World) (h : AtB A p R pc f nx 0 0 w) (hm : HC p M w) (hM : MOk M) (hR : ROk R) (hne : A ≠ p) (m0 : 0 ≤ m) (m1 : m < 4294967296) (f0 : 0 ≤ f) (f1 : f < 16) (o0 : 0 ≤ o) (o1 : o < 16) (x0 : 0 ≤ nx) (x1 : nx < 4294967296) :
    Calls Try.prog 80 #[.pointer (some ⟨A, 0, none⟩), insL 1 d s o m] w fun e w' => e = .returned (.tuple #[]) ∧ AtQ A p pc (opO M R pc f nx 1 d s o m) w w' := by
  have eO : opO M R pc f nx 1 d s o m = ⟨M, R, pc, f, 2, 0⟩ := rfl
  rw [eO]
  unfold insL
  clear eO
  have hd0 : (0 : Int) ≤ (d : Int) := by omega
  have hd1 : (d : Int) < 8 := by omega
  have hs0 : (0 : Int) ≤ (s : Int) := by omega
  have hs1 : (s : Int) < 8 := by omega
  have hr := hR d
  have hq := hR s
  have h7 := hR 7
  have lA0 := h.l
  have u0 := (Upto.refl (fun i => False) w).alloc (.cells #[.int .i64 1, .int .i64 d, .int .i64 s, .int .i64 o, .int .u32 m] 149)
  have h1 := h.upto u0 id
  have hm1 := hm.upto u0 id
  have U0 := u0.mono (T := AS A p) (fun _ _ h => h.elim)
  have b0 := box_at w #[.int .i64 1, .int .i64 d, .int .i64 s, .int .i64 o, .int .u32 m] 149 0
  have b1 := box_at w #[.int .i64 1, .int .i64 d, .int .i64 s, .int .i64 o, .int .u32 m] 149 1
  have b2 := box_at w #[.int .i64 1, .int .i64 d, .int .i64 s, .int .i64 o, .int .u32 m] 149 2
  have b3 := box_at w #[.int .i64 1, .int .i64 d, .int .i64 s, .int .i64 o, .int .u32 m] 149 3
  have b4 := box_at w #[.int .i64 1, .int .i64 d, .int .i64 s, .int .i64 o, .int .u32 m] 149 4
  have lB : w.heap.size < (w.alloc (.cells #[.int .i64 1, .int .i64 d, .int .i64 s, .int .i64 o, .int .u32 m] 149)).heap.size := by simp
  simp only [List.getElem?_toArray, List.getElem?_cons_zero, List.getElem?_cons_succ] at b0 b1 b2 b3 b4
  have cs := h1.r s hs
  have c10 := h1.c10
  have z10 := h1.z 10
  have c11 := h1.c11
  have z11 := h1.z 11
  have c12 := h1.c12
  have z12 := h1.z 12
  have c13 := h1.c13
  have z13 := h1.z 13
  have lA := h1.l
  have HA := Lib.hid h1
  have HM := Lib.hid hm1
  have HU := Lib.hid U0
  have HB : ¬ AS A p w.heap.size := by
    intro hx; rcases hx with hx | hx
    · omega
    · have hlp : p < w.heap.size := hm.2.2.2.2.2.2
      omega
  have HAB : w.heap.size ≠ A := by omega
  clear h hm u0 h1 hm1 U0
  go_enter Try.func80, Try.ntmps80
  go_wp2_with fail
  generalize w.alloc (.cells #[.int .i64 1, .int .i64 d, .int .i64 s, .int .i64 o, .int .u32 m] 149) = WA at b0 b1 b2 b3 b4 lB cs c10 z10 c11 z11 c12 z12 c13 z13 lA HA HM HU ⊢
  go_region
  go_wp2_with fail
  go_end0
  exact ⟨rfl, AtQ.stop ((HA.out.drew.setK 2).setX 0) (hc_setA (hc_setA HM.out.drew hne) hne) (up_setA (up_setA HU.out.drew)) (show (2 : Int) ≤ 2 by omega)⟩
set_option maxRecDepth 100000 in
set_option maxHeartbeats 8000000 in
theorem mv_5 (M : MM) (d s : Nat) (o m : Int) (hd : d < 8) (hs : s < 8) (w : World) (h : AtB A p R pc f nx 0 0 w) (hm : HC p M w) (hM : MOk M) (hR : ROk R) (hne : A ≠ p) (m0 : 0 ≤ m) (m1 : m < 4294967296) (f0 : 0 ≤ f) (f1 : f < 16) (o0 : 0 ≤ o) (o1 : o < 16) (x0 : 0 ≤ nx) (x1 : nx < 4294967296) :
    Calls Try.prog 80 #[.pointer (some ⟨A, 0, none⟩), insL 5 d s o m] w fun e w' => e = .returned (.tuple #[]) ∧ AtQ A p pc (opO M R pc f nx 5 d s o m) w w' := by
  have eO : opO M R pc f nx 5 d s o m = ⟨M, R, nx, f, 1, m⟩ := rfl
  rw [eO]
  unfold insL
  clear eO
  have hd0 : (0 : Int) ≤ (d : Int) := by omega
  have hd1 : (d : Int) < 8 := by omega
  have hs0 : (0 : Int) ≤ (s : Int) := by omega
  have hs1 : (s : Int) < 8 := by omega
  have hr := hR d
  have hq := hR s
  have h7 := hR 7
  have lA0 := h.l
  have u0 := (Upto.refl (fun i => False) w).alloc (.cells #[.int .i64 5, .int .i64 d, .int .i64 s, .int .i64 o, .int .u32 m] 149)
  have h1 := h.upto u0 id
  have hm1 := hm.upto u0 id
  have U0 := u0.mono (T := AS A p) (fun _ _ h => h.elim)
  have b0 := box_at w #[.int .i64 5, .int .i64 d, .int .i64 s, .int .i64 o, .int .u32 m] 149 0
  have b1 := box_at w #[.int .i64 5, .int .i64 d, .int .i64 s, .int .i64 o, .int .u32 m] 149 1
  have b2 := box_at w #[.int .i64 5, .int .i64 d, .int .i64 s, .int .i64 o, .int .u32 m] 149 2
  have b3 := box_at w #[.int .i64 5, .int .i64 d, .int .i64 s, .int .i64 o, .int .u32 m] 149 3
  have b4 := box_at w #[.int .i64 5, .int .i64 d, .int .i64 s, .int .i64 o, .int .u32 m] 149 4
  have lB : w.heap.size < (w.alloc (.cells #[.int .i64 5, .int .i64 d, .int .i64 s, .int .i64 o, .int .u32 m] 149)).heap.size := by simp
  simp only [List.getElem?_toArray, List.getElem?_cons_zero, List.getElem?_cons_succ] at b0 b1 b2 b3 b4
  have cs := h1.r s hs
  have c10 := h1.c10
  have z10 := h1.z 10
  have c11 := h1.c11
  have z11 := h1.z 11
  have c12 := h1.c12
  have z12 := h1.z 12
  have c13 := h1.c13
  have z13 := h1.z 13
  have lA := h1.l
  have HA := Lib.hid h1
  have HM := Lib.hid hm1
  have HU := Lib.hid U0
  have HB : ¬ AS A p w.heap.size := by
    intro hx; rcases hx with hx | hx
    · omega
    · have hlp : p < w.heap.size := hm.2.2.2.2.2.2
      omega
  have HAB : w.heap.size ≠ A := by omega
  clear h hm u0 h1 hm1 U0
  go_enter Try.func80, Try.ntmps80
  go_wp2_with fail
  generalize w.alloc (.cells #[.int .i64 5, .int .i64 d, .int .i64 s, .int .i64 o, .int .u32 m] 149) = WA at b0 b1 b2 b3 b4 lB cs c10 z10 c11 z11 c12 z12 c13 z13 lA HA HM HU ⊢
  go_region
  go_wp2_with fail
  go_end0
  exact ⟨rfl, AtQ.ok ((HA.out.drew.setK 1).setX m) (hc_setA (hc_setA HM.out.drew hne) hne) (up_setA (up_setA HU.out.drew))⟩
set_option maxRecDepth 100000 in
set_option maxHeartbeats 8000000 in
theorem mv_2 (M : MM) (d s : Nat) (o m : Int) (hd : d < 8) (hs : s < 8) (w : World) (h : AtB A p R pc f nx 0 0 w) (hm : HC p M w) (hM : MOk M) (hR : ROk R) (hne : A ≠ p) (m0 : 0 ≤ m) (m1 : m < 4294967296) (f0 : 0 ≤ f) (f1 : f < 16) (o0 : 0 ≤ o) (o1 : o < 16) (x0 : 0 ≤ nx) (x1 : nx < 4294967296) :
    Calls Try.prog 80 #[.pointer (some ⟨A, 0, none⟩), insL 2 d s o m] w fun e w' => e = .returned (.tuple #[]) ∧ AtQ A p pc (opO M R pc f nx 2 d s o m) w w' := by
  have eO : opO M R pc f nx 2 d s o m = ldO M R pc f (R 7) 4 fun v => ⟨M, upd R 7 (w32 (R 7 + 4)), v, f, 0, 0⟩ := rfl
  rw [eO]
  unfold insL
  clear eO
  have hd0 : (0 : Int) ≤ (d : Int) := by omega
  have hd1 : (d : Int) < 8 := by omega
  have hs0 : (0 : Int) ≤ (s : Int) := by omega
  have hs1 : (s : Int) < 8 := by omega
  have hr := hR d
  have hq := hR s
  have h7 := hR 7
  have lA0 := h.l
  have u0 := (Upto.refl (fun i => False) w).alloc (.cells #[.int .i64 2, .int .i64 d, .int .i64 s, .int .i64 o, .int .u32 m] 149)
  have h1 := h.upto u0 id
  have hm1 := hm.upto u0 id
  have U0 := u0.mono (T := AS A p) (fun _ _ h => h.elim)
  have b0 := box_at w #[.int .i64 2, .int .i64 d, .int .i64 s, .int .i64 o, .int .u32 m] 149 0
  have b1 := box_at w #[.int .i64 2, .int .i64 d, .int .i64 s, .int .i64 o, .int .u32 m] 149 1
  have b2 := box_at w #[.int .i64 2, .int .i64 d, .int .i64 s, .int .i64 o, .int .u32 m] 149 2
  have b3 := box_at w #[.int .i64 2, .int .i64 d, .int .i64 s, .int .i64 o, .int .u32 m] 149 3
  have b4 := box_at w #[.int .i64 2, .int .i64 d, .int .i64 s, .int .i64 o, .int .u32 m] 149 4
  have lB : w.heap.size < (w.alloc (.cells #[.int .i64 2, .int .i64 d, .int .i64 s, .int .i64 o, .int .u32 m] 149)).heap.size := by simp
  simp only [List.getElem?_toArray, List.getElem?_cons_zero, List.getElem?_cons_succ] at b0 b1 b2 b3 b4
  have cs := h1.r s hs
  have c10 := h1.c10
  have z10 := h1.z 10
  have c11 := h1.c11
  have z11 := h1.z 11
  have c12 := h1.c12
  have z12 := h1.z 12
  have c13 := h1.c13
  have z13 := h1.z 13
  have lA := h1.l
  have HA := Lib.hid h1
  have HM := Lib.hid hm1
  have HU := Lib.hid U0
  have HB : ¬ AS A p w.heap.size := by
    intro hx; rcases hx with hx | hx
    · omega
    · have hlp : p < w.heap.size := hm.2.2.2.2.2.2
      omega
  have HAB : w.heap.size ≠ A := by omega
  clear h hm u0 h1 hm1 U0
  have CP := Lib.hid (fun w h hm => atpop (A := A) (p := p) (R := R) (pc := pc) (f := f) (nx := nx) (x := 0) M w h hm hM hR hne)
  have hl := ldv_bd hM (R 7) 4
  obtain ⟨v, hvv⟩ : ∃ v, ldv M (R 7) 4 = v := ⟨_, rfl⟩
  rw [hvv] at CP hl
  have e15 : bits .and .u32 v 15 = v % 16 := mask15 v hl.1 hl.2
  have HV := Lib.hid hvv
  generalize hoo : ldO M R pc f (R 7) 4 _ = oo
  have HO := Lib.hid hoo
  clear hvv hoo
  go_enter Try.func80, Try.ntmps80
  go_wp2_with fail
  generalize w.alloc (.cells #[.int .i64 2, .int .i64 d, .int .i64 s, .int .i64 o, .int .u32 m] 149) = WA at b0 b1 b2 b3 b4 lB cs c10 z10 c11 z11 c12 z12 c13 z13 lA HA HM HU ⊢
  go_region
  go_wp2_with (go_at_call 135; (with_reducible refine (CP.out _ HA.out.drew HM.out.drew).mono ?_); rintro e w3 ⟨rfl, h3, m3, u3⟩; have d1 := (u3.cell (q := ⟨w.heap.size, 1, none⟩) lB HB).trans b1; have d4 := (u3.cell (q := ⟨w.heap.size, 4, none⟩) lB HB).trans b4; have g11 := h3.c11; have y11 := h3.z 11; have g10 := h3.c10; have y10 := h3.z 10; have gd := h3.r d hd; have yd := h3.z (1 + d); have l3 := h3.l; have H3 := Lib.hid h3; have M3 := Lib.hid m3; have U3 := Lib.hid u3; clear h3 m3 u3)
  go_end0
  rw [← HO.out]
  exact ⟨rfl, atq_ldo (H3.out.setNx v) (hc_setA M3.out hne) (up_setA (HU.out.drew.trans U3.out)) (by rw [HV.out])⟩
set_option maxRecDepth 100000 in
set_option maxHeartbeats 8000000 in
theorem mv_3 (M : MM) (d s : Nat) (o m : Int) (hd : d < 8) (hs : s < 8) (w : World) (h : AtB A p R pc f nx 0 0 w) (hm : HC p M w) (hM : MOk M) (hR : ROk R) (hne : A ≠ p) (m0 : 0 ≤ m) (m1 : m < 4294967296) (f0 : 0 ≤ f) (f1 : f < 16) (o0 : 0 ≤ o) (o1 : o < 16) (x0 : 0 ≤ nx) (x1 : nx < 4294967296) :
    Calls Try.prog 80 #[.pointer (some ⟨A, 0, none⟩), insL 3 d s o m] w fun e w' => e = .returned (.tuple #[]) ∧ AtQ A p pc (opO M R pc f nx 3 d s o m) w w' := by
  have eO : opO M R pc f nx 3 d s o m = stO M R pc f (w32 (R 7 - 4)) 4 f fun M' => ⟨M', upd R 7 (w32 (R 7 - 4)), nx, f, 0, 0⟩ := rfl
  rw [eO]
  unfold insL
  clear eO
  have hd0 : (0 : Int) ≤ (d : Int) := by omega
  have hd1 : (d : Int) < 8 := by omega
  have hs0 : (0 : Int) ≤ (s : Int) := by omega
  have hs1 : (s : Int) < 8 := by omega
  have hr := hR d
  have hq := hR s
  have h7 := hR 7
  have lA0 := h.l
  have u0 := (Upto.refl (fun i => False) w).alloc (.cells #[.int .i64 3, .int .i64 d, .int .i64 s, .int .i64 o, .int .u32 m] 149)
  have h1 := h.upto u0 id
  have hm1 := hm.upto u0 id
  have U0 := u0.mono (T := AS A p) (fun _ _ h => h.elim)
  have b0 := box_at w #[.int .i64 3, .int .i64 d, .int .i64 s, .int .i64 o, .int .u32 m] 149 0
  have b1 := box_at w #[.int .i64 3, .int .i64 d, .int .i64 s, .int .i64 o, .int .u32 m] 149 1
  have b2 := box_at w #[.int .i64 3, .int .i64 d, .int .i64 s, .int .i64 o, .int .u32 m] 149 2
  have b3 := box_at w #[.int .i64 3, .int .i64 d, .int .i64 s, .int .i64 o, .int .u32 m] 149 3
  have b4 := box_at w #[.int .i64 3, .int .i64 d, .int .i64 s, .int .i64 o, .int .u32 m] 149 4
  have lB : w.heap.size < (w.alloc (.cells #[.int .i64 3, .int .i64 d, .int .i64 s, .int .i64 o, .int .u32 m] 149)).heap.size := by simp
  simp only [List.getElem?_toArray, List.getElem?_cons_zero, List.getElem?_cons_succ] at b0 b1 b2 b3 b4
  have cs := h1.r s hs
  have c10 := h1.c10
  have z10 := h1.z 10
  have c11 := h1.c11
  have z11 := h1.z 11
  have c12 := h1.c12
  have z12 := h1.z 12
  have c13 := h1.c13
  have z13 := h1.z 13
  have lA := h1.l
  have HA := Lib.hid h1
  have HM := Lib.hid hm1
  have HU := Lib.hid U0
  have HB : ¬ AS A p w.heap.size := by
    intro hx; rcases hx with hx | hx
    · omega
    · have hlp : p < w.heap.size := hm.2.2.2.2.2.2
      omega
  have HAB : w.heap.size ≠ A := by omega
  clear h hm u0 h1 hm1 U0
  have CP := Lib.hid (fun w h hm => atpush (A := A) (p := p) (R := R) (pc := pc) (f := f) (nx := nx) (x := 0) M (f) w h hm hM hR hne f0 (by omega))
  generalize hoo : stO M R pc f (w32 (R 7 - 4)) 4 (f) _ = oo
  have HO := Lib.hid hoo
  clear hoo
  go_enter Try.func80, Try.ntmps80
  go_wp2_with fail
  generalize w.alloc (.cells #[.int .i64 3, .int .i64 d, .int .i64 s, .int .i64 o, .int .u32 m] 149) = WA at b0 b1 b2 b3 b4 lB cs c10 z10 c11 z11 c12 z12 c13 z13 lA HA HM HU ⊢
  go_region
  go_wp2_with (go_at_call 136; (with_reducible refine (CP.out _ HA.out.drew HM.out.drew).mono ?_); rintro e w3 ⟨rfl, h3, m3, u3⟩; have d1 := (u3.cell (q := ⟨w.heap.size, 1, none⟩) lB HB).trans b1; have d4 := (u3.cell (q := ⟨w.heap.size, 4, none⟩) lB HB).trans b4; have g11 := h3.c11; have y11 := h3.z 11; have g10 := h3.c10; have y10 := h3.z 10; have gd := h3.r d hd; have yd := h3.z (1 + d); have l3 := h3.l; have H3 := Lib.hid h3; have M3 := Lib.hid m3; have U3 := Lib.hid u3; clear h3 m3 u3)
  go_end0
  rw [← HO.out]
  exact ⟨rfl, atq_sto H3.out M3.out (HU.out.drew.trans U3.out) rfl⟩
set_option maxRecDepth 100000 in
set_option maxHeartbeats 8000000 in
theorem mv_4 (M : MM) (d s : Nat) (o m : Int) (hd : d < 8) (hs : s < 8) (w : World) (h : AtB A p R pc f nx 0 0 w) (hm : HC p M w) (hM : MOk M) (hR : ROk R) (hne : A ≠ p) (m0 : 0 ≤ m) (m1 : m < 4294967296) (f0 : 0 ≤ f) (f1 : f < 16) (o0 : 0 ≤ o) (o1 : o < 16) (x0 : 0 ≤ nx) (x1 : nx < 4294967296) :
    Calls Try.prog 80 #[.pointer (some ⟨A, 0, none⟩), insL 4 d s o m] w fun e w' => e = .returned (.tuple #[]) ∧ AtQ A p pc (opO M R pc f nx 4 d s o m) w w' := by
  have eO : opO M R pc f nx 4 d s o m = ldO M R pc f (R 7) 4 fun v => ⟨M, upd R 7 (w32 (R 7 + 4)), nx, v % 16, 0, 0⟩ := rfl
  rw [eO]
  unfold insL
  clear eO
  have hd0 : (0 : Int) ≤ (d : Int) := by omega
  have hd1 : (d : Int) < 8 := by omega
  have hs0 : (0 : Int) ≤ (s : Int) := by omega
  have hs1 : (s : Int) < 8 := by omega
  have hr := hR d
  have hq := hR s
  have h7 := hR 7
  have lA0 := h.l
  have u0 := (Upto.refl (fun i => False) w).alloc (.cells #[.int .i64 4, .int .i64 d, .int .i64 s, .int .i64 o, .int .u32 m] 149)
  have h1 := h.upto u0 id
  have hm1 := hm.upto u0 id
  have U0 := u0.mono (T := AS A p) (fun _ _ h => h.elim)
  have b0 := box_at w #[.int .i64 4, .int .i64 d, .int .i64 s, .int .i64 o, .int .u32 m] 149 0
  have b1 := box_at w #[.int .i64 4, .int .i64 d, .int .i64 s, .int .i64 o, .int .u32 m] 149 1
  have b2 := box_at w #[.int .i64 4, .int .i64 d, .int .i64 s, .int .i64 o, .int .u32 m] 149 2
  have b3 := box_at w #[.int .i64 4, .int .i64 d, .int .i64 s, .int .i64 o, .int .u32 m] 149 3
  have b4 := box_at w #[.int .i64 4, .int .i64 d, .int .i64 s, .int .i64 o, .int .u32 m] 149 4
  have lB : w.heap.size < (w.alloc (.cells #[.int .i64 4, .int .i64 d, .int .i64 s, .int .i64 o, .int .u32 m] 149)).heap.size := by simp
  simp only [List.getElem?_toArray, List.getElem?_cons_zero, List.getElem?_cons_succ] at b0 b1 b2 b3 b4
  have cs := h1.r s hs
  have c10 := h1.c10
  have z10 := h1.z 10
  have c11 := h1.c11
  have z11 := h1.z 11
  have c12 := h1.c12
  have z12 := h1.z 12
  have c13 := h1.c13
  have z13 := h1.z 13
  have lA := h1.l
  have HA := Lib.hid h1
  have HM := Lib.hid hm1
  have HU := Lib.hid U0
  have HB : ¬ AS A p w.heap.size := by
    intro hx; rcases hx with hx | hx
    · omega
    · have hlp : p < w.heap.size := hm.2.2.2.2.2.2
      omega
  have HAB : w.heap.size ≠ A := by omega
  clear h hm u0 h1 hm1 U0
  have CP := Lib.hid (fun w h hm => atpop (A := A) (p := p) (R := R) (pc := pc) (f := f) (nx := nx) (x := 0) M w h hm hM hR hne)
  have hl := ldv_bd hM (R 7) 4
  obtain ⟨v, hvv⟩ : ∃ v, ldv M (R 7) 4 = v := ⟨_, rfl⟩
  rw [hvv] at CP hl
  have e15 : bits .and .u32 v 15 = v % 16 := mask15 v hl.1 hl.2
  have HV := Lib.hid hvv
  generalize hoo : ldO M R pc f (R 7) 4 _ = oo
  have HO := Lib.hid hoo
  clear hvv hoo
  go_enter Try.func80, Try.ntmps80
  go_wp2_with fail
  generalize w.alloc (.cells #[.int .i64 4, .int .i64 d, .int .i64 s, .int .i64 o, .int .u32 m] 149) = WA at b0 b1 b2 b3 b4 lB cs c10 z10 c11 z11 c12 z12 c13 z13 lA HA HM HU ⊢
  go_region
  go_wp2_with (go_at_call 135; (with_reducible refine (CP.out _ HA.out.drew HM.out.drew).mono ?_); rintro e w3 ⟨rfl, h3, m3, u3⟩; have d1 := (u3.cell (q := ⟨w.heap.size, 1, none⟩) lB HB).trans b1; have d4 := (u3.cell (q := ⟨w.heap.size, 4, none⟩) lB HB).trans b4; have g11 := h3.c11; have y11 := h3.z 11; have g10 := h3.c10; have y10 := h3.z 10; have gd := h3.r d hd; have yd := h3.z (1 + d); have l3 := h3.l; have H3 := Lib.hid h3; have M3 := Lib.hid m3; have U3 := Lib.hid u3; clear h3 m3 u3)
  go_end0
  rw [← HO.out]
  exact ⟨rfl, atq_ldo (H3.out.setF (v % 16)) (hc_setA M3.out hne) (up_setA (HU.out.drew.trans U3.out)) (by rw [HV.out])⟩
set_option maxRecDepth 100000 in
set_option maxHeartbeats 8000000 in
theorem mv_6 (M : MM) (d s : Nat) (o m : Int) (hd : d < 8) (hs : s < 8) (w : World) (h : AtB A p R pc f nx 0 0 w) (hm : HC p M w) (hM : MOk M) (hR : ROk R) (hne : A ≠ p) (m0 : 0 ≤ m) (m1 : m < 4294967296) (f0 : 0 ≤ f) (f1 : f < 16) (o0 : 0 ≤ o) (o1 : o < 16) (x0 : 0 ≤ nx) (x1 : nx < 4294967296) :
    Calls Try.prog 80 #[.pointer (some ⟨A, 0, none⟩), insL 6 d s o m] w fun e w' => e = .returned (.tuple #[]) ∧ AtQ A p pc (opO M R pc f nx 6 d s o m) w w' := by
  have eO : opO M R pc f nx 6 d s o m = ⟨M, R, w32 (nx + m), f, 0, 0⟩ := rfl
  rw [eO]
  unfold insL
  clear eO
  have hd0 : (0 : Int) ≤ (d : Int) := by omega
  have hd1 : (d : Int) < 8 := by omega
  have hs0 : (0 : Int) ≤ (s : Int) := by omega
  have hs1 : (s : Int) < 8 := by omega
  have hr := hR d
  have hq := hR s
  have h7 := hR 7
  have lA0 := h.l
  have u0 := (Upto.refl (fun i => False) w).alloc (.cells #[.int .i64 6, .int .i64 d, .int .i64 s, .int .i64 o, .int .u32 m] 149)
  have h1 := h.upto u0 id
  have hm1 := hm.upto u0 id
  have U0 := u0.mono (T := AS A p) (fun _ _ h => h.elim)
  have b0 := box_at w #[.int .i64 6, .int .i64 d, .int .i64 s, .int .i64 o, .int .u32 m] 149 0
  have b1 := box_at w #[.int .i64 6, .int .i64 d, .int .i64 s, .int .i64 o, .int .u32 m] 149 1
  have b2 := box_at w #[.int .i64 6, .int .i64 d, .int .i64 s, .int .i64 o, .int .u32 m] 149 2
  have b3 := box_at w #[.int .i64 6, .int .i64 d, .int .i64 s, .int .i64 o, .int .u32 m] 149 3
  have b4 := box_at w #[.int .i64 6, .int .i64 d, .int .i64 s, .int .i64 o, .int .u32 m] 149 4
  have lB : w.heap.size < (w.alloc (.cells #[.int .i64 6, .int .i64 d, .int .i64 s, .int .i64 o, .int .u32 m] 149)).heap.size := by simp
  simp only [List.getElem?_toArray, List.getElem?_cons_zero, List.getElem?_cons_succ] at b0 b1 b2 b3 b4
  have cs := h1.r s hs
  have c10 := h1.c10
  have z10 := h1.z 10
  have c11 := h1.c11
  have z11 := h1.z 11
  have c12 := h1.c12
  have z12 := h1.z 12
  have c13 := h1.c13
  have z13 := h1.z 13
  have lA := h1.l
  have HA := Lib.hid h1
  have HM := Lib.hid hm1
  have HU := Lib.hid U0
  have HB : ¬ AS A p w.heap.size := by
    intro hx; rcases hx with hx | hx
    · omega
    · have hlp : p < w.heap.size := hm.2.2.2.2.2.2
      omega
  have HAB : w.heap.size ≠ A := by omega
  clear h hm u0 h1 hm1 U0
  go_enter Try.func80, Try.ntmps80
  go_wp2_with fail
  generalize w.alloc (.cells #[.int .i64 6, .int .i64 d, .int .i64 s, .int .i64 o, .int .u32 m] 149) = WA at b0 b1 b2 b3 b4 lB cs c10 z10 c11 z11 c12 z12 c13 z13 lA HA HM HU ⊢
  go_region
  go_wp2_with fail
  go_region
  go_wp2_with fail
  go_end0
  exact ⟨rfl, AtQ.ok (HA.out.drew.setNx (w32 (nx + m))).drew (hc_setA HM.out.drew hne).drew (up_setA HU.out.drew).drew⟩
set_option maxRecDepth 100000 in
set_option maxHeartbeats 8000000 in
theorem mv_7 (M : MM) (d s : Nat) (o m : Int) (hd : d < 8) (hs : s < 8) (w : World) (h : AtB A p R pc f nx 0 0 w) (hm : HC p M w) (hM : MOk M) (hR : ROk R) (hne : A ≠ p) (m0 : 0 ≤ m) (m1 : m < 4294967296) (f0 : 0 ≤ f) (f1 : f < 16) (o0 : 0 ≤ o) (o1 : o < 16) (x0 : 0 ≤ nx) (x1 : nx < 4294967296) :
    Calls Try.prog 80 #[.pointer (some ⟨A, 0, none⟩), insL 7 d s o m] w fun e w' => e = .returned (.tuple #[]) ∧ AtQ A p pc (opO M R pc f nx 7 d s o m) w w' := by
  have eO : opO M R pc f nx 7 d s o m = ⟨M, R, w32 (nx + m), f, 0, 0⟩ := rfl
  rw [eO]
  unfold insL
  clear eO
  have hd0 : (0 : Int) ≤ (d : Int) := by omega
  have hd1 : (d : Int) < 8 := by omega
  have hs0 : (0 : Int) ≤ (s : Int) := by omega
  have hs1 : (s : Int) < 8 := by omega
  have hr := hR d
  have hq := hR s
  have h7 := hR 7
  have lA0 := h.l
  have u0 := (Upto.refl (fun i => False) w).alloc (.cells #[.int .i64 7, .int .i64 d, .int .i64 s, .int .i64 o, .int .u32 m] 149)
  have h1 := h.upto u0 id
  have hm1 := hm.upto u0 id
  have U0 := u0.mono (T := AS A p) (fun _ _ h => h.elim)
  have b0 := box_at w #[.int .i64 7, .int .i64 d, .int .i64 s, .int .i64 o, .int .u32 m] 149 0
  have b1 := box_at w #[.int .i64 7, .int .i64 d, .int .i64 s, .int .i64 o, .int .u32 m] 149 1
  have b2 := box_at w #[.int .i64 7, .int .i64 d, .int .i64 s, .int .i64 o, .int .u32 m] 149 2
  have b3 := box_at w #[.int .i64 7, .int .i64 d, .int .i64 s, .int .i64 o, .int .u32 m] 149 3
  have b4 := box_at w #[.int .i64 7, .int .i64 d, .int .i64 s, .int .i64 o, .int .u32 m] 149 4
  have lB : w.heap.size < (w.alloc (.cells #[.int .i64 7, .int .i64 d, .int .i64 s, .int .i64 o, .int .u32 m] 149)).heap.size := by simp
  simp only [List.getElem?_toArray, List.getElem?_cons_zero, List.getElem?_cons_succ] at b0 b1 b2 b3 b4
  have cs := h1.r s hs
  have c10 := h1.c10
  have z10 := h1.z 10
  have c11 := h1.c11
  have z11 := h1.z 11
  have c12 := h1.c12
  have z12 := h1.z 12
  have c13 := h1.c13
  have z13 := h1.z 13
  have lA := h1.l
  have HA := Lib.hid h1
  have HM := Lib.hid hm1
  have HU := Lib.hid U0
  have HB : ¬ AS A p w.heap.size := by
    intro hx; rcases hx with hx | hx
    · omega
    · have hlp : p < w.heap.size := hm.2.2.2.2.2.2
      omega
  have HAB : w.heap.size ≠ A := by omega
  clear h hm u0 h1 hm1 U0
  go_enter Try.func80, Try.ntmps80
  go_wp2_with fail
  generalize w.alloc (.cells #[.int .i64 7, .int .i64 d, .int .i64 s, .int .i64 o, .int .u32 m] 149) = WA at b0 b1 b2 b3 b4 lB cs c10 z10 c11 z11 c12 z12 c13 z13 lA HA HM HU ⊢
  go_region
  go_wp2_with fail
  go_region
  go_wp2_with fail
  go_end0
  exact ⟨rfl, AtQ.ok (HA.out.drew.setNx (w32 (nx + m))).drew (hc_setA HM.out.drew hne).drew (up_setA HU.out.drew).drew⟩
end Go.Proofs.Ytcjcmnnhmajocab.St
namespace Go.Proofs.Ytcjcmnnhmajocab.St
open Go.RowKit Kt Me Fl
set_option linter.unusedVariables false
set_option linter.unusedSimpArgs false
variable {A p : Nat} {R : Nat → Int} {pc f nx k x : Int} {W W' : World}
set_option maxRecDepth 100000 in
set_option maxHeartbeats 8000000 in
theorem mv_8 (M : MM) (d s : Nat) (o m : Int) (hd : d < 8) (hs : s < 8) (w : World) (h : AtB A p R pc f nx 0 0 w) (hm : HC p M w) (hM : MOk M) (hR : ROk R) (hne : A ≠ p) (m0 : 0 ≤ m) (m1 : m < 4294967296) (f0 : 0 ≤ f) (f1 : f < 16) (o0 : 0 ≤ o) (o1 : o < 16) (x0 : 0 ≤ nx) (x1 : nx < 4294967296) :
    Calls Try.prog 80 #[.pointer (some ⟨A, 0, none⟩), insL 8 d s o m] w fun e w' => e = .returned (.tuple #[]) ∧ AtQ A p pc (opO M R pc f nx 8 d s o m) w w' := by
  have eO : opO M R pc f nx 8 d s o m = stO M R pc f (w32 (R 7 - 4)) 4 nx fun M' => ⟨M', upd R 7 (w32 (R 7 - 4)), w32 (nx + m), f, 0, 0⟩ := rfl
  rw [eO]
  unfold insL
  clear eO
  have hd0 : (0 : Int) ≤ (d : Int) := by omega
  have hd1 : (d : Int) < 8 := by omega
  have hs0 : (0 : Int) ≤ (s : Int) := by omega
  have hs1 : (s : Int) < 8 := by omega
  have hr := hR d
  have hq := hR s
  have h7 := hR 7
  have lA0 := h.l
  have u0 := (Upto.refl (fun i => False) w).alloc (.cells #[.int .i64 8, .int .i64 d, .int .i64 s, .int .i64 o, .int .u32 m] 149)
  have h1 := h.upto u0 id
  have hm1 := hm.upto u0 id
  have U0 := u0.mono (T := AS A p) (fun _ _ h => h.elim)
  have b0 := box_at w #[.int .i64 8, .int .i64 d, .int .i64 s, .int .i64 o, .int .u32 m] 149 0
  have b1 := box_at w #[.int .i64 8, .int .i64 d, .int .i64 s, .int .i64 o, .int .u32 m] 149 1
  have b2 := box_at w #[.int .i64 8, .int .i64 d, .int .i64 s, .int .i64 o, .int .u32 m] 149 2
  have b3 := box_at w #[.int .i64 8, .int .i64 d, .int .i64 s, .int .i64 o, .int .u32 m] 149 3
  have b4 := box_at w #[.int .i64 8, .int .i64 d, .int .i64 s, .int .i64 o, .int .u32 m] 149 4
  have lB : w.heap.size < (w.alloc (.cells #[.int .i64 8, .int .i64 d, .int .i64 s, .int .i64 o, .int .u32 m] 149)).heap.size := by simp
  simp only [List.getElem?_toArray, List.getElem?_cons_zero, List.getElem?_cons_succ] at b0 b1 b2 b3 b4
  have cs := h1.r s hs
  have c10 := h1.c10
  have z10 := h1.z 10
  have c11 := h1.c11
  have z11 := h1.z 11
  have c12 := h1.c12
  have z12 := h1.z 12
  have c13 := h1.c13
  have z13 := h1.z 13
  have lA := h1.l
  have HA := Lib.hid h1
  have HM := Lib.hid hm1
  have HU := Lib.hid U0
  have HB : ¬ AS A p w.heap.size := by
    intro hx; rcases hx with hx | hx
    · omega
    · have hlp : p < w.heap.size := hm.2.2.2.2.2.2
      omega
  have HAB : w.heap.size ≠ A := by omega
  clear h hm u0 h1 hm1 U0
  have CP := Lib.hid (fun w h hm => atpush (A := A) (p := p) (R := R) (pc := pc) (f := f) (nx := nx) (x := 0) M (nx) w h hm hM hR hne x0 x1)
  generalize hoo : stO M R pc f (w32 (R 7 - 4)) 4 (nx) _ = oo
  have HO := Lib.hid hoo
  clear hoo
  go_enter Try.func80, Try.ntmps80
  go_wp2_with fail
  generalize w.alloc (.cells #[.int .i64 8, .int .i64 d, .int .i64 s, .int .i64 o, .int .u32 m] 149) = WA at b0 b1 b2 b3 b4 lB cs c10 z10 c11 z11 c12 z12 c13 z13 lA HA HM HU ⊢
  go_region
  go_wp2_with (go_at_call 136; (with_reducible refine (CP.out _ HA.out.drew HM.out.drew).mono ?_); rintro e w3 ⟨rfl, h3, m3, u3⟩; have d1 := (u3.cell (q := ⟨w.heap.size, 1, none⟩) lB HB).trans b1; have d4 := (u3.cell (q := ⟨w.heap.size, 4, none⟩) lB HB).trans b4; have g11 := h3.c11; have y11 := h3.z 11; have g10 := h3.c10; have y10 := h3.z 10; have gd := h3.r d hd; have yd := h3.z (1 + d); have l3 := h3.l; have H3 := Lib.hid h3; have M3 := Lib.hid m3; have U3 := Lib.hid u3; clear h3 m3 u3)
  go_region
  go_wp2_with fail
  go_end0
  rw [← HO.out]
  exact ⟨rfl, atq_sto (H3.out.setNx (w32 (nx + m))).drew (hc_setA M3.out hne).drew (up_setA (HU.out.drew.trans U3.out)).drew rfl⟩
set_option maxRecDepth 100000 in
set_option maxHeartbeats 8000000 in
theorem mv_9 (M : MM) (d s : Nat) (o m : Int) (hd : d < 8) (hs : s < 8) (w : World) (h : AtB A p R pc f nx 0 0 w) (hm : HC p M w) (hM : MOk M) (hR : ROk R) (hne : A ≠ p) (m0 : 0 ≤ m) (m1 : m < 4294967296) (f0 : 0 ≤ f) (f1 : f < 16) (o0 : 0 ≤ o) (o1 : o < 16) (x0 : 0 ≤ nx) (x1 : nx < 4294967296) :
    Calls Try.prog 80 #[.pointer (some ⟨A, 0, none⟩), insL 9 d s o m] w fun e w' => e = .returned (.tuple #[]) ∧ AtQ A p pc (opO M R pc f nx 9 d s o m) w w' := by
  have eO : opO M R pc f nx 9 d s o m = ⟨M, R, R s, f, 0, 0⟩ := rfl
  rw [eO]
  unfold insL
  clear eO
  have hd0 : (0 : Int) ≤ (d : Int) := by omega
  have hd1 : (d : Int) < 8 := by omega
  have hs0 : (0 : Int) ≤ (s : Int) := by omega
  have hs1 : (s : Int) < 8 := by omega
  have hr := hR d
  have hq := hR s
  have h7 := hR 7
  have lA0 := h.l
  have u0 := (Upto.refl (fun i => False) w).alloc (.cells #[.int .i64 9, .int .i64 d, .int .i64 s, .int .i64 o, .int .u32 m] 149)
  have h1 := h.upto u0 id
  have hm1 := hm.upto u0 id
  have U0 := u0.mono (T := AS A p) (fun _ _ h => h.elim)
  have b0 := box_at w #[.int .i64 9, .int .i64 d, .int .i64 s, .int .i64 o, .int .u32 m] 149 0
  have b1 := box_at w #[.int .i64 9, .int .i64 d, .int .i64 s, .int .i64 o, .int .u32 m] 149 1
  have b2 := box_at w #[.int .i64 9, .int .i64 d, .int .i64 s, .int .i64 o, .int .u32 m] 149 2
  have b3 := box_at w #[.int .i64 9, .int .i64 d, .int .i64 s, .int .i64 o, .int .u32 m] 149 3
  have b4 := box_at w #[.int .i64 9, .int .i64 d, .int .i64 s, .int .i64 o, .int .u32 m] 149 4
  have lB : w.heap.size < (w.alloc (.cells #[.int .i64 9, .int .i64 d, .int .i64 s, .int .i64 o, .int .u32 m] 149)).heap.size := by simp
  simp only [List.getElem?_toArray, List.getElem?_cons_zero, List.getElem?_cons_succ] at b0 b1 b2 b3 b4
  have cs := h1.r s hs
  have c10 := h1.c10
  have z10 := h1.z 10
  have c11 := h1.c11
  have z11 := h1.z 11
  have c12 := h1.c12
  have z12 := h1.z 12
  have c13 := h1.c13
  have z13 := h1.z 13
  have lA := h1.l
  have HA := Lib.hid h1
  have HM := Lib.hid hm1
  have HU := Lib.hid U0
  have HB : ¬ AS A p w.heap.size := by
    intro hx; rcases hx with hx | hx
    · omega
    · have hlp : p < w.heap.size := hm.2.2.2.2.2.2
      omega
  have HAB : w.heap.size ≠ A := by omega
  clear h hm u0 h1 hm1 U0
  go_enter Try.func80, Try.ntmps80
  go_wp2_with fail
  generalize w.alloc (.cells #[.int .i64 9, .int .i64 d, .int .i64 s, .int .i64 o, .int .u32 m] 149) = WA at b0 b1 b2 b3 b4 lB cs c10 z10 c11 z11 c12 z12 c13 z13 lA HA HM HU ⊢
  go_region
  go_wp2_with fail
  go_end0
  exact ⟨rfl, AtQ.ok (HA.out.drew.setNx (R s)) (hc_setA HM.out.drew hne) (up_setA HU.out.drew)⟩
set_option maxRecDepth 100000 in
set_option maxHeartbeats 8000000 in
theorem mv_10 (M : MM) (d s : Nat) (o m : Int) (hd : d < 8) (hs : s < 8) (w : World) (h : AtB A p R pc f nx 0 0 w) (hm : HC p M w) (hM : MOk M) (hR : ROk R) (hne : A ≠ p) (m0 : 0 ≤ m) (m1 : m < 4294967296) (f0 : 0 ≤ f) (f1 : f < 16) (o0 : 0 ≤ o) (o1 : o < 16) (x0 : 0 ≤ nx) (x1 : nx < 4294967296) :
    Calls Try.prog 80 #[.pointer (some ⟨A, 0, none⟩), insL 10 d s o m] w fun e w' => e = .returned (.tuple #[]) ∧ AtQ A p pc (opO M R pc f nx 10 d s o m) w w' := by
  have eO : opO M R pc f nx 10 d s o m = stO M R pc f (w32 (R 7 - 4)) 4 nx fun M' => ⟨M', upd R 7 (w32 (R 7 - 4)), R s, f, 0, 0⟩ := rfl
  rw [eO]
  unfold insL
  clear eO
  have hd0 : (0 : Int) ≤ (d : Int) := by omega
  have hd1 : (d : Int) < 8 := by omega
  have hs0 : (0 : Int) ≤ (s : Int) := by omega
  have hs1 : (s : Int) < 8 := by omega
  have hr := hR d
  have hq := hR s
  have h7 := hR 7
  have lA0 := h.l
  have u0 := (Upto.refl (fun i => False) w).alloc (.cells #[.int .i64 10, .int .i64 d, .int .i64 s, .int .i64 o, .int .u32 m] 149)
  have h1 := h.upto u0 id
  have hm1 := hm.upto u0 id
  have U0 := u0.mono (T := AS A p) (fun _ _ h => h.elim)
  have b0 := box_at w #[.int .i64 10, .int .i64 d, .int .i64 s, .int .i64 o, .int .u32 m] 149 0
  have b1 := box_at w #[.int .i64 10, .int .i64 d, .int .i64 s, .int .i64 o, .int .u32 m] 149 1
  have b2 := box_at w #[.int .i64 10, .int .i64 d, .int .i64 s, .int .i64 o, .int .u32 m] 149 2
  have b3 := box_at w #[.int .i64 10, .int .i64 d, .int .i64 s, .int .i64 o, .int .u32 m] 149 3
  have b4 := box_at w #[.int .i64 10, .int .i64 d, .int .i64 s, .int .i64 o, .int .u32 m] 149 4
  have lB : w.heap.size < (w.alloc (.cells #[.int .i64 10, .int .i64 d, .int .i64 s, .int .i64 o, .int .u32 m] 149)).heap.size := by simp
  simp only [List.getElem?_toArray, List.getElem?_cons_zero, List.getElem?_cons_succ] at b0 b1 b2 b3 b4
  have cs := h1.r s hs
  have c10 := h1.c10
  have z10 := h1.z 10
  have c11 := h1.c11
  have z11 := h1.z 11
  have c12 := h1.c12
  have z12 := h1.z 12
  have c13 := h1.c13
  have z13 := h1.z 13
  have lA := h1.l
  have HA := Lib.hid h1
  have HM := Lib.hid hm1
  have HU := Lib.hid U0
  have HB : ¬ AS A p w.heap.size := by
    intro hx; rcases hx with hx | hx
    · omega
    · have hlp : p < w.heap.size := hm.2.2.2.2.2.2
      omega
  have HAB : w.heap.size ≠ A := by omega
  clear h hm u0 h1 hm1 U0
  have CP := Lib.hid (fun w h hm => atpush (A := A) (p := p) (R := R) (pc := pc) (f := f) (nx := nx) (x := 0) M (nx) w h hm hM hR hne x0 x1)
  generalize hoo : stO M R pc f (w32 (R 7 - 4)) 4 (nx) _ = oo
  have HO := Lib.hid hoo
  clear hoo
  go_enter Try.func80, Try.ntmps80
  go_wp2_with fail
  generalize w.alloc (.cells #[.int .i64 10, .int .i64 d, .int .i64 s, .int .i64 o, .int .u32 m] 149) = WA at b0 b1 b2 b3 b4 lB cs c10 z10 c11 z11 c12 z12 c13 z13 lA HA HM HU ⊢
  go_region
  go_wp2_with (go_at_call 136; (with_reducible refine (CP.out _ HA.out.drew HM.out.drew).mono ?_); rintro e w3 ⟨rfl, h3, m3, u3⟩; have d1 := (u3.cell (q := ⟨w.heap.size, 1, none⟩) lB HB).trans b1; have d4 := (u3.cell (q := ⟨w.heap.size, 4, none⟩) lB HB).trans b4; have g11 := h3.c11; have y11 := h3.z 11; have g10 := h3.c10; have y10 := h3.z 10; have gd := h3.r d hd; have yd := h3.z (1 + d); have l3 := h3.l; have H3 := Lib.hid h3; have M3 := Lib.hid m3; have U3 := Lib.hid u3; clear h3 m3 u3)
  go_end0
  rw [← HO.out]
  exact ⟨rfl, atq_sto (H3.out.setNx (R s)) (hc_setA M3.out hne) (up_setA (HU.out.drew.trans U3.out)) rfl⟩
set_option maxRecDepth 100000 in
set_option maxHeartbeats 8000000 in
theorem mv_11 (M : MM) (d s : Nat) (o m : Int) (hd : d < 8) (hs : s < 8) (w : World) (h : AtB A p R pc f nx 0 0 w) (hm : HC p M w) (hM : MOk M) (hR : ROk R) (hne : A ≠ p) (m0 : 0 ≤ m) (m1 : m < 4294967296) (f0 : 0 ≤ f) (f1 : f < 16) (o0 : 0 ≤ o) (o1 : o < 16) (x0 : 0 ≤ nx) (x1 : nx < 4294967296) :
    Calls Try.prog 80 #[.pointer (some ⟨A, 0, none⟩), insL 11 d s o m] w fun e w' => e = .returned (.tuple #[]) ∧ AtQ A p pc (opO M R pc f nx 11 d s o m) w w' := by
  have eO : opO M R pc f nx 11 d s o m = ldO M R pc f (w32 (R s + m)) 4 fun v => ⟨M, R, v, f, 0, 0⟩ := rfl
  rw [eO]
  unfold insL
  clear eO
  have hd0 : (0 : Int) ≤ (d : Int) := by omega
  have hd1 : (d : Int) < 8 := by omega
  have hs0 : (0 : Int) ≤ (s : Int) := by omega
  have hs1 : (s : Int) < 8 := by omega
  have hr := hR d
  have hq := hR s
  have h7 := hR 7
  have lA0 := h.l
  have u0 := (Upto.refl (fun i => False) w).alloc (.cells #[.int .i64 11, .int .i64 d, .int .i64 s, .int .i64 o, .int .u32 m] 149)
  have h1 := h.upto u0 id
  have hm1 := hm.upto u0 id
  have U0 := u0.mono (T := AS A p) (fun _ _ h => h.elim)
  have b0 := box_at w #[.int .i64 11, .int .i64 d, .int .i64 s, .int .i64 o, .int .u32 m] 149 0
  have b1 := box_at w #[.int .i64 11, .int .i64 d, .int .i64 s, .int .i64 o, .int .u32 m] 149 1
  have b2 := box_at w #[.int .i64 11, .int .i64 d, .int .i64 s, .int .i64 o, .int .u32 m] 149 2
  have b3 := box_at w #[.int .i64 11, .int .i64 d, .int .i64 s, .int .i64 o, .int .u32 m] 149 3
  have b4 := box_at w #[.int .i64 11, .int .i64 d, .int .i64 s, .int .i64 o, .int .u32 m] 149 4
  have lB : w.heap.size < (w.alloc (.cells #[.int .i64 11, .int .i64 d, .int .i64 s, .int .i64 o, .int .u32 m] 149)).heap.size := by simp
  simp only [List.getElem?_toArray, List.getElem?_cons_zero, List.getElem?_cons_succ] at b0 b1 b2 b3 b4
  have cs := h1.r s hs
  have c10 := h1.c10
  have z10 := h1.z 10
  have c11 := h1.c11
  have z11 := h1.z 11
  have c12 := h1.c12
  have z12 := h1.z 12
  have c13 := h1.c13
  have z13 := h1.z 13
  have lA := h1.l
  have HA := Lib.hid h1
  have HM := Lib.hid hm1
  have HU := Lib.hid U0
  have HB : ¬ AS A p w.heap.size := by
    intro hx; rcases hx with hx | hx
    · omega
    · have hlp : p < w.heap.size := hm.2.2.2.2.2.2
      omega
  have HAB : w.heap.size ≠ A := by omega
  clear h hm u0 h1 hm1 U0
  have hv := w32_bd (R s + m)
  have CP := Lib.hid (fun w h hm => atload (A := A) (p := p) (R := R) (pc := pc) (f := f) (nx := nx) (x := 0) M (w32 (R s + m)) 4 w h hm hM hne hv.1 hv.2 (by omega))
  have ew : (R s + m) % 4294967296 = w32 (R s + m) := rfl
  obtain ⟨q, hqq⟩ : ∃ q, w32 (R s + m) = q := ⟨_, rfl⟩
  rw [hqq] at ew CP ⊢
  clear hqq hv
  obtain ⟨v, hvv⟩ : ∃ v, ldv M q 4 = v := ⟨_, rfl⟩
  rw [hvv] at CP
  have HV := Lib.hid hvv
  generalize hoo : ldO M R pc f q 4 _ = oo
  have HO := Lib.hid hoo
  clear hvv hoo
  go_enter Try.func80, Try.ntmps80
  go_wp2_with fail
  generalize w.alloc (.cells #[.int .i64 11, .int .i64 d, .int .i64 s, .int .i64 o, .int .u32 m] 149) = WA at b0 b1 b2 b3 b4 lB cs c10 z10 c11 z11 c12 z12 c13 z13 lA HA HM HU ⊢
  go_region
  go_wp2_with (go_at_call 130; (with_reducible refine (CP.out _ HA.out.drew HM.out.drew).mono ?_); rintro e w3 ⟨rfl, h3, m3, u3⟩; have d1 := (u3.cell (q := ⟨w.heap.size, 1, none⟩) lB HAB).trans b1; have d4 := (u3.cell (q := ⟨w.heap.size, 4, none⟩) lB HAB).trans b4; have g11 := h3.c11; have y11 := h3.z 11; have g10 := h3.c10; have y10 := h3.z 10; have gd := h3.r d hd; have yd := h3.z (1 + d); have l3 := h3.l; have H3 := Lib.hid h3; have M3 := Lib.hid m3; have U3 := Lib.hid u3; clear h3 m3 u3)
  go_end0
  rw [← HO.out]
  exact ⟨rfl, atq_ldo (H3.out.setNx v) (hc_setA M3.out hne) (up_setA (HU.out.drew.trans (up_A U3.out))) (by rw [HV.out])⟩
set_option maxRecDepth 100000 in
set_option maxHeartbeats 8000000 in
theorem mv_14 (M : MM) (d s : Nat) (o m : Int) (hd : d < 8) (hs : s < 8) (w : World) (h : AtB A p R pc f nx 0 0 w) (hm : HC p M w) (hM : MOk M) (hR : ROk R) (hne : A ≠ p) (m0 : 0 ≤ m) (m1 : m < 4294967296) (f0 : 0 ≤ f) (f1 : f < 16) (o0 : 0 ≤ o) (o1 : o < 16) (x0 : 0 ≤ nx) (x1 : nx < 4294967296) :
    Calls Try.prog 80 #[.pointer (some ⟨A, 0, none⟩), insL 14 d s o m] w fun e w' => e = .returned (.tuple #[]) ∧ AtQ A p pc (opO M R pc f nx 14 d s o m) w w' := by
  have eO : opO M R pc f nx 14 d s o m = stO M R pc f (w32 (R 7 - 4)) 4 (R s) fun M' => ⟨M', upd R 7 (w32 (R 7 - 4)), nx, f, 0, 0⟩ := rfl
  rw [eO]
  unfold insL
  clear eO
  have hd0 : (0 : Int) ≤ (d : Int) := by omega
  have hd1 : (d : Int) < 8 := by omega
  have hs0 : (0 : Int) ≤ (s : Int) := by omega
  have hs1 : (s : Int) < 8 := by omega
  have hr := hR d
  have hq := hR s
  have h7 := hR 7
  have lA0 := h.l
  have u0 := (Upto.refl (fun i => False) w).alloc (.cells #[.int .i64 14, .int .i64 d, .int .i64 s, .int .i64 o, .int .u32 m] 149)
  have h1 := h.upto u0 id
  have hm1 := hm.upto u0 id
  have U0 := u0.mono (T := AS A p) (fun _ _ h => h.elim)
  have b0 := box_at w #[.int .i64 14, .int .i64 d, .int .i64 s, .int .i64 o, .int .u32 m] 149 0
  have b1 := box_at w #[.int .i64 14, .int .i64 d, .int .i64 s, .int .i64 o, .int .u32 m] 149 1
  have b2 := box_at w #[.int .i64 14, .int .i64 d, .int .i64 s, .int .i64 o, .int .u32 m] 149 2
  have b3 := box_at w #[.int .i64 14, .int .i64 d, .int .i64 s, .int .i64 o, .int .u32 m] 149 3
  have b4 := box_at w #[.int .i64 14, .int .i64 d, .int .i64 s, .int .i64 o, .int .u32 m] 149 4
  have lB : w.heap.size < (w.alloc (.cells #[.int .i64 14, .int .i64 d, .int .i64 s, .int .i64 o, .int .u32 m] 149)).heap.size := by simp
  simp only [List.getElem?_toArray, List.getElem?_cons_zero, List.getElem?_cons_succ] at b0 b1 b2 b3 b4
  have cs := h1.r s hs
  have c10 := h1.c10
  have z10 := h1.z 10
  have c11 := h1.c11
  have z11 := h1.z 11
  have c12 := h1.c12
  have z12 := h1.z 12
  have c13 := h1.c13
  have z13 := h1.z 13
  have lA := h1.l
  have HA := Lib.hid h1
  have HM := Lib.hid hm1
  have HU := Lib.hid U0
  have HB : ¬ AS A p w.heap.size := by
    intro hx; rcases hx with hx | hx
    · omega
    · have hlp : p < w.heap.size := hm.2.2.2.2.2.2
      omega
  have HAB : w.heap.size ≠ A := by omega
  clear h hm u0 h1 hm1 U0
  have CP := Lib.hid (fun w h hm => atpush (A := A) (p := p) (R := R) (pc := pc) (f := f) (nx := nx) (x := 0) M (R s) w h hm hM hR hne hq.1 hq.2)
  generalize hoo : stO M R pc f (w32 (R 7 - 4)) 4 (R s) _ = oo
  have HO := Lib.hid hoo
  clear hoo
  go_enter Try.func80, Try.ntmps80
  go_wp2_with fail
  generalize w.alloc (.cells #[.int .i64 14, .int .i64 d, .int .i64 s, .int .i64 o, .int .u32 m] 149) = WA at b0 b1 b2 b3 b4 lB cs c10 z10 c11 z11 c12 z12 c13 z13 lA HA HM HU ⊢
  go_region
  go_wp2_with (go_at_call 136; (with_reducible refine (CP.out _ HA.out.drew HM.out.drew).mono ?_); rintro e w3 ⟨rfl, h3, m3, u3⟩; have d1 := (u3.cell (q := ⟨w.heap.size, 1, none⟩) lB HB).trans b1; have d4 := (u3.cell (q := ⟨w.heap.size, 4, none⟩) lB HB).trans b4; have g11 := h3.c11; have y11 := h3.z 11; have g10 := h3.c10; have y10 := h3.z 10; have gd := h3.r d hd; have yd := h3.z (1 + d); have l3 := h3.l; have H3 := Lib.hid h3; have M3 := Lib.hid m3; have U3 := Lib.hid u3; clear h3 m3 u3)
  go_end0
  rw [← HO.out]
  exact ⟨rfl, atq_sto H3.out M3.out (HU.out.drew.trans U3.out) rfl⟩
set_option maxRecDepth 100000 in
set_option maxHeartbeats 8000000 in
theorem mv_15 (M : MM) (d s : Nat) (o m : Int) (hd : d < 8) (hs : s < 8) (w : World) (h : AtB A p R pc f nx 0 0 w) (hm : HC p M w) (hM : MOk M) (hR : ROk R) (hne : A ≠ p) (m0 : 0 ≤ m) (m1 : m < 4294967296) (f0 : 0 ≤ f) (f1 : f < 16) (o0 : 0 ≤ o) (o1 : o < 16) (x0 : 0 ≤ nx) (x1 : nx < 4294967296) :
    Calls Try.prog 80 #[.pointer (some ⟨A, 0, none⟩), insL 15 d s o m] w fun e w' => e = .returned (.tuple #[]) ∧ AtQ A p pc (opO M R pc f nx 15 d s o m) w w' := by
  have eO : opO M R pc f nx 15 d s o m = ldO M R pc f (R 7) 4 fun v => ⟨M, upd (upd R 7 (w32 (R 7 + 4))) d v, nx, f, 0, 0⟩ := rfl
  rw [eO]
  unfold insL
  clear eO
  have hd0 : (0 : Int) ≤ (d : Int) := by omega
  have hd1 : (d : Int) < 8 := by omega
  have hs0 : (0 : Int) ≤ (s : Int) := by omega
  have hs1 : (s : Int) < 8 := by omega
  have hr := hR d
  have hq := hR s
  have h7 := hR 7
  have lA0 := h.l
  have u0 := (Upto.refl (fun i => False) w).alloc (.cells #[.int .i64 15, .int .i64 d, .int .i64 s, .int .i64 o, .int .u32 m] 149)
  have h1 := h.upto u0 id
  have hm1 := hm.upto u0 id
  have U0 := u0.mono (T := AS A p) (fun _ _ h => h.elim)
  have b0 := box_at w #[.int .i64 15, .int .i64 d, .int .i64 s, .int .i64 o, .int .u32 m] 149 0
  have b1 := box_at w #[.int .i64 15, .int .i64 d, .int .i64 s, .int .i64 o, .int .u32 m] 149 1
  have b2 := box_at w #[.int .i64 15, .int .i64 d, .int .i64 s, .int .i64 o, .int .u32 m] 149 2
  have b3 := box_at w #[.int .i64 15, .int .i64 d, .int .i64 s, .int .i64 o, .int .u32 m] 149 3
  have b4 := box_at w #[.int .i64 15, .int .i64 d, .int .i64 s, .int .i64 o, .int .u32 m] 149 4
  have lB : w.heap.size < (w.alloc (.cells #[.int .i64 15, .int .i64 d, .int .i64 s, .int .i64 o, .int .u32 m] 149)).heap.size := by simp
  simp only [List.getElem?_toArray, List.getElem?_cons_zero, List.getElem?_cons_succ] at b0 b1 b2 b3 b4
  have cs := h1.r s hs
  have c10 := h1.c10
  have z10 := h1.z 10
  have c11 := h1.c11
  have z11 := h1.z 11
  have c12 := h1.c12
  have z12 := h1.z 12
  have c13 := h1.c13
  have z13 := h1.z 13
  have lA := h1.l
  have HA := Lib.hid h1
  have HM := Lib.hid hm1
  have HU := Lib.hid U0
  have HB : ¬ AS A p w.heap.size := by
    intro hx; rcases hx with hx | hx
    · omega
    · have hlp : p < w.heap.size := hm.2.2.2.2.2.2
      omega
  have HAB : w.heap.size ≠ A := by omega
  clear h hm u0 h1 hm1 U0
  have CP := Lib.hid (fun w h hm => atpop (A := A) (p := p) (R := R) (pc := pc) (f := f) (nx := nx) (x := 0) M w h hm hM hR hne)
  have hl := ldv_bd hM (R 7) 4
  obtain ⟨v, hvv⟩ : ∃ v, ldv M (R 7) 4 = v := ⟨_, rfl⟩
  rw [hvv] at CP hl
  have e15 : bits .and .u32 v 15 = v % 16 := mask15 v hl.1 hl.2
  have HV := Lib.hid hvv
  generalize hoo : ldO M R pc f (R 7) 4 _ = oo
  have HO := Lib.hid hoo
  clear hvv hoo
  go_enter Try.func80, Try.ntmps80
  go_wp2_with fail
  generalize w.alloc (.cells #[.int .i64 15, .int .i64 d, .int .i64 s, .int .i64 o, .int .u32 m] 149) = WA at b0 b1 b2 b3 b4 lB cs c10 z10 c11 z11 c12 z12 c13 z13 lA HA HM HU ⊢
  go_region
  go_wp2_with (go_at_call 135; (with_reducible refine (CP.out _ HA.out.drew HM.out.drew).mono ?_); rintro e w3 ⟨rfl, h3, m3, u3⟩; have d1 := (u3.cell (q := ⟨w.heap.size, 1, none⟩) lB HB).trans b1; have d4 := (u3.cell (q := ⟨w.heap.size, 4, none⟩) lB HB).trans b4; have g11 := h3.c11; have y11 := h3.z 11; have g10 := h3.c10; have y10 := h3.z 10; have gd := h3.r d hd; have yd := h3.z (1 + d); have l3 := h3.l; have H3 := Lib.hid h3; have M3 := Lib.hid m3; have U3 := Lib.hid u3; clear h3 m3 u3)
  go_region
  go_wp2_with fail
  go_end0
  rw [← HO.out]
  exact ⟨rfl, atq_ldo (H3.out.setR d hd v).drew (hc_setA M3.out hne).drew (up_setA (HU.out.drew.trans U3.out)).drew (by rw [HV.out])⟩
set_option maxRecDepth 100000 in
set_option maxHeartbeats 8000000 in
theorem mv_12 (M : MM) (d s : Nat) (o m : Int) (hd : d < 8) (hs : s < 8) (w : World) (h : AtB A p R pc f nx 0 0 w) (hm : HC p M w) (hM : MOk M) (hR : ROk R) (hne : A ≠ p) (m0 : 0 ≤ m) (m1 : m < 4294967296) (f0 : 0 ≤ f) (f1 : f < 16) (o0 : 0 ≤ o) (o1 : o < 16) (x0 : 0 ≤ nx) (x1 : nx < 4294967296) :
    Calls Try.prog 80 #[.pointer (some ⟨A, 0, none⟩), insL 12 d s o m] w fun e w' => e = .returned (.tuple #[]) ∧ AtQ A p pc (opO M R pc f nx 12 d s o m) w w' := by
  have eO : opO M R pc f nx 12 d s o m = ⟨M, R, if Fl.hd o f then w32 (nx + m) else nx, f, 0, 0⟩ := rfl
  rw [eO]
  unfold insL
  clear eO
  have hd0 : (0 : Int) ≤ (d : Int) := by omega
  have hd1 : (d : Int) < 8 := by omega
  have hs0 : (0 : Int) ≤ (s : Int) := by omega
  have hs1 : (s : Int) < 8 := by omega
  have hr := hR d
  have hq := hR s
  have h7 := hR 7
  have lA0 := h.l
  have u0 := (Upto.refl (fun i => False) w).alloc (.cells #[.int .i64 12, .int .i64 d, .int .i64 s, .int .i64 o, .int .u32 m] 149)
  have h1 := h.upto u0 id
  have hm1 := hm.upto u0 id
  have U0 := u0.mono (T := AS A p) (fun _ _ h => h.elim)
  have b0 := box_at w #[.int .i64 12, .int .i64 d, .int .i64 s, .int .i64 o, .int .u32 m] 149 0
  have b1 := box_at w #[.int .i64 12, .int .i64 d, .int .i64 s, .int .i64 o, .int .u32 m] 149 1
  have b2 := box_at w #[.int .i64 12, .int .i64 d, .int .i64 s, .int .i64 o, .int .u32 m] 149 2
  have b3 := box_at w #[.int .i64 12, .int .i64 d, .int .i64 s, .int .i64 o, .int .u32 m] 149 3
  have b4 := box_at w #[.int .i64 12, .int .i64 d, .int .i64 s, .int .i64 o, .int .u32 m] 149 4
  have lB : w.heap.size < (w.alloc (.cells #[.int .i64 12, .int .i64 d, .int .i64 s, .int .i64 o, .int .u32 m] 149)).heap.size := by simp
  simp only [List.getElem?_toArray, List.getElem?_cons_zero, List.getElem?_cons_succ] at b0 b1 b2 b3 b4
  have cs := h1.r s hs
  have c10 := h1.c10
  have z10 := h1.z 10
  have c11 := h1.c11
  have z11 := h1.z 11
  have c12 := h1.c12
  have z12 := h1.z 12
  have c13 := h1.c13
  have z13 := h1.z 13
  have lA := h1.l
  have HA := Lib.hid h1
  have HM := Lib.hid hm1
  have HU := Lib.hid U0
  have HB : ¬ AS A p w.heap.size := by
    intro hx; rcases hx with hx | hx
    · omega
    · have hlp : p < w.heap.size := hm.2.2.2.2.2.2
      omega
  have HAB : w.heap.size ≠ A := by omega
  clear h hm u0 h1 hm1 U0
  have CH := Lib.hid (fun w => holds_any o f w f0 (by omega) (by omega) (by omega))
  generalize Fl.hd o f = t at CH ⊢
  cases t
  · change Calls Try.prog 80 _ w fun e w' => e = .returned (.tuple #[]) ∧ AtQ A p pc ⟨M, R, nx, f, 0, 0⟩ w w'
    go_enter Try.func80, Try.ntmps80
    go_wp2_with fail
    generalize w.alloc (.cells #[.int .i64 12, .int .i64 d, .int .i64 s, .int .i64 o, .int .u32 m] 149) = WA at b0 b1 b2 b3 b4 lB cs c10 z10 c11 z11 c12 z12 c13 z13 lA HA HM HU ⊢
    go_region
    go_wp2_with fail
    go_region_with (go_at_call 127; (with_reducible refine (CH.out _).mono ?_); rintro e w3 ⟨rfl, hb3⟩; have d4 := (hb3.cell (p := ⟨w.heap.size, 4, none⟩) lB).trans b4; have g11 := (hb3.cell (p := ⟨A, 11, none⟩) lA).trans c11; have y11 := (hb3.frozen (p := ⟨A, 11, none⟩) lA).trans z11; have l3 := Nat.lt_of_lt_of_le lA hb3.size; have B3 := Lib.hid hb3; clear hb3)
    all_goals go_wp2_with fail
    all_goals go_end0
    all_goals exact ⟨rfl, AtQ.ok (HA.out.drew.drew.upto (Upto.of_below (S := fun _ => False) B3.out) id) (HM.out.drew.drew.upto (Upto.of_below (S := fun _ => False) B3.out) id) (HU.out.drew.drew.trans (Upto.of_below B3.out))⟩
  · change Calls Try.prog 80 _ w fun e w' => e = .returned (.tuple #[]) ∧ AtQ A p pc ⟨M, R, w32 (nx + m), f, 0, 0⟩ w w'
    go_enter Try.func80, Try.ntmps80
    go_wp2_with fail
    generalize w.alloc (.cells #[.int .i64 12, .int .i64 d, .int .i64 s, .int .i64 o, .int .u32 m] 149) = WA at b0 b1 b2 b3 b4 lB cs c10 z10 c11 z11 c12 z12 c13 z13 lA HA HM HU ⊢
    go_region
    go_wp2_with fail
    go_region_with (go_at_call 127; (with_reducible refine (CH.out _).mono ?_); rintro e w3 ⟨rfl, hb3⟩; have d4 := (hb3.cell (p := ⟨w.heap.size, 4, none⟩) lB).trans b4; have g11 := (hb3.cell (p := ⟨A, 11, none⟩) lA).trans c11; have y11 := (hb3.frozen (p := ⟨A, 11, none⟩) lA).trans z11; have l3 := Nat.lt_of_lt_of_le lA hb3.size; have B3 := Lib.hid hb3; clear hb3)
    all_goals go_wp2_with fail
    all_goals go_region
    all_goals go_wp2_with fail
    all_goals go_end0
    all_goals exact ⟨rfl, AtQ.ok ((HA.out.drew.drew.upto (Upto.of_below (S := fun _ => False) B3.out) id).setNx (w32 (nx + m))).drew (hc_setA (HM.out.drew.drew.upto (Upto.of_below (S := fun _ => False) B3.out) id) hne).drew (up_setA (HU.out.drew.drew.trans (Upto.of_below B3.out))).drew⟩
set_option maxRecDepth 100000 in
set_option maxHeartbeats 8000000 in
theorem mv_13 (M : MM) (d s : Nat) (o m : Int) (hd : d < 8) (hs : s < 8) (w : World) (h : AtB A p R pc f nx 0 0 w) (hm : HC p M w) (hM : MOk M) (hR : ROk R) (hne : A ≠ p) (m0 : 0 ≤ m) (m1 : m < 4294967296) (f0 : 0 ≤ f) (f1 : f < 16) (o0 : 0 ≤ o) (o1 : o < 16) (x0 : 0 ≤ nx) (x1 : nx < 4294967296) :
    Calls Try.prog 80 #[.pointer (some ⟨A, 0, none⟩), insL 13 d s o m] w fun e w' => e = .returned (.tuple #[]) ∧ AtQ A p pc (opO M R pc f nx 13 d s o m) w w' := by
  have eO : opO M R pc f nx 13 d s o m = ⟨M, R, if Fl.hd o f then w32 (nx + m) else nx, f, 0, 0⟩ := rfl
  rw [eO]
  unfold insL
  clear eO
  have hd0 : (0 : Int) ≤ (d : Int) := by omega
  have hd1 : (d : Int) < 8 := by omega
  have hs0 : (0 : Int) ≤ (s : Int) := by omega
  have hs1 : (s : Int) < 8 := by omega
  have hr := hR d
  have hq := hR s
  have h7 := hR 7
  have lA0 := h.l
  have u0 := (Upto.refl (fun i => False) w).alloc (.cells #[.int .i64 13, .int .i64 d, .int .i64 s, .int .i64 o, .int .u32 m] 149)
  have h1 := h.upto u0 id
  have hm1 := hm.upto u0 id
  have U0 := u0.mono (T := AS A p) (fun _ _ h => h.elim)
  have b0 := box_at w #[.int .i64 13, .int .i64 d, .int .i64 s, .int .i64 o, .int .u32 m] 149 0
  have b1 := box_at w #[.int .i64 13, .int .i64 d, .int .i64 s, .int .i64 o, .int .u32 m] 149 1
  have b2 := box_at w #[.int .i64 13, .int .i64 d, .int .i64 s, .int .i64 o, .int .u32 m] 149 2
  have b3 := box_at w #[.int .i64 13, .int .i64 d, .int .i64 s, .int .i64 o, .int .u32 m] 149 3
  have b4 := box_at w #[.int .i64 13, .int .i64 d, .int .i64 s, .int .i64 o, .int .u32 m] 149 4
  have lB : w.heap.size < (w.alloc (.cells #[.int .i64 13, .int .i64 d, .int .i64 s, .int .i64 o, .int .u32 m] 149)).heap.size := by simp
  simp only [List.getElem?_toArray, List.getElem?_cons_zero, List.getElem?_cons_succ] at b0 b1 b2 b3 b4
  have cs := h1.r s hs
  have c10 := h1.c10
  have z10 := h1.z 10
  have c11 := h1.c11
  have z11 := h1.z 11
  have c12 := h1.c12
  have z12 := h1.z 12
  have c13 := h1.c13
  have z13 := h1.z 13
  have lA := h1.l
  have HA := Lib.hid h1
  have HM := Lib.hid hm1
  have HU := Lib.hid U0
  have HB : ¬ AS A p w.heap.size := by
    intro hx; rcases hx with hx | hx
    · omega
    · have hlp : p < w.heap.size := hm.2.2.2.2.2.2
      omega
  have HAB : w.heap.size ≠ A := by omega
  clear h hm u0 h1 hm1 U0
  have CH := Lib.hid (fun w => holds_any o f w f0 (by omega) (by omega) (by omega))
  generalize Fl.hd o f = t at CH ⊢
  cases t
  · change Calls Try.prog 80 _ w fun e w' => e = .returned (.tuple #[]) ∧ AtQ A p pc ⟨M, R, nx, f, 0, 0⟩ w w'
    go_enter Try.func80, Try.ntmps80
    go_wp2_with fail
    generalize w.alloc (.cells #[.int .i64 13, .int .i64 d, .int .i64 s, .int .i64 o, .int .u32 m] 149) = WA at b0 b1 b2 b3 b4 lB cs c10 z10 c11 z11 c12 z12 c13 z13 lA HA HM HU ⊢
    go_region
    go_wp2_with fail
    go_region_with (go_at_call 127; (with_reducible refine (CH.out _).mono ?_); rintro e w3 ⟨rfl, hb3⟩; have d4 := (hb3.cell (p := ⟨w.heap.size, 4, none⟩) lB).trans b4; have g11 := (hb3.cell (p := ⟨A, 11, none⟩) lA).trans c11; have y11 := (hb3.frozen (p := ⟨A, 11, none⟩) lA).trans z11; have l3 := Nat.lt_of_lt_of_le lA hb3.size; have B3 := Lib.hid hb3; clear hb3)
    all_goals go_wp2_with fail
    all_goals go_end0
    all_goals exact ⟨rfl, AtQ.ok (HA.out.drew.drew.upto (Upto.of_below (S := fun _ => False) B3.out) id) (HM.out.drew.drew.upto (Upto.of_below (S := fun _ => False) B3.out) id) (HU.out.drew.drew.trans (Upto.of_below B3.out))⟩
  · change Calls Try.prog 80 _ w fun e w' => e = .returned (.tuple #[]) ∧ AtQ A p pc ⟨M, R, w32 (nx + m), f, 0, 0⟩ w w'
    go_enter Try.func80, Try.ntmps80
    go_wp2_with fail
    generalize w.alloc (.cells #[.int .i64 13, .int .i64 d, .int .i64 s, .int .i64 o, .int .u32 m] 149) = WA at b0 b1 b2 b3 b4 lB cs c10 z10 c11 z11 c12 z12 c13 z13 lA HA HM HU ⊢
    go_region
    go_wp2_with fail
    go_region_with (go_at_call 127; (with_reducible refine (CH.out _).mono ?_); rintro e w3 ⟨rfl, hb3⟩; have d4 := (hb3.cell (p := ⟨w.heap.size, 4, none⟩) lB).trans b4; have g11 := (hb3.cell (p := ⟨A, 11, none⟩) lA).trans c11; have y11 := (hb3.frozen (p := ⟨A, 11, none⟩) lA).trans z11; have l3 := Nat.lt_of_lt_of_le lA hb3.size; have B3 := Lib.hid hb3; clear hb3)
    all_goals go_wp2_with fail
    all_goals go_region
    all_goals go_wp2_with fail
    all_goals go_end0
    all_goals exact ⟨rfl, AtQ.ok ((HA.out.drew.drew.upto (Upto.of_below (S := fun _ => False) B3.out) id).setNx (w32 (nx + m))).drew (hc_setA (HM.out.drew.drew.upto (Upto.of_below (S := fun _ => False) B3.out) id) hne).drew (up_setA (HU.out.drew.drew.trans (Upto.of_below B3.out))).drew⟩
end Go.Proofs.Ytcjcmnnhmajocab.St
namespace Go.Proofs.Ytcjcmnnhmajocab.St
open Go.RowKit Kt Me Fl
set_option linter.unusedVariables false
set_option linter.unusedSimpArgs false
variable {A p : Nat} {R : Nat → Int} {pc f nx k x : Int} {W W' : World}
set_option maxRecDepth 100000 in
set_option maxHeartbeats 8000000 in
theorem pl_no (M : MM) (k : Int) (k0 : 1 ≤ k) (k1 : k < 16) (d s : Nat) (o m : Int) (hd : d < 8) (hs : s < 8) (w : World) (h : AtB A p R pc f nx 0 0 w) (hm : HC p M w) (hM : MOk M) (hR : ROk R) (hne : A ≠ p) (m0 : 0 ≤ m) (m1 : m < 4294967296) (f0 : 0 ≤ f) (f1 : f < 16) (o0 : 0 ≤ o) (o1 : o < 16) :
    Calls Try.prog 79 #[.pointer (some ⟨A, 0, none⟩), insL k d s o m] w fun e w' => e = .returned (.bool false) ∧ AtB A p R pc f nx 0 0 w' ∧ HC p M w' ∧ Upto (AS A p) w w' := by
  unfold insL
  have hd0 : (0 : Int) ≤ (d : Int) := by omega
  have hd1 : (d : Int) < 8 := by omega
  have hs0 : (0 : Int) ≤ (s : Int) := by omega
  have hs1 : (s : Int) < 8 := by omega
  have hr := hR d
  have hq := hR s
  have hv := w32_bd (R s + m)
  have ew : (R s + m) % 4294967296 = w32 (R s + m) := rfl
  have lA0 := h.l
  have u0 := (Upto.refl (fun i => False) w).alloc (.cells #[.int .i64 k, .int .i64 d, .int .i64 s, .int .i64 o, .int .u32 m] 149)
  have h1 := h.upto u0 id
  have hm1 := hm.upto u0 id
  have U0 := u0.mono (T := AS A p) (fun _ _ h => h.elim)
  have b0 := box_at w #[.int .i64 k, .int .i64 d, .int .i64 s, .int .i64 o, .int .u32 m] 149 0
  have b1 := box_at w #[.int .i64 k, .int .i64 d, .int .i64 s, .int .i64 o, .int .u32 m] 149 1
  have b2 := box_at w #[.int .i64 k, .int .i64 d, .int .i64 s, .int .i64 o, .int .u32 m] 149 2
  have b3 := box_at w #[.int .i64 k, .int .i64 d, .int .i64 s, .int .i64 o, .int .u32 m] 149 3
  have b4 := box_at w #[.int .i64 k, .int .i64 d, .int .i64 s, .int .i64 o, .int .u32 m] 149 4
  have lB : w.heap.size < (w.alloc (.cells #[.int .i64 k, .int .i64 d, .int .i64 s, .int .i64 o, .int .u32 m] 149)).heap.size := by simp
  simp only [List.getElem?_toArray, List.getElem?_cons_zero, List.getElem?_cons_succ] at b0 b1 b2 b3 b4
  have cd := h1.r d hd
  have cs := h1.r s hs
  have zd := h1.z (1 + d)
  have c10 := h1.c10
  have z10 := h1.z 10
  have lA := h1.l
  have HA := Lib.hid h1
  have HM := Lib.hid hm1
  have HU := Lib.hid U0
  have HB : ¬ AS A p w.heap.size := by
    intro hx; rcases hx with hx | hx
    · omega
    · have hlp : p < w.heap.size := hm.2.2.2.2.2.2
      omega
  have HAB : w.heap.size ≠ A := by omega
  clear h hm u0 h1 hm1 U0
  have k0' : (k == 0) = false := by rw [beq_eq_false_iff_ne]; omega
  have k16' : (k == 16) = false := by rw [beq_eq_false_iff_ne]; omega
  have k17' : (k == 17) = false := by rw [beq_eq_false_iff_ne]; omega
  have k18' : (k == 18) = false := by rw [beq_eq_false_iff_ne]; omega
  have k19' : (k == 19) = false := by rw [beq_eq_false_iff_ne]; omega
  have k20' : (k == 20) = false := by rw [beq_eq_false_iff_ne]; omega
  have k21' : (k == 21) = false := by rw [beq_eq_false_iff_ne]; omega
  have k22' : (k == 22) = false := by rw [beq_eq_false_iff_ne]; omega
  have k23' : (k == 23) = false := by rw [beq_eq_false_iff_ne]; omega
  have k24' : (k == 24) = false := by rw [beq_eq_false_iff_ne]; omega
  have k25' : (k == 25) = false := by rw [beq_eq_false_iff_ne]; omega
  have k26' : (k == 26) = false := by rw [beq_eq_false_iff_ne]; omega
  have k27' : (k == 27) = false := by rw [beq_eq_false_iff_ne]; omega
  have k28' : (k == 28) = false := by rw [beq_eq_false_iff_ne]; omega
  have k29' : (k == 29) = false := by rw [beq_eq_false_iff_ne]; omega
  have k30' : (k == 30) = false := by rw [beq_eq_false_iff_ne]; omega
  have k31' : (k == 31) = false := by rw [beq_eq_false_iff_ne]; omega
  go_enter Try.func79, Try.ntmps79
  go_wp2_with fail
  generalize w.alloc (.cells #[.int .i64 k, .int .i64 d, .int .i64 s, .int .i64 o, .int .u32 m] 149) = WA at b0 b1 b2 b3 b4 lB cd cs zd c10 z10 lA HA HM HU ⊢
  go_region
  go_wp2_with fail
  go_region
  go_wp2_with fail
  go_ret
  exact ⟨rfl, HA.out.drew.drew, HM.out.drew.drew, HU.out.drew.drew⟩
theorem plain_yes (M : MM) (k : Int) (d s : Nat) (o m : Int) (hd : d < 8) (hs : s < 8) (w : World) (h : AtB A p R pc f nx 0 0 w) (hm : HC p M w) (hM : MOk M) (hR : ROk R) (hne : A ≠ p) (m0 : 0 ≤ m) (m1 : m < 4294967296) (f0 : 0 ≤ f) (f1 : f < 16) (o0 : 0 ≤ o) (o1 : o < 16) (hk : k = 0 ∨ 16 ≤ k ∧ k < 32) (h30 : k = 30 → o < 5) (h31 : k = 31 → o < 3) :
    Calls Try.prog 79 #[.pointer (some ⟨A, 0, none⟩), insL k d s o m] w fun e w' => e = .returned (.bool true) ∧ AtQ A p pc (opO M R pc f nx k d s o m) w w' := by
  rcases (show k = 0 ∨ k = 16 ∨ k = 17 ∨ k = 18 ∨ k = 19 ∨ k = 20 ∨ k = 21 ∨ k = 22 ∨ k = 23 ∨ k = 24 ∨ k = 25 ∨ k = 26 ∨ k = 27 ∨ k = 28 ∨ k = 29 ∨ k = 30 ∨ k = 31 by omega) with rfl | rfl | rfl | rfl | rfl | rfl | rfl | rfl | rfl | rfl | rfl | rfl | rfl | rfl | rfl | rfl | rfl
  · exact pl_0 M d s o m hd hs w h hm hM hR hne m0 m1 f0 f1 o0 o1
  · exact pl_16 M d s o m hd hs w h hm hM hR hne m0 m1 f0 f1 o0 o1
  · exact pl_17 M d s o m hd hs w h hm hM hR hne m0 m1 f0 f1 o0 o1
  · exact pl_18 M d s o m hd hs w h hm hM hR hne m0 m1 f0 f1 o0 o1
  · exact pl_19 M d s o m hd hs w h hm hM hR hne m0 m1 f0 f1 o0 o1
  · exact pl_20 M d s o m hd hs w h hm hM hR hne m0 m1 f0 f1 o0 o1
  · exact pl_21 M d s o m hd hs w h hm hM hR hne m0 m1 f0 f1 o0 o1
  · exact pl_22 M d s o m hd hs w h hm hM hR hne m0 m1 f0 f1 o0 o1
  · exact pl_23 M d s o m hd hs w h hm hM hR hne m0 m1 f0 f1 o0 o1
  · exact pl_24 M d s o m hd hs w h hm hM hR hne m0 m1 f0 f1 o0 o1
  · exact pl_25 M d s o m hd hs w h hm hM hR hne m0 m1 f0 f1 o0 o1
  · exact pl_26 M d s o m hd hs w h hm hM hR hne m0 m1 f0 f1 o0 o1
  · exact pl_27 M d s o m hd hs w h hm hM hR hne m0 m1 f0 f1 o0 o1
  · exact pl_28 M d s o m hd hs w h hm hM hR hne m0 m1 f0 f1 o0 o1
  · exact pl_29 M d s o m hd hs w h hm hM hR hne m0 m1 f0 f1 o0 o1
  · exact pl_30 M d s o m hd hs w h hm hM hR hne m0 m1 f0 f1 o0 o1 (h30 rfl)
  · exact pl_31 M d s o m hd hs w h hm hM hR hne m0 m1 f0 f1 o0 o1 (h31 rfl)
theorem moves_yes (M : MM) (k : Int) (d s : Nat) (o m : Int) (hd : d < 8) (hs : s < 8) (w : World) (h : AtB A p R pc f nx 0 0 w) (hm : HC p M w) (hM : MOk M) (hR : ROk R) (hne : A ≠ p) (m0 : 0 ≤ m) (m1 : m < 4294967296) (f0 : 0 ≤ f) (f1 : f < 16) (o0 : 0 ≤ o) (o1 : o < 16) (x0 : 0 ≤ nx) (x1 : nx < 4294967296) (hk : 1 ≤ k ∧ k < 16) :
    Calls Try.prog 80 #[.pointer (some ⟨A, 0, none⟩), insL k d s o m] w fun e w' => e = .returned (.tuple #[]) ∧ AtQ A p pc (opO M R pc f nx k d s o m) w w' := by
  rcases (show k = 1 ∨ k = 2 ∨ k = 3 ∨ k = 4 ∨ k = 5 ∨ k = 6 ∨ k = 7 ∨ k = 8 ∨ k = 9 ∨ k = 10 ∨ k = 11 ∨ k = 12 ∨ k = 13 ∨ k = 14 ∨ k = 15 by omega) with rfl | rfl | rfl | rfl | rfl | rfl | rfl | rfl | rfl | rfl | rfl | rfl | rfl | rfl | rfl
  · exact mv_1 M d s o m hd hs w h hm hM hR hne m0 m1 f0 f1 o0 o1 x0 x1
  · exact mv_2 M d s o m hd hs w h hm hM hR hne m0 m1 f0 f1 o0 o1 x0 x1
  · exact mv_3 M d s o m hd hs w h hm hM hR hne m0 m1 f0 f1 o0 o1 x0 x1
  · exact mv_4 M d s o m hd hs w h hm hM hR hne m0 m1 f0 f1 o0 o1 x0 x1
  · exact mv_5 M d s o m hd hs w h hm hM hR hne m0 m1 f0 f1 o0 o1 x0 x1
  · exact mv_6 M d s o m hd hs w h hm hM hR hne m0 m1 f0 f1 o0 o1 x0 x1
  · exact mv_7 M d s o m hd hs w h hm hM hR hne m0 m1 f0 f1 o0 o1 x0 x1
  · exact mv_8 M d s o m hd hs w h hm hM hR hne m0 m1 f0 f1 o0 o1 x0 x1
  · exact mv_9 M d s o m hd hs w h hm hM hR hne m0 m1 f0 f1 o0 o1 x0 x1
  · exact mv_10 M d s o m hd hs w h hm hM hR hne m0 m1 f0 f1 o0 o1 x0 x1
  · exact mv_11 M d s o m hd hs w h hm hM hR hne m0 m1 f0 f1 o0 o1 x0 x1
  · exact mv_12 M d s o m hd hs w h hm hM hR hne m0 m1 f0 f1 o0 o1 x0 x1
  · exact mv_13 M d s o m hd hs w h hm hM hR hne m0 m1 f0 f1 o0 o1 x0 x1
  · exact mv_14 M d s o m hd hs w h hm hM hR hne m0 m1 f0 f1 o0 o1 x0 x1
  · exact mv_15 M d s o m hd hs w h hm hM hR hne m0 m1 f0 f1 o0 o1 x0 x1
end Go.Proofs.Ytcjcmnnhmajocab.St
