/- interp's instruction under way: plain. -/
import Derived.RegionTactic
import Derived.BigRegion
import Derived.Deep.RegionWith
import Derived.Deep.RegionHeld3
import Derived.Test.YtcjcmnnhmajocabPkah
import Derived.Test.YtcjcmnnhmajocabPkao
import Derived.Test.YtcjcmnnhmajocabPkap
namespace Go.Proofs.Ytcjcmnnhmajocab.St
open Go.RowKit Kt Me Fl
set_option linter.unusedVariables false
set_option linter.unusedSimpArgs false
variable {A p : Nat} {R : Nat → Int} {pc f nx k x : Int} {W W' : World}
set_option maxRecDepth 100000 in
set_option maxHeartbeats 8000000 in
theorem pl_0 (M : MM) (d s : Nat) (o m : Int) (hd : d < 8) (hs : s < 8) (w : World) (h : AtB A p R pc f nx 0 0 w) (hm : HC p M w) (hM : MOk M) (hR : ROk R) (hne : A ≠ p) (m0 : 0 ≤ m) (m1 : m < 4294967296) (f0 : 0 ≤ f) (f1 : f < 16) (o0 : 0 ≤ o) (o1 : o < 16) :
    Calls Try.prog 79 #[.pointer (some ⟨A, 0, none⟩), insL 0 d s o m] w fun e w' => e = .returned (.bool true) ∧ AtQ A p pc (opO M R pc f nx 0 d s o m) w w' := by
  have eO : opO M R pc f nx 0 d s o m = ⟨M, R, nx, f, 0, 0⟩ := rfl
  rw [eO]
  unfold insL
  clear eO
  have hd0 : (0 : Int) ≤ (d : Int) := by omega
  have hd1 : (d : Int) < 8 := by omega
  have hs0 : (0 : Int) ≤ (s : Int) := by omega
  have hs1 : (s : Int) < 8 := by omega
  have hr := hR d
  have hq := hR s
  have hv := w32_bd (R s + m)
  have ew : (R s + m) % 4294967296 = w32 (R s + m) := rfl
  have lA0 := h.l
  have u0 := (Upto.refl (fun i => False) w).alloc (.cells #[.int .i64 0, .int .i64 d, .int .i64 s, .int .i64 o, .int .u32 m] 149)
  have h1 := h.upto u0 id
  have hm1 := hm.upto u0 id
  have U0 := u0.mono (T := AS A p) (fun _ _ h => h.elim)
  have b0 := box_at w #[.int .i64 0, .int .i64 d, .int .i64 s, .int .i64 o, .int .u32 m] 149 0
  have b1 := box_at w #[.int .i64 0, .int .i64 d, .int .i64 s, .int .i64 o, .int .u32 m] 149 1
  have b2 := box_at w #[.int .i64 0, .int .i64 d, .int .i64 s, .int .i64 o, .int .u32 m] 149 2
  have b3 := box_at w #[.int .i64 0, .int .i64 d, .int .i64 s, .int .i64 o, .int .u32 m] 149 3
  have b4 := box_at w #[.int .i64 0, .int .i64 d, .int .i64 s, .int .i64 o, .int .u32 m] 149 4
  have lB : w.heap.size < (w.alloc (.cells #[.int .i64 0, .int .i64 d, .int .i64 s, .int .i64 o, .int .u32 m] 149)).heap.size := by simp
  simp only [List.getElem?_toArray, List.getElem?_cons_zero, List.getElem?_cons_succ] at b0 b1 b2 b3 b4
  have cd := h1.r d hd
  have cs := h1.r s hs
  have zd := h1.z (1 + d)
  have c10 := h1.c10
  have z10 := h1.z 10
  have lA := h1.l
  have HA := Lib.hid h1
  have HM := Lib.hid hm1
  have HU := Lib.hid U0
  have HB : ¬ AS A p w.heap.size := by
    intro hx; rcases hx with hx | hx
    · omega
    · have hlp : p < w.heap.size := hm.2.2.2.2.2.2
      omega
  have HAB : w.heap.size ≠ A := by omega
  clear h hm u0 h1 hm1 U0
  go_enter Try.func79, Try.ntmps79
  go_wp2_with fail
  generalize w.alloc (.cells #[.int .i64 0, .int .i64 d, .int .i64 s, .int .i64 o, .int .u32 m] 149) = WA at b0 b1 b2 b3 b4 lB cd cs zd c10 z10 lA HA HM HU ⊢
  go_region
  go_wp2_with fail
  go_region
  go_wp2_with fail
  go_ret
  exact ⟨rfl, AtQ.ok HA.out.drew.drew HM.out.drew.drew HU.out.drew.drew⟩
set_option maxRecDepth 100000 in
set_option maxHeartbeats 8000000 in
theorem pl_16 (M : MM) (d s : Nat) (o m : Int) (hd : d < 8) (hs : s < 8) (w : World) (h : AtB A p R pc f nx 0 0 w) (hm : HC p M w) (hM : MOk M) (hR : ROk R) (hne : A ≠ p) (m0 : 0 ≤ m) (m1 : m < 4294967296) (f0 : 0 ≤ f) (f1 : f < 16) (o0 : 0 ≤ o) (o1 : o < 16) :
    Calls Try.prog 79 #[.pointer (some ⟨A, 0, none⟩), insL 16 d s o m] w fun e w' => e = .returned (.bool true) ∧ AtQ A p pc (opO M R pc f nx 16 d s o m) w w' := by
  have eO : opO M R pc f nx 16 d s o m = ⟨M, upd R d m, nx, f, 0, 0⟩ := rfl
  rw [eO]
  unfold insL
  clear eO
  have hd0 : (0 : Int) ≤ (d : Int) := by omega
  have hd1 : (d : Int) < 8 := by omega
  have hs0 : (0 : Int) ≤ (s : Int) := by omega
  have hs1 : (s : Int) < 8 := by omega
  have hr := hR d
  have hq := hR s
  have hv := w32_bd (R s + m)
  have ew : (R s + m) % 4294967296 = w32 (R s + m) := rfl
  have lA0 := h.l
  have u0 := (Upto.refl (fun i => False) w).alloc (.cells #[.int .i64 16, .int .i64 d, .int .i64 s, .int .i64 o, .int .u32 m] 149)
  have h1 := h.upto u0 id
  have hm1 := hm.upto u0 id
  have U0 := u0.mono (T := AS A p) (fun _ _ h => h.elim)
  have b0 := box_at w #[.int .i64 16, .int .i64 d, .int .i64 s, .int .i64 o, .int .u32 m] 149 0
  have b1 := box_at w #[.int .i64 16, .int .i64 d, .int .i64 s, .int .i64 o, .int .u32 m] 149 1
  have b2 := box_at w #[.int .i64 16, .int .i64 d, .int .i64 s, .int .i64 o, .int .u32 m] 149 2
  have b3 := box_at w #[.int .i64 16, .int .i64 d, .int .i64 s, .int .i64 o, .int .u32 m] 149 3
  have b4 := box_at w #[.int .i64 16, .int .i64 d, .int .i64 s, .int .i64 o, .int .u32 m] 149 4
  have lB : w.heap.size < (w.alloc (.cells #[.int .i64 16, .int .i64 d, .int .i64 s, .int .i64 o, .int .u32 m] 149)).heap.size := by simp
  simp only [List.getElem?_toArray, List.getElem?_cons_zero, List.getElem?_cons_succ] at b0 b1 b2 b3 b4
  have cd := h1.r d hd
  have cs := h1.r s hs
  have zd := h1.z (1 + d)
  have c10 := h1.c10
  have z10 := h1.z 10
  have lA := h1.l
  have HA := Lib.hid h1
  have HM := Lib.hid hm1
  have HU := Lib.hid U0
  have HB : ¬ AS A p w.heap.size := by
    intro hx; rcases hx with hx | hx
    · omega
    · have hlp : p < w.heap.size := hm.2.2.2.2.2.2
      omega
  have HAB : w.heap.size ≠ A := by omega
  clear h hm u0 h1 hm1 U0
  go_enter Try.func79, Try.ntmps79
  go_wp2_with fail
  generalize w.alloc (.cells #[.int .i64 16, .int .i64 d, .int .i64 s, .int .i64 o, .int .u32 m] 149) = WA at b0 b1 b2 b3 b4 lB cd cs zd c10 z10 lA HA HM HU ⊢
  go_region
  go_wp2_with fail
  go_region
  go_wp2_with fail
  go_region
  go_wp2_with fail
  go_ret
  exact ⟨rfl, AtQ.ok (HA.out.drew.drew.setR d hd m).drew (hc_setA HM.out.drew.drew hne).drew (up_setA HU.out.drew.drew).drew⟩
set_option maxRecDepth 100000 in
set_option maxHeartbeats 8000000 in
theorem pl_20 (M : MM) (d s : Nat) (o m : Int) (hd : d < 8) (hs : s < 8) (w : World) (h : AtB A p R pc f nx 0 0 w) (hm : HC p M w) (hM : MOk M) (hR : ROk R) (hne : A ≠ p) (m0 : 0 ≤ m) (m1 : m < 4294967296) (f0 : 0 ≤ f) (f1 : f < 16) (o0 : 0 ≤ o) (o1 : o < 16) :
    Calls Try.prog 79 #[.pointer (some ⟨A, 0, none⟩), insL 20 d s o m] w fun e w' => e = .returned (.bool true) ∧ AtQ A p pc (opO M R pc f nx 20 d s o m) w w' := by
  have eO : opO M R pc f nx 20 d s o m = ⟨M, upd R d (4294967295 - R d), nx, f, 0, 0⟩ := rfl
  rw [eO]
  unfold insL
  clear eO
  have hd0 : (0 : Int) ≤ (d : Int) := by omega
  have hd1 : (d : Int) < 8 := by omega
  have hs0 : (0 : Int) ≤ (s : Int) := by omega
  have hs1 : (s : Int) < 8 := by omega
  have hr := hR d
  have hq := hR s
  have hv := w32_bd (R s + m)
  have ew : (R s + m) % 4294967296 = w32 (R s + m) := rfl
  have lA0 := h.l
  have u0 := (Upto.refl (fun i => False) w).alloc (.cells #[.int .i64 20, .int .i64 d, .int .i64 s, .int .i64 o, .int .u32 m] 149)
  have h1 := h.upto u0 id
  have hm1 := hm.upto u0 id
  have U0 := u0.mono (T := AS A p) (fun _ _ h => h.elim)
  have b0 := box_at w #[.int .i64 20, .int .i64 d, .int .i64 s, .int .i64 o, .int .u32 m] 149 0
  have b1 := box_at w #[.int .i64 20, .int .i64 d, .int .i64 s, .int .i64 o, .int .u32 m] 149 1
  have b2 := box_at w #[.int .i64 20, .int .i64 d, .int .i64 s, .int .i64 o, .int .u32 m] 149 2
  have b3 := box_at w #[.int .i64 20, .int .i64 d, .int .i64 s, .int .i64 o, .int .u32 m] 149 3
  have b4 := box_at w #[.int .i64 20, .int .i64 d, .int .i64 s, .int .i64 o, .int .u32 m] 149 4
  have lB : w.heap.size < (w.alloc (.cells #[.int .i64 20, .int .i64 d, .int .i64 s, .int .i64 o, .int .u32 m] 149)).heap.size := by simp
  simp only [List.getElem?_toArray, List.getElem?_cons_zero, List.getElem?_cons_succ] at b0 b1 b2 b3 b4
  have cd := h1.r d hd
  have cs := h1.r s hs
  have zd := h1.z (1 + d)
  have c10 := h1.c10
  have z10 := h1.z 10
  have lA := h1.l
  have HA := Lib.hid h1
  have HM := Lib.hid hm1
  have HU := Lib.hid U0
  have HB : ¬ AS A p w.heap.size := by
    intro hx; rcases hx with hx | hx
    · omega
    · have hlp : p < w.heap.size := hm.2.2.2.2.2.2
      omega
  have HAB : w.heap.size ≠ A := by omega
  clear h hm u0 h1 hm1 U0
  have ex := not32 (R d) hr.1 hr.2
  go_enter Try.func79, Try.ntmps79
  go_wp2_with fail
  generalize w.alloc (.cells #[.int .i64 20, .int .i64 d, .int .i64 s, .int .i64 o, .int .u32 m] 149) = WA at b0 b1 b2 b3 b4 lB cd cs zd c10 z10 lA HA HM HU ⊢
  go_region
  go_wp2_with fail
  go_region
  go_wp2_with fail
  go_region
  go_wp2_with fail
  go_ret
  exact ⟨rfl, AtQ.ok (HA.out.drew.drew.setR d hd (4294967295 - R d)).drew (hc_setA HM.out.drew.drew hne).drew (up_setA HU.out.drew.drew).drew⟩
set_option maxRecDepth 100000 in
set_option maxHeartbeats 8000000 in
theorem pl_22 (M : MM) (d s : Nat) (o m : Int) (hd : d < 8) (hs : s < 8) (w : World) (h : AtB A p R pc f nx 0 0 w) (hm : HC p M w) (hM : MOk M) (hR : ROk R) (hne : A ≠ p) (m0 : 0 ≤ m) (m1 : m < 4294967296) (f0 : 0 ≤ f) (f1 : f < 16) (o0 : 0 ≤ o) (o1 : o < 16) :
    Calls Try.prog 79 #[.pointer (some ⟨A, 0, none⟩), insL 22 d s o m] w fun e w' => e = .returned (.bool true) ∧ AtQ A p pc (opO M R pc f nx 22 d s o m) w w' := by
  have eO : opO M R pc f nx 22 d s o m = ⟨M, upd R d (R s), nx, f, 0, 0⟩ := rfl
  rw [eO]
  unfold insL
  clear eO
  have hd0 : (0 : Int) ≤ (d : Int) := by omega
  have hd1 : (d : Int) < 8 := by omega
  have hs0 : (0 : Int) ≤ (s : Int) := by omega
  have hs1 : (s : Int) < 8 := by omega
  have hr := hR d
  have hq := hR s
  have hv := w32_bd (R s + m)
  have ew : (R s + m) % 4294967296 = w32 (R s + m) := rfl
  have lA0 := h.l
  have u0 := (Upto.refl (fun i => False) w).alloc (.cells #[.int .i64 22, .int .i64 d, .int .i64 s, .int .i64 o, .int .u32 m] 149)
  have h1 := h.upto u0 id
  have hm1 := hm.upto u0 id
  have U0 := u0.mono (T := AS A p) (fun _ _ h => h.elim)
  have b0 := box_at w #[.int .i64 22, .int .i64 d, .int .i64 s, .int .i64 o, .int .u32 m] 149 0
  have b1 := box_at w #[.int .i64 22, .int .i64 d, .int .i64 s, .int .i64 o, .int .u32 m] 149 1
  have b2 := box_at w #[.int .i64 22, .int .i64 d, .int .i64 s, .int .i64 o, .int .u32 m] 149 2
  have b3 := box_at w #[.int .i64 22, .int .i64 d, .int .i64 s, .int .i64 o, .int .u32 m] 149 3
  have b4 := box_at w #[.int .i64 22, .int .i64 d, .int .i64 s, .int .i64 o, .int .u32 m] 149 4
  have lB : w.heap.size < (w.alloc (.cells #[.int .i64 22, .int .i64 d, .int .i64 s, .int .i64 o, .int .u32 m] 149)).heap.size := by simp
  simp only [List.getElem?_toArray, List.getElem?_cons_zero, List.getElem?_cons_succ] at b0 b1 b2 b3 b4
  have cd := h1.r d hd
  have cs := h1.r s hs
  have zd := h1.z (1 + d)
  have c10 := h1.c10
  have z10 := h1.z 10
  have lA := h1.l
  have HA := Lib.hid h1
  have HM := Lib.hid hm1
  have HU := Lib.hid U0
  have HB : ¬ AS A p w.heap.size := by
    intro hx; rcases hx with hx | hx
    · omega
    · have hlp : p < w.heap.size := hm.2.2.2.2.2.2
      omega
  have HAB : w.heap.size ≠ A := by omega
  clear h hm u0 h1 hm1 U0
  go_enter Try.func79, Try.ntmps79
  go_wp2_with fail
  generalize w.alloc (.cells #[.int .i64 22, .int .i64 d, .int .i64 s, .int .i64 o, .int .u32 m] 149) = WA at b0 b1 b2 b3 b4 lB cd cs zd c10 z10 lA HA HM HU ⊢
  go_region
  go_wp2_with fail
  go_region
  go_wp2_with fail
  go_region
  go_wp2_with fail
  go_ret
  exact ⟨rfl, AtQ.ok (HA.out.drew.drew.setR d hd (R s)).drew (hc_setA HM.out.drew.drew hne).drew (up_setA HU.out.drew.drew).drew⟩
set_option maxRecDepth 100000 in
set_option maxHeartbeats 8000000 in
theorem pl_23 (M : MM) (d s : Nat) (o m : Int) (hd : d < 8) (hs : s < 8) (w : World) (h : AtB A p R pc f nx 0 0 w) (hm : HC p M w) (hM : MOk M) (hR : ROk R) (hne : A ≠ p) (m0 : 0 ≤ m) (m1 : m < 4294967296) (f0 : 0 ≤ f) (f1 : f < 16) (o0 : 0 ≤ o) (o1 : o < 16) :
    Calls Try.prog 79 #[.pointer (some ⟨A, 0, none⟩), insL 23 d s o m] w fun e w' => e = .returned (.bool true) ∧ AtQ A p pc (opO M R pc f nx 23 d s o m) w w' := by
  have eO : opO M R pc f nx 23 d s o m = ⟨M, upd R d (w32 (R s + m)), nx, f, 0, 0⟩ := rfl
  rw [eO]
  unfold insL
  clear eO
  have hd0 : (0 : Int) ≤ (d : Int) := by omega
  have hd1 : (d : Int) < 8 := by omega
  have hs0 : (0 : Int) ≤ (s : Int) := by omega
  have hs1 : (s : Int) < 8 := by omega
  have hr := hR d
  have hq := hR s
  have hv := w32_bd (R s + m)
  have ew : (R s + m) % 4294967296 = w32 (R s + m) := rfl
  have lA0 := h.l
  have u0 := (Upto.refl (fun i => False) w).alloc (.cells #[.int .i64 23, .int .i64 d, .int .i64 s, .int .i64 o, .int .u32 m] 149)
  have h1 := h.upto u0 id
  have hm1 := hm.upto u0 id
  have U0 := u0.mono (T := AS A p) (fun _ _ h => h.elim)
  have b0 := box_at w #[.int .i64 23, .int .i64 d, .int .i64 s, .int .i64 o, .int .u32 m] 149 0
  have b1 := box_at w #[.int .i64 23, .int .i64 d, .int .i64 s, .int .i64 o, .int .u32 m] 149 1
  have b2 := box_at w #[.int .i64 23, .int .i64 d, .int .i64 s, .int .i64 o, .int .u32 m] 149 2
  have b3 := box_at w #[.int .i64 23, .int .i64 d, .int .i64 s, .int .i64 o, .int .u32 m] 149 3
  have b4 := box_at w #[.int .i64 23, .int .i64 d, .int .i64 s, .int .i64 o, .int .u32 m] 149 4
  have lB : w.heap.size < (w.alloc (.cells #[.int .i64 23, .int .i64 d, .int .i64 s, .int .i64 o, .int .u32 m] 149)).heap.size := by simp
  simp only [List.getElem?_toArray, List.getElem?_cons_zero, List.getElem?_cons_succ] at b0 b1 b2 b3 b4
  have cd := h1.r d hd
  have cs := h1.r s hs
  have zd := h1.z (1 + d)
  have c10 := h1.c10
  have z10 := h1.z 10
  have lA := h1.l
  have HA := Lib.hid h1
  have HM := Lib.hid hm1
  have HU := Lib.hid U0
  have HB : ¬ AS A p w.heap.size := by
    intro hx; rcases hx with hx | hx
    · omega
    · have hlp : p < w.heap.size := hm.2.2.2.2.2.2
      omega
  have HAB : w.heap.size ≠ A := by omega
  clear h hm u0 h1 hm1 U0
  go_enter Try.func79, Try.ntmps79
  go_wp2_with fail
  generalize w.alloc (.cells #[.int .i64 23, .int .i64 d, .int .i64 s, .int .i64 o, .int .u32 m] 149) = WA at b0 b1 b2 b3 b4 lB cd cs zd c10 z10 lA HA HM HU ⊢
  go_region
  go_wp2_with fail
  go_region
  go_wp2_with fail
  go_region
  go_wp2_with fail
  go_ret
  exact ⟨rfl, AtQ.ok (HA.out.drew.drew.setR d hd (w32 (R s + m))).drew (hc_setA HM.out.drew.drew hne).drew (up_setA HU.out.drew.drew).drew⟩
end Go.Proofs.Ytcjcmnnhmajocab.St
namespace Go.Proofs.Ytcjcmnnhmajocab.St
open Go.RowKit Kt Me Fl
set_option linter.unusedVariables false
set_option linter.unusedSimpArgs false
variable {A p : Nat} {R : Nat → Int} {pc f nx k x : Int} {W W' : World}
theorem keep21 {W : World} {B d : Nat} {x1 x3 x10 xd : Value} (hB : B ≠ A) (h1 : W.cell? ⟨B, 1, none⟩ = some x1) (h3 : W.cell? ⟨B, 3, none⟩ = some x3) (h10 : W.cell? ⟨A, 10, none⟩ = some x10) (hdd : W.cell? ⟨A, 1 + d, none⟩ = some xd) (hz : W.frozen? ⟨A, 1 + d, none⟩ = false) (hd9 : d < 9) (v : Value) :
    (W.setCell ⟨A, 1 + d, none⟩ v).cell? ⟨B, 1, none⟩ = some x1 ∧ (W.setCell ⟨A, 1 + d, none⟩ v).cell? ⟨B, 3, none⟩ = some x3 ∧ (W.setCell ⟨A, 1 + d, none⟩ v).cell? ⟨A, 10, none⟩ = some x10 ∧ ((W.setCell ⟨A, 1 + d, none⟩ v).cell? ⟨A, 1 + d, none⟩).isSome = true ∧ (W.setCell ⟨A, 1 + d, none⟩ v).frozen? ⟨A, 1 + d, none⟩ = false := by
  have nB : ∀ i j, (⟨A, j, none⟩ : Addr) ≠ ⟨B, i, none⟩ := fun i j hx => hB (congrArg Addr.block hx).symm
  refine ⟨(World.cell?_setCell_other _ _ _ _ (nB _ _)).trans h1, (World.cell?_setCell_other _ _ _ _ (nB _ _)).trans h3, (off (by omega)).trans h10, ?_, ?_⟩
  · rw [World.cell?_setCell_same _ _ _ hdd]; rfl
  · simpa using hz
set_option maxRecDepth 100000 in
set_option maxHeartbeats 8000000 in
theorem pl_17 (M : MM) (d s : Nat) (o m : Int) (hd : d < 8) (hs : s < 8) (w : World) (h : AtB A p R pc f nx 0 0 w) (hm : HC p M w) (hM : MOk M) (hR : ROk R) (hne : A ≠ p) (m0 : 0 ≤ m) (m1 : m < 4294967296) (f0 : 0 ≤ f) (f1 : f < 16) (o0 : 0 ≤ o) (o1 : o < 16) :
    Calls Try.prog 79 #[.pointer (some ⟨A, 0, none⟩), insL 17 d s o m] w fun e w' => e = .returned (.bool true) ∧ AtQ A p pc (opO M R pc f nx 17 d s o m) w w' := by
  have eO : opO M R pc f nx 17 d s o m = ⟨M, upd R d (w32 (R d + 1)), nx, fl 11 (R d) 0 f, 0, 0⟩ := rfl
  rw [eO]
  unfold insL
  clear eO
  have hd0 : (0 : Int) ≤ (d : Int) := by omega
  have hd1 : (d : Int) < 8 := by omega
  have hs0 : (0 : Int) ≤ (s : Int) := by omega
  have hs1 : (s : Int) < 8 := by omega
  have hr := hR d
  have hq := hR s
  have hv := w32_bd (R s + m)
  have ew : (R s + m) % 4294967296 = w32 (R s + m) := rfl
  have lA0 := h.l
  have u0 := (Upto.refl (fun i => False) w).alloc (.cells #[.int .i64 17, .int .i64 d, .int .i64 s, .int .i64 o, .int .u32 m] 149)
  have h1 := h.upto u0 id
  have hm1 := hm.upto u0 id
  have U0 := u0.mono (T := AS A p) (fun _ _ h => h.elim)
  have b0 := box_at w #[.int .i64 17, .int .i64 d, .int .i64 s, .int .i64 o, .int .u32 m] 149 0
  have b1 := box_at w #[.int .i64 17, .int .i64 d, .int .i64 s, .int .i64 o, .int .u32 m] 149 1
  have b2 := box_at w #[.int .i64 17, .int .i64 d, .int .i64 s, .int .i64 o, .int .u32 m] 149 2
  have b3 := box_at w #[.int .i64 17, .int .i64 d, .int .i64 s, .int .i64 o, .int .u32 m] 149 3
  have b4 := box_at w #[.int .i64 17, .int .i64 d, .int .i64 s, .int .i64 o, .int .u32 m] 149 4
  have lB : w.heap.size < (w.alloc (.cells #[.int .i64 17, .int .i64 d, .int .i64 s, .int .i64 o, .int .u32 m] 149)).heap.size := by simp
  simp only [List.getElem?_toArray, List.getElem?_cons_zero, List.getElem?_cons_succ] at b0 b1 b2 b3 b4
  have cd := h1.r d hd
  have cs := h1.r s hs
  have zd := h1.z (1 + d)
  have c10 := h1.c10
  have z10 := h1.z 10
  have lA := h1.l
  have HA := Lib.hid h1
  have HM := Lib.hid hm1
  have HU := Lib.hid U0
  have HB : ¬ AS A p w.heap.size := by
    intro hx; rcases hx with hx | hx
    · omega
    · have hlp : p < w.heap.size := hm.2.2.2.2.2.2
      omega
  have HAB : w.heap.size ≠ A := by omega
  clear h hm u0 h1 hm1 U0
  have CF := Lib.hid (fun w => flags_any 11 (R d) 0 f w hr.1 hr.2 (by omega) (by omega) f0 (by omega))
  go_enter Try.func79, Try.ntmps79
  go_wp2_with fail
  generalize w.alloc (.cells #[.int .i64 17, .int .i64 d, .int .i64 s, .int .i64 o, .int .u32 m] 149) = WA at b0 b1 b2 b3 b4 lB cd cs zd c10 z10 lA HA HM HU ⊢
  go_region
  go_wp2_with fail
  go_region
  go_wp2_with fail
  go_region_with (go_at_call 125; (with_reducible refine (CF.out _).mono ?_); rintro e w3 ⟨rfl, rfl⟩)
  all_goals go_wp2_with fail
  all_goals go_ret
  all_goals exact ⟨rfl, AtQ.ok ((HA.out.drew.drew.setR d hd (w32 (R d + 1))).setF _).drew (hc_setA (hc_setA HM.out.drew.drew hne) hne).drew (up_setA (up_setA HU.out.drew.drew)).drew⟩
set_option maxRecDepth 100000 in
set_option maxHeartbeats 8000000 in
theorem pl_18 (M : MM) (d s : Nat) (o m : Int) (hd : d < 8) (hs : s < 8) (w : World) (h : AtB A p R pc f nx 0 0 w) (hm : HC p M w) (hM : MOk M) (hR : ROk R) (hne : A ≠ p) (m0 : 0 ≤ m) (m1 : m < 4294967296) (f0 : 0 ≤ f) (f1 : f < 16) (o0 : 0 ≤ o) (o1 : o < 16) :
    Calls Try.prog 79 #[.pointer (some ⟨A, 0, none⟩), insL 18 d s o m] w fun e w' => e = .returned (.bool true) ∧ AtQ A p pc (opO M R pc f nx 18 d s o m) w w' := by
  have eO : opO M R pc f nx 18 d s o m = ⟨M, upd R d (w32 (R d - 1)), nx, fl 12 (R d) 0 f, 0, 0⟩ := rfl
  rw [eO]
  unfold insL
  clear eO
  have hd0 : (0 : Int) ≤ (d : Int) := by omega
  have hd1 : (d : Int) < 8 := by omega
  have hs0 : (0 : Int) ≤ (s : Int) := by omega
  have hs1 : (s : Int) < 8 := by omega
  have hr := hR d
  have hq := hR s
  have hv := w32_bd (R s + m)
  have ew : (R s + m) % 4294967296 = w32 (R s + m) := rfl
  have lA0 := h.l
  have u0 := (Upto.refl (fun i => False) w).alloc (.cells #[.int .i64 18, .int .i64 d, .int .i64 s, .int .i64 o, .int .u32 m] 149)
  have h1 := h.upto u0 id
  have hm1 := hm.upto u0 id
  have U0 := u0.mono (T := AS A p) (fun _ _ h => h.elim)
  have b0 := box_at w #[.int .i64 18, .int .i64 d, .int .i64 s, .int .i64 o, .int .u32 m] 149 0
  have b1 := box_at w #[.int .i64 18, .int .i64 d, .int .i64 s, .int .i64 o, .int .u32 m] 149 1
  have b2 := box_at w #[.int .i64 18, .int .i64 d, .int .i64 s, .int .i64 o, .int .u32 m] 149 2
  have b3 := box_at w #[.int .i64 18, .int .i64 d, .int .i64 s, .int .i64 o, .int .u32 m] 149 3
  have b4 := box_at w #[.int .i64 18, .int .i64 d, .int .i64 s, .int .i64 o, .int .u32 m] 149 4
  have lB : w.heap.size < (w.alloc (.cells #[.int .i64 18, .int .i64 d, .int .i64 s, .int .i64 o, .int .u32 m] 149)).heap.size := by simp
  simp only [List.getElem?_toArray, List.getElem?_cons_zero, List.getElem?_cons_succ] at b0 b1 b2 b3 b4
  have cd := h1.r d hd
  have cs := h1.r s hs
  have zd := h1.z (1 + d)
  have c10 := h1.c10
  have z10 := h1.z 10
  have lA := h1.l
  have HA := Lib.hid h1
  have HM := Lib.hid hm1
  have HU := Lib.hid U0
  have HB : ¬ AS A p w.heap.size := by
    intro hx; rcases hx with hx | hx
    · omega
    · have hlp : p < w.heap.size := hm.2.2.2.2.2.2
      omega
  have HAB : w.heap.size ≠ A := by omega
  clear h hm u0 h1 hm1 U0
  have CF := Lib.hid (fun w => flags_any 12 (R d) 0 f w hr.1 hr.2 (by omega) (by omega) f0 (by omega))
  go_enter Try.func79, Try.ntmps79
  go_wp2_with fail
  generalize w.alloc (.cells #[.int .i64 18, .int .i64 d, .int .i64 s, .int .i64 o, .int .u32 m] 149) = WA at b0 b1 b2 b3 b4 lB cd cs zd c10 z10 lA HA HM HU ⊢
  go_region
  go_wp2_with fail
  go_region
  go_wp2_with fail
  go_region_with (go_at_call 125; (with_reducible refine (CF.out _).mono ?_); rintro e w3 ⟨rfl, rfl⟩)
  all_goals go_wp2_with fail
  all_goals go_ret
  all_goals exact ⟨rfl, AtQ.ok ((HA.out.drew.drew.setR d hd (w32 (R d - 1))).setF _).drew (hc_setA (hc_setA HM.out.drew.drew hne) hne).drew (up_setA (up_setA HU.out.drew.drew)).drew⟩
set_option maxRecDepth 100000 in
set_option maxHeartbeats 8000000 in
theorem pl_19 (M : MM) (d s : Nat) (o m : Int) (hd : d < 8) (hs : s < 8) (w : World) (h : AtB A p R pc f nx 0 0 w) (hm : HC p M w) (hM : MOk M) (hR : ROk R) (hne : A ≠ p) (m0 : 0 ≤ m) (m1 : m < 4294967296) (f0 : 0 ≤ f) (f1 : f < 16) (o0 : 0 ≤ o) (o1 : o < 16) :
    Calls Try.prog 79 #[.pointer (some ⟨A, 0, none⟩), insL 19 d s o m] w fun e w' => e = .returned (.bool true) ∧ AtQ A p pc (opO M R pc f nx 19 d s o m) w w' := by
  have eO : opO M R pc f nx 19 d s o m = ⟨M, upd R d (w32 (- R d)), nx, fl 3 0 (R d) f, 0, 0⟩ := rfl
  rw [eO]
  unfold insL
  clear eO
  have hd0 : (0 : Int) ≤ (d : Int) := by omega
  have hd1 : (d : Int) < 8 := by omega
  have hs0 : (0 : Int) ≤ (s : Int) := by omega
  have hs1 : (s : Int) < 8 := by omega
  have hr := hR d
  have hq := hR s
  have hv := w32_bd (R s + m)
  have ew : (R s + m) % 4294967296 = w32 (R s + m) := rfl
  have lA0 := h.l
  have u0 := (Upto.refl (fun i => False) w).alloc (.cells #[.int .i64 19, .int .i64 d, .int .i64 s, .int .i64 o, .int .u32 m] 149)
  have h1 := h.upto u0 id
  have hm1 := hm.upto u0 id
  have U0 := u0.mono (T := AS A p) (fun _ _ h => h.elim)
  have b0 := box_at w #[.int .i64 19, .int .i64 d, .int .i64 s, .int .i64 o, .int .u32 m] 149 0
  have b1 := box_at w #[.int .i64 19, .int .i64 d, .int .i64 s, .int .i64 o, .int .u32 m] 149 1
  have b2 := box_at w #[.int .i64 19, .int .i64 d, .int .i64 s, .int .i64 o, .int .u32 m] 149 2
  have b3 := box_at w #[.int .i64 19, .int .i64 d, .int .i64 s, .int .i64 o, .int .u32 m] 149 3
  have b4 := box_at w #[.int .i64 19, .int .i64 d, .int .i64 s, .int .i64 o, .int .u32 m] 149 4
  have lB : w.heap.size < (w.alloc (.cells #[.int .i64 19, .int .i64 d, .int .i64 s, .int .i64 o, .int .u32 m] 149)).heap.size := by simp
  simp only [List.getElem?_toArray, List.getElem?_cons_zero, List.getElem?_cons_succ] at b0 b1 b2 b3 b4
  have cd := h1.r d hd
  have cs := h1.r s hs
  have zd := h1.z (1 + d)
  have c10 := h1.c10
  have z10 := h1.z 10
  have lA := h1.l
  have HA := Lib.hid h1
  have HM := Lib.hid hm1
  have HU := Lib.hid U0
  have HB : ¬ AS A p w.heap.size := by
    intro hx; rcases hx with hx | hx
    · omega
    · have hlp : p < w.heap.size := hm.2.2.2.2.2.2
      omega
  have HAB : w.heap.size ≠ A := by omega
  clear h hm u0 h1 hm1 U0
  have CF := Lib.hid (fun w => flags_any 3 0 (R d) f w (by omega) (by omega) hr.1 hr.2 f0 (by omega))
  go_enter Try.func79, Try.ntmps79
  go_wp2_with fail
  generalize w.alloc (.cells #[.int .i64 19, .int .i64 d, .int .i64 s, .int .i64 o, .int .u32 m] 149) = WA at b0 b1 b2 b3 b4 lB cd cs zd c10 z10 lA HA HM HU ⊢
  go_region
  go_wp2_with fail
  go_region
  go_wp2_with fail
  go_region_with (go_at_call 125; (with_reducible refine (CF.out _).mono ?_); rintro e w3 ⟨rfl, rfl⟩)
  all_goals go_wp2_with fail
  all_goals go_ret
  all_goals exact ⟨rfl, AtQ.ok ((HA.out.drew.drew.setR d hd (w32 (- R d))).setF _).drew (hc_setA (hc_setA HM.out.drew.drew hne) hne).drew (up_setA (up_setA HU.out.drew.drew)).drew⟩
set_option maxRecDepth 100000 in
set_option maxHeartbeats 8000000 in
theorem pl_21 (M : MM) (d s : Nat) (o m : Int) (hd : d < 8) (hs : s < 8) (w : World) (h : AtB A p R pc f nx 0 0 w) (hm : HC p M w) (hM : MOk M) (hR : ROk R) (hne : A ≠ p) (m0 : 0 ≤ m) (m1 : m < 4294967296) (f0 : 0 ≤ f) (f1 : f < 16) (o0 : 0 ≤ o) (o1 : o < 16) :
    Calls Try.prog 79 #[.pointer (some ⟨A, 0, none⟩), insL 21 d s o m] w fun e w' => e = .returned (.bool true) ∧ AtQ A p pc (opO M R pc f nx 21 d s o m) w w' := by
  have eO : opO M R pc f nx 21 d s o m = ⟨M, upd R d (if Fl.hd o f then 1 else 0), nx, f, 0, 0⟩ := rfl
  rw [eO]
  unfold insL
  clear eO
  have hd0 : (0 : Int) ≤ (d : Int) := by omega
  have hd1 : (d : Int) < 8 := by omega
  have hs0 : (0 : Int) ≤ (s : Int) := by omega
  have hs1 : (s : Int) < 8 := by omega
  have hr := hR d
  have hq := hR s
  have hv := w32_bd (R s + m)
  have ew : (R s + m) % 4294967296 = w32 (R s + m) := rfl
  have lA0 := h.l
  have u0 := (Upto.refl (fun i => False) w).alloc (.cells #[.int .i64 21, .int .i64 d, .int .i64 s, .int .i64 o, .int .u32 m] 149)
  have h1 := h.upto u0 id
  have hm1 := hm.upto u0 id
  have U0 := u0.mono (T := AS A p) (fun _ _ h => h.elim)
  have b0 := box_at w #[.int .i64 21, .int .i64 d, .int .i64 s, .int .i64 o, .int .u32 m] 149 0
  have b1 := box_at w #[.int .i64 21, .int .i64 d, .int .i64 s, .int .i64 o, .int .u32 m] 149 1
  have b2 := box_at w #[.int .i64 21, .int .i64 d, .int .i64 s, .int .i64 o, .int .u32 m] 149 2
  have b3 := box_at w #[.int .i64 21, .int .i64 d, .int .i64 s, .int .i64 o, .int .u32 m] 149 3
  have b4 := box_at w #[.int .i64 21, .int .i64 d, .int .i64 s, .int .i64 o, .int .u32 m] 149 4
  have lB : w.heap.size < (w.alloc (.cells #[.int .i64 21, .int .i64 d, .int .i64 s, .int .i64 o, .int .u32 m] 149)).heap.size := by simp
  simp only [List.getElem?_toArray, List.getElem?_cons_zero, List.getElem?_cons_succ] at b0 b1 b2 b3 b4
  have cd := h1.r d hd
  have cs := h1.r s hs
  have zd := h1.z (1 + d)
  have c10 := h1.c10
  have z10 := h1.z 10
  have lA := h1.l
  have HA := Lib.hid h1
  have HM := Lib.hid hm1
  have HU := Lib.hid U0
  have HB : ¬ AS A p w.heap.size := by
    intro hx; rcases hx with hx | hx
    · omega
    · have hlp : p < w.heap.size := hm.2.2.2.2.2.2
      omega
  have HAB : w.heap.size ≠ A := by omega
  clear h hm u0 h1 hm1 U0
  have CH := Lib.hid (fun w => holds_any o f w f0 (by omega) (by omega) (by omega))
  have CW := Lib.hid (fun w => when_any (Fl.hd o f) 1 w)
  generalize (if Fl.hd o f = true then (1 : Int) else 0) = u at CW ⊢
  generalize Fl.hd o f = t at CH CW
  go_enter Try.func79, Try.ntmps79
  go_wp2_with fail
  generalize w.alloc (.cells #[.int .i64 21, .int .i64 d, .int .i64 s, .int .i64 o, .int .u32 m] 149) = WA at b0 b1 b2 b3 b4 lB cd cs zd c10 z10 lA HA HM HU ⊢
  go_region
  go_wp2_with fail
  go_region
  go_wp2_with fail
  have sd : (WA.cell? ⟨A, 1 + d, none⟩).isSome = true := (congrArg Option.isSome cd).trans rfl
  have nB : ∀ i j, (⟨w.heap.size, i, none⟩ : Addr) ≠ ⟨A, j, none⟩ := fun i j hx => HAB (congrArg Addr.block hx)
  have hd9 : d < 9 := by omega
  go_region_held3 (fun W => W.cell? ⟨w.heap.size, 1, none⟩ = some (.int .i64 d) ∧ W.cell? ⟨w.heap.size, 3, none⟩ = some (.int .i64 o) ∧ W.cell? ⟨A, 10, none⟩ = some (.int .u32 f) ∧ (W.cell? ⟨A, 1 + d, none⟩).isSome = true ∧ W.frozen? ⟨A, 1 + d, none⟩ = false) (first | exact ⟨b1, b3, c10, sd, zd⟩ | exact ⟨d1, d3, d10, se, yd⟩ | exact keep21 HAB d1 d3 d10 dd yd hd9 _)
    ((first
      | (go_at_call 127; (with_reducible refine (CH.out _).mono ?_); rintro e w3 ⟨rfl, hb3⟩; have d1 := (hb3.cell (p := ⟨w.heap.size, 1, none⟩) lB).trans b1; have d3 := (hb3.cell (p := ⟨w.heap.size, 3, none⟩) lB).trans b3; have dd := (hb3.cell (p := ⟨A, 1 + d, none⟩) lA).trans cd; have yd := (hb3.frozen (p := ⟨A, 1 + d, none⟩) lA).trans zd; have d10 := (hb3.cell (p := ⟨A, 10, none⟩) lA).trans c10; have se : (w3.cell? ⟨A, 1 + d, none⟩).isSome = true := (congrArg Option.isSome dd).trans rfl; have l3 := Nat.lt_of_lt_of_le lA hb3.size; have B3 := Lib.hid hb3; clear hb3)
      | (go_at_call 126; (with_reducible refine (CW.out _).mono ?_); rintro e w4 ⟨rfl, rfl⟩)))
  all_goals go_wp2_with fail
  all_goals go_ret
  all_goals exact ⟨rfl, AtQ.ok (((HA.out.drew.drew.drew.upto (Upto.of_below (S := fun _ => False) B3.out) id).setR d hd u)) (hc_setA (HM.out.drew.drew.drew.upto (Upto.of_below (S := fun _ => False) B3.out) id) hne) (up_setA (HU.out.drew.drew.drew.trans (Upto.of_below B3.out)))⟩
end Go.Proofs.Ytcjcmnnhmajocab.St
