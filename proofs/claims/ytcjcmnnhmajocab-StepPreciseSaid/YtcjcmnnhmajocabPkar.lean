/- interp's instruction under way: plain. -/
import Derived.RegionTactic
import Derived.BigRegion
import Derived.Deep.RegionWith
import Derived.Deep.RegionHeld3
import Derived.Test.YtcjcmnnhmajocabPkah
import Derived.Test.YtcjcmnnhmajocabPkao
import Derived.Test.YtcjcmnnhmajocabPkap
namespace Go.Proofs.Ytcjcmnnhmajocab.St
open Go.RowKit Kt Me Fl
set_option linter.unusedVariables false
set_option linter.unusedSimpArgs false
variable {A p : Nat} {R : Nat → Int} {pc f nx k x : Int} {W W' : World}
theorem atq_pre {o : Out} {w wa w' : World} (u : Upto (AS A p) w wa) (h : AtQ A p pc o wa w') : AtQ A p pc o w w' := by
  obtain ⟨R', f', nx', a, b, c, e⟩ := h
  exact ⟨R', f', nx', a, b, u.trans c, e⟩
set_option maxRecDepth 100000 in
set_option maxHeartbeats 8000000 in
theorem pl_24 (M : MM) (d s : Nat) (o m : Int) (hd : d < 8) (hs : s < 8) (w : World) (h : AtB A p R pc f nx 0 0 w) (hm : HC p M w) (hM : MOk M) (hR : ROk R) (hne : A ≠ p) (m0 : 0 ≤ m) (m1 : m < 4294967296) (f0 : 0 ≤ f) (f1 : f < 16) (o0 : 0 ≤ o) (o1 : o < 16) :
    Calls Try.prog 79 #[.pointer (some ⟨A, 0, none⟩), insL 24 d s o m] w fun e w' => e = .returned (.bool true) ∧ AtQ A p pc (opO M R pc f nx 24 d s o m) w w' := by
  have eO : opO M R pc f nx 24 d s o m = ldO M R pc f (w32 (R s + m)) 4 fun v => stO M R pc f (w32 (R s + m)) 4 (R d) fun M' => ⟨M', upd R d v, nx, f, 0, 0⟩ := rfl
  rw [eO]
  unfold insL
  clear eO
  have hd0 : (0 : Int) ≤ (d : Int) := by omega
  have hd1 : (d : Int) < 8 := by omega
  have hs0 : (0 : Int) ≤ (s : Int) := by omega
  have hs1 : (s : Int) < 8 := by omega
  have hr := hR d
  have hq := hR s
  have hv := w32_bd (R s + m)
  have ew : (R s + m) % 4294967296 = w32 (R s + m) := rfl
  have lA0 := h.l
  have u0 := (Upto.refl (fun i => False) w).alloc (.cells #[.int .i64 24, .int .i64 d, .int .i64 s, .int .i64 o, .int .u32 m] 149)
  have h1 := h.upto u0 id
  have hm1 := hm.upto u0 id
  have U0 := u0.mono (T := AS A p) (fun _ _ h => h.elim)
  have b0 := box_at w #[.int .i64 24, .int .i64 d, .int .i64 s, .int .i64 o, .int .u32 m] 149 0
  have b1 := box_at w #[.int .i64 24, .int .i64 d, .int .i64 s, .int .i64 o, .int .u32 m] 149 1
  have b2 := box_at w #[.int .i64 24, .int .i64 d, .int .i64 s, .int .i64 o, .int .u32 m] 149 2
  have b3 := box_at w #[.int .i64 24, .int .i64 d, .int .i64 s, .int .i64 o, .int .u32 m] 149 3
  have b4 := box_at w #[.int .i64 24, .int .i64 d, .int .i64 s, .int .i64 o, .int .u32 m] 149 4
  have lB : w.heap.size < (w.alloc (.cells #[.int .i64 24, .int .i64 d, .int .i64 s, .int .i64 o, .int .u32 m] 149)).heap.size := by simp
  simp only [List.getElem?_toArray, List.getElem?_cons_zero, List.getElem?_cons_succ] at b0 b1 b2 b3 b4
  have cd := h1.r d hd
  have cs := h1.r s hs
  have zd := h1.z (1 + d)
  have c10 := h1.c10
  have z10 := h1.z 10
  have lA := h1.l
  have HA := Lib.hid h1
  have HM := Lib.hid hm1
  have HU := Lib.hid U0
  have HB : ¬ AS A p w.heap.size := by
    intro hx; rcases hx with hx | hx
    · omega
    · have hlp : p < w.heap.size := hm.2.2.2.2.2.2
      omega
  have HAB : w.heap.size ≠ A := by omega
  clear h hm u0 h1 hm1 U0
  have CB := Lib.hid (fun w h hm => both24 (A := A) (p := p) (R := R) (pc := pc) (f := f) (nx := nx) (x := 0) M d hd (w32 (R s + m)) w h hm hM hR hne hv.1 hv.2 f0 f1)
  generalize (ldO M R pc f (w32 (R s + m)) 4 fun v => stO M R pc f (w32 (R s + m)) 4 (R d) fun M' => ⟨M', upd R d v, nx, f, 0, 0⟩) = oo at CB ⊢
  generalize w32 (R s + m) = q at ew CB hv
  go_enter Try.func79, Try.ntmps79
  go_wp2_with fail
  generalize w.alloc (.cells #[.int .i64 24, .int .i64 d, .int .i64 s, .int .i64 o, .int .u32 m] 149) = WA at b0 b1 b2 b3 b4 lB cd cs zd c10 z10 lA HA HM HU ⊢
  go_region
  go_wp2_with fail
  go_region
  go_wp2_with (go_at_call 134; (with_reducible refine (CB.out _ HA.out.drew.drew HM.out.drew.drew).mono ?_); rintro e w3 ⟨rfl, a3⟩; have A3 := Lib.hid a3; clear a3)
  go_ret
  exact ⟨rfl, atq_pre HU.out.drew.drew A3.out⟩
set_option maxRecDepth 100000 in
set_option maxHeartbeats 8000000 in
theorem pl_25 (M : MM) (d s : Nat) (o m : Int) (hd : d < 8) (hs : s < 8) (w : World) (h : AtB A p R pc f nx 0 0 w) (hm : HC p M w) (hM : MOk M) (hR : ROk R) (hne : A ≠ p) (m0 : 0 ≤ m) (m1 : m < 4294967296) (f0 : 0 ≤ f) (f1 : f < 16) (o0 : 0 ≤ o) (o1 : o < 16) :
    Calls Try.prog 79 #[.pointer (some ⟨A, 0, none⟩), insL 25 d s o m] w fun e w' => e = .returned (.bool true) ∧ AtQ A p pc (opO M R pc f nx 25 d s o m) w w' := by
  have eO : opO M R pc f nx 25 d s o m = ldO M R pc f (w32 (R s + m)) 4 fun v => stO M R pc f (w32 (R s + m)) 4 (w32 (v + R d)) fun M' => ⟨M', upd R d v, nx, fl 1 v (R d) f, 0, 0⟩ := rfl
  rw [eO]
  unfold insL
  clear eO
  have hd0 : (0 : Int) ≤ (d : Int) := by omega
  have hd1 : (d : Int) < 8 := by omega
  have hs0 : (0 : Int) ≤ (s : Int) := by omega
  have hs1 : (s : Int) < 8 := by omega
  have hr := hR d
  have hq := hR s
  have hv := w32_bd (R s + m)
  have ew : (R s + m) % 4294967296 = w32 (R s + m) := rfl
  have lA0 := h.l
  have u0 := (Upto.refl (fun i => False) w).alloc (.cells #[.int .i64 25, .int .i64 d, .int .i64 s, .int .i64 o, .int .u32 m] 149)
  have h1 := h.upto u0 id
  have hm1 := hm.upto u0 id
  have U0 := u0.mono (T := AS A p) (fun _ _ h => h.elim)
  have b0 := box_at w #[.int .i64 25, .int .i64 d, .int .i64 s, .int .i64 o, .int .u32 m] 149 0
  have b1 := box_at w #[.int .i64 25, .int .i64 d, .int .i64 s, .int .i64 o, .int .u32 m] 149 1
  have b2 := box_at w #[.int .i64 25, .int .i64 d, .int .i64 s, .int .i64 o, .int .u32 m] 149 2
  have b3 := box_at w #[.int .i64 25, .int .i64 d, .int .i64 s, .int .i64 o, .int .u32 m] 149 3
  have b4 := box_at w #[.int .i64 25, .int .i64 d, .int .i64 s, .int .i64 o, .int .u32 m] 149 4
  have lB : w.heap.size < (w.alloc (.cells #[.int .i64 25, .int .i64 d, .int .i64 s, .int .i64 o, .int .u32 m] 149)).heap.size := by simp
  simp only [List.getElem?_toArray, List.getElem?_cons_zero, List.getElem?_cons_succ] at b0 b1 b2 b3 b4
  have cd := h1.r d hd
  have cs := h1.r s hs
  have zd := h1.z (1 + d)
  have c10 := h1.c10
  have z10 := h1.z 10
  have lA := h1.l
  have HA := Lib.hid h1
  have HM := Lib.hid hm1
  have HU := Lib.hid U0
  have HB : ¬ AS A p w.heap.size := by
    intro hx; rcases hx with hx | hx
    · omega
    · have hlp : p < w.heap.size := hm.2.2.2.2.2.2
      omega
  have HAB : w.heap.size ≠ A := by omega
  clear h hm u0 h1 hm1 U0
  have CB := Lib.hid (fun w h hm => both25 (A := A) (p := p) (R := R) (pc := pc) (f := f) (nx := nx) (x := 0) M d hd (w32 (R s + m)) w h hm hM hR hne hv.1 hv.2 f0 f1)
  generalize (ldO M R pc f (w32 (R s + m)) 4 fun v => stO M R pc f (w32 (R s + m)) 4 (w32 (v + R d)) fun M' => ⟨M', upd R d v, nx, fl 1 v (R d) f, 0, 0⟩) = oo at CB ⊢
  generalize w32 (R s + m) = q at ew CB hv
  go_enter Try.func79, Try.ntmps79
  go_wp2_with fail
  generalize w.alloc (.cells #[.int .i64 25, .int .i64 d, .int .i64 s, .int .i64 o, .int .u32 m] 149) = WA at b0 b1 b2 b3 b4 lB cd cs zd c10 z10 lA HA HM HU ⊢
  go_region
  go_wp2_with fail
  go_region
  go_wp2_with (go_at_call 134; (with_reducible refine (CB.out _ HA.out.drew.drew HM.out.drew.drew).mono ?_); rintro e w3 ⟨rfl, a3⟩; have A3 := Lib.hid a3; clear a3)
  go_ret
  exact ⟨rfl, atq_pre HU.out.drew.drew A3.out⟩
set_option maxRecDepth 100000 in
set_option maxHeartbeats 8000000 in
theorem pl_26 (M : MM) (d s : Nat) (o m : Int) (hd : d < 8) (hs : s < 8) (w : World) (h : AtB A p R pc f nx 0 0 w) (hm : HC p M w) (hM : MOk M) (hR : ROk R) (hne : A ≠ p) (m0 : 0 ≤ m) (m1 : m < 4294967296) (f0 : 0 ≤ f) (f1 : f < 16) (o0 : 0 ≤ o) (o1 : o < 16) :
    Calls Try.prog 79 #[.pointer (some ⟨A, 0, none⟩), insL 26 d s o m] w fun e w' => e = .returned (.bool true) ∧ AtQ A p pc (opO M R pc f nx 26 d s o m) w w' := by
  have eO : opO M R pc f nx 26 d s o m = ldO M R pc f (w32 (R s + m)) 4 fun v => if R 0 = v then stO M R pc f (w32 (R s + m)) 4 (R d) fun M' => ⟨M', R, nx, fl 3 (R 0) v f, 0, 0⟩ else stO M R pc f (w32 (R s + m)) 4 v fun M' => ⟨M', upd R 0 v, nx, fl 3 (R 0) v f, 0, 0⟩ := rfl
  rw [eO]
  unfold insL
  clear eO
  have hd0 : (0 : Int) ≤ (d : Int) := by omega
  have hd1 : (d : Int) < 8 := by omega
  have hs0 : (0 : Int) ≤ (s : Int) := by omega
  have hs1 : (s : Int) < 8 := by omega
  have hr := hR d
  have hq := hR s
  have hv := w32_bd (R s + m)
  have ew : (R s + m) % 4294967296 = w32 (R s + m) := rfl
  have lA0 := h.l
  have u0 := (Upto.refl (fun i => False) w).alloc (.cells #[.int .i64 26, .int .i64 d, .int .i64 s, .int .i64 o, .int .u32 m] 149)
  have h1 := h.upto u0 id
  have hm1 := hm.upto u0 id
  have U0 := u0.mono (T := AS A p) (fun _ _ h => h.elim)
  have b0 := box_at w #[.int .i64 26, .int .i64 d, .int .i64 s, .int .i64 o, .int .u32 m] 149 0
  have b1 := box_at w #[.int .i64 26, .int .i64 d, .int .i64 s, .int .i64 o, .int .u32 m] 149 1
  have b2 := box_at w #[.int .i64 26, .int .i64 d, .int .i64 s, .int .i64 o, .int .u32 m] 149 2
  have b3 := box_at w #[.int .i64 26, .int .i64 d, .int .i64 s, .int .i64 o, .int .u32 m] 149 3
  have b4 := box_at w #[.int .i64 26, .int .i64 d, .int .i64 s, .int .i64 o, .int .u32 m] 149 4
  have lB : w.heap.size < (w.alloc (.cells #[.int .i64 26, .int .i64 d, .int .i64 s, .int .i64 o, .int .u32 m] 149)).heap.size := by simp
  simp only [List.getElem?_toArray, List.getElem?_cons_zero, List.getElem?_cons_succ] at b0 b1 b2 b3 b4
  have cd := h1.r d hd
  have cs := h1.r s hs
  have zd := h1.z (1 + d)
  have c10 := h1.c10
  have z10 := h1.z 10
  have lA := h1.l
  have HA := Lib.hid h1
  have HM := Lib.hid hm1
  have HU := Lib.hid U0
  have HB : ¬ AS A p w.heap.size := by
    intro hx; rcases hx with hx | hx
    · omega
    · have hlp : p < w.heap.size := hm.2.2.2.2.2.2
      omega
  have HAB : w.heap.size ≠ A := by omega
  clear h hm u0 h1 hm1 U0
  have CB := Lib.hid (fun w h hm => both26 (A := A) (p := p) (R := R) (pc := pc) (f := f) (nx := nx) (x := 0) M d hd (w32 (R s + m)) w h hm hM hR hne hv.1 hv.2 f0 f1)
  generalize (ldO M R pc f (w32 (R s + m)) 4 fun v => if R 0 = v then stO M R pc f (w32 (R s + m)) 4 (R d) fun M' => ⟨M', R, nx, fl 3 (R 0) v f, 0, 0⟩ else stO M R pc f (w32 (R s + m)) 4 v fun M' => ⟨M', upd R 0 v, nx, fl 3 (R 0) v f, 0, 0⟩) = oo at CB ⊢
  generalize w32 (R s + m) = q at ew CB hv
  go_enter Try.func79, Try.ntmps79
  go_wp2_with fail
  generalize w.alloc (.cells #[.int .i64 26, .int .i64 d, .int .i64 s, .int .i64 o, .int .u32 m] 149) = WA at b0 b1 b2 b3 b4 lB cd cs zd c10 z10 lA HA HM HU ⊢
  go_region
  go_wp2_with fail
  go_region
  go_wp2_with (go_at_call 134; (with_reducible refine (CB.out _ HA.out.drew.drew HM.out.drew.drew).mono ?_); rintro e w3 ⟨rfl, a3⟩; have A3 := Lib.hid a3; clear a3)
  go_ret
  exact ⟨rfl, atq_pre HU.out.drew.drew A3.out⟩
set_option maxRecDepth 100000 in
set_option maxHeartbeats 8000000 in
theorem pl_27 (M : MM) (d s : Nat) (o m : Int) (hd : d < 8) (hs : s < 8) (w : World) (h : AtB A p R pc f nx 0 0 w) (hm : HC p M w) (hM : MOk M) (hR : ROk R) (hne : A ≠ p) (m0 : 0 ≤ m) (m1 : m < 4294967296) (f0 : 0 ≤ f) (f1 : f < 16) (o0 : 0 ≤ o) (o1 : o < 16) :
    Calls Try.prog 79 #[.pointer (some ⟨A, 0, none⟩), insL 27 d s o m] w fun e w' => e = .returned (.bool true) ∧ AtQ A p pc (opO M R pc f nx 27 d s o m) w w' := by
  have eO : opO M R pc f nx 27 d s o m = (if rko o (R s) then ⟨M, upd R d (rkv o (R d) (R s) f), nx, rkf o (R d) (R s) f, 0, 0⟩ else ⟨M, R, pc, f, 7, 0⟩) := rfl
  rw [eO]
  unfold insL
  clear eO
  have hd0 : (0 : Int) ≤ (d : Int) := by omega
  have hd1 : (d : Int) < 8 := by omega
  have hs0 : (0 : Int) ≤ (s : Int) := by omega
  have hs1 : (s : Int) < 8 := by omega
  have hr := hR d
  have hq := hR s
  have hv := w32_bd (R s + m)
  have ew : (R s + m) % 4294967296 = w32 (R s + m) := rfl
  have lA0 := h.l
  have u0 := (Upto.refl (fun i => False) w).alloc (.cells #[.int .i64 27, .int .i64 d, .int .i64 s, .int .i64 o, .int .u32 m] 149)
  have h1 := h.upto u0 id
  have hm1 := hm.upto u0 id
  have U0 := u0.mono (T := AS A p) (fun _ _ h => h.elim)
  have b0 := box_at w #[.int .i64 27, .int .i64 d, .int .i64 s, .int .i64 o, .int .u32 m] 149 0
  have b1 := box_at w #[.int .i64 27, .int .i64 d, .int .i64 s, .int .i64 o, .int .u32 m] 149 1
  have b2 := box_at w #[.int .i64 27, .int .i64 d, .int .i64 s, .int .i64 o, .int .u32 m] 149 2
  have b3 := box_at w #[.int .i64 27, .int .i64 d, .int .i64 s, .int .i64 o, .int .u32 m] 149 3
  have b4 := box_at w #[.int .i64 27, .int .i64 d, .int .i64 s, .int .i64 o, .int .u32 m] 149 4
  have lB : w.heap.size < (w.alloc (.cells #[.int .i64 27, .int .i64 d, .int .i64 s, .int .i64 o, .int .u32 m] 149)).heap.size := by simp
  simp only [List.getElem?_toArray, List.getElem?_cons_zero, List.getElem?_cons_succ] at b0 b1 b2 b3 b4
  have cd := h1.r d hd
  have cs := h1.r s hs
  have zd := h1.z (1 + d)
  have c10 := h1.c10
  have z10 := h1.z 10
  have lA := h1.l
  have HA := Lib.hid h1
  have HM := Lib.hid hm1
  have HU := Lib.hid U0
  have HB : ¬ AS A p w.heap.size := by
    intro hx; rcases hx with hx | hx
    · omega
    · have hlp : p < w.heap.size := hm.2.2.2.2.2.2
      omega
  have HAB : w.heap.size ≠ A := by omega
  clear h hm u0 h1 hm1 U0
  have CK := Lib.hid (fun w h => atreckon (A := A) (p := p) (R := R) (pc := pc) (f := f) (nx := nx) (x := 0) o d hd (R s) w h hR f0 f1 hq.1 hq.2)
  generalize rkv o (R d) (R s) f = v at CK ⊢
  generalize rkf o (R d) (R s) f = g at CK ⊢
  generalize rko o (R s) = t at CK ⊢
  generalize hoo : (if t then _ else _ : Out) = oo
  have HO := Lib.hid hoo
  clear hoo
  go_enter Try.func79, Try.ntmps79
  go_wp2_with fail
  generalize w.alloc (.cells #[.int .i64 27, .int .i64 d, .int .i64 s, .int .i64 o, .int .u32 m] 149) = WA at b0 b1 b2 b3 b4 lB cd cs zd c10 z10 lA HA HM HU ⊢
  go_region
  go_wp2_with fail
  go_region
  go_wp2_with fail
  go_region_with (go_at_call 128; (with_reducible refine (CK.out _ HA.out.drew.drew.drew).mono ?_); rintro e w3 ⟨rfl, u3, t3, f3⟩; have U3 := Lib.hid u3; have T3 := Lib.hid t3; have F3 := Lib.hid f3; clear u3 t3 f3)
  all_goals go_wp2_with fail
  all_goals go_ret
  all_goals rw [← HO.out]
  all_goals cases t with
  | true => exact ⟨rfl, AtQ.ok (T3.out rfl) (hc_ofA HM.out.drew.drew.drew U3.out hne) (HU.out.drew.drew.drew.trans (up_A U3.out))⟩
  | false => exact ⟨rfl, AtQ.stop (F3.out rfl) (hc_ofA HM.out.drew.drew.drew U3.out hne) (HU.out.drew.drew.drew.trans (up_A U3.out)) (show (2 : Int) ≤ 7 by omega)⟩
set_option maxRecDepth 100000 in
set_option maxHeartbeats 8000000 in
theorem pl_28 (M : MM) (d s : Nat) (o m : Int) (hd : d < 8) (hs : s < 8) (w : World) (h : AtB A p R pc f nx 0 0 w) (hm : HC p M w) (hM : MOk M) (hR : ROk R) (hne : A ≠ p) (m0 : 0 ≤ m) (m1 : m < 4294967296) (f0 : 0 ≤ f) (f1 : f < 16) (o0 : 0 ≤ o) (o1 : o < 16) :
    Calls Try.prog 79 #[.pointer (some ⟨A, 0, none⟩), insL 28 d s o m] w fun e w' => e = .returned (.bool true) ∧ AtQ A p pc (opO M R pc f nx 28 d s o m) w w' := by
  have eO : opO M R pc f nx 28 d s o m = (if rko o (m) then ⟨M, upd R d (rkv o (R d) (m) f), nx, rkf o (R d) (m) f, 0, 0⟩ else ⟨M, R, pc, f, 7, 0⟩) := rfl
  rw [eO]
  unfold insL
  clear eO
  have hd0 : (0 : Int) ≤ (d : Int) := by omega
  have hd1 : (d : Int) < 8 := by omega
  have hs0 : (0 : Int) ≤ (s : Int) := by omega
  have hs1 : (s : Int) < 8 := by omega
  have hr := hR d
  have hq := hR s
  have hv := w32_bd (R s + m)
  have ew : (R s + m) % 4294967296 = w32 (R s + m) := rfl
  have lA0 := h.l
  have u0 := (Upto.refl (fun i => False) w).alloc (.cells #[.int .i64 28, .int .i64 d, .int .i64 s, .int .i64 o, .int .u32 m] 149)
  have h1 := h.upto u0 id
  have hm1 := hm.upto u0 id
  have U0 := u0.mono (T := AS A p) (fun _ _ h => h.elim)
  have b0 := box_at w #[.int .i64 28, .int .i64 d, .int .i64 s, .int .i64 o, .int .u32 m] 149 0
  have b1 := box_at w #[.int .i64 28, .int .i64 d, .int .i64 s, .int .i64 o, .int .u32 m] 149 1
  have b2 := box_at w #[.int .i64 28, .int .i64 d, .int .i64 s, .int .i64 o, .int .u32 m] 149 2
  have b3 := box_at w #[.int .i64 28, .int .i64 d, .int .i64 s, .int .i64 o, .int .u32 m] 149 3
  have b4 := box_at w #[.int .i64 28, .int .i64 d, .int .i64 s, .int .i64 o, .int .u32 m] 149 4
  have lB : w.heap.size < (w.alloc (.cells #[.int .i64 28, .int .i64 d, .int .i64 s, .int .i64 o, .int .u32 m] 149)).heap.size := by simp
  simp only [List.getElem?_toArray, List.getElem?_cons_zero, List.getElem?_cons_succ] at b0 b1 b2 b3 b4
  have cd := h1.r d hd
  have cs := h1.r s hs
  have zd := h1.z (1 + d)
  have c10 := h1.c10
  have z10 := h1.z 10
  have lA := h1.l
  have HA := Lib.hid h1
  have HM := Lib.hid hm1
  have HU := Lib.hid U0
  have HB : ¬ AS A p w.heap.size := by
    intro hx; rcases hx with hx | hx
    · omega
    · have hlp : p < w.heap.size := hm.2.2.2.2.2.2
      omega
  have HAB : w.heap.size ≠ A := by omega
  clear h hm u0 h1 hm1 U0
  have CK := Lib.hid (fun w h => atreckon (A := A) (p := p) (R := R) (pc := pc) (f := f) (nx := nx) (x := 0) o d hd (m) w h hR f0 f1 m0 m1)
  generalize rkv o (R d) (m) f = v at CK ⊢
  generalize rkf o (R d) (m) f = g at CK ⊢
  generalize rko o (m) = t at CK ⊢
  generalize hoo : (if t then _ else _ : Out) = oo
  have HO := Lib.hid hoo
  clear hoo
  go_enter Try.func79, Try.ntmps79
  go_wp2_with fail
  generalize w.alloc (.cells #[.int .i64 28, .int .i64 d, .int .i64 s, .int .i64 o, .int .u32 m] 149) = WA at b0 b1 b2 b3 b4 lB cd cs zd c10 z10 lA HA HM HU ⊢
  go_region
  go_wp2_with fail
  go_region
  go_wp2_with (go_at_call 128; (with_reducible refine (CK.out _ HA.out.drew.drew).mono ?_); rintro e w3 ⟨rfl, u3, t3, f3⟩; have U3 := Lib.hid u3; have T3 := Lib.hid t3; have F3 := Lib.hid f3; clear u3 t3 f3)
  go_ret
  rw [← HO.out]
  cases t with
  | true => exact ⟨rfl, AtQ.ok (T3.out rfl) (hc_ofA HM.out.drew.drew U3.out hne) (HU.out.drew.drew.trans (up_A U3.out))⟩
  | false => exact ⟨rfl, AtQ.stop (F3.out rfl) (hc_ofA HM.out.drew.drew U3.out hne) (HU.out.drew.drew.trans (up_A U3.out)) (show (2 : Int) ≤ 7 by omega)⟩
set_option maxRecDepth 100000 in
set_option maxHeartbeats 8000000 in
theorem pl_29 (M : MM) (d s : Nat) (o m : Int) (hd : d < 8) (hs : s < 8) (w : World) (h : AtB A p R pc f nx 0 0 w) (hm : HC p M w) (hM : MOk M) (hR : ROk R) (hne : A ≠ p) (m0 : 0 ≤ m) (m1 : m < 4294967296) (f0 : 0 ≤ f) (f1 : f < 16) (o0 : 0 ≤ o) (o1 : o < 16) :
    Calls Try.prog 79 #[.pointer (some ⟨A, 0, none⟩), insL 29 d s o m] w fun e w' => e = .returned (.bool true) ∧ AtQ A p pc (opO M R pc f nx 29 d s o m) w w' := by
  have eO : opO M R pc f nx 29 d s o m = (if rko o (m) then ⟨M, upd R d (rkv o (R d) (m) f), nx, rkf o (R d) (m) f, 0, 0⟩ else ⟨M, R, pc, f, 7, 0⟩) := rfl
  rw [eO]
  unfold insL
  clear eO
  have hd0 : (0 : Int) ≤ (d : Int) := by omega
  have hd1 : (d : Int) < 8 := by omega
  have hs0 : (0 : Int) ≤ (s : Int) := by omega
  have hs1 : (s : Int) < 8 := by omega
  have hr := hR d
  have hq := hR s
  have hv := w32_bd (R s + m)
  have ew : (R s + m) % 4294967296 = w32 (R s + m) := rfl
  have lA0 := h.l
  have u0 := (Upto.refl (fun i => False) w).alloc (.cells #[.int .i64 29, .int .i64 d, .int .i64 s, .int .i64 o, .int .u32 m] 149)
  have h1 := h.upto u0 id
  have hm1 := hm.upto u0 id
  have U0 := u0.mono (T := AS A p) (fun _ _ h => h.elim)
  have b0 := box_at w #[.int .i64 29, .int .i64 d, .int .i64 s, .int .i64 o, .int .u32 m] 149 0
  have b1 := box_at w #[.int .i64 29, .int .i64 d, .int .i64 s, .int .i64 o, .int .u32 m] 149 1
  have b2 := box_at w #[.int .i64 29, .int .i64 d, .int .i64 s, .int .i64 o, .int .u32 m] 149 2
  have b3 := box_at w #[.int .i64 29, .int .i64 d, .int .i64 s, .int .i64 o, .int .u32 m] 149 3
  have b4 := box_at w #[.int .i64 29, .int .i64 d, .int .i64 s, .int .i64 o, .int .u32 m] 149 4
  have lB : w.heap.size < (w.alloc (.cells #[.int .i64 29, .int .i64 d, .int .i64 s, .int .i64 o, .int .u32 m] 149)).heap.size := by simp
  simp only [List.getElem?_toArray, List.getElem?_cons_zero, List.getElem?_cons_succ] at b0 b1 b2 b3 b4
  have cd := h1.r d hd
  have cs := h1.r s hs
  have zd := h1.z (1 + d)
  have c10 := h1.c10
  have z10 := h1.z 10
  have lA := h1.l
  have HA := Lib.hid h1
  have HM := Lib.hid hm1
  have HU := Lib.hid U0
  have HB : ¬ AS A p w.heap.size := by
    intro hx; rcases hx with hx | hx
    · omega
    · have hlp : p < w.heap.size := hm.2.2.2.2.2.2
      omega
  have HAB : w.heap.size ≠ A := by omega
  clear h hm u0 h1 hm1 U0
  have CK := Lib.hid (fun w h => atreckon (A := A) (p := p) (R := R) (pc := pc) (f := f) (nx := nx) (x := 0) o d hd (m) w h hR f0 f1 m0 m1)
  generalize rkv o (R d) (m) f = v at CK ⊢
  generalize rkf o (R d) (m) f = g at CK ⊢
  generalize rko o (m) = t at CK ⊢
  generalize hoo : (if t then _ else _ : Out) = oo
  have HO := Lib.hid hoo
  clear hoo
  go_enter Try.func79, Try.ntmps79
  go_wp2_with fail
  generalize w.alloc (.cells #[.int .i64 29, .int .i64 d, .int .i64 s, .int .i64 o, .int .u32 m] 149) = WA at b0 b1 b2 b3 b4 lB cd cs zd c10 z10 lA HA HM HU ⊢
  go_region
  go_wp2_with fail
  go_region
  go_wp2_with (go_at_call 128; (with_reducible refine (CK.out _ HA.out.drew.drew).mono ?_); rintro e w3 ⟨rfl, u3, t3, f3⟩; have U3 := Lib.hid u3; have T3 := Lib.hid t3; have F3 := Lib.hid f3; clear u3 t3 f3)
  go_ret
  rw [← HO.out]
  cases t with
  | true => exact ⟨rfl, AtQ.ok (T3.out rfl) (hc_ofA HM.out.drew.drew U3.out hne) (HU.out.drew.drew.trans (up_A U3.out))⟩
  | false => exact ⟨rfl, AtQ.stop (F3.out rfl) (hc_ofA HM.out.drew.drew U3.out hne) (HU.out.drew.drew.trans (up_A U3.out)) (show (2 : Int) ≤ 7 by omega)⟩
set_option maxRecDepth 100000 in
set_option maxHeartbeats 8000000 in
theorem pl_31 (M : MM) (d s : Nat) (o m : Int) (hd : d < 8) (hs : s < 8) (w : World) (h : AtB A p R pc f nx 0 0 w) (hm : HC p M w) (hM : MOk M) (hR : ROk R) (hne : A ≠ p) (m0 : 0 ≤ m) (m1 : m < 4294967296) (f0 : 0 ≤ f) (f1 : f < 16) (o0 : 0 ≤ o) (o1 : o < 16) (ho : o < 3) :
    Calls Try.prog 79 #[.pointer (some ⟨A, 0, none⟩), insL 31 d s o m] w fun e w' => e = .returned (.bool true) ∧ AtQ A p pc (opO M R pc f nx 31 d s o m) w w' := by
  have eO : opO M R pc f nx 31 d s o m = (stO M R pc f (w32 (R s + m)) (stN o) (R d) fun M' => ⟨M', R, nx, f, 0, 0⟩) := rfl
  rw [eO]
  unfold insL
  clear eO
  have hd0 : (0 : Int) ≤ (d : Int) := by omega
  have hd1 : (d : Int) < 8 := by omega
  have hs0 : (0 : Int) ≤ (s : Int) := by omega
  have hs1 : (s : Int) < 8 := by omega
  have hr := hR d
  have hq := hR s
  have hv := w32_bd (R s + m)
  have ew : (R s + m) % 4294967296 = w32 (R s + m) := rfl
  have lA0 := h.l
  have u0 := (Upto.refl (fun i => False) w).alloc (.cells #[.int .i64 31, .int .i64 d, .int .i64 s, .int .i64 o, .int .u32 m] 149)
  have h1 := h.upto u0 id
  have hm1 := hm.upto u0 id
  have U0 := u0.mono (T := AS A p) (fun _ _ h => h.elim)
  have b0 := box_at w #[.int .i64 31, .int .i64 d, .int .i64 s, .int .i64 o, .int .u32 m] 149 0
  have b1 := box_at w #[.int .i64 31, .int .i64 d, .int .i64 s, .int .i64 o, .int .u32 m] 149 1
  have b2 := box_at w #[.int .i64 31, .int .i64 d, .int .i64 s, .int .i64 o, .int .u32 m] 149 2
  have b3 := box_at w #[.int .i64 31, .int .i64 d, .int .i64 s, .int .i64 o, .int .u32 m] 149 3
  have b4 := box_at w #[.int .i64 31, .int .i64 d, .int .i64 s, .int .i64 o, .int .u32 m] 149 4
  have lB : w.heap.size < (w.alloc (.cells #[.int .i64 31, .int .i64 d, .int .i64 s, .int .i64 o, .int .u32 m] 149)).heap.size := by simp
  simp only [List.getElem?_toArray, List.getElem?_cons_zero, List.getElem?_cons_succ] at b0 b1 b2 b3 b4
  have cd := h1.r d hd
  have cs := h1.r s hs
  have zd := h1.z (1 + d)
  have c10 := h1.c10
  have z10 := h1.z 10
  have lA := h1.l
  have HA := Lib.hid h1
  have HM := Lib.hid hm1
  have HU := Lib.hid U0
  have HB : ¬ AS A p w.heap.size := by
    intro hx; rcases hx with hx | hx
    · omega
    · have hlp : p < w.heap.size := hm.2.2.2.2.2.2
      omega
  have HAB : w.heap.size ≠ A := by omega
  clear h hm u0 h1 hm1 U0
  have hn : stN o < 9223372036854775808 := by unfold stN; split <;> (first | omega | (split <;> omega))
  have CS := Lib.hid (fun w h hm => atstore (A := A) (p := p) (R := R) (pc := pc) (f := f) (nx := nx) (x := 0) M (w32 (R s + m)) (stN o) (R d) w h hm hM hne hv.1 hv.2 hr.1 hr.2)
  have CN := Lib.hid (fun w => stores_any o w o0 ho)
  generalize w32 (R s + m) = q at ew CS hv ⊢
  generalize stN o = n at CS CN hn ⊢
  go_enter Try.func79, Try.ntmps79
  go_wp2_with fail
  generalize w.alloc (.cells #[.int .i64 31, .int .i64 d, .int .i64 s, .int .i64 o, .int .u32 m] 149) = WA at b0 b1 b2 b3 b4 lB cd cs zd c10 z10 lA HA HM HU ⊢
  go_region
  go_wp2_with fail
  go_region
  go_wp2_with (first
    | (go_at_call 133; (with_reducible refine (CN.out _).mono ?_); rintro e w3 ⟨rfl, rfl⟩)
    | (go_at_call 132; (with_reducible refine (CS.out _ HA.out.drew.drew HM.out.drew.drew).mono ?_); rintro e w4 ⟨rfl, h4, m4, u4⟩; have H4 := Lib.hid h4; have M4 := Lib.hid m4; have U4 := Lib.hid u4; clear h4 m4 u4))
  go_ret
  exact ⟨rfl, atq_sto H4.out M4.out (HU.out.drew.drew.trans U4.out) rfl⟩
end Go.Proofs.Ytcjcmnnhmajocab.St
namespace Go.Proofs.Ytcjcmnnhmajocab.St
open Go.RowKit Kt Me Fl
set_option linter.unusedVariables false
set_option linter.unusedSimpArgs false
variable {A p : Nat} {R : Nat → Int} {pc f nx k x : Int} {W W' : World}
theorem keep30 {W : World} {B d : Nat} {x1 x3 xd : Value} (hB : B ≠ A) (h1 : W.cell? ⟨B, 1, none⟩ = some x1) (h3 : W.cell? ⟨B, 3, none⟩ = some x3) (hdd : W.cell? ⟨A, 1 + d, none⟩ = some xd) (hz : W.frozen? ⟨A, 1 + d, none⟩ = false) (v : Value) :
    (W.setCell ⟨A, 1 + d, none⟩ v).cell? ⟨B, 1, none⟩ = some x1 ∧ (W.setCell ⟨A, 1 + d, none⟩ v).cell? ⟨B, 3, none⟩ = some x3 ∧ ((W.setCell ⟨A, 1 + d, none⟩ v).cell? ⟨A, 1 + d, none⟩).isSome = true ∧ (W.setCell ⟨A, 1 + d, none⟩ v).frozen? ⟨A, 1 + d, none⟩ = false := by
  have nB : ∀ i j, (⟨A, j, none⟩ : Addr) ≠ ⟨B, i, none⟩ := fun i j hx => hB (congrArg Addr.block hx).symm
  refine ⟨(World.cell?_setCell_other _ _ _ _ (nB _ _)).trans h1, (World.cell?_setCell_other _ _ _ _ (nB _ _)).trans h3, ?_, ?_⟩
  · rw [World.cell?_setCell_same _ _ _ hdd]; rfl
  · simpa using hz
set_option maxRecDepth 100000 in
set_option maxHeartbeats 8000000 in
theorem pl_30 (M : MM) (d s : Nat) (o m : Int) (hd : d < 8) (hs : s < 8) (w : World) (h : AtB A p R pc f nx 0 0 w) (hm : HC p M w) (hM : MOk M) (hR : ROk R) (hne : A ≠ p) (m0 : 0 ≤ m) (m1 : m < 4294967296) (f0 : 0 ≤ f) (f1 : f < 16) (o0 : 0 ≤ o) (o1 : o < 16) (ho : o < 5) :
    Calls Try.prog 79 #[.pointer (some ⟨A, 0, none⟩), insL 30 d s o m] w fun e w' => e = .returned (.bool true) ∧ AtQ A p pc (opO M R pc f nx 30 d s o m) w w' := by
  have eO : opO M R pc f nx 30 d s o m = (ldO M R pc f (w32 (R s + m)) (ldN o) fun v => ⟨M, upd R d (widen o v), nx, f, 0, 0⟩) := rfl
  rw [eO]
  unfold insL
  clear eO
  have hd0 : (0 : Int) ≤ (d : Int) := by omega
  have hd1 : (d : Int) < 8 := by omega
  have hs0 : (0 : Int) ≤ (s : Int) := by omega
  have hs1 : (s : Int) < 8 := by omega
  have hr := hR d
  have hq := hR s
  have hv := w32_bd (R s + m)
  have ew : (R s + m) % 4294967296 = w32 (R s + m) := rfl
  have lA0 := h.l
  have u0 := (Upto.refl (fun i => False) w).alloc (.cells #[.int .i64 30, .int .i64 d, .int .i64 s, .int .i64 o, .int .u32 m] 149)
  have h1 := h.upto u0 id
  have hm1 := hm.upto u0 id
  have U0 := u0.mono (T := AS A p) (fun _ _ h => h.elim)
  have b0 := box_at w #[.int .i64 30, .int .i64 d, .int .i64 s, .int .i64 o, .int .u32 m] 149 0
  have b1 := box_at w #[.int .i64 30, .int .i64 d, .int .i64 s, .int .i64 o, .int .u32 m] 149 1
  have b2 := box_at w #[.int .i64 30, .int .i64 d, .int .i64 s, .int .i64 o, .int .u32 m] 149 2
  have b3 := box_at w #[.int .i64 30, .int .i64 d, .int .i64 s, .int .i64 o, .int .u32 m] 149 3
  have b4 := box_at w #[.int .i64 30, .int .i64 d, .int .i64 s, .int .i64 o, .int .u32 m] 149 4
  have lB : w.heap.size < (w.alloc (.cells #[.int .i64 30, .int .i64 d, .int .i64 s, .int .i64 o, .int .u32 m] 149)).heap.size := by simp
  simp only [List.getElem?_toArray, List.getElem?_cons_zero, List.getElem?_cons_succ] at b0 b1 b2 b3 b4
  have cd := h1.r d hd
  have cs := h1.r s hs
  have zd := h1.z (1 + d)
  have c10 := h1.c10
  have z10 := h1.z 10
  have lA := h1.l
  have HA := Lib.hid h1
  have HM := Lib.hid hm1
  have HU := Lib.hid U0
  have HB : ¬ AS A p w.heap.size := by
    intro hx; rcases hx with hx | hx
    · omega
    · have hlp : p < w.heap.size := hm.2.2.2.2.2.2
      omega
  have HAB : w.heap.size ≠ A := by omega
  clear h hm u0 h1 hm1 U0
  have hn : ldN o < 9223372036854775808 := by unfold ldN; repeat' split
                                              all_goals omega
  have CL := Lib.hid (fun w h hm => atload (A := A) (p := p) (R := R) (pc := pc) (f := f) (nx := nx) (x := 0) M (w32 (R s + m)) (ldN o) w h hm hM hne hv.1 hv.2 hn)
  have hl := ldv_bd hM (w32 (R s + m)) (ldN o)
  have CN := Lib.hid (fun w => loads_any o w o0 ho)
  obtain ⟨q, hqq⟩ : ∃ q, w32 (R s + m) = q := ⟨_, rfl⟩
  rw [hqq] at ew CL hv hl ⊢
  clear hqq
  obtain ⟨n, hnn⟩ : ∃ n, ldN o = n := ⟨_, rfl⟩
  rw [hnn] at CL CN hn hl ⊢
  clear hnn
  obtain ⟨v, hvv⟩ : ∃ v, ldv M q n = v := ⟨_, rfl⟩
  rw [hvv] at CL hl
  have HV := Lib.hid hvv
  have CW := Lib.hid (fun w => widen_any o v w hl.1 hl.2)
  obtain ⟨v2, hv2⟩ : ∃ v2, widen o v = v2 := ⟨_, rfl⟩
  rw [hv2] at CW
  have HV2 := Lib.hid hv2
  generalize hoo : ldO M R pc f q n _ = oo
  have HO := Lib.hid hoo
  clear hvv hoo hv2
  go_enter Try.func79, Try.ntmps79
  go_wp2_with fail
  generalize w.alloc (.cells #[.int .i64 30, .int .i64 d, .int .i64 s, .int .i64 o, .int .u32 m] 149) = WA at b0 b1 b2 b3 b4 lB cd cs zd c10 z10 lA HA HM HU ⊢
  go_region
  go_wp2_with fail
  go_region
  go_wp2_with fail
  have sd : (WA.cell? ⟨A, 1 + d, none⟩).isSome = true := (congrArg Option.isSome cd).trans rfl
  go_region_held3 (fun W => W.cell? ⟨w.heap.size, 1, none⟩ = some (.int .i64 d) ∧ W.cell? ⟨w.heap.size, 3, none⟩ = some (.int .i64 o) ∧ (W.cell? ⟨A, 1 + d, none⟩).isSome = true ∧ W.frozen? ⟨A, 1 + d, none⟩ = false) (first | exact ⟨b1, b3, sd, zd⟩ | exact ⟨d1, d3, se, yd⟩ | exact keep30 HAB d1 d3 dd yd _)
    ((first
      | (go_at_call 131; (with_reducible refine (CN.out _).mono ?_); rintro e w5 ⟨rfl, rfl⟩)
      | (go_at_call 130; (with_reducible refine (CL.out _ HA.out.drew.drew.drew HM.out.drew.drew.drew).mono ?_); rintro e w3 ⟨rfl, h3, m3, u3⟩; have d1 := (u3.cell (q := ⟨w.heap.size, 1, none⟩) lB HAB).trans b1; have d3 := (u3.cell (q := ⟨w.heap.size, 3, none⟩) lB HAB).trans b3; have dd := h3.r d hd; have yd := h3.z (1 + d); have se : (w3.cell? ⟨A, 1 + d, none⟩).isSome = true := (congrArg Option.isSome dd).trans rfl; have H3 := Lib.hid h3; have M3 := Lib.hid m3; have U3 := Lib.hid u3; clear h3 m3 u3)
      | (go_at_call 129; (with_reducible refine (CW.out _).mono ?_); rintro e w4 ⟨rfl, rfl⟩)))
  all_goals go_wp2_with fail
  all_goals go_ret
  all_goals rw [← HO.out]
  all_goals exact ⟨rfl, atq_ldo (H3.out.setR d hd v2) (hc_setA M3.out hne) (up_setA (HU.out.drew.drew.drew.trans (up_A U3.out))) (by rw [HV.out, HV2.out])⟩
end Go.Proofs.Ytcjcmnnhmajocab.St
