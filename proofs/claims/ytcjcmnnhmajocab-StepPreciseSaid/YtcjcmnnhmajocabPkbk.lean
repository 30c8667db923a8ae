/- interp.Run: so many steps. -/
import Derived.RegionTactic
import Derived.BigRegion
import Derived.Deep.RegionWith
import Derived.Deep.DeepCutAuto
import Derived.Deep.CutBlock
import Derived.OwnWalk
import Derived.LoopN
import Derived.Outline
import Derived.Deep.QuietTactic
import Derived.BigQuiet
import Derived.Deep.LoopGhost
import Derived.Test.YtcjcmnnhmajocabPkav
import Derived.Test.YtcjcmnnhmajocabPkax
namespace Go.Proofs.Ytcjcmnnhmajocab.St
open Go.RowKit Kt Me Fl Gu
set_option linter.unusedVariables false
set_option linter.unusedSimpArgs false
/-- what a run answers -/
def runV (r : Out × Nat) : Value := .tuple #[stV r.1.R r.1.pc r.1.f, .agg #[.int .i64 r.1.k, .int .u32 r.1.x], .int .i64 r.2]
theorem SB.congr {h : Nat} {R R' : Nat → Int} {pc f : Int} {W : World} (a : SB h R pc f W) (e : ∀ j, j < 8 → R j = R' j) : SB h R' pc f W :=
  ⟨fun j hj => (a.r j hj).trans (by rw [e j hj]), a.c8, a.c9, a.z, a.l⟩
theorem SB.put {h : Nat} {R : Nat → Int} {pc f : Int} {W : World} (a : SB h R pc f W) (R' : Nat → Int) (pc' f' : Int) :
    SB h R' pc' f' ((((((((((W.setCell ⟨h, 0, none⟩ (.int .u32 (R' 0))).setCell ⟨h, 1, none⟩ (.int .u32 (R' 1))).setCell ⟨h, 2, none⟩ (.int .u32 (R' 2))).setCell ⟨h, 3, none⟩ (.int .u32 (R' 3))).setCell ⟨h, 4, none⟩ (.int .u32 (R' 4))).setCell ⟨h, 5, none⟩ (.int .u32 (R' 5))).setCell ⟨h, 6, none⟩ (.int .u32 (R' 6))).setCell ⟨h, 7, none⟩ (.int .u32 (R' 7))).setCell ⟨h, 8, none⟩ (.int .u32 pc')).setCell ⟨h, 9, none⟩ (.int .u32 f')) := by
  refine ((((((((((a.setR 0 (by omega) (R' 0)).setR 1 (by omega) (R' 1)).setR 2 (by omega) (R' 2)).setR 3 (by omega) (R' 3)).setR 4 (by omega) (R' 4)).setR 5 (by omega) (R' 5)).setR 6 (by omega) (R' 6)).setR 7 (by omega) (R' 7)).setPc pc').setF f').congr fun j hj => ?_
  rcases (show j = 0 ∨ j = 1 ∨ j = 2 ∨ j = 3 ∨ j = 4 ∨ j = 5 ∨ j = 6 ∨ j = 7 by omega) with rfl | rfl | rfl | rfl | rfl | rfl | rfl | rfl <;> simp [upd]
theorem up_put10 {S : Nat → Prop} {h : Nat} {w W : World} (b : Upto S w W) (hh : S h ∨ w.heap.size ≤ h) (v0 v1 v2 v3 v4 v5 v6 v7 v8 v9 : Value) :
    Upto S w ((((((((((W.setCell ⟨h, 0, none⟩ v0).setCell ⟨h, 1, none⟩ v1).setCell ⟨h, 2, none⟩ v2).setCell ⟨h, 3, none⟩ v3).setCell ⟨h, 4, none⟩ v4).setCell ⟨h, 5, none⟩ v5).setCell ⟨h, 6, none⟩ v6).setCell ⟨h, 7, none⟩ v7).setCell ⟨h, 8, none⟩ v8).setCell ⟨h, 9, none⟩ v9) :=
  (((((((((b.setCell (q := ⟨h, 0, none⟩) hh v0).setCell (q := ⟨h, 1, none⟩) hh v1).setCell (q := ⟨h, 2, none⟩) hh v2).setCell (q := ⟨h, 3, none⟩) hh v3).setCell (q := ⟨h, 4, none⟩) hh v4).setCell (q := ⟨h, 5, none⟩) hh v5).setCell (q := ⟨h, 6, none⟩) hh v6).setCell (q := ⟨h, 7, none⟩) hh v7).setCell (q := ⟨h, 8, none⟩) hh v8).setCell (q := ⟨h, 9, none⟩) hh v9
/-- a state in a box, the results' cells behind it -/
structure R3 (h : Nat) (R : Nat → Int) (pc f : Int) (W : World) : Prop where
  s : SB h R pc f W
  q : RQ (h + 1) (h + 1 + 1) 10 (fun _ => .int .u32 0) (fun i => if i = 1 then .int .u32 0 else .int .i64 0) W
theorem R3.upto {S : Nat → Prop} {h : Nat} {R : Nat → Int} {pc f : Int} {W W' : World} (a : R3 h R pc f W) (u : Upto S W W') (h0 : ¬ S h) (h1 : ¬ S (h + 1)) (h2 : ¬ S (h + 1 + 1)) : R3 h R pc f W' :=
  ⟨a.s.upto u h0, a.q.upto u h1 h2⟩
theorem R3.new (w : World) (R : Nat → Int) (pc f : Int) : R3 w.heap.size R pc f (((w.alloc (.cells (stL R pc f) 72)).alloc (.cells Z10 72)).alloc (.cells Z2 46)) := by
  have s2 := SB.new w R pc f 72
  have e2 : (w.alloc (.cells (stL R pc f) 72)).heap.size = w.heap.size + 1 := by simp
  generalize w.alloc (.cells (stL R pc f) 72) = W1 at s2 e2 ⊢
  have q := RQ.new W1 72 46
  have u := ((Upto.refl (fun _ => False) W1).alloc (.cells Z10 72)).alloc (.cells Z2 46)
  rw [e2] at q
  exact ⟨s2.upto u id, q⟩
/-- what a step has answered, in two boxes -/
theorem two_new (w : World) (R : Nat → Int) (pc f k x : Int) :
    SB w.heap.size R pc f ((w.alloc (.cells (stL R pc f) 72)).alloc (.cells #[.int .i64 k, .int .u32 x] 46)) ∧
    KB (w.heap.size + 1) k x ((w.alloc (.cells (stL R pc f) 72)).alloc (.cells #[.int .i64 k, .int .u32 x] 46)) ∧
    Upto (fun _ => False) w ((w.alloc (.cells (stL R pc f) 72)).alloc (.cells #[.int .i64 k, .int .u32 x] 46)) := by
  have hu := ((Upto.refl (fun _ => False) w).alloc (.cells (stL R pc f) 72)).alloc (.cells #[.int .i64 k, .int .u32 x] 46)
  have s2 := SB.new w R pc f 72
  have e2 : (w.alloc (.cells (stL R pc f) 72)).heap.size = w.heap.size + 1 := by simp
  generalize w.alloc (.cells (stL R pc f) 72) = W1 at s2 e2 hu ⊢
  have k2 := KB.new W1 k x 46
  have u := (Upto.refl (fun _ => False) W1).alloc (.cells #[.int .i64 k, .int .u32 x] 46)
  rw [e2] at k2
  exact ⟨s2.upto u id, k2, hu⟩
theorem runO_0 (M : MM) (R : Nat → Int) (pc f : Int) : runO 0 M R pc f = (⟨M, R, pc, f, 0, 0⟩, 0) := rfl
theorem runO_go {n : Nat} {M : MM} {R : Nat → Int} {pc f : Int} {o : Out} (ho : stepO M R pc f = o) (h : o.k = 0) : runO (n + 1) M R pc f = ((runO n o.M o.R o.pc o.f).1, (runO n o.M o.R o.pc o.f).2 + 1) := by
  rw [runO]; simp only [ho, if_pos h]
theorem runO_sys {n : Nat} {M : MM} {R : Nat → Int} {pc f : Int} {o : Out} (ho : stepO M R pc f = o) (h : o.k = 1) : runO (n + 1) M R pc f = (o, 1) := by
  rw [runO]; simp only [ho, if_neg (show ¬ o.k = 0 by omega), if_pos h]
theorem runO_end {n : Nat} {M : MM} {R : Nat → Int} {pc f : Int} {o : Out} (ho : stepO M R pc f = o) (h : o.k ≠ 0) (h1 : o.k ≠ 1) : runO (n + 1) M R pc f = (o, 0) := by
  rw [runO]; simp only [ho, if_neg h, if_neg h1]
set_option maxRecDepth 100000 in
set_option maxHeartbeats 16000000 in
theorem run_any (p : Nat) (CS : ∀ (M : MM) (R : Nat → Int) (pc f : Int) (w : World), HC p M w → MOk M → ROk R → 0 ≤ pc → pc < 4294967296 → 0 ≤ f → f < 4294967296 → Calls Try.prog 34 #[.pointer (some ⟨p, 0, none⟩), stV R pc f] w fun e w' => e = .returned (outV (stepO M R pc f)) ∧ HC p (stepO M R pc f).M w' ∧ Upto (fun i => i = p) w w') (M : MM) (R : Nat → Int) (pc f n : Int) (w : World) (h : HC p M w) (hM : MOk M) (hR : ROk R) (c0 : 0 ≤ pc) (c1 : pc < 4294967296) (f0 : 0 ≤ f) (f1 : f < 4294967296) (n0 : -9223372036854775808 ≤ n) (n1 : n < 9223372036854775808) :
    Calls Try.prog 37 #[.pointer (some ⟨p, 0, none⟩), stV R pc f, .int .i64 n] w fun e w' => e = .returned (runV (runO n.toNat M R pc (f % 16))) ∧ HC p (runO n.toNat M R pc (f % 16)).1.M w' ∧ Upto (fun i => i = p) w w' := by
  have e15 : bits .and .u32 f 15 = f % 16 := mask15 f f0 f1
  have S0 := R3.new w R pc (f % 16)
  have u0 : Upto (fun _ => False) w (((w.alloc (.cells (stL R pc (f % 16)) 72)).alloc (.cells Z10 72)).alloc (.cells Z2 46)) := (((Upto.refl (fun _ => False) w).alloc _).alloc _).alloc _
  have HH := Lib.hid (h.upto u0 id)
  have hpw : p < w.heap.size := h.2.2.2.2.2.2
  have hW0 := Lib.hid (fun i (hi : w.heap.size ≤ i) (hp : i = p) => show False by omega)
  have OK := Lib.hid (And.intro hM (And.intro hR (And.intro (And.intro c0 c1) (show 0 ≤ f % 16 ∧ f % 16 < 16 by omega))))
  have U0 := Lib.hid (u0.mono (T := (fun i => i = p)) fun _ _ h => h.elim)
  clear u0 h hM
  unfold stL Z10 Z2 at S0 U0 HH
  have CS := Lib.hid CS
  obtain ⟨N, hN⟩ : ∃ N, n.toNat = N := ⟨_, rfl⟩
  rw [hN]
  unfold stV
  go_enter Try.func37, Try.ntmps37
  by_cases hn : 0 ≤ n
  · have hnN : n = (N : Int) := by omega
    clear hN
    subst hnN
    have hn1 : ¬ (N : Int) < 0 := by omega
    have hn2 : (0 : Int) ≤ (N : Int) := by omega
    go_upto_region 3 with fail
    generalize ((w.alloc (.cells #[.int .u32 (R 0), .int .u32 (R 1), .int .u32 (R 2), .int .u32 (R 3), .int .u32 (R 4), .int .u32 (R 5), .int .u32 (R 6), .int .u32 (R 7), .int .u32 pc, .int .u32 (f % 16)] 72)).alloc (.cells #[.int .u32 0, .int .u32 0, .int .u32 0, .int .u32 0, .int .u32 0, .int .u32 0, .int .u32 0, .int .u32 0, .int .u32 0, .int .u32 0] 72)).alloc (.cells #[.int .i64 0, .int .u32 0] 46) = WA at S0 U0 HH ⊢
    have HS := Lib.hid S0
    clear S0
    go_loopg [18] N (fun g i wr => ∃ (j : Nat) (M' : MM) (R' : Nat → Int) (pc' f' : Int), g = N - j ∧ j ≤ N ∧ i = .int .i64 j ∧ Hid (R3 w.heap.size R' pc' f' wr) ∧ Hid (HC p M' wr) ∧ Hid (Upto (fun i => i = p) w wr) ∧ Hid (MOk M' ∧ ROk R' ∧ (0 ≤ pc' ∧ pc' < 4294967296) ∧ (0 ≤ f' ∧ f' < 16)) ∧ Hid (runO N M R pc (f % 16) = ((runO (N - j) M' R' pc' f').1, (runO (N - j) M' R' pc' f').2 + j)))
    case atStart => exact ⟨0, M, R, pc, f % 16, rfl, Nat.zero_le _, rfl, HS.out, HH.out, U0.out, OK.out, rfl⟩
    case round =>
      obtain ⟨j, M', R', pc', f', hg, hj, rfl, HR, HM, HU, HOK, HO⟩ := hrel
      by_cases hlt : j < N
      · have hlt' : (j : Int) < (N : Int) := by omega
        have hge' : (0 : Int) ≤ (j : Int) := by omega
        obtain ⟨m, hm⟩ : ∃ m, N - j = m + 1 := ⟨N - j - 1, by omega⟩
        have HN1 := Lib.hid hm
        obtain ⟨oo, ho⟩ : ∃ oo, stepO M' R' pc' f' = oo := ⟨_, rfl⟩
        have HOO := Lib.hid ho
        have CC := CS.out M' R' pc' f' wr HM.out HOK.out.1 HOK.out.2.1 HOK.out.2.2.1.1 HOK.out.2.2.1.2 HOK.out.2.2.2.1 (by have := HOK.out.2.2.2.2; omega)
        have OKN := Lib.hid (ho ▸ stepO_ok M' R' pc' f' HOK.out.1 HOK.out.2.1 HOK.out.2.2.1)
        rw [ho] at CC
        unfold outV stV at CC
        have CC := Lib.hid CC
        clear ho hm
        obtain ⟨a0, a1, a2, a3, a4, a5, a6, a7, a8, a9⟩ := HR.out.s.all
        have lH := HR.out.s.l
        go_upto_region 6 with (go_at_call 34; (with_reducible refine CC.out.mono ?_); rintro e w5 ⟨rfl, m5, u5⟩; have M5 := Lib.hid m5; have R5 := Lib.hid (HR.out.upto u5 (fun hx => hW0.out _ (by omega) hx) (fun hx => hW0.out _ (by omega) hx) (fun hx => hW0.out _ (by omega) hx)); have U5 := Lib.hid (HU.out.trans u5); have l5 := Nat.lt_of_lt_of_le lH u5.size; clear a0 a1 a2 a3 a4 a5 a6 a7 a8 a9 m5 u5)
        obtain ⟨tn, kn, un⟩ := two_new w5 oo.R oo.pc oo.f oo.k oo.x
        have LB5 := Lib.hid R5.out.q.lb
        have M6 := Lib.hid (M5.out.upto un id)
        have R6 := Lib.hid (R5.out.upto un id id id)
        have U6 := Lib.hid (U5.out.trans (un.mono (T := (fun i => i = p)) fun _ _ h => h.elim))
        unfold stL at tn kn un M6 R6 U6
        generalize (w5.alloc (.cells #[.int .u32 (oo.R 0), .int .u32 (oo.R 1), .int .u32 (oo.R 2), .int .u32 (oo.R 3), .int .u32 (oo.R 4), .int .u32 (oo.R 5), .int .u32 (oo.R 6), .int .u32 (oo.R 7), .int .u32 oo.pc, .int .u32 oo.f] 72)).alloc (.cells #[.int .i64 oo.k, .int .u32 oo.x] 46) = W6 at tn kn un M6 R6 U6 ⊢
        have TB := Lib.hid tn
        have KB := Lib.hid kn
        clear tn kn un M5 R5 U5
        have a0 := R6.out.s.r 0 (by omega)
        have b0 := TB.out.r 0 (by omega)
        have z0 := R6.out.s.z 0
        have a1 := R6.out.s.r 1 (by omega)
        have b1 := TB.out.r 1 (by omega)
        have z1 := R6.out.s.z 1
        have a2 := R6.out.s.r 2 (by omega)
        have b2 := TB.out.r 2 (by omega)
        have z2 := R6.out.s.z 2
        have a3 := R6.out.s.r 3 (by omega)
        have b3 := TB.out.r 3 (by omega)
        have z3 := R6.out.s.z 3
        have a4 := R6.out.s.r 4 (by omega)
        have b4 := TB.out.r 4 (by omega)
        have z4 := R6.out.s.z 4
        have a5 := R6.out.s.r 5 (by omega)
        have b5 := TB.out.r 5 (by omega)
        have z5 := R6.out.s.z 5
        have a6 := R6.out.s.r 6 (by omega)
        have b6 := TB.out.r 6 (by omega)
        have z6 := R6.out.s.z 6
        have a7 := R6.out.s.r 7 (by omega)
        have b7 := TB.out.r 7 (by omega)
        have z7 := R6.out.s.z 7
        have a8 := R6.out.s.c8
        have a9 := R6.out.s.c9
        have b8 := TB.out.c8
        have b9 := TB.out.c9
        have z8 := R6.out.s.z 8
        have z9 := R6.out.s.z 9
        have lb5 : w.heap.size + 1 + 1 < w5.heap.size := LB5.out
        have lT5 := TB.out.l
        go_upto_region 7 with fail
        clear b0 b1 b2 b3 b4 b5 b6 b7 b8 b9 a0 a1 a2 a3 a4 a5 a6 a7 a8 a9 z0 z1 z2 z3 z4 z5 z6 z7 z8 z9
        have s7 := R6.out.s.put oo.R oo.pc oo.f
        have u7 := up_put10 (S := fun i => i = w.heap.size) (h := w.heap.size) (Upto.refl _ W6) (.inl rfl) (.int .u32 (oo.R 0)) (.int .u32 (oo.R 1)) (.int .u32 (oo.R 2)) (.int .u32 (oo.R 3)) (.int .u32 (oo.R 4)) (.int .u32 (oo.R 5)) (.int .u32 (oo.R 6)) (.int .u32 (oo.R 7)) (.int .u32 oo.pc) (.int .u32 oo.f)
        have q7 := R6.out.q.upto u7 (by omega) (by omega)
        have k7 := KB.out.upto u7 (by omega)
        have m7 := M6.out.upto u7 (by omega)
        have v7 := up_put10 (h := w.heap.size) U6.out (.inr (Nat.le_refl _)) (.int .u32 (oo.R 0)) (.int .u32 (oo.R 1)) (.int .u32 (oo.R 2)) (.int .u32 (oo.R 3)) (.int .u32 (oo.R 4)) (.int .u32 (oo.R 5)) (.int .u32 (oo.R 6)) (.int .u32 (oo.R 7)) (.int .u32 oo.pc) (.int .u32 oo.f)
        generalize ((((((((((W6.setCell ⟨w.heap.size, 0, none⟩ (.int .u32 (oo.R 0))).setCell ⟨w.heap.size, 1, none⟩ (.int .u32 (oo.R 1))).setCell ⟨w.heap.size, 2, none⟩ (.int .u32 (oo.R 2))).setCell ⟨w.heap.size, 3, none⟩ (.int .u32 (oo.R 3))).setCell ⟨w.heap.size, 4, none⟩ (.int .u32 (oo.R 4))).setCell ⟨w.heap.size, 5, none⟩ (.int .u32 (oo.R 5))).setCell ⟨w.heap.size, 6, none⟩ (.int .u32 (oo.R 6))).setCell ⟨w.heap.size, 7, none⟩ (.int .u32 (oo.R 7))).setCell ⟨w.heap.size, 8, none⟩ (.int .u32 oo.pc)).setCell ⟨w.heap.size, 9, none⟩ (.int .u32 oo.f)) = W3 at s7 q7 k7 m7 v7 u7 ⊢
        have HQ := Lib.hid q7
        have HS3 := Lib.hid s7
        have KB3 := Lib.hid k7
        have M3 := Lib.hid m7
        have U3 := Lib.hid v7
        have lT := s7.l
        clear s7 u7 q7 k7 m7 v7 R6 KB TB M6 U6
        by_cases hk0 : oo.k = 0
        · have b0 : (oo.k == 0) = true := by rw [hk0]; rfl
          have kc := KB3.out.c0
          go_wp2_with fail
          go_roundg (N - (j + 1))
          case measure => have := HN1.out; omega
          case rel =>
            refine ⟨j + 1, oo.M, oo.R, oo.pc, oo.f, rfl, by omega, by simp, ⟨HS3.out, HQ.out⟩, M3.out, U3.out, ⟨OKN.out.M, OKN.out.R, OKN.out.p, OKN.out.f⟩, ?_⟩
            have e0 := HO.out
            rw [HN1.out, runO_go HOO.out hk0] at e0
            rw [show N - (j + 1) = m by have := HN1.out; omega]
            exact e0.trans (by simp; omega)
        · have b0 : (oo.k == 0) = false := by rw [beq_eq_false_iff_ne]; exact hk0
          by_cases hk1 : oo.k = 1
          · have b1 : (oo.k == 1) = true := by rw [hk1]; rfl
            have er : runO N M R pc (f % 16) = (oo, j + 1) := by have e0 := HO.out; rw [HN1.out, runO_sys HOO.out hk1] at e0; exact e0.trans (by simp; omega)
            clear hk1 hk0
            have kc := KB3.out.c0
            have kd := KB3.out.c1
            obtain ⟨a0, a1, a2, a3, a4, a5, a6, a7, a8, a9⟩ := HS3.out.all
            obtain ⟨q0, y0, q1, y1, q2, y2, q3, y3, q4, y4, q5, y5, q6, y6, q7, y7, q8, y8, q9, y9, r0, x0, r1, x1⟩ := HQ.out.all
            go_upto_region 11 with fail
            go_region
            clear q0 y0 q1 y1 q2 y2 q3 y3 q4 y4 q5 y5 q6 y6 q7 y7 q8 y8 q9 y9 r0 x0 r1 x1
            clear a0 a1 a2 a3 a4 a5 a6 a7 a8 a9
            clear kc kd
            obtain ⟨u, t, fq, v0, v1, v2, v3, v4, v5, v6, v7, v8, v9, t0, t1⟩ := HQ.out.put (.int .u32 (oo.R 0)) (.int .u32 (oo.R 1)) (.int .u32 (oo.R 2)) (.int .u32 (oo.R 3)) (.int .u32 (oo.R 4)) (.int .u32 (oo.R 5)) (.int .u32 (oo.R 6)) (.int .u32 (oo.R 7)) (.int .u32 oo.pc) (.int .u32 oo.f) (.int .i64 oo.k) (.int .u32 oo.x)
            have bp := (upto_put (h := w.heap.size + 1) (g := w.heap.size + 1 + 1) U3.out (.inr (by omega)) (.inr (by omega)) (.int .u32 (oo.R 0)) (.int .u32 (oo.R 1)) (.int .u32 (oo.R 2)) (.int .u32 (oo.R 3)) (.int .u32 (oo.R 4)) (.int .u32 (oo.R 5)) (.int .u32 (oo.R 6)) (.int .u32 (oo.R 7)) (.int .u32 oo.pc) (.int .u32 oo.f) (.int .i64 oo.k) (.int .u32 oo.x)).drew
            have hp := (M3.out.upto (upto_put (h := w.heap.size + 1) (g := w.heap.size + 1 + 1) (Upto.refl (fun i => i = w.heap.size + 1 ∨ i = w.heap.size + 1 + 1) W3) (.inl (.inl rfl)) (.inl (.inr rfl)) (.int .u32 (oo.R 0)) (.int .u32 (oo.R 1)) (.int .u32 (oo.R 2)) (.int .u32 (oo.R 3)) (.int .u32 (oo.R 4)) (.int .u32 (oo.R 5)) (.int .u32 (oo.R 6)) (.int .u32 (oo.R 7)) (.int .u32 oo.pc) (.int .u32 oo.f) (.int .i64 oo.k) (.int .u32 oo.x)) (by intro hx; rcases hx with hx | hx <;> omega)).drew
            have fq2 := fq.drew
            clear fq
            generalize World.drew _ = WZ at fq2 bp hp ⊢
            obtain ⟨g0, g1, g2, g3, g4, g5, g6, g7, g8, g9, o0, o1⟩ := fq2.got v0 v1 v2 v3 v4 v5 v6 v7 v8 v9 t0 t1
            go_wp2_with fail
            exact bodyPost_ret (v := runV (oo, j + 1)) (by simp [runV, stV, results, Try.results37, go_sem, g0, g1, g2, g3, g4, g5, g6, g7, g8, g9, o0, o1]) rfl ⟨by first | rfl | rw [er], by first | exact hp | (rw [er]; exact hp), bp⟩
          · have b1 : (oo.k == 1) = false := by rw [beq_eq_false_iff_ne]; exact hk1
            have er : runO N M R pc (f % 16) = (oo, j) := by have e0 := HO.out; rw [HN1.out, runO_end HOO.out hk0 hk1] at e0; exact e0.trans (by simp)
            have kc := KB3.out.c0
            have kd := KB3.out.c1
            obtain ⟨a0, a1, a2, a3, a4, a5, a6, a7, a8, a9⟩ := HS3.out.all
            obtain ⟨q0, y0, q1, y1, q2, y2, q3, y3, q4, y4, q5, y5, q6, y6, q7, y7, q8, y8, q9, y9, r0, x0, r1, x1⟩ := HQ.out.all
            go_upto_region 8 with fail
            go_region
            clear q0 y0 q1 y1 q2 y2 q3 y3 q4 y4 q5 y5 q6 y6 q7 y7 q8 y8 q9 y9 r0 x0 r1 x1
            clear a0 a1 a2 a3 a4 a5 a6 a7 a8 a9
            clear kc kd
            obtain ⟨u, t, fq, v0, v1, v2, v3, v4, v5, v6, v7, v8, v9, t0, t1⟩ := HQ.out.put (.int .u32 (oo.R 0)) (.int .u32 (oo.R 1)) (.int .u32 (oo.R 2)) (.int .u32 (oo.R 3)) (.int .u32 (oo.R 4)) (.int .u32 (oo.R 5)) (.int .u32 (oo.R 6)) (.int .u32 (oo.R 7)) (.int .u32 oo.pc) (.int .u32 oo.f) (.int .i64 oo.k) (.int .u32 oo.x)
            have bp := (upto_put (h := w.heap.size + 1) (g := w.heap.size + 1 + 1) U3.out (.inr (by omega)) (.inr (by omega)) (.int .u32 (oo.R 0)) (.int .u32 (oo.R 1)) (.int .u32 (oo.R 2)) (.int .u32 (oo.R 3)) (.int .u32 (oo.R 4)) (.int .u32 (oo.R 5)) (.int .u32 (oo.R 6)) (.int .u32 (oo.R 7)) (.int .u32 oo.pc) (.int .u32 oo.f) (.int .i64 oo.k) (.int .u32 oo.x)).drew
            have hp := (M3.out.upto (upto_put (h := w.heap.size + 1) (g := w.heap.size + 1 + 1) (Upto.refl (fun i => i = w.heap.size + 1 ∨ i = w.heap.size + 1 + 1) W3) (.inl (.inl rfl)) (.inl (.inr rfl)) (.int .u32 (oo.R 0)) (.int .u32 (oo.R 1)) (.int .u32 (oo.R 2)) (.int .u32 (oo.R 3)) (.int .u32 (oo.R 4)) (.int .u32 (oo.R 5)) (.int .u32 (oo.R 6)) (.int .u32 (oo.R 7)) (.int .u32 oo.pc) (.int .u32 oo.f) (.int .i64 oo.k) (.int .u32 oo.x)) (by intro hx; rcases hx with hx | hx <;> omega)).drew
            have fq2 := fq.drew
            clear fq
            generalize World.drew _ = WZ at fq2 bp hp ⊢
            obtain ⟨g0, g1, g2, g3, g4, g5, g6, g7, g8, g9, o0, o1⟩ := fq2.got v0 v1 v2 v3 v4 v5 v6 v7 v8 v9 t0 t1
            go_wp2_with fail
            exact bodyPost_ret (v := runV (oo, j)) (by simp [runV, stV, results, Try.results37, go_sem, g0, g1, g2, g3, g4, g5, g6, g7, g8, g9, o0, o1]) rfl ⟨by first | rfl | rw [er], by first | exact hp | (rw [er]; exact hp), bp⟩
      · obtain rfl : N = j := by omega
        have er : runO N M R pc (f % 16) = (⟨M', R', pc', f', 0, 0⟩, N) := by have := HO.out; rw [Nat.sub_self] at this; exact this.trans (by simp [runO_0])
        obtain ⟨W3, hW3⟩ : ∃ W3, W3 = wr := ⟨_, rfl⟩
        rw [← hW3] at HR HM HU ⊢
        clear hW3
        have HQ := Lib.hid HR.out.q
        have U3 := Lib.hid HU.out
        have M3 := Lib.hid HM.out
        have lT := HR.out.s.l
        obtain ⟨a0, a1, a2, a3, a4, a5, a6, a7, a8, a9⟩ := HR.out.s.all
        obtain ⟨q0, y0, q1, y1, q2, y2, q3, y3, q4, y4, q5, y5, q6, y6, q7, y7, q8, y8, q9, y9, r0, x0, r1, x1⟩ := HQ.out.all
        go_upto_region 13 with fail
        go_wp2_with fail
        clear q0 y0 q1 y1 q2 y2 q3 y3 q4 y4 q5 y5 q6 y6 q7 y7 q8 y8 q9 y9 r0 x0 r1 x1
        clear a0 a1 a2 a3 a4 a5 a6 a7 a8 a9
        obtain ⟨u, t, fq, v0, v1, v2, v3, v4, v5, v6, v7, v8, v9, t0, t1⟩ := HQ.out.put (.int .u32 (R' 0)) (.int .u32 (R' 1)) (.int .u32 (R' 2)) (.int .u32 (R' 3)) (.int .u32 (R' 4)) (.int .u32 (R' 5)) (.int .u32 (R' 6)) (.int .u32 (R' 7)) (.int .u32 pc') (.int .u32 f') (.int .i64 0) (.int .u32 0)
        have bp := (upto_put (h := w.heap.size + 1) (g := w.heap.size + 1 + 1) U3.out (.inr (by omega)) (.inr (by omega)) (.int .u32 (R' 0)) (.int .u32 (R' 1)) (.int .u32 (R' 2)) (.int .u32 (R' 3)) (.int .u32 (R' 4)) (.int .u32 (R' 5)) (.int .u32 (R' 6)) (.int .u32 (R' 7)) (.int .u32 pc') (.int .u32 f') (.int .i64 0) (.int .u32 0))
        have hp := (M3.out.upto (upto_put (h := w.heap.size + 1) (g := w.heap.size + 1 + 1) (Upto.refl (fun i => i = w.heap.size + 1 ∨ i = w.heap.size + 1 + 1) W3) (.inl (.inl rfl)) (.inl (.inr rfl)) (.int .u32 (R' 0)) (.int .u32 (R' 1)) (.int .u32 (R' 2)) (.int .u32 (R' 3)) (.int .u32 (R' 4)) (.int .u32 (R' 5)) (.int .u32 (R' 6)) (.int .u32 (R' 7)) (.int .u32 pc') (.int .u32 f') (.int .i64 0) (.int .u32 0)) (by intro hx; rcases hx with hx | hx <;> omega))
        have fq2 := fq
        clear fq
        obtain ⟨g0, g1, g2, g3, g4, g5, g6, g7, g8, g9, o0, o1⟩ := fq2.got v0 v1 v2 v3 v4 v5 v6 v7 v8 v9 t0 t1
        exact bodyPost_ret (v := runV (⟨M', R', pc', f', 0, 0⟩, N)) (by simp [runV, stV, results, Try.results37, go_sem, g0, g1, g2, g3, g4, g5, g6, g7, g8, g9, o0, o1]) rfl ⟨by first | rfl | rw [er], by first | exact hp | (rw [er]; exact hp), bp⟩
  · have hnN : N = 0 := by omega
    clear hN
    subst hnN
    have hn1 : n ≤ 0 := by omega
    have hn2 : ¬ 0 < n := by omega
    have hn3 : n < 0 := by omega
    have hn4 : ¬ 0 ≤ n := by omega
    go_upto_region 3 with fail
    generalize ((w.alloc (.cells #[.int .u32 (R 0), .int .u32 (R 1), .int .u32 (R 2), .int .u32 (R 3), .int .u32 (R 4), .int .u32 (R 5), .int .u32 (R 6), .int .u32 (R 7), .int .u32 pc, .int .u32 (f % 16)] 72)).alloc (.cells #[.int .u32 0, .int .u32 0, .int .u32 0, .int .u32 0, .int .u32 0, .int .u32 0, .int .u32 0, .int .u32 0, .int .u32 0, .int .u32 0] 72)).alloc (.cells #[.int .i64 0, .int .u32 0] 46) = WA at S0 U0 HH ⊢
    have HS := Lib.hid S0
    clear S0
    go_loopg [18] 0 (fun g i wr => ∃ (j : Nat) (M' : MM) (R' : Nat → Int) (pc' f' : Int), g = 0 - j ∧ j ≤ 0 ∧ i = .int .i64 j ∧ Hid (R3 w.heap.size R' pc' f' wr) ∧ Hid (HC p M' wr) ∧ Hid (Upto (fun i => i = p) w wr) ∧ Hid (MOk M' ∧ ROk R' ∧ (0 ≤ pc' ∧ pc' < 4294967296) ∧ (0 ≤ f' ∧ f' < 16)) ∧ Hid (runO 0 M R pc (f % 16) = ((runO (0 - j) M' R' pc' f').1, (runO (0 - j) M' R' pc' f').2 + j)))
    case atStart => exact ⟨0, M, R, pc, f % 16, rfl, Nat.zero_le _, rfl, HS.out, HH.out, U0.out, OK.out, rfl⟩
    case round =>
      obtain ⟨j, M', R', pc', f', hg, hj, rfl, HR, HM, HU, HOK, HO⟩ := hrel
      obtain rfl : j = 0 := by omega
      have er : runO 0 M R pc (f % 16) = (⟨M', R', pc', f', 0, 0⟩, 0) := by have := HO.out; rw [Nat.sub_self] at this; exact this.trans (by simp [runO_0])
      obtain ⟨W3, hW3⟩ : ∃ W3, W3 = wr := ⟨_, rfl⟩
      rw [← hW3] at HR HM HU ⊢
      clear hW3
      have HQ := Lib.hid HR.out.q
      have U3 := Lib.hid HU.out
      have M3 := Lib.hid HM.out
      have lT := HR.out.s.l
      obtain ⟨a0, a1, a2, a3, a4, a5, a6, a7, a8, a9⟩ := HR.out.s.all
      obtain ⟨q0, y0, q1, y1, q2, y2, q3, y3, q4, y4, q5, y5, q6, y6, q7, y7, q8, y8, q9, y9, r0, x0, r1, x1⟩ := HQ.out.all
      go_upto_region 13 with fail
      go_wp2_with fail
      clear q0 y0 q1 y1 q2 y2 q3 y3 q4 y4 q5 y5 q6 y6 q7 y7 q8 y8 q9 y9 r0 x0 r1 x1
      clear a0 a1 a2 a3 a4 a5 a6 a7 a8 a9
      obtain ⟨u, t, fq, v0, v1, v2, v3, v4, v5, v6, v7, v8, v9, t0, t1⟩ := HQ.out.put (.int .u32 (R' 0)) (.int .u32 (R' 1)) (.int .u32 (R' 2)) (.int .u32 (R' 3)) (.int .u32 (R' 4)) (.int .u32 (R' 5)) (.int .u32 (R' 6)) (.int .u32 (R' 7)) (.int .u32 pc') (.int .u32 f') (.int .i64 0) (.int .u32 0)
      have bp := (upto_put (h := w.heap.size + 1) (g := w.heap.size + 1 + 1) U3.out (.inr (by omega)) (.inr (by omega)) (.int .u32 (R' 0)) (.int .u32 (R' 1)) (.int .u32 (R' 2)) (.int .u32 (R' 3)) (.int .u32 (R' 4)) (.int .u32 (R' 5)) (.int .u32 (R' 6)) (.int .u32 (R' 7)) (.int .u32 pc') (.int .u32 f') (.int .i64 0) (.int .u32 0))
      have hp := (M3.out.upto (upto_put (h := w.heap.size + 1) (g := w.heap.size + 1 + 1) (Upto.refl (fun i => i = w.heap.size + 1 ∨ i = w.heap.size + 1 + 1) W3) (.inl (.inl rfl)) (.inl (.inr rfl)) (.int .u32 (R' 0)) (.int .u32 (R' 1)) (.int .u32 (R' 2)) (.int .u32 (R' 3)) (.int .u32 (R' 4)) (.int .u32 (R' 5)) (.int .u32 (R' 6)) (.int .u32 (R' 7)) (.int .u32 pc') (.int .u32 f') (.int .i64 0) (.int .u32 0)) (by intro hx; rcases hx with hx | hx <;> omega))
      have fq2 := fq
      clear fq
      obtain ⟨g0, g1, g2, g3, g4, g5, g6, g7, g8, g9, o0, o1⟩ := fq2.got v0 v1 v2 v3 v4 v5 v6 v7 v8 v9 t0 t1
      exact bodyPost_ret (v := runV (⟨M', R', pc', f', 0, 0⟩, 0)) (by simp [runV, stV, results, Try.results37, go_sem, g0, g1, g2, g3, g4, g5, g6, g7, g8, g9, o0, o1]) rfl ⟨by first | rfl | rw [er], by first | exact hp | (rw [er]; exact hp), bp⟩
end Go.Proofs.Ytcjcmnnhmajocab.St
