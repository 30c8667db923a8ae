/- law2's own functions: length, marked, stores. -/
import Derived.Test.YtcjcmnnhmajocabGreatPlbo
set_option linter.unusedVariables false
set_option linter.unusedSimpArgs false
set_option maxRecDepth 100000
set_option maxHeartbeats 16000000
namespace Go.Proofs.YtcjcmnnhmajocabGreat.Lf
open Go.RowKit Kt Ic Me Gu St
theorem mst_eq2 (most : Int) : (if 64 < (if most < 1 then 1 else most) then (64 : Int) else if most < 1 then 1 else most) = (mst most : Int) ∧ 1 ≤ mst most ∧ mst most ≤ 64 := by
 unfold mst
 by_cases h : most < 1
 ·simp only [if_pos h]
  rw [Int.max_eq_right (by omega), if_neg (by decide)]
  exact ⟨rfl, by decide, by decide⟩
 ·simp only [if_neg h]
  rw [Int.max_eq_left (by omega)]
  by_cases h2 : 64 < most
  ·rw [if_pos h2, Int.min_eq_right (by omega)]; exact ⟨rfl, by decide, by decide⟩
  ·rw [if_neg h2, Int.min_eq_left (by omega)]; exact ⟨by omega, by omega, by omega⟩
/-- a box of the call's own -/
structure Bo (b : Nat) (cs : Array Value) (W : World) : Prop where
 l : b < W.heap.size
 c : ∀ (j : Nat) (v : Value), cs[j]? = some v → W.cell? ⟨b, j, none⟩ = some v
 z : ∀ j, W.frozen? ⟨b, j, none⟩ = false
theorem Bo.upto {S : Nat → Prop} {b : Nat} {cs : Array Value} {W W' : World} (h : Bo b cs W) (u : Upto S W W') (hs : ¬ S b) : Bo b cs W' :=
 ⟨Nat.lt_of_lt_of_le h.l u.size, fun j v hj => (u.cell (q := ⟨b, j, none⟩) h.l hs).trans (h.c j v hj), fun j => (u.frozen (q := ⟨b, j, none⟩) h.l hs).trans (h.z j)⟩
theorem Bo.new (w : World) (cs : Array Value) (t : TypeId) : Bo w.heap.size cs (w.alloc (.cells cs t)) :=
 ⟨by simp, fun j v hj => (cell_of_row _ _ _ _ _ _ (heap_alloc_new w _)).trans hj, fun j => by simp⟩
theorem Bo.setc {b : Nat} {cs : Array Value} {W : World} (h : Bo b cs W) (j : Nat) (v : Value) : Bo b (cs.setIfInBounds j v) (W.setCell ⟨b, j, none⟩ v) := by
 refine ⟨by simpa using h.l, fun i u hi => ?_, fun i => by simpa using h.z i⟩
 by_cases e : i = j
 ·subst e
  have hs : i < cs.size := by
   have := (Array.getElem?_eq_some_iff.1 hi).1
   simpa using this
  rw [Array.getElem?_setIfInBounds_self_of_lt hs] at hi
  obtain rfl := Option.some.inj hi
  exact World.cell?_setCell_same _ _ _ (h.c i _ (Array.getElem?_eq_getElem hs))
 ·rw [Array.getElem?_setIfInBounds_ne (Ne.symm e)] at hi
  rw [World.cell?_setCell_other _ _ _ _ (by intro hx; exact e (congrArg Addr.off hx).symm)]
  exact h.c i u hi
theorem Bo.put2 {b : Nat} {x0 x1 : Value} {w W : World} (h : Bo b #[x0, x1] W) (u : Below b w W) (v0 v1 : Value) :
  ((W.setCell ⟨b, 0, none⟩ v0).setCell ⟨b, 1, none⟩ v1).cell? ⟨b, 0, none⟩ = some v0 ∧ ((W.setCell ⟨b, 0, none⟩ v0).setCell ⟨b, 1, none⟩ v1).cell? ⟨b, 1, none⟩ = some v1 ∧ Below b w ((W.setCell ⟨b, 0, none⟩ v0).setCell ⟨b, 1, none⟩ v1) := by
 have k := (h.setc 0 v0).setc 1 v1
 exact ⟨k.c 0 _ rfl, k.c 1 _ rfl, (u.setCell (Nat.le_refl _) _).setCell (Nat.le_refl _) _⟩
theorem ops_up {os : List Opr} {ao : Option Addr} {cap : Nat} {S : Nat → Prop} {w w' : World} (h : Ops os ao cap w) (u : Upto S w w') (hs : ∀ g, ao = some g → 0 < os.length → ¬ S g.block) : Ops os ao cap w' := by
 obtain ⟨h1, h2, h3⟩ := h
 refine ⟨h1, h2, fun hp => ?_⟩
 obtain ⟨g, off, e, hg, hc⟩ := h3 hp
 refine ⟨g, off, e, Nat.lt_of_lt_of_le hg u.size, fun i o ho j v hv => ?_⟩
 exact (u.cell (q := ⟨g, off + i * 7 + j, none⟩) hg (show ¬ S g from hs ⟨g, off, none⟩ e hp)).trans (hc i o ho j v hv)
def lngV (r : Int × Int × Int × Int) : Value := .tuple #[.int .i64 r.1, .int .i64 r.2.1, .agg #[.int .i64 r.2.2.1, .int .u32 r.2.2.2]]
theorem length_any (P : RP) (M : MM) (q most : Int) (w : World) (h : RM P M w) (hM : MOk M) (q0 : 0 ≤ q) (q1 : q < 4294967296) :
  Calls Tryz.prog 25 #[.pointer (some ⟨P.q, 0, none⟩), .int .u32 q, .int .i64 most] w fun e w' => e = .returned (lngV (lng M q (mst most) 0 0)) ∧ Below w.heap.size w w' := by
 obtain ⟨hm1, hm2, hm3⟩ := mst_eq2 most
 obtain ⟨mv, hmv⟩ : ∃ m, mst most = m := ⟨_, rfl⟩
 have HM := κ hm2
 have HM3 := κ hm3
 rw [hmv] at HM HM3 hm1
 obtain ⟨fin, hfin⟩ : ∃ s, lng M q (mst most) 0 0 = s := ⟨_, rfl⟩
 have HE := κ (show lng M q mv 0 0 = fin by rw [← hmv]; exact hfin)
 rw [hfin]
 unfold lngV
 clear hm2 hm3 hmv hfin
 have HH := κ h
 have C0 := κ q0
 have C1 := κ q1
 have R0 := κ (Bo.new w #[.int .i64 0, .int .u32 0] 55)
 have U0 := κ ((Below.refl w.heap.size w).alloc (Nat.le_refl _) (.cells #[.int .i64 0, .int .u32 0] 55))
 clear h q0 q1
 rcases (show most < 1 ∨ (¬ most < 1 ∧ 64 < most) ∨ (¬ most < 1 ∧ ¬ 64 < most) by omega) with h1 | ⟨h1, h2⟩ | ⟨h1, h2⟩
 case' inl =>
  have cmp : Hid (∀ n : Int, decide (n < 1) = decide (n < (mv : Int))) := κ (fun n => by rw [← hm1, if_pos h1]; rfl)
  have b1 : decide (most < 1) = true := decide_eq_true h1
  clear h1 hm1
 case' inr.inl =>
  have cmp : Hid (∀ n : Int, decide (n < 64) = decide (n < (mv : Int))) := κ (fun n => by rw [← hm1, if_neg h1, if_pos h2])
  have b1 : decide (most < 1) = false := decide_eq_false h1
  have b2 : decide (64 < most) = true := decide_eq_true h2
  clear h1 h2 hm1
 case' inr.inr =>
  have cmp : Hid (∀ n : Int, decide (n < most) = decide (n < (mv : Int))) := κ (fun n => by rw [← hm1, if_neg h1, if_neg h2])
  have b1 : decide (most < 1) = false := decide_eq_false h1
  have b2 : decide (64 < most) = false := decide_eq_false h2
  clear h1 h2 hm1
 all_goals
  go_enter Tryz.func25, Tryz.ntmps25
  go_upto_region 5 with fail
  generalize w.alloc (.cells #[.int .i64 0, .int .u32 0] 55) = wA at R0 U0 ⊢
  clear b1
  go_wp2
  go_loopg [9, 10] mv (fun g nn zz wr => ∃ (n z : Int), nn = .int .i64 n ∧ zz = .int .i64 z ∧ Hid (lng M q g n z = fin) ∧ Hid (0 ≤ n ∧ n + g = mv) ∧ Hid (0 ≤ z ∧ z + 8 * g ≤ 8 * mv) ∧ Hid (Bo w.heap.size #[.int .i64 0, .int .u32 0] wr) ∧ Hid (Below w.heap.size w wr))
  case atStart => exact ⟨0, 0, rfl, rfl, HE, κ (by omega), κ (by omega), R0, U0⟩
  case round =>
   obtain ⟨n, z, rfl, rfl, E, N, Z, R, U⟩ := hrel
   clear R0 U0
   cases gk with
   | zero =>
    have d0 := (cmp.out n).trans (decide_eq_false (by have := N.out; omega))
    have k0 := R.out.c 0 _ rfl
    have k1 := R.out.c 1 _ rfl
    have kz := R.out.z
    have kl := R.out.l
    go_wp2
    obtain ⟨q0, q1, u7⟩ := R.out.put2 U.out (.int .i64 0) (.int .u32 0)
    generalize World.setCell (World.setCell wr _ _) _ _ = W7 at q0 q1 u7 ⊢
    have EF : (n, z, 0, 0) = fin := E.out
    subst EF
    exact bodyPost_ret (v := .tuple #[.int .i64 n, .int .i64 z, .agg #[.int .i64 0, .int .u32 0]]) (by simp [results, Tryz.results25, go_sem, q0, q1]) rfl ⟨rfl, u7⟩
   | succ k =>
    have d0 := (cmp.out n).trans (decide_eq_true (by have := N.out; omega))
    have z6 := iz_6 M (w32 (q + z))
    have e1 : IntKind.u32.wrap z = z := by rw [IntKind.wrap_u32]; have := Z.out; have := HM3.out; omega
    have e2 : IntKind.u32.wrap (q + z) = w32 (q + z) := by rw [IntKind.wrap_u32]; rfl
    have e3 : IntKind.i64.wrap (n + 1) = n + 1 := by rw [IntKind.wrap_i64]; have := N.out; have := HM3.out; omega
    have hb := w32_bd (q + z)
    obtain ⟨y, hy⟩ : ∃ y, w32 (q + z) = y := ⟨_, rfl⟩
    have EE := E.out
    unfold lng at EE
    rw [hy] at EE e2 hb z6
    have e4 : IntKind.i64.wrap (z + iz M y 5) = z + iz M y 5 := by rw [IntKind.wrap_i64]; have := Z.out; have := HM3.out; omega
    have PI := rins_all P M y wr (HH.out.upto (Upto.of_below (S := fun _ => False) U.out) (fun _ _ => id)) hM hb.1 hb.2
    rw [insV_eq] at PI
    unfold agg5 at PI
    have PI := κ PI
    have Z6 := κ z6
    have EE := κ EE
    clear hy z6 hb E
    go_upto_region 9 with (go_at_call 57; refine PI.out.mono ?_; rintro e w3 ⟨rfl, b3⟩; have B3 := κ b3; clear b3)
    have u3 := Upto.of_below (S := fun _ => False) B3.out
    have un := ((Upto.refl (fun _ => False) w3).alloc (.cells #[.int .i64 (iz M y 0), .int .i64 (iz M y 1), .int .i64 (iz M y 2), .int .i64 (iz M y 3), .int .u32 (iz M y 4)] 74)).alloc (.cells #[.int .i64 (ik M y).1, .int .u32 (ik M y).2] 55)
    have X4 := (Bo.new w3 #[.int .i64 (iz M y 0), .int .i64 (iz M y 1), .int .i64 (iz M y 2), .int .i64 (iz M y 3), .int .u32 (iz M y 4)] 74).upto ((Upto.refl (fun _ => False) _).alloc (.cells #[.int .i64 (ik M y).1, .int .u32 (ik M y).2] 55)) id
    have S4 := Bo.new (w3.alloc (.cells #[.int .i64 (iz M y 0), .int .i64 (iz M y 1), .int .i64 (iz M y 2), .int .i64 (iz M y 3), .int .u32 (iz M y 4)] 74)) #[.int .i64 (ik M y).1, .int .u32 (ik M y).2] 55
    rw [show (w3.alloc (.cells #[.int .i64 (iz M y 0), .int .i64 (iz M y 1), .int .i64 (iz M y 2), .int .i64 (iz M y 3), .int .u32 (iz M y 4)] 74)).heap.size = w3.heap.size + 1 by simp] at S4
    have R4 := κ ((R.out.upto u3 id).upto un id)
    have U4 := κ ((U.out.trans (B3.out.mono U.out.size)).trans ((un.below (Nat.le_refl _) (fun _ _ => id)).mono (Nat.le_trans U.out.size B3.out.size)))
    have X4 := κ X4
    have S4 := κ S4
    generalize (w3.alloc (.cells #[.int .i64 (iz M y 0), .int .i64 (iz M y 1), .int .i64 (iz M y 2), .int .i64 (iz M y 3), .int .u32 (iz M y 4)] 74)).alloc (.cells #[.int .i64 (ik M y).1, .int .u32 (ik M y).2] 55) = w4 at R4 U4 X4 S4 ⊢
    generalize w3.heap.size = b3 at *
    clear u3 un B3 R U PI d0 e1 e2
    have s0 := S4.out.c 0 _ rfl
    have s1 := S4.out.c 1 _ rfl
    have sl := S4.out.l
    by_cases hk : (ik M y).1 = 0
    ·rw [hk] at s0
     have EB := EE.out
     rw [if_neg (fun h => h hk)] at EB
     have EB := κ EB
     have x0 := X4.out.c 0 _ rfl
     have xl := X4.out.l
     have PE := κ (rends_any (iz M y 0) w4)
     clear hk EE s1
     cases he : en (iz M y 0) with
     | true =>
      rw [he] at PE EB
      have k0 := R4.out.c 0 _ rfl
      have k1 := R4.out.c 1 _ rfl
      have kz := R4.out.z
      have kl := R4.out.l
      go_wp2_with (go_at_call 58; refine PE.out.mono ?_; rintro e w9 ⟨rfl, rfl⟩)
      obtain ⟨q0, q1, u7⟩ := R4.out.put2 U4.out (.int .i64 0) (.int .u32 0)
      generalize World.setCell (World.setCell w4 _ _) _ _ = W7 at q0 q1 u7 ⊢
      have EF : (n + 1, z + iz M y 5, 0, 0) = fin := EB.out
      subst EF
      exact bodyPost_ret (v := .tuple #[.int .i64 (n + 1), .int .i64 (z + iz M y 5), .agg #[.int .i64 0, .int .u32 0]]) (by simp [results, Tryz.results25, go_sem, q0, q1]) rfl ⟨rfl, u7⟩
     | false =>
      rw [he] at PE EB
      go_wp2_with (go_at_call 58; refine PE.out.mono ?_; rintro e w9 ⟨rfl, rfl⟩)
      go_roundg k
      case measure => omega
      case rel => exact ⟨n + 1, z + iz M y 5, rfl, rfl, EB, κ (by have := N.out; omega), κ (by have := Z.out; have := Z6.out; omega), R4, U4⟩
    ·have hne : ((ik M y).1 != 0) = true := by simpa using hk
     have EB := EE.out
     rw [if_pos hk] at EB
     have EB := κ EB
     have k0 := R4.out.c 0 _ rfl
     have k1 := R4.out.c 1 _ rfl
     have kz := R4.out.z
     have kl := R4.out.l
     clear hk EE
     by_cases hn : n = 0
     ·subst hn
      go_wp2
      go_region
      go_wp2
      obtain ⟨q0, q1, u7⟩ := R4.out.put2 U4.out (.int .i64 (ik M y).1) (.int .u32 (ik M y).2)
      generalize World.setCell (World.setCell w4 _ _) _ _ = W7 at q0 q1 u7 ⊢
      have d0 : W7.drew.cell? ⟨w.heap.size, 0, none⟩ = some (.int .i64 (ik M y).1) := q0
      have d1 : W7.drew.cell? ⟨w.heap.size, 1, none⟩ = some (.int .u32 (ik M y).2) := q1
      have EF : (0, 0, (ik M y).1, (ik M y).2) = fin := by have h := EB.out; simpa using h
      subst EF
      exact bodyPost_ret (v := .tuple #[.int .i64 0, .int .i64 0, .agg #[.int .i64 (ik M y).1, .int .u32 (ik M y).2]]) (by simp [results, Tryz.results25, go_sem, d0, d1]) rfl ⟨rfl, u7.drew⟩
     ·have hnn : (n == 0) = false := by simpa using hn
      go_wp2
      obtain ⟨q0, q1, u7⟩ := R4.out.put2 U4.out (.int .i64 0) (.int .u32 0)
      generalize World.setCell (World.setCell w4 _ _) _ _ = W7 at q0 q1 u7 ⊢
      have EF := EB.out
      rw [if_neg hn] at EF
      subst EF
      exact bodyPost_ret (v := .tuple #[.int .i64 n, .int .i64 z, .agg #[.int .i64 0, .int .u32 0]]) (by simp [results, Tryz.results25, go_sem, q0, q1]) rfl ⟨rfl, u7⟩
end Go.Proofs.YtcjcmnnhmajocabGreat.Lf
