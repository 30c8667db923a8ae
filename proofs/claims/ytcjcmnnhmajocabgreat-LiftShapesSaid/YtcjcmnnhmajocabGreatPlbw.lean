/- crossgrainlaw2.alike: both memories have the same bytes. -/
import Derived.Test.YtcjcmnnhmajocabGreatPlbc
import Derived.Test.YtcjcmnnhmajocabGreatPlbr
set_option linter.unusedVariables false
set_option linter.unusedSimpArgs false
set_option maxRecDepth 100000
set_option maxHeartbeats 16000000
namespace Go.Proofs.YtcjcmnnhmajocabGreat.Ev
open Go.RowKit Kt Me
/-- a part, as it came in -/
structure Prt where
 at_ : Int
 us : List Int
 ao : Option Addr
 cap : Nat
 rt : Int
def Prt.cells (s : Prt) : Array Value := #[.int .i64 s.at_, .slice s.ao s.us.length s.cap, .int .i64 s.rt]
structure PrtOk (s : Prt) (W : World) : Prop where
 a0 : -9223372036854775808 ≤ s.at_
 a1 : s.at_ < 9223372036854775808
 bs : Gu.Bs s.us s.ao s.cap W
 rg : ∀ j, 0 ≤ s.us.getD j 0 ∧ s.us.getD j 0 < 256
/-- the parts that came in -/
structure Prts (ss : List Prt) (ao : Option Addr) (cap : Nat) (W : World) : Prop where
 lc : ss.length ≤ cap
 mx : cap ≤ maxLen
 ok : ∀ s ∈ ss, PrtOk s W
 at_ : 0 < ss.length → ∃ b off, ao = some ⟨b, off, none⟩ ∧ b < W.heap.size ∧ ∀ i s, ss[i]? = some s → ∀ j v, s.cells[j]? = some v → W.cell? ⟨b, off + i * 3 + j, none⟩ = some v
theorem PrtOk.keep {s : Prt} {w w' : World} (h : PrtOk s w) (b : Below w.heap.size w w') : PrtOk s w' := ⟨h.a0, h.a1, h.bs.keep b, h.rg⟩
theorem Prts.keep {ss : List Prt} {ao : Option Addr} {cap : Nat} {w w' : World} (h : Prts ss ao cap w) (b : Below w.heap.size w w') : Prts ss ao cap w' :=
 ⟨h.lc, h.mx, fun s hs => (h.ok s hs).keep b, fun h0 => by
  obtain ⟨g, off, e, hg, hc⟩ := h.at_ h0
  exact ⟨g, off, e, Nat.lt_of_lt_of_le hg b.size, fun i s hi j v hj => (b.cell (p := ⟨g, off + i * 3 + j, none⟩) hg).trans (hc i s hi j v hj)⟩⟩
/-- one part laid -/
def layP (M : MM) (s : Prt) : MM := prM (pok M (s.at_ % 65536) s.us) (s.at_ % 65536 / 256) s.rt
def layd (ss : List Prt) : MM := ss.foldl layP M0
theorem take_fold (ss : List Prt) (j : Nat) (s : Prt) (h : ss[j]? = some s) : (ss.take (j + 1)).foldl layP M0 = layP ((ss.take j).foldl layP M0) s := by
 rw [List.take_add_one, h, List.foldl_append]
 rfl
theorem tmod_65536 (a : Int) : ∃ r, a.tmod 65536 = r ∧ ((0 ≤ r ∧ r = a % 65536) ∨ (r < 0 ∧ -65536 < r ∧ r + 65536 = a % 65536)) := by
 refine ⟨_, rfl, ?_⟩
 by_cases h : 0 ≤ a
 ·rw [Int.tmod_eq_emod_of_nonneg h]; omega
 ·have e : a.tmod 65536 = -((-a).tmod 65536) := by rw [Int.neg_tmod]; omega
  rw [Int.tmod_eq_emod_of_nonneg (show 0 ≤ -a by omega)] at e
  omega
/-- numbers that came in -/
def Nums (ks : List Int) (ao : Option Addr) (cap : Nat) (W : World) : Prop :=
 ks.length ≤ cap ∧ cap ≤ maxLen ∧ (0 < ks.length → ∃ b off, ao = some ⟨b, off, none⟩ ∧ b < W.heap.size ∧ ∀ j, j < ks.length → W.cell? ⟨b, off + j, none⟩ = some (.int .i64 (ks.getD j 0)))
def markd (M : MM) (ks : List Int) : MM := ks.foldl (fun M k => mkM M k true) M
theorem take_mark (M : MM) (ks : List Int) (j : Nat) (h : j < ks.length) : (ks.take (j + 1)).foldl (fun M k => mkM M k true) M = mkM ((ks.take j).foldl (fun M k => mkM M k true) M) (ks.getD j 0) true := by
 rw [List.take_add_one, List.getElem?_eq_getElem h, List.foldl_append, List.getD_eq_getElem?_getD, List.getElem?_eq_getElem h]
 rfl
theorem both_any (ss : List Prt) (ao : Option Addr) (cap : Nat) (ks : List Int) (ao2 : Option Addr) (cap2 : Nat) (w : World) (h : Prts ss ao cap w) (h2 : Nums ks ao2 cap2 w) :
  Calls Tryz.prog 23 #[.slice ao ss.length cap, .slice ao2 ks.length cap2] w fun e w' => ∃ p P, e = .returned (.tuple #[.pointer (some ⟨p, 0, none⟩), .pointer (some ⟨P.q, 0, none⟩), .bool true]) ∧ Pair p P (markd (layd ss) ks) w' ∧ Below w.heap.size w w' ∧ ∀ k, PS p P k → w.heap.size ≤ k := by
 have hmx : (maxLen : Nat) = 9223372036854775807 := rfl
 have hc1 := h.lc
 have hc2 := h.mx
 rw [hmx] at hc2
 clear hmx
 have hc3 := h2.1
 have hc4 := h2.2.1
 rw [show (maxLen : Nat) = 9223372036854775807 from rfl] at hc4
 have HS := κ h
 have HK := κ h2
 clear h h2
 go_enter Tryz.func23, Tryz.ntmps23
 go_wp2_with fail
 refine (new_any _).mono ?_
 rintro e w1 ⟨rfl, k1, b1, s1⟩
 have K1 := κ k1
 have B1 := κ b1
 have Z1 := κ s1
 clear k1 b1 s1
 go_wp2_with fail
 refine (rnew_any _).mono ?_
 rintro e w2 ⟨P, rfl, r2, b2, g2⟩
 have hA : Pair w.heap.size P M0 w2 := by
  refine ⟨K1.out.upto (Upto.of_below (S := fun _ => False) b2) id, r2, fun hp => ?_, MOk.zero⟩
  have := g2 _ hp
  have := Z1.out
  omega
 have hGa : ∀ k, PS w.heap.size P k → w.heap.size ≤ k := by
  have z1 := Z1.out
  rintro k (hk | hk)
  ·omega
  ·have := g2 _ hk; omega
 have B2 := κ (chain B1.out b2)
 have HA := κ hA
 have GA := κ hGa
 have HNE := κ hA.ne
 clear hA hGa r2 b2 g2 K1 B1 Z1
 obtain ⟨N, hN⟩ : ∃ N, ss.length = N := ⟨_, rfl⟩
 have HN := κ hN
 rw [hN] at hc1 ⊢
 clear hN
 go_wp2_with fail
 go_loopg [24] N (fun g i wr => ∃ (j : Nat), g = N - j ∧ j ≤ N ∧ i = .int .i64 j ∧ Hid (Pair w.heap.size P ((ss.take j).foldl layP M0) wr) ∧ Hid (Below w.heap.size w wr))
 case atStart => exact ⟨0, rfl, Nat.zero_le _, rfl, HA.out, B2.out⟩
 case round =>
  obtain ⟨j, hg, hj, rfl, H1, HBw⟩ := hrel
  by_cases hlt : j < N
  ·have hlt' : (j : Int) < (N : Int) := by omega
   have hge' : (0 : Int) ≤ (j : Int) := by omega
   obtain ⟨g1, off, rfl, lg1, hcs⟩ := HS.out.at_ (by rw [HN.out]; omega)
   obtain ⟨s, hs⟩ : ∃ s, ss[j]? = some s := ⟨_, List.getElem?_eq_getElem (by rw [HN.out]; exact hlt)⟩
   have hok := κ ((HS.out.ok s (List.mem_of_getElem? hs)).keep HBw.out)
   have hfb := κ (fun (g : Addr) (e : s.ao = some g) (h0 : 0 < s.us.length) (hp : PS w.heap.size P g.block) => show False by
    obtain ⟨b, off, e', hb, _⟩ := (HS.out.ok s (List.mem_of_getElem? hs)).bs.2.2 h0
    rw [e] at e'
    obtain rfl := Option.some.inj e'
    have := GA.out _ hp
    simp only at this
    omega)
   have hcell : ∀ i v, s.cells[i]? = some v → wr.cell? ⟨g1, off + j * 3 + i, none⟩ = some v := fun i v hv => (HBw.out.cell (p := ⟨g1, off + j * 3 + i, none⟩) lg1).trans (hcs j s hs i v hv)
   have q0 := hcell 0 (.int .i64 s.at_) rfl
   have q1 := hcell 1 (.slice s.ao s.us.length s.cap) rfl
   have q2 := hcell 2 (.int .i64 s.rt) rfl
   rw [Nat.add_zero] at q0
   have hfold := κ (show (ss.take (j + 1)).foldl layP M0 = prM (pok ((ss.take j).foldl layP M0) (s.at_ % 65536) s.us) (s.at_ % 65536 / 256) s.rt from take_fold ss j s hs)
   clear hcell hcs hs
   have a0 := hok.out.a0
   have a1 := hok.out.a1
   have at0 : 0 ≤ s.at_ % 65536 ∧ s.at_ % 65536 < 65536 := by omega
   obtain ⟨r, er, hT⟩ := tmod_65536 s.at_
   generalize hM : (ss.take j).foldl layP M0 = M at H1 hfold
   generalize ha : s.at_ % 65536 = a at hfold at0 hT
   clear hM ha
   have ed : a.tdiv 256 = a / 256 := Int.tdiv_eq_ediv_of_nonneg at0.1
   go_upto_region 8 with fail
   have nu1 := (Upto.refl (fun _ => False) wr).alloc (.cells #[.int .i64 s.at_, .slice s.ao s.us.length s.cap, .int .i64 s.rt] 101)
   have c0 := box_at wr #[.int .i64 s.at_, .slice s.ao s.us.length s.cap, .int .i64 s.rt] 101 0
   have c1 := box_at wr #[.int .i64 s.at_, .slice s.ao s.us.length s.cap, .int .i64 s.rt] 101 1
   have c2 := box_at wr #[.int .i64 s.at_, .slice s.ao s.us.length s.cap, .int .i64 s.rt] 101 2
   simp only [List.getElem?_toArray, List.getElem?_cons_zero, List.getElem?_cons_succ] at c0 c1 c2
   have lB : wr.heap.size < (wr.alloc (.cells #[.int .i64 s.at_, .slice s.ao s.us.length s.cap, .int .i64 s.rt] 101)).heap.size := by simp
   have bA : Below wr.heap.size wr (wr.alloc (.cells #[.int .i64 s.at_, .slice s.ao s.us.length s.cap, .int .i64 s.rt] 101)) := (Below.refl _ _).alloc (Nat.le_refl _) _
   generalize wr.alloc (.cells #[.int .i64 s.at_, .slice s.ao s.us.length s.cap, .int .i64 s.rt] 101) = wA at nu1 c0 c1 c2 lB bA ⊢
   have ne1 := HNE.out
   have l1 := H1.hc.2.2.2.2.2.2
   have nwr : ¬ wr.heap.size = w.heap.size := by omega
   have FA := κ (H1.upto nu1 (fun _ _ => id))
   have FB := κ (hok.out.bs.keep bA)
   have rg := hok.out.rg
   have nwP : ¬ P.has wr.heap.size := fun hp => Nat.lt_irrefl _ (rm_lt H1.rm hp)
   clear nu1 H1
   have nP : ∀ k, P.has k → ¬ k = w.heap.size := fun k hk e => HNE.out (e ▸ hk)
   have NP := κ nP
   clear nP ne1
   rcases hT with ⟨t0, t1⟩ | ⟨t0, t1, t2⟩
   ·rw [t1] at er t0
    clear t1
    go_wp2_with fail
    refine (poke_any _ M a s.us s.ao s.cap _ FA.out.hc FB.out).mono ?_
    rintro e w5 ⟨rfl, h5, u5⟩
    have d1 := (u5.cell (q := ⟨wr.heap.size, 1, none⟩) lB nwr).trans c1
    have d2 := (u5.cell (q := ⟨wr.heap.size, 2, none⟩) lB nwr).trans c2
    have l5 := Nat.lt_of_lt_of_le lB u5.size
    have R5 := FA.out.rm.upto u5 (fun k hk => NP.out k hk)
    have B5 := Bs.upto FB.out u5 (fun g hg h0 hp => hfb.out g hg h0 (.inl hp))
    go_wp2_with fail
    refine (rpoke_any P M a s.us s.ao s.cap _ R5 (by omega) B5 (fun g hg h0 hp => hfb.out g hg h0 (.inr hp))).mono ?_
    rintro e w6 ⟨rfl, h6, u6⟩
    have u6' : Upto P.has w5 w6 := u6.mono (fun _ _ hk => hk)
    have d2' := (u6'.cell (q := ⟨wr.heap.size, 2, none⟩) l5 nwP).trans d2
    have l6 := Nat.lt_of_lt_of_le l5 u6.size
    have h5' := h5.upto u6' (fun hp => HNE.out hp)
    go_wp2_with fail
    refine (protect_any _ (pok M a s.us) (a / 256) s.rt _ h5').mono ?_
    rintro e w7 ⟨rfl, h7, u7⟩
    have d3 := (u7.cell (q := ⟨wr.heap.size, 2, none⟩) l6 nwr).trans d2'
    have R7 := h6.upto u7 (fun k hk => NP.out k hk)
    go_wp2_with fail
    refine (rprotect_any P (pok M a s.us) (a / 256) s.rt _ R7).mono ?_
    rintro e w8 ⟨rfl, h8, u8⟩
    have u8' : Upto P.has w7 w8 := u8.mono (fun _ _ hk => hk)
    have h7' := h7.upto u8' (fun hp => HNE.out hp)
    have UU : Upto (PS w.heap.size P) wA w8 := (((u5.mono (fun k _ hk => .inl hk)).trans (u6'.mono (fun k _ hk => .inr hk))).trans (u7.mono (fun k _ hk => .inl hk))).trans (u8'.mono (fun k _ hk => .inr hk))
    go_wp2_with fail
    go_roundg (N - (j + 1))
    case measure => omega
    case rel =>
     refine ⟨j + 1, rfl, by omega, by simp, ?_, ?_⟩
     ·rw [hfold.out]
      exact ⟨h7', h8, FA.out.ne, (FA.out.ok.pok _ rg).prM _ _⟩
     ·exact HBw.out.trans ((bA.mono HBw.out.size).trans (UU.below (Nat.le_trans HBw.out.size bA.size) (fun k hk hp => by have := GA.out k hp; omega)))
   ·go_wp2_with fail
    refine (poke_any _ M a s.us s.ao s.cap _ FA.out.hc FB.out).mono ?_
    rintro e w5 ⟨rfl, h5, u5⟩
    have d1 := (u5.cell (q := ⟨wr.heap.size, 1, none⟩) lB nwr).trans c1
    have d2 := (u5.cell (q := ⟨wr.heap.size, 2, none⟩) lB nwr).trans c2
    have l5 := Nat.lt_of_lt_of_le lB u5.size
    have R5 := FA.out.rm.upto u5 (fun k hk => NP.out k hk)
    have B5 := Bs.upto FB.out u5 (fun g hg h0 hp => hfb.out g hg h0 (.inl hp))
    go_wp2_with fail
    refine (rpoke_any P M a s.us s.ao s.cap _ R5 (by omega) B5 (fun g hg h0 hp => hfb.out g hg h0 (.inr hp))).mono ?_
    rintro e w6 ⟨rfl, h6, u6⟩
    have u6' : Upto P.has w5 w6 := u6.mono (fun _ _ hk => hk)
    have d2' := (u6'.cell (q := ⟨wr.heap.size, 2, none⟩) l5 nwP).trans d2
    have l6 := Nat.lt_of_lt_of_le l5 u6.size
    have h5' := h5.upto u6' (fun hp => HNE.out hp)
    go_wp2_with fail
    refine (protect_any _ (pok M a s.us) (a / 256) s.rt _ h5').mono ?_
    rintro e w7 ⟨rfl, h7, u7⟩
    have d3 := (u7.cell (q := ⟨wr.heap.size, 2, none⟩) l6 nwr).trans d2'
    have R7 := h6.upto u7 (fun k hk => NP.out k hk)
    go_wp2_with fail
    refine (rprotect_any P (pok M a s.us) (a / 256) s.rt _ R7).mono ?_
    rintro e w8 ⟨rfl, h8, u8⟩
    have u8' : Upto P.has w7 w8 := u8.mono (fun _ _ hk => hk)
    have h7' := h7.upto u8' (fun hp => HNE.out hp)
    have UU : Upto (PS w.heap.size P) wA w8 := (((u5.mono (fun k _ hk => .inl hk)).trans (u6'.mono (fun k _ hk => .inr hk))).trans (u7.mono (fun k _ hk => .inl hk))).trans (u8'.mono (fun k _ hk => .inr hk))
    go_wp2_with fail
    go_roundg (N - (j + 1))
    case measure => omega
    case rel =>
     refine ⟨j + 1, rfl, by omega, by simp, ?_, ?_⟩
     ·rw [hfold.out]
      exact ⟨h7', h8, FA.out.ne, (FA.out.ok.pok _ rg).prM _ _⟩
     ·exact HBw.out.trans ((bA.mono HBw.out.size).trans (UU.below (Nat.le_trans HBw.out.size bA.size) (fun k hk hp => by have := GA.out k hp; omega)))
  ·obtain rfl : N = j := by omega
   have e : (ss.take N).foldl layP M0 = layd ss := by unfold layd; rw [← HN.out, List.take_length]
   rw [e] at H1
   clear e
   obtain ⟨K, hK⟩ : ∃ K, ks.length = K := ⟨_, rfl⟩
   have HKL := κ hK
   rw [hK] at hc3 ⊢
   clear hK
   go_wp2_with fail
   obtain ⟨wo, hwo⟩ : ∃ wo : World, wo = wr := ⟨_, rfl⟩
   rw [← hwo] at H1 HBw ⊢
   clear hwo
   go_loopg [68] K (fun g i wq => ∃ (j : Nat), g = K - j ∧ j ≤ K ∧ i = .int .i64 j ∧ Hid (Pair w.heap.size P ((ks.take j).foldl (fun M k => mkM M k true) (layd ss)) wq) ∧ Hid (Below w.heap.size w wq))
   case atStart => exact ⟨0, rfl, Nat.zero_le _, rfl, H1, HBw⟩
   case round =>
    clear H1 HBw
    obtain ⟨j2, hg2, hj2, rfl, H1, HBw⟩ := hrel
    have HG2 := κ hg2
    clear hg2
    by_cases hlt : j2 < K
    ·have hlt' : (j2 : Int) < (K : Int) := by omega
     have hge' : (0 : Int) ≤ (j2 : Int) := by omega
     obtain ⟨g1, off, rfl, lg1, hcs⟩ := HK.out.2.2 (by rw [HKL.out]; omega)
     have q0 := (HBw.out.cell (p := ⟨g1, off + j2, none⟩) lg1).trans (hcs j2 (by rw [HKL.out]; exact hlt))
     have hfold := κ (take_mark (layd ss) ks j2 (by rw [HKL.out]; exact hlt))
     clear hcs
     generalize ks.getD j2 0 = kv at q0 hfold
     generalize (ks.take j2).foldl (fun M k => mkM M k true) (layd ss) = M at H1 hfold
     go_wp2_with fail
     refine (mark_any _ M kv true _ H1.out.hc).mono ?_
     rintro e w5 ⟨rfl, h5, u5⟩
     have R5 := H1.out.rm.upto u5 (fun k hk e => HNE.out (e ▸ hk))
     go_wp2_with fail
     refine (rmark_any P M kv true _ R5).mono ?_
     rintro e w6 ⟨rfl, h6, u6⟩
     have h5' := h5.upto u6 (fun hp => HNE.out hp)
     go_wp2_with fail
     go_roundg (K - (j2 + 1))
     case measure => have := HG2.out; omega
     case rel =>
      refine ⟨j2 + 1, rfl, by omega, by simp, ?_, ?_⟩
      ·rw [hfold.out]
       exact ⟨h5', h6, H1.out.ne, H1.out.ok.mkM _ _⟩
      ·have UU : Upto (PS w.heap.size P) _ w6 := (u5.mono (fun k _ hk => .inl hk)).trans (u6.mono (fun k _ hk => .inr hk))
       exact HBw.out.trans (UU.below HBw.out.size (fun k hk hp => by have := GA.out k hp; omega))
    ·obtain rfl : K = j2 := by omega
     go_wp2_with fail
     go_ret3
     have e : (ks.take K).foldl (fun M k => mkM M k true) (layd ss) = markd (layd ss) ks := by unfold markd; rw [← HKL.out, List.take_length]
     rw [e] at H1
     exact ⟨_, P, rfl, H1.out, HBw.out, GA.out⟩
theorem alike_any (p : Nat) (P : RP) (M : MM) (w : World) (h : Pair p P M w) :
  Calls Tryz.prog 29 #[.pointer (some ⟨p, 0, none⟩), .pointer (some ⟨P.q, 0, none⟩)] w fun e w' => e = .returned (.bool true) ∧ Below w.heap.size w w' := by
 have CM := fun w h' => peek_any p M 0 65536 w h'
 have e1 : pekL M 0 65536 = rdB M 0 65536 := by unfold pekL; rw [if_pos (by decide)]; rfl
 have e2 : inE 0 65536 = 0 := by unfold inE; rw [if_pos (by decide)]
 rw [e1, e2] at CM
 have CM := κ CM
 have HP := κ h
 have HN := κ (rdB_len M 0 65536)
 have HG := κ (fun j (hj : j < 65536) => rdB_get M 0 65536 j hj)
 clear e1 e2 h
 generalize rdB M 0 65536 = us at CM HN HG
 go_enter Tryz.func29, Tryz.ntmps29
 go_wp2_with fail
 refine (CM.out _ HP.out.hc).mono ?_
 rintro e w1 ⟨v1, rfl, hv1, hb1⟩
 obtain ⟨ao1, c1, rfl, s1, t1⟩ := hv1.form
 have B1 := κ hb1
 have R1 := κ (HP.out.rm.upto (Upto.of_below (S := fun _ => False) hb1) (fun _ _ => id))
 obtain ⟨g, off, rfl, lg, hc⟩ := s1.2.2 (by rw [HN.out]; omega)
 have hcap := s1.1
 have hmx := s1.2.1
 rw [HN.out] at hcap ⊢
 rw [show (maxLen : Nat) = 9223372036854775807 from rfl] at hmx
 have HC := κ hc
 clear hv1 hb1 s1 t1 hc
 have hq := R1.out.hq0
 have lq := R1.out.lq
 go_wp2_with fail
 go_loopg [22] 65536 (fun k i wr => ∃ j : Nat, k = 65536 - j ∧ j ≤ 65536 ∧ i = .int .i64 j ∧ Hid (Below w1.heap.size w1 wr))
 case atStart => exact ⟨0, rfl, Nat.zero_le _, rfl, Below.refl _ _⟩
 case round =>
  obtain ⟨j, hk, hj, rfl, HB⟩ := hrel
  by_cases hlt : j < 65536
  ·have hlt' : (j : Int) < 65536 := by omega
   have hge : (0 : Int) ≤ (j : Int) := by omega
   have e1 := (HB.out.cell (p := ⟨g, off + j, none⟩) lg).trans (HC.out j (by rw [HN.out]; exact hlt))
   rw [HG.out j hlt, Nat.zero_add] at e1
   have e2 := (HB.out.cell (p := ⟨P.b, j, none⟩) R1.out.lb).trans (R1.out.hb j hlt)
   have e3 := (HB.out.cell (p := ⟨P.q, 0, none⟩) lq).trans hq
   generalize M.by_ j = z at e1 e2
   go_wp2_with fail
   go_region
   go_wp2_with fail
   go_roundg (65536 - (j + 1))
   case measure => omega
   case rel => exact ⟨j + 1, rfl, by omega, by simp, HB.out.drew⟩
  ·obtain rfl : j = 65536 := by omega
   go_wp2_with fail
   go_ret
   exact ⟨rfl, chain B1.out HB.out⟩
end Go.Proofs.YtcjcmnnhmajocabGreat.Ev
