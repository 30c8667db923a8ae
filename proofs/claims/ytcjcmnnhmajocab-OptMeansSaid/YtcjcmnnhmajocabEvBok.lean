/- crossgrainlaw2: both memories laid with parts and marks. -/
import Derived.Test.YtcjcmnnhmajocabProg
import Derived.WalkKit
import Derived.Laws.StructEq
import Derived.Deep.RegionHeld3
import Derived.OwnWalk
import Derived.RegionTactic
import Derived.BigRegion
import Derived.Deep.RegionWith
import Derived.Deep.DeepCutAuto
import Derived.LoopN
import Derived.Outline
import Derived.Deep.QuietTactic
import Derived.BigQuiet
import Derived.Deep.LoopGhost
import Derived.Test.YtcjcmnnhmajocabPoai
import Derived.Test.YtcjcmnnhmajocabPobo
namespace Go.Proofs.Ytcjcmnnhmajocab.Gu
open Go.RowKit
set_option linter.unusedVariables false
theorem eqFields_step {P : Program} (d : Nat) (xs ys : Array Value) (f : Field) (fs : List Field) (hn : f.name ≠ "_") {k k' : IntKind} {a b : Int} {r : Bool} (hu : P.underlying f.type = some (.int k'))
    (p1 : ∀ w : World, (part f.type xs f.offset).run P w = .ok (.int k a) w) (p2 : ∀ w : World, (part f.type ys f.offset).run P w = .ok (.int k b) w) (ih : ∀ w : World, (Op.eqFields (d + 1) xs ys fs).run P w = .ok r w) :
    ∀ w : World, (Op.eqFields (d + 1) xs ys (f :: fs)).run P w = .ok (a == b && r) w := by
  intro w
  simp only [Op.eqFields, if_pos hn, Sem.run_bind, p1, p2, Result.andThen_ok, run_equalIn_int w d f.type k k' a b hu]
  cases h : (a == b)
  · simp
  · simp [ih]
end Go.Proofs.Ytcjcmnnhmajocab.Gu
namespace Go.Proofs.Ytcjcmnnhmajocab.Me
open Go.RowKit Kt
set_option linter.unusedVariables false
set_option linter.unusedSimpArgs false
def eqs (k x k' x' : Int) : Bool := k == k' && (x == x' && true)
/-- bytes that may be turned: in a block from B on -/
def TB (B : Nat) (ao : Option Addr) (n : Nat) (W : World) : Prop :=
  ∀ j, j < n → ∃ g, ao = some ⟨g, 0, none⟩ ∧ B ≤ g ∧ g < W.heap.size ∧ (∃ x : Int, W.cell? ⟨g, j, none⟩ = some (.int .u8 x)) ∧ ∀ i, W.frozen? ⟨g, i, none⟩ = false
theorem Own.form {B : Nat} {v : Value} {us : List Int} {W : World} (h : Own B v us W) : ∃ ao cap, v = .slice ao us.length cap ∧ Gu.Bs us ao cap W ∧ TB B ao us.length W := by
  rcases h.2 with ⟨rfl, hn⟩ | ⟨g, c1, cur, rfl, hg, hrow, hle, hmx, hsz, htk⟩
  · have hn' : us.length = 0 := hn
    rw [hn']
    exact ⟨none, 0, rfl, ⟨by omega, by unfold maxLen; omega, fun h => absurd h (by omega)⟩, fun j hj => absurd hj (by omega)⟩
  · have hc : ∀ j, j < us.length → W.cell? ⟨g, j, none⟩ = some (.int .u8 (us.getD j 0)) := by
      intro j hj
      rw [cell_of_row W g j _ _ _ hrow, ← Array.getElem?_toList]
      have h2 : (cur.toList.take (us.length * 1))[j]? = (us.map (Value.int .u8))[j]? := by rw [htk]
      rw [Nat.mul_one, List.getElem?_take, if_pos hj, List.getElem?_map] at h2
      rw [h2, List.getElem?_eq_getElem hj, List.getD_eq_getElem?_getD, List.getElem?_eq_getElem hj]
      rfl
    exact ⟨_, c1, rfl, ⟨hle, hmx, fun _ => ⟨g, 0, rfl, (Array.getElem?_eq_some_iff.1 hrow).1, fun j hj => by rw [Nat.zero_add]; exact hc j hj⟩⟩,
      fun j hj => ⟨g, rfl, hg, (Array.getElem?_eq_some_iff.1 hrow).1, ⟨_, hc j hj⟩, fun i => frozen_of_row _ _ _ _ _ hrow⟩⟩
theorem Bs.upto {us : List Int} {ao : Option Addr} {cap : Nat} {w w' : World} {S : Nat → Prop} (h : Gu.Bs us ao cap w) (u : Upto S w w') (hs : ∀ g, ao = some g → 0 < us.length → ¬ S g.block) : Gu.Bs us ao cap w' := by
  obtain ⟨l, m, k⟩ := h
  refine ⟨l, m, fun hlen => ?_⟩
  obtain ⟨b, off, rfl, hb', hc⟩ := k hlen
  exact ⟨b, off, rfl, Nat.lt_of_lt_of_le hb' u.size, fun j hj => (u.cell (q := ⟨b, off + j, none⟩) hb' (hs ⟨b, off, none⟩ rfl hlen)).trans (hc j hj)⟩
theorem TB.upto {B : Nat} {ao : Option Addr} {n : Nat} {w w' : World} {S : Nat → Prop} (h : TB B ao n w) (u : Upto S w w') (hs : ∀ k, B ≤ k → ¬ S k) : TB B ao n w' := by
  intro j hj
  obtain ⟨g, e, hb, hl, ⟨x, hx⟩, hf⟩ := h j hj
  exact ⟨g, e, hb, Nat.lt_of_lt_of_le hl u.size, ⟨x, (u.cell (q := ⟨g, j, none⟩) hl (hs g hb)).trans hx⟩, fun i => (u.frozen (q := ⟨g, i, none⟩) hl (hs g hb)).trans (hf i)⟩
theorem TB.mono {B B' : Nat} {ao : Option Addr} {n : Nat} {w : World} (h : TB B ao n w) (hB : B' ≤ B) : TB B' ao n w := by
  intro j hj
  obtain ⟨g, e, hb, r⟩ := h j hj
  exact ⟨g, e, Nat.le_trans hB hb, r⟩
theorem TB.set {B g : Nat} {n : Nat} {W : World} (h : TB B (some ⟨g, 0, none⟩) n W) (k : Nat) (y : Int) : TB B (some ⟨g, 0, none⟩) n (W.setCell ⟨g, k, none⟩ (.int .u8 y)) := by
  intro j hj
  obtain ⟨g', e, hb, hl, ⟨x, hx⟩, hf⟩ := h j hj
  simp only [Option.some.injEq, Addr.mk.injEq, and_true] at e
  subst e
  refine ⟨g, rfl, hb, by simpa using hl, ?_, fun i => by simpa using hf i⟩
  by_cases hjk : j = k
  · subst hjk
    exact ⟨y, World.cell?_setCell_same _ _ _ hx⟩
  · exact ⟨x, by rw [World.cell?_setCell_other _ _ _ _ (by intro h; simp only [Addr.mk.injEq] at h; omega)]; exact hx⟩
end Go.Proofs.Ytcjcmnnhmajocab.Me
namespace Go.Proofs.Ytcjcmnnhmajocab.Ev
open Go.RowKit Kt Me
set_option linter.unusedVariables false
set_option linter.unusedSimpArgs false
/-- a part, as it came in -/
structure Prt where
  at_ : Int
  us : List Int
  ao : Option Addr
  cap : Nat
  rt : Int
def Prt.cells (s : Prt) : Array Value := #[.int .i64 s.at_, .slice s.ao s.us.length s.cap, .int .i64 s.rt]
structure PrtOk (s : Prt) (W : World) : Prop where
  a0 : -9223372036854775808 ≤ s.at_
  a1 : s.at_ < 9223372036854775808
  bs : Gu.Bs s.us s.ao s.cap W
  rg : ∀ j, 0 ≤ s.us.getD j 0 ∧ s.us.getD j 0 < 256
/-- the parts that came in -/
structure Prts (ss : List Prt) (ao : Option Addr) (cap : Nat) (W : World) : Prop where
  lc : ss.length ≤ cap
  mx : cap ≤ maxLen
  ok : ∀ s ∈ ss, PrtOk s W
  at_ : 0 < ss.length → ∃ b off, ao = some ⟨b, off, none⟩ ∧ b < W.heap.size ∧ ∀ i s, ss[i]? = some s → ∀ j v, s.cells[j]? = some v → W.cell? ⟨b, off + i * 3 + j, none⟩ = some v
theorem PrtOk.keep {s : Prt} {w w' : World} (h : PrtOk s w) (b : Below w.heap.size w w') : PrtOk s w' := ⟨h.a0, h.a1, h.bs.keep b, h.rg⟩
theorem Prts.keep {ss : List Prt} {ao : Option Addr} {cap : Nat} {w w' : World} (h : Prts ss ao cap w) (b : Below w.heap.size w w') : Prts ss ao cap w' :=
  ⟨h.lc, h.mx, fun s hs => (h.ok s hs).keep b, fun h0 => by
    obtain ⟨g, off, e, hg, hc⟩ := h.at_ h0
    exact ⟨g, off, e, Nat.lt_of_lt_of_le hg b.size, fun i s hi j v hj => (b.cell (p := ⟨g, off + i * 3 + j, none⟩) hg).trans (hc i s hi j v hj)⟩⟩
/-- one part laid -/
def layP (M : MM) (s : Prt) : MM := prM (pok M (s.at_ % 65536) s.us) (s.at_ % 65536 / 256) s.rt
def layd (ss : List Prt) : MM := ss.foldl layP M0
theorem layP_ok {M : MM} (h : MOk M) (s : Prt) (hr : ∀ j, 0 ≤ s.us.getD j 0 ∧ s.us.getD j 0 < 256) : MOk (layP M s) := (h.pok _ hr).prM _ _
theorem take_fold (ss : List Prt) (j : Nat) (s : Prt) (h : ss[j]? = some s) : (ss.take (j + 1)).foldl layP M0 = layP ((ss.take j).foldl layP M0) s := by
  rw [List.take_add_one, h, List.foldl_append]
  rfl
theorem tmod_65536 (a : Int) : ∃ r, a.tmod 65536 = r ∧ ((0 ≤ r ∧ r = a % 65536) ∨ (r < 0 ∧ -65536 < r ∧ r + 65536 = a % 65536)) := by
  refine ⟨_, rfl, ?_⟩
  by_cases h : 0 ≤ a
  · rw [Int.tmod_eq_emod_of_nonneg h]; omega
  · have e : a.tmod 65536 = -((-a).tmod 65536) := by rw [Int.neg_tmod]; omega
    rw [Int.tmod_eq_emod_of_nonneg (show 0 ≤ -a by omega)] at e
    omega
/-- numbers that came in -/
def Nums (ks : List Int) (ao : Option Addr) (cap : Nat) (W : World) : Prop :=
  ks.length ≤ cap ∧ cap ≤ maxLen ∧ (0 < ks.length → ∃ b off, ao = some ⟨b, off, none⟩ ∧ b < W.heap.size ∧ ∀ j, j < ks.length → W.cell? ⟨b, off + j, none⟩ = some (.int .i64 (ks.getD j 0)))
def markd (M : MM) (ks : List Int) : MM := ks.foldl (fun M k => mkM M k true) M
theorem take_mark (M : MM) (ks : List Int) (j : Nat) (h : j < ks.length) : (ks.take (j + 1)).foldl (fun M k => mkM M k true) M = mkM ((ks.take j).foldl (fun M k => mkM M k true) M) (ks.getD j 0) true := by
  rw [List.take_add_one, List.getElem?_eq_getElem h, List.foldl_append, List.getD_eq_getElem?_getD, List.getElem?_eq_getElem h]
  rfl
set_option maxRecDepth 100000 in
set_option maxHeartbeats 4000000 in
theorem both_any (ss : List Prt) (ao : Option Addr) (cap : Nat) (ks : List Int) (ao2 : Option Addr) (cap2 : Nat) (w : World) (h : Prts ss ao cap w) (h2 : Nums ks ao2 cap2 w) :
    Calls Try.prog 19 #[.slice ao ss.length cap, .slice ao2 ks.length cap2] w fun e w' => ∃ p P, e = .returned (.tuple #[.pointer (some ⟨p, 0, none⟩), .pointer (some ⟨P.q, 0, none⟩), .bool true]) ∧ Pair p P (markd (layd ss) ks) w' ∧ Below w.heap.size w w' ∧ ∀ k, PS p P k → w.heap.size ≤ k := by
  have hmx : (maxLen : Nat) = 9223372036854775807 := rfl
  have hc1 := h.lc
  have hc2 := h.mx
  rw [hmx] at hc2
  clear hmx
  have hc3 := h2.1
  have hc4 := h2.2.1
  rw [show (maxLen : Nat) = 9223372036854775807 from rfl] at hc4
  have HS := Lib.hid h
  have HK := Lib.hid h2
  clear h h2
  go_enter Try.func19, Try.ntmps19
  go_wp2_with fail
  refine (new_any _).mono ?_
  rintro e w1 ⟨rfl, k1, b1, s1⟩
  have K1 := Lib.hid k1
  have B1 := Lib.hid b1
  have Z1 := Lib.hid s1
  clear k1 b1 s1
  go_wp2_with fail
  refine (rnew_any _).mono ?_
  rintro e w2 ⟨P, rfl, r2, b2, g2⟩
  have hA : Pair w.heap.size P M0 w2 := by
    refine ⟨K1.out.upto (Upto.of_below (S := fun _ => False) b2) id, r2, fun hp => ?_, MOk.zero⟩
    have := g2 _ hp
    have := Z1.out
    omega
  have hGa : ∀ k, PS w.heap.size P k → w.heap.size ≤ k := by
    have z1 := Z1.out
    rintro k (hk | hk)
    · omega
    · have := g2 _ hk; omega
  have B2 := Lib.hid (chain B1.out b2)
  have HA := Lib.hid hA
  have GA := Lib.hid hGa
  have HNE := Lib.hid hA.ne
  clear hA hGa r2 b2 g2 K1 B1 Z1
  obtain ⟨N, hN⟩ : ∃ N, ss.length = N := ⟨_, rfl⟩
  have HN := Lib.hid hN
  rw [hN] at hc1 ⊢
  clear hN
  go_wp2_with fail
  go_loopg [24] N (fun g i wr => ∃ (j : Nat), g = N - j ∧ j ≤ N ∧ i = .int .i64 j ∧ Hid (Pair w.heap.size P ((ss.take j).foldl layP M0) wr) ∧ Hid (Below w.heap.size w wr))
  case atStart => exact ⟨0, rfl, Nat.zero_le _, rfl, HA.out, B2.out⟩
  case round =>
    obtain ⟨j, hg, hj, rfl, H1, HBw⟩ := hrel
    by_cases hlt : j < N
    · have hlt' : (j : Int) < (N : Int) := by omega
      have hge' : (0 : Int) ≤ (j : Int) := by omega
      obtain ⟨g1, off, rfl, lg1, hcs⟩ := HS.out.at_ (by rw [HN.out]; omega)
      obtain ⟨s, hs⟩ : ∃ s, ss[j]? = some s := ⟨_, List.getElem?_eq_getElem (by rw [HN.out]; exact hlt)⟩
      have hok := Lib.hid ((HS.out.ok s (List.mem_of_getElem? hs)).keep HBw.out)
      have hfb := Lib.hid (fun (g : Addr) (e : s.ao = some g) (h0 : 0 < s.us.length) (hp : PS w.heap.size P g.block) => show False by
        obtain ⟨b, off, e', hb, _⟩ := (HS.out.ok s (List.mem_of_getElem? hs)).bs.2.2 h0
        rw [e] at e'
        obtain rfl := Option.some.inj e'
        have := GA.out _ hp
        simp only at this
        omega)
      have hcell : ∀ i v, s.cells[i]? = some v → wr.cell? ⟨g1, off + j * 3 + i, none⟩ = some v := fun i v hv => (HBw.out.cell (p := ⟨g1, off + j * 3 + i, none⟩) lg1).trans (hcs j s hs i v hv)
      have q0 := hcell 0 (.int .i64 s.at_) rfl
      have q1 := hcell 1 (.slice s.ao s.us.length s.cap) rfl
      have q2 := hcell 2 (.int .i64 s.rt) rfl
      rw [Nat.add_zero] at q0
      have hfold := Lib.hid (show (ss.take (j + 1)).foldl layP M0 = prM (pok ((ss.take j).foldl layP M0) (s.at_ % 65536) s.us) (s.at_ % 65536 / 256) s.rt from take_fold ss j s hs)
      clear hcell hcs hs
      have a0 := hok.out.a0
      have a1 := hok.out.a1
      have at0 : 0 ≤ s.at_ % 65536 ∧ s.at_ % 65536 < 65536 := by omega
      obtain ⟨r, er, hT⟩ := tmod_65536 s.at_
      generalize hM : (ss.take j).foldl layP M0 = M at H1 hfold
      generalize ha : s.at_ % 65536 = a at hfold at0 hT
      clear hM ha
      have ed : a.tdiv 256 = a / 256 := Int.tdiv_eq_ediv_of_nonneg at0.1
      go_upto_region 8 with fail
      have nu1 := (Upto.refl (fun _ => False) wr).alloc (.cells #[.int .i64 s.at_, .slice s.ao s.us.length s.cap, .int .i64 s.rt] 132)
      have c0 := box_at wr #[.int .i64 s.at_, .slice s.ao s.us.length s.cap, .int .i64 s.rt] 132 0
      have c1 := box_at wr #[.int .i64 s.at_, .slice s.ao s.us.length s.cap, .int .i64 s.rt] 132 1
      have c2 := box_at wr #[.int .i64 s.at_, .slice s.ao s.us.length s.cap, .int .i64 s.rt] 132 2
      simp only [List.getElem?_toArray, List.getElem?_cons_zero, List.getElem?_cons_succ] at c0 c1 c2
      have lB : wr.heap.size < (wr.alloc (.cells #[.int .i64 s.at_, .slice s.ao s.us.length s.cap, .int .i64 s.rt] 132)).heap.size := by simp
      have bA : Below wr.heap.size wr (wr.alloc (.cells #[.int .i64 s.at_, .slice s.ao s.us.length s.cap, .int .i64 s.rt] 132)) := (Below.refl _ _).alloc (Nat.le_refl _) _
      generalize wr.alloc (.cells #[.int .i64 s.at_, .slice s.ao s.us.length s.cap, .int .i64 s.rt] 132) = wA at nu1 c0 c1 c2 lB bA ⊢
      have ne1 := HNE.out
      have l1 := H1.hc.2.2.2.2.2.2
      have nwr : ¬ wr.heap.size = w.heap.size := by omega
      have FA := Lib.hid (H1.upto nu1 (fun _ _ => id))
      have FB := Lib.hid (hok.out.bs.keep bA)
      have rg := hok.out.rg
      have nwP : ¬ P.has wr.heap.size := fun hp => Nat.lt_irrefl _ (rm_lt H1.rm hp)
      clear nu1 H1
      have nP : ∀ k, P.has k → ¬ k = w.heap.size := fun k hk e => HNE.out (e ▸ hk)
      have NP := Lib.hid nP
      clear nP ne1
      rcases hT with ⟨t0, t1⟩ | ⟨t0, t1, t2⟩
      · rw [t1] at er t0
        clear t1
        go_wp2_with fail
        refine (poke_any _ M a s.us s.ao s.cap _ FA.out.hc FB.out).mono ?_
        rintro e w5 ⟨rfl, h5, u5⟩
        have d1 := (u5.cell (q := ⟨wr.heap.size, 1, none⟩) lB nwr).trans c1
        have d2 := (u5.cell (q := ⟨wr.heap.size, 2, none⟩) lB nwr).trans c2
        have l5 := Nat.lt_of_lt_of_le lB u5.size
        have R5 := FA.out.rm.upto u5 (fun k hk => NP.out k hk)
        have B5 := Bs.upto FB.out u5 (fun g hg h0 hp => hfb.out g hg h0 (.inl hp))
        go_wp2_with fail
        refine (rpoke_any P M a s.us s.ao s.cap _ R5 (by omega) B5 (fun g hg h0 hp => hfb.out g hg h0 (.inr hp))).mono ?_
        rintro e w6 ⟨rfl, h6, u6⟩
        have u6' : Upto P.has w5 w6 := u6.mono (fun _ _ hk => hk)
        have d2' := (u6'.cell (q := ⟨wr.heap.size, 2, none⟩) l5 nwP).trans d2
        have l6 := Nat.lt_of_lt_of_le l5 u6.size
        have h5' := h5.upto u6' (fun hp => HNE.out hp)
        go_wp2_with fail
        refine (protect_any _ (pok M a s.us) (a / 256) s.rt _ h5').mono ?_
        rintro e w7 ⟨rfl, h7, u7⟩
        have d3 := (u7.cell (q := ⟨wr.heap.size, 2, none⟩) l6 nwr).trans d2'
        have R7 := h6.upto u7 (fun k hk => NP.out k hk)
        go_wp2_with fail
        refine (rprotect_any P (pok M a s.us) (a / 256) s.rt _ R7).mono ?_
        rintro e w8 ⟨rfl, h8, u8⟩
        have u8' : Upto P.has w7 w8 := u8.mono (fun _ _ hk => hk)
        have h7' := h7.upto u8' (fun hp => HNE.out hp)
        have UU : Upto (PS w.heap.size P) wA w8 := (((u5.mono (fun k _ hk => .inl hk)).trans (u6'.mono (fun k _ hk => .inr hk))).trans (u7.mono (fun k _ hk => .inl hk))).trans (u8'.mono (fun k _ hk => .inr hk))
        go_wp2_with fail
        go_roundg (N - (j + 1))
        case measure => omega
        case rel =>
          refine ⟨j + 1, rfl, by omega, by simp, ?_, ?_⟩
          · rw [hfold.out]
            exact ⟨h7', h8, FA.out.ne, (FA.out.ok.pok _ rg).prM _ _⟩
          · exact HBw.out.trans ((bA.mono HBw.out.size).trans (UU.below (Nat.le_trans HBw.out.size bA.size) (fun k hk hp => by have := GA.out k hp; omega)))
      · go_wp2_with fail
        refine (poke_any _ M a s.us s.ao s.cap _ FA.out.hc FB.out).mono ?_
        rintro e w5 ⟨rfl, h5, u5⟩
        have d1 := (u5.cell (q := ⟨wr.heap.size, 1, none⟩) lB nwr).trans c1
        have d2 := (u5.cell (q := ⟨wr.heap.size, 2, none⟩) lB nwr).trans c2
        have l5 := Nat.lt_of_lt_of_le lB u5.size
        have R5 := FA.out.rm.upto u5 (fun k hk => NP.out k hk)
        have B5 := Bs.upto FB.out u5 (fun g hg h0 hp => hfb.out g hg h0 (.inl hp))
        go_wp2_with fail
        refine (rpoke_any P M a s.us s.ao s.cap _ R5 (by omega) B5 (fun g hg h0 hp => hfb.out g hg h0 (.inr hp))).mono ?_
        rintro e w6 ⟨rfl, h6, u6⟩
        have u6' : Upto P.has w5 w6 := u6.mono (fun _ _ hk => hk)
        have d2' := (u6'.cell (q := ⟨wr.heap.size, 2, none⟩) l5 nwP).trans d2
        have l6 := Nat.lt_of_lt_of_le l5 u6.size
        have h5' := h5.upto u6' (fun hp => HNE.out hp)
        go_wp2_with fail
        refine (protect_any _ (pok M a s.us) (a / 256) s.rt _ h5').mono ?_
        rintro e w7 ⟨rfl, h7, u7⟩
        have d3 := (u7.cell (q := ⟨wr.heap.size, 2, none⟩) l6 nwr).trans d2'
        have R7 := h6.upto u7 (fun k hk => NP.out k hk)
        go_wp2_with fail
        refine (rprotect_any P (pok M a s.us) (a / 256) s.rt _ R7).mono ?_
        rintro e w8 ⟨rfl, h8, u8⟩
        have u8' : Upto P.has w7 w8 := u8.mono (fun _ _ hk => hk)
        have h7' := h7.upto u8' (fun hp => HNE.out hp)
        have UU : Upto (PS w.heap.size P) wA w8 := (((u5.mono (fun k _ hk => .inl hk)).trans (u6'.mono (fun k _ hk => .inr hk))).trans (u7.mono (fun k _ hk => .inl hk))).trans (u8'.mono (fun k _ hk => .inr hk))
        go_wp2_with fail
        go_roundg (N - (j + 1))
        case measure => omega
        case rel =>
          refine ⟨j + 1, rfl, by omega, by simp, ?_, ?_⟩
          · rw [hfold.out]
            exact ⟨h7', h8, FA.out.ne, (FA.out.ok.pok _ rg).prM _ _⟩
          · exact HBw.out.trans ((bA.mono HBw.out.size).trans (UU.below (Nat.le_trans HBw.out.size bA.size) (fun k hk hp => by have := GA.out k hp; omega)))
    · obtain rfl : N = j := by omega
      have e : (ss.take N).foldl layP M0 = layd ss := by unfold layd; rw [← HN.out, List.take_length]
      rw [e] at H1
      clear e
      obtain ⟨K, hK⟩ : ∃ K, ks.length = K := ⟨_, rfl⟩
      have HKL := Lib.hid hK
      rw [hK] at hc3 ⊢
      clear hK
      go_wp2_with fail
      obtain ⟨wo, hwo⟩ : ∃ wo : World, wo = wr := ⟨_, rfl⟩
      rw [← hwo] at H1 HBw ⊢
      clear hwo
      go_loopg [68] K (fun g i wq => ∃ (j : Nat), g = K - j ∧ j ≤ K ∧ i = .int .i64 j ∧ Hid (Pair w.heap.size P ((ks.take j).foldl (fun M k => mkM M k true) (layd ss)) wq) ∧ Hid (Below w.heap.size w wq))
      case atStart => exact ⟨0, rfl, Nat.zero_le _, rfl, H1, HBw⟩
      case round =>
        clear H1 HBw
        obtain ⟨j2, hg2, hj2, rfl, H1, HBw⟩ := hrel
        have HG2 := Lib.hid hg2
        clear hg2
        by_cases hlt : j2 < K
        · have hlt' : (j2 : Int) < (K : Int) := by omega
          have hge' : (0 : Int) ≤ (j2 : Int) := by omega
          obtain ⟨g1, off, rfl, lg1, hcs⟩ := HK.out.2.2 (by rw [HKL.out]; omega)
          have q0 := (HBw.out.cell (p := ⟨g1, off + j2, none⟩) lg1).trans (hcs j2 (by rw [HKL.out]; exact hlt))
          have hfold := Lib.hid (take_mark (layd ss) ks j2 (by rw [HKL.out]; exact hlt))
          clear hcs
          generalize ks.getD j2 0 = kv at q0 hfold
          generalize (ks.take j2).foldl (fun M k => mkM M k true) (layd ss) = M at H1 hfold
          go_wp2_with fail
          refine (mark_any _ M kv true _ H1.out.hc).mono ?_
          rintro e w5 ⟨rfl, h5, u5⟩
          have R5 := H1.out.rm.upto u5 (fun k hk e => HNE.out (e ▸ hk))
          go_wp2_with fail
          refine (rmark_any P M kv true _ R5).mono ?_
          rintro e w6 ⟨rfl, h6, u6⟩
          have h5' := h5.upto u6 (fun hp => HNE.out hp)
          go_wp2_with fail
          go_roundg (K - (j2 + 1))
          case measure => have := HG2.out; omega
          case rel =>
            refine ⟨j2 + 1, rfl, by omega, by simp, ?_, ?_⟩
            · rw [hfold.out]
              exact ⟨h5', h6, H1.out.ne, H1.out.ok.mkM _ _⟩
            · have UU : Upto (PS w.heap.size P) _ w6 := (u5.mono (fun k _ hk => .inl hk)).trans (u6.mono (fun k _ hk => .inr hk))
              exact HBw.out.trans (UU.below HBw.out.size (fun k hk hp => by have := GA.out k hp; omega))
        · obtain rfl : K = j2 := by omega
          go_wp2_with fail
          go_ret3
          have e : (ks.take K).foldl (fun M k => mkM M k true) (layd ss) = markd (layd ss) ks := by unfold markd; rw [← HKL.out, List.take_length]
          rw [e] at H1
          exact ⟨_, P, rfl, H1.out, HBw.out, GA.out⟩
end Go.Proofs.Ytcjcmnnhmajocab.Ev
