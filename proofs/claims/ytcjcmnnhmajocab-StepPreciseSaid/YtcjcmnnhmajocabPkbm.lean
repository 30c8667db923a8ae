/- States and stops: what is the same does not differ. -/
import Derived.Test.YtcjcmnnhmajocabProg
import Derived.WalkKit
import Derived.Laws.StructEq
import Derived.RegionTactic
import Derived.BigRegion
import Derived.Deep.RegionWith
import Derived.Deep.RegionHeld3
import Derived.Deep.DeepCutAuto
import Derived.Deep.CutBlock
import Derived.OwnWalk
import Derived.LoopN
import Derived.Outline
import Derived.Deep.QuietTactic
import Derived.BigQuiet
import Derived.Deep.LoopGhost
import Derived.RowKit
import GoSem.ClaimWide
import Derived.WideShapes
import Derived.ProofKit
import Derived.OpenShut
import Derived.ChangeSlices
import Derived.Deep.Slices
import Derived.Deep.Fields
import Derived.ChangeArms
import Derived.ChangeKeysEq
import Derived.Test.YtcjcmnnhmajocabPkac
import Derived.Test.YtcjcmnnhmajocabPkae
import Derived.Test.YtcjcmnnhmajocabPkat
import Derived.Test.YtcjcmnnhmajocabPkav
namespace Go.Proofs.Ytcjcmnnhmajocab.St
open Go.RowKit Kt Me
set_option linter.unusedVariables false
set_option linter.unusedSimpArgs false
theorem rm_bs {P : RP} {M : MM} {W : World} (h : RM P M W) : Gu.Bs (rdB M 0 65536) (some ⟨P.b, 0, none⟩) 65536 W :=
  ⟨by rw [rdB_len]; omega, by unfold maxLen; omega, fun _ => ⟨P.b, 0, rfl, h.lb, fun j hj => by
    rw [rdB_len] at hj
    rw [rdB_get M 0 65536 j hj, Nat.zero_add]; exact h.hb j hj⟩⟩
set_option maxRecDepth 100000 in
set_option maxHeartbeats 4000000 in
theorem whole_any (p : Nat) (P : RP) (M : MM) (w : World) (h : Pair p P M w) :
    Calls Try.prog 35 #[.pointer (some ⟨p, 0, none⟩), .pointer (some ⟨P.q, 0, none⟩)] w fun e w' => e = .returned (.bool true) ∧ Below w.heap.size w w' := by
  have CM := fun w h' => peek_any p M 0 65536 w h'
  have e1 : pekL M 0 65536 = rdB M 0 65536 := by unfold pekL; rw [if_pos (by decide)]; rfl
  have e2 : inE 0 65536 = 0 := by unfold inE; rw [if_pos (by decide)]
  rw [e1, e2] at CM
  have CM := Lib.hid CM
  have HP := Lib.hid h
  have HBS := Lib.hid (rm_bs h.rm)
  have HN := Lib.hid (rdB_len M 0 65536)
  have q0 := h.rm.hq0
  have lq := h.rm.lq
  have CS := Lib.hid (fun us ao cap ao1 c1 W hs hs1 => Gu.same_bs us ao cap ao1 c1 W hs hs1)
  clear e1 e2 h
  generalize rdB M 0 65536 = us at CM HBS HN
  have CS := CS.out us
  rw [HN.out] at CS
  have CS := Lib.hid CS
  go_enter Try.func35, Try.ntmps35
  go_wp2_with (first
    | (go_at_call 69; (with_reducible refine (CM.out _ HP.out.hc).mono ?_); rintro e w1 ⟨v1, rfl, hv1, hb1⟩; obtain ⟨ao1, c1, rfl, s1, t1⟩ := hv1.form; rw [HN.out]; have S1 := Lib.hid s1; have B1 := Lib.hid hb1; have q1 := (hb1.cell (p := ⟨P.q, 0, none⟩) lq).trans q0; clear hv1 hb1 s1 t1)
    | (go_at_call 81; refine (CS.out _ _ _ _ _ S1.out (HBS.out.keep B1.out)).mono ?_; rintro e w2 ⟨rfl, hb2⟩; have B2 := Lib.hid (chain B1.out hb2); clear hb2))
  go_ret
  exact ⟨rfl, B2.out⟩
/-- a part, as it came in -/
structure Prt where
  at_ : Int
  us : List Int
  ao : Option Addr
  cap : Nat
  rt : Int
def Prt.cells (s : Prt) : Array Value := #[.int .i64 s.at_, .slice s.ao s.us.length s.cap, .int .i64 s.rt]
structure PrtOk (s : Prt) (W : World) : Prop where
  a0 : -9223372036854775808 ≤ s.at_
  a1 : s.at_ < 9223372036854775808
  bs : Gu.Bs s.us s.ao s.cap W
  rg : ∀ j, 0 ≤ s.us.getD j 0 ∧ s.us.getD j 0 < 256
/-- the parts that came in -/
structure Prts (ss : List Prt) (ao : Option Addr) (cap : Nat) (W : World) : Prop where
  lc : ss.length ≤ cap
  mx : cap ≤ maxLen
  ok : ∀ s ∈ ss, PrtOk s W
  at_ : 0 < ss.length → ∃ b off, ao = some ⟨b, off, none⟩ ∧ b < W.heap.size ∧ ∀ i s, ss[i]? = some s → ∀ j v, s.cells[j]? = some v → W.cell? ⟨b, off + i * 3 + j, none⟩ = some v
theorem PrtOk.keep {s : Prt} {w w' : World} (h : PrtOk s w) (b : Below w.heap.size w w') : PrtOk s w' := ⟨h.a0, h.a1, h.bs.keep b, h.rg⟩
theorem Prts.keep {ss : List Prt} {ao : Option Addr} {cap : Nat} {w w' : World} (h : Prts ss ao cap w) (b : Below w.heap.size w w') : Prts ss ao cap w' :=
  ⟨h.lc, h.mx, fun s hs => (h.ok s hs).keep b, fun h0 => by
    obtain ⟨g, off, e, hg, hc⟩ := h.at_ h0
    exact ⟨g, off, e, Nat.lt_of_lt_of_le hg b.size, fun i s hi j v hj => (b.cell (p := ⟨g, off + i * 3 + j, none⟩) hg).trans (hc i s hi j v hj)⟩⟩
/-- one part laid -/
def layP (M : MM) (s : Prt) : MM := prM (pok M (s.at_ % 65536) s.us) (s.at_ % 65536 / 256) s.rt
def layd (ss : List Prt) : MM := ss.foldl layP M0
theorem take_fold (ss : List Prt) (j : Nat) (s : Prt) (h : ss[j]? = some s) : (ss.take (j + 1)).foldl layP M0 = layP ((ss.take j).foldl layP M0) s := by
  rw [List.take_add_one, h, List.foldl_append]
  rfl
theorem tmod_65536 (a : Int) : ∃ r, a.tmod 65536 = r ∧ ((0 ≤ r ∧ r = a % 65536) ∨ (r < 0 ∧ -65536 < r ∧ r + 65536 = a % 65536)) := by
  refine ⟨_, rfl, ?_⟩
  by_cases h : 0 ≤ a
  · rw [Int.tmod_eq_emod_of_nonneg h]; omega
  · have e : a.tmod 65536 = -((-a).tmod 65536) := by rw [Int.neg_tmod]; omega
    rw [Int.tmod_eq_emod_of_nonneg (show 0 ≤ -a by omega)] at e
    omega
set_option maxRecDepth 100000 in
set_option maxHeartbeats 4000000 in
theorem both_any (ss : List Prt) (ao : Option Addr) (cap : Nat) (w : World) (h : Prts ss ao cap w) :
    Calls Try.prog 33 #[.slice ao ss.length cap] w fun e w' => ∃ p P, e = .returned (.tuple #[.pointer (some ⟨p, 0, none⟩), .pointer (some ⟨P.q, 0, none⟩), .bool true]) ∧ Pair p P (layd ss) w' ∧ Below w.heap.size w w' ∧ ∀ k, PS p P k → w.heap.size ≤ k := by
  have hmx : (maxLen : Nat) = 9223372036854775807 := rfl
  have hc1 := h.lc
  have hc2 := h.mx
  rw [hmx] at hc2
  clear hmx
  have HS := Lib.hid h
  clear h
  go_enter Try.func33, Try.ntmps33
  go_wp2_with fail
  refine (new_any _).mono ?_
  rintro e w1 ⟨rfl, k1, b1, s1⟩
  have K1 := Lib.hid k1
  have B1 := Lib.hid b1
  have Z1 := Lib.hid s1
  clear k1 b1 s1
  go_wp2_with fail
  refine (rnew_any _).mono ?_
  rintro e w2 ⟨P, rfl, r2, b2, g2⟩
  have hA : Pair w.heap.size P M0 w2 := by
    refine ⟨K1.out.upto (Upto.of_below (S := fun _ => False) b2) id, r2, fun hp => ?_, MOk.zero⟩
    have := g2 _ hp
    have := Z1.out
    omega
  have hGa : ∀ k, PS w.heap.size P k → w.heap.size ≤ k := by
    have z1 := Z1.out
    rintro k (hk | hk)
    · omega
    · have := g2 _ hk; omega
  have B2 := Lib.hid (chain B1.out b2)
  have HA := Lib.hid hA
  have GA := Lib.hid hGa
  have HNE := Lib.hid hA.ne
  clear hA hGa r2 b2 g2 K1 B1 Z1
  obtain ⟨N, hN⟩ : ∃ N, ss.length = N := ⟨_, rfl⟩
  have HN := Lib.hid hN
  rw [hN] at hc1 ⊢
  clear hN
  go_wp2_with fail
  go_loopg [20] N (fun g i wr => ∃ (j : Nat), g = N - j ∧ j ≤ N ∧ i = .int .i64 j ∧ Hid (Pair w.heap.size P ((ss.take j).foldl layP M0) wr) ∧ Hid (Below w.heap.size w wr))
  case atStart => exact ⟨0, rfl, Nat.zero_le _, rfl, HA.out, B2.out⟩
  case round =>
    obtain ⟨j, hg, hj, rfl, H1, HBw⟩ := hrel
    by_cases hlt : j < N
    · have hlt' : (j : Int) < (N : Int) := by omega
      have hge' : (0 : Int) ≤ (j : Int) := by omega
      obtain ⟨g1, off, rfl, lg1, hcs⟩ := HS.out.at_ (by rw [HN.out]; omega)
      obtain ⟨s, hs⟩ : ∃ s, ss[j]? = some s := ⟨_, List.getElem?_eq_getElem (by rw [HN.out]; exact hlt)⟩
      have hok := Lib.hid ((HS.out.ok s (List.mem_of_getElem? hs)).keep HBw.out)
      have hfb := Lib.hid (fun (g : Addr) (e : s.ao = some g) (h0 : 0 < s.us.length) (hp : PS w.heap.size P g.block) => show False by
        obtain ⟨b, off, e', hb, _⟩ := (HS.out.ok s (List.mem_of_getElem? hs)).bs.2.2 h0
        rw [e] at e'
        obtain rfl := Option.some.inj e'
        have := GA.out _ hp
        simp only at this
        omega)
      have hcell : ∀ i v, s.cells[i]? = some v → wr.cell? ⟨g1, off + j * 3 + i, none⟩ = some v := fun i v hv => (HBw.out.cell (p := ⟨g1, off + j * 3 + i, none⟩) lg1).trans (hcs j s hs i v hv)
      have q0 := hcell 0 (.int .i64 s.at_) rfl
      have q1 := hcell 1 (.slice s.ao s.us.length s.cap) rfl
      have q2 := hcell 2 (.int .i64 s.rt) rfl
      rw [Nat.add_zero] at q0
      have hfold := Lib.hid (show (ss.take (j + 1)).foldl layP M0 = prM (pok ((ss.take j).foldl layP M0) (s.at_ % 65536) s.us) (s.at_ % 65536 / 256) s.rt from take_fold ss j s hs)
      clear hcell hcs hs
      have a0 := hok.out.a0
      have a1 := hok.out.a1
      have at0 : 0 ≤ s.at_ % 65536 ∧ s.at_ % 65536 < 65536 := by omega
      obtain ⟨r, er, hT⟩ := tmod_65536 s.at_
      generalize hM : (ss.take j).foldl layP M0 = M at H1 hfold
      generalize ha : s.at_ % 65536 = a at hfold at0 hT
      clear hM ha
      have ed : a.tdiv 256 = a / 256 := Int.tdiv_eq_ediv_of_nonneg at0.1
      go_upto_region 8 with fail
      have nu1 := (Upto.refl (fun _ => False) wr).alloc (.cells #[.int .i64 s.at_, .slice s.ao s.us.length s.cap, .int .i64 s.rt] 76)
      have c0 := box_at wr #[.int .i64 s.at_, .slice s.ao s.us.length s.cap, .int .i64 s.rt] 76 0
      have c1 := box_at wr #[.int .i64 s.at_, .slice s.ao s.us.length s.cap, .int .i64 s.rt] 76 1
      have c2 := box_at wr #[.int .i64 s.at_, .slice s.ao s.us.length s.cap, .int .i64 s.rt] 76 2
      simp only [List.getElem?_toArray, List.getElem?_cons_zero, List.getElem?_cons_succ] at c0 c1 c2
      have lB : wr.heap.size < (wr.alloc (.cells #[.int .i64 s.at_, .slice s.ao s.us.length s.cap, .int .i64 s.rt] 76)).heap.size := by simp
      have bA : Below wr.heap.size wr (wr.alloc (.cells #[.int .i64 s.at_, .slice s.ao s.us.length s.cap, .int .i64 s.rt] 76)) := (Below.refl _ _).alloc (Nat.le_refl _) _
      generalize wr.alloc (.cells #[.int .i64 s.at_, .slice s.ao s.us.length s.cap, .int .i64 s.rt] 76) = wA at nu1 c0 c1 c2 lB bA ⊢
      have ne1 := HNE.out
      have l1 := H1.hc.2.2.2.2.2.2
      have nwr : ¬ wr.heap.size = w.heap.size := by omega
      have FA := Lib.hid (H1.upto nu1 (fun _ _ => id))
      have FB := Lib.hid (hok.out.bs.keep bA)
      have rg := hok.out.rg
      have nwP : ¬ P.has wr.heap.size := fun hp => Nat.lt_irrefl _ (rm_lt H1.rm hp)
      clear nu1 H1
      have nP : ∀ k, P.has k → ¬ k = w.heap.size := fun k hk e => HNE.out (e ▸ hk)
      have NP := Lib.hid nP
      clear nP ne1
      rcases hT with ⟨t0, t1⟩ | ⟨t0, t1, t2⟩
      · rw [t1] at er t0
        clear t1
        go_wp2_with fail
        refine (poke_any _ M a s.us s.ao s.cap _ FA.out.hc FB.out).mono ?_
        rintro e w5 ⟨rfl, h5, u5⟩
        have d1 := (u5.cell (q := ⟨wr.heap.size, 1, none⟩) lB nwr).trans c1
        have d2 := (u5.cell (q := ⟨wr.heap.size, 2, none⟩) lB nwr).trans c2
        have l5 := Nat.lt_of_lt_of_le lB u5.size
        have R5 := FA.out.rm.upto u5 (fun k hk => NP.out k hk)
        have B5 := Bs.upto FB.out u5 (fun g hg h0 hp => hfb.out g hg h0 (.inl hp))
        go_wp2_with fail
        refine (rpoke_any P M a s.us s.ao s.cap _ R5 (by omega) B5 (fun g hg h0 hp => hfb.out g hg h0 (.inr hp))).mono ?_
        rintro e w6 ⟨rfl, h6, u6⟩
        have u6' : Upto P.has w5 w6 := u6.mono (fun _ _ hk => hk)
        have d2' := (u6'.cell (q := ⟨wr.heap.size, 2, none⟩) l5 nwP).trans d2
        have l6 := Nat.lt_of_lt_of_le l5 u6.size
        have h5' := h5.upto u6' (fun hp => HNE.out hp)
        go_wp2_with fail
        refine (protect_any _ (pok M a s.us) (a / 256) s.rt _ h5').mono ?_
        rintro e w7 ⟨rfl, h7, u7⟩
        have d3 := (u7.cell (q := ⟨wr.heap.size, 2, none⟩) l6 nwr).trans d2'
        have R7 := h6.upto u7 (fun k hk => NP.out k hk)
        go_wp2_with fail
        refine (rprotect_any P (pok M a s.us) (a / 256) s.rt _ R7).mono ?_
        rintro e w8 ⟨rfl, h8, u8⟩
        have u8' : Upto P.has w7 w8 := u8.mono (fun _ _ hk => hk)
        have h7' := h7.upto u8' (fun hp => HNE.out hp)
        have UU : Upto (PS w.heap.size P) wA w8 := (((u5.mono (fun k _ hk => .inl hk)).trans (u6'.mono (fun k _ hk => .inr hk))).trans (u7.mono (fun k _ hk => .inl hk))).trans (u8'.mono (fun k _ hk => .inr hk))
        go_wp2_with fail
        go_roundg (N - (j + 1))
        case measure => omega
        case rel =>
          refine ⟨j + 1, rfl, by omega, by simp, ?_, ?_⟩
          · rw [hfold.out]
            exact ⟨h7', h8, FA.out.ne, (FA.out.ok.pok _ rg).prM _ _⟩
          · exact HBw.out.trans ((bA.mono HBw.out.size).trans (UU.below (Nat.le_trans HBw.out.size bA.size) (fun k hk hp => by have := GA.out k hp; omega)))
      · go_wp2_with fail
        refine (poke_any _ M a s.us s.ao s.cap _ FA.out.hc FB.out).mono ?_
        rintro e w5 ⟨rfl, h5, u5⟩
        have d1 := (u5.cell (q := ⟨wr.heap.size, 1, none⟩) lB nwr).trans c1
        have d2 := (u5.cell (q := ⟨wr.heap.size, 2, none⟩) lB nwr).trans c2
        have l5 := Nat.lt_of_lt_of_le lB u5.size
        have R5 := FA.out.rm.upto u5 (fun k hk => NP.out k hk)
        have B5 := Bs.upto FB.out u5 (fun g hg h0 hp => hfb.out g hg h0 (.inl hp))
        go_wp2_with fail
        refine (rpoke_any P M a s.us s.ao s.cap _ R5 (by omega) B5 (fun g hg h0 hp => hfb.out g hg h0 (.inr hp))).mono ?_
        rintro e w6 ⟨rfl, h6, u6⟩
        have u6' : Upto P.has w5 w6 := u6.mono (fun _ _ hk => hk)
        have d2' := (u6'.cell (q := ⟨wr.heap.size, 2, none⟩) l5 nwP).trans d2
        have l6 := Nat.lt_of_lt_of_le l5 u6.size
        have h5' := h5.upto u6' (fun hp => HNE.out hp)
        go_wp2_with fail
        refine (protect_any _ (pok M a s.us) (a / 256) s.rt _ h5').mono ?_
        rintro e w7 ⟨rfl, h7, u7⟩
        have d3 := (u7.cell (q := ⟨wr.heap.size, 2, none⟩) l6 nwr).trans d2'
        have R7 := h6.upto u7 (fun k hk => NP.out k hk)
        go_wp2_with fail
        refine (rprotect_any P (pok M a s.us) (a / 256) s.rt _ R7).mono ?_
        rintro e w8 ⟨rfl, h8, u8⟩
        have u8' : Upto P.has w7 w8 := u8.mono (fun _ _ hk => hk)
        have h7' := h7.upto u8' (fun hp => HNE.out hp)
        have UU : Upto (PS w.heap.size P) wA w8 := (((u5.mono (fun k _ hk => .inl hk)).trans (u6'.mono (fun k _ hk => .inr hk))).trans (u7.mono (fun k _ hk => .inl hk))).trans (u8'.mono (fun k _ hk => .inr hk))
        go_wp2_with fail
        go_roundg (N - (j + 1))
        case measure => omega
        case rel =>
          refine ⟨j + 1, rfl, by omega, by simp, ?_, ?_⟩
          · rw [hfold.out]
            exact ⟨h7', h8, FA.out.ne, (FA.out.ok.pok _ rg).prM _ _⟩
          · exact HBw.out.trans ((bA.mono HBw.out.size).trans (UU.below (Nat.le_trans HBw.out.size bA.size) (fun k hk hp => by have := GA.out k hp; omega)))
    · obtain rfl : j = N := by omega
      go_wp2_with fail
      go_ret3
      have e : (ss.take j).foldl layP M0 = layd ss := by unfold layd; rw [← HN.out, List.take_length]
      rw [e] at H1
      exact ⟨_, P, rfl, H1, HBw.out, GA.out⟩
end Go.Proofs.Ytcjcmnnhmajocab.St
namespace Go.Proofs.Ytcjcmnnhmajocab.Kt
open Go
variable {P : Program} {w : World} {r : Reach} {base : Nat} {t : TypeId} {v : Value}
def rowly (P : Program) (t : TypeId) : Bool := match P.underlying t with
  | some (.struct _) => true
  | some (.array _ _) => true
  | _ => false
theorem okWide_cells {n : Nat} {ts : List TypeId} (hu : rowly P t = true) (hc : P.cellsOf t = n) (ht : P.cellTypes P.depth t = some ts) (h : Value.okWide P w r base t v) :
    ∃ cs, v = .agg cs ∧ cs.size = n ∧ ∀ (i : Nat) (x : Value) (u : TypeId), cs[i]? = some x → ts[i]? = some u → Cell.okWide P w r base u x := by
  have h' : ∃ cs, v = .agg cs ∧ cs.size = P.cellsOf t ∧ Row.okWide P w r base t cs := by
    unfold rowly at hu
    unfold Value.okWide at h
    cases hx : P.underlying t with
    | none => simp [hx] at hu
    | some d => cases d <;> simp_all
  obtain ⟨cs, h1, h2, ts', h3, _, h5⟩ := h'
  rw [ht] at h3
  obtain rfl := Option.some.inj h3
  refine ⟨cs, h1, h2.trans hc, fun i x u hi hu' => ?_⟩
  obtain ⟨u2, e1, e2⟩ := h5 i x hi
  have hlt : i < ts.length := by
    by_cases hh : i < ts.length
    · exact hh
    · rw [List.getElem?_eq_none (by omega)] at hu'; cases hu'
  rw [Nat.mod_eq_of_lt hlt, hu'] at e1
  obtain rfl := Option.some.inj e1
  exact e2
theorem cell_int {u : TypeId} {k : IntKind} {x : Value} (hu : P.underlying u = some (.int k)) (h : Cell.okWide P w r base u x) : ∃ n, x = .int k n ∧ (Lit.int k n).wf = true := by
  simp only [Cell.okWide, hu] at h
  cases x <;> simp_all [Cell.ok, Lit.wf, IntKind.has]
theorem value_int {k : IntKind} (hu : P.underlying t = some (.int k)) (h : Value.okWide P w r base t v) : ∃ n, v = .int k n ∧ (Lit.int k n).wf = true := by
  simp only [Value.okWide, Cell.okWide, hu] at h
  cases v <;> simp_all [Cell.ok, Lit.wf, IntKind.has]
theorem size10 {cs : Array Value} (h : cs.size = 10) : ∃ x0 x1 x2 x3 x4 x5 x6 x7 x8 x9, cs = #[x0, x1, x2, x3, x4, x5, x6, x7, x8, x9] := by
  rcases cs with ⟨l⟩
  match l, h with
  | [x0, x1, x2, x3, x4, x5, x6, x7, x8, x9], _ => exact ⟨x0, x1, x2, x3, x4, x5, x6, x7, x8, x9, rfl⟩
end Go.Proofs.Ytcjcmnnhmajocab.Kt
namespace Go.Proofs.Ytcjcmnnhmajocab.St
open Go.RowKit Go.ChangeShapes Go.WideShapes Go.Deep Me
set_option linter.unusedVariables false
set_option linter.unusedSimpArgs false
theorem list_of {α : Type} {p : Nat → α → Prop} : ∀ n, (∀ i, i < n → ∃ o, p i o) → ∃ os : List α, os.length = n ∧ ∀ i o, os[i]? = some o → p i o
  | 0, _ => ⟨[], rfl, fun i o h => by simp at h⟩
  | n + 1, h => by
    obtain ⟨os, hl, hp⟩ := list_of n (fun i hi => h i (by omega))
    obtain ⟨o, ho⟩ := h n (by omega)
    refine ⟨os ++ [o], by simp [hl], fun i x hx => ?_⟩
    by_cases hi : i < n
    · rw [List.getElem?_append_left (by omega)] at hx
      exact hp i x hx
    · have hin : i < (os ++ [o]).length := (List.getElem?_eq_some_iff.1 hx).1
      obtain rfl : i = n := by simp [hl] at hin; omega
      rw [List.getElem?_append_right (by omega), hl, Nat.sub_self] at hx
      obtain rfl : o = x := by simpa using hx
      exact ho
theorem get_rg (zs : List Int) (h : ∀ n ∈ zs, (Lit.int .u8 n).wf = true) (j : Nat) : 0 ≤ zs.getD j 0 ∧ zs.getD j 0 < 256 := by
  rw [List.getD_eq_getElem?_getD]
  cases hz : zs[j]? with
  | none => simp
  | some z => exact Kt.bd_u8 (h z (List.mem_of_getElem? hz))
theorem get_tk (zs : List Int) (n j : Nat) (h : j < n) : (zs.take n).getD j 0 = zs.getD j 0 := by
  rw [List.getD_eq_getElem?_getD, List.getD_eq_getElem?_getD, List.getElem?_take, if_pos h]
theorem cells_u8 : Try.prog.cellsOf 5 = 1 := by kernel_rfl
section
variable {H : Type} {enc : TypeId × Value → H} {w : World} {base : Nat} {held : Bool}
/-- bytes that came in -/
theorem open_bytes {fuel : Nat} {c : Value} {x : DataW H × List MemPlace} (h : DataW.trod enc Try.prog w base (fun _ => true) held fuel 74 [c] = some x) :
    ∃ (us : List Int) (ao : Option Addr) (cap : Nat), c = .slice ao us.length cap ∧ Gu.Bs us ao cap w ∧ ∀ j, 0 ≤ us.getD j 0 ∧ us.getD j 0 < 256 := by
  rcases open_ints Try.underlying74 Try.underlying5 cells_u8 h with ⟨hcs, hx⟩ | ⟨a, len, cap, zs, hcs, _, hl, hm, hz, hx, hcell, hwz⟩
  · simp only [List.cons.injEq, and_true] at hcs
    subst hcs
    exact ⟨[], none, 0, rfl, ⟨Nat.le_refl _, by unfold maxLen; omega, fun h => absurd h (by simp)⟩, by simp⟩
  · simp only [List.cons.injEq, and_true] at hcs
    subst hcs
    simp only [if_true] at hz
    have hlen : (zs.take len).length = len := by rw [List.length_take]; omega
    refine ⟨zs.take len, some a, cap, by rw [hlen], ⟨by omega, hm, fun h => ?_⟩, get_rg _ (fun n hn => hwz n (List.mem_of_mem_take hn))⟩
    rw [hlen] at h
    have hc0 := hcell 0 (by omega)
    obtain ⟨b, off, spot⟩ := a
    have hspot : spot = none := by simpa [Addr.add] using World.cell?_spot hc0
    subst hspot
    have hbW : b < w.heap.size := World.block_lt_of_cell? w _ hc0
    refine ⟨b, off, rfl, hbW, fun j hj => ?_⟩
    rw [hlen] at hj
    rw [← Addr.add_lit, hcell j (by omega), get_tk _ _ _ hj]
set_option maxRecDepth 100000 in
theorem open_part {fuel : Nat} {a : Addr} {i : Nat} {x : DataW H × List MemPlace} {cs : List Value} (hc : w.cells? base (a.add (i * 3)) 3 = some cs) (h : DataW.trod enc Try.prog w base (fun _ => true) held fuel 76 cs = some x) :
    ∃ s : Prt, PrtOk s w ∧ ∀ (j : Nat) v, s.cells[j]? = some v → w.cell? (a.add (i * 3 + j)) = some v := by
  obtain ⟨ys, n', hn', hy, hlen, hyl, hf⟩ := DataW.trod_struct Try.underlying76 h
  obtain ⟨_, hcl, hat⟩ := World.cells?_some hc
  have s1 : Try.prog.cellsOf 3 = 1 := by kernel_rfl
  have s4 : Try.prog.cellsOf 74 = 1 := by kernel_rfl
  match cs, hcl, ys, hyl with
  | [c0, c1, c2], _, [y0, y1, y2], _ =>
    have k0 : DataW.trod enc Try.prog w base (fun _ => true) held n' 3 [c0] = some y0 := by simpa [s1, s4] using hf 0 _ rfl
    obtain ⟨v0, e0, _, w0⟩ := DataW.trod_int Try.underlying3 k0
    simp only [List.cons.injEq, and_true] at e0
    subst e0
    have k1 : DataW.trod enc Try.prog w base (fun _ => true) held n' 74 [c1] = some y1 := by simpa [s1, s4] using hf 1 _ rfl
    obtain ⟨us, ao, cap, e1, hB, hG⟩ := open_bytes k1
    subst e1
    have k2 : DataW.trod enc Try.prog w base (fun _ => true) held n' 3 [c2] = some y2 := by simpa [s1, s4] using hf 2 _ rfl
    obtain ⟨v2, e2, _, w2⟩ := DataW.trod_int Try.underlying3 k2
    simp only [List.cons.injEq, and_true] at e2
    subst e2
    have b0 := Kt.bd_i64 w0
    refine ⟨⟨v0, us, ao, cap, v2⟩, ⟨b0.1, b0.2, hB, hG⟩, fun j v hj => ?_⟩
    have hj3 : j < 3 := by
      have := (Array.getElem?_eq_some_iff.1 hj).1
      simpa [Prt.cells] using this
    have := hat j hj3
    rw [Go.Deep.add_add] at this
    rw [this, ← hj]
    simp [Prt.cells]
theorem open_parts {fuel : Nat} {c : Value} {x : DataW H × List MemPlace} (h : DataW.trod enc Try.prog w base (fun _ => true) held fuel 69 [c] = some x) :
    ∃ (ss : List Prt) (ao : Option Addr) (cap : Nat), c = .slice ao ss.length cap ∧ Prts ss ao cap w := by
  have hC : Try.prog.cellsOf 76 = 3 := by kernel_rfl
  rcases open_slice Try.underlying69 h with ⟨e3, hx⟩ | ⟨a, len, cap, m, n', D, Pl, e3, _, hl, hm, hmm, hx, hi⟩
  · simp only [List.cons.injEq, and_true] at e3
    subst e3
    exact ⟨[], none, 0, rfl, ⟨Nat.le_refl _, by unfold maxLen; omega, fun o ho => (nomatch ho), fun h => absurd h (by simp)⟩⟩
  · simp only [List.cons.injEq, and_true] at e3
    subst e3
    simp only [if_true] at hmm
    subst hmm
    obtain ⟨ss, hss, hp⟩ := list_of (p := fun i s => PrtOk s w ∧ ∀ (j : Nat) v, s.cells[j]? = some v → w.cell? (a.add (i * 3 + j)) = some v) len (fun i hlt => by
      obtain ⟨cs', hc, ht⟩ := hi i (by omega)
      rw [hC] at hc
      exact open_part hc ht)
    subst hss
    refine ⟨ss, some a, m, rfl, ⟨hl, hm, fun s hs => ?_, fun h0 => ?_⟩⟩
    · obtain ⟨i, hi'⟩ := List.mem_iff_getElem?.1 hs
      exact (hp i s hi').1
    · obtain ⟨b, off, spot⟩ := a
      obtain ⟨s, hs⟩ : ∃ s, ss[0]? = some s := ⟨ss[0], List.getElem?_eq_getElem h0⟩
      have hc0 := (hp 0 s hs).2 0 (.int .i64 s.at_) rfl
      have hspot : spot = none := by simpa [Addr.add] using World.cell?_spot hc0
      subst hspot
      have hbW : b < w.heap.size := World.block_lt_of_cell? w _ hc0
      refine ⟨b, off, rfl, hbW, fun i s hs j v hj => ?_⟩
      rw [Nat.add_assoc, ← Addr.add_lit]
      exact (hp i s hs).2 j v hj
end
/-- a state, as it came in -/
structure Sta where
  R : Nat → Int
  pc : Int
  f : Int
def Sta.cells (s : Sta) : Array Value := stL s.R s.pc s.f
structure StaOk (s : Sta) : Prop where
  R : ROk s.R
  p : 0 ≤ s.pc ∧ s.pc < 4294967296
  f : 0 ≤ s.f ∧ s.f < 4294967296
/-- the states that came in -/
structure Stas (ss : List Sta) (ao : Option Addr) (cap : Nat) (W : World) : Prop where
  lc : ss.length ≤ cap
  mx : cap ≤ maxLen
  ok : ∀ s ∈ ss, StaOk s
  at_ : 0 < ss.length → ∃ b off, ao = some ⟨b, off, none⟩ ∧ b < W.heap.size ∧ ∀ i s, ss[i]? = some s → ∀ j v, s.cells[j]? = some v → W.cell? ⟨b, off + i * 10 + j, none⟩ = some v
def rof (v0 v1 v2 v3 v4 v5 v6 v7 : Int) (j : Nat) : Int := [v0, v1, v2, v3, v4, v5, v6, v7].getD j 0
theorem rof_ok {v0 v1 v2 v3 v4 v5 v6 v7 : Int} (h0 : (Lit.int .u32 v0).wf = true) (h1 : (Lit.int .u32 v1).wf = true) (h2 : (Lit.int .u32 v2).wf = true) (h3 : (Lit.int .u32 v3).wf = true) (h4 : (Lit.int .u32 v4).wf = true) (h5 : (Lit.int .u32 v5).wf = true) (h6 : (Lit.int .u32 v6).wf = true) (h7 : (Lit.int .u32 v7).wf = true) : ROk (rof v0 v1 v2 v3 v4 v5 v6 v7) := by
  intro j
  unfold rof
  match j with
  | 0 => exact Kt.bd_u32 h0
  | 1 => exact Kt.bd_u32 h1
  | 2 => exact Kt.bd_u32 h2
  | 3 => exact Kt.bd_u32 h3
  | 4 => exact Kt.bd_u32 h4
  | 5 => exact Kt.bd_u32 h5
  | 6 => exact Kt.bd_u32 h6
  | 7 => exact Kt.bd_u32 h7
  | n + 8 => simp
section
variable {H : Type} {enc : TypeId × Value → H} {w : World} {base : Nat} {held : Bool}
set_option maxRecDepth 100000 in
theorem open_state {fuel : Nat} {a : Addr} {i : Nat} {x : DataW H × List MemPlace} {cs : List Value} (hc : w.cells? base (a.add (i * 10)) 10 = some cs) (h : DataW.trod enc Try.prog w base (fun _ => true) held fuel 72 cs = some x) :
    ∃ s : Sta, StaOk s ∧ ∀ (j : Nat) v, s.cells[j]? = some v → w.cell? (a.add (i * 10 + j)) = some v := by
  obtain ⟨ys, n', hn', hy, hlen, hyl, hf⟩ := DataW.trod_struct Try.underlying72 h
  obtain ⟨_, hcl, hat⟩ := World.cells?_some hc
  have s1 : Try.prog.cellsOf 22 = 1 := by kernel_rfl
  have s8 : Try.prog.cellsOf 70 = 8 := by kernel_rfl
  match cs, hcl, ys, hyl with
  | [c0, c1, c2, c3, c4, c5, c6, c7, c8, c9], _, [y0, y1, y2], _ =>
    have k0 : DataW.trod enc Try.prog w base (fun _ => true) held n' 70 [c0, c1, c2, c3, c4, c5, c6, c7] = some y0 := by simpa [s1, s8] using hf 0 _ rfl
    obtain ⟨xs, m, _, _, _, hxl, hel⟩ := DataW.trod_array Try.underlying70 k0
    rw [s1] at hel
    have g0 : ∃ z, DataW.trod enc Try.prog w base (fun _ => true) held m 22 [c0] = some z := ⟨xs[0]'(by omega), by have := hel 0 (by omega); rw [List.getElem?_eq_getElem (by omega)] at this; simpa using this⟩
    obtain ⟨z0, g0⟩ := g0
    obtain ⟨v0, e0, _, w0⟩ := DataW.trod_int Try.underlying22 g0
    simp only [List.cons.injEq, and_true] at e0
    subst e0
    have g1 : ∃ z, DataW.trod enc Try.prog w base (fun _ => true) held m 22 [c1] = some z := ⟨xs[1]'(by omega), by have := hel 1 (by omega); rw [List.getElem?_eq_getElem (by omega)] at this; simpa using this⟩
    obtain ⟨z1, g1⟩ := g1
    obtain ⟨v1, e1, _, w1⟩ := DataW.trod_int Try.underlying22 g1
    simp only [List.cons.injEq, and_true] at e1
    subst e1
    have g2 : ∃ z, DataW.trod enc Try.prog w base (fun _ => true) held m 22 [c2] = some z := ⟨xs[2]'(by omega), by have := hel 2 (by omega); rw [List.getElem?_eq_getElem (by omega)] at this; simpa using this⟩
    obtain ⟨z2, g2⟩ := g2
    obtain ⟨v2, e2, _, w2⟩ := DataW.trod_int Try.underlying22 g2
    simp only [List.cons.injEq, and_true] at e2
    subst e2
    have g3 : ∃ z, DataW.trod enc Try.prog w base (fun _ => true) held m 22 [c3] = some z := ⟨xs[3]'(by omega), by have := hel 3 (by omega); rw [List.getElem?_eq_getElem (by omega)] at this; simpa using this⟩
    obtain ⟨z3, g3⟩ := g3
    obtain ⟨v3, e3, _, w3⟩ := DataW.trod_int Try.underlying22 g3
    simp only [List.cons.injEq, and_true] at e3
    subst e3
    have g4 : ∃ z, DataW.trod enc Try.prog w base (fun _ => true) held m 22 [c4] = some z := ⟨xs[4]'(by omega), by have := hel 4 (by omega); rw [List.getElem?_eq_getElem (by omega)] at this; simpa using this⟩
    obtain ⟨z4, g4⟩ := g4
    obtain ⟨v4, e4, _, w4⟩ := DataW.trod_int Try.underlying22 g4
    simp only [List.cons.injEq, and_true] at e4
    subst e4
    have g5 : ∃ z, DataW.trod enc Try.prog w base (fun _ => true) held m 22 [c5] = some z := ⟨xs[5]'(by omega), by have := hel 5 (by omega); rw [List.getElem?_eq_getElem (by omega)] at this; simpa using this⟩
    obtain ⟨z5, g5⟩ := g5
    obtain ⟨v5, e5, _, w5⟩ := DataW.trod_int Try.underlying22 g5
    simp only [List.cons.injEq, and_true] at e5
    subst e5
    have g6 : ∃ z, DataW.trod enc Try.prog w base (fun _ => true) held m 22 [c6] = some z := ⟨xs[6]'(by omega), by have := hel 6 (by omega); rw [List.getElem?_eq_getElem (by omega)] at this; simpa using this⟩
    obtain ⟨z6, g6⟩ := g6
    obtain ⟨v6, e6, _, w6⟩ := DataW.trod_int Try.underlying22 g6
    simp only [List.cons.injEq, and_true] at e6
    subst e6
    have g7 : ∃ z, DataW.trod enc Try.prog w base (fun _ => true) held m 22 [c7] = some z := ⟨xs[7]'(by omega), by have := hel 7 (by omega); rw [List.getElem?_eq_getElem (by omega)] at this; simpa using this⟩
    obtain ⟨z7, g7⟩ := g7
    obtain ⟨v7, e7, _, w7⟩ := DataW.trod_int Try.underlying22 g7
    simp only [List.cons.injEq, and_true] at e7
    subst e7
    have g8 : DataW.trod enc Try.prog w base (fun _ => true) held n' 22 [c8] = some y1 := by simpa [s1, s8] using hf 1 _ rfl
    obtain ⟨v8, e8, _, w8⟩ := DataW.trod_int Try.underlying22 g8
    simp only [List.cons.injEq, and_true] at e8
    subst e8
    have g9 : DataW.trod enc Try.prog w base (fun _ => true) held n' 22 [c9] = some y2 := by simpa [s1, s8] using hf 2 _ rfl
    obtain ⟨v9, e9, _, w9⟩ := DataW.trod_int Try.underlying22 g9
    simp only [List.cons.injEq, and_true] at e9
    subst e9
    refine ⟨⟨rof v0 v1 v2 v3 v4 v5 v6 v7, v8, v9⟩, ⟨rof_ok w0 w1 w2 w3 w4 w5 w6 w7, Kt.bd_u32 w8, Kt.bd_u32 w9⟩, fun j v hj => ?_⟩
    have hj3 : j < 10 := by
      have := (Array.getElem?_eq_some_iff.1 hj).1
      simpa [Sta.cells, stL] using this
    have := hat j hj3
    rw [Go.Deep.add_add] at this
    rw [this, ← hj]
    simp [Sta.cells, stL, rof]
theorem open_states {fuel : Nat} {c : Value} {x : DataW H × List MemPlace} (h : DataW.trod enc Try.prog w base (fun _ => true) held fuel 83 [c] = some x) :
    ∃ (ss : List Sta) (ao : Option Addr) (cap : Nat), c = .slice ao ss.length cap ∧ Stas ss ao cap w := by
  have hC : Try.prog.cellsOf 72 = 10 := by kernel_rfl
  rcases open_slice Try.underlying83 h with ⟨e3, hx⟩ | ⟨a, len, cap, m, n', D, Pl, e3, _, hl, hm, hmm, hx, hi⟩
  · simp only [List.cons.injEq, and_true] at e3
    subst e3
    exact ⟨[], none, 0, rfl, ⟨Nat.le_refl _, by unfold maxLen; omega, fun o ho => (nomatch ho), fun h => absurd h (by simp)⟩⟩
  · simp only [List.cons.injEq, and_true] at e3
    subst e3
    simp only [if_true] at hmm
    subst hmm
    obtain ⟨ss, hss, hp⟩ := list_of (p := fun i s => StaOk s ∧ ∀ (j : Nat) v, s.cells[j]? = some v → w.cell? (a.add (i * 10 + j)) = some v) len (fun i hlt => by
      obtain ⟨cs', hc, ht⟩ := hi i (by omega)
      rw [hC] at hc
      exact open_state hc ht)
    subst hss
    refine ⟨ss, some a, m, rfl, ⟨hl, hm, fun s hs => ?_, fun h0 => ?_⟩⟩
    · obtain ⟨i, hi'⟩ := List.mem_iff_getElem?.1 hs
      exact (hp i s hi').1
    · obtain ⟨b, off, spot⟩ := a
      obtain ⟨s, hs⟩ : ∃ s, ss[0]? = some s := ⟨ss[0], List.getElem?_eq_getElem h0⟩
      have hc0 := (hp 0 s hs).2 0 (.int .u32 (s.R 0)) rfl
      have hspot : spot = none := by simpa [Addr.add] using World.cell?_spot hc0
      subst hspot
      have hbW : b < w.heap.size := World.block_lt_of_cell? w _ hc0
      refine ⟨b, off, rfl, hbW, fun i s hs j v hj => ?_⟩
      rw [Nat.add_assoc, ← Addr.add_lit]
      exact (hp i s hs).2 j v hj
end
end Go.Proofs.Ytcjcmnnhmajocab.St
namespace Go.Proofs.Ytcjcmnnhmajocab.St
open Go
set_option linter.unusedVariables false
section
variable {P : Program}
theorem eqItems_self (d : Nat) {e : TypeId} (hu : P.underlying e = some (.int .u32)) (hp : P.plainKey e = true) (xs : Array Value) : ∀ (is : List Nat) (w : World), (∀ i ∈ is, ∃ z, xs[i]? = some (.int .u32 z)) →
    (Op.eqItems (d + 1) e 1 xs xs is).run P w = .ok true w
  | [], w, _ => by simp [Op.eqItems]
  | i :: is, w, h => by
    obtain ⟨z, hz⟩ := h i (by simp)
    have p1 := run_part_plain w hp hz
    have p3 := run_equalIn_int (P := P) w d e .u32 .u32 z z hu
    simp only [Op.eqItems, Nat.mul_one, Sem.run_bind, p1, p3, Result.andThen_ok]
    simpa using eqItems_self d hu hp xs is w (fun j hj => h j (by simp [hj]))
theorem equalIn_u32s (d : Nat) {t e : TypeId} {n : Nat} {i : TypeInfo} (hu : P.underlying t = some (.array n e)) (he : P.underlying e = some (.int .u32)) (hp : P.plainKey e = true) (hi : P.info? e = some i) (hc : P.cellsOf e = 1) (xs : Array Value)
    (h : ∀ i, i < n → ∃ z, xs[i]? = some (.int .u32 z)) (w : World) : (Op.equalIn (d + 2) t (.agg xs) (.agg xs)).run P w = .ok true w := by
  rw [run_equalIn_array w (d + 1) xs xs hu hi, hc]
  exact eqItems_self d he hp xs _ w (fun j hj => h j (by simpa using hj))
theorem equalIn_u32s' (d D : Nat) (hD : D = d + 2) {t e : TypeId} {n : Nat} {i : TypeInfo} (hu : P.underlying t = some (.array n e)) (he : P.underlying e = some (.int .u32)) (hp : P.plainKey e = true) (hi : P.info? e = some i) (hc : P.cellsOf e = 1) (xs : Array Value)
    (h : ∀ i, i < n → ∃ z, xs[i]? = some (.int .u32 z)) (w : World) : (Op.equalIn D t (.agg xs) (.agg xs)).run P w = .ok true w := by
  subst hD
  exact equalIn_u32s d hu he hp hi hc xs h w
theorem eqFields_self (d : Nat) (xs : Array Value) : ∀ (fs : List Field) (w : World), (∀ f ∈ fs, ∃ v, (∀ w, (part f.type xs f.offset).run P w = .ok v w) ∧ ∀ w, (Op.equalIn d f.type v v).run P w = .ok true w) →
    (Op.eqFields d xs xs fs).run P w = .ok true w
  | [], w, _ => by simp [Op.eqFields]
  | f :: fs, w, h => by
    obtain ⟨v, hv, he⟩ := h f (by simp)
    have ih := eqFields_self d xs fs w (fun j hj => h j (by simp [hj]))
    simp only [Op.eqFields]
    split
    · simp only [Sem.run_bind, hv, he, Result.andThen_ok]
      simpa using ih
    · exact ih
theorem neq_struct {t : TypeId} (ht : P.underlying t = some (.struct (P.fieldsOf t))) (hp : P.stoodInHeld t = false) (xs : Array Value)
    (h : ∀ f ∈ (P.fieldsOf t).toList, ∃ v, (∀ w, (part f.type xs f.offset).run P w = .ok v w) ∧ ∀ w, (Op.equalIn 9999 f.type v v).run P w = .ok true w) : ∀ (w : World), (binOp .neq t (.agg xs) (.agg xs)).run P w = .ok (.bool false) w := by
  intro w
  rw [run_neq_struct, run_equalIn_struct w 9999 t xs xs ht hp, eqFields_self 9999 xs _ w h]
  rfl
end
theorem nine : (9999 : Nat) = 9997 + 2 := by kernel_rfl
theorem neq_state (c0 c1 c2 c3 c4 c5 c6 c7 c8 c9 : Int) : ∀ (w : World), (binOp .neq 72 (.agg #[.int .u32 c0, .int .u32 c1, .int .u32 c2, .int .u32 c3, .int .u32 c4, .int .u32 c5, .int .u32 c6, .int .u32 c7, .int .u32 c8, .int .u32 c9]) (.agg #[.int .u32 c0, .int .u32 c1, .int .u32 c2, .int .u32 c3, .int .u32 c4, .int .u32 c5, .int .u32 c6, .int .u32 c7, .int .u32 c8, .int .u32 c9])).run Try.prog w = .ok (.bool false) w := by
  refine neq_struct (by kernel_rfl) (by kernel_rfl) _ ?_
  have hl : (Try.prog.fieldsOf 72).toList = [(Try.prog.fieldsOf 72)[0]!, (Try.prog.fieldsOf 72)[1]!, (Try.prog.fieldsOf 72)[2]!] := by kernel_rfl
  rw [hl]
  refine List.forall_mem_cons.2 ⟨?_, List.forall_mem_cons.2 ⟨?_, List.forall_mem_cons.2 ⟨?_, fun f hf => (List.not_mem_nil hf).elim⟩⟩⟩
  · refine ⟨.agg #[.int .u32 c0, .int .u32 c1, .int .u32 c2, .int .u32 c3, .int .u32 c4, .int .u32 c5, .int .u32 c6, .int .u32 c7], fun w => by kernel_rfl, ?_⟩
    refine equalIn_u32s' 9997 9999 nine (t := ((Try.prog.fieldsOf 72)[0]!).type) (n := 8) (e := 22) (by kernel_rfl) Try.underlying22 (by kernel_rfl) (i := (Try.prog.info? 22).get!) (by kernel_rfl) (by kernel_rfl) _ ?_
    intro i hi
    match i, hi with
    | 0, _ | 1, _ | 2, _ | 3, _ | 4, _ | 5, _ | 6, _ | 7, _ => exact ⟨_, rfl⟩
    | n + 8, h => omega
  · refine ⟨.int .u32 c8, fun w => by kernel_rfl, fun w => ?_⟩
    have := run_equalIn_int (P := Try.prog) w 9998 ((Try.prog.fieldsOf 72)[1]!).type .u32 .u32 c8 c8 (by kernel_rfl)
    simpa using this
  · refine ⟨.int .u32 c9, fun w => by kernel_rfl, fun w => ?_⟩
    have := run_equalIn_int (P := Try.prog) w 9998 ((Try.prog.fieldsOf 72)[2]!).type .u32 .u32 c9 c9 (by kernel_rfl)
    simpa using this
theorem neq_stop (k x : Int) : ∀ (w : World), (binOp .neq 46 (.agg #[.int .i64 k, .int .u32 x]) (.agg #[.int .i64 k, .int .u32 x])).run Try.prog w = .ok (.bool false) w := by
  refine neq_struct (by kernel_rfl) (by kernel_rfl) _ ?_
  have hl : (Try.prog.fieldsOf 46).toList = [(Try.prog.fieldsOf 46)[0]!, (Try.prog.fieldsOf 46)[1]!] := by kernel_rfl
  rw [hl]
  refine List.forall_mem_cons.2 ⟨?_, List.forall_mem_cons.2 ⟨?_, fun f hf => (List.not_mem_nil hf).elim⟩⟩
  · refine ⟨.int .i64 k, fun w => by kernel_rfl, fun w => ?_⟩
    have := run_equalIn_int (P := Try.prog) w 9998 ((Try.prog.fieldsOf 46)[0]!).type .i64 .i64 k k (by kernel_rfl)
    simpa using this
  · refine ⟨.int .u32 x, fun w => by kernel_rfl, fun w => ?_⟩
    have := run_equalIn_int (P := Try.prog) w 9998 ((Try.prog.fieldsOf 46)[1]!).type .u32 .u32 x x (by kernel_rfl)
    simpa using this
end Go.Proofs.Ytcjcmnnhmajocab.St
