/- crossgrainlaw1.MemPlays: the walk. -/
import Derived.Test.YtcjcmnnhmajocaaMeY
namespace Go.Proofs.Ytcjcmnnhmajocaa.Me
open Go.RowKit Kt
set_option linter.unusedVariables false
set_option linter.unusedSimpArgs false
/-- one call of a memory, as it came in -/
structure Stp where
  k : Int
  a : Int
  n : Int
  v : Int
  us : List Int
  ao : Option Addr
  cap : Nat
  on : Bool
def Stp.cells (s : Stp) : Array Value := stV s.k s.a s.n s.v s.ao s.us.length s.cap s.on
structure StpOk (s : Stp) (W : World) : Prop where
  a0 : 0 ≤ s.a
  a1 : s.a < 4294967296
  n0 : -9223372036854775808 ≤ s.n
  n1 : s.n < 9223372036854775808
  v0 : 0 ≤ s.v
  v1 : s.v < 4294967296
  bs : Gu.Bs s.us s.ao s.cap W
  rc : s.us.length ≤ 140737488351232
  rg : ∀ j, 0 ≤ s.us.getD j 0 ∧ s.us.getD j 0 < 256
/-- the script that came in -/
structure Scr (ss : List Stp) (ao : Option Addr) (cap : Nat) (W : World) : Prop where
  lc : ss.length ≤ cap
  mx : cap ≤ maxLen
  ok : ∀ s ∈ ss, StpOk s W
  at_ : 0 < ss.length → ∃ b off, ao = some ⟨b, off, none⟩ ∧ b < W.heap.size ∧ ∀ i s, ss[i]? = some s → ∀ j v, s.cells[j]? = some v → W.cell? ⟨b, off + i * 6 + j, none⟩ = some v
/-- bools that came in -/
def Bl (bs : List Bool) (ao : Option Addr) (cap : Nat) (W : World) : Prop :=
  bs.length ≤ cap ∧ cap ≤ maxLen ∧ (0 < bs.length → ∃ b off, ao = some ⟨b, off, none⟩ ∧ b < W.heap.size ∧ ∀ j, j < bs.length → W.cell? ⟨b, off + j, none⟩ = some (.bool (bs.getD j false)))
theorem StP.out {p : Nat} {P : RP} {w w' : World} {e : Ending} (h : StP p P w e w') : e = .returned (.bool true) ∧ ∃ M', Pair p P M' w' ∧ Upto (PS p P) w w' := by
  obtain ⟨h1, ⟨M', h2⟩, h3⟩ := h
  exact ⟨h1, M', h2, h3⟩
/-- a step by one pair, beside another -/
theorem step_c (p : Nat) (P : RP) (M : MM) (s : Stp) (w0 w w1 : World) (ob : Obj) (hw : w1 = w.alloc ob) (h : Pair p P M w) (hs : StpOk s w0) (hb : Below w0.heap.size w0 w) (hg : ∀ k, PS p P k → w0.heap.size ≤ k) :
    Calls Try.prog 40 #[.pointer (some ⟨p, 0, none⟩), .pointer (some ⟨P.q, 0, none⟩), .agg #[.int .i64 s.k, .int .u32 s.a, .int .i64 s.n, .int .u32 s.v, .slice s.ao s.us.length s.cap, .bool s.on]] w1 fun e w' => e = .returned (.bool true) ∧ ∃ M', Pair p P M' w' ∧ Upto (PS p P) w w' := by
  subst hw
  have u : Upto (fun _ => False) w (w.alloc ob) := (Upto.refl _ w).alloc ob
  have hB := (hs.bs.keep hb).keep ((Below.refl _ w).alloc (Nat.le_refl _) ob)
  refine (step_any p P M s.k s.a s.n s.v s.us s.ao s.cap s.on _ (h.upto u (fun _ _ => id)) hs.a0 hs.a1 hs.v0 hs.v1 hs.n0 hs.n1 hB hs.rc hs.rg ?_).mono ?_
  · intro g hg' hn hp
    obtain ⟨b, off, e, hb', _⟩ := hs.bs.2.2 hn
    rw [hg'] at e
    obtain rfl := Option.some.inj e
    have := hg _ hp
    simp only at this
    omega
  · intro e w' h'
    obtain ⟨h1, M', h2, h3⟩ := h'.out
    exact ⟨h1, M', h2, (u.mono (T := PS p P) (fun _ _ => False.elim)).trans h3⟩
set_option maxRecDepth 100000 in
set_option maxHeartbeats 4000000 in
theorem memplays_walk (ss : List Stp) (ao : Option Addr) (cap : Nat) (bs : List Bool) (ao2 : Option Addr) (cap2 : Nat) (w : World) (h : Scr ss ao cap w) (h2 : Bl bs ao2 cap2 w) :
    Calls Try.prog 9 #[.slice ao ss.length cap, .slice ao2 bs.length cap2] w fun e w' => e = .returned (.bool true) ∧ Below w.heap.size w w' := by
  have hmx : (maxLen : Nat) = 9223372036854775807 := rfl
  have hc1 := h.lc
  have hc2 := h.mx
  have hd1 := h2.1
  have hd2 := h2.2.1
  rw [hmx] at hc2 hd2
  clear hmx
  have HS := Lib.hid h
  have HB := Lib.hid h2
  clear h h2
  go_enter Try.func9, Try.ntmps9
  go_wp2_with fail
  refine (new_any _).mono ?_
  rintro e w1 ⟨rfl, k1, b1, s1⟩
  have K1 := Lib.hid k1
  have B1 := Lib.hid b1
  have Z1 := Lib.hid s1
  clear k1 b1 s1
  go_wp2_with fail
  refine (new_any _).mono ?_
  rintro e w2 ⟨rfl, k2, b2, s2⟩
  have K2 := Lib.hid k2
  have B2 := Lib.hid b2
  have Z2 := Lib.hid s2
  clear k2 b2 s2
  go_wp2_with fail
  refine (rnew_any _).mono ?_
  rintro e w3 ⟨P1, rfl, r3, b3, g3⟩
  have R3 := Lib.hid r3
  have B3 := Lib.hid b3
  have G3 := Lib.hid g3
  clear r3 b3 g3
  go_wp2_with fail
  refine (rnew_any _).mono ?_
  rintro e w4 ⟨P2, rfl, r4, b4, g4⟩
  have hA : Pair w.heap.size P1 M0 w4 := by
    have l1 := K1.out.2.2.2.2.2.2
    refine ⟨(((K1.out.upto (Upto.of_below (S := fun _ => False) B2.out) id).upto (Upto.of_below (S := fun _ => False) B3.out) id).upto (Upto.of_below (S := fun _ => False) b4) id), R3.out.upto (Upto.of_below (S := fun _ => False) b4) (fun _ _ => id), fun hp => ?_, MOk.zero⟩
    have := G3.out _ hp
    have := Z1.out; have := Z2.out
    omega
  have hBp : Pair w1.heap.size P2 M0 w4 := by
    refine ⟨((K2.out.upto (Upto.of_below (S := fun _ => False) B3.out) id).upto (Upto.of_below (S := fun _ => False) b4) id), r4, fun hp => ?_, MOk.zero⟩
    have := g4 _ hp
    have := Z1.out; have := Z2.out; have := B3.out.size
    omega
  have hD : ∀ k, PS w.heap.size P1 k → ¬ PS w1.heap.size P2 k := by
    have z1 := Z1.out; have z2 := Z2.out; have z3 := B3.out.size
    rintro k (hk | hk) (hk' | hk')
    · omega
    · have := g4 _ hk'; omega
    · have := G3.out _ hk; omega
    · have h3 : k < w3.heap.size := by
        have r := R3.out
        rcases hk with hk | hk | hk | hk | hk
        · rw [hk]; exact r.lq
        · rw [hk]; exact r.lb
        · rw [hk]; exact r.lr
        · rw [hk]; exact r.lm
        · rw [hk]; exact r.lt
      have := g4 _ hk'; omega
  have hGa : ∀ k, PS w.heap.size P1 k → w.heap.size ≤ k := by
    have z1 := Z1.out; have z2 := Z2.out
    rintro k (hk | hk)
    · omega
    · have := G3.out _ hk; omega
  have hGb : ∀ k, PS w1.heap.size P2 k → w.heap.size ≤ k := by
    have z1 := Z1.out; have z2 := Z2.out; have z3 := B3.out.size
    rintro k (hk | hk)
    · omega
    · have := g4 _ hk; omega
  have B4 := Lib.hid (chain (chain (chain B1.out B2.out) B3.out) b4)
  have HA := Lib.hid hA
  have HBp := Lib.hid hBp
  have HD := Lib.hid hD
  have GA := Lib.hid hGa
  have GB := Lib.hid hGb
  clear hA hBp hD hGa hGb r4 b4 g4 R3 B3 G3 K1 K2 B1 B2 Z1 Z2
  obtain ⟨N, hN⟩ : ∃ N, ss.length = N := ⟨_, rfl⟩
  have HN := Lib.hid hN
  rw [hN] at hc1 ⊢
  clear hN
  go_wp2_with fail
  go_loopg [23] N (fun g i wr => ∃ (j : Nat) (M1 M2 : MM), g = N - j ∧ j ≤ N ∧ i = .int .i64 j ∧ Hid (Pair w.heap.size P1 M1 wr) ∧ Hid (Pair w1.heap.size P2 M2 wr) ∧ Hid (Below w.heap.size w wr))
  case atStart => exact ⟨0, M0, M0, rfl, Nat.zero_le _, rfl, HA.out, HBp.out, B4.out⟩
  case round =>
    obtain ⟨j, M1, M2, hg, hj, rfl, H1, H2, HBw⟩ := hrel
    by_cases hlt : j < N
    · have hlt' : (j : Int) < (N : Int) := by omega
      have hge' : (0 : Int) ≤ (j : Int) := by omega
      obtain ⟨g1, off, rfl, lg1, hcs⟩ := HS.out.at_ (by rw [HN.out]; omega)
      obtain ⟨s, hs⟩ : ∃ s, ss[j]? = some s := ⟨_, List.getElem?_eq_getElem (by rw [HN.out]; exact hlt)⟩
      have hok := Lib.hid (HS.out.ok s (List.mem_of_getElem? hs))
      have hcell : ∀ i v, s.cells[i]? = some v → wr.cell? ⟨g1, off + j * 6 + i, none⟩ = some v := fun i v hv => (HBw.out.cell (p := ⟨g1, off + j * 6 + i, none⟩) lg1).trans (hcs j s hs i v hv)
      have q0 := hcell 0 (.int .i64 s.k) rfl
      have q1 := hcell 1 (.int .u32 s.a) rfl
      have q2 := hcell 2 (.int .i64 s.n) rfl
      have q3 := hcell 3 (.int .u32 s.v) rfl
      have q4 := hcell 4 (.slice s.ao s.us.length s.cap) rfl
      have q5 := hcell 5 (.bool s.on) rfl
      rw [Nat.add_zero] at q0
      have C1 := Lib.hid (fun w1' ob hw => step_c _ P1 M1 s w wr w1' ob hw H1.out hok.out HBw.out GA.out)
      have C2 := Lib.hid (fun w1' ob hw => step_c _ P2 M2 s w wr w1' ob hw H2.out hok.out HBw.out GB.out)
      have hsa0 := hok.out.a0
      clear hcell hcs hs
      rcases (show ¬ j < bs.length ∨ (j < bs.length ∧ bs.getD j false = false) ∨ (j < bs.length ∧ bs.getD j false = true) by
        by_cases hjb : j < bs.length
        · cases hbb : bs.getD j false
          · exact .inr (.inl ⟨hjb, rfl⟩)
          · exact .inr (.inr ⟨hjb, rfl⟩)
        · exact .inl hjb) with hb | ⟨hb, hbv⟩ | ⟨hb, hbv⟩
      · have hb' : ¬ (j : Int) < (bs.length : Int) := by omega
        go_wp2_with fail
        refine (C1.out _ _ rfl).mono ?_
        rintro e w5 ⟨rfl, M', h', u'⟩
        go_wp2_with fail
        go_roundg (N - (j + 1))
        case measure => omega
        case rel =>
          refine ⟨j + 1, M', M2, rfl, by omega, by simp, h', H2.out.upto u' (fun k hk hp => HD.out k hp hk), ?_⟩
          exact HBw.out.trans (u'.below HBw.out.size (fun k hk hp => by have := GA.out k hp; omega))
      · have hb' : (j : Int) < (bs.length : Int) := by omega
        obtain ⟨g2, off2, rfl, lg2, hcb⟩ := HB.out.2.2 (by omega)
        have d1 := (HBw.out.cell (p := ⟨g2, off2 + j, none⟩) lg2).trans (hcb j hb)
        rw [hbv] at d1
        clear hcb hbv
        have lg2' := Nat.lt_of_lt_of_le lg2 HBw.out.size
        go_wp2_with fail
        refine (C1.out _ _ rfl).mono ?_
        rintro e w5 ⟨rfl, M', h', u'⟩
        go_wp2_with fail
        go_roundg (N - (j + 1))
        case measure => omega
        case rel =>
          refine ⟨j + 1, M', M2, rfl, by omega, by simp, h', H2.out.upto u' (fun k hk hp => HD.out k hp hk), ?_⟩
          exact HBw.out.trans (u'.below HBw.out.size (fun k hk hp => by have := GA.out k hp; omega))
      · have hb' : (j : Int) < (bs.length : Int) := by omega
        obtain ⟨g2, off2, rfl, lg2, hcb⟩ := HB.out.2.2 (by omega)
        have d1 := (HBw.out.cell (p := ⟨g2, off2 + j, none⟩) lg2).trans (hcb j hb)
        rw [hbv] at d1
        clear hcb hbv
        have lg2' := Nat.lt_of_lt_of_le lg2 HBw.out.size
        go_wp2_with fail
        refine (C2.out _ _ rfl).mono ?_
        rintro e w5 ⟨rfl, M', h', u'⟩
        go_wp2_with fail
        go_roundg (N - (j + 1))
        case measure => omega
        case rel =>
          refine ⟨j + 1, M1, M', rfl, by omega, by simp, H1.out.upto u' (fun k hk hp => HD.out k hk hp), h', ?_⟩
          exact HBw.out.trans (u'.below HBw.out.size (fun k hk hp => by have := GB.out k hp; omega))
    · obtain rfl : j = N := by omega
      have D1 := Lib.hid (whole_any _ P1 M1 wr H1.out)
      have D2 := Lib.hid (fun w' (u : Upto (fun _ => False) wr w') => whole_any _ P2 M2 w' (H2.out.upto u (fun _ _ => id)))
      go_wp2_with fail
      refine D1.out.mono ?_
      rintro e w5 ⟨rfl, b5⟩
      go_wp2_with fail
      refine (D2.out _ (Upto.of_below b5)).mono ?_
      rintro e w6 ⟨rfl, b6⟩
      go_wp2_with fail
      go_ret
      exact ⟨rfl, chain (chain HBw.out b5) b6⟩
end Go.Proofs.Ytcjcmnnhmajocaa.Me
