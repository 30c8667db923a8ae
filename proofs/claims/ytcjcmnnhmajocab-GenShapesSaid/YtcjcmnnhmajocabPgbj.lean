/- crossgrainlaw3.straight of code that is straight. -/
import Derived.LoopN
import Derived.Outline
import Derived.Deep.LoopGhost
import Derived.Deep.QuietTactic
import Derived.BigQuiet
import Derived.Test.YtcjcmnnhmajocabPgaz
import Derived.Test.YtcjcmnnhmajocabPgbg
namespace Go.Proofs.Ytcjcmnnhmajocab.Gn
open Go.RowKit Kt Ic Hr Ho Me
set_option linter.unusedVariables false
set_option linter.unusedSimpArgs false
theorem sl_upto {us : List Int} {ao : Option Addr} {cap : Nat} {S : Nat → Prop} {W W' : World} (a : Sl us ao cap W) (u : Upto S W W') (hs : ∀ g, ao = some g → 0 < us.length → ¬ S g.block) : Sl us ao cap W' := by
  obtain ⟨h1, h2, h3⟩ := a
  refine ⟨h1, h2, fun h0 => ?_⟩
  obtain ⟨b, off, e, hb, hc⟩ := h3 h0
  exact ⟨b, off, e, Nat.lt_of_lt_of_le hb u.size, fun j hj => (u.cell (q := ⟨b, off + j, none⟩) hb (show ¬ S b from hs _ e h0)).trans (hc j hj)⟩
set_option maxRecDepth 100000 in
set_option maxHeartbeats 16000000 in
theorem straight_any (xs : List Cd) (ao : Option Addr) (cap : Nat) (pc cnt byt : Int) (bo : Option Addr) (bl bc R : Nat) (w : World) (hs : Sl (wds xs) ao cap w) (hu : ∀ j, 0 ≤ (wds xs).getD j 0 ∧ (wds xs).getD j 0 < 4294967296) (hx : ∀ x ∈ xs, COk x)
    (h0 : ∀ h : 0 < xs.length, xs[0] = ⟨1, 0, 0, 0, 0, cnt, pc, 0⟩) (hl0 : 0 < xs.length) (hy : ∀ j, 1 ≤ j → ∀ h : j < xs.length, SX R xs[j]) (hR : 1 ≤ R) (hR2 : R ≤ 16) (hlen : (wds xs).length ≤ 16 * bl + 2) (hbl : bl ≤ 2048) :
    Calls Try.prog 13 #[.slice ao (wds xs).length cap, .agg #[.int .u32 pc, .int .i64 cnt, .int .i64 byt, .slice bo bl bc], .int .i64 R] w fun e w' => e = .returned (.bool true) ∧ Below w.heap.size w w' := by
  have B0 := Lib.hid (Bx.new w #[.int .u32 pc, .int .i64 cnt, .int .i64 byt, .slice bo bl bc] 25)
  have u0 := (Upto.refl (fun _ => False) w).alloc (.cells #[.int .u32 pc, .int .i64 cnt, .int .i64 byt, .slice bo bl bc] 25)
  have S0 := Lib.hid (sl_upto hs u0 (fun _ _ _ => id))
  have U0 := Lib.hid u0
  have DA := Lib.hid (fun j hj => dec_at hx j hj)
  have DC := Lib.hid (fun k w hs => rdec_all (wds xs) ao cap k w hs hu)
  have H0 := Lib.hid h0
  have HY := Lib.hid hy
  have OA := Lib.hid (offs_all xs)
  have hw : ((wds xs).length : Int) ≤ 16 * (bl : Int) + 2 := by omega
  have hb0 : (bl : Int) ≤ 2048 := by omega
  have r1 : (1 : Int) ≤ (R : Int) := by omega
  have r2 : (R : Int) ≤ 16 := by omega
  clear hs hu hx h0 hy u0 hlen hbl hR hR2
  obtain ⟨L, hL⟩ : ∃ L, (wds xs).length = L := ⟨_, rfl⟩
  rw [hL] at OA hw DC ⊢
  have HL := Lib.hid hL
  have HL0 := Lib.hid hl0
  clear hL hl0
  go_enter Try.func13, Try.ntmps13
  go_wp2
  go_loopg [7] xs.length (fun k ix wr => ∃ j : Nat, k = xs.length - j ∧ j ≤ xs.length ∧ ix = .int .i64 (offs xs j) ∧ Hid (Bx w.heap.size #[.int .u32 pc, .int .i64 cnt, .int .i64 byt, .slice bo bl bc] wr) ∧ Hid (Sl (wds xs) ao cap wr) ∧ Hid (Upto (fun _ => False) w wr))
  case atStart => exact ⟨0, rfl, Nat.zero_le _, rfl, B0, S0, U0⟩
  case round =>
    obtain ⟨j, hk, hj, rfl, BO, SO, U⟩ := hrel
    by_cases hlt : j < xs.length
    · obtain ⟨d1, d2, d3, d4, d5⟩ := DA.out j hlt
      rw [HL.out] at d5
      have hpl : (offs xs j : Int) < (L : Int) := by omega
      have DJ := Lib.hid (DC.out (offs xs j) wr SO.out)
      rw [decv_eq, d1] at DJ
      have HS := Lib.hid d2
      obtain ⟨x, hxe⟩ : ∃ x, xs[j] = x := ⟨_, rfl⟩
      have HXE := Lib.hid hxe
      rw [hxe] at DJ HS d3 d4 d2
      unfold decT Cd.L at DJ
      dsimp only at DJ
      have mw : 0 ≤ wd (fcls x.op) := by omega
      have hws : (offs xs j : Int) + wd (fcls x.op) = (offs xs (j + 1) : Int) := by rw [d2]; omega
      have HWS := Lib.hid hws
      have ob : (offs xs j : Int) + wd (fcls x.op) ≤ 40000 := by rw [hws]; omega
      have ob2 : 0 ≤ (offs xs j : Int) + wd (fcls x.op) := by rw [hws]; omega
      have HD5 := Lib.hid d5
      clear d1 d2 hxe hws d5
      obtain ⟨m, hm⟩ : ∃ m, wd (fcls x.op) = m := ⟨_, rfl⟩
      rw [hm] at DJ HS d3 d4 mw HWS ob ob2
      have HK := Lib.hid hk
      have HLT := Lib.hid hlt
      have HJ := Lib.hid hj
      clear hm hk d3 d4
      have BXn := Lib.hid BO
      by_cases j0 : j = 0
      · have HJ0 := Lib.hid j0
        have ex : x = ⟨1, 0, 0, 0, 0, cnt, pc, 0⟩ := by rw [← HXE.out]; subst j0; exact H0.out hlt
        subst ex
        have eo : offs xs j = 0 := by rw [j0]; rfl
        have e1 : ((offs xs j : Int) == 0) = true := by rw [eo]; rfl
        clear j0 eo
        go_upto_region 6 with (go_at_call 53; refine DJ.out.mono ?_; rintro e w1 ⟨rfl, b1⟩; have u1 := Upto.of_below (S := fun _ => False) b1; have B1 := Lib.hid (BO.out.upto u1 id); have S1 := Lib.hid (sl_upto SO.out u1 (fun _ _ _ => id)); have U1 := Lib.hid (U.out.trans u1); clear b1 u1)
        have X2 := Lib.hid (Bx.new w1 #[.int .i64 1, .int .i64 0, .int .i64 0, .int .i64 0, .int .i64 0, .int .i64 cnt, .int .u32 pc, .int .u32 0] 108)
        have B2 := Lib.hid (B1.out.upto ((Upto.refl (fun _ => False) w1).alloc (.cells #[.int .i64 1, .int .i64 0, .int .i64 0, .int .i64 0, .int .i64 0, .int .i64 cnt, .int .u32 pc, .int .u32 0] 108)) id)
        have S2 := Lib.hid (sl_upto S1.out ((Upto.refl (fun _ => False) w1).alloc (.cells #[.int .i64 1, .int .i64 0, .int .i64 0, .int .i64 0, .int .i64 0, .int .i64 cnt, .int .u32 pc, .int .u32 0] 108)) (fun _ _ _ => id))
        have U2 := Lib.hid (U1.out.alloc (.cells #[.int .i64 1, .int .i64 0, .int .i64 0, .int .i64 0, .int .i64 0, .int .i64 cnt, .int .u32 pc, .int .u32 0] 108))
        clear B1 S1 U1 BO SO U DJ
        generalize w1.alloc (.cells #[.int .i64 1, .int .i64 0, .int .i64 0, .int .i64 0, .int .i64 0, .int .i64 cnt, .int .u32 pc, .int .u32 0] 108) = w2 at X2 B2 S2 U2 ⊢
        generalize w1.heap.size = xb at X2 ⊢
        have x0 := X2.out.2.1 0 _ rfl
        have x1 := X2.out.2.1 1 _ rfl
        have x2 := X2.out.2.1 2 _ rfl
        have x3 := X2.out.2.1 3 _ rfl
        have x4 := X2.out.2.1 4 _ rfl
        have x5 := X2.out.2.1 5 _ rfl
        have x6 := X2.out.2.1 6 _ rfl
        have lx := X2.out.1
        have q0 := B2.out.2.1 0 _ rfl
        have q1 := B2.out.2.1 1 _ rfl
        have lq := B2.out.1
        go_wp2
        go_roundg (xs.length - (j + 1))
        case measure => have := HK.out; have := HLT.out; omega
        case rel => exact ⟨j + 1, rfl, HLT.out, by rw [← HWS.out], B2, S2, U2⟩
      · have eo : 1 ≤ offs xs j := by have := (DA.out (j - 1) (by omega)).2; rw [show j - 1 + 1 = j by omega] at this; omega
        have e1 : ((offs xs j : Int) == 0) = false := by simp; omega
        have SXX := HY.out j (by omega) hlt
        rw [HXE.out] at SXX
        have o1 : (x.op == 1) = false := by simpa using SXX.o1.1
        have o2 : (x.op == 15) = false := by simpa using SXX.o1.2.1
        have o3 : (x.op == 96) = false := by simpa using SXX.o1.2.2
        have oa : x.a < (R : Int) := SXX.a
        have obb : x.b < (R : Int) := SXX.b
        have oc : x.c < (R : Int) := SXX.c
        have od := Lib.hid SXX.d
        clear j0 SXX eo
        go_upto_region 6 with (go_at_call 53; refine DJ.out.mono ?_; rintro e w1 ⟨rfl, b1⟩; have u1 := Upto.of_below (S := fun _ => False) b1; have B1 := Lib.hid (BO.out.upto u1 id); have S1 := Lib.hid (sl_upto SO.out u1 (fun _ _ _ => id)); have U1 := Lib.hid (U.out.trans u1); clear b1 u1)
        have X2 := Lib.hid (Bx.new w1 #[.int .i64 x.op, .int .i64 x.d, .int .i64 x.a, .int .i64 x.b, .int .i64 x.c, .int .i64 x.n, .int .u32 x.k, .int .u32 x.x] 108)
        have B2 := Lib.hid (B1.out.upto ((Upto.refl (fun _ => False) w1).alloc (.cells #[.int .i64 x.op, .int .i64 x.d, .int .i64 x.a, .int .i64 x.b, .int .i64 x.c, .int .i64 x.n, .int .u32 x.k, .int .u32 x.x] 108)) id)
        have S2 := Lib.hid (sl_upto S1.out ((Upto.refl (fun _ => False) w1).alloc (.cells #[.int .i64 x.op, .int .i64 x.d, .int .i64 x.a, .int .i64 x.b, .int .i64 x.c, .int .i64 x.n, .int .u32 x.k, .int .u32 x.x] 108)) (fun _ _ _ => id))
        have U2 := Lib.hid (U1.out.alloc (.cells #[.int .i64 x.op, .int .i64 x.d, .int .i64 x.a, .int .i64 x.b, .int .i64 x.c, .int .i64 x.n, .int .u32 x.k, .int .u32 x.x] 108))
        clear B1 S1 U1 BO SO U DJ
        generalize w1.alloc (.cells #[.int .i64 x.op, .int .i64 x.d, .int .i64 x.a, .int .i64 x.b, .int .i64 x.c, .int .i64 x.n, .int .u32 x.k, .int .u32 x.x] 108) = w2 at X2 B2 S2 U2 ⊢
        generalize w1.heap.size = xb at X2 ⊢
        have x0 := X2.out.2.1 0 _ rfl
        have x1 := X2.out.2.1 1 _ rfl
        have x2 := X2.out.2.1 2 _ rfl
        have x3 := X2.out.2.1 3 _ rfl
        have x4 := X2.out.2.1 4 _ rfl
        have x5 := X2.out.2.1 5 _ rfl
        have x6 := X2.out.2.1 6 _ rfl
        have lx := X2.out.1
        have q0 := B2.out.2.1 0 _ rfl
        have q1 := B2.out.2.1 1 _ rfl
        have lq := B2.out.1
        by_cases h12 : x.op = 12
        · have o12 : (x.op == 12) = true := by simpa using h12
          clear h12 od
          go_wp2
          go_roundg (xs.length - (j + 1))
          case measure => have := HK.out; have := HLT.out; omega
          case rel => exact ⟨j + 1, rfl, HLT.out, by rw [← HWS.out], B2, S2, U2⟩
        · have o12 : (x.op == 12) = false := by simpa using h12
          by_cases h13 : x.op = 13
          · have o13 : (x.op == 13) = true := by simpa using h13
            clear h12 h13 od
            go_wp2
            go_roundg (xs.length - (j + 1))
            case measure => have := HK.out; have := HLT.out; omega
            case rel => exact ⟨j + 1, rfl, HLT.out, by rw [← HWS.out], B2, S2, U2⟩
          · have o13 : (x.op == 13) = false := by simpa using h13
            have odd : x.d < (R : Int) := by rcases od.out with h | h | h; exact absurd h h12; exact absurd h h13; exact h
            clear h12 h13 od
            go_wp2
            go_roundg (xs.length - (j + 1))
            case measure => have := HK.out; have := HLT.out; omega
            case rel => exact ⟨j + 1, rfl, HLT.out, by rw [← HWS.out], B2, S2, U2⟩
    · obtain rfl : j = xs.length := by omega
      have e1 : offs xs xs.length = L := OA.out
      have lp : (0 : Int) < (L : Int) := by
        have := (DA.out 0 HL0.out).2
        have h2 : offs xs (0 + 1) ≤ L := by rw [← HL.out]; exact this.2.2.2
        omega
      rw [e1]
      clear hj hk hlt
      go_wp2
      go_ret
      exact ⟨by simp; omega, U.out.below (Nat.le_refl _) (fun _ _ => id)⟩
end Go.Proofs.Ytcjcmnnhmajocab.Gn
