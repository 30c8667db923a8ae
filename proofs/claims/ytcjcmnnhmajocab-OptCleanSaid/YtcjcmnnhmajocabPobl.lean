/- crossgrainlaw2.slots. -/
import Derived.Test.YtcjcmnnhmajocabPobk
namespace Go.Proofs.Ytcjcmnnhmajocab.Ot
open Go.RowKit Kt Ic Me Ev
set_option linter.unusedVariables false
set_option linter.unusedSimpArgs false
variable {cnt : Int} {os : List Opr} {W W' : World}
/-- a row of numbers -/
def IW (B n : Nat) (u : Nat → Int) (W : World) : Prop := B < W.heap.size ∧ (∀ j, j < n → W.cell? ⟨B, j, none⟩ = some (.int .i64 (u j))) ∧ ∀ j, W.frozen? ⟨B, j, none⟩ = false
theorem IW.upto {B n : Nat} {u : Nat → Int} {S : Nat → Prop} (h : IW B n u W) (v : Upto S W W') (hs : ¬ S B) : IW B n u W' :=
  ⟨Nat.lt_of_lt_of_le h.1 v.size, fun j hj => (v.cell (q := ⟨B, j, none⟩) h.1 hs).trans (h.2.1 j hj), fun j => (v.frozen (q := ⟨B, j, none⟩) h.1 hs).trans (h.2.2 j)⟩
theorem IW.set {B n : Nat} {u : Nat → Int} (h : IW B n u W) (t : Nat) (ht : t < n) (x : Int) : IW B n (upd u t x) (W.setCell ⟨B, t, none⟩ (.int .i64 x)) :=
  ⟨by simpa using h.1, fun j hj => by
    by_cases e : j = t
    · rw [e, upd_eq]; exact World.cell?_setCell_same _ _ _ (h.2.1 t ht)
    · rw [upd_ne _ _ e, HM.cell_other e]; exact h.2.1 j hj, fun j => by simpa using h.2.2 j⟩
theorem IW.eqv {B n : Nat} {u v : Nat → Int} (h : IW B n u W) (e : ∀ j, j < n → u j = v j) : IW B n v W := ⟨h.1, fun j hj => by rw [h.2.1 j hj, e j hj], h.2.2⟩
theorem IW.new (w : World) (t : TypeId) : IW w.heap.size 12 (fun _ => 0) (w.alloc (.cells #[.int .i64 0, .int .i64 0, .int .i64 0, .int .i64 0, .int .i64 0, .int .i64 0, .int .i64 0, .int .i64 0, .int .i64 0, .int .i64 0, .int .i64 0, .int .i64 0] t)) :=
  ⟨by simp, fun j hj => (cell_of_row _ _ _ _ _ _ (heap_alloc_new w _)).trans (by rcases (show j = 0 ∨ j = 1 ∨ j = 2 ∨ j = 3 ∨ j = 4 ∨ j = 5 ∨ j = 6 ∨ j = 7 ∨ j = 8 ∨ j = 9 ∨ j = 10 ∨ j = 11 by omega) with rfl | rfl | rfl | rfl | rfl | rfl | rfl | rfl | rfl | rfl | rfl | rfl <;> rfl), fun j => by simp⟩
set_option maxRecDepth 100000 in
set_option maxHeartbeats 40000000 in
theorem asked_any (c : Cl cnt os) (ao : Option Addr) (cap : Nat) (w : World) (h : Ops os ao cap w) :
    Calls Try.prog 32 #[.slice ao os.length cap] w fun e w' => e = .returned (.bool true) ∧ Below w.heap.size w w' := by
  have hL : os.length ≤ 2048 := c.g.n1
  have hcap := h.1
  have H := Lib.hid h
  have C := Lib.hid c
  clear h c
  go_enter Try.func32, Try.ntmps32
  go_upto_region 3 with fail
  have R1 := Lib.hid (IW.new w 146)
  have B1 := Lib.hid ((Below.refl _ w).alloc (Nat.le_refl _) (.cells #[.int .i64 0, .int .i64 0, .int .i64 0, .int .i64 0, .int .i64 0, .int .i64 0, .int .i64 0, .int .i64 0, .int .i64 0, .int .i64 0, .int .i64 0, .int .i64 0] 146))
  generalize w.alloc (.cells #[.int .i64 0, .int .i64 0, .int .i64 0, .int .i64 0, .int .i64 0, .int .i64 0, .int .i64 0, .int .i64 0, .int .i64 0, .int .i64 0, .int .i64 0, .int .i64 0] 146) = w1 at *
  obtain ⟨Bh, hBh⟩ : ∃ Bh, w.heap.size = Bh := ⟨_, rfl⟩
  rw [hBh] at R1 B1 ⊢
  have HB := Lib.hid hBh
  clear hBh
  go_wp2
  go_loopg [8] 12 (fun n ix wr => ∃ q : Nat, n = 12 - q ∧ q ≤ 12 ∧ ix = .int .i64 q ∧ Hid (IW Bh 12 (fun t => if t < q then -1 else 0) wr) ∧ Hid (Below Bh w wr))
  case atStart => exact ⟨0, rfl, by decide, rfl, R1, B1⟩
  case round =>
    obtain ⟨q, hk, hj, rfl, R, B⟩ := hrel
    have HK := Lib.hid hk
    clear hk
    by_cases hlt : q < 12
    · have hlt' : (q : Int) < 12 := by omega
      have HLT := Lib.hid hlt
      have cq := R.out.2.1 q hlt
      have zq := R.out.2.2 q
      have lq := R.out.1
      have R2 := Lib.hid ((R.out.set q hlt (-1)).eqv (v := fun t => if t < q + 1 then -1 else 0) fun t ht => by
        unfold upd
        by_cases e : t = q
        · rw [if_pos e, if_pos (by omega)]
        · rw [if_neg e]
          dsimp only
          by_cases e2 : t < q
          · rw [if_pos e2, if_pos (by omega)]
          · rw [if_neg e2, if_neg (by omega)])
      have B2 := Lib.hid (B.out.setCell (p := ⟨Bh, q, none⟩) (Nat.le_refl Bh) (.int .i64 (-1)))
      clear hlt
      go_wp2
      go_roundg (12 - (q + 1))
      case measure => have := HK.out; have := HLT.out; omega
      case rel => exact ⟨q + 1, rfl, HLT.out, by simp, R2, B2⟩
    · obtain rfl : q = 12 := by omega
      have R0 : Hid (IW Bh 12 (sT os 0).sl wr) := Lib.hid (R.out.eqv fun t ht => by show (if t < 12 then (-1 : Int) else 0) = -1; rw [if_pos ht])
      clear hlt hj R1 B1 R HK
      go_wp2
      go_loopg [16, 3] os.length (fun n ix nw wr => ∃ j : Nat, n = os.length - j ∧ j ≤ os.length ∧ ix = .int .i64 j ∧ nw = .bool (decide (0 ≤ (sT os j).now)) ∧ Hid (IW Bh 12 (sT os j).sl wr) ∧ Hid (Below Bh w wr))
      case atStart => exact ⟨0, rfl, Nat.zero_le _, rfl, rfl, R0, B⟩
      case round =>
        obtain ⟨j, hk, hj, rfl, rfl, R, B⟩ := hrel
        have HK := Lib.hid hk
        clear hk
        by_cases hlt : j < os.length
        · have hlt' : (j : Int) < os.length := by omega
          have HLT := Lib.hid hlt
          have O := Lib.hid (H.out.keep (by rw [HB.out]; exact B.out))
          obtain ⟨g, off, rfl, hg, k0, k1, k2, k3, k4, k5, k6⟩ := ops_cells O.out hlt
          have hok := (C.out.g.a.l j hlt).k
          have hw := (C.out.g.a.l j hlt).w
          have hS := rS_k (opAt os j).k
          have SL := Lib.hid (C.out.sl hlt)
          have NW := Lib.hid (C.out.now hlt)
          have EX := Lib.hid (C.out.e j hlt).1
          have SB := Lib.hid (C.out.slb j (by omega))
          have IC : Hid (∀ t : Int, t.toNat < j → isC (sT os j) t = decide ((opAt os t.toNat).k = 1)) := Lib.hid fun t ht => C.out.isC (by omega) ht
          obtain ⟨o, ho⟩ : ∃ o, opAt os j = o := ⟨_, rfl⟩
          obtain ⟨k, ow, oa, ob, oc, okn, on⟩ := o
          rw [ho] at k0 k1 k2 k3 k4 k5 k6 hok hw hS SL NW EX
          have HO := Lib.hid ho
          dsimp only at k0 k1 k2 k3 k4 k5 k6 hok hw hS SL NW
          clear hlt ho
          have B2 := fun C t => Lib.hid (B.out.alloc (Nat.le_of_lt R.out.1) (.cells C t))
          have R2 := fun C t => Lib.hid (R.out.upto ((Upto.refl (fun _ => False) wr).alloc (.cells C t)) id)
          have lR := R.out.1
          by_cases h2 : k = 2
          · subst h2
            obtain ⟨x, rfl⟩ := Int.eq_ofNat_of_zero_le hw.1
            have hx : x < 12 := by have h1 := hS.1 (.inl rfl); have := hw.2.1; omega
            have hx' : (x : Int) < 12 := by omega
            have cx := R.out.2.1 x hx
            have zx := R.out.2.2 x
            have hn : (sT os (j + 1)).now = (sT os j).now := by rw [NW.out, if_neg (by decide), if_neg (by omega)]
            have hs : (sT os (j + 1)).sl = upd (sT os j).sl x (j : Int) := by rw [SL.out, if_pos rfl, Int.toNat_natCast]
            have HN2 := Lib.hid hn
            have HS2 := Lib.hid hs
            clear hw hS hok hn hs
            go_wp2
            go_roundg (os.length - (j + 1))
            case measure => have := HK.out; have := HLT.out; omega
            case rel => first | exact ⟨j + 1, rfl, HLT.out, by simp, by rw [HN2.out], Lib.hid (by rw [HS2.out]; exact (R2 _ _).out.set x hx _), Lib.hid ((B2 _ _).out.setCell (p := ⟨Bh, x, none⟩) (Nat.le_refl Bh) _)⟩ | exact ⟨j + 1, rfl, HLT.out, by simp, by rw [HN2.out], Lib.hid (by rw [HS2.out]; exact (R.out.set x hx _).upto ((Upto.refl (fun _ => False) _).alloc _) id), Lib.hid ((B.out.setCell (p := ⟨Bh, x, none⟩) (Nat.le_refl Bh) _).alloc (by simpa using Nat.le_of_lt R.out.1) _)⟩
          by_cases h3 : k = 3
          · subst h3
            obtain ⟨x, rfl⟩ := Int.eq_ofNat_of_zero_le hw.1
            have hx : x < 12 := by have h1 := hS.1 (.inr rfl); have := hw.2.1; omega
            have hx' : (x : Int) < 12 := by omega
            have cx := R.out.2.1 x hx
            have zx := R.out.2.2 x
            have hs : (sT os (j + 1)).sl = upd (sT os j).sl x oa := by rw [SL.out, if_neg (by decide), if_pos rfl, Int.toNat_natCast]
            have HS2 := Lib.hid hs
            by_cases h8 : x < 8
            · have h8' : (x : Int) < 8 := by omega
              have d8 : decide ((x : Int) < 8) = true := decide_eq_true h8'
              have hn : (sT os (j + 1)).now = (sT os j).now := by rw [NW.out, if_neg (by decide), if_neg (by omega)]
              have HN2 := Lib.hid hn
              clear hw hS hok hn hs h2
              cases hnb : decide (0 ≤ (sT os j).now) with
              | false =>
                have HNB := Lib.hid hnb
                clear hnb
                go_wp2
                go_roundg (os.length - (j + 1))
                case measure => have := HK.out; have := HLT.out; omega
                case rel => first | exact ⟨j + 1, rfl, HLT.out, by simp, by rw [HN2.out, HNB.out], Lib.hid (by rw [HS2.out]; exact (R2 _ _).out.set x hx _), Lib.hid ((B2 _ _).out.setCell (p := ⟨Bh, x, none⟩) (Nat.le_refl Bh) _)⟩ | exact ⟨j + 1, rfl, HLT.out, by simp, by rw [HN2.out, HNB.out], Lib.hid (by rw [HS2.out]; exact (R.out.set x hx _).upto ((Upto.refl (fun _ => False) _).alloc _) id), Lib.hid ((B.out.setCell (p := ⟨Bh, x, none⟩) (Nat.le_refl Bh) _).alloc (by simpa using Nat.le_of_lt R.out.1) _)⟩
              | true =>
                have HNB := Lib.hid hnb
                clear hnb
                go_wp2
                go_roundg (os.length - (j + 1))
                case measure => have := HK.out; have := HLT.out; omega
                case rel => first | exact ⟨j + 1, rfl, HLT.out, by simp, by rw [HN2.out, HNB.out], Lib.hid (by rw [HS2.out]; exact (R2 _ _).out.set x hx _), Lib.hid ((B2 _ _).out.setCell (p := ⟨Bh, x, none⟩) (Nat.le_refl Bh) _)⟩ | exact ⟨j + 1, rfl, HLT.out, by simp, by rw [HN2.out, HNB.out], Lib.hid (by rw [HS2.out]; exact (R.out.set x hx _).upto ((Upto.refl (fun _ => False) _).alloc _) id), Lib.hid ((B.out.setCell (p := ⟨Bh, x, none⟩) (Nat.le_refl Bh) _).alloc (by simpa using Nat.le_of_lt R.out.1) _)⟩
            · have h8' : ¬ (x : Int) < 8 := by omega
              have d8 : decide ((x : Int) < 8) = false := decide_eq_false h8'
              have hn : (sT os (j + 1)).now = -1 := by rw [NW.out, if_neg (by decide), if_pos ⟨rfl, by omega⟩]
              have HN2 := Lib.hid hn
              clear hw hS hok hn hs h2
              cases hnb : decide (0 ≤ (sT os j).now) with
              | false =>
                have HNB := Lib.hid hnb
                clear hnb
                go_wp2
                go_roundg (os.length - (j + 1))
                case measure => have := HK.out; have := HLT.out; omega
                case rel => first | exact ⟨j + 1, rfl, HLT.out, by simp, by rw [HN2.out]; rfl, Lib.hid (by rw [HS2.out]; exact (R2 _ _).out.set x hx _), Lib.hid ((B2 _ _).out.setCell (p := ⟨Bh, x, none⟩) (Nat.le_refl Bh) _)⟩ | exact ⟨j + 1, rfl, HLT.out, by simp, by rw [HN2.out]; rfl, Lib.hid (by rw [HS2.out]; exact (R.out.set x hx _).upto ((Upto.refl (fun _ => False) _).alloc _) id), Lib.hid ((B.out.setCell (p := ⟨Bh, x, none⟩) (Nat.le_refl Bh) _).alloc (by simpa using Nat.le_of_lt R.out.1) _)⟩
              | true =>
                have HNB := Lib.hid hnb
                clear hnb
                go_wp2
                go_roundg (os.length - (j + 1))
                case measure => have := HK.out; have := HLT.out; omega
                case rel => first | exact ⟨j + 1, rfl, HLT.out, by simp, by rw [HN2.out]; rfl, Lib.hid (by rw [HS2.out]; exact (R2 _ _).out.set x hx _), Lib.hid ((B2 _ _).out.setCell (p := ⟨Bh, x, none⟩) (Nat.le_refl Bh) _)⟩ | exact ⟨j + 1, rfl, HLT.out, by simp, by rw [HN2.out]; rfl, Lib.hid (by rw [HS2.out]; exact (R.out.set x hx _).upto ((Upto.refl (fun _ => False) _).alloc _) id), Lib.hid ((B.out.setCell (p := ⟨Bh, x, none⟩) (Nat.le_refl Bh) _).alloc (by simpa using Nat.le_of_lt R.out.1) _)⟩
          by_cases h17 : k = 17
          · subst h17
            have hex := EX.out.n rfl
            have hnb : decide (0 ≤ (sT os j).now) = false := decide_eq_false (by omega)
            rw [hnb]
            have hn : (sT os (j + 1)).now = (j : Int) := by rw [NW.out, if_pos rfl]
            have hs : (sT os (j + 1)).sl = (sT os j).sl := by rw [SL.out, if_neg (by decide), if_neg (by decide)]
            have HN2 := Lib.hid hn
            have HS2 := Lib.hid hs
            have q8 := R.out.2.1 8 (by decide)
            have q9 := R.out.2.1 9 (by decide)
            have q10 := R.out.2.1 10 (by decide)
            have q11 := R.out.2.1 11 (by decide)
            have HX := Lib.hid hex.2
            have b8 := SB.out 8
            obtain ⟨s8, e8⟩ : ∃ s8, (sT os j).sl 8 = s8 := ⟨_, rfl⟩
            obtain ⟨s9, e9⟩ : ∃ s9, (sT os j).sl 9 = s9 := ⟨_, rfl⟩
            obtain ⟨s10, e10⟩ : ∃ s10, (sT os j).sl 10 = s10 := ⟨_, rfl⟩
            obtain ⟨s11, e11⟩ : ∃ s11, (sT os j).sl 11 = s11 := ⟨_, rfl⟩
            rw [e8] at q8 b8 HX
            rw [e9] at q9 HX
            rw [e10] at q10 HX
            rw [e11] at q11 HX
            clear hw hS hok hn hs h2 h3 hex hnb e8 e9 e10 e11
            by_cases p8 : 0 ≤ s8
            case neg =>
              have d8 : decide (0 ≤ s8) = false := decide_eq_false p8
              go_wp2
              go_roundg (os.length - (j + 1))
              case measure => have := HK.out; have := HLT.out; omega
              case rel => exact ⟨j + 1, rfl, HLT.out, by simp, by rw [HN2.out, decide_eq_true (Int.natCast_nonneg j)], Lib.hid (by rw [HS2.out]; exact (R2 _ _).out), B2 _ _⟩
            have d8 : decide (0 ≤ s8) = true := decide_eq_true p8
            by_cases p9 : 0 ≤ s9
            case neg =>
              have d9 : decide (0 ≤ s9) = false := decide_eq_false p9
              go_wp2
              go_roundg (os.length - (j + 1))
              case measure => have := HK.out; have := HLT.out; omega
              case rel => exact ⟨j + 1, rfl, HLT.out, by simp, by rw [HN2.out, decide_eq_true (Int.natCast_nonneg j)], Lib.hid (by rw [HS2.out]; exact (R2 _ _).out), B2 _ _⟩
            have d9 : decide (0 ≤ s9) = true := decide_eq_true p9
            by_cases p10 : 0 ≤ s10
            case neg =>
              have d10 : decide (0 ≤ s10) = false := decide_eq_false p10
              go_wp2
              go_roundg (os.length - (j + 1))
              case measure => have := HK.out; have := HLT.out; omega
              case rel => exact ⟨j + 1, rfl, HLT.out, by simp, by rw [HN2.out, decide_eq_true (Int.natCast_nonneg j)], Lib.hid (by rw [HS2.out]; exact (R2 _ _).out), B2 _ _⟩
            have d10 : decide (0 ≤ s10) = true := decide_eq_true p10
            by_cases p11 : 0 ≤ s11
            case neg =>
              have d11 : decide (0 ≤ s11) = false := decide_eq_false p11
              go_wp2
              go_roundg (os.length - (j + 1))
              case measure => have := HK.out; have := HLT.out; omega
              case rel => exact ⟨j + 1, rfl, HLT.out, by simp, by rw [HN2.out, decide_eq_true (Int.natCast_nonneg j)], Lib.hid (by rw [HS2.out]; exact (R2 _ _).out), B2 _ _⟩
            have d11 : decide (0 ≤ s11) = true := decide_eq_true p11
            obtain ⟨t, rfl⟩ := Int.eq_ofNat_of_zero_le p8
            have tj : t < j := by omega
            have tn : t < os.length := by have := HLT.out; omega
            have tn' : (t : Int) < os.length := by omega
            have hk1 : ((opAt os t).k == 1) = false := by
              have h1 := IC.out (t : Int) (by rw [Int.toNat_natCast]; exact tj)
              rw [Int.toNat_natCast] at h1
              have h2 : ¬ isC (sT os j) (t : Int) = true := fun h => HX.out ⟨p8, p9, p10, p11, h⟩
              rw [h1] at h2
              simpa using h2
            obtain ⟨g2, off2, hgo, hg3, y0, _, _, _, _, _, _⟩ := ops_cells O.out tn
            obtain ⟨rfl, rfl⟩ : g = g2 ∧ off = off2 := by simpa using hgo
            go_wp2
            go_roundg (os.length - (j + 1))
            case measure => have := HK.out; have := HLT.out; omega
            case rel => exact ⟨j + 1, rfl, HLT.out, by simp, by rw [HN2.out, decide_eq_true (Int.natCast_nonneg j)], Lib.hid (by rw [HS2.out]; exact (R2 _ _).out), B2 _ _⟩
          have e2 : (k == 2) = false := by simp [h2]
          have e3 : (k == 3) = false := by simp [h3]
          have e17 : (k == 17) = false := by simp [h17]
          have hn : (sT os (j + 1)).now = (sT os j).now := by rw [NW.out, if_neg h17, if_neg (by omega)]
          have hs : (sT os (j + 1)).sl = (sT os j).sl := by rw [SL.out, if_neg h2, if_neg h3]
          have HN2 := Lib.hid hn
          have HS2 := Lib.hid hs
          clear hw hS hok hn hs h2 h3 h17
          go_wp2
          go_roundg (os.length - (j + 1))
          case measure => have := HK.out; have := HLT.out; omega
          case rel => exact ⟨j + 1, rfl, HLT.out, by simp, by rw [HN2.out], Lib.hid (by rw [HS2.out]; exact (R2 _ _).out), B2 _ _⟩
        · obtain rfl : j = os.length := by omega
          go_wp2
          go_ret
          exact ⟨rfl, by rw [HB.out]; exact B.out⟩
end Go.Proofs.Ytcjcmnnhmajocab.Ot
namespace Go.Proofs.Ytcjcmnnhmajocab.Ot
open Go.RowKit Kt Ic Me Ev
set_option linter.unusedVariables false
set_option linter.unusedSimpArgs false
variable {cnt : Int} {os : List Opr} {W W' : World}
theorem BR.new12 (w : World) (t : TypeId) : BR w.heap.size 12 (fun _ => false) (w.alloc (.cells #[.bool false, .bool false, .bool false, .bool false, .bool false, .bool false, .bool false, .bool false, .bool false, .bool false, .bool false, .bool false] t)) :=
  ⟨by simp, fun j hj => (cell_of_row _ _ _ _ _ _ (heap_alloc_new w _)).trans (by rcases (show j = 0 ∨ j = 1 ∨ j = 2 ∨ j = 3 ∨ j = 4 ∨ j = 5 ∨ j = 6 ∨ j = 7 ∨ j = 8 ∨ j = 9 ∨ j = 10 ∨ j = 11 by omega) with rfl | rfl | rfl | rfl | rfl | rfl | rfl | rfl | rfl | rfl | rfl | rfl <;> rfl), fun j => by simp⟩
theorem BR.eqv {B n : Nat} {u v : Nat → Bool} (h : BR B n u W) (e : ∀ j, j < n → u j = v j) : BR B n v W := ⟨h.1, fun j hj => by rw [h.2.1 j hj, e j hj], h.2.2⟩
theorem BR.clr {B : Nat} {u : Nat → Bool} (h : BR B 12 u W) : BR B 12 (fun _ => false) ((((((((((((W.setCell ⟨B, 0, none⟩ (.bool false)).setCell ⟨B, 1, none⟩ (.bool false)).setCell ⟨B, 2, none⟩ (.bool false)).setCell ⟨B, 3, none⟩ (.bool false)).setCell ⟨B, 4, none⟩ (.bool false)).setCell ⟨B, 5, none⟩ (.bool false)).setCell ⟨B, 6, none⟩ (.bool false)).setCell ⟨B, 7, none⟩ (.bool false)).setCell ⟨B, 8, none⟩ (.bool false)).setCell ⟨B, 9, none⟩ (.bool false)).setCell ⟨B, 10, none⟩ (.bool false)).setCell ⟨B, 11, none⟩ (.bool false)) :=
  BR.eqv ((((((((((((h.set 0 (by decide) false).set 1 (by decide) false).set 2 (by decide) false).set 3 (by decide) false).set 4 (by decide) false).set 5 (by decide) false).set 6 (by decide) false).set 7 (by decide) false).set 8 (by decide) false).set 9 (by decide) false).set 10 (by decide) false).set 11 (by decide) false) fun j hj => by
    rcases (show j = 0 ∨ j = 1 ∨ j = 2 ∨ j = 3 ∨ j = 4 ∨ j = 5 ∨ j = 6 ∨ j = 7 ∨ j = 8 ∨ j = 9 ∨ j = 10 ∨ j = 11 by omega) with rfl | rfl | rfl | rfl | rfl | rfl | rfl | rfl | rfl | rfl | rfl | rfl <;> rfl
theorem clr_upto (B : Nat) : Upto (fun i => i = B) W ((((((((((((W.setCell ⟨B, 0, none⟩ (.bool false)).setCell ⟨B, 1, none⟩ (.bool false)).setCell ⟨B, 2, none⟩ (.bool false)).setCell ⟨B, 3, none⟩ (.bool false)).setCell ⟨B, 4, none⟩ (.bool false)).setCell ⟨B, 5, none⟩ (.bool false)).setCell ⟨B, 6, none⟩ (.bool false)).setCell ⟨B, 7, none⟩ (.bool false)).setCell ⟨B, 8, none⟩ (.bool false)).setCell ⟨B, 9, none⟩ (.bool false)).setCell ⟨B, 10, none⟩ (.bool false)).setCell ⟨B, 11, none⟩ (.bool false)) := (((((((((((((Upto.refl (fun i => i = B) W).setCell (q := ⟨B, 0, none⟩) (.inl rfl) (.bool false)).setCell (q := ⟨B, 1, none⟩) (.inl rfl) (.bool false)).setCell (q := ⟨B, 2, none⟩) (.inl rfl) (.bool false)).setCell (q := ⟨B, 3, none⟩) (.inl rfl) (.bool false)).setCell (q := ⟨B, 4, none⟩) (.inl rfl) (.bool false)).setCell (q := ⟨B, 5, none⟩) (.inl rfl) (.bool false)).setCell (q := ⟨B, 6, none⟩) (.inl rfl) (.bool false)).setCell (q := ⟨B, 7, none⟩) (.inl rfl) (.bool false)).setCell (q := ⟨B, 8, none⟩) (.inl rfl) (.bool false)).setCell (q := ⟨B, 9, none⟩) (.inl rfl) (.bool false)).setCell (q := ⟨B, 10, none⟩) (.inl rfl) (.bool false)).setCell (q := ⟨B, 11, none⟩) (.inl rfl) (.bool false))
set_option maxRecDepth 100000 in
set_option maxHeartbeats 40000000 in
theorem slots_any (c : Cl cnt os) (ao : Option Addr) (cap : Nat) (w : World) (h : Ops os ao cap w) :
    Calls Try.prog 31 #[.slice ao os.length cap] w fun e w' => e = .returned (.bool true) ∧ Below w.heap.size w w' := by
  have hL : os.length ≤ 2048 := c.g.n1
  have hcap := h.1
  have H := Lib.hid h
  have C := Lib.hid c
  clear h c
  go_enter Try.func31, Try.ntmps31
  go_upto_region 3 with fail
  have R1 := Lib.hid ((IW.new w 146).upto ((Upto.refl (fun _ => False) _).alloc (.cells #[.bool false, .bool false, .bool false, .bool false, .bool false, .bool false, .bool false, .bool false, .bool false, .bool false, .bool false, .bool false] 147)) id)
  have T1 : Hid (BR (w.heap.size + 1) 12 (fun _ => false) ((w.alloc (.cells #[.int .i64 0, .int .i64 0, .int .i64 0, .int .i64 0, .int .i64 0, .int .i64 0, .int .i64 0, .int .i64 0, .int .i64 0, .int .i64 0, .int .i64 0, .int .i64 0] 146)).alloc (.cells #[.bool false, .bool false, .bool false, .bool false, .bool false, .bool false, .bool false, .bool false, .bool false, .bool false, .bool false, .bool false] 147))) := Lib.hid (by have h := BR.new12 (w.alloc (.cells #[.int .i64 0, .int .i64 0, .int .i64 0, .int .i64 0, .int .i64 0, .int .i64 0, .int .i64 0, .int .i64 0, .int .i64 0, .int .i64 0, .int .i64 0, .int .i64 0] 146)) 147; rw [World.size_alloc] at h; exact h)
  have B1 := Lib.hid (((Below.refl _ w).alloc (Nat.le_refl _) (.cells #[.int .i64 0, .int .i64 0, .int .i64 0, .int .i64 0, .int .i64 0, .int .i64 0, .int .i64 0, .int .i64 0, .int .i64 0, .int .i64 0, .int .i64 0, .int .i64 0] 146)).alloc (by rw [World.size_alloc]; omega) (.cells #[.bool false, .bool false, .bool false, .bool false, .bool false, .bool false, .bool false, .bool false, .bool false, .bool false, .bool false, .bool false] 147))
  generalize ((w.alloc (.cells #[.int .i64 0, .int .i64 0, .int .i64 0, .int .i64 0, .int .i64 0, .int .i64 0, .int .i64 0, .int .i64 0, .int .i64 0, .int .i64 0, .int .i64 0, .int .i64 0] 146)).alloc (.cells #[.bool false, .bool false, .bool false, .bool false, .bool false, .bool false, .bool false, .bool false, .bool false, .bool false, .bool false, .bool false] 147)) = w1 at *
  obtain ⟨Bh, hBh⟩ : ∃ Bh, w.heap.size = Bh := ⟨_, rfl⟩
  rw [hBh] at R1 T1 B1 ⊢
  have HB := Lib.hid hBh
  clear hBh
  go_wp2
  go_loopg [9] 12 (fun n ix wr => ∃ q : Nat, n = 12 - q ∧ q ≤ 12 ∧ ix = .int .i64 q ∧ Hid (IW Bh 12 (fun t => if t < q then -1 else 0) wr) ∧ Hid (BR (Bh + 1) 12 (fun _ => false) wr) ∧ Hid (Below Bh w wr))
  case atStart => exact ⟨0, rfl, by decide, rfl, R1, T1, B1⟩
  case round =>
    obtain ⟨q, hk, hj, rfl, R, T, B⟩ := hrel
    have HK := Lib.hid hk
    clear hk
    by_cases hlt : q < 12
    · have hlt' : (q : Int) < 12 := by omega
      have HLT := Lib.hid hlt
      have cq := R.out.2.1 q hlt
      have zq := R.out.2.2 q
      have lq := R.out.1
      have R2 := Lib.hid ((R.out.set q hlt (-1)).eqv (v := fun t => if t < q + 1 then -1 else 0) fun t ht => by
        unfold upd
        by_cases e : t = q
        · rw [if_pos e, if_pos (by omega)]
        · rw [if_neg e]
          dsimp only
          by_cases e2 : t < q
          · rw [if_pos e2, if_pos (by omega)]
          · rw [if_neg e2, if_neg (by omega)])
      have B2 := Lib.hid (B.out.setCell (p := ⟨Bh, q, none⟩) (Nat.le_refl Bh) (.int .i64 (-1)))
      have T2 := Lib.hid (T.out.upto ((Upto.refl (fun i => i = Bh) wr).setCell (q := ⟨Bh, q, none⟩) (.inl rfl) (.int .i64 (-1))) (by show ¬ Bh + 1 = Bh; omega))
      clear hlt
      go_wp2
      go_roundg (12 - (q + 1))
      case measure => have := HK.out; have := HLT.out; omega
      case rel => exact ⟨q + 1, rfl, HLT.out, by simp, R2, T2, B2⟩
    · obtain rfl : q = 12 := by omega
      have R0 : Hid (IW Bh 12 (sT os 0).sl wr) := Lib.hid (R.out.eqv fun t ht => by show (if t < 12 then (-1 : Int) else 0) = -1; rw [if_pos ht])
      clear hlt hj R1 B1 R HK
      go_wp2
      go_loopg [17] os.length (fun n ix wr => ∃ j : Nat, n = os.length - j ∧ j ≤ os.length ∧ ix = .int .i64 j ∧ Hid (IW Bh 12 (sT os j).sl wr) ∧ Hid (BR (Bh + 1) 12 (opF os j) wr) ∧ Hid (Below Bh w wr))
      case atStart => exact ⟨0, rfl, Nat.zero_le _, rfl, R0, T, B⟩
      case round =>
        obtain ⟨j, hk, hj, rfl, R, T, B⟩ := hrel
        have HK := Lib.hid hk
        clear hk
        by_cases hlt : j < os.length
        · have hlt' : (j : Int) < os.length := by omega
          have HLT := Lib.hid hlt
          have O := Lib.hid (H.out.keep (by rw [HB.out]; exact B.out))
          obtain ⟨g, off, rfl, hg, k0, k1, k2, k3, k4, k5, k6⟩ := ops_cells O.out hlt
          have hok := (C.out.g.a.l j hlt).k
          have hw := (C.out.g.a.l j hlt).w
          have hS := rS_k (opAt os j).k
          have SL := Lib.hid (C.out.sl hlt)
          have OF : Hid ((opAt os j).k = 3 → opF os j (opAt os j).w.toNat = false) := Lib.hid fun h => C.out.put hlt h
          have OS : Hid (opF os (j + 1) = if (opAt os j).k = 3 then upd (opF os j) (opAt os j).w.toNat true else if (opAt os j).k = 17 then (fun i => if 8 ≤ i then false else opF os j i) else if 9 ≤ (opAt os j).k ∧ (opAt os j).k ≤ 13 then (fun _ => false) else opF os j) := Lib.hid rfl
          have LV : Hid (∀ w : World, Calls Try.prog 77 #[.int .i64 (opAt os j).k] w fun e w' => e = .returned (.bool (lvs (opAt os j).k)) ∧ w = w') := Lib.hid (lleaves_any (opAt os j).k hok)
          have EX := Lib.hid (C.out.e j hlt).1
          have SB := Lib.hid (C.out.slb j (by omega))
          have IC : Hid (∀ t : Int, t.toNat < j → isC (sT os j) t = decide ((opAt os t.toNat).k = 1)) := Lib.hid fun t ht => C.out.isC (by omega) ht
          obtain ⟨o, ho⟩ : ∃ o, opAt os j = o := ⟨_, rfl⟩
          obtain ⟨k, ow, oa, ob, oc, okn, on⟩ := o
          rw [ho] at k0 k1 k2 k3 k4 k5 k6 hok hw hS SL OF OS LV EX
          have HO := Lib.hid ho
          dsimp only at k0 k1 k2 k3 k4 k5 k6 hok hw hS SL OF OS LV
          clear hlt ho
          have B2 := fun C t => Lib.hid (B.out.alloc (Nat.le_of_lt R.out.1) (.cells C t))
          have R2 := fun C t => Lib.hid (R.out.upto ((Upto.refl (fun _ => False) wr).alloc (.cells C t)) id)
          have T2 := fun C t => Lib.hid (T.out.upto ((Upto.refl (fun _ => False) wr).alloc (.cells C t)) id)
          have lR := R.out.1
          have lT := T.out.1
          by_cases h2 : k = 2
          · subst h2
            obtain ⟨x, rfl⟩ := Int.eq_ofNat_of_zero_le hw.1
            have hx : x < 12 := by have h1 := hS.1 (.inl rfl); have := hw.2.1; omega
            have hx' : (x : Int) < 12 := by omega
            have cx := R.out.2.1 x hx
            have zx := R.out.2.2 x
            have hs : (sT os (j + 1)).sl = upd (sT os j).sl x (j : Int) := by rw [SL.out, if_pos rfl, Int.toNat_natCast]
            have ho2 : opF os (j + 1) = opF os j := by rw [OS.out, if_neg (by decide), if_neg (by decide), if_neg (by decide)]
            have hg2 : (sT os j).sl x < 0 := by have := EX.out.g rfl; rwa [Int.toNat_natCast] at this
            have HS2 := Lib.hid hs
            have HO2 := Lib.hid ho2
            have nd : decide (0 ≤ (sT os j).sl x) = false := decide_eq_false (by omega)
            clear hw hS hok hs ho2
            go_wp2
            go_roundg (os.length - (j + 1))
            case measure => have := HK.out; have := HLT.out; omega
            case rel => first
              | exact ⟨j + 1, rfl, HLT.out, by simp, Lib.hid (by rw [HS2.out]; exact (R2 _ _).out.set x hx _), Lib.hid (by rw [HO2.out]; exact (T2 _ _).out.upto ((Upto.refl (fun i => i = Bh) _).setCell (q := ⟨Bh, x, none⟩) (.inl rfl) _) (by show ¬ Bh + 1 = Bh; omega)), Lib.hid ((B2 _ _).out.setCell (p := ⟨Bh, x, none⟩) (Nat.le_refl Bh) _)⟩
              | exact ⟨j + 1, rfl, HLT.out, by simp, Lib.hid (by rw [HS2.out]; exact (R.out.set x hx _).upto ((Upto.refl (fun _ => False) _).alloc _) id), Lib.hid (by rw [HO2.out]; exact T.out.upto (((Upto.refl (fun i => i = Bh) _).setCell (q := ⟨Bh, x, none⟩) (.inl rfl) _).alloc _) (by show ¬ Bh + 1 = Bh; omega)), Lib.hid ((B.out.setCell (p := ⟨Bh, x, none⟩) (Nat.le_refl Bh) _).alloc (by simpa using Nat.le_of_lt R.out.1) _)⟩
          by_cases h3 : k = 3
          · subst h3
            obtain ⟨x, rfl⟩ := Int.eq_ofNat_of_zero_le hw.1
            have hx : x < 12 := by have h1 := hS.1 (.inr rfl); have := hw.2.1; omega
            have hx' : (x : Int) < 12 := by omega
            have hs : (sT os (j + 1)).sl = upd (sT os j).sl x oa := by rw [SL.out, if_neg (by decide), if_pos rfl, Int.toNat_natCast]
            have ho2 : opF os (j + 1) = upd (opF os j) x true := by rw [OS.out, if_pos rfl, Int.toNat_natCast]
            have hne : (sT os j).sl x ≠ oa := by have := EX.out.p rfl; rwa [Int.toNat_natCast] at this
            have hop : opF os j x = false := by have := OF.out rfl; rwa [Int.toNat_natCast] at this
            have HS2 := Lib.hid hs
            have HO2 := Lib.hid ho2
            have ne1 : ((sT os j).sl x == oa) = false := by simpa using hne
            have R3 := R2 #[.int .i64 3, .int .i64 x, .int .i64 oa, .int .i64 ob, .int .i64 oc, .int .u32 okn, .int .i64 on] 31
            have T3 := T2 #[.int .i64 3, .int .i64 x, .int .i64 oa, .int .i64 ob, .int .i64 oc, .int .u32 okn, .int .i64 on] 31
            have B3 := B2 #[.int .i64 3, .int .i64 x, .int .i64 oa, .int .i64 ob, .int .i64 oc, .int .u32 okn, .int .i64 on] 31
            have OBX : OB wr.heap.size ⟨3, x, oa, ob, oc, okn, on⟩ (wr.alloc (.cells #[.int .i64 3, .int .i64 x, .int .i64 oa, .int .i64 ob, .int .i64 oc, .int .u32 okn, .int .i64 on] 31)) := OB.new wr _ 31
            clear hw hS hok hs ho2 h2 hne
            go_upto_region 16 with fail
            generalize wr.alloc (.cells #[.int .i64 3, .int .i64 x, .int .i64 oa, .int .i64 ob, .int .i64 oc, .int .u32 okn, .int .i64 on] 31) = w2 at *
            obtain ⟨b0, b1, b2, b3, b4, b5, b6⟩ := OBX.all
            have lx := OBX.1
            have cx := R3.out.2.1 x hx
            have zx := R3.out.2.2 x
            have ct := T3.out.2.1 x hx
            have zt := T3.out.2.2 x
            have l3 := R3.out.1
            have t3 := T3.out.1
            rw [hop] at ct
            clear k0 k1 k2 k3 k4 k5 k6 OBX B2 R2 T2 hop
            go_quiet (fail)
            go_wp2
            have V : Upto (fun _ => False) w2 (w2.drewN nq) := ⟨rfl, rfl, rfl, Nat.le_refl _, fun _ _ _ => rfl⟩
            go_roundg (os.length - (j + 1))
            case measure => have := HK.out; have := HLT.out; omega
            case rel => exact ⟨j + 1, rfl, HLT.out, by simp, Lib.hid (by rw [HS2.out]; exact ((R3.out.upto V id).set x hx oa).upto ((Upto.refl (fun i => i = Bh + 1) _).setCell (q := ⟨Bh + 1, x, none⟩) (.inl rfl) _) (by show ¬ Bh = Bh + 1; omega)), Lib.hid (by rw [HO2.out]; exact ((T3.out.upto V id).upto ((Upto.refl (fun i => i = Bh) _).setCell (q := ⟨Bh, x, none⟩) (.inl rfl) _) (by show ¬ Bh + 1 = Bh; omega)).set x hx true), Lib.hid (((B3.out.trans (V.below (Nat.le_of_lt l3) fun _ _ h => h.elim)).setCell (p := ⟨Bh, x, none⟩) (Nat.le_refl Bh) _).setCell (p := ⟨Bh + 1, x, none⟩) (by show Bh ≤ Bh + 1; omega) _)⟩
          by_cases h17 : k = 17
          · subst h17
            have hs : (sT os (j + 1)).sl = (sT os j).sl := by rw [SL.out, if_neg (by decide), if_neg (by decide)]
            have ho2 : opF os (j + 1) = fun i => if 8 ≤ i then false else opF os j i := by rw [OS.out, if_neg (by decide), if_pos rfl]
            have HS2 := Lib.hid hs
            have HO2 := Lib.hid ho2
            have R3 := R2 #[.int .i64 17, .int .i64 ow, .int .i64 oa, .int .i64 ob, .int .i64 oc, .int .u32 okn, .int .i64 on] 31
            have T3 := T2 #[.int .i64 17, .int .i64 ow, .int .i64 oa, .int .i64 ob, .int .i64 oc, .int .u32 okn, .int .i64 on] 31
            have B3 := B2 #[.int .i64 17, .int .i64 ow, .int .i64 oa, .int .i64 ob, .int .i64 oc, .int .u32 okn, .int .i64 on] 31
            have OBX : OB wr.heap.size ⟨17, ow, oa, ob, oc, okn, on⟩ (wr.alloc (.cells #[.int .i64 17, .int .i64 ow, .int .i64 oa, .int .i64 ob, .int .i64 oc, .int .u32 okn, .int .i64 on] 31)) := OB.new wr _ 31
            clear hw hS hok hs ho2 h2 h3
            go_upto_region 11 with fail
            generalize wr.alloc (.cells #[.int .i64 17, .int .i64 ow, .int .i64 oa, .int .i64 ob, .int .i64 oc, .int .u32 okn, .int .i64 on] 31) = w2 at *
            obtain ⟨b0, b1, b2, b3, b4, b5, b6⟩ := OBX.all
            have lx := OBX.1
            clear k0 k1 k2 k3 k4 k5 k6 OBX B2 R2 T2
            have T4 : Hid (BR (Bh + 1) 12 (fun i => if 8 ≤ i ∧ i < 8 + 0 then false else opF os j i) w2) := Lib.hid (T3.out.eqv fun t _ => by rw [if_neg (by omega)])
            go_wp2
            go_loopg [8] 4 (fun n ix wr2 => ∃ q : Nat, n = 4 - q ∧ q ≤ 4 ∧ ix = .int .i64 ((8 + q : Nat) : Int) ∧ Hid (IW Bh 12 (sT os j).sl wr2) ∧ Hid (BR (Bh + 1) 12 (fun i => if 8 ≤ i ∧ i < 8 + q then false else opF os j i) wr2) ∧ Hid (Below Bh w wr2))
            case atStart => exact ⟨0, rfl, by decide, rfl, R3, T4, B3⟩
            case round =>
              obtain ⟨q, hk2, hj2, rfl, R5, T5, B5⟩ := hrel
              have HK2 := Lib.hid hk2
              clear hk2
              by_cases hlt2 : q < 4
              · have h12 : ((8 + q : Nat) : Int) < 12 := by omega
                have HLT2 := Lib.hid hlt2
                have cq := T5.out.2.1 (8 + q) (by omega)
                have zq := T5.out.2.2 (8 + q)
                have lq := T5.out.1
                have T6 := Lib.hid ((T5.out.set (8 + q) (by omega) false).eqv (v := fun i => if 8 ≤ i ∧ i < 8 + (q + 1) then false else opF os j i) fun t ht => by
                  unfold upd
                  by_cases e : t = 8 + q
                  · rw [if_pos e, if_pos (by omega)]
                  · rw [if_neg e]
                    dsimp only
                    by_cases e2 : 8 ≤ t ∧ t < 8 + q
                    · rw [if_pos e2, if_pos (by omega)]
                    · rw [if_neg e2, if_neg (by omega)])
                have B6 := Lib.hid (B5.out.setCell (p := ⟨Bh + 1, 8 + q, none⟩) (by show Bh ≤ Bh + 1; omega) (.bool false))
                have R6 := Lib.hid (R5.out.upto ((Upto.refl (fun i => i = Bh + 1) wr).setCell (q := ⟨Bh + 1, 8 + q, none⟩) (.inl rfl) (.bool false)) (by show ¬ Bh = Bh + 1; omega))
                clear hlt2
                go_wp2
                go_roundg (4 - (q + 1))
                case measure => have := HK2.out; have := HLT2.out; omega
                case rel => exact ⟨q + 1, rfl, HLT2.out, by simp; omega, R6, T6, B6⟩
              · obtain rfl : q = 4 := by omega
                have T7 : Hid (BR (Bh + 1) 12 (opF os (j + 1)) wr) := Lib.hid (T5.out.eqv fun t ht => by
                  rw [HO2.out]
                  dsimp only
                  by_cases e : 8 ≤ t
                  · rw [if_pos (by omega), if_pos e]
                  · rw [if_neg (by omega), if_neg e])
                clear hlt2 hj2
                go_wp2
                go_roundg (os.length - (j + 1))
                case measure => have := HK.out; have := HLT.out; omega
                case rel => exact ⟨j + 1, rfl, HLT.out, by simp, Lib.hid (by rw [HS2.out]; exact R5.out), T7, B5⟩
          by_cases h9 : 9 ≤ k ∧ k ≤ 13
          · have e2 : (k == 2) = false := by simp [h2]
            have e3 : (k == 3) = false := by simp [h3]
            have e17 : (k == 17) = false := by simp [h17]
            have hs : (sT os (j + 1)).sl = (sT os j).sl := by rw [SL.out, if_neg h2, if_neg h3]
            have ho2 : opF os (j + 1) = fun _ => false := by rw [OS.out, if_neg h3, if_neg h17, if_pos h9]
            have HS2 := Lib.hid hs
            have HO2 := Lib.hid ho2
            have el : lvs k = true := decide_eq_true h9
            rw [el] at LV
            have R3 := R2 #[.int .i64 k, .int .i64 ow, .int .i64 oa, .int .i64 ob, .int .i64 oc, .int .u32 okn, .int .i64 on] 31
            have T3 := T2 #[.int .i64 k, .int .i64 ow, .int .i64 oa, .int .i64 ob, .int .i64 oc, .int .u32 okn, .int .i64 on] 31
            have B3 := B2 #[.int .i64 k, .int .i64 ow, .int .i64 oa, .int .i64 ob, .int .i64 oc, .int .u32 okn, .int .i64 on] 31
            have OBX : OB wr.heap.size ⟨k, ow, oa, ob, oc, okn, on⟩ (wr.alloc (.cells #[.int .i64 k, .int .i64 ow, .int .i64 oa, .int .i64 ob, .int .i64 oc, .int .u32 okn, .int .i64 on] 31)) := OB.new wr _ 31
            clear hw hS hok hs ho2 h2 h3 h17 h9 el
            go_upto_region 11 with fail
            generalize wr.alloc (.cells #[.int .i64 k, .int .i64 ow, .int .i64 oa, .int .i64 ob, .int .i64 oc, .int .u32 okn, .int .i64 on] 31) = w2 at *
            obtain ⟨b0, b1, b2, b3, b4, b5, b6⟩ := OBX.all
            have lx := OBX.1
            clear k0 k1 k2 k3 k4 k5 k6 OBX B2 R2 T2
            have t0 := T3.out.2.1 0 (by decide)
            have t1 := T3.out.2.1 1 (by decide)
            have t2 := T3.out.2.1 2 (by decide)
            have t3 := T3.out.2.1 3 (by decide)
            have t4 := T3.out.2.1 4 (by decide)
            have t5 := T3.out.2.1 5 (by decide)
            have t6 := T3.out.2.1 6 (by decide)
            have t7 := T3.out.2.1 7 (by decide)
            have t8 := T3.out.2.1 8 (by decide)
            have t9 := T3.out.2.1 9 (by decide)
            have t10 := T3.out.2.1 10 (by decide)
            have t11 := T3.out.2.1 11 (by decide)
            have tz := T3.out.2.2
            have tl := T3.out.1
            go_wp2_with (go_at_call 77; refine (LV.out _).mono ?_; rintro e w3 ⟨rfl, rfl⟩)
            have R7 := Lib.hid (HS2.out.symm ▸ R3.out.upto (clr_upto (Bh + 1)) (by show ¬ Bh = Bh + 1; omega))
            have T7 := Lib.hid (HO2.out.symm ▸ T3.out.clr)
            have B7 := Lib.hid (B3.out.trans ((clr_upto (W := w2) (Bh + 1)).below (B := Bh) (Nat.le_of_lt R3.out.1) fun i hi e => by omega))
            go_roundg (os.length - (j + 1))
            case measure => have := HK.out; have := HLT.out; omega
            case rel => exact ⟨j + 1, rfl, HLT.out, by simp, R7, T7, B7⟩
          have e2 : (k == 2) = false := by simp [h2]
          have e3 : (k == 3) = false := by simp [h3]
          have e17 : (k == 17) = false := by simp [h17]
          have hs : (sT os (j + 1)).sl = (sT os j).sl := by rw [SL.out, if_neg h2, if_neg h3]
          have ho2 : opF os (j + 1) = opF os j := by rw [OS.out, if_neg h3, if_neg h17, if_neg h9]
          have HS2 := Lib.hid hs
          have HO2 := Lib.hid ho2
          have el : lvs k = false := decide_eq_false h9
          rw [el] at LV
          clear hw hS hok hs ho2 h2 h3 h17 h9 el
          go_wp2_with (go_at_call 77; refine (LV.out _).mono ?_; rintro e w3 ⟨rfl, rfl⟩)
          go_roundg (os.length - (j + 1))
          case measure => have := HK.out; have := HLT.out; omega
          case rel => exact ⟨j + 1, rfl, HLT.out, by simp, Lib.hid (by rw [HS2.out]; exact (R2 _ _).out), Lib.hid (by rw [HO2.out]; exact (T2 _ _).out), B2 _ _⟩
        · obtain rfl : j = os.length := by omega
          go_wp2
          go_ret
          exact ⟨rfl, by rw [HB.out]; exact B.out⟩
end Go.Proofs.Ytcjcmnnhmajocab.Ot
