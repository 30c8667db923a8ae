/- crossgrainlaw2.folded. -/
import Derived.Test.YtcjcmnnhmajocabPobk
namespace Go.Proofs.Ytcjcmnnhmajocab.Ot
open Go.RowKit Kt Ic Me Ev
set_option linter.unusedVariables false
set_option linter.unusedSimpArgs false
variable {cnt : Int} {os : List Opr} {W W' : World}
/-- are so many of them numbers? -/
def alF (os : List Opr) (xs : List Int) (b : Bool) : Nat → Bool
  | 0 => b
  | m + 1 => alF os xs b m && ((opAt os (xs.getD m 0).toNat).k == 1)
theorem alF_no {xs : List Int} {b : Bool} {t : Nat} (h : ((opAt os (xs.getD t 0).toNat).k == 1) = false) : ∀ n, t < n → alF os xs b n = false
  | 0, ht => absurd ht (Nat.not_lt_zero _)
  | n + 1, ht => by
    show (alF os xs b n && _) = false
    by_cases e : t = n
    · rw [← e, h, Bool.and_false]
    · rw [alF_no h n (by omega), Bool.false_and]
theorem alF_f {xs : List Int} : ∀ n, alF os xs false n = false
  | 0 => rfl
  | n + 1 => by show (alF os xs false n && _) = false; rw [alF_f n, Bool.false_and]
theorem all_no (c : Cl cnt os) {j : Nat} (hj : j < os.length) : alF os (tkl (opAt os j)) (pur (opAt os j).k && !((opAt os j).k == 1)) (tkl (opAt os j)).length = false := by
  have hk := (c.g.a.l j hj).k
  cases hp : pur (opAt os j).k with
  | false => rw [Bool.false_and]; exact alF_f _
  | true =>
    by_cases h1 : (opAt os j).k = 1
    · rw [h1]; exact alF_f _
    · obtain ⟨t, ht, hr, hne⟩ := c.all hj hp h1
      obtain ⟨h2, h3⟩ := tkl_at hk ht hr
      exact alF_no (t := t) (by rw [h3]; simpa using hne) _ h2
set_option maxRecDepth 100000 in
set_option maxHeartbeats 40000000 in
theorem folded_any (c : Cl cnt os) (ao : Option Addr) (cap : Nat) (w : World) (h : Ops os ao cap w) :
    Calls Try.prog 29 #[.slice ao os.length cap] w fun e w' => e = .returned (.bool true) ∧ Below w.heap.size w w' := by
  have hL : os.length ≤ 2048 := c.g.n1
  have hcap := h.1
  have H := Lib.hid h
  have C := Lib.hid c
  clear h c
  go_enter Try.func29, Try.ntmps29
  go_wp2
  go_loopg [11] os.length (fun n ix wr => ∃ j : Nat, n = os.length - j ∧ j ≤ os.length ∧ ix = .int .i64 j ∧ Hid (Below w.heap.size w wr))
  case atStart => exact ⟨0, rfl, Nat.zero_le _, rfl, Below.refl _ _⟩
  case round =>
    obtain ⟨j, hk, hj, rfl, B⟩ := hrel
    have HK := Lib.hid hk
    clear hk
    by_cases hlt : j < os.length
    · have hlt' : (j : Int) < os.length := by omega
      have HLT := Lib.hid hlt
      have O := Lib.hid (H.out.keep B.out)
      obtain ⟨g, off, rfl, hg, k0, k1, k2, k3, k4, k5, k6⟩ := ops_cells O.out hlt
      have hok := (C.out.g.a.l j hlt).k
      have HOK := Lib.hid hok
      have TI : Hid (∀ t, t < (tkl (opAt os j)).length → 0 ≤ (tkl (opAt os j)).getD t 0 ∧ (tkl (opAt os j)).getD t 0 < os.length) := Lib.hid fun t ht => by have := take_in C.out hlt ht; omega
      have TF : Hid (0 < (tkl (opAt os j)).length → (tkl (opAt os j)).getD 0 0 = (opAt os j).a) := Lib.hid fun ht => (tkl_ar hok ht).2.2
      have AN := Lib.hid (all_no C.out hlt)
      have FS : Hid (0 < (tkl (opAt os j)).length → (opAt os j).k = 6 ∨ (opAt os j).k = 12 ∨ (opAt os j).k = 13 → (opAt os (opAt os j).a.toNat).k ≠ 1) := Lib.hid fun _ hk => C.out.fst hlt hk
      have T3 : (tkl (opAt os j)).length ≤ 3 := by rcases tkl_kinds hok with ⟨e, _⟩ | ⟨e, _⟩ | ⟨e, _⟩ | ⟨e, _⟩ <;> rw [e] <;> simp
      have TK : Hid (∀ w : World, Calls Try.prog 74 #[.agg #[.int .i64 (opAt os j).k, .int .i64 (opAt os j).w, .int .i64 (opAt os j).a, .int .i64 (opAt os j).b, .int .i64 (opAt os j).c, .int .u32 (opAt os j).kn, .int .i64 (opAt os j).n]] w fun e w' => (∃ ao cap, e = .returned (.slice ao (tkl (opAt os j)).length cap) ∧ Ns (tkl (opAt os j)) ao cap w' ∧ ∀ a, ao = some a → w.heap.size ≤ a.block) ∧ Below w.heap.size w w') := Lib.hid (ltakes_any (opAt os j) hok)
      have PU : Hid (∀ w : World, Calls Try.prog 76 #[.int .i64 (opAt os j).k] w fun e w' => e = .returned (.bool (pur (opAt os j).k)) ∧ w = w') := Lib.hid (lpure_any (opAt os j).k hok)
      generalize tkl (opAt os j) = xs at *
      obtain ⟨o, ho⟩ : ∃ o, opAt os j = o := ⟨_, rfl⟩
      obtain ⟨k, ow, oa, ob, oc, okn, on⟩ := o
      rw [ho] at k0 k1 k2 k3 k4 k5 k6 TF AN FS TK PU HOK
      have HO := Lib.hid ho
      clear hlt ho hok
      dsimp only at k0 k1 k2 k3 k4 k5 k6 TF AN FS TK PU HOK
      obtain ⟨nl, hnl⟩ : ∃ nl, xs.length = nl := ⟨_, rfl⟩
      rw [hnl] at TI TF AN FS T3 TK
      have HNL := Lib.hid hnl
      clear hnl
      go_upto_region 4 with fail
      have OBX : OB wr.heap.size ⟨k, ow, oa, ob, oc, okn, on⟩ (wr.alloc (.cells #[.int .i64 k, .int .i64 ow, .int .i64 oa, .int .i64 ob, .int .i64 oc, .int .u32 okn, .int .i64 on] 31)) := OB.new wr _ 31
      have B2 := Lib.hid (B.out.alloc B.out.size (.cells #[.int .i64 k, .int .i64 ow, .int .i64 oa, .int .i64 ob, .int .i64 oc, .int .u32 okn, .int .i64 on] 31))
      have O2 := Lib.hid (O.out.keep ((Below.refl _ wr).alloc (Nat.le_refl _) (.cells #[.int .i64 k, .int .i64 ow, .int .i64 oa, .int .i64 ob, .int .i64 oc, .int .u32 okn, .int .i64 on] 31)))
      change Code.wp _ _ _ _ (wr.alloc (.cells #[.int .i64 k, .int .i64 ow, .int .i64 oa, .int .i64 ob, .int .i64 oc, .int .u32 okn, .int .i64 on] 31))
      generalize wr.alloc (.cells #[.int .i64 k, .int .i64 ow, .int .i64 oa, .int .i64 ob, .int .i64 oc, .int .u32 okn, .int .i64 on] 31) = w2 at *
      obtain ⟨b0, b1, b2, b3, b4, b5, b6⟩ := OBX.all
      have lx := OBX.1
      have OBH := Lib.hid OBX
      obtain ⟨Bx, hBx⟩ : ∃ Bx, wr.heap.size = Bx := ⟨_, rfl⟩
      rw [hBx] at OBX OBH b0 b1 b2 b3 b4 b5 b6 lx ⊢
      clear k0 k1 k2 k3 k4 k5 k6 OBX hBx hg
      by_cases hn : 0 < nl
      · have ha : 0 ≤ oa ∧ oa < os.length := by have h1 := TI.out 0 hn; have h2 := TF.out hn; rw [h2] at h1; exact h1
        obtain ⟨t, rfl⟩ := Int.eq_ofNat_of_zero_le ha.1
        have tn : t < os.length := by omega
        have tn' : (t : Int) < os.length := by omega
        have hn' : (0 : Int) < nl := by omega
        have dn : decide ((0 : Int) < nl) = true := decide_eq_true hn'
        have FS2 : Hid (k = 6 ∨ k = 12 ∨ k = 13 → (opAt os t).k ≠ 1) := Lib.hid fun h => by have := FS.out hn h; rwa [Int.toNat_natCast] at this
        go_upto_region 5 with (go_at_call 74; refine (TK.out _).mono ?_; rintro e w3 ⟨⟨at1, ct1, rfl, ns1, _⟩, b7⟩; have B3 := Lib.hid (B2.out.trans (b7.mono B2.out.size)); have O3 := Lib.hid (O2.out.keep b7); have OB3 := Lib.hid (OBH.out.upto (Upto.of_below (S := fun _ => False) b7) id); obtain ⟨d0, d1, d2, d3, d4, d5, d6⟩ := OB3.out.all; have lx3 := OB3.out.1; obtain ⟨g2, off2, hgo, hg3, q0, _, _, _, _, _, _⟩ := ops_cells O3.out tn; obtain ⟨rfl, rfl⟩ : g = g2 ∧ off = off2 := by simpa using hgo)
        obtain ⟨kb, hkb⟩ : ∃ kb, ((opAt os t).k == 1) = kb := ⟨_, rfl⟩
        rw [hkb]
        clear q0 b0 b1 b2 b3 b4 b5 b6
        cases kb with
        | true =>
          have hk1 : (opAt os t).k = 1 := by simpa using hkb
          have e6 : (k == 6) = false := by simp; intro h; exact FS2.out (.inl h) hk1
          have e12 : (k == 12) = false := by simp; intro h; exact FS2.out (.inr (.inl h)) hk1
          have e13 : (k == 13) = false := by simp; intro h; exact FS2.out (.inr (.inr h)) hk1
          clear hk1 hkb
          go_upto_region 7 with fail
          clear e6 e12 e13
          cases hp : pur k with
          | false =>
            rw [hp] at PU
            go_upto_region 8 with (go_at_call 76; refine (PU.out _).mono ?_; rintro e w4 ⟨rfl, rfl⟩)
            have AN3 : Hid (alF os xs false nl = false) := Lib.hid (by have h := AN.out; rw [hp, Bool.false_and] at h; exact h)
            go_wp2_with (go_at_call 74; refine (TK.out _).mono ?_; rintro e w5 ⟨⟨at2, ct2, rfl, ns2, _⟩, b8⟩; have B5 := Lib.hid (B3.out.trans (b8.mono B3.out.size)); have O5 := Lib.hid (O3.out.keep b8); have OB5 := Lib.hid (OB3.out.upto (Upto.of_below (S := fun _ => False) b8) id); have NS := Lib.hid ns2)
            have hc2 := ns2.1
            have HNL2 := HNL.out
            rw [HNL2] at hc2
            clear ns2 b8 HNL2 d0 d1 d2 d3 d4 d5 d6
            go_loopg [55, 6] nl (fun n ix al wr => ∃ m : Nat, n = nl - m ∧ m ≤ nl ∧ ix = .int .i64 m ∧ al = .bool (alF os xs false m) ∧ Hid (Upto (fun _ => False) w5 wr))
            case atStart => exact ⟨0, rfl, Nat.zero_le _, rfl, rfl, Upto.refl _ _⟩
            case round =>
              obtain ⟨m, hk, hm, rfl, rfl, U⟩ := hrel
              have HK2 := Lib.hid hk
              clear hk
              by_cases hml : m < nl
              · have hml' : (m : Int) < nl := by omega
                have HML := Lib.hid hml
                have O6 := O5.out.keep (U.out.below (Nat.le_refl _) fun _ _ h => h.elim)
                obtain ⟨ga, rfl, hga, hca⟩ := NS.out.2 (by have := HNL.out; omega)
                have hx : xs[m]? = some (xs.getD m 0) := by rw [List.getD_eq_getElem?_getD, List.getElem?_eq_getElem (by have := HNL.out; omega)]; rfl
                have cx : wr.cell? ⟨ga, m, none⟩ = some (.int .i64 (xs.getD m 0)) := (U.out.cell (q := ⟨ga, m, none⟩) hga id).trans (hca m _ hx)
                have lga : ga < wr.heap.size := Nat.lt_of_lt_of_le hga U.out.size
                obtain ⟨t0, t1⟩ := TI.out m hml
                have e1 : alF os xs false (m + 1) = (alF os xs false m && ((opAt os (xs.getD m 0).toNat).k == 1)) := rfl
                generalize xs.getD m 0 = xx at *
                obtain ⟨x, rfl⟩ := Int.eq_ofNat_of_zero_le t0
                have xn : x < os.length := by omega
                have xn' : (x : Int) < os.length := by omega
                obtain ⟨g4, off4, hgo4, hg4, y0, _, _, _, _, _, _⟩ := ops_cells O6 xn
                obtain ⟨rfl, rfl⟩ : g = g4 ∧ off = off4 := by simpa using hgo4
                rw [Int.toNat_natCast] at e1
                have E1 := Lib.hid e1
                clear hx t0 t1 hca O6 hgo4 e1 hml
                cases ha6 : alF os xs false m with
                | false =>
                  rw [ha6] at E1
                  go_wp2
                  go_roundg (nl - (m + 1))
                  case measure => have := HK2.out; have := HML.out; omega
                  case rel => exact ⟨m + 1, rfl, HML.out, by simp, by rw [E1.out]; rfl, U⟩
                | true =>
                  rw [ha6] at E1
                  go_wp2
                  go_roundg (nl - (m + 1))
                  case measure => have := HK2.out; have := HML.out; omega
                  case rel => exact ⟨m + 1, rfl, HML.out, by simp, by rw [E1.out]; rfl, U⟩
              · obtain rfl : m = nl := by omega
                rw [AN3.out]
                go_wp2
                go_roundg (os.length - (j + 1))
                case measure => have := HK.out; have := HLT.out; omega
                case rel => exact ⟨j + 1, rfl, HLT.out, by simp, Lib.hid (B5.out.trans (U.out.below B5.out.size fun _ _ h => h.elim))⟩
          | true =>
            rw [hp] at PU
            by_cases h1 : k = 1
            · subst h1
              go_upto_region 8 with (go_at_call 76; refine (PU.out _).mono ?_; rintro e w4 ⟨rfl, rfl⟩)
              have AN3 : Hid (alF os xs false nl = false) := Lib.hid (AN.out)
              go_wp2_with (go_at_call 74; refine (TK.out _).mono ?_; rintro e w5 ⟨⟨at2, ct2, rfl, ns2, _⟩, b8⟩; have B5 := Lib.hid (B3.out.trans (b8.mono B3.out.size)); have O5 := Lib.hid (O3.out.keep b8); have OB5 := Lib.hid (OB3.out.upto (Upto.of_below (S := fun _ => False) b8) id); have NS := Lib.hid ns2)
              have hc2 := ns2.1
              have HNL2 := HNL.out
              rw [HNL2] at hc2
              clear ns2 b8 HNL2 d0 d1 d2 d3 d4 d5 d6
              go_loopg [55, 6] nl (fun n ix al wr => ∃ m : Nat, n = nl - m ∧ m ≤ nl ∧ ix = .int .i64 m ∧ al = .bool (alF os xs false m) ∧ Hid (Upto (fun _ => False) w5 wr))
              case atStart => exact ⟨0, rfl, Nat.zero_le _, rfl, rfl, Upto.refl _ _⟩
              case round =>
                obtain ⟨m, hk, hm, rfl, rfl, U⟩ := hrel
                have HK2 := Lib.hid hk
                clear hk
                by_cases hml : m < nl
                · have hml' : (m : Int) < nl := by omega
                  have HML := Lib.hid hml
                  have O6 := O5.out.keep (U.out.below (Nat.le_refl _) fun _ _ h => h.elim)
                  obtain ⟨ga, rfl, hga, hca⟩ := NS.out.2 (by have := HNL.out; omega)
                  have hx : xs[m]? = some (xs.getD m 0) := by rw [List.getD_eq_getElem?_getD, List.getElem?_eq_getElem (by have := HNL.out; omega)]; rfl
                  have cx : wr.cell? ⟨ga, m, none⟩ = some (.int .i64 (xs.getD m 0)) := (U.out.cell (q := ⟨ga, m, none⟩) hga id).trans (hca m _ hx)
                  have lga : ga < wr.heap.size := Nat.lt_of_lt_of_le hga U.out.size
                  obtain ⟨t0, t1⟩ := TI.out m hml
                  have e1 : alF os xs false (m + 1) = (alF os xs false m && ((opAt os (xs.getD m 0).toNat).k == 1)) := rfl
                  generalize xs.getD m 0 = xx at *
                  obtain ⟨x, rfl⟩ := Int.eq_ofNat_of_zero_le t0
                  have xn : x < os.length := by omega
                  have xn' : (x : Int) < os.length := by omega
                  obtain ⟨g4, off4, hgo4, hg4, y0, _, _, _, _, _, _⟩ := ops_cells O6 xn
                  obtain ⟨rfl, rfl⟩ : g = g4 ∧ off = off4 := by simpa using hgo4
                  rw [Int.toNat_natCast] at e1
                  have E1 := Lib.hid e1
                  clear hx t0 t1 hca O6 hgo4 e1 hml
                  cases ha6 : alF os xs false m with
                  | false =>
                    rw [ha6] at E1
                    go_wp2
                    go_roundg (nl - (m + 1))
                    case measure => have := HK2.out; have := HML.out; omega
                    case rel => exact ⟨m + 1, rfl, HML.out, by simp, by rw [E1.out]; rfl, U⟩
                  | true =>
                    rw [ha6] at E1
                    go_wp2
                    go_roundg (nl - (m + 1))
                    case measure => have := HK2.out; have := HML.out; omega
                    case rel => exact ⟨m + 1, rfl, HML.out, by simp, by rw [E1.out]; rfl, U⟩
                · obtain rfl : m = nl := by omega
                  rw [AN3.out]
                  go_wp2
                  go_roundg (os.length - (j + 1))
                  case measure => have := HK.out; have := HLT.out; omega
                  case rel => exact ⟨j + 1, rfl, HLT.out, by simp, Lib.hid (B5.out.trans (U.out.below B5.out.size fun _ _ h => h.elim))⟩
            · have e1 : (k == 1) = false := by simp [h1]
              have HE1 := Lib.hid e1
              go_upto_region 8 with (go_at_call 76; refine (PU.out _).mono ?_; rintro e w4 ⟨rfl, rfl⟩)
              have AN3 : Hid (alF os xs true nl = false) := Lib.hid (by have h := AN.out; rw [hp, HE1.out, Bool.not_false, Bool.and_true] at h; exact h)
              go_wp2_with (go_at_call 74; refine (TK.out _).mono ?_; rintro e w5 ⟨⟨at2, ct2, rfl, ns2, _⟩, b8⟩; have B5 := Lib.hid (B3.out.trans (b8.mono B3.out.size)); have O5 := Lib.hid (O3.out.keep b8); have OB5 := Lib.hid (OB3.out.upto (Upto.of_below (S := fun _ => False) b8) id); have NS := Lib.hid ns2)
              have hc2 := ns2.1
              have HNL2 := HNL.out
              rw [HNL2] at hc2
              clear ns2 b8 HNL2 d0 d1 d2 d3 d4 d5 d6
              have e2 : (k != 1) = true := by simp [h1]
              rw [e2]
              go_loopg [55, 6] nl (fun n ix al wr => ∃ m : Nat, n = nl - m ∧ m ≤ nl ∧ ix = .int .i64 m ∧ al = .bool (alF os xs true m) ∧ Hid (Upto (fun _ => False) w5 wr))
              case atStart => exact ⟨0, rfl, Nat.zero_le _, rfl, rfl, Upto.refl _ _⟩
              case round =>
                obtain ⟨m, hk, hm, rfl, rfl, U⟩ := hrel
                have HK2 := Lib.hid hk
                clear hk
                by_cases hml : m < nl
                · have hml' : (m : Int) < nl := by omega
                  have HML := Lib.hid hml
                  have O6 := O5.out.keep (U.out.below (Nat.le_refl _) fun _ _ h => h.elim)
                  obtain ⟨ga, rfl, hga, hca⟩ := NS.out.2 (by have := HNL.out; omega)
                  have hx : xs[m]? = some (xs.getD m 0) := by rw [List.getD_eq_getElem?_getD, List.getElem?_eq_getElem (by have := HNL.out; omega)]; rfl
                  have cx : wr.cell? ⟨ga, m, none⟩ = some (.int .i64 (xs.getD m 0)) := (U.out.cell (q := ⟨ga, m, none⟩) hga id).trans (hca m _ hx)
                  have lga : ga < wr.heap.size := Nat.lt_of_lt_of_le hga U.out.size
                  obtain ⟨t0, t1⟩ := TI.out m hml
                  have e1 : alF os xs true (m + 1) = (alF os xs true m && ((opAt os (xs.getD m 0).toNat).k == 1)) := rfl
                  generalize xs.getD m 0 = xx at *
                  obtain ⟨x, rfl⟩ := Int.eq_ofNat_of_zero_le t0
                  have xn : x < os.length := by omega
                  have xn' : (x : Int) < os.length := by omega
                  obtain ⟨g4, off4, hgo4, hg4, y0, _, _, _, _, _, _⟩ := ops_cells O6 xn
                  obtain ⟨rfl, rfl⟩ : g = g4 ∧ off = off4 := by simpa using hgo4
                  rw [Int.toNat_natCast] at e1
                  have E1 := Lib.hid e1
                  clear hx t0 t1 hca O6 hgo4 e1 hml
                  cases ha6 : alF os xs true m with
                  | false =>
                    rw [ha6] at E1
                    go_wp2
                    go_roundg (nl - (m + 1))
                    case measure => have := HK2.out; have := HML.out; omega
                    case rel => exact ⟨m + 1, rfl, HML.out, by simp, by rw [E1.out]; rfl, U⟩
                  | true =>
                    rw [ha6] at E1
                    go_wp2
                    go_roundg (nl - (m + 1))
                    case measure => have := HK2.out; have := HML.out; omega
                    case rel => exact ⟨m + 1, rfl, HML.out, by simp, by rw [E1.out]; rfl, U⟩
                · obtain rfl : m = nl := by omega
                  rw [AN3.out]
                  go_wp2
                  go_roundg (os.length - (j + 1))
                  case measure => have := HK.out; have := HLT.out; omega
                  case rel => exact ⟨j + 1, rfl, HLT.out, by simp, Lib.hid (B5.out.trans (U.out.below B5.out.size fun _ _ h => h.elim))⟩
        | false =>
          clear hkb
          go_upto_region 7 with fail
          cases hp : pur k with
          | false =>
            rw [hp] at PU
            go_upto_region 8 with (go_at_call 76; refine (PU.out _).mono ?_; rintro e w4 ⟨rfl, rfl⟩)
            have AN3 : Hid (alF os xs false nl = false) := Lib.hid (by have h := AN.out; rw [hp, Bool.false_and] at h; exact h)
            go_wp2_with (go_at_call 74; refine (TK.out _).mono ?_; rintro e w5 ⟨⟨at2, ct2, rfl, ns2, _⟩, b8⟩; have B5 := Lib.hid (B3.out.trans (b8.mono B3.out.size)); have O5 := Lib.hid (O3.out.keep b8); have OB5 := Lib.hid (OB3.out.upto (Upto.of_below (S := fun _ => False) b8) id); have NS := Lib.hid ns2)
            have hc2 := ns2.1
            have HNL2 := HNL.out
            rw [HNL2] at hc2
            clear ns2 b8 HNL2 d0 d1 d2 d3 d4 d5 d6
            go_loopg [55, 6] nl (fun n ix al wr => ∃ m : Nat, n = nl - m ∧ m ≤ nl ∧ ix = .int .i64 m ∧ al = .bool (alF os xs false m) ∧ Hid (Upto (fun _ => False) w5 wr))
            case atStart => exact ⟨0, rfl, Nat.zero_le _, rfl, rfl, Upto.refl _ _⟩
            case round =>
              obtain ⟨m, hk, hm, rfl, rfl, U⟩ := hrel
              have HK2 := Lib.hid hk
              clear hk
              by_cases hml : m < nl
              · have hml' : (m : Int) < nl := by omega
                have HML := Lib.hid hml
                have O6 := O5.out.keep (U.out.below (Nat.le_refl _) fun _ _ h => h.elim)
                obtain ⟨ga, rfl, hga, hca⟩ := NS.out.2 (by have := HNL.out; omega)
                have hx : xs[m]? = some (xs.getD m 0) := by rw [List.getD_eq_getElem?_getD, List.getElem?_eq_getElem (by have := HNL.out; omega)]; rfl
                have cx : wr.cell? ⟨ga, m, none⟩ = some (.int .i64 (xs.getD m 0)) := (U.out.cell (q := ⟨ga, m, none⟩) hga id).trans (hca m _ hx)
                have lga : ga < wr.heap.size := Nat.lt_of_lt_of_le hga U.out.size
                obtain ⟨t0, t1⟩ := TI.out m hml
                have e1 : alF os xs false (m + 1) = (alF os xs false m && ((opAt os (xs.getD m 0).toNat).k == 1)) := rfl
                generalize xs.getD m 0 = xx at *
                obtain ⟨x, rfl⟩ := Int.eq_ofNat_of_zero_le t0
                have xn : x < os.length := by omega
                have xn' : (x : Int) < os.length := by omega
                obtain ⟨g4, off4, hgo4, hg4, y0, _, _, _, _, _, _⟩ := ops_cells O6 xn
                obtain ⟨rfl, rfl⟩ : g = g4 ∧ off = off4 := by simpa using hgo4
                rw [Int.toNat_natCast] at e1
                have E1 := Lib.hid e1
                clear hx t0 t1 hca O6 hgo4 e1 hml
                cases ha6 : alF os xs false m with
                | false =>
                  rw [ha6] at E1
                  go_wp2
                  go_roundg (nl - (m + 1))
                  case measure => have := HK2.out; have := HML.out; omega
                  case rel => exact ⟨m + 1, rfl, HML.out, by simp, by rw [E1.out]; rfl, U⟩
                | true =>
                  rw [ha6] at E1
                  go_wp2
                  go_roundg (nl - (m + 1))
                  case measure => have := HK2.out; have := HML.out; omega
                  case rel => exact ⟨m + 1, rfl, HML.out, by simp, by rw [E1.out]; rfl, U⟩
              · obtain rfl : m = nl := by omega
                rw [AN3.out]
                go_wp2
                go_roundg (os.length - (j + 1))
                case measure => have := HK.out; have := HLT.out; omega
                case rel => exact ⟨j + 1, rfl, HLT.out, by simp, Lib.hid (B5.out.trans (U.out.below B5.out.size fun _ _ h => h.elim))⟩
          | true =>
            rw [hp] at PU
            by_cases h1 : k = 1
            · subst h1
              go_upto_region 8 with (go_at_call 76; refine (PU.out _).mono ?_; rintro e w4 ⟨rfl, rfl⟩)
              have AN3 : Hid (alF os xs false nl = false) := Lib.hid (AN.out)
              go_wp2_with (go_at_call 74; refine (TK.out _).mono ?_; rintro e w5 ⟨⟨at2, ct2, rfl, ns2, _⟩, b8⟩; have B5 := Lib.hid (B3.out.trans (b8.mono B3.out.size)); have O5 := Lib.hid (O3.out.keep b8); have OB5 := Lib.hid (OB3.out.upto (Upto.of_below (S := fun _ => False) b8) id); have NS := Lib.hid ns2)
              have hc2 := ns2.1
              have HNL2 := HNL.out
              rw [HNL2] at hc2
              clear ns2 b8 HNL2 d0 d1 d2 d3 d4 d5 d6
              go_loopg [55, 6] nl (fun n ix al wr => ∃ m : Nat, n = nl - m ∧ m ≤ nl ∧ ix = .int .i64 m ∧ al = .bool (alF os xs false m) ∧ Hid (Upto (fun _ => False) w5 wr))
              case atStart => exact ⟨0, rfl, Nat.zero_le _, rfl, rfl, Upto.refl _ _⟩
              case round =>
                obtain ⟨m, hk, hm, rfl, rfl, U⟩ := hrel
                have HK2 := Lib.hid hk
                clear hk
                by_cases hml : m < nl
                · have hml' : (m : Int) < nl := by omega
                  have HML := Lib.hid hml
                  have O6 := O5.out.keep (U.out.below (Nat.le_refl _) fun _ _ h => h.elim)
                  obtain ⟨ga, rfl, hga, hca⟩ := NS.out.2 (by have := HNL.out; omega)
                  have hx : xs[m]? = some (xs.getD m 0) := by rw [List.getD_eq_getElem?_getD, List.getElem?_eq_getElem (by have := HNL.out; omega)]; rfl
                  have cx : wr.cell? ⟨ga, m, none⟩ = some (.int .i64 (xs.getD m 0)) := (U.out.cell (q := ⟨ga, m, none⟩) hga id).trans (hca m _ hx)
                  have lga : ga < wr.heap.size := Nat.lt_of_lt_of_le hga U.out.size
                  obtain ⟨t0, t1⟩ := TI.out m hml
                  have e1 : alF os xs false (m + 1) = (alF os xs false m && ((opAt os (xs.getD m 0).toNat).k == 1)) := rfl
                  generalize xs.getD m 0 = xx at *
                  obtain ⟨x, rfl⟩ := Int.eq_ofNat_of_zero_le t0
                  have xn : x < os.length := by omega
                  have xn' : (x : Int) < os.length := by omega
                  obtain ⟨g4, off4, hgo4, hg4, y0, _, _, _, _, _, _⟩ := ops_cells O6 xn
                  obtain ⟨rfl, rfl⟩ : g = g4 ∧ off = off4 := by simpa using hgo4
                  rw [Int.toNat_natCast] at e1
                  have E1 := Lib.hid e1
                  clear hx t0 t1 hca O6 hgo4 e1 hml
                  cases ha6 : alF os xs false m with
                  | false =>
                    rw [ha6] at E1
                    go_wp2
                    go_roundg (nl - (m + 1))
                    case measure => have := HK2.out; have := HML.out; omega
                    case rel => exact ⟨m + 1, rfl, HML.out, by simp, by rw [E1.out]; rfl, U⟩
                  | true =>
                    rw [ha6] at E1
                    go_wp2
                    go_roundg (nl - (m + 1))
                    case measure => have := HK2.out; have := HML.out; omega
                    case rel => exact ⟨m + 1, rfl, HML.out, by simp, by rw [E1.out]; rfl, U⟩
                · obtain rfl : m = nl := by omega
                  rw [AN3.out]
                  go_wp2
                  go_roundg (os.length - (j + 1))
                  case measure => have := HK.out; have := HLT.out; omega
                  case rel => exact ⟨j + 1, rfl, HLT.out, by simp, Lib.hid (B5.out.trans (U.out.below B5.out.size fun _ _ h => h.elim))⟩
            · have e1 : (k == 1) = false := by simp [h1]
              have HE1 := Lib.hid e1
              go_upto_region 8 with (go_at_call 76; refine (PU.out _).mono ?_; rintro e w4 ⟨rfl, rfl⟩)
              have AN3 : Hid (alF os xs true nl = false) := Lib.hid (by have h := AN.out; rw [hp, HE1.out, Bool.not_false, Bool.and_true] at h; exact h)
              go_wp2_with (go_at_call 74; refine (TK.out _).mono ?_; rintro e w5 ⟨⟨at2, ct2, rfl, ns2, _⟩, b8⟩; have B5 := Lib.hid (B3.out.trans (b8.mono B3.out.size)); have O5 := Lib.hid (O3.out.keep b8); have OB5 := Lib.hid (OB3.out.upto (Upto.of_below (S := fun _ => False) b8) id); have NS := Lib.hid ns2)
              have hc2 := ns2.1
              have HNL2 := HNL.out
              rw [HNL2] at hc2
              clear ns2 b8 HNL2 d0 d1 d2 d3 d4 d5 d6
              have e2 : (k != 1) = true := by simp [h1]
              rw [e2]
              go_loopg [55, 6] nl (fun n ix al wr => ∃ m : Nat, n = nl - m ∧ m ≤ nl ∧ ix = .int .i64 m ∧ al = .bool (alF os xs true m) ∧ Hid (Upto (fun _ => False) w5 wr))
              case atStart => exact ⟨0, rfl, Nat.zero_le _, rfl, rfl, Upto.refl _ _⟩
              case round =>
                obtain ⟨m, hk, hm, rfl, rfl, U⟩ := hrel
                have HK2 := Lib.hid hk
                clear hk
                by_cases hml : m < nl
                · have hml' : (m : Int) < nl := by omega
                  have HML := Lib.hid hml
                  have O6 := O5.out.keep (U.out.below (Nat.le_refl _) fun _ _ h => h.elim)
                  obtain ⟨ga, rfl, hga, hca⟩ := NS.out.2 (by have := HNL.out; omega)
                  have hx : xs[m]? = some (xs.getD m 0) := by rw [List.getD_eq_getElem?_getD, List.getElem?_eq_getElem (by have := HNL.out; omega)]; rfl
                  have cx : wr.cell? ⟨ga, m, none⟩ = some (.int .i64 (xs.getD m 0)) := (U.out.cell (q := ⟨ga, m, none⟩) hga id).trans (hca m _ hx)
                  have lga : ga < wr.heap.size := Nat.lt_of_lt_of_le hga U.out.size
                  obtain ⟨t0, t1⟩ := TI.out m hml
                  have e1 : alF os xs true (m + 1) = (alF os xs true m && ((opAt os (xs.getD m 0).toNat).k == 1)) := rfl
                  generalize xs.getD m 0 = xx at *
                  obtain ⟨x, rfl⟩ := Int.eq_ofNat_of_zero_le t0
                  have xn : x < os.length := by omega
                  have xn' : (x : Int) < os.length := by omega
                  obtain ⟨g4, off4, hgo4, hg4, y0, _, _, _, _, _, _⟩ := ops_cells O6 xn
                  obtain ⟨rfl, rfl⟩ : g = g4 ∧ off = off4 := by simpa using hgo4
                  rw [Int.toNat_natCast] at e1
                  have E1 := Lib.hid e1
                  clear hx t0 t1 hca O6 hgo4 e1 hml
                  cases ha6 : alF os xs true m with
                  | false =>
                    rw [ha6] at E1
                    go_wp2
                    go_roundg (nl - (m + 1))
                    case measure => have := HK2.out; have := HML.out; omega
                    case rel => exact ⟨m + 1, rfl, HML.out, by simp, by rw [E1.out]; rfl, U⟩
                  | true =>
                    rw [ha6] at E1
                    go_wp2
                    go_roundg (nl - (m + 1))
                    case measure => have := HK2.out; have := HML.out; omega
                    case rel => exact ⟨m + 1, rfl, HML.out, by simp, by rw [E1.out]; rfl, U⟩
                · obtain rfl : m = nl := by omega
                  rw [AN3.out]
                  go_wp2
                  go_roundg (os.length - (j + 1))
                  case measure => have := HK.out; have := HLT.out; omega
                  case rel => exact ⟨j + 1, rfl, HLT.out, by simp, Lib.hid (B5.out.trans (U.out.below B5.out.size fun _ _ h => h.elim))⟩
      · have hn' : ¬ (0 : Int) < nl := by omega
        have dn : decide ((0 : Int) < nl) = false := decide_eq_false hn'
        go_upto_region 5 with (go_at_call 74; refine (TK.out _).mono ?_; rintro e w3 ⟨⟨at1, ct1, rfl, ns1, _⟩, b7⟩; have B3 := Lib.hid (B2.out.trans (b7.mono B2.out.size)); have O3 := Lib.hid (O2.out.keep b7); have OB3 := Lib.hid (OBH.out.upto (Upto.of_below (S := fun _ => False) b7) id); obtain ⟨d0, d1, d2, d3, d4, d5, d6⟩ := OB3.out.all; have lx3 := OB3.out.1)
        clear b0 b1 b2 b3 b4 b5 b6
        go_upto_region 7 with fail
        cases hp : pur k with
        | false =>
          rw [hp] at PU
          go_upto_region 8 with (go_at_call 76; refine (PU.out _).mono ?_; rintro e w4 ⟨rfl, rfl⟩)
          have AN3 : Hid (alF os xs false nl = false) := Lib.hid (by have h := AN.out; rw [hp, Bool.false_and] at h; exact h)
          go_wp2_with (go_at_call 74; refine (TK.out _).mono ?_; rintro e w5 ⟨⟨at2, ct2, rfl, ns2, _⟩, b8⟩; have B5 := Lib.hid (B3.out.trans (b8.mono B3.out.size)); have O5 := Lib.hid (O3.out.keep b8); have OB5 := Lib.hid (OB3.out.upto (Upto.of_below (S := fun _ => False) b8) id); have NS := Lib.hid ns2)
          have hc2 := ns2.1
          have HNL2 := HNL.out
          rw [HNL2] at hc2
          clear ns2 b8 HNL2 d0 d1 d2 d3 d4 d5 d6
          go_loopg [55, 6] nl (fun n ix al wr => ∃ m : Nat, n = nl - m ∧ m ≤ nl ∧ ix = .int .i64 m ∧ al = .bool (alF os xs false m) ∧ Hid (Upto (fun _ => False) w5 wr))
          case atStart => exact ⟨0, rfl, Nat.zero_le _, rfl, rfl, Upto.refl _ _⟩
          case round =>
            obtain ⟨m, hk, hm, rfl, rfl, U⟩ := hrel
            have HK2 := Lib.hid hk
            clear hk
            by_cases hml : m < nl
            · exact absurd hml (by omega)
            · obtain rfl : m = nl := by omega
              rw [AN3.out]
              go_wp2
              go_roundg (os.length - (j + 1))
              case measure => have := HK.out; have := HLT.out; omega
              case rel => exact ⟨j + 1, rfl, HLT.out, by simp, Lib.hid (B5.out.trans (U.out.below B5.out.size fun _ _ h => h.elim))⟩
        | true =>
          rw [hp] at PU
          by_cases h1 : k = 1
          · subst h1
            go_upto_region 8 with (go_at_call 76; refine (PU.out _).mono ?_; rintro e w4 ⟨rfl, rfl⟩)
            have AN3 : Hid (alF os xs false nl = false) := Lib.hid (AN.out)
            go_wp2_with (go_at_call 74; refine (TK.out _).mono ?_; rintro e w5 ⟨⟨at2, ct2, rfl, ns2, _⟩, b8⟩; have B5 := Lib.hid (B3.out.trans (b8.mono B3.out.size)); have O5 := Lib.hid (O3.out.keep b8); have OB5 := Lib.hid (OB3.out.upto (Upto.of_below (S := fun _ => False) b8) id); have NS := Lib.hid ns2)
            have hc2 := ns2.1
            have HNL2 := HNL.out
            rw [HNL2] at hc2
            clear ns2 b8 HNL2 d0 d1 d2 d3 d4 d5 d6
            go_loopg [55, 6] nl (fun n ix al wr => ∃ m : Nat, n = nl - m ∧ m ≤ nl ∧ ix = .int .i64 m ∧ al = .bool (alF os xs false m) ∧ Hid (Upto (fun _ => False) w5 wr))
            case atStart => exact ⟨0, rfl, Nat.zero_le _, rfl, rfl, Upto.refl _ _⟩
            case round =>
              obtain ⟨m, hk, hm, rfl, rfl, U⟩ := hrel
              have HK2 := Lib.hid hk
              clear hk
              by_cases hml : m < nl
              · exact absurd hml (by omega)
              · obtain rfl : m = nl := by omega
                rw [AN3.out]
                go_wp2
                go_roundg (os.length - (j + 1))
                case measure => have := HK.out; have := HLT.out; omega
                case rel => exact ⟨j + 1, rfl, HLT.out, by simp, Lib.hid (B5.out.trans (U.out.below B5.out.size fun _ _ h => h.elim))⟩
          · have e1 : (k == 1) = false := by simp [h1]
            have HE1 := Lib.hid e1
            go_upto_region 8 with (go_at_call 76; refine (PU.out _).mono ?_; rintro e w4 ⟨rfl, rfl⟩)
            have AN3 : Hid (alF os xs true nl = false) := Lib.hid (by have h := AN.out; rw [hp, HE1.out, Bool.not_false, Bool.and_true] at h; exact h)
            go_wp2_with (go_at_call 74; refine (TK.out _).mono ?_; rintro e w5 ⟨⟨at2, ct2, rfl, ns2, _⟩, b8⟩; have B5 := Lib.hid (B3.out.trans (b8.mono B3.out.size)); have O5 := Lib.hid (O3.out.keep b8); have OB5 := Lib.hid (OB3.out.upto (Upto.of_below (S := fun _ => False) b8) id); have NS := Lib.hid ns2)
            have hc2 := ns2.1
            have HNL2 := HNL.out
            rw [HNL2] at hc2
            clear ns2 b8 HNL2 d0 d1 d2 d3 d4 d5 d6
            have e2 : (k != 1) = true := by simp [h1]
            rw [e2]
            go_loopg [55, 6] nl (fun n ix al wr => ∃ m : Nat, n = nl - m ∧ m ≤ nl ∧ ix = .int .i64 m ∧ al = .bool (alF os xs true m) ∧ Hid (Upto (fun _ => False) w5 wr))
            case atStart => exact ⟨0, rfl, Nat.zero_le _, rfl, rfl, Upto.refl _ _⟩
            case round =>
              obtain ⟨m, hk, hm, rfl, rfl, U⟩ := hrel
              have HK2 := Lib.hid hk
              clear hk
              by_cases hml : m < nl
              · exact absurd hml (by omega)
              · obtain rfl : m = nl := by omega
                rw [AN3.out]
                go_wp2
                go_roundg (os.length - (j + 1))
                case measure => have := HK.out; have := HLT.out; omega
                case rel => exact ⟨j + 1, rfl, HLT.out, by simp, Lib.hid (B5.out.trans (U.out.below B5.out.size fun _ _ h => h.elim))⟩
    · obtain rfl : j = os.length := by omega
      go_wp2
      go_ret
      exact ⟨rfl, B.out⟩
end Go.Proofs.Ytcjcmnnhmajocab.Ot
