/- crossgrainlaw2.idle. -/
import Derived.Laws.MakeOwn
import Derived.Test.YtcjcmnnhmajocabPobc
import Derived.Test.YtcjcmnnhmajocabPobj
namespace Go.Proofs.Ytcjcmnnhmajocab.Ot
open Go.RowKit Kt Ic Me Ev
set_option linter.unusedVariables false
set_option linter.unusedSimpArgs false
variable {cnt : Int} {os : List Opr} {W W' : World}
/-- so many are marked -/
def mkl (xs : List Int) (u : Nat → Bool) : Nat → Nat → Bool
  | 0 => u
  | n + 1 => upd (mkl xs u n) (xs.getD n 0).toNat true
/-- what so many take -/
def uF (os : List Opr) : Nat → Nat → Bool
  | 0 => fun _ => false
  | i + 1 => mkl (tkl (opAt os i)) (uF os i) (tkl (opAt os i)).length
theorem mkl_old {xs : List Int} {u : Nat → Bool} {x : Nat} (h : u x = true) : ∀ n, mkl xs u n x = true
  | 0 => h
  | n + 1 => by
    show upd (mkl xs u n) _ true x = true
    by_cases e : x = (xs.getD n 0).toNat
    · rw [e, upd_eq]
    · rw [upd_ne _ _ e]; exact mkl_old h n
theorem mkl_new {xs : List Int} {u : Nat → Bool} {t : Nat} : ∀ n, t < n → mkl xs u n (xs.getD t 0).toNat = true
  | 0, h => absurd h (Nat.not_lt_zero _)
  | n + 1, h => by
    show upd (mkl xs u n) _ true _ = true
    by_cases e : (xs.getD t 0).toNat = (xs.getD n 0).toNat
    · rw [e, upd_eq]
    · rw [upd_ne _ _ e]
      exact mkl_new n (by
        by_cases et : t = n
        · rw [et] at e; exact absurd rfl e
        · omega)
theorem tkl_kinds {o : Opr} (h : 1 ≤ o.k ∧ o.k ≤ 17) : (tkl o = [] ∧ tA o.k = false ∧ tB o.k = false ∧ tC o.k = false) ∨ (tkl o = [o.a] ∧ tA o.k = true ∧ tB o.k = false ∧ tC o.k = false) ∨ (tkl o = [o.a, o.b] ∧ tA o.k = true ∧ tB o.k = true ∧ tC o.k = false) ∨ (tkl o = [o.a, o.b, o.c] ∧ tA o.k = true ∧ tB o.k = true ∧ tC o.k = true) := by
  obtain ⟨k, ow, a, b, c, n, m⟩ := o
  dsimp only at h ⊢
  rcases (show k = 1 ∨ k = 2 ∨ k = 3 ∨ k = 4 ∨ k = 5 ∨ k = 6 ∨ k = 7 ∨ k = 8 ∨ k = 9 ∨ k = 10 ∨ k = 11 ∨ k = 12 ∨ k = 13 ∨ k = 14 ∨ k = 15 ∨ k = 16 ∨ k = 17 by omega) with rfl | rfl | rfl | rfl | rfl | rfl | rfl | rfl | rfl | rfl | rfl | rfl | rfl | rfl | rfl | rfl | rfl
  all_goals first
    | exact .inl ⟨rfl, rfl, rfl, rfl⟩
    | exact .inr (.inl ⟨rfl, rfl, rfl, rfl⟩)
    | exact .inr (.inr (.inl ⟨rfl, rfl, rfl, rfl⟩))
    | exact .inr (.inr (.inr ⟨rfl, rfl, rfl, rfl⟩))
theorem tkl_at {o : Opr} (h : 1 ≤ o.k ∧ o.k ≤ 17) {j : Nat} (hj : j < 3) (hr : isR o.k j = true) : j < (tkl o).length ∧ (tkl o).getD j 0 = ar o j := by
  rcases (show j = 0 ∨ j = 1 ∨ j = 2 by omega) with rfl | rfl | rfl
  · have hr' : tA o.k = true := hr
    rcases tkl_kinds h with ⟨e, h1, _, _⟩ | ⟨e, h1, _, _⟩ | ⟨e, h1, _, _⟩ | ⟨e, h1, _, _⟩
    · rw [h1] at hr'; exact absurd hr' (by decide)
    all_goals rw [e]; exact ⟨by simp, rfl⟩
  · have hr' : tB o.k = true := hr
    rcases tkl_kinds h with ⟨e, _, h1, _⟩ | ⟨e, _, h1, _⟩ | ⟨e, _, h1, _⟩ | ⟨e, _, h1, _⟩
    · rw [h1] at hr'; exact absurd hr' (by decide)
    · rw [h1] at hr'; exact absurd hr' (by decide)
    all_goals rw [e]; exact ⟨by simp, rfl⟩
  · have hr' : tC o.k = true := hr
    rcases tkl_kinds h with ⟨e, _, _, h1⟩ | ⟨e, _, _, h1⟩ | ⟨e, _, _, h1⟩ | ⟨e, _, _, h1⟩
    · rw [h1] at hr'; exact absurd hr' (by decide)
    · rw [h1] at hr'; exact absurd hr' (by decide)
    · rw [h1] at hr'; exact absurd hr' (by decide)
    · rw [e]; exact ⟨by simp, rfl⟩
/-- each of them is taken -/
theorem tkl_ar {o : Opr} (h : 1 ≤ o.k ∧ o.k ≤ 17) {t : Nat} (ht : t < (tkl o).length) : t < 3 ∧ isR o.k t = true ∧ (tkl o).getD t 0 = ar o t := by
  rcases tkl_kinds h with ⟨e, h1, h2, h3⟩ | ⟨e, h1, h2, h3⟩ | ⟨e, h1, h2, h3⟩ | ⟨e, h1, h2, h3⟩
  · rw [e] at ht; exact absurd ht (Nat.not_lt_zero _)
  · rw [e] at ht ⊢
    match t, ht with
    | 0, _ => exact ⟨by decide, h1, rfl⟩
  · rw [e] at ht ⊢
    match t, ht with
    | 0, _ => exact ⟨by decide, h1, rfl⟩
    | 1, _ => exact ⟨by decide, h2, rfl⟩
  · rw [e] at ht ⊢
    match t, ht with
    | 0, _ => exact ⟨by decide, h1, rfl⟩
    | 1, _ => exact ⟨by decide, h2, rfl⟩
    | 2, _ => exact ⟨by decide, h3, rfl⟩
theorem uF_old {x i : Nat} (h : uF os i x = true) : ∀ n, uF os (i + n) x = true
  | 0 => h
  | n + 1 => mkl_old (uF_old h n) _
theorem uF_new {m : Nat} (hk : 1 ≤ (opAt os m).k ∧ (opAt os m).k ≤ 17) {j : Nat} (hj : j < 3) (hr : isR (opAt os m).k j = true) {n : Nat} (hn : m < n) : uF os n (ar (opAt os m) j).toNat = true := by
  obtain ⟨h1, h2⟩ := tkl_at hk hj hr
  have h3 : uF os (m + 1) (ar (opAt os m) j).toNat = true := by
    show mkl (tkl (opAt os m)) (uF os m) (tkl (opAt os m)).length _ = true
    rw [← h2]; exact mkl_new _ h1
  have := uF_old h3 (n - (m + 1))
  rwa [show m + 1 + (n - (m + 1)) = n by omega] at this
theorem idle_used (c : Cl cnt os) {i : Nat} (hi : i < os.length) (hg : gv (opAt os i).k = true) (h9 : (opAt os i).k ≠ 9) : uF os os.length i = true := by
  obtain ⟨m, hm, j, hj, hr, e⟩ := c.idle hi hg h9
  rw [← e]
  exact uF_new (c.g.a.l m hm).k hj hr hm
theorem take_in (c : Cl cnt os) {i : Nat} (hi : i < os.length) {t : Nat} (ht : t < (tkl (opAt os i)).length) : 0 ≤ (tkl (opAt os i)).getD t 0 ∧ (tkl (opAt os i)).getD t 0 < i := by
  obtain ⟨h1, h2, h3⟩ := tkl_ar (c.g.a.l i hi).k ht
  rw [h3]; exact c.take hi h1 h2
/-- a row of bools -/
def BR (B n : Nat) (u : Nat → Bool) (W : World) : Prop := B < W.heap.size ∧ (∀ j, j < n → W.cell? ⟨B, j, none⟩ = some (.bool (u j))) ∧ ∀ j, W.frozen? ⟨B, j, none⟩ = false
theorem BR.upto {B n : Nat} {u : Nat → Bool} {S : Nat → Prop} (h : BR B n u W) (v : Upto S W W') (hs : ¬ S B) : BR B n u W' :=
  ⟨Nat.lt_of_lt_of_le h.1 v.size, fun j hj => (v.cell (q := ⟨B, j, none⟩) h.1 hs).trans (h.2.1 j hj), fun j => (v.frozen (q := ⟨B, j, none⟩) h.1 hs).trans (h.2.2 j)⟩
theorem BR.set {B n : Nat} {u : Nat → Bool} (h : BR B n u W) (t : Nat) (ht : t < n) (x : Bool) : BR B n (upd u t x) (W.setCell ⟨B, t, none⟩ (.bool x)) :=
  ⟨by simpa using h.1, fun j hj => by
    by_cases e : j = t
    · rw [e, upd_eq]; exact World.cell?_setCell_same _ _ _ (h.2.1 t ht)
    · rw [upd_ne _ _ e, HM.cell_other e]; exact h.2.1 j hj, fun j => by simpa using h.2.2 j⟩
theorem BR.new (w : World) (n : Nat) (t : TypeId) : BR w.heap.size n (fun _ => false) (w.alloc (.cells (madeCells #[.bool false] n) t)) :=
  ⟨by simp, fun j hj => (cell_of_row _ _ _ _ _ _ (heap_alloc_new w _)).trans (made1 _ n j hj), fun j => by simp⟩
set_option maxRecDepth 100000 in
set_option maxHeartbeats 4000000 in
theorem idle_any (c : Cl cnt os) (ao : Option Addr) (cap : Nat) (w : World) (h : Ops os ao cap w) :
    Calls Try.prog 28 #[.slice ao os.length cap] w fun e w' => e = .returned (.bool true) ∧ Below w.heap.size w w' := by
  obtain ⟨iv, hiv, hzv, hsv, hbv⟩ := bool_i
  have hL : os.length ≤ 2048 := c.g.n1
  have hmk : ∀ w : World, (Instr.makeSlice 79 (.int .i64 (os.length : Int)) (.int .i64 (os.length : Int))).run Try.prog w = .ok (.slice (some ⟨w.heap.size, 0, none⟩) os.length os.length) (w.alloc (.cells (madeCells #[.bool false] os.length) 4)) := fun w => by
    have := run_make (P := Try.prog) w 79 4 iv (.bool false) Try.underlying79 hiv hzv .i64 .i64 os.length os.length (by omega) (Int.le_refl _) (by rw [hbv]; omega) (by omega)
    rw [hsv, show (Value.bool false).cells = #[.bool false] from rfl] at this
    simpa using this
  have hcap := h.1
  have H := Lib.hid h
  have C := Lib.hid c
  clear h c hiv hzv hsv hbv
  go_enter Try.func28, Try.ntmps28
  go_upto_region 2 with fail
  have R1 := Lib.hid (BR.new w os.length 4)
  have B1 := Lib.hid ((Below.refl _ w).alloc (Nat.le_refl _) (.cells (madeCells #[.bool false] os.length) 4))
  generalize w.alloc (.cells (madeCells #[.bool false] os.length) 4) = w1 at *
  obtain ⟨Bu, hBu⟩ : ∃ Bu, w.heap.size = Bu := ⟨_, rfl⟩
  rw [hBu] at R1 B1 ⊢
  have HB := Lib.hid hBu
  clear hBu hmk
  go_wp2
  go_loopg [15] os.length (fun n ix wr => ∃ j : Nat, n = os.length - j ∧ j ≤ os.length ∧ ix = .int .i64 j ∧ Hid (BR Bu os.length (uF os j) wr) ∧ Hid (Below Bu w wr))
  case atStart => exact ⟨0, rfl, Nat.zero_le _, rfl, R1, B1⟩
  case round =>
    obtain ⟨j, hk, hj, rfl, R, B⟩ := hrel
    have HK := Lib.hid hk
    clear hk
    by_cases hlt : j < os.length
    · have hlt' : (j : Int) < os.length := by omega
      have HLT := Lib.hid hlt
      have O := Lib.hid (H.out.keep (by rw [HB.out]; exact B.out))
      obtain ⟨g, off, rfl, hg, k0, k1, k2, k3, k4, k5, k6⟩ := ops_cells O.out hlt
      have hok := (C.out.g.a.l j hlt).k
      have TI : Hid (∀ t, t < (tkl (opAt os j)).length → 0 ≤ (tkl (opAt os j)).getD t 0 ∧ (tkl (opAt os j)).getD t 0 < os.length) := Lib.hid fun t ht => by have := take_in C.out hlt ht; omega
      have UF : Hid (uF os (j + 1) = mkl (tkl (opAt os j)) (uF os j) (tkl (opAt os j)).length) := Lib.hid rfl
      have TK := Lib.hid (ltakes_any (opAt os j) hok)
      have T3 : (tkl (opAt os j)).length ≤ 3 := by rcases tkl_kinds hok with ⟨e, _⟩ | ⟨e, _⟩ | ⟨e, _⟩ | ⟨e, _⟩ <;> rw [e] <;> simp
      generalize tkl (opAt os j) = xs at *
      generalize opAt os j = o at *
      clear hlt
      go_upto_region 5 with fail
      have OBX := OB.new wr o 31
      have u1 := (Upto.refl (fun _ => False) wr).alloc (.cells o.cells 31)
      have B2 := Lib.hid (B.out.alloc (Nat.le_of_lt R.out.1) (.cells o.cells 31))
      have R2 := Lib.hid (R.out.upto u1 id)
      change Code.wp _ _ _ _ (wr.alloc (.cells o.cells 31))
      generalize wr.alloc (.cells o.cells 31) = w2 at *
      obtain ⟨b0, b1, b2, b3, b4, b5, b6⟩ := OBX.all
      clear k0 k1 k2 k3 k4 k5 k6 u1 OBX
      go_wp2_with (go_at_call 74; refine (TK.out _).mono ?_; rintro e w3 ⟨⟨at', ct, rfl, nsl, nsf⟩, b7⟩)
      have N3 := Lib.hid nsl
      have R3 := Lib.hid (R2.out.upto (Upto.of_below (S := fun _ => False) b7) id)
      have B3 := Lib.hid (B2.out.trans (b7.mono (Nat.le_of_lt R2.out.1)))
      have hnc := nsl.1
      obtain ⟨nl, hnl⟩ : ∃ nl, xs.length = nl := ⟨_, rfl⟩
      have HNL := Lib.hid hnl
      have hn3 : nl ≤ 3 := by omega
      rw [hnl] at hnc ⊢
      clear nsl b7 b0 b1 b2 b3 b4 b5 b6 hnl
      go_loopg [22] nl (fun n ix wr2 => ∃ m : Nat, n = nl - m ∧ m ≤ nl ∧ ix = .int .i64 m ∧ Hid (BR Bu os.length (mkl xs (uF os j) m) wr2) ∧ Hid (Upto (fun i => i = Bu) w3 wr2))
      case atStart => exact ⟨0, rfl, Nat.zero_le _, rfl, R3, Upto.refl _ _⟩
      case round =>
        obtain ⟨m, hk, hm, rfl, R4, U⟩ := hrel
        have HK2 := Lib.hid hk
        clear hk
        by_cases hml : m < nl
        · have hml' : (m : Int) < nl := by omega
          have HML := Lib.hid hml
          obtain ⟨ga, rfl, hga, hca⟩ := N3.out.2 (by have := HNL.out; omega)
          have hne : ga ≠ Bu := by have h1 := nsf _ rfl; have h2 := R2.out.1; have h3 : w2.heap.size ≤ ga := h1; omega
          have hx : xs[m]? = some (xs.getD m 0) := by rw [List.getD_eq_getElem?_getD, List.getElem?_eq_getElem (by have := HNL.out; omega)]; rfl
          have cx : wr.cell? ⟨ga, m, none⟩ = some (.int .i64 (xs.getD m 0)) := (U.out.cell (q := ⟨ga, m, none⟩) hga hne).trans (hca m _ hx)
          have lx : ga < wr.heap.size := Nat.lt_of_lt_of_le hga U.out.size
          obtain ⟨t0, t1⟩ := TI.out m (by have := HNL.out; omega)
          obtain ⟨t, ht⟩ := Int.eq_ofNat_of_zero_le t0
          rw [ht] at cx t1
          have tn : t < os.length := by omega
          have cb := R4.out.2.1 t tn
          have zb := R4.out.2.2 t
          have lb := R4.out.1
          have e1 : mkl xs (uF os j) (m + 1) = upd (mkl xs (uF os j) m) t true := by
            show upd (mkl xs (uF os j) m) (xs.getD m 0).toNat true = _
            rw [ht]; rfl
          have R5 := Lib.hid (e1 ▸ R4.out.set t tn true)
          clear hx t0 ht hml hca e1
          go_wp2
          go_roundg (nl - (m + 1))
          case measure => have := HK2.out; have := HML.out; omega
          case rel => exact ⟨m + 1, rfl, HML.out, by simp, R5, Lib.hid (U.out.setCell (q := ⟨Bu, t, none⟩) (.inl rfl) _)⟩
        · obtain rfl : m = nl := by omega
          go_wp2
          go_roundg (os.length - (j + 1))
          case measure => have := HK.out; have := HLT.out; omega
          case rel => exact ⟨j + 1, rfl, HLT.out, by simp, Lib.hid (by rw [UF.out, HNL.out]; exact R4.out), Lib.hid (B3.out.trans (U.out.below (Nat.le_of_lt R3.out.1) fun i hi e => by have h2 : i = Bu := e; omega))⟩
    · obtain rfl : j = os.length := by omega
      go_wp2
      go_loopg [33] os.length (fun n ix wr => ∃ j : Nat, n = os.length - j ∧ j ≤ os.length ∧ ix = .int .i64 j ∧ Hid (BR Bu os.length (uF os os.length) wr) ∧ Hid (Below Bu w wr))
      case atStart => exact ⟨0, rfl, Nat.zero_le _, rfl, R, B⟩
      case round =>
        obtain ⟨j, hk, hj, rfl, R, B⟩ := hrel
        have HK := Lib.hid hk
        clear hk
        by_cases hlt : j < os.length
        · have hlt' : (j : Int) < os.length := by omega
          have HLT := Lib.hid hlt
          have O := Lib.hid (H.out.keep (by rw [HB.out]; exact B.out))
          obtain ⟨g, off, rfl, hg, k0, k1, k2, k3, k4, k5, k6⟩ := ops_cells O.out hlt
          have cu := R.out.2.1 j hlt
          have lu := R.out.1
          have GV : Hid (∀ w : World, Calls Try.prog 75 #[.int .i64 (opAt os j).k] w fun e w' => e = .returned (.bool (gv (opAt os j).k)) ∧ w = w') := Lib.hid fun w => rgives_any (opAt os j).k w
          have B2 := fun C t => Lib.hid (B.out.alloc (Nat.le_of_lt R.out.1) (.cells C t))
          have R2 := fun C t => Lib.hid (R.out.upto ((Upto.refl (fun _ => False) wr).alloc (.cells C t)) id)
          have IU : Hid (gv (opAt os j).k = true → (opAt os j).k ≠ 9 → uF os os.length j = true) := Lib.hid fun h1 h2 => idle_used C.out hlt h1 h2
          obtain ⟨ub, hub⟩ : ∃ ub, uF os os.length j = ub := ⟨_, rfl⟩
          rw [hub] at cu IU
          have HUB := Lib.hid hub
          clear hub
          generalize opAt os j = o at *
          clear hlt
          cases hgv : gv o.k with
          | false =>
            rw [hgv] at GV
            go_wp2_with (go_at_call 75; refine (GV.out _).mono ?_; rintro e w3 ⟨rfl, rfl⟩)
            go_roundg (os.length - (j + 1))
            case measure => have := HK.out; have := HLT.out; omega
            case rel => exact ⟨j + 1, rfl, HLT.out, by simp, R2 _ _, B2 _ _⟩
          | true =>
            rw [hgv] at GV
            go_upto_region 14 with fail
            have OBX := OB.new wr o 31
            have R3 := R2 o.cells 31
            have B3 := B2 o.cells 31
            change Code.wp _ _ _ _ (wr.alloc (.cells o.cells 31))
            generalize wr.alloc (.cells o.cells 31) = w2 at *
            have cb := R3.out.2.1 j HLT.out
            have lb := R3.out.1
            obtain ⟨b0, _, _, _, _, _, _⟩ := OBX.all
            have lx := OBX.1
            generalize wr.heap.size = Bx at *
            clear B2 R2 k0 k1 k2 k3 k4 k5 k6 OBX cu lu
            by_cases h9 : o.k = 9
            · rw [h9] at b0 GV
              clear h9 hgv IU
              go_wp2_with (go_at_call 75; refine (GV.out _).mono ?_; rintro e w3 ⟨rfl, rfl⟩)
              go_roundg (os.length - (j + 1))
              case measure => have := HK.out; have := HLT.out; omega
              case rel => exact ⟨j + 1, rfl, HLT.out, by simp, R3, B3⟩
            · have e9 : (o.k == 9) = false := by simp [h9]
              rw [HUB.out, IU.out hgv h9] at cb
              go_wp2_with (go_at_call 75; refine (GV.out _).mono ?_; rintro e w3 ⟨rfl, rfl⟩)
              go_roundg (os.length - (j + 1))
              case measure => have := HK.out; have := HLT.out; omega
              case rel => exact ⟨j + 1, rfl, HLT.out, by simp, R3, B3⟩
        · obtain rfl : j = os.length := by omega
          go_wp2
          go_ret
          exact ⟨rfl, by rw [HB.out]; exact B.out⟩
end Go.Proofs.Ytcjcmnnhmajocab.Ot
