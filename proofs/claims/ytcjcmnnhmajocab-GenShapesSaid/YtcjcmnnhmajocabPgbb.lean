/- gen: place. -/
import Derived.LoopN
import Derived.Deep.LoopGhost
import Derived.Test.YtcjcmnnhmajocabPgba
namespace Go.Proofs.Ytcjcmnnhmajocab.Gn
open Go.RowKit Kt Ic Hr Ho Me
set_option linter.unusedVariables false
set_option linter.unusedSimpArgs false
variable {K : Gk} {g : Gm}
theorem bst_pin {g : Gm} {r : Nat} (h : g.pin r = true) : bst g (r + 1) = bst g r := by rw [bst, if_pos h]
theorem bst_yes {g : Gm} {r : Nat} {n : Int} (h : g.pin r = false) (hn : (if 0 ≤ g.holds r then nxt g (g.holds r).toNat else 1073741825) = n) (hf : (bst g r).2 < n) : bst g (r + 1) = ((r : Int), n) := by
  rw [bst, hn, if_neg (by simp [h]), if_pos hf]
theorem bst_no {g : Gm} {r : Nat} {n : Int} (h : g.pin r = false) (hn : (if 0 ≤ g.holds r then nxt g (g.holds r).toNat else 1073741825) = n) (hf : ¬ (bst g r).2 < n) : bst g (r + 1) = bst g r := by
  rw [bst, hn, if_neg (by simp [h]), if_neg hf]
set_option maxRecDepth 100000 in
set_option maxHeartbeats 16000000 in
theorem free_any (b : Nat) (w : World) (a : GM K g w) (hR : K.R ≤ 16) (hb : (bst g K.R).1 = b) (b1 : b < 16) (hh : ∀ r, r < 16 → g.holds r < K.os.length)
    (hreg : 0 ≤ g.holds b → (g.v (g.holds b).toNat).reg = b) (hsp : 0 ≤ g.holds b → spills K.os g (g.holds b).toNat = true → 0 ≤ g.sp ∧ g.sp < 2048) (hn : (wds g.xs).length ≤ 1000000) :
    Calls Try.prog 159 #[.pointer (some ⟨K.h, 0, none⟩)] w fun e w' => e = .returned (.int .i64 b) ∧ GM K (g.fre K.os K.R) w' ∧ Upto (SG K) w w' := by
  have A := Lib.hid a
  have c5 := a.c5
  have l := a.l
  have HB := Lib.hid hb
  have HR := Lib.hid hR
  have HH := Lib.hid hh
  have HG := Lib.hid hreg
  have HS := Lib.hid hsp
  have HN := Lib.hid hn
  have b0' : (0 : Int) ≤ (b : Int) := by omega
  have b1' : (b : Int) < 16 := by omega
  clear a hb hreg hsp hn hh hR
  generalize hRR : K.R = R at *
  go_enter Try.func159, Try.ntmps159
  go_wp2
  go_loopg [3, 4, 13] R (fun k bb ff i wr => ∃ j : Nat, k = R - j ∧ j ≤ R ∧ i = .int .i64 j ∧ bb = .int .i64 (bst g j).1 ∧ ff = .int .i64 (bst g j).2 ∧ w = wr)
  case atStart => exact ⟨0, rfl, Nat.zero_le _, rfl, rfl, rfl, rfl⟩
  case round =>
    obtain ⟨j, hk, hj, rfl, rfl, rfl, rfl⟩ := hrel
    by_cases hlt : j < R
    · have hlt' : (j : Int) < (R : Int) := by omega
      have j16 : j < 16 := by have := HR.out; omega
      have i0 : (0 : Int) ≤ (j : Int) := by omega
      have i1 : (j : Int) < 16 := by omega
      have cp := A.out.pin j j16
      have ch := A.out.hol j j16
      have h1 := HH.out j j16
      have HK := Lib.hid hk
      have HLT := Lib.hid hlt
      clear hk hlt
      obtain ⟨⟨bb, ff⟩, hp⟩ : ∃ p, bst g j = p := ⟨_, rfl⟩
      have HP := Lib.hid hp
      rw [hp]
      clear hp
      dsimp only
      obtain ⟨pn, hpn⟩ : ∃ pn, g.pin j = pn := ⟨_, rfl⟩
      rw [hpn] at cp
      have HPN := Lib.hid hpn
      clear hpn
      obtain ⟨x, hx⟩ : ∃ x, g.holds j = x := ⟨_, rfl⟩
      rw [hx] at ch h1
      have HX := Lib.hid hx
      clear hx
      cases pn
      · by_cases hx0 : 0 ≤ x
        · obtain ⟨t, rfl⟩ := Int.eq_ofNat_of_zero_le hx0
          have NX := Lib.hid (fun w a => next_any (K := K) (g := g) t w a (by omega))
          obtain ⟨n, hnx⟩ : ∃ n, nxt g t = n := ⟨_, rfl⟩
          rw [hnx] at NX
          have HNX := Lib.hid (show (if 0 ≤ g.holds j then nxt g (g.holds j).toNat else 1073741825) = n from by rw [HX.out, if_pos hx0, Int.toNat_natCast, hnx])
          clear hnx h1
          by_cases hf : ff < n
          · have hf' : (n > ff) = True := by simpa using hf
            have HF := Lib.hid (show (bst g j).2 < n from by rw [HP.out]; exact hf)
            clear hf'
            go_wp2_with (go_at_call 194; refine (NX.out _ A.out).mono ?_; rintro e w' ⟨rfl, rfl⟩)
            go_roundg (R - (j + 1))
            case measure => have := HK.out; have := HLT.out; omega
            case rel => exact ⟨j + 1, rfl, HLT.out, by simp, by rw [bst_yes HPN.out HNX.out HF.out], by rw [bst_yes HPN.out HNX.out HF.out], rfl⟩
          · have HF := Lib.hid (show ¬ (bst g j).2 < n from by rw [HP.out]; exact hf)
            go_wp2_with (go_at_call 194; refine (NX.out _ A.out).mono ?_; rintro e w' ⟨rfl, rfl⟩)
            go_roundg (R - (j + 1))
            case measure => have := HK.out; have := HLT.out; omega
            case rel => exact ⟨j + 1, rfl, HLT.out, by simp, by rw [bst_no HPN.out HNX.out (Int.not_lt.2 HF.out), HP.out], by rw [bst_no HPN.out HNX.out (Int.not_lt.2 HF.out), HP.out], rfl⟩
        · have HNX := Lib.hid (show (if 0 ≤ g.holds j then nxt g (g.holds j).toNat else 1073741825) = 1073741825 from by rw [HX.out, if_neg hx0])
          clear h1
          by_cases hf : ff < 1073741825
          · have hf' : (1073741825 > ff) = True := by simpa using hf
            have HF := Lib.hid (show (bst g j).2 < 1073741825 from by rw [HP.out]; exact hf)
            clear hf'
            go_wp2
            go_roundg (R - (j + 1))
            case measure => have := HK.out; have := HLT.out; omega
            case rel => exact ⟨j + 1, rfl, HLT.out, by simp, by rw [bst_yes HPN.out HNX.out HF.out], by rw [bst_yes HPN.out HNX.out HF.out], rfl⟩
          · have HF := Lib.hid (show ¬ (bst g j).2 < 1073741825 from by rw [HP.out]; exact hf)
            go_wp2
            go_roundg (R - (j + 1))
            case measure => have := HK.out; have := HLT.out; omega
            case rel => exact ⟨j + 1, rfl, HLT.out, by simp, by rw [bst_no HPN.out HNX.out (Int.not_lt.2 HF.out), HP.out], by rw [bst_no HPN.out HNX.out (Int.not_lt.2 HF.out), HP.out], rfl⟩
      · go_wp2
        go_roundg (R - (j + 1))
        case measure => have := HK.out; have := HLT.out; omega
        case rel => exact ⟨j + 1, rfl, HLT.out, by simp, by rw [bst_pin HPN.out, HP.out], by rw [bst_pin HPN.out, HP.out], rfl⟩
    · obtain rfl : j = R := by omega
      have ch := A.out.hol b b1
      rw [HB.out]
      clear hj hk
      obtain ⟨ff, hff⟩ : ∃ ff, (bst g j).2 = ff := ⟨_, rfl⟩
      rw [hff]
      clear hff
      obtain ⟨x, hx⟩ : ∃ x, g.holds b = x := ⟨_, rfl⟩
      rw [hx] at ch
      have HX := Lib.hid hx
      have FB : g.fre K.os j = if 0 ≤ x then g.out K.os x.toNat else g := by unfold Gm.fre; rw [HB.out, Int.toNat_natCast, hx]
      clear hx
      by_cases hx0 : 0 ≤ x
      · obtain ⟨t, rfl⟩ := Int.eq_ofNat_of_zero_le hx0
        rw [if_pos hx0, Int.toNat_natCast] at FB
        have h1 : t < K.os.length := by have := HH.out b b1; rw [HX.out] at this; omega
        have e1 : (g.v t).reg = b := by have := HG.out (by rw [HX.out]; exact hx0); rw [HX.out, Int.toNat_natCast] at this; exact this
        have e2 : spills K.os g t = true → 0 ≤ g.sp ∧ g.sp < 2048 := fun h => HS.out (by rw [HX.out]; exact hx0) (by rw [HX.out, Int.toNat_natCast]; exact h)
        have OU := Lib.hid (fun w a => out_any (K := K) (g := g) t b w a h1 b1 e1 e2 HN.out)
        rw [← FB] at OU
        clear e1 e2 h1 FB
        go_wp2_with (go_at_call 195; refine (OU.out _ A.out).mono ?_; rintro e w2 ⟨rfl, a2, u2⟩)
        go_ret
        exact ⟨rfl, a2, u2⟩
      · rw [if_neg hx0] at FB
        have FB := Lib.hid FB
        go_wp2
        go_ret
        exact ⟨rfl, A.out, Upto.refl _ _⟩
end Go.Proofs.Ytcjcmnnhmajocab.Gn
namespace Go.Proofs.Ytcjcmnnhmajocab.Gn
open Go.RowKit Kt Ic Hr Ho Me
set_option linter.unusedVariables false
set_option linter.unusedSimpArgs false
variable {K : Gk} {g : Gm}
theorem op_cells {w : World} (a : GM K g w) {t : Nat} (ht : t < K.os.length) : ∃ b off, K.ao = some ⟨b, off, none⟩ ∧ b < w.heap.size ∧ K.os.length ≤ K.cap ∧ w.cell? ⟨b, off + t * 7, none⟩ = some (.int .i64 (opAt K.os t).k) ∧ w.cell? ⟨b, off + t * 7 + 1, none⟩ = some (.int .i64 (opAt K.os t).w) ∧ w.cell? ⟨b, off + t * 7 + 2, none⟩ = some (.int .i64 (opAt K.os t).a) ∧
    w.cell? ⟨b, off + t * 7 + 3, none⟩ = some (.int .i64 (opAt K.os t).b) ∧ w.cell? ⟨b, off + t * 7 + 4, none⟩ = some (.int .i64 (opAt K.os t).c) ∧ w.cell? ⟨b, off + t * 7 + 5, none⟩ = some (.int .u32 (opAt K.os t).kn) ∧ w.cell? ⟨b, off + t * 7 + 6, none⟩ = some (.int .i64 (opAt K.os t).n) := by
  obtain ⟨h1, h2, h3⟩ := a.op
  obtain ⟨b, off, e, hb, hc⟩ := h3 (by omega)
  have hg : K.os[t]? = some (opAt K.os t) := by unfold opAt; rw [List.getD_eq_getElem?_getD, List.getElem?_eq_getElem ht]; rfl
  exact ⟨b, off, e, hb, h1, hc t _ hg 0 _ rfl, hc t _ hg 1 _ rfl, hc t _ hg 2 _ rfl, hc t _ hg 3 _ rfl, hc t _ hg 4 _ rfl, hc t _ hg 5 _ rfl, hc t _ hg 6 _ rfl⟩
theorem li_ok (r k : Int) (r0 : 0 ≤ r) (r1 : r < 16) : COk (liC r k) := by
  refine ⟨⟨by show (0 : Int) ≤ 2; decide, by show (2 : Int) < 256; decide⟩, by show fcls 2 ≠ 0; decide, ?_⟩
  show EOK (fcls 2) 2 r 0 0 0 0 k 0
  rw [show fcls 2 = 8 by decide]
  simp [EOK, hD, hA, hB, hC, nb, wd, hK, r0, r1]
theorem lds_ok (r sp : Int) (r0 : 0 ≤ r) (r1 : r < 16) (s0 : 0 ≤ sp) (s1 : sp < 2048) : COk (ldsC r sp) := by
  refine ⟨⟨by show (0 : Int) ≤ 8; decide, by show (8 : Int) < 256; decide⟩, by show fcls 8 ≠ 0; decide, ?_⟩
  show EOK (fcls 8) 8 r 0 0 0 sp 0 0
  rw [show fcls 8 = 12 by decide]
  simp [EOK, hD, hA, hB, hC, nb, wd, hK, r0, r1, s0, s1]
theorem encW_le (x : Cd) : (encW x).length ≤ 3 := by unfold encW; rw [List.length_take]; simp; omega
theorem wds_put (xs : List Cd) (x : Cd) : (wds (xs ++ [x])).length ≤ (wds xs).length + 3 := by
  have := encW_le x
  unfold wds; rw [List.flatMap_append, List.length_append]; simp; omega
theorem out_len (os : List Opr) (g : Gm) (t : Nat) : (wds (g.out os t).xs).length ≤ (wds g.xs).length + 3 := by
  show (wds (g.lay os t).xs).length ≤ _
  unfold Gm.lay; split
  · exact wds_put g.xs _
  · omega
theorem fre_len (os : List Opr) (R : Nat) (g : Gm) : (wds (g.fre os R).xs).length ≤ (wds g.xs).length + 3 := by
  unfold Gm.fre; split
  · exact out_len _ _ _
  · omega
set_option maxRecDepth 100000 in
set_option maxHeartbeats 16000000 in
theorem in_old (t r : Nat) (w : World) (a : GM K g w) (ht : t < K.os.length) (hr : (g.v t).reg = r) (r16 : r < 16) :
    Calls Try.prog 94 #[.pointer (some ⟨K.h, 0, none⟩), .int .i64 t] w fun e w' => e = .returned (.int .i64 (g.inR K.R t)) ∧ GM K (g.inG K.os K.R t) w' ∧ Upto (SG K) w w' := by
  have e1 : g.inR K.R t = r := by unfold Gm.inR; rw [if_neg (by omega), hr]
  have e2 : g.inG K.os K.R t = g.setP r true := by unfold Gm.inG; rw [if_neg (by omega), hr, Int.toNat_natCast]
  rw [e1, e2]
  have t0 : (0 : Int) ≤ (t : Int) := by omega
  have t1 : (t : Int) < (K.os.length : Int) := by omega
  have r0 : (0 : Int) ≤ (r : Int) := by omega
  have r1 : (r : Int) < 16 := by omega
  have c6 := a.c6
  have cr := a.vr t ht
  rw [hr] at cr
  have cp := a.pin r r16
  have zp := a.z (23 + r)
  have l := a.l
  have lv := a.l2
  have A := Lib.hid a
  have HT := Lib.hid ht
  have HV := Lib.hid (show ((g.setP r true).v t).reg = r from hr)
  clear a e1 e2 hr ht
  generalize hL : K.os.length = L at c6 t1
  go_enter Try.func94, Try.ntmps94
  go_upto_region 9 with fail
  go_region
  have a2 := (A.out.setP r true r16).drew
  have u2 := ((Upto.refl (SG K) w).setCell (q := ⟨K.h, 23 + r, none⟩) (.inl (.inl rfl)) (.bool true)).drew
  clear c6
  generalize (w.setCell ⟨K.h, 23 + r, none⟩ (.bool true)).drew = w2 at a2 u2 ⊢
  clear cr cp zp lv
  have cr := a2.vr t HT.out
  rw [HV.out] at cr
  have lv := a2.l2
  go_wp2
  go_ret
  exact ⟨rfl, a2, u2⟩
set_option maxRecDepth 100000 in
set_option maxHeartbeats 16000000 in
theorem in_new (t b : Nat) (w : World) (a : GM K g w) (ht : t < K.os.length) (hr : (g.v t).reg < 0) (hR : K.R ≤ 16) (hb : (bst g K.R).1 = b) (b16 : b < 16) (hh : ∀ r, r < 16 → g.holds r < K.os.length)
    (hreg : 0 ≤ g.holds b → (g.v (g.holds b).toNat).reg = b) (hsp : 0 ≤ g.holds b → spills K.os g (g.holds b).toNat = true → 0 ≤ g.sp ∧ g.sp < 2048) (hn : (wds g.xs).length ≤ 999990)
    (hs : (opAt K.os t).k ≠ 1 → 0 ≤ ((g.fre K.os K.R).v t).spill ∧ ((g.fre K.os K.R).v t).spill < 2048) :
    Calls Try.prog 94 #[.pointer (some ⟨K.h, 0, none⟩), .int .i64 t] w fun e w' => e = .returned (.int .i64 (g.inR K.R t)) ∧ GM K (g.inG K.os K.R t) w' ∧ Upto (SG K) w w' := by
  have e1 : g.inR K.R t = b := by unfold Gm.inR; rw [if_pos hr, hb]
  have e2 : g.inG K.os K.R t = ((g.fre K.os K.R).fetch K.os b t).setP b true := by unfold Gm.inG; rw [if_pos hr, hb, Int.toNat_natCast]
  rw [e1, e2]
  have t0 : (0 : Int) ≤ (t : Int) := by omega
  have t1 : (t : Int) < (K.os.length : Int) := by omega
  have b0 : (0 : Int) ≤ (b : Int) := by omega
  have b1 : (b : Int) < 16 := by omega
  have c6 := a.c6
  have cr := a.vr t ht
  have l := a.l
  have lv := a.l2
  have FR := Lib.hid (free_any b w a hR hb b16 hh hreg hsp (by omega))
  have hn1 := fre_len K.os K.R g
  have HN := Lib.hid (show (wds (g.fre K.os K.R).xs).length ≤ 1000000 by omega)
  have A := Lib.hid a
  have HT := Lib.hid ht
  generalize g.fre K.os K.R = g1 at FR hs HN ⊢
  clear hn1 e1 e2 hb hh hreg hsp hn hR ht a
  generalize hL : K.os.length = L at c6 t1
  generalize hrr : (g.v t).reg = rr at cr hr
  obtain ⟨ok, hok⟩ : ∃ o, opAt K.os t = o := ⟨_, rfl⟩
  rw [hok] at hs
  have HO := Lib.hid hok
  clear hok
  by_cases hk : ok.k = 1
  · have e1 : (ok.k == 1) = true := by simpa using hk
    have HF := Lib.hid (show g1.fetch K.os b t = (g1.put (liC b ok.kn)).has b t from by unfold Gm.fetch; rw [HO.out, if_pos hk])
    have PU := Lib.hid (fun w a => put_any (K := K) (g := g1) (liC b ok.kn) w a (li_ok b ok.kn b0 b1) HN.out)
    have HA := Lib.hid (fun w a => has_any (K := K) (g := g1.put (liC b ok.kn)) b t w a b16 HT.out)
    rw [← HF.out] at HA
    have HV := Lib.hid (show (((g1.fetch K.os b t).setP b true).v t).reg = b from by rw [HF.out]; simp [Gm.has, Gm.setP, Gm.setR, Gm.setH, upd])
    clear HF
    generalize g1.fetch K.os b t = g3 at HA HV ⊢
    clear hs hk
    go_enter Try.func94, Try.ntmps94
    go_upto_region 4 with (go_at_call 159; refine FR.out.mono ?_; rintro e w1 ⟨rfl, a1, u1⟩)
    clear c6 cr lv FR A
    obtain ⟨kb, ko, ke, kl, kc, k0, k1, k2, k3, k4, k5, k6⟩ := op_cells a1 HT.out
    have c3 := a1.c3
    have l := a1.l
    rw [hL, ke] at c3
    rw [hL] at kc
    have A1 := Lib.hid a1
    have U1 := Lib.hid u1
    clear a1 u1 ke
    rw [HO.out] at k0 k1 k2 k3 k4 k5 k6
    go_upto_region 5 with fail
    have A2 := Lib.hid (A1.out.alloc (.cells #[.int .i64 ok.k, .int .i64 ok.w, .int .i64 ok.a, .int .i64 ok.b, .int .i64 ok.c, .int .u32 ok.kn, .int .i64 ok.n] 31))
    have U2 := Lib.hid (U1.out.alloc (.cells #[.int .i64 ok.k, .int .i64 ok.w, .int .i64 ok.a, .int .i64 ok.b, .int .i64 ok.c, .int .u32 ok.kn, .int .i64 ok.n] 31))
    have cs := A2.out.vs t HT.out
    have l2 := A2.out.l2
    have l := A2.out.l
    clear k0 k1 k2 k3 k4 k5 k6 c3 kl kc A1 U1
    go_upto_region 8 with (go_at_call 47; refine (PU.out _ A2.out).mono ?_; rintro e w3 ⟨rfl, a3, u3⟩; have A3 := Lib.hid a3; have U3 := Lib.hid (U2.out.trans u3); clear a3 u3)
    clear PU A2 U2 l l2 cs
    go_upto_region 9 with (go_at_call 160; refine (HA.out _ A3.out).mono ?_; rintro e w4 ⟨rfl, a4, u4⟩; have A4 := Lib.hid a4; have U4 := Lib.hid (U3.out.trans u4); clear a4 u4)
    clear HA A3 U3
    have cr := A4.out.vr t HT.out
    rw [show (g3.v t).reg = b from HV.out] at cr
    have cp := A4.out.pin b b16
    have zp := A4.out.z (23 + b)
    have l := A4.out.l
    have lv := A4.out.l2
    go_region
    have a5 := (A4.out.setP b true b16).drew
    have u5 := (U4.out.setCell (q := ⟨K.h, 23 + b, none⟩) (.inl (.inl rfl)) (.bool true)).drew
    clear cr cp zp lv l
    generalize (w4.setCell ⟨K.h, 23 + b, none⟩ (.bool true)).drew = w5 at a5 u5 ⊢
    have cr := a5.vr t HT.out
    rw [HV.out] at cr
    have lv := a5.l2
    go_wp2
    go_ret
    exact ⟨rfl, a5, u5⟩
  · have e1 : (ok.k == 1) = false := by simpa using hk
    obtain ⟨s0, s1⟩ := hs hk
    obtain ⟨sp, hsp⟩ : ∃ sp, (g1.v t).spill = sp := ⟨_, rfl⟩
    rw [hsp] at s0 s1
    have HF := Lib.hid (show g1.fetch K.os b t = (g1.put (ldsC b sp)).has b t from by unfold Gm.fetch; rw [HO.out, if_neg hk, hsp])
    have PU := Lib.hid (fun w a => put_any (K := K) (g := g1) (ldsC b sp) w a (lds_ok b _ b0 b1 s0 s1) HN.out)
    have HA := Lib.hid (fun w a => has_any (K := K) (g := g1.put (ldsC b sp)) b t w a b16 HT.out)
    rw [← HF.out] at HA
    have HV := Lib.hid (show (((g1.fetch K.os b t).setP b true).v t).reg = b from by rw [HF.out]; simp [Gm.has, Gm.setP, Gm.setR, Gm.setH, upd])
    clear HF
    generalize g1.fetch K.os b t = g3 at HA HV ⊢
    clear hs hk
    have HSP := Lib.hid hsp
    clear hsp
    go_enter Try.func94, Try.ntmps94
    go_upto_region 4 with (go_at_call 159; refine FR.out.mono ?_; rintro e w1 ⟨rfl, a1, u1⟩)
    clear c6 cr lv FR A
    obtain ⟨kb, ko, ke, kl, kc, k0, k1, k2, k3, k4, k5, k6⟩ := op_cells a1 HT.out
    have c3 := a1.c3
    have l := a1.l
    rw [hL, ke] at c3
    rw [hL] at kc
    have A1 := Lib.hid a1
    have U1 := Lib.hid u1
    clear a1 u1 ke
    rw [HO.out] at k0 k1 k2 k3 k4 k5 k6
    go_upto_region 5 with fail
    have A2 := Lib.hid (A1.out.alloc (.cells #[.int .i64 ok.k, .int .i64 ok.w, .int .i64 ok.a, .int .i64 ok.b, .int .i64 ok.c, .int .u32 ok.kn, .int .i64 ok.n] 31))
    have U2 := Lib.hid (U1.out.alloc (.cells #[.int .i64 ok.k, .int .i64 ok.w, .int .i64 ok.a, .int .i64 ok.b, .int .i64 ok.c, .int .u32 ok.kn, .int .i64 ok.n] 31))
    have cs := A2.out.vs t HT.out
    have l2 := A2.out.l2
    have l := A2.out.l
    clear k0 k1 k2 k3 k4 k5 k6 c3 kl kc A1 U1
    rw [HSP.out] at cs
    go_upto_region 8 with (go_at_call 47; refine (PU.out _ A2.out).mono ?_; rintro e w3 ⟨rfl, a3, u3⟩; have A3 := Lib.hid a3; have U3 := Lib.hid (U2.out.trans u3); clear a3 u3)
    clear PU A2 U2 l l2 cs
    go_upto_region 9 with (go_at_call 160; refine (HA.out _ A3.out).mono ?_; rintro e w4 ⟨rfl, a4, u4⟩; have A4 := Lib.hid a4; have U4 := Lib.hid (U3.out.trans u4); clear a4 u4)
    clear HA A3 U3
    have cr := A4.out.vr t HT.out
    rw [show (g3.v t).reg = b from HV.out] at cr
    have cp := A4.out.pin b b16
    have zp := A4.out.z (23 + b)
    have l := A4.out.l
    have lv := A4.out.l2
    go_region
    have a5 := (A4.out.setP b true b16).drew
    have u5 := (U4.out.setCell (q := ⟨K.h, 23 + b, none⟩) (.inl (.inl rfl)) (.bool true)).drew
    clear cr cp zp lv l
    generalize (w4.setCell ⟨K.h, 23 + b, none⟩ (.bool true)).drew = w5 at a5 u5 ⊢
    have cr := a5.vr t HT.out
    rw [HV.out] at cr
    have lv := a5.l2
    go_wp2
    go_ret
    exact ⟨rfl, a5, u5⟩
end Go.Proofs.Ytcjcmnnhmajocab.Gn
namespace Go.Proofs.Ytcjcmnnhmajocab.Gn
open Go.RowKit Kt Ic Hr Ho Me
set_option linter.unusedVariables false
set_option linter.unusedSimpArgs false
variable {K : Gk} {g : Gm}
/-- a register can be made free -/
structure FOk (os : List Opr) (R : Nat) (g : Gm) (b : Nat) : Prop where
  hb : (bst g R).1 = b
  b16 : b < 16
  hreg : 0 ≤ g.holds b → (g.v (g.holds b).toNat).reg = b
  hsp : 0 ≤ g.holds b → spills os g (g.holds b).toNat = true → 0 ≤ g.sp ∧ g.sp < 2048
theorem clr_xs (g : Gm) (n : Nat) : (g.clr n).xs = g.xs := by
  induction n with
  | zero => rfl
  | succ n ih => rw [Gm.clr]; split <;> exact ih
theorem clr_holds (g : Gm) (n j : Nat) : (g.clr n).holds j = g.holds j ∨ (j < n ∧ (g.clr n).holds j = -1) := by
  induction n with
  | zero => exact .inl rfl
  | succ n ih =>
    rw [Gm.clr]; split
    · show upd (g.clr n).holds n (-1) j = _ ∨ (_ ∧ upd (g.clr n).holds n (-1) j = -1)
      unfold upd; by_cases e : j = n
      · rw [if_pos e]; exact .inr ⟨by omega, rfl⟩
      · rw [if_neg e]; rcases ih with h | h
        · exact .inl h
        · exact .inr ⟨by omega, h.2⟩
    · rcases ih with h | h
      · exact .inl h
      · exact .inr ⟨by omega, h.2⟩
theorem clr_lt {g : Gm} {L : Nat} (hh : ∀ r, r < 16 → g.holds r < L) (n r : Nat) (hr : r < 16) : (g.clr n).holds r < L := by
  rcases clr_holds g n r with h | h
  · rw [h]; exact hh r hr
  · omega
theorem clr_yes {g : Gm} {r : Nat} {t : Nat} (hx : (g.clr r).holds r = t) (hn : nxt (g.clr r) t = 1073741824) : g.clr (r + 1) = ((g.clr r).setH r (-1)).setR t (-1) := by
  rw [Gm.clr, hx, Int.toNat_natCast, if_pos ⟨by omega, hn⟩]
theorem clr_no {g : Gm} {r : Nat} (h : ¬ (0 ≤ (g.clr r).holds r ∧ nxt (g.clr r) ((g.clr r).holds r).toNat = 1073741824)) : g.clr (r + 1) = g.clr r := by rw [Gm.clr, if_neg h]
theorem emp_yes {g : Gm} {r n : Nat} (h : g.holds r < 0) : emp g r (n + 1) = some r := by rw [emp, if_pos h]
theorem emp_no {g : Gm} {r n : Nat} (h : ¬ g.holds r < 0) : emp g r (n + 1) = emp g (r + 1) n := by rw [emp, if_neg h]
set_option maxRecDepth 100000 in
set_option maxHeartbeats 16000000 in
theorem place_any (w : World) (a : GM K g w) (hR : K.R ≤ 16) (hh : ∀ r, r < 16 → g.holds r < K.os.length) (hf : emp (g.clr K.R) 0 K.R = none → ∃ b, FOk K.os K.R (g.clr K.R) b) (hn : (wds g.xs).length ≤ 1000000) :
    Calls Try.prog 161 #[.pointer (some ⟨K.h, 0, none⟩)] w fun e w' => e = .returned (.int .i64 (g.plR K.R)) ∧ GM K (g.plG K.os K.R) w' ∧ Upto (SG K) w w' := by
  have c5 := a.c5
  have l := a.l
  have A := Lib.hid a
  have HR := Lib.hid hR
  have HH := Lib.hid hh
  have HF := Lib.hid hf
  have HN := Lib.hid hn
  clear a hR hh hf hn
  have HPR := Lib.hid (show g.plR K.R = match emp (g.clr K.R) 0 K.R with | some r => (r : Int) | none => (bst (g.clr K.R) K.R).1 from rfl)
  have HPG := Lib.hid (show g.plG K.os K.R = match emp (g.clr K.R) 0 K.R with | some r => g.clr K.R | none => (g.clr K.R).fre K.os K.R from rfl)
  generalize g.plR K.R = pr at HPR ⊢
  generalize g.plG K.os K.R = pg at HPG ⊢
  have HRR := Lib.hid (rfl : K.R = K.R)
  generalize hRR : K.R = R at c5 HR
  go_enter Try.func161, Try.ntmps161
  go_wp2
  go_loopg [10] R (fun k i wr => ∃ j : Nat, k = R - j ∧ j ≤ R ∧ i = .int .i64 j ∧ Hid (GM K (g.clr j) wr) ∧ Hid (Upto (SG K) w wr))
  case atStart => exact ⟨0, rfl, Nat.zero_le _, rfl, A, Lib.hid (Upto.refl _ _)⟩
  case round =>
    obtain ⟨j, hk, hj, rfl, G, U⟩ := hrel
    by_cases hlt : j < R
    · have hlt' : (j : Int) < (R : Int) := by omega
      have j16 : j < 16 := by have := HR.out; omega
      have i0 : (0 : Int) ≤ (j : Int) := by omega
      have i1 : (j : Int) < 16 := by omega
      have ch := G.out.hol j j16
      have zh := G.out.z (7 + j)
      have l := G.out.l
      have h1 := clr_lt HH.out j j j16
      have HK := Lib.hid hk
      have HLT := Lib.hid hlt
      clear hk hlt
      obtain ⟨x, hx⟩ : ∃ x, (g.clr j).holds j = x := ⟨_, rfl⟩
      rw [hx] at ch h1
      have HX := Lib.hid hx
      clear hx
      by_cases hx0 : 0 ≤ x
      · obtain ⟨t, rfl⟩ := Int.eq_ofNat_of_zero_le hx0
        have ht : t < K.os.length := by omega
        have NX := Lib.hid (fun w a => next_any (K := K) (g := g.clr j) t w a ht)
        have HT := Lib.hid ht
        have t0 : (0 : Int) ≤ (t : Int) := hx0
        have t1 : (t : Int) < (K.os.length : Int) := h1
        obtain ⟨n, hnx⟩ : ∃ n, nxt (g.clr j) t = n := ⟨_, rfl⟩
        rw [hnx] at NX
        have HNX := Lib.hid hnx
        clear hnx h1 ht
        by_cases hn0 : n = 1073741824
        · have e1 : (n == 1073741824) = true := by simpa using hn0
          have HC := Lib.hid (clr_yes HX.out (HNX.out.trans hn0))
          clear hn0
          have a2 := G.out.setH j (-1) j16
          have a3 := a2.setR t (-1) HT.out
          have u3 := (U.out.setCell (q := ⟨K.h, 7 + j, none⟩) (.inl (.inl rfl)) (.int .i64 (-1))).setCell (q := ⟨K.vb, t * 3, none⟩) (.inl (.inr (.inl rfl))) (.int .i64 (-1))
          have A3 := Lib.hid a3
          have U3 := Lib.hid u3
          have c6 := G.out.c6
          have cr := G.out.vr t HT.out
          have zv := G.out.zv (t * 3)
          have ne := G.out.ne
          have lv := G.out.l2
          clear a2 a3 u3
          generalize hL : K.os.length = L at c6 t1
          go_wp2_with (go_at_call 194; refine (NX.out _ G.out).mono ?_; rintro e w' ⟨rfl, rfl⟩)
          go_roundg (R - (j + 1))
          case measure => have := HK.out; have := HLT.out; omega
          case rel => exact ⟨j + 1, rfl, HLT.out, by simp, by rw [HC.out]; exact A3, U3⟩
        · have e1 : (n == 1073741824) = false := by simpa using hn0
          have HC := Lib.hid (clr_no (show ¬ (0 ≤ (g.clr j).holds j ∧ nxt (g.clr j) ((g.clr j).holds j).toNat = 1073741824) from by rw [HX.out, Int.toNat_natCast, HNX.out]; exact fun h => hn0 h.2))
          clear hn0
          go_wp2_with (go_at_call 194; refine (NX.out _ G.out).mono ?_; rintro e w' ⟨rfl, rfl⟩)
          go_roundg (R - (j + 1))
          case measure => have := HK.out; have := HLT.out; omega
          case rel => exact ⟨j + 1, rfl, HLT.out, by simp, by rw [HC.out]; exact G, U⟩
      · have HC := Lib.hid (clr_no (show ¬ (0 ≤ (g.clr j).holds j ∧ nxt (g.clr j) ((g.clr j).holds j).toNat = 1073741824) from by rw [HX.out]; exact fun h => hx0 h.1))
        clear h1
        go_wp2
        go_roundg (R - (j + 1))
        case measure => have := HK.out; have := HLT.out; omega
        case rel => exact ⟨j + 1, rfl, HLT.out, by simp, by rw [HC.out]; exact G, U⟩
    · obtain rfl : j = R := by omega
      clear hj hk l
      have c5 := G.out.c5
      have l := G.out.l
      rw [hRR] at c5
      rw [hRR] at HPR HPG HF
      have g1n : (wds (g.clr j).xs).length ≤ 1000000 := by rw [clr_xs]; exact HN.out
      have g1h : ∀ r, r < 16 → (g.clr j).holds r < K.os.length := clr_lt HH.out j
      have HN := Lib.hid g1n
      have HH := Lib.hid g1h
      clear g1n g1h
      generalize g.clr j = g1 at G HPR HPG HF HN HH
      go_wp2
      go_loopg [44] j (fun k i wx => ∃ q : Nat, k = j - q ∧ q ≤ j ∧ i = .int .i64 q ∧ Hid (emp g1 0 j = emp g1 q (j - q)) ∧ wr = wx)
      case atStart => exact ⟨0, rfl, Nat.zero_le _, rfl, Lib.hid rfl, rfl⟩
      case round =>
        obtain ⟨q, hk, hj, rfl, HE, rfl⟩ := hrel
        by_cases hlt : q < j
        · have hlt' : (q : Int) < (j : Int) := by omega
          have q16 : q < 16 := by have := HR.out; omega
          have i0 : (0 : Int) ≤ (q : Int) := by omega
          have i1 : (q : Int) < 16 := by omega
          have ch := G.out.hol q q16
          obtain ⟨x, hx⟩ : ∃ x, g1.holds q = x := ⟨_, rfl⟩
          rw [hx] at ch
          have HX := Lib.hid hx
          have hjq : j - q = (j - (q + 1)) + 1 := by omega
          have HJ := Lib.hid hjq
          have HLT := Lib.hid hlt
          have HK := Lib.hid hk
          clear hx hjq hlt hk
          by_cases hx0 : x < 0
          · have he : emp g1 0 j = some q := by rw [HE.out, HJ.out]; exact emp_yes (by rw [HX.out]; exact hx0)
            have h1 : pr = q := by rw [HPR.out, he]
            have h2 : pg = g1 := by rw [HPG.out, he]
            have H2 := Lib.hid h2
            have H1 := Lib.hid h1
            clear he h1 h2
            go_wp2
            go_ret
            exact ⟨by rw [H1.out]; rfl, by rw [H2.out]; exact G.out, U.out⟩
          · have HE2 := Lib.hid (show emp g1 0 j = emp g1 (q + 1) (j - (q + 1)) from by rw [HE.out, HJ.out]; exact emp_no (by rw [HX.out]; exact hx0))
            go_wp2
            go_roundg (j - (q + 1))
            case measure => have := HK.out; have := HLT.out; omega
            case rel => exact ⟨q + 1, rfl, HLT.out, by simp, HE2, rfl⟩
        · obtain rfl : q = j := by omega
          have he : emp g1 0 q = none := by rw [HE.out, Nat.sub_self]; rfl
          obtain ⟨b, fb⟩ := HF.out he
          have h1 : pr = b := by rw [HPR.out, he]; exact fb.hb
          have h2 : pg = g1.fre K.os K.R := by rw [HPG.out, he, hRR]
          have FR := Lib.hid (free_any b wr G.out (by rw [hRR]; exact HR.out) (by rw [hRR]; exact fb.hb) fb.b16 HH.out fb.hreg fb.hsp HN.out)
          have H2 := Lib.hid h2
          have H1 := Lib.hid h1
          clear he fb h1 h2 hj hk c5
          go_wp2_with (go_at_call 159; refine FR.out.mono ?_; rintro e w3 ⟨rfl, a3, u3⟩)
          go_ret
          exact ⟨by rw [H1.out]; rfl, by rw [H2.out]; exact a3, U.out.trans u3⟩
end Go.Proofs.Ytcjcmnnhmajocab.Gn
