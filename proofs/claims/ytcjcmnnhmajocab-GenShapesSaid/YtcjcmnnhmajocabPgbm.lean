/- crossgrainlaw3.GenShapes: the walk. -/
import Derived.Deep.QuietTactic
import Derived.BigQuiet
import Derived.LoopN
import Derived.Outline
import Derived.Test.YtcjcmnnhmajocabPgbi
import Derived.Test.YtcjcmnnhmajocabPgbj
import Derived.Test.YtcjcmnnhmajocabPgbk
import Derived.Test.YtcjcmnnhmajocabPgbl
namespace Go.Proofs.Ytcjcmnnhmajocab.Gn
open Go.RowKit Kt Ic Hr Ho Me
set_option linter.unusedVariables false
set_option linter.unusedSimpArgs false
def codE (er r : Int) : Int := if er ≠ 0 then er else if r < 3 ∨ 16 < r then 4 else 0
theorem code_all (os : List Opr) (ao : Option Addr) (cap : Nat) (pc cnt byt r er z : Int) (w : World) (hops : Ops os ao cap w) (hc : chk os cnt byt = (er, z)) (HK : ∀ t, 0 ≤ (opAt os t).kn ∧ (opAt os t).kn < 4294967296) (hp : 0 ≤ pc ∧ pc < 4294967296) :
    Calls Try.prog 11 #[.agg #[.int .u32 pc, .int .i64 cnt, .int .i64 byt, .slice ao os.length cap], .int .i64 r] w fun e w' => ∃ v, e = .returned (.tuple #[v, .int .i64 (codE er r)]) ∧ (codE er r ≠ 0 → v = .slice none 0 0) ∧ (codE er r = 0 → er = 0 ∧ 3 ≤ r ∧ r ≤ 16 ∧ ∃ b c, v = .slice (some ⟨b, 0, none⟩) (wds (codeG os r.toNat pc cnt).xs).length c ∧ Sl (wds (codeG os r.toNat pc cnt).xs) (some ⟨b, 0, none⟩) c w') ∧ Below w.heap.size w w' := by
  unfold codE
  by_cases he : er ≠ 0
  · rw [if_pos he]
    exact (code_bad os ao cap pc cnt byt r er z w hops hc he).mono fun e w' h => ⟨_, h.1, fun _ => rfl, fun h0 => absurd h0 he, h.2⟩
  · rw [if_neg he]
    have he' : er = 0 := Classical.not_not.1 he
    subst he'
    by_cases hr : r < 3 ∨ 16 < r
    · rw [if_pos hr]
      exact (code_regs os ao cap pc cnt byt r z w hops hc hr).mono fun e w' h => ⟨_, h.1, fun _ => rfl, fun h0 => absurd h0 (by decide), h.2⟩
    · rw [if_neg hr]
      obtain ⟨R, rfl⟩ := Int.eq_ofNat_of_zero_le (show 0 ≤ r by omega)
      exact (code_walk os ao cap pc cnt byt z R w hops hc (by omega) (by omega) HK hp).mono fun e w' ⟨b, c, h1, h2, _, h4⟩ => ⟨_, h1, fun h0 => absurd rfl h0, fun _ => ⟨rfl, by omega, by omega, b, c, by rw [Int.toNat_natCast], by rw [Int.toNat_natCast]; exact h2⟩, h4⟩
theorem Bx.put3 {b : Nat} {A B C D E : Value} {W : World} (a : Bx b #[A, B, C, D] W) : Bx b #[A, B, C, E] (W.setCell ⟨b, 3, none⟩ E) := by
  refine ⟨by simpa using a.1, fun j v hj => ?_, fun j => by simpa using a.2.2 j⟩
  match j, hj with
  | 0, hj => exact (HM.cell_other (by decide)).trans (a.2.1 0 _ hj)
  | 1, hj => exact (HM.cell_other (by decide)).trans (a.2.1 1 _ hj)
  | 2, hj => exact (HM.cell_other (by decide)).trans (a.2.1 2 _ hj)
  | 3, hj =>
    obtain rfl : E = v := by simpa using hj
    exact World.cell?_setCell_same _ _ _ (a.2.1 3 _ rfl)
  | n + 4, hj => simp at hj
set_option maxRecDepth 100000 in
set_option maxHeartbeats 16000000 in
theorem shapes_some (os : List Opr) (g off cap : Nat) (pc cnt byt r : Int) (w : World) (hops : Ops os (some ⟨g, off, none⟩) cap w) (h0 : 0 < os.length) (hreach : os.length * 56 ≤ 140737488351232) (HK : ∀ t, 0 ≤ (opAt os t).kn ∧ (opAt os t).kn < 4294967296) (hp : 0 ≤ pc ∧ pc < 4294967296) :
    Calls Try.prog 3 #[.agg #[.int .u32 pc, .int .i64 cnt, .int .i64 byt, .slice (some ⟨g, off, none⟩) os.length cap], .int .i64 r] w fun e w' => e = .returned (.bool true) ∧ Below w.heap.size w w' := by
  obtain ⟨i0, z0, hi0, hz0, hs0, hb0, hzc⟩ := op_info
  have HI := Lib.hid hi0
  have HZ := Lib.hid hz0
  have HS := Lib.hid hs0
  have HB := Lib.hid hb0
  have HC := Lib.hid hzc
  have u0 := ((Upto.refl (fun _ => False) w).alloc (.cells #[.int .u32 pc, .int .i64 cnt, .int .i64 byt, .slice (some ⟨g, off, none⟩) os.length cap] 25)).alloc (.cells #[.int .u32 pc, .int .i64 cnt, .int .i64 byt, .slice (some ⟨g, off, none⟩) os.length cap] 25)
  have HO := Lib.hid (ops_upto hops u0 (fun _ _ _ => id))
  have U0 := Lib.hid u0
  have B0 := Lib.hid ((Bx.new w #[.int .u32 pc, .int .i64 cnt, .int .i64 byt, .slice (some ⟨g, off, none⟩) os.length cap] 25).upto ((Upto.refl (fun _ => False) _).alloc (.cells #[.int .u32 pc, .int .i64 cnt, .int .i64 byt, .slice (some ⟨g, off, none⟩) os.length cap] 25)) id)
  have B1 : Hid (Bx (w.heap.size + 1) #[.int .u32 pc, .int .i64 cnt, .int .i64 byt, .slice (some ⟨g, off, none⟩) os.length cap] ((w.alloc (.cells #[.int .u32 pc, .int .i64 cnt, .int .i64 byt, .slice (some ⟨g, off, none⟩) os.length cap] 25)).alloc (.cells #[.int .u32 pc, .int .i64 cnt, .int .i64 byt, .slice (some ⟨g, off, none⟩) os.length cap] 25))) := by
    have := Bx.new (w.alloc (.cells #[.int .u32 pc, .int .i64 cnt, .int .i64 byt, .slice (some ⟨g, off, none⟩) os.length cap] 25)) #[.int .u32 pc, .int .i64 cnt, .int .i64 byt, .slice (some ⟨g, off, none⟩) os.length cap] 25
    rw [show (w.alloc (.cells #[.int .u32 pc, .int .i64 cnt, .int .i64 byt, .slice (some ⟨g, off, none⟩) os.length cap] 25)).heap.size = w.heap.size + 1 by simp] at this
    exact this
  have hcap := hops.1
  have hgs : g < w.heap.size := by obtain ⟨g', off', e, hg, _⟩ := hops.2.2 h0; cases e; exact hg
  have hmx := hops.2.1
  have HKN := Lib.hid HK
  have HP := Lib.hid hp
  have HR := Lib.hid hreach
  clear hi0 hz0 hs0 hb0 hzc hops u0 HK hp hreach
  go_enter Try.func3, Try.ntmps3
  go_upto_region 2 with fail
  have hA : ((w.alloc (.cells #[.int .u32 pc, .int .i64 cnt, .int .i64 byt, .slice (some ⟨g, off, none⟩) os.length cap] 25)).alloc (.cells #[.int .u32 pc, .int .i64 cnt, .int .i64 byt, .slice (some ⟨g, off, none⟩) os.length cap] 25)).heap.size = w.heap.size + 1 + 1 := by simp
  generalize (w.alloc (.cells #[.int .u32 pc, .int .i64 cnt, .int .i64 byt, .slice (some ⟨g, off, none⟩) os.length cap] 25)).alloc (.cells #[.int .u32 pc, .int .i64 cnt, .int .i64 byt, .slice (some ⟨g, off, none⟩) os.length cap] 25) = w0 at HO U0 B0 B1 hA ⊢
  have b3 := B0.out.2.1 3 _ rfl
  have d3 := B1.out.2.1 3 _ rfl
  have z3 := B1.out.2.2 3
  have l0 := B0.out.1
  have l1 := B1.out.1
  go_upto_region 3 with (at_builtin; refine wpList_append_grows _ rfl (.const (.slice none 0 0)) (.tmp 13) 23 rfl 31 i0 z0 7 56 Try.underlying23 HI.out HZ.out HS.out HB.out HC.out (by decide) none 0 0 [] rfl (fun _ => ⟨rfl, rfl⟩) rfl (fun b hb => nomatch hb) ⟨g, off, none⟩ os.length cap (flat os) rfl ?c0 ?c1 ?c2 ?c3 ?c4 ?c5 ?grow)
  case c0 => exact flat_len os
  case c1 =>
    intro j u hj
    obtain ⟨g', off', e, hg, hc⟩ := HO.out.flat h0
    simp only [Option.some.injEq, Addr.mk.injEq, and_true] at e
    obtain ⟨rfl, rfl⟩ := e
    exact hc j u hj
  case c2 => exact flat_one os
  case c3 => omega
  case c4 => have := HR.out; unfold maxLen; omega
  case c5 => have := HR.out; omega
  case grow =>
    intro v' w1 hown hgrow
    have hbel := (Below.refl _ _).grown hgrow (Nat.le_refl _) (fun k h => by cases h)
    obtain ⟨g1, c1, rfl, hg1, hO⟩ := Ops.of_own (os := os) (by simpa using hown) h0
    have u1 := Upto.of_below (S := fun _ => False) hbel
    have B01 := Lib.hid (B0.out.upto u1 id)
    have b11 := B1.out.upto u1 id
    have d3 := b11.2.1 3 _ rfl
    have z3 := b11.2.2 3
    have l1' := b11.1
    have B11 := Lib.hid b11
    have HO1 := Lib.hid (ops_upto HO.out u1 (fun _ _ _ => id))
    have HP1 := Lib.hid hO
    have U1 := Lib.hid (U0.out.trans u1)
    clear hown hgrow hbel u1 b11 hO B0 B1 HO U0 b3 l0 l1 HI HZ HS HB HC
    go_upto_region 3 with fail
    have vs := (Upto.refl (fun i => i = w.heap.size + 1) w1).setCell (q := ⟨w.heap.size + 1, 3, none⟩) (.inl rfl) (.slice (some ⟨g1, 0, none⟩) os.length c1)
    have B02 := Lib.hid (B01.out.upto vs (by omega))
    have B12 := Lib.hid (Bx.put3 (E := .slice (some ⟨g1, 0, none⟩) os.length c1) B11.out)
    have HO2 := Lib.hid (ops_upto HO1.out vs (fun q hq h0 => by cases hq; show ¬ g = _; omega))
    have HP2 := Lib.hid (ops_upto HP1.out vs (fun q hq h0 => by cases hq; show ¬ g1 = _; omega))
    have U2 := Lib.hid (U1.out.setCell (q := ⟨w.heap.size + 1, 3, none⟩) (.inr (by show w.heap.size ≤ w.heap.size + 1; omega)) (.slice (some ⟨g1, 0, none⟩) os.length c1))
    clear vs B01 B11 HO1 HP1 U1 d3 z3 l1'
    generalize w1.setCell ⟨w.heap.size + 1, 3, none⟩ (.slice (some ⟨g1, 0, none⟩) os.length c1) = w2 at B02 B12 HO2 HP2 U2 ⊢
    obtain ⟨⟨er, z⟩, hc⟩ : ∃ p, chk os cnt byt = p := ⟨_, rfl⟩
    have CD := Lib.hid (code_all os (some ⟨g, off, none⟩) cap pc cnt byt r er z w2 HO2.out hc HKN.out HP.out)
    have CK := Lib.hid (fun w h => rcheck_any os (some ⟨g1, 0, none⟩) c1 pc cnt byt w h)
    rw [hc] at CK
    unfold errs at CK
    dsimp only at CK
    have HCK := Lib.hid hc
    clear hc
    obtain ⟨E, hE⟩ : ∃ E, codE er r = E := ⟨_, rfl⟩
    rw [hE] at CD
    have HE := Lib.hid hE
    clear hE
    have b0 := B02.out.2.1 0 _ rfl
    have b1 := B02.out.2.1 1 _ rfl
    have b2 := B02.out.2.1 2 _ rfl
    have b3 := B02.out.2.1 3 _ rfl
    have l0 := B02.out.1
    go_upto_region 4 with (go_at_call 11; refine CD.out.mono ?_; rintro e w3 ⟨v, rfl, hv0, hv1, b⟩; have u3 := Upto.of_below (S := fun _ => False) b; have B03 := Lib.hid (B02.out.upto u3 id); have B13 := Lib.hid (B12.out.upto u3 id); have HO3 := Lib.hid (ops_upto HO2.out u3 (fun _ _ _ => id)); have HP3 := Lib.hid (ops_upto HP2.out u3 (fun _ _ _ => id)); have U3 := Lib.hid (U2.out.trans u3); have V0 := Lib.hid hv0; have V1 := Lib.hid hv1; clear b u3 hv0 hv1)
    clear b0 b1 b2 b3 l0 CD B02 B12 HO2 HP2 U2
    have d3 := B13.out.2.1 3 _ rfl
    have l1 := B13.out.1
    go_wp2
    go_loopg [25] os.length (fun k ix wr => ∃ j : Nat, k = os.length - j ∧ j ≤ os.length ∧ ix = .int .i64 j ∧ Hid (Bx w.heap.size #[.int .u32 pc, .int .i64 cnt, .int .i64 byt, .slice (some ⟨g, off, none⟩) os.length cap] wr) ∧ Hid (Bx (w.heap.size + 1) #[.int .u32 pc, .int .i64 cnt, .int .i64 byt, .slice (some ⟨g1, 0, none⟩) os.length c1] wr) ∧ Hid (Ops os (some ⟨g, off, none⟩) cap wr) ∧ Hid (Ops os (some ⟨g1, 0, none⟩) c1 wr) ∧ Hid (E = 0 → er = 0 ∧ 3 ≤ r ∧ r ≤ 16 ∧ ∃ b c, v = .slice (some ⟨b, 0, none⟩) (wds (codeG os r.toNat pc cnt).xs).length c ∧ Sl (wds (codeG os r.toNat pc cnt).xs) (some ⟨b, 0, none⟩) c wr) ∧ Hid (Upto (fun _ => False) w wr))
    case atStart => exact ⟨0, rfl, Nat.zero_le _, rfl, B03, B13, HO3, HP3, V1, U3⟩
    case round =>
      obtain ⟨j, hk, hj, rfl, BA, BO, OA, OO, VV, U⟩ := hrel
      by_cases hlt : j < os.length
      · have hlt' : (j : Int) < (os.length : Int) := by omega
        have j0 : (0 : Int) ≤ (j : Int) := by omega
        obtain ⟨g', off', e, hg, hc⟩ := OA.out.2.2 (by omega)
        cases e
        obtain ⟨g', off', e, hg2, hd⟩ := OO.out.2.2 (by omega)
        cases e
        obtain ⟨o, ho⟩ : ∃ o, os[j]? = some o := ⟨os[j], List.getElem?_eq_getElem hlt⟩
        have c0' : wr.cell? ⟨g, off + j * 7, none⟩ = some (.int .i64 o.k) := hc j o ho 0 _ rfl
        have d0' : wr.cell? ⟨g1, j * 7, none⟩ = some (.int .i64 o.k) := by have := hd j o ho 0 _ rfl; rw [Nat.zero_add] at this; exact this
        have c1' : wr.cell? ⟨g, off + j * 7 + 1, none⟩ = some (.int .i64 o.w) := hc j o ho 1 _ rfl
        have d1' : wr.cell? ⟨g1, j * 7 + 1, none⟩ = some (.int .i64 o.w) := by have := hd j o ho 1 _ rfl; rw [Nat.zero_add] at this; exact this
        have c2' : wr.cell? ⟨g, off + j * 7 + 2, none⟩ = some (.int .i64 o.a) := hc j o ho 2 _ rfl
        have d2' : wr.cell? ⟨g1, j * 7 + 2, none⟩ = some (.int .i64 o.a) := by have := hd j o ho 2 _ rfl; rw [Nat.zero_add] at this; exact this
        have c3' : wr.cell? ⟨g, off + j * 7 + 3, none⟩ = some (.int .i64 o.b) := hc j o ho 3 _ rfl
        have d3' : wr.cell? ⟨g1, j * 7 + 3, none⟩ = some (.int .i64 o.b) := by have := hd j o ho 3 _ rfl; rw [Nat.zero_add] at this; exact this
        have c4' : wr.cell? ⟨g, off + j * 7 + 4, none⟩ = some (.int .i64 o.c) := hc j o ho 4 _ rfl
        have d4' : wr.cell? ⟨g1, j * 7 + 4, none⟩ = some (.int .i64 o.c) := by have := hd j o ho 4 _ rfl; rw [Nat.zero_add] at this; exact this
        have c5' : wr.cell? ⟨g, off + j * 7 + 5, none⟩ = some (.int .u32 o.kn) := hc j o ho 5 _ rfl
        have d5' : wr.cell? ⟨g1, j * 7 + 5, none⟩ = some (.int .u32 o.kn) := by have := hd j o ho 5 _ rfl; rw [Nat.zero_add] at this; exact this
        have c6' : wr.cell? ⟨g, off + j * 7 + 6, none⟩ = some (.int .i64 o.n) := hc j o ho 6 _ rfl
        have d6' : wr.cell? ⟨g1, j * 7 + 6, none⟩ = some (.int .i64 o.n) := by have := hd j o ho 6 _ rfl; rw [Nat.zero_add] at this; exact this
        have heq := eq_op o.k o.w o.a o.b o.c o.kn o.n
        have b3 := BA.out.2.1 3 _ rfl
        have l0 := BA.out.1
        have d3 := BO.out.2.1 3 _ rfl
        have l1 := BO.out.1
        have hcap1 := OO.out.1
        have HK := Lib.hid hk
        have HLT := Lib.hid hlt
        have jm : (j : Int) + 1 ≤ 9223372036854775807 := by have := HR.out; omega
        clear hc hd ho hk hlt
        go_wp2
        go_quiet (fail)
        go_wp2
        go_roundg (os.length - (j + 1))
        case measure => have := HK.out; have := HLT.out; omega
        case rel =>
          have uq : Upto (fun _ => False) wr (wr.drewN nq) := ⟨rfl, rfl, rfl, Nat.le_refl _, fun _ _ _ => rfl⟩
          exact ⟨j + 1, rfl, HLT.out, by simp, BA.out.upto uq id, BO.out.upto uq id, ops_upto OA.out uq (fun _ _ _ => id), ops_upto OO.out uq (fun _ _ _ => id), fun h0 => by
            obtain ⟨k1, k2, k3, b, c, k4, k5⟩ := VV.out h0
            exact ⟨k1, k2, k3, b, c, k4, sl_upto k5 uq (fun _ _ _ => id)⟩, U.out.trans uq⟩
      · obtain rfl : j = os.length := by omega
        clear hj hk hlt
        have d0 := BO.out.2.1 0 _ rfl
        have d1 := BO.out.2.1 1 _ rfl
        have d2 := BO.out.2.1 2 _ rfl
        have d3 := BO.out.2.1 3 _ rfl
        have l1 := BO.out.1
        by_cases he : er = 0
        · by_cases hr : r < 3 ∨ 16 < r
          · have hE : E = 4 := by rw [← HE.out]; unfold codE; rw [if_neg (by rw [he]; decide), if_pos hr]
            have hv := V0.out (by rw [hE]; decide)
            subst hE hv he
            rcases (show r < 3 ∨ (¬ r < 3 ∧ 16 < r) by omega) with h | ⟨h, h2⟩
            · clear hr
              go_wp2_with (go_at_call 12; refine (CK.out _ OO.out).mono ?_; rintro e w5 ⟨rfl, b5⟩; have U5 := Lib.hid (U.out.trans (Upto.of_below (S := fun _ => False) b5)); clear b5)
              exact bodyPost_ret (v := .bool true) (by simp [results, Try.results3, go_sem]) rfl ⟨rfl, U5.out.below (Nat.le_refl _) (fun _ _ => id)⟩
            · clear hr
              go_wp2_with (go_at_call 12; refine (CK.out _ OO.out).mono ?_; rintro e w5 ⟨rfl, b5⟩; have U5 := Lib.hid (U.out.trans (Upto.of_below (S := fun _ => False) b5)); clear b5)
              exact bodyPost_ret (v := .bool true) (by simp [results, Try.results3, go_sem]) rfl ⟨rfl, U5.out.below (Nat.le_refl _) (fun _ _ => id)⟩
          · have hE : E = 0 := by rw [← HE.out]; unfold codE; rw [if_neg (by rw [he]; decide), if_neg hr]
            obtain ⟨_, r3, r16, b, c, hv, hsl⟩ := VV.out hE
            subst hE hv he
            obtain ⟨R, rfl⟩ := Int.eq_ofNat_of_zero_le (show 0 ≤ r by omega)
            rw [Int.toNat_natCast] at *
            have hx : ¬ (R : Int) < 3 := by omega
            have hy : ¬ (16 : Int) < (R : Int) := by omega
            have hc1 : (chk os cnt byt).1 = 0 := by rw [HCK.out]
            have CS := code_sx (R := R) hc1 (by omega) (by omega) HKN.out HP.out
            have hn := (chk_of hc1).2.1
            have ST := Lib.hid (fun w hs => straight_any (codeG os R pc cnt).xs (some ⟨b, 0, none⟩) c pc cnt byt (some ⟨g1, 0, none⟩) os.length c1 R w hs CS.bd CS.ok CS.h0 CS.l0 CS.hy (by omega) (by omega) CS.len hn)
            have HSL := Lib.hid hsl
            clear hr hsl hc1 CS hn V0 V1 VV HE
            generalize wds (codeG os R pc cnt).xs = us at ST HSL
            go_wp2_with (first
              | (go_at_call 12; refine (CK.out _ OO.out).mono ?_; rintro e w5 ⟨rfl, b5⟩; have U5 := Lib.hid (U.out.trans (Upto.of_below (S := fun _ => False) b5)); have B5 := Lib.hid (BO.out.upto (Upto.of_below (S := fun _ => False) b5) id); have S5 := Lib.hid (sl_upto HSL.out (Upto.of_below (S := fun _ => False) b5) (fun _ _ _ => id)); have f0 := B5.out.2.1 0 _ rfl; have f1 := B5.out.2.1 1 _ rfl; have f2 := B5.out.2.1 2 _ rfl; have f3 := B5.out.2.1 3 _ rfl; have fl := B5.out.1; clear b5)
              | (go_at_call 13; refine (ST.out _ S5.out).mono ?_; rintro e w6 ⟨rfl, b6⟩; have U6 := Lib.hid (U5.out.trans (Upto.of_below (S := fun _ => False) b6)); clear b6))
            go_ret
            exact ⟨rfl, U6.out.below (Nat.le_refl _) (fun _ _ => id)⟩
        · have hE : E = er := by rw [← HE.out]; unfold codE; rw [if_pos he]
          have hv := V0.out (by rw [hE]; exact he)
          subst hE hv
          have e1 : (E == 0) = false := by simpa using he
          have e2 : (E != 0) = true := by simpa using he
          go_wp2_with (go_at_call 12; refine (CK.out _ OO.out).mono ?_; rintro e w5 ⟨rfl, b5⟩; have U5 := Lib.hid (U.out.trans (Upto.of_below (S := fun _ => False) b5)); clear b5)
          exact bodyPost_ret (v := .bool true) (by simp [results, Try.results3, go_sem]) rfl ⟨rfl, U5.out.below (Nat.le_refl _) (fun _ _ => id)⟩
set_option maxRecDepth 100000 in
set_option maxHeartbeats 16000000 in
theorem shapes_zero (ao : Option Addr) (cap : Nat) (pc cnt byt r : Int) (w : World) (hops : Ops [] ao cap w) :
    Calls Try.prog 3 #[.agg #[.int .u32 pc, .int .i64 cnt, .int .i64 byt, .slice ao 0 cap], .int .i64 r] w fun e w' => e = .returned (.bool true) ∧ Below w.heap.size w w' := by
  have hp : ∀ w : World, Sem.run Try.prog (pure #[] : Sem (Array Value)) w = .ok #[] w := fun _ => rfl
  obtain ⟨⟨er, z⟩, hc⟩ : ∃ p, chk [] cnt byt = p := ⟨_, rfl⟩
  have he : er ≠ 0 := fun h => by
    have := (chk_of (os := []) (cnt := cnt) (byt := byt) (by rw [hc]; exact h)).1
    exact absurd this (by decide)
  have e1 : (er == 0) = false := by simpa using he
  have e2 : (er != 0) = true := by simpa using he
  have HO := Lib.hid hops
  have CD : Hid (∀ w, Ops [] ao cap w → Calls Try.prog 11 #[.agg #[.int .u32 pc, .int .i64 cnt, .int .i64 byt, .slice ao 0 cap], .int .i64 r] w fun e w' => e = .returned (.tuple #[.slice none 0 0, .int .i64 er]) ∧ Below w.heap.size w w') := fun w h => code_bad [] ao cap pc cnt byt r er z w h hc he
  have CK : Hid (∀ w, Calls Try.prog 12 #[.agg #[.int .u32 pc, .int .i64 cnt, .int .i64 byt, .slice none 0 0]] w fun e w' => e = .returned (.tuple #[.int .i64 er, .int .i64 z]) ∧ Below w.heap.size w w') := fun w => by
    have := rcheck_any [] none 0 pc cnt byt w ⟨Nat.le_refl _, Nat.zero_le _, fun h => absurd h (by decide)⟩
    rw [hc] at this
    exact this
  have u0 := ((Upto.refl (fun _ => False) w).alloc (.cells #[.int .u32 pc, .int .i64 cnt, .int .i64 byt, .slice ao 0 cap] 25)).alloc (.cells #[.int .u32 pc, .int .i64 cnt, .int .i64 byt, .slice none 0 0] 25)
  have U0 := Lib.hid u0
  have B0 := Lib.hid ((Bx.new w #[.int .u32 pc, .int .i64 cnt, .int .i64 byt, .slice ao 0 cap] 25).upto ((Upto.refl (fun _ => False) _).alloc (.cells #[.int .u32 pc, .int .i64 cnt, .int .i64 byt, .slice none 0 0] 25)) id)
  have B1 : Hid (Bx (w.heap.size + 1) #[.int .u32 pc, .int .i64 cnt, .int .i64 byt, .slice none 0 0] ((w.alloc (.cells #[.int .u32 pc, .int .i64 cnt, .int .i64 byt, .slice ao 0 cap] 25)).alloc (.cells #[.int .u32 pc, .int .i64 cnt, .int .i64 byt, .slice none 0 0] 25))) := by
    have := Bx.new (w.alloc (.cells #[.int .u32 pc, .int .i64 cnt, .int .i64 byt, .slice ao 0 cap] 25)) #[.int .u32 pc, .int .i64 cnt, .int .i64 byt, .slice none 0 0] 25
    rw [show (w.alloc (.cells #[.int .u32 pc, .int .i64 cnt, .int .i64 byt, .slice ao 0 cap] 25)).heap.size = w.heap.size + 1 by simp] at this
    exact this
  have O0 := Lib.hid (ops_upto hops u0 (fun _ _ _ => id))
  clear hops u0 hc he
  rcases ao with _ | ad
  all_goals
    go_enter Try.func3, Try.ntmps3
    go_upto_region 3 with fail
    generalize (World.alloc (World.alloc w _) (.cells #[.int .u32 pc, .int .i64 cnt, .int .i64 byt, .slice none 0 0] 25)) = w0 at B0 B1 O0 U0 ⊢
    have b0 := B0.out.2.1 0 _ rfl
    have b1 := B0.out.2.1 1 _ rfl
    have b2 := B0.out.2.1 2 _ rfl
    have b3 := B0.out.2.1 3 _ rfl
    have l0 := B0.out.1
    go_upto_region 4 with (go_at_call 11; refine (CD.out _ O0.out).mono ?_; rintro e w3 ⟨rfl, b⟩; have u3 := Upto.of_below (S := fun _ => False) b; have B13 := Lib.hid (B1.out.upto u3 id); have U3 := Lib.hid (U0.out.trans u3); clear b u3)
    clear b0 b1 b2 b3 l0
    have d0 := B13.out.2.1 0 _ rfl
    have d1 := B13.out.2.1 1 _ rfl
    have d2 := B13.out.2.1 2 _ rfl
    have d3 := B13.out.2.1 3 _ rfl
    have l1 := B13.out.1
    go_wp2
    refine wp_loop_rounds 1 ?_
    rw [rounds_succ]; go_wp2_with (go_at_call 12; refine (CK.out _).mono ?_; rintro e w5 ⟨rfl, b5⟩; have U5 := Lib.hid (U3.out.trans (Upto.of_below (S := fun _ => False) b5)); clear b5)
    exact bodyPost_ret (v := .bool true) (by simp [results, Try.results3, go_sem]) rfl ⟨rfl, U5.out.below (Nat.le_refl _) (fun _ _ => id)⟩
theorem shapes_walk (os : List Opr) (ao : Option Addr) (cap : Nat) (pc cnt byt r : Int) (w : World) (hops : Ops os ao cap w) (hreach : os.length * 56 ≤ 140737488351232) (HK : ∀ o ∈ os, 0 ≤ o.kn ∧ o.kn < 4294967296) (hp : 0 ≤ pc ∧ pc < 4294967296) :
    Calls Try.prog 3 #[.agg #[.int .u32 pc, .int .i64 cnt, .int .i64 byt, .slice ao os.length cap], .int .i64 r] w fun e w' => e = .returned (.bool true) ∧ Below w.heap.size w w' := by
  have HK' : ∀ t, 0 ≤ (opAt os t).kn ∧ (opAt os t).kn < 4294967296 := fun t => by
    unfold opAt
    rw [List.getD_eq_getElem?_getD]
    by_cases ht : t < os.length
    · rw [List.getElem?_eq_getElem ht]; exact HK _ (List.getElem_mem ht)
    · rw [List.getElem?_eq_none (by omega)]; exact z32
  rcases Nat.eq_zero_or_pos os.length with h0 | h0
  · have : os = [] := List.eq_nil_of_length_eq_zero h0
    subst this
    exact shapes_zero ao cap pc cnt byt r w hops
  · obtain ⟨g, off, rfl, _⟩ := hops.2.2 h0
    exact shapes_some os g off cap pc cnt byt r w hops h0 hreach HK' hp
end Go.Proofs.Ytcjcmnnhmajocab.Gn
