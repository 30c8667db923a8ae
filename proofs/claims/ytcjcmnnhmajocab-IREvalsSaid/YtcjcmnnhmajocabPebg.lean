/- ir's run: one operation of a block does what opV says. -/
import Derived.Test.YtcjcmnnhmajocabPeaw
import Derived.Test.YtcjcmnnhmajocabPebf
namespace Go.Proofs.Ytcjcmnnhmajocab.Ev
open Go.RowKit Kt Me Fl Ic
set_option linter.unusedVariables false
set_option linter.unusedSimpArgs false
variable {A T p L : Nat}
theorem ldv_some {M : MM} {a n x : Int} (h : srch M 1 a n.toNat = some x) : ldv M a n = 0 := by
  unfold ldv
  rw [h]
  rfl
/-- what one operation answers -/
def DoQ (A T p L : Nat) (w : World) (r : Evs × Option Ext) (e : Ending) (w' : World) : Prop :=
  ∃ ex : Ext, e = .returned (.tuple #[.agg #[.int .i64 ex.k, .int .u32 ex.x, .int .u32 ex.pc, .int .i64 ex.n], .bool r.2.isSome]) ∧ (∀ x, r.2 = some x → ex = x) ∧ Rn A T p L r.1.c r.1.v w' ∧ HC p r.1.M w' ∧ Upto (RSM A T p) w w'
set_option maxHeartbeats 4000000 in
theorem do_any (o : Opr) (s : Evs) (i : Nat) (w : World) (h : Rn A T p L s.c s.v w) (hm : HC p s.M w) (hs : EOk s) (hpA : p ≠ A) (hpT : p ≠ T) (hi : i < L) (hL : L < 9223372036854775808) (ho : OpK o i) (k0 : 0 ≤ o.kn) (k1 : o.kn < 4294967296) :
    Calls Try.prog 68 #[.pointer (some ⟨A, 0, none⟩), .int .i64 i, .agg #[.int .i64 o.k, .int .i64 o.w, .int .i64 o.a, .int .i64 o.b, .int .i64 o.c, .int .u32 o.kn, .int .i64 o.n]] w (DoQ A T p L w (opV o s i)) := by
  obtain ⟨k, ow, a, b, c, kn, n⟩ := o
  obtain ⟨M, cc, vv⟩ := s
  obtain ⟨hk, hw, ha, hb, hc⟩ := ho
  dsimp only at h hm k0 k1 hk hw ha hb hc ⊢
  obtain ⟨oa, rfl⟩ := Int.eq_ofNat_of_zero_le ha.1
  obtain ⟨oc, rfl⟩ := Int.eq_ofNat_of_zero_le hc.1
  have la : oa < L := by omega
  have lc : oc < L := by omega
  have hM := hs.M
  have hC := hs.c
  have hV := hs.v
  by_cases e14 : k = 14
  · subst e14
    refine (do_14 i oa oc ow b kn n M w h hm hM hpA hpT hi la lc hL k0 k1 hC hV).mono ?_
    rintro e w' ⟨h1, h2, h3, h4⟩
    exact ⟨⟨ow, b % 4294967296, kn, n⟩, h1, fun x hx => Option.some.inj hx, h2, h3, h4⟩
  have hb' : 0 ≤ b ∧ (b < i ∨ b = 0) := ⟨hb.1, by rcases hb.2 with e | e | e; exact .inl e; exact .inr e; exact absurd e.1 e14⟩
  obtain ⟨ob, rfl⟩ := Int.eq_ofNat_of_zero_le hb'.1
  have lb : ob < L := by omega
  clear hb ha hc
  by_cases e15 : k = 15
  · subst e15
    refine (do_15 i oa ob oc ow kn n M w h hm hM hpA hpT hi la lb lc hL k0 k1 hC hV).mono ?_
    rintro e w' ⟨h1, h2, h3, h4⟩
    exact ⟨⟨0, 0, kn, n⟩, h1, fun x hx => Option.some.inj hx, h2, h3, h4⟩
  by_cases e16 : k = 16
  · subst e16
    refine (do_16 i oa ob oc ow kn n M w h hm hM hpA hpT hi la lb lc hL k0 k1 hC hV).mono ?_
    rintro e w' ⟨h1, h2, h3, h4⟩
    exact ⟨⟨0, 0, vv oa, n⟩, h1, fun x hx => Option.some.inj hx, h2, h3, h4⟩
  by_cases e12 : k = 12
  · subst e12
    refine (do_12 i oa ob oc ow kn n M w h hm hM hpA hpT hi la lb lc hL k0 k1 hC hV).mono ?_
    rintro e w' ⟨h1, h2, h3, h4⟩
    have ev : (opV ⟨12, ow, oa, ob, oc, kn, n⟩ ⟨M, cc, vv⟩ i).2 = (if vv oa = 0 then none else some ⟨0, 0, kn, n⟩) := rfl
    refine ⟨⟨0, 0, kn, n⟩, ?_, fun x hx => ?_, h2, h3, h4⟩
    · rw [h1, ev]
      by_cases hz : vv oa = 0
      · rw [if_pos hz, hz]; rfl
      · rw [if_neg hz, show (vv oa != 0) = true from by simp [hz]]; rfl
    · rw [ev] at hx
      by_cases hz : vv oa = 0
      · rw [if_pos hz] at hx; exact absurd hx (by simp)
      · rw [if_neg hz] at hx; exact Option.some.inj hx
  by_cases e13 : k = 13
  · subst e13
    refine (do_13 i oa ob oc ow kn n M w h hm hM hpA hpT hi la lb lc hL k0 k1 hC hV).mono ?_
    rintro e w' ⟨h1, h2, h3, h4⟩
    have ev : (opV ⟨13, ow, oa, ob, oc, kn, n⟩ ⟨M, cc, vv⟩ i).2 = (if vv oa = 0 then none else some ⟨ow, 0, kn, n⟩) := rfl
    refine ⟨⟨ow, 0, kn, n⟩, ?_, fun x hx => ?_, h2, h3, h4⟩
    · rw [h1, ev]
      by_cases hz : vv oa = 0
      · rw [if_pos hz, hz]; rfl
      · rw [if_neg hz, show (vv oa != 0) = true from by simp [hz]]; rfl
    · rw [ev] at hx
      by_cases hz : vv oa = 0
      · rw [if_pos hz] at hx; exact absurd hx (by simp)
      · rw [if_neg hz] at hx; exact Option.some.inj hx
  by_cases e11 : k = 11
  · subst e11
    refine (do_11 i oa ob oc ow kn n M w h hm hM hpA hpT hi la lb lc hL k0 k1 hC hV).mono ?_
    rintro e w' ⟨h1, h2, h3, h4⟩
    have ev : (opV ⟨11, ow, oa, ob, oc, kn, n⟩ ⟨M, cc, vv⟩ i).2 = (if anyT M.hi then some ⟨0, 0, kn, n⟩ else none) := rfl
    refine ⟨⟨0, 0, kn, n⟩, ?_, fun x hx => ?_, h2, h3, h4⟩
    · rw [h1, ev]
      cases anyT M.hi <;> rfl
    · rw [ev] at hx
      cases hz : anyT M.hi
      · rw [hz] at hx; exact absurd hx (by simp)
      · rw [hz] at hx; exact Option.some.inj hx
  by_cases e9 : k = 9
  · subst e9
    have e9 : rS 9 = 5 := rfl
    rw [e9] at hw
    have d9 := do_9 i oa ob oc ow kn n M w h hm hM hpA hpT hi la lb lc hL k0 k1 hC hV hw.1 (by omega)
    have ev : opV ⟨9, ow, oa, ob, oc, kn, n⟩ ⟨M, cc, vv⟩ i = (match srch M 1 (vv oa) (ldn ow).toNat with | none => (Evs.set ⟨M, cc, vv⟩ i (wid ow (ldv M (vv oa) (ldn ow))), none) | some x => (Evs.set ⟨M, cc, vv⟩ i (wid ow 0), some ⟨5, x, kn, n⟩)) := rfl
    rw [ev]
    clear ev
    obtain ⟨oo, hoo⟩ : ∃ oo, srch M 1 (vv oa) (ldn ow).toNat = oo := ⟨_, rfl⟩
    rcases oo with _ | x
    · rw [hoo] at d9 ⊢
      refine d9.mono ?_
      rintro e w' ⟨h1, h2, h3, h4⟩
      exact ⟨⟨0, 0, kn, n⟩, h1, fun x hx => absurd hx (by simp), h2, h3, h4⟩
    · have ez := ldv_some hoo
      rw [hoo, ez] at d9
      rw [hoo]
      refine d9.mono ?_
      rintro e w' ⟨h1, h2, h3, h4⟩
      exact ⟨⟨5, x, kn, n⟩, h1, fun x hx => Option.some.inj hx, h2, h3, h4⟩
  by_cases e10 : k = 10
  · subst e10
    have e10 : rS 10 = 3 := rfl
    rw [e10] at hw
    have d10 := do_10 i oa ob oc ow kn n M w h hm hM hpA hpT hi la lb lc hL k0 k1 hC hV hw.1 (by omega)
    have ev : opV ⟨10, ow, oa, ob, oc, kn, n⟩ ⟨M, cc, vv⟩ i = (match sto M (vv oa) (stn ow) with | none => ((⟨stm M (vv oa) (stn ow) (vv ob), cc, vv⟩ : Evs), none) | some x => ((⟨M, cc, vv⟩ : Evs), some ⟨6, x, kn, n⟩)) := rfl
    rw [ev]
    clear ev
    obtain ⟨oo, hoo⟩ : ∃ oo, sto M (vv oa) (stn ow) = oo := ⟨_, rfl⟩
    rcases oo with _ | x
    · rw [hoo] at d10 ⊢
      refine d10.mono ?_
      rintro e w' ⟨h1, h2, h3, h4⟩
      exact ⟨⟨0, 0, kn, n⟩, h1, fun x hx => absurd hx (by simp), h2, h3, h4⟩
    · have ez := St.sto_some (v := vv ob) hoo
      rw [hoo, ez] at d10
      rw [hoo]
      refine d10.mono ?_
      rintro e w' ⟨h1, h2, h3, h4⟩
      exact ⟨⟨6, x, kn, n⟩, h1, fun x hx => Option.some.inj hx, h2, h3, h4⟩
  have fin : ∀ {k : Int}, PK k ow → (opV ⟨k, ow, oa, ob, oc, kn, n⟩ ⟨M, cc, vv⟩ i).2 = none → (opV ⟨k, ow, oa, ob, oc, kn, n⟩ ⟨M, cc, vv⟩ i).1.M = M → (opV ⟨k, ow, oa, ob, oc, kn, n⟩ ⟨M, cc, vv⟩ i).1.c = pc k ow oa cc vv → (opV ⟨k, ow, oa, ob, oc, kn, n⟩ ⟨M, cc, vv⟩ i).1.v = pv k ow kn i oa ob oc cc vv →
      Calls Try.prog 68 #[.pointer (some ⟨A, 0, none⟩), .int .i64 i, .agg #[.int .i64 k, .int .i64 ow, .int .i64 oa, .int .i64 ob, .int .i64 oc, .int .u32 kn, .int .i64 n]] w (DoQ A T p L w (opV ⟨k, ow, oa, ob, oc, kn, n⟩ ⟨M, cc, vv⟩ i)) := by
    intro k pk e1 e2 e3 e4
    refine (do_p k i oa ob oc ow kn n M w h hm hM hpA hpT hi la lb lc hL k0 k1 hC hV pk).mono ?_
    rintro e w' ⟨h1, h2, h3, h4⟩
    exact ⟨⟨0, 0, 0, 0⟩, by rw [h1, e1]; rfl, fun x hx => absurd (e1.symm.trans hx) (by simp), by rw [e3, e4]; exact h2, by rw [e2]; exact h3, h4⟩
  clear h hm hM
  rcases (show k = 1 ∨ k = 2 ∨ k = 3 ∨ k = 4 ∨ k = 5 ∨ k = 6 ∨ k = 7 ∨ k = 8 ∨ k = 17 by omega) with rfl | rfl | rfl | rfl | rfl | rfl | rfl | rfl | rfl
  · exact fin (.inl rfl) rfl rfl rfl rfl
  · exact fin (.inr (.inl ⟨rfl, hw.1, by have : rS 2 = 12 := rfl; omega⟩)) rfl rfl rfl rfl
  · exact fin (.inr (.inr (.inl ⟨rfl, hw.1, by have : rS 3 = 12 := rfl; omega⟩))) rfl rfl rfl rfl
  · exact fin (.inr (.inr (.inr (.inr (.inl ⟨rfl, hw.1, by have : rS 4 = 16 := rfl; omega⟩))))) rfl rfl rfl rfl
  · exact fin (.inr (.inr (.inr (.inr (.inr (.inl ⟨rfl, hw.1, by have : rS 5 = 7 := rfl; omega⟩)))))) rfl rfl rfl rfl
  · exact fin (.inr (.inr (.inr (.inr (.inr (.inr (.inl rfl))))))) rfl rfl rfl rfl
  · exact fin (.inr (.inr (.inr (.inr (.inr (.inr (.inr (.inl rfl)))))))) rfl rfl rfl rfl
  · exact fin (.inr (.inr (.inr (.inr (.inr (.inr (.inr (.inr ⟨rfl, hw.1, by have : rS 8 = 16 := rfl; omega⟩)))))))) rfl rfl rfl rfl
  · exact fin (.inr (.inr (.inr (.inl rfl)))) rfl rfl rfl rfl
end Go.Proofs.Ytcjcmnnhmajocab.Ev
