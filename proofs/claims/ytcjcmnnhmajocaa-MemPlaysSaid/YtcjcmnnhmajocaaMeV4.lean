/- crossgrainlaw1.step: kind 1 (Poke of both). -/
import Derived.Test.YtcjcmnnhmajocaaMeV2
namespace Go.Proofs.Ytcjcmnnhmajocaa.Me
open Go.RowKit Kt
set_option linter.unusedVariables false
set_option linter.unusedSimpArgs false
theorem up_box {w0 w1 : World} {S : Nat → Prop} {X : Nat} {v2 v4 : Value} (h : w0.cell? ⟨X, 2, none⟩ = some v2 ∧ w0.cell? ⟨X, 4, none⟩ = some v4 ∧ X < w0.heap.size) (u : Upto S w0 w1) (hs : ¬ S X) :
    w1.cell? ⟨X, 2, none⟩ = some v2 ∧ w1.cell? ⟨X, 4, none⟩ = some v4 ∧ X < w1.heap.size :=
  ⟨(u.cell h.2.2 hs).trans h.1, (u.cell h.2.2 hs).trans h.2.1, Nat.lt_of_lt_of_le h.2.2 u.size⟩
set_option maxRecDepth 100000 in
set_option maxHeartbeats 4000000 in
theorem step_1 (p : Nat) (P : RP) (M : MM) (a n v : Int) (us : List Int) (ao : Option Addr) (cap : Nat) (on : Bool) (w : World) (h : Pair p P M w) (n0 : -9223372036854775808 ≤ n) (hB : Gu.Bs us ao cap w) (hreach : us.length ≤ 140737488351232) (hr : ∀ j, 0 ≤ us.getD j 0 ∧ us.getD j 0 < 256)
    (hd : ∀ g, ao = some g → 0 < us.length → ¬ PS p P g.block) :
    Calls Try.prog 40 #[.pointer (some ⟨p, 0, none⟩), .pointer (some ⟨P.q, 0, none⟩), .agg (stV 1 a n v ao us.length cap on)] w (StP p P w) := by
  have HP := Lib.hid h
  have HL := Lib.hid h.lt
  have CM := Lib.hid (poke_any p M n us)
  have CR := Lib.hid (fun ao cap w h' hb hne => rpoke_any P M n us ao cap w h' n0 hb hne)
  have CT := Lib.hid (fun ao cap w hs => twin_own us ao cap w hs hreach)
  have CS := Lib.hid (fun ao cap ao1 c1 W hs hs1 => Gu.same_bs us ao cap ao1 c1 W hs hs1)
  have HBS := Lib.hid hB
  have HD := Lib.hid hd
  have HOK := Lib.hid (h.ok.pok n hr)
  have HXP : ¬ PS p P w.heap.size := fun hx => Nat.lt_irrefl _ (h.lt _ hx)
  have HXp : ¬ w.heap.size = p := fun hx => HXP (.inl hx)
  have HBP : ∀ k, w.heap.size ≤ k → ¬ PS p P k := fun k hk hp => Nat.lt_irrefl _ (Nat.lt_of_le_of_lt hk (h.lt _ hp))
  have HBPh := Lib.hid HBP
  have UA := Lib.hid ((Upto.refl (fun _ => False) w).alloc (.cells (stV 1 a n v ao us.length cap on) 71))
  have XA := Lib.hid (show (w.alloc (.cells (stV 1 a n v ao us.length cap on) 71)).cell? ⟨w.heap.size, 2, none⟩ = some (.int .i64 n) ∧ (w.alloc (.cells (stV 1 a n v ao us.length cap on) 71)).cell? ⟨w.heap.size, 4, none⟩ = some (.slice ao us.length cap) ∧ w.heap.size < (w.alloc (.cells (stV 1 a n v ao us.length cap on) 71)).heap.size from ⟨box_at _ _ _ 2, box_at _ _ _ 4, by simp⟩)
  have szA : (w.alloc (.cells (stV 1 a n v ao us.length cap on) 71)).heap.size = w.heap.size + 1 := by simp
  unfold stV at *
  clear h hB hr hd HBP n0 hreach
  obtain ⟨N, hN⟩ : ∃ N, us.length = N := ⟨_, rfl⟩
  have hz : (inE n N == inE n N) = true := by simp
  have HN := Lib.hid hN
  simp only [hN] at CM CR CT CS UA XA szA HD ⊢
  clear hN
  generalize inE n N = z at CM CR hz
  go_enter Try.func40, Try.ntmps40
  go_wp2_with fail
  generalize w.alloc (.cells #[.int .i64 1, .int .u32 a, .int .i64 n, .int .u32 v, .slice ao N cap, .bool on] 71) = WA at UA XA szA ⊢
  refine (CT.out ao cap WA (Bs.upto HBS.out UA.out (fun _ _ _ => id))).mono ?_
  rintro e w1 ⟨v1, rfl, hv1, hb1⟩
  obtain ⟨ao1, c1, rfl, s1, t1⟩ := hv1.form
  rw [HN.out, szA] at t1
  rw [HN.out]
  have U1 := Lib.hid (UA.out.trans (Upto.of_below (S := fun _ => False) hb1))
  have X1 := Lib.hid (up_box XA.out (Upto.of_below (S := fun _ => False) hb1) id)
  have S1 := Lib.hid s1
  have T1 := Lib.hid t1
  have HP1 := Lib.hid (HP.out.upto U1.out (fun _ _ => id))
  clear szA hb1 hv1 s1 t1 XA UA
  obtain ⟨x2, x4, xs⟩ := X1.out
  go_wp2_with fail
  refine (CM.out ao1 c1 _ HP1.out.hc S1.out).mono ?_
  rintro e w2 ⟨rfl, h2, o2⟩
  have X2 := Lib.hid (up_box X1.out o2 HXp)
  have HC2 := Lib.hid h2
  have HR2 := Lib.hid (HP1.out.hm h2 o2)
  have S2 := Lib.hid (Bs.upto S1.out o2 (fun g hg hn => by
    have h1 := T1.out.ge g hg (by rw [HN.out] at hn; exact hn)
    intro h2
    have h3 := HL.out p (.inl rfl)
    omega))
  have T2 := Lib.hid (T1.out.upto o2 (fun k hk hp => by have h3 := HL.out p (.inl rfl); omega))
  have Z2 := Lib.hid (Bs.upto (Bs.upto HBS.out U1.out (fun _ _ _ => id)) o2 (fun g hg hn hp => HD.out g hg (by rw [HN.out] at hn; exact hn) (.inl hp)))
  have U2 := Lib.hid ((U1.out.mono (T := PS p P) (fun _ _ => False.elim)).trans (o2.mono (fun k _ hk => .inl hk)))
  clear h2 o2 x2 x4 xs
  obtain ⟨x2, x4, xs⟩ := X2.out
  go_wp2_with fail
  refine (CS.out ao1 c1 ao cap _ S2.out Z2.out).mono ?_
  rintro e w3 ⟨rfl, hb3⟩
  have X3 := Lib.hid (up_box X2.out (Upto.of_below (S := fun _ => False) hb3) id)
  have HC3 := Lib.hid (HC2.out.upto (Upto.of_below (S := fun _ => False) hb3) id)
  have HR3 := Lib.hid (HR2.out.upto (Upto.of_below (S := fun _ => False) hb3) (fun _ _ => id))
  have T3 := Lib.hid (T2.out.upto (Upto.of_below (S := fun _ => False) hb3) (fun _ _ => id))
  have Z3 := Lib.hid (Bs.upto Z2.out (Upto.of_below (S := fun _ => False) hb3) (fun _ _ _ => id))
  have U3 := Lib.hid (U2.out.trans (Upto.of_below hb3))
  have hcap := S2.out.1
  have hcm := S2.out.2.1
  have hmx : (maxLen : Nat) = 9223372036854775807 := rfl
  rw [HN.out] at hcap
  clear hb3 x2 x4 xs
  go_wp2_with fail
  go_loopg [68] N (fun g i wr => ∃ k : Nat, g = N - k ∧ k ≤ N ∧ i = .int .i64 k ∧ Hid (TB (w.heap.size + 1) ao1 N wr) ∧ Hid (Upto (fun k => w.heap.size + 1 ≤ k) w3 wr))
  case atStart => exact ⟨0, rfl, Nat.zero_le _, rfl, T3.out, Upto.refl _ _⟩
  case round =>
    obtain ⟨k, hg, hk, rfl, HT, HW⟩ := hrel
    by_cases hlt : k < N
    · have hlt' : (k : Int) < (N : Int) := by omega
      have hge' : (0 : Int) ≤ (k : Int) := by omega
      obtain ⟨g1, rfl, hB1, lg1, ⟨y, cg1⟩, fg1⟩ := HT.out k hlt
      have zg1 := fg1 k
      clear fg1
      go_wp2_with fail
      go_roundg (N - (k + 1))
      case measure => omega
      case rel => exact ⟨k + 1, rfl, by omega, by simp, HT.out.set k _, HW.out.setCell (q := ⟨g1, k, none⟩) (.inl hB1) _⟩
    · obtain rfl : k = N := by omega
      have hx : ¬ (w.heap.size + 1 ≤ w.heap.size) := by omega
      obtain ⟨x2, x4, xs⟩ := up_box X3.out HW.out hx
      have HR4 := Lib.hid (HR3.out.upto HW.out (fun k hk hp => by have := HL.out k (.inr hk); omega))
      have HC4 := Lib.hid (HC3.out.upto HW.out (by have := HL.out p (.inl rfl); omega))
      have Z4 := Lib.hid (Bs.upto Z3.out HW.out (fun g hg hn hp => by
        obtain ⟨b, off, e, hb, _⟩ := HBS.out.2.2 hn
        rw [hg] at e
        obtain rfl := Option.some.inj e
        simp only at hp
        omega))
      have U4 := Lib.hid (U3.out.drop HW.out (by omega))
      clear hx
      go_wp2_with fail
      refine (CR.out ao cap _ HR4.out Z4.out (fun g hg hn hp => HD.out g hg hn (.inr hp))).mono ?_
      rintro e w5 ⟨rfl, h5, o5⟩
      have HE := Lib.hid (⟨HC4.out.upto o5 HP.out.ne, h5, HP.out.ne, HOK.out⟩ : Pair p P _ w5)
      have HU := Lib.hid (U4.out.trans (o5.mono (fun k _ hk => .inr hk)))
      go_wp2
      go_ret
      exact StP.mk HE.out HU.out
end Go.Proofs.Ytcjcmnnhmajocaa.Me
