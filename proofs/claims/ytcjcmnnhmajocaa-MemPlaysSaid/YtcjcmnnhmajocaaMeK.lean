/- mem.Memory.Poke. -/
import Derived.Test.YtcjcmnnhmajocaaMeJ
import Derived.Laws.IdiomCopy
namespace Go.Proofs.Ytcjcmnnhmajocaa.Me
open Go.RowKit Kt
set_option linter.unusedVariables false
set_option linter.unusedSimpArgs false
/-- bytes written over a memory's -/
def ovl (f : Nat → Int) : Nat → List Int → Nat → Int
  | _, [] => f
  | at_, b :: bs => ovl (upd f at_ b) (at_ + 1) bs
/-- pages changed, byte after byte -/
def chgF (M : MM) : Nat → Nat → MM
  | _, 0 => M
  | at_, k + 1 => chgF (chg M (at_ / 256)) (at_ + 1) k
theorem chgF_snoc (M : MM) (at_ k : Nat) : chgF M at_ (k + 1) = chg (chgF M at_ k) ((at_ + k) / 256) := by
  induction k generalizing M at_ with
  | zero => rfl
  | succ k ih =>
    show chgF (chg M (at_ / 256)) (at_ + 1) (k + 1) = _
    rw [ih]
    show _ = chg (chgF (chg M (at_ / 256)) (at_ + 1) k) _
    rw [show at_ + 1 + k = at_ + (k + 1) by omega]
theorem chg_by (M : MM) (f : Nat → Int) (k : Nat) : chg { M with by_ := f } k = { chg M k with by_ := f } := by unfold chg; split <;> rfl
theorem chgF_by (M : MM) (f : Nat → Int) (at_ k : Nat) : chgF { M with by_ := f } at_ k = { chgF M at_ k with by_ := f } := by
  induction k generalizing M at_ with
  | zero => rfl
  | succ k ih =>
    show chgF (chg { M with by_ := f } (at_ / 256)) (at_ + 1) k = _
    rw [chg_by, ih]; rfl
theorem pk_split (M : MM) (at_ : Nat) (us : List Int) : pk M at_ us = chgF { M with by_ := ovl M.by_ at_ us } at_ us.length := by
  induction us generalizing M at_ with
  | nil => rfl
  | cons b bs ih =>
    show pk (chg { M with by_ := upd M.by_ at_ b } (at_ / 256)) (at_ + 1) bs = chgF (chg { M with by_ := ovl (upd M.by_ at_ b) (at_ + 1) bs } (at_ / 256)) (at_ + 1) bs.length
    rw [ih]
    congr 1
    exact (by unfold chg; split <;> rfl)
theorem HC.setCells {p : Nat} {W : World} (us : List Int) : ∀ (M : MM) (at_ : Nat) (W : World), HC p M W → at_ + us.length ≤ 65536 → HC p { M with by_ := ovl M.by_ at_ us } (W.setCells p at_ (us.map (Value.int .u8))) := by
  induction us with
  | nil => exact fun M at_ W h _ => h
  | cons b bs ih =>
    intro M at_ W h hl
    rw [List.length_cons] at hl
    exact ih { M with by_ := upd M.by_ at_ b } (at_ + 1) _ (h.put at_ (by omega) b) (by omega)
theorem Upto.setCells {S : Nat → Prop} {a : World} {p : Nat} (hp : S p) (us : List Value) : ∀ (w : World) (at_ : Nat), Upto S a w → Upto S a (w.setCells p at_ us) := by
  induction us with
  | nil => exact fun w at_ h => h
  | cons b bs ih => exact fun w at_ h => ih _ _ (h.setCell (q := ⟨p, at_, none⟩) (.inl hp) b)
theorem slice_run_l (p : Nat) (a : Int) (w : World) (a0 : 0 ≤ a) (ha : a < 65536) :
    (Instr.sliceAt 120 (.pointer (some ⟨p, 0, none⟩)) (some (.int .i64 a)) none none).run Try.prog w = .ok (.slice (some ⟨p, a.toNat, none⟩) (65536 - a.toNat) (65536 - a.toNat)) w := by
  obtain ⟨f1, f2, f3, f4⟩ := arr_facts
  rw [run_sliceAt_array_l w 120 ⟨p, 0, none⟩ f2 .i64 a (by omega) (by rw [f1]; omega), f3, f4, f1]
  simp only [Result.andThen, slicedAt]
  rw [if_neg (by omega)]
  have e : (⟨p, 0, none⟩ : Addr).add (a.toNat * 1) = ⟨p, a.toNat, none⟩ := by rw [Addr.add_lit]; simp
  rw [e]
theorem copy_run (p a : Nat) (us : List Int) (b off cap : Nat) (M : MM) (w : World) (h : HC p M w) (ha : a + us.length ≤ 65536) (hc : ∀ j, j < us.length → w.cell? ⟨b, off + j, none⟩ = some (.int .u8 (us.getD j 0))) :
    (Builtin.copy_ #[54, 54] 3 #[.slice (some ⟨p, a, none⟩) (65536 - a) (65536 - a), .slice (some ⟨b, off, none⟩) us.length cap]).run Try.prog w = .ok (goInt us.length) (w.setCells p a (us.map (Value.int .u8))) := by
  have hs : (Try.prog.info? 5).map (·.size) = some 1 := by
    obtain ⟨i, hi, hz, hs, hb⟩ := Gu.u8_info
    rw [hi, Option.map_some, hs]
  have hr := run_copy_cells (P := Try.prog) w 54 54 3 5 p a (65536 - a) (65536 - a) ⟨b, off, none⟩ us.length cap (us.map (Value.int .u8)) Try.underlying54 hs
    (by rw [List.length_map]; exact (Nat.min_eq_left (by omega)).symm) (fun j v hj => ?_) (fun j hj => ?_) (fun j hj => h.2.2.2.2.2.1 _) (fun v hv => ?_)
  · rw [List.length_map] at hr; exact hr
  · rw [List.getElem?_map] at hj
    obtain ⟨z, hz, rfl⟩ := Option.map_eq_some_iff.1 hj
    have hlt := (List.getElem?_eq_some_iff.1 hz).1
    rw [Addr.add_lit, hc j hlt, List.getD_eq_getElem?_getD, hz]; rfl
  · rw [List.length_map] at hj
    rw [h.1 (a + j) (by omega)]; rfl
  · obtain ⟨z, _, rfl⟩ := List.mem_map.1 hv
    rfl
set_option maxRecDepth 100000 in
set_option maxHeartbeats 2000000 in
theorem poke_no (p : Nat) (a : Int) (ao : Option Addr) (n cap : Nat) (w : World) (hn : ¬ (0 ≤ a ∧ 0 ≤ (n : Int) ∧ a ≤ 65536 ∧ (n : Int) ≤ 65536 - a)) :
    Calls Try.prog 70 #[.pointer (some ⟨p, 0, none⟩), .int .i64 a, .slice ao n cap] w fun e w' => e = .returned (.int .i64 4) ∧ w = w' := by
  have HI := Lib.hid (in_no a n hn)
  clear hn
  go_enter Try.func70, Try.ntmps70
  go_wp2_with (go_at_call 116; refine (HI.out _).mono ?_; rintro e w' ⟨rfl, rfl⟩)
  go_ret
  exact ⟨rfl, rfl⟩
set_option maxRecDepth 100000 in
set_option maxHeartbeats 2000000 in
theorem poke_ok (p : Nat) (M : MM) (a : Int) (us : List Int) (b off cap : Nat) (w : World) (h : HC p M w) (a0 : 0 ≤ a) (ha : a < 65536) (hn : a + us.length ≤ 65536) (h0 : 0 < us.length)
    (hc : ∀ j, j < us.length → w.cell? ⟨b, off + j, none⟩ = some (.int .u8 (us.getD j 0))) :
    Calls Try.prog 70 #[.pointer (some ⟨p, 0, none⟩), .int .i64 a, .slice (some ⟨b, off, none⟩) us.length cap] w fun e w' => e = .returned (.int .i64 0) ∧ HC p (pk M a.toNat us) w' ∧ Upto (fun i => i = p) w w' := by
  have HI := Lib.hid (in_ok a us.length (by omega))
  have hs := slice_run_l p a w a0 ha
  have hcp := copy_run p a.toNat us b off cap M w h (by omega) hc
  have H1 := Lib.hid (HC.setCells (W := w) us M a.toNat w h (by omega))
  have U1 := Lib.hid (Upto.setCells (S := fun i => i = p) rfl (us.map (Value.int .u8)) w a.toNat (Upto.refl _ w))
  rw [pk_split]
  obtain ⟨L, hL⟩ : ∃ L, us.length = L := ⟨_, rfl⟩
  rw [hL] at hcp hn HI h0 ⊢
  generalize w.setCells p a.toNat (us.map (Value.int .u8)) = W1 at hcp H1 U1
  generalize ({ M with by_ := ovl M.by_ a.toNat us } : MM) = M1 at H1 ⊢
  clear hL hc h
  go_enter Try.func70, Try.ntmps70
  go_wp2_with (go_at_call 116; refine (HI.out _).mono ?_; rintro e w' ⟨rfl, rfl⟩)
  go_loopg [22] L (fun g i wr => ∃ k : Nat, g = L - k ∧ k ≤ L ∧ i = .int .i64 k ∧ Hid (HC p (chgF M1 a.toNat k) wr) ∧ Hid (Upto (fun i => i = p) w wr))
  case atStart => exact ⟨0, rfl, Nat.zero_le _, rfl, H1, U1⟩
  case round =>
    obtain ⟨k, hg, hk, rfl, HR, UR⟩ := hrel
    by_cases hlt : k < L
    · have hlt' : (k : Int) < (L : Int) := by omega
      have e0 : 0 ≤ (a + (k : Int)) / 256 := by omega
      have e1 : (a + (k : Int)) / 256 < 256 := by omega
      have e2 : a + (k : Int) < 65536 := by omega
      go_wp2_with (go_at_call 113; refine (change_c p _ _ e0 e1 _ HR.out).mono ?_; rintro e w2 ⟨rfl, h2, o2⟩)
      go_roundg (L - (k + 1))
      case measure => omega
      case rel =>
        refine ⟨k + 1, rfl, by omega, by simp, ?_, Upto.trans UR.out o2⟩
        have e3 : ((a + (k : Int)) / 256).toNat = (a.toNat + k) / 256 := by omega
        rw [e3] at h2
        exact (chgF_snoc M1 a.toNat k) ▸ h2
    · obtain rfl : k = L := by omega
      go_wp2
      go_ret
      exact ⟨rfl, HR.out, UR.out⟩
theorem poke_zero (p : Nat) (a : Int) (ao : Option Addr) (cap : Nat) (w : World) (a0 : 0 ≤ a) (ha : a ≤ 65536) :
    Calls Try.prog 70 #[.pointer (some ⟨p, 0, none⟩), .int .i64 a, .slice ao 0 cap] w fun e w' => e = .returned (.int .i64 0) ∧ w = w' := by
  have HI := Lib.hid (in_ok a 0 (by omega))
  have hs2 : (Try.prog.info? 5).map (·.size) = some 1 := by
    obtain ⟨i, hi, hz, hs, hb⟩ := Gu.u8_info
    rw [hi, Option.map_some, hs]
  have hcn := fun d dl dc => run_copy_none (P := Try.prog) w 54 54 3 5 d ao dl dc 0 cap Try.underlying54 hs2 (Nat.zero_min _)
  by_cases he : a < 65536
  · have hs := slice_run_l p a w a0 he
    have hcn' := hcn (some ⟨p, a.toNat, none⟩) (65536 - a.toNat) (65536 - a.toNat)
    clear hcn hs2
    go_enter Try.func70, Try.ntmps70
    go_wp2_with (go_at_call 116; refine (HI.out _).mono ?_; rintro e w' ⟨rfl, rfl⟩)
    refine wp_loop_rounds 1 ?_
    rw [rounds_succ]; go_wp2
    go_ret
    exact ⟨rfl, rfl⟩
  · obtain rfl : a = 65536 := by omega
    have hcn' := hcn (some ⟨p, 0, none⟩) 0 0
    have hs : (Instr.sliceAt 120 (.pointer (some ⟨p, 0, none⟩)) (some (.int .i64 65536)) none none).run Try.prog w = .ok (.slice (some ⟨p, 0, none⟩) 0 0) w := by
      obtain ⟨f1, f2, f3, f4⟩ := arr_facts
      rw [run_sliceAt_array_l w 120 ⟨p, 0, none⟩ f2 .i64 65536 (by omega) (by rw [f1]; omega), f3, f4, f1]
      simp only [Result.andThen, slicedAt]
      rw [if_pos (by rfl)]
      rfl
    clear hcn hs2
    go_enter Try.func70, Try.ntmps70
    go_wp2_with (go_at_call 116; refine (HI.out _).mono ?_; rintro e w' ⟨rfl, rfl⟩)
    refine wp_loop_rounds 1 ?_
    rw [rounds_succ]; go_wp2
    go_ret
    exact ⟨rfl, rfl⟩
/-- what is written -/
def pok (M : MM) (a : Int) (us : List Int) : MM := if inB a us.length then pk M a.toNat us else M
theorem poke_any (p : Nat) (M : MM) (a : Int) (us : List Int) (ao : Option Addr) (cap : Nat) (w : World) (h : HC p M w) (hB : Gu.Bs us ao cap w) :
    Calls Try.prog 70 #[.pointer (some ⟨p, 0, none⟩), .int .i64 a, .slice ao us.length cap] w fun e w' => e = .returned (.int .i64 (inE a us.length)) ∧ HC p (pok M a us) w' ∧ Upto (fun i => i = p) w w' := by
  unfold pok inE
  by_cases hi : inB a us.length = true
  · rw [if_pos hi, if_pos hi]
    obtain ⟨h1, h2, h3, h4⟩ := (inB_iff _ _).1 hi
    by_cases h0 : us.length = 0
    · obtain rfl : us = [] := List.length_eq_zero_iff.1 h0
      refine (poke_zero p a ao cap w h1 h3).mono ?_
      rintro e w' ⟨rfl, rfl⟩
      exact ⟨rfl, h, Upto.refl _ _⟩
    · obtain ⟨b, off, rfl, hb, hc⟩ := hB.2.2 (by omega)
      exact poke_ok p M a us b off cap w h h1 (by omega) (by omega) (by omega) hc
  · have hi' := hi
    rw [if_neg hi, if_neg hi]
    rw [inB_iff] at hi'
    refine (poke_no p a ao us.length cap w hi').mono ?_
    rintro e w' ⟨rfl, rfl⟩
    exact ⟨rfl, h, Upto.refl _ _⟩
end Go.Proofs.Ytcjcmnnhmajocaa.Me
