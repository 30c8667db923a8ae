/- Two memories side by side: what each call answers of both; numbers stay within their bounds. -/
import Derived.Test.YtcjcmnnhmajocaaMeR
import Derived.Test.YtcjcmnnhmajocaaMeT
namespace Go.Proofs.Ytcjcmnnhmajocaa.Me
open Go.RowKit Kt
set_option linter.unusedVariables false
set_option linter.unusedSimpArgs false
def prE (k x : Int) : Int := if 0 ≤ k ∧ k < 256 ∧ 0 ≤ x ∧ x ≤ 7 then 0 else 4
def prM (M : MM) (k x : Int) : MM := if 0 ≤ k ∧ k < 256 ∧ 0 ≤ x ∧ x ≤ 7 then prt M k.toNat x else M
theorem protect_any (p : Nat) (M : MM) (k x : Int) (w : World) (h : HC p M w) :
    Calls Try.prog 68 #[.pointer (some ⟨p, 0, none⟩), .int .i64 k, .int .i64 x] w fun e w' => e = .returned (.int .i64 (prE k x)) ∧ HC p (prM M k x) w' ∧ Upto (fun i => i = p) w w' := by
  unfold prE prM
  by_cases hk : 0 ≤ k ∧ k < 256 ∧ 0 ≤ x ∧ x ≤ 7
  · rw [if_pos hk, if_pos hk]
    obtain ⟨k0, k1, x0, x1⟩ := hk
    obtain ⟨c, rfl⟩ := Int.eq_ofNat_of_zero_le k0
    refine (protect_ok p M (cnt M.hi) c x w h (by omega) x0 x1 (cnt_bd _).1 (cnt_bd _).2).mono ?_
    rintro e w' ⟨rfl, h1, o1⟩
    refine ⟨rfl, ?_, Upto.of_only o1⟩
    rw [Int.toNat_natCast]
    unfold HC
    rw [← prt_cnt M c x (by omega)]
    exact h1
  · rw [if_neg hk, if_neg hk]
    refine (protect_bad p M (cnt M.hi) k x w h (by omega)).mono ?_
    rintro e w' ⟨rfl, rfl⟩
    exact ⟨rfl, h, Upto.refl _ _⟩
theorem rprotect_any (P : RP) (M : MM) (k x : Int) (w : World) (h : RM P M w) :
    Calls Try.prog 69 #[.pointer (some ⟨P.q, 0, none⟩), .int .i64 k, .int .i64 x] w fun e w' => e = .returned (.int .i64 (prE k x)) ∧ RM P (prM M k x) w' ∧ Upto P.S w w' := by
  unfold prE prM
  by_cases hk : 0 ≤ k ∧ k < 256 ∧ 0 ≤ x ∧ x ≤ 7
  · rw [if_pos hk, if_pos hk]
    obtain ⟨k0, k1, x0, x1⟩ := hk
    exact rprotect_ok P M k x w h k0 k1 x0 x1
  · rw [if_neg hk, if_neg hk]
    refine (rprotect_bad P.q k x w (by omega)).mono ?_
    rintro e w' ⟨rfl, rfl⟩
    exact ⟨rfl, h, Upto.refl _ _⟩
theorem rmark_any (P : RP) (M : MM) (k : Int) (b : Bool) (w : World) (h : RM P M w) :
    Calls Try.prog 81 #[.pointer (some ⟨P.q, 0, none⟩), .int .i64 k, .bool b] w fun e w' => e = .returned (.int .i64 (mkE k)) ∧ RM P (mkM M k b) w' ∧ Upto P.S w w' := by
  unfold mkE mkM
  by_cases hk : 0 ≤ k ∧ k < 256
  · rw [if_pos hk, if_pos hk]
    exact rmark_ok P M k b w h hk.1 hk.2
  · rw [if_neg hk, if_neg hk]
    refine (rmark_bad P.q k b w (by omega)).mono ?_
    rintro e w' ⟨rfl, rfl⟩
    exact ⟨rfl, h, Upto.refl _ _⟩
set_option maxHeartbeats 1000000 in
theorem touched_any (p : Nat) (M : MM) (n : Int) (w : World) (h : HM p M n w) : Calls Try.prog 85 #[.pointer (some ⟨p, 0, none⟩)] w fun e w' => e = .returned (.bool (decide (0 < n))) ∧ w = w' := by
  have c5 := h.2.2.2.2.1
  clear h
  go_enter Try.func85, Try.ntmps85
  go_wp2
  go_ret
  exact ⟨rfl, rfl⟩
theorem touched_c (p : Nat) (M : MM) (w : World) (h : HC p M w) : Calls Try.prog 85 #[.pointer (some ⟨p, 0, none⟩)] w fun e w' => e = .returned (.bool (anyT M.hi)) ∧ w = w' := by
  rw [← cnt_pos]; exact touched_any p M _ w h
/-- rights of a page, 0 of what is none -/
def rgt (M : MM) (k : Int) : Int := if 0 ≤ k ∧ k < 256 then M.rt k.toNat else 0
theorem rights_c (p : Nat) (M : MM) (k : Int) (w : World) (h : HC p M w) (hM : MOk M) : Calls Try.prog 84 #[.pointer (some ⟨p, 0, none⟩), .int .i64 k] w fun e w' => e = .returned (.int .i64 (rgt M k)) ∧ w = w' :=
  rights_any p M _ k w h (fun j => by have := hM.2 j; omega)
theorem MOk.chg {M : MM} (h : MOk M) (k : Nat) : MOk (chg M k) := by
  obtain ⟨e1, e2, _⟩ := chg_same M k
  exact ⟨fun j => by rw [e1]; exact h.1 j, fun j => by rw [e2]; exact h.2 j⟩
theorem MOk.put {M : MM} (h : MOk M) (k : Nat) (x : Int) (hx : 0 ≤ x ∧ x < 256) : MOk { M with by_ := upd M.by_ k x } :=
  ⟨fun j => by simp only [upd]; split; exact hx; exact h.1 j, h.2⟩
theorem MOk.pk {us : List Int} : ∀ {M : MM} (at_ : Nat), MOk M → (∀ j, 0 ≤ us.getD j 0 ∧ us.getD j 0 < 256) → MOk (pk M at_ us) := by
  induction us with
  | nil => exact fun _ h _ => h
  | cons b bs ih =>
    intro M at_ h hr
    exact ih (at_ + 1) ((h.put at_ b (by simpa using hr 0)).chg _) (fun j => by simpa using hr (j + 1))
theorem MOk.prM {M : MM} (h : MOk M) (k x : Int) : MOk (prM M k x) := by
  unfold Me.prM
  split
  · next hk =>
    have h1 : MOk (if M.rt k.toNat = x then M else Me.chg M k.toNat) := by split; exact h; exact h.chg _
    exact ⟨h1.1, fun j => by
      show 0 ≤ upd M.rt k.toNat x j ∧ upd M.rt k.toNat x j < 8
      simp only [upd]; split
      · omega
      · exact h.2 j⟩
  · exact h
theorem MOk.mkM {M : MM} (h : MOk M) (k : Int) (b : Bool) : MOk (mkM M k b) := by
  unfold Me.mkM mrk
  split
  · split <;> exact ⟨h.1, h.2⟩
  · exact h
theorem MOk.clr {M : MM} (h : MOk M) : MOk (clr M) := ⟨h.1, h.2⟩
theorem MOk.pok {M : MM} (h : MOk M) (a : Int) {us : List Int} (hr : ∀ j, 0 ≤ us.getD j 0 ∧ us.getD j 0 < 256) : MOk (pok M a us) := by
  unfold Me.pok; split
  · exact h.pk _ hr
  · exact h
theorem bts_rg (n v : Int) (v0 : 0 ≤ v) (v1 : v < 4294967296) : ∀ j, 0 ≤ (bts n v).getD j 0 ∧ (bts n v).getD j 0 < 256 := by
  intro j
  unfold bts
  split
  · match j with
    | 0 => simp; omega
    | j + 1 => simp
  · split
    · match j with
      | 0 => simp; omega
      | 1 => simp; omega
      | j + 2 => simp
    · split
      · match j with
        | 0 => simp; omega
        | 1 => simp; omega
        | 2 => simp; omega
        | 3 => simp; omega
        | j + 4 => simp
      · simp
theorem MOk.stm {M : MM} (h : MOk M) (a n v : Int) (v0 : 0 ≤ v) (v1 : v < 4294967296) : MOk (stm M a n v) := by
  unfold Me.stm
  split
  · split
    · exact h.pk _ (bts_rg n v v0 v1)
    · exact h
  · exact h
theorem MOk.zero : MOk M0 := ⟨fun _ => by simp [M0], fun _ => by simp [M0]⟩
theorem rdB_rg {M : MM} (h : MOk M) (a n : Nat) : ∀ j, 0 ≤ (rdB M a n).getD j 0 ∧ (rdB M a n).getD j 0 < 256 := by
  intro j
  by_cases hj : j < n
  · rw [rdB_get M a n j hj]; exact h.1 _
  · rw [List.getD_eq_getElem?_getD, List.getElem?_eq_none (by rw [rdB_len]; omega)]; simp
/-- a memory of the program's and one of the meaning, with the same in them -/
structure Pair (p : Nat) (P : RP) (M : MM) (W : World) : Prop where
  hc : HC p M W
  rm : RM P M W
  ne : ¬ P.has p
  ok : MOk M
def PS (p : Nat) (P : RP) (k : Nat) : Prop := k = p ∨ P.has k
theorem Pair.upto {p : Nat} {P : RP} {M : MM} {w w' : World} {S : Nat → Prop} (h : Pair p P M w) (u : Upto S w w') (hs : ∀ k, PS p P k → ¬ S k) : Pair p P M w' :=
  ⟨h.hc.upto u (hs p (.inl rfl)), h.rm.upto u (fun k hk => hs k (.inr hk)), h.ne, h.ok⟩
theorem Pair.lt {p : Nat} {P : RP} {M : MM} {w : World} (h : Pair p P M w) (k : Nat) (hk : PS p P k) : k < w.heap.size := by
  rcases hk with hk | hk | hk | hk | hk | hk
  · rw [hk]; exact h.hc.2.2.2.2.2.2
  · rw [hk]; exact h.rm.lq
  · rw [hk]; exact h.rm.lb
  · rw [hk]; exact h.rm.lr
  · rw [hk]; exact h.rm.lm
  · rw [hk]; exact h.rm.lt
theorem Pair.hm {p : Nat} {P : RP} {M M' : MM} {w w' : World} (h : Pair p P M w) (h1 : HC p M' w') (u : Upto (fun i => i = p) w w') : RM P M w' :=
  h.rm.upto u (fun k hk e => h.ne (e ▸ hk))
end Go.Proofs.Ytcjcmnnhmajocaa.Me
