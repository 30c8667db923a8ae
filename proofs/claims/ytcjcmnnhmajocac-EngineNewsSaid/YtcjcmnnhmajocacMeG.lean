/- Plain law of a memory: how many pages are told; what is loaded, stored, changed. -/
import Derived.Test.YtcjcmnnhmajocacMeE
import Derived.Test.YtcjcmnnhmajocacMeC
namespace Go.Proofs.Ytcjcmnnhmajocac.Me
open Go.RowKit Kt
set_option linter.unusedVariables false
set_option linter.unusedSimpArgs false
def cntN (f : Nat → Bool) : Nat → Nat
  | 0 => 0
  | n + 1 => cntN f n + if f n = true then 1 else 0
theorem cntN_le (f : Nat → Bool) (n : Nat) : cntN f n ≤ n := by
  induction n with
  | zero => exact Nat.le_refl _
  | succ n ih => simp only [cntN]; split <;> omega
theorem cntN_far (f : Nat → Bool) (k : Nat) (v : Bool) (n : Nat) (h : n ≤ k) : cntN (upd f k v) n = cntN f n := by
  induction n with
  | zero => rfl
  | succ n ih =>
    simp only [cntN, ih (by omega)]
    rw [show upd f k v n = f n from by unfold upd; rw [if_neg (by omega)]]
theorem cntN_up (f : Nat → Bool) (k n : Nat) (hk : k < n) (hf : f k = false) : cntN (upd f k true) n = cntN f n + 1 := by
  induction n with
  | zero => omega
  | succ n ih =>
    simp only [cntN]
    by_cases hkn : k = n
    · subst hkn
      rw [cntN_far f k true k (Nat.le_refl _), hf]
      simp [upd]
    · rw [ih (by omega), show upd f k true n = f n from by unfold upd; rw [if_neg (by omega)]]
      omega
theorem cntN_down (f : Nat → Bool) (k n : Nat) (hk : k < n) (hf : f k = true) : cntN f n = cntN (upd f k false) n + 1 := by
  have h : cntN (upd (upd f k false) k true) n = cntN (upd f k false) n + 1 := cntN_up _ k n hk (by simp [upd])
  rw [← h]
  congr 1
  funext j
  unfold upd
  split
  · next e => subst e; exact hf
  · rfl
theorem cntN_pos (f : Nat → Bool) (n : Nat) : 0 < cntN f n ↔ ∃ k, k < n ∧ f k = true := by
  induction n with
  | zero => simp [cntN]
  | succ n ih =>
    simp only [cntN]
    constructor
    · intro h
      by_cases hf : f n = true
      · exact ⟨n, by omega, hf⟩
      · rw [if_neg hf] at h
        obtain ⟨k, hk, hfk⟩ := ih.1 (by omega)
        exact ⟨k, by omega, hfk⟩
    · rintro ⟨k, hk, hfk⟩
      by_cases hkn : k = n
      · subst hkn; rw [if_pos hfk]; omega
      · have := ih.2 ⟨k, by omega, hfk⟩
        omega
/-- how many pages are told -/
def cnt (f : Nat → Bool) : Int := (cntN f 256 : Nat)
theorem cnt_bd (f : Nat → Bool) : 0 ≤ cnt f ∧ cnt f ≤ 256 := by
  have := cntN_le f 256
  unfold cnt; omega
theorem cnt_up {f : Nat → Bool} {k : Nat} (hk : k < 256) (hf : f k = false) : cnt (upd f k true) = cnt f + 1 := by
  unfold cnt; rw [cntN_up f k 256 hk hf]; omega
theorem cnt_down {f : Nat → Bool} {k : Nat} (hk : k < 256) (hf : f k = true) : cnt (upd f k false) = cnt f - 1 := by
  unfold cnt; rw [cntN_down f k 256 hk hf]; omega
def anyT (f : Nat → Bool) : Bool := decide (0 < cntN f 256)
theorem cnt_pos (f : Nat → Bool) : decide (0 < cnt f) = anyT f := by
  unfold cnt anyT
  by_cases h : 0 < cntN f 256
  · rw [decide_eq_true h, decide_eq_true (by omega)]
  · rw [decide_eq_false h, decide_eq_false (by omega)]
theorem anyT_iff (f : Nat → Bool) : anyT f = true ↔ ∃ k, k < 256 ∧ f k = true := by
  unfold anyT; rw [decide_eq_true_iff]; exact cntN_pos f 256
/-- mem.Memory: M, its count with it -/
def HC (p : Nat) (M : MM) (W : World) : Prop := HM p M (cnt M.hi) W
theorem HC.upto {p : Nat} {M : MM} {S : Nat → Prop} {w w' : World} (h : HC p M w) (u : Upto S w w') (hs : ¬ S p) : HC p M w' := HM.upto h u hs
theorem chg_cnt (M : MM) (k : Nat) (hk : k < 256) : chgN M (cnt M.hi) k = cnt (chg M k).hi := by
  unfold chgN chg
  split
  · next h => simp only [Bool.and_eq_true, Bool.not_eq_true'] at h; rw [cnt_up hk h.2]
  · rfl
theorem prt_cnt (M : MM) (k : Nat) (x : Int) (hk : k < 256) : prtN M (cnt M.hi) k x = cnt (prt M k x).hi := by
  unfold prtN prt
  split
  · rfl
  · exact chg_cnt M k hk
theorem mrk_cnt (M : MM) (k : Nat) (b : Bool) (hk : k < 256) : mrkN M (cnt M.hi) k b = cnt (mrk M k b).hi := by
  unfold mrkN mrk
  split
  · next h => rw [cnt_down hk h.2]
  · rfl
theorem chg_same (M : MM) (k : Nat) : (chg M k).by_ = M.by_ ∧ (chg M k).rt = M.rt ∧ (chg M k).wd = M.wd := by unfold chg; split <;> exact ⟨rfl, rfl, rfl⟩
/-- in another way: a told page stays told -/
theorem chg_hi (M : MM) (k : Nat) : (chg M k).hi = fun j => M.hi j || (M.wd k && decide (j = k)) := by
  funext j
  unfold chg
  by_cases hw : M.wd k = true
  · by_cases hh : M.hi k = true
    · rw [hw, hh]
      by_cases hj : j = k
      · subst hj; simp [hh]
      · simp [hj]
    · simp only [Bool.not_eq_true] at hh
      rw [hw, hh]
      by_cases hj : j = k
      · subst hj; simp [upd]
      · simp [upd, hj]
  · simp only [Bool.not_eq_true] at hw
    rw [hw]; simp
theorem MM.ext {M N : MM} (h1 : M.by_ = N.by_) (h2 : M.rt = N.rt) (h3 : M.wd = N.wd) (h4 : M.hi = N.hi) : M = N := by
  cases M; cases N; simp_all
/-- bytes are written, page after page is changed -/
def pk (M : MM) : Nat → List Int → MM
  | _, [] => M
  | at_, b :: bs => pk (chg { M with by_ := upd M.by_ at_ b } (at_ / 256)) (at_ + 1) bs
/-- what is loaded -/
def byt (M : MM) (a : Int) (k : Nat) : Int := M.by_ (a.toNat + k)
def ldv (M : MM) (a n : Int) : Int :=
  if (srch M 1 a n.toNat).isNone then
    if n = 1 then byt M a 0 else if n = 2 then byt M a 0 + byt M a 1 * 256 else if n = 4 then byt M a 0 + byt M a 1 * 256 + byt M a 2 * 65536 + byt M a 3 * 16777216 else 0
  else 0
def stpV (kind : Int) (o : Option Int) : Value := match o with
  | none => .agg #[.int .i64 0, .int .u32 0]
  | some x => .agg #[.int .i64 kind, .int .u32 x]
/-- the bytes of a number -/
def bts (n v : Int) : List Int := if n = 1 then [v % 256] else if n = 2 then [v % 256, v / 256 % 256] else if n = 4 then [v % 256, v / 256 % 256, v / 65536 % 256, v / 16777216] else []
/-- what is stored, and the stop -/
def stm (M : MM) (a n v : Int) : MM := if n = 1 ∨ n = 2 ∨ n = 4 then (if (srch M 2 a n.toNat).isNone then pk M a.toNat (bts n v) else M) else M
def sto (M : MM) (a n : Int) : Option Int := if n = 1 ∨ n = 2 ∨ n = 4 then srch M 2 a n.toNat else none
theorem plc_in {M : MM} {r a : Int} {n : Nat} (a0 : 0 ≤ a) (a1 : a < 4294967296) (h : srch M r a n = none) (k : Nat) (hk : k < n) (hn : n < 65537) : plc a k = a + k ∧ a + k < 65536 := by
  have h0 := srch_all h 0 (by omega)
  have hk' := srch_all h k hk
  unfold useB at h0 hk'
  simp only [Bool.and_eq_true, decide_eq_true_eq] at h0 hk'
  have e0 : plc a 0 = a := by unfold plc; omega
  rw [e0] at h0
  have := hk'.1
  unfold plc at this ⊢
  omega
theorem ldv_bd {M : MM} (hM : MOk M) (a n : Int) : 0 ≤ ldv M a n ∧ ldv M a n < 4294967296 := by
  have b0 := hM.1 (a.toNat + 0)
  have b1 := hM.1 (a.toNat + 1)
  have b2 := hM.1 (a.toNat + 2)
  have b3 := hM.1 (a.toNat + 3)
  unfold ldv byt
  split
  · split
    · omega
    · split
      · omega
      · split
        · omega
        · omega
  · omega
theorem cntN_no (n : Nat) : cntN (fun _ => false) n = 0 := by
  induction n with
  | zero => rfl
  | succ n ih => simp [cntN, ih]
theorem cnt_no : cnt (fun _ => false) = 0 := by unfold cnt; rw [cntN_no]; rfl
def mkE (k : Int) : Int := if 0 ≤ k ∧ k < 256 then 0 else 4
def mkM (M : MM) (k : Int) (b : Bool) : MM := if 0 ≤ k ∧ k < 256 then mrk M k.toNat b else M
theorem mark_any (p : Nat) (M : MM) (k : Int) (b : Bool) (w : World) (h : HC p M w) :
    Calls Try.prog 47 #[.pointer (some ⟨p, 0, none⟩), .int .i64 k, .bool b] w fun e w' => e = .returned (.int .i64 (mkE k)) ∧ HC p (mkM M k b) w' ∧ Upto (fun i => i = p) w w' := by
  unfold mkE mkM
  by_cases hk : 0 ≤ k ∧ k < 256
  · rw [if_pos hk, if_pos hk]
    obtain ⟨k0, k1⟩ := hk
    obtain ⟨c, rfl⟩ := Int.eq_ofNat_of_zero_le k0
    refine (mark_ok p M (cnt M.hi) c b w h (by omega) (cnt_bd _).1 (cnt_bd _).2).mono ?_
    rintro e w' ⟨rfl, h1, o1⟩
    refine ⟨rfl, ?_, Upto.of_only o1⟩
    rw [Int.toNat_natCast]
    unfold HC
    rw [← mrk_cnt M c b (by omega)]
    exact h1
  · rw [if_neg hk, if_neg hk]
    refine (mark_bad p k b w (by omega)).mono ?_
    rintro e w' ⟨rfl, rfl⟩
    exact ⟨rfl, h, Upto.refl _ _⟩
end Go.Proofs.Ytcjcmnnhmajocac.Me
