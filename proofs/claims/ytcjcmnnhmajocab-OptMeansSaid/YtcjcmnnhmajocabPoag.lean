/- mem.Memory.Poke. -/
import Derived.Test.YtcjcmnnhmajocabProg
import Derived.Below
import Derived.WalkKit
import Derived.LoopN
import Derived.Deep.LoopGhost
import Derived.ArgAppend
import Derived.Lib.Hide
import Derived.Laws.IdiomCopy
import Derived.Test.YtcjcmnnhmajocabPoaa
import Derived.Test.YtcjcmnnhmajocabPoae
import Derived.Test.YtcjcmnnhmajocabPoaf
namespace Go.Proofs.Ytcjcmnnhmajocab.Me
open Go.RowKit Kt
set_option linter.unusedVariables false
set_option linter.unusedSimpArgs false
theorem HM.setBy {p : Nat} {M : MM} {n : Int} {W : World} (h : HM p M n W) (k : Nat) (hk : k < 65536) (x : Int) : HM p { M with by_ := upd M.by_ k x } n (W.setCell ⟨p, k, none⟩ (.int .u8 x)) := by
  obtain ⟨h1, h2, h3, h4, h5, h6, h7⟩ := h
  refine ⟨fun j hj => ?_, fun j hj => ?_, fun j hj => ?_, fun j hj => ?_, ?_, fun i => by simpa using h6 i, by simpa using h7⟩
  · by_cases hjk : j = k
    · subst hjk
      rw [World.cell?_setCell_same _ _ _ (h1 j hj)]
      simp [upd]
    · rw [HM.cell_other (by omega), h1 j hj]
      simp [upd, hjk]
  · rw [HM.cell_other (by omega)]; exact h2 j hj
  · rw [HM.cell_other (by omega)]; exact h3 j hj
  · rw [HM.cell_other (by omega)]; exact h4 j hj
  · rw [HM.cell_other (by omega)]; exact h5
/-- one byte is written, its page changed -/
def wr1 (M : MM) (k : Nat) (b : Int) : MM := chg { M with by_ := upd M.by_ k b } (k / 256)
theorem w1_at (M : MM) (a i : Int) (j : Nat) (b : Int) (a0 : 0 ≤ a) (hi : i = (j : Int)) : chg { M with by_ := upd M.by_ (a + i).toNat b } ((a + i) / 256).toNat = wr1 M (a.toNat + j) b := by
  subst hi
  unfold wr1
  rw [show (a + (j : Int)).toNat = a.toNat + j by omega, show ((a + (j : Int)) / 256).toNat = (a.toNat + j) / 256 by omega]
theorem w1_at0 (M : MM) (a b : Int) (a0 : 0 ≤ a) : chg { M with by_ := upd M.by_ a.toNat b } (a / 256).toNat = wr1 M a.toNat b := by
  unfold wr1
  rw [show (a / 256).toNat = a.toNat / 256 by omega]
theorem change_c (p : Nat) (M : MM) (k : Int) (k0 : 0 ≤ k) (k1 : k < 256) (w : World) (h : HC p M w) :
    Calls Try.prog 101 #[.pointer (some ⟨p, 0, none⟩), .int .i64 k] w fun e w' => e = .returned (.tuple #[]) ∧ HC p (chg M k.toNat) w' ∧ Upto (fun i => i = p) w w' := by
  obtain ⟨c, rfl⟩ := Int.eq_ofNat_of_zero_le k0
  refine (change_any p M (cnt M.hi) c w h (by omega) (cnt_bd _).1 (cnt_bd _).2).mono ?_
  rintro e w' ⟨rfl, h1, o1⟩
  refine ⟨rfl, ?_, Upto.of_only o1⟩
  rw [Int.toNat_natCast]
  unfold HC
  rw [← chg_cnt M c (by omega)]
  exact h1
theorem HC.put {p : Nat} {M : MM} {W : World} (h : HC p M W) (k : Nat) (hk : k < 65536) (x : Int) : HC p { M with by_ := upd M.by_ k x } (W.setCell ⟨p, k, none⟩ (.int .u8 x)) := HM.setBy h k hk x
theorem HC.drew {p : Nat} {M : MM} {W : World} (h : HC p M W) : HC p M W.drew := h
theorem HC.facts {p : Nat} {M : MM} {W : World} (h : HC p M W) (k : Int) (k1 : k < 65536) : (∃ u, W.cell? ⟨p, k.toNat, none⟩ = some u) ∧ W.frozen? ⟨p, k.toNat, none⟩ = false :=
  ⟨⟨_, h.1 k.toNat (by omega)⟩, h.2.2.2.2.2.1 _⟩
/-- a result's block -/
def Rs (X : Nat) (W : World) : Prop := W.cell? ⟨X, 0, none⟩ = some (.int .i64 0) ∧ W.cell? ⟨X, 1, none⟩ = some (.int .u32 0) ∧ W.frozen? ⟨X, 0, none⟩ = false ∧ W.frozen? ⟨X, 1, none⟩ = false ∧ X < W.heap.size
theorem Rs.new (W : World) (X : Nat) (hX : W.heap.size = X) : Rs X (W.alloc (.cells #[.int .i64 0, .int .u32 0] 46)) := by
  subst hX
  have e := heap_alloc_new W (.cells #[.int .i64 0, .int .u32 0] 46)
  refine ⟨?_, ?_, ?_, ?_, by simp⟩
  · rw [cell_of_row _ _ _ _ _ _ e]; rfl
  · rw [cell_of_row _ _ _ _ _ _ e]; rfl
  · unfold World.frozen?; simp only [e]; rfl
  · unfold World.frozen?; simp only [e]; rfl
theorem Rs.drew {X : Nat} {W : World} (h : Rs X W) : Rs X W.drew := h
theorem Rs.upto {X : Nat} {W W' : World} {S : Nat → Prop} (h : Rs X W) (u : Upto S W W') (hs : ¬ S X) : Rs X W' := by
  obtain ⟨h1, h2, h3, h4, h5⟩ := h
  exact ⟨(u.cell h5 hs).trans h1, (u.cell h5 hs).trans h2, (u.frozen h5 hs).trans h3, (u.frozen h5 hs).trans h4, Nat.lt_of_lt_of_le h5 u.size⟩
theorem Rs.put {X p : Nat} {W : World} (h : Rs X W) (hne : ¬ X = p) {j : Nat} {v : Value} : Rs X (W.setCell ⟨p, j, none⟩ v) :=
  h.upto (S := fun i => i = p) ((Upto.refl (fun i => i = p) _).setCell (q := ⟨p, j, none⟩) (.inl rfl) _) hne
end Go.Proofs.Ytcjcmnnhmajocab.Me
namespace Go.Proofs.Ytcjcmnnhmajocab.Me
open Go.RowKit Kt
set_option linter.unusedVariables false
set_option linter.unusedSimpArgs false
set_option maxHeartbeats 1000000 in
theorem in_ok (a n : Int) (h : 0 ≤ a ∧ 0 ≤ n ∧ a ≤ 65536 ∧ n ≤ 65536 - a) (w : World) : Calls Try.prog 100 #[.int .i64 a, .int .i64 n] w fun e w' => e = .returned (.bool true) ∧ w = w' := by
  obtain ⟨h1, h2, h3, h4⟩ := h
  go_enter Try.func100, Try.ntmps100
  go_wp2
  go_ret
  exact ⟨rfl, rfl⟩
set_option maxHeartbeats 1000000 in
theorem in_no (a n : Int) (h : ¬ (0 ≤ a ∧ 0 ≤ n ∧ a ≤ 65536 ∧ n ≤ 65536 - a)) (w : World) : Calls Try.prog 100 #[.int .i64 a, .int .i64 n] w fun e w' => e = .returned (.bool false) ∧ w = w' := by
  rcases (show ¬ 0 ≤ a ∨ (0 ≤ a ∧ ¬ 0 ≤ n) ∨ (0 ≤ a ∧ 0 ≤ n ∧ ¬ a ≤ 65536) ∨ (0 ≤ a ∧ 0 ≤ n ∧ a ≤ 65536 ∧ ¬ n ≤ 65536 - a) by omega) with h1 | ⟨h1, h2⟩ | ⟨h1, h2, h3⟩ | ⟨h1, h2, h3, h4⟩
  all_goals clear h
  all_goals go_enter Try.func100, Try.ntmps100
  all_goals go_wp2
  all_goals go_ret
  all_goals exact ⟨rfl, rfl⟩
end Go.Proofs.Ytcjcmnnhmajocab.Me
namespace Go.Proofs.Ytcjcmnnhmajocab.Gu
open Go.RowKit Kt
set_option linter.unusedVariables false
set_option linter.unusedSimpArgs false
theorem u8_info : ∃ i, Try.prog.info? 5 = some i ∧ i.zero = some (.int .u8 0) ∧ i.size = 1 ∧ i.bytes = 1 := by
  have h : (Try.prog.info? 5).map (fun i => (i.zero, i.size, i.bytes)) = some (some (.int .u8 0), 1, 1) := by kernel_rfl
  obtain ⟨i, hi, hz⟩ := Option.map_eq_some_iff.1 h
  simp only [Prod.mk.injEq] at hz
  exact ⟨i, hi, hz.1, hz.2.1, hz.2.2⟩
/-- bytes that lie in a slice -/
def Bs (us : List Int) (ao : Option Addr) (cap : Nat) (w : World) : Prop :=
  us.length ≤ cap ∧ cap ≤ maxLen ∧ (0 < us.length → ∃ b off, ao = some ⟨b, off, none⟩ ∧ b < w.heap.size ∧ ∀ j, j < us.length → w.cell? ⟨b, off + j, none⟩ = some (.int .u8 (us.getD j 0)))
theorem Bs.keep {us : List Int} {ao : Option Addr} {cap : Nat} {w w' : World} (h : Bs us ao cap w) (hb : Below w.heap.size w w') : Bs us ao cap w' := by
  obtain ⟨l, m, k⟩ := h
  refine ⟨l, m, fun hlen => ?_⟩
  obtain ⟨b, off, rfl, hb', hc⟩ := k hlen
  exact ⟨b, off, rfl, Nat.lt_of_lt_of_le hb' hb.size, fun j hj => by rw [hb.cell (p := ⟨b, off + j, none⟩) hb']; exact hc j hj⟩
set_option maxHeartbeats 4000000 in
theorem same_any (g o1 g' o2 L c1 c2 : Nat) (us : List Int) (w : World) (h1 : ∀ j, j < L → w.cell? ⟨g, o1 + j, none⟩ = some (.int .u8 (us.getD j 0))) (h2 : ∀ j, j < L → w.cell? ⟨g', o2 + j, none⟩ = some (.int .u8 (us.getD j 0)))
    (hg : g < w.heap.size) (hg' : g' < w.heap.size) (hl1 : L ≤ c1) (hl2 : L ≤ c2) (hmax : L ≤ 9223372036854775807) :
    Calls Try.prog 81 #[.slice (some ⟨g, o1, none⟩) L c1, .slice (some ⟨g', o2, none⟩) L c2] w fun e w' => e = .returned (.bool true) ∧ Below w.heap.size w w' := by
  go_enter Try.func81, Try.ntmps81
  go_wp2
  go_loopg [13] L (fun k i wr => ∃ j : Nat, k = L - j ∧ j ≤ L ∧ i = .int .i64 j ∧ Below w.heap.size w wr)
  case atStart => exact ⟨0, rfl, Nat.zero_le _, rfl, Below.refl _ _⟩
  case round =>
    obtain ⟨j, hk, hj, rfl, hb⟩ := hrel
    by_cases hlt : j < L
    · have e1 := (hb.cell (p := ⟨g, o1 + j, none⟩) hg).trans (h1 j hlt)
      have e2 := (hb.cell (p := ⟨g', o2 + j, none⟩) hg').trans (h2 j hlt)
      have hlt' : (j : Int) < (L : Int) := by omega
      generalize us.getD j 0 = u at e1 e2
      go_wp2
      go_region
      go_wp2
      go_roundg (L - (j + 1))
      case measure => omega
      case rel => exact ⟨j + 1, rfl, by omega, by simp, hb.drew⟩
    · obtain rfl : j = L := by omega
      go_wp2
      go_ret
      exact ⟨rfl, hb⟩
end Go.Proofs.Ytcjcmnnhmajocab.Gu
namespace Go.Proofs.Ytcjcmnnhmajocab.Me
open Go.RowKit Kt
set_option linter.unusedVariables false
set_option linter.unusedSimpArgs false
theorem aft_alloc {w w1 : World} {ob : Obj} (hb : Below (w.alloc ob).heap.size (w.alloc ob) w1) : Below w.heap.size w w1 := ((Below.refl _ _).alloc (Nat.le_refl _) _).trans (hb.mono (by simp))
/-- a slice of the call's own, with these bytes -/
def Own (base : Nat) (v : Value) (us : List Int) (w : World) : Prop := w.ownsRow base 5 1 v us.length (us.map (Value.int .u8))
theorem Own.mono {base base' : Nat} {v : Value} {us : List Int} {w : World} (h : Own base v us w) (hb : base' ≤ base) : Own base' v us w := by
  obtain ⟨h1, h⟩ := h
  refine ⟨h1, ?_⟩
  rcases h with h | ⟨g, cap, cur, e1, e2, e3, e4⟩
  · exact .inl h
  · exact .inr ⟨g, cap, cur, e1, Nat.le_trans hb e2, e3, e4⟩
theorem Own.below {base : Nat} {v : Value} {us : List Int} {w : World} (h : Own base v us w) {q : Addr} (hq : q.block < base) (u : Value) : Own base v us (w.setCell q u) := ownsRow_setCell_below h hq u
theorem arr_facts : Try.prog.arrayLen 140 = 65536 ∧ Try.prog.underlying 140 = some (.array (Try.prog.arrayLen 140) (Try.prog.elem 140)) ∧ Try.prog.elem 140 = 5 ∧ ∀ w, (sizeOf 5).run Try.prog w = .ok 1 w := by
  refine ⟨by kernel_rfl, by kernel_rfl, by kernel_rfl, fun w => ?_⟩
  obtain ⟨i, hi, hz, hs, hb⟩ := Gu.u8_info
  simp [hi, hs, go_sem]
/-- may so many bytes be asked for there? -/
def inB (a n : Int) : Bool := decide (0 ≤ a) && decide (0 ≤ n) && decide (a ≤ 65536) && decide (n ≤ 65536 - a)
theorem inB_iff (a n : Int) : inB a n = true ↔ (0 ≤ a ∧ 0 ≤ n ∧ a ≤ 65536 ∧ n ≤ 65536 - a) := by unfold inB; simp [and_assoc]
def inE (a n : Int) : Int := if inB a n then 0 else 4
theorem Own.nil (base : Nat) (w : World) : Own base (.slice none 0 0) [] w := World.ownsRow_nil w _ _ _
end Go.Proofs.Ytcjcmnnhmajocab.Me
namespace Go.Proofs.Ytcjcmnnhmajocab.Me
open Go.RowKit Kt
set_option linter.unusedVariables false
set_option linter.unusedSimpArgs false
/-- bytes written over a memory's -/
def ovl (f : Nat → Int) : Nat → List Int → Nat → Int
  | _, [] => f
  | at_, b :: bs => ovl (upd f at_ b) (at_ + 1) bs
/-- pages changed, byte after byte -/
def chgF (M : MM) : Nat → Nat → MM
  | _, 0 => M
  | at_, k + 1 => chgF (chg M (at_ / 256)) (at_ + 1) k
theorem chgF_snoc (M : MM) (at_ k : Nat) : chgF M at_ (k + 1) = chg (chgF M at_ k) ((at_ + k) / 256) := by
  induction k generalizing M at_ with
  | zero => rfl
  | succ k ih =>
    show chgF (chg M (at_ / 256)) (at_ + 1) (k + 1) = _
    rw [ih]
    show _ = chg (chgF (chg M (at_ / 256)) (at_ + 1) k) _
    rw [show at_ + 1 + k = at_ + (k + 1) by omega]
theorem pk_split (M : MM) (at_ : Nat) (us : List Int) : pk M at_ us = chgF { M with by_ := ovl M.by_ at_ us } at_ us.length := by
  induction us generalizing M at_ with
  | nil => rfl
  | cons b bs ih =>
    show pk (chg { M with by_ := upd M.by_ at_ b } (at_ / 256)) (at_ + 1) bs = chgF (chg { M with by_ := ovl (upd M.by_ at_ b) (at_ + 1) bs } (at_ / 256)) (at_ + 1) bs.length
    rw [ih]
    congr 1
    exact (by unfold chg; split <;> rfl)
theorem HC.setCells {p : Nat} {W : World} (us : List Int) : ∀ (M : MM) (at_ : Nat) (W : World), HC p M W → at_ + us.length ≤ 65536 → HC p { M with by_ := ovl M.by_ at_ us } (W.setCells p at_ (us.map (Value.int .u8))) := by
  induction us with
  | nil => exact fun M at_ W h _ => h
  | cons b bs ih =>
    intro M at_ W h hl
    rw [List.length_cons] at hl
    exact ih { M with by_ := upd M.by_ at_ b } (at_ + 1) _ (h.put at_ (by omega) b) (by omega)
theorem Upto.setCells {S : Nat → Prop} {a : World} {p : Nat} (hp : S p) (us : List Value) : ∀ (w : World) (at_ : Nat), Upto S a w → Upto S a (w.setCells p at_ us) := by
  induction us with
  | nil => exact fun w at_ h => h
  | cons b bs ih => exact fun w at_ h => ih _ _ (h.setCell (q := ⟨p, at_, none⟩) (.inl hp) b)
theorem slice_run_l (p : Nat) (a : Int) (w : World) (a0 : 0 ≤ a) (ha : a < 65536) :
    (Instr.sliceAt 140 (.pointer (some ⟨p, 0, none⟩)) (some (.int .i64 a)) none none).run Try.prog w = .ok (.slice (some ⟨p, a.toNat, none⟩) (65536 - a.toNat) (65536 - a.toNat)) w := by
  obtain ⟨f1, f2, f3, f4⟩ := arr_facts
  rw [run_sliceAt_array_l w 140 ⟨p, 0, none⟩ f2 .i64 a (by omega) (by rw [f1]; omega), f3, f4, f1]
  simp only [Result.andThen, slicedAt]
  rw [if_neg (by omega)]
  have e : (⟨p, 0, none⟩ : Addr).add (a.toNat * 1) = ⟨p, a.toNat, none⟩ := by rw [Addr.add_lit]; simp
  rw [e]
theorem copy_run (p a : Nat) (us : List Int) (b off cap : Nat) (M : MM) (w : World) (h : HC p M w) (ha : a + us.length ≤ 65536) (hc : ∀ j, j < us.length → w.cell? ⟨b, off + j, none⟩ = some (.int .u8 (us.getD j 0))) :
    (Builtin.copy_ #[74, 74] 3 #[.slice (some ⟨p, a, none⟩) (65536 - a) (65536 - a), .slice (some ⟨b, off, none⟩) us.length cap]).run Try.prog w = .ok (goInt us.length) (w.setCells p a (us.map (Value.int .u8))) := by
  have hs : (Try.prog.info? 5).map (·.size) = some 1 := by
    obtain ⟨i, hi, hz, hs, hb⟩ := Gu.u8_info
    rw [hi, Option.map_some, hs]
  have hr := run_copy_cells (P := Try.prog) w 74 74 3 5 p a (65536 - a) (65536 - a) ⟨b, off, none⟩ us.length cap (us.map (Value.int .u8)) Try.underlying74 hs
    (by rw [List.length_map]; exact (Nat.min_eq_left (by omega)).symm) (fun j v hj => ?_) (fun j hj => ?_) (fun j hj => h.2.2.2.2.2.1 _) (fun v hv => ?_)
  · rw [List.length_map] at hr; exact hr
  · rw [List.getElem?_map] at hj
    obtain ⟨z, hz, rfl⟩ := Option.map_eq_some_iff.1 hj
    have hlt := (List.getElem?_eq_some_iff.1 hz).1
    rw [Addr.add_lit, hc j hlt, List.getD_eq_getElem?_getD, hz]; rfl
  · rw [List.length_map] at hj
    rw [h.1 (a + j) (by omega)]; rfl
  · obtain ⟨z, _, rfl⟩ := List.mem_map.1 hv
    rfl
set_option maxRecDepth 100000 in
set_option maxHeartbeats 2000000 in
theorem poke_no (p : Nat) (a : Int) (ao : Option Addr) (n cap : Nat) (w : World) (hn : ¬ (0 ≤ a ∧ 0 ≤ (n : Int) ∧ a ≤ 65536 ∧ (n : Int) ≤ 65536 - a)) :
    Calls Try.prog 56 #[.pointer (some ⟨p, 0, none⟩), .int .i64 a, .slice ao n cap] w fun e w' => e = .returned (.int .i64 4) ∧ w = w' := by
  have HI := Lib.hid (in_no a n hn)
  clear hn
  go_enter Try.func56, Try.ntmps56
  go_wp2_with (go_at_call 100; refine (HI.out _).mono ?_; rintro e w' ⟨rfl, rfl⟩)
  go_ret
  exact ⟨rfl, rfl⟩
set_option maxRecDepth 100000 in
set_option maxHeartbeats 2000000 in
theorem poke_ok (p : Nat) (M : MM) (a : Int) (us : List Int) (b off cap : Nat) (w : World) (h : HC p M w) (a0 : 0 ≤ a) (ha : a < 65536) (hn : a + us.length ≤ 65536) (h0 : 0 < us.length)
    (hc : ∀ j, j < us.length → w.cell? ⟨b, off + j, none⟩ = some (.int .u8 (us.getD j 0))) :
    Calls Try.prog 56 #[.pointer (some ⟨p, 0, none⟩), .int .i64 a, .slice (some ⟨b, off, none⟩) us.length cap] w fun e w' => e = .returned (.int .i64 0) ∧ HC p (pk M a.toNat us) w' ∧ Upto (fun i => i = p) w w' := by
  have HI := Lib.hid (in_ok a us.length (by omega))
  have hs := slice_run_l p a w a0 ha
  have hcp := copy_run p a.toNat us b off cap M w h (by omega) hc
  have H1 := Lib.hid (HC.setCells (W := w) us M a.toNat w h (by omega))
  have U1 := Lib.hid (Upto.setCells (S := fun i => i = p) rfl (us.map (Value.int .u8)) w a.toNat (Upto.refl _ w))
  rw [pk_split]
  obtain ⟨L, hL⟩ : ∃ L, us.length = L := ⟨_, rfl⟩
  rw [hL] at hcp hn HI h0 ⊢
  generalize w.setCells p a.toNat (us.map (Value.int .u8)) = W1 at hcp H1 U1
  generalize ({ M with by_ := ovl M.by_ a.toNat us } : MM) = M1 at H1 ⊢
  clear hL hc h
  go_enter Try.func56, Try.ntmps56
  go_wp2_with (go_at_call 100; refine (HI.out _).mono ?_; rintro e w' ⟨rfl, rfl⟩)
  go_loopg [22] L (fun g i wr => ∃ k : Nat, g = L - k ∧ k ≤ L ∧ i = .int .i64 k ∧ Hid (HC p (chgF M1 a.toNat k) wr) ∧ Hid (Upto (fun i => i = p) w wr))
  case atStart => exact ⟨0, rfl, Nat.zero_le _, rfl, H1, U1⟩
  case round =>
    obtain ⟨k, hg, hk, rfl, HR, UR⟩ := hrel
    by_cases hlt : k < L
    · have hlt' : (k : Int) < (L : Int) := by omega
      have e0 : 0 ≤ (a + (k : Int)) / 256 := by omega
      have e1 : (a + (k : Int)) / 256 < 256 := by omega
      have e2 : a + (k : Int) < 65536 := by omega
      go_wp2_with (go_at_call 101; refine (change_c p _ _ e0 e1 _ HR.out).mono ?_; rintro e w2 ⟨rfl, h2, o2⟩)
      go_roundg (L - (k + 1))
      case measure => omega
      case rel =>
        refine ⟨k + 1, rfl, by omega, by simp, ?_, Upto.trans UR.out o2⟩
        have e3 : ((a + (k : Int)) / 256).toNat = (a.toNat + k) / 256 := by omega
        rw [e3] at h2
        exact (chgF_snoc M1 a.toNat k) ▸ h2
    · obtain rfl : k = L := by omega
      go_wp2
      go_ret
      exact ⟨rfl, HR.out, UR.out⟩
theorem poke_zero (p : Nat) (a : Int) (ao : Option Addr) (cap : Nat) (w : World) (a0 : 0 ≤ a) (ha : a ≤ 65536) :
    Calls Try.prog 56 #[.pointer (some ⟨p, 0, none⟩), .int .i64 a, .slice ao 0 cap] w fun e w' => e = .returned (.int .i64 0) ∧ w = w' := by
  have HI := Lib.hid (in_ok a 0 (by omega))
  have hs2 : (Try.prog.info? 5).map (·.size) = some 1 := by
    obtain ⟨i, hi, hz, hs, hb⟩ := Gu.u8_info
    rw [hi, Option.map_some, hs]
  have hcn := fun d dl dc => run_copy_none (P := Try.prog) w 74 74 3 5 d ao dl dc 0 cap Try.underlying74 hs2 (Nat.zero_min _)
  by_cases he : a < 65536
  · have hs := slice_run_l p a w a0 he
    have hcn' := hcn (some ⟨p, a.toNat, none⟩) (65536 - a.toNat) (65536 - a.toNat)
    clear hcn hs2
    go_enter Try.func56, Try.ntmps56
    go_wp2_with (go_at_call 100; refine (HI.out _).mono ?_; rintro e w' ⟨rfl, rfl⟩)
    refine wp_loop_rounds 1 ?_
    rw [rounds_succ]; go_wp2
    go_ret
    exact ⟨rfl, rfl⟩
  · obtain rfl : a = 65536 := by omega
    have hcn' := hcn (some ⟨p, 0, none⟩) 0 0
    have hs : (Instr.sliceAt 140 (.pointer (some ⟨p, 0, none⟩)) (some (.int .i64 65536)) none none).run Try.prog w = .ok (.slice (some ⟨p, 0, none⟩) 0 0) w := by
      obtain ⟨f1, f2, f3, f4⟩ := arr_facts
      rw [run_sliceAt_array_l w 140 ⟨p, 0, none⟩ f2 .i64 65536 (by omega) (by rw [f1]; omega), f3, f4, f1]
      simp only [Result.andThen, slicedAt]
      rw [if_pos (by rfl)]
      rfl
    clear hcn hs2
    go_enter Try.func56, Try.ntmps56
    go_wp2_with (go_at_call 100; refine (HI.out _).mono ?_; rintro e w' ⟨rfl, rfl⟩)
    refine wp_loop_rounds 1 ?_
    rw [rounds_succ]; go_wp2
    go_ret
    exact ⟨rfl, rfl⟩
/-- what is written -/
def pok (M : MM) (a : Int) (us : List Int) : MM := if inB a us.length then pk M a.toNat us else M
theorem poke_any (p : Nat) (M : MM) (a : Int) (us : List Int) (ao : Option Addr) (cap : Nat) (w : World) (h : HC p M w) (hB : Gu.Bs us ao cap w) :
    Calls Try.prog 56 #[.pointer (some ⟨p, 0, none⟩), .int .i64 a, .slice ao us.length cap] w fun e w' => e = .returned (.int .i64 (inE a us.length)) ∧ HC p (pok M a us) w' ∧ Upto (fun i => i = p) w w' := by
  unfold pok inE
  by_cases hi : inB a us.length = true
  · rw [if_pos hi, if_pos hi]
    obtain ⟨h1, h2, h3, h4⟩ := (inB_iff _ _).1 hi
    by_cases h0 : us.length = 0
    · obtain rfl : us = [] := List.length_eq_zero_iff.1 h0
      refine (poke_zero p a ao cap w h1 h3).mono ?_
      rintro e w' ⟨rfl, rfl⟩
      exact ⟨rfl, h, Upto.refl _ _⟩
    · obtain ⟨b, off, rfl, hb, hc⟩ := hB.2.2 (by omega)
      exact poke_ok p M a us b off cap w h h1 (by omega) (by omega) (by omega) hc
  · have hi' := hi
    rw [if_neg hi, if_neg hi]
    rw [inB_iff] at hi'
    refine (poke_no p a ao us.length cap w hi').mono ?_
    rintro e w' ⟨rfl, rfl⟩
    exact ⟨rfl, h, Upto.refl _ _⟩
end Go.Proofs.Ytcjcmnnhmajocab.Me
