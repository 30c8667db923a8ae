/- mem.Memory.Poke. -/
import Derived.Test.YtcjcmnnhmajocabProg
import Derived.Below
import Derived.WalkKit
import Derived.LoopN
import Derived.Deep.LoopGhost
import Derived.ArgAppend
import Derived.Lib.Hide
import Derived.Laws.IdiomCopy
import Derived.Test.YtcjcmnnhmajocabPhaa
import Derived.Test.YtcjcmnnhmajocabPhab
set_option linter.unusedVariables false
set_option linter.unusedSimpArgs false
set_option maxRecDepth 100000
set_option maxHeartbeats 16000000
namespace Go.Proofs.Ytcjcmnnhmajocab.Me
open Go.RowKit Kt
theorem in_ok (a n : Int) (h : 0 ≤ a ∧ 0 ≤ n ∧ a ≤ 65536 ∧ n ≤ 65536 - a) (w : World) : Calls Try.prog 100 #[.int .i64 a, .int .i64 n] w fun e w' => e = .returned (.bool true) ∧ w = w' := by
 obtain ⟨h1, h2, h3, h4⟩ := h
 go_enter Try.func100, Try.ntmps100
 go_wp2
 go_ret
 exact ⟨rfl, rfl⟩
theorem in_no (a n : Int) (h : ¬ (0 ≤ a ∧ 0 ≤ n ∧ a ≤ 65536 ∧ n ≤ 65536 - a)) (w : World) : Calls Try.prog 100 #[.int .i64 a, .int .i64 n] w fun e w' => e = .returned (.bool false) ∧ w = w' := by
 rcases (show ¬ 0 ≤ a ∨ (0 ≤ a ∧ ¬ 0 ≤ n) ∨ (0 ≤ a ∧ 0 ≤ n ∧ ¬ a ≤ 65536) ∨ (0 ≤ a ∧ 0 ≤ n ∧ a ≤ 65536 ∧ ¬ n ≤ 65536 - a) by omega) with h1 | ⟨h1, h2⟩ | ⟨h1, h2, h3⟩ | ⟨h1, h2, h3, h4⟩
 all_goals clear h
 all_goals go_enter Try.func100, Try.ntmps100
 all_goals go_wp2
 all_goals go_ret
 all_goals exact ⟨rfl, rfl⟩
end Go.Proofs.Ytcjcmnnhmajocab.Me
namespace Go.Proofs.Ytcjcmnnhmajocab.Gu
open Go.RowKit Kt
theorem u8_info : ∃ i, Try.prog.info? 5 = some i ∧ i.zero = some (.int .u8 0) ∧ i.size = 1 ∧ i.bytes = 1 := by
 have h : (Try.prog.info? 5).map (fun i => (i.zero, i.size, i.bytes)) = some (some (.int .u8 0), 1, 1) := by kernel_rfl
 obtain ⟨i, hi, hz⟩ := Option.map_eq_some_iff.1 h
 simp only [Prod.mk.injEq] at hz
 exact ⟨i, hi, hz.1, hz.2.1, hz.2.2⟩
/-- bytes that lie in a slice -/
def Bs (us : List Int) (ao : Option Addr) (cap : Nat) (w : World) : Prop :=
 us.length ≤ cap ∧ cap ≤ maxLen ∧ (0 < us.length → ∃ b off, ao = some ⟨b, off, none⟩ ∧ b < w.heap.size ∧ ∀ j, j < us.length → w.cell? ⟨b, off + j, none⟩ = some (.int .u8 (us.getD j 0)))
theorem Bs.keep {us : List Int} {ao : Option Addr} {cap : Nat} {w w' : World} (h : Bs us ao cap w) (hb : Below w.heap.size w w') : Bs us ao cap w' := by
 obtain ⟨l, m, k⟩ := h
 refine ⟨l, m, fun hlen => ?_⟩
 obtain ⟨b, off, rfl, hb', hc⟩ := k hlen
 exact ⟨b, off, rfl, Nat.lt_of_lt_of_le hb' hb.size, fun j hj => by rw [hb.cell (p := ⟨b, off + j, none⟩) hb']; exact hc j hj⟩
theorem same_nil (a1 a2 : Option Addr) (c1 c2 : Nat) (w : World) : Calls Try.prog 81 #[.slice a1 0 c1, .slice a2 0 c2] w fun e w' => e = .returned (.bool true) ∧ Below w.heap.size w w' := by
 go_enter Try.func81, Try.ntmps81
 go_wp2
 refine wp_loop_rounds 1 ?_
 rw [rounds_succ]; go_wp2
 go_ret
 exact ⟨rfl, Below.refl _ _⟩
theorem same_any (g o1 g' o2 L c1 c2 : Nat) (us : List Int) (w : World) (h1 : ∀ j, j < L → w.cell? ⟨g, o1 + j, none⟩ = some (.int .u8 (us.getD j 0))) (h2 : ∀ j, j < L → w.cell? ⟨g', o2 + j, none⟩ = some (.int .u8 (us.getD j 0)))
  (hg : g < w.heap.size) (hg' : g' < w.heap.size) (hl1 : L ≤ c1) (hl2 : L ≤ c2) (hmax : L ≤ 9223372036854775807) :
  Calls Try.prog 81 #[.slice (some ⟨g, o1, none⟩) L c1, .slice (some ⟨g', o2, none⟩) L c2] w fun e w' => e = .returned (.bool true) ∧ Below w.heap.size w w' := by
 go_enter Try.func81, Try.ntmps81
 go_wp2
 go_loopg [13] L (fun k i wr => ∃ j : Nat, k = L - j ∧ j ≤ L ∧ i = .int .i64 j ∧ Below w.heap.size w wr)
 case atStart => exact ⟨0, rfl, Nat.zero_le _, rfl, Below.refl _ _⟩
 case round =>
  obtain ⟨j, hk, hj, rfl, hb⟩ := hrel
  by_cases hlt : j < L
  ·have e1 := (hb.cell (p := ⟨g, o1 + j, none⟩) hg).trans (h1 j hlt)
   have e2 := (hb.cell (p := ⟨g', o2 + j, none⟩) hg').trans (h2 j hlt)
   have hlt' : (j : Int) < (L : Int) := by omega
   generalize us.getD j 0 = u at e1 e2
   go_wp2
   go_region
   go_wp2
   go_roundg (L - (j + 1))
   case measure => omega
   case rel => exact ⟨j + 1, rfl, by omega, by simp, hb.drew⟩
  ·obtain rfl : j = L := by omega
   go_wp2
   go_ret
   exact ⟨rfl, hb⟩
end Go.Proofs.Ytcjcmnnhmajocab.Gu
namespace Go.Proofs.Ytcjcmnnhmajocab.Me
open Go.RowKit Kt
theorem aft_alloc {w w1 : World} {ob : Obj} (hb : Below (w.alloc ob).heap.size (w.alloc ob) w1) : Below w.heap.size w w1 := ((Below.refl _ _).alloc (Nat.le_refl _) _).trans (hb.mono (by simp))
/-- bytes of a memory, from a place on -/
def rdB (M : MM) (a : Nat) (n : Nat) : List Int := (List.range n).map fun j => M.by_ (a + j)
theorem rdB_len (M : MM) (a n : Nat) : (rdB M a n).length = n := by simp [rdB]
theorem rdB_get (M : MM) (a n j : Nat) (h : j < n) : (rdB M a n).getD j 0 = M.by_ (a + j) := by simp [rdB, List.getD_eq_getElem?_getD, h]
/-- a slice of the call's own, with these bytes -/
def Own (base : Nat) (v : Value) (us : List Int) (w : World) : Prop := w.ownsRow base 5 1 v us.length (us.map (Value.int .u8))
theorem Own.mono {base base' : Nat} {v : Value} {us : List Int} {w : World} (h : Own base v us w) (hb : base' ≤ base) : Own base' v us w := by
 obtain ⟨h1, h⟩ := h
 refine ⟨h1, ?_⟩
 rcases h with h | ⟨g, cap, cur, e1, e2, e3, e4⟩
 ·exact .inl h
 ·exact .inr ⟨g, cap, cur, e1, Nat.le_trans hb e2, e3, e4⟩
theorem Own.below {base : Nat} {v : Value} {us : List Int} {w : World} (h : Own base v us w) {q : Addr} (hq : q.block < base) (u : Value) : Own base v us (w.setCell q u) := ownsRow_setCell_below h hq u
/-- append to nil, of bytes that lie in a block: a new slice -/
theorem ap_new {ops : Array Oper} {rest : List Oper} {o : Oper} {a : Act} {Q : Exit → Act → World → Prop} {w : World} (hgd : o.guard = none) (x : Operand)
  (ho : o.op = .call { callee := .builtin .append, args := #[.const (.slice none 0 0), x], argTypes := #[74, 74] })
  (us : List Int) (b off n cap : Nat) (hx : a.eval x = .slice (some ⟨b, off, none⟩) n cap) (hn : us.length = n) (hc : ∀ j, j < us.length → w.cell? ⟨b, off + j, none⟩ = some (.int .u8 (us.getD j 0))) (hb : us.length ≤ 140737488355328)
  (h : ∀ v' w', Own w.heap.size v' us w' → Below w.heap.size w w' → wpList Try.prog ops Q rest (a.put o.dst v') w') : wpList Try.prog ops Q (o :: rest) a w := by
 subst hn
 obtain ⟨i, hi, hz, hsz, hby⟩ := Gu.u8_info
 have hmx : (maxLen : Nat) = 9223372036854775807 := rfl
 refine wpList_append_own w hgd (.const (.slice none 0 0)) x 74 ho w.heap.size 5 i (.int .u8 0) 1 1 Try.underlying74 hi hz hsz hby rfl Nat.one_pos (.slice none 0 0) 0 [] rfl (World.ownsRow_nil w _ _ _) ⟨b, off, none⟩ us.length cap (us.map (Value.int .u8)) hx (by simp) ?_ ?_ (by omega) (by omega) (Nat.le_refl _) (fun v' w' hv hg _ => h v' w' ?_ ((Below.refl _ _).grown hg (Nat.le_refl _) (fun k hk => ?_)))
 ·intro j u hj
  rw [List.getElem?_map] at hj
  obtain ⟨z, hz, rfl⟩ := Option.map_eq_some_iff.1 hj
  have hlt := (List.getElem?_eq_some_iff.1 hz).1
  rw [Addr.add_lit, hc j hlt, List.getD_eq_getElem?_getD, hz]; rfl
 ·intro u hu
  obtain ⟨z, _, rfl⟩ := List.mem_map.1 hu
  rfl
 ·unfold Own; simpa using hv
 ·cases hk
theorem arr_facts : Try.prog.arrayLen 140 = 65536 ∧ Try.prog.underlying 140 = some (.array (Try.prog.arrayLen 140) (Try.prog.elem 140)) ∧ Try.prog.elem 140 = 5 ∧ ∀ w, (sizeOf 5).run Try.prog w = .ok 1 w := by
 refine ⟨by kernel_rfl, by kernel_rfl, by kernel_rfl, fun w => ?_⟩
 obtain ⟨i, hi, hz, hs, hb⟩ := Gu.u8_info
 simp [hi, hs, go_sem]
theorem slice_run (p a n : Nat) (k : IntKind) (w : World) (ha : a < 65536) (hn : a + n ≤ 65536) :
  (Instr.sliceAt 140 (.pointer (some ⟨p, 0, none⟩)) (some (.int k a)) (some (.int .i64 ((a : Int) + (n : Int)))) none).run Try.prog w = .ok (.slice (some ⟨p, a, none⟩) n (65536 - a)) w := by
 obtain ⟨f1, f2, f3, f4⟩ := arr_facts
 rw [run_sliceAt_array_lh w 140 ⟨p, 0, none⟩ f2 k .i64 a (a + n) (by omega) (by omega) (by rw [f1]; omega), f3, f4, f1]
 simp only [Result.andThen, slicedAt, Int.toNat_natCast]
 rw [show ((a : Int) + (n : Int)).toNat = a + n by omega, if_neg (by omega)]
 have e : (⟨p, 0, none⟩ : Addr).add (a * 1) = ⟨p, a, none⟩ := by rw [Addr.add_lit]; simp
 rw [e, show a + n - a = n by omega]
theorem peek_no (p : Nat) (a n : Int) (w : World) (hn : ¬ (0 ≤ a ∧ 0 ≤ n ∧ a ≤ 65536 ∧ n ≤ 65536 - a)) :
  Calls Try.prog 69 #[.pointer (some ⟨p, 0, none⟩), .int .i64 a, .int .i64 n] w fun e w' => e = .returned (.tuple #[.slice none 0 0, .int .i64 4]) ∧ w = w' := by
 have HI := κ (in_no a n hn)
 clear hn
 go_enter Try.func69, Try.ntmps69
 go_wp2_with (go_at_call 100; refine (HI.out _).mono ?_; rintro e w' ⟨rfl, rfl⟩)
 go_ret2
 exact ⟨rfl, rfl⟩
theorem peek_ok (p : Nat) (M : MM) (N : Int) (a n : Nat) (w : World) (h : HM p M N w) (hn : a < 65536) (hn2 : a + n ≤ 65536) :
  Calls Try.prog 69 #[.pointer (some ⟨p, 0, none⟩), .int .i64 (a : Int), .int .i64 (n : Int)] w fun e w' => ∃ v, e = .returned (.tuple #[v, .int .i64 0]) ∧ Own w.heap.size v (rdB M a n) w' ∧ Below w.heap.size w w' := by
 have HI := κ (in_ok (a : Int) n (by omega))
 have a0 : (a : Int) < 65536 := by omega
 have a1 : (a : Int) + n ≤ 65536 := by omega
 have a2 : a ≤ a + n := by omega
 have HC := κ (show ∀ j, j < (rdB M a n).length → w.cell? ⟨p, a + j, none⟩ = some (.int .u8 ((rdB M a n).getD j 0)) from fun j hj => by
  rw [rdB_len] at hj
  rw [rdB_get M a n j hj]; exact h.1 _ (by omega))
 have HL := κ (rdB_len M a n)
 have hr := slice_run p a n .i64 w hn hn2
 clear h hn hn2
 go_enter Try.func69, Try.ntmps69
 go_wp2_with (first
  | (go_at_call 100; refine (HI.out _).mono ?_; rintro e w' ⟨rfl, rfl⟩)
  | (at_builtin; refine ap_new rfl (.tmp 19) rfl (rdB M a n) p a n (65536 - a) rfl HL.out HC.out (by rw [HL.out]; omega) ?_; intro v w1 hv hb))
 go_ret2
 exact ⟨v, rfl, hv, hb⟩
theorem slice_end (p : Nat) (w : World) :
  (Instr.sliceAt 140 (.pointer (some ⟨p, 0, none⟩)) (some (.int .i64 65536)) (some (.int .i64 65536)) none).run Try.prog w = .ok (.slice (some ⟨p, 0, none⟩) 0 0) w := by
 obtain ⟨f1, f2, f3, f4⟩ := arr_facts
 rw [run_sliceAt_array_lh w 140 ⟨p, 0, none⟩ f2 .i64 .i64 65536 65536 (by omega) (by omega) (by rw [f1]; omega), f3, f4, f1]
 simp only [Result.andThen, slicedAt]
 rw [if_pos (by rfl)]
 rfl
theorem peek_end (p : Nat) (w : World) :
  Calls Try.prog 69 #[.pointer (some ⟨p, 0, none⟩), .int .i64 65536, .int .i64 0] w fun e w' => ∃ v, e = .returned (.tuple #[v, .int .i64 0]) ∧ Own w.heap.size v [] w' ∧ Below w.heap.size w w' := by
 have HI := κ (in_ok 65536 0 (by omega))
 have hr := slice_end p w
 go_enter Try.func69, Try.ntmps69
 go_wp2_with (first
  | (go_at_call 100; refine (HI.out _).mono ?_; rintro e w' ⟨rfl, rfl⟩)
  | (at_builtin; refine ap_new rfl (.tmp 19) rfl [] p 0 0 0 rfl rfl (fun j hj => absurd hj (by simp)) (by simp) ?_; intro v w1 hv hb))
 go_ret2
 exact ⟨v, rfl, hv, hb⟩
/-- may so many bytes be asked for there? -/
def inB (a n : Int) : Bool := decide (0 ≤ a) && decide (0 ≤ n) && decide (a ≤ 65536) && decide (n ≤ 65536 - a)
theorem inB_iff (a n : Int) : inB a n = true ↔ (0 ≤ a ∧ 0 ≤ n ∧ a ≤ 65536 ∧ n ≤ 65536 - a) := by unfold inB; simp [and_assoc]
def pekL (M : MM) (a n : Int) : List Int := if inB a n then rdB M a.toNat n.toNat else []
def inE (a n : Int) : Int := if inB a n then 0 else 4
theorem Own.nil (base : Nat) (w : World) : Own base (.slice none 0 0) [] w := World.ownsRow_nil w _ _ _
theorem peek_any (p : Nat) (M : MM) (a n : Int) (w : World) (h : HC p M w) :
  Calls Try.prog 69 #[.pointer (some ⟨p, 0, none⟩), .int .i64 a, .int .i64 n] w fun e w' => ∃ v, e = .returned (.tuple #[v, .int .i64 (inE a n)]) ∧ Own w.heap.size v (pekL M a n) w' ∧ Below w.heap.size w w' := by
 unfold pekL inE
 by_cases hi : inB a n = true
 ·rw [if_pos hi, if_pos hi]
  obtain ⟨h1, h2, h3, h4⟩ := (inB_iff a n).1 hi
  obtain ⟨i, rfl⟩ := Int.eq_ofNat_of_zero_le h1
  obtain ⟨k, rfl⟩ := Int.eq_ofNat_of_zero_le h2
  rw [Int.toNat_natCast, Int.toNat_natCast]
  by_cases he : i < 65536
  ·exact peek_ok p M _ i k w h he (by omega)
  ·obtain rfl : i = 65536 := by omega
   obtain rfl : k = 0 := by omega
   exact peek_end p w
 ·have hi' := hi
  rw [if_neg hi, if_neg hi]
  rw [inB_iff] at hi'
  refine (peek_no p a n w hi').mono ?_
  rintro e w' ⟨rfl, rfl⟩
  exact ⟨_, rfl, Own.nil _ _, Below.refl _ _⟩
end Go.Proofs.Ytcjcmnnhmajocab.Me
namespace Go.Proofs.Ytcjcmnnhmajocab.Me
open Go.RowKit Kt
/-- bytes written over a memory's -/
def ovl (f : Nat → Int) : Nat → List Int → Nat → Int
 | _, [] => f
 | at_, b :: bs => ovl (upd f at_ b) (at_ + 1) bs
/-- pages changed, byte after byte -/
def chgF (M : MM) : Nat → Nat → MM
 | _, 0 => M
 | at_, k + 1 => chgF (chg M (at_ / 256)) (at_ + 1) k
theorem chgF_snoc (M : MM) (at_ k : Nat) : chgF M at_ (k + 1) = chg (chgF M at_ k) ((at_ + k) / 256) := by
 induction k generalizing M at_ with
 | zero => rfl
 | succ k ih =>
  show chgF (chg M (at_ / 256)) (at_ + 1) (k + 1) = _
  rw [ih]
  show _ = chg (chgF (chg M (at_ / 256)) (at_ + 1) k) _
  rw [show at_ + 1 + k = at_ + (k + 1) by omega]
theorem pk_split (M : MM) (at_ : Nat) (us : List Int) : pk M at_ us = chgF { M with by_ := ovl M.by_ at_ us } at_ us.length := by
 induction us generalizing M at_ with
 | nil => rfl
 | cons b bs ih =>
  show pk (chg { M with by_ := upd M.by_ at_ b } (at_ / 256)) (at_ + 1) bs = chgF (chg { M with by_ := ovl (upd M.by_ at_ b) (at_ + 1) bs } (at_ / 256)) (at_ + 1) bs.length
  rw [ih]
  congr 1
  exact (by unfold chg; split <;> rfl)
theorem HC.setCells {p : Nat} {W : World} (us : List Int) : ∀ (M : MM) (at_ : Nat) (W : World), HC p M W → at_ + us.length ≤ 65536 → HC p { M with by_ := ovl M.by_ at_ us } (W.setCells p at_ (us.map (Value.int .u8))) := by
 induction us with
 | nil => exact fun M at_ W h _ => h
 | cons b bs ih =>
  intro M at_ W h hl
  rw [List.length_cons] at hl
  exact ih { M with by_ := upd M.by_ at_ b } (at_ + 1) _ (h.put at_ (by omega) b) (by omega)
theorem Upto.setCells {S : Nat → Prop} {a : World} {p : Nat} (hp : S p) (us : List Value) : ∀ (w : World) (at_ : Nat), Upto S a w → Upto S a (w.setCells p at_ us) := by
 induction us with
 | nil => exact fun w at_ h => h
 | cons b bs ih => exact fun w at_ h => ih _ _ (h.setCell (q := ⟨p, at_, none⟩) (.inl hp) b)
theorem slice_run_l (p : Nat) (a : Int) (w : World) (a0 : 0 ≤ a) (ha : a < 65536) :
  (Instr.sliceAt 140 (.pointer (some ⟨p, 0, none⟩)) (some (.int .i64 a)) none none).run Try.prog w = .ok (.slice (some ⟨p, a.toNat, none⟩) (65536 - a.toNat) (65536 - a.toNat)) w := by
 obtain ⟨f1, f2, f3, f4⟩ := arr_facts
 rw [run_sliceAt_array_l w 140 ⟨p, 0, none⟩ f2 .i64 a (by omega) (by rw [f1]; omega), f3, f4, f1]
 simp only [Result.andThen, slicedAt]
 rw [if_neg (by omega)]
 have e : (⟨p, 0, none⟩ : Addr).add (a.toNat * 1) = ⟨p, a.toNat, none⟩ := by rw [Addr.add_lit]; simp
 rw [e]
theorem copy_run (p a : Nat) (us : List Int) (b off cap : Nat) (M : MM) (w : World) (h : HC p M w) (ha : a + us.length ≤ 65536) (hc : ∀ j, j < us.length → w.cell? ⟨b, off + j, none⟩ = some (.int .u8 (us.getD j 0))) :
  (Builtin.copy_ #[74, 74] 3 #[.slice (some ⟨p, a, none⟩) (65536 - a) (65536 - a), .slice (some ⟨b, off, none⟩) us.length cap]).run Try.prog w = .ok (goInt us.length) (w.setCells p a (us.map (Value.int .u8))) := by
 have hs : (Try.prog.info? 5).map (·.size) = some 1 := by
  obtain ⟨i, hi, hz, hs, hb⟩ := Gu.u8_info
  rw [hi, Option.map_some, hs]
 have hr := run_copy_cells (P := Try.prog) w 74 74 3 5 p a (65536 - a) (65536 - a) ⟨b, off, none⟩ us.length cap (us.map (Value.int .u8)) Try.underlying74 hs
  (by rw [List.length_map]; exact (Nat.min_eq_left (by omega)).symm) (fun j v hj => ?_) (fun j hj => ?_) (fun j hj => h.2.2.2.2.2.1 _) (fun v hv => ?_)
 ·rw [List.length_map] at hr; exact hr
 ·rw [List.getElem?_map] at hj
  obtain ⟨z, hz, rfl⟩ := Option.map_eq_some_iff.1 hj
  have hlt := (List.getElem?_eq_some_iff.1 hz).1
  rw [Addr.add_lit, hc j hlt, List.getD_eq_getElem?_getD, hz]; rfl
 ·rw [List.length_map] at hj
  rw [h.1 (a + j) (by omega)]; rfl
 ·obtain ⟨z, _, rfl⟩ := List.mem_map.1 hv
  rfl
theorem poke_no (p : Nat) (a : Int) (ao : Option Addr) (n cap : Nat) (w : World) (hn : ¬ (0 ≤ a ∧ 0 ≤ (n : Int) ∧ a ≤ 65536 ∧ (n : Int) ≤ 65536 - a)) :
  Calls Try.prog 56 #[.pointer (some ⟨p, 0, none⟩), .int .i64 a, .slice ao n cap] w fun e w' => e = .returned (.int .i64 4) ∧ w = w' := by
 have HI := κ (in_no a n hn)
 clear hn
 go_enter Try.func56, Try.ntmps56
 go_wp2_with (go_at_call 100; refine (HI.out _).mono ?_; rintro e w' ⟨rfl, rfl⟩)
 go_ret
 exact ⟨rfl, rfl⟩
theorem poke_ok (p : Nat) (M : MM) (a : Int) (us : List Int) (b off cap : Nat) (w : World) (h : HC p M w) (a0 : 0 ≤ a) (ha : a < 65536) (hn : a + us.length ≤ 65536) (h0 : 0 < us.length)
  (hc : ∀ j, j < us.length → w.cell? ⟨b, off + j, none⟩ = some (.int .u8 (us.getD j 0))) :
  Calls Try.prog 56 #[.pointer (some ⟨p, 0, none⟩), .int .i64 a, .slice (some ⟨b, off, none⟩) us.length cap] w fun e w' => e = .returned (.int .i64 0) ∧ HC p (pk M a.toNat us) w' ∧ Upto (fun i => i = p) w w' := by
 have HI := κ (in_ok a us.length (by omega))
 have hs := slice_run_l p a w a0 ha
 have hcp := copy_run p a.toNat us b off cap M w h (by omega) hc
 have H1 := κ (HC.setCells (W := w) us M a.toNat w h (by omega))
 have U1 := κ (Upto.setCells (S := fun i => i = p) rfl (us.map (Value.int .u8)) w a.toNat (Upto.refl _ w))
 rw [pk_split]
 obtain ⟨L, hL⟩ : ∃ L, us.length = L := ⟨_, rfl⟩
 rw [hL] at hcp hn HI h0 ⊢
 generalize w.setCells p a.toNat (us.map (Value.int .u8)) = W1 at hcp H1 U1
 generalize ({ M with by_ := ovl M.by_ a.toNat us } : MM) = M1 at H1 ⊢
 clear hL hc h
 go_enter Try.func56, Try.ntmps56
 go_wp2_with (go_at_call 100; refine (HI.out _).mono ?_; rintro e w' ⟨rfl, rfl⟩)
 go_loopg [22] L (fun g i wr => ∃ k : Nat, g = L - k ∧ k ≤ L ∧ i = .int .i64 k ∧ Hid (HC p (chgF M1 a.toNat k) wr) ∧ Hid (Upto (fun i => i = p) w wr))
 case atStart => exact ⟨0, rfl, Nat.zero_le _, rfl, H1, U1⟩
 case round =>
  obtain ⟨k, hg, hk, rfl, HR, UR⟩ := hrel
  by_cases hlt : k < L
  ·have hlt' : (k : Int) < (L : Int) := by omega
   have e0 : 0 ≤ (a + (k : Int)) / 256 := by omega
   have e1 : (a + (k : Int)) / 256 < 256 := by omega
   have e2 : a + (k : Int) < 65536 := by omega
   go_wp2_with (go_at_call 101; refine (change_c p _ _ e0 e1 _ HR.out).mono ?_; rintro e w2 ⟨rfl, h2, o2⟩)
   go_roundg (L - (k + 1))
   case measure => omega
   case rel =>
    refine ⟨k + 1, rfl, by omega, by simp, ?_, Upto.trans UR.out o2⟩
    have e3 : ((a + (k : Int)) / 256).toNat = (a.toNat + k) / 256 := by omega
    rw [e3] at h2
    exact (chgF_snoc M1 a.toNat k) ▸ h2
  ·obtain rfl : k = L := by omega
   go_wp2
   go_ret
   exact ⟨rfl, HR.out, UR.out⟩
theorem poke_zero (p : Nat) (a : Int) (ao : Option Addr) (cap : Nat) (w : World) (a0 : 0 ≤ a) (ha : a ≤ 65536) :
  Calls Try.prog 56 #[.pointer (some ⟨p, 0, none⟩), .int .i64 a, .slice ao 0 cap] w fun e w' => e = .returned (.int .i64 0) ∧ w = w' := by
 have HI := κ (in_ok a 0 (by omega))
 have hs2 : (Try.prog.info? 5).map (·.size) = some 1 := by
  obtain ⟨i, hi, hz, hs, hb⟩ := Gu.u8_info
  rw [hi, Option.map_some, hs]
 have hcn := fun d dl dc => run_copy_none (P := Try.prog) w 74 74 3 5 d ao dl dc 0 cap Try.underlying74 hs2 (Nat.zero_min _)
 by_cases he : a < 65536
 ·have hs := slice_run_l p a w a0 he
  have hcn' := hcn (some ⟨p, a.toNat, none⟩) (65536 - a.toNat) (65536 - a.toNat)
  clear hcn hs2
  go_enter Try.func56, Try.ntmps56
  go_wp2_with (go_at_call 100; refine (HI.out _).mono ?_; rintro e w' ⟨rfl, rfl⟩)
  refine wp_loop_rounds 1 ?_
  rw [rounds_succ]; go_wp2
  go_ret
  exact ⟨rfl, rfl⟩
 ·obtain rfl : a = 65536 := by omega
  have hcn' := hcn (some ⟨p, 0, none⟩) 0 0
  have hs : (Instr.sliceAt 140 (.pointer (some ⟨p, 0, none⟩)) (some (.int .i64 65536)) none none).run Try.prog w = .ok (.slice (some ⟨p, 0, none⟩) 0 0) w := by
   obtain ⟨f1, f2, f3, f4⟩ := arr_facts
   rw [run_sliceAt_array_l w 140 ⟨p, 0, none⟩ f2 .i64 65536 (by omega) (by rw [f1]; omega), f3, f4, f1]
   simp only [Result.andThen, slicedAt]
   rw [if_pos (by rfl)]
   rfl
  clear hcn hs2
  go_enter Try.func56, Try.ntmps56
  go_wp2_with (go_at_call 100; refine (HI.out _).mono ?_; rintro e w' ⟨rfl, rfl⟩)
  refine wp_loop_rounds 1 ?_
  rw [rounds_succ]; go_wp2
  go_ret
  exact ⟨rfl, rfl⟩
/-- what is written -/
def pok (M : MM) (a : Int) (us : List Int) : MM := if inB a us.length then pk M a.toNat us else M
theorem poke_any (p : Nat) (M : MM) (a : Int) (us : List Int) (ao : Option Addr) (cap : Nat) (w : World) (h : HC p M w) (hB : Gu.Bs us ao cap w) :
  Calls Try.prog 56 #[.pointer (some ⟨p, 0, none⟩), .int .i64 a, .slice ao us.length cap] w fun e w' => e = .returned (.int .i64 (inE a us.length)) ∧ HC p (pok M a us) w' ∧ Upto (fun i => i = p) w w' := by
 unfold pok inE
 by_cases hi : inB a us.length = true
 ·rw [if_pos hi, if_pos hi]
  obtain ⟨h1, h2, h3, h4⟩ := (inB_iff _ _).1 hi
  by_cases h0 : us.length = 0
  ·obtain rfl : us = [] := List.length_eq_zero_iff.1 h0
   refine (poke_zero p a ao cap w h1 h3).mono ?_
   rintro e w' ⟨rfl, rfl⟩
   exact ⟨rfl, h, Upto.refl _ _⟩
  ·obtain ⟨b, off, rfl, hb, hc⟩ := hB.2.2 (by omega)
   exact poke_ok p M a us b off cap w h h1 (by omega) (by omega) (by omega) hc
 ·have hi' := hi
  rw [if_neg hi, if_neg hi]
  rw [inB_iff] at hi'
  refine (poke_no p a ao us.length cap w hi').mono ?_
  rintro e w' ⟨rfl, rfl⟩
  exact ⟨rfl, h, Upto.refl _ _⟩
end Go.Proofs.Ytcjcmnnhmajocab.Me
