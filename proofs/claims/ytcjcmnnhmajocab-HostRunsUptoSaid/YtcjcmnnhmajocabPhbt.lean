/- HostRuns: copies of words and entries; what is the same is equal. -/
import Derived.Test.YtcjcmnnhmajocabProg
import Derived.Below
import Derived.WalkKit
import Derived.LoopN
import Derived.Deep.LoopGhost
import Derived.ChangeKeysEq
import Derived.Laws.StructEq
import Derived.ArgAppend
import Derived.Test.YtcjcmnnhmajocabPhaz
import Derived.Test.YtcjcmnnhmajocabPhbc
import Derived.Test.YtcjcmnnhmajocabPhbl
set_option linter.unusedVariables false
set_option linter.unusedSimpArgs false
set_option maxRecDepth 100000
set_option maxHeartbeats 16000000
namespace Go.Proofs.Ytcjcmnnhmajocab.Ho
open Go.RowKit
theorem same_nil (a1 a2 : Option Addr) (c1 c2 : Nat) (w : World) : Calls Try.prog 42 #[.slice a1 0 c1, .slice a2 0 c2] w fun e w' => e = .returned (.bool true) ∧ Below w.heap.size w w' := by
 go_enter Try.func42, Try.ntmps42
 go_wp2
 refine wp_loop_rounds 1 ?_
 rw [rounds_succ]; go_wp2
 go_ret
 exact ⟨rfl, Below.refl _ _⟩
theorem same_any (g o1 g' o2 L c1 c2 : Nat) (us : List Int) (w : World) (h1 : ∀ j, j < L → w.cell? ⟨g, o1 + j, none⟩ = some (.int .u32 (us.getD j 0))) (h2 : ∀ j, j < L → w.cell? ⟨g', o2 + j, none⟩ = some (.int .u32 (us.getD j 0)))
  (hg : g < w.heap.size) (hg' : g' < w.heap.size) (hl1 : L ≤ c1) (hl2 : L ≤ c2) (hmax : L ≤ 9223372036854775807) :
  Calls Try.prog 42 #[.slice (some ⟨g, o1, none⟩) L c1, .slice (some ⟨g', o2, none⟩) L c2] w fun e w' => e = .returned (.bool true) ∧ Below w.heap.size w w' := by
 go_enter Try.func42, Try.ntmps42
 go_wp2
 go_loopg [13] L (fun k i wr => ∃ j : Nat, k = L - j ∧ j ≤ L ∧ i = .int .i64 j ∧ Below w.heap.size w wr)
 case atStart => exact ⟨0, rfl, Nat.zero_le _, rfl, Below.refl _ _⟩
 case round =>
  obtain ⟨j, hk, hj, rfl, hb⟩ := hrel
  by_cases hlt : j < L
  ·have e1 := (hb.cell (p := ⟨g, o1 + j, none⟩) hg).trans (h1 j hlt)
   have e2 := (hb.cell (p := ⟨g', o2 + j, none⟩) hg').trans (h2 j hlt)
   have hlt' : (j : Int) < (L : Int) := by omega
   generalize us.getD j 0 = u at e1 e2
   go_wp2
   go_region
   go_wp2
   go_roundg (L - (j + 1))
   case measure => omega
   case rel => exact ⟨j + 1, rfl, by omega, by simp, hb.drew⟩
  ·obtain rfl : j = L := by omega
   go_wp2
   go_ret
   exact ⟨rfl, hb⟩
end Go.Proofs.Ytcjcmnnhmajocab.Ho
namespace Go.Proofs.Ytcjcmnnhmajocab.Kt
open Go
variable {P : Program}
theorem eqItems_self (d : Nat) {e : TypeId} (hu : P.underlying e = some (.int .u32)) (hp : P.plainKey e = true) (xs : Array Value) : ∀ (is : List Nat) (w : World), (∀ i ∈ is, ∃ z, xs[i]? = some (.int .u32 z)) →
  (Op.eqItems (d + 1) e 1 xs xs is).run P w = .ok true w
 | [], w, _ => by simp [Op.eqItems]
 | i :: is, w, h => by
  obtain ⟨z, hz⟩ := h i (by simp)
  have p1 := run_part_plain w hp hz
  have p3 := run_equalIn_int (P := P) w d e .u32 .u32 z z hu
  simp only [Op.eqItems, Nat.mul_one, Sem.run_bind, p1, p3, Result.andThen_ok]
  simpa using eqItems_self d hu hp xs is w (fun j hj => h j (by simp [hj]))
theorem equalIn_u32s (d : Nat) {t e : TypeId} {n : Nat} {i : TypeInfo} (hu : P.underlying t = some (.array n e)) (he : P.underlying e = some (.int .u32)) (hp : P.plainKey e = true) (hi : P.info? e = some i) (hc : P.cellsOf e = 1) (xs : Array Value)
  (h : ∀ i, i < n → ∃ z, xs[i]? = some (.int .u32 z)) (w : World) : (Op.equalIn (d + 2) t (.agg xs) (.agg xs)).run P w = .ok true w := by
 rw [run_equalIn_array w (d + 1) xs xs hu hi, hc]
 exact eqItems_self d he hp xs _ w (fun j hj => h j (by simpa using hj))
theorem eql_u32s {t e : TypeId} {n : Nat} {i : TypeInfo} (hu : P.underlying t = some (.array n e)) (he : P.underlying e = some (.int .u32)) (hp : P.plainKey e = true) (hi : P.info? e = some i) (hc : P.cellsOf e = 1) (xs : Array Value)
  (h : ∀ i, i < n → ∃ z, xs[i]? = some (.int .u32 z)) : ∀ (w : World), (binOp .eql t (.agg xs) (.agg xs)).run P w = .ok (.bool true) w := by
 intro w
 rw [run_eql_struct, equalIn_u32s 9998 hu he hp hi hc xs h w]
 rfl
theorem eqFields_self (d : Nat) (xs : Array Value) : ∀ (fs : List Field) (w : World), (∀ f ∈ fs, ∃ v, (∀ w, (part f.type xs f.offset).run P w = .ok v w) ∧ ∀ w, (Op.equalIn d f.type v v).run P w = .ok true w) →
  (Op.eqFields d xs xs fs).run P w = .ok true w
 | [], w, _ => by simp [Op.eqFields]
 | f :: fs, w, h => by
  obtain ⟨v, hv, he⟩ := h f (by simp)
  have ih := eqFields_self d xs fs w (fun j hj => h j (by simp [hj]))
  simp only [Op.eqFields]
  split
  ·simp only [Sem.run_bind, hv, he, Result.andThen_ok]
   simpa using ih
  ·exact ih
theorem eql_struct {t : TypeId} (ht : P.underlying t = some (.struct (P.fieldsOf t))) (hp : P.stoodInHeld t = false) (xs : Array Value)
  (h : ∀ f ∈ (P.fieldsOf t).toList, ∃ v, (∀ w, (part f.type xs f.offset).run P w = .ok v w) ∧ ∀ w, (Op.equalIn 9999 f.type v v).run P w = .ok true w) : ∀ (w : World), (binOp .eql t (.agg xs) (.agg xs)).run P w = .ok (.bool true) w := by
 intro w
 rw [run_eql_struct, run_equalIn_struct w 9999 t xs xs ht hp, eqFields_self 9999 xs _ w h]
 rfl
end Go.Proofs.Ytcjcmnnhmajocab.Kt
namespace Go.Proofs.Ytcjcmnnhmajocab.Ir
open Go Kt
theorem eq_context (c0 c1 c2 c3 c4 c5 c6 c7 c8 c9 c10 c11 : Int) : ∀ (w : World), (binOp .eql 37 (.agg #[.int .u32 c0, .int .u32 c1, .int .u32 c2, .int .u32 c3, .int .u32 c4, .int .u32 c5, .int .u32 c6, .int .u32 c7, .int .u32 c8, .int .u32 c9, .int .u32 c10, .int .u32 c11]) (.agg #[.int .u32 c0, .int .u32 c1, .int .u32 c2, .int .u32 c3, .int .u32 c4, .int .u32 c5, .int .u32 c6, .int .u32 c7, .int .u32 c8, .int .u32 c9, .int .u32 c10, .int .u32 c11])).run Try.prog w = .ok (.bool true) w := by
 refine eql_u32s Try.underlying37 Try.underlying22 (by kernel_rfl) (i := (Try.prog.info? 22).get!) (by kernel_rfl) (by kernel_rfl) _ ?_
 intro i hi
 match i, hi with
 | 0, _ | 1, _ | 2, _ | 3, _ | 4, _ | 5, _ | 6, _ | 7, _ | 8, _ | 9, _ | 10, _ | 11, _ => exact ⟨_, rfl⟩
 | n + 12, h => omega
end Go.Proofs.Ytcjcmnnhmajocab.Ir
namespace Go.Proofs.Ytcjcmnnhmajocab.Hr
open Go.RowKit Kt Me Fl Ev Ho
theorem same_sl (us : List Int) (ao : Option Addr) (cap : Nat) (ao1 : Option Addr) (c1 : Nat) (W : World) (h : Sl us ao cap W) (h1 : Sl us ao1 c1 W) :
  Calls Try.prog 42 #[.slice ao us.length cap, .slice ao1 us.length c1] W fun e w' => e = .returned (.bool true) ∧ Below W.heap.size W w' := by
 have hmx : (maxLen : Nat) = 9223372036854775807 := rfl
 obtain ⟨l1, m1, k1⟩ := h
 obtain ⟨l2, m2, k2⟩ := h1
 by_cases h0 : us.length = 0
 ·rw [h0]; exact same_nil ao ao1 cap c1 W
 ·obtain ⟨b, off, rfl, hb, hc⟩ := k1 (by omega)
  obtain ⟨b1, o1, rfl, hb1, hc1⟩ := k2 (by omega)
  exact same_any b off b1 o1 us.length cap c1 us W hc hc1 hb hb1 l1 l2 (by omega)
theorem words_zero (ao : Option Addr) (cap : Nat) (w : World) : Calls Try.prog 39 #[.slice ao 0 cap] w fun e w' => e = .returned (.slice none 0 0) ∧ Below w.heap.size w w' := by
 have hp : ∀ w : World, Sem.run Try.prog (pure #[] : Sem (Array Value)) w = .ok #[] w := fun _ => rfl
 rcases ao with _ | ad
 all_goals go_enter Try.func39, Try.ntmps39
 all_goals go_wp2
 all_goals go_ret
 all_goals exact ⟨rfl, Below.refl _ _⟩
theorem words_some (us : List Int) (b off cap : Nat) (w : World) (hc : ∀ j, j < us.length → w.cell? ⟨b, off + j, none⟩ = some (.int .u32 (us.getD j 0))) (h0 : 0 < us.length) (hreach : us.length * 4 ≤ 140737488351232) :
  Calls Try.prog 39 #[.slice (some ⟨b, off, none⟩) us.length cap] w fun e w' => ∃ v, e = .returned v ∧ w'.ownsRow w.heap.size 22 1 v us.length (us.map (Value.int .u32)) ∧ Below w.heap.size w w' := by
 obtain ⟨i0, hi0, hz0, hs0, hb0⟩ := u32_info
 go_enter Try.func39, Try.ntmps39
 go_wp2_with (at_builtin; refine wpList_append_grows _ rfl (.const (.slice none 0 0)) (.tmp 3) 26 rfl 22 i0 (.int .u32 0) 1 4 Try.underlying26 hi0 hz0 hs0 hb0 rfl Nat.one_pos none 0 0 [] rfl (fun _ => ⟨rfl, rfl⟩) rfl (fun b hb => nomatch hb) ⟨b, off, none⟩ us.length cap (us.map (Value.int .u32)) rfl ?c0 ?c1 ?c2 ?c3 ?c4 ?c5 ?grow)
 case c0 => simp
 case c1 =>
  intro j u hj
  rw [List.getElem?_map] at hj
  obtain ⟨z, hz, rfl⟩ := Option.map_eq_some_iff.1 hj
  have hlt := (List.getElem?_eq_some_iff.1 hz).1
  rw [Addr.add_lit, hc j hlt, List.getD_eq_getElem?_getD, hz]
  rfl
 case c2 =>
  intro u hu
  obtain ⟨z, _, rfl⟩ := List.mem_map.1 hu
  rfl
 case c3 => omega
 case c4 => unfold maxLen; omega
 case c5 => omega
 case grow =>
  intro v' w' hown hgrow
  go_wp2
  go_ret
  exact ⟨_, rfl, by simpa using hown, (Below.refl _ _).grown hgrow (Nat.le_refl _) (fun k h => by cases h)⟩
theorem words_own (us : List Int) (ao : Option Addr) (cap : Nat) (w : World) (hs : Sl us ao cap w) (hreach : us.length * 4 ≤ 140737488351232) :
  Calls Try.prog 39 #[.slice ao us.length cap] w fun e w' => ∃ (ao1 : Option Addr) (c1 : Nat), e = .returned (.slice ao1 us.length c1) ∧ (∀ g, ao1 = some g → w.heap.size ≤ g.block) ∧ Sl us ao1 c1 w' ∧ Below w.heap.size w w' := by
 obtain ⟨l1, m1, k1⟩ := hs
 by_cases h0 : us.length = 0
 ·rw [h0]
  exact (words_zero ao cap w).mono fun e w' h => ⟨none, 0, h.1, fun g hg => (nomatch hg), ⟨by omega, by unfold maxLen; omega, fun h => absurd h (by omega)⟩, h.2⟩
 ·obtain ⟨b, off, rfl, hb, hc⟩ := k1 (by omega)
  refine (words_some us b off cap w hc (by omega) hreach).mono ?_
  rintro e w' ⟨v, rfl, hown, hb'⟩
  rcases hown.2 with ⟨rfl, hn⟩ | ⟨g, c1, cur, rfl, hg, hrow, hle, hmx, hsz, htk⟩
  ·exact absurd hn h0
  ·refine ⟨_, c1, rfl, fun g' e => by cases e; exact hg, ⟨hle, hmx, fun _ => ⟨g, 0, rfl, lt_of_block hrow, fun j hj => ?_⟩⟩, hb'⟩
   rw [Nat.zero_add, (cells_of hrow).1 j, ← Array.getElem?_toList]
   have h2 : (cur.toList.take (us.length * 1))[j]? = (us.map (Value.int .u32))[j]? := by rw [htk]
   rw [Nat.mul_one, List.getElem?_take, if_pos hj, List.getElem?_map] at h2
   rw [h2, List.getElem?_eq_getElem hj, List.getD_eq_getElem?_getD, List.getElem?_eq_getElem hj]
   rfl
/-- entries as cells -/
def flatE (tab : List (Int × Int)) : List Value := tab.flatMap fun t => [.int .u32 t.1, .int .i64 t.2]
theorem flatE_len (tab : List (Int × Int)) : (flatE tab).length = tab.length * 2 := by
 induction tab with
 | nil => rfl
 | cons t tab ih =>
  have : flatE (t :: tab) = [.int .u32 t.1, .int .i64 t.2] ++ flatE tab := rfl
  rw [this, List.length_append, ih]
  simp only [List.length_cons, List.length_nil]
  omega
theorem flatE_get (tab : List (Int × Int)) : ∀ (i r : Nat), r < 2 → (flatE tab)[i * 2 + r]? = (tab[i]?).bind fun t => ([.int .u32 t.1, .int .i64 t.2] : List Value)[r]? := by
 induction tab with
 | nil => intro i r _; simp [flatE]
 | cons t tab ih =>
  intro i r hr
  have e : flatE (t :: tab) = [.int .u32 t.1, .int .i64 t.2] ++ flatE tab := rfl
  have h : ([.int .u32 t.1, .int .i64 t.2] : List Value).length = 2 := rfl
  rw [e]
  cases i with
  | zero => rw [Nat.zero_mul, Nat.zero_add, List.getElem?_append_left (by omega)]; simp
  | succ i => rw [List.getElem?_append_right (by omega), h, show (i + 1) * 2 + r - 2 = i * 2 + r by omega, ih i r hr]; simp
theorem flatE_one (tab : List (Int × Int)) : ∀ u ∈ flatE tab, u.oneCell' = true := by
 intro u hu
 obtain ⟨t, _, ho⟩ := List.mem_flatMap.1 hu
 simp only [List.mem_cons, List.not_mem_nil, or_false] at ho
 rcases ho with rfl | rfl <;> rfl
theorem Tb.flat {tab : List (Int × Int)} {ao : Option Addr} {cap : Nat} {w : World} (h : Tb tab ao cap w) (h0 : 0 < tab.length) :
  ∃ g off, ao = some ⟨g, off, none⟩ ∧ g < w.heap.size ∧ ∀ j u, (flatE tab)[j]? = some u → w.cell? ((⟨g, off, none⟩ : Addr).add j) = some u := by
 obtain ⟨g, off, e, hg, hc⟩ := h.2.2 h0
 refine ⟨g, off, e, hg, fun j u hj => ?_⟩
 rw [Addr.add_lit]
 have hjj : j / 2 * 2 + j % 2 = j := by omega
 rw [← hjj, flatE_get tab (j / 2) (j % 2) (by omega)] at hj
 obtain ⟨t, ht, hr⟩ := Option.bind_eq_some_iff.1 hj
 have := hc (j / 2) t ht
 have h2 : j % 2 = 0 ∨ j % 2 = 1 := by omega
 rcases h2 with h2 | h2
 ·rw [h2] at hr
  simp at hr
  subst hr
  rw [← this.1]
  congr 2
  omega
 ·rw [h2] at hr
  simp at hr
  subst hr
  rw [← this.2]
  congr 2
  omega
theorem Tb.of_own {tab : List (Int × Int)} {base : Nat} {v : Value} {w : World} (h : w.ownsRow base 93 2 v tab.length (flatE tab)) (h0 : 0 < tab.length) : ∃ g c1, v = .slice (some ⟨g, 0, none⟩) tab.length c1 ∧ base ≤ g ∧ Tb tab (some ⟨g, 0, none⟩) c1 w := by
 rcases h.2 with ⟨rfl, hn⟩ | ⟨g, c1, cur, rfl, hg, hrow, hle, hmx, hsz, htk⟩
 ·omega
 ·refine ⟨g, c1, rfl, hg, hle, hmx, fun _ => ⟨g, 0, rfl, (Array.getElem?_eq_some_iff.1 hrow).1, fun j t ht => ?_⟩⟩
  have hj := (List.getElem?_eq_some_iff.1 ht).1
  have hh : ∀ r, r < 2 → w.cell? ⟨g, j * 2 + r, none⟩ = ([.int .u32 t.1, .int .i64 t.2] : List Value)[r]? := fun r hr => by
   have h2 : (cur.toList.take (tab.length * 2))[j * 2 + r]? = (flatE tab)[j * 2 + r]? := by rw [htk]
   rw [flatE_get tab j r hr, ht, List.getElem?_take, if_pos (by omega)] at h2
   rw [(cells_of hrow).1, ← Array.getElem?_toList, h2]
   rfl
  exact ⟨by rw [Nat.zero_add]; exact hh 0 (by omega), by rw [Nat.zero_add]; exact hh 1 (by omega)⟩
theorem entry_info : ∃ i z, Try.prog.info? 93 = some i ∧ i.zero = some z ∧ i.size = 2 ∧ i.bytes = 16 ∧ z.cells.size = 2 := by
 have h : (Try.prog.info? 93).map (fun i => (i.zero.map (·.cells.size), i.size, i.bytes)) = some (some 2, 2, 16) := by kernel_rfl
 obtain ⟨i, hi, hz⟩ := Option.map_eq_some_iff.1 h
 simp only [Prod.mk.injEq] at hz
 obtain ⟨z, hz1, hz2⟩ := Option.map_eq_some_iff.1 hz.1
 exact ⟨i, z, hi, hz1, hz.2.1, hz.2.2, hz2⟩
theorem eq_stop (d : Nat) (k x : Int) : ∀ w : World, (Op.equalIn (d + 2) 46 (.agg #[.int .i64 k, .int .u32 x]) (.agg #[.int .i64 k, .int .u32 x])).run Try.prog w = .ok true w := by
 intro w
 rw [run_equalIn_struct w (d + 1) 46 _ _ (by kernel_rfl) (by kernel_rfl)]
 refine eqFields_self (d + 1) _ _ w ?_
 have hl : (Try.prog.fieldsOf 46).toList = [(Try.prog.fieldsOf 46)[0]!, (Try.prog.fieldsOf 46)[1]!] := by kernel_rfl
 rw [hl]
 refine List.forall_mem_cons.2 ⟨?_, List.forall_mem_cons.2 ⟨?_, fun f hf => (List.not_mem_nil hf).elim⟩⟩
 ·refine ⟨.int .i64 k, fun w => by kernel_rfl, fun w => ?_⟩
  have := run_equalIn_int (P := Try.prog) w d ((Try.prog.fieldsOf 46)[0]!).type .i64 .i64 k k (by kernel_rfl)
  simpa using this
 ·refine ⟨.int .u32 x, fun w => by kernel_rfl, fun w => ?_⟩
  have := run_equalIn_int (P := Try.prog) w d ((Try.prog.fieldsOf 46)[1]!).type .u32 .u32 x x (by kernel_rfl)
  simpa using this
theorem eq_left (k sk sx p n a : Int) : ∀ w : World, (binOp .eql 52 (.agg #[.int .i64 k, .int .i64 sk, .int .u32 sx, .int .u32 p, .int .i64 n, .int .i64 a]) (.agg #[.int .i64 k, .int .i64 sk, .int .u32 sx, .int .u32 p, .int .i64 n, .int .i64 a])).run Try.prog w = .ok (.bool true) w := by
 refine eql_struct (by kernel_rfl) (by kernel_rfl) _ ?_
 have hl : (Try.prog.fieldsOf 52).toList = [(Try.prog.fieldsOf 52)[0]!, (Try.prog.fieldsOf 52)[1]!, (Try.prog.fieldsOf 52)[2]!, (Try.prog.fieldsOf 52)[3]!, (Try.prog.fieldsOf 52)[4]!] := by kernel_rfl
 rw [hl]
 refine List.forall_mem_cons.2 ⟨?_, List.forall_mem_cons.2 ⟨?_, List.forall_mem_cons.2 ⟨?_, List.forall_mem_cons.2 ⟨?_, List.forall_mem_cons.2 ⟨?_, fun f hf => (List.not_mem_nil hf).elim⟩⟩⟩⟩⟩
 ·refine ⟨.int .i64 k, fun w => by kernel_rfl, fun w => ?_⟩
  have := run_equalIn_int (P := Try.prog) w 9998 ((Try.prog.fieldsOf 52)[0]!).type .i64 .i64 k k (by kernel_rfl)
  simpa using this
 ·have ht : ((Try.prog.fieldsOf 52)[1]!).type = 46 := by kernel_rfl
  refine ⟨.agg #[.int .i64 sk, .int .u32 sx], fun w => by kernel_rfl, ?_⟩
  rw [ht]
  have h9 : (9999 : Nat) = 9997 + 2 := by kernel_rfl
  rw [h9]
  exact eq_stop 9997 sk sx
 ·refine ⟨.int .u32 p, fun w => by kernel_rfl, fun w => ?_⟩
  have := run_equalIn_int (P := Try.prog) w 9998 ((Try.prog.fieldsOf 52)[2]!).type .u32 .u32 p p (by kernel_rfl)
  simpa using this
 ·refine ⟨.int .i64 n, fun w => by kernel_rfl, fun w => ?_⟩
  have := run_equalIn_int (P := Try.prog) w 9998 ((Try.prog.fieldsOf 52)[3]!).type .i64 .i64 n n (by kernel_rfl)
  simpa using this
 ·refine ⟨.int .i64 a, fun w => by kernel_rfl, fun w => ?_⟩
  have := run_equalIn_int (P := Try.prog) w 9998 ((Try.prog.fieldsOf 52)[4]!).type .i64 .i64 a a (by kernel_rfl)
  simpa using this
theorem neq_entry (p a : Int) : ∀ w : World, (binOp .neq 93 (.agg #[.int .u32 p, .int .i64 a]) (.agg #[.int .u32 p, .int .i64 a])).run Try.prog w = .ok (.bool false) w := by
 intro w
 have hs : (Op.equalIn 10000 93 (.agg #[.int .u32 p, .int .i64 a]) (.agg #[.int .u32 p, .int .i64 a])).run Try.prog w = .ok true w := by
  rw [run_equalIn_struct w 9999 93 _ _ (by kernel_rfl) (by kernel_rfl)]
  refine eqFields_self 9999 _ _ w ?_
  have hl : (Try.prog.fieldsOf 93).toList = [(Try.prog.fieldsOf 93)[0]!, (Try.prog.fieldsOf 93)[1]!] := by kernel_rfl
  rw [hl]
  refine List.forall_mem_cons.2 ⟨?_, List.forall_mem_cons.2 ⟨?_, fun f hf => (List.not_mem_nil hf).elim⟩⟩
  ·refine ⟨.int .u32 p, fun w => by kernel_rfl, fun w => ?_⟩
   have := run_equalIn_int (P := Try.prog) w 9998 ((Try.prog.fieldsOf 93)[0]!).type .u32 .u32 p p (by kernel_rfl)
   simpa using this
  ·refine ⟨.int .i64 a, fun w => by kernel_rfl, fun w => ?_⟩
   have := run_equalIn_int (P := Try.prog) w 9998 ((Try.prog.fieldsOf 93)[1]!).type .i64 .i64 a a (by kernel_rfl)
   simpa using this
 rw [run_neq_struct, hs]
 rfl
end Go.Proofs.Ytcjcmnnhmajocab.Hr
