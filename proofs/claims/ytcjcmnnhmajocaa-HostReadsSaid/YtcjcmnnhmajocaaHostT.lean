import Derived.Test.YtcjcmnnhmajocaaHostS
import Derived.ArgAppend
import Derived.LoopN
import Derived.Deep.QuietTactic
import Derived.BigQuiet
import Derived.Deep.RegionWith
import Derived.Deep.Cut
import Derived.Lib.Hide
namespace Go.Proofs.Ytcjcmnnhmajocaa.Ho
open Go.RowKit Kt
set_option linter.unusedVariables false
def nws (F k x : Int) (l : Nat) : List Value := [Value.int .u32 F, .int .u32 k, .int .u32 x].take l
theorem nws_len {F k x : Int} {l : Nat} (h : l ≤ 3) : (nws F k x l).length = l := by simp [nws]; omega
theorem nws_at {F k x : Int} {l j : Nat} {u : Value} (h : (nws F k x l)[j]? = some u) : (#[Value.int .u32 F, .int .u32 k, .int .u32 x] : Array Value)[j]? = some u := by
  unfold nws at h
  rw [List.getElem?_take] at h
  split at h
  · simpa using h
  · cases h
theorem nws_one {F k x : Int} {l : Nat} : ∀ u ∈ nws F k x l, u.oneCell' = true := by
  intro u hu
  have := List.mem_of_mem_take hu
  simp at this
  rcases this with rfl | rfl | rfl <;> rfl
theorem enc_own {q : Nat} {w w4 w5 : World} {v' : Value} {F k x : Int} {ok : Prop} {l : Nat} (hok : ok) (hB : Below w.heap.size w w4) (hs : w.heap.size ≤ w4.heap.size) (hown : w5.ownsRow w4.heap.size 25 1 v' l (nws F k x l)) (hg : w4.grownBy w5 none)
    (hl : wd q = l) (l1 : 1 ≤ l) (l3 : l ≤ 3) : ∃ e, e = Ending.returned (.tuple #[v', .int .i64 0]) ∧ Enc w q F k x ok e w5 := by
  refine ⟨_, rfl, hB.grown hg hs (fun k h => by cases h), .inl ⟨hok, ?_⟩⟩
  rcases hown.2 with ⟨rfl, h0⟩ | ⟨g, cap, cur, rfl, hge, hrow, hle, hmx, hsz, htk⟩
  · omega
  have hlN : (wd q).toNat = l := by rw [hl]; rfl
  have hc := (cells_of hrow).1
  have hat : ∀ j, j < l → w5.cell? ⟨g, j, none⟩ = [Value.int .u32 F, .int .u32 k, .int .u32 x][j]? := by
    intro j hj
    rw [hc j, ← Array.getElem?_toList]
    have h2 : (cur.toList.take (l * 1))[j]? = (nws F k x l)[j]? := by rw [htk]
    rw [Nat.mul_one, List.getElem?_take, if_pos hj, nws, List.getElem?_take, if_pos hj] at h2
    exact h2
  refine ⟨g, cap, by rw [hlN], by omega, lt_of_block hrow, by omega, hat 0 (by omega), fun h => hat 1 (by omega), fun h => hat 2 (by omega)⟩
theorem renc_dec (q : Nat) (h1 : 1 ≤ q) (h2 : q ≤ 15) {w w2 : World} {X : Array Value} {v0 k x : Int} {l : Nat} (hw : wd q = l) (hl : l ≤ 3) (h0 : 0 ≤ v0) (g0 : v0 < 4294967296) (hq : fcls (v0 % 256) = q)
    (s1 : w.heap.size < w2.heap.size) (hX : ∀ i, w2.cell? ⟨w.heap.size, i, none⟩ = X[i]?) (hB : Below w.heap.size w w2) :
    Calls Try.prog 26 #[.slice (some ⟨w2.heap.size, 0, none⟩) l 3, .int .i64 0] (w2.alloc (.cells #[.int .u32 v0, .int .u32 k, .int .u32 x] 25)) fun e w' => e = .returned (dres q v0 k x) ∧ Below w.heap.size w w' ∧ (∀ i, w'.cell? ⟨w.heap.size, i, none⟩ = X[i]?) ∧
      w'.heap[w2.heap.size]? = some (.cells #[.int .u32 v0, .int .u32 k, .int .u32 x] 25 (0, 0)) ∧ w.heap.size < w'.heap.size := by
  have hG := heap_alloc_new w2 (.cells #[.int .u32 v0, .int .u32 k, .int .u32 x] 25)
  have hc := (cells_of hG).1
  refine (rdec_any q w2.heap.size 0 l 3 0 v0 k x _ h1 h2 (by rw [hw]; simp) hl (by decide) (by simp) h0 g0 hq (by simp) (fun h => by simp) (fun h => by simp)).mono ?_
  rintro e w3 ⟨rfl, hB2⟩
  have hs2 := hB2.size
  simp only [World.size_alloc] at hs2
  refine ⟨rfl, (hB.alloc (by omega) _).trans (hB2.mono (by simp; omega)), fun i => ?_, (hB2.block _ (by simp)).trans hG, by omega⟩
  exact ((hB2.cell (p := ⟨w.heap.size, i, none⟩) (by simp; omega)).trans (World.cell?_of_block (w := w2) (a := ⟨w.heap.size, i, none⟩) (Below.heap_alloc w2 _ _ s1))).trans (hX i)
theorem behind2d {w w1 : World} {A B : Array Value} {ta tb : TypeId} (hb1 : Below ((w.alloc (.cells A ta)).alloc (.cells B tb)).drew.heap.size ((w.alloc (.cells A ta)).alloc (.cells B tb)).drew w1) :
    (∀ i, w1.cell? ⟨w.heap.size, i, none⟩ = A[i]?) ∧ (∀ i, w1.cell? ⟨w.heap.size + 1, i, none⟩ = B[i]?) ∧ (∀ i, w1.frozen? ⟨w.heap.size, i, none⟩ = false) ∧ (∀ i, w1.frozen? ⟨w.heap.size + 1, i, none⟩ = false) ∧
      w.heap.size < w1.heap.size ∧ w.heap.size + 1 < w1.heap.size ∧ Below w.heap.size w w1 := behind2 ((Below.refl _ _).drew.trans hb1)
set_option maxRecDepth 100000 in
set_option maxHeartbeats 4000000 in
theorem renc_m (q : Nat) (h1 : 1 ≤ q) (h2 : q ≤ 15) (o d a b c n k x : Int) (w : World) (hq : fcls o = q) (p0 : 0 ≤ o) (p1 : o < 256) (hd : 0 ≤ d ∧ d < 16) (ha : 0 ≤ a ∧ a < 16) (hb : 0 ≤ b ∧ b < 16) (hc : 0 ≤ c ∧ c < 16) (hn : 0 ≤ n ∧ n < 65536) :
    Calls Try.prog 29 #[.agg #[.int .i64 o, .int .i64 d, .int .i64 a, .int .i64 b, .int .i64 c, .int .i64 n, .int .u32 k, .int .u32 x]] w (Enc w q (sumw o d a b c n) k x (EOK q o d a b c n k x)) := by
  have hmath := Lib.hid (rmath_any q h1 h2 (o := o) (d := d) (a := a) (b := b) (c := c) (n := n) (k := k) (x := x) p0 p1 hd ha hb hc hn)
  obtain ⟨s, m, l, hf, l1, l2, hl⟩ := rform_shape q h1 h2
  have g0 : ¬ o < 0 := by omega
  have gl : ((l : Int) == 0) = false := by simp; omega
  have d0 : 0 ≤ d := by omega
  have d1 : d ≤ 15 := by omega
  have a0 : 0 ≤ a := by omega
  have a1 : a ≤ 15 := by omega
  have b0 : 0 ≤ b := by omega
  have b1 : b ≤ 15 := by omega
  have c0 : 0 ≤ c := by omega
  have c1 : c ≤ 15 := by omega
  have n0 : 0 ≤ n := by omega
  have n1 : n ≤ 65535 := by omega
  clear hd ha hb hc hn
  go_enter Try.func29, Try.ntmps29
  go_wp2_with (first
    | (go_at_call 58; refine (form_any o _).mono ?_; rintro e w1 ⟨rfl, rfl⟩; rw [hq, hf])
    | (go_at_call 60; fail))
  refine wp_loop_rounds 5 ?_
  rw [rounds_succ]; go_wp2
  rw [rounds_succ]; go_wp2
  rw [rounds_succ]; go_wp2
  rw [rounds_succ]; go_wp2
  rw [rounds_succ]; go_wp2
  go_cut [9] from 54 (fun s9 wx => ∃ w2 : World, s9 = .slice (some ⟨w2.heap.size, 0, none⟩) l 3 ∧ wx = w2.alloc (.cells #[.int .u32 ((o + 256 * d + 4096 * a + 65536 * b + 1048576 * c + 65536 * n) % 4294967296), .int .u32 k, .int .u32 x] 25) ∧ Below w.heap.size w w2 ∧ (∀ i, w2.cell? ⟨w.heap.size, i, none⟩ = (#[.int .i64 o, .int .i64 d, .int .i64 a, .int .i64 b, .int .i64 c, .int .i64 n, .int .u32 k, .int .u32 x] : Array Value)[i]?) ∧ w.heap.size < w2.heap.size)
  case first =>
    go_region_with (first
      | (go_at_call 60; refine (first_any _ _ _ _ _ _ _ _ _).mono ?_; rintro e w2 ⟨rfl, hb2⟩; obtain ⟨kX, kA, zX, zA, s1, s2, hB⟩ := behind2d hb2; clear hb2))
    all_goals (go_wp2_with fail)
    all_goals go_meet
    all_goals exact ⟨_, rfl, rfl, hB, kX, s1⟩
  case rest =>
    obtain ⟨w2, rfl, rfl, hBel, kX, s1⟩ := hcut
    go_wp2_with (go_at_call 26; fail)
    have hF : (o + 256 * d + 4096 * a + 65536 * b + 1048576 * c + 65536 * n) % 4294967296 = sumw o d a b c n := rfl
    rw [hF]
    have hF0 : 0 ≤ sumw o d a b c n ∧ sumw o d a b c n < 4294967296 := by unfold sumw; omega
    have hF1 : sumw o d a b c n % 256 = o := by unfold sumw; omega
    generalize hv : sumw o d a b c n = v at hF0 hF1 hmath ⊢
    have hvh := Lib.hid hv
    clear hF hv
    refine (renc_dec q h1 h2 hl l2 hF0.1 hF0.2 (by rw [hF1]; exact hq) s1 kX hBel).mono ?_
    rintro e w3 ⟨rfl, hB3, kX3, hG3, s3⟩
    clear kX
    by_cases hg : good q v
    · rw [dgood_any hg]
      have hne := fun w => neq_code (v % 256) (pick (hD q) (v / 256 % 16)) (pick (hA q) (v / 256 / 16 % 16)) (pick (hB q) (v / 256 / 16 / 16 % 16)) (pick (hC q) (v / 256 / 16 / 16 / 16 % 16)) (pick (decide (nb q ≠ 0)) (v / 256 / 16 / 16 % 65536)) (pick (decide (1 < wd q)) k) (pick (decide (2 < wd q)) x) o d a b c n k x w
      have hye : yeq q v k x o d a b c n k x = eqc (v % 256) (pick (hD q) (v / 256 % 16)) (pick (hA q) (v / 256 / 16 % 16)) (pick (hB q) (v / 256 / 16 / 16 % 16)) (pick (hC q) (v / 256 / 16 / 16 / 16 % 16)) (pick (decide (nb q ≠ 0)) (v / 256 / 16 / 16 % 65536)) (pick (decide (1 < wd q)) k) (pick (decide (2 < wd q)) x) o d a b c n k x := rfl
      rw [← hye] at hne
      clear hye
      generalize v % 256 = y0 at hne ⊢
      generalize pick (hD q) (v / 256 % 16) = y1 at hne ⊢
      generalize pick (hA q) (v / 256 / 16 % 16) = y2 at hne ⊢
      generalize pick (hB q) (v / 256 / 16 / 16 % 16) = y3 at hne ⊢
      generalize pick (hC q) (v / 256 / 16 / 16 / 16 % 16) = y4 at hne ⊢
      generalize pick (decide (nb q ≠ 0)) (v / 256 / 16 / 16 % 65536) = y5 at hne ⊢
      generalize pick (decide (1 < wd q)) k = y6 at hne ⊢
      generalize pick (decide (2 < wd q)) x = y7 at hne ⊢
      cases hr : yeq q v k x o d a b c n k x
      · rw [hr] at hne
        go_wp2
        go_ret2
        exact enc_no (fun h => by have := (hmath.out.1 h).2; rw [hr] at this; cases this) hB3 s3
      · rw [hr] at hne
        have hok := Lib.hid (hmath.out.2 ⟨hg, hr⟩)
        clear hmath
        obtain ⟨i0, hi0, hz0, hs0, hb0⟩ := u32_info
        go_wp2_with (at_builtin; refine wpList_append_grows _ rfl (.const (.slice none 0 0)) (.tmp 76) 43 rfl 25 i0 (.int .u32 0) 1 4 Try.underlying43 hi0 hz0 hs0 hb0 rfl Nat.one_pos none 0 0 [] rfl (fun _ => ⟨rfl, rfl⟩) rfl (fun b hb => nomatch hb) ⟨w2.heap.size, 0, none⟩ l 3 (nws v k x l) rfl ?c0 ?c1 nws_one ?c3 ?c4 ?c5 ?grow)
        case c0 => rw [nws_len l2, Nat.mul_one]
        case c1 =>
          intro j u hj
          have hr4 := (Below.heap_alloc w3 (.cells #[.int .i64 y0, .int .i64 y1, .int .i64 y2, .int .i64 y3, .int .i64 y4, .int .i64 y5, .int .u32 y6, .int .u32 y7] 46) _ (lt_of_block hG3)).trans hG3
          have hc := (cells_of hr4).1 j
          rw [nws_at hj] at hc
          rw [Addr.add_lit, Nat.zero_add]
          exact hc
        case c3 => omega
        case c4 => unfold maxLen; omega
        case c5 => omega
        case grow =>
          intro v' w5 hown hgrow
          go_wp2
          go_ret2
          obtain ⟨e, he, hE⟩ := enc_own (F := v) (k := k) (x := x) (q := q) (l := l) hok.out (hB3.alloc (Nat.le_of_lt s3) _) (by simp; omega) (by simpa using hown) hgrow hl l1 l2
          rw [he, ← hvh.out] at hE
          exact hE
    · rw [dbad hg]
      go_wp2
      go_ret2
      exact enc_no (fun h => hg (hmath.out.1 h).1) hB3 s3
end Go.Proofs.Ytcjcmnnhmajocaa.Ho
