/- guest.Encode. -/
import Derived.Test.YtcjcmnnhmajocaaGuI
import Derived.Test.YtcjcmnnhmajocaaGuD
import Derived.Test.YtcjcmnnhmajocaaGuY
import Derived.Test.YtcjcmnnhmajocaaGuZ
import Derived.Test.YtcjcmnnhmajocaaGuQ
namespace Go.Proofs.Ytcjcmnnhmajocaa.Gu
open Go.RowKit Kt
set_option linter.unusedVariables false
set_option linter.unusedSimpArgs false
def Rg (us : List Int) : Prop := ∀ j, 0 ≤ us.getD j 0 ∧ us.getD j 0 < 256
theorem Rg.push {us : List Int} {v : Int} (h : Rg us) (h0 : 0 ≤ v) (h1 : v < 256) : Rg (us ++ [v]) := by
  intro j
  rw [List.getD_eq_getElem?_getD]
  by_cases hj : j < us.length
  · rw [List.getElem?_append_left hj, ← List.getD_eq_getElem?_getD]; exact h j
  · by_cases he : j = us.length
    · subst he; simp; omega
    · rw [List.getElem?_eq_none (by simp; omega)]; simp
theorem tv_range (hi lo : Int) : 0 ≤ tv hi lo ∧ tv hi lo < 256 := by unfold tv; omega
def Bg (X B M : Nat) (x : Array Value) (us : List Int) (W : World) : Prop := Bf X B M x us W ∧ Rg us
theorem Bg.view {X B M : Nat} {x : Array Value} {us : List Int} {W : World} (h : Bg X B M x us W) :
    (∀ i, W.cell? ⟨X, i, none⟩ = x[i]?) ∧ W.cell? ⟨B, 0, none⟩ = some (.slice (some ⟨M, 0, none⟩) us.length 6) ∧ X < W.heap.size ∧ B < W.heap.size ∧ M < W.heap.size := by
  obtain ⟨⟨h1, h2, ⟨ms, h3, h4, h5⟩, h6, h7, h8⟩, _⟩ := h
  exact ⟨(rowcells h1).1, by rw [(rowcells h2).1]; rfl, lt_of_block h1, lt_of_block h2, lt_of_block h3⟩
theorem Bg.bs {X B M : Nat} {x : Array Value} {us : List Int} {W : World} (h : Bg X B M x us W) (hl : us.length ≤ 6) : Bs us (some ⟨M, 0, none⟩) 6 W := by
  obtain ⟨⟨h1, h2, ⟨ms, h3, h4, h5⟩, h6, h7, h8⟩, _⟩ := h
  refine ⟨hl, by unfold maxLen; omega, fun _ => ⟨M, 0, rfl, lt_of_block h3, fun j hj => ?_⟩⟩
  rw [Nat.zero_add, (rowcells h3).1]
  exact h5 j hj
theorem Bg.frz {X B M : Nat} {x : Array Value} {us : List Int} {W : World} (h : Bg X B M x us W) : ∀ i, W.frozen? ⟨M, i, none⟩ = false := by
  obtain ⟨⟨h1, h2, ⟨ms, h3, h4, h5⟩, h6, h7, h8⟩, _⟩ := h
  exact (rowcells h3).2
theorem btr {B : Nat} {w a b : World} (k : Below B a b) (h : Below B w a) : Below B w b := h.trans k
theorem two_c (hi lo : Int) (X B M D : Nat) (x : Array Value) (us : List Int) (w : World) (h : Bg X B M x us w) (hl : us.length + 1 ≤ 6) (hB : D ≤ B) (hM : D ≤ M) :
    Calls Try.prog 89 #[.int .i64 hi, .int .i64 lo, .pointer (some ⟨B, 0, none⟩)] w fun e w' => e = .returned (.tuple #[]) ∧ ∃ us2, Hid (us ++ [tv hi lo] = us2) ∧ us2.length ≤ us.length + 1 ∧ Bg X B M x us2 w' ∧ Below D w w' := by
  have hlt := h.view.2.2.2.2
  refine (two_any hi lo X B M D x us w h.1 hl hB hM (by omega)).mono ?_
  rintro e w' ⟨rfl, k, b⟩
  exact ⟨rfl, _, Lib.hid rfl, by simp, ⟨k, h.2.push (tv_range hi lo).1 (tv_range hi lo).2⟩, b⟩
theorem low1_c (X B M D : Nat) (o d s f m : Int) (us : List Int) (w : World) (hm : 0 ≤ m ∧ m < 4294967296) (h : Bg X B M (In5 o d s f m) us w) (hl : us.length + 1 ≤ 6) (hB : D ≤ B) (hM : D ≤ M) :
    Calls Try.prog 88 #[.int .i64 1, .pointer (some ⟨B, 0, none⟩), .pointer (some ⟨X, 0, none⟩)] w fun e w' => e = .returned (.tuple #[]) ∧ ∃ us2, Hid (us ++ [m % 256] = us2) ∧ us2.length ≤ us.length + 1 ∧ Bg X B M (In5 o d s f m) us2 w' ∧ Below D w w' := by
  have hlt := h.view.2.2.2.2
  refine (low_1 X B M D o d s f m us w hm h.1 hl hB hM (by omega)).mono ?_
  rintro e w' ⟨rfl, k, b⟩
  exact ⟨rfl, _, Lib.hid rfl, by simp, ⟨k, h.2.push (by omega) (by omega)⟩, b⟩
theorem low4_c (X B M D : Nat) (o d s f m : Int) (us : List Int) (w : World) (hm : 0 ≤ m ∧ m < 4294967296) (h : Bg X B M (In5 o d s f m) us w) (hl : us.length + 4 ≤ 6) (hB : D ≤ B) (hM : D ≤ M) :
    Calls Try.prog 88 #[.int .i64 4, .pointer (some ⟨B, 0, none⟩), .pointer (some ⟨X, 0, none⟩)] w fun e w' => e = .returned (.tuple #[]) ∧ ∃ us2, Hid (us ++ [m % 256] ++ [m / 256 % 256] ++ [m / 65536 % 256] ++ [m / 16777216] = us2) ∧ us2.length ≤ us.length + 4 ∧ Bg X B M (In5 o d s f m) us2 w' ∧ Below D w w' := by
  have hlt := h.view.2.2.2.2
  refine (low_4 X B M D o d s f m us w hm h.1 hl hB hM (by omega)).mono ?_
  rintro e w' ⟨rfl, k, b⟩
  exact ⟨rfl, _, Lib.hid rfl, by simp, ⟨k, (((h.2.push (by omega) (by omega)).push (by omega) (by omega)).push (by omega) (by omega)).push (by omega) (by omega)⟩, b⟩
/-- the bytes of an instruction whose first byte is k, of a shape -/
def gb (sh k d s f m : Int) : List Int :=
  if sh = 2 ∨ sh = 3 then [k] ++ [m % 256]
  else if sh = 4 ∨ sh = 11 then [k] ++ [m % 256] ++ [m / 256 % 256] ++ [m / 65536 % 256] ++ [m / 16777216]
  else if sh = 5 then [k] ++ [tv 0 s]
  else if sh = 6 then [k] ++ [tv d s]
  else if sh = 7 then [k] ++ [tv f d]
  else if sh = 8 then [k] ++ [tv d s] ++ [m % 256]
  else if sh = 9 then [k] ++ [tv 0 d] ++ [m % 256] ++ [m / 256 % 256] ++ [m / 65536 % 256] ++ [m / 16777216]
  else if sh = 10 then [k] ++ [tv 0 d] ++ [m % 256]
  else if sh = 12 then [k] ++ [tv 0 s] ++ [m % 256]
  else [k]
def okd (us : List Int) (o d s f m : Int) : Prop := ∃ n, decv us = .tuple #[agg5 o d s f m, .int .i64 n, .int .i64 0]
/-- the end of guest.Encode -/
def GRes (us : List Int) (o d s f m : Int) (w : World) (e : Ending) (w' : World) : Prop :=
  (okd us o d s f m ∧ ∃ M : Nat, e = .returned (.tuple #[.slice (some ⟨M, 0, none⟩) us.length 6, .int .i64 0]) ∧ Bs us (some ⟨M, 0, none⟩) 6 w' ∧ w.heap.size ≤ M ∧ (∀ i, w'.frozen? ⟨M, i, none⟩ = false)) ∨ (¬ okd us o d s f m ∧ e = .returned (.tuple #[.slice none 0 0, .int .i64 3]))
theorem after1 {w w1 : World} {ob : Obj} (hb : Below (w.alloc ob).heap.size (w.alloc ob) w1) : Below w.heap.size w w1 := ((Below.refl _ _).alloc (Nat.le_refl _) _).trans (hb.mono (by simp))
theorem make6 (w : World) : (Instr.makeSlice 54 (.int .i64 0) (.int .i64 6)).run Try.prog w = .ok (.slice (some ⟨w.heap.size, 0, none⟩) 0 6) (w.alloc (.cells #[.int .u8 0, .int .u8 0, .int .u8 0, .int .u8 0, .int .u8 0, .int .u8 0] 5)) := by
  obtain ⟨i, hi, hz, hs, hb⟩ := u8_info
  have hr := run_make (P := Try.prog) w 54 5 i (.int .u8 0) Try.underlying54 hi hz .i64 .i64 0 6 (by omega) (by omega) (by rw [hb]; decide) (by omega)
  rw [hs] at hr
  rw [show madeCells (Value.int IntKind.u8 0).cells ((6 : Int).toNat * 1) = #[.int .u8 0, .int .u8 0, .int .u8 0, .int .u8 0, .int .u8 0, .int .u8 0] by kernel_rfl] at hr
  exact hr
/-- what first has found -/
theorem first_hit (o d s f m : Int) (j : Nat) (hj : j < 256) (hh : hit o d s f (rowOf (j : Int))) (hno : ∀ i : Nat, i < j → ¬ hit o d s f (rowOf (i : Int))) (w : World) :
    Calls Try.prog 87 #[.agg #[.int .i64 o, .int .i64 d, .int .i64 s, .int .i64 f, .int .u32 m]] w fun e w' => e = .returned (.tuple #[.int .i64 j, rowv (rowOf (j : Int)), .bool true]) ∧ Below w.heap.size w w' := by
  refine (first_any o d s f m w).mono ?_
  rintro e w' ⟨v, hv, rfl, hb⟩
  rcases hv with ⟨i, hi, hih, hin, rfl⟩ | ⟨hn, rfl⟩
  · have : i = j := by
      rcases Nat.lt_trichotomy i j with h | h | h
      · exact absurd hih (hno i h)
      · exact h
      · exact absurd hh (hin j h)
    subst this
    exact ⟨rfl, hb⟩
  · exact absurd hh (hn j hj)
theorem first_none (o d s f m : Int) (hno : ∀ i : Nat, i < 256 → ¬ hit o d s f (rowOf (i : Int))) (w : World) :
    Calls Try.prog 87 #[.agg #[.int .i64 o, .int .i64 d, .int .i64 s, .int .i64 f, .int .u32 m]] w fun e w' => e = .returned (.tuple #[.int .i64 0, .agg #[.int .i64 0, .int .i64 0, .int .i64 0, .int .i64 0], .bool false]) ∧ Below w.heap.size w w' := by
  refine (first_any o d s f m w).mono ?_
  rintro e w' ⟨v, hv, rfl, hb⟩
  rcases hv with ⟨i, hi, hih, hin, rfl⟩ | ⟨hn, rfl⟩
  · exact absurd hih (hno i hi)
  · exact ⟨rfl, hb⟩
set_option maxRecDepth 100000 in
set_option maxHeartbeats 4000000 in
theorem genc_out (o d s f m : Int) (h : o < 0 ∨ 31 < o) (w : World) : Calls Try.prog 42 #[.agg #[.int .i64 o, .int .i64 d, .int .i64 s, .int .i64 f, .int .u32 m]] w fun e w' => e = .returned (.tuple #[.slice none 0 0, .int .i64 2]) ∧ Below w.heap.size w w' := by
  rcases h with h | h
  · go_enter Try.func42, Try.ntmps42
    go_wp2
    refine bodyPost_ret (v := .tuple #[.slice none 0 0, .int .i64 2]) (by simp [results, Try.results42, go_sem]) rfl ⟨rfl, ?_⟩
    exact (Below.refl _ _).alloc (Nat.le_refl _) _
  · have h2 : ¬ o < 0 := by omega
    go_enter Try.func42, Try.ntmps42
    go_wp2
    refine bodyPost_ret (v := .tuple #[.slice none 0 0, .int .i64 2]) (by simp [results, Try.results42, go_sem]) rfl ⟨rfl, ?_⟩
    exact (Below.refl _ _).alloc (Nat.le_refl _) _
set_option maxRecDepth 100000 in
set_option maxHeartbeats 4000000 in
theorem genc_none (o d s f m : Int) (h0 : 0 ≤ o) (h1 : o ≤ 31) (hno : ∀ i : Nat, i < 256 → ¬ hit o d s f (rowOf (i : Int))) (w : World) : Calls Try.prog 42 #[.agg #[.int .i64 o, .int .i64 d, .int .i64 s, .int .i64 f, .int .u32 m]] w fun e w' => e = .returned (.tuple #[.slice none 0 0, .int .i64 3]) ∧ Below w.heap.size w w' := by
  have HF := Lib.hid (first_none o d s f m hno)
  have h2 : ¬ o < 0 := by omega
  have h3 : ¬ 31 < o := by omega
  clear hno
  go_enter Try.func42, Try.ntmps42
  go_wp2_with (go_at_call 87; refine (HF.out _).mono ?_; rintro e w1 ⟨rfl, hb1⟩; have B1 := after1 hb1)
  refine bodyPost_ret (v := .tuple #[.slice none 0 0, .int .i64 3]) (by simp [results, Try.results42, go_sem]) rfl ⟨rfl, ?_⟩
  exact B1.alloc B1.size _
theorem okd_iff {us : List Int} {o d s f m o' d' s' f' m' n' z' : Int} (hD : decv us = .tuple #[.agg #[.int .i64 o', .int .i64 d', .int .i64 s', .int .i64 f', .int .u32 m'], .int .i64 n', .int .i64 z']) :
    okd us o d s f m ↔ (z' = 0 ∧ eqi o' d' s' f' m' o d s f m = true) := by
  constructor
  · rintro ⟨n, h⟩
    rw [hD] at h
    simp [agg5] at h
    obtain ⟨⟨h1, h2, h3, h4, h5⟩, _, h6⟩ := h
    exact ⟨h6, (eqi_iff _ _ _ _ _ _ _ _ _ _).2 ⟨h1, h2, h3, h4, h5⟩⟩
  · rintro ⟨rfl, h⟩
    obtain ⟨rfl, rfl, rfl, rfl, rfl⟩ := (eqi_iff _ _ _ _ _ _ _ _ _ _).1 h
    exact ⟨n', hD⟩
theorem Bg.keep {X B M : Nat} {x : Array Value} {us : List Int} {W W' : World} (h : Bg X B M x us W) (hb : Below W.heap.size W W') : Bg X B M x us W' := by
  obtain ⟨⟨h1, h2, ⟨ms, h3, h4, h5⟩, h6, h7, h8⟩, hr⟩ := h
  exact ⟨⟨(hb.block _ (lt_of_block h1)).trans h1, (hb.block _ (lt_of_block h2)).trans h2, ⟨ms, (hb.block _ (lt_of_block h3)).trans h3, h4, h5⟩, h6, h7, h8⟩, hr⟩
theorem bg_start {w w1 : World} {x : Array Value} {o1 : Obj} {ob : Obj} {jj : Int} (h0 : 0 ≤ jj) (h1 : jj < 256) (hb1 : Below (w.alloc (.cells x 57)).heap.size (w.alloc (.cells x 57)) w1) {rw_ : Array Value} :
    Bg w.heap.size (w1.heap.size + 1 + 1 + 1) (w1.heap.size + 1) x [jj] ((((w1.alloc (.cells rw_ 109)).alloc (.cells #[.int .u8 jj, .int .u8 0, .int .u8 0, .int .u8 0, .int .u8 0, .int .u8 0] 5)).alloc ob).alloc (.cells #[.slice (some ⟨w1.heap.size + 1, 0, none⟩) 1 6] 54)) ∧
    ((((w1.alloc (.cells rw_ 109)).alloc (.cells #[.int .u8 jj, .int .u8 0, .int .u8 0, .int .u8 0, .int .u8 0, .int .u8 0] 5)).alloc ob).alloc (.cells #[.slice (some ⟨w1.heap.size + 1, 0, none⟩) 1 6] 54)).heap[w1.heap.size]? = some (.cells rw_ 109 (0, 0)) ∧
    w.heap.size < w1.heap.size ∧ Below w.heap.size w ((((w1.alloc (.cells rw_ 109)).alloc (.cells #[.int .u8 jj, .int .u8 0, .int .u8 0, .int .u8 0, .int .u8 0, .int .u8 0] 5)).alloc ob).alloc (.cells #[.slice (some ⟨w1.heap.size + 1, 0, none⟩) 1 6] 54)) := by
  have s1 := hb1.size
  simp only [World.size_alloc] at s1
  have hX : w1.heap[w.heap.size]? = some (.cells x 57 (0, 0)) := by
    rw [hb1.block _ (by simp)]
    exact heap_alloc_new _ _
  have hM := heap_alloc_new (w1.alloc (.cells rw_ 109)) (.cells #[.int .u8 jj, .int .u8 0, .int .u8 0, .int .u8 0, .int .u8 0, .int .u8 0] 5)
  have hBk := heap_alloc_new (((w1.alloc (.cells rw_ 109)).alloc (.cells #[.int .u8 jj, .int .u8 0, .int .u8 0, .int .u8 0, .int .u8 0, .int .u8 0] 5)).alloc ob) (.cells #[.slice (some ⟨w1.heap.size + 1, 0, none⟩) 1 6] 54)
  simp only [World.size_alloc] at hM hBk
  refine ⟨⟨⟨?_, hBk, ⟨#[.int .u8 jj, .int .u8 0, .int .u8 0, .int .u8 0, .int .u8 0, .int .u8 0], ?_, rfl, ?_⟩, by omega, by omega, by omega⟩, ?_⟩, ?_, by omega, ?_⟩
  · rw [Below.heap_alloc _ _ _ (by simp only [World.size_alloc]; omega), Below.heap_alloc _ _ _ (by simp only [World.size_alloc]; omega), Below.heap_alloc _ _ _ (by simp only [World.size_alloc]; omega), Below.heap_alloc _ _ _ (by omega)]
    exact hX
  · rw [Below.heap_alloc _ _ _ (by simp only [World.size_alloc]; omega), Below.heap_alloc _ _ _ (by simp only [World.size_alloc]; omega)]
    exact hM
  · intro j hj
    obtain rfl : j = 0 := by simpa using hj
    rfl
  · intro j
    match j with
    | 0 => exact ⟨h0, h1⟩
    | j + 1 => simp
  · rw [Below.heap_alloc _ _ _ (by simp only [World.size_alloc]; omega), Below.heap_alloc _ _ _ (by simp only [World.size_alloc]; omega), Below.heap_alloc _ _ _ (by simp only [World.size_alloc]; omega)]
    exact heap_alloc_new _ _
  · exact ((((after1 hb1).alloc (by omega) _).alloc (by simp only [World.size_alloc]; omega) _).alloc (by simp only [World.size_alloc]; omega) _).alloc (by simp only [World.size_alloc]; omega) _
/-- marker -/
theorem gb_eq : True := trivial
set_option maxRecDepth 100000 in
set_option maxHeartbeats 4000000 in
theorem genc_some (o d s f m : Int) (h0 : 0 ≤ o) (h1 : o ≤ 31) (hm : 0 ≤ m ∧ m < 4294967296) (j : Nat) (hj : j < 256) (hh : hit o d s f (rowOf (j : Int))) (hno : ∀ i : Nat, i < j → ¬ hit o d s f (rowOf (i : Int))) (w : World) :
    Calls Try.prog 42 #[.agg #[.int .i64 o, .int .i64 d, .int .i64 s, .int .i64 f, .int .u32 m]] w fun e w' => GRes (gb (rowOf (j : Int)).sh j d s f m) o d s f m w e w' ∧ Below w.heap.size w w' := by
  have HF := Lib.hid (first_hit o d s f m j hj hh hno)
  have h2 : ¬ o < 0 := by omega
  have h3 : ¬ 31 < o := by omega
  have hri := row_in (j : Int) (by omega) (by omega)
  unfold rowv at HF
  generalize rowOf (j : Int) = r at HF hri hh ⊢
  obtain ⟨op, sh, lo, fi⟩ := r
  dsimp only at HF hri hh ⊢
  obtain ⟨r1, r2, r3, r4, r5, r6, r7, r8⟩ := hri
  have hsh := hh.1
  dsimp only at hsh
  have hj0 : (0 : Int) ≤ (j : Int) := by omega
  have hj1 : (j : Int) < 256 := by omega
  have hmk := make6
  have HM := Lib.hid hm
  obtain ⟨G, hG⟩ : ∃ G, gb sh j d s f m = G := ⟨_, rfl⟩
  rw [hG]
  have HG := Lib.hid hG
  clear hno hh hm hG
  go_enter Try.func42, Try.ntmps42
  go_upto_region 7 with (go_at_call 87; refine (HF.out _).mono ?_; rintro e w1 ⟨rfl, hb1⟩)
  obtain ⟨g1, g2, g3, g4⟩ := bg_start (x := In5 o d s f m) (o1 := .cells #[] 5) (ob := .cells #[.int .u8 (j : Int)] 5) (rw_ := #[.int .i64 op, .int .i64 sh, .int .i64 lo, .int .i64 fi]) hj0 hj1 hb1
  generalize (((w1.alloc (.cells #[.int .i64 op, .int .i64 sh, .int .i64 lo, .int .i64 fi] 109)).alloc (.cells #[.int .u8 (j : Int), .int .u8 0, .int .u8 0, .int .u8 0, .int .u8 0, .int .u8 0] 5)).alloc (.cells #[.int .u8 (j : Int)] 5)).alloc (.cells #[.slice (some ⟨w1.heap.size + 1, 0, none⟩) 1 6] 54) = wA at g1 g2 g4 ⊢
  obtain ⟨K, hK⟩ : ∃ K, w1.heap.size = K := ⟨_, rfl⟩
  obtain ⟨X, hX⟩ : ∃ X, w.heap.size = X := ⟨_, rfl⟩
  have HXe := Lib.hid hX
  rw [hK] at g1 g2 g3 ⊢
  rw [hX] at g1 g3 g4 ⊢
  obtain ⟨M, hM⟩ : ∃ M, K + 1 = M := ⟨_, rfl⟩
  obtain ⟨B, hB⟩ : ∃ B, M + 1 + 1 = B := ⟨_, rfl⟩
  have hXB : X ≤ B := by omega
  have hXM : X ≤ M := by omega
  rw [hM] at g1 ⊢
  rw [hB] at g1 ⊢
  clear hM hB hb1 hX
  have kK := (rowcells g2).1
  have HU : Hid ([(j : Int)] = [(j : Int)]) := Lib.hid rfl
  obtain ⟨us0, hu0⟩ : ∃ u, [(j : Int)] = u := ⟨_, rfl⟩
  have hl0 : us0.length ≤ 1 := by rw [← hu0]; exact Nat.le_refl 1
  rw [hu0] at g1
  have HU0 := Lib.hid hu0
  obtain ⟨kX, kB, lX, lB, lM⟩ := g1.view
  simp only [In5] at kX
  have hcase : sh = 1 ∨ sh = 2 ∨ sh = 3 ∨ sh = 4 ∨ sh = 5 ∨ sh = 6 ∨ sh = 7 ∨ sh = 8 ∨ sh = 9 ∨ sh = 10 ∨ sh = 11 ∨ sh = 12 := by omega
  clear g2 hu0 HU hsh r3 r4
  rcases hcase with rfl | rfl | rfl | rfl | rfl | rfl | rfl | rfl | rfl | rfl | rfl | rfl
  · go_upto_region 34 with fail
    have HGG := Lib.hid g1
    have HBB := Lib.hid g4
    have eG : G = us0 := HG.out.symm.trans (by rw [← HU0.out]; simp [gb])
    obtain ⟨o', d', s', f', m', n', z', hD⟩ := decv_shape us0
    unfold agg5 at hD
    have HGD := Lib.hid (gdec_all us0 (some ⟨M, 0, none⟩) 6 _ (Bg.bs g1 (by omega)) g1.2)
    have hok := Lib.hid (okd_iff (o := o) (d := d) (s := s) (f := f) (m := m) hD)
    rw [hD] at HGD
    have hne := neq_ins o' d' s' f' m' o d s f m
    rw [eG] at HG
    have HEG := Lib.hid eG
    clear g1 g4 eG hD
    by_cases hz : z' = 0
    · subst hz
      cases he : eqi o' d' s' f' m' o d s f m
      · rw [he] at hne
        go_wp2_with (go_at_call 31; refine (HGD.out).mono ?_; rintro e v9 ⟨rfl, hb9⟩; have BW9 := Lib.hid (HBB.out.trans (hb9.mono (Nat.le_of_lt lX))); have HG9 := Lib.hid (HGG.out.keep hb9); clear kX kB lX lB lM; obtain ⟨kX, kB, lX, lB, lM⟩ := HG9.out.view; simp only [In5] at kX)
        refine bodyPost_ret (v := .tuple #[.slice none 0 0, .int .i64 3]) (by simp [results, Try.results42, go_sem]) rfl ⟨.inr ⟨?_, rfl⟩, ?_⟩
        · rw [HEG.out, hok.out]; simp [he]
        · rw [HXe.out]; exact BW9.out.alloc (by have := HXe.out; have := HG9.out.view.2.2.1; omega) _
      · rw [he] at hne
        go_wp2_with (go_at_call 31; refine (HGD.out).mono ?_; rintro e v9 ⟨rfl, hb9⟩; have BW9 := Lib.hid (HBB.out.trans (hb9.mono (Nat.le_of_lt lX))); have HG9 := Lib.hid (HGG.out.keep hb9); clear kX kB lX lB lM; obtain ⟨kX, kB, lX, lB, lM⟩ := HG9.out.view; simp only [In5] at kX)
        refine bodyPost_ret (v := .tuple #[.slice (some ⟨M, 0, none⟩) us0.length 6, .int .i64 0]) (by simp [results, Try.results42, go_sem]) rfl ⟨.inl ⟨?_, M, ?_, ?_, ?_, ?_⟩, ?_⟩
        · rw [HEG.out, hok.out]; simp [he]
        · rw [HEG.out]
        · rw [HEG.out]; exact (HG9.out.bs (by omega)).keep ((Below.refl _ _).alloc (Nat.le_refl _) _)
        · rw [HXe.out]; exact hXM
        · exact (HG9.out.keep ((Below.refl _ _).alloc (Nat.le_refl _) _)).frz
        · rw [HXe.out]; exact BW9.out.alloc (by have := HXe.out; have := HG9.out.view.2.2.1; omega) _
    · have hzb : (z' == 0) = false := by rw [beq_eq_false_iff_ne]; exact hz
      · go_wp2_with (go_at_call 31; refine (HGD.out).mono ?_; rintro e v9 ⟨rfl, hb9⟩; have BW9 := Lib.hid (HBB.out.trans (hb9.mono (Nat.le_of_lt lX))); have HG9 := Lib.hid (HGG.out.keep hb9); clear kX kB lX lB lM; obtain ⟨kX, kB, lX, lB, lM⟩ := HG9.out.view; simp only [In5] at kX)
        refine bodyPost_ret (v := .tuple #[.slice none 0 0, .int .i64 3]) (by simp [results, Try.results42, go_sem]) rfl ⟨.inr ⟨?_, rfl⟩, ?_⟩
        · rw [HEG.out, hok.out]; simp [hz]
        · rw [HXe.out]; exact BW9.out.alloc (by have := HXe.out; have := HG9.out.view.2.2.1; omega) _
  · go_upto_region 34 with (first
      | (go_at_call 88; refine (low1_c X B M X o d s f m _ _ HM.out (by assumption) (by omega) hXB hXM).mono ?_; rintro e v1 ⟨rfl, us1, hu1, hl1, hg1, hb1⟩; clear kX kB lX lB lM; obtain ⟨kX, kB, lX, lB, lM⟩ := hg1.view; simp only [In5] at kX; have BW1 := btr hb1 (by assumption)))
    have HGG := Lib.hid hg1
    have HBB := Lib.hid BW1
    have eG : G = us1 := HG.out.symm.trans (by rw [← hu1.out, ← HU0.out]; simp [gb])
    obtain ⟨o', d', s', f', m', n', z', hD⟩ := decv_shape us1
    unfold agg5 at hD
    have HGD := Lib.hid (gdec_all us1 (some ⟨M, 0, none⟩) 6 _ (Bg.bs hg1 (by omega)) hg1.2)
    have hok := Lib.hid (okd_iff (o := o) (d := d) (s := s) (f := f) (m := m) hD)
    rw [hD] at HGD
    have hne := neq_ins o' d' s' f' m' o d s f m
    rw [eG] at HG
    have HEG := Lib.hid eG
    clear hg1 BW1 eG hD
    by_cases hz : z' = 0
    · subst hz
      cases he : eqi o' d' s' f' m' o d s f m
      · rw [he] at hne
        go_wp2_with (go_at_call 31; refine (HGD.out).mono ?_; rintro e v9 ⟨rfl, hb9⟩; have BW9 := Lib.hid (HBB.out.trans (hb9.mono (Nat.le_of_lt lX))); have HG9 := Lib.hid (HGG.out.keep hb9); clear kX kB lX lB lM; obtain ⟨kX, kB, lX, lB, lM⟩ := HG9.out.view; simp only [In5] at kX)
        refine bodyPost_ret (v := .tuple #[.slice none 0 0, .int .i64 3]) (by simp [results, Try.results42, go_sem]) rfl ⟨.inr ⟨?_, rfl⟩, ?_⟩
        · rw [HEG.out, hok.out]; simp [he]
        · rw [HXe.out]; exact BW9.out.alloc (by have := HXe.out; have := HG9.out.view.2.2.1; omega) _
      · rw [he] at hne
        go_wp2_with (go_at_call 31; refine (HGD.out).mono ?_; rintro e v9 ⟨rfl, hb9⟩; have BW9 := Lib.hid (HBB.out.trans (hb9.mono (Nat.le_of_lt lX))); have HG9 := Lib.hid (HGG.out.keep hb9); clear kX kB lX lB lM; obtain ⟨kX, kB, lX, lB, lM⟩ := HG9.out.view; simp only [In5] at kX)
        refine bodyPost_ret (v := .tuple #[.slice (some ⟨M, 0, none⟩) us1.length 6, .int .i64 0]) (by simp [results, Try.results42, go_sem]) rfl ⟨.inl ⟨?_, M, ?_, ?_, ?_, ?_⟩, ?_⟩
        · rw [HEG.out, hok.out]; simp [he]
        · rw [HEG.out]
        · rw [HEG.out]; exact (HG9.out.bs (by omega)).keep ((Below.refl _ _).alloc (Nat.le_refl _) _)
        · rw [HXe.out]; exact hXM
        · exact (HG9.out.keep ((Below.refl _ _).alloc (Nat.le_refl _) _)).frz
        · rw [HXe.out]; exact BW9.out.alloc (by have := HXe.out; have := HG9.out.view.2.2.1; omega) _
    · have hzb : (z' == 0) = false := by rw [beq_eq_false_iff_ne]; exact hz
      · go_wp2_with (go_at_call 31; refine (HGD.out).mono ?_; rintro e v9 ⟨rfl, hb9⟩; have BW9 := Lib.hid (HBB.out.trans (hb9.mono (Nat.le_of_lt lX))); have HG9 := Lib.hid (HGG.out.keep hb9); clear kX kB lX lB lM; obtain ⟨kX, kB, lX, lB, lM⟩ := HG9.out.view; simp only [In5] at kX)
        refine bodyPost_ret (v := .tuple #[.slice none 0 0, .int .i64 3]) (by simp [results, Try.results42, go_sem]) rfl ⟨.inr ⟨?_, rfl⟩, ?_⟩
        · rw [HEG.out, hok.out]; simp [hz]
        · rw [HXe.out]; exact BW9.out.alloc (by have := HXe.out; have := HG9.out.view.2.2.1; omega) _
  · go_upto_region 34 with (first
      | (go_at_call 88; refine (low1_c X B M X o d s f m _ _ HM.out (by assumption) (by omega) hXB hXM).mono ?_; rintro e v1 ⟨rfl, us1, hu1, hl1, hg1, hb1⟩; clear kX kB lX lB lM; obtain ⟨kX, kB, lX, lB, lM⟩ := hg1.view; simp only [In5] at kX; have BW1 := btr hb1 (by assumption)))
    have HGG := Lib.hid hg1
    have HBB := Lib.hid BW1
    have eG : G = us1 := HG.out.symm.trans (by rw [← hu1.out, ← HU0.out]; simp [gb])
    obtain ⟨o', d', s', f', m', n', z', hD⟩ := decv_shape us1
    unfold agg5 at hD
    have HGD := Lib.hid (gdec_all us1 (some ⟨M, 0, none⟩) 6 _ (Bg.bs hg1 (by omega)) hg1.2)
    have hok := Lib.hid (okd_iff (o := o) (d := d) (s := s) (f := f) (m := m) hD)
    rw [hD] at HGD
    have hne := neq_ins o' d' s' f' m' o d s f m
    rw [eG] at HG
    have HEG := Lib.hid eG
    clear hg1 BW1 eG hD
    by_cases hz : z' = 0
    · subst hz
      cases he : eqi o' d' s' f' m' o d s f m
      · rw [he] at hne
        go_wp2_with (go_at_call 31; refine (HGD.out).mono ?_; rintro e v9 ⟨rfl, hb9⟩; have BW9 := Lib.hid (HBB.out.trans (hb9.mono (Nat.le_of_lt lX))); have HG9 := Lib.hid (HGG.out.keep hb9); clear kX kB lX lB lM; obtain ⟨kX, kB, lX, lB, lM⟩ := HG9.out.view; simp only [In5] at kX)
        refine bodyPost_ret (v := .tuple #[.slice none 0 0, .int .i64 3]) (by simp [results, Try.results42, go_sem]) rfl ⟨.inr ⟨?_, rfl⟩, ?_⟩
        · rw [HEG.out, hok.out]; simp [he]
        · rw [HXe.out]; exact BW9.out.alloc (by have := HXe.out; have := HG9.out.view.2.2.1; omega) _
      · rw [he] at hne
        go_wp2_with (go_at_call 31; refine (HGD.out).mono ?_; rintro e v9 ⟨rfl, hb9⟩; have BW9 := Lib.hid (HBB.out.trans (hb9.mono (Nat.le_of_lt lX))); have HG9 := Lib.hid (HGG.out.keep hb9); clear kX kB lX lB lM; obtain ⟨kX, kB, lX, lB, lM⟩ := HG9.out.view; simp only [In5] at kX)
        refine bodyPost_ret (v := .tuple #[.slice (some ⟨M, 0, none⟩) us1.length 6, .int .i64 0]) (by simp [results, Try.results42, go_sem]) rfl ⟨.inl ⟨?_, M, ?_, ?_, ?_, ?_⟩, ?_⟩
        · rw [HEG.out, hok.out]; simp [he]
        · rw [HEG.out]
        · rw [HEG.out]; exact (HG9.out.bs (by omega)).keep ((Below.refl _ _).alloc (Nat.le_refl _) _)
        · rw [HXe.out]; exact hXM
        · exact (HG9.out.keep ((Below.refl _ _).alloc (Nat.le_refl _) _)).frz
        · rw [HXe.out]; exact BW9.out.alloc (by have := HXe.out; have := HG9.out.view.2.2.1; omega) _
    · have hzb : (z' == 0) = false := by rw [beq_eq_false_iff_ne]; exact hz
      · go_wp2_with (go_at_call 31; refine (HGD.out).mono ?_; rintro e v9 ⟨rfl, hb9⟩; have BW9 := Lib.hid (HBB.out.trans (hb9.mono (Nat.le_of_lt lX))); have HG9 := Lib.hid (HGG.out.keep hb9); clear kX kB lX lB lM; obtain ⟨kX, kB, lX, lB, lM⟩ := HG9.out.view; simp only [In5] at kX)
        refine bodyPost_ret (v := .tuple #[.slice none 0 0, .int .i64 3]) (by simp [results, Try.results42, go_sem]) rfl ⟨.inr ⟨?_, rfl⟩, ?_⟩
        · rw [HEG.out, hok.out]; simp [hz]
        · rw [HXe.out]; exact BW9.out.alloc (by have := HXe.out; have := HG9.out.view.2.2.1; omega) _
  · go_upto_region 34 with (first
      | (go_at_call 88; refine (low4_c X B M X o d s f m _ _ HM.out (by assumption) (by omega) hXB hXM).mono ?_; rintro e v1 ⟨rfl, us1, hu1, hl1, hg1, hb1⟩; clear kX kB lX lB lM; obtain ⟨kX, kB, lX, lB, lM⟩ := hg1.view; simp only [In5] at kX; have BW1 := btr hb1 (by assumption)))
    have HGG := Lib.hid hg1
    have HBB := Lib.hid BW1
    have eG : G = us1 := HG.out.symm.trans (by rw [← hu1.out, ← HU0.out]; simp [gb])
    obtain ⟨o', d', s', f', m', n', z', hD⟩ := decv_shape us1
    unfold agg5 at hD
    have HGD := Lib.hid (gdec_all us1 (some ⟨M, 0, none⟩) 6 _ (Bg.bs hg1 (by omega)) hg1.2)
    have hok := Lib.hid (okd_iff (o := o) (d := d) (s := s) (f := f) (m := m) hD)
    rw [hD] at HGD
    have hne := neq_ins o' d' s' f' m' o d s f m
    rw [eG] at HG
    have HEG := Lib.hid eG
    clear hg1 BW1 eG hD
    by_cases hz : z' = 0
    · subst hz
      cases he : eqi o' d' s' f' m' o d s f m
      · rw [he] at hne
        go_wp2_with (go_at_call 31; refine (HGD.out).mono ?_; rintro e v9 ⟨rfl, hb9⟩; have BW9 := Lib.hid (HBB.out.trans (hb9.mono (Nat.le_of_lt lX))); have HG9 := Lib.hid (HGG.out.keep hb9); clear kX kB lX lB lM; obtain ⟨kX, kB, lX, lB, lM⟩ := HG9.out.view; simp only [In5] at kX)
        refine bodyPost_ret (v := .tuple #[.slice none 0 0, .int .i64 3]) (by simp [results, Try.results42, go_sem]) rfl ⟨.inr ⟨?_, rfl⟩, ?_⟩
        · rw [HEG.out, hok.out]; simp [he]
        · rw [HXe.out]; exact BW9.out.alloc (by have := HXe.out; have := HG9.out.view.2.2.1; omega) _
      · rw [he] at hne
        go_wp2_with (go_at_call 31; refine (HGD.out).mono ?_; rintro e v9 ⟨rfl, hb9⟩; have BW9 := Lib.hid (HBB.out.trans (hb9.mono (Nat.le_of_lt lX))); have HG9 := Lib.hid (HGG.out.keep hb9); clear kX kB lX lB lM; obtain ⟨kX, kB, lX, lB, lM⟩ := HG9.out.view; simp only [In5] at kX)
        refine bodyPost_ret (v := .tuple #[.slice (some ⟨M, 0, none⟩) us1.length 6, .int .i64 0]) (by simp [results, Try.results42, go_sem]) rfl ⟨.inl ⟨?_, M, ?_, ?_, ?_, ?_⟩, ?_⟩
        · rw [HEG.out, hok.out]; simp [he]
        · rw [HEG.out]
        · rw [HEG.out]; exact (HG9.out.bs (by omega)).keep ((Below.refl _ _).alloc (Nat.le_refl _) _)
        · rw [HXe.out]; exact hXM
        · exact (HG9.out.keep ((Below.refl _ _).alloc (Nat.le_refl _) _)).frz
        · rw [HXe.out]; exact BW9.out.alloc (by have := HXe.out; have := HG9.out.view.2.2.1; omega) _
    · have hzb : (z' == 0) = false := by rw [beq_eq_false_iff_ne]; exact hz
      · go_wp2_with (go_at_call 31; refine (HGD.out).mono ?_; rintro e v9 ⟨rfl, hb9⟩; have BW9 := Lib.hid (HBB.out.trans (hb9.mono (Nat.le_of_lt lX))); have HG9 := Lib.hid (HGG.out.keep hb9); clear kX kB lX lB lM; obtain ⟨kX, kB, lX, lB, lM⟩ := HG9.out.view; simp only [In5] at kX)
        refine bodyPost_ret (v := .tuple #[.slice none 0 0, .int .i64 3]) (by simp [results, Try.results42, go_sem]) rfl ⟨.inr ⟨?_, rfl⟩, ?_⟩
        · rw [HEG.out, hok.out]; simp [hz]
        · rw [HXe.out]; exact BW9.out.alloc (by have := HXe.out; have := HG9.out.view.2.2.1; omega) _
  · go_upto_region 34 with (first
      | (go_at_call 89; refine (two_c _ _ X B M X _ _ _ (by assumption) (by omega) hXB hXM).mono ?_; rintro e v1 ⟨rfl, us1, hu1, hl1, hg1, hb1⟩; clear kX kB lX lB lM; obtain ⟨kX, kB, lX, lB, lM⟩ := hg1.view; simp only [In5] at kX; have BW1 := btr hb1 (by assumption)))
    have HGG := Lib.hid hg1
    have HBB := Lib.hid BW1
    have eG : G = us1 := HG.out.symm.trans (by rw [← hu1.out, ← HU0.out]; simp [gb])
    obtain ⟨o', d', s', f', m', n', z', hD⟩ := decv_shape us1
    unfold agg5 at hD
    have HGD := Lib.hid (gdec_all us1 (some ⟨M, 0, none⟩) 6 _ (Bg.bs hg1 (by omega)) hg1.2)
    have hok := Lib.hid (okd_iff (o := o) (d := d) (s := s) (f := f) (m := m) hD)
    rw [hD] at HGD
    have hne := neq_ins o' d' s' f' m' o d s f m
    rw [eG] at HG
    have HEG := Lib.hid eG
    clear hg1 BW1 eG hD
    by_cases hz : z' = 0
    · subst hz
      cases he : eqi o' d' s' f' m' o d s f m
      · rw [he] at hne
        go_wp2_with (go_at_call 31; refine (HGD.out).mono ?_; rintro e v9 ⟨rfl, hb9⟩; have BW9 := Lib.hid (HBB.out.trans (hb9.mono (Nat.le_of_lt lX))); have HG9 := Lib.hid (HGG.out.keep hb9); clear kX kB lX lB lM; obtain ⟨kX, kB, lX, lB, lM⟩ := HG9.out.view; simp only [In5] at kX)
        refine bodyPost_ret (v := .tuple #[.slice none 0 0, .int .i64 3]) (by simp [results, Try.results42, go_sem]) rfl ⟨.inr ⟨?_, rfl⟩, ?_⟩
        · rw [HEG.out, hok.out]; simp [he]
        · rw [HXe.out]; exact BW9.out.alloc (by have := HXe.out; have := HG9.out.view.2.2.1; omega) _
      · rw [he] at hne
        go_wp2_with (go_at_call 31; refine (HGD.out).mono ?_; rintro e v9 ⟨rfl, hb9⟩; have BW9 := Lib.hid (HBB.out.trans (hb9.mono (Nat.le_of_lt lX))); have HG9 := Lib.hid (HGG.out.keep hb9); clear kX kB lX lB lM; obtain ⟨kX, kB, lX, lB, lM⟩ := HG9.out.view; simp only [In5] at kX)
        refine bodyPost_ret (v := .tuple #[.slice (some ⟨M, 0, none⟩) us1.length 6, .int .i64 0]) (by simp [results, Try.results42, go_sem]) rfl ⟨.inl ⟨?_, M, ?_, ?_, ?_, ?_⟩, ?_⟩
        · rw [HEG.out, hok.out]; simp [he]
        · rw [HEG.out]
        · rw [HEG.out]; exact (HG9.out.bs (by omega)).keep ((Below.refl _ _).alloc (Nat.le_refl _) _)
        · rw [HXe.out]; exact hXM
        · exact (HG9.out.keep ((Below.refl _ _).alloc (Nat.le_refl _) _)).frz
        · rw [HXe.out]; exact BW9.out.alloc (by have := HXe.out; have := HG9.out.view.2.2.1; omega) _
    · have hzb : (z' == 0) = false := by rw [beq_eq_false_iff_ne]; exact hz
      · go_wp2_with (go_at_call 31; refine (HGD.out).mono ?_; rintro e v9 ⟨rfl, hb9⟩; have BW9 := Lib.hid (HBB.out.trans (hb9.mono (Nat.le_of_lt lX))); have HG9 := Lib.hid (HGG.out.keep hb9); clear kX kB lX lB lM; obtain ⟨kX, kB, lX, lB, lM⟩ := HG9.out.view; simp only [In5] at kX)
        refine bodyPost_ret (v := .tuple #[.slice none 0 0, .int .i64 3]) (by simp [results, Try.results42, go_sem]) rfl ⟨.inr ⟨?_, rfl⟩, ?_⟩
        · rw [HEG.out, hok.out]; simp [hz]
        · rw [HXe.out]; exact BW9.out.alloc (by have := HXe.out; have := HG9.out.view.2.2.1; omega) _
  · go_upto_region 34 with (first
      | (go_at_call 89; refine (two_c _ _ X B M X _ _ _ (by assumption) (by omega) hXB hXM).mono ?_; rintro e v1 ⟨rfl, us1, hu1, hl1, hg1, hb1⟩; clear kX kB lX lB lM; obtain ⟨kX, kB, lX, lB, lM⟩ := hg1.view; simp only [In5] at kX; have BW1 := btr hb1 (by assumption)))
    have HGG := Lib.hid hg1
    have HBB := Lib.hid BW1
    have eG : G = us1 := HG.out.symm.trans (by rw [← hu1.out, ← HU0.out]; simp [gb])
    obtain ⟨o', d', s', f', m', n', z', hD⟩ := decv_shape us1
    unfold agg5 at hD
    have HGD := Lib.hid (gdec_all us1 (some ⟨M, 0, none⟩) 6 _ (Bg.bs hg1 (by omega)) hg1.2)
    have hok := Lib.hid (okd_iff (o := o) (d := d) (s := s) (f := f) (m := m) hD)
    rw [hD] at HGD
    have hne := neq_ins o' d' s' f' m' o d s f m
    rw [eG] at HG
    have HEG := Lib.hid eG
    clear hg1 BW1 eG hD
    by_cases hz : z' = 0
    · subst hz
      cases he : eqi o' d' s' f' m' o d s f m
      · rw [he] at hne
        go_wp2_with (go_at_call 31; refine (HGD.out).mono ?_; rintro e v9 ⟨rfl, hb9⟩; have BW9 := Lib.hid (HBB.out.trans (hb9.mono (Nat.le_of_lt lX))); have HG9 := Lib.hid (HGG.out.keep hb9); clear kX kB lX lB lM; obtain ⟨kX, kB, lX, lB, lM⟩ := HG9.out.view; simp only [In5] at kX)
        refine bodyPost_ret (v := .tuple #[.slice none 0 0, .int .i64 3]) (by simp [results, Try.results42, go_sem]) rfl ⟨.inr ⟨?_, rfl⟩, ?_⟩
        · rw [HEG.out, hok.out]; simp [he]
        · rw [HXe.out]; exact BW9.out.alloc (by have := HXe.out; have := HG9.out.view.2.2.1; omega) _
      · rw [he] at hne
        go_wp2_with (go_at_call 31; refine (HGD.out).mono ?_; rintro e v9 ⟨rfl, hb9⟩; have BW9 := Lib.hid (HBB.out.trans (hb9.mono (Nat.le_of_lt lX))); have HG9 := Lib.hid (HGG.out.keep hb9); clear kX kB lX lB lM; obtain ⟨kX, kB, lX, lB, lM⟩ := HG9.out.view; simp only [In5] at kX)
        refine bodyPost_ret (v := .tuple #[.slice (some ⟨M, 0, none⟩) us1.length 6, .int .i64 0]) (by simp [results, Try.results42, go_sem]) rfl ⟨.inl ⟨?_, M, ?_, ?_, ?_, ?_⟩, ?_⟩
        · rw [HEG.out, hok.out]; simp [he]
        · rw [HEG.out]
        · rw [HEG.out]; exact (HG9.out.bs (by omega)).keep ((Below.refl _ _).alloc (Nat.le_refl _) _)
        · rw [HXe.out]; exact hXM
        · exact (HG9.out.keep ((Below.refl _ _).alloc (Nat.le_refl _) _)).frz
        · rw [HXe.out]; exact BW9.out.alloc (by have := HXe.out; have := HG9.out.view.2.2.1; omega) _
    · have hzb : (z' == 0) = false := by rw [beq_eq_false_iff_ne]; exact hz
      · go_wp2_with (go_at_call 31; refine (HGD.out).mono ?_; rintro e v9 ⟨rfl, hb9⟩; have BW9 := Lib.hid (HBB.out.trans (hb9.mono (Nat.le_of_lt lX))); have HG9 := Lib.hid (HGG.out.keep hb9); clear kX kB lX lB lM; obtain ⟨kX, kB, lX, lB, lM⟩ := HG9.out.view; simp only [In5] at kX)
        refine bodyPost_ret (v := .tuple #[.slice none 0 0, .int .i64 3]) (by simp [results, Try.results42, go_sem]) rfl ⟨.inr ⟨?_, rfl⟩, ?_⟩
        · rw [HEG.out, hok.out]; simp [hz]
        · rw [HXe.out]; exact BW9.out.alloc (by have := HXe.out; have := HG9.out.view.2.2.1; omega) _
  · go_upto_region 34 with (first
      | (go_at_call 89; refine (two_c _ _ X B M X _ _ _ (by assumption) (by omega) hXB hXM).mono ?_; rintro e v1 ⟨rfl, us1, hu1, hl1, hg1, hb1⟩; clear kX kB lX lB lM; obtain ⟨kX, kB, lX, lB, lM⟩ := hg1.view; simp only [In5] at kX; have BW1 := btr hb1 (by assumption)))
    have HGG := Lib.hid hg1
    have HBB := Lib.hid BW1
    have eG : G = us1 := HG.out.symm.trans (by rw [← hu1.out, ← HU0.out]; simp [gb])
    obtain ⟨o', d', s', f', m', n', z', hD⟩ := decv_shape us1
    unfold agg5 at hD
    have HGD := Lib.hid (gdec_all us1 (some ⟨M, 0, none⟩) 6 _ (Bg.bs hg1 (by omega)) hg1.2)
    have hok := Lib.hid (okd_iff (o := o) (d := d) (s := s) (f := f) (m := m) hD)
    rw [hD] at HGD
    have hne := neq_ins o' d' s' f' m' o d s f m
    rw [eG] at HG
    have HEG := Lib.hid eG
    clear hg1 BW1 eG hD
    by_cases hz : z' = 0
    · subst hz
      cases he : eqi o' d' s' f' m' o d s f m
      · rw [he] at hne
        go_wp2_with (go_at_call 31; refine (HGD.out).mono ?_; rintro e v9 ⟨rfl, hb9⟩; have BW9 := Lib.hid (HBB.out.trans (hb9.mono (Nat.le_of_lt lX))); have HG9 := Lib.hid (HGG.out.keep hb9); clear kX kB lX lB lM; obtain ⟨kX, kB, lX, lB, lM⟩ := HG9.out.view; simp only [In5] at kX)
        refine bodyPost_ret (v := .tuple #[.slice none 0 0, .int .i64 3]) (by simp [results, Try.results42, go_sem]) rfl ⟨.inr ⟨?_, rfl⟩, ?_⟩
        · rw [HEG.out, hok.out]; simp [he]
        · rw [HXe.out]; exact BW9.out.alloc (by have := HXe.out; have := HG9.out.view.2.2.1; omega) _
      · rw [he] at hne
        go_wp2_with (go_at_call 31; refine (HGD.out).mono ?_; rintro e v9 ⟨rfl, hb9⟩; have BW9 := Lib.hid (HBB.out.trans (hb9.mono (Nat.le_of_lt lX))); have HG9 := Lib.hid (HGG.out.keep hb9); clear kX kB lX lB lM; obtain ⟨kX, kB, lX, lB, lM⟩ := HG9.out.view; simp only [In5] at kX)
        refine bodyPost_ret (v := .tuple #[.slice (some ⟨M, 0, none⟩) us1.length 6, .int .i64 0]) (by simp [results, Try.results42, go_sem]) rfl ⟨.inl ⟨?_, M, ?_, ?_, ?_, ?_⟩, ?_⟩
        · rw [HEG.out, hok.out]; simp [he]
        · rw [HEG.out]
        · rw [HEG.out]; exact (HG9.out.bs (by omega)).keep ((Below.refl _ _).alloc (Nat.le_refl _) _)
        · rw [HXe.out]; exact hXM
        · exact (HG9.out.keep ((Below.refl _ _).alloc (Nat.le_refl _) _)).frz
        · rw [HXe.out]; exact BW9.out.alloc (by have := HXe.out; have := HG9.out.view.2.2.1; omega) _
    · have hzb : (z' == 0) = false := by rw [beq_eq_false_iff_ne]; exact hz
      · go_wp2_with (go_at_call 31; refine (HGD.out).mono ?_; rintro e v9 ⟨rfl, hb9⟩; have BW9 := Lib.hid (HBB.out.trans (hb9.mono (Nat.le_of_lt lX))); have HG9 := Lib.hid (HGG.out.keep hb9); clear kX kB lX lB lM; obtain ⟨kX, kB, lX, lB, lM⟩ := HG9.out.view; simp only [In5] at kX)
        refine bodyPost_ret (v := .tuple #[.slice none 0 0, .int .i64 3]) (by simp [results, Try.results42, go_sem]) rfl ⟨.inr ⟨?_, rfl⟩, ?_⟩
        · rw [HEG.out, hok.out]; simp [hz]
        · rw [HXe.out]; exact BW9.out.alloc (by have := HXe.out; have := HG9.out.view.2.2.1; omega) _
  · go_upto_region 34 with (first
      | (go_at_call 89; refine (two_c _ _ X B M X _ _ _ (by assumption) (by omega) hXB hXM).mono ?_; rintro e v1 ⟨rfl, us1, hu1, hl1, hg1, hb1⟩; clear kX kB lX lB lM; obtain ⟨kX, kB, lX, lB, lM⟩ := hg1.view; simp only [In5] at kX; have BW1 := btr hb1 (by assumption))
      | (go_at_call 88; refine (low1_c X B M X o d s f m _ _ HM.out (by assumption) (by omega) hXB hXM).mono ?_; rintro e v2 ⟨rfl, us2, hu2, hl2, hg2, hb2⟩; clear kX kB lX lB lM; obtain ⟨kX, kB, lX, lB, lM⟩ := hg2.view; simp only [In5] at kX; have BW2 := btr hb2 (by assumption)))
    have HGG := Lib.hid hg2
    have HBB := Lib.hid BW2
    have eG : G = us2 := HG.out.symm.trans (by rw [← hu2.out, ← hu1.out, ← HU0.out]; simp [gb])
    obtain ⟨o', d', s', f', m', n', z', hD⟩ := decv_shape us2
    unfold agg5 at hD
    have HGD := Lib.hid (gdec_all us2 (some ⟨M, 0, none⟩) 6 _ (Bg.bs hg2 (by omega)) hg2.2)
    have hok := Lib.hid (okd_iff (o := o) (d := d) (s := s) (f := f) (m := m) hD)
    rw [hD] at HGD
    have hne := neq_ins o' d' s' f' m' o d s f m
    rw [eG] at HG
    have HEG := Lib.hid eG
    clear hg2 BW2 eG hD
    by_cases hz : z' = 0
    · subst hz
      cases he : eqi o' d' s' f' m' o d s f m
      · rw [he] at hne
        go_wp2_with (go_at_call 31; refine (HGD.out).mono ?_; rintro e v9 ⟨rfl, hb9⟩; have BW9 := Lib.hid (HBB.out.trans (hb9.mono (Nat.le_of_lt lX))); have HG9 := Lib.hid (HGG.out.keep hb9); clear kX kB lX lB lM; obtain ⟨kX, kB, lX, lB, lM⟩ := HG9.out.view; simp only [In5] at kX)
        refine bodyPost_ret (v := .tuple #[.slice none 0 0, .int .i64 3]) (by simp [results, Try.results42, go_sem]) rfl ⟨.inr ⟨?_, rfl⟩, ?_⟩
        · rw [HEG.out, hok.out]; simp [he]
        · rw [HXe.out]; exact BW9.out.alloc (by have := HXe.out; have := HG9.out.view.2.2.1; omega) _
      · rw [he] at hne
        go_wp2_with (go_at_call 31; refine (HGD.out).mono ?_; rintro e v9 ⟨rfl, hb9⟩; have BW9 := Lib.hid (HBB.out.trans (hb9.mono (Nat.le_of_lt lX))); have HG9 := Lib.hid (HGG.out.keep hb9); clear kX kB lX lB lM; obtain ⟨kX, kB, lX, lB, lM⟩ := HG9.out.view; simp only [In5] at kX)
        refine bodyPost_ret (v := .tuple #[.slice (some ⟨M, 0, none⟩) us2.length 6, .int .i64 0]) (by simp [results, Try.results42, go_sem]) rfl ⟨.inl ⟨?_, M, ?_, ?_, ?_, ?_⟩, ?_⟩
        · rw [HEG.out, hok.out]; simp [he]
        · rw [HEG.out]
        · rw [HEG.out]; exact (HG9.out.bs (by omega)).keep ((Below.refl _ _).alloc (Nat.le_refl _) _)
        · rw [HXe.out]; exact hXM
        · exact (HG9.out.keep ((Below.refl _ _).alloc (Nat.le_refl _) _)).frz
        · rw [HXe.out]; exact BW9.out.alloc (by have := HXe.out; have := HG9.out.view.2.2.1; omega) _
    · have hzb : (z' == 0) = false := by rw [beq_eq_false_iff_ne]; exact hz
      · go_wp2_with (go_at_call 31; refine (HGD.out).mono ?_; rintro e v9 ⟨rfl, hb9⟩; have BW9 := Lib.hid (HBB.out.trans (hb9.mono (Nat.le_of_lt lX))); have HG9 := Lib.hid (HGG.out.keep hb9); clear kX kB lX lB lM; obtain ⟨kX, kB, lX, lB, lM⟩ := HG9.out.view; simp only [In5] at kX)
        refine bodyPost_ret (v := .tuple #[.slice none 0 0, .int .i64 3]) (by simp [results, Try.results42, go_sem]) rfl ⟨.inr ⟨?_, rfl⟩, ?_⟩
        · rw [HEG.out, hok.out]; simp [hz]
        · rw [HXe.out]; exact BW9.out.alloc (by have := HXe.out; have := HG9.out.view.2.2.1; omega) _
  · go_upto_region 34 with (first
      | (go_at_call 89; refine (two_c _ _ X B M X _ _ _ (by assumption) (by omega) hXB hXM).mono ?_; rintro e v1 ⟨rfl, us1, hu1, hl1, hg1, hb1⟩; clear kX kB lX lB lM; obtain ⟨kX, kB, lX, lB, lM⟩ := hg1.view; simp only [In5] at kX; have BW1 := btr hb1 (by assumption))
      | (go_at_call 88; refine (low4_c X B M X o d s f m _ _ HM.out (by assumption) (by omega) hXB hXM).mono ?_; rintro e v2 ⟨rfl, us2, hu2, hl2, hg2, hb2⟩; clear kX kB lX lB lM; obtain ⟨kX, kB, lX, lB, lM⟩ := hg2.view; simp only [In5] at kX; have BW2 := btr hb2 (by assumption)))
    have HGG := Lib.hid hg2
    have HBB := Lib.hid BW2
    have eG : G = us2 := HG.out.symm.trans (by rw [← hu2.out, ← hu1.out, ← HU0.out]; simp [gb])
    obtain ⟨o', d', s', f', m', n', z', hD⟩ := decv_shape us2
    unfold agg5 at hD
    have HGD := Lib.hid (gdec_all us2 (some ⟨M, 0, none⟩) 6 _ (Bg.bs hg2 (by omega)) hg2.2)
    have hok := Lib.hid (okd_iff (o := o) (d := d) (s := s) (f := f) (m := m) hD)
    rw [hD] at HGD
    have hne := neq_ins o' d' s' f' m' o d s f m
    rw [eG] at HG
    have HEG := Lib.hid eG
    clear hg2 BW2 eG hD
    by_cases hz : z' = 0
    · subst hz
      cases he : eqi o' d' s' f' m' o d s f m
      · rw [he] at hne
        go_wp2_with (go_at_call 31; refine (HGD.out).mono ?_; rintro e v9 ⟨rfl, hb9⟩; have BW9 := Lib.hid (HBB.out.trans (hb9.mono (Nat.le_of_lt lX))); have HG9 := Lib.hid (HGG.out.keep hb9); clear kX kB lX lB lM; obtain ⟨kX, kB, lX, lB, lM⟩ := HG9.out.view; simp only [In5] at kX)
        refine bodyPost_ret (v := .tuple #[.slice none 0 0, .int .i64 3]) (by simp [results, Try.results42, go_sem]) rfl ⟨.inr ⟨?_, rfl⟩, ?_⟩
        · rw [HEG.out, hok.out]; simp [he]
        · rw [HXe.out]; exact BW9.out.alloc (by have := HXe.out; have := HG9.out.view.2.2.1; omega) _
      · rw [he] at hne
        go_wp2_with (go_at_call 31; refine (HGD.out).mono ?_; rintro e v9 ⟨rfl, hb9⟩; have BW9 := Lib.hid (HBB.out.trans (hb9.mono (Nat.le_of_lt lX))); have HG9 := Lib.hid (HGG.out.keep hb9); clear kX kB lX lB lM; obtain ⟨kX, kB, lX, lB, lM⟩ := HG9.out.view; simp only [In5] at kX)
        refine bodyPost_ret (v := .tuple #[.slice (some ⟨M, 0, none⟩) us2.length 6, .int .i64 0]) (by simp [results, Try.results42, go_sem]) rfl ⟨.inl ⟨?_, M, ?_, ?_, ?_, ?_⟩, ?_⟩
        · rw [HEG.out, hok.out]; simp [he]
        · rw [HEG.out]
        · rw [HEG.out]; exact (HG9.out.bs (by omega)).keep ((Below.refl _ _).alloc (Nat.le_refl _) _)
        · rw [HXe.out]; exact hXM
        · exact (HG9.out.keep ((Below.refl _ _).alloc (Nat.le_refl _) _)).frz
        · rw [HXe.out]; exact BW9.out.alloc (by have := HXe.out; have := HG9.out.view.2.2.1; omega) _
    · have hzb : (z' == 0) = false := by rw [beq_eq_false_iff_ne]; exact hz
      · go_wp2_with (go_at_call 31; refine (HGD.out).mono ?_; rintro e v9 ⟨rfl, hb9⟩; have BW9 := Lib.hid (HBB.out.trans (hb9.mono (Nat.le_of_lt lX))); have HG9 := Lib.hid (HGG.out.keep hb9); clear kX kB lX lB lM; obtain ⟨kX, kB, lX, lB, lM⟩ := HG9.out.view; simp only [In5] at kX)
        refine bodyPost_ret (v := .tuple #[.slice none 0 0, .int .i64 3]) (by simp [results, Try.results42, go_sem]) rfl ⟨.inr ⟨?_, rfl⟩, ?_⟩
        · rw [HEG.out, hok.out]; simp [hz]
        · rw [HXe.out]; exact BW9.out.alloc (by have := HXe.out; have := HG9.out.view.2.2.1; omega) _
  · go_upto_region 34 with (first
      | (go_at_call 89; refine (two_c _ _ X B M X _ _ _ (by assumption) (by omega) hXB hXM).mono ?_; rintro e v1 ⟨rfl, us1, hu1, hl1, hg1, hb1⟩; clear kX kB lX lB lM; obtain ⟨kX, kB, lX, lB, lM⟩ := hg1.view; simp only [In5] at kX; have BW1 := btr hb1 (by assumption))
      | (go_at_call 88; refine (low1_c X B M X o d s f m _ _ HM.out (by assumption) (by omega) hXB hXM).mono ?_; rintro e v2 ⟨rfl, us2, hu2, hl2, hg2, hb2⟩; clear kX kB lX lB lM; obtain ⟨kX, kB, lX, lB, lM⟩ := hg2.view; simp only [In5] at kX; have BW2 := btr hb2 (by assumption)))
    have HGG := Lib.hid hg2
    have HBB := Lib.hid BW2
    have eG : G = us2 := HG.out.symm.trans (by rw [← hu2.out, ← hu1.out, ← HU0.out]; simp [gb])
    obtain ⟨o', d', s', f', m', n', z', hD⟩ := decv_shape us2
    unfold agg5 at hD
    have HGD := Lib.hid (gdec_all us2 (some ⟨M, 0, none⟩) 6 _ (Bg.bs hg2 (by omega)) hg2.2)
    have hok := Lib.hid (okd_iff (o := o) (d := d) (s := s) (f := f) (m := m) hD)
    rw [hD] at HGD
    have hne := neq_ins o' d' s' f' m' o d s f m
    rw [eG] at HG
    have HEG := Lib.hid eG
    clear hg2 BW2 eG hD
    by_cases hz : z' = 0
    · subst hz
      cases he : eqi o' d' s' f' m' o d s f m
      · rw [he] at hne
        go_wp2_with (go_at_call 31; refine (HGD.out).mono ?_; rintro e v9 ⟨rfl, hb9⟩; have BW9 := Lib.hid (HBB.out.trans (hb9.mono (Nat.le_of_lt lX))); have HG9 := Lib.hid (HGG.out.keep hb9); clear kX kB lX lB lM; obtain ⟨kX, kB, lX, lB, lM⟩ := HG9.out.view; simp only [In5] at kX)
        refine bodyPost_ret (v := .tuple #[.slice none 0 0, .int .i64 3]) (by simp [results, Try.results42, go_sem]) rfl ⟨.inr ⟨?_, rfl⟩, ?_⟩
        · rw [HEG.out, hok.out]; simp [he]
        · rw [HXe.out]; exact BW9.out.alloc (by have := HXe.out; have := HG9.out.view.2.2.1; omega) _
      · rw [he] at hne
        go_wp2_with (go_at_call 31; refine (HGD.out).mono ?_; rintro e v9 ⟨rfl, hb9⟩; have BW9 := Lib.hid (HBB.out.trans (hb9.mono (Nat.le_of_lt lX))); have HG9 := Lib.hid (HGG.out.keep hb9); clear kX kB lX lB lM; obtain ⟨kX, kB, lX, lB, lM⟩ := HG9.out.view; simp only [In5] at kX)
        refine bodyPost_ret (v := .tuple #[.slice (some ⟨M, 0, none⟩) us2.length 6, .int .i64 0]) (by simp [results, Try.results42, go_sem]) rfl ⟨.inl ⟨?_, M, ?_, ?_, ?_, ?_⟩, ?_⟩
        · rw [HEG.out, hok.out]; simp [he]
        · rw [HEG.out]
        · rw [HEG.out]; exact (HG9.out.bs (by omega)).keep ((Below.refl _ _).alloc (Nat.le_refl _) _)
        · rw [HXe.out]; exact hXM
        · exact (HG9.out.keep ((Below.refl _ _).alloc (Nat.le_refl _) _)).frz
        · rw [HXe.out]; exact BW9.out.alloc (by have := HXe.out; have := HG9.out.view.2.2.1; omega) _
    · have hzb : (z' == 0) = false := by rw [beq_eq_false_iff_ne]; exact hz
      · go_wp2_with (go_at_call 31; refine (HGD.out).mono ?_; rintro e v9 ⟨rfl, hb9⟩; have BW9 := Lib.hid (HBB.out.trans (hb9.mono (Nat.le_of_lt lX))); have HG9 := Lib.hid (HGG.out.keep hb9); clear kX kB lX lB lM; obtain ⟨kX, kB, lX, lB, lM⟩ := HG9.out.view; simp only [In5] at kX)
        refine bodyPost_ret (v := .tuple #[.slice none 0 0, .int .i64 3]) (by simp [results, Try.results42, go_sem]) rfl ⟨.inr ⟨?_, rfl⟩, ?_⟩
        · rw [HEG.out, hok.out]; simp [hz]
        · rw [HXe.out]; exact BW9.out.alloc (by have := HXe.out; have := HG9.out.view.2.2.1; omega) _
  · go_upto_region 34 with (first
      | (go_at_call 88; refine (low4_c X B M X o d s f m _ _ HM.out (by assumption) (by omega) hXB hXM).mono ?_; rintro e v1 ⟨rfl, us1, hu1, hl1, hg1, hb1⟩; clear kX kB lX lB lM; obtain ⟨kX, kB, lX, lB, lM⟩ := hg1.view; simp only [In5] at kX; have BW1 := btr hb1 (by assumption)))
    have HGG := Lib.hid hg1
    have HBB := Lib.hid BW1
    have eG : G = us1 := HG.out.symm.trans (by rw [← hu1.out, ← HU0.out]; simp [gb])
    obtain ⟨o', d', s', f', m', n', z', hD⟩ := decv_shape us1
    unfold agg5 at hD
    have HGD := Lib.hid (gdec_all us1 (some ⟨M, 0, none⟩) 6 _ (Bg.bs hg1 (by omega)) hg1.2)
    have hok := Lib.hid (okd_iff (o := o) (d := d) (s := s) (f := f) (m := m) hD)
    rw [hD] at HGD
    have hne := neq_ins o' d' s' f' m' o d s f m
    rw [eG] at HG
    have HEG := Lib.hid eG
    clear hg1 BW1 eG hD
    by_cases hz : z' = 0
    · subst hz
      cases he : eqi o' d' s' f' m' o d s f m
      · rw [he] at hne
        go_wp2_with (go_at_call 31; refine (HGD.out).mono ?_; rintro e v9 ⟨rfl, hb9⟩; have BW9 := Lib.hid (HBB.out.trans (hb9.mono (Nat.le_of_lt lX))); have HG9 := Lib.hid (HGG.out.keep hb9); clear kX kB lX lB lM; obtain ⟨kX, kB, lX, lB, lM⟩ := HG9.out.view; simp only [In5] at kX)
        refine bodyPost_ret (v := .tuple #[.slice none 0 0, .int .i64 3]) (by simp [results, Try.results42, go_sem]) rfl ⟨.inr ⟨?_, rfl⟩, ?_⟩
        · rw [HEG.out, hok.out]; simp [he]
        · rw [HXe.out]; exact BW9.out.alloc (by have := HXe.out; have := HG9.out.view.2.2.1; omega) _
      · rw [he] at hne
        go_wp2_with (go_at_call 31; refine (HGD.out).mono ?_; rintro e v9 ⟨rfl, hb9⟩; have BW9 := Lib.hid (HBB.out.trans (hb9.mono (Nat.le_of_lt lX))); have HG9 := Lib.hid (HGG.out.keep hb9); clear kX kB lX lB lM; obtain ⟨kX, kB, lX, lB, lM⟩ := HG9.out.view; simp only [In5] at kX)
        refine bodyPost_ret (v := .tuple #[.slice (some ⟨M, 0, none⟩) us1.length 6, .int .i64 0]) (by simp [results, Try.results42, go_sem]) rfl ⟨.inl ⟨?_, M, ?_, ?_, ?_, ?_⟩, ?_⟩
        · rw [HEG.out, hok.out]; simp [he]
        · rw [HEG.out]
        · rw [HEG.out]; exact (HG9.out.bs (by omega)).keep ((Below.refl _ _).alloc (Nat.le_refl _) _)
        · rw [HXe.out]; exact hXM
        · exact (HG9.out.keep ((Below.refl _ _).alloc (Nat.le_refl _) _)).frz
        · rw [HXe.out]; exact BW9.out.alloc (by have := HXe.out; have := HG9.out.view.2.2.1; omega) _
    · have hzb : (z' == 0) = false := by rw [beq_eq_false_iff_ne]; exact hz
      · go_wp2_with (go_at_call 31; refine (HGD.out).mono ?_; rintro e v9 ⟨rfl, hb9⟩; have BW9 := Lib.hid (HBB.out.trans (hb9.mono (Nat.le_of_lt lX))); have HG9 := Lib.hid (HGG.out.keep hb9); clear kX kB lX lB lM; obtain ⟨kX, kB, lX, lB, lM⟩ := HG9.out.view; simp only [In5] at kX)
        refine bodyPost_ret (v := .tuple #[.slice none 0 0, .int .i64 3]) (by simp [results, Try.results42, go_sem]) rfl ⟨.inr ⟨?_, rfl⟩, ?_⟩
        · rw [HEG.out, hok.out]; simp [hz]
        · rw [HXe.out]; exact BW9.out.alloc (by have := HXe.out; have := HG9.out.view.2.2.1; omega) _
  · go_upto_region 34 with (first
      | (go_at_call 89; refine (two_c _ _ X B M X _ _ _ (by assumption) (by omega) hXB hXM).mono ?_; rintro e v1 ⟨rfl, us1, hu1, hl1, hg1, hb1⟩; clear kX kB lX lB lM; obtain ⟨kX, kB, lX, lB, lM⟩ := hg1.view; simp only [In5] at kX; have BW1 := btr hb1 (by assumption))
      | (go_at_call 88; refine (low1_c X B M X o d s f m _ _ HM.out (by assumption) (by omega) hXB hXM).mono ?_; rintro e v2 ⟨rfl, us2, hu2, hl2, hg2, hb2⟩; clear kX kB lX lB lM; obtain ⟨kX, kB, lX, lB, lM⟩ := hg2.view; simp only [In5] at kX; have BW2 := btr hb2 (by assumption)))
    have HGG := Lib.hid hg2
    have HBB := Lib.hid BW2
    have eG : G = us2 := HG.out.symm.trans (by rw [← hu2.out, ← hu1.out, ← HU0.out]; simp [gb])
    obtain ⟨o', d', s', f', m', n', z', hD⟩ := decv_shape us2
    unfold agg5 at hD
    have HGD := Lib.hid (gdec_all us2 (some ⟨M, 0, none⟩) 6 _ (Bg.bs hg2 (by omega)) hg2.2)
    have hok := Lib.hid (okd_iff (o := o) (d := d) (s := s) (f := f) (m := m) hD)
    rw [hD] at HGD
    have hne := neq_ins o' d' s' f' m' o d s f m
    rw [eG] at HG
    have HEG := Lib.hid eG
    clear hg2 BW2 eG hD
    by_cases hz : z' = 0
    · subst hz
      cases he : eqi o' d' s' f' m' o d s f m
      · rw [he] at hne
        go_wp2_with (go_at_call 31; refine (HGD.out).mono ?_; rintro e v9 ⟨rfl, hb9⟩; have BW9 := Lib.hid (HBB.out.trans (hb9.mono (Nat.le_of_lt lX))); have HG9 := Lib.hid (HGG.out.keep hb9); clear kX kB lX lB lM; obtain ⟨kX, kB, lX, lB, lM⟩ := HG9.out.view; simp only [In5] at kX)
        refine bodyPost_ret (v := .tuple #[.slice none 0 0, .int .i64 3]) (by simp [results, Try.results42, go_sem]) rfl ⟨.inr ⟨?_, rfl⟩, ?_⟩
        · rw [HEG.out, hok.out]; simp [he]
        · rw [HXe.out]; exact BW9.out.alloc (by have := HXe.out; have := HG9.out.view.2.2.1; omega) _
      · rw [he] at hne
        go_wp2_with (go_at_call 31; refine (HGD.out).mono ?_; rintro e v9 ⟨rfl, hb9⟩; have BW9 := Lib.hid (HBB.out.trans (hb9.mono (Nat.le_of_lt lX))); have HG9 := Lib.hid (HGG.out.keep hb9); clear kX kB lX lB lM; obtain ⟨kX, kB, lX, lB, lM⟩ := HG9.out.view; simp only [In5] at kX)
        refine bodyPost_ret (v := .tuple #[.slice (some ⟨M, 0, none⟩) us2.length 6, .int .i64 0]) (by simp [results, Try.results42, go_sem]) rfl ⟨.inl ⟨?_, M, ?_, ?_, ?_, ?_⟩, ?_⟩
        · rw [HEG.out, hok.out]; simp [he]
        · rw [HEG.out]
        · rw [HEG.out]; exact (HG9.out.bs (by omega)).keep ((Below.refl _ _).alloc (Nat.le_refl _) _)
        · rw [HXe.out]; exact hXM
        · exact (HG9.out.keep ((Below.refl _ _).alloc (Nat.le_refl _) _)).frz
        · rw [HXe.out]; exact BW9.out.alloc (by have := HXe.out; have := HG9.out.view.2.2.1; omega) _
    · have hzb : (z' == 0) = false := by rw [beq_eq_false_iff_ne]; exact hz
      · go_wp2_with (go_at_call 31; refine (HGD.out).mono ?_; rintro e v9 ⟨rfl, hb9⟩; have BW9 := Lib.hid (HBB.out.trans (hb9.mono (Nat.le_of_lt lX))); have HG9 := Lib.hid (HGG.out.keep hb9); clear kX kB lX lB lM; obtain ⟨kX, kB, lX, lB, lM⟩ := HG9.out.view; simp only [In5] at kX)
        refine bodyPost_ret (v := .tuple #[.slice none 0 0, .int .i64 3]) (by simp [results, Try.results42, go_sem]) rfl ⟨.inr ⟨?_, rfl⟩, ?_⟩
        · rw [HEG.out, hok.out]; simp [hz]
        · rw [HXe.out]; exact BW9.out.alloc (by have := HXe.out; have := HG9.out.view.2.2.1; omega) _
end Go.Proofs.Ytcjcmnnhmajocaa.Gu
