/- crossgrainlaw1.GuestRounds: the walk. -/
import Derived.Test.YtcjcmnnhmajocaaGuT
import Derived.Laws.AppendOwn
import Derived.Laws.AppendOwnNone
namespace Go.Proofs.Ytcjcmnnhmajocaa.Gu
open Go.RowKit Kt
set_option linter.unusedVariables false
set_option linter.unusedSimpArgs false
theorem decv_lea : decv [106, 23, 252] = .tuple #[.agg #[.int .i64 23, .int .i64 1, .int .i64 7, .int .i64 0, .int .u32 4294967292], .int .i64 3, .int .i64 0] := by
  unfold decv
  rw [if_neg (by decide), if_neg (by decide +kernel), if_neg (by decide +kernel)]
  unfold fin
  rw [if_pos (by decide +kernel)]
  kernel_rfl
theorem decv_err {us : List Int} {o d s f m n z : Int} (h : decv us = .tuple #[agg5 o d s f m, .int .i64 n, .int .i64 z]) (hz : z ≠ 0) : o = 0 ∧ d = 0 ∧ s = 0 ∧ f = 0 ∧ m = 0 ∧ n = 0 := by
  have key : ∀ e : Int, derr e = .tuple #[agg5 o d s f m, .int .i64 n, .int .i64 z] → o = 0 ∧ d = 0 ∧ s = 0 ∧ f = 0 ∧ m = 0 ∧ n = 0 := by
    intro e he
    simp [derr, agg5] at he
    omega
  unfold decv at h
  by_cases h0 : us.length = 0
  · rw [if_pos h0] at h; exact key _ h
  rw [if_neg h0] at h
  by_cases h1 : shSize (rowOf (us.getD 0 0)).sh = 0
  · rw [if_pos h1] at h; exact key _ h
  rw [if_neg h1] at h
  by_cases h2 : (us.length : Int) < shSize (rowOf (us.getD 0 0)).sh
  · rw [if_pos h2] at h; exact key _ h
  rw [if_neg h2] at h
  unfold fin at h
  by_cases hok : oD (rowOf (us.getD 0 0)).sh (if (rowOf (us.getD 0 0)).fi = 1 then (rowOf (us.getD 0 0)).lo else 0) (fun j => us.getD (j + 1) 0) < 8 ∧ oS (rowOf (us.getD 0 0)).sh (if (rowOf (us.getD 0 0)).fi = 2 then (rowOf (us.getD 0 0)).lo else 0) (fun j => us.getD (j + 1) 0) < 8
  · rw [if_pos hok] at h
    simp only [Value.tuple.injEq, Array.mk.injEq, List.cons.injEq, Value.int.injEq, true_and, and_true] at h
    omega
  · rw [if_neg hok] at h; exact key _ h
theorem okd_m {us : List Int} (hw : Rg us) {o d s f m n : Int} (h : decv us = .tuple #[agg5 o d s f m, .int .i64 n, .int .i64 0]) : 0 ≤ m ∧ m < 4294967296 := by
  obtain ⟨h0, h1, h2, h3, h4, h5, h6⟩ := decv_ok hw h
  have hb0 := hw 0
  have hri := row_in (us.getD 0 0) hb0.1 hb0.2
  have ha : ∀ j, 0 ≤ us.getD (j + 1) 0 ∧ us.getD (j + 1) 0 < 256 := fun j => hw (j + 1)
  rw [h6] at h
  generalize us.getD 0 0 = b0 at *
  generalize rowOf b0 = r at *
  obtain ⟨op, sh, lo, fi⟩ := r
  dsimp only at *
  unfold fin at h
  by_cases hok : oD sh (if fi = 1 then lo else 0) (fun j => us.getD (j + 1) 0) < 8 ∧ oS sh (if fi = 2 then lo else 0) (fun j => us.getD (j + 1) 0) < 8
  · rw [if_pos hok] at h
    simp only [agg5, Value.tuple.injEq, Value.agg.injEq, Value.int.injEq, Array.mk.injEq, List.cons.injEq, true_and, and_true] at h
    obtain ⟨⟨_, _, _, _, rfl⟩, _⟩ := h
    have a0 := ha 0
    have a1 := ha 1
    have a2 := ha 2
    have a3 := ha 3
    have a4 := ha 4
    have hsg : ∀ x : Int, 0 ≤ x → x < 256 → 0 ≤ sgn x ∧ sgn x < 4294967296 := fun x _ _ => by unfold sgn; split <;> omega
    have hfo : ∀ x y z u : Int, 0 ≤ x → x < 256 → 0 ≤ y → y < 256 → 0 ≤ z → z < 256 → 0 ≤ u → u < 256 → 0 ≤ four x y z u ∧ four x y z u < 4294967296 := fun x y z u _ _ _ _ _ _ _ _ => by unfold four; omega
    unfold oM
    split
    · have := ha 0; simp only at this ⊢; omega
    split
    · exact hsg _ a0.1 a0.2
    split
    · exact hfo _ _ _ _ a0.1 a0.2 a1.1 a1.2 a2.1 a2.2 a3.1 a3.2
    split
    · exact hfo _ _ _ _ a1.1 a1.2 a2.1 a2.2 a3.1 a3.2 a4.1 a4.2
    split
    · exact hsg _ a1.1 a1.2
    · omega
  · rw [if_neg hok] at h
    simp [derr] at h
/-- what was read is encoded so -/
theorem enc_read {us : List Int} (hw : Rg us) {o d s f m n : Int} (h : decv us = .tuple #[agg5 o d s f m, .int .i64 n, .int .i64 0]) :
    ∀ w : World, Calls Try.prog 42 #[.agg #[.int .i64 o, .int .i64 d, .int .i64 s, .int .i64 f, .int .u32 m]] w (EncG (us.take n.toNat) 0 w) := by
  obtain ⟨us1, z1, _, _, _, hun, hG, _⟩ := enc_both o d s f m (okd_m hw h)
  obtain ⟨j, fm, e1, e2, e3, e4⟩ := rounds_bytes hw h
  have hk := decv_ok hw h
  have hp : decv (us.take n.toNat) = decv us := decv_prefix hw h (fun j hj => by
    rw [List.getD_eq_getElem?_getD, List.getElem?_take, if_pos (by omega), List.getD_eq_getElem?_getD]) (by rw [List.length_take]; omega)
  obtain ⟨q1, q2⟩ := hun j fm e1 e2 e3 (by rw [e4]; exact ⟨n, hp.trans h⟩)
  rw [e4] at q1
  rw [q1, q2] at hG
  exact hG
/-- what is encoded has just its length -/
theorem enc_len {us : List Int} (hw : Rg us) {o d s f m : Int} (hk : okd us o d s f m)
    (hun : ∀ (j : Nat) (fm : Fm), o = (j : Int) → fms[j]? = some fm → badx fm.n (lwf fm.inn d s f) d s f = false → okd ([fm.first + lwf fm.inn d s f] ++ wls d s f m fm.beh.data.toList) o d s f m → us = [fm.first + lwf fm.inn d s f] ++ wls d s f m fm.beh.data.toList ∧ (0 : Int) = 0) :
    decv us = .tuple #[agg5 o d s f m, .int .i64 us.length, .int .i64 0] ∧ 0 < us.length ∧ us.length ≤ 6 := by
  obtain ⟨n, h⟩ := hk
  obtain ⟨j, fm, e1, e2, e3, e4⟩ := rounds_bytes hw h
  have hd := decv_ok hw h
  have hp : decv (us.take n.toNat) = decv us := decv_prefix hw h (fun j hj => by
    rw [List.getD_eq_getElem?_getD, List.getElem?_take, if_pos (by omega), List.getD_eq_getElem?_getD]) (by rw [List.length_take]; omega)
  obtain ⟨q1, _⟩ := hun j fm e1 e2 e3 (by rw [e4]; exact ⟨n, hp.trans h⟩)
  rw [e4] at q1
  have hl : us.length = (us.take n.toNat).length := by rw [← q1]
  rw [List.length_take] at hl
  have : n = us.length := by omega
  subst this
  exact ⟨h, by omega, by omega⟩
theorem ap_b {ops : Array Oper} {rest : List Oper} {o : Oper} {a : Act} {Q : Exit → Act → World → Prop} {w : World} (hgd : o.guard = none) (s x : Operand)
    (ho : o.op = .call { callee := .builtin .append, args := #[s, x], argTypes := #[54, 54] })
    (base : Nat) (v : Value) (xs : List Int) (hs : a.eval s = v) (hown : w.ownsRow base 5 1 v xs.length (xs.map (Value.int .u8))) (hbase : base ≤ w.heap.size)
    (us : List Int) (ao : Option Addr) (cap : Nat) (hx : a.eval x = .slice ao us.length cap) (hB : Bs us ao cap w) (hnil : ao = none → cap = 0) (hb : xs.length + us.length ≤ 140737488355328)
    (h : ∀ v' w', w'.ownsRow base 5 1 v' (xs ++ us).length ((xs ++ us).map (Value.int .u8)) → Below base w w' → wpList Try.prog ops Q rest (a.put o.dst v') w') : wpList Try.prog ops Q (o :: rest) a w := by
  obtain ⟨i, hi, hz, hsz, hby⟩ := u8_info
  have hmx : (maxLen : Nat) = 9223372036854775807 := rfl
  cases ao with
  | none =>
    have h0 : us.length = 0 := by
      by_cases hn : us.length = 0
      · exact hn
      · obtain ⟨_, _, he, _⟩ := hB.2.2 (by omega)
        cases he
    obtain rfl : us = [] := List.length_eq_zero_iff.1 h0
    rw [hnil rfl] at hx
    refine wpList_append_own_none hgd s x 54 ho base 5 i 1 Try.underlying54 hi v xs.length _ hs hown hx (h v w ?_ (Below.refl _ _))
    simpa using hown
  | some ad =>
    have hn : ∀ j u, (us.map (Value.int .u8))[j]? = some u → w.cell? (ad.add j) = some u := by
      intro j u hj
      rw [List.getElem?_map] at hj
      obtain ⟨z, hz, rfl⟩ := Option.map_eq_some_iff.1 hj
      have hlt := (List.getElem?_eq_some_iff.1 hz).1
      obtain ⟨b, off, he, _, hc⟩ := hB.2.2 (by omega)
      obtain rfl := Option.some.inj he
      rw [Addr.add_lit, hc j hlt, List.getD_eq_getElem?_getD, hz]; rfl
    have h1 : ∀ u ∈ us.map (Value.int .u8), u.oneCell' = true := by
      intro u hu
      obtain ⟨z, _, rfl⟩ := List.mem_map.1 hu
      rfl
    have hown' := hown
    refine wpList_append_own w hgd s x 54 ho base 5 i (.int .u8 0) 1 1 Try.underlying54 hi hz hsz hby rfl Nat.one_pos v xs.length (xs.map (Value.int .u8)) hs hown ad us.length cap (us.map (Value.int .u8)) hx (by simp) hn h1 (by omega) (by omega) hbase (fun v' w' hv hg _ => h v' w' ?_ ((Below.refl _ _).grown hg hbase (fun k hk => ?_)))
    · rw [List.map_append, List.length_append]; exact hv
    · rcases hown'.2 with ⟨rfl, _⟩ | ⟨g, cap, cur, rfl, e2, _⟩
      · cases hk
      · simp only [Value.ownBlock, Option.some.injEq] at hk
        omega
theorem own_bs {base : Nat} {v : Value} {xs : List Int} {w : World} (h : w.ownsRow base 5 1 v xs.length (xs.map (Value.int .u8))) (h0 : 0 < xs.length) : ∃ g cap, v = .slice (some ⟨g, 0, none⟩) xs.length cap ∧ Bs xs (some ⟨g, 0, none⟩) cap w := by
  obtain ⟨g, cap, e, hb, _⟩ := Sv.bs (C := base) (b0 := 0) (.inr h) h0
  exact ⟨g, cap, e, hb⟩
end Go.Proofs.Ytcjcmnnhmajocaa.Gu
