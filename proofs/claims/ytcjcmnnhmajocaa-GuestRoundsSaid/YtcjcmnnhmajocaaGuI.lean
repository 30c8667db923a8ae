/- Both Decodes answer alike. -/
import Derived.Test.YtcjcmnnhmajocaaGuC
namespace Go.Proofs.Ytcjcmnnhmajocaa.Gu
open Go.RowKit Kt
set_option linter.unusedVariables false
set_option linter.unusedSimpArgs false
def lets (sh : Int) : List UInt8 := match sh with
  | 2 => [98]
  | 3 => [115]
  | 4 => [119]
  | 5 => [101]
  | 6 => [112]
  | 7 => [99]
  | 8 => [112, 115]
  | 9 => [100, 119]
  | 10 => [100, 115]
  | 11 => [119]
  | 12 => [101, 115]
  | _ => []
def kin (fi : Int) : List UInt8 := match fi with
  | 1 => [68]
  | 2 => [83]
  | 3 => [79]
  | _ => []
def rowok (b : Int) : Bool :=
  if fndFrom b fms 0 < 0 then decide (shSize (rowOf b).sh = 0) else
  match fms[(fndFrom b fms 0).toNat]? with
  | some f => decide ((rowOf b).op = fndFrom b fms 0) && decide (1 ≤ (rowOf b).sh) && decide (f.beh.data.toList = lets (rowOf b).sh) && decide (f.inn.data.toList = kin (rowOf b).fi) && decide ((rowOf b).fi = 0 ∨ (rowOf b).lo = b - f.first)
  | none => false
theorem rowok_all : ∀ n : Fin 256, rowok (n.val : Int) = true := by decide +kernel
theorem str_of {x : ByteArray} {l : List UInt8} (h : x.data.toList = l) : x = ⟨l.toArray⟩ := by
  cases x
  subst h
  simp
theorem kin_str {fi : Int} (h0 : 0 ≤ fi) (h3 : fi ≤ 3) {x : ByteArray} (h : x.data.toList = kin fi) (b lo : Int) (hl : fi = 0 ∨ lo = b) :
    (x = strN ∨ x = strD ∨ x = strS ∨ x = strO) ∧ (if x = strD then b else 0) = (if fi = 1 then lo else 0) ∧ (if x = strS then b else 0) = (if fi = 2 then lo else 0) ∧ (if x = strO then b else 0) = (if fi = 3 then lo else 0) := by
  have hx := str_of h
  rcases (show fi = 0 ∨ fi = 1 ∨ fi = 2 ∨ fi = 3 by omega) with rfl | rfl | rfl | rfl
  · subst hx
    refine ⟨.inl rfl, ?_, ?_, ?_⟩ <;> simp [kin, strD, strS, strO]
  all_goals obtain rfl : lo = b := by omega
  · subst hx
    refine ⟨.inr (.inl rfl), ?_, ?_, ?_⟩ <;> simp [kin, strD, strS, strO]
  · subst hx
    refine ⟨.inr (.inr (.inl rfl)), ?_, ?_, ?_⟩ <;> simp [kin, strD, strS, strO]
  · subst hx
    refine ⟨.inr (.inr (.inr rfl)), ?_, ?_, ?_⟩ <;> simp [kin, strD, strS, strO]
theorem lets_size (sh : Int) (h1 : 1 ≤ sh) (h2 : sh ≤ 12) : 1 + wsz (lets sh) = shSize sh := by
  rcases (show sh = 1 ∨ sh = 2 ∨ sh = 3 ∨ sh = 4 ∨ sh = 5 ∨ sh = 6 ∨ sh = 7 ∨ sh = 8 ∨ sh = 9 ∨ sh = 10 ∨ sh = 11 ∨ sh = 12 by omega) with rfl | rfl | rfl | rfl | rfl | rfl | rfl | rfl | rfl | rfl | rfl | rfl
  all_goals decide
theorem fin_eq (sh op lo fi d s f : Int) (h1 : 1 ≤ sh) (h2 : sh ≤ 12) (a : Nat → Int) :
    (if (rfold a (lets sh) ⟨d, s, f, 0, 1⟩).d ≤ 7 ∧ (rfold a (lets sh) ⟨d, s, f, 0, 1⟩).s ≤ 7 then
      Value.tuple #[agg5 op (rfold a (lets sh) ⟨d, s, f, 0, 1⟩).d (rfold a (lets sh) ⟨d, s, f, 0, 1⟩).s (rfold a (lets sh) ⟨d, s, f, 0, 1⟩).f (rfold a (lets sh) ⟨d, s, f, 0, 1⟩).m, .int .i64 (1 + wsz (lets sh)), .int .i64 0] else derr 3) =
    fin ⟨op, sh, lo, fi⟩ d s f (fun j => a (j + 1)) := by
  rw [lets_size sh h1 h2]
  have h8 : ∀ x : Int, x ≤ 7 ↔ x < 8 := fun x => by omega
  unfold fin
  rcases (show sh = 1 ∨ sh = 2 ∨ sh = 3 ∨ sh = 4 ∨ sh = 5 ∨ sh = 6 ∨ sh = 7 ∨ sh = 8 ∨ sh = 9 ∨ sh = 10 ∨ sh = 11 ∨ sh = 12 by omega) with rfl | rfl | rfl | rfl | rfl | rfl | rfl | rfl | rfl | rfl | rfl | rfl
  all_goals simp [rfold, rl, lets, oD, oS, oF, oM, h8]
theorem fin_shape (r : Rw) (d s f : Int) (a : Nat → Int) : ∃ o' d' s' f' m n z : Int, fin r d s f a = .tuple #[agg5 o' d' s' f' m, .int .i64 n, .int .i64 z] := by
  unfold fin
  by_cases h : oD r.sh d a < 8 ∧ oS r.sh s a < 8
  · rw [if_pos h]; exact ⟨_, _, _, _, _, _, _, rfl⟩
  · rw [if_neg h]; exact ⟨_, _, _, _, _, _, _, rfl⟩
theorem decv_shape (us : List Int) : ∃ o d s f m n z : Int, decv us = .tuple #[agg5 o d s f m, .int .i64 n, .int .i64 z] := by
  unfold decv
  by_cases h0 : us.length = 0
  · rw [if_pos h0]; exact ⟨_, _, _, _, _, _, _, rfl⟩
  rw [if_neg h0]
  by_cases h1 : shSize (rowOf (us.getD 0 0)).sh = 0
  · rw [if_pos h1]; exact ⟨_, _, _, _, _, _, _, rfl⟩
  rw [if_neg h1]
  by_cases h2 : (us.length : Int) < shSize (rowOf (us.getD 0 0)).sh
  · rw [if_pos h2]; exact ⟨_, _, _, _, _, _, _, rfl⟩
  rw [if_neg h2]
  exact fin_shape _ _ _ _ _
theorem fnd_neg (x : Int) : fndFrom x fms 0 < 0 ↔ fndFrom x fms 0 = -1 := by
  rcases fnd_spec x fms 0 with h | ⟨j, f, _, h2, _, _⟩
  · omega
  · omega
theorem rdec_all (us : List Int) (ao : Option Addr) (cap : Nat) (w : World) (hs : Bs us ao cap w) (hw : ∀ j, 0 ≤ us.getD j 0 ∧ us.getD j 0 < 256) :
    Calls Try.prog 32 #[.slice ao us.length cap] w fun e w' => e = .returned (decv us) ∧ Below w.heap.size w w' := by
  obtain ⟨l1, m1, k1⟩ := hs
  unfold decv
  by_cases h0 : us.length = 0
  · rw [if_pos h0, h0]; exact rdec_none ao cap w
  · obtain ⟨b, off, rfl, hb, hc⟩ := k1 (by omega)
    rw [if_neg h0]
    have hpos : 0 < us.length := by omega
    have hb0 := hw 0
    have hok : rowok (us.getD 0 0) = true := by
      obtain ⟨n, hn⟩ := Int.eq_ofNat_of_zero_le hb0.1
      rw [hn]
      exact rowok_all ⟨n, by omega⟩
    have hr := row_in (us.getD 0 0) hb0.1 hb0.2
    have hz := rsz_byte (us.getD 0 0) hb0.1 hb0.2
    unfold rowok at hok
    by_cases hf : fndFrom (us.getD 0 0) fms 0 < 0
    · rw [if_pos hf] at hok
      rw [if_pos (of_decide_eq_true hok)]
      exact rdec_bad us b off us.length cap w hb hpos hw hc 2 (.inl ⟨rfl, (fnd_neg _).1 hf⟩)
    · rw [if_neg hf] at hok
      have hf0 : 0 ≤ fndFrom (us.getD 0 0) fms 0 := by omega
      obtain ⟨j, hj⟩ := Int.eq_ofNat_of_zero_le hf0
      rw [hj, Int.toNat_natCast] at hok
      split at hok
      · rename_i f hfj
        simp only [Bool.and_eq_true, decide_eq_true_eq] at hok
        obtain ⟨⟨⟨⟨o1, o2⟩, o3⟩, o4⟩, o5⟩ := hok
        obtain ⟨f0, fn, fi, s⟩ := f
        dsimp only at o3 o4 o5
        have hj32 : j < 32 := by
          have := (List.getElem?_eq_some_iff.1 hfj).1
          rwa [fms_len] at this
        have hsz := lets_size (rowOf (us.getD 0 0)).sh o2 hr.2.2.2.1
        have hp : 1 ≤ shSize (rowOf (us.getD 0 0)).sh := by
          rw [← hsz]
          have := wsz_range (lets (rowOf (us.getD 0 0)).sh)
          omega
        rw [if_neg (by omega)]
        by_cases h2 : (us.length : Int) < shSize (rowOf (us.getD 0 0)).sh
        · rw [if_pos h2]
          exact rdec_bad us b off us.length cap w hb hpos hw hc 1 (.inr ⟨rfl, hf0, by rw [hz]; exact h2⟩)
        · rw [if_neg h2]
          have hzz : 1 + wsz s.data.toList ≤ (us.length : Int) := by rw [o3, hsz]; omega
          obtain ⟨q1, q2, q3, q4⟩ := kin_str hr.2.2.2.2.2.2.1 hr.2.2.2.2.2.2.2 o4 (us.getD 0 0 - f0) _ o5
          have := rdec_ok us b off us.length cap w rfl hpos l1 hb m1 hw hc j f0 fn fi s hj32 hfj hj q1 hzz
          unfold rfin at this
          rw [q2, q3, q4, o3, fin_eq _ _ (rowOf (us.getD 0 0)).lo (rowOf (us.getD 0 0)).fi _ _ _ o2 hr.2.2.2.1, ← o1] at this
          exact this
      · exact absurd hok (by simp)
end Go.Proofs.Ytcjcmnnhmajocaa.Gu
