/- gen.Code, whatever the block: its error, or its words. -/
import Derived.Test.YtcjcmnnhmajocabPgax
import Derived.Test.YtcjcmnnhmajocabPgay
import Derived.Test.YtcjcmnnhmajocabPgbg
import Derived.Test.YtcjcmnnhmajocabPgbh
namespace Go.Proofs.Ytcjcmnnhmajocab.Gn
open Go.RowKit Kt Ic Hr Ho Me
set_option linter.unusedVariables false
set_option linter.unusedSimpArgs false
set_option maxRecDepth 100000 in
set_option maxHeartbeats 16000000 in
theorem code_bad (os : List Opr) (ao : Option Addr) (cap : Nat) (pc cnt byt R er z : Int) (w : World) (hops : Ops os ao cap w) (hc : chk os cnt byt = (er, z)) (he : er ≠ 0) :
    Calls Try.prog 11 #[.agg #[.int .u32 pc, .int .i64 cnt, .int .i64 byt, .slice ao os.length cap], .int .i64 R] w fun e w' => e = .returned (.tuple #[.slice none 0 0, .int .i64 er]) ∧ Below w.heap.size w w' := by
  have b0 := (Below.refl w.heap.size w).alloc (Nat.le_refl _) (.cells #[.int .u32 pc, .int .i64 cnt, .int .i64 byt, .slice ao os.length cap] 25)
  have O0 := Lib.hid (hops.keep (b0.mono (Nat.le_refl _)))
  have CH := Lib.hid (fun w h => check_any os ao cap pc cnt byt w h)
  rw [hc] at CH
  unfold errs at CH
  dsimp only at CH
  have BL := Lib.hid b0
  have ne : (er != 0) = true := by simpa using he
  clear hops hc b0 he
  go_enter Try.func11, Try.ntmps11
  go_wp2_with (go_at_call 45; refine (CH.out _ O0.out).mono ?_; rintro e w1 ⟨rfl, b1⟩; have B1 := Lib.hid (BL.out.trans (b1.mono (by simp))); clear b1)
  exact bodyPost_ret (v := .tuple #[.slice none 0 0, .int .i64 er]) (by simp [results, Try.results11, go_sem]) rfl ⟨rfl, B1.out⟩
set_option maxRecDepth 100000 in
set_option maxHeartbeats 16000000 in
theorem code_regs (os : List Opr) (ao : Option Addr) (cap : Nat) (pc cnt byt R z : Int) (w : World) (hops : Ops os ao cap w) (hc : chk os cnt byt = (0, z)) (hR : R < 3 ∨ 16 < R) :
    Calls Try.prog 11 #[.agg #[.int .u32 pc, .int .i64 cnt, .int .i64 byt, .slice ao os.length cap], .int .i64 R] w fun e w' => e = .returned (.tuple #[.slice none 0 0, .int .i64 4]) ∧ Below w.heap.size w w' := by
  have b0 := (Below.refl w.heap.size w).alloc (Nat.le_refl _) (.cells #[.int .u32 pc, .int .i64 cnt, .int .i64 byt, .slice ao os.length cap] 25)
  have O0 := Lib.hid (hops.keep (b0.mono (Nat.le_refl _)))
  have CH := Lib.hid (fun w h => check_any os ao cap pc cnt byt w h)
  rw [hc] at CH
  unfold errs at CH
  dsimp only at CH
  have BL := Lib.hid b0
  clear hops hc b0
  rcases (show R < 3 ∨ (¬ R < 3 ∧ 16 < R) by omega) with h | ⟨h, h2⟩
  all_goals clear hR
  all_goals go_enter Try.func11, Try.ntmps11
  all_goals go_wp2_with (go_at_call 45; refine (CH.out _ O0.out).mono ?_; rintro e w1 ⟨rfl, b1⟩; have B1 := Lib.hid (BL.out.trans (b1.mono (by simp))); clear b1)
  all_goals exact bodyPost_ret (v := .tuple #[.slice none 0 0, .int .i64 4]) (by simp [results, Try.results11, go_sem]) rfl ⟨rfl, B1.out⟩
end Go.Proofs.Ytcjcmnnhmajocab.Gn
namespace Go.Proofs.Ytcjcmnnhmajocab.Gn
open Go.RowKit Kt Ic Hr Ho Me
set_option linter.unusedVariables false
set_option linter.unusedSimpArgs false
theorem encW_bd {x : Cd} (h1 : 0 ≤ x.k ∧ x.k < 4294967296) (h2 : 0 ≤ x.x ∧ x.x < 4294967296) : ∀ u ∈ encW x, 0 ≤ u ∧ u < 4294967296 := by
  intro u hu
  have hm : u ∈ [Cd.sum x, x.k, x.x] := List.mem_of_mem_take hu
  have hs : 0 ≤ Cd.sum x ∧ Cd.sum x < 4294967296 := by unfold Cd.sum; omega
  simp only [List.mem_cons, List.not_mem_nil, or_false] at hm
  rcases hm with rfl | rfl | rfl
  · exact hs
  · exact h1
  · exact h2
theorem wds_bd {xs : List Cd} (h : ∀ x ∈ xs, (0 ≤ x.k ∧ x.k < 4294967296) ∧ (0 ≤ x.x ∧ x.x < 4294967296)) : ∀ j, 0 ≤ (wds xs).getD j 0 ∧ (wds xs).getD j 0 < 4294967296 := by
  intro j
  rw [List.getD_eq_getElem?_getD]
  by_cases hj : j < (wds xs).length
  · rw [List.getElem?_eq_getElem hj]
    have hm := List.getElem_mem hj
    unfold wds at hm
    obtain ⟨x, hx, hu⟩ := List.mem_flatMap.1 hm
    exact encW_bd (h x hx).1 (h x hx).2 _ hu
  · rw [List.getElem?_eq_none (by omega)]
    exact ⟨by decide, by decide⟩
/-- what gen.Code puts of a block -/
structure CodeOk (os : List Opr) (R : Nat) (pc cnt : Int) (xs : List Cd) : Prop where
  l0 : 0 < xs.length
  h0 : ∀ h : 0 < xs.length, xs[0] = ⟨1, 0, 0, 0, 0, cnt, pc, 0⟩
  hy : ∀ j, 1 ≤ j → ∀ h : j < xs.length, SX R xs[j]
  ok : ∀ x ∈ xs, COk x
  bd : ∀ j, 0 ≤ (wds xs).getD j 0 ∧ (wds xs).getD j 0 < 4294967296
  len : (wds xs).length ≤ 16 * os.length + 2
theorem code_sx {os : List Opr} {R : Nat} {pc cnt byt : Int} (hc : (chk os cnt byt).1 = 0) (h3 : 3 ≤ R) (hR : R ≤ 16) (HK : ∀ t, 0 ≤ (opAt os t).kn ∧ (opAt os t).kn < 4294967296) (hp : 0 ≤ pc ∧ pc < 4294967296) : CodeOk os R pc cnt (codeG os R pc cnt).xs := by
  obtain ⟨n0, n1, c0, c1, HC, _⟩ := chk_of hc
  obtain ⟨_, ⟨ys, e, h1, h2⟩, _⟩ := all_ok (R := R) HC c0 c1 h3 hR n1 HK pc os.length (Nat.le_refl _)
  have e' : (codeG os R pc cnt).xs = ⟨1, 0, 0, 0, 0, cnt, pc, 0⟩ :: ys := e
  have h2' : (wds (codeG os R pc cnt).xs).length ≤ (wds [(⟨1, 0, 0, 0, 0, cnt, pc, 0⟩ : Cd)]).length + 13 * os.length := h2
  rw [e'] at h2' ⊢
  have el : (wds [(⟨1, 0, 0, 0, 0, cnt, pc, 0⟩ : Cd)]).length = 2 := by
    have : (encW ⟨1, 0, 0, 0, 0, cnt, pc, 0⟩).length = 2 := by unfold encW; rw [show (wd (fcls 1)).toNat = 2 by decide]; rfl
    unfold wds; simp [this]
  refine ⟨by simp, fun _ => rfl, fun j hj h => ?_, fun x hx => ?_, wds_bd fun x hx => ?_, by omega⟩
  · match j, hj, h with
    | j + 1, _, h => exact h1 _ (List.getElem_mem (l := ys) (n := j) (by simpa using h))
  · rcases List.mem_cons.1 hx with rfl | hx
    · exact enter_ok c0 c1
    · exact (h1 x hx).ok
  · rcases List.mem_cons.1 hx with rfl | hx
    · exact ⟨hp, z32⟩
    · exact ⟨(h1 x hx).kb, (h1 x hx).xb⟩
theorem OwnW.words {B : Nat} {v : Value} {us : List Int} {w : World} (h : OwnW B v us w) (h0 : 0 < us.length) : ∃ b cap, v = .slice (some ⟨b, 0, none⟩) us.length cap ∧ B ≤ b ∧ Sl us (some ⟨b, 0, none⟩) cap w := by
  rcases h.2 with ⟨_, hn⟩ | ⟨g, c1, cur, rfl, hg, hrow, hle, hmx, hsz, htk⟩
  · have : us.length = 0 := hn
    omega
  · refine ⟨g, c1, rfl, hg, hle, hmx, fun _ => ⟨g, 0, rfl, (Array.getElem?_eq_some_iff.1 hrow).1, fun j hj => ?_⟩⟩
    rw [Nat.zero_add, cell_of_row w g j _ _ _ hrow, ← Array.getElem?_toList]
    have h2 : (cur.toList.take (us.length * 1))[j]? = (us.map (Value.int .u32))[j]? := by rw [htk]
    rw [Nat.mul_one, List.getElem?_take, if_pos hj, List.getElem?_map] at h2
    rw [h2, List.getElem?_eq_getElem hj, List.getD_eq_getElem?_getD, List.getElem?_eq_getElem hj]
    rfl
/-- the code of a block -/
theorem code_walk (os : List Opr) (ao : Option Addr) (cap : Nat) (pc cnt byt z : Int) (R : Nat) (w : World) (hops : Ops os ao cap w) (hc : chk os cnt byt = (0, z)) (h3 : 3 ≤ R) (hR : R ≤ 16) (HK : ∀ t, 0 ≤ (opAt os t).kn ∧ (opAt os t).kn < 4294967296) (hp : 0 ≤ pc ∧ pc < 4294967296) :
    Calls Try.prog 11 #[.agg #[.int .u32 pc, .int .i64 cnt, .int .i64 byt, .slice ao os.length cap], .int .i64 R] w fun e w' => ∃ b c, e = .returned (.tuple #[.slice (some ⟨b, 0, none⟩) (wds (codeG os R pc cnt).xs).length c, .int .i64 0]) ∧ Sl (wds (codeG os R pc cnt).xs) (some ⟨b, 0, none⟩) c w' ∧ w.heap.size ≤ b ∧ Below w.heap.size w w' := by
  have hc1 : (chk os cnt byt).1 = 0 := by rw [hc]
  obtain ⟨n0, n1, c0, c1, HC, _⟩ := chk_of hc1
  have C := code_sx hc1 h3 hR HK hp
  obtain ⟨kb, ko, rfl, _⟩ := hops.2.2 n0
  refine (code_ok os kb ko cap pc cnt byt R z w hops hc h3 hR n1 (taken_ok HC) (enter_ok c0 c1) (fun i hi => (all_ok HC c0 c1 h3 hR n1 HK pc i (by omega)).2.2 hi)).mono ?_
  rintro e w' ⟨v, rfl, ow, b⟩
  have hl : 0 < (wds (codeG os R pc cnt).xs).length := by
    have := (dec_at C.ok 0 C.l0).2
    omega
  obtain ⟨g, c, rfl, hg, sl⟩ := ow.words hl
  exact ⟨g, c, rfl, sl, hg, b⟩
end Go.Proofs.Ytcjcmnnhmajocab.Gn
