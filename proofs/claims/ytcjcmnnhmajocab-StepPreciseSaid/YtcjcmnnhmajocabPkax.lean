/- crossgrainref2's Step where what is fetched stops. -/
import Derived.Test.YtcjcmnnhmajocabPkae
import Derived.Test.YtcjcmnnhmajocabPkah
import Derived.Test.YtcjcmnnhmajocabPkat
import Derived.Test.YtcjcmnnhmajocabPkau
import Derived.Test.YtcjcmnnhmajocabPkav
import Derived.Test.YtcjcmnnhmajocabPkaw
namespace Go.Proofs.Ytcjcmnnhmajocab.St
open Go.RowKit Kt Me Fl Gu
set_option linter.unusedVariables false
set_option linter.unusedSimpArgs false
theorem rkv_bd (o a b f : Int) (a0 : 0 ≤ a) (a1 : a < 4294967296) (b0 : 0 ≤ b) (b1 : b < 4294967296) : 0 ≤ rkv o a b f ∧ rkv o a b f < 4294967296 := by
  have h1 := bits_lt .and a b a0 a1 b0 b1
  have h2 := bits_lt .or a b a0 a1 b0 b1
  have h3 := bits_lt .xor a b a0 a1 b0 b1
  have h4 := rol_lt a (n5 b) (n5_lt b) a0 a1
  have h5 : 0 ≤ a / 2 ^ n5 b ∧ a / 2 ^ n5 b ≤ a := ⟨Int.ediv_nonneg a0 (Int.le_of_lt (two_pow_pos _)), Int.ediv_le_self _ a0⟩
  have h6 : 0 ≤ a / b ∧ a / b ≤ a := ⟨Int.ediv_nonneg a0 b0, Int.ediv_le_self _ a0⟩
  have h7 : b ≠ 0 → 0 ≤ a % b ∧ a % b < b := fun h => ⟨Int.emod_nonneg _ h, Int.emod_lt_of_pos _ (by omega)⟩
  have e1 : 0 ≤ a * 2 ^ n5 b % 4294967296 ∧ a * 2 ^ n5 b % 4294967296 < 4294967296 := ⟨Int.emod_nonneg _ (by decide), Int.emod_lt_of_pos _ (by decide)⟩
  have e2 : 0 ≤ sg a / 2 ^ n5 b % 4294967296 ∧ sg a / 2 ^ n5 b % 4294967296 < 4294967296 := ⟨Int.emod_nonneg _ (by decide), Int.emod_lt_of_pos _ (by decide)⟩
  have e3 : 0 ≤ a * b % 4294967296 ∧ a * b % 4294967296 < 4294967296 := ⟨Int.emod_nonneg _ (by decide), Int.emod_lt_of_pos _ (by decide)⟩
  unfold rkv
  by_cases e : o = 0
  · rw [if_pos e]; omega
  rw [if_neg e]; clear e
  by_cases e : o = 1
  · rw [if_pos e]; omega
  rw [if_neg e]; clear e
  by_cases e : o = 2
  · rw [if_pos e]; omega
  rw [if_neg e]; clear e
  by_cases e : o = 3
  · rw [if_pos e]; omega
  rw [if_neg e]; clear e
  by_cases e : o = 4
  · rw [if_pos e]; exact h1
  rw [if_neg e]; clear e
  by_cases e : o = 5
  · rw [if_pos e]; exact h2
  rw [if_neg e]; clear e
  by_cases e : o = 6
  · rw [if_pos e]; exact h3
  rw [if_neg e]; clear e
  by_cases e : o = 7
  · rw [if_pos e]; exact ⟨a0, a1⟩
  rw [if_neg e]; clear e
  by_cases e : o = 8
  · rw [if_pos e]; exact ⟨a0, a1⟩
  rw [if_neg e]; clear e
  by_cases e : o = 9
  · rw [if_pos e]; exact e1
  rw [if_neg e]; clear e
  by_cases e : o = 10
  · rw [if_pos e]; exact ⟨h5.1, Int.lt_of_le_of_lt h5.2 a1⟩
  rw [if_neg e]; clear e
  by_cases e : o = 11
  · rw [if_pos e]; exact e2
  rw [if_neg e]; clear e
  by_cases e : o = 12
  · rw [if_pos e]; exact h4
  rw [if_neg e]; clear e
  by_cases e : o = 13
  · rw [if_pos e]; exact e3
  rw [if_neg e]; clear e
  by_cases e : o = 14
  · rw [if_pos e]
    split
    · omega
    · exact ⟨h6.1, Int.lt_of_le_of_lt h6.2 a1⟩
  rw [if_neg e]; clear e
  by_cases e : o = 15
  · rw [if_pos e]
    split
    · omega
    · next hb => exact ⟨(h7 hb).1, Int.lt_trans (h7 hb).2 b1⟩
  rw [if_neg e]; omega
theorem rkf_bd (o a b f : Int) : 0 ≤ rkf o a b f ∧ rkf o a b f < 16 := by
  have h0 := fl_bd 1 a b f
  have h1 := fl_bd 2 a b f
  have h2 := fl_bd 3 a b f
  have h3 := fl_bd 4 a b f
  have h4 := zn_lt (bits .and .u32 a b)
  have h5 := zn_lt (bits .or .u32 a b)
  have h6 := zn_lt (bits .xor .u32 a b)
  have h7 := fl_bd 6 a b f
  have h8 := fl_bd 7 a b f
  have h9 := fl_bd 8 a b f
  have h10 := fl_bd 9 a b f
  have h11 := fl_bd 10 a b f
  have h12 := zn_lt (a / b)
  have h13 := zn_lt (a % b)
  unfold rkf
  repeat' split
  all_goals omega
structure OOk (o : Out) : Prop where
  M : MOk o.M
  R : ROk o.R
  p : 0 ≤ o.pc ∧ o.pc < 4294967296
  f : 0 ≤ o.f ∧ o.f < 16
theorem ldO_ok {M : MM} {R : Nat → Int} {pc f q n : Int} {g : Int → Out} (hM : MOk M) (hR : ROk R) (hp : 0 ≤ pc ∧ pc < 4294967296) (hf : 0 ≤ f ∧ f < 16) (h : ∀ v, 0 ≤ v → v < 4294967296 → OOk (g v)) : OOk (ldO M R pc f q n g) := by
  unfold ldO
  have b := ldv_bd hM q n
  split
  · exact h _ b.1 b.2
  · exact ⟨hM, hR, hp, hf⟩
theorem stO_ok {M : MM} {R : Nat → Int} {pc f q n v : Int} {g : MM → Out} (hM : MOk M) (hR : ROk R) (hp : 0 ≤ pc ∧ pc < 4294967296) (hf : 0 ≤ f ∧ f < 16) (hv : 0 ≤ v ∧ v < 4294967296) (h : ∀ M', MOk M' → OOk (g M')) : OOk (stO M R pc f q n v g) := by
  unfold stO
  split
  · exact h _ (hM.stm q n v hv.1 hv.2)
  · exact ⟨hM, hR, hp, hf⟩
theorem widen_bd (o v : Int) (v0 : 0 ≤ v) (v1 : v < 4294967296) : 0 ≤ widen o v ∧ widen o v < 4294967296 := by
  unfold widen
  repeat' split
  all_goals omega
theorem opO_ok (M : MM) (R : Nat → Int) (pc f nx k : Int) (d s : Nat) (o m : Int) (hM : MOk M) (hR : ROk R) (hp : 0 ≤ pc ∧ pc < 4294967296) (hf : 0 ≤ f ∧ f < 16) (hx : 0 ≤ nx ∧ nx < 4294967296) (hm : 0 ≤ m ∧ m < 4294967296) :
    OOk (opO M R pc f nx k d s o m) := by
  have W := w32_bd
  have hd := hR d
  have hs := hR s
  have h0 := hR 0
  have h7 := hR 7
  have F := fl_bd
  unfold opO
  by_cases e : k = 0
  · rw [if_pos e]; exact ⟨hM, hR, hx, hf⟩
  rw [if_neg e]; clear e
  by_cases e : k = 1
  · rw [if_pos e]; exact ⟨hM, hR, hp, hf⟩
  rw [if_neg e]; clear e
  by_cases e : k = 2
  · rw [if_pos e]; exact ldO_ok hM hR hp hf fun v v0 v1 => ⟨hM, hR.upd 7 _ (W _), ⟨v0, v1⟩, hf⟩
  rw [if_neg e]; clear e
  by_cases e : k = 3
  · rw [if_pos e]; exact stO_ok hM hR hp hf ⟨hf.1, by omega⟩ fun M' h => ⟨h, hR.upd 7 _ (W _), hx, hf⟩
  rw [if_neg e]; clear e
  by_cases e : k = 4
  · rw [if_pos e]; exact ldO_ok hM hR hp hf fun v v0 v1 => ⟨hM, hR.upd 7 _ (W _), hx, by show 0 ≤ v % 16 ∧ v % 16 < 16; omega⟩
  rw [if_neg e]; clear e
  by_cases e : k = 5
  · rw [if_pos e]; exact ⟨hM, hR, hx, hf⟩
  rw [if_neg e]; clear e
  by_cases e : k = 6 ∨ k = 7
  · rw [if_pos e]; exact ⟨hM, hR, W _, hf⟩
  rw [if_neg e]; clear e
  by_cases e : k = 8
  · rw [if_pos e]; exact stO_ok hM hR hp hf hx fun M' h => ⟨h, hR.upd 7 _ (W _), W _, hf⟩
  rw [if_neg e]; clear e
  by_cases e : k = 9
  · rw [if_pos e]; exact ⟨hM, hR, hs, hf⟩
  rw [if_neg e]; clear e
  by_cases e : k = 10
  · rw [if_pos e]; exact stO_ok hM hR hp hf hx fun M' h => ⟨h, hR.upd 7 _ (W _), hs, hf⟩
  rw [if_neg e]; clear e
  by_cases e : k = 11
  · rw [if_pos e]; exact ldO_ok hM hR hp hf fun v v0 v1 => ⟨hM, hR, ⟨v0, v1⟩, hf⟩
  rw [if_neg e]; clear e
  by_cases e : k = 12 ∨ k = 13
  · rw [if_pos e]
    refine ⟨hM, hR, ?_, hf⟩
    show 0 ≤ (if Fl.hd o f then w32 (nx + m) else nx) ∧ _
    split
    · exact W _
    · exact hx
  rw [if_neg e]; clear e
  by_cases e : k = 14
  · rw [if_pos e]; exact stO_ok hM hR hp hf hs fun M' h => ⟨h, hR.upd 7 _ (W _), hx, hf⟩
  rw [if_neg e]; clear e
  by_cases e : k = 15
  · rw [if_pos e]; exact ldO_ok hM hR hp hf fun v v0 v1 => ⟨hM, (hR.upd 7 _ (W _)).upd d _ ⟨v0, v1⟩, hx, hf⟩
  rw [if_neg e]; clear e
  by_cases e : k = 16
  · rw [if_pos e]; exact ⟨hM, hR.upd d _ hm, hx, hf⟩
  rw [if_neg e]; clear e
  by_cases e : k = 17
  · rw [if_pos e]; exact ⟨hM, hR.upd d _ (W _), hx, F 11 (R d) 0 f⟩
  rw [if_neg e]; clear e
  by_cases e : k = 18
  · rw [if_pos e]; exact ⟨hM, hR.upd d _ (W _), hx, F 12 (R d) 0 f⟩
  rw [if_neg e]; clear e
  by_cases e : k = 19
  · rw [if_pos e]; exact ⟨hM, hR.upd d _ (W _), hx, F 3 0 (R d) f⟩
  rw [if_neg e]; clear e
  by_cases e : k = 20
  · rw [if_pos e]; exact ⟨hM, hR.upd d _ (by omega), hx, hf⟩
  rw [if_neg e]; clear e
  by_cases e : k = 21
  · rw [if_pos e]; exact ⟨hM, hR.upd d _ (by split <;> omega), hx, hf⟩
  rw [if_neg e]; clear e
  by_cases e : k = 22
  · rw [if_pos e]; exact ⟨hM, hR.upd d _ hs, hx, hf⟩
  rw [if_neg e]; clear e
  by_cases e : k = 23
  · rw [if_pos e]; exact ⟨hM, hR.upd d _ (W _), hx, hf⟩
  rw [if_neg e]; clear e
  by_cases e : k = 24
  · rw [if_pos e]; exact ldO_ok hM hR hp hf fun v v0 v1 => stO_ok hM hR hp hf hd fun M' h => ⟨h, hR.upd d _ ⟨v0, v1⟩, hx, hf⟩
  rw [if_neg e]; clear e
  by_cases e : k = 25
  · rw [if_pos e]; exact ldO_ok hM hR hp hf fun v v0 v1 => stO_ok hM hR hp hf (W _) fun M' h => ⟨h, hR.upd d _ ⟨v0, v1⟩, hx, F 1 v (R d) f⟩
  rw [if_neg e]; clear e
  by_cases e : k = 26
  · rw [if_pos e]
    refine ldO_ok hM hR hp hf fun v v0 v1 => ?_
    by_cases g : R 0 = v
    · rw [if_pos g]; exact stO_ok hM hR hp hf hd fun M' h => ⟨h, hR, hx, F 3 (R 0) v f⟩
    · rw [if_neg g]; exact stO_ok hM hR hp hf ⟨v0, v1⟩ fun M' h => ⟨h, hR.upd 0 _ ⟨v0, v1⟩, hx, F 3 (R 0) v f⟩
  rw [if_neg e]; clear e
  by_cases e : k = 27
  · rw [if_pos e]
    split
    · exact ⟨hM, hR.upd d _ (rkv_bd _ _ _ _ hd.1 hd.2 hs.1 hs.2), hx, rkf_bd _ _ _ _⟩
    · exact ⟨hM, hR, hp, hf⟩
  rw [if_neg e]; clear e
  by_cases e : k = 28 ∨ k = 29
  · rw [if_pos e]
    split
    · exact ⟨hM, hR.upd d _ (rkv_bd _ _ _ _ hd.1 hd.2 hm.1 hm.2), hx, rkf_bd _ _ _ _⟩
    · exact ⟨hM, hR, hp, hf⟩
  rw [if_neg e]; clear e
  by_cases e : k = 30
  · rw [if_pos e]; exact ldO_ok hM hR hp hf fun v v0 v1 => ⟨hM, hR.upd d _ (widen_bd _ _ v0 v1), hx, hf⟩
  rw [if_neg e]; clear e
  exact stO_ok hM hR hp hf hd fun M' h => ⟨h, hR, hx, hf⟩
theorem stay_ok {R : Nat → Int} {pc f : Int} {o : Out} (h : OOk o) (hR : ROk R) (hp : 0 ≤ pc ∧ pc < 4294967296) (hf : 0 ≤ f ∧ f < 16) : OOk (stay R pc f o) := by
  unfold stay
  split
  · exact h
  · exact ⟨h.M, hR, hp, hf⟩
theorem usI_rg {M : MM} (hM : MOk M) (pc : Int) : ∀ j, 0 ≤ (usI M pc).getD j 0 ∧ (usI M pc).getD j 0 < 256 := fetL_rg hM _ _
theorem stepO_ok (M : MM) (R : Nat → Int) (pc f0 : Int) (hM : MOk M) (hR : ROk R) (hp : 0 ≤ pc ∧ pc < 4294967296) : OOk (stepO M R pc f0) := by
  have hf : 0 ≤ f0 % 16 ∧ f0 % 16 < 16 := by omega
  unfold stepO
  split
  · exact ⟨hM, hR, hp, hf⟩
  · split
    · exact ⟨hM, hR, hp, hf⟩
    · split
      · next e => exact stay_ok (opO_ok _ _ _ _ _ _ _ _ _ _ hM hR hp hf (w32_bd _) (decv_rng _ (usI_rg hM pc) e).m) hR hp hf
      · exact ⟨hM, hR, hp, hf⟩
/-- a run: what comes of it, and how many instructions are done -/
def runO : Nat → MM → (Nat → Int) → Int → Int → Out × Nat
  | 0, M, R, pc, f => (⟨M, R, pc, f, 0, 0⟩, 0)
  | n + 1, M, R, pc, f =>
    let o := stepO M R pc f
    if o.k = 0 then let r := runO n o.M o.R o.pc o.f; (r.1, r.2 + 1)
    else if o.k = 1 then (o, 1)
    else (o, 0)
theorem runO_ok (n : Nat) : ∀ (M : MM) (R : Nat → Int) (pc f : Int), MOk M → ROk R → (0 ≤ pc ∧ pc < 4294967296) → (0 ≤ f ∧ f < 16) → OOk (runO n M R pc f).1 := by
  induction n with
  | zero => intro M R pc f hM hR hp hf; exact ⟨hM, hR, hp, hf⟩
  | succ n ih =>
    intro M R pc f hM hR hp hf
    have h := stepO_ok M R pc f hM hR hp
    unfold runO
    simp only []
    split
    · exact ih _ _ _ _ h.M h.R h.p h.f
    · split
      · exact h
      · exact h
end Go.Proofs.Ytcjcmnnhmajocab.St
namespace Go.Proofs.Ytcjcmnnhmajocab.St
open Go.RowKit Kt Me Fl Gu
set_option linter.unusedVariables false
set_option linter.unusedSimpArgs false
/-- what is left of the meaning's memory -/
def MemS (P : RP) (w : World) (o : Out) (e : Ending) (w' : World) : Prop := e = .returned (outV o) ∧ RM P o.M w' ∧ Upto P.has w w'
set_option maxRecDepth 100000 in
set_option maxHeartbeats 4000000 in
theorem rstep_stop (P : RP) (M : MM) (R : Nat → Int) (pc f : Int) (k x : Int) (hk : k ≠ 0) (w : World) (h : RM P M w) (hM : MOk M) (c0 : 0 ≤ pc) (c1 : pc < 4294967296) (f0 : 0 ≤ f) (f1 : f < 4294967296) (hs : insV M pc = stopV k x) :
    Calls Try.prog 36 #[.pointer (some ⟨P.q, 0, none⟩), stV R pc f] w fun e w' => MemS P w ⟨M, R, pc, f % 16, k, x⟩ e w' := by
  have CF := Lib.hid (fun w h => rins_all P M pc w h hM c0 c1)
  rw [hs] at CF
  have S0 := S3.new w R pc (f % 16)
  have B0 : Below w.heap.size w (((w.alloc (.cells (stL R pc (f % 16)) 72)).alloc (.cells Z10 72)).alloc (.cells Z2 46)) := (((Below.refl _ _).alloc (Nat.le_refl _) _).alloc (by simp) _).alloc (by simp; omega) _
  have HH := Lib.hid (h.upto (Upto.of_below (S := fun _ => False) B0) (fun _ _ => id))
  unfold stL Z10 Z2 at S0 B0 HH
  have hkb : (k == 0) = false := by rw [beq_eq_false_iff_ne]; exact hk
  have hkn : (k != 0) = true := by rw [bne, hkb]; rfl
  unfold stopV agg5 at CF
  unfold stV
  have hW0 := Lib.hid (fun i (hi : w.heap.size ≤ i) (hp : P.has i) => show False by have := rm_lt h hp; omega)
  clear h hM hs
  go_enter Try.func36, Try.ntmps36
  go_wp2_with fail
  generalize ((w.alloc (.cells #[.int .u32 (R 0), .int .u32 (R 1), .int .u32 (R 2), .int .u32 (R 3), .int .u32 (R 4), .int .u32 (R 5), .int .u32 (R 6), .int .u32 (R 7), .int .u32 pc, .int .u32 (f % 16)] 72)).alloc (.cells #[.int .u32 0, .int .u32 0, .int .u32 0, .int .u32 0, .int .u32 0, .int .u32 0, .int .u32 0, .int .u32 0, .int .u32 0, .int .u32 0] 72)).alloc (.cells #[.int .i64 0, .int .u32 0] 46) = WA at S0 B0 HH ⊢
  have HS := Lib.hid S0
  have HB := Lib.hid B0
  clear S0 B0
  go_wp2_with (go_at_call 82; (with_reducible refine (CF.out _ HH.out).mono ?_); rintro e w1 ⟨rfl, b1⟩; have HS1 := Lib.hid (HS.out.below b1); have HH1 := Lib.hid (HH.out.upto (Upto.of_below (S := fun _ => False) b1) (fun _ _ => id)))
  have e1 : (w1.alloc (.cells #[.int .i64 0, .int .i64 0, .int .i64 0, .int .i64 0, .int .u32 0] 149)).heap.size = w1.heap.size + 1 := by simp
  have k0 := box_at (w1.alloc (.cells #[.int .i64 0, .int .i64 0, .int .i64 0, .int .i64 0, .int .u32 0] 149)) #[.int .i64 k, .int .u32 x] 46 0
  have k1 := box_at (w1.alloc (.cells #[.int .i64 0, .int .i64 0, .int .i64 0, .int .i64 0, .int .u32 0] 149)) #[.int .i64 k, .int .u32 x] 46 1
  rw [e1] at k0 k1
  simp only [List.getElem?_toArray, List.getElem?_cons_zero, List.getElem?_cons_succ] at k0 k1
  have b2 : Below w1.heap.size w1 ((w1.alloc (.cells #[.int .i64 0, .int .i64 0, .int .i64 0, .int .i64 0, .int .u32 0] 149)).alloc (.cells #[.int .i64 k, .int .u32 x] 46)) := ((Below.refl _ _).alloc (Nat.le_refl _) _).alloc (by simp) _
  have HS2 := Lib.hid (HS1.out.below b2)
  have HH2 := Lib.hid (HH1.out.upto (Upto.of_below (S := fun _ => False) b2) (fun _ _ => id))
  generalize (w1.alloc (.cells #[.int .i64 0, .int .i64 0, .int .i64 0, .int .i64 0, .int .u32 0] 149)).alloc (.cells #[.int .i64 k, .int .u32 x] 46) = W2 at k0 k1 b2 HS2 HH2 ⊢
  have s0 := HS2.out.s 0 (by omega)
  have s1 := HS2.out.s 1 (by omega)
  have s2 := HS2.out.s 2 (by omega)
  have s3 := HS2.out.s 3 (by omega)
  have s4 := HS2.out.s 4 (by omega)
  have s5 := HS2.out.s 5 (by omega)
  have s6 := HS2.out.s 6 (by omega)
  have s7 := HS2.out.s 7 (by omega)
  have s8 := HS2.out.s8
  have s9 := HS2.out.s9
  have q0 := HS2.out.q.a 0 (by omega)
  have y0 := HS2.out.q.za 0
  have q1 := HS2.out.q.a 1 (by omega)
  have y1 := HS2.out.q.za 1
  have q2 := HS2.out.q.a 2 (by omega)
  have y2 := HS2.out.q.za 2
  have q3 := HS2.out.q.a 3 (by omega)
  have y3 := HS2.out.q.za 3
  have q4 := HS2.out.q.a 4 (by omega)
  have y4 := HS2.out.q.za 4
  have q5 := HS2.out.q.a 5 (by omega)
  have y5 := HS2.out.q.za 5
  have q6 := HS2.out.q.a 6 (by omega)
  have y6 := HS2.out.q.za 6
  have q7 := HS2.out.q.a 7 (by omega)
  have y7 := HS2.out.q.za 7
  have q8 := HS2.out.q.a 8 (by omega)
  have y8 := HS2.out.q.za 8
  have q9 := HS2.out.q.a 9 (by omega)
  have y9 := HS2.out.q.za 9
  have r0 := HS2.out.q.b 0 (by omega)
  have z0 := HS2.out.q.zb 0
  have r1 := HS2.out.q.b 1 (by omega)
  have z1 := HS2.out.q.zb 1
  have lw := HS1.out.q.lb
  have n1 : ¬ w1.heap.size = w.heap.size := by omega
  have n2 : ¬ w.heap.size = w1.heap.size := by omega
  have n3 : ¬ w1.heap.size = w.heap.size + 1 := by omega
  have n4 : ¬ w.heap.size + 1 = w1.heap.size := by omega
  go_region
  clear s0 s1 s2 s3 s4 s5 s6 s7 s8 s9 q0 y0 q1 y1 q2 y2 q3 y3 q4 y4 q5 y5 q6 y6 q7 y7 q8 y8 q9 y9 r0 z0 r1 z1 k0 k1
  obtain ⟨u, t, fq, u0, u1, u2, u3, u4, u5, u6, u7, u8, u9, t0, t1⟩ := HS2.out.q.put (.int .u32 (R 0)) (.int .u32 (R 1)) (.int .u32 (R 2)) (.int .u32 (R 3)) (.int .u32 (R 4)) (.int .u32 (R 5)) (.int .u32 (R 6)) (.int .u32 (R 7)) (.int .u32 pc) (.int .u32 (f % 16)) (.int .i64 k) (.int .u32 x)
  have bw : Upto P.has w W2 := Upto.of_below ((HB.out.trans (b1.mono HB.out.size)).trans (b2.mono (Nat.le_trans HB.out.size b1.size)))
  have bp := (upto_put (h := w.heap.size + 1) (g := w.heap.size + 1 + 1) bw (.inr (Nat.le_succ _)) (.inr (Nat.le_add_right _ 2)) (.int .u32 (R 0)) (.int .u32 (R 1)) (.int .u32 (R 2)) (.int .u32 (R 3)) (.int .u32 (R 4)) (.int .u32 (R 5)) (.int .u32 (R 6)) (.int .u32 (R 7)) (.int .u32 pc) (.int .u32 (f % 16)) (.int .i64 k) (.int .u32 x)).drew
  have hp := (HH2.out.upto (upto_put (h := w.heap.size + 1) (g := w.heap.size + 1 + 1) (Upto.refl (fun i => i = w.heap.size + 1 ∨ i = w.heap.size + 1 + 1) W2) (.inl (.inl rfl)) (.inl (.inr rfl)) (.int .u32 (R 0)) (.int .u32 (R 1)) (.int .u32 (R 2)) (.int .u32 (R 3)) (.int .u32 (R 4)) (.int .u32 (R 5)) (.int .u32 (R 6)) (.int .u32 (R 7)) (.int .u32 pc) (.int .u32 (f % 16)) (.int .i64 k) (.int .u32 x)) (fun j hj hx => hW0.out j (by rcases hx with hx | hx <;> omega) hj)).drew
  have fq2 := fq.drew
  clear fq
  generalize World.drew _ = WZ at fq2 bp hp ⊢
  have g0 := fq2.a 0 (by omega)
  rw [u0] at g0
  have g1 := fq2.a 1 (by omega)
  rw [u1] at g1
  have g2 := fq2.a 2 (by omega)
  rw [u2] at g2
  have g3 := fq2.a 3 (by omega)
  rw [u3] at g3
  have g4 := fq2.a 4 (by omega)
  rw [u4] at g4
  have g5 := fq2.a 5 (by omega)
  rw [u5] at g5
  have g6 := fq2.a 6 (by omega)
  rw [u6] at g6
  have g7 := fq2.a 7 (by omega)
  rw [u7] at g7
  have g8 := fq2.a 8 (by omega)
  rw [u8] at g8
  have g9 := fq2.a 9 (by omega)
  rw [u9] at g9
  have o0 := fq2.b 0 (by omega)
  rw [t0] at o0
  have o1 := fq2.b 1 (by omega)
  rw [t1] at o1
  go_wp2_with fail
  refine bodyPost_ret (v := outV ⟨M, R, pc, f % 16, k, x⟩) (by simp [outV, stV, results, Try.results36, go_sem, g0, g1, g2, g3, g4, g5, g6, g7, g8, g9, o0, o1]) rfl ⟨rfl, hp, bp⟩
end Go.Proofs.Ytcjcmnnhmajocab.St
