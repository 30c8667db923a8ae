/- Plain: words are read as the instructions they were put for. -/
import Derived.Test.YtcjcmnnhmajocabPgay
import Derived.Test.YtcjcmnnhmajocabPgbe
import Derived.Test.YtcjcmnnhmajocabPgbf
namespace Go.Proofs.Ytcjcmnnhmajocab.Gn
open Go.RowKit Kt Ic Hr Ho Me
set_option linter.unusedVariables false
set_option linter.unusedSimpArgs false
variable {os : List Opr} {R i : Nat} {g : Gm}
/-- what instructions keep to -/
structure SX (R : Nat) (x : Cd) : Prop where
  ok : COk x
  o1 : x.op ≠ 1 ∧ x.op ≠ 15 ∧ x.op ≠ 96
  d : x.op = 12 ∨ x.op = 13 ∨ x.d < R
  a : x.a < R
  b : x.b < R
  c : x.c < R
  kb : 0 ≤ x.k ∧ x.k < 4294967296
  xb : 0 ≤ x.x ∧ x.x < 4294967296
theorem z32 : (0 : Int) ≤ 0 ∧ (0 : Int) < 4294967296 := by decide
theorem sts_sx {r sp : Int} (h0 : 0 ≤ r) (h1 : r < R) (h2 : R ≤ 16) (s0 : 0 ≤ sp) (s1 : sp < 2048) : SX R (stsC r sp) :=
  ⟨sts_ok r sp h0 (by omega) s0 s1, by show (9 : Int) ≠ 1 ∧ (9 : Int) ≠ 15 ∧ (9 : Int) ≠ 96; decide, .inr (.inr (by show (0 : Int) < R; omega)), h1, by show (0 : Int) < R; omega, by show (0 : Int) < R; omega, z32, z32⟩
theorem lds_sx {r sp : Int} (h0 : 0 ≤ r) (h1 : r < R) (h2 : R ≤ 16) (s0 : 0 ≤ sp) (s1 : sp < 2048) : SX R (ldsC r sp) :=
  ⟨lds_ok r sp h0 (by omega) s0 s1, by show (8 : Int) ≠ 1 ∧ (8 : Int) ≠ 15 ∧ (8 : Int) ≠ 96; decide, .inr (.inr h1), by show (0 : Int) < R; omega, by show (0 : Int) < R; omega, by show (0 : Int) < R; omega, z32, z32⟩
theorem li_sx {r k : Int} (h0 : 0 ≤ r) (h1 : r < R) (h2 : R ≤ 16) (hk : 0 ≤ k ∧ k < 4294967296) : SX R (liC r k) :=
  ⟨li_ok r k h0 (by omega), by show (2 : Int) ≠ 1 ∧ (2 : Int) ≠ 15 ∧ (2 : Int) ≠ 96; decide, .inr (.inr h1), by show (0 : Int) < R; omega, by show (0 : Int) < R; omega, by show (0 : Int) < R; omega, hk, z32⟩
theorem wds_snoc (xs : List Cd) (x : Cd) : (wds (xs ++ [x])).length = (wds xs).length + (encW x).length := by
  unfold wds; rw [List.flatMap_append, List.length_append]; simp
theorem sts_len (r sp : Int) : (encW (stsC r sp)).length = 1 := by
  unfold encW stsC; rw [show (wd (fcls 9)).toNat = 1 by decide]; rfl
theorem lds_len (r sp : Int) : (encW (ldsC r sp)).length = 1 := by
  unfold encW ldsC; rw [show (wd (fcls 8)).toNat = 1 by decide]; rfl
theorem li_len (r k : Int) : (encW (liC r k)).length = 2 := by
  unfold encW liC; rw [show (wd (fcls 2)).toNat = 2 by decide]; rfl
/-- instructions so far: they keep to the registers, there are no more than so many words -/
def XS (R : Nat) (xs0 : List Cd) (m : Nat) (g : Gm) : Prop := ∃ ys, g.xs = xs0 ++ ys ∧ (∀ y ∈ ys, SX R y) ∧ (wds g.xs).length ≤ (wds xs0).length + m
theorem XS.refl (R : Nat) (g : Gm) : XS R g.xs 0 g := ⟨[], by simp, by simp, by omega⟩
theorem XS.put {xs0 : List Cd} {m : Nat} (a : XS R xs0 m g) {x : Cd} (hx : SX R x) {k : Nat} (hk : (encW x).length ≤ k) : XS R xs0 (m + k) (g.put x) := by
  obtain ⟨ys, h1, h2, h3⟩ := a
  refine ⟨ys ++ [x], by show g.xs ++ [x] = _; rw [h1, List.append_assoc], fun y hy => ?_, ?_⟩
  · rcases List.mem_append.1 hy with h | h
    · exact h2 y h
    · obtain rfl := List.mem_singleton.1 h; exact hx
  · show (wds (g.xs ++ [x])).length ≤ _
    rw [wds_snoc]; omega
theorem XS.mono {xs0 : List Cd} {m n : Nat} (a : XS R xs0 m g) (h : m ≤ n) : XS R xs0 n g := by
  obtain ⟨ys, h1, h2, h3⟩ := a
  exact ⟨ys, h1, h2, by omega⟩
theorem XS.of {xs0 : List Cd} {m : Nat} {g' : Gm} (a : XS R xs0 m g) (h : g'.xs = g.xs) : XS R xs0 m g' := by
  obtain ⟨ys, h1, h2, h3⟩ := a
  exact ⟨ys, h.trans h1, h2, by rw [h]; exact h3⟩
theorem XS.trans {xs0 : List Cd} {m n : Nat} {g' : Gm} (a : XS R xs0 m g) (b : XS R g.xs n g') : XS R xs0 (m + n) g' := by
  obtain ⟨ys, h1, h2, h3⟩ := a
  obtain ⟨zs, k1, k2, k3⟩ := b
  refine ⟨ys ++ zs, by rw [k1, h1, List.append_assoc], fun y hy => ?_, by omega⟩
  rcases List.mem_append.1 hy with h | h
  · exact h2 y h
  · exact k2 y h
/-- of a state: nothing of where values lie has changed -/
theorem GI.of (a : GI os R i g) {g' : Gm} (h1 : g'.holds = g.holds) (h2 : g'.v = g.v) (h3 : g'.sp = g.sp) : GI os R i g' :=
  ⟨by rw [h1]; exact a.hh, by rw [h1]; exact a.hl, by rw [h1, h2]; exact a.hv, by rw [h2]; exact a.vr, by rw [h1, h2]; exact a.vh, by rw [h2, h3]; exact a.vs, by rw [h3, a.sp, cS_congr (g := g) (g' := g') fun t _ => by rw [h2]], by rw [h2]; exact a.un, by rw [h2]; exact a.w, by rw [h2]; exact a.fut⟩
theorem GI.setU (a : GI os R i g) (t : Nat) {us : List Int} (h1 : ∀ u ∈ us, u ∈ (g.v t).uses) : GI os R i (g.setU t us) := by
  have e : ∀ t', ((g.setU t us).v t').reg = (g.v t').reg ∧ ((g.setU t us).v t').spill = (g.v t').spill := fun t' => by
    by_cases h : t' = t
    · subst h; simp [Gm.setU, upd]
    · simp [Gm.setU, upd, h]
  have eu : ∀ t', ∀ u ∈ ((g.setU t us).v t').uses, u ∈ (g.v t').uses := fun t' => by
    by_cases h : t' = t
    · subst h; simpa [Gm.setU, upd] using h1
    · simp [Gm.setU, upd, h]
  refine ⟨a.hh, a.hl, fun r t' h => by rw [(e t').1]; exact a.hv r t' h, fun t' => by rw [(e t').1]; exact a.vr t', fun t' r h => a.vh t' r (by rw [← (e t').1]; exact h), fun t' => by rw [(e t').2]; exact a.vs t', a.sp.trans (by rw [cS_congr (g := g) (g' := g.setU t us) fun t' _ => (e t').2]), fun t' u hu => a.un t' u (eu t' u hu), fun t' h1 h2 h3 => ?_, fun t' h => by rw [(e t').1, (e t').2]; exact a.fut t' h⟩
  rw [(e t').1, (e t').2]
  refine a.w t' h1 h2 fun hn => h3 ?_
  cases hu : ((g.setU t us).v t').uses with
  | nil => rfl
  | cons u l =>
    have := eu t' u (by rw [hu]; simp)
    rw [hn] at this; exact absurd this (by simp)
/-- a register that can be made free -/
theorem GI.fok (a : GI os R i g) (hn : os.length ≤ 2048) (hR : R ≤ 16) (hp : ∃ r, r < R ∧ g.pin r = false) : ∃ b : Nat, b < R ∧ g.pin b = false ∧ (bst g R).1 = b ∧ FOk os R g b := by
  obtain ⟨b, h1, h2, h3, _⟩ := bst_ok a.nn R hp
  refine ⟨b, h1, h3, h2, h2, by omega, fun h => ?_, fun h hs => ?_⟩
  · exact a.hv b _ (by omega)
  · have hlt := a.hh b
    unfold spills at hs
    simp only [Bool.and_eq_true, decide_eq_true_eq] at hs
    exact a.sp0 hn (by omega) hs.2.1
/-- a register is made free -/
theorem GI.fre (a : GI os R i g) (hn : os.length ≤ 2048) (hR : R ≤ 16) {b : Nat} (hb : (bst g R).1 = b) (hbR : b < R) : GI os R i (g.fre os R) ∧ (g.fre os R).holds b = -1 ∧ (∀ r, r ≠ b → (g.fre os R).holds r = g.holds r) ∧ (g.fre os R).pin = g.pin ∧ (∀ t, ((g.fre os R).v t).uses = (g.v t).uses) ∧ (∀ t, (g.v t).reg < 0 → ((g.fre os R).v t).reg = (g.v t).reg ∧ ((g.fre os R).v t).spill = (g.v t).spill) ∧ XS R g.xs 1 (g.fre os R) := by
  unfold Gm.fre
  rw [hb, Int.toNat_natCast]
  by_cases h0 : 0 ≤ g.holds b
  · rw [if_pos h0]
    have hlt := a.hh b
    obtain ⟨t, ht⟩ : ∃ t : Nat, g.holds b = t := ⟨(g.holds b).toNat, by omega⟩
    rw [ht, Int.toNat_natCast]
    have hr := a.hv b t ht
    have htl : t < os.length := by omega
    obtain ⟨e1, e2, e3, e4, e5, e6⟩ := out_v (os := os) (g := g) t
    rw [hr, Int.toNat_natCast] at e1
    refine ⟨a.out hn htl hr, by rw [e1, if_pos rfl], fun r hrb => by rw [e1, if_neg hrb], e2, e5, fun t' h' => ?_, ?_⟩
    · rw [e4 t' (fun e => by rw [e, hr] at h'; omega)]; exact ⟨rfl, rfl⟩
    · have hx : XS R g.xs 1 (g.lay os t) := by
        unfold Gm.lay
        by_cases hs : spills os g t = true
        · rw [if_pos hs]
          have hs2 := hs
          unfold spills at hs2
          simp only [Bool.and_eq_true, decide_eq_true_eq] at hs2
          have := a.sp0 hn htl hs2.2.1
          exact XS.put (((XS.refl R g).of (g' := (g.setS t g.sp).setSp (g.sp + 1)) rfl)) (by rw [hr]; exact sts_sx (by omega) (by omega) hR this.1 this.2) (Nat.le_of_eq (sts_len _ _))
        · rw [if_neg hs]; exact (XS.refl R g).mono (by omega)
      exact hx.of rfl
  · rw [if_neg h0]
    refine ⟨a, ?_, fun _ _ => rfl, rfl, fun _ => rfl, fun _ _ => ⟨rfl, rfl⟩, (XS.refl R g).mono (by omega)⟩
    have := a.hl b
    omega
end Go.Proofs.Ytcjcmnnhmajocab.Gn
namespace Go.Proofs.Ytcjcmnnhmajocab.Gn
open Go.RowKit Kt Ic Hr Ho Me
set_option linter.unusedVariables false
set_option linter.unusedSimpArgs false
variable {os : List Opr} {R i : Nat} {g : Gm}
theorem GI.has (a : GI os R i g) {b t j : Nat} (hb : g.holds b = -1) (hbR : b < R) (ht : (g.v t).reg < 0) (htn : t < os.length) (hj : i ≤ j) (htj : t < j) (ho : ∀ t', i ≤ t' → t' < j → t' = t) : GI os R j (g.has b t) := by
  have e : ∀ t', t' ≠ t → (g.has b t).v t' = g.v t' := fun t' h => by simp [Gm.has, Gm.setR, Gm.setH, upd, h]
  have er : ((g.has b t).v t).reg = b := by simp [Gm.has, Gm.setR, Gm.setH, upd]
  have es : ∀ t', ((g.has b t).v t').spill = (g.v t').spill := fun t' => by
    by_cases h : t' = t
    · subst h; simp [Gm.has, Gm.setR, Gm.setH, upd]
    · rw [e t' h]
  have eu : ∀ t', ((g.has b t).v t').uses = (g.v t').uses := fun t' => by
    by_cases h : t' = t
    · subst h; simp [Gm.has, Gm.setR, Gm.setH, upd]
    · rw [e t' h]
  have eh : ∀ r : Nat, (g.has b t).holds r = if r = b then (t : Int) else g.holds r := fun r => rfl
  refine ⟨fun r => ?_, fun r => ?_, fun r t' h => ?_, fun t' => ?_, fun t' r h => ?_, fun t' => by rw [es]; exact a.vs t', a.sp.trans (by rw [cS_congr (g := g) (g' := g.has b t) fun t' _ => es t']), fun t' => by rw [eu]; exact a.un t', fun t' h1 h2 h3 => ?_, fun t' h => ?_⟩
  · rw [eh]; split
    · omega
    · exact a.hh r
  · rw [eh]; split
    · omega
    · exact a.hl r
  · rw [eh] at h
    by_cases h1 : r = b
    · rw [if_pos h1] at h
      have : t' = t := by omega
      rw [this, er, h1]
    · rw [if_neg h1] at h
      have h2 := a.hv r t' h
      rw [e t' (fun e => by rw [e] at h2; omega)]; exact h2
  · by_cases h : t' = t
    · rw [h, er]; omega
    · rw [e t' h]; exact a.vr t'
  · by_cases h1 : t' = t
    · rw [h1, er] at h
      have : r = b := by omega
      rw [eh, if_pos this, h1]
    · rw [e t' h1] at h
      have h2 := a.vh t' r h
      rw [eh, if_neg (fun h3 => by rw [h3, hb] at h2; omega)]; exact h2
  · by_cases h : t' = t
    · rw [h, er]; exact .inl (by omega)
    · rw [e t' h]; rw [e t' h] at h3
      exact a.w t' (by
        refine Nat.lt_of_not_le fun hc => h (ho t' hc h1)) h2 h3
  · rw [e t' (by omega)]; exact a.fut t' (by omega)
/-- what has come into registers -/
structure IP (os : List Opr) (R i : Nat) (g0 : Gm) (l rs : List Int) (g : Gm) : Prop where
  gi : GI os R i g
  us : ∀ t, (g.v t).uses = (g0.v t).uses
  len : rs.length = l.length
  at_ : ∀ k, k < l.length → ∃ r : Nat, rs.getD k 0 = r ∧ r < R ∧ g.holds r = l.getD k 0 ∧ g.pin r = true
  pin : ∀ r, g.pin r = true → ∃ k, k < l.length ∧ rs.getD k 0 = (r : Int)
  xs : XS R g0.xs (3 * l.length) g
theorem IP.free {g0 : Gm} {l rs : List Int} (a : IP os R i g0 l rs g) (hl : l.length ≤ 2) (h3 : 3 ≤ R) : ∃ r, r < R ∧ g.pin r = false := by
  refine Classical.byContradiction fun hc => ?_
  have h : ∀ r, r < R → g.pin r = true := fun r hr => by
    cases hp : g.pin r
    · exact absurd ⟨r, hr, hp⟩ hc
    · rfl
  obtain ⟨k0, a0, b0⟩ := a.pin 0 (h 0 (by omega))
  obtain ⟨k1, a1, b1⟩ := a.pin 1 (h 1 (by omega))
  obtain ⟨k2, a2, b2⟩ := a.pin 2 (h 2 (by omega))
  have hk : k0 = k1 ∨ k0 = k2 ∨ k1 = k2 := by omega
  rcases hk with e | e | e
  · rw [e, b1] at b0; exact absurd b0 (by decide)
  · rw [e, b2] at b0; exact absurd b0 (by decide)
  · rw [e, b2] at b1; exact absurd b1 (by decide)
theorem getD_snoc_lt {l : List Int} {x : Int} {k : Nat} (h : k < l.length) : (l ++ [x]).getD k 0 = l.getD k 0 := by rw [getD_snoc, if_neg (by omega)]
theorem IP.step {g0 : Gm} {l rs : List Int} (a : IP os R i g0 l rs g) (hl : l.length ≤ 2) (h3 : 3 ≤ R) (hR : R ≤ 16) (hn : os.length ≤ 2048) (HK : ∀ t, 0 ≤ (opAt os t).kn ∧ (opAt os t).kn < 4294967296) {t : Nat} (hti : t < i) (htn : t < os.length) (hu : (g0.v t).uses ≠ []) :
    InOk os R g t ∧ IP os R i g0 (l ++ [(t : Int)]) (rs ++ [g.inR R t]) (g.inG os R t) := by
  by_cases hr : (g.v t).reg < 0
  · obtain ⟨b, hb, hp, hbs, fok⟩ := a.gi.fok hn hR (a.free hl h3)
    obtain ⟨gf, f1, f2, f3, f4, f5, f6⟩ := a.gi.fre hn hR hbs hb
    have hsp : (opAt os t).k ≠ 1 → 0 ≤ ((g.fre os R).v t).spill ∧ ((g.fre os R).v t).spill < 2048 := fun hk => by
      have h1 := gf.w t hti hk (by rw [f4, a.us]; exact hu)
      have h2 := (f5 t hr).1
      have h3 := gf.vs t
      have h4 := gf.spl hn
      omega
    refine ⟨⟨htn, .inr ⟨hr, ⟨b, fok⟩, fun r _ => a.gi.hh r, hsp⟩⟩, ?_⟩
    have eR : g.inR R t = b := by unfold Gm.inR; rw [if_pos hr, hbs]
    have eG : g.inG os R t = ((g.fre os R).fetch os b t).setP b true := by unfold Gm.inG; rw [if_pos hr, hbs, Int.toNat_natCast]
    rw [eR, eG]
    have hr1 : ((g.fre os R).v t).reg < 0 := by rw [(f5 t hr).1]; exact hr
    have g2 : GI os R i ((g.fre os R).fetch os b t) := by
      unfold Gm.fetch
      exact GI.has (GI.of gf (g' := (g.fre os R).put _) rfl rfl rfl) f1 hb hr1 htn (Nat.le_refl _) hti (fun t' h1 h2 => by omega)
    have ex : XS R g.xs 3 ((g.fre os R).fetch os b t) := by
      unfold Gm.fetch
      have h1 : XS R g.xs (1 + 2) ((g.fre os R).put (if (opAt os t).k = 1 then liC b (opAt os t).kn else ldsC b ((g.fre os R).v t).spill)) := by
        by_cases hk : (opAt os t).k = 1
        · rw [if_pos hk]
          exact f6.put (li_sx (by omega) (by omega) hR (HK t)) (Nat.le_of_eq (li_len _ _))
        · rw [if_neg hk]
          exact f6.put (lds_sx (by omega) (by omega) hR (hsp hk).1 (hsp hk).2) (by rw [lds_len]; decide)
      exact h1.of rfl
    have eh : ∀ r : Nat, (((g.fre os R).fetch os b t).setP b true).holds r = if r = b then (t : Int) else g.holds r := fun r => by
      show (if r = b then (t : Int) else (g.fre os R).holds r) = _
      by_cases h : r = b
      · rw [if_pos h, if_pos h]
      · rw [if_neg h, if_neg h, f2 r h]
    have ep : ∀ r : Nat, (((g.fre os R).fetch os b t).setP b true).pin r = if r = b then true else g.pin r := fun r => by
      show (if r = b then true else (g.fre os R).pin r) = _
      rw [f3]
    refine ⟨g2.of rfl rfl rfl, fun t' => ?_, by simp [a.len], fun k hk => ?_, fun r hp' => ?_, ?_⟩
    · have : ((((g.fre os R).fetch os b t).setP b true).v t').uses = ((g.fre os R).v t').uses := by
        show (((g.fre os R).fetch os b t).v t').uses = _
        by_cases h : t' = t
        · subst h; simp [Gm.fetch, Gm.has, Gm.setR, Gm.setH, Gm.put, upd]
        · simp [Gm.fetch, Gm.has, Gm.setR, Gm.setH, Gm.put, upd, h]
      rw [this, f4, a.us]
    · rw [List.length_append] at hk
      by_cases hk2 : k < l.length
      · obtain ⟨r, h1, h2, h4, h5⟩ := a.at_ k hk2
        have hrb : r ≠ b := fun e => by rw [e, hp] at h5; exact Bool.noConfusion h5
        refine ⟨r, by rw [getD_snoc_lt (by rw [a.len]; exact hk2)]; exact h1, h2, by rw [eh, if_neg hrb, getD_snoc_lt hk2]; exact h4, by rw [ep, if_neg hrb]; exact h5⟩
      · have hke : k = l.length := by simp at hk; omega
        subst hke
        refine ⟨b, by rw [getD_snoc, if_pos a.len.symm], hb, by rw [eh, if_pos rfl, getD_snoc, if_pos rfl], by rw [ep, if_pos rfl]⟩
    · rw [ep] at hp'
      by_cases h : r = b
      · exact ⟨l.length, by simp, by rw [getD_snoc, if_pos a.len.symm, h]⟩
      · rw [if_neg h] at hp'
        obtain ⟨k, h1, h2⟩ := a.pin r hp'
        exact ⟨k, by simp; omega, by rw [getD_snoc_lt (by rw [a.len]; exact h1)]; exact h2⟩
    · rw [List.length_append]
      exact ((a.xs.trans ex).of (g' := ((g.fre os R).fetch os b t).setP b true) rfl).mono (by simp; omega)
  · have hv := a.gi.vr t
    obtain ⟨r, er⟩ : ∃ r : Nat, (g.v t).reg = r := ⟨(g.v t).reg.toNat, by omega⟩
    refine ⟨⟨htn, .inl ⟨r, er, by omega⟩⟩, ?_⟩
    have eR : g.inR R t = r := by unfold Gm.inR; rw [if_neg hr, er]
    have eG : g.inG os R t = g.setP r true := by unfold Gm.inG; rw [if_neg hr, er, Int.toNat_natCast]
    rw [eR, eG]
    have ep : ∀ r' : Nat, (g.setP r true).pin r' = if r' = r then true else g.pin r' := fun r' => rfl
    refine ⟨a.gi.of rfl rfl rfl, a.us, by simp [a.len], fun k hk => ?_, fun r' hp' => ?_, ?_⟩
    · rw [List.length_append] at hk
      by_cases hk2 : k < l.length
      · obtain ⟨r', h1, h2, h4, h5⟩ := a.at_ k hk2
        exact ⟨r', by rw [getD_snoc_lt (by rw [a.len]; exact hk2)]; exact h1, h2, by rw [getD_snoc_lt hk2]; exact h4, by rw [ep]; split <;> simp_all⟩
      · have hke : k = l.length := by simp at hk; omega
        subst hke
        exact ⟨r, by rw [getD_snoc, if_pos a.len.symm], by omega, by rw [getD_snoc, if_pos rfl]; exact a.gi.vh t r er, by rw [ep, if_pos rfl]⟩
    · rw [ep] at hp'
      by_cases h : r' = r
      · exact ⟨l.length, by simp, by rw [getD_snoc, if_pos a.len.symm, h]⟩
      · rw [if_neg h] at hp'
        obtain ⟨k, h1, h2⟩ := a.pin r' hp'
        exact ⟨k, by simp; omega, by rw [getD_snoc_lt (by rw [a.len]; exact h1)]; exact h2⟩
    · rw [List.length_append]
      exact (a.xs.of (g' := g.setP r true) rfl).mono (by simp; omega)
/-- all of them -/
theorem ins_ok {g0 : Gm} {l : List Int} (a : GI os R i g0) (hp : ∀ r, g0.pin r = false) (h3 : 3 ≤ R) (hR : R ≤ 16) (hn : os.length ≤ 2048) (HK : ∀ t, 0 ≤ (opAt os t).kn ∧ (opAt os t).kn < 4294967296) (hl : l.length ≤ 3) (ht : ∀ x ∈ l, ∃ t : Nat, x = t ∧ t < i ∧ t < os.length ∧ (g0.v t).uses ≠ []) :
    ∀ j, j ≤ l.length → IP os R i g0 (l.take j) (Gm.ins os R (l.take j) g0).1 (Gm.ins os R (l.take j) g0).2 ∧ (j < l.length → ∃ t : Nat, l.getD j 0 = t ∧ InOk os R (Gm.ins os R (l.take j) g0).2 t)
  | 0, _ => by
    rw [List.take_zero]
    have h0 : IP os R i g0 [] [] g0 := ⟨a, fun _ => rfl, rfl, fun k hk => absurd hk (by simp), fun r h => by rw [hp] at h; exact Bool.noConfusion h, XS.refl R g0⟩
    refine ⟨h0, fun hj => ?_⟩
    obtain ⟨t, e, h1, h2, h4⟩ := ht (l.getD 0 0) (by rw [List.getD_eq_getElem?_getD, List.getElem?_eq_getElem hj]; exact List.getElem_mem _)
    exact ⟨t, e, (h0.step (by simp) h3 hR hn HK h1 h2 h4).1⟩
  | j + 1, hj => by
    have ih := (ins_ok a hp h3 hR hn HK hl ht j (by omega)).1
    obtain ⟨t, e, h1, h2, h4⟩ := ht (l.getD j 0) (by rw [List.getD_eq_getElem?_getD, List.getElem?_eq_getElem (by omega)]; exact List.getElem_mem _)
    have st := (ih.step (by rw [List.length_take]; omega) h3 hR hn HK h1 h2 h4).2
    have es : Gm.ins os R (l.take (j + 1)) g0 = ((Gm.ins os R (l.take j) g0).1 ++ [(Gm.ins os R (l.take j) g0).2.inR R t], (Gm.ins os R (l.take j) g0).2.inG os R t) := by rw [take_snoc l j (by omega), ins_snoc, e, Int.toNat_natCast]
    have h0 : IP os R i g0 (l.take (j + 1)) (Gm.ins os R (l.take (j + 1)) g0).1 (Gm.ins os R (l.take (j + 1)) g0).2 := by
      rw [es, take_snoc l j (by omega), e]; exact st
    refine ⟨h0, fun hj2 => ?_⟩
    obtain ⟨t', e', k1, k2, k4⟩ := ht (l.getD (j + 1) 0) (by rw [List.getD_eq_getElem?_getD, List.getElem?_eq_getElem hj2]; exact List.getElem_mem _)
    exact ⟨t', e', (h0.step (by rw [List.length_take]; omega) h3 hR hn HK k1 k2 k4).1⟩
end Go.Proofs.Ytcjcmnnhmajocab.Gn
namespace Go.Proofs.Ytcjcmnnhmajocab.Gn
open Go.RowKit Kt Ic Hr Ho Me
set_option linter.unusedVariables false
set_option linter.unusedSimpArgs false
variable {os : List Opr} {R i : Nat} {g : Gm}
/-- the operations from i on that take a value -/
def usF (os : List Opr) (i t : Nat) : List Int := (List.range' i (os.length - i)).flatMap fun j => ((tk (opAt os j)).filter fun x => x == (t : Int)).map fun _ => (j : Int)
theorem usF_step {t : Nat} (h : i < os.length) : usF os i t = (((tk (opAt os i)).filter fun x => x == (t : Int)).map fun _ => (i : Int)) ++ usF os (i + 1) t := by
  unfold usF
  rw [show os.length - i = (os.length - (i + 1)) + 1 by omega, List.range'_succ, List.flatMap_cons]
theorem usF_bd (hn : os.length ≤ 2048) (i t : Nat) : ∀ u ∈ usF os i t, 0 ≤ u ∧ u < 1073741824 := by
  intro u hu
  unfold usF at hu
  obtain ⟨j, hj, hu⟩ := List.mem_flatMap.1 hu
  obtain ⟨x, hx, rfl⟩ := List.mem_map.1 hu
  have := List.mem_range'_1.1 hj
  omega
theorem usF_zero (os : List Opr) (t : Nat) : usT os os.length 0 t = usF os 0 t := by
  unfold usT usF
  rw [List.take_zero, List.filter_nil, List.map_nil, List.append_nil, Nat.sub_zero, List.range_eq_range']
/-- of a state: only uses have changed, and they have become shorter -/
structure Us (os : List Opr) (R i : Nat) (g g' : Gm) : Prop where
  gi : GI os R i g'
  h : g'.holds = g.holds
  xs : g'.xs = g.xs
  rs : ∀ t, (g'.v t).reg = (g.v t).reg ∧ (g'.v t).spill = (g.v t).spill
  sp : g'.sp = g.sp
theorem used_ok (rest : Nat → List Int) : ∀ (l : List Int) (g : Gm), GI os R i g → (∀ x ∈ l, 0 ≤ x) → (∀ t : Nat, (g.v t).uses = (l.filter fun x => x == (t : Int)).map (fun _ => (i : Int)) ++ rest t) → Us os R i g (g.used i l) ∧ ∀ t, ((g.used i l).v t).uses = rest t
  | [], g, a, _, h => ⟨⟨a, rfl, rfl, fun _ => ⟨rfl, rfl⟩, rfl⟩, fun t => by have := h t; rw [show g.used i [] = g from rfl]; simpa using this⟩
  | x :: l, g, a, hx, h => by
    obtain ⟨t0, rfl⟩ := Int.eq_ofNat_of_zero_le (hx x (by simp))
    have h0 : (g.v t0).uses = (i : Int) :: ((l.filter fun x => x == (t0 : Int)).map (fun _ => (i : Int)) ++ rest t0) := by rw [h t0]; simp
    have e : g.use1 i t0 = g.setU t0 ((l.filter fun x => x == (t0 : Int)).map (fun _ => (i : Int)) ++ rest t0) := by
      unfold Gm.use1
      rw [h0, if_pos (by rfl)]
      rfl
    have a2 : GI os R i (g.use1 i t0) := by rw [e]; exact a.setU t0 (fun u hu => by rw [h0]; exact List.mem_cons_of_mem _ hu)
    have h2 : ∀ t : Nat, ((g.use1 i t0).v t).uses = (l.filter fun x => x == (t : Int)).map (fun _ => (i : Int)) ++ rest t := fun t => by
      rw [e]
      by_cases ht : t = t0
      · subst ht; simp [Gm.setU, upd]
      · have hf : ((t0 : Int) == (t : Int)) = false := by simp; omega
        have := h t
        rw [List.filter_cons, hf] at this
        simpa [Gm.setU, upd, ht] using this
    obtain ⟨u, hu⟩ := used_ok rest l (g.use1 i t0) a2 (fun y hy => hx y (List.mem_cons_of_mem _ hy)) h2
    have er : ∀ t, ((g.use1 i t0).v t).reg = (g.v t).reg ∧ ((g.use1 i t0).v t).spill = (g.v t).spill := fun t => by
      rw [e]
      by_cases ht : t = t0
      · subst ht; simp [Gm.setU, upd]
      · simp [Gm.setU, upd, ht]
    have eq : g.used i ((t0 : Int) :: l) = (g.use1 i t0).used i l := by unfold Gm.used; rw [List.foldl_cons, Int.toNat_natCast]
    rw [eq]
    refine ⟨⟨u.gi, u.h.trans (by rw [e]; rfl), u.xs.trans (by rw [e]; rfl), fun t => ⟨(u.rs t).1.trans (er t).1, (u.rs t).2.trans (er t).2⟩, u.sp.trans (by rw [e]; rfl)⟩, hu⟩
/-- values that nobody wants leave -/
theorem clr_ok (a : GI os R i g) : ∀ n, GI os R i (g.clr n) ∧ (g.clr n).pin = g.pin ∧ (∀ t, ((g.clr n).v t).uses = (g.v t).uses) ∧ (∀ t, (g.v t).uses ≠ [] → (g.clr n).v t = g.v t) ∧ (∀ r t : Nat, g.holds r = t → (g.v t).uses ≠ [] → (g.clr n).holds r = t) ∧ (∀ t, (g.v t).reg < 0 → ((g.clr n).v t).reg = (g.v t).reg)
  | 0 => ⟨a, rfl, fun _ => rfl, fun _ _ => rfl, fun _ _ h _ => h, fun _ _ => rfl⟩
  | n + 1 => by
    obtain ⟨b, p, u, v, hh, hr⟩ := clr_ok a n
    by_cases hc : 0 ≤ (g.clr n).holds n ∧ nxt (g.clr n) ((g.clr n).holds n).toNat = 1073741824
    · obtain ⟨h0, h1⟩ := hc
      have hlt := b.hh n
      obtain ⟨t, ht⟩ : ∃ t : Nat, (g.clr n).holds n = t := ⟨((g.clr n).holds n).toNat, by omega⟩
      rw [ht, Int.toNat_natCast] at h1
      rw [clr_yes ht h1]
      have hreg := b.hv n t ht
      have hnil : ((g.clr n).v t).uses = [] := by
        cases hu : ((g.clr n).v t).uses with
        | nil => rfl
        | cons x l =>
          have hx := b.un t x (by rw [hu]; simp)
          unfold nxt at h1
          rw [hu] at h1
          have h1' : x = 1073741824 := h1
          omega
      generalize g.clr n = g1 at *
      have ev : ∀ t', t' ≠ t → ((g1.setH n (-1)).setR t (-1)).v t' = g1.v t' := fun t' h => by simp [Gm.setR, Gm.setH, upd, h]
      have et : ((g1.setH n (-1)).setR t (-1)).v t = { g1.v t with reg := -1 } := by simp [Gm.setR, Gm.setH, upd]
      have eu : ∀ t', (((g1.setH n (-1)).setR t (-1)).v t').uses = (g1.v t').uses := fun t' => by
        by_cases h : t' = t
        · rw [h, et]
        · rw [ev t' h]
      have es : ∀ t', (((g1.setH n (-1)).setR t (-1)).v t').spill = (g1.v t').spill := fun t' => by
        by_cases h : t' = t
        · rw [h, et]
        · rw [ev t' h]
      have eh : ∀ r : Nat, ((g1.setH n (-1)).setR t (-1)).holds r = if r = n then -1 else g1.holds r := fun r => rfl
      have hi : t < i := Nat.lt_of_not_le fun h => by have := (b.fut t h).1; omega
      refine ⟨⟨fun r => ?_, fun r => ?_, fun r t' h => ?_, fun t' => ?_, fun t' r h => ?_, fun t' => by rw [es]; exact b.vs t', b.sp.trans (by rw [cS_congr (g := g1) (g' := (g1.setH n (-1)).setR t (-1)) fun t' _ => es t']), fun t' => by rw [eu]; exact b.un t', fun t' k1 k2 k3 => ?_, fun t' k => ?_⟩, p, fun t' => by rw [eu]; exact u t', fun t' k => ?_, fun r t' k1 k2 => ?_, fun t' k => ?_⟩
      · rw [eh]; split
        · omega
        · exact b.hh r
      · rw [eh]; split
        · omega
        · exact b.hl r
      · rw [eh] at h
        by_cases e : r = n
        · rw [if_pos e] at h; omega
        · rw [if_neg e] at h
          have h2 := b.hv r t' h
          rw [ev t' (fun e' => by rw [e', hreg] at h2; omega)]; exact h2
      · by_cases e : t' = t
        · rw [e, et]; have := b.vr t; show -1 ≤ (-1 : Int) ∧ (-1 : Int) < R; omega
        · rw [ev t' e]; exact b.vr t'
      · by_cases e : t' = t
        · rw [e, et] at h; have h' : (-1 : Int) = r := h; omega
        · rw [ev t' e] at h
          have h2 := b.vh t' r h
          rw [eh, if_neg (fun e' => by rw [e', ht] at h2; omega)]; exact h2
      · by_cases e : t' = t
        · rw [eu, e] at k3; exact absurd hnil k3
        · rw [ev t' e]; rw [ev t' e] at k3; exact b.w t' k1 k2 k3
      · rw [ev t' (by omega)]; exact b.fut t' k
      · have e : t' ≠ t := fun e => by rw [← u t', e] at k; exact k hnil
        rw [ev t' e]; exact v t' k
      · have h2 := hh r t' k1 k2
        rw [eh, if_neg (fun e' => ?_)]
        · exact h2
        · rw [e', ht] at h2
          have : t' = t := by omega
          rw [← u t', this] at k2; exact k2 hnil
      · by_cases e : t' = t
        · rw [e, et]
          have h2 := hr t' k
          rw [e] at h2
          rw [e] at k
          omega
        · rw [ev t' e]; exact hr t' k
    · rw [clr_no hc]; exact ⟨b, p, u, v, hh, hr⟩
theorem emp_some {d : Nat} : ∀ (n r : Nat), emp g r n = some d → r ≤ d ∧ d < r + n ∧ g.holds d < 0
  | 0, r, h => nomatch h
  | n + 1, r, h => by
    by_cases e : g.holds r < 0
    · rw [emp_yes e] at h
      obtain rfl := Option.some.inj h
      exact ⟨Nat.le_refl _, by omega, e⟩
    · rw [emp_no e] at h
      have := emp_some n (r + 1) h
      omega
/-- a place for what an operation gives -/
theorem place_ok (a : GI os R i g) (hn : os.length ≤ 2048) (h3 : 3 ≤ R) (hR : R ≤ 16) (hp : ∀ r, g.pin r = false) : ∃ d : Nat, g.plR R = d ∧ d < R ∧ GI os R i (g.plG os R) ∧ (g.plG os R).holds d = -1 ∧ (∀ t, ((g.plG os R).v t).uses = (g.v t).uses) ∧ (∀ t, (g.v t).reg < 0 → ((g.plG os R).v t).reg < 0) ∧ XS R g.xs 1 (g.plG os R) ∧ (emp (g.clr R) 0 R = none → ∃ b, FOk os R (g.clr R) b) := by
  obtain ⟨b, p, u, v, hh, hr⟩ := clr_ok a R
  have hp2 : ∃ r, r < R ∧ (g.clr R).pin r = false := ⟨0, by omega, by rw [p]; exact hp 0⟩
  obtain ⟨f, f1, f2, f3, f4⟩ := b.fok hn hR hp2
  have xc : XS R g.xs 0 (g.clr R) := (XS.refl R g).of (clr_xs g R)
  unfold Gm.plR Gm.plG
  cases he : emp (g.clr R) 0 R with
  | some d =>
    obtain ⟨_, e1, e2⟩ := emp_some R 0 he
    have := b.hl d
    exact ⟨d, rfl, by omega, b, by show (g.clr R).holds d = -1; omega, u, fun t ht => by rw [hr t ht]; exact ht, xc.mono (by omega), fun h => nomatch h⟩
  | none =>
    obtain ⟨k1, k2, k3, k4, k5, k6, k7⟩ := b.fre hn hR f3 f1
    refine ⟨f, f3, f1, k1, k2, fun t => by rw [k5]; exact u t, fun t ht => ?_, ?_, fun _ => ⟨f, f4⟩⟩
    · have h2 : ((g.clr R).v t).reg < 0 := by rw [hr t ht]; exact ht
      rw [(k6 t h2).1]; exact h2
    · exact (xc.trans k7).mono (by omega)
end Go.Proofs.Ytcjcmnnhmajocab.Gn
namespace Go.Proofs.Ytcjcmnnhmajocab.Gn
open Go.RowKit Kt Ic Hr Ho Me
set_option linter.unusedVariables false
set_option linter.unusedSimpArgs false
variable {os : List Opr} {R i : Nat} {g : Gm}
/-- registers of what was taken -/
structure Rg3 (R : Nat) (o : Opr) (r : List Int) : Prop where
  bd : ∀ k, 0 ≤ r.getD k 0 ∧ r.getD k 0 < R
  z : ∀ k, (tk o).length ≤ k → r.getD k 0 = 0
theorem cls_bin {w : Int} (h0 : 0 ≤ w) (h1 : w < 16) : fcls (16 + w) = 1 := by unfold fcls; rw [if_pos (by omega)]
theorem cls_un {w : Int} (h0 : 0 ≤ w) (h1 : w < 7) : fcls (32 + w) = 2 := by unfold fcls; rw [if_neg (by omega), if_pos (by omega)]
theorem cls_flg {w : Int} (h0 : 0 ≤ w) (h1 : w < 13) : fcls (48 + w) = 3 := by unfold fcls; rw [if_neg (by omega), if_neg (by omega), if_pos (by omega)]
theorem cls_cnd {w : Int} (h0 : 0 ≤ w) (h1 : w < 16) : fcls (64 + w) = 2 := by unfold fcls; rw [if_neg (by omega), if_pos (by omega)]
theorem cls_ld {w : Int} (h0 : 0 ≤ w) (h1 : w < 5) : fcls (80 + w) = 4 := by unfold fcls; rw [if_neg (by omega), if_neg (by omega), if_neg (by omega), if_pos (by omega)]
theorem cls_st {w : Int} (h0 : 0 ≤ w) (h1 : w < 3) : fcls (88 + w) = 4 := by unfold fcls; rw [if_neg (by omega), if_neg (by omega), if_neg (by omega), if_pos (by omega)]
theorem sx_mk {o d a b c n k x : Int} {q : Nat} (hq : fcls o = q) (q0 : q ≠ 0) (h0 : 0 ≤ o ∧ o < 256) (h1 : o ≠ 1 ∧ o ≠ 15 ∧ o ≠ 96) (he : EOK q o d a b c n k x) (hd : o = 12 ∨ o = 13 ∨ d < R) (ha : a < R) (hb : b < R) (hc : c < R) (hk : 0 ≤ k ∧ k < 4294967296) (hx : 0 ≤ x ∧ x < 4294967296) : SX R ⟨o, d, a, b, c, n, k, x⟩ :=
  ⟨⟨h0, by show fcls o ≠ 0; rw [hq]; exact q0, by show EOK (fcls o) o d a b c n k x; rw [hq]; exact he⟩, h1, hd, ha, hb, hc, hk, hx⟩
theorem gvC_sx {cnt : Int} {o : Opr} {r : List Int} {d : Nat} (c : OpC os cnt i o) (hc : cnt ≤ 64) (hkn : 0 ≤ o.kn ∧ o.kn < 4294967296) (hg : gv o.k = true) (h1 : o.k ≠ 1) (h : Rg3 R o r) (hd : d < R) (hR : R ≤ 16) : SX R (gvC o d (r.getD 0 0) (r.getD 1 0) (r.getD 2 0)) := by
  obtain ⟨k, w, a, b, cc, kn, n⟩ := o
  obtain ⟨bd, z⟩ := h
  have cw := c.w
  have cn := c.n
  dsimp only at cw cn h1 hg hkn
  unfold gv at hg
  rw [decide_eq_true_eq] at hg
  have b0 := bd 0
  have b1 := bd 1
  have b2 := bd 2
  have hw0 := cw.1
  have hk : k = 2 ∨ k = 17 ∨ k = 4 ∨ k = 5 ∨ k = 6 ∨ k = 7 ∨ k = 8 ∨ k = 9 := by clear cw cn; omega
  clear c bd hg h1
  rcases hk with rfl | rfl | rfl | rfl | rfl | rfl | rfl | rfl
  · show SX R ⟨6, d, (r.getD 0 0), (r.getD 1 0), (r.getD 2 0), w, 0, 0⟩
    have hw : w < 12 := cw.2.1 (.inl rfl)
    have e0 : r.getD 0 0 = 0 := z 0 (show (0 : Nat) ≤ 0 by decide)
    have e1 : r.getD 1 0 = 0 := z 1 (show (0 : Nat) ≤ 1 by decide)
    have e2 : r.getD 2 0 = 0 := z 2 (show (0 : Nat) ≤ 2 by decide)
    have cwx := cw.1
    clear z
    exact sx_mk (q := 10) (by decide) (by decide) ⟨by decide, by decide⟩ ⟨by decide, by decide, by decide⟩ ((eok_10 _ _ _ _ _ _ _ _).2 ⟨⟨by omega, by omega⟩, e0, e1, e2, ⟨cwx, hw⟩, rfl, rfl⟩) (.inr (.inr (by omega))) b0.2 b1.2 b2.2 z32 z32
  · show SX R ⟨97, d, (r.getD 0 0), (r.getD 1 0), (r.getD 2 0), 0, 0, 0⟩
    have e0 : r.getD 0 0 = 0 := z 0 (show (0 : Nat) ≤ 0 by decide)
    have e1 : r.getD 1 0 = 0 := z 1 (show (0 : Nat) ≤ 1 by decide)
    have e2 : r.getD 2 0 = 0 := z 2 (show (0 : Nat) ≤ 2 by decide)
    have cw1 := cw.1
    clear cw z
    exact sx_mk (q := 5) (by decide) (by decide) ⟨by decide, by decide⟩ ⟨by decide, by decide, by decide⟩ ((eok_5 _ _ _ _ _ _ _ _).2 ⟨⟨by omega, by omega⟩, e0, e1, e2, rfl, rfl, rfl⟩) (.inr (.inr (by omega))) b0.2 b1.2 b2.2 z32 z32
  · show SX R ⟨16 + w, d, (r.getD 0 0), (r.getD 1 0), (r.getD 2 0), 0, 0, 0⟩
    have hw : w < 16 := cw.2.2.1 (.inl rfl)
    have e2 : r.getD 2 0 = 0 := z 2 (show (2 : Nat) ≤ 2 by decide)
    have cw1 := cw.1
    clear cw z
    exact sx_mk (cls_bin hw0 hw) (by decide) ⟨by omega, by omega⟩ ⟨by omega, by omega, by omega⟩ ((eok_1 _ _ _ _ _ _ _ _).2 ⟨⟨by omega, by omega⟩, ⟨b0.1, by omega⟩, ⟨b1.1, by omega⟩, e2, rfl, rfl, rfl⟩) (.inr (.inr (by omega))) b0.2 b1.2 b2.2 z32 z32
  · show SX R ⟨32 + w, d, (r.getD 0 0), (r.getD 1 0), (r.getD 2 0), 0, 0, 0⟩
    have hw : w < 7 := cw.2.2.2.1 rfl
    have e1 : r.getD 1 0 = 0 := z 1 (show (1 : Nat) ≤ 1 by decide)
    have e2 : r.getD 2 0 = 0 := z 2 (show (1 : Nat) ≤ 2 by decide)
    have cw1 := cw.1
    clear cw z
    exact sx_mk (cls_un hw0 hw) (by decide) ⟨by omega, by omega⟩ ⟨by omega, by omega, by omega⟩ ((eok_2 _ _ _ _ _ _ _ _).2 ⟨⟨by omega, by omega⟩, ⟨b0.1, by omega⟩, e1, e2, rfl, rfl, rfl⟩) (.inr (.inr (by omega))) b0.2 b1.2 b2.2 z32 z32
  · show SX R ⟨5, d, (r.getD 0 0), (r.getD 1 0), (r.getD 2 0), 0, 0, 0⟩
    have cw1 := cw.1
    clear cw z
    exact sx_mk (q := 3) (by decide) (by decide) ⟨by decide, by decide⟩ ⟨by decide, by decide, by decide⟩ ((eok_3 _ _ _ _ _ _ _ _).2 ⟨⟨by omega, by omega⟩, ⟨b0.1, by omega⟩, ⟨b1.1, by omega⟩, ⟨b2.1, by omega⟩, rfl, rfl, rfl⟩) (.inr (.inr (by omega))) b0.2 b1.2 b2.2 z32 z32
  · show SX R ⟨48 + w, d, (r.getD 0 0), (r.getD 1 0), (r.getD 2 0), 0, 0, 0⟩
    have hw : w < 13 := cw.2.2.2.2.1 rfl
    have cw1 := cw.1
    clear cw z
    exact sx_mk (cls_flg hw0 hw) (by decide) ⟨by omega, by omega⟩ ⟨by omega, by omega, by omega⟩ ((eok_3 _ _ _ _ _ _ _ _).2 ⟨⟨by omega, by omega⟩, ⟨b0.1, by omega⟩, ⟨b1.1, by omega⟩, ⟨b2.1, by omega⟩, rfl, rfl, rfl⟩) (.inr (.inr (by omega))) b0.2 b1.2 b2.2 z32 z32
  · show SX R ⟨64 + w, d, (r.getD 0 0), (r.getD 1 0), (r.getD 2 0), 0, 0, 0⟩
    have hw : w < 16 := cw.2.2.1 (.inr rfl)
    have e1 : r.getD 1 0 = 0 := z 1 (show (1 : Nat) ≤ 1 by decide)
    have e2 : r.getD 2 0 = 0 := z 2 (show (1 : Nat) ≤ 2 by decide)
    have cw1 := cw.1
    clear cw z
    exact sx_mk (cls_cnd hw0 hw) (by decide) ⟨by omega, by omega⟩ ⟨by omega, by omega, by omega⟩ ((eok_2 _ _ _ _ _ _ _ _).2 ⟨⟨by omega, by omega⟩, ⟨b0.1, by omega⟩, e1, e2, rfl, rfl, rfl⟩) (.inr (.inr (by omega))) b0.2 b1.2 b2.2 z32 z32
  · show SX R ⟨80 + w, d, (r.getD 0 0), (r.getD 1 0), (r.getD 2 0), n, kn, 0⟩
    have hw : w < 5 := cw.2.2.2.2.2.1 rfl
    have e1 : r.getD 1 0 = 0 := z 1 (show (1 : Nat) ≤ 1 by decide)
    have e2 : r.getD 2 0 = 0 := z 2 (show (1 : Nat) ≤ 2 by decide)
    have cw1 := cw.1
    clear cw z
    exact sx_mk (cls_ld hw0 hw) (by decide) ⟨by omega, by omega⟩ ⟨by omega, by omega, by omega⟩ ((eok_4 _ _ _ _ _ _ _ _).2 ⟨⟨by omega, by omega⟩, ⟨b0.1, by omega⟩, e1, e2, ⟨cn.1, by have := cn.2.1; omega⟩, rfl⟩) (.inr (.inr (by omega))) b0.2 b1.2 b2.2 hkn z32
theorem noC_sx {cnt : Int} {o : Opr} {r : List Int} (c : OpC os cnt i o) (hc : cnt ≤ 64) (hkn : 0 ≤ o.kn ∧ o.kn < 4294967296) (hg : gv o.k = false) (h : Rg3 R o r) (h3 : 3 ≤ R) (hR : R ≤ 16) : SX R (noC o (r.getD 0 0) (r.getD 1 0)) := by
  obtain ⟨k, w, a, b, cc, kn, n⟩ := o
  obtain ⟨bd, z⟩ := h
  have cw := c.w
  have cn := c.n
  have ck := c.k
  have ckn := c.kn
  dsimp only at cw cn hg ck ckn hkn
  have hq := hkn
  unfold gv at hg
  rw [decide_eq_false_iff_not] at hg
  have b0 := bd 0
  have b1 := bd 1
  have hw0 := cw.1
  have n0 : 0 ≤ n ∧ n < 65 := ⟨cn.1, by have := cn.2.1; clear cw ckn; omega⟩
  have r0 : (0 : Int) < R := by clear cw ckn cn; omega
  have hk : k = 3 ∨ k = 10 ∨ k = 11 ∨ k = 12 ∨ k = 13 ∨ k = 14 ∨ k = 15 ∨ k = 16 := by clear cw cn ckn; omega
  clear c bd hg ck cn
  rcases hk with rfl | rfl | rfl | rfl | rfl | rfl | rfl | rfl
  · show SX R ⟨7, 0, (r.getD 0 0), 0, 0, w, kn, 0⟩
    have hw : w < 12 := cw.2.1 (.inr rfl)
    have hkn : kn = 0 := ckn (.inl ⟨by decide, by decide⟩)
    clear cw z ckn
    exact sx_mk (q := 11) (by decide) (by decide) ⟨by decide, by decide⟩ ⟨by decide, by decide, by decide⟩ ((eok_11 _ _ _ _ _ _ _ _).2 ⟨rfl, ⟨b0.1, by omega⟩, rfl, rfl, ⟨hw0, hw⟩, hkn, rfl⟩) (.inr (.inr r0)) b0.2 r0 r0 hq z32
  · show SX R ⟨88 + w, (r.getD 1 0), (r.getD 0 0), 0, 0, n, kn, 0⟩
    have hw : w < 3 := cw.2.2.2.2.2.2.1 rfl
    clear cw z ckn
    exact sx_mk (cls_st hw0 hw) (by decide) ⟨by omega, by omega⟩ ⟨by omega, by omega, by omega⟩ ((eok_4 _ _ _ _ _ _ _ _).2 ⟨⟨b1.1, by omega⟩, ⟨b0.1, by omega⟩, rfl, rfl, n0, rfl⟩) (.inr (.inr b1.2)) b0.2 r0 r0 hq z32
  · show SX R ⟨10, 0, (r.getD 0 0), 0, 0, n, kn, 0⟩
    have e0 : r.getD 0 0 = 0 := z 0 (show (0 : Nat) ≤ 0 by decide)
    clear cw z ckn
    exact sx_mk (q := 7) (by decide) (by decide) ⟨by decide, by decide⟩ ⟨by decide, by decide, by decide⟩ ((eok_7 _ _ _ _ _ _ _ _).2 ⟨rfl, e0, rfl, rfl, n0, rfl⟩) (.inr (.inr r0)) b0.2 r0 r0 hq z32
  · show SX R ⟨11, 0, (r.getD 0 0), 0, 0, n, kn, 0⟩
    clear cw z ckn
    exact sx_mk (q := 6) (by decide) (by decide) ⟨by decide, by decide⟩ ⟨by decide, by decide, by decide⟩ ((eok_6 _ _ _ _ _ _ _ _).2 ⟨rfl, ⟨b0.1, by omega⟩, rfl, rfl, n0, rfl⟩) (.inr (.inr r0)) b0.2 r0 r0 hq z32
  · show SX R ⟨13, w, (r.getD 0 0), 0, 0, n, kn, 0⟩
    have hw : 1 ≤ w ∧ w < 8 := cw.2.2.2.2.2.2.2.1 (.inl rfl)
    clear cw z ckn
    exact sx_mk (q := 15) (by decide) (by decide) ⟨by decide, by decide⟩ ⟨by decide, by decide, by decide⟩ ((eok_15 _ _ _ _ _ _ _ _).2 ⟨⟨by omega, by omega⟩, ⟨b0.1, by omega⟩, rfl, rfl, n0, rfl, ⟨hw.1, by omega⟩⟩) (.inr (.inl rfl)) b0.2 r0 r0 hq z32
  · show SX R ⟨12, w, (r.getD 0 0), 0, 0, n, kn, b % 4294967296⟩
    have hw : 1 ≤ w ∧ w < 8 := cw.2.2.2.2.2.2.2.1 (.inr rfl)
    have e0 : r.getD 0 0 = 0 := z 0 (show (0 : Nat) ≤ 0 by decide)
    clear cw z ckn
    exact sx_mk (q := 14) (by decide) (by decide) ⟨by decide, by decide⟩ ⟨by decide, by decide, by decide⟩ ((eok_14 _ _ _ _ _ _ _ _).2 ⟨⟨by omega, by omega⟩, e0, rfl, rfl, n0, ⟨hw.1, by omega⟩⟩) (.inl rfl) b0.2 r0 r0 hq ⟨by omega, by omega⟩
  · show SX R ⟨14, 0, (r.getD 0 0), 0, 0, n, kn, 0⟩
    have e0 : r.getD 0 0 = 0 := z 0 (show (0 : Nat) ≤ 0 by decide)
    clear cw z ckn
    exact sx_mk (q := 7) (by decide) (by decide) ⟨by decide, by decide⟩ ⟨by decide, by decide, by decide⟩ ((eok_7 _ _ _ _ _ _ _ _).2 ⟨rfl, e0, rfl, rfl, n0, rfl⟩) (.inr (.inr r0)) b0.2 r0 r0 hq z32
  · show SX R ⟨4, 0, (r.getD 0 0), 0, 0, n, kn, 0⟩
    have hkn : kn = 0 := ckn (.inr (.inl rfl))
    clear cw z ckn
    exact sx_mk (q := 9) (by decide) (by decide) ⟨by decide, by decide⟩ ⟨by decide, by decide, by decide⟩ ((eok_9 _ _ _ _ _ _ _ _).2 ⟨rfl, ⟨b0.1, by omega⟩, rfl, rfl, n0, hkn, rfl⟩) (.inr (.inr r0)) b0.2 r0 r0 hq z32
end Go.Proofs.Ytcjcmnnhmajocab.Gn
namespace Go.Proofs.Ytcjcmnnhmajocab.Gn
open Go.RowKit Kt Ic Hr Ho Me
set_option linter.unusedVariables false
set_option linter.unusedSimpArgs false
variable {os : List Opr} {R i : Nat} {g : Gm}
theorem GI.next (a : GI os R i g) (h : (opAt os i).k = 1 ∨ (g.v i).uses = []) : GI os R (i + 1) g :=
  ⟨a.hh, a.hl, a.hv, a.vr, a.vh, a.vs, a.sp, a.un, fun t h1 h2 h3 => by
    by_cases e : t = i
    · subst e
      rcases h with h | h
      · exact absurd h h2
      · exact absurd h h3
    · exact a.w t (by omega) h2 h3, fun t ht => a.fut t (by omega)⟩
theorem take_uses {l : List Int} {rest : List Int} {t : Nat} (h : (t : Int) ∈ l) : ((l.filter fun x => x == (t : Int)).map fun _ => (i : Int)) ++ rest ≠ [] := by
  have : (t : Int) ∈ l.filter fun x => x == (t : Int) := List.mem_filter.2 ⟨h, by simp⟩
  cases hf : l.filter fun x => x == (t : Int) with
  | nil => rw [hf] at this; exact absurd this (by simp)
  | cons x l => simp
theorem usF_no {cnt : Int} (HC : ∀ j, j < os.length → OpC os cnt j (opAt os j)) (hg : gv (opAt os i).k = false) (m : Nat) : usF os m i = [] := by
  unfold usF
  rw [List.flatMap_eq_nil_iff]
  intro j hj
  rw [List.map_eq_nil_iff, List.filter_eq_nil_iff]
  intro x hx he
  have hj2 := List.mem_range'_1.1 hj
  obtain ⟨h1, h2, h3⟩ := (HC j (by omega)).t x hx
  have hxi : x = (i : Int) := by simpa using he
  rw [hxi, Int.toNat_natCast, kind_op, hg] at h3
  exact Bool.noConfusion h3
/-- what is known ahead of operation i -/
structure At (os : List Opr) (R i : Nat) (g : Gm) : Prop where
  gi : GI os R i g
  us : ∀ t, (g.v t).uses = usF os i t
theorem one_ok {cnt : Int} (HC : ∀ j, j < os.length → OpC os cnt j (opAt os j)) (hc : cnt ≤ 64) (h3 : 3 ≤ R) (hR : R ≤ 16) (hn : os.length ≤ 2048) (HK : ∀ t, 0 ≤ (opAt os t).kn ∧ (opAt os t).kn < 4294967296) (hi : i < os.length) (a : At os R i g) (hw : (wds g.xs).length ≤ 900000) :
    OneOk os R g i (opAt os i) ∧ At os R (i + 1) (g.one os R i (opAt os i)) ∧ XS R g.xs 13 (g.one os R i (opAt os i)) := by
  have C := HC i hi
  obtain ⟨o, ho⟩ : ∃ o, opAt os i = o := ⟨_, rfl⟩
  have g0 : GI os R i g.unpin := a.gi.of rfl rfl rfl
  have u0 : ∀ t, (g.unpin.v t).uses = usF os i t := a.us
  have hl := tk_len o
  have ht : ∀ x ∈ tk o, ∃ t : Nat, x = t ∧ t < i ∧ t < os.length ∧ (g.unpin.v t).uses ≠ [] := fun x hx => by
    obtain ⟨h1, h2, _⟩ := C.t x (by rw [ho]; exact hx)
    obtain ⟨t, rfl⟩ := Int.eq_ofNat_of_zero_le h1
    refine ⟨t, rfl, by omega, by omega, ?_⟩
    rw [u0, usF_step hi, ho]
    exact take_uses hx
  have I := ins_ok g0 (fun _ => rfl) h3 hR hn HK hl ht
  have IL := (I (tk o).length (Nat.le_refl _)).1
  rw [List.take_length] at IL
  have U := used_ok (i := i) (usF os (i + 1)) (tk o) (Gm.ins os R (tk o) g.unpin).2 IL.gi (fun x hx => by obtain ⟨t, e, _⟩ := ht x hx; omega) (fun t => by rw [IL.us, u0, usF_step hi, ho])
  obtain ⟨U, uu⟩ := U
  have rg : Rg3 R o (Gm.ins os R (tk o) g.unpin).1 := by
    refine ⟨fun k => ?_, fun k hk => ?_⟩
    · by_cases hk : k < (tk o).length
      · obtain ⟨r, e, h1, _⟩ := IL.at_ k hk
        rw [e]; omega
      · rw [List.getD_eq_getElem?_getD, List.getElem?_eq_none (by rw [IL.len]; omega)]
        show (0 : Int) ≤ 0 ∧ (0 : Int) < R
        omega
    · rw [List.getD_eq_getElem?_getD, List.getElem?_eq_none (by rw [IL.len]; omega)]; rfl
  have xi : XS R g.xs 9 ((Gm.ins os R (tk o) g.unpin).2.used i (tk o)) := (IL.xs.of U.xs).mono (by omega)
  have hwn : ∀ j, j ≤ (tk o).length → (wds (Gm.ins os R ((tk o).take j) g.unpin).2.xs).length ≤ 999000 := fun j hj => by
    obtain ⟨_, _, _, k3⟩ := (I j hj).1.xs
    have : (wds g.unpin.xs).length ≤ 900000 := hw
    have h5 : ((tk o).take j).length ≤ 3 := by rw [List.length_take]; omega
    omega
  have fu := (U.gi.fut i (Nat.le_refl _)).1
  have hkn := HK i
  rw [ho] at C hkn ⊢
  have hwb := C.w16
  by_cases hg : gv o.k = true
  · by_cases hk : o.k = 1
    · have eo : g.one os R i o = (Gm.ins os R (tk o) g.unpin).2.used i (tk o) := by
        unfold Gm.one
        dsimp only
        rw [if_pos hg]
        unfold Gm.give
        rw [if_pos hk]
      refine ⟨⟨fun j hj => (I j (by omega)).2 hj, hwn, C.w.1, hwb, fun _ h => absurd hk h, fun h => by rw [hg] at h; exact Bool.noConfusion h⟩, ?_, ?_⟩
      · rw [eo]; exact ⟨U.gi.next (.inl (by rw [ho]; exact hk)), uu⟩
      · rw [eo]; exact xi.mono (by omega)
    · have P := place_ok (g := ((Gm.ins os R (tk o) g.unpin).2.used i (tk o)).unpin) (U.gi.of rfl rfl rfl) hn h3 hR (fun _ => rfl)
      obtain ⟨d, p1, p2, p3, p4, p5, p6, p7, p8⟩ := P
      have sx := gvC_sx C hc hkn hg hk rg p2 hR
      have eo : g.one os R i o = (((((Gm.ins os R (tk o) g.unpin).2.used i (tk o)).unpin.plG os R).put (gvC o d ((Gm.ins os R (tk o) g.unpin).1.getD 0 0) ((Gm.ins os R (tk o) g.unpin).1.getD 1 0) ((Gm.ins os R (tk o) g.unpin).1.getD 2 0))).has d i) := by
        unfold Gm.one
        dsimp only
        rw [if_pos hg]
        unfold Gm.give
        rw [if_neg hk, p1, Int.toNat_natCast]
      refine ⟨⟨fun j hj => (I j (by omega)).2 hj, hwn, C.w.1, hwb, fun _ _ => ⟨d, fun r _ => U.gi.hh r, p8, p1, by omega, sx.ok⟩, fun h => by rw [hg] at h; exact Bool.noConfusion h⟩, ?_, ?_⟩
      · rw [eo]
        refine ⟨GI.has (GI.of p3 (g' := Gm.put _ _) rfl rfl rfl) p4 p2 (p6 i (by rw [show ((((Gm.ins os R (tk o) g.unpin).2.used i (tk o)).unpin).v i).reg = (((Gm.ins os R (tk o) g.unpin).2.used i (tk o)).v i).reg from rfl, fu]; decide)) hi (by omega) (by omega) (fun t' h1 h2 => by omega), fun t => ?_⟩
        have e : ∀ (g : Gm) (d i t : Nat), ((g.has d i).v t).uses = (g.v t).uses := fun g d i t => by
          by_cases h : t = i
          · subst h; simp [Gm.has, Gm.setR, Gm.setH, upd]
          · simp [Gm.has, Gm.setR, Gm.setH, upd, h]
        rw [e]
        exact (p5 t).trans (uu t)
      · rw [eo]
        have x1 : XS R g.xs (9 + 1) (((Gm.ins os R (tk o) g.unpin).2.used i (tk o)).unpin.plG os R) := xi.trans p7
        exact (x1.put sx (encW_le _)).of rfl
  · have hg' : gv o.k = false := by simpa using hg
    have sx := noC_sx C hc hkn hg' rg h3 hR
    have eo : g.one os R i o = ((Gm.ins os R (tk o) g.unpin).2.used i (tk o)).put (noC o ((Gm.ins os R (tk o) g.unpin).1.getD 0 0) ((Gm.ins os R (tk o) g.unpin).1.getD 1 0)) := by
      unfold Gm.one
      dsimp only
      rw [if_neg hg]
    refine ⟨⟨fun j hj => (I j (by omega)).2 hj, hwn, C.w.1, hwb, fun h => absurd h hg, fun _ => sx.ok⟩, ?_, ?_⟩
    · rw [eo]
      refine ⟨GI.of (U.gi.next (.inr ?_)) (g' := Gm.put _ _) rfl rfl rfl, uu⟩
      rw [uu]
      exact usF_no HC (by rw [ho]; exact hg') (i + 1)
    · rw [eo]
      exact (xi.put sx (encW_le _)).mono (by omega)
theorem gm0_at (hn : os.length ≤ 2048) (h3 : 3 ≤ R) (pc cnt : Int) : At os R 0 (gm0 os pc cnt) := by
  have e : cS (gm0 os pc cnt) os.length = 0 := by
    have : ∀ n, cS (gm0 os pc cnt) n = 0 := fun n => by
      induction n with
      | zero => rfl
      | succ n ih => rw [cS, ih]; rfl
    exact this _
  refine ⟨⟨fun r => ?_, fun r => ?_, fun r t h => ?_, fun t => ?_, fun t r h => ?_, fun t => ?_, by rw [e]; rfl, fun t u hu => ?_, fun t h => absurd h (by omega), fun t _ => ⟨rfl, rfl⟩⟩, fun t => usF_zero os t⟩
  · show (-1 : Int) < os.length; omega
  · show (-1 : Int) ≤ -1; decide
  · have h' : (-1 : Int) = t := h
    omega
  · show (-1 : Int) ≤ -1 ∧ (-1 : Int) < R; omega
  · have h' : (-1 : Int) = r := h
    omega
  · show (-1 : Int) ≤ -1 ∧ (-1 : Int) < 0; decide
  · have hu' : u ∈ usT os os.length 0 t := hu
    rw [usF_zero] at hu'
    exact usF_bd hn 0 t u hu'
/-- all of them -/
theorem all_ok {cnt : Int} (HC : ∀ j, j < os.length → OpC os cnt j (opAt os j)) (hc0 : 0 ≤ cnt) (hc : cnt ≤ 64) (h3 : 3 ≤ R) (hR : R ≤ 16) (hn : os.length ≤ 2048) (HK : ∀ t, 0 ≤ (opAt os t).kn ∧ (opAt os t).kn < 4294967296) (pc : Int) : ∀ i, i ≤ os.length →
    At os R i (Gm.all os R (gm0 os pc cnt) i) ∧ XS R [⟨1, 0, 0, 0, 0, cnt, pc, 0⟩] (13 * i) (Gm.all os R (gm0 os pc cnt) i) ∧ (i < os.length → OneOk os R (Gm.all os R (gm0 os pc cnt) i) i (opAt os i))
  | 0, _ => by
    have a := gm0_at (R := R) hn h3 pc cnt
    have x : XS R [⟨1, 0, 0, 0, 0, cnt, pc, 0⟩] (13 * 0) (gm0 os pc cnt) := (XS.refl R (gm0 os pc cnt)).mono (Nat.zero_le _)
    have hw : (wds (gm0 os pc cnt).xs).length ≤ 900000 := by
      show (wds [⟨1, 0, 0, 0, 0, cnt, pc, 0⟩]).length ≤ 900000
      have := encW_le ⟨1, 0, 0, 0, 0, cnt, pc, 0⟩
      unfold wds; simp; omega
    exact ⟨a, x, fun hi => (one_ok HC hc h3 hR hn HK hi a hw).1⟩
  | i + 1, hi => by
    obtain ⟨a, x, _⟩ := all_ok HC hc0 hc h3 hR hn HK pc i (by omega)
    have w1 : (wds [(⟨1, 0, 0, 0, 0, cnt, pc, 0⟩ : Cd)]).length ≤ 3 := by
      have := encW_le ⟨1, 0, 0, 0, 0, cnt, pc, 0⟩
      unfold wds; simp; omega
    have hw : ∀ {m : Nat} {g : Gm}, m ≤ 13 * os.length → XS R [⟨1, 0, 0, 0, 0, cnt, pc, 0⟩] m g → (wds g.xs).length ≤ 900000 := fun hm h => by
      obtain ⟨_, _, _, k⟩ := h
      omega
    obtain ⟨_, a1, x1⟩ := one_ok HC hc h3 hR hn HK (show i < os.length by omega) a (hw (by omega) x)
    have x2 : XS R [⟨1, 0, 0, 0, 0, cnt, pc, 0⟩] (13 * (i + 1)) (Gm.all os R (gm0 os pc cnt) (i + 1)) := (x.trans x1).mono (by omega)
    exact ⟨a1, x2, fun hi2 => (one_ok HC hc h3 hR hn HK hi2 a1 (hw (by omega) x2)).1⟩
theorem enter_ok {pc cnt : Int} (h0 : 0 ≤ cnt) (h1 : cnt ≤ 64) : COk ⟨1, 0, 0, 0, 0, cnt, pc, 0⟩ := by
  refine ⟨⟨by show (0 : Int) ≤ 1; decide, by show (1 : Int) < 256; decide⟩, by show fcls 1 ≠ 0; decide, ?_⟩
  show EOK (fcls 1) 1 0 0 0 0 cnt pc 0
  rw [show fcls 1 = 7 by decide]
  exact (eok_7 _ _ _ _ _ _ _ _).2 ⟨rfl, rfl, rfl, rfl, ⟨h0, by omega⟩, rfl⟩
theorem taken_ok {cnt : Int} (HC : ∀ j, j < os.length → OpC os cnt j (opAt os j)) (i m : Nat) (h : m < (tk (opAt os i)).length) : ∃ t : Nat, (tk (opAt os i)).getD m 0 = t ∧ t < i := by
  have hi : i < os.length := by
    refine Nat.lt_of_not_le fun hc => ?_
    have e : opAt os i = ⟨0, 0, 0, 0, 0, 0, 0⟩ := by unfold opAt; rw [List.getD_eq_getElem?_getD, List.getElem?_eq_none hc]; rfl
    rw [e] at h
    have h' : m < 0 := h
    omega
  obtain ⟨h1, h2, _⟩ := (HC i hi).t ((tk (opAt os i)).getD m 0) (by rw [List.getD_eq_getElem?_getD, List.getElem?_eq_getElem h]; exact List.getElem_mem _)
  exact ⟨((tk (opAt os i)).getD m 0).toNat, by omega, by omega⟩
end Go.Proofs.Ytcjcmnnhmajocab.Gn
namespace Go.Proofs.Ytcjcmnnhmajocab.Gn
open Go.RowKit Kt Ic Hr Ho Me
set_option linter.unusedVariables false
set_option linter.unusedSimpArgs false
theorem of_1 {o d a b c n k x : Int} (p0 : 0 ≤ o) (p1 : o < 256) (h : EOK 1 o d a b c n k x) : good 1 (sumw o d a b c n) ∧ Cd.of 1 (sumw o d a b c n) k x = ⟨o, d, a, b, c, n, k, x⟩ := by
  have r := (erange_1 p0 p1 h).2.2.2.2.2
  have m := (emath_1 p0 p1).1 h
  rw [r] at m
  obtain ⟨m1, m2⟩ := m
  rw [eqc_iff] at m2
  refine ⟨m1, ?_⟩
  show Cd.mk _ _ _ _ _ _ _ _ = Cd.mk _ _ _ _ _ _ _ _
  rw [Cd.mk.injEq]
  exact m2
theorem of_2 {o d a b c n k x : Int} (p0 : 0 ≤ o) (p1 : o < 256) (h : EOK 2 o d a b c n k x) : good 2 (sumw o d a b c n) ∧ Cd.of 2 (sumw o d a b c n) k x = ⟨o, d, a, b, c, n, k, x⟩ := by
  have r := (erange_2 p0 p1 h).2.2.2.2.2
  have m := (emath_2 p0 p1).1 h
  rw [r] at m
  obtain ⟨m1, m2⟩ := m
  rw [eqc_iff] at m2
  refine ⟨m1, ?_⟩
  show Cd.mk _ _ _ _ _ _ _ _ = Cd.mk _ _ _ _ _ _ _ _
  rw [Cd.mk.injEq]
  exact m2
theorem of_3 {o d a b c n k x : Int} (p0 : 0 ≤ o) (p1 : o < 256) (h : EOK 3 o d a b c n k x) : good 3 (sumw o d a b c n) ∧ Cd.of 3 (sumw o d a b c n) k x = ⟨o, d, a, b, c, n, k, x⟩ := by
  have r := (erange_3 p0 p1 h).2.2.2.2.2
  have m := (emath_3 p0 p1).1 h
  rw [r] at m
  obtain ⟨m1, m2⟩ := m
  rw [eqc_iff] at m2
  refine ⟨m1, ?_⟩
  show Cd.mk _ _ _ _ _ _ _ _ = Cd.mk _ _ _ _ _ _ _ _
  rw [Cd.mk.injEq]
  exact m2
theorem of_4 {o d a b c n k x : Int} (p0 : 0 ≤ o) (p1 : o < 256) (h : EOK 4 o d a b c n k x) : good 4 (sumw o d a b c n) ∧ Cd.of 4 (sumw o d a b c n) k x = ⟨o, d, a, b, c, n, k, x⟩ := by
  have r := (erange_4 p0 p1 h).2.2.2.2.2
  have m := (emath_4 p0 p1).1 h
  rw [r] at m
  obtain ⟨m1, m2⟩ := m
  rw [eqc_iff] at m2
  refine ⟨m1, ?_⟩
  show Cd.mk _ _ _ _ _ _ _ _ = Cd.mk _ _ _ _ _ _ _ _
  rw [Cd.mk.injEq]
  exact m2
theorem of_5 {o d a b c n k x : Int} (p0 : 0 ≤ o) (p1 : o < 256) (h : EOK 5 o d a b c n k x) : good 5 (sumw o d a b c n) ∧ Cd.of 5 (sumw o d a b c n) k x = ⟨o, d, a, b, c, n, k, x⟩ := by
  have r := (erange_5 p0 p1 h).2.2.2.2.2
  have m := (emath_5 p0 p1).1 h
  rw [r] at m
  obtain ⟨m1, m2⟩ := m
  rw [eqc_iff] at m2
  refine ⟨m1, ?_⟩
  show Cd.mk _ _ _ _ _ _ _ _ = Cd.mk _ _ _ _ _ _ _ _
  rw [Cd.mk.injEq]
  exact m2
theorem of_6 {o d a b c n k x : Int} (p0 : 0 ≤ o) (p1 : o < 256) (h : EOK 6 o d a b c n k x) : good 6 (sumw o d a b c n) ∧ Cd.of 6 (sumw o d a b c n) k x = ⟨o, d, a, b, c, n, k, x⟩ := by
  have r := (erange_6 p0 p1 h).2.2.2.2.2
  have m := (emath_6 p0 p1).1 h
  rw [r] at m
  obtain ⟨m1, m2⟩ := m
  rw [eqc_iff] at m2
  refine ⟨m1, ?_⟩
  show Cd.mk _ _ _ _ _ _ _ _ = Cd.mk _ _ _ _ _ _ _ _
  rw [Cd.mk.injEq]
  exact m2
theorem of_7 {o d a b c n k x : Int} (p0 : 0 ≤ o) (p1 : o < 256) (h : EOK 7 o d a b c n k x) : good 7 (sumw o d a b c n) ∧ Cd.of 7 (sumw o d a b c n) k x = ⟨o, d, a, b, c, n, k, x⟩ := by
  have r := (erange_7 p0 p1 h).2.2.2.2.2
  have m := (emath_7 p0 p1).1 h
  rw [r] at m
  obtain ⟨m1, m2⟩ := m
  rw [eqc_iff] at m2
  refine ⟨m1, ?_⟩
  show Cd.mk _ _ _ _ _ _ _ _ = Cd.mk _ _ _ _ _ _ _ _
  rw [Cd.mk.injEq]
  exact m2
theorem of_8 {o d a b c n k x : Int} (p0 : 0 ≤ o) (p1 : o < 256) (h : EOK 8 o d a b c n k x) : good 8 (sumw o d a b c n) ∧ Cd.of 8 (sumw o d a b c n) k x = ⟨o, d, a, b, c, n, k, x⟩ := by
  have r := (erange_8 p0 p1 h).2.2.2.2.2
  have m := (emath_8 p0 p1).1 h
  rw [r] at m
  obtain ⟨m1, m2⟩ := m
  rw [eqc_iff] at m2
  refine ⟨m1, ?_⟩
  show Cd.mk _ _ _ _ _ _ _ _ = Cd.mk _ _ _ _ _ _ _ _
  rw [Cd.mk.injEq]
  exact m2
theorem of_9 {o d a b c n k x : Int} (p0 : 0 ≤ o) (p1 : o < 256) (h : EOK 9 o d a b c n k x) : good 9 (sumw o d a b c n) ∧ Cd.of 9 (sumw o d a b c n) k x = ⟨o, d, a, b, c, n, k, x⟩ := by
  have r := (erange_9 p0 p1 h).2.2.2.2.2
  have m := (emath_9 p0 p1).1 h
  rw [r] at m
  obtain ⟨m1, m2⟩ := m
  rw [eqc_iff] at m2
  refine ⟨m1, ?_⟩
  show Cd.mk _ _ _ _ _ _ _ _ = Cd.mk _ _ _ _ _ _ _ _
  rw [Cd.mk.injEq]
  exact m2
theorem of_10 {o d a b c n k x : Int} (p0 : 0 ≤ o) (p1 : o < 256) (h : EOK 10 o d a b c n k x) : good 10 (sumw o d a b c n) ∧ Cd.of 10 (sumw o d a b c n) k x = ⟨o, d, a, b, c, n, k, x⟩ := by
  have r := (erange_10 p0 p1 h).2.2.2.2.2
  have m := (emath_10 p0 p1).1 h
  rw [r] at m
  obtain ⟨m1, m2⟩ := m
  rw [eqc_iff] at m2
  refine ⟨m1, ?_⟩
  show Cd.mk _ _ _ _ _ _ _ _ = Cd.mk _ _ _ _ _ _ _ _
  rw [Cd.mk.injEq]
  exact m2
theorem of_11 {o d a b c n k x : Int} (p0 : 0 ≤ o) (p1 : o < 256) (h : EOK 11 o d a b c n k x) : good 11 (sumw o d a b c n) ∧ Cd.of 11 (sumw o d a b c n) k x = ⟨o, d, a, b, c, n, k, x⟩ := by
  have r := (erange_11 p0 p1 h).2.2.2.2.2
  have m := (emath_11 p0 p1).1 h
  rw [r] at m
  obtain ⟨m1, m2⟩ := m
  rw [eqc_iff] at m2
  refine ⟨m1, ?_⟩
  show Cd.mk _ _ _ _ _ _ _ _ = Cd.mk _ _ _ _ _ _ _ _
  rw [Cd.mk.injEq]
  exact m2
theorem of_12 {o d a b c n k x : Int} (p0 : 0 ≤ o) (p1 : o < 256) (h : EOK 12 o d a b c n k x) : good 12 (sumw o d a b c n) ∧ Cd.of 12 (sumw o d a b c n) k x = ⟨o, d, a, b, c, n, k, x⟩ := by
  have r := (erange_12 p0 p1 h).2.2.2.2.2
  have m := (emath_12 p0 p1).1 h
  rw [r] at m
  obtain ⟨m1, m2⟩ := m
  rw [eqc_iff] at m2
  refine ⟨m1, ?_⟩
  show Cd.mk _ _ _ _ _ _ _ _ = Cd.mk _ _ _ _ _ _ _ _
  rw [Cd.mk.injEq]
  exact m2
theorem of_13 {o d a b c n k x : Int} (p0 : 0 ≤ o) (p1 : o < 256) (h : EOK 13 o d a b c n k x) : good 13 (sumw o d a b c n) ∧ Cd.of 13 (sumw o d a b c n) k x = ⟨o, d, a, b, c, n, k, x⟩ := by
  have r := (erange_13 p0 p1 h).2.2.2.2.2
  have m := (emath_13 p0 p1).1 h
  rw [r] at m
  obtain ⟨m1, m2⟩ := m
  rw [eqc_iff] at m2
  refine ⟨m1, ?_⟩
  show Cd.mk _ _ _ _ _ _ _ _ = Cd.mk _ _ _ _ _ _ _ _
  rw [Cd.mk.injEq]
  exact m2
theorem of_14 {o d a b c n k x : Int} (p0 : 0 ≤ o) (p1 : o < 256) (h : EOK 14 o d a b c n k x) : good 14 (sumw o d a b c n) ∧ Cd.of 14 (sumw o d a b c n) k x = ⟨o, d, a, b, c, n, k, x⟩ := by
  have r := (erange_14 p0 p1 h).2.2.2.2.2
  have m := (emath_14 p0 p1).1 h
  rw [r] at m
  obtain ⟨m1, m2⟩ := m
  rw [eqc_iff] at m2
  refine ⟨m1, ?_⟩
  show Cd.mk _ _ _ _ _ _ _ _ = Cd.mk _ _ _ _ _ _ _ _
  rw [Cd.mk.injEq]
  exact m2
theorem of_15 {o d a b c n k x : Int} (p0 : 0 ≤ o) (p1 : o < 256) (h : EOK 15 o d a b c n k x) : good 15 (sumw o d a b c n) ∧ Cd.of 15 (sumw o d a b c n) k x = ⟨o, d, a, b, c, n, k, x⟩ := by
  have r := (erange_15 p0 p1 h).2.2.2.2.2
  have m := (emath_15 p0 p1).1 h
  rw [r] at m
  obtain ⟨m1, m2⟩ := m
  rw [eqc_iff] at m2
  refine ⟨m1, ?_⟩
  show Cd.mk _ _ _ _ _ _ _ _ = Cd.mk _ _ _ _ _ _ _ _
  rw [Cd.mk.injEq]
  exact m2
theorem of_any {x : Cd} (h : COk x) : good (fcls x.op) (Cd.sum x) ∧ Cd.of (fcls x.op) (Cd.sum x) x.k x.x = x := by
  obtain ⟨⟨p0, p1⟩, h0, e⟩ := h
  have hle := fcls_le x.op
  obtain ⟨o, d, a, b, c, n, k, x⟩ := x
  dsimp only at *
  show good (fcls o) (sumw o d a b c n) ∧ Cd.of (fcls o) (sumw o d a b c n) k x = _
  generalize fcls o = q at *
  rcases (show q = 1 ∨ q = 2 ∨ q = 3 ∨ q = 4 ∨ q = 5 ∨ q = 6 ∨ q = 7 ∨ q = 8 ∨ q = 9 ∨ q = 10 ∨ q = 11 ∨ q = 12 ∨ q = 13 ∨ q = 14 ∨ q = 15 by omega) with rfl | rfl | rfl | rfl | rfl | rfl | rfl | rfl | rfl | rfl | rfl | rfl | rfl | rfl | rfl
  · exact of_1 p0 p1 e
  · exact of_2 p0 p1 e
  · exact of_3 p0 p1 e
  · exact of_4 p0 p1 e
  · exact of_5 p0 p1 e
  · exact of_6 p0 p1 e
  · exact of_7 p0 p1 e
  · exact of_8 p0 p1 e
  · exact of_9 p0 p1 e
  · exact of_10 p0 p1 e
  · exact of_11 p0 p1 e
  · exact of_12 p0 p1 e
  · exact of_13 p0 p1 e
  · exact of_14 p0 p1 e
  · exact of_15 p0 p1 e
theorem of_take {q : Nat} {v k1 x1 k x : Int} (h1 : 1 < wd q → k1 = k) (h2 : 2 < wd q → x1 = x) : Cd.of q v k1 x1 = Cd.of q v k x := by
  unfold Cd.of
  have e1 : pick (decide (1 < wd q)) k1 = pick (decide (1 < wd q)) k := by
    by_cases h : 1 < wd q
    · rw [h1 h]
    · rw [decide_eq_false h]; rfl
  have e2 : pick (decide (2 < wd q)) x1 = pick (decide (2 < wd q)) x := by
    by_cases h : 2 < wd q
    · rw [h2 h]
    · rw [decide_eq_false h]; rfl
  rw [e1, e2]
/-- an instruction whose words lie at a place is read there -/
theorem dec_word {us : List Int} {p : Nat} {x : Cd} (hx : COk x) (hl : p + (encW x).length ≤ us.length) (h : ∀ j, j < (encW x).length → us.getD (p + j) 0 = (encW x).getD j 0) : decP us p = (x, wd (fcls x.op), 0) := by
  obtain ⟨g1, g2⟩ := of_any hx
  obtain ⟨m1, m3, ml⟩ := enc_len x hx.q
  rw [ml] at h hl
  have hop : Cd.sum x % 256 = x.op := by have := congrArg Cd.op g2; exact this
  have e0 : us.getD p 0 = Cd.sum x := by
    have := h 0 (by omega)
    rw [Nat.add_zero] at this
    rw [this]
    unfold encW
    rw [List.getD_eq_getElem?_getD, List.getElem?_take, if_pos (by omega)]
    rfl
  have e1 : 1 < wd (fcls x.op) → us.getD (p + 1) 0 = x.k := fun hw => by
    rw [h 1 (by omega)]
    unfold encW
    rw [List.getD_eq_getElem?_getD, List.getElem?_take, if_pos (by omega)]
    rfl
  have e2 : 2 < wd (fcls x.op) → us.getD (p + 2) 0 = x.x := fun hw => by
    rw [h 2 (by omega)]
    unfold encW
    rw [List.getD_eq_getElem?_getD, List.getElem?_take, if_pos (by omega)]
    rfl
  unfold decP
  rw [Int.toNat_natCast, e0, hop, if_neg (by omega), if_neg (by omega), if_neg (by omega), if_neg hx.q, if_neg (by omega), if_pos g1, of_take e1 e2, g2]
/-- where the j-th instruction begins -/
def offs (xs : List Cd) (j : Nat) : Nat := (wds (xs.take j)).length
theorem offs_all (xs : List Cd) : offs xs xs.length = (wds xs).length := by unfold offs; rw [List.take_length]
theorem take_cd (xs : List Cd) (j : Nat) (hj : j < xs.length) : xs.take (j + 1) = xs.take j ++ [xs[j]] := by
  rw [List.take_add_one, List.getElem?_eq_getElem hj]; rfl
theorem offs_succ (xs : List Cd) (j : Nat) (hj : j < xs.length) : offs xs (j + 1) = offs xs j + (encW xs[j]).length := by
  unfold offs; rw [take_cd xs j hj, wds_snoc]
theorem dec_at {xs : List Cd} (hx : ∀ x ∈ xs, COk x) (j : Nat) (hj : j < xs.length) : decP (wds xs) (offs xs j) = (xs[j], wd (fcls xs[j].op), 0) ∧ offs xs (j + 1) = offs xs j + (wd (fcls xs[j].op)).toNat ∧ 1 ≤ (wd (fcls xs[j].op)).toNat ∧ (wd (fcls xs[j].op)).toNat ≤ 3 ∧ offs xs (j + 1) ≤ (wds xs).length := by
  have hm := hx _ (List.getElem_mem hj)
  obtain ⟨m1, m3, ml⟩ := enc_len xs[j] hm.q
  have es : wds xs = wds (xs.take j) ++ (encW xs[j] ++ wds (xs.drop (j + 1))) := by
    have : xs = xs.take j ++ (xs[j] :: xs.drop (j + 1)) := by rw [← List.drop_eq_getElem_cons hj, List.take_append_drop]
    conv => lhs; rw [this]
    unfold wds
    rw [List.flatMap_append, List.flatMap_cons]
  have el : (wds xs).length = offs xs j + ((encW xs[j]).length + (wds (xs.drop (j + 1))).length) := by
    conv => lhs; rw [es]
    rw [List.length_append, List.length_append]; rfl
  refine ⟨dec_word hm (by omega) (fun k hk => ?_), by rw [offs_succ xs j hj, ml], m1, m3, by rw [offs_succ xs j hj]; omega⟩
  rw [es, List.getD_eq_getElem?_getD, List.getD_eq_getElem?_getD, List.getElem?_append_right (by unfold offs; omega)]
  rw [show offs xs j + k - (wds (xs.take j)).length = k by unfold offs; omega, List.getElem?_append_left hk]
end Go.Proofs.Ytcjcmnnhmajocab.Gn
