/- Plain: what a run ends with is in range; of a run's constants three matter. -/
import Derived.Test.YtcjcmnnhmajocabPhbi
set_option linter.unusedVariables false
set_option linter.unusedSimpArgs false
set_option maxRecDepth 100000
set_option maxHeartbeats 16000000
namespace Go.Proofs.Ytcjcmnnhmajocab.Hr
open Go.RowKit Kt Me Fl Ev Ho
theorem runQ_ok {K : Hk} (us : UsOk K.us) : ∀ (g : Nat) (t : Rst) (r : Res), TR t.s → MOk t.M → runQ K g t = some r → MOk r.M := by
 have one : ∀ (t : Rst), TR t.s → MOk t.M → (∀ r, stepQ K t = .inl r → MOk r.M) ∧ (∀ t', stepQ K t = .inr t' → TR t'.s ∧ MOk t'.M) := by
  intro t T hM
  obtain ⟨⟨x, m, z⟩, hr⟩ : ∃ r, decP K.us t.s.at_ = r := ⟨_, rfl⟩
  by_cases hz : z = 0
  ·subst hz
   have DK := decP_ok K.us us t.s.at_ (by rw [hr])
   rw [hr] at DK
   obtain ⟨⟨l, d⟩, hd⟩ : ∃ r, doR K x { t with s := { t.s with at_ := t.s.at_ + m } } = r := ⟨_, rfl⟩
   have TD := trR K x { t with s := { t.s with at_ := t.s.at_ + m } } ⟨T.c, T.r, T.v⟩ hM DK.1
   rw [hd] at TD
   have P := stepQ_ok hr hd
   cases hst : d.s.stuck
   ·cases l with
    | none =>
     rw [P.2.2 hst rfl]
     exact ⟨fun r e => (nomatch e), fun t' e => by cases e; exact ⟨⟨TD.1.c, TD.1.r, TD.1.v⟩, TD.2⟩⟩
    | some l =>
     rw [P.2.1 hst l rfl]
     exact ⟨fun r e => by cases e; exact TD.2, fun t' e => (nomatch e)⟩
   ·rw [P.1 hst]
    exact ⟨fun r e => by cases e; exact TD.2, fun t' e => (nomatch e)⟩
  ·have e : stepQ K t = .inl ⟨t.s.c, t.M, ⟨5, 0, 0, 0, 0⟩, t.s.at_⟩ := by unfold stepQ; rw [hr]; exact if_neg hz
   rw [e]
   exact ⟨fun r e => by cases e; exact hM, fun t' e => (nomatch e)⟩
 intro g
 induction g with
 | zero =>
  intro t r T hM e
  unfold runQ at e
  cases hs : stepQ K t with
  | inl r' => rw [hs] at e; cases e; exact (one t T hM).1 _ hs
  | inr t' => rw [hs] at e; exact nomatch e
 | succ g ih =>
  intro t r T hM e
  unfold runQ at e
  cases hs : stepQ K t with
  | inl r' => rw [hs] at e; cases e; exact (one t T hM).1 _ hs
  | inr t' =>
   rw [hs] at e
   have := (one t T hM).2 _ hs
   exact ih t' r this.1 this.2 e
theorem runS_ok {K : Hk} (us : UsOk K.us) {at_ : Int} {cx : Nat → Int} {M : MM} {G : Nat} {r : Res} (hC : ∀ j, 0 ≤ cx j ∧ cx j < 4294967296) (hM : MOk M) (e : runS K at_ cx M G = some r) : MOk r.M := by
 unfold runS at e
 split at e
 ·exact runQ_ok us G _ r ⟨hC, fun _ => zz, fun _ => zz⟩ hM e
 ·cases e; exact hM
theorem runQ_of (us : List Int) (left : Int) (tab : List (Int × Int)) (ao ao' tao tao' : Option Addr) (cap cap' tcap tcap' p p' : Nat) : ∀ (g : Nat) (t : Rst), runQ ⟨us, ao, cap, p, left, tab, tao, tcap⟩ g t = runQ ⟨us, ao', cap', p', left, tab, tao', tcap'⟩ g t
 | 0, t => rfl
 | g + 1, t => by
  unfold runQ
  rw [show stepQ ⟨us, ao, cap, p, left, tab, tao, tcap⟩ t = stepQ ⟨us, ao', cap', p', left, tab, tao', tcap'⟩ t from rfl]
  cases stepQ ⟨us, ao', cap', p', left, tab, tao', tcap'⟩ t with
  | inl r => rfl
  | inr t' => exact runQ_of us left tab ao ao' tao tao' cap cap' tcap tcap' p p' g t'
/-- both runs end alike, somewhere -/
theorem both_run (us : List Int) (hus : UsOk us) (hl : us.length ≤ 1048576) (left : Int) (tab : List (Int × Int)) (ao ao' tao tao' : Option Addr) (cap cap' tcap tcap' p p' : Nat) (at_ : Int) (cx : Nat → Int) (M : MM) (hC : ∀ j, 0 ≤ cx j ∧ cx j < 4294967296) (hM : MOk M) :
  ∃ G RV, G ≤ 1152921504606846976 ∧ runR ⟨us, ao, cap, p, left, tab, tao, tcap⟩ at_ cx M G = some RV ∧ runS ⟨us, ao', cap', p', left, tab, tao', tcap'⟩ at_ cx M G = some RV ∧ MOk RV.M := by
 obtain ⟨r, hr⟩ := run_ends ⟨us, ao, cap, p, left, tab, tao, tcap⟩ hus at_ cx M
 have e2 : runS ⟨us, ao', cap', p', left, tab, tao', tcap'⟩ at_ cx M (1048576 + (us.length + 1)) = some r := by
  rw [← hr, run_same _ hus]
  unfold runS
  dsimp only
  rw [runQ_of us left tab ao' ao tao' tao cap' cap tcap' tcap p' p]
 exact ⟨1048576 + (us.length + 1), r, by omega, hr, e2, runS_ok (K := ⟨us, ao', cap', p', left, tab, tao', tcap'⟩) hus hC hM e2⟩
end Go.Proofs.Ytcjcmnnhmajocab.Hr
