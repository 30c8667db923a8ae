/- Plain: the document's host keeps its numbers in range. -/
import Derived.Test.YtcjcmnnhmajocabPhbh
set_option linter.unusedVariables false
set_option linter.unusedSimpArgs false
set_option maxRecDepth 100000
set_option maxHeartbeats 16000000
namespace Go.Proofs.Ytcjcmnnhmajocab.Hr
open Go.RowKit Kt Me Fl Ev Ho
theorem lvS_ran (K : Hk) (s : Pm) (r : Nat) (m : Int) : (lvS K s r m).ran = s.ran := by
 unfold lvS
 split <;> rfl
theorem ifS_ran (c : Bool) (a b : Pm) (h : a.ran = b.ran) : (ifS c a b).ran = b.ran := by
 unfold ifS
 cases c
 ·rfl
 ·exact h
theorem do_ran (K : Hk) (x : Cd) (t : Hst) : (doP K x t).2.s.ran = t.s.ran := by
 unfold doP
 generalize x.a.toNat = ra
 generalize x.b.toNat = rb
 generalize x.c.toNat = rc
 generalize x.d.toNat = rd
 generalize x.n.toNat = rn
 unfold doN
 by_cases c0 : x.op = 1
 ·rw [if_pos c0]
  by_cases h : entL K t.M t.s x = none
  ·rw [if_pos h]
  ·rw [if_neg h]
 rw [if_neg c0]
 by_cases c1 : x.op = 10
 ·rw [if_pos c1]
  try rfl
 rw [if_neg c1]
 by_cases c2 : x.op = 11
 ·rw [if_pos c2]
  try rfl
 rw [if_neg c2]
 by_cases c3 : x.op = 96
 ·rw [if_pos c3]
  exact ifS_ran _ _ _ rfl
 rw [if_neg c3]
 by_cases c4 : x.op = 14
 ·rw [if_pos c4]
  try rfl
 rw [if_neg c4]
 by_cases c5 : x.op = 15
 ·rw [if_pos c5]
  rfl
 rw [if_neg c5]
 by_cases c6 : x.op = 12
 ·rw [if_pos c6]
  try rfl
 rw [if_neg c6]
 by_cases c7 : x.op = 13
 ·rw [if_pos c7]
  try rfl
 rw [if_neg c7]
 by_cases c8 : x.op = 4
 ·rw [if_pos c8]
  exact lvS_ran _ _ _ _
 rw [if_neg c8]
 by_cases c9 : x.op = 2
 ·rw [if_pos c9]
  rfl
 rw [if_neg c9]
 by_cases c10 : x.op = 3
 ·rw [if_pos c10]
  rfl
 rw [if_neg c10]
 by_cases c11 : x.op = 6
 ·rw [if_pos c11]
  rfl
 rw [if_neg c11]
 by_cases c12 : x.op = 7
 ·rw [if_pos c12]
  by_cases h : (t.s.gets ra).stuck = true
  ·rw [if_pos h]; rfl
  ·rw [if_neg h]; rfl
 rw [if_neg c12]
 by_cases c13 : x.op = 8
 ·rw [if_pos c13]
  rfl
 rw [if_neg c13]
 by_cases c14 : x.op = 9
 ·rw [if_pos c14]
  rfl
 rw [if_neg c14]
 by_cases c15 : x.op = 97
 ·rw [if_pos c15]
  rfl
 rw [if_neg c15]
 by_cases c16 : x.op = 5
 ·rw [if_pos c16]
  rfl
 rw [if_neg c16]
 by_cases c17 : x.op < 32
 ·rw [if_pos c17]
  rfl
 rw [if_neg c17]
 by_cases c18 : x.op < 39
 ·rw [if_pos c18]
  rfl
 rw [if_neg c18]
 by_cases c19 : x.op < 61
 ·rw [if_pos c19]
  rfl
 rw [if_neg c19]
 by_cases c20 : x.op < 80
 ·rw [if_pos c20]
  rfl
 rw [if_neg c20]
 by_cases c21 : x.op < 85
 ·rw [if_pos c21]
  exact ifS_ran _ _ _ rfl
 rw [if_neg c21]
 rfl
theorem runN_inl {K : Hk} {t : Hst} {r : Res} (g : Nat) (h : stepP K t = .inl r) : runN K g t = some r := by
 cases g <;> (unfold runN; rw [h])
theorem runN_inr {K : Hk} {t t' : Hst} {r : Res} {g : Nat} (h : stepP K t = .inr t') (e : runN K g t = some r) : ∃ g', g = g' + 1 ∧ runN K g' t' = some r := by
 cases g with
 | zero => unfold runN at e; rw [h] at e; exact nomatch e
 | succ g => unfold runN at e; rw [h] at e; exact ⟨g, rfl, e⟩
theorem stepP_ok {K : Hk} {t d : Hst} {x : Cd} {m : Int} {l : Option Lf} (hr : decP K.us t.s.at_ = (x, m, 0)) (hd : doP K x { t with s := { t.s with at_ := t.s.at_ + m } } = (l, d)) :
  (d.s.stuck = true → stepP K t = .inl ⟨d.s.c, d.M, ⟨5, 0, 0, 0, 0⟩, t.s.at_⟩) ∧ (d.s.stuck = false → ∀ l', l = some l' → stepP K t = .inl ⟨d.s.c, d.M, l', t.s.at_⟩) ∧ (d.s.stuck = false → l = none → stepP K t = .inr { d with s := { d.s with ran := d.s.ran + 1 } }) := by
 unfold stepP
 rw [hr]
 dsimp only
 rw [if_pos rfl]
 generalize doP K x { t with s := { t.s with at_ := t.s.at_ + m } } = r at hd ⊢
 subst hd
 refine ⟨fun h => by rw [if_pos h], fun h l' e => ?_, fun h e => ?_⟩
 ·subst e; rw [if_neg (by rw [h]; simp)]
 ·subst e; rw [if_neg (by rw [h]; simp)]
structure Rst where
 s : Rm
 M : MM
def entR (K : Hk) (M : MM) (s : Rm) (x : Cd) : Option Lf :=
 if anyT M.hi then some ⟨1, 0, 0, x.k, s.done⟩ else if wrap64 (K.left - s.done) < x.n then some ⟨4, 0, 0, x.k, s.done⟩ else if 1048576 ≤ s.ran then some ⟨6, 0, 0, x.k, s.done⟩ else none
def lwE (K : Hk) (s : Rm) (r : Nat) : Option Int :=
 if K.tab.length = 0 then none else match K.tab[(s.reg r % K.tab.length).toNat]? with
  | none => none
  | some t => if t.1 = s.reg r ∧ 0 ≤ t.2 ∧ ent K.us t.2 = true then some t.2 else none
def lwL (K : Hk) (s : Rm) (r : Nat) (n : Int) : Option Lf := match lwE K s r with
 | some _ => none
 | none => some ⟨2, 0, 0, s.reg r, wrap64 (s.done + n)⟩
def lwS (K : Hk) (s : Rm) (r : Nat) (n : Int) : Rm := match lwE K s r with
 | some t => { s.gets r with done := wrap64 (s.done + n), at_ := t }
 | none => s.gets r
def ifR (c : Bool) (a b : Rm) : Rm := if c then a else b
/-- one instruction of the document's host -/
def doM (K : Hk) (x : Cd) (t : Rst) (ra rb rc rd rn : Nat) : Option Lf × Rst :=
 if x.op = 1 then (entR K t.M t.s x, if entR K t.M t.s x = none then { t with s := t.s.clr } else t) else
 if x.op = 10 then (ifL (anyT t.M.hi) ⟨1, 0, 0, x.k, wrap64 (t.s.done + x.n)⟩, t) else
 if x.op = 11 then (ifL (t.s.reg ra != 0) ⟨1, 0, 0, x.k, wrap64 (t.s.done + x.n)⟩, { t with s := t.s.gets ra }) else
 if x.op = 96 then (none, { t with s := ifR (t.s.reg ra != 0) ((t.s.gets ra).goes K.us x) (t.s.gets ra) }) else
 if x.op = 14 then (some ⟨1, 0, 0, x.k, wrap64 (t.s.done + x.n)⟩, t) else
 if x.op = 15 then (none, { t with s := t.s.goes K.us x }) else
 if x.op = 12 then (some ⟨3, x.d, x.x, x.k, wrap64 (t.s.done + x.n)⟩, t) else
 if x.op = 13 then (ifL (t.s.reg ra != 0) ⟨3, x.d, x.x, x.k, wrap64 (t.s.done + x.n)⟩, { t with s := t.s.gets ra }) else
 if x.op = 4 then (lwL K t.s ra x.n, { t with s := lwS K t.s ra x.n }) else
 if x.op = 2 then (none, { t with s := t.s.sets rd x.k }) else
 if x.op = 3 then (none, { t with s := (t.s.gets ra).sets rd (t.s.reg ra) }) else
 if x.op = 6 then (none, { t with s := t.s.sets rd (t.s.c rn) }) else
 if x.op = 7 then (none, { t with s := if (t.s.gets ra).stuck then t.s.gets ra else { t.s.gets ra with c := upd t.s.c rn (t.s.reg ra) } }) else
 if x.op = 8 then (none, { t with s := ({ t.s with stuck := t.s.stuck || !t.s.held rn } : Rm).sets rd (t.s.spv rn) }) else
 if x.op = 9 then (none, { t with s := { t.s.gets ra with spv := upd t.s.spv rn (t.s.reg ra), held := upd t.s.held rn true } }) else
 if x.op = 97 then (none, { t with s := t.s.sets rd (fl (t.s.c 8) (t.s.c 9) (t.s.c 10) (t.s.c 11)) }) else
 if x.op = 5 then (none, { t with s := (((t.s.gets ra).gets rb).gets rc).sets rd (valV 6 0 0 (t.s.reg ra) (t.s.reg rb) (t.s.reg rc)) }) else
 if x.op < 32 then (none, { t with s := ((t.s.gets ra).gets rb).sets rd (valV 4 (x.op - 16) 0 (t.s.reg ra) (t.s.reg rb) 0) }) else
 if x.op < 39 then (none, { t with s := (t.s.gets ra).sets rd (valV 5 (x.op - 32) 0 (t.s.reg ra) 0 0) }) else
 if x.op < 61 then (none, { t with s := (((t.s.gets ra).gets rb).gets rc).sets rd (valV 7 (x.op - 48) 0 (t.s.reg ra) (t.s.reg rb) (t.s.reg rc)) }) else
 if x.op < 80 then (none, { t with s := (t.s.gets ra).sets rd (valV 8 (x.op - 64) 0 (t.s.reg ra) 0 0) }) else
 if x.op < 85 then (ifL (St.stK 5 (srch t.M 1 (t.s.reg ra) (ldn (x.op - 80)).toNat) != 0) ⟨3, St.stK 5 (srch t.M 1 (t.s.reg ra) (ldn (x.op - 80)).toNat), St.stX (srch t.M 1 (t.s.reg ra) (ldn (x.op - 80)).toNat), x.k, wrap64 (t.s.done + x.n)⟩, { t with s := ifR (St.stK 5 (srch t.M 1 (t.s.reg ra) (ldn (x.op - 80)).toNat) != 0) (t.s.gets ra) ((t.s.gets ra).sets rd (wid (x.op - 80) (ldv t.M (t.s.reg ra) (ldn (x.op - 80))))) }) else
 (ifL (!((t.s.gets ra).gets rd).stuck && St.stK 6 (sto t.M (t.s.reg ra) (stn (x.op - 88))) != 0) ⟨3, St.stK 6 (sto t.M (t.s.reg ra) (stn (x.op - 88))), St.stX (sto t.M (t.s.reg ra) (stn (x.op - 88))), x.k, wrap64 (t.s.done + x.n)⟩, { t with s := (t.s.gets ra).gets rd, M := ifM ((t.s.gets ra).gets rd).stuck t.M (stm t.M (t.s.reg ra) (stn (x.op - 88)) (t.s.reg rd)) })
def doR (K : Hk) (x : Cd) (t : Rst) : Option Lf × Rst := doM K x t x.a.toNat x.b.toNat x.c.toNat x.d.toNat x.n.toNat
def stepQ (K : Hk) (t : Rst) : Res ⊕ Rst :=
 if (decP K.us t.s.at_).2.2 = 0 then
  (if (doR K (decP K.us t.s.at_).1 { t with s := { t.s with at_ := t.s.at_ + (decP K.us t.s.at_).2.1 } }).2.s.stuck = true then .inl ⟨(doR K (decP K.us t.s.at_).1 { t with s := { t.s with at_ := t.s.at_ + (decP K.us t.s.at_).2.1 } }).2.s.c, (doR K (decP K.us t.s.at_).1 { t with s := { t.s with at_ := t.s.at_ + (decP K.us t.s.at_).2.1 } }).2.M, ⟨5, 0, 0, 0, 0⟩, t.s.at_⟩
  else match (doR K (decP K.us t.s.at_).1 { t with s := { t.s with at_ := t.s.at_ + (decP K.us t.s.at_).2.1 } }) with
   | (some l, d) => .inl ⟨d.s.c, d.M, l, t.s.at_⟩
   | (none, d) => .inr { d with s := { d.s with ran := d.s.ran + 1 } })
 else .inl ⟨t.s.c, t.M, ⟨5, 0, 0, 0, 0⟩, t.s.at_⟩
def runQ (K : Hk) : Nat → Rst → Option Res
 | 0, t => match stepQ K t with
  | .inl r => some r
  | .inr _ => none
 | n + 1, t => match stepQ K t with
  | .inl r => some r
  | .inr t' => runQ K n t'
theorem runQ_inl {K : Hk} {t : Rst} {r : Res} (g : Nat) (h : stepQ K t = .inl r) : runQ K g t = some r := by
 cases g <;> (unfold runQ; rw [h])
theorem runQ_inr {K : Hk} {t t' : Rst} {r : Res} {g : Nat} (h : stepQ K t = .inr t') (e : runQ K g t = some r) : ∃ g', g = g' + 1 ∧ runQ K g' t' = some r := by
 cases g with
 | zero => unfold runQ at e; rw [h] at e; exact nomatch e
 | succ g => unfold runQ at e; rw [h] at e; exact ⟨g, rfl, e⟩
theorem stepQ_ok {K : Hk} {t d : Rst} {x : Cd} {m : Int} {l : Option Lf} (hr : decP K.us t.s.at_ = (x, m, 0)) (hd : doR K x { t with s := { t.s with at_ := t.s.at_ + m } } = (l, d)) :
  (d.s.stuck = true → stepQ K t = .inl ⟨d.s.c, d.M, ⟨5, 0, 0, 0, 0⟩, t.s.at_⟩) ∧ (d.s.stuck = false → ∀ l', l = some l' → stepQ K t = .inl ⟨d.s.c, d.M, l', t.s.at_⟩) ∧ (d.s.stuck = false → l = none → stepQ K t = .inr { d with s := { d.s with ran := d.s.ran + 1 } }) := by
 unfold stepQ
 rw [hr]
 dsimp only
 rw [if_pos rfl]
 generalize doR K x { t with s := { t.s with at_ := t.s.at_ + m } } = r at hd ⊢
 subst hd
 refine ⟨fun h => by rw [if_pos h], fun h l' e => ?_, fun h e => ?_⟩
 ·subst e; rw [if_neg (by rw [h]; simp)]
 ·subst e; rw [if_neg (by rw [h]; simp)]
/-- what both share from the first word on -/
structure R0 (s : Pm) (M : MM) (u : Rst) : Prop where
 at_ : s.at_ = u.s.at_
 c : s.c = u.s.c
 done : s.done = u.s.done
 ran : s.ran = u.s.ran
 stk : s.stuck = u.s.stuck
 M : M = u.M
 fs : ∀ r, s.fs r ≤ s.en
 en : 0 ≤ s.en ∧ s.en ≤ s.ran
 dn : -9223372036854775808 ≤ s.done ∧ s.done ≤ 9223372036854775807
/-- and behind an enter -/
structure R1 (s : Pm) (f : Nat → Option Int) (u : Rm) : Prop where
 has : ∀ r, (s.fs r != s.en) = !u.has r
 reg : ∀ r, u.has r = true → s.reg r = u.reg r
 sp : ∀ j, f j = if u.held j then some (u.spv j) else none
theorem wrap64_bd (n : Int) : -9223372036854775808 ≤ wrap64 n ∧ wrap64 n ≤ 9223372036854775807 := by unfold wrap64; omega
section
variable {s : Pm} {M : MM} {u : Rst} {f : Nat → Option Int}
theorem R0.gets (a : R0 s M u) (b : R1 s f u.s) (r : Nat) : R0 (s.gets r) M { u with s := u.s.gets r } :=
 ⟨a.at_, a.c, a.done, a.ran, by show (s.stuck || s.fs r != s.en) = (u.s.stuck || !u.s.has r); rw [a.stk, b.has], a.M, a.fs, a.en, a.dn⟩
theorem R1.gets {u : Rm} (b : R1 s f u) (r : Nat) : R1 (s.gets r) f (u.gets r) := ⟨b.has, b.reg, b.sp⟩
theorem R1.got {u : Rm} (b : R1 s f u) {r : Nat} (h : (u.gets r).stuck = false) : s.reg r = u.reg r := by
 refine b.reg r ?_
 unfold Rm.gets at h
 dsimp only at h
 cases hh : u.has r
 ·rw [hh] at h; simp at h
 ·rfl
theorem R0.sets (a : R0 s M u) (r : Nat) (x y : Int) : R0 (s.sets r x) M { u with s := u.s.sets r y } :=
 ⟨a.at_, a.c, a.done, a.ran, a.stk, a.M, fun j => by show upd s.fs r s.en j ≤ s.en; unfold upd; split; exact Int.le_refl _; exact a.fs j, a.en, a.dn⟩
theorem R1.sets {u : Rm} (b : R1 s f u) (r : Nat) (x : Int) : R1 (s.sets r x) f (u.sets r x) := by
 refine ⟨fun j => ?_, fun j hj => ?_, b.sp⟩
 ·show (upd s.fs r s.en j != s.en) = !(upd u.has r true j)
  unfold upd
  split
  ·simp
  ·exact b.has j
 ·show upd s.reg r x j = upd u.reg r x j
  have hj' : upd u.has r true j = true := hj
  unfold upd at hj' ⊢
  split
  ·rfl
  ·rename_i hn; rw [if_neg hn] at hj'; exact b.reg j hj'
end
theorem st_gets {u : Rm} {r : Nat} (h : (u.gets r).stuck = false) : u.stuck = false := by
 unfold Rm.gets at h; dsimp only at h; cases hs : u.stuck
 ·rfl
 ·rw [hs] at h; simp at h
/-- what a step answers, told of both -/
def Ra (r : Option Lf × Hst) (q : Option Lf × Rst) : Prop :=
 r.2.s.stuck = q.2.s.stuck ∧ r.2.s.c = q.2.s.c ∧ r.2.M = q.2.M ∧ (q.2.s.stuck = false → r.1 = q.1 ∧ (r.1 = none → R0 { r.2.s with ran := r.2.s.ran + 1 } r.2.M { q.2 with s := { q.2.s with ran := q.2.s.ran + 1 } } ∧ R1 r.2.s r.2.f q.2.s))
theorem R0.next {s : Pm} {M : MM} {u : Rst} (a : R0 s M u) : R0 { s with ran := s.ran + 1 } M { u with s := { u.s with ran := u.s.ran + 1 } } :=
 ⟨a.at_, a.c, a.done, by show s.ran + 1 = u.s.ran + 1; rw [a.ran], a.stk, a.M, a.fs, ⟨a.en.1, by have := a.en.2; show s.en ≤ s.ran + 1; omega⟩, a.dn⟩
theorem Ra.of {l l' : Option Lf} {t' : Hst} {u' : Rst} (a : R0 t'.s t'.M u') (h : u'.s.stuck = false → l = l' ∧ (l = none → R1 t'.s t'.f u'.s)) : Ra (l, t') (l', u') :=
 ⟨a.stk, a.c, a.M, fun hs => ⟨(h hs).1, fun hn => ⟨a.next, (h hs).2 hn⟩⟩⟩
theorem rel_do (K : Hk) (x : Cd) (t : Hst) (u : Rst) (hx : CdOk x) (x13 : x.op = 13 → x.x = 0) (a : R0 t.s t.M u) (b : x.op = 1 ∨ R1 t.s t.f u.s) (hn : u.s.stuck = false) : Ra (doP K x t) (doR K x u) := by
 unfold doP doR
 generalize x.a.toNat = ra
 generalize x.b.toNat = rb
 generalize x.c.toNat = rc
 generalize x.d.toNat = rd
 generalize x.n.toNat = rn
 unfold doN doM
 by_cases c0 : x.op = 1
 ·rw [if_pos c0, if_pos c0]
  have e : entL K t.M t.s x = entR K u.M u.s x := by
   unfold entL entR
   rw [← a.M, ← a.done, ← a.ran, show wrap64 (t.s.done + 0) = t.s.done from by rw [Int.add_zero]; exact Go.IntWalk.wrap64_in _ a.dn]
  rw [e]
  by_cases h : entR K u.M u.s x = none
  ·rw [if_pos h, if_pos h]
   have hran : t.s.ran < 1048576 := by
    unfold entR at h
    split at h
    ·exact nomatch h
    split at h
    ·exact nomatch h
    split at h
    ·exact nomatch h
    rename_i hr
    rw [a.ran]; omega
   have ew : wrap64 (t.s.en + 1) = t.s.en + 1 := Go.IntWalk.wrap64_in _ (by have := a.en; omega)
   rw [h, ew]
   refine ⟨a.stk, a.c, a.M, fun hs => ⟨rfl, fun _ => ⟨⟨a.at_, a.c, a.done, by show t.s.ran + 1 = u.s.ran + 1; rw [a.ran], a.stk, a.M, fun r => by have := a.fs r; show t.s.fs r ≤ t.s.en + 1; omega, by have := a.en; show 0 ≤ t.s.en + 1 ∧ t.s.en + 1 ≤ t.s.ran + 1; omega, a.dn⟩, ⟨fun r => ?_, fun r hr => (nomatch hr), fun j => rfl⟩⟩⟩⟩
   show (t.s.fs r != t.s.en + 1) = !false
   have := a.fs r
   simp only [Bool.not_false, bne_iff_ne, ne_eq]
   omega
  ·rw [if_neg h, if_neg h]
   exact Ra.of a fun _ => ⟨rfl, fun e => absurd e h⟩
 rw [if_neg c0, if_neg c0]
 have b := b.resolve_left c0
 have ag := a.gets b ra
 have bg := b.gets ra
 have d1 := fun hs => b.got (r := ra) hs
 by_cases c1 : x.op = 10
 ·rw [if_pos c1, if_pos c1]
  exact Ra.of a fun _ => ⟨by rw [a.M, a.done], fun _ => b⟩
 rw [if_neg c1, if_neg c1]
 by_cases c2 : x.op = 11
 ·rw [if_pos c2, if_pos c2]
  exact Ra.of ag fun hs => ⟨by rw [a.done, d1 hs], fun _ => bg⟩
 rw [if_neg c2, if_neg c2]
 by_cases c3 : x.op = 96
 ·rw [if_pos c3, if_pos c3]
  have ad := a.done
  have ast := ag.stk
  cases hst : (u.s.gets ra).stuck
  ·rw [d1 hst, show (t.s.gets ra).stuck = false from ast.trans hst, Bool.not_false, Bool.and_true]
   cases u.s.reg ra != 0
   ·exact Ra.of (t' := ⟨t.s.gets ra, t.M, t.f⟩) (u' := ⟨u.s.gets ra, u.M⟩) ag fun _ => ⟨rfl, fun _ => bg⟩
   ·refine Ra.of (t' := ⟨(t.s.gets ra).goes K.us x, t.M, t.f⟩) (u' := ⟨(u.s.gets ra).goes K.us x, u.M⟩) ⟨rfl, a.c, by show wrap64 (t.s.done + x.n) = wrap64 (u.s.done + x.n); rw [ad], a.ran, by show ((t.s.gets ra).stuck || !ent K.us x.k) = ((u.s.gets ra).stuck || !ent K.us x.k); rw [ag.stk], a.M, a.fs, a.en, wrap64_bd _⟩ fun _ => ⟨rfl, fun _ => ⟨b.has, b.reg, b.sp⟩⟩
  ·rw [show (t.s.gets ra).stuck = true from ast.trans hst, Bool.not_true, Bool.and_false]
   refine ⟨?_, ?_, a.M, ?_⟩
   ·show (t.s.gets ra).stuck = (ifR (u.s.reg ra != 0) ((u.s.gets ra).goes K.us x) (u.s.gets ra)).stuck
    rw [ast]
    unfold ifR Rm.goes
    split
    ·rw [hst]; rfl
    ·rfl
   ·show t.s.c = (ifR (u.s.reg ra != 0) ((u.s.gets ra).goes K.us x) (u.s.gets ra)).c
    unfold ifR
    split <;> exact a.c
   ·intro h
    exfalso
    have h' : (ifR (u.s.reg ra != 0) ((u.s.gets ra).goes K.us x) (u.s.gets ra)).stuck = false := h
    unfold ifR Rm.goes at h'
    split at h'
    ·rw [hst] at h'; exact nomatch h'
    ·rw [hst] at h'; exact nomatch h'
 rw [if_neg c3, if_neg c3]
 by_cases c4 : x.op = 14
 ·rw [if_pos c4, if_pos c4]
  exact Ra.of a fun _ => ⟨by rw [a.done], fun _ => b⟩
 rw [if_neg c4, if_neg c4]
 by_cases c5 : x.op = 15
 ·rw [if_pos c5, if_pos c5]
  exact Ra.of (t' := ⟨t.s.goes K.us x, t.M, t.f⟩) (u' := ⟨u.s.goes K.us x, u.M⟩) ⟨rfl, a.c, by show wrap64 (t.s.done + x.n) = wrap64 (u.s.done + x.n); rw [a.done], a.ran, by show (t.s.stuck || !ent K.us x.k) = (u.s.stuck || !ent K.us x.k); rw [a.stk], a.M, a.fs, a.en, wrap64_bd _⟩ fun _ => ⟨rfl, fun _ => ⟨b.has, b.reg, b.sp⟩⟩
 rw [if_neg c5, if_neg c5]
 by_cases c6 : x.op = 12
 ·rw [if_pos c6, if_pos c6]
  exact Ra.of a fun _ => ⟨by rw [a.done], fun _ => b⟩
 rw [if_neg c6, if_neg c6]
 by_cases c7 : x.op = 13
 ·rw [if_pos c7, if_pos c7]
  exact Ra.of ag fun hs => ⟨by rw [a.done, d1 hs, x13 c7], fun _ => bg⟩
 rw [if_neg c7, if_neg c7]
 by_cases c8 : x.op = 4
 ·rw [if_pos c8, if_pos c8]
  have ast := ag.stk
  have ad := a.done
  cases hst : (u.s.gets ra).stuck
  ·have e1 : lvE K t.s ra = lwE K u.s ra := by
    unfold lvE lwE
    rw [show (t.s.gets ra).stuck = false from ast.trans hst, d1 hst]
    simp only [Bool.false_eq_true, or_false]
    rfl
   unfold lvL lwL lvS lwS
   rw [e1]
   cases lwE K u.s ra with
   | none => exact Ra.of ag fun _ => ⟨by rw [d1 hst, ad], fun _ => bg⟩
   | some g => exact Ra.of (t' := ⟨{ t.s.gets ra with done := _, at_ := g }, t.M, t.f⟩) (u' := ⟨{ u.s.gets ra with done := _, at_ := g }, u.M⟩) ⟨rfl, a.c, by show wrap64 (t.s.done + x.n) = wrap64 (u.s.done + x.n); rw [ad], a.ran, ag.stk, a.M, a.fs, a.en, wrap64_bd _⟩ fun _ => ⟨rfl, fun _ => ⟨b.has, b.reg, b.sp⟩⟩
  ·have e1 : lvE K t.s ra = none := by unfold lvE; rw [if_pos (.inr (ast.trans hst))]
   have e2 : (lwS K u.s ra x.n).stuck = true ∧ (lwS K u.s ra x.n).c = u.s.c := by
    unfold lwS; split <;> exact ⟨hst, rfl⟩
   refine ⟨?_, ?_, a.M, fun h => ?_⟩
   ·show (lvS K t.s ra x.n).stuck = (lwS K u.s ra x.n).stuck
    unfold lvS; rw [e1, e2.1]; exact ast.trans hst
   ·show (lvS K t.s ra x.n).c = (lwS K u.s ra x.n).c
    unfold lvS; rw [e1, e2.2]; exact a.c
   ·exact absurd (e2.1.symm.trans h) (by decide)
 rw [if_neg c8, if_neg c8]
 by_cases c9 : x.op = 2
 ·rw [if_pos c9, if_pos c9]
  exact Ra.of (a.sets rd _ _) fun _ => ⟨rfl, fun _ => b.sets rd _⟩
 rw [if_neg c9, if_neg c9]
 by_cases c10 : x.op = 3
 ·rw [if_pos c10, if_pos c10]
  exact Ra.of (ag.sets rd _ _) fun hs => ⟨rfl, fun _ => by rw [← d1 hs]; exact bg.sets rd _⟩
 rw [if_neg c10, if_neg c10]
 by_cases c11 : x.op = 6
 ·rw [if_pos c11, if_pos c11]
  exact Ra.of (a.sets rd _ _) fun _ => ⟨rfl, fun _ => by rw [← a.c]; exact b.sets rd _⟩
 rw [if_neg c11, if_neg c11]
 by_cases c12 : x.op = 7
 ·rw [if_pos c12, if_pos c12]
  have ast := ag.stk
  have ast' : (t.s.gets ra).stuck = (u.s.gets ra).stuck := ast
  cases hst : (u.s.gets ra).stuck
  ·rw [ast', hst, if_neg (by decide), if_neg (by decide)]
   refine Ra.of (t' := ⟨{ t.s.gets ra with c := _ }, t.M, t.f⟩) (u' := ⟨{ u.s.gets ra with c := _ }, u.M⟩) ⟨a.at_, by show upd t.s.c rn (t.s.reg ra) = upd u.s.c rn (u.s.reg ra); rw [a.c, d1 hst], a.done, a.ran, ast, a.M, a.fs, a.en, a.dn⟩ fun _ => ⟨rfl, fun _ => ⟨b.has, b.reg, b.sp⟩⟩
  ·rw [ast', hst, if_pos rfl, if_pos rfl]
   exact Ra.of ag fun _ => ⟨rfl, fun _ => bg⟩
 rw [if_neg c12, if_neg c12]
 by_cases c13 : x.op = 8
 ·rw [if_pos c13, if_pos c13]
  have hs := b.sp rn
  cases hh : u.s.held rn
  ·rw [hh] at hs
   rw [hs, if_neg (by decide)]
   exact ⟨by show true = (u.s.stuck || true); simp, a.c, a.M, fun h => by have h' : (u.s.stuck || true) = false := h; simp at h'⟩
  ·rw [hh] at hs
   rw [hs, if_pos rfl]
   refine Ra.of (t' := ⟨({ t.s with stuck := false } : Pm).sets rd (u.s.spv rn), t.M, t.f⟩) (u' := ⟨({ u.s with stuck := u.s.stuck || !true } : Rm).sets rd (u.s.spv rn), u.M⟩) (R0.sets (s := ({ t.s with stuck := false } : Pm)) (u := { u with s := { u.s with stuck := u.s.stuck || !true } }) ⟨a.at_, a.c, a.done, a.ran, by show false = (u.s.stuck || !true); rw [hn]; rfl, a.M, a.fs, a.en, a.dn⟩ rd _ _) fun _ => ⟨rfl, fun _ => R1.sets (s := ({ t.s with stuck := false } : Pm)) (u := { u.s with stuck := u.s.stuck || !true }) ⟨b.has, b.reg, b.sp⟩ rd _⟩
 rw [if_neg c13, if_neg c13]
 by_cases c14 : x.op = 9
 ·rw [if_pos c14, if_pos c14]
  refine Ra.of (t' := ⟨t.s.gets ra, t.M, _⟩) (u' := ⟨{ u.s.gets ra with spv := _, held := _ }, u.M⟩) ⟨a.at_, a.c, a.done, a.ran, ag.stk, a.M, a.fs, a.en, a.dn⟩ fun hs => ⟨rfl, fun _ => ⟨b.has, b.reg, fun j => ?_⟩⟩
  have e := d1 hs
  show updO t.f rn (some (t.s.reg ra)) j = if upd u.s.held rn true j then some (upd u.s.spv rn (u.s.reg ra) j) else none
  unfold updO upd
  by_cases hj : j = rn
  ·rw [if_pos hj, if_pos hj, if_pos hj, if_pos rfl, e]
  ·rw [if_neg hj, if_neg hj, if_neg hj]; exact b.sp j
 rw [if_neg c14, if_neg c14]
 by_cases c15 : x.op = 97
 ·rw [if_pos c15, if_pos c15]
  exact Ra.of (a.sets rd _ _) fun _ => ⟨rfl, fun _ => by rw [← a.c]; exact b.sets rd _⟩
 rw [if_neg c15, if_neg c15]
 have ab := ag.gets bg rb
 have bb := bg.gets rb
 have d2 : ((u.s.gets ra).gets rb).stuck = false → t.s.reg ra = u.s.reg ra ∧ t.s.reg rb = u.s.reg rb := fun hs => ⟨d1 (st_gets hs), bg.got (r := rb) hs⟩
 have ac := ab.gets bb rc
 have bc := bb.gets rc
 have d3 : (((u.s.gets ra).gets rb).gets rc).stuck = false → t.s.reg ra = u.s.reg ra ∧ t.s.reg rb = u.s.reg rb ∧ t.s.reg rc = u.s.reg rc := fun hs => ⟨(d2 (st_gets hs)).1, (d2 (st_gets hs)).2, bb.got (r := rc) hs⟩
 by_cases c16 : x.op = 5
 ·rw [if_pos c16, if_pos c16]
  exact Ra.of (ac.sets rd _ _) fun hs => ⟨rfl, fun _ => by rw [(d3 hs).1, (d3 hs).2.1, (d3 hs).2.2]; exact bc.sets rd _⟩
 rw [if_neg c16, if_neg c16]
 by_cases c17 : x.op < 32
 ·rw [if_pos c17, if_pos c17]
  exact Ra.of (ab.sets rd _ _) fun hs => ⟨rfl, fun _ => by rw [(d2 hs).1, (d2 hs).2]; exact bb.sets rd _⟩
 rw [if_neg c17, if_neg c17]
 by_cases c18 : x.op < 39
 ·rw [if_pos c18, if_pos c18]
  exact Ra.of (ag.sets rd _ _) fun hs => ⟨rfl, fun _ => by rw [d1 hs]; exact bg.sets rd _⟩
 rw [if_neg c18, if_neg c18]
 by_cases c19 : x.op < 61
 ·rw [if_pos c19, if_pos c19]
  exact Ra.of (ac.sets rd _ _) fun hs => ⟨rfl, fun _ => by rw [(d3 hs).1, (d3 hs).2.1, (d3 hs).2.2]; exact bc.sets rd _⟩
 rw [if_neg c19, if_neg c19]
 by_cases c20 : x.op < 80
 ·rw [if_pos c20, if_pos c20]
  exact Ra.of (ag.sets rd _ _) fun hs => ⟨rfl, fun _ => by rw [d1 hs]; exact bg.sets rd _⟩
 rw [if_neg c20, if_neg c20]
 have ast : (t.s.gets ra).stuck = (u.s.gets ra).stuck := ag.stk
 by_cases c21 : x.op < 85
 ·rw [if_pos c21, if_pos c21]
  cases hst : (u.s.gets ra).stuck
  ·rw [ast, hst, Bool.not_false, Bool.and_true, d1 hst, a.M, a.done]
   generalize wid (x.op - 80) (ldv u.M (u.s.reg ra) (ldn (x.op - 80))) = z
   cases St.stK 5 (srch u.M 1 (u.s.reg ra) (ldn (x.op - 80)).toNat) != 0
   ·have aq := ag.sets rd z z
    exact Ra.of (l := none) (l' := none) (t' := ⟨(t.s.gets ra).sets rd z, u.M, t.f⟩) (u' := ⟨(u.s.gets ra).sets rd z, u.M⟩) ⟨aq.at_, aq.c, aq.done, aq.ran, aq.stk, rfl, aq.fs, aq.en, aq.dn⟩ fun _ => ⟨rfl, fun _ => bg.sets rd z⟩
   ·exact Ra.of (l := some _) (l' := some _) (t' := ⟨t.s.gets ra, u.M, t.f⟩) (u' := ⟨u.s.gets ra, u.M⟩) ⟨ag.at_, ag.c, ag.done, ag.ran, ag.stk, rfl, ag.fs, ag.en, ag.dn⟩ fun _ => ⟨rfl, fun h => nomatch h⟩
  ·refine ⟨?_, ?_, a.M, fun h => ?_⟩
   ·refine Eq.trans (b := true) ?_ (Eq.symm ?_)
    ·show (ifS _ _ _).stuck = true
     unfold ifS; split <;> exact ast.trans hst
    ·show (ifR _ _ _).stuck = true
     unfold ifR; split <;> exact hst
   ·refine Eq.trans (b := t.s.c) ?_ (Eq.trans a.c (Eq.symm ?_))
    ·show (ifS _ _ _).c = t.s.c
     unfold ifS; split <;> rfl
    ·show (ifR _ _ _).c = u.s.c
     unfold ifR; split <;> rfl
   ·exfalso
    have h' : (ifR (St.stK 5 (srch u.M 1 (u.s.reg ra) (ldn (x.op - 80)).toNat) != 0) (u.s.gets ra) ((u.s.gets ra).sets rd (wid (x.op - 80) (ldv u.M (u.s.reg ra) (ldn (x.op - 80)))))).stuck = false := h
    unfold ifR at h'
    split at h'
    ·exact absurd (hst.symm.trans h') (by decide)
    ·exact absurd (hst.symm.trans h') (by decide)
 rw [if_neg c21, if_neg c21]
 have an := ag.gets bg rd
 have bn := bg.gets rd
 have d4 : ((u.s.gets ra).gets rd).stuck = false → t.s.reg ra = u.s.reg ra ∧ t.s.reg rd = u.s.reg rd := fun hs => ⟨d1 (st_gets hs), bg.got (r := rd) hs⟩
 have an' : ((t.s.gets ra).gets rd).stuck = ((u.s.gets ra).gets rd).stuck := an.stk
 cases hst : ((u.s.gets ra).gets rd).stuck
 ·rw [an', hst, (d4 hst).1, (d4 hst).2, a.M, a.done]
  exact Ra.of (t' := ⟨(t.s.gets ra).gets rd, _, t.f⟩) (u' := ⟨(u.s.gets ra).gets rd, _⟩) ⟨a.at_, a.c, a.done, a.ran, an.stk, rfl, a.fs, a.en, a.dn⟩ fun _ => ⟨rfl, fun _ => bn⟩
 ·rw [an', hst]
  refine ⟨an'.trans rfl, a.c, ?_, fun h => absurd (hst.symm.trans h) (by decide)⟩
  exact a.M
/-- both runs end alike -/
theorem x13_of (us : List Int) (k : Int) : (decP us k).1.op = 13 → (decP us k).1.x = 0 := by
 unfold decP
 split
 ·intro h; rfl
 split
 ·intro h; rfl
 split
 ·intro h; rfl
 split
 ·intro h; rfl
 split
 ·intro h; rfl
 split
 ·intro h
  have h' : us.getD k.toNat 0 % 256 = 13 := h
  show pick (decide (2 < wd (fcls (us.getD k.toNat 0 % 256)))) _ = 0
  rw [h']
  rfl
 ·intro h; rfl
def ReT (K : Hk) (t : Hst) (u : Rst) : Prop := R0 t.s t.M u ∧ (ent K.us u.s.at_ = true ∨ R1 t.s t.f u.s) ∧ u.s.stuck = false
theorem rel_step (K : Hk) (us : UsOk K.us) (t : Hst) (u : Rst) (h : ReT K t u) : (∃ r, stepP K t = .inl r ∧ stepQ K u = .inl r) ∨ ∃ t' u', stepP K t = .inr t' ∧ stepQ K u = .inr u' ∧ ReT K t' u' := by
 obtain ⟨a, b, hs⟩ := h
 obtain ⟨⟨x, m, z⟩, hr⟩ : ∃ r, decP K.us u.s.at_ = r := ⟨_, rfl⟩
 have hr' : decP K.us t.s.at_ = (x, m, z) := by rw [a.at_]; exact hr
 by_cases hz : z = 0
 ·subst hz
  have ok := (decP_ok K.us us u.s.at_ (by rw [hr])).1
  have k13 := x13_of K.us u.s.at_
  rw [hr] at ok k13
  have a' : R0 { t.s with at_ := t.s.at_ + m } t.M { u with s := { u.s with at_ := u.s.at_ + m } } := ⟨by show t.s.at_ + m = u.s.at_ + m; rw [a.at_], a.c, a.done, a.ran, a.stk, a.M, a.fs, a.en, a.dn⟩
  have R := rel_do K x { t with s := { t.s with at_ := t.s.at_ + m } } { u with s := { u.s with at_ := u.s.at_ + m } } ok k13 a' (b.imp (fun e => by unfold ent at e; rw [hr] at e; simpa using e) fun q => ⟨q.has, q.reg, q.sp⟩) hs
  obtain ⟨⟨l, d⟩, hd⟩ : ∃ r, doP K x { t with s := { t.s with at_ := t.s.at_ + m } } = r := ⟨_, rfl⟩
  obtain ⟨⟨l', d'⟩, hd'⟩ : ∃ r, doR K x { u with s := { u.s with at_ := u.s.at_ + m } } = r := ⟨_, rfl⟩
  rw [hd, hd'] at R
  obtain ⟨r1, r2, r3, r4⟩ := R
  dsimp only at r1 r2 r3 r4
  have P := stepP_ok hr' hd
  have Q := stepQ_ok hr hd'
  cases hst : d'.s.stuck
  ·obtain ⟨rfl, r5⟩ := r4 hst
   rw [hst] at r1
   cases l with
   | none =>
    refine .inr ⟨_, _, P.2.2 r1 rfl, Q.2.2 hst rfl, (r5 rfl).1, .inr ?_, hst⟩
    have q := (r5 rfl).2
    exact ⟨q.has, q.reg, q.sp⟩
   | some l => exact .inl ⟨_, P.2.1 r1 l rfl, by rw [Q.2.1 hst l rfl, r2, r3, a.at_]⟩
  ·rw [hst] at r1
   exact .inl ⟨_, P.1 r1, by rw [Q.1 hst, r2, r3, a.at_]⟩
 ·refine .inl ⟨⟨t.s.c, t.M, ⟨5, 0, 0, 0, 0⟩, t.s.at_⟩, ?_, ?_⟩
  ·unfold stepP; rw [hr']; exact if_neg hz
  ·unfold stepQ; rw [hr, a.c, a.M, a.at_]; exact if_neg hz
theorem rel_run (K : Hk) (us : UsOk K.us) : ∀ (g : Nat) (t : Hst) (u : Rst), ReT K t u → runN K g t = runQ K g u
 | 0, t, u, h => by
  rcases rel_step K us t u h with ⟨r, e1, e2⟩ | ⟨t', u', e1, e2, _⟩
  ·unfold runN runQ; rw [e1, e2]
  ·unfold runN runQ; rw [e1, e2]
 | g + 1, t, u, h => by
  rcases rel_step K us t u h with ⟨r, e1, e2⟩ | ⟨t', u', e1, e2, h'⟩
  ·unfold runN runQ; rw [e1, e2]
  ·unfold runN runQ; rw [e1, e2]; exact rel_run K us g t' u' h'
/-- where a step goes on -/
theorem do_at (K : Hk) (x : Cd) (t : Hst) : (doP K x t).2.s.stuck = true ∨ (doP K x t).2.s.at_ = t.s.at_ ∨ ent K.us (doP K x t).2.s.at_ = true := by
 unfold doP
 generalize x.a.toNat = ra
 generalize x.b.toNat = rb
 generalize x.c.toNat = rc
 generalize x.d.toNat = rd
 generalize x.n.toNat = rn
 have G : ∀ s : Pm, (s.goes K.us x).stuck = true ∨ ent K.us (s.goes K.us x).at_ = true := fun s => by
  cases h : ent K.us x.k
  ·left; show (s.stuck || !ent K.us x.k) = true; rw [h]; simp
  ·right; exact h
 unfold doN
 by_cases c0 : x.op = 1
 ·rw [if_pos c0]
  right; left
  split <;> rfl
 rw [if_neg c0]
 by_cases c1 : x.op = 10
 ·rw [if_pos c1]
  exact .inr (.inl rfl)
 rw [if_neg c1]
 by_cases c2 : x.op = 11
 ·rw [if_pos c2]
  exact .inr (.inl rfl)
 rw [if_neg c2]
 by_cases c3 : x.op = 96
 ·rw [if_pos c3]
  show (ifS _ _ _).stuck = true ∨ (ifS _ _ _).at_ = _ ∨ ent K.us (ifS _ _ _).at_ = true
  unfold ifS
  split
  ·exact (G _).imp id .inr
  ·exact .inr (.inl rfl)
 rw [if_neg c3]
 by_cases c4 : x.op = 14
 ·rw [if_pos c4]
  exact .inr (.inl rfl)
 rw [if_neg c4]
 by_cases c5 : x.op = 15
 ·rw [if_pos c5]
  exact (G _).imp id .inr
 rw [if_neg c5]
 by_cases c6 : x.op = 12
 ·rw [if_pos c6]
  exact .inr (.inl rfl)
 rw [if_neg c6]
 by_cases c7 : x.op = 13
 ·rw [if_pos c7]
  exact .inr (.inl rfl)
 rw [if_neg c7]
 by_cases c8 : x.op = 4
 ·rw [if_pos c8]
  show (lvS K t.s ra x.n).stuck = true ∨ (lvS K t.s ra x.n).at_ = _ ∨ ent K.us (lvS K t.s ra x.n).at_ = true
  unfold lvS
  split
  ·rename_i g hg
   right; right
   show ent K.us g = true
   unfold lvE at hg
   split at hg
   ·exact nomatch hg
   split at hg
   ·exact nomatch hg
   split at hg
   ·rename_i h3
    cases hg
    exact h3.2.2
   ·exact nomatch hg
  ·exact .inr (.inl rfl)
 rw [if_neg c8]
 by_cases c9 : x.op = 2
 ·rw [if_pos c9]
  exact .inr (.inl rfl)
 rw [if_neg c9]
 by_cases c10 : x.op = 3
 ·rw [if_pos c10]
  exact .inr (.inl rfl)
 rw [if_neg c10]
 by_cases c11 : x.op = 6
 ·rw [if_pos c11]
  exact .inr (.inl rfl)
 rw [if_neg c11]
 by_cases c12 : x.op = 7
 ·rw [if_pos c12]
  right; left
  split <;> rfl
 rw [if_neg c12]
 by_cases c13 : x.op = 8
 ·rw [if_pos c13]
  exact .inr (.inl rfl)
 rw [if_neg c13]
 by_cases c14 : x.op = 9
 ·rw [if_pos c14]
  exact .inr (.inl rfl)
 rw [if_neg c14]
 by_cases c15 : x.op = 97
 ·rw [if_pos c15]
  exact .inr (.inl rfl)
 rw [if_neg c15]
 by_cases c16 : x.op = 5
 ·rw [if_pos c16]
  exact .inr (.inl rfl)
 rw [if_neg c16]
 by_cases c17 : x.op < 32
 ·rw [if_pos c17]
  exact .inr (.inl rfl)
 rw [if_neg c17]
 by_cases c18 : x.op < 39
 ·rw [if_pos c18]
  exact .inr (.inl rfl)
 rw [if_neg c18]
 by_cases c19 : x.op < 61
 ·rw [if_pos c19]
  exact .inr (.inl rfl)
 rw [if_neg c19]
 by_cases c20 : x.op < 80
 ·rw [if_pos c20]
  exact .inr (.inl rfl)
 rw [if_neg c20]
 by_cases c21 : x.op < 85
 ·rw [if_pos c21]
  show (ifS _ _ _).stuck = true ∨ (ifS _ _ _).at_ = _ ∨ ent K.us (ifS _ _ _).at_ = true
  unfold ifS
  split
  ·exact .inr (.inl rfl)
  ·exact .inr (.inl rfl)
 rw [if_neg c21]
 exact .inr (.inl rfl)
theorem step_inr {K : Hk} {t t' : Hst} (us : UsOk K.us) (h : stepP K t = .inr t') : t'.s.ran = t.s.ran + 1 ∧ 0 ≤ t.s.at_ ∧ t.s.at_ < K.us.length ∧ (t.s.at_ < t'.s.at_ ∧ t'.s.at_ ≤ K.us.length ∨ ent K.us t'.s.at_ = true) := by
 obtain ⟨⟨x, m, z⟩, hr⟩ : ∃ r, decP K.us t.s.at_ = r := ⟨_, rfl⟩
 by_cases hz : z = 0
 ·subst hz
  have ok := decP_ok K.us us t.s.at_ (by rw [hr])
  rw [hr] at ok
  obtain ⟨hx, k0, m1, m3, kl⟩ := ok
  dsimp only at hx m1 m3 kl
  obtain ⟨⟨l, d⟩, hd⟩ : ∃ r, doP K x { t with s := { t.s with at_ := t.s.at_ + m } } = r := ⟨_, rfl⟩
  have P := stepP_ok hr hd
  have A := do_at K x { t with s := { t.s with at_ := t.s.at_ + m } }
  have R := do_ran K x { t with s := { t.s with at_ := t.s.at_ + m } }
  rw [hd] at A R
  cases hst : d.s.stuck
  ·cases l with
   | none =>
    rw [P.2.2 hst rfl] at h
    cases h
    refine ⟨by show d.s.ran + 1 = _; rw [show d.s.ran = t.s.ran from R], k0, by omega, ?_⟩
    rcases A with A | A | A
    ·exact absurd (hst.symm.trans A) (by decide)
    ·left
     have A' : d.s.at_ = t.s.at_ + m := A
     show t.s.at_ < d.s.at_ ∧ d.s.at_ ≤ _
     omega
    ·right; exact A
   | some l => rw [P.2.1 hst l rfl] at h; exact nomatch h
  ·rw [P.1 hst] at h; exact nomatch h
 ·unfold stepP at h
  rw [hr] at h
  rw [if_neg hz] at h
  exact nomatch h
theorem end_ent {K : Hk} {t : Hst} (h : ent K.us t.s.at_ = true) (hr : 1048576 ≤ t.s.ran) : ∃ r, stepP K t = .inl r := by
 unfold ent at h
 obtain ⟨⟨x, m, z⟩, hd⟩ : ∃ r, decP K.us t.s.at_ = r := ⟨_, rfl⟩
 rw [hd] at h
 simp only [Bool.and_eq_true, decide_eq_true_eq] at h
 obtain ⟨rfl, ho⟩ := h
 obtain ⟨⟨l, d⟩, he⟩ : ∃ r, doP K x { t with s := { t.s with at_ := t.s.at_ + m } } = r := ⟨_, rfl⟩
 have P := stepP_ok hd he
 cases hst : d.s.stuck
 ·cases l with
  | none =>
   exfalso
   unfold doP doN at he
   rw [if_pos ho] at he
   have e := congrArg Prod.fst he
   dsimp only at e
   unfold entL at e
   split at e
   ·exact nomatch e
   split at e
   ·exact nomatch e
   exact nomatch e
  | some l => exact ⟨_, P.2.1 hst l rfl⟩
 ·exact ⟨_, P.1 hst⟩
theorem end_far {K : Hk} (us : UsOk K.us) : ∀ (n : Nat) (t : Hst), 1048576 ≤ t.s.ran → (0 ≤ t.s.at_ → (K.us.length : Int) - t.s.at_ ≤ n) → ∃ r, runN K (n + 1) t = some r
 | n, t, hr, hm => by
  cases hs : stepP K t with
  | inl r => exact ⟨r, runN_inl _ hs⟩
  | inr t' =>
   obtain ⟨h1, h2, h3, h4⟩ := step_inr us hs
   have e : runN K (n + 1) t = runN K n t' := by rw [runN]; rw [hs]
   rw [e]
   have hm := hm h2
   rcases h4 with ⟨h5, h6⟩ | h4
   ·match n, hm with
    | 0, hm => exact absurd hm (by omega)
    | n + 1, hm => exact end_far us n t' (by omega) (fun _ => by omega)
   ·obtain ⟨r, hq⟩ := end_ent h4 (by omega)
    exact ⟨r, runN_inl _ hq⟩
theorem end_run {K : Hk} (us : UsOk K.us) : ∀ (k : Nat) (t : Hst), 1048576 ≤ t.s.ran + k → ∃ r, runN K (k + (K.us.length + 1)) t = some r
 | 0, t, hr => by rw [Nat.zero_add]; exact end_far us _ t (by omega) (fun h => by omega)
 | k + 1, t, hr => by
  rw [show k + 1 + (K.us.length + 1) = (k + (K.us.length + 1)) + 1 by omega]
  cases hs : stepP K t with
  | inl r => exact ⟨r, runN_inl _ hs⟩
  | inr t' =>
   obtain ⟨h1, _⟩ := step_inr us hs
   have e : runN K (k + (K.us.length + 1) + 1) t = runN K (k + (K.us.length + 1)) t' := by rw [runN]; rw [hs]
   rw [e]
   exact end_run us k t' (by omega)
/-- the machine at the start -/
def pm0 (at_ : Int) (cx : Nat → Int) : Pm := ⟨at_, cx, 0, fun _ => 0, fun _ => 0, none, 0, 0, false⟩
def hst0 (at_ : Int) (cx : Nat → Int) (M : MM) : Hst := ⟨pm0 at_ cx, M, fun _ => none⟩
/-- how a run from a word on ends -/
def runR (K : Hk) (at_ : Int) (cx : Nat → Int) (M : MM) (G : Nat) : Option Res :=
 if ent K.us at_ = true then runN K G (hst0 at_ cx M) else some ⟨cx, M, ⟨5, 0, 0, 0, 0⟩, at_⟩
def rm0 (at_ : Int) (cx : Nat → Int) : Rm := ⟨at_, cx, 0, fun _ => 0, fun _ => false, fun _ => 0, fun _ => false, 0, false⟩
def runS (K : Hk) (at_ : Int) (cx : Nat → Int) (M : MM) (G : Nat) : Option Res :=
 if ent K.us at_ = true then runQ K G ⟨rm0 at_ cx, M⟩ else some ⟨cx, M, ⟨5, 0, 0, 0, 0⟩, at_⟩
theorem run_same (K : Hk) (us : UsOk K.us) (at_ : Int) (cx : Nat → Int) (M : MM) (G : Nat) : runR K at_ cx M G = runS K at_ cx M G := by
 unfold runR runS
 by_cases h : ent K.us at_ = true
 ·rw [if_pos h, if_pos h]
  exact rel_run K us G _ _ ⟨⟨rfl, rfl, rfl, rfl, rfl, rfl, fun _ => Int.le_refl _, ⟨Int.le_refl _, Int.le_refl _⟩, ⟨by show (-9223372036854775808 : Int) ≤ 0; decide, by show (0 : Int) ≤ 9223372036854775807; decide⟩⟩, .inl h, rfl⟩
 ·rw [if_neg h, if_neg h]
theorem run_ends (K : Hk) (us : UsOk K.us) (at_ : Int) (cx : Nat → Int) (M : MM) : ∃ r, runR K at_ cx M (1048576 + (K.us.length + 1)) = some r := by
 unfold runR
 by_cases h : ent K.us at_ = true
 ·rw [if_pos h]
  exact end_run us 1048576 _ (by show (1048576 : Int) ≤ 0 + _; omega)
 ·rw [if_neg h]; exact ⟨_, rfl⟩
end Go.Proofs.Ytcjcmnnhmajocab.Hr
namespace Go.Proofs.Ytcjcmnnhmajocab.Hr
open Go.RowKit Kt Me Fl Ev Ho
structure TR (s : Rm) : Prop where
 c : ∀ j, 0 ≤ s.c j ∧ s.c j < 4294967296
 r : ∀ j, 0 ≤ s.reg j ∧ s.reg j < 4294967296
 v : ∀ j, 0 ≤ s.spv j ∧ s.spv j < 4294967296
theorem TR.gets {s : Rm} (a : TR s) (r : Nat) : TR (s.gets r) := ⟨a.c, a.r, a.v⟩
theorem upd_ok {f : Nat → Int} (h : ∀ j, 0 ≤ f j ∧ f j < 4294967296) (r : Nat) (z : Int) (hz : 0 ≤ z ∧ z < 4294967296) : ∀ j, 0 ≤ upd f r z j ∧ upd f r z j < 4294967296 := by
 intro j; unfold upd; split
 ·exact hz
 ·exact h j
theorem TR.sets {s : Rm} (a : TR s) (r : Nat) (z : Int) (hz : 0 ≤ z ∧ z < 4294967296) : TR (s.sets r z) := ⟨a.c, upd_ok a.r r z hz, a.v⟩
theorem zz : (0 : Int) ≤ 0 ∧ (0 : Int) < 4294967296 := by decide
theorem trR (K : Hk) (x : Cd) (t : Rst) (T : TR t.s) (hM : MOk t.M) (hx : CdOk x) : TR (doR K x t).2.s ∧ MOk (doR K x t).2.M := by
 have hk := hx.k
 have hp := hx.op
 unfold doR
 generalize x.a.toNat = ra
 generalize x.b.toNat = rb
 generalize x.c.toNat = rc
 generalize x.d.toNat = rd
 generalize x.n.toNat = rn
 unfold doM
 by_cases c0 : x.op = 1
 ·rw [if_pos c0]
  by_cases h : entR K t.M t.s x = none
  ·rw [if_pos h]; exact ⟨⟨T.c, fun _ => zz, fun _ => zz⟩, hM⟩
  ·rw [if_neg h]; exact ⟨T, hM⟩
 rw [if_neg c0]
 by_cases c1 : x.op = 10
 ·rw [if_pos c1]; exact ⟨T, hM⟩
 rw [if_neg c1]
 by_cases c2 : x.op = 11
 ·rw [if_pos c2]; exact ⟨T.gets ra, hM⟩
 rw [if_neg c2]
 by_cases c3 : x.op = 96
 ·rw [if_pos c3]
  refine ⟨?_, hM⟩
  show TR (ifR _ _ _)
  unfold ifR
  split
  ·exact ⟨T.c, T.r, T.v⟩
  ·exact T.gets ra
 rw [if_neg c3]
 by_cases c4 : x.op = 14
 ·rw [if_pos c4]; exact ⟨T, hM⟩
 rw [if_neg c4]
 by_cases c5 : x.op = 15
 ·rw [if_pos c5]; exact ⟨⟨T.c, T.r, T.v⟩, hM⟩
 rw [if_neg c5]
 by_cases c6 : x.op = 12
 ·rw [if_pos c6]; exact ⟨T, hM⟩
 rw [if_neg c6]
 by_cases c7 : x.op = 13
 ·rw [if_pos c7]; exact ⟨T.gets ra, hM⟩
 rw [if_neg c7]
 by_cases c8 : x.op = 4
 ·rw [if_pos c8]
  refine ⟨?_, hM⟩
  show TR (lwS K t.s ra x.n)
  unfold lwS
  split <;> exact ⟨T.c, T.r, T.v⟩
 rw [if_neg c8]
 by_cases c9 : x.op = 2
 ·rw [if_pos c9]; exact ⟨T.sets rd _ hk, hM⟩
 rw [if_neg c9]
 by_cases c10 : x.op = 3
 ·rw [if_pos c10]; exact ⟨(T.gets ra).sets rd _ (T.r ra), hM⟩
 rw [if_neg c10]
 by_cases c11 : x.op = 6
 ·rw [if_pos c11]; exact ⟨T.sets rd _ (T.c rn), hM⟩
 rw [if_neg c11]
 by_cases c12 : x.op = 7
 ·rw [if_pos c12]
  refine ⟨?_, hM⟩
  show TR (if (t.s.gets ra).stuck = true then t.s.gets ra else _)
  split
  ·exact T.gets ra
  ·exact ⟨upd_ok T.c rn _ (T.r ra), T.r, T.v⟩
 rw [if_neg c12]
 by_cases c13 : x.op = 8
 ·rw [if_pos c13]; exact ⟨TR.sets (s := ({ t.s with stuck := t.s.stuck || !t.s.held rn } : Rm)) ⟨T.c, T.r, T.v⟩ rd _ (T.v rn), hM⟩
 rw [if_neg c13]
 by_cases c14 : x.op = 9
 ·rw [if_pos c14]; exact ⟨⟨T.c, T.r, upd_ok T.v rn _ (T.r ra)⟩, hM⟩
 rw [if_neg c14]
 by_cases c15 : x.op = 97
 ·rw [if_pos c15]; exact ⟨T.sets rd _ (by have := St.fl_bd (t.s.c 8) (t.s.c 9) (t.s.c 10) (t.s.c 11); omega), hM⟩
 rw [if_neg c15]
 by_cases c16 : x.op = 5
 ·rw [if_pos c16]; exact ⟨(((T.gets ra).gets rb).gets rc).sets rd _ (valV_bd _ _ _ _ _ _ (by decide) (by decide) (T.r ra).1 (T.r ra).2 (T.r rb).1 (T.r rb).2 (T.r rc).1 (T.r rc).2), hM⟩
 rw [if_neg c16]
 by_cases c17 : x.op < 32
 ·rw [if_pos c17]; exact ⟨((T.gets ra).gets rb).sets rd _ (valV_bd _ _ _ _ _ _ (by decide) (by decide) (T.r ra).1 (T.r ra).2 (T.r rb).1 (T.r rb).2 (by decide) (by decide)), hM⟩
 rw [if_neg c17]
 by_cases c18 : x.op < 39
 ·rw [if_pos c18]; exact ⟨(T.gets ra).sets rd _ (valV_bd _ _ _ _ _ _ (by decide) (by decide) (T.r ra).1 (T.r ra).2 (by decide) (by decide) (by decide) (by decide)), hM⟩
 rw [if_neg c18]
 by_cases c19 : x.op < 61
 ·rw [if_pos c19]; exact ⟨(((T.gets ra).gets rb).gets rc).sets rd _ (valV_bd _ _ _ _ _ _ (by decide) (by decide) (T.r ra).1 (T.r ra).2 (T.r rb).1 (T.r rb).2 (T.r rc).1 (T.r rc).2), hM⟩
 rw [if_neg c19]
 by_cases c20 : x.op < 80
 ·rw [if_pos c20]; exact ⟨(T.gets ra).sets rd _ (valV_bd _ _ _ _ _ _ (by decide) (by decide) (T.r ra).1 (T.r ra).2 (by decide) (by decide) (by decide) (by decide)), hM⟩
 rw [if_neg c20]
 by_cases c21 : x.op < 85
 ·rw [if_pos c21]
  have b := ldv_bd hM (t.s.reg ra) (ldn (x.op - 80))
  refine ⟨?_, hM⟩
  show TR (ifR _ _ _)
  unfold ifR
  split
  ·exact T.gets ra
  ·exact (T.gets ra).sets rd _ (wid_bd _ _ b.1 b.2)
 rw [if_neg c21]
 refine ⟨(T.gets ra).gets rd, ?_⟩
 show MOk (ifM _ _ _)
 unfold ifM
 split
 ·exact hM
 ·exact hM.stm _ _ _ (T.r rd).1 (T.r rd).2
theorem doR_ran (K : Hk) (x : Cd) (t : Rst) : (doR K x t).2.s.ran = t.s.ran := by
 unfold doR
 generalize x.a.toNat = ra
 generalize x.b.toNat = rb
 generalize x.c.toNat = rc
 generalize x.d.toNat = rd
 generalize x.n.toNat = rn
 unfold doM
 by_cases c0 : x.op = 1
 ·rw [if_pos c0]
  first | rfl | (dsimp only; split <;> rfl)
 rw [if_neg c0]
 by_cases c1 : x.op = 10
 ·rw [if_pos c1]
  try rfl
 rw [if_neg c1]
 by_cases c2 : x.op = 11
 ·rw [if_pos c2]
  try rfl
 rw [if_neg c2]
 by_cases c3 : x.op = 96
 ·rw [if_pos c3]
  show (ifR _ _ _).ran = _
  unfold ifR
  (split <;> rfl)
 rw [if_neg c3]
 by_cases c4 : x.op = 14
 ·rw [if_pos c4]
  try rfl
 rw [if_neg c4]
 by_cases c5 : x.op = 15
 ·rw [if_pos c5]
  try rfl
 rw [if_neg c5]
 by_cases c6 : x.op = 12
 ·rw [if_pos c6]
  try rfl
 rw [if_neg c6]
 by_cases c7 : x.op = 13
 ·rw [if_pos c7]
  try rfl
 rw [if_neg c7]
 by_cases c8 : x.op = 4
 ·rw [if_pos c8]
  show (lwS _ _ _ _).ran = _
  unfold lwS
  split <;> rfl
 rw [if_neg c8]
 by_cases c9 : x.op = 2
 ·rw [if_pos c9]
  try rfl
 rw [if_neg c9]
 by_cases c10 : x.op = 3
 ·rw [if_pos c10]
  try rfl
 rw [if_neg c10]
 by_cases c11 : x.op = 6
 ·rw [if_pos c11]
  try rfl
 rw [if_neg c11]
 by_cases c12 : x.op = 7
 ·rw [if_pos c12]
  first | rfl | (dsimp only; split <;> rfl)
 rw [if_neg c12]
 by_cases c13 : x.op = 8
 ·rw [if_pos c13]
  try rfl
 rw [if_neg c13]
 by_cases c14 : x.op = 9
 ·rw [if_pos c14]
  try rfl
 rw [if_neg c14]
 by_cases c15 : x.op = 97
 ·rw [if_pos c15]
  try rfl
 rw [if_neg c15]
 by_cases c16 : x.op = 5
 ·rw [if_pos c16]
  try rfl
 rw [if_neg c16]
 by_cases c17 : x.op < 32
 ·rw [if_pos c17]
  try rfl
 rw [if_neg c17]
 by_cases c18 : x.op < 39
 ·rw [if_pos c18]
  try rfl
 rw [if_neg c18]
 by_cases c19 : x.op < 61
 ·rw [if_pos c19]
  try rfl
 rw [if_neg c19]
 by_cases c20 : x.op < 80
 ·rw [if_pos c20]
  try rfl
 rw [if_neg c20]
 by_cases c21 : x.op < 85
 ·rw [if_pos c21]
  show (ifR _ _ _).ran = _
  unfold ifR
  (split <;> rfl)
 rw [if_neg c21]
 rfl
end Go.Proofs.Ytcjcmnnhmajocab.Hr
