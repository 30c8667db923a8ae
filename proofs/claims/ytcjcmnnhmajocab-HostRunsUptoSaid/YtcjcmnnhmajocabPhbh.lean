/- The document's host, told plainly. -/
import Derived.Test.YtcjcmnnhmajocabPhbb
import Derived.Test.YtcjcmnnhmajocabPhbg
set_option linter.unusedVariables false
set_option linter.unusedSimpArgs false
set_option maxRecDepth 100000
set_option maxHeartbeats 16000000
namespace Go.Proofs.Ytcjcmnnhmajocab.Hr
open Go.RowKit Kt Me Fl Ev Ho
/-- the machine, its memory, its spills -/
structure Hst where
 s : Pm
 M : MM
 f : Nat → Option Int
/-- one instruction -/
def doN (K : Hk) (x : Cd) (t : Hst) (ra rb rc rd rn : Nat) : Option Lf × Hst :=
 if x.op = 1 then (entL K t.M t.s x, if entL K t.M t.s x = none then { t with s := { t.s with en := wrap64 (t.s.en + 1) }, f := fun _ => none } else t) else
 if x.op = 10 then (ifL (anyT t.M.hi) ⟨1, 0, 0, x.k, wrap64 (t.s.done + x.n)⟩, t) else
 if x.op = 11 then (ifL (t.s.reg ra != 0) ⟨1, 0, 0, x.k, wrap64 (t.s.done + x.n)⟩, { t with s := t.s.gets ra }) else
 if x.op = 96 then (none, { t with s := ifS (t.s.reg ra != 0 && !(t.s.gets ra).stuck) ((t.s.gets ra).goes K.us x) (t.s.gets ra) }) else
 if x.op = 14 then (some ⟨1, 0, 0, x.k, wrap64 (t.s.done + x.n)⟩, t) else
 if x.op = 15 then (none, { t with s := t.s.goes K.us x }) else
 if x.op = 12 then (some ⟨3, x.d, x.x, x.k, wrap64 (t.s.done + x.n)⟩, t) else
 if x.op = 13 then (ifL (t.s.reg ra != 0) ⟨3, x.d, 0, x.k, wrap64 (t.s.done + x.n)⟩, { t with s := t.s.gets ra }) else
 if x.op = 4 then (lvL K t.s ra x.n, { t with s := lvS K t.s ra x.n }) else
 if x.op = 2 then (none, { t with s := t.s.sets rd x.k }) else
 if x.op = 3 then (none, { t with s := (t.s.gets ra).sets rd (t.s.reg ra) }) else
 if x.op = 6 then (none, { t with s := t.s.sets rd (t.s.c rn) }) else
 if x.op = 7 then (none, { t with s := if (t.s.gets ra).stuck then t.s.gets ra else { t.s.gets ra with c := upd t.s.c rn (t.s.reg ra) } }) else
 if x.op = 8 then (none, { t with s := ({ t.s with stuck := !(t.f rn).isSome } : Pm).sets rd ((t.f rn).getD 0) }) else
 if x.op = 9 then (none, { t with s := t.s.gets ra, f := updO t.f rn (some (t.s.reg ra)) }) else
 if x.op = 97 then (none, { t with s := t.s.sets rd (fl (t.s.c 8) (t.s.c 9) (t.s.c 10) (t.s.c 11)) }) else
 if x.op = 5 then (none, { t with s := (((t.s.gets ra).gets rb).gets rc).sets rd (valV 6 0 0 (t.s.reg ra) (t.s.reg rb) (t.s.reg rc)) }) else
 if x.op < 32 then (none, { t with s := ((t.s.gets ra).gets rb).sets rd (valV 4 (x.op - 16) 0 (t.s.reg ra) (t.s.reg rb) 0) }) else
 if x.op < 39 then (none, { t with s := (t.s.gets ra).sets rd (valV 5 (x.op - 32) 0 (t.s.reg ra) 0 0) }) else
 if x.op < 61 then (none, { t with s := (((t.s.gets ra).gets rb).gets rc).sets rd (valV 7 (x.op - 48) 0 (t.s.reg ra) (t.s.reg rb) (t.s.reg rc)) }) else
 if x.op < 80 then (none, { t with s := (t.s.gets ra).sets rd (valV 8 (x.op - 64) 0 (t.s.reg ra) 0 0) }) else
 if x.op < 85 then (ifL ((St.stK 5 (srch t.M 1 (t.s.reg ra) (ldn (x.op - 80)).toNat)) != 0 && !(t.s.gets ra).stuck) ⟨3, (St.stK 5 (srch t.M 1 (t.s.reg ra) (ldn (x.op - 80)).toNat)), (St.stX (srch t.M 1 (t.s.reg ra) (ldn (x.op - 80)).toNat)), x.k, wrap64 (t.s.done + x.n)⟩, { t with s := ifS ((St.stK 5 (srch t.M 1 (t.s.reg ra) (ldn (x.op - 80)).toNat)) != 0 && !(t.s.gets ra).stuck) (t.s.gets ra) ((t.s.gets ra).sets rd (wid (x.op - 80) (ldv t.M (t.s.reg ra) (ldn (x.op - 80))))) }) else
 (ifL (!((t.s.gets ra).gets rd).stuck && (St.stK 6 (sto t.M (t.s.reg ra) (stn (x.op - 88)))) != 0) ⟨3, (St.stK 6 (sto t.M (t.s.reg ra) (stn (x.op - 88)))), (St.stX (sto t.M (t.s.reg ra) (stn (x.op - 88)))), x.k, wrap64 (t.s.done + x.n)⟩, { t with s := (t.s.gets ra).gets rd, M := ifM ((t.s.gets ra).gets rd).stuck t.M (stm t.M (t.s.reg ra) (stn (x.op - 88)) (t.s.reg rd)) })
def doP (K : Hk) (x : Cd) (t : Hst) : Option Lf × Hst := doN K x t x.a.toNat x.b.toNat x.c.toNat x.d.toNat x.n.toNat
/-- the spills' map, if there is one -/
def SpQ (base h : Nat) (sp : Option Nat) (f : Nat → Option Int) (n : Nat) (W : World) : Prop := ∀ b, sp = some b → SpR b f n W ∧ base ≤ b ∧ b ≠ h
/-- blocks that a step may write -/
def SB (base : Nat) (p : Nat) (i : Nat) : Prop := i = p ∨ base ≤ i
/-- what is at hand ahead of a step -/
structure HR (base h : Nat) (K : Hk) (t : Hst) (n : Nat) (W : World) : Prop where
 mr : MR h K t.s W
 hm : HC K.p t.M W
 sp : SpQ base h t.s.sp t.f n W
structure HRok (base h : Nat) (K : Hk) : Prop where
 us : UsOk K.us
 tl : K.tab.length ≤ 1048576
 h : base ≤ h
 p : K.p < base
 w : ∀ g, K.ao = some g → 0 < K.us.length → g.block < base ∧ g.block ≠ K.p
 t : ∀ g, K.tao = some g → 0 < K.tab.length → g.block < base ∧ g.block ≠ K.p
/-- numbers in range -/
structure TOk (t : Hst) : Prop where
 c : ∀ j, 0 ≤ t.s.c j ∧ t.s.c j < 4294967296
 r : RegOk t.s
 M : MOk t.M
/-- what a step answers -/
def DoQ (base h : Nat) (K : Hk) (t : Hst) (x : Cd) (n : Nat) (w : World) (e : Ending) (w' : World) : Prop :=
 ∃ sp', e = .returned (lfV (doP K x t).1) ∧ HR base h K { (doP K x t).2 with s := { (doP K x t).2.s with sp := sp' } } (n + 1) w' ∧ Upto (SB base K.p) w w' ∧ ((∃ b, t.s.sp = some b) ∨ (x.op = 1 ∧ (doP K x t).1 = none) → ∃ b, sp' = some b)
variable {base h n : Nat} {K : Hk} {t : Hst} {x : Cd} {w w' : World}
theorem SpQ.upto {S : Nat → Prop} {sp : Option Nat} {f : Nat → Option Int} (a : SpQ base h sp f n w) (u : Upto S w w') (hs : ∀ b, sp = some b → ¬ S b) : SpQ base h sp f (n + 1) w' :=
 fun b hb => ⟨((a b hb).1.upto u (hs b hb)).mono (Nat.le_succ _), (a b hb).2⟩
theorem fin_h (R : HR base h K t n w) (ok : HRok base h K) {s' : Pm} {l : Option Lf} {e : Ending} (hd : doP K x t = (l, { t with s := s' })) (he : e = .returned (lfV l)) (hs : s'.sp = t.s.sp) (h1 : x.op ≠ 1) (mr : MR h K s' w') (u : Upto (fun i => i = h) w w') : DoQ base h K t x n w e w' := by
 have hb := ok.h
 have hp := ok.p
 refine ⟨s'.sp, ?_, ⟨?_, ?_, ?_⟩, u.mono fun i _ hi => .inr (by omega), ?_⟩
 ·rw [hd]; exact he
 ·rw [hd]; exact mr
 ·rw [hd]; exact R.hm.upto u (by omega)
 ·rw [hd]
  show SpQ base h s'.sp t.f (n + 1) w'
  rw [hs]
  exact R.sp.upto u (fun b hb => (R.sp b hb).2.2)
 ·rintro (hx | ⟨hx, _⟩)
  ·rw [hs]; exact hx
  ·exact absurd hx h1
theorem lvS_sp (s : Pm) (r : Nat) (m : Int) : (lvS K s r m).sp = s.sp := by
 unfold lvS
 split <;> rfl
theorem ifS_sp (c : Bool) (a b : Pm) (h : a.sp = b.sp) : (ifS c a b).sp = b.sp := by
 unfold ifS
 cases c
 ·rfl
 ·exact h
theorem do_any (R : HR base h K t n w) (ok : HRok base h K) (T : TOk t) (hx : CdOk x) (hsl : Sl K.us K.ao K.cap w) (htb : Tb K.tab K.tao K.tcap w) (hsp : x.op = 8 ∨ x.op = 9 → ∃ b, t.s.sp = some b) (hn : n < maxLen) (hbw : base ≤ w.heap.size) : Calls Try.prog 90 #[.pointer (some ⟨h, 0, none⟩), .agg #[.int .i64 x.op, .int .i64 x.d, .int .i64 x.a, .int .i64 x.b, .int .i64 x.c, .int .i64 x.n, .int .u32 x.k, .int .u32 x.x]] w (DoQ base h K t x n w) := by
 have hq := hx.q
 have h0 := hx.op
 have a0 := hx.a.1
 have a1 := hx.a.2
 have b0 := hx.b.1
 have b1 := hx.b.2
 have c0 := hx.c.1
 have c1 := hx.c.2
 have d0 := hx.d.1
 have d1 := hx.d.2
 have n0 := hx.n.1
 have n1 := hx.n.2
 have ha : x.a = (x.a.toNat : Int) := by omega
 have la : x.a.toNat < 16 := by omega
 have hb' : x.b = (x.b.toNat : Int) := by omega
 have lb : x.b.toNat < 16 := by omega
 have hc : x.c = (x.c.toNat : Int) := by omega
 have lc : x.c.toNat < 16 := by omega
 have hd : x.d = (x.d.toNat : Int) := by omega
 have ld : x.d.toNat < 16 := by omega
 have hn' : x.n = (x.n.toNat : Int) := by omega
 have hb := ok.h
 have hp := ok.p
 have hph : K.p ≠ h := by omega
 have hsh : ∀ g, K.ao = some g → 0 < K.us.length → g.block ≠ h := fun g hg h0 => by have := ok.w g hg h0; omega
 have hth : ∀ g, K.tao = some g → 0 < K.tab.length → g.block ≠ h := fun g hg h0 => by have := ok.t g hg h0; omega
 by_cases c1 : x.op = 1
 ·have ho := c1
  have hd' : doP K x t = (entL K t.M t.s x, if entL K t.M t.s x = none then { t with s := { t.s with en := wrap64 (t.s.en + 1) }, f := fun _ => none } else t) := by unfold doP doN; rw [if_pos ho]
  refine (do_c1 x (entL K t.M t.s x) (fun W => (entL K t.M t.s x = none → ∃ b, MR h K { t.s with en := wrap64 (t.s.en + 1), sp := some b } W ∧ w.heap.size + 1 < b ∧ SpR b (fun _ => none) 0 W) ∧ (entL K t.M t.s x ≠ none → MR h K t.s W)) w R.mr (by omega) (fun w1 u1 l1 => ?_) (fun w1 w2 m u => ?_)).mono ?_
  ·refine (control_1 x t.M w1 (R.mr.upto u1 id) ho (R.hm.upto u1 id) hph).mono ?_
   rintro e w' ⟨he, h1, h2, u⟩
   exact ⟨he, ⟨fun hh => by obtain ⟨b, m, hb, sp⟩ := h1 hh; exact ⟨b, m, Nat.lt_of_lt_of_le l1 hb, sp⟩, h2⟩, u⟩
  ·have hne : ¬ h = w.heap.size + 1 := by have := R.mr.l; omega
   refine ⟨fun hh => ?_, fun hh => (m.2 hh).upto u hne⟩
   obtain ⟨b, mb, hb, sp⟩ := m.1 hh
   exact ⟨b, mb.upto u hne, hb, sp.upto u (by omega)⟩
  ·rintro e w' ⟨he, ⟨h1, h2⟩, u⟩
   have hl := R.mr.l
   by_cases hh : entL K t.M t.s x = none
   ·obtain ⟨b, mb, hb, sp⟩ := h1 hh
    rw [if_pos hh] at hd'
    refine ⟨some b, ?_, ⟨?_, ?_, ?_⟩, u.mono fun i _ hi => .inr (by omega), fun _ => ⟨b, rfl⟩⟩
    ·rw [hd']; exact he
    ·rw [hd']; exact mb
    ·rw [hd']; exact R.hm.upto u (by omega)
    ·rw [hd']
     intro b' hb'
     have : b' = b := (Option.some.inj hb').symm
     subst this
     exact ⟨sp.mono (Nat.zero_le _), by omega, by omega⟩
   ·rw [if_neg hh] at hd'
    refine ⟨t.s.sp, ?_, ⟨?_, ?_, ?_⟩, u.mono fun i _ hi => .inr (by omega), ?_⟩
    ·rw [hd']; exact he
    ·rw [hd']; exact h2 hh
    ·rw [hd']; exact R.hm.upto u (by omega)
    ·rw [hd']; exact R.sp.upto u (fun b hb => (R.sp b hb).2.2)
    ·rintro (hx | ⟨_, hx⟩)
     ·exact hx
     ·rw [hd'] at hx
      exact absurd hx hh
 by_cases c10 : x.op = 10
 ·have ho := c10
  have hd' : doP K x t = (ifL (anyT t.M.hi) ⟨1, 0, 0, x.k, wrap64 (t.s.done + x.n)⟩, t) := by unfold doP doN; rw [if_neg (by omega)]; rw [if_pos (by omega)]
  refine (do_c10 x (ifL (anyT t.M.hi) ⟨1, 0, 0, x.k, wrap64 (t.s.done + x.n)⟩) (fun W => MR h K t.s W) w R.mr (by omega) (fun w1 u1 l1 => control_10 x t.M w1 (R.mr.upto u1 id) ho (R.hm.upto u1 id)) (fun w1 w2 m u => m.upto u (by have := R.mr.l; omega))).mono ?_
  rintro e w' ⟨he, mr, u⟩
  exact fin_h R ok hd' he (rfl) (by omega) mr u
 by_cases c11 : x.op = 11
 ·have ho := c11
  have hd' : doP K x t = (ifL (t.s.reg x.a.toNat != 0) ⟨1, 0, 0, x.k, wrap64 (t.s.done + x.n)⟩, { t with s := t.s.gets x.a.toNat }) := by unfold doP doN; rw [if_neg (by omega)]; rw [if_neg (by omega)]; rw [if_pos (by omega)]
  refine (do_c10 x (ifL (t.s.reg x.a.toNat != 0) ⟨1, 0, 0, x.k, wrap64 (t.s.done + x.n)⟩) (fun W => MR h K (t.s.gets x.a.toNat) W) w R.mr (by omega) (fun w1 u1 l1 => control_11 x x.a.toNat w1 (R.mr.upto u1 id) ho ha la) (fun w1 w2 m u => m.upto u (by have := R.mr.l; omega))).mono ?_
  rintro e w' ⟨he, mr, u⟩
  exact fin_h R ok hd' he (rfl) (by omega) mr u
 by_cases c96 : x.op = 96
 ·have ho := c96
  have hd' : doP K x t = (none, { t with s := ifS (t.s.reg x.a.toNat != 0 && !(t.s.gets x.a.toNat).stuck) ((t.s.gets x.a.toNat).goes K.us x) (t.s.gets x.a.toNat) }) := by unfold doP doN; rw [if_neg (by omega)]; rw [if_neg (by omega)]; rw [if_neg (by omega)]; rw [if_pos (by omega)]
  refine (do_c96 x none (fun W => MR h K (ifS (t.s.reg x.a.toNat != 0 && !(t.s.gets x.a.toNat).stuck) ((t.s.gets x.a.toNat).goes K.us x) (t.s.gets x.a.toNat)) W) w R.mr (by omega) (fun w1 u1 l1 => control_96 x x.a.toNat w1 (R.mr.upto u1 id) ho (Sl.upto hsl u1 (fun _ _ _ => id)) ok.us hx.k.1 hx.k.2 ha la hsh) (fun w1 w2 m u => m.upto u (by have := R.mr.l; omega))).mono ?_
  rintro e w' ⟨he, mr, u⟩
  exact fin_h R ok hd' he (ifS_sp _ _ _ rfl) (by omega) mr u
 by_cases c14 : x.op = 14
 ·have ho := c14
  have hd' : doP K x t = (some ⟨1, 0, 0, x.k, wrap64 (t.s.done + x.n)⟩, t) := by unfold doP doN; rw [if_neg (by omega)]; rw [if_neg (by omega)]; rw [if_neg (by omega)]; rw [if_neg (by omega)]; rw [if_pos (by omega)]
  refine (do_c10 x (some ⟨1, 0, 0, x.k, wrap64 (t.s.done + x.n)⟩) (fun W => MR h K t.s W) w R.mr (by omega) (fun w1 u1 l1 => control_14 x w1 (R.mr.upto u1 id) ho) (fun w1 w2 m u => m.upto u (by have := R.mr.l; omega))).mono ?_
  rintro e w' ⟨he, mr, u⟩
  exact fin_h R ok hd' he (rfl) (by omega) mr u
 by_cases c15 : x.op = 15
 ·have ho := c15
  have hd' : doP K x t = (none, { t with s := t.s.goes K.us x }) := by unfold doP doN; rw [if_neg (by omega)]; rw [if_neg (by omega)]; rw [if_neg (by omega)]; rw [if_neg (by omega)]; rw [if_neg (by omega)]; rw [if_pos (by omega)]
  refine (do_c10 x none (fun W => MR h K (t.s.goes K.us x) W) w R.mr (by omega) (fun w1 u1 l1 => control_15 x w1 (R.mr.upto u1 id) ho (Sl.upto hsl u1 (fun _ _ _ => id)) ok.us hx.k.1 hx.k.2) (fun w1 w2 m u => m.upto u (by have := R.mr.l; omega))).mono ?_
  rintro e w' ⟨he, mr, u⟩
  exact fin_h R ok hd' he (rfl) (by omega) mr u
 by_cases c12 : x.op = 12
 ·have ho := c12
  have hd' : doP K x t = (some ⟨3, x.d, x.x, x.k, wrap64 (t.s.done + x.n)⟩, t) := by unfold doP doN; rw [if_neg (by omega)]; rw [if_neg (by omega)]; rw [if_neg (by omega)]; rw [if_neg (by omega)]; rw [if_neg (by omega)]; rw [if_neg (by omega)]; rw [if_pos (by omega)]
  refine (do_c10 x (some ⟨3, x.d, x.x, x.k, wrap64 (t.s.done + x.n)⟩) (fun W => MR h K t.s W) w R.mr (by omega) (fun w1 u1 l1 => control_12 x w1 (R.mr.upto u1 id) ho) (fun w1 w2 m u => m.upto u (by have := R.mr.l; omega))).mono ?_
  rintro e w' ⟨he, mr, u⟩
  exact fin_h R ok hd' he (rfl) (by omega) mr u
 by_cases c13 : x.op = 13
 ·have ho := c13
  have hd' : doP K x t = (ifL (t.s.reg x.a.toNat != 0) ⟨3, x.d, 0, x.k, wrap64 (t.s.done + x.n)⟩, { t with s := t.s.gets x.a.toNat }) := by unfold doP doN; rw [if_neg (by omega)]; rw [if_neg (by omega)]; rw [if_neg (by omega)]; rw [if_neg (by omega)]; rw [if_neg (by omega)]; rw [if_neg (by omega)]; rw [if_neg (by omega)]; rw [if_pos (by omega)]
  refine (do_c10 x (ifL (t.s.reg x.a.toNat != 0) ⟨3, x.d, 0, x.k, wrap64 (t.s.done + x.n)⟩) (fun W => MR h K (t.s.gets x.a.toNat) W) w R.mr (by omega) (fun w1 u1 l1 => control_13 x x.a.toNat w1 (R.mr.upto u1 id) ho ha la) (fun w1 w2 m u => m.upto u (by have := R.mr.l; omega))).mono ?_
  rintro e w' ⟨he, mr, u⟩
  exact fin_h R ok hd' he (rfl) (by omega) mr u
 by_cases c4 : x.op = 4
 ·have ho := c4
  have hd' : doP K x t = (lvL K t.s x.a.toNat x.n, { t with s := lvS K t.s x.a.toNat x.n }) := by unfold doP doN; rw [if_neg (by omega)]; rw [if_neg (by omega)]; rw [if_neg (by omega)]; rw [if_neg (by omega)]; rw [if_neg (by omega)]; rw [if_neg (by omega)]; rw [if_neg (by omega)]; rw [if_neg (by omega)]; rw [if_pos (by omega)]
  refine (do_c4 x (lvL K t.s x.a.toNat x.n) (fun W => MR h K (lvS K t.s x.a.toNat x.n) W) w R.mr (by omega) (fun w1 u1 l1 => control_4 x x.a.toNat w1 (R.mr.upto u1 id) ho (Sl.upto hsl u1 (fun _ _ _ => id)) ok.us (htb.upto u1 (fun _ _ _ => id)) ok.tl ha la (T.r _) hsh hth) (fun w1 w2 m u => m.upto u (by have := R.mr.l; omega))).mono ?_
  rintro e w' ⟨he, mr, u⟩
  exact fin_h R ok hd' he (lvS_sp _ _ _) (by omega) mr u
 by_cases c2 : x.op = 2
 ·have ho := c2
  have hd' : doP K x t = (none, { t with s := t.s.sets x.d.toNat x.k }) := by unfold doP doN; rw [if_neg (by omega)]; rw [if_neg (by omega)]; rw [if_neg (by omega)]; rw [if_neg (by omega)]; rw [if_neg (by omega)]; rw [if_neg (by omega)]; rw [if_neg (by omega)]; rw [if_neg (by omega)]; rw [if_neg (by omega)]; rw [if_pos (by omega)]
  refine (do_m2 x x.d.toNat w R.mr (by omega) hd ld).mono ?_
  rintro e w' ⟨he, mr, u⟩
  exact fin_h R ok hd' he (rfl) (by omega) mr u
 by_cases c3 : x.op = 3
 ·have ho := c3
  have hd' : doP K x t = (none, { t with s := (t.s.gets x.a.toNat).sets x.d.toNat (t.s.reg x.a.toNat) }) := by unfold doP doN; rw [if_neg (by omega)]; rw [if_neg (by omega)]; rw [if_neg (by omega)]; rw [if_neg (by omega)]; rw [if_neg (by omega)]; rw [if_neg (by omega)]; rw [if_neg (by omega)]; rw [if_neg (by omega)]; rw [if_neg (by omega)]; rw [if_neg (by omega)]; rw [if_pos (by omega)]
  refine (do_m3 x x.d.toNat x.a.toNat w R.mr (by omega) hd ha ld la).mono ?_
  rintro e w' ⟨he, mr, u⟩
  exact fin_h R ok hd' he (rfl) (by omega) mr u
 by_cases c6 : x.op = 6
 ·have ho := c6
  have hd' : doP K x t = (none, { t with s := t.s.sets x.d.toNat (t.s.c x.n.toNat) }) := by unfold doP doN; rw [if_neg (by omega)]; rw [if_neg (by omega)]; rw [if_neg (by omega)]; rw [if_neg (by omega)]; rw [if_neg (by omega)]; rw [if_neg (by omega)]; rw [if_neg (by omega)]; rw [if_neg (by omega)]; rw [if_neg (by omega)]; rw [if_neg (by omega)]; rw [if_neg (by omega)]; rw [if_pos (by omega)]
  have hn12 := hx.n12 (.inl ho)
  refine (do_m6 x x.d.toNat x.n.toNat w R.mr (by omega) hd hn' ld (by omega)).mono ?_
  rintro e w' ⟨he, mr, u⟩
  exact fin_h R ok hd' he (rfl) (by omega) mr u
 by_cases c7 : x.op = 7
 ·have ho := c7
  have hd' : doP K x t = (none, { t with s := if (t.s.gets x.a.toNat).stuck then t.s.gets x.a.toNat else { t.s.gets x.a.toNat with c := upd t.s.c x.n.toNat (t.s.reg x.a.toNat) } }) := by unfold doP doN; rw [if_neg (by omega)]; rw [if_neg (by omega)]; rw [if_neg (by omega)]; rw [if_neg (by omega)]; rw [if_neg (by omega)]; rw [if_neg (by omega)]; rw [if_neg (by omega)]; rw [if_neg (by omega)]; rw [if_neg (by omega)]; rw [if_neg (by omega)]; rw [if_neg (by omega)]; rw [if_neg (by omega)]; rw [if_pos (by omega)]
  have hn12 := hx.n12 (.inr ho)
  refine (do_m7 x x.a.toNat x.n.toNat w R.mr (by omega) ha hn' la (by omega)).mono ?_
  rintro e w' ⟨he, mr, u⟩
  exact fin_h R ok hd' he (by split <;> rfl) (by omega) mr u
 by_cases c8 : x.op = 8
 ·have ho := c8
  have hd' : doP K x t = (none, { t with s := ({ t.s with stuck := !(t.f x.n.toNat).isSome } : Pm).sets x.d.toNat ((t.f x.n.toNat).getD 0) }) := by unfold doP doN; rw [if_neg (by omega)]; rw [if_neg (by omega)]; rw [if_neg (by omega)]; rw [if_neg (by omega)]; rw [if_neg (by omega)]; rw [if_neg (by omega)]; rw [if_neg (by omega)]; rw [if_neg (by omega)]; rw [if_neg (by omega)]; rw [if_neg (by omega)]; rw [if_neg (by omega)]; rw [if_neg (by omega)]; rw [if_neg (by omega)]; rw [if_pos (by omega)]
  obtain ⟨b, hbs⟩ := hsp (.inl ho)
  refine (do_m8 x x.d.toNat x.n.toNat b n t.f w R.mr (by omega) hbs hd hn' ld (by omega) (R.sp b hbs).1).mono ?_
  rintro e w' ⟨he, mr, u⟩
  exact fin_h R ok hd' he (rfl) (by omega) mr u
 by_cases c9 : x.op = 9
 ·have ho := c9
  have hd' : doP K x t = (none, { t with s := t.s.gets x.a.toNat, f := updO t.f x.n.toNat (some (t.s.reg x.a.toNat)) }) := by unfold doP doN; rw [if_neg (by omega)]; rw [if_neg (by omega)]; rw [if_neg (by omega)]; rw [if_neg (by omega)]; rw [if_neg (by omega)]; rw [if_neg (by omega)]; rw [if_neg (by omega)]; rw [if_neg (by omega)]; rw [if_neg (by omega)]; rw [if_neg (by omega)]; rw [if_neg (by omega)]; rw [if_neg (by omega)]; rw [if_neg (by omega)]; rw [if_neg (by omega)]; rw [if_pos (by omega)]
  obtain ⟨b, hbs⟩ := hsp (.inr ho)
  have hq := R.sp b hbs
  refine (do_m9 x x.a.toNat x.n.toNat b n t.f w R.mr (by omega) hbs ha hn' la (by omega) (T.r _) hq.2.2 hn hq.1).mono ?_
  rintro e w' ⟨he, mr, sp, u⟩
  refine ⟨t.s.sp, ?_, ⟨?_, ?_, ?_⟩, u.mono fun i _ hi => .inr (by omega), ?_⟩
  ·rw [hd']; exact he
  ·rw [hd']; exact mr
  ·rw [hd']; exact R.hm.upto u (by omega)
  ·rw [hd']
   intro b' hb'
   have : b' = b := by
    have h2 : t.s.sp = some b' := hb'
    rw [hbs] at h2
    exact (Option.some.inj h2).symm
   subst this
   exact ⟨sp, hq.2⟩
  ·intro _; exact ⟨b, hbs⟩
 by_cases c97 : x.op = 97
 ·have ho := c97
  have hd' : doP K x t = (none, { t with s := t.s.sets x.d.toNat (fl (t.s.c 8) (t.s.c 9) (t.s.c 10) (t.s.c 11)) }) := by unfold doP doN; rw [if_neg (by omega)]; rw [if_neg (by omega)]; rw [if_neg (by omega)]; rw [if_neg (by omega)]; rw [if_neg (by omega)]; rw [if_neg (by omega)]; rw [if_neg (by omega)]; rw [if_neg (by omega)]; rw [if_neg (by omega)]; rw [if_neg (by omega)]; rw [if_neg (by omega)]; rw [if_neg (by omega)]; rw [if_neg (by omega)]; rw [if_neg (by omega)]; rw [if_neg (by omega)]; rw [if_pos (by omega)]
  refine (do_m97 x x.d.toNat w R.mr (by omega) hd ld T.c).mono ?_
  rintro e w' ⟨he, mr, u⟩
  exact fin_h R ok hd' he (rfl) (by omega) mr u
 by_cases csel : 5 ≤ x.op ∧ x.op < 6
 ·have ho := csel
  have hd' : doP K x t = (none, { t with s := (((t.s.gets x.a.toNat).gets x.b.toNat).gets x.c.toNat).sets x.d.toNat (valV 6 0 0 (t.s.reg x.a.toNat) (t.s.reg x.b.toNat) (t.s.reg x.c.toNat)) }) := by unfold doP doN; rw [if_neg (by omega)]; rw [if_neg (by omega)]; rw [if_neg (by omega)]; rw [if_neg (by omega)]; rw [if_neg (by omega)]; rw [if_neg (by omega)]; rw [if_neg (by omega)]; rw [if_neg (by omega)]; rw [if_neg (by omega)]; rw [if_neg (by omega)]; rw [if_neg (by omega)]; rw [if_neg (by omega)]; rw [if_neg (by omega)]; rw [if_neg (by omega)]; rw [if_neg (by omega)]; rw [if_neg (by omega)]; rw [if_pos (by omega)]
  refine (do_sel x x.a.toNat x.b.toNat x.c.toNat x.d.toNat w R.mr ho ha hb' hc hd la lb lc ld T.r).mono ?_
  rintro e w' ⟨he, mr, u⟩
  exact fin_h R ok hd' he (rfl) (by omega) mr u
 by_cases cbin : 16 ≤ x.op ∧ x.op < 32
 ·have ho := cbin
  have hd' : doP K x t = (none, { t with s := ((t.s.gets x.a.toNat).gets x.b.toNat).sets x.d.toNat (valV 4 (x.op - 16) 0 (t.s.reg x.a.toNat) (t.s.reg x.b.toNat) 0) }) := by unfold doP doN; rw [if_neg (by omega)]; rw [if_neg (by omega)]; rw [if_neg (by omega)]; rw [if_neg (by omega)]; rw [if_neg (by omega)]; rw [if_neg (by omega)]; rw [if_neg (by omega)]; rw [if_neg (by omega)]; rw [if_neg (by omega)]; rw [if_neg (by omega)]; rw [if_neg (by omega)]; rw [if_neg (by omega)]; rw [if_neg (by omega)]; rw [if_neg (by omega)]; rw [if_neg (by omega)]; rw [if_neg (by omega)]; rw [if_neg (by omega)]; rw [if_pos (by omega)]
  refine (do_bin x x.a.toNat x.b.toNat x.c.toNat x.d.toNat w R.mr ho ha hb' hc hd la lb lc ld T.r).mono ?_
  rintro e w' ⟨he, mr, u⟩
  exact fin_h R ok hd' he (rfl) (by omega) mr u
 by_cases cun : 32 ≤ x.op ∧ x.op < 39
 ·have ho := cun
  have hd' : doP K x t = (none, { t with s := (t.s.gets x.a.toNat).sets x.d.toNat (valV 5 (x.op - 32) 0 (t.s.reg x.a.toNat) 0 0) }) := by unfold doP doN; rw [if_neg (by omega)]; rw [if_neg (by omega)]; rw [if_neg (by omega)]; rw [if_neg (by omega)]; rw [if_neg (by omega)]; rw [if_neg (by omega)]; rw [if_neg (by omega)]; rw [if_neg (by omega)]; rw [if_neg (by omega)]; rw [if_neg (by omega)]; rw [if_neg (by omega)]; rw [if_neg (by omega)]; rw [if_neg (by omega)]; rw [if_neg (by omega)]; rw [if_neg (by omega)]; rw [if_neg (by omega)]; rw [if_neg (by omega)]; rw [if_neg (by omega)]; rw [if_pos (by omega)]
  refine (do_un x x.a.toNat x.b.toNat x.c.toNat x.d.toNat w R.mr ho ha hb' hc hd la lb lc ld T.r).mono ?_
  rintro e w' ⟨he, mr, u⟩
  exact fin_h R ok hd' he (rfl) (by omega) mr u
 by_cases cflags : 48 ≤ x.op ∧ x.op < 61
 ·have ho := cflags
  have hd' : doP K x t = (none, { t with s := (((t.s.gets x.a.toNat).gets x.b.toNat).gets x.c.toNat).sets x.d.toNat (valV 7 (x.op - 48) 0 (t.s.reg x.a.toNat) (t.s.reg x.b.toNat) (t.s.reg x.c.toNat)) }) := by unfold doP doN; rw [if_neg (by omega)]; rw [if_neg (by omega)]; rw [if_neg (by omega)]; rw [if_neg (by omega)]; rw [if_neg (by omega)]; rw [if_neg (by omega)]; rw [if_neg (by omega)]; rw [if_neg (by omega)]; rw [if_neg (by omega)]; rw [if_neg (by omega)]; rw [if_neg (by omega)]; rw [if_neg (by omega)]; rw [if_neg (by omega)]; rw [if_neg (by omega)]; rw [if_neg (by omega)]; rw [if_neg (by omega)]; rw [if_neg (by omega)]; rw [if_neg (by omega)]; rw [if_neg (by omega)]; rw [if_pos (by omega)]
  refine (do_flags x x.a.toNat x.b.toNat x.c.toNat x.d.toNat w R.mr ho ha hb' hc hd la lb lc ld T.r).mono ?_
  rintro e w' ⟨he, mr, u⟩
  exact fin_h R ok hd' he (rfl) (by omega) mr u
 by_cases ccond : 64 ≤ x.op ∧ x.op < 80
 ·have ho := ccond
  have hd' : doP K x t = (none, { t with s := (t.s.gets x.a.toNat).sets x.d.toNat (valV 8 (x.op - 64) 0 (t.s.reg x.a.toNat) 0 0) }) := by unfold doP doN; rw [if_neg (by omega)]; rw [if_neg (by omega)]; rw [if_neg (by omega)]; rw [if_neg (by omega)]; rw [if_neg (by omega)]; rw [if_neg (by omega)]; rw [if_neg (by omega)]; rw [if_neg (by omega)]; rw [if_neg (by omega)]; rw [if_neg (by omega)]; rw [if_neg (by omega)]; rw [if_neg (by omega)]; rw [if_neg (by omega)]; rw [if_neg (by omega)]; rw [if_neg (by omega)]; rw [if_neg (by omega)]; rw [if_neg (by omega)]; rw [if_neg (by omega)]; rw [if_neg (by omega)]; rw [if_neg (by omega)]; rw [if_pos (by omega)]
  refine (do_cond x x.a.toNat x.b.toNat x.c.toNat x.d.toNat w R.mr ho ha hb' hc hd la lb lc ld T.r).mono ?_
  rintro e w' ⟨he, mr, u⟩
  exact fin_h R ok hd' he (rfl) (by omega) mr u
 by_cases cld : 80 ≤ x.op ∧ x.op < 85
 ·have ho := cld
  have hd' : doP K x t = (ifL ((St.stK 5 (srch t.M 1 (t.s.reg x.a.toNat) (ldn (x.op - 80)).toNat)) != 0 && !(t.s.gets x.a.toNat).stuck) ⟨3, (St.stK 5 (srch t.M 1 (t.s.reg x.a.toNat) (ldn (x.op - 80)).toNat)), (St.stX (srch t.M 1 (t.s.reg x.a.toNat) (ldn (x.op - 80)).toNat)), x.k, wrap64 (t.s.done + x.n)⟩, { t with s := ifS ((St.stK 5 (srch t.M 1 (t.s.reg x.a.toNat) (ldn (x.op - 80)).toNat)) != 0 && !(t.s.gets x.a.toNat).stuck) (t.s.gets x.a.toNat) ((t.s.gets x.a.toNat).sets x.d.toNat (wid (x.op - 80) (ldv t.M (t.s.reg x.a.toNat) (ldn (x.op - 80))))) }) := by unfold doP doN; rw [if_neg (by omega)]; rw [if_neg (by omega)]; rw [if_neg (by omega)]; rw [if_neg (by omega)]; rw [if_neg (by omega)]; rw [if_neg (by omega)]; rw [if_neg (by omega)]; rw [if_neg (by omega)]; rw [if_neg (by omega)]; rw [if_neg (by omega)]; rw [if_neg (by omega)]; rw [if_neg (by omega)]; rw [if_neg (by omega)]; rw [if_neg (by omega)]; rw [if_neg (by omega)]; rw [if_neg (by omega)]; rw [if_neg (by omega)]; rw [if_neg (by omega)]; rw [if_neg (by omega)]; rw [if_neg (by omega)]; rw [if_neg (by omega)]; rw [if_pos (by omega)]
  refine (do_ld x t.M x.a.toNat x.d.toNat w R.mr ho R.hm T.M hph ha hd la ld (T.r _)).mono ?_
  rintro e w' ⟨he, mr, hm, u⟩
  exact fin_h R ok hd' he (ifS_sp _ _ _ rfl) (by omega) mr u
 by_cases cst : 88 ≤ x.op ∧ x.op < 91
 ·have ho := cst
  have hd' : doP K x t = (ifL (!((t.s.gets x.a.toNat).gets x.d.toNat).stuck && (St.stK 6 (sto t.M (t.s.reg x.a.toNat) (stn (x.op - 88)))) != 0) ⟨3, (St.stK 6 (sto t.M (t.s.reg x.a.toNat) (stn (x.op - 88)))), (St.stX (sto t.M (t.s.reg x.a.toNat) (stn (x.op - 88)))), x.k, wrap64 (t.s.done + x.n)⟩, { t with s := (t.s.gets x.a.toNat).gets x.d.toNat, M := ifM ((t.s.gets x.a.toNat).gets x.d.toNat).stuck t.M (stm t.M (t.s.reg x.a.toNat) (stn (x.op - 88)) (t.s.reg x.d.toNat)) }) := by unfold doP doN; rw [if_neg (by omega)]; rw [if_neg (by omega)]; rw [if_neg (by omega)]; rw [if_neg (by omega)]; rw [if_neg (by omega)]; rw [if_neg (by omega)]; rw [if_neg (by omega)]; rw [if_neg (by omega)]; rw [if_neg (by omega)]; rw [if_neg (by omega)]; rw [if_neg (by omega)]; rw [if_neg (by omega)]; rw [if_neg (by omega)]; rw [if_neg (by omega)]; rw [if_neg (by omega)]; rw [if_neg (by omega)]; rw [if_neg (by omega)]; rw [if_neg (by omega)]; rw [if_neg (by omega)]; rw [if_neg (by omega)]; rw [if_neg (by omega)]; rw [if_neg (by omega)]; 
  refine (do_st x t.M x.a.toNat x.d.toNat w R.mr ho R.hm T.M hph ha hd la ld T.r).mono ?_
  rintro e w' ⟨he, mr, hm, u⟩
  refine ⟨t.s.sp, ?_, ⟨?_, ?_, ?_⟩, u.mono fun i _ hi => hi.elim (fun e => .inr (by omega)) (fun e => .inl e), ?_⟩
  ·rw [hd']; exact he
  ·rw [hd']; exact mr
  ·rw [hd']; exact hm
  ·rw [hd']
   exact R.sp.upto u (fun b hb => by have := (R.sp b hb).2; omega)
  ·rintro (hx | ⟨hx, _⟩)
   ·exact hx
   ·omega
 exfalso
 apply hq
 unfold fcls
 rw [if_neg (by omega), if_neg (by omega), if_neg (by omega), if_neg (by omega), if_neg (by omega), if_neg (by omega)]
 unfold fsm
 repeat (first | rw [if_neg (by omega)] | rfl | (split <;> omega))
end Go.Proofs.Ytcjcmnnhmajocab.Hr
namespace Go.Proofs.Ytcjcmnnhmajocab.Hr
open Go.RowKit Kt Me Fl Ev Ho
def Hst.wsp (t : Hst) (sp : Option Nat) : Hst := { t with s := { t.s with sp := sp } }
/-- how a run ends -/
structure Res where
 c : Nat → Int
 M : MM
 l : Lf
 at_ : Int
def stepP (K : Hk) (t : Hst) : Res ⊕ Hst :=
 if (decP K.us t.s.at_).2.2 = 0 then
  (if (doP K (decP K.us t.s.at_).1 { t with s := { t.s with at_ := t.s.at_ + (decP K.us t.s.at_).2.1 } }).2.s.stuck = true then .inl ⟨(doP K (decP K.us t.s.at_).1 { t with s := { t.s with at_ := t.s.at_ + (decP K.us t.s.at_).2.1 } }).2.s.c, (doP K (decP K.us t.s.at_).1 { t with s := { t.s with at_ := t.s.at_ + (decP K.us t.s.at_).2.1 } }).2.M, ⟨5, 0, 0, 0, 0⟩, t.s.at_⟩
  else match (doP K (decP K.us t.s.at_).1 { t with s := { t.s with at_ := t.s.at_ + (decP K.us t.s.at_).2.1 } }) with
   | (some l, d) => .inl ⟨d.s.c, d.M, l, t.s.at_⟩
   | (none, d) => .inr { d with s := { d.s with ran := d.s.ran + 1 } })
 else .inl ⟨t.s.c, t.M, ⟨5, 0, 0, 0, 0⟩, t.s.at_⟩
def runN (K : Hk) : Nat → Hst → Option Res
 | 0, t => match stepP K t with
  | .inl r => some r
  | .inr _ => none
 | n + 1, t => match stepP K t with
  | .inl r => some r
  | .inr t' => runN K n t'
theorem ifS_eq (c : Bool) (a b : Pm) (sp sp' : Option Nat) : { ifS c { a with sp := sp } { b with sp := sp } with sp := sp' } = ({ ifS c a b with sp := sp' } : Pm) := by
 unfold ifS; cases c <;> rfl
theorem doP_sp (K : Hk) (x : Cd) (t : Hst) (sp sp' : Option Nat) : (doP K x (t.wsp sp)).1 = (doP K x t).1 ∧ (doP K x (t.wsp sp)).2.wsp sp' = (doP K x t).2.wsp sp' := by
 unfold doP
 generalize x.a.toNat = ra
 generalize x.b.toNat = rb
 generalize x.c.toNat = rc
 generalize x.d.toNat = rd
 generalize x.n.toNat = rn
 unfold doN
 by_cases c0 : x.op = 1
 ·rw [if_pos c0, if_pos c0]
  have e : entL K (t.wsp sp).M (t.wsp sp).s x = entL K t.M t.s x := rfl
  rw [e]
  by_cases h : entL K t.M t.s x = none
  ·rw [if_pos h, if_pos h]; exact ⟨rfl, rfl⟩
  ·rw [if_neg h, if_neg h]; exact ⟨rfl, rfl⟩
 rw [if_neg c0, if_neg c0]
 by_cases c1 : x.op = 10
 ·rw [if_pos c1, if_pos c1]
  exact ⟨rfl, rfl⟩
 rw [if_neg c1, if_neg c1]
 by_cases c2 : x.op = 11
 ·rw [if_pos c2, if_pos c2]
  exact ⟨rfl, rfl⟩
 rw [if_neg c2, if_neg c2]
 by_cases c3 : x.op = 96
 ·rw [if_pos c3, if_pos c3]
  refine ⟨rfl, ?_⟩
  show Hst.wsp { t with s := ifS (t.s.reg ra != 0 && !(t.s.gets ra).stuck) { ((t.s.gets ra).goes K.us x) with sp := sp } { (t.s.gets ra) with sp := sp } } sp' = _
  unfold Hst.wsp
  rw [ifS_eq]
 rw [if_neg c3, if_neg c3]
 by_cases c4 : x.op = 14
 ·rw [if_pos c4, if_pos c4]
  exact ⟨rfl, rfl⟩
 rw [if_neg c4, if_neg c4]
 by_cases c5 : x.op = 15
 ·rw [if_pos c5, if_pos c5]
  exact ⟨rfl, rfl⟩
 rw [if_neg c5, if_neg c5]
 by_cases c6 : x.op = 12
 ·rw [if_pos c6, if_pos c6]
  exact ⟨rfl, rfl⟩
 rw [if_neg c6, if_neg c6]
 by_cases c7 : x.op = 13
 ·rw [if_pos c7, if_pos c7]
  exact ⟨rfl, rfl⟩
 rw [if_neg c7, if_neg c7]
 by_cases c8 : x.op = 4
 ·rw [if_pos c8, if_pos c8]
  refine ⟨rfl, ?_⟩
  unfold lvS
  rw [show lvE K (t.wsp sp).s ra = lvE K t.s ra from rfl]
  cases lvE K t.s ra <;> rfl
 rw [if_neg c8, if_neg c8]
 by_cases c9 : x.op = 2
 ·rw [if_pos c9, if_pos c9]
  exact ⟨rfl, rfl⟩
 rw [if_neg c9, if_neg c9]
 by_cases c10 : x.op = 3
 ·rw [if_pos c10, if_pos c10]
  exact ⟨rfl, rfl⟩
 rw [if_neg c10, if_neg c10]
 by_cases c11 : x.op = 6
 ·rw [if_pos c11, if_pos c11]
  exact ⟨rfl, rfl⟩
 rw [if_neg c11, if_neg c11]
 by_cases c12 : x.op = 7
 ·rw [if_pos c12, if_pos c12]
  refine ⟨rfl, ?_⟩
  have e : ((t.wsp sp).s.gets ra).stuck = (t.s.gets ra).stuck := rfl
  rw [e]
  by_cases h : (t.s.gets ra).stuck = true
  ·rw [if_pos h, if_pos h]; rfl
  ·rw [if_neg h, if_neg h]; rfl
 rw [if_neg c12, if_neg c12]
 by_cases c13 : x.op = 8
 ·rw [if_pos c13, if_pos c13]
  exact ⟨rfl, rfl⟩
 rw [if_neg c13, if_neg c13]
 by_cases c14 : x.op = 9
 ·rw [if_pos c14, if_pos c14]
  exact ⟨rfl, rfl⟩
 rw [if_neg c14, if_neg c14]
 by_cases c15 : x.op = 97
 ·rw [if_pos c15, if_pos c15]
  exact ⟨rfl, rfl⟩
 rw [if_neg c15, if_neg c15]
 by_cases c16 : x.op = 5
 ·rw [if_pos c16, if_pos c16]
  exact ⟨rfl, rfl⟩
 rw [if_neg c16, if_neg c16]
 by_cases c17 : x.op < 32
 ·rw [if_pos c17, if_pos c17]
  exact ⟨rfl, rfl⟩
 rw [if_neg c17, if_neg c17]
 by_cases c18 : x.op < 39
 ·rw [if_pos c18, if_pos c18]
  exact ⟨rfl, rfl⟩
 rw [if_neg c18, if_neg c18]
 by_cases c19 : x.op < 61
 ·rw [if_pos c19, if_pos c19]
  exact ⟨rfl, rfl⟩
 rw [if_neg c19, if_neg c19]
 by_cases c20 : x.op < 80
 ·rw [if_pos c20, if_pos c20]
  exact ⟨rfl, rfl⟩
 rw [if_neg c20, if_neg c20]
 by_cases c21 : x.op < 85
 ·rw [if_pos c21, if_pos c21]
  refine ⟨rfl, ?_⟩
  show Hst.wsp { t with s := ifS (St.stK 5 (srch t.M 1 (t.s.reg ra) (ldn (x.op - 80)).toNat) != 0 && !(t.s.gets ra).stuck) { (t.s.gets ra) with sp := sp } { ((t.s.gets ra).sets rd (wid (x.op - 80) (ldv t.M (t.s.reg ra) (ldn (x.op - 80))))) with sp := sp } } sp' = _
  unfold Hst.wsp
  rw [ifS_eq]
 rw [if_neg c21, if_neg c21]
 exact ⟨rfl, rfl⟩
/-- numbers of the spills in range -/
def FOk (f : Nat → Option Int) : Prop := ∀ j, 0 ≤ (f j).getD 0 ∧ (f j).getD 0 < 4294967296
theorem sets_reg {s : Pm} (h : RegOk s) (r : Nat) (z : Int) (hz : 0 ≤ z ∧ z < 4294967296) : RegOk (s.sets r z) := by
 intro j
 show 0 ≤ upd s.reg r z j ∧ upd s.reg r z j < 4294967296
 unfold upd
 split
 ·exact hz
 ·exact h j
theorem ifS_ok {P : Pm → Prop} (c : Bool) (a b : Pm) (ha : P a) (hb : P b) : P (ifS c a b) := by
 unfold ifS; cases c
 ·exact hb
 ·exact ha
theorem lvS_ok {K : Hk} {s : Pm} (r : Nat) (n : Int) : (lvS K s r n).reg = s.reg ∧ (lvS K s r n).c = s.c := by
 unfold lvS; split <;> exact ⟨rfl, rfl⟩
theorem tok_do (K : Hk) (x : Cd) (t : Hst) (T : TOk t) (F : FOk t.f) (hx : CdOk x) : TOk (doP K x t).2 ∧ FOk (doP K x t).2.f := by
 have hc := T.c
 have hr := T.r
 have hM := T.M
 have hk := hx.k
 have hp := hx.op
 unfold doP
 generalize x.a.toNat = ra
 generalize x.b.toNat = rb
 generalize x.c.toNat = rc
 generalize x.d.toNat = rd
 generalize x.n.toNat = rn
 unfold doN
 by_cases c0 : x.op = 1
 ·rw [if_pos c0]
  by_cases h : entL K t.M t.s x = none
  ·rw [if_pos h]; exact ⟨⟨hc, hr, hM⟩, fun j => ⟨Int.le_refl _, (by decide : (0 : Int) < 4294967296)⟩⟩
  ·rw [if_neg h]; exact ⟨T, F⟩
 rw [if_neg c0]
 by_cases c1 : x.op = 10
 ·rw [if_pos c1]
  exact ⟨⟨hc, hr, hM⟩, F⟩
 rw [if_neg c1]
 by_cases c2 : x.op = 11
 ·rw [if_pos c2]
  exact ⟨⟨hc, hr, hM⟩, F⟩
 rw [if_neg c2]
 by_cases c3 : x.op = 96
 ·rw [if_pos c3]
  exact ⟨⟨ifS_ok (P := fun s => ∀ j, 0 ≤ s.c j ∧ s.c j < 4294967296) _ _ _ hc hc, ifS_ok (P := RegOk) _ _ _ hr hr, hM⟩, F⟩
 rw [if_neg c3]
 by_cases c4 : x.op = 14
 ·rw [if_pos c4]
  exact ⟨⟨hc, hr, hM⟩, F⟩
 rw [if_neg c4]
 by_cases c5 : x.op = 15
 ·rw [if_pos c5]
  exact ⟨⟨hc, hr, hM⟩, F⟩
 rw [if_neg c5]
 by_cases c6 : x.op = 12
 ·rw [if_pos c6]
  exact ⟨⟨hc, hr, hM⟩, F⟩
 rw [if_neg c6]
 by_cases c7 : x.op = 13
 ·rw [if_pos c7]
  exact ⟨⟨hc, hr, hM⟩, F⟩
 rw [if_neg c7]
 by_cases c8 : x.op = 4
 ·rw [if_pos c8]
  exact ⟨⟨fun j => by show 0 ≤ (lvS K t.s ra x.n).c j ∧ _; rw [(lvS_ok (K := K) (s := t.s) ra x.n).2]; exact hc j, fun j => by show 0 ≤ (lvS K t.s ra x.n).reg j ∧ _; rw [(lvS_ok (K := K) (s := t.s) ra x.n).1]; exact hr j, hM⟩, F⟩
 rw [if_neg c8]
 by_cases c9 : x.op = 2
 ·rw [if_pos c9]
  exact ⟨⟨hc, sets_reg hr rd _ hk, hM⟩, F⟩
 rw [if_neg c9]
 by_cases c10 : x.op = 3
 ·rw [if_pos c10]
  exact ⟨⟨hc, sets_reg (s := t.s.gets ra) hr rd _ (hr ra), hM⟩, F⟩
 rw [if_neg c10]
 by_cases c11 : x.op = 6
 ·rw [if_pos c11]
  exact ⟨⟨hc, sets_reg hr rd _ (hc rn), hM⟩, F⟩
 rw [if_neg c11]
 by_cases c12 : x.op = 7
 ·rw [if_pos c12]
  by_cases h : (t.s.gets ra).stuck = true
  ·rw [if_pos h]; exact ⟨⟨hc, hr, hM⟩, F⟩
  ·rw [if_neg h]; exact ⟨⟨fun j => by show 0 ≤ upd t.s.c rn (t.s.reg ra) j ∧ upd t.s.c rn (t.s.reg ra) j < 4294967296; unfold upd; split; exact hr ra; exact hc j, hr, hM⟩, F⟩
 rw [if_neg c12]
 by_cases c13 : x.op = 8
 ·rw [if_pos c13]
  exact ⟨⟨hc, sets_reg (s := ({ t.s with stuck := !(t.f rn).isSome } : Pm)) hr rd _ (F rn), hM⟩, F⟩
 rw [if_neg c13]
 by_cases c14 : x.op = 9
 ·rw [if_pos c14]
  refine ⟨⟨hc, hr, hM⟩, fun j => ?_⟩
  show 0 ≤ (updO t.f rn (some (t.s.reg ra)) j).getD 0 ∧ (updO t.f rn (some (t.s.reg ra)) j).getD 0 < 4294967296
  unfold updO
  split
  ·exact hr ra
  ·exact F j
 rw [if_neg c14]
 by_cases c15 : x.op = 97
 ·rw [if_pos c15]
  exact ⟨⟨hc, sets_reg hr rd _ (by have := St.fl_bd (t.s.c 8) (t.s.c 9) (t.s.c 10) (t.s.c 11); omega), hM⟩, F⟩
 rw [if_neg c15]
 by_cases c16 : x.op = 5
 ·rw [if_pos c16]
  exact ⟨⟨hc, sets_reg (s := ((t.s.gets ra).gets rb).gets rc) hr rd _ (valV_bd _ _ _ _ _ _ (by decide) (by decide) (hr ra).1 (hr ra).2 (hr rb).1 (hr rb).2 (hr rc).1 (hr rc).2), hM⟩, F⟩
 rw [if_neg c16]
 by_cases c17 : x.op < 32
 ·rw [if_pos c17]
  exact ⟨⟨hc, sets_reg (s := (t.s.gets ra).gets rb) hr rd _ (valV_bd _ _ _ _ _ _ (by decide) (by decide) (hr ra).1 (hr ra).2 (hr rb).1 (hr rb).2 (by decide) (by decide)), hM⟩, F⟩
 rw [if_neg c17]
 by_cases c18 : x.op < 39
 ·rw [if_pos c18]
  exact ⟨⟨hc, sets_reg (s := t.s.gets ra) hr rd _ (valV_bd _ _ _ _ _ _ (by decide) (by decide) (hr ra).1 (hr ra).2 (by decide) (by decide) (by decide) (by decide)), hM⟩, F⟩
 rw [if_neg c18]
 by_cases c19 : x.op < 61
 ·rw [if_pos c19]
  exact ⟨⟨hc, sets_reg (s := ((t.s.gets ra).gets rb).gets rc) hr rd _ (valV_bd _ _ _ _ _ _ (by decide) (by decide) (hr ra).1 (hr ra).2 (hr rb).1 (hr rb).2 (hr rc).1 (hr rc).2), hM⟩, F⟩
 rw [if_neg c19]
 by_cases c20 : x.op < 80
 ·rw [if_pos c20]
  exact ⟨⟨hc, sets_reg (s := t.s.gets ra) hr rd _ (valV_bd _ _ _ _ _ _ (by decide) (by decide) (hr ra).1 (hr ra).2 (by decide) (by decide) (by decide) (by decide)), hM⟩, F⟩
 rw [if_neg c20]
 by_cases c21 : x.op < 85
 ·rw [if_pos c21]
  have b := ldv_bd hM (t.s.reg ra) (ldn (x.op - 80))
  exact ⟨⟨ifS_ok (P := fun s => ∀ j, 0 ≤ s.c j ∧ s.c j < 4294967296) _ _ _ hc hc, ifS_ok (P := RegOk) _ _ _ hr (sets_reg (s := t.s.gets ra) hr rd _ (wid_bd _ _ b.1 b.2)), hM⟩, F⟩
 rw [if_neg c21]
 refine ⟨⟨hc, hr, ?_⟩, F⟩
 show MOk (ifM _ _ _)
 unfold ifM
 split
 ·exact hM
 ·exact hM.stm _ _ _ (hr rd).1 (hr rd).2
end Go.Proofs.Ytcjcmnnhmajocab.Hr
namespace Go.Proofs.Ytcjcmnnhmajocab.Hr
open Go.RowKit Kt Me Fl Ev Ho
/-- the document's host -/
structure Rm where
 at_ : Int
 c : Nat → Int
 done : Int
 reg : Nat → Int
 has : Nat → Bool
 spv : Nat → Int
 held : Nat → Bool
 ran : Int
 stuck : Bool
def Rm.gets (s : Rm) (r : Nat) : Rm := { s with stuck := s.stuck || !s.has r }
def Rm.sets (s : Rm) (r : Nat) (x : Int) : Rm := { s with reg := upd s.reg r x, has := upd s.has r true }
def Rm.clr (s : Rm) : Rm := { s with reg := fun _ => 0, has := fun _ => false, spv := fun _ => 0, held := fun _ => false }
def Rm.goes (us : List Int) (s : Rm) (x : Cd) : Rm := { s with stuck := s.stuck || !ent us x.k, done := wrap64 (s.done + x.n), at_ := x.k }
end Go.Proofs.Ytcjcmnnhmajocab.Hr
