/- Plain: what is known of the operations of a block. -/
import Derived.Test.YtcjcmnnhmajocabPgaa
import Derived.Test.YtcjcmnnhmajocabPgal
import Derived.Test.YtcjcmnnhmajocabPgam
import Derived.Test.YtcjcmnnhmajocabPgax
namespace Go.Proofs.Ytcjcmnnhmajocab.Gn
open Go.RowKit Kt Ic Hr Ho Me
set_option linter.unusedVariables false
/-- a value: its register, its spill, the operations that take it still -/
structure Vl where
  reg : Int
  spill : Int
  uses : List Int
/-- code under way -/
structure Gm where
  xs : List Cd
  v : Nat → Vl
  holds : Nat → Int
  pin : Nat → Bool
  sp : Int
/-- what does not change; where it lies -/
structure Gk where
  os : List Opr
  ao : Option Addr
  cap : Nat
  pc : Int
  cnt : Int
  byt : Int
  R : Nat
  h : Nat
  vb : Nat
  base : Nat
  ex : Nat → Prop
/-- the first word -/
def Cd.sum (x : Cd) : Int := (x.op + 256 * x.d + 4096 * x.a + 65536 * x.b + 1048576 * x.c + 65536 * x.n) % 4294967296
/-- an instruction's words -/
def encW (x : Cd) : List Int := [Cd.sum x, x.k, x.x].take (wd (fcls x.op)).toNat
def wds (xs : List Cd) : List Int := xs.flatMap encW
/-- what has words -/
structure COk (x : Cd) : Prop where
  op : 0 ≤ x.op ∧ x.op < 256
  q : fcls x.op ≠ 0
  e : EOK (fcls x.op) x.op x.d x.a x.b x.c x.n x.k x.x
/-- the values that an operation takes -/
def tk (o : Opr) : List Int :=
  if o.k = 4 ∨ o.k = 10 then [o.a, o.b] else if o.k = 6 ∨ o.k = 7 then [o.a, o.b, o.c] else
  if o.k = 3 ∨ o.k = 5 ∨ o.k = 8 ∨ o.k = 9 ∨ o.k = 12 ∨ o.k = 13 ∨ o.k = 16 then [o.a] else []
def Gm.put (g : Gm) (x : Cd) : Gm := { g with xs := g.xs ++ [x] }
def hd0 (l : List Int) : Int := match l with
  | u :: _ => u
  | [] => 1073741824
def nxt (g : Gm) (t : Nat) : Int := hd0 (g.v t).uses
def Gm.setH (g : Gm) (r : Nat) (x : Int) : Gm := { g with holds := upd g.holds r x }
def Gm.setR (g : Gm) (t : Nat) (x : Int) : Gm := { g with v := upd g.v t { g.v t with reg := x } }
def Gm.setS (g : Gm) (t : Nat) (x : Int) : Gm := { g with v := upd g.v t { g.v t with spill := x } }
def Gm.setU (g : Gm) (t : Nat) (x : List Int) : Gm := { g with v := upd g.v t { g.v t with uses := x } }
def Gm.setP (g : Gm) (r : Nat) (b : Bool) : Gm := { g with pin := upd g.pin r b }
def Gm.unpin (g : Gm) : Gm := { g with pin := fun _ => false }
def Gm.setSp (g : Gm) (x : Int) : Gm := { g with sp := x }
def Gm.has (g : Gm) (r t : Nat) : Gm := (g.setH r t).setR t r
def stsC (r sp : Int) : Cd := ⟨9, 0, r, 0, 0, sp, 0, 0⟩
def ldsC (r sp : Int) : Cd := ⟨8, r, 0, 0, 0, sp, 0, 0⟩
def liC (r k : Int) : Cd := ⟨2, r, 0, 0, 0, 0, k, 0⟩
/-- is a value laid aside when it leaves its register? -/
def spills (os : List Opr) (g : Gm) (t : Nat) : Bool := decide (nxt g t ≠ 1073741824) && (decide ((g.v t).spill < 0) && decide (kindAt os t ≠ 1))
/-- a value leaves its register -/
def Gm.lay (os : List Opr) (g : Gm) (t : Nat) : Gm := if spills os g t then ((g.setS t g.sp).setSp (g.sp + 1)).put (stsC (g.v t).reg g.sp) else g
def Gm.out (os : List Opr) (g : Gm) (t : Nat) : Gm := ((g.lay os t).setH (g.v t).reg.toNat (-1)).setR t (-1)
/-- of so many registers: the one wanted last, and when -/
def bst (g : Gm) : Nat → Int × Int
  | 0 => (-1, -1)
  | r + 1 => if g.pin r then bst g r else
      if (bst g r).2 < (if 0 ≤ g.holds r then nxt g (g.holds r).toNat else 1073741825) then ((r : Int), if 0 ≤ g.holds r then nxt g (g.holds r).toNat else 1073741825) else bst g r
def Gm.fre (os : List Opr) (R : Nat) (g : Gm) : Gm := if 0 ≤ g.holds (bst g R).1.toNat then g.out os (g.holds (bst g R).1.toNat).toNat else g
def opAt (os : List Opr) (t : Nat) : Opr := os.getD t ⟨0, 0, 0, 0, 0, 0, 0⟩
/-- a value in a register: it is fetched -/
def Gm.fetch (os : List Opr) (g : Gm) (r t : Nat) : Gm := (g.put (if (opAt os t).k = 1 then liC r (opAt os t).kn else ldsC r (g.v t).spill)).has r t
def Gm.inR (R : Nat) (g : Gm) (t : Nat) : Int := if (g.v t).reg < 0 then (bst g R).1 else (g.v t).reg
def Gm.inG (os : List Opr) (R : Nat) (g : Gm) (t : Nat) : Gm := if (g.v t).reg < 0 then ((g.fre os R).fetch os (bst g R).1.toNat t).setP (bst g R).1.toNat true else g.setP (g.v t).reg.toNat true
/-- all that is taken, in registers -/
def Gm.ins (os : List Opr) (R : Nat) : List Int → Gm → List Int × Gm
  | [], g => ([], g)
  | t :: l, g => (g.inR R t.toNat :: (Gm.ins os R l (g.inG os R t.toNat)).1, (Gm.ins os R l (g.inG os R t.toNat)).2)
def Gm.use1 (i : Int) (g : Gm) (t : Nat) : Gm := if hd0 (g.v t).uses = i then g.setU t (g.v t).uses.tail else g
def Gm.used (i : Int) (l : List Int) (g : Gm) : Gm := l.foldl (fun g t => g.use1 i t.toNat) g
/-- values that nobody wants leave their registers -/
def Gm.clr (g : Gm) : Nat → Gm
  | 0 => g
  | r + 1 => if 0 ≤ (g.clr r).holds r ∧ nxt (g.clr r) ((g.clr r).holds r).toNat = 1073741824 then ((g.clr r).setH r (-1)).setR ((g.clr r).holds r).toNat (-1) else g.clr r
def emp (g : Gm) (r : Nat) : Nat → Option Nat
  | 0 => none
  | n + 1 => if g.holds r < 0 then some r else emp g (r + 1) n
def Gm.plR (R : Nat) (g : Gm) : Int := match emp (g.clr R) 0 R with
  | some r => r
  | none => (bst (g.clr R) R).1
def Gm.plG (os : List Opr) (R : Nat) (g : Gm) : Gm := match emp (g.clr R) 0 R with
  | some r => g.clr R
  | none => (g.clr R).fre os R
/-- the instruction of an operation that gives a value -/
def gvC (o : Opr) (d a b c : Int) : Cd :=
  if o.k = 2 then ⟨6, d, a, b, c, o.w, 0, 0⟩ else if o.k = 17 then ⟨97, d, a, b, c, 0, 0, 0⟩ else if o.k = 4 then ⟨16 + o.w, d, a, b, c, 0, 0, 0⟩ else
  if o.k = 5 then ⟨32 + o.w, d, a, b, c, 0, 0, 0⟩ else if o.k = 6 then ⟨5, d, a, b, c, 0, 0, 0⟩ else if o.k = 7 then ⟨48 + o.w, d, a, b, c, 0, 0, 0⟩ else
  if o.k = 8 then ⟨64 + o.w, d, a, b, c, 0, 0, 0⟩ else if o.k = 9 then ⟨80 + o.w, d, a, b, c, o.n, o.kn, 0⟩ else ⟨0, d, a, b, c, 0, 0, 0⟩
/-- of one that gives none -/
def noC (o : Opr) (a b : Int) : Cd :=
  if o.k = 3 then ⟨7, 0, a, 0, 0, o.w, o.kn, 0⟩ else if o.k = 10 then ⟨88 + o.w, b, a, 0, 0, o.n, o.kn, 0⟩ else if o.k = 11 then ⟨10, 0, a, 0, 0, o.n, o.kn, 0⟩ else
  if o.k = 12 then ⟨11, 0, a, 0, 0, o.n, o.kn, 0⟩ else if o.k = 13 then ⟨13, o.w, a, 0, 0, o.n, o.kn, 0⟩ else if o.k = 14 then ⟨12, o.w, a, 0, 0, o.n, o.kn, o.b % 4294967296⟩ else
  if o.k = 15 then ⟨14, 0, a, 0, 0, o.n, o.kn, 0⟩ else if o.k = 16 then ⟨4, 0, a, 0, 0, o.n, o.kn, 0⟩ else ⟨0, 0, a, 0, 0, o.n, o.kn, 0⟩
def Gm.give (os : List Opr) (R : Nat) (i : Nat) (o : Opr) (r : List Int) (g : Gm) : Gm :=
  if o.k = 1 then g else ((g.unpin.plG os R).put (gvC o (g.unpin.plR R) (r.getD 0 0) (r.getD 1 0) (r.getD 2 0))).has (g.unpin.plR R).toNat i
def Gm.one (os : List Opr) (R : Nat) (g : Gm) (i : Nat) (o : Opr) : Gm :=
  let p := Gm.ins os R (tk o) g.unpin
  if gv o.k then (p.2.used i (tk o)).give os R i o p.1 else (p.2.used i (tk o)).put (noC o (p.1.getD 0 0) (p.1.getD 1 0))
def Gm.all (os : List Opr) (R : Nat) (g : Gm) : Nat → Gm
  | 0 => g
  | i + 1 => (Gm.all os R g i).one os R i (opAt os i)
/-- the operations that take a value: of those ahead of i, and so many of i's -/
def usT (os : List Opr) (i m t : Nat) : List Int :=
  ((List.range i).flatMap fun j => ((tk (opAt os j)).filter fun x => x == (t : Int)).map fun _ => (j : Int)) ++ (((tk (opAt os i)).take m).filter fun x => x == (t : Int)).map fun _ => (i : Int)
def gm0 (os : List Opr) (pc cnt : Int) : Gm := ⟨[⟨1, 0, 0, 0, 0, cnt, pc, 0⟩], fun t => ⟨-1, -1, usT os os.length 0 t⟩, fun _ => -1, fun _ => false, 0⟩
def codeG (os : List Opr) (R : Nat) (pc cnt : Int) : Gm := Gm.all os R (gm0 os pc cnt) os.length
end Go.Proofs.Ytcjcmnnhmajocab.Gn
namespace Go.Proofs.Ytcjcmnnhmajocab.Gn
open Go.RowKit Kt Ic Hr Ho Me
set_option linter.unusedVariables false
set_option linter.unusedSimpArgs false
/-- how many values of so many are laid aside -/
def cS (g : Gm) : Nat → Nat
  | 0 => 0
  | n + 1 => cS g n + if 0 ≤ (g.v n).spill then 1 else 0
structure GI (os : List Opr) (R i : Nat) (g : Gm) : Prop where
  hh : ∀ r, g.holds r < os.length
  hl : ∀ r, -1 ≤ g.holds r
  hv : ∀ r t : Nat, g.holds r = t → (g.v t).reg = r
  vr : ∀ t, -1 ≤ (g.v t).reg ∧ (g.v t).reg < R
  vh : ∀ t r : Nat, (g.v t).reg = r → g.holds r = t
  vs : ∀ t, -1 ≤ (g.v t).spill ∧ (g.v t).spill < g.sp
  sp : g.sp = cS g os.length
  un : ∀ t, ∀ u ∈ (g.v t).uses, 0 ≤ u ∧ u < 1073741824
  w : ∀ t, t < i → (opAt os t).k ≠ 1 → (g.v t).uses ≠ [] → 0 ≤ (g.v t).reg ∨ 0 ≤ (g.v t).spill
  fut : ∀ t, i ≤ t → (g.v t).reg = -1 ∧ (g.v t).spill = -1
theorem kind_op (os : List Opr) (t : Nat) : kindAt os t = (opAt os t).k := by
  unfold kindAt opAt
  rw [List.getD_eq_getElem?_getD]
  cases os[t]? <;> rfl
theorem cS_congr {g g' : Gm} {n : Nat} (h : ∀ t, t < n → (g'.v t).spill = (g.v t).spill) : cS g' n = cS g n := by
  induction n with
  | zero => rfl
  | succ n ih => rw [cS, cS, ih fun t ht => h t (by omega), h n (by omega)]
theorem cS_lt {g : Gm} {n t : Nat} (ht : t < n) (h : (g.v t).spill < 0) : cS g n < n := by
  have le : ∀ m, cS g m ≤ m := fun m => by
    induction m with
    | zero => exact Nat.le_refl _
    | succ m ih => rw [cS]; split <;> omega
  induction n with
  | zero => omega
  | succ n ih =>
    rw [cS]
    by_cases e : t = n
    · subst e; rw [if_neg (by omega)]; have := le t; omega
    · have := ih (by omega); split <;> omega
theorem cS_le (g : Gm) (n : Nat) : cS g n ≤ n := by
  induction n with
  | zero => exact Nat.le_refl _
  | succ n ih => rw [cS]; split <;> omega
theorem cS_set {g : Gm} {n t : Nat} {x : Int} (ht : t < n) (h : (g.v t).spill < 0) (hx : 0 ≤ x) : cS (g.setS t x) n = cS g n + 1 := by
  induction n with
  | zero => omega
  | succ n ih =>
    rw [cS, cS]
    by_cases e : t = n
    · rw [← e, cS_congr (g := g) (g' := g.setS t x) (fun j hj => by simp [Gm.setS, upd, Nat.ne_of_lt hj])]
      have h1 : ((g.setS t x).v t).spill = x := by simp [Gm.setS, upd]
      rw [h1, if_pos hx, if_neg (by omega)]
    · rw [ih (by omega)]
      have : ((g.setS t x).v n).spill = (g.v n).spill := by
        have : (g.setS t x).v n = g.v n := by simp only [Gm.setS, upd]; exact if_neg (fun h => e h.symm)
        rw [this]
      rw [this]; omega
theorem hd0_nn {l : List Int} (h : ∀ u ∈ l, 0 ≤ u ∧ u < 1073741824) : 0 ≤ hd0 l := by
  cases l with
  | nil => exact (by decide : (0 : Int) ≤ 1073741824)
  | cons u l => exact (h u (by simp)).1
variable {os : List Opr} {R i : Nat} {g : Gm}
theorem GI.nn (a : GI os R i g) (t : Nat) : 0 ≤ nxt g t := hd0_nn (a.un t)
theorem GI.spl (a : GI os R i g) (hn : os.length ≤ 2048) : 0 ≤ g.sp ∧ g.sp ≤ 2048 := by
  have := a.sp; have := cS_le g os.length; omega
theorem GI.sp0 (a : GI os R i g) (hn : os.length ≤ 2048) {t : Nat} (ht : t < os.length) (hs : (g.v t).spill < 0) : 0 ≤ g.sp ∧ g.sp < 2048 := by
  have := a.sp; have := cS_lt ht hs; omega
/-- a register that is not pinned is found -/
theorem bst_ok (hn : ∀ t, 0 ≤ nxt g t) : ∀ m, (∃ r, r < m ∧ g.pin r = false) → ∃ b : Nat, b < m ∧ (bst g m).1 = b ∧ g.pin b = false ∧ 0 ≤ (bst g m).2
  | 0, h => by obtain ⟨r, hr, _⟩ := h; omega
  | m + 1, h => by
    rw [bst]
    by_cases hp : g.pin m = true
    · rw [if_pos hp]
      obtain ⟨r, hr, hf⟩ := h
      have : r ≠ m := fun e => by rw [e, hp] at hf; exact Bool.noConfusion hf
      obtain ⟨b, h1, h2⟩ := bst_ok hn m ⟨r, by omega, hf⟩
      exact ⟨b, by omega, h2⟩
    · rw [if_neg hp]
      have hp' : g.pin m = false := by simpa using hp
      have hv : 0 ≤ (if 0 ≤ g.holds m then nxt g (g.holds m).toNat else 1073741825) := by
        split
        · exact hn _
        · decide
      by_cases hc : (bst g m).2 < (if 0 ≤ g.holds m then nxt g (g.holds m).toNat else 1073741825)
      · rw [if_pos hc]
        exact ⟨m, by omega, rfl, hp', hv⟩
      · rw [if_neg hc]
        by_cases he : ∃ r, r < m ∧ g.pin r = false
        · obtain ⟨b, h1, h2⟩ := bst_ok hn m he
          exact ⟨b, by omega, h2⟩
        · have : bst g m = (-1, -1) := by
            have : ∀ k, k ≤ m → bst g k = (-1, -1) := fun k => by
              induction k with
              | zero => exact fun _ => rfl
              | succ k ih =>
                intro hk
                rw [bst, if_pos, ih (by omega)]
                cases hq : g.pin k
                · exact absurd ⟨k, by omega, hq⟩ he
                · rfl
            exact this m (Nat.le_refl _)
          rw [this] at hc
          simp only at hc
          omega
theorem lay_v (t : Nat) : (g.lay os t).holds = g.holds ∧ (g.lay os t).pin = g.pin ∧ (∀ j, ((g.lay os t).v j).reg = (g.v j).reg ∧ ((g.lay os t).v j).uses = (g.v j).uses) ∧ ∀ j, j ≠ t → ((g.lay os t).v j).spill = (g.v j).spill := by
  unfold Gm.lay
  split
  · refine ⟨rfl, rfl, fun j => ?_, fun j hj => ?_⟩
    · by_cases e : j = t
      · subst e; simp [Gm.put, Gm.setSp, Gm.setS, upd]
      · simp [Gm.put, Gm.setSp, Gm.setS, upd, e]
    · simp [Gm.put, Gm.setSp, Gm.setS, upd, hj]
  · exact ⟨rfl, rfl, fun j => ⟨rfl, rfl⟩, fun j _ => rfl⟩
/-- what is laid aside has a place then -/
theorem GI.lay (a : GI os R i g) (hn : os.length ≤ 2048) {t : Nat} (ht : t < os.length) (hi : t < i) : GI os R i (g.lay os t) ∧ ((opAt os t).k ≠ 1 → (g.v t).uses ≠ [] → 0 ≤ ((g.lay os t).v t).spill) := by
  obtain ⟨e1, e2, e3, e4⟩ := lay_v (os := os) (g := g) t
  have hsp := a.spl hn
  by_cases hs : spills os g t = true
  · have hl : g.lay os t = ((g.setS t g.sp).setSp (g.sp + 1)).put (stsC (g.v t).reg g.sp) := by unfold Gm.lay; rw [if_pos hs]
    have hs' : (g.v t).spill < 0 := by unfold spills at hs; simp only [Bool.and_eq_true, decide_eq_true_eq] at hs; exact hs.2.1
    have ev : ((g.lay os t).v t).spill = g.sp := by rw [hl]; simp [Gm.put, Gm.setSp, Gm.setS, upd]
    have es : (g.lay os t).sp = g.sp + 1 := by rw [hl]; rfl
    have ec : cS (g.lay os t) os.length = cS g os.length + 1 := by rw [hl, ← cS_set ht hs' hsp.1]; exact cS_congr fun _ _ => rfl
    refine ⟨⟨by rw [e1]; exact a.hh, by rw [e1]; exact a.hl, fun r t' h => by rw [(e3 t').1]; exact a.hv r t' (by rw [← e1]; exact h), fun t' => by rw [(e3 t').1]; exact a.vr t', fun t' r h => by rw [e1]; exact a.vh t' r (by rw [← (e3 t').1]; exact h), fun t' => ?_, by rw [es, ec, a.sp]; rfl, fun t' => by rw [(e3 t').2]; exact a.un t', fun t' h1 h2 h3 => ?_, fun t' h1 => ?_⟩, fun _ _ => by rw [ev]; exact hsp.1⟩
    · by_cases e : t' = t
      · subst e; rw [ev, es]; omega
      · rw [e4 t' e, es]; have := a.vs t'; omega
    · rw [(e3 t').1]; rw [(e3 t').2] at h3
      by_cases e : t' = t
      · subst e; rw [ev]; exact .inr hsp.1
      · rw [e4 t' e]; exact a.w t' h1 h2 h3
    · rw [(e3 t').1, e4 t' (by omega)]; exact a.fut t' h1
  · have hl : g.lay os t = g := by unfold Gm.lay; rw [if_neg hs]
    rw [hl]
    refine ⟨a, fun h1 h2 => ?_⟩
    unfold spills at hs
    simp only [Bool.and_eq_true, decide_eq_true_eq] at hs
    have hx : nxt g t ≠ 1073741824 := by
      unfold nxt
      cases hu : (g.v t).uses with
      | nil => exact absurd hu h2
      | cons u l =>
        have := a.un t u (by rw [hu]; simp)
        show u ≠ _
        omega
    exact Int.not_lt.1 fun hh => hs ⟨hx, hh, by rw [kind_op]; exact h1⟩
theorem out_v (t : Nat) : (∀ r : Nat, (g.out os t).holds r = if r = (g.v t).reg.toNat then -1 else g.holds r) ∧ (g.out os t).pin = g.pin ∧ ((g.out os t).v t).reg = -1 ∧ (∀ j, j ≠ t → (g.out os t).v j = g.v j) ∧ (∀ j, ((g.out os t).v j).uses = (g.v j).uses) ∧ ((g.out os t).v t).spill = ((g.lay os t).v t).spill := by
  obtain ⟨e1, e2, e3, e4⟩ := lay_v (os := os) (g := g) t
  refine ⟨fun r => ?_, ?_, ?_, fun j hj => ?_, fun j => ?_, ?_⟩
  · show upd (g.lay os t).holds _ (-1) r = _
    unfold upd; rw [e1]
  · exact e2
  · simp [Gm.out, Gm.setR, Gm.setH, upd]
  · have : (g.out os t).v j = (g.lay os t).v j := by simp [Gm.out, Gm.setR, Gm.setH, upd, hj]
    rw [this]
    have h1 := (e3 j).1; have h2 := (e3 j).2; have h3 := e4 j hj
    cases h : (g.lay os t).v j; cases h' : g.v j
    rw [h, h'] at h1 h2 h3
    simp_all
  · by_cases e : j = t
    · subst e; simp only [Gm.out, Gm.setR, Gm.setH, upd, if_true]; exact (e3 j).2
    · simp only [Gm.out, Gm.setR, Gm.setH, upd, if_neg e]; exact (e3 j).2
  · simp [Gm.out, Gm.setR, Gm.setH, upd]
theorem GI.out (a : GI os R i g) (hn : os.length ≤ 2048) {t r : Nat} (ht : t < os.length) (hr : (g.v t).reg = r) : GI os R i (g.out os t) := by
  have hi : t < i := by
    refine Nat.lt_of_not_le fun h => ?_
    have := (a.fut t h).1
    omega
  obtain ⟨b, bs⟩ := a.lay hn ht hi
  obtain ⟨e1, e2, e3, e4, e5, e6⟩ := out_v (os := os) (g := g) t
  obtain ⟨l1, l2, l3, l4⟩ := lay_v (os := os) (g := g) t
  have hrt : (g.v t).reg.toNat = r := by rw [hr]; rfl
  rw [hrt] at e1
  have esp : (g.out os t).sp = (g.lay os t).sp := rfl
  refine ⟨fun r' => ?_, fun r' => ?_, fun r' t' h => ?_, fun t' => ?_, fun t' r' h => ?_, fun t' => ?_, ?_, fun t' => by rw [e5]; exact a.un t', fun t' h1 h2 h3 => ?_, fun t' h1 => ?_⟩
  · rw [e1]; split
    · omega
    · exact a.hh r'
  · rw [e1]; split
    · omega
    · exact a.hl r'
  · rw [e1] at h
    split at h
    · omega
    · next hne =>
      have h1 := a.hv r' t' h
      have : t' ≠ t := fun e => by rw [e] at h1; omega
      rw [e4 t' this]; exact h1
  · by_cases e : t' = t
    · rw [e, e3]; have := a.vr t; omega
    · rw [e4 t' e]; exact a.vr t'
  · by_cases e : t' = t
    · rw [e, e3] at h; omega
    · rw [e4 t' e] at h
      have h1 := a.vh t' r' h
      rw [e1, if_neg, h1]
      intro e'
      subst e'
      have := a.vh t r' hr
      omega
  · rw [esp]
    by_cases e : t' = t
    · rw [e, e6]; exact b.vs t
    · have := b.vs t'; rw [l4 t' e] at this; rw [e4 t' e]; exact this
  · rw [esp, b.sp, cS_congr fun t' _ => ?_]
    by_cases e : t' = t
    · rw [e]; exact e6.symm
    · rw [e4 t' e, l4 t' e]
  · by_cases e : t' = t
    · rw [e]; rw [e] at h2 h3; rw [e6]; rw [e5] at h3; exact .inr (bs h2 h3)
    · rw [e4 t' e]; rw [e4 t' e] at h3; exact a.w t' h1 h2 h3
  · rw [e4 t' (by omega)]; exact a.fut t' h1
end Go.Proofs.Ytcjcmnnhmajocab.Gn
namespace Go.Proofs.Ytcjcmnnhmajocab.Gn
open Go.RowKit Kt Ic Hr Ho Me
set_option linter.unusedVariables false
set_option linter.unusedSimpArgs false
theorem scan_all {os : List Opr} {cnt : Int} : ∀ n, n ≤ os.length → (scan os cnt n).1 = 0 → (∀ k, k < n → errAt os cnt (os.length - (k + 1)) = 0) ∧ lastOf os = true
  | 0, _, h => by
    refine ⟨fun k hk => absurd hk (by omega), ?_⟩
    unfold scan at h
    by_cases e : lastOf os = true
    · exact e
    · rw [if_neg e] at h
      exact absurd h (show ¬ (7 : Int) = 0 by decide)
  | n + 1, hn, h => by
    unfold scan at h
    by_cases e : errAt os cnt (os.length - (n + 1)) = 0
    · rw [if_pos (by simp [e])] at h
      obtain ⟨h1, h2⟩ := scan_all n (by omega) h
      refine ⟨fun k hk => ?_, h2⟩
      by_cases hkn : k = n
      · rw [hkn]; exact e
      · exact h1 k (by omega)
    · rw [if_neg (by simpa using e)] at h
      exact absurd h e
/-- an operation of a block -/
structure OpC (os : List Opr) (cnt : Int) (i : Nat) (o : Opr) : Prop where
  k : 1 ≤ o.k ∧ o.k ≤ 17
  w : 0 ≤ o.w ∧ (o.k = 2 ∨ o.k = 3 → o.w < 12) ∧ (o.k = 4 ∨ o.k = 8 → o.w < 16) ∧ (o.k = 5 → o.w < 7) ∧ (o.k = 7 → o.w < 13) ∧ (o.k = 9 → o.w < 5) ∧ (o.k = 10 → o.w < 3) ∧ (o.k = 13 ∨ o.k = 14 → 1 ≤ o.w ∧ o.w < 8) ∧ (o.k = 1 ∨ o.k = 6 ∨ o.k = 11 ∨ o.k = 12 ∨ o.k = 15 ∨ o.k = 16 ∨ o.k = 17 → o.w = 0)
  n : 0 ≤ o.n ∧ o.n ≤ cnt ∧ (o.k < 9 ∨ o.k = 17 → o.n = 0)
  kn : (2 ≤ o.k ∧ o.k ≤ 8) ∨ o.k = 16 ∨ o.k = 17 → o.kn = 0
  t : ∀ x ∈ tk o, 0 ≤ x ∧ x < (i : Int) ∧ gv (kindAt os x.toNat) = true
  f : 14 ≤ o.k ∧ o.k ≤ 16 → ¬ (i : Int) < (os.length : Int) - 1
  w16 : o.w < 16
theorem oerr_0 {x2 x4 x6 x8 x10 x12 : Bool} (h : oerr x2 x4 x6 x8 x10 x12 = 0) : x2 = false ∧ x4 = false ∧ x6 = false ∧ x8 = false ∧ x10 = false ∧ x12 = false := by
  unfold oerr at h
  cases x2 <;> cases x4 <;> cases x6 <;> cases x8 <;> cases x10 <;> cases x12 <;> simp at h ⊢
theorem rO_in {k : Int} (h : rO k = true) : 1 ≤ k ∧ k ≤ 17 := by
  unfold rO at h
  split at h <;> first | omega | exact absurd h (by decide)
theorem gvn_of {os : List Opr} {i : Nat} {t : Int} (h : gvn os i t = true) : 0 ≤ t ∧ t < (i : Int) ∧ gv (kindAt os t.toNat) = true := by
  unfold gvn at h
  simp only [Bool.and_eq_true, decide_eq_true_eq] at h
  exact ⟨h.1.1, h.1.2, h.2⟩
set_option maxHeartbeats 4000000 in
theorem opc_of {os : List Opr} {cnt : Int} {i : Nat} {o : Opr} (h : opE os cnt i o = 0) : OpC os cnt i o := by
  unfold opE at h
  obtain ⟨h2, h4, h6, h8, h10, h12⟩ := oerr_0 h
  have hk := rO_in (k := o.k) (by unfold e2 at h2; simp only [Bool.or_eq_false_iff, Bool.not_eq_false'] at h2; simpa using h2.1)
  obtain ⟨k, w, a, b, c, kn, n⟩ := o
  dsimp only at *
  unfold e2 at h2
  unfold e4 at h4
  unfold e10 at h10
  unfold e12 at h12
  clear h h6 h8
  rcases (show k = 1 ∨ k = 2 ∨ k = 3 ∨ k = 4 ∨ k = 5 ∨ k = 6 ∨ k = 7 ∨ k = 8 ∨ k = 9 ∨ k = 10 ∨ k = 11 ∨ k = 12 ∨ k = 13 ∨ k = 14 ∨ k = 15 ∨ k = 16 ∨ k = 17 by omega) with rfl | rfl | rfl | rfl | rfl | rfl | rfl | rfl | rfl | rfl | rfl | rfl | rfl | rfl | rfl | rfl | rfl
  all_goals
    simp only [rS, rA, rB, rC, rK, rN, rF, rO, Bool.not_true, Bool.not_false, Bool.false_or, Bool.true_and, Bool.false_and, Bool.or_false, Bool.or_eq_false_iff, Bool.not_eq_false', decide_eq_false_iff_not, bne_eq_false_iff_eq, Bool.and_eq_false_iff, beq_eq_false_iff_ne] at h2 h4 h10 h12
    refine ⟨by dsimp only; omega, by dsimp only; simp at h2; omega, by dsimp only; simp at h4; omega, by dsimp only; simp at h4; omega, ?_, by dsimp only; simp at h12 ⊢; try omega, by dsimp only; simp at h2; omega⟩
    intro x hx
    simp [tk] at hx
    try (first
      | (rcases hx with rfl | rfl | rfl
         · exact gvn_of (by simp_all)
         · exact gvn_of (by simp_all)
         · exact gvn_of (by simp_all))
      | (rcases hx with rfl | rfl
         · exact gvn_of (by simp_all)
         · exact gvn_of (by simp_all))
      | (subst hx; exact gvn_of (by simp_all)))
theorem chk_of {os : List Opr} {cnt byt : Int} (h : (chk os cnt byt).1 = 0) : 0 < os.length ∧ os.length ≤ 2048 ∧ 0 ≤ cnt ∧ cnt ≤ 64 ∧ (∀ i, i < os.length → OpC os cnt i (opAt os i)) ∧ lastOf os = true := by
  unfold chk at h
  by_cases h1 : 2048 < os.length
  · rw [if_pos h1] at h; exact absurd h (by decide)
  rw [if_neg h1] at h
  by_cases h2 : cnt < 0 ∨ 64 < cnt ∨ byt < 0 ∨ 384 < byt
  · rw [if_pos h2] at h; exact absurd h (by decide)
  rw [if_neg h2] at h
  obtain ⟨h3, h4⟩ := scan_all os.length (Nat.le_refl _) h
  have h0 : 0 < os.length := by
    rcases Nat.eq_zero_or_pos os.length with e | e
    · unfold lastOf at h4
      rw [List.getElem?_eq_none (by omega)] at h4
      exact absurd h4 (by decide)
    · exact e
  refine ⟨h0, by omega, by omega, by omega, fun i hi => ?_, h4⟩
  have := h3 (os.length - (i + 1)) (by omega)
  rw [show os.length - (os.length - (i + 1) + 1) = i by omega] at this
  unfold errAt at this
  rw [List.getElem?_eq_getElem hi] at this
  have e : opAt os i = os[i] := by unfold opAt; rw [List.getD_eq_getElem?_getD, List.getElem?_eq_getElem hi]; rfl
  rw [e]
  exact opc_of this
end Go.Proofs.Ytcjcmnnhmajocab.Gn
