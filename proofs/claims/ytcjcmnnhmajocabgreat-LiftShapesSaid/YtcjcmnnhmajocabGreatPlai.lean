/- opt: the map of what is there; number. -/
import Derived.Handy
import Derived.Deep.DeepCutAuto
import Derived.Test.YtcjcmnnhmajocabGreatPlah
set_option linter.unusedVariables false
set_option linter.unusedSimpArgs false
set_option maxRecDepth 100000
set_option maxHeartbeats 16000000
namespace Go.Proofs.YtcjcmnnhmajocabGreat.Ev
open Go.RowKit Kt Me Fl
/-- which of the guest's arithmetic a kind of OpBin is -/
def alu (w : Int) : Int := if w = 0 then 0 else if w = 1 then 2 else if w = 2 then 4 else if w = 3 then 5 else if w = 4 then 6 else if w = 5 then 9 else if w = 6 then 10 else if w = 7 then 11 else if w = 8 then 12 else 13
def binV (w a b : Int) : Int :=
 if w < 10 then rkv (alu w) a b 0
 else if w = 10 then a * b / 4294967296
 else if w = 11 then (if b = 0 then 4294967295 else a / b)
 else if w = 12 then (if b = 0 then a else a % b)
 else if w = 13 then (if a = b then 1 else 0)
 else if w = 14 then (if a < b then 1 else 0)
 else (if sg a < sg b then 1 else 0)
def s8 (a : Int) : Int := if 128 ≤ a % 256 then a % 256 + 4294967040 else a % 256
def s16 (a : Int) : Int := if 32768 ≤ a % 65536 then a % 65536 + 4294901760 else a % 65536
def unV (w a : Int) : Int :=
 if w = 0 then 4294967295 - a
 else if w = 1 then (-a) % 4294967296
 else if w = 2 then s8 a
 else if w = 3 then s16 a
 else if w = 4 then a % 256
 else if w = 5 then a % 65536
 else (if a = 0 then 1 else 0)
/-- what an operation that hangs on what it takes alone gives -/
def valV (k w kn a b c : Int) : Int :=
 if k = 1 then kn
 else if k = 4 then binV w a b
 else if k = 5 then unV w a
 else if k = 6 then (if a = 0 then c else b)
 else if k = 7 then fl w a b c
 else (if hd w a then 1 else 0)
/-- with its sign, if the kind has one -/
def wid (w v : Int) : Int := if w = 1 then s8 v else if w = 3 then s16 v else v
def ldn (w : Int) : Int := if w = 0 then 1 else if w = 1 then 1 else if w = 2 then 2 else if w = 3 then 2 else 4
def stn (w : Int) : Int := if w = 0 then 1 else if w = 1 then 2 else 4
theorem s8_bd (a : Int) : 0 ≤ s8 a ∧ s8 a < 4294967296 := by unfold s8; split <;> omega
theorem s16_bd (a : Int) : 0 ≤ s16 a ∧ s16 a < 4294967296 := by unfold s16; split <;> omega
theorem rkv_bd' (o a b f : Int) (a0 : 0 ≤ a) (a1 : a < 4294967296) (b0 : 0 ≤ b) (b1 : b < 4294967296) (ho : o = 0 ∨ o = 2 ∨ o = 4 ∨ o = 5 ∨ o = 6 ∨ o = 9 ∨ o = 10 ∨ o = 11 ∨ o = 12 ∨ o = 13) : 0 ≤ rkv o a b f ∧ rkv o a b f < 4294967296 := by
 have h1 := bits_lt .and a b a0 a1 b0 b1
 have h2 := bits_lt .or a b a0 a1 b0 b1
 have h3 := bits_lt .xor a b a0 a1 b0 b1
 have h4 := rol_lt a (n5 b) (n5_lt b) a0 a1
 have h5 : 0 ≤ a / 2 ^ n5 b ∧ a / 2 ^ n5 b ≤ a := ⟨Int.ediv_nonneg a0 (Int.le_of_lt (two_pow_pos _)), Int.ediv_le_self _ a0⟩
 have e1 : 0 ≤ a * 2 ^ n5 b % 4294967296 ∧ a * 2 ^ n5 b % 4294967296 < 4294967296 := ⟨Int.emod_nonneg _ (by decide), Int.emod_lt_of_pos _ (by decide)⟩
 have e2 : 0 ≤ sg a / 2 ^ n5 b % 4294967296 ∧ sg a / 2 ^ n5 b % 4294967296 < 4294967296 := ⟨Int.emod_nonneg _ (by decide), Int.emod_lt_of_pos _ (by decide)⟩
 have e3 : 0 ≤ a * b % 4294967296 ∧ a * b % 4294967296 < 4294967296 := ⟨Int.emod_nonneg _ (by decide), Int.emod_lt_of_pos _ (by decide)⟩
 rcases ho with rfl | rfl | rfl | rfl | rfl | rfl | rfl | rfl | rfl | rfl
 ·show 0 ≤ (a + b) % 4294967296 ∧ (a + b) % 4294967296 < 4294967296; omega
 ·show 0 ≤ (a - b) % 4294967296 ∧ (a - b) % 4294967296 < 4294967296; omega
 ·exact h1
 ·exact h2
 ·exact h3
 ·exact e1
 ·exact ⟨h5.1, Int.lt_of_le_of_lt h5.2 a1⟩
 ·exact e2
 ·exact h4
 ·exact e3
theorem binV_bd (w a b : Int) (a0 : 0 ≤ a) (a1 : a < 4294967296) (b0 : 0 ≤ b) (b1 : b < 4294967296) : 0 ≤ binV w a b ∧ binV w a b < 4294967296 := by
 unfold binV
 split
 ·refine rkv_bd' _ _ _ _ a0 a1 b0 b1 ?_
  unfold alu
  repeat' split
  all_goals omega
 ·split
  ·have h0 : 0 ≤ a * b := Int.mul_nonneg a0 b0
   have h1 : a * b ≤ 4294967295 * 4294967295 := Int.mul_le_mul (by omega) (by omega) b0 (by decide)
   omega
  ·split
   ·split
    ·omega
    ·have := Int.ediv_le_self b a0
     exact ⟨Int.ediv_nonneg a0 b0, Int.lt_of_le_of_lt this a1⟩
   ·split
    ·split
     ·omega
     ·next hb => exact ⟨Int.emod_nonneg _ hb, Int.lt_trans (Int.emod_lt_of_pos _ (by omega)) b1⟩
    ·repeat' split
     all_goals omega
theorem unV_bd (w a : Int) (a0 : 0 ≤ a) (a1 : a < 4294967296) : 0 ≤ unV w a ∧ unV w a < 4294967296 := by
 have h1 := s8_bd a
 have h2 := s16_bd a
 unfold unV
 repeat' split
 all_goals omega
theorem valV_bd (k w kn a b c : Int) (k0 : 0 ≤ kn) (k1 : kn < 4294967296) (a0 : 0 ≤ a) (a1 : a < 4294967296) (b0 : 0 ≤ b) (b1 : b < 4294967296) (c0 : 0 ≤ c) (c1 : c < 4294967296) : 0 ≤ valV k w kn a b c ∧ valV k w kn a b c < 4294967296 := by
 have h1 := binV_bd w a b a0 a1 b0 b1
 have h2 := unV_bd w a a0 a1
 have h3 := St.fl_bd w a b c
 unfold valV
 by_cases e : k = 1
 ·rw [if_pos e]; exact ⟨k0, k1⟩
 rw [if_neg e]; clear e
 by_cases e : k = 4
 ·rw [if_pos e]; exact h1
 rw [if_neg e]; clear e
 by_cases e : k = 5
 ·rw [if_pos e]; exact h2
 rw [if_neg e]; clear e
 by_cases e : k = 6
 ·rw [if_pos e]; split <;> omega
 rw [if_neg e]; clear e
 by_cases e : k = 7
 ·rw [if_pos e]; omega
 rw [if_neg e]; clear e
 split <;> omega
theorem wid_bd (w v : Int) (v0 : 0 ≤ v) (v1 : v < 4294967296) : 0 ≤ wid w v ∧ wid w v < 4294967296 := by
 have h1 := s8_bd v
 have h2 := s16_bd v
 unfold wid
 repeat' split
 all_goals omega
end Go.Proofs.YtcjcmnnhmajocabGreat.Ev
namespace Go.Proofs.YtcjcmnnhmajocabGreat.Ot
open Go.RowKit Kt Ic Me Ev
instance eqOpr : DecidableEq Opr := fun a b => decidable_of_iff (a.k = b.k ∧ a.w = b.w ∧ a.a = b.a ∧ a.b = b.b ∧ a.c = b.c ∧ a.kn = b.kn ∧ a.n = b.n) ⟨fun h => by obtain ⟨h1, h2, h3, h4, h5, h6, h7⟩ := h; cases a; cases b; dsimp only at *; subst h1 h2 h3 h4 h5 h6 h7; rfl, fun h => by subst h; exact ⟨rfl, rfl, rfl, rfl, rfl, rfl, rfl⟩⟩
/-- what is under way -/
structure Wk where
 ops : List Opr
 «to» : Nat → Int
 sl : Nat → Int
 now : Int
def zo : Opr := ⟨0, 0, 0, 0, 0, 0, 0⟩
def opAt (os : List Opr) (t : Nat) : Opr := os.getD t zo
def tA (k : Int) : Bool := decide (k = 3 ∨ k = 4 ∨ k = 5 ∨ k = 6 ∨ k = 7 ∨ k = 8 ∨ k = 9 ∨ k = 10 ∨ k = 12 ∨ k = 13 ∨ k = 16)
def tB (k : Int) : Bool := decide (k = 4 ∨ k = 6 ∨ k = 7 ∨ k = 10)
def tC (k : Int) : Bool := decide (k = 6 ∨ k = 7)
def Wk.nx (s : Wk) : Int := s.ops.length
def Wk.put (s : Wk) (o : Opr) : Wk := { s with ops := s.ops ++ [o] }
def Wk.set (s : Wk) (i : Nat) (x : Int) : Wk := { s with «to» := upd s.to i x }
def Wk.st (s : Wk) (j : Nat) (x : Int) : Wk := { s with sl := upd s.sl j x }
def Wk.setN (s : Wk) (x : Int) : Wk := { s with now := x }
def pur (k : Int) : Bool := decide (k = 1 ∨ (4 ≤ k ∧ k ≤ 8))
/-- the first place of an operation -/
def idx (o : Opr) : List Opr → Option Nat
 | [] => none
 | x :: l => if x = o then some 0 else (idx o l).map (· + 1)
def Wk.num (s : Wk) (o : Opr) : Int × Wk := match idx o s.ops with
 | some k => ((k : Int), s)
 | none => (s.nx, s.put o)
def isC (s : Wk) (t : Int) : Bool := decide ((opAt s.ops t.toNat).k = 1)
def kn (s : Wk) (t : Int) : Int := (opAt s.ops t.toNat).kn
def lv (w : Int) : Bool := decide (w = 0 ∨ w = 1 ∨ w = 3 ∨ w = 4 ∨ w = 5 ∨ w = 6 ∨ w = 7 ∨ w = 8 ∨ w = 12)
def allC (s : Wk) (o : Opr) : Bool := (!tA o.k || isC s o.a) && (!tB o.k || isC s o.b) && (!tC o.k || isC s o.c)
def cK (x : Int) : Opr := ⟨1, 0, 0, 0, 0, x, 0⟩
def vA (s : Wk) (o : Opr) : Int := if tA o.k then kn s o.a else 0
def vB (s : Wk) (o : Opr) : Int := if tB o.k then kn s o.b else 0
def vC (s : Wk) (o : Opr) : Int := if tC o.k then kn s o.c else 0
def fold (s : Wk) (o : Opr) : Opr := cK (valV o.k o.w o.kn (vA s o) (vB s o) (vC s o))
def Wk.val (s : Wk) (o : Opr) : Int × Wk :=
 if o.k = 1 then s.num o
 else if allC s o then s.num (fold s o)
 else if o.k = 6 ∧ isC s o.a = true then (if kn s o.a = 0 then o.c else o.b, s)
 else if o.k = 6 ∧ o.b = o.c then (o.b, s)
 else if o.k = 4 ∧ isC s o.b = true ∧ kn s o.b = 0 ∧ lv o.w = true then (o.a, s)
 else s.num o
def flK (x : Int) : Int := if x ≤ 12 then x else 0
def Wk.flg (s : Wk) (o : Opr) : Int × Wk :=
 if 0 ≤ s.sl 8 ∧ 0 ≤ s.sl 9 ∧ 0 ≤ s.sl 10 ∧ 0 ≤ s.sl 11 ∧ isC s (s.sl 8) = true then s.val ⟨7, flK (kn s (s.sl 8)), s.sl 9, s.sl 10, s.sl 11, 0, 0⟩
 else if s.now < 0 then (s.nx, (s.put o).setN s.nx)
 else (s.now, s)
def w0 : Wk := ⟨[], fun _ => 0, fun _ => -1, -1⟩
/-- what is known of what comes behind -/
structure Dd where
 ov : Nat → Bool
 us : Nat → Bool
 kp : Nat → Bool
def gvD (k : Int) : Bool := decide (k = 1 ∨ k = 2 ∨ (4 ≤ k ∧ k ≤ 8) ∨ k = 17)
def Dd.kpO (d : Dd) (i : Nat) (o : Opr) : Bool := if o.k = 3 then !d.ov o.w.toNat else if gvD o.k then d.us i else true
def Dd.ov1 (d : Dd) (o : Opr) : Nat → Bool := if o.k = 3 then upd d.ov o.w.toNat true else if gvD o.k then d.ov else fun _ => false
def Dd.ov2 (d : Dd) (o : Opr) : Nat → Bool := if o.k = 2 then upd (d.ov1 o) o.w.toNat false else if o.k = 17 then (fun j => if 8 ≤ j then false else d.ov1 o j) else d.ov1 o
def mk1 (b : Bool) (u : Nat → Bool) (t : Int) : Nat → Bool := if b then upd u t.toNat true else u
def Dd.us2 (d : Dd) (o : Opr) : Nat → Bool := mk1 (tC o.k) (mk1 (tB o.k) (mk1 (tA o.k) d.us o.a) o.b) o.c
def Dd.one (d : Dd) (i : Nat) (o : Opr) : Dd :=
 if d.kpO i o then ⟨d.ov2 o, d.us2 o, upd d.kp i true⟩ else ⟨d.ov1 o, d.us, upd d.kp i false⟩
def e0 : Wk := ⟨[], fun _ => 0, fun _ => 0, 0⟩
def orAt (a : Option Nat) (b : Bool) (n : Nat) : Option Nat := match a with
 | some k => some k
 | none => if b then some n else none
theorem idx_snoc (x o : Opr) : ∀ l, idx x (l ++ [o]) = orAt (idx x l) (decide (o = x)) l.length
 | [] => by
  show (if o = x then some 0 else none) = if decide (o = x) = true then some 0 else none
  simp
 | y :: l => by
  show (if y = x then some 0 else (idx x (l ++ [o])).map (· + 1)) = orAt (if y = x then some 0 else (idx x l).map (· + 1)) (decide (o = x)) (l.length + 1)
  by_cases e : y = x
  ·rw [if_pos e, if_pos e]; rfl
  ·rw [if_neg e, if_neg e, idx_snoc x o l]
   cases idx x l with
   | some k => rfl
   | none =>
    by_cases e : o = x
    ·simp [orAt, e]
    ·simp [orAt, e]
def opCs (os : List Opr) : List Value := os.flatMap fun o => o.cells.toList
theorem opCs_app (a b : List Opr) : opCs (a ++ b) = opCs a ++ opCs b := by unfold opCs; simp
theorem opCs_get : ∀ (os : List Opr) (i j : Nat) (o : Opr), os[i]? = some o → j < 7 → (opCs os)[i * 7 + j]? = o.cells[j]?
 | [], i, j, o, h, _ => by simp at h
 | x :: os, 0, j, o, h, hj => by
  obtain rfl : x = o := by simpa using h
  show (x.cells.toList ++ opCs os)[0 * 7 + j]? = _
  have hl : x.cells.toList.length = 7 := rfl
  rw [Nat.zero_mul, Nat.zero_add, List.getElem?_append_left (by omega), Array.getElem?_toList]
 | x :: os, i + 1, j, o, h, hj => by
  show (x.cells.toList ++ opCs os)[(i + 1) * 7 + j]? = _
  have hl : x.cells.toList.length = 7 := rfl
  rw [List.getElem?_append_right (by omega), hl, show (i + 1) * 7 + j - 7 = i * 7 + j by omega]
  exact opCs_get os i j o (by simpa using h) hj
theorem opr_cells (o : Opr) : ∀ (j : Nat) (v : Value), o.cells[j]? = some v → v.oneCell' = true := by
 intro j v h
 match j, h with
 | 0, h => simp [Opr.cells] at h; subst h; rfl
 | 1, h => simp [Opr.cells] at h; subst h; rfl
 | 2, h => simp [Opr.cells] at h; subst h; rfl
 | 3, h => simp [Opr.cells] at h; subst h; rfl
 | 4, h => simp [Opr.cells] at h; subst h; rfl
 | 5, h => simp [Opr.cells] at h; subst h; rfl
 | 6, h => simp [Opr.cells] at h; subst h; rfl
 | n + 7, h => simp [Opr.cells] at h
/-- operations of the call's own -/
def OwnO (base : Nat) (v : Value) (os : List Opr) (w : World) : Prop := w.ownsRow base 115 7 v os.length (opCs os)
theorem OwnO.upto {B : Nat} {v : Value} {us : List Opr} {w w' : World} {S : Nat → Prop} (h : OwnO B v us w) (u : Upto S w w') (hs : ∀ k, v.ownBlock = some k → ¬ S k) : OwnO B v us w' := by
 obtain ⟨h1, h⟩ := h
 refine ⟨h1, ?_⟩
 rcases h with h | ⟨g, cap, cur, e1, e2, e3, e4⟩
 ·exact .inl h
 ·exact .inr ⟨g, cap, cur, e1, e2, (u.block g (Array.getElem?_eq_some_iff.1 e3).1 (hs g (by rw [e1]; rfl))).trans e3, e4⟩
theorem OwnO.blk {B : Nat} {v : Value} {us : List Opr} {w : World} (h : OwnO B v us w) : ∀ k, v.ownBlock = some k → B ≤ k ∧ k < w.heap.size := by
 intro k hk
 rcases h.2 with ⟨e, _⟩ | ⟨g, cap, cur, e1, e2, e3, _⟩
 ·rw [e] at hk; exact nomatch hk
 ·rw [e1] at hk
  obtain rfl : g = k := by simpa [Value.ownBlock] using hk
  exact ⟨e2, (Array.getElem?_eq_some_iff.1 e3).1⟩
/-- its form: operations that lie there -/
theorem OwnO.form {B : Nat} {v : Value} {us : List Opr} {W : World} (h : OwnO B v us W) : ∃ ao cap, v = .slice ao us.length cap ∧ Ops us ao cap W ∧ (0 < us.length → ∃ b, ao = some ⟨b, 0, none⟩ ∧ v.ownBlock = some b ∧ B ≤ b ∧ b < W.heap.size ∧
  ∀ i o, us[i]? = some o → ∀ j u, o.cells[j]? = some u → W.cell? ⟨b, i * 7 + j, none⟩ = some u) := by
 rcases h.2 with ⟨rfl, hn⟩ | ⟨g, c1, cur, rfl, hg, hrow, hle, hmx, hsz, htk⟩
 ·have hn' : us.length = 0 := hn
  rw [hn']
  exact ⟨none, 0, rfl, ⟨by omega, by unfold maxLen; omega, fun h => absurd h (by omega)⟩, fun h => absurd h (by omega)⟩
 ·have hgl : g < W.heap.size := (Array.getElem?_eq_some_iff.1 hrow).1
  have hc : ∀ i o, us[i]? = some o → ∀ j u, o.cells[j]? = some u → W.cell? ⟨g, i * 7 + j, none⟩ = some u := fun i o hi j u hj => by
   have hj7 : j < 7 := by
    have := (Array.getElem?_eq_some_iff.1 hj).1
    exact this
   have hil := (List.getElem?_eq_some_iff.1 hi).1
   rw [cell_of_row W g (i * 7 + j) _ _ _ hrow, ← Array.getElem?_toList]
   have h2 : (cur.toList.take (us.length * 7))[i * 7 + j]? = (opCs us)[i * 7 + j]? := by rw [htk]
   rw [List.getElem?_take, if_pos (by omega), opCs_get us i j o hi hj7, hj] at h2
   exact h2
  refine ⟨_, c1, rfl, ⟨hle, hmx, fun _ => ⟨g, 0, rfl, hgl, fun i o hi j u hj => by rw [Nat.zero_add]; exact hc i o hi j u hj⟩⟩, fun _ => ⟨g, rfl, rfl, hg, hgl, hc⟩⟩
theorem opi : ∃ i, Tryz.prog.info? 115 = some i ∧ i.zero = some (.agg #[.int .i64 0, .int .i64 0, .int .i64 0, .int .i64 0, .int .i64 0, .int .u32 0, .int .i64 0]) ∧ i.size = 7 ∧ i.bytes = 56 := by
 have h : (Tryz.prog.info? 115).map (fun i => (i.zero, i.size, i.bytes)) = some (some (.agg #[.int .i64 0, .int .i64 0, .int .i64 0, .int .i64 0, .int .i64 0, .int .u32 0, .int .i64 0]), 7, 56) := by kernel_rfl
 obtain ⟨i, hi, hz⟩ := Option.map_eq_some_iff.1 h
 simp only [Prod.mk.injEq] at hz
 exact ⟨i, hi, hz.1, hz.2.1, hz.2.2⟩
/-- append of one operation, as one step of a region -/
theorem step_op {ops : Array Oper} {o : Oper} {a : Act} {w : World} {K : Act → World → Prop} {Q : Exit → Act → World → Prop} {E : Prop}
  (hg : o.guard = none) (s x : Operand) (hop : o.op = Op.call { callee := Callee.builtin Builtin.append, args := #[s, x], argTypes := #[50, 50] })
  (base : Nat) (v : Value) (xs : List Opr) (hs : a.eval s = v) (hown : OwnO base v xs w) (hbase : base ≤ w.heap.size) (g c : Nat) (x0 : Opr) (hx : a.eval x = .slice (some ⟨g, 0, none⟩) 1 c) (hc : ∀ j u, x0.cells[j]? = some u → w.cell? ⟨g, j, none⟩ = some u) (hb : xs.length + 1 ≤ 1000000000000)
  (hK : ∀ v' w', OwnO base v' (xs ++ [x0]) w' → Upto (fun i => v.ownBlock = some i) w w' → (v'.ownBlock = v.ownBlock ∨ v'.ownBlock = some w.heap.size) → K (a.put o.dst v') w') :
  if Region.wanted o (yielded ops a.tmps) = true then Oper.wp Tryz.prog o a w K Q else E := by
 have hw : Region.wanted o (yielded ops a.tmps) = true := by simp [Region.wanted, hg]
 rw [if_pos hw]
 obtain ⟨i, hi, hz, hsz, hby⟩ := opi
 have hmx : (maxLen : Nat) = 9223372036854775807 := rfl
 have e1 : ∀ j u, x0.cells.toList[j]? = some u → w.cell? ((⟨g, 0, none⟩ : Addr).add j) = some u := by
  intro j u hj
  rw [Array.getElem?_toList] at hj
  rw [Addr.add_lit, Nat.zero_add]
  exact hc j u hj
 have e2 : ∀ u ∈ x0.cells.toList, u.oneCell' = true := by
  intro u hu
  obtain ⟨j, hj⟩ := List.getElem?_of_mem hu
  rw [Array.getElem?_toList] at hj
  exact opr_cells x0 j u hj
 obtain ⟨v', w', hrun, r1, r2, _, r4⟩ := run_append_own_at (P := Tryz.prog) w base 50 o.type 115 i _ 7 56 Tryz.underlying50 hi hz hsz hby rfl (by decide) v xs.length (opCs xs) hown ⟨g, 0, none⟩ 1 c x0.cells.toList rfl e1 e2 (by omega) (by omega) hbase
 unfold Oper.wp
 simp [execOp, hop, resolve, invoke, builtin, hs, hx, hrun, Result.andThen]
 refine hK v' w' ?_ ⟨r2.os, r2.tape, r2.output, r2.size, fun k hk hn => r2.block k hk (fun e => hn e.symm)⟩ r4
 unfold OwnO
 rw [opCs_app, List.length_append, show opCs [x0] = x0.cells.toList from List.append_nil _]
 exact r1
/-- what does not change -/
structure Wc where
 h : Nat
 tb : Nat
 n : Nat
 mv : Value
 mb : Nat
 base : Nat
/-- the block of the operations -/
def own (K : Wc) (W : World) (i : Nat) : Prop := ∃ v, W.cell? ⟨K.h, 0, none⟩ = some v ∧ v.ownBlock = some i
/-- what may change -/
def SW (K : Wc) (W : World) : Nat → Prop := fun i => i = K.h ∨ i = K.tb ∨ i = K.mb ∨ own K W i
/-- nothing but the walk's blocks has changed -/
structure UW (K : Wc) (W W' : World) : Prop where
 u : Upto (SW K W) W W'
 ow : ∀ i, own K W' i → own K W i ∨ W.heap.size ≤ i
theorem UW.refl (K : Wc) (W : World) : UW K W W := ⟨Upto.refl _ _, fun i h => .inl h⟩
theorem UW.trans {K : Wc} {a b c : World} (h : UW K a b) (k : UW K b c) : UW K a c :=
 ⟨⟨k.u.os.trans h.u.os, k.u.tape.trans h.u.tape, k.u.output.trans h.u.output, Nat.le_trans h.u.size k.u.size, fun i hi hs => (k.u.block i (Nat.lt_of_lt_of_le hi h.u.size) fun e => by
   rcases e with e | e | e | e
   ·exact hs (.inl e)
   ·exact hs (.inr (.inl e))
   ·exact hs (.inr (.inr (.inl e)))
   ·rcases h.ow i e with e | e
    ·exact hs (.inr (.inr (.inr e)))
    ·omega).trans (h.u.block i hi hs)⟩,
  fun i e => (k.ow i e).elim (h.ow i) fun e => .inr (Nat.le_trans h.u.size e)⟩
theorem UW.aside {K : Wc} {W W' : World} {S : Nat → Prop} (hl : K.h < W.heap.size) (u : Upto S W W') (hh : ¬ S K.h) (hS : ∀ i, S i → i = K.tb ∨ i = K.mb) : UW K W W' := by
 refine ⟨u.mono fun i _ h => (hS i h).elim (fun e => .inr (.inl e)) fun e => .inr (.inr (.inl e)), fun i h => ?_⟩
 obtain ⟨v, h1, h2⟩ := h
 exact .inl ⟨v, (u.cell (q := ⟨K.h, 0, none⟩) hl hh).symm.trans h1, h2⟩
theorem UW.quiet {K : Wc} {W W' : World} (hl : K.h < W.heap.size) (u : Upto (fun _ => False) W W') : UW K W W' := UW.aside hl u id fun _ h => h.elim
theorem UW.below {K : Wc} {W W' : World} (hl : K.h < W.heap.size) (u : Below W.heap.size W W') : UW K W W' := UW.quiet hl (Upto.of_below u)
theorem UW.alloc {K : Wc} {W : World} (hl : K.h < W.heap.size) (o : Obj) : UW K W (W.alloc o) := UW.quiet hl ((Upto.refl _ W).alloc o)
theorem UW.setH {K : Wc} {W : World} (j : Nat) (hj : j ≠ 0) (v : Value) : UW K W (W.setCell ⟨K.h, j, none⟩ v) := by
 refine ⟨(Upto.refl _ W).setCell (q := ⟨K.h, j, none⟩) (.inl (.inl rfl)) v, fun i h => ?_⟩
 obtain ⟨x, h1, h2⟩ := h
 exact .inl ⟨x, (HM.cell_other (fun e => hj e.symm)).symm.trans h1, h2⟩
theorem UP.setO {K : Wc} {W W' : World} (v v' : Value) (h0 : W.cell? ⟨K.h, 0, none⟩ = some v) (u : Upto (fun i => v.ownBlock = some i) W W') : Upto (fun i => i = K.h ∨ own K W i) W (W'.setCell ⟨K.h, 0, none⟩ v') :=
 (u.mono fun i _ e => .inr ⟨v, h0, e⟩).setCell (q := ⟨K.h, 0, none⟩) (.inl (.inl rfl)) v'
theorem UW.setO {K : Wc} {W W' : World} (hl : K.h < W.heap.size) (v v' : Value) (h0 : W.cell? ⟨K.h, 0, none⟩ = some v) (nh : ¬ v.ownBlock = some K.h) (u : Upto (fun i => v.ownBlock = some i) W W') (hk : v'.ownBlock = v.ownBlock ∨ v'.ownBlock = some W.heap.size) : UW K W (W'.setCell ⟨K.h, 0, none⟩ v') := by
 refine ⟨(u.mono fun i _ e => .inr (.inr (.inr ⟨v, h0, e⟩))).setCell (q := ⟨K.h, 0, none⟩) (.inl (.inl rfl)) v', fun i h => ?_⟩
 obtain ⟨x, h1, h2⟩ := h
 have e1 : (W'.setCell ⟨K.h, 0, none⟩ v').cell? ⟨K.h, 0, none⟩ = some v' := World.cell?_setCell_same _ _ _ ((u.cell (q := ⟨K.h, 0, none⟩) hl nh).trans h0)
 obtain rfl : v' = x := Option.some.inj (e1.symm.trans h1)
 rcases hk with hk | hk
 ·exact .inl ⟨v, h0, hk ▸ h2⟩
 ·rw [hk] at h2
  exact .inr (by have := Option.some.inj h2; omega)
/-- the walk in memory -/
structure WM (K : Wc) (s : Wk) (W : World) : Prop where
 c0 : ∃ v, W.cell? ⟨K.h, 0, none⟩ = some v ∧ OwnO K.base v s.ops W
 c1 : W.cell? ⟨K.h, 1, none⟩ = some (.slice (some ⟨K.tb, 0, none⟩) K.n K.n)
 sl : ∀ j, j < 12 → W.cell? ⟨K.h, 2 + j, none⟩ = some (.int .i64 (s.sl j))
 cm : W.cell? ⟨K.h, 14, none⟩ = some K.mv
 cn : W.cell? ⟨K.h, 15, none⟩ = some (.int .i64 s.now)
 «to» : ∀ t, t < K.n → W.cell? ⟨K.tb, t, none⟩ = some (.int .i64 (s.to t))
 z : ∀ j, W.frozen? ⟨K.h, j, none⟩ = false
 zt : ∀ j, W.frozen? ⟨K.tb, j, none⟩ = false
 lh : K.h < K.base
 lt : K.tb < K.base
 ne : K.h ≠ K.tb
 lb : K.base ≤ W.heap.size
variable {K : Wc} {s : Wk} {W W' : World}
theorem WM.l (a : WM K s W) : K.h < W.heap.size := Nat.lt_of_lt_of_le a.lh a.lb
theorem WM.l2 (a : WM K s W) : K.tb < W.heap.size := Nat.lt_of_lt_of_le a.lt a.lb
theorem WM.upto {S : Nat → Prop} (a : WM K s W) (u : Upto S W W') (hS : ∀ i, S i → W.heap.size ≤ i) : WM K s W' := by
 have hb := a.lb
 have no : ∀ i, i < W.heap.size → ¬ S i := fun i hi hs => by have := hS i hs; omega
 have e : ∀ j, W'.cell? ⟨K.h, j, none⟩ = W.cell? ⟨K.h, j, none⟩ := fun j => u.cell (q := ⟨K.h, j, none⟩) a.l (no _ a.l)
 have f : ∀ j, W'.cell? ⟨K.tb, j, none⟩ = W.cell? ⟨K.tb, j, none⟩ := fun j => u.cell (q := ⟨K.tb, j, none⟩) a.l2 (no _ a.l2)
 obtain ⟨v, h1, h2⟩ := a.c0
 exact ⟨⟨v, (e _).trans h1, h2.upto u fun k hk => no k (h2.blk k hk).2⟩, (e _).trans a.c1, fun j hj => (e _).trans (a.sl j hj), (e _).trans a.cm, (e _).trans a.cn, fun t ht => (f _).trans (a.to t ht),
  fun j => (u.frozen (q := ⟨K.h, j, none⟩) a.l (no _ a.l)).trans (a.z j), fun j => (u.frozen (q := ⟨K.tb, j, none⟩) a.l2 (no _ a.l2)).trans (a.zt j), a.lh, a.lt, a.ne, Nat.le_trans hb u.size⟩
theorem WM.quiet (a : WM K s W) (u : Upto (fun _ => False) W W') : WM K s W' := a.upto u fun _ h => h.elim
theorem WM.below (a : WM K s W) (u : Below W.heap.size W W') : WM K s W' := a.quiet (Upto.of_below u)
theorem WM.drew (a : WM K s W) : WM K s W.drew := a.quiet (Upto.refl _ W).drew
theorem WM.alloc (a : WM K s W) (o : Obj) : WM K s (W.alloc o) := a.quiet ((Upto.refl _ W).alloc o)
/-- an operation is put behind -/
theorem WM.setO (a : WM K s W) (x : Opr) (v v' : Value) (h0 : OwnO K.base v s.ops W) (u' : Upto (fun i => v.ownBlock = some i) W W') (h2 : OwnO K.base v' (s.ops ++ [x]) W') : WM K (s.put x) (W'.setCell ⟨K.h, 0, none⟩ v') := by
 have nb : ∀ i, i < K.base → ¬ v.ownBlock = some i := fun i hi e => by have := (h0.blk i e).1; omega
 have b : ∀ j, W'.cell? ⟨K.h, j, none⟩ = W.cell? ⟨K.h, j, none⟩ := fun j => u'.cell (q := ⟨K.h, j, none⟩) a.l (nb _ a.lh)
 have c : ∀ j, j ≠ 0 → (W'.setCell ⟨K.h, 0, none⟩ v').cell? ⟨K.h, j, none⟩ = W.cell? ⟨K.h, j, none⟩ := fun j hj => (HM.cell_other hj).trans (b j)
 have u : Upto (fun i => i = K.h) W' (W'.setCell ⟨K.h, 0, none⟩ v') := (Upto.refl (fun i => i = K.h) W').setCell (q := ⟨K.h, 0, none⟩) (.inl rfl) v'
 have tt : Upto (fun i => i = K.h ∨ v.ownBlock = some i) W (W'.setCell ⟨K.h, 0, none⟩ v') := (u'.mono fun _ _ h => .inr h).trans (u.mono fun _ _ h => .inl h)
 have f : ∀ j, (W'.setCell ⟨K.h, 0, none⟩ v').cell? ⟨K.tb, j, none⟩ = W.cell? ⟨K.tb, j, none⟩ := fun j => tt.cell (q := ⟨K.tb, j, none⟩) a.l2 (fun e => e.elim (fun e => a.ne e.symm) (nb _ a.lt))
 have zf : ∀ i j, i < K.base → (W'.setCell ⟨K.h, 0, none⟩ v').frozen? ⟨i, j, none⟩ = W.frozen? ⟨i, j, none⟩ := fun i j hi => (by simp : (W'.setCell ⟨K.h, 0, none⟩ v').frozen? ⟨i, j, none⟩ = W'.frozen? ⟨i, j, none⟩).trans (u'.frozen (q := ⟨i, j, none⟩) (Nat.lt_of_lt_of_le hi a.lb) (nb _ hi))
 obtain ⟨x0, h1, _⟩ := a.c0
 exact ⟨⟨v', World.cell?_setCell_same _ _ _ ((b 0).trans h1), h2.upto u fun k hk e => by have := (h2.blk k hk).1; have := a.lh; omega⟩, (c _ (by decide)).trans a.c1, fun j hj => (c _ (by omega)).trans (a.sl j hj), (c _ (by decide)).trans a.cm, (c _ (by decide)).trans a.cn, fun t ht => (f _).trans (a.to t ht),
  fun j => (zf _ j a.lh).trans (a.z j), fun j => (zf _ j a.lt).trans (a.zt j), a.lh, a.lt, a.ne, Nat.le_trans a.lb tt.size⟩
theorem WM.own (a : WM K s W) {i : Nat} (h : own K W i) : K.base ≤ i ∧ i < W.heap.size := by
 obtain ⟨v, h1, h2⟩ := a.c0
 obtain ⟨x, h3, h4⟩ := h
 obtain rfl : v = x := Option.some.inj (h1.symm.trans h3)
 exact h2.blk i h4
/-- an operation in a box -/
def OB (b : Nat) (o : Opr) (W : World) : Prop := b < W.heap.size ∧ ∀ j u, o.cells[j]? = some u → W.cell? ⟨b, j, none⟩ = some u
theorem OB.new (w : World) (o : Opr) (t : TypeId) : OB w.heap.size o (w.alloc (.cells o.cells t)) := ⟨by simp, fun j v hj => (cell_of_row _ _ _ _ _ _ (heap_alloc_new w _)).trans hj⟩
theorem OB.upto {b : Nat} {o : Opr} {S : Nat → Prop} (h : OB b o W) (u : Upto S W W') (hs : ¬ S b) : OB b o W' := ⟨Nat.lt_of_lt_of_le h.1 u.size, fun j v hj => (u.cell (q := ⟨b, j, none⟩) h.1 hs).trans (h.2 j v hj)⟩
/-- a box of the call's own, behind a change of the walk's blocks -/
theorem OB.uw {b : Nat} {o : Opr} (h : OB b o W) (u : UW K W W') (a : WM K s W) (h1 : K.base ≤ b) (hm : K.mb < K.base) (hn : ¬ own K W b) : OB b o W' :=
 h.upto u.u fun e => by
  have := a.lh; have := a.lt
  rcases e with e | e | e | e
  ·omega
  ·omega
  ·omega
  ·exact hn e
theorem own_new {b : Nat} (a : WM K s W) (hb : W.heap.size ≤ b) (u : Upto (fun _ => False) W W') : ¬ own K W' b := fun h => by
 obtain ⟨v, h1, h2⟩ := h
 have := (a.own ⟨v, (u.cell (q := ⟨K.h, 0, none⟩) a.l id).symm.trans h1, h2⟩).2
 omega
theorem OB.all {b : Nat} {o : Opr} (h : OB b o W) : W.cell? ⟨b, 0, none⟩ = some (.int .i64 o.k) ∧ W.cell? ⟨b, 1, none⟩ = some (.int .i64 o.w) ∧ W.cell? ⟨b, 2, none⟩ = some (.int .i64 o.a) ∧ W.cell? ⟨b, 3, none⟩ = some (.int .i64 o.b) ∧ W.cell? ⟨b, 4, none⟩ = some (.int .i64 o.c) ∧ W.cell? ⟨b, 5, none⟩ = some (.int .u32 o.kn) ∧ W.cell? ⟨b, 6, none⟩ = some (.int .i64 o.n) :=
 ⟨h.2 0 _ rfl, h.2 1 _ rfl, h.2 2 _ rfl, h.2 3 _ rfl, h.2 4 _ rfl, h.2 5 _ rfl, h.2 6 _ rfl⟩
variable {K : Wc} {s : Wk} {W W' : World}
def isR (k : Int) (j : Nat) : Bool := if j = 0 then tA k else if j = 1 then tB k else tC k
def ar (o : Opr) (j : Nat) : Int := if j = 0 then o.a else if j = 1 then o.b else o.c
/-- the operation under way -/
structure RO (b : Nat) (k ow okn on : Int) (r : Nat → Int) (W : World) : Prop where
 l : b < W.heap.size
 c0 : W.cell? ⟨b, 0, none⟩ = some (.int .i64 k)
 c1 : W.cell? ⟨b, 1, none⟩ = some (.int .i64 ow)
 c : ∀ i, i < 3 → W.cell? ⟨b, 2 + i, none⟩ = some (.int .i64 (r i))
 c5 : W.cell? ⟨b, 5, none⟩ = some (.int .u32 okn)
 c6 : W.cell? ⟨b, 6, none⟩ = some (.int .i64 on)
 z : ∀ j, W.frozen? ⟨b, j, none⟩ = false
variable {b : Nat} {k ow okn on : Int} {r : Nat → Int}
theorem RO.new (w : World) (k ow oa ob oc okn on : Int) (t : TypeId) : RO w.heap.size k ow okn on (fun i => if i = 0 then oa else if i = 1 then ob else oc) (w.alloc (.cells #[.int .i64 k, .int .i64 ow, .int .i64 oa, .int .i64 ob, .int .i64 oc, .int .u32 okn, .int .i64 on] t)) :=
 have e : ∀ j v, (#[Value.int .i64 k, .int .i64 ow, .int .i64 oa, .int .i64 ob, .int .i64 oc, .int .u32 okn, .int .i64 on] : Array Value)[j]? = some v → (w.alloc (.cells #[.int .i64 k, .int .i64 ow, .int .i64 oa, .int .i64 ob, .int .i64 oc, .int .u32 okn, .int .i64 on] t)).cell? ⟨w.heap.size, j, none⟩ = some v := fun j v h => (cell_of_row _ _ _ _ _ _ (heap_alloc_new w _)).trans h
 ⟨by simp, e 0 _ rfl, e 1 _ rfl, fun i hi => by rcases (show i = 0 ∨ i = 1 ∨ i = 2 by omega) with rfl | rfl | rfl; exact e 2 _ rfl; exact e 3 _ rfl; exact e 4 _ rfl, e 5 _ rfl, e 6 _ rfl, fun j => by simp⟩
theorem RO.upto {S : Nat → Prop} (a : RO b k ow okn on r W) (u : Upto S W W') (hs : ¬ S b) : RO b k ow okn on r W' :=
 have e : ∀ j, W'.cell? ⟨b, j, none⟩ = W.cell? ⟨b, j, none⟩ := fun j => u.cell (q := ⟨b, j, none⟩) a.l hs
 ⟨Nat.lt_of_lt_of_le a.l u.size, (e _).trans a.c0, (e _).trans a.c1, fun i hi => (e _).trans (a.c i hi), (e _).trans a.c5, (e _).trans a.c6, fun j => (u.frozen (q := ⟨b, j, none⟩) a.l hs).trans (a.z j)⟩
theorem RO.set (a : RO b k ow okn on r W) (i : Nat) (hi : i < 3) (x : Int) : RO b k ow okn on (upd r i x) (W.setCell ⟨b, 2 + i, none⟩ (.int .i64 x)) :=
 ⟨by simpa using a.l, (HM.cell_other (by omega)).trans a.c0, (HM.cell_other (by omega)).trans a.c1, fun j hj => by
  unfold upd
  by_cases e : j = i
  ·rw [if_pos e, e]; exact World.cell?_setCell_same _ _ _ (a.c i hi)
  ·rw [if_neg e, HM.cell_other (by omega)]; exact a.c j hj, (HM.cell_other (by omega)).trans a.c5, (HM.cell_other (by omega)).trans a.c6, fun j => by simpa using a.z j⟩
/-- the places, as they are gone through -/
def PB (B b : Nat) (f : Nat → Bool) (W : World) : Prop := B < W.heap.size ∧ ∀ j, j < 3 → W.cell? ⟨B, j * 2, none⟩ = some (.bool (f j)) ∧ W.cell? ⟨B, j * 2 + 1, none⟩ = some (.pointer (some ⟨b, 2 + j, none⟩))
theorem PB.upto {B : Nat} {f : Nat → Bool} {S : Nat → Prop} (a : PB B b f W) (u : Upto S W W') (hs : ¬ S B) : PB B b f W' :=
 ⟨Nat.lt_of_lt_of_le a.1 u.size, fun j hj => ⟨(u.cell (q := ⟨B, j * 2, none⟩) a.1 hs).trans (a.2 j hj).1, (u.cell (q := ⟨B, j * 2 + 1, none⟩) a.1 hs).trans (a.2 j hj).2⟩⟩
open Go.Maps
variable {K : Wc} {s : Wk}
theorem laid : laidOutB Tryz.prog = true := by kernel_rfl
theorem opR' : decide (115 < (Tryz.prog).types.size) = true := by kernel_rfl
theorem opR : 115 < (Tryz.prog).types.size := of_decide_eq_true opR'
theorem opWide : (match (Tryz.prog).underlying 115 with | some (.array _ _) | some (.struct _) => true | _ => false) = true := by kernel_rfl
theorem opKT : (Tryz.prog).keyTypeAt 2 115 = true := by kernel_rfl
theorem opLaw : WideMaps.KeyLaw Tryz.prog 115 := deep_law_laid laid (m := 2) (by omega) opR opKT opWide
theorem opKey : Keyed Tryz.prog 115 := Keyed.of_law opLaw
/-- numbers in their bounds -/
def I6 (x : Int) : Prop := -9223372036854775808 ≤ x ∧ x < 9223372036854775808
structure OkR (o : Opr) : Prop where
 k : I6 o.k
 w : I6 o.w
 a : I6 o.a
 b : I6 o.b
 c : I6 o.c
 kn : 0 ≤ o.kn ∧ o.kn < 4294967296
 n : I6 o.n
/-- an operation as a key -/
def kl (o : Opr) : Lit := .string (keyBytes [.int .i64 o.k, .int .i64 o.w, .int .i64 o.a, .int .i64 o.b, .int .i64 o.c, .int .u32 o.kn, .int .i64 o.n])
theorem kl_of {o : Opr} (h : OkR o) : keyOf Tryz.prog 115 (.agg o.cells) = some (kl o) := by
 obtain ⟨k, w, a, b, c, kn, n⟩ := o
 obtain ⟨h1, h2, h3, h4, h5, h6, h7⟩ := h
 have g : ∀ x : Int, I6 x → (Lit.int .i64 x).wf = true := fun x hx => WalkArith.wf_i64 (by unfold I6 at hx; omega)
 have g1 := g _ h1
 have g2 := g _ h2
 have g3 := g _ h3
 have g4 := g _ h4
 have g5 := g _ h5
 have g7 := g _ h7
 have g6 : (Lit.int .u32 kn).wf = true := WalkArith.wf_u32 (by dsimp only at h6; omega)
 have hu := Tryz.underlying115
 have hi := Tryz.underlying3
 have hw := Tryz.underlying29
 have hk : (Tryz.prog).keyType 115 = true := by kernel_rfl
 obtain ⟨N, hN⟩ : ∃ N, (Tryz.prog).types.size + 1 = N + 2 := ⟨(Tryz.prog).types.size - 1, by have := opR; omega⟩
 have hc1 : (Tryz.prog).cellsOf 115 = 7 := by kernel_rfl
 have hc2 : (Tryz.prog).cellsOf 3 = 1 := by kernel_rfl
 have hc3 : (Tryz.prog).cellsOf 29 = 1 := by kernel_rfl
 unfold keyOf
 rw [hu, hN]
 dsimp only
 rw [hk]
 have hf : Value.formed Tryz.prog 115 (Value.agg #[.int .i64 k, .int .i64 w, .int .i64 a, .int .i64 b, .int .i64 c, .int .u32 kn, .int .i64 n]) = true := by
  simp [Value.formed, hu, hc1]
 have hl : (Tryz.prog).keyLits (N + 2) 115 [.int .i64 k, .int .i64 w, .int .i64 a, .int .i64 b, .int .i64 c, .int .u32 kn, .int .i64 n] = some [.int .i64 k, .int .i64 w, .int .i64 a, .int .i64 b, .int .i64 c, .int .u32 kn, .int .i64 n] := by
  dsimp only at g1 g2 g3 g4 g5 g6 g7
  simp [Program.keyLits, hu, hi, hw, hc1, hc2, hc3, g1, g2, g3, g4, g5, g6, g7]
 rw [if_pos (by show (true && Value.formed _ _ (Value.agg #[.int .i64 k, .int .i64 w, .int .i64 a, .int .i64 b, .int .i64 c, .int .u32 kn, .int .i64 n])) = true; rw [hf]; rfl)]
 show Option.map _ ((Tryz.prog).keyLits (N + 2) 115 [.int .i64 k, .int .i64 w, .int .i64 a, .int .i64 b, .int .i64 c, .int .u32 kn, .int .i64 n]) = _
 rw [hl]
 rfl
theorem kl_key {o : Opr} (h : OkR o) : WideAt.IsKeyLit (kl o) := by
 obtain ⟨t, ht⟩ := opLaw.str (kl_of h)
 rw [ht]; trivial
theorem kl_inj {a b : Opr} (ha : OkR a) (hb : OkR b) (h : kl a = kl b) : a = b := by
 have e := opLaw.inj (kl_of ha) (by rw [h]; exact kl_of hb)
 cases a; cases b
 simpa [Opr.cells] using e
/-- the map: of what is a number by itself, where it is -/
def MO (b : Nat) (ops : List Opr) (W : World) : Prop :=
 ∃ n D, n ≤ ops.length ∧ W.ownsMap (H := Unit) Tryz.prog 115 (plainElem Tryz.prog 3) b n D ∧ ∀ o, OkR o → pur o.k = true → Maps.has D (kl o) = (idx o ops).isSome ∧ D.atKey (kl o) (.lit (.int .i64 0)) = .lit (.int .i64 (((idx o ops).getD 0 : Nat) : Int))
theorem MO.new {b : Nat} {W : World} (h : W.ownsMap (H := Unit) Tryz.prog 115 (plainElem Tryz.prog 3) b 0 (.map [])) : MO b [] W :=
 ⟨0, _, Nat.le_refl _, h, fun o ho hp => ⟨rfl, rfl⟩⟩
theorem MO.upto {S : Nat → Prop} {b : Nat} {ops : List Opr} {W W' : World} (a : MO b ops W) (u : Upto S W W') (hs : ¬ S b) : MO b ops W' := by
 obtain ⟨n, D, hn, ⟨es, clock, hb, r⟩, hf⟩ := a
 have hlt : b < W.heap.size := (Array.getElem?_eq_some_iff.1 hb).1
 exact ⟨n, D, hn, ⟨es, clock, (u.block b hlt hs).trans hb, r⟩, hf⟩
theorem MO.lt {b : Nat} {ops : List Opr} {W : World} (a : MO b ops W) : b < W.heap.size := by
 obtain ⟨n, D, hn, h, _⟩ := a
 exact h.lt
theorem MO.other {b : Nat} {ops : List Opr} {W : World} (a : MO b ops W) (o : Opr) (ho : pur o.k = false) : MO b (ops ++ [o]) W := by
 obtain ⟨n, D, hn, h, hf⟩ := a
 refine ⟨n, D, by simp; omega, h, fun x hx hp => ?_⟩
 have e : idx x (ops ++ [o]) = idx x ops := by
  have ne : o ≠ x := fun e => by rw [e, hp] at ho; exact nomatch ho
  rw [idx_snoc, decide_eq_false ne]
  cases idx x ops <;> rfl
 rw [e]
 exact hf x hx hp
theorem MO.put {b : Nat} {ops : List Opr} {W : World} (a : MO b ops W) (o : Opr) (ho : OkR o) (hi : idx o ops = none) (hn : ops.length < 1000000000) :
  ∃ W', (Instr.mapUpdate 280 (.map (some b)) (.agg #[.int .i64 o.k, .int .i64 o.w, .int .i64 o.a, .int .i64 o.b, .int .i64 o.c, .int .u32 o.kn, .int .i64 o.n]) (.int .i64 (ops.length : Int))).run Tryz.prog W = .ok () W' ∧ MO b (ops ++ [o]) W' ∧ Upto (fun i => i = b) W W' := by
 obtain ⟨n, D, hl, h, hf⟩ := a
 have hw : (Lit.int .i64 (ops.length : Int)).wf = true := WalkArith.wf_i64 (by omega)
 obtain ⟨W', hrun, o', g⟩ := h.update opKey Tryz.underlying280 (by unfold maxLen; omega) (kl_of ho) (plainElem_int (H := Unit) Tryz.underlying3 hw)
 refine ⟨W', hrun, ⟨n + 1, _, by simp; omega, o', fun x hx hp => ?_⟩, ⟨g.os, g.tape, g.output, g.size, fun k hk hne => g.block k hk (by simpa using hne)⟩⟩
 rw [idx_snoc]
 by_cases e : x = o
 ·subst e
  rw [hi, decide_eq_true rfl]
  exact ⟨Maps.has_put_same h.isMap (kl_key ho) _, Maps.atKey_put_same h.isMap (kl_key ho) _ _⟩
 ·have hne : kl x ≠ kl o := fun h => e (kl_inj hx ho h)
  rw [decide_eq_false (fun h => e h.symm)]
  have e2 : orAt (idx x ops) false ops.length = idx x ops := by cases idx x ops <;> rfl
  rw [e2]
  exact ⟨(Maps.has_put_other hne _).trans (hf x hx hp).1, (Maps.atKey_put_other hne _ _).trans (hf x hx hp).2⟩
/-- the walk and its map -/
structure WW (K : Wc) (s : Wk) (W : World) : Prop where
 m : WM K s W
 o : MO K.mb s.ops W
 mv : K.mv = .map (some K.mb)
 lb : K.mb < K.base
 nh : K.mb ≠ K.h
 nt : K.mb ≠ K.tb
variable {W W' : World}
theorem WW.upto {S : Nat → Prop} (a : WW K s W) (u : Upto S W W') (hS : ∀ i, S i → W.heap.size ≤ i) : WW K s W' :=
 ⟨a.m.upto u hS, a.o.upto u fun h => by have := hS _ h; have := a.o.lt; omega, a.mv, a.lb, a.nh, a.nt⟩
theorem WW.quiet (a : WW K s W) (u : Upto (fun _ => False) W W') : WW K s W' := a.upto u fun _ h => h.elim
theorem WW.below (a : WW K s W) (u : Below W.heap.size W W') : WW K s W' := a.quiet (Upto.of_below u)
theorem WW.alloc (a : WW K s W) (o : Obj) : WW K s (W.alloc o) := a.quiet ((Upto.refl _ W).alloc o)
/-- what is put that is no number by itself -/
theorem WW.put (a : WW K s W) (o : Opr) (ho : pur o.k = false) (m : WM K (s.put o) W') (u : Upto (fun i => i = K.h ∨ own K W i) W W') : WW K (s.put o) W' :=
 ⟨m, (a.o.upto u fun h => by rcases h with h | h; exact a.nh h; have := (a.m.own h).1; have := a.lb; omega).other o ho, a.mv, a.lb, a.nh, a.nt⟩
end Go.Proofs.YtcjcmnnhmajocabGreat.Ot
