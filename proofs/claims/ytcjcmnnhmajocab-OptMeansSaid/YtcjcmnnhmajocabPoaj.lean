/- interp: loads, stores, widen. -/
import Derived.RegionTactic
import Derived.BigRegion
import Derived.Test.YtcjcmnnhmajocabPoaa
import Derived.Test.YtcjcmnnhmajocabPoad
import Derived.Test.YtcjcmnnhmajocabPoai
namespace Go.Proofs.Ytcjcmnnhmajocab.St
open Go.RowKit Kt Me
set_option linter.unusedVariables false
set_option linter.unusedSimpArgs false
def stK (kind : Int) (o : Option Int) : Int := match o with | none => 0 | some _ => kind
def stX (o : Option Int) : Int := match o with | none => 0 | some x => x
theorem stpV_eq (kind : Int) (o : Option Int) : stpV kind o = .agg #[.int .i64 (stK kind o), .int .u32 (stX o)] := by cases o <;> rfl
/-- interp.at: the memory, the state, where it goes on, the stop -/
structure AtB (A p : Nat) (R : Nat → Int) (pc f nx k x : Int) (W : World) : Prop where
  m : W.cell? ⟨A, 0, none⟩ = some (.pointer (some ⟨p, 0, none⟩))
  r : ∀ j, j < 8 → W.cell? ⟨A, 1 + j, none⟩ = some (.int .u32 (R j))
  c9 : W.cell? ⟨A, 9, none⟩ = some (.int .u32 pc)
  c10 : W.cell? ⟨A, 10, none⟩ = some (.int .u32 f)
  c11 : W.cell? ⟨A, 11, none⟩ = some (.int .u32 nx)
  c12 : W.cell? ⟨A, 12, none⟩ = some (.int .i64 k)
  c13 : W.cell? ⟨A, 13, none⟩ = some (.int .u32 x)
  z : ∀ i, W.frozen? ⟨A, i, none⟩ = false
  l : A < W.heap.size
variable {A p : Nat} {R : Nat → Int} {pc f nx k x : Int} {W W' : World}
theorem AtB.upto {S : Nat → Prop} (h : AtB A p R pc f nx k x W) (u : Upto S W W') (hs : ¬ S A) : AtB A p R pc f nx k x W' :=
  ⟨(u.cell h.l hs).trans h.m, fun j hj => (u.cell h.l hs).trans (h.r j hj), (u.cell h.l hs).trans h.c9, (u.cell h.l hs).trans h.c10, (u.cell h.l hs).trans h.c11, (u.cell h.l hs).trans h.c12, (u.cell h.l hs).trans h.c13, fun i => (u.frozen h.l hs).trans (h.z i), Nat.lt_of_lt_of_le h.l u.size⟩
theorem AtB.drew (h : AtB A p R pc f nx k x W) : AtB A p R pc f nx k x W.drew := ⟨h.m, h.r, h.c9, h.c10, h.c11, h.c12, h.c13, h.z, h.l⟩
theorem off {b i j : Nat} {v : Value} (hne : i ≠ j) : (W.setCell ⟨b, j, none⟩ v).cell? ⟨b, i, none⟩ = W.cell? ⟨b, i, none⟩ :=
  World.cell?_setCell_other _ _ _ _ (by intro h; simp only [Addr.mk.injEq] at h; omega)
theorem AtB.setR (h : AtB A p R pc f nx k x W) (d : Nat) (hd : d < 8) (v : Int) : AtB A p (upd R d v) pc f nx k x (W.setCell ⟨A, 1 + d, none⟩ (.int .u32 v)) := by
  refine ⟨(off (by omega)).trans h.m, fun j hj => ?_, (off (by omega)).trans h.c9, (off (by omega)).trans h.c10, (off (by omega)).trans h.c11, (off (by omega)).trans h.c12, (off (by omega)).trans h.c13, fun i => by simpa using h.z i, by simpa using h.l⟩
  by_cases hjd : j = d
  · subst hjd; rw [World.cell?_setCell_same _ _ _ (h.r j hj)]; simp only [upd, if_true]
  · rw [off (by omega), h.r j hj]; simp only [upd, if_neg hjd]
theorem AtB.setK (h : AtB A p R pc f nx k x W) (v : Int) : AtB A p R pc f nx v x (W.setCell ⟨A, 12, none⟩ (.int .i64 v)) :=
  ⟨(off (by omega)).trans h.m, fun j hj => (off (by omega)).trans (h.r j hj), (off (by omega)).trans h.c9, (off (by omega)).trans h.c10, (off (by omega)).trans h.c11, World.cell?_setCell_same _ _ _ h.c12, (off (by omega)).trans h.c13, fun i => by simpa using h.z i, by simpa using h.l⟩
/-- what of a world an instruction may change -/
def AS (A p : Nat) (i : Nat) : Prop := i = A ∨ i = p
/-- registers within their bounds -/
def ROk (R : Nat → Int) : Prop := ∀ j, 0 ≤ R j ∧ R j < 4294967296
theorem ROk.upd (h : ROk R) (d : Nat) (v : Int) (hv : 0 ≤ v ∧ v < 4294967296) : ROk (upd R d v) := fun j => by
  unfold Me.upd; split
  · exact hv
  · exact h j
def w32 (x : Int) : Int := x % 4294967296
end Go.Proofs.Ytcjcmnnhmajocab.St
namespace Go.Proofs.Ytcjcmnnhmajocab.St
open Go.RowKit Kt Me Fl
set_option linter.unusedVariables false
set_option linter.unusedSimpArgs false
theorem fl_bd (k a b old : Int) : 0 ≤ fl k a b old ∧ fl k a b old < 16 := by
  unfold fl
  have h1 := fAdd_lt a b 0
  have h2 := fAdd_lt a b (old / 4 % 2)
  have h3 := fSub_lt a b 0
  have h4 := fSub_lt a b (old / 4 % 2)
  have h5 := zn_lt a
  have h6 := zn_lt (a * b % 4294967296)
  have h7 := zn_lt ((a + 1) % 4294967296)
  have h8 := zn_lt ((a - 1) % 4294967296)
  have h9 := zn_lt (a * 2 ^ n5 b % 4294967296)
  have h10 := zn_lt (a / 2 ^ n5 b)
  have h11 := zn_lt (sg a / 2 ^ n5 b % 4294967296)
  generalize fAdd a b 0 = y1 at *
  generalize fAdd a b (old / 4 % 2) = y2 at *
  generalize fSub a b 0 = y3 at *
  generalize fSub a b (old / 4 % 2) = y4 at *
  repeat' split
  all_goals omega
/-- what comes of an instruction: memory, registers, where it goes on, flags; the stop -/
structure Out where
  M : MM
  R : Nat → Int
  pc : Int
  f : Int
  k : Int
  x : Int
def ldO (M : MM) (R : Nat → Int) (pc f q n : Int) (g : Int → Out) : Out := match srch M 1 q n.toNat with
  | none => g (ldv M q n)
  | some x => ⟨M, R, pc, f, 5, x⟩
def stO (M : MM) (R : Nat → Int) (pc f q n v : Int) (g : MM → Out) : Out := match sto M q n with
  | none => g (stm M q n v)
  | some x => ⟨M, R, pc, f, 6, x⟩
def ldN (o : Int) : Int := if o = 0 then 1 else if o = 1 then 1 else if o = 2 then 2 else if o = 3 then 2 else 4
def stN (o : Int) : Int := if o = 0 then 1 else if o = 1 then 2 else 4
/-- with its sign, if the kind has one -/
def widen (o v : Int) : Int := if o = 1 then (if 128 ≤ v % 256 then v % 256 + 4294967040 else v % 256) else if o = 3 then (if 32768 ≤ v % 65536 then v % 65536 + 4294901760 else v % 65536) else v
/-- one instruction: k which, d s its registers, o which of its sort, m its number; nx behind it -/
def opO (M : MM) (R : Nat → Int) (pc f nx k : Int) (d s : Nat) (o m : Int) : Out :=
  let sp := w32 (R 7 - 4)
  let up := w32 (R 7 + 4)
  let q := w32 (R s + m)
  let ok (R' : Nat → Int) (pc' f' : Int) : Out := ⟨M, R', pc', f', 0, 0⟩
  if k = 0 then ok R nx f
  else if k = 1 then ⟨M, R, pc, f, 2, 0⟩
  else if k = 2 then ldO M R pc f (R 7) 4 fun v => ⟨M, upd R 7 up, v, f, 0, 0⟩
  else if k = 3 then stO M R pc f sp 4 f fun M' => ⟨M', upd R 7 sp, nx, f, 0, 0⟩
  else if k = 4 then ldO M R pc f (R 7) 4 fun v => ⟨M, upd R 7 up, nx, v % 16, 0, 0⟩
  else if k = 5 then ⟨M, R, nx, f, 1, m⟩
  else if k = 6 ∨ k = 7 then ok R (w32 (nx + m)) f
  else if k = 8 then stO M R pc f sp 4 nx fun M' => ⟨M', upd R 7 sp, w32 (nx + m), f, 0, 0⟩
  else if k = 9 then ok R (R s) f
  else if k = 10 then stO M R pc f sp 4 nx fun M' => ⟨M', upd R 7 sp, R s, f, 0, 0⟩
  else if k = 11 then ldO M R pc f q 4 fun v => ⟨M, R, v, f, 0, 0⟩
  else if k = 12 ∨ k = 13 then ok R (if hd o f then w32 (nx + m) else nx) f
  else if k = 14 then stO M R pc f sp 4 (R s) fun M' => ⟨M', upd R 7 sp, nx, f, 0, 0⟩
  else if k = 15 then ldO M R pc f (R 7) 4 fun v => ⟨M, upd (upd R 7 up) d v, nx, f, 0, 0⟩
  else if k = 16 then ok (upd R d m) nx f
  else if k = 17 then ok (upd R d (w32 (R d + 1))) nx (fl 11 (R d) 0 f)
  else if k = 18 then ok (upd R d (w32 (R d - 1))) nx (fl 12 (R d) 0 f)
  else if k = 19 then ok (upd R d (w32 (- R d))) nx (fl 3 0 (R d) f)
  else if k = 20 then ok (upd R d (4294967295 - R d)) nx f
  else if k = 21 then ok (upd R d (if hd o f then 1 else 0)) nx f
  else if k = 22 then ok (upd R d (R s)) nx f
  else if k = 23 then ok (upd R d q) nx f
  else if k = 24 then ldO M R pc f q 4 fun v => stO M R pc f q 4 (R d) fun M' => ⟨M', upd R d v, nx, f, 0, 0⟩
  else if k = 25 then ldO M R pc f q 4 fun v => stO M R pc f q 4 (w32 (v + R d)) fun M' => ⟨M', upd R d v, nx, fl 1 v (R d) f, 0, 0⟩
  else if k = 26 then ldO M R pc f q 4 fun v => if R 0 = v then stO M R pc f q 4 (R d) fun M' => ⟨M', R, nx, fl 3 (R 0) v f, 0, 0⟩ else stO M R pc f q 4 v fun M' => ⟨M', upd R 0 v, nx, fl 3 (R 0) v f, 0, 0⟩
  else if k = 27 then (if rko o (R s) then ok (upd R d (rkv o (R d) (R s) f)) nx (rkf o (R d) (R s) f) else ⟨M, R, pc, f, 7, 0⟩)
  else if k = 28 ∨ k = 29 then (if rko o m then ok (upd R d (rkv o (R d) m f)) nx (rkf o (R d) m f) else ⟨M, R, pc, f, 7, 0⟩)
  else if k = 30 then ldO M R pc f q (ldN o) fun v => ⟨M, upd R d (widen o v), nx, f, 0, 0⟩
  else stO M R pc f q (stN o) (R d) fun M' => ⟨M', R, nx, f, 0, 0⟩
/-- what is left of an instruction under way -/
def AtQ (A p : Nat) (pc : Int) (o : Out) (w w' : World) : Prop :=
  ∃ (R' : Nat → Int) (f' nx' : Int), AtB A p R' pc f' nx' o.k o.x w' ∧ HC p o.M w' ∧ Upto (AS A p) w w' ∧ ((o.k = 0 ∨ o.k = 1) → R' = o.R ∧ f' = o.f ∧ nx' = o.pc)
theorem AtQ.ok {A p : Nat} {pc : Int} {M : MM} {R : Nat → Int} {f nx k x : Int} {w w' : World} (h : AtB A p R pc f nx k x w') (hm : HC p M w') (u : Upto (AS A p) w w') : AtQ A p pc ⟨M, R, nx, f, k, x⟩ w w' := ⟨R, f, nx, h, hm, u, fun _ => ⟨rfl, rfl, rfl⟩⟩
theorem AtQ.stop {A p : Nat} {pc pc' : Int} {M : MM} {R R' : Nat → Int} {f f' nx k x : Int} {w w' : World} (h : AtB A p R pc f nx k x w') (hm : HC p M w') (u : Upto (AS A p) w w') (hk : 2 ≤ k) : AtQ A p pc ⟨M, R', pc', f', k, x⟩ w w' :=
  ⟨R, f, nx, h, hm, u, fun h => by
    have h' : k = 0 ∨ k = 1 := h
    omega⟩
theorem sto_some {M : MM} {q n v x : Int} (h : sto M q n = some x) : stm M q n v = M := by
  unfold sto at h
  unfold stm
  split at h
  · next hn => rw [if_pos hn, h]; rfl
  · cases h
end Go.Proofs.Ytcjcmnnhmajocab.St
namespace Go.Proofs.Ytcjcmnnhmajocab.Ev
open Go.RowKit Kt Me Fl
set_option linter.unusedVariables false
/-- which of the guest's arithmetic a kind of OpBin is -/
def alu (w : Int) : Int := if w = 0 then 0 else if w = 1 then 2 else if w = 2 then 4 else if w = 3 then 5 else if w = 4 then 6 else if w = 5 then 9 else if w = 6 then 10 else if w = 7 then 11 else if w = 8 then 12 else 13
def binV (w a b : Int) : Int :=
  if w < 10 then rkv (alu w) a b 0
  else if w = 10 then a * b / 4294967296
  else if w = 11 then (if b = 0 then 4294967295 else a / b)
  else if w = 12 then (if b = 0 then a else a % b)
  else if w = 13 then (if a = b then 1 else 0)
  else if w = 14 then (if a < b then 1 else 0)
  else (if sg a < sg b then 1 else 0)
def s8 (a : Int) : Int := if 128 ≤ a % 256 then a % 256 + 4294967040 else a % 256
def s16 (a : Int) : Int := if 32768 ≤ a % 65536 then a % 65536 + 4294901760 else a % 65536
def unV (w a : Int) : Int :=
  if w = 0 then 4294967295 - a
  else if w = 1 then (-a) % 4294967296
  else if w = 2 then s8 a
  else if w = 3 then s16 a
  else if w = 4 then a % 256
  else if w = 5 then a % 65536
  else (if a = 0 then 1 else 0)
/-- what an operation that hangs on what it takes alone gives -/
def valV (k w kn a b c : Int) : Int :=
  if k = 1 then kn
  else if k = 4 then binV w a b
  else if k = 5 then unV w a
  else if k = 6 then (if a = 0 then c else b)
  else if k = 7 then fl w a b c
  else (if hd w a then 1 else 0)
/-- with its sign, if the kind has one -/
def wid (w v : Int) : Int := if w = 1 then s8 v else if w = 3 then s16 v else v
def ldn (w : Int) : Int := if w = 0 then 1 else if w = 1 then 1 else if w = 2 then 2 else if w = 3 then 2 else 4
def stn (w : Int) : Int := if w = 0 then 1 else if w = 1 then 2 else 4
theorem s8_bd (a : Int) : 0 ≤ s8 a ∧ s8 a < 4294967296 := by unfold s8; split <;> omega
theorem s16_bd (a : Int) : 0 ≤ s16 a ∧ s16 a < 4294967296 := by unfold s16; split <;> omega
theorem rkv_bd' (o a b f : Int) (a0 : 0 ≤ a) (a1 : a < 4294967296) (b0 : 0 ≤ b) (b1 : b < 4294967296) (ho : o = 0 ∨ o = 2 ∨ o = 4 ∨ o = 5 ∨ o = 6 ∨ o = 9 ∨ o = 10 ∨ o = 11 ∨ o = 12 ∨ o = 13) : 0 ≤ rkv o a b f ∧ rkv o a b f < 4294967296 := by
  have h1 := bits_lt .and a b a0 a1 b0 b1
  have h2 := bits_lt .or a b a0 a1 b0 b1
  have h3 := bits_lt .xor a b a0 a1 b0 b1
  have h4 := rol_lt a (n5 b) (n5_lt b) a0 a1
  have h5 : 0 ≤ a / 2 ^ n5 b ∧ a / 2 ^ n5 b ≤ a := ⟨Int.ediv_nonneg a0 (Int.le_of_lt (two_pow_pos _)), Int.ediv_le_self _ a0⟩
  have e1 : 0 ≤ a * 2 ^ n5 b % 4294967296 ∧ a * 2 ^ n5 b % 4294967296 < 4294967296 := ⟨Int.emod_nonneg _ (by decide), Int.emod_lt_of_pos _ (by decide)⟩
  have e2 : 0 ≤ sg a / 2 ^ n5 b % 4294967296 ∧ sg a / 2 ^ n5 b % 4294967296 < 4294967296 := ⟨Int.emod_nonneg _ (by decide), Int.emod_lt_of_pos _ (by decide)⟩
  have e3 : 0 ≤ a * b % 4294967296 ∧ a * b % 4294967296 < 4294967296 := ⟨Int.emod_nonneg _ (by decide), Int.emod_lt_of_pos _ (by decide)⟩
  rcases ho with rfl | rfl | rfl | rfl | rfl | rfl | rfl | rfl | rfl | rfl
  · show 0 ≤ (a + b) % 4294967296 ∧ (a + b) % 4294967296 < 4294967296; omega
  · show 0 ≤ (a - b) % 4294967296 ∧ (a - b) % 4294967296 < 4294967296; omega
  · exact h1
  · exact h2
  · exact h3
  · exact e1
  · exact ⟨h5.1, Int.lt_of_le_of_lt h5.2 a1⟩
  · exact e2
  · exact h4
  · exact e3
theorem binV_bd (w a b : Int) (a0 : 0 ≤ a) (a1 : a < 4294967296) (b0 : 0 ≤ b) (b1 : b < 4294967296) : 0 ≤ binV w a b ∧ binV w a b < 4294967296 := by
  unfold binV
  split
  · refine rkv_bd' _ _ _ _ a0 a1 b0 b1 ?_
    unfold alu
    repeat' split
    all_goals omega
  · split
    · have h0 : 0 ≤ a * b := Int.mul_nonneg a0 b0
      have h1 : a * b ≤ 4294967295 * 4294967295 := Int.mul_le_mul (by omega) (by omega) b0 (by decide)
      omega
    · split
      · split
        · omega
        · have := Int.ediv_le_self b a0
          exact ⟨Int.ediv_nonneg a0 b0, Int.lt_of_le_of_lt this a1⟩
      · split
        · split
          · omega
          · next hb => exact ⟨Int.emod_nonneg _ hb, Int.lt_trans (Int.emod_lt_of_pos _ (by omega)) b1⟩
        · repeat' split
          all_goals omega
theorem unV_bd (w a : Int) (a0 : 0 ≤ a) (a1 : a < 4294967296) : 0 ≤ unV w a ∧ unV w a < 4294967296 := by
  have h1 := s8_bd a
  have h2 := s16_bd a
  unfold unV
  repeat' split
  all_goals omega
theorem valV_bd (k w kn a b c : Int) (k0 : 0 ≤ kn) (k1 : kn < 4294967296) (a0 : 0 ≤ a) (a1 : a < 4294967296) (b0 : 0 ≤ b) (b1 : b < 4294967296) (c0 : 0 ≤ c) (c1 : c < 4294967296) : 0 ≤ valV k w kn a b c ∧ valV k w kn a b c < 4294967296 := by
  have h1 := binV_bd w a b a0 a1 b0 b1
  have h2 := unV_bd w a a0 a1
  have h3 := St.fl_bd w a b c
  unfold valV
  by_cases e : k = 1
  · rw [if_pos e]; exact ⟨k0, k1⟩
  rw [if_neg e]; clear e
  by_cases e : k = 4
  · rw [if_pos e]; exact h1
  rw [if_neg e]; clear e
  by_cases e : k = 5
  · rw [if_pos e]; exact h2
  rw [if_neg e]; clear e
  by_cases e : k = 6
  · rw [if_pos e]; split <;> omega
  rw [if_neg e]; clear e
  by_cases e : k = 7
  · rw [if_pos e]; omega
  rw [if_neg e]; clear e
  split <;> omega
theorem wid_bd (w v : Int) (v0 : 0 ≤ v) (v1 : v < 4294967296) : 0 ≤ wid w v ∧ wid w v < 4294967296 := by
  have h1 := s8_bd v
  have h2 := s16_bd v
  unfold wid
  repeat' split
  all_goals omega
end Go.Proofs.Ytcjcmnnhmajocab.Ev
namespace Go.Proofs.Ytcjcmnnhmajocab.Ot
open Go.RowKit Kt Ic Me Ev
set_option linter.unusedVariables false
instance eqOpr : DecidableEq Opr := fun a b => decidable_of_iff (a.k = b.k ∧ a.w = b.w ∧ a.a = b.a ∧ a.b = b.b ∧ a.c = b.c ∧ a.kn = b.kn ∧ a.n = b.n) ⟨fun h => by obtain ⟨h1, h2, h3, h4, h5, h6, h7⟩ := h; cases a; cases b; dsimp only at *; subst h1 h2 h3 h4 h5 h6 h7; rfl, fun h => by subst h; exact ⟨rfl, rfl, rfl, rfl, rfl, rfl, rfl⟩⟩
/-- what is under way -/
structure Wk where
  ops : List Opr
  to : Nat → Int
  sl : Nat → Int
  now : Int
def zo : Opr := ⟨0, 0, 0, 0, 0, 0, 0⟩
def opAt (os : List Opr) (t : Nat) : Opr := os.getD t zo
def tA (k : Int) : Bool := decide (k = 3 ∨ k = 4 ∨ k = 5 ∨ k = 6 ∨ k = 7 ∨ k = 8 ∨ k = 9 ∨ k = 10 ∨ k = 12 ∨ k = 13 ∨ k = 16)
def tB (k : Int) : Bool := decide (k = 4 ∨ k = 6 ∨ k = 7 ∨ k = 10)
def tC (k : Int) : Bool := decide (k = 6 ∨ k = 7)
def Wk.nx (s : Wk) : Int := s.ops.length
def Wk.put (s : Wk) (o : Opr) : Wk := { s with ops := s.ops ++ [o] }
def Wk.set (s : Wk) (i : Nat) (x : Int) : Wk := { s with to := upd s.to i x }
def Wk.st (s : Wk) (j : Nat) (x : Int) : Wk := { s with sl := upd s.sl j x }
def Wk.setN (s : Wk) (x : Int) : Wk := { s with now := x }
def pur (k : Int) : Bool := decide (k = 1 ∨ (4 ≤ k ∧ k ≤ 8))
/-- the first place of an operation -/
def idx (o : Opr) : List Opr → Option Nat
  | [] => none
  | x :: l => if x = o then some 0 else (idx o l).map (· + 1)
def Wk.num (s : Wk) (o : Opr) : Int × Wk := match idx o s.ops with
  | some k => ((k : Int), s)
  | none => (s.nx, s.put o)
def isC (s : Wk) (t : Int) : Bool := decide ((opAt s.ops t.toNat).k = 1)
def kn (s : Wk) (t : Int) : Int := (opAt s.ops t.toNat).kn
def lv (w : Int) : Bool := decide (w = 0 ∨ w = 1 ∨ w = 3 ∨ w = 4 ∨ w = 5 ∨ w = 6 ∨ w = 7 ∨ w = 8 ∨ w = 12)
def allC (s : Wk) (o : Opr) : Bool := (!tA o.k || isC s o.a) && (!tB o.k || isC s o.b) && (!tC o.k || isC s o.c)
def cK (x : Int) : Opr := ⟨1, 0, 0, 0, 0, x, 0⟩
def vA (s : Wk) (o : Opr) : Int := if tA o.k then kn s o.a else 0
def vB (s : Wk) (o : Opr) : Int := if tB o.k then kn s o.b else 0
def vC (s : Wk) (o : Opr) : Int := if tC o.k then kn s o.c else 0
def fold (s : Wk) (o : Opr) : Opr := cK (valV o.k o.w o.kn (vA s o) (vB s o) (vC s o))
def Wk.val (s : Wk) (o : Opr) : Int × Wk :=
  if o.k = 1 then s.num o
  else if allC s o then s.num (fold s o)
  else if o.k = 6 ∧ isC s o.a = true then (if kn s o.a = 0 then o.c else o.b, s)
  else if o.k = 6 ∧ o.b = o.c then (o.b, s)
  else if o.k = 4 ∧ isC s o.b = true ∧ kn s o.b = 0 ∧ lv o.w = true then (o.a, s)
  else s.num o
def flK (x : Int) : Int := if x ≤ 12 then x else 0
def Wk.flg (s : Wk) (o : Opr) : Int × Wk :=
  if 0 ≤ s.sl 8 ∧ 0 ≤ s.sl 9 ∧ 0 ≤ s.sl 10 ∧ 0 ≤ s.sl 11 ∧ isC s (s.sl 8) = true then s.val ⟨7, flK (kn s (s.sl 8)), s.sl 9, s.sl 10, s.sl 11, 0, 0⟩
  else if s.now < 0 then (s.nx, (s.put o).setN s.nx)
  else (s.now, s)
def Wk.per (s : Wk) (o : Opr) : Bool × Wk :=
  if isC s o.a = false then (false, s.put o)
  else if kn s o.a = 0 then (false, s)
  else if o.k = 12 then (true, s.put ⟨15, 0, 0, 0, 0, o.kn, o.n⟩)
  else (true, s.put ⟨14, o.w, 0, 0, 0, o.kn, o.n⟩)
def Wk.slt (s : Wk) (o : Opr) : Wk :=
  if s.sl o.w.toNat = o.a then s else (if 8 ≤ o.w then (s.st o.w.toNat o.a).setN (-1) else s.st o.w.toNat o.a).put o
def Wk.got (s : Wk) (i : Nat) (o : Opr) : Wk :=
  if s.sl o.w.toNat < 0 then ((s.put o).st o.w.toNat s.nx).set i s.nx else s.set i (s.sl o.w.toNat)
def Wk.step (s : Wk) (i : Nat) (o : Opr) : Bool × Wk :=
  if o.k = 2 then (false, s.got i o)
  else if o.k = 3 then (false, s.slt o)
  else if o.k = 17 then (false, (s.flg o).2.set i (s.flg o).1)
  else if pur o.k then (false, (s.val o).2.set i (s.val o).1)
  else if o.k = 12 ∨ o.k = 13 then s.per o
  else (false, (s.put o).set i s.nx)
def ren (to : Nat → Int) (o : Opr) : Opr :=
  ⟨o.k, o.w, if tA o.k then to o.a.toNat else o.a, if tB o.k then to o.b.toNat else o.b, if tC o.k then to o.c.toNat else o.c, o.kn, o.n⟩
def w0 : Wk := ⟨[], fun _ => 0, fun _ => -1, -1⟩
/-- behind so many operations; is it at its end? -/
def fs (os : List Opr) : Nat → Bool × Wk
  | 0 => (false, w0)
  | i + 1 => if (fs os i).1 then fs os i else (fs os i).2.step i (ren (fs os i).2.to (opAt os i))
def fwd (os : List Opr) : List Opr := (fs os os.length).2.ops
/-- what is known of what comes behind -/
structure Dd where
  ov : Nat → Bool
  us : Nat → Bool
  kp : Nat → Bool
def gvD (k : Int) : Bool := decide (k = 1 ∨ k = 2 ∨ (4 ≤ k ∧ k ≤ 8) ∨ k = 17)
def Dd.kpO (d : Dd) (i : Nat) (o : Opr) : Bool := if o.k = 3 then !d.ov o.w.toNat else if gvD o.k then d.us i else true
def Dd.ov1 (d : Dd) (o : Opr) : Nat → Bool := if o.k = 3 then upd d.ov o.w.toNat true else if gvD o.k then d.ov else fun _ => false
def Dd.ov2 (d : Dd) (o : Opr) : Nat → Bool := if o.k = 2 then upd (d.ov1 o) o.w.toNat false else if o.k = 17 then (fun j => if 8 ≤ j then false else d.ov1 o j) else d.ov1 o
def mk1 (b : Bool) (u : Nat → Bool) (t : Int) : Nat → Bool := if b then upd u t.toNat true else u
def Dd.us2 (d : Dd) (o : Opr) : Nat → Bool := mk1 (tC o.k) (mk1 (tB o.k) (mk1 (tA o.k) d.us o.a) o.b) o.c
def Dd.one (d : Dd) (i : Nat) (o : Opr) : Dd :=
  if d.kpO i o then ⟨d.ov2 o, d.us2 o, upd d.kp i true⟩ else ⟨d.ov1 o, d.us, upd d.kp i false⟩
def d0 : Dd := ⟨fun _ => false, fun _ => false, fun _ => false⟩
/-- the last so many are gone through -/
def db (os : List Opr) : Nat → Dd
  | 0 => d0
  | k + 1 => (db os k).one (os.length - (k + 1)) (opAt os (os.length - (k + 1)))
def kps (os : List Opr) : Nat → Bool := (db os os.length).kp
def e0 : Wk := ⟨[], fun _ => 0, fun _ => 0, 0⟩
def ds (os : List Opr) : Nat → Wk
  | 0 => e0
  | i + 1 => if kps os i then ((ds os i).put (ren (ds os i).to (opAt os i))).set i (ds os i).nx else ds os i
def ded (os : List Opr) : List Opr := (ds os os.length).ops
def opt1 (os : List Opr) : List Opr := ded (fwd os)
def orAt (a : Option Nat) (b : Bool) (n : Nat) : Option Nat := match a with
  | some k => some k
  | none => if b then some n else none
theorem idx_snoc (x o : Opr) : ∀ l, idx x (l ++ [o]) = orAt (idx x l) (decide (o = x)) l.length
  | [] => by
    show (if o = x then some 0 else none) = if decide (o = x) = true then some 0 else none
    simp
  | y :: l => by
    show (if y = x then some 0 else (idx x (l ++ [o])).map (· + 1)) = orAt (if y = x then some 0 else (idx x l).map (· + 1)) (decide (o = x)) (l.length + 1)
    by_cases e : y = x
    · rw [if_pos e, if_pos e]; rfl
    · rw [if_neg e, if_neg e, idx_snoc x o l]
      cases idx x l with
      | some k => rfl
      | none =>
        by_cases e : o = x
        · simp [orAt, e]
        · simp [orAt, e]
theorem idx_none {x : Opr} : ∀ {l}, idx x l = none → ∀ y ∈ l, y ≠ x
  | [], _, y, hy => nomatch hy
  | z :: l, h, y, hy => by
    change (if z = x then some 0 else (idx x l).map (· + 1)) = none at h
    by_cases e : z = x
    · rw [if_pos e] at h; exact nomatch h
    · rw [if_neg e, Option.map_eq_none_iff] at h
      rcases List.mem_cons.1 hy with rfl | hy
      · exact e
      · exact idx_none h y hy
end Go.Proofs.Ytcjcmnnhmajocab.Ot
namespace Go.Proofs.Ytcjcmnnhmajocab.St
open Go.RowKit Kt Me Fl
set_option linter.unusedVariables false
set_option linter.unusedSimpArgs false
theorem wrap_i8' (n : Int) : IntKind.i8.wrap n = (n + 128) % 256 - 128 := by
  have h1 : IntKind.i8.bits = 8 := rfl
  have h2 : IntKind.i8.signed = true := rfl
  simp only [IntKind.wrap, h1, h2, Bool.true_and]
  split
  · rename_i h
    simp at h
    omega
  · rename_i h
    simp at h
    omega
theorem wrap_i16' (n : Int) : IntKind.i16.wrap n = (n + 32768) % 65536 - 32768 := by
  have h1 : IntKind.i16.bits = 16 := rfl
  have h2 : IntKind.i16.signed = true := rfl
  simp only [IntKind.wrap, h1, h2, Bool.true_and]
  split
  · rename_i h
    simp at h
    omega
  · rename_i h
    simp at h
    omega
theorem not32 (x : Int) (h0 : 0 ≤ x) (g0 : x < 4294967296) : bits .xor .u32 IntKind.u32.max x = 4294967295 - x := by
  obtain ⟨a, rfl⟩ := Int.eq_ofNat_of_zero_le h0
  have ha : a < 4294967296 := by omega
  have hm : IntKind.u32.max = ((4294967295 : Nat) : Int) := by simp [IntKind.max, IntKind.signed, IntKind.bits]
  have hx : 4294967295 ^^^ a = 4294967295 - a := by
    apply Nat.eq_of_testBit_eq
    intro i
    rw [Nat.testBit_xor, show 4294967295 - a = 2 ^ 32 - (a + 1) by omega, Nat.testBit_two_pow_sub_succ (by omega) i, show (4294967295 : Nat) = 2 ^ 32 - 1 by decide, Nat.testBit_two_pow_sub_one]
    by_cases h : i < 32
    · simp [h]
    · have hz : a.testBit i = false := Nat.testBit_lt_two_pow (Nat.lt_of_lt_of_le (show a < 2 ^ 32 by omega) (Nat.pow_le_pow_right (by omega) (by omega)))
      simp [h, hz]
  rw [hm, u32_xor_nat _ _ (by omega) ha, hx]
  omega
theorem box_at (w : World) (cs : Array Value) (t : TypeId) (i : Nat) : (w.alloc (.cells cs t)).cell? ⟨w.heap.size, i, none⟩ = cs[i]? := cell_of_row _ _ _ _ _ _ (heap_alloc_new w (.cells cs t))
end Go.Proofs.Ytcjcmnnhmajocab.St
