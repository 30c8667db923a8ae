/- interp: loads, stores, widen. -/
import Derived.RegionTactic
import Derived.BigRegion
import Derived.Deep.RegionHeld3
import Derived.Test.YtcjcmnnhmajocabPkae
import Derived.Test.YtcjcmnnhmajocabPkaf
import Derived.Test.YtcjcmnnhmajocabPkah
namespace Go.Proofs.Ytcjcmnnhmajocab.St
open Go.RowKit Kt Me
set_option linter.unusedVariables false
set_option linter.unusedSimpArgs false
def stK (kind : Int) (o : Option Int) : Int := match o with | none => 0 | some _ => kind
def stX (o : Option Int) : Int := match o with | none => 0 | some x => x
theorem stpV_eq (kind : Int) (o : Option Int) : stpV kind o = .agg #[.int .i64 (stK kind o), .int .u32 (stX o)] := by cases o <;> rfl
/-- interp.at: the memory, the state, where it goes on, the stop -/
structure AtB (A p : Nat) (R : Nat → Int) (pc f nx k x : Int) (W : World) : Prop where
  m : W.cell? ⟨A, 0, none⟩ = some (.pointer (some ⟨p, 0, none⟩))
  r : ∀ j, j < 8 → W.cell? ⟨A, 1 + j, none⟩ = some (.int .u32 (R j))
  c9 : W.cell? ⟨A, 9, none⟩ = some (.int .u32 pc)
  c10 : W.cell? ⟨A, 10, none⟩ = some (.int .u32 f)
  c11 : W.cell? ⟨A, 11, none⟩ = some (.int .u32 nx)
  c12 : W.cell? ⟨A, 12, none⟩ = some (.int .i64 k)
  c13 : W.cell? ⟨A, 13, none⟩ = some (.int .u32 x)
  z : ∀ i, W.frozen? ⟨A, i, none⟩ = false
  l : A < W.heap.size
variable {A p : Nat} {R : Nat → Int} {pc f nx k x : Int} {W W' : World}
theorem AtB.upto {S : Nat → Prop} (h : AtB A p R pc f nx k x W) (u : Upto S W W') (hs : ¬ S A) : AtB A p R pc f nx k x W' :=
  ⟨(u.cell h.l hs).trans h.m, fun j hj => (u.cell h.l hs).trans (h.r j hj), (u.cell h.l hs).trans h.c9, (u.cell h.l hs).trans h.c10, (u.cell h.l hs).trans h.c11, (u.cell h.l hs).trans h.c12, (u.cell h.l hs).trans h.c13, fun i => (u.frozen h.l hs).trans (h.z i), Nat.lt_of_lt_of_le h.l u.size⟩
theorem AtB.drew (h : AtB A p R pc f nx k x W) : AtB A p R pc f nx k x W.drew := ⟨h.m, h.r, h.c9, h.c10, h.c11, h.c12, h.c13, h.z, h.l⟩
theorem off {b i j : Nat} {v : Value} (hne : i ≠ j) : (W.setCell ⟨b, j, none⟩ v).cell? ⟨b, i, none⟩ = W.cell? ⟨b, i, none⟩ :=
  World.cell?_setCell_other _ _ _ _ (by intro h; simp only [Addr.mk.injEq] at h; omega)
theorem AtB.setR (h : AtB A p R pc f nx k x W) (d : Nat) (hd : d < 8) (v : Int) : AtB A p (upd R d v) pc f nx k x (W.setCell ⟨A, 1 + d, none⟩ (.int .u32 v)) := by
  refine ⟨(off (by omega)).trans h.m, fun j hj => ?_, (off (by omega)).trans h.c9, (off (by omega)).trans h.c10, (off (by omega)).trans h.c11, (off (by omega)).trans h.c12, (off (by omega)).trans h.c13, fun i => by simpa using h.z i, by simpa using h.l⟩
  by_cases hjd : j = d
  · subst hjd; rw [World.cell?_setCell_same _ _ _ (h.r j hj)]; simp only [upd, if_true]
  · rw [off (by omega), h.r j hj]; simp only [upd, if_neg hjd]
theorem AtB.setPc (h : AtB A p R pc f nx k x W) (v : Int) : AtB A p R v f nx k x (W.setCell ⟨A, 9, none⟩ (.int .u32 v)) :=
  ⟨(off (by omega)).trans h.m, fun j hj => (off (by omega)).trans (h.r j hj), World.cell?_setCell_same _ _ _ h.c9, (off (by omega)).trans h.c10, (off (by omega)).trans h.c11, (off (by omega)).trans h.c12, (off (by omega)).trans h.c13, fun i => by simpa using h.z i, by simpa using h.l⟩
theorem AtB.setF (h : AtB A p R pc f nx k x W) (v : Int) : AtB A p R pc v nx k x (W.setCell ⟨A, 10, none⟩ (.int .u32 v)) :=
  ⟨(off (by omega)).trans h.m, fun j hj => (off (by omega)).trans (h.r j hj), (off (by omega)).trans h.c9, World.cell?_setCell_same _ _ _ h.c10, (off (by omega)).trans h.c11, (off (by omega)).trans h.c12, (off (by omega)).trans h.c13, fun i => by simpa using h.z i, by simpa using h.l⟩
theorem AtB.setNx (h : AtB A p R pc f nx k x W) (v : Int) : AtB A p R pc f v k x (W.setCell ⟨A, 11, none⟩ (.int .u32 v)) :=
  ⟨(off (by omega)).trans h.m, fun j hj => (off (by omega)).trans (h.r j hj), (off (by omega)).trans h.c9, (off (by omega)).trans h.c10, World.cell?_setCell_same _ _ _ h.c11, (off (by omega)).trans h.c12, (off (by omega)).trans h.c13, fun i => by simpa using h.z i, by simpa using h.l⟩
theorem AtB.setK (h : AtB A p R pc f nx k x W) (v : Int) : AtB A p R pc f nx v x (W.setCell ⟨A, 12, none⟩ (.int .i64 v)) :=
  ⟨(off (by omega)).trans h.m, fun j hj => (off (by omega)).trans (h.r j hj), (off (by omega)).trans h.c9, (off (by omega)).trans h.c10, (off (by omega)).trans h.c11, World.cell?_setCell_same _ _ _ h.c12, (off (by omega)).trans h.c13, fun i => by simpa using h.z i, by simpa using h.l⟩
theorem AtB.setX (h : AtB A p R pc f nx k x W) (v : Int) : AtB A p R pc f nx k v (W.setCell ⟨A, 13, none⟩ (.int .u32 v)) :=
  ⟨(off (by omega)).trans h.m, fun j hj => (off (by omega)).trans (h.r j hj), (off (by omega)).trans h.c9, (off (by omega)).trans h.c10, (off (by omega)).trans h.c11, (off (by omega)).trans h.c12, World.cell?_setCell_same _ _ _ h.c13, fun i => by simpa using h.z i, by simpa using h.l⟩
/-- what of a world an instruction may change -/
def AS (A p : Nat) (i : Nat) : Prop := i = A ∨ i = p
set_option maxRecDepth 100000 in
set_option maxHeartbeats 2000000 in
theorem atload (M : MM) (q n : Int) (w : World) (h : AtB A p R pc f nx 0 x w) (hm : HC p M w) (hM : MOk M) (hne : A ≠ p) (q0 : 0 ≤ q) (q1 : q < 4294967296) (n1 : n < 9223372036854775808) :
    Calls Try.prog 130 #[.pointer (some ⟨A, 0, none⟩), .int .u32 q, .int .i64 n] w fun e w' => e = .returned (.int .u32 (ldv M q n)) ∧ AtB A p R pc f nx (stK 5 (srch M 1 q n.toNat)) (stX (srch M 1 q n.toNat)) w' ∧ HC p M w' ∧ Upto (fun i => i = A) w w' := by
  have CM := fun w h' => load_any p M q n w h' hM q0 q1 n1
  rw [stpV_eq] at CM
  have CM' := Lib.hid CM
  clear CM
  generalize stK 5 (srch M 1 q n.toNat) = k1 at CM' ⊢
  generalize stX (srch M 1 q n.toNat) = x1 at CM' ⊢
  generalize ldv M q n = v at CM' ⊢
  have c0 := h.m
  have c12 := h.c12
  have c13 := h.c13
  have z12 := h.z 12
  have z13 := h.z 13
  have lA := h.l
  have HA := Lib.hid h
  have HM := Lib.hid hm
  clear h hm hM q0 q1 n1
  go_enter Try.func130, Try.ntmps130
  go_wp2_with (go_at_call 165; (with_reducible refine (CM'.out _ HM.out).mono ?_); rintro e w1 ⟨rfl, hb1⟩; have d12 := (hb1.cell (p := ⟨A, 12, none⟩) lA).trans c12; have d13 := (hb1.cell (p := ⟨A, 13, none⟩) lA).trans c13; have y12 := (hb1.frozen (p := ⟨A, 12, none⟩) lA).trans z12; have y13 := (hb1.frozen (p := ⟨A, 13, none⟩) lA).trans z13; have l1 := Nat.lt_of_lt_of_le lA hb1.size; have B1 := Lib.hid hb1; clear hb1)
  go_ret
  exact ⟨rfl, ((HA.out.upto (Upto.of_below (S := fun _ => False) B1.out) id).setK k1 |>.setX x1).upto ((Upto.refl (fun _ => False) _).alloc _) id, (HM.out.upto (Upto.of_below (S := fun _ => False) B1.out) id).upto ((((Upto.refl (fun i => i = A) _).setCell (q := ⟨A, 12, none⟩) (.inl rfl) _).setCell (q := ⟨A, 13, none⟩) (.inl rfl) _).alloc _) (fun h => hne h.symm),
    (((Upto.of_below (S := fun i => i = A) B1.out).setCell (q := ⟨A, 12, none⟩) (.inl rfl) _).setCell (q := ⟨A, 13, none⟩) (.inl rfl) _).alloc _⟩
set_option maxRecDepth 100000 in
set_option maxHeartbeats 2000000 in
theorem atstore (M : MM) (q n v : Int) (w : World) (h : AtB A p R pc f nx 0 x w) (hm : HC p M w) (hM : MOk M) (hne : A ≠ p) (q0 : 0 ≤ q) (q1 : q < 4294967296) (v0 : 0 ≤ v) (v1 : v < 4294967296) :
    Calls Try.prog 132 #[.pointer (some ⟨A, 0, none⟩), .int .u32 q, .int .i64 n, .int .u32 v] w fun e w' => e = .returned (.tuple #[]) ∧ AtB A p R pc f nx (stK 6 (sto M q n)) (stX (sto M q n)) w' ∧ HC p (stm M q n v) w' ∧ Upto (AS A p) w w' := by
  have CM := fun w h' => store_any p M q n v w h' hM q0 q1 v0 v1
  rw [stpV_eq] at CM
  have CM' := Lib.hid CM
  clear CM
  generalize stK 6 (sto M q n) = k1 at CM' ⊢
  generalize stX (sto M q n) = x1 at CM' ⊢
  generalize stm M q n v = M1 at CM' ⊢
  have c0 := h.m
  have c12 := h.c12
  have c13 := h.c13
  have z12 := h.z 12
  have z13 := h.z 13
  have lA := h.l
  have HA := Lib.hid h
  have HM := Lib.hid hm
  clear h hm hM q0 q1 v0 v1
  go_enter Try.func132, Try.ntmps132
  go_wp2_with (go_at_call 168; (with_reducible refine (CM'.out _ HM.out).mono ?_); rintro e w1 ⟨rfl, h1, u1⟩; have d12 := (u1.cell (q := ⟨A, 12, none⟩) lA hne).trans c12; have d13 := (u1.cell (q := ⟨A, 13, none⟩) lA hne).trans c13; have y12 := (u1.frozen (q := ⟨A, 12, none⟩) lA hne).trans z12; have y13 := (u1.frozen (q := ⟨A, 13, none⟩) lA hne).trans z13; have l1 := Nat.lt_of_lt_of_le lA u1.size; have U1 := Lib.hid u1; have H1 := Lib.hid h1; clear u1 h1)
  go_end0
  exact ⟨rfl, ((HA.out.upto U1.out hne).setK k1 |>.setX x1), HC.upto H1.out (((Upto.refl (fun i => i = A) _).setCell (q := ⟨A, 12, none⟩) (.inl rfl) _).setCell (q := ⟨A, 13, none⟩) (.inl rfl) _) (fun h => hne h.symm),
    (((U1.out.mono (T := AS A p) (fun _ _ h => .inr h)).setCell (q := ⟨A, 12, none⟩) (.inl (.inl rfl)) _).setCell (q := ⟨A, 13, none⟩) (.inl (.inl rfl)) _)⟩
set_option maxRecDepth 100000 in
set_option maxHeartbeats 2000000 in
theorem atstore_off (q n v : Int) (w : World) (h : AtB A p R pc f nx k x w) (hk : k ≠ 0) :
    Calls Try.prog 132 #[.pointer (some ⟨A, 0, none⟩), .int .u32 q, .int .i64 n, .int .u32 v] w fun e w' => e = .returned (.tuple #[]) ∧ w = w' := by
  have c12 := h.c12
  have hkb : (k == 0) = false := by rw [beq_eq_false_iff_ne]; exact hk
  clear h hk
  go_enter Try.func132, Try.ntmps132
  go_wp2
  go_end0
  exact ⟨rfl, rfl⟩
/-- registers within their bounds -/
def ROk (R : Nat → Int) : Prop := ∀ j, 0 ≤ R j ∧ R j < 4294967296
theorem ROk.upd (h : ROk R) (d : Nat) (v : Int) (hv : 0 ≤ v ∧ v < 4294967296) : ROk (upd R d v) := fun j => by
  unfold Me.upd; split
  · exact hv
  · exact h j
def w32 (x : Int) : Int := x % 4294967296
theorem w32_bd (x : Int) : 0 ≤ w32 x ∧ w32 x < 4294967296 := by unfold w32; omega
set_option maxRecDepth 100000 in
set_option maxHeartbeats 2000000 in
theorem atpush (M : MM) (v : Int) (w : World) (h : AtB A p R pc f nx 0 x w) (hm : HC p M w) (hM : MOk M) (hR : ROk R) (hne : A ≠ p) (v0 : 0 ≤ v) (v1 : v < 4294967296) :
    Calls Try.prog 136 #[.pointer (some ⟨A, 0, none⟩), .int .u32 v] w fun e w' => e = .returned (.tuple #[]) ∧ AtB A p (upd R 7 (w32 (R 7 - 4))) pc f nx (stK 6 (sto M (w32 (R 7 - 4)) 4)) (stX (sto M (w32 (R 7 - 4)) 4)) w' ∧ HC p (stm M (w32 (R 7 - 4)) 4 v) w' ∧ Upto (AS A p) w w' := by
  have hq := w32_bd (R 7 - 4)
  have CS := Lib.hid (atstore M (w32 (R 7 - 4)) 4 v w h hm hM hne hq.1 hq.2 v0 v1)
  have hr := hR 7
  have c8 := h.r 7 (by omega)
  obtain ⟨y, hy⟩ : ∃ y, R 7 = y := ⟨_, rfl⟩
  have ey : (y - 4) % 4294967296 = w32 (R 7 - 4) := by rw [hy]; rfl
  rw [hy] at c8 hr
  have HY := Lib.hid hy
  obtain ⟨q, hq'⟩ : ∃ q, w32 (R 7 - 4) = q := ⟨_, rfl⟩
  rw [hq'] at ey CS hq ⊢
  generalize stK 6 (sto M q 4) = k1 at CS ⊢
  generalize stX (sto M q 4) = x1 at CS ⊢
  generalize stm M q 4 v = M1 at CS ⊢
  have lA := h.l
  obtain ⟨y0, y1⟩ := hr
  clear h hm hM hy hq'
  go_enter Try.func136, Try.ntmps136
  go_wp2_with (go_at_call 132; (with_reducible refine CS.out.mono ?_); rintro e w1 ⟨rfl, h1, m1, u1⟩; have d8 := h1.r 7 (by omega); have y8 := h1.z 8; have H1 := Lib.hid h1; have M1' := Lib.hid m1; have U1 := Lib.hid u1; have l1 := h1.l; clear h1 m1 u1)
  rw [HY.out] at d8
  go_region
  go_wp2
  go_end0
  exact ⟨rfl, (H1.out.setR 7 (by omega) q).drew, (HC.upto M1'.out ((Upto.refl (fun i => i = A) _).setCell (q := ⟨A, 8, none⟩) (.inl rfl) (.int .u32 q)) (fun h => hne h.symm)).drew, (U1.out.setCell (q := ⟨A, 8, none⟩) (.inl (.inl rfl)) _).drew⟩
end Go.Proofs.Ytcjcmnnhmajocab.St
namespace Go.Proofs.Ytcjcmnnhmajocab.St
open Go.RowKit Kt Me Fl
set_option linter.unusedVariables false
set_option linter.unusedSimpArgs false
theorem fl_bd (k a b old : Int) : 0 ≤ fl k a b old ∧ fl k a b old < 16 := by
  unfold fl
  have h1 := fAdd_lt a b 0
  have h2 := fAdd_lt a b (old / 4 % 2)
  have h3 := fSub_lt a b 0
  have h4 := fSub_lt a b (old / 4 % 2)
  have h5 := zn_lt a
  have h6 := zn_lt (a * b % 4294967296)
  have h7 := zn_lt ((a + 1) % 4294967296)
  have h8 := zn_lt ((a - 1) % 4294967296)
  have h9 := zn_lt (a * 2 ^ n5 b % 4294967296)
  have h10 := zn_lt (a / 2 ^ n5 b)
  have h11 := zn_lt (sg a / 2 ^ n5 b % 4294967296)
  generalize fAdd a b 0 = y1 at *
  generalize fAdd a b (old / 4 % 2) = y2 at *
  generalize fSub a b 0 = y3 at *
  generalize fSub a b (old / 4 % 2) = y4 at *
  repeat' split
  all_goals omega
/-- what comes of an instruction: memory, registers, where it goes on, flags; the stop -/
structure Out where
  M : MM
  R : Nat → Int
  pc : Int
  f : Int
  k : Int
  x : Int
def ldO (M : MM) (R : Nat → Int) (pc f q n : Int) (g : Int → Out) : Out := match srch M 1 q n.toNat with
  | none => g (ldv M q n)
  | some x => ⟨M, R, pc, f, 5, x⟩
def stO (M : MM) (R : Nat → Int) (pc f q n v : Int) (g : MM → Out) : Out := match sto M q n with
  | none => g (stm M q n v)
  | some x => ⟨M, R, pc, f, 6, x⟩
def ldN (o : Int) : Int := if o = 0 then 1 else if o = 1 then 1 else if o = 2 then 2 else if o = 3 then 2 else 4
def stN (o : Int) : Int := if o = 0 then 1 else if o = 1 then 2 else 4
/-- with its sign, if the kind has one -/
def widen (o v : Int) : Int := if o = 1 then (if 128 ≤ v % 256 then v % 256 + 4294967040 else v % 256) else if o = 3 then (if 32768 ≤ v % 65536 then v % 65536 + 4294901760 else v % 65536) else v
/-- one instruction: k which, d s its registers, o which of its sort, m its number; nx behind it -/
def opO (M : MM) (R : Nat → Int) (pc f nx k : Int) (d s : Nat) (o m : Int) : Out :=
  let sp := w32 (R 7 - 4)
  let up := w32 (R 7 + 4)
  let q := w32 (R s + m)
  let ok (R' : Nat → Int) (pc' f' : Int) : Out := ⟨M, R', pc', f', 0, 0⟩
  if k = 0 then ok R nx f
  else if k = 1 then ⟨M, R, pc, f, 2, 0⟩
  else if k = 2 then ldO M R pc f (R 7) 4 fun v => ⟨M, upd R 7 up, v, f, 0, 0⟩
  else if k = 3 then stO M R pc f sp 4 f fun M' => ⟨M', upd R 7 sp, nx, f, 0, 0⟩
  else if k = 4 then ldO M R pc f (R 7) 4 fun v => ⟨M, upd R 7 up, nx, v % 16, 0, 0⟩
  else if k = 5 then ⟨M, R, nx, f, 1, m⟩
  else if k = 6 ∨ k = 7 then ok R (w32 (nx + m)) f
  else if k = 8 then stO M R pc f sp 4 nx fun M' => ⟨M', upd R 7 sp, w32 (nx + m), f, 0, 0⟩
  else if k = 9 then ok R (R s) f
  else if k = 10 then stO M R pc f sp 4 nx fun M' => ⟨M', upd R 7 sp, R s, f, 0, 0⟩
  else if k = 11 then ldO M R pc f q 4 fun v => ⟨M, R, v, f, 0, 0⟩
  else if k = 12 ∨ k = 13 then ok R (if hd o f then w32 (nx + m) else nx) f
  else if k = 14 then stO M R pc f sp 4 (R s) fun M' => ⟨M', upd R 7 sp, nx, f, 0, 0⟩
  else if k = 15 then ldO M R pc f (R 7) 4 fun v => ⟨M, upd (upd R 7 up) d v, nx, f, 0, 0⟩
  else if k = 16 then ok (upd R d m) nx f
  else if k = 17 then ok (upd R d (w32 (R d + 1))) nx (fl 11 (R d) 0 f)
  else if k = 18 then ok (upd R d (w32 (R d - 1))) nx (fl 12 (R d) 0 f)
  else if k = 19 then ok (upd R d (w32 (- R d))) nx (fl 3 0 (R d) f)
  else if k = 20 then ok (upd R d (4294967295 - R d)) nx f
  else if k = 21 then ok (upd R d (if hd o f then 1 else 0)) nx f
  else if k = 22 then ok (upd R d (R s)) nx f
  else if k = 23 then ok (upd R d q) nx f
  else if k = 24 then ldO M R pc f q 4 fun v => stO M R pc f q 4 (R d) fun M' => ⟨M', upd R d v, nx, f, 0, 0⟩
  else if k = 25 then ldO M R pc f q 4 fun v => stO M R pc f q 4 (w32 (v + R d)) fun M' => ⟨M', upd R d v, nx, fl 1 v (R d) f, 0, 0⟩
  else if k = 26 then ldO M R pc f q 4 fun v => if R 0 = v then stO M R pc f q 4 (R d) fun M' => ⟨M', R, nx, fl 3 (R 0) v f, 0, 0⟩ else stO M R pc f q 4 v fun M' => ⟨M', upd R 0 v, nx, fl 3 (R 0) v f, 0, 0⟩
  else if k = 27 then (if rko o (R s) then ok (upd R d (rkv o (R d) (R s) f)) nx (rkf o (R d) (R s) f) else ⟨M, R, pc, f, 7, 0⟩)
  else if k = 28 ∨ k = 29 then (if rko o m then ok (upd R d (rkv o (R d) m f)) nx (rkf o (R d) m f) else ⟨M, R, pc, f, 7, 0⟩)
  else if k = 30 then ldO M R pc f q (ldN o) fun v => ⟨M, upd R d (widen o v), nx, f, 0, 0⟩
  else stO M R pc f q (stN o) (R d) fun M' => ⟨M', R, nx, f, 0, 0⟩
/-- what is left of an instruction under way -/
def AtQ (A p : Nat) (pc : Int) (o : Out) (w w' : World) : Prop :=
  ∃ (R' : Nat → Int) (f' nx' : Int), AtB A p R' pc f' nx' o.k o.x w' ∧ HC p o.M w' ∧ Upto (AS A p) w w' ∧ ((o.k = 0 ∨ o.k = 1) → R' = o.R ∧ f' = o.f ∧ nx' = o.pc)
theorem AtQ.ok {A p : Nat} {pc : Int} {M : MM} {R : Nat → Int} {f nx k x : Int} {w w' : World} (h : AtB A p R pc f nx k x w') (hm : HC p M w') (u : Upto (AS A p) w w') : AtQ A p pc ⟨M, R, nx, f, k, x⟩ w w' := ⟨R, f, nx, h, hm, u, fun _ => ⟨rfl, rfl, rfl⟩⟩
theorem AtQ.stop {A p : Nat} {pc pc' : Int} {M : MM} {R R' : Nat → Int} {f f' nx k x : Int} {w w' : World} (h : AtB A p R pc f nx k x w') (hm : HC p M w') (u : Upto (AS A p) w w') (hk : 2 ≤ k) : AtQ A p pc ⟨M, R', pc', f', k, x⟩ w w' :=
  ⟨R, f, nx, h, hm, u, fun h => by
    have h' : k = 0 ∨ k = 1 := h
    omega⟩
theorem sto_some {M : MM} {q n v x : Int} (h : sto M q n = some x) : stm M q n v = M := by
  unfold sto at h
  unfold stm
  split at h
  · next hn => rw [if_pos hn, h]; rfl
  · cases h
end Go.Proofs.Ytcjcmnnhmajocab.St
namespace Go.Proofs.Ytcjcmnnhmajocab.St
open Go.RowKit Kt Me Fl
set_option linter.unusedVariables false
set_option linter.unusedSimpArgs false
variable {A p : Nat} {R : Nat → Int} {pc f nx k x : Int} {W W' : World}
set_option maxRecDepth 100000 in
set_option maxHeartbeats 2000000 in
theorem atpop (M : MM) (w : World) (h : AtB A p R pc f nx 0 x w) (hm : HC p M w) (hM : MOk M) (hR : ROk R) (hne : A ≠ p) :
    Calls Try.prog 135 #[.pointer (some ⟨A, 0, none⟩)] w fun e w' => e = .returned (.int .u32 (ldv M (R 7) 4)) ∧ AtB A p (upd R 7 (w32 (R 7 + 4))) pc f nx (stK 5 (srch M 1 (R 7) 4)) (stX (srch M 1 (R 7) 4)) w' ∧ HC p M w' ∧ Upto (AS A p) w w' := by
  have hr := hR 7
  have CS := Lib.hid (atload M (R 7) 4 w h hm hM hne hr.1 hr.2 (by omega))
  have c8 := h.r 7 (by omega)
  obtain ⟨y, hy⟩ : ∃ y, R 7 = y := ⟨_, rfl⟩
  have ey : (y + 4) % 4294967296 = w32 (R 7 + 4) := by rw [hy]; rfl
  rw [hy] at c8 hr ⊢
  rw [hy] at CS ey
  have HY := Lib.hid hy
  have eyy : ∀ v, upd R 7 v 7 = v := fun v => by simp [upd]
  have hq := w32_bd (y + 4)
  have e4 : (4 : Int).toNat = 4 := rfl
  rw [e4] at CS
  generalize stK 5 (srch M 1 y 4) = k1 at CS ⊢
  generalize stX (srch M 1 y 4) = x1 at CS ⊢
  generalize ldv M y 4 = v at CS ⊢
  generalize w32 (y + 4) = q at ey hq ⊢
  have lA := h.l
  obtain ⟨y0, y1⟩ := hr
  clear h hm hM hy
  go_enter Try.func135, Try.ntmps135
  go_wp2_with (go_at_call 130; (with_reducible refine CS.out.mono ?_); rintro e w1 ⟨rfl, h1, m1, u1⟩; have d8 := h1.r 7 (by omega); have y8 := h1.z 8; have H1 := Lib.hid h1; have M1' := Lib.hid m1; have U1 := Lib.hid u1; have l1 := h1.l; clear h1 m1 u1)
  rw [HY.out] at d8
  go_region
  go_wp2
  go_ret
  exact ⟨rfl, (H1.out.setR 7 (by omega) q).drew, (HC.upto M1'.out ((Upto.refl (fun i => i = A) _).setCell (q := ⟨A, 8, none⟩) (.inl rfl) (.int .u32 q)) (fun h => hne h.symm)).drew, ((U1.out.mono (T := AS A p) (fun _ _ h => .inl h)).setCell (q := ⟨A, 8, none⟩) (.inl (.inl rfl)) _).drew⟩
set_option maxRecDepth 100000 in
set_option maxHeartbeats 2000000 in
theorem atreckon (o : Int) (d : Nat) (hd : d < 8) (b : Int) (w : World) (h : AtB A p R pc f nx 0 x w) (hR : ROk R) (f0 : 0 ≤ f) (f1 : f < 16) (b0 : 0 ≤ b) (b1 : b < 4294967296) :
    Calls Try.prog 128 #[.pointer (some ⟨A, 0, none⟩), .int .i64 o, .int .i64 d, .int .u32 b] w fun e w' => e = .returned (.tuple #[]) ∧ Upto (fun i => i = A) w w' ∧
      (rko o b = true → AtB A p (upd R d (rkv o (R d) b f)) pc (rkf o (R d) b f) nx 0 x w') ∧ (rko o b = false → AtB A p R pc f nx 7 0 w') := by
  have hr := hR d
  have CR := Lib.hid (fun w => reckon_any o (R d) b f w hr.1 hr.2 b0 b1 f0 (by omega))
  have cd := h.r d hd
  have c10 := h.c10
  have zd := h.z (1 + d)
  have z10 := h.z 10
  have c12 := h.c12
  have c13 := h.c13
  have z12 := h.z 12
  have z13 := h.z 13
  have lA := h.l
  have HA := Lib.hid h
  generalize R d = y at cd CR hr ⊢
  generalize rkv o y b f = v at CR ⊢
  generalize rkf o y b f = g at CR ⊢
  obtain ⟨y0, y1⟩ := hr
  clear h
  have hd0 : (0 : Int) ≤ (d : Int) := by omega
  have hd1 : (d : Int) < 8 := by omega
  cases hb : rko o b
  · rw [hb] at CR
    go_enter Try.func128, Try.ntmps128
    go_wp2_with fail
    go_region_held3 (fun W => W.cell? ⟨A, 1 + d, none⟩ = some (.int .u32 y) ∧ W.cell? ⟨A, 10, none⟩ = some (.int .u32 f)) (first | exact ⟨cd, c10⟩ | exact ⟨dd, d10⟩)
      ((go_at_call 187; (with_reducible refine (CR.out _).mono ?_); rintro e w1 ⟨rfl, hb1⟩; have dd := (hb1.cell (p := ⟨A, 1 + d, none⟩) lA).trans cd; have d10 := (hb1.cell (p := ⟨A, 10, none⟩) lA).trans c10; have B1 := Lib.hid hb1; clear hb1))
    have d12 := (B1.out.cell (p := ⟨A, 12, none⟩) lA).trans c12
    have d13 := (B1.out.cell (p := ⟨A, 13, none⟩) lA).trans c13
    have y12 := (B1.out.frozen (p := ⟨A, 12, none⟩) lA).trans z12
    have y13 := (B1.out.frozen (p := ⟨A, 13, none⟩) lA).trans z13
    have l1 := Nat.lt_of_lt_of_le lA B1.out.size
    go_wp2
    refine bodyPost_ret (results_none rfl _ _ _) rfl ?_
    refine ⟨rfl, ((((Upto.refl (fun i => i = A) w).drew).trans (Upto.of_below (S := fun i => i = A) B1.out)).setCell (q := ⟨A, 12, none⟩) (.inl rfl) _).setCell (q := ⟨A, 13, none⟩) (.inl rfl) _, fun h => (Bool.noConfusion h), fun _ => ((HA.out.drew.upto (Upto.of_below (S := fun _ => False) B1.out) id).setK 7 |>.setX 0)⟩
  · rw [hb] at CR
    go_enter Try.func128, Try.ntmps128
    go_wp2_with fail
    go_region_held3 (fun W => W.cell? ⟨A, 1 + d, none⟩ = some (.int .u32 y) ∧ W.cell? ⟨A, 10, none⟩ = some (.int .u32 f)) (first | exact ⟨cd, c10⟩ | exact ⟨dd, d10⟩)
      ((go_at_call 187; (with_reducible refine (CR.out _).mono ?_); rintro e w1 ⟨rfl, hb1⟩; have dd := (hb1.cell (p := ⟨A, 1 + d, none⟩) lA).trans cd; have d10 := (hb1.cell (p := ⟨A, 10, none⟩) lA).trans c10; have B1 := Lib.hid hb1; clear hb1))
    have yd := (B1.out.frozen (p := ⟨A, 1 + d, none⟩) lA).trans zd
    have y10 := (B1.out.frozen (p := ⟨A, 10, none⟩) lA).trans z10
    have l1 := Nat.lt_of_lt_of_le lA B1.out.size
    go_wp2
    go_end0
    refine ⟨rfl, ((((Upto.refl (fun i => i = A) w).drew).trans (Upto.of_below (S := fun i => i = A) B1.out)).setCell (q := ⟨A, 1 + d, none⟩) (.inl rfl) _).setCell (q := ⟨A, 10, none⟩) (.inl rfl) _, fun _ => ((HA.out.drew.upto (Upto.of_below (S := fun _ => False) B1.out) id).setR d hd v |>.setF g), fun h => (Bool.noConfusion h)⟩
end Go.Proofs.Ytcjcmnnhmajocab.St
namespace Go.Proofs.Ytcjcmnnhmajocab.St
open Go.RowKit Kt Me Fl
set_option linter.unusedVariables false
set_option linter.unusedSimpArgs false
theorem ret_u {a b : Int} (h : a = b) : Ending.returned (.int .u32 a) = .returned (.int .u32 b) := by rw [h]
theorem wrap_i8' (n : Int) : IntKind.i8.wrap n = (n + 128) % 256 - 128 := by
  have h1 : IntKind.i8.bits = 8 := rfl
  have h2 : IntKind.i8.signed = true := rfl
  simp only [IntKind.wrap, h1, h2, Bool.true_and]
  split
  · rename_i h
    simp at h
    omega
  · rename_i h
    simp at h
    omega
theorem wrap_i16' (n : Int) : IntKind.i16.wrap n = (n + 32768) % 65536 - 32768 := by
  have h1 : IntKind.i16.bits = 16 := rfl
  have h2 : IntKind.i16.signed = true := rfl
  simp only [IntKind.wrap, h1, h2, Bool.true_and]
  split
  · rename_i h
    simp at h
    omega
  · rename_i h
    simp at h
    omega
set_option maxRecDepth 100000 in
set_option maxHeartbeats 2000000 in
theorem loads_any (o : Int) (w : World) (o0 : 0 ≤ o) (o1 : o < 5) : Calls Try.prog 131 #[.int .i64 o] w fun e w' => e = .returned (.int .i64 (ldN o)) ∧ w = w' := by
  rcases (show o = 0 ∨ o = 1 ∨ o = 2 ∨ o = 3 ∨ o = 4 by omega) with rfl | rfl | rfl | rfl | rfl
  all_goals
    go_enter Try.func131, Try.ntmps131
    go_wp2_with fail
  · change Oper.upon _ _ _ _ _ (.ok (.value (.int .i64 1)) _); go_wp2; go_ret; exact ⟨rfl, rfl⟩
  · change Oper.upon _ _ _ _ _ (.ok (.value (.int .i64 1)) _); go_wp2; go_ret; exact ⟨rfl, rfl⟩
  · change Oper.upon _ _ _ _ _ (.ok (.value (.int .i64 2)) _); go_wp2; go_ret; exact ⟨rfl, rfl⟩
  · change Oper.upon _ _ _ _ _ (.ok (.value (.int .i64 2)) _); go_wp2; go_ret; exact ⟨rfl, rfl⟩
  · change Oper.upon _ _ _ _ _ (.ok (.value (.int .i64 4)) _); go_wp2; go_ret; exact ⟨rfl, rfl⟩
set_option maxRecDepth 100000 in
set_option maxHeartbeats 2000000 in
theorem stores_any (o : Int) (w : World) (o0 : 0 ≤ o) (o1 : o < 3) : Calls Try.prog 133 #[.int .i64 o] w fun e w' => e = .returned (.int .i64 (stN o)) ∧ w = w' := by
  rcases (show o = 0 ∨ o = 1 ∨ o = 2 by omega) with rfl | rfl | rfl
  all_goals
    go_enter Try.func133, Try.ntmps133
    go_wp2_with fail
  · change Oper.upon _ _ _ _ _ (.ok (.value (.int .i64 1)) _); go_wp2; go_ret; exact ⟨rfl, rfl⟩
  · change Oper.upon _ _ _ _ _ (.ok (.value (.int .i64 2)) _); go_wp2; go_ret; exact ⟨rfl, rfl⟩
  · change Oper.upon _ _ _ _ _ (.ok (.value (.int .i64 4)) _); go_wp2; go_ret; exact ⟨rfl, rfl⟩
set_option maxRecDepth 100000 in
set_option maxHeartbeats 2000000 in
theorem widen_any (o v : Int) (w : World) (v0 : 0 ≤ v) (v1 : v < 4294967296) : Calls Try.prog 129 #[.int .i64 o, .int .u32 v] w fun e w' => e = .returned (.int .u32 (widen o v)) ∧ w = w' := by
  by_cases h1 : o = 1
  · subst h1
    go_enter Try.func129, Try.ntmps129
    go_wp2_with fail
    go_ret
    refine ⟨ret_u ?_, rfl⟩
    rw [wrap_i8']
    unfold wrap32 widen
    rw [if_pos rfl]
    split <;> omega
  · by_cases h3 : o = 3
    · subst h3
      go_enter Try.func129, Try.ntmps129
      go_wp2_with fail
      go_ret
      refine ⟨ret_u ?_, rfl⟩
      rw [wrap_i16']
      unfold wrap32 widen
      rw [if_neg (by omega), if_pos rfl]
      split <;> omega
    · have b1 : (o == 1) = false := by rw [beq_eq_false_iff_ne]; exact h1
      have b3 : (o == 3) = false := by rw [beq_eq_false_iff_ne]; exact h3
      go_enter Try.func129, Try.ntmps129
      go_wp2_with fail
      go_ret
      unfold widen
      rw [if_neg h1, if_neg h3]
      exact ⟨rfl, rfl⟩
theorem not32 (x : Int) (h0 : 0 ≤ x) (g0 : x < 4294967296) : bits .xor .u32 IntKind.u32.max x = 4294967295 - x := by
  obtain ⟨a, rfl⟩ := Int.eq_ofNat_of_zero_le h0
  have ha : a < 4294967296 := by omega
  have hm : IntKind.u32.max = ((4294967295 : Nat) : Int) := by simp [IntKind.max, IntKind.signed, IntKind.bits]
  have hx : 4294967295 ^^^ a = 4294967295 - a := by
    apply Nat.eq_of_testBit_eq
    intro i
    rw [Nat.testBit_xor, show 4294967295 - a = 2 ^ 32 - (a + 1) by omega, Nat.testBit_two_pow_sub_succ (by omega) i, show (4294967295 : Nat) = 2 ^ 32 - 1 by decide, Nat.testBit_two_pow_sub_one]
    by_cases h : i < 32
    · simp [h]
    · have hz : a.testBit i = false := Nat.testBit_lt_two_pow (Nat.lt_of_lt_of_le (show a < 2 ^ 32 by omega) (Nat.pow_le_pow_right (by omega) (by omega)))
      simp [h, hz]
  rw [hm, u32_xor_nat _ _ (by omega) ha, hx]
  omega
def insL (k : Int) (d s : Nat) (o m : Int) : Value := .agg #[.int .i64 k, .int .i64 d, .int .i64 s, .int .i64 o, .int .u32 m]
theorem box_at (w : World) (cs : Array Value) (t : TypeId) (i : Nat) : (w.alloc (.cells cs t)).cell? ⟨w.heap.size, i, none⟩ = cs[i]? := cell_of_row _ _ _ _ _ _ (heap_alloc_new w (.cells cs t))
end Go.Proofs.Ytcjcmnnhmajocab.St
