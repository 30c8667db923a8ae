/- (*ref2.Memory).Ins: the instruction at a place. -/
import Derived.Test.YtcjcmnnhmajocabGreatPlbn
set_option linter.unusedVariables false
set_option linter.unusedSimpArgs false
set_option maxRecDepth 100000
set_option maxHeartbeats 16000000
namespace Go.Proofs.YtcjcmnnhmajocabGreat.Lf
open Go.RowKit Kt Ic Me Gu St
theorem gw_if {c : Prop} [Decidable c] {n : Nat} {s a b : Lk} (h : Gw n s a) (k : Gw n s b) : Gw n s (if c then a else b) := by
 split
 ·exact h
 ·exact k
theorem gw_if2 {c : Prop} [Decidable c] {n : Nat} {s : Lk} {a b : Bool × Lk} (h : Gw n s a.2) (k : Gw n s b.2) : Gw n s (if c then a else b).2 := by
 split
 ·exact h
 ·exact k
theorem plain_gw2 (s : Lk) (o f m : Int) (d r : Nat) : Gw 60 s (s.plain o d r f m).2 := by
 unfold Lk.plain
 dsimp only
 repeat' with_reducible refine gw_if2 ?_ ?_
 ·exact (Gw.refl s).mono (by omega)
 ·exact ((K_gw s _).trans (set_gw _ _ _)).mono (by omega)
 ·exact (((((get_gw s _).trans (now_gw _)).trans (add_gw _ _ _)).trans (set_gw _ _ _)).trans (flag_gw _ _ _ _ _)).mono (by omega)
 ·exact (((((get_gw s d).trans (K_gw _ 0)).trans (U_gw _ 1 (s.get d).1)).trans (set_gw _ d _)).trans (flag_gw _ 3 _ _ (-1))).mono (show 1 + 1 + 1 + 1 + 5 ≤ 60 by omega)
 ·exact (((get_gw s _).trans (U_gw _ _ _)).trans (set_gw _ _ _)).mono (by omega)
 ·exact ((holds_gw s _).trans (set_gw _ _ _)).mono (by omega)
 ·exact ((get_gw s _).trans (set_gw _ _ _)).mono (by omega)
 ·exact ((whr_gw s _ _).trans (set_gw _ _ _)).mono (by omega)
 ·exact ((get_gw s _).trans (alu_gw _ _ _ _)).mono (by omega)
 ·exact ((K_gw s _).trans (alu_gw _ _ _ _)).mono (by omega)
 ·exact (((whr_gw s _ _).trans (load_gw _ _ _)).trans (set_gw _ _ _)).mono (by omega)
 ·exact ((((whr_gw s _ _).trans (get_gw _ _)).trans (store_gw _ _ _ _)).trans (watch_gw _)).mono (by omega)
 ·exact ((both_gw s _ _ _ _).trans (watch_gw _)).mono (by omega)
 ·exact (Gw.refl s).mono (by omega)
theorem moves_gw2 (s : Lk) (o f m : Int) (d r : Nat) : Gw 60 s (s.moves o d r f m) := by
 unfold Lk.moves
 dsimp only
 repeat' with_reducible refine gw_if ?_ ?_
 ·exact (put_gw s _).mono (by omega)
 ·exact (put_gw s _).mono (by omega)
 ·exact (put_gw s _).mono (by omega)
 ·exact (((holds_gw s _).trans (put_gw _ _)).trans (put_gw _ _)).mono (by omega)
 ·exact ((get_gw s _).trans (put_gw _ _)).mono (by omega)
 ·exact (((whr_gw s _ _).trans (load_gw _ _ _)).trans (put_gw _ _)).mono (by omega)
 ·exact (((K_gw s _).trans (push_gw _ _)).trans (put_gw _ _)).mono (by omega)
 ·exact ((((get_gw s _).trans (K_gw _ _)).trans (push_gw _ _)).trans (put_gw _ _)).mono (by omega)
 ·exact ((pop_gw s).trans (put_gw _ _)).mono (by omega)
 ·exact (((get_gw s _).trans (push_gw _ _)).trans (watch_gw _)).mono (by omega)
 ·exact ((pop_gw s).trans (set_gw _ _ _)).mono (by omega)
 ·exact (((now_gw s).trans (push_gw _ _)).trans (watch_gw _)).mono (by omega)
 ·exact ((((pop_gw s).trans (K_gw _ _)).trans (B_gw _ _ _ _)).trans (flag_gw _ _ _ _ _)).mono (by omega)
 ·exact (Gw.refl s).mono (by omega)
theorem one_gw (s : Lk) (o f m : Int) (d r : Nat) : Gw 60 s (s.one o d r f m) := by
 unfold Lk.one
 split
 ·exact plain_gw2 s o f m d r
 ·exact moves_gw2 s o f m d r
/-- an instruction's numbers -/
structure IzR (M : MM) (pc : Int) : Prop where
 o : 0 ≤ iz M pc 0 ∧ iz M pc 0 < 32
 d : 0 ≤ iz M pc 1 ∧ iz M pc 1 < 8
 s : 0 ≤ iz M pc 2 ∧ iz M pc 2 < 8
 f : 0 ≤ iz M pc 3 ∧ iz M pc 3 < 16
 m : 0 ≤ iz M pc 4 ∧ iz M pc 4 < 4294967296
 n : 0 ≤ iz M pc 5 ∧ iz M pc 5 < 8
theorem ik_z {M : MM} {pc : Int} (h : (ik M pc).1 = 0) : dz (decv (usI M pc)) 6 = 0 := by
 unfold ik at h
 cases e1 : fetS M pc 1 with
 | some x => rw [e1] at h; exact absurd h (by show ¬ ((4 : Int) = 0); decide)
 | none =>
  rw [e1] at h
  dsimp only at h
  cases e2 : fetS M pc (szI M pc) with
  | some x => rw [e2] at h; exact absurd h (by show ¬ ((4 : Int) = 0); decide)
  | none =>
   rw [e2] at h
   dsimp only at h
   by_cases hz : dz (decv (usI M pc)) 6 = 0
   ·exact hz
   ·rw [if_neg hz] at h; exact absurd h (by show ¬ ((3 : Int) = 0); decide)
theorem iz_rng (M : MM) (hM : MOk M) (pc : Int) : IzR M pc := by
 by_cases h : (ik M pc).1 = 0
 ·have R := decv_rng (usI M pc) (fun j => fetL_rg hM _ _ j) (ik_z h)
  have e : ∀ i, iz M pc i = dz (decv (usI M pc)) i := fun i => by unfold iz; rw [if_pos h]
  exact ⟨by rw [e]; exact R.o, by rw [e]; exact R.d, by rw [e]; exact R.s, by rw [e]; exact R.f, by rw [e]; exact R.m, by rw [e]; exact R.n⟩
 ·have e : ∀ i, iz M pc i = 0 := fun i => by unfold iz; rw [if_neg h]
  exact ⟨by rw [e]; decide, by rw [e]; decide, by rw [e]; decide, by rw [e]; decide, by rw [e]; decide, by rw [e]; decide⟩
/-- rights and watched pages stay; what lies in a watched page, until it is told -/
structure Kp (M M' : MM) : Prop where
 r : M'.rt = M.rt
 w : M'.wd = M.wd
 h : ∀ p, M.hi p = true → M'.hi p = true
 b : ∀ j, M.wd (j / 256) = true → M'.hi (j / 256) = false → M'.by_ j = M.by_ j
theorem Kp.refl (M : MM) : Kp M M := ⟨rfl, rfl, fun _ h => h, fun _ _ _ => rfl⟩
theorem Kp.trans {A B C : MM} (h : Kp A B) (k : Kp B C) : Kp A C :=
 ⟨k.r.trans h.r, k.w.trans h.w, fun p hp => k.h p (h.h p hp), fun j hw hh => by
  have h1 : B.hi (j / 256) = false := by
   cases e : B.hi (j / 256) with
   | false => rfl
   | true => rw [k.h _ e] at hh; exact absurd hh (by decide)
  exact (k.b j (by rw [h.w]; exact hw) hh).trans (h.b j hw h1)⟩
theorem ik_none {M : MM} {pc : Int} (h : (ik M pc).1 = 0) : fetS M pc 1 = none ∧ fetS M pc (szI M pc) = none := by
 unfold ik at h
 cases e1 : fetS M pc 1 with
 | some x => rw [e1] at h; exact absurd h (by show ¬ ((4 : Int) = 0); decide)
 | none =>
  rw [e1] at h
  dsimp only at h
  cases e2 : fetS M pc (szI M pc) with
  | some x => rw [e2] at h; exact absurd h (by show ¬ ((4 : Int) = 0); decide)
  | none => exact ⟨rfl, rfl⟩
theorem iz_dz {M : MM} {pc : Int} (h : (ik M pc).1 = 0) (i : Nat) : iz M pc i = dz (decv (usI M pc)) i := by unfold iz; rw [if_pos h]
theorem sz_6 (s : Int) : 0 ≤ shSize s ∧ shSize s ≤ 6 := by
 unfold shSize
 split <;> decide
theorem szI_bd (M : MM) (pc : Int) : 0 ≤ szI M pc ∧ szI M pc ≤ 6 := sz_6 _
theorem rdB_0 (M : MM) (a : Nat) {n : Nat} (h : 0 < n) : (rdB M a n).getD 0 0 = M.by_ a := by
 obtain ⟨m, rfl⟩ : ∃ m, n = m + 1 := ⟨n - 1, by omega⟩
 unfold rdB
 rw [List.range_succ_eq_map]
 rfl
theorem fetL_at {M : MM} {pc n : Int} (hn : 0 ≤ n ∧ n ≤ 8) (h : fetS M pc n = none) : fetL M pc n = rdB M pc.toNat n.toNat := by
 unfold fetS at h
 unfold fetL
 rw [if_pos hn] at h ⊢
 rw [h]; rfl
theorem dz_fin {r : Rw} {d s f : Int} {a : Nat → Int} (h : dz (Gu.fin r d s f a) 6 = 0) : dz (Gu.fin r d s f a) 5 = shSize r.sh := by
 unfold Gu.fin at h ⊢
 by_cases hk : oD r.sh d a < 8 ∧ oS r.sh s a < 8
 ·rw [if_pos hk]; rfl
 ·rw [if_neg hk] at h; exact absurd h (by decide)
theorem iz_5 {M : MM} {pc : Int} (h : (ik M pc).1 = 0) : iz M pc 5 = szI M pc ∧ 0 < szI M pc := by
 obtain ⟨h1, h2⟩ := ik_none h
 have hz := ik_z h
 rw [iz_dz h]
 have hb := szI_bd M pc
 have e1 := fetL_at (n := 1) (by decide) h1
 have e2 := fetL_at (n := szI M pc) (by omega) h2
 have hsz : szI M pc = shSize (rowOf (M.by_ pc.toNat)).sh := by
  unfold szI
  rw [e1, rdB_0 _ _ (by decide)]
 have hu : usI M pc = rdB M pc.toNat (szI M pc).toNat := e2
 unfold decv at hz ⊢
 by_cases c1 : (usI M pc).length = 0
 ·rw [if_pos c1] at hz; exact absurd hz (by decide)
 rw [if_neg c1] at hz ⊢
 have hp : 0 < szI M pc := by
  rcases Int.lt_or_le 0 (szI M pc) with e | e
  ·exact e
  ·exfalso
   apply c1
   rw [hu, show (szI M pc).toNat = 0 by omega]; rfl
 have hu0 : (usI M pc).getD 0 0 = M.by_ pc.toNat := by rw [hu, rdB_0 _ _ (by omega)]
 by_cases c2 : shSize (rowOf ((usI M pc).getD 0 0)).sh = 0
 ·rw [if_pos c2] at hz; exact absurd hz (by decide)
 rw [if_neg c2] at hz ⊢
 by_cases c3 : ((usI M pc).length : Int) < shSize (rowOf ((usI M pc).getD 0 0)).sh
 ·rw [if_pos c3] at hz; exact absurd hz (by decide)
 rw [if_neg c3] at hz ⊢
 refine ⟨?_, hp⟩
 rw [dz_fin hz, hu0, hsz]
theorem iz_6 (M : MM) (pc : Int) : 0 ≤ iz M pc 5 ∧ iz M pc 5 ≤ 6 := by
 by_cases h : (ik M pc).1 = 0
 ·rw [(iz_5 h).1]; exact szI_bd M pc
 ·unfold iz; rw [if_neg h]; decide
theorem iz_ls {M : MM} (hM : MOk M) (pc : Int) : (iz M pc 0 = 30 → iz M pc 3 < 5) ∧ (iz M pc 0 = 31 → iz M pc 3 < 3) := by
 by_cases h : (ik M pc).1 = 0
 ·have R := decv_rng (usI M pc) (fun j => fetL_rg hM _ _ j) (ik_z h)
  rw [iz_dz h, iz_dz h]; exact ⟨R.ld, R.st⟩
 ·unfold iz; rw [if_neg h, if_neg h]; decide
open Ev
open St (szI)
open Ot (OkR GV Pre AtAll opAt_app_l opAt_app_r)
variable {s s' a b : Lk}
theorem Px.carr (s : Lk) (o : Int) (d : Nat) (x y : Int) : Px s (s.carr o d x y) := by
 unfold Lk.carr
 exact (Px.flag _ _ _ _ _).to <| (Px.set _ _ _).to <| (Px.B _ _ _ _).to <| (Px.B _ _ _ _).to <| (Px.B _ _ _ _).to <| (Px.K _ _).to <| (Px.B _ _ _ _).to <| (Px.K _ _).to <| Px.now s
theorem Px.alu (s : Lk) (o : Int) (d : Nat) (y : Int) : Px s (s.alu o d y) := by
 unfold Lk.alu
 refine Px.if_ ((Px.carr _ _ _ _ _).to (Px.get s d)) ?_
 refine (Px.flag _ _ _ _ _).to ?_
 have h1 : Px s (if o = 14 ∨ o = 15 then (((s.get d).2.U 6 y).2.put ⟨13, 7, ((s.get d).2.U 6 y).1, 0, 0, s.pc, s.cnt - 1⟩) else (s.get d).2) := Px.if_ ((Px.put _ _).to ((Px.U _ _ _).to (Px.get s d))) (Px.get s d)
 dsimp only
 generalize (if o = 14 ∨ o = 15 then (((s.get d).2.U 6 y).2.put ⟨13, 7, ((s.get d).2.U 6 y).1, 0, 0, s.pc, s.cnt - 1⟩) else (s.get d).2) = s1 at h1 ⊢
 have h2 : Px s (if 6 ≤ (way o).2 ∧ (way o).2 ≤ 9 then s1.now else (-1, s1)).2 := Px.if2 ((Px.now _).to h1) h1
 generalize (if 6 ≤ (way o).2 ∧ (way o).2 ≤ 9 then s1.now else (-1, s1)) = s2 at h2 ⊢
 have h3 : Px s (if o ≠ 7 then s2.2.B (way o).1 (s.get d).1 y else (0, s2.2)).2 := Px.if2 ((Px.B _ _ _ _).to h2) h2
 generalize (if o ≠ 7 then s2.2.B (way o).1 (s.get d).1 y else (0, s2.2)) = v at h3 ⊢
 exact Px.if_ ((Px.set _ _ _).to h3) h3
theorem Px.both (s : Lk) (o : Int) (d r : Nat) (m : Int) : Px s (s.both o d r m) := by
 unfold Lk.both
 have h1 : Px s (((s.whr r m).2.get d).2.load 4 (s.whr r m).1).2 := (Px.load _ _ _).to ((Px.get _ _).to (Px.whr s r m))
 refine Px.if_ ((Px.set _ _ _).to ((Px.store _ _ _ _).to h1)) (Px.if_ ?_ ?_)
 ·exact (Px.flag _ _ _ _ _).to ((Px.set _ _ _).to ((Px.store _ _ _ _).to ((Px.B _ _ _ _).to h1)))
 ·exact (Px.flag _ _ _ _ _).to ((Px.set _ _ _).to ((Px.store _ _ _ _).to ((Px.S _ _ _ _).to ((Px.B _ _ _ _).to ((Px.get _ _).to h1)))))
theorem Px.plain (s : Lk) (o : Int) (d r : Nat) (f m : Int) : Px s (s.plain o d r f m).2 := by
 unfold Lk.plain
 refine Px.if2 ?_ <| Px.if2 ?_ <| Px.if2 ?_ <| Px.if2 ?_ <| Px.if2 ?_ <| Px.if2 ?_ <| Px.if2 ?_ <| Px.if2 ?_ <| Px.if2 ?_ <| Px.if2 ?_ <| Px.if2 ?_ <| Px.if2 ?_ <| Px.if2 ?_ ?_
 ·exact Px.refl s
 ·exact (Px.set _ _ _).to (Px.K s _)
 ·exact (Px.flag _ _ _ _ _).to ((Px.set _ _ _).to ((Px.add _ _ _).to ((Px.now _).to (Px.get s d))))
 ·dsimp only
  exact (Px.flag _ _ _ _ _).to ((Px.set _ _ _).to ((Px.U _ _ _).to ((Px.K _ _).to (Px.get s d))))
 ·exact (Px.set _ _ _).to ((Px.U _ _ _).to (Px.get s d))
 ·exact (Px.set _ _ _).to (Px.holds s f)
 ·exact (Px.set _ _ _).to (Px.get s r)
 ·exact (Px.set _ _ _).to (Px.whr s r m)
 ·exact (Px.alu _ _ _ _).to (Px.get s r)
 ·exact (Px.alu _ _ _ _).to (Px.K s m)
 ·exact (Px.set _ _ _).to ((Px.load _ _ _).to (Px.whr s r m))
 ·exact (Px.watch _).to ((Px.store _ _ _ _).to ((Px.get _ _).to (Px.whr s r m)))
 ·exact (Px.watch _).to (Px.both s o d r m)
 ·exact Px.refl s
theorem Px.moves (s : Lk) (o : Int) (d r : Nat) (f m : Int) : Px s (s.moves o d r f m) := by
 unfold Lk.moves
 refine Px.if_ ?_ <| Px.if_ ?_ <| Px.if_ ?_ <| Px.if_ ?_ <| Px.if_ ?_ <| Px.if_ ?_ <| Px.if_ ?_ <| Px.if_ ?_ <| Px.if_ ?_ <| Px.if_ ?_ <| Px.if_ ?_ <| Px.if_ ?_ <| Px.if_ ?_ ?_
 ·exact Px.put s _
 ·exact Px.put s _
 ·exact Px.goes s _
 ·exact (Px.goes _ _).to ((Px.put _ _).to (Px.holds s f))
 ·exact (Px.goesTo _ _).to (Px.get s r)
 ·exact (Px.goesTo _ _).to ((Px.load _ _ _).to (Px.whr s r m))
 ·exact (Px.goes _ _).to ((Px.push _ _).to (Px.K s _))
 ·exact (Px.goesTo _ _).to ((Px.push _ _).to ((Px.K _ _).to (Px.get s r)))
 ·exact (Px.goesTo _ _).to (Px.pop s)
 ·exact (Px.watch _).to ((Px.push _ _).to (Px.get s r))
 ·exact (Px.set _ _ _).to (Px.pop s)
 ·exact (Px.watch _).to ((Px.push _ _).to (Px.now s))
 ·exact (Px.flag _ _ _ _ _).to ((Px.B _ _ _ _).to ((Px.K _ _).to (Px.pop s)))
 ·exact Px.refl s
theorem Px.one (s : Lk) (o : Int) (d r : Nat) (f m : Int) : Px s (s.one o d r f m) := Px.if_ (Px.plain s o d r f m) (Px.moves s o d r f m)
/-- as an instruction begins -/
def Lk.beg (s : Lk) (M : MM) : Lk := { s with nx := w32 (s.pc + iz M s.pc 5), cnt := s.cnt + 1, byt := s.byt + iz M s.pc 5 }
structure Nx (M : MM) (s t : Lk) : Prop where
 cnt : t.cnt = s.cnt + 1
 byt : t.byt = s.byt + iz M s.pc 5
 bpc : t.bpc = s.bpc
 pc : t.pc = w32 (s.pc + iz M s.pc 5)
 o : ∃ l, t.ops = s.ops ++ l
theorem nxt_nx (M : MM) (s : Lk) : Nx M s (s.nxt M) := by
 have g := one_gw (s.beg M) (iz M s.pc 0) (iz M s.pc 3) (iz M s.pc 4) (iz M s.pc 1).toNat (iz M s.pc 2).toNat
 have p := Px.one (s.beg M) (iz M s.pc 0) (iz M s.pc 1).toNat (iz M s.pc 2).toNat (iz M s.pc 3) (iz M s.pc 4)
 exact ⟨g.cnt, g.by_, g.bp, g.nx, p.o⟩
/-- at an instruction's beginning -/
structure Bd (M : MM) (q : Int) (s : Lk) : Prop where
 p : Pre s.cnt s.ops
 r : ∀ j, j < 8 → GM s.ops (s.reg j)
 f : s.kn = true → (0 ≤ s.kd ∧ s.kd ≤ 12) ∧ GM s.ops s.fa ∧ GM s.ops s.fb ∧ GM s.ops s.fo ∧ (s.kd = 0 → GV s.ops s.fo)
 c : 0 ≤ s.cnt ∧ s.cnt ≤ 64
 y : 0 ≤ s.byt ∧ s.byt ≤ 6 * s.cnt
 b : s.pc = w32 (q + s.byt) ∧ s.bpc = q
 n : (s.ops.length : Int) ≤ 25 * s.cnt
theorem loc_mono {c c' : Int} {o : Opr} (h : Ot.Loc c o) (hc : c ≤ c') : Ot.Loc c' o := by
 refine ⟨h.r, ?_⟩
 have he := h.e
 unfold Ot.locB at he ⊢
 have e4 : e4 (rK o.k) (rN o.k) c' o.kn o.n = true → e4 (rK o.k) (rN o.k) c o.kn o.n = true := by
  unfold Ic.e4
  intro h
  simp only [Bool.or_eq_true, decide_eq_true_eq] at h ⊢
  rcases h with h | h | h | h
  ·exact .inl h
  ·exact .inr (.inl h)
  ·exact .inr (.inr (.inl h))
  ·exact .inr (.inr (.inr (by omega)))
 revert e4
 generalize Ic.e4 (rK o.k) (rN o.k) c' o.kn o.n = x at *
 generalize Ic.e4 (rK o.k) (rN o.k) c o.kn o.n = y at *
 intro e4
 cases y with
 | true => simp at he
 | false =>
  cases x with
  | true => exact absurd (e4 rfl) (by decide)
  | false => exact he
theorem pre_mono {c c' : Int} {ops : List Opr} (h : Pre c ops) (hc : c ≤ c') : Pre c' ops := ⟨⟨fun m hm => loc_mono (h.a.l m hm) hc, h.a.t⟩, h.f⟩
theorem Bd.beg {M : MM} {q : Int} (h : Bd M q s) (h64 : s.cnt < 64) : Gd (25 * s.cnt).toNat 0 (s.beg M) :=
 ⟨pre_mono h.p (by show s.cnt ≤ s.cnt + 1; omega), h.r, h.f, ⟨by show 1 ≤ s.cnt + 1; have := h.c; omega, by show s.cnt + 1 ≤ 64; omega⟩, ⟨by rw [show (s.beg M).pc = s.pc from rfl, h.b.1]; exact (w32_bd _).1, by rw [show (s.beg M).pc = s.pc from rfl, h.b.1]; exact (w32_bd _).2, (w32_bd _).1, (w32_bd _).2⟩,
  by show s.ops.length ≤ _; have := h.n; omega, by have := h.c; omega⟩
theorem w32_add (x y : Int) : w32 (w32 x + y) = w32 (x + y) := by unfold w32; omega
/-- a whole block -/
structure BF (q : Int) (t : Lk) : Prop where
 g : Ot.Good t.cnt t.ops
 y : 0 ≤ t.byt ∧ t.byt ≤ 384
 b : t.bpc = q
theorem Fn.bf {n : Nat} {q : Int} {t : Lk} (h : Fn n t) (hn : n ≤ 2000) (hc : 0 ≤ t.cnt ∧ t.cnt ≤ 64) (hy : 0 ≤ t.byt ∧ t.byt ≤ 384) (hb : t.bpc = q) : BF q t := ⟨⟨h.n0, by have := h.n; omega, hc, h.a, h.f⟩, hy, hb⟩
theorem nxt_bd {M : MM} (hM : MOk M) {q : Int} (h : Bd M q s) (h64 : s.cnt < 64) : (en (iz M s.pc 0) = false → Bd M q (s.nxt M)) ∧ (en (iz M s.pc 0) = true → BF q (s.nxt M)) := by
 have R := iz_rng M hM s.pc
 have L := iz_ls hM s.pc
 have n6 := iz_6 M s.pc
 have g := (h.beg h64 (M := M)).one (by decide) R.o (d := (iz M s.pc 1).toNat) (r := (iz M s.pc 2).toNat) (by have := R.d; omega) (by have := R.s; omega) R.f L.1 L.2 R.m
 have x := nxt_nx M s
 have hy := h.y
 have hc := h.c
 refine ⟨fun e => ?_, fun e => ?_⟩
 ·have g1 := g.go e
  refine ⟨?_, g1.r, g1.f, by rw [x.cnt]; omega, by rw [x.cnt, x.byt]; omega, ⟨by rw [x.pc, x.byt, h.b.1, w32_add, Int.add_assoc], x.bpc.trans h.b.2⟩, ?_⟩
  ·exact g1.p
  ·have := g1.n
   have l : (s.nxt M).ops.length ≤ (25 * s.cnt).toNat + (0 + 25) := this
   rw [x.cnt]; omega
 ·have g1 := g.fin e
  have g2 : Fn ((25 * s.cnt).toNat + (0 + 25)) (s.nxt M) := ⟨g1.a, g1.f, g1.n0, g1.n⟩
  exact g2.bf (by omega) (by rw [x.cnt]; omega) (by rw [x.byt]; omega) (x.bpc.trans h.b.2)
theorem Bd.gd {M : MM} {q : Int} (h : Bd M q s) (h1 : 1 ≤ s.cnt) : Gd (25 * s.cnt).toNat 0 { s with nx := 0 } :=
 ⟨h.p, h.r, h.f, ⟨h1, h.c.2⟩, ⟨by show 0 ≤ s.pc; rw [h.b.1]; exact (w32_bd _).1, by show s.pc < _; rw [h.b.1]; exact (w32_bd _).2, by show (0 : Int) ≤ 0; decide, by show (0 : Int) < 4294967296; decide⟩, by show s.ops.length ≤ _; have := h.n; omega, by have := h.c; omega⟩
theorem Bd.out {M : MM} {q : Int} (h : Bd M q s) (h1 : 1 ≤ s.cnt) : BF q (s.put ⟨15, 0, 0, 0, 0, s.pc, s.cnt⟩) := by
 have g := (h.gd h1).goes (t := s.pc) (by rw [h.b.1]; exact w32_bd _)
 have g2 : Fn ((25 * s.cnt).toNat + (0 + 1)) (s.put ⟨15, 0, 0, 0, 0, s.pc, s.cnt⟩) := ⟨g.a, g.f, g.n0, g.n⟩
 have hc := h.c
 have hy := h.y
 exact g2.bf (by omega) hc (by show 0 ≤ s.byt ∧ s.byt ≤ 384; omega) h.b.2
theorem srch_rg {M : MM} {r a x : Int} {n : Nat} (h : srch M r a n = some x) : 0 ≤ x ∧ x < 4294967296 := by
 unfold srch at h
 have := List.mem_of_find?_eq_some h
 obtain ⟨k, _, rfl⟩ := List.mem_map.1 this
 exact plc_bd a k
theorem fetS_bd {M : MM} {a n x : Int} (h : fetS M a n = some x) : 0 ≤ x ∧ x < 4294967296 := by
 unfold fetS at h
 split at h
 ·exact srch_rg h
 ·cases h
theorem ik_bnd (M : MM) (pc : Int) : ((ik M pc).1 = 0 ∨ (ik M pc).1 = 3 ∨ (ik M pc).1 = 4) ∧ 0 ≤ (ik M pc).2 ∧ (ik M pc).2 < 4294967296 := by
 unfold ik
 cases e : fetS M pc 1 with
 | some x => exact ⟨.inr (.inr rfl), fetS_bd e⟩
 | none =>
  dsimp only
  cases e2 : fetS M pc (szI M pc) with
  | some x => exact ⟨.inr (.inr rfl), fetS_bd e2⟩
  | none =>
   dsimp only
   split
   ·exact ⟨.inl rfl, by decide⟩
   ·exact ⟨.inr (.inl rfl), by decide⟩
/-- a block of nothing but a stop -/
theorem stop_bf {q k x : Int} (s : Lk) (h : s.ops = []) (hq : s.bpc = q) (hc : s.cnt = 0) (hy : s.byt = 0) (hp : 0 ≤ s.pc ∧ s.pc < 4294967296) (hk : 1 ≤ k ∧ k < 8) (hx : 0 ≤ x ∧ x < 4294967296) : BF q (s.put ⟨14, k, 0, x, 0, s.pc, 0⟩) := by
 have hl : Ot.Loc s.cnt ⟨14, k, 0, x, 0, s.pc, 0⟩ := loc_k 14 k 0 x 0 s.pc 0 rfl (by decide) ⟨by omega, show k < 8 by omega⟩ (by decide) (fun _ => by omega) hp (fun e => nomatch e) ⟨Int.le_refl 0, by omega⟩ (by omega) (fun e => nomatch e) (fun _ => rfl) (fun _ e => nomatch e) (fun _ => hx) (fun _ => rfl) z6 (Ot.i6 x (by omega)) z6
 have hf : Fn 1 (s.put ⟨14, k, 0, x, 0, s.pc, 0⟩) := by
  have e : (s.put ⟨14, k, 0, x, 0, s.pc, 0⟩).ops = [] ++ [⟨14, k, 0, x, 0, s.pc, 0⟩] := by show s.ops ++ _ = _; rw [h]
  refine ⟨?_, ?_, ?_, ?_⟩
  ·rw [e]; exact (AtAll.nil _).app hl (Ot.tk_none rfl rfl rfl)
  ·rw [e]
   intro m hm
   have : m = 0 := by simpa using hm
   subst this
   exact ⟨fun _ => rfl, fun _ => rfl⟩
  ·rw [e]; exact Nat.lt_succ_self 0
  ·rw [e]; exact Nat.le_refl 1
 exact hf.bf (by decide) (by show 0 ≤ s.cnt ∧ s.cnt ≤ 64; omega) (by show 0 ≤ s.byt ∧ s.byt ≤ 384; omega) hq
theorem blk_bf {M : MM} (hM : MOk M) {q : Int} : ∀ (n : Nat) (s : Lk), Bd M q s → s.cnt + n ≤ 64 → (s.cnt = 0 → 0 < n ∧ s.ops = []) → BF q (blk M n s)
 | 0, s, h, _, h0 => by
  have hc := h.c
  exact h.out (by rcases (show s.cnt = 0 ∨ 1 ≤ s.cnt by omega) with e | e; exact absurd (h0 e).1 (by decide); exact e)
 | n + 1, s, h, hn, h0 => by
  have hc := h.c
  unfold blk
  by_cases e : (ik M s.pc).1 ≠ 0
  ·rw [if_pos e]
   by_cases e0 : s.cnt = 0
   ·rw [if_pos e0]
    have r := ik_bnd M s.pc
    have hy := h.y
    exact stop_bf s (h0 e0).2 h.b.2 e0 (by omega) (by rw [h.b.1]; exact w32_bd _) (by omega) r.2
   ·rw [if_neg e0]
    exact h.out (by omega)
  ·rw [if_neg e]
   have g := nxt_bd hM h (by omega)
   by_cases e2 : en (iz M s.pc 0) = true
   ·rw [if_pos e2]; exact g.2 e2
   ·rw [if_neg e2]
    have x := nxt_nx M s
    exact blk_bf hM n (s.nxt M) (g.1 (by simpa using e2)) (by rw [x.cnt]; omega) (fun e => by rw [x.cnt] at e; omega)
theorem lk0_bd (M : MM) (q : Int) (hq : 0 ≤ q ∧ q < 4294967296) : Bd M q (lk0 q) :=
 ⟨⟨AtAll.nil _, fun m hm => absurd hm (Nat.not_lt_zero m)⟩, fun _ _ => .inl rfl, (fun e => absurd e Bool.false_ne_true), ⟨Int.le_refl 0, by show (0 : Int) ≤ 64; decide⟩, ⟨Int.le_refl 0, by show (0 : Int) ≤ 6 * 0; decide⟩, ⟨by show q = w32 (q + 0); unfold w32; omega, rfl⟩, by show ((0 : Nat) : Int) ≤ 25 * 0; decide⟩
theorem mst_bd (most : Int) : 0 < mst most ∧ mst most ≤ 64 := by unfold mst; omega
theorem blkO_bf {M : MM} (hM : MOk M) {q : Int} (hq : 0 ≤ q ∧ q < 4294967296) (most : Int) : BF q (blkO M q most) := by
 have hm := mst_bd most
 exact blk_bf hM _ _ (lk0_bd M q hq) (by show (0 : Int) + (mst most : Int) ≤ 64; omega) fun _ => ⟨hm.1, rfl⟩
/-- how long a block should be: instructions, bytes; the stop if there is none -/
def lng (M : MM) (q : Int) : Nat → Int → Int → Int × Int × Int × Int
 | 0, n, z => (n, z, 0, 0)
 | k + 1, n, z =>
  if (ik M (w32 (q + z))).1 ≠ 0 then (if n = 0 then (0, 0, (ik M (w32 (q + z))).1, (ik M (w32 (q + z))).2) else (n, z, 0, 0))
  else if en (iz M (w32 (q + z)) 0) then (n + 1, z + iz M (w32 (q + z)) 5, 0, 0) else lng M q k (n + 1) (z + iz M (w32 (q + z)) 5)
/-- what a block is left with -/
structure BL (M : MM) (q : Int) (t : Lk) (r : Int × Int × Int × Int) : Prop where
 c : r.1 = t.cnt
 y : r.2.1 = t.byt
 s : t.cnt = 0 → t.byt = 0 ∧ (ik M q).1 ≠ 0 ∧ r.2.2 = ik M q ∧ t.ops = [⟨14, (ik M q).1, 0, (ik M q).2, 0, q, 0⟩]
theorem blk_lng {M : MM} {q : Int} (hq : 0 ≤ q ∧ q < 4294967296) : ∀ (n : Nat) (s : Lk), s.pc = w32 (q + s.byt) → 0 ≤ s.cnt → (s.cnt = 0 → 0 < n ∧ s.ops = [] ∧ s.byt = 0) → BL M q (blk M n s) (lng M q n s.cnt s.byt)
 | 0, s, _, hc, h0 => ⟨rfl, rfl, fun e => absurd (h0 e).1 (by decide)⟩
 | n + 1, s, hp, hc, h0 => by
  unfold blk lng
  rw [← hp]
  by_cases e : (ik M s.pc).1 ≠ 0
  ·rw [if_pos e, if_pos e]
   by_cases e0 : s.cnt = 0
   ·obtain ⟨_, h1, h2⟩ := h0 e0
    have hpq : s.pc = q := by rw [hp, h2]; unfold w32; omega
    rw [if_pos e0, if_pos e0]
    refine ⟨e0.symm, h2.symm, fun _ => ⟨h2, by rw [← hpq]; exact e, by rw [hpq], ?_⟩⟩
    show s.ops ++ _ = _
    rw [h1, hpq]; rfl
   ·rw [if_neg e0, if_neg e0]
    exact ⟨rfl, rfl, fun e => absurd e e0⟩
  ·rw [if_neg e, if_neg e]
   have x := nxt_nx M s
   by_cases e2 : en (iz M s.pc 0) = true
   ·rw [if_pos e2, if_pos e2]
    exact ⟨x.cnt.symm, x.byt.symm, fun e => by rw [x.cnt] at e; omega⟩
   ·rw [if_neg e2, if_neg e2]
    have := blk_lng (M := M) hq n (s.nxt M) (by rw [x.pc, x.byt, hp, w32_add, Int.add_assoc]) (by rw [x.cnt]; omega) (fun e => by rw [x.cnt] at e; omega)
    rw [x.cnt, x.byt] at this
    exact this
theorem blkO_lng {M : MM} {q : Int} (hq : 0 ≤ q ∧ q < 4294967296) (most : Int) : BL M q (blkO M q most) (lng M q (mst most) 0 0) :=
 blk_lng hq (mst most) (lk0 q) (by show q = w32 (q + 0); unfold w32; omega) (Int.le_refl 0) fun _ => ⟨(mst_bd most).1, rfl, rfl⟩
end Go.Proofs.YtcjcmnnhmajocabGreat.Lf
namespace Go.Proofs.YtcjcmnnhmajocabGreat.St
open Go.RowKit Kt Me Fl Gu
theorem rins_1 (P : RP) (M : MM) (pc x : Int) (w : World) (h : RM P M w) (hM : MOk M) (c0 : 0 ≤ pc) (c1 : pc < 4294967296) (hs : fetS M pc 1 = some x) :
  Calls Tryz.prog 57 #[.pointer (some ⟨P.q, 0, none⟩), .int .u32 pc] w fun e w' => e = .returned (insV M pc) ∧ Below w.heap.size w w' := by
 have eV : insV M pc = stopV 4 x := by unfold insV; rw [hs]
 rw [eV]
 have CF := κ (fun w h => rfetch_any P M pc 1 w h hM c0 c1)
 rw [hs, show stpV 4 (some x) = .agg #[.int .i64 4, .int .u32 x] from rfl] at CF
 have F0 := FR.new w
 have B0 := Below.in2 w (.cells Z5 74) (.cells Z2 55)
 have HH := κ (h.upto (Upto.of_below (S := fun _ => False) B0) (fun _ _ => id))
 unfold Z5 Z2 at F0 B0 HH
 unfold stopV agg5
 clear eV hs h hM
 go_enter Tryz.func57, Tryz.ntmps57
 go_wp2_with fail
 generalize (w.alloc (.cells #[.int .i64 0, .int .i64 0, .int .i64 0, .int .i64 0, .int .u32 0] 74)).alloc (.cells #[.int .i64 0, .int .u32 0] 55) = WA at F0 B0 HH ⊢
 have HF := κ F0
 have HB := κ B0
 clear F0 B0
 go_wp2_with (go_at_call 87; (with_reducible refine (CF.out _ HH.out).mono ?_); rintro e w1 ⟨v, rfl, o1, b1⟩; have HR := κ (HF.out.below b1); obtain ⟨ra0, ra1, ra2, ra3, ra4, rb0, rb1, rza, rzb, rl⟩ := HR.out; have B1 := κ (HB.out.trans (b1.mono HB.out.size)); have rl0 : w.heap.size < w1.heap.size := Nat.lt_of_succ_lt rl; clear o1 b1)
 go_region
 obtain ⟨u, t, fq, u0, u1, u2, u3, u4, t0, t1⟩ := HR.out.put (.int .i64 0) (.int .i64 0) (.int .i64 0) (.int .i64 0) (.int .u32 0) (.int .i64 4) (.int .u32 x)
 have bp := below_put B1.out (Nat.le_refl _) (.int .i64 0) (.int .i64 0) (.int .i64 0) (.int .i64 0) (.int .u32 0) (.int .i64 4) (.int .u32 x)
 have fq2 := (fq.alloc (.cells #[.int .i64 4, .int .u32 x] 55)).drew
 have bp2 := (bp.alloc (Nat.le_trans (Nat.le_of_lt (Nat.lt_of_succ_lt fq.l)) (Nat.le_refl _)) (.cells #[.int .i64 4, .int .u32 x] 55)).drew
 clear fq bp ra0 ra1 ra2 ra3 ra4 rb0 rb1 rza rzb
 generalize (World.alloc _ _).drew = WZ at fq2 bp2 ⊢
 have f0 := fq2.a 0 (by omega)
 have f1 := fq2.a 1 (by omega)
 have f2 := fq2.a 2 (by omega)
 have f3 := fq2.a 3 (by omega)
 have f4 := fq2.a 4 (by omega)
 have g0 := fq2.b 0 (by omega)
 have g1 := fq2.b 1 (by omega)
 rw [u0] at f0
 rw [u1] at f1
 rw [u2] at f2
 rw [u3] at f3
 rw [u4] at f4
 rw [t0] at g0
 rw [t1] at g1
 go_wp2_with fail
 refine bodyPost_ret (v := .tuple #[.agg #[.int .i64 0, .int .i64 0, .int .i64 0, .int .i64 0, .int .u32 0], .int .i64 0, .agg #[.int .i64 4, .int .u32 x]]) (by simp [results, Tryz.results57, go_sem, f0, f1, f2, f3, f4, g0, g1]) rfl ⟨rfl, bp2⟩
theorem rins_2 (P : RP) (M : MM) (pc x : Int) (w : World) (h : RM P M w) (hM : MOk M) (c0 : 0 ≤ pc) (c1 : pc < 4294967296) (hs : fetS M pc 1 = none) (hs2 : fetS M pc (szI M pc) = some x) :
  Calls Tryz.prog 57 #[.pointer (some ⟨P.q, 0, none⟩), .int .u32 pc] w fun e w' => e = .returned (insV M pc) ∧ Below w.heap.size w w' := by
 have eV : insV M pc = stopV 4 x := by unfold insV; rw [hs]; dsimp only; rw [hs2]
 rw [eV]
 have CF := κ (fun w h => rfetch_any P M pc 1 w h hM c0 c1)
 have CF2 := κ (fun w h => rfetch_any P M pc (szI M pc) w h hM c0 c1)
 rw [hs, show stpV 4 none = .agg #[.int .i64 0, .int .u32 0] from rfl] at CF
 rw [hs2, show stpV 4 (some x) = .agg #[.int .i64 4, .int .u32 x] from rfl] at CF2
 have HL := κ (show (fetL M pc 1).length = 1 from fetL_len hs (by omega) (by omega))
 have hb := fetL_rg hM pc 1 0
 have CZ := κ (fun w => rsize_any ((fetL M pc 1).getD 0 0) w)
 have hz := szI_bd M hM pc
 rw [rsz_byte _ hb.1 hb.2, show shSize (rowOf ((fetL M pc 1).getD 0 0)).sh = szI M pc from rfl] at CZ
 obtain ⟨y, hy⟩ : ∃ y, (fetL M pc 1).getD 0 0 = y := ⟨_, rfl⟩
 rw [hy] at CZ hb
 have HY := κ hy
 clear hy
 generalize szI M pc = z at CF2 CZ hz
 have F0 := FR.new w
 have B0 := Below.in2 w (.cells Z5 74) (.cells Z2 55)
 have HH := κ (h.upto (Upto.of_below (S := fun _ => False) B0) (fun _ _ => id))
 unfold Z5 Z2 at F0 B0 HH
 unfold stopV agg5
 clear eV hs hs2 h hM
 go_enter Tryz.func57, Tryz.ntmps57
 go_wp2_with fail
 generalize (w.alloc (.cells #[.int .i64 0, .int .i64 0, .int .i64 0, .int .i64 0, .int .u32 0] 74)).alloc (.cells #[.int .i64 0, .int .u32 0] 55) = WA at F0 B0 HH ⊢
 have HF := κ F0
 have HB := κ B0
 clear F0 B0
 go_wp2_with (go_at_call 87; (with_reducible refine (CF.out _ HH.out).mono ?_); rintro e w1 ⟨v, rfl, o1, b1⟩; have HR := κ (HF.out.below b1); have rl0 : w.heap.size < w1.heap.size := Nat.lt_of_succ_lt HR.out.l; obtain ⟨ao, cap, rfl, bs, _⟩ := o1.form; obtain ⟨bl, bm, bk⟩ := bs; rw [HL.out] at bl bk ⊢; obtain ⟨bb, boff, rfl, bbl, bc⟩ := bk (by omega); have bc0 := bc 0 (by omega); rw [Nat.add_zero, HY.out] at bc0; have HH1 := κ (HH.out.upto (Upto.of_below (S := fun _ => False) b1) (fun _ _ => id)); have B1 := κ (HB.out.trans (b1.mono HB.out.size)); clear o1 b1 bk bc)
 go_at_call 88
 (with_reducible refine (CZ.out _).mono ?_)
 rintro e w2 ⟨rfl, b2⟩
 have hw : Below w1.heap.size w1 (w1.alloc (.cells #[.int .i64 0, .int .u32 0] 55)) := (Below.refl _ _).alloc (Nat.le_refl _) _
 have ls0 : w1.heap.size < (w1.alloc (.cells #[.int .i64 0, .int .u32 0] 55)).heap.size := by simp
 have HR2 := κ ((HR.out.below hw).below b2)
 have HH2 := κ ((HH1.out.upto (Upto.of_below (S := fun _ => False) hw) (fun _ _ => id)).upto (Upto.of_below (S := fun _ => False) b2) (fun _ _ => id))
 have B2 := κ ((B1.out.trans (hw.mono (Nat.le_of_lt rl0))).trans (b2.mono (Nat.le_trans (Nat.le_of_lt rl0) hw.size)))
 have s0 := (b2.cell (p := ⟨w1.heap.size, 0, none⟩) ls0).trans (box_at w1 _ _ 0)
 have s1 := (b2.cell (p := ⟨w1.heap.size, 1, none⟩) ls0).trans (box_at w1 _ _ 1)
 have zs := fun i => (b2.frozen (p := ⟨w1.heap.size, i, none⟩) ls0).trans (fz_new w1 _ _ i)
 have ls := Nat.lt_of_lt_of_le ls0 b2.size
 have sb : w.heap.size < w2.heap.size := Nat.lt_of_succ_lt HR2.out.l
 clear b2 hw
 go_wp2_with (go_at_call 87; (with_reducible refine (CF2.out _ HH2.out).mono ?_); rintro e w3 ⟨v2, rfl, o3, b3⟩; have HR3 := κ (HR2.out.below b3); have B3 := κ (B2.out.trans (b3.mono (Nat.le_of_lt sb))); have r0 := (b3.cell (p := ⟨w1.heap.size, 0, none⟩) ls).trans s0; have r1 := (b3.cell (p := ⟨w1.heap.size, 1, none⟩) ls).trans s1; have zr := fun i => (b3.frozen (p := ⟨w1.heap.size, i, none⟩) ls).trans (zs i); have lr := Nat.lt_of_lt_of_le ls b3.size; obtain ⟨ra0, ra1, ra2, ra3, ra4, rb0, rb1, rza, rzb, rl⟩ := HR3.out; have rl3 := Nat.lt_of_succ_lt rl; have O3 := κ o3; clear b3 o3)
 have n1 : w1.heap.size ≠ w.heap.size := Nat.ne_of_gt rl0
 have n2 : w1.heap.size ≠ w.heap.size + 1 := Nat.ne_of_gt HR.out.l
 have HR4 := κ ((HR3.out.off (q := ⟨w1.heap.size, 0, none⟩) n1 n2 (.int .i64 4)).off (q := ⟨w1.heap.size, 1, none⟩) n1 n2 (.int .u32 x))
 have q0 : ((w3.setCell ⟨w1.heap.size, 0, none⟩ (.int .i64 4)).setCell ⟨w1.heap.size, 1, none⟩ (.int .u32 x)).cell? ⟨w1.heap.size, 0, none⟩ = some (.int .i64 4) := (off (by omega)).trans (World.cell?_setCell_same _ _ _ r0)
 have q1 : ((w3.setCell ⟨w1.heap.size, 0, none⟩ (.int .i64 4)).setCell ⟨w1.heap.size, 1, none⟩ (.int .u32 x)).cell? ⟨w1.heap.size, 1, none⟩ = some (.int .u32 x) := World.cell?_setCell_same _ _ _ ((off (by omega)).trans r1)
 have B4 := κ ((B3.out.setCell (p := ⟨w1.heap.size, 0, none⟩) (Nat.le_of_lt rl0) (.int .i64 4)).setCell (p := ⟨w1.heap.size, 1, none⟩) (Nat.le_of_lt rl0) (.int .u32 x))
 clear ra0 ra1 ra2 ra3 ra4 rb0 rb1 rza rzb rl rl3 r0 r1 zr lr s0 s1 zs ls
 generalize (w3.setCell ⟨w1.heap.size, 0, none⟩ (.int .i64 4)).setCell ⟨w1.heap.size, 1, none⟩ (.int .u32 x) = W4 at HR4 q0 q1 B4 ⊢
 obtain ⟨ra0, ra1, ra2, ra3, ra4, rb0, rb1, rza, rzb, rl⟩ := HR4.out
 go_region
 obtain ⟨u, t, fq, u0, u1, u2, u3, u4, t0, t1⟩ := HR4.out.put (.int .i64 0) (.int .i64 0) (.int .i64 0) (.int .i64 0) (.int .u32 0) (.int .i64 4) (.int .u32 x)
 have bp2 := (below_put B4.out (Nat.le_refl _) (.int .i64 0) (.int .i64 0) (.int .i64 0) (.int .i64 0) (.int .u32 0) (.int .i64 4) (.int .u32 x)).drew
 have fq2 := fq.drew
 clear fq ra0 ra1 ra2 ra3 ra4 rb0 rb1 rza rzb
 generalize World.drew _ = WZ at fq2 bp2 ⊢
 have f0 := fq2.a 0 (by omega)
 have f1 := fq2.a 1 (by omega)
 have f2 := fq2.a 2 (by omega)
 have f3 := fq2.a 3 (by omega)
 have f4 := fq2.a 4 (by omega)
 have g0 := fq2.b 0 (by omega)
 have g1 := fq2.b 1 (by omega)
 rw [u0] at f0
 rw [u1] at f1
 rw [u2] at f2
 rw [u3] at f3
 rw [u4] at f4
 rw [t0] at g0
 rw [t1] at g1
 go_wp2_with fail
 refine bodyPost_ret (v := .tuple #[.agg #[.int .i64 0, .int .i64 0, .int .i64 0, .int .i64 0, .int .u32 0], .int .i64 0, .agg #[.int .i64 4, .int .u32 x]]) (by simp [results, Tryz.results57, go_sem, f0, f1, f2, f3, f4, g0, g1]) rfl ⟨rfl, bp2⟩
theorem rins_3 (P : RP) (M : MM) (pc : Int) (w : World) (h : RM P M w) (hM : MOk M) (c0 : 0 ≤ pc) (c1 : pc < 4294967296) (hs : fetS M pc 1 = none) (hs2 : fetS M pc (szI M pc) = none) :
  Calls Tryz.prog 57 #[.pointer (some ⟨P.q, 0, none⟩), .int .u32 pc] w fun e w' => e = .returned (insV M pc) ∧ Below w.heap.size w w' := by
 obtain ⟨o, d, s, g, m, n, zz, hd⟩ := decv_shape (usI M pc)
 have eV : insV M pc = if zz = 0 then .tuple #[agg5 o d s g m, .int .i64 n, .agg #[.int .i64 0, .int .u32 0]] else stopV 3 0 := by
  unfold insV; rw [hs]; dsimp only; rw [hs2]; dsimp only; rw [hd]; rfl
 rw [eV]
 have hu := fetL_rg hM pc (szI M pc)
 unfold usI at hd
 have CF := κ (fun w h => rfetch_any P M pc 1 w h hM c0 c1)
 have CF2 := κ (fun w h => rfetch_any P M pc (szI M pc) w h hM c0 c1)
 rw [hs, show stpV 4 none = .agg #[.int .i64 0, .int .u32 0] from rfl] at CF
 rw [hs2, show stpV 4 none = .agg #[.int .i64 0, .int .u32 0] from rfl] at CF2
 have HL := κ (show (fetL M pc 1).length = 1 from fetL_len hs (by omega) (by omega))
 have hb := fetL_rg hM pc 1 0
 have CZ := κ (fun w => rsize_any ((fetL M pc 1).getD 0 0) w)
 have hz := szI_bd M hM pc
 rw [rsz_byte _ hb.1 hb.2, show shSize (rowOf ((fetL M pc 1).getD 0 0)).sh = szI M pc from rfl] at CZ
 obtain ⟨y, hy⟩ : ∃ y, (fetL M pc 1).getD 0 0 = y := ⟨_, rfl⟩
 rw [hy] at CZ hb
 have HY := κ hy
 clear hy
 generalize szI M pc = z at CF2 CZ hz hd hu
 generalize fetL M pc z = us at CF2 hd hu
 have CD := κ (fun ao cap w h => rdec_all us ao cap w h hu)
 rw [hd] at CD
 clear hd hu
 have F0 := FR.new w
 have B0 := Below.in2 w (.cells Z5 74) (.cells Z2 55)
 have HH := κ (h.upto (Upto.of_below (S := fun _ => False) B0) (fun _ _ => id))
 unfold Z5 Z2 at F0 B0 HH
 unfold stopV agg5
 unfold agg5 at CD
 generalize hV : (if zz = 0 then _ else _ : Value) = V
 have HV := κ hV
 clear hV
 clear eV hs hs2 h hM
 go_enter Tryz.func57, Tryz.ntmps57
 go_wp2_with fail
 generalize (w.alloc (.cells #[.int .i64 0, .int .i64 0, .int .i64 0, .int .i64 0, .int .u32 0] 74)).alloc (.cells #[.int .i64 0, .int .u32 0] 55) = WA at F0 B0 HH ⊢
 have HF := κ F0
 have HB := κ B0
 clear F0 B0
 go_wp2_with (go_at_call 87; (with_reducible refine (CF.out _ HH.out).mono ?_); rintro e w1 ⟨v, rfl, o1, b1⟩; have HR := κ (HF.out.below b1); have rl0 : w.heap.size < w1.heap.size := Nat.lt_of_succ_lt HR.out.l; obtain ⟨ao, cap, rfl, bs, _⟩ := o1.form; obtain ⟨bl, bm, bk⟩ := bs; rw [HL.out] at bl bk ⊢; obtain ⟨bb, boff, rfl, bbl, bc⟩ := bk (by omega); have bc0 := bc 0 (by omega); rw [Nat.add_zero, HY.out] at bc0; have HH1 := κ (HH.out.upto (Upto.of_below (S := fun _ => False) b1) (fun _ _ => id)); have B1 := κ (HB.out.trans (b1.mono HB.out.size)); clear o1 b1 bk bc)
 go_at_call 88
 (with_reducible refine (CZ.out _).mono ?_)
 rintro e w2 ⟨rfl, b2⟩
 have hw : Below w1.heap.size w1 (w1.alloc (.cells #[.int .i64 0, .int .u32 0] 55)) := (Below.refl _ _).alloc (Nat.le_refl _) _
 have ls0 : w1.heap.size < (w1.alloc (.cells #[.int .i64 0, .int .u32 0] 55)).heap.size := by simp
 have HR2 := κ ((HR.out.below hw).below b2)
 have HH2 := κ ((HH1.out.upto (Upto.of_below (S := fun _ => False) hw) (fun _ _ => id)).upto (Upto.of_below (S := fun _ => False) b2) (fun _ _ => id))
 have B2 := κ ((B1.out.trans (hw.mono (Nat.le_of_lt rl0))).trans (b2.mono (Nat.le_trans (Nat.le_of_lt rl0) hw.size)))
 have s0 := (b2.cell (p := ⟨w1.heap.size, 0, none⟩) ls0).trans (box_at w1 _ _ 0)
 have s1 := (b2.cell (p := ⟨w1.heap.size, 1, none⟩) ls0).trans (box_at w1 _ _ 1)
 have zs := fun i => (b2.frozen (p := ⟨w1.heap.size, i, none⟩) ls0).trans (fz_new w1 _ _ i)
 have ls := Nat.lt_of_lt_of_le ls0 b2.size
 have sb : w.heap.size < w2.heap.size := Nat.lt_of_succ_lt HR2.out.l
 clear b2 hw
 go_wp2_with (go_at_call 87; (with_reducible refine (CF2.out _ HH2.out).mono ?_); rintro e w3 ⟨v2, rfl, o3, b3⟩; have HR3 := κ (HR2.out.below b3); have B3 := κ (B2.out.trans (b3.mono (Nat.le_of_lt sb))); have r0 := (b3.cell (p := ⟨w1.heap.size, 0, none⟩) ls).trans s0; have r1 := (b3.cell (p := ⟨w1.heap.size, 1, none⟩) ls).trans s1; have zr := fun i => (b3.frozen (p := ⟨w1.heap.size, i, none⟩) ls).trans (zs i); have lr := Nat.lt_of_lt_of_le ls b3.size; obtain ⟨ra0, ra1, ra2, ra3, ra4, rb0, rb1, rza, rzb, rl⟩ := HR3.out; have rl3 := Nat.lt_of_succ_lt rl; have O3 := κ o3; clear b3 o3)
 have n1 : w1.heap.size ≠ w.heap.size := Nat.ne_of_gt rl0
 have n2 : w1.heap.size ≠ w.heap.size + 1 := Nat.ne_of_gt HR.out.l
 have HR4 := κ ((HR3.out.off (q := ⟨w1.heap.size, 0, none⟩) n1 n2 (.int .i64 0)).off (q := ⟨w1.heap.size, 1, none⟩) n1 n2 (.int .u32 0))
 have B4 := κ ((B3.out.setCell (p := ⟨w1.heap.size, 0, none⟩) (Nat.le_of_lt rl0) (.int .i64 0)).setCell (p := ⟨w1.heap.size, 1, none⟩) (Nat.le_of_lt rl0) (.int .u32 0))
 have O4 := (O3.out.below (q := ⟨w1.heap.size, 0, none⟩) ls (.int .i64 0)).below (q := ⟨w1.heap.size, 1, none⟩) ls (.int .u32 0)
 clear ra0 ra1 ra2 ra3 ra4 rb0 rb1 rza rzb rl rl3 r0 r1 zr lr s0 s1 zs ls
 generalize (w3.setCell ⟨w1.heap.size, 0, none⟩ (.int .i64 0)).setCell ⟨w1.heap.size, 1, none⟩ (.int .u32 0) = W4 at HR4 B4 O4 ⊢
 obtain ⟨ao3, cap3, rfl, bs3, _⟩ := O4.form
 clear O4
 go_at_call 89
 with_reducible refine (CD.out _ _ _ bs3).mono ?_
 clear bs3
 rintro e w5 ⟨rfl, b5⟩
 have HR5 := κ (HR4.out.below b5)
 have lw4 : w.heap.size < W4.heap.size := Nat.lt_of_succ_lt HR4.out.l
 have B5 := κ (B4.out.trans (b5.mono (Nat.le_of_lt lw4)))
 clear b5
 obtain ⟨ra0, ra1, ra2, ra3, ra4, rb0, rb1, rza, rzb, rl⟩ := HR5.out
 have rl5 := Nat.lt_of_succ_lt rl
 by_cases hz0 : zz = 0
 ·subst hz0
  go_upto_region 10 with fail
  have hb6 := (Below.refl w5.heap.size w5).alloc (Nat.le_refl _) (.cells #[.int .i64 o, .int .i64 d, .int .i64 s, .int .i64 g, .int .u32 m] 74)
  have HR6 := κ (HR5.out.below hb6)
  have B6 := κ (B5.out.alloc (Nat.le_of_lt rl5) (.cells #[.int .i64 o, .int .i64 d, .int .i64 s, .int .i64 g, .int .u32 m] 74))
  have k0 := box_at w5 #[.int .i64 o, .int .i64 d, .int .i64 s, .int .i64 g, .int .u32 m] 74 0
  have k1 := box_at w5 #[.int .i64 o, .int .i64 d, .int .i64 s, .int .i64 g, .int .u32 m] 74 1
  have k2 := box_at w5 #[.int .i64 o, .int .i64 d, .int .i64 s, .int .i64 g, .int .u32 m] 74 2
  have k3 := box_at w5 #[.int .i64 o, .int .i64 d, .int .i64 s, .int .i64 g, .int .u32 m] 74 3
  have k4 := box_at w5 #[.int .i64 o, .int .i64 d, .int .i64 s, .int .i64 g, .int .u32 m] 74 4
  simp only [List.getElem?_toArray, List.getElem?_cons_zero, List.getElem?_cons_succ] at k0 k1 k2 k3 k4
  clear ra0 ra1 ra2 ra3 ra4 rb0 rb1 rza rzb rl hb6
  generalize w5.alloc (.cells #[.int .i64 o, .int .i64 d, .int .i64 s, .int .i64 g, .int .u32 m] 74) = W6 at HR6 B6 k0 k1 k2 k3 k4 ⊢
  obtain ⟨ra0, ra1, ra2, ra3, ra4, rb0, rb1, rza, rzb, rl⟩ := HR6.out
  have za0 := rza 0
  have za1 := rza 1
  have za2 := rza 2
  have za3 := rza 3
  have za4 := rza 4
  have zb0 := rzb 0
  have zb1 := rzb 1
  clear rza rzb
  go_wp2_with fail
  obtain ⟨u, t, fq2, u0, u1, u2, u3, u4, t0, t1⟩ := HR6.out.put (.int .i64 o) (.int .i64 d) (.int .i64 s) (.int .i64 g) (.int .u32 m) (.int .i64 0) (.int .u32 0)
  have bp2 := below_put B6.out (Nat.le_refl _) (.int .i64 o) (.int .i64 d) (.int .i64 s) (.int .i64 g) (.int .u32 m) (.int .i64 0) (.int .u32 0)
  clear ra0 ra1 ra2 ra3 ra4 rb0 rb1 za0 za1 za2 za3 za4 zb0 zb1 k0 k1 k2 k3 k4
  generalize World.setCell _ ⟨w.heap.size + 1, 1, none⟩ _ = WZ at fq2 bp2 ⊢
  have f0 := fq2.a 0 (by omega)
  have f1 := fq2.a 1 (by omega)
  have f2 := fq2.a 2 (by omega)
  have f3 := fq2.a 3 (by omega)
  have f4 := fq2.a 4 (by omega)
  have g0 := fq2.b 0 (by omega)
  have g1 := fq2.b 1 (by omega)
  rw [u0] at f0
  rw [u1] at f1
  rw [u2] at f2
  rw [u3] at f3
  rw [u4] at f4
  rw [t0] at g0
  rw [t1] at g1
  refine bodyPost_ret (v := .tuple #[.agg #[.int .i64 o, .int .i64 d, .int .i64 s, .int .i64 g, .int .u32 m], .int .i64 n, .agg #[.int .i64 0, .int .u32 0]]) (by simp [results, Tryz.results57, go_sem, f0, f1, f2, f3, f4, g0, g1]) rfl ⟨by rw [← HV.out, if_pos trivial], bp2⟩
 ·have hzb : (zz == 0) = false := by rw [beq_eq_false_iff_ne]; exact hz0
  have hzn : (zz != 0) = true := by rw [bne, hzb]; rfl
  go_upto_region 9 with fail
  have hb6 := (Below.refl w5.heap.size w5).alloc (Nat.le_refl _) (.cells #[.int .i64 o, .int .i64 d, .int .i64 s, .int .i64 g, .int .u32 m] 74)
  have HR6 := κ (HR5.out.below hb6)
  have B6 := κ (B5.out.alloc (Nat.le_of_lt rl5) (.cells #[.int .i64 o, .int .i64 d, .int .i64 s, .int .i64 g, .int .u32 m] 74))
  have k0 := box_at w5 #[.int .i64 o, .int .i64 d, .int .i64 s, .int .i64 g, .int .u32 m] 74 0
  have k1 := box_at w5 #[.int .i64 o, .int .i64 d, .int .i64 s, .int .i64 g, .int .u32 m] 74 1
  have k2 := box_at w5 #[.int .i64 o, .int .i64 d, .int .i64 s, .int .i64 g, .int .u32 m] 74 2
  have k3 := box_at w5 #[.int .i64 o, .int .i64 d, .int .i64 s, .int .i64 g, .int .u32 m] 74 3
  have k4 := box_at w5 #[.int .i64 o, .int .i64 d, .int .i64 s, .int .i64 g, .int .u32 m] 74 4
  simp only [List.getElem?_toArray, List.getElem?_cons_zero, List.getElem?_cons_succ] at k0 k1 k2 k3 k4
  clear ra0 ra1 ra2 ra3 ra4 rb0 rb1 rza rzb rl hb6
  generalize w5.alloc (.cells #[.int .i64 o, .int .i64 d, .int .i64 s, .int .i64 g, .int .u32 m] 74) = W6 at HR6 B6 k0 k1 k2 k3 k4 ⊢
  obtain ⟨ra0, ra1, ra2, ra3, ra4, rb0, rb1, rza, rzb, rl⟩ := HR6.out
  have za0 := rza 0
  have za1 := rza 1
  have za2 := rza 2
  have za3 := rza 3
  have za4 := rza 4
  have zb0 := rzb 0
  have zb1 := rzb 1
  clear rza rzb
  go_wp2_with fail
  obtain ⟨u, t, fq2, u0, u1, u2, u3, u4, t0, t1⟩ := HR6.out.put (.int .i64 0) (.int .i64 0) (.int .i64 0) (.int .i64 0) (.int .u32 0) (.int .i64 3) (.int .u32 0)
  have bp2 := below_put B6.out (Nat.le_refl _) (.int .i64 0) (.int .i64 0) (.int .i64 0) (.int .i64 0) (.int .u32 0) (.int .i64 3) (.int .u32 0)
  clear ra0 ra1 ra2 ra3 ra4 rb0 rb1 za0 za1 za2 za3 za4 zb0 zb1 k0 k1 k2 k3 k4
  generalize World.setCell _ ⟨w.heap.size + 1, 1, none⟩ _ = WZ at fq2 bp2 ⊢
  have f0 := fq2.a 0 (by omega)
  have f1 := fq2.a 1 (by omega)
  have f2 := fq2.a 2 (by omega)
  have f3 := fq2.a 3 (by omega)
  have f4 := fq2.a 4 (by omega)
  have g0 := fq2.b 0 (by omega)
  have g1 := fq2.b 1 (by omega)
  rw [u0] at f0
  rw [u1] at f1
  rw [u2] at f2
  rw [u3] at f3
  rw [u4] at f4
  rw [t0] at g0
  rw [t1] at g1
  refine bodyPost_ret (v := .tuple #[.agg #[.int .i64 0, .int .i64 0, .int .i64 0, .int .i64 0, .int .u32 0], .int .i64 0, .agg #[.int .i64 3, .int .u32 0]]) (by simp [results, Tryz.results57, go_sem, f0, f1, f2, f3, f4, g0, g1]) rfl ⟨by rw [← HV.out, if_neg hz0], bp2⟩
theorem rins_all (P : RP) (M : MM) (pc : Int) (w : World) (h : RM P M w) (hM : MOk M) (c0 : 0 ≤ pc) (c1 : pc < 4294967296) :
  Calls Tryz.prog 57 #[.pointer (some ⟨P.q, 0, none⟩), .int .u32 pc] w fun e w' => e = .returned (insV M pc) ∧ Below w.heap.size w w' := by
 cases hs : fetS M pc 1 with
 | some x => exact rins_1 P M pc x w h hM c0 c1 hs
 | none => cases hs2 : fetS M pc (szI M pc) with
  | some x => exact rins_2 P M pc x w h hM c0 c1 hs hs2
  | none => exact rins_3 P M pc w h hM c0 c1 hs hs2
end Go.Proofs.YtcjcmnnhmajocabGreat.St
