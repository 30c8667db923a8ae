/- Plain law: the numbers of what is read as an instruction. -/
import Derived.Test.YtcjcmnnhmajocabGreatPlbc
import Derived.Test.YtcjcmnnhmajocabGreatPlbm
set_option linter.unusedVariables false
set_option linter.unusedSimpArgs false
set_option maxRecDepth 100000
set_option maxHeartbeats 16000000
namespace Go.Proofs.YtcjcmnnhmajocabGreat.Gu
open Go.RowKit Kt
def lets (sh : Int) : List UInt8 := match sh with
 | 2 => [98]
 | 3 => [115]
 | 4 => [119]
 | 5 => [101]
 | 6 => [112]
 | 7 => [99]
 | 8 => [112, 115]
 | 9 => [100, 119]
 | 10 => [100, 115]
 | 11 => [119]
 | 12 => [101, 115]
 | _ => []
def kin (fi : Int) : List UInt8 := match fi with
 | 1 => [68]
 | 2 => [83]
 | 3 => [79]
 | _ => []
def rowok (b : Int) : Bool :=
 if fndFrom b fms 0 < 0 then decide (shSize (rowOf b).sh = 0) else
 match fms[(fndFrom b fms 0).toNat]? with
 | some f => decide ((rowOf b).op = fndFrom b fms 0) && decide (1 ≤ (rowOf b).sh) && decide (f.beh.data.toList = lets (rowOf b).sh) && decide (f.inn.data.toList = kin (rowOf b).fi) && decide ((rowOf b).fi = 0 ∨ (rowOf b).lo = b - f.first)
 | none => false
theorem rowok_all : ∀ n : Fin 256, rowok (n.val : Int) = true := by decide +kernel
theorem str_of {x : ByteArray} {l : List UInt8} (h : x.data.toList = l) : x = ⟨l.toArray⟩ := by
 cases x
 subst h
 simp
theorem kin_str {fi : Int} (h0 : 0 ≤ fi) (h3 : fi ≤ 3) {x : ByteArray} (h : x.data.toList = kin fi) (b lo : Int) (hl : fi = 0 ∨ lo = b) :
  (x = strN ∨ x = strD ∨ x = strS ∨ x = strO) ∧ (if x = strD then b else 0) = (if fi = 1 then lo else 0) ∧ (if x = strS then b else 0) = (if fi = 2 then lo else 0) ∧ (if x = strO then b else 0) = (if fi = 3 then lo else 0) := by
 have hx := str_of h
 rcases (show fi = 0 ∨ fi = 1 ∨ fi = 2 ∨ fi = 3 by omega) with rfl | rfl | rfl | rfl
 ·subst hx
  refine ⟨.inl rfl, ?_, ?_, ?_⟩ <;> simp [kin, strD, strS, strO]
 all_goals obtain rfl : lo = b := by omega
 ·subst hx
  refine ⟨.inr (.inl rfl), ?_, ?_, ?_⟩ <;> simp [kin, strD, strS, strO]
 ·subst hx
  refine ⟨.inr (.inr (.inl rfl)), ?_, ?_, ?_⟩ <;> simp [kin, strD, strS, strO]
 ·subst hx
  refine ⟨.inr (.inr (.inr rfl)), ?_, ?_, ?_⟩ <;> simp [kin, strD, strS, strO]
theorem lets_size (sh : Int) (h1 : 1 ≤ sh) (h2 : sh ≤ 12) : 1 + wsz (lets sh) = shSize sh := by
 rcases (show sh = 1 ∨ sh = 2 ∨ sh = 3 ∨ sh = 4 ∨ sh = 5 ∨ sh = 6 ∨ sh = 7 ∨ sh = 8 ∨ sh = 9 ∨ sh = 10 ∨ sh = 11 ∨ sh = 12 by omega) with rfl | rfl | rfl | rfl | rfl | rfl | rfl | rfl | rfl | rfl | rfl | rfl
 all_goals decide
theorem fin_eq (sh op lo fi d s f : Int) (h1 : 1 ≤ sh) (h2 : sh ≤ 12) (a : Nat → Int) :
  (if (rfold a (lets sh) ⟨d, s, f, 0, 1⟩).d ≤ 7 ∧ (rfold a (lets sh) ⟨d, s, f, 0, 1⟩).s ≤ 7 then
   Value.tuple #[agg5 op (rfold a (lets sh) ⟨d, s, f, 0, 1⟩).d (rfold a (lets sh) ⟨d, s, f, 0, 1⟩).s (rfold a (lets sh) ⟨d, s, f, 0, 1⟩).f (rfold a (lets sh) ⟨d, s, f, 0, 1⟩).m, .int .i64 (1 + wsz (lets sh)), .int .i64 0] else derr 3) =
  fin ⟨op, sh, lo, fi⟩ d s f (fun j => a (j + 1)) := by
 rw [lets_size sh h1 h2]
 have h8 : ∀ x : Int, x ≤ 7 ↔ x < 8 := fun x => by omega
 unfold fin
 rcases (show sh = 1 ∨ sh = 2 ∨ sh = 3 ∨ sh = 4 ∨ sh = 5 ∨ sh = 6 ∨ sh = 7 ∨ sh = 8 ∨ sh = 9 ∨ sh = 10 ∨ sh = 11 ∨ sh = 12 by omega) with rfl | rfl | rfl | rfl | rfl | rfl | rfl | rfl | rfl | rfl | rfl | rfl
 all_goals simp [rfold, rl, lets, oD, oS, oF, oM, h8]
theorem fin_shape (r : Rw) (d s f : Int) (a : Nat → Int) : ∃ o' d' s' f' m n z : Int, fin r d s f a = .tuple #[agg5 o' d' s' f' m, .int .i64 n, .int .i64 z] := by
 unfold fin
 by_cases h : oD r.sh d a < 8 ∧ oS r.sh s a < 8
 ·rw [if_pos h]; exact ⟨_, _, _, _, _, _, _, rfl⟩
 ·rw [if_neg h]; exact ⟨_, _, _, _, _, _, _, rfl⟩
theorem decv_shape (us : List Int) : ∃ o d s f m n z : Int, decv us = .tuple #[agg5 o d s f m, .int .i64 n, .int .i64 z] := by
 unfold decv
 by_cases h0 : us.length = 0
 ·rw [if_pos h0]; exact ⟨_, _, _, _, _, _, _, rfl⟩
 rw [if_neg h0]
 by_cases h1 : shSize (rowOf (us.getD 0 0)).sh = 0
 ·rw [if_pos h1]; exact ⟨_, _, _, _, _, _, _, rfl⟩
 rw [if_neg h1]
 by_cases h2 : (us.length : Int) < shSize (rowOf (us.getD 0 0)).sh
 ·rw [if_pos h2]; exact ⟨_, _, _, _, _, _, _, rfl⟩
 rw [if_neg h2]
 exact fin_shape _ _ _ _ _
theorem fnd_neg (x : Int) : fndFrom x fms 0 < 0 ↔ fndFrom x fms 0 = -1 := by
 rcases fnd_spec x fms 0 with h | ⟨j, f, _, h2, _, _⟩
 ·omega
 ·omega
theorem rdec_all (us : List Int) (ao : Option Addr) (cap : Nat) (w : World) (hs : Bs us ao cap w) (hw : ∀ j, 0 ≤ us.getD j 0 ∧ us.getD j 0 < 256) :
  Calls Tryz.prog 89 #[.slice ao us.length cap] w fun e w' => e = .returned (decv us) ∧ Below w.heap.size w w' := by
 obtain ⟨l1, m1, k1⟩ := hs
 unfold decv
 by_cases h0 : us.length = 0
 ·rw [if_pos h0, h0]; exact rdec_none ao cap w
 ·obtain ⟨b, off, rfl, hb, hc⟩ := k1 (by omega)
  rw [if_neg h0]
  have hpos : 0 < us.length := by omega
  have hb0 := hw 0
  have hok : rowok (us.getD 0 0) = true := by
   obtain ⟨n, hn⟩ := Int.eq_ofNat_of_zero_le hb0.1
   rw [hn]
   exact rowok_all ⟨n, by omega⟩
  have hr := row_in (us.getD 0 0) hb0.1 hb0.2
  have hz := rsz_byte (us.getD 0 0) hb0.1 hb0.2
  unfold rowok at hok
  by_cases hf : fndFrom (us.getD 0 0) fms 0 < 0
  ·rw [if_pos hf] at hok
   rw [if_pos (of_decide_eq_true hok)]
   exact rdec_bad us b off us.length cap w hb hpos hw hc 2 (.inl ⟨rfl, (fnd_neg _).1 hf⟩)
  ·rw [if_neg hf] at hok
   have hf0 : 0 ≤ fndFrom (us.getD 0 0) fms 0 := by omega
   obtain ⟨j, hj⟩ := Int.eq_ofNat_of_zero_le hf0
   rw [hj, Int.toNat_natCast] at hok
   split at hok
   ·rename_i f hfj
    simp only [Bool.and_eq_true, decide_eq_true_eq] at hok
    obtain ⟨⟨⟨⟨o1, o2⟩, o3⟩, o4⟩, o5⟩ := hok
    obtain ⟨f0, fn, fi, s⟩ := f
    dsimp only at o3 o4 o5
    have hj32 : j < 32 := by
     have := (List.getElem?_eq_some_iff.1 hfj).1
     rwa [fms_len] at this
    have hsz := lets_size (rowOf (us.getD 0 0)).sh o2 hr.2.2.2.1
    have hp : 1 ≤ shSize (rowOf (us.getD 0 0)).sh := by
     rw [← hsz]
     have := wsz_range (lets (rowOf (us.getD 0 0)).sh)
     omega
    rw [if_neg (by omega)]
    by_cases h2 : (us.length : Int) < shSize (rowOf (us.getD 0 0)).sh
    ·rw [if_pos h2]
     exact rdec_bad us b off us.length cap w hb hpos hw hc 1 (.inr ⟨rfl, hf0, by rw [hz]; exact h2⟩)
    ·rw [if_neg h2]
     have hzz : 1 + wsz s.data.toList ≤ (us.length : Int) := by rw [o3, hsz]; omega
     obtain ⟨q1, q2, q3, q4⟩ := kin_str hr.2.2.2.2.2.2.1 hr.2.2.2.2.2.2.2 o4 (us.getD 0 0 - f0) _ o5
     have := rdec_ok us b off us.length cap w rfl hpos l1 hb m1 hw hc j f0 fn fi s hj32 hfj hj q1 hzz
     unfold rfin at this
     rw [q2, q3, q4, o3, fin_eq _ _ (rowOf (us.getD 0 0)).lo (rowOf (us.getD 0 0)).fi _ _ _ o2 hr.2.2.2.1, ← o1] at this
     exact this
   ·exact absurd hok (by simp)
end Go.Proofs.YtcjcmnnhmajocabGreat.Gu
namespace Go.Proofs.YtcjcmnnhmajocabGreat.St
open Go.RowKit Kt Me Fl Gu
/-- the numbers of what Decode answers -/
def dz (v : Value) (i : Nat) : Int := match v with
 | .tuple #[.agg #[.int _ a, .int _ b, .int _ c, .int _ d, .int _ e], .int _ n, .int _ z] => [a, b, c, d, e, n, z].getD i 0
 | _ => 0
def stopV (k x : Int) : Value := .tuple #[agg5 0 0 0 0 0, .int .i64 0, .agg #[.int .i64 k, .int .u32 x]]
/-- the bytes of the instruction's size at a place -/
def szI (M : MM) (pc : Int) : Int := shSize (rowOf ((fetL M pc 1).getD 0 0)).sh
def usI (M : MM) (pc : Int) : List Int := fetL M pc (szI M pc)
def insV (M : MM) (pc : Int) : Value := match fetS M pc 1 with
 | some x => stopV 4 x
 | none => match fetS M pc (szI M pc) with
  | some x => stopV 4 x
  | none => if dz (decv (usI M pc)) 6 = 0 then .tuple #[agg5 (dz (decv (usI M pc)) 0) (dz (decv (usI M pc)) 1) (dz (decv (usI M pc)) 2) (dz (decv (usI M pc)) 3) (dz (decv (usI M pc)) 4), .int .i64 (dz (decv (usI M pc)) 5), .agg #[.int .i64 0, .int .u32 0]] else stopV 3 0
/-- the result's cells, as they begin -/
structure FR (h : Nat) (W : World) : Prop where
 a0 : W.cell? ⟨h, 0, none⟩ = some (.int .i64 0)
 a1 : W.cell? ⟨h, 1, none⟩ = some (.int .i64 0)
 a2 : W.cell? ⟨h, 2, none⟩ = some (.int .i64 0)
 a3 : W.cell? ⟨h, 3, none⟩ = some (.int .i64 0)
 a4 : W.cell? ⟨h, 4, none⟩ = some (.int .u32 0)
 b0 : W.cell? ⟨h + 1, 0, none⟩ = some (.int .i64 0)
 b1 : W.cell? ⟨h + 1, 1, none⟩ = some (.int .u32 0)
 za : ∀ i, W.frozen? ⟨h, i, none⟩ = false
 zb : ∀ i, W.frozen? ⟨h + 1, i, none⟩ = false
 l : h + 1 < W.heap.size
theorem FR.below {h : Nat} {W W' : World} (f : FR h W) (b : Below W.heap.size W W') : FR h W' :=
 have l0 : h < W.heap.size := Nat.lt_of_succ_lt f.l
 ⟨(b.cell (p := ⟨h, 0, none⟩) l0).trans f.a0, (b.cell (p := ⟨h, 1, none⟩) l0).trans f.a1, (b.cell (p := ⟨h, 2, none⟩) l0).trans f.a2, (b.cell (p := ⟨h, 3, none⟩) l0).trans f.a3, (b.cell (p := ⟨h, 4, none⟩) l0).trans f.a4,
  (b.cell (p := ⟨h + 1, 0, none⟩) f.l).trans f.b0, (b.cell (p := ⟨h + 1, 1, none⟩) f.l).trans f.b1, fun i => (b.frozen (p := ⟨h, i, none⟩) l0).trans (f.za i), fun i => (b.frozen (p := ⟨h + 1, i, none⟩) f.l).trans (f.zb i), Nat.lt_of_lt_of_le f.l b.size⟩
/-- the result's cells, as they are written -/
structure FQ (h : Nat) (u t : Nat → Value) (W : World) : Prop where
 a : ∀ i, i < 5 → W.cell? ⟨h, i, none⟩ = some (u i)
 b : ∀ i, i < 2 → W.cell? ⟨h + 1, i, none⟩ = some (t i)
 l : h + 1 < W.heap.size
theorem FQ.setA {h : Nat} {u t : Nat → Value} {W : World} (f : FQ h u t W) (i : Nat) (hi : i < 5) (v : Value) : FQ h (upd u i v) t (W.setCell ⟨h, i, none⟩ v) := by
 refine ⟨fun j hj => ?_, fun j hj => ?_, by simpa using f.l⟩
 ·by_cases e : j = i
  ·subst e; rw [World.cell?_setCell_same _ _ _ (f.a j hj)]; simp [upd]
  ·rw [World.cell?_setCell_other _ _ _ _ (by intro hx; exact e (congrArg Addr.off hx).symm), f.a j hj]; simp [upd, e]
 ·rw [World.cell?_setCell_other _ _ _ _ (by intro hx; exact absurd (congrArg Addr.block hx) (by show h ≠ h + 1; omega))]; exact f.b j hj
theorem FQ.setB {h : Nat} {u t : Nat → Value} {W : World} (f : FQ h u t W) (i : Nat) (hi : i < 2) (v : Value) : FQ h u (upd t i v) (W.setCell ⟨h + 1, i, none⟩ v) := by
 refine ⟨fun j hj => ?_, fun j hj => ?_, by simpa using f.l⟩
 ·rw [World.cell?_setCell_other _ _ _ _ (by intro hx; exact absurd (congrArg Addr.block hx) (by show h + 1 ≠ h; omega))]; exact f.a j hj
 ·by_cases e : j = i
  ·subst e; rw [World.cell?_setCell_same _ _ _ (f.b j hj)]; simp [upd]
  ·rw [World.cell?_setCell_other _ _ _ _ (by intro hx; exact e (congrArg Addr.off hx).symm), f.b j hj]; simp [upd, e]
theorem FQ.alloc {h : Nat} {u t : Nat → Value} {W : World} (f : FQ h u t W) (o : Obj) : FQ h u t (W.alloc o) := by
 have hb := (Below.refl W.heap.size W).alloc (Nat.le_refl _) o
 exact ⟨fun i hi => (hb.cell (p := ⟨h, i, none⟩) (Nat.lt_of_succ_lt f.l)).trans (f.a i hi), fun i hi => (hb.cell (p := ⟨h + 1, i, none⟩) f.l).trans (f.b i hi), Nat.lt_of_lt_of_le f.l hb.size⟩
theorem FQ.drew {h : Nat} {u t : Nat → Value} {W : World} (f : FQ h u t W) : FQ h u t W.drew := ⟨f.a, f.b, f.l⟩
theorem FR.q {h : Nat} {W : World} (f : FR h W) : FQ h (fun i => if i = 4 then .int .u32 0 else .int .i64 0) (fun i => if i = 1 then .int .u32 0 else .int .i64 0) W := by
 refine ⟨fun i hi => ?_, fun i hi => ?_, f.l⟩
 ·rcases (show i = 0 ∨ i = 1 ∨ i = 2 ∨ i = 3 ∨ i = 4 by omega) with rfl | rfl | rfl | rfl | rfl
  ·exact f.a0
  ·exact f.a1
  ·exact f.a2
  ·exact f.a3
  ·exact f.a4
 ·rcases (show i = 0 ∨ i = 1 by omega) with rfl | rfl
  ·exact f.b0
  ·exact f.b1
/-- all seven written -/
theorem FR.put {h : Nat} {W : World} (f : FR h W) (v0 v1 v2 v3 v4 y0 y1 : Value) :
  ∃ u t, FQ h u t (((((((W.setCell ⟨h, 0, none⟩ v0).setCell ⟨h, 1, none⟩ v1).setCell ⟨h, 2, none⟩ v2).setCell ⟨h, 3, none⟩ v3).setCell ⟨h, 4, none⟩ v4).setCell ⟨h + 1, 0, none⟩ y0).setCell ⟨h + 1, 1, none⟩ y1) ∧ u 0 = v0 ∧ u 1 = v1 ∧ u 2 = v2 ∧ u 3 = v3 ∧ u 4 = v4 ∧ t 0 = y0 ∧ t 1 = y1 :=
 ⟨_, _, ((((((f.q.setA 0 (by omega) v0).setA 1 (by omega) v1).setA 2 (by omega) v2).setA 3 (by omega) v3).setA 4 (by omega) v4).setB 0 (by omega) y0).setB 1 (by omega) y1, by simp [upd], by simp [upd], by simp [upd], by simp [upd], by simp [upd], by simp [upd], by simp [upd]⟩
theorem below_put {B h : Nat} {W w : World} (hb : Below B w W) (hB : B ≤ h) (v0 v1 v2 v3 v4 y0 y1 : Value) :
  Below B w (((((((W.setCell ⟨h, 0, none⟩ v0).setCell ⟨h, 1, none⟩ v1).setCell ⟨h, 2, none⟩ v2).setCell ⟨h, 3, none⟩ v3).setCell ⟨h, 4, none⟩ v4).setCell ⟨h + 1, 0, none⟩ y0).setCell ⟨h + 1, 1, none⟩ y1) :=
 ((((((hb.setCell hB _).setCell hB _).setCell hB _).setCell hB _).setCell hB _).setCell (Nat.le_succ_of_le hB) _).setCell (Nat.le_succ_of_le hB) _
def Z5 : Array Value := #[.int .i64 0, .int .i64 0, .int .i64 0, .int .i64 0, .int .u32 0]
def Z2 : Array Value := #[.int .i64 0, .int .u32 0]
theorem FR.new (w : World) : FR w.heap.size ((w.alloc (.cells Z5 74)).alloc (.cells Z2 55)) := by
 have e : (w.alloc (.cells Z5 74)).heap.size = w.heap.size + 1 := by simp
 have hb : Below (w.heap.size + 1) (w.alloc (.cells Z5 74)) ((w.alloc (.cells Z5 74)).alloc (.cells Z2 55)) := (Below.refl _ _).alloc (by rw [e]; exact Nat.le_refl _) _
 have A : ∀ i, ((w.alloc (.cells Z5 74)).alloc (.cells Z2 55)).cell? ⟨w.heap.size, i, none⟩ = Z5[i]? := fun i => (hb.cell (p := ⟨w.heap.size, i, none⟩) (Nat.lt_succ_self _)).trans (box_at w Z5 _ i)
 have B : ∀ i, ((w.alloc (.cells Z5 74)).alloc (.cells Z2 55)).cell? ⟨w.heap.size + 1, i, none⟩ = Z2[i]? := fun i => by
  have := box_at (w.alloc (.cells Z5 74)) Z2 55 i
  rw [e] at this; exact this
 refine ⟨A 0, A 1, A 2, A 3, A 4, B 0, B 1, fun i => ?_, fun i => ?_, by simp⟩
 ·refine (hb.frozen (p := ⟨w.heap.size, i, none⟩) (Nat.lt_succ_self _)).trans ?_
  unfold World.frozen?
  rw [heap_alloc_new]; simp
 ·rw [← e]
  unfold World.frozen?
  rw [heap_alloc_new]; simp
theorem Below.in2 (w : World) (o o' : Obj) : Below w.heap.size w ((w.alloc o).alloc o') := ((Below.refl _ _).alloc (Nat.le_refl _) _).alloc (by simp) _
theorem fetch_1 (p : Nat) (M : MM) (pc x : Int) (w : World) (h : HC p M w) (hM : MOk M) (c0 : 0 ≤ pc) (c1 : pc < 4294967296) (hs : fetS M pc 1 = some x) :
  Calls Tryz.prog 238 #[.pointer (some ⟨p, 0, none⟩), .int .u32 pc] w fun e w' => e = .returned (insV M pc) ∧ Below w.heap.size w w' := by
 have eV : insV M pc = stopV 4 x := by unfold insV; rw [hs]
 rw [eV]
 have CF := κ (fun w h => fetch_any p M pc 1 w h hM c0 c1)
 rw [hs, show stpV 4 (some x) = .agg #[.int .i64 4, .int .u32 x] from rfl] at CF
 have F0 := FR.new w
 have B0 := Below.in2 w (.cells Z5 74) (.cells Z2 55)
 have HH := κ (h.upto (Upto.of_below (S := fun _ => False) B0) id)
 unfold Z5 Z2 at F0 B0 HH
 unfold stopV agg5
 clear eV hs h hM
 go_enter Tryz.func238, Tryz.ntmps238
 go_wp2_with fail
 generalize (w.alloc (.cells #[.int .i64 0, .int .i64 0, .int .i64 0, .int .i64 0, .int .u32 0] 74)).alloc (.cells #[.int .i64 0, .int .u32 0] 55) = WA at F0 B0 HH ⊢
 have HF := κ F0
 have HB := κ B0
 clear F0 B0
 go_wp2_with (go_at_call 82; (with_reducible refine (CF.out _ HH.out).mono ?_); rintro e w1 ⟨v, rfl, o1, b1⟩; have HR := κ (HF.out.below b1); obtain ⟨ra0, ra1, ra2, ra3, ra4, rb0, rb1, rza, rzb, rl⟩ := HR.out; have B1 := κ (HB.out.trans (b1.mono HB.out.size)); have rl0 : w.heap.size < w1.heap.size := Nat.lt_of_succ_lt rl; clear o1 b1)
 go_region
 obtain ⟨u, t, fq, u0, u1, u2, u3, u4, t0, t1⟩ := HR.out.put (.int .i64 0) (.int .i64 0) (.int .i64 0) (.int .i64 0) (.int .u32 0) (.int .i64 4) (.int .u32 x)
 have bp := below_put B1.out (Nat.le_refl _) (.int .i64 0) (.int .i64 0) (.int .i64 0) (.int .i64 0) (.int .u32 0) (.int .i64 4) (.int .u32 x)
 have fq2 := (fq.alloc (.cells #[.int .i64 4, .int .u32 x] 55)).drew
 have bp2 := (bp.alloc (Nat.le_trans (Nat.le_of_lt (Nat.lt_of_succ_lt fq.l)) (Nat.le_refl _)) (.cells #[.int .i64 4, .int .u32 x] 55)).drew
 clear fq bp ra0 ra1 ra2 ra3 ra4 rb0 rb1 rza rzb
 generalize (World.alloc _ _).drew = WZ at fq2 bp2 ⊢
 have f0 := fq2.a 0 (by omega)
 have f1 := fq2.a 1 (by omega)
 have f2 := fq2.a 2 (by omega)
 have f3 := fq2.a 3 (by omega)
 have f4 := fq2.a 4 (by omega)
 have g0 := fq2.b 0 (by omega)
 have g1 := fq2.b 1 (by omega)
 rw [u0] at f0
 rw [u1] at f1
 rw [u2] at f2
 rw [u3] at f3
 rw [u4] at f4
 rw [t0] at g0
 rw [t1] at g1
 go_wp2_with fail
 refine bodyPost_ret (v := .tuple #[.agg #[.int .i64 0, .int .i64 0, .int .i64 0, .int .i64 0, .int .u32 0], .int .i64 0, .agg #[.int .i64 4, .int .u32 x]]) (by simp [results, Tryz.results238, go_sem, f0, f1, f2, f3, f4, g0, g1]) rfl ⟨rfl, bp2⟩
theorem FR.off {h : Nat} {W : World} (f : FR h W) {q : Addr} (h1 : q.block ≠ h) (h2 : q.block ≠ h + 1) (v : Value) : FR h (W.setCell q v) := by
 have A : ∀ i, (W.setCell q v).cell? ⟨h, i, none⟩ = W.cell? ⟨h, i, none⟩ := fun i => World.cell?_setCell_other _ _ _ _ (fun hx => h1 (congrArg Addr.block hx))
 have B : ∀ i, (W.setCell q v).cell? ⟨h + 1, i, none⟩ = W.cell? ⟨h + 1, i, none⟩ := fun i => World.cell?_setCell_other _ _ _ _ (fun hx => h2 (congrArg Addr.block hx))
 exact ⟨(A 0).trans f.a0, (A 1).trans f.a1, (A 2).trans f.a2, (A 3).trans f.a3, (A 4).trans f.a4, (B 0).trans f.b0, (B 1).trans f.b1, fun i => by simpa using f.za i, fun i => by simpa using f.zb i, by simpa using f.l⟩
theorem fz_new (w : World) (cs : Array Value) (t : TypeId) (i : Nat) : (w.alloc (.cells cs t)).frozen? ⟨w.heap.size, i, none⟩ = false := by
 unfold World.frozen?
 rw [heap_alloc_new]; simp
theorem fetL_len {M : MM} {a n : Int} (h : fetS M a n = none) (h0 : 0 ≤ n) (h8 : n ≤ 8) : (fetL M a n).length = n.toNat := by
 unfold fetS at h
 unfold fetL
 rw [if_pos ⟨h0, h8⟩] at h ⊢
 rw [h]
 simp [rdB]
theorem fetL_rg {M : MM} (hM : MOk M) (a n : Int) : ∀ j, 0 ≤ (fetL M a n).getD j 0 ∧ (fetL M a n).getD j 0 < 256 := by
 intro j
 unfold fetL
 split
 ·split
  ·rw [List.getD_eq_getElem?_getD]
   by_cases hj : j < n.toNat
   ·have := hM.1 (a.toNat + j)
    simp [rdB, hj]; exact this
   ·simp [rdB, hj]
  ·simp
 ·simp
theorem szI_bd (M : MM) (hM : MOk M) (pc : Int) : 0 ≤ szI M pc ∧ szI M pc ≤ 8 := by
 have hb := fetL_rg hM pc 1 0
 obtain ⟨_, _, h3, h4, _⟩ := row_in _ hb.1 hb.2
 unfold szI
 generalize (rowOf ((fetL M pc 1).getD 0 0)).sh = q at h3 h4 ⊢
 rcases (show q = 0 ∨ q = 1 ∨ q = 2 ∨ q = 3 ∨ q = 4 ∨ q = 5 ∨ q = 6 ∨ q = 7 ∨ q = 8 ∨ q = 9 ∨ q = 10 ∨ q = 11 ∨ q = 12 by omega) with rfl | rfl | rfl | rfl | rfl | rfl | rfl | rfl | rfl | rfl | rfl | rfl | rfl <;> decide
theorem fetch_2 (p : Nat) (M : MM) (pc x : Int) (w : World) (h : HC p M w) (hM : MOk M) (c0 : 0 ≤ pc) (c1 : pc < 4294967296) (hs : fetS M pc 1 = none) (hs2 : fetS M pc (szI M pc) = some x) :
  Calls Tryz.prog 238 #[.pointer (some ⟨p, 0, none⟩), .int .u32 pc] w fun e w' => e = .returned (insV M pc) ∧ Below w.heap.size w w' := by
 have eV : insV M pc = stopV 4 x := by unfold insV; rw [hs]; dsimp only; rw [hs2]
 rw [eV]
 have CF := κ (fun w h => fetch_any p M pc 1 w h hM c0 c1)
 have CF2 := κ (fun w h => fetch_any p M pc (szI M pc) w h hM c0 c1)
 rw [hs, show stpV 4 none = .agg #[.int .i64 0, .int .u32 0] from rfl] at CF
 rw [hs2, show stpV 4 (some x) = .agg #[.int .i64 4, .int .u32 x] from rfl] at CF2
 have HL := κ (show (fetL M pc 1).length = 1 from fetL_len hs (by omega) (by omega))
 have hb := fetL_rg hM pc 1 0
 have CZ := κ (fun w => Size_any ((fetL M pc 1).getD 0 0) hb.1 hb.2 w)
 have hz := szI_bd M hM pc
 rw [show shSize (rowOf ((fetL M pc 1).getD 0 0)).sh = szI M pc from rfl] at CZ
 obtain ⟨y, hy⟩ : ∃ y, (fetL M pc 1).getD 0 0 = y := ⟨_, rfl⟩
 rw [hy] at CZ hb
 have HY := κ hy
 clear hy
 generalize szI M pc = z at CF2 CZ hz
 have F0 := FR.new w
 have B0 := Below.in2 w (.cells Z5 74) (.cells Z2 55)
 have HH := κ (h.upto (Upto.of_below (S := fun _ => False) B0) id)
 unfold Z5 Z2 at F0 B0 HH
 unfold stopV agg5
 clear eV hs hs2 h hM
 go_enter Tryz.func238, Tryz.ntmps238
 go_wp2_with fail
 generalize (w.alloc (.cells #[.int .i64 0, .int .i64 0, .int .i64 0, .int .i64 0, .int .u32 0] 74)).alloc (.cells #[.int .i64 0, .int .u32 0] 55) = WA at F0 B0 HH ⊢
 have HF := κ F0
 have HB := κ B0
 clear F0 B0
 go_wp2_with (go_at_call 82; (with_reducible refine (CF.out _ HH.out).mono ?_); rintro e w1 ⟨v, rfl, o1, b1⟩; have HR := κ (HF.out.below b1); have rl0 : w.heap.size < w1.heap.size := Nat.lt_of_succ_lt HR.out.l; obtain ⟨ao, cap, rfl, bs, _⟩ := o1.form; obtain ⟨bl, bm, bk⟩ := bs; rw [HL.out] at bl bk ⊢; obtain ⟨bb, boff, rfl, bbl, bc⟩ := bk (by omega); have bc0 := bc 0 (by omega); rw [Nat.add_zero, HY.out] at bc0; have HH1 := κ (HH.out.upto (Upto.of_below (S := fun _ => False) b1) id); have B1 := κ (HB.out.trans (b1.mono HB.out.size)); clear o1 b1 bk bc)
 go_at_call 83
 (with_reducible refine (CZ.out _).mono ?_)
 rintro e w2 ⟨rfl, b2⟩
 have hw : Below w1.heap.size w1 (w1.alloc (.cells #[.int .i64 0, .int .u32 0] 55)) := (Below.refl _ _).alloc (Nat.le_refl _) _
 have ls0 : w1.heap.size < (w1.alloc (.cells #[.int .i64 0, .int .u32 0] 55)).heap.size := by simp
 have HR2 := κ ((HR.out.below hw).below b2)
 have HH2 := κ ((HH1.out.upto (Upto.of_below (S := fun _ => False) hw) id).upto (Upto.of_below (S := fun _ => False) b2) id)
 have B2 := κ ((B1.out.trans (hw.mono (Nat.le_of_lt rl0))).trans (b2.mono (Nat.le_trans (Nat.le_of_lt rl0) hw.size)))
 have s0 := (b2.cell (p := ⟨w1.heap.size, 0, none⟩) ls0).trans (box_at w1 _ _ 0)
 have s1 := (b2.cell (p := ⟨w1.heap.size, 1, none⟩) ls0).trans (box_at w1 _ _ 1)
 have zs := fun i => (b2.frozen (p := ⟨w1.heap.size, i, none⟩) ls0).trans (fz_new w1 _ _ i)
 have ls := Nat.lt_of_lt_of_le ls0 b2.size
 have sb : w.heap.size < w2.heap.size := Nat.lt_of_succ_lt HR2.out.l
 clear b2 hw
 go_wp2_with (go_at_call 82; (with_reducible refine (CF2.out _ HH2.out).mono ?_); rintro e w3 ⟨v2, rfl, o3, b3⟩; have HR3 := κ (HR2.out.below b3); have B3 := κ (B2.out.trans (b3.mono (Nat.le_of_lt sb))); have r0 := (b3.cell (p := ⟨w1.heap.size, 0, none⟩) ls).trans s0; have r1 := (b3.cell (p := ⟨w1.heap.size, 1, none⟩) ls).trans s1; have zr := fun i => (b3.frozen (p := ⟨w1.heap.size, i, none⟩) ls).trans (zs i); have lr := Nat.lt_of_lt_of_le ls b3.size; obtain ⟨ra0, ra1, ra2, ra3, ra4, rb0, rb1, rza, rzb, rl⟩ := HR3.out; have rl3 := Nat.lt_of_succ_lt rl; have O3 := κ o3; clear b3 o3)
 have n1 : w1.heap.size ≠ w.heap.size := Nat.ne_of_gt rl0
 have n2 : w1.heap.size ≠ w.heap.size + 1 := Nat.ne_of_gt HR.out.l
 have HR4 := κ ((HR3.out.off (q := ⟨w1.heap.size, 0, none⟩) n1 n2 (.int .i64 4)).off (q := ⟨w1.heap.size, 1, none⟩) n1 n2 (.int .u32 x))
 have q0 : ((w3.setCell ⟨w1.heap.size, 0, none⟩ (.int .i64 4)).setCell ⟨w1.heap.size, 1, none⟩ (.int .u32 x)).cell? ⟨w1.heap.size, 0, none⟩ = some (.int .i64 4) := (off (by omega)).trans (World.cell?_setCell_same _ _ _ r0)
 have q1 : ((w3.setCell ⟨w1.heap.size, 0, none⟩ (.int .i64 4)).setCell ⟨w1.heap.size, 1, none⟩ (.int .u32 x)).cell? ⟨w1.heap.size, 1, none⟩ = some (.int .u32 x) := World.cell?_setCell_same _ _ _ ((off (by omega)).trans r1)
 have B4 := κ ((B3.out.setCell (p := ⟨w1.heap.size, 0, none⟩) (Nat.le_of_lt rl0) (.int .i64 4)).setCell (p := ⟨w1.heap.size, 1, none⟩) (Nat.le_of_lt rl0) (.int .u32 x))
 clear ra0 ra1 ra2 ra3 ra4 rb0 rb1 rza rzb rl rl3 r0 r1 zr lr s0 s1 zs ls
 generalize (w3.setCell ⟨w1.heap.size, 0, none⟩ (.int .i64 4)).setCell ⟨w1.heap.size, 1, none⟩ (.int .u32 x) = W4 at HR4 q0 q1 B4 ⊢
 obtain ⟨ra0, ra1, ra2, ra3, ra4, rb0, rb1, rza, rzb, rl⟩ := HR4.out
 go_region
 obtain ⟨u, t, fq, u0, u1, u2, u3, u4, t0, t1⟩ := HR4.out.put (.int .i64 0) (.int .i64 0) (.int .i64 0) (.int .i64 0) (.int .u32 0) (.int .i64 4) (.int .u32 x)
 have bp2 := (below_put B4.out (Nat.le_refl _) (.int .i64 0) (.int .i64 0) (.int .i64 0) (.int .i64 0) (.int .u32 0) (.int .i64 4) (.int .u32 x)).drew
 have fq2 := fq.drew
 clear fq ra0 ra1 ra2 ra3 ra4 rb0 rb1 rza rzb
 generalize World.drew _ = WZ at fq2 bp2 ⊢
 have f0 := fq2.a 0 (by omega)
 have f1 := fq2.a 1 (by omega)
 have f2 := fq2.a 2 (by omega)
 have f3 := fq2.a 3 (by omega)
 have f4 := fq2.a 4 (by omega)
 have g0 := fq2.b 0 (by omega)
 have g1 := fq2.b 1 (by omega)
 rw [u0] at f0
 rw [u1] at f1
 rw [u2] at f2
 rw [u3] at f3
 rw [u4] at f4
 rw [t0] at g0
 rw [t1] at g1
 go_wp2_with fail
 refine bodyPost_ret (v := .tuple #[.agg #[.int .i64 0, .int .i64 0, .int .i64 0, .int .i64 0, .int .u32 0], .int .i64 0, .agg #[.int .i64 4, .int .u32 x]]) (by simp [results, Tryz.results238, go_sem, f0, f1, f2, f3, f4, g0, g1]) rfl ⟨rfl, bp2⟩
theorem fetch_3 (p : Nat) (M : MM) (pc : Int) (w : World) (h : HC p M w) (hM : MOk M) (c0 : 0 ≤ pc) (c1 : pc < 4294967296) (hs : fetS M pc 1 = none) (hs2 : fetS M pc (szI M pc) = none) :
  Calls Tryz.prog 238 #[.pointer (some ⟨p, 0, none⟩), .int .u32 pc] w fun e w' => e = .returned (insV M pc) ∧ Below w.heap.size w w' := by
 obtain ⟨o, d, s, g, m, n, zz, hd⟩ := decv_shape (usI M pc)
 have eV : insV M pc = if zz = 0 then .tuple #[agg5 o d s g m, .int .i64 n, .agg #[.int .i64 0, .int .u32 0]] else stopV 3 0 := by
  unfold insV; rw [hs]; dsimp only; rw [hs2]; dsimp only; rw [hd]; rfl
 rw [eV]
 have hu := fetL_rg hM pc (szI M pc)
 unfold usI at hd
 have CF := κ (fun w h => fetch_any p M pc 1 w h hM c0 c1)
 have CF2 := κ (fun w h => fetch_any p M pc (szI M pc) w h hM c0 c1)
 rw [hs, show stpV 4 none = .agg #[.int .i64 0, .int .u32 0] from rfl] at CF
 rw [hs2, show stpV 4 none = .agg #[.int .i64 0, .int .u32 0] from rfl] at CF2
 have HL := κ (show (fetL M pc 1).length = 1 from fetL_len hs (by omega) (by omega))
 have hb := fetL_rg hM pc 1 0
 have CZ := κ (fun w => Size_any ((fetL M pc 1).getD 0 0) hb.1 hb.2 w)
 have hz := szI_bd M hM pc
 rw [show shSize (rowOf ((fetL M pc 1).getD 0 0)).sh = szI M pc from rfl] at CZ
 obtain ⟨y, hy⟩ : ∃ y, (fetL M pc 1).getD 0 0 = y := ⟨_, rfl⟩
 rw [hy] at CZ hb
 have HY := κ hy
 clear hy
 generalize szI M pc = z at CF2 CZ hz hd hu
 generalize fetL M pc z = us at CF2 hd hu
 have CD := κ (fun ao cap w h => gdec_all us ao cap w h hu)
 rw [hd] at CD
 clear hd hu
 have F0 := FR.new w
 have B0 := Below.in2 w (.cells Z5 74) (.cells Z2 55)
 have HH := κ (h.upto (Upto.of_below (S := fun _ => False) B0) id)
 unfold Z5 Z2 at F0 B0 HH
 unfold stopV agg5
 unfold agg5 at CD
 generalize hV : (if zz = 0 then _ else _ : Value) = V
 have HV := κ hV
 clear hV
 clear eV hs hs2 h hM
 go_enter Tryz.func238, Tryz.ntmps238
 go_wp2_with fail
 generalize (w.alloc (.cells #[.int .i64 0, .int .i64 0, .int .i64 0, .int .i64 0, .int .u32 0] 74)).alloc (.cells #[.int .i64 0, .int .u32 0] 55) = WA at F0 B0 HH ⊢
 have HF := κ F0
 have HB := κ B0
 clear F0 B0
 go_wp2_with (go_at_call 82; (with_reducible refine (CF.out _ HH.out).mono ?_); rintro e w1 ⟨v, rfl, o1, b1⟩; have HR := κ (HF.out.below b1); have rl0 : w.heap.size < w1.heap.size := Nat.lt_of_succ_lt HR.out.l; obtain ⟨ao, cap, rfl, bs, _⟩ := o1.form; obtain ⟨bl, bm, bk⟩ := bs; rw [HL.out] at bl bk ⊢; obtain ⟨bb, boff, rfl, bbl, bc⟩ := bk (by omega); have bc0 := bc 0 (by omega); rw [Nat.add_zero, HY.out] at bc0; have HH1 := κ (HH.out.upto (Upto.of_below (S := fun _ => False) b1) id); have B1 := κ (HB.out.trans (b1.mono HB.out.size)); clear o1 b1 bk bc)
 go_at_call 83
 (with_reducible refine (CZ.out _).mono ?_)
 rintro e w2 ⟨rfl, b2⟩
 have hw : Below w1.heap.size w1 (w1.alloc (.cells #[.int .i64 0, .int .u32 0] 55)) := (Below.refl _ _).alloc (Nat.le_refl _) _
 have ls0 : w1.heap.size < (w1.alloc (.cells #[.int .i64 0, .int .u32 0] 55)).heap.size := by simp
 have HR2 := κ ((HR.out.below hw).below b2)
 have HH2 := κ ((HH1.out.upto (Upto.of_below (S := fun _ => False) hw) id).upto (Upto.of_below (S := fun _ => False) b2) id)
 have B2 := κ ((B1.out.trans (hw.mono (Nat.le_of_lt rl0))).trans (b2.mono (Nat.le_trans (Nat.le_of_lt rl0) hw.size)))
 have s0 := (b2.cell (p := ⟨w1.heap.size, 0, none⟩) ls0).trans (box_at w1 _ _ 0)
 have s1 := (b2.cell (p := ⟨w1.heap.size, 1, none⟩) ls0).trans (box_at w1 _ _ 1)
 have zs := fun i => (b2.frozen (p := ⟨w1.heap.size, i, none⟩) ls0).trans (fz_new w1 _ _ i)
 have ls := Nat.lt_of_lt_of_le ls0 b2.size
 have sb : w.heap.size < w2.heap.size := Nat.lt_of_succ_lt HR2.out.l
 clear b2 hw
 go_wp2_with (go_at_call 82; (with_reducible refine (CF2.out _ HH2.out).mono ?_); rintro e w3 ⟨v2, rfl, o3, b3⟩; have HR3 := κ (HR2.out.below b3); have B3 := κ (B2.out.trans (b3.mono (Nat.le_of_lt sb))); have r0 := (b3.cell (p := ⟨w1.heap.size, 0, none⟩) ls).trans s0; have r1 := (b3.cell (p := ⟨w1.heap.size, 1, none⟩) ls).trans s1; have zr := fun i => (b3.frozen (p := ⟨w1.heap.size, i, none⟩) ls).trans (zs i); have lr := Nat.lt_of_lt_of_le ls b3.size; obtain ⟨ra0, ra1, ra2, ra3, ra4, rb0, rb1, rza, rzb, rl⟩ := HR3.out; have rl3 := Nat.lt_of_succ_lt rl; have O3 := κ o3; clear b3 o3)
 have n1 : w1.heap.size ≠ w.heap.size := Nat.ne_of_gt rl0
 have n2 : w1.heap.size ≠ w.heap.size + 1 := Nat.ne_of_gt HR.out.l
 have HR4 := κ ((HR3.out.off (q := ⟨w1.heap.size, 0, none⟩) n1 n2 (.int .i64 0)).off (q := ⟨w1.heap.size, 1, none⟩) n1 n2 (.int .u32 0))
 have B4 := κ ((B3.out.setCell (p := ⟨w1.heap.size, 0, none⟩) (Nat.le_of_lt rl0) (.int .i64 0)).setCell (p := ⟨w1.heap.size, 1, none⟩) (Nat.le_of_lt rl0) (.int .u32 0))
 have O4 := (O3.out.below (q := ⟨w1.heap.size, 0, none⟩) ls (.int .i64 0)).below (q := ⟨w1.heap.size, 1, none⟩) ls (.int .u32 0)
 clear ra0 ra1 ra2 ra3 ra4 rb0 rb1 rza rzb rl rl3 r0 r1 zr lr s0 s1 zs ls
 generalize (w3.setCell ⟨w1.heap.size, 0, none⟩ (.int .i64 0)).setCell ⟨w1.heap.size, 1, none⟩ (.int .u32 0) = W4 at HR4 B4 O4 ⊢
 obtain ⟨ao3, cap3, rfl, bs3, _⟩ := O4.form
 clear O4
 go_at_call 84
 with_reducible refine (CD.out _ _ _ bs3).mono ?_
 clear bs3
 rintro e w5 ⟨rfl, b5⟩
 have HR5 := κ (HR4.out.below b5)
 have lw4 : w.heap.size < W4.heap.size := Nat.lt_of_succ_lt HR4.out.l
 have B5 := κ (B4.out.trans (b5.mono (Nat.le_of_lt lw4)))
 clear b5
 obtain ⟨ra0, ra1, ra2, ra3, ra4, rb0, rb1, rza, rzb, rl⟩ := HR5.out
 have rl5 := Nat.lt_of_succ_lt rl
 by_cases hz0 : zz = 0
 ·subst hz0
  go_upto_region 10 with fail
  have hb6 := (Below.refl w5.heap.size w5).alloc (Nat.le_refl _) (.cells #[.int .i64 o, .int .i64 d, .int .i64 s, .int .i64 g, .int .u32 m] 74)
  have HR6 := κ (HR5.out.below hb6)
  have B6 := κ (B5.out.alloc (Nat.le_of_lt rl5) (.cells #[.int .i64 o, .int .i64 d, .int .i64 s, .int .i64 g, .int .u32 m] 74))
  have k0 := box_at w5 #[.int .i64 o, .int .i64 d, .int .i64 s, .int .i64 g, .int .u32 m] 74 0
  have k1 := box_at w5 #[.int .i64 o, .int .i64 d, .int .i64 s, .int .i64 g, .int .u32 m] 74 1
  have k2 := box_at w5 #[.int .i64 o, .int .i64 d, .int .i64 s, .int .i64 g, .int .u32 m] 74 2
  have k3 := box_at w5 #[.int .i64 o, .int .i64 d, .int .i64 s, .int .i64 g, .int .u32 m] 74 3
  have k4 := box_at w5 #[.int .i64 o, .int .i64 d, .int .i64 s, .int .i64 g, .int .u32 m] 74 4
  simp only [List.getElem?_toArray, List.getElem?_cons_zero, List.getElem?_cons_succ] at k0 k1 k2 k3 k4
  clear ra0 ra1 ra2 ra3 ra4 rb0 rb1 rza rzb rl hb6
  generalize w5.alloc (.cells #[.int .i64 o, .int .i64 d, .int .i64 s, .int .i64 g, .int .u32 m] 74) = W6 at HR6 B6 k0 k1 k2 k3 k4 ⊢
  obtain ⟨ra0, ra1, ra2, ra3, ra4, rb0, rb1, rza, rzb, rl⟩ := HR6.out
  have za0 := rza 0
  have za1 := rza 1
  have za2 := rza 2
  have za3 := rza 3
  have za4 := rza 4
  have zb0 := rzb 0
  have zb1 := rzb 1
  clear rza rzb
  go_wp2_with fail
  obtain ⟨u, t, fq2, u0, u1, u2, u3, u4, t0, t1⟩ := HR6.out.put (.int .i64 o) (.int .i64 d) (.int .i64 s) (.int .i64 g) (.int .u32 m) (.int .i64 0) (.int .u32 0)
  have bp2 := below_put B6.out (Nat.le_refl _) (.int .i64 o) (.int .i64 d) (.int .i64 s) (.int .i64 g) (.int .u32 m) (.int .i64 0) (.int .u32 0)
  clear ra0 ra1 ra2 ra3 ra4 rb0 rb1 za0 za1 za2 za3 za4 zb0 zb1 k0 k1 k2 k3 k4
  generalize World.setCell _ ⟨w.heap.size + 1, 1, none⟩ _ = WZ at fq2 bp2 ⊢
  have f0 := fq2.a 0 (by omega)
  have f1 := fq2.a 1 (by omega)
  have f2 := fq2.a 2 (by omega)
  have f3 := fq2.a 3 (by omega)
  have f4 := fq2.a 4 (by omega)
  have g0 := fq2.b 0 (by omega)
  have g1 := fq2.b 1 (by omega)
  rw [u0] at f0
  rw [u1] at f1
  rw [u2] at f2
  rw [u3] at f3
  rw [u4] at f4
  rw [t0] at g0
  rw [t1] at g1
  refine bodyPost_ret (v := .tuple #[.agg #[.int .i64 o, .int .i64 d, .int .i64 s, .int .i64 g, .int .u32 m], .int .i64 n, .agg #[.int .i64 0, .int .u32 0]]) (by simp [results, Tryz.results238, go_sem, f0, f1, f2, f3, f4, g0, g1]) rfl ⟨by rw [← HV.out, if_pos trivial], bp2⟩
 ·have hzb : (zz == 0) = false := by rw [beq_eq_false_iff_ne]; exact hz0
  have hzn : (zz != 0) = true := by rw [bne, hzb]; rfl
  go_upto_region 9 with fail
  have hb6 := (Below.refl w5.heap.size w5).alloc (Nat.le_refl _) (.cells #[.int .i64 o, .int .i64 d, .int .i64 s, .int .i64 g, .int .u32 m] 74)
  have HR6 := κ (HR5.out.below hb6)
  have B6 := κ (B5.out.alloc (Nat.le_of_lt rl5) (.cells #[.int .i64 o, .int .i64 d, .int .i64 s, .int .i64 g, .int .u32 m] 74))
  have k0 := box_at w5 #[.int .i64 o, .int .i64 d, .int .i64 s, .int .i64 g, .int .u32 m] 74 0
  have k1 := box_at w5 #[.int .i64 o, .int .i64 d, .int .i64 s, .int .i64 g, .int .u32 m] 74 1
  have k2 := box_at w5 #[.int .i64 o, .int .i64 d, .int .i64 s, .int .i64 g, .int .u32 m] 74 2
  have k3 := box_at w5 #[.int .i64 o, .int .i64 d, .int .i64 s, .int .i64 g, .int .u32 m] 74 3
  have k4 := box_at w5 #[.int .i64 o, .int .i64 d, .int .i64 s, .int .i64 g, .int .u32 m] 74 4
  simp only [List.getElem?_toArray, List.getElem?_cons_zero, List.getElem?_cons_succ] at k0 k1 k2 k3 k4
  clear ra0 ra1 ra2 ra3 ra4 rb0 rb1 rza rzb rl hb6
  generalize w5.alloc (.cells #[.int .i64 o, .int .i64 d, .int .i64 s, .int .i64 g, .int .u32 m] 74) = W6 at HR6 B6 k0 k1 k2 k3 k4 ⊢
  obtain ⟨ra0, ra1, ra2, ra3, ra4, rb0, rb1, rza, rzb, rl⟩ := HR6.out
  have za0 := rza 0
  have za1 := rza 1
  have za2 := rza 2
  have za3 := rza 3
  have za4 := rza 4
  have zb0 := rzb 0
  have zb1 := rzb 1
  clear rza rzb
  go_wp2_with fail
  obtain ⟨u, t, fq2, u0, u1, u2, u3, u4, t0, t1⟩ := HR6.out.put (.int .i64 0) (.int .i64 0) (.int .i64 0) (.int .i64 0) (.int .u32 0) (.int .i64 3) (.int .u32 0)
  have bp2 := below_put B6.out (Nat.le_refl _) (.int .i64 0) (.int .i64 0) (.int .i64 0) (.int .i64 0) (.int .u32 0) (.int .i64 3) (.int .u32 0)
  clear ra0 ra1 ra2 ra3 ra4 rb0 rb1 za0 za1 za2 za3 za4 zb0 zb1 k0 k1 k2 k3 k4
  generalize World.setCell _ ⟨w.heap.size + 1, 1, none⟩ _ = WZ at fq2 bp2 ⊢
  have f0 := fq2.a 0 (by omega)
  have f1 := fq2.a 1 (by omega)
  have f2 := fq2.a 2 (by omega)
  have f3 := fq2.a 3 (by omega)
  have f4 := fq2.a 4 (by omega)
  have g0 := fq2.b 0 (by omega)
  have g1 := fq2.b 1 (by omega)
  rw [u0] at f0
  rw [u1] at f1
  rw [u2] at f2
  rw [u3] at f3
  rw [u4] at f4
  rw [t0] at g0
  rw [t1] at g1
  refine bodyPost_ret (v := .tuple #[.agg #[.int .i64 0, .int .i64 0, .int .i64 0, .int .i64 0, .int .u32 0], .int .i64 0, .agg #[.int .i64 3, .int .u32 0]]) (by simp [results, Tryz.results238, go_sem, f0, f1, f2, f3, f4, g0, g1]) rfl ⟨by rw [← HV.out, if_neg hz0], bp2⟩
theorem fetch_all (p : Nat) (M : MM) (pc : Int) (w : World) (h : HC p M w) (hM : MOk M) (c0 : 0 ≤ pc) (c1 : pc < 4294967296) :
  Calls Tryz.prog 238 #[.pointer (some ⟨p, 0, none⟩), .int .u32 pc] w fun e w' => e = .returned (insV M pc) ∧ Below w.heap.size w w' := by
 cases hs : fetS M pc 1 with
 | some x => exact fetch_1 p M pc x w h hM c0 c1 hs
 | none => cases hs2 : fetS M pc (szI M pc) with
  | some x => exact fetch_2 p M pc x w h hM c0 c1 hs hs2
  | none => exact fetch_3 p M pc w h hM c0 c1 hs hs2
end Go.Proofs.YtcjcmnnhmajocabGreat.St
namespace Go.Proofs.YtcjcmnnhmajocabGreat.Lf
open Go.RowKit Kt Me Fl Gu St
theorem fetch_1 (p : Nat) (M : MM) (pc x : Int) (w : World) (h : HC p M w) (hM : MOk M) (c0 : 0 ≤ pc) (c1 : pc < 4294967296) (hs : fetS M pc 1 = some x) :
  Calls Tryz.prog 53 #[.pointer (some ⟨p, 0, none⟩), .int .u32 pc] w fun e w' => e = .returned (insV M pc) ∧ Below w.heap.size w w' := by
 have eV : insV M pc = stopV 4 x := by unfold insV; rw [hs]
 rw [eV]
 have CF := κ (fun w h => fetch_any p M pc 1 w h hM c0 c1)
 rw [hs, show stpV 4 (some x) = .agg #[.int .i64 4, .int .u32 x] from rfl] at CF
 have F0 := FR.new w
 have B0 := Below.in2 w (.cells Z5 74) (.cells Z2 55)
 have HH := κ (h.upto (Upto.of_below (S := fun _ => False) B0) id)
 unfold Z5 Z2 at F0 B0 HH
 unfold stopV agg5
 clear eV hs h hM
 go_enter Tryz.func53, Tryz.ntmps53
 go_wp2_with fail
 generalize (w.alloc (.cells #[.int .i64 0, .int .i64 0, .int .i64 0, .int .i64 0, .int .u32 0] 74)).alloc (.cells #[.int .i64 0, .int .u32 0] 55) = WA at F0 B0 HH ⊢
 have HF := κ F0
 have HB := κ B0
 clear F0 B0
 go_wp2_with (go_at_call 82; (with_reducible refine (CF.out _ HH.out).mono ?_); rintro e w1 ⟨v, rfl, o1, b1⟩; have HR := κ (HF.out.below b1); obtain ⟨ra0, ra1, ra2, ra3, ra4, rb0, rb1, rza, rzb, rl⟩ := HR.out; have B1 := κ (HB.out.trans (b1.mono HB.out.size)); have rl0 : w.heap.size < w1.heap.size := Nat.lt_of_succ_lt rl; clear o1 b1)
 go_region
 obtain ⟨u, t, fq, u0, u1, u2, u3, u4, t0, t1⟩ := HR.out.put (.int .i64 0) (.int .i64 0) (.int .i64 0) (.int .i64 0) (.int .u32 0) (.int .i64 4) (.int .u32 x)
 have bp := below_put B1.out (Nat.le_refl _) (.int .i64 0) (.int .i64 0) (.int .i64 0) (.int .i64 0) (.int .u32 0) (.int .i64 4) (.int .u32 x)
 have fq2 := (fq.alloc (.cells #[.int .i64 4, .int .u32 x] 55)).drew
 have bp2 := (bp.alloc (Nat.le_trans (Nat.le_of_lt (Nat.lt_of_succ_lt fq.l)) (Nat.le_refl _)) (.cells #[.int .i64 4, .int .u32 x] 55)).drew
 clear fq bp ra0 ra1 ra2 ra3 ra4 rb0 rb1 rza rzb
 generalize (World.alloc _ _).drew = WZ at fq2 bp2 ⊢
 have f0 := fq2.a 0 (by omega)
 have f1 := fq2.a 1 (by omega)
 have f2 := fq2.a 2 (by omega)
 have f3 := fq2.a 3 (by omega)
 have f4 := fq2.a 4 (by omega)
 have g0 := fq2.b 0 (by omega)
 have g1 := fq2.b 1 (by omega)
 rw [u0] at f0
 rw [u1] at f1
 rw [u2] at f2
 rw [u3] at f3
 rw [u4] at f4
 rw [t0] at g0
 rw [t1] at g1
 go_wp2_with fail
 refine bodyPost_ret (v := .tuple #[.agg #[.int .i64 0, .int .i64 0, .int .i64 0, .int .i64 0, .int .u32 0], .int .i64 0, .agg #[.int .i64 4, .int .u32 x]]) (by simp [results, Tryz.results53, go_sem, f0, f1, f2, f3, f4, g0, g1]) rfl ⟨rfl, bp2⟩
theorem fetch_2 (p : Nat) (M : MM) (pc x : Int) (w : World) (h : HC p M w) (hM : MOk M) (c0 : 0 ≤ pc) (c1 : pc < 4294967296) (hs : fetS M pc 1 = none) (hs2 : fetS M pc (szI M pc) = some x) :
  Calls Tryz.prog 53 #[.pointer (some ⟨p, 0, none⟩), .int .u32 pc] w fun e w' => e = .returned (insV M pc) ∧ Below w.heap.size w w' := by
 have eV : insV M pc = stopV 4 x := by unfold insV; rw [hs]; dsimp only; rw [hs2]
 rw [eV]
 have CF := κ (fun w h => fetch_any p M pc 1 w h hM c0 c1)
 have CF2 := κ (fun w h => fetch_any p M pc (szI M pc) w h hM c0 c1)
 rw [hs, show stpV 4 none = .agg #[.int .i64 0, .int .u32 0] from rfl] at CF
 rw [hs2, show stpV 4 (some x) = .agg #[.int .i64 4, .int .u32 x] from rfl] at CF2
 have HL := κ (show (fetL M pc 1).length = 1 from fetL_len hs (by omega) (by omega))
 have hb := fetL_rg hM pc 1 0
 have CZ := κ (fun w => Size_any ((fetL M pc 1).getD 0 0) hb.1 hb.2 w)
 have hz := szI_bd M hM pc
 rw [show shSize (rowOf ((fetL M pc 1).getD 0 0)).sh = szI M pc from rfl] at CZ
 obtain ⟨y, hy⟩ : ∃ y, (fetL M pc 1).getD 0 0 = y := ⟨_, rfl⟩
 rw [hy] at CZ hb
 have HY := κ hy
 clear hy
 generalize szI M pc = z at CF2 CZ hz
 have F0 := FR.new w
 have B0 := Below.in2 w (.cells Z5 74) (.cells Z2 55)
 have HH := κ (h.upto (Upto.of_below (S := fun _ => False) B0) id)
 unfold Z5 Z2 at F0 B0 HH
 unfold stopV agg5
 clear eV hs hs2 h hM
 go_enter Tryz.func53, Tryz.ntmps53
 go_wp2_with fail
 generalize (w.alloc (.cells #[.int .i64 0, .int .i64 0, .int .i64 0, .int .i64 0, .int .u32 0] 74)).alloc (.cells #[.int .i64 0, .int .u32 0] 55) = WA at F0 B0 HH ⊢
 have HF := κ F0
 have HB := κ B0
 clear F0 B0
 go_wp2_with (go_at_call 82; (with_reducible refine (CF.out _ HH.out).mono ?_); rintro e w1 ⟨v, rfl, o1, b1⟩; have HR := κ (HF.out.below b1); have rl0 : w.heap.size < w1.heap.size := Nat.lt_of_succ_lt HR.out.l; obtain ⟨ao, cap, rfl, bs, _⟩ := o1.form; obtain ⟨bl, bm, bk⟩ := bs; rw [HL.out] at bl bk ⊢; obtain ⟨bb, boff, rfl, bbl, bc⟩ := bk (by omega); have bc0 := bc 0 (by omega); rw [Nat.add_zero, HY.out] at bc0; have HH1 := κ (HH.out.upto (Upto.of_below (S := fun _ => False) b1) id); have B1 := κ (HB.out.trans (b1.mono HB.out.size)); clear o1 b1 bk bc)
 go_at_call 83
 (with_reducible refine (CZ.out _).mono ?_)
 rintro e w2 ⟨rfl, b2⟩
 have hw : Below w1.heap.size w1 (w1.alloc (.cells #[.int .i64 0, .int .u32 0] 55)) := (Below.refl _ _).alloc (Nat.le_refl _) _
 have ls0 : w1.heap.size < (w1.alloc (.cells #[.int .i64 0, .int .u32 0] 55)).heap.size := by simp
 have HR2 := κ ((HR.out.below hw).below b2)
 have HH2 := κ ((HH1.out.upto (Upto.of_below (S := fun _ => False) hw) id).upto (Upto.of_below (S := fun _ => False) b2) id)
 have B2 := κ ((B1.out.trans (hw.mono (Nat.le_of_lt rl0))).trans (b2.mono (Nat.le_trans (Nat.le_of_lt rl0) hw.size)))
 have s0 := (b2.cell (p := ⟨w1.heap.size, 0, none⟩) ls0).trans (box_at w1 _ _ 0)
 have s1 := (b2.cell (p := ⟨w1.heap.size, 1, none⟩) ls0).trans (box_at w1 _ _ 1)
 have zs := fun i => (b2.frozen (p := ⟨w1.heap.size, i, none⟩) ls0).trans (fz_new w1 _ _ i)
 have ls := Nat.lt_of_lt_of_le ls0 b2.size
 have sb : w.heap.size < w2.heap.size := Nat.lt_of_succ_lt HR2.out.l
 clear b2 hw
 go_wp2_with (go_at_call 82; (with_reducible refine (CF2.out _ HH2.out).mono ?_); rintro e w3 ⟨v2, rfl, o3, b3⟩; have HR3 := κ (HR2.out.below b3); have B3 := κ (B2.out.trans (b3.mono (Nat.le_of_lt sb))); have r0 := (b3.cell (p := ⟨w1.heap.size, 0, none⟩) ls).trans s0; have r1 := (b3.cell (p := ⟨w1.heap.size, 1, none⟩) ls).trans s1; have zr := fun i => (b3.frozen (p := ⟨w1.heap.size, i, none⟩) ls).trans (zs i); have lr := Nat.lt_of_lt_of_le ls b3.size; obtain ⟨ra0, ra1, ra2, ra3, ra4, rb0, rb1, rza, rzb, rl⟩ := HR3.out; have rl3 := Nat.lt_of_succ_lt rl; have O3 := κ o3; clear b3 o3)
 have n1 : w1.heap.size ≠ w.heap.size := Nat.ne_of_gt rl0
 have n2 : w1.heap.size ≠ w.heap.size + 1 := Nat.ne_of_gt HR.out.l
 have HR4 := κ ((HR3.out.off (q := ⟨w1.heap.size, 0, none⟩) n1 n2 (.int .i64 4)).off (q := ⟨w1.heap.size, 1, none⟩) n1 n2 (.int .u32 x))
 have q0 : ((w3.setCell ⟨w1.heap.size, 0, none⟩ (.int .i64 4)).setCell ⟨w1.heap.size, 1, none⟩ (.int .u32 x)).cell? ⟨w1.heap.size, 0, none⟩ = some (.int .i64 4) := (off (by omega)).trans (World.cell?_setCell_same _ _ _ r0)
 have q1 : ((w3.setCell ⟨w1.heap.size, 0, none⟩ (.int .i64 4)).setCell ⟨w1.heap.size, 1, none⟩ (.int .u32 x)).cell? ⟨w1.heap.size, 1, none⟩ = some (.int .u32 x) := World.cell?_setCell_same _ _ _ ((off (by omega)).trans r1)
 have B4 := κ ((B3.out.setCell (p := ⟨w1.heap.size, 0, none⟩) (Nat.le_of_lt rl0) (.int .i64 4)).setCell (p := ⟨w1.heap.size, 1, none⟩) (Nat.le_of_lt rl0) (.int .u32 x))
 clear ra0 ra1 ra2 ra3 ra4 rb0 rb1 rza rzb rl rl3 r0 r1 zr lr s0 s1 zs ls
 generalize (w3.setCell ⟨w1.heap.size, 0, none⟩ (.int .i64 4)).setCell ⟨w1.heap.size, 1, none⟩ (.int .u32 x) = W4 at HR4 q0 q1 B4 ⊢
 obtain ⟨ra0, ra1, ra2, ra3, ra4, rb0, rb1, rza, rzb, rl⟩ := HR4.out
 go_region
 obtain ⟨u, t, fq, u0, u1, u2, u3, u4, t0, t1⟩ := HR4.out.put (.int .i64 0) (.int .i64 0) (.int .i64 0) (.int .i64 0) (.int .u32 0) (.int .i64 4) (.int .u32 x)
 have bp2 := (below_put B4.out (Nat.le_refl _) (.int .i64 0) (.int .i64 0) (.int .i64 0) (.int .i64 0) (.int .u32 0) (.int .i64 4) (.int .u32 x)).drew
 have fq2 := fq.drew
 clear fq ra0 ra1 ra2 ra3 ra4 rb0 rb1 rza rzb
 generalize World.drew _ = WZ at fq2 bp2 ⊢
 have f0 := fq2.a 0 (by omega)
 have f1 := fq2.a 1 (by omega)
 have f2 := fq2.a 2 (by omega)
 have f3 := fq2.a 3 (by omega)
 have f4 := fq2.a 4 (by omega)
 have g0 := fq2.b 0 (by omega)
 have g1 := fq2.b 1 (by omega)
 rw [u0] at f0
 rw [u1] at f1
 rw [u2] at f2
 rw [u3] at f3
 rw [u4] at f4
 rw [t0] at g0
 rw [t1] at g1
 go_wp2_with fail
 refine bodyPost_ret (v := .tuple #[.agg #[.int .i64 0, .int .i64 0, .int .i64 0, .int .i64 0, .int .u32 0], .int .i64 0, .agg #[.int .i64 4, .int .u32 x]]) (by simp [results, Tryz.results53, go_sem, f0, f1, f2, f3, f4, g0, g1]) rfl ⟨rfl, bp2⟩
theorem fetch_3 (p : Nat) (M : MM) (pc : Int) (w : World) (h : HC p M w) (hM : MOk M) (c0 : 0 ≤ pc) (c1 : pc < 4294967296) (hs : fetS M pc 1 = none) (hs2 : fetS M pc (szI M pc) = none) :
  Calls Tryz.prog 53 #[.pointer (some ⟨p, 0, none⟩), .int .u32 pc] w fun e w' => e = .returned (insV M pc) ∧ Below w.heap.size w w' := by
 obtain ⟨o, d, s, g, m, n, zz, hd⟩ := decv_shape (usI M pc)
 have eV : insV M pc = if zz = 0 then .tuple #[agg5 o d s g m, .int .i64 n, .agg #[.int .i64 0, .int .u32 0]] else stopV 3 0 := by
  unfold insV; rw [hs]; dsimp only; rw [hs2]; dsimp only; rw [hd]; rfl
 rw [eV]
 have hu := fetL_rg hM pc (szI M pc)
 unfold usI at hd
 have CF := κ (fun w h => fetch_any p M pc 1 w h hM c0 c1)
 have CF2 := κ (fun w h => fetch_any p M pc (szI M pc) w h hM c0 c1)
 rw [hs, show stpV 4 none = .agg #[.int .i64 0, .int .u32 0] from rfl] at CF
 rw [hs2, show stpV 4 none = .agg #[.int .i64 0, .int .u32 0] from rfl] at CF2
 have HL := κ (show (fetL M pc 1).length = 1 from fetL_len hs (by omega) (by omega))
 have hb := fetL_rg hM pc 1 0
 have CZ := κ (fun w => Size_any ((fetL M pc 1).getD 0 0) hb.1 hb.2 w)
 have hz := szI_bd M hM pc
 rw [show shSize (rowOf ((fetL M pc 1).getD 0 0)).sh = szI M pc from rfl] at CZ
 obtain ⟨y, hy⟩ : ∃ y, (fetL M pc 1).getD 0 0 = y := ⟨_, rfl⟩
 rw [hy] at CZ hb
 have HY := κ hy
 clear hy
 generalize szI M pc = z at CF2 CZ hz hd hu
 generalize fetL M pc z = us at CF2 hd hu
 have CD := κ (fun ao cap w h => gdec_all us ao cap w h hu)
 rw [hd] at CD
 clear hd hu
 have F0 := FR.new w
 have B0 := Below.in2 w (.cells Z5 74) (.cells Z2 55)
 have HH := κ (h.upto (Upto.of_below (S := fun _ => False) B0) id)
 unfold Z5 Z2 at F0 B0 HH
 unfold stopV agg5
 unfold agg5 at CD
 generalize hV : (if zz = 0 then _ else _ : Value) = V
 have HV := κ hV
 clear hV
 clear eV hs hs2 h hM
 go_enter Tryz.func53, Tryz.ntmps53
 go_wp2_with fail
 generalize (w.alloc (.cells #[.int .i64 0, .int .i64 0, .int .i64 0, .int .i64 0, .int .u32 0] 74)).alloc (.cells #[.int .i64 0, .int .u32 0] 55) = WA at F0 B0 HH ⊢
 have HF := κ F0
 have HB := κ B0
 clear F0 B0
 go_wp2_with (go_at_call 82; (with_reducible refine (CF.out _ HH.out).mono ?_); rintro e w1 ⟨v, rfl, o1, b1⟩; have HR := κ (HF.out.below b1); have rl0 : w.heap.size < w1.heap.size := Nat.lt_of_succ_lt HR.out.l; obtain ⟨ao, cap, rfl, bs, _⟩ := o1.form; obtain ⟨bl, bm, bk⟩ := bs; rw [HL.out] at bl bk ⊢; obtain ⟨bb, boff, rfl, bbl, bc⟩ := bk (by omega); have bc0 := bc 0 (by omega); rw [Nat.add_zero, HY.out] at bc0; have HH1 := κ (HH.out.upto (Upto.of_below (S := fun _ => False) b1) id); have B1 := κ (HB.out.trans (b1.mono HB.out.size)); clear o1 b1 bk bc)
 go_at_call 83
 (with_reducible refine (CZ.out _).mono ?_)
 rintro e w2 ⟨rfl, b2⟩
 have hw : Below w1.heap.size w1 (w1.alloc (.cells #[.int .i64 0, .int .u32 0] 55)) := (Below.refl _ _).alloc (Nat.le_refl _) _
 have ls0 : w1.heap.size < (w1.alloc (.cells #[.int .i64 0, .int .u32 0] 55)).heap.size := by simp
 have HR2 := κ ((HR.out.below hw).below b2)
 have HH2 := κ ((HH1.out.upto (Upto.of_below (S := fun _ => False) hw) id).upto (Upto.of_below (S := fun _ => False) b2) id)
 have B2 := κ ((B1.out.trans (hw.mono (Nat.le_of_lt rl0))).trans (b2.mono (Nat.le_trans (Nat.le_of_lt rl0) hw.size)))
 have s0 := (b2.cell (p := ⟨w1.heap.size, 0, none⟩) ls0).trans (box_at w1 _ _ 0)
 have s1 := (b2.cell (p := ⟨w1.heap.size, 1, none⟩) ls0).trans (box_at w1 _ _ 1)
 have zs := fun i => (b2.frozen (p := ⟨w1.heap.size, i, none⟩) ls0).trans (fz_new w1 _ _ i)
 have ls := Nat.lt_of_lt_of_le ls0 b2.size
 have sb : w.heap.size < w2.heap.size := Nat.lt_of_succ_lt HR2.out.l
 clear b2 hw
 go_wp2_with (go_at_call 82; (with_reducible refine (CF2.out _ HH2.out).mono ?_); rintro e w3 ⟨v2, rfl, o3, b3⟩; have HR3 := κ (HR2.out.below b3); have B3 := κ (B2.out.trans (b3.mono (Nat.le_of_lt sb))); have r0 := (b3.cell (p := ⟨w1.heap.size, 0, none⟩) ls).trans s0; have r1 := (b3.cell (p := ⟨w1.heap.size, 1, none⟩) ls).trans s1; have zr := fun i => (b3.frozen (p := ⟨w1.heap.size, i, none⟩) ls).trans (zs i); have lr := Nat.lt_of_lt_of_le ls b3.size; obtain ⟨ra0, ra1, ra2, ra3, ra4, rb0, rb1, rza, rzb, rl⟩ := HR3.out; have rl3 := Nat.lt_of_succ_lt rl; have O3 := κ o3; clear b3 o3)
 have n1 : w1.heap.size ≠ w.heap.size := Nat.ne_of_gt rl0
 have n2 : w1.heap.size ≠ w.heap.size + 1 := Nat.ne_of_gt HR.out.l
 have HR4 := κ ((HR3.out.off (q := ⟨w1.heap.size, 0, none⟩) n1 n2 (.int .i64 0)).off (q := ⟨w1.heap.size, 1, none⟩) n1 n2 (.int .u32 0))
 have B4 := κ ((B3.out.setCell (p := ⟨w1.heap.size, 0, none⟩) (Nat.le_of_lt rl0) (.int .i64 0)).setCell (p := ⟨w1.heap.size, 1, none⟩) (Nat.le_of_lt rl0) (.int .u32 0))
 have O4 := (O3.out.below (q := ⟨w1.heap.size, 0, none⟩) ls (.int .i64 0)).below (q := ⟨w1.heap.size, 1, none⟩) ls (.int .u32 0)
 clear ra0 ra1 ra2 ra3 ra4 rb0 rb1 rza rzb rl rl3 r0 r1 zr lr s0 s1 zs ls
 generalize (w3.setCell ⟨w1.heap.size, 0, none⟩ (.int .i64 0)).setCell ⟨w1.heap.size, 1, none⟩ (.int .u32 0) = W4 at HR4 B4 O4 ⊢
 obtain ⟨ao3, cap3, rfl, bs3, _⟩ := O4.form
 clear O4
 go_at_call 84
 with_reducible refine (CD.out _ _ _ bs3).mono ?_
 clear bs3
 rintro e w5 ⟨rfl, b5⟩
 have HR5 := κ (HR4.out.below b5)
 have lw4 : w.heap.size < W4.heap.size := Nat.lt_of_succ_lt HR4.out.l
 have B5 := κ (B4.out.trans (b5.mono (Nat.le_of_lt lw4)))
 clear b5
 obtain ⟨ra0, ra1, ra2, ra3, ra4, rb0, rb1, rza, rzb, rl⟩ := HR5.out
 have rl5 := Nat.lt_of_succ_lt rl
 by_cases hz0 : zz = 0
 ·subst hz0
  go_upto_region 10 with fail
  have hb6 := (Below.refl w5.heap.size w5).alloc (Nat.le_refl _) (.cells #[.int .i64 o, .int .i64 d, .int .i64 s, .int .i64 g, .int .u32 m] 74)
  have HR6 := κ (HR5.out.below hb6)
  have B6 := κ (B5.out.alloc (Nat.le_of_lt rl5) (.cells #[.int .i64 o, .int .i64 d, .int .i64 s, .int .i64 g, .int .u32 m] 74))
  have k0 := box_at w5 #[.int .i64 o, .int .i64 d, .int .i64 s, .int .i64 g, .int .u32 m] 74 0
  have k1 := box_at w5 #[.int .i64 o, .int .i64 d, .int .i64 s, .int .i64 g, .int .u32 m] 74 1
  have k2 := box_at w5 #[.int .i64 o, .int .i64 d, .int .i64 s, .int .i64 g, .int .u32 m] 74 2
  have k3 := box_at w5 #[.int .i64 o, .int .i64 d, .int .i64 s, .int .i64 g, .int .u32 m] 74 3
  have k4 := box_at w5 #[.int .i64 o, .int .i64 d, .int .i64 s, .int .i64 g, .int .u32 m] 74 4
  simp only [List.getElem?_toArray, List.getElem?_cons_zero, List.getElem?_cons_succ] at k0 k1 k2 k3 k4
  clear ra0 ra1 ra2 ra3 ra4 rb0 rb1 rza rzb rl hb6
  generalize w5.alloc (.cells #[.int .i64 o, .int .i64 d, .int .i64 s, .int .i64 g, .int .u32 m] 74) = W6 at HR6 B6 k0 k1 k2 k3 k4 ⊢
  obtain ⟨ra0, ra1, ra2, ra3, ra4, rb0, rb1, rza, rzb, rl⟩ := HR6.out
  have za0 := rza 0
  have za1 := rza 1
  have za2 := rza 2
  have za3 := rza 3
  have za4 := rza 4
  have zb0 := rzb 0
  have zb1 := rzb 1
  clear rza rzb
  go_wp2_with fail
  obtain ⟨u, t, fq2, u0, u1, u2, u3, u4, t0, t1⟩ := HR6.out.put (.int .i64 o) (.int .i64 d) (.int .i64 s) (.int .i64 g) (.int .u32 m) (.int .i64 0) (.int .u32 0)
  have bp2 := below_put B6.out (Nat.le_refl _) (.int .i64 o) (.int .i64 d) (.int .i64 s) (.int .i64 g) (.int .u32 m) (.int .i64 0) (.int .u32 0)
  clear ra0 ra1 ra2 ra3 ra4 rb0 rb1 za0 za1 za2 za3 za4 zb0 zb1 k0 k1 k2 k3 k4
  generalize World.setCell _ ⟨w.heap.size + 1, 1, none⟩ _ = WZ at fq2 bp2 ⊢
  have f0 := fq2.a 0 (by omega)
  have f1 := fq2.a 1 (by omega)
  have f2 := fq2.a 2 (by omega)
  have f3 := fq2.a 3 (by omega)
  have f4 := fq2.a 4 (by omega)
  have g0 := fq2.b 0 (by omega)
  have g1 := fq2.b 1 (by omega)
  rw [u0] at f0
  rw [u1] at f1
  rw [u2] at f2
  rw [u3] at f3
  rw [u4] at f4
  rw [t0] at g0
  rw [t1] at g1
  refine bodyPost_ret (v := .tuple #[.agg #[.int .i64 o, .int .i64 d, .int .i64 s, .int .i64 g, .int .u32 m], .int .i64 n, .agg #[.int .i64 0, .int .u32 0]]) (by simp [results, Tryz.results53, go_sem, f0, f1, f2, f3, f4, g0, g1]) rfl ⟨by rw [← HV.out, if_pos trivial], bp2⟩
 ·have hzb : (zz == 0) = false := by rw [beq_eq_false_iff_ne]; exact hz0
  have hzn : (zz != 0) = true := by rw [bne, hzb]; rfl
  go_upto_region 9 with fail
  have hb6 := (Below.refl w5.heap.size w5).alloc (Nat.le_refl _) (.cells #[.int .i64 o, .int .i64 d, .int .i64 s, .int .i64 g, .int .u32 m] 74)
  have HR6 := κ (HR5.out.below hb6)
  have B6 := κ (B5.out.alloc (Nat.le_of_lt rl5) (.cells #[.int .i64 o, .int .i64 d, .int .i64 s, .int .i64 g, .int .u32 m] 74))
  have k0 := box_at w5 #[.int .i64 o, .int .i64 d, .int .i64 s, .int .i64 g, .int .u32 m] 74 0
  have k1 := box_at w5 #[.int .i64 o, .int .i64 d, .int .i64 s, .int .i64 g, .int .u32 m] 74 1
  have k2 := box_at w5 #[.int .i64 o, .int .i64 d, .int .i64 s, .int .i64 g, .int .u32 m] 74 2
  have k3 := box_at w5 #[.int .i64 o, .int .i64 d, .int .i64 s, .int .i64 g, .int .u32 m] 74 3
  have k4 := box_at w5 #[.int .i64 o, .int .i64 d, .int .i64 s, .int .i64 g, .int .u32 m] 74 4
  simp only [List.getElem?_toArray, List.getElem?_cons_zero, List.getElem?_cons_succ] at k0 k1 k2 k3 k4
  clear ra0 ra1 ra2 ra3 ra4 rb0 rb1 rza rzb rl hb6
  generalize w5.alloc (.cells #[.int .i64 o, .int .i64 d, .int .i64 s, .int .i64 g, .int .u32 m] 74) = W6 at HR6 B6 k0 k1 k2 k3 k4 ⊢
  obtain ⟨ra0, ra1, ra2, ra3, ra4, rb0, rb1, rza, rzb, rl⟩ := HR6.out
  have za0 := rza 0
  have za1 := rza 1
  have za2 := rza 2
  have za3 := rza 3
  have za4 := rza 4
  have zb0 := rzb 0
  have zb1 := rzb 1
  clear rza rzb
  go_wp2_with fail
  obtain ⟨u, t, fq2, u0, u1, u2, u3, u4, t0, t1⟩ := HR6.out.put (.int .i64 0) (.int .i64 0) (.int .i64 0) (.int .i64 0) (.int .u32 0) (.int .i64 3) (.int .u32 0)
  have bp2 := below_put B6.out (Nat.le_refl _) (.int .i64 0) (.int .i64 0) (.int .i64 0) (.int .i64 0) (.int .u32 0) (.int .i64 3) (.int .u32 0)
  clear ra0 ra1 ra2 ra3 ra4 rb0 rb1 za0 za1 za2 za3 za4 zb0 zb1 k0 k1 k2 k3 k4
  generalize World.setCell _ ⟨w.heap.size + 1, 1, none⟩ _ = WZ at fq2 bp2 ⊢
  have f0 := fq2.a 0 (by omega)
  have f1 := fq2.a 1 (by omega)
  have f2 := fq2.a 2 (by omega)
  have f3 := fq2.a 3 (by omega)
  have f4 := fq2.a 4 (by omega)
  have g0 := fq2.b 0 (by omega)
  have g1 := fq2.b 1 (by omega)
  rw [u0] at f0
  rw [u1] at f1
  rw [u2] at f2
  rw [u3] at f3
  rw [u4] at f4
  rw [t0] at g0
  rw [t1] at g1
  refine bodyPost_ret (v := .tuple #[.agg #[.int .i64 0, .int .i64 0, .int .i64 0, .int .i64 0, .int .u32 0], .int .i64 0, .agg #[.int .i64 3, .int .u32 0]]) (by simp [results, Tryz.results53, go_sem, f0, f1, f2, f3, f4, g0, g1]) rfl ⟨by rw [← HV.out, if_neg hz0], bp2⟩
theorem fetch_all (p : Nat) (M : MM) (pc : Int) (w : World) (h : HC p M w) (hM : MOk M) (c0 : 0 ≤ pc) (c1 : pc < 4294967296) :
  Calls Tryz.prog 53 #[.pointer (some ⟨p, 0, none⟩), .int .u32 pc] w fun e w' => e = .returned (insV M pc) ∧ Below w.heap.size w w' := by
 cases hs : fetS M pc 1 with
 | some x => exact fetch_1 p M pc x w h hM c0 c1 hs
 | none => cases hs2 : fetS M pc (szI M pc) with
  | some x => exact fetch_2 p M pc x w h hM c0 c1 hs hs2
  | none => exact fetch_3 p M pc w h hM c0 c1 hs hs2
open Ic
/-- why the instruction at a place is none: 0: it is one -/
def ik (M : MM) (pc : Int) : Int × Int := match fetS M pc 1 with
 | some x => (4, x)
 | none => match fetS M pc (szI M pc) with
  | some x => (4, x)
  | none => if dz (decv (usI M pc)) 6 = 0 then (0, 0) else (3, 0)
/-- its numbers: op, d, s, o, imm, size -/
def iz (M : MM) (pc : Int) (i : Nat) : Int := if (ik M pc).1 = 0 then dz (decv (usI M pc)) i else 0
theorem insV_eq (M : MM) (pc : Int) : insV M pc = .tuple #[agg5 (iz M pc 0) (iz M pc 1) (iz M pc 2) (iz M pc 3) (iz M pc 4), .int .i64 (iz M pc 5), .agg #[.int .i64 (ik M pc).1, .int .u32 (ik M pc).2]] := by
 unfold insV iz ik
 cases fetS M pc 1 with
 | some x => rfl
 | none =>
  dsimp only
  cases fetS M pc (szI M pc) with
  | some x => rfl
  | none =>
   dsimp only
   by_cases h : dz (decv (usI M pc)) 6 = 0
   ·rw [if_pos h, if_pos h]; rfl
   ·rw [if_neg h, if_neg h]; rfl
/-- an instruction is lifted -/
def Lk.nxt (s : Lk) (M : MM) : Lk :=
 let t := ({ s with nx := w32 (s.pc + iz M s.pc 5), cnt := s.cnt + 1, byt := s.byt + iz M s.pc 5 } : Lk).one (iz M s.pc 0) (iz M s.pc 1).toNat (iz M s.pc 2).toNat (iz M s.pc 3) (iz M s.pc 4)
 { t with pc := t.nx }
/-- so many more, at most -/
def blk (M : MM) : Nat → Lk → Lk
 | 0, s => s.put ⟨15, 0, 0, 0, 0, s.pc, s.cnt⟩
 | n + 1, s =>
  if (ik M s.pc).1 ≠ 0 then (if s.cnt = 0 then s.put ⟨14, (ik M s.pc).1, 0, (ik M s.pc).2, 0, s.pc, 0⟩ else s.put ⟨15, 0, 0, 0, 0, s.pc, s.cnt⟩)
  else if en (iz M s.pc 0) then s.nxt M else blk M n (s.nxt M)
def lk0 (pc : Int) : Lk := ⟨[], pc, 0, 0, pc, 0, fun _ => -1, false, 0, 0, 0, 0⟩
def mst (most : Int) : Nat := (min (max most 1) 64).toNat
def blkO (M : MM) (pc most : Int) : Lk := blk M (mst most) (lk0 pc)
end Go.Proofs.YtcjcmnnhmajocabGreat.Lf
namespace Go.Proofs.YtcjcmnnhmajocabGreat.St
open Go.RowKit Kt Me Fl Gu
theorem row_ls : ∀ n : Fin 256, ((rowOf (n.val : Int)).op = 30 → (rowOf (n.val : Int)).sh ≠ 7 ∧ ((rowOf (n.val : Int)).fi = 3 → (rowOf (n.val : Int)).lo < 5)) ∧ ((rowOf (n.val : Int)).op = 31 → (rowOf (n.val : Int)).sh ≠ 7 ∧ ((rowOf (n.val : Int)).fi = 3 → (rowOf (n.val : Int)).lo < 3)) := by decide +kernel
structure InR (v : Value) : Prop where
 o : 0 ≤ dz v 0 ∧ dz v 0 < 32
 d : 0 ≤ dz v 1 ∧ dz v 1 < 8
 s : 0 ≤ dz v 2 ∧ dz v 2 < 8
 f : 0 ≤ dz v 3 ∧ dz v 3 < 16
 ld : dz v 0 = 30 → dz v 3 < 5
 st : dz v 0 = 31 → dz v 3 < 3
 m : 0 ≤ dz v 4 ∧ dz v 4 < 4294967296
 n : 0 ≤ dz v 5 ∧ dz v 5 < 8
theorem fin_rng (b : Int) (b0 : 0 ≤ b) (b1 : b < 256) (a : Nat → Int) (ha : ∀ j, 0 ≤ a j ∧ a j < 256)
  (h : dz (fin (rowOf b) (if (rowOf b).fi = 1 then (rowOf b).lo else 0) (if (rowOf b).fi = 2 then (rowOf b).lo else 0) (if (rowOf b).fi = 3 then (rowOf b).lo else 0) a) 6 = 0) :
  InR (fin (rowOf b) (if (rowOf b).fi = 1 then (rowOf b).lo else 0) (if (rowOf b).fi = 2 then (rowOf b).lo else 0) (if (rowOf b).fi = 3 then (rowOf b).lo else 0) a) := by
 obtain ⟨p1, p2, p3, p4, p5, p6, p7, p8⟩ := row_in b b0 b1
 obtain ⟨e1, e2⟩ : ((rowOf b).op = 30 → (rowOf b).sh ≠ 7 ∧ ((rowOf b).fi = 3 → (rowOf b).lo < 5)) ∧ ((rowOf b).op = 31 → (rowOf b).sh ≠ 7 ∧ ((rowOf b).fi = 3 → (rowOf b).lo < 3)) := by
  obtain ⟨n, rfl⟩ := Int.eq_ofNat_of_zero_le b0
  exact row_ls ⟨n, by omega⟩
 generalize rowOf b = r at *
 obtain ⟨op, sh, lo, fi⟩ := r
 dsimp only at *
 have d0 : 0 ≤ (if fi = 1 then lo else 0) := by split <;> omega
 have s0 : 0 ≤ (if fi = 2 then lo else 0) := by split <;> omega
 have f0 : 0 ≤ (if fi = 3 then lo else 0) ∧ (if fi = 3 then lo else 0) < 16 := by split <;> omega
 have f30 : op = 30 → (if fi = 3 then lo else 0) < 5 := fun h => by
  split
  ·next h3 => exact (e1 h).2 h3
  ·omega
 have f31 : op = 31 → (if fi = 3 then lo else 0) < 3 := fun h => by
  split
  ·next h3 => exact (e2 h).2 h3
  ·omega
 generalize (if fi = 1 then lo else 0) = dd at *
 generalize (if fi = 2 then lo else 0) = ss at *
 generalize (if fi = 3 then lo else 0) = ff at *
 have a0 := ha 0
 have a1 := ha 1
 have a2 := ha 2
 have a3 := ha 3
 have a4 := ha 4
 have a5 := ha 5
 unfold fin at h ⊢
 by_cases hk : oD sh dd a < 8 ∧ oS sh ss a < 8
 ·rw [if_pos hk]
  refine ⟨⟨p1, by show op < 32; omega⟩, ⟨?_, hk.1⟩, ⟨?_, hk.2⟩, ⟨?_, ?_⟩, fun h => ?_, fun h => ?_, ?_, ?_⟩
  ·show 0 ≤ oD sh dd a; unfold oD; repeat' split
   all_goals omega
  ·show 0 ≤ oS sh ss a; unfold oS; repeat' split
   all_goals omega
  ·show 0 ≤ oF sh ff a; unfold oF; split <;> omega
  ·show oF sh ff a < 16; unfold oF; split <;> omega
  ·show oF sh ff a < 5; unfold oF; rw [if_neg (e1 h).1]; exact f30 h
  ·show oF sh ff a < 3; unfold oF; rw [if_neg (e2 h).1]; exact f31 h
  ·show 0 ≤ oM sh 0 a ∧ oM sh 0 a < 4294967296
   unfold oM sgn four
   repeat' split
   all_goals omega
  ·show 0 ≤ shSize sh ∧ shSize sh < 8
   rcases (show sh = 0 ∨ sh = 1 ∨ sh = 2 ∨ sh = 3 ∨ sh = 4 ∨ sh = 5 ∨ sh = 6 ∨ sh = 7 ∨ sh = 8 ∨ sh = 9 ∨ sh = 10 ∨ sh = 11 ∨ sh = 12 by omega) with rfl | rfl | rfl | rfl | rfl | rfl | rfl | rfl | rfl | rfl | rfl | rfl | rfl <;> decide
 ·rw [if_neg hk] at h
  exact absurd h (by decide)
theorem decv_rng (us : List Int) (hw : ∀ j, 0 ≤ us.getD j 0 ∧ us.getD j 0 < 256) (h : dz (decv us) 6 = 0) : InR (decv us) := by
 unfold decv at h ⊢
 by_cases c1 : us.length = 0
 ·rw [if_pos c1] at h; exact absurd h (by decide)
 rw [if_neg c1] at h ⊢
 by_cases c2 : shSize (rowOf (us.getD 0 0)).sh = 0
 ·rw [if_pos c2] at h; exact absurd h (by decide)
 rw [if_neg c2] at h ⊢
 by_cases c3 : (us.length : Int) < shSize (rowOf (us.getD 0 0)).sh
 ·rw [if_pos c3] at h; exact absurd h (by decide)
 rw [if_neg c3] at h ⊢
 exact fin_rng _ (hw 0).1 (hw 0).2 _ (fun j => hw (j + 1)) h
end Go.Proofs.YtcjcmnnhmajocabGreat.St
