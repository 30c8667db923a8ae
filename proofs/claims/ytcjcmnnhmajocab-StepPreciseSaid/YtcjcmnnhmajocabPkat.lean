/- A state, an instruction and a stop in boxes; the boxes of crossgrainref2's memory. -/
import Derived.Test.YtcjcmnnhmajocabPkae
import Derived.Test.YtcjcmnnhmajocabPkaj
import Derived.Test.YtcjcmnnhmajocabPkam
import Derived.Test.YtcjcmnnhmajocabPkan
import Derived.Test.YtcjcmnnhmajocabPkas
namespace Go.Proofs.Ytcjcmnnhmajocab.St
open Go.RowKit Kt Me Fl Gu
set_option linter.unusedVariables false
set_option linter.unusedSimpArgs false
/-- the numbers of what Decode answers -/
def dz (v : Value) (i : Nat) : Int := match v with
  | .tuple #[.agg #[.int _ a, .int _ b, .int _ c, .int _ d, .int _ e], .int _ n, .int _ z] => [a, b, c, d, e, n, z].getD i 0
  | _ => 0
def stopV (k x : Int) : Value := .tuple #[agg5 0 0 0 0 0, .int .i64 0, .agg #[.int .i64 k, .int .u32 x]]
/-- the bytes of the instruction's size at a place -/
def szI (M : MM) (pc : Int) : Int := shSize (rowOf ((fetL M pc 1).getD 0 0)).sh
def usI (M : MM) (pc : Int) : List Int := fetL M pc (szI M pc)
def insV (M : MM) (pc : Int) : Value := match fetS M pc 1 with
  | some x => stopV 4 x
  | none => match fetS M pc (szI M pc) with
    | some x => stopV 4 x
    | none => if dz (decv (usI M pc)) 6 = 0 then .tuple #[agg5 (dz (decv (usI M pc)) 0) (dz (decv (usI M pc)) 1) (dz (decv (usI M pc)) 2) (dz (decv (usI M pc)) 3) (dz (decv (usI M pc)) 4), .int .i64 (dz (decv (usI M pc)) 5), .agg #[.int .i64 0, .int .u32 0]] else stopV 3 0
/-- the result's cells, as they begin -/
structure FR (h : Nat) (W : World) : Prop where
  a0 : W.cell? ⟨h, 0, none⟩ = some (.int .i64 0)
  a1 : W.cell? ⟨h, 1, none⟩ = some (.int .i64 0)
  a2 : W.cell? ⟨h, 2, none⟩ = some (.int .i64 0)
  a3 : W.cell? ⟨h, 3, none⟩ = some (.int .i64 0)
  a4 : W.cell? ⟨h, 4, none⟩ = some (.int .u32 0)
  b0 : W.cell? ⟨h + 1, 0, none⟩ = some (.int .i64 0)
  b1 : W.cell? ⟨h + 1, 1, none⟩ = some (.int .u32 0)
  za : ∀ i, W.frozen? ⟨h, i, none⟩ = false
  zb : ∀ i, W.frozen? ⟨h + 1, i, none⟩ = false
  l : h + 1 < W.heap.size
theorem FR.below {h : Nat} {W W' : World} (f : FR h W) (b : Below W.heap.size W W') : FR h W' :=
  have l0 : h < W.heap.size := Nat.lt_of_succ_lt f.l
  ⟨(b.cell (p := ⟨h, 0, none⟩) l0).trans f.a0, (b.cell (p := ⟨h, 1, none⟩) l0).trans f.a1, (b.cell (p := ⟨h, 2, none⟩) l0).trans f.a2, (b.cell (p := ⟨h, 3, none⟩) l0).trans f.a3, (b.cell (p := ⟨h, 4, none⟩) l0).trans f.a4,
    (b.cell (p := ⟨h + 1, 0, none⟩) f.l).trans f.b0, (b.cell (p := ⟨h + 1, 1, none⟩) f.l).trans f.b1, fun i => (b.frozen (p := ⟨h, i, none⟩) l0).trans (f.za i), fun i => (b.frozen (p := ⟨h + 1, i, none⟩) f.l).trans (f.zb i), Nat.lt_of_lt_of_le f.l b.size⟩
/-- the result's cells, as they are written -/
structure FQ (h : Nat) (u t : Nat → Value) (W : World) : Prop where
  a : ∀ i, i < 5 → W.cell? ⟨h, i, none⟩ = some (u i)
  b : ∀ i, i < 2 → W.cell? ⟨h + 1, i, none⟩ = some (t i)
  l : h + 1 < W.heap.size
theorem FQ.setA {h : Nat} {u t : Nat → Value} {W : World} (f : FQ h u t W) (i : Nat) (hi : i < 5) (v : Value) : FQ h (upd u i v) t (W.setCell ⟨h, i, none⟩ v) := by
  refine ⟨fun j hj => ?_, fun j hj => ?_, by simpa using f.l⟩
  · by_cases e : j = i
    · subst e; rw [World.cell?_setCell_same _ _ _ (f.a j hj)]; simp [upd]
    · rw [World.cell?_setCell_other _ _ _ _ (by intro hx; exact e (congrArg Addr.off hx).symm), f.a j hj]; simp [upd, e]
  · rw [World.cell?_setCell_other _ _ _ _ (by intro hx; exact absurd (congrArg Addr.block hx) (by show h ≠ h + 1; omega))]; exact f.b j hj
theorem FQ.setB {h : Nat} {u t : Nat → Value} {W : World} (f : FQ h u t W) (i : Nat) (hi : i < 2) (v : Value) : FQ h u (upd t i v) (W.setCell ⟨h + 1, i, none⟩ v) := by
  refine ⟨fun j hj => ?_, fun j hj => ?_, by simpa using f.l⟩
  · rw [World.cell?_setCell_other _ _ _ _ (by intro hx; exact absurd (congrArg Addr.block hx) (by show h + 1 ≠ h; omega))]; exact f.a j hj
  · by_cases e : j = i
    · subst e; rw [World.cell?_setCell_same _ _ _ (f.b j hj)]; simp [upd]
    · rw [World.cell?_setCell_other _ _ _ _ (by intro hx; exact e (congrArg Addr.off hx).symm), f.b j hj]; simp [upd, e]
theorem FQ.alloc {h : Nat} {u t : Nat → Value} {W : World} (f : FQ h u t W) (o : Obj) : FQ h u t (W.alloc o) := by
  have hb := (Below.refl W.heap.size W).alloc (Nat.le_refl _) o
  exact ⟨fun i hi => (hb.cell (p := ⟨h, i, none⟩) (Nat.lt_of_succ_lt f.l)).trans (f.a i hi), fun i hi => (hb.cell (p := ⟨h + 1, i, none⟩) f.l).trans (f.b i hi), Nat.lt_of_lt_of_le f.l hb.size⟩
theorem FQ.drew {h : Nat} {u t : Nat → Value} {W : World} (f : FQ h u t W) : FQ h u t W.drew := ⟨f.a, f.b, f.l⟩
theorem FR.q {h : Nat} {W : World} (f : FR h W) : FQ h (fun i => if i = 4 then .int .u32 0 else .int .i64 0) (fun i => if i = 1 then .int .u32 0 else .int .i64 0) W := by
  refine ⟨fun i hi => ?_, fun i hi => ?_, f.l⟩
  · rcases (show i = 0 ∨ i = 1 ∨ i = 2 ∨ i = 3 ∨ i = 4 by omega) with rfl | rfl | rfl | rfl | rfl
    · exact f.a0
    · exact f.a1
    · exact f.a2
    · exact f.a3
    · exact f.a4
  · rcases (show i = 0 ∨ i = 1 by omega) with rfl | rfl
    · exact f.b0
    · exact f.b1
/-- all seven written -/
theorem FR.put {h : Nat} {W : World} (f : FR h W) (v0 v1 v2 v3 v4 y0 y1 : Value) :
    ∃ u t, FQ h u t (((((((W.setCell ⟨h, 0, none⟩ v0).setCell ⟨h, 1, none⟩ v1).setCell ⟨h, 2, none⟩ v2).setCell ⟨h, 3, none⟩ v3).setCell ⟨h, 4, none⟩ v4).setCell ⟨h + 1, 0, none⟩ y0).setCell ⟨h + 1, 1, none⟩ y1) ∧ u 0 = v0 ∧ u 1 = v1 ∧ u 2 = v2 ∧ u 3 = v3 ∧ u 4 = v4 ∧ t 0 = y0 ∧ t 1 = y1 :=
  ⟨_, _, ((((((f.q.setA 0 (by omega) v0).setA 1 (by omega) v1).setA 2 (by omega) v2).setA 3 (by omega) v3).setA 4 (by omega) v4).setB 0 (by omega) y0).setB 1 (by omega) y1, by simp [upd], by simp [upd], by simp [upd], by simp [upd], by simp [upd], by simp [upd], by simp [upd]⟩
theorem below_put {B h : Nat} {W w : World} (hb : Below B w W) (hB : B ≤ h) (v0 v1 v2 v3 v4 y0 y1 : Value) :
    Below B w (((((((W.setCell ⟨h, 0, none⟩ v0).setCell ⟨h, 1, none⟩ v1).setCell ⟨h, 2, none⟩ v2).setCell ⟨h, 3, none⟩ v3).setCell ⟨h, 4, none⟩ v4).setCell ⟨h + 1, 0, none⟩ y0).setCell ⟨h + 1, 1, none⟩ y1) :=
  ((((((hb.setCell hB _).setCell hB _).setCell hB _).setCell hB _).setCell hB _).setCell (Nat.le_succ_of_le hB) _).setCell (Nat.le_succ_of_le hB) _
def Z5 : Array Value := #[.int .i64 0, .int .i64 0, .int .i64 0, .int .i64 0, .int .u32 0]
def Z2 : Array Value := #[.int .i64 0, .int .u32 0]
theorem FR.new (w : World) : FR w.heap.size ((w.alloc (.cells Z5 149)).alloc (.cells Z2 46)) := by
  have e : (w.alloc (.cells Z5 149)).heap.size = w.heap.size + 1 := by simp
  have hb : Below (w.heap.size + 1) (w.alloc (.cells Z5 149)) ((w.alloc (.cells Z5 149)).alloc (.cells Z2 46)) := (Below.refl _ _).alloc (by rw [e]; exact Nat.le_refl _) _
  have A : ∀ i, ((w.alloc (.cells Z5 149)).alloc (.cells Z2 46)).cell? ⟨w.heap.size, i, none⟩ = Z5[i]? := fun i => (hb.cell (p := ⟨w.heap.size, i, none⟩) (Nat.lt_succ_self _)).trans (box_at w Z5 _ i)
  have B : ∀ i, ((w.alloc (.cells Z5 149)).alloc (.cells Z2 46)).cell? ⟨w.heap.size + 1, i, none⟩ = Z2[i]? := fun i => by
    have := box_at (w.alloc (.cells Z5 149)) Z2 46 i
    rw [e] at this; exact this
  refine ⟨A 0, A 1, A 2, A 3, A 4, B 0, B 1, fun i => ?_, fun i => ?_, by simp⟩
  · refine (hb.frozen (p := ⟨w.heap.size, i, none⟩) (Nat.lt_succ_self _)).trans ?_
    unfold World.frozen?
    rw [heap_alloc_new]; simp
  · rw [← e]
    unfold World.frozen?
    rw [heap_alloc_new]; simp
theorem Below.in2 (w : World) (o o' : Obj) : Below w.heap.size w ((w.alloc o).alloc o') := ((Below.refl _ _).alloc (Nat.le_refl _) _).alloc (by simp) _
set_option maxRecDepth 100000 in
set_option maxHeartbeats 4000000 in
theorem fetch_1 (p : Nat) (M : MM) (pc x : Int) (w : World) (h : HC p M w) (hM : MOk M) (c0 : 0 ≤ pc) (c1 : pc < 4294967296) (hs : fetS M pc 1 = some x) :
    Calls Try.prog 78 #[.pointer (some ⟨p, 0, none⟩), .int .u32 pc] w fun e w' => e = .returned (insV M pc) ∧ Below w.heap.size w w' := by
  have eV : insV M pc = stopV 4 x := by unfold insV; rw [hs]
  rw [eV]
  have CF := Lib.hid (fun w h => fetch_any p M pc 1 w h hM c0 c1)
  rw [hs, show stpV 4 (some x) = .agg #[.int .i64 4, .int .u32 x] from rfl] at CF
  have F0 := FR.new w
  have B0 := Below.in2 w (.cells Z5 149) (.cells Z2 46)
  have HH := Lib.hid (h.upto (Upto.of_below (S := fun _ => False) B0) id)
  unfold Z5 Z2 at F0 B0 HH
  unfold stopV agg5
  clear eV hs h hM
  go_enter Try.func78, Try.ntmps78
  go_wp2_with fail
  generalize (w.alloc (.cells #[.int .i64 0, .int .i64 0, .int .i64 0, .int .i64 0, .int .u32 0] 149)).alloc (.cells #[.int .i64 0, .int .u32 0] 46) = WA at F0 B0 HH ⊢
  have HF := Lib.hid F0
  have HB := Lib.hid B0
  clear F0 B0
  go_wp2_with (go_at_call 122; (with_reducible refine (CF.out _ HH.out).mono ?_); rintro e w1 ⟨v, rfl, o1, b1⟩; have HR := Lib.hid (HF.out.below b1); obtain ⟨ra0, ra1, ra2, ra3, ra4, rb0, rb1, rza, rzb, rl⟩ := HR.out; have B1 := Lib.hid (HB.out.trans (b1.mono HB.out.size)); have rl0 : w.heap.size < w1.heap.size := Nat.lt_of_succ_lt rl; clear o1 b1)
  go_region
  obtain ⟨u, t, fq, u0, u1, u2, u3, u4, t0, t1⟩ := HR.out.put (.int .i64 0) (.int .i64 0) (.int .i64 0) (.int .i64 0) (.int .u32 0) (.int .i64 4) (.int .u32 x)
  have bp := below_put B1.out (Nat.le_refl _) (.int .i64 0) (.int .i64 0) (.int .i64 0) (.int .i64 0) (.int .u32 0) (.int .i64 4) (.int .u32 x)
  have fq2 := (fq.alloc (.cells #[.int .i64 4, .int .u32 x] 46)).drew
  have bp2 := (bp.alloc (Nat.le_trans (Nat.le_of_lt (Nat.lt_of_succ_lt fq.l)) (Nat.le_refl _)) (.cells #[.int .i64 4, .int .u32 x] 46)).drew
  clear fq bp ra0 ra1 ra2 ra3 ra4 rb0 rb1 rza rzb
  generalize (World.alloc _ _).drew = WZ at fq2 bp2 ⊢
  have f0 := fq2.a 0 (by omega)
  have f1 := fq2.a 1 (by omega)
  have f2 := fq2.a 2 (by omega)
  have f3 := fq2.a 3 (by omega)
  have f4 := fq2.a 4 (by omega)
  have g0 := fq2.b 0 (by omega)
  have g1 := fq2.b 1 (by omega)
  rw [u0] at f0
  rw [u1] at f1
  rw [u2] at f2
  rw [u3] at f3
  rw [u4] at f4
  rw [t0] at g0
  rw [t1] at g1
  go_wp2_with fail
  refine bodyPost_ret (v := .tuple #[.agg #[.int .i64 0, .int .i64 0, .int .i64 0, .int .i64 0, .int .u32 0], .int .i64 0, .agg #[.int .i64 4, .int .u32 x]]) (by simp [results, Try.results78, go_sem, f0, f1, f2, f3, f4, g0, g1]) rfl ⟨rfl, bp2⟩
theorem FR.off {h : Nat} {W : World} (f : FR h W) {q : Addr} (h1 : q.block ≠ h) (h2 : q.block ≠ h + 1) (v : Value) : FR h (W.setCell q v) := by
  have A : ∀ i, (W.setCell q v).cell? ⟨h, i, none⟩ = W.cell? ⟨h, i, none⟩ := fun i => World.cell?_setCell_other _ _ _ _ (fun hx => h1 (congrArg Addr.block hx))
  have B : ∀ i, (W.setCell q v).cell? ⟨h + 1, i, none⟩ = W.cell? ⟨h + 1, i, none⟩ := fun i => World.cell?_setCell_other _ _ _ _ (fun hx => h2 (congrArg Addr.block hx))
  exact ⟨(A 0).trans f.a0, (A 1).trans f.a1, (A 2).trans f.a2, (A 3).trans f.a3, (A 4).trans f.a4, (B 0).trans f.b0, (B 1).trans f.b1, fun i => by simpa using f.za i, fun i => by simpa using f.zb i, by simpa using f.l⟩
theorem fz_new (w : World) (cs : Array Value) (t : TypeId) (i : Nat) : (w.alloc (.cells cs t)).frozen? ⟨w.heap.size, i, none⟩ = false := by
  unfold World.frozen?
  rw [heap_alloc_new]; simp
theorem fetL_len {M : MM} {a n : Int} (h : fetS M a n = none) (h0 : 0 ≤ n) (h8 : n ≤ 8) : (fetL M a n).length = n.toNat := by
  unfold fetS at h
  unfold fetL
  rw [if_pos ⟨h0, h8⟩] at h ⊢
  rw [h]
  simp [rdB]
theorem fetL_rg {M : MM} (hM : MOk M) (a n : Int) : ∀ j, 0 ≤ (fetL M a n).getD j 0 ∧ (fetL M a n).getD j 0 < 256 := by
  intro j
  unfold fetL
  split
  · split
    · rw [List.getD_eq_getElem?_getD]
      by_cases hj : j < n.toNat
      · have := hM.1 (a.toNat + j)
        simp [rdB, hj]; exact this
      · simp [rdB, hj]
    · simp
  · simp
theorem szI_bd (M : MM) (hM : MOk M) (pc : Int) : 0 ≤ szI M pc ∧ szI M pc ≤ 8 := by
  have hb := fetL_rg hM pc 1 0
  obtain ⟨_, _, h3, h4, _⟩ := row_in _ hb.1 hb.2
  unfold szI
  generalize (rowOf ((fetL M pc 1).getD 0 0)).sh = q at h3 h4 ⊢
  rcases (show q = 0 ∨ q = 1 ∨ q = 2 ∨ q = 3 ∨ q = 4 ∨ q = 5 ∨ q = 6 ∨ q = 7 ∨ q = 8 ∨ q = 9 ∨ q = 10 ∨ q = 11 ∨ q = 12 by omega) with rfl | rfl | rfl | rfl | rfl | rfl | rfl | rfl | rfl | rfl | rfl | rfl | rfl <;> decide
set_option maxRecDepth 100000 in
set_option maxHeartbeats 4000000 in
theorem fetch_2 (p : Nat) (M : MM) (pc x : Int) (w : World) (h : HC p M w) (hM : MOk M) (c0 : 0 ≤ pc) (c1 : pc < 4294967296) (hs : fetS M pc 1 = none) (hs2 : fetS M pc (szI M pc) = some x) :
    Calls Try.prog 78 #[.pointer (some ⟨p, 0, none⟩), .int .u32 pc] w fun e w' => e = .returned (insV M pc) ∧ Below w.heap.size w w' := by
  have eV : insV M pc = stopV 4 x := by unfold insV; rw [hs]; dsimp only; rw [hs2]
  rw [eV]
  have CF := Lib.hid (fun w h => fetch_any p M pc 1 w h hM c0 c1)
  have CF2 := Lib.hid (fun w h => fetch_any p M pc (szI M pc) w h hM c0 c1)
  rw [hs, show stpV 4 none = .agg #[.int .i64 0, .int .u32 0] from rfl] at CF
  rw [hs2, show stpV 4 (some x) = .agg #[.int .i64 4, .int .u32 x] from rfl] at CF2
  have HL := Lib.hid (show (fetL M pc 1).length = 1 from fetL_len hs (by omega) (by omega))
  have hb := fetL_rg hM pc 1 0
  have CZ := Lib.hid (fun w => Size_any ((fetL M pc 1).getD 0 0) hb.1 hb.2 w)
  have hz := szI_bd M hM pc
  rw [show shSize (rowOf ((fetL M pc 1).getD 0 0)).sh = szI M pc from rfl] at CZ
  obtain ⟨y, hy⟩ : ∃ y, (fetL M pc 1).getD 0 0 = y := ⟨_, rfl⟩
  rw [hy] at CZ hb
  have HY := Lib.hid hy
  clear hy
  generalize szI M pc = z at CF2 CZ hz
  have F0 := FR.new w
  have B0 := Below.in2 w (.cells Z5 149) (.cells Z2 46)
  have HH := Lib.hid (h.upto (Upto.of_below (S := fun _ => False) B0) id)
  unfold Z5 Z2 at F0 B0 HH
  unfold stopV agg5
  clear eV hs hs2 h hM
  go_enter Try.func78, Try.ntmps78
  go_wp2_with fail
  generalize (w.alloc (.cells #[.int .i64 0, .int .i64 0, .int .i64 0, .int .i64 0, .int .u32 0] 149)).alloc (.cells #[.int .i64 0, .int .u32 0] 46) = WA at F0 B0 HH ⊢
  have HF := Lib.hid F0
  have HB := Lib.hid B0
  clear F0 B0
  go_wp2_with (go_at_call 122; (with_reducible refine (CF.out _ HH.out).mono ?_); rintro e w1 ⟨v, rfl, o1, b1⟩; have HR := Lib.hid (HF.out.below b1); have rl0 : w.heap.size < w1.heap.size := Nat.lt_of_succ_lt HR.out.l; obtain ⟨ao, cap, rfl, bs, _⟩ := o1.form; obtain ⟨bl, bm, bk⟩ := bs; rw [HL.out] at bl bk ⊢; obtain ⟨bb, boff, rfl, bbl, bc⟩ := bk (by omega); have bc0 := bc 0 (by omega); rw [Nat.add_zero, HY.out] at bc0; have HH1 := Lib.hid (HH.out.upto (Upto.of_below (S := fun _ => False) b1) id); have B1 := Lib.hid (HB.out.trans (b1.mono HB.out.size)); clear o1 b1 bk bc)
  go_at_call 123
  (with_reducible refine (CZ.out _).mono ?_)
  rintro e w2 ⟨rfl, b2⟩
  have hw : Below w1.heap.size w1 (w1.alloc (.cells #[.int .i64 0, .int .u32 0] 46)) := (Below.refl _ _).alloc (Nat.le_refl _) _
  have ls0 : w1.heap.size < (w1.alloc (.cells #[.int .i64 0, .int .u32 0] 46)).heap.size := by simp
  have HR2 := Lib.hid ((HR.out.below hw).below b2)
  have HH2 := Lib.hid ((HH1.out.upto (Upto.of_below (S := fun _ => False) hw) id).upto (Upto.of_below (S := fun _ => False) b2) id)
  have B2 := Lib.hid ((B1.out.trans (hw.mono (Nat.le_of_lt rl0))).trans (b2.mono (Nat.le_trans (Nat.le_of_lt rl0) hw.size)))
  have s0 := (b2.cell (p := ⟨w1.heap.size, 0, none⟩) ls0).trans (box_at w1 _ _ 0)
  have s1 := (b2.cell (p := ⟨w1.heap.size, 1, none⟩) ls0).trans (box_at w1 _ _ 1)
  have zs := fun i => (b2.frozen (p := ⟨w1.heap.size, i, none⟩) ls0).trans (fz_new w1 _ _ i)
  have ls := Nat.lt_of_lt_of_le ls0 b2.size
  have sb : w.heap.size < w2.heap.size := Nat.lt_of_succ_lt HR2.out.l
  clear b2 hw
  go_wp2_with (go_at_call 122; (with_reducible refine (CF2.out _ HH2.out).mono ?_); rintro e w3 ⟨v2, rfl, o3, b3⟩; have HR3 := Lib.hid (HR2.out.below b3); have B3 := Lib.hid (B2.out.trans (b3.mono (Nat.le_of_lt sb))); have r0 := (b3.cell (p := ⟨w1.heap.size, 0, none⟩) ls).trans s0; have r1 := (b3.cell (p := ⟨w1.heap.size, 1, none⟩) ls).trans s1; have zr := fun i => (b3.frozen (p := ⟨w1.heap.size, i, none⟩) ls).trans (zs i); have lr := Nat.lt_of_lt_of_le ls b3.size; obtain ⟨ra0, ra1, ra2, ra3, ra4, rb0, rb1, rza, rzb, rl⟩ := HR3.out; have rl3 := Nat.lt_of_succ_lt rl; have O3 := Lib.hid o3; clear b3 o3)
  have n1 : w1.heap.size ≠ w.heap.size := Nat.ne_of_gt rl0
  have n2 : w1.heap.size ≠ w.heap.size + 1 := Nat.ne_of_gt HR.out.l
  have HR4 := Lib.hid ((HR3.out.off (q := ⟨w1.heap.size, 0, none⟩) n1 n2 (.int .i64 4)).off (q := ⟨w1.heap.size, 1, none⟩) n1 n2 (.int .u32 x))
  have q0 : ((w3.setCell ⟨w1.heap.size, 0, none⟩ (.int .i64 4)).setCell ⟨w1.heap.size, 1, none⟩ (.int .u32 x)).cell? ⟨w1.heap.size, 0, none⟩ = some (.int .i64 4) := (off (by omega)).trans (World.cell?_setCell_same _ _ _ r0)
  have q1 : ((w3.setCell ⟨w1.heap.size, 0, none⟩ (.int .i64 4)).setCell ⟨w1.heap.size, 1, none⟩ (.int .u32 x)).cell? ⟨w1.heap.size, 1, none⟩ = some (.int .u32 x) := World.cell?_setCell_same _ _ _ ((off (by omega)).trans r1)
  have B4 := Lib.hid ((B3.out.setCell (p := ⟨w1.heap.size, 0, none⟩) (Nat.le_of_lt rl0) (.int .i64 4)).setCell (p := ⟨w1.heap.size, 1, none⟩) (Nat.le_of_lt rl0) (.int .u32 x))
  clear ra0 ra1 ra2 ra3 ra4 rb0 rb1 rza rzb rl rl3 r0 r1 zr lr s0 s1 zs ls
  generalize (w3.setCell ⟨w1.heap.size, 0, none⟩ (.int .i64 4)).setCell ⟨w1.heap.size, 1, none⟩ (.int .u32 x) = W4 at HR4 q0 q1 B4 ⊢
  obtain ⟨ra0, ra1, ra2, ra3, ra4, rb0, rb1, rza, rzb, rl⟩ := HR4.out
  go_region
  obtain ⟨u, t, fq, u0, u1, u2, u3, u4, t0, t1⟩ := HR4.out.put (.int .i64 0) (.int .i64 0) (.int .i64 0) (.int .i64 0) (.int .u32 0) (.int .i64 4) (.int .u32 x)
  have bp2 := (below_put B4.out (Nat.le_refl _) (.int .i64 0) (.int .i64 0) (.int .i64 0) (.int .i64 0) (.int .u32 0) (.int .i64 4) (.int .u32 x)).drew
  have fq2 := fq.drew
  clear fq ra0 ra1 ra2 ra3 ra4 rb0 rb1 rza rzb
  generalize World.drew _ = WZ at fq2 bp2 ⊢
  have f0 := fq2.a 0 (by omega)
  have f1 := fq2.a 1 (by omega)
  have f2 := fq2.a 2 (by omega)
  have f3 := fq2.a 3 (by omega)
  have f4 := fq2.a 4 (by omega)
  have g0 := fq2.b 0 (by omega)
  have g1 := fq2.b 1 (by omega)
  rw [u0] at f0
  rw [u1] at f1
  rw [u2] at f2
  rw [u3] at f3
  rw [u4] at f4
  rw [t0] at g0
  rw [t1] at g1
  go_wp2_with fail
  refine bodyPost_ret (v := .tuple #[.agg #[.int .i64 0, .int .i64 0, .int .i64 0, .int .i64 0, .int .u32 0], .int .i64 0, .agg #[.int .i64 4, .int .u32 x]]) (by simp [results, Try.results78, go_sem, f0, f1, f2, f3, f4, g0, g1]) rfl ⟨rfl, bp2⟩
set_option maxRecDepth 100000 in
set_option maxHeartbeats 4000000 in
theorem fetch_3 (p : Nat) (M : MM) (pc : Int) (w : World) (h : HC p M w) (hM : MOk M) (c0 : 0 ≤ pc) (c1 : pc < 4294967296) (hs : fetS M pc 1 = none) (hs2 : fetS M pc (szI M pc) = none) :
    Calls Try.prog 78 #[.pointer (some ⟨p, 0, none⟩), .int .u32 pc] w fun e w' => e = .returned (insV M pc) ∧ Below w.heap.size w w' := by
  obtain ⟨o, d, s, g, m, n, zz, hd⟩ := decv_shape (usI M pc)
  have eV : insV M pc = if zz = 0 then .tuple #[agg5 o d s g m, .int .i64 n, .agg #[.int .i64 0, .int .u32 0]] else stopV 3 0 := by
    unfold insV; rw [hs]; dsimp only; rw [hs2]; dsimp only; rw [hd]; rfl
  rw [eV]
  have hu := fetL_rg hM pc (szI M pc)
  unfold usI at hd
  have CF := Lib.hid (fun w h => fetch_any p M pc 1 w h hM c0 c1)
  have CF2 := Lib.hid (fun w h => fetch_any p M pc (szI M pc) w h hM c0 c1)
  rw [hs, show stpV 4 none = .agg #[.int .i64 0, .int .u32 0] from rfl] at CF
  rw [hs2, show stpV 4 none = .agg #[.int .i64 0, .int .u32 0] from rfl] at CF2
  have HL := Lib.hid (show (fetL M pc 1).length = 1 from fetL_len hs (by omega) (by omega))
  have hb := fetL_rg hM pc 1 0
  have CZ := Lib.hid (fun w => Size_any ((fetL M pc 1).getD 0 0) hb.1 hb.2 w)
  have hz := szI_bd M hM pc
  rw [show shSize (rowOf ((fetL M pc 1).getD 0 0)).sh = szI M pc from rfl] at CZ
  obtain ⟨y, hy⟩ : ∃ y, (fetL M pc 1).getD 0 0 = y := ⟨_, rfl⟩
  rw [hy] at CZ hb
  have HY := Lib.hid hy
  clear hy
  generalize szI M pc = z at CF2 CZ hz hd hu
  generalize fetL M pc z = us at CF2 hd hu
  have CD := Lib.hid (fun ao cap w h => gdec_all us ao cap w h hu)
  rw [hd] at CD
  clear hd hu
  have F0 := FR.new w
  have B0 := Below.in2 w (.cells Z5 149) (.cells Z2 46)
  have HH := Lib.hid (h.upto (Upto.of_below (S := fun _ => False) B0) id)
  unfold Z5 Z2 at F0 B0 HH
  unfold stopV agg5
  unfold agg5 at CD
  generalize hV : (if zz = 0 then _ else _ : Value) = V
  have HV := Lib.hid hV
  clear hV
  clear eV hs hs2 h hM
  go_enter Try.func78, Try.ntmps78
  go_wp2_with fail
  generalize (w.alloc (.cells #[.int .i64 0, .int .i64 0, .int .i64 0, .int .i64 0, .int .u32 0] 149)).alloc (.cells #[.int .i64 0, .int .u32 0] 46) = WA at F0 B0 HH ⊢
  have HF := Lib.hid F0
  have HB := Lib.hid B0
  clear F0 B0
  go_wp2_with (go_at_call 122; (with_reducible refine (CF.out _ HH.out).mono ?_); rintro e w1 ⟨v, rfl, o1, b1⟩; have HR := Lib.hid (HF.out.below b1); have rl0 : w.heap.size < w1.heap.size := Nat.lt_of_succ_lt HR.out.l; obtain ⟨ao, cap, rfl, bs, _⟩ := o1.form; obtain ⟨bl, bm, bk⟩ := bs; rw [HL.out] at bl bk ⊢; obtain ⟨bb, boff, rfl, bbl, bc⟩ := bk (by omega); have bc0 := bc 0 (by omega); rw [Nat.add_zero, HY.out] at bc0; have HH1 := Lib.hid (HH.out.upto (Upto.of_below (S := fun _ => False) b1) id); have B1 := Lib.hid (HB.out.trans (b1.mono HB.out.size)); clear o1 b1 bk bc)
  go_at_call 123
  (with_reducible refine (CZ.out _).mono ?_)
  rintro e w2 ⟨rfl, b2⟩
  have hw : Below w1.heap.size w1 (w1.alloc (.cells #[.int .i64 0, .int .u32 0] 46)) := (Below.refl _ _).alloc (Nat.le_refl _) _
  have ls0 : w1.heap.size < (w1.alloc (.cells #[.int .i64 0, .int .u32 0] 46)).heap.size := by simp
  have HR2 := Lib.hid ((HR.out.below hw).below b2)
  have HH2 := Lib.hid ((HH1.out.upto (Upto.of_below (S := fun _ => False) hw) id).upto (Upto.of_below (S := fun _ => False) b2) id)
  have B2 := Lib.hid ((B1.out.trans (hw.mono (Nat.le_of_lt rl0))).trans (b2.mono (Nat.le_trans (Nat.le_of_lt rl0) hw.size)))
  have s0 := (b2.cell (p := ⟨w1.heap.size, 0, none⟩) ls0).trans (box_at w1 _ _ 0)
  have s1 := (b2.cell (p := ⟨w1.heap.size, 1, none⟩) ls0).trans (box_at w1 _ _ 1)
  have zs := fun i => (b2.frozen (p := ⟨w1.heap.size, i, none⟩) ls0).trans (fz_new w1 _ _ i)
  have ls := Nat.lt_of_lt_of_le ls0 b2.size
  have sb : w.heap.size < w2.heap.size := Nat.lt_of_succ_lt HR2.out.l
  clear b2 hw
  go_wp2_with (go_at_call 122; (with_reducible refine (CF2.out _ HH2.out).mono ?_); rintro e w3 ⟨v2, rfl, o3, b3⟩; have HR3 := Lib.hid (HR2.out.below b3); have B3 := Lib.hid (B2.out.trans (b3.mono (Nat.le_of_lt sb))); have r0 := (b3.cell (p := ⟨w1.heap.size, 0, none⟩) ls).trans s0; have r1 := (b3.cell (p := ⟨w1.heap.size, 1, none⟩) ls).trans s1; have zr := fun i => (b3.frozen (p := ⟨w1.heap.size, i, none⟩) ls).trans (zs i); have lr := Nat.lt_of_lt_of_le ls b3.size; obtain ⟨ra0, ra1, ra2, ra3, ra4, rb0, rb1, rza, rzb, rl⟩ := HR3.out; have rl3 := Nat.lt_of_succ_lt rl; have O3 := Lib.hid o3; clear b3 o3)
  have n1 : w1.heap.size ≠ w.heap.size := Nat.ne_of_gt rl0
  have n2 : w1.heap.size ≠ w.heap.size + 1 := Nat.ne_of_gt HR.out.l
  have HR4 := Lib.hid ((HR3.out.off (q := ⟨w1.heap.size, 0, none⟩) n1 n2 (.int .i64 0)).off (q := ⟨w1.heap.size, 1, none⟩) n1 n2 (.int .u32 0))
  have B4 := Lib.hid ((B3.out.setCell (p := ⟨w1.heap.size, 0, none⟩) (Nat.le_of_lt rl0) (.int .i64 0)).setCell (p := ⟨w1.heap.size, 1, none⟩) (Nat.le_of_lt rl0) (.int .u32 0))
  have O4 := (O3.out.below (q := ⟨w1.heap.size, 0, none⟩) ls (.int .i64 0)).below (q := ⟨w1.heap.size, 1, none⟩) ls (.int .u32 0)
  clear ra0 ra1 ra2 ra3 ra4 rb0 rb1 rza rzb rl rl3 r0 r1 zr lr s0 s1 zs ls
  generalize (w3.setCell ⟨w1.heap.size, 0, none⟩ (.int .i64 0)).setCell ⟨w1.heap.size, 1, none⟩ (.int .u32 0) = W4 at HR4 B4 O4 ⊢
  obtain ⟨ao3, cap3, rfl, bs3, _⟩ := O4.form
  clear O4
  go_at_call 124
  with_reducible refine (CD.out _ _ _ bs3).mono ?_
  clear bs3
  rintro e w5 ⟨rfl, b5⟩
  have HR5 := Lib.hid (HR4.out.below b5)
  have lw4 : w.heap.size < W4.heap.size := Nat.lt_of_succ_lt HR4.out.l
  have B5 := Lib.hid (B4.out.trans (b5.mono (Nat.le_of_lt lw4)))
  clear b5
  obtain ⟨ra0, ra1, ra2, ra3, ra4, rb0, rb1, rza, rzb, rl⟩ := HR5.out
  have rl5 := Nat.lt_of_succ_lt rl
  by_cases hz0 : zz = 0
  · subst hz0
    go_upto_region 10 with fail
    have hb6 := (Below.refl w5.heap.size w5).alloc (Nat.le_refl _) (.cells #[.int .i64 o, .int .i64 d, .int .i64 s, .int .i64 g, .int .u32 m] 149)
    have HR6 := Lib.hid (HR5.out.below hb6)
    have B6 := Lib.hid (B5.out.alloc (Nat.le_of_lt rl5) (.cells #[.int .i64 o, .int .i64 d, .int .i64 s, .int .i64 g, .int .u32 m] 149))
    have k0 := box_at w5 #[.int .i64 o, .int .i64 d, .int .i64 s, .int .i64 g, .int .u32 m] 149 0
    have k1 := box_at w5 #[.int .i64 o, .int .i64 d, .int .i64 s, .int .i64 g, .int .u32 m] 149 1
    have k2 := box_at w5 #[.int .i64 o, .int .i64 d, .int .i64 s, .int .i64 g, .int .u32 m] 149 2
    have k3 := box_at w5 #[.int .i64 o, .int .i64 d, .int .i64 s, .int .i64 g, .int .u32 m] 149 3
    have k4 := box_at w5 #[.int .i64 o, .int .i64 d, .int .i64 s, .int .i64 g, .int .u32 m] 149 4
    simp only [List.getElem?_toArray, List.getElem?_cons_zero, List.getElem?_cons_succ] at k0 k1 k2 k3 k4
    clear ra0 ra1 ra2 ra3 ra4 rb0 rb1 rza rzb rl hb6
    generalize w5.alloc (.cells #[.int .i64 o, .int .i64 d, .int .i64 s, .int .i64 g, .int .u32 m] 149) = W6 at HR6 B6 k0 k1 k2 k3 k4 ⊢
    obtain ⟨ra0, ra1, ra2, ra3, ra4, rb0, rb1, rza, rzb, rl⟩ := HR6.out
    have za0 := rza 0
    have za1 := rza 1
    have za2 := rza 2
    have za3 := rza 3
    have za4 := rza 4
    have zb0 := rzb 0
    have zb1 := rzb 1
    clear rza rzb
    go_wp2_with fail
    obtain ⟨u, t, fq2, u0, u1, u2, u3, u4, t0, t1⟩ := HR6.out.put (.int .i64 o) (.int .i64 d) (.int .i64 s) (.int .i64 g) (.int .u32 m) (.int .i64 0) (.int .u32 0)
    have bp2 := below_put B6.out (Nat.le_refl _) (.int .i64 o) (.int .i64 d) (.int .i64 s) (.int .i64 g) (.int .u32 m) (.int .i64 0) (.int .u32 0)
    clear ra0 ra1 ra2 ra3 ra4 rb0 rb1 za0 za1 za2 za3 za4 zb0 zb1 k0 k1 k2 k3 k4
    generalize World.setCell _ ⟨w.heap.size + 1, 1, none⟩ _ = WZ at fq2 bp2 ⊢
    have f0 := fq2.a 0 (by omega)
    have f1 := fq2.a 1 (by omega)
    have f2 := fq2.a 2 (by omega)
    have f3 := fq2.a 3 (by omega)
    have f4 := fq2.a 4 (by omega)
    have g0 := fq2.b 0 (by omega)
    have g1 := fq2.b 1 (by omega)
    rw [u0] at f0
    rw [u1] at f1
    rw [u2] at f2
    rw [u3] at f3
    rw [u4] at f4
    rw [t0] at g0
    rw [t1] at g1
    refine bodyPost_ret (v := .tuple #[.agg #[.int .i64 o, .int .i64 d, .int .i64 s, .int .i64 g, .int .u32 m], .int .i64 n, .agg #[.int .i64 0, .int .u32 0]]) (by simp [results, Try.results78, go_sem, f0, f1, f2, f3, f4, g0, g1]) rfl ⟨by rw [← HV.out, if_pos trivial], bp2⟩
  · have hzb : (zz == 0) = false := by rw [beq_eq_false_iff_ne]; exact hz0
    have hzn : (zz != 0) = true := by rw [bne, hzb]; rfl
    go_upto_region 9 with fail
    have hb6 := (Below.refl w5.heap.size w5).alloc (Nat.le_refl _) (.cells #[.int .i64 o, .int .i64 d, .int .i64 s, .int .i64 g, .int .u32 m] 149)
    have HR6 := Lib.hid (HR5.out.below hb6)
    have B6 := Lib.hid (B5.out.alloc (Nat.le_of_lt rl5) (.cells #[.int .i64 o, .int .i64 d, .int .i64 s, .int .i64 g, .int .u32 m] 149))
    have k0 := box_at w5 #[.int .i64 o, .int .i64 d, .int .i64 s, .int .i64 g, .int .u32 m] 149 0
    have k1 := box_at w5 #[.int .i64 o, .int .i64 d, .int .i64 s, .int .i64 g, .int .u32 m] 149 1
    have k2 := box_at w5 #[.int .i64 o, .int .i64 d, .int .i64 s, .int .i64 g, .int .u32 m] 149 2
    have k3 := box_at w5 #[.int .i64 o, .int .i64 d, .int .i64 s, .int .i64 g, .int .u32 m] 149 3
    have k4 := box_at w5 #[.int .i64 o, .int .i64 d, .int .i64 s, .int .i64 g, .int .u32 m] 149 4
    simp only [List.getElem?_toArray, List.getElem?_cons_zero, List.getElem?_cons_succ] at k0 k1 k2 k3 k4
    clear ra0 ra1 ra2 ra3 ra4 rb0 rb1 rza rzb rl hb6
    generalize w5.alloc (.cells #[.int .i64 o, .int .i64 d, .int .i64 s, .int .i64 g, .int .u32 m] 149) = W6 at HR6 B6 k0 k1 k2 k3 k4 ⊢
    obtain ⟨ra0, ra1, ra2, ra3, ra4, rb0, rb1, rza, rzb, rl⟩ := HR6.out
    have za0 := rza 0
    have za1 := rza 1
    have za2 := rza 2
    have za3 := rza 3
    have za4 := rza 4
    have zb0 := rzb 0
    have zb1 := rzb 1
    clear rza rzb
    go_wp2_with fail
    obtain ⟨u, t, fq2, u0, u1, u2, u3, u4, t0, t1⟩ := HR6.out.put (.int .i64 0) (.int .i64 0) (.int .i64 0) (.int .i64 0) (.int .u32 0) (.int .i64 3) (.int .u32 0)
    have bp2 := below_put B6.out (Nat.le_refl _) (.int .i64 0) (.int .i64 0) (.int .i64 0) (.int .i64 0) (.int .u32 0) (.int .i64 3) (.int .u32 0)
    clear ra0 ra1 ra2 ra3 ra4 rb0 rb1 za0 za1 za2 za3 za4 zb0 zb1 k0 k1 k2 k3 k4
    generalize World.setCell _ ⟨w.heap.size + 1, 1, none⟩ _ = WZ at fq2 bp2 ⊢
    have f0 := fq2.a 0 (by omega)
    have f1 := fq2.a 1 (by omega)
    have f2 := fq2.a 2 (by omega)
    have f3 := fq2.a 3 (by omega)
    have f4 := fq2.a 4 (by omega)
    have g0 := fq2.b 0 (by omega)
    have g1 := fq2.b 1 (by omega)
    rw [u0] at f0
    rw [u1] at f1
    rw [u2] at f2
    rw [u3] at f3
    rw [u4] at f4
    rw [t0] at g0
    rw [t1] at g1
    refine bodyPost_ret (v := .tuple #[.agg #[.int .i64 0, .int .i64 0, .int .i64 0, .int .i64 0, .int .u32 0], .int .i64 0, .agg #[.int .i64 3, .int .u32 0]]) (by simp [results, Try.results78, go_sem, f0, f1, f2, f3, f4, g0, g1]) rfl ⟨by rw [← HV.out, if_neg hz0], bp2⟩
theorem fetch_all (p : Nat) (M : MM) (pc : Int) (w : World) (h : HC p M w) (hM : MOk M) (c0 : 0 ≤ pc) (c1 : pc < 4294967296) :
    Calls Try.prog 78 #[.pointer (some ⟨p, 0, none⟩), .int .u32 pc] w fun e w' => e = .returned (insV M pc) ∧ Below w.heap.size w w' := by
  cases hs : fetS M pc 1 with
  | some x => exact fetch_1 p M pc x w h hM c0 c1 hs
  | none => cases hs2 : fetS M pc (szI M pc) with
    | some x => exact fetch_2 p M pc x w h hM c0 c1 hs hs2
    | none => exact fetch_3 p M pc w h hM c0 c1 hs hs2
end Go.Proofs.Ytcjcmnnhmajocab.St
namespace Go.Proofs.Ytcjcmnnhmajocab.St
open Go.RowKit Kt Me Fl Gu
set_option linter.unusedVariables false
def stV (R : Nat → Int) (pc f : Int) : Value := .agg #[.int .u32 (R 0), .int .u32 (R 1), .int .u32 (R 2), .int .u32 (R 3), .int .u32 (R 4), .int .u32 (R 5), .int .u32 (R 6), .int .u32 (R 7), .int .u32 pc, .int .u32 f]
def outV (o : Out) : Value := .tuple #[stV o.R o.pc o.f, .agg #[.int .i64 o.k, .int .u32 o.x]]
/-- what stops leaves all as it was, but for what memory had of it -/
def stay (R : Nat → Int) (pc f : Int) (o : Out) : Out := if o.k = 0 ∨ o.k = 1 then o else ⟨o.M, R, pc, f, o.k, o.x⟩
def stepO (M : MM) (R : Nat → Int) (pc f0 : Int) : Out :=
  match fetS M pc 1 with
  | some x => ⟨M, R, pc, f0 % 16, 4, x⟩
  | none => match fetS M pc (szI M pc) with
    | some x => ⟨M, R, pc, f0 % 16, 4, x⟩
    | none =>
      if dz (decv (usI M pc)) 6 = 0 then
        stay R pc (f0 % 16) (opO M R pc (f0 % 16) (w32 (pc + dz (decv (usI M pc)) 5)) (dz (decv (usI M pc)) 0) (dz (decv (usI M pc)) 1).toNat (dz (decv (usI M pc)) 2).toNat (dz (decv (usI M pc)) 3) (dz (decv (usI M pc)) 4))
      else ⟨M, R, pc, f0 % 16, 3, 0⟩
end Go.Proofs.Ytcjcmnnhmajocab.St
namespace Go.Proofs.Ytcjcmnnhmajocab.St
open Go.RowKit Kt Me Fl Gu
set_option linter.unusedVariables false
/-- block h of n cells, block g of two: what lies in them -/
structure RQ (h g n : Nat) (u t : Nat → Value) (W : World) : Prop where
  a : ∀ i, i < n → W.cell? ⟨h, i, none⟩ = some (u i)
  b : ∀ i, i < 2 → W.cell? ⟨g, i, none⟩ = some (t i)
  za : ∀ i, W.frozen? ⟨h, i, none⟩ = false
  zb : ∀ i, W.frozen? ⟨g, i, none⟩ = false
  la : h < W.heap.size
  lb : g < W.heap.size
  ne : h ≠ g
theorem RQ.upto {S : Nat → Prop} {h g n : Nat} {u t : Nat → Value} {W W' : World} (f : RQ h g n u t W) (b : Upto S W W') (h1 : ¬ S h) (h2 : ¬ S g) : RQ h g n u t W' :=
  ⟨fun i hi => (b.cell (q := ⟨h, i, none⟩) f.la h1).trans (f.a i hi), fun i hi => (b.cell (q := ⟨g, i, none⟩) f.lb h2).trans (f.b i hi), fun i => (b.frozen (q := ⟨h, i, none⟩) f.la h1).trans (f.za i), fun i => (b.frozen (q := ⟨g, i, none⟩) f.lb h2).trans (f.zb i),
    Nat.lt_of_lt_of_le f.la b.size, Nat.lt_of_lt_of_le f.lb b.size, f.ne⟩
theorem RQ.setA {h g n : Nat} {u t : Nat → Value} {W : World} (f : RQ h g n u t W) (i : Nat) (hi : i < n) (v : Value) : RQ h g n (upd u i v) t (W.setCell ⟨h, i, none⟩ v) := by
  refine ⟨fun j hj => ?_, fun j hj => ?_, fun j => by simpa using f.za j, fun j => by simpa using f.zb j, by simpa using f.la, by simpa using f.lb, f.ne⟩
  · by_cases e : j = i
    · subst e; rw [World.cell?_setCell_same _ _ _ (f.a j hj)]; simp [upd]
    · rw [World.cell?_setCell_other _ _ _ _ (by intro hx; exact e (congrArg Addr.off hx).symm), f.a j hj]; simp [upd, e]
  · rw [World.cell?_setCell_other _ _ _ _ (by intro hx; exact f.ne (congrArg Addr.block hx))]; exact f.b j hj
theorem RQ.setB {h g n : Nat} {u t : Nat → Value} {W : World} (f : RQ h g n u t W) (i : Nat) (hi : i < 2) (v : Value) : RQ h g n u (upd t i v) (W.setCell ⟨g, i, none⟩ v) := by
  refine ⟨fun j hj => ?_, fun j hj => ?_, fun j => by simpa using f.za j, fun j => by simpa using f.zb j, by simpa using f.la, by simpa using f.lb, f.ne⟩
  · rw [World.cell?_setCell_other _ _ _ _ (by intro hx; exact f.ne (congrArg Addr.block hx).symm)]; exact f.a j hj
  · by_cases e : j = i
    · subst e; rw [World.cell?_setCell_same _ _ _ (f.b j hj)]; simp [upd]
    · rw [World.cell?_setCell_other _ _ _ _ (by intro hx; exact e (congrArg Addr.off hx).symm), f.b j hj]; simp [upd, e]
theorem RQ.drew {h g n : Nat} {u t : Nat → Value} {W : World} (f : RQ h g n u t W) : RQ h g n u t W.drew := ⟨f.a, f.b, f.za, f.zb, f.la, f.lb, f.ne⟩
/-- all twelve written -/
theorem RQ.put {h g : Nat} {u t : Nat → Value} {W : World} (f : RQ h g 10 u t W) (v0 v1 v2 v3 v4 v5 v6 v7 v8 v9 y0 y1 : Value) :
    ∃ u' t', RQ h g 10 u' t' ((((((((((((W.setCell ⟨h, 0, none⟩ v0).setCell ⟨h, 1, none⟩ v1).setCell ⟨h, 2, none⟩ v2).setCell ⟨h, 3, none⟩ v3).setCell ⟨h, 4, none⟩ v4).setCell ⟨h, 5, none⟩ v5).setCell ⟨h, 6, none⟩ v6).setCell ⟨h, 7, none⟩ v7).setCell ⟨h, 8, none⟩ v8).setCell ⟨h, 9, none⟩ v9).setCell ⟨g, 0, none⟩ y0).setCell ⟨g, 1, none⟩ y1) ∧ u' 0 = v0 ∧ u' 1 = v1 ∧ u' 2 = v2 ∧ u' 3 = v3 ∧ u' 4 = v4 ∧ u' 5 = v5 ∧ u' 6 = v6 ∧ u' 7 = v7 ∧ u' 8 = v8 ∧ u' 9 = v9 ∧ t' 0 = y0 ∧ t' 1 = y1 :=
  ⟨_, _, ((((((((((((f.setA 0 (by omega) v0).setA 1 (by omega) v1).setA 2 (by omega) v2).setA 3 (by omega) v3).setA 4 (by omega) v4).setA 5 (by omega) v5).setA 6 (by omega) v6).setA 7 (by omega) v7).setA 8 (by omega) v8).setA 9 (by omega) v9).setB 0 (by omega) y0).setB 1 (by omega) y1), by simp [upd], by simp [upd], by simp [upd], by simp [upd], by simp [upd], by simp [upd], by simp [upd], by simp [upd], by simp [upd], by simp [upd], by simp [upd], by simp [upd]⟩
theorem upto_put {S : Nat → Prop} {h g : Nat} {w W : World} (b : Upto S w W) (hh : S h ∨ w.heap.size ≤ h) (hg : S g ∨ w.heap.size ≤ g) (v0 v1 v2 v3 v4 v5 v6 v7 v8 v9 y0 y1 : Value) :
    Upto S w ((((((((((((W.setCell ⟨h, 0, none⟩ v0).setCell ⟨h, 1, none⟩ v1).setCell ⟨h, 2, none⟩ v2).setCell ⟨h, 3, none⟩ v3).setCell ⟨h, 4, none⟩ v4).setCell ⟨h, 5, none⟩ v5).setCell ⟨h, 6, none⟩ v6).setCell ⟨h, 7, none⟩ v7).setCell ⟨h, 8, none⟩ v8).setCell ⟨h, 9, none⟩ v9).setCell ⟨g, 0, none⟩ y0).setCell ⟨g, 1, none⟩ y1) :=
  ((((((((((((b.setCell (q := ⟨h, 0, none⟩) hh v0).setCell (q := ⟨h, 1, none⟩) hh v1).setCell (q := ⟨h, 2, none⟩) hh v2).setCell (q := ⟨h, 3, none⟩) hh v3).setCell (q := ⟨h, 4, none⟩) hh v4).setCell (q := ⟨h, 5, none⟩) hh v5).setCell (q := ⟨h, 6, none⟩) hh v6).setCell (q := ⟨h, 7, none⟩) hh v7).setCell (q := ⟨h, 8, none⟩) hh v8).setCell (q := ⟨h, 9, none⟩) hh v9).setCell (q := ⟨g, 0, none⟩) hg y0).setCell (q := ⟨g, 1, none⟩) hg y1)
end Go.Proofs.Ytcjcmnnhmajocab.St
namespace Go.Proofs.Ytcjcmnnhmajocab.St
open Go.RowKit Kt Me Fl Gu
set_option linter.unusedVariables false
set_option maxRecDepth 100000 in
theorem row_ls : ∀ n : Fin 256, ((rowOf (n.val : Int)).op = 30 → (rowOf (n.val : Int)).sh ≠ 7 ∧ ((rowOf (n.val : Int)).fi = 3 → (rowOf (n.val : Int)).lo < 5)) ∧ ((rowOf (n.val : Int)).op = 31 → (rowOf (n.val : Int)).sh ≠ 7 ∧ ((rowOf (n.val : Int)).fi = 3 → (rowOf (n.val : Int)).lo < 3)) := by decide +kernel
structure InR (v : Value) : Prop where
  o : 0 ≤ dz v 0 ∧ dz v 0 < 32
  d : 0 ≤ dz v 1 ∧ dz v 1 < 8
  s : 0 ≤ dz v 2 ∧ dz v 2 < 8
  f : 0 ≤ dz v 3 ∧ dz v 3 < 16
  ld : dz v 0 = 30 → dz v 3 < 5
  st : dz v 0 = 31 → dz v 3 < 3
  m : 0 ≤ dz v 4 ∧ dz v 4 < 4294967296
  n : 0 ≤ dz v 5 ∧ dz v 5 < 8
theorem fin_rng (b : Int) (b0 : 0 ≤ b) (b1 : b < 256) (a : Nat → Int) (ha : ∀ j, 0 ≤ a j ∧ a j < 256)
    (h : dz (fin (rowOf b) (if (rowOf b).fi = 1 then (rowOf b).lo else 0) (if (rowOf b).fi = 2 then (rowOf b).lo else 0) (if (rowOf b).fi = 3 then (rowOf b).lo else 0) a) 6 = 0) :
    InR (fin (rowOf b) (if (rowOf b).fi = 1 then (rowOf b).lo else 0) (if (rowOf b).fi = 2 then (rowOf b).lo else 0) (if (rowOf b).fi = 3 then (rowOf b).lo else 0) a) := by
  obtain ⟨p1, p2, p3, p4, p5, p6, p7, p8⟩ := row_in b b0 b1
  obtain ⟨e1, e2⟩ : ((rowOf b).op = 30 → (rowOf b).sh ≠ 7 ∧ ((rowOf b).fi = 3 → (rowOf b).lo < 5)) ∧ ((rowOf b).op = 31 → (rowOf b).sh ≠ 7 ∧ ((rowOf b).fi = 3 → (rowOf b).lo < 3)) := by
    obtain ⟨n, rfl⟩ := Int.eq_ofNat_of_zero_le b0
    exact row_ls ⟨n, by omega⟩
  generalize rowOf b = r at *
  obtain ⟨op, sh, lo, fi⟩ := r
  dsimp only at *
  have d0 : 0 ≤ (if fi = 1 then lo else 0) := by split <;> omega
  have s0 : 0 ≤ (if fi = 2 then lo else 0) := by split <;> omega
  have f0 : 0 ≤ (if fi = 3 then lo else 0) ∧ (if fi = 3 then lo else 0) < 16 := by split <;> omega
  have f30 : op = 30 → (if fi = 3 then lo else 0) < 5 := fun h => by
    split
    · next h3 => exact (e1 h).2 h3
    · omega
  have f31 : op = 31 → (if fi = 3 then lo else 0) < 3 := fun h => by
    split
    · next h3 => exact (e2 h).2 h3
    · omega
  generalize (if fi = 1 then lo else 0) = dd at *
  generalize (if fi = 2 then lo else 0) = ss at *
  generalize (if fi = 3 then lo else 0) = ff at *
  have a0 := ha 0
  have a1 := ha 1
  have a2 := ha 2
  have a3 := ha 3
  have a4 := ha 4
  have a5 := ha 5
  unfold fin at h ⊢
  by_cases hk : oD sh dd a < 8 ∧ oS sh ss a < 8
  · rw [if_pos hk]
    refine ⟨⟨p1, by show op < 32; omega⟩, ⟨?_, hk.1⟩, ⟨?_, hk.2⟩, ⟨?_, ?_⟩, fun h => ?_, fun h => ?_, ?_, ?_⟩
    · show 0 ≤ oD sh dd a; unfold oD; repeat' split
      all_goals omega
    · show 0 ≤ oS sh ss a; unfold oS; repeat' split
      all_goals omega
    · show 0 ≤ oF sh ff a; unfold oF; split <;> omega
    · show oF sh ff a < 16; unfold oF; split <;> omega
    · show oF sh ff a < 5; unfold oF; rw [if_neg (e1 h).1]; exact f30 h
    · show oF sh ff a < 3; unfold oF; rw [if_neg (e2 h).1]; exact f31 h
    · show 0 ≤ oM sh 0 a ∧ oM sh 0 a < 4294967296
      unfold oM sgn four
      repeat' split
      all_goals omega
    · show 0 ≤ shSize sh ∧ shSize sh < 8
      rcases (show sh = 0 ∨ sh = 1 ∨ sh = 2 ∨ sh = 3 ∨ sh = 4 ∨ sh = 5 ∨ sh = 6 ∨ sh = 7 ∨ sh = 8 ∨ sh = 9 ∨ sh = 10 ∨ sh = 11 ∨ sh = 12 by omega) with rfl | rfl | rfl | rfl | rfl | rfl | rfl | rfl | rfl | rfl | rfl | rfl | rfl <;> decide
  · rw [if_neg hk] at h
    exact absurd h (by decide)
theorem decv_rng (us : List Int) (hw : ∀ j, 0 ≤ us.getD j 0 ∧ us.getD j 0 < 256) (h : dz (decv us) 6 = 0) : InR (decv us) := by
  unfold decv at h ⊢
  by_cases c1 : us.length = 0
  · rw [if_pos c1] at h; exact absurd h (by decide)
  rw [if_neg c1] at h ⊢
  by_cases c2 : shSize (rowOf (us.getD 0 0)).sh = 0
  · rw [if_pos c2] at h; exact absurd h (by decide)
  rw [if_neg c2] at h ⊢
  by_cases c3 : (us.length : Int) < shSize (rowOf (us.getD 0 0)).sh
  · rw [if_pos c3] at h; exact absurd h (by decide)
  rw [if_neg c3] at h ⊢
  exact fin_rng _ (hw 0).1 (hw 0).2 _ (fun j => hw (j + 1)) h
end Go.Proofs.Ytcjcmnnhmajocab.St
namespace Go.Proofs.Ytcjcmnnhmajocab.St
open Go.RowKit Kt Me Fl Gu
set_option linter.unusedVariables false
set_option linter.unusedSimpArgs false
/-- the state as it came in, and the results' cells -/
structure S3 (h : Nat) (R : Nat → Int) (pc f : Int) (W : World) : Prop where
  s : ∀ j, j < 8 → W.cell? ⟨h, j, none⟩ = some (.int .u32 (R j))
  s8 : W.cell? ⟨h, 8, none⟩ = some (.int .u32 pc)
  s9 : W.cell? ⟨h, 9, none⟩ = some (.int .u32 f)
  q : RQ (h + 1) (h + 1 + 1) 10 (fun _ => .int .u32 0) (fun i => if i = 1 then .int .u32 0 else .int .i64 0) W
def stL (R : Nat → Int) (pc f : Int) : Array Value := #[.int .u32 (R 0), .int .u32 (R 1), .int .u32 (R 2), .int .u32 (R 3), .int .u32 (R 4), .int .u32 (R 5), .int .u32 (R 6), .int .u32 (R 7), .int .u32 pc, .int .u32 f]
def Z10 : Array Value := #[.int .u32 0, .int .u32 0, .int .u32 0, .int .u32 0, .int .u32 0, .int .u32 0, .int .u32 0, .int .u32 0, .int .u32 0, .int .u32 0]
theorem S3.below {h : Nat} {R : Nat → Int} {pc f : Int} {W W' : World} (a : S3 h R pc f W) (b : Below W.heap.size W W') : S3 h R pc f W' := by
  have l0 : h < W.heap.size := Nat.lt_of_succ_lt a.q.la
  exact ⟨fun j hj => (b.cell (p := ⟨h, j, none⟩) l0).trans (a.s j hj), (b.cell (p := ⟨h, 8, none⟩) l0).trans a.s8, (b.cell (p := ⟨h, 9, none⟩) l0).trans a.s9, a.q.upto (Upto.of_below (S := fun _ => False) b) id id⟩
theorem S3.new (w : World) (R : Nat → Int) (pc f : Int) : S3 w.heap.size R pc f (((w.alloc (.cells (stL R pc f) 72)).alloc (.cells Z10 72)).alloc (.cells Z2 46)) := by
  have e1 : (w.alloc (.cells (stL R pc f) 72)).heap.size = w.heap.size + 1 := by simp
  have e2 : ((w.alloc (.cells (stL R pc f) 72)).alloc (.cells Z10 72)).heap.size = w.heap.size + 2 := by simp
  generalize hW : w.alloc (.cells (stL R pc f) 72) = W1 at e1 e2 ⊢
  have A1 : ∀ i, W1.cell? ⟨w.heap.size, i, none⟩ = (stL R pc f)[i]? := fun i => by rw [← hW]; exact box_at w _ _ i
  have b12 := (Below.refl W1.heap.size W1).alloc (Nat.le_refl _) (.cells Z10 72)
  have A2 : ∀ i, (W1.alloc (.cells Z10 72)).cell? ⟨w.heap.size + 1, i, none⟩ = Z10[i]? := fun i => by rw [← e1]; exact box_at W1 _ _ i
  have F2 : ∀ i, (W1.alloc (.cells Z10 72)).frozen? ⟨w.heap.size + 1, i, none⟩ = false := fun i => by rw [← e1]; exact fz_new W1 _ _ i
  generalize hV : W1.alloc (.cells Z10 72) = W2 at e2 b12 A2 F2 ⊢
  have b23 := (Below.refl W2.heap.size W2).alloc (Nat.le_refl _) (.cells Z2 46)
  have A3 : ∀ i, (W2.alloc (.cells Z2 46)).cell? ⟨w.heap.size + 2, i, none⟩ = Z2[i]? := fun i => by rw [← e2]; exact box_at W2 _ _ i
  have F3 : ∀ i, (W2.alloc (.cells Z2 46)).frozen? ⟨w.heap.size + 2, i, none⟩ = false := fun i => by rw [← e2]; exact fz_new W2 _ _ i
  have B1 : ∀ i, (W2.alloc (.cells Z2 46)).cell? ⟨w.heap.size, i, none⟩ = (stL R pc f)[i]? := fun i => (b23.cell (p := ⟨w.heap.size, i, none⟩) (by show w.heap.size < _; omega)).trans ((b12.cell (p := ⟨w.heap.size, i, none⟩) (by show w.heap.size < _; omega)).trans (A1 i))
  have B2 : ∀ i, (W2.alloc (.cells Z2 46)).cell? ⟨w.heap.size + 1, i, none⟩ = Z10[i]? := fun i => (b23.cell (p := ⟨w.heap.size + 1, i, none⟩) (by show w.heap.size + 1 < _; omega)).trans (A2 i)
  have e3 : (W2.alloc (.cells Z2 46)).heap.size = w.heap.size + 3 := by simp [e2]
  refine ⟨fun j hj => ?_, B1 8, B1 9, ⟨fun i hi => ?_, fun i hi => ?_, fun i => (b23.frozen (p := ⟨w.heap.size + 1, i, none⟩) (by show w.heap.size + 1 < _; omega)).trans (F2 i), F3, by omega, by omega, by omega⟩⟩
  · rw [B1 j]
    rcases (show j = 0 ∨ j = 1 ∨ j = 2 ∨ j = 3 ∨ j = 4 ∨ j = 5 ∨ j = 6 ∨ j = 7 by omega) with rfl | rfl | rfl | rfl | rfl | rfl | rfl | rfl <;> rfl
  · rw [B2 i]
    rcases (show i = 0 ∨ i = 1 ∨ i = 2 ∨ i = 3 ∨ i = 4 ∨ i = 5 ∨ i = 6 ∨ i = 7 ∨ i = 8 ∨ i = 9 by omega) with rfl | rfl | rfl | rfl | rfl | rfl | rfl | rfl | rfl | rfl <;> rfl
  · rw [A3 i]
    rcases (show i = 0 ∨ i = 1 by omega) with rfl | rfl <;> rfl
set_option maxRecDepth 100000 in
set_option maxHeartbeats 4000000 in
theorem step_stop (p : Nat) (M : MM) (R : Nat → Int) (pc f : Int) (k x : Int) (hk : k ≠ 0) (w : World) (h : HC p M w) (hM : MOk M) (c0 : 0 ≤ pc) (c1 : pc < 4294967296) (f0 : 0 ≤ f) (f1 : f < 4294967296) (hs : insV M pc = stopV k x) :
    Calls Try.prog 34 #[.pointer (some ⟨p, 0, none⟩), stV R pc f] w fun e w' => e = .returned (outV ⟨M, R, pc, f % 16, k, x⟩) ∧ HC p M w' ∧ Upto (fun i => i = p) w w' := by
  have CF := Lib.hid (fun w h => fetch_all p M pc w h hM c0 c1)
  rw [hs] at CF
  have e15 : bits .and .u32 f 15 = f % 16 := mask15 f f0 f1
  have S0 := S3.new w R pc (f % 16)
  have B0 : Below w.heap.size w (((w.alloc (.cells (stL R pc (f % 16)) 72)).alloc (.cells Z10 72)).alloc (.cells Z2 46)) := (((Below.refl _ _).alloc (Nat.le_refl _) _).alloc (by simp) _).alloc (by simp; omega) _
  have HH := Lib.hid (h.upto (Upto.of_below (S := fun _ => False) B0) id)
  unfold stL Z10 Z2 at S0 B0 HH
  have hkb : (k == 0) = false := by rw [beq_eq_false_iff_ne]; exact hk
  have hkn : (k != 0) = true := by rw [bne, hkb]; rfl
  unfold stopV agg5 at CF
  unfold stV
  have lpH := Lib.hid (show p < w.heap.size from h.2.2.2.2.2.2)
  clear h hM hs
  go_enter Try.func34, Try.ntmps34
  go_wp2_with fail
  generalize ((w.alloc (.cells #[.int .u32 (R 0), .int .u32 (R 1), .int .u32 (R 2), .int .u32 (R 3), .int .u32 (R 4), .int .u32 (R 5), .int .u32 (R 6), .int .u32 (R 7), .int .u32 pc, .int .u32 (f % 16)] 72)).alloc (.cells #[.int .u32 0, .int .u32 0, .int .u32 0, .int .u32 0, .int .u32 0, .int .u32 0, .int .u32 0, .int .u32 0, .int .u32 0, .int .u32 0] 72)).alloc (.cells #[.int .i64 0, .int .u32 0] 46) = WA at S0 B0 HH ⊢
  have HS := Lib.hid S0
  have HB := Lib.hid B0
  clear S0 B0
  go_wp2_with (go_at_call 78; (with_reducible refine (CF.out _ HH.out).mono ?_); rintro e w1 ⟨rfl, b1⟩; have HS1 := Lib.hid (HS.out.below b1); have HH1 := Lib.hid (HH.out.upto (Upto.of_below (S := fun _ => False) b1) id); have lpw : p < w.heap.size := lpH.out)
  have e1 : (w1.alloc (.cells #[.int .i64 0, .int .i64 0, .int .i64 0, .int .i64 0, .int .u32 0] 149)).heap.size = w1.heap.size + 1 := by simp
  have k0 := box_at (w1.alloc (.cells #[.int .i64 0, .int .i64 0, .int .i64 0, .int .i64 0, .int .u32 0] 149)) #[.int .i64 k, .int .u32 x] 46 0
  have k1 := box_at (w1.alloc (.cells #[.int .i64 0, .int .i64 0, .int .i64 0, .int .i64 0, .int .u32 0] 149)) #[.int .i64 k, .int .u32 x] 46 1
  rw [e1] at k0 k1
  simp only [List.getElem?_toArray, List.getElem?_cons_zero, List.getElem?_cons_succ] at k0 k1
  have b2 : Below w1.heap.size w1 ((w1.alloc (.cells #[.int .i64 0, .int .i64 0, .int .i64 0, .int .i64 0, .int .u32 0] 149)).alloc (.cells #[.int .i64 k, .int .u32 x] 46)) := ((Below.refl _ _).alloc (Nat.le_refl _) _).alloc (by simp) _
  have HS2 := Lib.hid (HS1.out.below b2)
  have HH2 := Lib.hid (HH1.out.upto (Upto.of_below (S := fun _ => False) b2) id)
  generalize (w1.alloc (.cells #[.int .i64 0, .int .i64 0, .int .i64 0, .int .i64 0, .int .u32 0] 149)).alloc (.cells #[.int .i64 k, .int .u32 x] 46) = W2 at k0 k1 b2 HS2 HH2 ⊢
  have s0 := HS2.out.s 0 (by omega)
  have s1 := HS2.out.s 1 (by omega)
  have s2 := HS2.out.s 2 (by omega)
  have s3 := HS2.out.s 3 (by omega)
  have s4 := HS2.out.s 4 (by omega)
  have s5 := HS2.out.s 5 (by omega)
  have s6 := HS2.out.s 6 (by omega)
  have s7 := HS2.out.s 7 (by omega)
  have s8 := HS2.out.s8
  have s9 := HS2.out.s9
  have q0 := HS2.out.q.a 0 (by omega)
  have y0 := HS2.out.q.za 0
  have q1 := HS2.out.q.a 1 (by omega)
  have y1 := HS2.out.q.za 1
  have q2 := HS2.out.q.a 2 (by omega)
  have y2 := HS2.out.q.za 2
  have q3 := HS2.out.q.a 3 (by omega)
  have y3 := HS2.out.q.za 3
  have q4 := HS2.out.q.a 4 (by omega)
  have y4 := HS2.out.q.za 4
  have q5 := HS2.out.q.a 5 (by omega)
  have y5 := HS2.out.q.za 5
  have q6 := HS2.out.q.a 6 (by omega)
  have y6 := HS2.out.q.za 6
  have q7 := HS2.out.q.a 7 (by omega)
  have y7 := HS2.out.q.za 7
  have q8 := HS2.out.q.a 8 (by omega)
  have y8 := HS2.out.q.za 8
  have q9 := HS2.out.q.a 9 (by omega)
  have y9 := HS2.out.q.za 9
  have r0 := HS2.out.q.b 0 (by omega)
  have z0 := HS2.out.q.zb 0
  have r1 := HS2.out.q.b 1 (by omega)
  have z1 := HS2.out.q.zb 1
  have lw := HS1.out.q.lb
  have n1 : ¬ w1.heap.size = w.heap.size := by omega
  have n2 : ¬ w.heap.size = w1.heap.size := by omega
  have n3 : ¬ w1.heap.size = w.heap.size + 1 := by omega
  have n4 : ¬ w.heap.size + 1 = w1.heap.size := by omega
  go_region
  clear s0 s1 s2 s3 s4 s5 s6 s7 s8 s9 q0 y0 q1 y1 q2 y2 q3 y3 q4 y4 q5 y5 q6 y6 q7 y7 q8 y8 q9 y9 r0 z0 r1 z1 k0 k1
  obtain ⟨u, t, fq, u0, u1, u2, u3, u4, u5, u6, u7, u8, u9, t0, t1⟩ := HS2.out.q.put (.int .u32 (R 0)) (.int .u32 (R 1)) (.int .u32 (R 2)) (.int .u32 (R 3)) (.int .u32 (R 4)) (.int .u32 (R 5)) (.int .u32 (R 6)) (.int .u32 (R 7)) (.int .u32 pc) (.int .u32 (f % 16)) (.int .i64 k) (.int .u32 x)
  have bw : Upto (fun i => i = p) w W2 := Upto.of_below ((HB.out.trans (b1.mono HB.out.size)).trans (b2.mono (Nat.le_trans HB.out.size b1.size)))
  have bp := (upto_put bw (.inr (Nat.le_succ _)) (.inr (Nat.le_add_right _ 2)) (.int .u32 (R 0)) (.int .u32 (R 1)) (.int .u32 (R 2)) (.int .u32 (R 3)) (.int .u32 (R 4)) (.int .u32 (R 5)) (.int .u32 (R 6)) (.int .u32 (R 7)) (.int .u32 pc) (.int .u32 (f % 16)) (.int .i64 k) (.int .u32 x)).drew
  have hp := (HH2.out.upto (upto_put (Upto.refl (fun i => i = w.heap.size + 1 ∨ i = w.heap.size + 1 + 1) W2) (.inl (.inl rfl)) (.inl (.inr rfl)) (.int .u32 (R 0)) (.int .u32 (R 1)) (.int .u32 (R 2)) (.int .u32 (R 3)) (.int .u32 (R 4)) (.int .u32 (R 5)) (.int .u32 (R 6)) (.int .u32 (R 7)) (.int .u32 pc) (.int .u32 (f % 16)) (.int .i64 k) (.int .u32 x)) (by intro hx; rcases hx with hx | hx <;> omega)).drew
  have fq2 := fq.drew
  clear fq
  generalize World.drew _ = WZ at fq2 bp hp ⊢
  have g0 := fq2.a 0 (by omega)
  rw [u0] at g0
  have g1 := fq2.a 1 (by omega)
  rw [u1] at g1
  have g2 := fq2.a 2 (by omega)
  rw [u2] at g2
  have g3 := fq2.a 3 (by omega)
  rw [u3] at g3
  have g4 := fq2.a 4 (by omega)
  rw [u4] at g4
  have g5 := fq2.a 5 (by omega)
  rw [u5] at g5
  have g6 := fq2.a 6 (by omega)
  rw [u6] at g6
  have g7 := fq2.a 7 (by omega)
  rw [u7] at g7
  have g8 := fq2.a 8 (by omega)
  rw [u8] at g8
  have g9 := fq2.a 9 (by omega)
  rw [u9] at g9
  have o0 := fq2.b 0 (by omega)
  rw [t0] at o0
  have o1 := fq2.b 1 (by omega)
  rw [t1] at o1
  go_wp2_with fail
  refine bodyPost_ret (v := outV ⟨M, R, pc, f % 16, k, x⟩) (by simp [outV, stV, results, Try.results34, go_sem, g0, g1, g2, g3, g4, g5, g6, g7, g8, g9, o0, o1]) rfl ⟨rfl, hp, bp⟩
end Go.Proofs.Ytcjcmnnhmajocab.St
namespace Go.Proofs.Ytcjcmnnhmajocab.St
open Go.RowKit Kt Me Fl Gu
set_option linter.unusedVariables false
set_option linter.unusedSimpArgs false
/-- a state in a box -/
structure SB (h : Nat) (R : Nat → Int) (pc f : Int) (W : World) : Prop where
  r : ∀ j, j < 8 → W.cell? ⟨h, j, none⟩ = some (.int .u32 (R j))
  c8 : W.cell? ⟨h, 8, none⟩ = some (.int .u32 pc)
  c9 : W.cell? ⟨h, 9, none⟩ = some (.int .u32 f)
  z : ∀ i, W.frozen? ⟨h, i, none⟩ = false
  l : h < W.heap.size
/-- an instruction in a box -/
structure XB (h : Nat) (k d s o m : Int) (W : World) : Prop where
  c0 : W.cell? ⟨h, 0, none⟩ = some (.int .i64 k)
  c1 : W.cell? ⟨h, 1, none⟩ = some (.int .i64 d)
  c2 : W.cell? ⟨h, 2, none⟩ = some (.int .i64 s)
  c3 : W.cell? ⟨h, 3, none⟩ = some (.int .i64 o)
  c4 : W.cell? ⟨h, 4, none⟩ = some (.int .u32 m)
  l : h < W.heap.size
/-- a stop in a box -/
structure KB (h : Nat) (k x : Int) (W : World) : Prop where
  c0 : W.cell? ⟨h, 0, none⟩ = some (.int .i64 k)
  c1 : W.cell? ⟨h, 1, none⟩ = some (.int .u32 x)
  z : ∀ i, W.frozen? ⟨h, i, none⟩ = false
  l : h < W.heap.size
theorem SB.all {h : Nat} {R : Nat → Int} {pc f : Int} {W : World} (a : SB h R pc f W) : W.cell? ⟨h, 0, none⟩ = some (.int .u32 (R 0)) ∧ W.cell? ⟨h, 1, none⟩ = some (.int .u32 (R 1)) ∧ W.cell? ⟨h, 2, none⟩ = some (.int .u32 (R 2)) ∧ W.cell? ⟨h, 3, none⟩ = some (.int .u32 (R 3)) ∧ W.cell? ⟨h, 4, none⟩ = some (.int .u32 (R 4)) ∧ W.cell? ⟨h, 5, none⟩ = some (.int .u32 (R 5)) ∧ W.cell? ⟨h, 6, none⟩ = some (.int .u32 (R 6)) ∧ W.cell? ⟨h, 7, none⟩ = some (.int .u32 (R 7)) ∧ W.cell? ⟨h, 8, none⟩ = some (.int .u32 pc) ∧ W.cell? ⟨h, 9, none⟩ = some (.int .u32 f) :=
  ⟨a.r 0 (by omega), a.r 1 (by omega), a.r 2 (by omega), a.r 3 (by omega), a.r 4 (by omega), a.r 5 (by omega), a.r 6 (by omega), a.r 7 (by omega), a.c8, a.c9⟩
theorem S3.all {h : Nat} {R : Nat → Int} {pc f : Int} {W : World} (a : S3 h R pc f W) : W.cell? ⟨h, 0, none⟩ = some (.int .u32 (R 0)) ∧ W.cell? ⟨h, 1, none⟩ = some (.int .u32 (R 1)) ∧ W.cell? ⟨h, 2, none⟩ = some (.int .u32 (R 2)) ∧ W.cell? ⟨h, 3, none⟩ = some (.int .u32 (R 3)) ∧ W.cell? ⟨h, 4, none⟩ = some (.int .u32 (R 4)) ∧ W.cell? ⟨h, 5, none⟩ = some (.int .u32 (R 5)) ∧ W.cell? ⟨h, 6, none⟩ = some (.int .u32 (R 6)) ∧ W.cell? ⟨h, 7, none⟩ = some (.int .u32 (R 7)) ∧ W.cell? ⟨h, 8, none⟩ = some (.int .u32 pc) ∧ W.cell? ⟨h, 9, none⟩ = some (.int .u32 f) :=
  ⟨a.s 0 (by omega), a.s 1 (by omega), a.s 2 (by omega), a.s 3 (by omega), a.s 4 (by omega), a.s 5 (by omega), a.s 6 (by omega), a.s 7 (by omega), a.s8, a.s9⟩
theorem RQ.all {h g : Nat} {W : World} (a : RQ h g 10 (fun _ => .int .u32 0) (fun i => if i = 1 then .int .u32 0 else .int .i64 0) W) : W.cell? ⟨h, 0, none⟩ = some (.int .u32 0) ∧ W.frozen? ⟨h, 0, none⟩ = false ∧ W.cell? ⟨h, 1, none⟩ = some (.int .u32 0) ∧ W.frozen? ⟨h, 1, none⟩ = false ∧ W.cell? ⟨h, 2, none⟩ = some (.int .u32 0) ∧ W.frozen? ⟨h, 2, none⟩ = false ∧ W.cell? ⟨h, 3, none⟩ = some (.int .u32 0) ∧ W.frozen? ⟨h, 3, none⟩ = false ∧ W.cell? ⟨h, 4, none⟩ = some (.int .u32 0) ∧ W.frozen? ⟨h, 4, none⟩ = false ∧ W.cell? ⟨h, 5, none⟩ = some (.int .u32 0) ∧ W.frozen? ⟨h, 5, none⟩ = false ∧ W.cell? ⟨h, 6, none⟩ = some (.int .u32 0) ∧ W.frozen? ⟨h, 6, none⟩ = false ∧ W.cell? ⟨h, 7, none⟩ = some (.int .u32 0) ∧ W.frozen? ⟨h, 7, none⟩ = false ∧ W.cell? ⟨h, 8, none⟩ = some (.int .u32 0) ∧ W.frozen? ⟨h, 8, none⟩ = false ∧ W.cell? ⟨h, 9, none⟩ = some (.int .u32 0) ∧ W.frozen? ⟨h, 9, none⟩ = false ∧ W.cell? ⟨g, 0, none⟩ = some (.int .i64 0) ∧ W.frozen? ⟨g, 0, none⟩ = false ∧ W.cell? ⟨g, 1, none⟩ = some (.int .u32 0) ∧ W.frozen? ⟨g, 1, none⟩ = false :=
  ⟨a.a 0 (by omega), a.za 0, a.a 1 (by omega), a.za 1, a.a 2 (by omega), a.za 2, a.a 3 (by omega), a.za 3, a.a 4 (by omega), a.za 4, a.a 5 (by omega), a.za 5, a.a 6 (by omega), a.za 6, a.a 7 (by omega), a.za 7, a.a 8 (by omega), a.za 8, a.a 9 (by omega), a.za 9, a.b 0 (by omega), a.zb 0, a.b 1 (by omega), a.zb 1⟩
theorem RQ.got {h g : Nat} {u t : Nat → Value} {W : World} (a : RQ h g 10 u t W) {v0 v1 v2 v3 v4 v5 v6 v7 v8 v9 y0 y1 : Value} (e0 : u 0 = v0) (e1 : u 1 = v1) (e2 : u 2 = v2) (e3 : u 3 = v3) (e4 : u 4 = v4) (e5 : u 5 = v5) (e6 : u 6 = v6) (e7 : u 7 = v7) (e8 : u 8 = v8) (e9 : u 9 = v9) (d0 : t 0 = y0) (d1 : t 1 = y1) : W.cell? ⟨h, 0, none⟩ = some (v0) ∧ W.cell? ⟨h, 1, none⟩ = some (v1) ∧ W.cell? ⟨h, 2, none⟩ = some (v2) ∧ W.cell? ⟨h, 3, none⟩ = some (v3) ∧ W.cell? ⟨h, 4, none⟩ = some (v4) ∧ W.cell? ⟨h, 5, none⟩ = some (v5) ∧ W.cell? ⟨h, 6, none⟩ = some (v6) ∧ W.cell? ⟨h, 7, none⟩ = some (v7) ∧ W.cell? ⟨h, 8, none⟩ = some (v8) ∧ W.cell? ⟨h, 9, none⟩ = some (v9) ∧ W.cell? ⟨g, 0, none⟩ = some (y0) ∧ W.cell? ⟨g, 1, none⟩ = some (y1) :=
  ⟨e0 ▸ a.a 0 (by omega), e1 ▸ a.a 1 (by omega), e2 ▸ a.a 2 (by omega), e3 ▸ a.a 3 (by omega), e4 ▸ a.a 4 (by omega), e5 ▸ a.a 5 (by omega), e6 ▸ a.a 6 (by omega), e7 ▸ a.a 7 (by omega), e8 ▸ a.a 8 (by omega), e9 ▸ a.a 9 (by omega), d0 ▸ a.b 0 (by omega), d1 ▸ a.b 1 (by omega)⟩
theorem SB.upto {S : Nat → Prop} {h : Nat} {R : Nat → Int} {pc f : Int} {W W' : World} (a : SB h R pc f W) (u : Upto S W W') (hs : ¬ S h) : SB h R pc f W' :=
  ⟨fun j hj => (u.cell (q := ⟨h, j, none⟩) a.l hs).trans (a.r j hj), (u.cell (q := ⟨h, 8, none⟩) a.l hs).trans a.c8, (u.cell (q := ⟨h, 9, none⟩) a.l hs).trans a.c9, fun i => (u.frozen (q := ⟨h, i, none⟩) a.l hs).trans (a.z i), Nat.lt_of_lt_of_le a.l u.size⟩
theorem XB.upto {S : Nat → Prop} {h : Nat} {k d s o m : Int} {W W' : World} (a : XB h k d s o m W) (u : Upto S W W') (hs : ¬ S h) : XB h k d s o m W' :=
  ⟨(u.cell (q := ⟨h, 0, none⟩) a.l hs).trans a.c0, (u.cell (q := ⟨h, 1, none⟩) a.l hs).trans a.c1, (u.cell (q := ⟨h, 2, none⟩) a.l hs).trans a.c2, (u.cell (q := ⟨h, 3, none⟩) a.l hs).trans a.c3, (u.cell (q := ⟨h, 4, none⟩) a.l hs).trans a.c4, Nat.lt_of_lt_of_le a.l u.size⟩
theorem KB.upto {S : Nat → Prop} {h : Nat} {k x : Int} {W W' : World} (a : KB h k x W) (u : Upto S W W') (hs : ¬ S h) : KB h k x W' :=
  ⟨(u.cell (q := ⟨h, 0, none⟩) a.l hs).trans a.c0, (u.cell (q := ⟨h, 1, none⟩) a.l hs).trans a.c1, fun i => (u.frozen (q := ⟨h, i, none⟩) a.l hs).trans (a.z i), Nat.lt_of_lt_of_le a.l u.size⟩
theorem SB.drew {h : Nat} {R : Nat → Int} {pc f : Int} {W : World} (a : SB h R pc f W) : SB h R pc f W.drew := ⟨a.r, a.c8, a.c9, a.z, a.l⟩
theorem SB.setR {h : Nat} {R : Nat → Int} {pc f : Int} {W : World} (a : SB h R pc f W) (d : Nat) (hd : d < 8) (v : Int) : SB h (upd R d v) pc f (W.setCell ⟨h, d, none⟩ (.int .u32 v)) := by
  refine ⟨fun j hj => ?_, (off (by omega)).trans a.c8, (off (by omega)).trans a.c9, fun i => by simpa using a.z i, by simpa using a.l⟩
  by_cases e : j = d
  · subst e; rw [World.cell?_setCell_same _ _ _ (a.r j hj)]; simp [upd]
  · rw [off e, a.r j hj]; simp [upd, e]
theorem SB.setPc {h : Nat} {R : Nat → Int} {pc f : Int} {W : World} (a : SB h R pc f W) (v : Int) : SB h R v f (W.setCell ⟨h, 8, none⟩ (.int .u32 v)) :=
  ⟨fun j hj => (off (by omega)).trans (a.r j hj), World.cell?_setCell_same _ _ _ a.c8, (off (by omega)).trans a.c9, fun i => by simpa using a.z i, by simpa using a.l⟩
theorem SB.setF {h : Nat} {R : Nat → Int} {pc f : Int} {W : World} (a : SB h R pc f W) (v : Int) : SB h R pc v (W.setCell ⟨h, 9, none⟩ (.int .u32 v)) :=
  ⟨fun j hj => (off (by omega)).trans (a.r j hj), (off (by omega)).trans a.c8, World.cell?_setCell_same _ _ _ a.c9, fun i => by simpa using a.z i, by simpa using a.l⟩
theorem KB.set {h : Nat} {k x : Int} {W : World} (a : KB h k x W) (k' x' : Int) : KB h k' x' ((W.setCell ⟨h, 0, none⟩ (.int .i64 k')).setCell ⟨h, 1, none⟩ (.int .u32 x')) := by
  refine ⟨(off (by omega)).trans (World.cell?_setCell_same _ _ _ a.c0), World.cell?_setCell_same _ _ _ ((off (by omega)).trans a.c1), fun i => by simpa using a.z i, by simpa using a.l⟩
theorem SB.new (w : World) (R : Nat → Int) (pc f : Int) (t : TypeId) : SB w.heap.size R pc f (w.alloc (.cells (stL R pc f) t)) := by
  have A : ∀ i, (w.alloc (.cells (stL R pc f) t)).cell? ⟨w.heap.size, i, none⟩ = (stL R pc f)[i]? := fun i => box_at w _ _ i
  refine ⟨fun j hj => ?_, A 8, A 9, fun i => fz_new w _ _ i, by simp⟩
  rw [A j]
  rcases (show j = 0 ∨ j = 1 ∨ j = 2 ∨ j = 3 ∨ j = 4 ∨ j = 5 ∨ j = 6 ∨ j = 7 by omega) with rfl | rfl | rfl | rfl | rfl | rfl | rfl | rfl <;> rfl
theorem XB.new (w : World) (k d s o m : Int) (t : TypeId) : XB w.heap.size k d s o m (w.alloc (.cells #[.int .i64 k, .int .i64 d, .int .i64 s, .int .i64 o, .int .u32 m] t)) :=
  ⟨box_at w _ _ 0, box_at w _ _ 1, box_at w _ _ 2, box_at w _ _ 3, box_at w _ _ 4, by simp⟩
theorem KB.new (w : World) (k x : Int) (t : TypeId) : KB w.heap.size k x (w.alloc (.cells #[.int .i64 k, .int .u32 x] t)) :=
  ⟨box_at w _ _ 0, box_at w _ _ 1, fun i => fz_new w _ _ i, by simp⟩
theorem RQ.new (w : World) (t t' : TypeId) : RQ w.heap.size (w.heap.size + 1) 10 (fun _ => .int .u32 0) (fun i => if i = 1 then .int .u32 0 else .int .i64 0) ((w.alloc (.cells Z10 t)).alloc (.cells Z2 t')) := by
  have e2 : (w.alloc (.cells Z10 t)).heap.size = w.heap.size + 1 := by simp
  have A2 : ∀ i, (w.alloc (.cells Z10 t)).cell? ⟨w.heap.size, i, none⟩ = Z10[i]? := fun i => box_at w _ _ i
  have F2 : ∀ i, (w.alloc (.cells Z10 t)).frozen? ⟨w.heap.size, i, none⟩ = false := fun i => fz_new w _ _ i
  generalize w.alloc (.cells Z10 t) = W2 at e2 A2 F2 ⊢
  have b23 := (Below.refl W2.heap.size W2).alloc (Nat.le_refl _) (.cells Z2 t')
  have A3 : ∀ i, (W2.alloc (.cells Z2 t')).cell? ⟨w.heap.size + 1, i, none⟩ = Z2[i]? := fun i => by rw [← e2]; exact box_at W2 _ _ i
  have F3 : ∀ i, (W2.alloc (.cells Z2 t')).frozen? ⟨w.heap.size + 1, i, none⟩ = false := fun i => by rw [← e2]; exact fz_new W2 _ _ i
  have e3 : (W2.alloc (.cells Z2 t')).heap.size = w.heap.size + 2 := by simp [e2]
  refine ⟨fun i hi => ?_, fun i hi => ?_, fun i => (b23.frozen (p := ⟨w.heap.size, i, none⟩) (by show w.heap.size < _; omega)).trans (F2 i), F3, by omega, by omega, by omega⟩
  · rw [(b23.cell (p := ⟨w.heap.size, i, none⟩) (by show w.heap.size < _; omega)).trans (A2 i)]
    rcases (show i = 0 ∨ i = 1 ∨ i = 2 ∨ i = 3 ∨ i = 4 ∨ i = 5 ∨ i = 6 ∨ i = 7 ∨ i = 8 ∨ i = 9 by omega) with rfl | rfl | rfl | rfl | rfl | rfl | rfl | rfl | rfl | rfl <;> rfl
  · rw [A3 i]
    rcases (show i = 0 ∨ i = 1 by omega) with rfl | rfl <;> rfl
/-- the boxes of crossgrainref2's memory: instruction, state, state to be, results, stop -/
structure MB (h : Nat) (R : Nat → Int) (pc f k d s o m : Int) (R' : Nat → Int) (pc' f' kk xx : Int) (W : World) : Prop where
  x : XB h k d s o m W
  s : SB (h + 1) R pc f W
  t : SB (h + 1 + 1) R' pc' f' W
  q : RQ (h + 1 + 1 + 1) (h + 1 + 1 + 1 + 1) 10 (fun _ => .int .u32 0) (fun i => if i = 1 then .int .u32 0 else .int .i64 0) W
  k : KB (h + 1 + 1 + 1 + 1 + 1) kk xx W
variable {h : Nat} {R : Nat → Int} {pc f k d s o m : Int} {R' : Nat → Int} {pc' f' kk xx : Int} {W W' : World}
theorem MB.upto {S : Nat → Prop} (a : MB h R pc f k d s o m R' pc' f' kk xx W) (u : Upto S W W') (hs : ∀ i, h ≤ i → ¬ S i) : MB h R pc f k d s o m R' pc' f' kk xx W' :=
  ⟨a.x.upto u (hs _ (by omega)), a.s.upto u (hs _ (by omega)), a.t.upto u (hs _ (by omega)), a.q.upto u (hs _ (by omega)) (hs _ (by omega)), a.k.upto u (hs _ (by omega))⟩
theorem MB.setT (a : MB h R pc f k d s o m R' pc' f' kk xx W) {R2 : Nat → Int} {pc2 f2 : Int} (u : Upto (fun i => i = h + 1 + 1) W W') (t' : SB (h + 1 + 1) R2 pc2 f2 W') : MB h R pc f k d s o m R2 pc2 f2 kk xx W' :=
  ⟨a.x.upto u (by omega), a.s.upto u (by omega), t', a.q.upto u (by omega) (by omega), a.k.upto u (by omega)⟩
theorem MB.setK (a : MB h R pc f k d s o m R' pc' f' kk xx W) (k2 x2 : Int) : MB h R pc f k d s o m R' pc' f' k2 x2 ((W.setCell ⟨h + 1 + 1 + 1 + 1 + 1, 0, none⟩ (.int .i64 k2)).setCell ⟨h + 1 + 1 + 1 + 1 + 1, 1, none⟩ (.int .u32 x2)) :=
  have u := ((Upto.refl (fun i => i = h + 1 + 1 + 1 + 1 + 1) W).setCell (q := ⟨h + 1 + 1 + 1 + 1 + 1, 0, none⟩) (.inl rfl) (.int .i64 k2)).setCell (q := ⟨h + 1 + 1 + 1 + 1 + 1, 1, none⟩) (.inl rfl) (.int .u32 x2)
  ⟨a.x.upto u (by omega), a.s.upto u (by omega), a.t.upto u (by omega), a.q.upto u (by omega) (by omega), a.k.set k2 x2⟩
theorem MB.setR (a : MB h R pc f k d s o m R' pc' f' kk xx W) (j : Nat) (hj : j < 8) (v : Int) : MB h R pc f k d s o m (upd R' j v) pc' f' kk xx (W.setCell ⟨h + 1 + 1, j, none⟩ (.int .u32 v)) :=
  a.setT ((Upto.refl (fun i => i = h + 1 + 1) W).setCell (q := ⟨h + 1 + 1, j, none⟩) (.inl rfl) _) (a.t.setR j hj v)
theorem MB.setPc (a : MB h R pc f k d s o m R' pc' f' kk xx W) (v : Int) : MB h R pc f k d s o m R' v f' kk xx (W.setCell ⟨h + 1 + 1, 8, none⟩ (.int .u32 v)) :=
  a.setT ((Upto.refl (fun i => i = h + 1 + 1) W).setCell (q := ⟨h + 1 + 1, 8, none⟩) (.inl rfl) _) (a.t.setPc v)
theorem MB.setF (a : MB h R pc f k d s o m R' pc' f' kk xx W) (v : Int) : MB h R pc f k d s o m R' pc' v kk xx (W.setCell ⟨h + 1 + 1, 9, none⟩ (.int .u32 v)) :=
  a.setT ((Upto.refl (fun i => i = h + 1 + 1) W).setCell (q := ⟨h + 1 + 1, 9, none⟩) (.inl rfl) _) (a.t.setF v)
theorem MB.drew (a : MB h R pc f k d s o m R' pc' f' kk xx W) : MB h R pc f k d s o m R' pc' f' kk xx W.drew := a.upto (Upto.refl (fun _ => False) W).drew (fun _ _ => id)
theorem MB.new (w : World) (R : Nat → Int) (pc f k d s o m : Int) (R' : Nat → Int) (pc' f' : Int) :
    MB w.heap.size R pc f k d s o m R' pc' f' 0 0 ((((((w.alloc (.cells #[.int .i64 k, .int .i64 d, .int .i64 s, .int .i64 o, .int .u32 m] 149)).alloc (.cells (stL R pc f) 72)).alloc (.cells (stL R' pc' f') 72)).alloc (.cells Z10 72)).alloc (.cells Z2 46)).alloc (.cells Z2 46)) := by
  have x1 := XB.new w k d s o m 149
  have e1 : (w.alloc (.cells #[.int .i64 k, .int .i64 d, .int .i64 s, .int .i64 o, .int .u32 m] 149)).heap.size = w.heap.size + 1 := by simp
  generalize w.alloc (.cells #[.int .i64 k, .int .i64 d, .int .i64 s, .int .i64 o, .int .u32 m] 149) = W1 at x1 e1 ⊢
  have s2 := SB.new W1 R pc f 72
  have e2 : (W1.alloc (.cells (stL R pc f) 72)).heap.size = w.heap.size + 1 + 1 := by simp [e1]
  have u2 := (Upto.refl (fun _ => False) W1).alloc (.cells (stL R pc f) 72)
  rw [e1] at s2
  generalize W1.alloc (.cells (stL R pc f) 72) = W2 at s2 e2 u2 ⊢
  have t3 := SB.new W2 R' pc' f' 72
  have e3 : (W2.alloc (.cells (stL R' pc' f') 72)).heap.size = w.heap.size + 1 + 1 + 1 := by simp [e2]
  have u3 := (Upto.refl (fun _ => False) W2).alloc (.cells (stL R' pc' f') 72)
  rw [e2] at t3
  generalize W2.alloc (.cells (stL R' pc' f') 72) = W3 at t3 e3 u3 ⊢
  have q5 := RQ.new W3 72 46
  have e5 : ((W3.alloc (.cells Z10 72)).alloc (.cells Z2 46)).heap.size = w.heap.size + 1 + 1 + 1 + 1 + 1 := by simp [e3]
  have u5 := ((Upto.refl (fun _ => False) W3).alloc (.cells Z10 72)).alloc (.cells Z2 46)
  rw [e3] at q5
  generalize (W3.alloc (.cells Z10 72)).alloc (.cells Z2 46) = W5 at q5 e5 u5 ⊢
  have k6 := KB.new W5 0 0 46
  have u6 := (Upto.refl (fun _ => False) W5).alloc (.cells Z2 46)
  rw [e5] at k6
  exact ⟨(((x1.upto u2 id).upto u3 id).upto u5 id).upto u6 id, ((s2.upto u3 id).upto u5 id).upto u6 id, (t3.upto u5 id).upto u6 id, q5.upto u6 id id, k6⟩
theorem S3.upto {S : Nat → Prop} {h : Nat} {R : Nat → Int} {pc f : Int} {W W' : World} (a : S3 h R pc f W) (u : Upto S W W') (h0 : ¬ S h) (h1 : ¬ S (h + 1)) (h2 : ¬ S (h + 1 + 1)) : S3 h R pc f W' := by
  have l0 : h < W.heap.size := Nat.lt_of_succ_lt a.q.la
  exact ⟨fun j hj => (u.cell (q := ⟨h, j, none⟩) l0 h0).trans (a.s j hj), (u.cell (q := ⟨h, 8, none⟩) l0 h0).trans a.s8, (u.cell (q := ⟨h, 9, none⟩) l0 h0).trans a.s9, a.q.upto u h1 h2⟩
end Go.Proofs.Ytcjcmnnhmajocab.St
