/- (*ref2.Memory).Ins: the instruction at a place. -/
import Derived.Test.YtcjcmnnhmajocabPkae
import Derived.Test.YtcjcmnnhmajocabPkaj
import Derived.Test.YtcjcmnnhmajocabPkal
import Derived.Test.YtcjcmnnhmajocabPkam
import Derived.Test.YtcjcmnnhmajocabPkan
import Derived.Test.YtcjcmnnhmajocabPkat
namespace Go.Proofs.Ytcjcmnnhmajocab.St
open Go.RowKit Kt Me Fl Gu
set_option linter.unusedVariables false
set_option linter.unusedSimpArgs false
set_option maxRecDepth 100000 in
set_option maxHeartbeats 4000000 in
theorem rins_1 (P : RP) (M : MM) (pc x : Int) (w : World) (h : RM P M w) (hM : MOk M) (c0 : 0 ≤ pc) (c1 : pc < 4294967296) (hs : fetS M pc 1 = some x) :
    Calls Try.prog 82 #[.pointer (some ⟨P.q, 0, none⟩), .int .u32 pc] w fun e w' => e = .returned (insV M pc) ∧ Below w.heap.size w w' := by
  have eV : insV M pc = stopV 4 x := by unfold insV; rw [hs]
  rw [eV]
  have CF := Lib.hid (fun w h => rfetch_any P M pc 1 w h hM c0 c1)
  rw [hs, show stpV 4 (some x) = .agg #[.int .i64 4, .int .u32 x] from rfl] at CF
  have F0 := FR.new w
  have B0 := Below.in2 w (.cells Z5 149) (.cells Z2 46)
  have HH := Lib.hid (h.upto (Upto.of_below (S := fun _ => False) B0) (fun _ _ => id))
  unfold Z5 Z2 at F0 B0 HH
  unfold stopV agg5
  clear eV hs h hM
  go_enter Try.func82, Try.ntmps82
  go_wp2_with fail
  generalize (w.alloc (.cells #[.int .i64 0, .int .i64 0, .int .i64 0, .int .i64 0, .int .u32 0] 149)).alloc (.cells #[.int .i64 0, .int .u32 0] 46) = WA at F0 B0 HH ⊢
  have HF := Lib.hid F0
  have HB := Lib.hid B0
  clear F0 B0
  go_wp2_with (go_at_call 137; (with_reducible refine (CF.out _ HH.out).mono ?_); rintro e w1 ⟨v, rfl, o1, b1⟩; have HR := Lib.hid (HF.out.below b1); obtain ⟨ra0, ra1, ra2, ra3, ra4, rb0, rb1, rza, rzb, rl⟩ := HR.out; have B1 := Lib.hid (HB.out.trans (b1.mono HB.out.size)); have rl0 : w.heap.size < w1.heap.size := Nat.lt_of_succ_lt rl; clear o1 b1)
  go_region
  obtain ⟨u, t, fq, u0, u1, u2, u3, u4, t0, t1⟩ := HR.out.put (.int .i64 0) (.int .i64 0) (.int .i64 0) (.int .i64 0) (.int .u32 0) (.int .i64 4) (.int .u32 x)
  have bp := below_put B1.out (Nat.le_refl _) (.int .i64 0) (.int .i64 0) (.int .i64 0) (.int .i64 0) (.int .u32 0) (.int .i64 4) (.int .u32 x)
  have fq2 := (fq.alloc (.cells #[.int .i64 4, .int .u32 x] 46)).drew
  have bp2 := (bp.alloc (Nat.le_trans (Nat.le_of_lt (Nat.lt_of_succ_lt fq.l)) (Nat.le_refl _)) (.cells #[.int .i64 4, .int .u32 x] 46)).drew
  clear fq bp ra0 ra1 ra2 ra3 ra4 rb0 rb1 rza rzb
  generalize (World.alloc _ _).drew = WZ at fq2 bp2 ⊢
  have f0 := fq2.a 0 (by omega)
  have f1 := fq2.a 1 (by omega)
  have f2 := fq2.a 2 (by omega)
  have f3 := fq2.a 3 (by omega)
  have f4 := fq2.a 4 (by omega)
  have g0 := fq2.b 0 (by omega)
  have g1 := fq2.b 1 (by omega)
  rw [u0] at f0
  rw [u1] at f1
  rw [u2] at f2
  rw [u3] at f3
  rw [u4] at f4
  rw [t0] at g0
  rw [t1] at g1
  go_wp2_with fail
  refine bodyPost_ret (v := .tuple #[.agg #[.int .i64 0, .int .i64 0, .int .i64 0, .int .i64 0, .int .u32 0], .int .i64 0, .agg #[.int .i64 4, .int .u32 x]]) (by simp [results, Try.results82, go_sem, f0, f1, f2, f3, f4, g0, g1]) rfl ⟨rfl, bp2⟩
set_option maxRecDepth 100000 in
set_option maxHeartbeats 4000000 in
theorem rins_2 (P : RP) (M : MM) (pc x : Int) (w : World) (h : RM P M w) (hM : MOk M) (c0 : 0 ≤ pc) (c1 : pc < 4294967296) (hs : fetS M pc 1 = none) (hs2 : fetS M pc (szI M pc) = some x) :
    Calls Try.prog 82 #[.pointer (some ⟨P.q, 0, none⟩), .int .u32 pc] w fun e w' => e = .returned (insV M pc) ∧ Below w.heap.size w w' := by
  have eV : insV M pc = stopV 4 x := by unfold insV; rw [hs]; dsimp only; rw [hs2]
  rw [eV]
  have CF := Lib.hid (fun w h => rfetch_any P M pc 1 w h hM c0 c1)
  have CF2 := Lib.hid (fun w h => rfetch_any P M pc (szI M pc) w h hM c0 c1)
  rw [hs, show stpV 4 none = .agg #[.int .i64 0, .int .u32 0] from rfl] at CF
  rw [hs2, show stpV 4 (some x) = .agg #[.int .i64 4, .int .u32 x] from rfl] at CF2
  have HL := Lib.hid (show (fetL M pc 1).length = 1 from fetL_len hs (by omega) (by omega))
  have hb := fetL_rg hM pc 1 0
  have CZ := Lib.hid (fun w => rsize_any ((fetL M pc 1).getD 0 0) w)
  have hz := szI_bd M hM pc
  rw [rsz_byte _ hb.1 hb.2, show shSize (rowOf ((fetL M pc 1).getD 0 0)).sh = szI M pc from rfl] at CZ
  obtain ⟨y, hy⟩ : ∃ y, (fetL M pc 1).getD 0 0 = y := ⟨_, rfl⟩
  rw [hy] at CZ hb
  have HY := Lib.hid hy
  clear hy
  generalize szI M pc = z at CF2 CZ hz
  have F0 := FR.new w
  have B0 := Below.in2 w (.cells Z5 149) (.cells Z2 46)
  have HH := Lib.hid (h.upto (Upto.of_below (S := fun _ => False) B0) (fun _ _ => id))
  unfold Z5 Z2 at F0 B0 HH
  unfold stopV agg5
  clear eV hs hs2 h hM
  go_enter Try.func82, Try.ntmps82
  go_wp2_with fail
  generalize (w.alloc (.cells #[.int .i64 0, .int .i64 0, .int .i64 0, .int .i64 0, .int .u32 0] 149)).alloc (.cells #[.int .i64 0, .int .u32 0] 46) = WA at F0 B0 HH ⊢
  have HF := Lib.hid F0
  have HB := Lib.hid B0
  clear F0 B0
  go_wp2_with (go_at_call 137; (with_reducible refine (CF.out _ HH.out).mono ?_); rintro e w1 ⟨v, rfl, o1, b1⟩; have HR := Lib.hid (HF.out.below b1); have rl0 : w.heap.size < w1.heap.size := Nat.lt_of_succ_lt HR.out.l; obtain ⟨ao, cap, rfl, bs, _⟩ := o1.form; obtain ⟨bl, bm, bk⟩ := bs; rw [HL.out] at bl bk ⊢; obtain ⟨bb, boff, rfl, bbl, bc⟩ := bk (by omega); have bc0 := bc 0 (by omega); rw [Nat.add_zero, HY.out] at bc0; have HH1 := Lib.hid (HH.out.upto (Upto.of_below (S := fun _ => False) b1) (fun _ _ => id)); have B1 := Lib.hid (HB.out.trans (b1.mono HB.out.size)); clear o1 b1 bk bc)
  go_at_call 138
  (with_reducible refine (CZ.out _).mono ?_)
  rintro e w2 ⟨rfl, b2⟩
  have hw : Below w1.heap.size w1 (w1.alloc (.cells #[.int .i64 0, .int .u32 0] 46)) := (Below.refl _ _).alloc (Nat.le_refl _) _
  have ls0 : w1.heap.size < (w1.alloc (.cells #[.int .i64 0, .int .u32 0] 46)).heap.size := by simp
  have HR2 := Lib.hid ((HR.out.below hw).below b2)
  have HH2 := Lib.hid ((HH1.out.upto (Upto.of_below (S := fun _ => False) hw) (fun _ _ => id)).upto (Upto.of_below (S := fun _ => False) b2) (fun _ _ => id))
  have B2 := Lib.hid ((B1.out.trans (hw.mono (Nat.le_of_lt rl0))).trans (b2.mono (Nat.le_trans (Nat.le_of_lt rl0) hw.size)))
  have s0 := (b2.cell (p := ⟨w1.heap.size, 0, none⟩) ls0).trans (box_at w1 _ _ 0)
  have s1 := (b2.cell (p := ⟨w1.heap.size, 1, none⟩) ls0).trans (box_at w1 _ _ 1)
  have zs := fun i => (b2.frozen (p := ⟨w1.heap.size, i, none⟩) ls0).trans (fz_new w1 _ _ i)
  have ls := Nat.lt_of_lt_of_le ls0 b2.size
  have sb : w.heap.size < w2.heap.size := Nat.lt_of_succ_lt HR2.out.l
  clear b2 hw
  go_wp2_with (go_at_call 137; (with_reducible refine (CF2.out _ HH2.out).mono ?_); rintro e w3 ⟨v2, rfl, o3, b3⟩; have HR3 := Lib.hid (HR2.out.below b3); have B3 := Lib.hid (B2.out.trans (b3.mono (Nat.le_of_lt sb))); have r0 := (b3.cell (p := ⟨w1.heap.size, 0, none⟩) ls).trans s0; have r1 := (b3.cell (p := ⟨w1.heap.size, 1, none⟩) ls).trans s1; have zr := fun i => (b3.frozen (p := ⟨w1.heap.size, i, none⟩) ls).trans (zs i); have lr := Nat.lt_of_lt_of_le ls b3.size; obtain ⟨ra0, ra1, ra2, ra3, ra4, rb0, rb1, rza, rzb, rl⟩ := HR3.out; have rl3 := Nat.lt_of_succ_lt rl; have O3 := Lib.hid o3; clear b3 o3)
  have n1 : w1.heap.size ≠ w.heap.size := Nat.ne_of_gt rl0
  have n2 : w1.heap.size ≠ w.heap.size + 1 := Nat.ne_of_gt HR.out.l
  have HR4 := Lib.hid ((HR3.out.off (q := ⟨w1.heap.size, 0, none⟩) n1 n2 (.int .i64 4)).off (q := ⟨w1.heap.size, 1, none⟩) n1 n2 (.int .u32 x))
  have q0 : ((w3.setCell ⟨w1.heap.size, 0, none⟩ (.int .i64 4)).setCell ⟨w1.heap.size, 1, none⟩ (.int .u32 x)).cell? ⟨w1.heap.size, 0, none⟩ = some (.int .i64 4) := (off (by omega)).trans (World.cell?_setCell_same _ _ _ r0)
  have q1 : ((w3.setCell ⟨w1.heap.size, 0, none⟩ (.int .i64 4)).setCell ⟨w1.heap.size, 1, none⟩ (.int .u32 x)).cell? ⟨w1.heap.size, 1, none⟩ = some (.int .u32 x) := World.cell?_setCell_same _ _ _ ((off (by omega)).trans r1)
  have B4 := Lib.hid ((B3.out.setCell (p := ⟨w1.heap.size, 0, none⟩) (Nat.le_of_lt rl0) (.int .i64 4)).setCell (p := ⟨w1.heap.size, 1, none⟩) (Nat.le_of_lt rl0) (.int .u32 x))
  clear ra0 ra1 ra2 ra3 ra4 rb0 rb1 rza rzb rl rl3 r0 r1 zr lr s0 s1 zs ls
  generalize (w3.setCell ⟨w1.heap.size, 0, none⟩ (.int .i64 4)).setCell ⟨w1.heap.size, 1, none⟩ (.int .u32 x) = W4 at HR4 q0 q1 B4 ⊢
  obtain ⟨ra0, ra1, ra2, ra3, ra4, rb0, rb1, rza, rzb, rl⟩ := HR4.out
  go_region
  obtain ⟨u, t, fq, u0, u1, u2, u3, u4, t0, t1⟩ := HR4.out.put (.int .i64 0) (.int .i64 0) (.int .i64 0) (.int .i64 0) (.int .u32 0) (.int .i64 4) (.int .u32 x)
  have bp2 := (below_put B4.out (Nat.le_refl _) (.int .i64 0) (.int .i64 0) (.int .i64 0) (.int .i64 0) (.int .u32 0) (.int .i64 4) (.int .u32 x)).drew
  have fq2 := fq.drew
  clear fq ra0 ra1 ra2 ra3 ra4 rb0 rb1 rza rzb
  generalize World.drew _ = WZ at fq2 bp2 ⊢
  have f0 := fq2.a 0 (by omega)
  have f1 := fq2.a 1 (by omega)
  have f2 := fq2.a 2 (by omega)
  have f3 := fq2.a 3 (by omega)
  have f4 := fq2.a 4 (by omega)
  have g0 := fq2.b 0 (by omega)
  have g1 := fq2.b 1 (by omega)
  rw [u0] at f0
  rw [u1] at f1
  rw [u2] at f2
  rw [u3] at f3
  rw [u4] at f4
  rw [t0] at g0
  rw [t1] at g1
  go_wp2_with fail
  refine bodyPost_ret (v := .tuple #[.agg #[.int .i64 0, .int .i64 0, .int .i64 0, .int .i64 0, .int .u32 0], .int .i64 0, .agg #[.int .i64 4, .int .u32 x]]) (by simp [results, Try.results82, go_sem, f0, f1, f2, f3, f4, g0, g1]) rfl ⟨rfl, bp2⟩
set_option maxRecDepth 100000 in
set_option maxHeartbeats 4000000 in
theorem rins_3 (P : RP) (M : MM) (pc : Int) (w : World) (h : RM P M w) (hM : MOk M) (c0 : 0 ≤ pc) (c1 : pc < 4294967296) (hs : fetS M pc 1 = none) (hs2 : fetS M pc (szI M pc) = none) :
    Calls Try.prog 82 #[.pointer (some ⟨P.q, 0, none⟩), .int .u32 pc] w fun e w' => e = .returned (insV M pc) ∧ Below w.heap.size w w' := by
  obtain ⟨o, d, s, g, m, n, zz, hd⟩ := decv_shape (usI M pc)
  have eV : insV M pc = if zz = 0 then .tuple #[agg5 o d s g m, .int .i64 n, .agg #[.int .i64 0, .int .u32 0]] else stopV 3 0 := by
    unfold insV; rw [hs]; dsimp only; rw [hs2]; dsimp only; rw [hd]; rfl
  rw [eV]
  have hu := fetL_rg hM pc (szI M pc)
  unfold usI at hd
  have CF := Lib.hid (fun w h => rfetch_any P M pc 1 w h hM c0 c1)
  have CF2 := Lib.hid (fun w h => rfetch_any P M pc (szI M pc) w h hM c0 c1)
  rw [hs, show stpV 4 none = .agg #[.int .i64 0, .int .u32 0] from rfl] at CF
  rw [hs2, show stpV 4 none = .agg #[.int .i64 0, .int .u32 0] from rfl] at CF2
  have HL := Lib.hid (show (fetL M pc 1).length = 1 from fetL_len hs (by omega) (by omega))
  have hb := fetL_rg hM pc 1 0
  have CZ := Lib.hid (fun w => rsize_any ((fetL M pc 1).getD 0 0) w)
  have hz := szI_bd M hM pc
  rw [rsz_byte _ hb.1 hb.2, show shSize (rowOf ((fetL M pc 1).getD 0 0)).sh = szI M pc from rfl] at CZ
  obtain ⟨y, hy⟩ : ∃ y, (fetL M pc 1).getD 0 0 = y := ⟨_, rfl⟩
  rw [hy] at CZ hb
  have HY := Lib.hid hy
  clear hy
  generalize szI M pc = z at CF2 CZ hz hd hu
  generalize fetL M pc z = us at CF2 hd hu
  have CD := Lib.hid (fun ao cap w h => rdec_all us ao cap w h hu)
  rw [hd] at CD
  clear hd hu
  have F0 := FR.new w
  have B0 := Below.in2 w (.cells Z5 149) (.cells Z2 46)
  have HH := Lib.hid (h.upto (Upto.of_below (S := fun _ => False) B0) (fun _ _ => id))
  unfold Z5 Z2 at F0 B0 HH
  unfold stopV agg5
  unfold agg5 at CD
  generalize hV : (if zz = 0 then _ else _ : Value) = V
  have HV := Lib.hid hV
  clear hV
  clear eV hs hs2 h hM
  go_enter Try.func82, Try.ntmps82
  go_wp2_with fail
  generalize (w.alloc (.cells #[.int .i64 0, .int .i64 0, .int .i64 0, .int .i64 0, .int .u32 0] 149)).alloc (.cells #[.int .i64 0, .int .u32 0] 46) = WA at F0 B0 HH ⊢
  have HF := Lib.hid F0
  have HB := Lib.hid B0
  clear F0 B0
  go_wp2_with (go_at_call 137; (with_reducible refine (CF.out _ HH.out).mono ?_); rintro e w1 ⟨v, rfl, o1, b1⟩; have HR := Lib.hid (HF.out.below b1); have rl0 : w.heap.size < w1.heap.size := Nat.lt_of_succ_lt HR.out.l; obtain ⟨ao, cap, rfl, bs, _⟩ := o1.form; obtain ⟨bl, bm, bk⟩ := bs; rw [HL.out] at bl bk ⊢; obtain ⟨bb, boff, rfl, bbl, bc⟩ := bk (by omega); have bc0 := bc 0 (by omega); rw [Nat.add_zero, HY.out] at bc0; have HH1 := Lib.hid (HH.out.upto (Upto.of_below (S := fun _ => False) b1) (fun _ _ => id)); have B1 := Lib.hid (HB.out.trans (b1.mono HB.out.size)); clear o1 b1 bk bc)
  go_at_call 138
  (with_reducible refine (CZ.out _).mono ?_)
  rintro e w2 ⟨rfl, b2⟩
  have hw : Below w1.heap.size w1 (w1.alloc (.cells #[.int .i64 0, .int .u32 0] 46)) := (Below.refl _ _).alloc (Nat.le_refl _) _
  have ls0 : w1.heap.size < (w1.alloc (.cells #[.int .i64 0, .int .u32 0] 46)).heap.size := by simp
  have HR2 := Lib.hid ((HR.out.below hw).below b2)
  have HH2 := Lib.hid ((HH1.out.upto (Upto.of_below (S := fun _ => False) hw) (fun _ _ => id)).upto (Upto.of_below (S := fun _ => False) b2) (fun _ _ => id))
  have B2 := Lib.hid ((B1.out.trans (hw.mono (Nat.le_of_lt rl0))).trans (b2.mono (Nat.le_trans (Nat.le_of_lt rl0) hw.size)))
  have s0 := (b2.cell (p := ⟨w1.heap.size, 0, none⟩) ls0).trans (box_at w1 _ _ 0)
  have s1 := (b2.cell (p := ⟨w1.heap.size, 1, none⟩) ls0).trans (box_at w1 _ _ 1)
  have zs := fun i => (b2.frozen (p := ⟨w1.heap.size, i, none⟩) ls0).trans (fz_new w1 _ _ i)
  have ls := Nat.lt_of_lt_of_le ls0 b2.size
  have sb : w.heap.size < w2.heap.size := Nat.lt_of_succ_lt HR2.out.l
  clear b2 hw
  go_wp2_with (go_at_call 137; (with_reducible refine (CF2.out _ HH2.out).mono ?_); rintro e w3 ⟨v2, rfl, o3, b3⟩; have HR3 := Lib.hid (HR2.out.below b3); have B3 := Lib.hid (B2.out.trans (b3.mono (Nat.le_of_lt sb))); have r0 := (b3.cell (p := ⟨w1.heap.size, 0, none⟩) ls).trans s0; have r1 := (b3.cell (p := ⟨w1.heap.size, 1, none⟩) ls).trans s1; have zr := fun i => (b3.frozen (p := ⟨w1.heap.size, i, none⟩) ls).trans (zs i); have lr := Nat.lt_of_lt_of_le ls b3.size; obtain ⟨ra0, ra1, ra2, ra3, ra4, rb0, rb1, rza, rzb, rl⟩ := HR3.out; have rl3 := Nat.lt_of_succ_lt rl; have O3 := Lib.hid o3; clear b3 o3)
  have n1 : w1.heap.size ≠ w.heap.size := Nat.ne_of_gt rl0
  have n2 : w1.heap.size ≠ w.heap.size + 1 := Nat.ne_of_gt HR.out.l
  have HR4 := Lib.hid ((HR3.out.off (q := ⟨w1.heap.size, 0, none⟩) n1 n2 (.int .i64 0)).off (q := ⟨w1.heap.size, 1, none⟩) n1 n2 (.int .u32 0))
  have B4 := Lib.hid ((B3.out.setCell (p := ⟨w1.heap.size, 0, none⟩) (Nat.le_of_lt rl0) (.int .i64 0)).setCell (p := ⟨w1.heap.size, 1, none⟩) (Nat.le_of_lt rl0) (.int .u32 0))
  have O4 := (O3.out.below (q := ⟨w1.heap.size, 0, none⟩) ls (.int .i64 0)).below (q := ⟨w1.heap.size, 1, none⟩) ls (.int .u32 0)
  clear ra0 ra1 ra2 ra3 ra4 rb0 rb1 rza rzb rl rl3 r0 r1 zr lr s0 s1 zs ls
  generalize (w3.setCell ⟨w1.heap.size, 0, none⟩ (.int .i64 0)).setCell ⟨w1.heap.size, 1, none⟩ (.int .u32 0) = W4 at HR4 B4 O4 ⊢
  obtain ⟨ao3, cap3, rfl, bs3, _⟩ := O4.form
  clear O4
  go_at_call 139
  with_reducible refine (CD.out _ _ _ bs3).mono ?_
  clear bs3
  rintro e w5 ⟨rfl, b5⟩
  have HR5 := Lib.hid (HR4.out.below b5)
  have lw4 : w.heap.size < W4.heap.size := Nat.lt_of_succ_lt HR4.out.l
  have B5 := Lib.hid (B4.out.trans (b5.mono (Nat.le_of_lt lw4)))
  clear b5
  obtain ⟨ra0, ra1, ra2, ra3, ra4, rb0, rb1, rza, rzb, rl⟩ := HR5.out
  have rl5 := Nat.lt_of_succ_lt rl
  by_cases hz0 : zz = 0
  · subst hz0
    go_upto_region 10 with fail
    have hb6 := (Below.refl w5.heap.size w5).alloc (Nat.le_refl _) (.cells #[.int .i64 o, .int .i64 d, .int .i64 s, .int .i64 g, .int .u32 m] 149)
    have HR6 := Lib.hid (HR5.out.below hb6)
    have B6 := Lib.hid (B5.out.alloc (Nat.le_of_lt rl5) (.cells #[.int .i64 o, .int .i64 d, .int .i64 s, .int .i64 g, .int .u32 m] 149))
    have k0 := box_at w5 #[.int .i64 o, .int .i64 d, .int .i64 s, .int .i64 g, .int .u32 m] 149 0
    have k1 := box_at w5 #[.int .i64 o, .int .i64 d, .int .i64 s, .int .i64 g, .int .u32 m] 149 1
    have k2 := box_at w5 #[.int .i64 o, .int .i64 d, .int .i64 s, .int .i64 g, .int .u32 m] 149 2
    have k3 := box_at w5 #[.int .i64 o, .int .i64 d, .int .i64 s, .int .i64 g, .int .u32 m] 149 3
    have k4 := box_at w5 #[.int .i64 o, .int .i64 d, .int .i64 s, .int .i64 g, .int .u32 m] 149 4
    simp only [List.getElem?_toArray, List.getElem?_cons_zero, List.getElem?_cons_succ] at k0 k1 k2 k3 k4
    clear ra0 ra1 ra2 ra3 ra4 rb0 rb1 rza rzb rl hb6
    generalize w5.alloc (.cells #[.int .i64 o, .int .i64 d, .int .i64 s, .int .i64 g, .int .u32 m] 149) = W6 at HR6 B6 k0 k1 k2 k3 k4 ⊢
    obtain ⟨ra0, ra1, ra2, ra3, ra4, rb0, rb1, rza, rzb, rl⟩ := HR6.out
    have za0 := rza 0
    have za1 := rza 1
    have za2 := rza 2
    have za3 := rza 3
    have za4 := rza 4
    have zb0 := rzb 0
    have zb1 := rzb 1
    clear rza rzb
    go_wp2_with fail
    obtain ⟨u, t, fq2, u0, u1, u2, u3, u4, t0, t1⟩ := HR6.out.put (.int .i64 o) (.int .i64 d) (.int .i64 s) (.int .i64 g) (.int .u32 m) (.int .i64 0) (.int .u32 0)
    have bp2 := below_put B6.out (Nat.le_refl _) (.int .i64 o) (.int .i64 d) (.int .i64 s) (.int .i64 g) (.int .u32 m) (.int .i64 0) (.int .u32 0)
    clear ra0 ra1 ra2 ra3 ra4 rb0 rb1 za0 za1 za2 za3 za4 zb0 zb1 k0 k1 k2 k3 k4
    generalize World.setCell _ ⟨w.heap.size + 1, 1, none⟩ _ = WZ at fq2 bp2 ⊢
    have f0 := fq2.a 0 (by omega)
    have f1 := fq2.a 1 (by omega)
    have f2 := fq2.a 2 (by omega)
    have f3 := fq2.a 3 (by omega)
    have f4 := fq2.a 4 (by omega)
    have g0 := fq2.b 0 (by omega)
    have g1 := fq2.b 1 (by omega)
    rw [u0] at f0
    rw [u1] at f1
    rw [u2] at f2
    rw [u3] at f3
    rw [u4] at f4
    rw [t0] at g0
    rw [t1] at g1
    refine bodyPost_ret (v := .tuple #[.agg #[.int .i64 o, .int .i64 d, .int .i64 s, .int .i64 g, .int .u32 m], .int .i64 n, .agg #[.int .i64 0, .int .u32 0]]) (by simp [results, Try.results82, go_sem, f0, f1, f2, f3, f4, g0, g1]) rfl ⟨by rw [← HV.out, if_pos trivial], bp2⟩
  · have hzb : (zz == 0) = false := by rw [beq_eq_false_iff_ne]; exact hz0
    have hzn : (zz != 0) = true := by rw [bne, hzb]; rfl
    go_upto_region 9 with fail
    have hb6 := (Below.refl w5.heap.size w5).alloc (Nat.le_refl _) (.cells #[.int .i64 o, .int .i64 d, .int .i64 s, .int .i64 g, .int .u32 m] 149)
    have HR6 := Lib.hid (HR5.out.below hb6)
    have B6 := Lib.hid (B5.out.alloc (Nat.le_of_lt rl5) (.cells #[.int .i64 o, .int .i64 d, .int .i64 s, .int .i64 g, .int .u32 m] 149))
    have k0 := box_at w5 #[.int .i64 o, .int .i64 d, .int .i64 s, .int .i64 g, .int .u32 m] 149 0
    have k1 := box_at w5 #[.int .i64 o, .int .i64 d, .int .i64 s, .int .i64 g, .int .u32 m] 149 1
    have k2 := box_at w5 #[.int .i64 o, .int .i64 d, .int .i64 s, .int .i64 g, .int .u32 m] 149 2
    have k3 := box_at w5 #[.int .i64 o, .int .i64 d, .int .i64 s, .int .i64 g, .int .u32 m] 149 3
    have k4 := box_at w5 #[.int .i64 o, .int .i64 d, .int .i64 s, .int .i64 g, .int .u32 m] 149 4
    simp only [List.getElem?_toArray, List.getElem?_cons_zero, List.getElem?_cons_succ] at k0 k1 k2 k3 k4
    clear ra0 ra1 ra2 ra3 ra4 rb0 rb1 rza rzb rl hb6
    generalize w5.alloc (.cells #[.int .i64 o, .int .i64 d, .int .i64 s, .int .i64 g, .int .u32 m] 149) = W6 at HR6 B6 k0 k1 k2 k3 k4 ⊢
    obtain ⟨ra0, ra1, ra2, ra3, ra4, rb0, rb1, rza, rzb, rl⟩ := HR6.out
    have za0 := rza 0
    have za1 := rza 1
    have za2 := rza 2
    have za3 := rza 3
    have za4 := rza 4
    have zb0 := rzb 0
    have zb1 := rzb 1
    clear rza rzb
    go_wp2_with fail
    obtain ⟨u, t, fq2, u0, u1, u2, u3, u4, t0, t1⟩ := HR6.out.put (.int .i64 0) (.int .i64 0) (.int .i64 0) (.int .i64 0) (.int .u32 0) (.int .i64 3) (.int .u32 0)
    have bp2 := below_put B6.out (Nat.le_refl _) (.int .i64 0) (.int .i64 0) (.int .i64 0) (.int .i64 0) (.int .u32 0) (.int .i64 3) (.int .u32 0)
    clear ra0 ra1 ra2 ra3 ra4 rb0 rb1 za0 za1 za2 za3 za4 zb0 zb1 k0 k1 k2 k3 k4
    generalize World.setCell _ ⟨w.heap.size + 1, 1, none⟩ _ = WZ at fq2 bp2 ⊢
    have f0 := fq2.a 0 (by omega)
    have f1 := fq2.a 1 (by omega)
    have f2 := fq2.a 2 (by omega)
    have f3 := fq2.a 3 (by omega)
    have f4 := fq2.a 4 (by omega)
    have g0 := fq2.b 0 (by omega)
    have g1 := fq2.b 1 (by omega)
    rw [u0] at f0
    rw [u1] at f1
    rw [u2] at f2
    rw [u3] at f3
    rw [u4] at f4
    rw [t0] at g0
    rw [t1] at g1
    refine bodyPost_ret (v := .tuple #[.agg #[.int .i64 0, .int .i64 0, .int .i64 0, .int .i64 0, .int .u32 0], .int .i64 0, .agg #[.int .i64 3, .int .u32 0]]) (by simp [results, Try.results82, go_sem, f0, f1, f2, f3, f4, g0, g1]) rfl ⟨by rw [← HV.out, if_neg hz0], bp2⟩
theorem rins_all (P : RP) (M : MM) (pc : Int) (w : World) (h : RM P M w) (hM : MOk M) (c0 : 0 ≤ pc) (c1 : pc < 4294967296) :
    Calls Try.prog 82 #[.pointer (some ⟨P.q, 0, none⟩), .int .u32 pc] w fun e w' => e = .returned (insV M pc) ∧ Below w.heap.size w w' := by
  cases hs : fetS M pc 1 with
  | some x => exact rins_1 P M pc x w h hM c0 c1 hs
  | none => cases hs2 : fetS M pc (szI M pc) with
    | some x => exact rins_2 P M pc x w h hM c0 c1 hs hs2
    | none => exact rins_3 P M pc w h hM c0 c1 hs hs2
end Go.Proofs.Ytcjcmnnhmajocab.St
