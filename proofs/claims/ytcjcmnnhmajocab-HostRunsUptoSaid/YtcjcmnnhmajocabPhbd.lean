/- The host's machine: instructions that hang on registers alone. -/
import Derived.Deep.RegionHeld3
import Derived.Test.YtcjcmnnhmajocabPhan
import Derived.Test.YtcjcmnnhmajocabPhbc
set_option linter.unusedVariables false
set_option linter.unusedSimpArgs false
set_option maxRecDepth 100000
set_option maxHeartbeats 16000000
namespace Go.Proofs.Ytcjcmnnhmajocab.Hr
open Go.RowKit Kt Me Fl Ev Ho
/-- an operation's box -/
structure XO (h : Nat) (k ow oa ob oc kn on : Int) (W : World) : Prop where
 c0 : W.cell? ⟨h, 0, none⟩ = some (.int .i64 k)
 c1 : W.cell? ⟨h, 1, none⟩ = some (.int .i64 ow)
 c2 : W.cell? ⟨h, 2, none⟩ = some (.int .i64 oa)
 c3 : W.cell? ⟨h, 3, none⟩ = some (.int .i64 ob)
 c4 : W.cell? ⟨h, 4, none⟩ = some (.int .i64 oc)
 c5 : W.cell? ⟨h, 5, none⟩ = some (.int .u32 kn)
 c6 : W.cell? ⟨h, 6, none⟩ = some (.int .i64 on)
 z : ∀ j, W.frozen? ⟨h, j, none⟩ = false
 l : h < W.heap.size
theorem XO.upto {S : Nat → Prop} {h : Nat} {k ow oa ob oc kn on : Int} {W W' : World} (a : XO h k ow oa ob oc kn on W) (u : Upto S W W') (hs : ¬ S h) : XO h k ow oa ob oc kn on W' := by
 have e : ∀ j, W'.cell? ⟨h, j, none⟩ = W.cell? ⟨h, j, none⟩ := fun j => u.cell (q := ⟨h, j, none⟩) a.l hs
 exact ⟨(e _).trans a.c0, (e _).trans a.c1, (e _).trans a.c2, (e _).trans a.c3, (e _).trans a.c4, (e _).trans a.c5, (e _).trans a.c6, fun j => (u.frozen (q := ⟨h, j, none⟩) a.l hs).trans (a.z j), Nat.lt_of_lt_of_le a.l u.size⟩
theorem XO.all {h : Nat} {k ow oa ob oc kn on : Int} {W : World} (a : XO h k ow oa ob oc kn on W) : W.cell? ⟨h, 0, none⟩ = some (.int .i64 k) ∧ W.cell? ⟨h, 1, none⟩ = some (.int .i64 ow) ∧ W.cell? ⟨h, 2, none⟩ = some (.int .i64 oa) ∧ W.cell? ⟨h, 3, none⟩ = some (.int .i64 ob) ∧ W.cell? ⟨h, 4, none⟩ = some (.int .i64 oc) ∧ W.cell? ⟨h, 5, none⟩ = some (.int .u32 kn) ∧ W.cell? ⟨h, 6, none⟩ = some (.int .i64 on) := ⟨a.c0, a.c1, a.c2, a.c3, a.c4, a.c5, a.c6⟩
theorem XO.drew {h : Nat} {k ow oa ob oc kn on : Int} {W : World} (a : XO h k ow oa ob oc kn on W) : XO h k ow oa ob oc kn on W.drew := a.upto (Upto.refl (fun _ => False) W).drew id
theorem XO.new (w : World) (k ow oa ob oc kn on : Int) (t : TypeId) : XO w.heap.size k ow oa ob oc kn on (w.alloc (.cells #[.int .i64 k, .int .i64 ow, .int .i64 oa, .int .i64 ob, .int .i64 oc, .int .u32 kn, .int .i64 on] t)) :=
 ⟨box_at w _ _ 0, box_at w _ _ 1, box_at w _ _ 2, box_at w _ _ 3, box_at w _ _ 4, box_at w _ _ 5, box_at w _ _ 6, fun j => fz_new w _ _ j, by simp⟩
theorem XO.put {h : Nat} {k ow oa ob oc kn on : Int} {W : World} (a : XO h k ow oa ob oc kn on W) (k' ow' oa' ob' oc' kn' on' : Int) :
  XO h k' ow' oa' ob' oc' kn' on' (((((((W.setCell ⟨h, 0, none⟩ (.int .i64 k')).setCell ⟨h, 1, none⟩ (.int .i64 ow')).setCell ⟨h, 2, none⟩ (.int .i64 oa')).setCell ⟨h, 3, none⟩ (.int .i64 ob')).setCell ⟨h, 4, none⟩ (.int .i64 oc')).setCell ⟨h, 5, none⟩ (.int .u32 kn')).setCell ⟨h, 6, none⟩ (.int .i64 on')) := by
 have g : ∀ {W : World} {i j : Nat} {v x : Value}, W.cell? ⟨h, i, none⟩ = some x → i ≠ j → (W.setCell ⟨h, j, none⟩ v).cell? ⟨h, i, none⟩ = some x := fun hx hn => (off hn).trans hx
 have h0 := World.cell?_setCell_same W ⟨h, 0, none⟩ (.int .i64 k') a.c0
 have h1 := World.cell?_setCell_same _ ⟨h, 1, none⟩ (.int .i64 ow') (g (j := 0) (v := .int .i64 k') a.c1 (by omega))
 have h2 := World.cell?_setCell_same _ ⟨h, 2, none⟩ (.int .i64 oa') (g (j := 1) (v := .int .i64 ow') (g (j := 0) (v := .int .i64 k') a.c2 (by omega)) (by omega))
 have h3 := World.cell?_setCell_same _ ⟨h, 3, none⟩ (.int .i64 ob') (g (j := 2) (v := .int .i64 oa') (g (j := 1) (v := .int .i64 ow') (g (j := 0) (v := .int .i64 k') a.c3 (by omega)) (by omega)) (by omega))
 have h4 := World.cell?_setCell_same _ ⟨h, 4, none⟩ (.int .i64 oc') (g (j := 3) (v := .int .i64 ob') (g (j := 2) (v := .int .i64 oa') (g (j := 1) (v := .int .i64 ow') (g (j := 0) (v := .int .i64 k') a.c4 (by omega)) (by omega)) (by omega)) (by omega))
 have h5 := World.cell?_setCell_same _ ⟨h, 5, none⟩ (.int .u32 kn') (g (j := 4) (v := .int .i64 oc') (g (j := 3) (v := .int .i64 ob') (g (j := 2) (v := .int .i64 oa') (g (j := 1) (v := .int .i64 ow') (g (j := 0) (v := .int .i64 k') a.c5 (by omega)) (by omega)) (by omega)) (by omega)) (by omega))
 have h6 := World.cell?_setCell_same _ ⟨h, 6, none⟩ (.int .i64 on') (g (j := 5) (v := .int .u32 kn') (g (j := 4) (v := .int .i64 oc') (g (j := 3) (v := .int .i64 ob') (g (j := 2) (v := .int .i64 oa') (g (j := 1) (v := .int .i64 ow') (g (j := 0) (v := .int .i64 k') a.c6 (by omega)) (by omega)) (by omega)) (by omega)) (by omega)) (by omega))
 exact ⟨g (g (g (g (g (g h0 (by omega)) (by omega)) (by omega)) (by omega)) (by omega)) (by omega), g (g (g (g (g h1 (by omega)) (by omega)) (by omega)) (by omega)) (by omega), g (g (g (g h2 (by omega)) (by omega)) (by omega)) (by omega), g (g (g h3 (by omega)) (by omega)) (by omega), g (g h4 (by omega)) (by omega), g h5 (by omega), h6, fun j => by simpa using a.z j, by simpa using a.l⟩
theorem up_put7 {S : Nat → Prop} {w W : World} {h : Nat} (b : Upto S w W) (hh : S h ∨ w.heap.size ≤ h) (k' ow' oa' ob' oc' kn' on' : Int) : Upto S w (((((((W.setCell ⟨h, 0, none⟩ (.int .i64 k')).setCell ⟨h, 1, none⟩ (.int .i64 ow')).setCell ⟨h, 2, none⟩ (.int .i64 oa')).setCell ⟨h, 3, none⟩ (.int .i64 ob')).setCell ⟨h, 4, none⟩ (.int .i64 oc')).setCell ⟨h, 5, none⟩ (.int .u32 kn')).setCell ⟨h, 6, none⟩ (.int .i64 on')) :=
 ((((((b.setCell (q := ⟨h, 0, none⟩) hh (.int .i64 k')).setCell (q := ⟨h, 1, none⟩) hh (.int .i64 ow')).setCell (q := ⟨h, 2, none⟩) hh (.int .i64 oa')).setCell (q := ⟨h, 3, none⟩) hh (.int .i64 ob')).setCell (q := ⟨h, 4, none⟩) hh (.int .i64 oc')).setCell (q := ⟨h, 5, none⟩) hh (.int .u32 kn')).setCell (q := ⟨h, 6, none⟩) hh (.int .i64 on')
variable {h : Nat} {K : Hk} {s : Pm}
def RegOk (s : Pm) : Prop := ∀ j, 0 ≤ s.reg j ∧ s.reg j < 4294967296
theorem l18 {hx ho : Nat} {x : Cd} {rd : Nat} {k ow oa ob oc kn on : Int} {W : World} (X : XB hx x W) (O : XO ho k ow oa ob oc kn on W) (hd : x.d = rd) : W.cell? ⟨hx, 1, none⟩ = some (.int .i64 (rd : Int)) ∧ W.cell? ⟨ho, 0, none⟩ = some (.int .i64 k) ∧ W.cell? ⟨ho, 1, none⟩ = some (.int .i64 ow) ∧ W.cell? ⟨ho, 2, none⟩ = some (.int .i64 oa) ∧ W.cell? ⟨ho, 3, none⟩ = some (.int .i64 ob) ∧ W.cell? ⟨ho, 4, none⟩ = some (.int .i64 oc) ∧ W.cell? ⟨ho, 5, none⟩ = some (.int .u32 kn) ∧ W.cell? ⟨ho, 6, none⟩ = some (.int .i64 on) :=
 ⟨hd ▸ X.c1, O.c0, O.c1, O.c2, O.c3, O.c4, O.c5, O.c6⟩
theorem value_sel (x : Cd) (ra rb rc rd : Nat) (w : World) (a : MR h K s w) (ho : 5 ≤ x.op ∧ x.op < 6) (ha : x.a = ra) (hb : x.b = rb) (hc : x.c = rc) (hd : x.d = rd) (la : ra < 16) (lb : rb < 16) (lc : rc < 16) (ld : rd < 16) (hr : RegOk s) :
  Calls Try.prog 154 #[.pointer (some ⟨h, 0, none⟩), .agg #[.int .i64 x.op, .int .i64 x.d, .int .i64 x.a, .int .i64 x.b, .int .i64 x.c, .int .i64 x.n, .int .u32 x.k, .int .u32 x.x]] w fun e w' => e = .returned (.tuple #[]) ∧ MR h K ((((s.gets ra).gets rb).gets rc).sets rd (valV 6 0 0 (s.reg ra) (s.reg rb) (s.reg rc))) w' ∧ Upto (fun i => i = h) w w' := by
 have GA : Hid (∀ w, MR h K s w → Calls Try.prog 151 #[.pointer (some ⟨h, 0, none⟩), .int .i64 ra] w fun e w' => e = .returned (.int .u32 (s.reg ra)) ∧ MR h K (s.gets ra) w' ∧ Upto (fun i => i = h) w w') := fun w a => get_any ra w a la
 have GB : Hid (∀ w, MR h K (s.gets ra) w → Calls Try.prog 151 #[.pointer (some ⟨h, 0, none⟩), .int .i64 rb] w fun e w' => e = .returned (.int .u32 (s.reg rb)) ∧ MR h K ((s.gets ra).gets rb) w' ∧ Upto (fun i => i = h) w w') := fun w a => get_any rb w a lb
 have GC : Hid (∀ w, MR h K ((s.gets ra).gets rb) w → Calls Try.prog 151 #[.pointer (some ⟨h, 0, none⟩), .int .i64 rc] w fun e w' => e = .returned (.int .u32 (s.reg rc)) ∧ MR h K (((s.gets ra).gets rb).gets rc) w' ∧ Upto (fun i => i = h) w w') := fun w a => get_any rc w a lc
 have VA := fun w => val_any 6 0 0 0 0 0 0 (s.reg ra) (s.reg rb) (s.reg rc) w (by decide) (by decide) (hr ra).1 (hr ra).2 (hr rb).1 (hr rb).2 (hr rc).1 (hr rc).2 (.inr (.inr (.inl rfl)))
 have SE : Hid (∀ z w, MR h K (((s.gets ra).gets rb).gets rc) w → Calls Try.prog 153 #[.pointer (some ⟨h, 0, none⟩), .int .i64 rd, .int .u32 z] w fun e w' => e = .returned (.tuple #[]) ∧ MR h K ((((s.gets ra).gets rb).gets rc).sets rd z) w' ∧ Upto (fun i => i = h) w w') := fun z w a => set_any rd z w a ld
 generalize (((s.gets ra).gets rb).gets rc) = s3 at GC SE ⊢
 generalize ((s.gets ra).gets rb) = s2 at GB GC
 generalize (s.gets ra) = s1 at GA GB
 generalize hz : (valV 6 0 0 (s.reg ra) (s.reg rb) (s.reg rc)) = z at VA ⊢
 generalize s.reg ra = va at GA VA
 generalize s.reg rb = vb at GB VA
 generalize s.reg rc = vc at GC VA
 have VA := κ VA
 have hcl : fcls x.op = 3 := by unfold fcls; rw [if_neg (by omega)]; rw [if_neg (by omega)]; rw [if_pos (by omega)]
 have FO : Hid (∀ w, Calls Try.prog 149 #[.int .i64 x.op] w fun e w' => e = .returned (.agg #[.bool true, .bool true, .bool true, .bool true, .bool false, .int .i64 0, .int .i64 1]) ∧ Below w.heap.size w w') := fun w => by
  have := formatOf_any x.op w
  rw [hcl] at this
  exact this
 have q5 : (x.op == 5) = true := by simp; omega
 have q32 : decide (x.op < 32) = true := by simp; omega
 have q48 : decide (x.op < 48) = true := by simp; omega
 have q64 : decide (x.op < 64) = true := by simp; omega
 obtain ⟨ho0, ho1⟩ := ho
 have HA := κ ha
 have HB := κ hb
 have HC := κ hc
 have HD := κ hd
 have hl := a.l
 have xb := (XB.new w x 108).upto ((Upto.refl (fun _ => False) _).alloc (.cells #[.int .i64 6, .int .i64 0, .int .i64 0, .int .i64 0, .int .i64 0, .int .u32 0, .int .i64 0] 31)) id
 have oo := XO.new (w.alloc (.cells #[.int .i64 x.op, .int .i64 x.d, .int .i64 x.a, .int .i64 x.b, .int .i64 x.c, .int .i64 x.n, .int .u32 x.k, .int .u32 x.x] 108)) 6 0 0 0 0 0 0 31
 rw [show (w.alloc (.cells #[.int .i64 x.op, .int .i64 x.d, .int .i64 x.a, .int .i64 x.b, .int .i64 x.c, .int .i64 x.n, .int .u32 x.k, .int .u32 x.x] 108)).heap.size = w.heap.size + 1 by simp] at oo
 have u0 := ((Upto.refl (fun _ => False) w).alloc (.cells #[.int .i64 x.op, .int .i64 x.d, .int .i64 x.a, .int .i64 x.b, .int .i64 x.c, .int .i64 x.n, .int .u32 x.k, .int .u32 x.x] 108)).alloc (.cells #[.int .i64 6, .int .i64 0, .int .i64 0, .int .i64 0, .int .i64 0, .int .u32 0, .int .i64 0] 31)
 have a0 := a.upto u0 id
 clear ha hb hc hd hr hz hcl a
 go_enter Try.func154, Try.ntmps154
 go_upto_region 2 with fail
 generalize (w.alloc (.cells #[.int .i64 x.op, .int .i64 x.d, .int .i64 x.a, .int .i64 x.b, .int .i64 x.c, .int .i64 x.n, .int .u32 x.k, .int .u32 x.x] 108)).alloc (.cells #[.int .i64 6, .int .i64 0, .int .i64 0, .int .i64 0, .int .i64 0, .int .u32 0, .int .i64 0] 31) = WA at xb oo u0 a0 ⊢
 have XX := κ xb
 have OO := κ oo
 have A := κ a0
 have U := κ (u0.mono (T := fun i => i = h) fun _ _ h => h.elim)
 have xa := xb.c2
 rw [HA.out] at xa
 clear xb oo u0 a0
 go_upto_region 4 with (go_at_call 151; refine (GA.out _ A.out).mono ?_; rintro e w3 ⟨rfl, a3, u3⟩; have XX := κ (XX.out.upto u3 (by omega)); have OO := κ (OO.out.upto u3 (by omega)); have U := κ (U.out.trans u3); have A := κ a3; clear a3 u3)
 have x0 := XX.out.c0
 have lx := XX.out.l
 go_upto_region 13 with fail
 clear x0 lx xa
 generalize hw4 : w3 = w4 at OO XX A U ⊢
 have x0 := XX.out.c0
 have lx := XX.out.l
 go_upto_region 14 with (go_at_call 149; refine (FO.out _).mono ?_; rintro e w5 ⟨rfl, b5⟩)
 have vn := (Upto.of_below (S := fun _ => False) b5).alloc (.cells #[.bool true, .bool true, .bool true, .bool true, .bool false, .int .i64 0, .int .i64 1] 231)
 have OO := κ (OO.out.upto vn id)
 have XX := κ (XX.out.upto vn id)
 have A := κ (A.out.upto vn id)
 have U := κ (U.out.trans (vn.mono (T := fun i => i = h) fun _ _ h => h.elim))
 have f2 := box_at w5 #[.bool true, .bool true, .bool true, .bool true, .bool false, .int .i64 0, .int .i64 1] 231 2
 have f3 := box_at w5 #[.bool true, .bool true, .bool true, .bool true, .bool false, .int .i64 0, .int .i64 1] 231 3
 have f2 : (w5.alloc (.cells #[.bool true, .bool true, .bool true, .bool true, .bool false, .int .i64 0, .int .i64 1] 231)).cell? ⟨w5.heap.size, 2, none⟩ = some (.bool true) := f2
 have f3 : (w5.alloc (.cells #[.bool true, .bool true, .bool true, .bool true, .bool false, .int .i64 0, .int .i64 1] 231)).cell? ⟨w5.heap.size, 3, none⟩ = some (.bool true) := f3
 have lf : w5.heap.size < (w5.alloc (.cells #[.bool true, .bool true, .bool true, .bool true, .bool false, .int .i64 0, .int .i64 1] 231)).heap.size := by simp
 have hf : h < w5.heap.size := by have := b5.size; have := XX.out.l; omega
 clear vn b5 x0 lx
 generalize w5.alloc (.cells #[.bool true, .bool true, .bool true, .bool true, .bool false, .int .i64 0, .int .i64 1] 231) = w6 at OO XX A U f2 f3 lf ⊢
 generalize w5.heap.size = gf at f2 f3 lf hf ⊢
 have xr := XX.out.c3
 rw [HB.out] at xr
 go_upto_region 16 with (go_at_call 151; refine (GB.out _ A.out).mono ?_; rintro e w3 ⟨rfl, a3, u3⟩; have XX := κ (XX.out.upto u3 (by omega)); have OO := κ (OO.out.upto u3 (by omega)); have U := κ (U.out.trans u3); have A := κ a3; have f3 := (u3.cell (q := ⟨gf, 3, none⟩) lf (by show ¬ gf = h; omega)).trans f3; have lf := Nat.lt_of_lt_of_le lf u3.size; clear a3 u3)
 clear xr f2
 have xr := XX.out.c4
 rw [HC.out] at xr
 go_upto_region 18 with (go_at_call 151; refine (GC.out _ A.out).mono ?_; rintro e w3 ⟨rfl, a3, u3⟩; have XX := κ (XX.out.upto u3 (by omega)); have OO := κ (OO.out.upto u3 (by omega)); have U := κ (U.out.trans u3); have A := κ a3; clear a3 u3)
 clear xr f3 lf
 go_region_held3 (fun W => W.cell? ⟨w.heap.size, 1, none⟩ = some (.int .i64 (rd : Int)) ∧ W.cell? ⟨w.heap.size + 1, 0, none⟩ = some (.int .i64 6) ∧ W.cell? ⟨w.heap.size + 1, 1, none⟩ = some (.int .i64 0) ∧ W.cell? ⟨w.heap.size + 1, 2, none⟩ = some (.int .i64 0) ∧ W.cell? ⟨w.heap.size + 1, 3, none⟩ = some (.int .i64 0) ∧ W.cell? ⟨w.heap.size + 1, 4, none⟩ = some (.int .i64 0) ∧ W.cell? ⟨w.heap.size + 1, 5, none⟩ = some (.int .u32 0) ∧ W.cell? ⟨w.heap.size + 1, 6, none⟩ = some (.int .i64 0)) (first | exact l18 XX.out OO.out HD.out | exact l18 XX.out.drew OO.out.drew HD.out | exact l18 X2.out O2.out HD.out | exact l18 X3.out O3.out HD.out)
  ((first | (go_at_call 153; (with_reducible refine (SE.out _ _ A2.out).mono ?_); rintro e w8 ⟨rfl, a8, u8⟩; have X3 := κ (X2.out.upto u8 (by omega)); have O3 := κ (O2.out.upto u8 (by omega)); have U3 := κ (U2.out.trans u8); have A3 := κ a8; clear a8 u8) | (go_at_call 171; (with_reducible refine (VA.out _).mono ?_); rintro e w7 ⟨rfl, b7⟩; have un := Upto.of_below (S := fun _ => False) b7; have X2 := κ (show XB w.heap.size x w7 from by first | exact XX.out.upto un id | exact XX.out.drew.upto un id); have O2 := κ (show XO (w.heap.size + 1) 6 0 0 0 0 0 0 w7 from by first | exact OO.out.upto un id | exact OO.out.drew.upto un id); have A2 := κ (show MR h K s3 w7 from by first | exact A.out.upto un id | exact A.out.drew.upto un id); have U2 := κ (show Upto (fun i => i = h) w w7 from by first | exact U.out.trans (un.mono fun _ _ h => h.elim) | exact U.out.drew.trans (un.mono fun _ _ h => h.elim)); clear un b7)))
 go_end0
 exact ⟨rfl, A3.out, U3.out⟩
theorem value_bin (x : Cd) (ra rb rc rd : Nat) (w : World) (a : MR h K s w) (ho : 16 ≤ x.op ∧ x.op < 32) (ha : x.a = ra) (hb : x.b = rb) (hc : x.c = rc) (hd : x.d = rd) (la : ra < 16) (lb : rb < 16) (lc : rc < 16) (ld : rd < 16) (hr : RegOk s) :
  Calls Try.prog 154 #[.pointer (some ⟨h, 0, none⟩), .agg #[.int .i64 x.op, .int .i64 x.d, .int .i64 x.a, .int .i64 x.b, .int .i64 x.c, .int .i64 x.n, .int .u32 x.k, .int .u32 x.x]] w fun e w' => e = .returned (.tuple #[]) ∧ MR h K (((s.gets ra).gets rb).sets rd (valV 4 (x.op - 16) 0 (s.reg ra) (s.reg rb) 0)) w' ∧ Upto (fun i => i = h) w w' := by
 have GA : Hid (∀ w, MR h K s w → Calls Try.prog 151 #[.pointer (some ⟨h, 0, none⟩), .int .i64 ra] w fun e w' => e = .returned (.int .u32 (s.reg ra)) ∧ MR h K (s.gets ra) w' ∧ Upto (fun i => i = h) w w') := fun w a => get_any ra w a la
 have GB : Hid (∀ w, MR h K (s.gets ra) w → Calls Try.prog 151 #[.pointer (some ⟨h, 0, none⟩), .int .i64 rb] w fun e w' => e = .returned (.int .u32 (s.reg rb)) ∧ MR h K ((s.gets ra).gets rb) w' ∧ Upto (fun i => i = h) w w') := fun w a => get_any rb w a lb
 have VA := fun w => val_any 4 (x.op - 16) 0 0 0 0 0 (s.reg ra) (s.reg rb) 0 w (by decide) (by decide) (hr ra).1 (hr ra).2 (hr rb).1 (hr rb).2 (by decide) (by decide) (.inl ⟨rfl, by omega, by omega⟩)
 have SE : Hid (∀ z w, MR h K ((s.gets ra).gets rb) w → Calls Try.prog 153 #[.pointer (some ⟨h, 0, none⟩), .int .i64 rd, .int .u32 z] w fun e w' => e = .returned (.tuple #[]) ∧ MR h K (((s.gets ra).gets rb).sets rd z) w' ∧ Upto (fun i => i = h) w w') := fun z w a => set_any rd z w a ld
 generalize ((s.gets ra).gets rb) = s3 at GB SE ⊢
 generalize (s.gets ra) = s1 at GA GB
 generalize hz : (valV 4 (x.op - 16) 0 (s.reg ra) (s.reg rb) 0) = z at VA ⊢
 generalize s.reg ra = va at GA VA
 generalize s.reg rb = vb at GB VA
 have VA := κ VA
 have hcl : fcls x.op = 1 := by unfold fcls; rw [if_pos ⟨by omega, by omega⟩]
 have FO : Hid (∀ w, Calls Try.prog 149 #[.int .i64 x.op] w fun e w' => e = .returned (.agg #[.bool true, .bool true, .bool true, .bool false, .bool false, .int .i64 0, .int .i64 1]) ∧ Below w.heap.size w w') := fun w => by
  have := formatOf_any x.op w
  rw [hcl] at this
  exact this
 have q5 : (x.op == 5) = false := by simp; omega
 have q32 : decide (x.op < 32) = true := by simp; omega
 have q48 : decide (x.op < 48) = true := by simp; omega
 have q64 : decide (x.op < 64) = true := by simp; omega
 obtain ⟨ho0, ho1⟩ := ho
 have HA := κ ha
 have HB := κ hb
 have HC := κ hc
 have HD := κ hd
 have hl := a.l
 have xb := (XB.new w x 108).upto ((Upto.refl (fun _ => False) _).alloc (.cells #[.int .i64 6, .int .i64 0, .int .i64 0, .int .i64 0, .int .i64 0, .int .u32 0, .int .i64 0] 31)) id
 have oo := XO.new (w.alloc (.cells #[.int .i64 x.op, .int .i64 x.d, .int .i64 x.a, .int .i64 x.b, .int .i64 x.c, .int .i64 x.n, .int .u32 x.k, .int .u32 x.x] 108)) 6 0 0 0 0 0 0 31
 rw [show (w.alloc (.cells #[.int .i64 x.op, .int .i64 x.d, .int .i64 x.a, .int .i64 x.b, .int .i64 x.c, .int .i64 x.n, .int .u32 x.k, .int .u32 x.x] 108)).heap.size = w.heap.size + 1 by simp] at oo
 have u0 := ((Upto.refl (fun _ => False) w).alloc (.cells #[.int .i64 x.op, .int .i64 x.d, .int .i64 x.a, .int .i64 x.b, .int .i64 x.c, .int .i64 x.n, .int .u32 x.k, .int .u32 x.x] 108)).alloc (.cells #[.int .i64 6, .int .i64 0, .int .i64 0, .int .i64 0, .int .i64 0, .int .u32 0, .int .i64 0] 31)
 have a0 := a.upto u0 id
 clear ha hb hc hd hr hz hcl a
 go_enter Try.func154, Try.ntmps154
 go_upto_region 2 with fail
 generalize (w.alloc (.cells #[.int .i64 x.op, .int .i64 x.d, .int .i64 x.a, .int .i64 x.b, .int .i64 x.c, .int .i64 x.n, .int .u32 x.k, .int .u32 x.x] 108)).alloc (.cells #[.int .i64 6, .int .i64 0, .int .i64 0, .int .i64 0, .int .i64 0, .int .u32 0, .int .i64 0] 31) = WA at xb oo u0 a0 ⊢
 have XX := κ xb
 have OO := κ oo
 have A := κ a0
 have U := κ (u0.mono (T := fun i => i = h) fun _ _ h => h.elim)
 have xa := xb.c2
 rw [HA.out] at xa
 clear xb oo u0 a0
 go_upto_region 4 with (go_at_call 151; refine (GA.out _ A.out).mono ?_; rintro e w3 ⟨rfl, a3, u3⟩; have XX := κ (XX.out.upto u3 (by omega)); have OO := κ (OO.out.upto u3 (by omega)); have U := κ (U.out.trans u3); have A := κ a3; clear a3 u3)
 have x0 := XX.out.c0
 have lx := XX.out.l
 obtain ⟨o0, o1, o2, o3, o4, o5, o6⟩ := OO.out.all
 have zo := OO.out.z
 have lo := OO.out.l
 go_upto_region 13 with fail
 have vs := up_put7 (S := fun i => i = w.heap.size + 1) (h := w.heap.size + 1) (Upto.refl _ w3) (.inl rfl) 4 (x.op - 16) 0 0 0 0 0
 have OO := κ (OO.out.put 4 (x.op - 16) 0 0 0 0 0)
 have XX := κ (XX.out.upto vs (by omega))
 have A := κ (A.out.upto vs (by omega))
 have U := κ (up_put7 (h := w.heap.size + 1) U.out (.inr (Nat.le_succ _)) 4 (x.op - 16) 0 0 0 0 0)
 clear vs x0 lx xa o0 o1 o2 o3 o4 o5 o6 zo lo
 generalize (((((((w3.setCell ⟨w.heap.size + 1, 0, none⟩ (.int .i64 4)).setCell ⟨w.heap.size + 1, 1, none⟩ (.int .i64 (x.op - 16))).setCell ⟨w.heap.size + 1, 2, none⟩ (.int .i64 0)).setCell ⟨w.heap.size + 1, 3, none⟩ (.int .i64 0)).setCell ⟨w.heap.size + 1, 4, none⟩ (.int .i64 0)).setCell ⟨w.heap.size + 1, 5, none⟩ (.int .u32 0)).setCell ⟨w.heap.size + 1, 6, none⟩ (.int .i64 0)) = w4 at OO XX A U ⊢
 have x0 := XX.out.c0
 have lx := XX.out.l
 go_upto_region 14 with (go_at_call 149; refine (FO.out _).mono ?_; rintro e w5 ⟨rfl, b5⟩)
 have vn := (Upto.of_below (S := fun _ => False) b5).alloc (.cells #[.bool true, .bool true, .bool true, .bool false, .bool false, .int .i64 0, .int .i64 1] 231)
 have OO := κ (OO.out.upto vn id)
 have XX := κ (XX.out.upto vn id)
 have A := κ (A.out.upto vn id)
 have U := κ (U.out.trans (vn.mono (T := fun i => i = h) fun _ _ h => h.elim))
 have f2 := box_at w5 #[.bool true, .bool true, .bool true, .bool false, .bool false, .int .i64 0, .int .i64 1] 231 2
 have f3 := box_at w5 #[.bool true, .bool true, .bool true, .bool false, .bool false, .int .i64 0, .int .i64 1] 231 3
 have f2 : (w5.alloc (.cells #[.bool true, .bool true, .bool true, .bool false, .bool false, .int .i64 0, .int .i64 1] 231)).cell? ⟨w5.heap.size, 2, none⟩ = some (.bool true) := f2
 have f3 : (w5.alloc (.cells #[.bool true, .bool true, .bool true, .bool false, .bool false, .int .i64 0, .int .i64 1] 231)).cell? ⟨w5.heap.size, 3, none⟩ = some (.bool false) := f3
 have lf : w5.heap.size < (w5.alloc (.cells #[.bool true, .bool true, .bool true, .bool false, .bool false, .int .i64 0, .int .i64 1] 231)).heap.size := by simp
 have hf : h < w5.heap.size := by have := b5.size; have := XX.out.l; omega
 clear vn b5 x0 lx
 generalize w5.alloc (.cells #[.bool true, .bool true, .bool true, .bool false, .bool false, .int .i64 0, .int .i64 1] 231) = w6 at OO XX A U f2 f3 lf ⊢
 generalize w5.heap.size = gf at f2 f3 lf hf ⊢
 have xr := XX.out.c3
 rw [HB.out] at xr
 go_upto_region 16 with (go_at_call 151; refine (GB.out _ A.out).mono ?_; rintro e w3 ⟨rfl, a3, u3⟩; have XX := κ (XX.out.upto u3 (by omega)); have OO := κ (OO.out.upto u3 (by omega)); have U := κ (U.out.trans u3); have A := κ a3; have f3 := (u3.cell (q := ⟨gf, 3, none⟩) lf (by show ¬ gf = h; omega)).trans f3; have lf := Nat.lt_of_lt_of_le lf u3.size; clear a3 u3)
 clear xr f2
 go_upto_region 18 with fail
 clear f3 lf
 go_region_held3 (fun W => W.cell? ⟨w.heap.size, 1, none⟩ = some (.int .i64 (rd : Int)) ∧ W.cell? ⟨w.heap.size + 1, 0, none⟩ = some (.int .i64 4) ∧ W.cell? ⟨w.heap.size + 1, 1, none⟩ = some (.int .i64 (x.op - 16)) ∧ W.cell? ⟨w.heap.size + 1, 2, none⟩ = some (.int .i64 0) ∧ W.cell? ⟨w.heap.size + 1, 3, none⟩ = some (.int .i64 0) ∧ W.cell? ⟨w.heap.size + 1, 4, none⟩ = some (.int .i64 0) ∧ W.cell? ⟨w.heap.size + 1, 5, none⟩ = some (.int .u32 0) ∧ W.cell? ⟨w.heap.size + 1, 6, none⟩ = some (.int .i64 0)) (first | exact l18 XX.out OO.out HD.out | exact l18 XX.out.drew OO.out.drew HD.out | exact l18 X2.out O2.out HD.out | exact l18 X3.out O3.out HD.out)
  ((first | (go_at_call 153; (with_reducible refine (SE.out _ _ A2.out).mono ?_); rintro e w8 ⟨rfl, a8, u8⟩; have X3 := κ (X2.out.upto u8 (by omega)); have O3 := κ (O2.out.upto u8 (by omega)); have U3 := κ (U2.out.trans u8); have A3 := κ a8; clear a8 u8) | (go_at_call 171; (with_reducible refine (VA.out _).mono ?_); rintro e w7 ⟨rfl, b7⟩; have un := Upto.of_below (S := fun _ => False) b7; have X2 := κ (show XB w.heap.size x w7 from by first | exact XX.out.upto un id | exact XX.out.drew.upto un id); have O2 := κ (show XO (w.heap.size + 1) 4 (x.op - 16) 0 0 0 0 0 w7 from by first | exact OO.out.upto un id | exact OO.out.drew.upto un id); have A2 := κ (show MR h K s3 w7 from by first | exact A.out.upto un id | exact A.out.drew.upto un id); have U2 := κ (show Upto (fun i => i = h) w w7 from by first | exact U.out.trans (un.mono fun _ _ h => h.elim) | exact U.out.drew.trans (un.mono fun _ _ h => h.elim)); clear un b7)))
 go_end0
 exact ⟨rfl, A3.out, U3.out⟩
theorem value_un (x : Cd) (ra rb rc rd : Nat) (w : World) (a : MR h K s w) (ho : 32 ≤ x.op ∧ x.op < 39) (ha : x.a = ra) (hb : x.b = rb) (hc : x.c = rc) (hd : x.d = rd) (la : ra < 16) (lb : rb < 16) (lc : rc < 16) (ld : rd < 16) (hr : RegOk s) :
  Calls Try.prog 154 #[.pointer (some ⟨h, 0, none⟩), .agg #[.int .i64 x.op, .int .i64 x.d, .int .i64 x.a, .int .i64 x.b, .int .i64 x.c, .int .i64 x.n, .int .u32 x.k, .int .u32 x.x]] w fun e w' => e = .returned (.tuple #[]) ∧ MR h K ((s.gets ra).sets rd (valV 5 (x.op - 32) 0 (s.reg ra) 0 0)) w' ∧ Upto (fun i => i = h) w w' := by
 have GA : Hid (∀ w, MR h K s w → Calls Try.prog 151 #[.pointer (some ⟨h, 0, none⟩), .int .i64 ra] w fun e w' => e = .returned (.int .u32 (s.reg ra)) ∧ MR h K (s.gets ra) w' ∧ Upto (fun i => i = h) w w') := fun w a => get_any ra w a la
 have VA := fun w => val_any 5 (x.op - 32) 0 0 0 0 0 (s.reg ra) 0 0 w (by decide) (by decide) (hr ra).1 (hr ra).2 (by decide) (by decide) (by decide) (by decide) (.inr (.inl ⟨rfl, by omega, by omega⟩))
 have SE : Hid (∀ z w, MR h K (s.gets ra) w → Calls Try.prog 153 #[.pointer (some ⟨h, 0, none⟩), .int .i64 rd, .int .u32 z] w fun e w' => e = .returned (.tuple #[]) ∧ MR h K ((s.gets ra).sets rd z) w' ∧ Upto (fun i => i = h) w w') := fun z w a => set_any rd z w a ld
 generalize (s.gets ra) = s3 at GA SE ⊢
 generalize hz : (valV 5 (x.op - 32) 0 (s.reg ra) 0 0) = z at VA ⊢
 generalize s.reg ra = va at GA VA
 have VA := κ VA
 have hcl : fcls x.op = 2 := by unfold fcls; rw [if_neg (by omega)]; rw [if_pos (by omega)]
 have FO : Hid (∀ w, Calls Try.prog 149 #[.int .i64 x.op] w fun e w' => e = .returned (.agg #[.bool true, .bool true, .bool false, .bool false, .bool false, .int .i64 0, .int .i64 1]) ∧ Below w.heap.size w w') := fun w => by
  have := formatOf_any x.op w
  rw [hcl] at this
  exact this
 have q5 : (x.op == 5) = false := by simp; omega
 have q32 : decide (x.op < 32) = false := by simp; omega
 have q48 : decide (x.op < 48) = true := by simp; omega
 have q64 : decide (x.op < 64) = true := by simp; omega
 obtain ⟨ho0, ho1⟩ := ho
 have HA := κ ha
 have HB := κ hb
 have HC := κ hc
 have HD := κ hd
 have hl := a.l
 have xb := (XB.new w x 108).upto ((Upto.refl (fun _ => False) _).alloc (.cells #[.int .i64 6, .int .i64 0, .int .i64 0, .int .i64 0, .int .i64 0, .int .u32 0, .int .i64 0] 31)) id
 have oo := XO.new (w.alloc (.cells #[.int .i64 x.op, .int .i64 x.d, .int .i64 x.a, .int .i64 x.b, .int .i64 x.c, .int .i64 x.n, .int .u32 x.k, .int .u32 x.x] 108)) 6 0 0 0 0 0 0 31
 rw [show (w.alloc (.cells #[.int .i64 x.op, .int .i64 x.d, .int .i64 x.a, .int .i64 x.b, .int .i64 x.c, .int .i64 x.n, .int .u32 x.k, .int .u32 x.x] 108)).heap.size = w.heap.size + 1 by simp] at oo
 have u0 := ((Upto.refl (fun _ => False) w).alloc (.cells #[.int .i64 x.op, .int .i64 x.d, .int .i64 x.a, .int .i64 x.b, .int .i64 x.c, .int .i64 x.n, .int .u32 x.k, .int .u32 x.x] 108)).alloc (.cells #[.int .i64 6, .int .i64 0, .int .i64 0, .int .i64 0, .int .i64 0, .int .u32 0, .int .i64 0] 31)
 have a0 := a.upto u0 id
 clear ha hb hc hd hr hz hcl a
 go_enter Try.func154, Try.ntmps154
 go_upto_region 2 with fail
 generalize (w.alloc (.cells #[.int .i64 x.op, .int .i64 x.d, .int .i64 x.a, .int .i64 x.b, .int .i64 x.c, .int .i64 x.n, .int .u32 x.k, .int .u32 x.x] 108)).alloc (.cells #[.int .i64 6, .int .i64 0, .int .i64 0, .int .i64 0, .int .i64 0, .int .u32 0, .int .i64 0] 31) = WA at xb oo u0 a0 ⊢
 have XX := κ xb
 have OO := κ oo
 have A := κ a0
 have U := κ (u0.mono (T := fun i => i = h) fun _ _ h => h.elim)
 have xa := xb.c2
 rw [HA.out] at xa
 clear xb oo u0 a0
 go_upto_region 4 with (go_at_call 151; refine (GA.out _ A.out).mono ?_; rintro e w3 ⟨rfl, a3, u3⟩; have XX := κ (XX.out.upto u3 (by omega)); have OO := κ (OO.out.upto u3 (by omega)); have U := κ (U.out.trans u3); have A := κ a3; clear a3 u3)
 have x0 := XX.out.c0
 have lx := XX.out.l
 obtain ⟨o0, o1, o2, o3, o4, o5, o6⟩ := OO.out.all
 have zo := OO.out.z
 have lo := OO.out.l
 go_upto_region 13 with fail
 have vs := up_put7 (S := fun i => i = w.heap.size + 1) (h := w.heap.size + 1) (Upto.refl _ w3) (.inl rfl) 5 (x.op - 32) 0 0 0 0 0
 have OO := κ (OO.out.put 5 (x.op - 32) 0 0 0 0 0)
 have XX := κ (XX.out.upto vs (by omega))
 have A := κ (A.out.upto vs (by omega))
 have U := κ (up_put7 (h := w.heap.size + 1) U.out (.inr (Nat.le_succ _)) 5 (x.op - 32) 0 0 0 0 0)
 clear vs x0 lx xa o0 o1 o2 o3 o4 o5 o6 zo lo
 generalize (((((((w3.setCell ⟨w.heap.size + 1, 0, none⟩ (.int .i64 5)).setCell ⟨w.heap.size + 1, 1, none⟩ (.int .i64 (x.op - 32))).setCell ⟨w.heap.size + 1, 2, none⟩ (.int .i64 0)).setCell ⟨w.heap.size + 1, 3, none⟩ (.int .i64 0)).setCell ⟨w.heap.size + 1, 4, none⟩ (.int .i64 0)).setCell ⟨w.heap.size + 1, 5, none⟩ (.int .u32 0)).setCell ⟨w.heap.size + 1, 6, none⟩ (.int .i64 0)) = w4 at OO XX A U ⊢
 have x0 := XX.out.c0
 have lx := XX.out.l
 go_upto_region 14 with (go_at_call 149; refine (FO.out _).mono ?_; rintro e w5 ⟨rfl, b5⟩)
 have vn := (Upto.of_below (S := fun _ => False) b5).alloc (.cells #[.bool true, .bool true, .bool false, .bool false, .bool false, .int .i64 0, .int .i64 1] 231)
 have OO := κ (OO.out.upto vn id)
 have XX := κ (XX.out.upto vn id)
 have A := κ (A.out.upto vn id)
 have U := κ (U.out.trans (vn.mono (T := fun i => i = h) fun _ _ h => h.elim))
 have f2 := box_at w5 #[.bool true, .bool true, .bool false, .bool false, .bool false, .int .i64 0, .int .i64 1] 231 2
 have f3 := box_at w5 #[.bool true, .bool true, .bool false, .bool false, .bool false, .int .i64 0, .int .i64 1] 231 3
 have f2 : (w5.alloc (.cells #[.bool true, .bool true, .bool false, .bool false, .bool false, .int .i64 0, .int .i64 1] 231)).cell? ⟨w5.heap.size, 2, none⟩ = some (.bool false) := f2
 have f3 : (w5.alloc (.cells #[.bool true, .bool true, .bool false, .bool false, .bool false, .int .i64 0, .int .i64 1] 231)).cell? ⟨w5.heap.size, 3, none⟩ = some (.bool false) := f3
 have lf : w5.heap.size < (w5.alloc (.cells #[.bool true, .bool true, .bool false, .bool false, .bool false, .int .i64 0, .int .i64 1] 231)).heap.size := by simp
 have hf : h < w5.heap.size := by have := b5.size; have := XX.out.l; omega
 clear vn b5 x0 lx
 generalize w5.alloc (.cells #[.bool true, .bool true, .bool false, .bool false, .bool false, .int .i64 0, .int .i64 1] 231) = w6 at OO XX A U f2 f3 lf ⊢
 generalize w5.heap.size = gf at f2 f3 lf hf ⊢
 go_upto_region 16 with fail
 clear f2
 go_upto_region 18 with fail
 clear f3 lf
 go_region_held3 (fun W => W.cell? ⟨w.heap.size, 1, none⟩ = some (.int .i64 (rd : Int)) ∧ W.cell? ⟨w.heap.size + 1, 0, none⟩ = some (.int .i64 5) ∧ W.cell? ⟨w.heap.size + 1, 1, none⟩ = some (.int .i64 (x.op - 32)) ∧ W.cell? ⟨w.heap.size + 1, 2, none⟩ = some (.int .i64 0) ∧ W.cell? ⟨w.heap.size + 1, 3, none⟩ = some (.int .i64 0) ∧ W.cell? ⟨w.heap.size + 1, 4, none⟩ = some (.int .i64 0) ∧ W.cell? ⟨w.heap.size + 1, 5, none⟩ = some (.int .u32 0) ∧ W.cell? ⟨w.heap.size + 1, 6, none⟩ = some (.int .i64 0)) (first | exact l18 XX.out OO.out HD.out | exact l18 XX.out.drew OO.out.drew HD.out | exact l18 X2.out O2.out HD.out | exact l18 X3.out O3.out HD.out)
  ((first | (go_at_call 153; (with_reducible refine (SE.out _ _ A2.out).mono ?_); rintro e w8 ⟨rfl, a8, u8⟩; have X3 := κ (X2.out.upto u8 (by omega)); have O3 := κ (O2.out.upto u8 (by omega)); have U3 := κ (U2.out.trans u8); have A3 := κ a8; clear a8 u8) | (go_at_call 171; (with_reducible refine (VA.out _).mono ?_); rintro e w7 ⟨rfl, b7⟩; have un := Upto.of_below (S := fun _ => False) b7; have X2 := κ (show XB w.heap.size x w7 from by first | exact XX.out.upto un id | exact XX.out.drew.upto un id); have O2 := κ (show XO (w.heap.size + 1) 5 (x.op - 32) 0 0 0 0 0 w7 from by first | exact OO.out.upto un id | exact OO.out.drew.upto un id); have A2 := κ (show MR h K s3 w7 from by first | exact A.out.upto un id | exact A.out.drew.upto un id); have U2 := κ (show Upto (fun i => i = h) w w7 from by first | exact U.out.trans (un.mono fun _ _ h => h.elim) | exact U.out.drew.trans (un.mono fun _ _ h => h.elim)); clear un b7)))
 go_end0
 exact ⟨rfl, A3.out, U3.out⟩
theorem value_flags (x : Cd) (ra rb rc rd : Nat) (w : World) (a : MR h K s w) (ho : 48 ≤ x.op ∧ x.op < 61) (ha : x.a = ra) (hb : x.b = rb) (hc : x.c = rc) (hd : x.d = rd) (la : ra < 16) (lb : rb < 16) (lc : rc < 16) (ld : rd < 16) (hr : RegOk s) :
  Calls Try.prog 154 #[.pointer (some ⟨h, 0, none⟩), .agg #[.int .i64 x.op, .int .i64 x.d, .int .i64 x.a, .int .i64 x.b, .int .i64 x.c, .int .i64 x.n, .int .u32 x.k, .int .u32 x.x]] w fun e w' => e = .returned (.tuple #[]) ∧ MR h K ((((s.gets ra).gets rb).gets rc).sets rd (valV 7 (x.op - 48) 0 (s.reg ra) (s.reg rb) (s.reg rc))) w' ∧ Upto (fun i => i = h) w w' := by
 have GA : Hid (∀ w, MR h K s w → Calls Try.prog 151 #[.pointer (some ⟨h, 0, none⟩), .int .i64 ra] w fun e w' => e = .returned (.int .u32 (s.reg ra)) ∧ MR h K (s.gets ra) w' ∧ Upto (fun i => i = h) w w') := fun w a => get_any ra w a la
 have GB : Hid (∀ w, MR h K (s.gets ra) w → Calls Try.prog 151 #[.pointer (some ⟨h, 0, none⟩), .int .i64 rb] w fun e w' => e = .returned (.int .u32 (s.reg rb)) ∧ MR h K ((s.gets ra).gets rb) w' ∧ Upto (fun i => i = h) w w') := fun w a => get_any rb w a lb
 have GC : Hid (∀ w, MR h K ((s.gets ra).gets rb) w → Calls Try.prog 151 #[.pointer (some ⟨h, 0, none⟩), .int .i64 rc] w fun e w' => e = .returned (.int .u32 (s.reg rc)) ∧ MR h K (((s.gets ra).gets rb).gets rc) w' ∧ Upto (fun i => i = h) w w') := fun w a => get_any rc w a lc
 have VA := fun w => val_any 7 (x.op - 48) 0 0 0 0 0 (s.reg ra) (s.reg rb) (s.reg rc) w (by decide) (by decide) (hr ra).1 (hr ra).2 (hr rb).1 (hr rb).2 (hr rc).1 (hr rc).2 (.inr (.inr (.inr (.inl rfl))))
 have SE : Hid (∀ z w, MR h K (((s.gets ra).gets rb).gets rc) w → Calls Try.prog 153 #[.pointer (some ⟨h, 0, none⟩), .int .i64 rd, .int .u32 z] w fun e w' => e = .returned (.tuple #[]) ∧ MR h K ((((s.gets ra).gets rb).gets rc).sets rd z) w' ∧ Upto (fun i => i = h) w w') := fun z w a => set_any rd z w a ld
 generalize (((s.gets ra).gets rb).gets rc) = s3 at GC SE ⊢
 generalize ((s.gets ra).gets rb) = s2 at GB GC
 generalize (s.gets ra) = s1 at GA GB
 generalize hz : (valV 7 (x.op - 48) 0 (s.reg ra) (s.reg rb) (s.reg rc)) = z at VA ⊢
 generalize s.reg ra = va at GA VA
 generalize s.reg rb = vb at GB VA
 generalize s.reg rc = vc at GC VA
 have VA := κ VA
 have hcl : fcls x.op = 3 := by unfold fcls; rw [if_neg (by omega)]; rw [if_neg (by omega)]; rw [if_pos (by omega)]
 have FO : Hid (∀ w, Calls Try.prog 149 #[.int .i64 x.op] w fun e w' => e = .returned (.agg #[.bool true, .bool true, .bool true, .bool true, .bool false, .int .i64 0, .int .i64 1]) ∧ Below w.heap.size w w') := fun w => by
  have := formatOf_any x.op w
  rw [hcl] at this
  exact this
 have q5 : (x.op == 5) = false := by simp; omega
 have q32 : decide (x.op < 32) = false := by simp; omega
 have q48 : decide (x.op < 48) = false := by simp; omega
 have q64 : decide (x.op < 64) = true := by simp; omega
 obtain ⟨ho0, ho1⟩ := ho
 have HA := κ ha
 have HB := κ hb
 have HC := κ hc
 have HD := κ hd
 have hl := a.l
 have xb := (XB.new w x 108).upto ((Upto.refl (fun _ => False) _).alloc (.cells #[.int .i64 6, .int .i64 0, .int .i64 0, .int .i64 0, .int .i64 0, .int .u32 0, .int .i64 0] 31)) id
 have oo := XO.new (w.alloc (.cells #[.int .i64 x.op, .int .i64 x.d, .int .i64 x.a, .int .i64 x.b, .int .i64 x.c, .int .i64 x.n, .int .u32 x.k, .int .u32 x.x] 108)) 6 0 0 0 0 0 0 31
 rw [show (w.alloc (.cells #[.int .i64 x.op, .int .i64 x.d, .int .i64 x.a, .int .i64 x.b, .int .i64 x.c, .int .i64 x.n, .int .u32 x.k, .int .u32 x.x] 108)).heap.size = w.heap.size + 1 by simp] at oo
 have u0 := ((Upto.refl (fun _ => False) w).alloc (.cells #[.int .i64 x.op, .int .i64 x.d, .int .i64 x.a, .int .i64 x.b, .int .i64 x.c, .int .i64 x.n, .int .u32 x.k, .int .u32 x.x] 108)).alloc (.cells #[.int .i64 6, .int .i64 0, .int .i64 0, .int .i64 0, .int .i64 0, .int .u32 0, .int .i64 0] 31)
 have a0 := a.upto u0 id
 clear ha hb hc hd hr hz hcl a
 go_enter Try.func154, Try.ntmps154
 go_upto_region 2 with fail
 generalize (w.alloc (.cells #[.int .i64 x.op, .int .i64 x.d, .int .i64 x.a, .int .i64 x.b, .int .i64 x.c, .int .i64 x.n, .int .u32 x.k, .int .u32 x.x] 108)).alloc (.cells #[.int .i64 6, .int .i64 0, .int .i64 0, .int .i64 0, .int .i64 0, .int .u32 0, .int .i64 0] 31) = WA at xb oo u0 a0 ⊢
 have XX := κ xb
 have OO := κ oo
 have A := κ a0
 have U := κ (u0.mono (T := fun i => i = h) fun _ _ h => h.elim)
 have xa := xb.c2
 rw [HA.out] at xa
 clear xb oo u0 a0
 go_upto_region 4 with (go_at_call 151; refine (GA.out _ A.out).mono ?_; rintro e w3 ⟨rfl, a3, u3⟩; have XX := κ (XX.out.upto u3 (by omega)); have OO := κ (OO.out.upto u3 (by omega)); have U := κ (U.out.trans u3); have A := κ a3; clear a3 u3)
 have x0 := XX.out.c0
 have lx := XX.out.l
 obtain ⟨o0, o1, o2, o3, o4, o5, o6⟩ := OO.out.all
 have zo := OO.out.z
 have lo := OO.out.l
 go_upto_region 13 with fail
 have vs := up_put7 (S := fun i => i = w.heap.size + 1) (h := w.heap.size + 1) (Upto.refl _ w3) (.inl rfl) 7 (x.op - 48) 0 0 0 0 0
 have OO := κ (OO.out.put 7 (x.op - 48) 0 0 0 0 0)
 have XX := κ (XX.out.upto vs (by omega))
 have A := κ (A.out.upto vs (by omega))
 have U := κ (up_put7 (h := w.heap.size + 1) U.out (.inr (Nat.le_succ _)) 7 (x.op - 48) 0 0 0 0 0)
 clear vs x0 lx xa o0 o1 o2 o3 o4 o5 o6 zo lo
 generalize (((((((w3.setCell ⟨w.heap.size + 1, 0, none⟩ (.int .i64 7)).setCell ⟨w.heap.size + 1, 1, none⟩ (.int .i64 (x.op - 48))).setCell ⟨w.heap.size + 1, 2, none⟩ (.int .i64 0)).setCell ⟨w.heap.size + 1, 3, none⟩ (.int .i64 0)).setCell ⟨w.heap.size + 1, 4, none⟩ (.int .i64 0)).setCell ⟨w.heap.size + 1, 5, none⟩ (.int .u32 0)).setCell ⟨w.heap.size + 1, 6, none⟩ (.int .i64 0)) = w4 at OO XX A U ⊢
 have x0 := XX.out.c0
 have lx := XX.out.l
 go_upto_region 14 with (go_at_call 149; refine (FO.out _).mono ?_; rintro e w5 ⟨rfl, b5⟩)
 have vn := (Upto.of_below (S := fun _ => False) b5).alloc (.cells #[.bool true, .bool true, .bool true, .bool true, .bool false, .int .i64 0, .int .i64 1] 231)
 have OO := κ (OO.out.upto vn id)
 have XX := κ (XX.out.upto vn id)
 have A := κ (A.out.upto vn id)
 have U := κ (U.out.trans (vn.mono (T := fun i => i = h) fun _ _ h => h.elim))
 have f2 := box_at w5 #[.bool true, .bool true, .bool true, .bool true, .bool false, .int .i64 0, .int .i64 1] 231 2
 have f3 := box_at w5 #[.bool true, .bool true, .bool true, .bool true, .bool false, .int .i64 0, .int .i64 1] 231 3
 have f2 : (w5.alloc (.cells #[.bool true, .bool true, .bool true, .bool true, .bool false, .int .i64 0, .int .i64 1] 231)).cell? ⟨w5.heap.size, 2, none⟩ = some (.bool true) := f2
 have f3 : (w5.alloc (.cells #[.bool true, .bool true, .bool true, .bool true, .bool false, .int .i64 0, .int .i64 1] 231)).cell? ⟨w5.heap.size, 3, none⟩ = some (.bool true) := f3
 have lf : w5.heap.size < (w5.alloc (.cells #[.bool true, .bool true, .bool true, .bool true, .bool false, .int .i64 0, .int .i64 1] 231)).heap.size := by simp
 have hf : h < w5.heap.size := by have := b5.size; have := XX.out.l; omega
 clear vn b5 x0 lx
 generalize w5.alloc (.cells #[.bool true, .bool true, .bool true, .bool true, .bool false, .int .i64 0, .int .i64 1] 231) = w6 at OO XX A U f2 f3 lf ⊢
 generalize w5.heap.size = gf at f2 f3 lf hf ⊢
 have xr := XX.out.c3
 rw [HB.out] at xr
 go_upto_region 16 with (go_at_call 151; refine (GB.out _ A.out).mono ?_; rintro e w3 ⟨rfl, a3, u3⟩; have XX := κ (XX.out.upto u3 (by omega)); have OO := κ (OO.out.upto u3 (by omega)); have U := κ (U.out.trans u3); have A := κ a3; have f3 := (u3.cell (q := ⟨gf, 3, none⟩) lf (by show ¬ gf = h; omega)).trans f3; have lf := Nat.lt_of_lt_of_le lf u3.size; clear a3 u3)
 clear xr f2
 have xr := XX.out.c4
 rw [HC.out] at xr
 go_upto_region 18 with (go_at_call 151; refine (GC.out _ A.out).mono ?_; rintro e w3 ⟨rfl, a3, u3⟩; have XX := κ (XX.out.upto u3 (by omega)); have OO := κ (OO.out.upto u3 (by omega)); have U := κ (U.out.trans u3); have A := κ a3; clear a3 u3)
 clear xr f3 lf
 go_region_held3 (fun W => W.cell? ⟨w.heap.size, 1, none⟩ = some (.int .i64 (rd : Int)) ∧ W.cell? ⟨w.heap.size + 1, 0, none⟩ = some (.int .i64 7) ∧ W.cell? ⟨w.heap.size + 1, 1, none⟩ = some (.int .i64 (x.op - 48)) ∧ W.cell? ⟨w.heap.size + 1, 2, none⟩ = some (.int .i64 0) ∧ W.cell? ⟨w.heap.size + 1, 3, none⟩ = some (.int .i64 0) ∧ W.cell? ⟨w.heap.size + 1, 4, none⟩ = some (.int .i64 0) ∧ W.cell? ⟨w.heap.size + 1, 5, none⟩ = some (.int .u32 0) ∧ W.cell? ⟨w.heap.size + 1, 6, none⟩ = some (.int .i64 0)) (first | exact l18 XX.out OO.out HD.out | exact l18 XX.out.drew OO.out.drew HD.out | exact l18 X2.out O2.out HD.out | exact l18 X3.out O3.out HD.out)
  ((first | (go_at_call 153; (with_reducible refine (SE.out _ _ A2.out).mono ?_); rintro e w8 ⟨rfl, a8, u8⟩; have X3 := κ (X2.out.upto u8 (by omega)); have O3 := κ (O2.out.upto u8 (by omega)); have U3 := κ (U2.out.trans u8); have A3 := κ a8; clear a8 u8) | (go_at_call 171; (with_reducible refine (VA.out _).mono ?_); rintro e w7 ⟨rfl, b7⟩; have un := Upto.of_below (S := fun _ => False) b7; have X2 := κ (show XB w.heap.size x w7 from by first | exact XX.out.upto un id | exact XX.out.drew.upto un id); have O2 := κ (show XO (w.heap.size + 1) 7 (x.op - 48) 0 0 0 0 0 w7 from by first | exact OO.out.upto un id | exact OO.out.drew.upto un id); have A2 := κ (show MR h K s3 w7 from by first | exact A.out.upto un id | exact A.out.drew.upto un id); have U2 := κ (show Upto (fun i => i = h) w w7 from by first | exact U.out.trans (un.mono fun _ _ h => h.elim) | exact U.out.drew.trans (un.mono fun _ _ h => h.elim)); clear un b7)))
 go_end0
 exact ⟨rfl, A3.out, U3.out⟩
theorem value_cond (x : Cd) (ra rb rc rd : Nat) (w : World) (a : MR h K s w) (ho : 64 ≤ x.op ∧ x.op < 80) (ha : x.a = ra) (hb : x.b = rb) (hc : x.c = rc) (hd : x.d = rd) (la : ra < 16) (lb : rb < 16) (lc : rc < 16) (ld : rd < 16) (hr : RegOk s) :
  Calls Try.prog 154 #[.pointer (some ⟨h, 0, none⟩), .agg #[.int .i64 x.op, .int .i64 x.d, .int .i64 x.a, .int .i64 x.b, .int .i64 x.c, .int .i64 x.n, .int .u32 x.k, .int .u32 x.x]] w fun e w' => e = .returned (.tuple #[]) ∧ MR h K ((s.gets ra).sets rd (valV 8 (x.op - 64) 0 (s.reg ra) 0 0)) w' ∧ Upto (fun i => i = h) w w' := by
 have GA : Hid (∀ w, MR h K s w → Calls Try.prog 151 #[.pointer (some ⟨h, 0, none⟩), .int .i64 ra] w fun e w' => e = .returned (.int .u32 (s.reg ra)) ∧ MR h K (s.gets ra) w' ∧ Upto (fun i => i = h) w w') := fun w a => get_any ra w a la
 have VA := fun w => val_any 8 (x.op - 64) 0 0 0 0 0 (s.reg ra) 0 0 w (by decide) (by decide) (hr ra).1 (hr ra).2 (by decide) (by decide) (by decide) (by decide) (.inr (.inr (.inr (.inr ⟨rfl, by omega, by omega⟩))))
 have SE : Hid (∀ z w, MR h K (s.gets ra) w → Calls Try.prog 153 #[.pointer (some ⟨h, 0, none⟩), .int .i64 rd, .int .u32 z] w fun e w' => e = .returned (.tuple #[]) ∧ MR h K ((s.gets ra).sets rd z) w' ∧ Upto (fun i => i = h) w w') := fun z w a => set_any rd z w a ld
 generalize (s.gets ra) = s3 at GA SE ⊢
 generalize hz : (valV 8 (x.op - 64) 0 (s.reg ra) 0 0) = z at VA ⊢
 generalize s.reg ra = va at GA VA
 have VA := κ VA
 have hcl : fcls x.op = 2 := by unfold fcls; rw [if_neg (by omega)]; rw [if_pos (by omega)]
 have FO : Hid (∀ w, Calls Try.prog 149 #[.int .i64 x.op] w fun e w' => e = .returned (.agg #[.bool true, .bool true, .bool false, .bool false, .bool false, .int .i64 0, .int .i64 1]) ∧ Below w.heap.size w w') := fun w => by
  have := formatOf_any x.op w
  rw [hcl] at this
  exact this
 have q5 : (x.op == 5) = false := by simp; omega
 have q32 : decide (x.op < 32) = false := by simp; omega
 have q48 : decide (x.op < 48) = false := by simp; omega
 have q64 : decide (x.op < 64) = false := by simp; omega
 obtain ⟨ho0, ho1⟩ := ho
 have HA := κ ha
 have HB := κ hb
 have HC := κ hc
 have HD := κ hd
 have hl := a.l
 have xb := (XB.new w x 108).upto ((Upto.refl (fun _ => False) _).alloc (.cells #[.int .i64 6, .int .i64 0, .int .i64 0, .int .i64 0, .int .i64 0, .int .u32 0, .int .i64 0] 31)) id
 have oo := XO.new (w.alloc (.cells #[.int .i64 x.op, .int .i64 x.d, .int .i64 x.a, .int .i64 x.b, .int .i64 x.c, .int .i64 x.n, .int .u32 x.k, .int .u32 x.x] 108)) 6 0 0 0 0 0 0 31
 rw [show (w.alloc (.cells #[.int .i64 x.op, .int .i64 x.d, .int .i64 x.a, .int .i64 x.b, .int .i64 x.c, .int .i64 x.n, .int .u32 x.k, .int .u32 x.x] 108)).heap.size = w.heap.size + 1 by simp] at oo
 have u0 := ((Upto.refl (fun _ => False) w).alloc (.cells #[.int .i64 x.op, .int .i64 x.d, .int .i64 x.a, .int .i64 x.b, .int .i64 x.c, .int .i64 x.n, .int .u32 x.k, .int .u32 x.x] 108)).alloc (.cells #[.int .i64 6, .int .i64 0, .int .i64 0, .int .i64 0, .int .i64 0, .int .u32 0, .int .i64 0] 31)
 have a0 := a.upto u0 id
 clear ha hb hc hd hr hz hcl a
 go_enter Try.func154, Try.ntmps154
 go_upto_region 2 with fail
 generalize (w.alloc (.cells #[.int .i64 x.op, .int .i64 x.d, .int .i64 x.a, .int .i64 x.b, .int .i64 x.c, .int .i64 x.n, .int .u32 x.k, .int .u32 x.x] 108)).alloc (.cells #[.int .i64 6, .int .i64 0, .int .i64 0, .int .i64 0, .int .i64 0, .int .u32 0, .int .i64 0] 31) = WA at xb oo u0 a0 ⊢
 have XX := κ xb
 have OO := κ oo
 have A := κ a0
 have U := κ (u0.mono (T := fun i => i = h) fun _ _ h => h.elim)
 have xa := xb.c2
 rw [HA.out] at xa
 clear xb oo u0 a0
 go_upto_region 4 with (go_at_call 151; refine (GA.out _ A.out).mono ?_; rintro e w3 ⟨rfl, a3, u3⟩; have XX := κ (XX.out.upto u3 (by omega)); have OO := κ (OO.out.upto u3 (by omega)); have U := κ (U.out.trans u3); have A := κ a3; clear a3 u3)
 have x0 := XX.out.c0
 have lx := XX.out.l
 obtain ⟨o0, o1, o2, o3, o4, o5, o6⟩ := OO.out.all
 have zo := OO.out.z
 have lo := OO.out.l
 go_upto_region 13 with fail
 have vs := up_put7 (S := fun i => i = w.heap.size + 1) (h := w.heap.size + 1) (Upto.refl _ w3) (.inl rfl) 8 (x.op - 64) 0 0 0 0 0
 have OO := κ (OO.out.put 8 (x.op - 64) 0 0 0 0 0)
 have XX := κ (XX.out.upto vs (by omega))
 have A := κ (A.out.upto vs (by omega))
 have U := κ (up_put7 (h := w.heap.size + 1) U.out (.inr (Nat.le_succ _)) 8 (x.op - 64) 0 0 0 0 0)
 clear vs x0 lx xa o0 o1 o2 o3 o4 o5 o6 zo lo
 generalize (((((((w3.setCell ⟨w.heap.size + 1, 0, none⟩ (.int .i64 8)).setCell ⟨w.heap.size + 1, 1, none⟩ (.int .i64 (x.op - 64))).setCell ⟨w.heap.size + 1, 2, none⟩ (.int .i64 0)).setCell ⟨w.heap.size + 1, 3, none⟩ (.int .i64 0)).setCell ⟨w.heap.size + 1, 4, none⟩ (.int .i64 0)).setCell ⟨w.heap.size + 1, 5, none⟩ (.int .u32 0)).setCell ⟨w.heap.size + 1, 6, none⟩ (.int .i64 0)) = w4 at OO XX A U ⊢
 have x0 := XX.out.c0
 have lx := XX.out.l
 go_upto_region 14 with (go_at_call 149; refine (FO.out _).mono ?_; rintro e w5 ⟨rfl, b5⟩)
 have vn := (Upto.of_below (S := fun _ => False) b5).alloc (.cells #[.bool true, .bool true, .bool false, .bool false, .bool false, .int .i64 0, .int .i64 1] 231)
 have OO := κ (OO.out.upto vn id)
 have XX := κ (XX.out.upto vn id)
 have A := κ (A.out.upto vn id)
 have U := κ (U.out.trans (vn.mono (T := fun i => i = h) fun _ _ h => h.elim))
 have f2 := box_at w5 #[.bool true, .bool true, .bool false, .bool false, .bool false, .int .i64 0, .int .i64 1] 231 2
 have f3 := box_at w5 #[.bool true, .bool true, .bool false, .bool false, .bool false, .int .i64 0, .int .i64 1] 231 3
 have f2 : (w5.alloc (.cells #[.bool true, .bool true, .bool false, .bool false, .bool false, .int .i64 0, .int .i64 1] 231)).cell? ⟨w5.heap.size, 2, none⟩ = some (.bool false) := f2
 have f3 : (w5.alloc (.cells #[.bool true, .bool true, .bool false, .bool false, .bool false, .int .i64 0, .int .i64 1] 231)).cell? ⟨w5.heap.size, 3, none⟩ = some (.bool false) := f3
 have lf : w5.heap.size < (w5.alloc (.cells #[.bool true, .bool true, .bool false, .bool false, .bool false, .int .i64 0, .int .i64 1] 231)).heap.size := by simp
 have hf : h < w5.heap.size := by have := b5.size; have := XX.out.l; omega
 clear vn b5 x0 lx
 generalize w5.alloc (.cells #[.bool true, .bool true, .bool false, .bool false, .bool false, .int .i64 0, .int .i64 1] 231) = w6 at OO XX A U f2 f3 lf ⊢
 generalize w5.heap.size = gf at f2 f3 lf hf ⊢
 go_upto_region 16 with fail
 clear f2
 go_upto_region 18 with fail
 clear f3 lf
 go_region_held3 (fun W => W.cell? ⟨w.heap.size, 1, none⟩ = some (.int .i64 (rd : Int)) ∧ W.cell? ⟨w.heap.size + 1, 0, none⟩ = some (.int .i64 8) ∧ W.cell? ⟨w.heap.size + 1, 1, none⟩ = some (.int .i64 (x.op - 64)) ∧ W.cell? ⟨w.heap.size + 1, 2, none⟩ = some (.int .i64 0) ∧ W.cell? ⟨w.heap.size + 1, 3, none⟩ = some (.int .i64 0) ∧ W.cell? ⟨w.heap.size + 1, 4, none⟩ = some (.int .i64 0) ∧ W.cell? ⟨w.heap.size + 1, 5, none⟩ = some (.int .u32 0) ∧ W.cell? ⟨w.heap.size + 1, 6, none⟩ = some (.int .i64 0)) (first | exact l18 XX.out OO.out HD.out | exact l18 XX.out.drew OO.out.drew HD.out | exact l18 X2.out O2.out HD.out | exact l18 X3.out O3.out HD.out)
  ((first | (go_at_call 153; (with_reducible refine (SE.out _ _ A2.out).mono ?_); rintro e w8 ⟨rfl, a8, u8⟩; have X3 := κ (X2.out.upto u8 (by omega)); have O3 := κ (O2.out.upto u8 (by omega)); have U3 := κ (U2.out.trans u8); have A3 := κ a8; clear a8 u8) | (go_at_call 171; (with_reducible refine (VA.out _).mono ?_); rintro e w7 ⟨rfl, b7⟩; have un := Upto.of_below (S := fun _ => False) b7; have X2 := κ (show XB w.heap.size x w7 from by first | exact XX.out.upto un id | exact XX.out.drew.upto un id); have O2 := κ (show XO (w.heap.size + 1) 8 (x.op - 64) 0 0 0 0 0 w7 from by first | exact OO.out.upto un id | exact OO.out.drew.upto un id); have A2 := κ (show MR h K s3 w7 from by first | exact A.out.upto un id | exact A.out.drew.upto un id); have U2 := κ (show Upto (fun i => i = h) w w7 from by first | exact U.out.trans (un.mono fun _ _ h => h.elim) | exact U.out.drew.trans (un.mono fun _ _ h => h.elim)); clear un b7)))
 go_end0
 exact ⟨rfl, A3.out, U3.out⟩
end Go.Proofs.Ytcjcmnnhmajocab.Hr
