/- ir.Eval: what a block does. -/
import Derived.LoopN
import Derived.Outline
import Derived.Deep.QuietTactic
import Derived.BigQuiet
import Derived.Deep.LoopGhost
import Derived.Test.YtcjcmnnhmajocabPeae
import Derived.Test.YtcjcmnnhmajocabPebg
import Derived.Test.YtcjcmnnhmajocabPebh
namespace Go.Proofs.Ytcjcmnnhmajocab.Ev
open Go.RowKit Kt Me Fl Ic
set_option linter.unusedVariables false
set_option linter.unusedSimpArgs false
theorem u32_info : ∃ i, Try.prog.info? 22 = some i ∧ i.zero = some (.int .u32 0) ∧ i.size = 1 ∧ i.bytes = 4 := by
  have h : (Try.prog.info? 22).map (fun i => (i.zero, i.size, i.bytes)) = some (some (.int .u32 0), 1, 4) := by kernel_rfl
  obtain ⟨i, hi, hz⟩ := Option.map_eq_some_iff.1 h
  simp only [Prod.mk.injEq] at hz
  exact ⟨i, hi, hz.1, hz.2.1, hz.2.2⟩
/-- what Eval answers -/
def evalO (os : List Opr) (cnt byt : Int) (s : Evs) : Evs × Ext × Int :=
  if (chk os cnt byt).1 = 0 then ((evN os os.length s).1, (evN os os.length s).2.1, 0) else (s, ⟨0, 0, 0, 0⟩, (chk os cnt byt).1)
def evalV (r : Evs × Ext × Int) : Value := .tuple #[.agg (ctL r.1.c), .agg #[.int .i64 r.2.1.k, .int .u32 r.2.1.x, .int .u32 r.2.1.pc, .int .i64 r.2.1.n], .int .i64 r.2.2]
/-- a block in a box -/
structure BB (h : Nat) (bpc cnt byt : Int) (ao : Option Addr) (L cap : Nat) (W : World) : Prop where
  c0 : W.cell? ⟨h, 0, none⟩ = some (.int .u32 bpc)
  c1 : W.cell? ⟨h, 1, none⟩ = some (.int .i64 cnt)
  c2 : W.cell? ⟨h, 2, none⟩ = some (.int .i64 byt)
  c3 : W.cell? ⟨h, 3, none⟩ = some (.slice ao L cap)
  l : h < W.heap.size
theorem BB.upto {S : Nat → Prop} {h : Nat} {bpc cnt byt : Int} {ao : Option Addr} {L cap : Nat} {W W' : World} (a : BB h bpc cnt byt ao L cap W) (u : Upto S W W') (hs : ¬ S h) : BB h bpc cnt byt ao L cap W' :=
  ⟨(u.cell (q := ⟨h, 0, none⟩) a.l hs).trans a.c0, (u.cell (q := ⟨h, 1, none⟩) a.l hs).trans a.c1, (u.cell (q := ⟨h, 2, none⟩) a.l hs).trans a.c2, (u.cell (q := ⟨h, 3, none⟩) a.l hs).trans a.c3, Nat.lt_of_lt_of_le a.l u.size⟩
theorem ev_new (w : World) (bpc cnt byt : Int) (ao : Option Addr) (L cap : Nat) (cx : Nat → Int) :
    BB w.heap.size bpc cnt byt ao L cap ((((w.alloc (.cells #[.int .u32 bpc, .int .i64 cnt, .int .i64 byt, .slice ao L cap] 25)).alloc (.cells (ctL cx) 37)).alloc (.cells (ctL fun _ => 0) 37)).alloc (.cells #[.int .i64 0, .int .u32 0, .int .u32 0, .int .i64 0] 48)) ∧ CB (w.heap.size + 1) cx ((((w.alloc (.cells #[.int .u32 bpc, .int .i64 cnt, .int .i64 byt, .slice ao L cap] 25)).alloc (.cells (ctL cx) 37)).alloc (.cells (ctL fun _ => 0) 37)).alloc (.cells #[.int .i64 0, .int .u32 0, .int .u32 0, .int .i64 0] 48)) ∧ CB (w.heap.size + 1 + 1) (fun _ => 0) ((((w.alloc (.cells #[.int .u32 bpc, .int .i64 cnt, .int .i64 byt, .slice ao L cap] 25)).alloc (.cells (ctL cx) 37)).alloc (.cells (ctL fun _ => 0) 37)).alloc (.cells #[.int .i64 0, .int .u32 0, .int .u32 0, .int .i64 0] 48)) ∧ XB4 (w.heap.size + 1 + 1 + 1) 0 0 0 0 ((((w.alloc (.cells #[.int .u32 bpc, .int .i64 cnt, .int .i64 byt, .slice ao L cap] 25)).alloc (.cells (ctL cx) 37)).alloc (.cells (ctL fun _ => 0) 37)).alloc (.cells #[.int .i64 0, .int .u32 0, .int .u32 0, .int .i64 0] 48)) ∧ Upto (fun _ => False) w ((((w.alloc (.cells #[.int .u32 bpc, .int .i64 cnt, .int .i64 byt, .slice ao L cap] 25)).alloc (.cells (ctL cx) 37)).alloc (.cells (ctL fun _ => 0) 37)).alloc (.cells #[.int .i64 0, .int .u32 0, .int .u32 0, .int .i64 0] 48)) := by
  have hu := ((((Upto.refl (fun _ => False) w).alloc (.cells #[.int .u32 bpc, .int .i64 cnt, .int .i64 byt, .slice ao L cap] 25)).alloc (.cells (ctL cx) 37)).alloc (.cells (ctL fun _ => 0) 37)).alloc (.cells #[.int .i64 0, .int .u32 0, .int .u32 0, .int .i64 0] 48)
  have bb : BB w.heap.size bpc cnt byt ao L cap (w.alloc (.cells #[.int .u32 bpc, .int .i64 cnt, .int .i64 byt, .slice ao L cap] 25)) := ⟨box_at w _ _ 0, box_at w _ _ 1, box_at w _ _ 2, box_at w _ _ 3, by simp⟩
  have e1 : (w.alloc (.cells #[.int .u32 bpc, .int .i64 cnt, .int .i64 byt, .slice ao L cap] 25)).heap.size = w.heap.size + 1 := by simp
  generalize w.alloc (.cells #[.int .u32 bpc, .int .i64 cnt, .int .i64 byt, .slice ao L cap] 25) = W1 at bb e1 hu ⊢
  have c2 := CB.new W1 cx 37
  have e2 : (W1.alloc (.cells (ctL cx) 37)).heap.size = w.heap.size + 1 + 1 := by simp [e1]
  have u2 := (Upto.refl (fun _ => False) W1).alloc (.cells (ctL cx) 37)
  rw [e1] at c2
  generalize W1.alloc (.cells (ctL cx) 37) = W2 at c2 e2 u2 hu ⊢
  have c3 := CB.new W2 (fun _ => 0) 37
  have e3 : (W2.alloc (.cells (ctL fun _ => 0) 37)).heap.size = w.heap.size + 1 + 1 + 1 := by simp [e2]
  have u3 := (Upto.refl (fun _ => False) W2).alloc (.cells (ctL fun _ => 0) 37)
  rw [e2] at c3
  generalize W2.alloc (.cells (ctL fun _ => 0) 37) = W3 at c3 e3 u3 hu ⊢
  have x4 := XB4.new W3 0 0 0 0 48
  have u4 := (Upto.refl (fun _ => False) W3).alloc (.cells #[.int .i64 0, .int .u32 0, .int .u32 0, .int .i64 0] 48)
  rw [e3] at x4
  exact ⟨((bb.upto u2 id).upto u3 id).upto u4 id, (c2.upto u3 id).upto u4 id, c3.upto u4 id, x4, hu⟩
theorem evN_go {os : List Opr} {m j : Nat} {o : Opr} {s s' : Evs} (hm : os.length - j = m + 1) (ho : os[j]? = some o) (h : opV o s j = (s', none)) : evN os (os.length - j) s = evN os (os.length - (j + 1)) s' := by
  have hj : os.length - (m + 1) = j := by omega
  rw [hm, show os.length - (j + 1) = m by omega, evN, hj]
  simp only [ho, h]
theorem evN_out {os : List Opr} {m j : Nat} {o : Opr} {s s' : Evs} {x : Ext} (hm : os.length - j = m + 1) (ho : os[j]? = some o) (h : opV o s j = (s', some x)) : evN os (os.length - j) s = (s', x, (j : Int)) := by
  have hj : os.length - (m + 1) = j := by omega
  rw [hm, evN, hj]
  simp only [ho, h]
theorem up_back {p B : Nat} {S : Nat → Prop} {w a b : World} (h : Upto (fun i => i = p) w a) (k : Upto S a b) (hB : w.heap.size ≤ B) (hS : ∀ i, S i → i = p ∨ B ≤ i) : Upto (fun i => i = p) w b :=
  ((h.mono (T := fun i => i = p ∨ B ≤ i) fun _ _ e => .inl e).trans (k.mono fun i _ e => hS i e)).mono fun i hi e => e.elim id fun e => absurd hi (by omega)
theorem rn_new (w1 : World) (p L : Nat) (cx : Nat → Int) (ZZ : Array Value) (hz : ∀ j, j < L → ZZ[j]? = some (.int .u32 0)) :
    Rn (w1.heap.size + 1) w1.heap.size p L cx (fun _ => 0) ((w1.alloc (.cells ZZ 22)).alloc (.cells #[.pointer (some ⟨p, 0, none⟩), .int .u32 (cx 0), .int .u32 (cx 1), .int .u32 (cx 2), .int .u32 (cx 3), .int .u32 (cx 4), .int .u32 (cx 5), .int .u32 (cx 6), .int .u32 (cx 7), .int .u32 (cx 8), .int .u32 (cx 9), .int .u32 (cx 10), .int .u32 (cx 11), .slice (some ⟨w1.heap.size, 0, none⟩) L L] 135)).drew ∧
    Upto (fun _ => False) w1 ((w1.alloc (.cells ZZ 22)).alloc (.cells #[.pointer (some ⟨p, 0, none⟩), .int .u32 (cx 0), .int .u32 (cx 1), .int .u32 (cx 2), .int .u32 (cx 3), .int .u32 (cx 4), .int .u32 (cx 5), .int .u32 (cx 6), .int .u32 (cx 7), .int .u32 (cx 8), .int .u32 (cx 9), .int .u32 (cx 10), .int .u32 (cx 11), .slice (some ⟨w1.heap.size, 0, none⟩) L L] 135)).drew := by
  have hu := (((Upto.refl (fun _ => False) w1).alloc (.cells ZZ 22)).alloc (.cells #[.pointer (some ⟨p, 0, none⟩), .int .u32 (cx 0), .int .u32 (cx 1), .int .u32 (cx 2), .int .u32 (cx 3), .int .u32 (cx 4), .int .u32 (cx 5), .int .u32 (cx 6), .int .u32 (cx 7), .int .u32 (cx 8), .int .u32 (cx 9), .int .u32 (cx 10), .int .u32 (cx 11), .slice (some ⟨w1.heap.size, 0, none⟩) L L] 135)).drew
  have zc : ∀ j, (w1.alloc (.cells ZZ 22)).cell? ⟨w1.heap.size, j, none⟩ = ZZ[j]? := fun j => box_at w1 _ _ j
  have zf : ∀ j, (w1.alloc (.cells ZZ 22)).frozen? ⟨w1.heap.size, j, none⟩ = false := fun j => fz_new w1 _ _ j
  have e1 : (w1.alloc (.cells ZZ 22)).heap.size = w1.heap.size + 1 := by simp
  generalize w1.alloc (.cells ZZ 22) = Wa at zc zf e1 hu ⊢
  have rc : ∀ j, (Wa.alloc (.cells #[.pointer (some ⟨p, 0, none⟩), .int .u32 (cx 0), .int .u32 (cx 1), .int .u32 (cx 2), .int .u32 (cx 3), .int .u32 (cx 4), .int .u32 (cx 5), .int .u32 (cx 6), .int .u32 (cx 7), .int .u32 (cx 8), .int .u32 (cx 9), .int .u32 (cx 10), .int .u32 (cx 11), .slice (some ⟨w1.heap.size, 0, none⟩) L L] 135)).cell? ⟨w1.heap.size + 1, j, none⟩ = (#[.pointer (some ⟨p, 0, none⟩), .int .u32 (cx 0), .int .u32 (cx 1), .int .u32 (cx 2), .int .u32 (cx 3), .int .u32 (cx 4), .int .u32 (cx 5), .int .u32 (cx 6), .int .u32 (cx 7), .int .u32 (cx 8), .int .u32 (cx 9), .int .u32 (cx 10), .int .u32 (cx 11), .slice (some ⟨w1.heap.size, 0, none⟩) L L] : Array Value)[j]? := fun j => by rw [← e1]; exact box_at Wa _ _ j
  have rf : ∀ j, (Wa.alloc (.cells #[.pointer (some ⟨p, 0, none⟩), .int .u32 (cx 0), .int .u32 (cx 1), .int .u32 (cx 2), .int .u32 (cx 3), .int .u32 (cx 4), .int .u32 (cx 5), .int .u32 (cx 6), .int .u32 (cx 7), .int .u32 (cx 8), .int .u32 (cx 9), .int .u32 (cx 10), .int .u32 (cx 11), .slice (some ⟨w1.heap.size, 0, none⟩) L L] 135)).frozen? ⟨w1.heap.size + 1, j, none⟩ = false := fun j => by rw [← e1]; exact fz_new Wa _ _ j
  have ua := (Upto.refl (fun _ => False) Wa).alloc (.cells #[.pointer (some ⟨p, 0, none⟩), .int .u32 (cx 0), .int .u32 (cx 1), .int .u32 (cx 2), .int .u32 (cx 3), .int .u32 (cx 4), .int .u32 (cx 5), .int .u32 (cx 6), .int .u32 (cx 7), .int .u32 (cx 8), .int .u32 (cx 9), .int .u32 (cx 10), .int .u32 (cx 11), .slice (some ⟨w1.heap.size, 0, none⟩) L L] 135)
  have e2 : (Wa.alloc (.cells #[.pointer (some ⟨p, 0, none⟩), .int .u32 (cx 0), .int .u32 (cx 1), .int .u32 (cx 2), .int .u32 (cx 3), .int .u32 (cx 4), .int .u32 (cx 5), .int .u32 (cx 6), .int .u32 (cx 7), .int .u32 (cx 8), .int .u32 (cx 9), .int .u32 (cx 10), .int .u32 (cx 11), .slice (some ⟨w1.heap.size, 0, none⟩) L L] 135)).heap.size = w1.heap.size + 1 + 1 := by simp [e1]
  have rn : Rn (w1.heap.size + 1) w1.heap.size p L cx (fun _ => 0) (Wa.alloc (.cells #[.pointer (some ⟨p, 0, none⟩), .int .u32 (cx 0), .int .u32 (cx 1), .int .u32 (cx 2), .int .u32 (cx 3), .int .u32 (cx 4), .int .u32 (cx 5), .int .u32 (cx 6), .int .u32 (cx 7), .int .u32 (cx 8), .int .u32 (cx 9), .int .u32 (cx 10), .int .u32 (cx 11), .slice (some ⟨w1.heap.size, 0, none⟩) L L] 135)) := by
    refine ⟨rc 0, fun j hj => ?_, rc 13, fun j hj => ?_, rf, fun j => ?_, by omega, by omega, by omega⟩
    · rw [rc (1 + j)]
      match j, hj with
      | 0, _ | 1, _ | 2, _ | 3, _ | 4, _ | 5, _ | 6, _ | 7, _ | 8, _ | 9, _ | 10, _ | 11, _ => rfl
      | n + 12, h => omega
    · exact (ua.cell (q := ⟨w1.heap.size, j, none⟩) (by show w1.heap.size < _; omega) id).trans ((zc j).trans (hz j hj))
    · exact (ua.frozen (q := ⟨w1.heap.size, j, none⟩) (by show w1.heap.size < _; omega) id).trans (zf j)
  exact ⟨rn.drew, hu⟩
set_option maxRecDepth 100000 in
set_option maxHeartbeats 16000000 in
theorem eval_any (os : List Opr) (ao : Option Addr) (cap : Nat) (bpc cnt byt : Int) (cx : Nat → Int) (M : MM) (p : Nat) (w : World) (hops : Ops os ao cap w) (h : HC p M w) (hM : MOk M) (hC : COk cx) (hkn : ∀ o ∈ os, 0 ≤ o.kn ∧ o.kn < 4294967296) (hdis : ∀ g, ao = some g → 0 < os.length → g.block ≠ p) :
    Calls Try.prog 21 #[.agg #[.int .u32 bpc, .int .i64 cnt, .int .i64 byt, .slice ao os.length cap], .agg #[.int .u32 (cx 0), .int .u32 (cx 1), .int .u32 (cx 2), .int .u32 (cx 3), .int .u32 (cx 4), .int .u32 (cx 5), .int .u32 (cx 6), .int .u32 (cx 7), .int .u32 (cx 8), .int .u32 (cx 9), .int .u32 (cx 10), .int .u32 (cx 11)], .pointer (some ⟨p, 0, none⟩)] w fun e w' => e = .returned (evalV (evalO os cnt byt ⟨M, cx, fun _ => 0⟩)) ∧ HC p (evalO os cnt byt ⟨M, cx, fun _ => 0⟩).1.M w' ∧ Upto (fun i => i = p) w w' := by
  have CK := Lib.hid (fun w h => check_any os ao cap bpc cnt byt w h)
  have HO := Lib.hid hops
  have HH := Lib.hid h
  have HKN := Lib.hid hkn
  have HDI := Lib.hid hdis
  have HMC := Lib.hid (show EOk ⟨M, cx, fun _ => 0⟩ from ⟨hM, hC, fun _ => ⟨Int.le_refl _, (by decide : (0 : Int) < 4294967296)⟩⟩)
  clear h hkn hdis
  obtain ⟨bb, cb, cr, xr, u0⟩ := ev_new w bpc cnt byt ao os.length cap cx
  have b0 : Below w.heap.size w ((((w.alloc (.cells #[.int .u32 bpc, .int .i64 cnt, .int .i64 byt, .slice ao os.length cap] 25)).alloc (.cells #[.int .u32 (cx 0), .int .u32 (cx 1), .int .u32 (cx 2), .int .u32 (cx 3), .int .u32 (cx 4), .int .u32 (cx 5), .int .u32 (cx 6), .int .u32 (cx 7), .int .u32 (cx 8), .int .u32 (cx 9), .int .u32 (cx 10), .int .u32 (cx 11)] 37)).alloc (.cells #[.int .u32 0, .int .u32 0, .int .u32 0, .int .u32 0, .int .u32 0, .int .u32 0, .int .u32 0, .int .u32 0, .int .u32 0, .int .u32 0, .int .u32 0, .int .u32 0] 37)).alloc (.cells #[.int .i64 0, .int .u32 0, .int .u32 0, .int .i64 0] 48)) := u0.below (Nat.le_refl _) (fun _ _ => id)
  have o1 := hops.keep b0
  have h1 := HH.out.upto u0 id
  unfold ctL at bb cb cr xr u0 h1
  go_enter Try.func21, Try.ntmps21
  go_upto_region 1 with fail
  generalize ((((w.alloc (.cells #[.int .u32 bpc, .int .i64 cnt, .int .i64 byt, .slice ao os.length cap] 25)).alloc (.cells #[.int .u32 (cx 0), .int .u32 (cx 1), .int .u32 (cx 2), .int .u32 (cx 3), .int .u32 (cx 4), .int .u32 (cx 5), .int .u32 (cx 6), .int .u32 (cx 7), .int .u32 (cx 8), .int .u32 (cx 9), .int .u32 (cx 10), .int .u32 (cx 11)] 37)).alloc (.cells #[.int .u32 0, .int .u32 0, .int .u32 0, .int .u32 0, .int .u32 0, .int .u32 0, .int .u32 0, .int .u32 0, .int .u32 0, .int .u32 0, .int .u32 0, .int .u32 0] 37)).alloc (.cells #[.int .i64 0, .int .u32 0, .int .u32 0, .int .i64 0] 48)) = WA at bb cb cr xr u0 b0 o1 h1 ⊢
  have LB := bb.l
  have HB := Lib.hid bb
  have HC1 := Lib.hid cb
  have CR := Lib.hid cr
  have XR := Lib.hid xr
  have O1 := Lib.hid o1
  have M1 := Lib.hid h1
  have U0 := Lib.hid (u0.mono (T := fun i => i = p) fun _ _ h => h.elim)
  have q0 := bb.c0
  have q1 := bb.c1
  have q2 := bb.c2
  have q3 := bb.c3
  clear bb cb cr xr u0 b0 o1 h1
  go_wp2_with fail
  refine (CK.out _ O1.out).mono ?_
  rintro e w1 ⟨rfl, b1⟩
  have u1 := Upto.of_below (S := fun _ => False) b1
  have HB := Lib.hid (HB.out.upto u1 id)
  have HC1 := Lib.hid (HC1.out.upto u1 id)
  have CR := Lib.hid (CR.out.upto u1 id)
  have XR := Lib.hid (XR.out.upto u1 id)
  have O1 := Lib.hid (O1.out.keep b1)
  have M1 := Lib.hid (HC.upto (S := fun _ => False) M1.out u1 id)
  have U0 := Lib.hid (U0.out.trans (u1.mono (T := fun i => i = p) fun _ _ h => h.elim))
  clear b1 u1 q0 q1 q2 q3
  unfold errs
  go_upto_region 2 with fail
  have hpw : p < w.heap.size := HH.out.2.2.2.2.2.2
  obtain ⟨ee, hee⟩ : ∃ ee, (chk os cnt byt).1 = ee := ⟨_, rfl⟩
  generalize (chk os cnt byt).2 = ec
  rw [hee]
  by_cases he : ee = 0
  · subst he
    obtain ⟨hl0, hl1, hop⟩ := chk_ops hee
    have ev : evalO os cnt byt ⟨M, cx, fun _ => 0⟩ = ((evN os os.length ⟨M, cx, fun _ => 0⟩).1, (evN os os.length ⟨M, cx, fun _ => 0⟩).2.1, 0) := by unfold evalO; rw [if_pos hee]
    have EV := Lib.hid ev
    have HOP := Lib.hid hop
    clear ev hop hee
    obtain ⟨L, hL⟩ : ∃ L, os.length = L := ⟨_, rfl⟩
    have HL := Lib.hid hL
    rw [hL] at hl0 hl1 EV HB ⊢
    clear hL
    have mk : ∀ w, (Instr.makeSlice 26 (.int .i64 L) (.int .i64 L)).run Try.prog w = .ok (.slice (some ⟨w.heap.size, 0, none⟩) L L) (w.alloc (.cells (Rep (.int .u32 0) L) 22)) := fun w => by
      obtain ⟨i, hi, hz, hs, hb⟩ := u32_info
      exact run_make_row 26 22 i (.int .u32 0) Try.underlying26 hi hz hs rfl .i64 .i64 L (by rw [hb]; omega) (by omega) w
    have RG : ∀ j, j < L → (Rep (.int .u32 0) L)[j]? = some (.int .u32 0) := fun j hj => Rep.get _ _ j hj
    have RG := Lib.hid RG
    generalize Rep (.int .u32 0) L = ZZ at mk RG
    obtain ⟨a0, a1, a2, a3, a4, a5, a6, a7, a8, a9, a10, a11⟩ := HC1.out.all
    have q3 := HB.out.c3
    have lb := HB.out.l
    have lc := HC1.out.l
    go_upto_region 4 with fail
    go_region
    clear a0 a1 a2 a3 a4 a5 a6 a7 a8 a9 a10 a11 q3 lb lc mk
    obtain ⟨rn, un⟩ := rn_new w1 p L cx ZZ RG.out
    have CR1 := CR.out.upto un id
    have XR1 := XR.out.upto un id
    have HB1 := HB.out.upto un id
    have M2 := HC.upto (S := fun _ => False) M1.out un id
    have U2 := U0.out.trans (un.mono (T := fun i => i = p) fun _ _ h => h.elim)
    have l1 : w.heap.size + 1 + 1 + 1 < w1.heap.size := XR.out.l
    generalize ((w1.alloc (.cells ZZ 22)).alloc (.cells #[.pointer (some ⟨p, 0, none⟩), .int .u32 (cx 0), .int .u32 (cx 1), .int .u32 (cx 2), .int .u32 (cx 3), .int .u32 (cx 4), .int .u32 (cx 5), .int .u32 (cx 6), .int .u32 (cx 7), .int .u32 (cx 8), .int .u32 (cx 9), .int .u32 (cx 10), .int .u32 (cx 11), .slice (some ⟨w1.heap.size, 0, none⟩) L L] 135)).drew = W2 at rn un CR1 XR1 HB1 M2 U2 ⊢
    generalize hT : w1.heap.size = T at rn l1 ⊢
    clear un HC1 M1 U0 HB CR XR O1 RG
    have q3 := HB1.c3
    have N2 := Lib.hid rn
    have CR := Lib.hid CR1
    have XR := Lib.hid XR1
    have M2 := Lib.hid M2
    have U2 := Lib.hid U2
    clear rn HB1 CR1 XR1
    go_upto_region 6 with fail
    have hp1 : p < T := by omega
    go_loopg [37] L (fun g i wr => ∃ (j : Nat) (s' : Evs), g = L - j ∧ j ≤ L ∧ i = .int .i64 j ∧ Hid (Rn (T + 1) T p L s'.c s'.v wr) ∧ Hid (HC p s'.M wr) ∧ Hid (EOk s') ∧ Hid (evN os L ⟨M, cx, fun _ => 0⟩ = evN os (L - j) s') ∧ Hid (CB (w.heap.size + 1 + 1) (fun _ => 0) wr) ∧ Hid (XB4 (w.heap.size + 1 + 1 + 1) 0 0 0 0 wr) ∧ Hid (Upto (fun i => i = p) w wr))
    case atStart => exact ⟨0, ⟨M, cx, fun _ => 0⟩, rfl, Nat.zero_le _, rfl, N2.out, M2.out, HMC.out, rfl, CR.out, XR.out, U2.out⟩
    case round =>
      clear N2 M2 CR XR U2 q3
      obtain ⟨j, s', hg, hj, rfl, N2, M2, ES, EE, CR, XR, U2⟩ := hrel
      have HG := Lib.hid hg
      clear hg
      by_cases hlt : j < L
      · have hlt' : (j : Int) < (L : Int) := by omega
        have hge' : (0 : Int) ≤ (j : Int) := by omega
        obtain ⟨g1, off, rfl, lg1, hcs⟩ := HO.out.2.2 (by rw [HL.out]; omega)
        have dg := HDI.out _ rfl (by rw [HL.out]; omega)
        obtain ⟨o, ho⟩ : ∃ o, os[j]? = some o := ⟨_, List.getElem?_eq_getElem (by rw [HL.out]; exact hlt)⟩
        have hcell : ∀ i v, o.cells[i]? = some v → wr.cell? ⟨g1, off + j * 7 + i, none⟩ = some v := fun i v hv => (U2.out.cell (q := ⟨g1, off + j * 7 + i, none⟩) lg1 dg).trans (hcs j o ho i v hv)
        have q0 := hcell 0 (.int .i64 o.k) rfl
        have q1 := hcell 1 (.int .i64 o.w) rfl
        have q2 := hcell 2 (.int .i64 o.a) rfl
        have q3 := hcell 3 (.int .i64 o.b) rfl
        have q4 := hcell 4 (.int .i64 o.c) rfl
        have q5 := hcell 5 (.int .u32 o.kn) rfl
        have q6 := hcell 6 (.int .i64 o.n) rfl
        rw [Nat.add_zero] at q0
        have OK := Lib.hid (opk_of (HOP.out j o ho))
        have kn := HKN.out o (List.mem_of_getElem? ho)
        have HOJ := Lib.hid ho
        have hLx : L < 9223372036854775808 := by omega
        have DO := Lib.hid (fun W h hm => do_any (A := T + 1) (T := T) (p := p) (L := L) o s' j W h hm ES.out (by omega) (by omega) hlt hLx OK.out kn.1 kn.2)
        have lN := N2.out.la
        clear hcell hcs ho
        go_upto_region 8 with fail
        have uo := (Upto.refl (fun _ => False) wr).alloc (.cells #[.int .i64 o.k, .int .i64 o.w, .int .i64 o.a, .int .i64 o.b, .int .i64 o.c, .int .u32 o.kn, .int .i64 o.n] 31)
        have ob : OB wr.heap.size o.k o.w o.a o.b o.c o.kn o.n (wr.alloc (.cells #[.int .i64 o.k, .int .i64 o.w, .int .i64 o.a, .int .i64 o.b, .int .i64 o.c, .int .u32 o.kn, .int .i64 o.n] 31)) := ⟨box_at wr _ _ 0, box_at wr _ _ 1, box_at wr _ _ 2, box_at wr _ _ 3, box_at wr _ _ 4, box_at wr _ _ 5, box_at wr _ _ 6, by simp⟩
        have N3 := N2.out.upto uo id id
        have M3 := HC.upto (S := fun _ => False) M2.out uo id
        have C3 := CR.out.upto uo id
        have X3 := XR.out.upto uo id
        have U3 := U2.out.trans (uo.mono (T := fun i => i = p) fun _ _ h => h.elim)
        generalize wr.alloc (.cells #[.int .i64 o.k, .int .i64 o.w, .int .i64 o.a, .int .i64 o.b, .int .i64 o.c, .int .u32 o.kn, .int .i64 o.n] 31) = W3 at uo ob N3 M3 C3 X3 U3 ⊢
        clear uo q0 q1 q2 q3 q4 q5 q6
        have b0 := ob.c0
        have b1 := ob.c1
        have b2 := ob.c2
        have b3 := ob.c3
        have b4 := ob.c4
        have b5 := ob.c5
        have b6 := ob.c6
        have lo := ob.l
        go_wp2_with fail
        refine (DO.out W3 N3 M3).mono ?_
        rintro e w5 ⟨ex, rfl, hex, n5, m5, u5⟩
        clear b0 b1 b2 b3 b4 b5 b6 lo ob N3 M3
        have n1 : ∀ i, RSM (T + 1) T p i → i = p ∨ T ≤ i := fun i hi => by unfold RSM at hi; omega
        have C5 := C3.upto u5 (fun hx => by have := n1 _ hx; omega)
        have X5 := X3.upto u5 (fun hx => by have := n1 _ hx; omega)
        have U5 := up_back (B := T) U3 u5 (by omega) n1
        clear u5 C3 X3 U3 n1
        have OKR := opV_ok o s' j ES.out kn.1 kn.2
        obtain ⟨r, hr⟩ : ∃ r, opV o s' j = r := ⟨_, rfl⟩
        rw [hr] at hex n5 m5 OKR ⊢
        have HR := Lib.hid hr
        clear hr DO
        obtain ⟨s2, ox⟩ := r
        dsimp only at n5 m5 OKR hex ⊢
        have hLj : os.length - j = (L - j - 1) + 1 := by have := HL.out; omega
        rcases ox with _ | x
        · have e1 : (none : Option Ext).isSome = false := rfl
          rw [e1]
          clear hex e1
          have EE2 : evN os L ⟨M, cx, fun _ => 0⟩ = evN os (L - (j + 1)) s2 := by
            have h1 := EE.out
            have h2 := evN_go hLj HOJ.out HR.out
            rw [HL.out] at h2
            exact h1.trans h2
          have EE2 := Lib.hid EE2
          have uo := (Upto.refl (fun _ => False) w5).alloc (.cells #[.int .i64 ex.k, .int .u32 ex.x, .int .u32 ex.pc, .int .i64 ex.n] 48)
          go_wp2_with fail
          go_roundg (L - (j + 1))
          case measure => have := HG.out; omega
          case rel => exact ⟨j + 1, s2, rfl, by omega, by simp, n5.upto uo id id, HC.upto (S := fun _ => False) m5 uo id, OKR, EE2.out, C5.upto uo id, X5.upto uo id, U5.trans (uo.mono fun _ _ h => h.elim)⟩
        · obtain rfl := hex x rfl
          have e1 : (some ex).isSome = true := rfl
          rw [e1]
          have ev2 : evalO os cnt byt ⟨M, cx, fun _ => 0⟩ = (s2, ex, 0) := by
            have h1 := EE.out
            have h2 := evN_out hLj HOJ.out HR.out
            rw [HL.out] at h2
            rw [EV.out, h1, h2]
          have EV2 := Lib.hid ev2
          clear ev2 hex e1 CR XR M2 U2 N2 HO HOP OK kn HOJ HR EE HL EV HDI HKN CK
          go_upto_region 10 with fail
          have uo := (Upto.refl (fun _ => False) w5).alloc (.cells #[.int .i64 ex.k, .int .u32 ex.x, .int .u32 ex.pc, .int .i64 ex.n] 48)
          have xb := XB4.new w5 ex.k ex.x ex.pc ex.n 48
          have N6 := n5.upto uo id id
          have M1 := Lib.hid (HC.upto (S := fun _ => False) m5 uo id)
          have CR := Lib.hid (C5.upto uo id)
          have XR := Lib.hid (X5.upto uo id)
          have U0 := Lib.hid (U5.trans (uo.mono (T := fun i => i = p) fun _ _ h => h.elim))
          have l5 := n5.la
          generalize w5.alloc (.cells #[.int .i64 ex.k, .int .u32 ex.x, .int .u32 ex.pc, .int .i64 ex.n] 48) = W6 at uo xb N6 M1 CR XR U0 ⊢
          clear uo n5 m5 C5 X5 U5
          have a0 : W6.cell? ⟨T + 1, 1, none⟩ = _ := N6.c 0 (by omega)
          have a1 : W6.cell? ⟨T + 1, 2, none⟩ = _ := N6.c 1 (by omega)
          have a2 : W6.cell? ⟨T + 1, 3, none⟩ = _ := N6.c 2 (by omega)
          have a3 : W6.cell? ⟨T + 1, 4, none⟩ = _ := N6.c 3 (by omega)
          have a4 : W6.cell? ⟨T + 1, 5, none⟩ = _ := N6.c 4 (by omega)
          have a5 : W6.cell? ⟨T + 1, 6, none⟩ = _ := N6.c 5 (by omega)
          have a6 : W6.cell? ⟨T + 1, 7, none⟩ = _ := N6.c 6 (by omega)
          have a7 : W6.cell? ⟨T + 1, 8, none⟩ = _ := N6.c 7 (by omega)
          have a8 : W6.cell? ⟨T + 1, 9, none⟩ = _ := N6.c 8 (by omega)
          have a9 : W6.cell? ⟨T + 1, 10, none⟩ = _ := N6.c 9 (by omega)
          have a10 : W6.cell? ⟨T + 1, 11, none⟩ = _ := N6.c 10 (by omega)
          have a11 : W6.cell? ⟨T + 1, 12, none⟩ = _ := N6.c 11 (by omega)
          have lA6 := N6.la
          have d0 := xb.c0
          have d1 := xb.c1
          have d2 := xb.c2
          have d3 := xb.c3
          have lx6 := xb.l
          clear xb N6
          have r0 := CR.out.r 0 (by omega)
          have z0 := CR.out.z 0
          have r1 := CR.out.r 1 (by omega)
          have z1 := CR.out.z 1
          have r2 := CR.out.r 2 (by omega)
          have z2 := CR.out.z 2
          have r3 := CR.out.r 3 (by omega)
          have z3 := CR.out.z 3
          have r4 := CR.out.r 4 (by omega)
          have z4 := CR.out.z 4
          have r5 := CR.out.r 5 (by omega)
          have z5 := CR.out.z 5
          have r6 := CR.out.r 6 (by omega)
          have z6 := CR.out.z 6
          have r7 := CR.out.r 7 (by omega)
          have z7 := CR.out.z 7
          have r8 := CR.out.r 8 (by omega)
          have z8 := CR.out.z 8
          have r9 := CR.out.r 9 (by omega)
          have z9 := CR.out.z 9
          have r10 := CR.out.r 10 (by omega)
          have z10 := CR.out.z 10
          have r11 := CR.out.r 11 (by omega)
          have z11 := CR.out.z 11
          have y0 := XR.out.c0
          have v0 := XR.out.z 0
          have y1 := XR.out.c1
          have v1 := XR.out.z 1
          have y2 := XR.out.c2
          have v2 := XR.out.z 2
          have y3 := XR.out.c3
          have v3 := XR.out.z 3
          have lr := CR.out.l
          have ly := XR.out.l
          go_region
          clear r0 z0 r1 z1 r2 z2 r3 z3 r4 z4 r5 z5 r6 z6 r7 z7 r8 z8 r9 z9 r10 z10 r11 z11 y0 v0 y1 v1 y2 v2 y3 v3
          clear a0 a1 a2 a3 a4 a5 a6 a7 a8 a9 a10 a11
          clear lr ly d0 d1 d2 d3 lx6 lA6
          have c8 := CR.out.put s2.c
          have v8 := up_put12 (S := fun i => i = w.heap.size + 1 + 1) (h := w.heap.size + 1 + 1) (Upto.refl _ W6) (.inl rfl) s2.c
          have u8 := up_put12 (h := w.heap.size + 1 + 1) U0.out (.inr (Nat.le_trans (Nat.le_succ _) (Nat.le_succ _))) s2.c
          have x8 := XR.out.upto v8 (by omega)
          have m8 := HC.upto (S := fun i => i = w.heap.size + 1 + 1) M1.out v8 (by omega)
          generalize ((((((((((((W6.setCell ⟨w.heap.size + 1 + 1, 0, none⟩ (.int .u32 (s2.c 0))).setCell ⟨w.heap.size + 1 + 1, 1, none⟩ (.int .u32 (s2.c 1))).setCell ⟨w.heap.size + 1 + 1, 2, none⟩ (.int .u32 (s2.c 2))).setCell ⟨w.heap.size + 1 + 1, 3, none⟩ (.int .u32 (s2.c 3))).setCell ⟨w.heap.size + 1 + 1, 4, none⟩ (.int .u32 (s2.c 4))).setCell ⟨w.heap.size + 1 + 1, 5, none⟩ (.int .u32 (s2.c 5))).setCell ⟨w.heap.size + 1 + 1, 6, none⟩ (.int .u32 (s2.c 6))).setCell ⟨w.heap.size + 1 + 1, 7, none⟩ (.int .u32 (s2.c 7))).setCell ⟨w.heap.size + 1 + 1, 8, none⟩ (.int .u32 (s2.c 8))).setCell ⟨w.heap.size + 1 + 1, 9, none⟩ (.int .u32 (s2.c 9))).setCell ⟨w.heap.size + 1 + 1, 10, none⟩ (.int .u32 (s2.c 10))).setCell ⟨w.heap.size + 1 + 1, 11, none⟩ (.int .u32 (s2.c 11))) = W8 at c8 v8 u8 x8 m8 ⊢
          have v9 := up_put4 (S := fun i => i = w.heap.size + 1 + 1 + 1) (h := w.heap.size + 1 + 1 + 1) (Upto.refl _ W8) (.inl rfl) ex.k ex.x ex.pc ex.n
          have u9 := (up_put4 (h := w.heap.size + 1 + 1 + 1) u8 (.inr (Nat.le_trans (Nat.le_succ _) (Nat.le_trans (Nat.le_succ _) (Nat.le_succ _)))) ex.k ex.x ex.pc ex.n).drew
          have x9 := x8.set ex.k ex.x ex.pc ex.n
          have c9 := c8.upto v9 (by omega)
          have m9 := HC.upto (S := fun i => i = w.heap.size + 1 + 1 + 1) m8 v9 (by omega)
          have m9 := HC.upto (S := fun _ => False) m9 (Upto.refl (fun _ => False) _).drew id
          have c9 := c9.drew
          have x9 := x9.upto (Upto.refl (fun _ => False) _).drew id
          generalize World.drew ((((W8.setCell ⟨w.heap.size + 1 + 1 + 1, 0, none⟩ (.int .i64 ex.k)).setCell ⟨w.heap.size + 1 + 1 + 1, 1, none⟩ (.int .u32 ex.x)).setCell ⟨w.heap.size + 1 + 1 + 1, 2, none⟩ (.int .u32 ex.pc)).setCell ⟨w.heap.size + 1 + 1 + 1, 3, none⟩ (.int .i64 ex.n)) = W9 at u9 x9 c9 m9 ⊢
          obtain ⟨g0, g1, g2, g3, g4, g5, g6, g7, g8, g9, g10, g11⟩ := c9.all
          have o0 := x9.c0
          have o1 := x9.c1
          have o2 := x9.c2
          have o3 := x9.c3
          go_wp2_with fail
          exact bodyPost_ret (v := .tuple #[.agg (ctL s2.c), .agg #[.int .i64 ex.k, .int .u32 ex.x, .int .u32 ex.pc, .int .i64 ex.n], .int .i64 0]) (by simp [ctL, results, Try.results21, go_sem, g0, g1, g2, g3, g4, g5, g6, g7, g8, g9, g10, g11, o0, o1, o2, o3]) rfl ⟨by rw [EV2.out]; rfl, by rw [EV2.out]; exact m9, u9⟩
      · obtain rfl : L = j := by omega
        have ev2 : evalO os cnt byt ⟨M, cx, fun _ => 0⟩ = (s', ⟨0, 0, 0, 0⟩, 0) := by
          have h1 := EE.out
          rw [Nat.sub_self] at h1
          rw [EV.out, h1]
          rfl
        have EV2 := Lib.hid ev2
        have M1 := Lib.hid M2.out
        have U0 := Lib.hid U2.out
        clear ev2 EE EV HL
        have a0 : wr.cell? ⟨T + 1, 1, none⟩ = _ := N2.out.c 0 (by omega)
        have a1 : wr.cell? ⟨T + 1, 2, none⟩ = _ := N2.out.c 1 (by omega)
        have a2 : wr.cell? ⟨T + 1, 3, none⟩ = _ := N2.out.c 2 (by omega)
        have a3 : wr.cell? ⟨T + 1, 4, none⟩ = _ := N2.out.c 3 (by omega)
        have a4 : wr.cell? ⟨T + 1, 5, none⟩ = _ := N2.out.c 4 (by omega)
        have a5 : wr.cell? ⟨T + 1, 6, none⟩ = _ := N2.out.c 5 (by omega)
        have a6 : wr.cell? ⟨T + 1, 7, none⟩ = _ := N2.out.c 6 (by omega)
        have a7 : wr.cell? ⟨T + 1, 8, none⟩ = _ := N2.out.c 7 (by omega)
        have a8 : wr.cell? ⟨T + 1, 9, none⟩ = _ := N2.out.c 8 (by omega)
        have a9 : wr.cell? ⟨T + 1, 10, none⟩ = _ := N2.out.c 9 (by omega)
        have a10 : wr.cell? ⟨T + 1, 11, none⟩ = _ := N2.out.c 10 (by omega)
        have a11 : wr.cell? ⟨T + 1, 12, none⟩ = _ := N2.out.c 11 (by omega)
        have lA6 := N2.out.la
        have r0 := CR.out.r 0 (by omega)
        have z0 := CR.out.z 0
        have r1 := CR.out.r 1 (by omega)
        have z1 := CR.out.z 1
        have r2 := CR.out.r 2 (by omega)
        have z2 := CR.out.z 2
        have r3 := CR.out.r 3 (by omega)
        have z3 := CR.out.z 3
        have r4 := CR.out.r 4 (by omega)
        have z4 := CR.out.z 4
        have r5 := CR.out.r 5 (by omega)
        have z5 := CR.out.z 5
        have r6 := CR.out.r 6 (by omega)
        have z6 := CR.out.z 6
        have r7 := CR.out.r 7 (by omega)
        have z7 := CR.out.z 7
        have r8 := CR.out.r 8 (by omega)
        have z8 := CR.out.z 8
        have r9 := CR.out.r 9 (by omega)
        have z9 := CR.out.z 9
        have r10 := CR.out.r 10 (by omega)
        have z10 := CR.out.z 10
        have r11 := CR.out.r 11 (by omega)
        have z11 := CR.out.z 11
        have y0 := XR.out.c0
        have v0 := XR.out.z 0
        have y1 := XR.out.c1
        have v1 := XR.out.z 1
        have y2 := XR.out.c2
        have v2 := XR.out.z 2
        have y3 := XR.out.c3
        have v3 := XR.out.z 3
        have lr := CR.out.l
        have ly := XR.out.l
        go_upto_region 12 with fail
        go_wp2_with fail
        clear r0 z0 r1 z1 r2 z2 r3 z3 r4 z4 r5 z5 r6 z6 r7 z7 r8 z8 r9 z9 r10 z10 r11 z11 y0 v0 y1 v1 y2 v2 y3 v3
        clear a0 a1 a2 a3 a4 a5 a6 a7 a8 a9 a10 a11
        clear lr ly lA6
        have c8 := CR.out.put s'.c
        have v8 := up_put12 (S := fun i => i = w.heap.size + 1 + 1) (h := w.heap.size + 1 + 1) (Upto.refl _ wr) (.inl rfl) s'.c
        have u8 := up_put12 (h := w.heap.size + 1 + 1) U0.out (.inr (Nat.le_trans (Nat.le_succ _) (Nat.le_succ _))) s'.c
        have x8 := XR.out.upto v8 (by omega)
        have m8 := HC.upto (S := fun i => i = w.heap.size + 1 + 1) M1.out v8 (by omega)
        generalize ((((((((((((wr.setCell ⟨w.heap.size + 1 + 1, 0, none⟩ (.int .u32 (s'.c 0))).setCell ⟨w.heap.size + 1 + 1, 1, none⟩ (.int .u32 (s'.c 1))).setCell ⟨w.heap.size + 1 + 1, 2, none⟩ (.int .u32 (s'.c 2))).setCell ⟨w.heap.size + 1 + 1, 3, none⟩ (.int .u32 (s'.c 3))).setCell ⟨w.heap.size + 1 + 1, 4, none⟩ (.int .u32 (s'.c 4))).setCell ⟨w.heap.size + 1 + 1, 5, none⟩ (.int .u32 (s'.c 5))).setCell ⟨w.heap.size + 1 + 1, 6, none⟩ (.int .u32 (s'.c 6))).setCell ⟨w.heap.size + 1 + 1, 7, none⟩ (.int .u32 (s'.c 7))).setCell ⟨w.heap.size + 1 + 1, 8, none⟩ (.int .u32 (s'.c 8))).setCell ⟨w.heap.size + 1 + 1, 9, none⟩ (.int .u32 (s'.c 9))).setCell ⟨w.heap.size + 1 + 1, 10, none⟩ (.int .u32 (s'.c 10))).setCell ⟨w.heap.size + 1 + 1, 11, none⟩ (.int .u32 (s'.c 11))) = W8 at c8 v8 u8 x8 m8 ⊢
        have v9 := up_put4 (S := fun i => i = w.heap.size + 1 + 1 + 1) (h := w.heap.size + 1 + 1 + 1) (Upto.refl _ W8) (.inl rfl) 0 0 0 0
        have u9 := (up_put4 (h := w.heap.size + 1 + 1 + 1) u8 (.inr (Nat.le_trans (Nat.le_succ _) (Nat.le_trans (Nat.le_succ _) (Nat.le_succ _)))) 0 0 0 0)
        have x9 := x8.set 0 0 0 0
        have c9 := c8.upto v9 (by omega)
        have m9 := HC.upto (S := fun i => i = w.heap.size + 1 + 1 + 1) m8 v9 (by omega)
        generalize ((((W8.setCell ⟨w.heap.size + 1 + 1 + 1, 0, none⟩ (.int .i64 0)).setCell ⟨w.heap.size + 1 + 1 + 1, 1, none⟩ (.int .u32 0)).setCell ⟨w.heap.size + 1 + 1 + 1, 2, none⟩ (.int .u32 0)).setCell ⟨w.heap.size + 1 + 1 + 1, 3, none⟩ (.int .i64 0)) = W9 at u9 x9 c9 m9 ⊢
        obtain ⟨g0, g1, g2, g3, g4, g5, g6, g7, g8, g9, g10, g11⟩ := c9.all
        have o0 := x9.c0
        have o1 := x9.c1
        have o2 := x9.c2
        have o3 := x9.c3
        exact bodyPost_ret (v := .tuple #[.agg (ctL s'.c), .agg #[.int .i64 0, .int .u32 0, .int .u32 0, .int .i64 0], .int .i64 0]) (by simp [ctL, results, Try.results21, go_sem, g0, g1, g2, g3, g4, g5, g6, g7, g8, g9, g10, g11, o0, o1, o2, o3]) rfl ⟨by rw [EV2.out]; rfl, by rw [EV2.out]; exact m9, u9⟩
  · have ev : evalO os cnt byt ⟨M, cx, fun _ => 0⟩ = (⟨M, cx, fun _ => 0⟩, ⟨0, 0, 0, 0⟩, ee) := by unfold evalO; rw [hee, if_neg he]
    have EV := Lib.hid ev
    have eb : (ee == 0) = false := by rw [beq_eq_false_iff_ne]; exact he
    have eb' : (ee != 0) = true := by rw [bne, eb]; rfl
    clear ev hee he
    obtain ⟨a0, a1, a2, a3, a4, a5, a6, a7, a8, a9, a10, a11⟩ := HC1.out.all
    have lc := HC1.out.l
    have r0 := CR.out.r 0 (by omega)
    have z0 := CR.out.z 0
    have r1 := CR.out.r 1 (by omega)
    have z1 := CR.out.z 1
    have r2 := CR.out.r 2 (by omega)
    have z2 := CR.out.z 2
    have r3 := CR.out.r 3 (by omega)
    have z3 := CR.out.z 3
    have r4 := CR.out.r 4 (by omega)
    have z4 := CR.out.z 4
    have r5 := CR.out.r 5 (by omega)
    have z5 := CR.out.z 5
    have r6 := CR.out.r 6 (by omega)
    have z6 := CR.out.z 6
    have r7 := CR.out.r 7 (by omega)
    have z7 := CR.out.z 7
    have r8 := CR.out.r 8 (by omega)
    have z8 := CR.out.z 8
    have r9 := CR.out.r 9 (by omega)
    have z9 := CR.out.z 9
    have r10 := CR.out.r 10 (by omega)
    have z10 := CR.out.z 10
    have r11 := CR.out.r 11 (by omega)
    have z11 := CR.out.z 11
    have y0 := XR.out.c0
    have v0 := XR.out.z 0
    have y1 := XR.out.c1
    have v1 := XR.out.z 1
    have y2 := XR.out.c2
    have v2 := XR.out.z 2
    have y3 := XR.out.c3
    have v3 := XR.out.z 3
    have lr := CR.out.l
    have ly := XR.out.l
    go_upto_region 3 with fail
    go_wp2_with fail
    clear r0 z0 r1 z1 r2 z2 r3 z3 r4 z4 r5 z5 r6 z6 r7 z7 r8 z8 r9 z9 r10 z10 r11 z11 y0 v0 y1 v1 y2 v2 y3 v3
    clear a0 a1 a2 a3 a4 a5 a6 a7 a8 a9 a10 a11 lr ly lc
    have c8 := CR.out.put cx
    have v8 := up_put12 (S := fun i => i = w.heap.size + 1 + 1) (h := w.heap.size + 1 + 1) (Upto.refl _ w1) (.inl rfl) cx
    have u8 := up_put12 (h := w.heap.size + 1 + 1) U0.out (.inr (Nat.le_trans (Nat.le_succ _) (Nat.le_succ _))) cx
    have x8 := XR.out.upto v8 (by omega)
    have m8 := HC.upto (S := fun i => i = w.heap.size + 1 + 1) M1.out v8 (by omega)
    generalize ((((((((((((w1.setCell ⟨w.heap.size + 1 + 1, 0, none⟩ (.int .u32 (cx 0))).setCell ⟨w.heap.size + 1 + 1, 1, none⟩ (.int .u32 (cx 1))).setCell ⟨w.heap.size + 1 + 1, 2, none⟩ (.int .u32 (cx 2))).setCell ⟨w.heap.size + 1 + 1, 3, none⟩ (.int .u32 (cx 3))).setCell ⟨w.heap.size + 1 + 1, 4, none⟩ (.int .u32 (cx 4))).setCell ⟨w.heap.size + 1 + 1, 5, none⟩ (.int .u32 (cx 5))).setCell ⟨w.heap.size + 1 + 1, 6, none⟩ (.int .u32 (cx 6))).setCell ⟨w.heap.size + 1 + 1, 7, none⟩ (.int .u32 (cx 7))).setCell ⟨w.heap.size + 1 + 1, 8, none⟩ (.int .u32 (cx 8))).setCell ⟨w.heap.size + 1 + 1, 9, none⟩ (.int .u32 (cx 9))).setCell ⟨w.heap.size + 1 + 1, 10, none⟩ (.int .u32 (cx 10))).setCell ⟨w.heap.size + 1 + 1, 11, none⟩ (.int .u32 (cx 11))) = W8 at c8 v8 u8 x8 m8 ⊢
    have v9 := up_put4 (S := fun i => i = w.heap.size + 1 + 1 + 1) (h := w.heap.size + 1 + 1 + 1) (Upto.refl _ W8) (.inl rfl) 0 0 0 0
    have u9 := (up_put4 (h := w.heap.size + 1 + 1 + 1) u8 (.inr (Nat.le_trans (Nat.le_succ _) (Nat.le_trans (Nat.le_succ _) (Nat.le_succ _)))) 0 0 0 0)
    have x9 := x8.set 0 0 0 0
    have c9 := c8.upto v9 (by omega)
    have m9 := HC.upto (S := fun i => i = w.heap.size + 1 + 1 + 1) m8 v9 (by omega)
    generalize ((((W8.setCell ⟨w.heap.size + 1 + 1 + 1, 0, none⟩ (.int .i64 0)).setCell ⟨w.heap.size + 1 + 1 + 1, 1, none⟩ (.int .u32 0)).setCell ⟨w.heap.size + 1 + 1 + 1, 2, none⟩ (.int .u32 0)).setCell ⟨w.heap.size + 1 + 1 + 1, 3, none⟩ (.int .i64 0)) = W9 at u9 x9 c9 m9 ⊢
    obtain ⟨g0, g1, g2, g3, g4, g5, g6, g7, g8, g9, g10, g11⟩ := c9.all
    have o0 := x9.c0
    have o1 := x9.c1
    have o2 := x9.c2
    have o3 := x9.c3
    exact bodyPost_ret (v := .tuple #[.agg (ctL cx), .agg #[.int .i64 0, .int .u32 0, .int .u32 0, .int .i64 0], .int .i64 ee]) (by simp [ctL, results, Try.results21, go_sem, g0, g1, g2, g3, g4, g5, g6, g7, g8, g9, g10, g11, o0, o1, o2, o3]) rfl ⟨by rw [EV.out]; rfl, by rw [EV.out]; exact m9, u9⟩
end Go.Proofs.Ytcjcmnnhmajocab.Ev
