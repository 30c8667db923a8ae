/- ir.Eval: what a block does. -/
import Derived.LoopN
import Derived.Outline
import Derived.Deep.QuietTactic
import Derived.BigQuiet
import Derived.Deep.LoopGhost
import Derived.Test.YtcjcmnnhmajocabPoai
import Derived.Test.YtcjcmnnhmajocabPobs
namespace Go.Proofs.Ytcjcmnnhmajocab.Ev
open Go.RowKit Kt Me Fl Ic
set_option linter.unusedVariables false
set_option linter.unusedSimpArgs false
theorem u32_info : ∃ i, Try.prog.info? 22 = some i ∧ i.zero = some (.int .u32 0) ∧ i.size = 1 ∧ i.bytes = 4 := by
  have h : (Try.prog.info? 22).map (fun i => (i.zero, i.size, i.bytes)) = some (some (.int .u32 0), 1, 4) := by kernel_rfl
  obtain ⟨i, hi, hz⟩ := Option.map_eq_some_iff.1 h
  simp only [Prod.mk.injEq] at hz
  exact ⟨i, hi, hz.1, hz.2.1, hz.2.2⟩
/-- what Eval answers -/
def evalO (os : List Opr) (cnt byt : Int) (s : Evs) : Evs × Ext × Int :=
  if (chk os cnt byt).1 = 0 then ((evN os os.length s).1, (evN os os.length s).2.1, 0) else (s, ⟨0, 0, 0, 0⟩, (chk os cnt byt).1)
def evalV (r : Evs × Ext × Int) : Value := .tuple #[.agg (ctL r.1.c), .agg #[.int .i64 r.2.1.k, .int .u32 r.2.1.x, .int .u32 r.2.1.pc, .int .i64 r.2.1.n], .int .i64 r.2.2]
/-- a block in a box -/
structure BB (h : Nat) (bpc cnt byt : Int) (ao : Option Addr) (L cap : Nat) (W : World) : Prop where
  c0 : W.cell? ⟨h, 0, none⟩ = some (.int .u32 bpc)
  c1 : W.cell? ⟨h, 1, none⟩ = some (.int .i64 cnt)
  c2 : W.cell? ⟨h, 2, none⟩ = some (.int .i64 byt)
  c3 : W.cell? ⟨h, 3, none⟩ = some (.slice ao L cap)
  l : h < W.heap.size
theorem BB.upto {S : Nat → Prop} {h : Nat} {bpc cnt byt : Int} {ao : Option Addr} {L cap : Nat} {W W' : World} (a : BB h bpc cnt byt ao L cap W) (u : Upto S W W') (hs : ¬ S h) : BB h bpc cnt byt ao L cap W' :=
  ⟨(u.cell (q := ⟨h, 0, none⟩) a.l hs).trans a.c0, (u.cell (q := ⟨h, 1, none⟩) a.l hs).trans a.c1, (u.cell (q := ⟨h, 2, none⟩) a.l hs).trans a.c2, (u.cell (q := ⟨h, 3, none⟩) a.l hs).trans a.c3, Nat.lt_of_lt_of_le a.l u.size⟩
theorem ev_new (w : World) (bpc cnt byt : Int) (ao : Option Addr) (L cap : Nat) (cx : Nat → Int) :
    BB w.heap.size bpc cnt byt ao L cap ((((w.alloc (.cells #[.int .u32 bpc, .int .i64 cnt, .int .i64 byt, .slice ao L cap] 25)).alloc (.cells (ctL cx) 37)).alloc (.cells (ctL fun _ => 0) 37)).alloc (.cells #[.int .i64 0, .int .u32 0, .int .u32 0, .int .i64 0] 48)) ∧ CB (w.heap.size + 1) cx ((((w.alloc (.cells #[.int .u32 bpc, .int .i64 cnt, .int .i64 byt, .slice ao L cap] 25)).alloc (.cells (ctL cx) 37)).alloc (.cells (ctL fun _ => 0) 37)).alloc (.cells #[.int .i64 0, .int .u32 0, .int .u32 0, .int .i64 0] 48)) ∧ CB (w.heap.size + 1 + 1) (fun _ => 0) ((((w.alloc (.cells #[.int .u32 bpc, .int .i64 cnt, .int .i64 byt, .slice ao L cap] 25)).alloc (.cells (ctL cx) 37)).alloc (.cells (ctL fun _ => 0) 37)).alloc (.cells #[.int .i64 0, .int .u32 0, .int .u32 0, .int .i64 0] 48)) ∧ XB4 (w.heap.size + 1 + 1 + 1) 0 0 0 0 ((((w.alloc (.cells #[.int .u32 bpc, .int .i64 cnt, .int .i64 byt, .slice ao L cap] 25)).alloc (.cells (ctL cx) 37)).alloc (.cells (ctL fun _ => 0) 37)).alloc (.cells #[.int .i64 0, .int .u32 0, .int .u32 0, .int .i64 0] 48)) ∧ Upto (fun _ => False) w ((((w.alloc (.cells #[.int .u32 bpc, .int .i64 cnt, .int .i64 byt, .slice ao L cap] 25)).alloc (.cells (ctL cx) 37)).alloc (.cells (ctL fun _ => 0) 37)).alloc (.cells #[.int .i64 0, .int .u32 0, .int .u32 0, .int .i64 0] 48)) := by
  have hu := ((((Upto.refl (fun _ => False) w).alloc (.cells #[.int .u32 bpc, .int .i64 cnt, .int .i64 byt, .slice ao L cap] 25)).alloc (.cells (ctL cx) 37)).alloc (.cells (ctL fun _ => 0) 37)).alloc (.cells #[.int .i64 0, .int .u32 0, .int .u32 0, .int .i64 0] 48)
  have bb : BB w.heap.size bpc cnt byt ao L cap (w.alloc (.cells #[.int .u32 bpc, .int .i64 cnt, .int .i64 byt, .slice ao L cap] 25)) := ⟨box_at w _ _ 0, box_at w _ _ 1, box_at w _ _ 2, box_at w _ _ 3, by simp⟩
  have e1 : (w.alloc (.cells #[.int .u32 bpc, .int .i64 cnt, .int .i64 byt, .slice ao L cap] 25)).heap.size = w.heap.size + 1 := by simp
  generalize w.alloc (.cells #[.int .u32 bpc, .int .i64 cnt, .int .i64 byt, .slice ao L cap] 25) = W1 at bb e1 hu ⊢
  have c2 := CB.new W1 cx 37
  have e2 : (W1.alloc (.cells (ctL cx) 37)).heap.size = w.heap.size + 1 + 1 := by simp [e1]
  have u2 := (Upto.refl (fun _ => False) W1).alloc (.cells (ctL cx) 37)
  rw [e1] at c2
  generalize W1.alloc (.cells (ctL cx) 37) = W2 at c2 e2 u2 hu ⊢
  have c3 := CB.new W2 (fun _ => 0) 37
  have e3 : (W2.alloc (.cells (ctL fun _ => 0) 37)).heap.size = w.heap.size + 1 + 1 + 1 := by simp [e2]
  have u3 := (Upto.refl (fun _ => False) W2).alloc (.cells (ctL fun _ => 0) 37)
  rw [e2] at c3
  generalize W2.alloc (.cells (ctL fun _ => 0) 37) = W3 at c3 e3 u3 hu ⊢
  have x4 := XB4.new W3 0 0 0 0 48
  have u4 := (Upto.refl (fun _ => False) W3).alloc (.cells #[.int .i64 0, .int .u32 0, .int .u32 0, .int .i64 0] 48)
  rw [e3] at x4
  exact ⟨((bb.upto u2 id).upto u3 id).upto u4 id, (c2.upto u3 id).upto u4 id, c3.upto u4 id, x4, hu⟩
theorem evN_go {os : List Opr} {m j : Nat} {o : Opr} {s s' : Evs} (hm : os.length - j = m + 1) (ho : os[j]? = some o) (h : opV o s j = (s', none)) : evN os (os.length - j) s = evN os (os.length - (j + 1)) s' := by
  have hj : os.length - (m + 1) = j := by omega
  rw [hm, show os.length - (j + 1) = m by omega, evN, hj]
  simp only [ho, h]
theorem evN_out {os : List Opr} {m j : Nat} {o : Opr} {s s' : Evs} {x : Ext} (hm : os.length - j = m + 1) (ho : os[j]? = some o) (h : opV o s j = (s', some x)) : evN os (os.length - j) s = (s', x, (j : Int)) := by
  have hj : os.length - (m + 1) = j := by omega
  rw [hm, evN, hj]
  simp only [ho, h]
theorem rn_new (w1 : World) (p L : Nat) (cx : Nat → Int) (ZZ : Array Value) (hz : ∀ j, j < L → ZZ[j]? = some (.int .u32 0)) :
    Rn (w1.heap.size + 1) w1.heap.size p L cx (fun _ => 0) ((w1.alloc (.cells ZZ 22)).alloc (.cells #[.pointer (some ⟨p, 0, none⟩), .int .u32 (cx 0), .int .u32 (cx 1), .int .u32 (cx 2), .int .u32 (cx 3), .int .u32 (cx 4), .int .u32 (cx 5), .int .u32 (cx 6), .int .u32 (cx 7), .int .u32 (cx 8), .int .u32 (cx 9), .int .u32 (cx 10), .int .u32 (cx 11), .slice (some ⟨w1.heap.size, 0, none⟩) L L] 135)).drew ∧
    Upto (fun _ => False) w1 ((w1.alloc (.cells ZZ 22)).alloc (.cells #[.pointer (some ⟨p, 0, none⟩), .int .u32 (cx 0), .int .u32 (cx 1), .int .u32 (cx 2), .int .u32 (cx 3), .int .u32 (cx 4), .int .u32 (cx 5), .int .u32 (cx 6), .int .u32 (cx 7), .int .u32 (cx 8), .int .u32 (cx 9), .int .u32 (cx 10), .int .u32 (cx 11), .slice (some ⟨w1.heap.size, 0, none⟩) L L] 135)).drew := by
  have hu := (((Upto.refl (fun _ => False) w1).alloc (.cells ZZ 22)).alloc (.cells #[.pointer (some ⟨p, 0, none⟩), .int .u32 (cx 0), .int .u32 (cx 1), .int .u32 (cx 2), .int .u32 (cx 3), .int .u32 (cx 4), .int .u32 (cx 5), .int .u32 (cx 6), .int .u32 (cx 7), .int .u32 (cx 8), .int .u32 (cx 9), .int .u32 (cx 10), .int .u32 (cx 11), .slice (some ⟨w1.heap.size, 0, none⟩) L L] 135)).drew
  have zc : ∀ j, (w1.alloc (.cells ZZ 22)).cell? ⟨w1.heap.size, j, none⟩ = ZZ[j]? := fun j => box_at w1 _ _ j
  have zf : ∀ j, (w1.alloc (.cells ZZ 22)).frozen? ⟨w1.heap.size, j, none⟩ = false := fun j => fz_new w1 _ _ j
  have e1 : (w1.alloc (.cells ZZ 22)).heap.size = w1.heap.size + 1 := by simp
  generalize w1.alloc (.cells ZZ 22) = Wa at zc zf e1 hu ⊢
  have rc : ∀ j, (Wa.alloc (.cells #[.pointer (some ⟨p, 0, none⟩), .int .u32 (cx 0), .int .u32 (cx 1), .int .u32 (cx 2), .int .u32 (cx 3), .int .u32 (cx 4), .int .u32 (cx 5), .int .u32 (cx 6), .int .u32 (cx 7), .int .u32 (cx 8), .int .u32 (cx 9), .int .u32 (cx 10), .int .u32 (cx 11), .slice (some ⟨w1.heap.size, 0, none⟩) L L] 135)).cell? ⟨w1.heap.size + 1, j, none⟩ = (#[.pointer (some ⟨p, 0, none⟩), .int .u32 (cx 0), .int .u32 (cx 1), .int .u32 (cx 2), .int .u32 (cx 3), .int .u32 (cx 4), .int .u32 (cx 5), .int .u32 (cx 6), .int .u32 (cx 7), .int .u32 (cx 8), .int .u32 (cx 9), .int .u32 (cx 10), .int .u32 (cx 11), .slice (some ⟨w1.heap.size, 0, none⟩) L L] : Array Value)[j]? := fun j => by rw [← e1]; exact box_at Wa _ _ j
  have rf : ∀ j, (Wa.alloc (.cells #[.pointer (some ⟨p, 0, none⟩), .int .u32 (cx 0), .int .u32 (cx 1), .int .u32 (cx 2), .int .u32 (cx 3), .int .u32 (cx 4), .int .u32 (cx 5), .int .u32 (cx 6), .int .u32 (cx 7), .int .u32 (cx 8), .int .u32 (cx 9), .int .u32 (cx 10), .int .u32 (cx 11), .slice (some ⟨w1.heap.size, 0, none⟩) L L] 135)).frozen? ⟨w1.heap.size + 1, j, none⟩ = false := fun j => by rw [← e1]; exact fz_new Wa _ _ j
  have ua := (Upto.refl (fun _ => False) Wa).alloc (.cells #[.pointer (some ⟨p, 0, none⟩), .int .u32 (cx 0), .int .u32 (cx 1), .int .u32 (cx 2), .int .u32 (cx 3), .int .u32 (cx 4), .int .u32 (cx 5), .int .u32 (cx 6), .int .u32 (cx 7), .int .u32 (cx 8), .int .u32 (cx 9), .int .u32 (cx 10), .int .u32 (cx 11), .slice (some ⟨w1.heap.size, 0, none⟩) L L] 135)
  have e2 : (Wa.alloc (.cells #[.pointer (some ⟨p, 0, none⟩), .int .u32 (cx 0), .int .u32 (cx 1), .int .u32 (cx 2), .int .u32 (cx 3), .int .u32 (cx 4), .int .u32 (cx 5), .int .u32 (cx 6), .int .u32 (cx 7), .int .u32 (cx 8), .int .u32 (cx 9), .int .u32 (cx 10), .int .u32 (cx 11), .slice (some ⟨w1.heap.size, 0, none⟩) L L] 135)).heap.size = w1.heap.size + 1 + 1 := by simp [e1]
  have rn : Rn (w1.heap.size + 1) w1.heap.size p L cx (fun _ => 0) (Wa.alloc (.cells #[.pointer (some ⟨p, 0, none⟩), .int .u32 (cx 0), .int .u32 (cx 1), .int .u32 (cx 2), .int .u32 (cx 3), .int .u32 (cx 4), .int .u32 (cx 5), .int .u32 (cx 6), .int .u32 (cx 7), .int .u32 (cx 8), .int .u32 (cx 9), .int .u32 (cx 10), .int .u32 (cx 11), .slice (some ⟨w1.heap.size, 0, none⟩) L L] 135)) := by
    refine ⟨rc 0, fun j hj => ?_, rc 13, fun j hj => ?_, rf, fun j => ?_, by omega, by omega, by omega⟩
    · rw [rc (1 + j)]
      match j, hj with
      | 0, _ | 1, _ | 2, _ | 3, _ | 4, _ | 5, _ | 6, _ | 7, _ | 8, _ | 9, _ | 10, _ | 11, _ => rfl
      | n + 12, h => omega
    · exact (ua.cell (q := ⟨w1.heap.size, j, none⟩) (by show w1.heap.size < _; omega) id).trans ((zc j).trans (hz j hj))
    · exact (ua.frozen (q := ⟨w1.heap.size, j, none⟩) (by show w1.heap.size < _; omega) id).trans (zf j)
  exact ⟨rn.drew, hu⟩
end Go.Proofs.Ytcjcmnnhmajocab.Ev
