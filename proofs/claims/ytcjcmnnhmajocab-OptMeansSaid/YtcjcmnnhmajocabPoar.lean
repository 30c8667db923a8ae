/- Lemmas. -/
import Derived.Lib.Hide
import Derived.Outline
import Derived.Deep.DeepCutAuto
import Derived.BigQuiet
import Derived.Test.YtcjcmnnhmajocabPoaa
namespace Go.Proofs.Ytcjcmnnhmajocab.Ic
open Go.RowKit
set_option linter.unusedVariables false
set_option linter.unusedSimpArgs false
theorem cell_old {w : World} {o : Obj} {g j : Nat} (h : g < w.heap.size) : (w.alloc o).cell? ⟨g, j, none⟩ = w.cell? ⟨g, j, none⟩ := World.cell?_of_block (a := ⟨g, j, none⟩) (Below.heap_alloc w o g h)
theorem cell_new (w : World) (X : Array Value) (t : TypeId) (j : Nat) : (w.alloc (.cells X t)).cell? ⟨w.heap.size, j, none⟩ = X[j]? := cell_of_row _ _ _ _ _ _ (heap_alloc_new w _)
theorem three {w w1 : World} {X Y Z : Array Value} {t u v : TypeId} (hb : Below ((w.alloc (.cells X t)).alloc (.cells Y u)).heap.size ((w.alloc (.cells X t)).alloc (.cells Y u)) w1) :
    (∀ j, (w1.alloc (.cells Z v)).cell? ⟨w.heap.size, j, none⟩ = X[j]?) ∧ (∀ j, (w1.alloc (.cells Z v)).cell? ⟨w.heap.size + 1, j, none⟩ = Y[j]?) ∧ (∀ j, (w1.alloc (.cells Z v)).cell? ⟨w1.heap.size, j, none⟩ = Z[j]?) ∧
      Below w.heap.size w (w1.alloc (.cells Z v)) ∧ w.heap.size + 2 ≤ w1.heap.size := by
  have hs : w.heap.size + 2 ≤ w1.heap.size := by have := hb.size; simp at this; omega
  refine ⟨fun j => ?_, fun j => ?_, fun j => cell_new _ _ _ _, ?_, hs⟩
  · rw [cell_old (by omega), hb.cell (p := ⟨w.heap.size, j, none⟩) (by simp; omega), cell_old (by simp), cell_new]
  · rw [cell_old (by omega), hb.cell (p := ⟨w.heap.size + 1, j, none⟩) (by simp)]
    exact (show (w.alloc (.cells X t)).heap.size = w.heap.size + 1 by simp) ▸ cell_new (w.alloc (.cells X t)) Y u j
  · exact ((((Below.refl _ _).alloc (Nat.le_refl _) _).alloc (by simp) _).trans (hb.mono (by simp; omega))).alloc (by omega) _
def e2 (ok : Bool) (s K W : Int) : Bool := !ok || (decide (W < 0) || (decide (max s 1 ≤ W) || ((K == 14 || K == 13) && W == 0)))
def e4 (k n : Bool) (cnt Kn N : Int) : Bool := (!k && Kn != 0) || ((!n && N != 0) || (decide (N < 0) || decide (cnt < N)))
def e6 (a b c g : Bool) (A B C : Int) : Bool := (!a && A != 0) || ((!b && (!g && B != 0)) || (!c && C != 0))
def e8 (g : Bool) (B : Int) : Bool := g && (decide (B < 0) || decide (4294967295 < B))
def e10 (a b c gA gB gC : Bool) : Bool := (a && !gA) || ((b && !gB) || (c && !gC))
def e12 (f more : Bool) : Bool := f && more
def oerr (x2 x4 x6 x8 x10 x12 : Bool) : Int := if x2 then 2 else if x4 then 3 else if x6 then 3 else if x8 then 3 else if x10 then 6 else if x12 then 7 else 0
theorem bc {B : Nat} {w w1 : World} (hb : Below B w w1) : ∀ b o, b < B → w1.cell? ⟨b, o, none⟩ = w.cell? ⟨b, o, none⟩ := fun b o h => hb.cell (p := ⟨b, o, none⟩) h
set_option maxRecDepth 100000 in
set_option maxHeartbeats 8000000 in
theorem one_any (os : List Opr) (ao : Option Addr) (cap : Nat) (pc cnt byt : Int) (i : Nat) (K W A B C Kn N : Int) (w : World) (hops : Ops os ao cap w) (hi : i < os.length)
    (s : Int) (a b c k n g f ok : Bool) (hs0 : 0 ≤ s) (hs1 : s < 100)
    (H : ∀ w : World, Calls Try.prog 157 #[.int .i64 K] w fun e w' => e = .returned (.tuple #[.agg #[.int .i64 s, .bool a, .bool b, .bool c, .bool k, .bool n, .bool g, .bool f], .bool ok]) ∧ Below w.heap.size w w')
    (x2 x4 x6 x8 x10 x12 : Bool) (E2 : Hid (e2 ok s K W = x2)) (E4 : Hid (e4 k n cnt Kn N = x4)) (E6 : Hid (e6 a b c g A B C = x6)) (E8 : Hid (e8 g B = x8))
    (E10 : Hid (e10 a b c (gvn os i A) (gvn os i B) (gvn os i C) = x10)) (E12 : Hid (e12 f (decide ((i : Int) < (os.length : Int) - 1)) = x12)) :
    Calls Try.prog 91 #[.agg #[.int .u32 pc, .int .i64 cnt, .int .i64 byt, .slice ao os.length cap], .int .i64 i, .agg #[.int .i64 K, .int .i64 W, .int .i64 A, .int .i64 B, .int .i64 C, .int .u32 Kn, .int .i64 N]] w fun e w' => e = .returned (.int .i64 (oerr x2 x4 x6 x8 x10 x12)) ∧ Below w.heap.size w w' := by
  have HH := Lib.hid H
  clear H
  have hL : os.length ≤ 9223372036854775807 := by have := hops.1; have h2 := hops.2.1; unfold maxLen at h2; omega
  have HO := Lib.hid hops
  clear hops
  go_enter Try.func91, Try.ntmps91
  go_upto_region 2 with (go_at_call 157; refine (HH.out _).mono ?_; rintro e w1 ⟨rfl, hb1⟩)
  obtain ⟨d3, d5, d7, hbA, hz⟩ := three (Z := #[.int .i64 s, .bool a, .bool b, .bool c, .bool k, .bool n, .bool g, .bool f]) (v := 239) hb1
  have hsz : (w1.alloc (.cells #[.int .i64 s, .bool a, .bool b, .bool c, .bool k, .bool n, .bool g, .bool f] 239)).heap.size = w1.heap.size + 1 := by simp
  generalize w1.alloc (.cells #[.int .i64 s, .bool a, .bool b, .bool c, .bool k, .bool n, .bool g, .bool f] 239) = wA at d3 d5 d7 hbA hsz ⊢
  generalize w1.heap.size = r7 at d7 hz hsz ⊢
  have HOA := Lib.hid (HO.out.keep hbA)
  generalize h3 : w.heap.size = r3 at d3 d5 hbA hz ⊢
  clear hb1 HH
  have H3 := Lib.hid h3
  clear h3
  have l3 : r3 < wA.heap.size := by omega
  have l5 : r3 + 1 < wA.heap.size := by omega
  have l7 : r7 < wA.heap.size := by omega
  clear hsz hz
  have b1 := d3 1
  have b3 := d3 3
  have bb0 := d3 0
  have bb2 := d3 2
  have o0 := d5 0
  have o1 := d5 1
  have o2 := d5 2
  have o3 := d5 3
  have o4 := d5 4
  have o5 := d5 5
  have o6 := d5 6
  have q0 := d7 0
  have q1 := d7 1
  have q2 := d7 2
  have q3 := d7 3
  have q4 := d7 4
  have q5 := d7 5
  have q6 := d7 6
  have q7 := d7 7
  clear d3 d5 d7
  simp only [List.getElem?_toArray, List.getElem?_cons_zero, List.getElem?_cons_succ] at b1 b3 bb0 bb2 o0 o1 o2 o3 o4 o5 o6 q0 q1 q2 q3 q4 q5 q6 q7
  go_cut [2, 8, 15] from 9 to 45 (fun s2 s8 s15 wx => s15 = .bool x2 ∧ wA = wx)
  case first =>
    go_wp2
    all_goals go_meet
    all_goals refine ⟨congrArg Value.bool ?_, rfl⟩
    all_goals rw [← E2.out]
    all_goals simp [e2, *]
    all_goals first | omega | (rw [Bool.eq_iff_iff]; simp [*] <;> omega) | (rw [Bool.eq_iff_iff]; simp <;> omega)
  obtain ⟨rfl, rfl⟩ := hcut
  cases x2
  case true =>
    go_wp2
    go_ret
    exact ⟨rfl, by rw [H3.out]; exact hbA⟩
  go_upto_region 4 with fail
  go_cut [46] from 47 to 76 (fun s46 wx => s46 = .bool x4 ∧ wA = wx)
  case first =>
    go_wp2
    all_goals go_meet
    all_goals refine ⟨congrArg Value.bool ?_, rfl⟩
    all_goals rw [← E4.out]
    all_goals simp [e4, *]
    all_goals first | omega | (rw [Bool.eq_iff_iff]; simp [*] <;> omega) | (rw [Bool.eq_iff_iff]; simp <;> omega)
  obtain ⟨rfl, rfl⟩ := hcut
  cases x4
  case true =>
    go_wp2
    go_ret
    exact ⟨rfl, by rw [H3.out]; exact hbA⟩
  go_upto_region 6 with fail
  go_cut [77] from 78 to 110 (fun s77 wx => s77 = .bool x6 ∧ wA = wx)
  case first =>
    go_wp2
    all_goals go_meet
    all_goals refine ⟨congrArg Value.bool ?_, rfl⟩
    all_goals rw [← E6.out]
    all_goals simp [e6, *]
    all_goals first | omega | (rw [Bool.eq_iff_iff]; simp [*] <;> omega) | (rw [Bool.eq_iff_iff]; simp <;> omega)
  obtain ⟨rfl, rfl⟩ := hcut
  cases x6
  case true =>
    go_wp2
    go_ret
    exact ⟨rfl, by rw [H3.out]; exact hbA⟩
  go_upto_region 8 with fail
  go_cut [111] from 112 to 123 (fun s111 wx => s111 = .bool x8 ∧ wA = wx)
  case first =>
    go_wp2
    all_goals go_meet
    all_goals refine ⟨congrArg Value.bool ?_, rfl⟩
    all_goals rw [← E8.out]
    all_goals simp [e8, *]
    all_goals first | omega | (rw [Bool.eq_iff_iff]; simp [*] <;> omega) | (rw [Bool.eq_iff_iff]; simp <;> omega)
  obtain ⟨rfl, rfl⟩ := hcut
  cases x8
  case true =>
    go_wp2
    go_ret
    exact ⟨rfl, by rw [H3.out]; exact hbA⟩
  go_upto_region 10 with fail
  have hoA := HOA.out
  have hr := Below.refl wA.heap.size wA
  have hii : i ≤ os.length := by omega
  go_cut [124] from 125 to 158 (fun s124 wx => s124 = .bool x10 ∧ Below wA.heap.size wA wx)
  case first =>
    go_wp2_with (go_at_call 158; refine (given_any os ao cap pc cnt byt i _ _ (by assumption) hii).mono ?_; rintro e w2 ⟨rfl, hb2⟩; have ho2 : Ops os ao cap w2 := Ops.keep (by assumption) hb2; have hbT : Below wA.heap.size wA w2 := Kt.chain (by assumption) hb2; have hcT := bc hbT)
    all_goals go_meet
    all_goals refine ⟨congrArg Value.bool ?_, by assumption⟩
    all_goals rw [← E10.out]
    all_goals simp [e10, *]
  obtain ⟨rfl, hbx⟩ := hcut
  cases x10
  case true =>
    go_wp2
    go_ret
    exact ⟨rfl, by rw [H3.out]; exact hbA.trans (hbx.mono (by omega))⟩
  have hbF := hbA.trans (hbx.mono (by omega))
  clear hoA hr HOA
  rw [← bc hbx _ _ l3] at b3
  rw [← bc hbx _ _ l7] at q7
  clear hbx b1 bb0 bb2 o0 o1 o2 o3 o4 o5 o6 q0 q1 q2 q3 q4 q5 q6
  go_upto_region 12 with fail
  go_cut [159] from 160 to 169 (fun s159 wx => s159 = .bool x12 ∧ wc = wx)
  case first =>
    go_wp2
    all_goals go_meet
    all_goals refine ⟨congrArg Value.bool ?_, rfl⟩
    all_goals rw [← E12.out]
    all_goals simp [e12, *]
    all_goals first | omega | (rw [Bool.eq_iff_iff]; simp [*] <;> omega) | (rw [Bool.eq_iff_iff]; simp <;> omega)
  obtain ⟨rfl, rfl⟩ := hcut
  cases x12
  case true =>
    go_wp2
    go_ret
    exact ⟨rfl, by rw [H3.out]; exact hbF⟩
  case false =>
    go_wp2
    go_ret
    exact ⟨rfl, by rw [H3.out]; exact hbF⟩
end Go.Proofs.Ytcjcmnnhmajocab.Ic
