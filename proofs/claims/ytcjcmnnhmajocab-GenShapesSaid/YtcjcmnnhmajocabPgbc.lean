/- gen: gives. -/
import Derived.Test.YtcjcmnnhmajocabPgaz
import Derived.Test.YtcjcmnnhmajocabPgbb
namespace Go.Proofs.Ytcjcmnnhmajocab.Gn
open Go.RowKit Kt Ic Hr Ho Me
set_option linter.unusedVariables false
set_option linter.unusedSimpArgs false
variable {K : Gk} {g : Gm}
/-- the two boxes of a call -/
theorem boxes (w : World) (a : GM K g w) (X Y : Array Value) (t u : TypeId) : GM (K.add w.heap.size) g ((w.alloc (.cells X t)).alloc (.cells Y u)) ∧ Bx w.heap.size X ((w.alloc (.cells X t)).alloc (.cells Y u)) ∧ Bx (w.heap.size + 1) Y ((w.alloc (.cells X t)).alloc (.cells Y u)) ∧ Upto (SG (K.add w.heap.size)) w ((w.alloc (.cells X t)).alloc (.cells Y u)) := by
  have u0 := ((Upto.refl (fun _ => False) w).alloc (.cells X t)).alloc (.cells Y u)
  have b := Bx.new (w.alloc (.cells X t)) Y u
  rw [show (w.alloc (.cells X t)).heap.size = w.heap.size + 1 by simp] at b
  exact ⟨a.add u0 (by simp), (Bx.new w X t).upto ((Upto.refl (fun _ => False) _).alloc (.cells Y u)) id, b, u0.mono fun _ _ h => h.elim⟩
set_option maxRecDepth 100000 in
set_option maxHeartbeats 16000000 in
theorem gives_const (i : Nat) (ow oa ob oc kn n r0 r1 r2 : Int) (w : World) (a : GM K g w) :
    Calls Try.prog 96 #[.pointer (some ⟨K.h, 0, none⟩), .int .i64 i, .agg #[.int .i64 1, .int .i64 ow, .int .i64 oa, .int .i64 ob, .int .i64 oc, .int .u32 kn, .int .i64 n], .agg #[.int .i64 r0, .int .i64 r1, .int .i64 r2]] w fun e w' => e = .returned (.tuple #[]) ∧ GM K g w' ∧ Upto (SG K) w w' := by
  have A := Lib.hid ((a.alloc (.cells #[.int .i64 1, .int .i64 ow, .int .i64 oa, .int .i64 ob, .int .i64 oc, .int .u32 kn, .int .i64 n] 31)).alloc (.cells #[.int .i64 r0, .int .i64 r1, .int .i64 r2] 175))
  have U := Lib.hid (((Upto.refl (SG K) w).alloc (.cells #[.int .i64 1, .int .i64 ow, .int .i64 oa, .int .i64 ob, .int .i64 oc, .int .u32 kn, .int .i64 n] 31)).alloc (.cells #[.int .i64 r0, .int .i64 r1, .int .i64 r2] 175))
  clear a
  go_enter Try.func96, Try.ntmps96
  go_wp2
  exact bodyPost_ret (v := .tuple #[]) (by simp [results, Try.results96, go_sem]) rfl ⟨rfl, A.out, U.out⟩
set_option maxRecDepth 100000 in
set_option maxHeartbeats 16000000 in
theorem gives_2 (i d : Nat) (ow oa ob oc kn n r0 r1 r2 : Int) (w : World) (a : GM K g w) (hw0 : 0 ≤ ow) (hw1 : ow < 16) (hR : K.R ≤ 16) (hh : ∀ r, r < 16 → g.holds r < K.os.length) (hf : emp (g.unpin.clr K.R) 0 K.R = none → ∃ b, FOk K.os K.R (g.unpin.clr K.R) b) (hn : (wds g.xs).length ≤ 999990)
    (hd : g.unpin.plR K.R = d) (d16 : d < 16) (hi : i < K.os.length) (hx : COk ⟨6, d, r0, r1, r2, ow, 0, 0⟩) :
    Calls Try.prog 96 #[.pointer (some ⟨K.h, 0, none⟩), .int .i64 i, .agg #[.int .i64 2, .int .i64 ow, .int .i64 oa, .int .i64 ob, .int .i64 oc, .int .u32 kn, .int .i64 n], .agg #[.int .i64 r0, .int .i64 r1, .int .i64 r2]] w fun e w' => e = .returned (.tuple #[]) ∧ GM K (((g.unpin.plG K.os K.R).put ⟨6, d, r0, r1, r2, ow, 0, 0⟩).has d i) w' ∧ Upto (SG K) w w' := by
  obtain ⟨a1, bo, br, u1⟩ := boxes w a #[.int .i64 2, .int .i64 ow, .int .i64 oa, .int .i64 ob, .int .i64 oc, .int .u32 kn, .int .i64 n] #[.int .i64 r0, .int .i64 r1, .int .i64 r2] 31 175
  have hs := slice_run K.h
  have hcl : (Builtin.clear_ #[79] 0 #[.slice (some ⟨K.h, 23, none⟩) 16 16]).run Try.prog ((w.alloc (.cells #[.int .i64 2, .int .i64 ow, .int .i64 oa, .int .i64 ob, .int .i64 oc, .int .u32 kn, .int .i64 n] 31)).alloc (.cells #[.int .i64 r0, .int .i64 r1, .int .i64 r2] 175)) = .ok (.tuple #[]) (((w.alloc (.cells #[.int .i64 2, .int .i64 ow, .int .i64 oa, .int .i64 ob, .int .i64 oc, .int .u32 kn, .int .i64 n] 31)).alloc (.cells #[.int .i64 r0, .int .i64 r1, .int .i64 r2] 175)).setCells K.h 23 (fls 16)) := clear_run (K := K.add w.heap.size) _ a1 0
  have lB := a.lb
  have lh := a.lh
  have lv := a.lv
  have PL : Hid (∀ w2, GM (K.add w.heap.size) g.unpin w2 → Calls Try.prog 161 #[.pointer (some ⟨K.h, 0, none⟩)] w2 fun e w' => e = .returned (.int .i64 (g.unpin.plR K.R)) ∧ GM (K.add w.heap.size) (g.unpin.plG K.os K.R) w' ∧ Upto (SG (K.add w.heap.size)) w2 w') := fun w2 a => place_any (K := K.add w.heap.size) (g := g.unpin) w2 a hR hh hf (show (wds g.unpin.xs).length ≤ 1000000 from Nat.le_trans hn (by decide))
  rw [hd] at PL
  have hgn : (wds (g.unpin.plG K.os K.R).xs).length ≤ 1000000 := by
    have h1 : (wds (g.unpin.plG K.os K.R).xs).length ≤ (wds g.xs).length + 3 := by
      unfold Gm.plG
      split
      · rw [clr_xs]; exact Nat.le_add_right _ _
      · exact Nat.le_trans (fre_len _ _ _) (by rw [clr_xs]; exact Nat.le_refl _)
    omega
  generalize g.unpin.plG K.os K.R = g2 at PL hgn ⊢
  have PU : Hid (∀ w2, GM (K.add w.heap.size) g2 w2 → Calls Try.prog 47 #[.pointer (some ⟨K.h, 0, none⟩), .agg #[.int .i64 6, .int .i64 d, .int .i64 r0, .int .i64 r1, .int .i64 r2, .int .i64 ow, .int .u32 0, .int .u32 0]] w2 fun e w' => e = .returned (.tuple #[]) ∧ GM (K.add w.heap.size) (g2.put ⟨6, d, r0, r1, r2, ow, 0, 0⟩) w' ∧ Upto (SG (K.add w.heap.size)) w2 w') := fun w2 a => put_any (K := K.add w.heap.size) (g := g2) ⟨6, d, r0, r1, r2, ow, 0, 0⟩ w2 a hx hgn
  have HA : Hid (∀ w2, GM (K.add w.heap.size) (g2.put ⟨6, d, r0, r1, r2, ow, 0, 0⟩) w2 → Calls Try.prog 160 #[.pointer (some ⟨K.h, 0, none⟩), .int .i64 d, .int .i64 i] w2 fun e w' => e = .returned (.tuple #[]) ∧ GM (K.add w.heap.size) ((g2.put ⟨6, d, r0, r1, r2, ow, 0, 0⟩).has d i) w' ∧ Upto (SG (K.add w.heap.size)) w2 w') := fun w2 a => has_any (K := K.add w.heap.size) (g := g2.put ⟨6, d, r0, r1, r2, ow, 0, 0⟩) d i w2 a d16 hi
  generalize g2.put ⟨6, d, r0, r1, r2, ow, 0, 0⟩ = g3 at PU HA ⊢
  generalize g3.has d i = g4 at HA ⊢
  have A := Lib.hid a1
  have BO := Lib.hid bo
  have BR := Lib.hid br
  have U := Lib.hid u1
  have l := a1.l
  have o0 := bo.2.1 0 _ rfl
  have HH := Lib.hid hh
  clear a1 bo br u1 a hd hx hgn hf hn hR hh
  go_enter Try.func96, Try.ntmps96
  go_upto_region 3 with fail
  have A2 := Lib.hid A.out.unpin
  have BO2 := Lib.hid (BO.out.upto (Upto.setCells (S := fun i => i = K.h) rfl (fls 16) _ 23 (Upto.refl _ _)) (by omega))
  have BR2 := Lib.hid (BR.out.upto (Upto.setCells (S := fun i => i = K.h) rfl (fls 16) _ 23 (Upto.refl _ _)) (by omega))
  have U2 := Lib.hid (Upto.setCells (p := K.h) (S := SG (K.add w.heap.size)) (.inl rfl) (fls 16) _ 23 U.out)
  have A2 : Hid (GM (K.add w.heap.size) g.unpin (World.setCells _ K.h 23 (fls 16))) := A2
  generalize World.setCells _ K.h 23 (fls 16) = w1 at A2 BO2 BR2 U2 ⊢
  clear hs hcl o0 A BO BR U l
  go_upto_region 4 with (go_at_call 161; refine (PL.out _ A2.out).mono ?_; rintro e w2 ⟨rfl, a3, u3⟩; have A3 := Lib.hid a3; have BO3 := Lib.hid (BO2.out.upto u3 (SG.box lh lv lB ⟨Nat.le_refl _, by omega⟩)); have BR3 := Lib.hid (BR2.out.upto u3 (SG.box lh lv lB ⟨by omega, by omega⟩)); have U3 := Lib.hid (U2.out.trans u3); clear a3 u3)
  clear PL A2 BO2 BR2 U2
  have q0 := BR3.out.2.1 0 _ rfl
  have q1 := BR3.out.2.1 1 _ rfl
  have q2 := BR3.out.2.1 2 _ rfl
  have l1 := BR3.out.1
  go_upto_region 5 with fail
  clear q0 q1 q2
  have sz : w.heap.size < w2.heap.size := by have := BO3.out.1; omega
  have o0 := BO3.out.2.1 0 _ rfl
  have o1 := BO3.out.2.1 1 _ rfl
  have o5 := BO3.out.2.1 5 _ rfl
  have o6 := BO3.out.2.1 6 _ rfl
  go_upto_region 7 with fail
  go_region
  go_wp2_with (first
    | (go_at_call 47; refine (PU.out _ (A3.out.alloc _).drew).mono ?_; rintro e w4 ⟨rfl, a4, u4⟩; have A4 := Lib.hid a4; have U4 := Lib.hid ((U3.out.alloc _).drew.trans u4); clear a4 u4)
    | (go_at_call 160; refine (HA.out _ A4.out).mono ?_; rintro e w5 ⟨rfl, a5, u5⟩; have U5 := Lib.hid (U4.out.trans u5)))
  go_end0
  exact ⟨rfl, a5.drop, SG.drop U5.out⟩
set_option maxRecDepth 100000 in
set_option maxHeartbeats 16000000 in
theorem gives_17 (i d : Nat) (ow oa ob oc kn n r0 r1 r2 : Int) (w : World) (a : GM K g w) (hw0 : 0 ≤ ow) (hw1 : ow < 16) (hR : K.R ≤ 16) (hh : ∀ r, r < 16 → g.holds r < K.os.length) (hf : emp (g.unpin.clr K.R) 0 K.R = none → ∃ b, FOk K.os K.R (g.unpin.clr K.R) b) (hn : (wds g.xs).length ≤ 999990)
    (hd : g.unpin.plR K.R = d) (d16 : d < 16) (hi : i < K.os.length) (hx : COk ⟨97, d, r0, r1, r2, 0, 0, 0⟩) :
    Calls Try.prog 96 #[.pointer (some ⟨K.h, 0, none⟩), .int .i64 i, .agg #[.int .i64 17, .int .i64 ow, .int .i64 oa, .int .i64 ob, .int .i64 oc, .int .u32 kn, .int .i64 n], .agg #[.int .i64 r0, .int .i64 r1, .int .i64 r2]] w fun e w' => e = .returned (.tuple #[]) ∧ GM K (((g.unpin.plG K.os K.R).put ⟨97, d, r0, r1, r2, 0, 0, 0⟩).has d i) w' ∧ Upto (SG K) w w' := by
  obtain ⟨a1, bo, br, u1⟩ := boxes w a #[.int .i64 17, .int .i64 ow, .int .i64 oa, .int .i64 ob, .int .i64 oc, .int .u32 kn, .int .i64 n] #[.int .i64 r0, .int .i64 r1, .int .i64 r2] 31 175
  have hs := slice_run K.h
  have hcl : (Builtin.clear_ #[79] 0 #[.slice (some ⟨K.h, 23, none⟩) 16 16]).run Try.prog ((w.alloc (.cells #[.int .i64 17, .int .i64 ow, .int .i64 oa, .int .i64 ob, .int .i64 oc, .int .u32 kn, .int .i64 n] 31)).alloc (.cells #[.int .i64 r0, .int .i64 r1, .int .i64 r2] 175)) = .ok (.tuple #[]) (((w.alloc (.cells #[.int .i64 17, .int .i64 ow, .int .i64 oa, .int .i64 ob, .int .i64 oc, .int .u32 kn, .int .i64 n] 31)).alloc (.cells #[.int .i64 r0, .int .i64 r1, .int .i64 r2] 175)).setCells K.h 23 (fls 16)) := clear_run (K := K.add w.heap.size) _ a1 0
  have lB := a.lb
  have lh := a.lh
  have lv := a.lv
  have PL : Hid (∀ w2, GM (K.add w.heap.size) g.unpin w2 → Calls Try.prog 161 #[.pointer (some ⟨K.h, 0, none⟩)] w2 fun e w' => e = .returned (.int .i64 (g.unpin.plR K.R)) ∧ GM (K.add w.heap.size) (g.unpin.plG K.os K.R) w' ∧ Upto (SG (K.add w.heap.size)) w2 w') := fun w2 a => place_any (K := K.add w.heap.size) (g := g.unpin) w2 a hR hh hf (show (wds g.unpin.xs).length ≤ 1000000 from Nat.le_trans hn (by decide))
  rw [hd] at PL
  have hgn : (wds (g.unpin.plG K.os K.R).xs).length ≤ 1000000 := by
    have h1 : (wds (g.unpin.plG K.os K.R).xs).length ≤ (wds g.xs).length + 3 := by
      unfold Gm.plG
      split
      · rw [clr_xs]; exact Nat.le_add_right _ _
      · exact Nat.le_trans (fre_len _ _ _) (by rw [clr_xs]; exact Nat.le_refl _)
    omega
  generalize g.unpin.plG K.os K.R = g2 at PL hgn ⊢
  have PU : Hid (∀ w2, GM (K.add w.heap.size) g2 w2 → Calls Try.prog 47 #[.pointer (some ⟨K.h, 0, none⟩), .agg #[.int .i64 97, .int .i64 d, .int .i64 r0, .int .i64 r1, .int .i64 r2, .int .i64 0, .int .u32 0, .int .u32 0]] w2 fun e w' => e = .returned (.tuple #[]) ∧ GM (K.add w.heap.size) (g2.put ⟨97, d, r0, r1, r2, 0, 0, 0⟩) w' ∧ Upto (SG (K.add w.heap.size)) w2 w') := fun w2 a => put_any (K := K.add w.heap.size) (g := g2) ⟨97, d, r0, r1, r2, 0, 0, 0⟩ w2 a hx hgn
  have HA : Hid (∀ w2, GM (K.add w.heap.size) (g2.put ⟨97, d, r0, r1, r2, 0, 0, 0⟩) w2 → Calls Try.prog 160 #[.pointer (some ⟨K.h, 0, none⟩), .int .i64 d, .int .i64 i] w2 fun e w' => e = .returned (.tuple #[]) ∧ GM (K.add w.heap.size) ((g2.put ⟨97, d, r0, r1, r2, 0, 0, 0⟩).has d i) w' ∧ Upto (SG (K.add w.heap.size)) w2 w') := fun w2 a => has_any (K := K.add w.heap.size) (g := g2.put ⟨97, d, r0, r1, r2, 0, 0, 0⟩) d i w2 a d16 hi
  generalize g2.put ⟨97, d, r0, r1, r2, 0, 0, 0⟩ = g3 at PU HA ⊢
  generalize g3.has d i = g4 at HA ⊢
  have A := Lib.hid a1
  have BO := Lib.hid bo
  have BR := Lib.hid br
  have U := Lib.hid u1
  have l := a1.l
  have o0 := bo.2.1 0 _ rfl
  have HH := Lib.hid hh
  clear a1 bo br u1 a hd hx hgn hf hn hR hh
  go_enter Try.func96, Try.ntmps96
  go_upto_region 3 with fail
  have A2 := Lib.hid A.out.unpin
  have BO2 := Lib.hid (BO.out.upto (Upto.setCells (S := fun i => i = K.h) rfl (fls 16) _ 23 (Upto.refl _ _)) (by omega))
  have BR2 := Lib.hid (BR.out.upto (Upto.setCells (S := fun i => i = K.h) rfl (fls 16) _ 23 (Upto.refl _ _)) (by omega))
  have U2 := Lib.hid (Upto.setCells (p := K.h) (S := SG (K.add w.heap.size)) (.inl rfl) (fls 16) _ 23 U.out)
  have A2 : Hid (GM (K.add w.heap.size) g.unpin (World.setCells _ K.h 23 (fls 16))) := A2
  generalize World.setCells _ K.h 23 (fls 16) = w1 at A2 BO2 BR2 U2 ⊢
  clear hs hcl o0 A BO BR U l
  go_upto_region 4 with (go_at_call 161; refine (PL.out _ A2.out).mono ?_; rintro e w2 ⟨rfl, a3, u3⟩; have A3 := Lib.hid a3; have BO3 := Lib.hid (BO2.out.upto u3 (SG.box lh lv lB ⟨Nat.le_refl _, by omega⟩)); have BR3 := Lib.hid (BR2.out.upto u3 (SG.box lh lv lB ⟨by omega, by omega⟩)); have U3 := Lib.hid (U2.out.trans u3); clear a3 u3)
  clear PL A2 BO2 BR2 U2
  have q0 := BR3.out.2.1 0 _ rfl
  have q1 := BR3.out.2.1 1 _ rfl
  have q2 := BR3.out.2.1 2 _ rfl
  have l1 := BR3.out.1
  go_upto_region 5 with fail
  clear q0 q1 q2
  have sz : w.heap.size < w2.heap.size := by have := BO3.out.1; omega
  have o0 := BO3.out.2.1 0 _ rfl
  have o1 := BO3.out.2.1 1 _ rfl
  have o5 := BO3.out.2.1 5 _ rfl
  have o6 := BO3.out.2.1 6 _ rfl
  go_upto_region 9 with fail
  go_upto_region 22 with fail
  go_wp2_with (first
    | (go_at_call 47; refine (PU.out _ (A3.out.alloc _)).mono ?_; rintro e w4 ⟨rfl, a4, u4⟩; have A4 := Lib.hid a4; have U4 := Lib.hid ((U3.out.alloc _).trans u4); clear a4 u4)
    | (go_at_call 160; refine (HA.out _ A4.out).mono ?_; rintro e w5 ⟨rfl, a5, u5⟩; have U5 := Lib.hid (U4.out.trans u5)))
  go_end0
  exact ⟨rfl, a5.drop, SG.drop U5.out⟩
set_option maxRecDepth 100000 in
set_option maxHeartbeats 16000000 in
theorem gives_4 (i d : Nat) (ow oa ob oc kn n r0 r1 r2 : Int) (w : World) (a : GM K g w) (hw0 : 0 ≤ ow) (hw1 : ow < 16) (hR : K.R ≤ 16) (hh : ∀ r, r < 16 → g.holds r < K.os.length) (hf : emp (g.unpin.clr K.R) 0 K.R = none → ∃ b, FOk K.os K.R (g.unpin.clr K.R) b) (hn : (wds g.xs).length ≤ 999990)
    (hd : g.unpin.plR K.R = d) (d16 : d < 16) (hi : i < K.os.length) (hx : COk ⟨(16 + ow), d, r0, r1, r2, 0, 0, 0⟩) :
    Calls Try.prog 96 #[.pointer (some ⟨K.h, 0, none⟩), .int .i64 i, .agg #[.int .i64 4, .int .i64 ow, .int .i64 oa, .int .i64 ob, .int .i64 oc, .int .u32 kn, .int .i64 n], .agg #[.int .i64 r0, .int .i64 r1, .int .i64 r2]] w fun e w' => e = .returned (.tuple #[]) ∧ GM K (((g.unpin.plG K.os K.R).put ⟨(16 + ow), d, r0, r1, r2, 0, 0, 0⟩).has d i) w' ∧ Upto (SG K) w w' := by
  obtain ⟨a1, bo, br, u1⟩ := boxes w a #[.int .i64 4, .int .i64 ow, .int .i64 oa, .int .i64 ob, .int .i64 oc, .int .u32 kn, .int .i64 n] #[.int .i64 r0, .int .i64 r1, .int .i64 r2] 31 175
  have hs := slice_run K.h
  have hcl : (Builtin.clear_ #[79] 0 #[.slice (some ⟨K.h, 23, none⟩) 16 16]).run Try.prog ((w.alloc (.cells #[.int .i64 4, .int .i64 ow, .int .i64 oa, .int .i64 ob, .int .i64 oc, .int .u32 kn, .int .i64 n] 31)).alloc (.cells #[.int .i64 r0, .int .i64 r1, .int .i64 r2] 175)) = .ok (.tuple #[]) (((w.alloc (.cells #[.int .i64 4, .int .i64 ow, .int .i64 oa, .int .i64 ob, .int .i64 oc, .int .u32 kn, .int .i64 n] 31)).alloc (.cells #[.int .i64 r0, .int .i64 r1, .int .i64 r2] 175)).setCells K.h 23 (fls 16)) := clear_run (K := K.add w.heap.size) _ a1 0
  have lB := a.lb
  have lh := a.lh
  have lv := a.lv
  have PL : Hid (∀ w2, GM (K.add w.heap.size) g.unpin w2 → Calls Try.prog 161 #[.pointer (some ⟨K.h, 0, none⟩)] w2 fun e w' => e = .returned (.int .i64 (g.unpin.plR K.R)) ∧ GM (K.add w.heap.size) (g.unpin.plG K.os K.R) w' ∧ Upto (SG (K.add w.heap.size)) w2 w') := fun w2 a => place_any (K := K.add w.heap.size) (g := g.unpin) w2 a hR hh hf (show (wds g.unpin.xs).length ≤ 1000000 from Nat.le_trans hn (by decide))
  rw [hd] at PL
  have hgn : (wds (g.unpin.plG K.os K.R).xs).length ≤ 1000000 := by
    have h1 : (wds (g.unpin.plG K.os K.R).xs).length ≤ (wds g.xs).length + 3 := by
      unfold Gm.plG
      split
      · rw [clr_xs]; exact Nat.le_add_right _ _
      · exact Nat.le_trans (fre_len _ _ _) (by rw [clr_xs]; exact Nat.le_refl _)
    omega
  generalize g.unpin.plG K.os K.R = g2 at PL hgn ⊢
  have PU : Hid (∀ w2, GM (K.add w.heap.size) g2 w2 → Calls Try.prog 47 #[.pointer (some ⟨K.h, 0, none⟩), .agg #[.int .i64 (16 + ow), .int .i64 d, .int .i64 r0, .int .i64 r1, .int .i64 r2, .int .i64 0, .int .u32 0, .int .u32 0]] w2 fun e w' => e = .returned (.tuple #[]) ∧ GM (K.add w.heap.size) (g2.put ⟨(16 + ow), d, r0, r1, r2, 0, 0, 0⟩) w' ∧ Upto (SG (K.add w.heap.size)) w2 w') := fun w2 a => put_any (K := K.add w.heap.size) (g := g2) ⟨(16 + ow), d, r0, r1, r2, 0, 0, 0⟩ w2 a hx hgn
  have HA : Hid (∀ w2, GM (K.add w.heap.size) (g2.put ⟨(16 + ow), d, r0, r1, r2, 0, 0, 0⟩) w2 → Calls Try.prog 160 #[.pointer (some ⟨K.h, 0, none⟩), .int .i64 d, .int .i64 i] w2 fun e w' => e = .returned (.tuple #[]) ∧ GM (K.add w.heap.size) ((g2.put ⟨(16 + ow), d, r0, r1, r2, 0, 0, 0⟩).has d i) w' ∧ Upto (SG (K.add w.heap.size)) w2 w') := fun w2 a => has_any (K := K.add w.heap.size) (g := g2.put ⟨(16 + ow), d, r0, r1, r2, 0, 0, 0⟩) d i w2 a d16 hi
  generalize g2.put ⟨(16 + ow), d, r0, r1, r2, 0, 0, 0⟩ = g3 at PU HA ⊢
  generalize g3.has d i = g4 at HA ⊢
  have A := Lib.hid a1
  have BO := Lib.hid bo
  have BR := Lib.hid br
  have U := Lib.hid u1
  have l := a1.l
  have o0 := bo.2.1 0 _ rfl
  have HH := Lib.hid hh
  clear a1 bo br u1 a hd hx hgn hf hn hR hh
  go_enter Try.func96, Try.ntmps96
  go_upto_region 3 with fail
  have A2 := Lib.hid A.out.unpin
  have BO2 := Lib.hid (BO.out.upto (Upto.setCells (S := fun i => i = K.h) rfl (fls 16) _ 23 (Upto.refl _ _)) (by omega))
  have BR2 := Lib.hid (BR.out.upto (Upto.setCells (S := fun i => i = K.h) rfl (fls 16) _ 23 (Upto.refl _ _)) (by omega))
  have U2 := Lib.hid (Upto.setCells (p := K.h) (S := SG (K.add w.heap.size)) (.inl rfl) (fls 16) _ 23 U.out)
  have A2 : Hid (GM (K.add w.heap.size) g.unpin (World.setCells _ K.h 23 (fls 16))) := A2
  generalize World.setCells _ K.h 23 (fls 16) = w1 at A2 BO2 BR2 U2 ⊢
  clear hs hcl o0 A BO BR U l
  go_upto_region 4 with (go_at_call 161; refine (PL.out _ A2.out).mono ?_; rintro e w2 ⟨rfl, a3, u3⟩; have A3 := Lib.hid a3; have BO3 := Lib.hid (BO2.out.upto u3 (SG.box lh lv lB ⟨Nat.le_refl _, by omega⟩)); have BR3 := Lib.hid (BR2.out.upto u3 (SG.box lh lv lB ⟨by omega, by omega⟩)); have U3 := Lib.hid (U2.out.trans u3); clear a3 u3)
  clear PL A2 BO2 BR2 U2
  have q0 := BR3.out.2.1 0 _ rfl
  have q1 := BR3.out.2.1 1 _ rfl
  have q2 := BR3.out.2.1 2 _ rfl
  have l1 := BR3.out.1
  go_upto_region 5 with fail
  clear q0 q1 q2
  have sz : w.heap.size < w2.heap.size := by have := BO3.out.1; omega
  have o0 := BO3.out.2.1 0 _ rfl
  have o1 := BO3.out.2.1 1 _ rfl
  have o5 := BO3.out.2.1 5 _ rfl
  have o6 := BO3.out.2.1 6 _ rfl
  go_upto_region 11 with fail
  go_upto_region 22 with fail
  go_wp2_with (first
    | (go_at_call 47; refine (PU.out _ (A3.out.alloc _)).mono ?_; rintro e w4 ⟨rfl, a4, u4⟩; have A4 := Lib.hid a4; have U4 := Lib.hid ((U3.out.alloc _).trans u4); clear a4 u4)
    | (go_at_call 160; refine (HA.out _ A4.out).mono ?_; rintro e w5 ⟨rfl, a5, u5⟩; have U5 := Lib.hid (U4.out.trans u5)))
  go_end0
  exact ⟨rfl, a5.drop, SG.drop U5.out⟩
set_option maxRecDepth 100000 in
set_option maxHeartbeats 16000000 in
theorem gives_5 (i d : Nat) (ow oa ob oc kn n r0 r1 r2 : Int) (w : World) (a : GM K g w) (hw0 : 0 ≤ ow) (hw1 : ow < 16) (hR : K.R ≤ 16) (hh : ∀ r, r < 16 → g.holds r < K.os.length) (hf : emp (g.unpin.clr K.R) 0 K.R = none → ∃ b, FOk K.os K.R (g.unpin.clr K.R) b) (hn : (wds g.xs).length ≤ 999990)
    (hd : g.unpin.plR K.R = d) (d16 : d < 16) (hi : i < K.os.length) (hx : COk ⟨(32 + ow), d, r0, r1, r2, 0, 0, 0⟩) :
    Calls Try.prog 96 #[.pointer (some ⟨K.h, 0, none⟩), .int .i64 i, .agg #[.int .i64 5, .int .i64 ow, .int .i64 oa, .int .i64 ob, .int .i64 oc, .int .u32 kn, .int .i64 n], .agg #[.int .i64 r0, .int .i64 r1, .int .i64 r2]] w fun e w' => e = .returned (.tuple #[]) ∧ GM K (((g.unpin.plG K.os K.R).put ⟨(32 + ow), d, r0, r1, r2, 0, 0, 0⟩).has d i) w' ∧ Upto (SG K) w w' := by
  obtain ⟨a1, bo, br, u1⟩ := boxes w a #[.int .i64 5, .int .i64 ow, .int .i64 oa, .int .i64 ob, .int .i64 oc, .int .u32 kn, .int .i64 n] #[.int .i64 r0, .int .i64 r1, .int .i64 r2] 31 175
  have hs := slice_run K.h
  have hcl : (Builtin.clear_ #[79] 0 #[.slice (some ⟨K.h, 23, none⟩) 16 16]).run Try.prog ((w.alloc (.cells #[.int .i64 5, .int .i64 ow, .int .i64 oa, .int .i64 ob, .int .i64 oc, .int .u32 kn, .int .i64 n] 31)).alloc (.cells #[.int .i64 r0, .int .i64 r1, .int .i64 r2] 175)) = .ok (.tuple #[]) (((w.alloc (.cells #[.int .i64 5, .int .i64 ow, .int .i64 oa, .int .i64 ob, .int .i64 oc, .int .u32 kn, .int .i64 n] 31)).alloc (.cells #[.int .i64 r0, .int .i64 r1, .int .i64 r2] 175)).setCells K.h 23 (fls 16)) := clear_run (K := K.add w.heap.size) _ a1 0
  have lB := a.lb
  have lh := a.lh
  have lv := a.lv
  have PL : Hid (∀ w2, GM (K.add w.heap.size) g.unpin w2 → Calls Try.prog 161 #[.pointer (some ⟨K.h, 0, none⟩)] w2 fun e w' => e = .returned (.int .i64 (g.unpin.plR K.R)) ∧ GM (K.add w.heap.size) (g.unpin.plG K.os K.R) w' ∧ Upto (SG (K.add w.heap.size)) w2 w') := fun w2 a => place_any (K := K.add w.heap.size) (g := g.unpin) w2 a hR hh hf (show (wds g.unpin.xs).length ≤ 1000000 from Nat.le_trans hn (by decide))
  rw [hd] at PL
  have hgn : (wds (g.unpin.plG K.os K.R).xs).length ≤ 1000000 := by
    have h1 : (wds (g.unpin.plG K.os K.R).xs).length ≤ (wds g.xs).length + 3 := by
      unfold Gm.plG
      split
      · rw [clr_xs]; exact Nat.le_add_right _ _
      · exact Nat.le_trans (fre_len _ _ _) (by rw [clr_xs]; exact Nat.le_refl _)
    omega
  generalize g.unpin.plG K.os K.R = g2 at PL hgn ⊢
  have PU : Hid (∀ w2, GM (K.add w.heap.size) g2 w2 → Calls Try.prog 47 #[.pointer (some ⟨K.h, 0, none⟩), .agg #[.int .i64 (32 + ow), .int .i64 d, .int .i64 r0, .int .i64 r1, .int .i64 r2, .int .i64 0, .int .u32 0, .int .u32 0]] w2 fun e w' => e = .returned (.tuple #[]) ∧ GM (K.add w.heap.size) (g2.put ⟨(32 + ow), d, r0, r1, r2, 0, 0, 0⟩) w' ∧ Upto (SG (K.add w.heap.size)) w2 w') := fun w2 a => put_any (K := K.add w.heap.size) (g := g2) ⟨(32 + ow), d, r0, r1, r2, 0, 0, 0⟩ w2 a hx hgn
  have HA : Hid (∀ w2, GM (K.add w.heap.size) (g2.put ⟨(32 + ow), d, r0, r1, r2, 0, 0, 0⟩) w2 → Calls Try.prog 160 #[.pointer (some ⟨K.h, 0, none⟩), .int .i64 d, .int .i64 i] w2 fun e w' => e = .returned (.tuple #[]) ∧ GM (K.add w.heap.size) ((g2.put ⟨(32 + ow), d, r0, r1, r2, 0, 0, 0⟩).has d i) w' ∧ Upto (SG (K.add w.heap.size)) w2 w') := fun w2 a => has_any (K := K.add w.heap.size) (g := g2.put ⟨(32 + ow), d, r0, r1, r2, 0, 0, 0⟩) d i w2 a d16 hi
  generalize g2.put ⟨(32 + ow), d, r0, r1, r2, 0, 0, 0⟩ = g3 at PU HA ⊢
  generalize g3.has d i = g4 at HA ⊢
  have A := Lib.hid a1
  have BO := Lib.hid bo
  have BR := Lib.hid br
  have U := Lib.hid u1
  have l := a1.l
  have o0 := bo.2.1 0 _ rfl
  have HH := Lib.hid hh
  clear a1 bo br u1 a hd hx hgn hf hn hR hh
  go_enter Try.func96, Try.ntmps96
  go_upto_region 3 with fail
  have A2 := Lib.hid A.out.unpin
  have BO2 := Lib.hid (BO.out.upto (Upto.setCells (S := fun i => i = K.h) rfl (fls 16) _ 23 (Upto.refl _ _)) (by omega))
  have BR2 := Lib.hid (BR.out.upto (Upto.setCells (S := fun i => i = K.h) rfl (fls 16) _ 23 (Upto.refl _ _)) (by omega))
  have U2 := Lib.hid (Upto.setCells (p := K.h) (S := SG (K.add w.heap.size)) (.inl rfl) (fls 16) _ 23 U.out)
  have A2 : Hid (GM (K.add w.heap.size) g.unpin (World.setCells _ K.h 23 (fls 16))) := A2
  generalize World.setCells _ K.h 23 (fls 16) = w1 at A2 BO2 BR2 U2 ⊢
  clear hs hcl o0 A BO BR U l
  go_upto_region 4 with (go_at_call 161; refine (PL.out _ A2.out).mono ?_; rintro e w2 ⟨rfl, a3, u3⟩; have A3 := Lib.hid a3; have BO3 := Lib.hid (BO2.out.upto u3 (SG.box lh lv lB ⟨Nat.le_refl _, by omega⟩)); have BR3 := Lib.hid (BR2.out.upto u3 (SG.box lh lv lB ⟨by omega, by omega⟩)); have U3 := Lib.hid (U2.out.trans u3); clear a3 u3)
  clear PL A2 BO2 BR2 U2
  have q0 := BR3.out.2.1 0 _ rfl
  have q1 := BR3.out.2.1 1 _ rfl
  have q2 := BR3.out.2.1 2 _ rfl
  have l1 := BR3.out.1
  go_upto_region 5 with fail
  clear q0 q1 q2
  have sz : w.heap.size < w2.heap.size := by have := BO3.out.1; omega
  have o0 := BO3.out.2.1 0 _ rfl
  have o1 := BO3.out.2.1 1 _ rfl
  have o5 := BO3.out.2.1 5 _ rfl
  have o6 := BO3.out.2.1 6 _ rfl
  go_upto_region 13 with fail
  go_upto_region 22 with fail
  go_wp2_with (first
    | (go_at_call 47; refine (PU.out _ (A3.out.alloc _)).mono ?_; rintro e w4 ⟨rfl, a4, u4⟩; have A4 := Lib.hid a4; have U4 := Lib.hid ((U3.out.alloc _).trans u4); clear a4 u4)
    | (go_at_call 160; refine (HA.out _ A4.out).mono ?_; rintro e w5 ⟨rfl, a5, u5⟩; have U5 := Lib.hid (U4.out.trans u5)))
  go_end0
  exact ⟨rfl, a5.drop, SG.drop U5.out⟩
set_option maxRecDepth 100000 in
set_option maxHeartbeats 16000000 in
theorem gives_6 (i d : Nat) (ow oa ob oc kn n r0 r1 r2 : Int) (w : World) (a : GM K g w) (hw0 : 0 ≤ ow) (hw1 : ow < 16) (hR : K.R ≤ 16) (hh : ∀ r, r < 16 → g.holds r < K.os.length) (hf : emp (g.unpin.clr K.R) 0 K.R = none → ∃ b, FOk K.os K.R (g.unpin.clr K.R) b) (hn : (wds g.xs).length ≤ 999990)
    (hd : g.unpin.plR K.R = d) (d16 : d < 16) (hi : i < K.os.length) (hx : COk ⟨5, d, r0, r1, r2, 0, 0, 0⟩) :
    Calls Try.prog 96 #[.pointer (some ⟨K.h, 0, none⟩), .int .i64 i, .agg #[.int .i64 6, .int .i64 ow, .int .i64 oa, .int .i64 ob, .int .i64 oc, .int .u32 kn, .int .i64 n], .agg #[.int .i64 r0, .int .i64 r1, .int .i64 r2]] w fun e w' => e = .returned (.tuple #[]) ∧ GM K (((g.unpin.plG K.os K.R).put ⟨5, d, r0, r1, r2, 0, 0, 0⟩).has d i) w' ∧ Upto (SG K) w w' := by
  obtain ⟨a1, bo, br, u1⟩ := boxes w a #[.int .i64 6, .int .i64 ow, .int .i64 oa, .int .i64 ob, .int .i64 oc, .int .u32 kn, .int .i64 n] #[.int .i64 r0, .int .i64 r1, .int .i64 r2] 31 175
  have hs := slice_run K.h
  have hcl : (Builtin.clear_ #[79] 0 #[.slice (some ⟨K.h, 23, none⟩) 16 16]).run Try.prog ((w.alloc (.cells #[.int .i64 6, .int .i64 ow, .int .i64 oa, .int .i64 ob, .int .i64 oc, .int .u32 kn, .int .i64 n] 31)).alloc (.cells #[.int .i64 r0, .int .i64 r1, .int .i64 r2] 175)) = .ok (.tuple #[]) (((w.alloc (.cells #[.int .i64 6, .int .i64 ow, .int .i64 oa, .int .i64 ob, .int .i64 oc, .int .u32 kn, .int .i64 n] 31)).alloc (.cells #[.int .i64 r0, .int .i64 r1, .int .i64 r2] 175)).setCells K.h 23 (fls 16)) := clear_run (K := K.add w.heap.size) _ a1 0
  have lB := a.lb
  have lh := a.lh
  have lv := a.lv
  have PL : Hid (∀ w2, GM (K.add w.heap.size) g.unpin w2 → Calls Try.prog 161 #[.pointer (some ⟨K.h, 0, none⟩)] w2 fun e w' => e = .returned (.int .i64 (g.unpin.plR K.R)) ∧ GM (K.add w.heap.size) (g.unpin.plG K.os K.R) w' ∧ Upto (SG (K.add w.heap.size)) w2 w') := fun w2 a => place_any (K := K.add w.heap.size) (g := g.unpin) w2 a hR hh hf (show (wds g.unpin.xs).length ≤ 1000000 from Nat.le_trans hn (by decide))
  rw [hd] at PL
  have hgn : (wds (g.unpin.plG K.os K.R).xs).length ≤ 1000000 := by
    have h1 : (wds (g.unpin.plG K.os K.R).xs).length ≤ (wds g.xs).length + 3 := by
      unfold Gm.plG
      split
      · rw [clr_xs]; exact Nat.le_add_right _ _
      · exact Nat.le_trans (fre_len _ _ _) (by rw [clr_xs]; exact Nat.le_refl _)
    omega
  generalize g.unpin.plG K.os K.R = g2 at PL hgn ⊢
  have PU : Hid (∀ w2, GM (K.add w.heap.size) g2 w2 → Calls Try.prog 47 #[.pointer (some ⟨K.h, 0, none⟩), .agg #[.int .i64 5, .int .i64 d, .int .i64 r0, .int .i64 r1, .int .i64 r2, .int .i64 0, .int .u32 0, .int .u32 0]] w2 fun e w' => e = .returned (.tuple #[]) ∧ GM (K.add w.heap.size) (g2.put ⟨5, d, r0, r1, r2, 0, 0, 0⟩) w' ∧ Upto (SG (K.add w.heap.size)) w2 w') := fun w2 a => put_any (K := K.add w.heap.size) (g := g2) ⟨5, d, r0, r1, r2, 0, 0, 0⟩ w2 a hx hgn
  have HA : Hid (∀ w2, GM (K.add w.heap.size) (g2.put ⟨5, d, r0, r1, r2, 0, 0, 0⟩) w2 → Calls Try.prog 160 #[.pointer (some ⟨K.h, 0, none⟩), .int .i64 d, .int .i64 i] w2 fun e w' => e = .returned (.tuple #[]) ∧ GM (K.add w.heap.size) ((g2.put ⟨5, d, r0, r1, r2, 0, 0, 0⟩).has d i) w' ∧ Upto (SG (K.add w.heap.size)) w2 w') := fun w2 a => has_any (K := K.add w.heap.size) (g := g2.put ⟨5, d, r0, r1, r2, 0, 0, 0⟩) d i w2 a d16 hi
  generalize g2.put ⟨5, d, r0, r1, r2, 0, 0, 0⟩ = g3 at PU HA ⊢
  generalize g3.has d i = g4 at HA ⊢
  have A := Lib.hid a1
  have BO := Lib.hid bo
  have BR := Lib.hid br
  have U := Lib.hid u1
  have l := a1.l
  have o0 := bo.2.1 0 _ rfl
  have HH := Lib.hid hh
  clear a1 bo br u1 a hd hx hgn hf hn hR hh
  go_enter Try.func96, Try.ntmps96
  go_upto_region 3 with fail
  have A2 := Lib.hid A.out.unpin
  have BO2 := Lib.hid (BO.out.upto (Upto.setCells (S := fun i => i = K.h) rfl (fls 16) _ 23 (Upto.refl _ _)) (by omega))
  have BR2 := Lib.hid (BR.out.upto (Upto.setCells (S := fun i => i = K.h) rfl (fls 16) _ 23 (Upto.refl _ _)) (by omega))
  have U2 := Lib.hid (Upto.setCells (p := K.h) (S := SG (K.add w.heap.size)) (.inl rfl) (fls 16) _ 23 U.out)
  have A2 : Hid (GM (K.add w.heap.size) g.unpin (World.setCells _ K.h 23 (fls 16))) := A2
  generalize World.setCells _ K.h 23 (fls 16) = w1 at A2 BO2 BR2 U2 ⊢
  clear hs hcl o0 A BO BR U l
  go_upto_region 4 with (go_at_call 161; refine (PL.out _ A2.out).mono ?_; rintro e w2 ⟨rfl, a3, u3⟩; have A3 := Lib.hid a3; have BO3 := Lib.hid (BO2.out.upto u3 (SG.box lh lv lB ⟨Nat.le_refl _, by omega⟩)); have BR3 := Lib.hid (BR2.out.upto u3 (SG.box lh lv lB ⟨by omega, by omega⟩)); have U3 := Lib.hid (U2.out.trans u3); clear a3 u3)
  clear PL A2 BO2 BR2 U2
  have q0 := BR3.out.2.1 0 _ rfl
  have q1 := BR3.out.2.1 1 _ rfl
  have q2 := BR3.out.2.1 2 _ rfl
  have l1 := BR3.out.1
  go_upto_region 5 with fail
  clear q0 q1 q2
  have sz : w.heap.size < w2.heap.size := by have := BO3.out.1; omega
  have o0 := BO3.out.2.1 0 _ rfl
  have o1 := BO3.out.2.1 1 _ rfl
  have o5 := BO3.out.2.1 5 _ rfl
  have o6 := BO3.out.2.1 6 _ rfl
  go_upto_region 15 with fail
  go_upto_region 22 with fail
  go_wp2_with (first
    | (go_at_call 47; refine (PU.out _ (A3.out.alloc _)).mono ?_; rintro e w4 ⟨rfl, a4, u4⟩; have A4 := Lib.hid a4; have U4 := Lib.hid ((U3.out.alloc _).trans u4); clear a4 u4)
    | (go_at_call 160; refine (HA.out _ A4.out).mono ?_; rintro e w5 ⟨rfl, a5, u5⟩; have U5 := Lib.hid (U4.out.trans u5)))
  go_end0
  exact ⟨rfl, a5.drop, SG.drop U5.out⟩
set_option maxRecDepth 100000 in
set_option maxHeartbeats 16000000 in
theorem gives_7 (i d : Nat) (ow oa ob oc kn n r0 r1 r2 : Int) (w : World) (a : GM K g w) (hw0 : 0 ≤ ow) (hw1 : ow < 16) (hR : K.R ≤ 16) (hh : ∀ r, r < 16 → g.holds r < K.os.length) (hf : emp (g.unpin.clr K.R) 0 K.R = none → ∃ b, FOk K.os K.R (g.unpin.clr K.R) b) (hn : (wds g.xs).length ≤ 999990)
    (hd : g.unpin.plR K.R = d) (d16 : d < 16) (hi : i < K.os.length) (hx : COk ⟨(48 + ow), d, r0, r1, r2, 0, 0, 0⟩) :
    Calls Try.prog 96 #[.pointer (some ⟨K.h, 0, none⟩), .int .i64 i, .agg #[.int .i64 7, .int .i64 ow, .int .i64 oa, .int .i64 ob, .int .i64 oc, .int .u32 kn, .int .i64 n], .agg #[.int .i64 r0, .int .i64 r1, .int .i64 r2]] w fun e w' => e = .returned (.tuple #[]) ∧ GM K (((g.unpin.plG K.os K.R).put ⟨(48 + ow), d, r0, r1, r2, 0, 0, 0⟩).has d i) w' ∧ Upto (SG K) w w' := by
  obtain ⟨a1, bo, br, u1⟩ := boxes w a #[.int .i64 7, .int .i64 ow, .int .i64 oa, .int .i64 ob, .int .i64 oc, .int .u32 kn, .int .i64 n] #[.int .i64 r0, .int .i64 r1, .int .i64 r2] 31 175
  have hs := slice_run K.h
  have hcl : (Builtin.clear_ #[79] 0 #[.slice (some ⟨K.h, 23, none⟩) 16 16]).run Try.prog ((w.alloc (.cells #[.int .i64 7, .int .i64 ow, .int .i64 oa, .int .i64 ob, .int .i64 oc, .int .u32 kn, .int .i64 n] 31)).alloc (.cells #[.int .i64 r0, .int .i64 r1, .int .i64 r2] 175)) = .ok (.tuple #[]) (((w.alloc (.cells #[.int .i64 7, .int .i64 ow, .int .i64 oa, .int .i64 ob, .int .i64 oc, .int .u32 kn, .int .i64 n] 31)).alloc (.cells #[.int .i64 r0, .int .i64 r1, .int .i64 r2] 175)).setCells K.h 23 (fls 16)) := clear_run (K := K.add w.heap.size) _ a1 0
  have lB := a.lb
  have lh := a.lh
  have lv := a.lv
  have PL : Hid (∀ w2, GM (K.add w.heap.size) g.unpin w2 → Calls Try.prog 161 #[.pointer (some ⟨K.h, 0, none⟩)] w2 fun e w' => e = .returned (.int .i64 (g.unpin.plR K.R)) ∧ GM (K.add w.heap.size) (g.unpin.plG K.os K.R) w' ∧ Upto (SG (K.add w.heap.size)) w2 w') := fun w2 a => place_any (K := K.add w.heap.size) (g := g.unpin) w2 a hR hh hf (show (wds g.unpin.xs).length ≤ 1000000 from Nat.le_trans hn (by decide))
  rw [hd] at PL
  have hgn : (wds (g.unpin.plG K.os K.R).xs).length ≤ 1000000 := by
    have h1 : (wds (g.unpin.plG K.os K.R).xs).length ≤ (wds g.xs).length + 3 := by
      unfold Gm.plG
      split
      · rw [clr_xs]; exact Nat.le_add_right _ _
      · exact Nat.le_trans (fre_len _ _ _) (by rw [clr_xs]; exact Nat.le_refl _)
    omega
  generalize g.unpin.plG K.os K.R = g2 at PL hgn ⊢
  have PU : Hid (∀ w2, GM (K.add w.heap.size) g2 w2 → Calls Try.prog 47 #[.pointer (some ⟨K.h, 0, none⟩), .agg #[.int .i64 (48 + ow), .int .i64 d, .int .i64 r0, .int .i64 r1, .int .i64 r2, .int .i64 0, .int .u32 0, .int .u32 0]] w2 fun e w' => e = .returned (.tuple #[]) ∧ GM (K.add w.heap.size) (g2.put ⟨(48 + ow), d, r0, r1, r2, 0, 0, 0⟩) w' ∧ Upto (SG (K.add w.heap.size)) w2 w') := fun w2 a => put_any (K := K.add w.heap.size) (g := g2) ⟨(48 + ow), d, r0, r1, r2, 0, 0, 0⟩ w2 a hx hgn
  have HA : Hid (∀ w2, GM (K.add w.heap.size) (g2.put ⟨(48 + ow), d, r0, r1, r2, 0, 0, 0⟩) w2 → Calls Try.prog 160 #[.pointer (some ⟨K.h, 0, none⟩), .int .i64 d, .int .i64 i] w2 fun e w' => e = .returned (.tuple #[]) ∧ GM (K.add w.heap.size) ((g2.put ⟨(48 + ow), d, r0, r1, r2, 0, 0, 0⟩).has d i) w' ∧ Upto (SG (K.add w.heap.size)) w2 w') := fun w2 a => has_any (K := K.add w.heap.size) (g := g2.put ⟨(48 + ow), d, r0, r1, r2, 0, 0, 0⟩) d i w2 a d16 hi
  generalize g2.put ⟨(48 + ow), d, r0, r1, r2, 0, 0, 0⟩ = g3 at PU HA ⊢
  generalize g3.has d i = g4 at HA ⊢
  have A := Lib.hid a1
  have BO := Lib.hid bo
  have BR := Lib.hid br
  have U := Lib.hid u1
  have l := a1.l
  have o0 := bo.2.1 0 _ rfl
  have HH := Lib.hid hh
  clear a1 bo br u1 a hd hx hgn hf hn hR hh
  go_enter Try.func96, Try.ntmps96
  go_upto_region 3 with fail
  have A2 := Lib.hid A.out.unpin
  have BO2 := Lib.hid (BO.out.upto (Upto.setCells (S := fun i => i = K.h) rfl (fls 16) _ 23 (Upto.refl _ _)) (by omega))
  have BR2 := Lib.hid (BR.out.upto (Upto.setCells (S := fun i => i = K.h) rfl (fls 16) _ 23 (Upto.refl _ _)) (by omega))
  have U2 := Lib.hid (Upto.setCells (p := K.h) (S := SG (K.add w.heap.size)) (.inl rfl) (fls 16) _ 23 U.out)
  have A2 : Hid (GM (K.add w.heap.size) g.unpin (World.setCells _ K.h 23 (fls 16))) := A2
  generalize World.setCells _ K.h 23 (fls 16) = w1 at A2 BO2 BR2 U2 ⊢
  clear hs hcl o0 A BO BR U l
  go_upto_region 4 with (go_at_call 161; refine (PL.out _ A2.out).mono ?_; rintro e w2 ⟨rfl, a3, u3⟩; have A3 := Lib.hid a3; have BO3 := Lib.hid (BO2.out.upto u3 (SG.box lh lv lB ⟨Nat.le_refl _, by omega⟩)); have BR3 := Lib.hid (BR2.out.upto u3 (SG.box lh lv lB ⟨by omega, by omega⟩)); have U3 := Lib.hid (U2.out.trans u3); clear a3 u3)
  clear PL A2 BO2 BR2 U2
  have q0 := BR3.out.2.1 0 _ rfl
  have q1 := BR3.out.2.1 1 _ rfl
  have q2 := BR3.out.2.1 2 _ rfl
  have l1 := BR3.out.1
  go_upto_region 5 with fail
  clear q0 q1 q2
  have sz : w.heap.size < w2.heap.size := by have := BO3.out.1; omega
  have o0 := BO3.out.2.1 0 _ rfl
  have o1 := BO3.out.2.1 1 _ rfl
  have o5 := BO3.out.2.1 5 _ rfl
  have o6 := BO3.out.2.1 6 _ rfl
  go_upto_region 17 with fail
  go_upto_region 22 with fail
  go_wp2_with (first
    | (go_at_call 47; refine (PU.out _ (A3.out.alloc _)).mono ?_; rintro e w4 ⟨rfl, a4, u4⟩; have A4 := Lib.hid a4; have U4 := Lib.hid ((U3.out.alloc _).trans u4); clear a4 u4)
    | (go_at_call 160; refine (HA.out _ A4.out).mono ?_; rintro e w5 ⟨rfl, a5, u5⟩; have U5 := Lib.hid (U4.out.trans u5)))
  go_end0
  exact ⟨rfl, a5.drop, SG.drop U5.out⟩
set_option maxRecDepth 100000 in
set_option maxHeartbeats 16000000 in
theorem gives_8 (i d : Nat) (ow oa ob oc kn n r0 r1 r2 : Int) (w : World) (a : GM K g w) (hw0 : 0 ≤ ow) (hw1 : ow < 16) (hR : K.R ≤ 16) (hh : ∀ r, r < 16 → g.holds r < K.os.length) (hf : emp (g.unpin.clr K.R) 0 K.R = none → ∃ b, FOk K.os K.R (g.unpin.clr K.R) b) (hn : (wds g.xs).length ≤ 999990)
    (hd : g.unpin.plR K.R = d) (d16 : d < 16) (hi : i < K.os.length) (hx : COk ⟨(64 + ow), d, r0, r1, r2, 0, 0, 0⟩) :
    Calls Try.prog 96 #[.pointer (some ⟨K.h, 0, none⟩), .int .i64 i, .agg #[.int .i64 8, .int .i64 ow, .int .i64 oa, .int .i64 ob, .int .i64 oc, .int .u32 kn, .int .i64 n], .agg #[.int .i64 r0, .int .i64 r1, .int .i64 r2]] w fun e w' => e = .returned (.tuple #[]) ∧ GM K (((g.unpin.plG K.os K.R).put ⟨(64 + ow), d, r0, r1, r2, 0, 0, 0⟩).has d i) w' ∧ Upto (SG K) w w' := by
  obtain ⟨a1, bo, br, u1⟩ := boxes w a #[.int .i64 8, .int .i64 ow, .int .i64 oa, .int .i64 ob, .int .i64 oc, .int .u32 kn, .int .i64 n] #[.int .i64 r0, .int .i64 r1, .int .i64 r2] 31 175
  have hs := slice_run K.h
  have hcl : (Builtin.clear_ #[79] 0 #[.slice (some ⟨K.h, 23, none⟩) 16 16]).run Try.prog ((w.alloc (.cells #[.int .i64 8, .int .i64 ow, .int .i64 oa, .int .i64 ob, .int .i64 oc, .int .u32 kn, .int .i64 n] 31)).alloc (.cells #[.int .i64 r0, .int .i64 r1, .int .i64 r2] 175)) = .ok (.tuple #[]) (((w.alloc (.cells #[.int .i64 8, .int .i64 ow, .int .i64 oa, .int .i64 ob, .int .i64 oc, .int .u32 kn, .int .i64 n] 31)).alloc (.cells #[.int .i64 r0, .int .i64 r1, .int .i64 r2] 175)).setCells K.h 23 (fls 16)) := clear_run (K := K.add w.heap.size) _ a1 0
  have lB := a.lb
  have lh := a.lh
  have lv := a.lv
  have PL : Hid (∀ w2, GM (K.add w.heap.size) g.unpin w2 → Calls Try.prog 161 #[.pointer (some ⟨K.h, 0, none⟩)] w2 fun e w' => e = .returned (.int .i64 (g.unpin.plR K.R)) ∧ GM (K.add w.heap.size) (g.unpin.plG K.os K.R) w' ∧ Upto (SG (K.add w.heap.size)) w2 w') := fun w2 a => place_any (K := K.add w.heap.size) (g := g.unpin) w2 a hR hh hf (show (wds g.unpin.xs).length ≤ 1000000 from Nat.le_trans hn (by decide))
  rw [hd] at PL
  have hgn : (wds (g.unpin.plG K.os K.R).xs).length ≤ 1000000 := by
    have h1 : (wds (g.unpin.plG K.os K.R).xs).length ≤ (wds g.xs).length + 3 := by
      unfold Gm.plG
      split
      · rw [clr_xs]; exact Nat.le_add_right _ _
      · exact Nat.le_trans (fre_len _ _ _) (by rw [clr_xs]; exact Nat.le_refl _)
    omega
  generalize g.unpin.plG K.os K.R = g2 at PL hgn ⊢
  have PU : Hid (∀ w2, GM (K.add w.heap.size) g2 w2 → Calls Try.prog 47 #[.pointer (some ⟨K.h, 0, none⟩), .agg #[.int .i64 (64 + ow), .int .i64 d, .int .i64 r0, .int .i64 r1, .int .i64 r2, .int .i64 0, .int .u32 0, .int .u32 0]] w2 fun e w' => e = .returned (.tuple #[]) ∧ GM (K.add w.heap.size) (g2.put ⟨(64 + ow), d, r0, r1, r2, 0, 0, 0⟩) w' ∧ Upto (SG (K.add w.heap.size)) w2 w') := fun w2 a => put_any (K := K.add w.heap.size) (g := g2) ⟨(64 + ow), d, r0, r1, r2, 0, 0, 0⟩ w2 a hx hgn
  have HA : Hid (∀ w2, GM (K.add w.heap.size) (g2.put ⟨(64 + ow), d, r0, r1, r2, 0, 0, 0⟩) w2 → Calls Try.prog 160 #[.pointer (some ⟨K.h, 0, none⟩), .int .i64 d, .int .i64 i] w2 fun e w' => e = .returned (.tuple #[]) ∧ GM (K.add w.heap.size) ((g2.put ⟨(64 + ow), d, r0, r1, r2, 0, 0, 0⟩).has d i) w' ∧ Upto (SG (K.add w.heap.size)) w2 w') := fun w2 a => has_any (K := K.add w.heap.size) (g := g2.put ⟨(64 + ow), d, r0, r1, r2, 0, 0, 0⟩) d i w2 a d16 hi
  generalize g2.put ⟨(64 + ow), d, r0, r1, r2, 0, 0, 0⟩ = g3 at PU HA ⊢
  generalize g3.has d i = g4 at HA ⊢
  have A := Lib.hid a1
  have BO := Lib.hid bo
  have BR := Lib.hid br
  have U := Lib.hid u1
  have l := a1.l
  have o0 := bo.2.1 0 _ rfl
  have HH := Lib.hid hh
  clear a1 bo br u1 a hd hx hgn hf hn hR hh
  go_enter Try.func96, Try.ntmps96
  go_upto_region 3 with fail
  have A2 := Lib.hid A.out.unpin
  have BO2 := Lib.hid (BO.out.upto (Upto.setCells (S := fun i => i = K.h) rfl (fls 16) _ 23 (Upto.refl _ _)) (by omega))
  have BR2 := Lib.hid (BR.out.upto (Upto.setCells (S := fun i => i = K.h) rfl (fls 16) _ 23 (Upto.refl _ _)) (by omega))
  have U2 := Lib.hid (Upto.setCells (p := K.h) (S := SG (K.add w.heap.size)) (.inl rfl) (fls 16) _ 23 U.out)
  have A2 : Hid (GM (K.add w.heap.size) g.unpin (World.setCells _ K.h 23 (fls 16))) := A2
  generalize World.setCells _ K.h 23 (fls 16) = w1 at A2 BO2 BR2 U2 ⊢
  clear hs hcl o0 A BO BR U l
  go_upto_region 4 with (go_at_call 161; refine (PL.out _ A2.out).mono ?_; rintro e w2 ⟨rfl, a3, u3⟩; have A3 := Lib.hid a3; have BO3 := Lib.hid (BO2.out.upto u3 (SG.box lh lv lB ⟨Nat.le_refl _, by omega⟩)); have BR3 := Lib.hid (BR2.out.upto u3 (SG.box lh lv lB ⟨by omega, by omega⟩)); have U3 := Lib.hid (U2.out.trans u3); clear a3 u3)
  clear PL A2 BO2 BR2 U2
  have q0 := BR3.out.2.1 0 _ rfl
  have q1 := BR3.out.2.1 1 _ rfl
  have q2 := BR3.out.2.1 2 _ rfl
  have l1 := BR3.out.1
  go_upto_region 5 with fail
  clear q0 q1 q2
  have sz : w.heap.size < w2.heap.size := by have := BO3.out.1; omega
  have o0 := BO3.out.2.1 0 _ rfl
  have o1 := BO3.out.2.1 1 _ rfl
  have o5 := BO3.out.2.1 5 _ rfl
  have o6 := BO3.out.2.1 6 _ rfl
  go_upto_region 19 with fail
  go_upto_region 22 with fail
  go_wp2_with (first
    | (go_at_call 47; refine (PU.out _ (A3.out.alloc _)).mono ?_; rintro e w4 ⟨rfl, a4, u4⟩; have A4 := Lib.hid a4; have U4 := Lib.hid ((U3.out.alloc _).trans u4); clear a4 u4)
    | (go_at_call 160; refine (HA.out _ A4.out).mono ?_; rintro e w5 ⟨rfl, a5, u5⟩; have U5 := Lib.hid (U4.out.trans u5)))
  go_end0
  exact ⟨rfl, a5.drop, SG.drop U5.out⟩
set_option maxRecDepth 100000 in
set_option maxHeartbeats 16000000 in
theorem gives_9 (i d : Nat) (ow oa ob oc kn n r0 r1 r2 : Int) (w : World) (a : GM K g w) (hw0 : 0 ≤ ow) (hw1 : ow < 16) (hR : K.R ≤ 16) (hh : ∀ r, r < 16 → g.holds r < K.os.length) (hf : emp (g.unpin.clr K.R) 0 K.R = none → ∃ b, FOk K.os K.R (g.unpin.clr K.R) b) (hn : (wds g.xs).length ≤ 999990)
    (hd : g.unpin.plR K.R = d) (d16 : d < 16) (hi : i < K.os.length) (hx : COk ⟨(80 + ow), d, r0, r1, r2, n, kn, 0⟩) :
    Calls Try.prog 96 #[.pointer (some ⟨K.h, 0, none⟩), .int .i64 i, .agg #[.int .i64 9, .int .i64 ow, .int .i64 oa, .int .i64 ob, .int .i64 oc, .int .u32 kn, .int .i64 n], .agg #[.int .i64 r0, .int .i64 r1, .int .i64 r2]] w fun e w' => e = .returned (.tuple #[]) ∧ GM K (((g.unpin.plG K.os K.R).put ⟨(80 + ow), d, r0, r1, r2, n, kn, 0⟩).has d i) w' ∧ Upto (SG K) w w' := by
  obtain ⟨a1, bo, br, u1⟩ := boxes w a #[.int .i64 9, .int .i64 ow, .int .i64 oa, .int .i64 ob, .int .i64 oc, .int .u32 kn, .int .i64 n] #[.int .i64 r0, .int .i64 r1, .int .i64 r2] 31 175
  have hs := slice_run K.h
  have hcl : (Builtin.clear_ #[79] 0 #[.slice (some ⟨K.h, 23, none⟩) 16 16]).run Try.prog ((w.alloc (.cells #[.int .i64 9, .int .i64 ow, .int .i64 oa, .int .i64 ob, .int .i64 oc, .int .u32 kn, .int .i64 n] 31)).alloc (.cells #[.int .i64 r0, .int .i64 r1, .int .i64 r2] 175)) = .ok (.tuple #[]) (((w.alloc (.cells #[.int .i64 9, .int .i64 ow, .int .i64 oa, .int .i64 ob, .int .i64 oc, .int .u32 kn, .int .i64 n] 31)).alloc (.cells #[.int .i64 r0, .int .i64 r1, .int .i64 r2] 175)).setCells K.h 23 (fls 16)) := clear_run (K := K.add w.heap.size) _ a1 0
  have lB := a.lb
  have lh := a.lh
  have lv := a.lv
  have PL : Hid (∀ w2, GM (K.add w.heap.size) g.unpin w2 → Calls Try.prog 161 #[.pointer (some ⟨K.h, 0, none⟩)] w2 fun e w' => e = .returned (.int .i64 (g.unpin.plR K.R)) ∧ GM (K.add w.heap.size) (g.unpin.plG K.os K.R) w' ∧ Upto (SG (K.add w.heap.size)) w2 w') := fun w2 a => place_any (K := K.add w.heap.size) (g := g.unpin) w2 a hR hh hf (show (wds g.unpin.xs).length ≤ 1000000 from Nat.le_trans hn (by decide))
  rw [hd] at PL
  have hgn : (wds (g.unpin.plG K.os K.R).xs).length ≤ 1000000 := by
    have h1 : (wds (g.unpin.plG K.os K.R).xs).length ≤ (wds g.xs).length + 3 := by
      unfold Gm.plG
      split
      · rw [clr_xs]; exact Nat.le_add_right _ _
      · exact Nat.le_trans (fre_len _ _ _) (by rw [clr_xs]; exact Nat.le_refl _)
    omega
  generalize g.unpin.plG K.os K.R = g2 at PL hgn ⊢
  have PU : Hid (∀ w2, GM (K.add w.heap.size) g2 w2 → Calls Try.prog 47 #[.pointer (some ⟨K.h, 0, none⟩), .agg #[.int .i64 (80 + ow), .int .i64 d, .int .i64 r0, .int .i64 r1, .int .i64 r2, .int .i64 n, .int .u32 kn, .int .u32 0]] w2 fun e w' => e = .returned (.tuple #[]) ∧ GM (K.add w.heap.size) (g2.put ⟨(80 + ow), d, r0, r1, r2, n, kn, 0⟩) w' ∧ Upto (SG (K.add w.heap.size)) w2 w') := fun w2 a => put_any (K := K.add w.heap.size) (g := g2) ⟨(80 + ow), d, r0, r1, r2, n, kn, 0⟩ w2 a hx hgn
  have HA : Hid (∀ w2, GM (K.add w.heap.size) (g2.put ⟨(80 + ow), d, r0, r1, r2, n, kn, 0⟩) w2 → Calls Try.prog 160 #[.pointer (some ⟨K.h, 0, none⟩), .int .i64 d, .int .i64 i] w2 fun e w' => e = .returned (.tuple #[]) ∧ GM (K.add w.heap.size) ((g2.put ⟨(80 + ow), d, r0, r1, r2, n, kn, 0⟩).has d i) w' ∧ Upto (SG (K.add w.heap.size)) w2 w') := fun w2 a => has_any (K := K.add w.heap.size) (g := g2.put ⟨(80 + ow), d, r0, r1, r2, n, kn, 0⟩) d i w2 a d16 hi
  generalize g2.put ⟨(80 + ow), d, r0, r1, r2, n, kn, 0⟩ = g3 at PU HA ⊢
  generalize g3.has d i = g4 at HA ⊢
  have A := Lib.hid a1
  have BO := Lib.hid bo
  have BR := Lib.hid br
  have U := Lib.hid u1
  have l := a1.l
  have o0 := bo.2.1 0 _ rfl
  have HH := Lib.hid hh
  clear a1 bo br u1 a hd hx hgn hf hn hR hh
  go_enter Try.func96, Try.ntmps96
  go_upto_region 3 with fail
  have A2 := Lib.hid A.out.unpin
  have BO2 := Lib.hid (BO.out.upto (Upto.setCells (S := fun i => i = K.h) rfl (fls 16) _ 23 (Upto.refl _ _)) (by omega))
  have BR2 := Lib.hid (BR.out.upto (Upto.setCells (S := fun i => i = K.h) rfl (fls 16) _ 23 (Upto.refl _ _)) (by omega))
  have U2 := Lib.hid (Upto.setCells (p := K.h) (S := SG (K.add w.heap.size)) (.inl rfl) (fls 16) _ 23 U.out)
  have A2 : Hid (GM (K.add w.heap.size) g.unpin (World.setCells _ K.h 23 (fls 16))) := A2
  generalize World.setCells _ K.h 23 (fls 16) = w1 at A2 BO2 BR2 U2 ⊢
  clear hs hcl o0 A BO BR U l
  go_upto_region 4 with (go_at_call 161; refine (PL.out _ A2.out).mono ?_; rintro e w2 ⟨rfl, a3, u3⟩; have A3 := Lib.hid a3; have BO3 := Lib.hid (BO2.out.upto u3 (SG.box lh lv lB ⟨Nat.le_refl _, by omega⟩)); have BR3 := Lib.hid (BR2.out.upto u3 (SG.box lh lv lB ⟨by omega, by omega⟩)); have U3 := Lib.hid (U2.out.trans u3); clear a3 u3)
  clear PL A2 BO2 BR2 U2
  have q0 := BR3.out.2.1 0 _ rfl
  have q1 := BR3.out.2.1 1 _ rfl
  have q2 := BR3.out.2.1 2 _ rfl
  have l1 := BR3.out.1
  go_upto_region 5 with fail
  clear q0 q1 q2
  have sz : w.heap.size < w2.heap.size := by have := BO3.out.1; omega
  have o0 := BO3.out.2.1 0 _ rfl
  have o1 := BO3.out.2.1 1 _ rfl
  have o5 := BO3.out.2.1 5 _ rfl
  have o6 := BO3.out.2.1 6 _ rfl
  go_upto_region 21 with fail
  go_region
  go_wp2_with (first
    | (go_at_call 47; refine (PU.out _ (A3.out.alloc _).drew).mono ?_; rintro e w4 ⟨rfl, a4, u4⟩; have A4 := Lib.hid a4; have U4 := Lib.hid ((U3.out.alloc _).drew.trans u4); clear a4 u4)
    | (go_at_call 160; refine (HA.out _ A4.out).mono ?_; rintro e w5 ⟨rfl, a5, u5⟩; have U5 := Lib.hid (U4.out.trans u5)))
  go_end0
  exact ⟨rfl, a5.drop, SG.drop U5.out⟩
end Go.Proofs.Ytcjcmnnhmajocab.Gn
