/- IRChecks' walk. -/
import Derived.Test.YtcjcmnnhmajocaaIrX
import Derived.Test.YtcjcmnnhmajocaaIrL
namespace Go.Proofs.Ytcjcmnnhmajocaa.Ic
open Go.RowKit Kt
set_option linter.unusedVariables false
set_option linter.unusedSimpArgs false
theorem behind1 {w w1 : World} {X : Array Value} {t : TypeId} (hb : Below w.heap.size w w1) : Boxed w1.heap.size X (w1.alloc (.cells X t)) ∧ Below w.heap.size w (w1.alloc (.cells X t)) := ⟨Boxed.new _ _ _, hb.alloc hb.size _⟩
set_option maxHeartbeats 4000000 in
theorem irchecks_walk (os : List Opr) (ao : Option Addr) (cap : Nat) (pc cnt byt kind : Int) (w : World) (hops : Ops os ao cap w) (hreach : os.length * 56 ≤ 140737488351232) :
    Calls Try.prog 4 #[.agg #[.int .u32 pc, .int .i64 cnt, .int .i64 byt, .slice ao os.length cap], .int .i64 kind] w fun e w' => e = .returned (.bool true) ∧ Below w.heap.size w w' := by
  have HO := Lib.hid hops
  clear hops
  have hr1 : ∀ e1 e2 : Int, e1 = e2 → (e1 == e2) = true := fun _ _ h => by simp [h]
  generalize hp : chk os cnt byt = p
  have HP := Lib.hid hp
  clear hp
  have HC : Hid (∀ (w : World) (a : Option Addr) (c : Nat), Ops os a c w → Calls Try.prog 15 #[.agg #[.int .u32 pc, .int .i64 cnt, .int .i64 byt, .slice a os.length c]] w fun e w' => e = .returned (.tuple #[.int .i64 p.1, .int .i64 p.2]) ∧ Below w.heap.size w w') := fun w a c h => by
    have := check_any os a c pc cnt byt w h
    rw [HP.out] at this
    exact this
  have HR : Hid (∀ (w : World) (a : Option Addr) (c : Nat), Ops os a c w → Calls Try.prog 16 #[.agg #[.int .u32 pc, .int .i64 cnt, .int .i64 byt, .slice a os.length c]] w fun e w' => e = .returned (.tuple #[.int .i64 p.1, .int .i64 p.2]) ∧ Below w.heap.size w w') := fun w a c h => by
    have := rcheck_any os a c pc cnt byt w h
    rw [HP.out] at this
    exact this
  obtain ⟨p1, p2⟩ := p
  dsimp only at HC HR
  clear HP hr1
  have hG : ∀ k : Int, (gv k == gv k) = true := fun k => by simp
  have hg1 := hG kind
  have HGv : Hid (∀ w : World, Calls Try.prog 18 #[.int .i64 kind] w fun e w' => e = .returned (.bool (gv kind)) ∧ w = w') := fun w => gives_any kind w
  have HRv : Hid (∀ w : World, Calls Try.prog 19 #[.int .i64 kind] w fun e w' => e = .returned (.bool (gv kind)) ∧ w = w') := fun w => rgives_any kind w
  clear hG
  generalize gv kind = gk at HGv HRv hg1
  go_enter Try.func4, Try.ntmps4
  go_wp2_with fail
  refine (twin_any os ao cap pc cnt byt _ (HO.out.keep ((Below.refl _ _).alloc (Nat.le_refl _) _)) hreach).mono ?_
  rintro e w1 ⟨ao1, c1, rfl, hO1, hb1⟩
  have hw1 : Below w.heap.size w w1 := ((Below.refl _ _).alloc (Nat.le_refl _) _).trans (hb1.mono (by simp))
  have hx1 : Boxed w.heap.size #[.int .u32 pc, .int .i64 cnt, .int .i64 byt, .slice ao os.length cap] w1 := (Boxed.new w _ _).keep hb1
  have a0 := hx1.2 0 _ rfl
  have a1 := hx1.2 1 _ rfl
  have a2 := hx1.2 2 _ rfl
  have a3 := hx1.2 3 _ rfl
  have al := hx1.1
  have HX1 := Lib.hid hx1
  have HA1 := Lib.hid (HO.out.keep hw1)
  have HO1 := Lib.hid hO1
  have HW1 := Lib.hid hw1
  have hb02 := hw1.size
  clear hb1 hx1 hO1 hw1 HO
  generalize hb0 : w.heap.size = b0 at *
  have HB0 := Lib.hid hb0
  clear hb0
  go_wp2_with fail
  have hw2 : Below w1.heap.size w1 (w1.alloc (.cells #[.int .u32 pc, .int .i64 cnt, .int .i64 byt, .slice ao1 os.length c1] 28)) := (Below.refl _ _).alloc (Nat.le_refl _) _
  have hx2 : Boxed w1.heap.size #[.int .u32 pc, .int .i64 cnt, .int .i64 byt, .slice ao1 os.length c1] (w1.alloc (.cells #[.int .u32 pc, .int .i64 cnt, .int .i64 byt, .slice ao1 os.length c1] 28)) := Boxed.new _ _ _
  have hA2 := HA1.out.keep hw2
  have hB2 := HO1.out.keep hw2
  have hX2 := HX1.out.keep hw2
  refine (HC.out _ ao cap hA2).mono ?_
  rintro e w3 ⟨rfl, hb3⟩
  have hA3 := hA2.keep hb3
  have hB3 := hB2.keep hb3
  have hX3 := hX2.keep hb3
  have hY3 := hx2.keep hb3
  have hW3 : Below b0 w w3 := (HW1.out.trans (hw2.mono hb02)).trans (hb3.mono (by simp; omega))
  clear a0 a1 a2 a3 al hw2 hx2 hA2 hB2 hX2 HX1 HA1 HO1 hb3 HC
  have a0 := hX3.2 0 _ rfl
  have a1 := hX3.2 1 _ rfl
  have a2 := hX3.2 2 _ rfl
  have a3 := hX3.2 3 _ rfl
  have al := hX3.1
  have c0 := hY3.2 0 _ rfl
  have c1' := hY3.2 1 _ rfl
  have c2 := hY3.2 2 _ rfl
  have c3 := hY3.2 3 _ rfl
  have cl := hY3.1
  generalize w1.heap.size = b1 at *
  go_wp2_with fail
  refine (HR.out _ ao1 c1 hB3).mono ?_
  rintro e w4 ⟨rfl, hb4⟩
  have hA4 := hA3.keep hb4
  have hB4 := hB3.keep hb4
  have hX4 := hX3.keep hb4
  have hY4 := hY3.keep hb4
  have hW4 : Below b0 w w4 := hW3.trans (hb4.mono (by omega))
  clear a0 a1 a2 a3 al c0 c1' c2 c3 cl hA3 hB3 hX3 hY3 hb4 HR hW3
  have a0 := hX4.2 0 _ rfl
  have a1 := hX4.2 1 _ rfl
  have a2 := hX4.2 2 _ rfl
  have a3 := hX4.2 3 _ rfl
  have al := hX4.1
  have c0 := hY4.2 0 _ rfl
  have c1' := hY4.2 1 _ rfl
  have c2 := hY4.2 2 _ rfl
  have c3 := hY4.2 3 _ rfl
  have cl := hY4.1
  have q1 : (p1 == p1) = true := by simp
  have q2 : (p2 == p2) = true := by simp
  have HS := Lib.hid (same_ops os ao cap ao1 c1 w4 hA4 hB4)
  go_wp2_with (first
    | (go_at_call 17; refine HS.out.mono ?_; rintro e w5 ⟨rfl, hb5⟩)
    | (go_at_call 18; refine (HGv.out _).mono ?_; rintro e w6 ⟨rfl, rfl⟩)
    | (go_at_call 19; refine (HRv.out _).mono ?_; rintro e w7 ⟨rfl, rfl⟩))
  go_ret
  exact ⟨rfl, by rw [HB0.out]; exact hW4.trans (hb5.mono (by omega))⟩
end Go.Proofs.Ytcjcmnnhmajocaa.Ic
