/- crossgrainlaw1.step: kinds 0, 4, 6 (Protect, Store, Mark of both). -/
import Derived.Test.YtcjcmnnhmajocaaMeW
namespace Go.Proofs.Ytcjcmnnhmajocaa.Me
open Go.RowKit Kt
set_option linter.unusedVariables false
set_option linter.unusedSimpArgs false
/-- a step's cells -/
def stV (kind a n v : Int) (ao : Option Addr) (L cap : Nat) (on : Bool) : Array Value := #[.int .i64 kind, .int .u32 a, .int .i64 n, .int .u32 v, .slice ao L cap, .bool on]
/-- what a step leaves -/
def StP (p : Nat) (P : RP) (w : World) (e : Ending) (w' : World) : Prop := e = .returned (.bool true) ∧ (∃ M', Pair p P M' w') ∧ Upto (PS p P) w w'
theorem StP.mk {p : Nat} {P : RP} {w w' : World} {M' : MM} (h : Pair p P M' w') (u : Upto (PS p P) w w') : StP p P w (.returned (.bool true)) w' := ⟨rfl, ⟨M', h⟩, u⟩
theorem box_at (w : World) (cs : Array Value) (t : TypeId) (i : Nat) : (w.alloc (.cells cs t)).cell? ⟨w.heap.size, i, none⟩ = cs[i]? := cell_of_row _ _ _ _ _ _ (heap_alloc_new w (.cells cs t))
set_option maxRecDepth 100000 in
set_option maxHeartbeats 4000000 in
theorem step_0 (p : Nat) (P : RP) (M : MM) (a n v : Int) (ao : Option Addr) (L cap : Nat) (on : Bool) (w : World) (h : Pair p P M w) :
    Calls Try.prog 40 #[.pointer (some ⟨p, 0, none⟩), .pointer (some ⟨P.q, 0, none⟩), .agg (stV 0 a n v ao L cap on)] w (StP p P w) := by
  unfold stV
  have lp := h.lt p (.inl rfl)
  have HP := Lib.hid h
  have HL := Lib.hid h.lt
  have CM := Lib.hid (protect_any p M)
  have CR := Lib.hid (rprotect_any P M)
  clear h
  have HA := Lib.hid (fun cs : Array Value => (HP.out.upto ((Upto.refl (fun _ => False) w).alloc (.cells cs 71)) (fun _ _ => id)))
  have HX : ¬ PS p P w.heap.size := fun hx => Nat.lt_irrefl _ (HL.out _ hx)
  have HXp : ¬ w.heap.size = p := fun hx => HX (.inl hx)
  have HXP : ¬ P.S w.heap.size := fun hx => HX (.inr hx)
  go_enter Try.func40, Try.ntmps40
  go_wp2_with fail
  have c1 := box_at w (stV 0 a n v ao L cap on) 71 1
  have c2 := box_at w (stV 0 a n v ao L cap on) 71 2
  have sz : w.heap.size < (w.alloc (.cells (stV 0 a n v ao L cap on) 71)).heap.size := by simp
  have HA1 := Lib.hid ((HA.out (stV 0 a n v ao L cap on)).upto ((Upto.refl (fun _ => False) _).drew) (fun _ _ => id))
  have U0 := Lib.hid (((Upto.refl (PS p P) w).alloc (.cells (stV 0 a n v ao L cap on) 71)).drew)
  unfold stV at c1 c2 sz HA1 U0
  simp only [List.getElem?_toArray, List.getElem?_cons_zero, List.getElem?_cons_succ] at c1 c2
  generalize w.alloc (.cells #[.int .i64 0, .int .u32 a, .int .i64 n, .int .u32 v, .slice ao L cap, .bool on] 71) = WA at c1 c2 sz HA1 U0 ⊢
  go_region_held3 (fun W => W.cell? ⟨w.heap.size, 1, none⟩ = some (.int .u32 a) ∧ W.cell? ⟨w.heap.size, 2, none⟩ = some (.int .i64 n)) (first | exact ⟨c1, c2⟩ | exact ⟨d1, d2⟩ | exact ⟨f1, f2⟩)
    ((first
      | (go_at_call 69; (with_reducible refine (CR.out _ _ _ hR1.out).mono ?_); rintro e w2 ⟨rfl, h2, o2⟩; have f1 := (o2.cell (q := ⟨w.heap.size, 1, none⟩) sz1 HXP).trans d1; have f2 := (o2.cell (q := ⟨w.heap.size, 2, none⟩) sz1 HXP).trans d2; have HE := Lib.hid (⟨hH1.out.upto o2 HP.out.ne, h2, HP.out.ne, HP.out.ok.prM _ _⟩ : Pair p P _ w2); have HU := Lib.hid (U1.out.trans (o2.mono (fun k _ hk => .inr hk))))
      | (go_at_call 68; (with_reducible refine (CM.out _ _ _ hH1.out).mono ?_); rintro e w2 ⟨rfl, h2, o2⟩; have f1 := (o2.cell (q := ⟨w.heap.size, 1, none⟩) sz1 HXp).trans d1; have f2 := (o2.cell (q := ⟨w.heap.size, 2, none⟩) sz1 HXp).trans d2; have HE := Lib.hid (⟨h2, hR1.out.upto o2 (fun k hk e => HP.out.ne (e ▸ hk)), HP.out.ne, HP.out.ok.prM _ _⟩ : Pair p P _ w2); have HU := Lib.hid (U1.out.trans (o2.mono (fun k _ hk => .inl hk))))
      | (go_at_call 68; (with_reducible refine (CM.out _ _ _ HA1.out.hc).mono ?_); rintro e w1 ⟨rfl, h1, o1⟩; have d1 := (o1.cell (q := ⟨w.heap.size, 1, none⟩) sz HXp).trans c1; have d2 := (o1.cell (q := ⟨w.heap.size, 2, none⟩) sz HXp).trans c2; have hH1 := Lib.hid h1; have hR1 := Lib.hid (HA1.out.hm h1 o1); have sz1 := Nat.lt_of_lt_of_le sz o1.size; have U1 := Lib.hid (U0.out.trans (o1.mono (fun k _ hk => .inl hk))); clear h1 o1)
      | (go_at_call 69; (with_reducible refine (CR.out _ _ _ HA1.out.rm).mono ?_); rintro e w1 ⟨rfl, h1, o1⟩; have d1 := (o1.cell (q := ⟨w.heap.size, 1, none⟩) sz HXP).trans c1; have d2 := (o1.cell (q := ⟨w.heap.size, 2, none⟩) sz HXP).trans c2; have hR1 := Lib.hid h1; have hH1 := Lib.hid (HA1.out.hc.upto o1 HP.out.ne); have sz1 := Nat.lt_of_lt_of_le sz o1.size; have U1 := Lib.hid (U0.out.trans (o1.mono (fun k _ hk => .inr hk))); clear h1 o1)))
  all_goals go_wp2
  all_goals go_ret
  all_goals exact StP.mk HE.out HU.out
set_option maxRecDepth 100000 in
set_option maxHeartbeats 4000000 in
theorem step_6 (p : Nat) (P : RP) (M : MM) (a n v : Int) (ao : Option Addr) (L cap : Nat) (on : Bool) (w : World) (h : Pair p P M w) :
    Calls Try.prog 40 #[.pointer (some ⟨p, 0, none⟩), .pointer (some ⟨P.q, 0, none⟩), .agg (stV 6 a n v ao L cap on)] w (StP p P w) := by
  unfold stV
  have lp := h.lt p (.inl rfl)
  have HP := Lib.hid h
  have HL := Lib.hid h.lt
  have CM := Lib.hid (mark_any p M)
  have CR := Lib.hid (rmark_any P M)
  clear h
  have HA := Lib.hid (fun cs : Array Value => (HP.out.upto ((Upto.refl (fun _ => False) w).alloc (.cells cs 71)) (fun _ _ => id)))
  have HX : ¬ PS p P w.heap.size := fun hx => Nat.lt_irrefl _ (HL.out _ hx)
  have HXp : ¬ w.heap.size = p := fun hx => HX (.inl hx)
  have HXP : ¬ P.S w.heap.size := fun hx => HX (.inr hx)
  go_enter Try.func40, Try.ntmps40
  go_wp2_with fail
  have c2 := box_at w (stV 6 a n v ao L cap on) 71 2
  have c5 := box_at w (stV 6 a n v ao L cap on) 71 5
  have sz : w.heap.size < (w.alloc (.cells (stV 6 a n v ao L cap on) 71)).heap.size := by simp
  have HA1 := Lib.hid ((HA.out (stV 6 a n v ao L cap on)).upto ((Upto.refl (fun _ => False) _).drew) (fun _ _ => id))
  have U0 := Lib.hid (((Upto.refl (PS p P) w).alloc (.cells (stV 6 a n v ao L cap on) 71)).drew)
  unfold stV at c2 c5 sz HA1 U0
  simp only [List.getElem?_toArray, List.getElem?_cons_zero, List.getElem?_cons_succ] at c2 c5
  generalize w.alloc (.cells #[.int .i64 6, .int .u32 a, .int .i64 n, .int .u32 v, .slice ao L cap, .bool on] 71) = WA at c2 c5 sz HA1 U0 ⊢
  go_region_held3 (fun W => W.cell? ⟨w.heap.size, 2, none⟩ = some (.int .i64 n) ∧ W.cell? ⟨w.heap.size, 5, none⟩ = some (.bool on)) (first | exact ⟨c2, c5⟩ | exact ⟨d2, d5⟩ | exact ⟨f2, f5⟩)
    ((first
      | (go_at_call 81; (with_reducible refine (CR.out _ _ _ hR1.out).mono ?_); rintro e w2 ⟨rfl, h2, o2⟩; have f2 := (o2.cell (q := ⟨w.heap.size, 2, none⟩) sz1 HXP).trans d2; have f5 := (o2.cell (q := ⟨w.heap.size, 5, none⟩) sz1 HXP).trans d5; have HE := Lib.hid (⟨hH1.out.upto o2 HP.out.ne, h2, HP.out.ne, HP.out.ok.mkM _ _⟩ : Pair p P _ w2); have HU := Lib.hid (U1.out.trans (o2.mono (fun k _ hk => .inr hk))))
      | (go_at_call 80; (with_reducible refine (CM.out _ _ _ hH1.out).mono ?_); rintro e w2 ⟨rfl, h2, o2⟩; have f2 := (o2.cell (q := ⟨w.heap.size, 2, none⟩) sz1 HXp).trans d2; have f5 := (o2.cell (q := ⟨w.heap.size, 5, none⟩) sz1 HXp).trans d5; have HE := Lib.hid (⟨h2, hR1.out.upto o2 (fun k hk e => HP.out.ne (e ▸ hk)), HP.out.ne, HP.out.ok.mkM _ _⟩ : Pair p P _ w2); have HU := Lib.hid (U1.out.trans (o2.mono (fun k _ hk => .inl hk))))
      | (go_at_call 80; (with_reducible refine (CM.out _ _ _ HA1.out.hc).mono ?_); rintro e w1 ⟨rfl, h1, o1⟩; have d2 := (o1.cell (q := ⟨w.heap.size, 2, none⟩) sz HXp).trans c2; have d5 := (o1.cell (q := ⟨w.heap.size, 5, none⟩) sz HXp).trans c5; have hH1 := Lib.hid h1; have hR1 := Lib.hid (HA1.out.hm h1 o1); have sz1 := Nat.lt_of_lt_of_le sz o1.size; have U1 := Lib.hid (U0.out.trans (o1.mono (fun k _ hk => .inl hk))); clear h1 o1)
      | (go_at_call 81; (with_reducible refine (CR.out _ _ _ HA1.out.rm).mono ?_); rintro e w1 ⟨rfl, h1, o1⟩; have d2 := (o1.cell (q := ⟨w.heap.size, 2, none⟩) sz HXP).trans c2; have d5 := (o1.cell (q := ⟨w.heap.size, 5, none⟩) sz HXP).trans c5; have hR1 := Lib.hid h1; have hH1 := Lib.hid (HA1.out.hc.upto o1 HP.out.ne); have sz1 := Nat.lt_of_lt_of_le sz o1.size; have U1 := Lib.hid (U0.out.trans (o1.mono (fun k _ hk => .inr hk))); clear h1 o1)))
  all_goals go_wp2
  all_goals go_ret
  all_goals exact StP.mk HE.out HU.out
set_option maxRecDepth 100000 in
set_option maxHeartbeats 4000000 in
theorem step_4some (p : Nat) (P : RP) (M : MM) (a n v : Int) (ao : Option Addr) (L cap : Nat) (on : Bool) (w : World) (h : Pair p P M w) (a0 : 0 ≤ a) (a1 : a < 4294967296) (v0 : 0 ≤ v) (v1 : v < 4294967296) (x : Int) (ho : sto M a n = some x) :
    Calls Try.prog 40 #[.pointer (some ⟨p, 0, none⟩), .pointer (some ⟨P.q, 0, none⟩), .agg (stV 4 a n v ao L cap on)] w (StP p P w) := by
  unfold stV
  have lp := h.lt p (.inl rfl)
  have HP := Lib.hid h
  have HL := Lib.hid h.lt
  have CM := fun w h' => store_any p M a n v w h' h.ok a0 a1 v0 v1
  have CR := fun w h' => rstore_any P M a n v w h' h.ok a0 a1 v0 v1
  rw [ho] at CM CR
  simp only [stpV] at CM CR
  have CM := Lib.hid CM
  have CR := Lib.hid CR
  have HOK := Lib.hid (h.ok.stm a n v v0 v1)
  have he := eql_stop 6 x 6 x
  rw [eqs_self] at he
  clear h ho v0 v1
  have HA := Lib.hid (fun cs : Array Value => (HP.out.upto ((Upto.refl (fun _ => False) w).alloc (.cells cs 71)) (fun _ _ => id)))
  have HX : ¬ PS p P w.heap.size := fun hx => Nat.lt_irrefl _ (HL.out _ hx)
  have HXp : ¬ w.heap.size = p := fun hx => HX (.inl hx)
  have HXP : ¬ P.S w.heap.size := fun hx => HX (.inr hx)
  go_enter Try.func40, Try.ntmps40
  go_wp2_with fail
  have c1 := box_at w (stV 4 a n v ao L cap on) 71 1
  have c2 := box_at w (stV 4 a n v ao L cap on) 71 2
  have c3 := box_at w (stV 4 a n v ao L cap on) 71 3
  have sz : w.heap.size < (w.alloc (.cells (stV 4 a n v ao L cap on) 71)).heap.size := by simp
  have HA1 := Lib.hid ((HA.out (stV 4 a n v ao L cap on)).upto ((Upto.refl (fun _ => False) _).drew) (fun _ _ => id))
  have U0 := Lib.hid (((Upto.refl (PS p P) w).alloc (.cells (stV 4 a n v ao L cap on) 71)).drew)
  unfold stV at c1 c2 c3 sz HA1 U0
  simp only [List.getElem?_toArray, List.getElem?_cons_zero, List.getElem?_cons_succ] at c1 c2 c3
  generalize w.alloc (.cells #[.int .i64 4, .int .u32 a, .int .i64 n, .int .u32 v, .slice ao L cap, .bool on] 71) = WA at c1 c2 c3 sz HA1 U0 ⊢
  go_region_held3 (fun W => W.cell? ⟨w.heap.size, 1, none⟩ = some (.int .u32 a) ∧ W.cell? ⟨w.heap.size, 2, none⟩ = some (.int .i64 n) ∧ W.cell? ⟨w.heap.size, 3, none⟩ = some (.int .u32 v)) (first | exact ⟨c1, c2, c3⟩ | exact ⟨d1, d2, d3⟩ | exact ⟨f1, f2, f3⟩)
    ((first
      | (go_at_call 77; (with_reducible refine (CR.out  _ hR1.out).mono ?_); rintro e w2 ⟨rfl, h2, o2⟩; have f1 := (o2.cell (q := ⟨w.heap.size, 1, none⟩) sz1 HXP).trans d1; have f2 := (o2.cell (q := ⟨w.heap.size, 2, none⟩) sz1 HXP).trans d2; have f3 := (o2.cell (q := ⟨w.heap.size, 3, none⟩) sz1 HXP).trans d3; have HE := Lib.hid (⟨hH1.out.upto o2 HP.out.ne, h2, HP.out.ne, HOK.out⟩ : Pair p P _ w2); have HU := Lib.hid (U1.out.trans (o2.mono (fun k _ hk => .inr hk))))
      | (go_at_call 76; (with_reducible refine (CM.out  _ hH1.out).mono ?_); rintro e w2 ⟨rfl, h2, o2⟩; have f1 := (o2.cell (q := ⟨w.heap.size, 1, none⟩) sz1 HXp).trans d1; have f2 := (o2.cell (q := ⟨w.heap.size, 2, none⟩) sz1 HXp).trans d2; have f3 := (o2.cell (q := ⟨w.heap.size, 3, none⟩) sz1 HXp).trans d3; have HE := Lib.hid (⟨h2, hR1.out.upto o2 (fun k hk e => HP.out.ne (e ▸ hk)), HP.out.ne, HOK.out⟩ : Pair p P _ w2); have HU := Lib.hid (U1.out.trans (o2.mono (fun k _ hk => .inl hk))))
      | (go_at_call 76; (with_reducible refine (CM.out  _ HA1.out.hc).mono ?_); rintro e w1 ⟨rfl, h1, o1⟩; have d1 := (o1.cell (q := ⟨w.heap.size, 1, none⟩) sz HXp).trans c1; have d2 := (o1.cell (q := ⟨w.heap.size, 2, none⟩) sz HXp).trans c2; have d3 := (o1.cell (q := ⟨w.heap.size, 3, none⟩) sz HXp).trans c3; have hH1 := Lib.hid h1; have hR1 := Lib.hid (HA1.out.hm h1 o1); have sz1 := Nat.lt_of_lt_of_le sz o1.size; have U1 := Lib.hid (U0.out.trans (o1.mono (fun k _ hk => .inl hk))); clear h1 o1)
      | (go_at_call 77; (with_reducible refine (CR.out  _ HA1.out.rm).mono ?_); rintro e w1 ⟨rfl, h1, o1⟩; have d1 := (o1.cell (q := ⟨w.heap.size, 1, none⟩) sz HXP).trans c1; have d2 := (o1.cell (q := ⟨w.heap.size, 2, none⟩) sz HXP).trans c2; have d3 := (o1.cell (q := ⟨w.heap.size, 3, none⟩) sz HXP).trans c3; have hR1 := Lib.hid h1; have hH1 := Lib.hid (HA1.out.hc.upto o1 HP.out.ne); have sz1 := Nat.lt_of_lt_of_le sz o1.size; have U1 := Lib.hid (U0.out.trans (o1.mono (fun k _ hk => .inr hk))); clear h1 o1)))
  all_goals go_wp2
  all_goals go_ret
  all_goals exact StP.mk HE.out HU.out
set_option maxRecDepth 100000 in
set_option maxHeartbeats 4000000 in
theorem step_4none (p : Nat) (P : RP) (M : MM) (a n v : Int) (ao : Option Addr) (L cap : Nat) (on : Bool) (w : World) (h : Pair p P M w) (a0 : 0 ≤ a) (a1 : a < 4294967296) (v0 : 0 ≤ v) (v1 : v < 4294967296) (ho : sto M a n = none) :
    Calls Try.prog 40 #[.pointer (some ⟨p, 0, none⟩), .pointer (some ⟨P.q, 0, none⟩), .agg (stV 4 a n v ao L cap on)] w (StP p P w) := by
  unfold stV
  have lp := h.lt p (.inl rfl)
  have HP := Lib.hid h
  have HL := Lib.hid h.lt
  have CM := fun w h' => store_any p M a n v w h' h.ok a0 a1 v0 v1
  have CR := fun w h' => rstore_any P M a n v w h' h.ok a0 a1 v0 v1
  rw [ho] at CM CR
  simp only [stpV] at CM CR
  have CM := Lib.hid CM
  have CR := Lib.hid CR
  have HOK := Lib.hid (h.ok.stm a n v v0 v1)
  have he := eql_stop 0 0 0 0
  rw [eqs_self] at he
  clear h ho v0 v1
  have HA := Lib.hid (fun cs : Array Value => (HP.out.upto ((Upto.refl (fun _ => False) w).alloc (.cells cs 71)) (fun _ _ => id)))
  have HX : ¬ PS p P w.heap.size := fun hx => Nat.lt_irrefl _ (HL.out _ hx)
  have HXp : ¬ w.heap.size = p := fun hx => HX (.inl hx)
  have HXP : ¬ P.S w.heap.size := fun hx => HX (.inr hx)
  go_enter Try.func40, Try.ntmps40
  go_wp2_with fail
  have c1 := box_at w (stV 4 a n v ao L cap on) 71 1
  have c2 := box_at w (stV 4 a n v ao L cap on) 71 2
  have c3 := box_at w (stV 4 a n v ao L cap on) 71 3
  have sz : w.heap.size < (w.alloc (.cells (stV 4 a n v ao L cap on) 71)).heap.size := by simp
  have HA1 := Lib.hid ((HA.out (stV 4 a n v ao L cap on)).upto ((Upto.refl (fun _ => False) _).drew) (fun _ _ => id))
  have U0 := Lib.hid (((Upto.refl (PS p P) w).alloc (.cells (stV 4 a n v ao L cap on) 71)).drew)
  unfold stV at c1 c2 c3 sz HA1 U0
  simp only [List.getElem?_toArray, List.getElem?_cons_zero, List.getElem?_cons_succ] at c1 c2 c3
  generalize w.alloc (.cells #[.int .i64 4, .int .u32 a, .int .i64 n, .int .u32 v, .slice ao L cap, .bool on] 71) = WA at c1 c2 c3 sz HA1 U0 ⊢
  go_region_held3 (fun W => W.cell? ⟨w.heap.size, 1, none⟩ = some (.int .u32 a) ∧ W.cell? ⟨w.heap.size, 2, none⟩ = some (.int .i64 n) ∧ W.cell? ⟨w.heap.size, 3, none⟩ = some (.int .u32 v)) (first | exact ⟨c1, c2, c3⟩ | exact ⟨d1, d2, d3⟩ | exact ⟨f1, f2, f3⟩)
    ((first
      | (go_at_call 77; (with_reducible refine (CR.out  _ hR1.out).mono ?_); rintro e w2 ⟨rfl, h2, o2⟩; have f1 := (o2.cell (q := ⟨w.heap.size, 1, none⟩) sz1 HXP).trans d1; have f2 := (o2.cell (q := ⟨w.heap.size, 2, none⟩) sz1 HXP).trans d2; have f3 := (o2.cell (q := ⟨w.heap.size, 3, none⟩) sz1 HXP).trans d3; have HE := Lib.hid (⟨hH1.out.upto o2 HP.out.ne, h2, HP.out.ne, HOK.out⟩ : Pair p P _ w2); have HU := Lib.hid (U1.out.trans (o2.mono (fun k _ hk => .inr hk))))
      | (go_at_call 76; (with_reducible refine (CM.out  _ hH1.out).mono ?_); rintro e w2 ⟨rfl, h2, o2⟩; have f1 := (o2.cell (q := ⟨w.heap.size, 1, none⟩) sz1 HXp).trans d1; have f2 := (o2.cell (q := ⟨w.heap.size, 2, none⟩) sz1 HXp).trans d2; have f3 := (o2.cell (q := ⟨w.heap.size, 3, none⟩) sz1 HXp).trans d3; have HE := Lib.hid (⟨h2, hR1.out.upto o2 (fun k hk e => HP.out.ne (e ▸ hk)), HP.out.ne, HOK.out⟩ : Pair p P _ w2); have HU := Lib.hid (U1.out.trans (o2.mono (fun k _ hk => .inl hk))))
      | (go_at_call 76; (with_reducible refine (CM.out  _ HA1.out.hc).mono ?_); rintro e w1 ⟨rfl, h1, o1⟩; have d1 := (o1.cell (q := ⟨w.heap.size, 1, none⟩) sz HXp).trans c1; have d2 := (o1.cell (q := ⟨w.heap.size, 2, none⟩) sz HXp).trans c2; have d3 := (o1.cell (q := ⟨w.heap.size, 3, none⟩) sz HXp).trans c3; have hH1 := Lib.hid h1; have hR1 := Lib.hid (HA1.out.hm h1 o1); have sz1 := Nat.lt_of_lt_of_le sz o1.size; have U1 := Lib.hid (U0.out.trans (o1.mono (fun k _ hk => .inl hk))); clear h1 o1)
      | (go_at_call 77; (with_reducible refine (CR.out  _ HA1.out.rm).mono ?_); rintro e w1 ⟨rfl, h1, o1⟩; have d1 := (o1.cell (q := ⟨w.heap.size, 1, none⟩) sz HXP).trans c1; have d2 := (o1.cell (q := ⟨w.heap.size, 2, none⟩) sz HXP).trans c2; have d3 := (o1.cell (q := ⟨w.heap.size, 3, none⟩) sz HXP).trans c3; have hR1 := Lib.hid h1; have hH1 := Lib.hid (HA1.out.hc.upto o1 HP.out.ne); have sz1 := Nat.lt_of_lt_of_le sz o1.size; have U1 := Lib.hid (U0.out.trans (o1.mono (fun k _ hk => .inr hk))); clear h1 o1)))
  all_goals go_wp2
  all_goals go_ret
  all_goals exact StP.mk HE.out HU.out
theorem step_4 (p : Nat) (P : RP) (M : MM) (a n v : Int) (ao : Option Addr) (L cap : Nat) (on : Bool) (w : World) (h : Pair p P M w) (a0 : 0 ≤ a) (a1 : a < 4294967296) (v0 : 0 ≤ v) (v1 : v < 4294967296) :
    Calls Try.prog 40 #[.pointer (some ⟨p, 0, none⟩), .pointer (some ⟨P.q, 0, none⟩), .agg (stV 4 a n v ao L cap on)] w (StP p P w) := by
  cases ho : sto M a n with
  | none => exact step_4none p P M a n v ao L cap on w h a0 a1 v0 v1 ho
  | some x => exact step_4some p P M a n v ao L cap on w h a0 a1 v0 v1 x ho
end Go.Proofs.Ytcjcmnnhmajocaa.Me
