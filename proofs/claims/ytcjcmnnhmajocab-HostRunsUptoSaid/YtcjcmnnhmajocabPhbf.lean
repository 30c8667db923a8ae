/- The host's machine: where it goes on, or is left. -/
import Derived.Test.YtcjcmnnhmajocabPhbb
import Derived.Test.YtcjcmnnhmajocabPhbe
set_option linter.unusedVariables false
set_option linter.unusedSimpArgs false
set_option maxRecDepth 100000
set_option maxHeartbeats 16000000
namespace Go.Proofs.Ytcjcmnnhmajocab.Hr
open Go.RowKit Kt Me Fl Ev Ho
variable {h : Nat} {K : Hk} {s : Pm}
def ifL (c : Bool) (l : Lf) : Option Lf := if c then some l else none
def ifS (c : Bool) (a b : Pm) : Pm := if c then a else b
theorem control_14 (x : Cd) (w : World) (a : MR h K s w) (ho : x.op = 14) :
  Calls Try.prog 156 #[.pointer (some ⟨h, 0, none⟩), .agg #[.int .i64 x.op, .int .i64 x.d, .int .i64 x.a, .int .i64 x.b, .int .i64 x.c, .int .i64 x.n, .int .u32 x.k, .int .u32 x.x]] w fun e w' => e = .returned (lfV (some ⟨1, 0, 0, x.k, wrap64 (s.done + x.n)⟩)) ∧ MR h K s w' ∧ Upto (fun i => i = h) w w' := by
 have q1 : (x.op == 1) = false := by simp [ho]
 have q10 : (x.op == 10) = false := by simp [ho]
 have q11 : (x.op == 11) = false := by simp [ho]
 have q96 : (x.op == 96) = false := by simp [ho]
 have q14 : (x.op == 14) = true := by simp [ho]
 have q15 : (x.op == 15) = false := by simp [ho]
 have q12 : (x.op == 12) = false := by simp [ho]
 have q13 : (x.op == 13) = false := by simp [ho]
 have q4 : (x.op == 4) = false := by simp [ho]
 clear ho
 obtain ⟨xb, lb, u0⟩ := two_new w x
 have a0 := a.upto u0 id
 have ld := a.l
 clear a
 go_enter Try.func156, Try.ntmps156
 go_upto_region 1 with fail
 generalize hWA : (w.alloc (.cells #[.int .i64 x.op, .int .i64 x.d, .int .i64 x.a, .int .i64 x.b, .int .i64 x.c, .int .i64 x.n, .int .u32 x.k, .int .u32 x.x] 108)).alloc (.cells #[.int .i64 0, .int .i64 0, .int .u32 0, .int .u32 0, .int .i64 0, .int .i64 0] 52) = WA at xb lb u0 a0  ⊢
 have hA : w.heap.size + 1 < WA.heap.size := lb.l
 clear hWA
 have XX := κ xb
 have A := κ a0
 have LR := κ lb
 have U := κ (u0.mono (T := fun i => i = h) fun _ _ h => h.elim)
 clear xb lb u0 a0
 have x0 := XX.out.c0
 have lx := XX.out.l
 have ON := fun w a => on_any (h := h) (K := K) (s := s) 1 0 0 x.op x.d x.a x.b x.c x.n x.k x.x w a
 have ON := κ ON
 obtain ⟨x0, x1, x2, x3, x4, x5, x6, x7⟩ := XX.out.all
 have lx := XX.out.l
 go_upto_region 14 with fail
 go_wp2_with (go_at_call 152; (with_reducible refine (ON.out _ A.out).mono ?_); rintro e w7 ⟨rfl, b3⟩; have u3 := Upto.of_below (S := fun _ => False) b3; have A3 := A.out.upto u3 id; have LR := κ (LR.out.upto u3 id); have U3 := U.out.trans (u3.mono (T := fun i => i = h) fun _ _ h => h.elim); obtain ⟨g0, g1, g2, g3, g4, g5⟩ := LR.out.all; have zg := LR.out.z; have lg := LR.out.l; clear b3 u3)
 clear g0 g1 g2 g3 g4 g5 zg lg
 clear x0 x1 x2 x3 x4 x5 x6 x7 lx
 have A9 := A3.upto (up6' (w.heap.size + 1) w7 1 0 0 x.k (wrap64 (s.done + x.n)) 0) (by omega)
 have U9 := up6 (h := w.heap.size + 1) U3 (.inr (Nat.le_succ _)) 1 0 0 x.k (wrap64 (s.done + x.n)) 0
 have LR9 := LR.out.put 1 0 0 x.k (wrap64 (s.done + x.n)) 0
 have up := up6' (w.heap.size + 1) w7 1 0 0 x.k (wrap64 (s.done + x.n)) 0
 rw [p6_eq]
 generalize p6 _ _ _ _ _ _ _ _ = W9 at LR9 up A9 U9 ⊢
 obtain ⟨g0, g1, g2, g3, g4, g5⟩ := LR9.all
 exact bodyPost_ret (v := .tuple #[.agg #[.int .i64 1, .int .i64 0, .int .u32 0, .int .u32 x.k, .int .i64 (wrap64 (s.done + x.n)), .int .i64 0], .bool true]) (by simp [results, Try.results156, go_sem, g0, g1, g2, g3, g4, g5]) rfl ⟨rfl, A9, U9⟩
theorem control_12 (x : Cd) (w : World) (a : MR h K s w) (ho : x.op = 12) :
  Calls Try.prog 156 #[.pointer (some ⟨h, 0, none⟩), .agg #[.int .i64 x.op, .int .i64 x.d, .int .i64 x.a, .int .i64 x.b, .int .i64 x.c, .int .i64 x.n, .int .u32 x.k, .int .u32 x.x]] w fun e w' => e = .returned (lfV (some ⟨3, x.d, x.x, x.k, wrap64 (s.done + x.n)⟩)) ∧ MR h K s w' ∧ Upto (fun i => i = h) w w' := by
 have q1 : (x.op == 1) = false := by simp [ho]
 have q10 : (x.op == 10) = false := by simp [ho]
 have q11 : (x.op == 11) = false := by simp [ho]
 have q96 : (x.op == 96) = false := by simp [ho]
 have q14 : (x.op == 14) = false := by simp [ho]
 have q15 : (x.op == 15) = false := by simp [ho]
 have q12 : (x.op == 12) = true := by simp [ho]
 have q13 : (x.op == 13) = false := by simp [ho]
 have q4 : (x.op == 4) = false := by simp [ho]
 clear ho
 obtain ⟨xb, lb, u0⟩ := two_new w x
 have a0 := a.upto u0 id
 have ld := a.l
 clear a
 go_enter Try.func156, Try.ntmps156
 go_upto_region 1 with fail
 generalize hWA : (w.alloc (.cells #[.int .i64 x.op, .int .i64 x.d, .int .i64 x.a, .int .i64 x.b, .int .i64 x.c, .int .i64 x.n, .int .u32 x.k, .int .u32 x.x] 108)).alloc (.cells #[.int .i64 0, .int .i64 0, .int .u32 0, .int .u32 0, .int .i64 0, .int .i64 0] 52) = WA at xb lb u0 a0  ⊢
 have hA : w.heap.size + 1 < WA.heap.size := lb.l
 clear hWA
 have XX := κ xb
 have A := κ a0
 have LR := κ lb
 have U := κ (u0.mono (T := fun i => i = h) fun _ _ h => h.elim)
 clear xb lb u0 a0
 have x0 := XX.out.c0
 have lx := XX.out.l
 have ON := fun w a => on_any (h := h) (K := K) (s := s) 3 x.d x.x x.op x.d x.a x.b x.c x.n x.k x.x w a
 have ON := κ ON
 obtain ⟨x0, x1, x2, x3, x4, x5, x6, x7⟩ := XX.out.all
 have lx := XX.out.l
 go_upto_region 18 with fail
 go_wp2_with (go_at_call 152; (with_reducible refine (ON.out _ A.out).mono ?_); rintro e w7 ⟨rfl, b3⟩; have u3 := Upto.of_below (S := fun _ => False) b3; have A3 := A.out.upto u3 id; have LR := κ (LR.out.upto u3 id); have U3 := U.out.trans (u3.mono (T := fun i => i = h) fun _ _ h => h.elim); obtain ⟨g0, g1, g2, g3, g4, g5⟩ := LR.out.all; have zg := LR.out.z; have lg := LR.out.l; clear b3 u3)
 clear g0 g1 g2 g3 g4 g5 zg lg
 clear x0 x1 x2 x3 x4 x5 x6 x7 lx
 have A9 := A3.upto (up6' (w.heap.size + 1) w7 3 x.d x.x x.k (wrap64 (s.done + x.n)) 0) (by omega)
 have U9 := up6 (h := w.heap.size + 1) U3 (.inr (Nat.le_succ _)) 3 x.d x.x x.k (wrap64 (s.done + x.n)) 0
 have LR9 := LR.out.put 3 x.d x.x x.k (wrap64 (s.done + x.n)) 0
 have up := up6' (w.heap.size + 1) w7 3 x.d x.x x.k (wrap64 (s.done + x.n)) 0
 rw [p6_eq]
 generalize p6 _ _ _ _ _ _ _ _ = W9 at LR9 up A9 U9 ⊢
 obtain ⟨g0, g1, g2, g3, g4, g5⟩ := LR9.all
 exact bodyPost_ret (v := .tuple #[.agg #[.int .i64 3, .int .i64 x.d, .int .u32 x.x, .int .u32 x.k, .int .i64 (wrap64 (s.done + x.n)), .int .i64 0], .bool true]) (by simp [results, Try.results156, go_sem, g0, g1, g2, g3, g4, g5]) rfl ⟨rfl, A9, U9⟩
theorem control_10 (x : Cd) (M : MM) (w : World) (a : MR h K s w) (ho : x.op = 10) (hm : HC K.p M w) :
  Calls Try.prog 156 #[.pointer (some ⟨h, 0, none⟩), .agg #[.int .i64 x.op, .int .i64 x.d, .int .i64 x.a, .int .i64 x.b, .int .i64 x.c, .int .i64 x.n, .int .u32 x.k, .int .u32 x.x]] w fun e w' => e = .returned (lfV (ifL (anyT M.hi) ⟨1, 0, 0, x.k, wrap64 (s.done + x.n)⟩)) ∧ MR h K s w' ∧ Upto (fun i => i = h) w w' := by
 have q1 : (x.op == 1) = false := by simp [ho]
 have q10 : (x.op == 10) = true := by simp [ho]
 have q11 : (x.op == 11) = false := by simp [ho]
 have q96 : (x.op == 96) = false := by simp [ho]
 have q14 : (x.op == 14) = false := by simp [ho]
 have q15 : (x.op == 15) = false := by simp [ho]
 have q12 : (x.op == 12) = false := by simp [ho]
 have q13 : (x.op == 13) = false := by simp [ho]
 have q4 : (x.op == 4) = false := by simp [ho]
 have hm0 := hm.upto (two_new w x).2.2 id
 clear ho
 obtain ⟨xb, lb, u0⟩ := two_new w x
 have a0 := a.upto u0 id
 have ld := a.l
 clear a
 go_enter Try.func156, Try.ntmps156
 go_upto_region 1 with fail
 generalize hWA : (w.alloc (.cells #[.int .i64 x.op, .int .i64 x.d, .int .i64 x.a, .int .i64 x.b, .int .i64 x.c, .int .i64 x.n, .int .u32 x.k, .int .u32 x.x] 108)).alloc (.cells #[.int .i64 0, .int .i64 0, .int .u32 0, .int .u32 0, .int .i64 0, .int .i64 0] 52) = WA at xb lb u0 a0 hm0 ⊢
 have hA : w.heap.size + 1 < WA.heap.size := lb.l
 clear hWA
 have XX := κ xb
 have A := κ a0
 have LR := κ lb
 have U := κ (u0.mono (T := fun i => i = h) fun _ _ h => h.elim)
 clear xb lb u0 a0
 have HM := κ hm0
 clear hm0 hm
 have am := A.out.m
 have lh := A.out.l
 have CT := κ (fun w h => touched_c K.p M w h)
 obtain ⟨tb, htb⟩ : ∃ tb, anyT M.hi = tb := ⟨_, rfl⟩
 rw [htb] at CT
 have HT := κ htb
 clear htb
 have x0 := XX.out.c0
 have lx := XX.out.l
 cases tb
 ·generalize hWX : WA = WX at XX A LR U HM am lh x0 lx hA ⊢
  go_upto_region 24 with (go_at_call 24; refine (CT.out _ HM.out).mono ?_; rintro e w3 ⟨rfl, rfl⟩)
  clear x0 lx am lh
  obtain ⟨g0, g1, g2, g3, g4, g5⟩ := LR.out.all
  have zg := LR.out.z
  have lg := LR.out.l
  go_wp2_with fail
  clear g0 g1 g2 g3 g4 g5 zg lg
  have A9 := A.out.upto (up6' (w.heap.size + 1) WX 0 0 0 0 0 0) (by omega)
  have U9 := up6 (h := w.heap.size + 1) U.out (.inr (Nat.le_succ _)) 0 0 0 0 0 0
  have LR9 := LR.out.put 0 0 0 0 0 0
  have up := up6' (w.heap.size + 1) WX 0 0 0 0 0 0
  rw [p6_eq]
  generalize p6 _ _ _ _ _ _ _ _ = W9 at LR9 up A9 U9 ⊢
  obtain ⟨g0, g1, g2, g3, g4, g5⟩ := LR9.all
  exact bodyPost_ret (v := .tuple #[.agg #[.int .i64 0, .int .i64 0, .int .u32 0, .int .u32 0, .int .i64 0, .int .i64 0], .bool false]) (by simp [results, Try.results156, go_sem, g0, g1, g2, g3, g4, g5]) rfl ⟨by rw [HT.out]; rfl, A9, U9⟩
 ·go_upto_region 6 with (go_at_call 24; refine (CT.out _ HM.out).mono ?_; rintro e w3 ⟨rfl, rfl⟩)
  clear x0 lx am lh
  have ON := fun w a => on_any (h := h) (K := K) (s := s) 1 0 0 x.op x.d x.a x.b x.c x.n x.k x.x w a
  have ON := κ ON
  obtain ⟨x0, x1, x2, x3, x4, x5, x6, x7⟩ := XX.out.all
  have lx := XX.out.l
  go_wp2_with (go_at_call 152; (with_reducible refine (ON.out _ A.out).mono ?_); rintro e w7 ⟨rfl, b3⟩; have u3 := Upto.of_below (S := fun _ => False) b3; have A3 := A.out.upto u3 id; have LR := κ (LR.out.upto u3 id); have U3 := U.out.trans (u3.mono (T := fun i => i = h) fun _ _ h => h.elim); obtain ⟨g0, g1, g2, g3, g4, g5⟩ := LR.out.all; have zg := LR.out.z; have lg := LR.out.l; clear b3 u3)
  clear g0 g1 g2 g3 g4 g5 zg lg
  clear x0 x1 x2 x3 x4 x5 x6 x7 lx
  have A9 := A3.upto (up6' (w.heap.size + 1) w7 1 0 0 x.k (wrap64 (s.done + x.n)) 0) (by omega)
  have U9 := up6 (h := w.heap.size + 1) U3 (.inr (Nat.le_succ _)) 1 0 0 x.k (wrap64 (s.done + x.n)) 0
  have LR9 := LR.out.put 1 0 0 x.k (wrap64 (s.done + x.n)) 0
  have up := up6' (w.heap.size + 1) w7 1 0 0 x.k (wrap64 (s.done + x.n)) 0
  rw [p6_eq]
  generalize p6 _ _ _ _ _ _ _ _ = W9 at LR9 up A9 U9 ⊢
  obtain ⟨g0, g1, g2, g3, g4, g5⟩ := LR9.all
  exact bodyPost_ret (v := .tuple #[.agg #[.int .i64 1, .int .i64 0, .int .u32 0, .int .u32 x.k, .int .i64 (wrap64 (s.done + x.n)), .int .i64 0], .bool true]) (by simp [results, Try.results156, go_sem, g0, g1, g2, g3, g4, g5]) rfl ⟨by rw [HT.out]; rfl, A9, U9⟩
theorem control_11 (x : Cd) (ra : Nat) (w : World) (a : MR h K s w) (ho : x.op = 11) (ha : x.a = ra) (la : ra < 16) :
  Calls Try.prog 156 #[.pointer (some ⟨h, 0, none⟩), .agg #[.int .i64 x.op, .int .i64 x.d, .int .i64 x.a, .int .i64 x.b, .int .i64 x.c, .int .i64 x.n, .int .u32 x.k, .int .u32 x.x]] w fun e w' => e = .returned (lfV (ifL (s.reg ra != 0) ⟨1, 0, 0, x.k, wrap64 (s.done + x.n)⟩)) ∧ MR h K (s.gets ra) w' ∧ Upto (fun i => i = h) w w' := by
 have q1 : (x.op == 1) = false := by simp [ho]
 have q10 : (x.op == 10) = false := by simp [ho]
 have q11 : (x.op == 11) = true := by simp [ho]
 have q96 : (x.op == 96) = false := by simp [ho]
 have q14 : (x.op == 14) = false := by simp [ho]
 have q15 : (x.op == 15) = false := by simp [ho]
 have q12 : (x.op == 12) = false := by simp [ho]
 have q13 : (x.op == 13) = false := by simp [ho]
 have q4 : (x.op == 4) = false := by simp [ho]
 have GA : Hid (∀ w, MR h K s w → Calls Try.prog 151 #[.pointer (some ⟨h, 0, none⟩), .int .i64 ra] w fun e w' => e = .returned (.int .u32 (s.reg ra)) ∧ MR h K (s.gets ra) w' ∧ Upto (fun i => i = h) w w') := fun w a => get_any ra w a la
 have D1 : Hid ((s.gets ra).done = s.done) := rfl
 generalize s.gets ra = s1 at GA D1 ⊢
 generalize s.reg ra = va at GA ⊢
 have HA := κ ha
 clear ha
 clear ho
 obtain ⟨xb, lb, u0⟩ := two_new w x
 have a0 := a.upto u0 id
 have ld := a.l
 clear a
 go_enter Try.func156, Try.ntmps156
 go_upto_region 1 with fail
 generalize hWA : (w.alloc (.cells #[.int .i64 x.op, .int .i64 x.d, .int .i64 x.a, .int .i64 x.b, .int .i64 x.c, .int .i64 x.n, .int .u32 x.k, .int .u32 x.x] 108)).alloc (.cells #[.int .i64 0, .int .i64 0, .int .u32 0, .int .u32 0, .int .i64 0, .int .i64 0] 52) = WA at xb lb u0 a0  ⊢
 have hA : w.heap.size + 1 < WA.heap.size := lb.l
 clear hWA
 have XX := κ xb
 have A := κ a0
 have LR := κ lb
 have U := κ (u0.mono (T := fun i => i = h) fun _ _ h => h.elim)
 clear xb lb u0 a0
 by_cases hz : va = 0
 ·have e1 : (va != 0) = false := by simp [hz]
  have HZ := κ e1
  have e2 : (va == 0) = true := by simp [hz]
  clear hz
  have x0 := XX.out.c0
  have xa := XX.out.c2
  rw [HA.out] at xa
  have lx := XX.out.l
  have lh := A.out.l
  go_upto_region 24 with (go_at_call 151; refine (GA.out _ A.out).mono ?_; rintro e w3 ⟨rfl, a3, u3⟩; have XX := κ (XX.out.upto u3 (by omega)); have LR := κ (LR.out.upto u3 (by omega)); have U := κ (U.out.trans u3); have A := κ a3; clear a3 u3)
  clear x0 xa lx
  have hA3 : w.heap.size + 1 < w3.heap.size := LR.out.l
  generalize hWX : w3 = WX at XX A LR U hA3 ⊢
  obtain ⟨g0, g1, g2, g3, g4, g5⟩ := LR.out.all
  have zg := LR.out.z
  have lg := LR.out.l
  go_wp2_with fail
  clear g0 g1 g2 g3 g4 g5 zg lg
  have A9 := A.out.upto (up6' (w.heap.size + 1) WX 0 0 0 0 0 0) (by omega)
  have U9 := up6 (h := w.heap.size + 1) U.out (.inr (Nat.le_succ _)) 0 0 0 0 0 0
  have LR9 := LR.out.put 0 0 0 0 0 0
  have up := up6' (w.heap.size + 1) WX 0 0 0 0 0 0
  rw [p6_eq]
  generalize p6 _ _ _ _ _ _ _ _ = W9 at LR9 up A9 U9 ⊢
  obtain ⟨g0, g1, g2, g3, g4, g5⟩ := LR9.all
  exact bodyPost_ret (v := .tuple #[.agg #[.int .i64 0, .int .i64 0, .int .u32 0, .int .u32 0, .int .i64 0, .int .i64 0], .bool false]) (by simp [results, Try.results156, go_sem, g0, g1, g2, g3, g4, g5]) rfl ⟨by rw [HZ.out]; rfl, A9, U9⟩
 ·have e1 : (va != 0) = true := by simp [hz]
  have HZ := κ e1
  have e2 : (va == 0) = false := by simp [hz]
  clear hz
  have x0 := XX.out.c0
  have xa := XX.out.c2
  rw [HA.out] at xa
  have lx := XX.out.l
  have lh := A.out.l
  go_upto_region 9 with (go_at_call 151; refine (GA.out _ A.out).mono ?_; rintro e w3 ⟨rfl, a3, u3⟩; have XX := κ (XX.out.upto u3 (by omega)); have LR := κ (LR.out.upto u3 (by omega)); have U := κ (U.out.trans u3); have A := κ a3; clear a3 u3)
  clear x0 xa lx
  have hA3 : w.heap.size + 1 < w3.heap.size := LR.out.l
  have ON := fun w a => on_any (h := h) (K := K) (s := s1) 1 0 0 x.op x.d x.a x.b x.c x.n x.k x.x w a
  rw [D1.out] at ON
  have ON := κ ON
  obtain ⟨x0, x1, x2, x3, x4, x5, x6, x7⟩ := XX.out.all
  have lx := XX.out.l
  go_wp2_with (go_at_call 152; (with_reducible refine (ON.out _ A.out).mono ?_); rintro e w7 ⟨rfl, b3⟩; have u3 := Upto.of_below (S := fun _ => False) b3; have A3 := A.out.upto u3 id; have LR := κ (LR.out.upto u3 id); have U3 := U.out.trans (u3.mono (T := fun i => i = h) fun _ _ h => h.elim); obtain ⟨g0, g1, g2, g3, g4, g5⟩ := LR.out.all; have zg := LR.out.z; have lg := LR.out.l; clear b3 u3)
  clear g0 g1 g2 g3 g4 g5 zg lg
  clear x0 x1 x2 x3 x4 x5 x6 x7 lx
  have A9 := A3.upto (up6' (w.heap.size + 1) w7 1 0 0 x.k (wrap64 (s.done + x.n)) 0) (by omega)
  have U9 := up6 (h := w.heap.size + 1) U3 (.inr (Nat.le_succ _)) 1 0 0 x.k (wrap64 (s.done + x.n)) 0
  have LR9 := LR.out.put 1 0 0 x.k (wrap64 (s.done + x.n)) 0
  have up := up6' (w.heap.size + 1) w7 1 0 0 x.k (wrap64 (s.done + x.n)) 0
  rw [p6_eq]
  generalize p6 _ _ _ _ _ _ _ _ = W9 at LR9 up A9 U9 ⊢
  obtain ⟨g0, g1, g2, g3, g4, g5⟩ := LR9.all
  exact bodyPost_ret (v := .tuple #[.agg #[.int .i64 1, .int .i64 0, .int .u32 0, .int .u32 x.k, .int .i64 (wrap64 (s.done + x.n)), .int .i64 0], .bool true]) (by simp [results, Try.results156, go_sem, g0, g1, g2, g3, g4, g5]) rfl ⟨by rw [HZ.out]; rfl, A9, U9⟩
theorem control_13 (x : Cd) (ra : Nat) (w : World) (a : MR h K s w) (ho : x.op = 13) (ha : x.a = ra) (la : ra < 16) :
  Calls Try.prog 156 #[.pointer (some ⟨h, 0, none⟩), .agg #[.int .i64 x.op, .int .i64 x.d, .int .i64 x.a, .int .i64 x.b, .int .i64 x.c, .int .i64 x.n, .int .u32 x.k, .int .u32 x.x]] w fun e w' => e = .returned (lfV (ifL (s.reg ra != 0) ⟨3, x.d, 0, x.k, wrap64 (s.done + x.n)⟩)) ∧ MR h K (s.gets ra) w' ∧ Upto (fun i => i = h) w w' := by
 have q1 : (x.op == 1) = false := by simp [ho]
 have q10 : (x.op == 10) = false := by simp [ho]
 have q11 : (x.op == 11) = false := by simp [ho]
 have q96 : (x.op == 96) = false := by simp [ho]
 have q14 : (x.op == 14) = false := by simp [ho]
 have q15 : (x.op == 15) = false := by simp [ho]
 have q12 : (x.op == 12) = false := by simp [ho]
 have q13 : (x.op == 13) = true := by simp [ho]
 have q4 : (x.op == 4) = false := by simp [ho]
 have GA : Hid (∀ w, MR h K s w → Calls Try.prog 151 #[.pointer (some ⟨h, 0, none⟩), .int .i64 ra] w fun e w' => e = .returned (.int .u32 (s.reg ra)) ∧ MR h K (s.gets ra) w' ∧ Upto (fun i => i = h) w w') := fun w a => get_any ra w a la
 have D1 : Hid ((s.gets ra).done = s.done) := rfl
 generalize s.gets ra = s1 at GA D1 ⊢
 generalize s.reg ra = va at GA ⊢
 have HA := κ ha
 clear ha
 clear ho
 obtain ⟨xb, lb, u0⟩ := two_new w x
 have a0 := a.upto u0 id
 have ld := a.l
 clear a
 go_enter Try.func156, Try.ntmps156
 go_upto_region 1 with fail
 generalize hWA : (w.alloc (.cells #[.int .i64 x.op, .int .i64 x.d, .int .i64 x.a, .int .i64 x.b, .int .i64 x.c, .int .i64 x.n, .int .u32 x.k, .int .u32 x.x] 108)).alloc (.cells #[.int .i64 0, .int .i64 0, .int .u32 0, .int .u32 0, .int .i64 0, .int .i64 0] 52) = WA at xb lb u0 a0  ⊢
 have hA : w.heap.size + 1 < WA.heap.size := lb.l
 clear hWA
 have XX := κ xb
 have A := κ a0
 have LR := κ lb
 have U := κ (u0.mono (T := fun i => i = h) fun _ _ h => h.elim)
 clear xb lb u0 a0
 by_cases hz : va = 0
 ·have e1 : (va != 0) = false := by simp [hz]
  have HZ := κ e1
  have e2 : (va == 0) = true := by simp [hz]
  clear hz
  have x0 := XX.out.c0
  have xa := XX.out.c2
  rw [HA.out] at xa
  have lx := XX.out.l
  have lh := A.out.l
  go_upto_region 24 with (go_at_call 151; refine (GA.out _ A.out).mono ?_; rintro e w3 ⟨rfl, a3, u3⟩; have XX := κ (XX.out.upto u3 (by omega)); have LR := κ (LR.out.upto u3 (by omega)); have U := κ (U.out.trans u3); have A := κ a3; clear a3 u3)
  clear x0 xa lx
  have hA3 : w.heap.size + 1 < w3.heap.size := LR.out.l
  generalize hWX : w3 = WX at XX A LR U hA3 ⊢
  obtain ⟨g0, g1, g2, g3, g4, g5⟩ := LR.out.all
  have zg := LR.out.z
  have lg := LR.out.l
  go_wp2_with fail
  clear g0 g1 g2 g3 g4 g5 zg lg
  have A9 := A.out.upto (up6' (w.heap.size + 1) WX 0 0 0 0 0 0) (by omega)
  have U9 := up6 (h := w.heap.size + 1) U.out (.inr (Nat.le_succ _)) 0 0 0 0 0 0
  have LR9 := LR.out.put 0 0 0 0 0 0
  have up := up6' (w.heap.size + 1) WX 0 0 0 0 0 0
  rw [p6_eq]
  generalize p6 _ _ _ _ _ _ _ _ = W9 at LR9 up A9 U9 ⊢
  obtain ⟨g0, g1, g2, g3, g4, g5⟩ := LR9.all
  exact bodyPost_ret (v := .tuple #[.agg #[.int .i64 0, .int .i64 0, .int .u32 0, .int .u32 0, .int .i64 0, .int .i64 0], .bool false]) (by simp [results, Try.results156, go_sem, g0, g1, g2, g3, g4, g5]) rfl ⟨by rw [HZ.out]; rfl, A9, U9⟩
 ·have e1 : (va != 0) = true := by simp [hz]
  have HZ := κ e1
  have e2 : (va == 0) = false := by simp [hz]
  clear hz
  have x0 := XX.out.c0
  have xa := XX.out.c2
  rw [HA.out] at xa
  have lx := XX.out.l
  have lh := A.out.l
  go_upto_region 21 with (go_at_call 151; refine (GA.out _ A.out).mono ?_; rintro e w3 ⟨rfl, a3, u3⟩; have XX := κ (XX.out.upto u3 (by omega)); have LR := κ (LR.out.upto u3 (by omega)); have U := κ (U.out.trans u3); have A := κ a3; clear a3 u3)
  clear x0 xa lx
  have hA3 : w.heap.size + 1 < w3.heap.size := LR.out.l
  have ON := fun w a => on_any (h := h) (K := K) (s := s1) 3 x.d 0 x.op x.d x.a x.b x.c x.n x.k x.x w a
  rw [D1.out] at ON
  have ON := κ ON
  obtain ⟨x0, x1, x2, x3, x4, x5, x6, x7⟩ := XX.out.all
  have lx := XX.out.l
  go_wp2_with (go_at_call 152; (with_reducible refine (ON.out _ A.out).mono ?_); rintro e w7 ⟨rfl, b3⟩; have u3 := Upto.of_below (S := fun _ => False) b3; have A3 := A.out.upto u3 id; have LR := κ (LR.out.upto u3 id); have U3 := U.out.trans (u3.mono (T := fun i => i = h) fun _ _ h => h.elim); obtain ⟨g0, g1, g2, g3, g4, g5⟩ := LR.out.all; have zg := LR.out.z; have lg := LR.out.l; clear b3 u3)
  clear g0 g1 g2 g3 g4 g5 zg lg
  clear x0 x1 x2 x3 x4 x5 x6 x7 lx
  have A9 := A3.upto (up6' (w.heap.size + 1) w7 3 x.d 0 x.k (wrap64 (s.done + x.n)) 0) (by omega)
  have U9 := up6 (h := w.heap.size + 1) U3 (.inr (Nat.le_succ _)) 3 x.d 0 x.k (wrap64 (s.done + x.n)) 0
  have LR9 := LR.out.put 3 x.d 0 x.k (wrap64 (s.done + x.n)) 0
  have up := up6' (w.heap.size + 1) w7 3 x.d 0 x.k (wrap64 (s.done + x.n)) 0
  rw [p6_eq]
  generalize p6 _ _ _ _ _ _ _ _ = W9 at LR9 up A9 U9 ⊢
  obtain ⟨g0, g1, g2, g3, g4, g5⟩ := LR9.all
  exact bodyPost_ret (v := .tuple #[.agg #[.int .i64 3, .int .i64 x.d, .int .u32 0, .int .u32 x.k, .int .i64 (wrap64 (s.done + x.n)), .int .i64 0], .bool true]) (by simp [results, Try.results156, go_sem, g0, g1, g2, g3, g4, g5]) rfl ⟨by rw [HZ.out]; rfl, A9, U9⟩
theorem control_15 (x : Cd) (w : World) (a : MR h K s w) (ho : x.op = 15) (hs : Sl K.us K.ao K.cap w) (hw : UsOk K.us) (hx0 : 0 ≤ x.k) (hx1 : x.k < 4294967296) :
  Calls Try.prog 156 #[.pointer (some ⟨h, 0, none⟩), .agg #[.int .i64 x.op, .int .i64 x.d, .int .i64 x.a, .int .i64 x.b, .int .i64 x.c, .int .i64 x.n, .int .u32 x.k, .int .u32 x.x]] w fun e w' => e = .returned (lfV (none)) ∧ MR h K (s.goes K.us x) w' ∧ Upto (fun i => i = h) w w' := by
 have q1 : (x.op == 1) = false := by simp [ho]
 have q10 : (x.op == 10) = false := by simp [ho]
 have q11 : (x.op == 11) = false := by simp [ho]
 have q96 : (x.op == 96) = false := by simp [ho]
 have q14 : (x.op == 14) = false := by simp [ho]
 have q15 : (x.op == 15) = true := by simp [ho]
 have q12 : (x.op == 12) = false := by simp [ho]
 have q13 : (x.op == 13) = false := by simp [ho]
 have q4 : (x.op == 4) = false := by simp [ho]
 have hs0 := Sl.upto hs (two_new w x).2.2 (fun _ _ _ => id)
 clear hs
 have GO := κ (fun w a hs => goes_any (h := h) (K := K) (s := s) x w a hs hw hx0 hx1)
 generalize s.goes K.us x = s' at GO ⊢
 clear ho
 obtain ⟨xb, lb, u0⟩ := two_new w x
 have a0 := a.upto u0 id
 have ld := a.l
 clear a
 go_enter Try.func156, Try.ntmps156
 go_upto_region 1 with fail
 generalize hWA : (w.alloc (.cells #[.int .i64 x.op, .int .i64 x.d, .int .i64 x.a, .int .i64 x.b, .int .i64 x.c, .int .i64 x.n, .int .u32 x.k, .int .u32 x.x] 108)).alloc (.cells #[.int .i64 0, .int .i64 0, .int .u32 0, .int .u32 0, .int .i64 0, .int .i64 0] 52) = WA at xb lb u0 a0 hs0 ⊢
 have hA : w.heap.size + 1 < WA.heap.size := lb.l
 clear hWA
 have XX := κ xb
 have A := κ a0
 have LR := κ lb
 have U := κ (u0.mono (T := fun i => i = h) fun _ _ h => h.elim)
 clear xb lb u0 a0
 have HS := κ hs0
 have lh := A.out.l
 clear hs0
 obtain ⟨x0, x1, x2, x3, x4, x5, x6, x7⟩ := XX.out.all
 have lx := XX.out.l
 go_upto_region 16 with fail
 clear lh
 go_wp2_with (go_at_call 192; (with_reducible refine (GO.out _ A.out HS.out).mono ?_); rintro e w7 ⟨rfl, a3, u3⟩; have A3 := κ a3; have LR := κ (LR.out.upto u3 (by omega)); have U3 := κ (U.out.trans u3); clear a3 u3; obtain ⟨g0, g1, g2, g3, g4, g5⟩ := LR.out.all; have zg := LR.out.z; have lg := LR.out.l)
 clear g0 g1 g2 g3 g4 g5 zg lg
 clear x0 x1 x2 x3 x4 x5 x6 x7 lx
 have A9 := A3.out.upto (up6' (w.heap.size + 1) w7 0 0 0 0 0 0) (by omega)
 have U9 := up6 (h := w.heap.size + 1) U3.out (.inr (Nat.le_succ _)) 0 0 0 0 0 0
 have LR9 := LR.out.put 0 0 0 0 0 0
 have up := up6' (w.heap.size + 1) w7 0 0 0 0 0 0
 rw [p6_eq]
 generalize p6 _ _ _ _ _ _ _ _ = W9 at LR9 up A9 U9 ⊢
 obtain ⟨g0, g1, g2, g3, g4, g5⟩ := LR9.all
 exact bodyPost_ret (v := .tuple #[.agg #[.int .i64 0, .int .i64 0, .int .u32 0, .int .u32 0, .int .i64 0, .int .i64 0], .bool false]) (by simp [results, Try.results156, go_sem, g0, g1, g2, g3, g4, g5]) rfl ⟨rfl, A9, U9⟩
theorem control_96 (x : Cd) (ra : Nat) (w : World) (a : MR h K s w) (ho : x.op = 96) (hs : Sl K.us K.ao K.cap w) (hw : UsOk K.us) (hx0 : 0 ≤ x.k) (hx1 : x.k < 4294967296) (ha : x.a = ra) (la : ra < 16) (hsh : ∀ g, K.ao = some g → 0 < K.us.length → g.block ≠ h) :
  Calls Try.prog 156 #[.pointer (some ⟨h, 0, none⟩), .agg #[.int .i64 x.op, .int .i64 x.d, .int .i64 x.a, .int .i64 x.b, .int .i64 x.c, .int .i64 x.n, .int .u32 x.k, .int .u32 x.x]] w fun e w' => e = .returned (lfV (none)) ∧ MR h K (ifS (s.reg ra != 0 && !(s.gets ra).stuck) ((s.gets ra).goes K.us x) (s.gets ra)) w' ∧ Upto (fun i => i = h) w w' := by
 have q1 : (x.op == 1) = false := by simp [ho]
 have q10 : (x.op == 10) = false := by simp [ho]
 have q11 : (x.op == 11) = false := by simp [ho]
 have q96 : (x.op == 96) = true := by simp [ho]
 have q14 : (x.op == 14) = false := by simp [ho]
 have q15 : (x.op == 15) = false := by simp [ho]
 have q12 : (x.op == 12) = false := by simp [ho]
 have q13 : (x.op == 13) = false := by simp [ho]
 have q4 : (x.op == 4) = false := by simp [ho]
 have hs0 := Sl.upto hs (two_new w x).2.2 (fun _ _ _ => id)
 clear hs
 have GA : Hid (∀ w, MR h K s w → Calls Try.prog 151 #[.pointer (some ⟨h, 0, none⟩), .int .i64 ra] w fun e w' => e = .returned (.int .u32 (s.reg ra)) ∧ MR h K (s.gets ra) w' ∧ Upto (fun i => i = h) w w') := fun w a => get_any ra w a la
 generalize s.gets ra = s1 at GA ⊢
 generalize s.reg ra = va at GA ⊢
 have HA := κ ha
 clear ha
 have GO := κ (fun w a hs => goes_any (h := h) (K := K) (s := s1) x w a hs hw hx0 hx1)
 generalize s1.goes K.us x = s' at GO ⊢
 clear ho
 obtain ⟨xb, lb, u0⟩ := two_new w x
 have a0 := a.upto u0 id
 have ld := a.l
 clear a
 go_enter Try.func156, Try.ntmps156
 go_upto_region 1 with fail
 generalize hWA : (w.alloc (.cells #[.int .i64 x.op, .int .i64 x.d, .int .i64 x.a, .int .i64 x.b, .int .i64 x.c, .int .i64 x.n, .int .u32 x.k, .int .u32 x.x] 108)).alloc (.cells #[.int .i64 0, .int .i64 0, .int .u32 0, .int .u32 0, .int .i64 0, .int .i64 0] 52) = WA at xb lb u0 a0 hs0 ⊢
 have hA : w.heap.size + 1 < WA.heap.size := lb.l
 clear hWA
 have XX := κ xb
 have A := κ a0
 have LR := κ lb
 have U := κ (u0.mono (T := fun i => i = h) fun _ _ h => h.elim)
 clear xb lb u0 a0
 have HS := κ hs0
 clear hs0
 by_cases hz : va = 0
 ·have e1 : (va != 0) = false := by simp [hz]
  have e2 : (va == 0) = true := by simp [hz]
  have HZ := κ (show ifS (va != 0 && !s1.stuck) s' s1 = s1 from by rw [e1]; rfl)
  clear hz
  have x0 := XX.out.c0
  have xa := XX.out.c2
  rw [HA.out] at xa
  have lx := XX.out.l
  have lh := A.out.l
  go_upto_region 24 with (go_at_call 151; refine (GA.out _ A.out).mono ?_; rintro e w3 ⟨rfl, a3, u3⟩; have XX := κ (XX.out.upto u3 (by omega)); have LR := κ (LR.out.upto u3 (by omega)); have U := κ (U.out.trans u3); have A := κ a3; clear a3 u3)
  clear x0 xa lx
  have hA3 : w.heap.size + 1 < w3.heap.size := LR.out.l
  generalize hWX : w3 = WX at XX A LR U hA3 ⊢
  obtain ⟨g0, g1, g2, g3, g4, g5⟩ := LR.out.all
  have zg := LR.out.z
  have lg := LR.out.l
  go_wp2_with fail
  clear g0 g1 g2 g3 g4 g5 zg lg
  have A9 := A.out.upto (up6' (w.heap.size + 1) WX 0 0 0 0 0 0) (by omega)
  have U9 := up6 (h := w.heap.size + 1) U.out (.inr (Nat.le_succ _)) 0 0 0 0 0 0
  have LR9 := LR.out.put 0 0 0 0 0 0
  have up := up6' (w.heap.size + 1) WX 0 0 0 0 0 0
  rw [p6_eq]
  generalize p6 _ _ _ _ _ _ _ _ = W9 at LR9 up A9 U9 ⊢
  obtain ⟨g0, g1, g2, g3, g4, g5⟩ := LR9.all
  exact bodyPost_ret (v := .tuple #[.agg #[.int .i64 0, .int .i64 0, .int .u32 0, .int .u32 0, .int .i64 0, .int .i64 0], .bool false]) (by simp [results, Try.results156, go_sem, g0, g1, g2, g3, g4, g5]) rfl ⟨rfl, by rw [HZ.out]; exact A9, U9⟩
 ·have e1 : (va != 0) = true := by simp [hz]
  have e2 : (va == 0) = false := by simp [hz]
  obtain ⟨bst, hbst⟩ : ∃ b, s1.stuck = b := ⟨_, rfl⟩
  have HB := κ hbst
  clear hz hbst
  have x0 := XX.out.c0
  have xa := XX.out.c2
  rw [HA.out] at xa
  have lx := XX.out.l
  have lh := A.out.l
  cases bst
  ·have HZ := κ (show ifS (va != 0 && !s1.stuck) s' s1 = s' from by rw [e1, HB.out]; rfl)
   go_upto_region 12 with (go_at_call 151; refine (GA.out _ A.out).mono ?_; rintro e w3 ⟨rfl, a3, u3⟩; have XX := κ (XX.out.upto u3 (by omega)); have LR := κ (LR.out.upto u3 (by omega)); have HS := κ (Sl.upto HS.out u3 hsh); have U := κ (U.out.trans u3); have cst := a3.st; rw [HB.out] at cst; have A := κ a3; have lh3 := a3.l; clear a3 u3)
   clear x0 xa lx cst
   have hA3 : w.heap.size + 1 < w3.heap.size := LR.out.l
   obtain ⟨x0, x1, x2, x3, x4, x5, x6, x7⟩ := XX.out.all
   have lx := XX.out.l
   go_wp2_with (go_at_call 192; (with_reducible refine (GO.out _ A.out HS.out).mono ?_); rintro e w7 ⟨rfl, a3, u3⟩; have A3 := κ a3; have LR := κ (LR.out.upto u3 (by omega)); have U3 := κ (U.out.trans u3); clear a3 u3; obtain ⟨g0, g1, g2, g3, g4, g5⟩ := LR.out.all; have zg := LR.out.z; have lg := LR.out.l)
   clear g0 g1 g2 g3 g4 g5 zg lg
   clear x0 x1 x2 x3 x4 x5 x6 x7 lx
   have A9 := A3.out.upto (up6' (w.heap.size + 1) w7 0 0 0 0 0 0) (by omega)
   have U9 := up6 (h := w.heap.size + 1) U3.out (.inr (Nat.le_succ _)) 0 0 0 0 0 0
   have LR9 := LR.out.put 0 0 0 0 0 0
   have up := up6' (w.heap.size + 1) w7 0 0 0 0 0 0
   rw [p6_eq]
   generalize p6 _ _ _ _ _ _ _ _ = W9 at LR9 up A9 U9 ⊢
   obtain ⟨g0, g1, g2, g3, g4, g5⟩ := LR9.all
   exact bodyPost_ret (v := .tuple #[.agg #[.int .i64 0, .int .i64 0, .int .u32 0, .int .u32 0, .int .i64 0, .int .i64 0], .bool false]) (by simp [results, Try.results156, go_sem, g0, g1, g2, g3, g4, g5]) rfl ⟨rfl, by rw [HZ.out]; exact A9, U9⟩
  ·have HZ := κ (show ifS (va != 0 && !s1.stuck) s' s1 = s1 from by rw [e1, HB.out]; rfl)
   go_upto_region 24 with (go_at_call 151; refine (GA.out _ A.out).mono ?_; rintro e w3 ⟨rfl, a3, u3⟩; have XX := κ (XX.out.upto u3 (by omega)); have LR := κ (LR.out.upto u3 (by omega)); have U := κ (U.out.trans u3); have cst := a3.st; rw [HB.out] at cst; have A := κ a3; have lh3 := a3.l; clear a3 u3)
   clear x0 xa lx cst
   have hA3 : w.heap.size + 1 < w3.heap.size := LR.out.l
   generalize hWX : w3 = WX at XX A LR U hA3 ⊢
   obtain ⟨g0, g1, g2, g3, g4, g5⟩ := LR.out.all
   have zg := LR.out.z
   have lg := LR.out.l
   go_wp2_with fail
   clear g0 g1 g2 g3 g4 g5 zg lg
   have A9 := A.out.upto (up6' (w.heap.size + 1) WX 0 0 0 0 0 0) (by omega)
   have U9 := up6 (h := w.heap.size + 1) U.out (.inr (Nat.le_succ _)) 0 0 0 0 0 0
   have LR9 := LR.out.put 0 0 0 0 0 0
   have up := up6' (w.heap.size + 1) WX 0 0 0 0 0 0
   rw [p6_eq]
   generalize p6 _ _ _ _ _ _ _ _ = W9 at LR9 up A9 U9 ⊢
   obtain ⟨g0, g1, g2, g3, g4, g5⟩ := LR9.all
   exact bodyPost_ret (v := .tuple #[.agg #[.int .i64 0, .int .i64 0, .int .u32 0, .int .u32 0, .int .i64 0, .int .i64 0], .bool false]) (by simp [results, Try.results156, go_sem, g0, g1, g2, g3, g4, g5]) rfl ⟨rfl, by rw [HZ.out]; exact A9, U9⟩
theorem control_4 (x : Cd) (ra : Nat) (w : World) (a : MR h K s w) (ho : x.op = 4) (hs : Sl K.us K.ao K.cap w) (hw : UsOk K.us) (ht : Tb K.tab K.tao K.tcap w) (htl : K.tab.length ≤ 1048576) (ha : x.a = ra) (la : ra < 16) (hrg : 0 ≤ s.reg ra ∧ s.reg ra < 4294967296) (hsh : ∀ g, K.ao = some g → 0 < K.us.length → g.block ≠ h) (hth : ∀ g, K.tao = some g → 0 < K.tab.length → g.block ≠ h) :
  Calls Try.prog 156 #[.pointer (some ⟨h, 0, none⟩), .agg #[.int .i64 x.op, .int .i64 x.d, .int .i64 x.a, .int .i64 x.b, .int .i64 x.c, .int .i64 x.n, .int .u32 x.k, .int .u32 x.x]] w fun e w' => e = .returned (lfV (lvL K s ra x.n)) ∧ MR h K (lvS K s ra x.n) w' ∧ Upto (fun i => i = h) w w' := by
 have q1 : (x.op == 1) = false := by simp [ho]
 have q10 : (x.op == 10) = false := by simp [ho]
 have q11 : (x.op == 11) = false := by simp [ho]
 have q96 : (x.op == 96) = false := by simp [ho]
 have q14 : (x.op == 14) = false := by simp [ho]
 have q15 : (x.op == 15) = false := by simp [ho]
 have q12 : (x.op == 12) = false := by simp [ho]
 have q13 : (x.op == 13) = false := by simp [ho]
 have q4 : (x.op == 4) = true := by simp [ho]
 have ht0 := ht.upto (two_new w x).2.2 (fun _ _ _ => id)
 clear ht
 have hs0 := Sl.upto hs (two_new w x).2.2 (fun _ _ _ => id)
 clear hs
 have LV := fun w a hs ht => leaves_any (h := h) (K := K) (s := s) x ra w a hs ht hw htl ha la hrg hsh hth
 generalize lvS K s ra x.n = s' at LV ⊢
 clear hrg hsh hth htl ha
 clear ho
 obtain ⟨xb, lb, u0⟩ := two_new w x
 have a0 := a.upto u0 id
 have ld := a.l
 clear a
 go_enter Try.func156, Try.ntmps156
 go_upto_region 1 with fail
 generalize hWA : (w.alloc (.cells #[.int .i64 x.op, .int .i64 x.d, .int .i64 x.a, .int .i64 x.b, .int .i64 x.c, .int .i64 x.n, .int .u32 x.k, .int .u32 x.x] 108)).alloc (.cells #[.int .i64 0, .int .i64 0, .int .u32 0, .int .u32 0, .int .i64 0, .int .i64 0] 52) = WA at xb lb u0 a0 hs0 ht0 ⊢
 have hA : w.heap.size + 1 < WA.heap.size := lb.l
 clear hWA
 have XX := κ xb
 have A := κ a0
 have LR := κ lb
 have U := κ (u0.mono (T := fun i => i = h) fun _ _ h => h.elim)
 clear xb lb u0 a0
 have HS := κ hs0
 have HT := κ ht0
 clear hs0 ht0
 obtain ⟨o, ho⟩ : ∃ o, lvL K s ra x.n = o := ⟨_, rfl⟩
 rw [ho] at LV
 have HO := κ ho
 clear ho
 have lh := A.out.l
 rcases o with _ | l
 ·unfold lfV at LV
  have LV := κ LV
  obtain ⟨x0, x1, x2, x3, x4, x5, x6, x7⟩ := XX.out.all
  have lx := XX.out.l
  go_upto_region 23 with fail
  clear lh
  go_wp2_with (go_at_call 193; (with_reducible refine (LV.out _ A.out HS.out HT.out).mono ?_); rintro e w7 ⟨rfl, a3, u3⟩; have A3 := κ a3; have LR := κ (LR.out.upto u3 (by omega)); have U3 := κ (U.out.trans u3); clear a3 u3; obtain ⟨g0, g1, g2, g3, g4, g5⟩ := LR.out.all; have zg := LR.out.z; have lg := LR.out.l)
  clear g0 g1 g2 g3 g4 g5 zg lg
  clear x0 x1 x2 x3 x4 x5 x6 x7 lx
  have A9 := A3.out.upto (up6' (w.heap.size + 1) w7 0 0 0 0 0 0) (by omega)
  have U9 := up6 (h := w.heap.size + 1) U3.out (.inr (Nat.le_succ _)) 0 0 0 0 0 0
  have LR9 := LR.out.put 0 0 0 0 0 0
  have up := up6' (w.heap.size + 1) w7 0 0 0 0 0 0
  rw [p6_eq]
  generalize p6 _ _ _ _ _ _ _ _ = W9 at LR9 up A9 U9 ⊢
  obtain ⟨g0, g1, g2, g3, g4, g5⟩ := LR9.all
  exact bodyPost_ret (v := .tuple #[.agg #[.int .i64 0, .int .i64 0, .int .u32 0, .int .u32 0, .int .i64 0, .int .i64 0], .bool false]) (by simp [results, Try.results156, go_sem, g0, g1, g2, g3, g4, g5]) rfl ⟨by rw [HO.out]; rfl, A9, U9⟩
 ·unfold lfV at LV
  dsimp only at LV
  have LV := κ LV
  obtain ⟨x0, x1, x2, x3, x4, x5, x6, x7⟩ := XX.out.all
  have lx := XX.out.l
  go_upto_region 23 with fail
  clear lh
  go_wp2_with (go_at_call 193; (with_reducible refine (LV.out _ A.out HS.out HT.out).mono ?_); rintro e w7 ⟨rfl, a3, u3⟩; have A3 := κ a3; have LR := κ (LR.out.upto u3 (by omega)); have U3 := κ (U.out.trans u3); clear a3 u3; obtain ⟨g0, g1, g2, g3, g4, g5⟩ := LR.out.all; have zg := LR.out.z; have lg := LR.out.l)
  clear g0 g1 g2 g3 g4 g5 zg lg
  clear x0 x1 x2 x3 x4 x5 x6 x7 lx
  have A9 := A3.out.upto (up6' (w.heap.size + 1) w7 l.k l.sk l.sx l.pc l.n 0) (by omega)
  have U9 := up6 (h := w.heap.size + 1) U3.out (.inr (Nat.le_succ _)) l.k l.sk l.sx l.pc l.n 0
  have LR9 := LR.out.put l.k l.sk l.sx l.pc l.n 0
  have up := up6' (w.heap.size + 1) w7 l.k l.sk l.sx l.pc l.n 0
  rw [p6_eq]
  generalize p6 _ _ _ _ _ _ _ _ = W9 at LR9 up A9 U9 ⊢
  obtain ⟨g0, g1, g2, g3, g4, g5⟩ := LR9.all
  exact bodyPost_ret (v := .tuple #[.agg #[.int .i64 l.k, .int .i64 l.sk, .int .u32 l.sx, .int .u32 l.pc, .int .i64 l.n, .int .i64 0], .bool true]) (by simp [results, Try.results156, go_sem, g0, g1, g2, g3, g4, g5]) rfl ⟨by rw [HO.out]; rfl, A9, U9⟩
theorem control_1 (x : Cd) (M : MM) (w : World) (a : MR h K s w) (ho : x.op = 1) (hm : HC K.p M w) (hp : K.p ≠ h) :
  Calls Try.prog 156 #[.pointer (some ⟨h, 0, none⟩), .agg #[.int .i64 x.op, .int .i64 x.d, .int .i64 x.a, .int .i64 x.b, .int .i64 x.c, .int .i64 x.n, .int .u32 x.k, .int .u32 x.x]] w fun e w' => e = .returned (lfV (entL K M s x)) ∧ (entL K M s x = none → ∃ b, MR h K { s with en := wrap64 (s.en + 1), sp := some b } w' ∧ w.heap.size ≤ b ∧ SpR b (fun _ => none) 0 w') ∧ (entL K M s x ≠ none → MR h K s w') ∧ Upto (fun i => i = h) w w' := by
 have q1 : (x.op == 1) = true := by simp [ho]
 have q10 : (x.op == 10) = false := by simp [ho]
 have q11 : (x.op == 11) = false := by simp [ho]
 have q96 : (x.op == 96) = false := by simp [ho]
 have q14 : (x.op == 14) = false := by simp [ho]
 have q15 : (x.op == 15) = false := by simp [ho]
 have q12 : (x.op == 12) = false := by simp [ho]
 have q13 : (x.op == 13) = false := by simp [ho]
 have q4 : (x.op == 4) = false := by simp [ho]
 have hm0 := hm.upto (two_new w x).2.2 id
 clear ho
 obtain ⟨xb, lb, u0⟩ := two_new w x
 have a0 := a.upto u0 id
 have ld := a.l
 clear a
 go_enter Try.func156, Try.ntmps156
 go_upto_region 1 with fail
 generalize hWA : (w.alloc (.cells #[.int .i64 x.op, .int .i64 x.d, .int .i64 x.a, .int .i64 x.b, .int .i64 x.c, .int .i64 x.n, .int .u32 x.k, .int .u32 x.x] 108)).alloc (.cells #[.int .i64 0, .int .i64 0, .int .u32 0, .int .u32 0, .int .i64 0, .int .i64 0] 52) = WA at xb lb u0 a0 hm0 ⊢
 have hA : w.heap.size + 1 < WA.heap.size := lb.l
 clear hWA
 have XX := κ xb
 have A := κ a0
 have LR := κ lb
 have U := κ (u0.mono (T := fun i => i = h) fun _ _ h => h.elim)
 clear xb lb u0 a0
 have HM := κ hm0
 clear hm0 hm
 have EN := fun w a hm => enter_any (h := h) (K := K) (s := s) M x w a hm hp
 obtain ⟨o, ho⟩ : ∃ o, entL K M s x = o := ⟨_, rfl⟩
 rw [ho] at EN
 have HO := κ ho
 clear ho
 have lh := A.out.l
 rcases o with _ | l
 ·unfold lfV at EN
  have EN := κ EN
  obtain ⟨x0, x1, x2, x3, x4, x5, x6, x7⟩ := XX.out.all
  have lx := XX.out.l
  go_upto_region 3 with fail
  clear lh
  go_wp2_with (go_at_call 191; (with_reducible refine (EN.out _ A.out HM.out).mono ?_); rintro e w7 ⟨rfl, e3, f3, u3⟩; have E3 := κ e3; have F3 := κ f3; have LR := κ (LR.out.upto u3 (by omega)); have U3 := κ (U.out.trans u3); have S3 := κ u3.size; clear e3 f3 u3; obtain ⟨g0, g1, g2, g3, g4, g5⟩ := LR.out.all; have zg := LR.out.z; have lg := LR.out.l)
  clear g0 g1 g2 g3 g4 g5 zg lg
  clear x0 x1 x2 x3 x4 x5 x6 x7 lx
  have V9 := (up6' (w.heap.size + 1) w7 0 0 0 0 0 0)
  have U9 := up6 (h := w.heap.size + 1) U3.out (.inr (Nat.le_succ _)) 0 0 0 0 0 0
  have LR9 := LR.out.put 0 0 0 0 0 0
  have up := up6' (w.heap.size + 1) w7 0 0 0 0 0 0
  rw [p6_eq]
  generalize p6 _ _ _ _ _ _ _ _ = W9 at LR9 up V9 U9 ⊢
  obtain ⟨g0, g1, g2, g3, g4, g5⟩ := LR9.all
  exact bodyPost_ret (v := .tuple #[.agg #[.int .i64 0, .int .i64 0, .int .u32 0, .int .u32 0, .int .i64 0, .int .i64 0], .bool false]) (by simp [results, Try.results156, go_sem, g0, g1, g2, g3, g4, g5]) rfl ⟨by rw [HO.out]; rfl, fun _ => by obtain ⟨b, a9, hb, o9⟩ := E3.out (by first | rfl | trivial); exact ⟨b, a9.upto V9 (by omega), by omega, (SpR.new o9).upto V9 (by omega)⟩, fun h => absurd HO.out h, U9⟩
 ·unfold lfV at EN
  dsimp only at EN
  have EN := κ EN
  obtain ⟨x0, x1, x2, x3, x4, x5, x6, x7⟩ := XX.out.all
  have lx := XX.out.l
  go_upto_region 3 with fail
  clear lh
  go_wp2_with (go_at_call 191; (with_reducible refine (EN.out _ A.out HM.out).mono ?_); rintro e w7 ⟨rfl, e3, f3, u3⟩; have E3 := κ e3; have F3 := κ f3; have LR := κ (LR.out.upto u3 (by omega)); have U3 := κ (U.out.trans u3); have S3 := κ u3.size; clear e3 f3 u3; obtain ⟨g0, g1, g2, g3, g4, g5⟩ := LR.out.all; have zg := LR.out.z; have lg := LR.out.l)
  clear g0 g1 g2 g3 g4 g5 zg lg
  clear x0 x1 x2 x3 x4 x5 x6 x7 lx
  have V9 := (up6' (w.heap.size + 1) w7 l.k l.sk l.sx l.pc l.n 0)
  have U9 := up6 (h := w.heap.size + 1) U3.out (.inr (Nat.le_succ _)) l.k l.sk l.sx l.pc l.n 0
  have LR9 := LR.out.put l.k l.sk l.sx l.pc l.n 0
  have up := up6' (w.heap.size + 1) w7 l.k l.sk l.sx l.pc l.n 0
  rw [p6_eq]
  generalize p6 _ _ _ _ _ _ _ _ = W9 at LR9 up V9 U9 ⊢
  obtain ⟨g0, g1, g2, g3, g4, g5⟩ := LR9.all
  exact bodyPost_ret (v := .tuple #[.agg #[.int .i64 l.k, .int .i64 l.sk, .int .u32 l.sx, .int .u32 l.pc, .int .i64 l.n, .int .i64 0], .bool true]) (by simp [results, Try.results156, go_sem, g0, g1, g2, g3, g4, g5]) rfl ⟨by rw [HO.out]; rfl, fun h => by rw [HO.out] at h; exact (nomatch h), fun _ => (F3.out (by first | trivial | (intro h; nomatch h))).upto V9 (by omega), U9⟩
end Go.Proofs.Ytcjcmnnhmajocab.Hr
