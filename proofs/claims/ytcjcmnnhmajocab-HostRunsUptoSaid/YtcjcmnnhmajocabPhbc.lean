/- The host's machine: a block begins; by a register. -/
import Derived.Maps.OwnSet
import Derived.Maps.OwnOps
import Derived.Test.YtcjcmnnhmajocabPhbb
set_option linter.unusedVariables false
set_option linter.unusedSimpArgs false
set_option maxRecDepth 100000
set_option maxHeartbeats 16000000
namespace Go.Proofs.Ytcjcmnnhmajocab.Hr
open Go.RowKit Kt Me Fl Ev Ho
variable {h : Nat} {K : Hk} {s : Pm}
/-- how the host is left -/
structure Lf where
 k : Int
 sk : Int
 sx : Int
 pc : Int
 n : Int
def lfV : Option Lf → Value
 | none => .tuple #[.agg #[.int .i64 0, .int .i64 0, .int .u32 0, .int .u32 0, .int .i64 0, .int .i64 0], .bool false]
 | some l => .tuple #[.agg #[.int .i64 l.k, .int .i64 l.sk, .int .u32 l.sx, .int .u32 l.pc, .int .i64 l.n, .int .i64 0], .bool true]
/-- the block's begin: is the host left? -/
def entL (K : Hk) (M : MM) (s : Pm) (x : Cd) : Option Lf :=
 if anyT M.hi then some ⟨1, 0, 0, x.k, wrap64 (s.done + 0)⟩ else if wrap64 (K.left - s.done) < x.n then some ⟨4, 0, 0, x.k, wrap64 (s.done + 0)⟩ else if 1048576 ≤ s.ran then some ⟨6, 0, 0, x.k, wrap64 (s.done + 0)⟩ else none
theorem om_put6 {W : World} {b n : Nat} {D : DataW Unit} {R : Value → Option (DataW Unit × List MemPlace)} {t : TypeId} (o : W.ownsMap Try.prog t R b n D) {h : Nat} (hb : b ≠ h) (k sk sx pc m at_ : Int) : (p6 h W k sk sx pc m at_).ownsMap Try.prog t R b n D :=
 (((((o.setCell (a := ⟨h, 0, none⟩) hb _).setCell (a := ⟨h, 1, none⟩) hb _).setCell (a := ⟨h, 2, none⟩) hb _).setCell (a := ⟨h, 3, none⟩) hb _).setCell (a := ⟨h, 4, none⟩) hb _).setCell (a := ⟨h, 5, none⟩) hb _
theorem enter_any (M : MM) (x : Cd) (w : World) (a : MR h K s w) (hm : HC K.p M w) (hp : K.p ≠ h) :
  Calls Try.prog 191 #[.pointer (some ⟨h, 0, none⟩), .agg #[.int .i64 x.op, .int .i64 x.d, .int .i64 x.a, .int .i64 x.b, .int .i64 x.c, .int .i64 x.n, .int .u32 x.k, .int .u32 x.x]] w fun e w' => e = .returned (lfV (entL K M s x)) ∧ (entL K M s x = none → ∃ b, MR h K { s with en := wrap64 (s.en + 1), sp := some b } w' ∧ w.heap.size ≤ b ∧ w'.ownsMap (H := Unit) Try.prog 3 (plainElem Try.prog 22) b 0 (.map [])) ∧ (entL K M s x ≠ none → MR h K s w') ∧ Upto (fun i => i = h) w w' := by
 have hm0 := hm.upto (two_new w x).2.2 id
 obtain ⟨xb, lb, u0⟩ := two_new w x
 have a0 := a.upto u0 id
 have ld := a.l
 clear a
 go_enter Try.func191, Try.ntmps191
 go_upto_region 1 with fail
 generalize hWA : (w.alloc (.cells #[.int .i64 x.op, .int .i64 x.d, .int .i64 x.a, .int .i64 x.b, .int .i64 x.c, .int .i64 x.n, .int .u32 x.k, .int .u32 x.x] 108)).alloc (.cells #[.int .i64 0, .int .i64 0, .int .u32 0, .int .u32 0, .int .i64 0, .int .i64 0] 52) = WA at xb lb u0 a0 hm0 ⊢
 have hA : w.heap.size + 1 < WA.heap.size := lb.l
 clear hWA
 have x5 := xb.c5
 have z5 := xb.z 5
 go_upto_region 3 with fail
 have XX := κ (xb.setN 0)
 have vs := (Upto.refl (fun i => i = w.heap.size) WA).setCell (q := ⟨w.heap.size, 5, none⟩) (.inl rfl) (.int .i64 0)
 have hmh : K.p < w.heap.size := hm.2.2.2.2.2.2
 have A := κ (a0.upto vs (by omega))
 have LR := κ (lb.upto vs (by omega))
 have HM := κ (HC.upto (S := fun i => i = w.heap.size) hm0 vs (by omega))
 have U := κ ((u0.mono (T := fun i => i = h) fun _ _ h => h.elim).setCell (q := ⟨w.heap.size, 5, none⟩) (.inr (Nat.le_refl _)) (.int .i64 0))
 have hsz : (WA.setCell ⟨w.heap.size, 5, none⟩ (.int .i64 0)).heap.size = WA.heap.size := by simp
 clear xb lb u0 a0 hm0 hm x5 z5 vs
 rw [← hsz] at hA
 clear hsz
 generalize WA.setCell ⟨w.heap.size, 5, none⟩ (.int .i64 0) = w2 at XX A LR HM U hA ⊢
 have am := A.out.m
 have CT := κ (fun w h => touched_c K.p M w h)
 obtain ⟨tb, htb⟩ : ∃ tb, anyT M.hi = tb := ⟨_, rfl⟩
 rw [htb] at CT
 have lh := A.out.l
 have ad := A.out.done
 have al := A.out.left
 have ar := A.out.ran
 have ae := A.out.en
 have as_ := A.out.sp
 have ze := A.out.z 51
 have zs := A.out.z 50
 have lx := LR.out.l
 cases tb
 ·go_upto_region 5 with (go_at_call 24; refine (CT.out _ HM.out).mono ?_; rintro e w3 ⟨rfl, rfl⟩)
  go_region
  clear am ad al ar ae as_ ze zs lx lh
  have A := κ A.out.drew
  have XX := κ XX.out.drew
  have LR := κ LR.out.drew
  have U := κ U.out.drew
  have hA : w.heap.size + 1 < w2.drew.heap.size := hA
  clear HM CT
  generalize w2.drew = w4 at A XX LR U hA ⊢
  by_cases hc : wrap64 (K.left - s.done) < x.n
  ·go_upto_region 6 with fail
   have e : entL K M s x = some ⟨4, 0, 0, x.k, wrap64 (s.done + 0)⟩ := by unfold entL; rw [htb, if_neg (by decide), if_pos hc]
   have ON := fun w a => on_any (h := h) (K := K) (s := s) 4 0 0 x.op x.d x.a x.b x.c 0 x.k x.x w a
   generalize wrap64 (s.done + 0) = nn at ON e
   have ON := κ ON
   have EV := κ e
   clear e
   have x0 := XX.out.c0
   have x1 := XX.out.c1
   have x2 := XX.out.c2
   have x3 := XX.out.c3
   have x4 := XX.out.c4
   have x5 := XX.out.c5
   have x6 := XX.out.c6
   have x7 := XX.out.c7
   have lx := XX.out.l
   go_wp2_with (go_at_call 152; refine (ON.out _ A.out).mono ?_; rintro e w3 ⟨rfl, b3⟩; have u3 := Upto.of_below (S := fun _ => False) b3; have A3 := A.out.upto u3 id; have LR := κ (LR.out.upto u3 id); have U3 := U.out.trans (u3.mono (T := fun i => i = h) fun _ _ h => h.elim); obtain ⟨g0, g1, g2, g3, g4, g5⟩ := LR.out.all; have zg := LR.out.z; have lg := LR.out.l; clear b3 u3)
   clear g0 g1 g2 g3 g4 g5 zg lg
   have A9 := A3.upto (up6' (w.heap.size + 1) w3 4 0 0 x.k nn 0) (by omega)
   have U9 := up6 (h := w.heap.size + 1) U3 (.inr (Nat.le_succ _)) 4 0 0 x.k nn 0
   have LR9 := LR.out.put 4 0 0 x.k nn 0
   have up := up6' (w.heap.size + 1) w3 4 0 0 x.k nn 0
   rw [p6_eq]
   generalize p6 _ _ _ _ _ _ _ _ = W9 at LR9 up A9 U9 ⊢
   obtain ⟨g0, g1, g2, g3, g4, g5⟩ := LR9.all
   exact bodyPost_ret (v := .tuple #[.agg #[.int .i64 4, .int .i64 0, .int .u32 0, .int .u32 x.k, .int .i64 nn, .int .i64 0], .bool true]) (by simp [results, Try.results191, go_sem, g0, g1, g2, g3, g4, g5]) rfl ⟨by rw [EV.out]; rfl, fun h => by rw [EV.out] at h; exact (nomatch h), fun _ => A9, U9⟩
  ·have ar := A.out.ran
   have lh := A.out.l
   by_cases hr : 1048576 ≤ s.ran
   ·go_upto_region 8 with fail
    clear ar lh
    have e : entL K M s x = some ⟨6, 0, 0, x.k, wrap64 (s.done + 0)⟩ := by unfold entL; rw [htb, if_neg (by decide), if_neg hc, if_pos hr]
    have ON := fun w a => on_any (h := h) (K := K) (s := s) 6 0 0 x.op x.d x.a x.b x.c 0 x.k x.x w a
    generalize wrap64 (s.done + 0) = nn at ON e
    have ON := κ ON
    have EV := κ e
    clear e
    have x0 := XX.out.c0
    have x1 := XX.out.c1
    have x2 := XX.out.c2
    have x3 := XX.out.c3
    have x4 := XX.out.c4
    have x5 := XX.out.c5
    have x6 := XX.out.c6
    have x7 := XX.out.c7
    have lx := XX.out.l
    go_wp2_with (go_at_call 152; refine (ON.out _ A.out).mono ?_; rintro e w3 ⟨rfl, b3⟩; have u3 := Upto.of_below (S := fun _ => False) b3; have A3 := A.out.upto u3 id; have LR := κ (LR.out.upto u3 id); have U3 := U.out.trans (u3.mono (T := fun i => i = h) fun _ _ h => h.elim); obtain ⟨g0, g1, g2, g3, g4, g5⟩ := LR.out.all; have zg := LR.out.z; have lg := LR.out.l; clear b3 u3)
    clear g0 g1 g2 g3 g4 g5 zg lg
    have A9 := A3.upto (up6' (w.heap.size + 1) w3 6 0 0 x.k nn 0) (by omega)
    have U9 := up6 (h := w.heap.size + 1) U3 (.inr (Nat.le_succ _)) 6 0 0 x.k nn 0
    have LR9 := LR.out.put 6 0 0 x.k nn 0
    have up := up6' (w.heap.size + 1) w3 6 0 0 x.k nn 0
    rw [p6_eq]
    generalize p6 _ _ _ _ _ _ _ _ = W9 at LR9 up A9 U9 ⊢
    obtain ⟨g0, g1, g2, g3, g4, g5⟩ := LR9.all
    exact bodyPost_ret (v := .tuple #[.agg #[.int .i64 6, .int .i64 0, .int .u32 0, .int .u32 x.k, .int .i64 nn, .int .i64 0], .bool true]) (by simp [results, Try.results191, go_sem, g0, g1, g2, g3, g4, g5]) rfl ⟨by rw [EV.out]; rfl, fun h => by rw [EV.out] at h; exact (nomatch h), fun _ => A9, U9⟩
   ·have e : entL K M s x = none := by unfold entL; rw [htb, if_neg (by decide), if_neg hc, if_neg hr]
    have EV := κ e
    clear e
    have hmm := @run_makeMap Try.prog
    have ae := A.out.en
    have ze := A.out.z 51
    go_upto_region 10 with fail
    have A1 := A.out.setEn (wrap64 (s.en + 1))
    have vs := (Upto.refl (fun i => i = h) w4).setCell (q := ⟨h, 51, none⟩) (.inl rfl) (.int .i64 (wrap64 (s.en + 1)))
    have LR := κ (LR.out.upto vs (by omega))
    have U1 := U.out.setCell (q := ⟨h, 51, none⟩) (.inl rfl) (.int .i64 (wrap64 (s.en + 1)))
    have hsz : (w4.setCell ⟨h, 51, none⟩ (.int .i64 (wrap64 (s.en + 1)))).heap.size = w4.heap.size := by simp
    rw [← hsz] at hA
    clear ae ze ar lh vs hsz XX A U
    generalize w4.setCell ⟨h, 51, none⟩ (.int .i64 (wrap64 (s.en + 1))) = w5 at A1 LR U1 hA ⊢
    have as_ := A1.sp
    have zs := A1.z 50
    have lh := A1.l
    go_upto_region 11 with fail
    have A2 := (A1.setSp (some w5.heap.size)).upto ((Upto.refl (fun _ => False) _).alloc (.map #[] 0)) id
    have vs := ((Upto.refl (fun i => i = h) w5).setCell (q := ⟨h, 50, none⟩) (.inl rfl) (.map (some w5.heap.size))).alloc (.map #[] 0)
    have LR := κ (LR.out.upto vs (by omega))
    have U2 := (U1.setCell (q := ⟨h, 50, none⟩) (.inl rfl) (.map (some w5.heap.size))).alloc (.map #[] 0)
    have OM := World.ownsMap_made (H := Unit) (w5.setCell ⟨h, 50, none⟩ (.map (some w5.heap.size))) Try.prog 3 (plainElem Try.prog 22)
    rw [show (w5.setCell ⟨h, 50, none⟩ (.map (some w5.heap.size))).heap.size = w5.heap.size by simp] at OM
    clear as_ zs lh vs A1 U1
    generalize (w5.setCell ⟨h, 50, none⟩ (.map (some w5.heap.size))).alloc (.map #[] 0) = w6 at A2 LR U2 OM ⊢
    generalize w5.heap.size = bm at A2 LR U2 OM hA ⊢
    obtain ⟨g0, g1, g2, g3, g4, g5⟩ := LR.out.all
    have zg := LR.out.z
    have lg := LR.out.l
    go_wp2_with fail
    clear g0 g1 g2 g3 g4 g5 zg lg
    have A9 := A2.upto (up6' (w.heap.size + 1) w6 0 0 0 0 0 0) (by omega)
    have U9 := up6 (h := w.heap.size + 1) U2 (.inr (Nat.le_succ _)) 0 0 0 0 0 0
    have O9 := om_put6 OM (h := w.heap.size + 1) (by omega) 0 0 0 0 0 0
    have LR9 := LR.out.put 0 0 0 0 0 0
    have up := up6' (w.heap.size + 1) w6 0 0 0 0 0 0
    rw [p6_eq]
    generalize p6 _ _ _ _ _ _ _ _ = W9 at LR9 up A9 U9 O9 ⊢
    obtain ⟨g0, g1, g2, g3, g4, g5⟩ := LR9.all
    exact bodyPost_ret (v := .tuple #[.agg #[.int .i64 0, .int .i64 0, .int .u32 0, .int .u32 0, .int .i64 0, .int .i64 0], .bool false]) (by simp [results, Try.results191, go_sem, g0, g1, g2, g3, g4, g5]) rfl ⟨by rw [EV.out]; rfl, fun _ => ⟨bm, A9, by omega, O9⟩, fun h => absurd EV.out h, U9⟩
 ·go_upto_region 4 with (go_at_call 24; refine (CT.out _ HM.out).mono ?_; rintro e w3 ⟨rfl, rfl⟩)
  clear am ad al ar ae as_ ze zs lx lh
  have e : entL K M s x = some ⟨1, 0, 0, x.k, wrap64 (s.done + 0)⟩ := by unfold entL; rw [htb]; rfl
  have ON := fun w a => on_any (h := h) (K := K) (s := s) 1 0 0 x.op x.d x.a x.b x.c 0 x.k x.x w a
  generalize wrap64 (s.done + 0) = nn at ON e
  have ON := κ ON
  have EV := κ e
  clear e
  have x0 := XX.out.c0
  have x1 := XX.out.c1
  have x2 := XX.out.c2
  have x3 := XX.out.c3
  have x4 := XX.out.c4
  have x5 := XX.out.c5
  have x6 := XX.out.c6
  have x7 := XX.out.c7
  have lx := XX.out.l
  go_wp2_with (go_at_call 152; refine (ON.out _ A.out).mono ?_; rintro e w3 ⟨rfl, b3⟩; have u3 := Upto.of_below (S := fun _ => False) b3; have A3 := A.out.upto u3 id; have LR := κ (LR.out.upto u3 id); have U3 := U.out.trans (u3.mono (T := fun i => i = h) fun _ _ h => h.elim); obtain ⟨g0, g1, g2, g3, g4, g5⟩ := LR.out.all; have zg := LR.out.z; have lg := LR.out.l; clear b3 u3)
  clear g0 g1 g2 g3 g4 g5 zg lg
  have A9 := A3.upto (up6' (w.heap.size + 1) w3 1 0 0 x.k nn 0) (by omega)
  have U9 := up6 (h := w.heap.size + 1) U3 (.inr (Nat.le_succ _)) 1 0 0 x.k nn 0
  have LR9 := LR.out.put 1 0 0 x.k nn 0
  have up := up6' (w.heap.size + 1) w3 1 0 0 x.k nn 0
  rw [p6_eq]
  generalize p6 _ _ _ _ _ _ _ _ = W9 at LR9 up A9 U9 ⊢
  obtain ⟨g0, g1, g2, g3, g4, g5⟩ := LR9.all
  exact bodyPost_ret (v := .tuple #[.agg #[.int .i64 1, .int .i64 0, .int .u32 0, .int .u32 x.k, .int .i64 nn, .int .i64 0], .bool true]) (by simp [results, Try.results191, go_sem, g0, g1, g2, g3, g4, g5]) rfl ⟨by rw [EV.out]; rfl, fun h => by rw [EV.out] at h; exact (nomatch h), fun _ => A9, U9⟩
/-- a table in memory -/
def Tb (tab : List (Int × Int)) (ao : Option Addr) (cap : Nat) (W : World) : Prop :=
 tab.length ≤ cap ∧ cap ≤ maxLen ∧ (0 < tab.length → ∃ b off, ao = some ⟨b, off, none⟩ ∧ b < W.heap.size ∧ ∀ j t, tab[j]? = some t → W.cell? ⟨b, off + j * 2, none⟩ = some (.int .u32 t.1) ∧ W.cell? ⟨b, off + j * 2 + 1, none⟩ = some (.int .i64 t.2))
theorem Tb.upto {tab : List (Int × Int)} {ao : Option Addr} {cap : Nat} {S : Nat → Prop} {W W' : World} (a : Tb tab ao cap W) (u : Upto S W W') (hs : ∀ g, ao = some g → 0 < tab.length → ¬ S g.block) : Tb tab ao cap W' := by
 obtain ⟨h1, h2, h3⟩ := a
 refine ⟨h1, h2, fun h0 => ?_⟩
 obtain ⟨b, off, e, hb, hc⟩ := h3 h0
 refine ⟨b, off, e, Nat.lt_of_lt_of_le hb u.size, fun j t ht => ⟨?_, ?_⟩⟩
 ·exact (u.cell (q := ⟨b, off + j * 2, none⟩) hb (show ¬ S b from hs _ e h0)).trans (hc j t ht).1
 ·exact (u.cell (q := ⟨b, off + j * 2 + 1, none⟩) hb (show ¬ S b from hs _ e h0)).trans (hc j t ht).2
/-- where the table leads -/
def lvE (K : Hk) (s : Pm) (r : Nat) : Option Int :=
 if K.tab.length = 0 ∨ (s.gets r).stuck = true then none else match K.tab[(s.reg r % K.tab.length).toNat]? with
  | none => none
  | some t => if t.1 = s.reg r ∧ 0 ≤ t.2 ∧ ent K.us t.2 = true then some t.2 else none
def lvL (K : Hk) (s : Pm) (r : Nat) (n : Int) : Option Lf := match lvE K s r with
 | some _ => none
 | none => some ⟨2, 0, 0, s.reg r, wrap64 (s.done + n)⟩
def lvS (K : Hk) (s : Pm) (r : Nat) (n : Int) : Pm := match lvE K s r with
 | some t => { s.gets r with done := wrap64 (s.done + n), at_ := t }
 | none => s.gets r
theorem Sl.upto {us : List Int} {ao : Option Addr} {cap : Nat} {S : Nat → Prop} {W W' : World} (a : Sl us ao cap W) (u : Upto S W W') (hs : ∀ g, ao = some g → 0 < us.length → ¬ S g.block) : Sl us ao cap W' := by
 obtain ⟨h1, h2, h3⟩ := a
 refine ⟨h1, h2, fun h0 => ?_⟩
 obtain ⟨b, off, e, hb, hc⟩ := h3 h0
 exact ⟨b, off, e, Nat.lt_of_lt_of_le hb u.size, fun j hj => (u.cell (q := ⟨b, off + j, none⟩) hb (show ¬ S b from hs _ e h0)).trans (hc j hj)⟩
theorem leaves_any (x : Cd) (r : Nat) (w : World) (a : MR h K s w) (hs : Sl K.us K.ao K.cap w) (ht : Tb K.tab K.tao K.tcap w) (hw : UsOk K.us) (htl : K.tab.length ≤ 1048576) (hx : x.a = r) (hr : r < 16) (hrg : 0 ≤ s.reg r ∧ s.reg r < 4294967296) (hsh : ∀ g, K.ao = some g → 0 < K.us.length → g.block ≠ h) (hth : ∀ g, K.tao = some g → 0 < K.tab.length → g.block ≠ h) :
  Calls Try.prog 193 #[.pointer (some ⟨h, 0, none⟩), .agg #[.int .i64 x.op, .int .i64 x.d, .int .i64 x.a, .int .i64 x.b, .int .i64 x.c, .int .i64 x.n, .int .u32 x.k, .int .u32 x.x]] w fun e w' => e = .returned (lfV (lvL K s r x.n)) ∧ MR h K (lvS K s r x.n) w' ∧ Upto (fun i => i = h) w w' := by
 have HX := κ hx
 clear hx
 have HZ := κ (show (∀ g, K.ao = some g → 0 < K.us.length → g.block ≠ w.heap.size) ∧ ∀ g, K.tao = some g → 0 < K.tab.length → g.block ≠ w.heap.size from ⟨fun g hg h0 => by obtain ⟨b, off, e, hb, _⟩ := hs.2.2 h0; rw [hg] at e; cases e; exact Nat.ne_of_lt hb, fun g hg h0 => by obtain ⟨b, off, e, hb, _⟩ := ht.2.2 h0; rw [hg] at e; cases e; exact Nat.ne_of_lt hb⟩)
 have hs0 := Sl.upto hs (two_new w x).2.2 (fun _ _ _ => id)
 have ht0 := ht.upto (two_new w x).2.2 (fun _ _ _ => id)
 obtain ⟨xb, lb, u0⟩ := two_new w x
 have a0 := a.upto u0 id
 have ld := a.l
 clear a
 go_enter Try.func193, Try.ntmps193
 go_upto_region 1 with fail
 generalize hWA : (w.alloc (.cells #[.int .i64 x.op, .int .i64 x.d, .int .i64 x.a, .int .i64 x.b, .int .i64 x.c, .int .i64 x.n, .int .u32 x.k, .int .u32 x.x] 108)).alloc (.cells #[.int .i64 0, .int .i64 0, .int .u32 0, .int .u32 0, .int .i64 0, .int .i64 0] 52) = WA at xb lb u0 a0 hs0 ht0 ⊢
 have hA : w.heap.size + 1 < WA.heap.size := lb.l
 clear hWA
 have xa := xb.c2
 rw [HX.out] at xa
 have GT := κ (fun w a => get_any (h := h) (K := K) (s := s) r w a hr)
 have XX := κ xb
 have A := κ a0
 have LR := κ lb
 have HS := κ hs0
 have HT := κ ht0
 have U := κ (u0.mono (T := fun i => i = h) fun _ _ h => h.elim)
 have z6 := xb.z 6
 have x6 := xb.c6
 have lx := xb.l
 clear xb lb u0 a0 hs0 ht0 hs ht
 obtain ⟨s1, hs1⟩ : ∃ s1, s.gets r = s1 := ⟨_, rfl⟩
 obtain ⟨k, hk⟩ : ∃ k, s.reg r = k := ⟨_, rfl⟩
 rw [hs1, hk] at GT
 have D1 := κ (show s1.done = s.done from by rw [← hs1]; rfl)
 have HS1 := κ hs1
 have HK := κ hk
 rw [hk] at hrg
 clear hs1 hk
 go_upto_region 2 with (go_at_call 151; refine (GT.out _ A.out).mono ?_; rintro e w3 ⟨rfl, a3, u3⟩; have XX3 := XX.out.upto u3 (by omega); have x6 := XX3.c6; have z6 := XX3.z 6; have lx := XX3.l)
 have vs := (Upto.refl (fun i => i = w.heap.size) w3).setCell (q := ⟨w.heap.size, 6, none⟩) (.inl rfl) (.int .u32 k)
 have XX := κ (XX3.setK k)
 have A := κ (a3.upto vs (by omega))
 have LR := κ ((LR.out.upto u3 (by omega)).upto vs (by omega))
 have hsz0 : ∀ g, K.ao = some g → 0 < K.us.length → g.block ≠ w.heap.size := fun g hg h0 => HZ.out.1 g hg h0
 have hsz1 : ∀ g, K.tao = some g → 0 < K.tab.length → g.block ≠ w.heap.size := fun g hg h0 => HZ.out.2 g hg h0
 have HS := κ (Sl.upto (Sl.upto HS.out u3 hsh) vs hsz0)
 have HT := κ ((HT.out.upto u3 hth).upto vs hsz1)
 have U := κ ((U.out.trans u3).setCell (q := ⟨w.heap.size, 6, none⟩) (.inr (Nat.le_refl _)) (.int .u32 k))
 clear XX3 a3 u3 vs x6 z6 lx hsz0 hsz1 GT HZ xa
 generalize w3.setCell ⟨w.heap.size, 6, none⟩ (.int .u32 k) = w4 at XX A LR HS HT U ⊢
 have hA : w.heap.size + 1 < w4.heap.size := LR.out.l
 have tb := A.out.tb
 have lh := A.out.l
 obtain ⟨tl, htl2⟩ : ∃ tl, K.tab.length = tl := ⟨_, rfl⟩
 rw [htl2] at tb htl
 have TL := κ htl2
 clear htl2
 by_cases h0 : tl = 0
 ·subst h0
  have e : lvE K s r = none := by unfold lvE; rw [if_pos (.inl TL.out)]
  have EV := κ (show lvL K s r x.n = some ⟨2, 0, 0, s.reg r, wrap64 (s.done + x.n)⟩ ∧ lvS K s r x.n = s.gets r from by unfold lvL lvS; rw [e]; exact ⟨rfl, rfl⟩)
  clear e
  have ON := fun w a => on_any (h := h) (K := K) (s := s1) 2 0 0 x.op x.d x.a x.b x.c x.n k x.x w a
  rw [D1.out] at ON
  have ON := κ ON
  have x0 := XX.out.c0
  have x1 := XX.out.c1
  have x2 := XX.out.c2
  have x3 := XX.out.c3
  have x4 := XX.out.c4
  have x5 := XX.out.c5
  have x6 := XX.out.c6
  have x7 := XX.out.c7
  have lx := XX.out.l
  go_upto_region 9 with fail
  go_wp2_with (go_at_call 152; refine (ON.out _ A.out).mono ?_; rintro e w7 ⟨rfl, b3⟩; have u3 := Upto.of_below (S := fun _ => False) b3; have A3 := A.out.upto u3 id; have LR := κ (LR.out.upto u3 id); have U3 := U.out.trans (u3.mono (T := fun i => i = h) fun _ _ h => h.elim); obtain ⟨g0, g1, g2, g3, g4, g5⟩ := LR.out.all; have zg := LR.out.z; have lg := LR.out.l; clear b3 u3)
  clear g0 g1 g2 g3 g4 g5 zg lg
  have A9 := A3.upto (up6' (w.heap.size + 1) w7 2 0 0 k (wrap64 (s.done + x.n)) 0) (by omega)
  have U9 := up6 (h := w.heap.size + 1) U3 (.inr (Nat.le_succ _)) 2 0 0 k (wrap64 (s.done + x.n)) 0
  have LR9 := LR.out.put 2 0 0 k (wrap64 (s.done + x.n)) 0
  have up := up6' (w.heap.size + 1) w7 2 0 0 k (wrap64 (s.done + x.n)) 0
  rw [p6_eq]
  generalize p6 _ _ _ _ _ _ _ _ = W9 at LR9 up A9 U9 ⊢
  obtain ⟨g0, g1, g2, g3, g4, g5⟩ := LR9.all
  exact bodyPost_ret (v := .tuple #[.agg #[.int .i64 2, .int .i64 0, .int .u32 0, .int .u32 k, .int .i64 (wrap64 (s.done + x.n)), .int .i64 0], .bool true]) (by simp [results, Try.results193, go_sem, g0, g1, g2, g3, g4, g5]) rfl ⟨by rw [EV.out.1, HK.out]; rfl, by rw [EV.out.2, HS1.out]; exact A9, U9⟩
 ·have hl0 : (0 : Int) < (tl : Int) := by omega
  have cst := A.out.st
  obtain ⟨bst, hbst⟩ : ∃ b, s1.stuck = b := ⟨_, rfl⟩
  rw [hbst] at cst
  have HB := κ hbst
  clear hbst
  cases bst
  ·obtain ⟨b, off, htao, hlb, hcs⟩ := HT.out.2.2 (by rw [TL.out]; omega)
   have j0 := Int.emod_nonneg k (show (tl : Int) ≠ 0 by omega)
   have j1 := Int.emod_lt_of_pos k hl0
   obtain ⟨j, hj⟩ := Int.eq_ofNat_of_zero_le j0
   have hjl : j < K.tab.length := by rw [TL.out]; omega
   obtain ⟨t, ht⟩ : ∃ t, K.tab[j]? = some t := ⟨_, List.getElem?_eq_getElem hjl⟩
   obtain ⟨t0, t1⟩ := hcs j t ht
   have HJ := κ ht
   have htc := HT.out.1
   rw [TL.out] at htc
   rw [htao] at tb
   have x6 := XX.out.c6
   have lx := XX.out.l
   clear ht hcs
   go_upto_region 4 with fail
   go_region
   have vn := ((Upto.refl (fun _ => False) w4).alloc (.cells #[.int .u32 t.1, .int .i64 t.2] 93)).drew
   have g0 := box_at w4 #[.int .u32 t.1, .int .i64 t.2] 93 0
   have g1 := box_at w4 #[.int .u32 t.1, .int .i64 t.2] 93 1
   have hlg : w4.heap.size < (w4.alloc (.cells #[.int .u32 t.1, .int .i64 t.2] 93)).drew.heap.size := by show w4.heap.size < (w4.alloc _).heap.size; simp
   have e0 : (w4.alloc (.cells #[.int .u32 t.1, .int .i64 t.2] 93)).drew.cell? ⟨w4.heap.size, 0, none⟩ = some (.int .u32 t.1) := g0
   have e1 : (w4.alloc (.cells #[.int .u32 t.1, .int .i64 t.2] 93)).drew.cell? ⟨w4.heap.size, 1, none⟩ = some (.int .i64 t.2) := g1
   have XX := κ (XX.out.upto vn id)
   have A := κ (A.out.upto vn id)
   have LR := κ (LR.out.upto vn id)
   have HS := κ (Sl.upto HS.out vn (fun _ _ _ => id))
   have U := κ (U.out.trans (vn.mono (T := fun i => i = h) fun _ _ h => h.elim))
   clear vn g0 g1 t0 t1 x6 lx cst tb htl HT
   generalize (w4.alloc (.cells #[.int .u32 t.1, .int .i64 t.2] 93)).drew = w5 at e0 e1 XX A LR HS U hlg ⊢
   generalize hge : w4.heap.size = ge at e0 e1 hlg hA lh ⊢
   have hnd : K.tab[(s.reg r % (K.tab.length : Int)).toNat]? = some t := by rw [TL.out, HK.out, hj]; exact HJ.out
   have HN := κ hnd
   have hst : (s.gets r).stuck = false := by rw [HS1.out, HB.out]
   have HST := κ hst
   have LH := κ (show ¬ ge = h from by omega)
   clear hnd hst HJ hge
   have x6 := XX.out.c6
   have lx := XX.out.l
   have EN := κ (fun w a hs => ent_any (h := h) (K := K) (s := s1) t.2 w a hs hw)
   have EV0 := κ (show lvE K s r = if t.1 = s.reg r ∧ 0 ≤ t.2 ∧ ent K.us t.2 = true then some t.2 else none from by unfold lvE; rw [if_neg (by rw [HST.out, TL.out]; simp; omega)]; simp only [HN.out])
   by_cases c1 : t.1 = k
   ·have b1 : (t.1 == k) = true := by simp [c1]
    by_cases c2 : 0 ≤ t.2
    ·obtain ⟨eb, heb⟩ : ∃ eb, ent K.us t.2 = eb := ⟨_, rfl⟩
     have HE := κ heb
     rw [heb] at EN
     clear heb
     cases eb
     ·go_upto_region 9 with (go_at_call 88; refine (EN.out _ A.out HS.out).mono ?_; rintro e w6 ⟨rfl, b6⟩)
      have vn := Upto.of_below (S := fun _ => False) b6
      have XX := κ (XX.out.upto vn id)
      have A := κ (A.out.upto vn id)
      have LR := κ (LR.out.upto vn id)
      have U := κ (U.out.trans (vn.mono (T := fun i => i = h) fun _ _ h => h.elim))
      clear vn b6 x6 lx e0 e1 hlg hA EN HS
      have hA : w.heap.size + 1 < w6.heap.size := LR.out.l
      have e : lvE K s r = none := by rw [EV0.out, if_neg (by rw [HE.out]; simp)]
      have EV := κ (show lvL K s r x.n = some ⟨2, 0, 0, s.reg r, wrap64 (s.done + x.n)⟩ ∧ lvS K s r x.n = s.gets r from by unfold lvL lvS; rw [e]; exact ⟨rfl, rfl⟩)
      clear e
      have ON := fun w a => on_any (h := h) (K := K) (s := s1) 2 0 0 x.op x.d x.a x.b x.c x.n k x.x w a
      rw [D1.out] at ON
      have ON := κ ON
      have x0 := XX.out.c0
      have x1 := XX.out.c1
      have x2 := XX.out.c2
      have x3 := XX.out.c3
      have x4 := XX.out.c4
      have x5 := XX.out.c5
      have x6 := XX.out.c6
      have x7 := XX.out.c7
      have lx := XX.out.l
      go_wp2_with (go_at_call 152; refine (ON.out _ A.out).mono ?_; rintro e w7 ⟨rfl, b3⟩; have u3 := Upto.of_below (S := fun _ => False) b3; have A3 := A.out.upto u3 id; have LR := κ (LR.out.upto u3 id); have U3 := U.out.trans (u3.mono (T := fun i => i = h) fun _ _ h => h.elim); obtain ⟨g0, g1, g2, g3, g4, g5⟩ := LR.out.all; have zg := LR.out.z; have lg := LR.out.l; clear b3 u3)
      clear g0 g1 g2 g3 g4 g5 zg lg
      have A9 := A3.upto (up6' (w.heap.size + 1) w7 2 0 0 k (wrap64 (s.done + x.n)) 0) (by omega)
      have U9 := up6 (h := w.heap.size + 1) U3 (.inr (Nat.le_succ _)) 2 0 0 k (wrap64 (s.done + x.n)) 0
      have LR9 := LR.out.put 2 0 0 k (wrap64 (s.done + x.n)) 0
      have up := up6' (w.heap.size + 1) w7 2 0 0 k (wrap64 (s.done + x.n)) 0
      rw [p6_eq]
      generalize p6 _ _ _ _ _ _ _ _ = W9 at LR9 up A9 U9 ⊢
      obtain ⟨g0, g1, g2, g3, g4, g5⟩ := LR9.all
      exact bodyPost_ret (v := .tuple #[.agg #[.int .i64 2, .int .i64 0, .int .u32 0, .int .u32 k, .int .i64 (wrap64 (s.done + x.n)), .int .i64 0], .bool true]) (by simp [results, Try.results193, go_sem, g0, g1, g2, g3, g4, g5]) rfl ⟨by rw [EV.out.1, HK.out]; rfl, by rw [EV.out.2, HS1.out]; exact A9, U9⟩
     ·go_upto_region 6 with (go_at_call 88; refine (EN.out _ A.out HS.out).mono ?_; rintro e w6 ⟨rfl, b6⟩)
      have vn := Upto.of_below (S := fun _ => False) b6
      have e0 := (vn.cell (q := ⟨ge, 0, none⟩) hlg id).trans e0
      have e1 := (vn.cell (q := ⟨ge, 1, none⟩) hlg id).trans e1
      have XX := κ (XX.out.upto vn id)
      have A := A.out.upto vn id
      have LR := κ (LR.out.upto vn id)
      have U := U.out.trans (vn.mono (T := fun i => i = h) fun _ _ h => h.elim)
      have hlg : ge < w6.heap.size := Nat.lt_of_lt_of_le hlg vn.size
      clear vn b6 x6 lx EN HS
      have hA2 : w.heap.size + 1 < w6.heap.size := LR.out.l
      have cd := A.done
      rw [D1.out] at cd
      have zd := A.z 16
      have x5 := XX.out.c5
      have lx := XX.out.l
      have lh6 := A.l
      go_region
      have A7 := (A.setDone (wrap64 (s.done + x.n))).drew
      have U7 := (U.setCell (q := ⟨h, 16, none⟩) (.inl rfl) (.int .i64 (wrap64 (s.done + x.n)))).drew
      have vs := ((Upto.refl (fun i => i = h) w6).setCell (q := ⟨h, 16, none⟩) (.inl rfl) (.int .i64 (wrap64 (s.done + x.n)))).drew
      have LR := κ (LR.out.upto vs (by omega))
      have e1 := (vs.cell (q := ⟨ge, 1, none⟩) hlg LH.out).trans e1
      have hlg : ge < (w6.setCell ⟨h, 16, none⟩ (.int .i64 (wrap64 (s.done + x.n)))).drew.heap.size := Nat.lt_of_lt_of_le hlg vs.size
      have EV := κ (show lvE K s r = some t.2 by rw [EV0.out, if_pos ⟨by rw [HK.out]; exact c1, c2, HE.out⟩])
      clear vs cd zd x5 lx lh6 e0 A U XX
      generalize (w6.setCell ⟨h, 16, none⟩ (.int .i64 (wrap64 (s.done + x.n)))).drew = w7 at A7 U7 LR e1 hlg ⊢
      have ca := A7.at_
      have za := A7.z 1
      have lh7 := A7.l
      go_upto_region 8 with fail
      have A8 := A7.setAt t.2
      have U8 := U7.setCell (q := ⟨h, 1, none⟩) (.inl rfl) (.int .i64 t.2)
      have vs := (Upto.refl (fun i => i = h) w7).setCell (q := ⟨h, 1, none⟩) (.inl rfl) (.int .i64 t.2)
      have LR := κ (LR.out.upto vs (by omega))
      clear vs ca za lh7 e1 hlg A7 U7
      generalize w7.setCell ⟨h, 1, none⟩ (.int .i64 t.2) = w8 at A8 U8 LR ⊢
      obtain ⟨g0, g1, g2, g3, g4, g5⟩ := LR.out.all
      have zg := LR.out.z
      have lg := LR.out.l
      go_wp2_with fail
      clear g0 g1 g2 g3 g4 g5 zg lg
      have A9 := A8.upto (up6' (w.heap.size + 1) w8 0 0 0 0 0 0) (by omega)
      have U9 := up6 (h := w.heap.size + 1) U8 (.inr (Nat.le_succ _)) 0 0 0 0 0 0
      have LR9 := LR.out.put 0 0 0 0 0 0
      have up := up6' (w.heap.size + 1) w8 0 0 0 0 0 0
      rw [p6_eq]
      generalize p6 _ _ _ _ _ _ _ _ = W9 at LR9 up A9 U9 ⊢
      obtain ⟨g0, g1, g2, g3, g4, g5⟩ := LR9.all
      exact bodyPost_ret (v := .tuple #[.agg #[.int .i64 0, .int .i64 0, .int .u32 0, .int .u32 0, .int .i64 0, .int .i64 0], .bool false]) (by simp [results, Try.results193, go_sem, g0, g1, g2, g3, g4, g5]) rfl ⟨by unfold lvL; rw [EV.out]; rfl, by unfold lvS; rw [EV.out]; dsimp only; rw [HS1.out]; exact A9, U9⟩
    ·have b2 : decide (0 ≤ t.2) = false := by simp; omega
     go_upto_region 9 with fail
     clear x6 lx e0 e1 EN HS
     have hA : w.heap.size + 1 < w5.heap.size := LR.out.l
     have e : lvE K s r = none := by rw [EV0.out, if_neg (by omega)]
     have EV := κ (show lvL K s r x.n = some ⟨2, 0, 0, s.reg r, wrap64 (s.done + x.n)⟩ ∧ lvS K s r x.n = s.gets r from by unfold lvL lvS; rw [e]; exact ⟨rfl, rfl⟩)
     clear e
     have ON := fun w a => on_any (h := h) (K := K) (s := s1) 2 0 0 x.op x.d x.a x.b x.c x.n k x.x w a
     rw [D1.out] at ON
     have ON := κ ON
     have x0 := XX.out.c0
     have x1 := XX.out.c1
     have x2 := XX.out.c2
     have x3 := XX.out.c3
     have x4 := XX.out.c4
     have x5 := XX.out.c5
     have x6 := XX.out.c6
     have x7 := XX.out.c7
     have lx := XX.out.l
     go_wp2_with (go_at_call 152; refine (ON.out _ A.out).mono ?_; rintro e w7 ⟨rfl, b3⟩; have u3 := Upto.of_below (S := fun _ => False) b3; have A3 := A.out.upto u3 id; have LR := κ (LR.out.upto u3 id); have U3 := U.out.trans (u3.mono (T := fun i => i = h) fun _ _ h => h.elim); obtain ⟨g0, g1, g2, g3, g4, g5⟩ := LR.out.all; have zg := LR.out.z; have lg := LR.out.l; clear b3 u3)
     clear g0 g1 g2 g3 g4 g5 zg lg
     have A9 := A3.upto (up6' (w.heap.size + 1) w7 2 0 0 k (wrap64 (s.done + x.n)) 0) (by omega)
     have U9 := up6 (h := w.heap.size + 1) U3 (.inr (Nat.le_succ _)) 2 0 0 k (wrap64 (s.done + x.n)) 0
     have LR9 := LR.out.put 2 0 0 k (wrap64 (s.done + x.n)) 0
     have up := up6' (w.heap.size + 1) w7 2 0 0 k (wrap64 (s.done + x.n)) 0
     rw [p6_eq]
     generalize p6 _ _ _ _ _ _ _ _ = W9 at LR9 up A9 U9 ⊢
     obtain ⟨g0, g1, g2, g3, g4, g5⟩ := LR9.all
     exact bodyPost_ret (v := .tuple #[.agg #[.int .i64 2, .int .i64 0, .int .u32 0, .int .u32 k, .int .i64 (wrap64 (s.done + x.n)), .int .i64 0], .bool true]) (by simp [results, Try.results193, go_sem, g0, g1, g2, g3, g4, g5]) rfl ⟨by rw [EV.out.1, HK.out]; rfl, by rw [EV.out.2, HS1.out]; exact A9, U9⟩
   ·have b1 : (t.1 == k) = false := by simp [c1]
    go_upto_region 9 with fail
    clear x6 lx e0 e1 EN HS
    have hA : w.heap.size + 1 < w5.heap.size := LR.out.l
    have e : lvE K s r = none := by rw [EV0.out, if_neg (by rw [HK.out]; omega)]
    have EV := κ (show lvL K s r x.n = some ⟨2, 0, 0, s.reg r, wrap64 (s.done + x.n)⟩ ∧ lvS K s r x.n = s.gets r from by unfold lvL lvS; rw [e]; exact ⟨rfl, rfl⟩)
    clear e
    have ON := fun w a => on_any (h := h) (K := K) (s := s1) 2 0 0 x.op x.d x.a x.b x.c x.n k x.x w a
    rw [D1.out] at ON
    have ON := κ ON
    have x0 := XX.out.c0
    have x1 := XX.out.c1
    have x2 := XX.out.c2
    have x3 := XX.out.c3
    have x4 := XX.out.c4
    have x5 := XX.out.c5
    have x6 := XX.out.c6
    have x7 := XX.out.c7
    have lx := XX.out.l
    go_wp2_with (go_at_call 152; refine (ON.out _ A.out).mono ?_; rintro e w7 ⟨rfl, b3⟩; have u3 := Upto.of_below (S := fun _ => False) b3; have A3 := A.out.upto u3 id; have LR := κ (LR.out.upto u3 id); have U3 := U.out.trans (u3.mono (T := fun i => i = h) fun _ _ h => h.elim); obtain ⟨g0, g1, g2, g3, g4, g5⟩ := LR.out.all; have zg := LR.out.z; have lg := LR.out.l; clear b3 u3)
    clear g0 g1 g2 g3 g4 g5 zg lg
    have A9 := A3.upto (up6' (w.heap.size + 1) w7 2 0 0 k (wrap64 (s.done + x.n)) 0) (by omega)
    have U9 := up6 (h := w.heap.size + 1) U3 (.inr (Nat.le_succ _)) 2 0 0 k (wrap64 (s.done + x.n)) 0
    have LR9 := LR.out.put 2 0 0 k (wrap64 (s.done + x.n)) 0
    have up := up6' (w.heap.size + 1) w7 2 0 0 k (wrap64 (s.done + x.n)) 0
    rw [p6_eq]
    generalize p6 _ _ _ _ _ _ _ _ = W9 at LR9 up A9 U9 ⊢
    obtain ⟨g0, g1, g2, g3, g4, g5⟩ := LR9.all
    exact bodyPost_ret (v := .tuple #[.agg #[.int .i64 2, .int .i64 0, .int .u32 0, .int .u32 k, .int .i64 (wrap64 (s.done + x.n)), .int .i64 0], .bool true]) (by simp [results, Try.results193, go_sem, g0, g1, g2, g3, g4, g5]) rfl ⟨by rw [EV.out.1, HK.out]; rfl, by rw [EV.out.2, HS1.out]; exact A9, U9⟩
  ·have e : lvE K s r = none := by unfold lvE; rw [if_pos (.inr (by rw [HS1.out, HB.out]))]
   have EV := κ (show lvL K s r x.n = some ⟨2, 0, 0, s.reg r, wrap64 (s.done + x.n)⟩ ∧ lvS K s r x.n = s.gets r from by unfold lvL lvS; rw [e]; exact ⟨rfl, rfl⟩)
   clear e
   have ON := fun w a => on_any (h := h) (K := K) (s := s1) 2 0 0 x.op x.d x.a x.b x.c x.n k x.x w a
   rw [D1.out] at ON
   have ON := κ ON
   have x0 := XX.out.c0
   have x1 := XX.out.c1
   have x2 := XX.out.c2
   have x3 := XX.out.c3
   have x4 := XX.out.c4
   have x5 := XX.out.c5
   have x6 := XX.out.c6
   have x7 := XX.out.c7
   have lx := XX.out.l
   go_upto_region 9 with fail
   go_wp2_with (go_at_call 152; refine (ON.out _ A.out).mono ?_; rintro e w7 ⟨rfl, b3⟩; have u3 := Upto.of_below (S := fun _ => False) b3; have A3 := A.out.upto u3 id; have LR := κ (LR.out.upto u3 id); have U3 := U.out.trans (u3.mono (T := fun i => i = h) fun _ _ h => h.elim); obtain ⟨g0, g1, g2, g3, g4, g5⟩ := LR.out.all; have zg := LR.out.z; have lg := LR.out.l; clear b3 u3)
   clear g0 g1 g2 g3 g4 g5 zg lg
   have A9 := A3.upto (up6' (w.heap.size + 1) w7 2 0 0 k (wrap64 (s.done + x.n)) 0) (by omega)
   have U9 := up6 (h := w.heap.size + 1) U3 (.inr (Nat.le_succ _)) 2 0 0 k (wrap64 (s.done + x.n)) 0
   have LR9 := LR.out.put 2 0 0 k (wrap64 (s.done + x.n)) 0
   have up := up6' (w.heap.size + 1) w7 2 0 0 k (wrap64 (s.done + x.n)) 0
   rw [p6_eq]
   generalize p6 _ _ _ _ _ _ _ _ = W9 at LR9 up A9 U9 ⊢
   obtain ⟨g0, g1, g2, g3, g4, g5⟩ := LR9.all
   exact bodyPost_ret (v := .tuple #[.agg #[.int .i64 2, .int .i64 0, .int .u32 0, .int .u32 k, .int .i64 (wrap64 (s.done + x.n)), .int .i64 0], .bool true]) (by simp [results, Try.results193, go_sem, g0, g1, g2, g3, g4, g5]) rfl ⟨by rw [EV.out.1, HK.out]; rfl, by rw [EV.out.2, HS1.out]; exact A9, U9⟩
end Go.Proofs.Ytcjcmnnhmajocab.Hr
