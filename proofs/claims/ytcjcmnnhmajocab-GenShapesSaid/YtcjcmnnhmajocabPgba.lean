/- gen: out. -/
import Derived.Deep.DeepCutAuto
import Derived.Maps.AppendAt
import Derived.Deep.RegionHeld3
import Derived.Deep.RegionWith
import Derived.Deep.QuietTactic
import Derived.BigQuiet
import Derived.IntWalk
import Derived.Test.YtcjcmnnhmajocabPgaq
import Derived.Test.YtcjcmnnhmajocabPgaz
namespace Go.Proofs.Ytcjcmnnhmajocab.Gn
open Go.RowKit Kt Ic Hr Ho Me
set_option linter.unusedVariables false
set_option linter.unusedSimpArgs false
variable {K : Gk} {g : Gm}
set_option maxHeartbeats 4000000 in
theorem next_any (t : Nat) (w : World) (a : GM K g w) (ht : t < K.os.length) :
    Calls Try.prog 194 #[.pointer (some ⟨K.h, 0, none⟩), .int .i64 t] w fun e w' => e = .returned (.int .i64 (nxt g t)) ∧ w = w' := by
  have c6 := a.c6
  obtain ⟨ua, cp, cu, l1, l2, ub⟩ := a.vu t ht
  have l := a.l
  have lv := a.l2
  have t0 : (0 : Int) ≤ (t : Int) := by omega
  have t1 : (t : Int) < (K.os.length : Int) := by omega
  unfold nxt hd0
  clear a
  generalize K.os.length = n at c6 t1 ht
  cases hu : (g.v t).uses with
  | nil =>
    rw [hu] at cu
    clear ub l1 l2 hu
    go_enter Try.func194, Try.ntmps194
    go_wp2
    go_ret
    exact ⟨rfl, rfl⟩
  | cons u us =>
    rw [hu] at cu ub l1
    obtain ⟨b, off, rfl, l3, _, _, hc⟩ := ub (by simp)
    have c0 := hc 0 (by simp)
    simp only [List.getD_cons_zero, Nat.add_zero] at c0
    rw [List.length_cons] at cu l1
    generalize us.length = m at cu l1
    have m0 : (0 : Int) < (m : Int) + 1 := by omega
    clear ub hc hu
    go_enter Try.func194, Try.ntmps194
    go_wp2
    go_ret
    exact ⟨rfl, rfl⟩
set_option maxHeartbeats 4000000 in
theorem has_any (r t : Nat) (w : World) (a : GM K g w) (hr : r < 16) (ht : t < K.os.length) :
    Calls Try.prog 160 #[.pointer (some ⟨K.h, 0, none⟩), .int .i64 r, .int .i64 t] w fun e w' => e = .returned (.tuple #[]) ∧ GM K (g.has r t) w' ∧ Upto (SG K) w w' := by
  have c6 := a.c6
  have ch := a.hol r hr
  have zh := a.z (7 + r)
  have zv := a.zv (t * 3)
  have cr := a.vr t ht
  have l := a.l
  have lv := a.l2
  have ne := a.ne
  have t0 : (0 : Int) ≤ (t : Int) := by omega
  have t1 : (t : Int) < (K.os.length : Int) := by omega
  have r0 : (0 : Int) ≤ (r : Int) := by omega
  have r1 : (r : Int) < 16 := by omega
  have A := Lib.hid ((a.setH r t hr).setR t r ht)
  have U := Lib.hid (((Upto.refl (SG K) w).setCell (q := ⟨K.h, 7 + r, none⟩) (.inl (.inl rfl)) (.int .i64 t)).setCell (q := ⟨K.vb, t * 3, none⟩) (.inl (.inr (.inl rfl))) (.int .i64 r))
  clear a
  generalize K.os.length = n at c6 t1 ht
  go_enter Try.func160, Try.ntmps160
  go_wp2
  go_end0
  exact ⟨rfl, A.out, U.out⟩
end Go.Proofs.Ytcjcmnnhmajocab.Gn
namespace Go.Proofs.Ytcjcmnnhmajocab.Gn
open Go.RowKit Kt Ic Hr Ho Me
set_option linter.unusedVariables false
set_option linter.unusedSimpArgs false
variable {K : Gk} {g : Gm}
theorem u32i : ∃ i, Try.prog.info? 22 = some i ∧ i.zero = some (.int .u32 0) ∧ i.size = 1 ∧ i.bytes = 4 := by
  have h : (Try.prog.info? 22).map (fun i => (i.zero, i.size, i.bytes)) = some (some (.int .u32 0), 1, 4) := by kernel_rfl
  obtain ⟨i, hi, hz⟩ := Option.map_eq_some_iff.1 h
  simp only [Prod.mk.injEq] at hz
  exact ⟨i, hi, hz.1, hz.2.1, hz.2.2⟩
/-- append of words -/
theorem ap_w {ops : Array Oper} {rest : List Oper} {o : Oper} {a : Act} {Q : Exit → Act → World → Prop} {w : World} (hgd : o.guard = none) (s x : Operand)
    (ho : o.op = .call { callee := .builtin .append, args := #[s, x], argTypes := #[26, 26] })
    (base : Nat) (v : Value) (xs : List Int) (hs : a.eval s = v) (hown : OwnW base v xs w) (hbase : base ≤ w.heap.size)
    (g m c : Nat) (news : List Int) (hx : a.eval x = .slice (some ⟨g, 0, none⟩) m c) (hl : news.length = m) (hc : ∀ j, j < m → w.cell? ⟨g, j, none⟩ = some (.int .u32 (news.getD j 0))) (hb : xs.length + m ≤ 17592186044416)
    (h : ∀ v' w', OwnW base v' (xs ++ news) w' → Upto (fun i => v.ownBlock = some i) w w' → (v'.ownBlock = v.ownBlock ∨ v'.ownBlock = some w.heap.size) → wpList Try.prog ops Q rest (a.put o.dst v') w') : wpList Try.prog ops Q (o :: rest) a w := by
  obtain ⟨i, hi, hz, hsz, hby⟩ := u32i
  have hmx : (maxLen : Nat) = 9223372036854775807 := rfl
  subst hl
  refine wpList_append_own_at w hgd s x 26 ho base 22 i (.int .u32 0) 1 4 Try.underlying26 hi hz hsz hby rfl Nat.one_pos v xs.length (xs.map (Value.int .u32)) hs hown ⟨g, 0, none⟩ news.length c (news.map (Value.int .u32)) hx (by simp) ?_ ?_ (by omega) (by omega) hbase (fun v' w' hv hg _ hk => h v' w' ?_ ⟨hg.os, hg.tape, hg.output, hg.size, fun k hk hn => hg.block k hk (fun e => hn e.symm)⟩ hk)
  · intro j u hj
    rw [List.getElem?_map] at hj
    obtain ⟨z, hz, rfl⟩ := Option.map_eq_some_iff.1 hj
    have hlt := (List.getElem?_eq_some_iff.1 hz).1
    rw [Addr.add_lit, Nat.zero_add, hc j hlt, List.getD_eq_getElem?_getD, hz]; rfl
  · intro u hu
    obtain ⟨z, _, rfl⟩ := List.mem_map.1 hu
    rfl
  · unfold OwnW
    rw [List.map_append, List.length_append]; exact hv
theorem enc_len (x : Cd) (h : fcls x.op ≠ 0) : 1 ≤ (wd (fcls x.op)).toNat ∧ (wd (fcls x.op)).toNat ≤ 3 ∧ (encW x).length = (wd (fcls x.op)).toNat := by
  unfold encW
  have hle := fcls_le x.op
  generalize fcls x.op = q at h hle
  have : 1 ≤ (wd q).toNat ∧ (wd q).toNat ≤ 3 := by
    rcases (show q = 1 ∨ q = 2 ∨ q = 3 ∨ q = 4 ∨ q = 5 ∨ q = 6 ∨ q = 7 ∨ q = 8 ∨ q = 9 ∨ q = 10 ∨ q = 11 ∨ q = 12 ∨ q = 13 ∨ q = 14 ∨ q = 15 by omega) with rfl | rfl | rfl | rfl | rfl | rfl | rfl | rfl | rfl | rfl | rfl | rfl | rfl | rfl | rfl <;> decide
  refine ⟨this.1, this.2, ?_⟩
  rw [List.length_take]
  simp only [List.length_cons, List.length_nil]
  omega
theorem enc_get {w : World} {q : Nat} {v k x : Int} {ok : Prop} {e : Ending} {w' : World} (h : Enc w q v k x ok e w') (ho : ok) (m3 : (wd q).toNat ≤ 3) : ∃ g cap, e = .returned (.tuple #[.slice (some ⟨g, 0, none⟩) (wd q).toNat cap, .int .i64 0]) ∧ Below w.heap.size w w' ∧
    ∀ j, j < (wd q).toNat → w'.cell? ⟨g, j, none⟩ = some (.int .u32 (([v, k, x].take (wd q).toNat).getD j 0)) := by
  obtain ⟨b, ⟨_, g, cap, he, _, _, _, k0, k1, k2⟩ | ⟨no, _⟩⟩ := h
  · refine ⟨g, cap, he, b, fun j hj => ?_⟩
    have t : ∀ j, j < (wd q).toNat → ([v, k, x].take (wd q).toNat).getD j 0 = [v, k, x].getD j 0 := fun j hj => by rw [List.getD_eq_getElem?_getD, List.getElem?_take, if_pos hj, ← List.getD_eq_getElem?_getD]
    rw [t j hj]
    match j, hj with
    | 0, _ => exact k0
    | 1, h => exact k1 (by omega)
    | 2, h => exact k2 (by omega)
    | n + 3, h => omega
  · exact absurd ho no
set_option maxHeartbeats 4000000 in
theorem put_any (x : Cd) (w : World) (a : GM K g w) (hx : COk x) (hn : (wds g.xs).length ≤ 1000000) :
    Calls Try.prog 47 #[.pointer (some ⟨K.h, 0, none⟩), .agg #[.int .i64 x.op, .int .i64 x.d, .int .i64 x.a, .int .i64 x.b, .int .i64 x.c, .int .i64 x.n, .int .u32 x.k, .int .u32 x.x]] w fun e w' => e = .returned (.tuple #[]) ∧ GM K (g.put x) w' ∧ Upto (SG K) w w' := by
  have hq := hx.q
  have q1 : 1 ≤ fcls x.op := by omega
  have HE := Lib.hid (fun w => henc_ok (fcls x.op) q1 (fcls_le _) x.op x.d x.a x.b x.c x.n x.k x.x w rfl hx.op.1 hx.op.2)
  obtain ⟨m1, m3, el⟩ := enc_len x hq
  have OK := Lib.hid hx.e
  have EW := Lib.hid (show encW x = [sumw x.op x.d x.a x.b x.c x.n, x.k, x.x].take (wd (fcls x.op)).toNat from rfl)
  have WN := Lib.hid (show wds (g.xs ++ [x]) = wds g.xs ++ encW x by simp [wds])
  generalize fcls x.op = q at HE m1 m3 el OK EW
  have a1 := a.alloc (.cells #[.int .i64 x.op, .int .i64 x.d, .int .i64 x.a, .int .i64 x.b, .int .i64 x.c, .int .i64 x.n, .int .u32 x.k, .int .u32 x.x] 108)
  have U := Lib.hid ((Upto.refl (SG K) w).alloc (.cells #[.int .i64 x.op, .int .i64 x.d, .int .i64 x.a, .int .i64 x.b, .int .i64 x.c, .int .i64 x.n, .int .u32 x.k, .int .u32 x.x] 108))
  have A := Lib.hid a1
  have lh := a.l
  clear a a1 hx hq q1
  go_enter Try.func47, Try.ntmps47
  go_upto_region 2 with (go_at_call 93; refine (HE.out _).mono ?_; rintro e w1 hE; obtain ⟨gq, cq, rfl, b1, hc⟩ := enc_get hE OK.out m3; clear hE)
  have A1 := A.out.quiet (Upto.of_below b1)
  have U1 := U.out.trans ((Upto.of_below (S := fun _ => False) b1).mono (T := SG K) fun _ _ h => h.elim)
  obtain ⟨v, c4, ow, hex⟩ := A1.cw
  have lb := A1.lb
  have l := A1.l
  have z4 := A1.z 4
  have A2 := Lib.hid A1
  clear A U b1 A1 HE OK
  have HC := Lib.hid (show ∀ j, j < (wd q).toNat → w1.cell? ⟨gq, j, none⟩ = some (.int .u32 ((encW x).getD j 0)) from by rw [EW.out]; exact hc)
  clear hc EW
  have WL := Lib.hid hn
  clear hn
  go_wp2_with (at_builtin; refine ap_w rfl (.tmp 15) (.tmp 16) rfl K.base v (wds g.xs) rfl ow lb gq _ cq (encW x) rfl el HC.out (by have := WL.out; omega) (fun v' w2 ow' u2 hk' => ?_); have hb4 : ¬ v.ownBlock = some K.h := (fun e => by have := (ow.blk _ e).1; have := A2.out.lh; omega); have c4' := (u2.cell (q := ⟨K.h, 4, none⟩) l hb4).trans c4; have z4' := (u2.frozen (q := ⟨K.h, 4, none⟩) l hb4).trans z4; have l' := Nat.lt_of_lt_of_le l u2.size; have A3 := Lib.hid (A2.out.setW x v v' ow hex u2 (by rw [WN.out]; exact ow') hk'); have U3 := Lib.hid ((U1.trans (u2.mono (T := SG K) fun i _ e => .inr (.inr ⟨(ow.blk i e).1, hex i e⟩))).setCell (q := ⟨K.h, 4, none⟩) (.inl (.inl rfl)) v'); obtain ⟨ao', n', c', rfl⟩ := ow'.sl; clear hb4 c4 z4 l u2 ow' hk' A2 U1)
  go_end0
  exact ⟨rfl, A3.out, U3.out⟩
end Go.Proofs.Ytcjcmnnhmajocab.Gn
namespace Go.Proofs.Ytcjcmnnhmajocab.Gn
open Go.RowKit Kt Ic Hr Ho Me
set_option linter.unusedVariables false
set_option linter.unusedSimpArgs false
variable {K : Gk} {g : Gm}
theorem kind_cell {w : World} (a : GM K g w) {t : Nat} (ht : t < K.os.length) : ∃ b off, K.ao = some ⟨b, off, none⟩ ∧ b < w.heap.size ∧ w.cell? ⟨b, off + t * 7, none⟩ = some (.int .i64 (kindAt K.os t)) ∧ K.os.length ≤ K.cap := by
  obtain ⟨h1, h2, h3⟩ := a.op
  obtain ⟨b, off, e, hb, hc⟩ := h3 (by omega)
  refine ⟨b, off, e, hb, ?_, h1⟩
  have hg : K.os[t]? = some K.os[t] := List.getElem?_eq_getElem ht
  unfold kindAt
  rw [hg]
  exact hc t _ hg 0 _ rfl
theorem v2c {w : World} (a : GM K g w) {t : Nat} {r s : Int} (ht : t < K.os.length) (hr : (g.v t).reg = r) (hs : (g.v t).spill = s) : w.cell? ⟨K.vb, t * 3, none⟩ = some (.int .i64 r) ∧ w.cell? ⟨K.vb, t * 3 + 1, none⟩ = some (.int .i64 s) := ⟨hr ▸ a.vr t ht, hs ▸ a.vs t ht⟩
theorem sts_ok (r sp : Int) (r0 : 0 ≤ r) (r1 : r < 16) (s0 : 0 ≤ sp) (s1 : sp < 2048) : COk (stsC r sp) := by
  refine ⟨⟨by show (0 : Int) ≤ 9; decide, by show (9 : Int) < 256; decide⟩, by show fcls 9 ≠ 0; decide, ?_⟩
  show EOK (fcls 9) 9 0 r 0 0 sp 0 0
  rw [show fcls 9 = 13 by decide]
  simp [EOK, hD, hA, hB, hC, nb, wd, hK, r0, r1, s0, s1]
set_option maxRecDepth 100000 in
set_option maxHeartbeats 16000000 in
theorem out_any (t r : Nat) (w : World) (a : GM K g w) (ht : t < K.os.length) (hr : r < 16) (er : (g.v t).reg = r) (hsp : spills K.os g t = true → 0 ≤ g.sp ∧ g.sp < 2048) (hn : (wds g.xs).length ≤ 1000000) :
    Calls Try.prog 195 #[.pointer (some ⟨K.h, 0, none⟩), .int .i64 t] w fun e w' => e = .returned (.tuple #[]) ∧ GM K (g.out K.os t) w' ∧ Upto (SG K) w w' := by
  have NX := Lib.hid (fun w a => next_any (K := K) (g := g) t w a ht)
  have t0 : (0 : Int) ≤ (t : Int) := by omega
  have t1 : (t : Int) < (K.os.length : Int) := by omega
  have r0 : (0 : Int) ≤ (r : Int) := by omega
  have r1 : (r : Int) < 16 := by omega
  have c6 := a.c6
  have c3 := a.c3
  have l := a.l
  have lv := a.l2
  have cs := a.vs t ht
  obtain ⟨kb, ko, ke, kl, kc, kcap⟩ := kind_cell a ht
  rw [ke] at c3
  have hout : g.out K.os t = ((g.lay K.os t).setH r (-1)).setR t (-1) := by unfold Gm.out; rw [er]; rfl
  rw [hout]
  have A := Lib.hid a
  have HT := Lib.hid ht
  have HN := Lib.hid hn
  have ER := Lib.hid er
  have KE := Lib.hid ke
  clear a hout hn er ke ht
  obtain ⟨nx, hnx⟩ : ∃ nx, nxt g t = nx := ⟨_, rfl⟩
  obtain ⟨s, hs⟩ : ∃ s, (g.v t).spill = s := ⟨_, rfl⟩
  obtain ⟨kd, hkd⟩ : ∃ kd, kindAt K.os t = kd := ⟨_, rfl⟩
  rw [hs] at cs
  rw [hkd] at kc
  rw [hnx] at NX
  have SE : Hid (spills K.os g t = (decide (nx ≠ 1073741824) && (decide (s < 0) && decide (kd ≠ 1)))) := by unfold spills; rw [hnx, hs, hkd]; exact rfl
  have HS := Lib.hid hs
  clear hnx hs hkd
  generalize hL : K.os.length = L at *
  by_cases hx : spills K.os g t = true
  · obtain ⟨s0, s1⟩ := hsp hx
    have HP := Lib.hid (show g.lay K.os t = ((g.setS t g.sp).setSp (g.sp + 1)).put (stsC (g.v t).reg g.sp) from by unfold Gm.lay; rw [if_pos hx])
    rw [SE.out] at hx
    simp only [Bool.and_eq_true, decide_eq_true_eq] at hx
    obtain ⟨x1, x2, x3⟩ := hx
    have e1 : (nx != 1073741824) = true := by simpa using x1
    have e3 : (kd != 1) = true := by simpa using x3
    clear hsp SE x1 x3
    go_enter Try.func195, Try.ntmps195
    go_upto_region 2 with (go_at_call 194; refine (NX.out _ A.out).mono ?_; rintro e w' ⟨rfl, rfl⟩)
    clear cs kc c3 c6
    have cp := A.out.sp
    have cs := A.out.vs t (hL ▸ HT.out)
    have zs := A.out.zv (t * 3 + 1)
    go_upto_region 3 with fail
    have a1 := A.out.setS t g.sp (hL ▸ HT.out)
    have U1 := (Upto.refl (SG K) w).setCell (q := ⟨K.vb, t * 3 + 1, none⟩) (.inl (.inr (.inl rfl))) (.int .i64 g.sp)
    clear cp cs zs
    generalize w.setCell ⟨K.vb, t * 3 + 1, none⟩ (.int .i64 g.sp) = w1 at a1 U1 ⊢
    have cp : w1.cell? ⟨K.h, 39, none⟩ = some (.int .i64 g.sp) := a1.sp
    have zp := a1.z 39
    have lp := a1.l
    go_upto_region 4 with fail
    have a2 := a1.setSp (g.sp + 1)
    have U2 := U1.setCell (q := ⟨K.h, 39, none⟩) (.inl (.inl rfl)) (.int .i64 (g.sp + 1))
    clear cp zp lp a1 U1
    generalize w1.setCell ⟨K.h, 39, none⟩ (.int .i64 (g.sp + 1)) = w2 at a2 U2 ⊢
    have PU := fun w a => put_any (K := K) (g := (g.setS t g.sp).setSp (g.sp + 1)) (stsC r g.sp) w a (sts_ok r g.sp r0 r1 s0 s1) HN.out
    rw [ER.out] at HP
    have ht' : t < K.os.length := hL ▸ HT.out
    have v1 : (((g.setS t g.sp).setSp (g.sp + 1)).v t).reg = r := by simpa [Gm.setS, Gm.setSp, upd] using ER.out
    have v2 : (((g.setS t g.sp).setSp (g.sp + 1)).v t).spill = g.sp := by simp [Gm.setS, Gm.setSp, upd]
    have v3 : ((((g.setS t g.sp).setSp (g.sp + 1)).put (stsC r g.sp)).v t).reg = r := v1
    have F0 := Lib.hid (v2c a2 ht' v1 v2)
    have Fd := Lib.hid (v2c a2.drew ht' v1 v2)
    have v4 : ((((g.setS t g.sp).setSp (g.sp + 1)).put (stsC r g.sp)).v t).spill = g.sp := v2
    have PU := Lib.hid PU
    have A2 := Lib.hid a2
    have U2 := Lib.hid U2
    have lv := a2.l2
    have V3 := Lib.hid v3
    have V4 := Lib.hid v4
    have HT' := Lib.hid ht'
    clear a2 v1 v2 v3 v4 ht'
    generalize ((g.setS t g.sp).setSp (g.sp + 1)).put (stsC r g.sp) = g3 at HP PU V3 V4
    go_region_held3 (fun W => W.cell? ⟨K.vb, t * 3, none⟩ = some (.int .i64 (r : Int)) ∧ W.cell? ⟨K.vb, t * 3 + 1, none⟩ = some (.int .i64 g.sp)) (with_reducible (first | apply F0.out | apply Fd.out | apply F3.out))
      ((go_at_call 47; refine (PU.out _ A2.out.drew).mono ?_; rintro e w3 ⟨rfl, a3, u3⟩; have F3 := Lib.hid (v2c a3 HT'.out V3.out V4.out); have A3 := Lib.hid a3; have U3 := Lib.hid (U2.out.drew.trans u3); clear a3 u3))
    clear F0 Fd F3 A2 U2 PU lv
    go_upto_region 5 with fail
    have cr : w3.cell? ⟨K.vb, t * 3, none⟩ = some (.int .i64 (r : Int)) := by have := A3.out.vr t HT'.out; rw [V3.out] at this; exact this
    have zh := A3.out.z (7 + r)
    have ch := A3.out.hol r hr
    have lv := A3.out.l2
    have lh := A3.out.l
    go_region
    have a5 := (A3.out.setH r (-1) hr).drew
    have U5 := (U3.out.setCell (q := ⟨K.h, 7 + r, none⟩) (.inl (.inl rfl)) (.int .i64 (-1))).drew
    clear cr zh ch lh lv
    generalize (w3.setCell ⟨K.h, 7 + r, none⟩ (.int .i64 (-1))).drew = w5 at a5 U5 ⊢
    have cr := a5.vr t HT'.out
    have zv := a5.zv (t * 3)
    have lv := a5.l2
    go_wp2
    go_end0
    exact ⟨rfl, by rw [HP.out]; exact a5.setR t (-1) HT'.out, U5.setCell (q := ⟨K.vb, t * 3, none⟩) (.inl (.inr (.inl rfl))) (.int .i64 (-1))⟩
  · have HP := Lib.hid (show g.lay K.os t = g from by unfold Gm.lay; rw [if_neg hx])
    have HT' := Lib.hid (show t < K.os.length from hL ▸ HT.out)
    have U0 := Lib.hid (Upto.refl (SG K) w)
    rw [SE.out] at hx
    clear hsp SE
    by_cases x1 : nx = 1073741824
    · have e1 : (nx != 1073741824) = false := by simpa using x1
      clear hx
      go_enter Try.func195, Try.ntmps195
      go_upto_region 5 with (go_at_call 194; refine (NX.out _ A.out).mono ?_; rintro e w' ⟨rfl, rfl⟩)
      clear cs kc c3 c6 lv
      have cr : w.cell? ⟨K.vb, t * 3, none⟩ = some (.int .i64 (r : Int)) := by have := A.out.vr t HT'.out; rw [ER.out] at this; exact this
      have zh := A.out.z (7 + r)
      have ch := A.out.hol r hr
      have lv := A.out.l2
      have lh := A.out.l
      go_region
      have a5 := (A.out.setH r (-1) hr).drew
      have U5 := (U0.out.setCell (q := ⟨K.h, 7 + r, none⟩) (.inl (.inl rfl)) (.int .i64 (-1))).drew
      clear cr zh ch lh lv
      generalize (w.setCell ⟨K.h, 7 + r, none⟩ (.int .i64 (-1))).drew = w5 at a5 U5 ⊢
      have cr := a5.vr t HT'.out
      have zv := a5.zv (t * 3)
      have lv := a5.l2
      go_wp2
      go_end0
      exact ⟨rfl, by rw [HP.out]; exact a5.setR t (-1) HT'.out, U5.setCell (q := ⟨K.vb, t * 3, none⟩) (.inl (.inr (.inl rfl))) (.int .i64 (-1))⟩
    · have e1 : (nx != 1073741824) = true := by simpa using x1
      by_cases x2 : s < 0
      · have x3 : kd = 1 := Classical.byContradiction fun h => hx (by simp [x1, x2, h])
        have e3 : (kd != 1) = false := by simpa using x3
        clear hx x3
        go_enter Try.func195, Try.ntmps195
        go_upto_region 5 with (go_at_call 194; refine (NX.out _ A.out).mono ?_; rintro e w' ⟨rfl, rfl⟩)
        clear cs kc c3 c6 lv
        have cr : w.cell? ⟨K.vb, t * 3, none⟩ = some (.int .i64 (r : Int)) := by have := A.out.vr t HT'.out; rw [ER.out] at this; exact this
        have zh := A.out.z (7 + r)
        have ch := A.out.hol r hr
        have lv := A.out.l2
        have lh := A.out.l
        go_region
        have a5 := (A.out.setH r (-1) hr).drew
        have U5 := (U0.out.setCell (q := ⟨K.h, 7 + r, none⟩) (.inl (.inl rfl)) (.int .i64 (-1))).drew
        clear cr zh ch lh lv
        generalize (w.setCell ⟨K.h, 7 + r, none⟩ (.int .i64 (-1))).drew = w5 at a5 U5 ⊢
        have cr := a5.vr t HT'.out
        have zv := a5.zv (t * 3)
        have lv := a5.l2
        go_wp2
        go_end0
        exact ⟨rfl, by rw [HP.out]; exact a5.setR t (-1) HT'.out, U5.setCell (q := ⟨K.vb, t * 3, none⟩) (.inl (.inr (.inl rfl))) (.int .i64 (-1))⟩
      · clear hx
        go_enter Try.func195, Try.ntmps195
        go_upto_region 5 with (go_at_call 194; refine (NX.out _ A.out).mono ?_; rintro e w' ⟨rfl, rfl⟩)
        clear cs kc c3 c6 lv
        have cr : w.cell? ⟨K.vb, t * 3, none⟩ = some (.int .i64 (r : Int)) := by have := A.out.vr t HT'.out; rw [ER.out] at this; exact this
        have zh := A.out.z (7 + r)
        have ch := A.out.hol r hr
        have lv := A.out.l2
        have lh := A.out.l
        go_region
        have a5 := (A.out.setH r (-1) hr).drew
        have U5 := (U0.out.setCell (q := ⟨K.h, 7 + r, none⟩) (.inl (.inl rfl)) (.int .i64 (-1))).drew
        clear cr zh ch lh lv
        generalize (w.setCell ⟨K.h, 7 + r, none⟩ (.int .i64 (-1))).drew = w5 at a5 U5 ⊢
        have cr := a5.vr t HT'.out
        have zv := a5.zv (t * 3)
        have lv := a5.l2
        go_wp2
        go_end0
        exact ⟨rfl, by rw [HP.out]; exact a5.setR t (-1) HT'.out, U5.setCell (q := ⟨K.vb, t * 3, none⟩) (.inl (.inr (.inl rfl))) (.int .i64 (-1))⟩
end Go.Proofs.Ytcjcmnnhmajocab.Gn
