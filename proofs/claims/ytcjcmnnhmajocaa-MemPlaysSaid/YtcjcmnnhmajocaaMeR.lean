/- crossgrainref2.Memory: Fetch, Changed. -/
import Derived.Test.YtcjcmnnhmajocaaMeQ
import Derived.Test.YtcjcmnnhmajocaaMeL
import Derived.Deep.RegionLaw
import Derived.IntWalk
namespace Go.Proofs.Ytcjcmnnhmajocaa.Me
open Go.RowKit Kt
set_option linter.unusedVariables false
set_option linter.unusedSimpArgs false
/-- append to nil, as one step of a region -/
theorem step_new {ops : Array Oper} {o : Oper} {a : Act} {w : World} {K : Act → World → Prop} {Q : Exit → Act → World → Prop} {E : Prop}
    (hg : o.guard = none) (x : Operand) (hop : o.op = Op.call { callee := Callee.builtin Builtin.append, args := #[.const (.slice none 0 0), x], argTypes := #[54, 54] })
    (us : List Int) (b off n cap : Nat) (hx : a.eval x = .slice (some ⟨b, off, none⟩) n cap) (hn : us.length = n) (hc : ∀ j, j < us.length → w.cell? ⟨b, off + j, none⟩ = some (.int .u8 (us.getD j 0))) (hb : us.length ≤ 140737488355328)
    (hK : ∀ v' w', Own w.heap.size v' us w' → Below w.heap.size w w' → K (a.put o.dst v') w') :
    if Region.wanted o (yielded ops a.tmps) = true then Oper.wp Try.prog o a w K Q else E := by
  have hw : Region.wanted o (yielded ops a.tmps) = true := by simp [Region.wanted, hg]
  rw [if_pos hw]
  subst hn
  obtain ⟨i, hi, hz, hsz, hby⟩ := Gu.u8_info
  have hmx : (maxLen : Nat) = 9223372036854775807 := rfl
  have e1 : ∀ j u, (us.map (Value.int .u8))[j]? = some u → w.cell? ((⟨b, off, none⟩ : Addr).add j) = some u := by
    intro j u hj
    rw [List.getElem?_map] at hj
    obtain ⟨z, hz, rfl⟩ := Option.map_eq_some_iff.1 hj
    have hlt := (List.getElem?_eq_some_iff.1 hz).1
    rw [Addr.add_lit, hc j hlt, List.getD_eq_getElem?_getD, hz]; rfl
  have e2 : ∀ u ∈ us.map (Value.int .u8), u.oneCell' = true := by
    intro u hu
    obtain ⟨z, _, rfl⟩ := List.mem_map.1 hu
    rfl
  obtain ⟨v', w', hrun, r1, r2, _⟩ := run_append_own (P := Try.prog) w w.heap.size 54 o.type 5 i (.int .u8 0) 1 1 Try.underlying54 hi hz hsz hby rfl Nat.one_pos (.slice none 0 0) 0 [] (World.ownsRow_nil w _ _ _) ⟨b, off, none⟩ us.length cap (us.map (Value.int .u8)) (by simp) e1 e2 (by omega) (by omega) (Nat.le_refl _)
  unfold Oper.wp
  have hs : a.eval (.const (.slice none 0 0)) = .slice none 0 0 := rfl
  simp [execOp, hop, resolve, invoke, builtin, hs, hx, hrun, Result.andThen]
  exact hK v' w' (by unfold Own; simpa using r1) ((Below.refl _ _).grown r2 (Nat.le_refl _) (fun k hk => by cases hk))
theorem rfetch_no (q : Nat) (a n : Int) (w : World) (hn : n < 0 ∨ 8 < n) :
    Calls Try.prog 79 #[.pointer (some ⟨q, 0, none⟩), .int .u32 a, .int .i64 n] w fun e w' => e = .returned (.tuple #[.slice none 0 0, .agg #[.int .i64 0, .int .u32 0]]) ∧ Below w.heap.size w w' := by
  have b0 := Below.refl w.heap.size w
  rcases (show n < 0 ∨ (¬ n < 0 ∧ 8 < n) by omega) with h | ⟨h, h1⟩
  all_goals clear hn
  all_goals go_enter Try.func79, Try.ntmps79
  all_goals go_wp2
  all_goals refine bodyPost_ret (v := .tuple #[.slice none 0 0, .agg #[.int .i64 0, .int .u32 0]]) (by simp [results, Try.results79, go_sem]) rfl ⟨rfl, ?_⟩
  all_goals exact b0.alloc (Nat.le_refl _) _
set_option maxRecDepth 100000 in
set_option maxHeartbeats 2000000 in
theorem rfetch_bad (P : RP) (M : MM) (a n x : Int) (w : World) (h : RM P M w) (hM : MOk M) (a0 : 0 ≤ a) (a1 : a < 4294967296) (n0 : ¬ n < 0) (n1 : ¬ 8 < n) (hs : srch M 4 a n.toNat = some x) :
    Calls Try.prog 79 #[.pointer (some ⟨P.q, 0, none⟩), .int .u32 a, .int .i64 n] w fun e w' => e = .returned (.tuple #[.slice none 0 0, .agg #[.int .i64 4, .int .u32 x]]) ∧ Below w.heap.size w w' := by
  have HB := Lib.hid (fun w h => ruse P M a n 4 4 w h hM (.inr (.inr rfl)) a0 a1 (by omega))
  rw [hs] at HB
  simp only [stpV] at HB
  have HH := Lib.hid (fun o => h.upto ((Upto.refl (fun _ => False) w).alloc o) (fun _ _ => id))
  clear h hM hs
  go_enter Try.func79, Try.ntmps79
  go_wp2_with (go_at_call 118; refine (HB.out _ (HH.out _)).mono ?_; rintro e w1 ⟨rfl, hb1⟩; obtain ⟨g0, g1, g2, g3, g4⟩ := Rs.of_call hb1; have B1 := Lib.hid (aft_alloc hb1); clear hb1)
  go_region
  go_wp2
  refine bodyPost_ret (v := .tuple #[.slice none 0 0, .agg #[.int .i64 4, .int .u32 x]]) (by simp [results, Try.results79, go_sem, g0, g1, g4]) rfl ⟨rfl, ?_⟩
  exact (((B1.out.setCell (Nat.le_refl _) _).setCell (Nat.le_refl _) _).alloc (by simpa using B1.out.size) _).drew
set_option maxRecDepth 100000 in
set_option maxHeartbeats 2000000 in
theorem rfetch_zero (P : RP) (M : MM) (a : Int) (w : World) (h : RM P M w) (hM : MOk M) (a0 : 0 ≤ a) (a1 : a < 4294967296) :
    Calls Try.prog 79 #[.pointer (some ⟨P.q, 0, none⟩), .int .u32 a, .int .i64 0] w fun e w' => e = .returned (.tuple #[.slice none 0 0, .agg #[.int .i64 0, .int .u32 0]]) ∧ Below w.heap.size w w' := by
  have HB := Lib.hid (fun w h => ruse P M a 0 4 4 w h hM (.inr (.inr rfl)) a0 a1 (by omega))
  rw [show srch M 4 a (0 : Int).toNat = none from rfl] at HB
  simp only [stpV] at HB
  have HH := Lib.hid (fun o => h.upto ((Upto.refl (fun _ => False) w).alloc o) (fun _ _ => id))
  clear h hM
  go_enter Try.func79, Try.ntmps79
  go_wp2_with (go_at_call 118; refine (HB.out _ (HH.out _)).mono ?_; rintro e w1 ⟨rfl, hb1⟩; obtain ⟨g0, g1, g2, g3, g4⟩ := Rs.of_call hb1; have B1 := Lib.hid (aft_alloc hb1); clear hb1)
  go_region
  go_wp2
  refine bodyPost_ret (v := .tuple #[.slice none 0 0, .agg #[.int .i64 0, .int .u32 0]]) (by simp [results, Try.results79, go_sem, g0, g1, g4]) rfl ⟨rfl, ?_⟩
  exact (((B1.out.setCell (Nat.le_refl _) _).setCell (Nat.le_refl _) _).alloc (by simpa using B1.out.size) _).drew
set_option maxRecDepth 100000 in
set_option maxHeartbeats 2000000 in
theorem rfetch_ok (P : RP) (M : MM) (a n : Int) (w : World) (h : RM P M w) (hM : MOk M) (h0 : 0 < n) (h8 : n ≤ 8) (a0 : 0 ≤ a) (ha : a < 4294967296) (hs : srch M 4 a n.toNat = none) :
    Calls Try.prog 79 #[.pointer (some ⟨P.q, 0, none⟩), .int .u32 a, .int .i64 n] w fun e w' => ∃ v, e = .returned (.tuple #[v, .agg #[.int .i64 0, .int .u32 0]]) ∧ Own w.heap.size v (rdB M a.toNat n.toNat) w' ∧ Below w.heap.size w w' := by
  have HB := Lib.hid (fun w h => ruse P M a n 4 4 w h hM (.inr (.inr rfl)) (by omega) (by omega) (by omega))
  rw [hs] at HB
  simp only [stpV] at HB
  have p0 := (plc_in (by omega) (by omega) hs 0 (by omega) (by omega)).2
  have p1 := (plc_in (by omega) (by omega) hs (n - 1).toNat (by omega) (by omega)).2
  have k0 : ¬ n < 0 := by omega
  have k1 : ¬ 8 < n := by omega
  have k2 : (n == 0) = false := by rw [beq_eq_false_iff_ne]; omega
  have k3 : a < 65536 := by omega
  have k4 : a + n ≤ 65536 := by omega
  have k5 : a ≤ a + n := by omega
  have k6 : 0 ≤ n := by omega
  have HH := Lib.hid (fun o => h.upto ((Upto.refl (fun _ => False) w).alloc o) (fun _ _ => id))
  have HP := Lib.hid h
  have q0 := h.hq0
  have lq := h.lq
  have lb := h.lb
  obtain ⟨pq, pb, pr, pm, pt⟩ := P
  have HC := Lib.hid (show ∀ j, j < (rdB M a.toNat n.toNat).length → w.cell? ⟨pb, a.toNat + j, none⟩ = some (.int .u8 ((rdB M a.toNat n.toNat).getD j 0)) from fun j hj => by
    rw [rdB_len] at hj
    rw [rdB_get M a.toNat n.toNat j hj]; exact h.hb _ (by omega))
  have HL := Lib.hid (rdB_len M a.toNat n.toNat)
  have HN := Lib.hid (show n.toNat = (a + n).toNat - a.toNat by omega)
  simp only at q0 lq lb HB HH
  clear h hM hs p0 p1
  go_enter Try.func79, Try.ntmps79
  go_wp2_with (go_at_call 118; refine (HB.out _ (HH.out _)).mono ?_; rintro e w1 ⟨rfl, hb1⟩; have RX1 := Lib.hid (Rs.of_call hb1); obtain ⟨g0, g1, g2, g3, g4⟩ := RX1.out; have B1 := Lib.hid (aft_alloc hb1); have q0' := (B1.out.cell (p := ⟨pq, 0, none⟩) lq).trans q0; have lq' := Nat.lt_of_lt_of_le lq B1.out.size; have lb' := Nat.lt_of_lt_of_le lb B1.out.size; clear hb1)
  have HLE := Lib.hid (show (rdB M a.toNat n.toNat).length ≤ 140737488355328 by rw [HL.out]; omega)
  have HC2 := Lib.hid (show ∀ j, j < (rdB M a.toNat n.toNat).length → (w1.alloc (.cells #[.int .i64 0, .int .u32 0] 131)).drew.cell? ⟨pb, a.toNat + j, none⟩ = some (.int .u8 ((rdB M a.toNat n.toNat).getD j 0)) from fun j hj =>
    (((B1.out.alloc B1.out.size _).drew).cell (p := ⟨pb, a.toNat + j, none⟩) lb).trans (HC.out j hj))
  have y1 : ¬ 65536 = a.toNat := by omega
  have y2 : 0 ≤ a + n := by omega
  have y3 : max (a + n) 0 = a + n := by omega
  have y4 : IntKind.i64.wrap a = a := IntWalk.i64_in _ (by omega)
  have y5 : IntKind.i64.wrap (a + n) = a + n := IntWalk.i64_in _ (by omega)
  go_region_law (refine step_new rfl (.tmp 37) rfl (rdB M a.toNat n.toNat) pb a.toNat ((a + n).toNat - a.toNat) (65536 - a.toNat) (by simp [Act.eval, Act.put]) (HL.out.trans HN.out) HC2.out HLE.out ?_; intro v w2 hv hb2; have RX2 := Lib.hid ((RX1.out.upto ((Upto.refl (fun _ => False) _).alloc (.cells #[.int .i64 0, .int .u32 0] 131)) id).drew.upto (Upto.of_below (S := fun _ => False) hb2) id); have RY2 := Lib.hid (((Rs.new w1 w1.heap.size rfl).drew).upto (Upto.of_below (S := fun _ => False) hb2) id); have B2 := Lib.hid hb2; have HV := Lib.hid hv; clear hb2 hv; obtain ⟨i0, i1, i2, i3, i4⟩ := RX2.out; obtain ⟨j0, j1, j2, j3, j4⟩ := RY2.out)
  all_goals go_wp2
  all_goals refine bodyPost_ret (v := .tuple #[v, .agg #[.int .i64 0, .int .u32 0]]) (by simp [results, Try.results79, go_sem, i0, i1, i4]) rfl ⟨v, rfl, ?_, ?_⟩
  all_goals first
    | exact ((HV.out.below (by simp; omega) _).below (by simp; omega) _).mono (by simp; omega)
    | exact ((((B1.out.alloc B1.out.size _).drew).trans (B2.out.mono (by have := B1.out.size; simp; omega))).setCell (Nat.le_refl _) _).setCell (Nat.le_refl _) _
theorem rfetch_any (P : RP) (M : MM) (a n : Int) (w : World) (h : RM P M w) (hM : MOk M) (a0 : 0 ≤ a) (a1 : a < 4294967296) :
    Calls Try.prog 79 #[.pointer (some ⟨P.q, 0, none⟩), .int .u32 a, .int .i64 n] w fun e w' => ∃ v, e = .returned (.tuple #[v, stpV 4 (fetS M a n)]) ∧ Own w.heap.size v (fetL M a n) w' ∧ Below w.heap.size w w' := by
  unfold fetL fetS
  by_cases hn : 0 ≤ n ∧ n ≤ 8
  · rw [if_pos hn, if_pos hn]
    obtain ⟨o, ho⟩ : ∃ o, srch M 4 a n.toNat = o := ⟨_, rfl⟩
    rw [ho]
    rcases o with _ | x
    · simp only [Option.isNone_none, if_true, stpV]
      by_cases h0 : n = 0
      · subst h0
        refine (rfetch_zero P M a w h hM a0 a1).mono ?_
        rintro e w' ⟨rfl, hb⟩
        exact ⟨_, rfl, Own.nil _ _, hb⟩
      · exact rfetch_ok P M a n w h hM (by omega) (by omega) a0 a1 ho
    · simp only [Option.isNone_some, Bool.false_eq_true, if_false, stpV]
      refine (rfetch_bad P M a n x w h hM a0 a1 (by omega) (by omega) ho).mono ?_
      rintro e w' ⟨rfl, hb⟩
      exact ⟨_, rfl, Own.nil _ _, hb⟩
  · rw [if_neg hn, if_neg hn]
    refine (rfetch_no P.q a n w (by omega)).mono ?_
    rintro e w' ⟨rfl, hb⟩
    exact ⟨_, rfl, Own.nil _ _, hb⟩
/-- told no longer, page after page -/
def clrN (M : MM) (k : Nat) : MM := { M with hi := fun j => if j < k then false else M.hi j }
theorem clrN_false (M : MM) (k : Nat) (h : M.hi k = false) : clrN M (k + 1) = clrN M k := by
  unfold clrN; congr 1; funext j
  by_cases hj : j < k
  · rw [if_pos (by omega), if_pos hj]
  · by_cases hjk : j = k
    · subst hjk; rw [if_pos (by omega), if_neg hj, h]
    · rw [if_neg (by omega), if_neg hj]
theorem clrN_true (M : MM) (k : Nat) : clrN M (k + 1) = { clrN M k with hi := upd (clrN M k).hi k false } := by
  unfold clrN upd; congr 1; funext j
  by_cases hj : j < k
  · simp only; rw [if_pos (by omega), if_neg (by omega), if_pos hj]
  · by_cases hjk : j = k
    · subst hjk; simp
    · simp only; rw [if_neg (by omega), if_neg hjk, if_neg hj]
theorem Upto.of_below' {B : Nat} {w w' : World} (h : Below B w w') : Upto (fun i => B ≤ i) w w' := ⟨h.os, h.tape, h.output, h.size, fun k hk hs => h.block k (by omega)⟩
theorem Upto.drop {B : Nat} {S : Nat → Prop} {w a b : World} (h : Upto S w a) (k : Upto (fun i => B ≤ i) a b) (hB : w.heap.size ≤ B) : Upto S w b :=
  ⟨k.os.trans h.os, k.tape.trans h.tape, k.output.trans h.output, Nat.le_trans h.size k.size, fun i hi hs => (k.block i (Nat.lt_of_lt_of_le hi h.size) (by omega)).trans (h.block i hi hs)⟩
set_option maxRecDepth 100000 in
set_option maxHeartbeats 4000000 in
theorem rchanged_any (P : RP) (M : MM) (w : World) (h : RM P M w) :
    Calls Try.prog 83 #[.pointer (some ⟨P.q, 0, none⟩)] w fun e w' => ∃ v, e = .returned v ∧ OwnI w.heap.size v (tlN M.hi 256) w' ∧ RM P (clr M) w' ∧ Upto P.S w w' := by
  have q3 := h.hq3
  have HH := Lib.hid h
  have HPt : P.has P.t := .inr (.inr (.inr (.inr rfl)))
  have lt := h.lt
  have hold : ∀ k, P.has k → ¬ w.heap.size ≤ k := by
    have := h.lq; have := h.lb; have := h.lr; have := h.lm; have := h.lt
    rintro k (h | h | h | h | h) <;> omega
  have HOLD := Lib.hid hold
  clear h hold
  go_enter Try.func83, Try.ntmps83
  go_wp2
  go_loopg [3, 10] 256 (fun g v i wr => ∃ k : Nat, g = 256 - k ∧ k ≤ 256 ∧ i = .int .i64 k ∧ Hid (OwnI w.heap.size v (tlN M.hi k) wr) ∧ Hid (RM P (clrN M k) wr) ∧ Hid (Upto P.S w wr))
  case atStart => exact ⟨0, rfl, Nat.zero_le _, rfl, OwnI.nil _ _, HH.out.congr (fun _ _ => rfl) (fun _ _ => rfl) (fun _ _ => rfl) (fun j _ => by simp [clrN]), Upto.refl _ _⟩
  case round =>
    obtain ⟨k, hg, hk, rfl, HO, HR, HU⟩ := hrel
    by_cases hlt : k < 256
    · have hlt' : (k : Int) < 256 := by omega
      have hge' : (0 : Int) ≤ (k : Int) := by omega
      have q3' := HR.out.hq3
      have c4 := HR.out.ht k hlt
      have z4 := HR.out.zt k
      have lt' := HR.out.lt
      have hsn := Lib.hid (tlN_succ M.hi k)
      have hln := tlN_len M.hi k
      rw [show (clrN M k).hi k = M.hi k by simp [clrN]] at c4
      rcases hb : M.hi k with _ | _
      · rw [hb] at c4 hsn
        have hc := Lib.hid (clrN_false M k hb)
        clear hb
        go_wp2
        go_roundg (256 - (k + 1))
        case measure => omega
        case rel => exact ⟨k + 1, rfl, by omega, by simp, by show OwnI _ _ (tlN M.hi (k + 1)) _; rw [hsn.out]; simpa using HO.out, by show RM P (clrN M (k + 1)) _; rw [hc.out]; exact HR.out, HU.out⟩
      · rw [hb] at c4 hsn
        clear hb
        go_wp2_with (at_builtin; refine ap_int rfl (.tmp 20) (.tmp 22) rfl w.heap.size _ (tlN M.hi k) rfl (HO.out.keep ((Below.refl _ _).alloc (Nat.le_refl _) _)) (Nat.le_trans HU.out.size (by simp)) wr.heap.size 1 k rfl (new1 _ _ _) (by omega) ?_; intro v' w2 hv hbb; have H2 := Lib.hid (HR.out.upto (((Upto.refl (fun i => w.heap.size ≤ i) wr).alloc (.cells #[.int .i64 (k : Int)] 3)).trans (Upto.of_below' hbb)) HOLD.out); have p3 := H2.out.hq3; have d4 := H2.out.ht k hlt; have y4 := H2.out.zt k; have B2 := Lib.hid ((HU.out.alloc (.cells #[.int .i64 (k : Int)] 3)).drop (Upto.of_below' hbb) (Nat.le_refl _)); have HV := Lib.hid hv; clear hbb hv)
        go_roundg (256 - (k + 1))
        case measure => omega
        case rel =>
          refine ⟨k + 1, rfl, by omega, by simp, ?_, ?_, ?_⟩
          · show OwnI _ _ (tlN M.hi (k + 1)) _
            rw [hsn.out]
            rw [if_pos trivial]
            exact ownsRow_setCell_below HV.out lt _
          · show RM P (clrN M (k + 1)) _
            rw [clrN_true]
            exact H2.out.setT k hlt false
          · exact B2.out.setCell (q := ⟨P.t, k, none⟩) (.inl HPt) _
    · obtain rfl : k = 256 := by omega
      go_wp2
      go_ret
      exact ⟨_, rfl, HO.out, HR.out.congr (fun _ _ => rfl) (fun _ _ => rfl) (fun _ _ => rfl) (fun j hj => by simp [clr, clrN, hj]), HU.out⟩
end Go.Proofs.Ytcjcmnnhmajocaa.Me
