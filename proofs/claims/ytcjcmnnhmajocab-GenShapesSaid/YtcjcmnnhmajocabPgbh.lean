/- gen.Code walked. -/
import Derived.Deep.DeepCutAuto
import Derived.Test.YtcjcmnnhmajocabPgbf
namespace Go.Proofs.Ytcjcmnnhmajocab.Gn
open Go.RowKit Kt Ic Hr Ho Me
set_option linter.unusedVariables false
set_option linter.unusedSimpArgs false
theorem ops_at {os : List Opr} {b off cap : Nat} {w : World} (a : Ops os (some ⟨b, off, none⟩) cap w) {t : Nat} (ht : t < os.length) : b < w.heap.size ∧ w.cell? ⟨b, off + t * 7, none⟩ = some (.int .i64 (opAt os t).k) ∧ w.cell? ⟨b, off + t * 7 + 1, none⟩ = some (.int .i64 (opAt os t).w) ∧ w.cell? ⟨b, off + t * 7 + 2, none⟩ = some (.int .i64 (opAt os t).a) ∧
    w.cell? ⟨b, off + t * 7 + 3, none⟩ = some (.int .i64 (opAt os t).b) ∧ w.cell? ⟨b, off + t * 7 + 4, none⟩ = some (.int .i64 (opAt os t).c) ∧ w.cell? ⟨b, off + t * 7 + 5, none⟩ = some (.int .u32 (opAt os t).kn) ∧ w.cell? ⟨b, off + t * 7 + 6, none⟩ = some (.int .i64 (opAt os t).n) := by
  obtain ⟨h1, h2, h3⟩ := a
  obtain ⟨b', off', e, hb, hc⟩ := h3 (by omega)
  cases e
  have hg : os[t]? = some (opAt os t) := by unfold opAt; rw [List.getD_eq_getElem?_getD, List.getElem?_eq_getElem ht]; rfl
  exact ⟨hb, hc t _ hg 0 _ rfl, hc t _ hg 1 _ rfl, hc t _ hg 2 _ rfl, hc t _ hg 3 _ rfl, hc t _ hg 4 _ rfl, hc t _ hg 5 _ rfl, hc t _ hg 6 _ rfl⟩
theorem nb_upd {n t : Nat} {uv : Nat → Value} {v' : Value} {ta : Option Addr} {L S : Nat} (h : ∀ t, t < n → ∀ k, (uv t).ownBlock = some k → ∀ q, ta = some q → 0 < L → k ≠ q.block) (hk : v'.ownBlock = (uv t).ownBlock ∨ v'.ownBlock = some S) (ht : t < n) (hS : ∀ q, ta = some q → 0 < L → S ≠ q.block) :
    ∀ t', t' < n → ∀ k, (upd uv t v' t').ownBlock = some k → ∀ q, ta = some q → 0 < L → k ≠ q.block := by
  intro t' ht' k hk' q hq h0
  by_cases e : t' = t
  · rw [e, show upd uv t v' t = v' from if_pos rfl] at hk'
    rcases hk with hk | hk
    · exact h t ht k (hk ▸ hk') q hq h0
    · rw [hk] at hk'; obtain rfl := Option.some.inj hk'; exact hS q hq h0
  · rw [show upd uv t v' t' = uv t' from if_neg e] at hk'
    exact h t' ht' k hk' q hq h0
theorem Upto.trans' {S : Nat → Prop} {a b c : World} (h : Upto (fun _ => False) a b) (k : Upto S b c) (hs : ∀ i, i < a.heap.size → ¬ S i) : Upto (fun _ => False) a c :=
  ⟨k.os.trans h.os, k.tape.trans h.tape, k.output.trans h.output, Nat.le_trans h.size k.size, fun i hi _ => (k.block i (Nat.lt_of_lt_of_le hi h.size) (hs i hi)).trans (h.block i hi id)⟩
def gk0 (os : List Opr) (ao : Option Addr) (cap : Nat) (pc cnt byt : Int) (R B : Nat) : Gk := ⟨os, ao, cap, pc, cnt, byt, R, B + 1, B, B + 2, fun _ => False⟩
/-- as it is made: the values' block, the maker's -/
theorem made_GU (w : World) (os : List Opr) (ao : Option Addr) (cap : Nat) (pc cnt byt : Int) (R : Nat) (hops : Ops os ao cap w) (W : World)
    (hW : W = (w.alloc (.cells (madeCells #[.int .i64 0, .int .i64 0, .slice none 0 0] (os.length * 3)) 104)).alloc (.cells #[.int .u32 pc, .int .i64 cnt, .int .i64 byt, .slice ao os.length cap, .slice none 0 0, .int .i64 R, .slice (some ⟨w.heap.size, 0, none⟩) os.length os.length, .int .i64 0, .int .i64 0, .int .i64 0, .int .i64 0, .int .i64 0, .int .i64 0, .int .i64 0, .int .i64 0, .int .i64 0, .int .i64 0, .int .i64 0, .int .i64 0, .int .i64 0, .int .i64 0, .int .i64 0, .int .i64 0, .bool false, .bool false, .bool false, .bool false, .bool false, .bool false, .bool false, .bool false, .bool false, .bool false, .bool false, .bool false, .bool false, .bool false, .bool false, .bool false, .int .i64 0] 102)) :
    GU (gk0 os ao cap pc cnt byt R w.heap.size) 0 0 (fun _ => []) (fun _ => .slice none 0 0) W := by
  have u : Upto (fun _ => False) w W := by subst hW; exact ((Upto.refl (fun _ => False) w).alloc _).alloc _
  have hs : W.heap.size = w.heap.size + 2 := by subst hW; simp
  have e1 : (w.alloc (.cells (madeCells #[.int .i64 0, .int .i64 0, .slice none 0 0] (os.length * 3)) 104)).heap.size = w.heap.size + 1 := by simp
  have hh : ∀ i, W.cell? ⟨w.heap.size + 1, i, none⟩ = (#[.int .u32 pc, .int .i64 cnt, .int .i64 byt, .slice ao os.length cap, .slice none 0 0, .int .i64 R, .slice (some ⟨w.heap.size, 0, none⟩) os.length os.length, .int .i64 0, .int .i64 0, .int .i64 0, .int .i64 0, .int .i64 0, .int .i64 0, .int .i64 0, .int .i64 0, .int .i64 0, .int .i64 0, .int .i64 0, .int .i64 0, .int .i64 0, .int .i64 0, .int .i64 0, .int .i64 0, .bool false, .bool false, .bool false, .bool false, .bool false, .bool false, .bool false, .bool false, .bool false, .bool false, .bool false, .bool false, .bool false, .bool false, .bool false, .bool false, .int .i64 0] : Array Value)[i]? := fun i => by
    subst hW
    have := cell_of_row _ (w.alloc (.cells (madeCells #[.int .i64 0, .int .i64 0, .slice none 0 0] (os.length * 3)) 104)).heap.size i _ _ _ (heap_alloc_new (w.alloc (.cells (madeCells #[.int .i64 0, .int .i64 0, .slice none 0 0] (os.length * 3)) 104)) (.cells #[.int .u32 pc, .int .i64 cnt, .int .i64 byt, .slice ao os.length cap, .slice none 0 0, .int .i64 R, .slice (some ⟨w.heap.size, 0, none⟩) os.length os.length, .int .i64 0, .int .i64 0, .int .i64 0, .int .i64 0, .int .i64 0, .int .i64 0, .int .i64 0, .int .i64 0, .int .i64 0, .int .i64 0, .int .i64 0, .int .i64 0, .int .i64 0, .int .i64 0, .int .i64 0, .int .i64 0, .bool false, .bool false, .bool false, .bool false, .bool false, .bool false, .bool false, .bool false, .bool false, .bool false, .bool false, .bool false, .bool false, .bool false, .bool false, .bool false, .int .i64 0] 102))
    rw [e1] at this
    exact this
  have hz : ∀ i, W.frozen? ⟨w.heap.size + 1, i, none⟩ = false := fun i => by
    subst hW
    have := frozen_of_row _ (w.alloc (.cells (madeCells #[.int .i64 0, .int .i64 0, .slice none 0 0] (os.length * 3)) 104)).heap.size i _ _ (heap_alloc_new (w.alloc (.cells (madeCells #[.int .i64 0, .int .i64 0, .slice none 0 0] (os.length * 3)) 104)) (.cells #[.int .u32 pc, .int .i64 cnt, .int .i64 byt, .slice ao os.length cap, .slice none 0 0, .int .i64 R, .slice (some ⟨w.heap.size, 0, none⟩) os.length os.length, .int .i64 0, .int .i64 0, .int .i64 0, .int .i64 0, .int .i64 0, .int .i64 0, .int .i64 0, .int .i64 0, .int .i64 0, .int .i64 0, .int .i64 0, .int .i64 0, .int .i64 0, .int .i64 0, .int .i64 0, .int .i64 0, .bool false, .bool false, .bool false, .bool false, .bool false, .bool false, .bool false, .bool false, .bool false, .bool false, .bool false, .bool false, .bool false, .bool false, .bool false, .bool false, .int .i64 0] 102))
    rw [e1] at this
    exact this
  have u2 : Upto (fun _ => False) (w.alloc (.cells (madeCells #[.int .i64 0, .int .i64 0, .slice none 0 0] (os.length * 3)) 104)) W := by subst hW; exact (Upto.refl (fun _ => False) _).alloc _
  have hv : ∀ i, W.cell? ⟨w.heap.size, i, none⟩ = (madeCells #[.int .i64 0, .int .i64 0, .slice none 0 0] (os.length * 3))[i]? := fun i =>
    (u2.cell (q := ⟨w.heap.size, i, none⟩) (by simp) id).trans (cell_of_row _ w.heap.size i _ _ _ (heap_alloc_new w (.cells (madeCells #[.int .i64 0, .int .i64 0, .slice none 0 0] (os.length * 3)) 104)))
  have hvz : ∀ i, W.frozen? ⟨w.heap.size, i, none⟩ = false := fun i => (u2.frozen (q := ⟨w.heap.size, i, none⟩) (by simp) id).trans (frozen_of_row _ w.heap.size i _ _ (heap_alloc_new w (.cells (madeCells #[.int .i64 0, .int .i64 0, .slice none 0 0] (os.length * 3)) 104)))
  clear hW u2 e1
  refine ⟨hh 0, hh 1, hh 2, hh 3, hh 4, hh 5, hh 6, fun j hj => ?_, fun j hj => ?_, hh 39, fun t ht => ?_, fun t ht => ?_, fun t ht => ?_, fun t ht => World.ownsRow_nil W _ _ _, fun _ _ _ _ _ k hk => (nomatch hk), hz, hvz, Nat.lt_succ_self _, Nat.lt_succ_of_lt (Nat.lt_succ_self _), Nat.succ_ne_self _, Nat.le_of_eq hs.symm, ops_upto hops u (fun _ _ _ => id), fun q hq h0 => ?_, fun _ _ => ⟨rfl, rfl⟩⟩
  · refine (hh (7 + j)).trans ?_
    match j, hj with
    | 0, _ | 1, _ | 2, _ | 3, _ | 4, _ | 5, _ | 6, _ | 7, _ | 8, _ | 9, _ | 10, _ | 11, _ | 12, _ | 13, _ | 14, _ | 15, _ => rfl
    | n + 16, h => omega
  · refine (hh (23 + j)).trans ?_
    match j, hj with
    | 0, _ | 1, _ | 2, _ | 3, _ | 4, _ | 5, _ | 6, _ | 7, _ | 8, _ | 9, _ | 10, _ | 11, _ | 12, _ | 13, _ | 14, _ | 15, _ => rfl
    | n + 16, h => omega
  · exact (hv (t * 3 + 0)).trans (made3 os.length t 0 ht (by decide))
  · exact (hv (t * 3 + 1)).trans (made3 os.length t 1 ht (by decide))
  · exact (hv (t * 3 + 2)).trans (made3 os.length t 2 ht (by decide))
  · obtain ⟨b, off, e, hb, _⟩ := hops.2.2 h0
    have hq' : ao = some q := hq
    rw [hq'] at e; cases e
    exact ⟨by show b < w.heap.size + 2; omega, by show b ≠ w.heap.size + 1; omega, by show b ≠ w.heap.size; omega⟩
set_option maxRecDepth 100000 in
set_option maxHeartbeats 16000000 in
theorem code_ok (os : List Opr) (kb ko cap : Nat) (pc cnt byt : Int) (R : Nat) (z : Int) (w : World) (hops : Ops os (some ⟨kb, ko, none⟩) cap w) (hc : chk os cnt byt = (0, z)) (r3 : 3 ≤ R) (r16 : R ≤ 16) (hn : os.length ≤ 2048)
    (hT : ∀ i m, m < (tk (opAt os i)).length → ∃ t : Nat, (tk (opAt os i)).getD m 0 = t ∧ t < i)
    (hx : COk ⟨1, 0, 0, 0, 0, cnt, pc, 0⟩) (ho : ∀ i, i < os.length → OneOk os R (Gm.all os R (gm0 os pc cnt) i) i (opAt os i)) :
    Calls Try.prog 11 #[.agg #[.int .u32 pc, .int .i64 cnt, .int .i64 byt, .slice (some ⟨kb, ko, none⟩) os.length cap], .int .i64 R] w fun e w' => ∃ v, e = .returned (.tuple #[v, .int .i64 0]) ∧ OwnW w.heap.size v (wds (codeG os R pc cnt).xs) w' ∧ Below w.heap.size w w' := by
  have hL := hops.1
  have B0 := Lib.hid (Bx.new w #[.int .u32 pc, .int .i64 cnt, .int .i64 byt, .slice (some ⟨kb, ko, none⟩) os.length cap] 25)
  have u0 := (Upto.refl (fun _ => False) w).alloc (.cells #[.int .u32 pc, .int .i64 cnt, .int .i64 byt, .slice (some ⟨kb, ko, none⟩) os.length cap] 25)
  have O0 := Lib.hid (ops_upto hops u0 (fun _ _ _ => id))
  have CH := Lib.hid (fun w h => check_any os (some ⟨kb, ko, none⟩) cap pc cnt byt w h)
  rw [hc] at CH
  unfold errs at CH
  dsimp only at CH
  have rr1 : (3 : Int) ≤ (R : Int) := by omega
  have rr2 : (R : Int) ≤ 16 := by omega
  have R16 := Lib.hid r16
  have HN := Lib.hid hn
  have HT := Lib.hid hT
  have HX := Lib.hid hx
  have HO := Lib.hid ho
  have U0 := Lib.hid u0
  obtain ⟨iv, hiv, hzv, hsv, hbv⟩ := val_info
  have hmk : ∀ w : World, (Instr.makeSlice 98 (.int .i64 (os.length : Int)) (.int .i64 (os.length : Int))).run Try.prog w = .ok (.slice (some ⟨w.heap.size, 0, none⟩) os.length os.length) (w.alloc (.cells (madeCells #[.int .i64 0, .int .i64 0, .slice none 0 0] (os.length * 3)) 104)) := fun w => by
    have := run_make (P := Try.prog) w 98 104 iv (.agg #[.int .i64 0, .int .i64 0, .slice none 0 0]) Try.underlying98 hiv hzv .i64 .i64 os.length os.length (by omega) (Int.le_refl _) (by rw [hbv]; omega) (by omega)
    rw [hsv, show (Value.agg #[.int .i64 0, .int .i64 0, .slice none 0 0]).cells = #[.int .i64 0, .int .i64 0, .slice none 0 0] from rfl] at this
    simpa using this
  clear hops hc hn hT hx ho u0 hiv hzv hsv hbv r3 r16
  go_enter Try.func11, Try.ntmps11
  go_upto_region 2 with (go_at_call 45; refine (CH.out _ O0.out).mono ?_; rintro e w1 ⟨rfl, b1⟩)
  have u1 := Upto.of_below (S := fun _ => False) b1
  have B1 := Lib.hid (B0.out.upto u1 id)
  have O1 := Lib.hid (ops_upto O0.out u1 (fun _ _ _ => id))
  have U1 := Lib.hid (U0.out.trans u1)
  clear B0 O0 U0 u1 b1 CH
  have b0 := B1.out.2.1 0 _ rfl
  have b1 := B1.out.2.1 1 _ rfl
  have b2 := B1.out.2.1 2 _ rfl
  have b3 := B1.out.2.1 3 _ rfl
  have lb := B1.out.1
  go_upto_region 6 with fail
  go_region
  clear hmk b0 b1 b2 b3
  have G2 := Lib.hid ((made_GU w1 os (some ⟨kb, ko, none⟩) cap pc cnt byt R O1.out _ rfl).upto (Upto.refl (fun _ => False) _).drew (fun _ h => h.elim))
  have u2 := ((Upto.refl (fun _ => False) w1).alloc (.cells (madeCells #[.int .i64 0, .int .i64 0, .slice none 0 0] (os.length * 3)) 104)).alloc (.cells #[.int .u32 pc, .int .i64 cnt, .int .i64 byt, .slice (some ⟨kb, ko, none⟩) os.length cap, .slice none 0 0, .int .i64 R, .slice (some ⟨w1.heap.size, 0, none⟩) os.length os.length, .int .i64 0, .int .i64 0, .int .i64 0, .int .i64 0, .int .i64 0, .int .i64 0, .int .i64 0, .int .i64 0, .int .i64 0, .int .i64 0, .int .i64 0, .int .i64 0, .int .i64 0, .int .i64 0, .int .i64 0, .int .i64 0, .bool false, .bool false, .bool false, .bool false, .bool false, .bool false, .bool false, .bool false, .bool false, .bool false, .bool false, .bool false, .bool false, .bool false, .bool false, .bool false, .int .i64 0] 102)
  have B2 := Lib.hid (B1.out.upto u2.drew id)
  have U2 := Lib.hid (U1.out.trans u2.drew)
  clear u2 B1 U1 O1
  generalize ((w1.alloc (.cells (madeCells #[.int .i64 0, .int .i64 0, .slice none 0 0] (os.length * 3)) 104)).alloc (.cells #[.int .u32 pc, .int .i64 cnt, .int .i64 byt, .slice (some ⟨kb, ko, none⟩) os.length cap, .slice none 0 0, .int .i64 R, .slice (some ⟨w1.heap.size, 0, none⟩) os.length os.length, .int .i64 0, .int .i64 0, .int .i64 0, .int .i64 0, .int .i64 0, .int .i64 0, .int .i64 0, .int .i64 0, .int .i64 0, .int .i64 0, .int .i64 0, .int .i64 0, .int .i64 0, .int .i64 0, .int .i64 0, .int .i64 0, .bool false, .bool false, .bool false, .bool false, .bool false, .bool false, .bool false, .bool false, .bool false, .bool false, .bool false, .bool false, .bool false, .bool false, .bool false, .bool false, .int .i64 0] 102)).drew = w2 at G2 B2 U2 ⊢
  generalize w1.heap.size = B at lb G2 ⊢
  have LB := Lib.hid lb
  go_wp2
  go_loopg [38] 16 (fun k ix wr => ∃ q : Nat, k = 16 - q ∧ q ≤ 16 ∧ ix = .int .i64 q ∧ Hid (GU (gk0 os (some ⟨kb, ko, none⟩) cap pc cnt byt R B) q 0 (fun _ => []) (fun _ => .slice none 0 0) wr) ∧ Hid (Bx w.heap.size #[.int .u32 pc, .int .i64 cnt, .int .i64 byt, .slice (some ⟨kb, ko, none⟩) os.length cap] wr) ∧ Hid (Upto (fun _ => False) w wr))
  case atStart => exact ⟨0, rfl, Nat.zero_le _, rfl, G2, B2, U2⟩
  case round =>
    obtain ⟨q, hk, hj, rfl, G, BO, U⟩ := hrel
    by_cases hlt : q < 16
    · have hlt' : (q : Int) < 16 := by omega
      have q0 : (0 : Int) ≤ (q : Int) := by omega
      have ch : wr.cell? ⟨B + 1, 7 + q, none⟩ = some (.int .i64 (if q < q then -1 else 0)) := G.out.hol q hlt
      have zh : wr.frozen? ⟨B + 1, 7 + q, none⟩ = false := G.out.z (7 + q)
      have lh : B + 1 < wr.heap.size := G.out.l
      have a6 : Hid (GU (gk0 os (some ⟨kb, ko, none⟩) cap pc cnt byt R B) (q + 1) 0 (fun _ => []) (fun _ => .slice none 0 0) (wr.setCell ⟨B + 1, 7 + q, none⟩ (.int .i64 (-1)))) := G.out.reg hlt
      have vs := (Upto.refl (fun i => i = B + 1) wr).setCell (q := ⟨B + 1, 7 + q, none⟩) (.inl rfl) (.int .i64 (-1))
      have b6 := Lib.hid (BO.out.upto vs (by omega))
      have u6 := Lib.hid (U.out.setCell (q := ⟨B + 1, 7 + q, none⟩) (.inr (by show w.heap.size ≤ B + 1; omega)) (.int .i64 (-1)))
      have HK := Lib.hid hk
      have HLT := Lib.hid hlt
      clear vs hk hlt
      go_wp2
      go_roundg (16 - (q + 1))
      case measure => have := HK.out; have := HLT.out; omega
      case rel => exact ⟨q + 1, rfl, HLT.out, by simp, a6, b6, u6⟩
    · obtain rfl : q = 16 := by omega
      clear hj hk hlt G2 B2 U2
      rw [← usT_zero os] at G
      have b3 := BO.out.2.1 3 _ rfl
      have lb := BO.out.1
      go_wp2
      go_loopg [50] os.length (fun k ix wr => ∃ (j : Nat) (uv : Nat → Value), k = os.length - j ∧ j ≤ os.length ∧ ix = .int .i64 j ∧ Hid (GU (gk0 os (some ⟨kb, ko, none⟩) cap pc cnt byt R B) 16 j (usT os j 0) uv wr) ∧ Hid (Bx w.heap.size #[.int .u32 pc, .int .i64 cnt, .int .i64 byt, .slice (some ⟨kb, ko, none⟩) os.length cap] wr) ∧ Hid (Upto (fun _ => False) w wr))
      case atStart => exact ⟨0, _, rfl, Nat.zero_le _, rfl, G, BO, U⟩
      case round =>
        obtain ⟨j, uv, hk, hj, rfl, G, BO, U⟩ := hrel
        by_cases hlt : j < os.length
        · have hlt' : (j : Int) < (os.length : Int) := by omega
          have j0 : (0 : Int) ≤ (j : Int) := by omega
          have hcap : os.length ≤ cap := G.out.op.1
          obtain ⟨kl, k0, k1, k2, k3, k4, k5, k6⟩ := ops_at G.out.op hlt
          have HK := Lib.hid hk
          have HLT := Lib.hid hlt
          obtain ⟨o, ho⟩ : ∃ o, opAt os j = o := ⟨_, rfl⟩
          have HOJ := Lib.hid ho
          rw [show opAt (gk0 os (some ⟨kb, ko, none⟩) cap pc cnt byt R B).os j = o from ho] at k0 k1 k2 k3 k4 k5 k6
          clear hk hlt ho
          have GA := Lib.hid (G.out.upto ((Upto.refl (fun _ => False) wr).alloc (.cells #[.int .i64 o.k, .int .i64 o.w, .int .i64 o.a, .int .i64 o.b, .int .i64 o.c, .int .u32 o.kn, .int .i64 o.n] 31)) (fun _ h => h.elim))
          have BA := Lib.hid (BO.out.upto ((Upto.refl (fun _ => False) wr).alloc (.cells #[.int .i64 o.k, .int .i64 o.w, .int .i64 o.a, .int .i64 o.b, .int .i64 o.c, .int .u32 o.kn, .int .i64 o.n] 31)) id)
          have UA := Lib.hid (U.out.alloc (.cells #[.int .i64 o.k, .int .i64 o.w, .int .i64 o.a, .int .i64 o.b, .int .i64 o.c, .int .u32 o.kn, .int .i64 o.n] 31))
          have OA := Lib.hid (Bx.new wr #[.int .i64 o.k, .int .i64 o.w, .int .i64 o.a, .int .i64 o.b, .int .i64 o.c, .int .u32 o.kn, .int .i64 o.n] 31)
          have c6 : wr.cell? ⟨B + 1, 6, none⟩ = some (.slice (some ⟨B, 0, none⟩) os.length os.length) := G.out.c6
          have lh : B + 1 < wr.heap.size := G.out.l
          have lv : B < wr.heap.size := G.out.l2
          go_upto_region 15 with fail
          have lo : w.heap.size < wr.heap.size := BO.out.1
          clear k0 k1 k2 k3 k4 k5 k6 c6 G BO U kl
          generalize wr.alloc (.cells #[.int .i64 o.k, .int .i64 o.w, .int .i64 o.a, .int .i64 o.b, .int .i64 o.c, .int .u32 o.kn, .int .i64 o.n] 31) = wA at GA BA UA OA ⊢
          generalize wr.heap.size = xo at lh lv lo OA ⊢
          have c6 : wA.cell? ⟨B + 1, 6, none⟩ = some (.slice (some ⟨B, 0, none⟩) os.length os.length) := GA.out.c6
          have la : B + 1 < wA.heap.size := GA.out.l
          have la2 : B < wA.heap.size := GA.out.l2
          have cr : wA.cell? ⟨B, j * 3, none⟩ = some (.int .i64 (if j < j then -1 else 0)) := GA.out.vr j HLT.out
          have cs : wA.cell? ⟨B, j * 3 + 1, none⟩ = some (.int .i64 (if j < j then -1 else 0)) := GA.out.vs j HLT.out
          have cu : wA.cell? ⟨B, j * 3 + 2, none⟩ = some (uv j) := GA.out.vu j HLT.out
          rw [(GA.out.fu j (Nat.le_refl _)).2] at cu
          have zv : ∀ i, wA.frozen? ⟨B, i, none⟩ = false := GA.out.zv
          go_upto_region 16 with fail
          have vs := (((Upto.refl (fun i => i = B) wA).setCell (q := ⟨B, j * 3, none⟩) (.inl rfl) (.int .i64 (-1))).setCell (q := ⟨B, j * 3 + 1, none⟩) (.inl rfl) (.int .i64 (-1))).setCell (q := ⟨B, j * 3 + 2, none⟩) (.inl rfl) (.slice none 0 0)
          have GV : Hid (GU (gk0 os (some ⟨kb, ko, none⟩) cap pc cnt byt R B) 16 (j + 1) (usT os j 0) uv (((wA.setCell ⟨B, j * 3, none⟩ (.int .i64 (-1))).setCell ⟨B, j * 3 + 1, none⟩ (.int .i64 (-1))).setCell ⟨B, j * 3 + 2, none⟩ (.slice none 0 0))) := GA.out.val HLT.out
          have BV := Lib.hid (BA.out.upto vs (by omega))
          have OV := Lib.hid (OA.out.upto vs (by omega))
          have UV := Lib.hid ((((UA.out.setCell (q := ⟨B, j * 3, none⟩) (.inr (by show w.heap.size ≤ B; omega)) (.int .i64 (-1))).setCell (q := ⟨B, j * 3 + 1, none⟩) (.inr (by show w.heap.size ≤ B; omega)) (.int .i64 (-1))).setCell (q := ⟨B, j * 3 + 2, none⟩) (.inr (by show w.heap.size ≤ B; omega)) (.slice none 0 0)))
          clear vs cr cs cu zv c6 GA BA OA UA la la2
          generalize (((wA.setCell ⟨B, j * 3, none⟩ (.int .i64 (-1))).setCell ⟨B, j * 3 + 1, none⟩ (.int .i64 (-1))).setCell ⟨B, j * 3 + 2, none⟩ (.slice none 0 0)) = wV at GV BV OV UV ⊢
          have o0 := OV.out.2.1 0 _ rfl
          have o1 := OV.out.2.1 1 _ rfl
          have o2 := OV.out.2.1 2 _ rfl
          have o3 := OV.out.2.1 3 _ rfl
          have o4 := OV.out.2.1 4 _ rfl
          have o5 := OV.out.2.1 5 _ rfl
          have o6 := OV.out.2.1 6 _ rfl
          have lx := OV.out.1
          have lwV : B + 1 < wV.heap.size := GV.out.l
          have TA := Lib.hid (takes_any o wV)
          have HTJ := Lib.hid (HT.out j)
          rw [HOJ.out] at HTJ
          have TL := Lib.hid (tk_len o)
          have jm : (j : Int) < 2048 := by have := HN.out; have := HLT.out; omega
          have HS : Hid (∀ m t, m < (tk o).length → (tk o).getD m 0 = ((t : Nat) : Int) → usT os j (m + 1) = upd (usT os j m) t (usT os j m t ++ [(j : Int)])) := fun m t hm ht => usT_step os j m t (by rw [HOJ.out]; exact hm) (by rw [HOJ.out]; exact ht)
          have HE : Hid (usT os j (tk o).length = usT os (j + 1) 0) := by have := usT_next os j; rw [HOJ.out] at this; exact this
          have HL : Hid (∀ m t, (usT os j m t).length ≤ 3 * (j + 1)) := fun m t => usT_len os j m t
          generalize tk o = l at TA HTJ TL HS HE
          go_wp2_with (go_at_call 46; refine TA.out.mono ?_; rintro e w3 ⟨⟨ta, tc, rfl, ts⟩, b3⟩; have u3 := Upto.of_below (S := fun _ => False) b3; have G3 := Lib.hid (GV.out.upto u3 (fun _ h => h.elim)); have B3 := Lib.hid (BV.out.upto u3 id); have U3 := Lib.hid (UV.out.trans u3); have T3 := Lib.hid ts; have NB3 : Hid (∀ t, t < os.length → ∀ k, (uv t).ownBlock = some k → ∀ q, ta = some q → 0 < l.length → k ≠ q.block) := (fun t ht k hk q hq h0 => by obtain ⟨b, e, h1, h2, _⟩ := ts.2 h0; rw [hq] at e; cases e; have := ((GV.out.ow t ht).blk k hk).2; show k ≠ b; omega); clear o0 o1 o2 o3 o4 o5 o6 lx TA u3 b3 ts GV BV UV OV)
          go_loopg [65] l.length (fun k ix wr => ∃ (m : Nat) (uv : Nat → Value), k = l.length - m ∧ m ≤ l.length ∧ ix = .int .i64 m ∧ Hid (∀ t, t < os.length → ∀ k, (uv t).ownBlock = some k → ∀ q, ta = some q → 0 < l.length → k ≠ q.block) ∧ Hid (GU (gk0 os (some ⟨kb, ko, none⟩) cap pc cnt byt R B) 16 (j + 1) (usT os j m) uv wr) ∧ Hid (TS wV.heap.size l ta tc wr) ∧ Hid (Bx w.heap.size #[.int .u32 pc, .int .i64 cnt, .int .i64 byt, .slice (some ⟨kb, ko, none⟩) os.length cap] wr) ∧ Hid (Upto (fun _ => False) w wr))
          case atStart => exact ⟨0, uv, rfl, Nat.zero_le _, rfl, NB3, G3, T3, B3, U3⟩
          case round =>
            obtain ⟨m, uv, hk, hm, rfl, NB, G, T, BO, U⟩ := hrel
            by_cases hlt : m < l.length
            · have hlt2 : (m : Int) < (l.length : Int) := by omega
              have m0 : (0 : Int) ≤ (m : Int) := by omega
              have m3 : (m : Int) < 3 := by have := TL.out; omega
              obtain ⟨tb, e, hb1, hb2, hc⟩ := T.out.2 (by omega)
              subst e
              obtain ⟨t, ht, htj⟩ := HTJ.out m hlt
              have cm : wr.cell? ⟨tb, m, none⟩ = some (.int .i64 t) := by rw [hc m hlt, ht]
              have tn : t < os.length := by have := HLT.out; omega
              have t0 : (0 : Int) ≤ (t : Int) := by omega
              have t1 : (t : Int) < (os.length : Int) := by omega
              have HSM := Lib.hid (HS.out m t hlt ht)
              have HK2 := Lib.hid hk
              have HLT2 := Lib.hid hlt
              have HTN := Lib.hid tn
              have HTJ2 := Lib.hid htj
              clear hk hlt ht htj hc tn
              have c6 : wr.cell? ⟨B + 1, 6, none⟩ = some (.slice (some ⟨B, 0, none⟩) os.length os.length) := G.out.c6
              have cu : wr.cell? ⟨B, t * 3 + 2, none⟩ = some (uv t) := G.out.vu t HTN.out
              have la : B + 1 < wr.heap.size := G.out.l
              have la2 : B < wr.heap.size := G.out.l2
              have ua := ((Upto.refl (fun _ => False) wr).drew).alloc (.cells #[.int .i64 j] 3)
              have OWA := Lib.hid ((G.out.ow t HTN.out).upto ua (fun _ _ => id))
              have GA2 := Lib.hid (G.out.upto ua (fun _ h => h.elim))
              have otb : ∀ k, (uv t).ownBlock = some k → B + 2 ≤ k ∧ k ≠ tb := fun k hk => ⟨((G.out.ow t HTN.out).blk k hk).1, NB.out t HTN.out k hk _ rfl (by have := HLT2.out; omega)⟩
              have OTB := Lib.hid otb
              clear otb
              go_upto_region 19 with fail
              go_region_law (refine step_int rfl (.tmp 81) (.tmp 83) rfl (B + 2) (uv t) (usT os j m t) (by simp [Act.eval, Act.put]) OWA.out (by show B + 2 ≤ _; simp; omega) wr.heap.size 1 j (by simp [Act.eval, Act.put]) (by simp) (by have := HL.out m t; have := HLT.out; have := HN.out; omega) ?_; intro v' w2 ow' u' hk'; have nb : ¬ (uv t).ownBlock = some B := (fun e => by have h := ((GA2.out.ow t HTN.out).blk _ e).1; have h' : B + 2 ≤ B := h; omega); have cu2 : w2.cell? ⟨B, t * 3 + 2, none⟩ = some (uv t) := (u'.cell (q := ⟨B, t * 3 + 2, none⟩) GA2.out.l2 nb).trans (GA2.out.vu t HTN.out); have zv2 : w2.frozen? ⟨B, t * 3 + 2, none⟩ = false := (u'.frozen (q := ⟨B, t * 3 + 2, none⟩) GA2.out.l2 nb).trans (GA2.out.zv _); have nb1 : ¬ (uv t).ownBlock = some (B + 1) := (fun e => by have h := ((GA2.out.ow t HTN.out).blk _ e).1; have h' : B + 2 ≤ B + 1 := h; omega); have c62 : w2.cell? ⟨B + 1, 6, none⟩ = some (.slice (some ⟨B, 0, none⟩) os.length os.length) := (u'.cell (q := ⟨B + 1, 6, none⟩) GA2.out.l nb1).trans GA2.out.c6; have lh2 : B + 1 < w2.heap.size := Nat.lt_of_lt_of_le GA2.out.l u'.size; have lv2 : B < w2.heap.size := Nat.lt_of_lt_of_le GA2.out.l2 u'.size; have OW' := Lib.hid ow'; have UU := Lib.hid u'; have HK' := Lib.hid hk'; obtain ⟨ao', cap', hv', _⟩ := ow'.form; clear ow' u' hk'; subst hv'; have FIN : Hid (GU (gk0 os (some ⟨kb, ko, none⟩) cap pc cnt byt R B) 16 (j + 1) (usT os j (m + 1)) (upd uv t (.slice ao' ((usT os j m t).length + 1) cap')) (w2.setCell ⟨B, t * 3 + 2, none⟩ (.slice ao' ((usT os j m t).length + 1) cap'))) := (by have h := GA2.out.app HTN.out (by have := HTJ2.out; omega) UU.out OW'.out HK'.out; rw [List.length_append] at h; rw [HSM.out]; exact h); have VS := Lib.hid ((((Upto.refl (fun i => i = B ∨ (uv t).ownBlock = some i) wr).drew.alloc (.cells #[.int .i64 j] 3)).trans (UU.out.mono (T := fun i => i = B ∨ (uv t).ownBlock = some i) fun _ _ h => .inr h)).setCell (q := ⟨B, t * 3 + 2, none⟩) (.inl (.inl rfl)) (.slice ao' ((usT os j m t).length + 1) cap')); have NB' : Hid (∀ t', t' < os.length → ∀ k, (upd uv t (.slice ao' ((usT os j m t).length + 1) cap') t').ownBlock = some k → ∀ q, some (⟨tb, 0, none⟩ : Addr) = some q → 0 < l.length → k ≠ q.block) := (by have h := nb_upd NB.out HK'.out HTN.out (by intro q hq h0; cases hq; show (wr.alloc (.cells #[.int .i64 j] 3)).drew.heap.size ≠ tb; simp; omega); rw [List.length_append] at h; exact h))
              all_goals
                have T' := Lib.hid (T.out.upto VS.out (fun q hq h0 e => by cases hq; rcases e with e | e; exact absurd e (by show ¬ tb = B; omega); exact (OTB.out _ e).2 rfl))
                have BO' := Lib.hid (BO.out.upto VS.out (fun e => by rcases e with e | e; omega; have := (OTB.out _ e).1; omega))
                have U' := Lib.hid (Gn.Upto.trans' U.out VS.out (fun i hi e => by rcases e with e | e; omega; have := (OTB.out _ e).1; omega))
                have FIN' := FIN
                generalize w2.setCell ⟨B, t * 3 + 2, none⟩ (.slice ao' ((usT os j m t).length + 1) cap') = w9 at FIN' T' BO' U' ⊢
                clear VS FIN cu2 zv2 c62 UU OW' HK' cu c6
                go_wp2
                go_roundg (l.length - (m + 1))
                case measure => have := HK2.out; have := HLT2.out; omega
                case rel => exact ⟨m + 1, _, rfl, HLT2.out, by simp, NB', FIN', T', BO', U'⟩
            · obtain rfl : m = l.length := by omega
              go_wp2
              go_roundg (os.length - (j + 1))
              case measure => have := HK.out; have := HLT.out; omega
              case rel => exact ⟨j + 1, uv, rfl, HLT.out, by simp, by rw [← HE.out]; exact G, BO, U⟩
        · obtain rfl : j = os.length := by omega
          clear hj hk hlt
          have lb := BO.out.1
          have lB : B + 1 < wr.heap.size := G.out.l
          have GM0 := Lib.hid (G.out.gm rfl)
          have K1E := Lib.hid (rfl : ({ (gk0 os (some ⟨kb, ko, none⟩) cap pc cnt byt R B) with base := wr.heap.size } : Gk) = { (gk0 os (some ⟨kb, ko, none⟩) cap pc cnt byt R B) with base := wr.heap.size })
          have lB_ : w.heap.size < wr.heap.size := lb
          have NSG : Hid (∀ i, i < B → ¬ SG { (gk0 os (some ⟨kb, ko, none⟩) cap pc cnt byt R B) with base := wr.heap.size } i) := fun i hi e => by
            rcases e with e | e | e
            · have e' : i = B + 1 := e
              omega
            · have e' : i = B := e
              omega
            · have e' : wr.heap.size ≤ i := e.1
              omega
          have PU : Hid (∀ wx, GM { (gk0 os (some ⟨kb, ko, none⟩) cap pc cnt byt R B) with base := wr.heap.size } ⟨[], fun t => ⟨-1, -1, usT os os.length 0 t⟩, fun _ => -1, fun _ => false, 0⟩ wx → Calls Try.prog 47 #[.pointer (some ⟨B + 1, 0, none⟩), .agg #[.int .i64 1, .int .i64 0, .int .i64 0, .int .i64 0, .int .i64 0, .int .i64 cnt, .int .u32 pc, .int .u32 0]] wx fun e w' => e = .returned (.tuple #[]) ∧ GM { (gk0 os (some ⟨kb, ko, none⟩) cap pc cnt byt R B) with base := wr.heap.size } (gm0 os pc cnt) w' ∧ Upto (SG { (gk0 os (some ⟨kb, ko, none⟩) cap pc cnt byt R B) with base := wr.heap.size }) wx w') :=
            fun wx a => put_any (K := { (gk0 os (some ⟨kb, ko, none⟩) cap pc cnt byt R B) with base := wr.heap.size }) _ wx a HX.out (by show (0 : Nat) ≤ 1000000; decide)
          have ON : Hid (∀ i wx, i < os.length → GM { (gk0 os (some ⟨kb, ko, none⟩) cap pc cnt byt R B) with base := wr.heap.size } (Gm.all os R (gm0 os pc cnt) i) wx → Calls Try.prog 48 #[.pointer (some ⟨B + 1, 0, none⟩), .int .i64 i, .agg #[.int .i64 (opAt os i).k, .int .i64 (opAt os i).w, .int .i64 (opAt os i).a, .int .i64 (opAt os i).b, .int .i64 (opAt os i).c, .int .u32 (opAt os i).kn, .int .i64 (opAt os i).n]] wx fun e w' => e = .returned (.tuple #[]) ∧ GM { (gk0 os (some ⟨kb, ko, none⟩) cap pc cnt byt R B) with base := wr.heap.size } (Gm.all os R (gm0 os pc cnt) (i + 1)) w' ∧ Upto (SG { (gk0 os (some ⟨kb, ko, none⟩) cap pc cnt byt R B) with base := wr.heap.size }) wx w') :=
            fun i wx hi a => one_any (K := { (gk0 os (some ⟨kb, ko, none⟩) cap pc cnt byt R B) with base := wr.heap.size }) i (opAt os i) wx a R16.out hi (by have := HN.out; omega) (HO.out i hi).hI (HO.out i hi).hn (HO.out i hi).hw0 (HO.out i hi).hw1 (HO.out i hi).hG (HO.out i hi).hX
          clear K1E
          have KF : Hid (({ (gk0 os (some ⟨kb, ko, none⟩) cap pc cnt byt R B) with base := wr.heap.size } : Gk).base = wr.heap.size ∧ ({ (gk0 os (some ⟨kb, ko, none⟩) cap pc cnt byt R B) with base := wr.heap.size } : Gk).os = os ∧ ({ (gk0 os (some ⟨kb, ko, none⟩) cap pc cnt byt R B) with base := wr.heap.size } : Gk).ao = some ⟨kb, ko, none⟩ ∧ ({ (gk0 os (some ⟨kb, ko, none⟩) cap pc cnt byt R B) with base := wr.heap.size } : Gk).cap = cap ∧ ({ (gk0 os (some ⟨kb, ko, none⟩) cap pc cnt byt R B) with base := wr.heap.size } : Gk).h = B + 1) := ⟨rfl, rfl, rfl, rfl, rfl⟩
          generalize ({ (gk0 os (some ⟨kb, ko, none⟩) cap pc cnt byt R B) with base := wr.heap.size } : Gk) = K1 at GM0 NSG PU ON KF
          have q0 := BO.out.2.1 0 _ rfl
          have q1 := BO.out.2.1 1 _ rfl
          clear G
          go_upto_region 23 with (go_at_call 47; refine (PU.out _ GM0.out).mono ?_; rintro e w4 ⟨rfl, g4, u4⟩; have G4 := Lib.hid g4; have B4 := Lib.hid (BO.out.upto u4 (NSG.out _ LB.out)); have U4 := Lib.hid (Gn.Upto.trans' U.out u4 (fun i hi => NSG.out i (by have := LB.out; omega))); clear g4 u4)
          clear q0 q1 PU GM0 BO U
          have q3 := B4.out.2.1 3 _ rfl
          have lb4 := B4.out.1
          go_wp2
          clear q3
          go_loopg [99] os.length (fun k ix wx => ∃ i : Nat, k = os.length - i ∧ i ≤ os.length ∧ ix = .int .i64 i ∧ Hid (GM K1 (Gm.all os R (gm0 os pc cnt) i) wx) ∧ Hid (Bx w.heap.size #[.int .u32 pc, .int .i64 cnt, .int .i64 byt, .slice (some ⟨kb, ko, none⟩) os.length cap] wx) ∧ Hid (Upto (fun _ => False) w wx))
          case atStart => exact ⟨0, rfl, Nat.zero_le _, rfl, G4, B4, U4⟩
          case round =>
            obtain ⟨i, hk, hj, rfl, G, BO, U⟩ := hrel
            by_cases hlt : i < os.length
            · have hlt2 : (i : Int) < (os.length : Int) := by omega
              have i0 : (0 : Int) ≤ (i : Int) := by omega
              have im : (i : Int) < 2048 := by have := HN.out; omega
              have hcap : os.length ≤ cap := hL
              have op : Ops os (some ⟨kb, ko, none⟩) cap wr := by have h := G.out.op; rw [KF.out.2.1, KF.out.2.2.1, KF.out.2.2.2.1] at h; exact h
              obtain ⟨kl, k0, k1, k2, k3, k4, k5, k6⟩ := ops_at op hlt
              have HK := Lib.hid hk
              have HLT := Lib.hid hlt
              have OI := Lib.hid (fun wx => ON.out i wx hlt)
              clear hk hlt op
              obtain ⟨o, ho⟩ : ∃ o, opAt os i = o := ⟨_, rfl⟩
              rw [ho] at k0 k1 k2 k3 k4 k5 k6 OI
              clear ho
              have GA := Lib.hid (G.out.alloc (.cells #[.int .i64 o.k, .int .i64 o.w, .int .i64 o.a, .int .i64 o.b, .int .i64 o.c, .int .u32 o.kn, .int .i64 o.n] 31))
              have BA := Lib.hid (BO.out.upto ((Upto.refl (fun _ => False) wr).alloc (.cells #[.int .i64 o.k, .int .i64 o.w, .int .i64 o.a, .int .i64 o.b, .int .i64 o.c, .int .u32 o.kn, .int .i64 o.n] 31)) id)
              have UA := Lib.hid (U.out.alloc (.cells #[.int .i64 o.k, .int .i64 o.w, .int .i64 o.a, .int .i64 o.b, .int .i64 o.c, .int .u32 o.kn, .int .i64 o.n] 31))
              go_wp2_with (go_at_call 48; refine (OI.out _ GA.out).mono ?_; rintro e w5 ⟨rfl, g5, u5⟩; have G5 := Lib.hid g5; have B5 := Lib.hid (BA.out.upto u5 (NSG.out _ LB.out)); have U5 := Lib.hid (Gn.Upto.trans' UA.out u5 (fun i hi => NSG.out i (by have := LB.out; omega))); clear g5 u5)
              go_roundg (os.length - (i + 1))
              case measure => have := HK.out; have := HLT.out; omega
              case rel => exact ⟨i + 1, rfl, HLT.out, by simp, G5, B5, U5⟩
            · obtain rfl : i = os.length := by omega
              have hG := G.out
              obtain ⟨v, cv, ow, _⟩ := hG.cw
              rw [KF.out.2.2.2.2] at cv
              have lh : B + 1 < wr.heap.size := by have := hG.l; rw [KF.out.2.2.2.2] at this; exact this
              have OW := Lib.hid ow
              have GF := Lib.hid hG.lb
              obtain ⟨av, nv, cpv, rfl⟩ := ow.sl
              clear ow hG
              go_wp2
              refine bodyPost_ret (v := .tuple #[.slice av nv cpv, .int .i64 0]) (by simp [results, Try.results11, go_sem]) rfl ⟨_, rfl, ?_, U.out.below (Nat.le_refl _) (fun _ _ => id)⟩
              have h := OW.out
              obtain ⟨h1, h2⟩ := h
              refine ⟨h1, ?_⟩
              rcases h2 with h2 | ⟨gg, cc, cur, e1, e2, e3, e4⟩
              · exact .inl h2
              · exact .inr ⟨gg, cc, cur, e1, by rw [KF.out.1] at e2; exact Nat.le_trans (by have := lB_; omega) e2, e3, e4⟩
end Go.Proofs.Ytcjcmnnhmajocab.Gn
