/- The document's host: any instruction. -/
import Derived.Test.YtcjcmnnhmajocabPhbn
import Derived.Test.YtcjcmnnhmajocabPhbo
import Derived.Test.YtcjcmnnhmajocabPhbp
import Derived.Test.YtcjcmnnhmajocabPhbq
set_option linter.unusedVariables false
set_option linter.unusedSimpArgs false
set_option maxRecDepth 100000
set_option maxHeartbeats 16000000
namespace Go.Proofs.Ytcjcmnnhmajocab.Hr
open Go.RowKit Kt Me Fl Ev Ho
variable {h : Nat} {K : Hk} {s : Rm} {B : B4} {P : RP} {M : MM}
theorem step_4 (x : Cd) (ra : Nat) (w : World) (a : RR h K s B w) (m : RM P M w) (hK : K.p = P.q) (hp : ∀ i, P.has i → i < w.heap.size) (ds : ∀ i, P.has i → ¬ B.has h i) (ho : x.op = 4) (ha : x.a = ra) (la : ra < 16) (hs : Sl K.us K.ao K.cap w) (hw : UsOk K.us) (hsb : ∀ g, K.ao = some g → 0 < K.us.length → ¬ (B.has h g.block ∨ P.has g.block)) (ht : Tb K.tab K.tao K.tcap w) (htb : ∀ g, K.tao = some g → 0 < K.tab.length → ¬ (B.has h g.block ∨ P.has g.block)) (htl : K.tab.length ≤ 1048576) (hrg : 0 ≤ s.reg ra ∧ s.reg ra < 4294967296) :
  Calls Try.prog 67 #[.pointer (some ⟨h, 0, none⟩), .agg #[.int .i64 x.op, .int .i64 x.d, .int .i64 x.a, .int .i64 x.b, .int .i64 x.c, .int .i64 x.n, .int .u32 x.k, .int .u32 x.x]] w fun e w' => e = .returned (lfR (lwL K s ra x.n)) ∧ RR h K (lwS K s ra x.n) B w' ∧ RM P M w' ∧ Upto (fun i => B.has h i ∨ P.has i) w w' := by
 by_cases hz : K.tab.length = 0
 ·exact step_4z x ra w a m hK hp ds ho ha la hs hw hsb ht htb htl hrg hz
 ·have j0 := Int.emod_nonneg (s.reg ra) (show (K.tab.length : Int) ≠ 0 by omega)
  have j1 := Int.emod_lt_of_pos (s.reg ra) (show (0 : Int) < (K.tab.length : Int) by omega)
  obtain ⟨t, htt⟩ : ∃ t, K.tab[(s.reg ra % (K.tab.length : Int)).toNat]? = some t := ⟨_, List.getElem?_eq_getElem (by omega)⟩
  by_cases c1 : t.1 = s.reg ra
  ·by_cases c2 : 0 ≤ t.2
   ·cases he : ent K.us t.2
    ·exact step_4w3 x ra w a m hK hp ds ho ha la hs hw hsb ht htb htl hrg hz t htt c1 c2 he
    ·exact step_4w4 x ra w a m hK hp ds ho ha la hs hw hsb ht htb htl hrg hz t htt c1 c2 he
   ·exact step_4w2 x ra w a m hK hp ds ho ha la hs hw hsb ht htb htl hrg hz t htt c1 c2
  ·exact step_4w1 x ra w a m hK hp ds ho ha la hs hw hsb ht htb htl hrg hz t htt c1
end Go.Proofs.Ytcjcmnnhmajocab.Hr
namespace Go.Proofs.Ytcjcmnnhmajocab.Hr
open Go.RowKit Kt Me Fl Ev Ho
variable {h : Nat} {K : Hk} {s : Rm} {B : B4} {P : RP} {M : MM}
def StQ (h : Nat) (K : Hk) (B : B4) (P : RP) (w : World) (q : Option Lf × Rst) (e : Ending) (w' : World) : Prop :=
 ∃ B', e = .returned (lfR q.1) ∧ RR h K q.2.s B' w' ∧ RM P q.2.M w' ∧ (∀ i, B'.has h i → B.has h i ∨ w.heap.size ≤ i) ∧ Upto (fun i => B.has h i ∨ P.has i) w w'
theorem StQ.of {w w' : World} {q : Option Lf × Rst} {o : Option Lf} {s' : Rm} {M' : MM} {e : Ending} (hd : q = (o, ⟨s', M'⟩)) (r : e = .returned (lfR o) ∧ RR h K s' B w' ∧ RM P M' w' ∧ Upto (fun i => B.has h i ∨ P.has i) w w') : StQ h K B P w q e w' := by
 subst hd
 exact ⟨B, r.1, r.2.1, r.2.2.1, fun _ => .inl, r.2.2.2⟩
theorem rstep_any (x : Cd) (w : World) (a : RR h K s B w) (m : RM P M w) (hK : K.p = P.q) (hp : ∀ i, P.has i → i < w.heap.size) (ds : ∀ i, P.has i → ¬ B.has h i) (hx : CdOk x) (hM : MOk M) (hC : ∀ j, 0 ≤ s.c j ∧ s.c j < 4294967296) (hr : RegR s)
  (hs : Sl K.us K.ao K.cap w) (hw : UsOk K.us) (hsb : ∀ g, K.ao = some g → 0 < K.us.length → ¬ (B.has h g.block ∨ P.has g.block)) (ht : Tb K.tab K.tao K.tcap w) (htb : ∀ g, K.tao = some g → 0 < K.tab.length → ¬ (B.has h g.block ∨ P.has g.block)) (htl : K.tab.length ≤ 1048576) :
  Calls Try.prog 67 #[.pointer (some ⟨h, 0, none⟩), .agg #[.int .i64 x.op, .int .i64 x.d, .int .i64 x.a, .int .i64 x.b, .int .i64 x.c, .int .i64 x.n, .int .u32 x.k, .int .u32 x.x]] w (StQ h K B P w (doR K x ⟨s, M⟩)) := by
 have hq := hx.q
 have h0 := hx.op
 have ha : x.a = (x.a.toNat : Int) := by have := hx.a; omega
 have la : x.a.toNat < 16 := by have := hx.a; omega
 have hb : x.b = (x.b.toNat : Int) := by have := hx.b; omega
 have lb : x.b.toNat < 16 := by have := hx.b; omega
 have hc : x.c = (x.c.toNat : Int) := by have := hx.c; omega
 have lc : x.c.toNat < 16 := by have := hx.c; omega
 have hd : x.d = (x.d.toNat : Int) := by have := hx.d; omega
 have ld : x.d.toNat < 16 := by have := hx.d; omega
 have hn : x.n = (x.n.toNat : Int) := by have := hx.n; omega
 have ln : x.n.toNat < 2048 := by have := hx.n; omega
 have n12 := hx.n12
 have hk := hx.k
 by_cases c1 : x.op = 1
 ·refine (step_1 x w a m hK hp ds c1).mono ?_
  rintro e w' ⟨B', r1, r2, r3, r4, r5⟩
  have hd : doR K x ⟨s, M⟩ = (entR K M s x, if entR K M s x = none then ⟨s.clr, M⟩ else ⟨s, M⟩) := by unfold doR doM; rw [if_pos (by omega)]
  rw [hd]
  refine ⟨B', r1, ?_, ?_, r4, r5⟩
  ·by_cases he : entR K M s x = none
   ·rw [if_pos he] at r2 ⊢; exact r2
   ·rw [if_neg he] at r2 ⊢; exact r2
  ·by_cases he : entR K M s x = none
   ·rw [if_pos he]; exact r3
   ·rw [if_neg he]; exact r3
 by_cases c10 : x.op = 10
 ·exact (step_10 x w a m hK hp ds c10).mono fun e w' r => StQ.of (by unfold doR doM; rw [if_neg (by omega)]; rw [if_pos (by omega)]) r
 by_cases c11 : x.op = 11
 ·exact (step_11 x _ w a m hK hp ds c11 ha la).mono fun e w' r => StQ.of (by unfold doR doM; rw [if_neg (by omega)]; rw [if_neg (by omega)]; rw [if_pos (by omega)]) r
 by_cases c96 : x.op = 96
 ·exact (step_96 x _ w a m hK hp ds c96 ha la hs hw hsb hk.1 hk.2).mono fun e w' r => StQ.of (by unfold doR doM; rw [if_neg (by omega)]; rw [if_neg (by omega)]; rw [if_neg (by omega)]; rw [if_pos (by omega)]) r
 by_cases c14 : x.op = 14
 ·exact (step_14 x w a m hK hp ds c14).mono fun e w' r => StQ.of (by unfold doR doM; rw [if_neg (by omega)]; rw [if_neg (by omega)]; rw [if_neg (by omega)]; rw [if_neg (by omega)]; rw [if_pos (by omega)]) r
 by_cases c15 : x.op = 15
 ·exact (step_15 x w a m hK hp ds c15 hs hw hsb hk.1 hk.2).mono fun e w' r => StQ.of (by unfold doR doM; rw [if_neg (by omega)]; rw [if_neg (by omega)]; rw [if_neg (by omega)]; rw [if_neg (by omega)]; rw [if_neg (by omega)]; rw [if_pos (by omega)]) r
 by_cases c12 : x.op = 12
 ·exact (step_12 x w a m hK hp ds c12).mono fun e w' r => StQ.of (by unfold doR doM; rw [if_neg (by omega)]; rw [if_neg (by omega)]; rw [if_neg (by omega)]; rw [if_neg (by omega)]; rw [if_neg (by omega)]; rw [if_neg (by omega)]; rw [if_pos (by omega)]) r
 by_cases c13 : x.op = 13
 ·exact (step_13 x _ w a m hK hp ds c13 ha la).mono fun e w' r => StQ.of (by unfold doR doM; rw [if_neg (by omega)]; rw [if_neg (by omega)]; rw [if_neg (by omega)]; rw [if_neg (by omega)]; rw [if_neg (by omega)]; rw [if_neg (by omega)]; rw [if_neg (by omega)]; rw [if_pos (by omega)]) r
 by_cases c4 : x.op = 4
 ·exact (step_4 x _ w a m hK hp ds c4 ha la hs hw hsb ht htb htl (hr _)).mono fun e w' r => StQ.of (by unfold doR doM; rw [if_neg (by omega)]; rw [if_neg (by omega)]; rw [if_neg (by omega)]; rw [if_neg (by omega)]; rw [if_neg (by omega)]; rw [if_neg (by omega)]; rw [if_neg (by omega)]; rw [if_neg (by omega)]; rw [if_pos (by omega)]) r
 by_cases c2 : x.op = 2
 ·exact (step_inn x _ w a m hK hp ds (by omega) (fun w a m hp => inner_2 x _ w a m hp ds (by omega) hd ld)).mono fun e w' r => StQ.of (by unfold doR doM; rw [if_neg (by omega)]; rw [if_neg (by omega)]; rw [if_neg (by omega)]; rw [if_neg (by omega)]; rw [if_neg (by omega)]; rw [if_neg (by omega)]; rw [if_neg (by omega)]; rw [if_neg (by omega)]; rw [if_neg (by omega)]; rw [if_pos (by omega)]) r
 by_cases c3 : x.op = 3
 ·exact (step_inn x _ w a m hK hp ds (by omega) (fun w a m hp => inner_3 x _ _ w a m hp ds (by omega) hd ha ld la)).mono fun e w' r => StQ.of (by unfold doR doM; rw [if_neg (by omega)]; rw [if_neg (by omega)]; rw [if_neg (by omega)]; rw [if_neg (by omega)]; rw [if_neg (by omega)]; rw [if_neg (by omega)]; rw [if_neg (by omega)]; rw [if_neg (by omega)]; rw [if_neg (by omega)]; rw [if_neg (by omega)]; rw [if_pos (by omega)]) r
 by_cases c6 : x.op = 6
 ·exact (step_inn x _ w a m hK hp ds (by omega) (fun w a m hp => inner_6 x _ _ w a m hp ds (by omega) hd hn ld (by have := n12 (.inl c6); omega))).mono fun e w' r => StQ.of (by unfold doR doM; rw [if_neg (by omega)]; rw [if_neg (by omega)]; rw [if_neg (by omega)]; rw [if_neg (by omega)]; rw [if_neg (by omega)]; rw [if_neg (by omega)]; rw [if_neg (by omega)]; rw [if_neg (by omega)]; rw [if_neg (by omega)]; rw [if_neg (by omega)]; rw [if_neg (by omega)]; rw [if_pos (by omega)]) r
 by_cases c7 : x.op = 7
 ·exact (step_inn x _ w a m hK hp ds (by omega) (fun w a m hp => inner_7 x _ _ w a m hp ds (by omega) ha hn la (by have := n12 (.inr c7); omega))).mono fun e w' r => StQ.of (by unfold doR doM; rw [if_neg (by omega)]; rw [if_neg (by omega)]; rw [if_neg (by omega)]; rw [if_neg (by omega)]; rw [if_neg (by omega)]; rw [if_neg (by omega)]; rw [if_neg (by omega)]; rw [if_neg (by omega)]; rw [if_neg (by omega)]; rw [if_neg (by omega)]; rw [if_neg (by omega)]; rw [if_neg (by omega)]; rw [if_pos (by omega)]) r
 by_cases c8 : x.op = 8
 ·exact (step_inn x _ w a m hK hp ds (by omega) (fun w a m hp => inner_8 x _ _ w a m hp ds (by omega) hd hn ld ln)).mono fun e w' r => StQ.of (by unfold doR doM; rw [if_neg (by omega)]; rw [if_neg (by omega)]; rw [if_neg (by omega)]; rw [if_neg (by omega)]; rw [if_neg (by omega)]; rw [if_neg (by omega)]; rw [if_neg (by omega)]; rw [if_neg (by omega)]; rw [if_neg (by omega)]; rw [if_neg (by omega)]; rw [if_neg (by omega)]; rw [if_neg (by omega)]; rw [if_neg (by omega)]; rw [if_pos (by omega)]) r
 by_cases c9 : x.op = 9
 ·exact (step_inn x _ w a m hK hp ds (by omega) (fun w a m hp => inner_9 x _ _ w a m hp ds (by omega) ha hn la ln)).mono fun e w' r => StQ.of (by unfold doR doM; rw [if_neg (by omega)]; rw [if_neg (by omega)]; rw [if_neg (by omega)]; rw [if_neg (by omega)]; rw [if_neg (by omega)]; rw [if_neg (by omega)]; rw [if_neg (by omega)]; rw [if_neg (by omega)]; rw [if_neg (by omega)]; rw [if_neg (by omega)]; rw [if_neg (by omega)]; rw [if_neg (by omega)]; rw [if_neg (by omega)]; rw [if_neg (by omega)]; rw [if_pos (by omega)]) r
 by_cases c97 : x.op = 97
 ·exact (step_inn x _ w a m hK hp ds (by omega) (fun w a m hp => inner_97 x _ w a m hp ds (by omega) hd ld hC)).mono fun e w' r => StQ.of (by unfold doR doM; rw [if_neg (by omega)]; rw [if_neg (by omega)]; rw [if_neg (by omega)]; rw [if_neg (by omega)]; rw [if_neg (by omega)]; rw [if_neg (by omega)]; rw [if_neg (by omega)]; rw [if_neg (by omega)]; rw [if_neg (by omega)]; rw [if_neg (by omega)]; rw [if_neg (by omega)]; rw [if_neg (by omega)]; rw [if_neg (by omega)]; rw [if_neg (by omega)]; rw [if_neg (by omega)]; rw [if_pos (by omega)]) r
 by_cases csel : 5 ≤ x.op ∧ x.op < 6
 ·exact (step_inn x _ w a m hK hp ds (by omega) (fun w a m hp => inner_sel x _ _ _ _ w a m hp ds csel ha hb hc hd la lb lc ld hr)).mono fun e w' r => StQ.of (by unfold doR doM; rw [if_neg (by omega)]; rw [if_neg (by omega)]; rw [if_neg (by omega)]; rw [if_neg (by omega)]; rw [if_neg (by omega)]; rw [if_neg (by omega)]; rw [if_neg (by omega)]; rw [if_neg (by omega)]; rw [if_neg (by omega)]; rw [if_neg (by omega)]; rw [if_neg (by omega)]; rw [if_neg (by omega)]; rw [if_neg (by omega)]; rw [if_neg (by omega)]; rw [if_neg (by omega)]; rw [if_neg (by omega)]; rw [if_pos (by omega)]) r
 by_cases cbin : 16 ≤ x.op ∧ x.op < 32
 ·exact (step_inn x _ w a m hK hp ds (by omega) (fun w a m hp => inner_bin x _ _ _ _ w a m hp ds cbin ha hb hc hd la lb lc ld hr)).mono fun e w' r => StQ.of (by unfold doR doM; rw [if_neg (by omega)]; rw [if_neg (by omega)]; rw [if_neg (by omega)]; rw [if_neg (by omega)]; rw [if_neg (by omega)]; rw [if_neg (by omega)]; rw [if_neg (by omega)]; rw [if_neg (by omega)]; rw [if_neg (by omega)]; rw [if_neg (by omega)]; rw [if_neg (by omega)]; rw [if_neg (by omega)]; rw [if_neg (by omega)]; rw [if_neg (by omega)]; rw [if_neg (by omega)]; rw [if_neg (by omega)]; rw [if_neg (by omega)]; rw [if_pos (by omega)]) r
 by_cases cun : 32 ≤ x.op ∧ x.op < 39
 ·exact (step_inn x _ w a m hK hp ds (by omega) (fun w a m hp => inner_un x _ _ _ _ w a m hp ds cun ha hb hc hd la lb lc ld hr)).mono fun e w' r => StQ.of (by unfold doR doM; rw [if_neg (by omega)]; rw [if_neg (by omega)]; rw [if_neg (by omega)]; rw [if_neg (by omega)]; rw [if_neg (by omega)]; rw [if_neg (by omega)]; rw [if_neg (by omega)]; rw [if_neg (by omega)]; rw [if_neg (by omega)]; rw [if_neg (by omega)]; rw [if_neg (by omega)]; rw [if_neg (by omega)]; rw [if_neg (by omega)]; rw [if_neg (by omega)]; rw [if_neg (by omega)]; rw [if_neg (by omega)]; rw [if_neg (by omega)]; rw [if_neg (by omega)]; rw [if_pos (by omega)]) r
 by_cases cflags : 48 ≤ x.op ∧ x.op < 61
 ·exact (step_inn x _ w a m hK hp ds (by omega) (fun w a m hp => inner_flags x _ _ _ _ w a m hp ds cflags ha hb hc hd la lb lc ld hr)).mono fun e w' r => StQ.of (by unfold doR doM; rw [if_neg (by omega)]; rw [if_neg (by omega)]; rw [if_neg (by omega)]; rw [if_neg (by omega)]; rw [if_neg (by omega)]; rw [if_neg (by omega)]; rw [if_neg (by omega)]; rw [if_neg (by omega)]; rw [if_neg (by omega)]; rw [if_neg (by omega)]; rw [if_neg (by omega)]; rw [if_neg (by omega)]; rw [if_neg (by omega)]; rw [if_neg (by omega)]; rw [if_neg (by omega)]; rw [if_neg (by omega)]; rw [if_neg (by omega)]; rw [if_neg (by omega)]; rw [if_neg (by omega)]; rw [if_pos (by omega)]) r
 by_cases ccond : 64 ≤ x.op ∧ x.op < 80
 ·exact (step_inn x _ w a m hK hp ds (by omega) (fun w a m hp => inner_cond x _ _ _ _ w a m hp ds ccond ha hb hc hd la lb lc ld hr)).mono fun e w' r => StQ.of (by unfold doR doM; rw [if_neg (by omega)]; rw [if_neg (by omega)]; rw [if_neg (by omega)]; rw [if_neg (by omega)]; rw [if_neg (by omega)]; rw [if_neg (by omega)]; rw [if_neg (by omega)]; rw [if_neg (by omega)]; rw [if_neg (by omega)]; rw [if_neg (by omega)]; rw [if_neg (by omega)]; rw [if_neg (by omega)]; rw [if_neg (by omega)]; rw [if_neg (by omega)]; rw [if_neg (by omega)]; rw [if_neg (by omega)]; rw [if_neg (by omega)]; rw [if_neg (by omega)]; rw [if_neg (by omega)]; rw [if_neg (by omega)]; rw [if_pos (by omega)]) r
 by_cases cld : 80 ≤ x.op ∧ x.op < 85
 ·exact (step_mem x _ _ _ _ w a m hK hp ds (by omega) (fun w a m hp => rmem_ld x _ _ w a m hK hp ds hM cld ha hd la ld (hr _))).mono fun e w' r => StQ.of (by unfold doR doM; rw [if_neg (by omega)]; rw [if_neg (by omega)]; rw [if_neg (by omega)]; rw [if_neg (by omega)]; rw [if_neg (by omega)]; rw [if_neg (by omega)]; rw [if_neg (by omega)]; rw [if_neg (by omega)]; rw [if_neg (by omega)]; rw [if_neg (by omega)]; rw [if_neg (by omega)]; rw [if_neg (by omega)]; rw [if_neg (by omega)]; rw [if_neg (by omega)]; rw [if_neg (by omega)]; rw [if_neg (by omega)]; rw [if_neg (by omega)]; rw [if_neg (by omega)]; rw [if_neg (by omega)]; rw [if_neg (by omega)]; rw [if_neg (by omega)]; rw [if_pos (by omega)]; rfl) r
 by_cases cst : 88 ≤ x.op ∧ x.op < 91
 ·cases hst : ((s.gets x.a.toNat).gets x.d.toNat).stuck
  ·refine (step_mem x _ _ _ _ w a m hK hp ds (by omega) (fun w a m hp => rmem_st0 x _ _ w a m hK hp ds hM cst ha hd la ld hr hst)).mono fun e w' r => StQ.of ?_ r
   unfold doR doM; rw [if_neg (by omega)]; rw [if_neg (by omega)]; rw [if_neg (by omega)]; rw [if_neg (by omega)]; rw [if_neg (by omega)]; rw [if_neg (by omega)]; rw [if_neg (by omega)]; rw [if_neg (by omega)]; rw [if_neg (by omega)]; rw [if_neg (by omega)]; rw [if_neg (by omega)]; rw [if_neg (by omega)]; rw [if_neg (by omega)]; rw [if_neg (by omega)]; rw [if_neg (by omega)]; rw [if_neg (by omega)]; rw [if_neg (by omega)]; rw [if_neg (by omega)]; rw [if_neg (by omega)]; rw [if_neg (by omega)]; rw [if_neg (by omega)]; rw [if_neg (by omega)]; skip
   dsimp only
   rw [hst]
   rfl
  ·refine (step_mem x _ _ _ _ w a m hK hp ds (by omega) (fun w a m hp => rmem_st1 x _ _ w a m hK hp ds hM cst ha hd la ld hr hst)).mono fun e w' r => StQ.of ?_ r
   unfold doR doM; rw [if_neg (by omega)]; rw [if_neg (by omega)]; rw [if_neg (by omega)]; rw [if_neg (by omega)]; rw [if_neg (by omega)]; rw [if_neg (by omega)]; rw [if_neg (by omega)]; rw [if_neg (by omega)]; rw [if_neg (by omega)]; rw [if_neg (by omega)]; rw [if_neg (by omega)]; rw [if_neg (by omega)]; rw [if_neg (by omega)]; rw [if_neg (by omega)]; rw [if_neg (by omega)]; rw [if_neg (by omega)]; rw [if_neg (by omega)]; rw [if_neg (by omega)]; rw [if_neg (by omega)]; rw [if_neg (by omega)]; rw [if_neg (by omega)]; rw [if_neg (by omega)]; skip
   dsimp only
   rw [hst]
   rfl
 exfalso
 apply hq
 unfold fcls
 rw [if_neg (by omega), if_neg (by omega), if_neg (by omega), if_neg (by omega), if_neg (by omega), if_neg (by omega)]
 unfold fsm
 repeat (first | rw [if_neg (by omega)] | rfl | (split <;> omega))
end Go.Proofs.Ytcjcmnnhmajocab.Hr
