/- crossgrainref3.Check: is it a block? The same answer as ir.Check's. -/
import Derived.Test.YtcjcmnnhmajocabGreatPlat
set_option linter.unusedVariables false
set_option linter.unusedSimpArgs false
set_option maxRecDepth 100000
set_option maxHeartbeats 16000000
namespace Go.Proofs.YtcjcmnnhmajocabGreat.Ic
open Go.RowKit Kt
def e2r (ok : Bool) (f s W : Int) : Bool := !ok || (decide (W < f) || decide (f + s ≤ W))
def e4r (k n a b c g : Bool) (cnt Kn N A B C : Int) : Bool := (!k && Kn != 0) || ((!n && N != 0) || (decide (N < 0) || (decide (cnt < N) || ((!a && A != 0) || ((!b && (!g && B != 0)) || ((!c && C != 0) || (g && (decide (B < 0) || decide (4294967295 < B)))))))))
def rerr (x2 x4 x10 x12 : Bool) : Int := if x2 then 2 else if x4 then 3 else if x10 then 6 else if x12 then 7 else 0
theorem e2_ref (k W : Int) : e2 (rO k) (rS k) k W = e2r (rO k) (nF k) (nS k) W := by
 rcases kinds k with h | h | h
 ·unfold e2 e2r; rw [rO_out (.inl h)]; rfl
 ·unfold e2 e2r; rw [rO_out (.inr h)]; rfl
 ·unfold e2 e2r
  rw [Bool.eq_iff_iff]
  rcases h with rfl | rfl | rfl | rfl | rfl | rfl | rfl | rfl | rfl | rfl | rfl | rfl | rfl | rfl | rfl | rfl | rfl <;> simp [rO, rS, nF, nS] <;> omega
theorem err_ref (os : List Opr) (cnt : Int) (j : Nat) (o : Opr) (ho : os[j]? = some o) : errAt os cnt j = rerr (e2r (rO o.k) (nF o.k) (nS o.k) o.w) (e4r (rK o.k) (rN o.k) (rA o.k) (rB o.k) (rC o.k) (rG o.k) cnt o.kn o.n o.a o.b o.c)
  (e10 (rA o.k) (rB o.k) (rC o.k) (gvn os j o.a) (gvn os j o.b) (gvn os j o.c)) (rF o.k && decide ((j : Int) + 1 < (os.length : Int))) := by
 have h : errAt os cnt j = opE os cnt j o := by unfold errAt; rw [ho]
 rw [h, opE, e2_ref]
 have h4 : ∀ (k n a b c g : Bool) (Kn N A B C : Int), e4r k n a b c g cnt Kn N A B C = (e4 k n cnt Kn N || (e6 a b c g A B C || e8 g B)) := by
  intro k n a b c g Kn N A B C
  unfold e4r e4 e6 e8
  simp only [Bool.or_assoc]
 have h12 : decide ((j : Int) < (os.length : Int) - 1) = decide ((j : Int) + 1 < (os.length : Int)) := by
  rw [Bool.eq_iff_iff]; simp; omega
 rw [h4, h12]
 unfold oerr rerr e12
 generalize e4 (rK o.k) (rN o.k) cnt o.kn o.n = x4
 generalize e6 (rA o.k) (rB o.k) (rC o.k) (rG o.k) o.a o.b o.c = x6
 generalize e8 (rG o.k) o.b = x8
 cases x4 <;> cases x6 <;> cases x8 <;> rfl
theorem letters (k : Int) : (rK k, rN k, rA k, rB k, rC k, rG k) ∈ [(false, false, false, false, false, false), (true, false, false, false, false, false), (false, false, true, false, false, false), (false, false, true, true, false, false), (false, false, true, true, true, false),
  (true, true, true, false, false, false), (true, true, true, true, false, false), (true, true, false, false, false, false), (true, true, false, false, false, true), (false, true, true, false, false, false)] := by
 rcases kinds k with h | h | h
 ·rw [rK_out (.inl h), rN_out (.inl h), rA_out (.inl h), rB_out (.inl h), rC_out (.inl h), rG_out (.inl h)]; decide
 ·rw [rK_out (.inr h), rN_out (.inr h), rA_out (.inr h), rB_out (.inr h), rC_out (.inr h), rG_out (.inr h)]; decide
 ·rcases h with rfl | rfl | rfl | rfl | rfl | rfl | rfl | rfl | rfl | rfl | rfl | rfl | rfl | rfl | rfl | rfl | rfl <;> decide
theorem two {w w1 : World} {Y Z : Array Value} {u v : TypeId} (hb : Below (w.alloc (.cells Y u)).heap.size (w.alloc (.cells Y u)) w1) :
  Boxed w.heap.size Y (w1.alloc (.cells Z v)) ∧ Boxed w1.heap.size Z (w1.alloc (.cells Z v)) ∧ Below w.heap.size w (w1.alloc (.cells Z v)) ∧ w.heap.size + 1 ≤ w1.heap.size := by
 have hs : w.heap.size + 1 ≤ w1.heap.size := by have := hb.size; simp at this; omega
 refine ⟨⟨by simp; omega, fun j x hj => ?_⟩, Boxed.new _ _ _, (((Below.refl _ _).alloc (Nat.le_refl _) _).trans (hb.mono (by simp))).alloc (by omega) _, hs⟩
 rw [cell_old (by omega), hb.cell (p := ⟨w.heap.size, j, none⟩) (by simp), cell_new]
 exact hj
/-- the three boxes of a round -/
def Rd (bx ro rn : Nat) (X Y Z : Array Value) (w : World) : Prop := Boxed bx X w ∧ Boxed ro Y w ∧ Boxed rn Z w
theorem Rd.keep {bx ro rn : Nat} {X Y Z : Array Value} {w w' : World} (h : Rd bx ro rn X Y Z w) (hb : Below w.heap.size w w') : Rd bx ro rn X Y Z w' := ⟨h.1.keep hb, h.2.1.keep hb, h.2.2.keep hb⟩
theorem below_drewN {B : Nat} {a w : World} (h : Below B a w) (n : Nat) : Below B a (w.drewN n) := ⟨h.os, h.tape, h.output, h.size, h.block⟩
theorem rcheck_any (os : List Opr) (ao : Option Addr) (cap : Nat) (pc cnt byt : Int) (w : World) (hops : Ops os ao cap w) :
  Calls Tryz.prog 27 #[.agg #[.int .u32 pc, .int .i64 cnt, .int .i64 byt, .slice ao os.length cap]] w fun e w' => e = .returned (errs (chk os cnt byt)) ∧ Below w.heap.size w w' := by
 have hL : os.length ≤ 9223372036854775807 := by have := hops.1; have h2 := hops.2.1; unfold maxLen at h2; omega
 by_cases hlen : 2048 < os.length
 ·have hv : chk os cnt byt = (5, -1) := by unfold chk; rw [if_pos hlen]
  rw [hv]
  clear hv hops
  have h1 : (2048 : Int) < (os.length : Int) := by omega
  go_enter Tryz.func27, Tryz.ntmps27
  go_wp2
  go_ret2
  exact ⟨rfl, (Below.refl _ _).alloc (Nat.le_refl _) _⟩
 have h1 : ¬ (2048 : Int) < (os.length : Int) := by omega
 by_cases hbad : cnt < 0 ∨ 64 < cnt ∨ byt < 0 ∨ 384 < byt
 ·have hv : chk os cnt byt = (4, -1) := by unfold chk; rw [if_neg hlen, if_pos hbad]
  rw [hv]
  clear hv hops
  have hc : cnt < 0 ∨ (¬ cnt < 0 ∧ 64 < cnt) ∨ (¬ cnt < 0 ∧ ¬ 64 < cnt ∧ byt < 0) ∨ (¬ cnt < 0 ∧ ¬ 64 < cnt ∧ ¬ byt < 0 ∧ 384 < byt) := by omega
  clear hbad
  rcases hc with q0 | ⟨q0, q1⟩ | ⟨q0, q1, q2⟩ | ⟨q0, q1, q2, q3⟩
  all_goals go_enter Tryz.func27, Tryz.ntmps27
  all_goals go_wp2
  all_goals go_ret2
  all_goals exact ⟨rfl, (Below.refl _ _).alloc (Nat.le_refl _) _⟩
 have hv : chk os cnt byt = scan os cnt os.length := by unfold chk; rw [if_neg hlen, if_neg hbad]
 rw [hv]
 clear hv
 have q0 : ¬ cnt < 0 := by omega
 have q1 : ¬ 64 < cnt := by omega
 have q2 : ¬ byt < 0 := by omega
 have q3 : ¬ 384 < byt := by omega
 clear hbad hlen
 have HO := κ hops
 clear hops
 go_enter Tryz.func27, Tryz.ntmps27
 go_wp2
 have HB0 := Boxed.new w #[.int .u32 pc, .int .i64 cnt, .int .i64 byt, .slice ao os.length cap] 52
 have HA0 : Below w.heap.size w (w.alloc (.cells #[.int .u32 pc, .int .i64 cnt, .int .i64 byt, .slice ao os.length cap] 52)) := (Below.refl _ _).alloc (Nat.le_refl _) _
 generalize w.alloc (.cells #[.int .u32 pc, .int .i64 cnt, .int .i64 byt, .slice ao os.length cap] 52) = wA at HB0 HA0 ⊢
 generalize hbx : w.heap.size = bx at HB0 HA0 ⊢
 have HX := κ hbx
 clear hbx
 go_loopg [33] os.length (fun k i wr => ∃ j : Nat, k = os.length - j ∧ j ≤ os.length ∧ i = .int .i64 j ∧ Hid (scan os cnt os.length = scan os cnt (os.length - j)) ∧ Below bx w wr ∧ Boxed bx #[.int .u32 pc, .int .i64 cnt, .int .i64 byt, .slice ao os.length cap] wr)
 case atStart => exact ⟨0, rfl, Nat.zero_le _, rfl, rfl, HA0, HB0⟩
 case round =>
  obtain ⟨j, hk, hj, rfl, hsc, hb, hx⟩ := hrel
  have hor : Ops os ao cap wr := HO.out.keep (by rw [HX.out]; exact hb)
  have HK := κ hk
  clear HB0 HA0 hk
  by_cases hlt : j < os.length
  ·obtain ⟨o, ho⟩ : ∃ o, os[j]? = some o := ⟨os[j], List.getElem?_eq_getElem hlt⟩
   have hE := err_ref os cnt j o ho
   have hgo := hor
   obtain ⟨g, off, rfl, hg, hc⟩ := hor.2.2 (by omega)
   have HN := κ (needs_any o.k)
   have HHK := κ (hasK o.k)
   have HHN := κ (hasN o.k)
   have HHA := κ (hasA o.k)
   have HHB := κ (hasB o.k)
   have HHC := κ (hasC o.k)
   have HHG := κ (hasG o.k)
   have HFI := κ (final_any o.k)
   rw [← rF_fin] at HFI
   have HLT := κ (letters o.k)
   have c0 : wr.cell? ⟨g, off + j * 7, none⟩ = some (.int .i64 o.k) := hc j o ho 0 _ rfl
   have c1 : wr.cell? ⟨g, off + j * 7 + 1, none⟩ = some (.int .i64 o.w) := hc j o ho 1 _ rfl
   have c2 : wr.cell? ⟨g, off + j * 7 + 2, none⟩ = some (.int .i64 o.a) := hc j o ho 2 _ rfl
   have c3 : wr.cell? ⟨g, off + j * 7 + 3, none⟩ = some (.int .i64 o.b) := hc j o ho 3 _ rfl
   have c4 : wr.cell? ⟨g, off + j * 7 + 4, none⟩ = some (.int .i64 o.c) := hc j o ho 4 _ rfl
   have c5 : wr.cell? ⟨g, off + j * 7 + 5, none⟩ = some (.int .u32 o.kn) := hc j o ho 5 _ rfl
   have c6 : wr.cell? ⟨g, off + j * 7 + 6, none⟩ = some (.int .i64 o.n) := hc j o ho 6 _ rfl
   have hlt' : (j : Int) < (os.length : Int) := by omega
   have hii : j ≤ os.length := by omega
   have hfs : 0 ≤ nF o.k ∧ nF o.k < 100 ∧ 0 ≤ nS o.k ∧ nS o.k < 100 := by
    constructor
    ·unfold nF; split <;> omega
    constructor
    ·unfold nF; split <;> omega
    unfold nS
    split <;> omega
   clear hc ho
   obtain ⟨ok, ow, oa, ob, oc, okn, on⟩ := o
   dsimp only at hE HN HHK HHN HHA HHB HHC HHG HFI HLT c0 c1 c2 c3 c4 c5 c6 hfs
   generalize rO ok = oO at hE HN
   generalize nF ok = nf at hE HN HHK HHN HHA HHB HHC HHG hfs
   generalize nS ok = ns at hE HN HHK HHN HHA HHB HHC HHG hfs
   generalize nT ok = nt at HN HHK HHN HHA HHB HHC HHG
   generalize rK ok = lk at hE HHK HLT
   generalize rN ok = ln at hE HHN HLT
   generalize rA ok = la at hE HHA HLT
   generalize rB ok = lb at hE HHB HLT
   generalize rC ok = lc at hE HHC HLT
   generalize rG ok = lg at hE HHG HLT
   generalize rF ok = lf at hE HFI
   obtain ⟨hf0, hf1, hf2, hf3⟩ := hfs
   generalize hE2 : e2r oO nf ns ow = x2 at hE
   generalize hE4 : e4r lk ln la lb lc lg cnt okn on oa ob oc = x4 at hE
   generalize hE10 : e10 la lb lc (gvn os j oa) (gvn os j ob) (gvn os j oc) = x10 at hE
   generalize hE12 : (lf && decide ((j : Int) + 1 < (os.length : Int))) = x12 at hE
   have E2 := κ hE2
   have E4 := κ hE4
   have E10 := κ hE10
   have E12 := κ hE12
   have EE := κ hE
   clear hE2 hE4 hE10 hE12 hE
   have hx0 := hx.2 0 _ rfl
   have hx1 := hx.2 1 _ rfl
   have hx2 := hx.2 2 _ rfl
   have hx3 := hx.2 3 _ rfl
   have hxl := hx.1
   have HXB := κ hx
   have HOR := κ hgo
   clear hx hor hgo
   go_upto_region 9 with (go_at_call 59; refine (HN.out _).mono ?_; rintro e w1 ⟨rfl, hb1⟩)
   obtain ⟨d5, d6, hbA, hz⟩ := two (Z := #[.int .i64 nf, .int .i64 ns, .string nt]) (v := 119) hb1
   have hR : Rd bx wr.heap.size w1.heap.size _ _ _ (w1.alloc (.cells #[.int .i64 nf, .int .i64 ns, .string nt] 119)) := ⟨HXB.out.keep hbA, d5, d6⟩
   have hoA := HOR.out.keep hbA
   have hbT0 := hb.trans (hbA.mono (by omega))
   generalize w1.alloc (.cells #[.int .i64 nf, .int .i64 ns, .string nt] 119) = wA at hR hoA hbT0 ⊢
   clear hb1 d5 d6 hbA HN hx0 hx1 hx2 hx3 hxl c0 c1 c2 c3 c4 c5 c6 HXB HOR hb
   generalize wr.heap.size = ro at hR hz hg ⊢
   generalize w1.heap.size = rn at hR hz ⊢
   clear hz hg
   have b0 := hR.1.2 0 _ rfl
   have b1 := hR.1.2 1 _ rfl
   have b2 := hR.1.2 2 _ rfl
   have b3 := hR.1.2 3 _ rfl
   have o0 := hR.2.1.2 0 _ rfl
   have o1 := hR.2.1.2 1 _ rfl
   have o2 := hR.2.1.2 2 _ rfl
   have o3 := hR.2.1.2 3 _ rfl
   have o4 := hR.2.1.2 4 _ rfl
   have o5 := hR.2.1.2 5 _ rfl
   have o6 := hR.2.1.2 6 _ rfl
   have p0 := hR.2.2.2 0 _ rfl
   have p1 := hR.2.2.2 1 _ rfl
   have p2 := hR.2.2.2 2 _ rfl
   have l1 := hR.1.1
   have l5 := hR.2.1.1
   have l6 := hR.2.2.1
   go_cut [4, 7, 62] from 38 to 61 (fun s4 s7 s62 wx => s4 = .int .i64 (j : Int) ∧ s62 = .bool x2 ∧ wA = wx)
   case first =>
    go_wp2
    all_goals go_meet
    all_goals refine ⟨rfl, congrArg Value.bool ?_, rfl⟩
    all_goals rw [← E2.out]
    all_goals simp [e2r, *]
    all_goals first | omega | (rw [Bool.eq_iff_iff]; simp [*] <;> omega) | (rw [Bool.eq_iff_iff]; simp <;> omega)
   obtain ⟨rfl, rfl, rfl⟩ := hcut
   cases x2
   case true =>
    have hz : scan os cnt os.length = (errAt os cnt j, (j : Int)) := by rw [hsc.out]; exact scan_bad hlt (by rw [EE.out]; simp [rerr])
    have HZ := κ hz
    clear hz
    go_wp2
    go_ret2
    exact ⟨by rw [HZ.out, EE.out]; rfl, by rw [HX.out]; exact hbT0⟩
   go_upto_region 11 with fail
   have hr := Below.refl wA.heap.size wA
   go_cut [142] from 64 to 141 (fun s142 wx => s142 = .bool x4 ∧ Below wA.heap.size wA wx)
   case first =>
    have hlt6 := HLT.out
    clear HLT
    simp only [List.mem_cons, Prod.mk.injEq, List.not_mem_nil, or_false] at hlt6
    rcases hlt6 with ⟨rfl, rfl, rfl, rfl, rfl, rfl⟩ | ⟨rfl, rfl, rfl, rfl, rfl, rfl⟩ | ⟨rfl, rfl, rfl, rfl, rfl, rfl⟩ | ⟨rfl, rfl, rfl, rfl, rfl, rfl⟩ | ⟨rfl, rfl, rfl, rfl, rfl, rfl⟩ | ⟨rfl, rfl, rfl, rfl, rfl, rfl⟩ | ⟨rfl, rfl, rfl, rfl, rfl, rfl⟩ | ⟨rfl, rfl, rfl, rfl, rfl, rfl⟩ | ⟨rfl, rfl, rfl, rfl, rfl, rfl⟩ | ⟨rfl, rfl, rfl, rfl, rfl, rfl⟩
    ·
     rcases (show (okn ≠ 0) ∨ (okn = 0 ∧ on ≠ 0) ∨ (okn = 0 ∧ on = 0 ∧ oa ≠ 0) ∨ (okn = 0 ∧ on = 0 ∧ oa = 0 ∧ ob ≠ 0) ∨ (okn = 0 ∧ on = 0 ∧ oa = 0 ∧ ob = 0 ∧ oc ≠ 0) ∨ (okn = 0 ∧ on = 0 ∧ oa = 0 ∧ ob = 0 ∧ oc = 0) by omega) with y0 | ⟨rfl, y1⟩ | ⟨rfl, rfl, y2⟩ | ⟨rfl, rfl, rfl, y3⟩ | ⟨rfl, rfl, rfl, rfl, y4⟩ | ⟨rfl, rfl, rfl, rfl, rfl⟩
     ·as_aux_lemma =>
       have t0 : (okn == 0) = false := by rw [beq_eq_false_iff_ne]; exact y0
       have u0' : (okn != 0) = true := by rw [bne_iff_ne]; exact y0
       go_wp2_with (first
         | (go_at_call_of 60 (Value.int IntKind.u8 107); refine (HHK.out _).mono ?_; rintro e w2 ⟨rfl, hb2⟩; have hbT : Below wA.heap.size wA w2 := Kt.chain (by assumption) hb2; have hcT := bc hbT)
         | (go_at_call_of 60 (Value.int IntKind.u8 110); refine (HHN.out _).mono ?_; rintro e w2 ⟨rfl, hb2⟩; have hbT : Below wA.heap.size wA w2 := Kt.chain (by assumption) hb2; have hcT := bc hbT)
         | (go_at_call_of 60 (Value.int IntKind.u8 97); refine (HHA.out _).mono ?_; rintro e w2 ⟨rfl, hb2⟩; have hbT : Below wA.heap.size wA w2 := Kt.chain (by assumption) hb2; have hcT := bc hbT)
         | (go_at_call_of 60 (Value.int IntKind.u8 98); refine (HHB.out _).mono ?_; rintro e w2 ⟨rfl, hb2⟩; have hbT : Below wA.heap.size wA w2 := Kt.chain (by assumption) hb2; have hcT := bc hbT)
         | (go_at_call_of 60 (Value.int IntKind.u8 99); refine (HHC.out _).mono ?_; rintro e w2 ⟨rfl, hb2⟩; have hbT : Below wA.heap.size wA w2 := Kt.chain (by assumption) hb2; have hcT := bc hbT)
         | (go_at_call_of 60 (Value.int IntKind.u8 103); refine (HHG.out _).mono ?_; rintro e w2 ⟨rfl, hb2⟩; have hbT : Below wA.heap.size wA w2 := Kt.chain (by assumption) hb2; have hcT := bc hbT))
       all_goals go_meet
       all_goals refine ⟨congrArg Value.bool ?_, by assumption⟩
       all_goals rw [← E4.out]
       all_goals first | (simp [e4r, *]; done) | (simp [e4r, *, Bool.or_assoc]; done)
     ·as_aux_lemma =>
       have t1 : (on == 0) = false := by rw [beq_eq_false_iff_ne]; exact y1
       have u1' : (on != 0) = true := by rw [bne_iff_ne]; exact y1
       go_wp2_with (first
         | (go_at_call_of 60 (Value.int IntKind.u8 107); refine (HHK.out _).mono ?_; rintro e w2 ⟨rfl, hb2⟩; have hbT : Below wA.heap.size wA w2 := Kt.chain (by assumption) hb2; have hcT := bc hbT)
         | (go_at_call_of 60 (Value.int IntKind.u8 110); refine (HHN.out _).mono ?_; rintro e w2 ⟨rfl, hb2⟩; have hbT : Below wA.heap.size wA w2 := Kt.chain (by assumption) hb2; have hcT := bc hbT)
         | (go_at_call_of 60 (Value.int IntKind.u8 97); refine (HHA.out _).mono ?_; rintro e w2 ⟨rfl, hb2⟩; have hbT : Below wA.heap.size wA w2 := Kt.chain (by assumption) hb2; have hcT := bc hbT)
         | (go_at_call_of 60 (Value.int IntKind.u8 98); refine (HHB.out _).mono ?_; rintro e w2 ⟨rfl, hb2⟩; have hbT : Below wA.heap.size wA w2 := Kt.chain (by assumption) hb2; have hcT := bc hbT)
         | (go_at_call_of 60 (Value.int IntKind.u8 99); refine (HHC.out _).mono ?_; rintro e w2 ⟨rfl, hb2⟩; have hbT : Below wA.heap.size wA w2 := Kt.chain (by assumption) hb2; have hcT := bc hbT)
         | (go_at_call_of 60 (Value.int IntKind.u8 103); refine (HHG.out _).mono ?_; rintro e w2 ⟨rfl, hb2⟩; have hbT : Below wA.heap.size wA w2 := Kt.chain (by assumption) hb2; have hcT := bc hbT))
       all_goals go_meet
       all_goals refine ⟨congrArg Value.bool ?_, by assumption⟩
       all_goals rw [← E4.out]
       all_goals first | (simp [e4r, *]; done) | (simp [e4r, *, Bool.or_assoc]; done)
     ·as_aux_lemma =>
       have t2 : (oa == 0) = false := by rw [beq_eq_false_iff_ne]; exact y2
       have u2' : (oa != 0) = true := by rw [bne_iff_ne]; exact y2
       go_wp2_with (first
         | (go_at_call_of 60 (Value.int IntKind.u8 107); refine (HHK.out _).mono ?_; rintro e w2 ⟨rfl, hb2⟩; have hbT : Below wA.heap.size wA w2 := Kt.chain (by assumption) hb2; have hcT := bc hbT)
         | (go_at_call_of 60 (Value.int IntKind.u8 110); refine (HHN.out _).mono ?_; rintro e w2 ⟨rfl, hb2⟩; have hbT : Below wA.heap.size wA w2 := Kt.chain (by assumption) hb2; have hcT := bc hbT)
         | (go_at_call_of 60 (Value.int IntKind.u8 97); refine (HHA.out _).mono ?_; rintro e w2 ⟨rfl, hb2⟩; have hbT : Below wA.heap.size wA w2 := Kt.chain (by assumption) hb2; have hcT := bc hbT)
         | (go_at_call_of 60 (Value.int IntKind.u8 98); refine (HHB.out _).mono ?_; rintro e w2 ⟨rfl, hb2⟩; have hbT : Below wA.heap.size wA w2 := Kt.chain (by assumption) hb2; have hcT := bc hbT)
         | (go_at_call_of 60 (Value.int IntKind.u8 99); refine (HHC.out _).mono ?_; rintro e w2 ⟨rfl, hb2⟩; have hbT : Below wA.heap.size wA w2 := Kt.chain (by assumption) hb2; have hcT := bc hbT)
         | (go_at_call_of 60 (Value.int IntKind.u8 103); refine (HHG.out _).mono ?_; rintro e w2 ⟨rfl, hb2⟩; have hbT : Below wA.heap.size wA w2 := Kt.chain (by assumption) hb2; have hcT := bc hbT))
       all_goals go_meet
       all_goals refine ⟨congrArg Value.bool ?_, by assumption⟩
       all_goals rw [← E4.out]
       all_goals first | (simp [e4r, *]; done) | (simp [e4r, *, Bool.or_assoc]; done)
     ·as_aux_lemma =>
       have t3 : (ob == 0) = false := by rw [beq_eq_false_iff_ne]; exact y3
       have u3' : (ob != 0) = true := by rw [bne_iff_ne]; exact y3
       go_wp2_with (first
         | (go_at_call_of 60 (Value.int IntKind.u8 107); refine (HHK.out _).mono ?_; rintro e w2 ⟨rfl, hb2⟩; have hbT : Below wA.heap.size wA w2 := Kt.chain (by assumption) hb2; have hcT := bc hbT)
         | (go_at_call_of 60 (Value.int IntKind.u8 110); refine (HHN.out _).mono ?_; rintro e w2 ⟨rfl, hb2⟩; have hbT : Below wA.heap.size wA w2 := Kt.chain (by assumption) hb2; have hcT := bc hbT)
         | (go_at_call_of 60 (Value.int IntKind.u8 97); refine (HHA.out _).mono ?_; rintro e w2 ⟨rfl, hb2⟩; have hbT : Below wA.heap.size wA w2 := Kt.chain (by assumption) hb2; have hcT := bc hbT)
         | (go_at_call_of 60 (Value.int IntKind.u8 98); refine (HHB.out _).mono ?_; rintro e w2 ⟨rfl, hb2⟩; have hbT : Below wA.heap.size wA w2 := Kt.chain (by assumption) hb2; have hcT := bc hbT)
         | (go_at_call_of 60 (Value.int IntKind.u8 99); refine (HHC.out _).mono ?_; rintro e w2 ⟨rfl, hb2⟩; have hbT : Below wA.heap.size wA w2 := Kt.chain (by assumption) hb2; have hcT := bc hbT)
         | (go_at_call_of 60 (Value.int IntKind.u8 103); refine (HHG.out _).mono ?_; rintro e w2 ⟨rfl, hb2⟩; have hbT : Below wA.heap.size wA w2 := Kt.chain (by assumption) hb2; have hcT := bc hbT))
       all_goals go_meet
       all_goals refine ⟨congrArg Value.bool ?_, by assumption⟩
       all_goals rw [← E4.out]
       all_goals first | (simp [e4r, *]; done) | (simp [e4r, *, Bool.or_assoc]; done)
     ·as_aux_lemma =>
       have t4 : (oc == 0) = false := by rw [beq_eq_false_iff_ne]; exact y4
       have u4' : (oc != 0) = true := by rw [bne_iff_ne]; exact y4
       go_wp2_with (first
         | (go_at_call_of 60 (Value.int IntKind.u8 107); refine (HHK.out _).mono ?_; rintro e w2 ⟨rfl, hb2⟩; have hbT : Below wA.heap.size wA w2 := Kt.chain (by assumption) hb2; have hcT := bc hbT)
         | (go_at_call_of 60 (Value.int IntKind.u8 110); refine (HHN.out _).mono ?_; rintro e w2 ⟨rfl, hb2⟩; have hbT : Below wA.heap.size wA w2 := Kt.chain (by assumption) hb2; have hcT := bc hbT)
         | (go_at_call_of 60 (Value.int IntKind.u8 97); refine (HHA.out _).mono ?_; rintro e w2 ⟨rfl, hb2⟩; have hbT : Below wA.heap.size wA w2 := Kt.chain (by assumption) hb2; have hcT := bc hbT)
         | (go_at_call_of 60 (Value.int IntKind.u8 98); refine (HHB.out _).mono ?_; rintro e w2 ⟨rfl, hb2⟩; have hbT : Below wA.heap.size wA w2 := Kt.chain (by assumption) hb2; have hcT := bc hbT)
         | (go_at_call_of 60 (Value.int IntKind.u8 99); refine (HHC.out _).mono ?_; rintro e w2 ⟨rfl, hb2⟩; have hbT : Below wA.heap.size wA w2 := Kt.chain (by assumption) hb2; have hcT := bc hbT)
         | (go_at_call_of 60 (Value.int IntKind.u8 103); refine (HHG.out _).mono ?_; rintro e w2 ⟨rfl, hb2⟩; have hbT : Below wA.heap.size wA w2 := Kt.chain (by assumption) hb2; have hcT := bc hbT))
       all_goals go_meet
       all_goals refine ⟨congrArg Value.bool ?_, by assumption⟩
       all_goals rw [← E4.out]
       all_goals first | (simp [e4r, *]; done) | (simp [e4r, *, Bool.or_assoc]; done)
     ·as_aux_lemma =>
       go_wp2_with (first
         | (go_at_call_of 60 (Value.int IntKind.u8 107); refine (HHK.out _).mono ?_; rintro e w2 ⟨rfl, hb2⟩; have hbT : Below wA.heap.size wA w2 := Kt.chain (by assumption) hb2; have hcT := bc hbT)
         | (go_at_call_of 60 (Value.int IntKind.u8 110); refine (HHN.out _).mono ?_; rintro e w2 ⟨rfl, hb2⟩; have hbT : Below wA.heap.size wA w2 := Kt.chain (by assumption) hb2; have hcT := bc hbT)
         | (go_at_call_of 60 (Value.int IntKind.u8 97); refine (HHA.out _).mono ?_; rintro e w2 ⟨rfl, hb2⟩; have hbT : Below wA.heap.size wA w2 := Kt.chain (by assumption) hb2; have hcT := bc hbT)
         | (go_at_call_of 60 (Value.int IntKind.u8 98); refine (HHB.out _).mono ?_; rintro e w2 ⟨rfl, hb2⟩; have hbT : Below wA.heap.size wA w2 := Kt.chain (by assumption) hb2; have hcT := bc hbT)
         | (go_at_call_of 60 (Value.int IntKind.u8 99); refine (HHC.out _).mono ?_; rintro e w2 ⟨rfl, hb2⟩; have hbT : Below wA.heap.size wA w2 := Kt.chain (by assumption) hb2; have hcT := bc hbT)
         | (go_at_call_of 60 (Value.int IntKind.u8 103); refine (HHG.out _).mono ?_; rintro e w2 ⟨rfl, hb2⟩; have hbT : Below wA.heap.size wA w2 := Kt.chain (by assumption) hb2; have hcT := bc hbT))
       all_goals go_meet
       all_goals refine ⟨congrArg Value.bool ?_, by assumption⟩
       all_goals rw [← E4.out]
       all_goals first | (simp [e4r, *]; done) | (simp [e4r, *, Bool.or_assoc]; done)
    ·
     rcases (show (on ≠ 0) ∨ (on = 0 ∧ oa ≠ 0) ∨ (on = 0 ∧ oa = 0 ∧ ob ≠ 0) ∨ (on = 0 ∧ oa = 0 ∧ ob = 0 ∧ oc ≠ 0) ∨ (on = 0 ∧ oa = 0 ∧ ob = 0 ∧ oc = 0) by omega) with y0 | ⟨rfl, y1⟩ | ⟨rfl, rfl, y2⟩ | ⟨rfl, rfl, rfl, y3⟩ | ⟨rfl, rfl, rfl, rfl⟩
     ·as_aux_lemma =>
       have t0 : (on == 0) = false := by rw [beq_eq_false_iff_ne]; exact y0
       have u0' : (on != 0) = true := by rw [bne_iff_ne]; exact y0
       go_wp2_with (first
         | (go_at_call_of 60 (Value.int IntKind.u8 107); refine (HHK.out _).mono ?_; rintro e w2 ⟨rfl, hb2⟩; have hbT : Below wA.heap.size wA w2 := Kt.chain (by assumption) hb2; have hcT := bc hbT)
         | (go_at_call_of 60 (Value.int IntKind.u8 110); refine (HHN.out _).mono ?_; rintro e w2 ⟨rfl, hb2⟩; have hbT : Below wA.heap.size wA w2 := Kt.chain (by assumption) hb2; have hcT := bc hbT)
         | (go_at_call_of 60 (Value.int IntKind.u8 97); refine (HHA.out _).mono ?_; rintro e w2 ⟨rfl, hb2⟩; have hbT : Below wA.heap.size wA w2 := Kt.chain (by assumption) hb2; have hcT := bc hbT)
         | (go_at_call_of 60 (Value.int IntKind.u8 98); refine (HHB.out _).mono ?_; rintro e w2 ⟨rfl, hb2⟩; have hbT : Below wA.heap.size wA w2 := Kt.chain (by assumption) hb2; have hcT := bc hbT)
         | (go_at_call_of 60 (Value.int IntKind.u8 99); refine (HHC.out _).mono ?_; rintro e w2 ⟨rfl, hb2⟩; have hbT : Below wA.heap.size wA w2 := Kt.chain (by assumption) hb2; have hcT := bc hbT)
         | (go_at_call_of 60 (Value.int IntKind.u8 103); refine (HHG.out _).mono ?_; rintro e w2 ⟨rfl, hb2⟩; have hbT : Below wA.heap.size wA w2 := Kt.chain (by assumption) hb2; have hcT := bc hbT))
       all_goals go_meet
       all_goals refine ⟨congrArg Value.bool ?_, by assumption⟩
       all_goals rw [← E4.out]
       all_goals first | (simp [e4r, *]; done) | (simp [e4r, *, Bool.or_assoc]; done)
     ·as_aux_lemma =>
       have t1 : (oa == 0) = false := by rw [beq_eq_false_iff_ne]; exact y1
       have u1' : (oa != 0) = true := by rw [bne_iff_ne]; exact y1
       go_wp2_with (first
         | (go_at_call_of 60 (Value.int IntKind.u8 107); refine (HHK.out _).mono ?_; rintro e w2 ⟨rfl, hb2⟩; have hbT : Below wA.heap.size wA w2 := Kt.chain (by assumption) hb2; have hcT := bc hbT)
         | (go_at_call_of 60 (Value.int IntKind.u8 110); refine (HHN.out _).mono ?_; rintro e w2 ⟨rfl, hb2⟩; have hbT : Below wA.heap.size wA w2 := Kt.chain (by assumption) hb2; have hcT := bc hbT)
         | (go_at_call_of 60 (Value.int IntKind.u8 97); refine (HHA.out _).mono ?_; rintro e w2 ⟨rfl, hb2⟩; have hbT : Below wA.heap.size wA w2 := Kt.chain (by assumption) hb2; have hcT := bc hbT)
         | (go_at_call_of 60 (Value.int IntKind.u8 98); refine (HHB.out _).mono ?_; rintro e w2 ⟨rfl, hb2⟩; have hbT : Below wA.heap.size wA w2 := Kt.chain (by assumption) hb2; have hcT := bc hbT)
         | (go_at_call_of 60 (Value.int IntKind.u8 99); refine (HHC.out _).mono ?_; rintro e w2 ⟨rfl, hb2⟩; have hbT : Below wA.heap.size wA w2 := Kt.chain (by assumption) hb2; have hcT := bc hbT)
         | (go_at_call_of 60 (Value.int IntKind.u8 103); refine (HHG.out _).mono ?_; rintro e w2 ⟨rfl, hb2⟩; have hbT : Below wA.heap.size wA w2 := Kt.chain (by assumption) hb2; have hcT := bc hbT))
       all_goals go_meet
       all_goals refine ⟨congrArg Value.bool ?_, by assumption⟩
       all_goals rw [← E4.out]
       all_goals first | (simp [e4r, *]; done) | (simp [e4r, *, Bool.or_assoc]; done)
     ·as_aux_lemma =>
       have t2 : (ob == 0) = false := by rw [beq_eq_false_iff_ne]; exact y2
       have u2' : (ob != 0) = true := by rw [bne_iff_ne]; exact y2
       go_wp2_with (first
         | (go_at_call_of 60 (Value.int IntKind.u8 107); refine (HHK.out _).mono ?_; rintro e w2 ⟨rfl, hb2⟩; have hbT : Below wA.heap.size wA w2 := Kt.chain (by assumption) hb2; have hcT := bc hbT)
         | (go_at_call_of 60 (Value.int IntKind.u8 110); refine (HHN.out _).mono ?_; rintro e w2 ⟨rfl, hb2⟩; have hbT : Below wA.heap.size wA w2 := Kt.chain (by assumption) hb2; have hcT := bc hbT)
         | (go_at_call_of 60 (Value.int IntKind.u8 97); refine (HHA.out _).mono ?_; rintro e w2 ⟨rfl, hb2⟩; have hbT : Below wA.heap.size wA w2 := Kt.chain (by assumption) hb2; have hcT := bc hbT)
         | (go_at_call_of 60 (Value.int IntKind.u8 98); refine (HHB.out _).mono ?_; rintro e w2 ⟨rfl, hb2⟩; have hbT : Below wA.heap.size wA w2 := Kt.chain (by assumption) hb2; have hcT := bc hbT)
         | (go_at_call_of 60 (Value.int IntKind.u8 99); refine (HHC.out _).mono ?_; rintro e w2 ⟨rfl, hb2⟩; have hbT : Below wA.heap.size wA w2 := Kt.chain (by assumption) hb2; have hcT := bc hbT)
         | (go_at_call_of 60 (Value.int IntKind.u8 103); refine (HHG.out _).mono ?_; rintro e w2 ⟨rfl, hb2⟩; have hbT : Below wA.heap.size wA w2 := Kt.chain (by assumption) hb2; have hcT := bc hbT))
       all_goals go_meet
       all_goals refine ⟨congrArg Value.bool ?_, by assumption⟩
       all_goals rw [← E4.out]
       all_goals first | (simp [e4r, *]; done) | (simp [e4r, *, Bool.or_assoc]; done)
     ·as_aux_lemma =>
       have t3 : (oc == 0) = false := by rw [beq_eq_false_iff_ne]; exact y3
       have u3' : (oc != 0) = true := by rw [bne_iff_ne]; exact y3
       go_wp2_with (first
         | (go_at_call_of 60 (Value.int IntKind.u8 107); refine (HHK.out _).mono ?_; rintro e w2 ⟨rfl, hb2⟩; have hbT : Below wA.heap.size wA w2 := Kt.chain (by assumption) hb2; have hcT := bc hbT)
         | (go_at_call_of 60 (Value.int IntKind.u8 110); refine (HHN.out _).mono ?_; rintro e w2 ⟨rfl, hb2⟩; have hbT : Below wA.heap.size wA w2 := Kt.chain (by assumption) hb2; have hcT := bc hbT)
         | (go_at_call_of 60 (Value.int IntKind.u8 97); refine (HHA.out _).mono ?_; rintro e w2 ⟨rfl, hb2⟩; have hbT : Below wA.heap.size wA w2 := Kt.chain (by assumption) hb2; have hcT := bc hbT)
         | (go_at_call_of 60 (Value.int IntKind.u8 98); refine (HHB.out _).mono ?_; rintro e w2 ⟨rfl, hb2⟩; have hbT : Below wA.heap.size wA w2 := Kt.chain (by assumption) hb2; have hcT := bc hbT)
         | (go_at_call_of 60 (Value.int IntKind.u8 99); refine (HHC.out _).mono ?_; rintro e w2 ⟨rfl, hb2⟩; have hbT : Below wA.heap.size wA w2 := Kt.chain (by assumption) hb2; have hcT := bc hbT)
         | (go_at_call_of 60 (Value.int IntKind.u8 103); refine (HHG.out _).mono ?_; rintro e w2 ⟨rfl, hb2⟩; have hbT : Below wA.heap.size wA w2 := Kt.chain (by assumption) hb2; have hcT := bc hbT))
       all_goals go_meet
       all_goals refine ⟨congrArg Value.bool ?_, by assumption⟩
       all_goals rw [← E4.out]
       all_goals first | (simp [e4r, *]; done) | (simp [e4r, *, Bool.or_assoc]; done)
     ·as_aux_lemma =>
       go_wp2_with (first
         | (go_at_call_of 60 (Value.int IntKind.u8 107); refine (HHK.out _).mono ?_; rintro e w2 ⟨rfl, hb2⟩; have hbT : Below wA.heap.size wA w2 := Kt.chain (by assumption) hb2; have hcT := bc hbT)
         | (go_at_call_of 60 (Value.int IntKind.u8 110); refine (HHN.out _).mono ?_; rintro e w2 ⟨rfl, hb2⟩; have hbT : Below wA.heap.size wA w2 := Kt.chain (by assumption) hb2; have hcT := bc hbT)
         | (go_at_call_of 60 (Value.int IntKind.u8 97); refine (HHA.out _).mono ?_; rintro e w2 ⟨rfl, hb2⟩; have hbT : Below wA.heap.size wA w2 := Kt.chain (by assumption) hb2; have hcT := bc hbT)
         | (go_at_call_of 60 (Value.int IntKind.u8 98); refine (HHB.out _).mono ?_; rintro e w2 ⟨rfl, hb2⟩; have hbT : Below wA.heap.size wA w2 := Kt.chain (by assumption) hb2; have hcT := bc hbT)
         | (go_at_call_of 60 (Value.int IntKind.u8 99); refine (HHC.out _).mono ?_; rintro e w2 ⟨rfl, hb2⟩; have hbT : Below wA.heap.size wA w2 := Kt.chain (by assumption) hb2; have hcT := bc hbT)
         | (go_at_call_of 60 (Value.int IntKind.u8 103); refine (HHG.out _).mono ?_; rintro e w2 ⟨rfl, hb2⟩; have hbT : Below wA.heap.size wA w2 := Kt.chain (by assumption) hb2; have hcT := bc hbT))
       all_goals go_meet
       all_goals refine ⟨congrArg Value.bool ?_, by assumption⟩
       all_goals rw [← E4.out]
       all_goals first | (simp [e4r, *]; done) | (simp [e4r, *, Bool.or_assoc]; done)
    ·
     rcases (show (okn ≠ 0) ∨ (okn = 0 ∧ on ≠ 0) ∨ (okn = 0 ∧ on = 0 ∧ ob ≠ 0) ∨ (okn = 0 ∧ on = 0 ∧ ob = 0 ∧ oc ≠ 0) ∨ (okn = 0 ∧ on = 0 ∧ ob = 0 ∧ oc = 0) by omega) with y0 | ⟨rfl, y1⟩ | ⟨rfl, rfl, y2⟩ | ⟨rfl, rfl, rfl, y3⟩ | ⟨rfl, rfl, rfl, rfl⟩
     ·as_aux_lemma =>
       have t0 : (okn == 0) = false := by rw [beq_eq_false_iff_ne]; exact y0
       have u0' : (okn != 0) = true := by rw [bne_iff_ne]; exact y0
       go_wp2_with (first
         | (go_at_call_of 60 (Value.int IntKind.u8 107); refine (HHK.out _).mono ?_; rintro e w2 ⟨rfl, hb2⟩; have hbT : Below wA.heap.size wA w2 := Kt.chain (by assumption) hb2; have hcT := bc hbT)
         | (go_at_call_of 60 (Value.int IntKind.u8 110); refine (HHN.out _).mono ?_; rintro e w2 ⟨rfl, hb2⟩; have hbT : Below wA.heap.size wA w2 := Kt.chain (by assumption) hb2; have hcT := bc hbT)
         | (go_at_call_of 60 (Value.int IntKind.u8 97); refine (HHA.out _).mono ?_; rintro e w2 ⟨rfl, hb2⟩; have hbT : Below wA.heap.size wA w2 := Kt.chain (by assumption) hb2; have hcT := bc hbT)
         | (go_at_call_of 60 (Value.int IntKind.u8 98); refine (HHB.out _).mono ?_; rintro e w2 ⟨rfl, hb2⟩; have hbT : Below wA.heap.size wA w2 := Kt.chain (by assumption) hb2; have hcT := bc hbT)
         | (go_at_call_of 60 (Value.int IntKind.u8 99); refine (HHC.out _).mono ?_; rintro e w2 ⟨rfl, hb2⟩; have hbT : Below wA.heap.size wA w2 := Kt.chain (by assumption) hb2; have hcT := bc hbT)
         | (go_at_call_of 60 (Value.int IntKind.u8 103); refine (HHG.out _).mono ?_; rintro e w2 ⟨rfl, hb2⟩; have hbT : Below wA.heap.size wA w2 := Kt.chain (by assumption) hb2; have hcT := bc hbT))
       all_goals go_meet
       all_goals refine ⟨congrArg Value.bool ?_, by assumption⟩
       all_goals rw [← E4.out]
       all_goals first | (simp [e4r, *]; done) | (simp [e4r, *, Bool.or_assoc]; done)
     ·as_aux_lemma =>
       have t1 : (on == 0) = false := by rw [beq_eq_false_iff_ne]; exact y1
       have u1' : (on != 0) = true := by rw [bne_iff_ne]; exact y1
       go_wp2_with (first
         | (go_at_call_of 60 (Value.int IntKind.u8 107); refine (HHK.out _).mono ?_; rintro e w2 ⟨rfl, hb2⟩; have hbT : Below wA.heap.size wA w2 := Kt.chain (by assumption) hb2; have hcT := bc hbT)
         | (go_at_call_of 60 (Value.int IntKind.u8 110); refine (HHN.out _).mono ?_; rintro e w2 ⟨rfl, hb2⟩; have hbT : Below wA.heap.size wA w2 := Kt.chain (by assumption) hb2; have hcT := bc hbT)
         | (go_at_call_of 60 (Value.int IntKind.u8 97); refine (HHA.out _).mono ?_; rintro e w2 ⟨rfl, hb2⟩; have hbT : Below wA.heap.size wA w2 := Kt.chain (by assumption) hb2; have hcT := bc hbT)
         | (go_at_call_of 60 (Value.int IntKind.u8 98); refine (HHB.out _).mono ?_; rintro e w2 ⟨rfl, hb2⟩; have hbT : Below wA.heap.size wA w2 := Kt.chain (by assumption) hb2; have hcT := bc hbT)
         | (go_at_call_of 60 (Value.int IntKind.u8 99); refine (HHC.out _).mono ?_; rintro e w2 ⟨rfl, hb2⟩; have hbT : Below wA.heap.size wA w2 := Kt.chain (by assumption) hb2; have hcT := bc hbT)
         | (go_at_call_of 60 (Value.int IntKind.u8 103); refine (HHG.out _).mono ?_; rintro e w2 ⟨rfl, hb2⟩; have hbT : Below wA.heap.size wA w2 := Kt.chain (by assumption) hb2; have hcT := bc hbT))
       all_goals go_meet
       all_goals refine ⟨congrArg Value.bool ?_, by assumption⟩
       all_goals rw [← E4.out]
       all_goals first | (simp [e4r, *]; done) | (simp [e4r, *, Bool.or_assoc]; done)
     ·as_aux_lemma =>
       have t2 : (ob == 0) = false := by rw [beq_eq_false_iff_ne]; exact y2
       have u2' : (ob != 0) = true := by rw [bne_iff_ne]; exact y2
       go_wp2_with (first
         | (go_at_call_of 60 (Value.int IntKind.u8 107); refine (HHK.out _).mono ?_; rintro e w2 ⟨rfl, hb2⟩; have hbT : Below wA.heap.size wA w2 := Kt.chain (by assumption) hb2; have hcT := bc hbT)
         | (go_at_call_of 60 (Value.int IntKind.u8 110); refine (HHN.out _).mono ?_; rintro e w2 ⟨rfl, hb2⟩; have hbT : Below wA.heap.size wA w2 := Kt.chain (by assumption) hb2; have hcT := bc hbT)
         | (go_at_call_of 60 (Value.int IntKind.u8 97); refine (HHA.out _).mono ?_; rintro e w2 ⟨rfl, hb2⟩; have hbT : Below wA.heap.size wA w2 := Kt.chain (by assumption) hb2; have hcT := bc hbT)
         | (go_at_call_of 60 (Value.int IntKind.u8 98); refine (HHB.out _).mono ?_; rintro e w2 ⟨rfl, hb2⟩; have hbT : Below wA.heap.size wA w2 := Kt.chain (by assumption) hb2; have hcT := bc hbT)
         | (go_at_call_of 60 (Value.int IntKind.u8 99); refine (HHC.out _).mono ?_; rintro e w2 ⟨rfl, hb2⟩; have hbT : Below wA.heap.size wA w2 := Kt.chain (by assumption) hb2; have hcT := bc hbT)
         | (go_at_call_of 60 (Value.int IntKind.u8 103); refine (HHG.out _).mono ?_; rintro e w2 ⟨rfl, hb2⟩; have hbT : Below wA.heap.size wA w2 := Kt.chain (by assumption) hb2; have hcT := bc hbT))
       all_goals go_meet
       all_goals refine ⟨congrArg Value.bool ?_, by assumption⟩
       all_goals rw [← E4.out]
       all_goals first | (simp [e4r, *]; done) | (simp [e4r, *, Bool.or_assoc]; done)
     ·as_aux_lemma =>
       have t3 : (oc == 0) = false := by rw [beq_eq_false_iff_ne]; exact y3
       have u3' : (oc != 0) = true := by rw [bne_iff_ne]; exact y3
       go_wp2_with (first
         | (go_at_call_of 60 (Value.int IntKind.u8 107); refine (HHK.out _).mono ?_; rintro e w2 ⟨rfl, hb2⟩; have hbT : Below wA.heap.size wA w2 := Kt.chain (by assumption) hb2; have hcT := bc hbT)
         | (go_at_call_of 60 (Value.int IntKind.u8 110); refine (HHN.out _).mono ?_; rintro e w2 ⟨rfl, hb2⟩; have hbT : Below wA.heap.size wA w2 := Kt.chain (by assumption) hb2; have hcT := bc hbT)
         | (go_at_call_of 60 (Value.int IntKind.u8 97); refine (HHA.out _).mono ?_; rintro e w2 ⟨rfl, hb2⟩; have hbT : Below wA.heap.size wA w2 := Kt.chain (by assumption) hb2; have hcT := bc hbT)
         | (go_at_call_of 60 (Value.int IntKind.u8 98); refine (HHB.out _).mono ?_; rintro e w2 ⟨rfl, hb2⟩; have hbT : Below wA.heap.size wA w2 := Kt.chain (by assumption) hb2; have hcT := bc hbT)
         | (go_at_call_of 60 (Value.int IntKind.u8 99); refine (HHC.out _).mono ?_; rintro e w2 ⟨rfl, hb2⟩; have hbT : Below wA.heap.size wA w2 := Kt.chain (by assumption) hb2; have hcT := bc hbT)
         | (go_at_call_of 60 (Value.int IntKind.u8 103); refine (HHG.out _).mono ?_; rintro e w2 ⟨rfl, hb2⟩; have hbT : Below wA.heap.size wA w2 := Kt.chain (by assumption) hb2; have hcT := bc hbT))
       all_goals go_meet
       all_goals refine ⟨congrArg Value.bool ?_, by assumption⟩
       all_goals rw [← E4.out]
       all_goals first | (simp [e4r, *]; done) | (simp [e4r, *, Bool.or_assoc]; done)
     ·as_aux_lemma =>
       go_wp2_with (first
         | (go_at_call_of 60 (Value.int IntKind.u8 107); refine (HHK.out _).mono ?_; rintro e w2 ⟨rfl, hb2⟩; have hbT : Below wA.heap.size wA w2 := Kt.chain (by assumption) hb2; have hcT := bc hbT)
         | (go_at_call_of 60 (Value.int IntKind.u8 110); refine (HHN.out _).mono ?_; rintro e w2 ⟨rfl, hb2⟩; have hbT : Below wA.heap.size wA w2 := Kt.chain (by assumption) hb2; have hcT := bc hbT)
         | (go_at_call_of 60 (Value.int IntKind.u8 97); refine (HHA.out _).mono ?_; rintro e w2 ⟨rfl, hb2⟩; have hbT : Below wA.heap.size wA w2 := Kt.chain (by assumption) hb2; have hcT := bc hbT)
         | (go_at_call_of 60 (Value.int IntKind.u8 98); refine (HHB.out _).mono ?_; rintro e w2 ⟨rfl, hb2⟩; have hbT : Below wA.heap.size wA w2 := Kt.chain (by assumption) hb2; have hcT := bc hbT)
         | (go_at_call_of 60 (Value.int IntKind.u8 99); refine (HHC.out _).mono ?_; rintro e w2 ⟨rfl, hb2⟩; have hbT : Below wA.heap.size wA w2 := Kt.chain (by assumption) hb2; have hcT := bc hbT)
         | (go_at_call_of 60 (Value.int IntKind.u8 103); refine (HHG.out _).mono ?_; rintro e w2 ⟨rfl, hb2⟩; have hbT : Below wA.heap.size wA w2 := Kt.chain (by assumption) hb2; have hcT := bc hbT))
       all_goals go_meet
       all_goals refine ⟨congrArg Value.bool ?_, by assumption⟩
       all_goals rw [← E4.out]
       all_goals first | (simp [e4r, *]; done) | (simp [e4r, *, Bool.or_assoc]; done)
    ·
     rcases (show (okn ≠ 0) ∨ (okn = 0 ∧ on ≠ 0) ∨ (okn = 0 ∧ on = 0 ∧ oc ≠ 0) ∨ (okn = 0 ∧ on = 0 ∧ oc = 0) by omega) with y0 | ⟨rfl, y1⟩ | ⟨rfl, rfl, y2⟩ | ⟨rfl, rfl, rfl⟩
     ·as_aux_lemma =>
       have t0 : (okn == 0) = false := by rw [beq_eq_false_iff_ne]; exact y0
       have u0' : (okn != 0) = true := by rw [bne_iff_ne]; exact y0
       go_wp2_with (first
         | (go_at_call_of 60 (Value.int IntKind.u8 107); refine (HHK.out _).mono ?_; rintro e w2 ⟨rfl, hb2⟩; have hbT : Below wA.heap.size wA w2 := Kt.chain (by assumption) hb2; have hcT := bc hbT)
         | (go_at_call_of 60 (Value.int IntKind.u8 110); refine (HHN.out _).mono ?_; rintro e w2 ⟨rfl, hb2⟩; have hbT : Below wA.heap.size wA w2 := Kt.chain (by assumption) hb2; have hcT := bc hbT)
         | (go_at_call_of 60 (Value.int IntKind.u8 97); refine (HHA.out _).mono ?_; rintro e w2 ⟨rfl, hb2⟩; have hbT : Below wA.heap.size wA w2 := Kt.chain (by assumption) hb2; have hcT := bc hbT)
         | (go_at_call_of 60 (Value.int IntKind.u8 98); refine (HHB.out _).mono ?_; rintro e w2 ⟨rfl, hb2⟩; have hbT : Below wA.heap.size wA w2 := Kt.chain (by assumption) hb2; have hcT := bc hbT)
         | (go_at_call_of 60 (Value.int IntKind.u8 99); refine (HHC.out _).mono ?_; rintro e w2 ⟨rfl, hb2⟩; have hbT : Below wA.heap.size wA w2 := Kt.chain (by assumption) hb2; have hcT := bc hbT)
         | (go_at_call_of 60 (Value.int IntKind.u8 103); refine (HHG.out _).mono ?_; rintro e w2 ⟨rfl, hb2⟩; have hbT : Below wA.heap.size wA w2 := Kt.chain (by assumption) hb2; have hcT := bc hbT))
       all_goals go_meet
       all_goals refine ⟨congrArg Value.bool ?_, by assumption⟩
       all_goals rw [← E4.out]
       all_goals first | (simp [e4r, *]; done) | (simp [e4r, *, Bool.or_assoc]; done)
     ·as_aux_lemma =>
       have t1 : (on == 0) = false := by rw [beq_eq_false_iff_ne]; exact y1
       have u1' : (on != 0) = true := by rw [bne_iff_ne]; exact y1
       go_wp2_with (first
         | (go_at_call_of 60 (Value.int IntKind.u8 107); refine (HHK.out _).mono ?_; rintro e w2 ⟨rfl, hb2⟩; have hbT : Below wA.heap.size wA w2 := Kt.chain (by assumption) hb2; have hcT := bc hbT)
         | (go_at_call_of 60 (Value.int IntKind.u8 110); refine (HHN.out _).mono ?_; rintro e w2 ⟨rfl, hb2⟩; have hbT : Below wA.heap.size wA w2 := Kt.chain (by assumption) hb2; have hcT := bc hbT)
         | (go_at_call_of 60 (Value.int IntKind.u8 97); refine (HHA.out _).mono ?_; rintro e w2 ⟨rfl, hb2⟩; have hbT : Below wA.heap.size wA w2 := Kt.chain (by assumption) hb2; have hcT := bc hbT)
         | (go_at_call_of 60 (Value.int IntKind.u8 98); refine (HHB.out _).mono ?_; rintro e w2 ⟨rfl, hb2⟩; have hbT : Below wA.heap.size wA w2 := Kt.chain (by assumption) hb2; have hcT := bc hbT)
         | (go_at_call_of 60 (Value.int IntKind.u8 99); refine (HHC.out _).mono ?_; rintro e w2 ⟨rfl, hb2⟩; have hbT : Below wA.heap.size wA w2 := Kt.chain (by assumption) hb2; have hcT := bc hbT)
         | (go_at_call_of 60 (Value.int IntKind.u8 103); refine (HHG.out _).mono ?_; rintro e w2 ⟨rfl, hb2⟩; have hbT : Below wA.heap.size wA w2 := Kt.chain (by assumption) hb2; have hcT := bc hbT))
       all_goals go_meet
       all_goals refine ⟨congrArg Value.bool ?_, by assumption⟩
       all_goals rw [← E4.out]
       all_goals first | (simp [e4r, *]; done) | (simp [e4r, *, Bool.or_assoc]; done)
     ·as_aux_lemma =>
       have t2 : (oc == 0) = false := by rw [beq_eq_false_iff_ne]; exact y2
       have u2' : (oc != 0) = true := by rw [bne_iff_ne]; exact y2
       go_wp2_with (first
         | (go_at_call_of 60 (Value.int IntKind.u8 107); refine (HHK.out _).mono ?_; rintro e w2 ⟨rfl, hb2⟩; have hbT : Below wA.heap.size wA w2 := Kt.chain (by assumption) hb2; have hcT := bc hbT)
         | (go_at_call_of 60 (Value.int IntKind.u8 110); refine (HHN.out _).mono ?_; rintro e w2 ⟨rfl, hb2⟩; have hbT : Below wA.heap.size wA w2 := Kt.chain (by assumption) hb2; have hcT := bc hbT)
         | (go_at_call_of 60 (Value.int IntKind.u8 97); refine (HHA.out _).mono ?_; rintro e w2 ⟨rfl, hb2⟩; have hbT : Below wA.heap.size wA w2 := Kt.chain (by assumption) hb2; have hcT := bc hbT)
         | (go_at_call_of 60 (Value.int IntKind.u8 98); refine (HHB.out _).mono ?_; rintro e w2 ⟨rfl, hb2⟩; have hbT : Below wA.heap.size wA w2 := Kt.chain (by assumption) hb2; have hcT := bc hbT)
         | (go_at_call_of 60 (Value.int IntKind.u8 99); refine (HHC.out _).mono ?_; rintro e w2 ⟨rfl, hb2⟩; have hbT : Below wA.heap.size wA w2 := Kt.chain (by assumption) hb2; have hcT := bc hbT)
         | (go_at_call_of 60 (Value.int IntKind.u8 103); refine (HHG.out _).mono ?_; rintro e w2 ⟨rfl, hb2⟩; have hbT : Below wA.heap.size wA w2 := Kt.chain (by assumption) hb2; have hcT := bc hbT))
       all_goals go_meet
       all_goals refine ⟨congrArg Value.bool ?_, by assumption⟩
       all_goals rw [← E4.out]
       all_goals first | (simp [e4r, *]; done) | (simp [e4r, *, Bool.or_assoc]; done)
     ·as_aux_lemma =>
       go_wp2_with (first
         | (go_at_call_of 60 (Value.int IntKind.u8 107); refine (HHK.out _).mono ?_; rintro e w2 ⟨rfl, hb2⟩; have hbT : Below wA.heap.size wA w2 := Kt.chain (by assumption) hb2; have hcT := bc hbT)
         | (go_at_call_of 60 (Value.int IntKind.u8 110); refine (HHN.out _).mono ?_; rintro e w2 ⟨rfl, hb2⟩; have hbT : Below wA.heap.size wA w2 := Kt.chain (by assumption) hb2; have hcT := bc hbT)
         | (go_at_call_of 60 (Value.int IntKind.u8 97); refine (HHA.out _).mono ?_; rintro e w2 ⟨rfl, hb2⟩; have hbT : Below wA.heap.size wA w2 := Kt.chain (by assumption) hb2; have hcT := bc hbT)
         | (go_at_call_of 60 (Value.int IntKind.u8 98); refine (HHB.out _).mono ?_; rintro e w2 ⟨rfl, hb2⟩; have hbT : Below wA.heap.size wA w2 := Kt.chain (by assumption) hb2; have hcT := bc hbT)
         | (go_at_call_of 60 (Value.int IntKind.u8 99); refine (HHC.out _).mono ?_; rintro e w2 ⟨rfl, hb2⟩; have hbT : Below wA.heap.size wA w2 := Kt.chain (by assumption) hb2; have hcT := bc hbT)
         | (go_at_call_of 60 (Value.int IntKind.u8 103); refine (HHG.out _).mono ?_; rintro e w2 ⟨rfl, hb2⟩; have hbT : Below wA.heap.size wA w2 := Kt.chain (by assumption) hb2; have hcT := bc hbT))
       all_goals go_meet
       all_goals refine ⟨congrArg Value.bool ?_, by assumption⟩
       all_goals rw [← E4.out]
       all_goals first | (simp [e4r, *]; done) | (simp [e4r, *, Bool.or_assoc]; done)
    ·
     rcases (show (okn ≠ 0) ∨ (okn = 0 ∧ on ≠ 0) ∨ (okn = 0 ∧ on = 0) by omega) with y0 | ⟨rfl, y1⟩ | ⟨rfl, rfl⟩
     ·as_aux_lemma =>
       have t0 : (okn == 0) = false := by rw [beq_eq_false_iff_ne]; exact y0
       have u0' : (okn != 0) = true := by rw [bne_iff_ne]; exact y0
       go_wp2_with (first
         | (go_at_call_of 60 (Value.int IntKind.u8 107); refine (HHK.out _).mono ?_; rintro e w2 ⟨rfl, hb2⟩; have hbT : Below wA.heap.size wA w2 := Kt.chain (by assumption) hb2; have hcT := bc hbT)
         | (go_at_call_of 60 (Value.int IntKind.u8 110); refine (HHN.out _).mono ?_; rintro e w2 ⟨rfl, hb2⟩; have hbT : Below wA.heap.size wA w2 := Kt.chain (by assumption) hb2; have hcT := bc hbT)
         | (go_at_call_of 60 (Value.int IntKind.u8 97); refine (HHA.out _).mono ?_; rintro e w2 ⟨rfl, hb2⟩; have hbT : Below wA.heap.size wA w2 := Kt.chain (by assumption) hb2; have hcT := bc hbT)
         | (go_at_call_of 60 (Value.int IntKind.u8 98); refine (HHB.out _).mono ?_; rintro e w2 ⟨rfl, hb2⟩; have hbT : Below wA.heap.size wA w2 := Kt.chain (by assumption) hb2; have hcT := bc hbT)
         | (go_at_call_of 60 (Value.int IntKind.u8 99); refine (HHC.out _).mono ?_; rintro e w2 ⟨rfl, hb2⟩; have hbT : Below wA.heap.size wA w2 := Kt.chain (by assumption) hb2; have hcT := bc hbT)
         | (go_at_call_of 60 (Value.int IntKind.u8 103); refine (HHG.out _).mono ?_; rintro e w2 ⟨rfl, hb2⟩; have hbT : Below wA.heap.size wA w2 := Kt.chain (by assumption) hb2; have hcT := bc hbT))
       all_goals go_meet
       all_goals refine ⟨congrArg Value.bool ?_, by assumption⟩
       all_goals rw [← E4.out]
       all_goals first | (simp [e4r, *]; done) | (simp [e4r, *, Bool.or_assoc]; done)
     ·as_aux_lemma =>
       have t1 : (on == 0) = false := by rw [beq_eq_false_iff_ne]; exact y1
       have u1' : (on != 0) = true := by rw [bne_iff_ne]; exact y1
       go_wp2_with (first
         | (go_at_call_of 60 (Value.int IntKind.u8 107); refine (HHK.out _).mono ?_; rintro e w2 ⟨rfl, hb2⟩; have hbT : Below wA.heap.size wA w2 := Kt.chain (by assumption) hb2; have hcT := bc hbT)
         | (go_at_call_of 60 (Value.int IntKind.u8 110); refine (HHN.out _).mono ?_; rintro e w2 ⟨rfl, hb2⟩; have hbT : Below wA.heap.size wA w2 := Kt.chain (by assumption) hb2; have hcT := bc hbT)
         | (go_at_call_of 60 (Value.int IntKind.u8 97); refine (HHA.out _).mono ?_; rintro e w2 ⟨rfl, hb2⟩; have hbT : Below wA.heap.size wA w2 := Kt.chain (by assumption) hb2; have hcT := bc hbT)
         | (go_at_call_of 60 (Value.int IntKind.u8 98); refine (HHB.out _).mono ?_; rintro e w2 ⟨rfl, hb2⟩; have hbT : Below wA.heap.size wA w2 := Kt.chain (by assumption) hb2; have hcT := bc hbT)
         | (go_at_call_of 60 (Value.int IntKind.u8 99); refine (HHC.out _).mono ?_; rintro e w2 ⟨rfl, hb2⟩; have hbT : Below wA.heap.size wA w2 := Kt.chain (by assumption) hb2; have hcT := bc hbT)
         | (go_at_call_of 60 (Value.int IntKind.u8 103); refine (HHG.out _).mono ?_; rintro e w2 ⟨rfl, hb2⟩; have hbT : Below wA.heap.size wA w2 := Kt.chain (by assumption) hb2; have hcT := bc hbT))
       all_goals go_meet
       all_goals refine ⟨congrArg Value.bool ?_, by assumption⟩
       all_goals rw [← E4.out]
       all_goals first | (simp [e4r, *]; done) | (simp [e4r, *, Bool.or_assoc]; done)
     ·as_aux_lemma =>
       go_wp2_with (first
         | (go_at_call_of 60 (Value.int IntKind.u8 107); refine (HHK.out _).mono ?_; rintro e w2 ⟨rfl, hb2⟩; have hbT : Below wA.heap.size wA w2 := Kt.chain (by assumption) hb2; have hcT := bc hbT)
         | (go_at_call_of 60 (Value.int IntKind.u8 110); refine (HHN.out _).mono ?_; rintro e w2 ⟨rfl, hb2⟩; have hbT : Below wA.heap.size wA w2 := Kt.chain (by assumption) hb2; have hcT := bc hbT)
         | (go_at_call_of 60 (Value.int IntKind.u8 97); refine (HHA.out _).mono ?_; rintro e w2 ⟨rfl, hb2⟩; have hbT : Below wA.heap.size wA w2 := Kt.chain (by assumption) hb2; have hcT := bc hbT)
         | (go_at_call_of 60 (Value.int IntKind.u8 98); refine (HHB.out _).mono ?_; rintro e w2 ⟨rfl, hb2⟩; have hbT : Below wA.heap.size wA w2 := Kt.chain (by assumption) hb2; have hcT := bc hbT)
         | (go_at_call_of 60 (Value.int IntKind.u8 99); refine (HHC.out _).mono ?_; rintro e w2 ⟨rfl, hb2⟩; have hbT : Below wA.heap.size wA w2 := Kt.chain (by assumption) hb2; have hcT := bc hbT)
         | (go_at_call_of 60 (Value.int IntKind.u8 103); refine (HHG.out _).mono ?_; rintro e w2 ⟨rfl, hb2⟩; have hbT : Below wA.heap.size wA w2 := Kt.chain (by assumption) hb2; have hcT := bc hbT))
       all_goals go_meet
       all_goals refine ⟨congrArg Value.bool ?_, by assumption⟩
       all_goals rw [← E4.out]
       all_goals first | (simp [e4r, *]; done) | (simp [e4r, *, Bool.or_assoc]; done)
    ·
     rcases (show (on < 0) ∨ (¬ on < 0 ∧ cnt < on) ∨ (¬ on < 0 ∧ ¬ cnt < on ∧ ob ≠ 0) ∨ (¬ on < 0 ∧ ¬ cnt < on ∧ ob = 0 ∧ oc ≠ 0) ∨ (¬ on < 0 ∧ ¬ cnt < on ∧ ob = 0 ∧ oc = 0) by omega) with y0 | ⟨y0, y1⟩ | ⟨y0, y1, y2⟩ | ⟨y0, y1, rfl, y3⟩ | ⟨y0, y1, rfl, rfl⟩
     ·as_aux_lemma =>
       go_wp2_with (first
         | (go_at_call_of 60 (Value.int IntKind.u8 107); refine (HHK.out _).mono ?_; rintro e w2 ⟨rfl, hb2⟩; have hbT : Below wA.heap.size wA w2 := Kt.chain (by assumption) hb2; have hcT := bc hbT)
         | (go_at_call_of 60 (Value.int IntKind.u8 110); refine (HHN.out _).mono ?_; rintro e w2 ⟨rfl, hb2⟩; have hbT : Below wA.heap.size wA w2 := Kt.chain (by assumption) hb2; have hcT := bc hbT)
         | (go_at_call_of 60 (Value.int IntKind.u8 97); refine (HHA.out _).mono ?_; rintro e w2 ⟨rfl, hb2⟩; have hbT : Below wA.heap.size wA w2 := Kt.chain (by assumption) hb2; have hcT := bc hbT)
         | (go_at_call_of 60 (Value.int IntKind.u8 98); refine (HHB.out _).mono ?_; rintro e w2 ⟨rfl, hb2⟩; have hbT : Below wA.heap.size wA w2 := Kt.chain (by assumption) hb2; have hcT := bc hbT)
         | (go_at_call_of 60 (Value.int IntKind.u8 99); refine (HHC.out _).mono ?_; rintro e w2 ⟨rfl, hb2⟩; have hbT : Below wA.heap.size wA w2 := Kt.chain (by assumption) hb2; have hcT := bc hbT)
         | (go_at_call_of 60 (Value.int IntKind.u8 103); refine (HHG.out _).mono ?_; rintro e w2 ⟨rfl, hb2⟩; have hbT : Below wA.heap.size wA w2 := Kt.chain (by assumption) hb2; have hcT := bc hbT))
       all_goals go_meet
       all_goals refine ⟨congrArg Value.bool ?_, by assumption⟩
       all_goals rw [← E4.out]
       all_goals first | (simp [e4r, *]; done) | (simp [e4r, *, Bool.or_assoc]; done)
     ·as_aux_lemma =>
       go_wp2_with (first
         | (go_at_call_of 60 (Value.int IntKind.u8 107); refine (HHK.out _).mono ?_; rintro e w2 ⟨rfl, hb2⟩; have hbT : Below wA.heap.size wA w2 := Kt.chain (by assumption) hb2; have hcT := bc hbT)
         | (go_at_call_of 60 (Value.int IntKind.u8 110); refine (HHN.out _).mono ?_; rintro e w2 ⟨rfl, hb2⟩; have hbT : Below wA.heap.size wA w2 := Kt.chain (by assumption) hb2; have hcT := bc hbT)
         | (go_at_call_of 60 (Value.int IntKind.u8 97); refine (HHA.out _).mono ?_; rintro e w2 ⟨rfl, hb2⟩; have hbT : Below wA.heap.size wA w2 := Kt.chain (by assumption) hb2; have hcT := bc hbT)
         | (go_at_call_of 60 (Value.int IntKind.u8 98); refine (HHB.out _).mono ?_; rintro e w2 ⟨rfl, hb2⟩; have hbT : Below wA.heap.size wA w2 := Kt.chain (by assumption) hb2; have hcT := bc hbT)
         | (go_at_call_of 60 (Value.int IntKind.u8 99); refine (HHC.out _).mono ?_; rintro e w2 ⟨rfl, hb2⟩; have hbT : Below wA.heap.size wA w2 := Kt.chain (by assumption) hb2; have hcT := bc hbT)
         | (go_at_call_of 60 (Value.int IntKind.u8 103); refine (HHG.out _).mono ?_; rintro e w2 ⟨rfl, hb2⟩; have hbT : Below wA.heap.size wA w2 := Kt.chain (by assumption) hb2; have hcT := bc hbT))
       all_goals go_meet
       all_goals refine ⟨congrArg Value.bool ?_, by assumption⟩
       all_goals rw [← E4.out]
       all_goals first | (simp [e4r, *]; done) | (simp [e4r, *, Bool.or_assoc]; done)
     ·as_aux_lemma =>
       have t2 : (ob == 0) = false := by rw [beq_eq_false_iff_ne]; exact y2
       have u2' : (ob != 0) = true := by rw [bne_iff_ne]; exact y2
       go_wp2_with (first
         | (go_at_call_of 60 (Value.int IntKind.u8 107); refine (HHK.out _).mono ?_; rintro e w2 ⟨rfl, hb2⟩; have hbT : Below wA.heap.size wA w2 := Kt.chain (by assumption) hb2; have hcT := bc hbT)
         | (go_at_call_of 60 (Value.int IntKind.u8 110); refine (HHN.out _).mono ?_; rintro e w2 ⟨rfl, hb2⟩; have hbT : Below wA.heap.size wA w2 := Kt.chain (by assumption) hb2; have hcT := bc hbT)
         | (go_at_call_of 60 (Value.int IntKind.u8 97); refine (HHA.out _).mono ?_; rintro e w2 ⟨rfl, hb2⟩; have hbT : Below wA.heap.size wA w2 := Kt.chain (by assumption) hb2; have hcT := bc hbT)
         | (go_at_call_of 60 (Value.int IntKind.u8 98); refine (HHB.out _).mono ?_; rintro e w2 ⟨rfl, hb2⟩; have hbT : Below wA.heap.size wA w2 := Kt.chain (by assumption) hb2; have hcT := bc hbT)
         | (go_at_call_of 60 (Value.int IntKind.u8 99); refine (HHC.out _).mono ?_; rintro e w2 ⟨rfl, hb2⟩; have hbT : Below wA.heap.size wA w2 := Kt.chain (by assumption) hb2; have hcT := bc hbT)
         | (go_at_call_of 60 (Value.int IntKind.u8 103); refine (HHG.out _).mono ?_; rintro e w2 ⟨rfl, hb2⟩; have hbT : Below wA.heap.size wA w2 := Kt.chain (by assumption) hb2; have hcT := bc hbT))
       all_goals go_meet
       all_goals refine ⟨congrArg Value.bool ?_, by assumption⟩
       all_goals rw [← E4.out]
       all_goals first | (simp [e4r, *]; done) | (simp [e4r, *, Bool.or_assoc]; done)
     ·as_aux_lemma =>
       have t3 : (oc == 0) = false := by rw [beq_eq_false_iff_ne]; exact y3
       have u3' : (oc != 0) = true := by rw [bne_iff_ne]; exact y3
       go_wp2_with (first
         | (go_at_call_of 60 (Value.int IntKind.u8 107); refine (HHK.out _).mono ?_; rintro e w2 ⟨rfl, hb2⟩; have hbT : Below wA.heap.size wA w2 := Kt.chain (by assumption) hb2; have hcT := bc hbT)
         | (go_at_call_of 60 (Value.int IntKind.u8 110); refine (HHN.out _).mono ?_; rintro e w2 ⟨rfl, hb2⟩; have hbT : Below wA.heap.size wA w2 := Kt.chain (by assumption) hb2; have hcT := bc hbT)
         | (go_at_call_of 60 (Value.int IntKind.u8 97); refine (HHA.out _).mono ?_; rintro e w2 ⟨rfl, hb2⟩; have hbT : Below wA.heap.size wA w2 := Kt.chain (by assumption) hb2; have hcT := bc hbT)
         | (go_at_call_of 60 (Value.int IntKind.u8 98); refine (HHB.out _).mono ?_; rintro e w2 ⟨rfl, hb2⟩; have hbT : Below wA.heap.size wA w2 := Kt.chain (by assumption) hb2; have hcT := bc hbT)
         | (go_at_call_of 60 (Value.int IntKind.u8 99); refine (HHC.out _).mono ?_; rintro e w2 ⟨rfl, hb2⟩; have hbT : Below wA.heap.size wA w2 := Kt.chain (by assumption) hb2; have hcT := bc hbT)
         | (go_at_call_of 60 (Value.int IntKind.u8 103); refine (HHG.out _).mono ?_; rintro e w2 ⟨rfl, hb2⟩; have hbT : Below wA.heap.size wA w2 := Kt.chain (by assumption) hb2; have hcT := bc hbT))
       all_goals go_meet
       all_goals refine ⟨congrArg Value.bool ?_, by assumption⟩
       all_goals rw [← E4.out]
       all_goals first | (simp [e4r, *]; done) | (simp [e4r, *, Bool.or_assoc]; done)
     ·as_aux_lemma =>
       go_wp2_with (first
         | (go_at_call_of 60 (Value.int IntKind.u8 107); refine (HHK.out _).mono ?_; rintro e w2 ⟨rfl, hb2⟩; have hbT : Below wA.heap.size wA w2 := Kt.chain (by assumption) hb2; have hcT := bc hbT)
         | (go_at_call_of 60 (Value.int IntKind.u8 110); refine (HHN.out _).mono ?_; rintro e w2 ⟨rfl, hb2⟩; have hbT : Below wA.heap.size wA w2 := Kt.chain (by assumption) hb2; have hcT := bc hbT)
         | (go_at_call_of 60 (Value.int IntKind.u8 97); refine (HHA.out _).mono ?_; rintro e w2 ⟨rfl, hb2⟩; have hbT : Below wA.heap.size wA w2 := Kt.chain (by assumption) hb2; have hcT := bc hbT)
         | (go_at_call_of 60 (Value.int IntKind.u8 98); refine (HHB.out _).mono ?_; rintro e w2 ⟨rfl, hb2⟩; have hbT : Below wA.heap.size wA w2 := Kt.chain (by assumption) hb2; have hcT := bc hbT)
         | (go_at_call_of 60 (Value.int IntKind.u8 99); refine (HHC.out _).mono ?_; rintro e w2 ⟨rfl, hb2⟩; have hbT : Below wA.heap.size wA w2 := Kt.chain (by assumption) hb2; have hcT := bc hbT)
         | (go_at_call_of 60 (Value.int IntKind.u8 103); refine (HHG.out _).mono ?_; rintro e w2 ⟨rfl, hb2⟩; have hbT : Below wA.heap.size wA w2 := Kt.chain (by assumption) hb2; have hcT := bc hbT))
       all_goals go_meet
       all_goals refine ⟨congrArg Value.bool ?_, by assumption⟩
       all_goals rw [← E4.out]
       all_goals first | (simp [e4r, *]; done) | (simp [e4r, *, Bool.or_assoc]; done)
    ·
     rcases (show (on < 0) ∨ (¬ on < 0 ∧ cnt < on) ∨ (¬ on < 0 ∧ ¬ cnt < on ∧ oc ≠ 0) ∨ (¬ on < 0 ∧ ¬ cnt < on ∧ oc = 0) by omega) with y0 | ⟨y0, y1⟩ | ⟨y0, y1, y2⟩ | ⟨y0, y1, rfl⟩
     ·as_aux_lemma =>
       go_wp2_with (first
         | (go_at_call_of 60 (Value.int IntKind.u8 107); refine (HHK.out _).mono ?_; rintro e w2 ⟨rfl, hb2⟩; have hbT : Below wA.heap.size wA w2 := Kt.chain (by assumption) hb2; have hcT := bc hbT)
         | (go_at_call_of 60 (Value.int IntKind.u8 110); refine (HHN.out _).mono ?_; rintro e w2 ⟨rfl, hb2⟩; have hbT : Below wA.heap.size wA w2 := Kt.chain (by assumption) hb2; have hcT := bc hbT)
         | (go_at_call_of 60 (Value.int IntKind.u8 97); refine (HHA.out _).mono ?_; rintro e w2 ⟨rfl, hb2⟩; have hbT : Below wA.heap.size wA w2 := Kt.chain (by assumption) hb2; have hcT := bc hbT)
         | (go_at_call_of 60 (Value.int IntKind.u8 98); refine (HHB.out _).mono ?_; rintro e w2 ⟨rfl, hb2⟩; have hbT : Below wA.heap.size wA w2 := Kt.chain (by assumption) hb2; have hcT := bc hbT)
         | (go_at_call_of 60 (Value.int IntKind.u8 99); refine (HHC.out _).mono ?_; rintro e w2 ⟨rfl, hb2⟩; have hbT : Below wA.heap.size wA w2 := Kt.chain (by assumption) hb2; have hcT := bc hbT)
         | (go_at_call_of 60 (Value.int IntKind.u8 103); refine (HHG.out _).mono ?_; rintro e w2 ⟨rfl, hb2⟩; have hbT : Below wA.heap.size wA w2 := Kt.chain (by assumption) hb2; have hcT := bc hbT))
       all_goals go_meet
       all_goals refine ⟨congrArg Value.bool ?_, by assumption⟩
       all_goals rw [← E4.out]
       all_goals first | (simp [e4r, *]; done) | (simp [e4r, *, Bool.or_assoc]; done)
     ·as_aux_lemma =>
       go_wp2_with (first
         | (go_at_call_of 60 (Value.int IntKind.u8 107); refine (HHK.out _).mono ?_; rintro e w2 ⟨rfl, hb2⟩; have hbT : Below wA.heap.size wA w2 := Kt.chain (by assumption) hb2; have hcT := bc hbT)
         | (go_at_call_of 60 (Value.int IntKind.u8 110); refine (HHN.out _).mono ?_; rintro e w2 ⟨rfl, hb2⟩; have hbT : Below wA.heap.size wA w2 := Kt.chain (by assumption) hb2; have hcT := bc hbT)
         | (go_at_call_of 60 (Value.int IntKind.u8 97); refine (HHA.out _).mono ?_; rintro e w2 ⟨rfl, hb2⟩; have hbT : Below wA.heap.size wA w2 := Kt.chain (by assumption) hb2; have hcT := bc hbT)
         | (go_at_call_of 60 (Value.int IntKind.u8 98); refine (HHB.out _).mono ?_; rintro e w2 ⟨rfl, hb2⟩; have hbT : Below wA.heap.size wA w2 := Kt.chain (by assumption) hb2; have hcT := bc hbT)
         | (go_at_call_of 60 (Value.int IntKind.u8 99); refine (HHC.out _).mono ?_; rintro e w2 ⟨rfl, hb2⟩; have hbT : Below wA.heap.size wA w2 := Kt.chain (by assumption) hb2; have hcT := bc hbT)
         | (go_at_call_of 60 (Value.int IntKind.u8 103); refine (HHG.out _).mono ?_; rintro e w2 ⟨rfl, hb2⟩; have hbT : Below wA.heap.size wA w2 := Kt.chain (by assumption) hb2; have hcT := bc hbT))
       all_goals go_meet
       all_goals refine ⟨congrArg Value.bool ?_, by assumption⟩
       all_goals rw [← E4.out]
       all_goals first | (simp [e4r, *]; done) | (simp [e4r, *, Bool.or_assoc]; done)
     ·as_aux_lemma =>
       have t2 : (oc == 0) = false := by rw [beq_eq_false_iff_ne]; exact y2
       have u2' : (oc != 0) = true := by rw [bne_iff_ne]; exact y2
       go_wp2_with (first
         | (go_at_call_of 60 (Value.int IntKind.u8 107); refine (HHK.out _).mono ?_; rintro e w2 ⟨rfl, hb2⟩; have hbT : Below wA.heap.size wA w2 := Kt.chain (by assumption) hb2; have hcT := bc hbT)
         | (go_at_call_of 60 (Value.int IntKind.u8 110); refine (HHN.out _).mono ?_; rintro e w2 ⟨rfl, hb2⟩; have hbT : Below wA.heap.size wA w2 := Kt.chain (by assumption) hb2; have hcT := bc hbT)
         | (go_at_call_of 60 (Value.int IntKind.u8 97); refine (HHA.out _).mono ?_; rintro e w2 ⟨rfl, hb2⟩; have hbT : Below wA.heap.size wA w2 := Kt.chain (by assumption) hb2; have hcT := bc hbT)
         | (go_at_call_of 60 (Value.int IntKind.u8 98); refine (HHB.out _).mono ?_; rintro e w2 ⟨rfl, hb2⟩; have hbT : Below wA.heap.size wA w2 := Kt.chain (by assumption) hb2; have hcT := bc hbT)
         | (go_at_call_of 60 (Value.int IntKind.u8 99); refine (HHC.out _).mono ?_; rintro e w2 ⟨rfl, hb2⟩; have hbT : Below wA.heap.size wA w2 := Kt.chain (by assumption) hb2; have hcT := bc hbT)
         | (go_at_call_of 60 (Value.int IntKind.u8 103); refine (HHG.out _).mono ?_; rintro e w2 ⟨rfl, hb2⟩; have hbT : Below wA.heap.size wA w2 := Kt.chain (by assumption) hb2; have hcT := bc hbT))
       all_goals go_meet
       all_goals refine ⟨congrArg Value.bool ?_, by assumption⟩
       all_goals rw [← E4.out]
       all_goals first | (simp [e4r, *]; done) | (simp [e4r, *, Bool.or_assoc]; done)
     ·as_aux_lemma =>
       go_wp2_with (first
         | (go_at_call_of 60 (Value.int IntKind.u8 107); refine (HHK.out _).mono ?_; rintro e w2 ⟨rfl, hb2⟩; have hbT : Below wA.heap.size wA w2 := Kt.chain (by assumption) hb2; have hcT := bc hbT)
         | (go_at_call_of 60 (Value.int IntKind.u8 110); refine (HHN.out _).mono ?_; rintro e w2 ⟨rfl, hb2⟩; have hbT : Below wA.heap.size wA w2 := Kt.chain (by assumption) hb2; have hcT := bc hbT)
         | (go_at_call_of 60 (Value.int IntKind.u8 97); refine (HHA.out _).mono ?_; rintro e w2 ⟨rfl, hb2⟩; have hbT : Below wA.heap.size wA w2 := Kt.chain (by assumption) hb2; have hcT := bc hbT)
         | (go_at_call_of 60 (Value.int IntKind.u8 98); refine (HHB.out _).mono ?_; rintro e w2 ⟨rfl, hb2⟩; have hbT : Below wA.heap.size wA w2 := Kt.chain (by assumption) hb2; have hcT := bc hbT)
         | (go_at_call_of 60 (Value.int IntKind.u8 99); refine (HHC.out _).mono ?_; rintro e w2 ⟨rfl, hb2⟩; have hbT : Below wA.heap.size wA w2 := Kt.chain (by assumption) hb2; have hcT := bc hbT)
         | (go_at_call_of 60 (Value.int IntKind.u8 103); refine (HHG.out _).mono ?_; rintro e w2 ⟨rfl, hb2⟩; have hbT : Below wA.heap.size wA w2 := Kt.chain (by assumption) hb2; have hcT := bc hbT))
       all_goals go_meet
       all_goals refine ⟨congrArg Value.bool ?_, by assumption⟩
       all_goals rw [← E4.out]
       all_goals first | (simp [e4r, *]; done) | (simp [e4r, *, Bool.or_assoc]; done)
    ·
     rcases (show (on < 0) ∨ (¬ on < 0 ∧ cnt < on) ∨ (¬ on < 0 ∧ ¬ cnt < on ∧ oa ≠ 0) ∨ (¬ on < 0 ∧ ¬ cnt < on ∧ oa = 0 ∧ ob ≠ 0) ∨ (¬ on < 0 ∧ ¬ cnt < on ∧ oa = 0 ∧ ob = 0 ∧ oc ≠ 0) ∨ (¬ on < 0 ∧ ¬ cnt < on ∧ oa = 0 ∧ ob = 0 ∧ oc = 0) by omega) with y0 | ⟨y0, y1⟩ | ⟨y0, y1, y2⟩ | ⟨y0, y1, rfl, y3⟩ | ⟨y0, y1, rfl, rfl, y4⟩ | ⟨y0, y1, rfl, rfl, rfl⟩
     ·as_aux_lemma =>
       go_wp2_with (first
         | (go_at_call_of 60 (Value.int IntKind.u8 107); refine (HHK.out _).mono ?_; rintro e w2 ⟨rfl, hb2⟩; have hbT : Below wA.heap.size wA w2 := Kt.chain (by assumption) hb2; have hcT := bc hbT)
         | (go_at_call_of 60 (Value.int IntKind.u8 110); refine (HHN.out _).mono ?_; rintro e w2 ⟨rfl, hb2⟩; have hbT : Below wA.heap.size wA w2 := Kt.chain (by assumption) hb2; have hcT := bc hbT)
         | (go_at_call_of 60 (Value.int IntKind.u8 97); refine (HHA.out _).mono ?_; rintro e w2 ⟨rfl, hb2⟩; have hbT : Below wA.heap.size wA w2 := Kt.chain (by assumption) hb2; have hcT := bc hbT)
         | (go_at_call_of 60 (Value.int IntKind.u8 98); refine (HHB.out _).mono ?_; rintro e w2 ⟨rfl, hb2⟩; have hbT : Below wA.heap.size wA w2 := Kt.chain (by assumption) hb2; have hcT := bc hbT)
         | (go_at_call_of 60 (Value.int IntKind.u8 99); refine (HHC.out _).mono ?_; rintro e w2 ⟨rfl, hb2⟩; have hbT : Below wA.heap.size wA w2 := Kt.chain (by assumption) hb2; have hcT := bc hbT)
         | (go_at_call_of 60 (Value.int IntKind.u8 103); refine (HHG.out _).mono ?_; rintro e w2 ⟨rfl, hb2⟩; have hbT : Below wA.heap.size wA w2 := Kt.chain (by assumption) hb2; have hcT := bc hbT))
       all_goals go_meet
       all_goals refine ⟨congrArg Value.bool ?_, by assumption⟩
       all_goals rw [← E4.out]
       all_goals first | (simp [e4r, *]; done) | (simp [e4r, *, Bool.or_assoc]; done)
     ·as_aux_lemma =>
       go_wp2_with (first
         | (go_at_call_of 60 (Value.int IntKind.u8 107); refine (HHK.out _).mono ?_; rintro e w2 ⟨rfl, hb2⟩; have hbT : Below wA.heap.size wA w2 := Kt.chain (by assumption) hb2; have hcT := bc hbT)
         | (go_at_call_of 60 (Value.int IntKind.u8 110); refine (HHN.out _).mono ?_; rintro e w2 ⟨rfl, hb2⟩; have hbT : Below wA.heap.size wA w2 := Kt.chain (by assumption) hb2; have hcT := bc hbT)
         | (go_at_call_of 60 (Value.int IntKind.u8 97); refine (HHA.out _).mono ?_; rintro e w2 ⟨rfl, hb2⟩; have hbT : Below wA.heap.size wA w2 := Kt.chain (by assumption) hb2; have hcT := bc hbT)
         | (go_at_call_of 60 (Value.int IntKind.u8 98); refine (HHB.out _).mono ?_; rintro e w2 ⟨rfl, hb2⟩; have hbT : Below wA.heap.size wA w2 := Kt.chain (by assumption) hb2; have hcT := bc hbT)
         | (go_at_call_of 60 (Value.int IntKind.u8 99); refine (HHC.out _).mono ?_; rintro e w2 ⟨rfl, hb2⟩; have hbT : Below wA.heap.size wA w2 := Kt.chain (by assumption) hb2; have hcT := bc hbT)
         | (go_at_call_of 60 (Value.int IntKind.u8 103); refine (HHG.out _).mono ?_; rintro e w2 ⟨rfl, hb2⟩; have hbT : Below wA.heap.size wA w2 := Kt.chain (by assumption) hb2; have hcT := bc hbT))
       all_goals go_meet
       all_goals refine ⟨congrArg Value.bool ?_, by assumption⟩
       all_goals rw [← E4.out]
       all_goals first | (simp [e4r, *]; done) | (simp [e4r, *, Bool.or_assoc]; done)
     ·as_aux_lemma =>
       have t2 : (oa == 0) = false := by rw [beq_eq_false_iff_ne]; exact y2
       have u2' : (oa != 0) = true := by rw [bne_iff_ne]; exact y2
       go_wp2_with (first
         | (go_at_call_of 60 (Value.int IntKind.u8 107); refine (HHK.out _).mono ?_; rintro e w2 ⟨rfl, hb2⟩; have hbT : Below wA.heap.size wA w2 := Kt.chain (by assumption) hb2; have hcT := bc hbT)
         | (go_at_call_of 60 (Value.int IntKind.u8 110); refine (HHN.out _).mono ?_; rintro e w2 ⟨rfl, hb2⟩; have hbT : Below wA.heap.size wA w2 := Kt.chain (by assumption) hb2; have hcT := bc hbT)
         | (go_at_call_of 60 (Value.int IntKind.u8 97); refine (HHA.out _).mono ?_; rintro e w2 ⟨rfl, hb2⟩; have hbT : Below wA.heap.size wA w2 := Kt.chain (by assumption) hb2; have hcT := bc hbT)
         | (go_at_call_of 60 (Value.int IntKind.u8 98); refine (HHB.out _).mono ?_; rintro e w2 ⟨rfl, hb2⟩; have hbT : Below wA.heap.size wA w2 := Kt.chain (by assumption) hb2; have hcT := bc hbT)
         | (go_at_call_of 60 (Value.int IntKind.u8 99); refine (HHC.out _).mono ?_; rintro e w2 ⟨rfl, hb2⟩; have hbT : Below wA.heap.size wA w2 := Kt.chain (by assumption) hb2; have hcT := bc hbT)
         | (go_at_call_of 60 (Value.int IntKind.u8 103); refine (HHG.out _).mono ?_; rintro e w2 ⟨rfl, hb2⟩; have hbT : Below wA.heap.size wA w2 := Kt.chain (by assumption) hb2; have hcT := bc hbT))
       all_goals go_meet
       all_goals refine ⟨congrArg Value.bool ?_, by assumption⟩
       all_goals rw [← E4.out]
       all_goals first | (simp [e4r, *]; done) | (simp [e4r, *, Bool.or_assoc]; done)
     ·as_aux_lemma =>
       have t3 : (ob == 0) = false := by rw [beq_eq_false_iff_ne]; exact y3
       have u3' : (ob != 0) = true := by rw [bne_iff_ne]; exact y3
       go_wp2_with (first
         | (go_at_call_of 60 (Value.int IntKind.u8 107); refine (HHK.out _).mono ?_; rintro e w2 ⟨rfl, hb2⟩; have hbT : Below wA.heap.size wA w2 := Kt.chain (by assumption) hb2; have hcT := bc hbT)
         | (go_at_call_of 60 (Value.int IntKind.u8 110); refine (HHN.out _).mono ?_; rintro e w2 ⟨rfl, hb2⟩; have hbT : Below wA.heap.size wA w2 := Kt.chain (by assumption) hb2; have hcT := bc hbT)
         | (go_at_call_of 60 (Value.int IntKind.u8 97); refine (HHA.out _).mono ?_; rintro e w2 ⟨rfl, hb2⟩; have hbT : Below wA.heap.size wA w2 := Kt.chain (by assumption) hb2; have hcT := bc hbT)
         | (go_at_call_of 60 (Value.int IntKind.u8 98); refine (HHB.out _).mono ?_; rintro e w2 ⟨rfl, hb2⟩; have hbT : Below wA.heap.size wA w2 := Kt.chain (by assumption) hb2; have hcT := bc hbT)
         | (go_at_call_of 60 (Value.int IntKind.u8 99); refine (HHC.out _).mono ?_; rintro e w2 ⟨rfl, hb2⟩; have hbT : Below wA.heap.size wA w2 := Kt.chain (by assumption) hb2; have hcT := bc hbT)
         | (go_at_call_of 60 (Value.int IntKind.u8 103); refine (HHG.out _).mono ?_; rintro e w2 ⟨rfl, hb2⟩; have hbT : Below wA.heap.size wA w2 := Kt.chain (by assumption) hb2; have hcT := bc hbT))
       all_goals go_meet
       all_goals refine ⟨congrArg Value.bool ?_, by assumption⟩
       all_goals rw [← E4.out]
       all_goals first | (simp [e4r, *]; done) | (simp [e4r, *, Bool.or_assoc]; done)
     ·as_aux_lemma =>
       have t4 : (oc == 0) = false := by rw [beq_eq_false_iff_ne]; exact y4
       have u4' : (oc != 0) = true := by rw [bne_iff_ne]; exact y4
       go_wp2_with (first
         | (go_at_call_of 60 (Value.int IntKind.u8 107); refine (HHK.out _).mono ?_; rintro e w2 ⟨rfl, hb2⟩; have hbT : Below wA.heap.size wA w2 := Kt.chain (by assumption) hb2; have hcT := bc hbT)
         | (go_at_call_of 60 (Value.int IntKind.u8 110); refine (HHN.out _).mono ?_; rintro e w2 ⟨rfl, hb2⟩; have hbT : Below wA.heap.size wA w2 := Kt.chain (by assumption) hb2; have hcT := bc hbT)
         | (go_at_call_of 60 (Value.int IntKind.u8 97); refine (HHA.out _).mono ?_; rintro e w2 ⟨rfl, hb2⟩; have hbT : Below wA.heap.size wA w2 := Kt.chain (by assumption) hb2; have hcT := bc hbT)
         | (go_at_call_of 60 (Value.int IntKind.u8 98); refine (HHB.out _).mono ?_; rintro e w2 ⟨rfl, hb2⟩; have hbT : Below wA.heap.size wA w2 := Kt.chain (by assumption) hb2; have hcT := bc hbT)
         | (go_at_call_of 60 (Value.int IntKind.u8 99); refine (HHC.out _).mono ?_; rintro e w2 ⟨rfl, hb2⟩; have hbT : Below wA.heap.size wA w2 := Kt.chain (by assumption) hb2; have hcT := bc hbT)
         | (go_at_call_of 60 (Value.int IntKind.u8 103); refine (HHG.out _).mono ?_; rintro e w2 ⟨rfl, hb2⟩; have hbT : Below wA.heap.size wA w2 := Kt.chain (by assumption) hb2; have hcT := bc hbT))
       all_goals go_meet
       all_goals refine ⟨congrArg Value.bool ?_, by assumption⟩
       all_goals rw [← E4.out]
       all_goals first | (simp [e4r, *]; done) | (simp [e4r, *, Bool.or_assoc]; done)
     ·as_aux_lemma =>
       go_wp2_with (first
         | (go_at_call_of 60 (Value.int IntKind.u8 107); refine (HHK.out _).mono ?_; rintro e w2 ⟨rfl, hb2⟩; have hbT : Below wA.heap.size wA w2 := Kt.chain (by assumption) hb2; have hcT := bc hbT)
         | (go_at_call_of 60 (Value.int IntKind.u8 110); refine (HHN.out _).mono ?_; rintro e w2 ⟨rfl, hb2⟩; have hbT : Below wA.heap.size wA w2 := Kt.chain (by assumption) hb2; have hcT := bc hbT)
         | (go_at_call_of 60 (Value.int IntKind.u8 97); refine (HHA.out _).mono ?_; rintro e w2 ⟨rfl, hb2⟩; have hbT : Below wA.heap.size wA w2 := Kt.chain (by assumption) hb2; have hcT := bc hbT)
         | (go_at_call_of 60 (Value.int IntKind.u8 98); refine (HHB.out _).mono ?_; rintro e w2 ⟨rfl, hb2⟩; have hbT : Below wA.heap.size wA w2 := Kt.chain (by assumption) hb2; have hcT := bc hbT)
         | (go_at_call_of 60 (Value.int IntKind.u8 99); refine (HHC.out _).mono ?_; rintro e w2 ⟨rfl, hb2⟩; have hbT : Below wA.heap.size wA w2 := Kt.chain (by assumption) hb2; have hcT := bc hbT)
         | (go_at_call_of 60 (Value.int IntKind.u8 103); refine (HHG.out _).mono ?_; rintro e w2 ⟨rfl, hb2⟩; have hbT : Below wA.heap.size wA w2 := Kt.chain (by assumption) hb2; have hcT := bc hbT))
       all_goals go_meet
       all_goals refine ⟨congrArg Value.bool ?_, by assumption⟩
       all_goals rw [← E4.out]
       all_goals first | (simp [e4r, *]; done) | (simp [e4r, *, Bool.or_assoc]; done)
    ·
     rcases (show (on < 0) ∨ (¬ on < 0 ∧ cnt < on) ∨ (¬ on < 0 ∧ ¬ cnt < on ∧ oa ≠ 0) ∨ (¬ on < 0 ∧ ¬ cnt < on ∧ oa = 0 ∧ oc ≠ 0) ∨ (¬ on < 0 ∧ ¬ cnt < on ∧ oa = 0 ∧ oc = 0 ∧ ob < 0) ∨ (¬ on < 0 ∧ ¬ cnt < on ∧ oa = 0 ∧ oc = 0 ∧ ¬ ob < 0 ∧ 4294967295 < ob) ∨ (¬ on < 0 ∧ ¬ cnt < on ∧ oa = 0 ∧ oc = 0 ∧ ¬ ob < 0 ∧ ¬ 4294967295 < ob) by omega) with y0 | ⟨y0, y1⟩ | ⟨y0, y1, y2⟩ | ⟨y0, y1, rfl, y3⟩ | ⟨y0, y1, rfl, rfl, y4⟩ | ⟨y0, y1, rfl, rfl, y4, y5⟩ | ⟨y0, y1, rfl, rfl, y4, y5⟩
     ·as_aux_lemma =>
       go_wp2_with (first
         | (go_at_call_of 60 (Value.int IntKind.u8 107); refine (HHK.out _).mono ?_; rintro e w2 ⟨rfl, hb2⟩; have hbT : Below wA.heap.size wA w2 := Kt.chain (by assumption) hb2; have hcT := bc hbT)
         | (go_at_call_of 60 (Value.int IntKind.u8 110); refine (HHN.out _).mono ?_; rintro e w2 ⟨rfl, hb2⟩; have hbT : Below wA.heap.size wA w2 := Kt.chain (by assumption) hb2; have hcT := bc hbT)
         | (go_at_call_of 60 (Value.int IntKind.u8 97); refine (HHA.out _).mono ?_; rintro e w2 ⟨rfl, hb2⟩; have hbT : Below wA.heap.size wA w2 := Kt.chain (by assumption) hb2; have hcT := bc hbT)
         | (go_at_call_of 60 (Value.int IntKind.u8 98); refine (HHB.out _).mono ?_; rintro e w2 ⟨rfl, hb2⟩; have hbT : Below wA.heap.size wA w2 := Kt.chain (by assumption) hb2; have hcT := bc hbT)
         | (go_at_call_of 60 (Value.int IntKind.u8 99); refine (HHC.out _).mono ?_; rintro e w2 ⟨rfl, hb2⟩; have hbT : Below wA.heap.size wA w2 := Kt.chain (by assumption) hb2; have hcT := bc hbT)
         | (go_at_call_of 60 (Value.int IntKind.u8 103); refine (HHG.out _).mono ?_; rintro e w2 ⟨rfl, hb2⟩; have hbT : Below wA.heap.size wA w2 := Kt.chain (by assumption) hb2; have hcT := bc hbT))
       all_goals go_meet
       all_goals refine ⟨congrArg Value.bool ?_, by assumption⟩
       all_goals rw [← E4.out]
       all_goals first | (simp [e4r, *]; done) | (simp [e4r, *, Bool.or_assoc]; done)
     ·as_aux_lemma =>
       go_wp2_with (first
         | (go_at_call_of 60 (Value.int IntKind.u8 107); refine (HHK.out _).mono ?_; rintro e w2 ⟨rfl, hb2⟩; have hbT : Below wA.heap.size wA w2 := Kt.chain (by assumption) hb2; have hcT := bc hbT)
         | (go_at_call_of 60 (Value.int IntKind.u8 110); refine (HHN.out _).mono ?_; rintro e w2 ⟨rfl, hb2⟩; have hbT : Below wA.heap.size wA w2 := Kt.chain (by assumption) hb2; have hcT := bc hbT)
         | (go_at_call_of 60 (Value.int IntKind.u8 97); refine (HHA.out _).mono ?_; rintro e w2 ⟨rfl, hb2⟩; have hbT : Below wA.heap.size wA w2 := Kt.chain (by assumption) hb2; have hcT := bc hbT)
         | (go_at_call_of 60 (Value.int IntKind.u8 98); refine (HHB.out _).mono ?_; rintro e w2 ⟨rfl, hb2⟩; have hbT : Below wA.heap.size wA w2 := Kt.chain (by assumption) hb2; have hcT := bc hbT)
         | (go_at_call_of 60 (Value.int IntKind.u8 99); refine (HHC.out _).mono ?_; rintro e w2 ⟨rfl, hb2⟩; have hbT : Below wA.heap.size wA w2 := Kt.chain (by assumption) hb2; have hcT := bc hbT)
         | (go_at_call_of 60 (Value.int IntKind.u8 103); refine (HHG.out _).mono ?_; rintro e w2 ⟨rfl, hb2⟩; have hbT : Below wA.heap.size wA w2 := Kt.chain (by assumption) hb2; have hcT := bc hbT))
       all_goals go_meet
       all_goals refine ⟨congrArg Value.bool ?_, by assumption⟩
       all_goals rw [← E4.out]
       all_goals first | (simp [e4r, *]; done) | (simp [e4r, *, Bool.or_assoc]; done)
     ·as_aux_lemma =>
       have t2 : (oa == 0) = false := by rw [beq_eq_false_iff_ne]; exact y2
       have u2' : (oa != 0) = true := by rw [bne_iff_ne]; exact y2
       go_wp2_with (first
         | (go_at_call_of 60 (Value.int IntKind.u8 107); refine (HHK.out _).mono ?_; rintro e w2 ⟨rfl, hb2⟩; have hbT : Below wA.heap.size wA w2 := Kt.chain (by assumption) hb2; have hcT := bc hbT)
         | (go_at_call_of 60 (Value.int IntKind.u8 110); refine (HHN.out _).mono ?_; rintro e w2 ⟨rfl, hb2⟩; have hbT : Below wA.heap.size wA w2 := Kt.chain (by assumption) hb2; have hcT := bc hbT)
         | (go_at_call_of 60 (Value.int IntKind.u8 97); refine (HHA.out _).mono ?_; rintro e w2 ⟨rfl, hb2⟩; have hbT : Below wA.heap.size wA w2 := Kt.chain (by assumption) hb2; have hcT := bc hbT)
         | (go_at_call_of 60 (Value.int IntKind.u8 98); refine (HHB.out _).mono ?_; rintro e w2 ⟨rfl, hb2⟩; have hbT : Below wA.heap.size wA w2 := Kt.chain (by assumption) hb2; have hcT := bc hbT)
         | (go_at_call_of 60 (Value.int IntKind.u8 99); refine (HHC.out _).mono ?_; rintro e w2 ⟨rfl, hb2⟩; have hbT : Below wA.heap.size wA w2 := Kt.chain (by assumption) hb2; have hcT := bc hbT)
         | (go_at_call_of 60 (Value.int IntKind.u8 103); refine (HHG.out _).mono ?_; rintro e w2 ⟨rfl, hb2⟩; have hbT : Below wA.heap.size wA w2 := Kt.chain (by assumption) hb2; have hcT := bc hbT))
       all_goals go_meet
       all_goals refine ⟨congrArg Value.bool ?_, by assumption⟩
       all_goals rw [← E4.out]
       all_goals first | (simp [e4r, *]; done) | (simp [e4r, *, Bool.or_assoc]; done)
     ·as_aux_lemma =>
       have t3 : (oc == 0) = false := by rw [beq_eq_false_iff_ne]; exact y3
       have u3' : (oc != 0) = true := by rw [bne_iff_ne]; exact y3
       go_wp2_with (first
         | (go_at_call_of 60 (Value.int IntKind.u8 107); refine (HHK.out _).mono ?_; rintro e w2 ⟨rfl, hb2⟩; have hbT : Below wA.heap.size wA w2 := Kt.chain (by assumption) hb2; have hcT := bc hbT)
         | (go_at_call_of 60 (Value.int IntKind.u8 110); refine (HHN.out _).mono ?_; rintro e w2 ⟨rfl, hb2⟩; have hbT : Below wA.heap.size wA w2 := Kt.chain (by assumption) hb2; have hcT := bc hbT)
         | (go_at_call_of 60 (Value.int IntKind.u8 97); refine (HHA.out _).mono ?_; rintro e w2 ⟨rfl, hb2⟩; have hbT : Below wA.heap.size wA w2 := Kt.chain (by assumption) hb2; have hcT := bc hbT)
         | (go_at_call_of 60 (Value.int IntKind.u8 98); refine (HHB.out _).mono ?_; rintro e w2 ⟨rfl, hb2⟩; have hbT : Below wA.heap.size wA w2 := Kt.chain (by assumption) hb2; have hcT := bc hbT)
         | (go_at_call_of 60 (Value.int IntKind.u8 99); refine (HHC.out _).mono ?_; rintro e w2 ⟨rfl, hb2⟩; have hbT : Below wA.heap.size wA w2 := Kt.chain (by assumption) hb2; have hcT := bc hbT)
         | (go_at_call_of 60 (Value.int IntKind.u8 103); refine (HHG.out _).mono ?_; rintro e w2 ⟨rfl, hb2⟩; have hbT : Below wA.heap.size wA w2 := Kt.chain (by assumption) hb2; have hcT := bc hbT))
       all_goals go_meet
       all_goals refine ⟨congrArg Value.bool ?_, by assumption⟩
       all_goals rw [← E4.out]
       all_goals first | (simp [e4r, *]; done) | (simp [e4r, *, Bool.or_assoc]; done)
     ·as_aux_lemma =>
       go_wp2_with (first
         | (go_at_call_of 60 (Value.int IntKind.u8 107); refine (HHK.out _).mono ?_; rintro e w2 ⟨rfl, hb2⟩; have hbT : Below wA.heap.size wA w2 := Kt.chain (by assumption) hb2; have hcT := bc hbT)
         | (go_at_call_of 60 (Value.int IntKind.u8 110); refine (HHN.out _).mono ?_; rintro e w2 ⟨rfl, hb2⟩; have hbT : Below wA.heap.size wA w2 := Kt.chain (by assumption) hb2; have hcT := bc hbT)
         | (go_at_call_of 60 (Value.int IntKind.u8 97); refine (HHA.out _).mono ?_; rintro e w2 ⟨rfl, hb2⟩; have hbT : Below wA.heap.size wA w2 := Kt.chain (by assumption) hb2; have hcT := bc hbT)
         | (go_at_call_of 60 (Value.int IntKind.u8 98); refine (HHB.out _).mono ?_; rintro e w2 ⟨rfl, hb2⟩; have hbT : Below wA.heap.size wA w2 := Kt.chain (by assumption) hb2; have hcT := bc hbT)
         | (go_at_call_of 60 (Value.int IntKind.u8 99); refine (HHC.out _).mono ?_; rintro e w2 ⟨rfl, hb2⟩; have hbT : Below wA.heap.size wA w2 := Kt.chain (by assumption) hb2; have hcT := bc hbT)
         | (go_at_call_of 60 (Value.int IntKind.u8 103); refine (HHG.out _).mono ?_; rintro e w2 ⟨rfl, hb2⟩; have hbT : Below wA.heap.size wA w2 := Kt.chain (by assumption) hb2; have hcT := bc hbT))
       all_goals go_meet
       all_goals refine ⟨congrArg Value.bool ?_, by assumption⟩
       all_goals rw [← E4.out]
       all_goals first | (simp [e4r, *]; done) | (simp [e4r, *, Bool.or_assoc]; done)
     ·as_aux_lemma =>
       go_wp2_with (first
         | (go_at_call_of 60 (Value.int IntKind.u8 107); refine (HHK.out _).mono ?_; rintro e w2 ⟨rfl, hb2⟩; have hbT : Below wA.heap.size wA w2 := Kt.chain (by assumption) hb2; have hcT := bc hbT)
         | (go_at_call_of 60 (Value.int IntKind.u8 110); refine (HHN.out _).mono ?_; rintro e w2 ⟨rfl, hb2⟩; have hbT : Below wA.heap.size wA w2 := Kt.chain (by assumption) hb2; have hcT := bc hbT)
         | (go_at_call_of 60 (Value.int IntKind.u8 97); refine (HHA.out _).mono ?_; rintro e w2 ⟨rfl, hb2⟩; have hbT : Below wA.heap.size wA w2 := Kt.chain (by assumption) hb2; have hcT := bc hbT)
         | (go_at_call_of 60 (Value.int IntKind.u8 98); refine (HHB.out _).mono ?_; rintro e w2 ⟨rfl, hb2⟩; have hbT : Below wA.heap.size wA w2 := Kt.chain (by assumption) hb2; have hcT := bc hbT)
         | (go_at_call_of 60 (Value.int IntKind.u8 99); refine (HHC.out _).mono ?_; rintro e w2 ⟨rfl, hb2⟩; have hbT : Below wA.heap.size wA w2 := Kt.chain (by assumption) hb2; have hcT := bc hbT)
         | (go_at_call_of 60 (Value.int IntKind.u8 103); refine (HHG.out _).mono ?_; rintro e w2 ⟨rfl, hb2⟩; have hbT : Below wA.heap.size wA w2 := Kt.chain (by assumption) hb2; have hcT := bc hbT))
       all_goals go_meet
       all_goals refine ⟨congrArg Value.bool ?_, by assumption⟩
       all_goals rw [← E4.out]
       all_goals first | (simp [e4r, *]; done) | (simp [e4r, *, Bool.or_assoc]; done)
     ·as_aux_lemma =>
       go_wp2_with (first
         | (go_at_call_of 60 (Value.int IntKind.u8 107); refine (HHK.out _).mono ?_; rintro e w2 ⟨rfl, hb2⟩; have hbT : Below wA.heap.size wA w2 := Kt.chain (by assumption) hb2; have hcT := bc hbT)
         | (go_at_call_of 60 (Value.int IntKind.u8 110); refine (HHN.out _).mono ?_; rintro e w2 ⟨rfl, hb2⟩; have hbT : Below wA.heap.size wA w2 := Kt.chain (by assumption) hb2; have hcT := bc hbT)
         | (go_at_call_of 60 (Value.int IntKind.u8 97); refine (HHA.out _).mono ?_; rintro e w2 ⟨rfl, hb2⟩; have hbT : Below wA.heap.size wA w2 := Kt.chain (by assumption) hb2; have hcT := bc hbT)
         | (go_at_call_of 60 (Value.int IntKind.u8 98); refine (HHB.out _).mono ?_; rintro e w2 ⟨rfl, hb2⟩; have hbT : Below wA.heap.size wA w2 := Kt.chain (by assumption) hb2; have hcT := bc hbT)
         | (go_at_call_of 60 (Value.int IntKind.u8 99); refine (HHC.out _).mono ?_; rintro e w2 ⟨rfl, hb2⟩; have hbT : Below wA.heap.size wA w2 := Kt.chain (by assumption) hb2; have hcT := bc hbT)
         | (go_at_call_of 60 (Value.int IntKind.u8 103); refine (HHG.out _).mono ?_; rintro e w2 ⟨rfl, hb2⟩; have hbT : Below wA.heap.size wA w2 := Kt.chain (by assumption) hb2; have hcT := bc hbT))
       all_goals go_meet
       all_goals refine ⟨congrArg Value.bool ?_, by assumption⟩
       all_goals rw [← E4.out]
       all_goals first | (simp [e4r, *]; done) | (simp [e4r, *, Bool.or_assoc]; done)
    ·
     rcases (show (okn ≠ 0) ∨ (okn = 0 ∧ on < 0) ∨ (okn = 0 ∧ ¬ on < 0 ∧ cnt < on) ∨ (okn = 0 ∧ ¬ on < 0 ∧ ¬ cnt < on ∧ ob ≠ 0) ∨ (okn = 0 ∧ ¬ on < 0 ∧ ¬ cnt < on ∧ ob = 0 ∧ oc ≠ 0) ∨ (okn = 0 ∧ ¬ on < 0 ∧ ¬ cnt < on ∧ ob = 0 ∧ oc = 0) by omega) with y0 | ⟨rfl, y1⟩ | ⟨rfl, y1, y2⟩ | ⟨rfl, y1, y2, y3⟩ | ⟨rfl, y1, y2, rfl, y4⟩ | ⟨rfl, y1, y2, rfl, rfl⟩
     ·as_aux_lemma =>
       have t0 : (okn == 0) = false := by rw [beq_eq_false_iff_ne]; exact y0
       have u0' : (okn != 0) = true := by rw [bne_iff_ne]; exact y0
       go_wp2_with (first
         | (go_at_call_of 60 (Value.int IntKind.u8 107); refine (HHK.out _).mono ?_; rintro e w2 ⟨rfl, hb2⟩; have hbT : Below wA.heap.size wA w2 := Kt.chain (by assumption) hb2; have hcT := bc hbT)
         | (go_at_call_of 60 (Value.int IntKind.u8 110); refine (HHN.out _).mono ?_; rintro e w2 ⟨rfl, hb2⟩; have hbT : Below wA.heap.size wA w2 := Kt.chain (by assumption) hb2; have hcT := bc hbT)
         | (go_at_call_of 60 (Value.int IntKind.u8 97); refine (HHA.out _).mono ?_; rintro e w2 ⟨rfl, hb2⟩; have hbT : Below wA.heap.size wA w2 := Kt.chain (by assumption) hb2; have hcT := bc hbT)
         | (go_at_call_of 60 (Value.int IntKind.u8 98); refine (HHB.out _).mono ?_; rintro e w2 ⟨rfl, hb2⟩; have hbT : Below wA.heap.size wA w2 := Kt.chain (by assumption) hb2; have hcT := bc hbT)
         | (go_at_call_of 60 (Value.int IntKind.u8 99); refine (HHC.out _).mono ?_; rintro e w2 ⟨rfl, hb2⟩; have hbT : Below wA.heap.size wA w2 := Kt.chain (by assumption) hb2; have hcT := bc hbT)
         | (go_at_call_of 60 (Value.int IntKind.u8 103); refine (HHG.out _).mono ?_; rintro e w2 ⟨rfl, hb2⟩; have hbT : Below wA.heap.size wA w2 := Kt.chain (by assumption) hb2; have hcT := bc hbT))
       all_goals go_meet
       all_goals refine ⟨congrArg Value.bool ?_, by assumption⟩
       all_goals rw [← E4.out]
       all_goals first | (simp [e4r, *]; done) | (simp [e4r, *, Bool.or_assoc]; done)
     ·as_aux_lemma =>
       go_wp2_with (first
         | (go_at_call_of 60 (Value.int IntKind.u8 107); refine (HHK.out _).mono ?_; rintro e w2 ⟨rfl, hb2⟩; have hbT : Below wA.heap.size wA w2 := Kt.chain (by assumption) hb2; have hcT := bc hbT)
         | (go_at_call_of 60 (Value.int IntKind.u8 110); refine (HHN.out _).mono ?_; rintro e w2 ⟨rfl, hb2⟩; have hbT : Below wA.heap.size wA w2 := Kt.chain (by assumption) hb2; have hcT := bc hbT)
         | (go_at_call_of 60 (Value.int IntKind.u8 97); refine (HHA.out _).mono ?_; rintro e w2 ⟨rfl, hb2⟩; have hbT : Below wA.heap.size wA w2 := Kt.chain (by assumption) hb2; have hcT := bc hbT)
         | (go_at_call_of 60 (Value.int IntKind.u8 98); refine (HHB.out _).mono ?_; rintro e w2 ⟨rfl, hb2⟩; have hbT : Below wA.heap.size wA w2 := Kt.chain (by assumption) hb2; have hcT := bc hbT)
         | (go_at_call_of 60 (Value.int IntKind.u8 99); refine (HHC.out _).mono ?_; rintro e w2 ⟨rfl, hb2⟩; have hbT : Below wA.heap.size wA w2 := Kt.chain (by assumption) hb2; have hcT := bc hbT)
         | (go_at_call_of 60 (Value.int IntKind.u8 103); refine (HHG.out _).mono ?_; rintro e w2 ⟨rfl, hb2⟩; have hbT : Below wA.heap.size wA w2 := Kt.chain (by assumption) hb2; have hcT := bc hbT))
       all_goals go_meet
       all_goals refine ⟨congrArg Value.bool ?_, by assumption⟩
       all_goals rw [← E4.out]
       all_goals first | (simp [e4r, *]; done) | (simp [e4r, *, Bool.or_assoc]; done)
     ·as_aux_lemma =>
       go_wp2_with (first
         | (go_at_call_of 60 (Value.int IntKind.u8 107); refine (HHK.out _).mono ?_; rintro e w2 ⟨rfl, hb2⟩; have hbT : Below wA.heap.size wA w2 := Kt.chain (by assumption) hb2; have hcT := bc hbT)
         | (go_at_call_of 60 (Value.int IntKind.u8 110); refine (HHN.out _).mono ?_; rintro e w2 ⟨rfl, hb2⟩; have hbT : Below wA.heap.size wA w2 := Kt.chain (by assumption) hb2; have hcT := bc hbT)
         | (go_at_call_of 60 (Value.int IntKind.u8 97); refine (HHA.out _).mono ?_; rintro e w2 ⟨rfl, hb2⟩; have hbT : Below wA.heap.size wA w2 := Kt.chain (by assumption) hb2; have hcT := bc hbT)
         | (go_at_call_of 60 (Value.int IntKind.u8 98); refine (HHB.out _).mono ?_; rintro e w2 ⟨rfl, hb2⟩; have hbT : Below wA.heap.size wA w2 := Kt.chain (by assumption) hb2; have hcT := bc hbT)
         | (go_at_call_of 60 (Value.int IntKind.u8 99); refine (HHC.out _).mono ?_; rintro e w2 ⟨rfl, hb2⟩; have hbT : Below wA.heap.size wA w2 := Kt.chain (by assumption) hb2; have hcT := bc hbT)
         | (go_at_call_of 60 (Value.int IntKind.u8 103); refine (HHG.out _).mono ?_; rintro e w2 ⟨rfl, hb2⟩; have hbT : Below wA.heap.size wA w2 := Kt.chain (by assumption) hb2; have hcT := bc hbT))
       all_goals go_meet
       all_goals refine ⟨congrArg Value.bool ?_, by assumption⟩
       all_goals rw [← E4.out]
       all_goals first | (simp [e4r, *]; done) | (simp [e4r, *, Bool.or_assoc]; done)
     ·as_aux_lemma =>
       have t3 : (ob == 0) = false := by rw [beq_eq_false_iff_ne]; exact y3
       have u3' : (ob != 0) = true := by rw [bne_iff_ne]; exact y3
       go_wp2_with (first
         | (go_at_call_of 60 (Value.int IntKind.u8 107); refine (HHK.out _).mono ?_; rintro e w2 ⟨rfl, hb2⟩; have hbT : Below wA.heap.size wA w2 := Kt.chain (by assumption) hb2; have hcT := bc hbT)
         | (go_at_call_of 60 (Value.int IntKind.u8 110); refine (HHN.out _).mono ?_; rintro e w2 ⟨rfl, hb2⟩; have hbT : Below wA.heap.size wA w2 := Kt.chain (by assumption) hb2; have hcT := bc hbT)
         | (go_at_call_of 60 (Value.int IntKind.u8 97); refine (HHA.out _).mono ?_; rintro e w2 ⟨rfl, hb2⟩; have hbT : Below wA.heap.size wA w2 := Kt.chain (by assumption) hb2; have hcT := bc hbT)
         | (go_at_call_of 60 (Value.int IntKind.u8 98); refine (HHB.out _).mono ?_; rintro e w2 ⟨rfl, hb2⟩; have hbT : Below wA.heap.size wA w2 := Kt.chain (by assumption) hb2; have hcT := bc hbT)
         | (go_at_call_of 60 (Value.int IntKind.u8 99); refine (HHC.out _).mono ?_; rintro e w2 ⟨rfl, hb2⟩; have hbT : Below wA.heap.size wA w2 := Kt.chain (by assumption) hb2; have hcT := bc hbT)
         | (go_at_call_of 60 (Value.int IntKind.u8 103); refine (HHG.out _).mono ?_; rintro e w2 ⟨rfl, hb2⟩; have hbT : Below wA.heap.size wA w2 := Kt.chain (by assumption) hb2; have hcT := bc hbT))
       all_goals go_meet
       all_goals refine ⟨congrArg Value.bool ?_, by assumption⟩
       all_goals rw [← E4.out]
       all_goals first | (simp [e4r, *]; done) | (simp [e4r, *, Bool.or_assoc]; done)
     ·as_aux_lemma =>
       have t4 : (oc == 0) = false := by rw [beq_eq_false_iff_ne]; exact y4
       have u4' : (oc != 0) = true := by rw [bne_iff_ne]; exact y4
       go_wp2_with (first
         | (go_at_call_of 60 (Value.int IntKind.u8 107); refine (HHK.out _).mono ?_; rintro e w2 ⟨rfl, hb2⟩; have hbT : Below wA.heap.size wA w2 := Kt.chain (by assumption) hb2; have hcT := bc hbT)
         | (go_at_call_of 60 (Value.int IntKind.u8 110); refine (HHN.out _).mono ?_; rintro e w2 ⟨rfl, hb2⟩; have hbT : Below wA.heap.size wA w2 := Kt.chain (by assumption) hb2; have hcT := bc hbT)
         | (go_at_call_of 60 (Value.int IntKind.u8 97); refine (HHA.out _).mono ?_; rintro e w2 ⟨rfl, hb2⟩; have hbT : Below wA.heap.size wA w2 := Kt.chain (by assumption) hb2; have hcT := bc hbT)
         | (go_at_call_of 60 (Value.int IntKind.u8 98); refine (HHB.out _).mono ?_; rintro e w2 ⟨rfl, hb2⟩; have hbT : Below wA.heap.size wA w2 := Kt.chain (by assumption) hb2; have hcT := bc hbT)
         | (go_at_call_of 60 (Value.int IntKind.u8 99); refine (HHC.out _).mono ?_; rintro e w2 ⟨rfl, hb2⟩; have hbT : Below wA.heap.size wA w2 := Kt.chain (by assumption) hb2; have hcT := bc hbT)
         | (go_at_call_of 60 (Value.int IntKind.u8 103); refine (HHG.out _).mono ?_; rintro e w2 ⟨rfl, hb2⟩; have hbT : Below wA.heap.size wA w2 := Kt.chain (by assumption) hb2; have hcT := bc hbT))
       all_goals go_meet
       all_goals refine ⟨congrArg Value.bool ?_, by assumption⟩
       all_goals rw [← E4.out]
       all_goals first | (simp [e4r, *]; done) | (simp [e4r, *, Bool.or_assoc]; done)
     ·as_aux_lemma =>
       go_wp2_with (first
         | (go_at_call_of 60 (Value.int IntKind.u8 107); refine (HHK.out _).mono ?_; rintro e w2 ⟨rfl, hb2⟩; have hbT : Below wA.heap.size wA w2 := Kt.chain (by assumption) hb2; have hcT := bc hbT)
         | (go_at_call_of 60 (Value.int IntKind.u8 110); refine (HHN.out _).mono ?_; rintro e w2 ⟨rfl, hb2⟩; have hbT : Below wA.heap.size wA w2 := Kt.chain (by assumption) hb2; have hcT := bc hbT)
         | (go_at_call_of 60 (Value.int IntKind.u8 97); refine (HHA.out _).mono ?_; rintro e w2 ⟨rfl, hb2⟩; have hbT : Below wA.heap.size wA w2 := Kt.chain (by assumption) hb2; have hcT := bc hbT)
         | (go_at_call_of 60 (Value.int IntKind.u8 98); refine (HHB.out _).mono ?_; rintro e w2 ⟨rfl, hb2⟩; have hbT : Below wA.heap.size wA w2 := Kt.chain (by assumption) hb2; have hcT := bc hbT)
         | (go_at_call_of 60 (Value.int IntKind.u8 99); refine (HHC.out _).mono ?_; rintro e w2 ⟨rfl, hb2⟩; have hbT : Below wA.heap.size wA w2 := Kt.chain (by assumption) hb2; have hcT := bc hbT)
         | (go_at_call_of 60 (Value.int IntKind.u8 103); refine (HHG.out _).mono ?_; rintro e w2 ⟨rfl, hb2⟩; have hbT : Below wA.heap.size wA w2 := Kt.chain (by assumption) hb2; have hcT := bc hbT))
       all_goals go_meet
       all_goals refine ⟨congrArg Value.bool ?_, by assumption⟩
       all_goals rw [← E4.out]
       all_goals first | (simp [e4r, *]; done) | (simp [e4r, *, Bool.or_assoc]; done)
   obtain ⟨rfl, hbx⟩ := hcut
   have hR1 := hR.keep hbx
   have hoB := hoA.keep hbx
   have hbT1 := hbT0.trans (hbx.mono (by omega))
   clear b0 b1 b2 b3 o0 o1 o2 o3 o4 o5 o6 p0 p1 p2 l1 l5 l6 hbx hR hoA hbT0 hr
   have b0 := hR1.1.2 0 _ rfl
   have b1 := hR1.1.2 1 _ rfl
   have b2 := hR1.1.2 2 _ rfl
   have b3 := hR1.1.2 3 _ rfl
   have o0 := hR1.2.1.2 0 _ rfl
   have o1 := hR1.2.1.2 1 _ rfl
   have o2 := hR1.2.1.2 2 _ rfl
   have o3 := hR1.2.1.2 3 _ rfl
   have o4 := hR1.2.1.2 4 _ rfl
   have o5 := hR1.2.1.2 5 _ rfl
   have o6 := hR1.2.1.2 6 _ rfl
   have p0 := hR1.2.2.2 0 _ rfl
   have p1 := hR1.2.2.2 1 _ rfl
   have p2 := hR1.2.2.2 2 _ rfl
   have l1 := hR1.1.1
   have l5 := hR1.2.1.1
   have l6 := hR1.2.2.1
   cases x4
   case true =>
    have hz : scan os cnt os.length = (errAt os cnt j, (j : Int)) := by rw [hsc.out]; exact scan_bad hlt (by rw [EE.out]; simp [rerr])
    have HZ := κ hz
    clear hz
    go_wp2
    go_ret2
    exact ⟨by rw [HZ.out, EE.out]; rfl, by rw [HX.out]; exact hbT1⟩
   go_upto_region 13 with fail
   have hr := Below.refl wc.heap.size wc
   go_cut [177] from 144 to 176 (fun s177 wx => s177 = .bool x10 ∧ Below wc.heap.size wc wx)
   case first =>
    have HGA : Hid (∀ w, Ops os (some ⟨g, off, none⟩) cap w → Calls Tryz.prog 61 #[.agg #[.int .u32 pc, .int .i64 cnt, .int .i64 byt, .slice (some ⟨g, off, none⟩) os.length cap], .int .i64 (j : Int), .int .i64 oa] w fun e w' => e = .returned (.bool (gvn os j oa)) ∧ Below w.heap.size w w') := fun w h => rgiven_any os (some ⟨g, off, none⟩) cap pc cnt byt j oa w h hii
    have HGB : Hid (∀ w, Ops os (some ⟨g, off, none⟩) cap w → Calls Tryz.prog 61 #[.agg #[.int .u32 pc, .int .i64 cnt, .int .i64 byt, .slice (some ⟨g, off, none⟩) os.length cap], .int .i64 (j : Int), .int .i64 ob] w fun e w' => e = .returned (.bool (gvn os j ob)) ∧ Below w.heap.size w w') := fun w h => rgiven_any os (some ⟨g, off, none⟩) cap pc cnt byt j ob w h hii
    have HGC : Hid (∀ w, Ops os (some ⟨g, off, none⟩) cap w → Calls Tryz.prog 61 #[.agg #[.int .u32 pc, .int .i64 cnt, .int .i64 byt, .slice (some ⟨g, off, none⟩) os.length cap], .int .i64 (j : Int), .int .i64 oc] w fun e w' => e = .returned (.bool (gvn os j oc)) ∧ Below w.heap.size w w') := fun w h => rgiven_any os (some ⟨g, off, none⟩) cap pc cnt byt j oc w h hii
    generalize gvn os j oa = gA at E10 HGA
    generalize gvn os j ob = gB at E10 HGB
    generalize gvn os j oc = gC at E10 HGC
    cases la <;> cases lb <;> cases lc
    all_goals
     go_wp2_with (first
        | (go_at_call_of 60 (Value.int IntKind.u8 97); refine (HHA.out _).mono ?_; rintro e w2 ⟨rfl, hb2⟩; have hbT : Below wc.heap.size wc w2 := Kt.chain (by assumption) hb2; have hcT := bc hbT; have ho2 := hoB.keep hbT)
        | (go_at_call_of 60 (Value.int IntKind.u8 98); refine (HHB.out _).mono ?_; rintro e w2 ⟨rfl, hb2⟩; have hbT : Below wc.heap.size wc w2 := Kt.chain (by assumption) hb2; have hcT := bc hbT; have ho2 := hoB.keep hbT)
        | (go_at_call_of 60 (Value.int IntKind.u8 99); refine (HHC.out _).mono ?_; rintro e w2 ⟨rfl, hb2⟩; have hbT : Below wc.heap.size wc w2 := Kt.chain (by assumption) hb2; have hcT := bc hbT; have ho2 := hoB.keep hbT)
        | (go_at_call_of 61 (Value.int IntKind.i64 oa); refine (HGA.out _ (by assumption)).mono ?_; rintro e w2 ⟨rfl, hb2⟩; have hbT : Below wc.heap.size wc w2 := Kt.chain (by assumption) hb2; have hcT := bc hbT; have ho2 := hoB.keep hbT)
        | (go_at_call_of 61 (Value.int IntKind.i64 ob); refine (HGB.out _ (by assumption)).mono ?_; rintro e w2 ⟨rfl, hb2⟩; have hbT : Below wc.heap.size wc w2 := Kt.chain (by assumption) hb2; have hcT := bc hbT; have ho2 := hoB.keep hbT)
        | (go_at_call_of 61 (Value.int IntKind.i64 oc); refine (HGC.out _ (by assumption)).mono ?_; rintro e w2 ⟨rfl, hb2⟩; have hbT : Below wc.heap.size wc w2 := Kt.chain (by assumption) hb2; have hcT := bc hbT; have ho2 := hoB.keep hbT))
     all_goals go_meet
     all_goals refine ⟨congrArg Value.bool ?_, by assumption⟩
     all_goals rw [← E10.out]
     all_goals simp [e10, *]
   obtain ⟨rfl, hbx⟩ := hcut
   have hR2 := hR1.keep hbx
   have hbT2 := hbT1.trans (hbx.mono (by omega))
   clear b0 b1 b2 b3 o0 o1 o2 o3 o4 o5 o6 p0 p1 p2 l1 l5 l6 hR1 hoB hbT1 hr hbx
   have b0 := hR2.1.2 0 _ rfl
   have b1 := hR2.1.2 1 _ rfl
   have b2 := hR2.1.2 2 _ rfl
   have b3 := hR2.1.2 3 _ rfl
   have o0 := hR2.2.1.2 0 _ rfl
   have o1 := hR2.2.1.2 1 _ rfl
   have o2 := hR2.2.1.2 2 _ rfl
   have o3 := hR2.2.1.2 3 _ rfl
   have o4 := hR2.2.1.2 4 _ rfl
   have o5 := hR2.2.1.2 5 _ rfl
   have o6 := hR2.2.1.2 6 _ rfl
   have p0 := hR2.2.2.2 0 _ rfl
   have p1 := hR2.2.2.2 1 _ rfl
   have p2 := hR2.2.2.2 2 _ rfl
   have l1 := hR2.1.1
   have l5 := hR2.2.1.1
   have l6 := hR2.2.2.1
   cases x10
   case true =>
    have hz : scan os cnt os.length = (errAt os cnt j, (j : Int)) := by rw [hsc.out]; exact scan_bad hlt (by rw [EE.out]; simp [rerr])
    have HZ := κ hz
    clear hz
    go_wp2
    go_ret2
    exact ⟨by rw [HZ.out, EE.out]; rfl, by rw [HX.out]; exact hbT2⟩
   go_upto_region 15 with fail
   go_cut [189] from 179 to 188 (fun s189 wx => s189 = .bool x12 ∧ wc = wx)
   case first =>
    cases lf
    all_goals
     go_wp2_with (go_at_call 62; refine (HFI.out _).mono ?_; rintro e w2 ⟨rfl, rfl⟩)
     all_goals go_meet
     all_goals refine ⟨congrArg Value.bool ?_, rfl⟩
     all_goals rw [← E12.out]
     all_goals simp [*]
   obtain ⟨rfl, rfl⟩ := hcut
   cases x12
   case true =>
    have hz : scan os cnt os.length = (errAt os cnt j, (j : Int)) := by rw [hsc.out]; exact scan_bad hlt (by rw [EE.out]; simp [rerr])
    have HZ := κ hz
    clear hz
    go_wp2
    go_ret2
    exact ⟨by rw [HZ.out, EE.out]; rfl, by rw [HX.out]; exact hbT2⟩
   go_wp2
   go_roundg (os.length - (j + 1))
   case measure =>
    have := HK.out
    omega
   case rel => exact ⟨j + 1, rfl, by omega, by simp, by rw [← scan_step hlt (by rw [EE.out]; rfl)]; exact hsc, hbT2, hR2.1⟩
  ·obtain rfl : j = os.length := by omega
   have hx0 := hx.2 0 _ rfl
   have hx1 := hx.2 1 _ rfl
   have hx2 := hx.2 2 _ rfl
   have hx3 := hx.2 3 _ rfl
   have hxl := hx.1
   have hs0 : scan os cnt os.length = if lastOf os then (0, 0) else (7, (os.length : Int)) := by rw [hsc.out, Nat.sub_self]; rfl
   have HS := κ hs0
   clear hs0 hsc
   rcases Nat.eq_zero_or_pos os.length with h0 | h0
   ·have hl : lastOf os = false := by
     have : os = [] := List.eq_nil_of_length_eq_zero h0
     subst this
     rfl
    have hz : scan os cnt os.length = (7, (os.length : Int)) := by rw [HS.out, hl]; rfl
    have HZ := κ hz
    have h0' : ((os.length : Int) == 0) = true := by rw [beq_iff_eq]; omega
    clear hz hl h0 HS hor
    go_wp2
    go_quiet (fail)
    go_wp2
    go_ret2
    exact ⟨by rw [HZ.out]; rfl, by rw [HX.out]; exact below_drewN hb _⟩
   ·obtain ⟨g, off, rfl, hg, hc⟩ := hor.2.2 h0
    obtain ⟨o, ho⟩ : ∃ o, os[os.length - 1]? = some o := ⟨os[os.length - 1], List.getElem?_eq_getElem (by omega)⟩
    have hl : lastOf os = rF o.k := by unfold lastOf; rw [ho]
    have c0 : wr.cell? ⟨g, off + (os.length - 1) * 7, none⟩ = some (.int .i64 o.k) := hc _ o ho 0 _ rfl
    have h0' : ((os.length : Int) == 0) = false := by rw [beq_eq_false_iff_ne]; omega
    have HFI := κ (final_any o.k)
    rw [hl] at HS
    rw [← rF_fin] at HFI
    clear hl hc ho hor
    generalize rF o.k = fi at HS HFI
    cases fi
    ·go_wp2_with (go_at_call 62; refine (HFI.out _).mono ?_; rintro e w2 ⟨rfl, rfl⟩)
     go_quiet (fail)
     go_wp2
     go_ret2
     exact ⟨by rw [HS.out]; rfl, by rw [HX.out]; exact below_drewN hb _⟩
    ·go_wp2_with (go_at_call 62; refine (HFI.out _).mono ?_; rintro e w2 ⟨rfl, rfl⟩)
     go_ret2
     exact ⟨by rw [HS.out]; rfl, by rw [HX.out]; exact hb⟩
end Go.Proofs.YtcjcmnnhmajocabGreat.Ic
