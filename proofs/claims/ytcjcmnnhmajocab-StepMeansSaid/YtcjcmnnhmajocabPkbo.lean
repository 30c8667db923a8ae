/- crossgrainlaw1.StepMeans: the walk. -/
import Derived.Test.YtcjcmnnhmajocabPkbj
import Derived.Test.YtcjcmnnhmajocabPkbl
import Derived.Test.YtcjcmnnhmajocabPkbm
namespace Go.Proofs.Ytcjcmnnhmajocab.St
open Go.RowKit Kt Me Fl Gu
set_option linter.unusedVariables false
set_option linter.unusedSimpArgs false
theorem runO_le (n : Nat) : ∀ (M : MM) (R : Nat → Int) (pc f : Int), (runO n M R pc f).2 ≤ n := by
  induction n with
  | zero => intro M R pc f; exact Nat.le_refl 0
  | succ n ih =>
    intro M R pc f
    unfold runO
    simp only []
    split
    · have := ih (stepO M R pc f).M (stepO M R pc f).R (stepO M R pc f).pc (stepO M R pc f).f
      show _ + 1 ≤ n + 1
      omega
    · split
      · show 1 ≤ n + 1; omega
      · show 0 ≤ n + 1; omega
theorem runv_any (p : Nat) (M : MM) (R : Nat → Int) (pc f n : Int) (w : World) (h : HC p M w) (hM : MOk M) (hR : ROk R) (c0 : 0 ≤ pc) (c1 : pc < 4294967296) (f0 : 0 ≤ f) (f1 : f < 4294967296) (n0 : -9223372036854775808 ≤ n) (n1 : n < 9223372036854775808) :
    Calls Try.prog 37 #[.pointer (some ⟨p, 0, none⟩), stV R pc f, .int .i64 n] w fun e w' => e = .returned (runV (runO n.toNat M R pc (f % 16))) ∧ HC p (runO n.toNat M R pc (f % 16)).1.M w' ∧ Upto (fun i => i = p) w w' :=
  run_any p (fun M R pc f w h hM hR c0 c1 f0 f1 => step_any p M R pc f w h hM hR c0 c1 f0 f1) M R pc f n w h hM hR c0 c1 f0 f1 n0 n1
theorem rrunv_any (P : RP) (M : MM) (R : Nat → Int) (pc f n : Int) (w : World) (h : RM P M w) (hM : MOk M) (hR : ROk R) (c0 : 0 ≤ pc) (c1 : pc < 4294967296) (f0 : 0 ≤ f) (f1 : f < 4294967296) (n0 : -9223372036854775808 ≤ n) (n1 : n < 9223372036854775808) :
    Calls Try.prog 38 #[.pointer (some ⟨P.q, 0, none⟩), stV R pc f, .int .i64 n] w fun e w' => e = .returned (runV (runO n.toNat M R pc (f % 16))) ∧ RM P (runO n.toNat M R pc (f % 16)).1.M w' ∧ Upto P.has w w' :=
  rrun_any P (fun M R pc f w h hM hR c0 c1 f0 f1 => rstep_any P M R pc f w h hM hR c0 c1 f0 f1) M R pc f n w h hM hR c0 c1 f0 f1 n0 n1
set_option maxRecDepth 100000 in
set_option maxHeartbeats 16000000 in
theorem stepmeans_walk (ps : List Prt) (ao : Option Addr) (cap : Nat) (ss : List Sta) (ao2 : Option Addr) (cap2 : Nat) (n : Int) (w : World) (h : Prts ps ao cap w) (h2 : Stas ss ao2 cap2 w) (n0 : -9223372036854775808 ≤ n) (n1 : n < 9223372036854775808) :
    Calls Try.prog 8 #[.slice ao ps.length cap, .slice ao2 ss.length cap2, .int .i64 n] w fun e w' => e = .returned (.bool true) ∧ Below w.heap.size w w' := by
  have hmx : (maxLen : Nat) = 9223372036854775807 := rfl
  have hc1 := h2.lc
  have hc2 := h2.mx
  rw [hmx] at hc2
  clear hmx
  have HS := Lib.hid h2
  have CB := Lib.hid (both_any ps ao cap w h)
  clear h h2
  generalize ps.length = L at CB ⊢
  generalize layd ps = M0' at CB
  go_enter Try.func8, Try.ntmps8
  go_wp2_with fail
  refine CB.out.mono ?_
  rintro e w2 ⟨p, P, rfl, hP, hb, hG⟩
  have H0 := Lib.hid hP
  have B0 := Lib.hid hb
  have GA := Lib.hid hG
  have HNE := Lib.hid hP.ne
  clear hP hb hG CB
  obtain ⟨N, hN⟩ : ∃ N, ss.length = N := ⟨_, rfl⟩
  have HN := Lib.hid hN
  rw [hN] at hc1 ⊢
  clear hN
  go_wp2_with fail
  go_loopg [2, 10, 31] N (fun g t2 t10 i wr => ∃ (j : Nat) (n' left : Int) (M : MM), g = N - j ∧ j ≤ N ∧ i = .int .i64 j ∧ t2 = .int .i64 n' ∧ t10 = .int .i64 left ∧ -9223372036854775808 ≤ n' ∧ n' < 9223372036854775808 ∧ 0 ≤ left ∧ left ≤ 20000 ∧ Hid (Pair p P M wr) ∧ Hid (Below w.heap.size w wr))
  case atStart => exact ⟨0, n, 20000, M0', rfl, Nat.zero_le _, rfl, rfl, rfl, n0, n1, by omega, by omega, H0.out, B0.out⟩
  case round =>
    obtain ⟨j, n', left, M, hg, hj, rfl, rfl, rfl, n0', n1', l0, l1, H1, HBw⟩ := hrel
    have HG := Lib.hid hg
    clear n0 n1 H0 B0 hg
    by_cases hlt : j < N
    · have hlt' : (j : Int) < (N : Int) := by omega
      have hge' : (0 : Int) ≤ (j : Int) := by omega
      obtain ⟨g1, off, rfl, lg1, hcs⟩ := HS.out.at_ (by rw [HN.out]; omega)
      obtain ⟨s, hs⟩ : ∃ s, ss[j]? = some s := ⟨_, List.getElem?_eq_getElem (by rw [HN.out]; exact hlt)⟩
      have hok := Lib.hid (HS.out.ok s (List.mem_of_getElem? hs))
      have hcell : ∀ i v, s.cells[i]? = some v → wr.cell? ⟨g1, off + j * 10 + i, none⟩ = some v := fun i v hv => (HBw.out.cell (p := ⟨g1, off + j * 10 + i, none⟩) lg1).trans (hcs j s hs i v hv)
      have q0 := hcell 0 (.int .u32 (s.R 0)) rfl
      have q1 := hcell 1 (.int .u32 (s.R 1)) rfl
      have q2 := hcell 2 (.int .u32 (s.R 2)) rfl
      have q3 := hcell 3 (.int .u32 (s.R 3)) rfl
      have q4 := hcell 4 (.int .u32 (s.R 4)) rfl
      have q5 := hcell 5 (.int .u32 (s.R 5)) rfl
      have q6 := hcell 6 (.int .u32 (s.R 6)) rfl
      have q7 := hcell 7 (.int .u32 (s.R 7)) rfl
      have q8 := hcell 8 (.int .u32 s.pc) rfl
      have q9 := hcell 9 (.int .u32 s.f) rfl
      rw [Nat.add_zero] at q0
      clear hcell hcs hs
      have FC := Lib.hid H1.out.hc
      have FR := Lib.hid H1.out.rm
      have FM := Lib.hid H1.out.ok
      have lp : p < wr.heap.size := H1.out.hc.2.2.2.2.2.2
      have LP := Lib.hid (show ∀ k, PS p P k → k < wr.heap.size from fun k hk => hk.elim (fun e => e ▸ lp) (fun hk => rm_lt H1.out.rm hk))
      clear H1
      go_upto_region 8 with fail
      have nu := (Upto.refl (fun _ => False) wr).alloc (.cells (stL s.R s.pc s.f) 72)
      have sb := SB.new wr s.R s.pc s.f 72
      have C1 := Lib.hid (FC.out.upto nu id)
      have R1 := Lib.hid (FR.out.upto nu (fun _ _ => id))
      have U1 := Lib.hid (nu.mono (T := PS p P) fun _ _ h => h.elim)
      unfold stL at nu sb C1 R1 U1
      generalize wr.alloc (.cells #[.int .u32 (s.R 0), .int .u32 (s.R 1), .int .u32 (s.R 2), .int .u32 (s.R 3), .int .u32 (s.R 4), .int .u32 (s.R 5), .int .u32 (s.R 6), .int .u32 (s.R 7), .int .u32 s.pc, .int .u32 s.f] 72) = W1 at nu sb C1 R1 U1 ⊢
      have S1 := Lib.hid sb
      clear nu sb q0 q1 q2 q3 q4 q5 q6 q7 q8 q9 FC FR
      have hne1 : ¬ wr.heap.size = p := by omega
      have NP := Lib.hid (show ∀ k, wr.heap.size ≤ k → ¬ PS p P k from fun k hk hp => by have := LP.out k hp; omega)
      obtain ⟨oo, hoo⟩ : ∃ oo, stepO M s.R s.pc s.f = oo := ⟨_, rfl⟩
      have OKO := Lib.hid (show OOk oo from hoo ▸ stepO_ok M s.R s.pc s.f FM.out hok.out.R hok.out.p)
      have CA := step_any p M s.R s.pc s.f W1 C1.out FM.out hok.out.R hok.out.p.1 hok.out.p.2 hok.out.f.1 hok.out.f.2
      have CBB := fun w h => rstep_any P M s.R s.pc s.f w h FM.out hok.out.R hok.out.p.1 hok.out.p.2 hok.out.f.1 hok.out.f.2
      rw [hoo] at CA CBB
      unfold outV stV at CA CBB
      have CA := Lib.hid CA
      have CBB := Lib.hid CBB
      clear hoo
      obtain ⟨a0, a1, a2, a3, a4, a5, a6, a7, a8, a9⟩ := S1.out.all
      go_wp2_with fail
      refine CA.out.mono ?_
      rintro e w5 ⟨rfl, c5, u5⟩
      clear a0 a1 a2 a3 a4 a5 a6 a7 a8 a9
      have S5 := Lib.hid (S1.out.upto u5 hne1)
      have R5 := Lib.hid (R1.out.upto u5 (fun k hk e => HNE.out (e ▸ hk)))
      have U5 := Lib.hid (U1.out.trans (u5.mono (T := PS p P) fun _ _ h => .inl h))
      have C5 := Lib.hid c5
      clear c5 u5 CA C1 R1 U1 S1
      go_upto_region 9 with fail
      obtain ⟨ta, ka, un⟩ := two_new w5 oo.R oo.pc oo.f oo.k oo.x
      have S6 := Lib.hid (S5.out.upto un id)
      have C6 := Lib.hid (C5.out.upto un id)
      have R6 := Lib.hid (R5.out.upto un (fun _ _ => id))
      have U6 := Lib.hid (U5.out.trans (un.mono (T := PS p P) fun _ _ h => h.elim))
      have l5 := S5.out.l
      unfold stL at ta ka un S6 C6 R6 U6
      generalize (w5.alloc (.cells #[.int .u32 (oo.R 0), .int .u32 (oo.R 1), .int .u32 (oo.R 2), .int .u32 (oo.R 3), .int .u32 (oo.R 4), .int .u32 (oo.R 5), .int .u32 (oo.R 6), .int .u32 (oo.R 7), .int .u32 oo.pc, .int .u32 oo.f] 72)).alloc (.cells #[.int .i64 oo.k, .int .u32 oo.x] 46) = W6 at ta ka un S6 C6 R6 U6 ⊢
      have TA := Lib.hid ta
      have KA := Lib.hid ka
      clear ta ka un S5 C5 R5 U5
      obtain ⟨a0, a1, a2, a3, a4, a5, a6, a7, a8, a9⟩ := S6.out.all
      go_wp2_with fail
      refine (CBB.out _ R6.out).mono ?_
      rintro e w7 ⟨rfl, r7, u7⟩
      clear a0 a1 a2 a3 a4 a5 a6 a7 a8 a9
      have np : ∀ k, wr.heap.size ≤ k → ¬ P.has k := fun k hk hp => NP.out k hk (.inr hp)
      have TA7 := Lib.hid (TA.out.upto u7 (np _ (by omega)))
      have KA7 := Lib.hid (KA.out.upto u7 (np _ (by omega)))
      have C7 := Lib.hid (C6.out.upto u7 (fun hp => HNE.out hp))
      have U7 := Lib.hid (U6.out.trans (u7.mono (T := PS p P) fun _ _ h => .inr h))
      have R7 := Lib.hid r7
      clear r7 u7 CBB TA KA C6 U6 R6 S6
      go_upto_region 10 with fail
      obtain ⟨tb, kb, un⟩ := two_new w7 oo.R oo.pc oo.f oo.k oo.x
      have TA8 := Lib.hid (TA7.out.upto un id)
      have KA8 := Lib.hid (KA7.out.upto un id)
      have C8 := Lib.hid (C7.out.upto un id)
      have R8 := Lib.hid (R7.out.upto un (fun _ _ => id))
      have U8 := Lib.hid (U7.out.trans (un.mono (T := PS p P) fun _ _ h => h.elim))
      have l7 : w5.heap.size + 1 < w7.heap.size := KA7.out.l
      unfold stL at tb kb un TA8 KA8 C8 R8 U8
      generalize (w7.alloc (.cells #[.int .u32 (oo.R 0), .int .u32 (oo.R 1), .int .u32 (oo.R 2), .int .u32 (oo.R 3), .int .u32 (oo.R 4), .int .u32 (oo.R 5), .int .u32 (oo.R 6), .int .u32 (oo.R 7), .int .u32 oo.pc, .int .u32 oo.f] 72)).alloc (.cells #[.int .i64 oo.k, .int .u32 oo.x] 46) = W8 at tb kb un TA8 KA8 C8 R8 U8 ⊢
      have TB8 := Lib.hid tb
      have KB8 := Lib.hid kb
      clear tb kb un TA7 KA7 C7 R7 U7
      obtain ⟨a0, a1, a2, a3, a4, a5, a6, a7, a8, a9⟩ := TA8.out.all
      obtain ⟨b0, b1, b2, b3, b4, b5, b6, b7, b8, b9⟩ := TB8.out.all
      have ka0 := KA8.out.c0
      have ka1 := KA8.out.c1
      have kb0 := KB8.out.c0
      have kb1 := KB8.out.c1
      have ns := neq_state (oo.R 0) (oo.R 1) (oo.R 2) (oo.R 3) (oo.R 4) (oo.R 5) (oo.R 6) (oo.R 7) oo.pc oo.f
      have nt := neq_stop oo.k oo.x
      go_upto_region 12 with fail
      by_cases hnl : left < n'
      · go_upto_region 14 with fail
        clear b0 b1 b2 b3 b4 b5 b6 b7 b8 b9 ka0 ka1 kb0 kb1 ns nt
        have hv0 : -9223372036854775808 ≤ left := by omega
        have hv1 : left < 9223372036854775808 := by omega
        have hv2 : left ≤ left := by omega
        obtain ⟨r, hr⟩ : ∃ r, runO (left).toNat oo.M oo.R oo.pc (oo.f % 16) = r := ⟨_, rfl⟩
        have hle : r.2 ≤ (left).toNat := hr ▸ runO_le _ _ _ _ _
        have hle1 : (r.2 : Int) ≤ left := by omega
        have hle2 : (0 : Int) ≤ (r.2 : Int) := by omega
        have OKR := Lib.hid (show OOk r.1 from hr ▸ runO_ok _ _ _ _ _ OKO.out.M OKO.out.R OKO.out.p (by have := OKO.out.f; omega))
        have CR := runv_any p oo.M oo.R oo.pc oo.f left W8 C8.out OKO.out.M OKO.out.R OKO.out.p.1 OKO.out.p.2 OKO.out.f.1 (by have := OKO.out.f; omega) hv0 hv1
        have CRR := fun w h => rrunv_any P oo.M oo.R oo.pc oo.f left w h OKO.out.M OKO.out.R OKO.out.p.1 OKO.out.p.2 OKO.out.f.1 (by have := OKO.out.f; omega) hv0 hv1
        rw [hr] at CR CRR
        unfold runV stV at CR CRR
        have CR := Lib.hid CR
        have CRR := Lib.hid CRR
        clear hr hle
        go_wp2_with fail
        refine CR.out.mono ?_
        rintro e w9 ⟨rfl, c9, u9⟩
        clear a0 a1 a2 a3 a4 a5 a6 a7 a8 a9
        have hp1 : ¬ w5.heap.size + 1 = p := by omega
        have hp2 : ¬ w7.heap.size = p := by omega
        have hp3 : ¬ w7.heap.size + 1 = p := by omega
        have TB9 := Lib.hid (TB8.out.upto u9 hp2)
        have KA9 := Lib.hid (KA8.out.upto u9 hp1)
        have KB9 := Lib.hid (KB8.out.upto u9 hp3)
        have R9 := Lib.hid (R8.out.upto u9 (fun k hk e => HNE.out (e ▸ hk)))
        have U9 := Lib.hid (U8.out.trans (u9.mono (T := PS p P) fun _ _ h => .inl h))
        have C9 := Lib.hid c9
        clear c9 u9 CR C8 R8 U8 TB8 KA8 KB8 TA8
        have ka0 := KA9.out.c0
        have ka1 := KA9.out.c1
        have kz0 := KA9.out.z 0
        have kz1 := KA9.out.z 1
        have lk9 := KA9.out.l
        go_upto_region 15 with fail
        have l9 := KB9.out.l
        have vs := ((Upto.refl (fun i => i = w5.heap.size + 1) w9).setCell (q := ⟨w5.heap.size + 1, 0, none⟩) (.inl rfl) (.int .i64 r.1.k)).setCell (q := ⟨w5.heap.size + 1, 1, none⟩) (.inl rfl) (.int .u32 r.1.x)
        have npk : ¬ P.has (w5.heap.size + 1) := fun hp => NP.out _ (by omega) (.inr hp)
        have KA0 := KA9.out.set r.1.k r.1.x
        have TB0 := TB9.out.upto vs (by omega)
        have KB0 := KB9.out.upto vs (by omega)
        have C0 := C9.out.upto vs (by omega)
        have R0 := R9.out.upto vs (fun k hk e => npk (e ▸ hk))
        have U0 := (U9.out.setCell (q := ⟨w5.heap.size + 1, 0, none⟩) (.inr (by show wr.heap.size ≤ w5.heap.size + 1; omega)) (.int .i64 r.1.k)).setCell (q := ⟨w5.heap.size + 1, 1, none⟩) (.inr (by show wr.heap.size ≤ w5.heap.size + 1; omega)) (.int .u32 r.1.x)
        have hsz : ((w9.setCell ⟨w5.heap.size + 1, 0, none⟩ (.int .i64 r.1.k)).setCell ⟨w5.heap.size + 1, 1, none⟩ (.int .u32 r.1.x)).heap.size = w9.heap.size := by simp
        generalize (w9.setCell ⟨w5.heap.size + 1, 0, none⟩ (.int .i64 r.1.k)).setCell ⟨w5.heap.size + 1, 1, none⟩ (.int .u32 r.1.x) = Wa at vs KA0 TB0 KB0 C0 R0 U0 hsz ⊢
        have tx := SB.new Wa r.1.R r.1.pc r.1.f 72
        have un := (Upto.refl (fun _ => False) Wa).alloc (.cells (stL r.1.R r.1.pc r.1.f) 72)
        rw [hsz] at tx
        have KA1 := KA0.upto un id
        have TB1 := TB0.upto un id
        have KB1 := KB0.upto un id
        have C1 := C0.upto un id
        have R1 := R0.upto un (fun _ _ => id)
        have U1 := U0.trans (un.mono (T := PS p P) fun _ _ h => h.elim)
        clear KA0 TB0 KB0 C0 R0 U0 vs hsz
        unfold stL at tx un KA1 TB1 KB1 C1 R1 U1
        generalize Wa.alloc (.cells #[.int .u32 (r.1.R 0), .int .u32 (r.1.R 1), .int .u32 (r.1.R 2), .int .u32 (r.1.R 3), .int .u32 (r.1.R 4), .int .u32 (r.1.R 5), .int .u32 (r.1.R 6), .int .u32 (r.1.R 7), .int .u32 r.1.pc, .int .u32 r.1.f] 72) = W10 at tx un KA1 TB1 KB1 C1 R1 U1 ⊢
        have TX := Lib.hid tx
        have KA1 := Lib.hid KA1
        have TB1 := Lib.hid TB1
        have KB1 := Lib.hid KB1
        have C1 := Lib.hid C1
        have R1 := Lib.hid R1
        have U1 := Lib.hid U1
        clear tx un npk
        clear KA9 KB9 TB9 R9 U9 C9 ka0 ka1 kz0 kz1 lk9
        obtain ⟨a0, a1, a2, a3, a4, a5, a6, a7, a8, a9⟩ := TB1.out.all
        go_wp2_with fail
        refine (CRR.out _ R1.out).mono ?_
        rintro e w11 ⟨rfl, r11, u11⟩
        clear a0 a1 a2 a3 a4 a5 a6 a7 a8 a9
        have np2 : ∀ k, wr.heap.size ≤ k → ¬ P.has k := fun k hk hp => NP.out k hk (.inr hp)
        have lx := TX.out.l
        have TX3 := Lib.hid (TX.out.upto u11 (np2 _ (by omega)))
        have KA3 := Lib.hid (KA1.out.upto u11 (np2 _ (by omega)))
        have KB3 := Lib.hid (KB1.out.upto u11 (np2 _ (by omega)))
        have C3 := Lib.hid (C1.out.upto u11 (fun hp => HNE.out hp))
        have U3 := Lib.hid (U1.out.trans (u11.mono (T := PS p P) fun _ _ h => .inr h))
        have R3 := Lib.hid r11
        clear r11 u11 CRR TX KA1 KB1 C1 U1 R1 TB1
        have kb0 := KB3.out.c0
        have kb1 := KB3.out.c1
        have kz0 := KB3.out.z 0
        have kz1 := KB3.out.z 1
        have lk3 := KB3.out.l
        have lx3 := TX3.out.l
        go_upto_region 16 with fail
        have vs := ((Upto.refl (fun i => i = w7.heap.size + 1) w11).setCell (q := ⟨w7.heap.size + 1, 0, none⟩) (.inl rfl) (.int .i64 r.1.k)).setCell (q := ⟨w7.heap.size + 1, 1, none⟩) (.inl rfl) (.int .u32 r.1.x)
        have npk : ¬ P.has (w7.heap.size + 1) := fun hp => NP.out _ (by omega) (.inr hp)
        have KB0 := KB3.out.set r.1.k r.1.x
        have TX0 := TX3.out.upto vs (by omega)
        have KA0 := KA3.out.upto vs (by omega)
        have C0 := C3.out.upto vs (by omega)
        have R0 := R3.out.upto vs (fun k hk e => npk (e ▸ hk))
        have U0 := (U3.out.setCell (q := ⟨w7.heap.size + 1, 0, none⟩) (.inr (by show wr.heap.size ≤ w7.heap.size + 1; omega)) (.int .i64 r.1.k)).setCell (q := ⟨w7.heap.size + 1, 1, none⟩) (.inr (by show wr.heap.size ≤ w7.heap.size + 1; omega)) (.int .u32 r.1.x)
        have hsz : ((w11.setCell ⟨w7.heap.size + 1, 0, none⟩ (.int .i64 r.1.k)).setCell ⟨w7.heap.size + 1, 1, none⟩ (.int .u32 r.1.x)).heap.size = w11.heap.size := by simp
        generalize (w11.setCell ⟨w7.heap.size + 1, 0, none⟩ (.int .i64 r.1.k)).setCell ⟨w7.heap.size + 1, 1, none⟩ (.int .u32 r.1.x) = Wb at vs KB0 TX0 KA0 C0 R0 U0 hsz ⊢
        have tx := SB.new Wb r.1.R r.1.pc r.1.f 72
        have un := (Upto.refl (fun _ => False) Wb).alloc (.cells (stL r.1.R r.1.pc r.1.f) 72)
        rw [hsz] at tx
        have KB1 := KB0.upto un id
        have TX1 := TX0.upto un id
        have KA1 := KA0.upto un id
        have C1 := C0.upto un id
        have R1 := R0.upto un (fun _ _ => id)
        have U1 := U0.trans (un.mono (T := PS p P) fun _ _ h => h.elim)
        clear KB0 TX0 KA0 C0 R0 U0 vs hsz
        unfold stL at tx un KB1 TX1 KA1 C1 R1 U1
        generalize Wb.alloc (.cells #[.int .u32 (r.1.R 0), .int .u32 (r.1.R 1), .int .u32 (r.1.R 2), .int .u32 (r.1.R 3), .int .u32 (r.1.R 4), .int .u32 (r.1.R 5), .int .u32 (r.1.R 6), .int .u32 (r.1.R 7), .int .u32 r.1.pc, .int .u32 r.1.f] 72) = W12 at tx un KB1 TX1 KA1 C1 R1 U1 ⊢
        have TY := Lib.hid tx
        have KB1 := Lib.hid KB1
        have TX1 := Lib.hid TX1
        have KA1 := Lib.hid KA1
        have C1 := Lib.hid C1
        have R1 := Lib.hid R1
        have U1 := Lib.hid U1
        clear tx un npk
        clear KA3 KB3 TX3 R3 U3 C3 kb0 kb1 kz0 kz1
        obtain ⟨a0, a1, a2, a3, a4, a5, a6, a7, a8, a9⟩ := TX1.out.all
        obtain ⟨b0, b1, b2, b3, b4, b5, b6, b7, b8, b9⟩ := TY.out.all
        have ka0 := KA1.out.c0
        have ka1 := KA1.out.c1
        have kb0 := KB1.out.c0
        have kb1 := KB1.out.c1
        have ns := neq_state (r.1.R 0) (r.1.R 1) (r.1.R 2) (r.1.R 3) (r.1.R 4) (r.1.R 5) (r.1.R 6) (r.1.R 7) r.1.pc r.1.f
        have nt := neq_stop r.1.k r.1.x
        go_wp2_with fail
        go_roundg (N - (j + 1))
        case measure => have := HG.out; omega
        case rel =>
          refine ⟨j + 1, left, left - r.2, r.1.M, rfl, by omega, by simp, rfl, rfl, hv0, hv1, by omega, by omega, ⟨C1.out, R1.out, HNE.out, OKR.out.M⟩, ?_⟩
          exact HBw.out.trans (U1.out.below HBw.out.size (fun k hk hp => by have := GA.out k hp; omega))
      · go_upto_region 14 with fail
        clear b0 b1 b2 b3 b4 b5 b6 b7 b8 b9 ka0 ka1 kb0 kb1 ns nt
        have hv0 : -9223372036854775808 ≤ n' := by omega
        have hv1 : n' < 9223372036854775808 := by omega
        have hv2 : n' ≤ left := by omega
        obtain ⟨r, hr⟩ : ∃ r, runO (n').toNat oo.M oo.R oo.pc (oo.f % 16) = r := ⟨_, rfl⟩
        have hle : r.2 ≤ (n').toNat := hr ▸ runO_le _ _ _ _ _
        have hle1 : (r.2 : Int) ≤ left := by omega
        have hle2 : (0 : Int) ≤ (r.2 : Int) := by omega
        have OKR := Lib.hid (show OOk r.1 from hr ▸ runO_ok _ _ _ _ _ OKO.out.M OKO.out.R OKO.out.p (by have := OKO.out.f; omega))
        have CR := runv_any p oo.M oo.R oo.pc oo.f n' W8 C8.out OKO.out.M OKO.out.R OKO.out.p.1 OKO.out.p.2 OKO.out.f.1 (by have := OKO.out.f; omega) hv0 hv1
        have CRR := fun w h => rrunv_any P oo.M oo.R oo.pc oo.f n' w h OKO.out.M OKO.out.R OKO.out.p.1 OKO.out.p.2 OKO.out.f.1 (by have := OKO.out.f; omega) hv0 hv1
        rw [hr] at CR CRR
        unfold runV stV at CR CRR
        have CR := Lib.hid CR
        have CRR := Lib.hid CRR
        clear hr hle
        go_wp2_with fail
        refine CR.out.mono ?_
        rintro e w9 ⟨rfl, c9, u9⟩
        clear a0 a1 a2 a3 a4 a5 a6 a7 a8 a9
        have hp1 : ¬ w5.heap.size + 1 = p := by omega
        have hp2 : ¬ w7.heap.size = p := by omega
        have hp3 : ¬ w7.heap.size + 1 = p := by omega
        have TB9 := Lib.hid (TB8.out.upto u9 hp2)
        have KA9 := Lib.hid (KA8.out.upto u9 hp1)
        have KB9 := Lib.hid (KB8.out.upto u9 hp3)
        have R9 := Lib.hid (R8.out.upto u9 (fun k hk e => HNE.out (e ▸ hk)))
        have U9 := Lib.hid (U8.out.trans (u9.mono (T := PS p P) fun _ _ h => .inl h))
        have C9 := Lib.hid c9
        clear c9 u9 CR C8 R8 U8 TB8 KA8 KB8 TA8
        have ka0 := KA9.out.c0
        have ka1 := KA9.out.c1
        have kz0 := KA9.out.z 0
        have kz1 := KA9.out.z 1
        have lk9 := KA9.out.l
        go_upto_region 15 with fail
        have l9 := KB9.out.l
        have vs := ((Upto.refl (fun i => i = w5.heap.size + 1) w9).setCell (q := ⟨w5.heap.size + 1, 0, none⟩) (.inl rfl) (.int .i64 r.1.k)).setCell (q := ⟨w5.heap.size + 1, 1, none⟩) (.inl rfl) (.int .u32 r.1.x)
        have npk : ¬ P.has (w5.heap.size + 1) := fun hp => NP.out _ (by omega) (.inr hp)
        have KA0 := KA9.out.set r.1.k r.1.x
        have TB0 := TB9.out.upto vs (by omega)
        have KB0 := KB9.out.upto vs (by omega)
        have C0 := C9.out.upto vs (by omega)
        have R0 := R9.out.upto vs (fun k hk e => npk (e ▸ hk))
        have U0 := (U9.out.setCell (q := ⟨w5.heap.size + 1, 0, none⟩) (.inr (by show wr.heap.size ≤ w5.heap.size + 1; omega)) (.int .i64 r.1.k)).setCell (q := ⟨w5.heap.size + 1, 1, none⟩) (.inr (by show wr.heap.size ≤ w5.heap.size + 1; omega)) (.int .u32 r.1.x)
        have hsz : ((w9.setCell ⟨w5.heap.size + 1, 0, none⟩ (.int .i64 r.1.k)).setCell ⟨w5.heap.size + 1, 1, none⟩ (.int .u32 r.1.x)).heap.size = w9.heap.size := by simp
        generalize (w9.setCell ⟨w5.heap.size + 1, 0, none⟩ (.int .i64 r.1.k)).setCell ⟨w5.heap.size + 1, 1, none⟩ (.int .u32 r.1.x) = Wa at vs KA0 TB0 KB0 C0 R0 U0 hsz ⊢
        have tx := SB.new Wa r.1.R r.1.pc r.1.f 72
        have un := (Upto.refl (fun _ => False) Wa).alloc (.cells (stL r.1.R r.1.pc r.1.f) 72)
        rw [hsz] at tx
        have KA1 := KA0.upto un id
        have TB1 := TB0.upto un id
        have KB1 := KB0.upto un id
        have C1 := C0.upto un id
        have R1 := R0.upto un (fun _ _ => id)
        have U1 := U0.trans (un.mono (T := PS p P) fun _ _ h => h.elim)
        clear KA0 TB0 KB0 C0 R0 U0 vs hsz
        unfold stL at tx un KA1 TB1 KB1 C1 R1 U1
        generalize Wa.alloc (.cells #[.int .u32 (r.1.R 0), .int .u32 (r.1.R 1), .int .u32 (r.1.R 2), .int .u32 (r.1.R 3), .int .u32 (r.1.R 4), .int .u32 (r.1.R 5), .int .u32 (r.1.R 6), .int .u32 (r.1.R 7), .int .u32 r.1.pc, .int .u32 r.1.f] 72) = W10 at tx un KA1 TB1 KB1 C1 R1 U1 ⊢
        have TX := Lib.hid tx
        have KA1 := Lib.hid KA1
        have TB1 := Lib.hid TB1
        have KB1 := Lib.hid KB1
        have C1 := Lib.hid C1
        have R1 := Lib.hid R1
        have U1 := Lib.hid U1
        clear tx un npk
        clear KA9 KB9 TB9 R9 U9 C9 ka0 ka1 kz0 kz1 lk9
        obtain ⟨a0, a1, a2, a3, a4, a5, a6, a7, a8, a9⟩ := TB1.out.all
        go_wp2_with fail
        refine (CRR.out _ R1.out).mono ?_
        rintro e w11 ⟨rfl, r11, u11⟩
        clear a0 a1 a2 a3 a4 a5 a6 a7 a8 a9
        have np2 : ∀ k, wr.heap.size ≤ k → ¬ P.has k := fun k hk hp => NP.out k hk (.inr hp)
        have lx := TX.out.l
        have TX3 := Lib.hid (TX.out.upto u11 (np2 _ (by omega)))
        have KA3 := Lib.hid (KA1.out.upto u11 (np2 _ (by omega)))
        have KB3 := Lib.hid (KB1.out.upto u11 (np2 _ (by omega)))
        have C3 := Lib.hid (C1.out.upto u11 (fun hp => HNE.out hp))
        have U3 := Lib.hid (U1.out.trans (u11.mono (T := PS p P) fun _ _ h => .inr h))
        have R3 := Lib.hid r11
        clear r11 u11 CRR TX KA1 KB1 C1 U1 R1 TB1
        have kb0 := KB3.out.c0
        have kb1 := KB3.out.c1
        have kz0 := KB3.out.z 0
        have kz1 := KB3.out.z 1
        have lk3 := KB3.out.l
        have lx3 := TX3.out.l
        go_upto_region 16 with fail
        have vs := ((Upto.refl (fun i => i = w7.heap.size + 1) w11).setCell (q := ⟨w7.heap.size + 1, 0, none⟩) (.inl rfl) (.int .i64 r.1.k)).setCell (q := ⟨w7.heap.size + 1, 1, none⟩) (.inl rfl) (.int .u32 r.1.x)
        have npk : ¬ P.has (w7.heap.size + 1) := fun hp => NP.out _ (by omega) (.inr hp)
        have KB0 := KB3.out.set r.1.k r.1.x
        have TX0 := TX3.out.upto vs (by omega)
        have KA0 := KA3.out.upto vs (by omega)
        have C0 := C3.out.upto vs (by omega)
        have R0 := R3.out.upto vs (fun k hk e => npk (e ▸ hk))
        have U0 := (U3.out.setCell (q := ⟨w7.heap.size + 1, 0, none⟩) (.inr (by show wr.heap.size ≤ w7.heap.size + 1; omega)) (.int .i64 r.1.k)).setCell (q := ⟨w7.heap.size + 1, 1, none⟩) (.inr (by show wr.heap.size ≤ w7.heap.size + 1; omega)) (.int .u32 r.1.x)
        have hsz : ((w11.setCell ⟨w7.heap.size + 1, 0, none⟩ (.int .i64 r.1.k)).setCell ⟨w7.heap.size + 1, 1, none⟩ (.int .u32 r.1.x)).heap.size = w11.heap.size := by simp
        generalize (w11.setCell ⟨w7.heap.size + 1, 0, none⟩ (.int .i64 r.1.k)).setCell ⟨w7.heap.size + 1, 1, none⟩ (.int .u32 r.1.x) = Wb at vs KB0 TX0 KA0 C0 R0 U0 hsz ⊢
        have tx := SB.new Wb r.1.R r.1.pc r.1.f 72
        have un := (Upto.refl (fun _ => False) Wb).alloc (.cells (stL r.1.R r.1.pc r.1.f) 72)
        rw [hsz] at tx
        have KB1 := KB0.upto un id
        have TX1 := TX0.upto un id
        have KA1 := KA0.upto un id
        have C1 := C0.upto un id
        have R1 := R0.upto un (fun _ _ => id)
        have U1 := U0.trans (un.mono (T := PS p P) fun _ _ h => h.elim)
        clear KB0 TX0 KA0 C0 R0 U0 vs hsz
        unfold stL at tx un KB1 TX1 KA1 C1 R1 U1
        generalize Wb.alloc (.cells #[.int .u32 (r.1.R 0), .int .u32 (r.1.R 1), .int .u32 (r.1.R 2), .int .u32 (r.1.R 3), .int .u32 (r.1.R 4), .int .u32 (r.1.R 5), .int .u32 (r.1.R 6), .int .u32 (r.1.R 7), .int .u32 r.1.pc, .int .u32 r.1.f] 72) = W12 at tx un KB1 TX1 KA1 C1 R1 U1 ⊢
        have TY := Lib.hid tx
        have KB1 := Lib.hid KB1
        have TX1 := Lib.hid TX1
        have KA1 := Lib.hid KA1
        have C1 := Lib.hid C1
        have R1 := Lib.hid R1
        have U1 := Lib.hid U1
        clear tx un npk
        clear KA3 KB3 TX3 R3 U3 C3 kb0 kb1 kz0 kz1
        obtain ⟨a0, a1, a2, a3, a4, a5, a6, a7, a8, a9⟩ := TX1.out.all
        obtain ⟨b0, b1, b2, b3, b4, b5, b6, b7, b8, b9⟩ := TY.out.all
        have ka0 := KA1.out.c0
        have ka1 := KA1.out.c1
        have kb0 := KB1.out.c0
        have kb1 := KB1.out.c1
        have ns := neq_state (r.1.R 0) (r.1.R 1) (r.1.R 2) (r.1.R 3) (r.1.R 4) (r.1.R 5) (r.1.R 6) (r.1.R 7) r.1.pc r.1.f
        have nt := neq_stop r.1.k r.1.x
        go_wp2_with fail
        go_roundg (N - (j + 1))
        case measure => have := HG.out; omega
        case rel =>
          refine ⟨j + 1, n', left - r.2, r.1.M, rfl, by omega, by simp, rfl, rfl, hv0, hv1, by omega, by omega, ⟨C1.out, R1.out, HNE.out, OKR.out.M⟩, ?_⟩
          exact HBw.out.trans (U1.out.below HBw.out.size (fun k hk hp => by have := GA.out k hp; omega))
    · obtain rfl : N = j := by omega
      have WC := Lib.hid (whole_any p P M wr H1.out)
      go_wp2_with fail
      refine WC.out.mono ?_
      rintro e w5 ⟨rfl, b5⟩
      go_wp2_with fail
      go_ret
      exact ⟨rfl, chain HBw.out b5⟩
end Go.Proofs.Ytcjcmnnhmajocab.St
