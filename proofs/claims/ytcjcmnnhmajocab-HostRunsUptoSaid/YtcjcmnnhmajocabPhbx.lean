/- crossgrainlaw3.HostRuns: the walk. -/
import Derived.LoopN
import Derived.Outline
import Derived.Deep.LoopGhost
import Derived.Test.YtcjcmnnhmajocabPhbj
import Derived.Test.YtcjcmnnhmajocabPhbs
import Derived.Test.YtcjcmnnhmajocabPhbt
import Derived.Test.YtcjcmnnhmajocabPhbu
import Derived.Test.YtcjcmnnhmajocabPhbv
set_option linter.unusedVariables false
set_option linter.unusedSimpArgs false
set_option maxRecDepth 100000
set_option maxHeartbeats 16000000
namespace Go.Proofs.Ytcjcmnnhmajocab.Hr
open Go.RowKit Kt Me Fl Ev Ho
theorem hostruns_walk (us : List Int) (ao : Option Addr) (cap : Nat) (at_ : Int) (cx : Nat → Int) (ps : List Prt) (pao : Option Addr) (pcap : Nat) (ks : List Int) (kao : Option Addr) (kcap : Nat) (left : Int) (tab : List (Int × Int)) (tao : Option Addr) (tcap : Nat)
  (w : World) (hsl : Sl us ao cap w) (htb : Tb tab tao tcap w) (hus : UsOk us) (hl : us.length ≤ 1048576) (htl : tab.length ≤ 1048576) (hC : ∀ j, 0 ≤ cx j ∧ cx j < 4294967296) (hps : Prts ps pao pcap w) (hks : Nums ks kao kcap w) :
  Calls Try.prog 9 #[.slice ao us.length cap, .int .i64 at_, .agg #[.int .u32 (cx 0), .int .u32 (cx 1), .int .u32 (cx 2), .int .u32 (cx 3), .int .u32 (cx 4), .int .u32 (cx 5), .int .u32 (cx 6), .int .u32 (cx 7), .int .u32 (cx 8), .int .u32 (cx 9), .int .u32 (cx 10), .int .u32 (cx 11)], .slice pao ps.length pcap, .slice kao ks.length kcap, .int .i64 left, .slice tao tab.length tcap] w fun e w' => e = .returned (.bool true) ∧ Below w.heap.size w w' := by
 have u0 := (Upto.refl (fun _ => False) w).alloc (.cells #[.int .u32 (cx 0), .int .u32 (cx 1), .int .u32 (cx 2), .int .u32 (cx 3), .int .u32 (cx 4), .int .u32 (cx 5), .int .u32 (cx 6), .int .u32 (cx 7), .int .u32 (cx 8), .int .u32 (cx 9), .int .u32 (cx 10), .int .u32 (cx 11)] 37)
 have bw := u0.below (Nat.le_refl _) (fun _ _ => id)
 have BO := κ (both_any ps pao pcap ks kao kcap _ (hps.keep bw) (by
  refine ⟨hks.1, hks.2.1, fun h0 => ?_⟩
  obtain ⟨b, off, e, hb, hc⟩ := hks.2.2 h0
  exact ⟨b, off, e, Nat.lt_of_lt_of_le hb bw.size, fun j hj => (bw.cell (p := ⟨b, off + j, none⟩) hb).trans (hc j hj)⟩))
 have hy := CB.new w cx 37
 have hs0 := hsl.keep bw
 have ht0 := htb.upto u0 (fun _ _ _ => id)
 have HWB := κ (show ∀ g, ao = some g → 0 < us.length → g.block < w.heap.size from fun g hg h0 => by obtain ⟨b, off, e, hb, _⟩ := hsl.2.2 h0; rw [hg] at e; cases e; exact hb)
 have HTBK := κ (show ∀ g, tao = some g → 0 < tab.length → g.block < w.heap.size from fun g hg h0 => by obtain ⟨b, off, e, hb, _⟩ := htb.2.2 h0; rw [hg] at e; cases e; exact hb)
 have US := κ hus
 have HL := κ hl
 have HTL := κ htl
 have HC0 := κ hC
 have BW := κ bw
 clear hsl htb hus hl htl hC hps hks u0 bw
 unfold ctL at hy hs0
 generalize markd (layd ps) ks = M at BO
 generalize ps.length = pl at BO ⊢
 generalize ks.length = kl at BO ⊢
 go_enter Try.func9, Try.ntmps9
 go_upto_region 1 with fail
 generalize hWA : w.alloc (.cells #[.int .u32 (cx 0), .int .u32 (cx 1), .int .u32 (cx 2), .int .u32 (cx 3), .int .u32 (cx 4), .int .u32 (cx 5), .int .u32 (cx 6), .int .u32 (cx 7), .int .u32 (cx 8), .int .u32 (cx 9), .int .u32 (cx 10), .int .u32 (cx 11)] 37) = WA at BO BW hy hs0 ht0 ⊢
 have hA : w.heap.size + 1 = WA.heap.size := by rw [← hWA]; simp
 clear hWA
 have HY := κ hy
 have HS := κ hs0
 have HT := κ ht0
 clear hy hs0 ht0
 go_upto_region 4 with (go_at_call 14; (with_reducible refine BO.out.mono ?_); rintro e w1 ⟨p, P, rfl, hP, hb, hGA⟩)
 have u1 := Upto.of_below (S := fun _ => False) hb
 have HY := κ (HY.out.upto u1 id)
 have HS := κ (HS.out.keep hb)
 have HT := κ (HT.out.upto u1 (fun _ _ _ => id))
 have HP := κ hP
 have GA := κ (show ∀ k, PS p P k → w.heap.size + 1 ≤ k from fun k hk => Nat.le_trans (Nat.le_of_eq hA) (hGA k hk))
 have BW := κ (BW.out.trans (hb.mono (by omega)))
 have hA1 : w.heap.size + 1 ≤ w1.heap.size := by have := hb.size; omega
 clear hP hb hGA u1 BO hA
 have CW := κ (words_own us ao cap w1 HS.out (by have := HL.out; omega))
 go_upto_region 5 with (go_at_call 39; (with_reducible refine CW.out.mono ?_); rintro e w2 ⟨ao1, c1, rfl, hf1, hs1, hb1⟩)
 have u1 := Upto.of_below (S := fun _ => False) hb1
 have LP := κ (show ∀ k, PS p P k → k < w1.heap.size from fun k hk => HP.out.lt k hk)
 have HF1 := κ hf1
 have HY := κ (HY.out.upto u1 id)
 have HS := κ (HS.out.keep hb1)
 have HT := κ (HT.out.upto u1 (fun _ _ _ => id))
 have HP := κ (HP.out.upto u1 (fun _ _ => id))
 have HS1 := κ hs1
 have BW := κ (BW.out.trans (hb1.mono (by have := BW.out.size; omega)))
 have hA2 : w1.heap.size ≤ w2.heap.size := hb1.size
 clear hf1 hs1 hb1 u1 CW
 obtain ⟨i0, z0, hi0, hz0, hsz0, hb0, hzc⟩ := entry_info
 have HI := κ hi0
 have HZ := κ hz0
 have HSZ := κ hsz0
 have HB := κ hb0
 have HZC := κ hzc
 clear hi0 hz0 hsz0 hb0 hzc
 by_cases h0 : tab.length = 0
 case' pos =>
  have hp : ∀ w : World, Sem.run Try.prog (pure #[] : Sem (Array Value)) w = .ok #[] w := fun _ => rfl
  have E2 := κ (show ∀ a c, Value.slice a 0 c = Value.slice a tab.length c from fun a c => by rw [h0])
  have Q2 : ∃ v tao2 c2, Value.slice none tab.length 0 = v ∧ v = .slice tao2 tab.length c2 ∧ Tb tab tao2 c2 w2 ∧ ∀ g, tao2 = some g → w1.heap.size ≤ g.block := ⟨_, none, 0, rfl, rfl, ⟨by omega, by unfold maxLen; omega, fun h => absurd h (by omega)⟩, fun g hg => nomatch hg⟩
  obtain ⟨S2, tao2, c2, hS2, e2, hT2, hF2⟩ := Q2
  have Q2 : ∃ tao2 c2, S2 = .slice tao2 tab.length c2 ∧ Tb tab tao2 c2 w2 ∧ ∀ g, tao2 = some g → w1.heap.size ≤ g.block := ⟨tao2, c2, e2, hT2, hF2⟩
  clear e2 hT2 hF2
  rw [h0]
  rcases tao with _ | ad
 case' pos.none =>
  go_upto_region 6 with fail
  rw [E2.out none 0, E2.out _ tcap, hS2]
  have QT := (⟨_, tcap, rfl, HT.out, HTBK.out⟩ : ∃ (tao : Option Addr) (tcp : Nat), _ = Value.slice tao tab.length tcp ∧ Tb tab tao tcp w2 ∧ ∀ g, tao = some g → 0 < tab.length → g.block < w.heap.size)
  generalize Value.slice _ tab.length tcap = SV at QT ⊢
  have hA13 := hA2
  clear h0 hp E2 HI HZ HSZ HB HZC HT HTBK hS2 hA2
  obtain ⟨w3, rfl⟩ : ∃ v, v = w2 := ⟨_, rfl⟩
 case' pos.some =>
  go_upto_region 6 with fail
  rw [E2.out none 0, E2.out _ tcap, hS2]
  have QT := (⟨_, tcap, rfl, HT.out, HTBK.out⟩ : ∃ (tao : Option Addr) (tcp : Nat), _ = Value.slice tao tab.length tcp ∧ Tb tab tao tcp w2 ∧ ∀ g, tao = some g → 0 < tab.length → g.block < w.heap.size)
  generalize Value.slice _ tab.length tcap = SV at QT ⊢
  have hA13 := hA2
  clear h0 hp E2 HI HZ HSZ HB HZC HT HTBK hS2 hA2
  obtain ⟨w3, rfl⟩ : ∃ v, v = w2 := ⟨_, rfl⟩
 case' neg =>
  have h0' : 0 < tab.length := by omega
  obtain ⟨tg, toff, hte, htg, htc⟩ := HT.out.flat h0'
  have HTC := κ htc
  obtain rfl := hte
  clear htc
  go_upto_region 6 with (at_builtin; refine wpList_append_grows _ rfl (.const (.slice none 0 0)) (.tmp 36) 89 rfl 93 i0 z0 2 16 Try.underlying89 HI.out HZ.out HSZ.out HB.out HZC.out (by decide) none 0 0 [] rfl (fun _ => ⟨rfl, rfl⟩) rfl (fun b hb => nomatch hb) ⟨tg, toff, none⟩ tab.length tcap (flatE tab) rfl ?c0 ?c1 ?c2 ?c3 ?c4 ?c5 ?grow)
  case c0 => exact flatE_len tab
  case c1 => exact fun j u hj => HTC.out j u hj
  case c2 => exact flatE_one tab
  case c3 => omega
  case c4 => have := HTL.out; unfold maxLen; omega
  case c5 => have := HTL.out; omega
  case' grow =>
   intro v' w3 hown hgrow
   have hbel := (Below.refl _ _).grown hgrow (Nat.le_refl _) (fun k h => by cases h)
   have hown : w3.ownsRow w2.heap.size 93 2 v' tab.length (flatE tab) := by simpa using hown
   obtain ⟨tg2, c2, rfl, hg2, hT2⟩ := Tb.of_own hown h0'
   have u1 := Upto.of_below (S := fun _ => False) hbel
   have QT := (⟨_, tcap, rfl, HT.out.upto u1 (fun _ _ _ => id), HTBK.out⟩ : ∃ (tao : Option Addr) (tcp : Nat), _ = Value.slice tao tab.length tcp ∧ Tb tab tao tcp w3 ∧ ∀ g, tao = some g → 0 < tab.length → g.block < w.heap.size)
   generalize Value.slice _ tab.length tcap = SV at QT ⊢
   have Q2 := (⟨_, c2, rfl, hT2, fun g hg => by cases hg; exact Nat.le_trans hA2 hg2⟩ : ∃ (tao2 : Option Addr) (c2' : Nat), _ = Value.slice tao2 tab.length c2' ∧ Tb tab tao2 c2' w3 ∧ ∀ g, tao2 = some g → w1.heap.size ≤ g.block)
   generalize Value.slice (some ⟨tg2, 0, none⟩) tab.length c2 = S2 at Q2 ⊢
   have HY := κ (HY.out.upto u1 id)
   have HS := κ (HS.out.keep hbel)
   have HP := κ (HP.out.upto u1 (fun _ _ => id))
   have HS1 := κ (HS1.out.keep hbel)
   have BW := κ (BW.out.trans (hbel.mono (by have := BW.out.size; omega)))
   have hA13 : w1.heap.size ≤ w3.heap.size := Nat.le_trans hA2 hbel.size
   clear hown hgrow hbel hT2 u1 hg2 HTC HI HZ HSZ HB HZC HT HTBK h0 h0' htg hA2
 all_goals
  obtain ⟨tao, tcap, rfl, hT, hTB⟩ := QT
  obtain ⟨tao2, c2, rfl, hT2, hF2⟩ := Q2
  have HT := κ hT
  have HTBK := κ hTB
  have HT2 := κ hT2
  have HF2 := κ hF2
  clear hT hTB hT2 hF2
  obtain ⟨G, RV, hG, hrn, hrs, hMR⟩ := both_run us US.out HL.out left tab ao ao1 tao tao2 cap c1 tcap c2 p P.q at_ cx M HC0.out HP.out.ok
  have n0 : ¬ PS p P w.heap.size := fun h => by have := GA.out _ h; omega
  have SLn : ∀ g, ao = some g → 0 < us.length → ¬ PS p P g.block := fun g hg h0 e => by have := HWB.out g hg h0; have := GA.out _ e; omega
  have TBn : ∀ g, tao = some g → 0 < tab.length → ¬ PS p P g.block := fun g hg h0 e => by have := HTBK.out g hg h0; have := GA.out _ e; omega
  have SL1n : ∀ g, ao1 = some g → 0 < us.length → ¬ PS p P g.block := fun g hg h0 e => by have := HF1.out g hg; have := LP.out _ e; omega
  have TB1n : ∀ g, tao2 = some g → 0 < tab.length → ¬ PS p P g.block := fun g hg h0 e => by have := HF2.out g hg; have := LP.out _ e; omega
  have CE := run_any ⟨us, ao, cap, p, left, tab, tao, tcap⟩ at_ cx M G RV w3 HS.out HT.out HP.out.hc US.out HL.out HTL.out HC0.out HP.out.ok (fun g hg h0 e => SLn g hg h0 (.inl e)) (fun g hg h0 e => TBn g hg h0 (.inl e)) hG hrn
  have CR := fun w hsl htb hm => rrun_any ⟨us, ao1, c1, P.q, left, tab, tao2, c2⟩ P at_ cx M G RV w hsl htb hm rfl US.out HL.out HTL.out HC0.out HP.out.ok (fun g hg h0 e => SL1n g hg h0 (.inr e)) (fun g hg h0 e => TB1n g hg h0 (.inr e)) hG hrs
  unfold ctL at CE CR
  dsimp only at CE CR
  have CE := κ CE
  have CR := κ CR
  have MR0 := κ hMR
  have N0 := κ n0
  have SLn := κ SLn
  have TBn := κ TBn
  have SL1n := κ SL1n
  have TB1n := κ TB1n
  clear hrn hrs hMR n0 hG
  obtain ⟨a0, a1, a2, a3, a4, a5, a6, a7, a8, a9, a10, a11⟩ := HY.out.all
  have yl := HY.out.l
  go_upto_region 7 with (go_at_call 40; (with_reducible refine CE.out.mono ?_); rintro e w4 ⟨rfl, m4, u4⟩)
  clear a0 a1 a2 a3 a4 a5 a6 a7 a8 a9 a10 a11 yl CE
  have HNE := HP.out.ne
  have uP := u4.mono (T := PS p P) fun _ _ h => .inl h
  have hz4 := u4.size
  have hn4 : ¬ PS p P w4.heap.size := fun e => by have := LP.out _ e; omega
  have hn5 : ¬ PS p P (w4.heap.size + 1) := fun e => by have := LP.out _ e; omega
  have cb_4 := (CB.new w4 RV.c 37).upto ((Upto.refl (fun _ => False) _).alloc (.cells #[.int .i64 RV.l.k, .int .i64 RV.l.sk, .int .u32 RV.l.sx, .int .u32 RV.l.pc, .int .i64 RV.l.n, .int .i64 RV.at_] 52)) id
  unfold ctL at cb_4
  have lb_4 := LB.new (w4.alloc (.cells #[.int .u32 (RV.c 0), .int .u32 (RV.c 1), .int .u32 (RV.c 2), .int .u32 (RV.c 3), .int .u32 (RV.c 4), .int .u32 (RV.c 5), .int .u32 (RV.c 6), .int .u32 (RV.c 7), .int .u32 (RV.c 8), .int .u32 (RV.c 9), .int .u32 (RV.c 10), .int .u32 (RV.c 11)] 37)) RV.l.k RV.l.sk RV.l.sx RV.l.pc RV.l.n RV.at_ 52
  rw [show (w4.alloc (.cells #[.int .u32 (RV.c 0), .int .u32 (RV.c 1), .int .u32 (RV.c 2), .int .u32 (RV.c 3), .int .u32 (RV.c 4), .int .u32 (RV.c 5), .int .u32 (RV.c 6), .int .u32 (RV.c 7), .int .u32 (RV.c 8), .int .u32 (RV.c 9), .int .u32 (RV.c 10), .int .u32 (RV.c 11)] 37)).heap.size = w4.heap.size + 1 by simp] at lb_4
  have un := ((Upto.refl (fun _ => False) w4).alloc (.cells #[.int .u32 (RV.c 0), .int .u32 (RV.c 1), .int .u32 (RV.c 2), .int .u32 (RV.c 3), .int .u32 (RV.c 4), .int .u32 (RV.c 5), .int .u32 (RV.c 6), .int .u32 (RV.c 7), .int .u32 (RV.c 8), .int .u32 (RV.c 9), .int .u32 (RV.c 10), .int .u32 (RV.c 11)] 37)).alloc (.cells #[.int .i64 RV.l.k, .int .i64 RV.l.sk, .int .u32 RV.l.sx, .int .u32 RV.l.pc, .int .i64 RV.l.n, .int .i64 RV.at_] 52)
  have HY := κ ((HY.out.upto uP N0.out).upto un id)
  have HS := κ (Sl.upto (Sl.upto HS.out uP SLn.out) un (fun _ _ _ => id))
  have HT := κ (Tb.upto (Tb.upto HT.out uP TBn.out) un (fun _ _ _ => id))
  have HS1 := κ (Sl.upto (Sl.upto HS1.out uP SL1n.out) un (fun _ _ _ => id))
  have HT2 := κ (Tb.upto (Tb.upto HT2.out uP TB1n.out) un (fun _ _ _ => id))
  have RM4 := κ ((HP.out.rm.upto (S := fun i => i = p) u4 (fun k hk e => HNE (e ▸ hk))).upto un (fun _ _ => id))
  have HC4 := κ (HC.upto (S := fun _ => False) m4 un id)
  have BW := κ ((BW.out.trans (uP.below (B := w.heap.size) BW.out.size (fun k hk hp => by have := GA.out k hp; omega))).trans ((un.below (Nat.le_refl _) (fun _ _ => id)).mono (by have := BW.out.size; omega)))
  have hzz : w4.heap.size + 1 + 1 = ((w4.alloc (.cells #[.int .u32 (RV.c 0), .int .u32 (RV.c 1), .int .u32 (RV.c 2), .int .u32 (RV.c 3), .int .u32 (RV.c 4), .int .u32 (RV.c 5), .int .u32 (RV.c 6), .int .u32 (RV.c 7), .int .u32 (RV.c 8), .int .u32 (RV.c 9), .int .u32 (RV.c 10), .int .u32 (RV.c 11)] 37)).alloc (.cells #[.int .i64 RV.l.k, .int .i64 RV.l.sk, .int .u32 RV.l.sx, .int .u32 RV.l.pc, .int .i64 RV.l.n, .int .i64 RV.at_] 52)).heap.size := by simp
  have HNE := κ HNE
  clear HP m4 u4 uP un
  generalize (w4.alloc (.cells #[.int .u32 (RV.c 0), .int .u32 (RV.c 1), .int .u32 (RV.c 2), .int .u32 (RV.c 3), .int .u32 (RV.c 4), .int .u32 (RV.c 5), .int .u32 (RV.c 6), .int .u32 (RV.c 7), .int .u32 (RV.c 8), .int .u32 (RV.c 9), .int .u32 (RV.c 10), .int .u32 (RV.c 11)] 37)).alloc (.cells #[.int .i64 RV.l.k, .int .i64 RV.l.sk, .int .u32 RV.l.sx, .int .u32 RV.l.pc, .int .i64 RV.l.n, .int .i64 RV.at_] 52) = W5 at cb_4 lb_4 HY HS HT HS1 HT2 RM4 HC4 BW hzz ⊢
  generalize hb4 : w4.heap.size = b4 at cb_4 lb_4 hz4 hn4 hn5 hzz ⊢
  clear hb4
  have CB4 := κ cb_4
  have LB4 := κ lb_4
  have N4 := κ (And.intro hn4 hn5)
  clear cb_4 lb_4 hn4 hn5
  obtain ⟨a0, a1, a2, a3, a4, a5, a6, a7, a8, a9, a10, a11⟩ := HY.out.all
  have yl := HY.out.l
  go_upto_region 8 with (go_at_call 17; (with_reducible refine (CR.out _ HS1.out HT2.out RM4.out).mono ?_); rintro e w6 ⟨rfl, m6, u6⟩)
  clear a0 a1 a2 a3 a4 a5 a6 a7 a8 a9 a10 a11 yl CR HY
  have uP := u6.mono (T := PS p P) fun _ _ h => .inr h
  have hz6 := u6.size
  have cb_6 := (CB.new w6 RV.c 37).upto ((Upto.refl (fun _ => False) _).alloc (.cells #[.int .i64 RV.l.k, .int .i64 RV.l.sk, .int .u32 RV.l.sx, .int .u32 RV.l.pc, .int .i64 RV.l.n, .int .i64 RV.at_] 52)) id
  unfold ctL at cb_6
  have lb_6 := LB.new (w6.alloc (.cells #[.int .u32 (RV.c 0), .int .u32 (RV.c 1), .int .u32 (RV.c 2), .int .u32 (RV.c 3), .int .u32 (RV.c 4), .int .u32 (RV.c 5), .int .u32 (RV.c 6), .int .u32 (RV.c 7), .int .u32 (RV.c 8), .int .u32 (RV.c 9), .int .u32 (RV.c 10), .int .u32 (RV.c 11)] 37)) RV.l.k RV.l.sk RV.l.sx RV.l.pc RV.l.n RV.at_ 52
  rw [show (w6.alloc (.cells #[.int .u32 (RV.c 0), .int .u32 (RV.c 1), .int .u32 (RV.c 2), .int .u32 (RV.c 3), .int .u32 (RV.c 4), .int .u32 (RV.c 5), .int .u32 (RV.c 6), .int .u32 (RV.c 7), .int .u32 (RV.c 8), .int .u32 (RV.c 9), .int .u32 (RV.c 10), .int .u32 (RV.c 11)] 37)).heap.size = w6.heap.size + 1 by simp] at lb_6
  have un := ((Upto.refl (fun _ => False) w6).alloc (.cells #[.int .u32 (RV.c 0), .int .u32 (RV.c 1), .int .u32 (RV.c 2), .int .u32 (RV.c 3), .int .u32 (RV.c 4), .int .u32 (RV.c 5), .int .u32 (RV.c 6), .int .u32 (RV.c 7), .int .u32 (RV.c 8), .int .u32 (RV.c 9), .int .u32 (RV.c 10), .int .u32 (RV.c 11)] 37)).alloc (.cells #[.int .i64 RV.l.k, .int .i64 RV.l.sk, .int .u32 RV.l.sx, .int .u32 RV.l.pc, .int .i64 RV.l.n, .int .i64 RV.at_] 52)
  have CB4 := κ ((CB4.out.upto uP N4.out.1).upto un id)
  have LB4 := κ ((LB4.out.upto uP N4.out.2).upto un id)
  have HS := κ (Sl.upto (Sl.upto HS.out uP SLn.out) un (fun _ _ _ => id))
  have HT := κ (Tb.upto (Tb.upto HT.out uP TBn.out) un (fun _ _ _ => id))
  have HS1 := κ (Sl.upto (Sl.upto HS1.out uP SL1n.out) un (fun _ _ _ => id))
  have HT2 := κ (Tb.upto (Tb.upto HT2.out uP TB1n.out) un (fun _ _ _ => id))
  have HP := κ (show Pair p P RV.M _ from ⟨HC.upto (S := fun _ => False) (HC.upto (S := P.has) HC4.out u6 HNE.out) un id, m6.upto un (fun _ _ => id), HNE.out, MR0.out⟩)
  have BW := κ ((BW.out.trans (uP.below (B := w.heap.size) BW.out.size (fun k hk hp => by have := GA.out k hp; omega))).trans ((un.below (Nat.le_refl _) (fun _ _ => id)).mono (by have := BW.out.size; omega)))
  clear HC4 RM4 m6 u6 uP un SLn TBn SL1n TB1n N0 N4 MR0 HF1 HF2 HWB HTBK
  generalize (w6.alloc (.cells #[.int .u32 (RV.c 0), .int .u32 (RV.c 1), .int .u32 (RV.c 2), .int .u32 (RV.c 3), .int .u32 (RV.c 4), .int .u32 (RV.c 5), .int .u32 (RV.c 6), .int .u32 (RV.c 7), .int .u32 (RV.c 8), .int .u32 (RV.c 9), .int .u32 (RV.c 10), .int .u32 (RV.c 11)] 37)).alloc (.cells #[.int .i64 RV.l.k, .int .i64 RV.l.sk, .int .u32 RV.l.sx, .int .u32 RV.l.pc, .int .i64 RV.l.n, .int .i64 RV.at_] 52) = W7 at cb_6 lb_6 CB4 LB4 HS HT HS1 HT2 HP BW ⊢
  generalize w6.heap.size = b6 at cb_6 lb_6 hz6 ⊢
  have CB6 := κ cb_6
  have LB6 := κ lb_6
  clear cb_6 lb_6
  obtain ⟨tl, htl⟩ : ∃ n, tab.length = n := ⟨_, rfl⟩
  have TLN := κ htl
  rw [htl]
  have htl0 : tl ≤ 1048576 := by rw [← htl]; exact HTL.out
  clear htl
  go_wp2_with fail
  go_loopg [60] tl (fun g i wr => ∃ j : Nat, g = tl - j ∧ j ≤ tl ∧ i = .int .i64 j ∧ Hid (Below W7.heap.size W7 wr))
  case atStart => exact ⟨0, rfl, Nat.zero_le _, rfl, Below.refl _ _⟩
  case round =>
   obtain ⟨j, hg, hj, rfl, HB⟩ := hrel
   by_cases hlt : j < tl
   ·have hlt' : (j : Int) < (tl : Int) := by omega
    have hge : (0 : Int) ≤ (j : Int) := by omega
    obtain ⟨b1, o1, hao1, hb1, hc1⟩ := HT.out.2.2 (by rw [TLN.out]; omega)
    obtain ⟨b2, o2, hao2, hb2, hc2⟩ := HT2.out.2.2 (by rw [TLN.out]; omega)
    obtain ⟨t, ht⟩ : ∃ t, tab[j]? = some t := ⟨_, List.getElem?_eq_getElem (by rw [TLN.out]; exact hlt)⟩
    have p0 := (HB.out.cell (p := ⟨b1, o1 + j * 2, none⟩) hb1).trans (hc1 j t ht).1
    have p1 := (HB.out.cell (p := ⟨b1, o1 + j * 2 + 1, none⟩) hb1).trans (hc1 j t ht).2
    have q0 := (HB.out.cell (p := ⟨b2, o2 + j * 2, none⟩) hb2).trans (hc2 j t ht).1
    have q1 := (HB.out.cell (p := ⟨b2, o2 + j * 2 + 1, none⟩) hb2).trans (hc2 j t ht).2
    have nq := neq_entry t.1 t.2
    have lc1 : tl ≤ tcap := TLN.out ▸ HT.out.1
    have lc2 := HT2.out.1
    rw [TLN.out] at lc2
    clear hc1 hc2 ht
    subst hao1
    subst hao2
    go_wp2_with fail
    go_region
    go_wp2_with fail
    go_roundg (tl - (j + 1))
    case measure => omega
    case rel => exact ⟨j + 1, rfl, by omega, by simp, HB.out.drew⟩
   ·obtain rfl : j = tl := by omega
    have ub := Upto.of_below (S := fun _ => False) HB.out
    have C4 := CB4.out.upto ub id
    have C6 := CB6.out.upto ub id
    have L4 := LB4.out.upto ub id
    have L6 := LB6.out.upto ub id
    have HPx := κ (HP.out.upto ub (fun _ _ => id))
    have S7 := κ (HS.out.keep HB.out)
    have S17 := κ (HS1.out.keep HB.out)
    have BX := κ (chain BW.out HB.out)
    have ya0 := C4.r 0 (by omega)
    have yb0 := C6.r 0 (by omega)
    have ya1 := C4.r 1 (by omega)
    have yb1 := C6.r 1 (by omega)
    have ya2 := C4.r 2 (by omega)
    have yb2 := C6.r 2 (by omega)
    have ya3 := C4.r 3 (by omega)
    have yb3 := C6.r 3 (by omega)
    have ya4 := C4.r 4 (by omega)
    have yb4 := C6.r 4 (by omega)
    have ya5 := C4.r 5 (by omega)
    have yb5 := C6.r 5 (by omega)
    have ya6 := C4.r 6 (by omega)
    have yb6 := C6.r 6 (by omega)
    have ya7 := C4.r 7 (by omega)
    have yb7 := C6.r 7 (by omega)
    have ya8 := C4.r 8 (by omega)
    have yb8 := C6.r 8 (by omega)
    have ya9 := C4.r 9 (by omega)
    have yb9 := C6.r 9 (by omega)
    have ya10 := C4.r 10 (by omega)
    have yb10 := C6.r 10 (by omega)
    have ya11 := C4.r 11 (by omega)
    have yb11 := C6.r 11 (by omega)
    have xa0 := L4.c0
    have xb0 := L6.c0
    have xa1 := L4.c1
    have xb1 := L6.c1
    have xa2 := L4.c2
    have xb2 := L6.c2
    have xa3 := L4.c3
    have xb3 := L6.c3
    have xa4 := L4.c4
    have xb4 := L6.c4
    have xa5 := L4.c5
    have xb5 := L6.c5
    have l4 := C4.l
    have l6 := C6.l
    have m4 := L4.l
    have m6 := L6.l
    have e1 := Ir.eq_context (RV.c 0) (RV.c 1) (RV.c 2) (RV.c 3) (RV.c 4) (RV.c 5) (RV.c 6) (RV.c 7) (RV.c 8) (RV.c 9) (RV.c 10) (RV.c 11)
    have e2 := eq_left RV.l.k RV.l.sk RV.l.sx RV.l.pc RV.l.n RV.at_
    have e3 : (anyT RV.M.hi == anyT RV.M.hi) = true := by simp
    clear ub C4 C6 L4 L6 CB4 CB6 LB4 LB6 HP HS HS1 HT HT2
    go_wp2_with (first | (go_at_call 41; (with_reducible refine (alike_any p P RV.M _ HPx.out).mono ?_); rintro e w8 ⟨rfl, b8⟩; have HP8 := κ (HPx.out.upto (Upto.of_below (S := fun _ => False) b8) (fun _ _ => id)); have S8 := κ (S7.out.keep b8); have S18 := κ (S17.out.keep b8)) | (go_at_call 24; (with_reducible refine (touched_c p RV.M _ HP8.out.hc).mono ?_); rintro e w9 ⟨rfl, rfl⟩) | (go_at_call 25; (with_reducible refine (rtouched P RV.M _ HP8.out.rm).mono ?_); rintro e w9 ⟨rfl, rfl⟩) | (go_at_call 42; (with_reducible refine (same_sl us ao cap ao1 c1 _ S8.out S18.out).mono ?_); rintro e w10 ⟨rfl, b10⟩))
    go_ret
    exact ⟨rfl, chain (chain BX.out b8) b10⟩
end Go.Proofs.Ytcjcmnnhmajocab.Hr
