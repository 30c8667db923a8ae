/- crossgrainlaw2.IREvals: the walk. -/
import Derived.Test.YtcjcmnnhmajocabPeam
import Derived.Test.YtcjcmnnhmajocabPeay
import Derived.Test.YtcjcmnnhmajocabPebc
import Derived.Test.YtcjcmnnhmajocabPebi
import Derived.Test.YtcjcmnnhmajocabPebk
namespace Go.Proofs.Ytcjcmnnhmajocab.Ic
open Go.RowKit Kt Me Fl
set_option linter.unusedVariables false
set_option linter.unusedSimpArgs false
theorem Boxed.upto {S : Nat → Prop} {b : Nat} {X : Array Value} {w w' : World} (h : Boxed b X w) (u : Upto S w w') (hs : ¬ S b) : Boxed b X w' :=
  ⟨Nat.lt_of_lt_of_le h.1 u.size, fun j v hj => (u.cell (q := ⟨b, j, none⟩) h.1 hs).trans (h.2 j v hj)⟩
theorem Ops.upto {os : List Opr} {ao : Option Addr} {cap : Nat} {S : Nat → Prop} {w w' : World} (h : Ops os ao cap w) (u : Upto S w w') (hs : ∀ g, ao = some g → ¬ S g.block) : Ops os ao cap w' := by
  obtain ⟨h1, h2, h3⟩ := h
  refine ⟨h1, h2, fun hp => ?_⟩
  obtain ⟨g, off, e, hg, hc⟩ := h3 hp
  refine ⟨g, off, e, Nat.lt_of_lt_of_le hg u.size, fun i o ho j v hv => ?_⟩
  exact (u.cell (q := ⟨g, off + i * 7 + j, none⟩) hg (show ¬ S g from hs ⟨g, off, none⟩ e)).trans (hc i o ho j v hv)
theorem Ops.upto' {os : List Opr} {ao : Option Addr} {cap : Nat} {S : Nat → Prop} {w w' : World} (h : Ops os ao cap w) (u : Upto S w w') (hs : ∀ g, ao = some g → 0 < os.length → ¬ S g.block) : Ops os ao cap w' := by
  obtain ⟨h1, h2, h3⟩ := h
  refine ⟨h1, h2, fun hp => ?_⟩
  obtain ⟨g, off, e, hg, hc⟩ := h3 hp
  refine ⟨g, off, e, Nat.lt_of_lt_of_le hg u.size, fun i o ho j v hv => ?_⟩
  exact (u.cell (q := ⟨g, off + i * 7 + j, none⟩) hg (show ¬ S g from hs ⟨g, off, none⟩ e hp)).trans (hc i o ho j v hv)
end Go.Proofs.Ytcjcmnnhmajocab.Ic
namespace Go.Proofs.Ytcjcmnnhmajocab.Ev
open Go.RowKit Kt Me Fl Ic
theorem evN_ok (os : List Opr) (hkn : ∀ o ∈ os, 0 ≤ o.kn ∧ o.kn < 4294967296) : ∀ n s, EOk s → EOk (evN os n s).1
  | 0, s, h => h
  | n + 1, s, h => by
    unfold evN
    split
    · exact h
    · rename_i o ho
      have k := hkn o (List.mem_of_getElem? ho)
      have hh := opV_ok o s (os.length - (n + 1)) h k.1 k.2
      split
      · rename_i s' e
        rw [e] at hh
        exact evN_ok os hkn n s' hh
      · rename_i s' x e
        rw [e] at hh
        exact hh
theorem evalO_ok (os : List Opr) (cnt byt : Int) (s : Evs) (h : EOk s) (hkn : ∀ o ∈ os, 0 ≤ o.kn ∧ o.kn < 4294967296) : EOk (evalO os cnt byt s).1 := by
  unfold evalO
  split
  · exact evN_ok os hkn _ _ h
  · exact h
set_option maxRecDepth 100000 in
set_option maxHeartbeats 16000000 in
theorem irevals_walk (os : List Opr) (ao : Option Addr) (cap : Nat) (pc cnt byt : Int) (cx : Nat → Int) (ps : List Prt) (pao : Option Addr) (pcap : Nat) (ks : List Int) (kao : Option Addr) (kcap : Nat) (CK : ∀ ao cap w, Ops os ao cap w → Calls Try.prog 12 #[.agg #[.int .u32 pc, .int .i64 cnt, .int .i64 byt, .slice ao os.length cap]] w fun e w' => e = .returned (errs (chk os cnt byt)) ∧ Below w.heap.size w w')
    (w : World) (hops : Ops os ao cap w) (hreach : os.length * 56 ≤ 140737488351232) (hkn : ∀ o ∈ os, 0 ≤ o.kn ∧ o.kn < 4294967296) (hC : COk cx) (hps : Prts ps pao pcap w) (hks : Nums ks kao kcap w) :
    Calls Try.prog 5 #[.agg #[.int .u32 pc, .int .i64 cnt, .int .i64 byt, .slice ao os.length cap], .agg #[.int .u32 (cx 0), .int .u32 (cx 1), .int .u32 (cx 2), .int .u32 (cx 3), .int .u32 (cx 4), .int .u32 (cx 5), .int .u32 (cx 6), .int .u32 (cx 7), .int .u32 (cx 8), .int .u32 (cx 9), .int .u32 (cx 10), .int .u32 (cx 11)], .slice pao ps.length pcap, .slice kao ks.length kcap] w fun e w' => e = .returned (.bool true) ∧ Below w.heap.size w w' := by
  have u0 := ((Upto.refl (fun _ => False) w).alloc (.cells #[.int .u32 pc, .int .i64 cnt, .int .i64 byt, .slice ao os.length cap] 25)).alloc (.cells #[.int .u32 (cx 0), .int .u32 (cx 1), .int .u32 (cx 2), .int .u32 (cx 3), .int .u32 (cx 4), .int .u32 (cx 5), .int .u32 (cx 6), .int .u32 (cx 7), .int .u32 (cx 8), .int .u32 (cx 9), .int .u32 (cx 10), .int .u32 (cx 11)] 37)
  have bw := u0.below (Nat.le_refl _) (fun _ _ => id)
  have BO := Lib.hid (both_any ps pao pcap ks kao kcap _ (hps.keep bw) (by
    refine ⟨hks.1, hks.2.1, fun h0 => ?_⟩
    obtain ⟨b, off, e, hb, hc⟩ := hks.2.2 h0
    exact ⟨b, off, e, Nat.lt_of_lt_of_le hb bw.size, fun j hj => (bw.cell (p := ⟨b, off + j, none⟩) hb).trans (hc j hj)⟩))
  have hx := (Boxed.new w #[.int .u32 pc, .int .i64 cnt, .int .i64 byt, .slice ao os.length cap] 25).upto ((Upto.refl (fun _ => False) _).alloc (.cells #[.int .u32 (cx 0), .int .u32 (cx 1), .int .u32 (cx 2), .int .u32 (cx 3), .int .u32 (cx 4), .int .u32 (cx 5), .int .u32 (cx 6), .int .u32 (cx 7), .int .u32 (cx 8), .int .u32 (cx 9), .int .u32 (cx 10), .int .u32 (cx 11)] 37)) id
  have hy := CB.new (w.alloc (.cells #[.int .u32 pc, .int .i64 cnt, .int .i64 byt, .slice ao os.length cap] 25)) cx 37
  rw [show (w.alloc (.cells #[.int .u32 pc, .int .i64 cnt, .int .i64 byt, .slice ao os.length cap] 25)).heap.size = w.heap.size + 1 by simp] at hy
  have ho := hops.keep bw
  have hg : ∀ g, ao = some g → 0 < os.length → g.block < w.heap.size := fun g hg h0 => by
    obtain ⟨g', off, e, hlt, _⟩ := hops.2.2 h0
    rw [hg] at e
    cases e
    exact hlt
  have HG := Lib.hid hg
  have KN := Lib.hid hkn
  have RE := Lib.hid hreach
  have HC0 := Lib.hid hC
  have CK := Lib.hid CK
  have BW := Lib.hid bw
  clear hg hkn hreach hC hps hks hops u0 bw
  generalize markd (layd ps) ks = M at BO
  generalize ps.length = pl at BO ⊢
  generalize ks.length = kl at BO ⊢
  unfold ctL at hy
  go_enter Try.func5, Try.ntmps5
  go_upto_region 1 with fail
  generalize hWA : (w.alloc (.cells #[.int .u32 pc, .int .i64 cnt, .int .i64 byt, .slice ao os.length cap] 25)).alloc (.cells #[.int .u32 (cx 0), .int .u32 (cx 1), .int .u32 (cx 2), .int .u32 (cx 3), .int .u32 (cx 4), .int .u32 (cx 5), .int .u32 (cx 6), .int .u32 (cx 7), .int .u32 (cx 8), .int .u32 (cx 9), .int .u32 (cx 10), .int .u32 (cx 11)] 37) = WA at BO BW hx hy ho ⊢
  have hA : w.heap.size + 2 = WA.heap.size := by rw [← hWA]; simp
  clear hWA
  have HX := Lib.hid hx
  have HY := Lib.hid hy
  have HO := Lib.hid ho
  clear hx hy ho
  go_wp2_with fail
  refine BO.out.mono ?_
  rintro e w1 ⟨p, P, rfl, hP, hb, hGA⟩
  have u1 := Upto.of_below (S := fun _ => False) hb
  have HX := Lib.hid (HX.out.upto u1 id)
  have HY := Lib.hid (HY.out.upto u1 id)
  have HO := Lib.hid (HO.out.keep hb)
  have HP := Lib.hid hP
  have GA := Lib.hid (fun k hk => Nat.le_trans (Nat.le_of_eq hA) (hGA k hk))
  have BW := Lib.hid (BW.out.trans (hb.mono (by omega)))
  clear hP hb hGA u1 BO
  have cx0 := HX.out.2 0 _ rfl
  have cx1 := HX.out.2 1 _ rfl
  have cx2 := HX.out.2 2 _ rfl
  have cx3 := HX.out.2 3 _ rfl
  have cxl := HX.out.1
  go_wp2_with fail
  refine (twin_own os ao cap pc cnt byt w1 HO.out RE.out).mono ?_
  rintro e w2 ⟨ao1, c1, rfl, hf1, hO1, hb1⟩
  clear cx0 cx1 cx2 cx3 cxl
  have hp1 : ∀ k, PS p P k → k < w1.heap.size := fun k hk => HP.out.lt k hk
  have FR := Lib.hid (show ∀ g, ao1 = some g → ¬ PS p P g.block from fun g hg hp => by have := hf1 g hg; have := hp1 _ hp; omega)
  have u1 := Upto.of_below (S := fun _ => False) hb1
  have HX := HX.out.upto u1 id
  have HY := HY.out.upto u1 id
  have HO := HO.out.keep hb1
  have HP := HP.out.upto u1 (fun _ _ => id)
  have BW := BW.out.trans (hb1.mono (by have := BW.out.size; omega))
  have LP := Lib.hid (show ∀ k, PS p P k → k < w2.heap.size from fun k hk => HP.lt k hk)
  have lw2 : w.heap.size + 2 ≤ w2.heap.size := HY.l
  clear hf1 hb1 u1 hp1
  go_upto_region 5 with fail
  have un := (Upto.refl (fun _ => False) w2).alloc (.cells #[.int .u32 pc, .int .i64 cnt, .int .i64 byt, .slice ao1 os.length c1] 25)
  have HZ := Lib.hid (Boxed.new w2 #[.int .u32 pc, .int .i64 cnt, .int .i64 byt, .slice ao1 os.length c1] 25)
  have HX := Lib.hid (HX.upto un id)
  have HY := Lib.hid (HY.upto un id)
  have HO := Lib.hid (HO.upto un (fun _ _ => id))
  have HO1 := Lib.hid (hO1.upto un (fun _ _ => id))
  have HP := Lib.hid (HP.upto un (fun _ _ => id))
  have BW := Lib.hid (BW.trans ((un.below (Nat.le_refl _) (fun _ _ => id)).mono BW.size))
  have HS3 : w2.heap.size + 1 = (w2.alloc (.cells #[.int .u32 pc, .int .i64 cnt, .int .i64 byt, .slice ao1 os.length c1] 25)).heap.size := by simp
  generalize w2.alloc (.cells #[.int .u32 pc, .int .i64 cnt, .int .i64 byt, .slice ao1 os.length c1] 25) = W3 at HS3 HZ HX HY HO HO1 HP BW ⊢
  have h23 : w2.heap.size + 1 = W3.heap.size := HS3
  generalize hb2 : w2.heap.size = b2 at HZ LP h23 lw2 ⊢
  clear un hO1 hb2 HS3
  have n0 : ¬ PS p P w.heap.size := fun h => by have := GA.out _ h; omega
  have n1 : ¬ PS p P (w.heap.size + 1) := fun h => by have := GA.out _ h; omega
  have n2 : ¬ PS p P b2 := fun h => by have := LP.out _ h; omega
  have FO := Lib.hid (show ∀ g, ao = some g → 0 < os.length → ¬ PS p P g.block from fun g hg h0 hp => by have := HG.out g hg h0; have := GA.out _ hp; omega)
  obtain ⟨rv, hrv⟩ : ∃ rv, evalO os cnt byt ⟨M, cx, fun _ => 0⟩ = rv := ⟨_, rfl⟩
  have OKV := Lib.hid (show EOk rv.1 from hrv ▸ evalO_ok os cnt byt ⟨M, cx, fun _ => 0⟩ ⟨HP.out.ok, HC0.out, fun _ => ⟨Int.le_refl _, (by decide : (0 : Int) < 4294967296)⟩⟩ KN.out)
  have CE := eval_any os ao cap pc cnt byt cx M p W3 HO.out HP.out.hc HP.out.ok HC0.out KN.out (fun g hg h0 e => FO.out g hg h0 (.inl e))
  have CR := fun W h1 h2 => reval_any os ao1 c1 pc cnt byt cx M P (CK.out ao1 c1) W h1 h2 HP.out.ok HC0.out KN.out (fun g hg h0 e => FR.out g hg (.inr e))
  rw [hrv] at CE CR
  unfold evalV ctL at CE CR
  have CE := Lib.hid CE
  have CR := Lib.hid CR
  clear hrv
  have cx0 := HX.out.2 0 _ rfl
  have cx1 := HX.out.2 1 _ rfl
  have cx2 := HX.out.2 2 _ rfl
  have cx3 := HX.out.2 3 _ rfl
  have cxl := HX.out.1
  obtain ⟨a0, a1, a2, a3, a4, a5, a6, a7, a8, a9, a10, a11⟩ := HY.out.all
  have yl := HY.out.l
  go_wp2_with fail
  refine CE.out.mono ?_
  rintro e w4 ⟨rfl, m4, u4⟩
  clear cx0 cx1 cx2 cx3 cxl
  clear a0 a1 a2 a3 a4 a5 a6 a7 a8 a9 a10 a11 yl
  have u4' := u4
  have u4 := u4.mono (T := PS p P) fun _ _ h => .inl h
  have HX := HX.out.upto u4 n0
  have HY := HY.out.upto u4 n1
  have HO := HO.out.upto' u4 FO.out
  have HZ := HZ.out.upto u4 n2
  have HO1 := HO1.out.upto u4 FR.out
  have BW := BW.out.trans (u4.below (B := w.heap.size) BW.out.size (fun k hk hp => by have := GA.out k hp; omega))
  have HN := HP.out.ne
  have RM4 := HP.out.rm.upto (S := fun i => i = p) u4' (fun k hk e => HN (e ▸ hk))
  have l4 := u4.size
  clear HP CE
  go_upto_region 6 with fail
  have un := ((Upto.refl (fun _ => False) w4).alloc (.cells #[.int .u32 (rv.1.c 0), .int .u32 (rv.1.c 1), .int .u32 (rv.1.c 2), .int .u32 (rv.1.c 3), .int .u32 (rv.1.c 4), .int .u32 (rv.1.c 5), .int .u32 (rv.1.c 6), .int .u32 (rv.1.c 7), .int .u32 (rv.1.c 8), .int .u32 (rv.1.c 9), .int .u32 (rv.1.c 10), .int .u32 (rv.1.c 11)] 37)).alloc (.cells #[.int .i64 rv.2.1.k, .int .u32 rv.2.1.x, .int .u32 rv.2.1.pc, .int .i64 rv.2.1.n] 48)
  have ca := CB.new w4 rv.1.c 37
  have xa := XB4.new (w4.alloc (.cells #[.int .u32 (rv.1.c 0), .int .u32 (rv.1.c 1), .int .u32 (rv.1.c 2), .int .u32 (rv.1.c 3), .int .u32 (rv.1.c 4), .int .u32 (rv.1.c 5), .int .u32 (rv.1.c 6), .int .u32 (rv.1.c 7), .int .u32 (rv.1.c 8), .int .u32 (rv.1.c 9), .int .u32 (rv.1.c 10), .int .u32 (rv.1.c 11)] 37)) rv.2.1.k rv.2.1.x rv.2.1.pc rv.2.1.n 48
  rw [show (w4.alloc (.cells #[.int .u32 (rv.1.c 0), .int .u32 (rv.1.c 1), .int .u32 (rv.1.c 2), .int .u32 (rv.1.c 3), .int .u32 (rv.1.c 4), .int .u32 (rv.1.c 5), .int .u32 (rv.1.c 6), .int .u32 (rv.1.c 7), .int .u32 (rv.1.c 8), .int .u32 (rv.1.c 9), .int .u32 (rv.1.c 10), .int .u32 (rv.1.c 11)] 37)).heap.size = w4.heap.size + 1 by simp] at xa
  unfold ctL at ca
  have DA := Lib.hid (ca.upto ((Upto.refl (fun _ => False) _).alloc (.cells #[.int .i64 rv.2.1.k, .int .u32 rv.2.1.x, .int .u32 rv.2.1.pc, .int .i64 rv.2.1.n] 48)) id)
  have XA := Lib.hid xa
  have HX := Lib.hid (HX.upto un id)
  have HY := Lib.hid (HY.upto un id)
  have HO := Lib.hid (HO.upto un (fun _ _ => id))
  have HZ := Lib.hid (HZ.upto un id)
  have HO1 := Lib.hid (HO1.upto un (fun _ _ => id))
  have BW := Lib.hid (BW.trans ((un.below (Nat.le_refl _) (fun _ _ => id)).mono BW.size))
  have RM5 := Lib.hid (RM4.upto un (fun _ _ => id))
  have HC5 := Lib.hid (HC.upto (S := fun _ => False) m4 un id)
  generalize (w4.alloc (.cells #[.int .u32 (rv.1.c 0), .int .u32 (rv.1.c 1), .int .u32 (rv.1.c 2), .int .u32 (rv.1.c 3), .int .u32 (rv.1.c 4), .int .u32 (rv.1.c 5), .int .u32 (rv.1.c 6), .int .u32 (rv.1.c 7), .int .u32 (rv.1.c 8), .int .u32 (rv.1.c 9), .int .u32 (rv.1.c 10), .int .u32 (rv.1.c 11)] 37)).alloc (.cells #[.int .i64 rv.2.1.k, .int .u32 rv.2.1.x, .int .u32 rv.2.1.pc, .int .i64 rv.2.1.n] 48) = W5 at DA XA HX HY HO HZ HO1 BW RM5 HC5 ⊢
  generalize w4.heap.size = b4 at DA XA l4 ⊢
  clear un ca xa RM4 m4 u4 u4'
  have n4 : ¬ PS p P b4 := fun h => by have := LP.out _ h; omega
  have n5 : ¬ PS p P (b4 + 1) := fun h => by have := LP.out _ h; omega
  have cx0 := HZ.out.2 0 _ rfl
  have cx1 := HZ.out.2 1 _ rfl
  have cx2 := HZ.out.2 2 _ rfl
  have cx3 := HZ.out.2 3 _ rfl
  have cxl := HZ.out.1
  obtain ⟨a0, a1, a2, a3, a4, a5, a6, a7, a8, a9, a10, a11⟩ := HY.out.all
  have yl := HY.out.l
  go_wp2_with fail
  refine (CR.out _ HO1.out RM5.out).mono ?_
  rintro e w6 ⟨rfl, m6, u6⟩
  clear cx0 cx1 cx2 cx3 cxl
  clear a0 a1 a2 a3 a4 a5 a6 a7 a8 a9 a10 a11 yl
  have u6' := u6
  have u6 := u6.mono (T := PS p P) fun _ _ h => .inr h
  have HX := HX.out.upto u6 n0
  have HO := HO.out.upto' u6 FO.out
  have HZ := HZ.out.upto u6 n2
  have HO1 := HO1.out.upto u6 FR.out
  have DA := DA.out.upto u6 n4
  have XA := XA.out.upto u6 n5
  have BW := BW.out.trans (u6.below (B := w.heap.size) BW.out.size (fun k hk hp => by have := GA.out k hp; omega))
  have PR : Pair p P rv.1.M w6 := ⟨HC5.out.upto u6' HN, m6, HN, OKV.out.M⟩
  clear HC5 RM5 CR HY
  go_upto_region 7 with fail
  have un := ((Upto.refl (fun _ => False) w6).alloc (.cells #[.int .u32 (rv.1.c 0), .int .u32 (rv.1.c 1), .int .u32 (rv.1.c 2), .int .u32 (rv.1.c 3), .int .u32 (rv.1.c 4), .int .u32 (rv.1.c 5), .int .u32 (rv.1.c 6), .int .u32 (rv.1.c 7), .int .u32 (rv.1.c 8), .int .u32 (rv.1.c 9), .int .u32 (rv.1.c 10), .int .u32 (rv.1.c 11)] 37)).alloc (.cells #[.int .i64 rv.2.1.k, .int .u32 rv.2.1.x, .int .u32 rv.2.1.pc, .int .i64 rv.2.1.n] 48)
  have ca := CB.new w6 rv.1.c 37
  have xa := XB4.new (w6.alloc (.cells #[.int .u32 (rv.1.c 0), .int .u32 (rv.1.c 1), .int .u32 (rv.1.c 2), .int .u32 (rv.1.c 3), .int .u32 (rv.1.c 4), .int .u32 (rv.1.c 5), .int .u32 (rv.1.c 6), .int .u32 (rv.1.c 7), .int .u32 (rv.1.c 8), .int .u32 (rv.1.c 9), .int .u32 (rv.1.c 10), .int .u32 (rv.1.c 11)] 37)) rv.2.1.k rv.2.1.x rv.2.1.pc rv.2.1.n 48
  rw [show (w6.alloc (.cells #[.int .u32 (rv.1.c 0), .int .u32 (rv.1.c 1), .int .u32 (rv.1.c 2), .int .u32 (rv.1.c 3), .int .u32 (rv.1.c 4), .int .u32 (rv.1.c 5), .int .u32 (rv.1.c 6), .int .u32 (rv.1.c 7), .int .u32 (rv.1.c 8), .int .u32 (rv.1.c 9), .int .u32 (rv.1.c 10), .int .u32 (rv.1.c 11)] 37)).heap.size = w6.heap.size + 1 by simp] at xa
  unfold ctL at ca
  have DB := ca.upto ((Upto.refl (fun _ => False) _).alloc (.cells #[.int .i64 rv.2.1.k, .int .u32 rv.2.1.x, .int .u32 rv.2.1.pc, .int .i64 rv.2.1.n] 48)) id
  have HX := Lib.hid (HX.upto un id)
  have HO := Lib.hid (HO.upto un (fun _ _ => id))
  have HZ := Lib.hid (HZ.upto un id)
  have HO1 := Lib.hid (HO1.upto un (fun _ _ => id))
  have DA := DA.upto un id
  have XA := XA.upto un id
  have BW := Lib.hid (BW.trans ((un.below (Nat.le_refl _) (fun _ _ => id)).mono BW.size))
  have PR := Lib.hid (PR.upto un (fun _ _ => id))
  generalize (w6.alloc (.cells #[.int .u32 (rv.1.c 0), .int .u32 (rv.1.c 1), .int .u32 (rv.1.c 2), .int .u32 (rv.1.c 3), .int .u32 (rv.1.c 4), .int .u32 (rv.1.c 5), .int .u32 (rv.1.c 6), .int .u32 (rv.1.c 7), .int .u32 (rv.1.c 8), .int .u32 (rv.1.c 9), .int .u32 (rv.1.c 10), .int .u32 (rv.1.c 11)] 37)).alloc (.cells #[.int .i64 rv.2.1.k, .int .u32 rv.2.1.x, .int .u32 rv.2.1.pc, .int .i64 rv.2.1.n] 48) = W7 at DB xa DA XA HX HO HZ HO1 BW PR ⊢
  clear un ca m6 u6 u6'
  have AL := Lib.hid (alike_any p P rv.1.M W7 PR.out)
  have T1 := Lib.hid (fun w h => touched_c p rv.1.M w h)
  have T2 := Lib.hid (fun w h => rtouched P rv.1.M w h)
  have q1 := Ir.eq_context (rv.1.c 0) (rv.1.c 1) (rv.1.c 2) (rv.1.c 3) (rv.1.c 4) (rv.1.c 5) (rv.1.c 6) (rv.1.c 7) (rv.1.c 8) (rv.1.c 9) (rv.1.c 10) (rv.1.c 11)
  have q2 := eq_exit rv.2.1.k rv.2.1.x rv.2.1.pc rv.2.1.n
  have q3 : (rv.2.2 == rv.2.2) = true := by simp
  have q4 : (anyT rv.1.M.hi == anyT rv.1.M.hi) = true := by simp
  obtain ⟨a0, a1, a2, a3, a4, a5, a6, a7, a8, a9, a10, a11⟩ := DA.all
  obtain ⟨b0, b1, b2, b3, b4, b5, b6, b7, b8, b9, b10, b11⟩ := DB.all
  have la := DA.l
  have lb := DB.l
  have e0 := XA.c0
  have e1 := XA.c1
  have e2 := XA.c2
  have e3 := XA.c3
  have le := XA.l
  have f0 := xa.c0
  have f1 := xa.c1
  have f2 := xa.c2
  have f3 := xa.c3
  have lf := xa.l
  clear DA DB XA xa
  go_wp2_with (first
    | (go_at_call 23; refine AL.out.mono ?_; rintro e w8 ⟨rfl, b8⟩; have u8 := Upto.of_below (S := fun _ => False) b8; have HX8 := HX.out.keep b8; have HZ8 := HZ.out.keep b8; have PR8 := Lib.hid (PR.out.upto u8 (fun _ _ => id)); have B8 := Lib.hid (chain BW.out b8); have SO := Lib.hid (same_ops os ao cap ao1 c1 w8 (HO.out.keep b8) (HO1.out.keep b8)); have c0 := HX8.2 3 _ rfl; have cl := HX8.1; have d0 := HZ8.2 3 _ rfl; have dl := HZ8.1; clear b8 u8 HX8 HZ8 AL)
    | (go_at_call 24; refine (T1.out _ PR8.out.hc).mono ?_; rintro e wx ⟨rfl, rfl⟩)
    | (go_at_call 25; refine (T2.out _ PR8.out.rm).mono ?_; rintro e wx ⟨rfl, rfl⟩)
    | (go_at_call 26; refine SO.out.mono ?_; rintro e w9 ⟨rfl, b9⟩; have B9 := Lib.hid (chain B8.out b9); clear b9))
  go_ret
  exact ⟨rfl, B9.out⟩
end Go.Proofs.Ytcjcmnnhmajocab.Ev
