/- interp's instruction under way: what loads and stores at once. -/
import Derived.RegionTactic
import Derived.BigRegion
import Derived.Deep.RegionWith
import Derived.Test.YtcjcmnnhmajocabPkao
namespace Go.Proofs.Ytcjcmnnhmajocab.St
open Go.RowKit Kt Me Fl
set_option linter.unusedVariables false
set_option linter.unusedSimpArgs false
variable {A p : Nat} {R : Nat → Int} {pc f nx k x : Int} {W W' : World}
theorem hc_setA {M : MM} {i : Nat} {v : Value} (h : HC p M W) (hne : A ≠ p) : HC p M (W.setCell ⟨A, i, none⟩ v) :=
  h.upto ((Upto.refl (fun i => i = A) _).setCell (q := ⟨A, i, none⟩) (.inl rfl) v) (fun e => hne e.symm)
theorem up_setA {i : Nat} {v : Value} (u : Upto (AS A p) W W') : Upto (AS A p) W (W'.setCell ⟨A, i, none⟩ v) := u.setCell (q := ⟨A, i, none⟩) (.inl (.inl rfl)) v
theorem up_A (u : Upto (fun i => i = A) W W') : Upto (AS A p) W W' := u.mono (fun _ _ h => .inl h)
theorem hc_ofA {M : MM} (h : HC p M W) (u : Upto (fun i => i = A) W W') (hne : A ≠ p) : HC p M W' := h.upto u (fun e => hne e.symm)
theorem atq_sto {M : MM} {q n v : Int} {g : MM → Out} {R' : Nat → Int} {f' nx' : Int} {w w' : World} (h : AtB A p R' pc f' nx' (stK 6 (sto M q n)) (stX (sto M q n)) w') (hm : HC p (stm M q n v) w') (u : Upto (AS A p) w w')
    (hg : g (stm M q n v) = ⟨stm M q n v, R', nx', f', 0, 0⟩) : AtQ A p pc (stO M R pc f q n v g) w w' := by
  unfold stO
  cases hs : sto M q n with
  | none => rw [hs] at h; show AtQ A p pc (g _) w w'; rw [hg]; exact AtQ.ok h hm u
  | some z => rw [hs] at h; rw [sto_some hs] at hm; exact AtQ.stop h hm u (by show (2 : Int) ≤ 6; omega)
theorem atq_ldo {M : MM} {q n : Int} {g : Int → Out} {R' : Nat → Int} {f' nx' : Int} {w w' : World} (h : AtB A p R' pc f' nx' (stK 5 (srch M 1 q n.toNat)) (stX (srch M 1 q n.toNat)) w') (hm : HC p M w') (u : Upto (AS A p) w w')
    (hg : g (ldv M q n) = ⟨M, R', nx', f', 0, 0⟩) : AtQ A p pc (ldO M R pc f q n g) w w' := by
  unfold ldO
  cases hs : srch M 1 q n.toNat with
  | none => rw [hs] at h; show AtQ A p pc (g _) w w'; rw [hg]; exact AtQ.ok h hm u
  | some z => rw [hs] at h; exact AtQ.stop h hm u (by show (2 : Int) ≤ 5; omega)
set_option maxRecDepth 100000 in
set_option maxHeartbeats 4000000 in
theorem both24 (M : MM) (d : Nat) (hd : d < 8) (q : Int) (w : World) (h : AtB A p R pc f nx 0 x w) (hm : HC p M w) (hM : MOk M) (hR : ROk R) (hne : A ≠ p) (q0 : 0 ≤ q) (q1 : q < 4294967296) (f0 : 0 ≤ f) (f1 : f < 16) :
    Calls Try.prog 134 #[.pointer (some ⟨A, 0, none⟩), .int .i64 24, .int .i64 d, .int .u32 q] w fun e w' => e = .returned (.tuple #[]) ∧
      AtQ A p pc (ldO M R pc f q 4 fun v => stO M R pc f q 4 (R d) fun M' => ⟨M', upd R d v, nx, f, 0, 0⟩) w w' := by
  have hr := hR d
  have hr0 := hR 0
  have CL := Lib.hid (atload M q 4 w h hm hM hne q0 q1 (by omega))
  have e4 : (4 : Int).toNat = 4 := rfl
  rw [e4] at CL
  unfold ldO
  rw [e4]
  have hd0 : (0 : Int) ≤ (d : Int) := by omega
  have hd1 : (d : Int) < 8 := by omega
  have hv := ldv_bd hM q 4
  cases hs : srch M 1 q 4 with
  | some z =>
    rw [hs, show stK 5 (some z) = 5 from rfl, show stX (some z) = z from rfl] at CL
    have CS := Lib.hid (fun R' f' q n v w h => atstore_off (A := A) (p := p) (R := R') (pc := pc) (f := f') (nx := nx) (k := 5) (x := z) q n v w h (by omega))
    generalize ldv M q 4 = v at CL hv ⊢
    clear hs h hm
    go_enter Try.func134, Try.ntmps134
    go_wp2_with (first
      | (go_at_call 130; (with_reducible refine CL.out.mono ?_); rintro e w1 ⟨rfl, h1, m1, u1⟩; have d8 := h1.r d hd; have y8 := h1.z (1 + d); have d0 := h1.r 0 (by omega); have y0 := h1.z 1; have d10 := h1.c10; have y10 := h1.z 10; have H1 := Lib.hid h1; have M1' := Lib.hid m1; have U1 := Lib.hid u1; have l1 := h1.l; clear h1 m1 u1)
      | (go_at_call 132; (with_reducible refine (CS.out _ _ _ _ _ _ H1.out).mono ?_); rintro e w2 ⟨rfl, rfl⟩))
    go_end0
    exact ⟨rfl, AtQ.stop (H1.out.setR d hd v) (hc_setA M1'.out hne) (up_setA (up_A U1.out)) (by omega)⟩
  | none =>
    rw [hs, show stK 5 none = 0 from rfl, show stX none = 0 from rfl] at CL
    dsimp only
    have CS := Lib.hid (fun w h hm => atstore (A := A) (p := p) (R := R) (pc := pc) (f := f) (nx := nx) (x := 0) M q 4 (R d) w h hm hM hne q0 q1 hr.1 hr.2)
    generalize ldv M q 4 = v at CL hv ⊢
    clear hs h hm
    go_enter Try.func134, Try.ntmps134
    go_wp2_with (first
      | (go_at_call 130; (with_reducible refine CL.out.mono ?_); rintro e w1 ⟨rfl, h1, m1, u1⟩; have d8 := h1.r d hd; have y8 := h1.z (1 + d); have d0 := h1.r 0 (by omega); have y0 := h1.z 1; have d10 := h1.c10; have y10 := h1.z 10; have H1 := Lib.hid h1; have M1' := Lib.hid m1; have U1 := Lib.hid u1; have l1 := h1.l; clear h1 m1 u1)
      | (go_at_call 132; (with_reducible refine (CS.out _ H1.out M1'.out).mono ?_); rintro e w2 ⟨rfl, h2, m2, u2⟩; have g8 := h2.r d hd; have z8 := h2.z (1 + d); have g10 := h2.c10; have z10 := h2.z 10; have l2 := h2.l; have H2 := Lib.hid h2; have M2 := Lib.hid m2; have U2 := Lib.hid u2; clear h2 m2 u2))
    go_end0
    exact ⟨rfl, atq_sto (H2.out.setR d hd v) (hc_setA M2.out hne) (up_setA ((up_A U1.out).trans U2.out)) rfl⟩
set_option maxRecDepth 100000 in
set_option maxHeartbeats 4000000 in
theorem both25 (M : MM) (d : Nat) (hd : d < 8) (q : Int) (w : World) (h : AtB A p R pc f nx 0 x w) (hm : HC p M w) (hM : MOk M) (hR : ROk R) (hne : A ≠ p) (q0 : 0 ≤ q) (q1 : q < 4294967296) (f0 : 0 ≤ f) (f1 : f < 16) :
    Calls Try.prog 134 #[.pointer (some ⟨A, 0, none⟩), .int .i64 25, .int .i64 d, .int .u32 q] w fun e w' => e = .returned (.tuple #[]) ∧
      AtQ A p pc (ldO M R pc f q 4 fun v => stO M R pc f q 4 (w32 (v + R d)) fun M' => ⟨M', upd R d v, nx, fl 1 v (R d) f, 0, 0⟩) w w' := by
  have hr := hR d
  have hr0 := hR 0
  have CL := Lib.hid (atload M q 4 w h hm hM hne q0 q1 (by omega))
  have e4 : (4 : Int).toNat = 4 := rfl
  rw [e4] at CL
  unfold ldO
  rw [e4]
  have hd0 : (0 : Int) ≤ (d : Int) := by omega
  have hd1 : (d : Int) < 8 := by omega
  have hv := ldv_bd hM q 4
  cases hs : srch M 1 q 4 with
  | some z =>
    rw [hs, show stK 5 (some z) = 5 from rfl, show stX (some z) = z from rfl] at CL
    have CS := Lib.hid (fun R' f' q n v w h => atstore_off (A := A) (p := p) (R := R') (pc := pc) (f := f') (nx := nx) (k := 5) (x := z) q n v w h (by omega))
    generalize ldv M q 4 = v at CL hv ⊢
    clear hs h hm
    have CF := Lib.hid (fun w => flags_any 1 v (R d) f w hv.1 hv.2 hr.1 hr.2 f0 (by omega))
    go_enter Try.func134, Try.ntmps134
    go_wp2_with (first
      | (go_at_call 130; (with_reducible refine CL.out.mono ?_); rintro e w1 ⟨rfl, h1, m1, u1⟩; have d8 := h1.r d hd; have y8 := h1.z (1 + d); have d0 := h1.r 0 (by omega); have y0 := h1.z 1; have d10 := h1.c10; have y10 := h1.z 10; have H1 := Lib.hid h1; have M1' := Lib.hid m1; have U1 := Lib.hid u1; have l1 := h1.l; clear h1 m1 u1)
      | (go_at_call 132; (with_reducible refine (CS.out _ _ _ _ _ _ H1.out).mono ?_); rintro e w2 ⟨rfl, rfl⟩))
    go_region_with (go_at_call 125; (with_reducible refine (CF.out _).mono ?_); rintro e w3 ⟨rfl, rfl⟩)
    go_wp2
    go_end0
    exact ⟨rfl, AtQ.stop ((H1.out.setR d hd v).setF _).drew (hc_setA (hc_setA M1'.out hne) hne).drew (up_setA (up_setA (up_A U1.out))).drew (by omega)⟩
  | none =>
    rw [hs, show stK 5 none = 0 from rfl, show stX none = 0 from rfl] at CL
    dsimp only
    have hv' := w32_bd (ldv M q 4 + R d)
    have CS := Lib.hid (fun w h hm => atstore (A := A) (p := p) (R := R) (pc := pc) (f := f) (nx := nx) (x := 0) M q 4 (w32 (ldv M q 4 + R d)) w h hm hM hne q0 q1 hv'.1 hv'.2)
    have CF := Lib.hid (fun w => flags_any 1 (ldv M q 4) (R d) f w hv.1 hv.2 hr.1 hr.2 f0 (by omega))
    generalize ldv M q 4 = v at CL CS CF hv hv' ⊢
    have ew : (v + R d) % 4294967296 = w32 (v + R d) := rfl
    generalize w32 (v + R d) = v2 at CS hv' ew ⊢
    clear hs h hm
    go_enter Try.func134, Try.ntmps134
    go_wp2_with (first
      | (go_at_call 130; (with_reducible refine CL.out.mono ?_); rintro e w1 ⟨rfl, h1, m1, u1⟩; have d8 := h1.r d hd; have y8 := h1.z (1 + d); have d0 := h1.r 0 (by omega); have y0 := h1.z 1; have d10 := h1.c10; have y10 := h1.z 10; have H1 := Lib.hid h1; have M1' := Lib.hid m1; have U1 := Lib.hid u1; have l1 := h1.l; clear h1 m1 u1)
      | (go_at_call 132; (with_reducible refine (CS.out _ H1.out M1'.out).mono ?_); rintro e w2 ⟨rfl, h2, m2, u2⟩; have g8 := h2.r d hd; have z8 := h2.z (1 + d); have g10 := h2.c10; have z10 := h2.z 10; have l2 := h2.l; have H2 := Lib.hid h2; have M2 := Lib.hid m2; have U2 := Lib.hid u2; clear h2 m2 u2))
    go_region_with (go_at_call 125; (with_reducible refine (CF.out _).mono ?_); rintro e w3 ⟨rfl, rfl⟩)
    go_wp2
    go_end0
    exact ⟨rfl, atq_sto ((H2.out.setR d hd v).setF _).drew (hc_setA (hc_setA M2.out hne) hne).drew (up_setA (up_setA ((up_A U1.out).trans U2.out))).drew rfl⟩
set_option maxRecDepth 100000 in
set_option maxHeartbeats 4000000 in
theorem both26 (M : MM) (d : Nat) (hd : d < 8) (q : Int) (w : World) (h : AtB A p R pc f nx 0 x w) (hm : HC p M w) (hM : MOk M) (hR : ROk R) (hne : A ≠ p) (q0 : 0 ≤ q) (q1 : q < 4294967296) (f0 : 0 ≤ f) (f1 : f < 16) :
    Calls Try.prog 134 #[.pointer (some ⟨A, 0, none⟩), .int .i64 26, .int .i64 d, .int .u32 q] w fun e w' => e = .returned (.tuple #[]) ∧
      AtQ A p pc (ldO M R pc f q 4 fun v => if R 0 = v then stO M R pc f q 4 (R d) fun M' => ⟨M', R, nx, fl 3 (R 0) v f, 0, 0⟩ else stO M R pc f q 4 v fun M' => ⟨M', upd R 0 v, nx, fl 3 (R 0) v f, 0, 0⟩) w w' := by
  have hr := hR d
  have hr0 := hR 0
  have CL := Lib.hid (atload M q 4 w h hm hM hne q0 q1 (by omega))
  have e4 : (4 : Int).toNat = 4 := rfl
  rw [e4] at CL
  unfold ldO
  rw [e4]
  have hd0 : (0 : Int) ≤ (d : Int) := by omega
  have hd1 : (d : Int) < 8 := by omega
  have hv := ldv_bd hM q 4
  cases hs : srch M 1 q 4 with
  | some z =>
    rw [hs, show stK 5 (some z) = 5 from rfl, show stX (some z) = z from rfl] at CL
    have CS := Lib.hid (fun R' f' q n v w h => atstore_off (A := A) (p := p) (R := R') (pc := pc) (f := f') (nx := nx) (k := 5) (x := z) q n v w h (by omega))
    generalize ldv M q 4 = v at CL hv ⊢
    clear hs h hm
    have CF := Lib.hid (fun w => flags_any 3 (R 0) v f w hr0.1 hr0.2 hv.1 hv.2 f0 (by omega))
    by_cases hb : R 0 = v
    · have hb' : (R 0 == v) = true := by rw [hb]; exact beq_self_eq_true v
      clear hb
      go_enter Try.func134, Try.ntmps134
      go_wp2_with (first
        | (go_at_call 130; (with_reducible refine CL.out.mono ?_); rintro e w1 ⟨rfl, h1, m1, u1⟩; have d8 := h1.r d hd; have y8 := h1.z (1 + d); have d0 := h1.r 0 (by omega); have y0 := h1.z 1; have d10 := h1.c10; have y10 := h1.z 10; have H1 := Lib.hid h1; have M1' := Lib.hid m1; have U1 := Lib.hid u1; have l1 := h1.l; clear h1 m1 u1))
      go_region_with (go_at_call 125; (with_reducible refine (CF.out _).mono ?_); rintro e w3 ⟨rfl, rfl⟩)
      all_goals go_wp2_with (go_at_call 132; (with_reducible refine (CS.out _ _ _ _ _ _ (H1.out.setF _).drew).mono ?_); rintro e w2 ⟨rfl, rfl⟩)
      all_goals go_end0
      all_goals exact ⟨rfl, AtQ.stop (H1.out.setF _).drew (hc_setA M1'.out hne).drew (up_setA (up_A U1.out)).drew (by omega)⟩
    · have hb' : (R 0 == v) = false := by rw [beq_eq_false_iff_ne]; exact hb
      clear hb
      go_enter Try.func134, Try.ntmps134
      go_wp2_with (first
        | (go_at_call 130; (with_reducible refine CL.out.mono ?_); rintro e w1 ⟨rfl, h1, m1, u1⟩; have d8 := h1.r d hd; have y8 := h1.z (1 + d); have d0 := h1.r 0 (by omega); have y0 := h1.z 1; have d10 := h1.c10; have y10 := h1.z 10; have H1 := Lib.hid h1; have M1' := Lib.hid m1; have U1 := Lib.hid u1; have l1 := h1.l; clear h1 m1 u1))
      go_region_with (go_at_call 125; (with_reducible refine (CF.out _).mono ?_); rintro e w3 ⟨rfl, rfl⟩)
      all_goals go_wp2_with (go_at_call 132; (with_reducible refine (CS.out _ _ _ _ _ _ (H1.out.setF _).drew).mono ?_); rintro e w2 ⟨rfl, rfl⟩)
      all_goals go_end0
      all_goals exact ⟨rfl, AtQ.stop ((H1.out.setF _).drew.setR 0 (by omega) v) (hc_setA (hc_setA M1'.out hne).drew hne) (up_setA (up_setA (up_A U1.out)).drew) (by omega)⟩
  | none =>
    rw [hs, show stK 5 none = 0 from rfl, show stX none = 0 from rfl] at CL
    dsimp only
    have CF := Lib.hid (fun w => flags_any 3 (R 0) (ldv M q 4) f w hr0.1 hr0.2 hv.1 hv.2 f0 (by omega))
    by_cases hb : R 0 = ldv M q 4
    · rw [if_pos hb]
      have CS := Lib.hid (fun w h hm => atstore (A := A) (p := p) (R := R) (pc := pc) (f := fl 3 (R 0) (ldv M q 4) f) (nx := nx) (x := 0) M q 4 (R d) w h hm hM hne q0 q1 hr.1 hr.2)
      generalize ldv M q 4 = v at CL CS CF hb hv ⊢
      have hb' : (R 0 == v) = true := by rw [hb]; exact beq_self_eq_true v
      clear hs h hm hb
      go_enter Try.func134, Try.ntmps134
      go_wp2_with (first
        | (go_at_call 130; (with_reducible refine CL.out.mono ?_); rintro e w1 ⟨rfl, h1, m1, u1⟩; have d8 := h1.r d hd; have y8 := h1.z (1 + d); have d0 := h1.r 0 (by omega); have y0 := h1.z 1; have d10 := h1.c10; have y10 := h1.z 10; have H1 := Lib.hid h1; have M1' := Lib.hid m1; have U1 := Lib.hid u1; have l1 := h1.l; clear h1 m1 u1))
      go_region_with (go_at_call 125; (with_reducible refine (CF.out _).mono ?_); rintro e w3 ⟨rfl, rfl⟩)
      all_goals go_wp2_with (go_at_call 132; (with_reducible refine (CS.out _ (H1.out.setF _).drew (hc_setA M1'.out hne).drew).mono ?_); rintro e w2 ⟨rfl, h2, m2, u2⟩; have g8 := h2.r 0 (by omega); have z8 := h2.z 1; have l2 := h2.l; have H2 := Lib.hid h2; have M2 := Lib.hid m2; have U2 := Lib.hid u2; clear h2 m2 u2)
      all_goals go_end0
      all_goals exact ⟨rfl, atq_sto H2.out M2.out ((up_setA (up_A U1.out)).drew.trans U2.out) rfl⟩
    · rw [if_neg hb]
      have CS := Lib.hid (fun w h hm => atstore (A := A) (p := p) (R := R) (pc := pc) (f := fl 3 (R 0) (ldv M q 4) f) (nx := nx) (x := 0) M q 4 (ldv M q 4) w h hm hM hne q0 q1 hv.1 hv.2)
      generalize ldv M q 4 = v at CL CS CF hb hv ⊢
      have hb' : (R 0 == v) = false := by rw [beq_eq_false_iff_ne]; exact hb
      clear hs h hm hb
      go_enter Try.func134, Try.ntmps134
      go_wp2_with (first
        | (go_at_call 130; (with_reducible refine CL.out.mono ?_); rintro e w1 ⟨rfl, h1, m1, u1⟩; have d8 := h1.r d hd; have y8 := h1.z (1 + d); have d0 := h1.r 0 (by omega); have y0 := h1.z 1; have d10 := h1.c10; have y10 := h1.z 10; have H1 := Lib.hid h1; have M1' := Lib.hid m1; have U1 := Lib.hid u1; have l1 := h1.l; clear h1 m1 u1))
      go_region_with (go_at_call 125; (with_reducible refine (CF.out _).mono ?_); rintro e w3 ⟨rfl, rfl⟩)
      all_goals go_wp2_with (go_at_call 132; (with_reducible refine (CS.out _ (H1.out.setF _).drew (hc_setA M1'.out hne).drew).mono ?_); rintro e w2 ⟨rfl, h2, m2, u2⟩; have g8 := h2.r 0 (by omega); have z8 := h2.z 1; have l2 := h2.l; have H2 := Lib.hid h2; have M2 := Lib.hid m2; have U2 := Lib.hid u2; clear h2 m2 u2)
      all_goals go_end0
      all_goals exact ⟨rfl, atq_sto (H2.out.setR 0 (by omega) v) (hc_setA M2.out hne) (up_setA ((up_setA (up_A U1.out)).drew.trans U2.out)) rfl⟩
end Go.Proofs.Ytcjcmnnhmajocab.St
