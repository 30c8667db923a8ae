/- crossgrainlaw2.OptClean: the walk. -/
import Derived.Test.YtcjcmnnhmajocabPobe
import Derived.Test.YtcjcmnnhmajocabPobh
import Derived.Test.YtcjcmnnhmajocabIrPk
import Derived.Test.YtcjcmnnhmajocabPobl
import Derived.Test.YtcjcmnnhmajocabPobm
namespace Go.Proofs.Ytcjcmnnhmajocab.Ot
open Go.RowKit Kt Ic Me Ev
set_option linter.unusedVariables false
set_option linter.unusedSimpArgs false
theorem okr_of {o : Opr} (h : OprOk o) : OkR o := ⟨Kt.bd_i64 h.k, Kt.bd_i64 h.w, Kt.bd_i64 h.a, Kt.bd_i64 h.b, Kt.bd_i64 h.c, Kt.bd_u32 h.kn, Kt.bd_i64 h.n⟩
set_option maxRecDepth 100000 in
set_option maxHeartbeats 16000000 in
theorem optclean_walk (os : List Opr) (ao : Option Addr) (cap : Nat) (pc cnt byt : Int) (w : World) (hops : Ops os ao cap w) (hr : ∀ o ∈ os, OkR o) (hreach : os.length * 56 ≤ 140737488351232) :
    Calls Try.prog 6 #[.agg #[.int .u32 pc, .int .i64 cnt, .int .i64 byt, .slice ao os.length cap]] w fun e w' => e = .returned (.bool true) ∧ Below w.heap.size w w' := by
  obtain ⟨⟨er, z⟩, hc⟩ : ∃ p, chk os cnt byt = p := ⟨_, rfl⟩
  have CK := Lib.hid (fun w h => rcheck_any os ao cap pc cnt byt w h)
  rw [hc] at CK
  unfold errs at CK
  dsimp only at CK
  have HC := Lib.hid hc
  have HR := Lib.hid hr
  have RE := Lib.hid hreach
  have b1 := (Below.refl _ w).alloc (Nat.le_refl _) (.cells #[.int .u32 pc, .int .i64 cnt, .int .i64 byt, .slice ao os.length cap] 25)
  have Q1 := Lib.hid (QB.new w pc cnt byt (.slice ao os.length cap) 25)
  have O1 := Lib.hid (hops.keep b1)
  have B1 := Lib.hid b1
  clear hc hr hreach hops b1
  go_enter Try.func6, Try.ntmps6
  go_upto_region 1 with fail
  generalize w.alloc (.cells #[.int .u32 pc, .int .i64 cnt, .int .i64 byt, .slice ao os.length cap] 25) = w1 at *
  obtain ⟨Bx, hBx⟩ : ∃ Bx, w.heap.size = Bx := ⟨_, rfl⟩
  rw [hBx] at Q1 ⊢
  clear hBx
  obtain ⟨a0, a1, a2, a3, a4, a5⟩ := Q1.out
  by_cases he : er = 0
  case neg =>
    have hne : (er == 0) = false := by simpa using he
    clear he
    go_wp2_with (go_at_call 12; refine (CK.out _ O1.out).mono ?_; rintro e w2 ⟨rfl, b2⟩; have B2 := Lib.hid (B1.out.trans (b2.mono B1.out.size)); clear b2)
    go_ret
    exact ⟨rfl, B2.out⟩
  subst he
  go_wp2_with fail
  refine (CK.out _ O1.out).mono ?_
  rintro e w2 ⟨rfl, b2⟩
  have Q2 := Lib.hid (Q1.out.upto (Upto.of_below (S := fun _ => False) b2) id)
  have O2 := Lib.hid (O1.out.keep b2)
  have B2 := Lib.hid (B1.out.trans (b2.mono B1.out.size))
  clear b2 a0 a1 a2 a3 a4 a5 Q1 O1 B1
  obtain ⟨a0, a1, a2, a3, a4, a5⟩ := Q2.out
  go_wp2_with fail
  refine (twin_own os ao cap pc cnt byt w2 O2.out RE.out).mono ?_
  rintro e w3 ⟨ao1, c1, rfl, hf1, hO1, b3⟩
  have G0 := Lib.hid ((chk_good (cnt := cnt) (byt := byt) HR.out).1 (by rw [HC.out]))
  have O3 := Lib.hid hO1
  have B3 := Lib.hid (B2.out.trans (b3.mono B2.out.size))
  clear hf1 hO1 b3 a0 a1 a2 a3 a4 a5 Q2 O2 B2
  go_wp2_with fail
  refine (block_ok (Good cnt) (good_ok cnt) os ao1 c1 pc cnt byt w3 O3.out (by have := RE.out; omega) (by rw [HC.out]) G0.out.1).mono ?_
  rintro e w4 ⟨l, v, rfl, ow, b4, gl, fx, _⟩
  obtain ⟨av, cv, rfl, opv, _⟩ := ow.form
  have CL := Lib.hid (cl_of gl fx)
  have CKL := Lib.hid (fun w h => rcheck_any l av cv pc cnt byt w h)
  obtain ⟨⟨er2, z2⟩, hc2⟩ : ∃ p, chk l cnt byt = p := ⟨_, rfl⟩
  have he2 : er2 = 0 := by
    have := (chk_good (cnt := cnt) (byt := byt) (os := l) (fun o ho => by
      obtain ⟨m, hm, rfl⟩ := mem_opAt ho
      exact (gl.a.l m hm).r)).2 ⟨gl, G0.out.2⟩
    rw [hc2] at this; exact this
  subst he2
  rw [hc2] at CKL
  unfold errs at CKL
  dsimp only at CKL
  have O4 := Lib.hid opv
  have B4 := Lib.hid (B3.out.trans (b4.mono B3.out.size))
  clear hc2 ow opv b4 gl fx O3 B3
  go_upto_region 5 with fail
  have Q5' := Lib.hid (QB.new w4 pc cnt byt (.slice av l.length cv) 25)
  have O5' := Lib.hid (O4.out.keep ((Below.refl _ w4).alloc (Nat.le_refl _) (.cells #[.int .u32 pc, .int .i64 cnt, .int .i64 byt, .slice av l.length cv] 25)))
  have B5' := Lib.hid (B4.out.alloc B4.out.size (.cells #[.int .u32 pc, .int .i64 cnt, .int .i64 byt, .slice av l.length cv] 25))
  generalize w4.alloc (.cells #[.int .u32 pc, .int .i64 cnt, .int .i64 byt, .slice av l.length cv] 25) = w4' at *
  clear O4 B4 CK
  generalize w4.heap.size = Bl at *
  obtain ⟨a0, a1, a2, a3, a4, a5⟩ := Q5'.out
  go_wp2_with fail
  refine (CKL.out _ O5'.out).mono ?_
  rintro e w5 ⟨rfl, b5⟩
  have Q5 := Lib.hid (Q5'.out.upto (Upto.of_below (S := fun _ => False) b5) id)
  have O5 := Lib.hid (O5'.out.keep b5)
  have B5 := Lib.hid (B5'.out.trans (b5.mono B5'.out.size))
  clear b5 a0 a1 a2 a3 a4 a5 Q5' O5' B5' CKL
  have c5 := Q5.out.2.2.2.2.1
  have l5 := Q5.out.1
  go_wp2_with (first
    | (go_at_call 28; refine (idle_any CL.out av cv _ O5.out).mono ?_; rintro e w6 ⟨rfl, b6⟩; have Q6 := Lib.hid (Q5.out.upto (Upto.of_below (S := fun _ => False) b6) id); have O6 := Lib.hid (O5.out.keep b6); have B6 := Lib.hid (B5.out.trans (b6.mono B5.out.size)); have c6 := Q6.out.2.2.2.2.1; have l6 := Q6.out.1; clear b6)
    | (go_at_call 29; refine (folded_any CL.out av cv _ O6.out).mono ?_; rintro e w7 ⟨rfl, b7⟩; have Q7 := Lib.hid (Q6.out.upto (Upto.of_below (S := fun _ => False) b7) id); have O7 := Lib.hid (O6.out.keep b7); have B7 := Lib.hid (B6.out.trans (b7.mono B6.out.size)); have c7 := Q7.out.2.2.2.2.1; have l7 := Q7.out.1; clear b7)
    | (go_at_call 30; refine (once_any CL.out av cv _ O7.out).mono ?_; rintro e w8 ⟨rfl, b8⟩; have Q8 := Lib.hid (Q7.out.upto (Upto.of_below (S := fun _ => False) b8) id); have O8 := Lib.hid (O7.out.keep b8); have B8 := Lib.hid (B7.out.trans (b8.mono B7.out.size)); have c8 := Q8.out.2.2.2.2.1; have l8 := Q8.out.1; clear b8)
    | (go_at_call 31; refine (slots_any CL.out av cv _ O8.out).mono ?_; rintro e w9 ⟨rfl, b9⟩; have Q9 := Lib.hid (Q8.out.upto (Upto.of_below (S := fun _ => False) b9) id); have O9 := Lib.hid (O8.out.keep b9); have B9 := Lib.hid (B8.out.trans (b9.mono B8.out.size)); have c9 := Q9.out.2.2.2.2.1; have l9 := Q9.out.1; clear b9)
    | (go_at_call 32; refine (asked_any CL.out av cv _ O9.out).mono ?_; rintro e w10 ⟨rfl, b10⟩; have Q10 := Lib.hid (Q9.out.upto (Upto.of_below (S := fun _ => False) b10) id); have O10 := Lib.hid (O9.out.keep b10); have B10 := Lib.hid (B9.out.trans (b10.mono B9.out.size)); have c10 := Q10.out.2.2.2.2.1; have l10 := Q10.out.1; clear b10))
  go_ret
  exact ⟨rfl, B10.out⟩
end Go.Proofs.Ytcjcmnnhmajocab.Ot
