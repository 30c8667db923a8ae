/- One step of both, whatever is there: what stepO says. -/
import Derived.RegionTactic
import Derived.BigRegion
import Derived.Deep.RegionWith
import Derived.Deep.RegionHeld3
import Derived.Test.YtcjcmnnhmajocabPkah
import Derived.Test.YtcjcmnnhmajocabPkai
import Derived.Test.YtcjcmnnhmajocabPkao
import Derived.Test.YtcjcmnnhmajocabPkat
import Derived.Test.YtcjcmnnhmajocabPkau
import Derived.Test.YtcjcmnnhmajocabPkaw
import Derived.Test.YtcjcmnnhmajocabPkax
import Derived.Test.YtcjcmnnhmajocabPkay
import Derived.Test.YtcjcmnnhmajocabPkaz
import Derived.Test.YtcjcmnnhmajocabPkba
import Derived.Test.YtcjcmnnhmajocabPkbb
import Derived.Test.YtcjcmnnhmajocabPkbc
import Derived.Test.YtcjcmnnhmajocabPkbd
import Derived.Test.YtcjcmnnhmajocabPkbe
import Derived.Test.YtcjcmnnhmajocabPkbf
import Derived.Test.YtcjcmnnhmajocabPkbg
import Derived.Test.YtcjcmnnhmajocabPkbh
import Derived.Test.YtcjcmnnhmajocabPkbi
namespace Go.Proofs.Ytcjcmnnhmajocab.St
open Go.RowKit Kt Me Fl Gu
set_option linter.unusedVariables false
set_option linter.unusedSimpArgs false
variable {R : Nat → Int} {pc f nx : Int}
theorem ldv_bd1 {M : MM} (hM : MOk M) (a : Int) : ldv M a 1 < 256 := by
  have b0 := hM.1 (a.toNat + 0)
  unfold ldv byt
  rw [if_pos rfl]
  split <;> omega
theorem ldv_bd2 {M : MM} (hM : MOk M) (a : Int) : ldv M a 2 < 65536 := by
  have b0 := hM.1 (a.toNat + 0)
  have b1 := hM.1 (a.toNat + 1)
  unfold ldv byt
  split
  · rw [if_neg (by decide), if_pos rfl]; omega
  · omega
/-- what memory is asked to leave -/
def MemQ (P : RP) (w : World) (o : Out) (e : Ending) (w' : World) : Prop := e = .returned (outV o) ∧ RM P o.M w' ∧ Upto P.has w w'
theorem ldv_some {M : MM} {a n x : Int} (h : srch M 1 a n.toNat = some x) : ldv M a n = 0 := by
  unfold ldv
  rw [h]
  rfl
theorem mj_2 (P : RP) (M : MM) (d s : Nat) (o m : Int) (hd : d < 8) (hs : s < 8) (w : World) (hm : RM P M w) (hM : MOk M) (hR : ROk R) (n0 : 0 ≤ nx) (n1 : nx < 4294967296) (f0 : 0 ≤ f) (f1 : f < 16) : Calls Try.prog 87 #[.pointer (some ⟨P.q, 0, none⟩), insL 2 d s o m, stV R pc f, stV R nx f, .int .u32 (w32 (R s + m))] w (MemQ P w (stay R pc f (opO M R pc f nx 2 d s o m))) := by
  have eO : opO M R pc f nx 2 d s o m = ldO M R pc f (R 7) 4 fun v => ⟨M, upd R 7 (w32 (R 7 + 4)), v, f, 0, 0⟩ := rfl
  rw [eO]
  clear eO
  have qb := hR 7
  have CL := fun w h => rload_any P M (R 7) 4 w h hM qb.1 qb.2 (by omega)
  obtain ⟨b0, b1⟩ := ldv_bd hM (R 7) 4
  unfold ldO
  obtain ⟨oo, ho⟩ : ∃ oo, srch M 1 (R 7) (4 : Int).toNat = oo := ⟨_, rfl⟩
  rw [ho] at CL ⊢
  rcases oo with _ | x
  · refine (me_2 P M d s o m (w32 (R s + m)) hd hs w hm hR _ b0 b1 0 0 CL).mono ?_
    rintro e w' ⟨h1, h2, h3⟩
    exact ⟨h1, h2, h3⟩
  · refine (me_2 P M d s o m (w32 (R s + m)) hd hs w hm hR _ b0 b1 5 x CL).mono ?_
    rintro e w' ⟨h1, h2, h3⟩
    exact ⟨h1, h2, h3⟩
theorem mj_4 (P : RP) (M : MM) (d s : Nat) (o m : Int) (hd : d < 8) (hs : s < 8) (w : World) (hm : RM P M w) (hM : MOk M) (hR : ROk R) (n0 : 0 ≤ nx) (n1 : nx < 4294967296) (f0 : 0 ≤ f) (f1 : f < 16) : Calls Try.prog 87 #[.pointer (some ⟨P.q, 0, none⟩), insL 4 d s o m, stV R pc f, stV R nx f, .int .u32 (w32 (R s + m))] w (MemQ P w (stay R pc f (opO M R pc f nx 4 d s o m))) := by
  have eO : opO M R pc f nx 4 d s o m = ldO M R pc f (R 7) 4 fun v => ⟨M, upd R 7 (w32 (R 7 + 4)), nx, v % 16, 0, 0⟩ := rfl
  rw [eO]
  clear eO
  have qb := hR 7
  have CL := fun w h => rload_any P M (R 7) 4 w h hM qb.1 qb.2 (by omega)
  obtain ⟨b0, b1⟩ := ldv_bd hM (R 7) 4
  unfold ldO
  obtain ⟨oo, ho⟩ : ∃ oo, srch M 1 (R 7) (4 : Int).toNat = oo := ⟨_, rfl⟩
  rw [ho] at CL ⊢
  rcases oo with _ | x
  · refine (me_4 P M d s o m (w32 (R s + m)) hd hs w hm hR _ b0 b1 0 0 CL).mono ?_
    rintro e w' ⟨h1, h2, h3⟩
    exact ⟨h1, h2, h3⟩
  · refine (me_4 P M d s o m (w32 (R s + m)) hd hs w hm hR _ b0 b1 5 x CL).mono ?_
    rintro e w' ⟨h1, h2, h3⟩
    exact ⟨h1, h2, h3⟩
theorem mj_15 (P : RP) (M : MM) (d s : Nat) (o m : Int) (hd : d < 8) (hs : s < 8) (w : World) (hm : RM P M w) (hM : MOk M) (hR : ROk R) (n0 : 0 ≤ nx) (n1 : nx < 4294967296) (f0 : 0 ≤ f) (f1 : f < 16) : Calls Try.prog 87 #[.pointer (some ⟨P.q, 0, none⟩), insL 15 d s o m, stV R pc f, stV R nx f, .int .u32 (w32 (R s + m))] w (MemQ P w (stay R pc f (opO M R pc f nx 15 d s o m))) := by
  have eO : opO M R pc f nx 15 d s o m = ldO M R pc f (R 7) 4 fun v => ⟨M, upd (upd R 7 (w32 (R 7 + 4))) d v, nx, f, 0, 0⟩ := rfl
  rw [eO]
  clear eO
  have qb := hR 7
  have CL := fun w h => rload_any P M (R 7) 4 w h hM qb.1 qb.2 (by omega)
  obtain ⟨b0, b1⟩ := ldv_bd hM (R 7) 4
  unfold ldO
  obtain ⟨oo, ho⟩ : ∃ oo, srch M 1 (R 7) (4 : Int).toNat = oo := ⟨_, rfl⟩
  rw [ho] at CL ⊢
  rcases oo with _ | x
  · refine (me_15 P M d s o m (w32 (R s + m)) hd hs w hm hR _ b0 b1 0 0 CL).mono ?_
    rintro e w' ⟨h1, h2, h3⟩
    exact ⟨h1, h2, h3⟩
  · refine (me_15 P M d s o m (w32 (R s + m)) hd hs w hm hR _ b0 b1 5 x CL).mono ?_
    rintro e w' ⟨h1, h2, h3⟩
    exact ⟨h1, h2, h3⟩
theorem mj_11 (P : RP) (M : MM) (d s : Nat) (o m : Int) (hd : d < 8) (hs : s < 8) (w : World) (hm : RM P M w) (hM : MOk M) (hR : ROk R) (n0 : 0 ≤ nx) (n1 : nx < 4294967296) (f0 : 0 ≤ f) (f1 : f < 16) : Calls Try.prog 87 #[.pointer (some ⟨P.q, 0, none⟩), insL 11 d s o m, stV R pc f, stV R nx f, .int .u32 (w32 (R s + m))] w (MemQ P w (stay R pc f (opO M R pc f nx 11 d s o m))) := by
  have eO : opO M R pc f nx 11 d s o m = ldO M R pc f (w32 (R s + m)) 4 fun v => ⟨M, R, v, f, 0, 0⟩ := rfl
  rw [eO]
  clear eO
  have qb := w32_bd (R s + m)
  have CL := fun w h => rload_any P M (w32 (R s + m)) 4 w h hM qb.1 qb.2 (by omega)
  obtain ⟨b0, b1⟩ := ldv_bd hM (w32 (R s + m)) 4
  unfold ldO
  obtain ⟨oo, ho⟩ : ∃ oo, srch M 1 (w32 (R s + m)) (4 : Int).toNat = oo := ⟨_, rfl⟩
  rw [ho] at CL ⊢
  rcases oo with _ | x
  · refine (me_11 P M d s o m (w32 (R s + m)) hd hs w hm hR _ b0 b1 0 0 CL).mono ?_
    rintro e w' ⟨h1, h2, h3⟩
    exact ⟨h1, h2, h3⟩
  · refine (me_11 P M d s o m (w32 (R s + m)) hd hs w hm hR _ b0 b1 5 x CL).mono ?_
    rintro e w' ⟨h1, h2, h3⟩
    exact ⟨h1, h2, h3⟩
theorem mj_3 (P : RP) (M : MM) (d s : Nat) (o m : Int) (hd : d < 8) (hs : s < 8) (w : World) (hm : RM P M w) (hM : MOk M) (hR : ROk R) (n0 : 0 ≤ nx) (n1 : nx < 4294967296) (f0 : 0 ≤ f) (f1 : f < 16) : Calls Try.prog 87 #[.pointer (some ⟨P.q, 0, none⟩), insL 3 d s o m, stV R pc f, stV R nx f, .int .u32 (w32 (R s + m))] w (MemQ P w (stay R pc f (opO M R pc f nx 3 d s o m))) := by
  have eO : opO M R pc f nx 3 d s o m = stO M R pc f (w32 (R 7 - 4)) 4 (f) fun M' => ⟨M', upd R 7 (w32 (R 7 - 4)), nx, f, 0, 0⟩ := rfl
  rw [eO]
  clear eO
  have qb := w32_bd (R 7 - 4)
  have vb : 0 ≤ f ∧ f < 4294967296 := ⟨f0, (by omega : f < 4294967296)⟩
  have CL := fun w h => rstore_any P M (w32 (R 7 - 4)) 4 (f) w h hM qb.1 qb.2 vb.1 vb.2
  unfold stO
  obtain ⟨oo, ho⟩ : ∃ oo, sto M (w32 (R 7 - 4)) 4 = oo := ⟨_, rfl⟩
  rw [ho] at CL ⊢
  rcases oo with _ | x
  · refine (me_3 P M d s o m (w32 (R s + m)) hd hs w hm hR _ 0 0 CL).mono ?_
    rintro e w' ⟨h1, h2, h3⟩
    exact ⟨h1, h2, h3⟩
  · rw [sto_some ho] at CL
    refine (me_3 P M d s o m (w32 (R s + m)) hd hs w hm hR _ 6 x CL).mono ?_
    rintro e w' ⟨h1, h2, h3⟩
    exact ⟨h1, h2, h3⟩
theorem mj_8 (P : RP) (M : MM) (d s : Nat) (o m : Int) (hd : d < 8) (hs : s < 8) (w : World) (hm : RM P M w) (hM : MOk M) (hR : ROk R) (n0 : 0 ≤ nx) (n1 : nx < 4294967296) (f0 : 0 ≤ f) (f1 : f < 16) : Calls Try.prog 87 #[.pointer (some ⟨P.q, 0, none⟩), insL 8 d s o m, stV R pc f, stV R nx f, .int .u32 (w32 (R s + m))] w (MemQ P w (stay R pc f (opO M R pc f nx 8 d s o m))) := by
  have eO : opO M R pc f nx 8 d s o m = stO M R pc f (w32 (R 7 - 4)) 4 (nx) fun M' => ⟨M', upd R 7 (w32 (R 7 - 4)), w32 (nx + m), f, 0, 0⟩ := rfl
  rw [eO]
  clear eO
  have qb := w32_bd (R 7 - 4)
  have vb : 0 ≤ nx ∧ nx < 4294967296 := ⟨n0, n1⟩
  have CL := fun w h => rstore_any P M (w32 (R 7 - 4)) 4 (nx) w h hM qb.1 qb.2 vb.1 vb.2
  unfold stO
  obtain ⟨oo, ho⟩ : ∃ oo, sto M (w32 (R 7 - 4)) 4 = oo := ⟨_, rfl⟩
  rw [ho] at CL ⊢
  rcases oo with _ | x
  · refine (me_8 P M d s o m (w32 (R s + m)) hd hs w hm hR _ 0 0 CL).mono ?_
    rintro e w' ⟨h1, h2, h3⟩
    exact ⟨h1, h2, h3⟩
  · rw [sto_some ho] at CL
    refine (me_8 P M d s o m (w32 (R s + m)) hd hs w hm hR _ 6 x CL).mono ?_
    rintro e w' ⟨h1, h2, h3⟩
    exact ⟨h1, h2, h3⟩
theorem mj_10 (P : RP) (M : MM) (d s : Nat) (o m : Int) (hd : d < 8) (hs : s < 8) (w : World) (hm : RM P M w) (hM : MOk M) (hR : ROk R) (n0 : 0 ≤ nx) (n1 : nx < 4294967296) (f0 : 0 ≤ f) (f1 : f < 16) : Calls Try.prog 87 #[.pointer (some ⟨P.q, 0, none⟩), insL 10 d s o m, stV R pc f, stV R nx f, .int .u32 (w32 (R s + m))] w (MemQ P w (stay R pc f (opO M R pc f nx 10 d s o m))) := by
  have eO : opO M R pc f nx 10 d s o m = stO M R pc f (w32 (R 7 - 4)) 4 (nx) fun M' => ⟨M', upd R 7 (w32 (R 7 - 4)), R s, f, 0, 0⟩ := rfl
  rw [eO]
  clear eO
  have qb := w32_bd (R 7 - 4)
  have vb : 0 ≤ nx ∧ nx < 4294967296 := ⟨n0, n1⟩
  have CL := fun w h => rstore_any P M (w32 (R 7 - 4)) 4 (nx) w h hM qb.1 qb.2 vb.1 vb.2
  unfold stO
  obtain ⟨oo, ho⟩ : ∃ oo, sto M (w32 (R 7 - 4)) 4 = oo := ⟨_, rfl⟩
  rw [ho] at CL ⊢
  rcases oo with _ | x
  · refine (me_10 P M d s o m (w32 (R s + m)) hd hs w hm hR _ 0 0 CL).mono ?_
    rintro e w' ⟨h1, h2, h3⟩
    exact ⟨h1, h2, h3⟩
  · rw [sto_some ho] at CL
    refine (me_10 P M d s o m (w32 (R s + m)) hd hs w hm hR _ 6 x CL).mono ?_
    rintro e w' ⟨h1, h2, h3⟩
    exact ⟨h1, h2, h3⟩
theorem mj_14 (P : RP) (M : MM) (d s : Nat) (o m : Int) (hd : d < 8) (hs : s < 8) (w : World) (hm : RM P M w) (hM : MOk M) (hR : ROk R) (n0 : 0 ≤ nx) (n1 : nx < 4294967296) (f0 : 0 ≤ f) (f1 : f < 16) : Calls Try.prog 87 #[.pointer (some ⟨P.q, 0, none⟩), insL 14 d s o m, stV R pc f, stV R nx f, .int .u32 (w32 (R s + m))] w (MemQ P w (stay R pc f (opO M R pc f nx 14 d s o m))) := by
  have eO : opO M R pc f nx 14 d s o m = stO M R pc f (w32 (R 7 - 4)) 4 (R s) fun M' => ⟨M', upd R 7 (w32 (R 7 - 4)), nx, f, 0, 0⟩ := rfl
  rw [eO]
  clear eO
  have qb := w32_bd (R 7 - 4)
  have vb : 0 ≤ R s ∧ R s < 4294967296 := hR s
  have CL := fun w h => rstore_any P M (w32 (R 7 - 4)) 4 (R s) w h hM qb.1 qb.2 vb.1 vb.2
  unfold stO
  obtain ⟨oo, ho⟩ : ∃ oo, sto M (w32 (R 7 - 4)) 4 = oo := ⟨_, rfl⟩
  rw [ho] at CL ⊢
  rcases oo with _ | x
  · refine (me_14 P M d s o m (w32 (R s + m)) hd hs w hm hR _ 0 0 CL).mono ?_
    rintro e w' ⟨h1, h2, h3⟩
    exact ⟨h1, h2, h3⟩
  · rw [sto_some ho] at CL
    refine (me_14 P M d s o m (w32 (R s + m)) hd hs w hm hR _ 6 x CL).mono ?_
    rintro e w' ⟨h1, h2, h3⟩
    exact ⟨h1, h2, h3⟩
theorem mj_30_0 (P : RP) (M : MM) (d s : Nat) (m : Int) (hd : d < 8) (hs : s < 8) (w : World) (hm : RM P M w) (hM : MOk M) (hR : ROk R) (n0 : 0 ≤ nx) (n1 : nx < 4294967296) (f0 : 0 ≤ f) (f1 : f < 16) : Calls Try.prog 87 #[.pointer (some ⟨P.q, 0, none⟩), insL 30 d s 0 m, stV R pc f, stV R nx f, .int .u32 (w32 (R s + m))] w (MemQ P w (stay R pc f (opO M R pc f nx 30 d s 0 m))) := by
  have eO : opO M R pc f nx 30 d s 0 m = ldO M R pc f (w32 (R s + m)) 1 fun v => ⟨M, upd R d (widen 0 v), nx, f, 0, 0⟩ := rfl
  rw [eO]
  clear eO
  have qb := w32_bd (R s + m)
  have CL := fun w h => rload_any P M (w32 (R s + m)) 1 w h hM qb.1 qb.2 (by omega)
  obtain ⟨b0, b1⟩ := ldv_bd hM (w32 (R s + m)) 1
  unfold ldO
  obtain ⟨oo, ho⟩ : ∃ oo, srch M 1 (w32 (R s + m)) (1 : Int).toNat = oo := ⟨_, rfl⟩
  rw [ho] at CL ⊢
  rcases oo with _ | x
  · refine (me_30_0 P M d s m (w32 (R s + m)) hd hs w hm hR _ b0 b1 0 0 CL).mono ?_
    rintro e w' ⟨h1, h2, h3⟩
    exact ⟨h1, h2, h3⟩
  · refine (me_30_0 P M d s m (w32 (R s + m)) hd hs w hm hR _ b0 b1 5 x CL).mono ?_
    rintro e w' ⟨h1, h2, h3⟩
    exact ⟨h1, h2, h3⟩
theorem mj_30_1 (P : RP) (M : MM) (d s : Nat) (m : Int) (hd : d < 8) (hs : s < 8) (w : World) (hm : RM P M w) (hM : MOk M) (hR : ROk R) (n0 : 0 ≤ nx) (n1 : nx < 4294967296) (f0 : 0 ≤ f) (f1 : f < 16) : Calls Try.prog 87 #[.pointer (some ⟨P.q, 0, none⟩), insL 30 d s 1 m, stV R pc f, stV R nx f, .int .u32 (w32 (R s + m))] w (MemQ P w (stay R pc f (opO M R pc f nx 30 d s 1 m))) := by
  have eO : opO M R pc f nx 30 d s 1 m = ldO M R pc f (w32 (R s + m)) 1 fun v => ⟨M, upd R d (widen 1 v), nx, f, 0, 0⟩ := rfl
  rw [eO]
  clear eO
  have qb := w32_bd (R s + m)
  have CL := fun w h => rload_any P M (w32 (R s + m)) 1 w h hM qb.1 qb.2 (by omega)
  obtain ⟨b0, b1⟩ := ldv_bd hM (w32 (R s + m)) 1
  have b2 := ldv_bd1 hM (w32 (R s + m))
  unfold ldO
  obtain ⟨oo, ho⟩ : ∃ oo, srch M 1 (w32 (R s + m)) (1 : Int).toNat = oo := ⟨_, rfl⟩
  rw [ho] at CL ⊢
  rcases oo with _ | x
  · clear ho
    generalize ldv M (w32 (R s + m)) 1 = v at b0 b1 b2 CL ⊢
    by_cases hv : 128 ≤ v
    · have ew : widen 1 v = v + 4294967040 := by unfold widen; split <;> (try split) <;> omega
      show Calls Try.prog 87 _ w (MemQ P w (stay R pc f ⟨M, upd R d (widen 1 v), nx, f, 0, 0⟩))
      rw [ew]
      refine (me_30_1ge P M d s m (w32 (R s + m)) hd hs w hm hR _ b0 b1 0 0 hv (by omega) CL).mono ?_
      rintro e w' ⟨h1, h2, h3⟩
      exact ⟨h1, h2, h3⟩
    · have ew : widen 1 v = v := by unfold widen; split <;> (try split) <;> omega
      show Calls Try.prog 87 _ w (MemQ P w (stay R pc f ⟨M, upd R d (widen 1 v), nx, f, 0, 0⟩))
      rw [ew]
      refine (me_30_1lt P M d s m (w32 (R s + m)) hd hs w hm hR _ b0 b1 0 0 (by omega) CL).mono ?_
      rintro e w' ⟨h1, h2, h3⟩
      exact ⟨h1, h2, h3⟩
  · have e0 := ldv_some ho
    rw [e0] at CL b0 b1
    refine (me_30_1lt P M d s m (w32 (R s + m)) hd hs w hm hR _ b0 b1 5 x (by omega) CL).mono ?_
    rintro e w' ⟨h1, h2, h3⟩
    exact ⟨h1, h2, h3⟩
theorem mj_30_2 (P : RP) (M : MM) (d s : Nat) (m : Int) (hd : d < 8) (hs : s < 8) (w : World) (hm : RM P M w) (hM : MOk M) (hR : ROk R) (n0 : 0 ≤ nx) (n1 : nx < 4294967296) (f0 : 0 ≤ f) (f1 : f < 16) : Calls Try.prog 87 #[.pointer (some ⟨P.q, 0, none⟩), insL 30 d s 2 m, stV R pc f, stV R nx f, .int .u32 (w32 (R s + m))] w (MemQ P w (stay R pc f (opO M R pc f nx 30 d s 2 m))) := by
  have eO : opO M R pc f nx 30 d s 2 m = ldO M R pc f (w32 (R s + m)) 2 fun v => ⟨M, upd R d (widen 2 v), nx, f, 0, 0⟩ := rfl
  rw [eO]
  clear eO
  have qb := w32_bd (R s + m)
  have CL := fun w h => rload_any P M (w32 (R s + m)) 2 w h hM qb.1 qb.2 (by omega)
  obtain ⟨b0, b1⟩ := ldv_bd hM (w32 (R s + m)) 2
  unfold ldO
  obtain ⟨oo, ho⟩ : ∃ oo, srch M 1 (w32 (R s + m)) (2 : Int).toNat = oo := ⟨_, rfl⟩
  rw [ho] at CL ⊢
  rcases oo with _ | x
  · refine (me_30_2 P M d s m (w32 (R s + m)) hd hs w hm hR _ b0 b1 0 0 CL).mono ?_
    rintro e w' ⟨h1, h2, h3⟩
    exact ⟨h1, h2, h3⟩
  · refine (me_30_2 P M d s m (w32 (R s + m)) hd hs w hm hR _ b0 b1 5 x CL).mono ?_
    rintro e w' ⟨h1, h2, h3⟩
    exact ⟨h1, h2, h3⟩
theorem mj_30_3 (P : RP) (M : MM) (d s : Nat) (m : Int) (hd : d < 8) (hs : s < 8) (w : World) (hm : RM P M w) (hM : MOk M) (hR : ROk R) (n0 : 0 ≤ nx) (n1 : nx < 4294967296) (f0 : 0 ≤ f) (f1 : f < 16) : Calls Try.prog 87 #[.pointer (some ⟨P.q, 0, none⟩), insL 30 d s 3 m, stV R pc f, stV R nx f, .int .u32 (w32 (R s + m))] w (MemQ P w (stay R pc f (opO M R pc f nx 30 d s 3 m))) := by
  have eO : opO M R pc f nx 30 d s 3 m = ldO M R pc f (w32 (R s + m)) 2 fun v => ⟨M, upd R d (widen 3 v), nx, f, 0, 0⟩ := rfl
  rw [eO]
  clear eO
  have qb := w32_bd (R s + m)
  have CL := fun w h => rload_any P M (w32 (R s + m)) 2 w h hM qb.1 qb.2 (by omega)
  obtain ⟨b0, b1⟩ := ldv_bd hM (w32 (R s + m)) 2
  have b2 := ldv_bd2 hM (w32 (R s + m))
  unfold ldO
  obtain ⟨oo, ho⟩ : ∃ oo, srch M 1 (w32 (R s + m)) (2 : Int).toNat = oo := ⟨_, rfl⟩
  rw [ho] at CL ⊢
  rcases oo with _ | x
  · clear ho
    generalize ldv M (w32 (R s + m)) 2 = v at b0 b1 b2 CL ⊢
    by_cases hv : 32768 ≤ v
    · have ew : widen 3 v = v + 4294901760 := by unfold widen; split <;> (try split) <;> omega
      show Calls Try.prog 87 _ w (MemQ P w (stay R pc f ⟨M, upd R d (widen 3 v), nx, f, 0, 0⟩))
      rw [ew]
      refine (me_30_3ge P M d s m (w32 (R s + m)) hd hs w hm hR _ b0 b1 0 0 hv (by omega) CL).mono ?_
      rintro e w' ⟨h1, h2, h3⟩
      exact ⟨h1, h2, h3⟩
    · have ew : widen 3 v = v := by unfold widen; split <;> (try split) <;> omega
      show Calls Try.prog 87 _ w (MemQ P w (stay R pc f ⟨M, upd R d (widen 3 v), nx, f, 0, 0⟩))
      rw [ew]
      refine (me_30_3lt P M d s m (w32 (R s + m)) hd hs w hm hR _ b0 b1 0 0 (by omega) CL).mono ?_
      rintro e w' ⟨h1, h2, h3⟩
      exact ⟨h1, h2, h3⟩
  · have e0 := ldv_some ho
    rw [e0] at CL b0 b1
    refine (me_30_3lt P M d s m (w32 (R s + m)) hd hs w hm hR _ b0 b1 5 x (by omega) CL).mono ?_
    rintro e w' ⟨h1, h2, h3⟩
    exact ⟨h1, h2, h3⟩
theorem mj_30_4 (P : RP) (M : MM) (d s : Nat) (m : Int) (hd : d < 8) (hs : s < 8) (w : World) (hm : RM P M w) (hM : MOk M) (hR : ROk R) (n0 : 0 ≤ nx) (n1 : nx < 4294967296) (f0 : 0 ≤ f) (f1 : f < 16) : Calls Try.prog 87 #[.pointer (some ⟨P.q, 0, none⟩), insL 30 d s 4 m, stV R pc f, stV R nx f, .int .u32 (w32 (R s + m))] w (MemQ P w (stay R pc f (opO M R pc f nx 30 d s 4 m))) := by
  have eO : opO M R pc f nx 30 d s 4 m = ldO M R pc f (w32 (R s + m)) 4 fun v => ⟨M, upd R d (widen 4 v), nx, f, 0, 0⟩ := rfl
  rw [eO]
  clear eO
  have qb := w32_bd (R s + m)
  have CL := fun w h => rload_any P M (w32 (R s + m)) 4 w h hM qb.1 qb.2 (by omega)
  obtain ⟨b0, b1⟩ := ldv_bd hM (w32 (R s + m)) 4
  unfold ldO
  obtain ⟨oo, ho⟩ : ∃ oo, srch M 1 (w32 (R s + m)) (4 : Int).toNat = oo := ⟨_, rfl⟩
  rw [ho] at CL ⊢
  rcases oo with _ | x
  · refine (me_30_4 P M d s m (w32 (R s + m)) hd hs w hm hR _ b0 b1 0 0 CL).mono ?_
    rintro e w' ⟨h1, h2, h3⟩
    exact ⟨h1, h2, h3⟩
  · refine (me_30_4 P M d s m (w32 (R s + m)) hd hs w hm hR _ b0 b1 5 x CL).mono ?_
    rintro e w' ⟨h1, h2, h3⟩
    exact ⟨h1, h2, h3⟩
theorem mj_31_0 (P : RP) (M : MM) (d s : Nat) (m : Int) (hd : d < 8) (hs : s < 8) (w : World) (hm : RM P M w) (hM : MOk M) (hR : ROk R) (n0 : 0 ≤ nx) (n1 : nx < 4294967296) (f0 : 0 ≤ f) (f1 : f < 16) : Calls Try.prog 87 #[.pointer (some ⟨P.q, 0, none⟩), insL 31 d s 0 m, stV R pc f, stV R nx f, .int .u32 (w32 (R s + m))] w (MemQ P w (stay R pc f (opO M R pc f nx 31 d s 0 m))) := by
  have eO : opO M R pc f nx 31 d s 0 m = stO M R pc f (w32 (R s + m)) 1 (R d) fun M' => ⟨M', R, nx, f, 0, 0⟩ := rfl
  rw [eO]
  clear eO
  have qb := w32_bd (R s + m)
  have vb : 0 ≤ R d ∧ R d < 4294967296 := hR d
  have CL := fun w h => rstore_any P M (w32 (R s + m)) 1 (R d) w h hM qb.1 qb.2 vb.1 vb.2
  unfold stO
  obtain ⟨oo, ho⟩ : ∃ oo, sto M (w32 (R s + m)) 1 = oo := ⟨_, rfl⟩
  rw [ho] at CL ⊢
  rcases oo with _ | x
  · refine (me_31_0 P M d s m (w32 (R s + m)) hd hs w hm hR _ 0 0 CL).mono ?_
    rintro e w' ⟨h1, h2, h3⟩
    exact ⟨h1, h2, h3⟩
  · rw [sto_some ho] at CL
    refine (me_31_0 P M d s m (w32 (R s + m)) hd hs w hm hR _ 6 x CL).mono ?_
    rintro e w' ⟨h1, h2, h3⟩
    exact ⟨h1, h2, h3⟩
theorem mj_31_1 (P : RP) (M : MM) (d s : Nat) (m : Int) (hd : d < 8) (hs : s < 8) (w : World) (hm : RM P M w) (hM : MOk M) (hR : ROk R) (n0 : 0 ≤ nx) (n1 : nx < 4294967296) (f0 : 0 ≤ f) (f1 : f < 16) : Calls Try.prog 87 #[.pointer (some ⟨P.q, 0, none⟩), insL 31 d s 1 m, stV R pc f, stV R nx f, .int .u32 (w32 (R s + m))] w (MemQ P w (stay R pc f (opO M R pc f nx 31 d s 1 m))) := by
  have eO : opO M R pc f nx 31 d s 1 m = stO M R pc f (w32 (R s + m)) 2 (R d) fun M' => ⟨M', R, nx, f, 0, 0⟩ := rfl
  rw [eO]
  clear eO
  have qb := w32_bd (R s + m)
  have vb : 0 ≤ R d ∧ R d < 4294967296 := hR d
  have CL := fun w h => rstore_any P M (w32 (R s + m)) 2 (R d) w h hM qb.1 qb.2 vb.1 vb.2
  unfold stO
  obtain ⟨oo, ho⟩ : ∃ oo, sto M (w32 (R s + m)) 2 = oo := ⟨_, rfl⟩
  rw [ho] at CL ⊢
  rcases oo with _ | x
  · refine (me_31_1 P M d s m (w32 (R s + m)) hd hs w hm hR _ 0 0 CL).mono ?_
    rintro e w' ⟨h1, h2, h3⟩
    exact ⟨h1, h2, h3⟩
  · rw [sto_some ho] at CL
    refine (me_31_1 P M d s m (w32 (R s + m)) hd hs w hm hR _ 6 x CL).mono ?_
    rintro e w' ⟨h1, h2, h3⟩
    exact ⟨h1, h2, h3⟩
theorem mj_31_2 (P : RP) (M : MM) (d s : Nat) (m : Int) (hd : d < 8) (hs : s < 8) (w : World) (hm : RM P M w) (hM : MOk M) (hR : ROk R) (n0 : 0 ≤ nx) (n1 : nx < 4294967296) (f0 : 0 ≤ f) (f1 : f < 16) : Calls Try.prog 87 #[.pointer (some ⟨P.q, 0, none⟩), insL 31 d s 2 m, stV R pc f, stV R nx f, .int .u32 (w32 (R s + m))] w (MemQ P w (stay R pc f (opO M R pc f nx 31 d s 2 m))) := by
  have eO : opO M R pc f nx 31 d s 2 m = stO M R pc f (w32 (R s + m)) 4 (R d) fun M' => ⟨M', R, nx, f, 0, 0⟩ := rfl
  rw [eO]
  clear eO
  have qb := w32_bd (R s + m)
  have vb : 0 ≤ R d ∧ R d < 4294967296 := hR d
  have CL := fun w h => rstore_any P M (w32 (R s + m)) 4 (R d) w h hM qb.1 qb.2 vb.1 vb.2
  unfold stO
  obtain ⟨oo, ho⟩ : ∃ oo, sto M (w32 (R s + m)) 4 = oo := ⟨_, rfl⟩
  rw [ho] at CL ⊢
  rcases oo with _ | x
  · refine (me_31_2 P M d s m (w32 (R s + m)) hd hs w hm hR _ 0 0 CL).mono ?_
    rintro e w' ⟨h1, h2, h3⟩
    exact ⟨h1, h2, h3⟩
  · rw [sto_some ho] at CL
    refine (me_31_2 P M d s m (w32 (R s + m)) hd hs w hm hR _ 6 x CL).mono ?_
    rintro e w' ⟨h1, h2, h3⟩
    exact ⟨h1, h2, h3⟩
theorem mj_24 (P : RP) (M : MM) (d s : Nat) (o m : Int) (hd : d < 8) (hs : s < 8) (w : World) (hm : RM P M w) (hM : MOk M) (hR : ROk R) (n0 : 0 ≤ nx) (n1 : nx < 4294967296) (f0 : 0 ≤ f) (f1 : f < 16) : Calls Try.prog 87 #[.pointer (some ⟨P.q, 0, none⟩), insL 24 d s o m, stV R pc f, stV R nx f, .int .u32 (w32 (R s + m))] w (MemQ P w (stay R pc f (opO M R pc f nx 24 d s o m))) := by
  have eO : opO M R pc f nx 24 d s o m = ldO M R pc f (w32 (R s + m)) 4 fun v => stO M R pc f (w32 (R s + m)) 4 (R d) fun M' => ⟨M', upd R d v, nx, f, 0, 0⟩ := rfl
  rw [eO]
  clear eO
  have qb := w32_bd (R s + m)
  have CL := fun w h => rload_any P M (w32 (R s + m)) 4 w h hM qb.1 qb.2 (by omega)
  obtain ⟨b0, b1⟩ := ldv_bd hM (w32 (R s + m)) 4
  unfold ldO
  obtain ⟨oo, ho⟩ : ∃ oo, srch M 1 (w32 (R s + m)) (4 : Int).toNat = oo := ⟨_, rfl⟩
  rw [ho] at CL ⊢
  clear ho
  generalize ldv M (w32 (R s + m)) 4 = v at b0 b1 CL ⊢
  rcases oo with _ | x
  · show Calls Try.prog 87 _ w (MemQ P w (stay R pc f (stO M R pc f (w32 (R s + m)) 4 (R d) fun M' => ⟨M', upd R d v, nx, f, 0, 0⟩)))
    have CW := fun A w h hA hne => sw_24 (R := R) (pc := pc) (Rt := R) (nx := nx) (ft := f) (f := f) P M A d s o m (w32 (R s + m)) v hd hs w h hA hne hM hR qb.1 qb.2 b0 b1 f0 f1
    unfold stO
    obtain ⟨oo, ho⟩ : ∃ oo, sto M (w32 (R s + m)) 4 = oo := ⟨_, rfl⟩
    rw [ho] at CW ⊢
    rcases oo with _ | x
    · refine (me_sw 24 P M d s o m (w32 (R s + m)) hd hs w hm hR v b0 b1 0 0 (by omega) (by omega) 0 _ _ _ CW CL).mono ?_
      rintro e w' ⟨h1, h2, h3⟩
      exact ⟨h1, h2, h3⟩
    · rw [sto_some ho] at CW
      refine (me_sw 24 P M d s o m (w32 (R s + m)) hd hs w hm hR v b0 b1 6 x (by omega) (by omega) 0 _ _ _ CW CL).mono ?_
      rintro e w' ⟨h1, h2, h3⟩
      exact ⟨h1, h2, h3⟩
  · refine (me_sn 24 P M d s o m (w32 (R s + m)) hd hs w hm hR v b0 b1 5 x (by omega) (by omega) (by omega) CL).mono ?_
    rintro e w' ⟨h1, h2, h3⟩
    exact ⟨h1, h2, h3⟩
theorem mj_25 (P : RP) (M : MM) (d s : Nat) (o m : Int) (hd : d < 8) (hs : s < 8) (w : World) (hm : RM P M w) (hM : MOk M) (hR : ROk R) (n0 : 0 ≤ nx) (n1 : nx < 4294967296) (f0 : 0 ≤ f) (f1 : f < 16) : Calls Try.prog 87 #[.pointer (some ⟨P.q, 0, none⟩), insL 25 d s o m, stV R pc f, stV R nx f, .int .u32 (w32 (R s + m))] w (MemQ P w (stay R pc f (opO M R pc f nx 25 d s o m))) := by
  have eO : opO M R pc f nx 25 d s o m = ldO M R pc f (w32 (R s + m)) 4 fun v => stO M R pc f (w32 (R s + m)) 4 (w32 (v + R d)) fun M' => ⟨M', upd R d v, nx, fl 1 v (R d) f, 0, 0⟩ := rfl
  rw [eO]
  clear eO
  have qb := w32_bd (R s + m)
  have CL := fun w h => rload_any P M (w32 (R s + m)) 4 w h hM qb.1 qb.2 (by omega)
  obtain ⟨b0, b1⟩ := ldv_bd hM (w32 (R s + m)) 4
  unfold ldO
  obtain ⟨oo, ho⟩ : ∃ oo, srch M 1 (w32 (R s + m)) (4 : Int).toNat = oo := ⟨_, rfl⟩
  rw [ho] at CL ⊢
  clear ho
  generalize ldv M (w32 (R s + m)) 4 = v at b0 b1 CL ⊢
  rcases oo with _ | x
  · show Calls Try.prog 87 _ w (MemQ P w (stay R pc f (stO M R pc f (w32 (R s + m)) 4 (w32 (v + R d)) fun M' => ⟨M', upd R d v, nx, fl 1 v (R d) f, 0, 0⟩)))
    have CW := fun A w h hA hne => sw_25 (R := R) (pc := pc) (Rt := R) (nx := nx) (ft := f) (f := f) P M A d s o m (w32 (R s + m)) v hd hs w h hA hne hM hR qb.1 qb.2 b0 b1 f0 f1
    unfold stO
    obtain ⟨oo, ho⟩ : ∃ oo, sto M (w32 (R s + m)) 4 = oo := ⟨_, rfl⟩
    rw [ho] at CW ⊢
    rcases oo with _ | x
    · refine (me_sw 25 P M d s o m (w32 (R s + m)) hd hs w hm hR v b0 b1 0 0 (by omega) (by omega) 0 _ _ _ CW CL).mono ?_
      rintro e w' ⟨h1, h2, h3⟩
      exact ⟨h1, h2, h3⟩
    · rw [sto_some ho] at CW
      refine (me_sw 25 P M d s o m (w32 (R s + m)) hd hs w hm hR v b0 b1 6 x (by omega) (by omega) 0 _ _ _ CW CL).mono ?_
      rintro e w' ⟨h1, h2, h3⟩
      exact ⟨h1, h2, h3⟩
  · refine (me_sn 25 P M d s o m (w32 (R s + m)) hd hs w hm hR v b0 b1 5 x (by omega) (by omega) (by omega) CL).mono ?_
    rintro e w' ⟨h1, h2, h3⟩
    exact ⟨h1, h2, h3⟩
theorem mj_26 (P : RP) (M : MM) (d s : Nat) (o m : Int) (hd : d < 8) (hs : s < 8) (w : World) (hm : RM P M w) (hM : MOk M) (hR : ROk R) (n0 : 0 ≤ nx) (n1 : nx < 4294967296) (f0 : 0 ≤ f) (f1 : f < 16) : Calls Try.prog 87 #[.pointer (some ⟨P.q, 0, none⟩), insL 26 d s o m, stV R pc f, stV R nx f, .int .u32 (w32 (R s + m))] w (MemQ P w (stay R pc f (opO M R pc f nx 26 d s o m))) := by
  have eO : opO M R pc f nx 26 d s o m = ldO M R pc f (w32 (R s + m)) 4 fun v => if R 0 = v then stO M R pc f (w32 (R s + m)) 4 (R d) fun M' => ⟨M', R, nx, fl 3 (R 0) v f, 0, 0⟩ else stO M R pc f (w32 (R s + m)) 4 v fun M' => ⟨M', upd R 0 v, nx, fl 3 (R 0) v f, 0, 0⟩ := rfl
  rw [eO]
  clear eO
  have qb := w32_bd (R s + m)
  have CL := fun w h => rload_any P M (w32 (R s + m)) 4 w h hM qb.1 qb.2 (by omega)
  obtain ⟨b0, b1⟩ := ldv_bd hM (w32 (R s + m)) 4
  unfold ldO
  obtain ⟨oo, ho⟩ : ∃ oo, srch M 1 (w32 (R s + m)) (4 : Int).toNat = oo := ⟨_, rfl⟩
  rw [ho] at CL ⊢
  clear ho
  generalize ldv M (w32 (R s + m)) 4 = v at b0 b1 CL ⊢
  rcases oo with _ | x
  · show Calls Try.prog 87 _ w (MemQ P w (stay R pc f (if R 0 = v then stO M R pc f (w32 (R s + m)) 4 (R d) fun M' => ⟨M', R, nx, fl 3 (R 0) v f, 0, 0⟩ else stO M R pc f (w32 (R s + m)) 4 v fun M' => ⟨M', upd R 0 v, nx, fl 3 (R 0) v f, 0, 0⟩)))
    by_cases he : R 0 = v
    · rw [if_pos he]
      show Calls Try.prog 87 _ w (MemQ P w (stay R pc f (stO M R pc f (w32 (R s + m)) 4 (R d) fun M' => ⟨M', R, nx, fl 3 (R 0) v f, 0, 0⟩)))
      have CW := fun A w h hA hne => sw_26y (R := R) (pc := pc) (Rt := R) (nx := nx) (ft := f) (f := f) P M A d s o m (w32 (R s + m)) v hd hs w h hA hne hM hR qb.1 qb.2 b0 b1 f0 f1 he
      unfold stO
      obtain ⟨oo, ho⟩ : ∃ oo, sto M (w32 (R s + m)) 4 = oo := ⟨_, rfl⟩
      rw [ho] at CW ⊢
      rcases oo with _ | x
      · refine (me_sw 26 P M d s o m (w32 (R s + m)) hd hs w hm hR v b0 b1 0 0 (by omega) (by omega) 0 _ _ _ CW CL).mono ?_
        rintro e w' ⟨h1, h2, h3⟩
        exact ⟨h1, h2, h3⟩
      · rw [sto_some ho] at CW
        refine (me_sw 26 P M d s o m (w32 (R s + m)) hd hs w hm hR v b0 b1 6 x (by omega) (by omega) 0 _ _ _ CW CL).mono ?_
        rintro e w' ⟨h1, h2, h3⟩
        exact ⟨h1, h2, h3⟩
    · rw [if_neg he]
      show Calls Try.prog 87 _ w (MemQ P w (stay R pc f (stO M R pc f (w32 (R s + m)) 4 (v) fun M' => ⟨M', upd R 0 v, nx, fl 3 (R 0) v f, 0, 0⟩)))
      have CW := fun A w h hA hne => sw_26n (R := R) (pc := pc) (Rt := R) (nx := nx) (ft := f) (f := f) P M A d s o m (w32 (R s + m)) v hd hs w h hA hne hM hR qb.1 qb.2 b0 b1 f0 f1 he
      unfold stO
      obtain ⟨oo, ho⟩ : ∃ oo, sto M (w32 (R s + m)) 4 = oo := ⟨_, rfl⟩
      rw [ho] at CW ⊢
      rcases oo with _ | x
      · refine (me_sw 26 P M d s o m (w32 (R s + m)) hd hs w hm hR v b0 b1 0 0 (by omega) (by omega) 0 _ _ _ CW CL).mono ?_
        rintro e w' ⟨h1, h2, h3⟩
        exact ⟨h1, h2, h3⟩
      · rw [sto_some ho] at CW
        refine (me_sw 26 P M d s o m (w32 (R s + m)) hd hs w hm hR v b0 b1 6 x (by omega) (by omega) 0 _ _ _ CW CL).mono ?_
        rintro e w' ⟨h1, h2, h3⟩
        exact ⟨h1, h2, h3⟩
  · refine (me_sn 26 P M d s o m (w32 (R s + m)) hd hs w hm hR v b0 b1 5 x (by omega) (by omega) (by omega) CL).mono ?_
    rintro e w' ⟨h1, h2, h3⟩
    exact ⟨h1, h2, h3⟩
set_option maxHeartbeats 4000000 in
theorem mj_any (k : Int) (P : RP) (M : MM) (d s : Nat) (o m : Int) (hd : d < 8) (hs : s < 8) (w : World) (hm : RM P M w) (hM : MOk M) (hR : ROk R) (n0 : 0 ≤ nx) (n1 : nx < 4294967296) (f0 : 0 ≤ f) (f1 : f < 16) (hk : (2 ≤ k ∧ k ≤ 4) ∨ k = 8 ∨ k = 10 ∨ k = 11 ∨ k = 14 ∨ k = 15 ∨ (24 ≤ k ∧ k ≤ 26) ∨ (k = 30 ∧ 0 ≤ o ∧ o < 5) ∨ (k = 31 ∧ 0 ≤ o ∧ o < 3)) : Calls Try.prog 87 #[.pointer (some ⟨P.q, 0, none⟩), insL k d s o m, stV R pc f, stV R nx f, .int .u32 (w32 (R s + m))] w (MemQ P w (stay R pc f (opO M R pc f nx k d s o m))) := by
  rcases (show k = 2 ∨ k = 3 ∨ k = 4 ∨ k = 8 ∨ k = 10 ∨ k = 11 ∨ k = 14 ∨ k = 15 ∨ k = 24 ∨ k = 25 ∨ k = 26 ∨ (k = 30 ∧ o = 0) ∨ (k = 30 ∧ o = 1) ∨ (k = 30 ∧ o = 2) ∨ (k = 30 ∧ o = 3) ∨ (k = 30 ∧ o = 4) ∨ (k = 31 ∧ o = 0) ∨ (k = 31 ∧ o = 1) ∨ (k = 31 ∧ o = 2) by omega) with rfl | rfl | rfl | rfl | rfl | rfl | rfl | rfl | rfl | rfl | rfl | ⟨rfl, rfl⟩ | ⟨rfl, rfl⟩ | ⟨rfl, rfl⟩ | ⟨rfl, rfl⟩ | ⟨rfl, rfl⟩ | ⟨rfl, rfl⟩ | ⟨rfl, rfl⟩ | ⟨rfl, rfl⟩
  · exact mj_2 P M d s o m hd hs w hm hM hR n0 n1 f0 f1
  · exact mj_3 P M d s o m hd hs w hm hM hR n0 n1 f0 f1
  · exact mj_4 P M d s o m hd hs w hm hM hR n0 n1 f0 f1
  · exact mj_8 P M d s o m hd hs w hm hM hR n0 n1 f0 f1
  · exact mj_10 P M d s o m hd hs w hm hM hR n0 n1 f0 f1
  · exact mj_11 P M d s o m hd hs w hm hM hR n0 n1 f0 f1
  · exact mj_14 P M d s o m hd hs w hm hM hR n0 n1 f0 f1
  · exact mj_15 P M d s o m hd hs w hm hM hR n0 n1 f0 f1
  · exact mj_24 P M d s o m hd hs w hm hM hR n0 n1 f0 f1
  · exact mj_25 P M d s o m hd hs w hm hM hR n0 n1 f0 f1
  · exact mj_26 P M d s o m hd hs w hm hM hR n0 n1 f0 f1
  · exact mj_30_0 P M d s m hd hs w hm hM hR n0 n1 f0 f1
  · exact mj_30_1 P M d s m hd hs w hm hM hR n0 n1 f0 f1
  · exact mj_30_2 P M d s m hd hs w hm hM hR n0 n1 f0 f1
  · exact mj_30_3 P M d s m hd hs w hm hM hR n0 n1 f0 f1
  · exact mj_30_4 P M d s m hd hs w hm hM hR n0 n1 f0 f1
  · exact mj_31_0 P M d s m hd hs w hm hM hR n0 n1 f0 f1
  · exact mj_31_1 P M d s m hd hs w hm hM hR n0 n1 f0 f1
  · exact mj_31_2 P M d s m hd hs w hm hM hR n0 n1 f0 f1
end Go.Proofs.Ytcjcmnnhmajocab.St
namespace Go.Proofs.Ytcjcmnnhmajocab.St
open Go.RowKit Kt Me Fl Gu
set_option linter.unusedVariables false
set_option linter.unusedSimpArgs false
variable {R : Nat → Int} {pc f : Int}
set_option maxRecDepth 100000 in
set_option maxHeartbeats 16000000 in
theorem rs_mem (P : RP) (M : MM) (d s : Nat) (o m n : Int) (w : World) (h : RM P M w) (hM : MOk M) (hR : ROk R) (c0 : 0 ≤ pc) (c1 : pc < 4294967296) (f0 : 0 ≤ f) (f1 : f < 4294967296) (n0 : 0 ≤ n) (n1 : n < 8) (hd : d < 8) (hs' : s < 8) (o0 : 0 ≤ o) (o1 : o < 16) (m0 : 0 ≤ m) (m1 : m < 4294967296)
    (k : Int) (hk : (2 ≤ k ∧ k ≤ 4) ∨ k = 8 ∨ k = 10 ∨ k = 11 ∨ k = 14 ∨ k = 15 ∨ (24 ≤ k ∧ k ≤ 26) ∨ (k = 30 ∧ 0 ≤ o ∧ o < 5) ∨ (k = 31 ∧ 0 ≤ o ∧ o < 3)) (hs : insV M pc = .tuple #[agg5 k d s o m, .int .i64 n, .agg #[.int .i64 0, .int .u32 0]]) :
    Calls Try.prog 36 #[.pointer (some ⟨P.q, 0, none⟩), stV R pc f] w fun e w' => MemQ P w (stay R pc (f % 16) (opO M R pc (f % 16) (w32 (pc + n)) k d s o m)) e w' := by
  have CF := Lib.hid (fun w h => rins_all P M pc w h hM c0 c1)
  rw [hs] at CF
  have en : n % 4294967296 = n := by omega
  have ew : (pc + n) % 4294967296 = w32 (pc + n) := rfl
  have S0 := S3.new w R pc (f % 16)
  have B0 : Below w.heap.size w (((w.alloc (.cells (stL R pc (f % 16)) 72)).alloc (.cells Z10 72)).alloc (.cells Z2 46)) := (((Below.refl _ _).alloc (Nat.le_refl _) _).alloc (by simp) _).alloc (by simp; omega) _
  have HH := Lib.hid (h.upto (Upto.of_below (S := fun _ => False) B0) (fun _ _ => id))
  unfold stL Z10 Z2 at S0 B0 HH
  unfold agg5 at CF
  unfold stV
  have hW0 := Lib.hid (fun i (hi : w.heap.size ≤ i) (hp : P.has i) => show False by have := rm_lt h hp; omega)
  have hd0 : (0 : Int) ≤ (d : Int) := by omega
  have hd1 : (d : Int) < 8 := by omega
  have hs0 : (0 : Int) ≤ (s : Int) := by omega
  have hs1 : (s : Int) < 8 := by omega
  have nxb := w32_bd (pc + n)
  obtain ⟨nx, hnx⟩ : ∃ nx, w32 (pc + n) = nx := ⟨_, rfl⟩
  rw [hnx] at ew nxb
  try rw [hnx]
  have CM := (fun w h => mj_any (R := R) (pc := pc) (f := f % 16) (nx := nx) k P M d s o m hd hs' w h hM hR nxb.1 nxb.2 (show 0 ≤ f % 16 by omega) (show f % 16 < 16 by omega) hk)
  generalize stay R pc (f % 16) (opO M R pc (f % 16) nx k d s o m) = oo at CM ⊢
  unfold MemQ outV insL stV at CM
  have CM := Lib.hid CM
  clear h hs
  go_enter Try.func36, Try.ntmps36
  go_wp2_with fail
  generalize ((w.alloc (.cells #[.int .u32 (R 0), .int .u32 (R 1), .int .u32 (R 2), .int .u32 (R 3), .int .u32 (R 4), .int .u32 (R 5), .int .u32 (R 6), .int .u32 (R 7), .int .u32 pc, .int .u32 (f % 16)] 72)).alloc (.cells #[.int .u32 0, .int .u32 0, .int .u32 0, .int .u32 0, .int .u32 0, .int .u32 0, .int .u32 0, .int .u32 0, .int .u32 0, .int .u32 0] 72)).alloc (.cells #[.int .i64 0, .int .u32 0] 46) = WA at S0 B0 HH ⊢
  have HS := Lib.hid S0
  have HB := Lib.hid B0
  clear S0 B0
  go_upto_region 8 with (go_at_call 82; (with_reducible refine (CF.out _ HH.out).mono ?_); rintro e w1 ⟨rfl, b1⟩; have HS1 := Lib.hid (HS.out.below b1); have HH1 := Lib.hid (HH.out.upto (Upto.of_below (S := fun _ => False) b1) (fun _ _ => id)); have lw := HS1.out.q.lb; obtain ⟨s0, s1, s2, s3, s4, s5, s6, s7, s8, s9⟩ := HS1.out.all; have lh : w.heap.size < w1.heap.size := by omega)
  have ev : (R s + m) % 4294967296 = w32 (R s + m) := rfl
  have i0 : (k == 0) = false := by rw [beq_eq_false_iff_ne]; omega
  have i1 : (k == 1) = false := by rw [beq_eq_false_iff_ne]; omega
  have i5 : (k == 5) = false := by rw [beq_eq_false_iff_ne]; omega
  have i6 : (k == 6) = false := by rw [beq_eq_false_iff_ne]; omega
  have i7 : (k == 7) = false := by rw [beq_eq_false_iff_ne]; omega
  have i9 : (k == 9) = false := by rw [beq_eq_false_iff_ne]; omega
  have i12 : (k == 12) = false := by rw [beq_eq_false_iff_ne]; omega
  have i13 : (k == 13) = false := by rw [beq_eq_false_iff_ne]; omega
  have i16 : (k == 16) = false := by rw [beq_eq_false_iff_ne]; omega
  have i17 : (k == 17) = false := by rw [beq_eq_false_iff_ne]; omega
  have i18 : (k == 18) = false := by rw [beq_eq_false_iff_ne]; omega
  have i19 : (k == 19) = false := by rw [beq_eq_false_iff_ne]; omega
  have i20 : (k == 20) = false := by rw [beq_eq_false_iff_ne]; omega
  have i21 : (k == 21) = false := by rw [beq_eq_false_iff_ne]; omega
  have i22 : (k == 22) = false := by rw [beq_eq_false_iff_ne]; omega
  have i23 : (k == 23) = false := by rw [beq_eq_false_iff_ne]; omega
  have i27 : (k == 27) = false := by rw [beq_eq_false_iff_ne]; omega
  have i28 : (k == 28) = false := by rw [beq_eq_false_iff_ne]; omega
  have i29 : (k == 29) = false := by rw [beq_eq_false_iff_ne]; omega
  obtain ⟨nx1, nt1, nu1⟩ := st_new w1 R nx (f % 16) k d s o m
  have lT := nt1.l
  have M1 := Lib.hid (HH1.out.upto nu1 (fun _ _ => id))
  have U1 := Lib.hid ((Upto.of_below (S := P.has) (HB.out.trans (b1.mono HB.out.size))).trans (nu1.mono (T := P.has) fun _ _ h => h.elim))
  have S1 := Lib.hid (HS1.out.upto nu1 id id id)
  clear s0 s1 s2 s3 s4 s5 s6 s7 s8 s9
  unfold stL Z2 at nx1 nt1 nu1 lT M1 U1 S1
  generalize ((w1.alloc (.cells #[.int .i64 k, .int .i64 d, .int .i64 s, .int .i64 o, .int .u32 m] 149)).alloc (.cells #[.int .i64 0, .int .u32 0] 46)).alloc (.cells #[.int .u32 (R 0), .int .u32 (R 1), .int .u32 (R 2), .int .u32 (R 3), .int .u32 (R 4), .int .u32 (R 5), .int .u32 (R 6), .int .u32 (R 7), .int .u32 nx, .int .u32 (f % 16)] 72) = WB at nx1 nt1 nu1 lT M1 U1 S1 ⊢
  have X1 := Lib.hid nx1
  have T1 := Lib.hid nt1
  clear nx1 nt1 nu1
  have na00 : ¬ w1.heap.size = w.heap.size := by omega
  have nb00 : ¬ w.heap.size = w1.heap.size := by omega
  have na01 : ¬ w1.heap.size = w.heap.size + 1 := by omega
  have nb01 : ¬ w.heap.size + 1 = w1.heap.size := by omega
  have na02 : ¬ w1.heap.size = w.heap.size + 1 + 1 := by omega
  have nb02 : ¬ w.heap.size + 1 + 1 = w1.heap.size := by omega
  have na20 : ¬ w1.heap.size + 1 + 1 = w.heap.size := by omega
  have nb20 : ¬ w.heap.size = w1.heap.size + 1 + 1 := by omega
  have na21 : ¬ w1.heap.size + 1 + 1 = w.heap.size + 1 := by omega
  have nb21 : ¬ w.heap.size + 1 = w1.heap.size + 1 + 1 := by omega
  have na22 : ¬ w1.heap.size + 1 + 1 = w.heap.size + 1 + 1 := by omega
  have nb22 : ¬ w.heap.size + 1 + 1 = w1.heap.size + 1 + 1 := by omega
  have x0 := X1.out.c0
  have x1 := X1.out.c1
  have x2 := X1.out.c2
  have x3 := X1.out.c3
  have x4 := X1.out.c4
  have lX := X1.out.l
  have sd := S1.out.s d hd
  have ss := S1.out.s s hs'
  have s9 := S1.out.s9
  have td := T1.out.r d hd
  have t8 := T1.out.c8
  have t9 := T1.out.c9
  have zd := T1.out.z d
  have z8 := T1.out.z 8
  have z9 := T1.out.z 9
  go_upto_region 12 with fail
  have a0 := S1.out.s 0 (by omega)
  have b0 := T1.out.r 0 (by omega)
  have a1 := S1.out.s 1 (by omega)
  have b1 := T1.out.r 1 (by omega)
  have a2 := S1.out.s 2 (by omega)
  have b2 := T1.out.r 2 (by omega)
  have a3 := S1.out.s 3 (by omega)
  have b3 := T1.out.r 3 (by omega)
  have a4 := S1.out.s 4 (by omega)
  have b4 := T1.out.r 4 (by omega)
  have a5 := S1.out.s 5 (by omega)
  have b5 := T1.out.r 5 (by omega)
  have a6 := S1.out.s 6 (by omega)
  have b6 := T1.out.r 6 (by omega)
  have a7 := S1.out.s 7 (by omega)
  have b7 := T1.out.r 7 (by omega)
  have a8 := S1.out.s8
  have b8 := T1.out.c8
  have b9 := T1.out.c9
  clear sd ss td
  go_wp2_with (go_at_call 87; (with_reducible refine (CM.out _ M1.out).mono ?_); rintro e W3 ⟨rfl, m5, u5⟩; have M4 := Lib.hid m5; have U4 := Lib.hid (U1.out.trans u5); have S4 := Lib.hid (S1.out.upto u5 (fun hx => hW0.out _ (by omega) hx) (fun hx => hW0.out _ (by omega) hx) (fun hx => hW0.out _ (by omega) hx)); clear a0 b0 a1 b1 a2 b2 a3 b3 a4 b4 a5 b5 a6 b6 a7 b7 a8 b8 b9 x0 x1 x2 x3 x4 lX s9 t8 t9 zd z8 z9 m5 u5; have lT4 : w.heap.size + 1 + 1 < W3.heap.size := S4.out.q.lb; obtain ⟨q0, y0, q1, y1, q2, y2, q3, y3, q4, y4, q5, y5, q6, y6, q7, y7, q8, y8, q9, y9, r0, w0', r1, w1'⟩ := S4.out.q.all)
  clear q0 y0 q1 y1 q2 y2 q3 y3 q4 y4 q5 y5 q6 y6 q7 y7 q8 y8 q9 y9 r0 w0' r1 w1'
  obtain ⟨u, t, fq, v0, v1, v2, v3, v4, v5, v6, v7, v8, v9, t0, t1⟩ := S4.out.q.put (.int .u32 (oo.R 0)) (.int .u32 (oo.R 1)) (.int .u32 (oo.R 2)) (.int .u32 (oo.R 3)) (.int .u32 (oo.R 4)) (.int .u32 (oo.R 5)) (.int .u32 (oo.R 6)) (.int .u32 (oo.R 7)) (.int .u32 oo.pc) (.int .u32 oo.f) (.int .i64 oo.k) (.int .u32 oo.x)
  have bp := (upto_put (h := w.heap.size + 1) (g := w.heap.size + 1 + 1) U4.out (.inr (by omega)) (.inr (by omega)) (.int .u32 (oo.R 0)) (.int .u32 (oo.R 1)) (.int .u32 (oo.R 2)) (.int .u32 (oo.R 3)) (.int .u32 (oo.R 4)) (.int .u32 (oo.R 5)) (.int .u32 (oo.R 6)) (.int .u32 (oo.R 7)) (.int .u32 oo.pc) (.int .u32 oo.f) (.int .i64 oo.k) (.int .u32 oo.x))
  have hp := (M4.out.upto (upto_put (h := w.heap.size + 1) (g := w.heap.size + 1 + 1) (Upto.refl (fun i => i = w.heap.size + 1 ∨ i = w.heap.size + 1 + 1) W3) (.inl (.inl rfl)) (.inl (.inr rfl)) (.int .u32 (oo.R 0)) (.int .u32 (oo.R 1)) (.int .u32 (oo.R 2)) (.int .u32 (oo.R 3)) (.int .u32 (oo.R 4)) (.int .u32 (oo.R 5)) (.int .u32 (oo.R 6)) (.int .u32 (oo.R 7)) (.int .u32 oo.pc) (.int .u32 oo.f) (.int .i64 oo.k) (.int .u32 oo.x)) (fun j hj hx => hW0.out j (by rcases hx with hx | hx <;> omega) hj))
  have fq2 := fq
  clear fq
  obtain ⟨g0, g1, g2, g3, g4, g5, g6, g7, g8, g9, o0, o1⟩ := fq2.got v0 v1 v2 v3 v4 v5 v6 v7 v8 v9 t0 t1
  exact bodyPost_ret (v := outV oo) (by simp [outV, stV, results, Try.results36, go_sem, g0, g1, g2, g3, g4, g5, g6, g7, g8, g9, o0, o1]) rfl ⟨rfl, hp, bp⟩
end Go.Proofs.Ytcjcmnnhmajocab.St
namespace Go.Proofs.Ytcjcmnnhmajocab.St
open Go.RowKit Kt Me Fl Gu
set_option linter.unusedVariables false
set_option linter.unusedSimpArgs false
variable {R : Nat → Int} {pc f : Int}
theorem stay_M (R : Nat → Int) (pc f : Int) (o : Out) : (stay R pc f o).M = o.M := by unfold stay; split <;> rfl
/-- what is fetched: it stops, or is read -/
theorem ins_cases (M : MM) (R : Nat → Int) (pc f : Int) (hM : MOk M) :
    (∃ k x, k ≠ 0 ∧ insV M pc = stopV k x ∧ stepO M R pc f = ⟨M, R, pc, f % 16, k, x⟩) ∨
    (∃ (k : Int) (d s : Nat) (o m n : Int), insV M pc = .tuple #[agg5 k d s o m, .int .i64 n, .agg #[.int .i64 0, .int .u32 0]] ∧ stepO M R pc f = stay R pc (f % 16) (opO M R pc (f % 16) (w32 (pc + n)) k d s o m) ∧
      (0 ≤ n ∧ n < 8) ∧ d < 8 ∧ s < 8 ∧ (0 ≤ o ∧ o < 16) ∧ (0 ≤ m ∧ m < 4294967296) ∧ (0 ≤ k ∧ k < 32) ∧ (k = 30 → o < 5) ∧ (k = 31 → o < 3)) := by
  unfold insV stepO
  rcases fetS M pc 1 with _ | x
  · rcases fetS M pc (szI M pc) with _ | x
    · by_cases h3 : dz (decv (usI M pc)) 6 = 0
      · have I := decv_rng _ (usI_rg hM pc) h3
        refine .inr ⟨dz (decv (usI M pc)) 0, (dz (decv (usI M pc)) 1).toNat, (dz (decv (usI M pc)) 2).toNat, dz (decv (usI M pc)) 3, dz (decv (usI M pc)) 4, dz (decv (usI M pc)) 5, ?_, ?_, I.n, ?_, ?_, I.f, I.m, I.o, I.ld, I.st⟩
        · simp only [if_pos h3, Int.toNat_of_nonneg I.d.1, Int.toNat_of_nonneg I.s.1]
        · simp only [if_pos h3]
        · have := I.d; omega
        · have := I.s; omega
      · exact .inl ⟨3, 0, by omega, by simp only [if_neg h3], by simp only [if_neg h3]⟩
    · exact .inl ⟨4, x, by omega, rfl, rfl⟩
  · exact .inl ⟨4, x, by omega, rfl, rfl⟩
theorem step_any (p : Nat) (M : MM) (R : Nat → Int) (pc f : Int) (w : World) (h : HC p M w) (hM : MOk M) (hR : ROk R) (c0 : 0 ≤ pc) (c1 : pc < 4294967296) (f0 : 0 ≤ f) (f1 : f < 4294967296) :
    Calls Try.prog 34 #[.pointer (some ⟨p, 0, none⟩), stV R pc f] w fun e w' => e = .returned (outV (stepO M R pc f)) ∧ HC p (stepO M R pc f).M w' ∧ Upto (fun i => i = p) w w' := by
  rcases ins_cases M R pc f hM with ⟨k, x, hk, hi, ho⟩ | ⟨k, d, s, o, m, n, hi, ho, hn, hd, hs, hf, hm, hk, h30, h31⟩
  · rw [ho]
    exact step_stop p M R pc f k x hk w h hM c0 c1 f0 f1 hi
  · rw [ho, stay_M]
    exact step_go p M R pc f k d s o m n w h hM hR c0 c1 f0 f1 hn.1 hn.2 hd hs hf.1 hf.2 hm.1 hm.2 hk.1 hk.2 h30 h31 hi
theorem rstep_any (P : RP) (M : MM) (R : Nat → Int) (pc f : Int) (w : World) (h : RM P M w) (hM : MOk M) (hR : ROk R) (c0 : 0 ≤ pc) (c1 : pc < 4294967296) (f0 : 0 ≤ f) (f1 : f < 4294967296) :
    Calls Try.prog 36 #[.pointer (some ⟨P.q, 0, none⟩), stV R pc f] w fun e w' => e = .returned (outV (stepO M R pc f)) ∧ RM P (stepO M R pc f).M w' ∧ Upto P.has w w' := by
  rcases ins_cases M R pc f hM with ⟨k, x, hk, hi, ho⟩ | ⟨k, d, s, o, m, n, hi, ho, hn, hd, hs, hf, hm, hk, h30, h31⟩
  · rw [ho]
    exact rstep_stop P M R pc f k x hk w h hM c0 c1 f0 f1 hi
  · rw [ho, stay_M]
    by_cases hmem : (2 ≤ k ∧ k ≤ 4) ∨ k = 8 ∨ k = 10 ∨ k = 11 ∨ k = 14 ∨ k = 15 ∨ (24 ≤ k ∧ k ≤ 26) ∨ (k = 30 ∧ 0 ≤ o ∧ o < 5) ∨ (k = 31 ∧ 0 ≤ o ∧ o < 3)
    · refine (rs_mem P M d s o m n w h hM hR c0 c1 f0 f1 hn.1 hn.2 hd hs hf.1 hf.2 hm.1 hm.2 k hmem hi).mono ?_
      rintro e w' ⟨h1, h2, h3⟩
      rw [stay_M] at h2
      exact ⟨h1, h2, h3⟩
    have h30' : k ≠ 30 := fun e => hmem (by have := h30 e; omega)
    have h31' : k ≠ 31 := fun e => hmem (by have := h31 e; omega)
    rcases (show k = 0 ∨ k = 1 ∨ k = 5 ∨ k = 6 ∨ k = 7 ∨ k = 9 ∨ k = 12 ∨ k = 13 ∨ k = 16 ∨ k = 17 ∨ k = 18 ∨ k = 19 ∨ k = 20 ∨ k = 21 ∨ k = 22 ∨ k = 23 ∨ k = 27 ∨ k = 28 ∨ k = 29 by omega) with rfl | rfl | rfl | rfl | rfl | rfl | rfl | rfl | rfl | rfl | rfl | rfl | rfl | rfl | rfl | rfl | rfl | rfl | rfl
    · exact rs_0 P M d s o m n w h hM hR c0 c1 f0 f1 hn.1 hn.2 hd hs hf.1 hf.2 hm.1 hm.2 hi
    · exact rs_1 P M d s o m n w h hM hR c0 c1 f0 f1 hn.1 hn.2 hd hs hf.1 hf.2 hm.1 hm.2 hi
    · exact rs_5 P M d s o m n w h hM hR c0 c1 f0 f1 hn.1 hn.2 hd hs hf.1 hf.2 hm.1 hm.2 hi
    · exact rs_6 P M d s o m n w h hM hR c0 c1 f0 f1 hn.1 hn.2 hd hs hf.1 hf.2 hm.1 hm.2 hi
    · exact rs_7 P M d s o m n w h hM hR c0 c1 f0 f1 hn.1 hn.2 hd hs hf.1 hf.2 hm.1 hm.2 hi
    · exact rs_9 P M d s o m n w h hM hR c0 c1 f0 f1 hn.1 hn.2 hd hs hf.1 hf.2 hm.1 hm.2 hi
    · rcases ht : Fl.hd o (f % 16) with _ | _
      · have eo : opO M R pc (f % 16) (w32 (pc + n)) 12 d s o m = ⟨M, R, (if Fl.hd o (f % 16) then w32 (w32 (pc + n) + m) else w32 (pc + n)), f % 16, 0, 0⟩ := rfl
        rw [eo, ht]
        exact rs_12f P M d s o m n w h hM hR c0 c1 f0 f1 hn.1 hn.2 hd hs hf.1 hf.2 hm.1 hm.2 ht hi
      · have eo : opO M R pc (f % 16) (w32 (pc + n)) 12 d s o m = ⟨M, R, (if Fl.hd o (f % 16) then w32 (w32 (pc + n) + m) else w32 (pc + n)), f % 16, 0, 0⟩ := rfl
        rw [eo, ht]
        exact rs_12t P M d s o m n w h hM hR c0 c1 f0 f1 hn.1 hn.2 hd hs hf.1 hf.2 hm.1 hm.2 ht hi
    · rcases ht : Fl.hd o (f % 16) with _ | _
      · have eo : opO M R pc (f % 16) (w32 (pc + n)) 13 d s o m = ⟨M, R, (if Fl.hd o (f % 16) then w32 (w32 (pc + n) + m) else w32 (pc + n)), f % 16, 0, 0⟩ := rfl
        rw [eo, ht]
        exact rs_13f P M d s o m n w h hM hR c0 c1 f0 f1 hn.1 hn.2 hd hs hf.1 hf.2 hm.1 hm.2 ht hi
      · have eo : opO M R pc (f % 16) (w32 (pc + n)) 13 d s o m = ⟨M, R, (if Fl.hd o (f % 16) then w32 (w32 (pc + n) + m) else w32 (pc + n)), f % 16, 0, 0⟩ := rfl
        rw [eo, ht]
        exact rs_13t P M d s o m n w h hM hR c0 c1 f0 f1 hn.1 hn.2 hd hs hf.1 hf.2 hm.1 hm.2 ht hi
    · exact rs_16 P M d s o m n w h hM hR c0 c1 f0 f1 hn.1 hn.2 hd hs hf.1 hf.2 hm.1 hm.2 hi
    · exact rs_17 P M d s o m n w h hM hR c0 c1 f0 f1 hn.1 hn.2 hd hs hf.1 hf.2 hm.1 hm.2 hi
    · exact rs_18 P M d s o m n w h hM hR c0 c1 f0 f1 hn.1 hn.2 hd hs hf.1 hf.2 hm.1 hm.2 hi
    · exact rs_19 P M d s o m n w h hM hR c0 c1 f0 f1 hn.1 hn.2 hd hs hf.1 hf.2 hm.1 hm.2 hi
    · exact rs_20 P M d s o m n w h hM hR c0 c1 f0 f1 hn.1 hn.2 hd hs hf.1 hf.2 hm.1 hm.2 hi
    · rcases ht : Fl.hd o (f % 16) with _ | _
      · have eo : opO M R pc (f % 16) (w32 (pc + n)) 21 d s o m = ⟨M, upd R d (if Fl.hd o (f % 16) then 1 else 0), w32 (pc + n), f % 16, 0, 0⟩ := rfl
        rw [eo, ht]
        exact rs_21f P M d s o m n w h hM hR c0 c1 f0 f1 hn.1 hn.2 hd hs hf.1 hf.2 hm.1 hm.2 ht hi
      · have eo : opO M R pc (f % 16) (w32 (pc + n)) 21 d s o m = ⟨M, upd R d (if Fl.hd o (f % 16) then 1 else 0), w32 (pc + n), f % 16, 0, 0⟩ := rfl
        rw [eo, ht]
        exact rs_21t P M d s o m n w h hM hR c0 c1 f0 f1 hn.1 hn.2 hd hs hf.1 hf.2 hm.1 hm.2 ht hi
    · exact rs_22 P M d s o m n w h hM hR c0 c1 f0 f1 hn.1 hn.2 hd hs hf.1 hf.2 hm.1 hm.2 hi
    · exact rs_23 P M d s o m n w h hM hR c0 c1 f0 f1 hn.1 hn.2 hd hs hf.1 hf.2 hm.1 hm.2 hi
    · rcases ht : rko o (R s) with _ | _
      · have eo : opO M R pc (f % 16) (w32 (pc + n)) 27 d s o m = (if rko o (R s) then ⟨M, upd R d (rkv o (R d) (R s) (f % 16)), w32 (pc + n), rkf o (R d) (R s) (f % 16), 0, 0⟩ else ⟨M, R, pc, f % 16, 7, 0⟩) := rfl
        rw [eo, ht]
        exact rs_27f P M d s o m n w h hM hR c0 c1 f0 f1 hn.1 hn.2 hd hs hf.1 hf.2 hm.1 hm.2 ht hi
      · have eo : opO M R pc (f % 16) (w32 (pc + n)) 27 d s o m = (if rko o (R s) then ⟨M, upd R d (rkv o (R d) (R s) (f % 16)), w32 (pc + n), rkf o (R d) (R s) (f % 16), 0, 0⟩ else ⟨M, R, pc, f % 16, 7, 0⟩) := rfl
        rw [eo, ht]
        exact rs_27t P M d s o m n w h hM hR c0 c1 f0 f1 hn.1 hn.2 hd hs hf.1 hf.2 hm.1 hm.2 ht hi
    · rcases ht : rko o m with _ | _
      · have eo : opO M R pc (f % 16) (w32 (pc + n)) 28 d s o m = (if rko o m then ⟨M, upd R d (rkv o (R d) (m) (f % 16)), w32 (pc + n), rkf o (R d) (m) (f % 16), 0, 0⟩ else ⟨M, R, pc, f % 16, 7, 0⟩) := rfl
        rw [eo, ht]
        exact rs_28f P M d s o m n w h hM hR c0 c1 f0 f1 hn.1 hn.2 hd hs hf.1 hf.2 hm.1 hm.2 ht hi
      · have eo : opO M R pc (f % 16) (w32 (pc + n)) 28 d s o m = (if rko o m then ⟨M, upd R d (rkv o (R d) (m) (f % 16)), w32 (pc + n), rkf o (R d) (m) (f % 16), 0, 0⟩ else ⟨M, R, pc, f % 16, 7, 0⟩) := rfl
        rw [eo, ht]
        exact rs_28t P M d s o m n w h hM hR c0 c1 f0 f1 hn.1 hn.2 hd hs hf.1 hf.2 hm.1 hm.2 ht hi
    · rcases ht : rko o m with _ | _
      · have eo : opO M R pc (f % 16) (w32 (pc + n)) 29 d s o m = (if rko o m then ⟨M, upd R d (rkv o (R d) (m) (f % 16)), w32 (pc + n), rkf o (R d) (m) (f % 16), 0, 0⟩ else ⟨M, R, pc, f % 16, 7, 0⟩) := rfl
        rw [eo, ht]
        exact rs_29f P M d s o m n w h hM hR c0 c1 f0 f1 hn.1 hn.2 hd hs hf.1 hf.2 hm.1 hm.2 ht hi
      · have eo : opO M R pc (f % 16) (w32 (pc + n)) 29 d s o m = (if rko o m then ⟨M, upd R d (rkv o (R d) (m) (f % 16)), w32 (pc + n), rkf o (R d) (m) (f % 16), 0, 0⟩ else ⟨M, R, pc, f % 16, 7, 0⟩) := rfl
        rw [eo, ht]
        exact rs_29t P M d s o m n w h hM hR c0 c1 f0 f1 hn.1 hn.2 hd hs hf.1 hf.2 hm.1 hm.2 ht hi
end Go.Proofs.Ytcjcmnnhmajocab.St
