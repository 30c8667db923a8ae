/- crossgrainlaw1.GuestReads: the walk. -/
import Derived.Test.YtcjcmnnhmajocaaGuI
import Derived.Test.YtcjcmnnhmajocaaGuQ
import Derived.Test.YtcjcmnnhmajocaaGuE
namespace Go.Proofs.Ytcjcmnnhmajocaa.Gu
open Go.RowKit Kt
set_option linter.unusedVariables false
set_option linter.unusedSimpArgs false
theorem behind {w2 w3 : World} {cs : Array Value} {t : TypeId} (hb : Below (w2.alloc (.cells cs t)).heap.size (w2.alloc (.cells cs t)) w3) :
    (∀ i, w3.cell? ⟨w2.heap.size, i, none⟩ = cs[i]?) ∧ w2.heap.size < w3.heap.size ∧ Below w2.heap.size w2 w3 := by
  have s := hb.size
  simp only [World.size_alloc] at s
  refine ⟨(rowcells (t := t) (cs := cs) ?_).1, by omega, after_alloc hb⟩
  rw [hb.block _ (by simp)]
  exact heap_alloc_new _ _
set_option maxRecDepth 100000 in
set_option maxHeartbeats 4000000 in
theorem guestreads_walk (us : List Int) (ao : Option Addr) (cap : Nat) (first op : Int) (w : World) (hs : Bs us ao cap w) (hreach : us.length ≤ 140737488351232) (hw : ∀ j, 0 ≤ us.getD j 0 ∧ us.getD j 0 < 256) (f0 : 0 ≤ first) (f1 : first < 256) :
    Calls Try.prog 8 #[.slice ao us.length cap, .int .u8 first, .int .i64 op] w fun e w' => e = .returned (.bool true) ∧ Below w.heap.size w w' := by
  obtain ⟨o, d, s, f, m, n, z, hD⟩ := decv_shape us
  unfold agg5 at hD
  have hH := Lib.hid hw
  have hG := Lib.hid (fun ao cap w h => gdec_all us ao cap w h hw)
  have hR := Lib.hid (fun ao cap w h => rdec_all us ao cap w h hw)
  rw [hD] at hG hR
  have he := eql_ins o d s f m o d s f m
  rw [eqi_self] at he
  have HS := Lib.hid (Size_any first f0 f1)
  have HT := Lib.hid (rsize_any first)
  rw [rsz_byte first f0 f1] at HT
  have HE := Lib.hid (ends_any op)
  have HF := Lib.hid (rends_any op)
  clear hw hD
  generalize shSize (rowOf first).sh = sz at HS HT
  generalize en op = b at HE HF
  go_enter Try.func8, Try.ntmps8
  go_wp2_with (first
    | (go_at_call 30; refine (twin_any us _ _ _ hs hreach).mono ?_; rintro e w1 ⟨ao1, c1, rfl, hs1, hb1⟩)
    | (go_at_call 31; refine (hG.out _ _ _ (hs.keep hb1)).mono ?_; rintro e w2 ⟨rfl, hb2⟩)
    | (go_at_call 32; refine (hR.out _ _ _ (Bs.keep (hs1.keep hb2) (Below.alloc (Below.refl _ _) (Nat.le_refl _) _))).mono ?_; rintro e w3 ⟨rfl, hb3⟩; obtain ⟨kX, s3, hb3'⟩ := behind hb3; have B3 := Lib.hid (chain (chain hb1 hb2) hb3'))
    | (go_at_call 33; refine (same_bs us ao cap ao1 c1 _ (hs.keep (B3.out.alloc B3.out.size _)) (hs1.keep ((chain hb2 hb3').alloc (chain hb2 hb3').size _))).mono ?_; rintro e w4 ⟨rfl, hb4⟩; have B4 := Lib.hid (chain (B3.out.alloc B3.out.size _) hb4))
    | (go_at_call 34; refine (HS.out _).mono ?_; rintro e w5 ⟨rfl, hb5⟩; have B5 := Lib.hid (chain B4.out hb5))
    | (go_at_call 35; refine (HT.out _).mono ?_; rintro e w6 ⟨rfl, hb6⟩; have B6 := Lib.hid (chain B5.out hb6))
    | (go_at_call 36; refine (HE.out _).mono ?_; rintro e w7 ⟨rfl, rfl⟩)
    | (go_at_call 37; refine (HF.out _).mono ?_; rintro e w8 ⟨rfl, rfl⟩))
  go_ret
  exact ⟨rfl, B6.out⟩
end Go.Proofs.Ytcjcmnnhmajocaa.Gu
