import Derived.Test.YtcjcmnnhmajocabPmaw
set_option linter.unusedVariables false
set_option linter.unusedSimpArgs false
set_option maxRecDepth 100000
set_option maxHeartbeats 16000000
namespace Go.Proofs.Ytcjcmnnhmajocab.Ic
open Go.RowKit Kt
theorem NI (w:World):Calls Try.prog 157 #[.int .i64 7] w fun e w'=>e= .returned (.tuple #[.agg #[.int .i64 13, .bool true, .bool true, .bool true, .bool false, .bool false, .bool false, .bool false], .bool true])∧Below w.heap.size w w':=by
 obtain⟨i,hi,iT⟩:=Option.map_eq_some_iff.1 bZ
 simp only [Prod.mk.injEq] at iT
 obtain⟨jl,jo⟩:=iT
 obtain⟨z,hz,jd⟩:=Option.map_eq_some_iff.1 jl
 have HI:=κ hi
 have HZ:=κ hz
 have HS:=κ jd
 have HN:=κ jo
 clear hi hz jd jo jl
 have r0:aI[56]?=some (.int .i64 13):=by kernel_rfl
 have r1:aI[57]?=some (.bool true):=by kernel_rfl
 have r2:aI[58]?=some (.bool true):=by kernel_rfl
 have r3:aI[59]?=some (.bool true):=by kernel_rfl
 have r4:aI[60]?=some (.bool false):=by kernel_rfl
 have r5:aI[61]?=some (.bool false):=by kernel_rfl
 have r6:aI[62]?=some (.bool false):=by kernel_rfl
 have r7:aI[63]?=some (.bool false):=by kernel_rfl
 go_enter Try.func157,Try.ntmps157
 go_wp2_with (first
  | ((with_reducible refine aU (o:=⟨some 22,_,_,_,_,_⟩) (v:= .agg aI) ?_ ?_ ?_);(rfl);(kernel_rfl))
  | ((with_reducible refine bK (o2:=⟨some 4,_,_,_,_,_⟩) (o3:=⟨none,_,_,_,_,_⟩) ?_ ?_ 270 ?_ (.tmp 4) (.tmp 22) ?_ ?_ i z HI.out HZ.out 144 HS.out HN.out aI bY dG ?_ ?_ ?_);(rfl);(rfl);(rfl);(rfl);(rfl);(rfl);(rfl)))
 all_goals refine bodyPost_ret (v:= .tuple #[.agg #[.int .i64 13, .bool true, .bool true, .bool true, .bool false, .bool false, .bool false, .bool false], .bool true]) (by simp [results,Try.results157,go_sem]) rfl ⟨rfl, ?_⟩
 all_goals exact((Below.refl _ _).alloc (Nat.le_refl _) _).alloc (by simp) _
theorem NJ (w:World):Calls Try.prog 157 #[.int .i64 8] w fun e w'=>e= .returned (.tuple #[.agg #[.int .i64 16, .bool true, .bool false, .bool false, .bool false, .bool false, .bool false, .bool false], .bool true])∧Below w.heap.size w w':=by
 obtain⟨i,hi,iT⟩:=Option.map_eq_some_iff.1 bZ
 simp only [Prod.mk.injEq] at iT
 obtain⟨jl,jo⟩:=iT
 obtain⟨z,hz,jd⟩:=Option.map_eq_some_iff.1 jl
 have HI:=κ hi
 have HZ:=κ hz
 have HS:=κ jd
 have HN:=κ jo
 clear hi hz jd jo jl
 have r0:aI[64]?=some (.int .i64 16):=by kernel_rfl
 have r1:aI[65]?=some (.bool true):=by kernel_rfl
 have r2:aI[66]?=some (.bool false):=by kernel_rfl
 have r3:aI[67]?=some (.bool false):=by kernel_rfl
 have r4:aI[68]?=some (.bool false):=by kernel_rfl
 have r5:aI[69]?=some (.bool false):=by kernel_rfl
 have r6:aI[70]?=some (.bool false):=by kernel_rfl
 have r7:aI[71]?=some (.bool false):=by kernel_rfl
 go_enter Try.func157,Try.ntmps157
 go_wp2_with (first
  | ((with_reducible refine aU (o:=⟨some 22,_,_,_,_,_⟩) (v:= .agg aI) ?_ ?_ ?_);(rfl);(kernel_rfl))
  | ((with_reducible refine bK (o2:=⟨some 4,_,_,_,_,_⟩) (o3:=⟨none,_,_,_,_,_⟩) ?_ ?_ 270 ?_ (.tmp 4) (.tmp 22) ?_ ?_ i z HI.out HZ.out 144 HS.out HN.out aI bY dG ?_ ?_ ?_);(rfl);(rfl);(rfl);(rfl);(rfl);(rfl);(rfl)))
 all_goals refine bodyPost_ret (v:= .tuple #[.agg #[.int .i64 16, .bool true, .bool false, .bool false, .bool false, .bool false, .bool false, .bool false], .bool true]) (by simp [results,Try.results157,go_sem]) rfl ⟨rfl, ?_⟩
 all_goals exact((Below.refl _ _).alloc (Nat.le_refl _) _).alloc (by simp) _
theorem NK (w:World):Calls Try.prog 157 #[.int .i64 9] w fun e w'=>e= .returned (.tuple #[.agg #[.int .i64 5, .bool true, .bool false, .bool false, .bool true, .bool true, .bool false, .bool false], .bool true])∧Below w.heap.size w w':=by
 obtain⟨i,hi,iT⟩:=Option.map_eq_some_iff.1 bZ
 simp only [Prod.mk.injEq] at iT
 obtain⟨jl,jo⟩:=iT
 obtain⟨z,hz,jd⟩:=Option.map_eq_some_iff.1 jl
 have HI:=κ hi
 have HZ:=κ hz
 have HS:=κ jd
 have HN:=κ jo
 clear hi hz jd jo jl
 have r0:aI[72]?=some (.int .i64 5):=by kernel_rfl
 have r1:aI[73]?=some (.bool true):=by kernel_rfl
 have r2:aI[74]?=some (.bool false):=by kernel_rfl
 have r3:aI[75]?=some (.bool false):=by kernel_rfl
 have r4:aI[76]?=some (.bool true):=by kernel_rfl
 have r5:aI[77]?=some (.bool true):=by kernel_rfl
 have r6:aI[78]?=some (.bool false):=by kernel_rfl
 have r7:aI[79]?=some (.bool false):=by kernel_rfl
 go_enter Try.func157,Try.ntmps157
 go_wp2_with (first
  | ((with_reducible refine aU (o:=⟨some 22,_,_,_,_,_⟩) (v:= .agg aI) ?_ ?_ ?_);(rfl);(kernel_rfl))
  | ((with_reducible refine bK (o2:=⟨some 4,_,_,_,_,_⟩) (o3:=⟨none,_,_,_,_,_⟩) ?_ ?_ 270 ?_ (.tmp 4) (.tmp 22) ?_ ?_ i z HI.out HZ.out 144 HS.out HN.out aI bY dG ?_ ?_ ?_);(rfl);(rfl);(rfl);(rfl);(rfl);(rfl);(rfl)))
 all_goals refine bodyPost_ret (v:= .tuple #[.agg #[.int .i64 5, .bool true, .bool false, .bool false, .bool true, .bool true, .bool false, .bool false], .bool true]) (by simp [results,Try.results157,go_sem]) rfl ⟨rfl, ?_⟩
 all_goals exact((Below.refl _ _).alloc (Nat.le_refl _) _).alloc (by simp) _
theorem IC (w:World):Calls Try.prog 157 #[.int .i64 10] w fun e w'=>e= .returned (.tuple #[.agg #[.int .i64 3, .bool true, .bool true, .bool false, .bool true, .bool true, .bool false, .bool false], .bool true])∧Below w.heap.size w w':=by
 obtain⟨i,hi,iT⟩:=Option.map_eq_some_iff.1 bZ
 simp only [Prod.mk.injEq] at iT
 obtain⟨jl,jo⟩:=iT
 obtain⟨z,hz,jd⟩:=Option.map_eq_some_iff.1 jl
 have HI:=κ hi
 have HZ:=κ hz
 have HS:=κ jd
 have HN:=κ jo
 clear hi hz jd jo jl
 have r0:aI[80]?=some (.int .i64 3):=by kernel_rfl
 have r1:aI[81]?=some (.bool true):=by kernel_rfl
 have r2:aI[82]?=some (.bool true):=by kernel_rfl
 have r3:aI[83]?=some (.bool false):=by kernel_rfl
 have r4:aI[84]?=some (.bool true):=by kernel_rfl
 have r5:aI[85]?=some (.bool true):=by kernel_rfl
 have r6:aI[86]?=some (.bool false):=by kernel_rfl
 have r7:aI[87]?=some (.bool false):=by kernel_rfl
 go_enter Try.func157,Try.ntmps157
 go_wp2_with (first
  | ((with_reducible refine aU (o:=⟨some 22,_,_,_,_,_⟩) (v:= .agg aI) ?_ ?_ ?_);(rfl);(kernel_rfl))
  | ((with_reducible refine bK (o2:=⟨some 4,_,_,_,_,_⟩) (o3:=⟨none,_,_,_,_,_⟩) ?_ ?_ 270 ?_ (.tmp 4) (.tmp 22) ?_ ?_ i z HI.out HZ.out 144 HS.out HN.out aI bY dG ?_ ?_ ?_);(rfl);(rfl);(rfl);(rfl);(rfl);(rfl);(rfl)))
 all_goals refine bodyPost_ret (v:= .tuple #[.agg #[.int .i64 3, .bool true, .bool true, .bool false, .bool true, .bool true, .bool false, .bool false], .bool true]) (by simp [results,Try.results157,go_sem]) rfl ⟨rfl, ?_⟩
 all_goals exact((Below.refl _ _).alloc (Nat.le_refl _) _).alloc (by simp) _
theorem IE (w:World):Calls Try.prog 157 #[.int .i64 11] w fun e w'=>e= .returned (.tuple #[.agg #[.int .i64 0, .bool false, .bool false, .bool false, .bool true, .bool true, .bool false, .bool false], .bool true])∧Below w.heap.size w w':=by
 obtain⟨i,hi,iT⟩:=Option.map_eq_some_iff.1 bZ
 simp only [Prod.mk.injEq] at iT
 obtain⟨jl,jo⟩:=iT
 obtain⟨z,hz,jd⟩:=Option.map_eq_some_iff.1 jl
 have HI:=κ hi
 have HZ:=κ hz
 have HS:=κ jd
 have HN:=κ jo
 clear hi hz jd jo jl
 have r0:aI[88]?=some (.int .i64 0):=by kernel_rfl
 have r1:aI[89]?=some (.bool false):=by kernel_rfl
 have r2:aI[90]?=some (.bool false):=by kernel_rfl
 have r3:aI[91]?=some (.bool false):=by kernel_rfl
 have r4:aI[92]?=some (.bool true):=by kernel_rfl
 have r5:aI[93]?=some (.bool true):=by kernel_rfl
 have r6:aI[94]?=some (.bool false):=by kernel_rfl
 have r7:aI[95]?=some (.bool false):=by kernel_rfl
 go_enter Try.func157,Try.ntmps157
 go_wp2_with (first
  | ((with_reducible refine aU (o:=⟨some 22,_,_,_,_,_⟩) (v:= .agg aI) ?_ ?_ ?_);(rfl);(kernel_rfl))
  | ((with_reducible refine bK (o2:=⟨some 4,_,_,_,_,_⟩) (o3:=⟨none,_,_,_,_,_⟩) ?_ ?_ 270 ?_ (.tmp 4) (.tmp 22) ?_ ?_ i z HI.out HZ.out 144 HS.out HN.out aI bY dG ?_ ?_ ?_);(rfl);(rfl);(rfl);(rfl);(rfl);(rfl);(rfl)))
 all_goals refine bodyPost_ret (v:= .tuple #[.agg #[.int .i64 0, .bool false, .bool false, .bool false, .bool true, .bool true, .bool false, .bool false], .bool true]) (by simp [results,Try.results157,go_sem]) rfl ⟨rfl, ?_⟩
 all_goals exact((Below.refl _ _).alloc (Nat.le_refl _) _).alloc (by simp) _
theorem IG (w:World):Calls Try.prog 157 #[.int .i64 12] w fun e w'=>e= .returned (.tuple #[.agg #[.int .i64 0, .bool true, .bool false, .bool false, .bool true, .bool true, .bool false, .bool false], .bool true])∧Below w.heap.size w w':=by
 obtain⟨i,hi,iT⟩:=Option.map_eq_some_iff.1 bZ
 simp only [Prod.mk.injEq] at iT
 obtain⟨jl,jo⟩:=iT
 obtain⟨z,hz,jd⟩:=Option.map_eq_some_iff.1 jl
 have HI:=κ hi
 have HZ:=κ hz
 have HS:=κ jd
 have HN:=κ jo
 clear hi hz jd jo jl
 have r0:aI[96]?=some (.int .i64 0):=by kernel_rfl
 have r1:aI[97]?=some (.bool true):=by kernel_rfl
 have r2:aI[98]?=some (.bool false):=by kernel_rfl
 have r3:aI[99]?=some (.bool false):=by kernel_rfl
 have r4:aI[100]?=some (.bool true):=by kernel_rfl
 have r5:aI[101]?=some (.bool true):=by kernel_rfl
 have r6:aI[102]?=some (.bool false):=by kernel_rfl
 have r7:aI[103]?=some (.bool false):=by kernel_rfl
 go_enter Try.func157,Try.ntmps157
 go_wp2_with (first
  | ((with_reducible refine aU (o:=⟨some 22,_,_,_,_,_⟩) (v:= .agg aI) ?_ ?_ ?_);(rfl);(kernel_rfl))
  | ((with_reducible refine bK (o2:=⟨some 4,_,_,_,_,_⟩) (o3:=⟨none,_,_,_,_,_⟩) ?_ ?_ 270 ?_ (.tmp 4) (.tmp 22) ?_ ?_ i z HI.out HZ.out 144 HS.out HN.out aI bY dG ?_ ?_ ?_);(rfl);(rfl);(rfl);(rfl);(rfl);(rfl);(rfl)))
 all_goals refine bodyPost_ret (v:= .tuple #[.agg #[.int .i64 0, .bool true, .bool false, .bool false, .bool true, .bool true, .bool false, .bool false], .bool true]) (by simp [results,Try.results157,go_sem]) rfl ⟨rfl, ?_⟩
 all_goals exact((Below.refl _ _).alloc (Nat.le_refl _) _).alloc (by simp) _
theorem II (w:World):Calls Try.prog 157 #[.int .i64 13] w fun e w'=>e= .returned (.tuple #[.agg #[.int .i64 8, .bool true, .bool false, .bool false, .bool true, .bool true, .bool false, .bool false], .bool true])∧Below w.heap.size w w':=by
 obtain⟨i,hi,iT⟩:=Option.map_eq_some_iff.1 bZ
 simp only [Prod.mk.injEq] at iT
 obtain⟨jl,jo⟩:=iT
 obtain⟨z,hz,jd⟩:=Option.map_eq_some_iff.1 jl
 have HI:=κ hi
 have HZ:=κ hz
 have HS:=κ jd
 have HN:=κ jo
 clear hi hz jd jo jl
 have r0:aI[104]?=some (.int .i64 8):=by kernel_rfl
 have r1:aI[105]?=some (.bool true):=by kernel_rfl
 have r2:aI[106]?=some (.bool false):=by kernel_rfl
 have r3:aI[107]?=some (.bool false):=by kernel_rfl
 have r4:aI[108]?=some (.bool true):=by kernel_rfl
 have r5:aI[109]?=some (.bool true):=by kernel_rfl
 have r6:aI[110]?=some (.bool false):=by kernel_rfl
 have r7:aI[111]?=some (.bool false):=by kernel_rfl
 go_enter Try.func157,Try.ntmps157
 go_wp2_with (first
  | ((with_reducible refine aU (o:=⟨some 22,_,_,_,_,_⟩) (v:= .agg aI) ?_ ?_ ?_);(rfl);(kernel_rfl))
  | ((with_reducible refine bK (o2:=⟨some 4,_,_,_,_,_⟩) (o3:=⟨none,_,_,_,_,_⟩) ?_ ?_ 270 ?_ (.tmp 4) (.tmp 22) ?_ ?_ i z HI.out HZ.out 144 HS.out HN.out aI bY dG ?_ ?_ ?_);(rfl);(rfl);(rfl);(rfl);(rfl);(rfl);(rfl)))
 all_goals refine bodyPost_ret (v:= .tuple #[.agg #[.int .i64 8, .bool true, .bool false, .bool false, .bool true, .bool true, .bool false, .bool false], .bool true]) (by simp [results,Try.results157,go_sem]) rfl ⟨rfl, ?_⟩
 all_goals exact((Below.refl _ _).alloc (Nat.le_refl _) _).alloc (by simp) _
theorem IK (w:World):Calls Try.prog 157 #[.int .i64 14] w fun e w'=>e= .returned (.tuple #[.agg #[.int .i64 8, .bool false, .bool false, .bool false, .bool true, .bool true, .bool true, .bool true], .bool true])∧Below w.heap.size w w':=by
 obtain⟨i,hi,iT⟩:=Option.map_eq_some_iff.1 bZ
 simp only [Prod.mk.injEq] at iT
 obtain⟨jl,jo⟩:=iT
 obtain⟨z,hz,jd⟩:=Option.map_eq_some_iff.1 jl
 have HI:=κ hi
 have HZ:=κ hz
 have HS:=κ jd
 have HN:=κ jo
 clear hi hz jd jo jl
 have r0:aI[112]?=some (.int .i64 8):=by kernel_rfl
 have r1:aI[113]?=some (.bool false):=by kernel_rfl
 have r2:aI[114]?=some (.bool false):=by kernel_rfl
 have r3:aI[115]?=some (.bool false):=by kernel_rfl
 have r4:aI[116]?=some (.bool true):=by kernel_rfl
 have r5:aI[117]?=some (.bool true):=by kernel_rfl
 have r6:aI[118]?=some (.bool true):=by kernel_rfl
 have r7:aI[119]?=some (.bool true):=by kernel_rfl
 go_enter Try.func157,Try.ntmps157
 go_wp2_with (first
  | ((with_reducible refine aU (o:=⟨some 22,_,_,_,_,_⟩) (v:= .agg aI) ?_ ?_ ?_);(rfl);(kernel_rfl))
  | ((with_reducible refine bK (o2:=⟨some 4,_,_,_,_,_⟩) (o3:=⟨none,_,_,_,_,_⟩) ?_ ?_ 270 ?_ (.tmp 4) (.tmp 22) ?_ ?_ i z HI.out HZ.out 144 HS.out HN.out aI bY dG ?_ ?_ ?_);(rfl);(rfl);(rfl);(rfl);(rfl);(rfl);(rfl)))
 all_goals refine bodyPost_ret (v:= .tuple #[.agg #[.int .i64 8, .bool false, .bool false, .bool false, .bool true, .bool true, .bool true, .bool true], .bool true]) (by simp [results,Try.results157,go_sem]) rfl ⟨rfl, ?_⟩
 all_goals exact((Below.refl _ _).alloc (Nat.le_refl _) _).alloc (by simp) _
theorem IQ (w:World):Calls Try.prog 157 #[.int .i64 15] w fun e w'=>e= .returned (.tuple #[.agg #[.int .i64 0, .bool false, .bool false, .bool false, .bool true, .bool true, .bool false, .bool true], .bool true])∧Below w.heap.size w w':=by
 obtain⟨i,hi,iT⟩:=Option.map_eq_some_iff.1 bZ
 simp only [Prod.mk.injEq] at iT
 obtain⟨jl,jo⟩:=iT
 obtain⟨z,hz,jd⟩:=Option.map_eq_some_iff.1 jl
 have HI:=κ hi
 have HZ:=κ hz
 have HS:=κ jd
 have HN:=κ jo
 clear hi hz jd jo jl
 have r0:aI[120]?=some (.int .i64 0):=by kernel_rfl
 have r1:aI[121]?=some (.bool false):=by kernel_rfl
 have r2:aI[122]?=some (.bool false):=by kernel_rfl
 have r3:aI[123]?=some (.bool false):=by kernel_rfl
 have r4:aI[124]?=some (.bool true):=by kernel_rfl
 have r5:aI[125]?=some (.bool true):=by kernel_rfl
 have r6:aI[126]?=some (.bool false):=by kernel_rfl
 have r7:aI[127]?=some (.bool true):=by kernel_rfl
 go_enter Try.func157,Try.ntmps157
 go_wp2_with (first
  | ((with_reducible refine aU (o:=⟨some 22,_,_,_,_,_⟩) (v:= .agg aI) ?_ ?_ ?_);(rfl);(kernel_rfl))
  | ((with_reducible refine bK (o2:=⟨some 4,_,_,_,_,_⟩) (o3:=⟨none,_,_,_,_,_⟩) ?_ ?_ 270 ?_ (.tmp 4) (.tmp 22) ?_ ?_ i z HI.out HZ.out 144 HS.out HN.out aI bY dG ?_ ?_ ?_);(rfl);(rfl);(rfl);(rfl);(rfl);(rfl);(rfl)))
 all_goals refine bodyPost_ret (v:= .tuple #[.agg #[.int .i64 0, .bool false, .bool false, .bool false, .bool true, .bool true, .bool false, .bool true], .bool true]) (by simp [results,Try.results157,go_sem]) rfl ⟨rfl, ?_⟩
 all_goals exact((Below.refl _ _).alloc (Nat.le_refl _) _).alloc (by simp) _
theorem IU (w:World):Calls Try.prog 157 #[.int .i64 16] w fun e w'=>e= .returned (.tuple #[.agg #[.int .i64 0, .bool true, .bool false, .bool false, .bool false, .bool true, .bool false, .bool true], .bool true])∧Below w.heap.size w w':=by
 obtain⟨i,hi,iT⟩:=Option.map_eq_some_iff.1 bZ
 simp only [Prod.mk.injEq] at iT
 obtain⟨jl,jo⟩:=iT
 obtain⟨z,hz,jd⟩:=Option.map_eq_some_iff.1 jl
 have HI:=κ hi
 have HZ:=κ hz
 have HS:=κ jd
 have HN:=κ jo
 clear hi hz jd jo jl
 have r0:aI[128]?=some (.int .i64 0):=by kernel_rfl
 have r1:aI[129]?=some (.bool true):=by kernel_rfl
 have r2:aI[130]?=some (.bool false):=by kernel_rfl
 have r3:aI[131]?=some (.bool false):=by kernel_rfl
 have r4:aI[132]?=some (.bool false):=by kernel_rfl
 have r5:aI[133]?=some (.bool true):=by kernel_rfl
 have r6:aI[134]?=some (.bool false):=by kernel_rfl
 have r7:aI[135]?=some (.bool true):=by kernel_rfl
 go_enter Try.func157,Try.ntmps157
 go_wp2_with (first
  | ((with_reducible refine aU (o:=⟨some 22,_,_,_,_,_⟩) (v:= .agg aI) ?_ ?_ ?_);(rfl);(kernel_rfl))
  | ((with_reducible refine bK (o2:=⟨some 4,_,_,_,_,_⟩) (o3:=⟨none,_,_,_,_,_⟩) ?_ ?_ 270 ?_ (.tmp 4) (.tmp 22) ?_ ?_ i z HI.out HZ.out 144 HS.out HN.out aI bY dG ?_ ?_ ?_);(rfl);(rfl);(rfl);(rfl);(rfl);(rfl);(rfl)))
 all_goals refine bodyPost_ret (v:= .tuple #[.agg #[.int .i64 0, .bool true, .bool false, .bool false, .bool false, .bool true, .bool false, .bool true], .bool true]) (by simp [results,Try.results157,go_sem]) rfl ⟨rfl, ?_⟩
 all_goals exact((Below.refl _ _).alloc (Nat.le_refl _) _).alloc (by simp) _
theorem IV (w:World):Calls Try.prog 157 #[.int .i64 17] w fun e w'=>e= .returned (.tuple #[.agg #[.int .i64 0, .bool false, .bool false, .bool false, .bool false, .bool false, .bool false, .bool false], .bool true])∧Below w.heap.size w w':=by
 obtain⟨i,hi,iT⟩:=Option.map_eq_some_iff.1 bZ
 simp only [Prod.mk.injEq] at iT
 obtain⟨jl,jo⟩:=iT
 obtain⟨z,hz,jd⟩:=Option.map_eq_some_iff.1 jl
 have HI:=κ hi
 have HZ:=κ hz
 have HS:=κ jd
 have HN:=κ jo
 clear hi hz jd jo jl
 have r0:aI[136]?=some (.int .i64 0):=by kernel_rfl
 have r1:aI[137]?=some (.bool false):=by kernel_rfl
 have r2:aI[138]?=some (.bool false):=by kernel_rfl
 have r3:aI[139]?=some (.bool false):=by kernel_rfl
 have r4:aI[140]?=some (.bool false):=by kernel_rfl
 have r5:aI[141]?=some (.bool false):=by kernel_rfl
 have r6:aI[142]?=some (.bool false):=by kernel_rfl
 have r7:aI[143]?=some (.bool false):=by kernel_rfl
 go_enter Try.func157,Try.ntmps157
 go_wp2_with (first
  | ((with_reducible refine aU (o:=⟨some 22,_,_,_,_,_⟩) (v:= .agg aI) ?_ ?_ ?_);(rfl);(kernel_rfl))
  | ((with_reducible refine bK (o2:=⟨some 4,_,_,_,_,_⟩) (o3:=⟨none,_,_,_,_,_⟩) ?_ ?_ 270 ?_ (.tmp 4) (.tmp 22) ?_ ?_ i z HI.out HZ.out 144 HS.out HN.out aI bY dG ?_ ?_ ?_);(rfl);(rfl);(rfl);(rfl);(rfl);(rfl);(rfl)))
 all_goals refine bodyPost_ret (v:= .tuple #[.agg #[.int .i64 0, .bool false, .bool false, .bool false, .bool false, .bool false, .bool false, .bool false], .bool true]) (by simp [results,Try.results157,go_sem]) rfl ⟨rfl, ?_⟩
 all_goals exact((Below.refl _ _).alloc (Nat.le_refl _) _).alloc (by simp) _
theorem Es (k:Int) (h:k<1) (w:World):Calls Try.prog 157 #[.int .i64 k] w fun e w'=>e= .returned (.tuple #[.agg #[.int .i64 0, .bool false, .bool false, .bool false, .bool false, .bool false, .bool false, .bool false], .bool false])∧Below w.heap.size w w':=by
 obtain⟨i,hi,iT⟩:=Option.map_eq_some_iff.1 bZ
 simp only [Prod.mk.injEq] at iT
 obtain⟨jl,jo⟩:=iT
 obtain⟨z,hz,jd⟩:=Option.map_eq_some_iff.1 jl
 have HI:=κ hi
 have HZ:=κ hz
 have HS:=κ jd
 have HN:=κ jo
 clear hi hz jd jo jl
 go_enter Try.func157,Try.ntmps157
 go_wp2_with (first
  | ((with_reducible refine aU (o:=⟨some 22,_,_,_,_,_⟩) (v:= .agg aI) ?_ ?_ ?_);(rfl);(kernel_rfl))
  | ((with_reducible refine bK (o2:=⟨some 4,_,_,_,_,_⟩) (o3:=⟨none,_,_,_,_,_⟩) ?_ ?_ 270 ?_ (.tmp 4) (.tmp 22) ?_ ?_ i z HI.out HZ.out 144 HS.out HN.out aI bY dG ?_ ?_ ?_);(rfl);(rfl);(rfl);(rfl);(rfl);(rfl);(rfl)))
 all_goals refine bodyPost_ret (v:= .tuple #[.agg #[.int .i64 0, .bool false, .bool false, .bool false, .bool false, .bool false, .bool false, .bool false], .bool false]) (by simp [results,Try.results157,go_sem]) rfl ⟨rfl, ?_⟩
 all_goals exact((Below.refl _ _).alloc (Nat.le_refl _) _).alloc (by simp) _
theorem Bl (k:Int) (h:17<k) (w:World):Calls Try.prog 157 #[.int .i64 k] w fun e w'=>e= .returned (.tuple #[.agg #[.int .i64 0, .bool false, .bool false, .bool false, .bool false, .bool false, .bool false, .bool false], .bool false])∧Below w.heap.size w w':=by
 obtain⟨i,hi,iT⟩:=Option.map_eq_some_iff.1 bZ
 simp only [Prod.mk.injEq] at iT
 obtain⟨jl,jo⟩:=iT
 obtain⟨z,hz,jd⟩:=Option.map_eq_some_iff.1 jl
 have HI:=κ hi
 have HZ:=κ hz
 have HS:=κ jd
 have HN:=κ jo
 clear hi hz jd jo jl
 have h1:¬k<1:=by omega
 go_enter Try.func157,Try.ntmps157
 go_wp2_with (first
  | ((with_reducible refine aU (o:=⟨some 22,_,_,_,_,_⟩) (v:= .agg aI) ?_ ?_ ?_);(rfl);(kernel_rfl))
  | ((with_reducible refine bK (o2:=⟨some 4,_,_,_,_,_⟩) (o3:=⟨none,_,_,_,_,_⟩) ?_ ?_ 270 ?_ (.tmp 4) (.tmp 22) ?_ ?_ i z HI.out HZ.out 144 HS.out HN.out aI bY dG ?_ ?_ ?_);(rfl);(rfl);(rfl);(rfl);(rfl);(rfl);(rfl)))
 all_goals refine bodyPost_ret (v:= .tuple #[.agg #[.int .i64 0, .bool false, .bool false, .bool false, .bool false, .bool false, .bool false, .bool false], .bool false]) (by simp [results,Try.results157,go_sem]) rfl ⟨rfl, ?_⟩
 all_goals exact((Below.refl _ _).alloc (Nat.le_refl _) _).alloc (by simp) _
end Go.Proofs.Ytcjcmnnhmajocab.Ic
