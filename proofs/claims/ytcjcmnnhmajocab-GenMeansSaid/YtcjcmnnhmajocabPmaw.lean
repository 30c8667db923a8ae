import Derived.Test.YtcjcmnnhmajocabPmaa
set_option linter.unusedVariables false
set_option linter.unusedSimpArgs false
set_option maxRecDepth 100000
set_option maxHeartbeats 16000000
namespace Go.Proofs.Ytcjcmnnhmajocab.Ic
open Go.RowKit Kt
def aI:Array Value:= #[.int .i64 0, .bool false, .bool false, .bool false, .bool false, .bool false, .bool false, .bool false, .int .i64 0, .bool false, .bool false, .bool false, .bool true, .bool false, .bool false, .bool false, .int .i64 12, .bool false, .bool false, .bool false, .bool false, .bool false, .bool false, .bool false, .int .i64 12, .bool true, .bool false, .bool false, .bool false, .bool false, .bool false, .bool false, .int .i64 16, .bool true, .bool true, .bool false, .bool false, .bool false, .bool false, .bool false, .int .i64 7, .bool true, .bool false, .bool false, .bool false, .bool false, .bool false, .bool false, .int .i64 0, .bool true, .bool true, .bool true, .bool false, .bool false, .bool false, .bool false, .int .i64 13, .bool true, .bool true, .bool true, .bool false, .bool false, .bool false, .bool false, .int .i64 16, .bool true, .bool false, .bool false, .bool false, .bool false, .bool false, .bool false, .int .i64 5, .bool true, .bool false, .bool false, .bool true, .bool true, .bool false, .bool false, .int .i64 3, .bool true, .bool true, .bool false, .bool true, .bool true, .bool false, .bool false, .int .i64 0, .bool false, .bool false, .bool false, .bool true, .bool true, .bool false, .bool false, .int .i64 0, .bool true, .bool false, .bool false, .bool true, .bool true, .bool false, .bool false, .int .i64 8, .bool true, .bool false, .bool false, .bool true, .bool true, .bool false, .bool false, .int .i64 8, .bool false, .bool false, .bool false, .bool true, .bool true, .bool true, .bool true, .int .i64 0, .bool false, .bool false, .bool false, .bool true, .bool true, .bool false, .bool true, .int .i64 0, .bool true, .bool false, .bool false, .bool false, .bool true, .bool false, .bool true, .int .i64 0, .bool false, .bool false, .bool false, .bool false, .bool false, .bool false, .bool false]
theorem bY:aI.size=144:=by kernel_rfl
theorem dG:aI.all (·.oneCell')=true:=by kernel_rfl
theorem bZ:(Try.prog.info? 270).map (fun i=>(i.zero.map (·.cells.size),i.size))=some (some 144,144):=by kernel_rfl
theorem Ny (w:World):Calls Try.prog 157 #[.int .i64 1] w fun e w'=>e= .returned (.tuple #[.agg #[.int .i64 0, .bool false, .bool false, .bool false, .bool true, .bool false, .bool false, .bool false], .bool true])∧Below w.heap.size w w':=by
 obtain⟨i,hi,iT⟩:=Option.map_eq_some_iff.1 bZ
 simp only [Prod.mk.injEq] at iT
 obtain⟨jl,jo⟩:=iT
 obtain⟨z,hz,jd⟩:=Option.map_eq_some_iff.1 jl
 have HI:=κ hi
 have HZ:=κ hz
 have HS:=κ jd
 have HN:=κ jo
 clear hi hz jd jo jl
 have r0:aI[8]?=some (.int .i64 0):=by kernel_rfl
 have r1:aI[9]?=some (.bool false):=by kernel_rfl
 have r2:aI[10]?=some (.bool false):=by kernel_rfl
 have r3:aI[11]?=some (.bool false):=by kernel_rfl
 have r4:aI[12]?=some (.bool true):=by kernel_rfl
 have r5:aI[13]?=some (.bool false):=by kernel_rfl
 have r6:aI[14]?=some (.bool false):=by kernel_rfl
 have r7:aI[15]?=some (.bool false):=by kernel_rfl
 go_enter Try.func157,Try.ntmps157
 go_wp2_with (first
  | ((with_reducible refine aU (o:=⟨some 22,_,_,_,_,_⟩) (v:= .agg aI) ?_ ?_ ?_);(rfl);(kernel_rfl))
  | ((with_reducible refine bK (o2:=⟨some 4,_,_,_,_,_⟩) (o3:=⟨none,_,_,_,_,_⟩) ?_ ?_ 270 ?_ (.tmp 4) (.tmp 22) ?_ ?_ i z HI.out HZ.out 144 HS.out HN.out aI bY dG ?_ ?_ ?_);(rfl);(rfl);(rfl);(rfl);(rfl);(rfl);(rfl)))
 all_goals refine bodyPost_ret (v:= .tuple #[.agg #[.int .i64 0, .bool false, .bool false, .bool false, .bool true, .bool false, .bool false, .bool false], .bool true]) (by simp [results,Try.results157,go_sem]) rfl ⟨rfl, ?_⟩
 all_goals exact((Below.refl _ _).alloc (Nat.le_refl _) _).alloc (by simp) _
theorem Nz (w:World):Calls Try.prog 157 #[.int .i64 2] w fun e w'=>e= .returned (.tuple #[.agg #[.int .i64 12, .bool false, .bool false, .bool false, .bool false, .bool false, .bool false, .bool false], .bool true])∧Below w.heap.size w w':=by
 obtain⟨i,hi,iT⟩:=Option.map_eq_some_iff.1 bZ
 simp only [Prod.mk.injEq] at iT
 obtain⟨jl,jo⟩:=iT
 obtain⟨z,hz,jd⟩:=Option.map_eq_some_iff.1 jl
 have HI:=κ hi
 have HZ:=κ hz
 have HS:=κ jd
 have HN:=κ jo
 clear hi hz jd jo jl
 have r0:aI[16]?=some (.int .i64 12):=by kernel_rfl
 have r1:aI[17]?=some (.bool false):=by kernel_rfl
 have r2:aI[18]?=some (.bool false):=by kernel_rfl
 have r3:aI[19]?=some (.bool false):=by kernel_rfl
 have r4:aI[20]?=some (.bool false):=by kernel_rfl
 have r5:aI[21]?=some (.bool false):=by kernel_rfl
 have r6:aI[22]?=some (.bool false):=by kernel_rfl
 have r7:aI[23]?=some (.bool false):=by kernel_rfl
 go_enter Try.func157,Try.ntmps157
 go_wp2_with (first
  | ((with_reducible refine aU (o:=⟨some 22,_,_,_,_,_⟩) (v:= .agg aI) ?_ ?_ ?_);(rfl);(kernel_rfl))
  | ((with_reducible refine bK (o2:=⟨some 4,_,_,_,_,_⟩) (o3:=⟨none,_,_,_,_,_⟩) ?_ ?_ 270 ?_ (.tmp 4) (.tmp 22) ?_ ?_ i z HI.out HZ.out 144 HS.out HN.out aI bY dG ?_ ?_ ?_);(rfl);(rfl);(rfl);(rfl);(rfl);(rfl);(rfl)))
 all_goals refine bodyPost_ret (v:= .tuple #[.agg #[.int .i64 12, .bool false, .bool false, .bool false, .bool false, .bool false, .bool false, .bool false], .bool true]) (by simp [results,Try.results157,go_sem]) rfl ⟨rfl, ?_⟩
 all_goals exact((Below.refl _ _).alloc (Nat.le_refl _) _).alloc (by simp) _
theorem NC (w:World):Calls Try.prog 157 #[.int .i64 3] w fun e w'=>e= .returned (.tuple #[.agg #[.int .i64 12, .bool true, .bool false, .bool false, .bool false, .bool false, .bool false, .bool false], .bool true])∧Below w.heap.size w w':=by
 obtain⟨i,hi,iT⟩:=Option.map_eq_some_iff.1 bZ
 simp only [Prod.mk.injEq] at iT
 obtain⟨jl,jo⟩:=iT
 obtain⟨z,hz,jd⟩:=Option.map_eq_some_iff.1 jl
 have HI:=κ hi
 have HZ:=κ hz
 have HS:=κ jd
 have HN:=κ jo
 clear hi hz jd jo jl
 have r0:aI[24]?=some (.int .i64 12):=by kernel_rfl
 have r1:aI[25]?=some (.bool true):=by kernel_rfl
 have r2:aI[26]?=some (.bool false):=by kernel_rfl
 have r3:aI[27]?=some (.bool false):=by kernel_rfl
 have r4:aI[28]?=some (.bool false):=by kernel_rfl
 have r5:aI[29]?=some (.bool false):=by kernel_rfl
 have r6:aI[30]?=some (.bool false):=by kernel_rfl
 have r7:aI[31]?=some (.bool false):=by kernel_rfl
 go_enter Try.func157,Try.ntmps157
 go_wp2_with (first
  | ((with_reducible refine aU (o:=⟨some 22,_,_,_,_,_⟩) (v:= .agg aI) ?_ ?_ ?_);(rfl);(kernel_rfl))
  | ((with_reducible refine bK (o2:=⟨some 4,_,_,_,_,_⟩) (o3:=⟨none,_,_,_,_,_⟩) ?_ ?_ 270 ?_ (.tmp 4) (.tmp 22) ?_ ?_ i z HI.out HZ.out 144 HS.out HN.out aI bY dG ?_ ?_ ?_);(rfl);(rfl);(rfl);(rfl);(rfl);(rfl);(rfl)))
 all_goals refine bodyPost_ret (v:= .tuple #[.agg #[.int .i64 12, .bool true, .bool false, .bool false, .bool false, .bool false, .bool false, .bool false], .bool true]) (by simp [results,Try.results157,go_sem]) rfl ⟨rfl, ?_⟩
 all_goals exact((Below.refl _ _).alloc (Nat.le_refl _) _).alloc (by simp) _
theorem ND (w:World):Calls Try.prog 157 #[.int .i64 4] w fun e w'=>e= .returned (.tuple #[.agg #[.int .i64 16, .bool true, .bool true, .bool false, .bool false, .bool false, .bool false, .bool false], .bool true])∧Below w.heap.size w w':=by
 obtain⟨i,hi,iT⟩:=Option.map_eq_some_iff.1 bZ
 simp only [Prod.mk.injEq] at iT
 obtain⟨jl,jo⟩:=iT
 obtain⟨z,hz,jd⟩:=Option.map_eq_some_iff.1 jl
 have HI:=κ hi
 have HZ:=κ hz
 have HS:=κ jd
 have HN:=κ jo
 clear hi hz jd jo jl
 have r0:aI[32]?=some (.int .i64 16):=by kernel_rfl
 have r1:aI[33]?=some (.bool true):=by kernel_rfl
 have r2:aI[34]?=some (.bool true):=by kernel_rfl
 have r3:aI[35]?=some (.bool false):=by kernel_rfl
 have r4:aI[36]?=some (.bool false):=by kernel_rfl
 have r5:aI[37]?=some (.bool false):=by kernel_rfl
 have r6:aI[38]?=some (.bool false):=by kernel_rfl
 have r7:aI[39]?=some (.bool false):=by kernel_rfl
 go_enter Try.func157,Try.ntmps157
 go_wp2_with (first
  | ((with_reducible refine aU (o:=⟨some 22,_,_,_,_,_⟩) (v:= .agg aI) ?_ ?_ ?_);(rfl);(kernel_rfl))
  | ((with_reducible refine bK (o2:=⟨some 4,_,_,_,_,_⟩) (o3:=⟨none,_,_,_,_,_⟩) ?_ ?_ 270 ?_ (.tmp 4) (.tmp 22) ?_ ?_ i z HI.out HZ.out 144 HS.out HN.out aI bY dG ?_ ?_ ?_);(rfl);(rfl);(rfl);(rfl);(rfl);(rfl);(rfl)))
 all_goals refine bodyPost_ret (v:= .tuple #[.agg #[.int .i64 16, .bool true, .bool true, .bool false, .bool false, .bool false, .bool false, .bool false], .bool true]) (by simp [results,Try.results157,go_sem]) rfl ⟨rfl, ?_⟩
 all_goals exact((Below.refl _ _).alloc (Nat.le_refl _) _).alloc (by simp) _
theorem NG (w:World):Calls Try.prog 157 #[.int .i64 5] w fun e w'=>e= .returned (.tuple #[.agg #[.int .i64 7, .bool true, .bool false, .bool false, .bool false, .bool false, .bool false, .bool false], .bool true])∧Below w.heap.size w w':=by
 obtain⟨i,hi,iT⟩:=Option.map_eq_some_iff.1 bZ
 simp only [Prod.mk.injEq] at iT
 obtain⟨jl,jo⟩:=iT
 obtain⟨z,hz,jd⟩:=Option.map_eq_some_iff.1 jl
 have HI:=κ hi
 have HZ:=κ hz
 have HS:=κ jd
 have HN:=κ jo
 clear hi hz jd jo jl
 have r0:aI[40]?=some (.int .i64 7):=by kernel_rfl
 have r1:aI[41]?=some (.bool true):=by kernel_rfl
 have r2:aI[42]?=some (.bool false):=by kernel_rfl
 have r3:aI[43]?=some (.bool false):=by kernel_rfl
 have r4:aI[44]?=some (.bool false):=by kernel_rfl
 have r5:aI[45]?=some (.bool false):=by kernel_rfl
 have r6:aI[46]?=some (.bool false):=by kernel_rfl
 have r7:aI[47]?=some (.bool false):=by kernel_rfl
 go_enter Try.func157,Try.ntmps157
 go_wp2_with (first
  | ((with_reducible refine aU (o:=⟨some 22,_,_,_,_,_⟩) (v:= .agg aI) ?_ ?_ ?_);(rfl);(kernel_rfl))
  | ((with_reducible refine bK (o2:=⟨some 4,_,_,_,_,_⟩) (o3:=⟨none,_,_,_,_,_⟩) ?_ ?_ 270 ?_ (.tmp 4) (.tmp 22) ?_ ?_ i z HI.out HZ.out 144 HS.out HN.out aI bY dG ?_ ?_ ?_);(rfl);(rfl);(rfl);(rfl);(rfl);(rfl);(rfl)))
 all_goals refine bodyPost_ret (v:= .tuple #[.agg #[.int .i64 7, .bool true, .bool false, .bool false, .bool false, .bool false, .bool false, .bool false], .bool true]) (by simp [results,Try.results157,go_sem]) rfl ⟨rfl, ?_⟩
 all_goals exact((Below.refl _ _).alloc (Nat.le_refl _) _).alloc (by simp) _
theorem NH (w:World):Calls Try.prog 157 #[.int .i64 6] w fun e w'=>e= .returned (.tuple #[.agg #[.int .i64 0, .bool true, .bool true, .bool true, .bool false, .bool false, .bool false, .bool false], .bool true])∧Below w.heap.size w w':=by
 obtain⟨i,hi,iT⟩:=Option.map_eq_some_iff.1 bZ
 simp only [Prod.mk.injEq] at iT
 obtain⟨jl,jo⟩:=iT
 obtain⟨z,hz,jd⟩:=Option.map_eq_some_iff.1 jl
 have HI:=κ hi
 have HZ:=κ hz
 have HS:=κ jd
 have HN:=κ jo
 clear hi hz jd jo jl
 have r0:aI[48]?=some (.int .i64 0):=by kernel_rfl
 have r1:aI[49]?=some (.bool true):=by kernel_rfl
 have r2:aI[50]?=some (.bool true):=by kernel_rfl
 have r3:aI[51]?=some (.bool true):=by kernel_rfl
 have r4:aI[52]?=some (.bool false):=by kernel_rfl
 have r5:aI[53]?=some (.bool false):=by kernel_rfl
 have r6:aI[54]?=some (.bool false):=by kernel_rfl
 have r7:aI[55]?=some (.bool false):=by kernel_rfl
 go_enter Try.func157,Try.ntmps157
 go_wp2_with (first
  | ((with_reducible refine aU (o:=⟨some 22,_,_,_,_,_⟩) (v:= .agg aI) ?_ ?_ ?_);(rfl);(kernel_rfl))
  | ((with_reducible refine bK (o2:=⟨some 4,_,_,_,_,_⟩) (o3:=⟨none,_,_,_,_,_⟩) ?_ ?_ 270 ?_ (.tmp 4) (.tmp 22) ?_ ?_ i z HI.out HZ.out 144 HS.out HN.out aI bY dG ?_ ?_ ?_);(rfl);(rfl);(rfl);(rfl);(rfl);(rfl);(rfl)))
 all_goals refine bodyPost_ret (v:= .tuple #[.agg #[.int .i64 0, .bool true, .bool true, .bool true, .bool false, .bool false, .bool false, .bool false], .bool true]) (by simp [results,Try.results157,go_sem]) rfl ⟨rfl, ?_⟩
 all_goals exact((Below.refl _ _).alloc (Nat.le_refl _) _).alloc (by simp) _
end Go.Proofs.Ytcjcmnnhmajocab.Ic
