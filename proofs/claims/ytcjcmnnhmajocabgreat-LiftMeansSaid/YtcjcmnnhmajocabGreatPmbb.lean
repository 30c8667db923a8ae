import Derived.Test.YtcjcmnnhmajocabGreatPmba
set_option linter.unusedVariables false
set_option linter.unusedSimpArgs false
set_option maxRecDepth 100000
set_option maxHeartbeats 16000000
namespace Go.Proofs.YtcjcmnnhmajocabGreat.Gu
open Go.RowKit
theorem aa4 (w:World):Calls Tryz.prog 112 #[.int .u8 0] w fun e w'=>e= .returned (.agg #[.int .i64 0, .int .i64 1, .int .i64 0, .int .i64 0])∧Below w.heap.size w w':=by
 go_enter Tryz.func112,Tryz.ntmps112
 go_wp2
 go_region
 all_goals go_wp2
 all_goals refine bodyPost_ret (v:= .agg #[.int .i64 0, .int .i64 1, .int .i64 0, .int .i64 0]) (by simp [results,Tryz.results112,go_sem]) rfl ⟨rfl, ?_⟩
 all_goals go_grown
theorem aa5 (w:World):Calls Tryz.prog 112 #[.int .u8 1] w fun e w'=>e= .returned (.agg #[.int .i64 1, .int .i64 1, .int .i64 0, .int .i64 0])∧Below w.heap.size w w':=by
 go_enter Tryz.func112,Tryz.ntmps112
 go_wp2
 go_region
 all_goals go_wp2
 all_goals refine bodyPost_ret (v:= .agg #[.int .i64 1, .int .i64 1, .int .i64 0, .int .i64 0]) (by simp [results,Tryz.results112,go_sem]) rfl ⟨rfl, ?_⟩
 all_goals go_grown
theorem aa6 (w:World):Calls Tryz.prog 112 #[.int .u8 2] w fun e w'=>e= .returned (.agg #[.int .i64 2, .int .i64 1, .int .i64 0, .int .i64 0])∧Below w.heap.size w w':=by
 go_enter Tryz.func112,Tryz.ntmps112
 go_wp2
 go_region
 all_goals go_wp2
 all_goals refine bodyPost_ret (v:= .agg #[.int .i64 2, .int .i64 1, .int .i64 0, .int .i64 0]) (by simp [results,Tryz.results112,go_sem]) rfl ⟨rfl, ?_⟩
 all_goals go_grown
theorem aa7 (w:World):Calls Tryz.prog 112 #[.int .u8 3] w fun e w'=>e= .returned (.agg #[.int .i64 3, .int .i64 1, .int .i64 0, .int .i64 0])∧Below w.heap.size w w':=by
 go_enter Tryz.func112,Tryz.ntmps112
 go_wp2
 go_region
 all_goals go_wp2
 all_goals refine bodyPost_ret (v:= .agg #[.int .i64 3, .int .i64 1, .int .i64 0, .int .i64 0]) (by simp [results,Tryz.results112,go_sem]) rfl ⟨rfl, ?_⟩
 all_goals go_grown
theorem aa8 (w:World):Calls Tryz.prog 112 #[.int .u8 4] w fun e w'=>e= .returned (.agg #[.int .i64 4, .int .i64 1, .int .i64 0, .int .i64 0])∧Below w.heap.size w w':=by
 go_enter Tryz.func112,Tryz.ntmps112
 go_wp2
 go_region
 all_goals go_wp2
 all_goals refine bodyPost_ret (v:= .agg #[.int .i64 4, .int .i64 1, .int .i64 0, .int .i64 0]) (by simp [results,Tryz.results112,go_sem]) rfl ⟨rfl, ?_⟩
 all_goals go_grown
theorem aa9 (w:World):Calls Tryz.prog 112 #[.int .u8 5] w fun e w'=>e= .returned (.agg #[.int .i64 5, .int .i64 2, .int .i64 0, .int .i64 0])∧Below w.heap.size w w':=by
 go_enter Tryz.func112,Tryz.ntmps112
 go_wp2
 go_region
 all_goals go_wp2
 all_goals refine bodyPost_ret (v:= .agg #[.int .i64 5, .int .i64 2, .int .i64 0, .int .i64 0]) (by simp [results,Tryz.results112,go_sem]) rfl ⟨rfl, ?_⟩
 all_goals go_grown
theorem abb (w:World):Calls Tryz.prog 112 #[.int .u8 6] w fun e w'=>e= .returned (.agg #[.int .i64 6, .int .i64 3, .int .i64 0, .int .i64 0])∧Below w.heap.size w w':=by
 go_enter Tryz.func112,Tryz.ntmps112
 go_wp2
 go_region
 all_goals go_wp2
 all_goals refine bodyPost_ret (v:= .agg #[.int .i64 6, .int .i64 3, .int .i64 0, .int .i64 0]) (by simp [results,Tryz.results112,go_sem]) rfl ⟨rfl, ?_⟩
 all_goals go_grown
theorem abd (w:World):Calls Tryz.prog 112 #[.int .u8 7] w fun e w'=>e= .returned (.agg #[.int .i64 7, .int .i64 4, .int .i64 0, .int .i64 0])∧Below w.heap.size w w':=by
 go_enter Tryz.func112,Tryz.ntmps112
 go_wp2
 go_region
 all_goals go_wp2
 all_goals refine bodyPost_ret (v:= .agg #[.int .i64 7, .int .i64 4, .int .i64 0, .int .i64 0]) (by simp [results,Tryz.results112,go_sem]) rfl ⟨rfl, ?_⟩
 all_goals go_grown
theorem abe (w:World):Calls Tryz.prog 112 #[.int .u8 8] w fun e w'=>e= .returned (.agg #[.int .i64 8, .int .i64 4, .int .i64 0, .int .i64 0])∧Below w.heap.size w w':=by
 go_enter Tryz.func112,Tryz.ntmps112
 go_wp2
 go_region
 all_goals go_wp2
 all_goals refine bodyPost_ret (v:= .agg #[.int .i64 8, .int .i64 4, .int .i64 0, .int .i64 0]) (by simp [results,Tryz.results112,go_sem]) rfl ⟨rfl, ?_⟩
 all_goals go_grown
theorem abf (w:World):Calls Tryz.prog 112 #[.int .u8 9] w fun e w'=>e= .returned (.agg #[.int .i64 9, .int .i64 5, .int .i64 0, .int .i64 0])∧Below w.heap.size w w':=by
 go_enter Tryz.func112,Tryz.ntmps112
 go_wp2
 go_region
 all_goals go_wp2
 all_goals refine bodyPost_ret (v:= .agg #[.int .i64 9, .int .i64 5, .int .i64 0, .int .i64 0]) (by simp [results,Tryz.results112,go_sem]) rfl ⟨rfl, ?_⟩
 all_goals go_grown
theorem Xg (w:World):Calls Tryz.prog 112 #[.int .u8 10] w fun e w'=>e= .returned (.agg #[.int .i64 10, .int .i64 5, .int .i64 0, .int .i64 0])∧Below w.heap.size w w':=by
 go_enter Tryz.func112,Tryz.ntmps112
 go_wp2
 go_region
 all_goals go_wp2
 all_goals refine bodyPost_ret (v:= .agg #[.int .i64 10, .int .i64 5, .int .i64 0, .int .i64 0]) (by simp [results,Tryz.results112,go_sem]) rfl ⟨rfl, ?_⟩
 all_goals go_grown
theorem Xh (w:World):Calls Tryz.prog 112 #[.int .u8 11] w fun e w'=>e= .returned (.agg #[.int .i64 11, .int .i64 12, .int .i64 0, .int .i64 0])∧Below w.heap.size w w':=by
 go_enter Tryz.func112,Tryz.ntmps112
 go_wp2
 go_region
 all_goals go_wp2
 all_goals refine bodyPost_ret (v:= .agg #[.int .i64 11, .int .i64 12, .int .i64 0, .int .i64 0]) (by simp [results,Tryz.results112,go_sem]) rfl ⟨rfl, ?_⟩
 all_goals go_grown
def aff (b:Int):Int:=match b with
 | 0=>1
 | 1=>1
 | 2=>1
 | 3=>1
 | 4=>1
 | 5=>2
 | 6=>3
 | 7=>4
 | 8=>4
 | 9=>5
 | 10=>5
 | 11=>12
 | _=>0
def rowOf (b:Int):Rw:=if b<12 then⟨b,aff b,0,0⟩ else yY b
theorem yZ (b:Int) (h1:0≤b) (h2:b<256) (w:World):Calls Tryz.prog 112 #[.int .u8 b] w fun e w'=>e= .returned (.agg #[.int .i64 (rowOf b).op, .int .i64 (rowOf b).sh, .int .i64 (rowOf b).lo, .int .i64 (rowOf b).fi])∧Below w.heap.size w w':=by
 by_cases h:b<12
 ·have hk:b=0∨b=1∨b=2∨b=3∨b=4∨b=5∨b=6∨b=7∨b=8∨b=9∨b=10∨b=11:=by omega
  rcases hk with rfl | rfl | rfl | rfl | rfl | rfl | rfl | rfl | rfl | rfl | rfl | rfl
  ·exact aa4 w
  ·exact aa5 w
  ·exact aa6 w
  ·exact aa7 w
  ·exact aa8 w
  ·exact aa9 w
  ·exact abb w
  ·exact abd w
  ·exact abe w
  ·exact abf w
  ·exact Xg w
  ·exact Xh w
 ·have e:rowOf b=yY b:=if_neg h
  rw [e]
  exact SE b (by omega) h2 w
def shSize (s:Int):Int:=match s with
 | 0=>0
 | 1=>1
 | 2=>2
 | 3=>2
 | 4=>5
 | 5=>2
 | 6=>2
 | 7=>2
 | 8=>3
 | 9=>6
 | 10=>3
 | 11=>5
 | 12=>3
 | _=>0
theorem wK (s:Int) (h1:0≤s) (h2:s≤12) (w:World):Calls Tryz.prog 113 #[.int .i64 s] w fun e w'=>e= .returned (.int .i64 (shSize s))∧Below w.heap.size w w':=by
 have hk:s=0∨s=1∨s=2∨s=3∨s=4∨s=5∨s=6∨s=7∨s=8∨s=9∨s=10∨s=11∨s=12:=by omega
 rcases hk with rfl | rfl | rfl | rfl | rfl | rfl | rfl | rfl | rfl | rfl | rfl | rfl | rfl
 all_goals go_enter Tryz.func113,Tryz.ntmps113
 all_goals go_wp2
 all_goals go_ret
 all_goals exact⟨rfl,(Below.refl _ _).alloc (Nat.le_refl _) _⟩
theorem Xi:∀n:Fin 256,0≤(rowOf (n.val:Int)).op∧(rowOf (n.val:Int)).op≤31∧0≤(rowOf (n.val:Int)).sh∧(rowOf (n.val:Int)).sh≤12∧0≤(rowOf (n.val:Int)).lo∧(rowOf (n.val:Int)).lo≤15∧0≤(rowOf (n.val:Int)).fi∧(rowOf (n.val:Int)).fi≤3:=by decide+kernel
theorem qR (b:Int) (h1:0≤b) (h2:b<256):0≤(rowOf b).op∧(rowOf b).op≤31∧0≤(rowOf b).sh∧(rowOf b).sh≤12∧0≤(rowOf b).lo∧(rowOf b).lo≤15∧0≤(rowOf b).fi∧(rowOf b).fi≤3:=by
 obtain⟨n,rfl⟩:=Int.eq_ofNat_of_zero_le h1
 exact Xi ⟨n,by omega⟩
theorem rZ (b:Int) (h1:0≤b) (h2:b<256) (w:World):Calls Tryz.prog 83 #[.int .u8 b] w fun e w'=>e= .returned (.int .i64 (shSize (rowOf b).sh))∧Below w.heap.size w w':=by
 obtain⟨_,_,h3,h4,_,_,_,_⟩:=qR b h1 h2
 have HR:=κ (yZ b h1 h2)
 have HZ:=κ (wK (rowOf b).sh h3 h4)
 clear h3 h4
 generalize shSize (rowOf b).sh=z at HZ⊢
 generalize(rowOf b).sh=q1 at HR HZ
 generalize(rowOf b).op=q0 at HR
 generalize(rowOf b).lo=q2 at HR
 generalize(rowOf b).fi=q3 at HR
 have afg:∀w:World,(Instr.field 206 (.agg #[.int .i64 q0, .int .i64 q1, .int .i64 q2, .int .i64 q3]) 1).run Tryz.prog w= .ok (.int .i64 q1) w:=fun _=>by kernel_rfl
 go_enter Tryz.func83,Tryz.ntmps83
 go_wp2_with (first
  | (go_at_call 112;refine(HR.out _).mono ?_;rintro e w1 ⟨rfl,dH⟩)
  | (go_at_call 113;refine(HZ.out _).mono ?_;rintro e w2 ⟨rfl,iE⟩))
 go_ret
 exact⟨rfl,dH.trans (iE.mono dH.size)⟩
end Go.Proofs.YtcjcmnnhmajocabGreat.Gu
