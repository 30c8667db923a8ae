import Derived.Test.YtcjcmnnhmajocabPmaa
set_option linter.unusedVariables false
set_option linter.unusedSimpArgs false
set_option maxRecDepth 100000
set_option maxHeartbeats 16000000
namespace Go.Proofs.Ytcjcmnnhmajocab.Ho
open Go.RowKit Kt
def fr (d a b c k:Bool) (n w:Int):Array Value:= #[.bool d, .bool a, .bool b, .bool c, .bool k, .int .i64 n, .int .i64 w]
def dO:Nat→Array Value
 | 1=>fr true true true false false 0 1
 | 2=>fr true true false false false 0 1
 | 3=>fr true true true true false 0 1
 | 4=>fr true true false false false 65 2
 | 5=>fr true false false false false 0 1
 | 6=>fr false true false false false 65 2
 | 7=>fr false false false false false 65 2
 | 8=>fr true false false false false 0 2
 | 9=>fr false true false false false 65 1
 | 10=>fr true false false false false 12 1
 | 11=>fr false true false false false 12 1
 | 12=>fr true false false false false 2048 1
 | 13=>fr false true false false false 2048 1
 | 14=>fr true false false false true 65 3
 | 15=>fr true true false false true 65 2
 | _=>fr false false false false false 0 0
theorem DR (q:Nat):∃ (d a b c k:Bool) (n w:Int),dO q= #[.bool d, .bool a, .bool b, .bool c, .bool k, .int .i64 n, .int .i64 w]:=by
 unfold dO
 split<;>exact⟨_,_,_,_,_,_,_,rfl⟩
def FI (o:Int):Nat:=
 if o=0 then 0 else if o=1 then 7 else if o=2 then 8 else if o=4 then 9 else if o=6 then 10 else if o=7 then 11 else if o=8 then 12 else if o=9 then 13 else if o=10 then 7
 else if o=11 then 6 else if o=12 then 14 else if o=13 then 15 else if o=14 then 7 else if o=15 then 7 else 0
def aF (o:Int):Nat:=
 if 16≤o∧o<32 then 1
 else if 32≤o∧o<39∨64≤o∧o<80∨o=3 then 2
 else if 48≤o∧o<61∨o=5 then 3
 else if 80≤o∧o<85∨88≤o∧o<91 then 4
 else if o=97 then 5
 else if o=96 then 6
 else FI o
def aaJ:Array Value:=(List.range 16).foldl (fun s (j:Nat)=>let i:Int:=j;s++(if i=3∨i=5 then dO 0 else dO (FI i))) #[]
theorem Q7 (o:Int) (h:0≤o) (g:o<16) (h3:o≠3) (h5:o≠5):∀w:World,(Instr.index 269 (.agg aaJ) (.int .i64 o)).run Try.prog w= .ok (.agg (dO (FI o))) w:=by
 rcases(show o=0∨o=1∨o=2∨o=4∨o=6∨o=7∨o=8∨o=9∨o=10∨o=11∨o=12∨o=13∨o=14∨o=15 by omega) with rfl | rfl | rfl | rfl | rfl | rfl | rfl | rfl | rfl | rfl | rfl | rfl | rfl | rfl
 ·intro w;kernel_rfl
 ·intro w;kernel_rfl
 ·intro w;kernel_rfl
 ·intro w;kernel_rfl
 ·intro w;kernel_rfl
 ·intro w;kernel_rfl
 ·intro w;kernel_rfl
 ·intro w;kernel_rfl
 ·intro w;kernel_rfl
 ·intro w;kernel_rfl
 ·intro w;kernel_rfl
 ·intro w;kernel_rfl
 ·intro w;kernel_rfl
 ·intro w;kernel_rfl
theorem yE (o:Int) (h:¬ (16≤o∧o<32)) (h2:¬ (32≤o∧o<39∨64≤o∧o<80∨o=3)) (h3:¬ (48≤o∧o<61∨o=5)) (h4:¬ (80≤o∧o<85∨88≤o∧o<91)) (h5:o≠97) (h6:o≠96):aF o=FI o:=by
 unfold aF
 rw [if_neg h,if_neg h2,if_neg h3,if_neg h4,if_neg h5,if_neg h6]
theorem Q8 (o:Int) (h:o<0∨15<o):FI o=0:=by
 unfold FI
 repeat(rw [if_neg (by omega)])
theorem yF (o:Int) (h:16≤o∧o<32):aF o=1:=by unfold aF;rw [if_pos h]
theorem su (o:Int) (h:32≤o∧o<39∨64≤o∧o<80∨o=3):aF o=2:=by unfold aF;rw [if_neg (by omega),if_pos h]
theorem yG (o:Int) (h:48≤o∧o<61∨o=5):aF o=3:=by unfold aF;rw [if_neg (by omega),if_neg (by omega),if_pos h]
theorem sD (o:Int) (h:80≤o∧o<85∨88≤o∧o<91):aF o=4:=by unfold aF;rw [if_neg (by omega),if_neg (by omega),if_neg (by omega),if_pos h]
theorem Ls (o:Int) (h:o=97):aF o=5:=by subst h;rfl
theorem Lu (o:Int) (h:o=96):aF o=6:=by subst h;rfl
theorem jG (o:Int) (h:¬ (0≤o∧o<16∧o≠3∧o≠5)) (h1:¬ (16≤o∧o<32)) (h2:¬ (32≤o∧o<39∨64≤o∧o<80∨o=3)) (h3:¬ (48≤o∧o<61∨o=5)) (h4:¬ (80≤o∧o<85∨88≤o∧o<91)) (h5:o≠97) (h6:o≠96):aF o=0:=by
 rw [yE o h1 h2 h3 h4 h5 h6,Q8 o (by omega)]
theorem adI (o:Int) (hs:16≤o∧o<32) (w:World):Calls Try.prog 149 #[.int .i64 o] w fun e w'=>e= .returned (.agg (dO 1))∧Below w.heap.size w w':=by
 have tX:16≤o:=by omega
 have vI:¬ (32≤o):=by omega
 have vJ:¬ (48≤o):=by omega
 have vK:¬ (64≤o):=by omega
 have vM:¬ (80≤o):=by omega
 have vN:¬ (88≤o):=by omega
 have LC:o<32:=by omega
 have LD:o<39:=by omega
 have LG:o<61:=by omega
 have LH:o<80:=by omega
 have LJ:o<85:=by omega
 have LM:o<91:=by omega
 have e3:(o==3)=false:=by simp;omega
 have e5:(o==5)=false:=by simp;omega
 have nV:(o==97)=false:=by simp;omega
 have ny:(o==96)=false:=by simp;omega
 have z0:¬ (o<0):=by omega
 have z1:15<o:=by omega
 clear hs
 go_enter Try.func149,Try.ntmps149
 go_wp2
 refine bodyPost_ret (v:= .agg #[.bool true, .bool true, .bool true, .bool false, .bool false, .int .i64 0, .int .i64 1]) (by simp [results,Try.results149,go_sem]) rfl ⟨rfl, ?_⟩
 exact(Below.refl _ _).alloc (Nat.le_refl _) _
theorem adJ (o:Int) (hs:32≤o∧o<39) (w:World):Calls Try.prog 149 #[.int .i64 o] w fun e w'=>e= .returned (.agg (dO 2))∧Below w.heap.size w w':=by
 have tX:16≤o:=by omega
 have vI:32≤o:=by omega
 have vJ:¬ (48≤o):=by omega
 have vK:¬ (64≤o):=by omega
 have vM:¬ (80≤o):=by omega
 have vN:¬ (88≤o):=by omega
 have LC:¬ (o<32):=by omega
 have LD:o<39:=by omega
 have LG:o<61:=by omega
 have LH:o<80:=by omega
 have LJ:o<85:=by omega
 have LM:o<91:=by omega
 have e3:(o==3)=false:=by simp;omega
 have e5:(o==5)=false:=by simp;omega
 have nV:(o==97)=false:=by simp;omega
 have ny:(o==96)=false:=by simp;omega
 have z0:¬ (o<0):=by omega
 have z1:15<o:=by omega
 clear hs
 go_enter Try.func149,Try.ntmps149
 go_wp2
 refine bodyPost_ret (v:= .agg #[.bool true, .bool true, .bool false, .bool false, .bool false, .int .i64 0, .int .i64 1]) (by simp [results,Try.results149,go_sem]) rfl ⟨rfl, ?_⟩
 exact(Below.refl _ _).alloc (Nat.le_refl _) _
theorem adK (o:Int) (hs:64≤o∧o<80) (w:World):Calls Try.prog 149 #[.int .i64 o] w fun e w'=>e= .returned (.agg (dO 2))∧Below w.heap.size w w':=by
 have tX:16≤o:=by omega
 have vI:32≤o:=by omega
 have vJ:48≤o:=by omega
 have vK:64≤o:=by omega
 have vM:¬ (80≤o):=by omega
 have vN:¬ (88≤o):=by omega
 have LC:¬ (o<32):=by omega
 have LD:¬ (o<39):=by omega
 have LG:¬ (o<61):=by omega
 have LH:o<80:=by omega
 have LJ:o<85:=by omega
 have LM:o<91:=by omega
 have e3:(o==3)=false:=by simp;omega
 have e5:(o==5)=false:=by simp;omega
 have nV:(o==97)=false:=by simp;omega
 have ny:(o==96)=false:=by simp;omega
 have z0:¬ (o<0):=by omega
 have z1:15<o:=by omega
 clear hs
 go_enter Try.func149,Try.ntmps149
 go_wp2
 refine bodyPost_ret (v:= .agg #[.bool true, .bool true, .bool false, .bool false, .bool false, .int .i64 0, .int .i64 1]) (by simp [results,Try.results149,go_sem]) rfl ⟨rfl, ?_⟩
 exact(Below.refl _ _).alloc (Nat.le_refl _) _
theorem adL (o:Int) (hs:48≤o∧o<61) (w:World):Calls Try.prog 149 #[.int .i64 o] w fun e w'=>e= .returned (.agg (dO 3))∧Below w.heap.size w w':=by
 have tX:16≤o:=by omega
 have vI:32≤o:=by omega
 have vJ:48≤o:=by omega
 have vK:¬ (64≤o):=by omega
 have vM:¬ (80≤o):=by omega
 have vN:¬ (88≤o):=by omega
 have LC:¬ (o<32):=by omega
 have LD:¬ (o<39):=by omega
 have LG:o<61:=by omega
 have LH:o<80:=by omega
 have LJ:o<85:=by omega
 have LM:o<91:=by omega
 have e3:(o==3)=false:=by simp;omega
 have e5:(o==5)=false:=by simp;omega
 have nV:(o==97)=false:=by simp;omega
 have ny:(o==96)=false:=by simp;omega
 have z0:¬ (o<0):=by omega
 have z1:15<o:=by omega
 clear hs
 go_enter Try.func149,Try.ntmps149
 go_wp2
 refine bodyPost_ret (v:= .agg #[.bool true, .bool true, .bool true, .bool true, .bool false, .int .i64 0, .int .i64 1]) (by simp [results,Try.results149,go_sem]) rfl ⟨rfl, ?_⟩
 exact(Below.refl _ _).alloc (Nat.le_refl _) _
theorem adM (o:Int) (hs:80≤o∧o<85) (w:World):Calls Try.prog 149 #[.int .i64 o] w fun e w'=>e= .returned (.agg (dO 4))∧Below w.heap.size w w':=by
 have tX:16≤o:=by omega
 have vI:32≤o:=by omega
 have vJ:48≤o:=by omega
 have vK:64≤o:=by omega
 have vM:80≤o:=by omega
 have vN:¬ (88≤o):=by omega
 have LC:¬ (o<32):=by omega
 have LD:¬ (o<39):=by omega
 have LG:¬ (o<61):=by omega
 have LH:¬ (o<80):=by omega
 have LJ:o<85:=by omega
 have LM:o<91:=by omega
 have e3:(o==3)=false:=by simp;omega
 have e5:(o==5)=false:=by simp;omega
 have nV:(o==97)=false:=by simp;omega
 have ny:(o==96)=false:=by simp;omega
 have z0:¬ (o<0):=by omega
 have z1:15<o:=by omega
 clear hs
 go_enter Try.func149,Try.ntmps149
 go_wp2
 refine bodyPost_ret (v:= .agg #[.bool true, .bool true, .bool false, .bool false, .bool false, .int .i64 65, .int .i64 2]) (by simp [results,Try.results149,go_sem]) rfl ⟨rfl, ?_⟩
 exact(Below.refl _ _).alloc (Nat.le_refl _) _
theorem adN (o:Int) (hs:88≤o∧o<91) (w:World):Calls Try.prog 149 #[.int .i64 o] w fun e w'=>e= .returned (.agg (dO 4))∧Below w.heap.size w w':=by
 have tX:16≤o:=by omega
 have vI:32≤o:=by omega
 have vJ:48≤o:=by omega
 have vK:64≤o:=by omega
 have vM:80≤o:=by omega
 have vN:88≤o:=by omega
 have LC:¬ (o<32):=by omega
 have LD:¬ (o<39):=by omega
 have LG:¬ (o<61):=by omega
 have LH:¬ (o<80):=by omega
 have LJ:¬ (o<85):=by omega
 have LM:o<91:=by omega
 have e3:(o==3)=false:=by simp;omega
 have e5:(o==5)=false:=by simp;omega
 have nV:(o==97)=false:=by simp;omega
 have ny:(o==96)=false:=by simp;omega
 have z0:¬ (o<0):=by omega
 have z1:15<o:=by omega
 clear hs
 go_enter Try.func149,Try.ntmps149
 go_wp2
 refine bodyPost_ret (v:= .agg #[.bool true, .bool true, .bool false, .bool false, .bool false, .int .i64 65, .int .i64 2]) (by simp [results,Try.results149,go_sem]) rfl ⟨rfl, ?_⟩
 exact(Below.refl _ _).alloc (Nat.le_refl _) _
theorem adO (o:Int) (hs:o<0) (w:World):Calls Try.prog 149 #[.int .i64 o] w fun e w'=>e= .returned (.agg (dO 0))∧Below w.heap.size w w':=by
 have tX:¬ (16≤o):=by omega
 have vI:¬ (32≤o):=by omega
 have vJ:¬ (48≤o):=by omega
 have vK:¬ (64≤o):=by omega
 have vM:¬ (80≤o):=by omega
 have vN:¬ (88≤o):=by omega
 have LC:o<32:=by omega
 have LD:o<39:=by omega
 have LG:o<61:=by omega
 have LH:o<80:=by omega
 have LJ:o<85:=by omega
 have LM:o<91:=by omega
 have e3:(o==3)=false:=by simp;omega
 have e5:(o==5)=false:=by simp;omega
 have nV:(o==97)=false:=by simp;omega
 have ny:(o==96)=false:=by simp;omega
 have z0:o<0:=by omega
 have z1:¬ (15<o):=by omega
 clear hs
 go_enter Try.func149,Try.ntmps149
 go_wp2
 refine bodyPost_ret (v:= .agg #[.bool false, .bool false, .bool false, .bool false, .bool false, .int .i64 0, .int .i64 0]) (by simp [results,Try.results149,go_sem]) rfl ⟨rfl, ?_⟩
 exact(Below.refl _ _).alloc (Nat.le_refl _) _
theorem adP (o:Int) (hs:39≤o∧o<48) (w:World):Calls Try.prog 149 #[.int .i64 o] w fun e w'=>e= .returned (.agg (dO 0))∧Below w.heap.size w w':=by
 have tX:16≤o:=by omega
 have vI:32≤o:=by omega
 have vJ:¬ (48≤o):=by omega
 have vK:¬ (64≤o):=by omega
 have vM:¬ (80≤o):=by omega
 have vN:¬ (88≤o):=by omega
 have LC:¬ (o<32):=by omega
 have LD:¬ (o<39):=by omega
 have LG:o<61:=by omega
 have LH:o<80:=by omega
 have LJ:o<85:=by omega
 have LM:o<91:=by omega
 have e3:(o==3)=false:=by simp;omega
 have e5:(o==5)=false:=by simp;omega
 have nV:(o==97)=false:=by simp;omega
 have ny:(o==96)=false:=by simp;omega
 have z0:¬ (o<0):=by omega
 have z1:15<o:=by omega
 clear hs
 go_enter Try.func149,Try.ntmps149
 go_wp2
 refine bodyPost_ret (v:= .agg #[.bool false, .bool false, .bool false, .bool false, .bool false, .int .i64 0, .int .i64 0]) (by simp [results,Try.results149,go_sem]) rfl ⟨rfl, ?_⟩
 exact(Below.refl _ _).alloc (Nat.le_refl _) _
theorem adQ (o:Int) (hs:61≤o∧o<64) (w:World):Calls Try.prog 149 #[.int .i64 o] w fun e w'=>e= .returned (.agg (dO 0))∧Below w.heap.size w w':=by
 have tX:16≤o:=by omega
 have vI:32≤o:=by omega
 have vJ:48≤o:=by omega
 have vK:¬ (64≤o):=by omega
 have vM:¬ (80≤o):=by omega
 have vN:¬ (88≤o):=by omega
 have LC:¬ (o<32):=by omega
 have LD:¬ (o<39):=by omega
 have LG:¬ (o<61):=by omega
 have LH:o<80:=by omega
 have LJ:o<85:=by omega
 have LM:o<91:=by omega
 have e3:(o==3)=false:=by simp;omega
 have e5:(o==5)=false:=by simp;omega
 have nV:(o==97)=false:=by simp;omega
 have ny:(o==96)=false:=by simp;omega
 have z0:¬ (o<0):=by omega
 have z1:15<o:=by omega
 clear hs
 go_enter Try.func149,Try.ntmps149
 go_wp2
 refine bodyPost_ret (v:= .agg #[.bool false, .bool false, .bool false, .bool false, .bool false, .int .i64 0, .int .i64 0]) (by simp [results,Try.results149,go_sem]) rfl ⟨rfl, ?_⟩
 exact(Below.refl _ _).alloc (Nat.le_refl _) _
theorem adR (o:Int) (hs:85≤o∧o<88) (w:World):Calls Try.prog 149 #[.int .i64 o] w fun e w'=>e= .returned (.agg (dO 0))∧Below w.heap.size w w':=by
 have tX:16≤o:=by omega
 have vI:32≤o:=by omega
 have vJ:48≤o:=by omega
 have vK:64≤o:=by omega
 have vM:80≤o:=by omega
 have vN:¬ (88≤o):=by omega
 have LC:¬ (o<32):=by omega
 have LD:¬ (o<39):=by omega
 have LG:¬ (o<61):=by omega
 have LH:¬ (o<80):=by omega
 have LJ:¬ (o<85):=by omega
 have LM:o<91:=by omega
 have e3:(o==3)=false:=by simp;omega
 have e5:(o==5)=false:=by simp;omega
 have nV:(o==97)=false:=by simp;omega
 have ny:(o==96)=false:=by simp;omega
 have z0:¬ (o<0):=by omega
 have z1:15<o:=by omega
 clear hs
 go_enter Try.func149,Try.ntmps149
 go_wp2
 refine bodyPost_ret (v:= .agg #[.bool false, .bool false, .bool false, .bool false, .bool false, .int .i64 0, .int .i64 0]) (by simp [results,Try.results149,go_sem]) rfl ⟨rfl, ?_⟩
 exact(Below.refl _ _).alloc (Nat.le_refl _) _
theorem adS (o:Int) (hs:91≤o∧o<96) (w:World):Calls Try.prog 149 #[.int .i64 o] w fun e w'=>e= .returned (.agg (dO 0))∧Below w.heap.size w w':=by
 have tX:16≤o:=by omega
 have vI:32≤o:=by omega
 have vJ:48≤o:=by omega
 have vK:64≤o:=by omega
 have vM:80≤o:=by omega
 have vN:88≤o:=by omega
 have LC:¬ (o<32):=by omega
 have LD:¬ (o<39):=by omega
 have LG:¬ (o<61):=by omega
 have LH:¬ (o<80):=by omega
 have LJ:¬ (o<85):=by omega
 have LM:¬ (o<91):=by omega
 have e3:(o==3)=false:=by simp;omega
 have e5:(o==5)=false:=by simp;omega
 have nV:(o==97)=false:=by simp;omega
 have ny:(o==96)=false:=by simp;omega
 have z0:¬ (o<0):=by omega
 have z1:15<o:=by omega
 clear hs
 go_enter Try.func149,Try.ntmps149
 go_wp2
 refine bodyPost_ret (v:= .agg #[.bool false, .bool false, .bool false, .bool false, .bool false, .int .i64 0, .int .i64 0]) (by simp [results,Try.results149,go_sem]) rfl ⟨rfl, ?_⟩
 exact(Below.refl _ _).alloc (Nat.le_refl _) _
theorem adT (o:Int) (hs:98≤o) (w:World):Calls Try.prog 149 #[.int .i64 o] w fun e w'=>e= .returned (.agg (dO 0))∧Below w.heap.size w w':=by
 have tX:16≤o:=by omega
 have vI:32≤o:=by omega
 have vJ:48≤o:=by omega
 have vK:64≤o:=by omega
 have vM:80≤o:=by omega
 have vN:88≤o:=by omega
 have LC:¬ (o<32):=by omega
 have LD:¬ (o<39):=by omega
 have LG:¬ (o<61):=by omega
 have LH:¬ (o<80):=by omega
 have LJ:¬ (o<85):=by omega
 have LM:¬ (o<91):=by omega
 have e3:(o==3)=false:=by simp;omega
 have e5:(o==5)=false:=by simp;omega
 have nV:(o==97)=false:=by simp;omega
 have ny:(o==96)=false:=by simp;omega
 have z0:¬ (o<0):=by omega
 have z1:15<o:=by omega
 clear hs
 go_enter Try.func149,Try.ntmps149
 go_wp2
 refine bodyPost_ret (v:= .agg #[.bool false, .bool false, .bool false, .bool false, .bool false, .int .i64 0, .int .i64 0]) (by simp [results,Try.results149,go_sem]) rfl ⟨rfl, ?_⟩
 exact(Below.refl _ _).alloc (Nat.le_refl _) _
theorem adU (w:World):Calls Try.prog 149 #[.int .i64 3] w fun e w'=>e= .returned (.agg (dO 2))∧Below w.heap.size w w':=by
 go_enter Try.func149,Try.ntmps149
 go_wp2
 refine bodyPost_ret (v:= .agg #[.bool true, .bool true, .bool false, .bool false, .bool false, .int .i64 0, .int .i64 1]) (by simp [results,Try.results149,go_sem]) rfl ⟨rfl, ?_⟩
 exact(Below.refl _ _).alloc (Nat.le_refl _) _
theorem adV (w:World):Calls Try.prog 149 #[.int .i64 5] w fun e w'=>e= .returned (.agg (dO 3))∧Below w.heap.size w w':=by
 go_enter Try.func149,Try.ntmps149
 go_wp2
 refine bodyPost_ret (v:= .agg #[.bool true, .bool true, .bool true, .bool true, .bool false, .int .i64 0, .int .i64 1]) (by simp [results,Try.results149,go_sem]) rfl ⟨rfl, ?_⟩
 exact(Below.refl _ _).alloc (Nat.le_refl _) _
theorem adW (w:World):Calls Try.prog 149 #[.int .i64 97] w fun e w'=>e= .returned (.agg (dO 5))∧Below w.heap.size w w':=by
 go_enter Try.func149,Try.ntmps149
 go_wp2
 refine bodyPost_ret (v:= .agg #[.bool true, .bool false, .bool false, .bool false, .bool false, .int .i64 0, .int .i64 1]) (by simp [results,Try.results149,go_sem]) rfl ⟨rfl, ?_⟩
 exact(Below.refl _ _).alloc (Nat.le_refl _) _
theorem adX (w:World):Calls Try.prog 149 #[.int .i64 96] w fun e w'=>e= .returned (.agg (dO 6))∧Below w.heap.size w w':=by
 go_enter Try.func149,Try.ntmps149
 go_wp2
 refine bodyPost_ret (v:= .agg #[.bool false, .bool true, .bool false, .bool false, .bool false, .int .i64 65, .int .i64 2]) (by simp [results,Try.results149,go_sem]) rfl ⟨rfl, ?_⟩
 exact(Below.refl _ _).alloc (Nat.le_refl _) _
theorem wQ (o:Int) (hs:¬ (0≤o∧o<16∧o≠3∧o≠5)) (w:World):Calls Try.prog 149 #[.int .i64 o] w fun e w'=>e= .returned (.agg (dO (aF o)))∧Below w.heap.size w w':=by
 rcases(show(16≤o∧o<32)∨(32≤o∧o<39)∨(64≤o∧o<80)∨(48≤o∧o<61)∨(80≤o∧o<85)∨(88≤o∧o<91)∨(o<0)∨(39≤o∧o<48)∨(61≤o∧o<64)∨(85≤o∧o<88)∨(91≤o∧o<96)∨(98≤o)∨o=3∨o=5∨o=97∨o=96 by omega) with h | h | h | h | h | h | h | h | h | h | h | h | rfl | rfl | rfl | rfl
 ·rw [show aF o=1 from yF o (by omega)];exact adI o h w
 ·rw [show aF o=2 from su o (by omega)];exact adJ o h w
 ·rw [show aF o=2 from su o (by omega)];exact adK o h w
 ·rw [show aF o=3 from yG o (by omega)];exact adL o h w
 ·rw [show aF o=4 from sD o (by omega)];exact adM o h w
 ·rw [show aF o=4 from sD o (by omega)];exact adN o h w
 ·rw [show aF o=0 from jG o hs (by omega) (by omega) (by omega) (by omega) (by omega) (by omega)];exact adO o h w
 ·rw [show aF o=0 from jG o hs (by omega) (by omega) (by omega) (by omega) (by omega) (by omega)];exact adP o h w
 ·rw [show aF o=0 from jG o hs (by omega) (by omega) (by omega) (by omega) (by omega) (by omega)];exact adQ o h w
 ·rw [show aF o=0 from jG o hs (by omega) (by omega) (by omega) (by omega) (by omega) (by omega)];exact adR o h w
 ·rw [show aF o=0 from jG o hs (by omega) (by omega) (by omega) (by omega) (by omega) (by omega)];exact adS o h w
 ·rw [show aF o=0 from jG o hs (by omega) (by omega) (by omega) (by omega) (by omega) (by omega)];exact adT o h w
 ·exact adU w
 ·exact adV w
 ·exact adW w
 ·exact adX w
theorem aN (o:Int) (w:World):Calls Try.prog 149 #[.int .i64 o] w fun e w'=>e= .returned (.agg (dO (aF o)))∧Below w.heap.size w w':=by
 by_cases hs:0≤o∧o<16∧o≠3∧o≠5
 ·have hix:=Q7 o hs.1 hs.2.1 hs.2.2.1 hs.2.2.2
  rw [yE o (by omega) (by omega) (by omega) (by omega) (by omega) (by omega)]
  obtain⟨d,a,b,c,k,n,wd,mD⟩:=DR (FI o)
  rw [mD] at hix⊢
  clear mD
  have e1:(o==3)=false:=by simpa using hs.2.2.1
  have e2:(o==5)=false:=by simpa using hs.2.2.2
  have e3:(o==97)=false:=by simp;omega
  have e4:(o==96)=false:=by simp;omega
  have l1:¬ (16≤o):=by omega
  have l2:¬ (32≤o):=by omega
  have l3:¬ (48≤o):=by omega
  have l4:¬ (64≤o):=by omega
  have l5:¬ (80≤o):=by omega
  have l6:¬ (88≤o):=by omega
  have l7:¬ (o<0):=by omega
  have l8:¬ (15<o):=by omega
  go_enter Try.func149,Try.ntmps149
  go_wp2_with (first
   | ((with_reducible refine aU (o:=⟨some 80,_,_,_,_,_⟩) (v:= .agg aaJ) ?_ ?_ ?_);(rfl);(kernel_rfl)))
  refine bodyPost_ret (v:= .agg #[.bool d, .bool a, .bool b, .bool c, .bool k, .int .i64 n, .int .i64 wd]) (by simp [results,Try.results149,go_sem]) rfl ⟨rfl, ?_⟩
  exact(Below.refl _ _).alloc (Nat.le_refl _) _
 ·exact wQ o hs w
theorem Xq (x:Int) (h:0≤x) (g:x<4294967296):bits .and .u32 x 15=x%16:=bits_mask .u32 32 (by decide) (fun n Xr Xt=>by rw [IntKind.wrap_u32];omega) 4 (by decide) x h g
theorem fE (x:Int) (h:0≤x) (g:x<4294967296):bits .and .u32 x 255=x%256:=bits_mask .u32 32 (by decide) (fun n Xr Xt=>by rw [IntKind.wrap_u32];omega) 8 (by decide) x h g
theorem Ie (x:Int) (h:0≤x) (g:x<4294967296):bits .and .u32 x 65535=x%65536:=bits_mask .u32 32 (by decide) (fun n Xr Xt=>by rw [IntKind.wrap_u32];omega) 16 (by decide) x h g
def yH (B X R j:Nat) (cs:Array Value) (v q:Int) (is:Bool) (w w':World):Prop:=
 w'.heap.size=w.heap.size∧w'.heap[X]?=some (.cells (if is then cs.setIfInBounds j (.int .i64 v) else cs) 108 (0,0))∧w'.heap[R]?=some (.cells #[.int .u32 q] 22 (0,0))∧
  (∀k,k≠X→k≠R→w'.heap[k]?=w.heap[k]?)∧Below B w w'
theorem xJ {B X R j:Nat} {cs:Array Value} {r v q:Int} {w:World} (hX:w.heap[X]?=some (.cells cs 108 (0,0))) (hR:w.heap[R]?=some (.cells #[.int .u32 r] 22 (0,0))) (hx:B≤X) (hr:B≤R) (dU:X≠R):
  yH B X R j cs v q false w (w.setCell ⟨R,0,none⟩ (.int .u32 q)).drew∧yH B X R j cs v q true w ((w.setCell ⟨R,0,none⟩ (.int .u32 q)).setCell ⟨X,j,none⟩ (.int .i64 v)).drew:=by
 have h1:(w.setCell ⟨R,0,none⟩ (.int .u32 q)).heap[X]?=some (.cells cs 108 (0,0)):=(heap_setCell_other _ _ _ _ dU).trans hX
 refine⟨⟨?_, ?_,one_setCell hR,fun k h1 h2=>heap_setCell_other _ _ _ _ h2,((Below.refl _ _).setCell hr _).drew⟩, ?_, ?_, ?_,fun k h1 h2=> ?_,(((Below.refl _ _).setCell hr _).setCell hx _).drew⟩
 ·show(w.setCell _ _).heap.size=_;simp
 ·exact h1
 ·show((w.setCell _ _).setCell _ _).heap.size=_;simp
 ·exact heap_setCell_same _ _ _ _ _ _ h1
 ·exact(heap_setCell_other _ _ _ _ (fun e=>dU e.symm)).trans (one_setCell hR)
 ·exact(heap_setCell_other _ _ _ _ h1).trans (heap_setCell_other _ _ _ _ h2)
theorem aaK (is:Bool) (B X R j:Nat) (cs:Array Value) (r:Int) (w:World) (hX:w.heap[X]?=some (.cells cs 108 (0,0))) (hR:w.heap[R]?=some (.cells #[.int .u32 r] 22 (0,0)))
  (hx:B≤X) (hr:B≤R) (dU:X≠R) (hj:j<cs.size) (h0:0≤r) (g0:r<4294967296):
  Calls Try.prog 150 #[.bool is, .pointer (some ⟨X,j,none⟩), .int .i64 4, .pointer (some ⟨R,0,none⟩)] w fun e w'=>e= .returned (.bool (is || r%16==0))∧yH B X R j cs (r%16) (r/16) is w w':=by
 have cR:=cell_of_one hR
 have zR:=free_of_one hR
 obtain⟨v,hv⟩:∃v,cs[j]?=some v:=⟨cs[j],by simp [hj]⟩
 have cX:w.cell? ⟨X,j,none⟩=some v:=by simp [World.cell?,hX,hv]
 have zX:w.frozen? ⟨X,j,none⟩=false:=frozen_of_row w X j cs _ hX
 have m:=Xq r h0 g0
 have hP:=xJ (j:=j) (v:=r%16) (q:=r/16) hX hR hx hr dU
 cases is
 ·go_enter Try.func150,Try.ntmps150
  go_wp2
  go_region
  go_wp2
  go_ret
  exact⟨rfl,hP.1⟩
 ·go_enter Try.func150,Try.ntmps150
  go_wp2
  go_region
  go_wp2
  go_ret
  exact⟨rfl,hP.2⟩
theorem jH (B X R j:Nat) (cs:Array Value) (r:Int) (w:World) (hX:w.heap[X]?=some (.cells cs 108 (0,0))) (hR:w.heap[R]?=some (.cells #[.int .u32 r] 22 (0,0)))
  (hx:B≤X) (hr:B≤R) (dU:X≠R) (hj:j<cs.size) (h0:0≤r) (g0:r<4294967296):
  Calls Try.prog 150 #[.bool true, .pointer (some ⟨X,j,none⟩), .int .i64 16, .pointer (some ⟨R,0,none⟩)] w fun e w'=>e= .returned (.bool true)∧yH B X R j cs (r%65536) (r/65536) true w w':=by
 have cR:=cell_of_one hR
 have zR:=free_of_one hR
 obtain⟨v,hv⟩:∃v,cs[j]?=some v:=⟨cs[j],by simp [hj]⟩
 have cX:w.cell? ⟨X,j,none⟩=some v:=by simp [World.cell?,hX,hv]
 have zX:w.frozen? ⟨X,j,none⟩=false:=frozen_of_row w X j cs _ hX
 have m:=Ie r h0 g0
 have hP:=xJ (j:=j) (v:=r%65536) (q:=r/65536) hX hR hx hr dU
 go_enter Try.func150,Try.ntmps150
 go_wp2
 go_region
 go_wp2
 go_ret
 exact⟨rfl,hP.2⟩
def VJ:Array Value:= #[.int .i64 0, .int .i64 0, .int .i64 0, .int .i64 0, .int .i64 0, .int .i64 0, .int .u32 0, .int .u32 0]
def tY (o d a b c n k x:Int):Array Value:= #[.int .i64 o, .int .i64 d, .int .i64 a, .int .i64 b, .int .i64 c, .int .i64 n, .int .u32 k, .int .u32 x]
def St (f:Nat) (w w':World) (cs fs:Array Value) (r:Int):Prop:=
 w'.heap[w.heap.size]?=some (.cells VJ 108 (0,0))∧w'.heap[w.heap.size+1]?=some (.cells cs 108 (0,0))∧w'.heap[f]?=some (.cells fs 231 (0,0))∧
  w'.heap[f+1]?=some (.cells #[.int .u32 r] 22 (0,0))∧w.heap.size+1<f∧Below w.heap.size w w'∧cs.size=8∧0≤r∧r<4294967296
theorem St.first {w w1:World} {cs fs:Array Value} {v:Int} (hn:cs.size=8) (h0:0≤v) (g0:v<4294967296) (aQ:Below ((w.alloc (.cells VJ 108)).alloc (.cells cs 108)).heap.size ((w.alloc (.cells VJ 108)).alloc (.cells cs 108)) w1):
  St w1.heap.size w ((w1.alloc (.cells fs 231)).alloc (.cells #[.int .u32 (v/256)] 22)) cs fs (v/256):=by
 have hs:=aQ.size
 simp only [World.size_alloc] at hs
 have hb:Below w.heap.size w w1:=(((Below.refl _ _).alloc (Nat.le_refl _) _).alloc (by simp) _).trans (aQ.mono (by simp;omega))
 refine⟨?_, ?_, ?_, ?_,by omega,(hb.alloc (by omega) _).alloc (by simp;omega) _,hn,by omega,by omega⟩
 ·rw [Below.heap_alloc _ _ _ (by simp;omega),Below.heap_alloc _ _ _ (by omega),aQ.block _ (by simp;omega),Below.heap_alloc _ _ _ (by simp)]
  exact heap_alloc_new w _
 ·rw [Below.heap_alloc _ _ _ (by simp;omega),Below.heap_alloc _ _ _ (by omega),aQ.block _ (by simp)]
  have:=heap_alloc_new (w.alloc (.cells VJ 108)) (.cells cs 108)
  simpa using this
 ·rw [Below.heap_alloc _ _ _ (by simp)]
  exact heap_alloc_new w1 _
 ·have:=heap_alloc_new (w1.alloc (.cells fs 231)) (.cells #[.int .u32 (v/256)] 22)
  simpa using this
theorem St.part (is:Bool) (j:Nat) {f:Nat} {w w1:World} {cs cs' fs:Array Value} {r:Int} (h:St f w w1 cs fs r) (hj:decide (j<8)=true) (e:(if is then cs.setIfInBounds j (.int .i64 (r%16)) else cs)=cs'):
  Calls Try.prog 150 #[.bool is, .pointer (some ⟨w.heap.size+1,j,none⟩), .int .i64 4, .pointer (some ⟨f+1,0,none⟩)] w1 fun e w'=>e= .returned (.bool (is || r%16==0))∧St f w w' cs' fs (r/16):=by
 obtain⟨hT,hX,hF,hR,bV,hb,hn,h0,g0⟩:=h
 have VK:j<cs.size:=by rw [hn];simpa using hj
 refine(aaK is w.heap.size (w.heap.size+1) (f+1) j cs r w1 hX hR (by omega) (by omega) (by omega) VK h0 g0).mono ?_
 rintro e w2 ⟨rfl,p1,p2,p3,p4,p5⟩
 exact⟨rfl,(p4 _ (by omega) (by omega)).trans hT,e▸p2,(p4 _ (by omega) (by omega)).trans hF,p3,bV,hb.trans p5,by subst e;first | (cases is<;>simpa using hn) | simpa using hn,by omega,by omega⟩
theorem St.jH (j:Nat) {f:Nat} {w w1:World} {cs cs' fs:Array Value} {r:Int} (h:St f w w1 cs fs r) (hj:decide (j<8)=true) (e:cs.setIfInBounds j (.int .i64 (r%65536))=cs'):
  Calls Try.prog 150 #[.bool true, .pointer (some ⟨w.heap.size+1,j,none⟩), .int .i64 16, .pointer (some ⟨f+1,0,none⟩)] w1 fun e w'=>e= .returned (.bool true)∧St f w w' cs' fs (r/65536):=by
 obtain⟨hT,hX,hF,hR,bV,hb,hn,h0,g0⟩:=h
 have VK:j<cs.size:=by rw [hn];simpa using hj
 refine(Ho.jH w.heap.size (w.heap.size+1) (f+1) j cs r w1 hX hR (by omega) (by omega) (by omega) VK h0 g0).mono ?_
 rintro e w2 ⟨rfl,p1,p2,p3,p4,p5⟩
 exact⟨rfl,(p4 _ (by omega) (by omega)).trans hT,e▸p2,(p4 _ (by omega) (by omega)).trans hF,p3,bV,hb.trans p5,by subst e;first | (cases is<;>simpa using hn) | simpa using hn,by omega,by omega⟩
theorem bM {w:World} {g:Nat} {cs:Array Value} {t:TypeId} (h:w.heap[g]?=some (.cells cs t (0,0))):(∀i,w.cell? ⟨g,i,none⟩=cs[i]?)∧∀i,w.frozen? ⟨g,i,none⟩=false:=
 ⟨fun i=>by simp [World.cell?,h],fun i=>frozen_of_row w g i cs t h⟩
theorem St.facts {f:Nat} {w w1:World} {cs fs:Array Value} {r:Int} (h:St f w w1 cs fs r):(∀i,w1.cell? ⟨w.heap.size,i,none⟩=(#[.int .i64 0, .int .i64 0, .int .i64 0, .int .i64 0, .int .i64 0, .int .i64 0, .int .u32 0, .int .u32 0]:Array Value)[i]?)∧(∀i,w1.cell? ⟨w.heap.size+1,i,none⟩=cs[i]?)∧(∀i,w1.cell? ⟨f,i,none⟩=fs[i]?)∧w1.cell? ⟨f+1,0,none⟩=some (.int .u32 r)∧
  (∀i,w1.frozen? ⟨w.heap.size,i,none⟩=false)∧(∀i,w1.frozen? ⟨w.heap.size+1,i,none⟩=false)∧Below w.heap.size w w1:=
 ⟨(bM h.1).1,(bM h.2.1).1,(bM h.2.2.1).1,by simpa using(bM h.2.2.2.1).1 0,(bM h.1).2,(bM h.2.1).2,h.2.2.2.2.2.1⟩
def hD (q:Nat):Bool:=q∈ [1,2,3,4,5,8,10,12,14,15]
def hA (q:Nat):Bool:=q∈ [1,2,3,4,6,9,11,13,15]
def hB (q:Nat):Bool:=q∈ [1,3]
def hC (q:Nat):Bool:=q∈ [3]
def hK (q:Nat):Bool:=q∈ [14,15]
def nb (q:Nat):Int:=if q∈ [4,6,7,9,14,15] then 65 else if q∈ [10,11] then 12 else if q∈ [12,13] then 2048 else 0
def wd (q:Nat):Int:=if q∈ [4,6,7,8,15] then 2 else if q∈ [14] then 3 else if q∈ [1,2,3,5,9,10,11,12,13] then 1 else 0
def aV (q:Nat) (v:Int):Prop:=(hD q=false→v/256%16=0)∧(hA q=false→v/256/16%16=0)∧(nb q≠0→v/256/16/16%65536<nb q)∧
 (nb q=0→(hB q=false→v/256/16/16%16=0)∧(hC q=false→v/256/16/16/16%16=0)∧v/256/16/16/16/16=0)∧(hK q=true→v/256%16≠0∧v/256%16≤7)
instance (q:Nat) (v:Int):Decidable (aV q v):=by unfold aV;infer_instance
def pick (b:Bool) (v:Int):Int:=if b then v else 0
def pI (q:Nat) (v k x:Int):Array Value:=tY (v%256) (pick (hD q) (v/256%16)) (pick (hA q) (v/256/16%16)) (pick (hB q) (v/256/16/16%16)) (pick (hC q) (v/256/16/16/16%16))
  (pick (decide (nb q≠0)) (v/256/16/16%65536)) (pick (decide (1<wd q)) k) (pick (decide (2<wd q)) x)
def dJ (q:Nat) (v k x:Int):Value:=
 if aV q v then .tuple #[.agg (pI q v k x), .int .i64 (wd q), .int .i64 0] else .tuple #[.agg VJ, .int .i64 0, .int .i64 3]
theorem ay {q:Nat} {v k x:Int} (h:¬aV q v):dJ q v k x= .tuple #[.agg (tY 0 0 0 0 0 0 0 0), .int .i64 0, .int .i64 3]:=by rw [dJ,if_neg h];rfl
theorem aJ {q:Nat} {v k x:Int} (h:aV q v):dJ q v k x= .tuple #[.agg (pI q v k x), .int .i64 (wd q), .int .i64 0]:=by rw [dJ,if_pos h]
theorem Xu {W:World} {g:Nat} {cs:Array Value} {t:TypeId} (h:W.heap[g]?=some (.cells cs t (0,0))) (hn:cs.size=8) (x0 x1 x2 x3 x4 x5 x6 x7:Value):
  ((((((((W.setCell ⟨g,0,none⟩ x0).setCell ⟨g,1,none⟩ x1).setCell ⟨g,2,none⟩ x2).setCell ⟨g,3,none⟩ x3).setCell ⟨g,4,none⟩ x4).setCell ⟨g,5,none⟩ x5).setCell ⟨g,6,none⟩ x6).setCell ⟨g,7,none⟩ x7).heap[g]?=some (.cells #[x0,x1,x2,x3,x4,x5,x6,x7] t (0,0)):=by
 obtain⟨a0,a1,a2,a3,a4,a5,a6,a7,rfl⟩:=Kt.aae hn
 have h0:(W.setCell ⟨g,0,none⟩ x0).heap[g]?=some (.cells #[x0,a1,a2,a3,a4,a5,a6,a7] t (0,0)):=heap_setCell_same _ g 0 _ t x0 h
 generalize W.setCell ⟨g,0,none⟩ x0=W0 at h0⊢
 have h1:(W0.setCell ⟨g,1,none⟩ x1).heap[g]?=some (.cells #[x0,x1,a2,a3,a4,a5,a6,a7] t (0,0)):=heap_setCell_same _ g 1 _ t x1 h0
 generalize W0.setCell ⟨g,1,none⟩ x1=W1 at h1⊢
 have h2:(W1.setCell ⟨g,2,none⟩ x2).heap[g]?=some (.cells #[x0,x1,x2,a3,a4,a5,a6,a7] t (0,0)):=heap_setCell_same _ g 2 _ t x2 h1
 generalize W1.setCell ⟨g,2,none⟩ x2=W2 at h2⊢
 have h3:(W2.setCell ⟨g,3,none⟩ x3).heap[g]?=some (.cells #[x0,x1,x2,x3,a4,a5,a6,a7] t (0,0)):=heap_setCell_same _ g 3 _ t x3 h2
 generalize W2.setCell ⟨g,3,none⟩ x3=W3 at h3⊢
 have h4:(W3.setCell ⟨g,4,none⟩ x4).heap[g]?=some (.cells #[x0,x1,x2,x3,x4,a5,a6,a7] t (0,0)):=heap_setCell_same _ g 4 _ t x4 h3
 generalize W3.setCell ⟨g,4,none⟩ x4=W4 at h4⊢
 have h5:(W4.setCell ⟨g,5,none⟩ x5).heap[g]?=some (.cells #[x0,x1,x2,x3,x4,x5,a6,a7] t (0,0)):=heap_setCell_same _ g 5 _ t x5 h4
 generalize W4.setCell ⟨g,5,none⟩ x5=W5 at h5⊢
 have h6:(W5.setCell ⟨g,6,none⟩ x6).heap[g]?=some (.cells #[x0,x1,x2,x3,x4,x5,x6,a7] t (0,0)):=heap_setCell_same _ g 6 _ t x6 h5
 generalize W5.setCell ⟨g,6,none⟩ x6=W6 at h6⊢
 have h7:(W6.setCell ⟨g,7,none⟩ x7).heap[g]?=some (.cells #[x0,x1,x2,x3,x4,x5,x6,x7] t (0,0)):=heap_setCell_same _ g 7 _ t x7 h6
 generalize W6.setCell ⟨g,7,none⟩ x7=W7 at h7⊢
 exact h7
theorem pY {B:Nat} {w W:World} {g:Nat} (hb:Below B w W) (hg:B≤g) (x0 x1 x2 x3 x4 x5 x6 x7:Value):
  Below B w ((((((((W.setCell ⟨g,0,none⟩ x0).setCell ⟨g,1,none⟩ x1).setCell ⟨g,2,none⟩ x2).setCell ⟨g,3,none⟩ x3).setCell ⟨g,4,none⟩ x4).setCell ⟨g,5,none⟩ x5).setCell ⟨g,6,none⟩ x6).setCell ⟨g,7,none⟩ x7):=
 (((((((hb.setCell hg _).setCell hg _).setCell hg _).setCell hg _).setCell hg _).setCell hg _).setCell hg _).setCell hg _
theorem VL {W:World} {tmps:Array Value} {T:Nat} {o d a b c n k x m e:Int} (hT:W.heap[T]?=some (.cells (tY o d a b c n k x) 108 (0,0))) (h4:tmps.getD 4 undef= .pointer (some ⟨T,0,none⟩)) (h5:tmps.getD 5 undef= .int .i64 m) (h6:tmps.getD 6 undef= .int .i64 e):
  (results Try.f89 tmps).run Try.prog W= .ok (.tuple #[.agg (tY o d a b c n k x), .int .i64 m, .int .i64 e]) W:=by
 have kT:=(bM hT).1
 simp only [Array.getD_eq_getD_getElem?] at h4 h5 h6
 simp [results,Try.results89,h4,h5,h6,go_sem,kT,tY]
theorem aH {w W:World} {a:Act} {v:Value} {o d r b c n k x m e:Int} (hT:W.heap[w.heap.size]?=some (.cells VJ 108 (0,0))) (hB:Below w.heap.size w W) (hv:v= .tuple #[.agg (tY o d r b c n k x), .int .i64 m, .int .i64 e])
  (h4:a.tmps.getD 4 undef= .pointer (some ⟨w.heap.size,0,none⟩)) (h5:a.tmps.getD 5 undef= .int .i64 m) (h6:a.tmps.getD 6 undef= .int .i64 e) (hd:a.defers= []):
  bodyPost Try.prog Try.f89 (fun e w'=>e= .returned v∧Below w.heap.size w w') .ret a
   ((((((((W.setCell ⟨w.heap.size,0,none⟩ (.int .i64 o)).setCell ⟨w.heap.size,1,none⟩ (.int .i64 d)).setCell ⟨w.heap.size,2,none⟩ (.int .i64 r)).setCell ⟨w.heap.size,3,none⟩ (.int .i64 b)).setCell ⟨w.heap.size,4,none⟩ (.int .i64 c)).setCell ⟨w.heap.size,5,none⟩ (.int .i64 n)).setCell ⟨w.heap.size,6,none⟩ (.int .u32 k)).setCell ⟨w.heap.size,7,none⟩ (.int .u32 x)):=by
 subst hv
 exact bodyPost_ret (VL (Xu hT rfl _ _ _ _ _ _ _ _) h4 h5 h6) hd ⟨rfl,pY hB (Nat.le_refl _) _ _ _ _ _ _ _ _⟩
theorem dV {w W:World} {a:Act} {v:Value} {o d r b c n k x m e:Int} (hT:W.heap[w.heap.size]?=some (.cells VJ 108 (0,0))) (hB:Below w.heap.size w W) (hv:v= .tuple #[.agg (tY o d r b c n k x), .int .i64 m, .int .i64 e])
  (h4:a.tmps.getD 4 undef= .pointer (some ⟨w.heap.size,0,none⟩)) (h5:a.tmps.getD 5 undef= .int .i64 m) (h6:a.tmps.getD 6 undef= .int .i64 e) (hd:a.defers= []):
  bodyPost Try.prog Try.f89 (fun e w'=>e= .returned v∧Below w.heap.size w w') .ret a
   ((((((((W.setCell ⟨w.heap.size,0,none⟩ (.int .i64 o)).setCell ⟨w.heap.size,1,none⟩ (.int .i64 d)).setCell ⟨w.heap.size,2,none⟩ (.int .i64 r)).setCell ⟨w.heap.size,3,none⟩ (.int .i64 b)).setCell ⟨w.heap.size,4,none⟩ (.int .i64 c)).setCell ⟨w.heap.size,5,none⟩ (.int .i64 n)).setCell ⟨w.heap.size,6,none⟩ (.int .u32 k)).setCell ⟨w.heap.size,7,none⟩ (.int .u32 x)).drew:=by
 subst hv
 exact bodyPost_ret (VL (by rw [heap_drew];exact Xu hT rfl _ _ _ _ _ _ _ _) h4 h5 h6) hd ⟨rfl,(pY hB (Nat.le_refl _) _ _ _ _ _ _ _ _).drew⟩
theorem LP {g:Nat} {w w':World} {cs:Array Value} (h:∀i,w.cell? ⟨g,i,none⟩=cs[i]?) (hb:Below w.heap.size w w') (hg:g<w.heap.size):∀i,w'.cell? ⟨g,i,none⟩=cs[i]?:=
 fun i=>(hb.cell (p:=⟨g,i,none⟩) hg).trans (h i)
theorem LU {g:Nat} {w w':World} (h:∀i,w.frozen? ⟨g,i,none⟩=false) (hb:Below w.heap.size w w') (hg:g<w.heap.size):∀i,w'.frozen? ⟨g,i,none⟩=false:=
 fun i=>(hb.frozen (p:=⟨g,i,none⟩) hg).trans (h i)
theorem bP {w w1:World} {A B:Array Value} {ta tb:TypeId} (aQ:Below ((w.alloc (.cells A ta)).alloc (.cells B tb)).heap.size ((w.alloc (.cells A ta)).alloc (.cells B tb)) w1):
  (∀i,w1.cell? ⟨w.heap.size,i,none⟩=A[i]?)∧(∀i,w1.cell? ⟨w.heap.size+1,i,none⟩=B[i]?)∧(∀i,w1.frozen? ⟨w.heap.size,i,none⟩=false)∧(∀i,w1.frozen? ⟨w.heap.size+1,i,none⟩=false)∧
   w.heap.size<w1.heap.size∧w.heap.size+1<w1.heap.size∧Below w.heap.size w w1:=by
 have hs:=aQ.size
 simp only [World.size_alloc] at hs
 refine⟨LP (fun i=> ?_) aQ (by simp;omega),LP (fun i=> ?_) aQ (by simp),LU (fun i=> ?_) aQ (by simp;omega),LU (fun i=> ?_) aQ (by simp),by omega,by omega,(((Below.refl _ _).alloc (Nat.le_refl _) _).alloc (by simp) _).trans (aQ.mono (by simp;omega))⟩
 ·exact World.cell?_alloc2_first _ _ _ _
 ·exact World.cell?_alloc2_new _ _ _ _
 ·exact World.frozen?_alloc2_first _ _ _ _
 ·exact World.frozen?_alloc2_new _ _ _ _
end Go.Proofs.Ytcjcmnnhmajocab.Ho
