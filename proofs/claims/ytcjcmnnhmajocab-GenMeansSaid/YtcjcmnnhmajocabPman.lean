import Derived.Test.YtcjcmnnhmajocabPmaj
set_option linter.unusedVariables false
set_option linter.unusedSimpArgs false
set_option maxRecDepth 100000
set_option maxHeartbeats 16000000
namespace Go.Proofs.Ytcjcmnnhmajocab.Ho
open Go.RowKit Kt
def bW:Nat→Value
 | 1=> .tuple #[.string {data:= #[100,97,98]}, .int .i64 0, .int .i64 1]
 | 2=> .tuple #[.string {data:= #[100,97]}, .int .i64 0, .int .i64 1]
 | 3=> .tuple #[.string {data:= #[100,97,98,99]}, .int .i64 0, .int .i64 1]
 | 4=> .tuple #[.string {data:= #[100,97,110]}, .int .i64 65, .int .i64 2]
 | 5=> .tuple #[.string {data:= #[100]}, .int .i64 0, .int .i64 1]
 | 6=> .tuple #[.string {data:= #[97,110]}, .int .i64 65, .int .i64 2]
 | 7=> .tuple #[.string {data:= #[110]}, .int .i64 65, .int .i64 2]
 | 8=> .tuple #[.string {data:= #[100]}, .int .i64 0, .int .i64 2]
 | 9=> .tuple #[.string {data:= #[97,110]}, .int .i64 65, .int .i64 1]
 | 10=> .tuple #[.string {data:= #[100,110]}, .int .i64 12, .int .i64 1]
 | 11=> .tuple #[.string {data:= #[97,110]}, .int .i64 12, .int .i64 1]
 | 12=> .tuple #[.string {data:= #[100,110]}, .int .i64 2048, .int .i64 1]
 | 13=> .tuple #[.string {data:= #[97,110]}, .int .i64 2048, .int .i64 1]
 | 14=> .tuple #[.string {data:= #[100,110]}, .int .i64 65, .int .i64 3]
 | 15=> .tuple #[.string {data:= #[100,97,110]}, .int .i64 65, .int .i64 2]
 | _=> .tuple #[.string {data:= #[]}, .int .i64 0, .int .i64 0]
theorem aaU (o:Int) (hs:16≤o∧o<32) (w:World):Calls Try.prog 97 #[.int .i64 o] w fun e w'=>e= .returned (bW 1)∧w=w':=by
 have tX:16≤o:=by omega
 have vI:¬ (32≤o):=by omega
 have vJ:¬ (48≤o):=by omega
 have vK:¬ (64≤o):=by omega
 have vM:¬ (80≤o):=by omega
 have vN:¬ (88≤o):=by omega
 have MB:o≤31:=by omega
 have MC:o≤38:=by omega
 have MF:o≤60:=by omega
 have MG:o≤79:=by omega
 have MH:o≤84:=by omega
 have MI:o≤90:=by omega
 have e1:(o==1)=false:=by simp;omega
 have e2:(o==2)=false:=by simp;omega
 have e3:(o==3)=false:=by simp;omega
 have e4:(o==4)=false:=by simp;omega
 have e5:(o==5)=false:=by simp;omega
 have e6:(o==6)=false:=by simp;omega
 have e7:(o==7)=false:=by simp;omega
 have e8:(o==8)=false:=by simp;omega
 have e9:(o==9)=false:=by simp;omega
 have lK:(o==10)=false:=by simp;omega
 have qO:(o==11)=false:=by simp;omega
 have jS:(o==12)=false:=by simp;omega
 have lu:(o==13)=false:=by simp;omega
 have qP:(o==14)=false:=by simp;omega
 have qQ:(o==15)=false:=by simp;omega
 have nV:(o==97)=false:=by simp;omega
 have ny:(o==96)=false:=by simp;omega
 clear hs
 go_enter Try.func97,Try.ntmps97
 go_wp2
 go_ret3
 exact⟨rfl,rfl⟩
theorem aaV (o:Int) (hs:32≤o∧o<39) (w:World):Calls Try.prog 97 #[.int .i64 o] w fun e w'=>e= .returned (bW 2)∧w=w':=by
 have tX:16≤o:=by omega
 have vI:32≤o:=by omega
 have vJ:¬ (48≤o):=by omega
 have vK:¬ (64≤o):=by omega
 have vM:¬ (80≤o):=by omega
 have vN:¬ (88≤o):=by omega
 have MB:¬ (o≤31):=by omega
 have MC:o≤38:=by omega
 have MF:o≤60:=by omega
 have MG:o≤79:=by omega
 have MH:o≤84:=by omega
 have MI:o≤90:=by omega
 have e1:(o==1)=false:=by simp;omega
 have e2:(o==2)=false:=by simp;omega
 have e3:(o==3)=false:=by simp;omega
 have e4:(o==4)=false:=by simp;omega
 have e5:(o==5)=false:=by simp;omega
 have e6:(o==6)=false:=by simp;omega
 have e7:(o==7)=false:=by simp;omega
 have e8:(o==8)=false:=by simp;omega
 have e9:(o==9)=false:=by simp;omega
 have lK:(o==10)=false:=by simp;omega
 have qO:(o==11)=false:=by simp;omega
 have jS:(o==12)=false:=by simp;omega
 have lu:(o==13)=false:=by simp;omega
 have qP:(o==14)=false:=by simp;omega
 have qQ:(o==15)=false:=by simp;omega
 have nV:(o==97)=false:=by simp;omega
 have ny:(o==96)=false:=by simp;omega
 clear hs
 go_enter Try.func97,Try.ntmps97
 go_wp2
 go_ret3
 exact⟨rfl,rfl⟩
theorem aaW (o:Int) (hs:64≤o∧o<80) (w:World):Calls Try.prog 97 #[.int .i64 o] w fun e w'=>e= .returned (bW 2)∧w=w':=by
 have tX:16≤o:=by omega
 have vI:32≤o:=by omega
 have vJ:48≤o:=by omega
 have vK:64≤o:=by omega
 have vM:¬ (80≤o):=by omega
 have vN:¬ (88≤o):=by omega
 have MB:¬ (o≤31):=by omega
 have MC:¬ (o≤38):=by omega
 have MF:¬ (o≤60):=by omega
 have MG:o≤79:=by omega
 have MH:o≤84:=by omega
 have MI:o≤90:=by omega
 have e1:(o==1)=false:=by simp;omega
 have e2:(o==2)=false:=by simp;omega
 have e3:(o==3)=false:=by simp;omega
 have e4:(o==4)=false:=by simp;omega
 have e5:(o==5)=false:=by simp;omega
 have e6:(o==6)=false:=by simp;omega
 have e7:(o==7)=false:=by simp;omega
 have e8:(o==8)=false:=by simp;omega
 have e9:(o==9)=false:=by simp;omega
 have lK:(o==10)=false:=by simp;omega
 have qO:(o==11)=false:=by simp;omega
 have jS:(o==12)=false:=by simp;omega
 have lu:(o==13)=false:=by simp;omega
 have qP:(o==14)=false:=by simp;omega
 have qQ:(o==15)=false:=by simp;omega
 have nV:(o==97)=false:=by simp;omega
 have ny:(o==96)=false:=by simp;omega
 clear hs
 go_enter Try.func97,Try.ntmps97
 go_wp2
 go_ret3
 exact⟨rfl,rfl⟩
theorem aaX (o:Int) (hs:48≤o∧o<61) (w:World):Calls Try.prog 97 #[.int .i64 o] w fun e w'=>e= .returned (bW 3)∧w=w':=by
 have tX:16≤o:=by omega
 have vI:32≤o:=by omega
 have vJ:48≤o:=by omega
 have vK:¬ (64≤o):=by omega
 have vM:¬ (80≤o):=by omega
 have vN:¬ (88≤o):=by omega
 have MB:¬ (o≤31):=by omega
 have MC:¬ (o≤38):=by omega
 have MF:o≤60:=by omega
 have MG:o≤79:=by omega
 have MH:o≤84:=by omega
 have MI:o≤90:=by omega
 have e1:(o==1)=false:=by simp;omega
 have e2:(o==2)=false:=by simp;omega
 have e3:(o==3)=false:=by simp;omega
 have e4:(o==4)=false:=by simp;omega
 have e5:(o==5)=false:=by simp;omega
 have e6:(o==6)=false:=by simp;omega
 have e7:(o==7)=false:=by simp;omega
 have e8:(o==8)=false:=by simp;omega
 have e9:(o==9)=false:=by simp;omega
 have lK:(o==10)=false:=by simp;omega
 have qO:(o==11)=false:=by simp;omega
 have jS:(o==12)=false:=by simp;omega
 have lu:(o==13)=false:=by simp;omega
 have qP:(o==14)=false:=by simp;omega
 have qQ:(o==15)=false:=by simp;omega
 have nV:(o==97)=false:=by simp;omega
 have ny:(o==96)=false:=by simp;omega
 clear hs
 go_enter Try.func97,Try.ntmps97
 go_wp2
 go_ret3
 exact⟨rfl,rfl⟩
theorem aaY (o:Int) (hs:80≤o∧o<85) (w:World):Calls Try.prog 97 #[.int .i64 o] w fun e w'=>e= .returned (bW 4)∧w=w':=by
 have tX:16≤o:=by omega
 have vI:32≤o:=by omega
 have vJ:48≤o:=by omega
 have vK:64≤o:=by omega
 have vM:80≤o:=by omega
 have vN:¬ (88≤o):=by omega
 have MB:¬ (o≤31):=by omega
 have MC:¬ (o≤38):=by omega
 have MF:¬ (o≤60):=by omega
 have MG:¬ (o≤79):=by omega
 have MH:o≤84:=by omega
 have MI:o≤90:=by omega
 have e1:(o==1)=false:=by simp;omega
 have e2:(o==2)=false:=by simp;omega
 have e3:(o==3)=false:=by simp;omega
 have e4:(o==4)=false:=by simp;omega
 have e5:(o==5)=false:=by simp;omega
 have e6:(o==6)=false:=by simp;omega
 have e7:(o==7)=false:=by simp;omega
 have e8:(o==8)=false:=by simp;omega
 have e9:(o==9)=false:=by simp;omega
 have lK:(o==10)=false:=by simp;omega
 have qO:(o==11)=false:=by simp;omega
 have jS:(o==12)=false:=by simp;omega
 have lu:(o==13)=false:=by simp;omega
 have qP:(o==14)=false:=by simp;omega
 have qQ:(o==15)=false:=by simp;omega
 have nV:(o==97)=false:=by simp;omega
 have ny:(o==96)=false:=by simp;omega
 clear hs
 go_enter Try.func97,Try.ntmps97
 go_wp2
 go_ret3
 exact⟨rfl,rfl⟩
theorem aaZ (o:Int) (hs:88≤o∧o<91) (w:World):Calls Try.prog 97 #[.int .i64 o] w fun e w'=>e= .returned (bW 4)∧w=w':=by
 have tX:16≤o:=by omega
 have vI:32≤o:=by omega
 have vJ:48≤o:=by omega
 have vK:64≤o:=by omega
 have vM:80≤o:=by omega
 have vN:88≤o:=by omega
 have MB:¬ (o≤31):=by omega
 have MC:¬ (o≤38):=by omega
 have MF:¬ (o≤60):=by omega
 have MG:¬ (o≤79):=by omega
 have MH:¬ (o≤84):=by omega
 have MI:o≤90:=by omega
 have e1:(o==1)=false:=by simp;omega
 have e2:(o==2)=false:=by simp;omega
 have e3:(o==3)=false:=by simp;omega
 have e4:(o==4)=false:=by simp;omega
 have e5:(o==5)=false:=by simp;omega
 have e6:(o==6)=false:=by simp;omega
 have e7:(o==7)=false:=by simp;omega
 have e8:(o==8)=false:=by simp;omega
 have e9:(o==9)=false:=by simp;omega
 have lK:(o==10)=false:=by simp;omega
 have qO:(o==11)=false:=by simp;omega
 have jS:(o==12)=false:=by simp;omega
 have lu:(o==13)=false:=by simp;omega
 have qP:(o==14)=false:=by simp;omega
 have qQ:(o==15)=false:=by simp;omega
 have nV:(o==97)=false:=by simp;omega
 have ny:(o==96)=false:=by simp;omega
 clear hs
 go_enter Try.func97,Try.ntmps97
 go_wp2
 go_ret3
 exact⟨rfl,rfl⟩
theorem aa0 (o:Int) (hs:o<0) (w:World):Calls Try.prog 97 #[.int .i64 o] w fun e w'=>e= .returned (bW 0)∧w=w':=by
 have tX:¬ (16≤o):=by omega
 have vI:¬ (32≤o):=by omega
 have vJ:¬ (48≤o):=by omega
 have vK:¬ (64≤o):=by omega
 have vM:¬ (80≤o):=by omega
 have vN:¬ (88≤o):=by omega
 have MB:o≤31:=by omega
 have MC:o≤38:=by omega
 have MF:o≤60:=by omega
 have MG:o≤79:=by omega
 have MH:o≤84:=by omega
 have MI:o≤90:=by omega
 have e1:(o==1)=false:=by simp;omega
 have e2:(o==2)=false:=by simp;omega
 have e3:(o==3)=false:=by simp;omega
 have e4:(o==4)=false:=by simp;omega
 have e5:(o==5)=false:=by simp;omega
 have e6:(o==6)=false:=by simp;omega
 have e7:(o==7)=false:=by simp;omega
 have e8:(o==8)=false:=by simp;omega
 have e9:(o==9)=false:=by simp;omega
 have lK:(o==10)=false:=by simp;omega
 have qO:(o==11)=false:=by simp;omega
 have jS:(o==12)=false:=by simp;omega
 have lu:(o==13)=false:=by simp;omega
 have qP:(o==14)=false:=by simp;omega
 have qQ:(o==15)=false:=by simp;omega
 have nV:(o==97)=false:=by simp;omega
 have ny:(o==96)=false:=by simp;omega
 clear hs
 go_enter Try.func97,Try.ntmps97
 go_wp2
 go_ret3
 exact⟨rfl,rfl⟩
theorem aa1 (o:Int) (hs:39≤o∧o<48) (w:World):Calls Try.prog 97 #[.int .i64 o] w fun e w'=>e= .returned (bW 0)∧w=w':=by
 have tX:16≤o:=by omega
 have vI:32≤o:=by omega
 have vJ:¬ (48≤o):=by omega
 have vK:¬ (64≤o):=by omega
 have vM:¬ (80≤o):=by omega
 have vN:¬ (88≤o):=by omega
 have MB:¬ (o≤31):=by omega
 have MC:¬ (o≤38):=by omega
 have MF:o≤60:=by omega
 have MG:o≤79:=by omega
 have MH:o≤84:=by omega
 have MI:o≤90:=by omega
 have e1:(o==1)=false:=by simp;omega
 have e2:(o==2)=false:=by simp;omega
 have e3:(o==3)=false:=by simp;omega
 have e4:(o==4)=false:=by simp;omega
 have e5:(o==5)=false:=by simp;omega
 have e6:(o==6)=false:=by simp;omega
 have e7:(o==7)=false:=by simp;omega
 have e8:(o==8)=false:=by simp;omega
 have e9:(o==9)=false:=by simp;omega
 have lK:(o==10)=false:=by simp;omega
 have qO:(o==11)=false:=by simp;omega
 have jS:(o==12)=false:=by simp;omega
 have lu:(o==13)=false:=by simp;omega
 have qP:(o==14)=false:=by simp;omega
 have qQ:(o==15)=false:=by simp;omega
 have nV:(o==97)=false:=by simp;omega
 have ny:(o==96)=false:=by simp;omega
 clear hs
 go_enter Try.func97,Try.ntmps97
 go_wp2
 go_ret3
 exact⟨rfl,rfl⟩
theorem aa2 (o:Int) (hs:61≤o∧o<64) (w:World):Calls Try.prog 97 #[.int .i64 o] w fun e w'=>e= .returned (bW 0)∧w=w':=by
 have tX:16≤o:=by omega
 have vI:32≤o:=by omega
 have vJ:48≤o:=by omega
 have vK:¬ (64≤o):=by omega
 have vM:¬ (80≤o):=by omega
 have vN:¬ (88≤o):=by omega
 have MB:¬ (o≤31):=by omega
 have MC:¬ (o≤38):=by omega
 have MF:¬ (o≤60):=by omega
 have MG:o≤79:=by omega
 have MH:o≤84:=by omega
 have MI:o≤90:=by omega
 have e1:(o==1)=false:=by simp;omega
 have e2:(o==2)=false:=by simp;omega
 have e3:(o==3)=false:=by simp;omega
 have e4:(o==4)=false:=by simp;omega
 have e5:(o==5)=false:=by simp;omega
 have e6:(o==6)=false:=by simp;omega
 have e7:(o==7)=false:=by simp;omega
 have e8:(o==8)=false:=by simp;omega
 have e9:(o==9)=false:=by simp;omega
 have lK:(o==10)=false:=by simp;omega
 have qO:(o==11)=false:=by simp;omega
 have jS:(o==12)=false:=by simp;omega
 have lu:(o==13)=false:=by simp;omega
 have qP:(o==14)=false:=by simp;omega
 have qQ:(o==15)=false:=by simp;omega
 have nV:(o==97)=false:=by simp;omega
 have ny:(o==96)=false:=by simp;omega
 clear hs
 go_enter Try.func97,Try.ntmps97
 go_wp2
 go_ret3
 exact⟨rfl,rfl⟩
theorem aa3 (o:Int) (hs:85≤o∧o<88) (w:World):Calls Try.prog 97 #[.int .i64 o] w fun e w'=>e= .returned (bW 0)∧w=w':=by
 have tX:16≤o:=by omega
 have vI:32≤o:=by omega
 have vJ:48≤o:=by omega
 have vK:64≤o:=by omega
 have vM:80≤o:=by omega
 have vN:¬ (88≤o):=by omega
 have MB:¬ (o≤31):=by omega
 have MC:¬ (o≤38):=by omega
 have MF:¬ (o≤60):=by omega
 have MG:¬ (o≤79):=by omega
 have MH:¬ (o≤84):=by omega
 have MI:o≤90:=by omega
 have e1:(o==1)=false:=by simp;omega
 have e2:(o==2)=false:=by simp;omega
 have e3:(o==3)=false:=by simp;omega
 have e4:(o==4)=false:=by simp;omega
 have e5:(o==5)=false:=by simp;omega
 have e6:(o==6)=false:=by simp;omega
 have e7:(o==7)=false:=by simp;omega
 have e8:(o==8)=false:=by simp;omega
 have e9:(o==9)=false:=by simp;omega
 have lK:(o==10)=false:=by simp;omega
 have qO:(o==11)=false:=by simp;omega
 have jS:(o==12)=false:=by simp;omega
 have lu:(o==13)=false:=by simp;omega
 have qP:(o==14)=false:=by simp;omega
 have qQ:(o==15)=false:=by simp;omega
 have nV:(o==97)=false:=by simp;omega
 have ny:(o==96)=false:=by simp;omega
 clear hs
 go_enter Try.func97,Try.ntmps97
 go_wp2
 go_ret3
 exact⟨rfl,rfl⟩
theorem aa4 (o:Int) (hs:91≤o∧o<96) (w:World):Calls Try.prog 97 #[.int .i64 o] w fun e w'=>e= .returned (bW 0)∧w=w':=by
 have tX:16≤o:=by omega
 have vI:32≤o:=by omega
 have vJ:48≤o:=by omega
 have vK:64≤o:=by omega
 have vM:80≤o:=by omega
 have vN:88≤o:=by omega
 have MB:¬ (o≤31):=by omega
 have MC:¬ (o≤38):=by omega
 have MF:¬ (o≤60):=by omega
 have MG:¬ (o≤79):=by omega
 have MH:¬ (o≤84):=by omega
 have MI:¬ (o≤90):=by omega
 have e1:(o==1)=false:=by simp;omega
 have e2:(o==2)=false:=by simp;omega
 have e3:(o==3)=false:=by simp;omega
 have e4:(o==4)=false:=by simp;omega
 have e5:(o==5)=false:=by simp;omega
 have e6:(o==6)=false:=by simp;omega
 have e7:(o==7)=false:=by simp;omega
 have e8:(o==8)=false:=by simp;omega
 have e9:(o==9)=false:=by simp;omega
 have lK:(o==10)=false:=by simp;omega
 have qO:(o==11)=false:=by simp;omega
 have jS:(o==12)=false:=by simp;omega
 have lu:(o==13)=false:=by simp;omega
 have qP:(o==14)=false:=by simp;omega
 have qQ:(o==15)=false:=by simp;omega
 have nV:(o==97)=false:=by simp;omega
 have ny:(o==96)=false:=by simp;omega
 clear hs
 go_enter Try.func97,Try.ntmps97
 go_wp2
 go_ret3
 exact⟨rfl,rfl⟩
theorem aa5 (o:Int) (hs:98≤o) (w:World):Calls Try.prog 97 #[.int .i64 o] w fun e w'=>e= .returned (bW 0)∧w=w':=by
 have tX:16≤o:=by omega
 have vI:32≤o:=by omega
 have vJ:48≤o:=by omega
 have vK:64≤o:=by omega
 have vM:80≤o:=by omega
 have vN:88≤o:=by omega
 have MB:¬ (o≤31):=by omega
 have MC:¬ (o≤38):=by omega
 have MF:¬ (o≤60):=by omega
 have MG:¬ (o≤79):=by omega
 have MH:¬ (o≤84):=by omega
 have MI:¬ (o≤90):=by omega
 have e1:(o==1)=false:=by simp;omega
 have e2:(o==2)=false:=by simp;omega
 have e3:(o==3)=false:=by simp;omega
 have e4:(o==4)=false:=by simp;omega
 have e5:(o==5)=false:=by simp;omega
 have e6:(o==6)=false:=by simp;omega
 have e7:(o==7)=false:=by simp;omega
 have e8:(o==8)=false:=by simp;omega
 have e9:(o==9)=false:=by simp;omega
 have lK:(o==10)=false:=by simp;omega
 have qO:(o==11)=false:=by simp;omega
 have jS:(o==12)=false:=by simp;omega
 have lu:(o==13)=false:=by simp;omega
 have qP:(o==14)=false:=by simp;omega
 have qQ:(o==15)=false:=by simp;omega
 have nV:(o==97)=false:=by simp;omega
 have ny:(o==96)=false:=by simp;omega
 clear hs
 go_enter Try.func97,Try.ntmps97
 go_wp2
 go_ret3
 exact⟨rfl,rfl⟩
theorem XD (w:World):Calls Try.prog 97 #[.int .i64 0] w fun e w'=>e= .returned (bW 0)∧w=w':=by
 go_enter Try.func97,Try.ntmps97
 go_wp2
 go_ret3
 exact⟨rfl,rfl⟩
theorem XE (w:World):Calls Try.prog 97 #[.int .i64 1] w fun e w'=>e= .returned (bW 7)∧w=w':=by
 go_enter Try.func97,Try.ntmps97
 go_wp2
 go_ret3
 exact⟨rfl,rfl⟩
theorem XF (w:World):Calls Try.prog 97 #[.int .i64 2] w fun e w'=>e= .returned (bW 8)∧w=w':=by
 go_enter Try.func97,Try.ntmps97
 go_wp2
 go_ret3
 exact⟨rfl,rfl⟩
theorem XG (w:World):Calls Try.prog 97 #[.int .i64 3] w fun e w'=>e= .returned (bW 2)∧w=w':=by
 go_enter Try.func97,Try.ntmps97
 go_wp2
 go_ret3
 exact⟨rfl,rfl⟩
theorem XH (w:World):Calls Try.prog 97 #[.int .i64 4] w fun e w'=>e= .returned (bW 9)∧w=w':=by
 go_enter Try.func97,Try.ntmps97
 go_wp2
 go_ret3
 exact⟨rfl,rfl⟩
theorem XI (w:World):Calls Try.prog 97 #[.int .i64 5] w fun e w'=>e= .returned (bW 3)∧w=w':=by
 go_enter Try.func97,Try.ntmps97
 go_wp2
 go_ret3
 exact⟨rfl,rfl⟩
theorem XJ (w:World):Calls Try.prog 97 #[.int .i64 6] w fun e w'=>e= .returned (bW 10)∧w=w':=by
 go_enter Try.func97,Try.ntmps97
 go_wp2
 go_ret3
 exact⟨rfl,rfl⟩
theorem XK (w:World):Calls Try.prog 97 #[.int .i64 7] w fun e w'=>e= .returned (bW 11)∧w=w':=by
 go_enter Try.func97,Try.ntmps97
 go_wp2
 go_ret3
 exact⟨rfl,rfl⟩
theorem XL (w:World):Calls Try.prog 97 #[.int .i64 8] w fun e w'=>e= .returned (bW 12)∧w=w':=by
 go_enter Try.func97,Try.ntmps97
 go_wp2
 go_ret3
 exact⟨rfl,rfl⟩
theorem XM (w:World):Calls Try.prog 97 #[.int .i64 9] w fun e w'=>e= .returned (bW 13)∧w=w':=by
 go_enter Try.func97,Try.ntmps97
 go_wp2
 go_ret3
 exact⟨rfl,rfl⟩
theorem Q9 (w:World):Calls Try.prog 97 #[.int .i64 10] w fun e w'=>e= .returned (bW 7)∧w=w':=by
 go_enter Try.func97,Try.ntmps97
 go_wp2
 go_ret3
 exact⟨rfl,rfl⟩
theorem Rf (w:World):Calls Try.prog 97 #[.int .i64 11] w fun e w'=>e= .returned (bW 6)∧w=w':=by
 go_enter Try.func97,Try.ntmps97
 go_wp2
 go_ret3
 exact⟨rfl,rfl⟩
theorem Rh (w:World):Calls Try.prog 97 #[.int .i64 12] w fun e w'=>e= .returned (bW 14)∧w=w':=by
 go_enter Try.func97,Try.ntmps97
 go_wp2
 go_ret3
 exact⟨rfl,rfl⟩
theorem Ri (w:World):Calls Try.prog 97 #[.int .i64 13] w fun e w'=>e= .returned (bW 15)∧w=w':=by
 go_enter Try.func97,Try.ntmps97
 go_wp2
 go_ret3
 exact⟨rfl,rfl⟩
theorem Rj (w:World):Calls Try.prog 97 #[.int .i64 14] w fun e w'=>e= .returned (bW 7)∧w=w':=by
 go_enter Try.func97,Try.ntmps97
 go_wp2
 go_ret3
 exact⟨rfl,rfl⟩
theorem Rk (w:World):Calls Try.prog 97 #[.int .i64 15] w fun e w'=>e= .returned (bW 7)∧w=w':=by
 go_enter Try.func97,Try.ntmps97
 go_wp2
 go_ret3
 exact⟨rfl,rfl⟩
theorem Rl (w:World):Calls Try.prog 97 #[.int .i64 97] w fun e w'=>e= .returned (bW 5)∧w=w':=by
 go_enter Try.func97,Try.ntmps97
 go_wp2
 go_ret3
 exact⟨rfl,rfl⟩
theorem Ro (w:World):Calls Try.prog 97 #[.int .i64 96] w fun e w'=>e= .returned (bW 6)∧w=w':=by
 go_enter Try.func97,Try.ntmps97
 go_wp2
 go_ret3
 exact⟨rfl,rfl⟩
theorem bC (o:Int) (w:World):Calls Try.prog 97 #[.int .i64 o] w fun e w'=>e= .returned (bW (aF o))∧w=w':=by
 rcases(show(16≤o∧o<32)∨(32≤o∧o<39)∨(64≤o∧o<80)∨(48≤o∧o<61)∨(80≤o∧o<85)∨(88≤o∧o<91)∨(o<0)∨(39≤o∧o<48)∨(61≤o∧o<64)∨(85≤o∧o<88)∨(91≤o∧o<96)∨(98≤o)∨o=0∨o=1∨o=2∨o=3∨o=4∨o=5∨o=6∨o=7∨o=8∨o=9∨o=10∨o=11∨o=12∨o=13∨o=14∨o=15∨o=97∨o=96 by omega) with h | h | h | h | h | h | h | h | h | h | h | h | rfl | rfl | rfl | rfl | rfl | rfl | rfl | rfl | rfl | rfl | rfl | rfl | rfl | rfl | rfl | rfl | rfl | rfl
 ·rw [show aF o=1 from yF o (by omega)];exact aaU o h w
 ·rw [show aF o=2 from su o (by omega)];exact aaV o h w
 ·rw [show aF o=2 from su o (by omega)];exact aaW o h w
 ·rw [show aF o=3 from yG o (by omega)];exact aaX o h w
 ·rw [show aF o=4 from sD o (by omega)];exact aaY o h w
 ·rw [show aF o=4 from sD o (by omega)];exact aaZ o h w
 ·rw [show aF o=0 from jG o (by omega) (by omega) (by omega) (by omega) (by omega) (by omega) (by omega)];exact aa0 o h w
 ·rw [show aF o=0 from jG o (by omega) (by omega) (by omega) (by omega) (by omega) (by omega) (by omega)];exact aa1 o h w
 ·rw [show aF o=0 from jG o (by omega) (by omega) (by omega) (by omega) (by omega) (by omega) (by omega)];exact aa2 o h w
 ·rw [show aF o=0 from jG o (by omega) (by omega) (by omega) (by omega) (by omega) (by omega) (by omega)];exact aa3 o h w
 ·rw [show aF o=0 from jG o (by omega) (by omega) (by omega) (by omega) (by omega) (by omega) (by omega)];exact aa4 o h w
 ·rw [show aF o=0 from jG o (by omega) (by omega) (by omega) (by omega) (by omega) (by omega) (by omega)];exact aa5 o h w
 ·exact XD w
 ·exact XE w
 ·exact XF w
 ·exact XG w
 ·exact XH w
 ·exact XI w
 ·exact XJ w
 ·exact XK w
 ·exact XL w
 ·exact XM w
 ·exact Q9 w
 ·exact Rf w
 ·exact Rh w
 ·exact Ri w
 ·exact Rj w
 ·exact Rk w
 ·exact Rl w
 ·exact Ro w
theorem Rq (w:World):Calls Try.prog 98 #[.string {data:= #[110]}, .int .u8 110] w fun e w'=>e= .returned (.bool true)∧w=w':=by
 have e0:(((({data:= #[110]}:ByteArray)[0]'(by decide)).toNat:Int)==110)=true:=rfl
 go_enter Try.func98,Try.ntmps98
 go_wp2
 refine wp_loop_rounds 1 ?_
 rw [rounds_succ];go_wp2
 go_ret
 exact⟨rfl,rfl⟩
theorem Rt (w:World):Calls Try.prog 98 #[.string {data:= #[100]}, .int .u8 100] w fun e w'=>e= .returned (.bool true)∧w=w':=by
 have e0:(((({data:= #[100]}:ByteArray)[0]'(by decide)).toNat:Int)==100)=true:=rfl
 go_enter Try.func98,Try.ntmps98
 go_wp2
 refine wp_loop_rounds 1 ?_
 rw [rounds_succ];go_wp2
 go_ret
 exact⟨rfl,rfl⟩
theorem MJ (w:World):Calls Try.prog 98 #[.string {data:= #[100,97]}, .int .u8 100] w fun e w'=>e= .returned (.bool true)∧w=w':=by
 have e0:(((({data:= #[100,97]}:ByteArray)[0]'(by decide)).toNat:Int)==100)=true:=rfl
 go_enter Try.func98,Try.ntmps98
 go_wp2
 refine wp_loop_rounds 1 ?_
 rw [rounds_succ];go_wp2
 go_ret
 exact⟨rfl,rfl⟩
theorem ML (w:World):Calls Try.prog 98 #[.string {data:= #[100,97]}, .int .u8 97] w fun e w'=>e= .returned (.bool true)∧w=w':=by
 have e0:(((({data:= #[100,97]}:ByteArray)[0]'(by decide)).toNat:Int)==97)=false:=rfl
 have e1:(((({data:= #[100,97]}:ByteArray)[1]'(by decide)).toNat:Int)==97)=true:=rfl
 go_enter Try.func98,Try.ntmps98
 go_wp2
 refine wp_loop_rounds 2 ?_
 rw [rounds_succ];go_wp2
 rw [rounds_succ];go_wp2
 go_ret
 exact⟨rfl,rfl⟩
theorem MN (w:World):Calls Try.prog 98 #[.string {data:= #[97,110]}, .int .u8 97] w fun e w'=>e= .returned (.bool true)∧w=w':=by
 have e0:(((({data:= #[97,110]}:ByteArray)[0]'(by decide)).toNat:Int)==97)=true:=rfl
 go_enter Try.func98,Try.ntmps98
 go_wp2
 refine wp_loop_rounds 1 ?_
 rw [rounds_succ];go_wp2
 go_ret
 exact⟨rfl,rfl⟩
theorem MO (w:World):Calls Try.prog 98 #[.string {data:= #[97,110]}, .int .u8 110] w fun e w'=>e= .returned (.bool true)∧w=w':=by
 have e0:(((({data:= #[97,110]}:ByteArray)[0]'(by decide)).toNat:Int)==110)=false:=rfl
 have e1:(((({data:= #[97,110]}:ByteArray)[1]'(by decide)).toNat:Int)==110)=true:=rfl
 go_enter Try.func98,Try.ntmps98
 go_wp2
 refine wp_loop_rounds 2 ?_
 rw [rounds_succ];go_wp2
 rw [rounds_succ];go_wp2
 go_ret
 exact⟨rfl,rfl⟩
theorem DZ (w:World):Calls Try.prog 98 #[.string {data:= #[100,97,98,99]}, .int .u8 100] w fun e w'=>e= .returned (.bool true)∧w=w':=by
 have e0:(((({data:= #[100,97,98,99]}:ByteArray)[0]'(by decide)).toNat:Int)==100)=true:=rfl
 go_enter Try.func98,Try.ntmps98
 go_wp2
 refine wp_loop_rounds 1 ?_
 rw [rounds_succ];go_wp2
 go_ret
 exact⟨rfl,rfl⟩
theorem D5 (w:World):Calls Try.prog 98 #[.string {data:= #[100,97,98,99]}, .int .u8 97] w fun e w'=>e= .returned (.bool true)∧w=w':=by
 have e0:(((({data:= #[100,97,98,99]}:ByteArray)[0]'(by decide)).toNat:Int)==97)=false:=rfl
 have e1:(((({data:= #[100,97,98,99]}:ByteArray)[1]'(by decide)).toNat:Int)==97)=true:=rfl
 go_enter Try.func98,Try.ntmps98
 go_wp2
 refine wp_loop_rounds 2 ?_
 rw [rounds_succ];go_wp2
 rw [rounds_succ];go_wp2
 go_ret
 exact⟨rfl,rfl⟩
theorem D6 (w:World):Calls Try.prog 98 #[.string {data:= #[100,97,98,99]}, .int .u8 98] w fun e w'=>e= .returned (.bool true)∧w=w':=by
 have e0:(((({data:= #[100,97,98,99]}:ByteArray)[0]'(by decide)).toNat:Int)==98)=false:=rfl
 have e1:(((({data:= #[100,97,98,99]}:ByteArray)[1]'(by decide)).toNat:Int)==98)=false:=rfl
 have e2:(((({data:= #[100,97,98,99]}:ByteArray)[2]'(by decide)).toNat:Int)==98)=true:=rfl
 go_enter Try.func98,Try.ntmps98
 go_wp2
 refine wp_loop_rounds 3 ?_
 rw [rounds_succ];go_wp2
 rw [rounds_succ];go_wp2
 rw [rounds_succ];go_wp2
 go_ret
 exact⟨rfl,rfl⟩
theorem D7 (w:World):Calls Try.prog 98 #[.string {data:= #[100,97,98,99]}, .int .u8 99] w fun e w'=>e= .returned (.bool true)∧w=w':=by
 have e0:(((({data:= #[100,97,98,99]}:ByteArray)[0]'(by decide)).toNat:Int)==99)=false:=rfl
 have e1:(((({data:= #[100,97,98,99]}:ByteArray)[1]'(by decide)).toNat:Int)==99)=false:=rfl
 have e2:(((({data:= #[100,97,98,99]}:ByteArray)[2]'(by decide)).toNat:Int)==99)=false:=rfl
 have e3:(((({data:= #[100,97,98,99]}:ByteArray)[3]'(by decide)).toNat:Int)==99)=true:=rfl
 go_enter Try.func98,Try.ntmps98
 go_wp2
 refine wp_loop_rounds 4 ?_
 rw [rounds_succ];go_wp2
 rw [rounds_succ];go_wp2
 rw [rounds_succ];go_wp2
 rw [rounds_succ];go_wp2
 go_ret
 exact⟨rfl,rfl⟩
theorem MP (w:World):Calls Try.prog 98 #[.string {data:= #[100,110]}, .int .u8 100] w fun e w'=>e= .returned (.bool true)∧w=w':=by
 have e0:(((({data:= #[100,110]}:ByteArray)[0]'(by decide)).toNat:Int)==100)=true:=rfl
 go_enter Try.func98,Try.ntmps98
 go_wp2
 refine wp_loop_rounds 1 ?_
 rw [rounds_succ];go_wp2
 go_ret
 exact⟨rfl,rfl⟩
theorem MQ (w:World):Calls Try.prog 98 #[.string {data:= #[100,110]}, .int .u8 110] w fun e w'=>e= .returned (.bool true)∧w=w':=by
 have e0:(((({data:= #[100,110]}:ByteArray)[0]'(by decide)).toNat:Int)==110)=false:=rfl
 have e1:(((({data:= #[100,110]}:ByteArray)[1]'(by decide)).toNat:Int)==110)=true:=rfl
 go_enter Try.func98,Try.ntmps98
 go_wp2
 refine wp_loop_rounds 2 ?_
 rw [rounds_succ];go_wp2
 rw [rounds_succ];go_wp2
 go_ret
 exact⟨rfl,rfl⟩
theorem Ig (w:World):Calls Try.prog 98 #[.string {data:= #[100,97,110]}, .int .u8 100] w fun e w'=>e= .returned (.bool true)∧w=w':=by
 have e0:(((({data:= #[100,97,110]}:ByteArray)[0]'(by decide)).toNat:Int)==100)=true:=rfl
 go_enter Try.func98,Try.ntmps98
 go_wp2
 refine wp_loop_rounds 1 ?_
 rw [rounds_succ];go_wp2
 go_ret
 exact⟨rfl,rfl⟩
theorem Ih (w:World):Calls Try.prog 98 #[.string {data:= #[100,97,110]}, .int .u8 97] w fun e w'=>e= .returned (.bool true)∧w=w':=by
 have e0:(((({data:= #[100,97,110]}:ByteArray)[0]'(by decide)).toNat:Int)==97)=false:=rfl
 have e1:(((({data:= #[100,97,110]}:ByteArray)[1]'(by decide)).toNat:Int)==97)=true:=rfl
 go_enter Try.func98,Try.ntmps98
 go_wp2
 refine wp_loop_rounds 2 ?_
 rw [rounds_succ];go_wp2
 rw [rounds_succ];go_wp2
 go_ret
 exact⟨rfl,rfl⟩
theorem Ii (w:World):Calls Try.prog 98 #[.string {data:= #[100,97,110]}, .int .u8 110] w fun e w'=>e= .returned (.bool true)∧w=w':=by
 have e0:(((({data:= #[100,97,110]}:ByteArray)[0]'(by decide)).toNat:Int)==110)=false:=rfl
 have e1:(((({data:= #[100,97,110]}:ByteArray)[1]'(by decide)).toNat:Int)==110)=false:=rfl
 have e2:(((({data:= #[100,97,110]}:ByteArray)[2]'(by decide)).toNat:Int)==110)=true:=rfl
 go_enter Try.func98,Try.ntmps98
 go_wp2
 refine wp_loop_rounds 3 ?_
 rw [rounds_succ];go_wp2
 rw [rounds_succ];go_wp2
 rw [rounds_succ];go_wp2
 go_ret
 exact⟨rfl,rfl⟩
theorem Ij (w:World):Calls Try.prog 98 #[.string {data:= #[100,97,98]}, .int .u8 100] w fun e w'=>e= .returned (.bool true)∧w=w':=by
 have e0:(((({data:= #[100,97,98]}:ByteArray)[0]'(by decide)).toNat:Int)==100)=true:=rfl
 go_enter Try.func98,Try.ntmps98
 go_wp2
 refine wp_loop_rounds 1 ?_
 rw [rounds_succ];go_wp2
 go_ret
 exact⟨rfl,rfl⟩
theorem Ik (w:World):Calls Try.prog 98 #[.string {data:= #[100,97,98]}, .int .u8 97] w fun e w'=>e= .returned (.bool true)∧w=w':=by
 have e0:(((({data:= #[100,97,98]}:ByteArray)[0]'(by decide)).toNat:Int)==97)=false:=rfl
 have e1:(((({data:= #[100,97,98]}:ByteArray)[1]'(by decide)).toNat:Int)==97)=true:=rfl
 go_enter Try.func98,Try.ntmps98
 go_wp2
 refine wp_loop_rounds 2 ?_
 rw [rounds_succ];go_wp2
 rw [rounds_succ];go_wp2
 go_ret
 exact⟨rfl,rfl⟩
theorem Il (w:World):Calls Try.prog 98 #[.string {data:= #[100,97,98]}, .int .u8 98] w fun e w'=>e= .returned (.bool true)∧w=w':=by
 have e0:(((({data:= #[100,97,98]}:ByteArray)[0]'(by decide)).toNat:Int)==98)=false:=rfl
 have e1:(((({data:= #[100,97,98]}:ByteArray)[1]'(by decide)).toNat:Int)==98)=false:=rfl
 have e2:(((({data:= #[100,97,98]}:ByteArray)[2]'(by decide)).toNat:Int)==98)=true:=rfl
 go_enter Try.func98,Try.ntmps98
 go_wp2
 refine wp_loop_rounds 3 ?_
 rw [rounds_succ];go_wp2
 rw [rounds_succ];go_wp2
 rw [rounds_succ];go_wp2
 go_ret
 exact⟨rfl,rfl⟩
theorem aa6 (c:Int) (w:World):Calls Try.prog 98 #[.string {data:= #[110]}, .int .u8 c] w fun e w'=>e= .returned (.bool (c==110))∧w=w':=by
 by_cases hn:c=110
 ·subst hn;exact Rq w
 have e0:(((({data:= #[110]}:ByteArray)[0]'(by decide)).toNat:Int)==c)=false:=by show((110:Int)==c)=false;simp;omega
 have g0:(c==110)=false:=by simp;omega
 simp only [g0,Bool.or_self]
 clear g0 hn
 go_enter Try.func98,Try.ntmps98
 go_wp2
 refine wp_loop_rounds 2 ?_
 rw [rounds_succ];go_wp2
 rw [rounds_succ];go_wp2
 go_ret
 exact⟨rfl,rfl⟩
theorem VN (c:Int) (w:World):Calls Try.prog 98 #[.string {data:= #[100]}, .int .u8 c] w fun e w'=>e= .returned (.bool (c==100))∧w=w':=by
 by_cases hd:c=100
 ·subst hd;exact Rt w
 have e0:(((({data:= #[100]}:ByteArray)[0]'(by decide)).toNat:Int)==c)=false:=by show((100:Int)==c)=false;simp;omega
 have g0:(c==100)=false:=by simp;omega
 simp only [g0,Bool.or_self]
 clear g0 hd
 go_enter Try.func98,Try.ntmps98
 go_wp2
 refine wp_loop_rounds 2 ?_
 rw [rounds_succ];go_wp2
 rw [rounds_succ];go_wp2
 go_ret
 exact⟨rfl,rfl⟩
theorem vO (c:Int) (w:World):Calls Try.prog 98 #[.string {data:= #[100,97]}, .int .u8 c] w fun e w'=>e= .returned (.bool (c==100 || c==97))∧w=w':=by
 by_cases hd:c=100
 ·subst hd;exact MJ w
 by_cases ha:c=97
 ·subst ha;exact ML w
 have e0:(((({data:= #[100,97]}:ByteArray)[0]'(by decide)).toNat:Int)==c)=false:=by show((100:Int)==c)=false;simp;omega
 have g0:(c==100)=false:=by simp;omega
 have e1:(((({data:= #[100,97]}:ByteArray)[1]'(by decide)).toNat:Int)==c)=false:=by show((97:Int)==c)=false;simp;omega
 have g1:(c==97)=false:=by simp;omega
 simp only [g0,g1,Bool.or_self]
 clear g0 g1 hd ha
 go_enter Try.func98,Try.ntmps98
 go_wp2
 refine wp_loop_rounds 3 ?_
 rw [rounds_succ];go_wp2
 rw [rounds_succ];go_wp2
 rw [rounds_succ];go_wp2
 go_ret
 exact⟨rfl,rfl⟩
theorem yI (c:Int) (w:World):Calls Try.prog 98 #[.string {data:= #[97,110]}, .int .u8 c] w fun e w'=>e= .returned (.bool (c==97 || c==110))∧w=w':=by
 by_cases ha:c=97
 ·subst ha;exact MN w
 by_cases hn:c=110
 ·subst hn;exact MO w
 have e0:(((({data:= #[97,110]}:ByteArray)[0]'(by decide)).toNat:Int)==c)=false:=by show((97:Int)==c)=false;simp;omega
 have g0:(c==97)=false:=by simp;omega
 have e1:(((({data:= #[97,110]}:ByteArray)[1]'(by decide)).toNat:Int)==c)=false:=by show((110:Int)==c)=false;simp;omega
 have g1:(c==110)=false:=by simp;omega
 simp only [g0,g1,Bool.or_self]
 clear g0 g1 ha hn
 go_enter Try.func98,Try.ntmps98
 go_wp2
 refine wp_loop_rounds 3 ?_
 rw [rounds_succ];go_wp2
 rw [rounds_succ];go_wp2
 rw [rounds_succ];go_wp2
 go_ret
 exact⟨rfl,rfl⟩
theorem nX (c:Int) (w:World):Calls Try.prog 98 #[.string {data:= #[100,97,98,99]}, .int .u8 c] w fun e w'=>e= .returned (.bool (c==100 || c==97 || c==98 || c==99))∧w=w':=by
 by_cases hd:c=100
 ·subst hd;exact DZ w
 by_cases ha:c=97
 ·subst ha;exact D5 w
 by_cases hb:c=98
 ·subst hb;exact D6 w
 by_cases hc:c=99
 ·subst hc;exact D7 w
 have e0:(((({data:= #[100,97,98,99]}:ByteArray)[0]'(by decide)).toNat:Int)==c)=false:=by show((100:Int)==c)=false;simp;omega
 have g0:(c==100)=false:=by simp;omega
 have e1:(((({data:= #[100,97,98,99]}:ByteArray)[1]'(by decide)).toNat:Int)==c)=false:=by show((97:Int)==c)=false;simp;omega
 have g1:(c==97)=false:=by simp;omega
 have e2:(((({data:= #[100,97,98,99]}:ByteArray)[2]'(by decide)).toNat:Int)==c)=false:=by show((98:Int)==c)=false;simp;omega
 have g2:(c==98)=false:=by simp;omega
 have e3:(((({data:= #[100,97,98,99]}:ByteArray)[3]'(by decide)).toNat:Int)==c)=false:=by show((99:Int)==c)=false;simp;omega
 have g3:(c==99)=false:=by simp;omega
 simp only [g0,g1,g2,g3,Bool.or_self]
 clear g0 g1 g2 g3 hd ha hb hc
 go_enter Try.func98,Try.ntmps98
 go_wp2
 refine wp_loop_rounds 5 ?_
 rw [rounds_succ];go_wp2
 rw [rounds_succ];go_wp2
 rw [rounds_succ];go_wp2
 rw [rounds_succ];go_wp2
 rw [rounds_succ];go_wp2
 go_ret
 exact⟨rfl,rfl⟩
theorem D8 (c:Int) (w:World):Calls Try.prog 98 #[.string {data:= #[100,110]}, .int .u8 c] w fun e w'=>e= .returned (.bool (c==100 || c==110))∧w=w':=by
 by_cases hd:c=100
 ·subst hd;exact MP w
 by_cases hn:c=110
 ·subst hn;exact MQ w
 have e0:(((({data:= #[100,110]}:ByteArray)[0]'(by decide)).toNat:Int)==c)=false:=by show((100:Int)==c)=false;simp;omega
 have g0:(c==100)=false:=by simp;omega
 have e1:(((({data:= #[100,110]}:ByteArray)[1]'(by decide)).toNat:Int)==c)=false:=by show((110:Int)==c)=false;simp;omega
 have g1:(c==110)=false:=by simp;omega
 simp only [g0,g1,Bool.or_self]
 clear g0 g1 hd hn
 go_enter Try.func98,Try.ntmps98
 go_wp2
 refine wp_loop_rounds 3 ?_
 rw [rounds_succ];go_wp2
 rw [rounds_succ];go_wp2
 rw [rounds_succ];go_wp2
 go_ret
 exact⟨rfl,rfl⟩
theorem FK (c:Int) (w:World):Calls Try.prog 98 #[.string {data:= #[100,97,110]}, .int .u8 c] w fun e w'=>e= .returned (.bool (c==100 || c==97 || c==110))∧w=w':=by
 by_cases hd:c=100
 ·subst hd;exact Ig w
 by_cases ha:c=97
 ·subst ha;exact Ih w
 by_cases hn:c=110
 ·subst hn;exact Ii w
 have e0:(((({data:= #[100,97,110]}:ByteArray)[0]'(by decide)).toNat:Int)==c)=false:=by show((100:Int)==c)=false;simp;omega
 have g0:(c==100)=false:=by simp;omega
 have e1:(((({data:= #[100,97,110]}:ByteArray)[1]'(by decide)).toNat:Int)==c)=false:=by show((97:Int)==c)=false;simp;omega
 have g1:(c==97)=false:=by simp;omega
 have e2:(((({data:= #[100,97,110]}:ByteArray)[2]'(by decide)).toNat:Int)==c)=false:=by show((110:Int)==c)=false;simp;omega
 have g2:(c==110)=false:=by simp;omega
 simp only [g0,g1,g2,Bool.or_self]
 clear g0 g1 g2 hd ha hn
 go_enter Try.func98,Try.ntmps98
 go_wp2
 refine wp_loop_rounds 4 ?_
 rw [rounds_succ];go_wp2
 rw [rounds_succ];go_wp2
 rw [rounds_succ];go_wp2
 rw [rounds_succ];go_wp2
 go_ret
 exact⟨rfl,rfl⟩
theorem yJ (c:Int) (w:World):Calls Try.prog 98 #[.string {data:= #[100,97,98]}, .int .u8 c] w fun e w'=>e= .returned (.bool (c==100 || c==97 || c==98))∧w=w':=by
 by_cases hd:c=100
 ·subst hd;exact Ij w
 by_cases ha:c=97
 ·subst ha;exact Ik w
 by_cases hb:c=98
 ·subst hb;exact Il w
 have e0:(((({data:= #[100,97,98]}:ByteArray)[0]'(by decide)).toNat:Int)==c)=false:=by show((100:Int)==c)=false;simp;omega
 have g0:(c==100)=false:=by simp;omega
 have e1:(((({data:= #[100,97,98]}:ByteArray)[1]'(by decide)).toNat:Int)==c)=false:=by show((97:Int)==c)=false;simp;omega
 have g1:(c==97)=false:=by simp;omega
 have e2:(((({data:= #[100,97,98]}:ByteArray)[2]'(by decide)).toNat:Int)==c)=false:=by show((98:Int)==c)=false;simp;omega
 have g2:(c==98)=false:=by simp;omega
 simp only [g0,g1,g2,Bool.or_self]
 clear g0 g1 g2 hd ha hb
 go_enter Try.func98,Try.ntmps98
 go_wp2
 refine wp_loop_rounds 4 ?_
 rw [rounds_succ];go_wp2
 rw [rounds_succ];go_wp2
 rw [rounds_succ];go_wp2
 rw [rounds_succ];go_wp2
 go_ret
 exact⟨rfl,rfl⟩
theorem adY {k:IntKind} {a b:Int} (h:a=b):Ending.returned (.int k a)= .returned (.int k b):=by rw [h]
theorem dK (o d a b c n k x:Int) (w:World):Calls Try.prog 99 #[.agg #[.int .i64 o, .int .i64 d, .int .i64 a, .int .i64 b, .int .i64 c, .int .i64 n, .int .u32 k, .int .u32 x]] w fun e w'=>e= .returned (.int .u32 ((o+256*d+4096*a+65536*b+1048576*c+65536*n)%4294967296))∧Below w.heap.size w w':=by
 go_enter Try.func99,Try.ntmps99
 go_wp2
 go_ret
 refine⟨adY ?_,(Below.refl _ _).alloc (Nat.le_refl _) _⟩
 omega
theorem aa7 {W:World} {tmps:Array Value} {T:Nat} {o d a b c n k x m e:Int} (hT:W.heap[T]?=some (.cells (tY o d a b c n k x) 108 (0,0))) (h4:tmps.getD 4 undef= .pointer (some ⟨T,0,none⟩)) (h5:tmps.getD 5 undef= .int .i64 m) (h6:tmps.getD 6 undef= .int .i64 e):
  (results Try.f53 tmps).run Try.prog W= .ok (.tuple #[.agg (tY o d a b c n k x), .int .i64 m, .int .i64 e]) W:=by
 have kT:=(bM hT).1
 simp only [Array.getD_eq_getD_getElem?] at h4 h5 h6
 simp [results,Try.results53,h4,h5,h6,go_sem,kT,tY]
theorem bf {w W:World} {a:Act} {v:Value} {o d r b c n k x m e:Int} (hT:W.heap[w.heap.size]?=some (.cells VJ 108 (0,0))) (hB:Below w.heap.size w W) (hv:v= .tuple #[.agg (tY o d r b c n k x), .int .i64 m, .int .i64 e])
  (h4:a.tmps.getD 4 undef= .pointer (some ⟨w.heap.size,0,none⟩)) (h5:a.tmps.getD 5 undef= .int .i64 m) (h6:a.tmps.getD 6 undef= .int .i64 e) (hd:a.defers= []):
  bodyPost Try.prog Try.f53 (fun e w'=>e= .returned v∧Below w.heap.size w w') .ret a
   ((((((((W.setCell ⟨w.heap.size,0,none⟩ (.int .i64 o)).setCell ⟨w.heap.size,1,none⟩ (.int .i64 d)).setCell ⟨w.heap.size,2,none⟩ (.int .i64 r)).setCell ⟨w.heap.size,3,none⟩ (.int .i64 b)).setCell ⟨w.heap.size,4,none⟩ (.int .i64 c)).setCell ⟨w.heap.size,5,none⟩ (.int .i64 n)).setCell ⟨w.heap.size,6,none⟩ (.int .u32 k)).setCell ⟨w.heap.size,7,none⟩ (.int .u32 x)):=by
 subst hv
 exact bodyPost_ret (aa7 (Xu hT rfl _ _ _ _ _ _ _ _) h4 h5 h6) hd ⟨rfl,pY hB (Nat.le_refl _) _ _ _ _ _ _ _ _⟩
theorem fF {w w1:World} {A B:Array Value} {ta tb:TypeId} (aQ:Below ((w.alloc (.cells A ta)).alloc (.cells B tb)).heap.size ((w.alloc (.cells A ta)).alloc (.cells B tb)) w1):
  w1.heap[w.heap.size]?=some (.cells A ta (0,0)):=by
 rw [aQ.block _ (by simp;omega),Below.heap_alloc _ _ _ (by simp)]
 exact heap_alloc_new w _
theorem aa8 {o:Int} (h:FI o=14):o=12:=by
 by_cases a0:o=0
 ·subst a0;exact absurd h (by decide)
 by_cases a1:o=1
 ·subst a1;exact absurd h (by decide)
 by_cases a2:o=2
 ·subst a2;exact absurd h (by decide)
 by_cases a4:o=4
 ·subst a4;exact absurd h (by decide)
 by_cases a6:o=6
 ·subst a6;exact absurd h (by decide)
 by_cases a7:o=7
 ·subst a7;exact absurd h (by decide)
 by_cases a8:o=8
 ·subst a8;exact absurd h (by decide)
 by_cases a9:o=9
 ·subst a9;exact absurd h (by decide)
 by_cases tZ:o=10
 ·subst tZ;exact absurd h (by decide)
 by_cases uf:o=11
 ·subst uf;exact absurd h (by decide)
 by_cases VO:o=12
 ·exact VO
 by_cases VP:o=13
 ·subst VP;exact absurd h (by decide)
 by_cases VQ:o=14
 ·subst VQ;exact absurd h (by decide)
 by_cases VR:o=15
 ·subst VR;exact absurd h (by decide)
 unfold FI at h
 rw [if_neg a0,if_neg a1,if_neg a2,if_neg a4,if_neg a6,if_neg a7,if_neg a8,if_neg a9,if_neg tZ,if_neg uf,if_neg VO,if_neg VP,if_neg VQ,if_neg VR] at h
 exact absurd h (by decide)
theorem XP {o:Int} (h:aF o=14):o=12:=by
 by_cases b1:16≤o∧o<32
 ·rw [yF o b1] at h;exact absurd h (by decide)
 by_cases b2:32≤o∧o<39∨64≤o∧o<80∨o=3
 ·rw [su o b2] at h;exact absurd h (by decide)
 by_cases b3:48≤o∧o<61∨o=5
 ·rw [yG o b3] at h;exact absurd h (by decide)
 by_cases b4:80≤o∧o<85∨88≤o∧o<91
 ·rw [sD o b4] at h;exact absurd h (by decide)
 by_cases b5:o=97
 ·rw [Ls o b5] at h;exact absurd h (by decide)
 by_cases b6:o=96
 ·rw [Lu o b6] at h;exact absurd h (by decide)
 rw [yE o b1 b2 b3 b4 b5 b6] at h
 exact aa8 h
theorem aa9 {o:Int} (h:FI o=15):o=13:=by
 by_cases a0:o=0
 ·subst a0;exact absurd h (by decide)
 by_cases a1:o=1
 ·subst a1;exact absurd h (by decide)
 by_cases a2:o=2
 ·subst a2;exact absurd h (by decide)
 by_cases a4:o=4
 ·subst a4;exact absurd h (by decide)
 by_cases a6:o=6
 ·subst a6;exact absurd h (by decide)
 by_cases a7:o=7
 ·subst a7;exact absurd h (by decide)
 by_cases a8:o=8
 ·subst a8;exact absurd h (by decide)
 by_cases a9:o=9
 ·subst a9;exact absurd h (by decide)
 by_cases tZ:o=10
 ·subst tZ;exact absurd h (by decide)
 by_cases uf:o=11
 ·subst uf;exact absurd h (by decide)
 by_cases VO:o=12
 ·subst VO;exact absurd h (by decide)
 by_cases VP:o=13
 ·exact VP
 by_cases VQ:o=14
 ·subst VQ;exact absurd h (by decide)
 by_cases VR:o=15
 ·subst VR;exact absurd h (by decide)
 unfold FI at h
 rw [if_neg a0,if_neg a1,if_neg a2,if_neg a4,if_neg a6,if_neg a7,if_neg a8,if_neg a9,if_neg tZ,if_neg uf,if_neg VO,if_neg VP,if_neg VQ,if_neg VR] at h
 exact absurd h (by decide)
theorem XQ {o:Int} (h:aF o=15):o=13:=by
 by_cases b1:16≤o∧o<32
 ·rw [yF o b1] at h;exact absurd h (by decide)
 by_cases b2:32≤o∧o<39∨64≤o∧o<80∨o=3
 ·rw [su o b2] at h;exact absurd h (by decide)
 by_cases b3:48≤o∧o<61∨o=5
 ·rw [yG o b3] at h;exact absurd h (by decide)
 by_cases b4:80≤o∧o<85∨88≤o∧o<91
 ·rw [sD o b4] at h;exact absurd h (by decide)
 by_cases b5:o=97
 ·rw [Ls o b5] at h;exact absurd h (by decide)
 by_cases b6:o=96
 ·rw [Lu o b6] at h;exact absurd h (by decide)
 rw [yE o b1 b2 b3 b4 b5 b6] at h
 exact aa9 h
end Go.Proofs.Ytcjcmnnhmajocab.Ho
