import Derived.Test.YtcjcmnnhmajocabGreatPmaa
set_option linter.unusedVariables false
set_option linter.unusedSimpArgs false
set_option maxRecDepth 100000
set_option maxHeartbeats 16000000
namespace Go.Proofs.YtcjcmnnhmajocabGreat.Ic
open Go.RowKit
theorem aX (f s c:Int) (w:World):Calls Tryz.prog 60 #[.agg #[.int .i64 f, .int .i64 s, .string {data:= #[]}], .int .u8 c] w fun e w'=>e= .returned (.bool false)∧Below w.heap.size w w':=by
 go_enter Tryz.func60,Tryz.ntmps60
 go_wp2
 refine wp_loop_rounds 1 ?_
 rw [rounds_succ];go_wp2
 go_ret
 exact⟨rfl,(Below.refl _ _).alloc (Nat.le_refl _) _⟩
theorem KT (f s:Int) (w:World):Calls Tryz.prog 60 #[.agg #[.int .i64 f, .int .i64 s, .string {data:= #[107]}], .int .u8 107] w fun e w'=>e= .returned (.bool true)∧Below w.heap.size w w':=by
 have e0:(((({data:= #[107]}:ByteArray)[0]'(by decide)).toNat:Int)==107)=true:=rfl
 go_enter Tryz.func60,Tryz.ntmps60
 go_wp2
 refine wp_loop_rounds 1 ?_
 rw [rounds_succ];go_wp2
 go_ret
 exact⟨rfl,(Below.refl _ _).alloc (Nat.le_refl _) _⟩
theorem sV (f s c:Int) (w:World):Calls Tryz.prog 60 #[.agg #[.int .i64 f, .int .i64 s, .string {data:= #[107]}], .int .u8 c] w fun e w'=>e= .returned (.bool (c==107))∧Below w.heap.size w w':=by
 by_cases hk:c=107
 ·subst hk;exact KT f s w
 have e0:(((({data:= #[107]}:ByteArray)[0]'(by decide)).toNat:Int)==c)=false:=by show((107:Int)==c)=false;simp;omega
 have g0:(c==107)=false:=by simp;omega
 simp only [g0,Bool.or_self]
 clear g0 hk
 go_enter Tryz.func60,Tryz.ntmps60
 go_wp2
 refine wp_loop_rounds 2 ?_
 rw [rounds_succ];go_wp2
 rw [rounds_succ];go_wp2
 go_ret
 exact⟨rfl,(Below.refl _ _).alloc (Nat.le_refl _) _⟩
theorem KU (f s:Int) (w:World):Calls Tryz.prog 60 #[.agg #[.int .i64 f, .int .i64 s, .string {data:= #[97]}], .int .u8 97] w fun e w'=>e= .returned (.bool true)∧Below w.heap.size w w':=by
 have e0:(((({data:= #[97]}:ByteArray)[0]'(by decide)).toNat:Int)==97)=true:=rfl
 go_enter Tryz.func60,Tryz.ntmps60
 go_wp2
 refine wp_loop_rounds 1 ?_
 rw [rounds_succ];go_wp2
 go_ret
 exact⟨rfl,(Below.refl _ _).alloc (Nat.le_refl _) _⟩
theorem gV (f s c:Int) (w:World):Calls Tryz.prog 60 #[.agg #[.int .i64 f, .int .i64 s, .string {data:= #[97]}], .int .u8 c] w fun e w'=>e= .returned (.bool (c==97))∧Below w.heap.size w w':=by
 by_cases ha:c=97
 ·subst ha;exact KU f s w
 have e0:(((({data:= #[97]}:ByteArray)[0]'(by decide)).toNat:Int)==c)=false:=by show((97:Int)==c)=false;simp;omega
 have g0:(c==97)=false:=by simp;omega
 simp only [g0,Bool.or_self]
 clear g0 ha
 go_enter Tryz.func60,Tryz.ntmps60
 go_wp2
 refine wp_loop_rounds 2 ?_
 rw [rounds_succ];go_wp2
 rw [rounds_succ];go_wp2
 go_ret
 exact⟨rfl,(Below.refl _ _).alloc (Nat.le_refl _) _⟩
theorem Ho (f s:Int) (w:World):Calls Tryz.prog 60 #[.agg #[.int .i64 f, .int .i64 s, .string {data:= #[97,98]}], .int .u8 97] w fun e w'=>e= .returned (.bool true)∧Below w.heap.size w w':=by
 have e0:(((({data:= #[97,98]}:ByteArray)[0]'(by decide)).toNat:Int)==97)=true:=rfl
 go_enter Tryz.func60,Tryz.ntmps60
 go_wp2
 refine wp_loop_rounds 1 ?_
 rw [rounds_succ];go_wp2
 go_ret
 exact⟨rfl,(Below.refl _ _).alloc (Nat.le_refl _) _⟩
theorem Hq (f s:Int) (w:World):Calls Tryz.prog 60 #[.agg #[.int .i64 f, .int .i64 s, .string {data:= #[97,98]}], .int .u8 98] w fun e w'=>e= .returned (.bool true)∧Below w.heap.size w w':=by
 have e0:(((({data:= #[97,98]}:ByteArray)[0]'(by decide)).toNat:Int)==98)=false:=rfl
 have e1:(((({data:= #[97,98]}:ByteArray)[1]'(by decide)).toNat:Int)==98)=true:=rfl
 go_enter Tryz.func60,Tryz.ntmps60
 go_wp2
 refine wp_loop_rounds 2 ?_
 rw [rounds_succ];go_wp2
 rw [rounds_succ];go_wp2
 go_ret
 exact⟨rfl,(Below.refl _ _).alloc (Nat.le_refl _) _⟩
theorem qg (f s c:Int) (w:World):Calls Tryz.prog 60 #[.agg #[.int .i64 f, .int .i64 s, .string {data:= #[97,98]}], .int .u8 c] w fun e w'=>e= .returned (.bool (c==97 || c==98))∧Below w.heap.size w w':=by
 by_cases ha:c=97
 ·subst ha;exact Ho f s w
 by_cases hb:c=98
 ·subst hb;exact Hq f s w
 have e0:(((({data:= #[97,98]}:ByteArray)[0]'(by decide)).toNat:Int)==c)=false:=by show((97:Int)==c)=false;simp;omega
 have g0:(c==97)=false:=by simp;omega
 have e1:(((({data:= #[97,98]}:ByteArray)[1]'(by decide)).toNat:Int)==c)=false:=by show((98:Int)==c)=false;simp;omega
 have g1:(c==98)=false:=by simp;omega
 simp only [g0,g1,Bool.or_self]
 clear g0 g1 ha hb
 go_enter Tryz.func60,Tryz.ntmps60
 go_wp2
 refine wp_loop_rounds 3 ?_
 rw [rounds_succ];go_wp2
 rw [rounds_succ];go_wp2
 rw [rounds_succ];go_wp2
 go_ret
 exact⟨rfl,(Below.refl _ _).alloc (Nat.le_refl _) _⟩
theorem DI (f s:Int) (w:World):Calls Tryz.prog 60 #[.agg #[.int .i64 f, .int .i64 s, .string {data:= #[97,98,99]}], .int .u8 97] w fun e w'=>e= .returned (.bool true)∧Below w.heap.size w w':=by
 have e0:(((({data:= #[97,98,99]}:ByteArray)[0]'(by decide)).toNat:Int)==97)=true:=rfl
 go_enter Tryz.func60,Tryz.ntmps60
 go_wp2
 refine wp_loop_rounds 1 ?_
 rw [rounds_succ];go_wp2
 go_ret
 exact⟨rfl,(Below.refl _ _).alloc (Nat.le_refl _) _⟩
theorem DJ (f s:Int) (w:World):Calls Tryz.prog 60 #[.agg #[.int .i64 f, .int .i64 s, .string {data:= #[97,98,99]}], .int .u8 98] w fun e w'=>e= .returned (.bool true)∧Below w.heap.size w w':=by
 have e0:(((({data:= #[97,98,99]}:ByteArray)[0]'(by decide)).toNat:Int)==98)=false:=rfl
 have e1:(((({data:= #[97,98,99]}:ByteArray)[1]'(by decide)).toNat:Int)==98)=true:=rfl
 go_enter Tryz.func60,Tryz.ntmps60
 go_wp2
 refine wp_loop_rounds 2 ?_
 rw [rounds_succ];go_wp2
 rw [rounds_succ];go_wp2
 go_ret
 exact⟨rfl,(Below.refl _ _).alloc (Nat.le_refl _) _⟩
theorem DK (f s:Int) (w:World):Calls Tryz.prog 60 #[.agg #[.int .i64 f, .int .i64 s, .string {data:= #[97,98,99]}], .int .u8 99] w fun e w'=>e= .returned (.bool true)∧Below w.heap.size w w':=by
 have e0:(((({data:= #[97,98,99]}:ByteArray)[0]'(by decide)).toNat:Int)==99)=false:=rfl
 have e1:(((({data:= #[97,98,99]}:ByteArray)[1]'(by decide)).toNat:Int)==99)=false:=rfl
 have e2:(((({data:= #[97,98,99]}:ByteArray)[2]'(by decide)).toNat:Int)==99)=true:=rfl
 go_enter Tryz.func60,Tryz.ntmps60
 go_wp2
 refine wp_loop_rounds 3 ?_
 rw [rounds_succ];go_wp2
 rw [rounds_succ];go_wp2
 rw [rounds_succ];go_wp2
 go_ret
 exact⟨rfl,(Below.refl _ _).alloc (Nat.le_refl _) _⟩
theorem gy (f s c:Int) (w:World):Calls Tryz.prog 60 #[.agg #[.int .i64 f, .int .i64 s, .string {data:= #[97,98,99]}], .int .u8 c] w fun e w'=>e= .returned (.bool (c==97 || c==98 || c==99))∧Below w.heap.size w w':=by
 by_cases ha:c=97
 ·subst ha;exact DI f s w
 by_cases hb:c=98
 ·subst hb;exact DJ f s w
 by_cases hc:c=99
 ·subst hc;exact DK f s w
 have e0:(((({data:= #[97,98,99]}:ByteArray)[0]'(by decide)).toNat:Int)==c)=false:=by show((97:Int)==c)=false;simp;omega
 have g0:(c==97)=false:=by simp;omega
 have e1:(((({data:= #[97,98,99]}:ByteArray)[1]'(by decide)).toNat:Int)==c)=false:=by show((98:Int)==c)=false;simp;omega
 have g1:(c==98)=false:=by simp;omega
 have e2:(((({data:= #[97,98,99]}:ByteArray)[2]'(by decide)).toNat:Int)==c)=false:=by show((99:Int)==c)=false;simp;omega
 have g2:(c==99)=false:=by simp;omega
 simp only [g0,g1,g2,Bool.or_self]
 clear g0 g1 g2 ha hb hc
 go_enter Tryz.func60,Tryz.ntmps60
 go_wp2
 refine wp_loop_rounds 4 ?_
 rw [rounds_succ];go_wp2
 rw [rounds_succ];go_wp2
 rw [rounds_succ];go_wp2
 rw [rounds_succ];go_wp2
 go_ret
 exact⟨rfl,(Below.refl _ _).alloc (Nat.le_refl _) _⟩
theorem DL (f s:Int) (w:World):Calls Tryz.prog 60 #[.agg #[.int .i64 f, .int .i64 s, .string {data:= #[97,107,110]}], .int .u8 97] w fun e w'=>e= .returned (.bool true)∧Below w.heap.size w w':=by
 have e0:(((({data:= #[97,107,110]}:ByteArray)[0]'(by decide)).toNat:Int)==97)=true:=rfl
 go_enter Tryz.func60,Tryz.ntmps60
 go_wp2
 refine wp_loop_rounds 1 ?_
 rw [rounds_succ];go_wp2
 go_ret
 exact⟨rfl,(Below.refl _ _).alloc (Nat.le_refl _) _⟩
theorem DR (f s:Int) (w:World):Calls Tryz.prog 60 #[.agg #[.int .i64 f, .int .i64 s, .string {data:= #[97,107,110]}], .int .u8 107] w fun e w'=>e= .returned (.bool true)∧Below w.heap.size w w':=by
 have e0:(((({data:= #[97,107,110]}:ByteArray)[0]'(by decide)).toNat:Int)==107)=false:=rfl
 have e1:(((({data:= #[97,107,110]}:ByteArray)[1]'(by decide)).toNat:Int)==107)=true:=rfl
 go_enter Tryz.func60,Tryz.ntmps60
 go_wp2
 refine wp_loop_rounds 2 ?_
 rw [rounds_succ];go_wp2
 rw [rounds_succ];go_wp2
 go_ret
 exact⟨rfl,(Below.refl _ _).alloc (Nat.le_refl _) _⟩
theorem DT (f s:Int) (w:World):Calls Tryz.prog 60 #[.agg #[.int .i64 f, .int .i64 s, .string {data:= #[97,107,110]}], .int .u8 110] w fun e w'=>e= .returned (.bool true)∧Below w.heap.size w w':=by
 have e0:(((({data:= #[97,107,110]}:ByteArray)[0]'(by decide)).toNat:Int)==110)=false:=rfl
 have e1:(((({data:= #[97,107,110]}:ByteArray)[1]'(by decide)).toNat:Int)==110)=false:=rfl
 have e2:(((({data:= #[97,107,110]}:ByteArray)[2]'(by decide)).toNat:Int)==110)=true:=rfl
 go_enter Tryz.func60,Tryz.ntmps60
 go_wp2
 refine wp_loop_rounds 3 ?_
 rw [rounds_succ];go_wp2
 rw [rounds_succ];go_wp2
 rw [rounds_succ];go_wp2
 go_ret
 exact⟨rfl,(Below.refl _ _).alloc (Nat.le_refl _) _⟩
theorem dB (f s c:Int) (w:World):Calls Tryz.prog 60 #[.agg #[.int .i64 f, .int .i64 s, .string {data:= #[97,107,110]}], .int .u8 c] w fun e w'=>e= .returned (.bool (c==97 || c==107 || c==110))∧Below w.heap.size w w':=by
 by_cases ha:c=97
 ·subst ha;exact DL f s w
 by_cases hk:c=107
 ·subst hk;exact DR f s w
 by_cases hn:c=110
 ·subst hn;exact DT f s w
 have e0:(((({data:= #[97,107,110]}:ByteArray)[0]'(by decide)).toNat:Int)==c)=false:=by show((97:Int)==c)=false;simp;omega
 have g0:(c==97)=false:=by simp;omega
 have e1:(((({data:= #[97,107,110]}:ByteArray)[1]'(by decide)).toNat:Int)==c)=false:=by show((107:Int)==c)=false;simp;omega
 have g1:(c==107)=false:=by simp;omega
 have e2:(((({data:= #[97,107,110]}:ByteArray)[2]'(by decide)).toNat:Int)==c)=false:=by show((110:Int)==c)=false;simp;omega
 have g2:(c==110)=false:=by simp;omega
 simp only [g0,g1,g2,Bool.or_self]
 clear g0 g1 g2 ha hk hn
 go_enter Tryz.func60,Tryz.ntmps60
 go_wp2
 refine wp_loop_rounds 4 ?_
 rw [rounds_succ];go_wp2
 rw [rounds_succ];go_wp2
 rw [rounds_succ];go_wp2
 rw [rounds_succ];go_wp2
 go_ret
 exact⟨rfl,(Below.refl _ _).alloc (Nat.le_refl _) _⟩
theorem AB (f s:Int) (w:World):Calls Tryz.prog 60 #[.agg #[.int .i64 f, .int .i64 s, .string {data:= #[97,98,107,110]}], .int .u8 97] w fun e w'=>e= .returned (.bool true)∧Below w.heap.size w w':=by
 have e0:(((({data:= #[97,98,107,110]}:ByteArray)[0]'(by decide)).toNat:Int)==97)=true:=rfl
 go_enter Tryz.func60,Tryz.ntmps60
 go_wp2
 refine wp_loop_rounds 1 ?_
 rw [rounds_succ];go_wp2
 go_ret
 exact⟨rfl,(Below.refl _ _).alloc (Nat.le_refl _) _⟩
theorem AO (f s:Int) (w:World):Calls Tryz.prog 60 #[.agg #[.int .i64 f, .int .i64 s, .string {data:= #[97,98,107,110]}], .int .u8 98] w fun e w'=>e= .returned (.bool true)∧Below w.heap.size w w':=by
 have e0:(((({data:= #[97,98,107,110]}:ByteArray)[0]'(by decide)).toNat:Int)==98)=false:=rfl
 have e1:(((({data:= #[97,98,107,110]}:ByteArray)[1]'(by decide)).toNat:Int)==98)=true:=rfl
 go_enter Tryz.func60,Tryz.ntmps60
 go_wp2
 refine wp_loop_rounds 2 ?_
 rw [rounds_succ];go_wp2
 rw [rounds_succ];go_wp2
 go_ret
 exact⟨rfl,(Below.refl _ _).alloc (Nat.le_refl _) _⟩
theorem AP (f s:Int) (w:World):Calls Tryz.prog 60 #[.agg #[.int .i64 f, .int .i64 s, .string {data:= #[97,98,107,110]}], .int .u8 107] w fun e w'=>e= .returned (.bool true)∧Below w.heap.size w w':=by
 have e0:(((({data:= #[97,98,107,110]}:ByteArray)[0]'(by decide)).toNat:Int)==107)=false:=rfl
 have e1:(((({data:= #[97,98,107,110]}:ByteArray)[1]'(by decide)).toNat:Int)==107)=false:=rfl
 have e2:(((({data:= #[97,98,107,110]}:ByteArray)[2]'(by decide)).toNat:Int)==107)=true:=rfl
 go_enter Tryz.func60,Tryz.ntmps60
 go_wp2
 refine wp_loop_rounds 3 ?_
 rw [rounds_succ];go_wp2
 rw [rounds_succ];go_wp2
 rw [rounds_succ];go_wp2
 go_ret
 exact⟨rfl,(Below.refl _ _).alloc (Nat.le_refl _) _⟩
theorem AQ (f s:Int) (w:World):Calls Tryz.prog 60 #[.agg #[.int .i64 f, .int .i64 s, .string {data:= #[97,98,107,110]}], .int .u8 110] w fun e w'=>e= .returned (.bool true)∧Below w.heap.size w w':=by
 have e0:(((({data:= #[97,98,107,110]}:ByteArray)[0]'(by decide)).toNat:Int)==110)=false:=rfl
 have e1:(((({data:= #[97,98,107,110]}:ByteArray)[1]'(by decide)).toNat:Int)==110)=false:=rfl
 have e2:(((({data:= #[97,98,107,110]}:ByteArray)[2]'(by decide)).toNat:Int)==110)=false:=rfl
 have e3:(((({data:= #[97,98,107,110]}:ByteArray)[3]'(by decide)).toNat:Int)==110)=true:=rfl
 go_enter Tryz.func60,Tryz.ntmps60
 go_wp2
 refine wp_loop_rounds 4 ?_
 rw [rounds_succ];go_wp2
 rw [rounds_succ];go_wp2
 rw [rounds_succ];go_wp2
 rw [rounds_succ];go_wp2
 go_ret
 exact⟨rfl,(Below.refl _ _).alloc (Nat.le_refl _) _⟩
theorem kQ (f s c:Int) (w:World):Calls Tryz.prog 60 #[.agg #[.int .i64 f, .int .i64 s, .string {data:= #[97,98,107,110]}], .int .u8 c] w fun e w'=>e= .returned (.bool (c==97 || c==98 || c==107 || c==110))∧Below w.heap.size w w':=by
 by_cases ha:c=97
 ·subst ha;exact AB f s w
 by_cases hb:c=98
 ·subst hb;exact AO f s w
 by_cases hk:c=107
 ·subst hk;exact AP f s w
 by_cases hn:c=110
 ·subst hn;exact AQ f s w
 have e0:(((({data:= #[97,98,107,110]}:ByteArray)[0]'(by decide)).toNat:Int)==c)=false:=by show((97:Int)==c)=false;simp;omega
 have g0:(c==97)=false:=by simp;omega
 have e1:(((({data:= #[97,98,107,110]}:ByteArray)[1]'(by decide)).toNat:Int)==c)=false:=by show((98:Int)==c)=false;simp;omega
 have g1:(c==98)=false:=by simp;omega
 have e2:(((({data:= #[97,98,107,110]}:ByteArray)[2]'(by decide)).toNat:Int)==c)=false:=by show((107:Int)==c)=false;simp;omega
 have g2:(c==107)=false:=by simp;omega
 have e3:(((({data:= #[97,98,107,110]}:ByteArray)[3]'(by decide)).toNat:Int)==c)=false:=by show((110:Int)==c)=false;simp;omega
 have g3:(c==110)=false:=by simp;omega
 simp only [g0,g1,g2,g3,Bool.or_self]
 clear g0 g1 g2 g3 ha hb hk hn
 go_enter Tryz.func60,Tryz.ntmps60
 go_wp2
 refine wp_loop_rounds 5 ?_
 rw [rounds_succ];go_wp2
 rw [rounds_succ];go_wp2
 rw [rounds_succ];go_wp2
 rw [rounds_succ];go_wp2
 rw [rounds_succ];go_wp2
 go_ret
 exact⟨rfl,(Below.refl _ _).alloc (Nat.le_refl _) _⟩
theorem Hr (f s:Int) (w:World):Calls Tryz.prog 60 #[.agg #[.int .i64 f, .int .i64 s, .string {data:= #[107,110]}], .int .u8 107] w fun e w'=>e= .returned (.bool true)∧Below w.heap.size w w':=by
 have e0:(((({data:= #[107,110]}:ByteArray)[0]'(by decide)).toNat:Int)==107)=true:=rfl
 go_enter Tryz.func60,Tryz.ntmps60
 go_wp2
 refine wp_loop_rounds 1 ?_
 rw [rounds_succ];go_wp2
 go_ret
 exact⟨rfl,(Below.refl _ _).alloc (Nat.le_refl _) _⟩
theorem Ht (f s:Int) (w:World):Calls Tryz.prog 60 #[.agg #[.int .i64 f, .int .i64 s, .string {data:= #[107,110]}], .int .u8 110] w fun e w'=>e= .returned (.bool true)∧Below w.heap.size w w':=by
 have e0:(((({data:= #[107,110]}:ByteArray)[0]'(by decide)).toNat:Int)==110)=false:=rfl
 have e1:(((({data:= #[107,110]}:ByteArray)[1]'(by decide)).toNat:Int)==110)=true:=rfl
 go_enter Tryz.func60,Tryz.ntmps60
 go_wp2
 refine wp_loop_rounds 2 ?_
 rw [rounds_succ];go_wp2
 rw [rounds_succ];go_wp2
 go_ret
 exact⟨rfl,(Below.refl _ _).alloc (Nat.le_refl _) _⟩
theorem iZ (f s c:Int) (w:World):Calls Tryz.prog 60 #[.agg #[.int .i64 f, .int .i64 s, .string {data:= #[107,110]}], .int .u8 c] w fun e w'=>e= .returned (.bool (c==107 || c==110))∧Below w.heap.size w w':=by
 by_cases hk:c=107
 ·subst hk;exact Hr f s w
 by_cases hn:c=110
 ·subst hn;exact Ht f s w
 have e0:(((({data:= #[107,110]}:ByteArray)[0]'(by decide)).toNat:Int)==c)=false:=by show((107:Int)==c)=false;simp;omega
 have g0:(c==107)=false:=by simp;omega
 have e1:(((({data:= #[107,110]}:ByteArray)[1]'(by decide)).toNat:Int)==c)=false:=by show((110:Int)==c)=false;simp;omega
 have g1:(c==110)=false:=by simp;omega
 simp only [g0,g1,Bool.or_self]
 clear g0 g1 hk hn
 go_enter Tryz.func60,Tryz.ntmps60
 go_wp2
 refine wp_loop_rounds 3 ?_
 rw [rounds_succ];go_wp2
 rw [rounds_succ];go_wp2
 rw [rounds_succ];go_wp2
 go_ret
 exact⟨rfl,(Below.refl _ _).alloc (Nat.le_refl _) _⟩
theorem DU (f s:Int) (w:World):Calls Tryz.prog 60 #[.agg #[.int .i64 f, .int .i64 s, .string {data:= #[103,107,110]}], .int .u8 103] w fun e w'=>e= .returned (.bool true)∧Below w.heap.size w w':=by
 have e0:(((({data:= #[103,107,110]}:ByteArray)[0]'(by decide)).toNat:Int)==103)=true:=rfl
 go_enter Tryz.func60,Tryz.ntmps60
 go_wp2
 refine wp_loop_rounds 1 ?_
 rw [rounds_succ];go_wp2
 go_ret
 exact⟨rfl,(Below.refl _ _).alloc (Nat.le_refl _) _⟩
theorem DV (f s:Int) (w:World):Calls Tryz.prog 60 #[.agg #[.int .i64 f, .int .i64 s, .string {data:= #[103,107,110]}], .int .u8 107] w fun e w'=>e= .returned (.bool true)∧Below w.heap.size w w':=by
 have e0:(((({data:= #[103,107,110]}:ByteArray)[0]'(by decide)).toNat:Int)==107)=false:=rfl
 have e1:(((({data:= #[103,107,110]}:ByteArray)[1]'(by decide)).toNat:Int)==107)=true:=rfl
 go_enter Tryz.func60,Tryz.ntmps60
 go_wp2
 refine wp_loop_rounds 2 ?_
 rw [rounds_succ];go_wp2
 rw [rounds_succ];go_wp2
 go_ret
 exact⟨rfl,(Below.refl _ _).alloc (Nat.le_refl _) _⟩
theorem DW (f s:Int) (w:World):Calls Tryz.prog 60 #[.agg #[.int .i64 f, .int .i64 s, .string {data:= #[103,107,110]}], .int .u8 110] w fun e w'=>e= .returned (.bool true)∧Below w.heap.size w w':=by
 have e0:(((({data:= #[103,107,110]}:ByteArray)[0]'(by decide)).toNat:Int)==110)=false:=rfl
 have e1:(((({data:= #[103,107,110]}:ByteArray)[1]'(by decide)).toNat:Int)==110)=false:=rfl
 have e2:(((({data:= #[103,107,110]}:ByteArray)[2]'(by decide)).toNat:Int)==110)=true:=rfl
 go_enter Tryz.func60,Tryz.ntmps60
 go_wp2
 refine wp_loop_rounds 3 ?_
 rw [rounds_succ];go_wp2
 rw [rounds_succ];go_wp2
 rw [rounds_succ];go_wp2
 go_ret
 exact⟨rfl,(Below.refl _ _).alloc (Nat.le_refl _) _⟩
theorem nG (f s c:Int) (w:World):Calls Tryz.prog 60 #[.agg #[.int .i64 f, .int .i64 s, .string {data:= #[103,107,110]}], .int .u8 c] w fun e w'=>e= .returned (.bool (c==103 || c==107 || c==110))∧Below w.heap.size w w':=by
 by_cases hg:c=103
 ·subst hg;exact DU f s w
 by_cases hk:c=107
 ·subst hk;exact DV f s w
 by_cases hn:c=110
 ·subst hn;exact DW f s w
 have e0:(((({data:= #[103,107,110]}:ByteArray)[0]'(by decide)).toNat:Int)==c)=false:=by show((103:Int)==c)=false;simp;omega
 have g0:(c==103)=false:=by simp;omega
 have e1:(((({data:= #[103,107,110]}:ByteArray)[1]'(by decide)).toNat:Int)==c)=false:=by show((107:Int)==c)=false;simp;omega
 have g1:(c==107)=false:=by simp;omega
 have e2:(((({data:= #[103,107,110]}:ByteArray)[2]'(by decide)).toNat:Int)==c)=false:=by show((110:Int)==c)=false;simp;omega
 have g2:(c==110)=false:=by simp;omega
 simp only [g0,g1,g2,Bool.or_self]
 clear g0 g1 g2 hg hk hn
 go_enter Tryz.func60,Tryz.ntmps60
 go_wp2
 refine wp_loop_rounds 4 ?_
 rw [rounds_succ];go_wp2
 rw [rounds_succ];go_wp2
 rw [rounds_succ];go_wp2
 rw [rounds_succ];go_wp2
 go_ret
 exact⟨rfl,(Below.refl _ _).alloc (Nat.le_refl _) _⟩
theorem Hu (f s:Int) (w:World):Calls Tryz.prog 60 #[.agg #[.int .i64 f, .int .i64 s, .string {data:= #[97,110]}], .int .u8 97] w fun e w'=>e= .returned (.bool true)∧Below w.heap.size w w':=by
 have e0:(((({data:= #[97,110]}:ByteArray)[0]'(by decide)).toNat:Int)==97)=true:=rfl
 go_enter Tryz.func60,Tryz.ntmps60
 go_wp2
 refine wp_loop_rounds 1 ?_
 rw [rounds_succ];go_wp2
 go_ret
 exact⟨rfl,(Below.refl _ _).alloc (Nat.le_refl _) _⟩
theorem Hw (f s:Int) (w:World):Calls Tryz.prog 60 #[.agg #[.int .i64 f, .int .i64 s, .string {data:= #[97,110]}], .int .u8 110] w fun e w'=>e= .returned (.bool true)∧Below w.heap.size w w':=by
 have e0:(((({data:= #[97,110]}:ByteArray)[0]'(by decide)).toNat:Int)==110)=false:=rfl
 have e1:(((({data:= #[97,110]}:ByteArray)[1]'(by decide)).toNat:Int)==110)=true:=rfl
 go_enter Tryz.func60,Tryz.ntmps60
 go_wp2
 refine wp_loop_rounds 2 ?_
 rw [rounds_succ];go_wp2
 rw [rounds_succ];go_wp2
 go_ret
 exact⟨rfl,(Below.refl _ _).alloc (Nat.le_refl _) _⟩
theorem qh (f s c:Int) (w:World):Calls Tryz.prog 60 #[.agg #[.int .i64 f, .int .i64 s, .string {data:= #[97,110]}], .int .u8 c] w fun e w'=>e= .returned (.bool (c==97 || c==110))∧Below w.heap.size w w':=by
 by_cases ha:c=97
 ·subst ha;exact Hu f s w
 by_cases hn:c=110
 ·subst hn;exact Hw f s w
 have e0:(((({data:= #[97,110]}:ByteArray)[0]'(by decide)).toNat:Int)==c)=false:=by show((97:Int)==c)=false;simp;omega
 have g0:(c==97)=false:=by simp;omega
 have e1:(((({data:= #[97,110]}:ByteArray)[1]'(by decide)).toNat:Int)==c)=false:=by show((110:Int)==c)=false;simp;omega
 have g1:(c==110)=false:=by simp;omega
 simp only [g0,g1,Bool.or_self]
 clear g0 g1 ha hn
 go_enter Tryz.func60,Tryz.ntmps60
 go_wp2
 refine wp_loop_rounds 3 ?_
 rw [rounds_succ];go_wp2
 rw [rounds_succ];go_wp2
 rw [rounds_succ];go_wp2
 go_ret
 exact⟨rfl,(Below.refl _ _).alloc (Nat.le_refl _) _⟩
end Go.Proofs.YtcjcmnnhmajocabGreat.Ic
