import Derived.Test.YtcjcmnnhmajocabGreatPmad
set_option linter.unusedVariables false
set_option linter.unusedSimpArgs false
set_option maxRecDepth 100000
set_option maxHeartbeats 16000000
namespace Go.Proofs.YtcjcmnnhmajocabGreat.Me
open Go.RowKit Kt
def Jf (M:MM) (k:Nat) (b:Bool):MM:={(if b=false∧M.hi k=true then{M with hi:=aF M.hi k false} else M) with wd:=aF M.wd k b}
def Qi (M:MM) (n:Int) (k:Nat) (b:Bool):Int:=if b=false∧M.hi k=true then n-1 else n
theorem JM (p:Nat) (k:Int) (b:Bool) (w:World) (hb:k<0∨256≤k):
  Calls Tryz.prog 51 #[.pointer (some ⟨p,0,none⟩), .int .i64 k, .bool b] w fun e w'=>e= .returned (.int .i64 4)∧w=w':=by
 have HP:=κ (nV k)
 have e:(decide (0≤k)&&decide (k<256))=false:=by simp;omega
 rw [e] at HP
 clear hb
 go_enter Tryz.func51,Tryz.ntmps51
 go_wp2_with (go_at_call 80;refine(HP.out _).mono ?_;rintro e w' ⟨rfl,rfl⟩)
 go_ret
 exact⟨rfl,rfl⟩
theorem Qj (p:Nat) (M:MM) (n:Int) (k:Nat) (b:Bool) (w:World) (h:HM p M n w) (hk:k<256) (n0:0≤n) (n1:n≤256):
  Calls Tryz.prog 51 #[.pointer (some ⟨p,0,none⟩), .int .i64 (k:Int), .bool b] w fun e w'=>e= .returned (.int .i64 0)∧HM p (Jf M k b) (Qi M n k b) w'∧nC p w w':=by
 have HP:=κ (nV (k:Int))
 have k0:(0:Int)≤(k:Int):=by omega
 have k1:(k:Int) <256:=by omega
 have e:(decide (0≤(k:Int))&&decide ((k:Int) <256))=true:=by simp;omega
 rw [e] at HP
 have c3:=h.2.2.1 k hk
 have c4:=h.2.2.2.1 k hk
 have c5:=h.2.2.2.2.1
 have z3:=h.2.2.2.2.2.1 (65792+k)
 have z4:=h.2.2.2.2.2.1 (66048+k)
 have z5:=h.2.2.2.2.2.1 66304
 have HH:=κ h
 have dR:66048+k≠65792+k:=by omega
 clear h
 unfold Jf Qi
 obtain⟨bh,hh⟩:∃bh,M.hi k=bh:=⟨_,rfl⟩
 rw [hh] at c4⊢
 clear hh
 cases b<;>cases bh
 all_goals go_enter Tryz.func51,Tryz.ntmps51
 all_goals go_wp2_with (go_at_call 80;refine(HP.out _).mono ?_;rintro e w' ⟨rfl,rfl⟩)
 all_goals go_ret
 all_goals first
  | exact⟨rfl,HH.out.JK k hk false,(nC.refl _ _).set _ _⟩
  | exact⟨rfl,((HH.out.JK k hk false).Uh k hk false).Jy (n-1),(((nC.refl _ _).set _ _).set _ _).set _ _⟩
  | exact⟨rfl,HH.out.JK k hk true,(nC.refl _ _).set _ _⟩
end Go.Proofs.YtcjcmnnhmajocabGreat.Me
