import Derived.Test.YtcjcmnnhmajocabPmaa
set_option linter.unusedVariables false
set_option linter.unusedSimpArgs false
set_option maxRecDepth 100000
set_option maxHeartbeats 16000000
namespace Go.Proofs.Ytcjcmnnhmajocab.Me
open Go.RowKit Kt
theorem HM.aaf {p:Nat} {M:MM} {n:Int} {W:World} (h:HM p M n W) (k:Nat) (hk:k<65536) (x:Int):HM p {M with jL:=aO M.jL k x} n (W.setCell ⟨p,k,none⟩ (.int .u8 x)):=by
 obtain⟨h1,h2,h3,h4,h5,h6,h7⟩:=h
 refine⟨fun j hj=> ?_,fun j hj=> ?_,fun j hj=> ?_,fun j hj=> ?_, ?_,fun i=>by simpa using h6 i,by simpa using h7⟩
 ·by_cases rX:j=k
  ·subst rX
   rw [World.cell?_setCell_same _ _ _ (h1 j hj)]
   simp [aO]
  ·rw [HM.aP (by omega),h1 j hj]
   simp [aO,rX]
 ·rw [HM.aP (by omega)];exact h2 j hj
 ·rw [HM.aP (by omega)];exact h3 j hj
 ·rw [HM.aP (by omega)];exact h4 j hj
 ·rw [HM.aP (by omega)];exact h5
def Zu (M:MM) (k:Nat) (b:Int):MM:=jM {M with jL:=aO M.jL k b} (k/256)
theorem zL (M:MM) (a i:Int) (j:Nat) (b:Int) (a0:0≤a) (hi:i=(j:Int)):jM {M with jL:=aO M.jL (a+i).toNat b} ((a+i)/256).toNat=Zu M (a.toNat+j) b:=by
 subst hi
 unfold Zu
 rw [show(a+(j:Int)).toNat=a.toNat+j by omega,show((a+(j:Int))/256).toNat=(a.toNat+j)/256 by omega]
theorem Dl (M:MM) (a b:Int) (a0:0≤a):jM {M with jL:=aO M.jL a.toNat b} (a/256).toNat=Zu M a.toNat b:=by
 unfold Zu
 rw [show(a/256).toNat=a.toNat/256 by omega]
theorem J7 (p:Nat) (M:MM) (k:Int) (k0:0≤k) (k1:k<256) (w:World) (h:HC p M w):
  Calls Try.prog 101 #[.pointer (some ⟨p,0,none⟩), .int .i64 k] w fun e w'=>e= .returned (.tuple #[])∧HC p (jM M k.toNat) w'∧ah (fun i=>i=p) w w':=by
 obtain⟨c,rfl⟩:=Int.eq_ofNat_of_zero_le k0
 refine(uZ p M (aC M.hi) c w h (by omega) (rY _).1 (rY _).2).mono ?_
 rintro e w' ⟨rfl,h1,o1⟩
 refine⟨rfl, ?_,ah.yC o1⟩
 rw [Int.toNat_natCast]
 unfold HC
 rw [←Fh M c (by omega)]
 exact h1
theorem HC.put {p:Nat} {M:MM} {W:World} (h:HC p M W) (k:Nat) (hk:k<65536) (x:Int):HC p {M with jL:=aO M.jL k x} (W.setCell ⟨p,k,none⟩ (.int .u8 x)):=HM.aaf h k hk x
theorem HC.drew {p:Nat} {M:MM} {W:World} (h:HC p M W):HC p M W.drew:=h
theorem HC.facts {p:Nat} {M:MM} {W:World} (h:HC p M W) (k:Int) (k1:k<65536):(∃u,W.cell? ⟨p,k.toNat,none⟩=some u)∧W.frozen? ⟨p,k.toNat,none⟩=false:=
 ⟨⟨_,h.1 k.toNat (by omega)⟩,h.2.2.2.2.2.1 _⟩
def Rs (X:Nat) (W:World):Prop:=W.cell? ⟨X,0,none⟩=some (.int .i64 0)∧W.cell? ⟨X,1,none⟩=some (.int .u32 0)∧W.frozen? ⟨X,0,none⟩=false∧W.frozen? ⟨X,1,none⟩=false∧X<W.heap.size
theorem Rs.new (W:World) (X:Nat) (hX:W.heap.size=X):Rs X (W.alloc (.cells #[.int .i64 0, .int .u32 0] 46)):=by
 subst hX
 have e:=heap_alloc_new W (.cells #[.int .i64 0, .int .u32 0] 46)
 refine⟨?_, ?_, ?_, ?_,by simp⟩
 ·rw [cell_of_row _ _ _ _ _ _ e];rfl
 ·rw [cell_of_row _ _ _ _ _ _ e];rfl
 ·unfold World.frozen?;simp only [e];rfl
 ·unfold World.frozen?;simp only [e];rfl
theorem Rs.drew {X:Nat} {W:World} (h:Rs X W):Rs X W.drew:=h
theorem Rs.upto {X:Nat} {W W':World} {S:Nat→Prop} (h:Rs X W) (u:ah S W W') (hs:¬S X):Rs X W':=by
 obtain⟨h1,h2,h3,h4,h5⟩:=h
 exact⟨(u.cell h5 hs).trans h1,(u.cell h5 hs).trans h2,(u.frozen h5 hs).trans h3,(u.frozen h5 hs).trans h4,Nat.lt_of_lt_of_le h5 u.size⟩
theorem Rs.put {X p:Nat} {W:World} (h:Rs X W) (dU:¬X=p) {j:Nat} {v:Value}:Rs X (W.setCell ⟨p,j,none⟩ v):=
 h.upto (S:=fun i=>i=p) ((ah.refl (fun i=>i=p) _).setCell (q:=⟨p,j,none⟩) (.inl rfl) _) dU
end Go.Proofs.Ytcjcmnnhmajocab.Me
