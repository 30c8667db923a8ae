import Derived.Test.YtcjcmnnhmajocabGreatPmac
set_option linter.unusedVariables false
set_option linter.unusedSimpArgs false
set_option maxRecDepth 100000
set_option maxHeartbeats 16000000
namespace Go.Proofs.YtcjcmnnhmajocabGreat.Fl
open Go.RowKit Kt
def lW (o a b f:Int):Int:=
 if o=0 then(a+b)%4294967296
 else if o=1 then(a+b+f/4%2)%4294967296
 else if o=2 then(a-b)%4294967296
 else if o=3 then(a-b-f/4%2)%4294967296
 else if o=4 then bits .and .u32 a b
 else if o=5 then bits .or .u32 a b
 else if o=6 then bits .xor .u32 a b
 else if o=7 then a
 else if o=8 then a
 else if o=9 then a*2^n5 b%4294967296
 else if o=10 then a/2^n5 b
 else if o=11 then sg a/2^n5 b%4294967296
 else if o=12 then xJ a (n5 b)
 else if o=13 then a*b%4294967296
 else if o=14 then(if b=0 then 0 else a/b)
 else if o=15 then(if b=0 then 0 else a%b)
 else 0
def nR (o a b f:Int):Int:=
 if o=0 then fl 1 a b f
 else if o=1 then fl 2 a b f
 else if o=2 then fl 3 a b f
 else if o=3 then fl 4 a b f
 else if o=4 then zn (bits .and .u32 a b)
 else if o=5 then zn (bits .or .u32 a b)
 else if o=6 then zn (bits .xor .u32 a b)
 else if o=7 then fl 3 a b f
 else if o=8 then zn (bits .and .u32 a b)
 else if o=9 then fl 6 a b f
 else if o=10 then fl 7 a b f
 else if o=11 then fl 8 a b f
 else if o=12 then fl 9 a b f
 else if o=13 then fl 10 a b f
 else if o=14 then(if b=0 then 0 else zn (a/b))
 else if o=15 then(if b=0 then 0 else zn (a%b))
 else 0
def uJ (o b:Int):Bool:= !(decide (o<0) || decide (15<o) || (decide (14≤o)&&decide (b=0)))
theorem jR (op:BinOp) (a b:Int) (h0:0≤a) (g0:a<4294967296) (h1:0≤b) (g1:b<4294967296):0≤bits op .u32 a b∧bits op .u32 a b<4294967296:=by
 unfold bits
 rw [IntKind.wrap_u32]
 omega
theorem Vq (o a b f:Int) (h:o<0∨15<o):lW o a b f=0∧nR o a b f=0∧uJ o b=false:=by
 refine⟨?_, ?_, ?_⟩
 ·unfold lW;rw [if_neg (by omega),if_neg (by omega),if_neg (by omega),if_neg (by omega),if_neg (by omega),if_neg (by omega),if_neg (by omega),if_neg (by omega),if_neg (by omega),if_neg (by omega),if_neg (by omega),if_neg (by omega),if_neg (by omega),if_neg (by omega),if_neg (by omega),if_neg (by omega)]
 ·unfold nR;rw [if_neg (by omega),if_neg (by omega),if_neg (by omega),if_neg (by omega),if_neg (by omega),if_neg (by omega),if_neg (by omega),if_neg (by omega),if_neg (by omega),if_neg (by omega),if_neg (by omega),if_neg (by omega),if_neg (by omega),if_neg (by omega),if_neg (by omega),if_neg (by omega)]
 ·unfold uJ;rcases h with h | h<;>simp [h]
theorem Vr {a a' c c':Int} {d d':Bool} (h:a=a') (g:c=c') (k:d=d'):Ending.returned (.tuple #[.int .u32 a, .int .u32 c, .bool d])= .returned (.tuple #[.int .u32 a', .int .u32 c', .bool d']):=by rw [h,g,k]
theorem Qg (o a f:Int) (h:o=14∨o=15):lW o a 0 f=0∧nR o a 0 f=0∧uJ o 0=false:=by
 rcases h with rfl | rfl<;>exact⟨rfl,rfl,rfl⟩
end Go.Proofs.YtcjcmnnhmajocabGreat.Fl
namespace Go.Proofs.YtcjcmnnhmajocabGreat.Me
open Go.RowKit Kt
theorem HM.Ul {p:Nat} {M:MM} {n:Int} {W:World} (h:HM p M n W) (k:Nat) (hk:k<256) (x:Int):HM p {M with rt:=aF M.rt k x} n (W.setCell ⟨p,65536+k,none⟩ (.int .u8 x)):=by
 obtain⟨h1,h2,h3,h4,h5,h6,h7⟩:=h
 refine⟨fun j hj=> ?_,fun j hj=> ?_,fun j hj=> ?_,fun j hj=> ?_, ?_,fun i=>by simpa using h6 i,by simpa using h7⟩
 ·rw [HM.aH (by omega)];exact h1 j hj
 ·by_cases qZ:j=k
  ·subst qZ
   rw [World.cell?_setCell_same _ _ _ (h2 j hj)]
   simp [aF]
  ·rw [HM.aH (by omega),h2 j hj]
   simp [aF,qZ]
 ·rw [HM.aH (by omega)];exact h3 j hj
 ·rw [HM.aH (by omega)];exact h4 j hj
 ·rw [HM.aH (by omega)];exact h5
theorem HM.JK {p:Nat} {M:MM} {n:Int} {W:World} (h:HM p M n W) (k:Nat) (hk:k<256) (b:Bool):HM p {M with wd:=aF M.wd k b} n (W.setCell ⟨p,65792+k,none⟩ (.bool b)):=by
 obtain⟨h1,h2,h3,h4,h5,h6,h7⟩:=h
 refine⟨fun j hj=> ?_,fun j hj=> ?_,fun j hj=> ?_,fun j hj=> ?_, ?_,fun i=>by simpa using h6 i,by simpa using h7⟩
 ·rw [HM.aH (by omega)];exact h1 j hj
 ·rw [HM.aH (by omega)];exact h2 j hj
 ·by_cases qZ:j=k
  ·subst qZ
   rw [World.cell?_setCell_same _ _ _ (h3 j hj)]
   simp [aF]
  ·rw [HM.aH (by omega),h3 j hj]
   simp [aF,qZ]
 ·rw [HM.aH (by omega)];exact h4 j hj
 ·rw [HM.aH (by omega)];exact h5
theorem nC.trans {p:Nat} {a b c:World} (h:nC p a b) (k:nC p b c):nC p a c:=
 ⟨k.1.trans h.1,fun g hg=>(k.2.1 g hg).trans (h.2.1 g hg),fun B hB=>(h.2.2 B hB).trans (k.2.2 B hB)⟩
def Um (M:MM) (k:Nat) (x:Int):MM:={(if M.rt k=x then M else l7 M k) with rt:=aF M.rt k x}
def Qh (M:MM) (n:Int) (k:Nat) (x:Int):Int:=if M.rt k=x then n else Jz M n k
theorem Aa (p:Nat) (M:MM) (n k x:Int) (w:World) (h:HM p M n w) (hb:k<0∨256≤k∨x<0∨7<x):
  Calls Tryz.prog 49 #[.pointer (some ⟨p,0,none⟩), .int .i64 k, .int .i64 x] w fun e w'=>e= .returned (.int .i64 4)∧w=w':=by
 have HP:=κ (nV k)
 have hp:k<0∨256≤k∨(0≤k∧k<256∧(x<0∨7<x)):=by omega
 clear h hb
 rcases hp with hp | hp | ⟨p0,p1,hx | hx⟩
 ·have e:(decide (0≤k)&&decide (k<256))=false:=by simp;omega
  rw [e] at HP
  go_enter Tryz.func49,Tryz.ntmps49
  go_wp2_with (go_at_call 80;refine(HP.out _).mono ?_;rintro e w' ⟨rfl,rfl⟩)
  go_ret
  exact⟨rfl,rfl⟩
 ·have e:(decide (0≤k)&&decide (k<256))=false:=by simp;omega
  rw [e] at HP
  go_enter Tryz.func49,Tryz.ntmps49
  go_wp2_with (go_at_call 80;refine(HP.out _).mono ?_;rintro e w' ⟨rfl,rfl⟩)
  go_ret
  exact⟨rfl,rfl⟩
 ·have e:(decide (0≤k)&&decide (k<256))=true:=by simp;omega
  rw [e] at HP
  go_enter Tryz.func49,Tryz.ntmps49
  go_wp2_with (go_at_call 80;refine(HP.out _).mono ?_;rintro e w' ⟨rfl,rfl⟩)
  go_ret
  exact⟨rfl,rfl⟩
 ·have e:(decide (0≤k)&&decide (k<256))=true:=by simp;omega
  rw [e] at HP
  have x0:¬x<0:=by omega
  go_enter Tryz.func49,Tryz.ntmps49
  go_wp2_with (go_at_call 80;refine(HP.out _).mono ?_;rintro e w' ⟨rfl,rfl⟩)
  go_ret
  exact⟨rfl,rfl⟩
theorem JL (M:MM) (k:Nat):(l7 M k).rt=M.rt:=by unfold l7;split<;>rfl
theorem Dc (p:Nat) (M:MM) (n:Int) (k:Nat) (x:Int) (w:World) (h:HM p M n w) (hk:k<256) (x0:0≤x) (x7:x≤7) (n0:0≤n) (n1:n≤256):
  Calls Tryz.prog 49 #[.pointer (some ⟨p,0,none⟩), .int .i64 (k:Int), .int .i64 x] w fun e w'=>e= .returned (.int .i64 0)∧HM p (Um M k x) (Qh M n k x) w'∧nC p w w':=by
 have HP:=κ (nV (k:Int))
 have k0:(0:Int)≤(k:Int):=by omega
 have k1:(k:Int) <256:=by omega
 have e:(decide (0≤(k:Int))&&decide ((k:Int) <256))=true:=by simp;omega
 rw [e] at HP
 have c2:=h.2.1 k hk
 have z2:=h.2.2.2.2.2.1 (65536+k)
 have HH:=κ h
 have xa:¬x<0:=by omega
 have xb:¬7<x:=by omega
 unfold Um Qh
 by_cases hr:M.rt k=x
 ·rw [if_pos hr,if_pos hr]
  rw [hr] at c2
  clear h hr
  go_enter Tryz.func49,Tryz.ntmps49
  go_wp2_with (go_at_call 80;refine(HP.out _).mono ?_;rintro e w' ⟨rfl,rfl⟩)
  go_ret
  exact⟨rfl,HH.out.Ul k hk x,(nC.refl _ _).set _ _⟩
 ·rw [if_neg hr,if_neg hr]
  have hrb:(M.rt k==x)=false:=by rw [beq_eq_false_iff_ne];exact hr
  have HC:=κ (fun w (h:HM p M n w)=>vG p M n k w h hk n0 n1)
  generalize M.rt k=r at c2 hrb
  clear h hr
  go_enter Tryz.func49,Tryz.ntmps49
  go_wp2_with (first
   | (go_at_call 80;refine(HP.out _).mono ?_;rintro e w' ⟨rfl,rfl⟩)
   | (go_at_call 78;refine(HC.out _ HH.out).mono ?_;rintro e w1 ⟨rfl,h1,o1⟩;have d2:=h1.2.1 k hk;have y2:=h1.2.2.2.2.2.1 (65536+k)))
  go_ret
  have h9:=h1.Ul k hk x
  rw [JL] at h9
  exact⟨rfl,h9,o1.set _ _⟩
structure ah (S:Nat→Prop) (w w':World):Prop where
 os:w'.os=w.os
 tape:w'.tape=w.tape
 output:w'.output=w.output
 size:w.heap.size≤w'.heap.size
 block:∀k,k<w.heap.size→¬S k→w'.heap[k]?=w.heap[k]?
theorem ah.refl (S:Nat→Prop) (w:World):ah S w w:=⟨rfl,rfl,rfl,Nat.le_refl _,fun _ _ _=>rfl⟩
theorem ah.trans {S:Nat→Prop} {a b c:World} (h:ah S a b) (k:ah S b c):ah S a c:=
 ⟨k.os.trans h.os,k.tape.trans h.tape,k.output.trans h.output,Nat.le_trans h.size k.size,fun i hi hs=>(k.block i (Nat.lt_of_lt_of_le hi h.size) hs).trans (h.block i hi hs)⟩
theorem ah.mono {S T:Nat→Prop} {a b:World} (h:ah S a b) (rD:∀k,k<a.heap.size→S k→T k):ah T a b:=
 ⟨h.os,h.tape,h.output,h.size,fun i hi hs=>h.block i hi (fun hx=>hs (rD i hi hx))⟩
theorem ah.drew {S:Nat→Prop} {a w:World} (h:ah S a w):ah S a w.drew:=⟨h.os,h.tape,h.output,h.size,h.block⟩
theorem ah.alloc {S:Nat→Prop} {a w:World} (h:ah S a w) (o:Obj):ah S a (w.alloc o):=
 h.trans ⟨rfl,rfl,rfl,by simp,fun k hk _=>Below.heap_alloc _ _ _ hk⟩
theorem ah.setCell {S:Nat→Prop} {a w:World} (h:ah S a w) {q:Addr} (hq:S q.block∨a.heap.size≤q.block) (u:Value):ah S a (w.setCell q u):=
 ⟨h.os,h.tape,h.output,by simpa [World.setCell] using h.size,fun k hk hs=>(Below.heap_setCell _ _ _ _ (by rintro rfl;rcases hq with hq | hq;exact hs hq;omega)).trans (h.block k hk hs)⟩
theorem ah.cell {S:Nat→Prop} {w w':World} (h:ah S w w') {q:Addr} (hq:q.block<w.heap.size) (hs:¬S q.block):w'.cell? q=w.cell? q:=World.cell?_of_block (w:=w) (h.block _ hq hs)
theorem ah.frozen {S:Nat→Prop} {w w':World} (h:ah S w w') {q:Addr} (hq:q.block<w.heap.size) (hs:¬S q.block):w'.frozen? q=w.frozen? q:=World.frozen?_of_block (w:=w) (h.block _ hq hs)
theorem ah.below {S:Nat→Prop} {w w':World} (h:ah S w w') {B:Nat} (hB:B≤w.heap.size) (hs:∀k,k<B→¬S k):Below B w w':=⟨h.os,h.tape,h.output,h.size,fun k hk=>h.block k (by omega) (hs k hk)⟩
theorem ah.ak {S:Nat→Prop} {w w':World} (h:Below w.heap.size w w'):ah S w w':=⟨h.os,h.tape,h.output,h.size,fun k hk _=>h.block k hk⟩
theorem ah.drop {B:Nat} {S:Nat→Prop} {w a b:World} (h:ah S w a) (k:ah (fun i=>B≤i) a b) (hB:w.heap.size≤B):ah S w b:=
 ⟨k.os.trans h.os,k.tape.trans h.tape,k.output.trans h.output,Nat.le_trans h.size k.size,fun i hi hs=>(k.block i (Nat.lt_of_lt_of_le hi h.size) (by omega)).trans (h.block i hi hs)⟩
theorem ah.yu {p:Nat} {w w':World} (h:nC p w w'):ah (fun k=>k=p) w w':=
 have b:=h.2.2 0 (Nat.zero_le _)
 ⟨b.os,b.tape,b.output,by rw [h.1];exact Nat.le_refl _,fun k _ hs=>h.2.1 k hs⟩
theorem HM.upto {p:Nat} {M:MM} {n:Int} {S:Nat→Prop} {w w':World} (h:HM p M n w) (u:ah S w w') (hs:¬S p):HM p M n w':=by
 obtain⟨h1,h2,h3,h4,h5,h6,h7⟩:=h
 have e:∀i,w'.cell? ⟨p,i,none⟩=w.cell? ⟨p,i,none⟩:=fun i=>u.cell h7 hs
 refine⟨fun j hj=> ?_,fun j hj=> ?_,fun j hj=> ?_,fun j hj=> ?_, ?_,fun i=> ?_,Nat.lt_of_lt_of_le h7 u.size⟩
 ·rw [e];exact h1 j hj
 ·rw [e];exact h2 j hj
 ·rw [e];exact h3 j hj
 ·rw [e];exact h4 j hj
 ·rw [e];exact h5
 ·exact(u.frozen (q:=⟨p,i,none⟩) h7 hs).trans (h6 i)
def lY (M:MM) (r x:Int):Bool:=decide (x<65536)&&decide (M.rt (x/256).toNat/r%2=1)
def rE (a:Int) (k:Nat):Int:=(a+k)%4294967296
def aQ (M:MM) (r a:Int) (n:Nat):Option Int:=((List.range n).map (rE a)).find? fun x=> !lY M r x
theorem sN {M:MM} {r a:Int} {n:Nat} (h:∀k,k<n→lY M r (rE a k)=true):aQ M r a n=none:=by
 unfold aQ
 rw [List.find?_eq_none]
 intro x hx
 obtain⟨k,hk,rfl⟩:=List.mem_map.1 hx
 rw [List.mem_range] at hk
 simp [h k hk]
theorem Gx (M:MM) (r a:Int) (n:Nat):aQ M r a (n+1)=(aQ M r a n).or (if lY M r (rE a n) then none else some (rE a n)):=by
 unfold aQ
 rw [List.range_succ,List.map_append,List.find?_append]
 congr 1
 simp only [List.map_cons,List.map_nil,List.find?_cons,List.find?_nil]
 cases lY M r (rE a n) <;>rfl
theorem pX {M:MM} {r a:Int} {n:Nat} (k:Nat) (hk:k<n) (h:∀j,j<k→lY M r (rE a j)=true) (hb:lY M r (rE a k)=false):aQ M r a n=some (rE a k):=by
 induction n with
 | zero=>omega
 | succ n ih=>
  rw [Gx]
  by_cases oQ:k=n
  ·subst oQ
   rw [sN h,hb];rfl
  ·rw [ih (by omega)];rfl
theorem Ac {M:MM} {r a:Int} {n:Nat} (h:aQ M r a n=none) (k:Nat) (hk:k<n):lY M r (rE a k)=true:=by
 unfold aQ at h
 rw [List.find?_eq_none] at h
 have:=h (rE a k) (List.mem_map.2 ⟨k,List.mem_range.2 hk,rfl⟩)
 simpa using this
theorem Df (a:Int) (k:Nat):0≤rE a k∧rE a k<4294967296:=by unfold rE;omega
def bQ (M:MM):Prop:=(∀j,0≤M.fD j∧M.fD j<256)∧(∀j,0≤M.rt j∧M.rt j<8)
theorem and_zero (x r:Int) (h0:0≤x) (h8:x<8) (hr:r=1∨r=2∨r=4):((bits .and .u8 x r:Int)==0)= !decide (x/r%2=1):=by
 have hx:x=0∨x=1∨x=2∨x=3∨x=4∨x=5∨x=6∨x=7:=by omega
 rcases hr with rfl | rfl | rfl<;>rcases hx with rfl | rfl | rfl | rfl | rfl | rfl | rfl | rfl<;>decide
def srV (o:Option Int):Value:=match o with
 | none=> .tuple #[.int .u32 0, .bool false]
 | some x=> .tuple #[.int .u32 x, .bool true]
end Go.Proofs.YtcjcmnnhmajocabGreat.Me
