import Derived.Test.YtcjcmnnhmajocabPmbg
import Derived.Test.YtcjcmnnhmajocabPmbh
set_option linter.unusedVariables false
set_option linter.unusedSimpArgs false
set_option maxRecDepth 100000
set_option maxHeartbeats 16000000
namespace Go.Proofs.Ytcjcmnnhmajocab.Gn
open Go.RowKit Kt Ic Hr Ho Me
theorem Uk {x:Cd} (h1:0≤x.k∧x.k<4294967296) (h2:0≤x.x∧x.x<4294967296):∀u∈iZ x,0≤u∧u<4294967296:=by
 intro u hu
 have hm:u∈ [Cd.sum x,x.k,x.x]:=List.mem_of_mem_take hu
 have hs:0≤Cd.sum x∧Cd.sum x<4294967296:=by unfold Cd.sum;omega
 simp only [List.mem_cons,List.not_mem_nil,or_false] at hm
 rcases hm with rfl | rfl | rfl
 ·exact hs
 ·exact h1
 ·exact h2
theorem YH {xs:List Cd} (h:∀x∈xs,(0≤x.k∧x.k<4294967296)∧(0≤x.x∧x.x<4294967296)):∀j,0≤(dF xs).getD j 0∧(dF xs).getD j 0<4294967296:=by
 intro j
 rw [List.getD_eq_getElem?_getD]
 by_cases hj:j<(dF xs).length
 ·rw [List.getElem?_eq_getElem hj]
  have hm:=List.getElem_mem hj
  unfold dF at hm
  obtain⟨x,hx,hu⟩:=List.mem_flatMap.1 hm
  exact Uk (h x hx).1 (h x hx).2 _ hu
 ·rw [List.getElem?_eq_none (by omega)]
  exact⟨by decide,by decide⟩
structure YI (os:List cZ) (R:Nat) (pc aC:Int) (xs:List Cd):Prop where
 l0:0<xs.length
 h0:∀h:0<xs.length,xs[0]=⟨1,0,0,0,0,aC,pc,0⟩
 hy:∀j,1≤j→∀h:j<xs.length,SX R xs[j]
 ok:∀x∈xs,oL x
 bd:∀j,0≤(dF xs).getD j 0∧(dF xs).getD j 0<4294967296
 len:(dF xs).length≤16*os.length+2
theorem qZ {os:List cZ} {R:Nat} {pc aC bg:Int} (hc:(uh os aC bg).1=0) (h3:3≤R) (hR:R≤16) (HK:∀t,0≤(opAt os t).kn∧(opAt os t).kn<4294967296) (hp:0≤pc∧pc<4294967296):YI os R pc aC (lN os R pc aC).xs:=by
 obtain⟨n0,n1,c0,c1,HC,_⟩:=sU hc
 obtain⟨_,⟨ys,e,h1,h2⟩,_⟩:=vX (R:=R) HC c0 c1 h3 hR n1 HK pc os.length (Nat.le_refl _)
 have e':(lN os R pc aC).xs=⟨1,0,0,0,0,aC,pc,0⟩::ys:=e
 have h2':(dF (lN os R pc aC).xs).length≤(dF [(⟨1,0,0,0,0,aC,pc,0⟩:Cd)]).length+13*os.length:=h2
 rw [e'] at h2'⊢
 have el:(dF [(⟨1,0,0,0,0,aC,pc,0⟩:Cd)]).length=2:=by
  have:(iZ ⟨1,0,0,0,0,aC,pc,0⟩).length=2:=by unfold iZ;rw [show(wd (aF 1)).toNat=2 by decide];rfl
  unfold dF;simp [this]
 refine⟨by simp,fun _=>rfl,fun j hj h=> ?_,fun x hx=> ?_,YH fun x hx=> ?_,by omega⟩
 ·match j,hj,h with
  | j+1,_,h=>exact h1 _ (List.getElem_mem (l:=ys) (n:=j) (by simpa using h))
 ·rcases List.mem_cons.1 hx with rfl | hx
  ·exact BK c0 c1
  ·exact(h1 x hx).ok
 ·rcases List.mem_cons.1 hx with rfl | hx
  ·exact⟨hp,rW⟩
  ·exact⟨(h1 x hx).kb,(h1 x hx).xb⟩
theorem pz.words {B:Nat} {v:Value} {us:List Int} {w:World} (h:pz B v us w) (h0:0<us.length):∃b cap,v= .slice (some ⟨b,0,none⟩) us.length cap∧B≤b∧Sl us (some ⟨b,0,none⟩) cap w:=by
 rcases h.2 with⟨_,hn⟩ | ⟨g,c1,cur,rfl,hg,mD,hle,mX,uX,CJ⟩
 ·have:us.length=0:=hn
  omega
 ·refine⟨g,c1,rfl,hg,hle,mX,fun _=>⟨g,0,rfl,(Array.getElem?_eq_some_iff.1 mD).1,fun j hj=> ?_⟩⟩
  rw [Nat.zero_add,cell_of_row w g j _ _ _ mD,←Array.getElem?_toList]
  have h2:(cur.toList.take (us.length*1))[j]?=(us.map (Value.int .u32))[j]?:=by rw [CJ]
  rw [Nat.mul_one,List.getElem?_take,if_pos hj,List.getElem?_map] at h2
  rw [h2,List.getElem?_eq_getElem hj,List.getD_eq_getElem?_getD,List.getElem?_eq_getElem hj]
  rfl
theorem Jc (os:List cZ) (ao:Option Addr) (cap:Nat) (pc aC bg z:Int) (R:Nat) (w:World) (gy:rQ os ao cap w) (hc:uh os aC bg=(0,z)) (h3:3≤R) (hR:R≤16) (HK:∀t,0≤(opAt os t).kn∧(opAt os t).kn<4294967296) (hp:0≤pc∧pc<4294967296):
  Calls Try.prog 11 #[.agg #[.int .u32 pc, .int .i64 aC, .int .i64 bg, .slice ao os.length cap], .int .i64 R] w fun e w'=>∃b c,e= .returned (.tuple #[.slice (some ⟨b,0,none⟩) (dF (lN os R pc aC).xs).length c, .int .i64 0])∧Sl (dF (lN os R pc aC).xs) (some ⟨b,0,none⟩) c w'∧w.heap.size≤b∧Below w.heap.size w w':=by
 have dZ:(uh os aC bg).1=0:=by rw [hc]
 obtain⟨n0,n1,c0,c1,HC,_⟩:=sU dZ
 have C:=qZ dZ h3 hR HK hp
 obtain⟨kb,ko,rfl,_⟩:=gy.2.2 n0
 refine(Ui os kb ko cap pc aC bg R z w gy hc h3 hR n1 (Oz HC) (BK c0 c1) (fun i hi=>(vX HC c0 c1 h3 hR n1 HK pc i (by omega)).2.2 hi)).mono ?_
 rintro e w' ⟨v,rfl,ow,b⟩
 have hl:0<(dF (lN os R pc aC).xs).length:=by
  have:=(sW C.ok 0 C.l0).2
  omega
 obtain⟨g,c,rfl,hg,sl⟩:=ow.words hl
 exact⟨g,c,rfl,sl,hg,b⟩
end Go.Proofs.Ytcjcmnnhmajocab.Gn
