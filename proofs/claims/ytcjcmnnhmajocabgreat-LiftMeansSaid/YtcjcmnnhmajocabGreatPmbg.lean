import Derived.Lib.ConvBytes
import Derived.Test.YtcjcmnnhmajocabGreatPmbb
set_option linter.unusedVariables false
set_option linter.unusedSimpArgs false
set_option maxRecDepth 100000
set_option maxHeartbeats 16000000
namespace Go.Proofs.YtcjcmnnhmajocabGreat.Gu
open Go.RowKit
structure Fm where
 first:Int
 n:Int
 inn:ByteArray
 Y9:ByteArray
def Fm.cells (f:Fm):List Value:= [.int .i64 f.first, .int .i64 f.n, .string f.inn, .string f.Y9]
def oV:List Fm:= [⟨0,1,{data:= #[]},{data:= #[]}⟩,⟨1,1,{data:= #[]},{data:= #[]}⟩,⟨2,1,{data:= #[]},{data:= #[]}⟩,⟨3,1,{data:= #[]},{data:= #[]}⟩,⟨4,1,{data:= #[]},{data:= #[]}⟩,⟨5,1,{data:= #[]},{data:= #[98]}⟩,⟨6,1,{data:= #[]},{data:= #[115]}⟩,⟨7,1,{data:= #[]},{data:= #[119]}⟩,⟨8,1,{data:= #[]},{data:= #[119]}⟩,⟨9,1,{data:= #[]},{data:= #[101]}⟩,⟨10,1,{data:= #[]},{data:= #[101]}⟩,⟨11,1,{data:= #[]},{data:= #[101,115]}⟩,⟨16,16,{data:= #[79]},{data:= #[115]}⟩,⟨32,16,{data:= #[79]},{data:= #[119]}⟩,⟨48,8,{data:= #[83]},{data:= #[]}⟩,⟨56,8,{data:= #[68]},{data:= #[]}⟩,⟨64,8,{data:= #[68]},{data:= #[119]}⟩,⟨72,8,{data:= #[68]},{data:= #[]}⟩,⟨80,8,{data:= #[68]},{data:= #[]}⟩,⟨88,8,{data:= #[68]},{data:= #[]}⟩,⟨96,8,{data:= #[68]},{data:= #[]}⟩,⟨104,1,{data:= #[]},{data:= #[99]}⟩,⟨105,1,{data:= #[]},{data:= #[112]}⟩,⟨106,1,{data:= #[]},{data:= #[112,115]}⟩,⟨107,1,{data:= #[]},{data:= #[112,115]}⟩,⟨108,1,{data:= #[]},{data:= #[112,115]}⟩,⟨109,1,{data:= #[]},{data:= #[112,115]}⟩,⟨112,16,{data:= #[79]},{data:= #[112]}⟩,⟨128,16,{data:= #[79]},{data:= #[100,119]}⟩,⟨144,16,{data:= #[79]},{data:= #[100,115]}⟩,⟨160,5,{data:= #[79]},{data:= #[112,115]}⟩,⟨165,3,{data:= #[79]},{data:= #[112,115]}⟩]
def lG:Array Value:= #[.int .i64 0, .int .i64 1, .string {data:= #[]}, .string {data:= #[]}, .int .i64 1, .int .i64 1, .string {data:= #[]}, .string {data:= #[]}, .int .i64 2, .int .i64 1, .string {data:= #[]}, .string {data:= #[]}, .int .i64 3, .int .i64 1, .string {data:= #[]}, .string {data:= #[]}, .int .i64 4, .int .i64 1, .string {data:= #[]}, .string {data:= #[]}, .int .i64 5, .int .i64 1, .string {data:= #[]}, .string {data:= #[98]}, .int .i64 6, .int .i64 1, .string {data:= #[]}, .string {data:= #[115]}, .int .i64 7, .int .i64 1, .string {data:= #[]}, .string {data:= #[119]}, .int .i64 8, .int .i64 1, .string {data:= #[]}, .string {data:= #[119]}, .int .i64 9, .int .i64 1, .string {data:= #[]}, .string {data:= #[101]}, .int .i64 10, .int .i64 1, .string {data:= #[]}, .string {data:= #[101]}, .int .i64 11, .int .i64 1, .string {data:= #[]}, .string {data:= #[101,115]}, .int .i64 16, .int .i64 16, .string {data:= #[79]}, .string {data:= #[115]}, .int .i64 32, .int .i64 16, .string {data:= #[79]}, .string {data:= #[119]}, .int .i64 48, .int .i64 8, .string {data:= #[83]}, .string {data:= #[]}, .int .i64 56, .int .i64 8, .string {data:= #[68]}, .string {data:= #[]}, .int .i64 64, .int .i64 8, .string {data:= #[68]}, .string {data:= #[119]}, .int .i64 72, .int .i64 8, .string {data:= #[68]}, .string {data:= #[]}, .int .i64 80, .int .i64 8, .string {data:= #[68]}, .string {data:= #[]}, .int .i64 88, .int .i64 8, .string {data:= #[68]}, .string {data:= #[]}, .int .i64 96, .int .i64 8, .string {data:= #[68]}, .string {data:= #[]}, .int .i64 104, .int .i64 1, .string {data:= #[]}, .string {data:= #[99]}, .int .i64 105, .int .i64 1, .string {data:= #[]}, .string {data:= #[112]}, .int .i64 106, .int .i64 1, .string {data:= #[]}, .string {data:= #[112,115]}, .int .i64 107, .int .i64 1, .string {data:= #[]}, .string {data:= #[112,115]}, .int .i64 108, .int .i64 1, .string {data:= #[]}, .string {data:= #[112,115]}, .int .i64 109, .int .i64 1, .string {data:= #[]}, .string {data:= #[112,115]}, .int .i64 112, .int .i64 16, .string {data:= #[79]}, .string {data:= #[112]}, .int .i64 128, .int .i64 16, .string {data:= #[79]}, .string {data:= #[100,119]}, .int .i64 144, .int .i64 16, .string {data:= #[79]}, .string {data:= #[100,115]}, .int .i64 160, .int .i64 5, .string {data:= #[79]}, .string {data:= #[112,115]}, .int .i64 165, .int .i64 3, .string {data:= #[79]}, .string {data:= #[112,115]}]
theorem SS:lG.toList=oV.flatMap Fm.cells:=by kernel_rfl
theorem tK (w:World):Calls Tryz.prog 99 #[] w fun e w'=>e= .returned (.slice (some ⟨w.heap.size,0,none⟩) 32 32)∧w.alloc (.cells lG 180)=w':=by
 unfold lG
 go_enter Tryz.func99,Tryz.ntmps99
 go_wp2
 go_ret
 exact⟨rfl,rfl⟩
def fndFrom (x:Int):List Fm→Int→Int
 | [],_=> -1
 | f::l,i=>if f.first≤x∧x<f.first+f.n then i else fndFrom x l (i+1)
theorem jw (j r:Nat) (hr:r<4):lG[j*4+r]?=(oV[j]?).bind fun f=>f.cells[r]?:=by
 have h:∀ (l:List Fm) (j:Nat),(l.flatMap Fm.cells)[j*4+r]?=(l[j]?).bind fun f=>f.cells[r]?:=by
  intro l
  induction l with
  | nil=>intro j;simp
  | cons f l ih=>
   intro j
   have h4:f.cells.length=4:=rfl
   rw [List.flatMap_cons]
   cases j with
   | zero=>rw [Nat.zero_mul,Nat.zero_add,List.getElem?_append_left (by omega)];simp
   | succ j=>rw [List.getElem?_append_right (by omega),h4,show(j+1)*4+r-4=j*4+r by omega,ih j];simp
 rw [←Array.getElem?_toList,SS]
 exact h oV j
theorem uY:oV.length=32:=rfl
theorem Nq:∀f∈oV,0≤f.first∧f.first<256∧0<f.n∧f.n≤16:=by decide+kernel
theorem sF (x:Int) (w:World):Calls Tryz.prog 137 #[.int .i64 x] w fun e w'=>e= .returned (.int .i64 (fndFrom x oV 0))∧Below w.heap.size w w':=by
 go_enter Tryz.func137,Tryz.ntmps137
 go_wp2_with (go_at_call 99;refine(tK _).mono ?_;rintro e w1 ⟨rfl,rfl⟩)
 have hB:=heap_alloc_new w (.cells lG 180)
 have uH:Below w.heap.size w (w.alloc (.cells lG 180)):=(Below.refl _ _).alloc (Nat.le_refl _) _
 have dh:w.heap.size<(w.alloc (.cells lG 180)).heap.size:=by simp
 generalize w.alloc (.cells lG 180)=wA at hB uH dh⊢
 generalize hg:w.heap.size=g at hB uH dh⊢
 have HG:=κ hg
 have HB:=κ hB
 clear hg hB
 go_loopg [7] 32 (fun k i wr=>∃j:Nat,k=32-j∧j≤32∧i= .int .i64 j∧Hid (fndFrom x oV 0=fndFrom x (oV.drop j) j)∧Below wA.heap.size wA wr)
 case atStart=>exact⟨0,rfl,by omega,rfl,rfl,Below.refl _ _⟩
 case round=>
  obtain⟨j,hk,hj,rfl,Ce,hb⟩:=hrel
  have HK:=κ hk
  clear hk
  have zy:wr.heap[g]?=some (.cells lG 180 (0,0)):=(hb.block g dh).trans HB.out
  have hgr:g<wr.heap.size:=(Array.getElem?_eq_some_iff.1 zy).1
  by_cases UH:j<32
  ·obtain⟨f,hf⟩:∃f,oV[j]?=some f:=⟨oV[j]'(by rw [uY];exact UH),List.getElem?_eq_getElem _⟩
   have hfo:=Nq f (List.mem_of_getElem? hf)
   have UJ:oV.drop j=f::oV.drop (j+1):=by
    have hjl:j<oV.length:=by rw [uY];exact UH
    rw [List.drop_eq_getElem_cons hjl]
    have:=(List.getElem?_eq_some_iff.1 hf).2
    rw [this]
   rw [UJ,fndFrom] at Ce
   obtain⟨f0,fn,fi,fb⟩:=f
   have c0:wr.cell? ⟨g,j*4,none⟩=some (.int .i64 f0):=by rw [cell_of_row wr g _ _ _ _ zy];have:=jw j 0 (by omega);rw [hf] at this;exact this
   have c1:wr.cell? ⟨g,j*4+1,none⟩=some (.int .i64 fn):=by rw [cell_of_row wr g _ _ _ _ zy,jw j 1 (by omega),hf];rfl
   have c2:wr.cell? ⟨g,j*4+2,none⟩=some (.string fi):=by rw [cell_of_row wr g _ _ _ _ zy,jw j 2 (by omega),hf];rfl
   have c3:wr.cell? ⟨g,j*4+3,none⟩=some (.string fb):=by rw [cell_of_row wr g _ _ _ _ zy,jw j 3 (by omega),hf];rfl
   dsimp only at hfo Ce
   obtain⟨o1,o2,o3,o4⟩:=hfo
   have pF:(j:Int) <32:=by omega
   clear zy hf UJ
   by_cases hin:f0≤x∧x<f0+fn
   ·rw [if_pos hin] at Ce
    obtain⟨i1,i2⟩:=hin
    go_wp2
    go_ret
    exact⟨by rw [Ce.out];rfl,by rw [HG.out];exact uH.trans ((hb.mono (by omega)).alloc (by omega) _)⟩
   ·rw [if_neg hin] at Ce
    by_cases i1:f0≤x
    ·have i2:¬x<f0+fn:=by omega
     go_wp2
     go_roundg (32-(j+1))
     case measure=>
      have:=HK.out
      omega
     case rel=>exact⟨j+1,rfl,by omega,by simp,Ce,hb.alloc hb.size _⟩
    ·go_wp2
     go_roundg (32-(j+1))
     case measure=>
      have:=HK.out
      omega
     case rel=>exact⟨j+1,rfl,by omega,by simp,Ce,hb.alloc hb.size _⟩
  ·obtain rfl:j=32:=by omega
   go_wp2
   go_ret
   exact⟨by rw [Ce.out];rfl,by rw [HG.out];exact uH.trans (hb.mono (by omega))⟩
theorem uq (w:World) (e:TypeId) (s:ByteArray):Below w.heap.size w (Lib.bytesWorld w e s):=
 ⟨rfl,rfl,rfl,by rw [Lib.bytesWorld_size];omega,fun j hj=>Lib.bytesWorld_at_old w e s j hj⟩
def wsz:List UInt8→Int
 | []=>0
 | c::l=>(if(c.toNat:Int)==119 then 4 else 1)+wsz l
theorem Bg (l:List UInt8) (j:Nat) (hj:j<l.length):wsz (l.take (j+1))=wsz (l.take j)+(if((l.getD j 0).toNat:Int)==119 then 4 else 1):=by
 induction l generalizing j with
 | nil=>simp at hj
 | cons c l ih=>
  cases j with
  | zero=>simp [wsz]
  | succ j=>
   simp only [List.length_cons] at hj
   rw [List.take_succ_cons,List.take_succ_cons,wsz,wsz,ih j (by omega)]
   simp only [List.getD_cons_succ]
   omega
theorem qp (l:List UInt8):0≤wsz l∧wsz l≤4*l.length:=by
 induction l with
 | nil=>simp [wsz]
 | cons c l ih=>
  rw [wsz,List.length_cons]
  split<;>omega
theorem FU:∀f∈oV,f.Y9.size≤2:=by decide+kernel
theorem wO (x:Int) (j:Nat) (f0 fn:Int) (fi s:ByteArray) (hj:j<32) (hf:oV[j]?=some ⟨f0,fn,fi,s⟩) (hx:fndFrom x oV 0=(j:Int)) (w:World):
  Calls Tryz.prog 88 #[.int .i64 x] w fun e w'=>e= .returned (.int .i64 (1+wsz s.data.toList))∧Below w.heap.size w w':=by
 have jW:s.size≤2:=FU _ (List.mem_of_getElem? hf)
 have hlen:s.data.toList.length=s.size:=by simp
 generalize hL:s.data.toList=l at hlen⊢
 have HL:=κ hL
 clear hL
 have HF:=κ (sF x)
 have H2:=κ hf
 rw [hx] at HF
 have kc:∀w:World,(convert 9 34 (.string s)).run Tryz.prog w= .ok (.slice (some ⟨w.heap.size,0,none⟩) s.size (grownCap w s.size 0 5)) (Lib.bytesWorld w 5 s):=fun w=>Lib.run_convert_string_bytes w 9 34 5 s Tryz.underlying9 Tryz.underlying34 Tryz.underlying5
 have hj0:(0:Int)≤(j:Int):=by omega
 have Zw:(j:Int) <32:=by omega
 clear hf hx
 go_enter Tryz.func88,Tryz.ntmps88
 go_wp2_with (first
  | (go_at_call 137;refine(HF.out _).mono ?_;rintro e w1 ⟨rfl,dH⟩)
  | (go_at_call 99;refine(tK _).mono ?_;rintro e w2 ⟨rfl,rfl⟩;have hB:=heap_alloc_new w1 (.cells lG 180);have c3:(w1.alloc (.cells lG 180)).cell? ⟨w1.heap.size,j*4+3,none⟩=some (.string s):=by rw [cell_of_row _ _ _ _ _ _ hB,jw j 3 (by omega),H2.out];rfl))
 have iE:Below w1.heap.size w1 (Lib.bytesWorld (w1.alloc (.cells lG 180)) 5 s):=((Below.refl _ _).alloc (Nat.le_refl _) _).trans ((uq _ _ _).mono (by simp))
 have hcell:=fun i hi=>Lib.bytesWorld_cell (w1.alloc (.cells lG 180)) 5 s i hi
 have Xz:=Lib.bytesWorld_size (w1.alloc (.cells lG 180)) 5 s
 simp only [World.size_alloc] at hcell Xz
 simp only [HL.out] at hcell
 have HC:=κ hcell
 clear hcell kc c3 hB
 generalize Lib.bytesWorld (w1.alloc (.cells lG 180)) 5 s=wB at HC iE Xz⊢
 generalize grownCap (w1.alloc (.cells lG 180)) s.size 0 5=cp
 generalize s.size=z at HC hlen jW⊢
 go_loopg [4,18] z (fun k n i wr=>∃q:Nat,k=z-q∧q≤z∧i= .int .i64 q∧n= .int .i64 (1+wsz (l.take q))∧wB=wr)
 case atStart=>exact⟨0,rfl,Nat.zero_le _,rfl,by simp [wsz],rfl⟩
 case round=>
  obtain⟨q,hk,hq,rfl,rfl,rfl⟩:=hrel
  have HK:=κ hk
  have hr:=qp (l.take q)
  have hl:(l.take q).length≤2:=by rw [List.length_take];omega
  clear hk
  by_cases dh:q<z
  ·have sG:=Bg l q (by omega)
   have c0:=HC.out q dh
   generalize wsz (l.take q)=S at hr sG
   generalize((l.getD q 0).toNat:Int)=c at c0 sG
   have HS:=κ sG
   have pF:(q:Int) <(z:Int):=by omega
   obtain⟨r0,r1⟩:=hr
   clear sG
   by_cases hc:c=119
   ·subst hc
    go_wp2
    go_roundg (z-(q+1))
    case measure=>
     have:=HK.out
     omega
    case rel=>exact⟨q+1,rfl,by omega,by simp,by rw [HS.out];simp;omega,rfl⟩
   ·have yC:(c==119)=false:=by rw [beq_eq_false_iff_ne];exact hc
    go_wp2
    go_roundg (z-(q+1))
    case measure=>
     have:=HK.out
     omega
    case rel=>exact⟨q+1,rfl,by omega,by simp,by rw [HS.out,yC];simp;omega,rfl⟩
  ·obtain rfl:q=z:=by omega
   have ht:l.take q=l:=List.take_of_length_le (by omega)
   rw [ht]
   go_wp2
   go_ret
   exact⟨rfl,dH.trans (iE.mono dH.size)⟩
theorem wP (x:Int):∀ (l:List Fm) (i:Int),fndFrom x l i= -1∨∃ (j:Nat) (f:Fm),l[j]?=some f∧fndFrom x l i=i+j∧f.first≤x∧x<f.first+f.n
 | [],i=> .inl rfl
 | f::l,i=>by
  by_cases h:f.first≤x∧x<f.first+f.n
  ·exact .inr ⟨0,f,rfl,by simp [fndFrom,h],h.1,h.2⟩
  ·rw [fndFrom,if_neg h]
   rcases wP x l (i+1) with h1 | ⟨j,g,h1,h2,h3⟩
   ·exact .inl h1
   ·exact .inr ⟨j+1,g,by simpa using h1,by rw [h2];push_cast;omega,h3⟩
def SV (x:Int):Int:=if fndFrom x oV 0<0 then 0 else match oV[(fndFrom x oV 0).toNat]? with
 | some f=>1+wsz f.Y9.data.toList
 | none=>0
theorem Eh (x:Int) (hx:fndFrom x oV 0= -1) (w:World):Calls Tryz.prog 88 #[.int .i64 x] w fun e w'=>e= .returned (.int .i64 0)∧Below w.heap.size w w':=by
 have HF:=κ (sF x)
 rw [hx] at HF
 clear hx
 go_enter Tryz.func88,Tryz.ntmps88
 go_wp2_with (go_at_call 137;refine(HF.out _).mono ?_;rintro e w1 ⟨rfl,dH⟩)
 go_ret
 exact⟨rfl,dH⟩
theorem tN (x:Int) (w:World):Calls Tryz.prog 88 #[.int .i64 x] w fun e w'=>e= .returned (.int .i64 (SV x))∧Below w.heap.size w w':=by
 rcases wP x oV 0 with h | ⟨j,f,h1,h2,_,_⟩
 ·rw [show SV x=0 by unfold SV;rw [h];rfl]
  exact Eh x h w
 ·rw [Int.zero_add] at h2
  have hj:j<32:=by
   have:=(List.getElem?_eq_some_iff.1 h1).1
   rwa [uY] at this
  rw [show SV x=1+wsz f.Y9.data.toList by unfold SV;rw [h2,if_neg (by omega),Int.toNat_natCast,h1]]
  exact wO x j f.first f.n f.inn f.Y9 hj h1 h2 w
theorem XC:∀n:Fin 256,SV (n.val:Int)=shSize (rowOf (n.val:Int)).sh:=by decide+kernel
theorem wQ (b:Int) (h1:0≤b) (h2:b<256):SV b=shSize (rowOf b).sh:=by
 obtain⟨n,rfl⟩:=Int.eq_ofNat_of_zero_le h1
 exact XC ⟨n,by omega⟩
end Go.Proofs.YtcjcmnnhmajocabGreat.Gu
