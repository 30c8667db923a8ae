import Derived.Deep.DeepCutAuto
import Derived.Test.YtcjcmnnhmajocabPmav
import Derived.Test.YtcjcmnnhmajocabPmax
import Derived.Test.YtcjcmnnhmajocabPmay
set_option linter.unusedVariables false
set_option linter.unusedSimpArgs false
set_option maxRecDepth 100000
set_option maxHeartbeats 16000000
namespace Go.Proofs.Ytcjcmnnhmajocab.Ic
open Go.RowKit
theorem qV {w:World} {o:Obj} {g j:Nat} (h:g<w.heap.size):(w.alloc o).cell? ⟨g,j,none⟩=w.cell? ⟨g,j,none⟩:=World.cell?_of_block (a:=⟨g,j,none⟩) (Below.heap_alloc w o g h)
theorem nY (w:World) (X:Array Value) (t:TypeId) (j:Nat):(w.alloc (.cells X t)).cell? ⟨w.heap.size,j,none⟩=X[j]?:=cell_of_row _ _ _ _ _ _ (heap_alloc_new w _)
theorem three {w w1:World} {X Y Z:Array Value} {t u v:TypeId} (hb:Below ((w.alloc (.cells X t)).alloc (.cells Y u)).heap.size ((w.alloc (.cells X t)).alloc (.cells Y u)) w1):
  (∀j,(w1.alloc (.cells Z v)).cell? ⟨w.heap.size,j,none⟩=X[j]?)∧(∀j,(w1.alloc (.cells Z v)).cell? ⟨w.heap.size+1,j,none⟩=Y[j]?)∧(∀j,(w1.alloc (.cells Z v)).cell? ⟨w1.heap.size,j,none⟩=Z[j]?)∧
   Below w.heap.size w (w1.alloc (.cells Z v))∧w.heap.size+2≤w1.heap.size:=by
 have hs:w.heap.size+2≤w1.heap.size:=by have:=hb.size;simp at this;omega
 refine⟨fun j=> ?_,fun j=> ?_,fun j=>nY _ _ _ _, ?_,hs⟩
 ·rw [qV (by omega),hb.cell (p:=⟨w.heap.size,j,none⟩) (by simp;omega),qV (by simp),nY]
 ·rw [qV (by omega),hb.cell (p:=⟨w.heap.size+1,j,none⟩) (by simp)]
  exact(show(w.alloc (.cells X t)).heap.size=w.heap.size+1 by simp)▸nY (w.alloc (.cells X t)) Y u j
 ·exact((((Below.refl _ _).alloc (Nat.le_refl _) _).alloc (by simp) _).trans (hb.mono (by simp;omega))).alloc (by omega) _
def e2 (ok:Bool) (s K W:Int):Bool:= !ok || (decide (W<0) || (decide (max s 1≤W) || ((K==14 || K==13)&&W==0)))
def e4 (k n:Bool) (aC Kn N:Int):Bool:=(!k&&Kn !=0) || ((!n&&N !=0) || (decide (N<0) || decide (aC<N)))
def e6 (a b c g:Bool) (A B C:Int):Bool:=(!a&&A !=0) || ((!b&&(!g&&B !=0)) || (!c&&C !=0))
def e8 (g:Bool) (B:Int):Bool:=g&&(decide (B<0) || decide (4294967295<B))
def lK (a b c gA gB gC:Bool):Bool:=(a&& !gA) || ((b&& !gB) || (c&& !gC))
def jS (f more:Bool):Bool:=f&&more
def Eu (x2 x4 x6 x8 uO yK:Bool):Int:=if x2 then 2 else if x4 then 3 else if x6 then 3 else if x8 then 3 else if uO then 6 else if yK then 7 else 0
theorem bc {B:Nat} {w w1:World} (hb:Below B w w1):∀b o,b<B→w1.cell? ⟨b,o,none⟩=w.cell? ⟨b,o,none⟩:=fun b o h=>hb.cell (p:=⟨b,o,none⟩) h
theorem yL (os:List cZ) (ao:Option Addr) (cap:Nat) (pc aC bg:Int) (i:Nat) (K W A B C Kn N:Int) (w:World) (gy:rQ os ao cap w) (hi:i<os.length)
  (s:Int) (a b c k n g f ok:Bool) (ZE:0≤s) (pV:s<100)
  (H:∀w:World,Calls Try.prog 157 #[.int .i64 K] w fun e w'=>e= .returned (.tuple #[.agg #[.int .i64 s, .bool a, .bool b, .bool c, .bool k, .bool n, .bool g, .bool f], .bool ok])∧Below w.heap.size w w')
  (x2 x4 x6 x8 uO yK:Bool) (E2:Hid (e2 ok s K W=x2)) (E4:Hid (e4 k n aC Kn N=x4)) (E6:Hid (e6 a b c g A B C=x6)) (E8:Hid (e8 g B=x8))
  (ZF:Hid (lK a b c (nI os i A) (nI os i B) (nI os i C)=uO)) (E12:Hid (jS f (decide ((i:Int) <(os.length:Int)-1))=yK)):
  Calls Try.prog 91 #[.agg #[.int .u32 pc, .int .i64 aC, .int .i64 bg, .slice ao os.length cap], .int .i64 i, .agg #[.int .i64 K, .int .i64 W, .int .i64 A, .int .i64 B, .int .i64 C, .int .u32 Kn, .int .i64 N]] w fun e w'=>e= .returned (.int .i64 (Eu x2 x4 x6 x8 uO yK))∧Below w.heap.size w w':=by
 have HH:=κ H
 clear H
 have hL:os.length≤9223372036854775807:=by have:=gy.1;have h2:=gy.2.1;unfold maxLen at h2;omega
 have HO:=κ gy
 clear gy
 go_enter Try.func91,Try.ntmps91
 go_upto_region 2 with(go_at_call 157;refine(HH.out _).mono ?_;rintro e w1 ⟨rfl,aQ⟩)
 obtain⟨d3,d5,d7,F8,hz⟩:=three (Z:= #[.int .i64 s, .bool a, .bool b, .bool c, .bool k, .bool n, .bool g, .bool f]) (v:=239) aQ
 have uX:(w1.alloc (.cells #[.int .i64 s, .bool a, .bool b, .bool c, .bool k, .bool n, .bool g, .bool f] 239)).heap.size=w1.heap.size+1:=by simp
 generalize w1.alloc (.cells #[.int .i64 s, .bool a, .bool b, .bool c, .bool k, .bool n, .bool g, .bool f] 239)=wA at d3 d5 d7 F8 uX⊢
 generalize w1.heap.size=r7 at d7 hz uX⊢
 have HOA:=κ (HO.out.keep F8)
 generalize h3:w.heap.size=r3 at d3 d5 F8 hz⊢
 clear aQ HH
 have H3:=κ h3
 clear h3
 have l3:r3<wA.heap.size:=by omega
 have l5:r3+1<wA.heap.size:=by omega
 have l7:r7<wA.heap.size:=by omega
 clear uX hz
 have b1:=d3 1
 have b3:=d3 3
 have bb0:=d3 0
 have bb2:=d3 2
 have o0:=d5 0
 have o1:=d5 1
 have o2:=d5 2
 have o3:=d5 3
 have o4:=d5 4
 have o5:=d5 5
 have o6:=d5 6
 have q0:=d7 0
 have q1:=d7 1
 have q2:=d7 2
 have q3:=d7 3
 have q4:=d7 4
 have q5:=d7 5
 have q6:=d7 6
 have q7:=d7 7
 clear d3 d5 d7
 simp only [List.getElem?_toArray,List.getElem?_cons_zero,List.getElem?_cons_succ] at b1 b3 bb0 bb2 o0 o1 o2 o3 o4 o5 o6 q0 q1 q2 q3 q4 q5 q6 q7
 go_cut [2,8,15] from 9 to 45 (fun s2 s8 s15 wx=>s15= .bool x2∧wA=wx)
 case first=>
  go_wp2
  all_goals go_meet
  all_goals refine⟨congrArg Value.bool ?_,rfl⟩
  all_goals rw [←E2.out]
  all_goals simp [e2, *]
  all_goals first | omega | (rw [Bool.eq_iff_iff];simp [*] <;>omega) | (rw [Bool.eq_iff_iff];simp<;>omega)
 obtain⟨rfl,rfl⟩:=hcut
 cases x2
 case true=>
  go_wp2
  go_ret
  exact⟨rfl,by rw [H3.out];exact F8⟩
 go_upto_region 4 with fail
 go_cut [46] from 47 to 76 (fun s46 wx=>s46= .bool x4∧wA=wx)
 case first=>
  go_wp2
  all_goals go_meet
  all_goals refine⟨congrArg Value.bool ?_,rfl⟩
  all_goals rw [←E4.out]
  all_goals simp [e4, *]
  all_goals first | omega | (rw [Bool.eq_iff_iff];simp [*] <;>omega) | (rw [Bool.eq_iff_iff];simp<;>omega)
 obtain⟨rfl,rfl⟩:=hcut
 cases x4
 case true=>
  go_wp2
  go_ret
  exact⟨rfl,by rw [H3.out];exact F8⟩
 go_upto_region 6 with fail
 go_cut [77] from 78 to 110 (fun s77 wx=>s77= .bool x6∧wA=wx)
 case first=>
  go_wp2
  all_goals go_meet
  all_goals refine⟨congrArg Value.bool ?_,rfl⟩
  all_goals rw [←E6.out]
  all_goals simp [e6, *]
  all_goals first | omega | (rw [Bool.eq_iff_iff];simp [*] <;>omega) | (rw [Bool.eq_iff_iff];simp<;>omega)
 obtain⟨rfl,rfl⟩:=hcut
 cases x6
 case true=>
  go_wp2
  go_ret
  exact⟨rfl,by rw [H3.out];exact F8⟩
 go_upto_region 8 with fail
 go_cut [111] from 112 to 123 (fun ad5 wx=>ad5= .bool x8∧wA=wx)
 case first=>
  go_wp2
  all_goals go_meet
  all_goals refine⟨congrArg Value.bool ?_,rfl⟩
  all_goals rw [←E8.out]
  all_goals simp [e8, *]
  all_goals first | omega | (rw [Bool.eq_iff_iff];simp [*] <;>omega) | (rw [Bool.eq_iff_iff];simp<;>omega)
 obtain⟨rfl,rfl⟩:=hcut
 cases x8
 case true=>
  go_wp2
  go_ret
  exact⟨rfl,by rw [H3.out];exact F8⟩
 go_upto_region 10 with fail
 have hoA:=HOA.out
 have hr:=Below.refl wA.heap.size wA
 have hii:i≤os.length:=by omega
 go_cut [124] from 125 to 158 (fun ad6 wx=>ad6= .bool uO∧Below wA.heap.size wA wx)
 case first=>
  go_wp2_with (go_at_call 158;refine(G9 os ao cap pc aC bg i _ _ (by assumption) hii).mono ?_;rintro e w2 ⟨rfl,aj⟩;have ZG:rQ os ao cap w2:=rQ.keep (by assumption) aj;have ak:Below wA.heap.size wA w2:=Kt.chain (by assumption) aj;have aK:=bc ak)
  all_goals go_meet
  all_goals refine⟨congrArg Value.bool ?_,by assumption⟩
  all_goals rw [←ZF.out]
  all_goals simp [lK, *]
 obtain⟨rfl,xW⟩:=hcut
 cases uO
 case true=>
  go_wp2
  go_ret
  exact⟨rfl,by rw [H3.out];exact F8.trans (xW.mono (by omega))⟩
 have hbF:=F8.trans (xW.mono (by omega))
 clear hoA hr HOA
 rw [←bc xW _ _ l3] at b3
 rw [←bc xW _ _ l7] at q7
 clear xW b1 bb0 bb2 o0 o1 o2 o3 o4 o5 o6 q0 q1 q2 q3 q4 q5 q6
 go_upto_region 12 with fail
 go_cut [159] from 160 to 169 (fun ad7 wx=>ad7= .bool yK∧wc=wx)
 case first=>
  go_wp2
  all_goals go_meet
  all_goals refine⟨congrArg Value.bool ?_,rfl⟩
  all_goals rw [←E12.out]
  all_goals simp [jS, *]
  all_goals first | omega | (rw [Bool.eq_iff_iff];simp [*] <;>omega) | (rw [Bool.eq_iff_iff];simp<;>omega)
 obtain⟨rfl,rfl⟩:=hcut
 cases yK
 case true=>
  go_wp2
  go_ret
  exact⟨rfl,by rw [H3.out];exact hbF⟩
 case false=>
  go_wp2
  go_ret
  exact⟨rfl,by rw [H3.out];exact hbF⟩
def rS (k:Int):Int:=match k with
 | 1=>0
 | 2=>12
 | 3=>12
 | 4=>16
 | 5=>7
 | 6=>0
 | 7=>13
 | 8=>16
 | 9=>5
 | 10=>3
 | 11=>0
 | 12=>0
 | 13=>8
 | 14=>8
 | 15=>0
 | 16=>0
 | 17=>0
 | _=>0
def nF (k:Int):Int:=match k with
 | 1=>0
 | 2=>0
 | 3=>0
 | 4=>0
 | 5=>0
 | 6=>0
 | 7=>0
 | 8=>0
 | 9=>0
 | 10=>0
 | 11=>0
 | 12=>0
 | 13=>1
 | 14=>1
 | 15=>0
 | 16=>0
 | 17=>0
 | _=>0
def nS (k:Int):Int:=match k with
 | 1=>1
 | 2=>12
 | 3=>12
 | 4=>16
 | 5=>7
 | 6=>1
 | 7=>13
 | 8=>16
 | 9=>5
 | 10=>3
 | 11=>1
 | 12=>1
 | 13=>7
 | 14=>7
 | 15=>1
 | 16=>1
 | 17=>1
 | _=>0
def nT (k:Int):ByteArray:=match k with
 | 1=>{data:= #[107]}
 | 2=>{data:= #[]}
 | 3=>{data:= #[97]}
 | 4=>{data:= #[97,98]}
 | 5=>{data:= #[97]}
 | 6=>{data:= #[97,98,99]}
 | 7=>{data:= #[97,98,99]}
 | 8=>{data:= #[97]}
 | 9=>{data:= #[97,107,110]}
 | 10=>{data:= #[97,98,107,110]}
 | 11=>{data:= #[107,110]}
 | 12=>{data:= #[97,107,110]}
 | 13=>{data:= #[97,107,110]}
 | 14=>{data:= #[103,107,110]}
 | 15=>{data:= #[107,110]}
 | 16=>{data:= #[97,110]}
 | 17=>{data:= #[]}
 | _=>{data:= #[]}
def rA (k:Int):Bool:=match k with
 | 1=>false
 | 2=>false
 | 3=>true
 | 4=>true
 | 5=>true
 | 6=>true
 | 7=>true
 | 8=>true
 | 9=>true
 | 10=>true
 | 11=>false
 | 12=>true
 | 13=>true
 | 14=>false
 | 15=>false
 | 16=>true
 | 17=>false
 | _=>false
def rB (k:Int):Bool:=match k with
 | 1=>false
 | 2=>false
 | 3=>false
 | 4=>true
 | 5=>false
 | 6=>true
 | 7=>true
 | 8=>false
 | 9=>false
 | 10=>true
 | 11=>false
 | 12=>false
 | 13=>false
 | 14=>false
 | 15=>false
 | 16=>false
 | 17=>false
 | _=>false
def rC (k:Int):Bool:=match k with
 | 1=>false
 | 2=>false
 | 3=>false
 | 4=>false
 | 5=>false
 | 6=>true
 | 7=>true
 | 8=>false
 | 9=>false
 | 10=>false
 | 11=>false
 | 12=>false
 | 13=>false
 | 14=>false
 | 15=>false
 | 16=>false
 | 17=>false
 | _=>false
def rK (k:Int):Bool:=match k with
 | 1=>true
 | 2=>false
 | 3=>false
 | 4=>false
 | 5=>false
 | 6=>false
 | 7=>false
 | 8=>false
 | 9=>true
 | 10=>true
 | 11=>true
 | 12=>true
 | 13=>true
 | 14=>true
 | 15=>true
 | 16=>false
 | 17=>false
 | _=>false
def rN (k:Int):Bool:=match k with
 | 1=>false
 | 2=>false
 | 3=>false
 | 4=>false
 | 5=>false
 | 6=>false
 | 7=>false
 | 8=>false
 | 9=>true
 | 10=>true
 | 11=>true
 | 12=>true
 | 13=>true
 | 14=>true
 | 15=>true
 | 16=>true
 | 17=>false
 | _=>false
def rG (k:Int):Bool:=match k with
 | 1=>false
 | 2=>false
 | 3=>false
 | 4=>false
 | 5=>false
 | 6=>false
 | 7=>false
 | 8=>false
 | 9=>false
 | 10=>false
 | 11=>false
 | 12=>false
 | 13=>false
 | 14=>true
 | 15=>false
 | 16=>false
 | 17=>false
 | _=>false
def rF (k:Int):Bool:=match k with
 | 1=>false
 | 2=>false
 | 3=>false
 | 4=>false
 | 5=>false
 | 6=>false
 | 7=>false
 | 8=>false
 | 9=>false
 | 10=>false
 | 11=>false
 | 12=>false
 | 13=>false
 | 14=>true
 | 15=>true
 | 16=>true
 | 17=>false
 | _=>false
def rO (k:Int):Bool:=match k with
 | 1=>true
 | 2=>true
 | 3=>true
 | 4=>true
 | 5=>true
 | 6=>true
 | 7=>true
 | 8=>true
 | 9=>true
 | 10=>true
 | 11=>true
 | 12=>true
 | 13=>true
 | 14=>true
 | 15=>true
 | 16=>true
 | 17=>true
 | _=>false
theorem kinds (k:Int):k<1∨17<k∨(k=1∨k=2∨k=3∨k=4∨k=5∨k=6∨k=7∨k=8∨k=9∨k=10∨k=11∨k=12∨k=13∨k=14∨k=15∨k=16∨k=17):=by omega
theorem N8 (k:Int):rF k=fin k:=by
 rcases kinds k with h | h | h
 ·rw [show fin k=false from decide_eq_false (by omega)]
  unfold rF
  split<;>first | rfl | omega
 ·rw [show fin k=false from decide_eq_false (by omega)]
  unfold rF
  split<;>first | rfl | omega
 ·rcases h with rfl | rfl | rfl | rfl | rfl | rfl | rfl | rfl | rfl | rfl | rfl | rfl | rfl | rfl | rfl | rfl | rfl<;>rfl
theorem N9 {k:Int} (h:k<1∨17<k):rS k=0:=by
 unfold rS
 split<;>first | rfl | omega
theorem iV {k:Int} (h:k<1∨17<k):nF k=0:=by
 unfold nF
 split<;>first | rfl | omega
theorem iW {k:Int} (h:k<1∨17<k):nS k=0:=by
 unfold nS
 split<;>first | rfl | omega
theorem iY {k:Int} (h:k<1∨17<k):nT k={data:= #[]}:=by
 unfold nT
 split<;>first | rfl | omega
theorem sG {k:Int} (h:k<1∨17<k):rA k=false:=by
 unfold rA
 split<;>first | rfl | omega
theorem sH {k:Int} (h:k<1∨17<k):rB k=false:=by
 unfold rB
 split<;>first | rfl | omega
theorem sJ {k:Int} (h:k<1∨17<k):rC k=false:=by
 unfold rC
 split<;>first | rfl | omega
theorem sK {k:Int} (h:k<1∨17<k):rK k=false:=by
 unfold rK
 split<;>first | rfl | omega
theorem sN {k:Int} (h:k<1∨17<k):rN k=false:=by
 unfold rN
 split<;>first | rfl | omega
theorem sO {k:Int} (h:k<1∨17<k):rG k=false:=by
 unfold rG
 split<;>first | rfl | omega
theorem Oa {k:Int} (h:k<1∨17<k):rF k=false:=by
 unfold rF
 split<;>first | rfl | omega
theorem sQ {k:Int} (h:k<1∨17<k):rO k=false:=by
 unfold rO
 split<;>first | rfl | omega
theorem vS (k:Int) (w:World):Calls Try.prog 157 #[.int .i64 k] w fun e w'=>e= .returned (.tuple #[.agg #[.int .i64 (rS k), .bool (rA k), .bool (rB k), .bool (rC k), .bool (rK k), .bool (rN k), .bool (rG k), .bool (rF k)], .bool (rO k)])∧Below w.heap.size w w':=by
 rcases kinds k with h | h | h
 ·rw [N9 (.inl h),sG (.inl h),sH (.inl h),sJ (.inl h),sK (.inl h),sN (.inl h),sO (.inl h),Oa (.inl h),sQ (.inl h)]
  exact Es k h w
 ·rw [N9 (.inr h),sG (.inr h),sH (.inr h),sJ (.inr h),sK (.inr h),sN (.inr h),sO (.inr h),Oa (.inr h),sQ (.inr h)]
  exact Bl k h w
 ·rcases h with rfl | rfl | rfl | rfl | rfl | rfl | rfl | rfl | rfl | rfl | rfl | rfl | rfl | rfl | rfl | rfl | rfl
  ·exact Ny w
  ·exact Nz w
  ·exact NC w
  ·exact ND w
  ·exact NG w
  ·exact NH w
  ·exact NI w
  ·exact NJ w
  ·exact NK w
  ·exact IC w
  ·exact IE w
  ·exact IG w
  ·exact II w
  ·exact IK w
  ·exact IQ w
  ·exact IU w
  ·exact IV w
theorem IX (k:Int) (w:World):Calls Try.prog 49 #[.int .i64 k] w fun e w'=>e= .returned (.tuple #[.agg #[.int .i64 (nF k), .int .i64 (nS k), .string (nT k)], .bool (rO k)])∧Below w.heap.size w w':=by
 rcases kinds k with h | h | h
 ·rw [iV (.inl h),iW (.inl h),iY (.inl h),sQ (.inl h)]
  exact IW k h w
 ·rw [iV (.inr h),iW (.inr h),iY (.inr h),sQ (.inr h)]
  exact Et k h w
 ·rcases h with rfl | rfl | rfl | rfl | rfl | rfl | rfl | rfl | rfl | rfl | rfl | rfl | rfl | rfl | rfl | rfl | rfl
  ·exact SA w
  ·exact SB w
  ·exact SC w
  ·exact SH w
  ·exact SI w
  ·exact SK w
  ·exact SN w
  ·exact SQ w
  ·exact SS w
  ·exact NM w
  ·exact NQ w
  ·exact NR w
  ·exact NU w
  ·exact NV w
  ·exact NY w
  ·exact NZ w
  ·exact N7 w
theorem ad8 (k:Int) (w:World):Calls Try.prog 50 #[.agg #[.int .i64 (nF k), .int .i64 (nS k), .string (nT k)], .int .u8 107] w fun e w'=>e= .returned (.bool (rK k))∧Below w.heap.size w w':=by
 rcases kinds k with h | h | h
 ·rw [iV (.inl h),iW (.inl h),iY (.inl h),sK (.inl h)]
  exact bF _ _ _ w
 ·rw [iV (.inr h),iW (.inr h),iY (.inr h),sK (.inr h)]
  exact bF _ _ _ w
 ·rcases h with rfl | rfl | rfl | rfl | rfl | rfl | rfl | rfl | rfl | rfl | rfl | rfl | rfl | rfl | rfl | rfl | rfl
  ·exact sF _ _ _ w
  ·exact bF _ _ _ w
  ·exact fZ _ _ _ w
  ·exact oJ _ _ _ w
  ·exact fZ _ _ _ w
  ·exact fP _ _ _ w
  ·exact fP _ _ _ w
  ·exact fZ _ _ _ w
  ·exact dI _ _ _ w
  ·exact jU _ _ _ w
  ·exact iG _ _ _ w
  ·exact dI _ _ _ w
  ·exact dI _ _ _ w
  ·exact lM _ _ _ w
  ·exact iG _ _ _ w
  ·exact oK _ _ _ w
  ·exact bF _ _ _ w
theorem ad9 (k:Int) (w:World):Calls Try.prog 50 #[.agg #[.int .i64 (nF k), .int .i64 (nS k), .string (nT k)], .int .u8 110] w fun e w'=>e= .returned (.bool (rN k))∧Below w.heap.size w w':=by
 rcases kinds k with h | h | h
 ·rw [iV (.inl h),iW (.inl h),iY (.inl h),sN (.inl h)]
  exact bF _ _ _ w
 ·rw [iV (.inr h),iW (.inr h),iY (.inr h),sN (.inr h)]
  exact bF _ _ _ w
 ·rcases h with rfl | rfl | rfl | rfl | rfl | rfl | rfl | rfl | rfl | rfl | rfl | rfl | rfl | rfl | rfl | rfl | rfl
  ·exact sF _ _ _ w
  ·exact bF _ _ _ w
  ·exact fZ _ _ _ w
  ·exact oJ _ _ _ w
  ·exact fZ _ _ _ w
  ·exact fP _ _ _ w
  ·exact fP _ _ _ w
  ·exact fZ _ _ _ w
  ·exact dI _ _ _ w
  ·exact jU _ _ _ w
  ·exact iG _ _ _ w
  ·exact dI _ _ _ w
  ·exact dI _ _ _ w
  ·exact lM _ _ _ w
  ·exact iG _ _ _ w
  ·exact oK _ _ _ w
  ·exact bF _ _ _ w
theorem aea (k:Int) (w:World):Calls Try.prog 50 #[.agg #[.int .i64 (nF k), .int .i64 (nS k), .string (nT k)], .int .u8 97] w fun e w'=>e= .returned (.bool (rA k))∧Below w.heap.size w w':=by
 rcases kinds k with h | h | h
 ·rw [iV (.inl h),iW (.inl h),iY (.inl h),sG (.inl h)]
  exact bF _ _ _ w
 ·rw [iV (.inr h),iW (.inr h),iY (.inr h),sG (.inr h)]
  exact bF _ _ _ w
 ·rcases h with rfl | rfl | rfl | rfl | rfl | rfl | rfl | rfl | rfl | rfl | rfl | rfl | rfl | rfl | rfl | rfl | rfl
  ·exact sF _ _ _ w
  ·exact bF _ _ _ w
  ·exact fZ _ _ _ w
  ·exact oJ _ _ _ w
  ·exact fZ _ _ _ w
  ·exact fP _ _ _ w
  ·exact fP _ _ _ w
  ·exact fZ _ _ _ w
  ·exact dI _ _ _ w
  ·exact jU _ _ _ w
  ·exact iG _ _ _ w
  ·exact dI _ _ _ w
  ·exact dI _ _ _ w
  ·exact lM _ _ _ w
  ·exact iG _ _ _ w
  ·exact oK _ _ _ w
  ·exact bF _ _ _ w
theorem hasB (k:Int) (w:World):Calls Try.prog 50 #[.agg #[.int .i64 (nF k), .int .i64 (nS k), .string (nT k)], .int .u8 98] w fun e w'=>e= .returned (.bool (rB k))∧Below w.heap.size w w':=by
 rcases kinds k with h | h | h
 ·rw [iV (.inl h),iW (.inl h),iY (.inl h),sH (.inl h)]
  exact bF _ _ _ w
 ·rw [iV (.inr h),iW (.inr h),iY (.inr h),sH (.inr h)]
  exact bF _ _ _ w
 ·rcases h with rfl | rfl | rfl | rfl | rfl | rfl | rfl | rfl | rfl | rfl | rfl | rfl | rfl | rfl | rfl | rfl | rfl
  ·exact sF _ _ _ w
  ·exact bF _ _ _ w
  ·exact fZ _ _ _ w
  ·exact oJ _ _ _ w
  ·exact fZ _ _ _ w
  ·exact fP _ _ _ w
  ·exact fP _ _ _ w
  ·exact fZ _ _ _ w
  ·exact dI _ _ _ w
  ·exact jU _ _ _ w
  ·exact iG _ _ _ w
  ·exact dI _ _ _ w
  ·exact dI _ _ _ w
  ·exact lM _ _ _ w
  ·exact iG _ _ _ w
  ·exact oK _ _ _ w
  ·exact bF _ _ _ w
theorem aeb (k:Int) (w:World):Calls Try.prog 50 #[.agg #[.int .i64 (nF k), .int .i64 (nS k), .string (nT k)], .int .u8 99] w fun e w'=>e= .returned (.bool (rC k))∧Below w.heap.size w w':=by
 rcases kinds k with h | h | h
 ·rw [iV (.inl h),iW (.inl h),iY (.inl h),sJ (.inl h)]
  exact bF _ _ _ w
 ·rw [iV (.inr h),iW (.inr h),iY (.inr h),sJ (.inr h)]
  exact bF _ _ _ w
 ·rcases h with rfl | rfl | rfl | rfl | rfl | rfl | rfl | rfl | rfl | rfl | rfl | rfl | rfl | rfl | rfl | rfl | rfl
  ·exact sF _ _ _ w
  ·exact bF _ _ _ w
  ·exact fZ _ _ _ w
  ·exact oJ _ _ _ w
  ·exact fZ _ _ _ w
  ·exact fP _ _ _ w
  ·exact fP _ _ _ w
  ·exact fZ _ _ _ w
  ·exact dI _ _ _ w
  ·exact jU _ _ _ w
  ·exact iG _ _ _ w
  ·exact dI _ _ _ w
  ·exact dI _ _ _ w
  ·exact lM _ _ _ w
  ·exact iG _ _ _ w
  ·exact oK _ _ _ w
  ·exact bF _ _ _ w
theorem aec (k:Int) (w:World):Calls Try.prog 50 #[.agg #[.int .i64 (nF k), .int .i64 (nS k), .string (nT k)], .int .u8 103] w fun e w'=>e= .returned (.bool (rG k))∧Below w.heap.size w w':=by
 rcases kinds k with h | h | h
 ·rw [iV (.inl h),iW (.inl h),iY (.inl h),sO (.inl h)]
  exact bF _ _ _ w
 ·rw [iV (.inr h),iW (.inr h),iY (.inr h),sO (.inr h)]
  exact bF _ _ _ w
 ·rcases h with rfl | rfl | rfl | rfl | rfl | rfl | rfl | rfl | rfl | rfl | rfl | rfl | rfl | rfl | rfl | rfl | rfl
  ·exact sF _ _ _ w
  ·exact bF _ _ _ w
  ·exact fZ _ _ _ w
  ·exact oJ _ _ _ w
  ·exact fZ _ _ _ w
  ·exact fP _ _ _ w
  ·exact fP _ _ _ w
  ·exact fZ _ _ _ w
  ·exact dI _ _ _ w
  ·exact jU _ _ _ w
  ·exact iG _ _ _ w
  ·exact dI _ _ _ w
  ·exact dI _ _ _ w
  ·exact lM _ _ _ w
  ·exact iG _ _ _ w
  ·exact oK _ _ _ w
  ·exact bF _ _ _ w
open Kt
def SV (os:List cZ) (aC:Int) (i:Nat) (o:cZ):Int:=
 Eu (e2 (rO o.k) (rS o.k) o.k o.w) (e4 (rK o.k) (rN o.k) aC o.kn o.n) (e6 (rA o.k) (rB o.k) (rC o.k) (rG o.k) o.a o.b o.c) (e8 (rG o.k) o.b)
  (lK (rA o.k) (rB o.k) (rC o.k) (nI os i o.a) (nI os i o.b) (nI os i o.c)) (jS (rF o.k) (decide ((i:Int) <(os.length:Int)-1)))
def fQ (os:List cZ) (aC:Int) (i:Nat):Int:=match os[i]? with
 | some o=>SV os aC i o
 | none=>0
def gG (os:List cZ):Bool:=match os[os.length-1]? with
 | some o=>rF o.k
 | none=>false
def scan (os:List cZ) (aC:Int):Nat→Int×Int
 | 0=>if gG os then(0,0) else(7,os.length)
 | n+1=>if fQ os aC (os.length-(n+1))==0 then scan os aC n else(fQ os aC (os.length-(n+1)),((os.length-(n+1):Nat):Int))
def uh (os:List cZ) (aC bg:Int):Int×Int:=
 if 2048<os.length then(5,-1) else if aC<0∨64<aC∨bg<0∨384<bg then(4,-1) else scan os aC os.length
theorem Ye (os:List cZ) (ao:Option Addr) (cap:Nat) (pc aC bg:Int) (i:Nat) (o:cZ) (ho:os[i]?=some o) (w:World) (gy:rQ os ao cap w):
  Calls Try.prog 91 #[.agg #[.int .u32 pc, .int .i64 aC, .int .i64 bg, .slice ao os.length cap], .int .i64 i, .agg #[.int .i64 o.k, .int .i64 o.w, .int .i64 o.a, .int .i64 o.b, .int .i64 o.c, .int .u32 o.kn, .int .i64 o.n]] w fun e w'=>e= .returned (.int .i64 (fQ os aC i))∧Below w.heap.size w w':=by
 have hi:i<os.length:=(List.getElem?_eq_some_iff.1 ho).1
 have hs:0≤rS o.k∧rS o.k<100:=by
  unfold rS
  split<;>omega
 have he:fQ os aC i=SV os aC i o:=by unfold fQ;rw [ho]
 rw [he]
 exact yL os ao cap pc aC bg i o.k o.w o.a o.b o.c o.kn o.n w gy hi (rS o.k) (rA o.k) (rB o.k) (rC o.k) (rK o.k) (rN o.k) (rG o.k) (rF o.k) (rO o.k) hs.1 hs.2 (vS o.k) _ _ _ _ _ _ (κ rfl) (κ rfl) (κ rfl) (κ rfl) (κ rfl) (κ rfl)
theorem Ob (o:cZ) (w:World):
  Calls Try.prog 92 #[.agg #[.int .i64 o.k, .int .i64 o.w, .int .i64 o.a, .int .i64 o.b, .int .i64 o.c, .int .u32 o.kn, .int .i64 o.n]] w fun e w'=>e= .returned (.bool (rF o.k))∧Below w.heap.size w w':=by
 obtain⟨k,ow,oa,ob,oc,nK,on⟩:=o
 go_enter Try.func92,Try.ntmps92
 go_wp2_with (go_at_call 157;refine(vS _ _).mono ?_;rintro e w1 ⟨rfl,aQ⟩)
 go_ret
 exact⟨rfl,(((Below.refl _ _).alloc (Nat.le_refl _) _).trans (aQ.mono (by simp))).alloc (by have:=aQ.size;simp at this;omega) _⟩
def kE (b:Nat) (X:Array Value) (w:World):Prop:=b<w.heap.size∧∀ (j:Nat) v,X[j]?=some v→w.cell? ⟨b,j,none⟩=some v
theorem kE.keep {b:Nat} {X:Array Value} {w w':World} (h:kE b X w) (hb:Below w.heap.size w w'):kE b X w':=
 ⟨Nat.lt_of_lt_of_le h.1 hb.size,fun j v hj=>(hb.cell (p:=⟨b,j,none⟩) h.1).trans (h.2 j v hj)⟩
theorem kE.new (w:World) (X:Array Value) (t:TypeId):kE w.heap.size X (w.alloc (.cells X t)):=⟨by simp,fun j v hj=>(nY w X t j).trans hj⟩
theorem xX {os:List cZ} {aC:Int} {j:Nat} (hj:j<os.length) (h:fQ os aC j=0):scan os aC (os.length-j)=scan os aC (os.length-(j+1)):=by
 obtain⟨n,hn⟩:∃n,os.length-j=n+1:=⟨os.length-j-1,by omega⟩
 have e:os.length-(n+1)=j:=by omega
 rw [hn,show os.length-(j+1)=n by omega,scan,e,if_pos (by simp [h])]
theorem nZ {os:List cZ} {aC:Int} {j:Nat} (hj:j<os.length) (h:fQ os aC j≠0):scan os aC (os.length-j)=(fQ os aC j,(j:Int)):=by
 obtain⟨n,hn⟩:∃n,os.length-j=n+1:=⟨os.length-j-1,by omega⟩
 have e:os.length-(n+1)=j:=by omega
 rw [hn,scan,e,if_neg (by simpa using h)]
def SY (p:Int×Int):Value:= .tuple #[.int .i64 p.1, .int .i64 p.2]
theorem IY (os:List cZ) (ao:Option Addr) (cap:Nat) (pc aC bg:Int) (w:World) (gy:rQ os ao cap w):
  Calls Try.prog 45 #[.agg #[.int .u32 pc, .int .i64 aC, .int .i64 bg, .slice ao os.length cap]] w fun e w'=>e= .returned (SY (uh os aC bg))∧Below w.heap.size w w':=by
 have hL:os.length≤9223372036854775807:=by have:=gy.1;have h2:=gy.2.1;unfold maxLen at h2;omega
 by_cases hlen:2048<os.length
 ·have hv:uh os aC bg=(5,-1):=by unfold uh;rw [if_pos hlen]
  rw [hv]
  clear hv gy
  have h1:(2048:Int) <(os.length:Int):=by omega
  go_enter Try.func45,Try.ntmps45
  go_wp2
  go_ret2
  exact⟨rfl,(Below.refl _ _).alloc (Nat.le_refl _) _⟩
 have h1:¬ (2048:Int) <(os.length:Int):=by omega
 by_cases yM:aC<0∨64<aC∨bg<0∨384<bg
 ·have hv:uh os aC bg=(4,-1):=by unfold uh;rw [if_neg hlen,if_pos yM]
  rw [hv]
  clear hv gy
  have hc:aC<0∨(¬aC<0∧64<aC)∨(¬aC<0∧¬64<aC∧bg<0)∨(¬aC<0∧¬64<aC∧¬bg<0∧384<bg):=by omega
  clear yM
  rcases hc with q0 | ⟨q0,q1⟩ | ⟨q0,q1,q2⟩ | ⟨q0,q1,q2,q3⟩
  all_goals go_enter Try.func45,Try.ntmps45
  all_goals go_wp2
  all_goals go_ret2
  all_goals exact⟨rfl,(Below.refl _ _).alloc (Nat.le_refl _) _⟩
 have hv:uh os aC bg=scan os aC os.length:=by unfold uh;rw [if_neg hlen,if_neg yM]
 rw [hv]
 clear hv
 have q0:¬aC<0:=by omega
 have q1:¬64<aC:=by omega
 have q2:¬bg<0:=by omega
 have q3:¬384<bg:=by omega
 clear yM hlen
 have HO:=κ gy
 clear gy
 go_enter Try.func45,Try.ntmps45
 go_wp2
 have S9:=kE.new w #[.int .u32 pc, .int .i64 aC, .int .i64 bg, .slice ao os.length cap] 25
 have Tc:Below w.heap.size w (w.alloc (.cells #[.int .u32 pc, .int .i64 aC, .int .i64 bg, .slice ao os.length cap] 25)):=(Below.refl _ _).alloc (Nat.le_refl _) _
 generalize w.alloc (.cells #[.int .u32 pc, .int .i64 aC, .int .i64 bg, .slice ao os.length cap] 25)=wA at S9 Tc⊢
 generalize xW:w.heap.size=bx at S9 Tc⊢
 have HX:=κ xW
 clear xW
 go_loopg [33] os.length (fun k i wr=>∃j:Nat,k=os.length-j∧j≤os.length∧i= .int .i64 j∧Hid (scan os aC os.length=scan os aC (os.length-j))∧Below bx w wr∧kE bx #[.int .u32 pc, .int .i64 aC, .int .i64 bg, .slice ao os.length cap] wr)
 case atStart=>exact⟨0,rfl,Nat.zero_le _,rfl,rfl,Tc,S9⟩
 case round=>
  obtain⟨j,hk,hj,rfl,JG,hb,hx⟩:=hrel
  have wL:=hx.2 0 _ rfl
  have Ap:=hx.2 1 _ rfl
  have Zv:=hx.2 2 _ rfl
  have hx3:=hx.2 3 _ rfl
  have hxl:=hx.1
  have HXB:=κ hx
  have HK:=κ hk
  clear hx S9 Tc hk
  have IZ:rQ os ao cap wr:=HO.out.keep (by rw [HX.out];exact hb)
  by_cases bV:j<os.length
  ·obtain⟨g,off,rfl,hg,hc⟩:=IZ.2.2 (by omega)
   obtain⟨o,ho⟩:∃o,os[j]?=some o:=⟨os[j],List.getElem?_eq_getElem bV⟩
   have abq:=Ye os (some ⟨g,off,none⟩) cap pc aC bg j o ho
   have HH:=κ abq
   clear abq
   have c0:wr.cell? ⟨g,off+j*7,none⟩=some (.int .i64 o.k):=hc j o ho 0 _ rfl
   have c1:wr.cell? ⟨g,off+j*7+1,none⟩=some (.int .i64 o.w):=hc j o ho 1 _ rfl
   have c2:wr.cell? ⟨g,off+j*7+2,none⟩=some (.int .i64 o.a):=hc j o ho 2 _ rfl
   have c3:wr.cell? ⟨g,off+j*7+3,none⟩=some (.int .i64 o.b):=hc j o ho 3 _ rfl
   have c4:wr.cell? ⟨g,off+j*7+4,none⟩=some (.int .i64 o.c):=hc j o ho 4 _ rfl
   have c5:wr.cell? ⟨g,off+j*7+5,none⟩=some (.int .u32 o.kn):=hc j o ho 5 _ rfl
   have c6:wr.cell? ⟨g,off+j*7+6,none⟩=some (.int .i64 o.n):=hc j o ho 6 _ rfl
   have oV:(j:Int) <(os.length:Int):=by omega
   have HOR:=κ IZ
   clear IZ hc ho
   by_cases he:fQ os aC j=0
   ·have HE:=κ he
    rw [he] at HH
    clear he
    go_wp2_with (go_at_call 91;refine(HH.out _ (HOR.out.keep ((Below.refl _ _).alloc (Nat.le_refl _) _))).mono ?_;rintro e w2 ⟨rfl,aj⟩)
    go_roundg (os.length-(j+1))
    case measure=>
     have:=HK.out
     omega
    case rel=>
     have hbw:Below wr.heap.size wr w2:=((Below.refl _ _).alloc (Nat.le_refl _) _).trans (aj.mono (by simp))
     exact⟨j+1,rfl,by omega,by simp,by rw [←xX bV HE.out];exact JG,hb.trans (hbw.mono (by omega)),HXB.out.keep hbw⟩
   ·have HE:=κ he
    have dU:(fQ os aC j==0)=false:=by simpa using he
    have hz:scan os aC os.length=(fQ os aC j,(j:Int)):=by rw [JG.out];exact nZ bV he
    have HZ:=κ hz
    clear he hz
    generalize fQ os aC j=er at HH dU HZ
    go_wp2_with (go_at_call 91;refine(HH.out _ (HOR.out.keep ((Below.refl _ _).alloc (Nat.le_refl _) _))).mono ?_;rintro e w2 ⟨rfl,aj⟩)
    go_ret2
    have hbw:Below wr.heap.size wr w2:=((Below.refl _ _).alloc (Nat.le_refl _) _).trans (aj.mono (by simp))
    exact⟨by rw [HZ.out];rfl,by rw [HX.out];exact hb.trans (hbw.mono (by omega))⟩
  ·obtain rfl:j=os.length:=by omega
   have ZE:scan os aC os.length=if gG os then(0,0) else(7,(os.length:Int)):=by rw [JG.out,Nat.sub_self];rfl
   have HS:=κ ZE
   clear ZE JG
   rcases Nat.eq_zero_or_pos os.length with h0 | h0
   ·have hl:gG os=false:=by
     have:os= []:=List.eq_nil_of_length_eq_zero h0
     subst this
     rfl
    have hz:scan os aC os.length=(7,(os.length:Int)):=by rw [HS.out,hl];rfl
    have HZ:=κ hz
    have h0':((os.length:Int)==0)=true:=by rw [beq_iff_eq];omega
    clear hz hl h0 HS IZ
    go_wp2
    go_ret2
    exact⟨by rw [HZ.out];rfl,by rw [HX.out];exact hb⟩
   ·obtain⟨g,off,rfl,hg,hc⟩:=IZ.2.2 h0
    obtain⟨o,ho⟩:∃o,os[os.length-1]?=some o:=⟨os[os.length-1],List.getElem?_eq_getElem (by omega)⟩
    have hl:gG os=rF o.k:=by unfold gG;rw [ho]
    have c0:wr.cell? ⟨g,off+(os.length-1)*7,none⟩=some (.int .i64 o.k):=hc _ o ho 0 _ rfl
    have c1:wr.cell? ⟨g,off+(os.length-1)*7+1,none⟩=some (.int .i64 o.w):=hc _ o ho 1 _ rfl
    have c2:wr.cell? ⟨g,off+(os.length-1)*7+2,none⟩=some (.int .i64 o.a):=hc _ o ho 2 _ rfl
    have c3:wr.cell? ⟨g,off+(os.length-1)*7+3,none⟩=some (.int .i64 o.b):=hc _ o ho 3 _ rfl
    have c4:wr.cell? ⟨g,off+(os.length-1)*7+4,none⟩=some (.int .i64 o.c):=hc _ o ho 4 _ rfl
    have c5:wr.cell? ⟨g,off+(os.length-1)*7+5,none⟩=some (.int .u32 o.kn):=hc _ o ho 5 _ rfl
    have c6:wr.cell? ⟨g,off+(os.length-1)*7+6,none⟩=some (.int .i64 o.n):=hc _ o ho 6 _ rfl
    have h0':((os.length:Int)==0)=false:=by rw [beq_eq_false_iff_ne];omega
    rw [hl] at HS
    have og:=Ob o
    have HLA:=κ og
    clear og hl hc ho IZ
    generalize rF o.k=fi at HS HLA
    cases fi
    ·go_wp2_with (go_at_call 92;refine(HLA.out _).mono ?_;rintro e w2 ⟨rfl,aj⟩)
     go_ret2
     exact⟨by rw [HS.out];rfl,by rw [HX.out];exact hb.trans (aj.mono (by omega))⟩
    ·go_wp2_with (go_at_call 92;refine(HLA.out _).mono ?_;rintro e w2 ⟨rfl,aj⟩)
     go_ret2
     exact⟨by rw [HS.out];rfl,by rw [HX.out];exact hb.trans (aj.mono (by omega))⟩
end Go.Proofs.Ytcjcmnnhmajocab.Ic
