import Derived.Deep.CutBlock
import Derived.StillTailTactics
import Derived.Test.YtcjcmnnhmajocabGreatPman
import Derived.Test.YtcjcmnnhmajocabGreatPmao
import Derived.Test.YtcjcmnnhmajocabGreatPmap
import Derived.Test.YtcjcmnnhmajocabGreatPmaq
import Derived.Test.YtcjcmnnhmajocabGreatPmar
import Derived.Test.YtcjcmnnhmajocabGreatPmas
set_option linter.unusedVariables false
set_option linter.unusedSimpArgs false
set_option maxRecDepth 100000
set_option maxHeartbeats 16000000
namespace Go.Proofs.YtcjcmnnhmajocabGreat.Ic
open Go.RowKit
def rS (k:Int):Int:=match k with
 | 1=>0
 | 2=>12
 | 3=>12
 | 4=>16
 | 5=>7
 | 6=>0
 | 7=>13
 | 8=>16
 | 9=>5
 | 10=>3
 | 11=>0
 | 12=>0
 | 13=>8
 | 14=>8
 | 15=>0
 | 16=>0
 | 17=>0
 | _=>0
def nF (k:Int):Int:=match k with
 | 1=>0
 | 2=>0
 | 3=>0
 | 4=>0
 | 5=>0
 | 6=>0
 | 7=>0
 | 8=>0
 | 9=>0
 | 10=>0
 | 11=>0
 | 12=>0
 | 13=>1
 | 14=>1
 | 15=>0
 | 16=>0
 | 17=>0
 | _=>0
def nS (k:Int):Int:=match k with
 | 1=>1
 | 2=>12
 | 3=>12
 | 4=>16
 | 5=>7
 | 6=>1
 | 7=>13
 | 8=>16
 | 9=>5
 | 10=>3
 | 11=>1
 | 12=>1
 | 13=>7
 | 14=>7
 | 15=>1
 | 16=>1
 | 17=>1
 | _=>0
def nT (k:Int):ByteArray:=match k with
 | 1=>{data:= #[107]}
 | 2=>{data:= #[]}
 | 3=>{data:= #[97]}
 | 4=>{data:= #[97,98]}
 | 5=>{data:= #[97]}
 | 6=>{data:= #[97,98,99]}
 | 7=>{data:= #[97,98,99]}
 | 8=>{data:= #[97]}
 | 9=>{data:= #[97,107,110]}
 | 10=>{data:= #[97,98,107,110]}
 | 11=>{data:= #[107,110]}
 | 12=>{data:= #[97,107,110]}
 | 13=>{data:= #[97,107,110]}
 | 14=>{data:= #[103,107,110]}
 | 15=>{data:= #[107,110]}
 | 16=>{data:= #[97,110]}
 | 17=>{data:= #[]}
 | _=>{data:= #[]}
def rA (k:Int):Bool:=match k with
 | 1=>false
 | 2=>false
 | 3=>true
 | 4=>true
 | 5=>true
 | 6=>true
 | 7=>true
 | 8=>true
 | 9=>true
 | 10=>true
 | 11=>false
 | 12=>true
 | 13=>true
 | 14=>false
 | 15=>false
 | 16=>true
 | 17=>false
 | _=>false
def rB (k:Int):Bool:=match k with
 | 1=>false
 | 2=>false
 | 3=>false
 | 4=>true
 | 5=>false
 | 6=>true
 | 7=>true
 | 8=>false
 | 9=>false
 | 10=>true
 | 11=>false
 | 12=>false
 | 13=>false
 | 14=>false
 | 15=>false
 | 16=>false
 | 17=>false
 | _=>false
def rC (k:Int):Bool:=match k with
 | 1=>false
 | 2=>false
 | 3=>false
 | 4=>false
 | 5=>false
 | 6=>true
 | 7=>true
 | 8=>false
 | 9=>false
 | 10=>false
 | 11=>false
 | 12=>false
 | 13=>false
 | 14=>false
 | 15=>false
 | 16=>false
 | 17=>false
 | _=>false
def rK (k:Int):Bool:=match k with
 | 1=>true
 | 2=>false
 | 3=>false
 | 4=>false
 | 5=>false
 | 6=>false
 | 7=>false
 | 8=>false
 | 9=>true
 | 10=>true
 | 11=>true
 | 12=>true
 | 13=>true
 | 14=>true
 | 15=>true
 | 16=>false
 | 17=>false
 | _=>false
def rN (k:Int):Bool:=match k with
 | 1=>false
 | 2=>false
 | 3=>false
 | 4=>false
 | 5=>false
 | 6=>false
 | 7=>false
 | 8=>false
 | 9=>true
 | 10=>true
 | 11=>true
 | 12=>true
 | 13=>true
 | 14=>true
 | 15=>true
 | 16=>true
 | 17=>false
 | _=>false
def rG (k:Int):Bool:=match k with
 | 1=>false
 | 2=>false
 | 3=>false
 | 4=>false
 | 5=>false
 | 6=>false
 | 7=>false
 | 8=>false
 | 9=>false
 | 10=>false
 | 11=>false
 | 12=>false
 | 13=>false
 | 14=>true
 | 15=>false
 | 16=>false
 | 17=>false
 | _=>false
def rF (k:Int):Bool:=match k with
 | 1=>false
 | 2=>false
 | 3=>false
 | 4=>false
 | 5=>false
 | 6=>false
 | 7=>false
 | 8=>false
 | 9=>false
 | 10=>false
 | 11=>false
 | 12=>false
 | 13=>false
 | 14=>true
 | 15=>true
 | 16=>true
 | 17=>false
 | _=>false
def rO (k:Int):Bool:=match k with
 | 1=>true
 | 2=>true
 | 3=>true
 | 4=>true
 | 5=>true
 | 6=>true
 | 7=>true
 | 8=>true
 | 9=>true
 | 10=>true
 | 11=>true
 | 12=>true
 | 13=>true
 | 14=>true
 | 15=>true
 | 16=>true
 | 17=>true
 | _=>false
theorem kinds (k:Int):k<1∨17<k∨(k=1∨k=2∨k=3∨k=4∨k=5∨k=6∨k=7∨k=8∨k=9∨k=10∨k=11∨k=12∨k=13∨k=14∨k=15∨k=16∨k=17):=by omega
theorem Lh (k:Int):rF k=fin k:=by
 rcases kinds k with h | h | h
 ·rw [show fin k=false from decide_eq_false (by omega)]
  unfold rF
  split<;>first | rfl | omega
 ·rw [show fin k=false from decide_eq_false (by omega)]
  unfold rF
  split<;>first | rfl | omega
 ·rcases h with rfl | rfl | rfl | rfl | rfl | rfl | rfl | rfl | rfl | rfl | rfl | rfl | rfl | rfl | rfl | rfl | rfl<;>rfl
theorem jm {k:Int} (h:k<1∨17<k):nF k=0:=by
 unfold nF
 split<;>first | rfl | omega
theorem jo {k:Int} (h:k<1∨17<k):nS k=0:=by
 unfold nS
 split<;>first | rfl | omega
theorem jq {k:Int} (h:k<1∨17<k):nT k={data:= #[]}:=by
 unfold nT
 split<;>first | rfl | omega
theorem yD {k:Int} (h:k<1∨17<k):rA k=false:=by
 unfold rA
 split<;>first | rfl | omega
theorem yE {k:Int} (h:k<1∨17<k):rB k=false:=by
 unfold rB
 split<;>first | rfl | omega
theorem yF {k:Int} (h:k<1∨17<k):rC k=false:=by
 unfold rC
 split<;>first | rfl | omega
theorem yG {k:Int} (h:k<1∨17<k):rK k=false:=by
 unfold rK
 split<;>first | rfl | omega
theorem yH {k:Int} (h:k<1∨17<k):rN k=false:=by
 unfold rN
 split<;>first | rfl | omega
theorem yI {k:Int} (h:k<1∨17<k):rG k=false:=by
 unfold rG
 split<;>first | rfl | omega
theorem yJ {k:Int} (h:k<1∨17<k):rO k=false:=by
 unfold rO
 split<;>first | rfl | omega
theorem H7 (k:Int) (w:World):Calls Tryz.prog 59 #[.int .i64 k] w fun e w'=>e= .returned (.tuple #[.agg #[.int .i64 (nF k), .int .i64 (nS k), .string (nT k)], .bool (rO k)])∧Below w.heap.size w w':=by
 rcases kinds k with h | h | h
 ·rw [jm (.inl h),jo (.inl h),jq (.inl h),yJ (.inl h)]
  exact Hz k h w
 ·rw [jm (.inr h),jo (.inr h),jq (.inr h),yJ (.inr h)]
  exact DX k h w
 ·rcases h with rfl | rfl | rfl | rfl | rfl | rfl | rfl | rfl | rfl | rfl | rfl | rfl | rfl | rfl | rfl | rfl | rfl
  ·exact QU w
  ·exact QV w
  ·exact QW w
  ·exact QY w
  ·exact QZ w
  ·exact Q5 w
  ·exact Q7 w
  ·exact Q8 w
  ·exact Q9 w
  ·exact KW w
  ·exact KX w
  ·exact KY w
  ·exact KZ w
  ·exact La w
  ·exact Lc w
  ·exact Ld w
  ·exact Le w
theorem aev (k:Int) (w:World):Calls Tryz.prog 60 #[.agg #[.int .i64 (nF k), .int .i64 (nS k), .string (nT k)], .int .u8 107] w fun e w'=>e= .returned (.bool (rK k))∧Below w.heap.size w w':=by
 rcases kinds k with h | h | h
 ·rw [jm (.inl h),jo (.inl h),jq (.inl h),yG (.inl h)]
  exact aX _ _ _ w
 ·rw [jm (.inr h),jo (.inr h),jq (.inr h),yG (.inr h)]
  exact aX _ _ _ w
 ·rcases h with rfl | rfl | rfl | rfl | rfl | rfl | rfl | rfl | rfl | rfl | rfl | rfl | rfl | rfl | rfl | rfl | rfl
  ·exact sV _ _ _ w
  ·exact aX _ _ _ w
  ·exact gV _ _ _ w
  ·exact qg _ _ _ w
  ·exact gV _ _ _ w
  ·exact gy _ _ _ w
  ·exact gy _ _ _ w
  ·exact gV _ _ _ w
  ·exact dB _ _ _ w
  ·exact kQ _ _ _ w
  ·exact iZ _ _ _ w
  ·exact dB _ _ _ w
  ·exact dB _ _ _ w
  ·exact nG _ _ _ w
  ·exact iZ _ _ _ w
  ·exact qh _ _ _ w
  ·exact aX _ _ _ w
theorem aew (k:Int) (w:World):Calls Tryz.prog 60 #[.agg #[.int .i64 (nF k), .int .i64 (nS k), .string (nT k)], .int .u8 110] w fun e w'=>e= .returned (.bool (rN k))∧Below w.heap.size w w':=by
 rcases kinds k with h | h | h
 ·rw [jm (.inl h),jo (.inl h),jq (.inl h),yH (.inl h)]
  exact aX _ _ _ w
 ·rw [jm (.inr h),jo (.inr h),jq (.inr h),yH (.inr h)]
  exact aX _ _ _ w
 ·rcases h with rfl | rfl | rfl | rfl | rfl | rfl | rfl | rfl | rfl | rfl | rfl | rfl | rfl | rfl | rfl | rfl | rfl
  ·exact sV _ _ _ w
  ·exact aX _ _ _ w
  ·exact gV _ _ _ w
  ·exact qg _ _ _ w
  ·exact gV _ _ _ w
  ·exact gy _ _ _ w
  ·exact gy _ _ _ w
  ·exact gV _ _ _ w
  ·exact dB _ _ _ w
  ·exact kQ _ _ _ w
  ·exact iZ _ _ _ w
  ·exact dB _ _ _ w
  ·exact dB _ _ _ w
  ·exact nG _ _ _ w
  ·exact iZ _ _ _ w
  ·exact qh _ _ _ w
  ·exact aX _ _ _ w
theorem aex (k:Int) (w:World):Calls Tryz.prog 60 #[.agg #[.int .i64 (nF k), .int .i64 (nS k), .string (nT k)], .int .u8 97] w fun e w'=>e= .returned (.bool (rA k))∧Below w.heap.size w w':=by
 rcases kinds k with h | h | h
 ·rw [jm (.inl h),jo (.inl h),jq (.inl h),yD (.inl h)]
  exact aX _ _ _ w
 ·rw [jm (.inr h),jo (.inr h),jq (.inr h),yD (.inr h)]
  exact aX _ _ _ w
 ·rcases h with rfl | rfl | rfl | rfl | rfl | rfl | rfl | rfl | rfl | rfl | rfl | rfl | rfl | rfl | rfl | rfl | rfl
  ·exact sV _ _ _ w
  ·exact aX _ _ _ w
  ·exact gV _ _ _ w
  ·exact qg _ _ _ w
  ·exact gV _ _ _ w
  ·exact gy _ _ _ w
  ·exact gy _ _ _ w
  ·exact gV _ _ _ w
  ·exact dB _ _ _ w
  ·exact kQ _ _ _ w
  ·exact iZ _ _ _ w
  ·exact dB _ _ _ w
  ·exact dB _ _ _ w
  ·exact nG _ _ _ w
  ·exact iZ _ _ _ w
  ·exact qh _ _ _ w
  ·exact aX _ _ _ w
theorem hasB (k:Int) (w:World):Calls Tryz.prog 60 #[.agg #[.int .i64 (nF k), .int .i64 (nS k), .string (nT k)], .int .u8 98] w fun e w'=>e= .returned (.bool (rB k))∧Below w.heap.size w w':=by
 rcases kinds k with h | h | h
 ·rw [jm (.inl h),jo (.inl h),jq (.inl h),yE (.inl h)]
  exact aX _ _ _ w
 ·rw [jm (.inr h),jo (.inr h),jq (.inr h),yE (.inr h)]
  exact aX _ _ _ w
 ·rcases h with rfl | rfl | rfl | rfl | rfl | rfl | rfl | rfl | rfl | rfl | rfl | rfl | rfl | rfl | rfl | rfl | rfl
  ·exact sV _ _ _ w
  ·exact aX _ _ _ w
  ·exact gV _ _ _ w
  ·exact qg _ _ _ w
  ·exact gV _ _ _ w
  ·exact gy _ _ _ w
  ·exact gy _ _ _ w
  ·exact gV _ _ _ w
  ·exact dB _ _ _ w
  ·exact kQ _ _ _ w
  ·exact iZ _ _ _ w
  ·exact dB _ _ _ w
  ·exact dB _ _ _ w
  ·exact nG _ _ _ w
  ·exact iZ _ _ _ w
  ·exact qh _ _ _ w
  ·exact aX _ _ _ w
theorem aey (k:Int) (w:World):Calls Tryz.prog 60 #[.agg #[.int .i64 (nF k), .int .i64 (nS k), .string (nT k)], .int .u8 99] w fun e w'=>e= .returned (.bool (rC k))∧Below w.heap.size w w':=by
 rcases kinds k with h | h | h
 ·rw [jm (.inl h),jo (.inl h),jq (.inl h),yF (.inl h)]
  exact aX _ _ _ w
 ·rw [jm (.inr h),jo (.inr h),jq (.inr h),yF (.inr h)]
  exact aX _ _ _ w
 ·rcases h with rfl | rfl | rfl | rfl | rfl | rfl | rfl | rfl | rfl | rfl | rfl | rfl | rfl | rfl | rfl | rfl | rfl
  ·exact sV _ _ _ w
  ·exact aX _ _ _ w
  ·exact gV _ _ _ w
  ·exact qg _ _ _ w
  ·exact gV _ _ _ w
  ·exact gy _ _ _ w
  ·exact gy _ _ _ w
  ·exact gV _ _ _ w
  ·exact dB _ _ _ w
  ·exact kQ _ _ _ w
  ·exact iZ _ _ _ w
  ·exact dB _ _ _ w
  ·exact dB _ _ _ w
  ·exact nG _ _ _ w
  ·exact iZ _ _ _ w
  ·exact qh _ _ _ w
  ·exact aX _ _ _ w
theorem aez (k:Int) (w:World):Calls Tryz.prog 60 #[.agg #[.int .i64 (nF k), .int .i64 (nS k), .string (nT k)], .int .u8 103] w fun e w'=>e= .returned (.bool (rG k))∧Below w.heap.size w w':=by
 rcases kinds k with h | h | h
 ·rw [jm (.inl h),jo (.inl h),jq (.inl h),yI (.inl h)]
  exact aX _ _ _ w
 ·rw [jm (.inr h),jo (.inr h),jq (.inr h),yI (.inr h)]
  exact aX _ _ _ w
 ·rcases h with rfl | rfl | rfl | rfl | rfl | rfl | rfl | rfl | rfl | rfl | rfl | rfl | rfl | rfl | rfl | rfl | rfl
  ·exact sV _ _ _ w
  ·exact aX _ _ _ w
  ·exact gV _ _ _ w
  ·exact qg _ _ _ w
  ·exact gV _ _ _ w
  ·exact gy _ _ _ w
  ·exact gy _ _ _ w
  ·exact gV _ _ _ w
  ·exact dB _ _ _ w
  ·exact kQ _ _ _ w
  ·exact iZ _ _ _ w
  ·exact dB _ _ _ w
  ·exact dB _ _ _ w
  ·exact nG _ _ _ w
  ·exact iZ _ _ _ w
  ·exact qh _ _ _ w
  ·exact aX _ _ _ w
open Kt
def Jj (os:List aV) (aj:Int) (i:Nat) (o:aV):Int:=
 KR (e2 (rO o.k) (rS o.k) o.k o.w) (e4 (rK o.k) (rN o.k) aj o.kn o.n) (e6 (rA o.k) (rB o.k) (rC o.k) (rG o.k) o.a o.b o.c) (e8 (rG o.k) o.b)
  (BZ (rA o.k) (rB o.k) (rC o.k) (qy os i o.a) (qy os i o.b) (qy os i o.c)) (YT (rF o.k) (decide ((i:Int) <(os.length:Int)-1)))
def jr (os:List aV) (aj:Int) (i:Nat):Int:=match os[i]? with
 | some o=>Jj os aj i o
 | none=>0
def jF (os:List aV):Bool:=match os[os.length-1]? with
 | some o=>rF o.k
 | none=>false
def scan (os:List aV) (aj:Int):Nat→Int×Int
 | 0=>if jF os then(0,0) else(7,os.length)
 | n+1=>if jr os aj (os.length-(n+1))==0 then scan os aj n else(jr os aj (os.length-(n+1)),((os.length-(n+1):Nat):Int))
def xu (os:List aV) (aj aN:Int):Int×Int:=
 if 2048<os.length then(5,-1) else if aj<0∨64<aj∨aN<0∨384<aN then(4,-1) else scan os aj os.length
def nI (b:Nat) (X:Array Value) (w:World):Prop:=b<w.heap.size∧∀ (j:Nat) v,X[j]?=some v→w.cell? ⟨b,j,none⟩=some v
theorem nI.keep {b:Nat} {X:Array Value} {w w':World} (h:nI b X w) (hb:Below w.heap.size w w'):nI b X w':=
 ⟨Nat.lt_of_lt_of_le h.1 hb.size,fun j v hj=>(hb.cell (p:=⟨b,j,none⟩) h.1).trans (h.2 j v hj)⟩
theorem nI.new (w:World) (X:Array Value) (t:TypeId):nI w.heap.size X (w.alloc (.cells X t)):=⟨by simp,fun j v hj=>(Az w X t j).trans hj⟩
theorem H8 {os:List aV} {aj:Int} {j:Nat} (hj:j<os.length) (h:jr os aj j=0):scan os aj (os.length-j)=scan os aj (os.length-(j+1)):=by
 obtain⟨n,hn⟩:∃n,os.length-j=n+1:=⟨os.length-j-1,by omega⟩
 have e:os.length-(n+1)=j:=by omega
 rw [hn,show os.length-(j+1)=n by omega,scan,e,if_pos (by simp [h])]
theorem rW {os:List aV} {aj:Int} {j:Nat} (hj:j<os.length) (h:jr os aj j≠0):scan os aj (os.length-j)=(jr os aj j,(j:Int)):=by
 obtain⟨n,hn⟩:∃n,os.length-j=n+1:=⟨os.length-j-1,by omega⟩
 have e:os.length-(n+1)=j:=by omega
 rw [hn,scan,e,if_neg (by simpa using h)]
def Lj (p:Int×Int):Value:= .tuple #[.int .i64 p.1, .int .i64 p.2]
end Go.Proofs.YtcjcmnnhmajocabGreat.Ic
namespace Go.Proofs.YtcjcmnnhmajocabGreat.Ot
open Go.RowKit Kt Ic Me Ev
theorem aeA (k:Int):rA k=tA k:=by
 rcases kinds k with h | h | h
 ·unfold rA tA;rw [decide_eq_false (by omega)];split<;>first | omega | rfl
 ·unfold rA tA;rw [decide_eq_false (by omega)];split<;>first | omega | rfl
 ·rcases h with rfl | rfl | rfl | rfl | rfl | rfl | rfl | rfl | rfl | rfl | rfl | rfl | rfl | rfl | rfl | rfl | rfl<;>rfl
theorem aeB (k:Int):rB k=tB k:=by
 rcases kinds k with h | h | h
 ·unfold rB tB;rw [decide_eq_false (by omega)];split<;>first | omega | rfl
 ·unfold rB tB;rw [decide_eq_false (by omega)];split<;>first | omega | rfl
 ·rcases h with rfl | rfl | rfl | rfl | rfl | rfl | rfl | rfl | rfl | rfl | rfl | rfl | rfl | rfl | rfl | rfl | rfl<;>rfl
theorem aeC (k:Int):rC k=tC k:=by
 rcases kinds k with h | h | h
 ·unfold rC tC;rw [decide_eq_false (by omega)];split<;>first | omega | rfl
 ·unfold rC tC;rw [decide_eq_false (by omega)];split<;>first | omega | rfl
 ·rcases h with rfl | rfl | rfl | rfl | rfl | rfl | rfl | rfl | rfl | rfl | rfl | rfl | rfl | rfl | rfl | rfl | rfl<;>rfl
def vZ (aj:Int) (o:aV):Bool:= !e2 (rO o.k) (rS o.k) o.k o.w&&(!e4 (rK o.k) (rN o.k) aj o.kn o.n&&(!e6 (rA o.k) (rB o.k) (rC o.k) (rG o.k) o.a o.b o.c&& !e8 (rG o.k) o.b))
def tkB (os:List aV) (i:Nat) (o:aV):Bool:= !BZ (rA o.k) (rB o.k) (rC o.k) (qy os i o.a) (qy os i o.b) (qy os i o.c)
theorem Fv {os:List aV} {aj:Int} {i:Nat} {o:aV}:Jj os aj i o=0↔vZ aj o=true∧tkB os i o=true∧(rF o.k=true→¬ (i:Int) <(os.length:Int)-1):=by
 unfold Jj vZ tkB YT KR
 generalize e2 (rO o.k) (rS o.k) o.k o.w=x2
 generalize e4 (rK o.k) (rN o.k) aj o.kn o.n=x4
 generalize e6 (rA o.k) (rB o.k) (rC o.k) (rG o.k) o.a o.b o.c=x6
 generalize e8 (rG o.k) o.b=x8
 generalize BZ (rA o.k) (rB o.k) (rC o.k) (qy os i o.a) (qy os i o.b) (qy os i o.c)=zT
 generalize rF o.k=f
 by_cases h:(i:Int) <(os.length:Int)-1
 ·rw [decide_eq_true h]
  cases x2<;>cases x4<;>cases x6<;>cases x8<;>cases zT<;>cases f<;>simp [h]
 ·rw [decide_eq_false h]
  cases x2<;>cases x4<;>cases x6<;>cases x8<;>cases zT<;>cases f<;>simp [h]
structure Loc (aj:Int) (o:aV):Prop where
 r:Fp o
 e:vZ aj o=true
theorem Loc.k {aj:Int} {o:aV} (h:Loc aj o):1≤o.k∧o.k≤17:=by
 have:=h.e
 unfold vZ e2 at this
 simp only [Bool.and_eq_true,Bool.not_eq_true',Bool.or_eq_false_iff,Bool.not_eq_false'] at this
 have h1:=this.1.1
 unfold rO at h1
 split at h1<;>first | omega | exact absurd h1 (by decide)
theorem Loc.w {aj:Int} {o:aV} (h:Loc aj o):0≤o.w∧o.w<max (rS o.k) 1∧((o.k=14∨o.k=13)→o.w≠0):=by
 have:=h.e
 unfold vZ e2 at this
 simp only [Bool.and_eq_true,Bool.not_eq_true',Bool.or_eq_false_iff,decide_eq_false_iff_not,Bool.and_eq_false_iff] at this
 obtain⟨⟨_,h1,h2,h3⟩,_⟩:=this
 refine⟨by omega,by omega,fun hk hw=> ?_⟩
 rcases h3 with h3 | h3
 ·simp at h3;omega
 ·simp at h3;exact h3 hw
theorem Loc.n {aj:Int} {o:aV} (h:Loc aj o):0≤o.n∧o.n≤aj∧(rN o.k=false→o.n=0)∧(rK o.k=false→o.kn=0):=by
 have:=h.e
 unfold vZ e4 at this
 simp only [Bool.and_eq_true,Bool.not_eq_true',Bool.or_eq_false_iff,decide_eq_false_iff_not,Bool.and_eq_false_iff] at this
 obtain⟨_,⟨h1,h2,h3,h4⟩,_⟩:=this
 refine⟨by omega,by omega,fun hk=> ?_,fun hk=> ?_⟩
 ·rw [hk] at h2;simpa using h2
 ·rw [hk] at h1;simpa using h1
theorem H9 (os:List aV) (t:Nat):yj os t=(opAt os t).k:=by
 unfold yj opAt
 rw [List.getD_eq_getElem?_getD]
 cases os[t]?<;>rfl
def GV (ops:List aV) (x:Int):Prop:=0≤x∧x<ops.length∧gv (opAt ops x.toNat).k=true
theorem sW {os:List aV} {i:Nat} {x:Int} (hi:i≤os.length):qy os i x=true↔(0≤x∧x<i∧gv (opAt os x.toNat).k=true):=by
 unfold qy
 rw [H9]
 simp [and_assoc]
theorem bZ {a b:List aV} {t:Nat} (h:t<a.length):opAt (a++b) t=opAt a t:=by
 unfold opAt
 rw [List.getD_eq_getElem?_getD,List.getD_eq_getElem?_getD,List.getElem?_append_left h]
theorem dW (a:List aV) (x:aV):opAt (a++ [x]) a.length=x:=by
 unfold opAt
 rw [List.getD_eq_getElem?_getD,List.getElem?_append_right (Nat.le_refl _),Nat.sub_self];rfl
theorem GV.app {ops:List aV} {x:Int} (h:GV ops x) (y:aV):GV (ops++ [y]) x:=by
 obtain⟨h1,h2,h3⟩:=h
 exact⟨h1,by rw [List.length_append];omega,by rw [bZ (by omega)];exact h3⟩
theorem GV.new (ops:List aV) (y:aV) (h:gv y.k=true):GV (ops++ [y]) (ops.length:Int):=
 ⟨by omega,by rw [List.length_append,List.length_singleton];omega,by rw [Int.toNat_natCast,dW];exact h⟩
def TK (ops:List aV) (o:aV):Prop:=∀j,j<3→ZO o.k j=true→GV ops (ar o j)
structure mD (aj:Int) (ops:List aV):Prop where
 l:∀m,m<ops.length→Loc aj (opAt ops m)
 t:∀m,m<ops.length→∀j,j<3→ZO (opAt ops m).k j=true→0≤ar (opAt ops m) j∧ar (opAt ops m) j<m∧gv (opAt ops (ar (opAt ops m) j).toNat).k=true
theorem mD.nil (aj:Int):mD aj []:=⟨fun m h=>absurd h (Nat.not_lt_zero _),fun m h=>absurd h (Nat.not_lt_zero _)⟩
theorem mD.app {aj:Int} {ops:List aV} (h:mD aj ops) {x:aV} (hl:Loc aj x) (ht:TK ops x):mD aj (ops++ [x]):=by
 have hlen:(ops++ [x]).length=ops.length+1:=by simp
 refine⟨fun m hm=> ?_,fun m hm j hj hr=> ?_⟩
 ·rw [hlen] at hm
  by_cases e:m<ops.length
  ·rw [bZ e];exact h.l m e
  ·obtain rfl:m=ops.length:=by omega
   rw [dW];exact hl
 ·rw [hlen] at hm
  by_cases e:m<ops.length
  ·rw [bZ e] at hr⊢
   obtain⟨h1,h2,h3⟩:=h.t m e j hj hr
   exact⟨h1,h2,by rw [bZ (by omega)];exact h3⟩
  ·obtain rfl:m=ops.length:=by omega
   rw [dW] at hr⊢
   obtain⟨h1,h2,h3⟩:=ht j hj hr
   exact⟨h1,h2,by rw [bZ (by omega)];exact h3⟩
structure Good (aj:Int) (os:List aV):Prop where
 n0:0<os.length
 n1:os.length≤2048
 c:0≤aj∧aj≤64
 a:mD aj os
 f:∀m,m<os.length→(rF (opAt os m).k=true↔m+1=os.length)
theorem TKb {os:List aV} {i:Nat} {o:aV} (hi:i≤os.length):tkB os i o=true↔∀j,j<3→ZO o.k j=true→0≤ar o j∧ar o j<i∧gv (opAt os (ar o j).toNat).k=true:=by
 unfold tkB BZ
 rw [aeA,aeB,aeC]
 simp only [Bool.not_or,Bool.not_and,Bool.not_not,Bool.and_eq_true,Bool.or_eq_true,Bool.not_eq_true']
 constructor
 ·rintro⟨h1,h2,h3⟩ j hj hr
  rcases(show j=0∨j=1∨j=2 by omega) with rfl | rfl | rfl
  ·have Ws:tA o.k=true:=hr
   exact(sW hi).1 (h1.resolve_left (by rw [Ws];decide))
  ·have Ws:tB o.k=true:=hr
   exact(sW hi).1 (h2.resolve_left (by rw [Ws];decide))
  ·have Ws:tC o.k=true:=hr
   exact(sW hi).1 (h3.resolve_left (by rw [Ws];decide))
 ·intro h
  refine⟨?_, ?_, ?_⟩
  ·cases e:tA o.k with
   | false=>exact .inl rfl
   | true=>exact .inr ((sW hi).2 (h 0 (by decide) e))
  ·cases e:tB o.k with
   | false=>exact .inl rfl
   | true=>exact .inr ((sW hi).2 (h 1 (by decide) e))
  ·cases e:tC o.k with
   | false=>exact .inl rfl
   | true=>exact .inr ((sW hi).2 (h 2 (by decide) e))
theorem AU {os:List aV} {aj:Int} {i:Nat} (h:i<os.length):jr os aj i=Jj os aj i (opAt os i):=by
 unfold jr opAt
 rw [List.getD_eq_getElem?_getD,List.getElem?_eq_getElem h];rfl
theorem xQ {os:List aV} (h:0<os.length):jF os=rF (opAt os (os.length-1)).k:=by
 unfold jF opAt
 rw [List.getD_eq_getElem?_getD,List.getElem?_eq_getElem (by omega)];rfl
theorem Ll {os:List aV} {aj:Int}:∀n,n≤os.length→((scan os aj n).1=0↔(∀k,k<n→jr os aj (os.length-(k+1))=0)∧jF os=true)
 | 0,_=>by
  unfold scan
  cases jF os with
  | true=>simp
  | false=>simp
 | n+1,hn=>by
  unfold scan
  by_cases e:jr os aj (os.length-(n+1))=0
  ·rw [if_pos (by simp [e]),Ll n (by omega)]
   constructor
   ·rintro⟨h1,h2⟩
    refine⟨fun k hk=> ?_,h2⟩
    by_cases oQ:k=n
    ·rw [oQ];exact e
    ·exact h1 k (by omega)
   ·rintro⟨h1,h2⟩
    exact⟨fun k hk=>h1 k (by omega),h2⟩
  ·rw [if_neg (by simpa using e)]
   exact⟨fun h=>absurd h e,fun h=>absurd (h.1 n (by omega)) e⟩
theorem AV {os:List aV} {aj aN:Int} (hr:∀o∈os,Fp o):(xu os aj aN).1=0↔Good aj os∧0≤aN∧aN≤384:=by
 have Ux:∀i,i<os.length→Fp (opAt os i):=fun i hi=>by
  unfold opAt
  rw [List.getD_eq_getElem?_getD,List.getElem?_eq_getElem hi]
  exact hr _ (List.getElem_mem hi)
 unfold xu
 by_cases h1:2048<os.length
 ·rw [if_pos h1]
  exact⟨fun h=>absurd h (by decide),fun h=>absurd h.1.n1 (by omega)⟩
 rw [if_neg h1]
 by_cases h2:aj<0∨64<aj∨aN<0∨384<aN
 ·rw [if_pos h2]
  exact⟨fun h=>absurd h (by decide),fun h=>by have:=h.1.c;omega⟩
 rw [if_neg h2,Ll _ (Nat.le_refl _)]
 constructor
 ·rintro⟨h3,h4⟩
  have h0:0<os.length:=by
   rcases Nat.eq_zero_or_pos os.length with e | e
   ·unfold jF at h4
    rw [List.getElem?_eq_none (by omega)] at h4
    exact absurd h4 (by decide)
   ·exact e
  have h5:∀i,i<os.length→Jj os aj i (opAt os i)=0:=fun i hi=>by
   have:=h3 (os.length-(i+1)) (by omega)
   rw [show os.length-(os.length-(i+1)+1)=i by omega,AU hi] at this
   exact this
  refine⟨⟨h0,by omega,by omega,⟨fun m hm=>⟨Ux m hm,(Fv.1 (h5 m hm)).1⟩,fun m hm=>(TKb (by omega)).1 (Fv.1 (h5 m hm)).2.1⟩,fun m hm=>⟨fun h=> ?_,fun h=> ?_⟩⟩,by omega,by omega⟩
  ·have:=(Fv.1 (h5 m hm)).2.2 h;omega
  ·rw [xQ h0] at h4
   rw [show m=os.length-1 by omega];exact h4
 ·rintro⟨g,h4,h5⟩
  refine⟨fun k hk=> ?_, ?_⟩
  ·rw [AU (by omega)]
   exact Fv.2 ⟨(g.a.l _ (by omega)).e,(TKb (by omega)).2 (g.a.t _ (by omega)),fun h=>by have:=(g.f _ (by omega)).1 h;omega⟩
  ·rw [xQ g.n0]
   exact(g.f _ (by have:=g.n0;omega)).2 (by have:=g.n0;omega)
theorem AX {ops:List aV} {x:aV} (h:x∈ops):∃m,m<ops.length∧opAt ops m=x:=by
 obtain⟨m,hm,e⟩:=List.getElem_of_mem h
 exact⟨m,hm,by unfold opAt;rw [List.getD_eq_getElem?_getD,List.getElem?_eq_getElem hm];exact e⟩
structure Pre (aj:Int) (ops:List aV):Prop where
 a:mD aj ops
 f:∀m,m<ops.length→rF (opAt ops m).k=false
theorem Pre.app {aj:Int} {ops:List aV} (h:Pre aj ops) {x:aV} (hl:Loc aj x) (ht:TK ops x) (hf:rF x.k=false):Pre aj (ops++ [x]):=by
 refine⟨h.a.app hl ht,fun m hm=> ?_⟩
 rw [List.length_append,List.length_singleton] at hm
 by_cases e:m<ops.length
 ·rw [bZ e];exact h.f m e
 ·obtain rfl:m=ops.length:=by omega
  rw [dW];exact hf
structure Gr (aj:Int) (s s':Wk):Prop where
 p:Pre aj s'.ops
 n:s'.ops.length≤s.ops.length+1
 tt:s'.to=s.to
 g:∀x,GV s.ops x→GV s'.ops x
theorem Gr.refl {aj:Int} {s:Wk} (h:Pre aj s.ops):Gr aj s s:=⟨h,by omega,rfl,fun _ h=>h⟩
theorem Gr.put {aj:Int} {s:Wk} (h:Pre aj s.ops) {x:aV} (hl:Loc aj x) (ht:TK s.ops x) (hf:rF x.k=false):Gr aj s (s.put x):=
 ⟨h.app hl ht hf,by show(s.ops++ [x]).length≤_;simp,rfl,fun _ h=>h.app x⟩
theorem i6 (x:Int) (h: -1≤x∧x≤5000000000):I6 x:=by unfold I6;omega
theorem jU {ops:List aV} {o:aV} (h:tA o.k=false) (h2:tB o.k=false) (h3:tC o.k=false):TK ops o:=fun j hj hr=>by
 rcases(show j=0∨j=1∨j=2 by omega) with rfl | rfl | rfl
 ·exact absurd (show tA o.k=true from hr) (by rw [h];decide)
 ·exact absurd (show tB o.k=true from hr) (by rw [h2];decide)
 ·exact absurd (show tC o.k=true from hr) (by rw [h3];decide)
theorem Uy {k:Int} (h:yB k=true):k=1∨(4≤k∧k≤8):=of_decide_eq_true h
theorem GV.i6 {ops:List aV} {x:Int} (h:GV ops x) (hn:ops.length≤2048):I6 x:=by
 obtain⟨h1,h2,_⟩:=h
 unfold I6;omega
theorem Loc.VJ {aj:Int} (hc:0≤aj) {w a b c:Int} (hw:0≤w∧w≤12) (ha:I6 a) (hb:I6 b) (hcc:I6 c):Loc aj ⟨7,w,a,b,c,0,0⟩:=by
 refine⟨⟨i6 7 (by decide),i6 w (by omega),ha,hb,hcc,⟨Int.le_refl 0,(by decide:(0:Int) <4294967296)⟩,i6 0 (by decide)⟩, ?_⟩
 unfold vZ e2 e4 e6 e8
 dsimp only [rO,rS,rK,rN,rA,rB,rC,rG]
 have e:decide (aj<0)=false:=decide_eq_false (by omega)
 have e1:decide (w<0)=false:=decide_eq_false (by omega)
 have e2:decide (max 13 1≤w)=false:=decide_eq_false (by omega)
 simp [e,e1,e2]
structure FE (aj:Int) (n:Nat) (ops:List aV):Prop where
 a:mD aj ops
 f:∀m,m<ops.length→(rF (opAt ops m).k=true↔m+1=ops.length)
 n0:0<ops.length
 n:ops.length≤n
theorem FE.put {aj:Int} {n:Nat} {ops:List aV} (h:Pre aj ops) (hn:ops.length≤n) {x:aV} (hl:Loc aj x) (ht:TK ops x) (hf:rF x.k=true):FE aj (n+1) (ops++ [x]):=by
 have e:(ops++ [x]).length=ops.length+1:=by simp
 refine⟨h.a.app hl ht,fun m hm=> ?_,by omega,by omega⟩
 rw [e] at hm⊢
 by_cases em:m<ops.length
 ·rw [bZ em,h.f m em]
  exact⟨fun h=>absurd h (by decide),fun h=>by omega⟩
 ·obtain rfl:m=ops.length:=by omega
  rw [dW]
  exact⟨fun _=>rfl,fun _=>hf⟩
theorem oq {α:Type} (f:Nat→α) (i:Nat) (x:α):aF f i x i=x:=if_pos rfl
theorem dO {α:Type} (f:Nat→α) {i j:Nat} (x:α) (h:j≠i):aF f i x j=f j:=if_neg h
end Go.Proofs.YtcjcmnnhmajocabGreat.Ot
namespace Go.Proofs.YtcjcmnnhmajocabGreat.Lf
open Go.RowKit Kt Ic Me
structure Lk where
 ops:List aV
 jg:Int
 aj:Int
 aN:Int
 pc:Int
 nx:Int
 reg:Nat→Int
 kn:Bool
 kd:Int
 fa:Int
 fb:Int
 fo:Int
def au (x:Int):Int:=x%4294967296
def Lk.n (s:Lk):Int:=s.ops.length
def Lk.put (s:Lk) (o:aV):Lk:={s with ops:=s.ops++ [o]}
def Lk.P (s:Lk) (o:aV):Int×Lk:=(s.n,s.put o)
def Lk.K (s:Lk) (x:Int):Int×Lk:=s.P ⟨1,0,0,0,0,x,0⟩
def Lk.B (s:Lk) (w a b:Int):Int×Lk:=s.P ⟨4,w,a,b,0,0,0⟩
def Lk.U (s:Lk) (w a:Int):Int×Lk:=s.P ⟨5,w,a,0,0,0,0⟩
def Lk.S (s:Lk) (a b c:Int):Int×Lk:=s.P ⟨6,0,a,b,c,0,0⟩
def Lk.slot (s:Lk) (w a:Int):Lk:=s.put ⟨3,w,a,0,0,0,0⟩
def Lk.add (s:Lk) (a n:Int):Int×Lk:=(s.K (au n)).2.B 0 a (s.K (au n)).1
def Lk.bI (s:Lk) (r:Nat) (a:Int):Lk:={s with reg:=aF s.reg r a}
def Lk.get (s:Lk) (r:Nat):Int×Lk:=if s.reg r<0 then(s.n,(s.put ⟨2,r,0,0,0,0,0⟩).bI r s.n) else(s.reg r,s)
def Lk.set (s:Lk) (r:Nat) (a:Int):Lk:=(s.bI r a).slot r a
def Lk.load (s:Lk) (w a:Int):Int×Lk:=s.P ⟨9,w,a,0,0,s.pc,s.aj-1⟩
def Lk.store (s:Lk) (w a b:Int):Lk:=s.put ⟨10,w,a,b,0,s.pc,s.aj-1⟩
def Lk.watch (s:Lk):Lk:=s.put ⟨11,0,0,0,0,s.nx,s.aj⟩
def Lk.goes (s:Lk) (t:Int):Lk:=s.put ⟨15,0,0,0,0,t,s.aj⟩
def Lk.dK (s:Lk) (a:Int):Lk:=s.put ⟨16,0,a,0,0,0,s.aj⟩
def Lk.gU (s:Lk) (k a b o:Int):Lk:={s with kn:=true,kd:=k,fa:=a,fb:=b,fo:=o}
def Lk.nJ (s:Lk):Lk:=if s.kn then s else(s.put ⟨17,0,0,0,0,0,0⟩).gU 0 (-1) (-1) s.n
def Lk.some (s:Lk) (z t:Int):Int×Int×Lk:=if 0≤t then(t,z,s) else if z<0 then(s.n,s.n,(s.K 0).2) else(z,z,s)
def Lk.s1 (s:Lk):Int×Int×Lk:=s.some (-1) s.fa
def Lk.s2 (s:Lk):Int×Int×Lk:=s.s1.2.2.some s.s1.2.1 s.fb
def Lk.s3 (s:Lk):Int×Int×Lk:=s.s2.2.2.some s.s2.2.1 s.fo
def Lk.mX (s:Lk):Int×Lk:=if s.kd=0 then(s.fo,s) else s.s3.2.2.P ⟨7,s.kd,s.s1.1,s.s2.1,s.s3.1,0,0⟩
def Lk.now (s:Lk):Int×Lk:=s.nJ.mX
def Lk.holds (s:Lk) (c:Int):Int×Lk:=s.now.2.P ⟨8,c,s.now.1,0,0,0,0⟩
def Lk.aZ (s:Lk) (w t:Int):Lk:=if 0≤t then s.slot w t else s
def Lk.flag (s:Lk) (k a b o:Int):Lk:=((((((s.gU k a b o).K (au k)).2.slot 8 s.n).aZ 9 a).aZ 10 b).aZ 11 o)
def Lk.push (s:Lk) (a:Int):Lk:=
 let g:=s.get 7
 let d:=g.2.add g.1 (-4)
 (d.2.store 2 d.1 a).set 7 d.1
def Lk.pop (s:Lk):Int×Lk:=
 let g:=s.get 7
 let v:=g.2.load 4 g.1
 let u:=v.2.add g.1 4
 (v.1,u.2.set 7 u.1)
def Lk.ig (s:Lk) (r:Nat) (m:Int):Int×Lk:=
 let g:=s.get r
 let k:=g.2.K m
 k.2.B 0 g.1 k.1
def way (o:Int):Int×Int:=
 if o=0 then(0,1) else if o=2 then(1,3) else if o=7 then(1,3) else if o=13 then(9,10) else if o=4 then(2,5) else if o=5 then(3,5) else if o=6 then(4,5) else if o=8 then(2,5)
 else if o=14 then(11,5) else if o=15 then(12,5) else if o=9 then(5,6) else if o=10 then(6,7) else if o=11 then(7,8) else if o=12 then(8,9) else(0,0)
def Lk.mY (s:Lk) (o:Int) (d:Nat) (a b:Int):Lk:=
 let f:=s.now
 let k2:=f.2.K 2
 let sh:=k2.2.B 6 f.1 k2.1
 let k1:=sh.2.K 1
 let c:=k1.2.B 2 sh.1 k1.1
 let w:=if o=3 then 1 else 0
 let x:=c.2.B w a b
 let y:=x.2.B w x.1 c.1
 (y.2.set d y.1).flag (if o=3 then 4 else 2) a b f.1
def Lk.lZ (s:Lk) (o:Int) (d:Nat) (b:Int):Lk:=
 let g:=s.get d
 if o=1∨o=3 then g.2.mY o d g.1 b else
 let s1:=if o=14∨o=15 then(let u:=g.2.U 6 b;u.2.put ⟨13,7,u.1,0,0,s.pc,s.aj-1⟩) else g.2
 let s2:=if 6≤(way o).2∧(way o).2≤9 then s1.now else(-1,s1)
 let v:=if o≠7 then s2.2.B (way o).1 g.1 b else(0,s2.2)
 let s3:=if o≠7∧o≠8 then v.2.set d v.1 else v.2
 s3.flag (way o).2 (if(way o).2=5 then v.1 else g.1) (if(way o).2=5 then-1 else b) s2.1
def Lk.both (s:Lk) (o:Int) (d r:Nat) (m:Int):Lk:=
 let at_:=s.ig r m
 let g:=at_.2.get d
 let v:=g.2.load 4 at_.1
 if o=24 then(v.2.store 2 at_.1 g.1).set d v.1
 else if o=25 then(let x:=v.2.B 0 v.1 g.1;((x.2.store 2 at_.1 x.1).set d v.1).flag 1 v.1 g.1 (-1))
 else(let c:=v.2.get 0;let e:=c.2.B 13 c.1 v.1;let x:=e.2.S e.1 g.1 v.1;((x.2.store 2 at_.1 x.1).set 0 v.1).flag 3 c.1 v.1 (-1))
def Lk.plain (s:Lk) (o:Int) (d r:Nat) (f m:Int):Bool×Lk:=
 if o=0 then(true,s)
 else if o=16 then(let k:=s.K m;(true,k.2.set d k.1))
 else if o=17∨o=18 then(let g:=s.get d;let w:=g.2.now;let x:=w.2.add g.1 (if o=18 then-1 else 1);(true,(x.2.set d x.1).flag (if o=18 then 12 else 11) g.1 (-1) w.1))
 else if o=19 then(let g:=s.get d;let z:=g.2.K 0;let x:=z.2.U 1 g.1;(true,(x.2.set d x.1).flag 3 z.1 g.1 (-1)))
 else if o=20 then(let g:=s.get d;let x:=g.2.U 0 g.1;(true,x.2.set d x.1))
 else if o=21 then(let h:=s.holds f;(true,h.2.set d h.1))
 else if o=22 then(let g:=s.get r;(true,g.2.set d g.1))
 else if o=23 then(let w:=s.ig r m;(true,w.2.set d w.1))
 else if o=27 then(let g:=s.get r;(true,g.2.lZ f d g.1))
 else if o=28∨o=29 then(let k:=s.K m;(true,k.2.lZ f d k.1))
 else if o=30 then(let w:=s.ig r m;let v:=w.2.load f w.1;(true,v.2.set d v.1))
 else if o=31 then(let w:=s.ig r m;let g:=w.2.get d;(true,(g.2.store f w.1 g.1).watch))
 else if o=24∨o=25∨o=26 then(true,(s.both o d r m).watch)
 else(false,s)
def Lk.bg (s:Lk) (o:Int) (d r:Nat) (f m:Int):Lk:=
 if o=1 then s.put ⟨14,2,0,0,0,s.pc,s.aj-1⟩
 else if o=5 then s.put ⟨14,1,0,m,0,s.nx,s.aj⟩
 else if o=6∨o=7 then s.goes (au (s.nx+m))
 else if o=12∨o=13 then(let h:=s.holds f;(h.2.put ⟨12,0,h.1,0,0,au (s.nx+m),s.aj⟩).goes s.nx)
 else if o=9 then(let g:=s.get r;g.2.dK g.1)
 else if o=11 then(let w:=s.ig r m;let v:=w.2.load 4 w.1;v.2.dK v.1)
 else if o=8 then(let k:=s.K s.nx;(k.2.push k.1).goes (au (s.nx+m)))
 else if o=10 then(let g:=s.get r;let k:=g.2.K s.nx;(k.2.push k.1).dK g.1)
 else if o=2 then(let v:=s.pop;v.2.dK v.1)
 else if o=14 then(let g:=s.get r;(g.2.push g.1).watch)
 else if o=15 then(let v:=s.pop;v.2.set d v.1)
 else if o=3 then(let v:=s.now;(v.2.push v.1).watch)
 else if o=4 then(let v:=s.pop;let k:=v.2.K 15;let x:=k.2.B 2 v.1 k.1;x.2.flag 0 (-1) (-1) x.1)
 else s
def Lk.one (s:Lk) (o:Int) (d r:Nat) (f m:Int):Lk:=if(s.plain o d r f m).1 then(s.plain o d r f m).2 else s.bg o d r f m
open Ev
open Ot (opAt Fp vZ I6 i6 GV TK Pre mD bZ dW tA tB tC ar ZO jU)
theorem jv {aj:Int} (k w a b c kn n:Int) (hk:rO k=true) (k0:0≤k∧k≤17) (hw:0≤w∧w<max (rS k) 1) (hs:rS k≤100) (h0:k=13∨k=14→w≠0) (oQ:0≤kn∧kn<4294967296) (hkk:rK k=false→kn=0) (hn:0≤n∧n≤aj) (h64:aj≤64) (hnn:rN k=false→n=0)
  (ha:rA k=false→a=0) (hb:rB k=false→rG k=false→b=0) (hg:rG k=true→0≤b∧b<4294967296) (hc:rC k=false→c=0) (xa:I6 a) (xb:I6 b) (xc:I6 c):Ot.Loc aj ⟨k,w,a,b,c,kn,n⟩:=by
 refine⟨⟨i6 k (by omega),i6 w (by omega),xa,xb,xc,oQ,i6 n (by omega)⟩, ?_⟩
 unfold vZ e2 e4 e6 e8
 dsimp only
 have e1:decide (w<0)=false:=decide_eq_false (by omega)
 have e2:decide (max (rS k) 1≤w)=false:=decide_eq_false (by omega)
 have e3:((k==14 || k==13)&&w==0)=false:=by
  cases h:(k==14 || k==13) with
  | false=>rfl
  | true=>
   have:=h0 (by simp at h;omega)
   simpa using this
 have e4:(!rK k&&kn !=0)=false:=by
  cases h:rK k with
  | true=>rfl
  | false=>rw [hkk h];rfl
 have e5:(!rN k&&n !=0)=false:=by
  cases h:rN k with
  | true=>rfl
  | false=>rw [hnn h];rfl
 have e6:decide (n<0)=false:=decide_eq_false (by omega)
 have e7:decide (aj<n)=false:=decide_eq_false (by omega)
 have e8:(!rA k&&a !=0)=false:=by
  cases h:rA k with
  | true=>rfl
  | false=>rw [ha h];rfl
 have e9:(!rB k&&(!rG k&&b !=0))=false:=by
  cases h:rB k with
  | true=>rfl
  | false=>
   cases h2:rG k with
   | true=>rfl
   | false=>rw [hb h h2];rfl
 have BZ:(!rC k&&c !=0)=false:=by
  cases h:rC k with
  | true=>rfl
  | false=>rw [hc h];rfl
 have e11:(rG k&&(decide (b<0) || decide (4294967295<b)))=false:=by
  cases h:rG k with
  | false=>rfl
  | true=>
   have:=hg h
   rw [decide_eq_false (by omega),decide_eq_false (by omega)];rfl
 rw [e1,e2,e3,e4,e5,e6,e7,e8,e9,BZ,e11,hk];rfl
def GM (ops:List aV) (t:Int):Prop:=t= -1∨GV ops t
structure Px (s s':Lk):Prop where
 o:∃l,s'.ops=s.ops++l
 c:s'.aj=s.aj
 p:s'.pc=s.pc
 x:s'.nx=s.nx
theorem Px.refl (s:Lk):Px s s:=⟨⟨[],by simp⟩,rfl,rfl,rfl⟩
theorem Px.trans {a b c:Lk} (h:Px a b) (k:Px b c):Px a c:=by
 obtain⟨l,e⟩:=h.o
 obtain⟨m,e2⟩:=k.o
 exact⟨⟨l++m,by rw [e2,e,List.append_assoc]⟩,k.c.trans h.c,k.p.trans h.p,k.x.trans h.x⟩
theorem Px.put (s:Lk) (o:aV):Px s (s.put o):=⟨⟨[o],rfl⟩,rfl,rfl,rfl⟩
theorem Px.bI (s:Lk) (r:Nat) (x:Int):Px s (s.bI r x):=⟨⟨[],by simp [Lk.bI]⟩,rfl,rfl,rfl⟩
theorem Px.gU (s:Lk) (k a b o:Int):Px s (s.gU k a b o):=⟨⟨[],by simp [Lk.gU]⟩,rfl,rfl,rfl⟩
theorem Wu {ops l:List aV} {x:Int} (h:GV ops x):GV (ops++l) x:=by
 obtain⟨h1,h2,h3⟩:=h
 exact⟨h1,by rw [List.length_append];omega,by rw [bZ (by omega)];exact h3⟩
theorem Px.gv {s s':Lk} (h:Px s s') {x:Int} (g:GV s.ops x):GV s'.ops x:=by
 obtain⟨l,e⟩:=h.o
 rw [e];exact Wu g
theorem Px.gm {s s':Lk} (h:Px s s') {x:Int} (g:GM s.ops x):GM s'.ops x:=g.imp id h.gv
theorem Px.kC {c:Prop} [Decidable c] {s a b:Lk} (h:Px s a) (k:Px s b):Px s (if c then a else b):=by
 split
 ·exact h
 ·exact k
theorem Px.K (s:Lk) (x:Int):Px s (s.K x).2:=Px.put s _
theorem Px.B (s:Lk) (w x y:Int):Px s (s.B w x y).2:=Px.put s _
theorem Px.U (s:Lk) (w x:Int):Px s (s.U w x).2:=Px.put s _
theorem Px.S (s:Lk) (x y z:Int):Px s (s.S x y z).2:=Px.put s _
theorem Px.load (s:Lk) (x y:Int):Px s (s.load x y).2:=Px.put s _
theorem Px.store (s:Lk) (x y z:Int):Px s (s.store x y z):=Px.put s _
theorem Px.watch (s:Lk):Px s s.watch:=Px.put s _
theorem Px.goes (s:Lk) (t:Int):Px s (s.goes t):=Px.put s _
theorem Px.dK (s:Lk) (t:Int):Px s (s.dK t):=Px.put s _
theorem Px.DY {α:Type} {c:Prop} [Decidable c] {s:Lk} {x y:α×Lk} (h:Px s x.2) (k:Px s y.2):Px s (if c then x else y).2:=by
 split
 ·exact h
 ·exact k
theorem Px.to {a b c:Lk} (k:Px b c) (h:Px a b):Px a c:=h.trans k
theorem Px.get (s:Lk) (r:Nat):Px s (s.get r).2:=by
 unfold Lk.get
 split
 ·exact(Px.put s _).trans (Px.bI _ _ _)
 ·exact Px.refl s
theorem Px.set (s:Lk) (r:Nat) (x:Int):Px s (s.set r x):=(Px.bI s r x).trans (Px.put _ _)
theorem Px.add (s:Lk) (x y:Int):Px s (s.add x y).2:=(Px.put s _).trans (Px.put _ _)
theorem Px.ig (s:Lk) (r:Nat) (m:Int):Px s (s.ig r m).2:=((Px.get s r).trans (Px.put _ _)).trans (Px.put _ _)
theorem Px.some (s:Lk) (z t:Int):Px s (s.some z t).2.2:=by
 unfold Lk.some
 split
 ·exact Px.refl s
 ·split
  ·exact Px.put s _
  ·exact Px.refl s
theorem Px.nJ (s:Lk):Px s s.nJ:=by
 unfold Lk.nJ
 split
 ·exact Px.refl s
 ·exact(Px.put s _).trans (Px.gU _ _ _ _ _)
theorem Px.mX (s:Lk):Px s s.mX.2:=by
 unfold Lk.mX
 split
 ·exact Px.refl s
 ·exact(((Px.some s _ _).trans (Px.some _ _ _)).trans (Px.some _ _ _)).trans (Px.put _ _)
theorem Px.now (s:Lk):Px s s.now.2:=(Px.nJ s).trans (Px.mX _)
theorem Px.holds (s:Lk) (c:Int):Px s (s.holds c).2:=(Px.now s).trans (Px.put _ _)
theorem Px.aZ (s:Lk) (w t:Int):Px s (s.aZ w t):=Px.kC (Px.put s _) (Px.refl s)
theorem Px.flag (s:Lk) (k a b o:Int):Px s (s.flag k a b o):=(((((Px.gU s k a b o).trans (Px.put _ _)).trans (Px.put _ _)).trans (Px.aZ _ _ _)).trans (Px.aZ _ _ _)).trans (Px.aZ _ _ _)
theorem Px.push (s:Lk) (a:Int):Px s (s.push a):=(((Px.get s 7).trans (Px.add _ _ _)).trans (Px.put _ _)).trans (Px.set _ _ _)
theorem Px.pop (s:Lk):Px s s.pop.2:=(((Px.get s 7).trans (Px.put _ _)).trans (Px.add _ _ _)).trans (Px.set _ _ _)
structure Gd (N k:Nat) (s:Lk):Prop where
 p:Pre s.aj s.ops
 r:∀j,j<8→GM s.ops (s.reg j)
 f:s.kn=true→(0≤s.kd∧s.kd≤12)∧GM s.ops s.fa∧GM s.ops s.fb∧GM s.ops s.fo∧(s.kd=0→GV s.ops s.fo)
 c:1≤s.aj∧s.aj≤64
 b:0≤s.pc∧s.pc<4294967296∧0≤s.nx∧s.nx<4294967296
 n:s.ops.length≤N+k
 l:N≤4000∧k≤100
variable {N k:Nat} {s:Lk}
theorem Gd.i6 (h:Gd N k s) {t:Int} (g:GV s.ops t):I6 t:=Ot.i6 t (by have:=g.1;have:=g.2.1;have:=h.n;have:=h.l;omega)
theorem z6:I6 0:=i6 0 (by decide)
theorem Gd.put (h:Gd N k s) {o:aV} (hl:Ot.Loc s.aj o) (ht:TK s.ops o) (hf:rF o.k=false) (hk:k<100):Gd N (k+1) (s.put o):=
 ⟨h.p.app hl ht hf,fun j hj=>(Px.put s o).gm (h.r j hj),fun e=>have a:=h.f e
  ⟨a.1,(Px.put s o).gm a.2.1,(Px.put s o).gm a.2.2.1,(Px.put s o).gm a.2.2.2.1,fun e=>(Px.put s o).gv (a.2.2.2.2 e)⟩,h.c,h.b,by have:=h.n;show(s.ops++ [o]).length≤_;rw [List.length_append,List.length_singleton];omega,by have:=h.l;omega⟩
theorem Gd.new (h:Gd N k s) {o:aV} (hl:Ot.Loc s.aj o) (ht:TK s.ops o) (hf:rF o.k=false) (hg:gv o.k=true) (hk:k<100):Gd N (k+1) (s.P o).2∧GV (s.P o).2.ops (s.P o).1:=⟨h.put hl ht hf hk,GV.new s.ops o hg⟩
theorem Gd.bI (h:Gd N k s) (r:Nat) {t:Int} (g:GV s.ops t):Gd N k (s.bI r t):=by
 refine⟨h.p,fun j hj=> ?_,h.f,h.c,h.b,h.n,h.l⟩
 show GM s.ops (aF s.reg r t j)
 unfold aF
 split
 ·exact .inr g
 ·exact h.r j hj
theorem Gd.mono {k':Nat} (h:Gd N k s) (hk:k≤k') (hl:k'≤100):Gd N k' s:=⟨h.p,h.r,h.f,h.c,h.b,by have:=h.n;omega,by have:=h.l;omega⟩
theorem DZ {ops:List aV} {o:aV} (ha:GV ops o.a) (h2:tB o.k=false) (h3:tC o.k=false):TK ops o:=fun j hj hr=>by
 rcases(show j=0∨j=1∨j=2 by omega) with rfl | rfl | rfl
 ·exact ha
 ·exact absurd (show tB o.k=true from hr) (by rw [h2];decide)
 ·exact absurd (show tC o.k=true from hr) (by rw [h3];decide)
theorem Z7 {ops:List aV} {o:aV} (ha:GV ops o.a) (hb:GV ops o.b) (h3:tC o.k=false):TK ops o:=fun j hj hr=>by
 rcases(show j=0∨j=1∨j=2 by omega) with rfl | rfl | rfl
 ·exact ha
 ·exact hb
 ·exact absurd (show tC o.k=true from hr) (by rw [h3];decide)
theorem Z8 {ops:List aV} {o:aV} (ha:GV ops o.a) (hb:GV ops o.b) (hc:GV ops o.c):TK ops o:=fun j hj hr=>by
 rcases(show j=0∨j=1∨j=2 by omega) with rfl | rfl | rfl
 ·exact ha
 ·exact hb
 ·exact hc
theorem Gd.c0 (h:Gd N k s):0≤(0:Int)∧(0:Int)≤s.aj:=⟨Int.le_refl 0,by have:=h.c;omega⟩
theorem qK {k:Int} {P:Prop} (h:¬ (k=13∨k=14)):k=13∨k=14→P:=fun e=>absurd e h
theorem nz:(0:Int)≤0∧(0:Int) <4294967296:=by decide
theorem Gd.K (h:Gd N k s) (hk:k<100) {x:Int} (hx:0≤x∧x<4294967296):Gd N (k+1) (s.K x).2∧GV (s.K x).2.ops (s.K x).1:=
 h.new (jv 1 0 0 0 0 x 0 rfl (by decide) (by decide) (by decide) (qK (by decide)) hx (fun e=>nomatch e) h.c0 h.c.2 (fun _=>rfl) (fun _=>rfl) (fun _ _=>rfl) (fun e=>nomatch e) (fun _=>rfl) z6 z6 z6) (jU rfl rfl rfl) rfl rfl hk
theorem Gd.B (h:Gd N k s) (hk:k<100) {w a b:Int} (hw:0≤w∧w<16) (ga:GV s.ops a) (gb:GV s.ops b):Gd N (k+1) (s.B w a b).2∧GV (s.B w a b).2.ops (s.B w a b).1:=
 h.new (jv 4 w a b 0 0 0 rfl (by decide) hw (by decide) (qK (by decide)) nz (fun _=>rfl) h.c0 h.c.2 (fun _=>rfl) (fun e=>nomatch e) (fun e=>nomatch e) (fun e=>nomatch e) (fun _=>rfl) (h.i6 ga) (h.i6 gb) z6) (Z7 ga gb rfl) rfl rfl hk
theorem Gd.U (h:Gd N k s) (hk:k<100) {w a:Int} (hw:0≤w∧w<7) (ga:GV s.ops a):Gd N (k+1) (s.U w a).2∧GV (s.U w a).2.ops (s.U w a).1:=
 h.new (jv 5 w a 0 0 0 0 rfl (by decide) hw (by decide) (qK (by decide)) nz (fun _=>rfl) h.c0 h.c.2 (fun _=>rfl) (fun e=>nomatch e) (fun _ _=>rfl) (fun e=>nomatch e) (fun _=>rfl) (h.i6 ga) z6 z6) (DZ ga rfl rfl) rfl rfl hk
theorem Gd.S (h:Gd N k s) (hk:k<100) {a b c:Int} (ga:GV s.ops a) (gb:GV s.ops b) (gc:GV s.ops c):Gd N (k+1) (s.S a b c).2∧GV (s.S a b c).2.ops (s.S a b c).1:=
 h.new (jv 6 0 a b c 0 0 rfl (by decide) (by decide) (by decide) (qK (by decide)) nz (fun _=>rfl) h.c0 h.c.2 (fun _=>rfl) (fun e=>nomatch e) (fun e=>nomatch e) (fun e=>nomatch e) (fun e=>nomatch e) (h.i6 ga) (h.i6 gb) (h.i6 gc)) (Z8 ga gb gc) rfl rfl hk
theorem Gd.VJ (h:Gd N k s) (hk:k<100) {w a b c:Int} (hw:0≤w∧w≤12) (ga:GV s.ops a) (gb:GV s.ops b) (gc:GV s.ops c):Gd N (k+1) (s.P ⟨7,w,a,b,c,0,0⟩).2∧GV (s.P ⟨7,w,a,b,c,0,0⟩).2.ops (s.P ⟨7,w,a,b,c,0,0⟩).1:=
 h.new (jv 7 w a b c 0 0 rfl (by decide) ⟨hw.1,show w<13 by omega⟩ (by decide) (qK (by decide)) nz (fun _=>rfl) h.c0 h.c.2 (fun _=>rfl) (fun e=>nomatch e) (fun e=>nomatch e) (fun e=>nomatch e) (fun e=>nomatch e) (h.i6 ga) (h.i6 gb) (h.i6 gc)) (Z8 ga gb gc) rfl rfl hk
theorem Gd.cond (h:Gd N k s) (hk:k<100) {w a:Int} (hw:0≤w∧w<16) (ga:GV s.ops a):Gd N (k+1) (s.P ⟨8,w,a,0,0,0,0⟩).2∧GV (s.P ⟨8,w,a,0,0,0,0⟩).2.ops (s.P ⟨8,w,a,0,0,0,0⟩).1:=
 h.new (jv 8 w a 0 0 0 0 rfl (by decide) hw (by decide) (qK (by decide)) nz (fun _=>rfl) h.c0 h.c.2 (fun _=>rfl) (fun e=>nomatch e) (fun _ _=>rfl) (fun e=>nomatch e) (fun _=>rfl) (h.i6 ga) z6 z6) (DZ ga rfl rfl) rfl rfl hk
theorem Gd.slot (h:Gd N k s) (hk:k<100) {w a:Int} (hw:0≤w∧w<12) (ga:GV s.ops a):Gd N (k+1) (s.slot w a):=
 h.put (jv 3 w a 0 0 0 0 rfl (by decide) hw (by decide) (qK (by decide)) nz (fun _=>rfl) h.c0 h.c.2 (fun _=>rfl) (fun e=>nomatch e) (fun _ _=>rfl) (fun e=>nomatch e) (fun _=>rfl) (h.i6 ga) z6 z6) (DZ ga rfl rfl) rfl hk
theorem Gd.dn (h:Gd N k s):0≤s.aj-1∧s.aj-1≤s.aj:=by have:=h.c;omega
theorem Gd.cn (h:Gd N k s):0≤s.aj∧s.aj≤s.aj:=by have:=h.c;omega
theorem Gd.load (h:Gd N k s) (hk:k<100) {w a:Int} (hw:0≤w∧w<5) (ga:GV s.ops a):Gd N (k+1) (s.load w a).2∧GV (s.load w a).2.ops (s.load w a).1:=
 h.new (jv 9 w a 0 0 s.pc (s.aj-1) rfl (by decide) hw (by decide) (qK (by decide)) ⟨h.b.1,h.b.2.1⟩ (fun e=>nomatch e) h.dn h.c.2 (fun e=>nomatch e) (fun e=>nomatch e) (fun _ _=>rfl) (fun e=>nomatch e) (fun _=>rfl) (h.i6 ga) z6 z6) (DZ ga rfl rfl) rfl rfl hk
theorem Gd.store (h:Gd N k s) (hk:k<100) {w a b:Int} (hw:0≤w∧w<3) (ga:GV s.ops a) (gb:GV s.ops b):Gd N (k+1) (s.store w a b):=
 h.put (jv 10 w a b 0 s.pc (s.aj-1) rfl (by decide) hw (by decide) (qK (by decide)) ⟨h.b.1,h.b.2.1⟩ (fun e=>nomatch e) h.dn h.c.2 (fun e=>nomatch e) (fun e=>nomatch e) (fun e=>nomatch e) (fun e=>nomatch e) (fun _=>rfl) (h.i6 ga) (h.i6 gb) z6) (Z7 ga gb rfl) rfl hk
theorem Gd.watch (h:Gd N k s) (hk:k<100):Gd N (k+1) s.watch:=
 h.put (jv 11 0 0 0 0 s.nx s.aj rfl (by decide) (by decide) (by decide) (qK (by decide)) h.b.2.2 (fun e=>nomatch e) h.cn h.c.2 (fun e=>nomatch e) (fun _=>rfl) (fun _ _=>rfl) (fun e=>nomatch e) (fun _=>rfl) z6 z6 z6) (jU rfl rfl rfl) rfl hk
theorem Gd.iff (h:Gd N k s) (hk:k<100) {a x:Int} (ga:GV s.ops a) (hx:0≤x∧x<4294967296):Gd N (k+1) (s.put ⟨12,0,a,0,0,x,s.aj⟩):=
 h.put (jv 12 0 a 0 0 x s.aj rfl (by decide) (by decide) (by decide) (qK (by decide)) hx (fun e=>nomatch e) h.cn h.c.2 (fun e=>nomatch e) (fun e=>nomatch e) (fun _ _=>rfl) (fun e=>nomatch e) (fun _=>rfl) (h.i6 ga) z6 z6) (DZ ga rfl rfl) rfl hk
theorem Gd.yK (h:Gd N k s) (hk:k<100) {a:Int} (ga:GV s.ops a):Gd N (k+1) (s.put ⟨13,7,a,0,0,s.pc,s.aj-1⟩):=
 h.put (jv 13 7 a 0 0 s.pc (s.aj-1) rfl (by decide) (by decide) (by decide) (fun _=>by decide) ⟨h.b.1,h.b.2.1⟩ (fun e=>nomatch e) h.dn h.c.2 (fun e=>nomatch e) (fun e=>nomatch e) (fun _ _=>rfl) (fun e=>nomatch e) (fun _=>rfl) (h.i6 ga) z6 z6) (DZ ga rfl rfl) rfl hk
theorem Gd.get (h:Gd N k s) (hk:k<100) {r:Nat} (hr:r<8):Gd N (k+1) (s.get r).2∧GV (s.get r).2.ops (s.get r).1:=by
 unfold Lk.get
 split
 ·have g:=h.new (o:=⟨2,r,0,0,0,0,0⟩) (jv 2 r 0 0 0 0 0 rfl (by decide) ⟨by omega,show(r:Int) <12 by omega⟩ (by decide) (qK (by decide)) nz (fun _=>rfl) h.c0 h.c.2 (fun _=>rfl) (fun _=>rfl) (fun _ _=>rfl) (fun e=>nomatch e) (fun _=>rfl) z6 z6 z6) (jU rfl rfl rfl) rfl rfl hk
  exact⟨g.1.bI r g.2,g.2⟩
 ·next e=>exact⟨h.mono (by omega) (by omega),(h.r r hr).resolve_left (by omega)⟩
theorem Gd.set (h:Gd N k s) (hk:k<100) {r:Nat} (hr:r<8) {t:Int} (g:GV s.ops t):Gd N (k+1) (s.set r t):=(h.bI r g).slot hk ⟨by omega,by omega⟩ g
theorem aP (x:Int):0≤au x∧au x<4294967296:=by unfold au;omega
theorem Gd.add (h:Gd N k s) (hk:k<99) {a n:Int} (g:GV s.ops a):Gd N (k+1+1) (s.add a n).2∧GV (s.add a n).2.ops (s.add a n).1:=by
 obtain⟨h1,t1⟩:=h.K (by omega) (aP n)
 exact h1.B (by omega) (by decide) ((Px.put s _).gv g) t1
theorem Gd.ig (h:Gd N k s) (hk:k<98) {r:Nat} (hr:r<8) {m:Int} (hm:0≤m∧m<4294967296):Gd N (k+1+1+1) (s.ig r m).2∧GV (s.ig r m).2.ops (s.ig r m).1:=by
 obtain⟨h1,t1⟩:=h.get (by omega) hr
 obtain⟨h2,t2⟩:=h1.K (by omega) hm
 exact h2.B (by omega) (by decide) ((Px.put _ _).gv t1) t2
theorem Gd.gU (h:Gd N k s) {f a b o:Int} (hf:0≤f∧f≤12) (ga:GM s.ops a) (gb:GM s.ops b) (go:GM s.ops o) (h0:f=0→GV s.ops o):Gd N k (s.gU f a b o):=⟨h.p,h.r,fun _=>⟨hf,ga,gb,go,h0⟩,h.c,h.b,h.n,h.l⟩
theorem Gd.nJ (h:Gd N k s) (hk:k<100):Gd N (k+1) s.nJ∧s.nJ.kn=true:=by
 unfold Lk.nJ
 split
 ·next e=>exact⟨h.mono (by omega) (by omega),e⟩
 ·have g:=h.new (o:=⟨17,0,0,0,0,0,0⟩) (jv 17 0 0 0 0 0 0 rfl (by decide) (by decide) (by decide) (qK (by decide)) nz (fun _=>rfl) h.c0 h.c.2 (fun _=>rfl) (fun _=>rfl) (fun _ _=>rfl) (fun e=>nomatch e) (fun _=>rfl) z6 z6 z6) (jU rfl rfl rfl) rfl rfl hk
  exact⟨g.1.gU (by decide) (.inl rfl) (.inl rfl) (.inr g.2) (fun _=>g.2),rfl⟩
theorem Gd.some (h:Gd N k s) (hk:k<100) {z t:Int} (gz:GM s.ops z) (gt:GM s.ops t):Gd N (k+1) (s.some z t).2.2∧GV (s.some z t).2.2.ops (s.some z t).1∧GM (s.some z t).2.2.ops (s.some z t).2.1:=by
 unfold Lk.some
 split
 ·next e=>exact⟨h.mono (by omega) (by omega),gt.resolve_left (by omega),gz⟩
 ·split
  ·next e=>
   obtain⟨h1,t1⟩:=h.K hk (x:=0) (by decide)
   exact⟨h1,t1, .inr t1⟩
  ·next e=>exact⟨h.mono (by omega) (by omega),gz.resolve_left (by omega),gz⟩
theorem Gd.mX (h:Gd N k s) (hk:k<97) (hn:s.kn=true):Gd N (k+1+1+1+1) s.mX.2∧GV s.mX.2.ops s.mX.1:=by
 obtain⟨f1,f2,f3,f4,f5⟩:=h.f hn
 unfold Lk.mX
 split
 ·next e=>exact⟨h.mono (by omega) (by omega),f5 e⟩
 ·obtain⟨h1,t1,z1⟩:=h.some (z:= -1) (t:=s.fa) (by omega) (.inl rfl) f2
  have p1:=Px.some s (-1) s.fa
  obtain⟨h2,t2,z2⟩:=h1.some (z:=s.s1.2.1) (t:=s.fb) (by omega) z1 (p1.gm f3)
  have p2:=Px.some s.s1.2.2 s.s1.2.1 s.fb
  obtain⟨h3,t3,z3⟩:=h2.some (z:=s.s2.2.1) (t:=s.fo) (by omega) z2 (p2.gm (p1.gm f4))
  have p3:=Px.some s.s2.2.2 s.s2.2.1 s.fo
  exact h3.VJ (by omega) f1 (p3.gv (p2.gv t1)) (p3.gv t2) t3
theorem Gd.now (h:Gd N k s) (hk:k<96):Gd N (k+5) s.now.2∧GV s.now.2.ops s.now.1:=by
 obtain⟨h1,e⟩:=h.nJ (by omega)
 exact h1.mX (by omega) e
theorem Gd.holds (h:Gd N k s) (hk:k<95) {c:Int} (hc:0≤c∧c<16):Gd N (k+5+1) (s.holds c).2∧GV (s.holds c).2.ops (s.holds c).1:=by
 obtain⟨h1,t1⟩:=h.now (by omega)
 exact h1.cond (by omega) hc t1
theorem Gd.aZ (h:Gd N k s) (hk:k<100) {w t:Int} (hw:0≤w∧w<12) (g:GM s.ops t):Gd N (k+1) (s.aZ w t):=by
 unfold Lk.aZ
 split
 ·exact h.slot hk hw (g.resolve_left (by omega))
 ·exact h.mono (by omega) (by omega)
theorem Gd.flag (h:Gd N k s) (hk:k<95) {f a b o:Int} (hf:0≤f∧f≤12) (ga:GM s.ops a) (gb:GM s.ops b) (go:GM s.ops o) (h0:f=0→GV s.ops o):Gd N (k+1+1+1+1+1) (s.flag f a b o):=by
 obtain⟨h2,t2⟩:=(h.gU hf ga gb go h0).K (by omega) (aP f)
 have p2:=(Px.gU s f a b o).trans (Px.put (s.gU f a b o) ⟨1,0,0,0,0,au f,0⟩)
 have h3:=h2.slot (w:=8) (by omega) (by decide) t2
 have p3:=p2.trans (Px.put _ ⟨3,8,s.n,0,0,0,0⟩)
 have h4:=h3.aZ (w:=9) (t:=a) (by omega) (by decide) (p3.gm ga)
 have p4:=p3.trans (Px.aZ _ 9 a)
 have h5:=h4.aZ (w:=10) (t:=b) (by omega) (by decide) (p4.gm gb)
 have p5:=p4.trans (Px.aZ _ 10 b)
 exact h5.aZ (w:=11) (t:=o) (by omega) (by decide) (p5.gm go)
theorem Gd.push (h:Gd N k s) (hk:k<94) {a:Int} (ga:GV s.ops a):Gd N (k+1+1+1+1+1) (s.push a):=by
 obtain⟨h1,t1⟩:=h.get (r:=7) (by omega) (by omega)
 obtain⟨h2,t2⟩:=h1.add (n:= -4) (by omega) t1
 have h3:=h2.store (w:=2) (by omega) (by decide) t2 ((Px.add _ _ _).gv ((Px.get s 7).gv ga))
 exact h3.set (r:=7) (by omega) (by omega) ((Px.put _ _).gv t2)
theorem Gd.pop (h:Gd N k s) (hk:k<94):Gd N (k+1+1+1+1+1) s.pop.2∧GV s.pop.2.ops s.pop.1:=by
 obtain⟨h1,t1⟩:=h.get (r:=7) (by omega) (by omega)
 obtain⟨h2,t2⟩:=h1.load (w:=4) (by omega) (by decide) t1
 obtain⟨h3,t3⟩:=h2.add (n:=4) (by omega) ((Px.put _ _).gv t1)
 have h4:=h3.set (r:=7) (by omega) (by omega) t3
 exact⟨h4,(Px.set _ _ _).gv ((Px.add _ _ _).gv t2)⟩
end Go.Proofs.YtcjcmnnhmajocabGreat.Lf
namespace Go.Proofs.YtcjcmnnhmajocabGreat.Ev
open Go.RowKit Kt Me Fl
theorem off {W:World} {b i j:Nat} {v:Value} (dR:i≠j):(W.setCell ⟨b,j,none⟩ v).cell? ⟨b,i,none⟩=W.cell? ⟨b,i,none⟩:=St.off dR
theorem ay (w:World) (cs:Array Value) (t:TypeId) (i:Nat):(w.alloc (.cells cs t)).cell? ⟨w.heap.size,i,none⟩=cs[i]?:=St.ay w cs t i
theorem gW (w:World) (cs:Array Value) (t:TypeId) (i:Nat):(w.alloc (.cells cs t)).frozen? ⟨w.heap.size,i,none⟩=false:=by
 unfold World.frozen?
 rw [heap_alloc_new];simp
structure KB (h:Nat) (k x:Int) (W:World):Prop where
 c0:W.cell? ⟨h,0,none⟩=some (.int .i64 k)
 c1:W.cell? ⟨h,1,none⟩=some (.int .u32 x)
 z:∀i,W.frozen? ⟨h,i,none⟩=false
 l:h<W.heap.size
theorem KB.upto {S:Nat→Prop} {h:Nat} {k x:Int} {W W':World} (a:KB h k x W) (u:ah S W W') (hs:¬S h):KB h k x W':=
 ⟨(u.cell (q:=⟨h,0,none⟩) a.l hs).trans a.c0,(u.cell (q:=⟨h,1,none⟩) a.l hs).trans a.c1,fun i=>(u.frozen (q:=⟨h,i,none⟩) a.l hs).trans (a.z i),Nat.lt_of_lt_of_le a.l u.size⟩
theorem KB.set {h:Nat} {k x:Int} {W:World} (a:KB h k x W) (k' x':Int):KB h k' x' ((W.setCell ⟨h,0,none⟩ (.int .i64 k')).setCell ⟨h,1,none⟩ (.int .u32 x')):=by
 refine⟨(off (by omega)).trans (World.cell?_setCell_same _ _ _ a.c0),World.cell?_setCell_same _ _ _ ((off (by omega)).trans a.c1),fun i=>by simpa using a.z i,by simpa using a.l⟩
theorem KB.new (w:World) (k x:Int) (t:TypeId):KB w.heap.size k x (w.alloc (.cells #[.int .i64 k, .int .u32 x] t)):=
 ⟨ay w _ _ 0,ay w _ _ 1,fun i=>gW w _ _ i,by simp⟩
theorem iG {P:RP} {M:MM} {W:World} (h:RM P M W) {i:Nat} (hi:P.has i):i<W.heap.size:=by
 rcases hi with e | e | e | e | e
 ·rw [e];exact h.lq
 ·rw [e];exact h.lb
 ·rw [e];exact h.lr
 ·rw [e];exact h.lm
 ·rw [e];exact h.lt
theorem qJ (o:Int) (w:World) (o0:0≤o) (o1:o<3):Calls Tryz.prog 284 #[.int .i64 o] w fun e w'=>e= .returned (.int .i64 (vW o))∧w=w':=by
 rcases(show o=0∨o=1∨o=2 by omega) with rfl | rfl | rfl
 all_goals
  go_enter Tryz.func284,Tryz.ntmps284
  go_wp2_with fail
 ·change Oper.upon _ _ _ _ _ (.ok (.value (.int .i64 1)) _);go_wp2;go_ret;exact⟨rfl,rfl⟩
 ·change Oper.upon _ _ _ _ _ (.ok (.value (.int .i64 2)) _);go_wp2;go_ret;exact⟨rfl,rfl⟩
 ·change Oper.upon _ _ _ _ _ (.ok (.value (.int .i64 4)) _);go_wp2;go_ret;exact⟨rfl,rfl⟩
theorem Z9 (P:RP) (M:MM) (a:Int) (w:World) (h:RM P M w) (hM:bQ M) (a0:0≤a) (a1:a<4294967296):
  Calls Tryz.prog 96 #[.pointer (some ⟨P.q,0,none⟩), .int .i64 0, .int .u32 a] w fun e w'=>e= .returned (.tuple #[.int .u32 (wid 0 (jD M a 1)),stpV 5 (aQ M 1 a (1:Int).toNat)])∧Below w.heap.size w w':=by
 have CL:=fun w h=>iK P M a 1 w h hM a0 a1 (by omega)
 have VB:=ku hM a 1
 have ew:wid 0 (jD M a 1)=jD M a 1:=rfl
 rw [ew]
 rw [St.dw]
 simp only [St.dw] at CL
 generalize jD M a 1=v at CL VB⊢
 generalize St.yA 5 (aQ M 1 a (1:Int).toNat)=kk at CL⊢
 generalize St.Aq (aQ M 1 a (1:Int).toNat)=xx at CL⊢
 have CL:=κ CL
 have CU:=κ (fun(k:Int) (hk:0≤k∧k<7) w=>qc k v w hk.1 hk.2 VB.1 VB.2)
 have u0:=(ah.refl (fun _=>False) w).alloc (.cells #[.int .i64 0, .int .u32 0] 55)
 have HH:=κ (h.upto u0 (fun _ _=>id))
 have kb:=KB.new w 0 0 55
 have b0:Below w.heap.size w (w.alloc (.cells #[.int .i64 0, .int .u32 0] 55)):=(Below.refl _ _).alloc (Nat.le_refl _) _
 clear h ew u0
 go_enter Tryz.func96,Tryz.ntmps96
 go_upto_region 1 with fail
 generalize w.alloc (.cells #[.int .i64 0, .int .u32 0] 55)=WA at HH kb b0⊢
 have KA:=κ kb
 clear kb
 go_upto_region 6 with(first
  | (go_at_call 147;(with_reducible refine(CL.out _ (by first | exact HH.out | exact HH.out.upto ((ah.refl (fun _=>False) WA).alloc _) (fun _ _=>id))).mono ?_);rintro e w1 ⟨rfl,b1⟩;have ub:ah (fun _=>False) WA w1:=(by first | exact ah.ak b1 | exact((ah.refl _ WA).alloc _).trans (ah.ak b1));have lA:=KA.out.l;have bb:=κ (b0.trans (ub.below b0.size (fun _ _=>id)));have K1:=κ (KA.out.upto ub id);have lw:=Nat.lt_of_lt_of_le lA ub.size;clear b1 ub)
  | (go_at_call 150;(with_reducible refine(CU.out _ (by decide) _).mono ?_);rintro e w2 ⟨rfl,rfl⟩))
 have tn:=KB.new w1 kk xx 55
 have un:=(ah.refl (fun _=>False) w1).alloc (.cells #[.int .i64 kk, .int .u32 xx] 55)
 have R2:=K1.out.upto un id
 have B2:=κ (bb.out.trans (un.below bb.out.size (fun _ _=>id)))
 generalize w1.alloc (.cells #[.int .i64 kk, .int .u32 xx] 55)=W2 at tn un R2 B2⊢
 clear un
 have nb:¬w1.heap.size=w.heap.size:=by omega
 have nb':¬w.heap.size=w1.heap.size:=by omega
 have t0:=tn.c0
 have t1:=tn.c1
 have r0:=R2.c0
 have r1:=R2.c1
 have z0:=R2.z 0
 have z1:=R2.z 1
 have lr:=R2.l
 have R2:=κ R2
 clear tn
 go_region
 clear t0 t1 r0 r1 z0 z1
 have ks:=(R2.out.set kk xx)
 have bs:=((B2.out.setCell (p:=⟨w.heap.size,0,none⟩) (Nat.le_refl _) (.int .i64 kk)).setCell (p:=⟨w.heap.size,1,none⟩) (Nat.le_refl _) (.int .u32 xx))
 generalize(W2.setCell ⟨w.heap.size,0,none⟩ (.int .i64 kk)).setCell ⟨w.heap.size,1,none⟩ (.int .u32 xx)=W3 at ks bs⊢
 have bd:=bs.drew
 have g0:W3.drew.cell? ⟨w.heap.size,0,none⟩=some (.int .i64 kk):=ks.c0
 have g1:W3.drew.cell? ⟨w.heap.size,1,none⟩=some (.int .u32 xx):=ks.c1
 clear ks bs
 generalize W3.drew=W4 at bd g0 g1⊢
 go_wp2_with fail
 exact bodyPost_ret (v:= .tuple #[.int .u32 (v), .agg #[.int .i64 kk, .int .u32 xx]]) (by simp [results,Tryz.results96,go_sem,g0,g1]) rfl ⟨rfl,bd⟩
theorem aac (P:RP) (M:MM) (a:Int) (w:World) (h:RM P M w) (hM:bQ M) (a0:0≤a) (a1:a<4294967296):
  Calls Tryz.prog 96 #[.pointer (some ⟨P.q,0,none⟩), .int .i64 1, .int .u32 a] w fun e w'=>e= .returned (.tuple #[.int .u32 (wid 1 (jD M a 1)),stpV 5 (aQ M 1 a (1:Int).toNat)])∧Below w.heap.size w w':=by
 have CL:=fun w h=>iK P M a 1 w h hM a0 a1 (by omega)
 have VB:=ku hM a 1
 have ew:wid 1 (jD M a 1)=s8 (jD M a 1):=rfl
 rw [ew]
 rw [St.dw]
 simp only [St.dw] at CL
 generalize jD M a 1=v at CL VB⊢
 generalize St.yA 5 (aQ M 1 a (1:Int).toNat)=kk at CL⊢
 generalize St.Aq (aQ M 1 a (1:Int).toNat)=xx at CL⊢
 have CL:=κ CL
 have CU:=κ (fun(k:Int) (hk:0≤k∧k<7) w=>qc k v w hk.1 hk.2 VB.1 VB.2)
 have u0:=(ah.refl (fun _=>False) w).alloc (.cells #[.int .i64 0, .int .u32 0] 55)
 have HH:=κ (h.upto u0 (fun _ _=>id))
 have kb:=KB.new w 0 0 55
 have b0:Below w.heap.size w (w.alloc (.cells #[.int .i64 0, .int .u32 0] 55)):=(Below.refl _ _).alloc (Nat.le_refl _) _
 clear h ew u0
 go_enter Tryz.func96,Tryz.ntmps96
 go_upto_region 1 with fail
 generalize w.alloc (.cells #[.int .i64 0, .int .u32 0] 55)=WA at HH kb b0⊢
 have KA:=κ kb
 clear kb
 go_upto_region 6 with(first
  | (go_at_call 147;(with_reducible refine(CL.out _ (by first | exact HH.out | exact HH.out.upto ((ah.refl (fun _=>False) WA).alloc _) (fun _ _=>id))).mono ?_);rintro e w1 ⟨rfl,b1⟩;have ub:ah (fun _=>False) WA w1:=(by first | exact ah.ak b1 | exact((ah.refl _ WA).alloc _).trans (ah.ak b1));have lA:=KA.out.l;have bb:=κ (b0.trans (ub.below b0.size (fun _ _=>id)));have K1:=κ (KA.out.upto ub id);have lw:=Nat.lt_of_lt_of_le lA ub.size;clear b1 ub)
  | (go_at_call 150;(with_reducible refine(CU.out _ (by decide) _).mono ?_);rintro e w2 ⟨rfl,rfl⟩))
 have tn:=KB.new w1 kk xx 55
 have un:=(ah.refl (fun _=>False) w1).alloc (.cells #[.int .i64 kk, .int .u32 xx] 55)
 have R2:=K1.out.upto un id
 have B2:=κ (bb.out.trans (un.below bb.out.size (fun _ _=>id)))
 generalize w1.alloc (.cells #[.int .i64 kk, .int .u32 xx] 55)=W2 at tn un R2 B2⊢
 clear un
 have nb:¬w1.heap.size=w.heap.size:=by omega
 have nb':¬w.heap.size=w1.heap.size:=by omega
 have t0:=tn.c0
 have t1:=tn.c1
 have r0:=R2.c0
 have r1:=R2.c1
 have z0:=R2.z 0
 have z1:=R2.z 1
 have lr:=R2.l
 have R2:=κ R2
 clear tn
 go_region
 clear t0 t1 r0 r1 z0 z1
 have ks:=(R2.out.set kk xx)
 have bs:=((B2.out.setCell (p:=⟨w.heap.size,0,none⟩) (Nat.le_refl _) (.int .i64 kk)).setCell (p:=⟨w.heap.size,1,none⟩) (Nat.le_refl _) (.int .u32 xx))
 generalize(W2.setCell ⟨w.heap.size,0,none⟩ (.int .i64 kk)).setCell ⟨w.heap.size,1,none⟩ (.int .u32 xx)=W3 at ks bs⊢
 have bd:=bs.drew
 have g0:W3.drew.cell? ⟨w.heap.size,0,none⟩=some (.int .i64 kk):=ks.c0
 have g1:W3.drew.cell? ⟨w.heap.size,1,none⟩=some (.int .u32 xx):=ks.c1
 clear ks bs
 generalize W3.drew=W4 at bd g0 g1⊢
 go_wp2_with fail
 exact bodyPost_ret (v:= .tuple #[.int .u32 (uQ 2 v), .agg #[.int .i64 kk, .int .u32 xx]]) (by simp [results,Tryz.results96,go_sem,g0,g1]) rfl ⟨rfl,bd⟩
theorem aad (P:RP) (M:MM) (a:Int) (w:World) (h:RM P M w) (hM:bQ M) (a0:0≤a) (a1:a<4294967296):
  Calls Tryz.prog 96 #[.pointer (some ⟨P.q,0,none⟩), .int .i64 2, .int .u32 a] w fun e w'=>e= .returned (.tuple #[.int .u32 (wid 2 (jD M a 2)),stpV 5 (aQ M 1 a (2:Int).toNat)])∧Below w.heap.size w w':=by
 have CL:=fun w h=>iK P M a 2 w h hM a0 a1 (by omega)
 have VB:=ku hM a 2
 have ew:wid 2 (jD M a 2)=jD M a 2:=rfl
 rw [ew]
 rw [St.dw]
 simp only [St.dw] at CL
 generalize jD M a 2=v at CL VB⊢
 generalize St.yA 5 (aQ M 1 a (2:Int).toNat)=kk at CL⊢
 generalize St.Aq (aQ M 1 a (2:Int).toNat)=xx at CL⊢
 have CL:=κ CL
 have CU:=κ (fun(k:Int) (hk:0≤k∧k<7) w=>qc k v w hk.1 hk.2 VB.1 VB.2)
 have u0:=(ah.refl (fun _=>False) w).alloc (.cells #[.int .i64 0, .int .u32 0] 55)
 have HH:=κ (h.upto u0 (fun _ _=>id))
 have kb:=KB.new w 0 0 55
 have b0:Below w.heap.size w (w.alloc (.cells #[.int .i64 0, .int .u32 0] 55)):=(Below.refl _ _).alloc (Nat.le_refl _) _
 clear h ew u0
 go_enter Tryz.func96,Tryz.ntmps96
 go_upto_region 1 with fail
 generalize w.alloc (.cells #[.int .i64 0, .int .u32 0] 55)=WA at HH kb b0⊢
 have KA:=κ kb
 clear kb
 go_upto_region 6 with(first
  | (go_at_call 147;(with_reducible refine(CL.out _ (by first | exact HH.out | exact HH.out.upto ((ah.refl (fun _=>False) WA).alloc _) (fun _ _=>id))).mono ?_);rintro e w1 ⟨rfl,b1⟩;have ub:ah (fun _=>False) WA w1:=(by first | exact ah.ak b1 | exact((ah.refl _ WA).alloc _).trans (ah.ak b1));have lA:=KA.out.l;have bb:=κ (b0.trans (ub.below b0.size (fun _ _=>id)));have K1:=κ (KA.out.upto ub id);have lw:=Nat.lt_of_lt_of_le lA ub.size;clear b1 ub)
  | (go_at_call 150;(with_reducible refine(CU.out _ (by decide) _).mono ?_);rintro e w2 ⟨rfl,rfl⟩))
 have tn:=KB.new w1 kk xx 55
 have un:=(ah.refl (fun _=>False) w1).alloc (.cells #[.int .i64 kk, .int .u32 xx] 55)
 have R2:=K1.out.upto un id
 have B2:=κ (bb.out.trans (un.below bb.out.size (fun _ _=>id)))
 generalize w1.alloc (.cells #[.int .i64 kk, .int .u32 xx] 55)=W2 at tn un R2 B2⊢
 clear un
 have nb:¬w1.heap.size=w.heap.size:=by omega
 have nb':¬w.heap.size=w1.heap.size:=by omega
 have t0:=tn.c0
 have t1:=tn.c1
 have r0:=R2.c0
 have r1:=R2.c1
 have z0:=R2.z 0
 have z1:=R2.z 1
 have lr:=R2.l
 have R2:=κ R2
 clear tn
 go_region
 clear t0 t1 r0 r1 z0 z1
 have ks:=(R2.out.set kk xx)
 have bs:=((B2.out.setCell (p:=⟨w.heap.size,0,none⟩) (Nat.le_refl _) (.int .i64 kk)).setCell (p:=⟨w.heap.size,1,none⟩) (Nat.le_refl _) (.int .u32 xx))
 generalize(W2.setCell ⟨w.heap.size,0,none⟩ (.int .i64 kk)).setCell ⟨w.heap.size,1,none⟩ (.int .u32 xx)=W3 at ks bs⊢
 have bd:=bs.drew
 have g0:W3.drew.cell? ⟨w.heap.size,0,none⟩=some (.int .i64 kk):=ks.c0
 have g1:W3.drew.cell? ⟨w.heap.size,1,none⟩=some (.int .u32 xx):=ks.c1
 clear ks bs
 generalize W3.drew=W4 at bd g0 g1⊢
 go_wp2_with fail
 exact bodyPost_ret (v:= .tuple #[.int .u32 (v), .agg #[.int .i64 kk, .int .u32 xx]]) (by simp [results,Tryz.results96,go_sem,g0,g1]) rfl ⟨rfl,bd⟩
theorem aae (P:RP) (M:MM) (a:Int) (w:World) (h:RM P M w) (hM:bQ M) (a0:0≤a) (a1:a<4294967296):
  Calls Tryz.prog 96 #[.pointer (some ⟨P.q,0,none⟩), .int .i64 3, .int .u32 a] w fun e w'=>e= .returned (.tuple #[.int .u32 (wid 3 (jD M a 2)),stpV 5 (aQ M 1 a (2:Int).toNat)])∧Below w.heap.size w w':=by
 have CL:=fun w h=>iK P M a 2 w h hM a0 a1 (by omega)
 have VB:=ku hM a 2
 have ew:wid 3 (jD M a 2)=YS (jD M a 2):=rfl
 rw [ew]
 rw [St.dw]
 simp only [St.dw] at CL
 generalize jD M a 2=v at CL VB⊢
 generalize St.yA 5 (aQ M 1 a (2:Int).toNat)=kk at CL⊢
 generalize St.Aq (aQ M 1 a (2:Int).toNat)=xx at CL⊢
 have CL:=κ CL
 have CU:=κ (fun(k:Int) (hk:0≤k∧k<7) w=>qc k v w hk.1 hk.2 VB.1 VB.2)
 have u0:=(ah.refl (fun _=>False) w).alloc (.cells #[.int .i64 0, .int .u32 0] 55)
 have HH:=κ (h.upto u0 (fun _ _=>id))
 have kb:=KB.new w 0 0 55
 have b0:Below w.heap.size w (w.alloc (.cells #[.int .i64 0, .int .u32 0] 55)):=(Below.refl _ _).alloc (Nat.le_refl _) _
 clear h ew u0
 go_enter Tryz.func96,Tryz.ntmps96
 go_upto_region 1 with fail
 generalize w.alloc (.cells #[.int .i64 0, .int .u32 0] 55)=WA at HH kb b0⊢
 have KA:=κ kb
 clear kb
 go_upto_region 6 with(first
  | (go_at_call 147;(with_reducible refine(CL.out _ (by first | exact HH.out | exact HH.out.upto ((ah.refl (fun _=>False) WA).alloc _) (fun _ _=>id))).mono ?_);rintro e w1 ⟨rfl,b1⟩;have ub:ah (fun _=>False) WA w1:=(by first | exact ah.ak b1 | exact((ah.refl _ WA).alloc _).trans (ah.ak b1));have lA:=KA.out.l;have bb:=κ (b0.trans (ub.below b0.size (fun _ _=>id)));have K1:=κ (KA.out.upto ub id);have lw:=Nat.lt_of_lt_of_le lA ub.size;clear b1 ub)
  | (go_at_call 150;(with_reducible refine(CU.out _ (by decide) _).mono ?_);rintro e w2 ⟨rfl,rfl⟩))
 have tn:=KB.new w1 kk xx 55
 have un:=(ah.refl (fun _=>False) w1).alloc (.cells #[.int .i64 kk, .int .u32 xx] 55)
 have R2:=K1.out.upto un id
 have B2:=κ (bb.out.trans (un.below bb.out.size (fun _ _=>id)))
 generalize w1.alloc (.cells #[.int .i64 kk, .int .u32 xx] 55)=W2 at tn un R2 B2⊢
 clear un
 have nb:¬w1.heap.size=w.heap.size:=by omega
 have nb':¬w.heap.size=w1.heap.size:=by omega
 have t0:=tn.c0
 have t1:=tn.c1
 have r0:=R2.c0
 have r1:=R2.c1
 have z0:=R2.z 0
 have z1:=R2.z 1
 have lr:=R2.l
 have R2:=κ R2
 clear tn
 go_region
 clear t0 t1 r0 r1 z0 z1
 have ks:=(R2.out.set kk xx)
 have bs:=((B2.out.setCell (p:=⟨w.heap.size,0,none⟩) (Nat.le_refl _) (.int .i64 kk)).setCell (p:=⟨w.heap.size,1,none⟩) (Nat.le_refl _) (.int .u32 xx))
 generalize(W2.setCell ⟨w.heap.size,0,none⟩ (.int .i64 kk)).setCell ⟨w.heap.size,1,none⟩ (.int .u32 xx)=W3 at ks bs⊢
 have bd:=bs.drew
 have g0:W3.drew.cell? ⟨w.heap.size,0,none⟩=some (.int .i64 kk):=ks.c0
 have g1:W3.drew.cell? ⟨w.heap.size,1,none⟩=some (.int .u32 xx):=ks.c1
 clear ks bs
 generalize W3.drew=W4 at bd g0 g1⊢
 go_wp2_with fail
 exact bodyPost_ret (v:= .tuple #[.int .u32 (uQ 3 v), .agg #[.int .i64 kk, .int .u32 xx]]) (by simp [results,Tryz.results96,go_sem,g0,g1]) rfl ⟨rfl,bd⟩
theorem aaf (P:RP) (M:MM) (a:Int) (w:World) (h:RM P M w) (hM:bQ M) (a0:0≤a) (a1:a<4294967296):
  Calls Tryz.prog 96 #[.pointer (some ⟨P.q,0,none⟩), .int .i64 4, .int .u32 a] w fun e w'=>e= .returned (.tuple #[.int .u32 (wid 4 (jD M a 4)),stpV 5 (aQ M 1 a (4:Int).toNat)])∧Below w.heap.size w w':=by
 have CL:=fun w h=>iK P M a 4 w h hM a0 a1 (by omega)
 have VB:=ku hM a 4
 have ew:wid 4 (jD M a 4)=jD M a 4:=rfl
 rw [ew]
 rw [St.dw]
 simp only [St.dw] at CL
 generalize jD M a 4=v at CL VB⊢
 generalize St.yA 5 (aQ M 1 a (4:Int).toNat)=kk at CL⊢
 generalize St.Aq (aQ M 1 a (4:Int).toNat)=xx at CL⊢
 have CL:=κ CL
 have CU:=κ (fun(k:Int) (hk:0≤k∧k<7) w=>qc k v w hk.1 hk.2 VB.1 VB.2)
 have u0:=(ah.refl (fun _=>False) w).alloc (.cells #[.int .i64 0, .int .u32 0] 55)
 have HH:=κ (h.upto u0 (fun _ _=>id))
 have kb:=KB.new w 0 0 55
 have b0:Below w.heap.size w (w.alloc (.cells #[.int .i64 0, .int .u32 0] 55)):=(Below.refl _ _).alloc (Nat.le_refl _) _
 clear h ew u0
 go_enter Tryz.func96,Tryz.ntmps96
 go_upto_region 1 with fail
 generalize w.alloc (.cells #[.int .i64 0, .int .u32 0] 55)=WA at HH kb b0⊢
 have KA:=κ kb
 clear kb
 go_upto_region 6 with(first
  | (go_at_call 147;(with_reducible refine(CL.out _ (by first | exact HH.out | exact HH.out.upto ((ah.refl (fun _=>False) WA).alloc _) (fun _ _=>id))).mono ?_);rintro e w1 ⟨rfl,b1⟩;have ub:ah (fun _=>False) WA w1:=(by first | exact ah.ak b1 | exact((ah.refl _ WA).alloc _).trans (ah.ak b1));have lA:=KA.out.l;have bb:=κ (b0.trans (ub.below b0.size (fun _ _=>id)));have K1:=κ (KA.out.upto ub id);have lw:=Nat.lt_of_lt_of_le lA ub.size;clear b1 ub)
  | (go_at_call 150;(with_reducible refine(CU.out _ (by decide) _).mono ?_);rintro e w2 ⟨rfl,rfl⟩))
 have tn:=KB.new w1 kk xx 55
 have un:=(ah.refl (fun _=>False) w1).alloc (.cells #[.int .i64 kk, .int .u32 xx] 55)
 have R2:=K1.out.upto un id
 have B2:=κ (bb.out.trans (un.below bb.out.size (fun _ _=>id)))
 generalize w1.alloc (.cells #[.int .i64 kk, .int .u32 xx] 55)=W2 at tn un R2 B2⊢
 clear un
 have nb:¬w1.heap.size=w.heap.size:=by omega
 have nb':¬w.heap.size=w1.heap.size:=by omega
 have t0:=tn.c0
 have t1:=tn.c1
 have r0:=R2.c0
 have r1:=R2.c1
 have z0:=R2.z 0
 have z1:=R2.z 1
 have lr:=R2.l
 have R2:=κ R2
 clear tn
 go_region
 clear t0 t1 r0 r1 z0 z1
 have ks:=(R2.out.set kk xx)
 have bs:=((B2.out.setCell (p:=⟨w.heap.size,0,none⟩) (Nat.le_refl _) (.int .i64 kk)).setCell (p:=⟨w.heap.size,1,none⟩) (Nat.le_refl _) (.int .u32 xx))
 generalize(W2.setCell ⟨w.heap.size,0,none⟩ (.int .i64 kk)).setCell ⟨w.heap.size,1,none⟩ (.int .u32 xx)=W3 at ks bs⊢
 have bd:=bs.drew
 have g0:W3.drew.cell? ⟨w.heap.size,0,none⟩=some (.int .i64 kk):=ks.c0
 have g1:W3.drew.cell? ⟨w.heap.size,1,none⟩=some (.int .u32 xx):=ks.c1
 clear ks bs
 generalize W3.drew=W4 at bd g0 g1⊢
 go_wp2_with fail
 exact bodyPost_ret (v:= .tuple #[.int .u32 (v), .agg #[.int .i64 kk, .int .u32 xx]]) (by simp [results,Tryz.results96,go_sem,g0,g1]) rfl ⟨rfl,bd⟩
theorem aag (P:RP) (M:MM) (a v:Int) (w:World) (h:RM P M w) (hM:bQ M) (a0:0≤a) (a1:a<4294967296) (v0:0≤v) (v1:v<4294967296):
  Calls Tryz.prog 97 #[.pointer (some ⟨P.q,0,none⟩), .int .i64 0, .int .u32 a, .int .u32 v] w fun e w'=>e= .returned (stpV 6 (jE M a 1))∧RM P (nU M a 1 v) w'∧ah P.has w w':=by
 have CL:=fun w h=>dV P M a 1 v w h hM a0 a1 v0 v1
 have dh:¬P.has w.heap.size:=fun hx=>Nat.lt_irrefl _ (iG h hx)
 rw [St.dw]
 simp only [St.dw] at CL
 generalize St.yA 6 (jE M a 1)=kk at CL⊢
 generalize St.Aq (jE M a 1)=xx at CL⊢
 generalize nU M a 1 v=M' at CL⊢
 have CL:=κ CL
 have u0:=(ah.refl (fun _=>False) w).alloc (.cells #[.int .i64 0, .int .u32 0] 55)
 have HH:=κ (h.upto u0 (fun _ _=>id))
 have kb:=KB.new w 0 0 55
 have U0:=κ (u0.mono (T:=P.has) fun _ _ h=>h.elim)
 clear h u0
 go_enter Tryz.func97,Tryz.ntmps97
 go_upto_region 1 with fail
 generalize w.alloc (.cells #[.int .i64 0, .int .u32 0] 55)=WA at HH kb U0⊢
 have KA:=κ kb
 have lA:=kb.l
 have z0:=kb.z 0
 have z1:=kb.z 1
 clear kb
 go_wp2_with (first
  | (go_at_call 148;(with_reducible refine(CL.out _ (by first | exact HH.out | exact HH.out.upto ((ah.refl (fun _=>False) WA).alloc _) (fun _ _=>id))).mono ?_);rintro e w1 ⟨rfl,m1,u1⟩;have ub:ah P.has WA w1:=(by first | exact u1 | exact((ah.refl _ WA).alloc _).trans u1);have M1:=κ m1;have U1:=κ (U0.out.trans ub);have K1:=κ (KA.out.upto ub dh);have r0:=K1.out.c0;have r1:=K1.out.c1;have z0:=K1.out.z 0;have z1:=K1.out.z 1;have lw:=K1.out.l;clear m1 u1 ub))
 have ks:=(K1.out.set kk xx)
 have vs:=(ah.refl (fun i=>i=w.heap.size) w1).setCell (q:=⟨w.heap.size,0,none⟩) (.inl rfl) (.int .i64 kk)
 have vs:=vs.setCell (q:=⟨w.heap.size,1,none⟩) (.inl rfl) (.int .u32 xx)
 have ms:=M1.out.upto vs (fun k hk e=>dh (e▸hk))
 have us:=(U1.out.setCell (q:=⟨w.heap.size,0,none⟩) (.inr (Nat.le_refl _)) (.int .i64 kk)).setCell (q:=⟨w.heap.size,1,none⟩) (.inr (Nat.le_refl _)) (.int .u32 xx)
 clear r0 r1 z0 z1 vs
 have g0:=ks.c0
 have g1:=ks.c1
 generalize(w1.setCell ⟨w.heap.size,0,none⟩ (.int .i64 kk)).setCell ⟨w.heap.size,1,none⟩ (.int .u32 xx)=W3 at ks ms us g0 g1⊢
 exact bodyPost_ret (v:= .agg #[.int .i64 kk, .int .u32 xx]) (by simp [results,Tryz.results97,go_sem,g0,g1]) rfl ⟨rfl,ms,us⟩
theorem aah (P:RP) (M:MM) (a v:Int) (w:World) (h:RM P M w) (hM:bQ M) (a0:0≤a) (a1:a<4294967296) (v0:0≤v) (v1:v<4294967296):
  Calls Tryz.prog 97 #[.pointer (some ⟨P.q,0,none⟩), .int .i64 1, .int .u32 a, .int .u32 v] w fun e w'=>e= .returned (stpV 6 (jE M a 2))∧RM P (nU M a 2 v) w'∧ah P.has w w':=by
 have CL:=fun w h=>dV P M a 2 v w h hM a0 a1 v0 v1
 have dh:¬P.has w.heap.size:=fun hx=>Nat.lt_irrefl _ (iG h hx)
 rw [St.dw]
 simp only [St.dw] at CL
 generalize St.yA 6 (jE M a 2)=kk at CL⊢
 generalize St.Aq (jE M a 2)=xx at CL⊢
 generalize nU M a 2 v=M' at CL⊢
 have CL:=κ CL
 have u0:=(ah.refl (fun _=>False) w).alloc (.cells #[.int .i64 0, .int .u32 0] 55)
 have HH:=κ (h.upto u0 (fun _ _=>id))
 have kb:=KB.new w 0 0 55
 have U0:=κ (u0.mono (T:=P.has) fun _ _ h=>h.elim)
 clear h u0
 go_enter Tryz.func97,Tryz.ntmps97
 go_upto_region 1 with fail
 generalize w.alloc (.cells #[.int .i64 0, .int .u32 0] 55)=WA at HH kb U0⊢
 have KA:=κ kb
 have lA:=kb.l
 have z0:=kb.z 0
 have z1:=kb.z 1
 clear kb
 go_wp2_with (first
  | (go_at_call 148;(with_reducible refine(CL.out _ (by first | exact HH.out | exact HH.out.upto ((ah.refl (fun _=>False) WA).alloc _) (fun _ _=>id))).mono ?_);rintro e w1 ⟨rfl,m1,u1⟩;have ub:ah P.has WA w1:=(by first | exact u1 | exact((ah.refl _ WA).alloc _).trans u1);have M1:=κ m1;have U1:=κ (U0.out.trans ub);have K1:=κ (KA.out.upto ub dh);have r0:=K1.out.c0;have r1:=K1.out.c1;have z0:=K1.out.z 0;have z1:=K1.out.z 1;have lw:=K1.out.l;clear m1 u1 ub))
 have ks:=(K1.out.set kk xx)
 have vs:=(ah.refl (fun i=>i=w.heap.size) w1).setCell (q:=⟨w.heap.size,0,none⟩) (.inl rfl) (.int .i64 kk)
 have vs:=vs.setCell (q:=⟨w.heap.size,1,none⟩) (.inl rfl) (.int .u32 xx)
 have ms:=M1.out.upto vs (fun k hk e=>dh (e▸hk))
 have us:=(U1.out.setCell (q:=⟨w.heap.size,0,none⟩) (.inr (Nat.le_refl _)) (.int .i64 kk)).setCell (q:=⟨w.heap.size,1,none⟩) (.inr (Nat.le_refl _)) (.int .u32 xx)
 clear r0 r1 z0 z1 vs
 have g0:=ks.c0
 have g1:=ks.c1
 generalize(w1.setCell ⟨w.heap.size,0,none⟩ (.int .i64 kk)).setCell ⟨w.heap.size,1,none⟩ (.int .u32 xx)=W3 at ks ms us g0 g1⊢
 exact bodyPost_ret (v:= .agg #[.int .i64 kk, .int .u32 xx]) (by simp [results,Tryz.results97,go_sem,g0,g1]) rfl ⟨rfl,ms,us⟩
theorem aai (P:RP) (M:MM) (a v:Int) (w:World) (h:RM P M w) (hM:bQ M) (a0:0≤a) (a1:a<4294967296) (v0:0≤v) (v1:v<4294967296):
  Calls Tryz.prog 97 #[.pointer (some ⟨P.q,0,none⟩), .int .i64 2, .int .u32 a, .int .u32 v] w fun e w'=>e= .returned (stpV 6 (jE M a 4))∧RM P (nU M a 4 v) w'∧ah P.has w w':=by
 have CL:=fun w h=>dV P M a 4 v w h hM a0 a1 v0 v1
 have dh:¬P.has w.heap.size:=fun hx=>Nat.lt_irrefl _ (iG h hx)
 rw [St.dw]
 simp only [St.dw] at CL
 generalize St.yA 6 (jE M a 4)=kk at CL⊢
 generalize St.Aq (jE M a 4)=xx at CL⊢
 generalize nU M a 4 v=M' at CL⊢
 have CL:=κ CL
 have u0:=(ah.refl (fun _=>False) w).alloc (.cells #[.int .i64 0, .int .u32 0] 55)
 have HH:=κ (h.upto u0 (fun _ _=>id))
 have kb:=KB.new w 0 0 55
 have U0:=κ (u0.mono (T:=P.has) fun _ _ h=>h.elim)
 clear h u0
 go_enter Tryz.func97,Tryz.ntmps97
 go_upto_region 1 with fail
 generalize w.alloc (.cells #[.int .i64 0, .int .u32 0] 55)=WA at HH kb U0⊢
 have KA:=κ kb
 have lA:=kb.l
 have z0:=kb.z 0
 have z1:=kb.z 1
 clear kb
 go_wp2_with (first
  | (go_at_call 148;(with_reducible refine(CL.out _ (by first | exact HH.out | exact HH.out.upto ((ah.refl (fun _=>False) WA).alloc _) (fun _ _=>id))).mono ?_);rintro e w1 ⟨rfl,m1,u1⟩;have ub:ah P.has WA w1:=(by first | exact u1 | exact((ah.refl _ WA).alloc _).trans u1);have M1:=κ m1;have U1:=κ (U0.out.trans ub);have K1:=κ (KA.out.upto ub dh);have r0:=K1.out.c0;have r1:=K1.out.c1;have z0:=K1.out.z 0;have z1:=K1.out.z 1;have lw:=K1.out.l;clear m1 u1 ub))
 have ks:=(K1.out.set kk xx)
 have vs:=(ah.refl (fun i=>i=w.heap.size) w1).setCell (q:=⟨w.heap.size,0,none⟩) (.inl rfl) (.int .i64 kk)
 have vs:=vs.setCell (q:=⟨w.heap.size,1,none⟩) (.inl rfl) (.int .u32 xx)
 have ms:=M1.out.upto vs (fun k hk e=>dh (e▸hk))
 have us:=(U1.out.setCell (q:=⟨w.heap.size,0,none⟩) (.inr (Nat.le_refl _)) (.int .i64 kk)).setCell (q:=⟨w.heap.size,1,none⟩) (.inr (Nat.le_refl _)) (.int .u32 xx)
 clear r0 r1 z0 z1 vs
 have g0:=ks.c0
 have g1:=ks.c1
 generalize(w1.setCell ⟨w.heap.size,0,none⟩ (.int .i64 kk)).setCell ⟨w.heap.size,1,none⟩ (.int .u32 xx)=W3 at ks ms us g0 g1⊢
 exact bodyPost_ret (v:= .agg #[.int .i64 kk, .int .u32 xx]) (by simp [results,Tryz.results97,go_sem,g0,g1]) rfl ⟨rfl,ms,us⟩
theorem Rf (P:RP) (M:MM) (j a:Int) (w:World) (h:RM P M w) (hM:bQ M) (j0:0≤j) (j1:j<5) (a0:0≤a) (a1:a<4294967296):
  Calls Tryz.prog 96 #[.pointer (some ⟨P.q,0,none⟩), .int .i64 j, .int .u32 a] w fun e w'=>e= .returned (.tuple #[.int .u32 (wid j (jD M a (vV j))),stpV 5 (aQ M 1 a (vV j).toNat)])∧Below w.heap.size w w':=by
 rcases(show j=0∨j=1∨j=2∨j=3∨j=4 by omega) with rfl | rfl | rfl | rfl | rfl
 ·exact Z9 P M a w h hM a0 a1
 ·exact aac P M a w h hM a0 a1
 ·exact aad P M a w h hM a0 a1
 ·exact aae P M a w h hM a0 a1
 ·exact aaf P M a w h hM a0 a1
theorem Rh (P:RP) (M:MM) (j a v:Int) (w:World) (h:RM P M w) (hM:bQ M) (j0:0≤j) (j1:j<3) (a0:0≤a) (a1:a<4294967296) (v0:0≤v) (v1:v<4294967296):
  Calls Tryz.prog 97 #[.pointer (some ⟨P.q,0,none⟩), .int .i64 j, .int .u32 a, .int .u32 v] w fun e w'=>e= .returned (stpV 6 (jE M a (vW j)))∧RM P (nU M a (vW j) v) w'∧ah P.has w w':=by
 rcases(show j=0∨j=1∨j=2 by omega) with rfl | rfl | rfl
 ·exact aag P M a v w h hM a0 a1 v0 v1
 ·exact aah P M a v w h hM a0 a1 v0 v1
 ·exact aai P M a v w h hM a0 a1 v0 v1
end Go.Proofs.YtcjcmnnhmajocabGreat.Ev
namespace Go.Proofs.YtcjcmnnhmajocabGreat.Ir
open Go.RowKit Kt
theorem qL (c0 c1 c2 c3 c4 c5 c6 c7 c8 c9 c10 c11 pc:Int) (w:World) (h8:0≤c8) (g8:c8<4294967296) (h9:0≤c9) (g9:c9<4294967296) (BU:0≤c10) (g10:c10<4294967296) (YR:0≤c11) (g11:c11<4294967296):
  Calls Tryz.prog 63 #[.agg #[.int .u32 c0, .int .u32 c1, .int .u32 c2, .int .u32 c3, .int .u32 c4, .int .u32 c5, .int .u32 c6, .int .u32 c7, .int .u32 c8, .int .u32 c9, .int .u32 c10, .int .u32 c11], .int .u32 pc] w
   fun e w'=>e= .returned (.agg #[.int .u32 c0, .int .u32 c1, .int .u32 c2, .int .u32 c3, .int .u32 c4, .int .u32 c5, .int .u32 c6, .int .u32 c7, .int .u32 pc, .int .u32 (Fl.fl c8 c9 c10 c11)])∧Below w.heap.size w w':=by
 go_enter Tryz.func63,Tryz.ntmps63
 go_wp2_with (go_at_call 91;refine(Fl.fU _ _ _ _ _ (by omega) (by omega) (by omega) (by omega) (by omega) (by omega)).mono ?_;rintro e w' ⟨rfl,rfl⟩)
 refine wp_loop_rounds 9 ?_
 repeat(rw [rounds_succ];go_wp2)
 refine bodyPost_ret (v:= .agg #[.int .u32 c0, .int .u32 c1, .int .u32 c2, .int .u32 c3, .int .u32 c4, .int .u32 c5, .int .u32 c6, .int .u32 c7, .int .u32 pc, .int .u32 (Fl.fl c8 c9 c10 c11)]) (by simp [results,Tryz.results63,go_sem]) rfl ⟨rfl, ?_⟩
 repeat(first | exact Below.refl _ _ | apply Below.drew | (refine Below.alloc ?_ (by simp;try omega) _))
end Go.Proofs.YtcjcmnnhmajocabGreat.Ir
namespace Go.Proofs.YtcjcmnnhmajocabGreat.Ev
open Go.RowKit Kt Me Fl
structure Rn (A T p L:Nat) (c v:Nat→Int) (W:World):Prop where
 m:W.cell? ⟨A,0,none⟩=some (.pointer (some ⟨p,0,none⟩))
 c:∀j,j<12→W.cell? ⟨A,1+j,none⟩=some (.int .u32 (c j))
 t:W.cell? ⟨A,13,none⟩=some (.slice (some ⟨T,0,none⟩) L L)
 v:∀j,j<L→W.cell? ⟨T,j,none⟩=some (.int .u32 (v j))
 za:∀j,W.frozen? ⟨A,j,none⟩=false
 zt:∀j,W.frozen? ⟨T,j,none⟩=false
 la:A<W.heap.size
 lt:T<W.heap.size
 ne:A≠T
variable {A T p L:Nat} {c v:Nat→Int} {W W':World}
theorem Rn.upto {S:Nat→Prop} (a:Rn A T p L c v W) (u:ah S W W') (hA:¬S A) (hT:¬S T):Rn A T p L c v W':=
 ⟨(u.cell (q:=⟨A,0,none⟩) a.la hA).trans a.m,fun j hj=>(u.cell (q:=⟨A,1+j,none⟩) a.la hA).trans (a.c j hj),(u.cell (q:=⟨A,13,none⟩) a.la hA).trans a.t,
  fun j hj=>(u.cell (q:=⟨T,j,none⟩) a.lt hT).trans (a.v j hj),fun j=>(u.frozen (q:=⟨A,j,none⟩) a.la hA).trans (a.za j),fun j=>(u.frozen (q:=⟨T,j,none⟩) a.lt hT).trans (a.zt j),
  Nat.lt_of_lt_of_le a.la u.size,Nat.lt_of_lt_of_le a.lt u.size,a.ne⟩
theorem Rn.drew (a:Rn A T p L c v W):Rn A T p L c v W.drew:=a.upto (ah.refl (fun _=>False) W).drew id id
theorem sZ {W:World} {b b' i j:Nat} {x:Value} (dR:b'≠b):(W.setCell ⟨b,j,none⟩ x).cell? ⟨b',i,none⟩=W.cell? ⟨b',i,none⟩:=
 World.cell?_setCell_other _ _ _ _ (fun hx=>dR (congrArg Addr.block hx).symm)
theorem Rn.mZ (a:Rn A T p L c v W) (i:Nat) (hi:i<L) (z:Int):Rn A T p L c (aF v i z) (W.setCell ⟨T,i,none⟩ (.int .u32 z)):=by
 refine⟨(sZ a.ne).trans a.m,fun j hj=>(sZ a.ne).trans (a.c j hj),(sZ a.ne).trans a.t,fun j hj=> ?_,fun j=>by simpa using a.za j,fun j=>by simpa using a.zt j,by simpa using a.la,by simpa using a.lt,a.ne⟩
 by_cases e:j=i
 ·subst e;rw [World.cell?_setCell_same _ _ _ (a.v j hj)];simp [aF]
 ·rw [off e,a.v j hj];simp [aF,e]
theorem Rn.aaj (a:Rn A T p L c v W) (i:Nat) (hi:i<12) (z:Int):Rn A T p L (aF c i z) v (W.setCell ⟨A,1+i,none⟩ (.int .u32 z)):=by
 have dR:T≠A:=fun e=>a.ne e.symm
 refine⟨(off (by omega)).trans a.m,fun j hj=> ?_,(off (by omega)).trans a.t,fun j hj=>(sZ dR).trans (a.v j hj),fun j=>by simpa using a.za j,fun j=>by simpa using a.zt j,by simpa using a.la,by simpa using a.lt,a.ne⟩
 by_cases e:j=i
 ·subst e;rw [World.cell?_setCell_same _ _ _ (a.c j hj)];simp [aF]
 ·rw [off (by omega),a.c j hj];simp [aF,e]
structure OB (h:Nat) (k ow oa ob oc kn on:Int) (W:World):Prop where
 c0:W.cell? ⟨h,0,none⟩=some (.int .i64 k)
 c1:W.cell? ⟨h,1,none⟩=some (.int .i64 ow)
 c2:W.cell? ⟨h,2,none⟩=some (.int .i64 oa)
 c3:W.cell? ⟨h,3,none⟩=some (.int .i64 ob)
 c4:W.cell? ⟨h,4,none⟩=some (.int .i64 oc)
 c5:W.cell? ⟨h,5,none⟩=some (.int .u32 kn)
 c6:W.cell? ⟨h,6,none⟩=some (.int .i64 on)
 l:h<W.heap.size
theorem OB.upto {S:Nat→Prop} {h:Nat} {k ow oa ob oc kn on:Int} {W W':World} (a:OB h k ow oa ob oc kn on W) (u:ah S W W') (hs:¬S h):OB h k ow oa ob oc kn on W':=
 ⟨(u.cell (q:=⟨h,0,none⟩) a.l hs).trans a.c0,(u.cell (q:=⟨h,1,none⟩) a.l hs).trans a.c1,(u.cell (q:=⟨h,2,none⟩) a.l hs).trans a.c2,(u.cell (q:=⟨h,3,none⟩) a.l hs).trans a.c3,(u.cell (q:=⟨h,4,none⟩) a.l hs).trans a.c4,(u.cell (q:=⟨h,5,none⟩) a.l hs).trans a.c5,(u.cell (q:=⟨h,6,none⟩) a.l hs).trans a.c6,Nat.lt_of_lt_of_le a.l u.size⟩
theorem OB.mZ {h i:Nat} {k ow oa ob oc kn on:Int} {W:World} (b:OB h k ow oa ob oc kn on W) {T:Nat} (dR:h≠T) (z:Value):OB h k ow oa ob oc kn on (W.setCell ⟨T,i,none⟩ z):=
 ⟨(sZ dR).trans b.c0,(sZ dR).trans b.c1,(sZ dR).trans b.c2,(sZ dR).trans b.c3,(sZ dR).trans b.c4,(sZ dR).trans b.c5,(sZ dR).trans b.c6,by simpa using b.l⟩
def pc (k ow:Int) (oa:Nat) (c v:Nat→Int):Nat→Int:=if k=3 then aF c ow.toNat (v oa) else c
structure qM (h:Nat) (ek ex ep en:Int) (W:World):Prop where
 c0:W.cell? ⟨h,0,none⟩=some (.int .i64 ek)
 c1:W.cell? ⟨h,1,none⟩=some (.int .u32 ex)
 c2:W.cell? ⟨h,2,none⟩=some (.int .u32 ep)
 c3:W.cell? ⟨h,3,none⟩=some (.int .i64 en)
 z:∀j,W.frozen? ⟨h,j,none⟩=false
 l:h<W.heap.size
theorem qM.upto {S:Nat→Prop} {h:Nat} {ek ex ep en:Int} {W W':World} (a:qM h ek ex ep en W) (u:ah S W W') (hs:¬S h):qM h ek ex ep en W':=
 ⟨(u.cell (q:=⟨h,0,none⟩) a.l hs).trans a.c0,(u.cell (q:=⟨h,1,none⟩) a.l hs).trans a.c1,(u.cell (q:=⟨h,2,none⟩) a.l hs).trans a.c2,(u.cell (q:=⟨h,3,none⟩) a.l hs).trans a.c3,fun j=>(u.frozen (q:=⟨h,j,none⟩) a.l hs).trans (a.z j),Nat.lt_of_lt_of_le a.l u.size⟩
theorem qM.new (w:World) (ek ex ep en:Int) (t:TypeId):qM w.heap.size ek ex ep en (w.alloc (.cells #[.int .i64 ek, .int .u32 ex, .int .u32 ep, .int .i64 en] t)):=
 ⟨ay w _ _ 0,ay w _ _ 1,ay w _ _ 2,ay w _ _ 3,fun j=>gW w _ _ j,by simp⟩
theorem qM.set {h:Nat} {ek ex ep en:Int} {W:World} (a:qM h ek ex ep en W) (k x p n:Int):qM h k x p n ((((W.setCell ⟨h,0,none⟩ (.int .i64 k)).setCell ⟨h,1,none⟩ (.int .u32 x)).setCell ⟨h,2,none⟩ (.int .u32 p)).setCell ⟨h,3,none⟩ (.int .i64 n)):=by
 have e0:=World.cell?_setCell_same W ⟨h,0,none⟩ (.int .i64 k) a.c0
 have d1:=(off (W:=W) (b:=h) (i:=1) (j:=0) (v:= .int .i64 k) (by omega)).trans a.c1
 have d2:=(off (W:=W) (b:=h) (i:=2) (j:=0) (v:= .int .i64 k) (by omega)).trans a.c2
 have d3:=(off (W:=W) (b:=h) (i:=3) (j:=0) (v:= .int .i64 k) (by omega)).trans a.c3
 generalize hW1:W.setCell ⟨h,0,none⟩ (.int .i64 k)=W1 at e0 d1 d2 d3⊢
 have e1:=World.cell?_setCell_same W1 ⟨h,1,none⟩ (.int .u32 x) d1
 have f0:=(off (W:=W1) (b:=h) (i:=0) (j:=1) (v:= .int .u32 x) (by omega)).trans e0
 have f2:=(off (W:=W1) (b:=h) (i:=2) (j:=1) (v:= .int .u32 x) (by omega)).trans d2
 have f3:=(off (W:=W1) (b:=h) (i:=3) (j:=1) (v:= .int .u32 x) (by omega)).trans d3
 generalize hW2:W1.setCell ⟨h,1,none⟩ (.int .u32 x)=W2 at e1 f0 f2 f3⊢
 have e2:=World.cell?_setCell_same W2 ⟨h,2,none⟩ (.int .u32 p) f2
 refine⟨?_, ?_, ?_, ?_,fun j=>by subst hW2;subst hW1;simpa using a.z j,by subst hW2;subst hW1;simpa using a.l⟩
 ·exact(off (by omega)).trans ((off (by omega)).trans f0)
 ·exact(off (by omega)).trans ((off (by omega)).trans e1)
 ·exact(off (by omega)).trans e2
 ·exact World.cell?_setCell_same _ _ _ ((off (by omega)).trans f3)
variable {A T p L:Nat} {c v:Nat→Int}
theorem qM.drew {h:Nat} {ek ex ep en:Int} {W:World} (a:qM h ek ex ep en W):qM h ek ex ep en W.drew:=a.upto (ah.refl (fun _=>False) W).drew id
theorem OB.drew {h:Nat} {k ow oa ob oc kn on:Int} {W:World} (a:OB h k ow oa ob oc kn on W):OB h k ow oa ob oc kn on W.drew:=a.upto (ah.refl (fun _=>False) W).drew id
open Ic
structure kJ where
 M:MM
 c:Nat→Int
 v:Nat→Int
structure Ext where
 k:Int
 x:Int
 pc:Int
 n:Int
def kJ.get (s:kJ) (t:Int):Int:=s.v t.toNat
def kJ.set (s:kJ) (i:Nat) (z:Int):kJ:={s with v:=aF s.v i z}
def opV (o:aV) (s:kJ) (i:Nat):kJ×Option Ext:=
 let a:=s.get o.a
 let b:=s.get o.b
 let c:=s.get o.c
 if o.k=2 then(s.set i (s.c o.w.toNat),none)
 else if o.k=3 then({s with c:=aF s.c o.w.toNat a},none)
 else if o.k=17 then(s.set i (fl (s.c 8) (s.c 9) (s.c 10) (s.c 11)),none)
 else if o.k=9 then(match aQ s.M 1 a (vV o.w).toNat with
  | none=>(s.set i (wid o.w (jD s.M a (vV o.w))),none)
  | some x=>(s.set i (wid o.w 0),some ⟨5,x,o.kn,o.n⟩))
 else if o.k=10 then(match jE s.M a (vW o.w) with
  | none=>({s with M:=nU s.M a (vW o.w) b},none)
  | some x=>(s,some ⟨6,x,o.kn,o.n⟩))
 else if o.k=11 then(s,if dG s.M.hi then some ⟨0,0,o.kn,o.n⟩ else none)
 else if o.k=12 then(s,if a=0 then none else some ⟨0,0,o.kn,o.n⟩)
 else if o.k=13 then(s,if a=0 then none else some ⟨o.w,0,o.kn,o.n⟩)
 else if o.k=14 then(s,some ⟨o.w,o.b%4294967296,o.kn,o.n⟩)
 else if o.k=15 then(s,some ⟨0,0,o.kn,o.n⟩)
 else if o.k=16 then(s,some ⟨0,0,a,o.n⟩)
 else(s.set i (mW o.k o.w o.kn a b c),none)
def evN (os:List aV):Nat→kJ→kJ×Ext×Int
 | 0,s=>(s,⟨0,0,0,0⟩,-1)
 | n+1,s=>match os[os.length-(n+1)]? with
  | none=>(s,⟨0,0,0,0⟩,-1)
  | some o=>match opV o s (os.length-(n+1)) with
   | (s',none)=>evN os n s'
   | (s',some x)=>(s',x,((os.length-(n+1):Nat):Int))
def Fz (c:Nat→Int):Prop:=∀j,0≤c j∧c j<4294967296
structure Ri (s:kJ):Prop where
 M:bQ s.M
 c:Fz s.c
 v:Fz s.v
theorem Fz.aF {c:Nat→Int} (h:Fz c) (k:Nat) (z:Int) (hz:0≤z∧z<4294967296):Fz (Me.aF c k z):=by
 intro j
 unfold Me.aF
 split
 ·exact hz
 ·exact h j
theorem Ri.set {s:kJ} (h:Ri s) (i:Nat) (z:Int) (hz:0≤z∧z<4294967296):Ri (s.set i z):=⟨h.M,h.c,h.v.aF i z hz⟩
theorem Lm (o:aV) (s:kJ) (i:Nat) (h:Ri s) (k0:0≤o.kn) (k1:o.kn<4294967296):Ri (opV o s i).1:=by
 have ha:=h.v o.a.toNat
 have hb:=h.v o.b.toNat
 have hc:=h.v o.c.toNat
 unfold opV
 simp only [kJ.get]
 by_cases e:o.k=2
 ·rw [if_pos e];exact h.set _ _ (h.c _)
 rw [if_neg e];clear e
 by_cases e:o.k=3
 ·rw [if_pos e];exact⟨h.M,h.c.aF _ _ ha,h.v⟩
 rw [if_neg e];clear e
 by_cases e:o.k=17
 ·rw [if_pos e];exact h.set _ _ (by have:=St.nD (s.c 8) (s.c 9) (s.c 10) (s.c 11);show 0≤fl _ _ _ _∧fl _ _ _ _<4294967296;omega)
 rw [if_neg e];clear e
 by_cases e:o.k=9
 ·rw [if_pos e]
  split
  ·have b:=ku h.M (s.v o.a.toNat) (vV o.w)
   exact h.set _ _ (KG _ _ b.1 b.2)
  ·exact h.set _ _ (KG _ _ (by decide) (by decide))
 rw [if_neg e];clear e
 by_cases e:o.k=10
 ·rw [if_pos e]
  split
  ·exact⟨h.M.nU _ _ _ hb.1 hb.2,h.c,h.v⟩
  ·exact h
 rw [if_neg e];clear e
 by_cases e:o.k=11
 ·rw [if_pos e];exact h
 rw [if_neg e];clear e
 by_cases e:o.k=12
 ·rw [if_pos e];exact h
 rw [if_neg e];clear e
 by_cases e:o.k=13
 ·rw [if_pos e];exact h
 rw [if_neg e];clear e
 by_cases e:o.k=14
 ·rw [if_pos e];exact h
 rw [if_neg e];clear e
 by_cases e:o.k=15
 ·rw [if_pos e];exact h
 rw [if_neg e];clear e
 by_cases e:o.k=16
 ·rw [if_pos e];exact h
 rw [if_neg e];clear e
 exact h.set _ _ (QG _ _ _ _ _ _ k0 k1 ha.1 ha.2 hb.1 hb.2 hc.1 hc.2)
theorem AY {os:List aV} {aj:Int}:∀n,n≤os.length→(scan os aj n).1=0→(∀k,k<n→jr os aj (os.length-(k+1))=0)∧jF os=true
 | 0,_,h=>by
  refine⟨fun k hk=>absurd hk (by omega), ?_⟩
  unfold scan at h
  by_cases e:jF os=true
  ·exact e
  ·rw [if_neg e] at h
   exact absurd h (show¬ (7:Int)=0 by decide)
 | n+1,hn,h=>by
  unfold scan at h
  by_cases e:jr os aj (os.length-(n+1))=0
  ·rw [if_pos (by simp [e])] at h
   obtain⟨h1,h2⟩:=AY n (by omega) h
   refine⟨fun k hk=> ?_,h2⟩
   by_cases oQ:k=n
   ·rw [oQ];exact e
   ·exact h1 k (by omega)
  ·rw [if_neg (by simpa using e)] at h
   exact absurd h e
theorem Rj {os:List aV} {aj aN:Int} (h:(xu os aj aN).1=0):0<os.length∧os.length≤2048∧∀i o,os[i]?=some o→Jj os aj i o=0:=by
 unfold xu at h
 by_cases h1:2048<os.length
 ·rw [if_pos h1] at h;exact absurd h (by decide)
 rw [if_neg h1] at h
 by_cases h2:aj<0∨64<aj∨aN<0∨384<aN
 ·rw [if_pos h2] at h;exact absurd h (by decide)
 rw [if_neg h2] at h
 obtain⟨h3,h4⟩:=AY os.length (Nat.le_refl _) h
 have h0:0<os.length:=by
  rcases Nat.eq_zero_or_pos os.length with e | e
  ·unfold jF at h4
   rw [List.getElem?_eq_none (by omega)] at h4
   exact absurd h4 (by decide)
  ·exact e
 refine⟨h0,by omega,fun i o ho=> ?_⟩
 have hi:i<os.length:=(List.getElem?_eq_some_iff.1 ho).1
 have:=h3 (os.length-(i+1)) (by omega)
 rw [show os.length-(os.length-(i+1)+1)=i by omega] at this
 unfold jr at this
 rw [ho] at this
 exact this
structure OpK (o:aV) (i:Nat):Prop where
 k:1≤o.k∧o.k≤17
 w:0≤o.w∧o.w<max (rS o.k) 1
 a:0≤o.a∧(o.a<i∨o.a=0)
 b:0≤o.b∧(o.b<i∨o.b=0∨(o.k=14∧o.b<4294967296))
 c:0≤o.c∧(o.c<i∨o.c=0)
theorem aak {k:Int} (h:rO k=true):1≤k∧k≤17:=by
 unfold rO at h
 split at h<;>first | omega | exact absurd h (by decide)
theorem aal {k:Int} (h:rG k=true):k=14:=by
 unfold rG at h
 split at h<;>first | rfl | exact absurd h (by decide)
theorem Lp {x2 x4 x6 x8 zT Hl:Bool} (h:KR x2 x4 x6 x8 zT Hl=0):x2=false∧x4=false∧x6=false∧x8=false∧zT=false∧Hl=false:=by
 unfold KR at h
 cases x2<;>cases x4<;>cases x6<;>cases x8<;>cases zT<;>cases Hl<;>simp at h⊢
theorem Wv {os:List aV} {aj:Int} {i:Nat} {o:aV} (h:Jj os aj i o=0):OpK o i:=by
 unfold Jj at h
 obtain⟨h2,h4,h6,h8,BU,Jk⟩:=Lp h
 unfold e2 at h2
 unfold e6 at h6
 unfold e8 at h8
 unfold BZ at BU
 simp only [Bool.or_eq_false_iff,Bool.not_eq_false',Bool.and_eq_false_iff,decide_eq_false_iff_not,Bool.not_eq_true',bne_eq_false_iff_eq,Bool.not_eq_eq_eq_not,Bool.not_true,Bool.not_false] at h2 h6 h8 BU
 have gv:∀ {t:Int},qy os i t=true→0≤t∧t<i:=fun{t} hg=>by
  unfold qy at hg
  simp only [Bool.and_eq_true,decide_eq_true_eq] at hg
  exact hg.1
 refine⟨aak h2.1,⟨by omega,by omega⟩, ?_, ?_, ?_⟩
 ·rcases BU.1 with ha | ha
  ·rcases h6.1 with e | e
   ·rw [ha] at e;exact absurd e (by decide)
   ·exact⟨by omega, .inr e⟩
  ·have:=gv ha;exact⟨this.1, .inl this.2⟩
 ·rcases BU.2.1 with hb | hb
  ·rcases h6.2.1 with e | e | e
   ·rw [hb] at e;exact absurd e (by decide)
   ·rcases h8 with g | g
    ·rw [e] at g;exact absurd g (by decide)
    ·exact⟨by omega, .inr (.inr ⟨aal e,by omega⟩)⟩
   ·exact⟨by omega, .inr (.inl e)⟩
  ·have:=gv hb;exact⟨this.1, .inl this.2⟩
 ·rcases BU.2.2 with hc | hc
  ·rcases h6.2.2 with e | e
   ·rw [hc] at e;exact absurd e (by decide)
   ·exact⟨by omega, .inr e⟩
  ·have:=gv hc;exact⟨this.1, .inl this.2⟩
variable {A T p L:Nat}
theorem wE {M:MM} {a n x:Int} (h:aQ M 1 a n.toNat=some x):jD M a n=0:=by
 unfold jD
 rw [h]
 rfl
end Go.Proofs.YtcjcmnnhmajocabGreat.Ev
