import Derived.Test.YtcjcmnnhmajocabPmbl
set_option linter.unusedVariables false
set_option linter.unusedSimpArgs false
set_option maxRecDepth 100000
set_option maxHeartbeats 16000000
namespace Go.Proofs.Ytcjcmnnhmajocab.Ir
open Go.RowKit Kt
theorem wz (c0 c1 c2 c3 c4 c5 c6 c7 c8 c9 pW oZ pc:Int) (w:World) (h8:0≤c8) (g8:c8<4294967296) (h9:0≤c9) (g9:c9<4294967296) (Fz:0≤pW) (Gz:pW<4294967296) (h11:0≤oZ) (BM:oZ<4294967296):
  Calls Try.prog 43 #[.agg #[.int .u32 c0, .int .u32 c1, .int .u32 c2, .int .u32 c3, .int .u32 c4, .int .u32 c5, .int .u32 c6, .int .u32 c7, .int .u32 c8, .int .u32 c9, .int .u32 pW, .int .u32 oZ], .int .u32 pc] w
   fun e w'=>e= .returned (.agg #[.int .u32 c0, .int .u32 c1, .int .u32 c2, .int .u32 c3, .int .u32 c4, .int .u32 c5, .int .u32 c6, .int .u32 c7, .int .u32 pc, .int .u32 (Fl.fl c8 c9 pW oZ)])∧Below w.heap.size w w':=by
 go_enter Try.func43,Try.ntmps43
 go_wp2_with (go_at_call 84;refine(Fl.bU _ _ _ _ _ (by omega) (by omega) (by omega) (by omega) (by omega) (by omega)).mono ?_;rintro e w' ⟨rfl,rfl⟩)
 refine wp_loop_rounds 9 ?_
 repeat(rw [rounds_succ];go_wp2)
 refine bodyPost_ret (v:= .agg #[.int .u32 c0, .int .u32 c1, .int .u32 c2, .int .u32 c3, .int .u32 c4, .int .u32 c5, .int .u32 c6, .int .u32 c7, .int .u32 pc, .int .u32 (Fl.fl c8 c9 pW oZ)]) (by simp [results,Try.results43,go_sem]) rfl ⟨rfl, ?_⟩
 repeat(first | exact Below.refl _ _ | apply Below.drew | (refine Below.alloc ?_ (by simp;try omega) _))
end Go.Proofs.Ytcjcmnnhmajocab.Ir
namespace Go.Proofs.Ytcjcmnnhmajocab.Hr
open Go.RowKit Kt Me Fl Ev Ho
variable {h:Nat} {K:Hk} {s:Rm} {B:B4} {P:RP} {M:MM}
def Jg (s:Rm):Prop:=∀j,0≤s.reg j∧s.reg j<4294967296
theorem k12 {w W:World} {x:Cd} {rd ra:Nat} (a:RW w x h K s B P M W) (hd:x.d=rd) (ha:x.a=ra):W.cell? ⟨w.heap.size,1,none⟩=some (.int .i64 (rd:Int))∧W.cell? ⟨w.heap.size,2,none⟩=some (.int .i64 (ra:Int)):=⟨hd▸a.x.c1,ha▸a.x.c2⟩
theorem YW {w W:World} {x:Cd} {rd rn:Nat} (a:RW w x h K s B P M W) (hd:x.d=rd) (hn:x.n=rn) (ln:rn<12):W.cell? ⟨w.heap.size,1,none⟩=some (.int .i64 (rd:Int))∧W.cell? ⟨w.heap.size,5,none⟩=some (.int .i64 (rn:Int))∧W.cell? ⟨h,2+rn,none⟩=some (.int .u32 (s.c rn)):=⟨hd▸a.x.c1,hn▸a.x.c5,a.a.x.c rn ln⟩
theorem Jh {w W:World} {x:Cd} {rd rn:Nat} (a:RW w x h K s B P M W) (hd:x.d=rd) (hn:x.n=rn) (ln:rn<2048):W.cell? ⟨w.heap.size,1,none⟩=some (.int .i64 (rd:Int))∧W.cell? ⟨w.heap.size,5,none⟩=some (.int .i64 (rn:Int))∧W.cell? ⟨h,20,none⟩=some (.slice (some ⟨B.s,0,none⟩) 2048 2048)∧W.cell? ⟨B.s,rn,none⟩=some (.int .u32 (s.lQ rn)):=⟨hd▸a.x.c1,hn▸a.x.c5,a.a.x.q2,a.a.v.v rn ln⟩
theorem Ux {w W:World} {x:Cd} {ra rn:Nat} (a:RW w x h K s B P M W) (ha:x.a=ra) (hn:x.n=rn):W.cell? ⟨w.heap.size,2,none⟩=some (.int .i64 (ra:Int))∧W.cell? ⟨w.heap.size,5,none⟩=some (.int .i64 (rn:Int))∧W.cell? ⟨h,20,none⟩=some (.slice (some ⟨B.s,0,none⟩) 2048 2048):=⟨ha▸a.x.c2,hn▸a.x.c5,a.a.x.q2⟩
theorem kN.range {h:Nat} {K:Hk} {s:Rm} {q:Value×Value×Value×Value} {W:World} (a:kN h K s q W):W.rangeAt h 2 [.int .u32 (s.c 0), .int .u32 (s.c 1), .int .u32 (s.c 2), .int .u32 (s.c 3), .int .u32 (s.c 4), .int .u32 (s.c 5), .int .u32 (s.c 6), .int .u32 (s.c 7), .int .u32 (s.c 8), .int .u32 (s.c 9), .int .u32 (s.c 10), .int .u32 (s.c 11)]:=by
 intro j v hj
 match j,hj with
 | 0,hj | 1,hj | 2,hj | 3,hj | 4,hj | 5,hj | 6,hj | 7,hj | 8,hj | 9,hj | 10,hj | 11,hj=>simp at hj;subst hj;exact a.c _ (by omega)
 | n+12,hj=>simp at hj
theorem k97 {w W:World} {x:Cd} {rd:Nat} (a:RW w x h K s B P M W) (hd:x.d=rd):W.cell? ⟨w.heap.size,1,none⟩=some (.int .i64 (rd:Int))∧W.rangeAt h 2 [.int .u32 (s.c 0), .int .u32 (s.c 1), .int .u32 (s.c 2), .int .u32 (s.c 3), .int .u32 (s.c 4), .int .u32 (s.c 5), .int .u32 (s.c 6), .int .u32 (s.c 7), .int .u32 (s.c 8), .int .u32 (s.c 9), .int .u32 (s.c 10), .int .u32 (s.c 11)]:=⟨hd▸a.x.c1,a.a.x.range⟩
theorem yj {w W:World} {x:Cd} {rd go:Nat} {k ow:Int} (a:RW w x h K s B P M W) (O:XO go k ow 0 0 0 0 0 W) (hd:x.d=rd):W.cell? ⟨w.heap.size,1,none⟩=some (.int .i64 (rd:Int))∧W.cell? ⟨go,0,none⟩=some (.int .i64 k)∧W.cell? ⟨go,1,none⟩=some (.int .i64 ow)∧W.cell? ⟨go,2,none⟩=some (.int .i64 0)∧W.cell? ⟨go,3,none⟩=some (.int .i64 0)∧W.cell? ⟨go,4,none⟩=some (.int .i64 0)∧W.cell? ⟨go,5,none⟩=some (.int .u32 0)∧W.cell? ⟨go,6,none⟩=some (.int .i64 0):=⟨hd▸a.x.c1,O.c0,O.c1,O.c2,O.c3,O.c4,O.c5,O.c6⟩
theorem Uy (x:Cd) (rd:Nat) (w:World) (a:RR h K s B w) (m:RM P M w) (hp:∀i,P.has i→i<w.heap.size) (ds:∀i,P.has i→¬B.has h i) (ho:2≤x.op∧x.op<3) (hd:x.d=rd) (ld:rd<16):
  Calls Try.prog 112 #[.pointer (some ⟨h,0,none⟩), .agg #[.int .i64 x.op, .int .i64 x.d, .int .i64 x.a, .int .i64 x.b, .int .i64 x.c, .int .i64 x.n, .int .u32 x.k, .int .u32 x.x]] w fun e w'=>e= .returned (.tuple #[])∧RR h K (s.sets rd x.k) B w'∧RM P M w'∧ah (fun i=>B.has h i∨P.has i) w w':=by
 have SE:Hid (∀w,RR h K s B w→Calls Try.prog 164 #[.pointer (some ⟨h,0,none⟩), .int .i64 rd, .int .u32 x.k] w fun e w'=>e= .returned (.tuple #[])∧RR h K (s.sets rd x.k) B w'∧ah (B.has h) w w'):=fun w a=>gV rd x.k w a ld
 generalize s.sets rd x.k=s2 at SE⊢
 have HD:=κ hd
 clear hd
 have je:aF x.op=8:=by(have h0:x.op=2:=by omega);rw [h0];decide
 have FO:Hid (∀w,Calls Try.prog 97 #[.int .i64 x.op] w fun e w'=>e= .returned (.tuple #[.string {data:= #[100]}, .int .i64 0, .int .i64 2])∧w=w'):=fun w=>by
  have:=bC x.op w
  rw [je] at this
  exact this
 have e2:(x.op==2)=true:=by simp;omega
 have e3:(x.op==3)=false:=by simp;omega
 have e6:(x.op==6)=false:=by simp;omega
 have e7:(x.op==7)=false:=by simp;omega
 have e8:(x.op==8)=false:=by simp;omega
 have e9:(x.op==9)=false:=by simp;omega
 have nV:(x.op==97)=false:=by simp;omega
 obtain⟨Gx,Gy⟩:=ho
 have kw:=RW.new w x 108 a m a.lt hp ds
 have hh:h<w.heap.size:=a.x.l
 clear je a m
 go_enter Try.func112,Try.ntmps112
 go_upto_region 1 with fail
 generalize w.alloc (.cells #[.int .i64 x.op, .int .i64 x.d, .int .i64 x.a, .int .i64 x.b, .int .i64 x.c, .int .i64 x.n, .int .u32 x.k, .int .u32 x.x] 108)=WA at kw⊢
 have x0:=kw.x.c0
 have lx:=kw.x.l
 have KW:=κ kw
 clear kw
 go_upto_region 2 with fail
 clear x0 lx
 go_upto_region 20 with(go_at_call 97;(with_reducible refine(FO.out _).mono ?_);rintro e w1 ⟨rfl,rfl⟩)
 have x1:=KW.out.x.c1
 rw [HD.out] at x1
 have x6:=KW.out.x.c6
 have lx:=KW.out.x.l
 go_wp2_with (go_at_call 164;(with_reducible refine(SE.out _ KW.out.a).mono ?_);rintro e w3 ⟨rfl,a3,u3⟩;have iL:=κ (KW.out.go a3 u3);clear a3 u3)
 go_end0
 exact⟨rfl,iL.out.a,iL.out.m,iL.out.u⟩
theorem Uz (x:Cd) (rd ra:Nat) (w:World) (a:RR h K s B w) (m:RM P M w) (hp:∀i,P.has i→i<w.heap.size) (ds:∀i,P.has i→¬B.has h i) (ho:3≤x.op∧x.op<4) (hd:x.d=rd) (ha:x.a=ra) (ld:rd<16) (la:ra<16):
  Calls Try.prog 112 #[.pointer (some ⟨h,0,none⟩), .agg #[.int .i64 x.op, .int .i64 x.d, .int .i64 x.a, .int .i64 x.b, .int .i64 x.c, .int .i64 x.n, .int .u32 x.k, .int .u32 x.x]] w fun e w'=>e= .returned (.tuple #[])∧RR h K ((s.aA ra).sets rd (s.reg ra)) B w'∧RM P M w'∧ah (fun i=>B.has h i∨P.has i) w w':=by
 have GA:Hid (∀w,RR h K s B w→Calls Try.prog 110 #[.pointer (some ⟨h,0,none⟩), .int .i64 ra] w fun e w'=>e= .returned (.int .u32 (s.reg ra))∧RR h K (s.aA ra) B w'∧ah (fun i=>i=h) w w'):=fun w a=>bJ ra w a la
 have SE:Hid (∀w,RR h K (s.aA ra) B w→Calls Try.prog 164 #[.pointer (some ⟨h,0,none⟩), .int .i64 rd, .int .u32 (s.reg ra)] w fun e w'=>e= .returned (.tuple #[])∧RR h K ((s.aA ra).sets rd (s.reg ra)) B w'∧ah (B.has h) w w'):=fun w a=>gV rd _ w a ld
 generalize(s.aA ra).sets rd (s.reg ra)=s2 at SE⊢
 generalize s.aA ra=s1 at GA SE
 generalize s.reg ra=va at GA SE
 have HD:=κ hd
 have HA:=κ ha
 clear hd ha
 have je:aF x.op=2:=by(have h0:x.op=3:=by omega);rw [h0];decide
 have FO:Hid (∀w,Calls Try.prog 97 #[.int .i64 x.op] w fun e w'=>e= .returned (.tuple #[.string {data:= #[100,97]}, .int .i64 0, .int .i64 1])∧w=w'):=fun w=>by
  have:=bC x.op w
  rw [je] at this
  exact this
 have e2:(x.op==2)=false:=by simp;omega
 have e3:(x.op==3)=true:=by simp;omega
 have e6:(x.op==6)=false:=by simp;omega
 have e7:(x.op==7)=false:=by simp;omega
 have e8:(x.op==8)=false:=by simp;omega
 have e9:(x.op==9)=false:=by simp;omega
 have nV:(x.op==97)=false:=by simp;omega
 obtain⟨Gx,Gy⟩:=ho
 have kw:=RW.new w x 108 a m a.lt hp ds
 have hh:h<w.heap.size:=a.x.l
 clear je a m
 go_enter Try.func112,Try.ntmps112
 go_upto_region 1 with fail
 generalize w.alloc (.cells #[.int .i64 x.op, .int .i64 x.d, .int .i64 x.a, .int .i64 x.b, .int .i64 x.c, .int .i64 x.n, .int .u32 x.k, .int .u32 x.x] 108)=WA at kw⊢
 have x0:=kw.x.c0
 have lx:=kw.x.l
 have KW:=κ kw
 clear kw
 go_upto_region 2 with fail
 clear x0 lx
 go_upto_region 23 with(go_at_call 97;(with_reducible refine(FO.out _).mono ?_);rintro e w1 ⟨rfl,rfl⟩)
 have lx:=KW.out.x.l
 have F0:=κ (k12 KW.out HD.out HA.out)
 have Fd:=κ (k12 KW.out.drew HD.out HA.out)
 go_region_held3 (fun W=>W.cell? ⟨w.heap.size,1,none⟩=some (.int .i64 (rd:Int))∧W.cell? ⟨w.heap.size,2,none⟩=some (.int .i64 (ra:Int))) (with_reducible (first | apply F0.out | apply Fd.out | apply F2.out | apply F3.out))
  ((first | (go_at_call 164;(with_reducible refine(SE.out _ lU.out.a).mono ?_);rintro e w3 ⟨rfl,a3,u3⟩;have iL:=κ (lU.out.go a3 u3);have F3:=κ (k12 iL.out HD.out HA.out);clear a3 u3) | (go_at_call 110;(with_reducible refine(GA.out _ KW.out.drew.a).mono ?_);rintro e w2 ⟨rfl,a2,u2⟩;have lU:=κ (KW.out.drew.lF a2 u2);have F2:=κ (k12 lU.out HD.out HA.out);clear a2 u2)))
 go_end0
 exact⟨rfl,iL.out.a,iL.out.m,iL.out.u⟩
theorem UC (x:Cd) (rd rn:Nat) (w:World) (a:RR h K s B w) (m:RM P M w) (hp:∀i,P.has i→i<w.heap.size) (ds:∀i,P.has i→¬B.has h i) (ho:6≤x.op∧x.op<7) (hd:x.d=rd) (hn:x.n=rn) (ld:rd<16) (ln:rn<12):
  Calls Try.prog 112 #[.pointer (some ⟨h,0,none⟩), .agg #[.int .i64 x.op, .int .i64 x.d, .int .i64 x.a, .int .i64 x.b, .int .i64 x.c, .int .i64 x.n, .int .u32 x.k, .int .u32 x.x]] w fun e w'=>e= .returned (.tuple #[])∧RR h K (s.sets rd (s.c rn)) B w'∧RM P M w'∧ah (fun i=>B.has h i∨P.has i) w w':=by
 have SE:Hid (∀w,RR h K s B w→Calls Try.prog 164 #[.pointer (some ⟨h,0,none⟩), .int .i64 rd, .int .u32 (s.c rn)] w fun e w'=>e= .returned (.tuple #[])∧RR h K (s.sets rd (s.c rn)) B w'∧ah (B.has h) w w'):=fun w a=>gV rd _ w a ld
 obtain⟨s2,wH⟩:∃s2,s.sets rd (s.c rn)=s2:=⟨_,rfl⟩
 rw [wH] at SE⊢
 have zD:=κ (show s2.c=s.c from by rw [←wH];rfl)
 have HD:=κ hd
 have HN:=κ hn
 have n0:(0:Int)≤(rn:Int):=by omega
 have n1:(rn:Int) <12:=by omega
 clear hd hn wH
 have je:aF x.op=10:=by(have h0:x.op=6:=by omega);rw [h0];decide
 have FO:Hid (∀w,Calls Try.prog 97 #[.int .i64 x.op] w fun e w'=>e= .returned (.tuple #[.string {data:= #[100,110]}, .int .i64 12, .int .i64 1])∧w=w'):=fun w=>by
  have:=bC x.op w
  rw [je] at this
  exact this
 have e2:(x.op==2)=false:=by simp;omega
 have e3:(x.op==3)=false:=by simp;omega
 have e6:(x.op==6)=true:=by simp;omega
 have e7:(x.op==7)=false:=by simp;omega
 have e8:(x.op==8)=false:=by simp;omega
 have e9:(x.op==9)=false:=by simp;omega
 have nV:(x.op==97)=false:=by simp;omega
 obtain⟨Gx,Gy⟩:=ho
 have kw:=RW.new w x 108 a m a.lt hp ds
 have hh:h<w.heap.size:=a.x.l
 clear je a m
 go_enter Try.func112,Try.ntmps112
 go_upto_region 1 with fail
 generalize w.alloc (.cells #[.int .i64 x.op, .int .i64 x.d, .int .i64 x.a, .int .i64 x.b, .int .i64 x.c, .int .i64 x.n, .int .u32 x.k, .int .u32 x.x] 108)=WA at kw⊢
 have x0:=kw.x.c0
 have lx:=kw.x.l
 have KW:=κ kw
 clear kw
 go_upto_region 2 with fail
 clear x0 lx
 go_upto_region 25 with(go_at_call 97;(with_reducible refine(FO.out _).mono ?_);rintro e w1 ⟨rfl,rfl⟩)
 have lx:=KW.out.x.l
 have F0:=κ (YW KW.out HD.out HN.out ln)
 have Fd:=κ (YW KW.out.drew HD.out HN.out ln)
 go_region_held3 (fun W=>W.cell? ⟨w.heap.size,1,none⟩=some (.int .i64 (rd:Int))∧W.cell? ⟨w.heap.size,5,none⟩=some (.int .i64 (rn:Int))∧W.cell? ⟨h,2+rn,none⟩=some (.int .u32 (s.c rn))) (with_reducible (first | apply F0.out | apply Fd.out | apply F3.out))
  ((go_at_call 164;(with_reducible refine(SE.out _ KW.out.drew.a).mono ?_);rintro e w3 ⟨rfl,a3,u3⟩;have iL:=κ (KW.out.drew.go a3 u3);have F3:=YW iL.out HD.out HN.out ln;rw [zD.out] at F3;have F3:=κ F3;clear a3 u3))
 go_end0
 exact⟨rfl,iL.out.a,iL.out.m,iL.out.u⟩
theorem UD (x:Cd) (ra rn:Nat) (w:World) (a:RR h K s B w) (m:RM P M w) (hp:∀i,P.has i→i<w.heap.size) (ds:∀i,P.has i→¬B.has h i) (ho:7≤x.op∧x.op<8) (ha:x.a=ra) (hn:x.n=rn) (la:ra<16) (ln:rn<12):
  Calls Try.prog 112 #[.pointer (some ⟨h,0,none⟩), .agg #[.int .i64 x.op, .int .i64 x.d, .int .i64 x.a, .int .i64 x.b, .int .i64 x.c, .int .i64 x.n, .int .u32 x.k, .int .u32 x.x]] w fun e w'=>e= .returned (.tuple #[])∧RR h K (if(s.aA ra).stuck then s.aA ra else{s.aA ra with c:=aO s.c rn (s.reg ra)}) B w'∧RM P M w'∧ah (fun i=>B.has h i∨P.has i) w w':=by
 have GA:Hid (∀w,RR h K s B w→Calls Try.prog 110 #[.pointer (some ⟨h,0,none⟩), .int .i64 ra] w fun e w'=>e= .returned (.int .u32 (s.reg ra))∧RR h K (s.aA ra) B w'∧ah (fun i=>i=h) w w'):=fun w a=>bJ ra w a la
 have zD:=κ (show(s.aA ra).c=s.c from rfl)
 generalize s.aA ra=s1 at GA zD⊢
 generalize s.reg ra=va at GA⊢
 obtain⟨b,hb⟩:∃b,s1.stuck=b:=⟨_,rfl⟩
 obtain⟨sr,yY⟩:∃sr,(if s1.stuck then s1 else{s1 with c:=aO s.c rn va})=sr:=⟨_,rfl⟩
 rw [yY]
 have HB:=κ hb
 have HR:=κ yY
 have HA:=κ ha
 have HN:=κ hn
 have n0:(0:Int)≤(rn:Int):=by omega
 have n1:(rn:Int) <12:=by omega
 clear hb yY ha hn
 have je:aF x.op=11:=by(have h0:x.op=7:=by omega);rw [h0];decide
 have FO:Hid (∀w,Calls Try.prog 97 #[.int .i64 x.op] w fun e w'=>e= .returned (.tuple #[.string {data:= #[97,110]}, .int .i64 12, .int .i64 1])∧w=w'):=fun w=>by
  have:=bC x.op w
  rw [je] at this
  exact this
 have e2:(x.op==2)=false:=by simp;omega
 have e3:(x.op==3)=false:=by simp;omega
 have e6:(x.op==6)=false:=by simp;omega
 have e7:(x.op==7)=true:=by simp;omega
 have e8:(x.op==8)=false:=by simp;omega
 have e9:(x.op==9)=false:=by simp;omega
 have nV:(x.op==97)=false:=by simp;omega
 obtain⟨Gx,Gy⟩:=ho
 have kw:=RW.new w x 108 a m a.lt hp ds
 have hh:h<w.heap.size:=a.x.l
 clear je a m
 go_enter Try.func112,Try.ntmps112
 go_upto_region 1 with fail
 generalize w.alloc (.cells #[.int .i64 x.op, .int .i64 x.d, .int .i64 x.a, .int .i64 x.b, .int .i64 x.c, .int .i64 x.n, .int .u32 x.k, .int .u32 x.x] 108)=WA at kw⊢
 have x0:=kw.x.c0
 have lx:=kw.x.l
 have KW:=κ kw
 clear kw
 go_upto_region 2 with fail
 clear x0 lx
 go_upto_region 27 with(go_at_call 97;(with_reducible refine(FO.out _).mono ?_);rintro e w1 ⟨rfl,rfl⟩)
 have x2:=KW.out.x.c2
 rw [HA.out] at x2
 have lx:=KW.out.x.l
 go_upto_region 28 with(go_at_call 110;(with_reducible refine(GA.out _ KW.out.a).mono ?_);rintro e w2 ⟨rfl,a2,u2⟩;have KW:=κ (KW.out.lF a2 u2);clear a2 u2)
 clear x2 lx
 have wW:=KW.out.a.x.st
 rw [HB.out] at wW
 have lh:=KW.out.a.x.l
 cases b
 ·have HR2:=κ (show{s1 with c:=aO s.c rn va}=sr from by rw [←HR.out,if_neg (by rw [HB.out];simp)])
  go_upto_region 29 with fail
  clear wW
  have x5:=KW.out.x.c5
  rw [HN.out] at x5
  have lx:=KW.out.x.l
  have cc:=KW.out.a.x.c rn ln
  have zz:=KW.out.a.x.z (2+rn)
  go_region
  have a9:=KW.out.a.EH rn va ln
  have u9:=(ah.refl (fun i=>i=h) w2).setCell (q:=⟨h,2+rn,none⟩) (.inl rfl) (.int .u32 va)
  rw [zD.out,HR2.out] at a9
  have YX:=κ (KW.out.lF a9 u9)
  go_end0
  exact⟨rfl,YX.out.drew.a,YX.out.drew.m,YX.out.drew.u⟩
 ·have HR2:=κ (show s1=sr from by rw [←HR.out,if_pos (by rw [HB.out])])
  go_wp2_with fail
  go_end0
  exact⟨rfl,HR2.out▸KW.out.a,KW.out.m,KW.out.u⟩
theorem UE (x:Cd) (rd rn:Nat) (w:World) (a:RR h K s B w) (m:RM P M w) (hp:∀i,P.has i→i<w.heap.size) (ds:∀i,P.has i→¬B.has h i) (ho:8≤x.op∧x.op<9) (hd:x.d=rd) (hn:x.n=rn) (ld:rd<16) (ln:rn<2048):
  Calls Try.prog 112 #[.pointer (some ⟨h,0,none⟩), .agg #[.int .i64 x.op, .int .i64 x.d, .int .i64 x.a, .int .i64 x.b, .int .i64 x.c, .int .i64 x.n, .int .u32 x.k, .int .u32 x.x]] w fun e w'=>e= .returned (.tuple #[])∧RR h K (({s with stuck:=s.stuck || !s.held rn}:Rm).sets rd (s.lQ rn)) B w'∧RM P M w'∧ah (fun i=>B.has h i∨P.has i) w w':=by
 obtain⟨s1,pV⟩:∃s1:Rm,({s with stuck:=s.stuck || !s.held rn}:Rm)=s1:=⟨_,rfl⟩
 have SE:Hid (∀w,RR h K s1 B w→Calls Try.prog 164 #[.pointer (some ⟨h,0,none⟩), .int .i64 rd, .int .u32 (s.lQ rn)] w fun e w'=>e= .returned (.tuple #[])∧RR h K (s1.sets rd (s.lQ rn)) B w'∧ah (B.has h) w w'):=fun w a=>gV rd _ w a ld
 rw [pV]
 obtain⟨s2,wH⟩:∃s2,s1.sets rd (s.lQ rn)=s2:=⟨_,rfl⟩
 rw [wH] at SE⊢
 have SP1:=κ (show s1.lQ=s.lQ from by rw [←pV])
 have SP2:=κ (show s2.lQ=s.lQ from by rw [←wH,←SP1.out];rfl)
 obtain⟨b,hb⟩:∃b,s.held rn=b:=⟨_,rfl⟩
 have HB:=κ hb
 have JM:=κ pV
 have HD:=κ hd
 have HN:=κ hn
 have n0:(0:Int)≤(rn:Int):=by omega
 have n1:(rn:Int) <2048:=by omega
 clear hb hd hn pV wH
 have je:aF x.op=12:=by(have h0:x.op=8:=by omega);rw [h0];decide
 have FO:Hid (∀w,Calls Try.prog 97 #[.int .i64 x.op] w fun e w'=>e= .returned (.tuple #[.string {data:= #[100,110]}, .int .i64 2048, .int .i64 1])∧w=w'):=fun w=>by
  have:=bC x.op w
  rw [je] at this
  exact this
 have e2:(x.op==2)=false:=by simp;omega
 have e3:(x.op==3)=false:=by simp;omega
 have e6:(x.op==6)=false:=by simp;omega
 have e7:(x.op==7)=false:=by simp;omega
 have e8:(x.op==8)=true:=by simp;omega
 have e9:(x.op==9)=false:=by simp;omega
 have nV:(x.op==97)=false:=by simp;omega
 obtain⟨Gx,Gy⟩:=ho
 have kw:=RW.new w x 108 a m a.lt hp ds
 have hh:h<w.heap.size:=a.x.l
 clear je a m
 go_enter Try.func112,Try.ntmps112
 go_upto_region 1 with fail
 generalize w.alloc (.cells #[.int .i64 x.op, .int .i64 x.d, .int .i64 x.a, .int .i64 x.b, .int .i64 x.c, .int .i64 x.n, .int .u32 x.k, .int .u32 x.x] 108)=WA at kw⊢
 have x0:=kw.x.c0
 have lx:=kw.x.l
 have KW:=κ kw
 clear kw
 go_upto_region 2 with fail
 clear x0 lx
 go_upto_region 31 with(go_at_call 97;(with_reducible refine(FO.out _).mono ?_);rintro e w1 ⟨rfl,rfl⟩)
 have x5:=KW.out.x.c5
 rw [HN.out] at x5
 have lx:=KW.out.x.l
 have ql:WA.cell? ⟨h,21,none⟩=some (.slice (some ⟨B.l,0,none⟩) 2048 2048):=KW.out.a.x.q3
 have vl:=KW.out.a.d.v rn ln
 rw [HB.out] at vl
 have lh:=KW.out.a.x.l
 go_region
 clear x5 lx ql vl lh
 have KW:=κ KW.out.drew
 generalize WA.drew=w4 at KW⊢
 cases b
 ·have wW:=KW.out.a.x.st
  have zst:=KW.out.a.x.z 23
  have lh:=KW.out.a.x.l
  go_upto_region 33 with fail
  clear wW zst lh
  have a9:=KW.out.a.kM true
  have u9:=(ah.refl (fun i=>i=h) w4).setCell (q:=⟨h,23,none⟩) (.inl rfl) (.bool true)
  rw [show({s with stuck:=true}:Rm)=s1 from by rw [←JM.out,HB.out];simp] at a9
  have KW:=κ (KW.out.lF a9 u9)
  clear a9 u9
  generalize w4.setCell ⟨h,23,none⟩ (.bool true)=w5 at KW⊢
  have lx:=KW.out.x.l
  have F0:=Jh KW.out HD.out HN.out ln
  have Fd:=Jh KW.out.drew HD.out HN.out ln
  rw [SP1.out] at F0 Fd
  have F0:=κ F0
  have Fd:=κ Fd
  go_region_held3 (fun W=>W.cell? ⟨w.heap.size,1,none⟩=some (.int .i64 (rd:Int))∧W.cell? ⟨w.heap.size,5,none⟩=some (.int .i64 (rn:Int))∧W.cell? ⟨h,20,none⟩=some (.slice (some ⟨B.s,0,none⟩) 2048 2048)∧W.cell? ⟨B.s,rn,none⟩=some (.int .u32 (s.lQ rn))) (with_reducible (first | apply F0.out | apply Fd.out | apply F3.out))
   ((go_at_call 164;(with_reducible refine(SE.out _ KW.out.drew.a).mono ?_);rintro e w3 ⟨rfl,a3,u3⟩;have iL:=κ (KW.out.drew.go a3 u3);have F3:=Jh iL.out HD.out HN.out ln;rw [SP2.out] at F3;have F3:=κ F3;clear a3 u3))
  go_end0
  exact⟨rfl,iL.out.a,iL.out.m,iL.out.u⟩
 ·have KW:Hid (RW w x h K s1 B P M w4):=by
   have e:s1=s:=by rw [←JM.out,HB.out];simp
   rw [e];exact KW.out
  go_upto_region 33 with fail
  generalize hw5:w4=w5 at KW⊢
  have lx:=KW.out.x.l
  have F0:=Jh KW.out HD.out HN.out ln
  have Fd:=Jh KW.out.drew HD.out HN.out ln
  rw [SP1.out] at F0 Fd
  have F0:=κ F0
  have Fd:=κ Fd
  go_region_held3 (fun W=>W.cell? ⟨w.heap.size,1,none⟩=some (.int .i64 (rd:Int))∧W.cell? ⟨w.heap.size,5,none⟩=some (.int .i64 (rn:Int))∧W.cell? ⟨h,20,none⟩=some (.slice (some ⟨B.s,0,none⟩) 2048 2048)∧W.cell? ⟨B.s,rn,none⟩=some (.int .u32 (s.lQ rn))) (with_reducible (first | apply F0.out | apply Fd.out | apply F3.out))
   ((go_at_call 164;(with_reducible refine(SE.out _ KW.out.drew.a).mono ?_);rintro e w3 ⟨rfl,a3,u3⟩;have iL:=κ (KW.out.drew.go a3 u3);have F3:=Jh iL.out HD.out HN.out ln;rw [SP2.out] at F3;have F3:=κ F3;clear a3 u3))
  go_end0
  exact⟨rfl,iL.out.a,iL.out.m,iL.out.u⟩
theorem UF (x:Cd) (ra rn:Nat) (w:World) (a:RR h K s B w) (m:RM P M w) (hp:∀i,P.has i→i<w.heap.size) (ds:∀i,P.has i→¬B.has h i) (ho:9≤x.op∧x.op<10) (ha:x.a=ra) (hn:x.n=rn) (la:ra<16) (ln:rn<2048):
  Calls Try.prog 112 #[.pointer (some ⟨h,0,none⟩), .agg #[.int .i64 x.op, .int .i64 x.d, .int .i64 x.a, .int .i64 x.b, .int .i64 x.c, .int .i64 x.n, .int .u32 x.k, .int .u32 x.x]] w fun e w'=>e= .returned (.tuple #[])∧RR h K {s.aA ra with lQ:=aO s.lQ rn (s.reg ra),held:=aO s.held rn true} B w'∧RM P M w'∧ah (fun i=>B.has h i∨P.has i) w w':=by
 have GA:Hid (∀w,RR h K s B w→Calls Try.prog 110 #[.pointer (some ⟨h,0,none⟩), .int .i64 ra] w fun e w'=>e= .returned (.int .u32 (s.reg ra))∧RR h K (s.aA ra) B w'∧ah (fun i=>i=h) w w'):=fun w a=>bJ ra w a la
 have HE:=κ (show(s.aA ra).lQ=s.lQ∧(s.aA ra).held=s.held from⟨rfl,rfl⟩)
 obtain⟨sr,yY⟩:∃sr:Rm,{s.aA ra with lQ:=aO s.lQ rn (s.reg ra),held:=aO s.held rn true}=sr:=⟨_,rfl⟩
 rw [yY]
 have HR:=κ yY
 clear yY
 generalize s.aA ra=s1 at GA HE HR
 generalize s.reg ra=va at GA HR
 have HA:=κ ha
 have HN:=κ hn
 have n0:(0:Int)≤(rn:Int):=by omega
 have n1:(rn:Int) <2048:=by omega
 clear ha hn
 have je:aF x.op=13:=by(have h0:x.op=9:=by omega);rw [h0];decide
 have FO:Hid (∀w,Calls Try.prog 97 #[.int .i64 x.op] w fun e w'=>e= .returned (.tuple #[.string {data:= #[97,110]}, .int .i64 2048, .int .i64 1])∧w=w'):=fun w=>by
  have:=bC x.op w
  rw [je] at this
  exact this
 have e2:(x.op==2)=false:=by simp;omega
 have e3:(x.op==3)=false:=by simp;omega
 have e6:(x.op==6)=false:=by simp;omega
 have e7:(x.op==7)=false:=by simp;omega
 have e8:(x.op==8)=false:=by simp;omega
 have e9:(x.op==9)=true:=by simp;omega
 have nV:(x.op==97)=false:=by simp;omega
 obtain⟨Gx,Gy⟩:=ho
 have kw:=RW.new w x 108 a m a.lt hp ds
 have hh:h<w.heap.size:=a.x.l
 clear je a m
 go_enter Try.func112,Try.ntmps112
 go_upto_region 1 with fail
 generalize w.alloc (.cells #[.int .i64 x.op, .int .i64 x.d, .int .i64 x.a, .int .i64 x.b, .int .i64 x.c, .int .i64 x.n, .int .u32 x.k, .int .u32 x.x] 108)=WA at kw⊢
 have x0:=kw.x.c0
 have lx:=kw.x.l
 have KW:=κ kw
 clear kw
 go_upto_region 2 with fail
 clear x0 lx
 go_upto_region 35 with(go_at_call 97;(with_reducible refine(FO.out _).mono ?_);rintro e w1 ⟨rfl,rfl⟩)
 have lx:=KW.out.x.l
 have vs:=KW.out.a.v.v rn ln
 have zs:=KW.out.a.v.z rn
 have F0:=κ (Ux KW.out HA.out HN.out)
 have Fd:=κ (Ux KW.out.drew HA.out HN.out)
 go_region_held3 (fun W=>W.cell? ⟨w.heap.size,2,none⟩=some (.int .i64 (ra:Int))∧W.cell? ⟨w.heap.size,5,none⟩=some (.int .i64 (rn:Int))∧W.cell? ⟨h,20,none⟩=some (.slice (some ⟨B.s,0,none⟩) 2048 2048)) (with_reducible (first | apply F0.out | apply Fd.out | apply F2.out | apply F4.out))
  ((go_at_call 110;(with_reducible refine(GA.out _ KW.out.drew.a).mono ?_);rintro e w2 ⟨rfl,a2,u2⟩;have lU:=κ (KW.out.drew.lF a2 u2);have F2:=κ (Ux lU.out HA.out HN.out);have vs:=lU.out.a.v.v rn ln;have zs:=lU.out.a.v.z rn;have F4:=κ (Ux (lU.out.go (lU.out.a.OQ rn va) ((ah.refl (B.has h) w2).setCell (q:=⟨B.s,rn,none⟩) (.inl (.inr (.inr (.inr (.inl rfl))))) (.int .u32 va))) HA.out HN.out);clear a2 u2))
 have KW:=κ (lU.out.go (lU.out.a.OQ rn va) ((ah.refl (B.has h) w2).setCell (q:=⟨B.s,rn,none⟩) (.inl (.inr (.inr (.inr (.inl rfl))))) (.int .u32 va)))
 clear lx vs zs F0 Fd F2 F4 lU
 generalize w2.setCell ⟨B.s,rn,none⟩ (.int .u32 va)=w5 at KW⊢
 have ql:w5.cell? ⟨h,21,none⟩=some (.slice (some ⟨B.l,0,none⟩) 2048 2048):=KW.out.a.x.q3
 have x5:=KW.out.x.c5
 rw [HN.out] at x5
 have lx:=KW.out.x.l
 have lh:=KW.out.a.x.l
 have vl:=KW.out.a.d.v rn ln
 have zl:=KW.out.a.d.z rn
 go_upto_region 36 with fail
 go_region
 have a9:=KW.out.a.Uu rn true
 have u9:=(ah.refl (B.has h) w5).setCell (q:=⟨B.l,rn,none⟩) (.inl (.inr (.inr (.inr (.inr rfl))))) (.bool true)
 have a9:RR h K sr B (w5.setCell ⟨B.l,rn,none⟩ (.bool true)):=by
  rw [←HR.out,←HE.out.1,←HE.out.2];exact a9
 have YX:=κ (KW.out.go a9 u9)
 go_end0
 exact⟨rfl,YX.out.drew.a,YX.out.drew.m,YX.out.drew.u⟩
theorem OY (x:Cd) (rd:Nat) (w:World) (a:RR h K s B w) (m:RM P M w) (hp:∀i,P.has i→i<w.heap.size) (ds:∀i,P.has i→¬B.has h i) (ho:97≤x.op∧x.op<98) (hd:x.d=rd) (ld:rd<16) (hc:∀j,0≤s.c j∧s.c j<4294967296):
  Calls Try.prog 112 #[.pointer (some ⟨h,0,none⟩), .agg #[.int .i64 x.op, .int .i64 x.d, .int .i64 x.a, .int .i64 x.b, .int .i64 x.c, .int .i64 x.n, .int .u32 x.k, .int .u32 x.x]] w fun e w'=>e= .returned (.tuple #[])∧RR h K (s.sets rd (fl (s.c 8) (s.c 9) (s.c 10) (s.c 11))) B w'∧RM P M w'∧ah (fun i=>B.has h i∨P.has i) w w':=by
 have FC:=fun w=>Ir.wz (s.c 0) (s.c 1) (s.c 2) (s.c 3) (s.c 4) (s.c 5) (s.c 6) (s.c 7) (s.c 8) (s.c 9) (s.c 10) (s.c 11) 0 w (hc 8).1 (hc 8).2 (hc 9).1 (hc 9).2 (hc 10).1 (hc 10).2 (hc 11).1 (hc 11).2
 have SE:Hid (∀z,∀w,RR h K s B w→Calls Try.prog 164 #[.pointer (some ⟨h,0,none⟩), .int .i64 rd, .int .u32 z] w fun e w'=>e= .returned (.tuple #[])∧RR h K (s.sets rd z) B w'∧ah (B.has h) w w'):=fun z w a=>gV rd z w a ld
 obtain⟨z,hz⟩:∃z,fl (s.c 8) (s.c 9) (s.c 10) (s.c 11)=z:=⟨_,rfl⟩
 rw [hz] at FC⊢
 have FC:=κ FC
 obtain⟨s2,wH⟩:∃s2,s.sets rd z=s2:=⟨_,rfl⟩
 have SE:Hid (∀w,RR h K s B w→Calls Try.prog 164 #[.pointer (some ⟨h,0,none⟩), .int .i64 rd, .int .u32 z] w fun e w'=>e= .returned (.tuple #[])∧RR h K s2 B w'∧ah (B.has h) w w'):=by rw [←wH];exact SE.out z
 rw [wH]
 have zD:=κ (show s2.c=s.c from by rw [←wH];rfl)
 have hu:=Try.underlying37
 have fz:∀w,(Instr.field 72 (.agg #[.int .u32 (s.c 0), .int .u32 (s.c 1), .int .u32 (s.c 2), .int .u32 (s.c 3), .int .u32 (s.c 4), .int .u32 (s.c 5), .int .u32 (s.c 6), .int .u32 (s.c 7), .int .u32 0, .int .u32 z]) 2).run Try.prog w= .ok (.int .u32 z) w:=fun w=>by kernel_rfl
 have hi:(Try.prog.info? 37).map (·.size)=some ([.int .u32 (s.c 0), .int .u32 (s.c 1), .int .u32 (s.c 2), .int .u32 (s.c 3), .int .u32 (s.c 4), .int .u32 (s.c 5), .int .u32 (s.c 6), .int .u32 (s.c 7), .int .u32 (s.c 8), .int .u32 (s.c 9), .int .u32 (s.c 10), .int .u32 (s.c 11)]:List Value).length:=by kernel_rfl
 have HD:=κ hd
 clear hz hd hc wH
 have je:aF x.op=5:=by(have h0:x.op=97:=by omega);rw [h0];decide
 have FO:Hid (∀w,Calls Try.prog 97 #[.int .i64 x.op] w fun e w'=>e= .returned (.tuple #[.string {data:= #[100]}, .int .i64 0, .int .i64 1])∧w=w'):=fun w=>by
  have:=bC x.op w
  rw [je] at this
  exact this
 have e2:(x.op==2)=false:=by simp;omega
 have e3:(x.op==3)=false:=by simp;omega
 have e6:(x.op==6)=false:=by simp;omega
 have e7:(x.op==7)=false:=by simp;omega
 have e8:(x.op==8)=false:=by simp;omega
 have e9:(x.op==9)=false:=by simp;omega
 have nV:(x.op==97)=true:=by simp;omega
 obtain⟨Gx,Gy⟩:=ho
 have kw:=RW.new w x 108 a m a.lt hp ds
 have hh:h<w.heap.size:=a.x.l
 clear je a m
 go_enter Try.func112,Try.ntmps112
 go_upto_region 1 with fail
 generalize w.alloc (.cells #[.int .i64 x.op, .int .i64 x.d, .int .i64 x.a, .int .i64 x.b, .int .i64 x.c, .int .i64 x.n, .int .u32 x.k, .int .u32 x.x] 108)=WA at kw⊢
 have x0:=kw.x.c0
 have lx:=kw.x.l
 have KW:=κ kw
 clear kw
 go_upto_region 2 with fail
 clear x0 lx
 go_upto_region 38 with(go_at_call 97;(with_reducible refine(FO.out _).mono ?_);rintro e w1 ⟨rfl,rfl⟩)
 have lx:=KW.out.x.l
 have F0:=κ (k97 KW.out HD.out)
 have Fd:=κ (k97 KW.out.drew HD.out)
 go_region_held3 (fun W=>W.cell? ⟨w.heap.size,1,none⟩=some (.int .i64 (rd:Int))∧W.rangeAt h 2 [.int .u32 (s.c 0), .int .u32 (s.c 1), .int .u32 (s.c 2), .int .u32 (s.c 3), .int .u32 (s.c 4), .int .u32 (s.c 5), .int .u32 (s.c 6), .int .u32 (s.c 7), .int .u32 (s.c 8), .int .u32 (s.c 9), .int .u32 (s.c 10), .int .u32 (s.c 11)]) (with_reducible (first | apply F0.out | apply Fd.out | apply F2.out | apply F3.out))
  ((first | (go_at_call 164;(with_reducible refine(SE.out _ lU.out.a).mono ?_);rintro e w3 ⟨rfl,a3,u3⟩;have iL:=κ (lU.out.go a3 u3);have F3:=k97 iL.out HD.out;rw [zD.out] at F3;have F3:=κ F3;clear a3 u3) | (go_at_call 43;(with_reducible refine(FC.out _).mono ?_);rintro e w2 ⟨rfl,b2⟩;have lU:=κ (KW.out.drew.quiet (ah.aG (S:=fun _=>False) b2));have F2:=κ (k97 lU.out HD.out);clear b2)))
 go_end0
 exact⟨rfl,iL.out.a,iL.out.m,iL.out.u⟩
theorem Ji (x:Cd) (ra rb rc rd:Nat) (w:World) (a:RR h K s B w) (m:RM P M w) (hp:∀i,P.has i→i<w.heap.size) (ds:∀i,P.has i→¬B.has h i) (ho:5≤x.op∧x.op<6) (ha:x.a=ra) (hb:x.b=rb) (hc:x.c=rc) (hd:x.d=rd) (la:ra<16) (lb:rb<16) (lc:rc<16) (ld:rd<16) (hr:Jg s):
  Calls Try.prog 112 #[.pointer (some ⟨h,0,none⟩), .agg #[.int .i64 x.op, .int .i64 x.d, .int .i64 x.a, .int .i64 x.b, .int .i64 x.c, .int .i64 x.n, .int .u32 x.k, .int .u32 x.x]] w fun e w'=>e= .returned (.tuple #[])∧RR h K ((((s.aA ra).aA rb).aA rc).sets rd (fD 6 0 0 (s.reg ra) (s.reg rb) (s.reg rc))) B w'∧RM P M w'∧ah (fun i=>B.has h i∨P.has i) w w':=by
 have GA:Hid (∀w,RR h K s B w→Calls Try.prog 110 #[.pointer (some ⟨h,0,none⟩), .int .i64 ra] w fun e w'=>e= .returned (.int .u32 (s.reg ra))∧RR h K (s.aA ra) B w'∧ah (fun i=>i=h) w w'):=fun w a=>bJ ra w a la
 have GB:Hid (∀w,RR h K (s.aA ra) B w→Calls Try.prog 110 #[.pointer (some ⟨h,0,none⟩), .int .i64 rb] w fun e w'=>e= .returned (.int .u32 (s.reg rb))∧RR h K ((s.aA ra).aA rb) B w'∧ah (fun i=>i=h) w w'):=fun w a=>bJ rb w a lb
 have GC:Hid (∀w,RR h K ((s.aA ra).aA rb) B w→Calls Try.prog 110 #[.pointer (some ⟨h,0,none⟩), .int .i64 rc] w fun e w'=>e= .returned (.int .u32 (s.reg rc))∧RR h K (((s.aA ra).aA rb).aA rc) B w'∧ah (fun i=>i=h) w w'):=fun w a=>bJ rc w a lc
 have VA:=fun w=>jY 6 0 0 0 0 0 0 (s.reg ra) (s.reg rb) (s.reg rc) w (by decide) (by decide) (hr ra).1 (hr ra).2 (hr rb).1 (hr rb).2 (hr rc).1 (hr rc).2 (.inr (.inr (.inr (.inl rfl))))
 have SE:Hid (∀z,∀w,RR h K (((s.aA ra).aA rb).aA rc) B w→Calls Try.prog 164 #[.pointer (some ⟨h,0,none⟩), .int .i64 rd, .int .u32 z] w fun e w'=>e= .returned (.tuple #[])∧RR h K ((((s.aA ra).aA rb).aA rc).sets rd z) B w'∧ah (B.has h) w w'):=fun z w a=>gV rd z w a ld
 generalize(((s.aA ra).aA rb).aA rc)=s3 at GC SE⊢
 generalize((s.aA ra).aA rb)=s2 at GB GC
 generalize(s.aA ra)=s1 at GA GB
 generalize(fD 6 0 0 (s.reg ra) (s.reg rb) (s.reg rc))=z at VA⊢
 generalize s.reg ra=va at GA VA
 generalize s.reg rb=vb at GB VA
 generalize s.reg rc=vc at GC VA
 have SE:=κ (SE.out z)
 generalize s3.sets rd z=s4 at SE⊢
 have VA:=κ VA
 have HA:=κ ha
 have HB:=κ hb
 have HC:=κ hc
 have HD:=κ hd
 clear ha hb hc hd hr
 have je:aF x.op=3:=by(have h0:x.op=5:=by omega);rw [h0];decide
 have FO:Hid (∀w,Calls Try.prog 97 #[.int .i64 x.op] w fun e w'=>e= .returned (.tuple #[.string {data:= #[100,97,98,99]}, .int .i64 0, .int .i64 1])∧w=w'):=fun w=>by
  have:=bC x.op w
  rw [je] at this
  exact this
 have e2:(x.op==2)=false:=by simp;omega
 have e3:(x.op==3)=false:=by simp;omega
 have e6:(x.op==6)=false:=by simp;omega
 have e7:(x.op==7)=false:=by simp;omega
 have e8:(x.op==8)=false:=by simp;omega
 have e9:(x.op==9)=false:=by simp;omega
 have nV:(x.op==97)=false:=by simp;omega
 have P6:decide (16≤x.op)=false:=by simp;omega
 have r32:decide (32≤x.op)=false:=by simp;omega
 have r48:decide (48≤x.op)=false:=by simp;omega
 have r64:decide (64≤x.op)=false:=by simp;omega
 obtain⟨Gx,Gy⟩:=ho
 have kw:=RW.new w x 108 a m a.lt hp ds
 have hh:h<w.heap.size:=a.x.l
 clear je a m
 go_enter Try.func112,Try.ntmps112
 go_upto_region 1 with fail
 generalize w.alloc (.cells #[.int .i64 x.op, .int .i64 x.d, .int .i64 x.a, .int .i64 x.b, .int .i64 x.c, .int .i64 x.n, .int .u32 x.k, .int .u32 x.x] 108)=WA at kw⊢
 have x0:=kw.x.c0
 have lx:=kw.x.l
 have KW:=κ kw
 clear kw
 go_upto_region 2 with fail
 clear x0 lx
 go_upto_region 3 with(go_at_call 97;(with_reducible refine(FO.out _).mono ?_);rintro e w1 ⟨rfl,rfl⟩)
 have xa:=KW.out.x.c2
 rw [HA.out] at xa
 have lx:=KW.out.x.l
 go_upto_region 6 with(go_at_call 110;(with_reducible refine(GA.out _ KW.out.a).mono ?_);rintro e w2 ⟨rfl,a2,u2⟩;have KW:=κ (KW.out.lF a2 u2);clear a2 u2)
 clear xa lx
 go_upto_region 7 with(go_at_call 98;(with_reducible refine(nX _ _).mono ?_);rintro e w1 ⟨rfl,rfl⟩)
 have xa:=KW.out.x.c3
 rw [HB.out] at xa
 have lx:=KW.out.x.l
 go_upto_region 8 with(go_at_call 110;(with_reducible refine(GB.out _ KW.out.a).mono ?_);rintro e w3 ⟨rfl,a2,u2⟩;have KW:=κ (KW.out.lF a2 u2);clear a2 u2)
 clear xa lx
 go_upto_region 9 with(go_at_call 98;(with_reducible refine(nX _ _).mono ?_);rintro e w1 ⟨rfl,rfl⟩)
 have xa:=KW.out.x.c4
 rw [HC.out] at xa
 have lx:=KW.out.x.l
 go_upto_region 10 with(go_at_call 110;(with_reducible refine(GC.out _ KW.out.a).mono ?_);rintro e w4 ⟨rfl,a2,u2⟩;have KW:=κ (KW.out.lF a2 u2);clear a2 u2)
 clear xa lx
 have UG:w.heap.size<w4.heap.size:=KW.out.x.l
 go_upto_region 11 with fail
 have oo:=XO.new w4 6 0 0 0 0 0 0 31
 have kw:=KW.out.al (.cells #[.int .i64 6, .int .i64 0, .int .i64 0, .int .i64 0, .int .i64 0, .int .u32 0, .int .i64 0] 31)
 generalize w4.alloc (.cells #[.int .i64 6, .int .i64 0, .int .i64 0, .int .i64 0, .int .i64 0, .int .u32 0, .int .i64 0] 31)=w5 at oo kw⊢
 generalize JK:w4.heap.size=go at oo UG⊢
 clear JK
 have KW:=κ kw
 have OO:=κ oo
 clear kw oo
 go_upto_region 19 with fail
 generalize hw6:w5=w6 at KW OO⊢
 have lx:=KW.out.x.l
 have F0:=κ (yj KW.out OO.out HD.out)
 have Fd:=κ (yj KW.out.drew OO.out.drew HD.out)
 go_region_held3 (fun W=>W.cell? ⟨w.heap.size,1,none⟩=some (.int .i64 (rd:Int))∧W.cell? ⟨go,0,none⟩=some (.int .i64 6)∧W.cell? ⟨go,1,none⟩=some (.int .i64 0)∧W.cell? ⟨go,2,none⟩=some (.int .i64 0)∧W.cell? ⟨go,3,none⟩=some (.int .i64 0)∧W.cell? ⟨go,4,none⟩=some (.int .i64 0)∧W.cell? ⟨go,5,none⟩=some (.int .u32 0)∧W.cell? ⟨go,6,none⟩=some (.int .i64 0)) (with_reducible (first | apply F0.out | apply Fd.out | apply F2.out | apply F3.out))
  ((first | (go_at_call 164;(with_reducible refine(SE.out _ lU.out.a).mono ?_);rintro e w8 ⟨rfl,a8,u8⟩;have iL:=κ (lU.out.go a8 u8);have O3:=κ (O2.out.upto u8 (fun e=>by have:=lU.out.hb _ e;omega));have F3:=κ (yj iL.out O3.out HD.out);clear a8 u8) | (go_at_call 64;(with_reducible refine(VA.out _).mono ?_);rintro e w7 ⟨rfl,b7⟩;have ub:=ah.aG (S:=fun _=>False) b7;have lU:=κ (KW.out.drew.quiet ub);have O2:=κ (OO.out.drew.upto ub id);have F2:=κ (yj lU.out O2.out HD.out);clear b7 ub)))
 go_end0
 exact⟨rfl,iL.out.a,iL.out.m,iL.out.u⟩
theorem Jj (x:Cd) (ra rb rc rd:Nat) (w:World) (a:RR h K s B w) (m:RM P M w) (hp:∀i,P.has i→i<w.heap.size) (ds:∀i,P.has i→¬B.has h i) (ho:16≤x.op∧x.op<32) (ha:x.a=ra) (hb:x.b=rb) (hc:x.c=rc) (hd:x.d=rd) (la:ra<16) (lb:rb<16) (lc:rc<16) (ld:rd<16) (hr:Jg s):
  Calls Try.prog 112 #[.pointer (some ⟨h,0,none⟩), .agg #[.int .i64 x.op, .int .i64 x.d, .int .i64 x.a, .int .i64 x.b, .int .i64 x.c, .int .i64 x.n, .int .u32 x.k, .int .u32 x.x]] w fun e w'=>e= .returned (.tuple #[])∧RR h K (((s.aA ra).aA rb).sets rd (fD 4 (x.op-16) 0 (s.reg ra) (s.reg rb) 0)) B w'∧RM P M w'∧ah (fun i=>B.has h i∨P.has i) w w':=by
 have GA:Hid (∀w,RR h K s B w→Calls Try.prog 110 #[.pointer (some ⟨h,0,none⟩), .int .i64 ra] w fun e w'=>e= .returned (.int .u32 (s.reg ra))∧RR h K (s.aA ra) B w'∧ah (fun i=>i=h) w w'):=fun w a=>bJ ra w a la
 have GB:Hid (∀w,RR h K (s.aA ra) B w→Calls Try.prog 110 #[.pointer (some ⟨h,0,none⟩), .int .i64 rb] w fun e w'=>e= .returned (.int .u32 (s.reg rb))∧RR h K ((s.aA ra).aA rb) B w'∧ah (fun i=>i=h) w w'):=fun w a=>bJ rb w a lb
 have VA:=fun w=>jY 4 (x.op-16) 0 0 0 0 0 (s.reg ra) (s.reg rb) 0 w (by decide) (by decide) (hr ra).1 (hr ra).2 (hr rb).1 (hr rb).2 (by decide) (by decide) (.inr (.inl ⟨rfl,by omega,by omega⟩))
 have SE:Hid (∀z,∀w,RR h K ((s.aA ra).aA rb) B w→Calls Try.prog 164 #[.pointer (some ⟨h,0,none⟩), .int .i64 rd, .int .u32 z] w fun e w'=>e= .returned (.tuple #[])∧RR h K (((s.aA ra).aA rb).sets rd z) B w'∧ah (B.has h) w w'):=fun z w a=>gV rd z w a ld
 generalize((s.aA ra).aA rb)=s3 at GB SE⊢
 generalize(s.aA ra)=s1 at GA GB
 generalize(fD 4 (x.op-16) 0 (s.reg ra) (s.reg rb) 0)=z at VA⊢
 have ew:IntKind.i64.wrap (x.op-16)=x.op-16:=IntWalk.i64_in _ (by omega)
 generalize s.reg ra=va at GA VA
 generalize s.reg rb=vb at GB VA
 have SE:=κ (SE.out z)
 generalize s3.sets rd z=s4 at SE⊢
 have VA:=κ VA
 have HA:=κ ha
 have HB:=κ hb
 have HC:=κ hc
 have HD:=κ hd
 clear ha hb hc hd hr
 have je:aF x.op=1:=by unfold aF;rw [if_pos ⟨by omega,by omega⟩]
 have FO:Hid (∀w,Calls Try.prog 97 #[.int .i64 x.op] w fun e w'=>e= .returned (.tuple #[.string {data:= #[100,97,98]}, .int .i64 0, .int .i64 1])∧w=w'):=fun w=>by
  have:=bC x.op w
  rw [je] at this
  exact this
 have e2:(x.op==2)=false:=by simp;omega
 have e3:(x.op==3)=false:=by simp;omega
 have e6:(x.op==6)=false:=by simp;omega
 have e7:(x.op==7)=false:=by simp;omega
 have e8:(x.op==8)=false:=by simp;omega
 have e9:(x.op==9)=false:=by simp;omega
 have nV:(x.op==97)=false:=by simp;omega
 have P6:decide (16≤x.op)=true:=by simp;omega
 have r32:decide (32≤x.op)=false:=by simp;omega
 have r48:decide (48≤x.op)=false:=by simp;omega
 have r64:decide (64≤x.op)=false:=by simp;omega
 obtain⟨Gx,Gy⟩:=ho
 have kw:=RW.new w x 108 a m a.lt hp ds
 have hh:h<w.heap.size:=a.x.l
 clear je a m
 go_enter Try.func112,Try.ntmps112
 go_upto_region 1 with fail
 generalize w.alloc (.cells #[.int .i64 x.op, .int .i64 x.d, .int .i64 x.a, .int .i64 x.b, .int .i64 x.c, .int .i64 x.n, .int .u32 x.k, .int .u32 x.x] 108)=WA at kw⊢
 have x0:=kw.x.c0
 have lx:=kw.x.l
 have KW:=κ kw
 clear kw
 go_upto_region 2 with fail
 clear x0 lx
 go_upto_region 3 with(go_at_call 97;(with_reducible refine(FO.out _).mono ?_);rintro e w1 ⟨rfl,rfl⟩)
 have xa:=KW.out.x.c2
 rw [HA.out] at xa
 have lx:=KW.out.x.l
 go_upto_region 6 with(go_at_call 110;(with_reducible refine(GA.out _ KW.out.a).mono ?_);rintro e w2 ⟨rfl,a2,u2⟩;have KW:=κ (KW.out.lF a2 u2);clear a2 u2)
 clear xa lx
 go_upto_region 7 with(go_at_call 98;(with_reducible refine(yJ _ _).mono ?_);rintro e w1 ⟨rfl,rfl⟩)
 have xa:=KW.out.x.c3
 rw [HB.out] at xa
 have lx:=KW.out.x.l
 go_upto_region 8 with(go_at_call 110;(with_reducible refine(GB.out _ KW.out.a).mono ?_);rintro e w3 ⟨rfl,a2,u2⟩;have KW:=κ (KW.out.lF a2 u2);clear a2 u2)
 clear xa lx
 go_upto_region 10 with(go_at_call 98;(with_reducible refine(yJ _ _).mono ?_);rintro e w1 ⟨rfl,rfl⟩)
 have UG:w.heap.size<w3.heap.size:=KW.out.x.l
 go_upto_region 11 with fail
 have oo:=XO.new w3 6 0 0 0 0 0 0 31
 have kw:=KW.out.al (.cells #[.int .i64 6, .int .i64 0, .int .i64 0, .int .i64 0, .int .i64 0, .int .u32 0, .int .i64 0] 31)
 generalize w3.alloc (.cells #[.int .i64 6, .int .i64 0, .int .i64 0, .int .i64 0, .int .i64 0, .int .u32 0, .int .i64 0] 31)=w5 at oo kw⊢
 generalize JK:w3.heap.size=go at oo UG⊢
 clear JK
 have KW:=κ kw
 have OO:=κ oo
 clear kw oo
 obtain⟨o0,o1,o2,o3,o4,o5,o6⟩:=OO.out.all
 have zo:=OO.out.z
 have lo:=OO.out.l
 go_upto_region 19 with fail
 have vs:=uV (S:=fun i=>i=go) (h:=go) (ah.refl _ w5) (.inl rfl) 4 (x.op-16) 0 0 0 0 0
 have oo:=OO.out.put 4 (x.op-16) 0 0 0 0 0
 have kw:=KW.out.mv (vs.mono fun i _ e=>by show w.heap.size<i;omega)
 clear vs o0 o1 o2 o3 o4 o5 o6 zo lo
 generalize(((((((w5.setCell ⟨go,0,none⟩ (.int .i64 4)).setCell ⟨go,1,none⟩ (.int .i64 (x.op-16))).setCell ⟨go,2,none⟩ (.int .i64 0)).setCell ⟨go,3,none⟩ (.int .i64 0)).setCell ⟨go,4,none⟩ (.int .i64 0)).setCell ⟨go,5,none⟩ (.int .u32 0)).setCell ⟨go,6,none⟩ (.int .i64 0))=w6 at oo kw⊢
 have KW:=κ kw
 have OO:=κ oo
 clear kw oo
 have lx:=KW.out.x.l
 have F0:=κ (yj KW.out OO.out HD.out)
 have Fd:=κ (yj KW.out.drew OO.out.drew HD.out)
 go_region_held3 (fun W=>W.cell? ⟨w.heap.size,1,none⟩=some (.int .i64 (rd:Int))∧W.cell? ⟨go,0,none⟩=some (.int .i64 4)∧W.cell? ⟨go,1,none⟩=some (.int .i64 (x.op-16))∧W.cell? ⟨go,2,none⟩=some (.int .i64 0)∧W.cell? ⟨go,3,none⟩=some (.int .i64 0)∧W.cell? ⟨go,4,none⟩=some (.int .i64 0)∧W.cell? ⟨go,5,none⟩=some (.int .u32 0)∧W.cell? ⟨go,6,none⟩=some (.int .i64 0)) (with_reducible (first | apply F0.out | apply Fd.out | apply F2.out | apply F3.out))
  ((first | (go_at_call 164;(with_reducible refine(SE.out _ lU.out.a).mono ?_);rintro e w8 ⟨rfl,a8,u8⟩;have iL:=κ (lU.out.go a8 u8);have O3:=κ (O2.out.upto u8 (fun e=>by have:=lU.out.hb _ e;omega));have F3:=κ (yj iL.out O3.out HD.out);clear a8 u8) | (go_at_call 64;(with_reducible refine(VA.out _).mono ?_);rintro e w7 ⟨rfl,b7⟩;have ub:=ah.aG (S:=fun _=>False) b7;have lU:=κ (KW.out.drew.quiet ub);have O2:=κ (OO.out.drew.upto ub id);have F2:=κ (yj lU.out O2.out HD.out);clear b7 ub)))
 go_end0
 exact⟨rfl,iL.out.a,iL.out.m,iL.out.u⟩
theorem OZ (x:Cd) (ra rb rc rd:Nat) (w:World) (a:RR h K s B w) (m:RM P M w) (hp:∀i,P.has i→i<w.heap.size) (ds:∀i,P.has i→¬B.has h i) (ho:32≤x.op∧x.op<39) (ha:x.a=ra) (hb:x.b=rb) (hc:x.c=rc) (hd:x.d=rd) (la:ra<16) (lb:rb<16) (lc:rc<16) (ld:rd<16) (hr:Jg s):
  Calls Try.prog 112 #[.pointer (some ⟨h,0,none⟩), .agg #[.int .i64 x.op, .int .i64 x.d, .int .i64 x.a, .int .i64 x.b, .int .i64 x.c, .int .i64 x.n, .int .u32 x.k, .int .u32 x.x]] w fun e w'=>e= .returned (.tuple #[])∧RR h K ((s.aA ra).sets rd (fD 5 (x.op-32) 0 (s.reg ra) 0 0)) B w'∧RM P M w'∧ah (fun i=>B.has h i∨P.has i) w w':=by
 have GA:Hid (∀w,RR h K s B w→Calls Try.prog 110 #[.pointer (some ⟨h,0,none⟩), .int .i64 ra] w fun e w'=>e= .returned (.int .u32 (s.reg ra))∧RR h K (s.aA ra) B w'∧ah (fun i=>i=h) w w'):=fun w a=>bJ ra w a la
 have VA:=fun w=>jY 5 (x.op-32) 0 0 0 0 0 (s.reg ra) 0 0 w (by decide) (by decide) (hr ra).1 (hr ra).2 (by decide) (by decide) (by decide) (by decide) (.inr (.inr (.inl ⟨rfl,by omega,by omega⟩)))
 have SE:Hid (∀z,∀w,RR h K (s.aA ra) B w→Calls Try.prog 164 #[.pointer (some ⟨h,0,none⟩), .int .i64 rd, .int .u32 z] w fun e w'=>e= .returned (.tuple #[])∧RR h K ((s.aA ra).sets rd z) B w'∧ah (B.has h) w w'):=fun z w a=>gV rd z w a ld
 generalize(s.aA ra)=s3 at GA SE⊢
 generalize(fD 5 (x.op-32) 0 (s.reg ra) 0 0)=z at VA⊢
 have ew:IntKind.i64.wrap (x.op-32)=x.op-32:=IntWalk.i64_in _ (by omega)
 generalize s.reg ra=va at GA VA
 have SE:=κ (SE.out z)
 generalize s3.sets rd z=s4 at SE⊢
 have VA:=κ VA
 have HA:=κ ha
 have HB:=κ hb
 have HC:=κ hc
 have HD:=κ hd
 clear ha hb hc hd hr
 have je:aF x.op=2:=by unfold aF;rw [if_neg (by omega)];rw [if_pos (by omega)]
 have FO:Hid (∀w,Calls Try.prog 97 #[.int .i64 x.op] w fun e w'=>e= .returned (.tuple #[.string {data:= #[100,97]}, .int .i64 0, .int .i64 1])∧w=w'):=fun w=>by
  have:=bC x.op w
  rw [je] at this
  exact this
 have e2:(x.op==2)=false:=by simp;omega
 have e3:(x.op==3)=false:=by simp;omega
 have e6:(x.op==6)=false:=by simp;omega
 have e7:(x.op==7)=false:=by simp;omega
 have e8:(x.op==8)=false:=by simp;omega
 have e9:(x.op==9)=false:=by simp;omega
 have nV:(x.op==97)=false:=by simp;omega
 have P6:decide (16≤x.op)=true:=by simp;omega
 have r32:decide (32≤x.op)=true:=by simp;omega
 have r48:decide (48≤x.op)=false:=by simp;omega
 have r64:decide (64≤x.op)=false:=by simp;omega
 obtain⟨Gx,Gy⟩:=ho
 have kw:=RW.new w x 108 a m a.lt hp ds
 have hh:h<w.heap.size:=a.x.l
 clear je a m
 go_enter Try.func112,Try.ntmps112
 go_upto_region 1 with fail
 generalize w.alloc (.cells #[.int .i64 x.op, .int .i64 x.d, .int .i64 x.a, .int .i64 x.b, .int .i64 x.c, .int .i64 x.n, .int .u32 x.k, .int .u32 x.x] 108)=WA at kw⊢
 have x0:=kw.x.c0
 have lx:=kw.x.l
 have KW:=κ kw
 clear kw
 go_upto_region 2 with fail
 clear x0 lx
 go_upto_region 3 with(go_at_call 97;(with_reducible refine(FO.out _).mono ?_);rintro e w1 ⟨rfl,rfl⟩)
 have xa:=KW.out.x.c2
 rw [HA.out] at xa
 have lx:=KW.out.x.l
 go_upto_region 6 with(go_at_call 110;(with_reducible refine(GA.out _ KW.out.a).mono ?_);rintro e w2 ⟨rfl,a2,u2⟩;have KW:=κ (KW.out.lF a2 u2);clear a2 u2)
 clear xa lx
 go_upto_region 8 with(go_at_call 98;(with_reducible refine(vO _ _).mono ?_);rintro e w1 ⟨rfl,rfl⟩)
 go_upto_region 10 with(go_at_call 98;(with_reducible refine(vO _ _).mono ?_);rintro e w1 ⟨rfl,rfl⟩)
 have UG:w.heap.size<w2.heap.size:=KW.out.x.l
 go_upto_region 11 with fail
 have oo:=XO.new w2 6 0 0 0 0 0 0 31
 have kw:=KW.out.al (.cells #[.int .i64 6, .int .i64 0, .int .i64 0, .int .i64 0, .int .i64 0, .int .u32 0, .int .i64 0] 31)
 generalize w2.alloc (.cells #[.int .i64 6, .int .i64 0, .int .i64 0, .int .i64 0, .int .i64 0, .int .u32 0, .int .i64 0] 31)=w5 at oo kw⊢
 generalize JK:w2.heap.size=go at oo UG⊢
 clear JK
 have KW:=κ kw
 have OO:=κ oo
 clear kw oo
 obtain⟨o0,o1,o2,o3,o4,o5,o6⟩:=OO.out.all
 have zo:=OO.out.z
 have lo:=OO.out.l
 go_upto_region 19 with fail
 have vs:=uV (S:=fun i=>i=go) (h:=go) (ah.refl _ w5) (.inl rfl) 5 (x.op-32) 0 0 0 0 0
 have oo:=OO.out.put 5 (x.op-32) 0 0 0 0 0
 have kw:=KW.out.mv (vs.mono fun i _ e=>by show w.heap.size<i;omega)
 clear vs o0 o1 o2 o3 o4 o5 o6 zo lo
 generalize(((((((w5.setCell ⟨go,0,none⟩ (.int .i64 5)).setCell ⟨go,1,none⟩ (.int .i64 (x.op-32))).setCell ⟨go,2,none⟩ (.int .i64 0)).setCell ⟨go,3,none⟩ (.int .i64 0)).setCell ⟨go,4,none⟩ (.int .i64 0)).setCell ⟨go,5,none⟩ (.int .u32 0)).setCell ⟨go,6,none⟩ (.int .i64 0))=w6 at oo kw⊢
 have KW:=κ kw
 have OO:=κ oo
 clear kw oo
 have lx:=KW.out.x.l
 have F0:=κ (yj KW.out OO.out HD.out)
 have Fd:=κ (yj KW.out.drew OO.out.drew HD.out)
 go_region_held3 (fun W=>W.cell? ⟨w.heap.size,1,none⟩=some (.int .i64 (rd:Int))∧W.cell? ⟨go,0,none⟩=some (.int .i64 5)∧W.cell? ⟨go,1,none⟩=some (.int .i64 (x.op-32))∧W.cell? ⟨go,2,none⟩=some (.int .i64 0)∧W.cell? ⟨go,3,none⟩=some (.int .i64 0)∧W.cell? ⟨go,4,none⟩=some (.int .i64 0)∧W.cell? ⟨go,5,none⟩=some (.int .u32 0)∧W.cell? ⟨go,6,none⟩=some (.int .i64 0)) (with_reducible (first | apply F0.out | apply Fd.out | apply F2.out | apply F3.out))
  ((first | (go_at_call 164;(with_reducible refine(SE.out _ lU.out.a).mono ?_);rintro e w8 ⟨rfl,a8,u8⟩;have iL:=κ (lU.out.go a8 u8);have O3:=κ (O2.out.upto u8 (fun e=>by have:=lU.out.hb _ e;omega));have F3:=κ (yj iL.out O3.out HD.out);clear a8 u8) | (go_at_call 64;(with_reducible refine(VA.out _).mono ?_);rintro e w7 ⟨rfl,b7⟩;have ub:=ah.aG (S:=fun _=>False) b7;have lU:=κ (KW.out.drew.quiet ub);have O2:=κ (OO.out.drew.upto ub id);have F2:=κ (yj lU.out O2.out HD.out);clear b7 ub)))
 go_end0
 exact⟨rfl,iL.out.a,iL.out.m,iL.out.u⟩
theorem BN (x:Cd) (ra rb rc rd:Nat) (w:World) (a:RR h K s B w) (m:RM P M w) (hp:∀i,P.has i→i<w.heap.size) (ds:∀i,P.has i→¬B.has h i) (ho:48≤x.op∧x.op<61) (ha:x.a=ra) (hb:x.b=rb) (hc:x.c=rc) (hd:x.d=rd) (la:ra<16) (lb:rb<16) (lc:rc<16) (ld:rd<16) (hr:Jg s):
  Calls Try.prog 112 #[.pointer (some ⟨h,0,none⟩), .agg #[.int .i64 x.op, .int .i64 x.d, .int .i64 x.a, .int .i64 x.b, .int .i64 x.c, .int .i64 x.n, .int .u32 x.k, .int .u32 x.x]] w fun e w'=>e= .returned (.tuple #[])∧RR h K ((((s.aA ra).aA rb).aA rc).sets rd (fD 7 (x.op-48) 0 (s.reg ra) (s.reg rb) (s.reg rc))) B w'∧RM P M w'∧ah (fun i=>B.has h i∨P.has i) w w':=by
 have GA:Hid (∀w,RR h K s B w→Calls Try.prog 110 #[.pointer (some ⟨h,0,none⟩), .int .i64 ra] w fun e w'=>e= .returned (.int .u32 (s.reg ra))∧RR h K (s.aA ra) B w'∧ah (fun i=>i=h) w w'):=fun w a=>bJ ra w a la
 have GB:Hid (∀w,RR h K (s.aA ra) B w→Calls Try.prog 110 #[.pointer (some ⟨h,0,none⟩), .int .i64 rb] w fun e w'=>e= .returned (.int .u32 (s.reg rb))∧RR h K ((s.aA ra).aA rb) B w'∧ah (fun i=>i=h) w w'):=fun w a=>bJ rb w a lb
 have GC:Hid (∀w,RR h K ((s.aA ra).aA rb) B w→Calls Try.prog 110 #[.pointer (some ⟨h,0,none⟩), .int .i64 rc] w fun e w'=>e= .returned (.int .u32 (s.reg rc))∧RR h K (((s.aA ra).aA rb).aA rc) B w'∧ah (fun i=>i=h) w w'):=fun w a=>bJ rc w a lc
 have VA:=fun w=>jY 7 (x.op-48) 0 0 0 0 0 (s.reg ra) (s.reg rb) (s.reg rc) w (by decide) (by decide) (hr ra).1 (hr ra).2 (hr rb).1 (hr rb).2 (hr rc).1 (hr rc).2 (.inr (.inr (.inr (.inr (.inl rfl)))))
 have SE:Hid (∀z,∀w,RR h K (((s.aA ra).aA rb).aA rc) B w→Calls Try.prog 164 #[.pointer (some ⟨h,0,none⟩), .int .i64 rd, .int .u32 z] w fun e w'=>e= .returned (.tuple #[])∧RR h K ((((s.aA ra).aA rb).aA rc).sets rd z) B w'∧ah (B.has h) w w'):=fun z w a=>gV rd z w a ld
 generalize(((s.aA ra).aA rb).aA rc)=s3 at GC SE⊢
 generalize((s.aA ra).aA rb)=s2 at GB GC
 generalize(s.aA ra)=s1 at GA GB
 generalize(fD 7 (x.op-48) 0 (s.reg ra) (s.reg rb) (s.reg rc))=z at VA⊢
 have ew:IntKind.i64.wrap (x.op-48)=x.op-48:=IntWalk.i64_in _ (by omega)
 generalize s.reg ra=va at GA VA
 generalize s.reg rb=vb at GB VA
 generalize s.reg rc=vc at GC VA
 have SE:=κ (SE.out z)
 generalize s3.sets rd z=s4 at SE⊢
 have VA:=κ VA
 have HA:=κ ha
 have HB:=κ hb
 have HC:=κ hc
 have HD:=κ hd
 clear ha hb hc hd hr
 have je:aF x.op=3:=by unfold aF;rw [if_neg (by omega)];rw [if_neg (by omega)];rw [if_pos (by omega)]
 have FO:Hid (∀w,Calls Try.prog 97 #[.int .i64 x.op] w fun e w'=>e= .returned (.tuple #[.string {data:= #[100,97,98,99]}, .int .i64 0, .int .i64 1])∧w=w'):=fun w=>by
  have:=bC x.op w
  rw [je] at this
  exact this
 have e2:(x.op==2)=false:=by simp;omega
 have e3:(x.op==3)=false:=by simp;omega
 have e6:(x.op==6)=false:=by simp;omega
 have e7:(x.op==7)=false:=by simp;omega
 have e8:(x.op==8)=false:=by simp;omega
 have e9:(x.op==9)=false:=by simp;omega
 have nV:(x.op==97)=false:=by simp;omega
 have P6:decide (16≤x.op)=true:=by simp;omega
 have r32:decide (32≤x.op)=true:=by simp;omega
 have r48:decide (48≤x.op)=true:=by simp;omega
 have r64:decide (64≤x.op)=false:=by simp;omega
 obtain⟨Gx,Gy⟩:=ho
 have kw:=RW.new w x 108 a m a.lt hp ds
 have hh:h<w.heap.size:=a.x.l
 clear je a m
 go_enter Try.func112,Try.ntmps112
 go_upto_region 1 with fail
 generalize w.alloc (.cells #[.int .i64 x.op, .int .i64 x.d, .int .i64 x.a, .int .i64 x.b, .int .i64 x.c, .int .i64 x.n, .int .u32 x.k, .int .u32 x.x] 108)=WA at kw⊢
 have x0:=kw.x.c0
 have lx:=kw.x.l
 have KW:=κ kw
 clear kw
 go_upto_region 2 with fail
 clear x0 lx
 go_upto_region 3 with(go_at_call 97;(with_reducible refine(FO.out _).mono ?_);rintro e w1 ⟨rfl,rfl⟩)
 have xa:=KW.out.x.c2
 rw [HA.out] at xa
 have lx:=KW.out.x.l
 go_upto_region 6 with(go_at_call 110;(with_reducible refine(GA.out _ KW.out.a).mono ?_);rintro e w2 ⟨rfl,a2,u2⟩;have KW:=κ (KW.out.lF a2 u2);clear a2 u2)
 clear xa lx
 go_upto_region 7 with(go_at_call 98;(with_reducible refine(nX _ _).mono ?_);rintro e w1 ⟨rfl,rfl⟩)
 have xa:=KW.out.x.c3
 rw [HB.out] at xa
 have lx:=KW.out.x.l
 go_upto_region 8 with(go_at_call 110;(with_reducible refine(GB.out _ KW.out.a).mono ?_);rintro e w3 ⟨rfl,a2,u2⟩;have KW:=κ (KW.out.lF a2 u2);clear a2 u2)
 clear xa lx
 go_upto_region 9 with(go_at_call 98;(with_reducible refine(nX _ _).mono ?_);rintro e w1 ⟨rfl,rfl⟩)
 have xa:=KW.out.x.c4
 rw [HC.out] at xa
 have lx:=KW.out.x.l
 go_upto_region 10 with(go_at_call 110;(with_reducible refine(GC.out _ KW.out.a).mono ?_);rintro e w4 ⟨rfl,a2,u2⟩;have KW:=κ (KW.out.lF a2 u2);clear a2 u2)
 clear xa lx
 have UG:w.heap.size<w4.heap.size:=KW.out.x.l
 go_upto_region 11 with fail
 have oo:=XO.new w4 6 0 0 0 0 0 0 31
 have kw:=KW.out.al (.cells #[.int .i64 6, .int .i64 0, .int .i64 0, .int .i64 0, .int .i64 0, .int .u32 0, .int .i64 0] 31)
 generalize w4.alloc (.cells #[.int .i64 6, .int .i64 0, .int .i64 0, .int .i64 0, .int .i64 0, .int .u32 0, .int .i64 0] 31)=w5 at oo kw⊢
 generalize JK:w4.heap.size=go at oo UG⊢
 clear JK
 have KW:=κ kw
 have OO:=κ oo
 clear kw oo
 obtain⟨o0,o1,o2,o3,o4,o5,o6⟩:=OO.out.all
 have zo:=OO.out.z
 have lo:=OO.out.l
 go_upto_region 19 with fail
 have vs:=uV (S:=fun i=>i=go) (h:=go) (ah.refl _ w5) (.inl rfl) 7 (x.op-48) 0 0 0 0 0
 have oo:=OO.out.put 7 (x.op-48) 0 0 0 0 0
 have kw:=KW.out.mv (vs.mono fun i _ e=>by show w.heap.size<i;omega)
 clear vs o0 o1 o2 o3 o4 o5 o6 zo lo
 generalize(((((((w5.setCell ⟨go,0,none⟩ (.int .i64 7)).setCell ⟨go,1,none⟩ (.int .i64 (x.op-48))).setCell ⟨go,2,none⟩ (.int .i64 0)).setCell ⟨go,3,none⟩ (.int .i64 0)).setCell ⟨go,4,none⟩ (.int .i64 0)).setCell ⟨go,5,none⟩ (.int .u32 0)).setCell ⟨go,6,none⟩ (.int .i64 0))=w6 at oo kw⊢
 have KW:=κ kw
 have OO:=κ oo
 clear kw oo
 have lx:=KW.out.x.l
 have F0:=κ (yj KW.out OO.out HD.out)
 have Fd:=κ (yj KW.out.drew OO.out.drew HD.out)
 go_region_held3 (fun W=>W.cell? ⟨w.heap.size,1,none⟩=some (.int .i64 (rd:Int))∧W.cell? ⟨go,0,none⟩=some (.int .i64 7)∧W.cell? ⟨go,1,none⟩=some (.int .i64 (x.op-48))∧W.cell? ⟨go,2,none⟩=some (.int .i64 0)∧W.cell? ⟨go,3,none⟩=some (.int .i64 0)∧W.cell? ⟨go,4,none⟩=some (.int .i64 0)∧W.cell? ⟨go,5,none⟩=some (.int .u32 0)∧W.cell? ⟨go,6,none⟩=some (.int .i64 0)) (with_reducible (first | apply F0.out | apply Fd.out | apply F2.out | apply F3.out))
  ((first | (go_at_call 164;(with_reducible refine(SE.out _ lU.out.a).mono ?_);rintro e w8 ⟨rfl,a8,u8⟩;have iL:=κ (lU.out.go a8 u8);have O3:=κ (O2.out.upto u8 (fun e=>by have:=lU.out.hb _ e;omega));have F3:=κ (yj iL.out O3.out HD.out);clear a8 u8) | (go_at_call 64;(with_reducible refine(VA.out _).mono ?_);rintro e w7 ⟨rfl,b7⟩;have ub:=ah.aG (S:=fun _=>False) b7;have lU:=κ (KW.out.drew.quiet ub);have O2:=κ (OO.out.drew.upto ub id);have F2:=κ (yj lU.out O2.out HD.out);clear b7 ub)))
 go_end0
 exact⟨rfl,iL.out.a,iL.out.m,iL.out.u⟩
theorem EK (x:Cd) (ra rb rc rd:Nat) (w:World) (a:RR h K s B w) (m:RM P M w) (hp:∀i,P.has i→i<w.heap.size) (ds:∀i,P.has i→¬B.has h i) (ho:64≤x.op∧x.op<80) (ha:x.a=ra) (hb:x.b=rb) (hc:x.c=rc) (hd:x.d=rd) (la:ra<16) (lb:rb<16) (lc:rc<16) (ld:rd<16) (hr:Jg s):
  Calls Try.prog 112 #[.pointer (some ⟨h,0,none⟩), .agg #[.int .i64 x.op, .int .i64 x.d, .int .i64 x.a, .int .i64 x.b, .int .i64 x.c, .int .i64 x.n, .int .u32 x.k, .int .u32 x.x]] w fun e w'=>e= .returned (.tuple #[])∧RR h K ((s.aA ra).sets rd (fD 8 (x.op-64) 0 (s.reg ra) 0 0)) B w'∧RM P M w'∧ah (fun i=>B.has h i∨P.has i) w w':=by
 have GA:Hid (∀w,RR h K s B w→Calls Try.prog 110 #[.pointer (some ⟨h,0,none⟩), .int .i64 ra] w fun e w'=>e= .returned (.int .u32 (s.reg ra))∧RR h K (s.aA ra) B w'∧ah (fun i=>i=h) w w'):=fun w a=>bJ ra w a la
 have VA:=fun w=>jY 8 (x.op-64) 0 0 0 0 0 (s.reg ra) 0 0 w (by decide) (by decide) (hr ra).1 (hr ra).2 (by decide) (by decide) (by decide) (by decide) (.inr (.inr (.inr (.inr (.inr ⟨rfl,by omega,by omega⟩)))))
 have SE:Hid (∀z,∀w,RR h K (s.aA ra) B w→Calls Try.prog 164 #[.pointer (some ⟨h,0,none⟩), .int .i64 rd, .int .u32 z] w fun e w'=>e= .returned (.tuple #[])∧RR h K ((s.aA ra).sets rd z) B w'∧ah (B.has h) w w'):=fun z w a=>gV rd z w a ld
 generalize(s.aA ra)=s3 at GA SE⊢
 generalize(fD 8 (x.op-64) 0 (s.reg ra) 0 0)=z at VA⊢
 have ew:IntKind.i64.wrap (x.op-64)=x.op-64:=IntWalk.i64_in _ (by omega)
 generalize s.reg ra=va at GA VA
 have SE:=κ (SE.out z)
 generalize s3.sets rd z=s4 at SE⊢
 have VA:=κ VA
 have HA:=κ ha
 have HB:=κ hb
 have HC:=κ hc
 have HD:=κ hd
 clear ha hb hc hd hr
 have je:aF x.op=2:=by unfold aF;rw [if_neg (by omega)];rw [if_pos (by omega)]
 have FO:Hid (∀w,Calls Try.prog 97 #[.int .i64 x.op] w fun e w'=>e= .returned (.tuple #[.string {data:= #[100,97]}, .int .i64 0, .int .i64 1])∧w=w'):=fun w=>by
  have:=bC x.op w
  rw [je] at this
  exact this
 have e2:(x.op==2)=false:=by simp;omega
 have e3:(x.op==3)=false:=by simp;omega
 have e6:(x.op==6)=false:=by simp;omega
 have e7:(x.op==7)=false:=by simp;omega
 have e8:(x.op==8)=false:=by simp;omega
 have e9:(x.op==9)=false:=by simp;omega
 have nV:(x.op==97)=false:=by simp;omega
 have P6:decide (16≤x.op)=true:=by simp;omega
 have r32:decide (32≤x.op)=true:=by simp;omega
 have r48:decide (48≤x.op)=true:=by simp;omega
 have r64:decide (64≤x.op)=true:=by simp;omega
 obtain⟨Gx,Gy⟩:=ho
 have kw:=RW.new w x 108 a m a.lt hp ds
 have hh:h<w.heap.size:=a.x.l
 clear je a m
 go_enter Try.func112,Try.ntmps112
 go_upto_region 1 with fail
 generalize w.alloc (.cells #[.int .i64 x.op, .int .i64 x.d, .int .i64 x.a, .int .i64 x.b, .int .i64 x.c, .int .i64 x.n, .int .u32 x.k, .int .u32 x.x] 108)=WA at kw⊢
 have x0:=kw.x.c0
 have lx:=kw.x.l
 have KW:=κ kw
 clear kw
 go_upto_region 2 with fail
 clear x0 lx
 go_upto_region 3 with(go_at_call 97;(with_reducible refine(FO.out _).mono ?_);rintro e w1 ⟨rfl,rfl⟩)
 have xa:=KW.out.x.c2
 rw [HA.out] at xa
 have lx:=KW.out.x.l
 go_upto_region 6 with(go_at_call 110;(with_reducible refine(GA.out _ KW.out.a).mono ?_);rintro e w2 ⟨rfl,a2,u2⟩;have KW:=κ (KW.out.lF a2 u2);clear a2 u2)
 clear xa lx
 go_upto_region 8 with(go_at_call 98;(with_reducible refine(vO _ _).mono ?_);rintro e w1 ⟨rfl,rfl⟩)
 go_upto_region 10 with(go_at_call 98;(with_reducible refine(vO _ _).mono ?_);rintro e w1 ⟨rfl,rfl⟩)
 have UG:w.heap.size<w2.heap.size:=KW.out.x.l
 go_upto_region 11 with fail
 have oo:=XO.new w2 6 0 0 0 0 0 0 31
 have kw:=KW.out.al (.cells #[.int .i64 6, .int .i64 0, .int .i64 0, .int .i64 0, .int .i64 0, .int .u32 0, .int .i64 0] 31)
 generalize w2.alloc (.cells #[.int .i64 6, .int .i64 0, .int .i64 0, .int .i64 0, .int .i64 0, .int .u32 0, .int .i64 0] 31)=w5 at oo kw⊢
 generalize JK:w2.heap.size=go at oo UG⊢
 clear JK
 have KW:=κ kw
 have OO:=κ oo
 clear kw oo
 obtain⟨o0,o1,o2,o3,o4,o5,o6⟩:=OO.out.all
 have zo:=OO.out.z
 have lo:=OO.out.l
 go_upto_region 19 with fail
 have vs:=uV (S:=fun i=>i=go) (h:=go) (ah.refl _ w5) (.inl rfl) 8 (x.op-64) 0 0 0 0 0
 have oo:=OO.out.put 8 (x.op-64) 0 0 0 0 0
 have kw:=KW.out.mv (vs.mono fun i _ e=>by show w.heap.size<i;omega)
 clear vs o0 o1 o2 o3 o4 o5 o6 zo lo
 generalize(((((((w5.setCell ⟨go,0,none⟩ (.int .i64 8)).setCell ⟨go,1,none⟩ (.int .i64 (x.op-64))).setCell ⟨go,2,none⟩ (.int .i64 0)).setCell ⟨go,3,none⟩ (.int .i64 0)).setCell ⟨go,4,none⟩ (.int .i64 0)).setCell ⟨go,5,none⟩ (.int .u32 0)).setCell ⟨go,6,none⟩ (.int .i64 0))=w6 at oo kw⊢
 have KW:=κ kw
 have OO:=κ oo
 clear kw oo
 have lx:=KW.out.x.l
 have F0:=κ (yj KW.out OO.out HD.out)
 have Fd:=κ (yj KW.out.drew OO.out.drew HD.out)
 go_region_held3 (fun W=>W.cell? ⟨w.heap.size,1,none⟩=some (.int .i64 (rd:Int))∧W.cell? ⟨go,0,none⟩=some (.int .i64 8)∧W.cell? ⟨go,1,none⟩=some (.int .i64 (x.op-64))∧W.cell? ⟨go,2,none⟩=some (.int .i64 0)∧W.cell? ⟨go,3,none⟩=some (.int .i64 0)∧W.cell? ⟨go,4,none⟩=some (.int .i64 0)∧W.cell? ⟨go,5,none⟩=some (.int .u32 0)∧W.cell? ⟨go,6,none⟩=some (.int .i64 0)) (with_reducible (first | apply F0.out | apply Fd.out | apply F2.out | apply F3.out))
  ((first | (go_at_call 164;(with_reducible refine(SE.out _ lU.out.a).mono ?_);rintro e w8 ⟨rfl,a8,u8⟩;have iL:=κ (lU.out.go a8 u8);have O3:=κ (O2.out.upto u8 (fun e=>by have:=lU.out.hb _ e;omega));have F3:=κ (yj iL.out O3.out HD.out);clear a8 u8) | (go_at_call 64;(with_reducible refine(VA.out _).mono ?_);rintro e w7 ⟨rfl,b7⟩;have ub:=ah.aG (S:=fun _=>False) b7;have lU:=κ (KW.out.drew.quiet ub);have O2:=κ (OO.out.drew.upto ub id);have F2:=κ (yj lU.out O2.out HD.out);clear b7 ub)))
 go_end0
 exact⟨rfl,iL.out.a,iL.out.m,iL.out.u⟩
end Go.Proofs.Ytcjcmnnhmajocab.Hr
