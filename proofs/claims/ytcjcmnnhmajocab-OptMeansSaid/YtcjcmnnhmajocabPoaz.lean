/- ir.Check: is it a block? -/
import Derived.LoopN
import Derived.Outline
import Derived.Deep.QuietTactic
import Derived.BigQuiet
import Derived.Deep.LoopGhost
import Derived.Test.YtcjcmnnhmajocabPoar
import Derived.Test.YtcjcmnnhmajocabPoas
import Derived.Test.YtcjcmnnhmajocabPoat
import Derived.Test.YtcjcmnnhmajocabPoau
import Derived.Test.YtcjcmnnhmajocabPoav
import Derived.Test.YtcjcmnnhmajocabPoaw
import Derived.Test.YtcjcmnnhmajocabPoax
import Derived.Test.YtcjcmnnhmajocabPoay
namespace Go.Proofs.Ytcjcmnnhmajocab.Ic
open Go.RowKit
set_option linter.unusedVariables false
set_option linter.unusedSimpArgs false
def rS (k : Int) : Int := match k with
  | 1 => 0
  | 2 => 12
  | 3 => 12
  | 4 => 16
  | 5 => 7
  | 6 => 0
  | 7 => 13
  | 8 => 16
  | 9 => 5
  | 10 => 3
  | 11 => 0
  | 12 => 0
  | 13 => 8
  | 14 => 8
  | 15 => 0
  | 16 => 0
  | 17 => 0
  | _ => 0
def nF (k : Int) : Int := match k with
  | 1 => 0
  | 2 => 0
  | 3 => 0
  | 4 => 0
  | 5 => 0
  | 6 => 0
  | 7 => 0
  | 8 => 0
  | 9 => 0
  | 10 => 0
  | 11 => 0
  | 12 => 0
  | 13 => 1
  | 14 => 1
  | 15 => 0
  | 16 => 0
  | 17 => 0
  | _ => 0
def nS (k : Int) : Int := match k with
  | 1 => 1
  | 2 => 12
  | 3 => 12
  | 4 => 16
  | 5 => 7
  | 6 => 1
  | 7 => 13
  | 8 => 16
  | 9 => 5
  | 10 => 3
  | 11 => 1
  | 12 => 1
  | 13 => 7
  | 14 => 7
  | 15 => 1
  | 16 => 1
  | 17 => 1
  | _ => 0
def nT (k : Int) : ByteArray := match k with
  | 1 => { data := #[107] }
  | 2 => { data := #[] }
  | 3 => { data := #[97] }
  | 4 => { data := #[97, 98] }
  | 5 => { data := #[97] }
  | 6 => { data := #[97, 98, 99] }
  | 7 => { data := #[97, 98, 99] }
  | 8 => { data := #[97] }
  | 9 => { data := #[97, 107, 110] }
  | 10 => { data := #[97, 98, 107, 110] }
  | 11 => { data := #[107, 110] }
  | 12 => { data := #[97, 107, 110] }
  | 13 => { data := #[97, 107, 110] }
  | 14 => { data := #[103, 107, 110] }
  | 15 => { data := #[107, 110] }
  | 16 => { data := #[97, 110] }
  | 17 => { data := #[] }
  | _ => { data := #[] }
def rA (k : Int) : Bool := match k with
  | 1 => false
  | 2 => false
  | 3 => true
  | 4 => true
  | 5 => true
  | 6 => true
  | 7 => true
  | 8 => true
  | 9 => true
  | 10 => true
  | 11 => false
  | 12 => true
  | 13 => true
  | 14 => false
  | 15 => false
  | 16 => true
  | 17 => false
  | _ => false
def rB (k : Int) : Bool := match k with
  | 1 => false
  | 2 => false
  | 3 => false
  | 4 => true
  | 5 => false
  | 6 => true
  | 7 => true
  | 8 => false
  | 9 => false
  | 10 => true
  | 11 => false
  | 12 => false
  | 13 => false
  | 14 => false
  | 15 => false
  | 16 => false
  | 17 => false
  | _ => false
def rC (k : Int) : Bool := match k with
  | 1 => false
  | 2 => false
  | 3 => false
  | 4 => false
  | 5 => false
  | 6 => true
  | 7 => true
  | 8 => false
  | 9 => false
  | 10 => false
  | 11 => false
  | 12 => false
  | 13 => false
  | 14 => false
  | 15 => false
  | 16 => false
  | 17 => false
  | _ => false
def rK (k : Int) : Bool := match k with
  | 1 => true
  | 2 => false
  | 3 => false
  | 4 => false
  | 5 => false
  | 6 => false
  | 7 => false
  | 8 => false
  | 9 => true
  | 10 => true
  | 11 => true
  | 12 => true
  | 13 => true
  | 14 => true
  | 15 => true
  | 16 => false
  | 17 => false
  | _ => false
def rN (k : Int) : Bool := match k with
  | 1 => false
  | 2 => false
  | 3 => false
  | 4 => false
  | 5 => false
  | 6 => false
  | 7 => false
  | 8 => false
  | 9 => true
  | 10 => true
  | 11 => true
  | 12 => true
  | 13 => true
  | 14 => true
  | 15 => true
  | 16 => true
  | 17 => false
  | _ => false
def rG (k : Int) : Bool := match k with
  | 1 => false
  | 2 => false
  | 3 => false
  | 4 => false
  | 5 => false
  | 6 => false
  | 7 => false
  | 8 => false
  | 9 => false
  | 10 => false
  | 11 => false
  | 12 => false
  | 13 => false
  | 14 => true
  | 15 => false
  | 16 => false
  | 17 => false
  | _ => false
def rF (k : Int) : Bool := match k with
  | 1 => false
  | 2 => false
  | 3 => false
  | 4 => false
  | 5 => false
  | 6 => false
  | 7 => false
  | 8 => false
  | 9 => false
  | 10 => false
  | 11 => false
  | 12 => false
  | 13 => false
  | 14 => true
  | 15 => true
  | 16 => true
  | 17 => false
  | _ => false
def rO (k : Int) : Bool := match k with
  | 1 => true
  | 2 => true
  | 3 => true
  | 4 => true
  | 5 => true
  | 6 => true
  | 7 => true
  | 8 => true
  | 9 => true
  | 10 => true
  | 11 => true
  | 12 => true
  | 13 => true
  | 14 => true
  | 15 => true
  | 16 => true
  | 17 => true
  | _ => false
theorem kinds (k : Int) : k < 1 ∨ 17 < k ∨ (k = 1 ∨ k = 2 ∨ k = 3 ∨ k = 4 ∨ k = 5 ∨ k = 6 ∨ k = 7 ∨ k = 8 ∨ k = 9 ∨ k = 10 ∨ k = 11 ∨ k = 12 ∨ k = 13 ∨ k = 14 ∨ k = 15 ∨ k = 16 ∨ k = 17) := by omega
theorem rF_fin (k : Int) : rF k = fin k := by
  rcases kinds k with h | h | h
  · rw [show fin k = false from decide_eq_false (by omega)]
    unfold rF
    split <;> first | rfl | omega
  · rw [show fin k = false from decide_eq_false (by omega)]
    unfold rF
    split <;> first | rfl | omega
  · rcases h with rfl | rfl | rfl | rfl | rfl | rfl | rfl | rfl | rfl | rfl | rfl | rfl | rfl | rfl | rfl | rfl | rfl <;> rfl
theorem rS_out {k : Int} (h : k < 1 ∨ 17 < k) : rS k = 0 := by
  unfold rS
  split <;> first | rfl | omega
theorem nF_out {k : Int} (h : k < 1 ∨ 17 < k) : nF k = 0 := by
  unfold nF
  split <;> first | rfl | omega
theorem nS_out {k : Int} (h : k < 1 ∨ 17 < k) : nS k = 0 := by
  unfold nS
  split <;> first | rfl | omega
theorem nT_out {k : Int} (h : k < 1 ∨ 17 < k) : nT k = { data := #[] } := by
  unfold nT
  split <;> first | rfl | omega
theorem rA_out {k : Int} (h : k < 1 ∨ 17 < k) : rA k = false := by
  unfold rA
  split <;> first | rfl | omega
theorem rB_out {k : Int} (h : k < 1 ∨ 17 < k) : rB k = false := by
  unfold rB
  split <;> first | rfl | omega
theorem rC_out {k : Int} (h : k < 1 ∨ 17 < k) : rC k = false := by
  unfold rC
  split <;> first | rfl | omega
theorem rK_out {k : Int} (h : k < 1 ∨ 17 < k) : rK k = false := by
  unfold rK
  split <;> first | rfl | omega
theorem rN_out {k : Int} (h : k < 1 ∨ 17 < k) : rN k = false := by
  unfold rN
  split <;> first | rfl | omega
theorem rG_out {k : Int} (h : k < 1 ∨ 17 < k) : rG k = false := by
  unfold rG
  split <;> first | rfl | omega
theorem rF_out {k : Int} (h : k < 1 ∨ 17 < k) : rF k = false := by
  unfold rF
  split <;> first | rfl | omega
theorem rO_out {k : Int} (h : k < 1 ∨ 17 < k) : rO k = false := by
  unfold rO
  split <;> first | rfl | omega
theorem ruleOf_any (k : Int) (w : World) : Calls Try.prog 157 #[.int .i64 k] w fun e w' => e = .returned (.tuple #[.agg #[.int .i64 (rS k), .bool (rA k), .bool (rB k), .bool (rC k), .bool (rK k), .bool (rN k), .bool (rG k), .bool (rF k)], .bool (rO k)]) ∧ Below w.heap.size w w' := by
  rcases kinds k with h | h | h
  · rw [rS_out (.inl h), rA_out (.inl h), rB_out (.inl h), rC_out (.inl h), rK_out (.inl h), rN_out (.inl h), rG_out (.inl h), rF_out (.inl h), rO_out (.inl h)]
    exact ruleOf_low k h w
  · rw [rS_out (.inr h), rA_out (.inr h), rB_out (.inr h), rC_out (.inr h), rK_out (.inr h), rN_out (.inr h), rG_out (.inr h), rF_out (.inr h), rO_out (.inr h)]
    exact ruleOf_high k h w
  · rcases h with rfl | rfl | rfl | rfl | rfl | rfl | rfl | rfl | rfl | rfl | rfl | rfl | rfl | rfl | rfl | rfl | rfl
    · exact ruleOf_1 w
    · exact ruleOf_2 w
    · exact ruleOf_3 w
    · exact ruleOf_4 w
    · exact ruleOf_5 w
    · exact ruleOf_6 w
    · exact ruleOf_7 w
    · exact ruleOf_8 w
    · exact ruleOf_9 w
    · exact ruleOf_10 w
    · exact ruleOf_11 w
    · exact ruleOf_12 w
    · exact ruleOf_13 w
    · exact ruleOf_14 w
    · exact ruleOf_15 w
    · exact ruleOf_16 w
    · exact ruleOf_17 w
theorem needs_any (k : Int) (w : World) : Calls Try.prog 49 #[.int .i64 k] w fun e w' => e = .returned (.tuple #[.agg #[.int .i64 (nF k), .int .i64 (nS k), .string (nT k)], .bool (rO k)]) ∧ Below w.heap.size w w' := by
  rcases kinds k with h | h | h
  · rw [nF_out (.inl h), nS_out (.inl h), nT_out (.inl h), rO_out (.inl h)]
    exact needs_low k h w
  · rw [nF_out (.inr h), nS_out (.inr h), nT_out (.inr h), rO_out (.inr h)]
    exact needs_high k h w
  · rcases h with rfl | rfl | rfl | rfl | rfl | rfl | rfl | rfl | rfl | rfl | rfl | rfl | rfl | rfl | rfl | rfl | rfl
    · exact needs_1 w
    · exact needs_2 w
    · exact needs_3 w
    · exact needs_4 w
    · exact needs_5 w
    · exact needs_6 w
    · exact needs_7 w
    · exact needs_8 w
    · exact needs_9 w
    · exact needs_10 w
    · exact needs_11 w
    · exact needs_12 w
    · exact needs_13 w
    · exact needs_14 w
    · exact needs_15 w
    · exact needs_16 w
    · exact needs_17 w
theorem hasK (k : Int) (w : World) : Calls Try.prog 50 #[.agg #[.int .i64 (nF k), .int .i64 (nS k), .string (nT k)], .int .u8 107] w fun e w' => e = .returned (.bool (rK k)) ∧ Below w.heap.size w w' := by
  rcases kinds k with h | h | h
  · rw [nF_out (.inl h), nS_out (.inl h), nT_out (.inl h), rK_out (.inl h)]
    exact nhas_none _ _ _ w
  · rw [nF_out (.inr h), nS_out (.inr h), nT_out (.inr h), rK_out (.inr h)]
    exact nhas_none _ _ _ w
  · rcases h with rfl | rfl | rfl | rfl | rfl | rfl | rfl | rfl | rfl | rfl | rfl | rfl | rfl | rfl | rfl | rfl | rfl
    · exact nhas_k _ _ _ w
    · exact nhas_none _ _ _ w
    · exact nhas_a _ _ _ w
    · exact nhas_ab _ _ _ w
    · exact nhas_a _ _ _ w
    · exact nhas_abc _ _ _ w
    · exact nhas_abc _ _ _ w
    · exact nhas_a _ _ _ w
    · exact nhas_akn _ _ _ w
    · exact nhas_abkn _ _ _ w
    · exact nhas_kn _ _ _ w
    · exact nhas_akn _ _ _ w
    · exact nhas_akn _ _ _ w
    · exact nhas_gkn _ _ _ w
    · exact nhas_kn _ _ _ w
    · exact nhas_an _ _ _ w
    · exact nhas_none _ _ _ w
theorem hasN (k : Int) (w : World) : Calls Try.prog 50 #[.agg #[.int .i64 (nF k), .int .i64 (nS k), .string (nT k)], .int .u8 110] w fun e w' => e = .returned (.bool (rN k)) ∧ Below w.heap.size w w' := by
  rcases kinds k with h | h | h
  · rw [nF_out (.inl h), nS_out (.inl h), nT_out (.inl h), rN_out (.inl h)]
    exact nhas_none _ _ _ w
  · rw [nF_out (.inr h), nS_out (.inr h), nT_out (.inr h), rN_out (.inr h)]
    exact nhas_none _ _ _ w
  · rcases h with rfl | rfl | rfl | rfl | rfl | rfl | rfl | rfl | rfl | rfl | rfl | rfl | rfl | rfl | rfl | rfl | rfl
    · exact nhas_k _ _ _ w
    · exact nhas_none _ _ _ w
    · exact nhas_a _ _ _ w
    · exact nhas_ab _ _ _ w
    · exact nhas_a _ _ _ w
    · exact nhas_abc _ _ _ w
    · exact nhas_abc _ _ _ w
    · exact nhas_a _ _ _ w
    · exact nhas_akn _ _ _ w
    · exact nhas_abkn _ _ _ w
    · exact nhas_kn _ _ _ w
    · exact nhas_akn _ _ _ w
    · exact nhas_akn _ _ _ w
    · exact nhas_gkn _ _ _ w
    · exact nhas_kn _ _ _ w
    · exact nhas_an _ _ _ w
    · exact nhas_none _ _ _ w
theorem hasA (k : Int) (w : World) : Calls Try.prog 50 #[.agg #[.int .i64 (nF k), .int .i64 (nS k), .string (nT k)], .int .u8 97] w fun e w' => e = .returned (.bool (rA k)) ∧ Below w.heap.size w w' := by
  rcases kinds k with h | h | h
  · rw [nF_out (.inl h), nS_out (.inl h), nT_out (.inl h), rA_out (.inl h)]
    exact nhas_none _ _ _ w
  · rw [nF_out (.inr h), nS_out (.inr h), nT_out (.inr h), rA_out (.inr h)]
    exact nhas_none _ _ _ w
  · rcases h with rfl | rfl | rfl | rfl | rfl | rfl | rfl | rfl | rfl | rfl | rfl | rfl | rfl | rfl | rfl | rfl | rfl
    · exact nhas_k _ _ _ w
    · exact nhas_none _ _ _ w
    · exact nhas_a _ _ _ w
    · exact nhas_ab _ _ _ w
    · exact nhas_a _ _ _ w
    · exact nhas_abc _ _ _ w
    · exact nhas_abc _ _ _ w
    · exact nhas_a _ _ _ w
    · exact nhas_akn _ _ _ w
    · exact nhas_abkn _ _ _ w
    · exact nhas_kn _ _ _ w
    · exact nhas_akn _ _ _ w
    · exact nhas_akn _ _ _ w
    · exact nhas_gkn _ _ _ w
    · exact nhas_kn _ _ _ w
    · exact nhas_an _ _ _ w
    · exact nhas_none _ _ _ w
theorem hasB (k : Int) (w : World) : Calls Try.prog 50 #[.agg #[.int .i64 (nF k), .int .i64 (nS k), .string (nT k)], .int .u8 98] w fun e w' => e = .returned (.bool (rB k)) ∧ Below w.heap.size w w' := by
  rcases kinds k with h | h | h
  · rw [nF_out (.inl h), nS_out (.inl h), nT_out (.inl h), rB_out (.inl h)]
    exact nhas_none _ _ _ w
  · rw [nF_out (.inr h), nS_out (.inr h), nT_out (.inr h), rB_out (.inr h)]
    exact nhas_none _ _ _ w
  · rcases h with rfl | rfl | rfl | rfl | rfl | rfl | rfl | rfl | rfl | rfl | rfl | rfl | rfl | rfl | rfl | rfl | rfl
    · exact nhas_k _ _ _ w
    · exact nhas_none _ _ _ w
    · exact nhas_a _ _ _ w
    · exact nhas_ab _ _ _ w
    · exact nhas_a _ _ _ w
    · exact nhas_abc _ _ _ w
    · exact nhas_abc _ _ _ w
    · exact nhas_a _ _ _ w
    · exact nhas_akn _ _ _ w
    · exact nhas_abkn _ _ _ w
    · exact nhas_kn _ _ _ w
    · exact nhas_akn _ _ _ w
    · exact nhas_akn _ _ _ w
    · exact nhas_gkn _ _ _ w
    · exact nhas_kn _ _ _ w
    · exact nhas_an _ _ _ w
    · exact nhas_none _ _ _ w
theorem hasC (k : Int) (w : World) : Calls Try.prog 50 #[.agg #[.int .i64 (nF k), .int .i64 (nS k), .string (nT k)], .int .u8 99] w fun e w' => e = .returned (.bool (rC k)) ∧ Below w.heap.size w w' := by
  rcases kinds k with h | h | h
  · rw [nF_out (.inl h), nS_out (.inl h), nT_out (.inl h), rC_out (.inl h)]
    exact nhas_none _ _ _ w
  · rw [nF_out (.inr h), nS_out (.inr h), nT_out (.inr h), rC_out (.inr h)]
    exact nhas_none _ _ _ w
  · rcases h with rfl | rfl | rfl | rfl | rfl | rfl | rfl | rfl | rfl | rfl | rfl | rfl | rfl | rfl | rfl | rfl | rfl
    · exact nhas_k _ _ _ w
    · exact nhas_none _ _ _ w
    · exact nhas_a _ _ _ w
    · exact nhas_ab _ _ _ w
    · exact nhas_a _ _ _ w
    · exact nhas_abc _ _ _ w
    · exact nhas_abc _ _ _ w
    · exact nhas_a _ _ _ w
    · exact nhas_akn _ _ _ w
    · exact nhas_abkn _ _ _ w
    · exact nhas_kn _ _ _ w
    · exact nhas_akn _ _ _ w
    · exact nhas_akn _ _ _ w
    · exact nhas_gkn _ _ _ w
    · exact nhas_kn _ _ _ w
    · exact nhas_an _ _ _ w
    · exact nhas_none _ _ _ w
theorem hasG (k : Int) (w : World) : Calls Try.prog 50 #[.agg #[.int .i64 (nF k), .int .i64 (nS k), .string (nT k)], .int .u8 103] w fun e w' => e = .returned (.bool (rG k)) ∧ Below w.heap.size w w' := by
  rcases kinds k with h | h | h
  · rw [nF_out (.inl h), nS_out (.inl h), nT_out (.inl h), rG_out (.inl h)]
    exact nhas_none _ _ _ w
  · rw [nF_out (.inr h), nS_out (.inr h), nT_out (.inr h), rG_out (.inr h)]
    exact nhas_none _ _ _ w
  · rcases h with rfl | rfl | rfl | rfl | rfl | rfl | rfl | rfl | rfl | rfl | rfl | rfl | rfl | rfl | rfl | rfl | rfl
    · exact nhas_k _ _ _ w
    · exact nhas_none _ _ _ w
    · exact nhas_a _ _ _ w
    · exact nhas_ab _ _ _ w
    · exact nhas_a _ _ _ w
    · exact nhas_abc _ _ _ w
    · exact nhas_abc _ _ _ w
    · exact nhas_a _ _ _ w
    · exact nhas_akn _ _ _ w
    · exact nhas_abkn _ _ _ w
    · exact nhas_kn _ _ _ w
    · exact nhas_akn _ _ _ w
    · exact nhas_akn _ _ _ w
    · exact nhas_gkn _ _ _ w
    · exact nhas_kn _ _ _ w
    · exact nhas_an _ _ _ w
    · exact nhas_none _ _ _ w
end Go.Proofs.Ytcjcmnnhmajocab.Ic
namespace Go.Proofs.Ytcjcmnnhmajocab.Ic
open Go.RowKit Kt
set_option linter.unusedVariables false
set_option linter.unusedSimpArgs false
def opE (os : List Opr) (cnt : Int) (i : Nat) (o : Opr) : Int :=
  oerr (e2 (rO o.k) (rS o.k) o.k o.w) (e4 (rK o.k) (rN o.k) cnt o.kn o.n) (e6 (rA o.k) (rB o.k) (rC o.k) (rG o.k) o.a o.b o.c) (e8 (rG o.k) o.b)
    (e10 (rA o.k) (rB o.k) (rC o.k) (gvn os i o.a) (gvn os i o.b) (gvn os i o.c)) (e12 (rF o.k) (decide ((i : Int) < (os.length : Int) - 1)))
def errAt (os : List Opr) (cnt : Int) (i : Nat) : Int := match os[i]? with
  | some o => opE os cnt i o
  | none => 0
def lastOf (os : List Opr) : Bool := match os[os.length - 1]? with
  | some o => rF o.k
  | none => false
/-- what is told of the last so many -/
def scan (os : List Opr) (cnt : Int) : Nat → Int × Int
  | 0 => if lastOf os then (0, 0) else (7, os.length)
  | n + 1 => if errAt os cnt (os.length - (n + 1)) == 0 then scan os cnt n else (errAt os cnt (os.length - (n + 1)), ((os.length - (n + 1) : Nat) : Int))
def chk (os : List Opr) (cnt byt : Int) : Int × Int :=
  if 2048 < os.length then (5, -1) else if cnt < 0 ∨ 64 < cnt ∨ byt < 0 ∨ 384 < byt then (4, -1) else scan os cnt os.length
theorem one_at (os : List Opr) (ao : Option Addr) (cap : Nat) (pc cnt byt : Int) (i : Nat) (o : Opr) (ho : os[i]? = some o) (w : World) (hops : Ops os ao cap w) :
    Calls Try.prog 91 #[.agg #[.int .u32 pc, .int .i64 cnt, .int .i64 byt, .slice ao os.length cap], .int .i64 i, .agg #[.int .i64 o.k, .int .i64 o.w, .int .i64 o.a, .int .i64 o.b, .int .i64 o.c, .int .u32 o.kn, .int .i64 o.n]] w fun e w' => e = .returned (.int .i64 (errAt os cnt i)) ∧ Below w.heap.size w w' := by
  have hi : i < os.length := (List.getElem?_eq_some_iff.1 ho).1
  have hs : 0 ≤ rS o.k ∧ rS o.k < 100 := by
    unfold rS
    split <;> omega
  have he : errAt os cnt i = opE os cnt i o := by unfold errAt; rw [ho]
  rw [he]
  exact one_any os ao cap pc cnt byt i o.k o.w o.a o.b o.c o.kn o.n w hops hi (rS o.k) (rA o.k) (rB o.k) (rC o.k) (rK o.k) (rN o.k) (rG o.k) (rF o.k) (rO o.k) hs.1 hs.2 (ruleOf_any o.k) _ _ _ _ _ _ (Lib.hid rfl) (Lib.hid rfl) (Lib.hid rfl) (Lib.hid rfl) (Lib.hid rfl) (Lib.hid rfl)
set_option maxHeartbeats 1000000 in
theorem last_any (o : Opr) (w : World) :
    Calls Try.prog 92 #[.agg #[.int .i64 o.k, .int .i64 o.w, .int .i64 o.a, .int .i64 o.b, .int .i64 o.c, .int .u32 o.kn, .int .i64 o.n]] w fun e w' => e = .returned (.bool (rF o.k)) ∧ Below w.heap.size w w' := by
  obtain ⟨k, ow, oa, ob, oc, okn, on⟩ := o
  go_enter Try.func92, Try.ntmps92
  go_wp2_with (go_at_call 157; refine (ruleOf_any _ _).mono ?_; rintro e w1 ⟨rfl, hb1⟩)
  go_ret
  exact ⟨rfl, (((Below.refl _ _).alloc (Nat.le_refl _) _).trans (hb1.mono (by simp))).alloc (by have := hb1.size; simp at this; omega) _⟩
def Boxed (b : Nat) (X : Array Value) (w : World) : Prop := b < w.heap.size ∧ ∀ (j : Nat) v, X[j]? = some v → w.cell? ⟨b, j, none⟩ = some v
theorem Boxed.keep {b : Nat} {X : Array Value} {w w' : World} (h : Boxed b X w) (hb : Below w.heap.size w w') : Boxed b X w' :=
  ⟨Nat.lt_of_lt_of_le h.1 hb.size, fun j v hj => (hb.cell (p := ⟨b, j, none⟩) h.1).trans (h.2 j v hj)⟩
theorem Boxed.new (w : World) (X : Array Value) (t : TypeId) : Boxed w.heap.size X (w.alloc (.cells X t)) := ⟨by simp, fun j v hj => (cell_new w X t j).trans hj⟩
theorem scan_step {os : List Opr} {cnt : Int} {j : Nat} (hj : j < os.length) (h : errAt os cnt j = 0) : scan os cnt (os.length - j) = scan os cnt (os.length - (j + 1)) := by
  obtain ⟨n, hn⟩ : ∃ n, os.length - j = n + 1 := ⟨os.length - j - 1, by omega⟩
  have e : os.length - (n + 1) = j := by omega
  rw [hn, show os.length - (j + 1) = n by omega, scan, e, if_pos (by simp [h])]
theorem scan_bad {os : List Opr} {cnt : Int} {j : Nat} (hj : j < os.length) (h : errAt os cnt j ≠ 0) : scan os cnt (os.length - j) = (errAt os cnt j, (j : Int)) := by
  obtain ⟨n, hn⟩ : ∃ n, os.length - j = n + 1 := ⟨os.length - j - 1, by omega⟩
  have e : os.length - (n + 1) = j := by omega
  rw [hn, scan, e, if_neg (by simpa using h)]
def errs (p : Int × Int) : Value := .tuple #[.int .i64 p.1, .int .i64 p.2]
set_option maxHeartbeats 4000000 in
theorem check_any (os : List Opr) (ao : Option Addr) (cap : Nat) (pc cnt byt : Int) (w : World) (hops : Ops os ao cap w) :
    Calls Try.prog 45 #[.agg #[.int .u32 pc, .int .i64 cnt, .int .i64 byt, .slice ao os.length cap]] w fun e w' => e = .returned (errs (chk os cnt byt)) ∧ Below w.heap.size w w' := by
  have hL : os.length ≤ 9223372036854775807 := by have := hops.1; have h2 := hops.2.1; unfold maxLen at h2; omega
  by_cases hlen : 2048 < os.length
  · have hv : chk os cnt byt = (5, -1) := by unfold chk; rw [if_pos hlen]
    rw [hv]
    clear hv hops
    have h1 : (2048 : Int) < (os.length : Int) := by omega
    go_enter Try.func45, Try.ntmps45
    go_wp2
    go_ret2
    exact ⟨rfl, (Below.refl _ _).alloc (Nat.le_refl _) _⟩
  have h1 : ¬ (2048 : Int) < (os.length : Int) := by omega
  by_cases hbad : cnt < 0 ∨ 64 < cnt ∨ byt < 0 ∨ 384 < byt
  · have hv : chk os cnt byt = (4, -1) := by unfold chk; rw [if_neg hlen, if_pos hbad]
    rw [hv]
    clear hv hops
    have hc : cnt < 0 ∨ (¬ cnt < 0 ∧ 64 < cnt) ∨ (¬ cnt < 0 ∧ ¬ 64 < cnt ∧ byt < 0) ∨ (¬ cnt < 0 ∧ ¬ 64 < cnt ∧ ¬ byt < 0 ∧ 384 < byt) := by omega
    clear hbad
    rcases hc with q0 | ⟨q0, q1⟩ | ⟨q0, q1, q2⟩ | ⟨q0, q1, q2, q3⟩
    all_goals go_enter Try.func45, Try.ntmps45
    all_goals go_wp2
    all_goals go_ret2
    all_goals exact ⟨rfl, (Below.refl _ _).alloc (Nat.le_refl _) _⟩
  have hv : chk os cnt byt = scan os cnt os.length := by unfold chk; rw [if_neg hlen, if_neg hbad]
  rw [hv]
  clear hv
  have q0 : ¬ cnt < 0 := by omega
  have q1 : ¬ 64 < cnt := by omega
  have q2 : ¬ byt < 0 := by omega
  have q3 : ¬ 384 < byt := by omega
  clear hbad hlen
  have HO := Lib.hid hops
  clear hops
  go_enter Try.func45, Try.ntmps45
  go_wp2
  have HB0 := Boxed.new w #[.int .u32 pc, .int .i64 cnt, .int .i64 byt, .slice ao os.length cap] 25
  have HA0 : Below w.heap.size w (w.alloc (.cells #[.int .u32 pc, .int .i64 cnt, .int .i64 byt, .slice ao os.length cap] 25)) := (Below.refl _ _).alloc (Nat.le_refl _) _
  generalize w.alloc (.cells #[.int .u32 pc, .int .i64 cnt, .int .i64 byt, .slice ao os.length cap] 25) = wA at HB0 HA0 ⊢
  generalize hbx : w.heap.size = bx at HB0 HA0 ⊢
  have HX := Lib.hid hbx
  clear hbx
  go_loopg [33] os.length (fun k i wr => ∃ j : Nat, k = os.length - j ∧ j ≤ os.length ∧ i = .int .i64 j ∧ Hid (scan os cnt os.length = scan os cnt (os.length - j)) ∧ Below bx w wr ∧ Boxed bx #[.int .u32 pc, .int .i64 cnt, .int .i64 byt, .slice ao os.length cap] wr)
  case atStart => exact ⟨0, rfl, Nat.zero_le _, rfl, rfl, HA0, HB0⟩
  case round =>
    obtain ⟨j, hk, hj, rfl, hsc, hb, hx⟩ := hrel
    have hx0 := hx.2 0 _ rfl
    have hx1 := hx.2 1 _ rfl
    have hx2 := hx.2 2 _ rfl
    have hx3 := hx.2 3 _ rfl
    have hxl := hx.1
    have HXB := Lib.hid hx
    have HK := Lib.hid hk
    clear hx HB0 HA0 hk
    have hor : Ops os ao cap wr := HO.out.keep (by rw [HX.out]; exact hb)
    by_cases hlt : j < os.length
    · obtain ⟨g, off, rfl, hg, hc⟩ := hor.2.2 (by omega)
      obtain ⟨o, ho⟩ : ∃ o, os[j]? = some o := ⟨os[j], List.getElem?_eq_getElem hlt⟩
      have hone := one_at os (some ⟨g, off, none⟩) cap pc cnt byt j o ho
      have HH := Lib.hid hone
      clear hone
      have c0 : wr.cell? ⟨g, off + j * 7, none⟩ = some (.int .i64 o.k) := hc j o ho 0 _ rfl
      have c1 : wr.cell? ⟨g, off + j * 7 + 1, none⟩ = some (.int .i64 o.w) := hc j o ho 1 _ rfl
      have c2 : wr.cell? ⟨g, off + j * 7 + 2, none⟩ = some (.int .i64 o.a) := hc j o ho 2 _ rfl
      have c3 : wr.cell? ⟨g, off + j * 7 + 3, none⟩ = some (.int .i64 o.b) := hc j o ho 3 _ rfl
      have c4 : wr.cell? ⟨g, off + j * 7 + 4, none⟩ = some (.int .i64 o.c) := hc j o ho 4 _ rfl
      have c5 : wr.cell? ⟨g, off + j * 7 + 5, none⟩ = some (.int .u32 o.kn) := hc j o ho 5 _ rfl
      have c6 : wr.cell? ⟨g, off + j * 7 + 6, none⟩ = some (.int .i64 o.n) := hc j o ho 6 _ rfl
      have hlt' : (j : Int) < (os.length : Int) := by omega
      have HOR := Lib.hid hor
      clear hor hc ho
      by_cases he : errAt os cnt j = 0
      · have HE := Lib.hid he
        rw [he] at HH
        clear he
        go_wp2_with (go_at_call 91; refine (HH.out _ (HOR.out.keep ((Below.refl _ _).alloc (Nat.le_refl _) _))).mono ?_; rintro e w2 ⟨rfl, hb2⟩)
        go_roundg (os.length - (j + 1))
        case measure =>
          have := HK.out
          omega
        case rel =>
          have hbw : Below wr.heap.size wr w2 := ((Below.refl _ _).alloc (Nat.le_refl _) _).trans (hb2.mono (by simp))
          exact ⟨j + 1, rfl, by omega, by simp, by rw [← scan_step hlt HE.out]; exact hsc, hb.trans (hbw.mono (by omega)), HXB.out.keep hbw⟩
      · have HE := Lib.hid he
        have hne : (errAt os cnt j == 0) = false := by simpa using he
        have hz : scan os cnt os.length = (errAt os cnt j, (j : Int)) := by rw [hsc.out]; exact scan_bad hlt he
        have HZ := Lib.hid hz
        clear he hz
        generalize errAt os cnt j = er at HH hne HZ
        go_wp2_with (go_at_call 91; refine (HH.out _ (HOR.out.keep ((Below.refl _ _).alloc (Nat.le_refl _) _))).mono ?_; rintro e w2 ⟨rfl, hb2⟩)
        go_ret2
        have hbw : Below wr.heap.size wr w2 := ((Below.refl _ _).alloc (Nat.le_refl _) _).trans (hb2.mono (by simp))
        exact ⟨by rw [HZ.out]; rfl, by rw [HX.out]; exact hb.trans (hbw.mono (by omega))⟩
    · obtain rfl : j = os.length := by omega
      have hs0 : scan os cnt os.length = if lastOf os then (0, 0) else (7, (os.length : Int)) := by rw [hsc.out, Nat.sub_self]; rfl
      have HS := Lib.hid hs0
      clear hs0 hsc
      rcases Nat.eq_zero_or_pos os.length with h0 | h0
      · have hl : lastOf os = false := by
          have : os = [] := List.eq_nil_of_length_eq_zero h0
          subst this
          rfl
        have hz : scan os cnt os.length = (7, (os.length : Int)) := by rw [HS.out, hl]; rfl
        have HZ := Lib.hid hz
        have h0' : ((os.length : Int) == 0) = true := by rw [beq_iff_eq]; omega
        clear hz hl h0 HS hor
        go_wp2
        go_ret2
        exact ⟨by rw [HZ.out]; rfl, by rw [HX.out]; exact hb⟩
      · obtain ⟨g, off, rfl, hg, hc⟩ := hor.2.2 h0
        obtain ⟨o, ho⟩ : ∃ o, os[os.length - 1]? = some o := ⟨os[os.length - 1], List.getElem?_eq_getElem (by omega)⟩
        have hl : lastOf os = rF o.k := by unfold lastOf; rw [ho]
        have c0 : wr.cell? ⟨g, off + (os.length - 1) * 7, none⟩ = some (.int .i64 o.k) := hc _ o ho 0 _ rfl
        have c1 : wr.cell? ⟨g, off + (os.length - 1) * 7 + 1, none⟩ = some (.int .i64 o.w) := hc _ o ho 1 _ rfl
        have c2 : wr.cell? ⟨g, off + (os.length - 1) * 7 + 2, none⟩ = some (.int .i64 o.a) := hc _ o ho 2 _ rfl
        have c3 : wr.cell? ⟨g, off + (os.length - 1) * 7 + 3, none⟩ = some (.int .i64 o.b) := hc _ o ho 3 _ rfl
        have c4 : wr.cell? ⟨g, off + (os.length - 1) * 7 + 4, none⟩ = some (.int .i64 o.c) := hc _ o ho 4 _ rfl
        have c5 : wr.cell? ⟨g, off + (os.length - 1) * 7 + 5, none⟩ = some (.int .u32 o.kn) := hc _ o ho 5 _ rfl
        have c6 : wr.cell? ⟨g, off + (os.length - 1) * 7 + 6, none⟩ = some (.int .i64 o.n) := hc _ o ho 6 _ rfl
        have h0' : ((os.length : Int) == 0) = false := by rw [beq_eq_false_iff_ne]; omega
        rw [hl] at HS
        have hlast := last_any o
        have HLA := Lib.hid hlast
        clear hlast hl hc ho hor
        generalize rF o.k = fi at HS HLA
        cases fi
        · go_wp2_with (go_at_call 92; refine (HLA.out _).mono ?_; rintro e w2 ⟨rfl, hb2⟩)
          go_ret2
          exact ⟨by rw [HS.out]; rfl, by rw [HX.out]; exact hb.trans (hb2.mono (by omega))⟩
        · go_wp2_with (go_at_call 92; refine (HLA.out _).mono ?_; rintro e w2 ⟨rfl, hb2⟩)
          go_ret2
          exact ⟨by rw [HS.out]; rfl, by rw [HX.out]; exact hb.trans (hb2.mono (by omega))⟩
end Go.Proofs.Ytcjcmnnhmajocab.Ic
