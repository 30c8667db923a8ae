/- Operations of a region that draws its order, taken one by one: more laws. -/
import Derived.Test.YtcjcmnnhmajocabGreatPlan
import Derived.Test.YtcjcmnnhmajocabGreatPlao
import Derived.Test.YtcjcmnnhmajocabGreatPlap
import Derived.Test.YtcjcmnnhmajocabGreatPlaq
import Derived.Test.YtcjcmnnhmajocabGreatPlar
import Derived.Test.YtcjcmnnhmajocabGreatPlas
set_option linter.unusedVariables false
set_option linter.unusedSimpArgs false
set_option maxRecDepth 100000
set_option maxHeartbeats 16000000
namespace Go.Proofs.YtcjcmnnhmajocabGreat.Ic
open Go.RowKit
def rS (k : Int) : Int := match k with
 | 1 => 0
 | 2 => 12
 | 3 => 12
 | 4 => 16
 | 5 => 7
 | 6 => 0
 | 7 => 13
 | 8 => 16
 | 9 => 5
 | 10 => 3
 | 11 => 0
 | 12 => 0
 | 13 => 8
 | 14 => 8
 | 15 => 0
 | 16 => 0
 | 17 => 0
 | _ => 0
def nF (k : Int) : Int := match k with
 | 1 => 0
 | 2 => 0
 | 3 => 0
 | 4 => 0
 | 5 => 0
 | 6 => 0
 | 7 => 0
 | 8 => 0
 | 9 => 0
 | 10 => 0
 | 11 => 0
 | 12 => 0
 | 13 => 1
 | 14 => 1
 | 15 => 0
 | 16 => 0
 | 17 => 0
 | _ => 0
def nS (k : Int) : Int := match k with
 | 1 => 1
 | 2 => 12
 | 3 => 12
 | 4 => 16
 | 5 => 7
 | 6 => 1
 | 7 => 13
 | 8 => 16
 | 9 => 5
 | 10 => 3
 | 11 => 1
 | 12 => 1
 | 13 => 7
 | 14 => 7
 | 15 => 1
 | 16 => 1
 | 17 => 1
 | _ => 0
def nT (k : Int) : ByteArray := match k with
 | 1 => { data := #[107] }
 | 2 => { data := #[] }
 | 3 => { data := #[97] }
 | 4 => { data := #[97, 98] }
 | 5 => { data := #[97] }
 | 6 => { data := #[97, 98, 99] }
 | 7 => { data := #[97, 98, 99] }
 | 8 => { data := #[97] }
 | 9 => { data := #[97, 107, 110] }
 | 10 => { data := #[97, 98, 107, 110] }
 | 11 => { data := #[107, 110] }
 | 12 => { data := #[97, 107, 110] }
 | 13 => { data := #[97, 107, 110] }
 | 14 => { data := #[103, 107, 110] }
 | 15 => { data := #[107, 110] }
 | 16 => { data := #[97, 110] }
 | 17 => { data := #[] }
 | _ => { data := #[] }
def rA (k : Int) : Bool := match k with
 | 1 => false
 | 2 => false
 | 3 => true
 | 4 => true
 | 5 => true
 | 6 => true
 | 7 => true
 | 8 => true
 | 9 => true
 | 10 => true
 | 11 => false
 | 12 => true
 | 13 => true
 | 14 => false
 | 15 => false
 | 16 => true
 | 17 => false
 | _ => false
def rB (k : Int) : Bool := match k with
 | 1 => false
 | 2 => false
 | 3 => false
 | 4 => true
 | 5 => false
 | 6 => true
 | 7 => true
 | 8 => false
 | 9 => false
 | 10 => true
 | 11 => false
 | 12 => false
 | 13 => false
 | 14 => false
 | 15 => false
 | 16 => false
 | 17 => false
 | _ => false
def rC (k : Int) : Bool := match k with
 | 1 => false
 | 2 => false
 | 3 => false
 | 4 => false
 | 5 => false
 | 6 => true
 | 7 => true
 | 8 => false
 | 9 => false
 | 10 => false
 | 11 => false
 | 12 => false
 | 13 => false
 | 14 => false
 | 15 => false
 | 16 => false
 | 17 => false
 | _ => false
def rK (k : Int) : Bool := match k with
 | 1 => true
 | 2 => false
 | 3 => false
 | 4 => false
 | 5 => false
 | 6 => false
 | 7 => false
 | 8 => false
 | 9 => true
 | 10 => true
 | 11 => true
 | 12 => true
 | 13 => true
 | 14 => true
 | 15 => true
 | 16 => false
 | 17 => false
 | _ => false
def rN (k : Int) : Bool := match k with
 | 1 => false
 | 2 => false
 | 3 => false
 | 4 => false
 | 5 => false
 | 6 => false
 | 7 => false
 | 8 => false
 | 9 => true
 | 10 => true
 | 11 => true
 | 12 => true
 | 13 => true
 | 14 => true
 | 15 => true
 | 16 => true
 | 17 => false
 | _ => false
def rG (k : Int) : Bool := match k with
 | 1 => false
 | 2 => false
 | 3 => false
 | 4 => false
 | 5 => false
 | 6 => false
 | 7 => false
 | 8 => false
 | 9 => false
 | 10 => false
 | 11 => false
 | 12 => false
 | 13 => false
 | 14 => true
 | 15 => false
 | 16 => false
 | 17 => false
 | _ => false
def rF (k : Int) : Bool := match k with
 | 1 => false
 | 2 => false
 | 3 => false
 | 4 => false
 | 5 => false
 | 6 => false
 | 7 => false
 | 8 => false
 | 9 => false
 | 10 => false
 | 11 => false
 | 12 => false
 | 13 => false
 | 14 => true
 | 15 => true
 | 16 => true
 | 17 => false
 | _ => false
def rO (k : Int) : Bool := match k with
 | 1 => true
 | 2 => true
 | 3 => true
 | 4 => true
 | 5 => true
 | 6 => true
 | 7 => true
 | 8 => true
 | 9 => true
 | 10 => true
 | 11 => true
 | 12 => true
 | 13 => true
 | 14 => true
 | 15 => true
 | 16 => true
 | 17 => true
 | _ => false
theorem kinds (k : Int) : k < 1 ∨ 17 < k ∨ (k = 1 ∨ k = 2 ∨ k = 3 ∨ k = 4 ∨ k = 5 ∨ k = 6 ∨ k = 7 ∨ k = 8 ∨ k = 9 ∨ k = 10 ∨ k = 11 ∨ k = 12 ∨ k = 13 ∨ k = 14 ∨ k = 15 ∨ k = 16 ∨ k = 17) := by omega
theorem rF_fin (k : Int) : rF k = fin k := by
 rcases kinds k with h | h | h
 ·rw [show fin k = false from decide_eq_false (by omega)]
  unfold rF
  split <;> first | rfl | omega
 ·rw [show fin k = false from decide_eq_false (by omega)]
  unfold rF
  split <;> first | rfl | omega
 ·rcases h with rfl | rfl | rfl | rfl | rfl | rfl | rfl | rfl | rfl | rfl | rfl | rfl | rfl | rfl | rfl | rfl | rfl <;> rfl
theorem nF_out {k : Int} (h : k < 1 ∨ 17 < k) : nF k = 0 := by
 unfold nF
 split <;> first | rfl | omega
theorem nS_out {k : Int} (h : k < 1 ∨ 17 < k) : nS k = 0 := by
 unfold nS
 split <;> first | rfl | omega
theorem nT_out {k : Int} (h : k < 1 ∨ 17 < k) : nT k = { data := #[] } := by
 unfold nT
 split <;> first | rfl | omega
theorem rA_out {k : Int} (h : k < 1 ∨ 17 < k) : rA k = false := by
 unfold rA
 split <;> first | rfl | omega
theorem rB_out {k : Int} (h : k < 1 ∨ 17 < k) : rB k = false := by
 unfold rB
 split <;> first | rfl | omega
theorem rC_out {k : Int} (h : k < 1 ∨ 17 < k) : rC k = false := by
 unfold rC
 split <;> first | rfl | omega
theorem rK_out {k : Int} (h : k < 1 ∨ 17 < k) : rK k = false := by
 unfold rK
 split <;> first | rfl | omega
theorem rN_out {k : Int} (h : k < 1 ∨ 17 < k) : rN k = false := by
 unfold rN
 split <;> first | rfl | omega
theorem rG_out {k : Int} (h : k < 1 ∨ 17 < k) : rG k = false := by
 unfold rG
 split <;> first | rfl | omega
theorem rO_out {k : Int} (h : k < 1 ∨ 17 < k) : rO k = false := by
 unfold rO
 split <;> first | rfl | omega
theorem needs_any (k : Int) (w : World) : Calls Tryz.prog 59 #[.int .i64 k] w fun e w' => e = .returned (.tuple #[.agg #[.int .i64 (nF k), .int .i64 (nS k), .string (nT k)], .bool (rO k)]) ∧ Below w.heap.size w w' := by
 rcases kinds k with h | h | h
 ·rw [nF_out (.inl h), nS_out (.inl h), nT_out (.inl h), rO_out (.inl h)]
  exact needs_low k h w
 ·rw [nF_out (.inr h), nS_out (.inr h), nT_out (.inr h), rO_out (.inr h)]
  exact needs_high k h w
 ·rcases h with rfl | rfl | rfl | rfl | rfl | rfl | rfl | rfl | rfl | rfl | rfl | rfl | rfl | rfl | rfl | rfl | rfl
  ·exact needs_1 w
  ·exact needs_2 w
  ·exact needs_3 w
  ·exact needs_4 w
  ·exact needs_5 w
  ·exact needs_6 w
  ·exact needs_7 w
  ·exact needs_8 w
  ·exact needs_9 w
  ·exact needs_10 w
  ·exact needs_11 w
  ·exact needs_12 w
  ·exact needs_13 w
  ·exact needs_14 w
  ·exact needs_15 w
  ·exact needs_16 w
  ·exact needs_17 w
theorem hasK (k : Int) (w : World) : Calls Tryz.prog 60 #[.agg #[.int .i64 (nF k), .int .i64 (nS k), .string (nT k)], .int .u8 107] w fun e w' => e = .returned (.bool (rK k)) ∧ Below w.heap.size w w' := by
 rcases kinds k with h | h | h
 ·rw [nF_out (.inl h), nS_out (.inl h), nT_out (.inl h), rK_out (.inl h)]
  exact nhas_none _ _ _ w
 ·rw [nF_out (.inr h), nS_out (.inr h), nT_out (.inr h), rK_out (.inr h)]
  exact nhas_none _ _ _ w
 ·rcases h with rfl | rfl | rfl | rfl | rfl | rfl | rfl | rfl | rfl | rfl | rfl | rfl | rfl | rfl | rfl | rfl | rfl
  ·exact nhas_k _ _ _ w
  ·exact nhas_none _ _ _ w
  ·exact nhas_a _ _ _ w
  ·exact nhas_ab _ _ _ w
  ·exact nhas_a _ _ _ w
  ·exact nhas_abc _ _ _ w
  ·exact nhas_abc _ _ _ w
  ·exact nhas_a _ _ _ w
  ·exact nhas_akn _ _ _ w
  ·exact nhas_abkn _ _ _ w
  ·exact nhas_kn _ _ _ w
  ·exact nhas_akn _ _ _ w
  ·exact nhas_akn _ _ _ w
  ·exact nhas_gkn _ _ _ w
  ·exact nhas_kn _ _ _ w
  ·exact nhas_an _ _ _ w
  ·exact nhas_none _ _ _ w
theorem hasN (k : Int) (w : World) : Calls Tryz.prog 60 #[.agg #[.int .i64 (nF k), .int .i64 (nS k), .string (nT k)], .int .u8 110] w fun e w' => e = .returned (.bool (rN k)) ∧ Below w.heap.size w w' := by
 rcases kinds k with h | h | h
 ·rw [nF_out (.inl h), nS_out (.inl h), nT_out (.inl h), rN_out (.inl h)]
  exact nhas_none _ _ _ w
 ·rw [nF_out (.inr h), nS_out (.inr h), nT_out (.inr h), rN_out (.inr h)]
  exact nhas_none _ _ _ w
 ·rcases h with rfl | rfl | rfl | rfl | rfl | rfl | rfl | rfl | rfl | rfl | rfl | rfl | rfl | rfl | rfl | rfl | rfl
  ·exact nhas_k _ _ _ w
  ·exact nhas_none _ _ _ w
  ·exact nhas_a _ _ _ w
  ·exact nhas_ab _ _ _ w
  ·exact nhas_a _ _ _ w
  ·exact nhas_abc _ _ _ w
  ·exact nhas_abc _ _ _ w
  ·exact nhas_a _ _ _ w
  ·exact nhas_akn _ _ _ w
  ·exact nhas_abkn _ _ _ w
  ·exact nhas_kn _ _ _ w
  ·exact nhas_akn _ _ _ w
  ·exact nhas_akn _ _ _ w
  ·exact nhas_gkn _ _ _ w
  ·exact nhas_kn _ _ _ w
  ·exact nhas_an _ _ _ w
  ·exact nhas_none _ _ _ w
theorem hasA (k : Int) (w : World) : Calls Tryz.prog 60 #[.agg #[.int .i64 (nF k), .int .i64 (nS k), .string (nT k)], .int .u8 97] w fun e w' => e = .returned (.bool (rA k)) ∧ Below w.heap.size w w' := by
 rcases kinds k with h | h | h
 ·rw [nF_out (.inl h), nS_out (.inl h), nT_out (.inl h), rA_out (.inl h)]
  exact nhas_none _ _ _ w
 ·rw [nF_out (.inr h), nS_out (.inr h), nT_out (.inr h), rA_out (.inr h)]
  exact nhas_none _ _ _ w
 ·rcases h with rfl | rfl | rfl | rfl | rfl | rfl | rfl | rfl | rfl | rfl | rfl | rfl | rfl | rfl | rfl | rfl | rfl
  ·exact nhas_k _ _ _ w
  ·exact nhas_none _ _ _ w
  ·exact nhas_a _ _ _ w
  ·exact nhas_ab _ _ _ w
  ·exact nhas_a _ _ _ w
  ·exact nhas_abc _ _ _ w
  ·exact nhas_abc _ _ _ w
  ·exact nhas_a _ _ _ w
  ·exact nhas_akn _ _ _ w
  ·exact nhas_abkn _ _ _ w
  ·exact nhas_kn _ _ _ w
  ·exact nhas_akn _ _ _ w
  ·exact nhas_akn _ _ _ w
  ·exact nhas_gkn _ _ _ w
  ·exact nhas_kn _ _ _ w
  ·exact nhas_an _ _ _ w
  ·exact nhas_none _ _ _ w
theorem hasB (k : Int) (w : World) : Calls Tryz.prog 60 #[.agg #[.int .i64 (nF k), .int .i64 (nS k), .string (nT k)], .int .u8 98] w fun e w' => e = .returned (.bool (rB k)) ∧ Below w.heap.size w w' := by
 rcases kinds k with h | h | h
 ·rw [nF_out (.inl h), nS_out (.inl h), nT_out (.inl h), rB_out (.inl h)]
  exact nhas_none _ _ _ w
 ·rw [nF_out (.inr h), nS_out (.inr h), nT_out (.inr h), rB_out (.inr h)]
  exact nhas_none _ _ _ w
 ·rcases h with rfl | rfl | rfl | rfl | rfl | rfl | rfl | rfl | rfl | rfl | rfl | rfl | rfl | rfl | rfl | rfl | rfl
  ·exact nhas_k _ _ _ w
  ·exact nhas_none _ _ _ w
  ·exact nhas_a _ _ _ w
  ·exact nhas_ab _ _ _ w
  ·exact nhas_a _ _ _ w
  ·exact nhas_abc _ _ _ w
  ·exact nhas_abc _ _ _ w
  ·exact nhas_a _ _ _ w
  ·exact nhas_akn _ _ _ w
  ·exact nhas_abkn _ _ _ w
  ·exact nhas_kn _ _ _ w
  ·exact nhas_akn _ _ _ w
  ·exact nhas_akn _ _ _ w
  ·exact nhas_gkn _ _ _ w
  ·exact nhas_kn _ _ _ w
  ·exact nhas_an _ _ _ w
  ·exact nhas_none _ _ _ w
theorem hasC (k : Int) (w : World) : Calls Tryz.prog 60 #[.agg #[.int .i64 (nF k), .int .i64 (nS k), .string (nT k)], .int .u8 99] w fun e w' => e = .returned (.bool (rC k)) ∧ Below w.heap.size w w' := by
 rcases kinds k with h | h | h
 ·rw [nF_out (.inl h), nS_out (.inl h), nT_out (.inl h), rC_out (.inl h)]
  exact nhas_none _ _ _ w
 ·rw [nF_out (.inr h), nS_out (.inr h), nT_out (.inr h), rC_out (.inr h)]
  exact nhas_none _ _ _ w
 ·rcases h with rfl | rfl | rfl | rfl | rfl | rfl | rfl | rfl | rfl | rfl | rfl | rfl | rfl | rfl | rfl | rfl | rfl
  ·exact nhas_k _ _ _ w
  ·exact nhas_none _ _ _ w
  ·exact nhas_a _ _ _ w
  ·exact nhas_ab _ _ _ w
  ·exact nhas_a _ _ _ w
  ·exact nhas_abc _ _ _ w
  ·exact nhas_abc _ _ _ w
  ·exact nhas_a _ _ _ w
  ·exact nhas_akn _ _ _ w
  ·exact nhas_abkn _ _ _ w
  ·exact nhas_kn _ _ _ w
  ·exact nhas_akn _ _ _ w
  ·exact nhas_akn _ _ _ w
  ·exact nhas_gkn _ _ _ w
  ·exact nhas_kn _ _ _ w
  ·exact nhas_an _ _ _ w
  ·exact nhas_none _ _ _ w
theorem hasG (k : Int) (w : World) : Calls Tryz.prog 60 #[.agg #[.int .i64 (nF k), .int .i64 (nS k), .string (nT k)], .int .u8 103] w fun e w' => e = .returned (.bool (rG k)) ∧ Below w.heap.size w w' := by
 rcases kinds k with h | h | h
 ·rw [nF_out (.inl h), nS_out (.inl h), nT_out (.inl h), rG_out (.inl h)]
  exact nhas_none _ _ _ w
 ·rw [nF_out (.inr h), nS_out (.inr h), nT_out (.inr h), rG_out (.inr h)]
  exact nhas_none _ _ _ w
 ·rcases h with rfl | rfl | rfl | rfl | rfl | rfl | rfl | rfl | rfl | rfl | rfl | rfl | rfl | rfl | rfl | rfl | rfl
  ·exact nhas_k _ _ _ w
  ·exact nhas_none _ _ _ w
  ·exact nhas_a _ _ _ w
  ·exact nhas_ab _ _ _ w
  ·exact nhas_a _ _ _ w
  ·exact nhas_abc _ _ _ w
  ·exact nhas_abc _ _ _ w
  ·exact nhas_a _ _ _ w
  ·exact nhas_akn _ _ _ w
  ·exact nhas_abkn _ _ _ w
  ·exact nhas_kn _ _ _ w
  ·exact nhas_akn _ _ _ w
  ·exact nhas_akn _ _ _ w
  ·exact nhas_gkn _ _ _ w
  ·exact nhas_kn _ _ _ w
  ·exact nhas_an _ _ _ w
  ·exact nhas_none _ _ _ w
open Kt
def opE (os : List Opr) (cnt : Int) (i : Nat) (o : Opr) : Int :=
 oerr (e2 (rO o.k) (rS o.k) o.k o.w) (e4 (rK o.k) (rN o.k) cnt o.kn o.n) (e6 (rA o.k) (rB o.k) (rC o.k) (rG o.k) o.a o.b o.c) (e8 (rG o.k) o.b)
  (e10 (rA o.k) (rB o.k) (rC o.k) (gvn os i o.a) (gvn os i o.b) (gvn os i o.c)) (e12 (rF o.k) (decide ((i : Int) < (os.length : Int) - 1)))
def errAt (os : List Opr) (cnt : Int) (i : Nat) : Int := match os[i]? with
 | some o => opE os cnt i o
 | none => 0
def lastOf (os : List Opr) : Bool := match os[os.length - 1]? with
 | some o => rF o.k
 | none => false
/-- what is told of the last so many -/
def scan (os : List Opr) (cnt : Int) : Nat → Int × Int
 | 0 => if lastOf os then (0, 0) else (7, os.length)
 | n + 1 => if errAt os cnt (os.length - (n + 1)) == 0 then scan os cnt n else (errAt os cnt (os.length - (n + 1)), ((os.length - (n + 1) : Nat) : Int))
def chk (os : List Opr) (cnt byt : Int) : Int × Int :=
 if 2048 < os.length then (5, -1) else if cnt < 0 ∨ 64 < cnt ∨ byt < 0 ∨ 384 < byt then (4, -1) else scan os cnt os.length
def Boxed (b : Nat) (X : Array Value) (w : World) : Prop := b < w.heap.size ∧ ∀ (j : Nat) v, X[j]? = some v → w.cell? ⟨b, j, none⟩ = some v
theorem Boxed.keep {b : Nat} {X : Array Value} {w w' : World} (h : Boxed b X w) (hb : Below w.heap.size w w') : Boxed b X w' :=
 ⟨Nat.lt_of_lt_of_le h.1 hb.size, fun j v hj => (hb.cell (p := ⟨b, j, none⟩) h.1).trans (h.2 j v hj)⟩
theorem Boxed.new (w : World) (X : Array Value) (t : TypeId) : Boxed w.heap.size X (w.alloc (.cells X t)) := ⟨by simp, fun j v hj => (cell_new w X t j).trans hj⟩
theorem scan_step {os : List Opr} {cnt : Int} {j : Nat} (hj : j < os.length) (h : errAt os cnt j = 0) : scan os cnt (os.length - j) = scan os cnt (os.length - (j + 1)) := by
 obtain ⟨n, hn⟩ : ∃ n, os.length - j = n + 1 := ⟨os.length - j - 1, by omega⟩
 have e : os.length - (n + 1) = j := by omega
 rw [hn, show os.length - (j + 1) = n by omega, scan, e, if_pos (by simp [h])]
theorem scan_bad {os : List Opr} {cnt : Int} {j : Nat} (hj : j < os.length) (h : errAt os cnt j ≠ 0) : scan os cnt (os.length - j) = (errAt os cnt j, (j : Int)) := by
 obtain ⟨n, hn⟩ : ∃ n, os.length - j = n + 1 := ⟨os.length - j - 1, by omega⟩
 have e : os.length - (n + 1) = j := by omega
 rw [hn, scan, e, if_neg (by simpa using h)]
def errs (p : Int × Int) : Value := .tuple #[.int .i64 p.1, .int .i64 p.2]
end Go.Proofs.YtcjcmnnhmajocabGreat.Ic
namespace Go.Proofs.YtcjcmnnhmajocabGreat.Ot
open Go.RowKit Kt Ic Me Ev
theorem rA_t (k : Int) : rA k = tA k := by
 rcases kinds k with h | h | h
 ·unfold rA tA; rw [decide_eq_false (by omega)]; split <;> first | omega | rfl
 ·unfold rA tA; rw [decide_eq_false (by omega)]; split <;> first | omega | rfl
 ·rcases h with rfl | rfl | rfl | rfl | rfl | rfl | rfl | rfl | rfl | rfl | rfl | rfl | rfl | rfl | rfl | rfl | rfl <;> rfl
theorem rB_t (k : Int) : rB k = tB k := by
 rcases kinds k with h | h | h
 ·unfold rB tB; rw [decide_eq_false (by omega)]; split <;> first | omega | rfl
 ·unfold rB tB; rw [decide_eq_false (by omega)]; split <;> first | omega | rfl
 ·rcases h with rfl | rfl | rfl | rfl | rfl | rfl | rfl | rfl | rfl | rfl | rfl | rfl | rfl | rfl | rfl | rfl | rfl <;> rfl
theorem rC_t (k : Int) : rC k = tC k := by
 rcases kinds k with h | h | h
 ·unfold rC tC; rw [decide_eq_false (by omega)]; split <;> first | omega | rfl
 ·unfold rC tC; rw [decide_eq_false (by omega)]; split <;> first | omega | rfl
 ·rcases h with rfl | rfl | rfl | rfl | rfl | rfl | rfl | rfl | rfl | rfl | rfl | rfl | rfl | rfl | rfl | rfl | rfl <;> rfl
/-- an operation by itself -/
def locB (cnt : Int) (o : Opr) : Bool := !e2 (rO o.k) (rS o.k) o.k o.w && (!e4 (rK o.k) (rN o.k) cnt o.kn o.n && (!e6 (rA o.k) (rB o.k) (rC o.k) (rG o.k) o.a o.b o.c && !e8 (rG o.k) o.b))
/-- what it takes, as it stands behind so many -/
def tkB (os : List Opr) (i : Nat) (o : Opr) : Bool := !e10 (rA o.k) (rB o.k) (rC o.k) (gvn os i o.a) (gvn os i o.b) (gvn os i o.c)
theorem opE_0 {os : List Opr} {cnt : Int} {i : Nat} {o : Opr} : opE os cnt i o = 0 ↔ locB cnt o = true ∧ tkB os i o = true ∧ (rF o.k = true → ¬ (i : Int) < (os.length : Int) - 1) := by
 unfold opE locB tkB e12 oerr
 generalize e2 (rO o.k) (rS o.k) o.k o.w = x2
 generalize e4 (rK o.k) (rN o.k) cnt o.kn o.n = x4
 generalize e6 (rA o.k) (rB o.k) (rC o.k) (rG o.k) o.a o.b o.c = x6
 generalize e8 (rG o.k) o.b = x8
 generalize e10 (rA o.k) (rB o.k) (rC o.k) (gvn os i o.a) (gvn os i o.b) (gvn os i o.c) = x10
 generalize rF o.k = f
 by_cases h : (i : Int) < (os.length : Int) - 1
 ·rw [decide_eq_true h]
  cases x2 <;> cases x4 <;> cases x6 <;> cases x8 <;> cases x10 <;> cases f <;> simp [h]
 ·rw [decide_eq_false h]
  cases x2 <;> cases x4 <;> cases x6 <;> cases x8 <;> cases x10 <;> cases f <;> simp [h]
/-- an operation in its bounds -/
structure Loc (cnt : Int) (o : Opr) : Prop where
 r : OkR o
 e : locB cnt o = true
theorem Loc.k {cnt : Int} {o : Opr} (h : Loc cnt o) : 1 ≤ o.k ∧ o.k ≤ 17 := by
 have := h.e
 unfold locB e2 at this
 simp only [Bool.and_eq_true, Bool.not_eq_true', Bool.or_eq_false_iff, Bool.not_eq_false'] at this
 have h1 := this.1.1
 unfold rO at h1
 split at h1 <;> first | omega | exact absurd h1 (by decide)
theorem Loc.w {cnt : Int} {o : Opr} (h : Loc cnt o) : 0 ≤ o.w ∧ o.w < max (rS o.k) 1 ∧ ((o.k = 14 ∨ o.k = 13) → o.w ≠ 0) := by
 have := h.e
 unfold locB e2 at this
 simp only [Bool.and_eq_true, Bool.not_eq_true', Bool.or_eq_false_iff, decide_eq_false_iff_not, Bool.and_eq_false_iff] at this
 obtain ⟨⟨_, h1, h2, h3⟩, _⟩ := this
 refine ⟨by omega, by omega, fun hk hw => ?_⟩
 rcases h3 with h3 | h3
 ·simp at h3; omega
 ·simp at h3; exact h3 hw
theorem Loc.n {cnt : Int} {o : Opr} (h : Loc cnt o) : 0 ≤ o.n ∧ o.n ≤ cnt ∧ (rN o.k = false → o.n = 0) ∧ (rK o.k = false → o.kn = 0) := by
 have := h.e
 unfold locB e4 at this
 simp only [Bool.and_eq_true, Bool.not_eq_true', Bool.or_eq_false_iff, decide_eq_false_iff_not, Bool.and_eq_false_iff] at this
 obtain ⟨_, ⟨h1, h2, h3, h4⟩, _⟩ := this
 refine ⟨by omega, by omega, fun hk => ?_, fun hk => ?_⟩
 ·rw [hk] at h2; simpa using h2
 ·rw [hk] at h1; simpa using h1
theorem kindAt_op (os : List Opr) (t : Nat) : kindAt os t = (opAt os t).k := by
 unfold kindAt opAt
 rw [List.getD_eq_getElem?_getD]
 cases os[t]? <;> rfl
/-- a value among what was put -/
def GV (ops : List Opr) (x : Int) : Prop := 0 ≤ x ∧ x < ops.length ∧ gv (opAt ops x.toNat).k = true
theorem gvn_GV {os : List Opr} {i : Nat} {x : Int} (hi : i ≤ os.length) : gvn os i x = true ↔ (0 ≤ x ∧ x < i ∧ gv (opAt os x.toNat).k = true) := by
 unfold gvn
 rw [kindAt_op]
 simp [and_assoc]
theorem opAt_app_l {a b : List Opr} {t : Nat} (h : t < a.length) : opAt (a ++ b) t = opAt a t := by
 unfold opAt
 rw [List.getD_eq_getElem?_getD, List.getD_eq_getElem?_getD, List.getElem?_append_left h]
theorem opAt_app_r (a : List Opr) (x : Opr) : opAt (a ++ [x]) a.length = x := by
 unfold opAt
 rw [List.getD_eq_getElem?_getD, List.getElem?_append_right (Nat.le_refl _), Nat.sub_self]; rfl
theorem GV.app {ops : List Opr} {x : Int} (h : GV ops x) (y : Opr) : GV (ops ++ [y]) x := by
 obtain ⟨h1, h2, h3⟩ := h
 exact ⟨h1, by rw [List.length_append]; omega, by rw [opAt_app_l (by omega)]; exact h3⟩
theorem GV.new (ops : List Opr) (y : Opr) (h : gv y.k = true) : GV (ops ++ [y]) (ops.length : Int) :=
 ⟨by omega, by rw [List.length_append, List.length_singleton]; omega, by rw [Int.toNat_natCast, opAt_app_r]; exact h⟩
/-- what it takes is there -/
def TK (ops : List Opr) (o : Opr) : Prop := ∀ j, j < 3 → isR o.k j = true → GV ops (ar o j)
/-- all that was put is a block's -/
structure AtAll (cnt : Int) (ops : List Opr) : Prop where
 l : ∀ m, m < ops.length → Loc cnt (opAt ops m)
 t : ∀ m, m < ops.length → ∀ j, j < 3 → isR (opAt ops m).k j = true → 0 ≤ ar (opAt ops m) j ∧ ar (opAt ops m) j < m ∧ gv (opAt ops (ar (opAt ops m) j).toNat).k = true
theorem AtAll.nil (cnt : Int) : AtAll cnt [] := ⟨fun m h => absurd h (Nat.not_lt_zero _), fun m h => absurd h (Nat.not_lt_zero _)⟩
theorem AtAll.app {cnt : Int} {ops : List Opr} (h : AtAll cnt ops) {x : Opr} (hl : Loc cnt x) (ht : TK ops x) : AtAll cnt (ops ++ [x]) := by
 have hlen : (ops ++ [x]).length = ops.length + 1 := by simp
 refine ⟨fun m hm => ?_, fun m hm j hj hr => ?_⟩
 ·rw [hlen] at hm
  by_cases e : m < ops.length
  ·rw [opAt_app_l e]; exact h.l m e
  ·obtain rfl : m = ops.length := by omega
   rw [opAt_app_r]; exact hl
 ·rw [hlen] at hm
  by_cases e : m < ops.length
  ·rw [opAt_app_l e] at hr ⊢
   obtain ⟨h1, h2, h3⟩ := h.t m e j hj hr
   exact ⟨h1, h2, by rw [opAt_app_l (by omega)]; exact h3⟩
  ·obtain rfl : m = ops.length := by omega
   rw [opAt_app_r] at hr ⊢
   obtain ⟨h1, h2, h3⟩ := ht j hj hr
   exact ⟨h1, h2, by rw [opAt_app_l (by omega)]; exact h3⟩
/-- a block's operations -/
structure Good (cnt : Int) (os : List Opr) : Prop where
 n0 : 0 < os.length
 n1 : os.length ≤ 2048
 c : 0 ≤ cnt ∧ cnt ≤ 64
 a : AtAll cnt os
 f : ∀ m, m < os.length → (rF (opAt os m).k = true ↔ m + 1 = os.length)
theorem TKb {os : List Opr} {i : Nat} {o : Opr} (hi : i ≤ os.length) : tkB os i o = true ↔ ∀ j, j < 3 → isR o.k j = true → 0 ≤ ar o j ∧ ar o j < i ∧ gv (opAt os (ar o j).toNat).k = true := by
 unfold tkB e10
 rw [rA_t, rB_t, rC_t]
 simp only [Bool.not_or, Bool.not_and, Bool.not_not, Bool.and_eq_true, Bool.or_eq_true, Bool.not_eq_true']
 constructor
 ·rintro ⟨h1, h2, h3⟩ j hj hr
  rcases (show j = 0 ∨ j = 1 ∨ j = 2 by omega) with rfl | rfl | rfl
  ·have hr' : tA o.k = true := hr
   exact (gvn_GV hi).1 (h1.resolve_left (by rw [hr']; decide))
  ·have hr' : tB o.k = true := hr
   exact (gvn_GV hi).1 (h2.resolve_left (by rw [hr']; decide))
  ·have hr' : tC o.k = true := hr
   exact (gvn_GV hi).1 (h3.resolve_left (by rw [hr']; decide))
 ·intro h
  refine ⟨?_, ?_, ?_⟩
  ·cases e : tA o.k with
   | false => exact .inl rfl
   | true => exact .inr ((gvn_GV hi).2 (h 0 (by decide) e))
  ·cases e : tB o.k with
   | false => exact .inl rfl
   | true => exact .inr ((gvn_GV hi).2 (h 1 (by decide) e))
  ·cases e : tC o.k with
   | false => exact .inl rfl
   | true => exact .inr ((gvn_GV hi).2 (h 2 (by decide) e))
theorem errAt_op {os : List Opr} {cnt : Int} {i : Nat} (h : i < os.length) : errAt os cnt i = opE os cnt i (opAt os i) := by
 unfold errAt opAt
 rw [List.getD_eq_getElem?_getD, List.getElem?_eq_getElem h]; rfl
theorem lastOf_op {os : List Opr} (h : 0 < os.length) : lastOf os = rF (opAt os (os.length - 1)).k := by
 unfold lastOf opAt
 rw [List.getD_eq_getElem?_getD, List.getElem?_eq_getElem (by omega)]; rfl
theorem scan_0 {os : List Opr} {cnt : Int} : ∀ n, n ≤ os.length → ((scan os cnt n).1 = 0 ↔ (∀ k, k < n → errAt os cnt (os.length - (k + 1)) = 0) ∧ lastOf os = true)
 | 0, _ => by
  unfold scan
  cases lastOf os with
  | true => simp
  | false => simp
 | n + 1, hn => by
  unfold scan
  by_cases e : errAt os cnt (os.length - (n + 1)) = 0
  ·rw [if_pos (by simp [e]), scan_0 n (by omega)]
   constructor
   ·rintro ⟨h1, h2⟩
    refine ⟨fun k hk => ?_, h2⟩
    by_cases hkn : k = n
    ·rw [hkn]; exact e
    ·exact h1 k (by omega)
   ·rintro ⟨h1, h2⟩
    exact ⟨fun k hk => h1 k (by omega), h2⟩
  ·rw [if_neg (by simpa using e)]
   exact ⟨fun h => absurd h e, fun h => absurd (h.1 n (by omega)) e⟩
/-- what the check says yes to -/
theorem chk_good {os : List Opr} {cnt byt : Int} (hr : ∀ o ∈ os, OkR o) : (chk os cnt byt).1 = 0 ↔ Good cnt os ∧ 0 ≤ byt ∧ byt ≤ 384 := by
 have hro : ∀ i, i < os.length → OkR (opAt os i) := fun i hi => by
  unfold opAt
  rw [List.getD_eq_getElem?_getD, List.getElem?_eq_getElem hi]
  exact hr _ (List.getElem_mem hi)
 unfold chk
 by_cases h1 : 2048 < os.length
 ·rw [if_pos h1]
  exact ⟨fun h => absurd h (by decide), fun h => absurd h.1.n1 (by omega)⟩
 rw [if_neg h1]
 by_cases h2 : cnt < 0 ∨ 64 < cnt ∨ byt < 0 ∨ 384 < byt
 ·rw [if_pos h2]
  exact ⟨fun h => absurd h (by decide), fun h => by have := h.1.c; omega⟩
 rw [if_neg h2, scan_0 _ (Nat.le_refl _)]
 constructor
 ·rintro ⟨h3, h4⟩
  have h0 : 0 < os.length := by
   rcases Nat.eq_zero_or_pos os.length with e | e
   ·unfold lastOf at h4
    rw [List.getElem?_eq_none (by omega)] at h4
    exact absurd h4 (by decide)
   ·exact e
  have h5 : ∀ i, i < os.length → opE os cnt i (opAt os i) = 0 := fun i hi => by
   have := h3 (os.length - (i + 1)) (by omega)
   rw [show os.length - (os.length - (i + 1) + 1) = i by omega, errAt_op hi] at this
   exact this
  refine ⟨⟨h0, by omega, by omega, ⟨fun m hm => ⟨hro m hm, (opE_0.1 (h5 m hm)).1⟩, fun m hm => (TKb (by omega)).1 (opE_0.1 (h5 m hm)).2.1⟩, fun m hm => ⟨fun h => ?_, fun h => ?_⟩⟩, by omega, by omega⟩
  ·have := (opE_0.1 (h5 m hm)).2.2 h; omega
  ·rw [lastOf_op h0] at h4
   rw [show m = os.length - 1 by omega]; exact h4
 ·rintro ⟨g, h4, h5⟩
  refine ⟨fun k hk => ?_, ?_⟩
  ·rw [errAt_op (by omega)]
   exact opE_0.2 ⟨(g.a.l _ (by omega)).e, (TKb (by omega)).2 (g.a.t _ (by omega)), fun h => by have := (g.f _ (by omega)).1 h; omega⟩
  ·rw [lastOf_op g.n0]
   exact (g.f _ (by have := g.n0; omega)).2 (by have := g.n0; omega)
theorem mem_opAt {ops : List Opr} {x : Opr} (h : x ∈ ops) : ∃ m, m < ops.length ∧ opAt ops m = x := by
 obtain ⟨m, hm, e⟩ := List.getElem_of_mem h
 exact ⟨m, hm, by unfold opAt; rw [List.getD_eq_getElem?_getD, List.getElem?_eq_getElem hm]; exact e⟩
/-- what is put so far: no end among it -/
structure Pre (cnt : Int) (ops : List Opr) : Prop where
 a : AtAll cnt ops
 f : ∀ m, m < ops.length → rF (opAt ops m).k = false
theorem Pre.app {cnt : Int} {ops : List Opr} (h : Pre cnt ops) {x : Opr} (hl : Loc cnt x) (ht : TK ops x) (hf : rF x.k = false) : Pre cnt (ops ++ [x]) := by
 refine ⟨h.a.app hl ht, fun m hm => ?_⟩
 rw [List.length_append, List.length_singleton] at hm
 by_cases e : m < ops.length
 ·rw [opAt_app_l e]; exact h.f m e
 ·obtain rfl : m = ops.length := by omega
  rw [opAt_app_r]; exact hf
/-- at most one more -/
structure Gr (cnt : Int) (s s' : Wk) : Prop where
 p : Pre cnt s'.ops
 n : s'.ops.length ≤ s.ops.length + 1
 tt : s'.to = s.to
 g : ∀ x, GV s.ops x → GV s'.ops x
theorem Gr.refl {cnt : Int} {s : Wk} (h : Pre cnt s.ops) : Gr cnt s s := ⟨h, by omega, rfl, fun _ h => h⟩
theorem Gr.put {cnt : Int} {s : Wk} (h : Pre cnt s.ops) {x : Opr} (hl : Loc cnt x) (ht : TK s.ops x) (hf : rF x.k = false) : Gr cnt s (s.put x) :=
 ⟨h.app hl ht hf, by show (s.ops ++ [x]).length ≤ _; simp, rfl, fun _ h => h.app x⟩
theorem i6 (x : Int) (h : -1 ≤ x ∧ x ≤ 5000000000) : I6 x := by unfold I6; omega
theorem tk_none {ops : List Opr} {o : Opr} (h : tA o.k = false) (h2 : tB o.k = false) (h3 : tC o.k = false) : TK ops o := fun j hj hr => by
 rcases (show j = 0 ∨ j = 1 ∨ j = 2 by omega) with rfl | rfl | rfl
 ·exact absurd (show tA o.k = true from hr) (by rw [h]; decide)
 ·exact absurd (show tB o.k = true from hr) (by rw [h2]; decide)
 ·exact absurd (show tC o.k = true from hr) (by rw [h3]; decide)
theorem GV.i6 {ops : List Opr} {x : Int} (h : GV ops x) (hn : ops.length ≤ 2048) : I6 x := by
 obtain ⟨h1, h2, _⟩ := h
 unfold I6; omega
theorem Loc.flg {cnt : Int} (hc : 0 ≤ cnt) {w a b c : Int} (hw : 0 ≤ w ∧ w ≤ 12) (ha : I6 a) (hb : I6 b) (hcc : I6 c) : Loc cnt ⟨7, w, a, b, c, 0, 0⟩ := by
 refine ⟨⟨i6 7 (by decide), i6 w (by omega), ha, hb, hcc, ⟨Int.le_refl 0, (by decide : (0 : Int) < 4294967296)⟩, i6 0 (by decide)⟩, ?_⟩
 unfold locB e2 e4 e6 e8
 dsimp only [rO, rS, rK, rN, rA, rB, rC, rG]
 have e : decide (cnt < 0) = false := decide_eq_false (by omega)
 have e1 : decide (w < 0) = false := decide_eq_false (by omega)
 have e2 : decide (max 13 1 ≤ w) = false := decide_eq_false (by omega)
 simp [e, e1, e2]
/-- the walk at its end -/
structure FE (cnt : Int) (n : Nat) (ops : List Opr) : Prop where
 a : AtAll cnt ops
 f : ∀ m, m < ops.length → (rF (opAt ops m).k = true ↔ m + 1 = ops.length)
 n0 : 0 < ops.length
 n : ops.length ≤ n
theorem FE.put {cnt : Int} {n : Nat} {ops : List Opr} (h : Pre cnt ops) (hn : ops.length ≤ n) {x : Opr} (hl : Loc cnt x) (ht : TK ops x) (hf : rF x.k = true) : FE cnt (n + 1) (ops ++ [x]) := by
 have e : (ops ++ [x]).length = ops.length + 1 := by simp
 refine ⟨h.a.app hl ht, fun m hm => ?_, by omega, by omega⟩
 rw [e] at hm ⊢
 by_cases em : m < ops.length
 ·rw [opAt_app_l em, h.f m em]
  exact ⟨fun h => absurd h (by decide), fun h => by omega⟩
 ·obtain rfl : m = ops.length := by omega
  rw [opAt_app_r]
  exact ⟨fun _ => rfl, fun _ => hf⟩
end Go.Proofs.YtcjcmnnhmajocabGreat.Ot
namespace Go.Proofs.YtcjcmnnhmajocabGreat.Lf
open Go.RowKit Kt Ic Me
/-- a block under way -/
structure Lk where
 ops : List Opr
 bpc : Int
 cnt : Int
 byt : Int
 pc : Int
 nx : Int
 reg : Nat → Int
 kn : Bool
 kd : Int
 fa : Int
 fb : Int
 fo : Int
def w32 (x : Int) : Int := x % 4294967296
def Lk.n (s : Lk) : Int := s.ops.length
def Lk.put (s : Lk) (o : Opr) : Lk := { s with ops := s.ops ++ [o] }
def Lk.P (s : Lk) (o : Opr) : Int × Lk := (s.n, s.put o)
def Lk.K (s : Lk) (x : Int) : Int × Lk := s.P ⟨1, 0, 0, 0, 0, x, 0⟩
def Lk.B (s : Lk) (w a b : Int) : Int × Lk := s.P ⟨4, w, a, b, 0, 0, 0⟩
def Lk.U (s : Lk) (w a : Int) : Int × Lk := s.P ⟨5, w, a, 0, 0, 0, 0⟩
def Lk.S (s : Lk) (a b c : Int) : Int × Lk := s.P ⟨6, 0, a, b, c, 0, 0⟩
def Lk.slot (s : Lk) (w a : Int) : Lk := s.put ⟨3, w, a, 0, 0, 0, 0⟩
def Lk.add (s : Lk) (a n : Int) : Int × Lk := (s.K (w32 n)).2.B 0 a (s.K (w32 n)).1
def Lk.setR (s : Lk) (r : Nat) (a : Int) : Lk := { s with reg := upd s.reg r a }
def Lk.get (s : Lk) (r : Nat) : Int × Lk := if s.reg r < 0 then (s.n, (s.put ⟨2, r, 0, 0, 0, 0, 0⟩).setR r s.n) else (s.reg r, s)
def Lk.set (s : Lk) (r : Nat) (a : Int) : Lk := (s.setR r a).slot r a
def Lk.load (s : Lk) (w a : Int) : Int × Lk := s.P ⟨9, w, a, 0, 0, s.pc, s.cnt - 1⟩
def Lk.store (s : Lk) (w a b : Int) : Lk := s.put ⟨10, w, a, b, 0, s.pc, s.cnt - 1⟩
def Lk.watch (s : Lk) : Lk := s.put ⟨11, 0, 0, 0, 0, s.nx, s.cnt⟩
def Lk.goes (s : Lk) (t : Int) : Lk := s.put ⟨15, 0, 0, 0, 0, t, s.cnt⟩
def Lk.goesTo (s : Lk) (a : Int) : Lk := s.put ⟨16, 0, a, 0, 0, 0, s.cnt⟩
def Lk.setF (s : Lk) (k a b o : Int) : Lk := { s with kn := true, kd := k, fa := a, fb := b, fo := o }
/-- the flags are known -/
def Lk.now0 (s : Lk) : Lk := if s.kn then s else (s.put ⟨17, 0, 0, 0, 0, 0, 0⟩).setF 0 (-1) (-1) s.n
/-- a value, or the zero of this call: (value, the zero, the block) -/
def Lk.some (s : Lk) (z t : Int) : Int × Int × Lk := if 0 ≤ t then (t, z, s) else if z < 0 then (s.n, s.n, (s.K 0).2) else (z, z, s)
def Lk.s1 (s : Lk) : Int × Int × Lk := s.some (-1) s.fa
def Lk.s2 (s : Lk) : Int × Int × Lk := s.s1.2.2.some s.s1.2.1 s.fb
def Lk.s3 (s : Lk) : Int × Int × Lk := s.s2.2.2.some s.s2.2.1 s.fo
def Lk.nowF (s : Lk) : Int × Lk := if s.kd = 0 then (s.fo, s) else s.s3.2.2.P ⟨7, s.kd, s.s1.1, s.s2.1, s.s3.1, 0, 0⟩
def Lk.now (s : Lk) : Int × Lk := s.now0.nowF
def Lk.holds (s : Lk) (c : Int) : Int × Lk := s.now.2.P ⟨8, c, s.now.1, 0, 0, 0, 0⟩
def Lk.slotIf (s : Lk) (w t : Int) : Lk := if 0 ≤ t then s.slot w t else s
def Lk.flag (s : Lk) (k a b o : Int) : Lk := ((((((s.setF k a b o).K (w32 k)).2.slot 8 s.n).slotIf 9 a).slotIf 10 b).slotIf 11 o)
def Lk.push (s : Lk) (a : Int) : Lk :=
 let g := s.get 7
 let d := g.2.add g.1 (-4)
 (d.2.store 2 d.1 a).set 7 d.1
def Lk.pop (s : Lk) : Int × Lk :=
 let g := s.get 7
 let v := g.2.load 4 g.1
 let u := v.2.add g.1 4
 (v.1, u.2.set 7 u.1)
def Lk.whr (s : Lk) (r : Nat) (m : Int) : Int × Lk :=
 let g := s.get r
 let k := g.2.K m
 k.2.B 0 g.1 k.1
/-- which operation a kind of arithmetic is; how its flags are made -/
def way (o : Int) : Int × Int :=
 if o = 0 then (0, 1) else if o = 2 then (1, 3) else if o = 7 then (1, 3) else if o = 13 then (9, 10) else if o = 4 then (2, 5) else if o = 5 then (3, 5) else if o = 6 then (4, 5) else if o = 8 then (2, 5)
 else if o = 14 then (11, 5) else if o = 15 then (12, 5) else if o = 9 then (5, 6) else if o = 10 then (6, 7) else if o = 11 then (7, 8) else if o = 12 then (8, 9) else (0, 0)
def Lk.carr (s : Lk) (o : Int) (d : Nat) (a b : Int) : Lk :=
 let f := s.now
 let k2 := f.2.K 2
 let sh := k2.2.B 6 f.1 k2.1
 let k1 := sh.2.K 1
 let c := k1.2.B 2 sh.1 k1.1
 let w := if o = 3 then 1 else 0
 let x := c.2.B w a b
 let y := x.2.B w x.1 c.1
 (y.2.set d y.1).flag (if o = 3 then 4 else 2) a b f.1
def Lk.alu (s : Lk) (o : Int) (d : Nat) (b : Int) : Lk :=
 let g := s.get d
 if o = 1 ∨ o = 3 then g.2.carr o d g.1 b else
 let s1 := if o = 14 ∨ o = 15 then (let u := g.2.U 6 b; u.2.put ⟨13, 7, u.1, 0, 0, s.pc, s.cnt - 1⟩) else g.2
 let s2 := if 6 ≤ (way o).2 ∧ (way o).2 ≤ 9 then s1.now else (-1, s1)
 let v := if o ≠ 7 then s2.2.B (way o).1 g.1 b else (0, s2.2)
 let s3 := if o ≠ 7 ∧ o ≠ 8 then v.2.set d v.1 else v.2
 s3.flag (way o).2 (if (way o).2 = 5 then v.1 else g.1) (if (way o).2 = 5 then -1 else b) s2.1
def Lk.both (s : Lk) (o : Int) (d r : Nat) (m : Int) : Lk :=
 let at_ := s.whr r m
 let g := at_.2.get d
 let v := g.2.load 4 at_.1
 if o = 24 then (v.2.store 2 at_.1 g.1).set d v.1
 else if o = 25 then (let x := v.2.B 0 v.1 g.1; ((x.2.store 2 at_.1 x.1).set d v.1).flag 1 v.1 g.1 (-1))
 else (let c := v.2.get 0; let e := c.2.B 13 c.1 v.1; let x := e.2.S e.1 g.1 v.1; ((x.2.store 2 at_.1 x.1).set 0 v.1).flag 3 c.1 v.1 (-1))
/-- instructions without jumps and stacks -/
def Lk.plain (s : Lk) (o : Int) (d r : Nat) (f m : Int) : Bool × Lk :=
 if o = 0 then (true, s)
 else if o = 16 then (let k := s.K m; (true, k.2.set d k.1))
 else if o = 17 ∨ o = 18 then (let g := s.get d; let w := g.2.now; let x := w.2.add g.1 (if o = 18 then -1 else 1); (true, (x.2.set d x.1).flag (if o = 18 then 12 else 11) g.1 (-1) w.1))
 else if o = 19 then (let g := s.get d; let z := g.2.K 0; let x := z.2.U 1 g.1; (true, (x.2.set d x.1).flag 3 z.1 g.1 (-1)))
 else if o = 20 then (let g := s.get d; let x := g.2.U 0 g.1; (true, x.2.set d x.1))
 else if o = 21 then (let h := s.holds f; (true, h.2.set d h.1))
 else if o = 22 then (let g := s.get r; (true, g.2.set d g.1))
 else if o = 23 then (let w := s.whr r m; (true, w.2.set d w.1))
 else if o = 27 then (let g := s.get r; (true, g.2.alu f d g.1))
 else if o = 28 ∨ o = 29 then (let k := s.K m; (true, k.2.alu f d k.1))
 else if o = 30 then (let w := s.whr r m; let v := w.2.load f w.1; (true, v.2.set d v.1))
 else if o = 31 then (let w := s.whr r m; let g := w.2.get d; (true, (g.2.store f w.1 g.1).watch))
 else if o = 24 ∨ o = 25 ∨ o = 26 then (true, (s.both o d r m).watch)
 else (false, s)
def Lk.moves (s : Lk) (o : Int) (d r : Nat) (f m : Int) : Lk :=
 if o = 1 then s.put ⟨14, 2, 0, 0, 0, s.pc, s.cnt - 1⟩
 else if o = 5 then s.put ⟨14, 1, 0, m, 0, s.nx, s.cnt⟩
 else if o = 6 ∨ o = 7 then s.goes (w32 (s.nx + m))
 else if o = 12 ∨ o = 13 then (let h := s.holds f; (h.2.put ⟨12, 0, h.1, 0, 0, w32 (s.nx + m), s.cnt⟩).goes s.nx)
 else if o = 9 then (let g := s.get r; g.2.goesTo g.1)
 else if o = 11 then (let w := s.whr r m; let v := w.2.load 4 w.1; v.2.goesTo v.1)
 else if o = 8 then (let k := s.K s.nx; (k.2.push k.1).goes (w32 (s.nx + m)))
 else if o = 10 then (let g := s.get r; let k := g.2.K s.nx; (k.2.push k.1).goesTo g.1)
 else if o = 2 then (let v := s.pop; v.2.goesTo v.1)
 else if o = 14 then (let g := s.get r; (g.2.push g.1).watch)
 else if o = 15 then (let v := s.pop; v.2.set d v.1)
 else if o = 3 then (let v := s.now; (v.2.push v.1).watch)
 else if o = 4 then (let v := s.pop; let k := v.2.K 15; let x := k.2.B 2 v.1 k.1; x.2.flag 0 (-1) (-1) x.1)
 else s
def Lk.one (s : Lk) (o : Int) (d r : Nat) (f m : Int) : Lk := if (s.plain o d r f m).1 then (s.plain o d r f m).2 else s.moves o d r f m
open Ev
open Ot (opAt OkR locB I6 i6 GV TK Pre AtAll opAt_app_l opAt_app_r tA tB tC ar isR tk_none)
theorem loc_k {cnt : Int} (k w a b c kn n : Int) (hk : rO k = true) (k0 : 0 ≤ k ∧ k ≤ 17) (hw : 0 ≤ w ∧ w < max (rS k) 1) (hs : rS k ≤ 100) (h0 : k = 13 ∨ k = 14 → w ≠ 0) (hkn : 0 ≤ kn ∧ kn < 4294967296) (hkk : rK k = false → kn = 0) (hn : 0 ≤ n ∧ n ≤ cnt) (h64 : cnt ≤ 64) (hnn : rN k = false → n = 0)
  (ha : rA k = false → a = 0) (hb : rB k = false → rG k = false → b = 0) (hg : rG k = true → 0 ≤ b ∧ b < 4294967296) (hc : rC k = false → c = 0) (xa : I6 a) (xb : I6 b) (xc : I6 c) : Ot.Loc cnt ⟨k, w, a, b, c, kn, n⟩ := by
 refine ⟨⟨i6 k (by omega), i6 w (by omega), xa, xb, xc, hkn, i6 n (by omega)⟩, ?_⟩
 unfold locB e2 e4 e6 e8
 dsimp only
 have e1 : decide (w < 0) = false := decide_eq_false (by omega)
 have e2 : decide (max (rS k) 1 ≤ w) = false := decide_eq_false (by omega)
 have e3 : ((k == 14 || k == 13) && w == 0) = false := by
  cases h : (k == 14 || k == 13) with
  | false => rfl
  | true =>
   have := h0 (by simp at h; omega)
   simpa using this
 have e4 : (!rK k && kn != 0) = false := by
  cases h : rK k with
  | true => rfl
  | false => rw [hkk h]; rfl
 have e5 : (!rN k && n != 0) = false := by
  cases h : rN k with
  | true => rfl
  | false => rw [hnn h]; rfl
 have e6 : decide (n < 0) = false := decide_eq_false (by omega)
 have e7 : decide (cnt < n) = false := decide_eq_false (by omega)
 have e8 : (!rA k && a != 0) = false := by
  cases h : rA k with
  | true => rfl
  | false => rw [ha h]; rfl
 have e9 : (!rB k && (!rG k && b != 0)) = false := by
  cases h : rB k with
  | true => rfl
  | false =>
   cases h2 : rG k with
   | true => rfl
   | false => rw [hb h h2]; rfl
 have e10 : (!rC k && c != 0) = false := by
  cases h : rC k with
  | true => rfl
  | false => rw [hc h]; rfl
 have e11 : (rG k && (decide (b < 0) || decide (4294967295 < b))) = false := by
  cases h : rG k with
  | false => rfl
  | true =>
   have := hg h
   rw [decide_eq_false (by omega), decide_eq_false (by omega)]; rfl
 rw [e1, e2, e3, e4, e5, e6, e7, e8, e9, e10, e11, hk]; rfl
/-- nothing, or a value that was put -/
def GM (ops : List Opr) (t : Int) : Prop := t = -1 ∨ GV ops t
/-- the operations of one begin those of the other; the places are the same -/
structure Px (s s' : Lk) : Prop where
 o : ∃ l, s'.ops = s.ops ++ l
 c : s'.cnt = s.cnt
 p : s'.pc = s.pc
 x : s'.nx = s.nx
theorem Px.refl (s : Lk) : Px s s := ⟨⟨[], by simp⟩, rfl, rfl, rfl⟩
theorem Px.trans {a b c : Lk} (h : Px a b) (k : Px b c) : Px a c := by
 obtain ⟨l, e⟩ := h.o
 obtain ⟨m, e2⟩ := k.o
 exact ⟨⟨l ++ m, by rw [e2, e, List.append_assoc]⟩, k.c.trans h.c, k.p.trans h.p, k.x.trans h.x⟩
theorem Px.put (s : Lk) (o : Opr) : Px s (s.put o) := ⟨⟨[o], rfl⟩, rfl, rfl, rfl⟩
theorem Px.setR (s : Lk) (r : Nat) (x : Int) : Px s (s.setR r x) := ⟨⟨[], by simp [Lk.setR]⟩, rfl, rfl, rfl⟩
theorem Px.setF (s : Lk) (k a b o : Int) : Px s (s.setF k a b o) := ⟨⟨[], by simp [Lk.setF]⟩, rfl, rfl, rfl⟩
theorem gv_app {ops l : List Opr} {x : Int} (h : GV ops x) : GV (ops ++ l) x := by
 obtain ⟨h1, h2, h3⟩ := h
 exact ⟨h1, by rw [List.length_append]; omega, by rw [opAt_app_l (by omega)]; exact h3⟩
theorem Px.gv {s s' : Lk} (h : Px s s') {x : Int} (g : GV s.ops x) : GV s'.ops x := by
 obtain ⟨l, e⟩ := h.o
 rw [e]; exact gv_app g
theorem Px.gm {s s' : Lk} (h : Px s s') {x : Int} (g : GM s.ops x) : GM s'.ops x := g.imp id h.gv
theorem Px.if_ {c : Prop} [Decidable c] {s a b : Lk} (h : Px s a) (k : Px s b) : Px s (if c then a else b) := by
 split
 ·exact h
 ·exact k
theorem Px.K (s : Lk) (x : Int) : Px s (s.K x).2 := Px.put s _
theorem Px.B (s : Lk) (w x y : Int) : Px s (s.B w x y).2 := Px.put s _
theorem Px.U (s : Lk) (w x : Int) : Px s (s.U w x).2 := Px.put s _
theorem Px.S (s : Lk) (x y z : Int) : Px s (s.S x y z).2 := Px.put s _
theorem Px.load (s : Lk) (x y : Int) : Px s (s.load x y).2 := Px.put s _
theorem Px.store (s : Lk) (x y z : Int) : Px s (s.store x y z) := Px.put s _
theorem Px.watch (s : Lk) : Px s s.watch := Px.put s _
theorem Px.goes (s : Lk) (t : Int) : Px s (s.goes t) := Px.put s _
theorem Px.goesTo (s : Lk) (t : Int) : Px s (s.goesTo t) := Px.put s _
theorem Px.if2 {α : Type} {c : Prop} [Decidable c] {s : Lk} {x y : α × Lk} (h : Px s x.2) (k : Px s y.2) : Px s (if c then x else y).2 := by
 split
 ·exact h
 ·exact k
theorem Px.to {a b c : Lk} (k : Px b c) (h : Px a b) : Px a c := h.trans k
theorem Px.get (s : Lk) (r : Nat) : Px s (s.get r).2 := by
 unfold Lk.get
 split
 ·exact (Px.put s _).trans (Px.setR _ _ _)
 ·exact Px.refl s
theorem Px.set (s : Lk) (r : Nat) (x : Int) : Px s (s.set r x) := (Px.setR s r x).trans (Px.put _ _)
theorem Px.add (s : Lk) (x y : Int) : Px s (s.add x y).2 := (Px.put s _).trans (Px.put _ _)
theorem Px.whr (s : Lk) (r : Nat) (m : Int) : Px s (s.whr r m).2 := ((Px.get s r).trans (Px.put _ _)).trans (Px.put _ _)
theorem Px.some (s : Lk) (z t : Int) : Px s (s.some z t).2.2 := by
 unfold Lk.some
 split
 ·exact Px.refl s
 ·split
  ·exact Px.put s _
  ·exact Px.refl s
theorem Px.now0 (s : Lk) : Px s s.now0 := by
 unfold Lk.now0
 split
 ·exact Px.refl s
 ·exact (Px.put s _).trans (Px.setF _ _ _ _ _)
theorem Px.nowF (s : Lk) : Px s s.nowF.2 := by
 unfold Lk.nowF
 split
 ·exact Px.refl s
 ·exact (((Px.some s _ _).trans (Px.some _ _ _)).trans (Px.some _ _ _)).trans (Px.put _ _)
theorem Px.now (s : Lk) : Px s s.now.2 := (Px.now0 s).trans (Px.nowF _)
theorem Px.holds (s : Lk) (c : Int) : Px s (s.holds c).2 := (Px.now s).trans (Px.put _ _)
theorem Px.slotIf (s : Lk) (w t : Int) : Px s (s.slotIf w t) := Px.if_ (Px.put s _) (Px.refl s)
theorem Px.flag (s : Lk) (k a b o : Int) : Px s (s.flag k a b o) := (((((Px.setF s k a b o).trans (Px.put _ _)).trans (Px.put _ _)).trans (Px.slotIf _ _ _)).trans (Px.slotIf _ _ _)).trans (Px.slotIf _ _ _)
theorem Px.push (s : Lk) (a : Int) : Px s (s.push a) := (((Px.get s 7).trans (Px.add _ _ _)).trans (Px.put _ _)).trans (Px.set _ _ _)
theorem Px.pop (s : Lk) : Px s s.pop.2 := (((Px.get s 7).trans (Px.put _ _)).trans (Px.add _ _ _)).trans (Px.set _ _ _)
/-- a block under way, its operations so many at the most -/
structure Gd (N k : Nat) (s : Lk) : Prop where
 p : Pre s.cnt s.ops
 r : ∀ j, j < 8 → GM s.ops (s.reg j)
 f : s.kn = true → (0 ≤ s.kd ∧ s.kd ≤ 12) ∧ GM s.ops s.fa ∧ GM s.ops s.fb ∧ GM s.ops s.fo ∧ (s.kd = 0 → GV s.ops s.fo)
 c : 1 ≤ s.cnt ∧ s.cnt ≤ 64
 b : 0 ≤ s.pc ∧ s.pc < 4294967296 ∧ 0 ≤ s.nx ∧ s.nx < 4294967296
 n : s.ops.length ≤ N + k
 l : N ≤ 4000 ∧ k ≤ 100
variable {N k : Nat} {s : Lk}
theorem Gd.i6 (h : Gd N k s) {t : Int} (g : GV s.ops t) : I6 t := Ot.i6 t (by have := g.1; have := g.2.1; have := h.n; have := h.l; omega)
theorem z6 : I6 0 := i6 0 (by decide)
theorem Gd.put (h : Gd N k s) {o : Opr} (hl : Ot.Loc s.cnt o) (ht : TK s.ops o) (hf : rF o.k = false) (hk : k < 100) : Gd N (k + 1) (s.put o) :=
 ⟨h.p.app hl ht hf, fun j hj => (Px.put s o).gm (h.r j hj), fun e => have a := h.f e
  ⟨a.1, (Px.put s o).gm a.2.1, (Px.put s o).gm a.2.2.1, (Px.put s o).gm a.2.2.2.1, fun e => (Px.put s o).gv (a.2.2.2.2 e)⟩, h.c, h.b, by have := h.n; show (s.ops ++ [o]).length ≤ _; rw [List.length_append, List.length_singleton]; omega, by have := h.l; omega⟩
theorem Gd.new (h : Gd N k s) {o : Opr} (hl : Ot.Loc s.cnt o) (ht : TK s.ops o) (hf : rF o.k = false) (hg : gv o.k = true) (hk : k < 100) : Gd N (k + 1) (s.P o).2 ∧ GV (s.P o).2.ops (s.P o).1 := ⟨h.put hl ht hf hk, GV.new s.ops o hg⟩
theorem Gd.setR (h : Gd N k s) (r : Nat) {t : Int} (g : GV s.ops t) : Gd N k (s.setR r t) := by
 refine ⟨h.p, fun j hj => ?_, h.f, h.c, h.b, h.n, h.l⟩
 show GM s.ops (upd s.reg r t j)
 unfold upd
 split
 ·exact .inr g
 ·exact h.r j hj
theorem Gd.mono {k' : Nat} (h : Gd N k s) (hk : k ≤ k') (hl : k' ≤ 100) : Gd N k' s := ⟨h.p, h.r, h.f, h.c, h.b, by have := h.n; omega, by have := h.l; omega⟩
theorem tk_1 {ops : List Opr} {o : Opr} (ha : GV ops o.a) (h2 : tB o.k = false) (h3 : tC o.k = false) : TK ops o := fun j hj hr => by
 rcases (show j = 0 ∨ j = 1 ∨ j = 2 by omega) with rfl | rfl | rfl
 ·exact ha
 ·exact absurd (show tB o.k = true from hr) (by rw [h2]; decide)
 ·exact absurd (show tC o.k = true from hr) (by rw [h3]; decide)
theorem tk_2 {ops : List Opr} {o : Opr} (ha : GV ops o.a) (hb : GV ops o.b) (h3 : tC o.k = false) : TK ops o := fun j hj hr => by
 rcases (show j = 0 ∨ j = 1 ∨ j = 2 by omega) with rfl | rfl | rfl
 ·exact ha
 ·exact hb
 ·exact absurd (show tC o.k = true from hr) (by rw [h3]; decide)
theorem tk_3 {ops : List Opr} {o : Opr} (ha : GV ops o.a) (hb : GV ops o.b) (hc : GV ops o.c) : TK ops o := fun j hj hr => by
 rcases (show j = 0 ∨ j = 1 ∨ j = 2 by omega) with rfl | rfl | rfl
 ·exact ha
 ·exact hb
 ·exact hc
theorem Gd.c0 (h : Gd N k s) : 0 ≤ (0 : Int) ∧ (0 : Int) ≤ s.cnt := ⟨Int.le_refl 0, by have := h.c; omega⟩
theorem no14 {k : Int} {P : Prop} (h : ¬ (k = 13 ∨ k = 14)) : k = 13 ∨ k = 14 → P := fun e => absurd e h
theorem nz : (0 : Int) ≤ 0 ∧ (0 : Int) < 4294967296 := by decide
theorem Gd.K (h : Gd N k s) (hk : k < 100) {x : Int} (hx : 0 ≤ x ∧ x < 4294967296) : Gd N (k + 1) (s.K x).2 ∧ GV (s.K x).2.ops (s.K x).1 :=
 h.new (loc_k 1 0 0 0 0 x 0 rfl (by decide) (by decide) (by decide) (no14 (by decide)) hx (fun e => nomatch e) h.c0 h.c.2 (fun _ => rfl) (fun _ => rfl) (fun _ _ => rfl) (fun e => nomatch e) (fun _ => rfl) z6 z6 z6) (tk_none rfl rfl rfl) rfl rfl hk
theorem Gd.B (h : Gd N k s) (hk : k < 100) {w a b : Int} (hw : 0 ≤ w ∧ w < 16) (ga : GV s.ops a) (gb : GV s.ops b) : Gd N (k + 1) (s.B w a b).2 ∧ GV (s.B w a b).2.ops (s.B w a b).1 :=
 h.new (loc_k 4 w a b 0 0 0 rfl (by decide) hw (by decide) (no14 (by decide)) nz (fun _ => rfl) h.c0 h.c.2 (fun _ => rfl) (fun e => nomatch e) (fun e => nomatch e) (fun e => nomatch e) (fun _ => rfl) (h.i6 ga) (h.i6 gb) z6) (tk_2 ga gb rfl) rfl rfl hk
theorem Gd.U (h : Gd N k s) (hk : k < 100) {w a : Int} (hw : 0 ≤ w ∧ w < 7) (ga : GV s.ops a) : Gd N (k + 1) (s.U w a).2 ∧ GV (s.U w a).2.ops (s.U w a).1 :=
 h.new (loc_k 5 w a 0 0 0 0 rfl (by decide) hw (by decide) (no14 (by decide)) nz (fun _ => rfl) h.c0 h.c.2 (fun _ => rfl) (fun e => nomatch e) (fun _ _ => rfl) (fun e => nomatch e) (fun _ => rfl) (h.i6 ga) z6 z6) (tk_1 ga rfl rfl) rfl rfl hk
theorem Gd.S (h : Gd N k s) (hk : k < 100) {a b c : Int} (ga : GV s.ops a) (gb : GV s.ops b) (gc : GV s.ops c) : Gd N (k + 1) (s.S a b c).2 ∧ GV (s.S a b c).2.ops (s.S a b c).1 :=
 h.new (loc_k 6 0 a b c 0 0 rfl (by decide) (by decide) (by decide) (no14 (by decide)) nz (fun _ => rfl) h.c0 h.c.2 (fun _ => rfl) (fun e => nomatch e) (fun e => nomatch e) (fun e => nomatch e) (fun e => nomatch e) (h.i6 ga) (h.i6 gb) (h.i6 gc)) (tk_3 ga gb gc) rfl rfl hk
theorem Gd.flg (h : Gd N k s) (hk : k < 100) {w a b c : Int} (hw : 0 ≤ w ∧ w ≤ 12) (ga : GV s.ops a) (gb : GV s.ops b) (gc : GV s.ops c) : Gd N (k + 1) (s.P ⟨7, w, a, b, c, 0, 0⟩).2 ∧ GV (s.P ⟨7, w, a, b, c, 0, 0⟩).2.ops (s.P ⟨7, w, a, b, c, 0, 0⟩).1 :=
 h.new (loc_k 7 w a b c 0 0 rfl (by decide) ⟨hw.1, show w < 13 by omega⟩ (by decide) (no14 (by decide)) nz (fun _ => rfl) h.c0 h.c.2 (fun _ => rfl) (fun e => nomatch e) (fun e => nomatch e) (fun e => nomatch e) (fun e => nomatch e) (h.i6 ga) (h.i6 gb) (h.i6 gc)) (tk_3 ga gb gc) rfl rfl hk
theorem Gd.cond (h : Gd N k s) (hk : k < 100) {w a : Int} (hw : 0 ≤ w ∧ w < 16) (ga : GV s.ops a) : Gd N (k + 1) (s.P ⟨8, w, a, 0, 0, 0, 0⟩).2 ∧ GV (s.P ⟨8, w, a, 0, 0, 0, 0⟩).2.ops (s.P ⟨8, w, a, 0, 0, 0, 0⟩).1 :=
 h.new (loc_k 8 w a 0 0 0 0 rfl (by decide) hw (by decide) (no14 (by decide)) nz (fun _ => rfl) h.c0 h.c.2 (fun _ => rfl) (fun e => nomatch e) (fun _ _ => rfl) (fun e => nomatch e) (fun _ => rfl) (h.i6 ga) z6 z6) (tk_1 ga rfl rfl) rfl rfl hk
theorem Gd.slot (h : Gd N k s) (hk : k < 100) {w a : Int} (hw : 0 ≤ w ∧ w < 12) (ga : GV s.ops a) : Gd N (k + 1) (s.slot w a) :=
 h.put (loc_k 3 w a 0 0 0 0 rfl (by decide) hw (by decide) (no14 (by decide)) nz (fun _ => rfl) h.c0 h.c.2 (fun _ => rfl) (fun e => nomatch e) (fun _ _ => rfl) (fun e => nomatch e) (fun _ => rfl) (h.i6 ga) z6 z6) (tk_1 ga rfl rfl) rfl hk
theorem Gd.dn (h : Gd N k s) : 0 ≤ s.cnt - 1 ∧ s.cnt - 1 ≤ s.cnt := by have := h.c; omega
theorem Gd.cn (h : Gd N k s) : 0 ≤ s.cnt ∧ s.cnt ≤ s.cnt := by have := h.c; omega
theorem Gd.load (h : Gd N k s) (hk : k < 100) {w a : Int} (hw : 0 ≤ w ∧ w < 5) (ga : GV s.ops a) : Gd N (k + 1) (s.load w a).2 ∧ GV (s.load w a).2.ops (s.load w a).1 :=
 h.new (loc_k 9 w a 0 0 s.pc (s.cnt - 1) rfl (by decide) hw (by decide) (no14 (by decide)) ⟨h.b.1, h.b.2.1⟩ (fun e => nomatch e) h.dn h.c.2 (fun e => nomatch e) (fun e => nomatch e) (fun _ _ => rfl) (fun e => nomatch e) (fun _ => rfl) (h.i6 ga) z6 z6) (tk_1 ga rfl rfl) rfl rfl hk
theorem Gd.store (h : Gd N k s) (hk : k < 100) {w a b : Int} (hw : 0 ≤ w ∧ w < 3) (ga : GV s.ops a) (gb : GV s.ops b) : Gd N (k + 1) (s.store w a b) :=
 h.put (loc_k 10 w a b 0 s.pc (s.cnt - 1) rfl (by decide) hw (by decide) (no14 (by decide)) ⟨h.b.1, h.b.2.1⟩ (fun e => nomatch e) h.dn h.c.2 (fun e => nomatch e) (fun e => nomatch e) (fun e => nomatch e) (fun e => nomatch e) (fun _ => rfl) (h.i6 ga) (h.i6 gb) z6) (tk_2 ga gb rfl) rfl hk
theorem Gd.watch (h : Gd N k s) (hk : k < 100) : Gd N (k + 1) s.watch :=
 h.put (loc_k 11 0 0 0 0 s.nx s.cnt rfl (by decide) (by decide) (by decide) (no14 (by decide)) h.b.2.2 (fun e => nomatch e) h.cn h.c.2 (fun e => nomatch e) (fun _ => rfl) (fun _ _ => rfl) (fun e => nomatch e) (fun _ => rfl) z6 z6 z6) (tk_none rfl rfl rfl) rfl hk
theorem Gd.iff (h : Gd N k s) (hk : k < 100) {a x : Int} (ga : GV s.ops a) (hx : 0 ≤ x ∧ x < 4294967296) : Gd N (k + 1) (s.put ⟨12, 0, a, 0, 0, x, s.cnt⟩) :=
 h.put (loc_k 12 0 a 0 0 x s.cnt rfl (by decide) (by decide) (by decide) (no14 (by decide)) hx (fun e => nomatch e) h.cn h.c.2 (fun e => nomatch e) (fun e => nomatch e) (fun _ _ => rfl) (fun e => nomatch e) (fun _ => rfl) (h.i6 ga) z6 z6) (tk_1 ga rfl rfl) rfl hk
theorem Gd.stopIf (h : Gd N k s) (hk : k < 100) {a : Int} (ga : GV s.ops a) : Gd N (k + 1) (s.put ⟨13, 7, a, 0, 0, s.pc, s.cnt - 1⟩) :=
 h.put (loc_k 13 7 a 0 0 s.pc (s.cnt - 1) rfl (by decide) (by decide) (by decide) (fun _ => by decide) ⟨h.b.1, h.b.2.1⟩ (fun e => nomatch e) h.dn h.c.2 (fun e => nomatch e) (fun e => nomatch e) (fun _ _ => rfl) (fun e => nomatch e) (fun _ => rfl) (h.i6 ga) z6 z6) (tk_1 ga rfl rfl) rfl hk
theorem Gd.get (h : Gd N k s) (hk : k < 100) {r : Nat} (hr : r < 8) : Gd N (k + 1) (s.get r).2 ∧ GV (s.get r).2.ops (s.get r).1 := by
 unfold Lk.get
 split
 ·have g := h.new (o := ⟨2, r, 0, 0, 0, 0, 0⟩) (loc_k 2 r 0 0 0 0 0 rfl (by decide) ⟨by omega, show (r : Int) < 12 by omega⟩ (by decide) (no14 (by decide)) nz (fun _ => rfl) h.c0 h.c.2 (fun _ => rfl) (fun _ => rfl) (fun _ _ => rfl) (fun e => nomatch e) (fun _ => rfl) z6 z6 z6) (tk_none rfl rfl rfl) rfl rfl hk
  exact ⟨g.1.setR r g.2, g.2⟩
 ·next e => exact ⟨h.mono (by omega) (by omega), (h.r r hr).resolve_left (by omega)⟩
theorem Gd.set (h : Gd N k s) (hk : k < 100) {r : Nat} (hr : r < 8) {t : Int} (g : GV s.ops t) : Gd N (k + 1) (s.set r t) := (h.setR r g).slot hk ⟨by omega, by omega⟩ g
theorem w32_bd (x : Int) : 0 ≤ w32 x ∧ w32 x < 4294967296 := by unfold w32; omega
theorem Gd.add (h : Gd N k s) (hk : k < 99) {a n : Int} (g : GV s.ops a) : Gd N (k + 1 + 1) (s.add a n).2 ∧ GV (s.add a n).2.ops (s.add a n).1 := by
 obtain ⟨h1, t1⟩ := h.K (by omega) (w32_bd n)
 exact h1.B (by omega) (by decide) ((Px.put s _).gv g) t1
theorem Gd.whr (h : Gd N k s) (hk : k < 98) {r : Nat} (hr : r < 8) {m : Int} (hm : 0 ≤ m ∧ m < 4294967296) : Gd N (k + 1 + 1 + 1) (s.whr r m).2 ∧ GV (s.whr r m).2.ops (s.whr r m).1 := by
 obtain ⟨h1, t1⟩ := h.get (by omega) hr
 obtain ⟨h2, t2⟩ := h1.K (by omega) hm
 exact h2.B (by omega) (by decide) ((Px.put _ _).gv t1) t2
theorem Gd.setF (h : Gd N k s) {f a b o : Int} (hf : 0 ≤ f ∧ f ≤ 12) (ga : GM s.ops a) (gb : GM s.ops b) (go : GM s.ops o) (h0 : f = 0 → GV s.ops o) : Gd N k (s.setF f a b o) := ⟨h.p, h.r, fun _ => ⟨hf, ga, gb, go, h0⟩, h.c, h.b, h.n, h.l⟩
theorem Gd.now0 (h : Gd N k s) (hk : k < 100) : Gd N (k + 1) s.now0 ∧ s.now0.kn = true := by
 unfold Lk.now0
 split
 ·next e => exact ⟨h.mono (by omega) (by omega), e⟩
 ·have g := h.new (o := ⟨17, 0, 0, 0, 0, 0, 0⟩) (loc_k 17 0 0 0 0 0 0 rfl (by decide) (by decide) (by decide) (no14 (by decide)) nz (fun _ => rfl) h.c0 h.c.2 (fun _ => rfl) (fun _ => rfl) (fun _ _ => rfl) (fun e => nomatch e) (fun _ => rfl) z6 z6 z6) (tk_none rfl rfl rfl) rfl rfl hk
  exact ⟨g.1.setF (by decide) (.inl rfl) (.inl rfl) (.inr g.2) (fun _ => g.2), rfl⟩
/-- the zero of a call: a value, or not there yet -/
theorem Gd.some (h : Gd N k s) (hk : k < 100) {z t : Int} (gz : GM s.ops z) (gt : GM s.ops t) : Gd N (k + 1) (s.some z t).2.2 ∧ GV (s.some z t).2.2.ops (s.some z t).1 ∧ GM (s.some z t).2.2.ops (s.some z t).2.1 := by
 unfold Lk.some
 split
 ·next e => exact ⟨h.mono (by omega) (by omega), gt.resolve_left (by omega), gz⟩
 ·split
  ·next e =>
   obtain ⟨h1, t1⟩ := h.K hk (x := 0) (by decide)
   exact ⟨h1, t1, .inr t1⟩
  ·next e => exact ⟨h.mono (by omega) (by omega), gz.resolve_left (by omega), gz⟩
theorem Gd.nowF (h : Gd N k s) (hk : k < 97) (hn : s.kn = true) : Gd N (k + 1 + 1 + 1 + 1) s.nowF.2 ∧ GV s.nowF.2.ops s.nowF.1 := by
 obtain ⟨f1, f2, f3, f4, f5⟩ := h.f hn
 unfold Lk.nowF
 split
 ·next e => exact ⟨h.mono (by omega) (by omega), f5 e⟩
 ·obtain ⟨h1, t1, z1⟩ := h.some (z := -1) (t := s.fa) (by omega) (.inl rfl) f2
  have p1 := Px.some s (-1) s.fa
  obtain ⟨h2, t2, z2⟩ := h1.some (z := s.s1.2.1) (t := s.fb) (by omega) z1 (p1.gm f3)
  have p2 := Px.some s.s1.2.2 s.s1.2.1 s.fb
  obtain ⟨h3, t3, z3⟩ := h2.some (z := s.s2.2.1) (t := s.fo) (by omega) z2 (p2.gm (p1.gm f4))
  have p3 := Px.some s.s2.2.2 s.s2.2.1 s.fo
  exact h3.flg (by omega) f1 (p3.gv (p2.gv t1)) (p3.gv t2) t3
theorem Gd.now (h : Gd N k s) (hk : k < 96) : Gd N (k + 5) s.now.2 ∧ GV s.now.2.ops s.now.1 := by
 obtain ⟨h1, e⟩ := h.now0 (by omega)
 exact h1.nowF (by omega) e
theorem Gd.holds (h : Gd N k s) (hk : k < 95) {c : Int} (hc : 0 ≤ c ∧ c < 16) : Gd N (k + 5 + 1) (s.holds c).2 ∧ GV (s.holds c).2.ops (s.holds c).1 := by
 obtain ⟨h1, t1⟩ := h.now (by omega)
 exact h1.cond (by omega) hc t1
theorem Gd.slotIf (h : Gd N k s) (hk : k < 100) {w t : Int} (hw : 0 ≤ w ∧ w < 12) (g : GM s.ops t) : Gd N (k + 1) (s.slotIf w t) := by
 unfold Lk.slotIf
 split
 ·exact h.slot hk hw (g.resolve_left (by omega))
 ·exact h.mono (by omega) (by omega)
theorem Gd.flag (h : Gd N k s) (hk : k < 95) {f a b o : Int} (hf : 0 ≤ f ∧ f ≤ 12) (ga : GM s.ops a) (gb : GM s.ops b) (go : GM s.ops o) (h0 : f = 0 → GV s.ops o) : Gd N (k + 1 + 1 + 1 + 1 + 1) (s.flag f a b o) := by
 obtain ⟨h2, t2⟩ := (h.setF hf ga gb go h0).K (by omega) (w32_bd f)
 have p2 := (Px.setF s f a b o).trans (Px.put (s.setF f a b o) ⟨1, 0, 0, 0, 0, w32 f, 0⟩)
 have h3 := h2.slot (w := 8) (by omega) (by decide) t2
 have p3 := p2.trans (Px.put _ ⟨3, 8, s.n, 0, 0, 0, 0⟩)
 have h4 := h3.slotIf (w := 9) (t := a) (by omega) (by decide) (p3.gm ga)
 have p4 := p3.trans (Px.slotIf _ 9 a)
 have h5 := h4.slotIf (w := 10) (t := b) (by omega) (by decide) (p4.gm gb)
 have p5 := p4.trans (Px.slotIf _ 10 b)
 exact h5.slotIf (w := 11) (t := o) (by omega) (by decide) (p5.gm go)
theorem Gd.push (h : Gd N k s) (hk : k < 94) {a : Int} (ga : GV s.ops a) : Gd N (k + 1 + 1 + 1 + 1 + 1) (s.push a) := by
 obtain ⟨h1, t1⟩ := h.get (r := 7) (by omega) (by omega)
 obtain ⟨h2, t2⟩ := h1.add (n := -4) (by omega) t1
 have h3 := h2.store (w := 2) (by omega) (by decide) t2 ((Px.add _ _ _).gv ((Px.get s 7).gv ga))
 exact h3.set (r := 7) (by omega) (by omega) ((Px.put _ _).gv t2)
theorem Gd.pop (h : Gd N k s) (hk : k < 94) : Gd N (k + 1 + 1 + 1 + 1 + 1) s.pop.2 ∧ GV s.pop.2.ops s.pop.1 := by
 obtain ⟨h1, t1⟩ := h.get (r := 7) (by omega) (by omega)
 obtain ⟨h2, t2⟩ := h1.load (w := 4) (by omega) (by decide) t1
 obtain ⟨h3, t3⟩ := h2.add (n := 4) (by omega) ((Px.put _ _).gv t1)
 have h4 := h3.set (r := 7) (by omega) (by omega) t3
 exact ⟨h4, (Px.set _ _ _).gv ((Px.add _ _ _).gv t2)⟩
end Go.Proofs.YtcjcmnnhmajocabGreat.Lf
namespace Go.Proofs.YtcjcmnnhmajocabGreat.Gu
open Go.RowKit
def en (k : Int) : Bool := decide (k = 1 ∨ k = 2 ∨ (5 ≤ k ∧ k ≤ 13))
theorem en_no {k : Int} (h : ¬ (k = 1 ∨ k = 2 ∨ (5 ≤ k ∧ k ≤ 13))) : en k = false := decide_eq_false h
theorem ends_any (k : Int) (w : World) : Calls Tryz.prog 56 #[.int .i64 k] w fun e w' => e = .returned (.bool (en k)) ∧ w = w' := by
 by_cases h : k = 1 ∨ k = 2 ∨ (5 ≤ k ∧ k ≤ 13)
 ·have h' : k = 1 ∨ k = 2 ∨ k = 5 ∨ k = 6 ∨ k = 7 ∨ k = 8 ∨ k = 9 ∨ k = 10 ∨ k = 11 ∨ k = 12 ∨ k = 13 := by omega
  rcases h' with rfl | rfl | rfl | rfl | rfl | rfl | rfl | rfl | rfl | rfl | rfl
  all_goals go_enter Tryz.func56, Tryz.ntmps56
  all_goals go_wp2
  all_goals go_ret
  all_goals exact ⟨rfl, rfl⟩
 ·rw [en_no h]
  have c1 : (k == 1) = false := by rw [beq_eq_false_iff_ne]; omega
  have c2 : (k == 2) = false := by rw [beq_eq_false_iff_ne]; omega
  have c5 : (k == 5) = false := by rw [beq_eq_false_iff_ne]; omega
  have c6 : (k == 6) = false := by rw [beq_eq_false_iff_ne]; omega
  have c7 : (k == 7) = false := by rw [beq_eq_false_iff_ne]; omega
  have c8 : (k == 8) = false := by rw [beq_eq_false_iff_ne]; omega
  have c9 : (k == 9) = false := by rw [beq_eq_false_iff_ne]; omega
  have c10 : (k == 10) = false := by rw [beq_eq_false_iff_ne]; omega
  have c11 : (k == 11) = false := by rw [beq_eq_false_iff_ne]; omega
  have c12 : (k == 12) = false := by rw [beq_eq_false_iff_ne]; omega
  have c13 : (k == 13) = false := by rw [beq_eq_false_iff_ne]; omega
  clear h
  go_enter Tryz.func56, Tryz.ntmps56
  go_wp2
  go_ret
  exact ⟨rfl, rfl⟩
theorem rends_any (k : Int) (w : World) : Calls Tryz.prog 58 #[.int .i64 k] w fun e w' => e = .returned (.bool (en k)) ∧ w = w' := by
 rcases (show k = 1 ∨ k = 2 ∨ (5 ≤ k ∧ k ≤ 13) ∨ 13 < k ∨ (k < 5 ∧ k ≠ 1 ∧ k ≠ 2) by omega) with rfl | rfl | h | h | h
 ·go_enter Tryz.func58, Tryz.ntmps58
  go_wp2
  go_ret
  exact ⟨rfl, rfl⟩
 ·go_enter Tryz.func58, Tryz.ntmps58
  go_wp2
  go_ret
  exact ⟨rfl, rfl⟩
 ·rw [show en k = true from decide_eq_true (by omega)]
  have c1 : (k == 1) = false := by rw [beq_eq_false_iff_ne]; omega
  have c2 : (k == 2) = false := by rw [beq_eq_false_iff_ne]; omega
  obtain ⟨h1, h2⟩ := h
  go_enter Tryz.func58, Tryz.ntmps58
  go_wp2
  go_ret
  exact ⟨rfl, rfl⟩
 ·rw [en_no (by omega)]
  have c1 : (k == 1) = false := by rw [beq_eq_false_iff_ne]; omega
  have c2 : (k == 2) = false := by rw [beq_eq_false_iff_ne]; omega
  have c3 : 5 ≤ k := by omega
  have c4 : ¬ k ≤ 13 := by omega
  go_enter Tryz.func58, Tryz.ntmps58
  go_wp2
  go_ret
  exact ⟨rfl, rfl⟩
 ·rw [en_no (by omega)]
  have c1 : (k == 1) = false := by rw [beq_eq_false_iff_ne]; omega
  have c2 : (k == 2) = false := by rw [beq_eq_false_iff_ne]; omega
  have c3 : ¬ 5 ≤ k := by omega
  clear h
  go_enter Tryz.func58, Tryz.ntmps58
  go_wp2
  go_ret
  exact ⟨rfl, rfl⟩
end Go.Proofs.YtcjcmnnhmajocabGreat.Gu
namespace Go.Proofs.YtcjcmnnhmajocabGreat.Lf
open Go.RowKit Kt Ic Me Ev Gu
open Ot (OkR locB I6 i6 GV TK Pre AtAll opAt_app_l opAt_app_r tA tB tC ar isR tk_none)
variable {N k : Nat} {s : Lk}
def WB (p : Int × Int) : Prop := (0 ≤ p.1 ∧ p.1 < 16) ∧ (0 ≤ p.2 ∧ p.2 ≤ 12)
theorem WB.if_ {c : Prop} [Decidable c] {a b : Int × Int} (h : WB a) (k : WB b) : WB (if c then a else b) := by
 split
 ·exact h
 ·exact k
theorem way_bd (o : Int) : WB (way o) := by
 unfold way
 repeat' with_reducible refine WB.if_ ?_ ?_
 all_goals (unfold WB; decide)
theorem Gd.carr (h : Gd N k s) (hk : k < 80) {o : Int} {d : Nat} (hd : d < 8) {a b : Int} (ga : GV s.ops a) (gb : GV s.ops b) : Gd N (k + 18) (s.carr o d a b) := by
 obtain ⟨h1, t1⟩ := h.now (by omega)
 have p1 := Px.now s
 obtain ⟨h2, t2⟩ := h1.K (x := 2) (by omega) (by decide)
 have p2 := Px.put s.now.2 ⟨1, 0, 0, 0, 0, 2, 0⟩
 obtain ⟨h3, t3⟩ := h2.B (w := 6) (by omega) (by decide) (p2.gv t1) t2
 have p3 := Px.put (s.now.2.K 2).2 ⟨4, 6, s.now.1, (s.now.2.K 2).1, 0, 0, 0⟩
 obtain ⟨h4, t4⟩ := h3.K (x := 1) (by omega) (by decide)
 have p4 := Px.put ((s.now.2.K 2).2.B 6 s.now.1 (s.now.2.K 2).1).2 ⟨1, 0, 0, 0, 0, 1, 0⟩
 obtain ⟨h5, t5⟩ := h4.B (w := 2) (by omega) (by decide) (p4.gv t3) t4
 unfold Lk.carr
 dsimp only
 have p5 := ((p1.trans p2).trans p3).trans (p4.trans (Px.put _ ⟨4, 2, ((s.now.2.K 2).2.B 6 s.now.1 (s.now.2.K 2).1).1, (((s.now.2.K 2).2.B 6 s.now.1 (s.now.2.K 2).1).2.K 1).1, 0, 0, 0⟩))
 have t1' := (p2.trans p3).trans (p4.trans (Px.put _ ⟨4, 2, ((s.now.2.K 2).2.B 6 s.now.1 (s.now.2.K 2).1).1, (((s.now.2.K 2).2.B 6 s.now.1 (s.now.2.K 2).1).2.K 1).1, 0, 0, 0⟩)) |>.gv t1
 have hw : 0 ≤ (if o = 3 then (1 : Int) else 0) ∧ (if o = 3 then (1 : Int) else 0) < 16 := by split <;> decide
 have hf : 0 ≤ (if o = 3 then (4 : Int) else 2) ∧ (if o = 3 then (4 : Int) else 2) ≤ 12 := by split <;> decide
 have hf0 : (if o = 3 then (4 : Int) else 2) ≠ 0 := by split <;> decide
 generalize (if o = 3 then (1 : Int) else 0) = w at hw ⊢
 generalize (if o = 3 then (4 : Int) else 2) = f at hf hf0 ⊢
 change Px s ((((s.now.2.K 2).2.B 6 s.now.1 (s.now.2.K 2).1).2.K 1).2.B 2 ((s.now.2.K 2).2.B 6 s.now.1 (s.now.2.K 2).1).1 (((s.now.2.K 2).2.B 6 s.now.1 (s.now.2.K 2).1).2.K 1).1).2 at p5
 change GV ((((s.now.2.K 2).2.B 6 s.now.1 (s.now.2.K 2).1).2.K 1).2.B 2 ((s.now.2.K 2).2.B 6 s.now.1 (s.now.2.K 2).1).1 (((s.now.2.K 2).2.B 6 s.now.1 (s.now.2.K 2).1).2.K 1).1).2.ops s.now.1 at t1'
 clear h1 h2 h3 h4 t1 t2 t3 t4 p1 p2 p3 p4
 generalize (((s.now.2.K 2).2.B 6 s.now.1 (s.now.2.K 2).1).2.K 1).2.B 2 ((s.now.2.K 2).2.B 6 s.now.1 (s.now.2.K 2).1).1 (((s.now.2.K 2).2.B 6 s.now.1 (s.now.2.K 2).1).2.K 1).1 = c at h5 t5 p5 t1' ⊢
 have ga := p5.gv ga
 have gb := p5.gv gb
 obtain ⟨h6, t6⟩ := h5.B (w := w) (by omega) hw ga gb
 have p6 := Px.put c.2 ⟨4, w, a, b, 0, 0, 0⟩
 obtain ⟨h7, t7⟩ := h6.B (w := w) (by omega) hw t6 (p6.gv t5)
 have p7 := Px.put (c.2.B w a b).2 ⟨4, w, (c.2.B w a b).1, c.1, 0, 0, 0⟩
 have h8 := h7.set (r := d) (by omega) hd t7
 have p8 := Px.set ((c.2.B w a b).2.B w (c.2.B w a b).1 c.1).2 d ((c.2.B w a b).2.B w (c.2.B w a b).1 c.1).1
 have p := (p6.trans p7).trans p8
 exact (h8.flag (by omega) hf (.inr (p.gv ga)) (.inr (p.gv gb)) (.inr (p.gv t1')) (fun e => absurd e hf0)).mono (by omega) (by omega)
theorem way_nz {o : Int} (h : 0 ≤ o ∧ o < 16) (hn : ¬ (o = 1 ∨ o = 3)) : (way o).2 ≠ 0 := by
 rcases (show o = 0 ∨ o = 2 ∨ o = 4 ∨ o = 5 ∨ o = 6 ∨ o = 7 ∨ o = 8 ∨ o = 9 ∨ o = 10 ∨ o = 11 ∨ o = 12 ∨ o = 13 ∨ o = 14 ∨ o = 15 by omega) with rfl | rfl | rfl | rfl | rfl | rfl | rfl | rfl | rfl | rfl | rfl | rfl | rfl | rfl <;> decide
theorem Gd.alu (h : Gd N k s) (hk : k < 70) {o : Int} (ho : 0 ≤ o ∧ o < 16) {d : Nat} (hd : d < 8) {b : Int} (gb : GV s.ops b) : Gd N (k + 19) (s.alu o d b) := by
 obtain ⟨h1, t1⟩ := h.get (by omega) hd
 have p1 := Px.get s d
 unfold Lk.alu
 rw [← p1.p, ← p1.c]
 generalize s.get d = g at h1 t1 p1 ⊢
 dsimp only
 have gb := p1.gv gb
 split
 ·exact (h1.carr (by omega) hd t1 gb).mono (by omega) (by omega)
 ·next hno =>
  have q1 : Gd N (k + 1 + 2) (if o = 14 ∨ o = 15 then ((g.2.U 6 b).2.put ⟨13, 7, (g.2.U 6 b).1, 0, 0, g.2.pc, g.2.cnt - 1⟩) else g.2) ∧ Px g.2 (if o = 14 ∨ o = 15 then ((g.2.U 6 b).2.put ⟨13, 7, (g.2.U 6 b).1, 0, 0, g.2.pc, g.2.cnt - 1⟩) else g.2) := by
   split
   ·obtain ⟨u1, v1⟩ := h1.U (w := 6) (by omega) (by decide) gb
    exact ⟨u1.stopIf (by omega) v1, (Px.put _ _).trans (Px.put _ _)⟩
   ·exact ⟨h1.mono (by omega) (by omega), Px.refl _⟩
  generalize (if o = 14 ∨ o = 15 then ((g.2.U 6 b).2.put ⟨13, 7, (g.2.U 6 b).1, 0, 0, g.2.pc, g.2.cnt - 1⟩) else g.2) = s1 at q1 ⊢
  obtain ⟨q1, r1⟩ := q1
  have q2 : Gd N (k + 1 + 2 + 5) (if 6 ≤ (way o).2 ∧ (way o).2 ≤ 9 then s1.now else (-1, s1)).2 ∧ Px s1 (if 6 ≤ (way o).2 ∧ (way o).2 ≤ 9 then s1.now else (-1, s1)).2 ∧ GM (if 6 ≤ (way o).2 ∧ (way o).2 ≤ 9 then s1.now else (-1, s1)).2.ops (if 6 ≤ (way o).2 ∧ (way o).2 ≤ 9 then s1.now else (-1, s1)).1 := by
   split
   ·obtain ⟨u1, v1⟩ := q1.now (by omega)
    exact ⟨u1, Px.now _, .inr v1⟩
   ·exact ⟨q1.mono (by omega) (by omega), Px.refl _, .inl rfl⟩
  generalize (if 6 ≤ (way o).2 ∧ (way o).2 ≤ 9 then s1.now else (-1, s1)) = s2 at q2 ⊢
  obtain ⟨q2, r2, m2⟩ := q2
  have p2 := r1.trans r2
  have hw := way_bd o
  have q3 : Gd N (k + 1 + 2 + 5 + 1) (if o ≠ 7 then s2.2.B (way o).1 g.1 b else (0, s2.2)).2 ∧ Px s2.2 (if o ≠ 7 then s2.2.B (way o).1 g.1 b else (0, s2.2)).2 ∧ (o ≠ 7 → GV (if o ≠ 7 then s2.2.B (way o).1 g.1 b else (0, s2.2)).2.ops (if o ≠ 7 then s2.2.B (way o).1 g.1 b else (0, s2.2)).1) := by
   split
   ·obtain ⟨u1, v1⟩ := q2.B (by omega) hw.1 (p2.gv t1) (p2.gv gb)
    exact ⟨u1, Px.put _ _, fun _ => v1⟩
   ·next e => exact ⟨q2.mono (by omega) (by omega), Px.refl _, fun e' => absurd e' e⟩
  generalize (if o ≠ 7 then s2.2.B (way o).1 g.1 b else (0, s2.2)) = v at q3 ⊢
  obtain ⟨q3, r3, m3⟩ := q3
  have q4 : Gd N (k + 1 + 2 + 5 + 1 + 1) (if o ≠ 7 ∧ o ≠ 8 then v.2.set d v.1 else v.2) ∧ Px v.2 (if o ≠ 7 ∧ o ≠ 8 then v.2.set d v.1 else v.2) := by
   split
   ·next e => exact ⟨q3.set (by omega) hd (m3 e.1), Px.set _ _ _⟩
   ·exact ⟨q3.mono (by omega) (by omega), Px.refl _⟩
  generalize (if o ≠ 7 ∧ o ≠ 8 then v.2.set d v.1 else v.2) = s3 at q4 ⊢
  obtain ⟨q4, r4⟩ := q4
  have e7 : (way o).2 = 5 → o ≠ 7 := by rintro e rfl; revert e; decide
  have e0 : (way o).2 ≠ 0 := way_nz ho hno
  have r34 := r3.trans r4
  by_cases e5 : (way o).2 = 5
  ·rw [if_pos e5, if_pos e5, e5]
   exact (q4.flag (f := 5) (by omega) (by decide) (.inr (r4.gv (m3 (e7 e5)))) (.inl rfl) (r34.gm m2) (fun e => absurd e (by decide))).mono (by omega) (by omega)
  ·rw [if_neg e5, if_neg e5]
   exact (q4.flag (by omega) hw.2 (.inr ((p2.trans r34).gv t1)) (.inr ((p2.trans r34).gv gb)) (r34.gm m2) (fun e => absurd e e0)).mono (by omega) (by omega)
def PG (N k : Nat) (x : Bool × Lk) : Prop := x.1 = true → Gd N (k + 25) x.2
theorem PG.if_ {c : Prop} [Decidable c] {a b : Bool × Lk} (h : c → PG N k a) (g : ¬ c → PG N k b) : PG N k (if c then a else b) := by
 split
 ·next e => exact h e
 ·next e => exact g e
theorem Gd.both (h : Gd N k s) (hk : k < 60) {o m : Int} {d r : Nat} (hd : d < 8) (hr : r < 8) (hm : 0 ≤ m ∧ m < 4294967296) : Gd N (k + 20) (s.both o d r m) := by
 unfold Lk.both
 obtain ⟨h1, t1⟩ := h.whr (by omega) hr hm
 generalize s.whr r m = w at h1 t1 ⊢
 dsimp only
 obtain ⟨h2, t2⟩ := h1.get (by omega) hd
 have t1 := (Px.get w.2 d).gv t1
 generalize w.2.get d = g at h2 t2 t1 ⊢
 obtain ⟨h3, t3⟩ := h2.load (w := 4) (by omega) (by decide) t1
 have t1 := (Px.put g.2 ⟨9, 4, w.1, 0, 0, g.2.pc, g.2.cnt - 1⟩).gv t1
 have t2 := (Px.put g.2 ⟨9, 4, w.1, 0, 0, g.2.pc, g.2.cnt - 1⟩).gv t2
 change GV (g.2.load 4 w.1).2.ops w.1 at t1
 change GV (g.2.load 4 w.1).2.ops g.1 at t2
 generalize g.2.load 4 w.1 = v at h3 t3 t1 t2 ⊢
 split
 ·have h4 := h3.store (w := 2) (by omega) (by decide) t1 t2
  exact (h4.set (by omega) hd ((Px.put _ _).gv t3)).mono (by omega) (by omega)
 split
 ·obtain ⟨h4, t4⟩ := h3.B (w := 0) (by omega) (by decide) t3 t2
  have p4 := Px.put v.2 ⟨4, 0, v.1, g.1, 0, 0, 0⟩
  have h5 := h4.store (w := 2) (by omega) (by decide) (p4.gv t1) t4
  have p5 := p4.trans (Px.put (v.2.B 0 v.1 g.1).2 ⟨10, 2, w.1, (v.2.B 0 v.1 g.1).1, 0, v.2.pc, v.2.cnt - 1⟩)
  have h6 := h5.set (by omega) hd (p5.gv t3)
  have p6 := p5.trans (Px.set _ d v.1)
  exact (h6.flag (f := 1) (by omega) (by decide) (.inr (p6.gv t3)) (.inr (p6.gv t2)) (.inl rfl) (fun e => absurd e (by decide))).mono (by omega) (by omega)
 ·obtain ⟨h4, t4⟩ := h3.get (r := 0) (by omega) (by omega)
  have p4 := Px.get v.2 0
  generalize v.2.get 0 = c at h4 t4 p4 ⊢
  have t1 := p4.gv t1
  have t2 := p4.gv t2
  have t3 := p4.gv t3
  obtain ⟨h5, t5⟩ := h4.B (w := 13) (by omega) (by decide) t4 t3
  have p5 := Px.put c.2 ⟨4, 13, c.1, v.1, 0, 0, 0⟩
  obtain ⟨h6, t6⟩ := h5.S (by omega) t5 (p5.gv t2) (p5.gv t3)
  have p6 := p5.trans (Px.put (c.2.B 13 c.1 v.1).2 ⟨6, 0, (c.2.B 13 c.1 v.1).1, g.1, v.1, 0, 0⟩)
  have h7 := h6.store (w := 2) (by omega) (by decide) (p6.gv t1) t6
  have p7 := p6.trans (Px.put ((c.2.B 13 c.1 v.1).2.S (c.2.B 13 c.1 v.1).1 g.1 v.1).2 ⟨10, 2, w.1, ((c.2.B 13 c.1 v.1).2.S (c.2.B 13 c.1 v.1).1 g.1 v.1).1, 0, c.2.pc, c.2.cnt - 1⟩)
  have h8 := h7.set (r := 0) (by omega) (by omega) (p7.gv t3)
  have p8 := p7.trans (Px.set _ 0 v.1)
  exact (h8.flag (f := 3) (by omega) (by decide) (.inr (p8.gv t4)) (.inr (p8.gv t3)) (.inl rfl) (fun e => absurd e (by decide))).mono (by omega) (by omega)
theorem Gd.plain (h : Gd N k s) (hk : k < 60) {o f m : Int} {d r : Nat} (hd : d < 8) (hr : r < 8) (hf : 0 ≤ f ∧ f < 16) (h30 : o = 30 → f < 5) (h31 : o = 31 → f < 3) (hm : 0 ≤ m ∧ m < 4294967296) : PG N k (s.plain o d r f m) := by
 unfold Lk.plain
 refine PG.if_ (fun e => ?_) fun _ => PG.if_ (fun e => ?_) fun _ => PG.if_ (fun e => ?_) fun _ => PG.if_ (fun e => ?_) fun _ => PG.if_ (fun e => ?_) fun _ => PG.if_ (fun e => ?_) fun _ => PG.if_ (fun e => ?_) fun _ => PG.if_ (fun e => ?_) fun _ => PG.if_ (fun e => ?_) fun _ => PG.if_ (fun e => ?_) fun _ => PG.if_ (fun e => ?_) fun _ => PG.if_ (fun e => ?_) fun _ => PG.if_ (fun e => ?_) fun _ => ?_
 ·exact fun _ => h.mono (by omega) (by omega)
 ·obtain ⟨h1, t1⟩ := h.K (by omega) hm
  exact fun _ => (h1.set (by omega) hd t1).mono (by omega) (by omega)
 ·obtain ⟨h1, t1⟩ := h.get (by omega) hd
  dsimp only
  generalize s.get d = g at h1 t1 ⊢
  obtain ⟨h2, t2⟩ := h1.now (by omega)
  have t1 := (Px.now g.2).gv t1
  generalize g.2.now = w at h2 t2 t1 ⊢
  generalize (if o = 18 then (-1 : Int) else 1) = c
  obtain ⟨h3, t3⟩ := h2.add (n := c) (by omega) t1
  have p3 := Px.add w.2 g.1 c
  generalize w.2.add g.1 c = x at h3 t3 p3 ⊢
  have h4 := h3.set (by omega) hd t3
  have p4 := p3.trans (Px.set x.2 d x.1)
  have hf : 0 ≤ (if o = 18 then (12 : Int) else 11) ∧ (if o = 18 then (12 : Int) else 11) ≤ 12 := by split <;> decide
  have hf0 : (if o = 18 then (12 : Int) else 11) ≠ 0 := by split <;> decide
  exact fun _ => (h4.flag (by omega) hf (.inr (p4.gv t1)) (.inl rfl) (.inr (p4.gv t2)) (fun e => absurd e hf0)).mono (by omega) (by omega)
 ·obtain ⟨h1, t1⟩ := h.get (by omega) hd
  dsimp only
  generalize s.get d = g at h1 t1 ⊢
  obtain ⟨h2, t2⟩ := h1.K (x := 0) (by omega) (by decide)
  have p2 := Px.put g.2 ⟨1, 0, 0, 0, 0, 0, 0⟩
  obtain ⟨h3, t3⟩ := h2.U (w := 1) (by omega) (by decide) (p2.gv t1)
  have p3 := p2.trans (Px.put (g.2.K 0).2 ⟨5, 1, g.1, 0, 0, 0, 0⟩)
  have h4 := h3.set (by omega) hd t3
  have p4 := (Px.put (g.2.K 0).2 ⟨5, 1, g.1, 0, 0, 0, 0⟩).trans (Px.set ((g.2.K 0).2.U 1 g.1).2 d ((g.2.K 0).2.U 1 g.1).1)
  exact fun _ => (h4.flag (f := 3) (by omega) (by decide) (.inr (p4.gv t2)) (.inr (p4.gv (p2.gv t1))) (.inl rfl) (fun e => absurd e (by decide))).mono (by omega) (by omega)
 ·obtain ⟨h1, t1⟩ := h.get (by omega) hd
  obtain ⟨h2, t2⟩ := h1.U (w := 0) (by omega) (by decide) t1
  exact fun _ => (h2.set (by omega) hd t2).mono (by omega) (by omega)
 ·obtain ⟨h1, t1⟩ := h.holds (by omega) hf
  exact fun _ => (h1.set (by omega) hd t1).mono (by omega) (by omega)
 ·obtain ⟨h1, t1⟩ := h.get (by omega) hr
  exact fun _ => (h1.set (by omega) hd t1).mono (by omega) (by omega)
 ·obtain ⟨h1, t1⟩ := h.whr (by omega) hr hm
  exact fun _ => (h1.set (by omega) hd t1).mono (by omega) (by omega)
 ·obtain ⟨h1, t1⟩ := h.get (by omega) hr
  exact fun _ => (h1.alu (by omega) hf hd t1).mono (by omega) (by omega)
 ·obtain ⟨h1, t1⟩ := h.K (by omega) hm
  exact fun _ => (h1.alu (by omega) hf hd t1).mono (by omega) (by omega)
 ·obtain ⟨h1, t1⟩ := h.whr (by omega) hr hm
  obtain ⟨h2, t2⟩ := h1.load (w := f) (by omega) ⟨hf.1, h30 e⟩ t1
  exact fun _ => (h2.set (by omega) hd t2).mono (by omega) (by omega)
 ·obtain ⟨h1, t1⟩ := h.whr (by omega) hr hm
  dsimp only
  generalize s.whr r m = w at h1 t1 ⊢
  obtain ⟨h2, t2⟩ := h1.get (by omega) hd
  have h3 := h2.store (w := f) (by omega) ⟨hf.1, h31 e⟩ ((Px.get w.2 d).gv t1) t2
  exact fun _ => (h3.watch (by omega)).mono (by omega) (by omega)
 ·exact fun _ => ((h.both (by omega) hd hr hm).watch (by omega)).mono (by omega) (by omega)
 ·exact fun e => nomatch e
/-- a block that is left for certain -/
structure Fn (n : Nat) (s : Lk) : Prop where
 a : AtAll s.cnt s.ops
 f : ∀ m, m < s.ops.length → (rF (Ot.opAt s.ops m).k = true ↔ m + 1 = s.ops.length)
 n0 : 0 < s.ops.length
 n : s.ops.length ≤ n
theorem Gd.fin (h : Gd N k s) {o : Opr} (hl : Ot.Loc s.cnt o) (ht : TK s.ops o) (hf : rF o.k = true) : Fn (N + (k + 1)) (s.put o) := by
 have e : (s.put o).ops.length = s.ops.length + 1 := by show (s.ops ++ [o]).length = _; rw [List.length_append, List.length_singleton]
 refine ⟨h.p.a.app hl ht, fun m hm => ?_, by omega, by have := h.n; omega⟩
 rw [e] at hm ⊢
 show rF (Ot.opAt (s.ops ++ [o]) m).k = true ↔ _
 by_cases hlt : m < s.ops.length
 ·rw [opAt_app_l hlt, h.p.f m hlt]
  exact ⟨fun e => absurd e (by decide), fun e => by omega⟩
 ·obtain rfl : m = s.ops.length := by omega
  rw [opAt_app_r]
  exact ⟨fun _ => rfl, fun _ => hf⟩
theorem Gd.goes (h : Gd N k s) {t : Int} (ht : 0 ≤ t ∧ t < 4294967296) : Fn (N + (k + 1)) (s.goes t) :=
 h.fin (loc_k 15 0 0 0 0 t s.cnt rfl (by decide) (by decide) (by decide) (no14 (by decide)) ht (fun e => nomatch e) h.cn h.c.2 (fun e => nomatch e) (fun _ => rfl) (fun _ _ => rfl) (fun e => nomatch e) (fun _ => rfl) z6 z6 z6) (tk_none rfl rfl rfl) rfl
theorem Gd.goesTo (h : Gd N k s) {a : Int} (ga : GV s.ops a) : Fn (N + (k + 1)) (s.goesTo a) :=
 h.fin (loc_k 16 0 a 0 0 0 s.cnt rfl (by decide) (by decide) (by decide) (no14 (by decide)) nz (fun _ => rfl) h.cn h.c.2 (fun e => nomatch e) (fun e => nomatch e) (fun _ _ => rfl) (fun e => nomatch e) (fun _ => rfl) (h.i6 ga) z6 z6) (tk_1 ga rfl rfl) rfl
theorem Gd.brk (h : Gd N k s) : Fn (N + (k + 1)) (s.put ⟨14, 2, 0, 0, 0, s.pc, s.cnt - 1⟩) :=
 h.fin (loc_k 14 2 0 0 0 s.pc (s.cnt - 1) rfl (by decide) (by decide) (by decide) (fun _ => by decide) ⟨h.b.1, h.b.2.1⟩ (fun e => nomatch e) h.dn h.c.2 (fun e => nomatch e) (fun _ => rfl) (fun _ e => nomatch e) (fun _ => nz) (fun _ => rfl) z6 z6 z6) (tk_none rfl rfl rfl) rfl
theorem Gd.sys (h : Gd N k s) {m : Int} (hm : 0 ≤ m ∧ m < 4294967296) : Fn (N + (k + 1)) (s.put ⟨14, 1, 0, m, 0, s.nx, s.cnt⟩) :=
 h.fin (loc_k 14 1 0 m 0 s.nx s.cnt rfl (by decide) (by decide) (by decide) (fun _ => by decide) h.b.2.2 (fun e => nomatch e) h.cn h.c.2 (fun e => nomatch e) (fun _ => rfl) (fun _ e => nomatch e) (fun _ => hm) (fun _ => rfl) z6 (Ot.i6 m (by omega)) z6) (tk_none rfl rfl rfl) rfl
/-- behind an instruction: the block goes on, or is at its end -/
structure Mv (N k : Nat) (o : Int) (t : Lk) : Prop where
 go : en o = false → Gd N (k + 25) t
 fin : en o = true → Fn (N + (k + 25)) t
theorem Mv.if_ {c : Prop} [Decidable c] {o : Int} {a b : Lk} (h : c → Mv N k o a) (g : ¬ c → Mv N k o b) : Mv N k o (if c then a else b) := by
 split
 ·next e => exact h e
 ·next e => exact g e
theorem Fn.mono {n n' : Nat} (h : Fn n s) (hn : n ≤ n') : Fn n' s := ⟨h.a, h.f, h.n0, Nat.le_trans h.n hn⟩
theorem en_t {o : Int} (h : o = 1 ∨ o = 2 ∨ (5 ≤ o ∧ o ≤ 13)) : en o = true := decide_eq_true h
theorem en_f {o : Int} (h : ¬ (o = 1 ∨ o = 2 ∨ (5 ≤ o ∧ o ≤ 13))) : en o = false := decide_eq_false h
theorem Mv.f {o : Int} {t : Lk} (h : o = 1 ∨ o = 2 ∨ (5 ≤ o ∧ o ≤ 13)) {n : Nat} (g : Fn n t) (hn : n ≤ N + (k + 25)) : Mv N k o t := ⟨fun e => absurd (en_t h) (by rw [e]; decide), fun _ => g.mono hn⟩
theorem Mv.g {o : Int} {t : Lk} (h : ¬ (o = 1 ∨ o = 2 ∨ (5 ≤ o ∧ o ≤ 13))) {n : Nat} (g : Gd N n t) (hn : n ≤ k + 25) (hk : k + 25 ≤ 100) : Mv N k o t := ⟨fun _ => g.mono hn hk, fun e => absurd e (by rw [en_f h]; decide)⟩
theorem Gd.moves (h : Gd N k s) (hk : k < 60) {o f m : Int} (ho : 0 ≤ o ∧ o < 16) (h0 : o ≠ 0) {d r : Nat} (hd : d < 8) (hr : r < 8) (hf : 0 ≤ f ∧ f < 16) (hm : 0 ≤ m ∧ m < 4294967296) : Mv N k o (s.moves o d r f m) := by
 unfold Lk.moves
 refine Mv.if_ (fun e => ?_) fun _ => Mv.if_ (fun e => ?_) fun _ => Mv.if_ (fun e => ?_) fun _ => Mv.if_ (fun e => ?_) fun _ => Mv.if_ (fun e => ?_) fun _ => Mv.if_ (fun e => ?_) fun _ => Mv.if_ (fun e => ?_) fun _ => Mv.if_ (fun e => ?_) fun _ => Mv.if_ (fun e => ?_) fun _ => Mv.if_ (fun e => ?_) fun _ => Mv.if_ (fun e => ?_) fun _ => Mv.if_ (fun e => ?_) fun _ => Mv.if_ (fun e => ?_) fun _ => ?_
 ·exact Mv.f (by omega) h.brk (by omega)
 ·exact Mv.f (by omega) (h.sys hm) (by omega)
 ·exact Mv.f (by omega) (h.goes (w32_bd _)) (by omega)
 ·obtain ⟨h1, t1⟩ := h.holds (by omega) hf
  have p := Px.holds s f
  dsimp only
  rw [← p.c, ← p.x]
  have h2 := h1.iff (x := w32 ((s.holds f).2.nx + m)) (by omega) t1 (w32_bd _)
  exact Mv.f (by omega) (h2.goes h2.b.2.2) (by omega)
 ·obtain ⟨h1, t1⟩ := h.get (by omega) hr
  exact Mv.f (by omega) (h1.goesTo t1) (by omega)
 ·obtain ⟨h1, t1⟩ := h.whr (by omega) hr hm
  obtain ⟨h2, t2⟩ := h1.load (w := 4) (by omega) (by decide) t1
  exact Mv.f (by omega) (h2.goesTo t2) (by omega)
 ·obtain ⟨h1, t1⟩ := h.K (by omega) h.b.2.2
  have h2 := h1.push (by omega) t1
  exact Mv.f (by omega) (h2.goes (w32_bd _)) (by omega)
 ·obtain ⟨h1, t1⟩ := h.get (by omega) hr
  have p1 := Px.get s r
  dsimp only
  rw [← p1.x]
  obtain ⟨h2, t2⟩ := h1.K (by omega) h1.b.2.2
  have h3 := h2.push (by omega) t2
  exact Mv.f (by omega) (h3.goesTo ((Px.push _ _).gv ((Px.put _ _).gv t1))) (by omega)
 ·obtain ⟨h1, t1⟩ := h.pop (by omega)
  exact Mv.f (by omega) (h1.goesTo t1) (by omega)
 ·obtain ⟨h1, t1⟩ := h.get (by omega) hr
  exact Mv.g (by omega) ((h1.push (by omega) t1).watch (by omega)) (by omega) (by omega)
 ·obtain ⟨h1, t1⟩ := h.pop (by omega)
  exact Mv.g (by omega) (h1.set (by omega) hd t1) (by omega) (by omega)
 ·obtain ⟨h1, t1⟩ := h.now (by omega)
  exact Mv.g (by omega) ((h1.push (by omega) t1).watch (by omega)) (by omega) (by omega)
 ·obtain ⟨h1, t1⟩ := h.pop (by omega)
  dsimp only
  generalize s.pop = v at h1 t1 ⊢
  obtain ⟨h2, t2⟩ := h1.K (x := 15) (by omega) (by decide)
  obtain ⟨h3, t3⟩ := h2.B (w := 2) (by omega) (by decide) ((Px.put _ _).gv t1) t2
  exact Mv.g (by omega) (h3.flag (f := 0) (by omega) (by decide) (.inl rfl) (.inl rfl) (.inr t3) (fun _ => t3)) (by omega) (by omega)
 ·exact absurd ho (by omega)
theorem plain_1 (s : Lk) {o : Int} (d r : Nat) (f m : Int) (ho : 0 ≤ o ∧ o < 32) : (s.plain o d r f m).1 = decide (o = 0 ∨ 16 ≤ o) := by
 by_cases h : o = 0 ∨ 16 ≤ o
 ·rw [decide_eq_true h]
  rcases (show o = 0 ∨ o = 16 ∨ o = 17 ∨ o = 18 ∨ o = 19 ∨ o = 20 ∨ o = 21 ∨ o = 22 ∨ o = 23 ∨ o = 24 ∨ o = 25 ∨ o = 26 ∨ o = 27 ∨ o = 28 ∨ o = 29 ∨ o = 30 ∨ o = 31 by omega) with rfl | rfl | rfl | rfl | rfl | rfl | rfl | rfl | rfl | rfl | rfl | rfl | rfl | rfl | rfl | rfl | rfl <;> rfl
 ·rw [decide_eq_false h]
  unfold Lk.plain
  rw [if_neg (by omega), if_neg (by omega), if_neg (by omega), if_neg (by omega), if_neg (by omega), if_neg (by omega), if_neg (by omega), if_neg (by omega), if_neg (by omega), if_neg (by omega), if_neg (by omega), if_neg (by omega), if_neg (by omega)]
theorem Gd.one (h : Gd N k s) (hk : k < 60) {o f m : Int} (ho : 0 ≤ o ∧ o < 32) {d r : Nat} (hd : d < 8) (hr : r < 8) (hf : 0 ≤ f ∧ f < 16) (h30 : o = 30 → f < 5) (h31 : o = 31 → f < 3) (hm : 0 ≤ m ∧ m < 4294967296) : Mv N k o (s.one o d r f m) := by
 unfold Lk.one
 have hp := plain_1 s d r f m ho
 refine Mv.if_ (fun e => ?_) (fun e => ?_)
 ·rw [hp, decide_eq_true_eq] at e
  exact Mv.g (by omega) (h.plain hk hd hr hf h30 h31 hm (by rw [hp]; exact decide_eq_true e)) (by omega) (by omega)
 ·rw [hp, decide_eq_true_eq] at e
  exact h.moves hk (by omega) (by omega) hd hr hf hm
open Ot (OwnO OB)
/-- what does not change -/
structure Kc where
 h : Nat
 base : Nat
/-- the block of the operations -/
def own (K : Kc) (W : World) (i : Nat) : Prop := ∃ v, W.cell? ⟨K.h, 3, none⟩ = some v ∧ v.ownBlock = some i
/-- what may change -/
def SW (K : Kc) (W : World) : Nat → Prop := fun i => i = K.h ∨ own K W i
/-- nothing but the maker's blocks has changed -/
structure UW (K : Kc) (W W' : World) : Prop where
 u : Upto (SW K W) W W'
 ow : ∀ i, own K W' i → own K W i ∨ W.heap.size ≤ i
theorem UW.refl (K : Kc) (W : World) : UW K W W := ⟨Upto.refl _ _, fun i h => .inl h⟩
theorem UW.trans {K : Kc} {a b c : World} (h : UW K a b) (k : UW K b c) : UW K a c :=
 ⟨⟨k.u.os.trans h.u.os, k.u.tape.trans h.u.tape, k.u.output.trans h.u.output, Nat.le_trans h.u.size k.u.size, fun i hi hs => (k.u.block i (Nat.lt_of_lt_of_le hi h.u.size) fun e => by
   rcases e with e | e
   ·exact hs (.inl e)
   ·rcases h.ow i e with e | e
    ·exact hs (.inr e)
    ·omega).trans (h.u.block i hi hs)⟩,
  fun i e => (k.ow i e).elim (h.ow i) fun e => .inr (Nat.le_trans h.u.size e)⟩
theorem UW.quiet {K : Kc} {W W' : World} (hl : K.h < W.heap.size) (u : Upto (fun _ => False) W W') : UW K W W' :=
 ⟨u.mono fun _ _ h => h.elim, fun i ⟨v, h1, h2⟩ => .inl ⟨v, (u.cell (q := ⟨K.h, 3, none⟩) hl id).symm.trans h1, h2⟩⟩
theorem UW.below {K : Kc} {W W' : World} (hl : K.h < W.heap.size) (u : Below W.heap.size W W') : UW K W W' := UW.quiet hl (Upto.of_below u)
theorem UW.alloc {K : Kc} {W : World} (hl : K.h < W.heap.size) (o : Obj) : UW K W (W.alloc o) := UW.quiet hl ((Upto.refl _ W).alloc o)
theorem UW.drew {K : Kc} {W : World} (hl : K.h < W.heap.size) : UW K W W.drew := UW.quiet hl (Upto.refl _ W).drew
theorem UW.setH {K : Kc} {W : World} (j : Nat) (hj : j ≠ 3) (v : Value) : UW K W (W.setCell ⟨K.h, j, none⟩ v) := by
 refine ⟨(Upto.refl _ W).setCell (q := ⟨K.h, j, none⟩) (.inl (.inl rfl)) v, fun i h => ?_⟩
 obtain ⟨x, h1, h2⟩ := h
 exact .inl ⟨x, (HM.cell_other (fun e => hj e.symm)).symm.trans h1, h2⟩
theorem UW.setO {K : Kc} {W W' : World} (hl : K.h < W.heap.size) (v v' : Value) (h0 : W.cell? ⟨K.h, 3, none⟩ = some v) (nh : ¬ v.ownBlock = some K.h) (u : Upto (fun i => v.ownBlock = some i) W W') (hk : v'.ownBlock = v.ownBlock ∨ v'.ownBlock = some W.heap.size) : UW K W (W'.setCell ⟨K.h, 3, none⟩ v') := by
 refine ⟨(u.mono fun i _ e => .inr ⟨v, h0, e⟩).setCell (q := ⟨K.h, 3, none⟩) (.inl (.inl rfl)) v', fun i h => ?_⟩
 obtain ⟨x, h1, h2⟩ := h
 have e1 : (W'.setCell ⟨K.h, 3, none⟩ v').cell? ⟨K.h, 3, none⟩ = some v' := World.cell?_setCell_same _ _ _ ((u.cell (q := ⟨K.h, 3, none⟩) hl nh).trans h0)
 obtain rfl : v' = x := Option.some.inj (e1.symm.trans h1)
 rcases hk with hk | hk
 ·exact .inl ⟨v, h0, hk ▸ h2⟩
 ·rw [hk] at h2
  exact .inr (by have := Option.some.inj h2; omega)
/-- the maker's cells, but for its operations -/
def mc (s : Lk) (j : Nat) : Value :=
 if j = 0 then .int .u32 s.bpc else if j = 1 then .int .i64 s.cnt else if j = 2 then .int .i64 s.byt else if j = 4 then .int .u32 s.pc else if j = 5 then .int .u32 s.nx
 else if j < 14 then .int .i64 (s.reg (j - 6)) else if j = 14 then .bool s.kn else if j = 15 then .int .i64 s.kd else if j = 16 then .int .i64 s.fa else if j = 17 then .int .i64 s.fb else .int .i64 s.fo
structure LM (K : Kc) (s : Lk) (W : World) : Prop where
 c : ∀ j, j < 19 → j ≠ 3 → W.cell? ⟨K.h, j, none⟩ = some (mc s j)
 o : ∃ v, W.cell? ⟨K.h, 3, none⟩ = some v ∧ OwnO K.base v s.ops W
 z : ∀ j, W.frozen? ⟨K.h, j, none⟩ = false
 lh : K.h < K.base
 lb : K.base ≤ W.heap.size
variable {K : Kc} {s : Lk} {W W' : World}
theorem LM.l (a : LM K s W) : K.h < W.heap.size := Nat.lt_of_lt_of_le a.lh a.lb
theorem LM.upto {S : Nat → Prop} (a : LM K s W) (u : Upto S W W') (hS : ∀ i, S i → i < K.base ∧ i ≠ K.h ∨ W.heap.size ≤ i) : LM K s W' := by
 have hb := a.lb
 have hh := a.lh
 have nh : ¬ S K.h := fun h => (hS _ h).elim (fun e => e.2 rfl) fun e => by omega
 have e : ∀ j, W'.cell? ⟨K.h, j, none⟩ = W.cell? ⟨K.h, j, none⟩ := fun j => u.cell (q := ⟨K.h, j, none⟩) a.l nh
 obtain ⟨v, h1, h2⟩ := a.o
 exact ⟨fun j h3 h4 => (e j).trans (a.c j h3 h4), ⟨v, (e _).trans h1, h2.upto u fun k hk hs => by have := h2.blk k hk; rcases hS k hs with h | h <;> omega⟩, fun j => (u.frozen (q := ⟨K.h, j, none⟩) a.l nh).trans (a.z j), a.lh, Nat.le_trans hb u.size⟩
theorem LM.quiet (a : LM K s W) (u : Upto (fun _ => False) W W') : LM K s W' := a.upto u fun _ h => h.elim
theorem LM.below (a : LM K s W) (u : Below W.heap.size W W') : LM K s W' := a.quiet (Upto.of_below u)
theorem LM.drew (a : LM K s W) : LM K s W.drew := a.quiet (Upto.refl _ W).drew
theorem LM.alloc (a : LM K s W) (o : Obj) : LM K s (W.alloc o) := a.quiet ((Upto.refl _ W).alloc o)
theorem LM.putC (a : LM K s W) (i : Nat) (v : Value) (s' : Lk) (hi : i ≠ 3) (ho : s'.ops = s.ops) (e : ∀ j, j < 19 → j ≠ 3 → mc s' j = if j = i then v else mc s j) : LM K s' (W.setCell ⟨K.h, i, none⟩ v) := by
 have u : Upto (fun i => i = K.h) W (W.setCell ⟨K.h, i, none⟩ v) := (Upto.refl (fun i => i = K.h) W).setCell (q := ⟨K.h, i, none⟩) (.inl rfl) _
 obtain ⟨x, h1, h2⟩ := a.o
 refine ⟨fun j h3 h4 => ?_, ⟨x, (HM.cell_other (fun e => hi e.symm)).trans h1, by rw [ho]; exact h2.upto u fun k hk e => by have := (h2.blk k hk).1; have := a.lh; omega⟩, fun j => by simpa using a.z j, a.lh, by simpa using a.lb⟩
 rw [e j h3 h4]
 by_cases ej : j = i
 ·subst ej; rw [if_pos rfl]; exact World.cell?_setCell_same _ _ _ (a.c j h3 h4)
 ·rw [if_neg ej, HM.cell_other ej]; exact a.c j h3 h4
theorem LM.setReg (a : LM K s W) (r : Nat) (hr : r < 8) (x : Int) : LM K (s.setR r x) (W.setCell ⟨K.h, 6 + r, none⟩ (.int .i64 x)) := by
 refine a.putC (6 + r) _ _ (by omega) rfl fun j hj h3 => ?_
 by_cases e : j = 6 + r
 ·subst e
  rw [if_pos rfl]
  unfold mc
  rw [if_neg (by omega), if_neg (by omega), if_neg (by omega), if_neg (by omega), if_neg (by omega), if_pos (by omega)]
  show Value.int .i64 (upd s.reg r x (6 + r - 6)) = _
  rw [show 6 + r - 6 = r by omega]; simp [upd]
 ·rw [if_neg e]
  unfold mc
  by_cases h14 : 6 ≤ j ∧ j < 14
  ·rw [if_neg (by omega), if_neg (by omega), if_neg (by omega), if_neg (by omega), if_neg (by omega), if_pos h14.2, if_neg (by omega), if_neg (by omega), if_neg (by omega), if_neg (by omega), if_neg (by omega), if_pos h14.2]
   show Value.int .i64 (upd s.reg r x (j - 6)) = _
   simp [upd, show ¬ j - 6 = r by omega]
  ·by_cases h6 : j < 6
   ·rcases (show j = 0 ∨ j = 1 ∨ j = 2 ∨ j = 4 ∨ j = 5 by omega) with rfl | rfl | rfl | rfl | rfl <;> rfl
   ·rcases (show j = 14 ∨ j = 15 ∨ j = 16 ∨ j = 17 ∨ j = 18 by omega) with rfl | rfl | rfl | rfl | rfl <;> rfl
theorem nineteen {P : Nat → Prop} (h : P 0 ∧ P 1 ∧ P 2 ∧ P 4 ∧ P 5 ∧ P 6 ∧ P 7 ∧ P 8 ∧ P 9 ∧ P 10 ∧ P 11 ∧ P 12 ∧ P 13 ∧ P 14 ∧ P 15 ∧ P 16 ∧ P 17 ∧ P 18) : ∀ j, j < 19 → j ≠ 3 → P j := fun j hj h3 => by
 obtain ⟨p0, p1, p2, p4, p5, p6, p7, p8, p9, p10, p11, p12, p13, p14, p15, p16, p17, p18⟩ := h
 rcases (show j = 0 ∨ j = 1 ∨ j = 2 ∨ j = 4 ∨ j = 5 ∨ j = 6 ∨ j = 7 ∨ j = 8 ∨ j = 9 ∨ j = 10 ∨ j = 11 ∨ j = 12 ∨ j = 13 ∨ j = 14 ∨ j = 15 ∨ j = 16 ∨ j = 17 ∨ j = 18 by omega) with rfl | rfl | rfl | rfl | rfl | rfl | rfl | rfl | rfl | rfl | rfl | rfl | rfl | rfl | rfl | rfl | rfl | rfl <;> assumption
theorem LM.setCnt (a : LM K s W) (x : Int) : LM K { s with cnt := x } (W.setCell ⟨K.h, 1, none⟩ (.int .i64 x)) :=
 a.putC 1 _ _ (by decide) rfl (nineteen ⟨rfl, rfl, rfl, rfl, rfl, rfl, rfl, rfl, rfl, rfl, rfl, rfl, rfl, rfl, rfl, rfl, rfl, rfl⟩)
theorem LM.setByt (a : LM K s W) (x : Int) : LM K { s with byt := x } (W.setCell ⟨K.h, 2, none⟩ (.int .i64 x)) :=
 a.putC 2 _ _ (by decide) rfl (nineteen ⟨rfl, rfl, rfl, rfl, rfl, rfl, rfl, rfl, rfl, rfl, rfl, rfl, rfl, rfl, rfl, rfl, rfl, rfl⟩)
theorem LM.setPc (a : LM K s W) (x : Int) : LM K { s with pc := x } (W.setCell ⟨K.h, 4, none⟩ (.int .u32 x)) :=
 a.putC 4 _ _ (by decide) rfl (nineteen ⟨rfl, rfl, rfl, rfl, rfl, rfl, rfl, rfl, rfl, rfl, rfl, rfl, rfl, rfl, rfl, rfl, rfl, rfl⟩)
theorem LM.setNx (a : LM K s W) (x : Int) : LM K { s with nx := x } (W.setCell ⟨K.h, 5, none⟩ (.int .u32 x)) :=
 a.putC 5 _ _ (by decide) rfl (nineteen ⟨rfl, rfl, rfl, rfl, rfl, rfl, rfl, rfl, rfl, rfl, rfl, rfl, rfl, rfl, rfl, rfl, rfl, rfl⟩)
theorem LM.setF5 (a : LM K s W) (k x y o : Int) : LM K (s.setF k x y o) (((((W.setCell ⟨K.h, 14, none⟩ (.bool true)).setCell ⟨K.h, 15, none⟩ (.int .i64 k)).setCell ⟨K.h, 16, none⟩ (.int .i64 x)).setCell ⟨K.h, 17, none⟩ (.int .i64 y)).setCell ⟨K.h, 18, none⟩ (.int .i64 o)) := by
 have a1 : LM K { s with kn := true } _ := a.putC 14 (.bool true) _ (by decide) rfl (nineteen ⟨rfl, rfl, rfl, rfl, rfl, rfl, rfl, rfl, rfl, rfl, rfl, rfl, rfl, rfl, rfl, rfl, rfl, rfl⟩)
 have a2 : LM K { s with kn := true, kd := k } _ := a1.putC 15 (.int .i64 k) _ (by decide) rfl (nineteen ⟨rfl, rfl, rfl, rfl, rfl, rfl, rfl, rfl, rfl, rfl, rfl, rfl, rfl, rfl, rfl, rfl, rfl, rfl⟩)
 have a3 : LM K { s with kn := true, kd := k, fa := x } _ := a2.putC 16 (.int .i64 x) _ (by decide) rfl (nineteen ⟨rfl, rfl, rfl, rfl, rfl, rfl, rfl, rfl, rfl, rfl, rfl, rfl, rfl, rfl, rfl, rfl, rfl, rfl⟩)
 have a4 : LM K { s with kn := true, kd := k, fa := x, fb := y } _ := a3.putC 17 (.int .i64 y) _ (by decide) rfl (nineteen ⟨rfl, rfl, rfl, rfl, rfl, rfl, rfl, rfl, rfl, rfl, rfl, rfl, rfl, rfl, rfl, rfl, rfl, rfl⟩)
 exact a4.putC 18 (.int .i64 o) _ (by decide) rfl (nineteen ⟨rfl, rfl, rfl, rfl, rfl, rfl, rfl, rfl, rfl, rfl, rfl, rfl, rfl, rfl, rfl, rfl, rfl, rfl⟩)
theorem UW.setF5 (v1 v2 v3 v4 v5 : Value) : UW K W (((((W.setCell ⟨K.h, 14, none⟩ v1).setCell ⟨K.h, 15, none⟩ v2).setCell ⟨K.h, 16, none⟩ v3).setCell ⟨K.h, 17, none⟩ v4).setCell ⟨K.h, 18, none⟩ v5) :=
 ((((UW.setH 14 (by decide) v1).trans (UW.setH 15 (by decide) v2)).trans (UW.setH 16 (by decide) v3)).trans (UW.setH 17 (by decide) v4)).trans (UW.setH 18 (by decide) v5)
/-- an operation is put behind -/
theorem LM.setO (a : LM K s W) (x : Opr) (v v' : Value) (h0 : OwnO K.base v s.ops W) (u' : Upto (fun i => v.ownBlock = some i) W W') (h2 : OwnO K.base v' (s.ops ++ [x]) W') : LM K (s.put x) (W'.setCell ⟨K.h, 3, none⟩ v') := by
 have nb : ∀ i, i < K.base → ¬ v.ownBlock = some i := fun i hi e => by have := (h0.blk i e).1; omega
 have b : ∀ j, W'.cell? ⟨K.h, j, none⟩ = W.cell? ⟨K.h, j, none⟩ := fun j => u'.cell (q := ⟨K.h, j, none⟩) a.l (nb _ a.lh)
 have u : Upto (fun i => i = K.h) W' (W'.setCell ⟨K.h, 3, none⟩ v') := (Upto.refl (fun i => i = K.h) W').setCell (q := ⟨K.h, 3, none⟩) (.inl rfl) v'
 obtain ⟨x0, h1, _⟩ := a.o
 exact ⟨fun j h3 h4 => (HM.cell_other h4).trans ((b j).trans (a.c j h3 h4)), ⟨v', World.cell?_setCell_same _ _ _ ((b 3).trans h1), h2.upto u fun k hk e => by have := (h2.blk k hk).1; have := a.lh; omega⟩,
  fun j => (by simp : (W'.setCell ⟨K.h, 3, none⟩ v').frozen? ⟨K.h, j, none⟩ = W'.frozen? ⟨K.h, j, none⟩).trans ((u'.frozen (q := ⟨K.h, j, none⟩) a.l (nb _ a.lh)).trans (a.z j)), a.lh, Nat.le_trans a.lb (Nat.le_trans u'.size u.size)⟩
theorem LM.own (a : LM K s W) {i : Nat} (h : own K W i) : K.base ≤ i ∧ i < W.heap.size := by
 obtain ⟨v, h1, h2⟩ := a.o
 obtain ⟨x, h3, h4⟩ := h
 obtain rfl : v = x := Option.some.inj (h1.symm.trans h3)
 exact h2.blk i h4
theorem own_new {b : Nat} (a : LM K s W) (hb : W.heap.size ≤ b) (u : Upto (fun _ => False) W W') : ¬ Lf.own K W' b := fun h => by
 obtain ⟨v, h1, h2⟩ := h
 have := (a.own ⟨v, (u.cell (q := ⟨K.h, 3, none⟩) a.l id).symm.trans h1, h2⟩).2
 omega
open Ot (OwnO OB)
variable {K : Kc} {s : Lk}
theorem put_any (o : Opr) (w : World) (a : LM K s w) (hn : s.ops.length < 1000000000) :
  Calls Tryz.prog 54 #[.pointer (some ⟨K.h, 0, none⟩), .agg #[.int .i64 o.k, .int .i64 o.w, .int .i64 o.a, .int .i64 o.b, .int .i64 o.c, .int .u32 o.kn, .int .i64 o.n]] w fun e w' => e = .returned (.int .i64 s.n) ∧ LM K (s.put o) w' ∧ UW K w w' := by
 have a1 := a.alloc (.cells #[.int .i64 o.k, .int .i64 o.w, .int .i64 o.a, .int .i64 o.b, .int .i64 o.c, .int .u32 o.kn, .int .i64 o.n] 115)
 have hO : OB w.heap.size o (w.alloc (.cells #[.int .i64 o.k, .int .i64 o.w, .int .i64 o.a, .int .i64 o.b, .int .i64 o.c, .int .u32 o.kn, .int .i64 o.n] 115)) := OB.new w o 115
 obtain ⟨v, c0, ow⟩ := a1.o
 have l := a1.l
 obtain ⟨ao, cap, rfl, _, _⟩ := ow.form
 obtain ⟨b1, b2, b3, b4, b5, b6, b7⟩ := hO.all
 have HN := κ (show s.n = (s.ops.length : Int) from rfl)
 have HNL := κ hn
 generalize s.n = nx at HN ⊢
 have u2 : Upto (fun _ => False) (w.alloc (.cells #[.int .i64 o.k, .int .i64 o.w, .int .i64 o.a, .int .i64 o.b, .int .i64 o.c, .int .u32 o.kn, .int .i64 o.n] 115)) ((w.alloc (.cells #[.int .i64 o.k, .int .i64 o.w, .int .i64 o.a, .int .i64 o.b, .int .i64 o.c, .int .u32 o.kn, .int .i64 o.n] 115)).drew.alloc (.cells #[.int .i64 o.k, .int .i64 o.w, .int .i64 o.a, .int .i64 o.b, .int .i64 o.c, .int .u32 o.kn, .int .i64 o.n] 115)) := ((Upto.refl _ _).drew).alloc _
 have A2 := κ (a1.quiet u2)
 have OW2 := κ (ow.upto u2 fun _ _ => id)
 have U2 : Hid (UW K w ((w.alloc (.cells #[.int .i64 o.k, .int .i64 o.w, .int .i64 o.a, .int .i64 o.b, .int .i64 o.c, .int .u32 o.kn, .int .i64 o.n] 115)).drew.alloc (.cells #[.int .i64 o.k, .int .i64 o.w, .int .i64 o.a, .int .i64 o.b, .int .i64 o.c, .int .u32 o.kn, .int .i64 o.n] 115))) := (UW.alloc a.l _).trans (UW.quiet a1.l u2)
 have hB : Hid (∀ j u, o.cells[j]? = some u → ((w.alloc (.cells #[.int .i64 o.k, .int .i64 o.w, .int .i64 o.a, .int .i64 o.b, .int .i64 o.c, .int .u32 o.kn, .int .i64 o.n] 115)).drew.alloc (.cells #[.int .i64 o.k, .int .i64 o.w, .int .i64 o.a, .int .i64 o.b, .int .i64 o.c, .int .u32 o.kn, .int .i64 o.n] 115)).cell? ⟨w.heap.size + 1, j, none⟩ = some u) := fun j u hj => by
  have h := (OB.new (w.alloc (.cells #[.int .i64 o.k, .int .i64 o.w, .int .i64 o.a, .int .i64 o.b, .int .i64 o.c, .int .u32 o.kn, .int .i64 o.n] 115)).drew o 115).2 j u hj
  rw [show (w.alloc (.cells #[.int .i64 o.k, .int .i64 o.w, .int .i64 o.a, .int .i64 o.b, .int .i64 o.c, .int .u32 o.kn, .int .i64 o.n] 115)).drew.heap.size = w.heap.size + 1 by simp] at h
  exact h
 have l0 : K.h < w.heap.size := a.l
 have l1 : K.h < w.heap.size + 1 := by omega
 have lo : w.heap.size < (w.alloc (.cells #[.int .i64 o.k, .int .i64 o.w, .int .i64 o.a, .int .i64 o.b, .int .i64 o.c, .int .u32 o.kn, .int .i64 o.n] 115)).heap.size := hO.1
 have C2 := κ ((u2.cell (q := ⟨K.h, 3, none⟩) a1.l id).trans c0)
 clear a a1 hO hn u2 ow
 go_enter Tryz.func54, Tryz.ntmps54
 go_wp2
 go_region_law (refine Ot.step_op rfl (.tmp 10) (.tmp 12) rfl K.base (.slice ao s.ops.length cap) s.ops (by simp [Act.eval, Act.put]) OW2.out A2.out.lb (w.heap.size + 1) 1 o (by simp [Act.eval, Act.put]) hB.out (by have := HNL.out; omega) ?_; intro v' w2 ow' u' hk'; have nb : ¬ (Value.slice ao s.ops.length cap).ownBlock = some K.h := (fun e => by have := (OW2.out.blk _ e).1; have := A2.out.lh; omega); have cc2 : w2.cell? ⟨K.h, 3, none⟩ = some (.slice ao s.ops.length cap) := (u'.cell (q := ⟨K.h, 3, none⟩) A2.out.l nb).trans C2.out; have zz2 : w2.frozen? ⟨K.h, 3, none⟩ = false := (u'.frozen (q := ⟨K.h, 3, none⟩) A2.out.l nb).trans (A2.out.z 3); have ll2 : K.h < w2.heap.size := Nat.lt_of_lt_of_le A2.out.l u'.size; have A3 := κ (A2.out.setO o _ v' OW2.out u' ow'); have U3 := κ (U2.out.trans (UW.setO A2.out.l _ v' C2.out nb u' hk')); obtain ⟨ao', cap', hv', _⟩ := ow'.form; obtain ⟨n', hn'⟩ : ∃ n', (s.ops ++ [o]).length = n' := ⟨_, rfl⟩; rw [hn'] at hv'; have HN' := κ hn'; clear ow' u' hk' hn' nb; subst hv'; have e9 := World.cell?_setCell_same w2 ⟨K.h, 3, none⟩ (.slice ao' n' cap') cc2)
 all_goals
  generalize w2.setCell ⟨K.h, 3, none⟩ (.slice ao' n' cap') = w9 at *
 all_goals
  have en : (n' : Int) - 1 = nx := by have h := HN'.out; simp at h; have := HN.out; omega
  have b0 : 0 ≤ nx := by have := HN.out; omega
  have b1 : nx < 1000000000 := by have := HN.out; have := HNL.out; omega
  have ew : wrap64 nx = nx := Go.IntWalk.wrap64_in _ (by omega)
  clear cc2 zz2 ll2 c0 l l0 l1 lo b1 b2 b3 b4 b5 b6 b7
  go_wp2
  go_ret
  refine ⟨?_, A3.out, U3.out⟩
  show Ending.returned (.int .i64 (wrap64 nx)) = _
  rw [ew]
theorem konst_any (x : Int) (w : World) (a : LM K s w) (hn : s.ops.length < 1000000000) :
  Calls Tryz.prog 117 #[.pointer (some ⟨K.h, 0, none⟩), .int .u32 x] w fun e w' => e = .returned (.int .i64 (s.K x).1) ∧ LM K (s.K x).2 w' ∧ UW K w w' := by
 have P := κ (put_any (s := s) (K := K) ⟨1, 0, 0, 0, 0, x, 0⟩ w a hn)
 clear a hn
 go_enter Tryz.func117, Tryz.ntmps117
 go_wp2_with (go_at_call 54; refine P.out.mono ?_; rintro e w1 ⟨rfl, A1, U1⟩; have H1 := κ A1; have V1 := κ U1; clear A1 U1)
 go_ret
 exact ⟨rfl, H1.out, V1.out⟩
theorem bin_any (x y z : Int) (w : World) (a : LM K s w) (hn : s.ops.length < 1000000000) :
  Calls Tryz.prog 135 #[.pointer (some ⟨K.h, 0, none⟩), .int .i64 x, .int .i64 y, .int .i64 z] w fun e w' => e = .returned (.int .i64 (s.B x y z).1) ∧ LM K (s.B x y z).2 w' ∧ UW K w w' := by
 have P := κ (put_any (s := s) (K := K) ⟨4, x, y, z, 0, 0, 0⟩ w a hn)
 clear a hn
 go_enter Tryz.func135, Tryz.ntmps135
 go_wp2_with (go_at_call 54; refine P.out.mono ?_; rintro e w1 ⟨rfl, A1, U1⟩; have H1 := κ A1; have V1 := κ U1; clear A1 U1)
 go_ret
 exact ⟨rfl, H1.out, V1.out⟩
theorem un_any (x y : Int) (w : World) (a : LM K s w) (hn : s.ops.length < 1000000000) :
  Calls Tryz.prog 122 #[.pointer (some ⟨K.h, 0, none⟩), .int .i64 x, .int .i64 y] w fun e w' => e = .returned (.int .i64 (s.U x y).1) ∧ LM K (s.U x y).2 w' ∧ UW K w w' := by
 have P := κ (put_any (s := s) (K := K) ⟨5, x, y, 0, 0, 0, 0⟩ w a hn)
 clear a hn
 go_enter Tryz.func122, Tryz.ntmps122
 go_wp2_with (go_at_call 54; refine P.out.mono ?_; rintro e w1 ⟨rfl, A1, U1⟩; have H1 := κ A1; have V1 := κ U1; clear A1 U1)
 go_ret
 exact ⟨rfl, H1.out, V1.out⟩
theorem sel_any (x y z : Int) (w : World) (a : LM K s w) (hn : s.ops.length < 1000000000) :
  Calls Tryz.prog 186 #[.pointer (some ⟨K.h, 0, none⟩), .int .i64 x, .int .i64 y, .int .i64 z] w fun e w' => e = .returned (.int .i64 (s.S x y z).1) ∧ LM K (s.S x y z).2 w' ∧ UW K w w' := by
 have P := κ (put_any (s := s) (K := K) ⟨6, 0, x, y, z, 0, 0⟩ w a hn)
 clear a hn
 go_enter Tryz.func186, Tryz.ntmps186
 go_wp2_with (go_at_call 54; refine P.out.mono ?_; rintro e w1 ⟨rfl, A1, U1⟩; have H1 := κ A1; have V1 := κ U1; clear A1 U1)
 go_ret
 exact ⟨rfl, H1.out, V1.out⟩
theorem slot_any (x y : Int) (w : World) (a : LM K s w) (hn : s.ops.length < 1000000000) :
  Calls Tryz.prog 182 #[.pointer (some ⟨K.h, 0, none⟩), .int .i64 x, .int .i64 y] w fun e w' => e = .returned (.tuple #[]) ∧ LM K (s.slot x y) w' ∧ UW K w w' := by
 have P := κ (put_any (s := s) (K := K) ⟨3, x, y, 0, 0, 0, 0⟩ w a hn)
 clear a hn
 go_enter Tryz.func182, Tryz.ntmps182
 go_wp2_with (go_at_call 54; refine P.out.mono ?_; rintro e w1 ⟨rfl, A1, U1⟩; have H1 := κ A1; have V1 := κ U1; clear A1 U1)
 go_end0
 exact ⟨rfl, H1.out, V1.out⟩
end Go.Proofs.YtcjcmnnhmajocabGreat.Lf
namespace Go.Proofs.YtcjcmnnhmajocabGreat.Kt
open Go.RowKit
variable {P : Program} {ops : Array Oper} {S : World → Prop} {op : Oper} {a : Act}
theorem yl_mov (hw : Region.wanted op (yielded ops a.tmps) = true) (x : Operand) (ho : op.op = .move x) (v : Value) (hx : a.eval x = v) : YieldsIf P ops S op v a :=
 .inl ⟨hw, fun w _ => by unfold execOp; simp only [ho, hx]; rfl⟩
theorem yl_asg (hw : Region.wanted op (yielded ops a.tmps) = true) (x : Operand) (ho : op.op = .assign x) (v : Value) (hx : a.eval x = v) : YieldsIf P ops S op v a :=
 .inl ⟨hw, fun w _ => by unfold execOp; simp only [ho, hx]; rfl⟩
theorem yl_fld (hw : Region.wanted op (yielded ops a.tmps) = true) (t : TypeId) (x : Operand) (k : Nat) (ho : op.op = .fieldAddr t x k) (u v : Value) (hx : a.eval x = u) (hf : ∀ w : World, (Instr.fieldAt t u k).run P w = .ok v w) : YieldsIf P ops S op v a :=
 .inl ⟨hw, fun w _ => by unfold execOp; simp only [ho, hx, Sem.run_bind, hf w, Result.andThen_ok]; rfl⟩
theorem yl_ld (hw : Region.wanted op (yielded ops a.tmps) = true) (t : TypeId) (x : Operand) (ho : op.op = .load t x) (u v : Value) (hx : a.eval x = u) (hl : ∀ w, S w → (Instr.loadAt t u).run P w = .ok v w) : YieldsIf P ops S op v a :=
 .inl ⟨hw, fun w h => by unfold execOp; simp only [ho, hx, Sem.run_bind, hl w h, Result.andThen_ok]; rfl⟩
variable {P : Program} {ops : Array Oper} {S : World → Prop} {op : Oper} {a : Act}
theorem yl_nil (hw : Region.wanted op (yielded ops a.tmps) = true) (x : Operand) (ho : op.op = .nilCheck x) (p : Addr) (hx : a.eval x = .pointer (some p)) : YieldsIf P ops S op (.pointer (some p)) a :=
 .inl ⟨hw, fun w _ => by unfold execOp; simp only [ho, hx]; rfl⟩
theorem yl_cnv (hw : Region.wanted op (yielded ops a.tmps) = true) (s d : TypeId) (x : Operand) (ho : op.op = .convert s d x) (u v : Value) (hx : a.eval x = u) (hf : ∀ w : World, (convert s d u).run P w = .ok v w) : YieldsIf P ops S op v a :=
 .inl ⟨hw, fun w _ => by unfold execOp; simp only [ho, hx, Sem.run_bind, hf w, Result.andThen_ok]; rfl⟩
theorem yl_bld (hw : Region.wanted op (yielded ops a.tmps) = true) (t : TypeId) (ps : Array (Nat × Operand)) (ho : op.op = .build t ps) (us : Array (Nat × Value)) (v : Value) (hx : (ps.map fun (i, x) => (i, a.eval x)) = us) (hf : ∀ w : World, (Instr.build t us).run P w = .ok v w) : YieldsIf P ops S op v a :=
 .inl ⟨hw, fun w _ => by unfold execOp; simp only [ho, hx, Sem.run_bind, hf w, Result.andThen_ok]; rfl⟩
end Go.Proofs.YtcjcmnnhmajocabGreat.Kt
