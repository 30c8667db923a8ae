/- mem.Memory.Changed. -/
import Derived.Test.YtcjcmnnhmajocaaMeK
namespace Go.Proofs.Ytcjcmnnhmajocaa.Me
open Go.RowKit Kt
set_option linter.unusedVariables false
set_option linter.unusedSimpArgs false
theorem i64_info : ∃ i, Try.prog.info? 3 = some i ∧ i.zero = some (.int .i64 0) ∧ i.size = 1 ∧ i.bytes = 8 := by
  have h : (Try.prog.info? 3).map (fun i => (i.zero, i.size, i.bytes)) = some (some (.int .i64 0), 1, 8) := by kernel_rfl
  obtain ⟨i, hi, hz⟩ := Option.map_eq_some_iff.1 h
  simp only [Prod.mk.injEq] at hz
  exact ⟨i, hi, hz.1, hz.2.1, hz.2.2⟩
/-- a slice of the call's own, of ints -/
def OwnI (base : Nat) (v : Value) (us : List Int) (w : World) : Prop := w.ownsRow base 3 1 v us.length (us.map (Value.int .i64))
theorem OwnI.nil (base : Nat) (w : World) : OwnI base (.slice none 0 0) [] w := World.ownsRow_nil w _ _ _
/-- append of one int -/
theorem ap_int {ops : Array Oper} {rest : List Oper} {o : Oper} {a : Act} {Q : Exit → Act → World → Prop} {w : World} (hgd : o.guard = none) (s x : Operand)
    (ho : o.op = .call { callee := .builtin .append, args := #[s, x], argTypes := #[106, 106] })
    (base : Nat) (v : Value) (xs : List Int) (hs : a.eval s = v) (hown : OwnI base v xs w) (hbase : base ≤ w.heap.size)
    (g c : Nat) (x0 : Int) (hx : a.eval x = .slice (some ⟨g, 0, none⟩) 1 c) (hc : w.cell? ⟨g, 0, none⟩ = some (.int .i64 x0)) (hb : xs.length + 1 ≤ 17592186044416)
    (h : ∀ v' w', OwnI base v' (xs ++ [x0]) w' → Below base w w' → wpList Try.prog ops Q rest (a.put o.dst v') w') : wpList Try.prog ops Q (o :: rest) a w := by
  obtain ⟨i, hi, hz, hsz, hby⟩ := i64_info
  have hmx : (maxLen : Nat) = 9223372036854775807 := rfl
  have hown' := hown
  refine wpList_append_own w hgd s x 106 ho base 3 i (.int .i64 0) 1 8 Try.underlying106 hi hz hsz hby rfl Nat.one_pos v xs.length (xs.map (Value.int .i64)) hs hown ⟨g, 0, none⟩ 1 c [.int .i64 x0] hx rfl ?_ ?_ (by omega) (by omega) hbase (fun v' w' hv hg _ => h v' w' ?_ ((Below.refl _ _).grown hg hbase (fun k hk => ?_)))
  · intro j u hj
    match j, hj with
    | 0, hj => simp only [List.getElem?_cons_zero, Option.some.injEq] at hj; subst hj; exact hc
    | j + 1, hj => simp at hj
  · intro u hu
    simp only [List.mem_singleton] at hu
    subst hu; rfl
  · unfold OwnI
    rw [List.map_append, List.length_append]; exact hv
  · rcases hown'.2 with ⟨rfl, _⟩ | ⟨g, cap, cur, rfl, e2, _⟩
    · cases hk
    · simp only [Value.ownBlock, Option.some.injEq] at hk
      omega
theorem OwnI.keep {base : Nat} {v : Value} {us : List Int} {w w' : World} (h : OwnI base v us w) (hb : Below w.heap.size w w') : OwnI base v us w' :=
  World.ownsRow.kept (row := none) h ⟨hb.os, hb.tape, hb.output, hb.size, fun k hk _ => hb.block k hk⟩ (by cases v.ownBlock <;> simp)
theorem OwnI.setCells {base : Nat} {v : Value} {us : List Int} (p : Nat) (at_ : Nat) (vs : List Value) : ∀ {w : World} , OwnI base v us w → p < base → OwnI base v us (w.setCells p at_ vs) := by
  induction vs generalizing at_ with
  | nil => exact fun h _ => h
  | cons b bs ih => exact fun h hp => ih (at_ + 1) (ownsRow_setCell_below h (a := ⟨p, at_, none⟩) hp b) hp
/-- the told pages -/
def tlN (f : Nat → Bool) (n : Nat) : List Int := ((List.range n).filter f).map Int.ofNat
theorem tlN_succ (f : Nat → Bool) (n : Nat) : tlN f (n + 1) = tlN f n ++ (if f n = true then [(n : Int)] else []) := by
  unfold tlN
  rw [List.range_succ, List.filter_append, List.map_append]
  congr 1
  by_cases h : f n = true <;> simp [List.filter, h]
theorem tlN_len (f : Nat → Bool) (n : Nat) : (tlN f n).length ≤ n := by
  unfold tlN; rw [List.length_map]
  exact Nat.le_trans (List.length_filter_le _ _) (by simp)
def fls (n : Nat) : List Value := List.replicate n (.bool false)
theorem fls_len (n : Nat) : (fls n).length = n := by simp [fls]
theorem clear_run (p : Nat) (M : MM) (N : Int) (w : World) (h : HM p M N w) (ty : TypeId) :
    (Builtin.clear_ #[65] ty #[.slice (some ⟨p, 66048, none⟩) 256 256]).run Try.prog w = .ok (.tuple #[]) (w.setCells p 66048 (fls 256)) := by
  have hz : ∀ w, (zeroValue 4).run Try.prog w = .ok (.bool false) w := fun w => by kernel_rfl
  have hst := run_storeCells_cells (P := Try.prog) p 66048 (fls 256) 0 w (fun j hj => ?_) (fun j hj => h.2.2.2.2.2.1 _) (fun v hv => ?_)
  · have e : (Builtin.zeroCells (Value.bool false).cells 256).toList = fls 256 := by kernel_rfl
    have hu := run_underlying (P := Try.prog) (w := w) Try.underlying65
    rw [Nat.add_zero] at hst
    simp only [Builtin.clear_, List.getElem?_toArray, List.getElem?_cons_zero, Sem.run_bind, hu, Result.andThen_ok, hz, e, hst]
    rfl
  · rw [fls_len] at hj
    rw [Nat.add_zero, h.2.2.2.1 j hj]; rfl
  · unfold fls at hv
    rw [List.eq_of_mem_replicate hv]; rfl
theorem HM.setFls {p : Nat} {N : Int} (m : Nat) : ∀ (M : MM) (o : Nat) (W : World), HM p M N W → o + m ≤ 256 → HM p { M with hi := fun j => if o ≤ j ∧ j < o + m then false else M.hi j } N (W.setCells p (66048 + o) (fls m)) := by
  induction m with
  | zero =>
    intro M o W h _
    have e : (fun j => if o ≤ j ∧ j < o + 0 then false else M.hi j) = M.hi := by funext j; rw [if_neg (by omega)]
    rw [e]; exact h
  | succ m ih =>
    intro M o W h ho
    have h1 := ih { M with hi := upd M.hi o false } (o + 1) _ (h.setHi o (by omega) false) (by omega)
    have e : (fun j => if o + 1 ≤ j ∧ j < o + 1 + m then false else upd M.hi o false j) = fun j => if o ≤ j ∧ j < o + (m + 1) then false else M.hi j := by
      funext j
      unfold upd
      by_cases hj : j = o
      · subst hj
        rw [if_neg (by omega), if_pos rfl, if_pos (by omega)]
      · rw [if_neg hj]
        by_cases hr : o + 1 ≤ j ∧ j < o + 1 + m
        · rw [if_pos hr, if_pos (by omega)]
        · rw [if_neg hr, if_neg (by omega)]
    simp only [e] at h1
    rw [show 66048 + (o + 1) = 66048 + o + 1 by omega] at h1
    exact h1
theorem HM.congr {p : Nat} {M M' : MM} {n : Int} {W : World} (h : HM p M n W) (e1 : ∀ j, j < 65536 → M'.by_ j = M.by_ j) (e2 : ∀ j, j < 256 → M'.rt j = M.rt j) (e3 : ∀ j, j < 256 → M'.wd j = M.wd j) (e4 : ∀ j, j < 256 → M'.hi j = M.hi j) : HM p M' n W := by
  obtain ⟨h1, h2, h3, h4, h5, h6, h7⟩ := h
  exact ⟨fun j hj => by rw [e1 j hj]; exact h1 j hj, fun j hj => by rw [e2 j hj]; exact h2 j hj, fun j hj => by rw [e3 j hj]; exact h3 j hj, fun j hj => by rw [e4 j hj]; exact h4 j hj, h5, h6, h7⟩
/-- nothing is told any longer -/
def clr (M : MM) : MM := { M with hi := fun _ => false }
theorem HM.clr {p : Nat} {M : MM} {N : Int} {W : World} (h : HM p M N W) : HM p (clr M) N (W.setCells p 66048 (fls 256)) :=
  (HM.setFls 256 M 0 W h (by omega)).congr (fun _ _ => rfl) (fun _ _ => rfl) (fun _ _ => rfl) (fun j hj => by show false = _; simp [hj])
theorem new1 (w : World) (v : Value) (t : TypeId) : (w.alloc (.cells #[v] t)).cell? ⟨w.heap.size, 0, none⟩ = some v := by
  rw [cell_of_row _ _ _ _ _ _ (heap_alloc_new w (.cells #[v] t))]; rfl
theorem slice_run_all (p : Nat) (w : World) : (Instr.sliceAt 122 (.pointer (some ⟨p, 66048, none⟩)) none none none).run Try.prog w = .ok (.slice (some ⟨p, 66048, none⟩) 256 256) w := by
  have f1 : Try.prog.arrayLen 122 = 256 := by kernel_rfl
  have f2 : Try.prog.underlying 122 = some (.array (Try.prog.arrayLen 122) (Try.prog.elem 122)) := by kernel_rfl
  have f3 : Try.prog.elem 122 = 4 := by kernel_rfl
  have f4 : (sizeOf 4).run Try.prog w = .ok 1 w := by kernel_rfl
  rw [run_sliceAt_array_all w 122 ⟨p, 66048, none⟩ f2, f3, f4, f1]
  simp only [Result.andThen, slicedAt]
  rw [if_neg (by omega)]
  rfl
set_option maxRecDepth 100000 in
set_option maxHeartbeats 4000000 in
theorem changed_any (p : Nat) (M : MM) (w : World) (h : HC p M w) :
    Calls Try.prog 82 #[.pointer (some ⟨p, 0, none⟩)] w fun e w' => ∃ v, e = .returned v ∧ OwnI w.heap.size v (tlN M.hi 256) w' ∧ HC p (clr M) w' ∧ Upto (fun i => i = p) w w' := by
  have hp := h.2.2.2.2.2.2
  have HS := Lib.hid (slice_run_all p)
  have HCL := Lib.hid (fun (w : World) (h : HC p M w) => clear_run p M (cnt M.hi) w h 0)
  have HH := Lib.hid h
  clear h
  go_enter Try.func82, Try.ntmps82
  go_wp2
  go_loopg [3, 5] 256 (fun g v i wr => ∃ k : Nat, g = 256 - k ∧ k ≤ 256 ∧ i = .int .i64 k ∧ Hid (OwnI w.heap.size v (tlN M.hi k) wr) ∧ Hid (Below w.heap.size w wr))
  case atStart => exact ⟨0, rfl, Nat.zero_le _, rfl, OwnI.nil _ _, Below.refl _ _⟩
  case round =>
    obtain ⟨k, hg, hk, rfl, HO, HB⟩ := hrel
    by_cases hlt : k < 256
    · have hlt' : (k : Int) < 256 := by omega
      have hge' : (0 : Int) ≤ (k : Int) := by omega
      have c4 := (HB.out.cell (p := ⟨p, 66048 + k, none⟩) hp).trans (HH.out.2.2.2.1 k hlt)
      have hsn := Lib.hid (tlN_succ M.hi k)
      have hln := tlN_len M.hi k
      rcases hb : M.hi k with _ | _
      · rw [hb] at c4 hsn
        clear hb
        go_wp2
        go_roundg (256 - (k + 1))
        case measure => omega
        case rel => exact ⟨k + 1, rfl, by omega, by simp, by show OwnI _ _ (tlN M.hi (k + 1)) _; rw [hsn.out]; simpa using HO.out, HB.out⟩
      · rw [hb] at c4 hsn
        clear hb
        go_wp2_with (at_builtin; refine ap_int rfl (.tmp 14) (.tmp 16) rfl w.heap.size _ (tlN M.hi k) rfl (HO.out.keep ((Below.refl _ _).alloc (Nat.le_refl _) _)) (Nat.le_trans HB.out.size (by simp)) wr.heap.size 1 k rfl (new1 _ _ _) (by omega) ?_; intro v' w2 hv hbb)
        go_roundg (256 - (k + 1))
        case measure => omega
        case rel => exact ⟨k + 1, rfl, by omega, by simp, by show OwnI _ _ (tlN M.hi (k + 1)) _; rw [hsn.out]; simpa using hv, (HB.out.alloc HB.out.size _).trans hbb⟩
    · obtain rfl : k = 256 := by omega
      clear hlt
      have hb2 := HB.out
      have H2 := Lib.hid (HM.upto HH.out (Upto.of_below (S := fun _ => False) hb2) id)
      have hcl := HCL.out wr H2.out
      have hsl := HS.out wr
      have H3 := Lib.hid (H2.out.clr)
      have c5 := H3.out.2.2.2.2.1
      have z5 := H3.out.2.2.2.2.2.1 66304
      have U3 := Lib.hid (Upto.setCells (S := fun i => i = p) rfl (fls 256) _ 66048 (Upto.of_below (S := fun i => i = p) hb2))
      have HO3 := Lib.hid (OwnI.setCells p 66048 (fls 256) HO.out hp)
      have hpw := Nat.lt_of_lt_of_le hp hb2.size
      clear hb2
      generalize wr.setCells p 66048 (fls 256) = W3 at hcl H3 c5 z5 U3 HO3
      go_wp2
      go_ret
      refine ⟨_, rfl, ?_, ?_, ?_⟩
      · exact ownsRow_setCell_below HO3.out hp _
      · have h9 := H3.out.setN 0
        unfold HC
        rw [show cnt (clr M).hi = 0 from cnt_no]
        exact h9
      · exact U3.out.setCell (q := ⟨p, 66304, none⟩) (.inl rfl) _
end Go.Proofs.Ytcjcmnnhmajocaa.Me
