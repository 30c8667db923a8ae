/- crossgrainref1.Encode. -/
import Derived.Test.YtcjcmnnhmajocaaGuC
import Derived.Test.YtcjcmnnhmajocaaGuI
import Derived.Test.YtcjcmnnhmajocaaGuA
import Derived.Test.YtcjcmnnhmajocaaGuQ
import Derived.Laws.AppendOwn
import Derived.ArgAppend
namespace Go.Proofs.Ytcjcmnnhmajocaa.Gu
open Go.RowKit Kt
set_option linter.unusedVariables false
set_option linter.unusedSimpArgs false
/-- a letter's bytes -/
def wl (d s f m c : Int) : List Int :=
  if c = 98 ∨ c = 115 then [m % 256]
  else if c = 119 then [m % 256, m / 256 % 256, m / 65536 % 256, m / 16777216]
  else if c = 100 then [d]
  else if c = 101 then [s]
  else if c = 112 then [16 * d + s]
  else if c = 99 then [16 * f + d]
  else []
def wls (d s f m : Int) : List UInt8 → List Int
  | [] => []
  | c :: l => wl d s f m (c.toNat : Int) ++ wls d s f m l
theorem wls_take (d s f m : Int) (l : List UInt8) (q : Nat) (hq : q < l.length) : wls d s f m (l.take (q + 1)) = wls d s f m (l.take q) ++ wl d s f m ((l.getD q 0).toNat : Int) := by
  induction l generalizing q with
  | nil => simp at hq
  | cons c l ih =>
    cases q with
    | zero => simp [wls]
    | succ q =>
      simp only [List.length_cons] at hq
      rw [List.take_succ_cons, List.take_succ_cons, wls, wls, ih q (by omega), List.append_assoc]
      simp
theorem wl_len (d s f m c : Int) : (wl d s f m c).length ≤ 4 := by
  unfold wl
  split
  · simp
  split
  · simp
  split
  · simp
  split
  · simp
  split
  · simp
  split <;> simp
theorem wls_len (d s f m : Int) (l : List UInt8) : (wls d s f m l).length ≤ 4 * l.length := by
  induction l with
  | nil => simp [wls]
  | cons c l ih =>
    have := wl_len d s f m (c.toNat : Int)
    rw [wls, List.length_append, List.length_cons]
    omega
/-- a slice of bytes that is ours: as it was made, or behind an append -/
def Sv (C b0 : Nat) (v : Value) (xs : List Int) (w : World) : Prop :=
  (∃ x, xs = [x] ∧ v = .slice (some ⟨b0, 0, none⟩) 1 1 ∧ b0 < C ∧ w.heap[b0]? = some (.cells #[.int .u8 x] 5 (0, 0))) ∨ w.ownsRow C 5 1 v xs.length (xs.map (Value.int .u8))
theorem Sv.alloc {C b0 : Nat} {v : Value} {xs : List Int} {w : World} (h : Sv C b0 v xs w) (hC : C ≤ w.heap.size) (ob : Obj) : Sv C b0 v xs (w.alloc ob) := by
  rcases h with ⟨x, h1, h2, h3, h4⟩ | ⟨h1, h⟩
  · exact .inl ⟨x, h1, h2, h3, (Below.heap_alloc w ob _ (lt_of_block h4)).trans h4⟩
  · refine .inr ⟨h1, ?_⟩
    rcases h with h | ⟨g, cap, cur, e1, e2, e3, e4⟩
    · exact .inl h
    · exact .inr ⟨g, cap, cur, e1, e2, (Below.heap_alloc w ob _ (lt_of_block e3)).trans e3, e4⟩
theorem Sv.bs {C b0 : Nat} {v : Value} {xs : List Int} {w : World} (h : Sv C b0 v xs w) (hx : 0 < xs.length) : ∃ g cap, v = .slice (some ⟨g, 0, none⟩) xs.length cap ∧ Bs xs (some ⟨g, 0, none⟩) cap w ∧ (g = b0 ∨ C ≤ g) := by
  rcases h with ⟨x, rfl, h2, h3, h4⟩ | ⟨h1, h⟩
  · refine ⟨b0, 1, h2, ⟨Nat.le_refl _, by unfold maxLen; omega, fun _ => ⟨b0, 0, rfl, lt_of_block h4, fun j hj => ?_⟩⟩, .inl rfl⟩
    obtain rfl : j = 0 := by simpa using hj
    rw [(rowcells h4).1]; rfl
  · rcases h with ⟨_, h⟩ | ⟨g, cap, cur, e1, e2, e3, e4, e5, e6, e7⟩
    · omega
    · refine ⟨g, cap, e1, ⟨e4, e5, fun _ => ⟨g, 0, rfl, lt_of_block e3, fun j hj => ?_⟩⟩, .inr e2⟩
      rw [Nat.zero_add, (rowcells e3).1 j, ← Array.getElem?_toList]
      have h2 : (cur.toList.take (xs.length * 1))[j]? = (xs.map (Value.int .u8))[j]? := by rw [e7]
      rw [Nat.mul_one, List.getElem?_take, if_pos hj, List.getElem?_map] at h2
      rw [h2, List.getElem?_eq_getElem hj, List.getD_eq_getElem?_getD, List.getElem?_eq_getElem hj]
      rfl
theorem new_cells (w : World) (news : List Int) {cs : Array Value} (hcs : cs = (news.map (Value.int .u8)).toArray) {m : Nat} (hm : news.length = m := by rfl) :
    ∀ j, j < m → (w.alloc (.cells cs 5)).cell? ((⟨w.heap.size, 0, none⟩ : Addr).add j) = some (.int .u8 (news.getD j 0)) := by
  intro j hj
  subst hcs
  rw [Addr.add_lit, Nat.zero_add, (rowcells (heap_alloc_new w (.cells (news.map (Value.int .u8)).toArray 5))).1]
  rw [List.getElem?_toArray, List.getElem?_map, List.getElem?_eq_getElem (by omega), List.getD_eq_getElem?_getD, List.getElem?_eq_getElem (by omega)]
  rfl
theorem ap_any {ops : Array Oper} {rest : List Oper} {o : Oper} {a : Act} {Q : Exit → Act → World → Prop} {w : World} (hgd : o.guard = none) (s x : Operand)
    (ho : o.op = .call { callee := .builtin .append, args := #[s, x], argTypes := #[54, 54] })
    (C b0 : Nat) (v : Value) (xs : List Int) (hs : a.eval s = v) (hst : Sv C b0 v xs w) (hx0 : 0 < xs.length) (hC : C ≤ w.heap.size)
    (ad : Addr) (m c : Nat) (news : List Int) (hx : a.eval x = .slice (some ad) m c) (hl : news.length = m) (hm : 0 < m) (hnews : ∀ j, j < m → w.cell? (ad.add j) = some (.int .u8 (news.getD j 0))) (hb : xs.length + m ≤ 1000)
    (h : ∀ v' w', Sv C b0 v' (xs ++ news) w' → Below C w w' → wpList Try.prog ops Q rest (a.put o.dst v') w') : wpList Try.prog ops Q (o :: rest) a w := by
  obtain ⟨i, hi, hz, hsz, hby⟩ := u8_info
  have hn : ∀ j u, (news.map (Value.int .u8))[j]? = some u → w.cell? (ad.add j) = some u := by
    intro j u hj
    rw [List.getElem?_map] at hj
    obtain ⟨z, hz, rfl⟩ := Option.map_eq_some_iff.1 hj
    have hlt := (List.getElem?_eq_some_iff.1 hz).1
    rw [hnews j (by omega), List.getD_eq_getElem?_getD, hz]; rfl
  have h1 : ∀ u ∈ news.map (Value.int .u8), u.oneCell' = true := by
    intro u hu
    obtain ⟨z, _, rfl⟩ := List.mem_map.1 hu
    rfl
  have hxl : (xs ++ news).length = xs.length + m := by rw [List.length_append, hl]
  rcases hst with ⟨x0, rfl, rfl, h3, h4⟩ | hown
  · refine wpList_append_grows w hgd s x 54 ho 5 i (.int .u8 0) 1 1 Try.underlying54 hi hz hsz hby rfl Nat.one_pos (some ⟨b0, 0, none⟩) 1 1 [.int .u8 x0] hs (fun h => nomatch h) rfl (fun b hb' j u hj => ?_) ad m c (news.map (Value.int .u8)) hx (by simp [hl]) hn h1 (by omega) (by unfold maxLen; omega) (by omega) (fun v' w' hv hg => h v' w' (.inr ?_) ((Below.refl _ _).grown hg hC (fun k h => by cases h)))
    · obtain rfl := Option.some.inj hb'
      match j, hj with
      | 0, hj =>
        simp only [List.getElem?_cons_zero, Option.some.injEq] at hj
        subst hj
        rw [Addr.add_lit, (rowcells h4).1]; rfl
      | j + 1, hj => simp at hj
    · obtain ⟨q1, q2⟩ := hv
      refine ⟨by simp, ?_⟩
      rw [hxl]
      rcases q2 with ⟨_, q⟩ | ⟨g, cap, cur, e1, e2, e3, e4⟩
      · exact absurd q (by omega)
      · exact .inr ⟨g, cap, cur, e1, by omega, e3, by simpa using e4⟩
  · have hown' := hown
    refine wpList_append_own w hgd s x 54 ho C 5 i (.int .u8 0) 1 1 Try.underlying54 hi hz hsz hby rfl Nat.one_pos v xs.length (xs.map (Value.int .u8)) hs hown ad m c (news.map (Value.int .u8)) hx (by simp [hl]) hn h1 (by unfold maxLen; omega) (by omega) hC (fun v' w' hv hg _ => h v' w' (.inr ?_) ((Below.refl _ _).grown hg hC (fun k hk => ?_)))
    · rw [List.map_append, hxl]; exact hv
    · rcases hown'.2 with ⟨rfl, _⟩ | ⟨g, cap, cur, rfl, e2, _⟩
      · cases hk
      · simp only [Value.ownBlock, Option.some.injEq] at hk
        omega
theorem Rg.one {v : Int} (h0 : 0 ≤ v) (h1 : v < 256) : Rg [v] := by
  intro j
  match j with
  | 0 => exact ⟨h0, h1⟩
  | j + 1 => simp
theorem Rg.app {a b : List Int} (ha : Rg a) (hb : Rg b) : Rg (a ++ b) := by
  intro j
  rw [List.getD_eq_getElem?_getD]
  by_cases hj : j < a.length
  · rw [List.getElem?_append_left hj, ← List.getD_eq_getElem?_getD]; exact ha j
  · rw [List.getElem?_append_right (by omega), ← List.getD_eq_getElem?_getD]; exact hb _
theorem Rg.nil : Rg [] := by intro j; simp
theorem wl_rg (d s f m : Int) (v3 : 0 ≤ d) (v4 : d ≤ 7) (v5 : 0 ≤ s) (v6 : s ≤ 7) (v7 : 0 ≤ f) (v8 : f ≤ 15) (hm : 0 ≤ m ∧ m < 4294967296) (c : Int) : Rg (wl d s f m c) := by
  unfold wl
  split
  · exact Rg.one (by omega) (by omega)
  split
  · exact Rg.app (Rg.one (by omega) (by omega)) (Rg.app (Rg.one (by omega) (by omega)) (Rg.app (Rg.one (by omega) (by omega)) (Rg.one (by omega) (by omega))))
  split
  · exact Rg.one (by omega) (by omega)
  split
  · exact Rg.one (by omega) (by omega)
  split
  · exact Rg.one (by omega) (by omega)
  split
  · exact Rg.one (by omega) (by omega)
  · exact Rg.nil
theorem wls_rg (d s f m : Int) (v3 : 0 ≤ d) (v4 : d ≤ 7) (v5 : 0 ≤ s) (v6 : s ≤ 7) (v7 : 0 ≤ f) (v8 : f ≤ 15) (hm : 0 ≤ m ∧ m < 4294967296) : ∀ l : List UInt8, Rg (wls d s f m l)
  | [] => Rg.nil
  | c :: l => Rg.app (wl_rg d s f m v3 v4 v5 v6 v7 v8 hm _) (wls_rg d s f m v3 v4 v5 v6 v7 v8 hm l)
/-- the end of crossgrainref1.Encode -/
def RRes (us : List Int) (o d s f m : Int) (w : World) (e : Ending) (w' : World) : Prop :=
  (okd us o d s f m ∧ ∃ g cap : Nat, e = .returned (.tuple #[.slice (some ⟨g, 0, none⟩) us.length cap, .int .i64 0]) ∧ Bs us (some ⟨g, 0, none⟩) cap w' ∧ w.heap.size ≤ g) ∨ (¬ okd us o d s f m ∧ e = .returned (.tuple #[.slice none 0 0, .int .i64 3]))
/-- the field that lies in the first byte -/
def lwf (fi : ByteArray) (d s f : Int) : Int := if fi = strD then d else if fi = strS then s else if fi = strO then f else 0
def badx (fn lw d s f : Int) : Bool := decide (lw < 0 ∨ fn ≤ lw ∨ d < 0 ∨ 7 < d ∨ s < 0 ∨ 7 < s ∨ f < 0 ∨ 15 < f)
set_option maxRecDepth 100000 in
set_option maxHeartbeats 4000000 in
theorem renc_out (o d s f m : Int) (h : o < 0 ∨ 31 < o) (w : World) : Calls Try.prog 43 #[.agg #[.int .i64 o, .int .i64 d, .int .i64 s, .int .i64 f, .int .u32 m]] w fun e w' => e = .returned (.tuple #[.slice none 0 0, .int .i64 2]) ∧ Below w.heap.size w w' := by
  rcases h with h | h
  · go_enter Try.func43, Try.ntmps43
    go_wp2_with (go_at_call 66; refine (forms_any _).mono ?_; rintro e w3 ⟨rfl, rfl⟩)
    refine bodyPost_ret (v := .tuple #[.slice none 0 0, .int .i64 2]) (by simp [results, Try.results43, go_sem]) rfl ⟨rfl, ?_⟩
    exact ((Below.refl _ _).alloc (Nat.le_refl _) _).alloc (by simp) _
  · have h2 : ¬ o < 0 := by omega
    have h3 : 32 ≤ o := by omega
    go_enter Try.func43, Try.ntmps43
    go_wp2_with (go_at_call 66; refine (forms_any _).mono ?_; rintro e w3 ⟨rfl, rfl⟩)
    refine bodyPost_ret (v := .tuple #[.slice none 0 0, .int .i64 2]) (by simp [results, Try.results43, go_sem]) rfl ⟨rfl, ?_⟩
    exact ((Below.refl _ _).alloc (Nat.le_refl _) _).alloc (by simp) _
theorem enc_start (w : World) (o d s f m : Int) (fr : Array Value) :
    (((w.alloc (.cells #[.int .i64 o, .int .i64 d, .int .i64 s, .int .i64 f, .int .u32 m] 57)).alloc (.cells ftab 116)).alloc (.cells fr 116)).heap[w.heap.size]? = some (.cells #[.int .i64 o, .int .i64 d, .int .i64 s, .int .i64 f, .int .u32 m] 57 (0, 0)) ∧
    (((w.alloc (.cells #[.int .i64 o, .int .i64 d, .int .i64 s, .int .i64 f, .int .u32 m] 57)).alloc (.cells ftab 116)).alloc (.cells fr 116)).heap[w.heap.size + 1 + 1]? = some (.cells fr 116 (0, 0)) ∧
    w.heap.size + 1 + 1 < (((w.alloc (.cells #[.int .i64 o, .int .i64 d, .int .i64 s, .int .i64 f, .int .u32 m] 57)).alloc (.cells ftab 116)).alloc (.cells fr 116)).heap.size ∧
    Below w.heap.size w (((w.alloc (.cells #[.int .i64 o, .int .i64 d, .int .i64 s, .int .i64 f, .int .u32 m] 57)).alloc (.cells ftab 116)).alloc (.cells fr 116)) := by
  refine ⟨?_, ?_, by simp only [World.size_alloc]; omega, (((Below.refl _ _).alloc (Nat.le_refl _) _).alloc (by simp only [World.size_alloc]; omega) _).alloc (by simp only [World.size_alloc]; omega) _⟩
  · rw [Below.heap_alloc _ _ _ (by simp only [World.size_alloc]; omega), Below.heap_alloc _ _ _ (by simp only [World.size_alloc]; omega)]
    exact heap_alloc_new _ _
  · have := heap_alloc_new ((w.alloc (.cells #[.int .i64 o, .int .i64 d, .int .i64 s, .int .i64 f, .int .u32 m] 57)).alloc (.cells ftab 116)) (.cells fr 116)
    simp only [World.size_alloc] at this
    exact this
set_option maxRecDepth 100000 in
set_option maxHeartbeats 4000000 in
theorem renc_some (j : Nat) (hj : j < 32) (d s f m : Int) (hm : 0 ≤ m ∧ m < 4294967296) (f0 fn : Int) (fi sb : ByteArray) (hf : fms[j]? = some ⟨f0, fn, fi, sb⟩) (hfi : fi = strN ∨ fi = strD ∨ fi = strS ∨ fi = strO) (w : World) :
    Calls Try.prog 43 #[.agg #[.int .i64 (j : Int), .int .i64 d, .int .i64 s, .int .i64 f, .int .u32 m]] w fun e w' => (if badx fn (lwf fi d s f) d s f = true then e = .returned (.tuple #[.slice none 0 0, .int .i64 3]) else RRes ([(f0 + lwf fi d s f) % 256] ++ wls d s f m sb.data.toList) (j : Int) d s f m w e w') ∧ Below w.heap.size w w' := by
  have hs2 : sb.size ≤ 2 := fms_beh _ (List.mem_of_getElem? hf)
  have hlen : sb.data.toList.length = sb.size := by simp
  have hfo := fms_ok _ (List.mem_of_getElem? hf)
  obtain ⟨fo1, fo2, fo3, fo4⟩ := hfo
  dsimp only at fo1 fo2 fo3 fo4
  have H2 := Lib.hid hf
  have HM := Lib.hid hm
  have hj0 : (0 : Int) ≤ (j : Int) := by omega
  have hj1 : (j : Int) < 32 := by omega
  have hj2 : ¬ (j : Int) < 0 := by omega
  have hj3 : ¬ 32 ≤ (j : Int) := by omega
  obtain ⟨lw, hlw⟩ : ∃ lw, lwf fi d s f = lw := ⟨_, rfl⟩
  obtain ⟨bd, hbd⟩ : ∃ bd, badx fn lw d s f = bd := ⟨_, rfl⟩
  rw [hlw, hbd]
  have HLW := Lib.hid hlw
  have HBD := Lib.hid hbd
  clear hf hm hlw hbd
  go_enter Try.func43, Try.ntmps43
  go_upto_region 5 with (go_at_call 66; refine (forms_any _).mono ?_; rintro e w3 ⟨rfl, rfl⟩; obtain ⟨d0, d1, d2, d3⟩ := ftab_cells (w.alloc (.cells #[.int .i64 (j : Int), .int .i64 d, .int .i64 s, .int .i64 f, .int .u32 m] 57)) j f0 fn fi sb H2.out; simp only [World.size_alloc] at d0 d1 d2 d3)
  clear d0 d1 d2 d3
  obtain ⟨gX, gF, lF, hbA⟩ := enc_start w (j : Int) d s f m #[.int .i64 f0, .int .i64 fn, .string fi, .string sb]
  generalize (((w.alloc (.cells #[.int .i64 (j : Int), .int .i64 d, .int .i64 s, .int .i64 f, .int .u32 m] 57)).alloc (.cells ftab 116)).alloc (.cells #[.int .i64 f0, .int .i64 fn, .string fi, .string sb] 116)) = wA at gX gF lF hbA ⊢
  obtain ⟨X, hX⟩ : ∃ X, w.heap.size = X := ⟨_, rfl⟩
  obtain ⟨F, hF⟩ : ∃ F, X + 1 + 1 = F := ⟨_, rfl⟩
  have HXe := Lib.hid hX
  rw [hX] at gX gF lF hbA ⊢
  rw [hF] at gF lF ⊢
  have hXF : X < F := by omega
  clear hX hF
  have kX := (rowcells gX).1
  have kF := (rowcells gF).1
  have HGX := Lib.hid gX
  have HGF := Lib.hid gF
  have HBA := Lib.hid hbA
  clear gX gF hbA
  iterate 7 go_step
  apply wp_seq_k
  intro _ _
  go_cut [6] from 29 to 42 (fun s6 wx => s6 = .int .i64 lw ∧ wA = wx)
  case first =>
    have HL : Hid (∀ a, lwf fi d s f = a → a = lw) := Lib.hid (fun a h => h.symm.trans HLW.out)
    clear HLW HBD HM H2
    rcases hfi with rfl | rfl | rfl | rfl
    · have e := HL.out 0 (by simp [lwf, strN, strD, strS, strO])
      subst e
      clear HL
      simp only [strN] at *
      go_wp2
      go_meet
      exact ⟨rfl, rfl⟩
    · have e := HL.out d (by simp [lwf, strD, strS, strO])
      subst e
      clear HL
      simp only [strD] at *
      go_wp2
      go_meet
      exact ⟨rfl, rfl⟩
    · have e := HL.out s (by simp [lwf, strD, strS, strO])
      subst e
      clear HL
      simp only [strS] at *
      go_wp2
      go_meet
      exact ⟨rfl, rfl⟩
    · have e := HL.out f (by simp [lwf, strD, strS, strO])
      subst e
      clear HL
      simp only [strO] at *
      go_wp2
      go_meet
      exact ⟨rfl, rfl⟩
  obtain ⟨rfl, rfl⟩ := hcut
  go_upto_region 13 with fail
  go_cut [80] from 43 to 79 (fun s80 wx => s80 = .bool bd ∧ wA = wx)
  case first =>
    go_wp2
    all_goals go_meet
    all_goals refine ⟨congrArg Value.bool ?_, rfl⟩
    all_goals rw [← HBD.out]
    all_goals first | (simp [badx, Bool.or_assoc]; done) | (simp [badx, Bool.or_assoc, *]; done) | (simp [badx, Bool.or_assoc]; omega)
  obtain ⟨rfl, rfl⟩ := hcut
  cases bd
  case true =>
    go_wp2
    refine bodyPost_ret (v := .tuple #[.slice none 0 0, .int .i64 3]) (by simp [results, Try.results43, go_sem]) rfl ⟨rfl, ?_⟩
    rw [HXe.out]; exact HBA.out
  case false =>
    have hrg : ¬ (lw < 0 ∨ fn ≤ lw ∨ d < 0 ∨ 7 < d ∨ s < 0 ∨ 7 < s ∨ f < 0 ∨ 15 < f) := of_decide_eq_false HBD.out
    have v1 : 0 ≤ lw := by omega
    have v2 : lw < fn := by omega
    have v3 : 0 ≤ d := by omega
    have v4 : d ≤ 7 := by omega
    have v5 : 0 ≤ s := by omega
    have v6 : s ≤ 7 := by omega
    have v7 : 0 ≤ f := by omega
    have v8 : f ≤ 15 := by omega
    have kc : ∀ w : World, (convert 9 54 (.string sb)).run Try.prog w = .ok (.slice (some ⟨w.heap.size, 0, none⟩) sb.size (grownCap w sb.size 0 5)) (Lib.bytesWorld w 5 sb) := fun w => Lib.run_convert_string_bytes w 9 54 5 sb Try.underlying9 Try.underlying54 Try.underlying5
    clear hrg
    go_wp2
    have hMARK := trivial
    have hb2 := below_bytes (wA.alloc (.cells #[.int .u8 ((f0 + lw) % 256)] 5)) 5 sb
    have hcell := fun i hi => Lib.bytesWorld_cell (wA.alloc (.cells #[.int .u8 ((f0 + lw) % 256)] 5)) 5 sb i hi
    have hbs := Lib.bytesWorld_size (wA.alloc (.cells #[.int .u8 ((f0 + lw) % 256)] 5)) 5 sb
    have gB := (hb2.block wA.heap.size (by simp)).trans (heap_alloc_new wA (.cells #[.int .u8 ((f0 + lw) % 256)] 5))
    have hbw : Below wA.heap.size wA (Lib.bytesWorld (wA.alloc (.cells #[.int .u8 ((f0 + lw) % 256)] 5)) 5 sb) := ((Below.refl _ _).alloc (Nat.le_refl _) _).trans (hb2.mono (by simp))
    simp only [World.size_alloc] at hcell hbs
    obtain ⟨l, hL⟩ : ∃ l, sb.data.toList = l := ⟨_, rfl⟩
    simp only [hL] at hcell
    rw [hL] at hlen
    have HL := Lib.hid hL
    have HC := Lib.hid hcell
    clear hcell kc hb2 hL
    generalize Lib.bytesWorld (wA.alloc (.cells #[.int .u8 ((f0 + lw) % 256)] 5)) 5 sb = wC at HC hbs gB hbw ⊢
    generalize grownCap (wA.alloc (.cells #[.int .u8 ((f0 + lw) % 256)] 5)) sb.size 0 5 = cpp
    obtain ⟨k0, hk0⟩ : ∃ k0, (f0 + lw) % 256 = k0 := ⟨_, rfl⟩
    rw [hk0] at gB ⊢
    have HK0 := Lib.hid hk0
    obtain ⟨b0, hb0⟩ : ∃ b0, wA.heap.size = b0 := ⟨_, rfl⟩
    have gX := (hbw.block X (by omega)).trans HGX.out
    have hbC : Below X w wC := HBA.out.trans (hbw.mono (by omega))
    rw [hb0] at gB HC hbs lF ⊢
    have hXb : X < b0 := by omega
    clear hk0 hb0 hbw kX kF
    generalize sb.size = z at HC hlen hs2 hbs ⊢
    obtain ⟨C, hC⟩ : ∃ C, wC.heap.size = C := ⟨_, rfl⟩
    have hbC1 : b0 < C := by omega
    have hbC2 : b0 + 1 < C := by omega
    have HCe := Lib.hid hC
    have HBC := Lib.hid hbC
    have HXC := Lib.hid gX
    have HSC : Hid (Sv C b0 (.slice (some ⟨b0, 0, none⟩) 1 1) [k0] wC) := Lib.hid (.inl ⟨k0, rfl, rfl, hbC1, gB⟩)
    clear hC hbC gX gB hbs
    go_loopg [7, 91] z (fun k v i wr => ∃ q : Nat, k = z - q ∧ q ≤ z ∧ i = .int .i64 q ∧ Hid (Sv C b0 v ([k0] ++ wls d s f m (l.take q)) wr) ∧ Hid (Below C wC wr))
    case atStart => exact ⟨0, rfl, Nat.zero_le _, rfl, HSC, Lib.hid (Below.refl _ _)⟩
    case round =>
      obtain ⟨q, hk, hq, rfl, hsv, hbr⟩ := hrel
      have HK := Lib.hid hk
      have hszr : C ≤ wr.heap.size := by rw [← HCe.out]; exact hbr.out.size
      have hXC : X < C := by omega
      have gXr := (hbr.out.block X hXC).trans HXC.out
      have kX := (rowcells gXr).1
      have lX := lt_of_block gXr
      clear hk
      by_cases hlt : q < z
      · have hstep := wls_take d s f m l q (by omega)
        have cl := (hbr.out.cell (p := ⟨b0 + 1, q, none⟩) hbC2).trans (HC.out q hlt)
        generalize ((l.getD q 0).toNat : Int) = c at hstep cl
        have hln := wls_len d s f m (l.take q)
        have hlt2 : (l.take q).length ≤ 2 := by rw [List.length_take]; omega
        have hlx : ([k0] ++ wls d s f m (l.take q)).length ≤ 9 := by rw [List.length_append, List.length_singleton]; omega
        have hl0 : 0 < ([k0] ++ wls d s f m (l.take q)).length := by simp
        obtain ⟨xs, hxs⟩ : ∃ xs, [k0] ++ wls d s f m (l.take q) = xs := ⟨_, rfl⟩
        rw [hxs] at hsv hlx hl0
        have HST : Hid ([k0] ++ wls d s f m (l.take (q + 1)) = xs ++ wl d s f m c) := Lib.hid (by rw [hstep, ← List.append_assoc, hxs])
        have hlt' : (q : Int) < (z : Int) := by omega
        have hsv2 := Lib.hid (fun ob => hsv.out.alloc hszr ob)
        clear hstep hxs hln hlt2
        obtain ⟨hm0, hm1⟩ := HM.out
        by_cases h98 : c = 98
        · subst h98
          have HN : Hid ([k0] ++ wls d s f m (l.take (q + 1)) = xs ++ [m % 256]) := Lib.hid (HST.out.trans (by simp [wl]))
          clear HST
          go_wp2_with (at_builtin; refine ap_any rfl (.tmp 99) (.tmp 104) rfl C b0 _ xs rfl (hsv2.out _) hl0 (by simp only [World.size_alloc]; omega) ⟨wr.heap.size, 0, none⟩ 1 1 [m % 256] rfl rfl (by decide) (new_cells wr [m % 256] rfl) (by omega) (fun v' w' hv' hb' => ?_))
          go_roundg (z - (q + 1))
          case measure =>
            have := HK.out
            omega
          case rel => exact ⟨q + 1, rfl, by omega, by simp, Lib.hid (by rw [HN.out]; exact hv'), Lib.hid ((hbr.out.alloc (by rw [HCe.out] at *; exact hszr) _).trans hb')⟩
        by_cases h115 : c = 115
        · subst h115
          have HN : Hid ([k0] ++ wls d s f m (l.take (q + 1)) = xs ++ [m % 256]) := Lib.hid (HST.out.trans (by simp [wl]))
          clear HST
          go_wp2_with (at_builtin; refine ap_any rfl (.tmp 99) (.tmp 104) rfl C b0 _ xs rfl (hsv2.out _) hl0 (by simp only [World.size_alloc]; omega) ⟨wr.heap.size, 0, none⟩ 1 1 [m % 256] rfl rfl (by decide) (new_cells wr [m % 256] rfl) (by omega) (fun v' w' hv' hb' => ?_))
          go_roundg (z - (q + 1))
          case measure =>
            have := HK.out
            omega
          case rel => exact ⟨q + 1, rfl, by omega, by simp, Lib.hid (by rw [HN.out]; exact hv'), Lib.hid ((hbr.out.alloc (by rw [HCe.out] at *; exact hszr) _).trans hb')⟩
        by_cases h119 : c = 119
        · subst h119
          have HN : Hid ([k0] ++ wls d s f m (l.take (q + 1)) = xs ++ [m % 256, m / 256 % 256, m / 65536 % 256, m / 16777216]) := Lib.hid (HST.out.trans (by simp [wl]))
          clear HST
          go_wp2_with (at_builtin; refine ap_any rfl (.tmp 108) (.tmp 127) rfl C b0 _ xs rfl (hsv2.out _) hl0 (by simp only [World.size_alloc]; omega) ⟨wr.heap.size, 0, none⟩ 4 4 [m % 256, m / 256 % 256, m / 65536 % 256, m / 16777216] rfl rfl (by decide) (new_cells wr [m % 256, m / 256 % 256, m / 65536 % 256, m / 16777216] rfl) (by omega) (fun v' w' hv' hb' => ?_))
          go_roundg (z - (q + 1))
          case measure =>
            have := HK.out
            omega
          case rel => exact ⟨q + 1, rfl, by omega, by simp, Lib.hid (by rw [HN.out]; exact hv'), Lib.hid ((hbr.out.alloc (by rw [HCe.out] at *; exact hszr) _).trans hb')⟩
        by_cases h100 : c = 100
        · subst h100
          have HN : Hid ([k0] ++ wls d s f m (l.take (q + 1)) = xs ++ [d]) := Lib.hid (HST.out.trans (by simp [wl]))
          clear HST
          go_wp2_with (at_builtin; refine ap_any rfl (.tmp 131) (.tmp 135) rfl C b0 _ xs rfl (hsv2.out _) hl0 (by simp only [World.size_alloc]; omega) ⟨wr.heap.size, 0, none⟩ 1 1 [d] rfl rfl (by decide) (new_cells wr [d] rfl) (by omega) (fun v' w' hv' hb' => ?_))
          go_roundg (z - (q + 1))
          case measure =>
            have := HK.out
            omega
          case rel => exact ⟨q + 1, rfl, by omega, by simp, Lib.hid (by rw [HN.out]; exact hv'), Lib.hid ((hbr.out.alloc (by rw [HCe.out] at *; exact hszr) _).trans hb')⟩
        by_cases h101 : c = 101
        · subst h101
          have HN : Hid ([k0] ++ wls d s f m (l.take (q + 1)) = xs ++ [s]) := Lib.hid (HST.out.trans (by simp [wl]))
          clear HST
          go_wp2_with (at_builtin; refine ap_any rfl (.tmp 139) (.tmp 143) rfl C b0 _ xs rfl (hsv2.out _) hl0 (by simp only [World.size_alloc]; omega) ⟨wr.heap.size, 0, none⟩ 1 1 [s] rfl rfl (by decide) (new_cells wr [s] rfl) (by omega) (fun v' w' hv' hb' => ?_))
          go_roundg (z - (q + 1))
          case measure =>
            have := HK.out
            omega
          case rel => exact ⟨q + 1, rfl, by omega, by simp, Lib.hid (by rw [HN.out]; exact hv'), Lib.hid ((hbr.out.alloc (by rw [HCe.out] at *; exact hszr) _).trans hb')⟩
        by_cases h112 : c = 112
        · subst h112
          have HN : Hid ([k0] ++ wls d s f m (l.take (q + 1)) = xs ++ [16 * d + s]) := Lib.hid (HST.out.trans (by simp [wl]))
          clear HST
          go_wp2_with (at_builtin; refine ap_any rfl (.tmp 147) (.tmp 155) rfl C b0 _ xs rfl (hsv2.out _) hl0 (by simp only [World.size_alloc]; omega) ⟨wr.heap.size, 0, none⟩ 1 1 [16 * d + s] rfl rfl (by decide) (new_cells wr [16 * d + s] rfl) (by omega) (fun v' w' hv' hb' => ?_))
          go_roundg (z - (q + 1))
          case measure =>
            have := HK.out
            omega
          case rel => exact ⟨q + 1, rfl, by omega, by simp, Lib.hid (by rw [HN.out]; exact hv'), Lib.hid ((hbr.out.alloc (by rw [HCe.out] at *; exact hszr) _).trans hb')⟩
        by_cases h99 : c = 99
        · subst h99
          have HN : Hid ([k0] ++ wls d s f m (l.take (q + 1)) = xs ++ [16 * f + d]) := Lib.hid (HST.out.trans (by simp [wl]))
          clear HST
          go_wp2_with (at_builtin; refine ap_any rfl (.tmp 159) (.tmp 167) rfl C b0 _ xs rfl (hsv2.out _) hl0 (by simp only [World.size_alloc]; omega) ⟨wr.heap.size, 0, none⟩ 1 1 [16 * f + d] rfl rfl (by decide) (new_cells wr [16 * f + d] rfl) (by omega) (fun v' w' hv' hb' => ?_))
          go_roundg (z - (q + 1))
          case measure =>
            have := HK.out
            omega
          case rel => exact ⟨q + 1, rfl, by omega, by simp, Lib.hid (by rw [HN.out]; exact hv'), Lib.hid ((hbr.out.alloc (by rw [HCe.out] at *; exact hszr) _).trans hb')⟩
        have g98 : (c == 98) = false := by rw [beq_eq_false_iff_ne]; exact h98
        have g115 : (c == 115) = false := by rw [beq_eq_false_iff_ne]; exact h115
        have g119 : (c == 119) = false := by rw [beq_eq_false_iff_ne]; exact h119
        have g100 : (c == 100) = false := by rw [beq_eq_false_iff_ne]; exact h100
        have g101 : (c == 101) = false := by rw [beq_eq_false_iff_ne]; exact h101
        have g112 : (c == 112) = false := by rw [beq_eq_false_iff_ne]; exact h112
        have g99 : (c == 99) = false := by rw [beq_eq_false_iff_ne]; exact h99
        have HN : Hid ([k0] ++ wls d s f m (l.take (q + 1)) = xs) := Lib.hid (HST.out.trans (by simp [wl, *]))
        clear HST
        go_wp2
        go_roundg (z - (q + 1))
        case measure =>
          have := HK.out
          omega
        case rel => exact ⟨q + 1, rfl, by omega, by simp, Lib.hid (by rw [HN.out]; exact hsv.out), hbr⟩
      · obtain rfl : q = z := by omega
        have ht : l.take q = l := List.take_of_length_le (by omega)
        rw [ht] at hsv
        have hus : Rg ([k0] ++ wls d s f m l) := Rg.app (Rg.one (by rw [← HK0.out]; omega) (by rw [← HK0.out]; omega)) (wls_rg d s f m v3 v4 v5 v6 v7 v8 HM.out l)
        have HV : Hid ((f0 + lw) % 256 :: wls d s f m sb.data.toList = [k0] ++ wls d s f m l) := Lib.hid (by rw [HK0.out, HL.out]; rfl)
        obtain ⟨us, hu⟩ : ∃ us, [k0] ++ wls d s f m l = us := ⟨_, rfl⟩
        rw [hu] at hsv hus HV
        have hu0 : 0 < us.length := by rw [← hu]; simp
        obtain ⟨g, cap, rfl, hBs, hg⟩ := hsv.out.bs hu0
        obtain ⟨o', d', s', f', m', n', z', hD⟩ := decv_shape us
        unfold agg5 at hD
        have hXg : X ≤ g := by omega
        have HGD := Lib.hid (rdec_all us (some ⟨g, 0, none⟩) cap wr hBs hus)
        have hok := Lib.hid (okd_iff (o := (j : Int)) (d := d) (s := s) (f := f) (m := m) hD)
        rw [hD] at HGD
        have hne := neq_ins o' d' s' f' m' (j : Int) d s f m
        have HBS := Lib.hid hBs
        have HBW := Lib.hid (HBC.out.trans (hbr.out.mono (by omega)))
        clear hD hus hu hsv hg hBs hu0
        by_cases hz : z' = 0
        · subst hz
          cases he : eqi o' d' s' f' m' (j : Int) d s f m
          · rw [he] at hne
            go_wp2_with (go_at_call 32; refine (HGD.out).mono ?_; rintro e v9 ⟨rfl, hb9⟩; have BW9 := Lib.hid (HBW.out.trans (hb9.mono (Nat.le_of_lt lX))); have HB9 := Lib.hid (HBS.out.keep hb9); have gX9 := (hb9.block X lX).trans gXr; clear kX lX; have kX := (rowcells gX9).1; have lX := lt_of_block gX9)
            refine bodyPost_ret (v := .tuple #[.slice none 0 0, .int .i64 3]) (by simp [results, Try.results43, go_sem]) rfl ⟨.inr ⟨?_, rfl⟩, ?_⟩
            · rw [HV.out, hok.out]; simp [he]
            · rw [HXe.out]; exact BW9.out.alloc (by omega) _
          · rw [he] at hne
            go_wp2_with (go_at_call 32; refine (HGD.out).mono ?_; rintro e v9 ⟨rfl, hb9⟩; have BW9 := Lib.hid (HBW.out.trans (hb9.mono (Nat.le_of_lt lX))); have HB9 := Lib.hid (HBS.out.keep hb9); have gX9 := (hb9.block X lX).trans gXr; clear kX lX; have kX := (rowcells gX9).1; have lX := lt_of_block gX9)
            refine bodyPost_ret (v := .tuple #[.slice (some ⟨g, 0, none⟩) us.length cap, .int .i64 0]) (by simp [results, Try.results43, go_sem]) rfl ⟨.inl ⟨?_, g, cap, ?_, ?_, ?_⟩, ?_⟩
            · rw [HV.out, hok.out]; simp [he]
            · rw [HV.out]
            · rw [HV.out]; exact HB9.out.keep ((Below.refl _ _).alloc (Nat.le_refl _) _)
            · rw [HXe.out]; omega
            · rw [HXe.out]; exact BW9.out.alloc (by omega) _
        · have hzb : (z' == 0) = false := by rw [beq_eq_false_iff_ne]; exact hz
          go_wp2_with (go_at_call 32; refine (HGD.out).mono ?_; rintro e v9 ⟨rfl, hb9⟩; have BW9 := Lib.hid (HBW.out.trans (hb9.mono (Nat.le_of_lt lX))); have HB9 := Lib.hid (HBS.out.keep hb9); have gX9 := (hb9.block X lX).trans gXr; clear kX lX; have kX := (rowcells gX9).1; have lX := lt_of_block gX9)
          refine bodyPost_ret (v := .tuple #[.slice none 0 0, .int .i64 3]) (by simp [results, Try.results43, go_sem]) rfl ⟨.inr ⟨?_, rfl⟩, ?_⟩
          · rw [HV.out, hok.out]; simp [hz]
          · rw [HXe.out]; exact BW9.out.alloc (by omega) _
end Go.Proofs.Ytcjcmnnhmajocaa.Gu
