/- gen: the pins are taken off; boxes of a call. -/
import Derived.Laws.AppendOwn
import Derived.ArgAppend
import Derived.Laws.IdiomCopy
import Derived.Test.YtcjcmnnhmajocabPgaa
import Derived.Test.YtcjcmnnhmajocabPgay
namespace Go.Proofs.Ytcjcmnnhmajocab.Gn
open Go.RowKit Kt Ic Hr Ho Me
set_option linter.unusedVariables false
set_option linter.unusedSimpArgs false
/-- words of the call's own -/
def OwnW (base : Nat) (v : Value) (us : List Int) (w : World) : Prop := w.ownsRow base 22 1 v us.length (us.map (Value.int .u32))
theorem OwnW.upto {B : Nat} {v : Value} {us : List Int} {w w' : World} {S : Nat → Prop} (h : OwnW B v us w) (u : Upto S w w') (hs : ∀ k, v.ownBlock = some k → ¬ S k) : OwnW B v us w' := by
  obtain ⟨h1, h⟩ := h
  refine ⟨h1, ?_⟩
  rcases h with h | ⟨g, cap, cur, e1, e2, e3, e4⟩
  · exact .inl h
  · exact .inr ⟨g, cap, cur, e1, e2, (u.block g (Array.getElem?_eq_some_iff.1 e3).1 (hs g (by rw [e1]; rfl))).trans e3, e4⟩
theorem OwnW.blk {B : Nat} {v : Value} {us : List Int} {w : World} (h : OwnW B v us w) : ∀ k, v.ownBlock = some k → B ≤ k ∧ k < w.heap.size := by
  intro k hk
  rcases h.2 with ⟨e, _⟩ | ⟨g, cap, cur, e1, e2, e3, _⟩
  · rw [e] at hk; exact nomatch hk
  · rw [e1] at hk
    obtain rfl : g = k := by simpa [Value.ownBlock] using hk
    exact ⟨e2, (Array.getElem?_eq_some_iff.1 e3).1⟩
/-- what may change -/
def SG (K : Gk) : Nat → Prop := fun i => i = K.h ∨ i = K.vb ∨ (K.base ≤ i ∧ ¬ K.ex i)
/-- ints that lie in an old slice -/
def UB (K : Gk) (us : List Int) (ua : Option Addr) (cp : Nat) (W : World) : Prop :=
  us.length ≤ cp ∧ cp ≤ maxLen ∧ (0 < us.length → ∃ b off, ua = some ⟨b, off, none⟩ ∧ b < K.base ∧ b ≠ K.h ∧ b ≠ K.vb ∧ ∀ j, j < us.length → W.cell? ⟨b, off + j, none⟩ = some (.int .i64 (us.getD j 0)))
/-- the maker in memory -/
structure GM (K : Gk) (g : Gm) (W : World) : Prop where
  c0 : W.cell? ⟨K.h, 0, none⟩ = some (.int .u32 K.pc)
  c1 : W.cell? ⟨K.h, 1, none⟩ = some (.int .i64 K.cnt)
  c2 : W.cell? ⟨K.h, 2, none⟩ = some (.int .i64 K.byt)
  c3 : W.cell? ⟨K.h, 3, none⟩ = some (.slice K.ao K.os.length K.cap)
  cw : ∃ v, W.cell? ⟨K.h, 4, none⟩ = some v ∧ OwnW K.base v (wds g.xs) W ∧ ∀ k, v.ownBlock = some k → ¬ K.ex k
  c5 : W.cell? ⟨K.h, 5, none⟩ = some (.int .i64 K.R)
  c6 : W.cell? ⟨K.h, 6, none⟩ = some (.slice (some ⟨K.vb, 0, none⟩) K.os.length K.os.length)
  hol : ∀ j, j < 16 → W.cell? ⟨K.h, 7 + j, none⟩ = some (.int .i64 (g.holds j))
  pin : ∀ j, j < 16 → W.cell? ⟨K.h, 23 + j, none⟩ = some (.bool (g.pin j))
  sp : W.cell? ⟨K.h, 39, none⟩ = some (.int .i64 g.sp)
  vr : ∀ t, t < K.os.length → W.cell? ⟨K.vb, t * 3, none⟩ = some (.int .i64 (g.v t).reg)
  vs : ∀ t, t < K.os.length → W.cell? ⟨K.vb, t * 3 + 1, none⟩ = some (.int .i64 (g.v t).spill)
  vu : ∀ t, t < K.os.length → ∃ ua cp, W.cell? ⟨K.vb, t * 3 + 2, none⟩ = some (.slice ua (g.v t).uses.length cp) ∧ UB K (g.v t).uses ua cp W
  z : ∀ j, W.frozen? ⟨K.h, j, none⟩ = false
  zv : ∀ j, W.frozen? ⟨K.vb, j, none⟩ = false
  lh : K.h < K.base
  lv : K.vb < K.base
  ne : K.h ≠ K.vb
  lb : K.base ≤ W.heap.size
  ex : ∀ i, K.ex i → K.base ≤ i ∧ i < W.heap.size
  op : Ops K.os K.ao K.cap W
  ob : ∀ q, K.ao = some q → 0 < K.os.length → q.block < K.base ∧ q.block ≠ K.h ∧ q.block ≠ K.vb
variable {K : Gk} {g : Gm} {W W' : World}
theorem GM.l (a : GM K g W) : K.h < W.heap.size := Nat.lt_of_lt_of_le a.lh a.lb
theorem GM.l2 (a : GM K g W) : K.vb < W.heap.size := Nat.lt_of_lt_of_le a.lv a.lb
theorem UB.upto {us : List Int} {ua : Option Addr} {cp : Nat} {S : Nat → Prop} (a : UB K us ua cp W) (u : Upto S W W') (hb : K.base ≤ W.heap.size) (hs : ∀ i, i < K.base → i ≠ K.h → i ≠ K.vb → ¬ S i) : UB K us ua cp W' := by
  obtain ⟨h1, h2, h3⟩ := a
  refine ⟨h1, h2, fun h0 => ?_⟩
  obtain ⟨b, off, e, l1, l2, l3, hc⟩ := h3 h0
  exact ⟨b, off, e, l1, l2, l3, fun j hj => (u.cell (q := ⟨b, off + j, none⟩) (Nat.lt_of_lt_of_le l1 hb) (hs b l1 l2 l3)).trans (hc j hj)⟩
theorem ops_upto {os : List Opr} {ao : Option Addr} {cap : Nat} {S : Nat → Prop} (a : Ops os ao cap W) (u : Upto S W W') (hs : ∀ q, ao = some q → 0 < os.length → ¬ S q.block) : Ops os ao cap W' := by
  obtain ⟨h1, h2, h3⟩ := a
  refine ⟨h1, h2, fun hp => ?_⟩
  obtain ⟨b, off, e, hg, hc⟩ := h3 hp
  exact ⟨b, off, e, Nat.lt_of_lt_of_le hg u.size, fun i o hi j v hj => (u.cell (q := ⟨b, off + i * 7 + j, none⟩) hg (show ¬ S b from hs _ e hp)).trans (hc i o hi j v hj)⟩
theorem GM.upto {S : Nat → Prop} (a : GM K g W) (u : Upto S W W') (hS : ∀ i, S i → K.ex i ∨ W.heap.size ≤ i) : GM K g W' := by
  have hb := a.lb
  have no : ∀ i, i < K.base → ¬ S i := fun i hi hs => by
    rcases hS i hs with h | h
    · have := (a.ex i h).1; omega
    · omega
  have e : ∀ j, W'.cell? ⟨K.h, j, none⟩ = W.cell? ⟨K.h, j, none⟩ := fun j => u.cell (q := ⟨K.h, j, none⟩) a.l (no _ a.lh)
  have f : ∀ j, W'.cell? ⟨K.vb, j, none⟩ = W.cell? ⟨K.vb, j, none⟩ := fun j => u.cell (q := ⟨K.vb, j, none⟩) a.l2 (no _ a.lv)
  refine ⟨(e _).trans a.c0, (e _).trans a.c1, (e _).trans a.c2, (e _).trans a.c3, ?_, (e _).trans a.c5, (e _).trans a.c6, fun j hj => (e _).trans (a.hol j hj), fun j hj => (e _).trans (a.pin j hj), (e _).trans a.sp, fun j hj => (f _).trans (a.vr j hj), fun j hj => (f _).trans (a.vs j hj), ?_,
    fun j => (u.frozen (q := ⟨K.h, j, none⟩) a.l (no _ a.lh)).trans (a.z j), fun j => (u.frozen (q := ⟨K.vb, j, none⟩) a.l2 (no _ a.lv)).trans (a.zv j), a.lh, a.lv, a.ne, Nat.le_trans hb u.size, fun i hi => ⟨(a.ex i hi).1, Nat.lt_of_lt_of_le (a.ex i hi).2 u.size⟩, ops_upto a.op u fun q hq h0 => no _ (a.ob q hq h0).1, a.ob⟩
  · obtain ⟨v, h1, h2, h3⟩ := a.cw
    refine ⟨v, (e _).trans h1, h2.upto u fun k hk hs => ?_, h3⟩
    rcases hS k hs with h | h
    · exact h3 k hk h
    · have := (h2.blk k hk).2; omega
  · intro t ht
    obtain ⟨ua, cp, h1, h2⟩ := a.vu t ht
    exact ⟨ua, cp, (f _).trans h1, h2.upto u hb fun i hi _ _ => no i hi⟩
theorem GM.quiet (a : GM K g W) (u : Upto (fun _ => False) W W') : GM K g W' := a.upto u fun _ h => h.elim
theorem GM.drew (a : GM K g W) : GM K g W.drew := a.quiet (Upto.refl _ W).drew
theorem GM.alloc (a : GM K g W) (o : Obj) : GM K g (W.alloc o) := a.quiet ((Upto.refl _ W).alloc o)
/-- one cell of the maker's block is written anew -/
theorem GM.putH (a : GM K g W) (i : Nat) (v : Value) (g' : Gm) (hi : i = 39 ∨ (7 ≤ i ∧ i < 39)) (hx : g'.xs = g.xs) (hv : g'.v = g.v)
    (e1 : ∀ j, j < 16 → (if i = 7 + j then v else .int .i64 (g.holds j)) = .int .i64 (g'.holds j)) (e2 : ∀ j, j < 16 → (if i = 23 + j then v else .bool (g.pin j)) = .bool (g'.pin j))
    (e3 : (if i = 39 then v else .int .i64 g.sp) = .int .i64 g'.sp) : GM K g' (W.setCell ⟨K.h, i, none⟩ v) := by
  have c : ∀ j x, W.cell? ⟨K.h, j, none⟩ = some x → (W.setCell ⟨K.h, i, none⟩ v).cell? ⟨K.h, j, none⟩ = some (if i = j then v else x) := fun j x hx => by
    by_cases e : i = j
    · subst e; rw [if_pos rfl]; exact World.cell?_setCell_same _ _ _ hx
    · rw [if_neg e, HM.cell_other (fun e' => e e'.symm), hx]
  have u : Upto (fun i => i = K.h) W (W.setCell ⟨K.h, i, none⟩ v) := (Upto.refl (fun i => i = K.h) W).setCell (q := ⟨K.h, i, none⟩) (.inl rfl) v
  have f : ∀ j, (W.setCell ⟨K.h, i, none⟩ v).cell? ⟨K.vb, j, none⟩ = W.cell? ⟨K.vb, j, none⟩ := fun j => u.cell (q := ⟨K.vb, j, none⟩) a.l2 (fun e => a.ne e.symm)
  have n : ∀ j x, j < 7 → (if i = j then v else x) = x := fun j x hj => if_neg (by omega)
  refine ⟨(c _ _ a.c0).trans (by rw [n _ _ (by decide)]), (c _ _ a.c1).trans (by rw [n _ _ (by decide)]), (c _ _ a.c2).trans (by rw [n _ _ (by decide)]), (c _ _ a.c3).trans (by rw [n _ _ (by decide)]), ?_, (c _ _ a.c5).trans (by rw [n _ _ (by decide)]), (c _ _ a.c6).trans (by rw [n _ _ (by decide)]),
    fun j hj => (c _ _ (a.hol j hj)).trans (by rw [e1 j hj]), fun j hj => (c _ _ (a.pin j hj)).trans (by rw [e2 j hj]), (c _ _ a.sp).trans (by rw [e3]), ?_, ?_, ?_, fun j => by simpa using a.z j, fun j => by simpa using a.zv j, a.lh, a.lv, a.ne, by simpa using a.lb, by simpa using a.ex,
    ops_upto a.op u fun q hq h0 => (a.ob q hq h0).2.1, a.ob⟩
  · obtain ⟨x, h1, h2, h3⟩ := a.cw
    refine ⟨x, (c _ _ h1).trans (by rw [n _ _ (by decide)]), ?_, h3⟩
    rw [hx]
    exact h2.upto u fun k hk e => by have := (h2.blk k hk).1; have := a.lh; omega
  · rw [hv]; exact fun t ht => (f _).trans (a.vr t ht)
  · rw [hv]; exact fun t ht => (f _).trans (a.vs t ht)
  · rw [hv]
    intro t ht
    obtain ⟨ua, cp, h1, h2⟩ := a.vu t ht
    exact ⟨ua, cp, (f _).trans h1, h2.upto u a.lb fun i _ hi _ => hi⟩
theorem GM.setH (a : GM K g W) (r : Nat) (x : Int) (hr : r < 16) : GM K (g.setH r x) (W.setCell ⟨K.h, 7 + r, none⟩ (.int .i64 x)) :=
  a.putH (7 + r) _ _ (.inr ⟨by omega, by omega⟩) rfl rfl (fun j hj => by
    show _ = Value.int .i64 (upd g.holds r x j); unfold upd
    by_cases e : j = r
    · subst e; simp
    · rw [if_neg e, if_neg (by omega)]) (fun j hj => if_neg (by omega)) (if_neg (by omega))
theorem GM.setP (a : GM K g W) (r : Nat) (x : Bool) (hr : r < 16) : GM K (g.setP r x) (W.setCell ⟨K.h, 23 + r, none⟩ (.bool x)) :=
  a.putH (23 + r) _ _ (.inr ⟨by omega, by omega⟩) rfl rfl (fun j hj => if_neg (by omega)) (fun j hj => by
    show _ = Value.bool (upd g.pin r x j); unfold upd
    by_cases e : j = r
    · subst e; simp
    · rw [if_neg e, if_neg (by omega)]) (if_neg (by omega))
theorem GM.setSp (a : GM K g W) (x : Int) : GM K (g.setSp x) (W.setCell ⟨K.h, 39, none⟩ (.int .i64 x)) :=
  a.putH 39 _ _ (.inl rfl) rfl rfl (fun j hj => if_neg (by omega)) (fun j hj => if_neg (by omega)) rfl
/-- one cell of the values' block is written anew -/
theorem GM.putV (a : GM K g W) (t o : Nat) (v : Value) (y : Vl) (ht : t < K.os.length) (ho : o < 3)
    (e1 : (if o = 0 then v else .int .i64 (g.v t).reg) = .int .i64 y.reg) (e2 : (if o = 1 then v else .int .i64 (g.v t).spill) = .int .i64 y.spill)
    (e3 : (o ≠ 2 ∧ y.uses = (g.v t).uses) ∨ (o = 2 ∧ ∃ ua cp, v = .slice ua y.uses.length cp ∧ UB K y.uses ua cp W)) : GM K { g with v := upd g.v t y } (W.setCell ⟨K.vb, t * 3 + o, none⟩ v) := by
  have c : ∀ j x, W.cell? ⟨K.vb, j, none⟩ = some x → (W.setCell ⟨K.vb, t * 3 + o, none⟩ v).cell? ⟨K.vb, j, none⟩ = some (if t * 3 + o = j then v else x) := fun j x hx => by
    by_cases e : t * 3 + o = j
    · subst e; rw [if_pos rfl]; exact World.cell?_setCell_same _ _ _ hx
    · rw [if_neg e, HM.cell_other (fun e' => e e'.symm), hx]
  have u : Upto (fun i => i = K.vb) W (W.setCell ⟨K.vb, t * 3 + o, none⟩ v) := (Upto.refl (fun i => i = K.vb) W).setCell (q := ⟨K.vb, t * 3 + o, none⟩) (.inl rfl) v
  have e : ∀ j, (W.setCell ⟨K.vb, t * 3 + o, none⟩ v).cell? ⟨K.h, j, none⟩ = W.cell? ⟨K.h, j, none⟩ := fun j => u.cell (q := ⟨K.h, j, none⟩) a.l a.ne
  have ub : ∀ {us ua cp}, UB K us ua cp W → UB K us ua cp (W.setCell ⟨K.vb, t * 3 + o, none⟩ v) := fun h => h.upto u a.lb fun i _ _ hi => hi
  refine ⟨(e _).trans a.c0, (e _).trans a.c1, (e _).trans a.c2, (e _).trans a.c3, ?_, (e _).trans a.c5, (e _).trans a.c6, fun j hj => (e _).trans (a.hol j hj), fun j hj => (e _).trans (a.pin j hj), (e _).trans a.sp, ?_, ?_, ?_, fun j => by simpa using a.z j, fun j => by simpa using a.zv j, a.lh, a.lv, a.ne, by simpa using a.lb, by simpa using a.ex,
    ops_upto a.op u fun q hq h0 => (a.ob q hq h0).2.2, a.ob⟩
  · obtain ⟨x, h1, h2, h3⟩ := a.cw
    exact ⟨x, (e _).trans h1, h2.upto u fun k hk e => by have := (h2.blk k hk).1; have := a.lv; omega, h3⟩
  · intro j hj
    rw [c _ _ (a.vr j hj)]
    dsimp only
    by_cases e : j = t
    · subst e
      rw [show upd g.v j y j = y from if_pos rfl, ← e1]
      by_cases e0 : o = 0
      · rw [if_pos (by omega), if_pos e0]
      · rw [if_neg (by omega), if_neg e0]
    · rw [show upd g.v t y j = g.v j from if_neg e, if_neg (by omega)]
  · intro j hj
    rw [c _ _ (a.vs j hj)]
    dsimp only
    by_cases e : j = t
    · subst e
      rw [show upd g.v j y j = y from if_pos rfl, ← e2]
      by_cases e0 : o = 1
      · rw [if_pos (by omega), if_pos e0]
      · rw [if_neg (by omega), if_neg e0]
    · rw [show upd g.v t y j = g.v j from if_neg e, if_neg (by omega)]
  · intro j hj
    obtain ⟨ua, cp, h1, h2⟩ := a.vu j hj
    rw [c _ _ h1]
    dsimp only
    by_cases e : j = t
    · subst e
      rw [show upd g.v j y j = y from if_pos rfl]
      rcases e3 with ⟨n2, ey⟩ | ⟨e2, ua', cp', ev, hb⟩
      · rw [if_neg (by omega), ey]; exact ⟨ua, cp, rfl, ub h2⟩
      · rw [if_pos (by omega)]; exact ⟨ua', cp', by rw [ev], ub hb⟩
    · rw [show upd g.v t y j = g.v j from if_neg e, if_neg (by omega)]; exact ⟨ua, cp, rfl, ub h2⟩
theorem GM.setR (a : GM K g W) (t : Nat) (x : Int) (ht : t < K.os.length) : GM K (g.setR t x) (W.setCell ⟨K.vb, t * 3, none⟩ (.int .i64 x)) :=
  a.putV t 0 _ { g.v t with reg := x } ht (by decide) rfl rfl (.inl ⟨by decide, rfl⟩)
theorem GM.setS (a : GM K g W) (t : Nat) (x : Int) (ht : t < K.os.length) : GM K (g.setS t x) (W.setCell ⟨K.vb, t * 3 + 1, none⟩ (.int .i64 x)) :=
  a.putV t 1 _ { g.v t with spill := x } ht (by decide) rfl rfl (.inl ⟨by decide, rfl⟩)
theorem GM.setU (a : GM K g W) (t : Nat) (us : List Int) (ua : Option Addr) (cp : Nat) (ht : t < K.os.length) (hu : UB K us ua cp W) : GM K (g.setU t us) (W.setCell ⟨K.vb, t * 3 + 2, none⟩ (.slice ua us.length cp)) :=
  a.putV t 2 _ { g.v t with uses := us } ht (by decide) rfl rfl (.inr ⟨rfl, ua, cp, rfl, hu⟩)
theorem OwnW.sl {B : Nat} {v : Value} {us : List Int} {w : World} (h : OwnW B v us w) : ∃ ao n cap, v = .slice ao n cap := by
  rcases h.2 with ⟨e, _⟩ | ⟨g, cap, cur, e1, _⟩
  · exact ⟨_, _, _, e⟩
  · exact ⟨_, _, _, e1⟩
/-- words are put behind -/
theorem GM.setW (a : GM K g W) (x : Cd) (v v' : Value) (h0 : OwnW K.base v (wds g.xs) W) (hv : ∀ k, v.ownBlock = some k → ¬ K.ex k) (u' : Upto (fun i => v.ownBlock = some i) W W') (h2 : OwnW K.base v' (wds (g.xs ++ [x])) W') (hk : v'.ownBlock = v.ownBlock ∨ v'.ownBlock = some W.heap.size) : GM K (g.put x) (W'.setCell ⟨K.h, 4, none⟩ v') := by
  have nb : ∀ i, i < K.base → ¬ v.ownBlock = some i := fun i hi e => by have := (h0.blk i e).1; omega
  have b : ∀ j, W'.cell? ⟨K.h, j, none⟩ = W.cell? ⟨K.h, j, none⟩ := fun j => u'.cell (q := ⟨K.h, j, none⟩) a.l (nb _ a.lh)
  have c : ∀ j, j ≠ 4 → (W'.setCell ⟨K.h, 4, none⟩ v').cell? ⟨K.h, j, none⟩ = W.cell? ⟨K.h, j, none⟩ := fun j hj => (HM.cell_other hj).trans (b j)
  have u : Upto (fun i => i = K.h) W' (W'.setCell ⟨K.h, 4, none⟩ v') := (Upto.refl (fun i => i = K.h) W').setCell (q := ⟨K.h, 4, none⟩) (.inl rfl) v'
  have tt : Upto (fun i => i = K.h ∨ v.ownBlock = some i) W (W'.setCell ⟨K.h, 4, none⟩ v') := (u'.mono fun _ _ h => .inr h).trans (u.mono fun _ _ h => .inl h)
  have f : ∀ j, (W'.setCell ⟨K.h, 4, none⟩ v').cell? ⟨K.vb, j, none⟩ = W.cell? ⟨K.vb, j, none⟩ := fun j => tt.cell (q := ⟨K.vb, j, none⟩) a.l2 (fun e => e.elim (fun e => a.ne e.symm) (nb _ a.lv))
  have zf : ∀ i j, i < K.base → (W'.setCell ⟨K.h, 4, none⟩ v').frozen? ⟨i, j, none⟩ = W.frozen? ⟨i, j, none⟩ := fun i j hi => (by simp : (W'.setCell ⟨K.h, 4, none⟩ v').frozen? ⟨i, j, none⟩ = W'.frozen? ⟨i, j, none⟩).trans (u'.frozen (q := ⟨i, j, none⟩) (Nat.lt_of_lt_of_le hi a.lb) (nb _ hi))
  obtain ⟨x0, h1, _⟩ := a.cw
  refine ⟨(c _ (by decide)).trans a.c0, (c _ (by decide)).trans a.c1, (c _ (by decide)).trans a.c2, (c _ (by decide)).trans a.c3, ⟨v', World.cell?_setCell_same _ _ _ ((b 4).trans h1), h2.upto u fun k hk e => ?_, fun k e => ?_⟩, (c _ (by decide)).trans a.c5, (c _ (by decide)).trans a.c6,
    fun j hj => (c _ (by omega)).trans (a.hol j hj), fun j hj => (c _ (by omega)).trans (a.pin j hj), (c _ (by decide)).trans a.sp, fun t ht => (f _).trans (a.vr t ht), fun t ht => (f _).trans (a.vs t ht), fun t ht => ?_, fun j => (zf _ j a.lh).trans (a.z j), fun j => (zf _ j a.lv).trans (a.zv j), a.lh, a.lv, a.ne, Nat.le_trans a.lb tt.size, fun i hi => ⟨(a.ex i hi).1, Nat.lt_of_lt_of_le (a.ex i hi).2 tt.size⟩,
    ops_upto a.op tt fun q hq h0 e => e.elim (a.ob q hq h0).2.1 (nb _ (a.ob q hq h0).1), a.ob⟩
  · have := (h2.blk k hk).1; have := a.lh; omega
  · rcases hk with hk | hk
    · exact hv k (hk ▸ e)
    · intro he
      have := (a.ex k he).2
      rw [hk] at e
      simp at e
      omega
  · obtain ⟨ua, cp, h1, h2⟩ := a.vu t ht
    exact ⟨ua, cp, (f _).trans h1, h2.upto tt a.lb fun i hi hh _ e => e.elim hh (nb _ hi)⟩
end Go.Proofs.Ytcjcmnnhmajocab.Gn
namespace Go.Proofs.Ytcjcmnnhmajocab.Gn
open Go.RowKit Kt Ic Hr Ho Me
set_option linter.unusedVariables false
set_option linter.unusedSimpArgs false
variable {K : Gk} {g : Gm} {W W' : World}
def fls (n : Nat) : List Value := List.replicate n (.bool false)
theorem fls_len (n : Nat) : (fls n).length = n := by simp [fls]
theorem clear_run (w : World) (h : GM K g w) (ty : TypeId) :
    (Builtin.clear_ #[79] ty #[.slice (some ⟨K.h, 23, none⟩) 16 16]).run Try.prog w = .ok (.tuple #[]) (w.setCells K.h 23 (fls 16)) := by
  have hz : ∀ w, (zeroValue 4).run Try.prog w = .ok (.bool false) w := fun w => by kernel_rfl
  have hst := run_storeCells_cells (P := Try.prog) K.h 23 (fls 16) 0 w (fun j hj => ?_) (fun j hj => h.z _) (fun v hv => ?_)
  · have e : (Builtin.zeroCells (Value.bool false).cells 16).toList = fls 16 := by kernel_rfl
    have hu := run_underlying (P := Try.prog) (w := w) Try.underlying79
    rw [Nat.add_zero] at hst
    simp only [Builtin.clear_, List.getElem?_toArray, List.getElem?_cons_zero, Sem.run_bind, hu, Result.andThen_ok, hz, e, hst]
    rfl
  · rw [fls_len] at hj
    rw [Nat.add_zero, h.pin j hj]; rfl
  · unfold fls at hv
    rw [List.eq_of_mem_replicate hv]; rfl
theorem GM.congr (a : GM K g W) {g' : Gm} (h1 : g'.xs = g.xs) (h2 : g'.v = g.v) (h3 : g'.holds = g.holds) (h4 : ∀ j, j < 16 → g'.pin j = g.pin j) (h5 : g'.sp = g.sp) : GM K g' W :=
  ⟨a.c0, a.c1, a.c2, a.c3, by rw [h1]; exact a.cw, a.c5, a.c6, by rw [h3]; exact a.hol, fun j hj => by rw [h4 j hj]; exact a.pin j hj, by rw [h5]; exact a.sp, by rw [h2]; exact a.vr, by rw [h2]; exact a.vs, by rw [h2]; exact a.vu, a.z, a.zv, a.lh, a.lv, a.ne, a.lb, a.ex, a.op, a.ob⟩
theorem GM.setFls (m : Nat) : ∀ (g : Gm) (o : Nat) (W : World), GM K g W → o + m ≤ 16 → GM K { g with pin := fun j => if o ≤ j ∧ j < o + m then false else g.pin j } (W.setCells K.h (23 + o) (fls m)) := by
  induction m with
  | zero =>
    intro g o W h _
    exact h.congr rfl rfl rfl (fun j _ => if_neg (by omega)) rfl
  | succ m ih =>
    intro g o W h ho
    have h1 := ih (g.setP o false) (o + 1) _ (h.setP o false (by omega)) (by omega)
    rw [show 23 + (o + 1) = 23 + o + 1 by omega] at h1
    refine h1.congr rfl rfl rfl (fun j _ => ?_) rfl
    show (if o ≤ j ∧ j < o + (m + 1) then false else g.pin j) = if o + 1 ≤ j ∧ j < o + 1 + m then false else upd g.pin o false j
    unfold upd
    by_cases hj : j = o
    · subst hj
      rw [if_pos (by omega), if_neg (by omega), if_pos rfl]
    · rw [if_neg hj]
      by_cases hr : o + 1 ≤ j ∧ j < o + 1 + m
      · rw [if_pos hr, if_pos (by omega)]
      · rw [if_neg hr, if_neg (by omega)]
theorem GM.unpin (a : GM K g W) : GM K g.unpin (W.setCells K.h 23 (fls 16)) :=
  (GM.setFls 16 g 0 W a (by omega)).congr rfl rfl rfl (fun j hj => by show false = _; simp [hj]) rfl
theorem Upto.setCells {S : Nat → Prop} {a : World} {p : Nat} (hp : S p) (us : List Value) : ∀ (w : World) (at_ : Nat), Upto S a w → Upto S a (w.setCells p at_ us) := by
  induction us with
  | nil => exact fun w _ h => h
  | cons b bs ih => exact fun w at_ h => ih _ (at_ + 1) (h.setCell (q := ⟨p, at_, none⟩) (.inl hp) b)
theorem slice_run (p : Nat) (w : World) : (Instr.sliceAt 100 (.pointer (some ⟨p, 23, none⟩)) none none none).run Try.prog w = .ok (.slice (some ⟨p, 23, none⟩) 16 16) w := by
  have f1 : Try.prog.arrayLen 100 = 16 := by kernel_rfl
  have f2 : Try.prog.underlying 100 = some (.array (Try.prog.arrayLen 100) (Try.prog.elem 100)) := by kernel_rfl
  have f3 : Try.prog.elem 100 = 4 := by kernel_rfl
  have f4 : (sizeOf 4).run Try.prog w = .ok 1 w := by kernel_rfl
  rw [run_sliceAt_array_all w 100 ⟨p, 23, none⟩ f2, f3, f4, f1]
  simp only [Result.andThen, slicedAt]
  rw [if_neg (by omega)]
  rfl
/-- a box -/
def Bx (b : Nat) (X : Array Value) (w : World) : Prop := b < w.heap.size ∧ (∀ j v, X[j]? = some v → w.cell? ⟨b, j, none⟩ = some v) ∧ ∀ j, w.frozen? ⟨b, j, none⟩ = false
theorem Bx.upto {b : Nat} {X : Array Value} {S : Nat → Prop} (a : Bx b X W) (u : Upto S W W') (hs : ¬ S b) : Bx b X W' :=
  ⟨Nat.lt_of_lt_of_le a.1 u.size, fun j v hj => (u.cell (q := ⟨b, j, none⟩) a.1 hs).trans (a.2.1 j v hj), fun j => (u.frozen (q := ⟨b, j, none⟩) a.1 hs).trans (a.2.2 j)⟩
theorem Bx.new (w : World) (X : Array Value) (t : TypeId) : Bx w.heap.size X (w.alloc (.cells X t)) :=
  ⟨by simp, fun j v hj => by rw [cell_of_row _ w.heap.size j _ _ _ (heap_alloc_new w _)]; exact hj, fun j => frozen_of_row _ _ j _ _ (heap_alloc_new w _)⟩
/-- two boxes more that are left alone -/
def Gk.add (K : Gk) (B : Nat) : Gk := { K with ex := fun i => K.ex i ∨ (B ≤ i ∧ i < B + 2) }
theorem GM.add (a : GM K g W) (u : Upto (fun _ => False) W W') (h : W.heap.size + 2 ≤ W'.heap.size) : GM (K.add W.heap.size) g W' := by
  have b := a.quiet u
  have lb := a.lb
  refine ⟨b.c0, b.c1, b.c2, b.c3, ?_, b.c5, b.c6, b.hol, b.pin, b.sp, b.vr, b.vs, b.vu, b.z, b.zv, b.lh, b.lv, b.ne, b.lb, fun i hi => ?_, b.op, b.ob⟩
  · obtain ⟨v, h1, h2, h3⟩ := a.cw
    refine ⟨v, (u.cell (q := ⟨K.h, 4, none⟩) a.l id).trans h1, h2.upto u fun _ _ => id, fun k hk he => ?_⟩
    rcases he with he | he
    · exact h3 k hk he
    · have := (h2.blk k hk).2; omega
  · rcases hi with hi | hi
    · exact b.ex i hi
    · exact ⟨by show K.base ≤ i; omega, by omega⟩
theorem GM.drop {B : Nat} (a : GM (K.add B) g W) : GM K g W :=
  ⟨a.c0, a.c1, a.c2, a.c3, by obtain ⟨v, h1, h2, h3⟩ := a.cw; exact ⟨v, h1, h2, fun k hk he => h3 k hk (.inl he)⟩, a.c5, a.c6, a.hol, a.pin, a.sp, a.vr, a.vs, a.vu, a.z, a.zv, a.lh, a.lv, a.ne, a.lb, fun i hi => a.ex i (.inl hi), a.op, a.ob⟩
theorem SG.drop {B : Nat} (u : Upto (SG (K.add B)) W W') : Upto (SG K) W W' := u.mono fun i _ h => by
  rcases h with h | h | h
  · exact .inl h
  · exact .inr (.inl h)
  · exact .inr (.inr ⟨h.1, fun e => h.2 (.inl e)⟩)
theorem SG.box {B i : Nat} (a : K.h < K.base) (b : K.vb < K.base) (hB : K.base ≤ B) (hi : B ≤ i ∧ i < B + 2) : ¬ SG (K.add B) i := by
  rintro (h | h | h)
  · have : i = K.h := h
    omega
  · have : i = K.vb := h
    omega
  · exact h.2 (.inr hi)
/-- blocks more that are left alone -/
def Gk.ad (K : Gk) (F : Nat → Prop) : Gk := { K with ex := fun i => K.ex i ∨ F i }
theorem GM.ad (a : GM K g W) (u : Upto (fun _ => False) W W') (F : Nat → Prop) (h : ∀ i, F i → W.heap.size ≤ i ∧ i < W'.heap.size) : GM (K.ad F) g W' := by
  have b := a.quiet u
  have lb := a.lb
  refine ⟨b.c0, b.c1, b.c2, b.c3, ?_, b.c5, b.c6, b.hol, b.pin, b.sp, b.vr, b.vs, b.vu, b.z, b.zv, b.lh, b.lv, b.ne, b.lb, fun i hi => ?_, b.op, b.ob⟩
  · obtain ⟨v, h1, h2, h3⟩ := a.cw
    refine ⟨v, (u.cell (q := ⟨K.h, 4, none⟩) a.l id).trans h1, h2.upto u fun _ _ => id, fun k hk he => ?_⟩
    rcases he with he | he
    · exact h3 k hk he
    · have := (h2.blk k hk).2; have := h k he; omega
  · rcases hi with hi | hi
    · exact b.ex i hi
    · exact ⟨by show K.base ≤ i; have := h i hi; omega, (h i hi).2⟩
theorem GM.unad {F : Nat → Prop} (a : GM (K.ad F) g W) : GM K g W :=
  ⟨a.c0, a.c1, a.c2, a.c3, by obtain ⟨v, h1, h2, h3⟩ := a.cw; exact ⟨v, h1, h2, fun k hk he => h3 k hk (.inl he)⟩, a.c5, a.c6, a.hol, a.pin, a.sp, a.vr, a.vs, a.vu, a.z, a.zv, a.lh, a.lv, a.ne, a.lb, fun i hi => a.ex i (.inl hi), a.op, a.ob⟩
theorem SG.unad {F : Nat → Prop} (u : Upto (SG (K.ad F)) W W') : Upto (SG K) W W' := u.mono fun i _ h => by
  rcases h with h | h | h
  · exact .inl h
  · exact .inr (.inl h)
  · exact .inr (.inr ⟨h.1, fun e => h.2 (.inl e)⟩)
theorem SG.no {i : Nat} (a : K.h < K.base) (b : K.vb < K.base) (hB : K.base ≤ i) (hi : K.ex i) : ¬ SG K i := by
  rintro (h | h | h)
  · omega
  · omega
  · exact h.2 hi
end Go.Proofs.Ytcjcmnnhmajocab.Gn
