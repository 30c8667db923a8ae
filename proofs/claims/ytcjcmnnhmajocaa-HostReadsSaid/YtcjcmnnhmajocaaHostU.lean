import Derived.Test.YtcjcmnnhmajocaaHostT
import Derived.Test.YtcjcmnnhmajocaaHostV
namespace Go.Proofs.Ytcjcmnnhmajocaa.Ho
open Go.RowKit Kt
set_option linter.unusedVariables false
theorem Enc.turn {w w' : World} {q : Nat} {v0 v1 k x : Int} {ok : Prop} {e : Ending} (h : Enc w q v0 k x ok e w') (hv : ok → v0 = v1) : Enc w q v1 k x ok e w' := by
  obtain ⟨hb, h⟩ := h
  refine ⟨hb, ?_⟩
  rcases h with ⟨hok, g, cap, he, h1, h2, h3, h4, h5, h6⟩ | h
  · exact .inl ⟨hok, g, cap, he, h1, h2, h3, by rw [← hv hok]; exact h4, h5, h6⟩
  · exact .inr h
theorem henc_ok (q : Nat) (h1 : 1 ≤ q) (h2 : q ≤ 15) (o d a b c n k x : Int) (w : World) (hq : fcls o = q) (p0 : 0 ≤ o) (p1 : o < 256) :
    Calls Try.prog 28 #[.agg #[.int .i64 o, .int .i64 d, .int .i64 a, .int .i64 b, .int .i64 c, .int .i64 n, .int .u32 k, .int .u32 x]] w (Enc w q (sumw o d a b c n) k x (EOK q o d a b c n k x)) := by
  rcases (show q = 1 ∨ q = 2 ∨ q = 3 ∨ q = 4 ∨ q = 5 ∨ q = 6 ∨ q = 7 ∨ q = 8 ∨ q = 9 ∨ q = 10 ∨ q = 11 ∨ q = 12 ∨ q = 13 ∨ q = 14 ∨ q = 15 by omega) with rfl | rfl | rfl | rfl | rfl | rfl | rfl | rfl | rfl | rfl | rfl | rfl | rfl | rfl | rfl
  · exact (enc_1 o d a b c n k x w hq p0 p1).mono fun e w' h => h.turn fun hok => (erange_1 p0 p1 hok).2.2.2.2.2
  · exact (enc_2 o d a b c n k x w hq p0 p1).mono fun e w' h => h.turn fun hok => (erange_2 p0 p1 hok).2.2.2.2.2
  · exact (enc_3 o d a b c n k x w hq p0 p1).mono fun e w' h => h.turn fun hok => (erange_3 p0 p1 hok).2.2.2.2.2
  · exact (enc_4 o d a b c n k x w hq p0 p1).mono fun e w' h => h.turn fun hok => (erange_4 p0 p1 hok).2.2.2.2.2
  · exact (enc_5 o d a b c n k x w hq p0 p1).mono fun e w' h => h.turn fun hok => (erange_5 p0 p1 hok).2.2.2.2.2
  · exact (enc_6 o d a b c n k x w hq p0 p1).mono fun e w' h => h.turn fun hok => (erange_6 p0 p1 hok).2.2.2.2.2
  · exact (enc_7 o d a b c n k x w hq p0 p1).mono fun e w' h => h.turn fun hok => (erange_7 p0 p1 hok).2.2.2.2.2
  · exact (enc_8 o d a b c n k x w hq p0 p1).mono fun e w' h => h.turn fun hok => (erange_8 p0 p1 hok).2.2.2.2.2
  · exact (enc_9 o d a b c n k x w hq p0 p1).mono fun e w' h => h.turn fun hok => (erange_9 p0 p1 hok).2.2.2.2.2
  · exact (enc_10 o d a b c n k x w hq p0 p1).mono fun e w' h => h.turn fun hok => (erange_10 p0 p1 hok).2.2.2.2.2
  · exact (enc_11 o d a b c n k x w hq p0 p1).mono fun e w' h => h.turn fun hok => (erange_11 p0 p1 hok).2.2.2.2.2
  · exact (enc_12 o d a b c n k x w hq p0 p1).mono fun e w' h => h.turn fun hok => (erange_12 p0 p1 hok).2.2.2.2.2
  · exact (enc_13 o d a b c n k x w hq p0 p1).mono fun e w' h => h.turn fun hok => (erange_13 p0 p1 hok).2.2.2.2.2
  · exact (enc_14 o d a b c n k x w hq p0 p1).mono fun e w' h => h.turn fun hok => (erange_14 p0 p1 hok).2.2.2.2.2
  · exact (enc_15 o d a b c n k x w hq p0 p1).mono fun e w' h => h.turn fun hok => (erange_15 p0 p1 hok).2.2.2.2.2
theorem erange_any (q : Nat) (h1 : 1 ≤ q) (h2 : q ≤ 15) {o d a b c n k x : Int} (p0 : 0 ≤ o) (p1 : o < 256) (h : EOK q o d a b c n k x) : (0 ≤ d ∧ d < 16) ∧ (0 ≤ a ∧ a < 16) ∧ (0 ≤ b ∧ b < 16) ∧ (0 ≤ c ∧ c < 16) ∧ (0 ≤ n ∧ n < 65536) := by
  rcases (show q = 1 ∨ q = 2 ∨ q = 3 ∨ q = 4 ∨ q = 5 ∨ q = 6 ∨ q = 7 ∨ q = 8 ∨ q = 9 ∨ q = 10 ∨ q = 11 ∨ q = 12 ∨ q = 13 ∨ q = 14 ∨ q = 15 by omega) with rfl | rfl | rfl | rfl | rfl | rfl | rfl | rfl | rfl | rfl | rfl | rfl | rfl | rfl | rfl
  · have := erange_1 p0 p1 h
    exact ⟨this.1, this.2.1, this.2.2.1, this.2.2.2.1, this.2.2.2.2.1⟩
  · have := erange_2 p0 p1 h
    exact ⟨this.1, this.2.1, this.2.2.1, this.2.2.2.1, this.2.2.2.2.1⟩
  · have := erange_3 p0 p1 h
    exact ⟨this.1, this.2.1, this.2.2.1, this.2.2.2.1, this.2.2.2.2.1⟩
  · have := erange_4 p0 p1 h
    exact ⟨this.1, this.2.1, this.2.2.1, this.2.2.2.1, this.2.2.2.2.1⟩
  · have := erange_5 p0 p1 h
    exact ⟨this.1, this.2.1, this.2.2.1, this.2.2.2.1, this.2.2.2.2.1⟩
  · have := erange_6 p0 p1 h
    exact ⟨this.1, this.2.1, this.2.2.1, this.2.2.2.1, this.2.2.2.2.1⟩
  · have := erange_7 p0 p1 h
    exact ⟨this.1, this.2.1, this.2.2.1, this.2.2.2.1, this.2.2.2.2.1⟩
  · have := erange_8 p0 p1 h
    exact ⟨this.1, this.2.1, this.2.2.1, this.2.2.2.1, this.2.2.2.2.1⟩
  · have := erange_9 p0 p1 h
    exact ⟨this.1, this.2.1, this.2.2.1, this.2.2.2.1, this.2.2.2.2.1⟩
  · have := erange_10 p0 p1 h
    exact ⟨this.1, this.2.1, this.2.2.1, this.2.2.2.1, this.2.2.2.2.1⟩
  · have := erange_11 p0 p1 h
    exact ⟨this.1, this.2.1, this.2.2.1, this.2.2.2.1, this.2.2.2.2.1⟩
  · have := erange_12 p0 p1 h
    exact ⟨this.1, this.2.1, this.2.2.1, this.2.2.2.1, this.2.2.2.2.1⟩
  · have := erange_13 p0 p1 h
    exact ⟨this.1, this.2.1, this.2.2.1, this.2.2.2.1, this.2.2.2.2.1⟩
  · have := erange_14 p0 p1 h
    exact ⟨this.1, this.2.1, this.2.2.1, this.2.2.2.1, this.2.2.2.2.1⟩
  · have := erange_15 p0 p1 h
    exact ⟨this.1, this.2.1, this.2.2.1, this.2.2.2.1, this.2.2.2.2.1⟩
theorem renc_ok (q : Nat) (h1 : 1 ≤ q) (h2 : q ≤ 15) (o d a b c n k x : Int) (w : World) (hq : fcls o = q) (p0 : 0 ≤ o) (p1 : o < 256) :
    Calls Try.prog 29 #[.agg #[.int .i64 o, .int .i64 d, .int .i64 a, .int .i64 b, .int .i64 c, .int .i64 n, .int .u32 k, .int .u32 x]] w (Enc w q (sumw o d a b c n) k x (EOK q o d a b c n k x)) := by
  have bad : ∀ (e : Ending) (w' : World), ¬ EOK q o d a b c n k x → e = .returned (.tuple #[.slice none 0 0, .int .i64 3]) ∧ Below w.heap.size w w' → Enc w q (sumw o d a b c n) k x (EOK q o d a b c n k x) e w' := fun e w' hn h => ⟨h.2, .inr ⟨hn, h.1⟩⟩
  by_cases hd : 0 ≤ d ∧ d < 16
  · by_cases ha : 0 ≤ a ∧ a < 16
    · by_cases hb : 0 ≤ b ∧ b < 16
      · by_cases hc : 0 ≤ c ∧ c < 16
        · by_cases hn : 0 ≤ n ∧ n < 65536
          · exact renc_m q h1 h2 o d a b c n k x w hq p0 p1 hd ha hb hc hn
          · exact (renc_n q h1 h2 o d a b c n k x w hq p0 hd ha hb hc hn).mono fun e w' h => bad e w' (fun hk => hn (erange_any q h1 h2 p0 p1 hk).2.2.2.2) h
        · exact (renc_c q h1 h2 o d a b c n k x w hq p0 hd ha hb hc).mono fun e w' h => bad e w' (fun hk => hc (erange_any q h1 h2 p0 p1 hk).2.2.2.1) h
      · exact (renc_b q h1 h2 o d a b c n k x w hq p0 hd ha hb).mono fun e w' h => bad e w' (fun hk => hb (erange_any q h1 h2 p0 p1 hk).2.2.1) h
    · exact (renc_a q h1 h2 o d a b c n k x w hq p0 hd ha).mono fun e w' h => bad e w' (fun hk => ha (erange_any q h1 h2 p0 p1 hk).2.1) h
  · exact (renc_d q h1 h2 o d a b c n k x w hq p0 hd).mono fun e w' h => bad e w' (fun hk => hd (erange_any q h1 h2 p0 p1 hk).1) h
set_option maxRecDepth 100000 in
set_option maxHeartbeats 4000000 in
theorem henc_0 (o d a b c n k x : Int) (w : World) (hq : fcls o = 0) :
    Calls Try.prog 28 #[.agg #[.int .i64 o, .int .i64 d, .int .i64 a, .int .i64 b, .int .i64 c, .int .i64 n, .int .u32 k, .int .u32 x]] w fun e w' => e = .returned (.tuple #[.slice none 0 0, .int .i64 2]) ∧ Below w.heap.size w w' := by
  go_enter Try.func28, Try.ntmps28
  go_wp2_with (first
    | (go_at_call 56; refine (formatOf_any o _).mono ?_; rintro e w1 ⟨rfl, hb1⟩; rw [hq, show frow 0 = #[.bool false, .bool false, .bool false, .bool false, .bool false, .int .i64 0, .int .i64 0] from rfl]; obtain ⟨kX, zX, s1, hBel⟩ := behind1 hb1; clear hb1)
    | (go_at_call 25; fail))
  go_ret2
  exact ⟨rfl, hBel.alloc (Nat.le_of_lt s1) _⟩
set_option maxRecDepth 100000 in
set_option maxHeartbeats 4000000 in
theorem renc_0 (o d a b c n k x : Int) (w : World) (hq : fcls o = 0) :
    Calls Try.prog 29 #[.agg #[.int .i64 o, .int .i64 d, .int .i64 a, .int .i64 b, .int .i64 c, .int .i64 n, .int .u32 k, .int .u32 x]] w fun e w' => e = .returned (.tuple #[.slice none 0 0, .int .i64 2]) ∧ Below w.heap.size w w' := by
  go_enter Try.func29, Try.ntmps29
  go_wp2_with (first
    | (go_at_call 58; refine (form_any o _).mono ?_; rintro e w1 ⟨rfl, rfl⟩; rw [hq, show rform 0 = .tuple #[.string { data := #[] }, .int .i64 0, .int .i64 0] from rfl])
    | (go_at_call 60; fail))
  all_goals go_ret2
  all_goals exact ⟨rfl, (Below.refl _ _).alloc (Nat.le_refl _) _⟩
end Go.Proofs.Ytcjcmnnhmajocaa.Ho
