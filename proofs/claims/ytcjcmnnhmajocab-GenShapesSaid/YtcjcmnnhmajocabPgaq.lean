/- host.Encode: what it answers (without the document's). -/
import Derived.Test.YtcjcmnnhmajocabPgan
import Derived.Test.YtcjcmnnhmajocabPgao
import Derived.Test.YtcjcmnnhmajocabPgap
namespace Go.Proofs.Ytcjcmnnhmajocab.Ho
open Go.RowKit Kt
set_option linter.unusedVariables false
set_option linter.unusedSimpArgs false
def sumw (o d a b c n : Int) : Int := (o + 256 * d + 4096 * a + 65536 * b + 1048576 * c + 65536 * n) % 4294967296
theorem erange_1 {o d a b c n k x : Int} (p0 : 0 ≤ o) (p1 : o < 256) (h : EOK 1 o d a b c n k x) : (0 ≤ d ∧ d < 16) ∧ (0 ≤ a ∧ a < 16) ∧ (0 ≤ b ∧ b < 16) ∧ (0 ≤ c ∧ c < 16) ∧ (0 ≤ n ∧ n < 65536) ∧ o + d % 16 * 256 + a % 16 * 4096 + (b % 16 * 65536 + c % 16 * 1048576) = sumw o d a b c n := by
  rw [eok_1] at h
  unfold sumw
  omega
theorem erange_2 {o d a b c n k x : Int} (p0 : 0 ≤ o) (p1 : o < 256) (h : EOK 2 o d a b c n k x) : (0 ≤ d ∧ d < 16) ∧ (0 ≤ a ∧ a < 16) ∧ (0 ≤ b ∧ b < 16) ∧ (0 ≤ c ∧ c < 16) ∧ (0 ≤ n ∧ n < 65536) ∧ o + d % 16 * 256 + a % 16 * 4096 + (b % 16 * 65536 + c % 16 * 1048576) = sumw o d a b c n := by
  rw [eok_2] at h
  unfold sumw
  omega
theorem erange_3 {o d a b c n k x : Int} (p0 : 0 ≤ o) (p1 : o < 256) (h : EOK 3 o d a b c n k x) : (0 ≤ d ∧ d < 16) ∧ (0 ≤ a ∧ a < 16) ∧ (0 ≤ b ∧ b < 16) ∧ (0 ≤ c ∧ c < 16) ∧ (0 ≤ n ∧ n < 65536) ∧ o + d % 16 * 256 + a % 16 * 4096 + (b % 16 * 65536 + c % 16 * 1048576) = sumw o d a b c n := by
  rw [eok_3] at h
  unfold sumw
  omega
theorem erange_4 {o d a b c n k x : Int} (p0 : 0 ≤ o) (p1 : o < 256) (h : EOK 4 o d a b c n k x) : (0 ≤ d ∧ d < 16) ∧ (0 ≤ a ∧ a < 16) ∧ (0 ≤ b ∧ b < 16) ∧ (0 ≤ c ∧ c < 16) ∧ (0 ≤ n ∧ n < 65536) ∧ o + d % 16 * 256 + a % 16 * 4096 + n % 65536 * 65536 = sumw o d a b c n := by
  rw [eok_4] at h
  unfold sumw
  omega
theorem erange_5 {o d a b c n k x : Int} (p0 : 0 ≤ o) (p1 : o < 256) (h : EOK 5 o d a b c n k x) : (0 ≤ d ∧ d < 16) ∧ (0 ≤ a ∧ a < 16) ∧ (0 ≤ b ∧ b < 16) ∧ (0 ≤ c ∧ c < 16) ∧ (0 ≤ n ∧ n < 65536) ∧ o + d % 16 * 256 + a % 16 * 4096 + (b % 16 * 65536 + c % 16 * 1048576) = sumw o d a b c n := by
  rw [eok_5] at h
  unfold sumw
  omega
theorem erange_6 {o d a b c n k x : Int} (p0 : 0 ≤ o) (p1 : o < 256) (h : EOK 6 o d a b c n k x) : (0 ≤ d ∧ d < 16) ∧ (0 ≤ a ∧ a < 16) ∧ (0 ≤ b ∧ b < 16) ∧ (0 ≤ c ∧ c < 16) ∧ (0 ≤ n ∧ n < 65536) ∧ o + d % 16 * 256 + a % 16 * 4096 + n % 65536 * 65536 = sumw o d a b c n := by
  rw [eok_6] at h
  unfold sumw
  omega
theorem erange_7 {o d a b c n k x : Int} (p0 : 0 ≤ o) (p1 : o < 256) (h : EOK 7 o d a b c n k x) : (0 ≤ d ∧ d < 16) ∧ (0 ≤ a ∧ a < 16) ∧ (0 ≤ b ∧ b < 16) ∧ (0 ≤ c ∧ c < 16) ∧ (0 ≤ n ∧ n < 65536) ∧ o + d % 16 * 256 + a % 16 * 4096 + n % 65536 * 65536 = sumw o d a b c n := by
  rw [eok_7] at h
  unfold sumw
  omega
theorem erange_8 {o d a b c n k x : Int} (p0 : 0 ≤ o) (p1 : o < 256) (h : EOK 8 o d a b c n k x) : (0 ≤ d ∧ d < 16) ∧ (0 ≤ a ∧ a < 16) ∧ (0 ≤ b ∧ b < 16) ∧ (0 ≤ c ∧ c < 16) ∧ (0 ≤ n ∧ n < 65536) ∧ o + d % 16 * 256 + a % 16 * 4096 + (b % 16 * 65536 + c % 16 * 1048576) = sumw o d a b c n := by
  rw [eok_8] at h
  unfold sumw
  omega
theorem erange_9 {o d a b c n k x : Int} (p0 : 0 ≤ o) (p1 : o < 256) (h : EOK 9 o d a b c n k x) : (0 ≤ d ∧ d < 16) ∧ (0 ≤ a ∧ a < 16) ∧ (0 ≤ b ∧ b < 16) ∧ (0 ≤ c ∧ c < 16) ∧ (0 ≤ n ∧ n < 65536) ∧ o + d % 16 * 256 + a % 16 * 4096 + n % 65536 * 65536 = sumw o d a b c n := by
  rw [eok_9] at h
  unfold sumw
  omega
theorem erange_10 {o d a b c n k x : Int} (p0 : 0 ≤ o) (p1 : o < 256) (h : EOK 10 o d a b c n k x) : (0 ≤ d ∧ d < 16) ∧ (0 ≤ a ∧ a < 16) ∧ (0 ≤ b ∧ b < 16) ∧ (0 ≤ c ∧ c < 16) ∧ (0 ≤ n ∧ n < 65536) ∧ o + d % 16 * 256 + a % 16 * 4096 + n % 65536 * 65536 = sumw o d a b c n := by
  rw [eok_10] at h
  unfold sumw
  omega
theorem erange_11 {o d a b c n k x : Int} (p0 : 0 ≤ o) (p1 : o < 256) (h : EOK 11 o d a b c n k x) : (0 ≤ d ∧ d < 16) ∧ (0 ≤ a ∧ a < 16) ∧ (0 ≤ b ∧ b < 16) ∧ (0 ≤ c ∧ c < 16) ∧ (0 ≤ n ∧ n < 65536) ∧ o + d % 16 * 256 + a % 16 * 4096 + n % 65536 * 65536 = sumw o d a b c n := by
  rw [eok_11] at h
  unfold sumw
  omega
theorem erange_12 {o d a b c n k x : Int} (p0 : 0 ≤ o) (p1 : o < 256) (h : EOK 12 o d a b c n k x) : (0 ≤ d ∧ d < 16) ∧ (0 ≤ a ∧ a < 16) ∧ (0 ≤ b ∧ b < 16) ∧ (0 ≤ c ∧ c < 16) ∧ (0 ≤ n ∧ n < 65536) ∧ o + d % 16 * 256 + a % 16 * 4096 + n % 65536 * 65536 = sumw o d a b c n := by
  rw [eok_12] at h
  unfold sumw
  omega
theorem erange_13 {o d a b c n k x : Int} (p0 : 0 ≤ o) (p1 : o < 256) (h : EOK 13 o d a b c n k x) : (0 ≤ d ∧ d < 16) ∧ (0 ≤ a ∧ a < 16) ∧ (0 ≤ b ∧ b < 16) ∧ (0 ≤ c ∧ c < 16) ∧ (0 ≤ n ∧ n < 65536) ∧ o + d % 16 * 256 + a % 16 * 4096 + n % 65536 * 65536 = sumw o d a b c n := by
  rw [eok_13] at h
  unfold sumw
  omega
theorem erange_14 {o d a b c n k x : Int} (p0 : 0 ≤ o) (p1 : o < 256) (h : EOK 14 o d a b c n k x) : (0 ≤ d ∧ d < 16) ∧ (0 ≤ a ∧ a < 16) ∧ (0 ≤ b ∧ b < 16) ∧ (0 ≤ c ∧ c < 16) ∧ (0 ≤ n ∧ n < 65536) ∧ o + d % 16 * 256 + a % 16 * 4096 + n % 65536 * 65536 = sumw o d a b c n := by
  rw [eok_14] at h
  unfold sumw
  omega
theorem erange_15 {o d a b c n k x : Int} (p0 : 0 ≤ o) (p1 : o < 256) (h : EOK 15 o d a b c n k x) : (0 ≤ d ∧ d < 16) ∧ (0 ≤ a ∧ a < 16) ∧ (0 ≤ b ∧ b < 16) ∧ (0 ≤ c ∧ c < 16) ∧ (0 ≤ n ∧ n < 65536) ∧ o + d % 16 * 256 + a % 16 * 4096 + n % 65536 * 65536 = sumw o d a b c n := by
  rw [eok_15] at h
  unfold sumw
  omega
theorem Enc.turn {w w' : World} {q : Nat} {v0 v1 k x : Int} {ok : Prop} {e : Ending} (h : Enc w q v0 k x ok e w') (hv : ok → v0 = v1) : Enc w q v1 k x ok e w' := by
  obtain ⟨hb, h⟩ := h
  refine ⟨hb, ?_⟩
  rcases h with ⟨hok, g, cap, he, h1, h2, h3, h4, h5, h6⟩ | h
  · exact .inl ⟨hok, g, cap, he, h1, h2, h3, by rw [← hv hok]; exact h4, h5, h6⟩
  · exact .inr h
theorem henc_ok (q : Nat) (h1 : 1 ≤ q) (h2 : q ≤ 15) (o d a b c n k x : Int) (w : World) (hq : fcls o = q) (p0 : 0 ≤ o) (p1 : o < 256) :
    Calls Try.prog 93 #[.agg #[.int .i64 o, .int .i64 d, .int .i64 a, .int .i64 b, .int .i64 c, .int .i64 n, .int .u32 k, .int .u32 x]] w (Enc w q (sumw o d a b c n) k x (EOK q o d a b c n k x)) := by
  rcases (show q = 1 ∨ q = 2 ∨ q = 3 ∨ q = 4 ∨ q = 5 ∨ q = 6 ∨ q = 7 ∨ q = 8 ∨ q = 9 ∨ q = 10 ∨ q = 11 ∨ q = 12 ∨ q = 13 ∨ q = 14 ∨ q = 15 by omega) with rfl | rfl | rfl | rfl | rfl | rfl | rfl | rfl | rfl | rfl | rfl | rfl | rfl | rfl | rfl
  · exact (enc_1 o d a b c n k x w hq p0 p1).mono fun e w' h => h.turn fun hok => (erange_1 p0 p1 hok).2.2.2.2.2
  · exact (enc_2 o d a b c n k x w hq p0 p1).mono fun e w' h => h.turn fun hok => (erange_2 p0 p1 hok).2.2.2.2.2
  · exact (enc_3 o d a b c n k x w hq p0 p1).mono fun e w' h => h.turn fun hok => (erange_3 p0 p1 hok).2.2.2.2.2
  · exact (enc_4 o d a b c n k x w hq p0 p1).mono fun e w' h => h.turn fun hok => (erange_4 p0 p1 hok).2.2.2.2.2
  · exact (enc_5 o d a b c n k x w hq p0 p1).mono fun e w' h => h.turn fun hok => (erange_5 p0 p1 hok).2.2.2.2.2
  · exact (enc_6 o d a b c n k x w hq p0 p1).mono fun e w' h => h.turn fun hok => (erange_6 p0 p1 hok).2.2.2.2.2
  · exact (enc_7 o d a b c n k x w hq p0 p1).mono fun e w' h => h.turn fun hok => (erange_7 p0 p1 hok).2.2.2.2.2
  · exact (enc_8 o d a b c n k x w hq p0 p1).mono fun e w' h => h.turn fun hok => (erange_8 p0 p1 hok).2.2.2.2.2
  · exact (enc_9 o d a b c n k x w hq p0 p1).mono fun e w' h => h.turn fun hok => (erange_9 p0 p1 hok).2.2.2.2.2
  · exact (enc_10 o d a b c n k x w hq p0 p1).mono fun e w' h => h.turn fun hok => (erange_10 p0 p1 hok).2.2.2.2.2
  · exact (enc_11 o d a b c n k x w hq p0 p1).mono fun e w' h => h.turn fun hok => (erange_11 p0 p1 hok).2.2.2.2.2
  · exact (enc_12 o d a b c n k x w hq p0 p1).mono fun e w' h => h.turn fun hok => (erange_12 p0 p1 hok).2.2.2.2.2
  · exact (enc_13 o d a b c n k x w hq p0 p1).mono fun e w' h => h.turn fun hok => (erange_13 p0 p1 hok).2.2.2.2.2
  · exact (enc_14 o d a b c n k x w hq p0 p1).mono fun e w' h => h.turn fun hok => (erange_14 p0 p1 hok).2.2.2.2.2
  · exact (enc_15 o d a b c n k x w hq p0 p1).mono fun e w' h => h.turn fun hok => (erange_15 p0 p1 hok).2.2.2.2.2
end Go.Proofs.Ytcjcmnnhmajocab.Ho
