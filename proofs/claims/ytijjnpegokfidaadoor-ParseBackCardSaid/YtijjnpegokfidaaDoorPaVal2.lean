/- The plain law of runes' bytes laid one behind the other. No program in sight. -/
import Derived.Test.YtijjnpegokfidaaDoorUtfMath
namespace Go.Proofs.YtijjnpegokfidaaDoor.Utf
set_option linter.unusedVariables false
set_option linter.unusedSimpArgs false
theorem lohi (a : Int) : (a = 224 ∧ loOf a = 160 ∧ hiOf a = 191) ∨ (a = 240 ∧ loOf a = 144 ∧ hiOf a = 191) ∨ (a = 237 ∧ loOf a = 128 ∧ hiOf a = 159) ∨ (a = 244 ∧ loOf a = 128 ∧ hiOf a = 143) ∨ (a ≠ 224 ∧ a ≠ 240 ∧ a ≠ 237 ∧ a ≠ 244 ∧ loOf a = 128 ∧ hiOf a = 191) := by
  unfold loOf hiOf
  repeat' split
  all_goals omega
def fix (r : Int) : Int := if may r then r else 65533
theorem fix_may (r : Int) : may (fix r) = true := by
  unfold fix
  split
  · assumption
  · decide
theorem enc_fix (r : Int) : enc (fix r) = enc r := by
  unfold enc
  rw [if_pos (fix_may r)]
  rfl
theorem enc_eq (r : Int) : enc r = enc1 (fix r) := rfl
/-- The four shapes of a rune's bytes. -/
theorem enc_cases (c : Int) (hm : may c = true) :
    (∃ a, enc1 c = [a] ∧ a = c ∧ 0 ≤ a ∧ a < 128) ∨
    (∃ a b, enc1 c = [a, b] ∧ 194 ≤ a ∧ a ≤ 223 ∧ 128 ≤ b ∧ b ≤ 191 ∧ c = (a % 32) * 64 + b % 64) ∨
    (∃ a b d, enc1 c = [a, b, d] ∧ 224 ≤ a ∧ a ≤ 239 ∧ loOf a ≤ b ∧ b ≤ hiOf a ∧ 128 ≤ b ∧ b ≤ 191 ∧ 128 ≤ d ∧ d ≤ 191 ∧ c = ((a % 16) * 64 + b % 64) * 64 + d % 64) ∨
    (∃ a b d e, enc1 c = [a, b, d, e] ∧ 240 ≤ a ∧ a ≤ 244 ∧ loOf a ≤ b ∧ b ≤ hiOf a ∧ 128 ≤ b ∧ b ≤ 191 ∧ 128 ≤ d ∧ d ≤ 191 ∧ 128 ≤ e ∧ e ≤ 191 ∧ c = (((a % 8) * 64 + b % 64) * 64 + d % 64) * 64 + e % 64) := by
  have hb := (may_iff c).1 hm
  unfold enc1
  by_cases h1 : c < 128
  · rw [if_pos h1]
    exact .inl ⟨c, rfl, rfl, by omega, h1⟩
  · rw [if_neg h1]
    by_cases h2 : c < 2048
    · rw [if_pos h2]
      exact .inr (.inl ⟨_, _, rfl, by omega, by omega, by omega, by omega, by omega⟩)
    · rw [if_neg h2]
      by_cases h3 : c < 65536
      · rw [if_pos h3]
        have hl := lohi (224 + c / 4096)
        exact .inr (.inr (.inl ⟨_, _, _, rfl, by omega, by omega, by omega, by omega, by omega, by omega, by omega, by omega, by omega⟩))
      · rw [if_neg h3]
        have hl := lohi (240 + c / 262144)
        exact .inr (.inr (.inr ⟨_, _, _, _, rfl, by omega, by omega, by omega, by omega, by omega, by omega, by omega, by omega, by omega, by omega, by omega⟩))
theorem enc_byte (r : Int) : ∀ x ∈ enc r, Byte x := by
  rw [enc_eq]
  unfold Byte
  rcases enc_cases (fix r) (fix_may r) with ⟨a, e, h⟩ | ⟨a, b, e, h⟩ | ⟨a, b, d, e, h⟩ | ⟨a, b, d, f, e, h⟩
  all_goals
    rw [e]
    intro x hx
    simp at hx
    omega
theorem enc_ne (r : Int) : enc r ≠ [] := by
  rw [enc_eq]
  rcases enc_cases (fix r) (fix_may r) with ⟨a, e, h⟩ | ⟨a, b, e, h⟩ | ⟨a, b, d, e, h⟩ | ⟨a, b, d, f, e, h⟩ <;> rw [e] <;> simp
theorem enc_le (r : Int) : (enc r).length ≤ 4 := by
  rw [enc_eq]
  rcases enc_cases (fix r) (fix_may r) with ⟨a, e, h⟩ | ⟨a, b, e, h⟩ | ⟨a, b, d, e, h⟩ | ⟨a, b, d, f, e, h⟩ <;> rw [e] <;> simp
/-- A rune's bytes are told as the rune, from any decoder that has none unfinished. -/
theorem told_enc (s : DS) (h0 : s.need = 0) (r : Int) : told s (enc r) = [fix r] ∧ (after s (enc r)).need = 0 := by
  rw [enc_eq]
  rcases enc_cases (fix r) (fix_may r) with ⟨a, e, h⟩ | ⟨a, b, e, h⟩ | ⟨a, b, d, e, h⟩ | ⟨a, b, d, f, e, h⟩
  · rw [e]
    have h1 : feed s a = ([a], rest) := by unfold feed begin_; rw [if_pos h0, if_pos (by omega)]
    simp only [told, after, h1]
    exact ⟨by rw [h.1]; rfl, by first | rfl | trivial⟩
  · rw [e]
    have h1 : feed s a = ([], ⟨1, a % 32, 128, 191⟩) := by unfold feed begin_; rw [if_pos h0, if_neg (by omega), if_pos (by omega)]
    have h2 : feed ⟨1, a % 32, 128, 191⟩ b = ([a % 32 * 64 + b % 64], ⟨0, a % 32 * 64 + b % 64, 128, 191⟩) := by unfold feed; rw [if_neg (by simp), if_neg (by simp only; omega), if_pos rfl]
    simp only [told, after, h1, h2]
    exact ⟨by rw [← h.2.2.2.2]; rfl, by first | rfl | trivial⟩
  · rw [e]
    have h1 : feed s a = ([], ⟨2, a % 16, loOf a, hiOf a⟩) := by unfold feed begin_; rw [if_pos h0, if_neg (by omega), if_neg (by omega), if_pos (by omega)]
    have h2 : feed ⟨2, a % 16, loOf a, hiOf a⟩ b = ([], ⟨1, a % 16 * 64 + b % 64, 128, 191⟩) := by unfold feed; rw [if_neg (by simp), if_neg (by simp only; omega), if_neg (by simp)]; rfl
    have h3 : feed ⟨1, a % 16 * 64 + b % 64, 128, 191⟩ d = ([(a % 16 * 64 + b % 64) * 64 + d % 64], ⟨0, (a % 16 * 64 + b % 64) * 64 + d % 64, 128, 191⟩) := by unfold feed; rw [if_neg (by simp), if_neg (by simp only; omega), if_pos rfl]
    simp only [told, after, h1, h2, h3]
    exact ⟨by rw [← h.2.2.2.2.2.2.2.2]; rfl, by first | rfl | trivial⟩
  · rw [e]
    have h1 : feed s a = ([], ⟨3, a % 8, loOf a, hiOf a⟩) := by unfold feed begin_; rw [if_pos h0, if_neg (by omega), if_neg (by omega), if_neg (by omega), if_pos (by omega)]
    have h2 : feed ⟨3, a % 8, loOf a, hiOf a⟩ b = ([], ⟨2, a % 8 * 64 + b % 64, 128, 191⟩) := by unfold feed; rw [if_neg (by simp), if_neg (by simp only; omega), if_neg (by simp)]; rfl
    have h3 : feed ⟨2, a % 8 * 64 + b % 64, 128, 191⟩ d = ([], ⟨1, (a % 8 * 64 + b % 64) * 64 + d % 64, 128, 191⟩) := by unfold feed; rw [if_neg (by simp), if_neg (by simp only; omega), if_neg (by simp)]; rfl
    have h4 : feed ⟨1, (a % 8 * 64 + b % 64) * 64 + d % 64, 128, 191⟩ f = ([((a % 8 * 64 + b % 64) * 64 + d % 64) * 64 + f % 64], ⟨0, ((a % 8 * 64 + b % 64) * 64 + d % 64) * 64 + f % 64, 128, 191⟩) := by unfold feed; rw [if_neg (by simp), if_neg (by simp only; omega), if_pos rfl]
    simp only [told, after, h1, h2, h3, h4]
    exact ⟨by rw [← h.2.2.2.2.2.2.2.2.2.2]; rfl, by first | rfl | trivial⟩
theorem told_app (s : DS) (a l : List Int) : told s (a ++ l) = told s a ++ told (after s a) l := by
  induction a generalizing s with
  | nil => rfl
  | cons b a ih => simp [told, after, ih]
theorem after_app (s : DS) (a l : List Int) : after s (a ++ l) = after (after s a) l := by
  induction a generalizing s with
  | nil => rfl
  | cons b a ih => simp [after, ih]
theorem told_encs (rs : List Int) : ∀ s : DS, s.need = 0 → told s (rs.flatMap enc) = rs.map fix ∧ (after s (rs.flatMap enc)).need = 0 := by
  induction rs with
  | nil => intro s h; exact ⟨rfl, h⟩
  | cons r rs ih =>
    intro s h
    have h1 := told_enc s h r
    have h2 := ih _ h1.2
    simp only [List.flatMap_cons, told_app, after_app, List.map_cons]
    rw [h1.1, h2.1]
    exact ⟨rfl, h2.2⟩
end Go.Proofs.YtijjnpegokfidaaDoor.Utf
