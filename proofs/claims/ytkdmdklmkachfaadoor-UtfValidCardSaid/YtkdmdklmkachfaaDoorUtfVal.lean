/- The plain law of runes' bytes: step by step through a list, and back. No program in sight. -/
import Derived.Test.YtkdmdklmkachfaaDoorUtfMath
import Derived.Lib.DecodeN
namespace Go.Proofs.YtkdmdklmkachfaaDoor.Utf
set_option linter.unusedVariables false
set_option linter.unusedSimpArgs false

/-- The greatest k up to m for which the first k bytes are a rune's. -/
def wk (l : List Int) : Nat → Nat
  | 0 => 0
  | k + 1 => if k + 1 ≤ l.length ∧ wholeB (l.take (k + 1)) = true then k + 1 else wk l k
def step (l : List Int) : Nat := wk l 4
theorem wk_le (l : List Int) : ∀ k, wk l k ≤ k ∧ wk l k ≤ l.length
  | 0 => ⟨Nat.le_refl _, Nat.zero_le _⟩
  | k + 1 => by
    have := wk_le l k
    unfold wk
    split <;> omega
def vF : Nat → List Int → Bool
  | 0, l => decide (l = [])
  | f + 1, l => if l = [] then true else if step l = 0 then false else vF f (l.drop (step l))
def vB (l : List Int) : Bool := vF l.length l
theorem vF_enough : ∀ (f g : Nat) (l : List Int), l.length ≤ f → l.length ≤ g → vF f l = vF g l
  | 0, 0, l, _, _ => rfl
  | 0, g + 1, l, hf, hg => by
    have : l = [] := List.eq_nil_of_length_eq_zero (by omega)
    subst this
    rfl
  | f + 1, 0, l, hf, hg => by
    have : l = [] := List.eq_nil_of_length_eq_zero (by omega)
    subst this
    rfl
  | f + 1, g + 1, l, hf, hg => by
    unfold vF
    by_cases h : l = []
    · rw [if_pos h, if_pos h]
    · rw [if_neg h, if_neg h]
      by_cases h2 : step l = 0
      · rw [if_pos h2, if_pos h2]
      · rw [if_neg h2, if_neg h2]
        have : 0 < l.length := List.length_pos_iff.2 h
        exact vF_enough f g _ (by simp; omega) (by simp; omega)
theorem vB_nil : vB [] = true := rfl
theorem vB_stop (l : List Int) (h : l ≠ []) (h2 : step l = 0) : vB l = false := by
  have : 0 < l.length := List.length_pos_iff.2 h
  obtain ⟨n, hn⟩ : ∃ n, l.length = n + 1 := ⟨l.length - 1, by omega⟩
  unfold vB
  rw [hn]
  unfold vF
  rw [if_neg h, if_pos h2]
theorem vB_go (l : List Int) (h2 : step l ≠ 0) : vB l = vB (l.drop (step l)) := by
  have hs := (wk_le l 4).2
  have hs' : step l ≤ l.length := hs
  have h : l ≠ [] := by rintro rfl; simp at hs'; exact h2 hs'
  obtain ⟨n, hn⟩ : ∃ n, l.length = n + 1 := ⟨l.length - 1, by omega⟩
  unfold vB
  rw [hn]
  conv => lhs; unfold vF
  rw [if_neg h, if_neg h2]
  exact vF_enough _ _ _ (by simp; omega) (Nat.le_refl _)

/-- What a step is, by ranges. -/
def stepR (n : Nat) (a b c d : Int) : Nat :=
  if a < 128 then 1
  else if (194 ≤ a ∧ a ≤ 223) ∧ 2 ≤ n ∧ (128 ≤ b ∧ b ≤ 191) then 2
  else if (224 ≤ a ∧ a ≤ 239) ∧ 3 ≤ n ∧ (loOf a ≤ b ∧ b ≤ hiOf a) ∧ (128 ≤ c ∧ c ≤ 191) then 3
  else if (240 ≤ a ∧ a ≤ 244) ∧ 4 ≤ n ∧ (loOf a ≤ b ∧ b ≤ hiOf a) ∧ (128 ≤ c ∧ c ≤ 191) ∧ (128 ≤ d ∧ d ≤ 191) then 4
  else 0
theorem step_eq (l : List Int) (hb : ∀ x ∈ l, Byte x) (h : l ≠ []) : step l = stepR l.length (l.getD 0 0) (l.getD 1 0) (l.getD 2 0) (l.getD 3 0) := by
  unfold step
  match l, h with
  | [a], _ =>
    have ha := hb a (by simp)
    have w1 := whole1 a
    unfold stepR
    simp only [wk, List.take, List.length]
    by_cases h1 : a < 128
    · simp [w1, h1, ha.1]
    · simp [w1, h1]
  | [a, b], _ =>
    have ha := hb a (by simp)
    have hB := hb b (by simp)
    have w1 := whole1 a
    have w2 := whole2 a b ha hB
    unfold Byte at ha hB
    unfold stepR
    simp only [wk, List.take, List.length, w1, w2, List.getD_cons_zero, List.getD_cons_succ]
    repeat' split
    all_goals omega
  | [a, b, c], _ =>
    have ha := hb a (by simp)
    have hB := hb b (by simp)
    have hC := hb c (by simp)
    have w1 := whole1 a
    have w2 := whole2 a b ha hB
    have w3 := whole3 a b c ha hB hC
    unfold Byte at ha hB hC
    unfold stepR
    simp only [wk, List.take, List.length, w1, w2, w3, List.getD_cons_zero, List.getD_cons_succ]
    repeat' split
    all_goals omega
  | a :: b :: c :: d :: r, _ =>
    have ha := hb a (by simp)
    have hB := hb b (by simp)
    have hC := hb c (by simp)
    have hD := hb d (by simp)
    have w1 := whole1 a
    have w2 := whole2 a b ha hB
    have w3 := whole3 a b c ha hB hC
    have w4 := whole4 a b c d ha hB hC hD
    unfold Byte at ha hB hC hD
    unfold stepR
    simp only [wk, List.take, List.length, w1, w2, w3, w4, List.getD_cons_zero, List.getD_cons_succ]
    repeat' split
    all_goals omega

theorem lohi (a : Int) : (a = 224 ∧ loOf a = 160 ∧ hiOf a = 191) ∨ (a = 240 ∧ loOf a = 144 ∧ hiOf a = 191) ∨ (a = 237 ∧ loOf a = 128 ∧ hiOf a = 159) ∨ (a = 244 ∧ loOf a = 128 ∧ hiOf a = 143) ∨ (a ≠ 224 ∧ a ≠ 240 ∧ a ≠ 237 ∧ a ≠ 244 ∧ loOf a = 128 ∧ hiOf a = 191) := by
  unfold loOf hiOf
  repeat' split
  all_goals omega
def numS (k : Nat) (a b c d : Int) : Int :=
  if k = 1 then a else if k = 2 then (a - 192) * 64 + b - 128 else if k = 3 then (a - 224) * 4096 + (b - 128) * 64 + c - 128
  else (a - 240) * 262144 + (b - 128) * 4096 + (c - 128) * 64 + d - 128
open Go.Lib in
theorem decode_step (n a b c d : Nat) (ha : a < 256) (hb : b < 256) (hc : c < 256) (hd : d < 256) :
    (decodeN n a b c d).2 = (if stepR n a b c d = 0 then 1 else stepR n a b c d) ∧ ((decodeN n a b c d).1 : Int) = if stepR n a b c d = 0 then 65533 else numS (stepR n a b c d) a b c d := by
  have hl := lohi a
  by_cases h1 : a < 128
  · have e : stepR n a b c d = 1 := by unfold stepR; rw [if_pos (by omega)]
    rw [e]
    unfold decodeN
    rw [if_pos h1]
    simp [numS]
  by_cases h2 : ((194 : Int) ≤ a ∧ (a : Int) ≤ 223) ∧ 2 ≤ n ∧ ((128 : Int) ≤ b ∧ (b : Int) ≤ 191)
  · have e : stepR n a b c d = 2 := by unfold stepR; rw [if_neg (by omega), if_pos h2]
    rw [e]
    unfold decodeN
    rw [if_neg h1, if_pos (by omega), if_pos (by omega)]
    simp [numS]
    omega
  by_cases h3 : ((224 : Int) ≤ a ∧ (a : Int) ≤ 239) ∧ 3 ≤ n ∧ (loOf a ≤ b ∧ (b : Int) ≤ hiOf a) ∧ ((128 : Int) ≤ c ∧ (c : Int) ≤ 191)
  · have e : stepR n a b c d = 3 := by unfold stepR; rw [if_neg (by omega), if_neg h2, if_pos h3]
    rw [e]
    unfold decodeN
    rw [if_neg h1, if_neg (by omega), if_pos (by omega), if_pos (by omega)]
    simp [numS]
    omega
  by_cases h4 : ((240 : Int) ≤ a ∧ (a : Int) ≤ 244) ∧ 4 ≤ n ∧ (loOf a ≤ b ∧ (b : Int) ≤ hiOf a) ∧ ((128 : Int) ≤ c ∧ (c : Int) ≤ 191) ∧ ((128 : Int) ≤ d ∧ (d : Int) ≤ 191)
  · have e : stepR n a b c d = 4 := by unfold stepR; rw [if_neg (by omega), if_neg h2, if_neg h3, if_pos h4]
    rw [e]
    unfold decodeN
    rw [if_neg h1, if_neg (by omega), if_neg (by omega), if_pos (by omega), if_pos (by omega)]
    simp [numS]
    omega
  · have e : stepR n a b c d = 0 := by unfold stepR; rw [if_neg (by omega), if_neg h2, if_neg h3, if_neg h4]
    rw [e]
    have : decodeN n a b c d = (65533, 1) := by
      unfold decodeN
      repeat' split
      all_goals first | rfl | (exfalso; omega)
    rw [this]
    simp
end Go.Proofs.YtkdmdklmkachfaaDoor.Utf
