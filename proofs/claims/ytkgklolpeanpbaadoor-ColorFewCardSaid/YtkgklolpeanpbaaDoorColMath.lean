/- The plain law of colours: parts, how far two are, the nearest one of a range, what a colour becomes. No program in sight. -/
import Derived.Test.YtkgklolpeanpbaaDoorRows
namespace Go.Proofs.YtkgklolpeanpbaaDoor.Col

def may (c : Int) : Bool := decide (c ≤ 256) || (decide (16777216 ≤ c) && decide (c < 33554432))
def ok (c : Int) : Bool := !(c == 0) && may c
def lev (k : Int) : Int := if k = 0 then 0 else 55 + 40 * k
def tab : List (List Int) := [[0, 0, 0], [205, 0, 0], [0, 205, 0], [205, 205, 0], [0, 0, 238], [205, 0, 205], [0, 205, 205], [229, 229, 229], [127, 127, 127], [255, 0, 0], [0, 255, 0], [255, 255, 0], [92, 92, 255], [255, 0, 255], [0, 255, 255], [255, 255, 255]]
/-- Part k (0 red, 1 green, 2 blue) of a colour; 0 where it has none. -/
def part (k : Nat) (c : Int) : Int :=
  if ok c = false then 0
  else if 16777216 ≤ c then (match k with | 0 => (c - 16777216) / 65536 | 1 => (c - 16777216) / 256 % 256 | _ => (c - 16777216) % 256)
  else if 233 ≤ c then 10 * (c - 1) - 2312
  else if 17 ≤ c then (match k with | 0 => lev ((c - 17) / 36) | 1 => lev ((c - 17) / 6 % 6) | _ => lev ((c - 17) % 6))
  else (tab.getD (c - 1).toNat []).getD k 0

def sq (x : Int) : Int := x * x
def far (x y : Int) : Int :=
  if ok x && ok y then sq (part 0 x - part 0 y) + sq (part 1 x - part 1 y) + sq (part 2 x - part 2 y) else -1

/-- The first of the least of f over lo + 1 .. lo + n (n at least 1). -/
def best (f : Int → Int) (lo : Int) : Nat → Int
  | 0 => lo + 1
  | n + 1 => if f (lo + n + 1) < f (best f lo n) then lo + n + 1 else best f lo n
def near (c lo : Int) (n : Nat) : Int := best (far c) lo n
def to256 (c : Int) : Int := if 16777216 ≤ c ∧ c < 33554432 then near c 16 240 else c
def to16 (c : Int) : Int := if (16777216 ≤ c ∧ c < 33554432) ∨ (17 ≤ c ∧ c ≤ 256) then near c 0 16 else c
def fit (c f : Int) : Int :=
  if c ≤ 16 then c
  else if 16777216 ≤ c ∧ f / 2 % 2 = 1 then c
  else if c < 16777216 ∧ f % 2 = 1 then c
  else if f % 2 = 1 then to256 c
  else to16 c

theorem best_lo (f : Int → Int) (lo : Int) (n : Nat) : lo + 1 ≤ best f lo n ∧ best f lo n ≤ lo + n + (if n = 0 then 1 else 0) := by
  induction n with
  | zero => simp [best]
  | succ n ih =>
    simp only [best]
    split
    · omega
    · have := ih.2
      split at this <;> omega
theorem best_one (f : Int → Int) (lo : Int) : best f lo 1 = lo + 1 := by simp [best]
theorem best_bd (f : Int → Int) (lo : Int) (n : Nat) (h : 1 ≤ n) : lo + 1 ≤ best f lo n ∧ best f lo n ≤ lo + n := by
  have := best_lo f lo n
  rw [if_neg (by omega)] at this
  omega
theorem best_min (f : Int → Int) (lo : Int) (n : Nat) (k : Int) (h1 : lo + 1 ≤ k) (h2 : k ≤ lo + n) :
    f (best f lo n) < f k ∨ (f (best f lo n) = f k ∧ best f lo n ≤ k) := by
  induction n with
  | zero => omega
  | succ n ih =>
    have hb := best_lo f lo n
    simp only [best]
    by_cases hk : k = lo + n + 1
    · subst hk
      split
      · exact .inr ⟨rfl, Int.le_refl _⟩
      · rename_i hc
        have : best f lo n ≤ lo + n + 1 := by have := hb.2; split at this <;> omega
        rcases Int.lt_or_eq_of_le (Int.not_lt.mp hc) with h | h
        · exact .inl h
        · exact .inr ⟨h, this⟩
    · have := ih (by omega)
      split
      · rename_i hc
        rcases this with h | ⟨h, _⟩ <;> exact .inl (by omega)
      · exact this

theorem sq_nonneg (x : Int) : 0 ≤ sq x := by
  unfold sq
  rcases Int.le_total 0 x with h | h
  · exact Int.mul_nonneg h h
  · have := Int.mul_nonneg (Int.neg_nonneg_of_nonpos h) (Int.neg_nonneg_of_nonpos h)
    rwa [Int.neg_mul_neg] at this
theorem sq_le (x : Int) (h1 : -255 ≤ x) (h2 : x ≤ 255) : sq x ≤ 65025 := by
  unfold sq
  rcases Int.le_total 0 x with h | h
  · exact Int.mul_le_mul h2 h2 h (by omega)
  · have : (-x) * (-x) ≤ 255 * 255 := Int.mul_le_mul (by omega) (by omega) (by omega) (by omega)
    rwa [Int.neg_mul_neg] at this
theorem tab_bd : ∀ i, i < 16 → ∀ k, k < 3 → 0 ≤ (tab.getD i []).getD k 0 ∧ (tab.getD i []).getD k 0 ≤ 255 := by decide
theorem may_iff (c : Int) : may c = true ↔ (c ≤ 256 ∨ (16777216 ≤ c ∧ c < 33554432)) := by simp [may]
theorem ok_iff (c : Int) : ok c = true ↔ (c ≠ 0 ∧ (c ≤ 256 ∨ (16777216 ≤ c ∧ c < 33554432))) := by simp [ok, may]
theorem lev_bd (k : Int) (h1 : 0 ≤ k) (h2 : k ≤ 5) : 0 ≤ lev k ∧ lev k ≤ 255 := by unfold lev; split <;> omega
theorem part_bd (k : Nat) (hk : k < 3) (c : Int) (h : 0 ≤ c) : 0 ≤ part k c ∧ part k c ≤ 255 := by
  unfold part
  by_cases ho : ok c = true
  · rw [if_neg (by simp [ho])]
    have hm := (ok_iff c).1 ho
    split
    · match k with
      | 0 => simp only; omega
      | 1 => simp only; omega
      | k + 2 => simp only; omega
    · split
      · omega
      · split
        · match k with
          | 0 => exact lev_bd _ (by omega) (by omega)
          | 1 => exact lev_bd _ (by omega) (by omega)
          | k + 2 => exact lev_bd _ (by omega) (by omega)
        · exact tab_bd _ (by omega) k hk
  · rw [if_pos (by simpa using ho)]
    omega
theorem far_bd (x y : Int) (hx : 0 ≤ x) (hy : 0 ≤ y) : -1 ≤ far x y ∧ far x y ≤ 195075 := by
  unfold far
  split
  · have a := part_bd 0 (by omega) x hx
    have b := part_bd 1 (by omega) x hx
    have c := part_bd 2 (by omega) x hx
    have a' := part_bd 0 (by omega) y hy
    have b' := part_bd 1 (by omega) y hy
    have c' := part_bd 2 (by omega) y hy
    have s0 := sq_le (part 0 x - part 0 y) (by omega) (by omega)
    have s1 := sq_le (part 1 x - part 1 y) (by omega) (by omega)
    have s2 := sq_le (part 2 x - part 2 y) (by omega) (by omega)
    have t0 := sq_nonneg (part 0 x - part 0 y)
    have t1 := sq_nonneg (part 1 x - part 1 y)
    have t2 := sq_nonneg (part 2 x - part 2 y)
    omega
  · omega

theorem to256_bd (c : Int) (h : 16777216 ≤ c ∧ c < 33554432) : 17 ≤ to256 c ∧ to256 c ≤ 256 := by
  unfold to256 near; rw [if_pos h]; have := best_bd (far c) 16 240 (by omega); omega
theorem to16_bd (c : Int) (h : (16777216 ≤ c ∧ c < 33554432) ∨ (17 ≤ c ∧ c ≤ 256)) : 1 ≤ to16 c ∧ to16 c ≤ 16 := by
  unfold to16 near; rw [if_pos h]; have := best_bd (far c) 0 16 (by omega); omega
theorem to256_rng (c : Int) (h0 : 0 ≤ c) (h1 : c < 4294967296) : 0 ≤ to256 c ∧ to256 c < 4294967296 := by
  by_cases h : 16777216 ≤ c ∧ c < 33554432
  · have := to256_bd c h; omega
  · unfold to256; rw [if_neg h]; omega
theorem to16_rng (c : Int) (h0 : 0 ≤ c) (h1 : c < 4294967296) : 0 ≤ to16 c ∧ to16 c < 4294967296 := by
  by_cases h : (16777216 ≤ c ∧ c < 33554432) ∨ (17 ≤ c ∧ c ≤ 256)
  · have := to16_bd c h; omega
  · unfold to16; rw [if_neg h]; omega
theorem fit_rng (c f : Int) (h0 : 0 ≤ c) (h1 : c < 4294967296) : 0 ≤ fit c f ∧ fit c f < 4294967296 := by
  have a := to256_rng c h0 h1
  have b := to16_rng c h0 h1
  unfold fit
  repeat' split
  all_goals omega
theorem to256_id (x : Int) (h : ¬ (16777216 ≤ x ∧ x < 33554432)) : to256 x = x := by unfold to256; rw [if_neg h]
theorem to16_id (x : Int) (h : ¬ ((16777216 ≤ x ∧ x < 33554432) ∨ (17 ≤ x ∧ x ≤ 256))) : to16 x = x := by unfold to16; rw [if_neg h]
theorem to256_twice (c : Int) : to256 (to256 c) = to256 c := by
  by_cases h : 16777216 ≤ c ∧ c < 33554432
  · have := to256_bd c h
    exact to256_id _ (by omega)
  · have : to256 c = c := by unfold to256; rw [if_neg h]
    rw [this, this]
theorem to16_twice (c : Int) : to16 (to16 c) = to16 c := by
  by_cases h : (16777216 ≤ c ∧ c < 33554432) ∨ (17 ≤ c ∧ c ≤ 256)
  · have := to16_bd c h
    exact to16_id _ (by omega)
  · have : to16 c = c := by unfold to16; rw [if_neg h]
    rw [this, this]
/-- What fits some features fits all greater ones. -/
theorem fit_more (c f g : Int) (h0 : 0 ≤ c) (hf : f % 2 = 1 → g % 2 = 1) (hf2 : f / 2 % 2 = 1 → g / 2 % 2 = 1) : fit (fit c f) g = fit c f := by
  have ht := fun h => to256_bd c h
  have hs := fun h => to16_bd c h
  have e256 : ¬ (16777216 ≤ c ∧ c < 33554432) → to256 c = c := fun h => by unfold to256; rw [if_neg h]
  have e16 : ¬ ((16777216 ≤ c ∧ c < 33554432) ∨ (17 ≤ c ∧ c ≤ 256)) → to16 c = c := fun h => by unfold to16; rw [if_neg h]
  have key : ∀ x, (x ≤ 16 ∨ (16777216 ≤ x ∧ g / 2 % 2 = 1) ∨ (x < 16777216 ∧ g % 2 = 1) ∨ ¬ ((16777216 ≤ x ∧ x < 33554432) ∨ (17 ≤ x ∧ x ≤ 256))) → fit x g = x := by
    intro x hx
    have a : ¬ (16777216 ≤ x ∧ x < 33554432) → to256 x = x := fun h => by unfold to256; rw [if_neg h]
    have b : ¬ ((16777216 ≤ x ∧ x < 33554432) ∨ (17 ≤ x ∧ x ≤ 256)) → to16 x = x := fun h => by unfold to16; rw [if_neg h]
    unfold fit
    repeat' split
    all_goals first | rfl | (apply a; omega) | (apply b; omega)
  apply key
  unfold fit
  by_cases h3 : 16777216 ≤ c ∧ c < 33554432
  · have := ht h3; have := hs (.inl h3)
    repeat' split
    all_goals omega
  · by_cases h4 : 17 ≤ c ∧ c ≤ 256
    · have := hs (.inr h4); rw [e256 h3]
      repeat' split
      all_goals omega
    · rw [e256 h3, e16 (by omega)]
      repeat' split
      all_goals omega
theorem fit_few (c f : Int) (h0 : 0 ≤ c) (h1 : f % 2 ≠ 1) (h2 : f / 2 % 2 ≠ 1) : fit c f ≤ 16 ∨ (fit c f = c ∧ ((256 < c ∧ c < 16777216) ∨ 33554432 ≤ c)) := by
  unfold fit
  by_cases h : (16777216 ≤ c ∧ c < 33554432) ∨ (17 ≤ c ∧ c ≤ 256)
  · have := to16_bd c h
    repeat' split
    all_goals omega
  · have : to16 c = c := by unfold to16; rw [if_neg h]
    rw [this]
    repeat' split
    all_goals omega

theorem eg1 : part 0 256 = 238 ∧ part 1 256 = 238 ∧ part 2 256 = 238 ∧ ok 256 = true := by decide
theorem eg2 : to256 16777471 = 22 := by decide +kernel
theorem eg3 : to16 16777216 = 1 := by decide +kernel
theorem eg4 : to16 22 = 5 := by decide +kernel
end Go.Proofs.YtkgklolpeanpbaaDoor.Col
