/- Texts of this claim, merged by a program of this claim: ReadM. -/
import Derived.Test.YtcfkfgkndncanaaGreatDoorMr6
import Derived.Test.YtcfkfgkndncanaaGreatDoorMr7
namespace Go.Proofs.YtcfkfgkndncanaaGreatDoor
set_option linter.unusedVariables false
set_option linter.unusedSimpArgs false
section
def Bts (d : List Int) : Prop := ∀ x ∈ d, 0 ≤ x ∧ x < 256
def varG : List Int → Nat → Int → Int × Int × Nat
  | [], _, _ => (2, 0, 0)
  | b :: r, i, n => if (i = 9 ∧ 1 < b) ∨ (0 < i ∧ b = 0) then (3, 0, 0) else if b < 128 then (0, n + b * 2 ^ (7 * i), i + 1) else varG r (i + 1) (n + (b - 128) * 2 ^ (7 * i))
def varE (d : List Int) (a : Nat) : Int := (varG (d.drop a) 0 0).1
def varV (d : List Int) (a : Nat) : Int := (varG (d.drop a) 0 0).2.1
def varU (d : List Int) (a : Nat) : Nat := (varG (d.drop a) 0 0).2.2
theorem jij : ∀ (r : List Int) (i : Nat) (n : Int), (varG r i n).2.2 ≤ r.length + i
  | [], i, n => by simp [varG]
  | b :: r, i, n => by
    simp only [varG]
    split
    · simp
    · split
      · simp; omega
      · have := jij r (i + 1) (n + (b - 128) * 2 ^ (7 * i))
        simp only [List.length_cons]
        omega
theorem jjT : ∀ (r : List Int) (i : Nat) (n : Int), Bts r → i ≤ 9 → 0 ≤ n → n < 2 ^ (7 * i) → 0 ≤ (varG r i n).2.1 ∧ (varG r i n).2.1 < 18446744073709551616
  | [], i, n, _, _, _, _ => by simp [varG]
  | b :: r, i, n, hb, hi, h0, hn => by
    have h1 := hb b (by simp)
    have hi2 : i = 0 ∨ i = 1 ∨ i = 2 ∨ i = 3 ∨ i = 4 ∨ i = 5 ∨ i = 6 ∨ i = 7 ∨ i = 8 ∨ i = 9 := by omega
    simp only [varG]
    split
    · simp
    · rename_i hc
      split
      · simp only
        rcases hi2 with rfl | rfl | rfl | rfl | rfl | rfl | rfl | rfl | rfl | rfl <;> simp at hn ⊢ <;> omega
      · have hi3 : i ≤ 8 := by omega
        refine jjT r (i + 1) _ (fun x hx => hb x (by simp [hx])) (by omega) ?_ ?_
        · rcases hi2 with rfl | rfl | rfl | rfl | rfl | rfl | rfl | rfl | rfl | rfl <;> simp at hn ⊢ <;> omega
        · rcases hi2 with rfl | rfl | rfl | rfl | rfl | rfl | rfl | rfl | rfl | rfl <;> simp at hn ⊢ <;> omega
theorem jnG {d : List Int} (h : Bts d) (a : Nat) : Bts (d.drop a) := fun x hx => h x (List.mem_of_mem_drop hx)
theorem jaB {d : List Int} (h : Bts d) (a : Nat) : 0 ≤ varV d a ∧ varV d a < 18446744073709551616 := jjT _ _ _ (jnG h a) (by omega) (by omega) (by simp)
theorem ja6 {d : List Int} {a : Nat} (h : a ≤ d.length) : a + varU d a ≤ d.length := by
  have := jij (d.drop a) 0 0
  simp only [List.length_drop] at this
  unfold varU
  omega
def upE (d : List Int) (a : Nat) (most : Int) : Int := if varE d a ≠ 0 then varE d a else if most < 0 ∨ most < varV d a then 3 else 0
theorem jbz {d : List Int} {a : Nat} {most : Int} (h : upE d a most = 0) : varE d a = 0 ∧ ¬most < 0 ∧ varV d a ≤ most := by
  unfold upE at h
  split at h
  · rename_i q
    exact absurd h q
  · rename_i q
    split at h
    · cases h
    · simp only [ne_eq, Classical.not_not] at q
      omega
def jeH (d : List Int) (a : Nat) : Int := if varE d a ≠ 0 then varE d a else if varV d a = 0 then 3 else 0
def jcF (d : List Int) (a : Nat) (most : Int) : Int := if varE d a ≠ 0 then varE d a else if most < varV d a then 4 else if ((d.length - (a + varU d a) : Nat) : Int) < varV d a then 2 else 0
def jdb (d : List Int) (a : Nat) (most : Int) : List Int := if jcF d a most = 0 then (d.drop (a + varU d a)).take (varV d a).toNat else []
def jdt (d : List Int) (a : Nat) (most : Int) : Nat := if jcF d a most = 0 then varU d a + (varV d a).toNat else 0
end
end Go.Proofs.YtcfkfgkndncanaaGreatDoor
