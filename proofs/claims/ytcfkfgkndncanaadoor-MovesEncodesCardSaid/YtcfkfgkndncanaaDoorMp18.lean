/- Texts of this claim, merged by a program of this claim: Held, DiffM3. -/
import Derived.Test.YtcfkfgkndncanaaDoorMp16
import Derived.Test.YtcfkfgkndncanaaDoorMp17
namespace Go.Proofs.YtcfkfgkndncanaaDoor
set_option linter.unusedVariables false
set_option linter.unusedSimpArgs false
section
open Go.RowKit
structure Held (p : Prop) : Prop where
  out : p
theorem curC_iff {x1 y1 x2 y2 : Nat} {h1 h2 : Bool} : curC x1 y1 h1 x2 y2 h2 = true ↔ ((¬(x2 : Int) = x1 ∨ ¬(y2 : Int) = y1) ∨ (h2 == h1) = false) := by
  unfold curC
  cases h1 <;> cases h2 <;> simp
theorem varsI_cons (a : Int) (l : List Int) : varsI (a :: l) = varN a.toNat ++ varsI l := rfl
theorem varsI_nil : varsI [] = [] := rfl
theorem varsN_cons (a : Nat) (l : List Nat) : varsN (a :: l) = varN a ++ varsN l := rfl
theorem varsN_nil : varsN [] = [] := rfl
theorem varN_one {n : Nat} (h : n < 128) : varN n = [(n : Int)] := varN_small h
end
section
open Go.RowKit
def Asc (W : List CD) (l : List Nat) : Prop := ∀ j, j + 1 < l.length → l.getD j 0 + wideAt W (l.getD j 0) ≤ l.getD (j + 1) 0
theorem Asc.cons {W : List CD} {l : List Nat} {i : Nat} (h : Asc W l) (hi : ∀ x ∈ l, i + wideAt W i ≤ x) : Asc W (i :: l) := by
  intro j hj
  cases j with
  | zero =>
    cases l with
    | nil => simp at hj
    | cons y l => simpa using hi y (by simp)
  | succ j => simpa using h j (by simpa using hj)
theorem remF_asc {oth : Nat → Bool} {W : List CD} {N : Nat} : ∀ (f i : Nat), Asc W (remF oth (wideAt W) N f i)
  | 0, i => fun j hj => by simp [remF] at hj
  | f + 1, i => by
    have ih := remF_asc (oth := oth) (W := W) (N := N) f (i + wideAt W i)
    rw [remF]
    split
    · split
      · exact ih.cons (fun x hx => (remF_mem (fun i => (wideAt_pos W i).1) _ _ x hx).1)
      · exact ih
    · exact fun j hj => by simp at hj
theorem rem_asc {oth : Nat → Bool} {W : List CD} {N i : Nat} : Asc W (rem oth (wideAt W) N i) := remF_asc _ _
theorem lettersB_list (C W : List CD) (l : List Nat) (hl : l = rem (otherB C W) (wideAt W) W.length 0) : lettersB C W = if l = [] then [] else (8 : Int) :: (varN (layR W l.length 0 l).2 ++ (layR W l.length 0 l).1) := by
  subst hl
  unfold lettersB
  simp only
  cases hc : rem (otherB C W) (wideAt W) W.length 0 with
  | nil => simp [layR_nil]
  | cons x m =>
    rw [if_neg (by rw [List.length_cons, layR]; simp), if_neg (by simp)]
end
end Go.Proofs.YtcfkfgkndncanaaDoor
