/- Slices of structs of any shape that came in, as a list. No statement of the seat stands here. -/
import Derived.Test.YtkodmoeohffjhaaKeeps
import Derived.Deep.Slices
import Derived.Deep.Fields
import Derived.ChangeSame
import Derived.ProofKit
import Derived.ChangeAt
import Derived.Lib.SmallJoins
namespace Go.Proofs.Ytkodmoeohffjhaa
open Go.ChangeShapes Go.WideShapes Go.ChangeAt Go.RowKit Go.Deep Go.Joins
set_option linter.unusedVariables false
set_option linter.unusedSimpArgs false

section
variable {H : Type} {enc : TypeId × Value → H} {P : Program} {w : World} {base : Nat} {spare : Nat → Bool} {held : Bool}
/-- Each element of a slice that came in: its cells, and how they read. -/
theorem open_slice_elems {t e : TypeId} {C : Nat} {fuel : Nat} {cs : List Value} {x : DataW H × List MemPlace} (ht : P.underlying t = some (.slice e)) (hC : P.cellsOf e = C)
    (h : DataW.trod enc P w base spare held fuel t cs = some x) :
    cs = [.slice none 0 0] ∨
    ∃ (a : Addr) (len cap m : Nat), cs = [.slice (some a) len cap] ∧ len ≤ cap ∧ cap ≤ maxLen ∧ len ≤ m ∧
      ∀ i, i < m → ∃ (ys : List Value) (n : Nat) (y : DataW H × List MemPlace), ys.length = C ∧ (∀ j, j < C → w.cell? (a.add (i * C + j)) = ys[j]?) ∧ DataW.trod enc P w base spare held n e ys = some y := by
  rcases open_slice ht h with h0 | ⟨a, len, cap, m, n, D, Pl, hcs, hb, hl, hm, hmm, hx, hi⟩
  · exact .inl h0.1
  · refine .inr ⟨a, len, cap, m, hcs, hl, hm, by rw [hmm]; split <;> omega, fun i him => ?_⟩
    obtain ⟨cs', hc, ht'⟩ := hi i him
    rw [hC] at hc
    obtain ⟨_, hcl, hat⟩ := World.cells?_some hc
    exact ⟨cs', n, _, hcl, fun j hj => by rw [← Go.Deep.add_add]; exact hat j hj, ht'⟩
/-- The fields of a struct, each with its cells. -/
theorem open_fields {t : TypeId} {fs : Array Field} {fuel : Nat} {cs : List Value} {x : DataW H × List MemPlace} (ht : P.underlying t = some (.struct fs)) (h : DataW.trod enc P w base spare held fuel t cs = some x) :
    cs.length = P.cellsOf t ∧ ∃ n, ∀ (j : Nat) (f : Field), fs[j]? = some f → ∃ y, DataW.trod enc P w base spare held n f.type ((cs.drop f.offset).take (P.cellsOf f.type)) = some y := by
  obtain ⟨ys, n, hy, hlen, hl, hlx, hf⟩ := DataW.trod_struct ht h
  refine ⟨by first | exact hl | exact hlen | exact hlx, n, fun j f hj => ?_⟩
  have hjl : j < fs.size := (Array.getElem?_eq_some_iff.1 hj).1
  have h1 := hf j f hj
  have : j < ys.length := by omega
  rw [List.getElem?_eq_getElem this] at h1
  exact ⟨_, h1⟩
end
/-- Out of what is known of each element: the list of them. -/
theorem list_open {α : Type} {w : World} {a : Addr} {k len : Nat} (e : α → List Value) (hk : 0 < k) (he : ∀ q, (e q).length = k) (R : α → Prop)
    (h : ∀ i, i < len → ∃ q, (∀ j, j < k → w.cell? (a.add (i * k + j)) = (e q)[j]?) ∧ R q) :
    ∃ L : List α, L.length = len ∧ ReadC w (some a) (L.flatMap e) ∧ ∀ q ∈ L, R q := by
  have flen : ∀ L : List α, (L.flatMap e).length = L.length * k := fun L => by
    induction L with
    | nil => simp
    | cons q L ih => rw [List.flatMap_cons, List.length_append, ih, he, List.length_cons, Nat.succ_mul, Nat.add_comm]
  have list : ∀ n, n ≤ len → ∃ L : List α, L.length = n ∧ (∀ j u, (L.flatMap e)[j]? = some u → w.cell? (a.add j) = some u) ∧ ∀ q ∈ L, R q := by
    intro n
    induction n with
    | zero => exact fun _ => ⟨[], rfl, (fun j u h => by simp at h), fun _ h => by cases h⟩
    | succ n ih =>
      intro hn
      obtain ⟨L, hl, hc, hp⟩ := ih (by omega)
      obtain ⟨q, hq, hqp⟩ := h n (by omega)
      refine ⟨L ++ [q], by simp [hl], fun j u hu => ?_, fun p hp' => ?_⟩
      · rw [List.flatMap_append, List.flatMap_cons, List.flatMap_nil, List.append_nil] at hu
        rcases Nat.lt_or_ge j (L.length * k) with h1 | h1
        · rw [List.getElem?_append_left (by rw [flen]; exact h1)] at hu
          exact hc j u hu
        · rw [List.getElem?_append_right (by rw [flen]; exact h1), flen] at hu
          have hj : j - L.length * k < k := Nat.lt_of_lt_of_eq (List.getElem?_eq_some_iff.1 hu).1 (he q)
          have := hq (j - L.length * k) hj
          rw [hl] at this hu h1
          rw [show n * k + (j - n * k) = j by omega] at this
          rw [this, hu]
      · rcases List.mem_append.1 hp' with h | h
        · exact hp p h
        · rw [List.mem_singleton.1 h]; exact hqp
  obtain ⟨L, hL, hc, hp⟩ := list len (Nat.le_refl _)
  refine ⟨L, hL, fun hne => ?_, hp⟩
  obtain ⟨b, off, spot⟩ := a
  have h0 : 0 < (L.flatMap e).length := List.length_pos_iff.2 hne
  have hc0 := hc 0 _ (List.getElem?_eq_getElem h0)
  have hspot : spot = none := by simpa [Addr.add] using World.cell?_spot hc0
  subst hspot
  refine ⟨b, off, rfl, fun j u hu => ?_⟩
  have e : (⟨b, off, none⟩ : Addr).add j = ⟨b, off + j, none⟩ := by unfold Addr.add; split <;> simp_all
  rw [← e]
  exact hc j u hu
end Go.Proofs.Ytkodmoeohffjhaa
