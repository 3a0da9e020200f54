/- A row of bytes that may be written, whatever stands in it. No statement of the seat stands here. -/
import Derived.Test.YtkodmoeohffjhaaKeeps
namespace Go.Proofs.Ytkodmoeohffjhaa
open Go.RowKit
set_option linter.unusedVariables false
set_option linter.unusedSimpArgs false

/-- n integers of kind k from A on, in a block from 'base' on, that may be written. -/
def Ints (w : World) (base : Nat) (k : IntKind) (A : Option Addr) (n : Nat) : Prop :=
  0 < n → ∃ g o, A = some ⟨g, o, none⟩ ∧ base ≤ g ∧ ∀ j, j < n → (∃ x, w.cell? ⟨g, o + j, none⟩ = some (.int k x)) ∧ w.frozen? ⟨g, o + j, none⟩ = false
theorem OwnI.ints {w : World} {base : Nat} {e : TypeId} {k : IntKind} {A : Option Addr} {n c : Nat} {zs : List Int} (h : OwnI w base e k (.slice A n c) zs) (hn : n = zs.length) : Ints w base k A n := fun h0 => by
  subst hn
  rcases h.2 with ⟨_, hx0⟩ | ⟨g, cap, cur, hv, hb, hg, _⟩
  · omega
  · injection hv with e1 e2 e3
    subst e1 e3
    refine ⟨g, 0, rfl, hb, fun j hj => ⟨⟨zs.getD j 0, ?_⟩, ?_⟩⟩
    · rw [Nat.zero_add, World.ownsRow.cellAt h j (by omega)]
      simp [List.getD_eq_getElem?_getD, hj]
    · rw [Nat.zero_add]
      exact World.ownsRow.frozenAt h j
theorem frozen_setCell (w : World) (p : Addr) (u : Value) (a : Addr) : (w.setCell p u).frozen? a = w.frozen? a := by simp [go_sem]
theorem Ints.set_ {w : World} {base : Nat} {k : IntKind} {A : Option Addr} {n : Nat} (h : Ints w base k A n) (p : Addr) (y : Int) : Ints (w.setCell p (.int k y)) base k A n := fun h0 => by
  obtain ⟨g, o, rfl, hb, hc⟩ := h h0
  refine ⟨g, o, rfl, hb, fun j hj => ?_⟩
  obtain ⟨⟨x, hx⟩, hf⟩ := hc j hj
  refine ⟨?_, by rw [frozen_setCell]; exact hf⟩
  by_cases e : p = ⟨g, o + j, none⟩
  · subst e
    exact ⟨y, World.cell?_setCell_same _ _ _ hx⟩
  · exact ⟨x, by rw [World.cell?_setCell_other _ _ _ _ e]; exact hx⟩
theorem Ints.keeps {S : Nat → Prop} {w w' : World} {base : Nat} {k : IntKind} {A : Option Addr} {n : Nat} (h : Ints w base k A n) (kp : Keeps S w w') (hS : ∀ b o, A = some ⟨b, o, none⟩ → ¬ S b) : Ints w' base k A n := fun h0 => by
  obtain ⟨g, o, rfl, hb, hc⟩ := h h0
  have hlt : g < w.heap.size := by
    obtain ⟨x, hx⟩ := (hc 0 h0).1
    exact World.block_lt_of_cell? w _ hx
  refine ⟨g, o, rfl, hb, fun j hj => ?_⟩
  obtain ⟨⟨x, hx⟩, hf⟩ := hc j hj
  have hblk := kp.block g hlt (hS g o rfl)
  exact ⟨⟨x, (World.cell?_of_block hblk).trans hx⟩, by
    rw [← hf]
    unfold World.frozen?
    rw [hblk]⟩
theorem Ints.under {w w' : World} {base : Nat} {k : IntKind} {A : Option Addr} {n : Nat} (h : Ints w base k A n) (hb : Below w.heap.size w w') : Ints w' base k A n := h.keeps (Keeps.under hb (fun _ => False)) (fun _ _ _ h => h)
theorem Ints.mono {w : World} {base base' : Nat} {k : IntKind} {A : Option Addr} {n : Nat} (h : Ints w base k A n) (hb : base' ≤ base) : Ints w base' k A n := fun h0 => by
  obtain ⟨g, o, e, h1, hc⟩ := h h0
  exact ⟨g, o, e, by omega, hc⟩
end Go.Proofs.Ytkodmoeohffjhaa
