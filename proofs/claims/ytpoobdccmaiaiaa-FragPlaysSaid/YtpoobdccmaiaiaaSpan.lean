/- The blocks from lo up to hi are as they were. No statement of the seat stands here. -/
import Derived.Test.YtpoobdccmaiaiaaKeeps
namespace Go.Proofs.Ytpoobdccmaiaiaa
open Go.RowKit
set_option linter.unusedVariables false
set_option linter.unusedSimpArgs false

def Span (lo hi : Nat) (w w' : World) : Prop := ∀ i, lo ≤ i → i < hi → w'.heap[i]? = w.heap[i]?
section
variable {lo hi : Nat} {w w' w'' : World}
theorem Span.refl (lo hi : Nat) (w : World) : Span lo hi w w := fun _ _ _ => rfl
theorem Span.keeps {S : Nat → Prop} (h : Span lo hi w w') (k : Keeps S w' w'') (hz : hi ≤ w'.heap.size) (hS : ∀ i, lo ≤ i → i < hi → ¬ S i) : Span lo hi w w'' := fun i h1 h2 => (k.block i (by omega) (hS i h1 h2)).trans (h i h1 h2)
theorem Span.under (h : Span lo hi w w') (hb : Below w'.heap.size w' w'') (hz : hi ≤ w'.heap.size) : Span lo hi w w'' := fun i h1 h2 => (hb.block i (by omega)).trans (h i h1 h2)
theorem Span.setCell (h : Span lo hi w w') {p : Addr} (hp : p.block < lo ∨ hi ≤ p.block) (u : Value) : Span lo hi w (w'.setCell p u) := fun i h1 h2 => (Below.heap_setCell w' p u i (by omega)).trans (h i h1 h2)
theorem Span.row {e : TypeId} {size n : Nat} {v : Value} {xs : List Value} (h : Span lo hi w w') (ho : OwnR w lo e size v n xs) (hz : w.heap.size ≤ hi) : OwnR w' lo e size v n xs := by
  have hlt := ho.blocks
  refine ⟨ho.1, ?_⟩
  rcases ho.2 with h0 | ⟨g, cap, cur, rfl, h1, h2, r⟩
  · exact .inl h0
  · have := (hlt g rfl).2
    exact .inr ⟨g, cap, cur, rfl, h1, (h g h1 (by omega)).trans h2, r⟩
theorem Span.own {e : TypeId} {q : IntKind} {v : Value} {zs : List Int} (h : Span lo hi w w') (ho : OwnI w lo e q v zs) (hz : w.heap.size ≤ hi) : OwnI w' lo e q v zs := h.row ho hz
end
end Go.Proofs.Ytpoobdccmaiaiaa
