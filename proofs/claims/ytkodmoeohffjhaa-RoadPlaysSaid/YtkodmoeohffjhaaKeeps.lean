/- What a call leaves as it was: all old blocks but those of a set S. No statement of the seat stands here. -/
import Derived.Test.YtkodmoeohffjhaaRowsM
import Derived.Test.YtkodmoeohffjhaaMapS
namespace Go.Proofs.Ytkodmoeohffjhaa
open Go.RowKit
set_option linter.unusedVariables false
set_option linter.unusedSimpArgs false

/-- Of the old blocks only those of S may have turned. -/
structure Keeps (S : Nat → Prop) (w w' : World) : Prop where
  os : w'.os = w.os
  tape : w'.tape = w.tape
  output : w'.output = w.output
  size : w.heap.size ≤ w'.heap.size
  block : ∀ i, i < w.heap.size → ¬ S i → w'.heap[i]? = w.heap[i]?
section
variable {S : Nat → Prop} {w w' w'' : World}
theorem Keeps.refl (S : Nat → Prop) (w : World) : Keeps S w w := ⟨rfl, rfl, rfl, Nat.le_refl _, fun _ _ _ => rfl⟩
theorem Keeps.under (h : Below w.heap.size w w') (S : Nat → Prop) : Keeps S w w' := ⟨h.os, h.tape, h.output, h.size, fun i hi _ => h.block i hi⟩
theorem Keeps.grown {row : Option Nat} (h : w.grownBy w' row) (hS : ∀ g, row = some g → S g) : Keeps S w w' := ⟨h.os, h.tape, h.output, h.size, fun i hi hn => h.block i hi (fun e => hn (hS i e.symm))⟩
/-- Two steps: what the second one turns is of S, or new. -/
theorem Keeps.trans {S' : Nat → Prop} (h : Keeps S w w') (k : Keeps S' w' w'') (hS : ∀ g, S' g → g < w.heap.size → S g) : Keeps S w w'' :=
  ⟨k.os.trans h.os, k.tape.trans h.tape, k.output.trans h.output, Nat.le_trans h.size k.size, fun i hi hn => (k.block i (Nat.lt_of_lt_of_le hi h.size) (fun e => hn (hS i e hi))).trans (h.block i hi hn)⟩
theorem Keeps.mono {S' : Nat → Prop} (h : Keeps S w w') (hS : ∀ g, S g → S' g) : Keeps S' w w' := ⟨h.os, h.tape, h.output, h.size, fun i hi hn => h.block i hi (fun e => hn (hS i e))⟩
theorem Keeps.below {B : Nat} {a : World} (h : Below B a w) (k : Keeps S w w') (hB : B ≤ w.heap.size) (hS : ∀ g, S g → B ≤ g) : Below B a w' :=
  ⟨k.os.trans h.os, k.tape.trans h.tape, k.output.trans h.output, Nat.le_trans h.size k.size, fun i hi => (k.block i (by omega) (fun e => by have := hS i e; omega)).trans (h.block i hi)⟩
/-- Nothing of S is old: all old blocks are as they were. -/
theorem Keeps.all (k : Keeps S w w') (hS : ∀ g, S g → w.heap.size ≤ g) : Below w.heap.size w w' := Keeps.below (Below.refl _ _) k (Nat.le_refl _) hS
theorem Keeps.blk {g : Nat} {t : TypeId} {cs : Array Value} (k : Keeps S w w') (h : Blk w g t cs) (hg : ¬ S g) : Blk w' g t cs := (k.block g h.lt hg).trans h
theorem Keeps.cell (k : Keeps S w w') (p : Addr) (hp : p.block < w.heap.size) (hg : ¬ S p.block) : w'.cell? p = w.cell? p := World.cell?_of_block (k.block p.block hp hg)
theorem Keeps.readI {q : IntKind} {A : Option Addr} {zs : List Int} (k : Keeps S w w') (h : ReadI w q A zs) (hg : ∀ b o, A = some ⟨b, o, none⟩ → ¬ S b) : ReadI w' q A zs := fun hz => by
  obtain ⟨b, o, e, hc⟩ := h hz
  exact ⟨b, o, e, fun j hj => (k.cell ⟨b, o + j, none⟩ (h.lt hz e) (hg b o e)).trans (hc j hj)⟩
theorem Keeps.row {base : Nat} {e : TypeId} {size n : Nat} {v : Value} {xs : List Value} (k : Keeps S w w') (h : OwnR w base e size v n xs) (hg : ∀ b, v.ownBlock = some b → ¬ S b) : OwnR w' base e size v n xs := by
  have hlt := h.blocks
  refine ⟨h.1, ?_⟩
  rcases h.2 with h0 | ⟨g, cap, cur, rfl, h1, h2, r⟩
  · exact .inl h0
  · exact .inr ⟨g, cap, cur, rfl, h1, (k.block g (hlt g rfl).2 (hg g rfl)).trans h2, r⟩
theorem Keeps.own {base : Nat} {e : TypeId} {q : IntKind} {v : Value} {zs : List Int} (k : Keeps S w w') (h : OwnI w base e q v zs) (hg : ∀ b, v.ownBlock = some b → ¬ S b) : OwnI w' base e q v zs := k.row h hg
theorem Keeps.map {b : Nat} {q : IntKind} {es : List (Int × Value)} (k : Keeps S w w') (h : MapS w b q es) (hg : ¬ S b) : MapS w' b q es := by
  have hlt := h.lt
  obtain ⟨arr, clock, hb, he⟩ := h
  exact ⟨arr, clock, (k.block b hlt hg).trans hb, he⟩
theorem Keeps.alloc (k : Keeps S w w') (o : Obj) : Keeps S w (w'.alloc o) := k.trans (Keeps.under (below_alloc (Below.refl w'.heap.size w') o) (fun _ => False)) (fun _ h => h.elim)
theorem Keeps.drewN (k : Keeps S w w') (n : Nat) : Keeps S w (w'.drewN n) := ⟨k.os, k.tape, k.output, k.size, k.block⟩
theorem Keeps.drew (k : Keeps S w w') : Keeps S w w'.drew := ⟨k.os, k.tape, k.output, k.size, k.block⟩
theorem Keeps.setCell (k : Keeps S w w') {p : Addr} (hp : S p.block ∨ w.heap.size ≤ p.block) (u : Value) : Keeps S w (w'.setCell p u) :=
  ⟨k.os, k.tape, k.output, by simpa [World.setCell] using k.size, fun i hi hn => (Below.heap_setCell w' p u i (by
    rintro rfl
    rcases hp with hp | hp
    · exact hn hp
    · omega)).trans (k.block i hi hn)⟩
end

/-! ### Cells that read as a list -/
def ReadC (w : World) (A : Option Addr) (xs : List Value) : Prop :=
  xs ≠ [] → ∃ b o, A = some ⟨b, o, none⟩ ∧ ∀ j u, xs[j]? = some u → w.cell? ⟨b, o + j, none⟩ = some u
section
variable {S : Nat → Prop} {w w' : World} {A : Option Addr} {xs : List Value}
theorem ReadC.nil (w : World) (A : Option Addr) : ReadC w A [] := fun h => absurd rfl h
theorem ReadC.lt (h : ReadC w A xs) {b o : Nat} (hz : xs ≠ []) (hA : A = some ⟨b, o, none⟩) : b < w.heap.size := by
  obtain ⟨b', o', e, hc⟩ := h hz
  rw [hA] at e
  injection e with e
  injection e with e1 e2
  subst e1
  match xs, hz with
  | u :: _, _ => exact World.block_lt_of_cell? w _ (hc 0 u rfl)
theorem Keeps.readC (k : Keeps S w w') (h : ReadC w A xs) (hg : ∀ b o, A = some ⟨b, o, none⟩ → ¬ S b) : ReadC w' A xs := fun hz => by
  obtain ⟨b, o, e, hc⟩ := h hz
  exact ⟨b, o, e, fun j u hu => (k.cell ⟨b, o + j, none⟩ (h.lt hz e) (hg b o e)).trans (hc j u hu)⟩
theorem ReadC.under (h : ReadC w A xs) (hb : Below w.heap.size w w') : ReadC w' A xs := (Keeps.under hb (fun _ => False)).readC h (fun _ _ _ h => h)
theorem ReadC.drewN (h : ReadC w A xs) (n : Nat) : ReadC (w.drewN n) A xs := h
end
theorem OwnR.read {w : World} {base : Nat} {e : TypeId} {size n c : Nat} {A : Option Addr} {xs : List Value} (h : OwnR w base e size (.slice A n c) n xs) : ReadC w A xs := fun hz => by
  rcases h.2 with ⟨_, h0⟩ | ⟨g, cap, cur, hv, _⟩
  · subst h0
    exact absurd (List.eq_nil_of_length_eq_zero (by simpa using h.1)) hz
  · injection hv with hA _ hc
    subst hA
    refine ⟨g, 0, rfl, fun j u hu => ?_⟩
    rw [Nat.zero_add]
    exact OwnR.cell (c := c) h j u hu
end Go.Proofs.Ytkodmoeohffjhaa
