/- Words for memory: a slice of integers that reads as a list; one that the call owns; blocks known whole; what a call leaves as it was. No statement of the seat stands here. -/
import Derived.Test.YtkodmoeohffjhaaBase
import Derived.Maps.AppendAt
import Derived.Deep.AppendLies
import Derived.RegionTactic
import Derived.OwnWalk
import Derived.Laws.OwnMore
import Derived.Laws.CopyOwn
namespace Go.Proofs.Ytkodmoeohffjhaa
open Go.RowKit

/-! ### A block that is known whole -/
def Blk (w : World) (g : Nat) (t : TypeId) (cs : Array Value) : Prop := w.heap[g]? = some (.cells cs t (0, 0))
section
variable {w w' : World} {g : Nat} {t : TypeId} {cs : Array Value}
theorem Blk.lt (h : Blk w g t cs) : g < w.heap.size := by
  rcases Nat.lt_or_ge g w.heap.size with hlt | hge
  · exact hlt
  · unfold Blk at h; rw [Array.getElem?_eq_none hge] at h; cases h
theorem Blk.cell (h : Blk w g t cs) (i : Nat) : w.cell? ⟨g, i, none⟩ = cs[i]? := cell_of_row w g i cs t (0, 0) h
theorem Blk.frozen (h : Blk w g t cs) (i : Nat) : w.frozen? ⟨g, i, none⟩ = false := by
  unfold Blk at h
  simp [World.frozen?, h]
theorem Blk.new (w : World) (t : TypeId) (cs : Array Value) : Blk (w.alloc (.cells cs t)) w.heap.size t cs := heap_alloc_new w _
theorem Blk.drew (h : Blk w g t cs) : Blk w.drew g t cs := h
theorem Blk.drewN (h : Blk w g t cs) (n : Nat) : Blk (w.drewN n) g t cs := h
theorem Blk.alloc (h : Blk w g t cs) (o : Obj) : Blk (w.alloc o) g t cs := (Below.heap_alloc w o g h.lt).trans h
theorem Blk.set_ (h : Blk w g t cs) (i : Nat) (u : Value) : Blk (w.setCell ⟨g, i, none⟩ u) g t (cs.setIfInBounds i u) := by
  unfold Blk at h ⊢
  simp [World.setCell, Array.getElem?_modify, h]
theorem Blk.far (h : Blk w g t cs) {p : Addr} (hp : g ≠ p.block) (u : Value) : Blk (w.setCell p u) g t cs := (Below.heap_setCell w p u g hp).trans h
theorem Blk.below {B : Nat} (h : Blk w g t cs) (hb : Below B w w') (hg : g < B) : Blk w' g t cs := (hb.block g hg).trans h
theorem Blk.under (h : Blk w g t cs) (hb : Below w.heap.size w w') : Blk w' g t cs := h.below hb h.lt
theorem Blk.grown {row : Option Nat} (h : Blk w g t cs) (hb : w.grownBy w' row) (hg : some g ≠ row) : Blk w' g t cs := (hb.block g h.lt hg).trans h
end

/-! ### A store into a block of a few cells -/
section
variable {w : World} {g : Nat} {t : TypeId}
theorem Blk.s1_0 {x0 : Value} (h : Blk w g t #[x0]) (u : Value) : Blk (w.setCell ⟨g, 0, none⟩ u) g t #[u] := h.set_ 0 u
theorem Blk.s2_0 {x0 x1 : Value} (h : Blk w g t #[x0, x1]) (u : Value) : Blk (w.setCell ⟨g, 0, none⟩ u) g t #[u, x1] := h.set_ 0 u
theorem Blk.s2_1 {x0 x1 : Value} (h : Blk w g t #[x0, x1]) (u : Value) : Blk (w.setCell ⟨g, 1, none⟩ u) g t #[x0, u] := h.set_ 1 u
theorem Blk.s3_0 {x0 x1 x2 : Value} (h : Blk w g t #[x0, x1, x2]) (u : Value) : Blk (w.setCell ⟨g, 0, none⟩ u) g t #[u, x1, x2] := h.set_ 0 u
theorem Blk.s3_1 {x0 x1 x2 : Value} (h : Blk w g t #[x0, x1, x2]) (u : Value) : Blk (w.setCell ⟨g, 1, none⟩ u) g t #[x0, u, x2] := h.set_ 1 u
theorem Blk.s3_2 {x0 x1 x2 : Value} (h : Blk w g t #[x0, x1, x2]) (u : Value) : Blk (w.setCell ⟨g, 2, none⟩ u) g t #[x0, x1, u] := h.set_ 2 u
theorem Blk.s4_0 {x0 x1 x2 x3 : Value} (h : Blk w g t #[x0, x1, x2, x3]) (u : Value) : Blk (w.setCell ⟨g, 0, none⟩ u) g t #[u, x1, x2, x3] := h.set_ 0 u
theorem Blk.s4_1 {x0 x1 x2 x3 : Value} (h : Blk w g t #[x0, x1, x2, x3]) (u : Value) : Blk (w.setCell ⟨g, 1, none⟩ u) g t #[x0, u, x2, x3] := h.set_ 1 u
theorem Blk.s4_2 {x0 x1 x2 x3 : Value} (h : Blk w g t #[x0, x1, x2, x3]) (u : Value) : Blk (w.setCell ⟨g, 2, none⟩ u) g t #[x0, x1, u, x3] := h.set_ 2 u
theorem Blk.s4_3 {x0 x1 x2 x3 : Value} (h : Blk w g t #[x0, x1, x2, x3]) (u : Value) : Blk (w.setCell ⟨g, 3, none⟩ u) g t #[x0, x1, x2, u] := h.set_ 3 u
theorem Blk.s5_0 {x0 x1 x2 x3 x4 : Value} (h : Blk w g t #[x0, x1, x2, x3, x4]) (u : Value) : Blk (w.setCell ⟨g, 0, none⟩ u) g t #[u, x1, x2, x3, x4] := h.set_ 0 u
theorem Blk.s5_1 {x0 x1 x2 x3 x4 : Value} (h : Blk w g t #[x0, x1, x2, x3, x4]) (u : Value) : Blk (w.setCell ⟨g, 1, none⟩ u) g t #[x0, u, x2, x3, x4] := h.set_ 1 u
theorem Blk.s5_2 {x0 x1 x2 x3 x4 : Value} (h : Blk w g t #[x0, x1, x2, x3, x4]) (u : Value) : Blk (w.setCell ⟨g, 2, none⟩ u) g t #[x0, x1, u, x3, x4] := h.set_ 2 u
theorem Blk.s5_3 {x0 x1 x2 x3 x4 : Value} (h : Blk w g t #[x0, x1, x2, x3, x4]) (u : Value) : Blk (w.setCell ⟨g, 3, none⟩ u) g t #[x0, x1, x2, u, x4] := h.set_ 3 u
theorem Blk.s5_4 {x0 x1 x2 x3 x4 : Value} (h : Blk w g t #[x0, x1, x2, x3, x4]) (u : Value) : Blk (w.setCell ⟨g, 4, none⟩ u) g t #[x0, x1, x2, x3, u] := h.set_ 4 u
theorem Blk.s6_0 {x0 x1 x2 x3 x4 x5 : Value} (h : Blk w g t #[x0, x1, x2, x3, x4, x5]) (u : Value) : Blk (w.setCell ⟨g, 0, none⟩ u) g t #[u, x1, x2, x3, x4, x5] := h.set_ 0 u
theorem Blk.s6_1 {x0 x1 x2 x3 x4 x5 : Value} (h : Blk w g t #[x0, x1, x2, x3, x4, x5]) (u : Value) : Blk (w.setCell ⟨g, 1, none⟩ u) g t #[x0, u, x2, x3, x4, x5] := h.set_ 1 u
theorem Blk.s6_2 {x0 x1 x2 x3 x4 x5 : Value} (h : Blk w g t #[x0, x1, x2, x3, x4, x5]) (u : Value) : Blk (w.setCell ⟨g, 2, none⟩ u) g t #[x0, x1, u, x3, x4, x5] := h.set_ 2 u
theorem Blk.s6_3 {x0 x1 x2 x3 x4 x5 : Value} (h : Blk w g t #[x0, x1, x2, x3, x4, x5]) (u : Value) : Blk (w.setCell ⟨g, 3, none⟩ u) g t #[x0, x1, x2, u, x4, x5] := h.set_ 3 u
theorem Blk.s6_4 {x0 x1 x2 x3 x4 x5 : Value} (h : Blk w g t #[x0, x1, x2, x3, x4, x5]) (u : Value) : Blk (w.setCell ⟨g, 4, none⟩ u) g t #[x0, x1, x2, x3, u, x5] := h.set_ 4 u
theorem Blk.s6_5 {x0 x1 x2 x3 x4 x5 : Value} (h : Blk w g t #[x0, x1, x2, x3, x4, x5]) (u : Value) : Blk (w.setCell ⟨g, 5, none⟩ u) g t #[x0, x1, x2, x3, x4, u] := h.set_ 5 u
theorem Blk.s7_0 {x0 x1 x2 x3 x4 x5 x6 : Value} (h : Blk w g t #[x0, x1, x2, x3, x4, x5, x6]) (u : Value) : Blk (w.setCell ⟨g, 0, none⟩ u) g t #[u, x1, x2, x3, x4, x5, x6] := h.set_ 0 u
theorem Blk.s7_1 {x0 x1 x2 x3 x4 x5 x6 : Value} (h : Blk w g t #[x0, x1, x2, x3, x4, x5, x6]) (u : Value) : Blk (w.setCell ⟨g, 1, none⟩ u) g t #[x0, u, x2, x3, x4, x5, x6] := h.set_ 1 u
theorem Blk.s7_2 {x0 x1 x2 x3 x4 x5 x6 : Value} (h : Blk w g t #[x0, x1, x2, x3, x4, x5, x6]) (u : Value) : Blk (w.setCell ⟨g, 2, none⟩ u) g t #[x0, x1, u, x3, x4, x5, x6] := h.set_ 2 u
theorem Blk.s7_3 {x0 x1 x2 x3 x4 x5 x6 : Value} (h : Blk w g t #[x0, x1, x2, x3, x4, x5, x6]) (u : Value) : Blk (w.setCell ⟨g, 3, none⟩ u) g t #[x0, x1, x2, u, x4, x5, x6] := h.set_ 3 u
theorem Blk.s7_4 {x0 x1 x2 x3 x4 x5 x6 : Value} (h : Blk w g t #[x0, x1, x2, x3, x4, x5, x6]) (u : Value) : Blk (w.setCell ⟨g, 4, none⟩ u) g t #[x0, x1, x2, x3, u, x5, x6] := h.set_ 4 u
theorem Blk.s7_5 {x0 x1 x2 x3 x4 x5 x6 : Value} (h : Blk w g t #[x0, x1, x2, x3, x4, x5, x6]) (u : Value) : Blk (w.setCell ⟨g, 5, none⟩ u) g t #[x0, x1, x2, x3, x4, u, x6] := h.set_ 5 u
theorem Blk.s7_6 {x0 x1 x2 x3 x4 x5 x6 : Value} (h : Blk w g t #[x0, x1, x2, x3, x4, x5, x6]) (u : Value) : Blk (w.setCell ⟨g, 6, none⟩ u) g t #[x0, x1, x2, x3, x4, x5, u] := h.set_ 6 u
theorem Blk.s8_0 {x0 x1 x2 x3 x4 x5 x6 x7 : Value} (h : Blk w g t #[x0, x1, x2, x3, x4, x5, x6, x7]) (u : Value) : Blk (w.setCell ⟨g, 0, none⟩ u) g t #[u, x1, x2, x3, x4, x5, x6, x7] := h.set_ 0 u
theorem Blk.s8_1 {x0 x1 x2 x3 x4 x5 x6 x7 : Value} (h : Blk w g t #[x0, x1, x2, x3, x4, x5, x6, x7]) (u : Value) : Blk (w.setCell ⟨g, 1, none⟩ u) g t #[x0, u, x2, x3, x4, x5, x6, x7] := h.set_ 1 u
theorem Blk.s8_2 {x0 x1 x2 x3 x4 x5 x6 x7 : Value} (h : Blk w g t #[x0, x1, x2, x3, x4, x5, x6, x7]) (u : Value) : Blk (w.setCell ⟨g, 2, none⟩ u) g t #[x0, x1, u, x3, x4, x5, x6, x7] := h.set_ 2 u
theorem Blk.s8_3 {x0 x1 x2 x3 x4 x5 x6 x7 : Value} (h : Blk w g t #[x0, x1, x2, x3, x4, x5, x6, x7]) (u : Value) : Blk (w.setCell ⟨g, 3, none⟩ u) g t #[x0, x1, x2, u, x4, x5, x6, x7] := h.set_ 3 u
theorem Blk.s8_4 {x0 x1 x2 x3 x4 x5 x6 x7 : Value} (h : Blk w g t #[x0, x1, x2, x3, x4, x5, x6, x7]) (u : Value) : Blk (w.setCell ⟨g, 4, none⟩ u) g t #[x0, x1, x2, x3, u, x5, x6, x7] := h.set_ 4 u
theorem Blk.s8_5 {x0 x1 x2 x3 x4 x5 x6 x7 : Value} (h : Blk w g t #[x0, x1, x2, x3, x4, x5, x6, x7]) (u : Value) : Blk (w.setCell ⟨g, 5, none⟩ u) g t #[x0, x1, x2, x3, x4, u, x6, x7] := h.set_ 5 u
theorem Blk.s8_6 {x0 x1 x2 x3 x4 x5 x6 x7 : Value} (h : Blk w g t #[x0, x1, x2, x3, x4, x5, x6, x7]) (u : Value) : Blk (w.setCell ⟨g, 6, none⟩ u) g t #[x0, x1, x2, x3, x4, x5, u, x7] := h.set_ 6 u
theorem Blk.s8_7 {x0 x1 x2 x3 x4 x5 x6 x7 : Value} (h : Blk w g t #[x0, x1, x2, x3, x4, x5, x6, x7]) (u : Value) : Blk (w.setCell ⟨g, 7, none⟩ u) g t #[x0, x1, x2, x3, x4, x5, x6, u] := h.set_ 7 u
end

/-! ### Only one block, and what is new, has turned -/
theorem only_refl (w : World) (row : Option Nat) : w.grownBy w row := ⟨rfl, rfl, rfl, Nat.le_refl _, fun _ _ _ => rfl⟩
theorem only_drewN {a w : World} {row : Option Nat} (h : a.grownBy w row) (n : Nat) : a.grownBy (w.drewN n) row := ⟨h.os, h.tape, h.output, h.size, h.block⟩
theorem only_drew {a w : World} {row : Option Nat} (h : a.grownBy w row) : a.grownBy w.drew row := ⟨h.os, h.tape, h.output, h.size, h.block⟩
theorem only_alloc {a w : World} {row : Option Nat} (h : a.grownBy w row) (o : Obj) : a.grownBy (w.alloc o) row :=
  ⟨h.os, h.tape, h.output, Nat.le_trans h.size (by simp), fun i hi hne => (Below.heap_alloc w o i (Nat.lt_of_lt_of_le hi h.size)).trans (h.block i hi hne)⟩
theorem only_setCell {a w : World} {g : Nat} (h : a.grownBy w (some g)) {p : Addr} (hp : p.block = g ∨ a.heap.size ≤ p.block) (u : Value) : a.grownBy (w.setCell p u) (some g) :=
  ⟨h.os, h.tape, h.output, by simpa [World.setCell] using h.size, fun i hi hne => (Below.heap_setCell w p u i (by
    rintro rfl
    rcases hp with hp | hp
    · exact hne (by rw [hp])
    · omega)).trans (h.block i hi hne)⟩
theorem only_of_below {a w : World} (h : Below a.heap.size a w) (row : Option Nat) : a.grownBy w row := ⟨h.os, h.tape, h.output, h.size, fun i hi _ => h.block i hi⟩
/-- Two steps: the second one's block is the first one's, or a new one, or none. -/
theorem only_trans {a b c : World} {row row' : Option Nat} (h : a.grownBy b row) (k : b.grownBy c row') (hr : ∀ g, row' = some g → row = some g ∨ a.heap.size ≤ g) : a.grownBy c row :=
  ⟨k.os.trans h.os, k.tape.trans h.tape, k.output.trans h.output, Nat.le_trans h.size k.size, fun i hi hne => (k.block i (Nat.lt_of_lt_of_le hi h.size) (fun e => by
    rcases hr i e.symm with h1 | h1
    · exact hne h1.symm
    · omega)).trans (h.block i hi hne)⟩
/-- A block from B on is all that has turned: below B the world is as it was. -/
theorem below_of_only {B : Nat} {a b c : World} (h : Below B a b) {row : Option Nat} (k : b.grownBy c row) (hB : B ≤ b.heap.size) (hr : ∀ g, row = some g → B ≤ g) : Below B a c := h.grown k hB hr

/-! ### A slice of integers that reads as a list -/
def ReadI (w : World) (k : IntKind) (A : Option Addr) (zs : List Int) : Prop :=
  zs ≠ [] → ∃ b o, A = some ⟨b, o, none⟩ ∧ ∀ j, j < zs.length → w.cell? ⟨b, o + j, none⟩ = some (.int k (zs.getD j 0))
section
variable {w w' : World} {k : IntKind} {A : Option Addr} {zs : List Int}
theorem ReadI.nil (w : World) (k : IntKind) (A : Option Addr) : ReadI w k A [] := fun h => absurd rfl h
theorem ReadI.lt (h : ReadI w k A zs) {b o : Nat} (hz : zs ≠ []) (hA : A = some ⟨b, o, none⟩) : b < w.heap.size := by
  obtain ⟨b', o', e, hc⟩ := h hz
  rw [hA] at e
  injection e with e
  injection e with e1 e2
  subst e1
  exact World.block_lt_of_cell? w _ (hc 0 (List.length_pos_iff.2 hz))
theorem ReadI.only (h : ReadI w k A zs) {row : Option Nat} (hg : w.grownBy w' row) (hne : ∀ b o, A = some ⟨b, o, none⟩ → some b ≠ row) : ReadI w' k A zs := fun hz => by
  obtain ⟨b, o, e, hc⟩ := h hz
  exact ⟨b, o, e, fun j hj => (World.cell?_of_block (hg.block b (h.lt hz e) (hne b o e))).trans (hc j hj)⟩
theorem ReadI.under (h : ReadI w k A zs) (hb : Below w.heap.size w w') : ReadI w' k A zs := h.only (row := none) (only_of_below hb none) (fun _ _ _ => by simp)
theorem ReadI.drewN (h : ReadI w k A zs) (n : Nat) : ReadI (w.drewN n) k A zs := h
/-- A cut of it. -/
theorem ReadI.drop (h : ReadI w k A zs) (d : Nat) (hd : d < zs.length) : ReadI w k (A.map fun a => ⟨a.block, a.off + d, none⟩) (zs.drop d) := fun hz => by
  obtain ⟨b, o, rfl, hc⟩ := h (by rintro rfl; simp at hd)
  refine ⟨b, o + d, rfl, fun j hj => ?_⟩
  have := hc (d + j) (by simp at hj; omega)
  rw [Nat.add_assoc, this]
  simp [List.getD_eq_getElem?_getD]
theorem ReadI.take (h : ReadI w k A zs) (d : Nat) : ReadI w k A (zs.take d) := fun hz => by
  obtain ⟨b, o, rfl, hc⟩ := h (by rintro rfl; simp at hz)
  refine ⟨b, o, rfl, fun j hj => ?_⟩
  have hj' : j < d ∧ j < zs.length := by simp at hj; omega
  rw [hc j hj'.2]
  simp [List.getD_eq_getElem?_getD, hj'.1]
end

/-! ### A slice of integers that the call owns: nil, or a block of its own from 'base' on -/
def OwnI (w : World) (base : Nat) (e : TypeId) (k : IntKind) (v : Value) (zs : List Int) : Prop := w.ownsRow base e 1 v zs.length (zs.map (Value.int k))
section
variable {w w' : World} {base : Nat} {e : TypeId} {k : IntKind} {v : Value} {zs : List Int}
theorem OwnI.nil (w : World) (base : Nat) (e : TypeId) (k : IntKind) : OwnI w base e k (.slice none 0 0) [] := World.ownsRow_nil w base e 1
theorem OwnI.form (h : OwnI w base e k v zs) : ∃ A c, v = .slice A zs.length c ∧ zs.length ≤ c ∧ c ≤ maxLen := by
  rcases h.2 with ⟨rfl, h0⟩ | ⟨g, cap, cur, rfl, _, _, h1, h2, _⟩
  · exact ⟨none, 0, by rw [h0], by omega, by simp [maxLen]⟩
  · exact ⟨_, cap, rfl, h1, h2⟩
theorem OwnI.lt (h : OwnI w base e k v zs) : ∀ g, v.ownBlock = some g → base ≤ g ∧ g < w.heap.size := World.ownsRow.lt h
theorem OwnI.only (h : OwnI w base e k v zs) {row : Option Nat} (hg : w.grownBy w' row) (hne : v.ownBlock = none ∨ v.ownBlock ≠ row) : OwnI w' base e k v zs := World.ownsRow.kept h hg hne
theorem OwnI.under (h : OwnI w base e k v zs) (hb : Below w.heap.size w w') : OwnI w' base e k v zs :=
  World.ownsRow.kept h (only_of_below hb none) (by cases hv : v.ownBlock <;> simp)
theorem OwnI.drewN (h : OwnI w base e k v zs) (n : Nat) : OwnI (w.drewN n) base e k v zs := h.only (only_drewN (only_refl w none) n) (by cases hv : v.ownBlock <;> simp)
theorem OwnI.alloc (h : OwnI w base e k v zs) (o : Obj) : OwnI (w.alloc o) base e k v zs := h.only (only_alloc (only_refl w none) o) (by cases hv : v.ownBlock <;> simp)
theorem OwnI.mono (h : OwnI w base e k v zs) {base' : Nat} (hb : base' ≤ base) : OwnI w base' e k v zs := by
  refine ⟨h.1, ?_⟩
  rcases h.2 with h0 | ⟨g, cap, cur, rfl, h1, r⟩
  · exact .inl h0
  · exact .inr ⟨g, cap, cur, rfl, by omega, r⟩
theorem OwnI.read {A : Option Addr} {c : Nat} (h : OwnI w base e k (.slice A zs.length c) zs) : ReadI w k A zs := fun hz => by
  rcases h.2 with ⟨_, h0⟩ | ⟨g, cap, cur, hv, _⟩
  · exact absurd (List.eq_nil_of_length_eq_zero h0) hz
  · injection hv with hA
    subst hA
    refine ⟨g, 0, rfl, fun j hj => ?_⟩
    have := World.ownsRow.cells h (g := g) rfl j (.int k (zs.getD j 0)) (by simp [List.getD_eq_getElem?_getD, hj])
    rw [Nat.zero_add]
    rw [← this]
    congr 1
    unfold Addr.add
    split <;> simp_all
/-- A row laid just now: a slice's literal. -/
theorem OwnI.lit (w : World) (base : Nat) (e : TypeId) (k : IntKind) (zs : List Int) (cs : Array Value) (hc : cs = (zs.map (Value.int k)).toArray) (hb : base ≤ w.heap.size) (hm : zs.length ≤ maxLen) :
    OwnI (w.alloc (.cells cs e)) base e k (.slice (some ⟨w.heap.size, 0, none⟩) zs.length zs.length) zs := by
  subst hc
  have := World.ownsRow_lit (e := e) (size := 1) w (zs.map (Value.int k)).toArray zs.length hb hm (by simp)
  simpa [OwnI] using this
end

theorem OwnI.lit0 (w : World) (base : Nat) (e : TypeId) (k : IntKind) (hb : base ≤ w.heap.size) : OwnI (w.alloc (.cells #[] e)) base e k (.slice (some ⟨w.heap.size, 0, none⟩) 0 0) [] :=
  OwnI.lit w base e k [] _ rfl hb (by simp [maxLen])
theorem OwnI.lit1 (w : World) (base : Nat) (e : TypeId) (k : IntKind) (x0 : Int) (hb : base ≤ w.heap.size) : OwnI (w.alloc (.cells #[.int k x0] e)) base e k (.slice (some ⟨w.heap.size, 0, none⟩) 1 1) [x0] :=
  OwnI.lit w base e k [x0] _ rfl hb (by simp [maxLen])
theorem OwnI.lit2 (w : World) (base : Nat) (e : TypeId) (k : IntKind) (x0 x1 : Int) (hb : base ≤ w.heap.size) : OwnI (w.alloc (.cells #[.int k x0, .int k x1] e)) base e k (.slice (some ⟨w.heap.size, 0, none⟩) 2 2) [x0, x1] :=
  OwnI.lit w base e k [x0, x1] _ rfl hb (by simp [maxLen])
theorem OwnI.lit3 (w : World) (base : Nat) (e : TypeId) (k : IntKind) (x0 x1 x2 : Int) (hb : base ≤ w.heap.size) : OwnI (w.alloc (.cells #[.int k x0, .int k x1, .int k x2] e)) base e k (.slice (some ⟨w.heap.size, 0, none⟩) 3 3) [x0, x1, x2] :=
  OwnI.lit w base e k [x0, x1, x2] _ rfl hb (by simp [maxLen])
theorem OwnI.lit4 (w : World) (base : Nat) (e : TypeId) (k : IntKind) (x0 x1 x2 x3 : Int) (hb : base ≤ w.heap.size) : OwnI (w.alloc (.cells #[.int k x0, .int k x1, .int k x2, .int k x3] e)) base e k (.slice (some ⟨w.heap.size, 0, none⟩) 4 4) [x0, x1, x2, x3] :=
  OwnI.lit w base e k [x0, x1, x2, x3] _ rfl hb (by simp [maxLen])

theorem oneCell_ints (k : IntKind) (zs : List Int) : ∀ u ∈ zs.map (Value.int k), u.oneCell' = true := by
  intro u hu
  obtain ⟨z, _, rfl⟩ := List.mem_map.1 hu
  rfl
theorem run_append_of_nil {P : Program} (w : World) (base : Nat) (t ty e : TypeId) (i : TypeInfo) (size : Nat) (ht : P.underlying t = some (.slice e)) (hi : P.info? e = some i)
    (v : Value) (n : Nat) (xs : List Value) (hown : w.ownsRow base e size v n xs) (A : Option Addr) (c : Nat) : (Builtin.append_ #[t, t] ty #[v, .slice A 0 c]).run P w = .ok v w := by
  rcases hown.2 with ⟨rfl, rfl⟩ | ⟨g, cap, cur, rfl, _, _, hnc, _⟩
  · cases A <;> simp [Builtin.append_, run_underlying ht, sizeOf, typeInfo, hi, Builtin.lenOf, Builtin.firstCells, loadCells, loadCellsFrom]
  · cases A <;> simp [Builtin.append_, run_underlying ht, sizeOf, typeInfo, hi, Builtin.lenOf, Builtin.firstCells, hnc, storeCells, loadCells, loadCellsFrom]

/-- What is known of a slice behind an append onto it. -/
structure Apped (w w' : World) (base : Nat) (e : TypeId) (k : IntKind) (v v' : Value) (zs : List Int) : Prop where
  own : OwnI w' base e k v' zs
  only : w.grownBy w' v.ownBlock
  where_ : v'.ownBlock = v.ownBlock ∨ v'.ownBlock = some w.heap.size

theorem run_append_ints {P : Program} (w : World) (t ty e : TypeId) (k : IntKind) (bytes : Nat) (ht : P.underlying t = some (.slice e)) (hi : (P.info? e).map (fun i => (i.zero, i.size, i.bytes)) = some (some (.int k 0), 1, bytes))
    (base : Nat) (v : Value) (xs : List Int) (hown : OwnI w base e k v xs) (A : Option Addr) (c : Nat) (ys : List Int) (hr : ReadI w k A ys)
    (hn : xs.length + ys.length ≤ 17592186044415) (hby : bytes ≤ 8) (hbase : base ≤ w.heap.size) :
    ∃ A' c' w', (Builtin.append_ #[t, t] ty #[v, .slice A ys.length c]).run P w = .ok (.slice A' (xs.length + ys.length) c') w' ∧ Apped w w' base e k v (.slice A' (xs.length + ys.length) c') (xs ++ ys) := by
  obtain ⟨i, hi0, hz, hs, hb⟩ : ∃ i, P.info? e = some i ∧ i.zero = some (.int k 0) ∧ i.size = 1 ∧ i.bytes = bytes := by
    cases h : P.info? e with
    | none => simp [h] at hi
    | some i => simp [h] at hi; exact ⟨i, rfl, hi.1, hi.2.1, hi.2.2⟩
  by_cases hy : ys = []
  · subst hy
    obtain ⟨A0, c0, hv, hc0, _⟩ := hown.form
    refine ⟨A0, c0, w, ?_, ?_⟩
    · have := run_append_of_nil (P := P) w base t ty e i 1 ht hi0 v xs.length _ hown A c
      simpa [hv] using this
    · subst hv
      exact ⟨by simpa [OwnI] using hown, only_refl w _, .inl rfl⟩
  · obtain ⟨b, o, rfl, hcell⟩ := hr hy
    have hmul : (xs.length + ys.length) * bytes ≤ 17592186044415 * 8 := Nat.mul_le_mul hn hby
    obtain ⟨v', w', hrun, h2, h3, _, h5⟩ := run_append_own_at (P := P) w base t ty e i (.int k 0) 1 bytes ht hi0 hz hs hb rfl (by omega) v xs.length (xs.map (Value.int k)) hown ⟨b, o, none⟩ ys.length c (ys.map (Value.int k)) (by simp)
      (fun j u hu => by
        have hj : j < ys.length := by
          rcases Nat.lt_or_ge j ys.length with h | h
          · exact h
          · rw [List.getElem?_eq_none (by simpa using h)] at hu; cases hu
        have hc := hcell j hj
        have : (ys.map (Value.int k))[j]? = some (.int k (ys.getD j 0)) := by simp [List.getD_eq_getElem?_getD, hj]
        rw [this] at hu
        injection hu with hu
        subst hu
        rw [← hc]
        congr 1
        unfold Addr.add
        split <;> simp_all)
      (oneCell_ints k ys) (by simp only [maxLen]; omega) (by omega) hbase
    have hform : OwnI w' base e k v' (xs ++ ys) := by
      have := h2
      unfold OwnI
      simpa using this
    obtain ⟨A', c', hv', _, _⟩ := hform.form
    rw [List.length_append] at hv'
    subst hv'
    exact ⟨A', c', w', hrun, hform, h3, h5⟩

theorem wpList_append_ints {P : Program} {ops : Array Oper} {rest : List Oper} {o : Oper} {a : Act} {Q : Exit → Act → World → Prop} (w : World) (hgd : o.guard = none) (s x : Operand) (t e : TypeId) (k : IntKind) (bytes : Nat)
    (ho : o.op = .call { callee := .builtin .append, args := #[s, x], argTypes := #[t, t] })
    (ht : P.underlying t = some (.slice e)) (hi : (P.info? e).map (fun i => (i.zero, i.size, i.bytes)) = some (some (.int k 0), 1, bytes)) (hby : bytes ≤ 8)
    (base : Nat) (v : Value) (xs : List Int) (hs : a.eval s = v) (hown : OwnI w base e k v xs) (A : Option Addr) (c : Nat) (ys : List Int) (hx : a.eval x = .slice A ys.length c) (hr : ReadI w k A ys)
    (hn : xs.length + ys.length ≤ 17592186044415) (hbase : base ≤ w.heap.size)
    (h : ∀ A' c' w', Apped w w' base e k v (.slice A' (xs.length + ys.length) c') (xs ++ ys) → wpList P ops Q rest (a.put o.dst (.slice A' (xs.length + ys.length) c')) w') : wpList P ops Q (o :: rest) a w := by
  obtain ⟨A', c', w', hrun, h2⟩ := run_append_ints (P := P) w t o.type e k bytes ht hi base v xs hown A c ys hr hn hby hbase
  refine wpList_plain hgd fun K hK => ?_
  unfold Oper.wp execOp
  simp only [ho, resolve, invoke, builtin, Sem.run_bind, Sem.run_pure, Result.andThen_ok, List.map_toArray, List.map_cons, List.map_nil, hs, hx, hrun]
  exact hK _ _ (h A' c' w' h2)

/-! ### A block that is just a row of integers -/
def RowI (w : World) (g : Nat) (e : TypeId) (k : IntKind) (zs : List Int) : Prop := Blk w g e (zs.map (Value.int k)).toArray
section
variable {w w' : World} {g : Nat} {e : TypeId} {k : IntKind} {zs : List Int}
theorem RowI.lt (h : RowI w g e k zs) : g < w.heap.size := Blk.lt h
theorem RowI.cell (h : RowI w g e k zs) (j : Nat) (hj : j < zs.length) : w.cell? ⟨g, j, none⟩ = some (.int k (zs.getD j 0)) := by
  rw [Blk.cell h j]
  simp [List.getD_eq_getElem?_getD, hj]
theorem RowI.frozen (h : RowI w g e k zs) (j : Nat) : w.frozen? ⟨g, j, none⟩ = false := Blk.frozen h j
theorem RowI.set_ (h : RowI w g e k zs) (j : Nat) (u : Int) : RowI (w.setCell ⟨g, j, none⟩ (.int k u)) g e k (zs.set j u) := by
  have := Blk.set_ h j (.int k u)
  unfold RowI
  rw [List.map_set]
  simpa using this
theorem RowI.under (h : RowI w g e k zs) (hb : Below w.heap.size w w') : RowI w' g e k zs := Blk.under h hb
theorem RowI.grown {row : Option Nat} (h : RowI w g e k zs) (hb : w.grownBy w' row) (hg : some g ≠ row) : RowI w' g e k zs := Blk.grown h hb hg
theorem RowI.drewN (h : RowI w g e k zs) (n : Nat) : RowI (w.drewN n) g e k zs := h
theorem RowI.read (h : RowI w g e k zs) : ReadI w k (some ⟨g, 0, none⟩) zs := fun _ => ⟨g, 0, rfl, fun j hj => by rw [Nat.zero_add]; exact h.cell j hj⟩
theorem RowI.own (h : RowI w g e k zs) {base : Nat} (hb : base ≤ g) (hm : zs.length ≤ maxLen) : OwnI w base e k (.slice (some ⟨g, 0, none⟩) zs.length zs.length) zs :=
  ⟨by simp, .inr ⟨g, zs.length, _, rfl, hb, h, Nat.le_refl _, hm, by simp, by simp [List.take_of_length_le]⟩⟩
end

theorem wpList_make_ints {P : Program} {ops : Array Oper} {rest : List Oper} {o : Oper} {a : Act} {Q : Exit → Act → World → Prop} (w : World) (hg : o.guard = none) (l c : Operand) (t e : TypeId) (k : IntKind) (bytes : Nat) (hop : o.op = Op.makeSlice t l c)
    (ht : P.underlying t = some (.slice e)) (hi : (P.info? e).map (fun i => (i.zero, i.size, i.bytes)) = some (some (.int k 0), 1, bytes)) (hby : bytes ≤ 8)
    (kl kc : IntKind) (n : Nat) (L C : Int) (hl : a.eval l = .int kl L) (hc : a.eval c = .int kc C) (hL : L = (n : Int)) (hC : C = (n : Int)) (hn : n ≤ 17592186044415)
    (h : ∀ w', RowI w' w.heap.size e k (List.replicate n 0) → Below w.heap.size w w' → w'.heap.size = w.heap.size + 1 → wpList P ops Q rest (a.put o.dst (.slice (some ⟨w.heap.size, 0, none⟩) n n)) w') :
    wpList P ops Q (o :: rest) a w := by
  subst hL
  subst hC
  obtain ⟨i, hi0, hz, hs, hb⟩ : ∃ i, P.info? e = some i ∧ i.zero = some (.int k 0) ∧ i.size = 1 ∧ i.bytes = bytes := by
    cases h : P.info? e with
    | none => simp [h] at hi
    | some i => simp [h] at hi; exact ⟨i, rfl, hi.1, hi.2.1, hi.2.2⟩
  have hmul : bytes * n ≤ 8 * 17592186044415 := Nat.mul_le_mul hby hn
  have hb' : (i.bytes : Int) * (n : Int) ≤ 281474976710656 := by
    rw [hb]
    have h : ((bytes * n : Nat) : Int) ≤ 281474976710656 := by omega
    rwa [Int.natCast_mul] at h
  have hr := run_make (P := P) w t e i (.int k 0) ht hi0 hz kl kc n n (by omega) (Int.le_refl _) hb' (by omega)
  simp only [Int.toNat_natCast, hs, Nat.mul_one] at hr
  refine wpList_plain hg fun K hK' => ?_
  unfold Oper.wp
  simp [execOp, hop, hl, hc, hr, Result.andThen]
  refine hK' _ _ (h _ ?_ ((Below.refl _ _).alloc (Nat.le_refl _) _) (by simp))
  have hcells : madeCells (Value.int k 0).cells n = ((List.replicate n (0 : Int)).map (Value.int k)).toArray := by
    have := toList_madeCells_one (Value.int k 0) n
    apply Array.ext'
    show (madeCells #[Value.int k 0] n).toList = _
    rw [this]
    simp
  show Blk _ _ _ _
  rw [hcells]
  exact Blk.new _ _ _

theorem wpList_copy_ints {P : Program} {ops : Array Oper} {rest : List Oper} {o : Oper} {a : Act} {Q : Exit → Act → World → Prop} (w : World) (hgd : o.guard = none) (d s : Operand) (t e : TypeId) (k : IntKind)
    (ho : o.op = .call { callee := .builtin .copy, args := #[d, s], argTypes := #[t, t] }) (hu : P.underlying t = some (.slice e)) (hsz : (P.info? e).map (·.size) = some 1)
    (g dn cap : Nat) (zs : List Int) (hd : a.eval d = .slice (some ⟨g, 0, none⟩) dn cap) (hz : RowI w g e k zs) (hdn : dn = zs.length)
    (A : Option Addr) (sn c : Nat) (ys : List Int) (hs : a.eval s = .slice A sn c) (hr : ReadI w k A ys) (hsn : sn = ys.length) (hl : ys.length ≤ zs.length)
    (h : ∀ w', RowI w' g e k (ys ++ zs.drop ys.length) → w.grownBy w' (some g) → wpList P ops Q rest (a.put o.dst (goInt ys.length)) w') : wpList P ops Q (o :: rest) a w := by
  subst hdn hsn
  have hz' : w.heap[g]? = some (.cells (zs.map (Value.int k)).toArray e (0, 0)) := hz
  refine wpList_plain hgd fun K hK => ?_
  by_cases h0 : ys = []
  · subst h0
    have hrun := run_copy_none (P := P) w t t o.type e (some ⟨g, 0, none⟩) A zs.length cap 0 c hu hsz (by simp)
    unfold Oper.wp
    simp [execOp, ho, resolve, invoke, builtin, hd, hs, hrun, Result.andThen]
    exact hK _ _ (h w (by simpa using hz) (only_refl w _))
  · obtain ⟨b, o', rfl, hcell⟩ := hr h0
    have hrun := run_copy_row (P := P) w t t o.type e g 0 zs.length cap ⟨b, o', none⟩ ys.length c _ e (ys.map (Value.int k)) hu hsz hz' (by rw [List.length_map]; exact (Nat.min_eq_left hl).symm)
      (fun j v hv => by
        have hj : j < ys.length := by
          rcases Nat.lt_or_ge j ys.length with h | h
          · exact h
          · rw [List.getElem?_eq_none (by simpa using h)] at hv; cases hv
        have hc := hcell j hj
        have : (ys.map (Value.int k))[j]? = some (.int k (ys.getD j 0)) := by simp [List.getD_eq_getElem?_getD, hj]
        rw [this] at hv
        injection hv with hv
        subst hv
        rw [← hc]
        congr 1
        unfold Addr.add
        split <;> simp_all) (by simp; omega) (oneCell_ints k ys)
    unfold Oper.wp
    simp only [execOp, ho, resolve, invoke, builtin, hd, hs, List.map_toArray, List.map_cons, List.map_nil, Sem.run_bind, Sem.run_pure, hrun, Result.andThen_ok]
    have hlen : goInt ((ys.map (Value.int k)).length : Nat) = goInt ys.length := by simp
    rw [hlen]
    refine hK _ _ (h _ ?_ ⟨rfl, rfl, rfl, by simp, fun i _ hi => setRow_other w g i _ (fun e => hi (by rw [e]))⟩)
    show Blk _ _ _ _
    unfold Blk
    rw [setRow_heap w g _ _ e (0, 0) hz']
    simp
end Go.Proofs.Ytkodmoeohffjhaa
