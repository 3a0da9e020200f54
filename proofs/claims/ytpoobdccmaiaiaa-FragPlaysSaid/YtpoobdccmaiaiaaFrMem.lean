/- Parts in memory: a slice of parts that the call owns, each part's bytes in memory of the call's own. -/
import Derived.Test.YtpoobdccmaiaiaaFrFns
import Derived.Test.YtpoobdccmaiaiaaRowsM
namespace Go.Proofs.Ytpoobdccmaiaiaa
open Go.RowKit
set_option linter.unusedVariables false
set_option linter.unusedSimpArgs false

namespace Frag
structure PV where
  id : Int
  ix : Int
  ct : Int
  bs : List Int
def cells (q : PV × Value) : List Value := [.int .u32 q.1.id, .int .i64 q.1.ix, .int .i64 q.1.ct, q.2]
theorem cells_len (L : List (PV × Value)) : (L.flatMap cells).length = L.length * 4 := by
  induction L with
  | nil => rfl
  | cons q L ih => simp only [List.flatMap_cons, List.length_append, List.length_cons, ih, cells, List.length_nil]; omega
theorem cells_at : ∀ (L : List (PV × Value)) (i : Nat) (q : PV × Value), L[i]? = some q → ∀ j, j < 4 → (L.flatMap cells)[i * 4 + j]? = (cells q)[j]?
  | [], i, q, h, j, hj => by simp at h
  | p :: L, 0, q, h, j, hj => by
    simp at h
    subst h
    rw [List.flatMap_cons, Nat.zero_mul, Nat.zero_add, List.getElem?_append_left (by simp [cells]; omega)]
  | p :: L, i + 1, q, h, j, hj => by
    rw [List.flatMap_cons, List.getElem?_append_right (by simp [cells]; omega)]
    have : (i + 1) * 4 + j - (cells p).length = i * 4 + j := by simp [cells]; omega
    rw [this]
    exact cells_at L i q (by simpa using h) j hj
end Frag
open Frag

/-- Two values own no block together. -/
def Apart (u v : Value) : Prop := ∀ g, u.ownBlock = some g → v.ownBlock ≠ some g
theorem Apart.l {u v : Value} (h : Apart u v) : u.ownBlock = none ∨ u.ownBlock ≠ v.ownBlock := by
  cases hu : u.ownBlock with
  | none => exact .inl rfl
  | some g => exact .inr (fun e => h g hu e.symm)
theorem Apart.r {u v : Value} (h : Apart u v) : v.ownBlock = none ∨ v.ownBlock ≠ u.ownBlock := by
  cases hv : v.ownBlock with
  | none => exact .inl rfl
  | some g => exact .inr (fun e => h g e.symm hv)

/-- The slice v holds the parts L; it and their bytes are the call's own, from 'base' on. -/
structure Parts (w : World) (base : Nat) (v : Value) (L : List (PV × Value)) : Prop where
  row : OwnR w base 34 4 v L.length (L.flatMap cells)
  own : ∀ q ∈ L, OwnI w base 5 .u8 q.2 q.1.bs
  apart : ∀ q ∈ L, Apart v q.2
theorem Parts.nil (w : World) (base : Nat) : Parts w base (.slice none 0 0) [] := ⟨OwnR.nil _ _ _ _, (fun _ h => by cases h), (fun _ h => by cases h)⟩
theorem Parts.under {w w' : World} {base : Nat} {v : Value} {L : List (PV × Value)} (h : Parts w base v L) (hb : Below w.heap.size w w') : Parts w' base v L :=
  ⟨h.row.under hb, fun q hq => (h.own q hq).under hb, h.apart⟩
theorem Parts.mono {w : World} {base : Nat} {v : Value} {L : List (PV × Value)} (h : Parts w base v L) {base' : Nat} (hb : base' ≤ base) : Parts w base' v L :=
  ⟨h.row.mono hb, fun q hq => (h.own q hq).mono hb, h.apart⟩
/-- One more part behind: its bytes own a block of their own (or none). -/
theorem Parts.more {w w' : World} {base : Nat} {v : Value} {L : List (PV × Value)} (h : Parts w base v L) (q : PV × Value) (hq : OwnI w base 5 .u8 q.2 q.1.bs) (hvq : Apart v q.2)
    (g cap : Nat) (hrow : OwnR w' base 34 4 (.slice (some ⟨g, 0, none⟩) (L.length + 1) cap) (L.length + 1) (L.flatMap cells ++ cells q)) (hg : w.grownBy w' v.ownBlock) (hat : v.ownBlock = some g ∨ g = w.heap.size) :
    Parts w' base (.slice (some ⟨g, 0, none⟩) (L.length + 1) cap) (L ++ [q]) := by
  have hfresh : ∀ u : Value, (∀ x, u.ownBlock = some x → x < w.heap.size) → Apart v u → Apart (.slice (some ⟨g, 0, none⟩) (L.length + 1) cap) u := fun u hu ha x hx hux => by
    simp [Value.ownBlock] at hx
    subst hx
    rcases hat with e | e
    · exact ha g e hux
    · have := hu g hux; omega
  refine ⟨by simpa [cells] using hrow, fun p hp => ?_, fun p hp => ?_⟩
  · rcases List.mem_append.1 hp with hp | hp
    · exact (h.own p hp).only hg (h.apart p hp).r
    · rw [List.mem_singleton.1 hp]; exact hq.only hg hvq.r
  · rcases List.mem_append.1 hp with hp | hp
    · exact hfresh _ (fun x hx => ((h.own p hp).lt x hx).2) (h.apart p hp)
    · rw [List.mem_singleton.1 hp]; exact hfresh _ (fun x hx => (hq.lt x hx).2) hvq

namespace Frag
theorem cells_set : ∀ (L : List (PV × Value)) (j : Nat) (q : PV × Value) (m : Int), L[j]? = some q → (L.set j ({ q.1 with ct := m }, q.2)).flatMap cells = (L.flatMap cells).set (j * 4 + 2) (.int .i64 m)
  | [], j, q, m, h => by simp at h
  | p :: L, 0, q, m, h => by
    simp at h
    subst h
    simp [cells]
  | p :: L, j + 1, q, m, h => by
    rw [List.set_cons_succ, List.flatMap_cons, List.flatMap_cons, cells_set L j q m (by simpa using h), List.set_append_right _ _ (by simp [cells]; omega)]
    congr 2
    simp [cells]
    omega
end Frag
theorem OwnR.set_ {w : World} {base : Nat} {e : TypeId} {size n g c : Nat} {xs : List Value} (h : OwnR w base e size (.slice (some ⟨g, 0, none⟩) n c) n xs) (j : Nat) (u : Value) : OwnR (w.setCell ⟨g, j, none⟩ u) base e size (.slice (some ⟨g, 0, none⟩) n c) n (xs.set j u) := by
  refine ⟨by rw [List.length_set]; exact h.1, ?_⟩
  rcases h.2 with ⟨h0, _⟩ | ⟨g', cap, cur, hv, hb, hg, h1, h2, h3, h4⟩
  · cases h0
  · injection hv with e1 e2 e3
    injection e1 with e1
    injection e1 with e1
    subst e1 e3
    refine .inr ⟨g, c, cur.setIfInBounds j u, rfl, hb, Blk.set_ (show Blk w g e cur from hg) j u, h1, h2, by simpa using h3, ?_⟩
    rw [Array.toList_setIfInBounds, List.take_set, h4]
theorem Parts.count {w : World} {base : Nat} {n g c : Nat} {L : List (PV × Value)} (h : Parts w base (.slice (some ⟨g, 0, none⟩) n c) L) (hn : n = L.length) (j : Nat) (q : PV × Value) (hq : L[j]? = some q) (m : Int) :
    Parts (w.setCell ⟨g, j * 4 + 2, none⟩ (.int .i64 m)) base (.slice (some ⟨g, 0, none⟩) n c) (L.set j ({ q.1 with ct := m }, q.2)) := by
  subst hn
  have hmem : ∀ p ∈ L.set j ({ q.1 with ct := m }, q.2), ∃ p' ∈ L, p.2 = p'.2 ∧ p.1.bs = p'.1.bs := fun p hp => by
    rcases List.mem_or_eq_of_mem_set hp with h1 | h1
    · exact ⟨p, h1, rfl, rfl⟩
    · exact ⟨q, List.mem_of_getElem? hq, by rw [h1], by rw [h1]⟩
  refine ⟨?_, fun p hp => ?_, fun p hp => ?_⟩
  · rw [List.length_set, cells_set L j q m hq]
    exact h.row.set_ _ _
  · obtain ⟨p', hp', e1, e2⟩ := hmem p hp
    rw [e1, e2]
    exact (h.own p' hp').only (only_setCell (only_refl w (some g)) (p := ⟨g, j * 4 + 2, none⟩) (.inl rfl) _) (.inr (h.apart p' hp' g rfl))
  · obtain ⟨p', hp', e1, _⟩ := hmem p hp
    rw [e1]
    exact h.apart p' hp'
end Go.Proofs.Ytpoobdccmaiaiaa
