/- What the document's joiner computes, and how its list lies in memory. No statement of the seat stands here. -/
import Derived.Test.YtpoobdccmaiaiaaFrTake2
import Derived.Test.YtpoobdccmaiaiaaCellsA
namespace Go.Proofs.Ytpoobdccmaiaiaa
open Go.RowKit
open Frag
set_option linter.unusedVariables false
set_option linter.unusedSimpArgs false

namespace Frag
def rfull (T : List PV) (id : Int) (n : Nat) : List Int := (List.range n).flatMap fun k : Nat => (T.filter (fun t => t.id == id && t.ix == (k : Int))).flatMap (·.bs)
def rtake (T : List PV) (p : PV) : Ans × Bool :=
  if mayP p = false then (⟨[], false, 1⟩, false)
  else if T.any (fun t => decide (p.id < t.id)) then (⟨[], false, 16⟩, false)
  else if T.any (fun t => t.id == p.id && t.ct != p.ct) then (⟨[], false, 3⟩, false)
  else if T.any (fun t => t.id == p.id && t.ix == p.ix) then (⟨[], false, 16⟩, false)
  else if decide (((T.countP (fun t => t.id == p.id) : Nat) : Int) + 1 < p.ct) then (⟨[], false, 0⟩, true)
  else (⟨rfull (T ++ [p]) p.id p.ct.toNat, true, 0⟩, true)
theorem any_take_succ {α : Type} (T : List α) (f : α → Bool) (k : Nat) (h : k < T.length) : (T.take (k + 1)).any f = ((T.take k).any f || f T[k]) := by
  rw [List.take_succ_eq_append_getElem h, List.any_append]; simp only [List.any_cons, List.any_nil, Bool.or_false]
theorem any_of_take {α : Type} (T : List α) (f : α → Bool) (k : Nat) (h : k < T.length) (hf : f T[k] = true) : T.any f = true := List.any_eq_true.2 ⟨T[k], List.getElem_mem h, hf⟩
theorem countP_take_succ {α : Type} (T : List α) (f : α → Bool) (k : Nat) (h : k < T.length) : (T.take (k + 1)).countP f = (T.take k).countP f + if f T[k] then 1 else 0 := by
  rw [List.take_succ_eq_append_getElem h, List.countP_append]
  simp [List.countP_cons]
theorem flatMap_take_succ (T : List PV) (f : PV → Bool) (k : Nat) (h : k < T.length) : ((T.take (k + 1)).filter f).flatMap (·.bs) = ((T.take k).filter f).flatMap (·.bs) ++ if f T[k] then T[k].bs else [] := by
  rw [List.take_succ_eq_append_getElem h, List.filter_append, List.flatMap_append]
  congr 1
  cases hf : f T[k] <;> simp [hf]
end Frag

/-- A slice of parts that can be read, and their bytes. -/
structure PartsR (w : World) (A : Option Addr) (L : List (PV × Value)) : Prop where
  row : ReadC w A (L.flatMap cells)
  bytes : ∀ q ∈ L, ∃ B c, q.2 = .slice B q.1.bs.length c ∧ ReadI w .u8 B q.1.bs
theorem PartsR.nil (w : World) (A : Option Addr) : PartsR w A [] := ⟨ReadC.nil _ _, fun _ h => by cases h⟩
theorem PartsR.under {w w' : World} {A : Option Addr} {L : List (PV × Value)} (h : PartsR w A L) (hb : Below w.heap.size w w') : PartsR w' A L :=
  ⟨h.row.under hb, fun q hq => by obtain ⟨B, c, e, hr⟩ := h.bytes q hq; exact ⟨B, c, e, hr.under hb⟩⟩
theorem flat_ne (L : List (PV × Value)) (h : 0 < L.length) : L.flatMap cells ≠ [] := fun e => by
  have := congrArg List.length e
  rw [cells_len] at this
  simp at this
  omega
theorem PartsR.at {w : World} {A : Option Addr} {L : List (PV × Value)} (h : PartsR w A L) (h0 : 0 < L.length) : ∃ b o, A = some ⟨b, o, none⟩ ∧ b < w.heap.size ∧ ∀ k (hk : k < L.length),
    w.cell? ⟨b, o + k * 4, none⟩ = some (.int .u32 L[k].1.id) ∧ w.cell? ⟨b, o + k * 4 + 1, none⟩ = some (.int .i64 L[k].1.ix) ∧ w.cell? ⟨b, o + k * 4 + 2, none⟩ = some (.int .i64 L[k].1.ct) ∧ w.cell? ⟨b, o + k * 4 + 3, none⟩ = some L[k].2 := by
  obtain ⟨b, o, e, hc⟩ := h.row (flat_ne L h0)
  refine ⟨b, o, e, h.row.lt (flat_ne L h0) e, fun k hk => ?_⟩
  have hat := cells_at L k L[k] (List.getElem?_eq_getElem hk)
  exact ⟨hc _ _ (hat 0 (by omega)), hc _ _ (hat 1 (by omega)), hc _ _ (hat 2 (by omega)), hc _ _ (hat 3 (by omega))⟩
theorem Parts.read {w : World} {base n c : Nat} {A : Option Addr} {L : List (PV × Value)} (h : Parts w base (.slice A n c) L) (hn : n = L.length) : PartsR w A L := by
  subst hn
  refine ⟨OwnR.read h.row, fun q hq => ?_⟩
  have ho := h.own q hq
  obtain ⟨B, c, e, _⟩ := ho.form
  refine ⟨B, c, e, ?_⟩
  rw [e] at ho
  exact ho.read
theorem oneCell_cells (L : List (PV × Value)) (h : ∀ q ∈ L, ∃ B n c, q.2 = .slice B n c) : ∀ u ∈ L.flatMap cells, u.oneCell' = true := by
  intro u hu
  obtain ⟨q, hq, hu⟩ := List.mem_flatMap.1 hu
  obtain ⟨B, n, c, e⟩ := h q hq
  simp [cells] at hu
  rcases hu with rfl | rfl | rfl | rfl
  · rfl
  · rfl
  · rfl
  · rw [e]; rfl
theorem PartsR.one {w : World} {A : Option Addr} {L : List (PV × Value)} (h : PartsR w A L) : ∀ u ∈ L.flatMap cells, u.oneCell' = true :=
  oneCell_cells L (fun q hq => by obtain ⟨B, c, e, _⟩ := h.bytes q hq; exact ⟨B, _, c, e⟩)
/-- One part more behind. -/
theorem PartsR.more {w : World} {base n c : Nat} {A A' : Option Addr} {L : List (PV × Value)} (h : PartsR w A L) (q : PV × Value) (hq : ∃ B c, q.2 = .slice B q.1.bs.length c ∧ ReadI w .u8 B q.1.bs)
    (hrow : OwnR w base 34 4 (.slice A' n c) n (L.flatMap cells ++ cells q)) : PartsR w A' (L ++ [q]) :=
  ⟨by rw [List.flatMap_append]; simpa using OwnR.read hrow, fun p hp => by
    rcases List.mem_append.1 hp with hp | hp
    · exact h.bytes p hp
    · rw [List.mem_singleton.1 hp]; exact hq⟩
end Go.Proofs.Ytpoobdccmaiaiaa
