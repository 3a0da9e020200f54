/- The road in memory; mails' Pop walked. -/
import Derived.Test.YtkodmoeohffjhaaRoSwap
namespace Go.Proofs.Ytkodmoeohffjhaa
open Go.RowKit
set_option linter.unusedVariables false
set_option linter.unusedSimpArgs false

/-- The road's block, and the row of its mails. -/
structure Fly (w : World) (base gr : Nat) (x y v : Value) (L : List ME) : Prop where
  blk : Blk w gr 69 #[x, y, v]
  own : OwnR w base 71 5 v L.length (L.flatMap mcell)
  off : v.ownBlock ≠ some gr
theorem Fly.under {w w' : World} {base gr : Nat} {x y v : Value} {L : List ME} (h : Fly w base gr x y v L) (hb : Below w.heap.size w w') : Fly w' base gr x y v L := ⟨h.blk.under hb, h.own.under hb, h.off⟩

set_option maxHeartbeats 1000000 in
set_option maxRecDepth 100000 in
theorem mpop_any (base gr g n c : Nat) (x y : Value) (L : List ME) (q : ME) (w : World) (h : Fly w base gr x y (.slice (some ⟨g, 0, none⟩) (n + 1) c) L) (hl : L.length = n + 1) (hq : L[n]? = some q) (hm : n < 1000000) :
    Calls Try.prog 83 #[.pointer (some ⟨gr, 2, none⟩)] w fun e w' => e = .returned (.iface 71 (mailV q)) ∧ Fly w' base gr x y (.slice (some ⟨g, 0, none⟩) n c) (L.take n) ∧ w.grownBy w' (some gr) := by
  obtain ⟨hB, hO, hoff⟩ := h
  have hgr : gr ≠ g := fun e => hoff (by rw [e]; rfl)
  rw [hl] at hO
  obtain ⟨b, o, e, c1⟩ := mails_cells hO.read n q hq
  cases e
  have hc := hO.form
  obtain ⟨A', c', e', hnc, hcm⟩ := hc
  cases e'
  have p0 : w.cell? ⟨g, n * 5, none⟩ = some (.int .i64 q.1.due) := by have := c1 0 (by omega) _ rfl; rwa [Nat.zero_add] at this
  have p1 : w.cell? ⟨g, n * 5 + 1, none⟩ = some (.int .i64 q.1.number) := by have := c1 1 (by omega) _ rfl; rwa [Nat.zero_add] at this
  have p2 : w.cell? ⟨g, n * 5 + 2, none⟩ = some (.int .i64 q.1.addr) := by have := c1 2 (by omega) _ rfl; rwa [Nat.zero_add] at this
  have p3 : w.cell? ⟨g, n * 5 + 3, none⟩ = some (.bool q.1.down) := by have := c1 3 (by omega) _ rfl; rwa [Nat.zero_add] at this
  have p4 : w.cell? ⟨g, n * 5 + 4, none⟩ = some (.slice q.2.1 q.1.bs.length q.2.2) := by have := c1 4 (by omega) _ rfl; rwa [Nat.zero_add] at this
  have cB : w.cell? ⟨gr, 2, none⟩ = some (.slice (some ⟨g, 0, none⟩) (n + 1) c) := hB.cell 2
  have fB : w.frozen? ⟨gr, 2, none⟩ = false := hB.frozen 2
  have lg := (hO.blocks g rfl).2
  have lr := hB.lt
  clear c1
  go_enter Try.func83, Try.ntmps83
  go_wp2_with fail
  go_ret
  refine ⟨rfl, ⟨(hB.s3_2 _).alloc _, ?_, hoff⟩, only_alloc (only_set (only_refl w _) _ _) _⟩
  have e5 : (L.take n).length = n := by rw [List.length_take]; omega
  have hT := hO.take_ n (by omega)
  rw [flat_take] at hT
  rw [e5]
  exact (hT.only (only_set (only_refl w _) _ _) (.inr hoff)).alloc _
end Go.Proofs.Ytkodmoeohffjhaa
