/- Less and Swap walked. -/
import Derived.Test.YtkodmoeohffjhaaRoMeth
import Derived.StillTailTactics
namespace Go.Proofs.Ytkodmoeohffjhaa
open Go.RowKit
set_option linter.unusedVariables false
set_option linter.unusedSimpArgs false

set_option maxHeartbeats 1000000 in
set_option maxRecDepth 100000 in
theorem mless_any (A : Option Addr) (n c : Nat) (L : List ME) (w : World) (h : ReadC w A (L.flatMap mcell)) (i k : Nat) (p q : ME) (hi : L[i]? = some p) (hk : L[k]? = some q) (hn : n = L.length) (hm : n < 1152921504606846976) :
    Calls Try.prog 81 #[.slice A n c, .int .i64 i, .int .i64 k] w fun e w' => e = .returned (.bool (aheadB p.1 q.1)) ∧ Below w.heap.size w w' := by
  obtain ⟨b, o, e, c1⟩ := mails_cells h i p hi
  obtain ⟨b', o', e', c2⟩ := mails_cells h k q hk
  rw [e] at e'
  cases e'
  subst e
  have hi' : i < n := by rw [hn]; exact (List.getElem?_eq_some_iff.1 hi).1
  have hk' : k < n := by rw [hn]; exact (List.getElem?_eq_some_iff.1 hk).1
  have p0 : w.cell? ⟨b, o + i * 5, none⟩ = some (.int .i64 p.1.due) := c1 0 (by omega) _ rfl
  have p1 : w.cell? ⟨b, o + i * 5 + 1, none⟩ = some (.int .i64 p.1.number) := by rw [Nat.add_assoc]; exact c1 1 (by omega) _ rfl
  have p2 : w.cell? ⟨b, o + i * 5 + 2, none⟩ = some (.int .i64 p.1.addr) := by rw [Nat.add_assoc]; exact c1 2 (by omega) _ rfl
  have p3 : w.cell? ⟨b, o + i * 5 + 3, none⟩ = some (.bool p.1.down) := by rw [Nat.add_assoc]; exact c1 3 (by omega) _ rfl
  have p4 : w.cell? ⟨b, o + i * 5 + 4, none⟩ = some (.slice p.2.1 p.1.bs.length p.2.2) := by rw [Nat.add_assoc]; exact c1 4 (by omega) _ rfl
  have q0 : w.cell? ⟨b, o + k * 5, none⟩ = some (.int .i64 q.1.due) := c2 0 (by omega) _ rfl
  have q1 : w.cell? ⟨b, o + k * 5 + 1, none⟩ = some (.int .i64 q.1.number) := by rw [Nat.add_assoc]; exact c2 1 (by omega) _ rfl
  have q2 : w.cell? ⟨b, o + k * 5 + 2, none⟩ = some (.int .i64 q.1.addr) := by rw [Nat.add_assoc]; exact c2 2 (by omega) _ rfl
  have q3 : w.cell? ⟨b, o + k * 5 + 3, none⟩ = some (.bool q.1.down) := by rw [Nat.add_assoc]; exact c2 3 (by omega) _ rfl
  have q4 : w.cell? ⟨b, o + k * 5 + 4, none⟩ = some (.slice q.2.1 q.1.bs.length q.2.2) := by rw [Nat.add_assoc]; exact c2 4 (by omega) _ rfl
  have hA := fun w => ahead_any p q w
  generalize aheadB p.1 q.1 = r at hA ⊢
  clear h hi hk c1 c2 hn
  go_enter Try.func81, Try.ntmps81
  go_wp2_with fail
  go_still_tail 8, (by kernel_rfl)
  change wpList _ _ _ _ _ w.drew
  go_wp2_with (go_at_call 40; refine (hA _).mono ?_; rintro e w1 ⟨rfl, hb1⟩)
  all_goals (go_ret; exact ⟨rfl, (below_drew (Below.refl _ _)).trans hb1⟩)
end Go.Proofs.Ytkodmoeohffjhaa
