/- Datagrams under way in memory; ahead, Len, Less walked. -/
import Derived.Test.YtkodmoeohffjhaaHeapM
import Derived.Test.YtkodmoeohffjhaaCellsA
import Derived.Test.YtkodmoeohffjhaaBld
import Derived.BigGuardPart
import Derived.Lib.Hide
import Derived.BigQuiet
import Derived.Deep.QuietTactic
namespace Go.Proofs.Ytkodmoeohffjhaa
open Go.RowKit
set_option linter.unusedVariables false
set_option linter.unusedSimpArgs false

/-- A datagram under way, as data. -/
structure MD where
  due : Int
  number : Int
  addr : Int
  down : Bool
  bs : List Int
deriving DecidableEq, Inhabited
def aheadB (a b : MD) : Bool := decide (a.due < b.due) || (a.due == b.due && decide (a.number < b.number))
abbrev ME := MD × Option Addr × Nat
abbrev ME.v (q : ME) : Value := .slice q.2.1 q.1.bs.length q.2.2
instance : Inhabited ME := ⟨(default, none, 0)⟩
def mcell (q : ME) : List Value := [.int .i64 q.1.due, .int .i64 q.1.number, .int .i64 q.1.addr, .bool q.1.down, .slice q.2.1 q.1.bs.length q.2.2]
abbrev mailV (q : ME) : Value := .agg #[.int .i64 q.1.due, .int .i64 q.1.number, .int .i64 q.1.addr, .bool q.1.down, .slice q.2.1 q.1.bs.length q.2.2]
theorem mcell_len (L : List ME) : (L.flatMap mcell).length = L.length * 5 := by
  induction L with
  | nil => rfl
  | cons q L ih => simp only [List.flatMap_cons, List.length_append, List.length_cons, ih, mcell, List.length_nil]; omega
theorem mcell_at : ∀ (L : List ME) (i : Nat) (q : ME), L[i]? = some q → ∀ j, j < 5 → (L.flatMap mcell)[i * 5 + j]? = (mcell q)[j]?
  | [], i, q, h, j, hj => by simp at h
  | p :: L, 0, q, h, j, hj => by
    simp at h
    subst h
    rw [List.flatMap_cons, Nat.zero_mul, Nat.zero_add, List.getElem?_append_left (by simp [mcell]; omega)]
  | p :: L, i + 1, q, h, j, hj => by
    rw [List.flatMap_cons, List.getElem?_append_right (by simp [mcell]; omega)]
    have : (i + 1) * 5 + j - (mcell p).length = i * 5 + j := by simp [mcell]; omega
    rw [this]
    exact mcell_at L i q (by simpa using h) j hj
/-- Cells that read as these datagrams. -/
theorem mails_cells {w : World} {A : Option Addr} {L : List ME} (h : ReadC w A (L.flatMap mcell)) (i : Nat) (q : ME) (hq : L[i]? = some q) : ∃ b o, A = some ⟨b, o, none⟩ ∧ ∀ j, j < 5 → ∀ u, (mcell q)[j]? = some u → w.cell? ⟨b, o + (i * 5 + j), none⟩ = some u := by
  have hL : L ≠ [] := by rintro rfl; simp at hq
  have hne : L.flatMap mcell ≠ [] := by
    intro e
    have := congrArg List.length e
    rw [mcell_len] at this
    have := List.length_pos_iff.2 hL
    simp at *
    omega
  obtain ⟨b, o, e, hc⟩ := h hne
  refine ⟨b, o, e, fun j hj u hu => ?_⟩
  have h1 := mcell_at L i q hq j hj
  rw [hu] at h1
  exact hc _ _ h1

set_option maxRecDepth 100000 in
theorem ahead_any (p q : ME) (w : World) : Calls Try.prog 40 #[mailV p, mailV q] w fun e w' => e = .returned (.bool (aheadB p.1 q.1)) ∧ Below w.heap.size w w' := by
  obtain ⟨⟨d1, n1, a1, o1, b1⟩, v1⟩ := p
  obtain ⟨⟨d2, n2, a2, o2, b2⟩, v2⟩ := q
  obtain ⟨r, hr⟩ : ∃ r : Bool, r = aheadB ⟨d1, n1, a1, o1, b1⟩ ⟨d2, n2, a2, o2, b2⟩ := ⟨_, rfl⟩
  simp only
  rw [← hr]
  have HR := Lib.hid hr
  clear hr
  rcases Int.lt_trichotomy d1 d2 with h | h | h
  · have t1 : decide (d1 < d2) = true := decide_eq_true h
    have hv : r = true := by rw [HR.out]; unfold aheadB; simp [h]
    have HV := Lib.hid hv
    clear h hv
    go_enter Try.func40, Try.ntmps40
    go_wp2_with fail
    go_ret
    first | exact ⟨by rw [HV.out]; rfl, below_alloc (below_alloc (Below.refl _ _) _) _⟩ | exact ⟨by rw [HV.out], below_alloc (below_alloc (Below.refl _ _) _) _⟩
  · have t1 : decide (d1 < d2) = false := decide_eq_false (by omega)
    have t2 : (d1 == d2) = true := by simp [h]
    have hv : r = decide (n1 < n2) := by rw [HR.out]; unfold aheadB; simp [h]
    have HV := Lib.hid hv
    clear h hv
    go_enter Try.func40, Try.ntmps40
    go_wp2_with fail
    go_ret
    first | exact ⟨by rw [HV.out]; rfl, below_alloc (below_alloc (Below.refl _ _) _) _⟩ | exact ⟨by rw [HV.out], below_alloc (below_alloc (Below.refl _ _) _) _⟩
  · have t1 : decide (d1 < d2) = false := decide_eq_false (by omega)
    have t2 : (d1 == d2) = false := by rw [beq_eq_false_iff_ne]; omega
    have hv : r = false := by rw [HR.out]; unfold aheadB; rw [t1, t2]; rfl
    have HV := Lib.hid hv
    clear h hv
    go_enter Try.func40, Try.ntmps40
    go_wp2_with fail
    go_ret
    first | exact ⟨by rw [HV.out]; rfl, below_alloc (below_alloc (Below.refl _ _) _) _⟩ | exact ⟨by rw [HV.out], below_alloc (below_alloc (Below.refl _ _) _) _⟩
theorem mlen_any (A : Option Addr) (n c : Nat) (w : World) : Calls Try.prog 80 #[.slice A n c] w fun e w' => e = .returned (.int .i64 n) ∧ w = w' := by
  go_enter Try.func80, Try.ntmps80
  go_wp2
  go_ret
  exact ⟨rfl, rfl⟩
end Go.Proofs.Ytkodmoeohffjhaa
