/- The document's Same of acts walked, where they are alike. -/
import Derived.Test.YtijjnpegokfidaaDoorPaSameB
namespace Go.Proofs.YtijjnpegokfidaaDoor
open Go.RowKit
open Pa
set_option linter.unusedVariables false
set_option linter.unusedSimpArgs false

/-- The slice reads as these acts. -/
structure RdA (w : World) (A : Option Addr) (L : List AE) : Prop where
  row : ReadC w A (L.flatMap acell)
  par : ∀ q ∈ L, ∃ P c, q.2.1 = .slice P q.1.params.length c ∧ ReadI w .i64 P q.1.params
  txt : ∀ q ∈ L, ∃ P c, q.2.2 = .slice P q.1.text.length c ∧ ReadI w .u8 P q.1.text
theorem Acs.rd {w : World} {base n c : Nat} {A : Option Addr} {L : List AE} (h : Acs w base (.slice A n c) L) (hn : n = L.length) : RdA w A L := by
  subst hn
  refine ⟨OwnR.read h.row, fun q hq => ?_, fun q hq => ?_⟩
  · obtain ⟨P, c, e, _⟩ := (h.par q hq).form
    have := h.par q hq
    rw [e] at this
    exact ⟨P, c, e, this.read⟩
  · obtain ⟨P, c, e, _⟩ := (h.txt q hq).form
    have := h.txt q hq
    rw [e] at this
    exact ⟨P, c, e, this.read⟩
theorem RdA.under {w w' : World} {A : Option Addr} {L : List AE} (h : RdA w A L) (hb : Below w.heap.size w w') : RdA w' A L :=
  ⟨(Keeps.under hb (fun _ => False)).readC h.row (fun _ _ _ h => h), fun q hq => by
    obtain ⟨P, c, e, hr⟩ := h.par q hq
    exact ⟨P, c, e, hr.under hb⟩, fun q hq => by
    obtain ⟨P, c, e, hr⟩ := h.txt q hq
    exact ⟨P, c, e, hr.under hb⟩⟩
/-- The cells of the i-th act. -/
theorem RdA.cells {w : World} {A : Option Addr} {L : List AE} (h : RdA w A L) (i : Nat) (q : AE) (hq : L[i]? = some q) : ∃ b o, A = some ⟨b, o, none⟩ ∧ ∀ j, j < 6 → ∀ u, (acell q)[j]? = some u → w.cell? ⟨b, o + (i * 6 + j), none⟩ = some u := by
  have hL : L ≠ [] := by rintro rfl; simp at hq
  have hne : L.flatMap acell ≠ [] := by
    intro e
    have := congrArg List.length e
    rw [acell_len] at this
    have := List.length_pos_iff.2 hL
    simp at *
    omega
  obtain ⟨b, o, e, hc⟩ := h.row hne
  refine ⟨b, o, e, fun j hj u hu => ?_⟩
  have h1 := acell_at L i q hq j hj
  rw [hu] at h1
  exact hc _ _ h1
end Go.Proofs.YtijjnpegokfidaaDoor
