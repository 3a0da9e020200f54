/- Datagrams that came in: one by value. -/
import Derived.Test.YtkodmoeohffjhaaRoTied
import Derived.Deep.Slices
import Derived.Deep.Fields
import Derived.ChangeSame
import Derived.Lib.SmallJoins
namespace Go.Proofs.Ytkodmoeohffjhaa
open Go.ChangeShapes Go.WideShapes Go.ChangeAt Go.RowKit Go.Deep Go.Joins
set_option linter.unusedVariables false
set_option linter.unusedSimpArgs false

section
variable {H : Type} {enc : TypeId × Value → H} {P : Program} {w : World} {base : Nat} {spare : Nat → Bool} {held : Bool}
/-- An integer's cell. -/
theorem int_cell {t : TypeId} {k : IntKind} {n : Nat} {v : Value} {y : DataW H × List MemPlace} (ht : P.underlying t = some (.int k)) (h : DataW.trod enc P w base spare held n t [v] = some y) : ∃ a, v = .int k a ∧ (Lit.int k a).wf = true := by
  obtain ⟨a, e, _, hw⟩ := DataW.trod_int ht h
  simp at e
  exact ⟨a, e, hw⟩
theorem bool_cell {t : TypeId} {n : Nat} {v : Value} {y : DataW H × List MemPlace} (ht : P.underlying t = some .bool) (h : DataW.trod enc P w base spare held n t [v] = some y) : ∃ b, v = .bool b := by
  obtain ⟨b, e, _⟩ := DataW.trod_bool ht h
  simp at e
  exact ⟨b, e⟩
end
theorem bytes_open {H : Type} {enc : TypeId × Value → H} {W : World} {n : Nat} {v : Value} {y : DataW H × List MemPlace} (h : DataW.trod enc Try.prog W 0 (fun _ => true) true n 30 [v] = some y) :
    ∃ bs B c, v = .slice B (List.length bs) c ∧ ReadI W .u8 B bs ∧ bs.length ≤ 9223372036854775807 ∧ bs.length ≤ c := by
  obtain ⟨a, len, cap, zs, e, hr⟩ := ints_open Try.underlying30 Try.underlying5 (by kernel_rfl) h
  simp at e
  have h1 := hr.leneq
  have h2 := hr.le
  have h3 := hr.capmax
  simp only [maxLen] at h3
  exact ⟨zs, a, cap, by rw [e, h1], hr.read, by omega, by omega⟩
set_option maxRecDepth 100000 in
/-- A datagram by value. -/
theorem gram_open {H : Type} {enc : TypeId × Value → H} {W : World} {v : Value} {d : DataW H} {p : List MemPlace} {base0 : Nat} (hv : Value.okWide Try.prog W .any base0 32 v) (h : DataW.Trod enc Try.prog W 0 (fun _ => true) true 32 v d p) :
    ∃ (addr : Int) (down : Bool) (bs : List Int) (B : Option Addr) (c : Nat), v = gramV addr down B bs.length c := by
  obtain ⟨v0, v1, v2, y0, y1, y2, n, rfl, _, _, t0, t1, t2⟩ := open_agg3 Try.underlying32 (by kernel_rfl) (by kernel_rfl) hv h
  obtain ⟨x0, rfl, w0⟩ := int_cell Try.underlying3 t0
  obtain ⟨x1, rfl⟩ := bool_cell Try.underlying4 t1
  obtain ⟨bs, B, c, rfl, _⟩ := bytes_open t2
  exact ⟨x0, x1, bs, B, c, rfl⟩
end Go.Proofs.Ytkodmoeohffjhaa
