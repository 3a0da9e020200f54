/- parse.Lay of letters walked, its last ways. -/
import Derived.Test.YtijjnpegokfidaaDoorPaLay1
import Derived.BigRegion
import Derived.Deep.RegionLaw
namespace Go.Proofs.YtijjnpegokfidaaDoor
open Go.RowKit
open Pa
set_option linter.unusedVariables false
set_option linter.unusedSimpArgs false

theorem hold5 {W w1 : World} {n : Nat} {a b c d e : Value} (hb : Below W.heap.size W w1) (hn : n < W.heap.size) (h : W.cell? ⟨n, 1, none⟩ = some a ∧ W.cell? ⟨n, 2, none⟩ = some b ∧ W.cell? ⟨n, 3, none⟩ = some c ∧ W.cell? ⟨n, 4, none⟩ = some d ∧ W.cell? ⟨n, 5, none⟩ = some e) :
    w1.cell? ⟨n, 1, none⟩ = some a ∧ w1.cell? ⟨n, 2, none⟩ = some b ∧ w1.cell? ⟨n, 3, none⟩ = some c ∧ w1.cell? ⟨n, 4, none⟩ = some d ∧ w1.cell? ⟨n, 5, none⟩ = some e :=
  ⟨(hb.cell (p := ⟨n, 1, none⟩) hn).trans h.1, (hb.cell (p := ⟨n, 2, none⟩) hn).trans h.2.1, (hb.cell (p := ⟨n, 3, none⟩) hn).trans h.2.2.1, (hb.cell (p := ⟨n, 4, none⟩) hn).trans h.2.2.2.1, (hb.cell (p := ⟨n, 5, none⟩) hn).trans h.2.2.2.2⟩
theorem broken_enc (r : Int) (h : Utf.may r = false) : (Utf8.encode r).toList = [239, 191, 189] := by
  have e : Utf8.encode r = strOfNums (Utf.enc r) := by rw [← ints_encode, strOfNums_ints]
  have e2 : Utf.enc r = [239, 191, 189] := by unfold Utf.enc; rw [if_neg (by simp [h])]; rfl
  rw [e, e2]
  decide +kernel
theorem whole_enc (r : Int) (h : Utf.may r = true) (hr : r ≠ 65533) : (Utf8.encode r).toList ≠ [239, 191, 189] := fun he => by
  rw [ByteArray.toList_eq] at he
  have e : ints (Utf8.encode r) = [239, 191, 189] := by unfold ints; rw [he]; rfl
  rw [ints_encode] at e
  have h1 := Utf.told_enc Utf.start rfl r
  have h2 := Utf.told_enc Utf.start rfl 65533
  have e2 : Utf.enc 65533 = [239, 191, 189] := by decide
  rw [e] at h1
  rw [e2] at h2
  have h3 := h1.1.symm.trans h2.1
  have f1 : Utf.fix r = r := by unfold Utf.fix; rw [if_pos h]
  have f2 : Utf.fix 65533 = 65533 := by decide
  rw [f1, f2] at h3
  injection h3 with h3
  exact hr h3
end Go.Proofs.YtijjnpegokfidaaDoor
