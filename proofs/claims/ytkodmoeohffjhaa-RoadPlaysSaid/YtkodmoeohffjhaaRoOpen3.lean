/- Calls that came in: a slice of them. -/
import Derived.Test.YtkodmoeohffjhaaRoOpen
import Derived.Test.YtkodmoeohffjhaaOpenS
import Derived.Test.YtkodmoeohffjhaaRoPlayM
namespace Go.Proofs.Ytkodmoeohffjhaa
open Go.ChangeShapes Go.WideShapes Go.ChangeAt Go.RowKit Go.Deep Go.Joins
set_option linter.unusedVariables false
set_option linter.unusedSimpArgs false

set_option maxRecDepth 100000 in
/-- A slice of calls that came in. -/
theorem ops_open {H : Type} {enc : TypeId × Value → H} {W : World} {v : Value} {d : DataW H} {p : List MemPlace} {base0 : Nat} (hv : Value.okWide Try.prog W .any base0 45 v) (h : DataW.Trod enc Try.prog W 0 (fun _ => true) true 45 v d p) :
    ∃ A n c L, v = .slice A n c ∧ n = L.length ∧ n ≤ 9223372036854775807 ∧ OpsR W A L := by
  obtain ⟨fuel, hf⟩ := h
  obtain ⟨a0, len0, cap0, rfl⟩ := okWide_slice Try.underlying45 hv
  rcases open_slice_elems (C := 6) Try.underlying45 (by kernel_rfl) hf with hcs | ⟨a, len, cap, m, hcs, hl, hm, hlm, hi⟩
  · simp [Value.cells] at hcs
    obtain ⟨rfl, rfl, rfl⟩ := hcs
    exact ⟨none, 0, 0, [], rfl, rfl, by omega, ⟨ReadC.nil _ _, fun _ h => by cases h⟩⟩
  · simp [Value.cells] at hcs
    obtain ⟨rfl, rfl, rfl⟩ := hcs
    obtain ⟨L, hL, hr, hp⟩ := list_open (w := W) (a := a) (k := 6) (len := len0) ocell (by omega) (fun _ => rfl) (fun q => ReadI W .u8 q.A q.bs ∧ q.bs.length ≤ 9223372036854775807) (fun i hil => by
      obtain ⟨ys, n, y, hyl, hc, ht⟩ := hi i (by omega)
      obtain ⟨_, n', hf⟩ := open_fields Try.underlying50 ht
      match ys, hyl with
      | [y0, y1, y2, y3, y4, y5], _ =>
        obtain ⟨z0, t0⟩ := hf 0 _ rfl
        obtain ⟨z1, t1⟩ := hf 1 _ rfl
        obtain ⟨z2, t2⟩ := hf 2 _ rfl
        obtain ⟨z3, t3⟩ := hf 3 _ rfl
        obtain ⟨x0, rfl, w0⟩ := int_cell Try.underlying3 (show DataW.trod enc Try.prog W 0 (fun _ => true) true n' 3 [y0] = some z0 from t0)
        obtain ⟨x1, rfl, w1⟩ := int_cell Try.underlying3 (show DataW.trod enc Try.prog W 0 (fun _ => true) true n' 3 [y1] = some z1 from t1)
        obtain ⟨x2, rfl, w2⟩ := int_cell Try.underlying3 (show DataW.trod enc Try.prog W 0 (fun _ => true) true n' 3 [y2] = some z2 from t2)
        obtain ⟨_, n'', hg⟩ := open_fields Try.underlying32 (show DataW.trod enc Try.prog W 0 (fun _ => true) true n' 32 [y3, y4, y5] = some z3 from t3)
        obtain ⟨u0, s0⟩ := hg 0 _ rfl
        obtain ⟨u1, s1⟩ := hg 1 _ rfl
        obtain ⟨u2, s2⟩ := hg 2 _ rfl
        obtain ⟨x3, rfl, w3⟩ := int_cell Try.underlying3 (show DataW.trod enc Try.prog W 0 (fun _ => true) true n'' 3 [y3] = some u0 from s0)
        obtain ⟨x4, rfl⟩ := bool_cell Try.underlying4 (show DataW.trod enc Try.prog W 0 (fun _ => true) true n'' 4 [y4] = some u1 from s1)
        obtain ⟨bs, B, c, rfl, hr, hbl, _⟩ := bytes_open (show DataW.trod enc Try.prog W 0 (fun _ => true) true n'' 30 [y5] = some u2 from s2)
        exact ⟨⟨x0, x1, x2, x3, x4, bs, B, c⟩, hc, hr, hbl⟩)
    simp only [maxLen] at hm
    exact ⟨some a, len0, cap0, L, rfl, hL.symm, by omega, ⟨hr, hp⟩⟩
end Go.Proofs.Ytkodmoeohffjhaa
