/- Package-level tables: from the row's condition to what the walks read. -/
import Derived.Test.YtkdmdklmkachfaaDoorBase
import Derived.Lib.LaidTab
import Derived.Stop.LaidErr
import Derived.OpenShut
namespace Go.Proofs.YtkdmdklmkachfaaDoor
open Go.RowKit

theorem rows_flat {α : Type} (f : Int → α) (n : Nat) : ∀ (rows : List (List Int)) (cs : List α), cs.length = rows.length * n → (∀ i r, rows[i]? = some r → (cs.drop (i * n)).take n = r.map f) → cs = rows.flatten.map f
  | [], cs, hl, _ => by simp at hl; subst hl; rfl
  | r :: rows, cs, hl, h => by
    have h0 := h 0 r rfl
    simp only [Nat.zero_mul, List.drop_zero] at h0
    have ih := rows_flat f n rows (cs.drop n) (by simp at hl ⊢; rw [hl, Nat.add_mul]; omega) (fun i r' hr => by
      have := h (i + 1) r' (by simpa using hr)
      rw [List.drop_drop]
      rw [show n + i * n = (i + 1) * n from by rw [Nat.add_mul]; omega]
      exact this)
    rw [← List.take_append_drop n cs, h0, ih]
    simp

/-- An array of arrays of integers that reads as the table of rows holds the rows' numbers, cell for cell. -/
theorem cells_of_tab2 {H : Type} {enc : TypeId × Value → H} {P : Program} {w : World} {base : Nat} {sp : Nat → Bool} {held : Bool} {fuel : Nat} {t e e' : TypeId} {m n : Nat} {k : IntKind} {cs : List Value} {rows : List (List Int)} {p : List MemPlace}
    (ht : P.underlying t = some (.array m e)) (he : P.underlying e = some (.array n e')) (hi : P.underlying e' = some (.int k)) (hce' : P.cellsOf e' = 1) (hce : P.cellsOf e = n) (hct : P.cellsOf t = m * n)
    (h : DataW.trod enc P w base sp held fuel t cs = some (.agg (rows.map (Lib.tabData k)), p)) : cs = rows.flatten.map fun z => Value.int k z := by
  obtain ⟨xs, f, _, hx, hl, hxl, hg⟩ := DataW.trod_array ht h
  have hrows : rows.map (Lib.tabData k) = xs.map (·.1) := by
    have := congrArg Prod.fst hx
    simpa using this
  have hrl : rows.length = m := by
    have := congrArg List.length hrows
    simpa [hxl] using this
  refine rows_flat _ n rows cs (by rw [hl, hct, hrl]) fun i r hr => ?_
  have him : i < m := by rw [← hrl]; exact (List.getElem?_eq_some_iff.1 hr).1
  have h1 := hg i him
  rw [hce] at h1
  have h2 : (xs.map (·.1))[i]? = some (Lib.tabData k r) := by rw [← hrows]; simp [hr]
  rw [List.getElem?_map] at h2
  obtain ⟨y, hy, hy2⟩ := Option.map_eq_some_iff.1 h2
  rw [hy] at h1
  obtain ⟨y1, y2⟩ := y
  simp only at hy2
  subst hy2
  exact Lib.cells_of_tab he hi hce' hce h1

/-- The variable's cells, off the head of the row's list. -/
theorem tab2_of_head {P : Program} {W : World} {name : String} {k : IntKind} {rows : List (List Int)} {rest : List (String × DataW Unit)} {g : Nat} {t e e' : TypeId} {m n : Nat}
    (hg : P.globalNamed name = some g) (hty : (P.globals[g]?).map (·.type) = some t) (ht : P.underlying t = some (.array m e)) (he : P.underlying e = some (.array n e')) (hi : P.underlying e' = some (.int k)) (hce' : P.cellsOf e' = 1) (hce : P.cellsOf e = n) (hct : P.cellsOf t = m * n)
    (h : laidMet P ((name, .agg (rows.map (Lib.tabData k))) :: rest) W) : Lib.TabIs P W name k rows.flatten := by
  obtain ⟨ps, ⟨g', t', cs, fuel, p, q, hg', ht', hvar, hd, _, _⟩, _⟩ := h
  obtain rfl := Option.some.inj (hg.symm.trans hg')
  obtain rfl := Option.some.inj (hty.symm.trans ht')
  unfold Lib.TabIs
  rw [hvar, ← cells_of_tab2 ht he hi hce' hce hct hd]
end Go.Proofs.YtkdmdklmkachfaaDoor
