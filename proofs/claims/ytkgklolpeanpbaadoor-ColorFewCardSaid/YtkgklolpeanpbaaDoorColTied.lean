/- The laws of colours: from the walks to the rows and the cards. -/
import Derived.Test.YtkgklolpeanpbaaDoorCards
import Derived.Test.YtkgklolpeanpbaaDoorTie
import Derived.Test.YtkgklolpeanpbaaDoorColLaws
import Derived.Test.YtkgklolpeanpbaaDoorTabs
import Derived.WalkKit
import Derived.ProofKit
import Derived.OpenShut
import Derived.Below
import Derived.Deep.DeepHandedRow
import Derived.Lib.LaidTab
namespace Go.Proofs.YtkgklolpeanpbaaDoor
open Go.ChangeShapes Go.WideShapes Go.ChangeAt Go.RowKit
set_option linter.unusedVariables false
set_option linter.unusedSimpArgs false

theorem own : ownKnob Tryd.prog.godebug = none := by kernel_rfl
theorem gFirst : Tryd.prog.globalNamed "spyglass/color.first" = some 0 := by kernel_rfl
theorem gFirstType : (Tryd.prog.globals[0]?).map (·.type) = some 40 := by kernel_rfl
theorem gLevels : Tryd.prog.globalNamed "spyglass/color.levels" = some 1 := by kernel_rfl
theorem gLevelsType : (Tryd.prog.globals[1]?).map (·.type) = some 41 := by kernel_rfl
theorem cellsT1 : Tryd.prog.cellsOf 40 = 16 * 3 := by kernel_rfl
theorem cellsT2 : Tryd.prog.cellsOf 39 = 3 := by kernel_rfl
theorem cellsT3 : Tryd.prog.cellsOf 5 = 1 := by kernel_rfl
theorem cellsT4 : Tryd.prog.cellsOf 41 = 6 := by kernel_rfl
theorem cellsT5 : Tryd.prog.cellsOf 3 = 1 := by kernel_rfl

theorem flat_getD : ∀ i, i < 16 → ∀ k, k < 3 → (Col.tab.flatten).getD (i * 3 + k) 0 = (Col.tab.getD i []).getD k 0 := by decide
theorem lev_getD : ∀ j, j < 6 → [0, 95, 135, 175, 215, 255].getD j 0 = Col.lev (j : Nat) := by decide

/-- What the row's list gives. -/
theorem table {W : World} (h : laidMet Tryd.prog [("spyglass/color.first", Rows.laid_spyglass_color_first), ("spyglass/color.levels", Rows.laid_spyglass_color_levels)] W) : Tab W := by
  have h1 : Lib.TabIs Tryd.prog W "spyglass/color.first" .u8 Col.tab.flatten :=
    tab2_of_head (rest := [("spyglass/color.levels", Rows.laid_spyglass_color_levels)]) (rows := Col.tab) gFirst gFirstType Tryd.underlying40 Tryd.underlying39 Tryd.underlying5 cellsT3 cellsT2 cellsT1 h
  have h2 : Lib.TabIs Tryd.prog W "spyglass/color.levels" .i64 [0, 95, 135, 175, 215, 255] :=
    Lib.tabIs_of_head (rest := []) gLevels gLevelsType Tryd.underlying41 Tryd.underlying3 cellsT5 cellsT4 h.tail
  have hsz : 2 ≤ W.heap.size := World.block_lt_of_cell? W _ (h2.cell gLevels 0 (by decide))
  refine ⟨fun i k hi hk => ?_, fun j hj => ?_, hsz⟩
  · have := h1.cell gFirst (i * 3 + k) (by show _ < 48; omega)
    rw [flat_getD i hi k hk] at this
    exact this
  · have := h2.cell gLevels j hj
    rw [lev_getD j hj] at this
    exact this
theorem u32_of_wf {x : Int} (h : (Lit.int .u32 x).wf = true) : 0 ≤ x ∧ x < 4294967296 := by
  simp [Lit.wf, IntKind.min, IntKind.max, IntKind.signed, IntKind.bits] at h
  omega
theorem u8_of_wf {x : Int} (h : (Lit.int .u8 x).wf = true) : 0 ≤ x ∧ x < 256 := by
  simp [Lit.wf, IntKind.min, IntKind.max, IntKind.signed, IntKind.bits] at h
  omega

def setCells (cs : Array Value) : Obj → Obj
  | .cells _ t frozen => .cells cs t frozen
  | o => o
/-- A world for the witness: the settled one, the two tables holding what their initialisers lay. -/
noncomputable def laidWorld (os : Os) : World :=
  { World.holding Tryd.prog os ⟨#[], #[], []⟩ with heap := ((World.holding Tryd.prog os ⟨#[], #[], []⟩).heap.modify 0 (setCells (Col.tab.flatten.map (Value.int .u8)).toArray)).modify 1 (setCells #[.int .i64 0, .int .i64 95, .int .i64 135, .int .i64 175, .int .i64 215, .int .i64 255]) }
end Go.Proofs.YtkgklolpeanpbaaDoor
