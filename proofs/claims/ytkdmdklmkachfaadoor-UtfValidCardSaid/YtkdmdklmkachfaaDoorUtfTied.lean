/- The laws of utf: what the rows' lists give; the witness's world; slices of integers that came in. -/
import Derived.Test.YtkdmdklmkachfaaDoorCards
import Derived.Test.YtkdmdklmkachfaaDoorTie
import Derived.Test.YtkdmdklmkachfaaDoorUtfWidth
import Derived.Test.YtkdmdklmkachfaaDoorTabs
import Derived.WalkKit
import Derived.ProofKit
import Derived.OpenShut
import Derived.Below
import Derived.Deep.DeepHandedRow
import Derived.Lib.LaidTab
namespace Go.Proofs.YtkdmdklmkachfaaDoor
open Go.ChangeShapes Go.WideShapes Go.ChangeAt Go.RowKit
set_option linter.unusedVariables false
set_option linter.unusedSimpArgs false

theorem own : ownKnob Tryd.prog.godebug = none := by kernel_rfl
theorem laidOut : laidOutB Tryd.prog = true := by kernel_rfl
theorem gNone : Tryd.prog.globalNamed "spyglass/utf.none" = some 0 := by kernel_rfl
theorem gNoneType : (Tryd.prog.globals[0]?).map (·.type) = some 49 := by kernel_rfl
theorem gWide : Tryd.prog.globalNamed "spyglass/utf.wide" = some 1 := by kernel_rfl
theorem gWideType : (Tryd.prog.globals[1]?).map (·.type) = some 50 := by kernel_rfl
theorem cellsT1 : Tryd.prog.cellsOf 49 = 3 * 2 := by kernel_rfl
theorem cellsT2 : Tryd.prog.cellsOf 48 = 2 := by kernel_rfl
theorem cellsT3 : Tryd.prog.cellsOf 21 = 1 := by kernel_rfl
theorem cellsT4 : Tryd.prog.cellsOf 50 = 10 * 2 := by kernel_rfl

theorem block_of_tab {W : World} {name : String} {g : Nat} {zs : List Int} (hg : Tryd.prog.globalNamed name = some g) (h : Lib.TabIs Tryd.prog W name .i32 zs) : ∃ t fr, W.heap[g]? = some (.cells (zs.map (Value.int .i32)).toArray t fr) := by
  unfold Lib.TabIs World.var? at h
  rw [hg] at h
  simp only [Option.bind_some] at h
  split at h
  · rename_i cs t fr e
    injection h with h
    subst h
    exact ⟨_, _, e⟩
  · cases h
/-- What the row's list gives. -/
theorem table {W : World} (h : laidMet Tryd.prog [("spyglass/utf.none", Rows.laid_spyglass_utf_none), ("spyglass/utf.wide", Rows.laid_spyglass_utf_wide)] W) : Tab W := by
  have h1 : Lib.TabIs Tryd.prog W "spyglass/utf.none" .i32 Utf.nones.flatten :=
    tab2_of_head (rest := [("spyglass/utf.wide", Rows.laid_spyglass_utf_wide)]) (rows := Utf.nones) gNone gNoneType Tryd.underlying49 Tryd.underlying48 Tryd.underlying21 cellsT3 cellsT2 cellsT1 h
  have h2 : Lib.TabIs Tryd.prog W "spyglass/utf.wide" .i32 Utf.wides.flatten :=
    tab2_of_head (rest := []) (rows := Utf.wides) gWide gWideType Tryd.underlying50 Tryd.underlying48 Tryd.underlying21 cellsT3 cellsT2 cellsT4 h.tail
  exact ⟨block_of_tab gNone h1, block_of_tab gWide h2⟩
theorem i32_of_wf {x : Int} (h : (Lit.int .i32 x).wf = true) : -2147483648 ≤ x ∧ x ≤ 2147483647 := by
  simp [Lit.wf, IntKind.min, IntKind.max, IntKind.signed, IntKind.bits] at h
  omega
theorem u8_of_wf {x : Int} (h : (Lit.int .u8 x).wf = true) : 0 ≤ x ∧ x < 256 := by
  simp [Lit.wf, IntKind.min, IntKind.max, IntKind.signed, IntKind.bits] at h
  omega
/-- A slice of integers that came in, as the walks are told of it. -/
def IsRow (k : IntKind) (w : World) (a : Option Addr) (len cap : Nat) (zs : List Int) : Prop :=
  len = zs.length ∧ len ≤ 9223372036854775807 ∧ len ≤ cap ∧ ReadI w k a zs ∧ ∀ n ∈ zs, (Lit.int k n).wf = true
theorem row_of_open {k : IntKind} {w : World} {x : Addr} {len cap : Nat} {zs : List Int} (hl : len ≤ cap) (hm : cap ≤ maxLen) (hz : zs.length = cap) (hcell : ∀ i, i < zs.length → w.cell? (x.add i) = some (.int k (zs.getD i 0))) (hwz : ∀ n ∈ zs, (Lit.int k n).wf = true) (hb : len ≤ 9223372036854775807) : IsRow k w (some x) len cap (zs.take len) := by
  refine ⟨by simp; omega, hb, hl, fun hne => ?_, fun n hn => hwz n (List.mem_of_mem_take hn)⟩
  have h0 : 0 < zs.length := by
    rcases Nat.eq_zero_or_pos zs.length with h | h
    · exact absurd (by rw [List.eq_nil_of_length_eq_zero h]; simp) hne
    · exact h
  obtain ⟨b, off, spot⟩ := x
  have hc := hcell 0 h0
  have hspot : spot = none := by simpa [Addr.add] using World.cell?_spot hc
  subst hspot
  refine ⟨b, off, rfl, fun j hj => ?_⟩
  have hj' : j < len ∧ j < zs.length := by simp at hj; omega
  have := hcell j hj'.2
  have e : (⟨b, off, none⟩ : Addr).add j = ⟨b, off + j, none⟩ := by unfold Addr.add; split <;> simp_all
  rw [e] at this
  rw [this]
  simp [List.getD_eq_getElem?_getD, hj'.1]

def setCells (cs : Array Value) : Obj → Obj
  | .cells _ t frozen => .cells cs t frozen
  | o => o
/-- A world for the witness: the settled one, the two tables holding what their initialisers lay. -/
noncomputable def laidWorld (os : Os) : World :=
  { World.holding Tryd.prog os ⟨#[], #[], []⟩ with heap := ((World.holding Tryd.prog os ⟨#[], #[], []⟩).heap.modify 0 (setCells (rowCells Utf.nones))).modify 1 (setCells (rowCells Utf.wides)) }
end Go.Proofs.YtkdmdklmkachfaaDoor
