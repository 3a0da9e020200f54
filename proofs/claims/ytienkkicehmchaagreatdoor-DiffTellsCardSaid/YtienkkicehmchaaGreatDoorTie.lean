/-
  DERIVED. GIVEN WITH THE SEED: THE PROGRAM's TIES (one call each: nine closed facts by the kernel) AND EACH ROW's TIE, after the 31st guide's Derived/Test/Toyas{Tie, Card}.lean. No idea stands in it: it is a product of the set-up. Laid BY PROGRAM, IN A SANDBOX (cutbox-door.mjs). By AI agents, Wed Nov 11 2026. No macro, syntax, notation, axiom, sorry.
-/
import Derived.Test.YtienkkicehmchaaGreatDoorRows
import Derived.LaidByTextLater
import Derived.SevenTiedAt
import Derived.LaidSub
import Derived.LaidOnce
namespace Go.Proofs.YtienkkicehmchaaGreatDoor
open Go
set_option maxRecDepth 100000
theorem seatTie1 : Tryz.prog.laidByTextLater [("spyglass/utf.none", Rows.laid_spyglass_utf_none), ("spyglass/utf.wide", Rows.laid_spyglass_utf_wide), ("spyglass/color.first", Rows.laid_spyglass_color_first), ("spyglass/color.levels", Rows.laid_spyglass_color_levels)] [.data, .data, .data, .data] true :=
  Program.laidByTextLater_by_one 58 8 49 (by kernel_rfl) (by kernel_rfl) (by kernel_rfl) (by kernel_rfl) (by kernel_rfl) (by kernel_rfl) (fun _ _ => by kernel_rfl)
theorem noOwnUnsafe : Tryz.pinned.checked.prog.headLifts.contains "ownunsafe" = false := by kernel_rfl
theorem tie : Tryz.prog.laidByTextLater [("spyglass/utf.none", Rows.laid_spyglass_utf_none), ("spyglass/utf.wide", Rows.laid_spyglass_utf_wide)] [.data, .data] true :=
  Program.laidByTextLater.sub seatTie1 ["spyglass/utf.none", "spyglass/utf.wide"] (by kernel_rfl) (by kernel_rfl)
theorem diffTells_row_tie : Rows.diffTellsRow.laidByTextAt .later Tryz.pinned [.data, .data] true :=
  OpenClaim.laidByTextAt_later rfl rfl tie noOwnUnsafe
theorem diffApplies_row_tie : Rows.diffAppliesRow.laidByTextAt .later Tryz.pinned [.data, .data] true :=
  OpenClaim.laidByTextAt_later rfl rfl tie noOwnUnsafe
theorem diffOnward_row_tie : Rows.diffOnwardRow.laidByTextAt .later Tryz.pinned [.data, .data] true :=
  OpenClaim.laidByTextAt_later rfl rfl tie noOwnUnsafe
theorem diffThere_row_tie : Rows.diffThereRow.laidByTextAt .later Tryz.pinned [.data, .data] true :=
  OpenClaim.laidByTextAt_later rfl rfl tie noOwnUnsafe
theorem tie2 : Tryz.prog.laidByTextLater [("spyglass/utf.none", Rows.laid_spyglass_utf_none), ("spyglass/utf.wide", Rows.laid_spyglass_utf_wide), ("spyglass/color.first", Rows.laid_spyglass_color_first), ("spyglass/color.levels", Rows.laid_spyglass_color_levels)] [.data, .data, .data, .data] true :=
  Program.laidByTextLater.sub seatTie1 ["spyglass/utf.none", "spyglass/utf.wide", "spyglass/color.first", "spyglass/color.levels"] (by kernel_rfl) (by kernel_rfl)
theorem diffAbove_row_tie : Rows.diffAboveRow.laidByTextAt .later Tryz.pinned [.data, .data, .data, .data] true :=
  OpenClaim.laidByTextAt_later rfl rfl tie2 noOwnUnsafe
theorem diffTellsUpto_row_tie : Rows.diffTellsUptoRow.laidByTextAt .later Tryz.pinned [.data, .data] true :=
  OpenClaim.laidByTextAt_later rfl rfl tie noOwnUnsafe
theorem diffAppliesUpto_row_tie : Rows.diffAppliesUptoRow.laidByTextAt .later Tryz.pinned [.data, .data] true :=
  OpenClaim.laidByTextAt_later rfl rfl tie noOwnUnsafe
theorem diffOnwardUpto_row_tie : Rows.diffOnwardUptoRow.laidByTextAt .later Tryz.pinned [.data, .data] true :=
  OpenClaim.laidByTextAt_later rfl rfl tie noOwnUnsafe
theorem diffThereUpto_row_tie : Rows.diffThereUptoRow.laidByTextAt .later Tryz.pinned [.data, .data] true :=
  OpenClaim.laidByTextAt_later rfl rfl tie noOwnUnsafe
theorem diffAboveUpto_row_tie : Rows.diffAboveUptoRow.laidByTextAt .later Tryz.pinned [.data, .data, .data, .data] true :=
  OpenClaim.laidByTextAt_later rfl rfl tie2 noOwnUnsafe
end Go.Proofs.YtienkkicehmchaaGreatDoor
