/-
  DERIVED. GIVEN WITH THE SEED: THE CARDS: each row of YtcfkfgkndncanaaGreatDoorRows.lean that lists a variable, with what it lists TIED to the program's text (the seventh form; the later family's looks); each row that meets fmt, with fmt's text TOLD by the authors' own Lean function (tested against real Go, not proved from fmt's source: count such statements apart). THE CARD IS WHAT COUNTS. Prove the row's statement (the work); the ties are given (YtcfkfgkndncanaaGreatDoorTie.lean); close each card by the builder's one call (the guide's Derived/Test/ToyasCard.lean, 'card_holds'). Laid BY PROGRAM, IN A SANDBOX (cutbox-door.mjs). By AI agents, Wed Nov 11 2026. No macro, syntax, notation, axiom, sorry.
-/
import Derived.Test.YtcfkfgkndncanaaGreatDoorRows
import GoSem.ClaimSeven
namespace Go.Proofs.YtcfkfgkndncanaaGreatDoor
namespace Rows

/-- THE TIED CARD OF 'spyglasslaw18.MovesApplies'. -/
def movesAppliesCard : Claim7 := { stood := { row := movesAppliesRow, standIns := [], harness := (true, "43a10ba7156e56a80aca23f44c572a886d393beaf895e52bfed57a3e08d519d7"), looks := true }, kinds := [], alts := [], laidByText := true, laidKinds := [.data, .data], laidTests := true, laidLooks := .later }
def MovesAppliesCardSaid : Prop := Claim7.holds Tryz.pinned (.plain (OpenSpec.ofChange movesAppliesSpec)) movesAppliesCard

/-- THE TIED CARD OF 'spyglasslaw18.MovesThere'. -/
def movesThereCard : Claim7 := { stood := { row := movesThereRow, standIns := [], harness := (true, "43a10ba7156e56a80aca23f44c572a886d393beaf895e52bfed57a3e08d519d7"), looks := true }, kinds := [], alts := [], laidByText := true, laidKinds := [.data, .data], laidTests := true, laidLooks := .later }
def MovesThereCardSaid : Prop := Claim7.holds Tryz.pinned (.plain (OpenSpec.ofChange movesThereSpec)) movesThereCard

/-- THE TIED CARD OF 'spyglasslaw18.MovesRight'. -/
def movesRightCard : Claim7 := { stood := { row := movesRightRow, standIns := [], harness := (true, "43a10ba7156e56a80aca23f44c572a886d393beaf895e52bfed57a3e08d519d7"), looks := true }, kinds := [], alts := [], laidByText := true, laidKinds := [.data, .data], laidTests := true, laidLooks := .later }
def MovesRightCardSaid : Prop := Claim7.holds Tryz.pinned (.plain (OpenSpec.ofChange movesRightSpec)) movesRightCard

/-- THE TIED CARD OF 'spyglasslaw18.MovesScroll'. -/
def movesScrollCard : Claim7 := { stood := { row := movesScrollRow, standIns := [], harness := (true, "43a10ba7156e56a80aca23f44c572a886d393beaf895e52bfed57a3e08d519d7"), looks := true }, kinds := [], alts := [], laidByText := true, laidKinds := [.data, .data], laidTests := true, laidLooks := .later }
def MovesScrollCardSaid : Prop := Claim7.holds Tryz.pinned (.plain (OpenSpec.ofChange movesScrollSpec)) movesScrollCard

/-- THE SECOND FORM's CARD OF 'spyglasslaw18.MovesApplies'. -/
def movesAppliesUptoCard : Claim7 := { stood := { row := movesAppliesUptoRow, standIns := [], harness := (true, "43a10ba7156e56a80aca23f44c572a886d393beaf895e52bfed57a3e08d519d7"), looks := true }, kinds := [], alts := [], laidByText := true, laidKinds := [.data, .data], laidTests := true, laidLooks := .later }
def MovesAppliesUptoCardSaid : Prop := Claim7.holds Tryz.pinned (.plain (OpenSpec.upto movesAppliesSpec)) movesAppliesUptoCard

/-- THE SECOND FORM's CARD OF 'spyglasslaw18.MovesThere'. -/
def movesThereUptoCard : Claim7 := { stood := { row := movesThereUptoRow, standIns := [], harness := (true, "43a10ba7156e56a80aca23f44c572a886d393beaf895e52bfed57a3e08d519d7"), looks := true }, kinds := [], alts := [], laidByText := true, laidKinds := [.data, .data], laidTests := true, laidLooks := .later }
def MovesThereUptoCardSaid : Prop := Claim7.holds Tryz.pinned (.plain (OpenSpec.upto movesThereSpec)) movesThereUptoCard

/-- THE SECOND FORM's CARD OF 'spyglasslaw18.MovesRight'. -/
def movesRightUptoCard : Claim7 := { stood := { row := movesRightUptoRow, standIns := [], harness := (true, "43a10ba7156e56a80aca23f44c572a886d393beaf895e52bfed57a3e08d519d7"), looks := true }, kinds := [], alts := [], laidByText := true, laidKinds := [.data, .data], laidTests := true, laidLooks := .later }
def MovesRightUptoCardSaid : Prop := Claim7.holds Tryz.pinned (.plain (OpenSpec.upto movesRightSpec)) movesRightUptoCard

/-- THE SECOND FORM's CARD OF 'spyglasslaw18.MovesScroll'. -/
def movesScrollUptoCard : Claim7 := { stood := { row := movesScrollUptoRow, standIns := [], harness := (true, "43a10ba7156e56a80aca23f44c572a886d393beaf895e52bfed57a3e08d519d7"), looks := true }, kinds := [], alts := [], laidByText := true, laidKinds := [.data, .data], laidTests := true, laidLooks := .later }
def MovesScrollUptoCardSaid : Prop := Claim7.holds Tryz.pinned (.plain (OpenSpec.upto movesScrollSpec)) movesScrollUptoCard
end Rows
end Go.Proofs.YtcfkfgkndncanaaGreatDoor
