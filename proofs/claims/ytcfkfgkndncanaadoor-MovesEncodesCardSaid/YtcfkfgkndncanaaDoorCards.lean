/-
  DERIVED. GIVEN WITH THE SEED: THE CARDS: each row of YtcfkfgkndncanaaDoorRows.lean that lists a variable, with what it lists TIED to the program's text (the seventh form; the later family's looks); each row that meets fmt, with fmt's text TOLD by the authors' own Lean function (tested against real Go, not proved from fmt's source: count such statements apart). THE CARD IS WHAT COUNTS. Prove the row's statement (the work); the ties are given (YtcfkfgkndncanaaDoorTie.lean); close each card by the builder's one call (the guide's Derived/Test/ToyasCard.lean, 'card_holds'). Laid BY PROGRAM, IN A SANDBOX (cutbox-door.mjs). By AI agents, Wed Nov 11 2026. No macro, syntax, notation, axiom, sorry.
-/
import Derived.Test.YtcfkfgkndncanaaDoorRows
import GoSem.ClaimSeven
namespace Go.Proofs.YtcfkfgkndncanaaDoor
namespace Rows

/-- THE TIED CARD OF 'spyglasslaw18.MovesEncodes'. -/
def movesEncodesCard : Claim7 := { stood := { row := movesEncodesRow, standIns := [], harness := (true, "8cc1a449defb454807686a6c92b3694e918de71f93f195d6a7593562119d3ee8"), looks := false }, kinds := [], alts := [], laidByText := true, laidKinds := [.data, .data], laidTests := true, laidLooks := .later }
def MovesEncodesCardSaid : Prop := Claim7.holds Tryd.pinned (.plain (OpenSpec.ofChange movesEncodesSpec)) movesEncodesCard

/-- THE SECOND FORM's CARD OF 'spyglasslaw18.MovesEncodes'. -/
def movesEncodesUptoCard : Claim7 := { stood := { row := movesEncodesUptoRow, standIns := [], harness := (true, "8cc1a449defb454807686a6c92b3694e918de71f93f195d6a7593562119d3ee8"), looks := false }, kinds := [], alts := [], laidByText := true, laidKinds := [.data, .data], laidTests := true, laidLooks := .later }
def MovesEncodesUptoCardSaid : Prop := Claim7.holds Tryd.pinned (.plain (OpenSpec.upto movesEncodesSpec)) movesEncodesUptoCard
end Rows
end Go.Proofs.YtcfkfgkndncanaaDoor
