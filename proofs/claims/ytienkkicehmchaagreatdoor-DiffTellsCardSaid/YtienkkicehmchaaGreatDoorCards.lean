/-
  DERIVED. GIVEN WITH THE SEED: THE CARDS: each row of YtienkkicehmchaaGreatDoorRows.lean that lists a variable, with what it lists TIED to the program's text (the seventh form; the later family's looks); each row that meets fmt, with fmt's text TOLD by the authors' own Lean function (tested against real Go, not proved from fmt's source: count such statements apart). THE CARD IS WHAT COUNTS. Prove the row's statement (the work); the ties are given (YtienkkicehmchaaGreatDoorTie.lean); close each card by the builder's one call (the guide's Derived/Test/ToyasCard.lean, 'card_holds'). Laid BY PROGRAM, IN A SANDBOX (cutbox-door.mjs). By AI agents, Wed Nov 11 2026. No macro, syntax, notation, axiom, sorry.
-/
import Derived.Test.YtienkkicehmchaaGreatDoorRows
import GoSem.ClaimSeven
namespace Go.Proofs.YtienkkicehmchaaGreatDoor
namespace Rows

/-- THE TIED CARD OF 'spyglasslaw19.DiffTells'. -/
def diffTellsCard : Claim7 := { stood := { row := diffTellsRow, standIns := [], harness := (true, "2cc32a18ba416aec54150c5dfc49971617de56a57ff27a5b1e994e7e460ecf0b"), looks := true }, kinds := [], alts := [], laidByText := true, laidKinds := [.data, .data], laidTests := true, laidLooks := .later }
def DiffTellsCardSaid : Prop := Claim7.holds Tryz.pinned (.plain (OpenSpec.ofChange diffTellsSpec)) diffTellsCard

/-- THE TIED CARD OF 'spyglasslaw19.DiffApplies'. -/
def diffAppliesCard : Claim7 := { stood := { row := diffAppliesRow, standIns := [], harness := (true, "2cc32a18ba416aec54150c5dfc49971617de56a57ff27a5b1e994e7e460ecf0b"), looks := true }, kinds := [], alts := [], laidByText := true, laidKinds := [.data, .data], laidTests := true, laidLooks := .later }
def DiffAppliesCardSaid : Prop := Claim7.holds Tryz.pinned (.plain (OpenSpec.ofChange diffAppliesSpec)) diffAppliesCard

/-- THE TIED CARD OF 'spyglasslaw19.DiffOnward'. -/
def diffOnwardCard : Claim7 := { stood := { row := diffOnwardRow, standIns := [], harness := (true, "2cc32a18ba416aec54150c5dfc49971617de56a57ff27a5b1e994e7e460ecf0b"), looks := true }, kinds := [], alts := [], laidByText := true, laidKinds := [.data, .data], laidTests := true, laidLooks := .later }
def DiffOnwardCardSaid : Prop := Claim7.holds Tryz.pinned (.plain (OpenSpec.ofChange diffOnwardSpec)) diffOnwardCard

/-- THE TIED CARD OF 'spyglasslaw19.DiffThere'. -/
def diffThereCard : Claim7 := { stood := { row := diffThereRow, standIns := [], harness := (true, "2cc32a18ba416aec54150c5dfc49971617de56a57ff27a5b1e994e7e460ecf0b"), looks := true }, kinds := [], alts := [], laidByText := true, laidKinds := [.data, .data], laidTests := true, laidLooks := .later }
def DiffThereCardSaid : Prop := Claim7.holds Tryz.pinned (.plain (OpenSpec.ofChange diffThereSpec)) diffThereCard

/-- THE TIED CARD OF 'spyglasslaw19.DiffAbove'. -/
def diffAboveCard : Claim7 := { stood := { row := diffAboveRow, standIns := [], harness := (true, "2cc32a18ba416aec54150c5dfc49971617de56a57ff27a5b1e994e7e460ecf0b"), looks := true }, kinds := [], alts := [], laidByText := true, laidKinds := [.data, .data, .data, .data], laidTests := true, laidLooks := .later }
def DiffAboveCardSaid : Prop := Claim7.holds Tryz.pinned (.plain (OpenSpec.ofChange diffAboveSpec)) diffAboveCard

/-- THE SECOND FORM's CARD OF 'spyglasslaw19.DiffTells'. -/
def diffTellsUptoCard : Claim7 := { stood := { row := diffTellsUptoRow, standIns := [], harness := (true, "2cc32a18ba416aec54150c5dfc49971617de56a57ff27a5b1e994e7e460ecf0b"), looks := true }, kinds := [], alts := [], laidByText := true, laidKinds := [.data, .data], laidTests := true, laidLooks := .later }
def DiffTellsUptoCardSaid : Prop := Claim7.holds Tryz.pinned (.plain (OpenSpec.upto diffTellsSpec)) diffTellsUptoCard

/-- THE SECOND FORM's CARD OF 'spyglasslaw19.DiffApplies'. -/
def diffAppliesUptoCard : Claim7 := { stood := { row := diffAppliesUptoRow, standIns := [], harness := (true, "2cc32a18ba416aec54150c5dfc49971617de56a57ff27a5b1e994e7e460ecf0b"), looks := true }, kinds := [], alts := [], laidByText := true, laidKinds := [.data, .data], laidTests := true, laidLooks := .later }
def DiffAppliesUptoCardSaid : Prop := Claim7.holds Tryz.pinned (.plain (OpenSpec.upto diffAppliesSpec)) diffAppliesUptoCard

/-- THE SECOND FORM's CARD OF 'spyglasslaw19.DiffOnward'. -/
def diffOnwardUptoCard : Claim7 := { stood := { row := diffOnwardUptoRow, standIns := [], harness := (true, "2cc32a18ba416aec54150c5dfc49971617de56a57ff27a5b1e994e7e460ecf0b"), looks := true }, kinds := [], alts := [], laidByText := true, laidKinds := [.data, .data], laidTests := true, laidLooks := .later }
def DiffOnwardUptoCardSaid : Prop := Claim7.holds Tryz.pinned (.plain (OpenSpec.upto diffOnwardSpec)) diffOnwardUptoCard

/-- THE SECOND FORM's CARD OF 'spyglasslaw19.DiffThere'. -/
def diffThereUptoCard : Claim7 := { stood := { row := diffThereUptoRow, standIns := [], harness := (true, "2cc32a18ba416aec54150c5dfc49971617de56a57ff27a5b1e994e7e460ecf0b"), looks := true }, kinds := [], alts := [], laidByText := true, laidKinds := [.data, .data], laidTests := true, laidLooks := .later }
def DiffThereUptoCardSaid : Prop := Claim7.holds Tryz.pinned (.plain (OpenSpec.upto diffThereSpec)) diffThereUptoCard

/-- THE SECOND FORM's CARD OF 'spyglasslaw19.DiffAbove'. -/
def diffAboveUptoCard : Claim7 := { stood := { row := diffAboveUptoRow, standIns := [], harness := (true, "2cc32a18ba416aec54150c5dfc49971617de56a57ff27a5b1e994e7e460ecf0b"), looks := true }, kinds := [], alts := [], laidByText := true, laidKinds := [.data, .data, .data, .data], laidTests := true, laidLooks := .later }
def DiffAboveUptoCardSaid : Prop := Claim7.holds Tryz.pinned (.plain (OpenSpec.upto diffAboveSpec)) diffAboveUptoCard
end Rows
end Go.Proofs.YtienkkicehmchaaGreatDoor
