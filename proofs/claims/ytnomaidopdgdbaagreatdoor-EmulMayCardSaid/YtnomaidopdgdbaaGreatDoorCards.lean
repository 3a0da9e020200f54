/-
  DERIVED. GIVEN WITH THE SEED: THE CARDS: each row of YtnomaidopdgdbaaGreatDoorRows.lean that lists a variable, with what it lists TIED to the program's text (the seventh form; the later family's looks); each row that meets fmt, with fmt's text TOLD by the authors' own Lean function (tested against real Go, not proved from fmt's source: count such statements apart). THE CARD IS WHAT COUNTS. Prove the row's statement (the work); the ties are given (YtnomaidopdgdbaaGreatDoorTie.lean); close each card by the builder's one call (the guide's Derived/Test/ToyasCard.lean, 'card_holds'). Laid BY PROGRAM, IN A SANDBOX (cutbox-door.mjs). By AI agents, Wed Nov 11 2026. No macro, syntax, notation, axiom, sorry.
-/
import Derived.Test.YtnomaidopdgdbaaGreatDoorRows
import GoSem.ClaimSeven
namespace Go.Proofs.YtnomaidopdgdbaaGreatDoor
namespace Rows

/-- THE TIED CARD OF 'spyglasslaw12.EmulActs'. -/
def emulActsCard : Claim7 := { stood := { row := emulActsRow, standIns := [], harness := (true, "690ae4d24726ad13b80f5a88d7c5005ba03105329fd2182f8e464c78810cd17a"), looks := false }, kinds := [], alts := [], laidByText := true, laidKinds := [.data, .data], laidTests := true, laidLooks := .later }
def EmulActsCardSaid : Prop := Claim7.holds Tryz.pinned (.plain (OpenSpec.ofChange emulActsSpec)) emulActsCard

/-- THE TIED CARD OF 'spyglasslaw12.EmulMay'. -/
def emulMayCard : Claim7 := { stood := { row := emulMayRow, standIns := [], harness := (true, "690ae4d24726ad13b80f5a88d7c5005ba03105329fd2182f8e464c78810cd17a"), looks := false }, kinds := [], alts := [], laidByText := true, laidKinds := [.data, .data], laidTests := true, laidLooks := .later }
def EmulMayCardSaid : Prop := Claim7.holds Tryz.pinned (.plain (OpenSpec.ofChange emulMaySpec)) emulMayCard

/-- THE TIED CARD OF 'spyglasslaw12.EmulPieces'. -/
def emulPiecesCard : Claim7 := { stood := { row := emulPiecesRow, standIns := [], harness := (true, "690ae4d24726ad13b80f5a88d7c5005ba03105329fd2182f8e464c78810cd17a"), looks := false }, kinds := [], alts := [], laidByText := true, laidKinds := [.data, .data], laidTests := true, laidLooks := .later }
def EmulPiecesCardSaid : Prop := Claim7.holds Tryz.pinned (.plain (OpenSpec.ofChange emulPiecesSpec)) emulPiecesCard

/-- THE TIED CARD OF 'spyglasslaw12.EmulText'. -/
def emulTextCard : Claim7 := { stood := { row := emulTextRow, standIns := [], harness := (true, "690ae4d24726ad13b80f5a88d7c5005ba03105329fd2182f8e464c78810cd17a"), looks := false }, kinds := [], alts := [], laidByText := true, laidKinds := [.data, .data], laidTests := true, laidLooks := .later }
def EmulTextCardSaid : Prop := Claim7.holds Tryz.pinned (.plain (OpenSpec.ofChange emulTextSpec)) emulTextCard

/-- THE TIED CARD OF 'spyglasslaw12.EmulMargins'. -/
def emulMarginsCard : Claim7 := { stood := { row := emulMarginsRow, standIns := [], harness := (true, "690ae4d24726ad13b80f5a88d7c5005ba03105329fd2182f8e464c78810cd17a"), looks := false }, kinds := [], alts := [], laidByText := true, laidKinds := [.data, .data], laidTests := true, laidLooks := .later }
def EmulMarginsCardSaid : Prop := Claim7.holds Tryz.pinned (.plain (OpenSpec.ofChange emulMarginsSpec)) emulMarginsCard

/-- THE TIED CARD OF 'spyglasslaw12.EmulOther'. -/
def emulOtherCard : Claim7 := { stood := { row := emulOtherRow, standIns := [], harness := (true, "690ae4d24726ad13b80f5a88d7c5005ba03105329fd2182f8e464c78810cd17a"), looks := false }, kinds := [], alts := [], laidByText := true, laidKinds := [.data, .data], laidTests := true, laidLooks := .later }
def EmulOtherCardSaid : Prop := Claim7.holds Tryz.pinned (.plain (OpenSpec.ofChange emulOtherSpec)) emulOtherCard

/-- THE TIED CARD OF 'spyglasslaw12.EmulPlays'. -/
def emulPlaysCard : Claim7 := { stood := { row := emulPlaysRow, standIns := [], harness := (true, "690ae4d24726ad13b80f5a88d7c5005ba03105329fd2182f8e464c78810cd17a"), looks := false }, kinds := [], alts := [], laidByText := true, laidKinds := [.data, .data], laidTests := true, laidLooks := .later }
def EmulPlaysCardSaid : Prop := Claim7.holds Tryz.pinned (.plain (OpenSpec.ofChange emulPlaysSpec)) emulPlaysCard

/-- THE TIED CARD OF 'spyglasslaw12.EmulRight'. -/
def emulRightCard : Claim7 := { stood := { row := emulRightRow, standIns := [], harness := (true, "690ae4d24726ad13b80f5a88d7c5005ba03105329fd2182f8e464c78810cd17a"), looks := false }, kinds := [], alts := [], laidByText := true, laidKinds := [.data, .data], laidTests := true, laidLooks := .later }
def EmulRightCardSaid : Prop := Claim7.holds Tryz.pinned (.plain (OpenSpec.ofChange emulRightSpec)) emulRightCard

/-- THE SECOND FORM's CARD OF 'spyglasslaw12.EmulActs'. -/
def emulActsUptoCard : Claim7 := { stood := { row := emulActsUptoRow, standIns := [], harness := (true, "690ae4d24726ad13b80f5a88d7c5005ba03105329fd2182f8e464c78810cd17a"), looks := false }, kinds := [], alts := [], laidByText := true, laidKinds := [.data, .data], laidTests := true, laidLooks := .later }
def EmulActsUptoCardSaid : Prop := Claim7.holds Tryz.pinned (.plain (OpenSpec.upto emulActsSpec)) emulActsUptoCard

/-- THE SECOND FORM's CARD OF 'spyglasslaw12.EmulMay'. -/
def emulMayUptoCard : Claim7 := { stood := { row := emulMayUptoRow, standIns := [], harness := (true, "690ae4d24726ad13b80f5a88d7c5005ba03105329fd2182f8e464c78810cd17a"), looks := false }, kinds := [], alts := [], laidByText := true, laidKinds := [.data, .data], laidTests := true, laidLooks := .later }
def EmulMayUptoCardSaid : Prop := Claim7.holds Tryz.pinned (.plain (OpenSpec.upto emulMaySpec)) emulMayUptoCard

/-- THE SECOND FORM's CARD OF 'spyglasslaw12.EmulPieces'. -/
def emulPiecesUptoCard : Claim7 := { stood := { row := emulPiecesUptoRow, standIns := [], harness := (true, "690ae4d24726ad13b80f5a88d7c5005ba03105329fd2182f8e464c78810cd17a"), looks := false }, kinds := [], alts := [], laidByText := true, laidKinds := [.data, .data], laidTests := true, laidLooks := .later }
def EmulPiecesUptoCardSaid : Prop := Claim7.holds Tryz.pinned (.plain (OpenSpec.upto emulPiecesSpec)) emulPiecesUptoCard

/-- THE SECOND FORM's CARD OF 'spyglasslaw12.EmulText'. -/
def emulTextUptoCard : Claim7 := { stood := { row := emulTextUptoRow, standIns := [], harness := (true, "690ae4d24726ad13b80f5a88d7c5005ba03105329fd2182f8e464c78810cd17a"), looks := false }, kinds := [], alts := [], laidByText := true, laidKinds := [.data, .data], laidTests := true, laidLooks := .later }
def EmulTextUptoCardSaid : Prop := Claim7.holds Tryz.pinned (.plain (OpenSpec.upto emulTextSpec)) emulTextUptoCard

/-- THE SECOND FORM's CARD OF 'spyglasslaw12.EmulMargins'. -/
def emulMarginsUptoCard : Claim7 := { stood := { row := emulMarginsUptoRow, standIns := [], harness := (true, "690ae4d24726ad13b80f5a88d7c5005ba03105329fd2182f8e464c78810cd17a"), looks := false }, kinds := [], alts := [], laidByText := true, laidKinds := [.data, .data], laidTests := true, laidLooks := .later }
def EmulMarginsUptoCardSaid : Prop := Claim7.holds Tryz.pinned (.plain (OpenSpec.upto emulMarginsSpec)) emulMarginsUptoCard

/-- THE SECOND FORM's CARD OF 'spyglasslaw12.EmulOther'. -/
def emulOtherUptoCard : Claim7 := { stood := { row := emulOtherUptoRow, standIns := [], harness := (true, "690ae4d24726ad13b80f5a88d7c5005ba03105329fd2182f8e464c78810cd17a"), looks := false }, kinds := [], alts := [], laidByText := true, laidKinds := [.data, .data], laidTests := true, laidLooks := .later }
def EmulOtherUptoCardSaid : Prop := Claim7.holds Tryz.pinned (.plain (OpenSpec.upto emulOtherSpec)) emulOtherUptoCard

/-- THE SECOND FORM's CARD OF 'spyglasslaw12.EmulPlays'. -/
def emulPlaysUptoCard : Claim7 := { stood := { row := emulPlaysUptoRow, standIns := [], harness := (true, "690ae4d24726ad13b80f5a88d7c5005ba03105329fd2182f8e464c78810cd17a"), looks := false }, kinds := [], alts := [], laidByText := true, laidKinds := [.data, .data], laidTests := true, laidLooks := .later }
def EmulPlaysUptoCardSaid : Prop := Claim7.holds Tryz.pinned (.plain (OpenSpec.upto emulPlaysSpec)) emulPlaysUptoCard

/-- THE SECOND FORM's CARD OF 'spyglasslaw12.EmulRight'. -/
def emulRightUptoCard : Claim7 := { stood := { row := emulRightUptoRow, standIns := [], harness := (true, "690ae4d24726ad13b80f5a88d7c5005ba03105329fd2182f8e464c78810cd17a"), looks := false }, kinds := [], alts := [], laidByText := true, laidKinds := [.data, .data], laidTests := true, laidLooks := .later }
def EmulRightUptoCardSaid : Prop := Claim7.holds Tryz.pinned (.plain (OpenSpec.upto emulRightSpec)) emulRightUptoCard
end Rows
end Go.Proofs.YtnomaidopdgdbaaGreatDoor
