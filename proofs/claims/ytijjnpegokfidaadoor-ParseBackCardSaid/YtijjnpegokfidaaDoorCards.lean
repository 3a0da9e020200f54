/-
  DERIVED. GIVEN WITH THE SEED: THE CARDS: each row of YtijjnpegokfidaaDoorRows.lean that lists a variable, with what it lists TIED to the program's text (the seventh form; the later family's looks); each row that meets fmt, with fmt's text TOLD by the authors' own Lean function (tested against real Go, not proved from fmt's source: count such statements apart). THE CARD IS WHAT COUNTS. Prove the row's statement (the work); the ties are given (YtijjnpegokfidaaDoorTie.lean); close each card by the builder's one call (the guide's Derived/Test/ToyasCard.lean, 'card_holds'). Laid BY PROGRAM, IN A SANDBOX (cutbox-door.mjs). By AI agents, Wed Nov 11 2026. No macro, syntax, notation, axiom, sorry.
-/
import Derived.Test.YtijjnpegokfidaaDoorRows
import GoSem.ClaimSeven
namespace Go.Proofs.YtijjnpegokfidaaDoor
namespace Rows

/-- THE TIED CARD OF 'spyglasslaw11.ParseLays'. -/
def parseLaysCard : Claim7 := { stood := { row := parseLaysRow, standIns := [], harness := (true, "fd4c315666aabe04449a440318b1a2b11f35995a8ba63311592497e6594c030d"), looks := false }, kinds := [], alts := [], laidByText := true, laidKinds := [.data, .data, .data], laidTests := true, laidLooks := .later }
def ParseLaysCardSaid : Prop := Claim7.holds Tryd.pinned (.plain (OpenSpec.ofChange parseLaysSpec)) parseLaysCard

/-- THE TIED CARD OF 'spyglasslaw11.ParseBack'. -/
def parseBackCard : Claim7 := { stood := { row := parseBackRow, standIns := [], harness := (true, "fd4c315666aabe04449a440318b1a2b11f35995a8ba63311592497e6594c030d"), looks := false }, kinds := [], alts := [], laidByText := true, laidKinds := [.data, .data, .data], laidTests := true, laidLooks := .later }
def ParseBackCardSaid : Prop := Claim7.holds Tryd.pinned (.plain (OpenSpec.ofChange parseBackSpec)) parseBackCard

/-- THE SECOND FORM's CARD OF 'spyglasslaw11.ParseLays'. -/
def parseLaysUptoCard : Claim7 := { stood := { row := parseLaysUptoRow, standIns := [], harness := (true, "fd4c315666aabe04449a440318b1a2b11f35995a8ba63311592497e6594c030d"), looks := false }, kinds := [], alts := [], laidByText := true, laidKinds := [.data, .data, .data], laidTests := true, laidLooks := .later }
def ParseLaysUptoCardSaid : Prop := Claim7.holds Tryd.pinned (.plain (OpenSpec.upto parseLaysSpec)) parseLaysUptoCard

/-- THE SECOND FORM's CARD OF 'spyglasslaw11.ParseBack'. -/
def parseBackUptoCard : Claim7 := { stood := { row := parseBackUptoRow, standIns := [], harness := (true, "fd4c315666aabe04449a440318b1a2b11f35995a8ba63311592497e6594c030d"), looks := false }, kinds := [], alts := [], laidByText := true, laidKinds := [.data, .data, .data], laidTests := true, laidLooks := .later }
def ParseBackUptoCardSaid : Prop := Claim7.holds Tryd.pinned (.plain (OpenSpec.upto parseBackSpec)) parseBackUptoCard
end Rows
end Go.Proofs.YtijjnpegokfidaaDoor
