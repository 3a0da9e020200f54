/-
  NARROWER THAN 'FOR EVERY INPUT', by the rows' own cells (each row's printed sentence says how): EmulActs: laid · EmulMay: laid · EmulPieces: laid · EmulText: laid · EmulMargins: laid · EmulOther: laid · EmulPlays: laid · EmulRight: laid.
  DERIVED. THE GIVEN ROWS OF THIS SEAT. 8 by the template 'for every input the law returns true; each argument reads behind the call as it read before'; 0 by the template 'total and deterministic' (their statements: YtnomaidopdgdbaaGreatDoorTotals.lean).
  GIVEN WITH THE SEED: the statements are not yours to turn. If you find one false, say at which input.
  Laid BY PROGRAM, IN A SANDBOX (cutbox-rows.mjs): the forced cells as the released guide's own fill.sh prints them over the translation 748ce7e9c07f818b… (all of the seat's roots in one cut). By AI agents, Wed Nov 11 2026. No macro, syntax, notation, axiom, sorry.
-/
import Derived.Test.YtnomaidopdgdbaaGreatDoorChecked
import GoSem.Claim
import GoSem.ClaimJoined
import GoSem.ClaimMapViews
import Derived.JoinedTies
import Derived.KernelRfl
namespace Go.Proofs.YtnomaidopdgdbaaGreatDoor
/- THE CELL 'sum', in the pinned program and in every row, IS THE sha256 OF THE DUMP (.gsa) THAT YtnomaidopdgdbaaGreatDoorProg.lean LOADS. Nothing in Lean hashes anything: it is a label: what it is worth is what the hold of that sum in a sandbox is worth. -/
noncomputable def Tryz.pinned : Pinned := { name := "ytnomaidopdgdbaagreatdoor", sum := "748ce7e9c07f818bfe4620078c353a2e44edb1fbfb67bb2b50c3996e1e7131ab", checked := Tryz.checked }
namespace Rows
def none {H : Type} : Left H := { results := [], args := [] }

/- WHAT THE LISTED PACKAGE-LEVEL VARIABLES READ AS WHEN THE CALL BEGINS. Each datum BY PROGRAM (the guide's laid-datum.mjs) off the statement by which the dump's own 'gosem.cut.vars' lays the variable. In a bare row this is a premise. The card (YtnomaidopdgdbaaGreatDoorCards.lean) ties it to the program's text. -/
def laid_spyglass_utf_none {H : Type} : DataW H := .agg [.agg [.lit (.int .i32 768), .lit (.int .i32 879)], .agg [.lit (.int .i32 8203), .lit (.int .i32 8207)], .agg [.lit (.int .i32 65024), .lit (.int .i32 65039)]]
def laid_spyglass_utf_wide {H : Type} : DataW H := .agg [.agg [.lit (.int .i32 4352), .lit (.int .i32 4447)], .agg [.lit (.int .i32 11904), .lit (.int .i32 12350)], .agg [.lit (.int .i32 12353), .lit (.int .i32 42191)], .agg [.lit (.int .i32 44032), .lit (.int .i32 55203)], .agg [.lit (.int .i32 63744), .lit (.int .i32 64255)], .agg [.lit (.int .i32 65072), .lit (.int .i32 65135)], .agg [.lit (.int .i32 65280), .lit (.int .i32 65376)], .agg [.lit (.int .i32 65504), .lit (.int .i32 65510)], .agg [.lit (.int .i32 127744), .lit (.int .i32 128591)], .agg [.lit (.int .i32 131072), .lit (.int .i32 262141)]]

/-- 'spyglasslaw12.EmulActs': WHATEVER THE INPUT: true; the input reads as it did. -/
def emulActsSpec : ChangeSpec := { name := "emulActs", fn := fun _ => fun
  | [d1, d2, d3] => { results := [.lit (.bool true)], args := [d1, d2, d3] }
  | _ => none }
def emulActsRow : OpenClaim := { program := "ytnomaidopdgdbaagreatdoor", sum := "748ce7e9c07f818bfe4620078c353a2e44edb1fbfb67bb2b50c3996e1e7131ab", func := "spyglass/spyglasslaw12.EmulActs", spec := "emulActs", inPlace := ["internal/bytealg.IndexByteString"], unfollowed := true, recurses := true, named := ["spyglass/utf.none", "spyglass/utf.wide"], apart := false, laid := [("spyglass/utf.none", laid_spyglass_utf_none), ("spyglass/utf.wide", laid_spyglass_utf_wide)] }
def EmulActsSaid : Prop := emulActsRow.holds Tryz.pinned (OpenSpec.ofChange emulActsSpec)

/-- ITS FALSE NEIGHBOUR: 'it returns false'. Refute it at one input. -/
def emulActsWrong : ChangeSpec := { name := "emulActs", fn := fun _ => fun
  | [d1, d2, d3] => { results := [.lit (.bool false)], args := [d1, d2, d3] }
  | _ => none }
def EmulActsWrongFalsely : Prop := emulActsRow.holds Tryz.pinned (OpenSpec.ofChange emulActsWrong)

/-- 'spyglasslaw12.EmulMay': WHATEVER THE INPUT: true; the input reads as it did. -/
def emulMaySpec : ChangeSpec := { name := "emulMay", fn := fun _ => fun
  | [d] => { results := [.lit (.bool true)], args := [d] }
  | _ => none }
def emulMayRow : OpenClaim := { program := "ytnomaidopdgdbaagreatdoor", sum := "748ce7e9c07f818bfe4620078c353a2e44edb1fbfb67bb2b50c3996e1e7131ab", func := "spyglass/spyglasslaw12.EmulMay", spec := "emulMay", inPlace := ["internal/bytealg.IndexByteString"], unfollowed := true, recurses := true, named := ["spyglass/utf.none", "spyglass/utf.wide"], apart := false, laid := [("spyglass/utf.none", laid_spyglass_utf_none), ("spyglass/utf.wide", laid_spyglass_utf_wide)] }
def EmulMaySaid : Prop := emulMayRow.holds Tryz.pinned (OpenSpec.ofChange emulMaySpec)

/-- ITS FALSE NEIGHBOUR: 'it returns false'. Refute it at one input. -/
def emulMayWrong : ChangeSpec := { name := "emulMay", fn := fun _ => fun
  | [d] => { results := [.lit (.bool false)], args := [d] }
  | _ => none }
def EmulMayWrongFalsely : Prop := emulMayRow.holds Tryz.pinned (OpenSpec.ofChange emulMayWrong)

/-- 'spyglasslaw12.EmulPieces': WHATEVER THE INPUT: true; the input reads as it did. -/
def emulPiecesSpec : ChangeSpec := { name := "emulPieces", fn := fun _ => fun
  | [d1, d2, d3, d4] => { results := [.lit (.bool true)], args := [d1, d2, d3, d4] }
  | _ => none }
def emulPiecesRow : OpenClaim := { program := "ytnomaidopdgdbaagreatdoor", sum := "748ce7e9c07f818bfe4620078c353a2e44edb1fbfb67bb2b50c3996e1e7131ab", func := "spyglass/spyglasslaw12.EmulPieces", spec := "emulPieces", inPlace := ["internal/bytealg.IndexByteString"], unfollowed := true, recurses := true, named := ["spyglass/utf.none", "spyglass/utf.wide"], apart := false, laid := [("spyglass/utf.none", laid_spyglass_utf_none), ("spyglass/utf.wide", laid_spyglass_utf_wide)] }
def EmulPiecesSaid : Prop := emulPiecesRow.holds Tryz.pinned (OpenSpec.ofChange emulPiecesSpec)

/-- ITS FALSE NEIGHBOUR: 'it returns false'. Refute it at one input. -/
def emulPiecesWrong : ChangeSpec := { name := "emulPieces", fn := fun _ => fun
  | [d1, d2, d3, d4] => { results := [.lit (.bool false)], args := [d1, d2, d3, d4] }
  | _ => none }
def EmulPiecesWrongFalsely : Prop := emulPiecesRow.holds Tryz.pinned (OpenSpec.ofChange emulPiecesWrong)

/-- 'spyglasslaw12.EmulText': WHATEVER THE INPUT: true; the input reads as it did. -/
def emulTextSpec : ChangeSpec := { name := "emulText", fn := fun _ => fun
  | [d1, d2] => { results := [.lit (.bool true)], args := [d1, d2] }
  | _ => none }
def emulTextRow : OpenClaim := { program := "ytnomaidopdgdbaagreatdoor", sum := "748ce7e9c07f818bfe4620078c353a2e44edb1fbfb67bb2b50c3996e1e7131ab", func := "spyglass/spyglasslaw12.EmulText", spec := "emulText", inPlace := ["internal/bytealg.IndexByteString"], unfollowed := true, recurses := true, named := ["spyglass/utf.none", "spyglass/utf.wide"], apart := false, laid := [("spyglass/utf.none", laid_spyglass_utf_none), ("spyglass/utf.wide", laid_spyglass_utf_wide)] }
def EmulTextSaid : Prop := emulTextRow.holds Tryz.pinned (OpenSpec.ofChange emulTextSpec)

/-- ITS FALSE NEIGHBOUR: 'it returns false'. Refute it at one input. -/
def emulTextWrong : ChangeSpec := { name := "emulText", fn := fun _ => fun
  | [d1, d2] => { results := [.lit (.bool false)], args := [d1, d2] }
  | _ => none }
def EmulTextWrongFalsely : Prop := emulTextRow.holds Tryz.pinned (OpenSpec.ofChange emulTextWrong)

/-- 'spyglasslaw12.EmulMargins': WHATEVER THE INPUT: true; the input reads as it did. -/
def emulMarginsSpec : ChangeSpec := { name := "emulMargins", fn := fun _ => fun
  | [d1, d2, d3, d4, d5, d6] => { results := [.lit (.bool true)], args := [d1, d2, d3, d4, d5, d6] }
  | _ => none }
def emulMarginsRow : OpenClaim := { program := "ytnomaidopdgdbaagreatdoor", sum := "748ce7e9c07f818bfe4620078c353a2e44edb1fbfb67bb2b50c3996e1e7131ab", func := "spyglass/spyglasslaw12.EmulMargins", spec := "emulMargins", inPlace := ["internal/bytealg.IndexByteString"], unfollowed := true, recurses := true, named := ["spyglass/utf.none", "spyglass/utf.wide"], apart := false, laid := [("spyglass/utf.none", laid_spyglass_utf_none), ("spyglass/utf.wide", laid_spyglass_utf_wide)] }
def EmulMarginsSaid : Prop := emulMarginsRow.holds Tryz.pinned (OpenSpec.ofChange emulMarginsSpec)

/-- ITS FALSE NEIGHBOUR: 'it returns false'. Refute it at one input. -/
def emulMarginsWrong : ChangeSpec := { name := "emulMargins", fn := fun _ => fun
  | [d1, d2, d3, d4, d5, d6] => { results := [.lit (.bool false)], args := [d1, d2, d3, d4, d5, d6] }
  | _ => none }
def EmulMarginsWrongFalsely : Prop := emulMarginsRow.holds Tryz.pinned (OpenSpec.ofChange emulMarginsWrong)

/-- 'spyglasslaw12.EmulOther': WHATEVER THE INPUT: true; the input reads as it did. -/
def emulOtherSpec : ChangeSpec := { name := "emulOther", fn := fun _ => fun
  | [d1, d2, d3, d4] => { results := [.lit (.bool true)], args := [d1, d2, d3, d4] }
  | _ => none }
def emulOtherRow : OpenClaim := { program := "ytnomaidopdgdbaagreatdoor", sum := "748ce7e9c07f818bfe4620078c353a2e44edb1fbfb67bb2b50c3996e1e7131ab", func := "spyglass/spyglasslaw12.EmulOther", spec := "emulOther", inPlace := ["internal/bytealg.IndexByteString"], unfollowed := true, recurses := true, named := ["spyglass/utf.none", "spyglass/utf.wide"], apart := false, laid := [("spyglass/utf.none", laid_spyglass_utf_none), ("spyglass/utf.wide", laid_spyglass_utf_wide)] }
def EmulOtherSaid : Prop := emulOtherRow.holds Tryz.pinned (OpenSpec.ofChange emulOtherSpec)

/-- ITS FALSE NEIGHBOUR: 'it returns false'. Refute it at one input. -/
def emulOtherWrong : ChangeSpec := { name := "emulOther", fn := fun _ => fun
  | [d1, d2, d3, d4] => { results := [.lit (.bool false)], args := [d1, d2, d3, d4] }
  | _ => none }
def EmulOtherWrongFalsely : Prop := emulOtherRow.holds Tryz.pinned (OpenSpec.ofChange emulOtherWrong)

/-- 'spyglasslaw12.EmulPlays': WHATEVER THE INPUT: true; the input reads as it did. -/
def emulPlaysSpec : ChangeSpec := { name := "emulPlays", fn := fun _ => fun
  | [d1, d2, d3] => { results := [.lit (.bool true)], args := [d1, d2, d3] }
  | _ => none }
def emulPlaysRow : OpenClaim := { program := "ytnomaidopdgdbaagreatdoor", sum := "748ce7e9c07f818bfe4620078c353a2e44edb1fbfb67bb2b50c3996e1e7131ab", func := "spyglass/spyglasslaw12.EmulPlays", spec := "emulPlays", inPlace := ["internal/bytealg.IndexByteString"], unfollowed := true, recurses := true, named := ["spyglass/utf.none", "spyglass/utf.wide"], apart := false, laid := [("spyglass/utf.none", laid_spyglass_utf_none), ("spyglass/utf.wide", laid_spyglass_utf_wide)] }
def EmulPlaysSaid : Prop := emulPlaysRow.holds Tryz.pinned (OpenSpec.ofChange emulPlaysSpec)

/-- ITS FALSE NEIGHBOUR: 'it returns false'. Refute it at one input. -/
def emulPlaysWrong : ChangeSpec := { name := "emulPlays", fn := fun _ => fun
  | [d1, d2, d3] => { results := [.lit (.bool false)], args := [d1, d2, d3] }
  | _ => none }
def EmulPlaysWrongFalsely : Prop := emulPlaysRow.holds Tryz.pinned (OpenSpec.ofChange emulPlaysWrong)

/-- 'spyglasslaw12.EmulRight': WHATEVER THE INPUT: true; the input reads as it did. -/
def emulRightSpec : ChangeSpec := { name := "emulRight", fn := fun _ => fun
  | [d1, d2, d3] => { results := [.lit (.bool true)], args := [d1, d2, d3] }
  | _ => none }
def emulRightRow : OpenClaim := { program := "ytnomaidopdgdbaagreatdoor", sum := "748ce7e9c07f818bfe4620078c353a2e44edb1fbfb67bb2b50c3996e1e7131ab", func := "spyglass/spyglasslaw12.EmulRight", spec := "emulRight", inPlace := ["internal/bytealg.IndexByteString"], unfollowed := true, recurses := true, named := ["spyglass/utf.none", "spyglass/utf.wide"], apart := false, laid := [("spyglass/utf.none", laid_spyglass_utf_none), ("spyglass/utf.wide", laid_spyglass_utf_wide)] }
def EmulRightSaid : Prop := emulRightRow.holds Tryz.pinned (OpenSpec.ofChange emulRightSpec)

/-- ITS FALSE NEIGHBOUR: 'it returns false'. Refute it at one input. -/
def emulRightWrong : ChangeSpec := { name := "emulRight", fn := fun _ => fun
  | [d1, d2, d3] => { results := [.lit (.bool false)], args := [d1, d2, d3] }
  | _ => none }
def EmulRightWrongFalsely : Prop := emulRightRow.holds Tryz.pinned (OpenSpec.ofChange emulRightWrong)

/- THE SECOND FORM. 'bulk': how many values and letters a reading holds, each counted each time it is reached (what is shared counts as often as it is met; a slice's spare places count too). A statement '..UptoSaid' is the law's where the arguments, and the package variables that the reading takes, are together of bulk at most 1048576: NARROWER than '..Said'. Prove '..Said' where nothing that the law and all that it calls make is longer than what came in: it says more and counts as full. Else prove '..UptoSaid'. A law counts once. -/
mutual
def uptoBulk {H : Type} : DataW H → Nat
  | .lit (.string bytes) => bytes.length + 1
  | .lit _ => 1
  | .nil => 1
  | .ptr d => uptoBulk d + 1
  | .slice elems spare => uptoBulkAll elems + uptoBulkAll spare + 1
  | .agg parts => uptoBulkAll parts + 1
  | .iface _ d => uptoBulk d + 1
  | .map entries => uptoBulkEntries entries + 1
  | .held _ => 1
def uptoBulkAll {H : Type} : List (DataW H) → Nat
  | [] => 0
  | d :: r => uptoBulk d + uptoBulkAll r
def uptoBulkEntries {H : Type} : List (Lit × DataW H) → Nat
  | [] => 0
  | x :: r => uptoBulkEntry x + uptoBulkEntries r
def uptoBulkEntry {H : Type} : Lit × DataW H → Nat
  | (.string bytes, d) => bytes.length + uptoBulk d + 1
  | (_, d) => uptoBulk d + 1
 end
def uptoSmall : (H : Type) → List (DataW H) → Bool := fun _ ds => decide (uptoBulkAll ds ≤ 1048576)
def OpenSpec.upto (s : _root_.Go.ChangeSpec) : _root_.Go.OpenSpec := { _root_.Go.OpenSpec.ofChange s with cond := some uptoSmall }

/-- 'spyglasslaw12.EmulActs', WHERE WHAT IT READS IS OF BULK AT MOST 1048576: true; the input reads as it did. -/
def emulActsUptoRow : OpenClaim := { program := "ytnomaidopdgdbaagreatdoor", sum := "748ce7e9c07f818bfe4620078c353a2e44edb1fbfb67bb2b50c3996e1e7131ab", func := "spyglass/spyglasslaw12.EmulActs", spec := "emulActs", inPlace := ["internal/bytealg.IndexByteString"], unfollowed := true, recurses := true, named := ["spyglass/utf.none", "spyglass/utf.wide"], apart := false, laid := [("spyglass/utf.none", laid_spyglass_utf_none), ("spyglass/utf.wide", laid_spyglass_utf_wide)], narrowed := true }
def EmulActsUptoSaid : Prop := emulActsUptoRow.holds Tryz.pinned (OpenSpec.upto emulActsSpec)

/-- 'spyglasslaw12.EmulMay', WHERE WHAT IT READS IS OF BULK AT MOST 1048576: true; the input reads as it did. -/
def emulMayUptoRow : OpenClaim := { program := "ytnomaidopdgdbaagreatdoor", sum := "748ce7e9c07f818bfe4620078c353a2e44edb1fbfb67bb2b50c3996e1e7131ab", func := "spyglass/spyglasslaw12.EmulMay", spec := "emulMay", inPlace := ["internal/bytealg.IndexByteString"], unfollowed := true, recurses := true, named := ["spyglass/utf.none", "spyglass/utf.wide"], apart := false, laid := [("spyglass/utf.none", laid_spyglass_utf_none), ("spyglass/utf.wide", laid_spyglass_utf_wide)], narrowed := true }
def EmulMayUptoSaid : Prop := emulMayUptoRow.holds Tryz.pinned (OpenSpec.upto emulMaySpec)

/-- 'spyglasslaw12.EmulPieces', WHERE WHAT IT READS IS OF BULK AT MOST 1048576: true; the input reads as it did. -/
def emulPiecesUptoRow : OpenClaim := { program := "ytnomaidopdgdbaagreatdoor", sum := "748ce7e9c07f818bfe4620078c353a2e44edb1fbfb67bb2b50c3996e1e7131ab", func := "spyglass/spyglasslaw12.EmulPieces", spec := "emulPieces", inPlace := ["internal/bytealg.IndexByteString"], unfollowed := true, recurses := true, named := ["spyglass/utf.none", "spyglass/utf.wide"], apart := false, laid := [("spyglass/utf.none", laid_spyglass_utf_none), ("spyglass/utf.wide", laid_spyglass_utf_wide)], narrowed := true }
def EmulPiecesUptoSaid : Prop := emulPiecesUptoRow.holds Tryz.pinned (OpenSpec.upto emulPiecesSpec)

/-- 'spyglasslaw12.EmulText', WHERE WHAT IT READS IS OF BULK AT MOST 1048576: true; the input reads as it did. -/
def emulTextUptoRow : OpenClaim := { program := "ytnomaidopdgdbaagreatdoor", sum := "748ce7e9c07f818bfe4620078c353a2e44edb1fbfb67bb2b50c3996e1e7131ab", func := "spyglass/spyglasslaw12.EmulText", spec := "emulText", inPlace := ["internal/bytealg.IndexByteString"], unfollowed := true, recurses := true, named := ["spyglass/utf.none", "spyglass/utf.wide"], apart := false, laid := [("spyglass/utf.none", laid_spyglass_utf_none), ("spyglass/utf.wide", laid_spyglass_utf_wide)], narrowed := true }
def EmulTextUptoSaid : Prop := emulTextUptoRow.holds Tryz.pinned (OpenSpec.upto emulTextSpec)

/-- 'spyglasslaw12.EmulMargins', WHERE WHAT IT READS IS OF BULK AT MOST 1048576: true; the input reads as it did. -/
def emulMarginsUptoRow : OpenClaim := { program := "ytnomaidopdgdbaagreatdoor", sum := "748ce7e9c07f818bfe4620078c353a2e44edb1fbfb67bb2b50c3996e1e7131ab", func := "spyglass/spyglasslaw12.EmulMargins", spec := "emulMargins", inPlace := ["internal/bytealg.IndexByteString"], unfollowed := true, recurses := true, named := ["spyglass/utf.none", "spyglass/utf.wide"], apart := false, laid := [("spyglass/utf.none", laid_spyglass_utf_none), ("spyglass/utf.wide", laid_spyglass_utf_wide)], narrowed := true }
def EmulMarginsUptoSaid : Prop := emulMarginsUptoRow.holds Tryz.pinned (OpenSpec.upto emulMarginsSpec)

/-- 'spyglasslaw12.EmulOther', WHERE WHAT IT READS IS OF BULK AT MOST 1048576: true; the input reads as it did. -/
def emulOtherUptoRow : OpenClaim := { program := "ytnomaidopdgdbaagreatdoor", sum := "748ce7e9c07f818bfe4620078c353a2e44edb1fbfb67bb2b50c3996e1e7131ab", func := "spyglass/spyglasslaw12.EmulOther", spec := "emulOther", inPlace := ["internal/bytealg.IndexByteString"], unfollowed := true, recurses := true, named := ["spyglass/utf.none", "spyglass/utf.wide"], apart := false, laid := [("spyglass/utf.none", laid_spyglass_utf_none), ("spyglass/utf.wide", laid_spyglass_utf_wide)], narrowed := true }
def EmulOtherUptoSaid : Prop := emulOtherUptoRow.holds Tryz.pinned (OpenSpec.upto emulOtherSpec)

/-- 'spyglasslaw12.EmulPlays', WHERE WHAT IT READS IS OF BULK AT MOST 1048576: true; the input reads as it did. -/
def emulPlaysUptoRow : OpenClaim := { program := "ytnomaidopdgdbaagreatdoor", sum := "748ce7e9c07f818bfe4620078c353a2e44edb1fbfb67bb2b50c3996e1e7131ab", func := "spyglass/spyglasslaw12.EmulPlays", spec := "emulPlays", inPlace := ["internal/bytealg.IndexByteString"], unfollowed := true, recurses := true, named := ["spyglass/utf.none", "spyglass/utf.wide"], apart := false, laid := [("spyglass/utf.none", laid_spyglass_utf_none), ("spyglass/utf.wide", laid_spyglass_utf_wide)], narrowed := true }
def EmulPlaysUptoSaid : Prop := emulPlaysUptoRow.holds Tryz.pinned (OpenSpec.upto emulPlaysSpec)

/-- 'spyglasslaw12.EmulRight', WHERE WHAT IT READS IS OF BULK AT MOST 1048576: true; the input reads as it did. -/
def emulRightUptoRow : OpenClaim := { program := "ytnomaidopdgdbaagreatdoor", sum := "748ce7e9c07f818bfe4620078c353a2e44edb1fbfb67bb2b50c3996e1e7131ab", func := "spyglass/spyglasslaw12.EmulRight", spec := "emulRight", inPlace := ["internal/bytealg.IndexByteString"], unfollowed := true, recurses := true, named := ["spyglass/utf.none", "spyglass/utf.wide"], apart := false, laid := [("spyglass/utf.none", laid_spyglass_utf_none), ("spyglass/utf.wide", laid_spyglass_utf_wide)], narrowed := true }
def EmulRightUptoSaid : Prop := emulRightUptoRow.holds Tryz.pinned (OpenSpec.upto emulRightSpec)

end Rows
end Go.Proofs.YtnomaidopdgdbaaGreatDoor
