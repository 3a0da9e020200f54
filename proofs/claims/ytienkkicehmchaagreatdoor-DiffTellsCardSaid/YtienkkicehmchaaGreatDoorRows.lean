/-
  NARROWER THAN 'FOR EVERY INPUT', by the rows' own cells (each row's printed sentence says how): DiffTells: laid · DiffApplies: laid · DiffOnward: laid · DiffThere: laid · DiffAbove: laid.
  DERIVED. THE GIVEN ROWS OF THIS SEAT. 5 by the template 'for every input the law returns true; each argument reads behind the call as it read before'; 0 by the template 'total and deterministic' (their statements: YtienkkicehmchaaGreatDoorTotals.lean).
  GIVEN WITH THE SEED: the statements are not yours to turn. If you find one false, say at which input.
  Laid BY PROGRAM, IN A SANDBOX (cutbox-rows.mjs): the forced cells as the released guide's own fill.sh prints them over the translation 051cee8970bec953… (all of the seat's roots in one cut). By AI agents, Wed Nov 11 2026. No macro, syntax, notation, axiom, sorry.
-/
import Derived.Test.YtienkkicehmchaaGreatDoorChecked
import GoSem.Claim
import GoSem.ClaimJoined
import GoSem.ClaimMapViews
import Derived.JoinedTies
import Derived.KernelRfl
namespace Go.Proofs.YtienkkicehmchaaGreatDoor
/- THE CELL 'sum', in the pinned program and in every row, IS THE sha256 OF THE DUMP (.gsa) THAT YtienkkicehmchaaGreatDoorProg.lean LOADS. Nothing in Lean hashes anything: it is a label: what it is worth is what the hold of that sum in a sandbox is worth. -/
noncomputable def Tryz.pinned : Pinned := { name := "ytienkkicehmchaagreatdoor", sum := "051cee8970bec95341c677f47771a90e89699504da49f41e81797a06a9a36c8f", checked := Tryz.checked }
namespace Rows
def none {H : Type} : Left H := { results := [], args := [] }

/- WHAT THE LISTED PACKAGE-LEVEL VARIABLES READ AS WHEN THE CALL BEGINS. Each datum BY PROGRAM (the guide's laid-datum.mjs) off the statement by which the dump's own 'gosem.cut.vars' lays the variable. In a bare row this is a premise. The card (YtienkkicehmchaaGreatDoorCards.lean) ties it to the program's text. -/
def laid_spyglass_utf_none {H : Type} : DataW H := .agg [.agg [.lit (.int .i32 768), .lit (.int .i32 879)], .agg [.lit (.int .i32 8203), .lit (.int .i32 8207)], .agg [.lit (.int .i32 65024), .lit (.int .i32 65039)]]
def laid_spyglass_utf_wide {H : Type} : DataW H := .agg [.agg [.lit (.int .i32 4352), .lit (.int .i32 4447)], .agg [.lit (.int .i32 11904), .lit (.int .i32 12350)], .agg [.lit (.int .i32 12353), .lit (.int .i32 42191)], .agg [.lit (.int .i32 44032), .lit (.int .i32 55203)], .agg [.lit (.int .i32 63744), .lit (.int .i32 64255)], .agg [.lit (.int .i32 65072), .lit (.int .i32 65135)], .agg [.lit (.int .i32 65280), .lit (.int .i32 65376)], .agg [.lit (.int .i32 65504), .lit (.int .i32 65510)], .agg [.lit (.int .i32 127744), .lit (.int .i32 128591)], .agg [.lit (.int .i32 131072), .lit (.int .i32 262141)]]
def laid_spyglass_color_first {H : Type} : DataW H := .agg [.agg [.lit (.int .u8 0), .lit (.int .u8 0), .lit (.int .u8 0)], .agg [.lit (.int .u8 205), .lit (.int .u8 0), .lit (.int .u8 0)], .agg [.lit (.int .u8 0), .lit (.int .u8 205), .lit (.int .u8 0)], .agg [.lit (.int .u8 205), .lit (.int .u8 205), .lit (.int .u8 0)], .agg [.lit (.int .u8 0), .lit (.int .u8 0), .lit (.int .u8 238)], .agg [.lit (.int .u8 205), .lit (.int .u8 0), .lit (.int .u8 205)], .agg [.lit (.int .u8 0), .lit (.int .u8 205), .lit (.int .u8 205)], .agg [.lit (.int .u8 229), .lit (.int .u8 229), .lit (.int .u8 229)], .agg [.lit (.int .u8 127), .lit (.int .u8 127), .lit (.int .u8 127)], .agg [.lit (.int .u8 255), .lit (.int .u8 0), .lit (.int .u8 0)], .agg [.lit (.int .u8 0), .lit (.int .u8 255), .lit (.int .u8 0)], .agg [.lit (.int .u8 255), .lit (.int .u8 255), .lit (.int .u8 0)], .agg [.lit (.int .u8 92), .lit (.int .u8 92), .lit (.int .u8 255)], .agg [.lit (.int .u8 255), .lit (.int .u8 0), .lit (.int .u8 255)], .agg [.lit (.int .u8 0), .lit (.int .u8 255), .lit (.int .u8 255)], .agg [.lit (.int .u8 255), .lit (.int .u8 255), .lit (.int .u8 255)]]
def laid_spyglass_color_levels {H : Type} : DataW H := .agg [.lit (.int .i64 0), .lit (.int .i64 95), .lit (.int .i64 135), .lit (.int .i64 175), .lit (.int .i64 215), .lit (.int .i64 255)]

/-- 'spyglasslaw19.DiffTells': WHATEVER THE INPUT: true; the input reads as it did. -/
def diffTellsSpec : ChangeSpec := { name := "diffTells", fn := fun _ => fun
  | [d1, d2, d3] => { results := [.lit (.bool true)], args := [d1, d2, d3] }
  | _ => none }
def diffTellsRow : OpenClaim := { program := "ytienkkicehmchaagreatdoor", sum := "051cee8970bec95341c677f47771a90e89699504da49f41e81797a06a9a36c8f", func := "spyglass/spyglasslaw19.DiffTells", spec := "diffTells", unfollowed := true, recurses := true, named := ["spyglass/utf.none", "spyglass/utf.wide"], apart := false, laid := [("spyglass/utf.none", laid_spyglass_utf_none), ("spyglass/utf.wide", laid_spyglass_utf_wide)] }
def DiffTellsSaid : Prop := diffTellsRow.holds Tryz.pinned (OpenSpec.ofChange diffTellsSpec)

/-- ITS FALSE NEIGHBOUR: 'it returns false'. Refute it at one input. -/
def diffTellsWrong : ChangeSpec := { name := "diffTells", fn := fun _ => fun
  | [d1, d2, d3] => { results := [.lit (.bool false)], args := [d1, d2, d3] }
  | _ => none }
def DiffTellsWrongFalsely : Prop := diffTellsRow.holds Tryz.pinned (OpenSpec.ofChange diffTellsWrong)

/-- 'spyglasslaw19.DiffApplies': WHATEVER THE INPUT: true; the input reads as it did. -/
def diffAppliesSpec : ChangeSpec := { name := "diffApplies", fn := fun _ => fun
  | [d1, d2, d3] => { results := [.lit (.bool true)], args := [d1, d2, d3] }
  | _ => none }
def diffAppliesRow : OpenClaim := { program := "ytienkkicehmchaagreatdoor", sum := "051cee8970bec95341c677f47771a90e89699504da49f41e81797a06a9a36c8f", func := "spyglass/spyglasslaw19.DiffApplies", spec := "diffApplies", unfollowed := true, recurses := true, named := ["spyglass/utf.none", "spyglass/utf.wide"], apart := false, laid := [("spyglass/utf.none", laid_spyglass_utf_none), ("spyglass/utf.wide", laid_spyglass_utf_wide)] }
def DiffAppliesSaid : Prop := diffAppliesRow.holds Tryz.pinned (OpenSpec.ofChange diffAppliesSpec)

/-- ITS FALSE NEIGHBOUR: 'it returns false'. Refute it at one input. -/
def diffAppliesWrong : ChangeSpec := { name := "diffApplies", fn := fun _ => fun
  | [d1, d2, d3] => { results := [.lit (.bool false)], args := [d1, d2, d3] }
  | _ => none }
def DiffAppliesWrongFalsely : Prop := diffAppliesRow.holds Tryz.pinned (OpenSpec.ofChange diffAppliesWrong)

/-- 'spyglasslaw19.DiffOnward': WHATEVER THE INPUT: true; the input reads as it did. -/
def diffOnwardSpec : ChangeSpec := { name := "diffOnward", fn := fun _ => fun
  | [d1, d2, d3, d4] => { results := [.lit (.bool true)], args := [d1, d2, d3, d4] }
  | _ => none }
def diffOnwardRow : OpenClaim := { program := "ytienkkicehmchaagreatdoor", sum := "051cee8970bec95341c677f47771a90e89699504da49f41e81797a06a9a36c8f", func := "spyglass/spyglasslaw19.DiffOnward", spec := "diffOnward", unfollowed := true, recurses := true, named := ["spyglass/utf.none", "spyglass/utf.wide"], apart := false, laid := [("spyglass/utf.none", laid_spyglass_utf_none), ("spyglass/utf.wide", laid_spyglass_utf_wide)] }
def DiffOnwardSaid : Prop := diffOnwardRow.holds Tryz.pinned (OpenSpec.ofChange diffOnwardSpec)

/-- ITS FALSE NEIGHBOUR: 'it returns false'. Refute it at one input. -/
def diffOnwardWrong : ChangeSpec := { name := "diffOnward", fn := fun _ => fun
  | [d1, d2, d3, d4] => { results := [.lit (.bool false)], args := [d1, d2, d3, d4] }
  | _ => none }
def DiffOnwardWrongFalsely : Prop := diffOnwardRow.holds Tryz.pinned (OpenSpec.ofChange diffOnwardWrong)

/-- 'spyglasslaw19.DiffThere': WHATEVER THE INPUT: true; the input reads as it did. -/
def diffThereSpec : ChangeSpec := { name := "diffThere", fn := fun _ => fun
  | [d1, d2, d3] => { results := [.lit (.bool true)], args := [d1, d2, d3] }
  | _ => none }
def diffThereRow : OpenClaim := { program := "ytienkkicehmchaagreatdoor", sum := "051cee8970bec95341c677f47771a90e89699504da49f41e81797a06a9a36c8f", func := "spyglass/spyglasslaw19.DiffThere", spec := "diffThere", unfollowed := true, recurses := true, named := ["spyglass/utf.none", "spyglass/utf.wide"], apart := false, laid := [("spyglass/utf.none", laid_spyglass_utf_none), ("spyglass/utf.wide", laid_spyglass_utf_wide)] }
def DiffThereSaid : Prop := diffThereRow.holds Tryz.pinned (OpenSpec.ofChange diffThereSpec)

/-- ITS FALSE NEIGHBOUR: 'it returns false'. Refute it at one input. -/
def diffThereWrong : ChangeSpec := { name := "diffThere", fn := fun _ => fun
  | [d1, d2, d3] => { results := [.lit (.bool false)], args := [d1, d2, d3] }
  | _ => none }
def DiffThereWrongFalsely : Prop := diffThereRow.holds Tryz.pinned (OpenSpec.ofChange diffThereWrong)

/-- 'spyglasslaw19.DiffAbove': WHATEVER THE INPUT: true; the input reads as it did. -/
def diffAboveSpec : ChangeSpec := { name := "diffAbove", fn := fun _ => fun
  | [d1, d2, d3] => { results := [.lit (.bool true)], args := [d1, d2, d3] }
  | _ => none }
def diffAboveRow : OpenClaim := { program := "ytienkkicehmchaagreatdoor", sum := "051cee8970bec95341c677f47771a90e89699504da49f41e81797a06a9a36c8f", func := "spyglass/spyglasslaw19.DiffAbove", spec := "diffAbove", unfollowed := true, recurses := true, named := ["spyglass/utf.none", "spyglass/utf.wide", "spyglass/color.first", "spyglass/color.levels"], apart := false, laid := [("spyglass/utf.none", laid_spyglass_utf_none), ("spyglass/utf.wide", laid_spyglass_utf_wide), ("spyglass/color.first", laid_spyglass_color_first), ("spyglass/color.levels", laid_spyglass_color_levels)] }
def DiffAboveSaid : Prop := diffAboveRow.holds Tryz.pinned (OpenSpec.ofChange diffAboveSpec)

/-- ITS FALSE NEIGHBOUR: 'it returns false'. Refute it at one input. -/
def diffAboveWrong : ChangeSpec := { name := "diffAbove", fn := fun _ => fun
  | [d1, d2, d3] => { results := [.lit (.bool false)], args := [d1, d2, d3] }
  | _ => none }
def DiffAboveWrongFalsely : Prop := diffAboveRow.holds Tryz.pinned (OpenSpec.ofChange diffAboveWrong)

/- THE SECOND FORM. 'bulk': how many values and letters a reading holds, each counted each time it is reached (what is shared counts as often as it is met; a slice's spare places count too). A statement '..UptoSaid' is the law's where the arguments, and the package variables that the reading takes, are together of bulk at most 1048576: NARROWER than '..Said'. Prove '..Said' where nothing that the law and all that it calls make is longer than what came in: it says more and counts as full. Else prove '..UptoSaid'. A law counts once. -/
mutual
def uptoBulk {H : Type} : DataW H → Nat
  | .lit (.string bytes) => bytes.length + 1
  | .lit _ => 1
  | .nil => 1
  | .ptr d => uptoBulk d + 1
  | .slice elems spare => uptoBulkAll elems + uptoBulkAll spare + 1
  | .agg parts => uptoBulkAll parts + 1
  | .iface _ d => uptoBulk d + 1
  | .map entries => uptoBulkEntries entries + 1
  | .held _ => 1
def uptoBulkAll {H : Type} : List (DataW H) → Nat
  | [] => 0
  | d :: r => uptoBulk d + uptoBulkAll r
def uptoBulkEntries {H : Type} : List (Lit × DataW H) → Nat
  | [] => 0
  | x :: r => uptoBulkEntry x + uptoBulkEntries r
def uptoBulkEntry {H : Type} : Lit × DataW H → Nat
  | (.string bytes, d) => bytes.length + uptoBulk d + 1
  | (_, d) => uptoBulk d + 1
 end
def uptoSmall : (H : Type) → List (DataW H) → Bool := fun _ ds => decide (uptoBulkAll ds ≤ 1048576)
def OpenSpec.upto (s : _root_.Go.ChangeSpec) : _root_.Go.OpenSpec := { _root_.Go.OpenSpec.ofChange s with cond := some uptoSmall }

/-- 'spyglasslaw19.DiffTells', WHERE WHAT IT READS IS OF BULK AT MOST 1048576: true; the input reads as it did. -/
def diffTellsUptoRow : OpenClaim := { program := "ytienkkicehmchaagreatdoor", sum := "051cee8970bec95341c677f47771a90e89699504da49f41e81797a06a9a36c8f", func := "spyglass/spyglasslaw19.DiffTells", spec := "diffTells", unfollowed := true, recurses := true, named := ["spyglass/utf.none", "spyglass/utf.wide"], apart := false, laid := [("spyglass/utf.none", laid_spyglass_utf_none), ("spyglass/utf.wide", laid_spyglass_utf_wide)], narrowed := true }
def DiffTellsUptoSaid : Prop := diffTellsUptoRow.holds Tryz.pinned (OpenSpec.upto diffTellsSpec)

/-- 'spyglasslaw19.DiffApplies', WHERE WHAT IT READS IS OF BULK AT MOST 1048576: true; the input reads as it did. -/
def diffAppliesUptoRow : OpenClaim := { program := "ytienkkicehmchaagreatdoor", sum := "051cee8970bec95341c677f47771a90e89699504da49f41e81797a06a9a36c8f", func := "spyglass/spyglasslaw19.DiffApplies", spec := "diffApplies", unfollowed := true, recurses := true, named := ["spyglass/utf.none", "spyglass/utf.wide"], apart := false, laid := [("spyglass/utf.none", laid_spyglass_utf_none), ("spyglass/utf.wide", laid_spyglass_utf_wide)], narrowed := true }
def DiffAppliesUptoSaid : Prop := diffAppliesUptoRow.holds Tryz.pinned (OpenSpec.upto diffAppliesSpec)

/-- 'spyglasslaw19.DiffOnward', WHERE WHAT IT READS IS OF BULK AT MOST 1048576: true; the input reads as it did. -/
def diffOnwardUptoRow : OpenClaim := { program := "ytienkkicehmchaagreatdoor", sum := "051cee8970bec95341c677f47771a90e89699504da49f41e81797a06a9a36c8f", func := "spyglass/spyglasslaw19.DiffOnward", spec := "diffOnward", unfollowed := true, recurses := true, named := ["spyglass/utf.none", "spyglass/utf.wide"], apart := false, laid := [("spyglass/utf.none", laid_spyglass_utf_none), ("spyglass/utf.wide", laid_spyglass_utf_wide)], narrowed := true }
def DiffOnwardUptoSaid : Prop := diffOnwardUptoRow.holds Tryz.pinned (OpenSpec.upto diffOnwardSpec)

/-- 'spyglasslaw19.DiffThere', WHERE WHAT IT READS IS OF BULK AT MOST 1048576: true; the input reads as it did. -/
def diffThereUptoRow : OpenClaim := { program := "ytienkkicehmchaagreatdoor", sum := "051cee8970bec95341c677f47771a90e89699504da49f41e81797a06a9a36c8f", func := "spyglass/spyglasslaw19.DiffThere", spec := "diffThere", unfollowed := true, recurses := true, named := ["spyglass/utf.none", "spyglass/utf.wide"], apart := false, laid := [("spyglass/utf.none", laid_spyglass_utf_none), ("spyglass/utf.wide", laid_spyglass_utf_wide)], narrowed := true }
def DiffThereUptoSaid : Prop := diffThereUptoRow.holds Tryz.pinned (OpenSpec.upto diffThereSpec)

/-- 'spyglasslaw19.DiffAbove', WHERE WHAT IT READS IS OF BULK AT MOST 1048576: true; the input reads as it did. -/
def diffAboveUptoRow : OpenClaim := { program := "ytienkkicehmchaagreatdoor", sum := "051cee8970bec95341c677f47771a90e89699504da49f41e81797a06a9a36c8f", func := "spyglass/spyglasslaw19.DiffAbove", spec := "diffAbove", unfollowed := true, recurses := true, named := ["spyglass/utf.none", "spyglass/utf.wide", "spyglass/color.first", "spyglass/color.levels"], apart := false, laid := [("spyglass/utf.none", laid_spyglass_utf_none), ("spyglass/utf.wide", laid_spyglass_utf_wide), ("spyglass/color.first", laid_spyglass_color_first), ("spyglass/color.levels", laid_spyglass_color_levels)], narrowed := true }
def DiffAboveUptoSaid : Prop := diffAboveUptoRow.holds Tryz.pinned (OpenSpec.upto diffAboveSpec)

end Rows
end Go.Proofs.YtienkkicehmchaaGreatDoor
