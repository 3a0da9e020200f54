/-
  No cell of these rows narrows 'for every input' (looked for: loops, veiled, ifaces, maps, wideKeys, modest, calm, conditions, laid).
  DERIVED. THE GIVEN ROWS OF THIS SEAT. 4 by the template 'for every input the law returns true; each argument reads behind the call as it read before'; 0 by the template 'total and deterministic' (their statements: YtkodmoeohffjhaaTotals.lean).
  GIVEN WITH THE SEED: the statements are not yours to turn. If you find one false, say at which input.
  Laid BY PROGRAM, IN A SANDBOX (cutbox-rows.mjs): the forced cells as the released guide's own fill.sh prints them over the translation d7718ed0e7a5d462… (all of the seat's roots in one cut). By AI agents, Wed Nov 11 2026. No macro, syntax, notation, axiom, sorry.
-/
import Derived.Test.YtkodmoeohffjhaaChecked
import GoSem.Claim
import GoSem.ClaimJoined
import GoSem.ClaimMapViews
import Derived.JoinedTies
import Derived.KernelRfl
namespace Go.Proofs.Ytkodmoeohffjhaa
/- THE CELL 'sum', in the pinned program and in every row, IS THE sha256 OF THE DUMP (.gsa) THAT YtkodmoeohffjhaaProg.lean LOADS. Nothing in Lean hashes anything: it is a label: what it is worth is what the hold of that sum in a sandbox is worth. -/
noncomputable def Try.pinned : Pinned := { name := "ytkodmoeohffjhaa", sum := "d7718ed0e7a5d462e6b310a25e7210bee088d829b7091cbb857d921b6281df5d", checked := Try.checked }
namespace Rows
def none {H : Type} : Left H := { results := [], args := [] }

/-- 'spyglasslaw26.RoadAll': WHATEVER THE INPUT: true; the input reads as it did. -/
def roadAllSpec : ChangeSpec := { name := "roadAll", fn := fun _ => fun
  | [d] => { results := [.lit (.bool true)], args := [d] }
  | _ => none }
def roadAllRow : OpenClaim := { program := "ytkodmoeohffjhaa", sum := "d7718ed0e7a5d462e6b310a25e7210bee088d829b7091cbb857d921b6281df5d", func := "spyglass/spyglasslaw26.RoadAll", spec := "roadAll", unfollowed := true, recurses := true, apart := false }
def RoadAllSaid : Prop := roadAllRow.holds Try.pinned (OpenSpec.ofChange roadAllSpec)

/-- ITS FALSE NEIGHBOUR: 'it returns false'. Refute it at one input. -/
def roadAllWrong : ChangeSpec := { name := "roadAll", fn := fun _ => fun
  | [d] => { results := [.lit (.bool false)], args := [d] }
  | _ => none }
def RoadAllWrongFalsely : Prop := roadAllRow.holds Try.pinned (OpenSpec.ofChange roadAllWrong)

/-- 'spyglasslaw26.RoadFull': WHATEVER THE INPUT: true; the input reads as it did. -/
def roadFullSpec : ChangeSpec := { name := "roadFull", fn := fun _ => fun
  | [d] => { results := [.lit (.bool true)], args := [d] }
  | _ => none }
def roadFullRow : OpenClaim := { program := "ytkodmoeohffjhaa", sum := "d7718ed0e7a5d462e6b310a25e7210bee088d829b7091cbb857d921b6281df5d", func := "spyglass/spyglasslaw26.RoadFull", spec := "roadFull", unfollowed := true, recurses := true, apart := false }
def RoadFullSaid : Prop := roadFullRow.holds Try.pinned (OpenSpec.ofChange roadFullSpec)

/-- ITS FALSE NEIGHBOUR: 'it returns false'. Refute it at one input. -/
def roadFullWrong : ChangeSpec := { name := "roadFull", fn := fun _ => fun
  | [d] => { results := [.lit (.bool false)], args := [d] }
  | _ => none }
def RoadFullWrongFalsely : Prop := roadFullRow.holds Try.pinned (OpenSpec.ofChange roadFullWrong)

/-- 'spyglasslaw26.RoadPlays': WHATEVER THE INPUT: true; the input reads as it did. -/
def roadPlaysSpec : ChangeSpec := { name := "roadPlays", fn := fun _ => fun
  | [d] => { results := [.lit (.bool true)], args := [d] }
  | _ => none }
def roadPlaysRow : OpenClaim := { program := "ytkodmoeohffjhaa", sum := "d7718ed0e7a5d462e6b310a25e7210bee088d829b7091cbb857d921b6281df5d", func := "spyglass/spyglasslaw26.RoadPlays", spec := "roadPlays", unfollowed := true, recurses := true, apart := false }
def RoadPlaysSaid : Prop := roadPlaysRow.holds Try.pinned (OpenSpec.ofChange roadPlaysSpec)

/-- ITS FALSE NEIGHBOUR: 'it returns false'. Refute it at one input. -/
def roadPlaysWrong : ChangeSpec := { name := "roadPlays", fn := fun _ => fun
  | [d] => { results := [.lit (.bool false)], args := [d] }
  | _ => none }
def RoadPlaysWrongFalsely : Prop := roadPlaysRow.holds Try.pinned (OpenSpec.ofChange roadPlaysWrong)

/-- 'spyglasslaw26.RoadNil': WHATEVER THE INPUT: true; the input reads as it did. -/
def roadNilSpec : ChangeSpec := { name := "roadNil", fn := fun _ => fun
  | [d1, d2, d3] => { results := [.lit (.bool true)], args := [d1, d2, d3] }
  | _ => none }
def roadNilRow : OpenClaim := { program := "ytkodmoeohffjhaa", sum := "d7718ed0e7a5d462e6b310a25e7210bee088d829b7091cbb857d921b6281df5d", func := "spyglass/spyglasslaw26.RoadNil", spec := "roadNil", unfollowed := true, recurses := true, apart := false }
def RoadNilSaid : Prop := roadNilRow.holds Try.pinned (OpenSpec.ofChange roadNilSpec)

/-- ITS FALSE NEIGHBOUR: 'it returns false'. Refute it at one input. -/
def roadNilWrong : ChangeSpec := { name := "roadNil", fn := fun _ => fun
  | [d1, d2, d3] => { results := [.lit (.bool false)], args := [d1, d2, d3] }
  | _ => none }
def RoadNilWrongFalsely : Prop := roadNilRow.holds Try.pinned (OpenSpec.ofChange roadNilWrong)

/- THE SECOND FORM. 'bulk': how many values and letters a reading holds, each counted each time it is reached (what is shared counts as often as it is met; a slice's spare places count too). A statement '..UptoSaid' is the law's where the arguments, and the package variables that the reading takes, are together of bulk at most 1048576: NARROWER than '..Said'. Prove '..Said' where nothing that the law and all that it calls make is longer than what came in: it says more and counts as full. Else prove '..UptoSaid'. A law counts once. -/
mutual
def uptoBulk {H : Type} : DataW H → Nat
  | .lit (.string bytes) => bytes.length + 1
  | .lit _ => 1
  | .nil => 1
  | .ptr d => uptoBulk d + 1
  | .slice elems spare => uptoBulkAll elems + uptoBulkAll spare + 1
  | .agg parts => uptoBulkAll parts + 1
  | .iface _ d => uptoBulk d + 1
  | .map entries => uptoBulkEntries entries + 1
  | .held _ => 1
def uptoBulkAll {H : Type} : List (DataW H) → Nat
  | [] => 0
  | d :: r => uptoBulk d + uptoBulkAll r
def uptoBulkEntries {H : Type} : List (Lit × DataW H) → Nat
  | [] => 0
  | x :: r => uptoBulkEntry x + uptoBulkEntries r
def uptoBulkEntry {H : Type} : Lit × DataW H → Nat
  | (.string bytes, d) => bytes.length + uptoBulk d + 1
  | (_, d) => uptoBulk d + 1
 end
def uptoSmall : (H : Type) → List (DataW H) → Bool := fun _ ds => decide (uptoBulkAll ds ≤ 1048576)
def OpenSpec.upto (s : _root_.Go.ChangeSpec) : _root_.Go.OpenSpec := { _root_.Go.OpenSpec.ofChange s with cond := some uptoSmall }

/-- 'spyglasslaw26.RoadAll', WHERE WHAT IT READS IS OF BULK AT MOST 1048576: true; the input reads as it did. -/
def roadAllUptoRow : OpenClaim := { program := "ytkodmoeohffjhaa", sum := "d7718ed0e7a5d462e6b310a25e7210bee088d829b7091cbb857d921b6281df5d", func := "spyglass/spyglasslaw26.RoadAll", spec := "roadAll", unfollowed := true, recurses := true, apart := false, narrowed := true }
def RoadAllUptoSaid : Prop := roadAllUptoRow.holds Try.pinned (OpenSpec.upto roadAllSpec)

/-- 'spyglasslaw26.RoadFull', WHERE WHAT IT READS IS OF BULK AT MOST 1048576: true; the input reads as it did. -/
def roadFullUptoRow : OpenClaim := { program := "ytkodmoeohffjhaa", sum := "d7718ed0e7a5d462e6b310a25e7210bee088d829b7091cbb857d921b6281df5d", func := "spyglass/spyglasslaw26.RoadFull", spec := "roadFull", unfollowed := true, recurses := true, apart := false, narrowed := true }
def RoadFullUptoSaid : Prop := roadFullUptoRow.holds Try.pinned (OpenSpec.upto roadFullSpec)

/-- 'spyglasslaw26.RoadPlays', WHERE WHAT IT READS IS OF BULK AT MOST 1048576: true; the input reads as it did. -/
def roadPlaysUptoRow : OpenClaim := { program := "ytkodmoeohffjhaa", sum := "d7718ed0e7a5d462e6b310a25e7210bee088d829b7091cbb857d921b6281df5d", func := "spyglass/spyglasslaw26.RoadPlays", spec := "roadPlays", unfollowed := true, recurses := true, apart := false, narrowed := true }
def RoadPlaysUptoSaid : Prop := roadPlaysUptoRow.holds Try.pinned (OpenSpec.upto roadPlaysSpec)

/-- 'spyglasslaw26.RoadNil', WHERE WHAT IT READS IS OF BULK AT MOST 1048576: true; the input reads as it did. -/
def roadNilUptoRow : OpenClaim := { program := "ytkodmoeohffjhaa", sum := "d7718ed0e7a5d462e6b310a25e7210bee088d829b7091cbb857d921b6281df5d", func := "spyglass/spyglasslaw26.RoadNil", spec := "roadNil", unfollowed := true, recurses := true, apart := false, narrowed := true }
def RoadNilUptoSaid : Prop := roadNilUptoRow.holds Try.pinned (OpenSpec.upto roadNilSpec)

end Rows
end Go.Proofs.Ytkodmoeohffjhaa
