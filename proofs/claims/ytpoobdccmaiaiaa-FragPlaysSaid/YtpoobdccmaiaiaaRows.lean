/-
  No cell of these rows narrows 'for every input' (looked for: loops, veiled, ifaces, maps, wideKeys, modest, calm, conditions, laid).
  DERIVED. THE GIVEN ROWS OF THIS SEAT. 4 by the template 'for every input the law returns true; each argument reads behind the call as it read before'; 0 by the template 'total and deterministic' (their statements: YtpoobdccmaiaiaaTotals.lean).
  GIVEN WITH THE SEED: the statements are not yours to turn. If you find one false, say at which input.
  Laid BY PROGRAM, IN A SANDBOX (cutbox-rows.mjs): the forced cells as the released guide's own fill.sh prints them over the translation f8e3f5dfcf14a69f… (all of the seat's roots in one cut). By AI agents, Wed Nov 11 2026. No macro, syntax, notation, axiom, sorry.
-/
import Derived.Test.YtpoobdccmaiaiaaChecked
import GoSem.Claim
import GoSem.ClaimJoined
import GoSem.ClaimMapViews
import Derived.JoinedTies
import Derived.KernelRfl
namespace Go.Proofs.Ytpoobdccmaiaiaa
/- THE CELL 'sum', in the pinned program and in every row, IS THE sha256 OF THE DUMP (.gsa) THAT YtpoobdccmaiaiaaProg.lean LOADS. Nothing in Lean hashes anything: it is a label: what it is worth is what the hold of that sum in a sandbox is worth. -/
noncomputable def Try.pinned : Pinned := { name := "ytpoobdccmaiaiaa", sum := "f8e3f5dfcf14a69fe0fb7f2924c6fea94ce4e5e802e087de55875e4e1040772f", checked := Try.checked }
namespace Rows
def none {H : Type} : Left H := { results := [], args := [] }

/-- 'spyglasslaw20.FragSplits': WHATEVER THE INPUT: true; the input reads as it did. -/
def fragSplitsSpec : ChangeSpec := { name := "fragSplits", fn := fun _ => fun
  | [d1, d2, d3] => { results := [.lit (.bool true)], args := [d1, d2, d3] }
  | _ => none }
def fragSplitsRow : OpenClaim := { program := "ytpoobdccmaiaiaa", sum := "f8e3f5dfcf14a69fe0fb7f2924c6fea94ce4e5e802e087de55875e4e1040772f", func := "spyglass/spyglasslaw20.FragSplits", spec := "fragSplits", apart := false }
def FragSplitsSaid : Prop := fragSplitsRow.holds Try.pinned (OpenSpec.ofChange fragSplitsSpec)

/-- ITS FALSE NEIGHBOUR: 'it returns false'. Refute it at one input. -/
def fragSplitsWrong : ChangeSpec := { name := "fragSplits", fn := fun _ => fun
  | [d1, d2, d3] => { results := [.lit (.bool false)], args := [d1, d2, d3] }
  | _ => none }
def FragSplitsWrongFalsely : Prop := fragSplitsRow.holds Try.pinned (OpenSpec.ofChange fragSplitsWrong)

/-- 'spyglasslaw20.FragPlays': WHATEVER THE INPUT: true; the input reads as it did. -/
def fragPlaysSpec : ChangeSpec := { name := "fragPlays", fn := fun _ => fun
  | [d] => { results := [.lit (.bool true)], args := [d] }
  | _ => none }
def fragPlaysRow : OpenClaim := { program := "ytpoobdccmaiaiaa", sum := "f8e3f5dfcf14a69fe0fb7f2924c6fea94ce4e5e802e087de55875e4e1040772f", func := "spyglass/spyglasslaw20.FragPlays", spec := "fragPlays", apart := false }
def FragPlaysSaid : Prop := fragPlaysRow.holds Try.pinned (OpenSpec.ofChange fragPlaysSpec)

/-- ITS FALSE NEIGHBOUR: 'it returns false'. Refute it at one input. -/
def fragPlaysWrong : ChangeSpec := { name := "fragPlays", fn := fun _ => fun
  | [d] => { results := [.lit (.bool false)], args := [d] }
  | _ => none }
def FragPlaysWrongFalsely : Prop := fragPlaysRow.holds Try.pinned (OpenSpec.ofChange fragPlaysWrong)

/-- 'spyglasslaw20.FragBack': WHATEVER THE INPUT: true; the input reads as it did. -/
def fragBackSpec : ChangeSpec := { name := "fragBack", fn := fun _ => fun
  | [d1, d2, d3] => { results := [.lit (.bool true)], args := [d1, d2, d3] }
  | _ => none }
def fragBackRow : OpenClaim := { program := "ytpoobdccmaiaiaa", sum := "f8e3f5dfcf14a69fe0fb7f2924c6fea94ce4e5e802e087de55875e4e1040772f", func := "spyglass/spyglasslaw20.FragBack", spec := "fragBack", apart := false }
def FragBackSaid : Prop := fragBackRow.holds Try.pinned (OpenSpec.ofChange fragBackSpec)

/-- ITS FALSE NEIGHBOUR: 'it returns false'. Refute it at one input. -/
def fragBackWrong : ChangeSpec := { name := "fragBack", fn := fun _ => fun
  | [d1, d2, d3] => { results := [.lit (.bool false)], args := [d1, d2, d3] }
  | _ => none }
def FragBackWrongFalsely : Prop := fragBackRow.holds Try.pinned (OpenSpec.ofChange fragBackWrong)

/-- 'spyglasslaw20.FragNewest': WHATEVER THE INPUT: true; the input reads as it did. -/
def fragNewestSpec : ChangeSpec := { name := "fragNewest", fn := fun _ => fun
  | [d1, d2, d3, d4] => { results := [.lit (.bool true)], args := [d1, d2, d3, d4] }
  | _ => none }
def fragNewestRow : OpenClaim := { program := "ytpoobdccmaiaiaa", sum := "f8e3f5dfcf14a69fe0fb7f2924c6fea94ce4e5e802e087de55875e4e1040772f", func := "spyglass/spyglasslaw20.FragNewest", spec := "fragNewest", apart := false }
def FragNewestSaid : Prop := fragNewestRow.holds Try.pinned (OpenSpec.ofChange fragNewestSpec)

/-- ITS FALSE NEIGHBOUR: 'it returns false'. Refute it at one input. -/
def fragNewestWrong : ChangeSpec := { name := "fragNewest", fn := fun _ => fun
  | [d1, d2, d3, d4] => { results := [.lit (.bool false)], args := [d1, d2, d3, d4] }
  | _ => none }
def FragNewestWrongFalsely : Prop := fragNewestRow.holds Try.pinned (OpenSpec.ofChange fragNewestWrong)

/- THE SECOND FORM. 'bulk': how many values and letters a reading holds, each counted each time it is reached (what is shared counts as often as it is met; a slice's spare places count too). A statement '..UptoSaid' is the law's where the arguments, and the package variables that the reading takes, are together of bulk at most 1048576: NARROWER than '..Said'. Prove '..Said' where nothing that the law and all that it calls make is longer than what came in: it says more and counts as full. Else prove '..UptoSaid'. A law counts once. -/
mutual
def uptoBulk {H : Type} : DataW H → Nat
  | .lit (.string bytes) => bytes.length + 1
  | .lit _ => 1
  | .nil => 1
  | .ptr d => uptoBulk d + 1
  | .slice elems spare => uptoBulkAll elems + uptoBulkAll spare + 1
  | .agg parts => uptoBulkAll parts + 1
  | .iface _ d => uptoBulk d + 1
  | .map entries => uptoBulkEntries entries + 1
  | .held _ => 1
def uptoBulkAll {H : Type} : List (DataW H) → Nat
  | [] => 0
  | d :: r => uptoBulk d + uptoBulkAll r
def uptoBulkEntries {H : Type} : List (Lit × DataW H) → Nat
  | [] => 0
  | x :: r => uptoBulkEntry x + uptoBulkEntries r
def uptoBulkEntry {H : Type} : Lit × DataW H → Nat
  | (.string bytes, d) => bytes.length + uptoBulk d + 1
  | (_, d) => uptoBulk d + 1
 end
def uptoSmall : (H : Type) → List (DataW H) → Bool := fun _ ds => decide (uptoBulkAll ds ≤ 1048576)
def OpenSpec.upto (s : _root_.Go.ChangeSpec) : _root_.Go.OpenSpec := { _root_.Go.OpenSpec.ofChange s with cond := some uptoSmall }

/-- 'spyglasslaw20.FragSplits', WHERE WHAT IT READS IS OF BULK AT MOST 1048576: true; the input reads as it did. -/
def fragSplitsUptoRow : OpenClaim := { program := "ytpoobdccmaiaiaa", sum := "f8e3f5dfcf14a69fe0fb7f2924c6fea94ce4e5e802e087de55875e4e1040772f", func := "spyglass/spyglasslaw20.FragSplits", spec := "fragSplits", apart := false, narrowed := true }
def FragSplitsUptoSaid : Prop := fragSplitsUptoRow.holds Try.pinned (OpenSpec.upto fragSplitsSpec)

/-- 'spyglasslaw20.FragPlays', WHERE WHAT IT READS IS OF BULK AT MOST 1048576: true; the input reads as it did. -/
def fragPlaysUptoRow : OpenClaim := { program := "ytpoobdccmaiaiaa", sum := "f8e3f5dfcf14a69fe0fb7f2924c6fea94ce4e5e802e087de55875e4e1040772f", func := "spyglass/spyglasslaw20.FragPlays", spec := "fragPlays", apart := false, narrowed := true }
def FragPlaysUptoSaid : Prop := fragPlaysUptoRow.holds Try.pinned (OpenSpec.upto fragPlaysSpec)

/-- 'spyglasslaw20.FragBack', WHERE WHAT IT READS IS OF BULK AT MOST 1048576: true; the input reads as it did. -/
def fragBackUptoRow : OpenClaim := { program := "ytpoobdccmaiaiaa", sum := "f8e3f5dfcf14a69fe0fb7f2924c6fea94ce4e5e802e087de55875e4e1040772f", func := "spyglass/spyglasslaw20.FragBack", spec := "fragBack", apart := false, narrowed := true }
def FragBackUptoSaid : Prop := fragBackUptoRow.holds Try.pinned (OpenSpec.upto fragBackSpec)

/-- 'spyglasslaw20.FragNewest', WHERE WHAT IT READS IS OF BULK AT MOST 1048576: true; the input reads as it did. -/
def fragNewestUptoRow : OpenClaim := { program := "ytpoobdccmaiaiaa", sum := "f8e3f5dfcf14a69fe0fb7f2924c6fea94ce4e5e802e087de55875e4e1040772f", func := "spyglass/spyglasslaw20.FragNewest", spec := "fragNewest", apart := false, narrowed := true }
def FragNewestUptoSaid : Prop := fragNewestUptoRow.holds Try.pinned (OpenSpec.upto fragNewestSpec)

end Rows
end Go.Proofs.Ytpoobdccmaiaiaa
