/- Texts of this claim, merged by a program of this claim: Held. -/
import Derived.Test.YtcfkfgkndncanaaGreatDoorMa22
import Derived.Test.YtcfkfgkndncanaaGreatDoorMa25
namespace Go.Proofs.YtcfkfgkndncanaaGreatDoor
set_option linter.unusedVariables false
set_option linter.unusedSimpArgs false
section
open Go.RowKit
structure Held (p:Prop):Prop where
 out:p
end
end Go.Proofs.YtcfkfgkndncanaaGreatDoor
