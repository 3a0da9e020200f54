/- Texts of this claim, merged by a program of this claim: FBytes. -/
import Derived.Test.YtcfkfgkndncanaaGreatDoorMr21
import Derived.Test.YtcfkfgkndncanaaGreatDoorMr26
namespace Go.Proofs.YtcfkfgkndncanaaGreatDoor
set_option linter.unusedVariables false
set_option linter.unusedSimpArgs false
section
open Go.RowKit
set_option maxRecDepth 100000
set_option maxHeartbeats 4000000
end
end Go.Proofs.YtcfkfgkndncanaaGreatDoor
