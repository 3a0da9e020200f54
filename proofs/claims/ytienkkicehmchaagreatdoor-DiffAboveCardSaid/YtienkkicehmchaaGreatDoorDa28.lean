/- Texts of this claim, merged by a program of this claim: FGrid2. -/
import Derived.Test.YtienkkicehmchaaGreatDoorDa17
import Derived.Test.YtienkkicehmchaaGreatDoorDa27
namespace Go.Proofs.YtienkkicehmchaaGreatDoor
set_option linter.unusedVariables false
set_option linter.unusedSimpArgs false
section
open Go.RowKit
set_option maxRecDepth 100000
set_option maxHeartbeats 4000000
end
end Go.Proofs.YtienkkicehmchaaGreatDoor
