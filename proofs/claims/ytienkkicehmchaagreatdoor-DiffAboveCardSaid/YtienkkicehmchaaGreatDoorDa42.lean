/- Texts of this claim, merged by a program of this claim: ReadM. -/
import Derived.Test.YtienkkicehmchaaGreatDoorDa41
import Derived.Test.YtienkkicehmchaaGreatDoorDa8
namespace Go.Proofs.YtienkkicehmchaaGreatDoor
set_option linter.unusedVariables false
set_option linter.unusedSimpArgs false
section
end
end Go.Proofs.YtienkkicehmchaaGreatDoor
