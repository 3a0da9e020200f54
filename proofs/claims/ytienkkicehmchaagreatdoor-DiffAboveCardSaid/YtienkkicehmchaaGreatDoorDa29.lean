/- Texts of this claim, merged by a program of this claim: FDif. -/
import Derived.Test.YtienkkicehmchaaGreatDoorDa19
import Derived.Test.YtienkkicehmchaaGreatDoorDa23
import Derived.Test.YtienkkicehmchaaGreatDoorDa28
namespace Go.Proofs.YtienkkicehmchaaGreatDoor
set_option linter.unusedVariables false
set_option linter.unusedSimpArgs false
section
open Go.RowKit
set_option maxRecDepth 100000
set_option maxHeartbeats 4000000
theorem jps (f:CD→CD){L:List CD}{i:Nat}(h:i<L.length):(half f L i).getD i default=L.getD i default:=by
 rw[List.getD_eq_getElem?_getD,jqT f (jdm h)]
 rfl
end
end Go.Proofs.YtienkkicehmchaaGreatDoor
