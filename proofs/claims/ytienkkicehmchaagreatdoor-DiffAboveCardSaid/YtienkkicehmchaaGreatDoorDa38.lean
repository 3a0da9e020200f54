/- Texts of this claim, merged by a program of this claim: FFixed19. -/
import Derived.Test.YtienkkicehmchaaGreatDoorDa37
namespace Go.Proofs.YtienkkicehmchaaGreatDoor
set_option linter.unusedVariables false
set_option linter.unusedSimpArgs false
section
open Go.RowKit
abbrev jkf:List CV:=[]
abbrev f_fixed19:Prop×Res:=(True,.ret (.bool true))
noncomputable def sp_fixed19:Spec:=spOf (α:=Unit) (fun _=>jkf) fun _=>f_fixed19
theorem jeO:sp_fixed19 jkf=some f_fixed19:=jad _ (fun _ _ _=>rfl) ()
theorem jnc:Alias Tryz.prog E0 9 sp_fixed19:=Alias.of fun _ hG=>(by
 dsimp only at hG ⊢
 exact jnb)
theorem jnd:Fresh Tryz.prog E0 9 sp_fixed19:=Alias.fresh jnc (fun x=>rfl)
end
end Go.Proofs.YtienkkicehmchaaGreatDoor
