/- Texts of this claim, merged by a program of this claim: Tab1. -/
import Derived.Test.YtienkkicehmchaaGreatDoorDa5
namespace Go.Proofs.YtienkkicehmchaaGreatDoor
set_option linter.unusedVariables false
set_option linter.unusedSimpArgs false
section
open Go.RowKit
def firstI:List Int:=[0,0,0,205,0,0,0,205,0,205,205,0,0,0,238,205,0,205,0,205,205,229,229,229,127,127,127,255,0,0,0,255,0,255,255,0,92,92,255,255,0,255,0,255,255,255,255,255]
def levelsI:List Int:=[0,95,135,175,215,255]
def firstT:List CV:=firstI.map (CV.int .u8)
def levelsT:List CV:=levelsI.map (CV.int .i64)
def E1:Nat→Option (List CV):=fun g=>if g=2 then some firstT else if g=3 then some levelsT else E0 g
theorem jqy:E1 2=some firstT:=rfl
theorem jnY:E1 3=some levelsT:=rfl
theorem jtT {g:Nat}{cs:List CV}(h:E0 g=some cs):E1 g=some cs:=by
 unfold E1
 split
 ·rename_i e
  subst e
  cases h
 ·split
  ·rename_i e
   subst e
   cases h
  ·exact h
theorem upS {F:FuncId}{c:Con}(s:jfN Tryz.prog E0 F c):jfN Tryz.prog E1 F c:=fun args h G r h' e hG z f w vs h1 h2 h3 h4 h5=>s args h G r h' e hG z f w vs h1 h2 (fun g cs hg=>h3 g cs (jtT hg)) h4 h5
noncomputable def VV1 (G:List (FuncId×Con)) (h:GOk Tryz.prog E1 G) (nt:NT) (n0:Nat):Env:=⟨Tryz.prog,⟨E1,eqs0,G⟩,nt,DS.no,n0,⟨jkw,h⟩,jnS⟩
theorem ja2 (G:List (FuncId×Con)) (h:GOk Tryz.prog E1 G) (nt:NT) (n0:Nat):(VV1 G h nt n0).X=⟨E1,eqs0,G⟩:=rfl
theorem jax (G:List (FuncId×Con)) (h:GOk Tryz.prog E1 G) (nt:NT) (n0:Nat):(VV1 G h nt n0).n0=n0:=rfl
end
end Go.Proofs.YtienkkicehmchaaGreatDoor
