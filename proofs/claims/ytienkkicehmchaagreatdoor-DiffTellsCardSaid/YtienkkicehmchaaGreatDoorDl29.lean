/- Texts of this claim, merged by a program of this claim: BlankM. -/
import Derived.Test.YtienkkicehmchaaGreatDoorDl18
import Derived.Test.YtienkkicehmchaaGreatDoorDl21
namespace Go.Proofs.YtienkkicehmchaaGreatDoor
set_option linter.unusedVariables false
set_option linter.unusedSimpArgs false
section
open Go.RowKit
theorem jmX:∀n,jd3 0 (List.replicate n blank0)=some 0
 | 0=>rfl
 | n+1=>by
  rw[List.replicate_succ',jb4,jmX n]
  rfl
theorem joj:jeF (bs [])=true:=by decide +kernel
theorem jca {k r:Nat}(hk:1≤k∧k≤80) (hr:1≤r∧r≤24):jai k r (jah k r) 0 0 0 (bs []) []=true:=by
 have h1:=jmB hk hr
 have h2:jb1 (jah k r) []=true:=by
  simp only[jb1,jah,List.length_nil,jmX]
  rfl
 unfold jai
 simp only[h1,h2,joj,HB,ne_eq,reduceCtorEq]
 refine⟨⟨⟨⟨⟨⟨⟨⟨trivial,trivial⟩,?_⟩,?_⟩,?_⟩,?_⟩,?_⟩,?_⟩,trivial⟩<;>first|omega|decide
theorem jfc (k r:Nat) (h:k*r≤60000):ScrOk (jah k r) []:=⟨fun c hc=>by rw[List.eq_of_mem_replicate hc];exact jsu,by simp[jah];exact h,by simp,fun s hs=>by cases hs⟩
end
end Go.Proofs.YtienkkicehmchaaGreatDoor
