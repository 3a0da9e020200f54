/- Texts of this claim, merged by a program of this claim: Held, DiffM3. -/
import Derived.Test.YtienkkicehmchaaGreatDoorDl17
import Derived.Test.YtienkkicehmchaaGreatDoorDl18
namespace Go.Proofs.YtienkkicehmchaaGreatDoor
set_option linter.unusedVariables false
set_option linter.unusedSimpArgs false
section
open Go.RowKit
structure Held (p:Prop):Prop where
 out:p
theorem jig {x1 y1 x2 y2:Nat}{h1 h2:Bool}:curC x1 y1 h1 x2 y2 h2=true↔((¬(x2:Int)=x1∨¬(y2:Int)=y1)∨(h2==h1)=false):=by
 unfold curC
 cases h1<;>cases h2<;>simp
theorem jao (a:Int) (l:List Int):jau (a::l)=varN a.toNat++jau l:=rfl
theorem jaU:jau []=[]:=rfl
theorem jbm (a:Nat) (l:List Nat):jaq (a::l)=varN a++jaq l:=rfl
theorem jbR:jaq []=[]:=rfl
theorem ja3 {n:Nat}(h:n<128):varN n=[(n:Int)]:=jdG h
end
section
open Go.RowKit
def Asc (W:List CD) (l:List Nat):Prop:=∀j,j+1<l.length→l.getD j 0+jaa W (l.getD j 0)≤l.getD (j+1) 0
theorem Asc.cons {W:List CD}{l:List Nat}{i:Nat}(h:Asc W l) (hi:∀x∈l,i+jaa W i≤x):Asc W (i::l):=by
 intro j hj
 cases j with
 | zero =>
  cases l with
  | nil=>simp at hj
  | cons y l=>simpa using hi y (by simp)
 | succ j=>simpa using h j (by simpa using hj)
theorem jpz {oth:Nat→Bool}{W:List CD}{N:Nat}:∀(f i:Nat),Asc W (remF oth (jaa W) N f i)
 | 0,i=>fun j hj=>by simp[remF]at hj
 | f+1,i=>by
  have ih:=jpz (oth:=oth) (W:=W) (N:=N) f (i+jaa W i)
  rw[remF]
  split
  ·split
   ·exact ih.cons (fun x hx=>(jlz (fun i=>(jat W i).1) _ _ x hx).1)
   ·exact ih
  ·exact fun j hj=>by simp at hj
theorem jxt {oth:Nat→Bool}{W:List CD}{N i:Nat}:Asc W (rem oth (jaa W) N i):=jpz _ _
theorem jlR (C W:List CD) (l:List Nat) (hl:l=rem (jav C W) (jaa W) W.length 0):jbd C W=if l=[] then [] else (8:Int)::(varN (layR W l.length 0 l).2++(layR W l.length 0 l).1):=by
 subst hl
 unfold jbd
 simp only
 cases hc:rem (jav C W) (jaa W) W.length 0 with
 | nil=>simp[jfa]
 | cons x m =>
  rw[if_neg (by rw[List.length_cons,layR];simp),if_neg (by simp)]
end
end Go.Proofs.YtienkkicehmchaaGreatDoor
