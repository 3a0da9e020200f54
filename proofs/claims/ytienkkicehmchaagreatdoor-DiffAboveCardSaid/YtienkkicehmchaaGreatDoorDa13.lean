/- Texts of this claim, merged by a program of this claim: ColM. -/
import Derived.Test.YtienkkicehmchaaGreatDoorDa12
import Derived.Test.YtienkkicehmchaaGreatDoorDa6
namespace Go.Proofs.YtienkkicehmchaaGreatDoor
set_option linter.unusedVariables false
set_option linter.unusedSimpArgs false
section
def hasB (f:Int) (b:Nat):Bool:=decide (((f.toNat &&& b:Nat):Int)≠0)
namespace Col
def lev (k:Int):Int:=levelsI.getD k.toNat 0
def ok (c:Int):Bool:=!(decide (c=0))&&ja3 c
def part (k:Nat) (c:Int):Int :=
 if ok c=false then 0
 else if 16777216≤c then (match k with|0=>c / 65536 % 256|1=>c / 256 % 256|_=>c % 256)
 else if c≤16 then firstI.getD ((c-1).toNat*3+k) 0
 else if c≤232 then (match k with|0=>lev ((c-17) / 36)|1=>lev ((c-17) / 6 % 6)|_=>lev ((c-17) % 6))
 else 8+10*(c-233)
def sq (x:Int):Int:=x*x
def far (x y:Int):Int:=if ok x&&ok y then sq (part 0 x-part 0 y)+sq (part 1 x-part 1 y)+sq (part 2 x-part 2 y) else -1
def near (c lo:Int):Nat→Int×Int
 | 0=>(0,0)
 | n+1=>if (near c lo n).1=0∨far c (lo+n+1)<(near c lo n).2 then (lo+n+1,far c (lo+n+1)) else near c lo n
def to256 (c:Int):Int:=if 16777216≤c∧ja3 c=true then (near c 16 240).1 else c
def to16 (c:Int):Int:=if 16<c∧ja3 c=true then (near c 0 16).1 else c
def fit (c f:Int):Int :=
 if c≤16∨(16777216≤c∧hasB f 2=true)∨(c<16777216∧hasB f 1=true) then c
 else if hasB f 1=true then to256 c
 else to16 c
theorem sq_nonneg (x:Int):0≤sq x:=by
 unfold sq
 rcases Int.le_total 0 x with h|h
 ·exact Int.mul_nonneg h h
 ·have:=Int.mul_nonneg (Int.neg_nonneg_of_nonpos h) (Int.neg_nonneg_of_nonpos h)
  rwa [Int.neg_mul_neg]at this
theorem sq_le {x:Int}(h1:-255≤x) (h2:x≤255):sq x≤65025:=by
 unfold sq
 rcases Int.le_total 0 x with h|h
 ·exact Int.mul_le_mul h2 h2 h (by omega)
 ·have:(-x)*(-x)≤255*255:=Int.mul_le_mul (by omega) (by omega) (by omega) (by omega)
  rwa [Int.neg_mul_neg]at this
theorem first_bd (i:Nat):0≤firstI.getD i 0∧firstI.getD i 0≤255:=by
 rcases Nat.lt_or_ge i 48 with h|h
 ·exact (show ∀i,i<48→0≤firstI.getD i 0∧firstI.getD i 0≤255 by decide) i h
 ·rw[List.getD_eq_getElem?_getD,List.getElem?_eq_none (by simpa[firstI] using h)]
  decide
theorem jtV (k:Int):0≤lev k∧lev k≤255:=by
 unfold lev
 rcases Nat.lt_or_ge k.toNat 6 with h|h
 ·exact (show ∀i,i<6→0≤levelsI.getD i 0∧levelsI.getD i 0≤255 by decide) _ h
 ·rw[List.getD_eq_getElem?_getD,List.getElem?_eq_none (by simpa[levelsI] using h)]
  decide
theorem ok_iff (c:Int):ok c=true↔(c≠0∧(c≤256∨(16777216≤c∧c≤33554431))):=by simp[ok,ja3]
theorem part_bd (k:Nat) (c:Int) (h:0≤c):0≤part k c∧part k c≤255:=by
 unfold part
 by_cases ho:ok c=true
 ·rw[if_neg (by simp[ho])]
  have hm:=(ok_iff c).1 ho
  (repeat' split)<;>first|exact jtV _|exact first_bd _|omega
 ·rw[if_pos (by simpa using ho)]
  omega
theorem far_bd (x y:Int) (hx:0≤x) (hy:0≤y):-1≤far x y∧far x y≤195075:=by
 unfold far
 split
 ·have a:=fun k=>part_bd k x hx
  have b:=fun k=>part_bd k y hy
  have s:=fun k=>sq_le (x:=part k x-part k y) (by have:=a k;have:=b k;omega) (by have:=a k;have:=b k;omega)
  have t:=fun k=>sq_nonneg (part k x-part k y)
  have:=s 0;have:=s 1;have:=s 2;have:=t 0;have:=t 1;have:=t 2
  omega
 ·omega
theorem near_bd (c lo:Int) (h:0≤lo):∀n:Nat,(0≤(near c lo n).1∧(near c lo n).1≤lo+n)∧(0<n→lo<(near c lo n).1)
 | 0=>⟨⟨by simp[near],by simp[near];omega⟩,fun q=>absurd q (by omega)⟩
 | n+1=>by
  have ih:=near_bd c lo h n
  simp only[near]
  split
  ·dsimp only
   omega
  ·rename_i q
   simp only[not_or]at q
   rcases Nat.eq_zero_or_pos n with e|e
   ·subst e
    exact absurd rfl q.1
   ·have:=ih.2 e
    omega
theorem near_far (c lo:Int) (h:0≤lo) (hc:0≤c):∀n:Nat,-1≤(near c lo n).2∧(near c lo n).2≤195075
 | 0=>⟨by simp[near],by simp[near]⟩
 | n+1=>by
  simp only[near]
  split
  ·exact far_bd c _ hc (by omega)
  ·exact near_far c lo h hc n
theorem to256_bd {c:Int}(h:16777216≤c∧ja3 c=true):17≤to256 c∧to256 c≤256:=by
 unfold to256
 rw[if_pos h]
 have:=near_bd c 16 (by decide) 240
 omega
theorem to16_bd {c:Int}(h:16<c∧ja3 c=true):1≤to16 c∧to16 c≤16:=by
 unfold to16
 rw[if_pos h]
 have:=near_bd c 0 (by decide) 16
 omega
theorem color_iff (c:Int):ja3 c=true↔(c≤256∨(16777216≤c∧c≤33554431)):=by simp[ja3]
theorem fit_may {c:Int}(f:Int) (h:ja3 c=true):ja3 (fit c f)=true∧(hasB f 2=false→fit c f≤256):=by
 have h2:=(color_iff c).1 h
 rw[color_iff]
 unfold fit
 split
 ·rename_i q
  refine⟨h2,fun e=>?_⟩
  rw[e]at q
  simp at q
  omega
 ·rename_i q
  simp only[not_or]at q
  split
  ·rename_i q1
   have q2:¬c<16777216:=fun q3=>q.2.2 ⟨q3,q1⟩
   have:=to256_bd (c:=c) ⟨by omega,h⟩
   omega
  ·have:=to16_bd (c:=c) ⟨by omega,h⟩
   omega
end Col
end
end Go.Proofs.YtienkkicehmchaaGreatDoor
