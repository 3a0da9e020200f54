/- Texts of this claim, merged by a program of this claim: FRdif. -/
import Derived.Test.YtcfkfgkndncanaaGreatDoorMa23
import Derived.Test.YtcfkfgkndncanaaGreatDoorMa28
import Derived.Test.YtcfkfgkndncanaaGreatDoorMa30
namespace Go.Proofs.YtcfkfgkndncanaaGreatDoor
set_option linter.unusedVariables false
set_option linter.unusedSimpArgs false
section
open Go.RowKit
set_option maxRecDepth 100000
set_option maxHeartbeats 4000000
theorem jmP (L:List CD) (k y:Nat):jbv L k (y+1)=jbv L k y++[jbo L k y]:=jcE _ _
abbrev joH (k:Int) (r:Int) (L:List CD) (x:Int) (y:Int) (hd:Bool) (mo:Int) (ti:ByteArray) (l:List ByteArray):List CV:=[.agg [.int .i64 k,.int .i64 r,.vec .cell L,.int .i64 x,.int .i64 y,.bool hd,.int .u8 mo,.str ti,.vec .str l]]
abbrev joI (k:Int) (r:Int) (L:List CD) (x:Int) (y:Int) (hd:Bool) (mo:Int) (ti:ByteArray) (l:List ByteArray):Prop×Res:=((0≤k∧k≤100)∧(0≤r∧r≤100)∧L.length=k.toNat*r.toNat,.ret (.vec (.rows .cell) (jbv L k.toNat r.toNat)))
noncomputable def sp_r8rows:Spec:=spOf (α:=Int×Int×(List CD)×Int×Int×Bool×Int×ByteArray×(List ByteArray)) (fun⟨k,r,L,x,y,hd,mo,ti,l⟩=>joH k r L x y hd mo ti l) fun⟨k,r,L,x,y,hd,mo,ti,l⟩=>joI k r L x y hd mo ti l
theorem jax (k:Int) (r:Int) (L:List CD) (x:Int) (y:Int) (hd:Bool) (mo:Int) (ti:ByteArray) (l:List ByteArray):sp_r8rows (joH k r L x y hd mo ti l)=some (joI k r L x y hd mo ti l):=jaq _ injS (k,r,L,x,y,hd,mo,ti,l)
theorem jpR:Fresh Tryz.prog E0 37 sp_r8rows:=Fresh.of fun⟨k,r,L,x,y,hd,mo,ti,l⟩ hG=>TF.intro (V:=(VV [(72,conF [.sl .cell] sp_rcopy)] (.cons (jaa jee) (Fresh.soundF jh0) GOk.nil) 31 0)) jjt rfl rfl (by
 dsimp only[joH,joI]at hG ⊢
 obtain⟨hk,hr,hL⟩:=hG
 obtain⟨k,rfl⟩:∃n:Nat,k=n:=⟨k.toNat,by omega⟩
 obtain⟨r,rfl⟩:∃n:Nat,r=n:=⟨r.toNat,by omega⟩
 simp only[Int.toNat_natCast]at hL ⊢
 have hkr:k*r≤10000:=Nat.mul_le_mul (show k≤100 by omega) (show r≤100 by omega)
 repeat' first|simp only[SA,seval,rdB,jab,tq0,tq1,tq2,List.set_set]|simp only[hw]|simp only[hw2]|simp only[hw3]|refine tT ?_|refine And.intro ?_ ?_|exact tC|(refine tI ?_;intro hyp)|intro hyp0|omega
 refine T.loop (fun y':Nat=>⟨[(1,.ptr 0 0 0),(3,.slice 1 0 1 y' y'),(4,.int .i64 y')],[.box [.int .i64 k,.int .i64 r,.vec .cell L,.int .i64 x,.int .i64 y,.bool hd,.int .u8 mo,.str ti,.vec .str l],.seq (.rows .cell) (jbv L k y')]⟩) (fun y'=>y'≤r) (fun y'=>r-y') 0 (by omega) (Cos.intro [0,1] [] rfl (by simp only[SA,seval,rdB,jab,tq0,tq1,tq2,List.set_set];simp[jbv])) (fun y' hy=>?_)
 have hrow:y'<r→(y'+1)*k≤L.length:=fun h=>by
  rw[hL,Nat.mul_comm k r]
  exact Nat.mul_le_mul_right k h
 have hml:(jbv L k y').length=y':=jcC _ _ _
 have hmf:y'<r→0≤(y':Int)*k∧(y':Int)*k≤1000000∧(y':Int)*k+k≤L.length:=fun h=>by
  have:=jew (hrow h)
  omega
 have hw:((y':Int)*k+k).toNat=y'*k+k:=by rw[←tq0,←Int.toNat_add_nat (Int.mul_nonneg (by omega) (by omega))]
 have hw3:List.take y' (jbv L k y')=jbv L k y':=List.take_of_length_le (by omega)
 have hw2:List.take k (List.drop (y'*k) L)=jbo L k y':=rfl
 have hrl:(jbo L k y').length≤1000000:=by simp[jbo];omega
 by_cases hyr:y'<r
 ·repeat' first|simp only[SA,seval,rdB,jab,tq0,tq1,tq2,List.set_set]|simp only[hw]|simp only[hw2]|simp only[hw3]|refine tT ?_|refine And.intro ?_ ?_|exact tC|(refine tI ?_;intro hyp)|intro hyp0|omega
  exact⟨y'+1,by omega,by omega,Cos.intro [0,3] [] rfl (by rw[jmP];(simp only[SA,seval,rdB,jab,tq0,tq1,tq2,List.set_set]<;>exact tE))⟩
 ·obtain rfl:y'=r:=by omega
  repeat' first|simp only[SA,seval,rdB,jab,tq0,tq1,tq2,List.set_set]|simp only[hw]|simp only[hw2]|simp only[hw3]|refine tT ?_|refine And.intro ?_ ?_|exact tC|(refine tI ?_;intro hyp)|intro hyp0|omega
  exact Cos.intro [1] [] rfl (by (simp only[SA,seval,rdB,jab,tq0,tq1,tq2,List.set_set]<;>exact tE)))
theorem jpS {M:List (List CD)}{k r:Nat}(h:Rect M k r):M.flatten.length=r*k:=by
 rw[jpu M h.row,h.len]
abbrev jgr (A:List (List CD)) (m:Int):List CV:=[.vec (.rows .cell) A,.int .i64 m]
abbrev jgs (A:List (List CD)) (m:Int):Prop×Res:=(A.length≤1000∧(∀a∈A,a.length≤1000)∧(-1000≤m∧m≤1000),.ret (.vec (.rows .cell) (jcl A m)))
noncomputable def sp_r8scrolled:Spec:=spOf (α:=(List (List CD))×Int) (fun⟨A,m⟩=>jgr A m) fun⟨A,m⟩=>jgs A m
theorem jas (A:List (List CD)) (m:Int):sp_r8scrolled (jgr A m)=some (jgs A m):=jaq _ injS (A,m)
theorem joJ:Alias Tryz.prog E0 36 sp_r8scrolled:=Alias.of fun⟨A,m⟩ hG=>TF.intro (V:=(VV [(72,conF [.sl .cell] sp_rcopy),(51,conF [.any,.any] sp_rblanks)] (.cons (jaa jee) (Fresh.soundF jh0) (.cons (jaa jeP) (Fresh.soundF jmF) GOk.nil)) 47 0)) jg9 rfl rfl (by
 dsimp only[jgr,jgs]at hG ⊢
 obtain⟨hA,hr,hm⟩:=hG
 repeat' first|simp only[SA,seval,rdB,jab,jbD,tq0,tq1,tq2,List.set_set]|simp only[hw3]|simp only[hw4]|refine tT ?_|refine And.intro ?_ ?_|exact tC|(refine tI ?_;intro hyp)|intro hyp0|omega
 refine T.loop (fun y:Nat=>⟨[(0,.vec (.rows .cell) A),(1,.int .i64 m),(5,.slice 0 0 1 y y),(9,.int .i64 A.length),(10,.int .i64 y)],[.seq (.rows .cell) ((List.range y).map (jj0 A m))]⟩) (fun y=>y≤A.length) (fun y=>A.length-y) 0 (by omega) (Cos.intro [0] [] rfl (by simp only[SA,seval,rdB,jab,jbD,tq0,tq1,tq2,List.set_set];simp)) (fun y hy=>?_)
 have hml:((List.range y).map (jj0 A m)).length=y:=by simp
 have hsn:=jcE (jj0 A m) y
 have hw3:List.take y ((List.range y).map (jj0 A m))=(List.range y).map (jj0 A m):=List.take_of_length_le (by omega)
 by_cases hya:y<A.length
 ·have hay:=hr _ (List.mem_of_getElem? (jcT (d:=[]) hya))
  by_cases hin:0≤(y:Int)+m∧(y:Int)+m<A.length
  ·have hs:jj0 A m y=A.getD ((y:Int)+m).toNat []:=if_pos hin
   have haz:=hr _ (List.mem_of_getElem? (jcT (d:=[]) (show ((y:Int)+m).toNat<A.length by omega)))
   rw[hs]at hsn
   have hw4:jer { fg:=0,bg:=0,attrs:=0,link:=0 }=blank0:=rfl
   repeat' first|simp only[SA,seval,rdB,jab,jbD,tq0,tq1,tq2,List.set_set]|simp only[hw3]|simp only[hw4]|refine tT ?_|refine And.intro ?_ ?_|exact tC|(refine tI ?_;intro hyp)|intro hyp0|omega
   exact⟨y+1,by omega,by omega,Cos.intro [2] [] rfl (by rw[hsn];(simp only[SA,seval,rdB,jab,jbD,tq0,tq1,tq2,List.set_set]<;>exact tE))⟩
  ·have hs:jj0 A m y=List.replicate (A.getD y []).length blank0:=if_neg hin
   rw[hs]at hsn
   have hw4:jer { fg:=0,bg:=0,attrs:=0,link:=0 }=blank0:=rfl
   repeat' first|simp only[SA,seval,rdB,jab,jbD,tq0,tq1,tq2,List.set_set]|simp only[hw3]|simp only[hw4]|refine tT ?_|refine And.intro ?_ ?_|exact tC|(refine tI ?_;intro hyp)|intro hyp0|omega
   exact⟨y+1,by omega,by omega,Cos.intro [2] [] rfl (by rw[hsn];(simp only[SA,seval,rdB,jab,jbD,tq0,tq1,tq2,List.set_set]<;>exact tE))⟩
 ·obtain rfl:y=A.length:=by omega
  repeat' first|simp only[SA,seval,rdB,jab,jbD,tq0,tq1,tq2,List.set_set]|simp only[hw3]|simp only[hw4]|refine tT ?_|refine Cos.intro [] [0,1,2,3,4,5,6,7,8,9] rfl ?_|refine And.intro ?_ ?_|exact tC|(refine tI ?_;intro hyp)|intro hyp0|omega
  rfl)
theorem jwW (f:CD→CD){L:List CD}{i:Nat}(h:i<L.length):(half f L i).getD i default=L.getD i default:=by
 rw[List.getD_eq_getElem?_getD,jnL f (jcW h)]
 rfl
end
end Go.Proofs.YtcfkfgkndncanaaGreatDoor
