/- Texts of this claim, merged by a program of this claim: FRdif, FRruns, FRdiff, FEnc. -/
import Derived.Test.YtcfkfgkndncanaaGreatDoorMs23
import Derived.Test.YtcfkfgkndncanaaGreatDoorMs28
import Derived.Test.YtcfkfgkndncanaaGreatDoorMs34
import Derived.Test.YtcfkfgkndncanaaGreatDoorMs35
import Derived.Test.YtcfkfgkndncanaaGreatDoorMs39
import Derived.Test.YtcfkfgkndncanaaGreatDoorMs40
namespace Go.Proofs.YtcfkfgkndncanaaGreatDoor
set_option linter.unusedVariables false
set_option linter.unusedSimpArgs false
section
open Go.RowKit
set_option maxRecDepth 100000
set_option maxHeartbeats 4000000
end
section
open Go.RowKit
set_option maxRecDepth 100000
set_option maxHeartbeats 4000000
end
section
open Go.RowKit
set_option maxRecDepth 100000
set_option maxHeartbeats 4000000
end
section
open Go.RowKit
set_option maxRecDepth 100000
set_option maxHeartbeats 4000000
theorem jo8:∀n,jey 0 (List.replicate n blank0)=some 0
 | 0=>rfl
 | n+1=>by
  rw[List.replicate_succ',jcK,jo8 n]
  rfl
theorem jrg:jfr (bs [])=true:=by decide +kernel
theorem jrh {k r:Nat}(hk:1≤k∧k≤80) (hr:1≤r∧r≤24):ja6 k r (jbI k r) 0 0 0 (bs []) []=true:=by
 have h1:=jjb hk hr
 have h2:jb8 (jbI k r) []=true:=by
  simp only[jb8,jbI,List.length_nil,jo8]
  rfl
 unfold ja6
 simp only[h1,h2,jrg,HB,ne_eq,reduceCtorEq]
 refine⟨⟨⟨⟨⟨⟨⟨⟨trivial,trivial⟩,?_⟩,?_⟩,?_⟩,?_⟩,?_⟩,?_⟩,trivial⟩<;>first|omega|decide
theorem jy8 (k r:Nat) (h:k*r≤60000):ScrOk (jbI k r) []:=⟨fun c hc=>by rw[List.eq_of_mem_replicate hc];exact joX,by simp[jbI];exact h,by simp,fun s hs=>by cases hs⟩
abbrev jri (k:Int) (r:Int) (L:List CD) (x:Int) (y:Int) (hd:Bool) (mo:Int) (ti:ByteArray) (l:List ByteArray):List CV:=[.agg [.int .i64 k,.int .i64 r,.vec .cell L,.int .i64 x,.int .i64 y,.bool hd,.int .u8 mo,.str ti,.vec .str l]]
abbrev jrj (k:Int) (r:Int) (L:List CD) (x:Int) (y:Int) (hd:Bool) (mo:Int) (ti:ByteArray) (l:List ByteArray):Prop×Res:=((ScrOk L l∧SLen ti)∧0≤mo,.ret (.tup [.vec (.int .u8) (jhj k r L x y hd mo ti l),.int .i64 (errN (ja6 k r L x y mo ti l))]))
noncomputable def sp_mfull:Spec:=spOf (α:=Int×Int×(List CD)×Int×Int×Bool×Int×ByteArray×(List ByteArray)) (fun⟨k,r,L,x,y,hd,mo,ti,l⟩=>jri k r L x y hd mo ti l) fun⟨k,r,L,x,y,hd,mo,ti,l⟩=>jrj k r L x y hd mo ti l
theorem jcH (k:Int) (r:Int) (L:List CD) (x:Int) (y:Int) (hd:Bool) (mo:Int) (ti:ByteArray) (l:List ByteArray):sp_mfull (jri k r L x y hd mo ti l)=some (jrj k r L x y hd mo ti l):=jak _ injS (k,r,L,x,y,hd,mo,ti,l)
theorem jy9:Fresh Tryz.prog E0 17 sp_mfull:=Fresh.of fun⟨k,r,L,x,y,hd,mo,ti,l⟩ hG=>TF.intro (V:=(VV [(22,conF [.agg [.any,.any,.sl .cell,.any,.any,.any,.any,.any,.sl .str]] sp_eright),(48,conT [.any,.any] sp_pblank),(49,conT [.any,.sl (.int .i64)] sp_put),(47,conT [.agg [.any,.any,.sl .cell,.any,.any,.any,.any,.any,.sl .str],.agg [.any,.any,.sl .cell,.any,.any,.any,.any,.any,.sl .str]] sp_mlay)] (.cons (jaa jdV) (Fresh.soundF jk7) (.cons (jaa jdl) (Fresh.soundT jo6) (.cons (jaa jdw) (Fresh.soundT jsq) (.cons (jaa jf0) (Fresh.soundT jxh) GOk.nil)))) 27 0)) jgq rfl rfl (by
 dsimp only[jri,jrj]at hG ⊢
 obtain⟨⟨hs,ht⟩,hmo⟩:=hG
 cases hw:ja6 k r L x y mo ti l
 ·have e:jhj k r L x y hd mo ti l=[]:=by rw[jhj,if_neg (by rw[hw];decide)]
  repeat' first|exact hs|simp only[SA,seval,rdB,jaG,jaw,jae,jbQ]|simp only[hw]|simp only[hw2]|simp only[hw3]|refine tT ?_|refine And.intro ?_ ?_|exact tC|(refine tI ?_;intro hyp)|intro hyp0|omega
  exact Cos.intro [99] [] rfl (by rw[e];simp only[SA,seval,rdB,jaG,jaw,jae,jbQ];simp[crs,crsL,jct,errN])
 ·obtain⟨K,R,X,Y,M,rfl,rfl,rfl,rfl,rfl,f⟩:=jb4 hw hmo
  have hk:=f.k1
  have hr:=f.r1
  have hKR:K*R≤1920:=Nat.mul_le_mul (show K≤80 by omega) (show R≤24 by omega)
  have hbr:=jrh hk hr
  have hbo:=jy8 K R (by omega)
  have hf:je5 (K:Int) R=true:=jdh.2 (by omega)
  have hw2:List.take (K*R) (List.replicate (K*R) blank0)=jbI K R:=List.take_of_length_le (by simp)
  have hw3:jc7 [(K:Int),(R:Int)]=jbc [K,R]:=jhY [K,R]
  have hvl:=jcm [K,R] (fun u hu=>by simp at hu;omega)
  simp only[List.length_cons,List.length_nil]at hvl
  have hx:=f.x1
  have hy:=f.y1
  have hm:=f.mo1
  have hdl:=jkR (L1:=jbI K R) (x1:=0) (y1:=0) (hd1:=false) (m1:=0) (t1:=bs []) (l1:=[]) (L2:=L) (x2:=X) (y2:=Y) (hd2:=hd) (m2:=M) (t2:=ti) (l2:=l) (k:=K) (r:=R) (by simp[jbI]) (by omega) hr f.len hs.wf (by omega) (by omega) (by omega) f.ti1 f.l1 f.s64
  have e:jhj (K:Int) R L X Y hd M ti l=1::(jbc [K,R]++jf7 K R (jbI K R) 0 0 false 0 (bs []) [] L X Y hd M ti l):=by
   rw[jhj,if_pos hw]
   rfl
  repeat' first|exact hs|exact hf|exact hbo|exact hbr|simp only[SA,seval,rdB,jaG,jaw,jae,jbQ]|simp only[hw]|simp only[hw2]|simp only[hw3]|refine tT ?_|refine And.intro ?_ ?_|exact tC|(refine tI ?_;intro hyp)|intro hyp0|omega
  refine Cos.intro [7] [] rfl ?_
  rw[e]
  simp only[errN]
  (simp only[SA,seval,rdB,jaG,jaw,jae,jbQ]<;>exact tE))
abbrev jxi (k:Int) (r:Int) (L:List CD) (x:Int) (y:Int) (hd:Bool) (mo:Int) (ti:ByteArray) (l:List ByteArray) (k':Int) (r':Int) (L':List CD) (x':Int) (y':Int) (hd':Bool) (mo':Int) (ti':ByteArray) (l':List ByteArray):List CV:=[.agg [.int .i64 k,.int .i64 r,.vec .cell L,.int .i64 x,.int .i64 y,.bool hd,.int .u8 mo,.str ti,.vec .str l],.agg [.int .i64 k',.int .i64 r',.vec .cell L',.int .i64 x',.int .i64 y',.bool hd',.int .u8 mo',.str ti',.vec .str l']]
abbrev jxj (k:Int) (r:Int) (L:List CD) (x:Int) (y:Int) (hd:Bool) (mo:Int) (ti:ByteArray) (l:List ByteArray) (k':Int) (r':Int) (L':List CD) (x':Int) (y':Int) (hd':Bool) (mo':Int) (ti':ByteArray) (l':List ByteArray):Prop×Res:=(((ScrOk L l∧SLen ti)∧0≤mo)∧((ScrOk L' l'∧SLen ti')∧0≤mo'),.ret (.tup [.vec (.int .u8) (encI k r L x y hd mo ti l k' r' L' x' y' hd' mo' ti' l'),.int .i64 (errN (ja6 k r L x y mo ti l&&ja6 k' r' L' x' y' mo' ti' l'))]))
noncomputable def sp_menc:Spec:=spOf (α:=Int×Int×(List CD)×Int×Int×Bool×Int×ByteArray×(List ByteArray)×Int×Int×(List CD)×Int×Int×Bool×Int×ByteArray×(List ByteArray)) (fun⟨k,r,L,x,y,hd,mo,ti,l,k',r',L',x',y',hd',mo',ti',l'⟩=>jxi k r L x y hd mo ti l k' r' L' x' y' hd' mo' ti' l') fun⟨k,r,L,x,y,hd,mo,ti,l,k',r',L',x',y',hd',mo',ti',l'⟩=>jxj k r L x y hd mo ti l k' r' L' x' y' hd' mo' ti' l'
theorem jc5 (k:Int) (r:Int) (L:List CD) (x:Int) (y:Int) (hd:Bool) (mo:Int) (ti:ByteArray) (l:List ByteArray) (k':Int) (r':Int) (L':List CD) (x':Int) (y':Int) (hd':Bool) (mo':Int) (ti':ByteArray) (l':List ByteArray):sp_menc (jxi k r L x y hd mo ti l k' r' L' x' y' hd' mo' ti' l')=some (jxj k r L x y hd mo ti l k' r' L' x' y' hd' mo' ti' l'):=jak _ injS (k,r,L,x,y,hd,mo,ti,l,k',r',L',x',y',hd',mo',ti',l')
theorem jBn:Fresh Tryz.prog E0 16 sp_menc:=Fresh.of fun⟨k,r,L,x,y,hd,mo,ti,l,k',r',L',x',y',hd',mo',ti',l'⟩ hG=>TF.intro (V:=(VV [(22,conF [.agg [.any,.any,.sl .cell,.any,.any,.any,.any,.any,.sl .str]] sp_eright),(17,conT [.agg [.any,.any,.sl .cell,.any,.any,.any,.any,.any,.sl .str]] sp_mfull),(47,conT [.agg [.any,.any,.sl .cell,.any,.any,.any,.any,.any,.sl .str],.agg [.any,.any,.sl .cell,.any,.any,.any,.any,.any,.sl .str]] sp_mlay)] (.cons (jaa jdV) (Fresh.soundF jk7) (.cons (jaa jgq) (Fresh.soundT jy9) (.cons (jaa jf0) (Fresh.soundT jxh) GOk.nil))) 35 0)) je8 rfl rfl (by
 dsimp only[jxi,jxj]at hG ⊢
 obtain⟨⟨⟨hs,ht⟩,hmo⟩,⟨hs',ht'⟩,hmo'⟩:=hG
 cases hw:ja6 k r L x y mo ti l
 ·have e:encI k r L x y hd mo ti l k' r' L' x' y' hd' mo' ti' l'=[]:=by rw[encI,if_neg (by rw[hw];simp)]
  repeat' first|exact hs|simp only[SA,seval,rdB,jaG,jcH,jbQ]|simp only[hw]|simp only[hw2]|refine tT ?_|refine And.intro ?_ ?_|exact tC|(refine tI ?_;intro hyp)|intro hyp0|omega
  exact Cos.intro [99] [] rfl (by rw[e];simp only[SA,seval,rdB,jaG,jcH,jbQ];simp[crs,crsL,jct,errN])
 ·cases hw2:ja6 k' r' L' x' y' mo' ti' l'
  ·have e:encI k r L x y hd mo ti l k' r' L' x' y' hd' mo' ti' l'=[]:=by rw[encI,if_neg (by rw[hw2];simp)]
   repeat' first|exact hs|exact hs'|simp only[SA,seval,rdB,jaG,jcH,jbQ]|simp only[hw]|simp only[hw2]|refine tT ?_|refine And.intro ?_ ?_|exact tC|(refine tI ?_;intro hyp)|intro hyp0|omega
   exact Cos.intro [99] [] rfl (by rw[e];simp only[SA,seval,rdB,jaG,jcH,jbQ];simp[crs,crsL,jct,errN])
  ·have e0:encI k r L x y hd mo ti l k' r' L' x' y' hd' mo' ti' l'=if k=k'∧r=r' then jf7 k.toNat r.toNat L x.toNat y.toNat hd mo.toNat ti l L' x'.toNat y'.toNat hd' mo'.toNat ti' l' else jhj k' r' L' x' y' hd' mo' ti' l':=by rw[encI,if_pos (by rw[hw,hw2];rfl)]
   by_cases hkr:k=k'∧r=r'
   ·rw[if_pos hkr]at e0
    repeat' first|exact hs|exact hs'|exact hw|exact hw2|simp only[SA,seval,rdB,jaG,jcH,jbQ]|simp only[hw]|simp only[hw2]|refine tT ?_|refine And.intro ?_ ?_|exact tC|(refine tI ?_;intro hyp)|intro hyp0|omega
    exact Cos.intro [2] [] rfl (by rw[e0];simp only[errN];(simp only[SA,seval,rdB,jaG,jcH,jbQ]<;>exact tE))
   ·rw[if_neg hkr]at e0
    repeat' first|exact hs|exact hs'|simp only[SA,seval,rdB,jaG,jcH,jbQ]|simp only[hw]|simp only[hw2]|refine tT ?_|refine And.intro ?_ ?_|exact tC|(refine tI ?_;intro hyp)|intro hyp0|omega
    exact Cos.intro [2] [] rfl (by rw[e0];(simp only[SA,seval,rdB,jaG,jcH,jbQ]<;>exact tE)))
end
end Go.Proofs.YtcfkfgkndncanaaGreatDoor
