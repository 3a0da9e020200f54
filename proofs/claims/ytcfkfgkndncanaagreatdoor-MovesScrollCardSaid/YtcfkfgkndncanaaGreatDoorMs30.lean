/- Texts of this claim, merged by a program of this claim: FDif3. -/
import Derived.Test.YtcfkfgkndncanaaGreatDoorMs23
import Derived.Test.YtcfkfgkndncanaaGreatDoorMs24
import Derived.Test.YtcfkfgkndncanaaGreatDoorMs28
namespace Go.Proofs.YtcfkfgkndncanaaGreatDoor
set_option linter.unusedVariables false
set_option linter.unusedSimpArgs false
section
open Go.RowKit
set_option maxRecDepth 100000
set_option maxHeartbeats 4000000
theorem jqV:penB ⟨0,0,0,0⟩=true:=by decide
theorem jiK {k r:Int}{L:List CD}(h:jbM k r L=true):(1≤k∧k≤80)∧(1≤r∧r≤24)∧(L.length:Int)=k*r∧L.length≤1920:=by
 have hg2:=h
 simp only[jbM,HB,ne_eq,reduceCtorEq]at hg2
 have hf:=jdh.1 hg2.1.1
 have h1:k*r≤80*r:=Int.mul_le_mul_of_nonneg_right (by omega) (by omega)
 refine⟨by omega,by omega,hg2.1.2,?_⟩
 have:=hg2.1.2
 omega
abbrev jhn (k:Int) (r:Int) (L:List CD) (x:Int) (y:Int) (hd:Bool) (mo:Int) (ti:ByteArray) (l:List ByteArray) (m:Int):List CV:=[.agg [.int .i64 k,.int .i64 r,.vec .cell L,.int .i64 x,.int .i64 y,.bool hd,.int .u8 mo,.str ti,.vec .str l],.int .i64 m]
abbrev jho (k:Int) (r:Int) (L:List CD) (x:Int) (y:Int) (hd:Bool) (mo:Int) (ti:ByteArray) (l:List ByteArray) (m:Int):Prop×Res:=(jbM k r L=true∧CWs L∧(-1000000≤m∧m≤1000000),.ret (.vec .cell (jcf (jam L k.toNat r.toNat) m).flatten))
noncomputable def sp_mscrolled:Spec:=spOf (α:=Int×Int×(List CD)×Int×Int×Bool×Int×ByteArray×(List ByteArray)×Int) (fun⟨k,r,L,x,y,hd,mo,ti,l,m⟩=>jhn k r L x y hd mo ti l m) fun⟨k,r,L,x,y,hd,mo,ti,l,m⟩=>jho k r L x y hd mo ti l m
theorem jab (k:Int) (r:Int) (L:List CD) (x:Int) (y:Int) (hd:Bool) (mo:Int) (ti:ByteArray) (l:List ByteArray) (m:Int):sp_mscrolled (jhn k r L x y hd mo ti l m)=some (jho k r L x y hd mo ti l m):=jak _ injS (k,r,L,x,y,hd,mo,ti,l,m)
theorem jje:Fresh Tryz.prog E0 65 sp_mscrolled:=Fresh.of fun⟨k,r,L,x,y,hd,mo,ti,l,m⟩ hG=>TF.intro (V:=(VV [(103,conT [.agg [.any,.any,.sl .cell],.any,.any,.any,.any] sp_gscroll)] (.cons (jaa jfP) (Fresh.soundT jtu) GOk.nil) 21 0)) jcY rfl rfl (by
 dsimp only[jhn,jho]at hG ⊢
 obtain⟨hg,hc,hm⟩:=hG
 have hf:=jiK hg
 have hsa:=jqy (L:=L) (k:=k.toNat) (r:=r.toNat) (by omega) m
 have hw:(r-1).toNat=r.toNat-1:=by omega
 have hw2:jdt (jam L k.toNat r.toNat) 0 (r.toNat-1) m { fg:=0,bg:=0,attrs:=0,link:=0 }=jcf (jam L k.toNat r.toNat) m:=hsa
 repeat' first|exact hg|exact jqV|exact hc|simp only[SA,seval,rdB,jhW,tq0,tq1,tq2]|simp only[hw]|simp only[hw2]|refine tT ?_|refine And.intro ?_ ?_|exact tC|(refine tI ?_;intro hyp)|intro hyp0|omega
 exact Cos.intro [2] [] rfl (by (simp only[SA,seval,rdB,jhW,tq0,tq1,tq2]<;>exact tE)))
abbrev jwJ (k:Int) (r:Int) (L:List CD) (x:Int) (y:Int) (hd:Bool) (mo:Int) (ti:ByteArray) (l:List ByteArray) (v:Int):List CV:=[.agg [.int .i64 k,.int .i64 r,.vec .cell L,.int .i64 x,.int .i64 y,.bool hd,.int .u8 mo,.str ti,.vec .str l],.int .i64 v]
abbrev jwK (k:Int) (r:Int) (L:List CD) (x:Int) (y:Int) (hd:Bool) (mo:Int) (ti:ByteArray) (l:List ByteArray) (v:Int):Prop×Res:=((0≤k∧k≤100)∧(0≤v∧v≤1000)∧(v.toNat+1)*k.toNat≤L.length∧L.length≤1000000,.ret (.vec .cell (jaY L k.toNat v.toNat)))
noncomputable def sp_mrow:Spec:=spOf (α:=Int×Int×(List CD)×Int×Int×Bool×Int×ByteArray×(List ByteArray)×Int) (fun⟨k,r,L,x,y,hd,mo,ti,l,v⟩=>jwJ k r L x y hd mo ti l v) fun⟨k,r,L,x,y,hd,mo,ti,l,v⟩=>jwK k r L x y hd mo ti l v
theorem jaZ (k:Int) (r:Int) (L:List CD) (x:Int) (y:Int) (hd:Bool) (mo:Int) (ti:ByteArray) (l:List ByteArray) (v:Int):sp_mrow (jwJ k r L x y hd mo ti l v)=some (jwK k r L x y hd mo ti l v):=jak _ injS (k,r,L,x,y,hd,mo,ti,l,v)
theorem jwL:Alias Tryz.prog E0 105 sp_mrow:=Alias.of fun⟨k,r,L,x,y,hd,mo,ti,l,v⟩ hG=>TF.intro (V:=(VV [] GOk.nil 17 0)) jeC rfl rfl (by
 dsimp only[jwJ,jwK]at hG ⊢
 obtain⟨hk,hv,hl,hL⟩:=hG
 obtain⟨k,rfl⟩:∃n:Nat,k=n:=⟨k.toNat,by omega⟩
 obtain⟨v,rfl⟩:∃n:Nat,v=n:=⟨v.toNat,by omega⟩
 simp only[Int.toNat_natCast]at hl ⊢
 have hm:=jfo hl
 have hm2:(v+1)*k=v*k+k:=by rw[Nat.add_mul];omega
 have hvk:v*k≤1000000:=by omega
 repeat' first|simp only[SA,seval,rdB,tq0,tq1,tq2]|refine tT ?_|refine Cos.intro [] [0,1,2,3,4,5,6,7,8,9] rfl ?_|refine And.intro ?_ ?_|exact tC|(refine tI ?_;intro hyp)|intro hyp0|omega
 rfl)
theorem jhY (l:List Nat):jc7 (l.map Int.ofNat)=jbc l:=by
 unfold jc7 jbc
 rw[List.flatMap_map]
 rfl
theorem jk9 (l m:List Nat):jbc (l++m)=jbc l++jbc m:=by
 unfold jbc
 rw[List.flatMap_append]
abbrev jla (k:Int) (r:Int) (L:List CD) (x:Int) (y:Int) (hd:Bool) (mo:Int) (ti:ByteArray) (l:List ByteArray) (k':Int) (r':Int) (L':List CD) (x':Int) (y':Int) (hd':Bool) (mo':Int) (ti':ByteArray) (l':List ByteArray):List CV:=[.agg [.int .i64 k,.int .i64 r,.vec .cell L,.int .i64 x,.int .i64 y,.bool hd,.int .u8 mo,.str ti,.vec .str l],.agg [.int .i64 k',.int .i64 r',.vec .cell L',.int .i64 x',.int .i64 y',.bool hd',.int .u8 mo',.str ti',.vec .str l']]
abbrev jlb (k:Int) (r:Int) (L:List CD) (x:Int) (y:Int) (hd:Bool) (mo:Int) (ti:ByteArray) (l:List ByteArray) (k':Int) (r':Int) (L':List CD) (x':Int) (y':Int) (hd':Bool) (mo':Int) (ti':ByteArray) (l':List ByteArray):Prop×Res:=((k=k'∧r=r')∧((0≤k∧k≤100)∧(0≤r∧r≤100))∧L.length=k.toNat*r.toNat∧L'.length=k.toNat*r.toNat,.ret (.tup [.vec .cell (cpyL k.toNat r.toNat L L'),.vec (.int .u8) (jjq (jau (jam L k.toNat r.toNat) (jam L' k.toNat r.toNat) r.toNat).1)]))
noncomputable def sp_mcopies:Spec:=spOf (α:=Int×Int×(List CD)×Int×Int×Bool×Int×ByteArray×(List ByteArray)×Int×Int×(List CD)×Int×Int×Bool×Int×ByteArray×(List ByteArray)) (fun⟨k,r,L,x,y,hd,mo,ti,l,k',r',L',x',y',hd',mo',ti',l'⟩=>jla k r L x y hd mo ti l k' r' L' x' y' hd' mo' ti' l') fun⟨k,r,L,x,y,hd,mo,ti,l,k',r',L',x',y',hd',mo',ti',l'⟩=>jlb k r L x y hd mo ti l k' r' L' x' y' hd' mo' ti' l'
theorem jaj (k:Int) (r:Int) (L:List CD) (x:Int) (y:Int) (hd:Bool) (mo:Int) (ti:ByteArray) (l:List ByteArray) (k':Int) (r':Int) (L':List CD) (x':Int) (y':Int) (hd':Bool) (mo':Int) (ti':ByteArray) (l':List ByteArray):sp_mcopies (jla k r L x y hd mo ti l k' r' L' x' y' hd' mo' ti' l')=some (jlb k r L x y hd mo ti l k' r' L' x' y' hd' mo' ti' l'):=jak _ injS (k,r,L,x,y,hd,mo,ti,l,k',r',L',x',y',hd',mo',ti',l')
theorem jtD:Fresh Tryz.prog E0 87 sp_mcopies:=Fresh.of fun⟨k,r,L,x,y,hd,mo,ti,l,k',r',L',x',y',hd',mo',ti',l'⟩ hG=>TF.intro (V:=(VV [(24,conT [.sl .cell] sp_clone),(105,conA [.agg [.any,.any,.sl .cell,.any,.any,.any,.any,.any,.sl .str],.any] sp_mrow),(116,conF [.sl .cell,.sl .cell] sp_equal),(91,conT [.sl (.int .i64)] sp_vars),(49,conT [.any,.sl (.int .i64)] sp_put)] (.cons (jaa ja7) (Fresh.soundT jgB) (.cons (jaa jeC) (Alias.soundA jwL) (.cons (jaa jce) (Fresh.soundF jr9) (.cons (jaa jdR) (Fresh.soundT jqG) (.cons (jaa jdw) (Fresh.soundT jsq) GOk.nil))))) 72 0)) jdx rfl rfl (by
 dsimp only[jla,jlb]at hG ⊢
 obtain⟨⟨rfl,rfl⟩,⟨hk,hr⟩,hL,hL'⟩:=hG
 obtain⟨k,rfl⟩:∃n:Nat,k=n:=⟨k.toNat,by omega⟩
 obtain⟨r,rfl⟩:∃n:Nat,r=n:=⟨r.toNat,by omega⟩
 simp only[Int.toNat_natCast]at hL hL' ⊢
 have hkr:k*r≤10000:=Nat.mul_le_mul (show k≤100 by omega) (show r≤100 by omega)
 have hA:=jbk hL
 have hB:=jbk hL'
 obtain⟨A,hAd⟩:∃A,A=jam L k r:=⟨_,rfl⟩
 obtain⟨B,hBd⟩:∃B,B=jam L' k r:=⟨_,rfl⟩
 have hcp:cpyL k r L L'=((List.range r).map (jb3 A B)).flatten:=by rw[hAd,hBd];rfl
 have hma:∀y,y<r→jaY L k y=mAt A y:=fun y h=>by rw[hAd];exact (jdD h).symm
 have hmb:∀y,y<r→jaY L' k y=mAt B y:=fun y h=>by rw[hBd];exact (jdD h).symm
 rw[←hAd]at hA
 rw[←hBd]at hB
 have hstart:jcA A B 0=L:=by
  unfold jcA
  rw[hAd]
  simpa using jds hL
 rw[hcp,←hAd,←hBd]
 have hal:=hA.len
 repeat' first|simp only[SA,seval,rdB,jaf,jaZ,ja8,jaF,jae,tq0,tq1,tq2]|simp only[hw]|simp only[hw2]|simp only[hw3]|simp only[hw4]|refine tT ?_|refine And.intro ?_ ?_|exact tC|(refine tI ?_;intro hyp)|intro hyp0|omega
 refine T.loop (fun v:Nat=>⟨[(2,.ptr 0 0 0),(3,.ptr 1 0 0),(6,.slice 2 0 6 (k*r) (k*r)),(7,.slice 3 0 1 (jbc (jau A B v).1).length (jbc (jau A B v).1).length),(8,.int .i64 ((jau A B v).1.length / 2:Nat)),(9,.int .i64 (jau A B v).2),(16,.int .i64 r),(17,.int .i64 v)],[.box [.int .i64 k,.int .i64 r,.vec .cell L,.int .i64 x,.int .i64 y,.bool hd,.int .u8 mo,.str ti,.vec .str l],.box [.int .i64 k,.int .i64 r,.vec .cell L',.int .i64 x',.int .i64 y',.bool hd',.int .u8 mo',.str ti',.vec .str l'],.seq .cell (jcA A B v),.seq (.int .u8) (jbc (jau A B v).1)]⟩) (fun v=>v≤r) (fun v=>r-v) 0 (by omega) (Cos.intro [0,1,2,99] [] rfl (by rw[hstart];simp only[SA,seval,rdB,jaf,jaZ,ja8,jaF,jae,tq0,tq1,tq2];simp[jau,jbc,crs,crsL,jct,hL])) (fun v hv=>?_)
 have hnf:=jc2 A B v
 have hne:=jdu A B v
 have hvl:(jbc (jau A B v).1).length≤20*v:=by
  have:=jcm (jau A B v).1 (fun x hx=>by have:=hnf.2.2 x hx;omega)
  omega
 have hcl:=jts hA hB (show v≤r from hv)
 by_cases hvr:v<r
 ·have hrow:(v+1)*k≤k*r:=by
   rw[Nat.mul_comm k r]
   exact Nat.mul_le_mul_right k hvr
  have hvk:v*k+k≤k*r:=by rw[←Nat.succ_mul];exact hrow
  have hw:=hma v hvr
  have hw2:=hmb v hvr
  have hbl:=(hB.at_ hvr).1
  have hal1:=(hA.at_ hvr).1
  by_cases heq:mAt A v=mAt B v
  ·have hsn:jau A B (v+1)=jau A B v:=by rw[jau,if_pos heq]
   have hcs:=jdv (B:=B) (show v<A.length by omega) (jfS (by omega) heq)
   repeat' first|(rw[hL];exact hrow)|(rw[hL'];exact hrow)|exact absurd heq hyp|simp only[SA,seval,rdB,jaf,jaZ,ja8,jaF,jae,tq0,tq1,tq2]|simp only[hw]|simp only[hw2]|simp only[hw3]|simp only[hw4]|refine tT ?_|refine And.intro ?_ ?_|exact tC|(refine tI ?_;intro hyp)|intro hyp0|omega
   exact⟨v+1,by omega,by omega,Cos.intro [0,1,2,3] [] rfl (by rw[hsn,hcs];(simp only[SA,seval,rdB,jaf,jaZ,ja8,jaF,jae,tq0,tq1,tq2]<;>exact tE))⟩
  ·repeat' first|(rw[hL];exact hrow)|(rw[hL'];exact hrow)|exact absurd hyp heq|simp only[SA,seval,rdB,jaf,jaZ,ja8,jaF,jae,tq0,tq1,tq2]|simp only[hw]|simp only[hw2]|simp only[hw3]|simp only[hw4]|refine tT ?_|refine And.intro ?_ ?_|exact tC|(refine tI ?_;intro hyp)|intro hyp0|omega
   refine T.loop (fun z:Nat=>⟨[(2,.ptr 0 0 0),(3,.ptr 1 0 0),(6,.slice 2 0 6 (k*r) (k*r)),(7,.slice 3 0 1 (jbc (jau A B v).1).length (jbc (jau A B v).1).length),(8,.int .i64 ((jau A B v).1.length / 2:Nat)),(9,.int .i64 (jau A B v).2),(10,.int .i64 v),(16,.int .i64 r),(17,.int .i64 v),(28,.int .i64 r),(29,.int .i64 z)],[.box [.int .i64 k,.int .i64 r,.vec .cell L,.int .i64 x,.int .i64 y,.bool hd,.int .u8 mo,.str ti,.vec .str l],.box [.int .i64 k,.int .i64 r,.vec .cell L',.int .i64 x',.int .i64 y',.bool hd',.int .u8 mo',.str ti',.vec .str l'],.seq .cell (jcA A B v),.seq (.int .u8) (jbc (jau A B v).1)]⟩) (fun z=>z≤r∧∀u,u<z→mAt A u≠mAt B v) (fun z=>r-z) 0 ⟨by omega,fun u hu=>by omega⟩ (Cos.intro [0,1,2,3] [] rfl (by (simp only[SA,seval,rdB,jaf,jaZ,ja8,jaF,jae,tq0,tq1,tq2]<;>exact tE))) (fun z ⟨hz,hno⟩=>?_)
   by_cases hzr:z<r
   ·have hrow2:(z+1)*k≤k*r:=by
     rw[Nat.mul_comm k r]
     exact Nat.mul_le_mul_right k hzr
    have hw3:=hma z hzr
    have hal2:=(hA.at_ hzr).1
    have hbd:(jau A B v).2≤v:=hnf.1
    have hvv:jc7 [(v:Int)-(jau A B v).2,(z:Int)]=jbc [v-(jau A B v).2,z]:=by
     rw[←jhY,List.map_cons,List.map_cons,List.map_nil]
     congr 2
     exact (Int.ofNat_sub hbd).symm
    have hw4:=hvv
    have hvl2:=jcm [v-(jau A B v).2,z] (fun u hu=>by simp at hu;omega)
    simp only[List.length_cons,List.length_nil]at hvl2
    by_cases hzz:mAt A z=mAt B v
    ·have hfz:=jiD (n:=A.length) hno hzz (by omega)
     have hsn:jau A B (v+1)=((jau A B v).1++[v-(jau A B v).2,z],v+1):=by rw[jau,if_neg heq,hfz]
     have hcs:=jkM hA hB hvr (jqA hno hzz (by omega))
     rw[hbl]at hcs
     have hm5:min (mAt B v).length (k*r-v*k)=k:=by omega
     have htk:List.take k (mAt B v)=mAt B v:=List.take_of_length_le (by omega)
     have hroom:v*k+(k*r-v*k)≤(jcA A B v).length:=by
      rw[hcl,Nat.mul_comm r k]
      omega
     repeat' first|exact hroom|(rw[hL];exact hrow)|(rw[hL'];exact hrow)|(rw[hL];exact hrow2)|exact absurd hzz hyp|simp only[SA,seval,rdB,jaf,jaZ,ja8,jaF,jae,tq0,tq1,tq2]|simp only[hw]|simp only[hw2]|simp only[hw3]|simp only[hw4]|refine tT ?_|refine And.intro ?_ ?_|exact tC|(refine tI ?_;intro hyp)|intro hyp0|omega
     exact⟨v+1,by omega,by omega,Cos.intro [0,1,2,6] [] rfl (by rw[hm5,htk,hcs,hsn];simp only[jk9];(simp only[SA,seval,rdB,jaf,jaZ,ja8,jaF,jae,tq0,tq1,tq2]<;>exact tE))⟩
    ·repeat' first|(rw[hL];exact hrow)|(rw[hL'];exact hrow)|(rw[hL];exact hrow2)|exact absurd hyp hzz|simp only[SA,seval,rdB,jaf,jaZ,ja8,jaF,jae,tq0,tq1,tq2]|simp only[hw]|simp only[hw2]|simp only[hw3]|simp only[hw4]|refine tT ?_|refine And.intro ?_ ?_|exact tC|(refine tI ?_;intro hyp)|intro hyp0|omega
     exact⟨z+1,⟨by omega,fun u hu=>if e:u=z then by subst e;exact hzz else hno u (by omega)⟩,by omega,Cos.intro [0,1,2,3] [] rfl (by (simp only[SA,seval,rdB,jaf,jaZ,ja8,jaF,jae,tq0,tq1,tq2]<;>exact tE))⟩
   ·obtain rfl:z=r:=by omega
    have hsn:jau A B (v+1)=jau A B v:=by rw[jau,if_neg heq,jgG (fun u hu=>hno u (by omega))]
    have hcs:=jdv (B:=B) (show v<A.length by omega) (jqz fun u hu=>hno u (by omega))
    repeat' first|simp only[SA,seval,rdB,jaf,jaZ,ja8,jaF,jae,tq0,tq1,tq2]|simp only[hw]|simp only[hw2]|simp only[hw3]|simp only[hw4]|refine tT ?_|refine And.intro ?_ ?_|exact tC|(refine tI ?_;intro hyp)|intro hyp0|omega
    exact⟨v+1,by omega,by omega,Cos.intro [0,1,2,3] [] rfl (by rw[hsn,hcs];(simp only[SA,seval,rdB,jaf,jaZ,ja8,jaF,jae,tq0,tq1,tq2]<;>exact tE))⟩
 ·obtain rfl:v=r:=by omega
  have hce:jcA A B v=((List.range v).map (jb3 A B)).flatten:=by
   unfold jcA
   rw[List.drop_of_length_le (by omega)]
   simp
  rw[←hce]
  obtain⟨nums,hnm⟩:∃nums,nums=(jau A B v).1:=⟨_,rfl⟩
  rw[←hnm]at hne hvl hnf ⊢
  have hw:jc7 [((nums.length / 2:Nat):Int)]=varN (nums.length / 2):=by simp only[jc7,List.flatMap_cons,List.flatMap_nil,List.append_nil,Int.toNat_natCast]
  have h10:=jb2 (nums.length / 2) (by omega)
  repeat' first|simp only[SA,seval,rdB,jaf,jaZ,ja8,jaF,jae,tq0,tq1,tq2]|simp only[hw]|simp only[hw2]|simp only[hw3]|simp only[hw4]|refine tT ?_|refine And.intro ?_ ?_|exact tC|(refine tI ?_;intro hyp)|intro hyp0|omega
  ·have h0:nums=[]:=List.eq_nil_of_length_eq_zero (by omega)
   rw[h0]
   exact Cos.intro [2,99] [] rfl (by simp only[SA,seval,rdB,jaf,jaZ,ja8,jaF,jae,tq0,tq1,tq2];simp[jjq,crs,crsL,jct,hcl,Nat.mul_comm])
  ·have h0:nums≠[]:=fun e=>by rw[e]at hyp;exact hyp rfl
   refine Cos.intro [2,6] [] rfl ?_
   simp only[jjq,if_neg h0]
   simp only[SA,seval,rdB,jaf,jaZ,ja8,jaF,jae,tq0,tq1,tq2]
   simp[hcl,Nat.mul_comm]
   omega)
end
end Go.Proofs.YtcfkfgkndncanaaGreatDoor
