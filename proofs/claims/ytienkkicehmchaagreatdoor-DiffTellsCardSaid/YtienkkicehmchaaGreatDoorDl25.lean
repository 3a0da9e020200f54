/- Texts of this claim, merged by a program of this claim: FDif3. -/
import Derived.Test.YtienkkicehmchaaGreatDoorDl16
import Derived.Test.YtienkkicehmchaaGreatDoorDl21
import Derived.Test.YtienkkicehmchaaGreatDoorDl24
import Derived.Test.YtienkkicehmchaaGreatDoorDl6
namespace Go.Proofs.YtienkkicehmchaaGreatDoor
open And renaming intro→qaa
open Cos renaming intro→qab
open Nat renaming mul_comm→qac,mul_le_mul_right→qad
noncomputable section
set_option linter.unusedVariables false
set_option linter.unusedSimpArgs false
section
open Go.RowKit
set_option maxRecDepth 100000
set_option maxHeartbeats 4000000
theorem jw9:penB ⟨0,0,0,0⟩=true:=by decide
theorem jqJ {k r:Int}{L:List CD}(h:jbo k r L=true):(1≤k∧k≤80)∧(1≤r∧r≤24)∧(L.length:Int)=k*r∧L.length≤1920:=by
 have hg2:=h
 simp only[jbo,HB,ne_eq,reduceCtorEq]at hg2
 have hf:=jbA.1 hg2.1.1
 have h1:k*r≤80*r:=Int.mul_le_mul_of_nonneg_right (by omega) (by omega)
 refine⟨by omega,by omega,hg2.1.2,?_⟩
 have:=hg2.1.2
 omega
abbrev jmS:List AK:=[.agg [.any,.any,.sl .cell,.any,.any,.any,.any,.any,.sl .str],.any]
abbrev q_mscrolled (k r:Int) (L:List CD) (x y:Int) (hd:Bool) (mo:Int) (ti:ByteArray) (l:List ByteArray) (m:Int):QA:=([.agg [.int .i64 k,.int .i64 r,.vec .cell L,.int .i64 x,.int .i64 y,.bool hd,.int .u8 mo,.str ti,.vec .str l],.int .i64 m],jbo k r L=true∧CWs L∧(-1000000≤m∧m≤1000000),.ret (.vec .cell (jaM (jak L k.toNat r.toNat) m).flatten))
def sp_mscrolled:=spQ (u10 q_mscrolled)
theorem jjx:W10 (hA sp_mscrolled) q_mscrolled:=w10 (aA rfl)
theorem jmT:Fre 177 sp_mscrolled:=ofT (u10 q_mscrolled) fun⟨k,r,L,x,y,hd,mo,ti,l,m⟩ hG=>tfi (.t jqH jgo jqI .nil) 0 jei (by
 dsimp only[u10,q_mscrolled]at hG ⊢
 have zc:=Hk.mk (qaa @jlI (qaa @tq0 (qaa @tq1 @tq2)))
 obtain⟨hg,hc,hm⟩:=hG
 have hf:=jqJ hg
 have hsa:=jn1 (L:=L) (k:=k.toNat) (r:=r.toNat) (by omega) m
 have hw:(r-1).toNat=r.toNat-1:=by omega
 have hw2:jb6 (jak L k.toNat r.toNat) 0 (r.toNat-1) m { fg:=0,bg:=0,attrs:=0,link:=0 }=jaM (jak L k.toNat r.toNat) m:=hsa
 repeat' first|exact hg|exact jw9|exact hc|refine tU ?_|refine qaa ?_ ?_|(refine tI ?_;intro hyp)|intro hyp0|exact tZ|omega
 exact qab [2] [] rfl (by exact tF))
abbrev jxa:List AK:=[.agg [.any,.any,.sl .cell,.any,.any,.any,.any,.any,.sl .str],.any]
abbrev q_mrow (k r:Int) (L:List CD) (x y:Int) (hd:Bool) (mo:Int) (ti:ByteArray) (l:List ByteArray) (v:Int):QA:=([.agg [.int .i64 k,.int .i64 r,.vec .cell L,.int .i64 x,.int .i64 y,.bool hd,.int .u8 mo,.str ti,.vec .str l],.int .i64 v],(0≤k∧k≤100)∧(0≤v∧v≤1000)∧(v.toNat+1)*k.toNat≤L.length∧L.length≤1000000,.ret (.vec .cell (jas L k.toNat v.toNat)))
def sp_mrow:=spQ (u10 q_mrow)
theorem jqK:W10 (hA sp_mrow) q_mrow:=w10 (aA rfl)
theorem jxb:Al 197 sp_mrow:=ofA (u10 q_mrow) fun⟨k,r,L,x,y,hd,mo,ti,l,v⟩ hG=>tfi .nil 0 jjw (by
 dsimp only[u10,q_mrow]at hG ⊢
 have zc:=Hk.mk (qaa @tq0 (qaa @tq1 @tq2))
 obtain⟨hk,hv,hl,hL⟩:=hG
 obtain⟨k,rfl⟩:∃n:Nat,k=n:=⟨k.toNat,by omega⟩
 obtain⟨v,rfl⟩:∃n:Nat,v=n:=⟨v.toNat,by omega⟩
 simp only[Int.toNat_natCast]at hl ⊢
 have hm:=jch hl
 have hm2:(v+1)*k=v*k+k:=by rw[Nat.add_mul];omega
 have hvk:v*k≤1000000:=by omega
 repeat' first|refine tU ?_|refine qab [] [0,1,2,3,4,5,6,7,8,9] rfl ?_|refine qaa ?_ ?_|(refine tI ?_;intro hyp)|intro hyp0|exact tZ|omega
 rfl)
theorem jbw (l:List Nat):jau (l.map Int.ofNat)=jaq l:=by
 unfold jau jaq
 rw[List.flatMap_map]
 rfl
theorem jjy (l m:List Nat):jaq (l++m)=jaq l++jaq m:=by
 unfold jaq
 rw[List.flatMap_append]
abbrev jqL:List AK:=[.agg [.any,.any,.sl .cell,.any,.any,.any,.any,.any,.sl .str],.agg [.any,.any,.sl .cell,.any,.any,.any,.any,.any,.sl .str]]
abbrev q_mcopies (k r:Int) (L:List CD) (x y:Int) (hd:Bool) (mo:Int) (ti:ByteArray) (l:List ByteArray) (k' r':Int) (L':List CD) (x' y':Int) (hd':Bool) (mo':Int) (ti':ByteArray) (l':List ByteArray):QA:=([.agg [.int .i64 k,.int .i64 r,.vec .cell L,.int .i64 x,.int .i64 y,.bool hd,.int .u8 mo,.str ti,.vec .str l],.agg [.int .i64 k',.int .i64 r',.vec .cell L',.int .i64 x',.int .i64 y',.bool hd',.int .u8 mo',.str ti',.vec .str l']],(k=k'∧r=r')∧((0≤k∧k≤100)∧(0≤r∧r≤100))∧L.length=k.toNat*r.toNat∧L'.length=k.toNat*r.toNat,.ret (.tup [.vec .cell (cpyL k.toNat r.toNat L L'),.vec (.int .u8) (jgs (jae (jak L k.toNat r.toNat) (jak L' k.toNat r.toNat) r.toNat).1)]))
def sp_mcopies:=spQ (u18 q_mcopies)
theorem jlJ:W18 (hA sp_mcopies) q_mcopies:=w18 (aA rfl)
theorem jqM:Fre 178 sp_mcopies:=ofT (u18 q_mcopies) fun⟨k,r,L,x,y,hd,mo,ti,l,k',r',L',x',y',hd',mo',ti',l'⟩ hG=>tfi (.t [.sl .cell] jaT jid (.a jxa jjw jxb (.f [.sl .cell,.sl .cell] ja5 jlq (.t [.sl (.int .i64)] jdj jnZ (.t jo8 jcX jo9 .nil))))) 0 jdM (by
 dsimp only[u18,q_mcopies]at hG ⊢
 have zc:=Hk.mk (qaa @jd1 (qaa @jqK (qaa @jfH (qaa @jha (qaa @jgr (qaa @tq0 (qaa @tq1 @tq2)))))))
 obtain⟨⟨rfl,rfl⟩,⟨hk,hr⟩,hL,hL'⟩:=hG
 obtain⟨k,rfl⟩:∃n:Nat,k=n:=⟨k.toNat,by omega⟩
 obtain⟨r,rfl⟩:∃n:Nat,r=n:=⟨r.toNat,by omega⟩
 simp only[Int.toNat_natCast]at hL hL' ⊢
 have hkr:k*r≤10000:=Nat.mul_le_mul (show k≤100 by omega) (show r≤100 by omega)
 have hA:=jaZ hL
 have hB:=jaZ hL'
 obtain⟨A,hAd⟩:∃A,A=jak L k r:=⟨_,rfl⟩
 obtain⟨B,hBd⟩:∃B,B=jak L' k r:=⟨_,rfl⟩
 have hcp:cpyL k r L L'=((List.range r).map (jaR A B)).flatten:=by rw[hAd,hBd];rfl
 have hma:∀y,y<r→jas L k y=mAt A y:=fun y h=>by rw[hAd];exact (jcE h).symm
 have hmb:∀y,y<r→jas L' k y=mAt B y:=fun y h=>by rw[hBd];exact (jcE h).symm
 rw[←hAd]at hA
 rw[←hBd]at hB
 have hstart:jcw A B 0=L:=by
  unfold jcw
  rw[hAd]
  simpa using jdI hL
 rw[hcp,←hAd,←hBd]
 have hal:=hA.len
 repeat' first|refine tU ?_|refine qaa ?_ ?_|(refine tI ?_;intro hyp)|intro hyp0|exact tZ|omega
 refine T.loop (fun v:Nat=>⟨[(2,.ptr 0 0 0),(3,.ptr 1 0 0),(6,.slice 2 0 6 (k*r) (k*r)),(7,.slice 3 0 1 (jaq (jae A B v).1).length (jaq (jae A B v).1).length),(8,.int .i64 ((jae A B v).1.length / 2:Nat)),(9,.int .i64 (jae A B v).2),(16,.int .i64 r),(17,.int .i64 v)],[.box [.int .i64 k,.int .i64 r,.vec .cell L,.int .i64 x,.int .i64 y,.bool hd,.int .u8 mo,.str ti,.vec .str l],.box [.int .i64 k,.int .i64 r,.vec .cell L',.int .i64 x',.int .i64 y',.bool hd',.int .u8 mo',.str ti',.vec .str l'],.seq .cell (jcw A B v),.seq (.int .u8) (jaq (jae A B v).1)]⟩) (fun v=>v≤r) (fun v=>r-v) 0 (by omega) (qab [0,1,2,99] [] rfl (by rw[hstart];simp only[PB,SAM,seval,rdB,Hk.out zc];simp[jae,jaq,crs,crsL,jaE,hL])) (fun v hv=>?_)
 have hnf:=jck A B v
 have hne:=jfN A B v
 have hvl:(jaq (jae A B v).1).length≤20*v:=by
  have:=jaI (jae A B v).1 (fun x hx=>by have:=hnf.2.2 x hx;omega)
  omega
 have hcl:=jqv hA hB (show v≤r from hv)
 by_cases hvr:v<r
 ·have hrow:(v+1)*k≤k*r:=by
   rw[qac k r]
   exact qad k hvr
  have hvk:v*k+k≤k*r:=by rw[←Nat.succ_mul];exact hrow
  have hw:=hma v hvr
  have hw2:=hmb v hvr
  have hbl:=(hB.at_ hvr).1
  have hal1:=(hA.at_ hvr).1
  by_cases heq:mAt A v=mAt B v
  ·have hsn:jae A B (v+1)=jae A B v:=by rw[jae,if_pos heq]
   have hcs:=jjc (B:=B) (show v<A.length by omega) (jjd (by omega) heq)
   repeat' first|(rw[hL];exact hrow)|(rw[hL'];exact hrow)|exact absurd heq hyp|refine tU ?_|refine qaa ?_ ?_|(refine tI ?_;intro hyp)|intro hyp0|exact tZ|omega
   exact⟨v+1,by omega,by omega,qab [0,1,2,3] [] rfl (by rw[hsn,hcs];exact tF)⟩
  ·repeat' first|(rw[hL];exact hrow)|(rw[hL'];exact hrow)|exact absurd hyp heq|refine tU ?_|refine qaa ?_ ?_|(refine tI ?_;intro hyp)|intro hyp0|exact tZ|omega
   refine T.loop (fun z:Nat=>⟨[(2,.ptr 0 0 0),(3,.ptr 1 0 0),(6,.slice 2 0 6 (k*r) (k*r)),(7,.slice 3 0 1 (jaq (jae A B v).1).length (jaq (jae A B v).1).length),(8,.int .i64 ((jae A B v).1.length / 2:Nat)),(9,.int .i64 (jae A B v).2),(10,.int .i64 v),(16,.int .i64 r),(17,.int .i64 v),(28,.int .i64 r),(29,.int .i64 z)],[.box [.int .i64 k,.int .i64 r,.vec .cell L,.int .i64 x,.int .i64 y,.bool hd,.int .u8 mo,.str ti,.vec .str l],.box [.int .i64 k,.int .i64 r,.vec .cell L',.int .i64 x',.int .i64 y',.bool hd',.int .u8 mo',.str ti',.vec .str l'],.seq .cell (jcw A B v),.seq (.int .u8) (jaq (jae A B v).1)]⟩) (fun z=>z≤r∧∀u,u<z→mAt A u≠mAt B v) (fun z=>r-z) 0 ⟨by omega,fun u hu=>by omega⟩ (qab [0,1,2,3] [] rfl (by exact tF)) (fun z ⟨hz,hno⟩=>?_)
   by_cases hzr:z<r
   ·have hrow2:(z+1)*k≤k*r:=by
     rw[qac k r]
     exact qad k hzr
    have hw3:=hma z hzr
    have hal2:=(hA.at_ hzr).1
    have hbd:(jae A B v).2≤v:=hnf.1
    have hvv:jau [(v:Int)-(jae A B v).2,(z:Int)]=jaq [v-(jae A B v).2,z]:=by
     rw[←jbw,List.map_cons,List.map_cons,List.map_nil]
     congr 2
     exact (Int.ofNat_sub hbd).symm
    have hw4:=hvv
    have hvl2:=jaI [v-(jae A B v).2,z] (fun u hu=>by simp at hu;omega)
    simp only[List.length_cons,List.length_nil]at hvl2
    by_cases hzz:mAt A z=mAt B v
    ·have hfz:=je9 (n:=A.length) hno hzz (by omega)
     have hsn:jae A B (v+1)=((jae A B v).1++[v-(jae A B v).2,z],v+1):=by rw[jae,if_neg heq,hfz]
     have hcs:=jn2 hA hB hvr (jjf hno hzz (by omega))
     rw[hbl]at hcs
     have hm5:min (mAt B v).length (k*r-v*k)=k:=by omega
     have htk:List.take k (mAt B v)=mAt B v:=List.take_of_length_le (by omega)
     have hroom:v*k+(k*r-v*k)≤(jcw A B v).length:=by
      rw[hcl,qac r k]
      omega
     repeat' first|exact hroom|(rw[hL];exact hrow)|(rw[hL'];exact hrow)|(rw[hL];exact hrow2)|exact absurd hzz hyp|refine tU ?_|refine qaa ?_ ?_|(refine tI ?_;intro hyp)|intro hyp0|exact tZ|omega
     exact⟨v+1,by omega,by omega,qab [0,1,2,6] [] rfl (by rw[hm5,htk,hcs,hsn];simp only[jjy];exact tF)⟩
    ·repeat' first|(rw[hL];exact hrow)|(rw[hL'];exact hrow)|(rw[hL];exact hrow2)|exact absurd hyp hzz|refine tU ?_|refine qaa ?_ ?_|(refine tI ?_;intro hyp)|intro hyp0|exact tZ|omega
     exact⟨z+1,⟨by omega,fun u hu=>if e:u=z then by subst e;exact hzz else hno u (by omega)⟩,by omega,qab [0,1,2,3] [] rfl (by exact tF)⟩
   ·obtain rfl:z=r:=by omega
    have hsn:jae A B (v+1)=jae A B v:=by rw[jae,if_neg heq,jcN (fun u hu=>hno u (by omega))]
    have hcs:=jjc (B:=B) (show v<A.length by omega) (jje fun u hu=>hno u (by omega))
    repeat' first|refine tU ?_|refine qaa ?_ ?_|(refine tI ?_;intro hyp)|intro hyp0|exact tZ|omega
    exact⟨v+1,by omega,by omega,qab [0,1,2,3] [] rfl (by rw[hsn,hcs];exact tF)⟩
 ·obtain rfl:v=r:=by omega
  have hce:jcw A B v=((List.range v).map (jaR A B)).flatten:=by
   unfold jcw
   rw[List.drop_of_length_le (by omega)]
   simp
  rw[←hce]
  obtain⟨nums,hnm⟩:∃nums,nums=(jae A B v).1:=⟨_,rfl⟩
  rw[←hnm]at hne hvl hnf ⊢
  have hw:jau [((nums.length / 2:Nat):Int)]=varN (nums.length / 2):=by simp only[jau,List.flatMap_cons,List.flatMap_nil,List.append_nil,Int.toNat_natCast]
  have h10:=jan (nums.length / 2) (by omega)
  repeat' first|refine tU ?_|refine qaa ?_ ?_|(refine tI ?_;intro hyp)|intro hyp0|exact tZ|omega
  ·have h0:nums=[]:=List.eq_nil_of_length_eq_zero (by omega)
   rw[h0]
   exact qab [2,99] [] rfl (by simp only[PB,SAM,seval,rdB,Hk.out zc];simp[jgs,crs,crsL,jaE,hcl,qac])
  ·have h0:nums≠[]:=fun e=>by rw[e]at hyp;exact hyp rfl
   refine qab [2,6] [] rfl ?_
   simp only[jgs,if_neg h0]
   simp only[PB,SAM,seval,rdB,Hk.out zc]
   simp[hcl,qac]
   omega)
end
end
end Go.Proofs.YtienkkicehmchaaGreatDoor
