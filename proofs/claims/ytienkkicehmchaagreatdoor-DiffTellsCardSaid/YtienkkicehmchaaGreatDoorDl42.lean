/- Texts of this claim, merged by a program of this claim: FEnc, ThereM3, VerM, KDiff, KDiffA. -/
import Derived.Test.YtienkkicehmchaaGreatDoorDl28
import Derived.Test.YtienkkicehmchaaGreatDoorDl29
import Derived.Test.YtienkkicehmchaaGreatDoorDl32
import Derived.Test.YtienkkicehmchaaGreatDoorDl33
import Derived.Test.YtienkkicehmchaaGreatDoorDl34
import Derived.Test.YtienkkicehmchaaGreatDoorDl37
import Derived.Test.YtienkkicehmchaaGreatDoorDl38
import Derived.Test.YtienkkicehmchaaGreatDoorDl41
import Derived.Test.YtienkkicehmchaaGreatDoorDl5
import Derived.Test.YtienkkicehmchaaGreatDoorDl6
namespace Go.Proofs.YtienkkicehmchaaGreatDoor
open And renaming intro→qaa
open Cos renaming intro→qab
noncomputable section
set_option linter.unusedVariables false
set_option linter.unusedSimpArgs false
section
open Go.RowKit
set_option maxRecDepth 100000
set_option maxHeartbeats 4000000
abbrev jpC:List AK:=[.agg [.any,.any,.sl .cell,.any,.any,.any,.any,.any,.sl .str]]
abbrev q_mfull (k r:Int) (L:List CD) (x y:Int) (hd:Bool) (mo:Int) (ti:ByteArray) (l:List ByteArray):QA:=([.agg [.int .i64 k,.int .i64 r,.vec .cell L,.int .i64 x,.int .i64 y,.bool hd,.int .u8 mo,.str ti,.vec .str l]],(ScrOk L l∧SLen ti)∧0≤mo,.ret (.tup [.vec (.int .u8) (jcn k r L x y hd mo ti l),.int .i64 (errN (jai k r L x y mo ti l))]))
def sp_mfull:=spQ (u9 q_mfull)
theorem jjJ:W9 (hA sp_mfull) q_mfull:=w9 (aA rfl)
theorem jpD:Fre 107 sp_mfull:=ofT (u9 q_mfull) fun⟨k,r,L,x,y,hd,mo,ti,l⟩ hG=>tfi (.f jeO jbI jeP (.t [.any,.any] jbU jjA (.t jo8 jcX jo9 (.t jtl jfT jtm .nil)))) 0 jeU (by
 dsimp only[u9,q_mfull]at hG ⊢
 have zc:=Hk.mk (qaa @jcp (qaa @jeW (qaa @jgr @jkM)))
 obtain⟨⟨hs,ht⟩,hmo⟩:=hG
 cases hw:jai k r L x y mo ti l
 ·have e:jcn k r L x y hd mo ti l=[]:=by rw[jcn,if_neg (by rw[hw];decide)]
  repeat' first|exact hs|refine tU ?_|refine qaa ?_ ?_|(refine tI ?_;intro hyp)|intro hyp0|exact tZ|omega
  exact qab [99] [] rfl (by rw[e];simp only[PB,SAM,seval,rdB,Hk.out zc];simp[crs,crsL,jaE,errN])
 ·obtain⟨K,R,X,Y,M,rfl,rfl,rfl,rfl,rfl,f⟩:=jaj hw hmo
  have hk:=f.k1
  have hr:=f.r1
  have hKR:K*R≤1920:=Nat.mul_le_mul (show K≤80 by omega) (show R≤24 by omega)
  have hbr:=jca hk hr
  have hbo:=jfc K R (by omega)
  have hf:jb5 (K:Int) R=true:=jbA.2 (by omega)
  have hw2:List.take (K*R) (List.replicate (K*R) blank0)=jah K R:=List.take_of_length_le (by simp)
  have hw3:jau [(K:Int),(R:Int)]=jaq [K,R]:=jbw [K,R]
  have hvl:=jaI [K,R] (fun u hu=>by simp at hu;omega)
  simp only[List.length_cons,List.length_nil]at hvl
  have hx:=f.x1
  have hy:=f.y1
  have hm:=f.mo1
  have hdl:=jgy (L1:=jah K R) (x1:=0) (y1:=0) (hd1:=false) (m1:=0) (t1:=bs []) (l1:=[]) (L2:=L) (x2:=X) (y2:=Y) (hd2:=hd) (m2:=M) (t2:=ti) (l2:=l) (k:=K) (r:=R) (by simp[jah]) (by omega) hr f.len hs.wf (by omega) (by omega) (by omega) f.ti1 f.l1 f.s64
  have e:jcn (K:Int) R L X Y hd M ti l=1::(jaq [K,R]++jfm K R (jah K R) 0 0 false 0 (bs []) [] L X Y hd M ti l):=by
   rw[jcn,if_pos hw]
   rfl
  repeat' first|exact hs|exact hf|exact hbo|exact hbr|refine tU ?_|refine qaa ?_ ?_|(refine tI ?_;intro hyp)|intro hyp0|exact tZ|omega
  refine qab [7] [] rfl ?_
  rw[e]
  simp only[errN]
  exact tF)
abbrev jm8:List AK:=[.agg [.any,.any,.sl .cell,.any,.any,.any,.any,.any,.sl .str]]
abbrev q_r8full (k r:Int) (L:List CD) (x y:Int) (hd:Bool) (mo:Int) (ti:ByteArray) (l:List ByteArray):QA:=([.agg [.int .i64 k,.int .i64 r,.vec .cell L,.int .i64 x,.int .i64 y,.bool hd,.int .u8 mo,.str ti,.vec .str l]],(ScrOk L l∧SLen ti)∧0≤mo,.ret (.tup [.vec (.int .u8) (jcn k r L x y hd mo ti l),.int .i64 (errN (jai k r L x y mo ti l))]))
def sp_r8full:=spQ (u9 q_r8full)
theorem jhM:W9 (hA sp_r8full) q_r8full:=w9 (aA rfl)
theorem jm9:Fre 28 sp_r8full:=ofT (u9 q_r8full) fun⟨k,r,L,x,y,hd,mo,ti,l⟩ hG=>tfi (.f jcY jb7 jcZ (.t [.any,.any] jc0 jfb (.t [.sl (.int .i64)] je8 jlw (.t jm6 jhh jm7 .nil)))) 0 jhi (by
 dsimp only[u9,q_r8full]at hG ⊢
 have zc:=Hk.mk (qaa @jbv (qaa @jcL (qaa @jfM @jhL)))
 obtain⟨⟨hs,ht⟩,hmo⟩:=hG
 cases hw:jai k r L x y mo ti l
 ·have e:jcn k r L x y hd mo ti l=[]:=by rw[jcn,if_neg (by rw[hw];decide)]
  repeat' first|exact hs|refine tU ?_|refine qaa ?_ ?_|(refine tI ?_;intro hyp)|intro hyp0|exact tZ|omega
  exact qab [99] [] rfl (by rw[e];simp only[PB,SAM,seval,rdB,Hk.out zc];simp[crs,crsL,jaE,errN])
 ·obtain⟨K,R,X,Y,M,rfl,rfl,rfl,rfl,rfl,f⟩:=jaj hw hmo
  have hk:=f.k1
  have hr:=f.r1
  have hKR:K*R≤1920:=Nat.mul_le_mul (show K≤80 by omega) (show R≤24 by omega)
  have hbr:=jca hk hr
  have hbo:=jfc K R (by omega)
  have hf:jb5 (K:Int) R=true:=jbA.2 (by omega)
  have hw2:List.take (K*R) (List.replicate (K*R) blank0)=jah K R:=List.take_of_length_le (by simp)
  have hw3:jau [(K:Int),(R:Int)]=jaq [K,R]:=jbw [K,R]
  have hvl:=jaI [K,R] (fun u hu=>by simp at hu;omega)
  simp only[List.length_cons,List.length_nil]at hvl
  have hx:=f.x1
  have hy:=f.y1
  have hm:=f.mo1
  have hdl:=jgy (L1:=jah K R) (x1:=0) (y1:=0) (hd1:=false) (m1:=0) (t1:=bs []) (l1:=[]) (L2:=L) (x2:=X) (y2:=Y) (hd2:=hd) (m2:=M) (t2:=ti) (l2:=l) (k:=K) (r:=R) (by simp[jah]) (by omega) hr f.len hs.wf (by omega) (by omega) (by omega) f.ti1 f.l1 f.s64
  have e:jcn (K:Int) R L X Y hd M ti l=1::(jaq [K,R]++jfm K R (jah K R) 0 0 false 0 (bs []) [] L X Y hd M ti l):=by
   rw[jcn,if_pos hw]
   rfl
  repeat' first|exact hs|exact hf|exact hbo|exact hbr|refine tU ?_|refine qaa ?_ ?_|(refine tI ?_;intro hyp)|intro hyp0|exact tZ|omega
  refine qab [9] [] rfl ?_
  rw[e]
  simp only[errN]
  exact tF)
abbrev jxu:List AK:=[.agg [.any,.any,.sl .cell,.any,.any,.any,.any,.any,.sl .str],.agg [.any,.any,.sl .cell,.any,.any,.any,.any,.any,.sl .str]]
abbrev q_menc (k r:Int) (L:List CD) (x y:Int) (hd:Bool) (mo:Int) (ti:ByteArray) (l:List ByteArray) (k' r':Int) (L':List CD) (x' y':Int) (hd':Bool) (mo':Int) (ti':ByteArray) (l':List ByteArray):QA:=([.agg [.int .i64 k,.int .i64 r,.vec .cell L,.int .i64 x,.int .i64 y,.bool hd,.int .u8 mo,.str ti,.vec .str l],.agg [.int .i64 k',.int .i64 r',.vec .cell L',.int .i64 x',.int .i64 y',.bool hd',.int .u8 mo',.str ti',.vec .str l']],((ScrOk L l∧SLen ti)∧0≤mo)∧((ScrOk L' l'∧SLen ti')∧0≤mo'),.ret (.tup [.vec (.int .u8) (encI k r L x y hd mo ti l k' r' L' x' y' hd' mo' ti' l'),.int .i64 (errN (jai k r L x y mo ti l&&jai k' r' L' x' y' mo' ti' l'))]))
def sp_menc:=spQ (u18 q_menc)
theorem jq3:W18 (hA sp_menc) q_menc:=w18 (aA rfl)
theorem jxv:Fre 106 sp_menc:=ofT (u18 q_menc) fun⟨k,r,L,x,y,hd,mo,ti,l,k',r',L',x',y',hd',mo',ti',l'⟩ hG=>tfi (.f jeO jbI jeP (.t jpC jeU jpD (.t jtl jfT jtm .nil))) 0 jfs (by
 dsimp only[u18,q_menc]at hG ⊢
 have zc:=Hk.mk (qaa @jcp (qaa @jjJ @jkM))
 obtain⟨⟨⟨hs,ht⟩,hmo⟩,⟨hs',ht'⟩,hmo'⟩:=hG
 cases hw:jai k r L x y mo ti l
 ·have e:encI k r L x y hd mo ti l k' r' L' x' y' hd' mo' ti' l'=[]:=by rw[encI,if_neg (by rw[hw];simp)]
  repeat' first|exact hs|refine tU ?_|refine qaa ?_ ?_|(refine tI ?_;intro hyp)|intro hyp0|exact tZ|omega
  exact qab [99] [] rfl (by rw[e];simp only[PB,SAM,seval,rdB,Hk.out zc];simp[crs,crsL,jaE,errN])
 ·cases hw2:jai k' r' L' x' y' mo' ti' l'
  ·have e:encI k r L x y hd mo ti l k' r' L' x' y' hd' mo' ti' l'=[]:=by rw[encI,if_neg (by rw[hw2];simp)]
   repeat' first|exact hs|exact hs'|refine tU ?_|refine qaa ?_ ?_|(refine tI ?_;intro hyp)|intro hyp0|exact tZ|omega
   exact qab [99] [] rfl (by rw[e];simp only[PB,SAM,seval,rdB,Hk.out zc];simp[crs,crsL,jaE,errN])
  ·have e0:encI k r L x y hd mo ti l k' r' L' x' y' hd' mo' ti' l'=if k=k'∧r=r' then jfm k.toNat r.toNat L x.toNat y.toNat hd mo.toNat ti l L' x'.toNat y'.toNat hd' mo'.toNat ti' l' else jcn k' r' L' x' y' hd' mo' ti' l':=by rw[encI,if_pos (by rw[hw,hw2];rfl)]
   by_cases hkr:k=k'∧r=r'
   ·rw[if_pos hkr]at e0
    repeat' first|exact hs|exact hs'|exact hw|exact hw2|refine tU ?_|refine qaa ?_ ?_|(refine tI ?_;intro hyp)|intro hyp0|exact tZ|omega
    exact qab [2] [] rfl (by rw[e0];simp only[errN];exact tF)
   ·rw[if_neg hkr]at e0
    repeat' first|exact hs|exact hs'|refine tU ?_|refine qaa ?_ ?_|(refine tI ?_;intro hyp)|intro hyp0|exact tZ|omega
    exact qab [2] [] rfl (by rw[e0];exact tF))
abbrev jvi:List AK:=[.agg [.any,.any,.sl .cell,.any,.any,.any,.any,.any,.sl .str],.agg [.any,.any,.sl .cell,.any,.any,.any,.any,.any,.sl .str]]
abbrev q_r8enc (k r:Int) (L:List CD) (x y:Int) (hd:Bool) (mo:Int) (ti:ByteArray) (l:List ByteArray) (k' r':Int) (L':List CD) (x' y':Int) (hd':Bool) (mo':Int) (ti':ByteArray) (l':List ByteArray):QA:=([.agg [.int .i64 k,.int .i64 r,.vec .cell L,.int .i64 x,.int .i64 y,.bool hd,.int .u8 mo,.str ti,.vec .str l],.agg [.int .i64 k',.int .i64 r',.vec .cell L',.int .i64 x',.int .i64 y',.bool hd',.int .u8 mo',.str ti',.vec .str l']],((ScrOk L l∧SLen ti)∧0≤mo)∧((ScrOk L' l'∧SLen ti')∧0≤mo'),.ret (.tup [.vec (.int .u8) (encI k r L x y hd mo ti l k' r' L' x' y' hd' mo' ti' l'),.int .i64 (errN (jai k r L x y mo ti l&&jai k' r' L' x' y' mo' ti' l'))]))
def sp_r8enc:=spQ (u18 q_r8enc)
theorem jor:W18 (hA sp_r8enc) q_r8enc:=w18 (aA rfl)
theorem jvj:Fre 60 sp_r8enc:=ofT (u18 q_r8enc) fun⟨k,r,L,x,y,hd,mo,ti,l,k',r',L',x',y',hd',mo',ti',l'⟩ hG=>tfi (.f jcY jb7 jcZ (.t jm8 jhi jm9 (.t jm6 jhh jm7 .nil))) 0 jhK (by
 dsimp only[u18,q_r8enc]at hG ⊢
 have zc:=Hk.mk (qaa @jbv (qaa @jhM @jhL))
 obtain⟨⟨⟨hs,ht⟩,hmo⟩,⟨hs',ht'⟩,hmo'⟩:=hG
 cases hw:jai k r L x y mo ti l
 ·have e:encI k r L x y hd mo ti l k' r' L' x' y' hd' mo' ti' l'=[]:=by rw[encI,if_neg (by rw[hw];simp)]
  repeat' first|exact hs|refine tU ?_|refine qaa ?_ ?_|(refine tI ?_;intro hyp)|intro hyp0|exact tZ|omega
  exact qab [99] [] rfl (by rw[e];simp only[PB,SAM,seval,rdB,Hk.out zc];simp[crs,crsL,jaE,errN])
 ·cases hw2:jai k' r' L' x' y' mo' ti' l'
  ·have e:encI k r L x y hd mo ti l k' r' L' x' y' hd' mo' ti' l'=[]:=by rw[encI,if_neg (by rw[hw2];simp)]
   repeat' first|exact hs|exact hs'|refine tU ?_|refine qaa ?_ ?_|(refine tI ?_;intro hyp)|intro hyp0|exact tZ|omega
   exact qab [99] [] rfl (by rw[e];simp only[PB,SAM,seval,rdB,Hk.out zc];simp[crs,crsL,jaE,errN])
  ·have e0:encI k r L x y hd mo ti l k' r' L' x' y' hd' mo' ti' l'=if k=k'∧r=r' then jfm k.toNat r.toNat L x.toNat y.toNat hd mo.toNat ti l L' x'.toNat y'.toNat hd' mo'.toNat ti' l' else jcn k' r' L' x' y' hd' mo' ti' l':=by rw[encI,if_pos (by rw[hw,hw2];rfl)]
   by_cases hkr:k=k'∧r=r'
   ·rw[if_pos hkr]at e0
    repeat' first|exact hs|exact hs'|exact hw|exact hw2|refine tU ?_|refine qaa ?_ ?_|(refine tI ?_;intro hyp)|intro hyp0|exact tZ|omega
    exact qab [2] [] rfl (by rw[e0];simp only[errN];exact tF)
   ·rw[if_neg hkr]at e0
    repeat' first|exact hs|exact hs'|refine tU ?_|refine qaa ?_ ?_|(refine tI ?_;intro hyp)|intro hyp0|exact tZ|omega
    exact qab [2] [] rfl (by rw[e0];exact tF))
end
section
section
variable {k r:Int}{L:List CD}{x y:Int}{hd:Bool}{mo:Int}{ti:ByteArray}{l:List ByteArray}{k' r':Int}{L':List CD}{x' y':Int}{hd':Bool}{mo':Int}{ti':ByteArray}{l':List ByteArray}
end
end
section
def jbp (v k r:Int) (L:List CD) (x y:Int) (hd:Bool) (mo:Int) (ti:ByteArray) (l:List ByteArray):List Int :=
 if v=1 then jbx k r L x y hd mo ti l else if v=2 then jby k r L x y hd mo ti l else if v=3 then jcn k r L x y hd mo ti l else []
def encV (v k1 r1:Int) (L1:List CD) (x1 y1:Int) (hd1:Bool) (mo1:Int) (ti1:ByteArray) (l1:List ByteArray) (k2 r2:Int) (L2:List CD) (x2 y2:Int) (hd2:Bool) (mo2:Int) (ti2:ByteArray) (l2:List ByteArray):List Int :=
 if v=1 then jct k1 r1 L1 x1 y1 hd1 mo1 ti1 l1 k2 r2 L2 x2 y2 hd2 mo2 ti2 l2 else if v=2 then jcu k1 r1 L1 x1 y1 hd1 mo1 ti1 l1 k2 r2 L2 x2 y2 hd2 mo2 ti2 l2 else if v=3 then encI k1 r1 L1 x1 y1 hd1 mo1 ti1 l1 k2 r2 L2 x2 y2 hd2 mo2 ti2 l2 else []
def jbj (d f:List Int):List Int:=if f.length<d.length then f else d
section
variable {v k r:Int}{L:List CD}{x y:Int}{hd:Bool}{mo:Int}{ti:ByteArray}{l:List ByteArray}{k' r':Int}{L':List CD}{x' y':Int}{hd':Bool}{mo':Int}{ti':ByteArray}{l':List ByteArray}
theorem jc2 (hw:∀c∈L,CWf c) (hmo:0≤mo):(jbp v k r L x y hd mo ti l).length≤33792∧Bts (jbp v k r L x y hd mo ti l):=by
 unfold jbp
 split
 ·exact jjD hw hmo
 ·split
  ·exact jjF hw hmo
  ·split
   ·exact⟨jqR hw hmo,jpu _ _ _ _ _ _ _ _ _⟩
   ·exact⟨by simp,jaH⟩
theorem jdR (hs:ScrOk L l) (hm:0≤mo) (hs':ScrOk L' l') (hm':0≤mo'):(encV v k r L x y hd mo ti l k' r' L' x' y' hd' mo' ti' l').length≤200000∧Bts (encV v k r L x y hd mo ti l k' r' L' x' y' hd' mo' ti' l'):=by
 unfold encV
 split
 ·have:=jqT (k:=k) (r:=r) (L:=L) (x:=x) (y:=y) (hd:=hd) (mo:=mo) (ti:=ti) (l:=l) (k':=k') (r':=r') (x':=x') (y':=y') (hd':=hd') (ti':=ti') (l':=l') hs'.wf hm'
  exact⟨by omega,this.2⟩
 ·split
  ·have:=jqU (k:=k) (r:=r) (L:=L) (x:=x) (y:=y) (hd:=hd) (mo:=mo) (ti:=ti) (l:=l) (k':=k') (r':=r') (x':=x') (y':=y') (hd':=hd') (ti':=ti') (l':=l') hs'.wf hm'
   exact⟨by omega,this.2⟩
  ·split
   ·exact⟨enc_len hs hm hs' hm',jxm _ _ _ _ _ _ _ _ _ _ _ _ _ _ _ _ _ _⟩
   ·exact⟨by simp,jaH⟩
theorem jq4 (d f:List Int):(jbj d f).length≤f.length∧(jbj d f).length≤d.length:=by
 unfold jbj
 split<;>omega
end
end
section
open Go.RowKit
set_option maxRecDepth 100000
def z108_0:LC:=.seq (.stm [6,7] [sd 8 (.load true 9 4),sd 9 (.load true 9 5),sd 10 (.call 99 [8,9]),sd 11 (.ext 10 0),sd 12 (.ext 10 1),kM 6 11,kM 7 12]) .ret
def z108:LC:=.seq (.stm [4,5] [sd 3 (.box 0),sd 4 (.box 1),sd 5 (.box 2),kM 6 kn,kM 7 (ki 0)]) z108_0
theorem jc3:jad Tryz.prog eqs0 47 z108 [.t 6,.t 7] 13=true:=by kernel_rfl
def z109_0:LC:=.seq (.stm [4,5] [sd 6 (.load true 9 3),sd 7 (.call 100 [6]),sd 8 (.ext 7 0),sd 9 (.ext 7 1),kM 4 8,kM 5 9]) .ret
def z109:LC:=.seq (.stm [3] [sd 2 (.box 0),sd 3 (.box 1),kM 4 kn,kM 5 (ki 0)]) z109_0
theorem jcb:jad Tryz.prog eqs0 48 z109 [.t 4,.t 5] 10=true:=by kernel_rfl
def z110_0:LC:=.seq (.stm [6,7] [sd 8 (.load true 9 4),sd 9 (.load true 9 5),sd 10 (.call 106 [8,9]),sd 11 (.ext 10 0),sd 12 (.ext 10 1),kM 6 11,kM 7 12]) .ret
def z110:LC:=.seq (.stm [4,5] [sd 3 (.box 0),sd 4 (.box 1),sd 5 (.box 2),kM 6 kn,kM 7 (ki 0)]) z110_0
theorem jc4:jad Tryz.prog eqs0 55 z110 [.t 6,.t 7] 13=true:=by kernel_rfl
def z111_0:LC:=.seq (.stm [4,5] [sd 6 (.load true 9 3),sd 7 (.call 107 [6]),sd 8 (.ext 7 0),sd 9 (.ext 7 1),kM 4 8,kM 5 9]) .ret
def z111:LC:=.seq (.stm [3] [sd 2 (.box 0),sd 3 (.box 1),kM 4 kn,kM 5 (ki 0)]) z111_0
theorem jcc:jad Tryz.prog eqs0 56 z111 [.t 4,.t 5] 10=true:=by kernel_rfl
def z112_3:LC:=.cond 20 (.seq (.stm [6,7] [kM 6 kn,kM 7 (ki 1)]) .ret) .skip
def z112_2:LC:=.seq (.stm [4,5,8,20] [kM 19 9,sd 20 (.un .not 19)]) z112_3
def z112_8:LC:=.cond 30 (.seq (.stm [6,7] [kM 31 11,kM 6 kn,kM 7 31]) .ret) .skip
def z112_7:LC:=.seq (.stm [5,8,10,11,30] [kM 29 11,sd 30 (.cmp .neq 29 (ki 0))]) z112_8
def z112_13:LC:=.cond 43 (.seq (.stm [6,7] [kM 44 12,kM 6 44,kM 7 (ki 0)]) .ret) .skip
def z112_12:LC:=.seq (.stm [10,12,43] [kM 39 12,sd 40 (.len false 39),kM 41 10,sd 42 (.len false 41),sd 43 (.lt 40 42)]) z112_13
def z112_11:LC:=.seq (.stm [10,12] [kF 33 8 2,kL 34 1 33,sd 35 (.load true 9 5),sd 36 (.callv 34 [35]),kM 32 36,sd 37 (.ext 32 0),sd 38 (.ext 32 1),kM 12 37,kM 13 38]) z112_12
def z112_10:LC:=.seq z112_11 (.seq (.stm [6,7] [kM 45 10,kM 6 45,kM 7 (ki 0)]) .ret)
def z112_5:LC:=.seq (.stm [5,8,10,11] [kF 22 8 1,kL 23 1 22,sd 24 (.load true 9 4),sd 25 (.load true 9 5),sd 26 (.callv 23 [24,25]),kM 21 26,sd 27 (.ext 21 0),sd 28 (.ext 21 1),kM 10 27,kM 11 28]) (.seq z112_7 z112_10)
def z112_0:LC:=.seq (.stm [4,5,8,9] [kM 15 0,sd 16 (.call 24 [15]),kM 14 16,sd 17 (.ext 14 0),sd 18 (.ext 14 1),sd 8 (.zero [.nilfn,.nilfn,.nilfn,.nilfn]),sn (.store 4 8 17),kM 9 18]) (.seq z112_2 z112_5)
def z112:LC:=.seq (.stm [0,4,5] [sd 4 (.box 1),sd 5 (.box 2),kM 6 kn,kM 7 (ki 0)]) z112_0
theorem jfY:jad Tryz.prog eqs0 10 z112 [.t 6,.t 7] 46=true:=by kernel_rfl
end
section
open Go.RowKit
set_option maxRecDepth 100000
def z113_0:LC:=.seq (.stm [6,7] [sd 8 (.load true 9 4),sd 9 (.load true 9 5),sd 10 (.call 103 [8,9]),sd 11 (.ext 10 0),sd 12 (.ext 10 1),kM 6 11,kM 7 12]) .ret
def z113:LC:=.seq (.stm [4,5] [sd 3 (.box 0),sd 4 (.box 1),sd 5 (.box 2),kM 6 kn,kM 7 (ki 0)]) z113_0
theorem jcx:jad Tryz.prog eqs0 51 z113 [.t 6,.t 7] 13=true:=by kernel_rfl
def z114_0:LC:=.seq (.stm [4,5] [sd 6 (.load true 9 3),sd 7 (.call 104 [6]),sd 8 (.ext 7 0),sd 9 (.ext 7 1),kM 4 8,kM 5 9]) .ret
def z114:LC:=.seq (.stm [3] [sd 2 (.box 0),sd 3 (.box 1),kM 4 kn,kM 5 (ki 0)]) z114_0
theorem jbY:jad Tryz.prog eqs0 52 z114 [.t 4,.t 5] 10=true:=by kernel_rfl
def z115_3:LC:=.cond 14 (.seq (.stm [4,5] [kM 4 kn,kM 5 (ki 1)]) .ret) .skip
def z115_5:LC:=.seq (.stm [4,5] [kF 15 6 2,kL 16 1 15,sd 17 (.load true 9 3),sd 18 (.callv 16 [17]),sd 19 (.ext 18 0),sd 20 (.ext 18 1),kM 4 19,kM 5 20]) .ret
def z115_1:LC:=.seq (.seq (.stm [3,6,14] [kM 13 7,sd 14 (.un .not 13)]) z115_3) z115_5
def z115_0:LC:=.seq (.stm [3,6,7] [kM 9 0,sd 10 (.call 24 [9]),kM 8 10,sd 11 (.ext 8 0),sd 12 (.ext 8 1),sd 6 (.zero [.nilfn,.nilfn,.nilfn,.nilfn]),sn (.store 4 6 11),kM 7 12]) z115_1
def z115:LC:=.seq (.stm [0,3] [sd 3 (.box 1),kM 4 kn,kM 5 (ki 0)]) z115_0
theorem jjK:jad Tryz.prog eqs0 12 z115 [.t 4,.t 5] 21=true:=by kernel_rfl
end
end
end Go.Proofs.YtienkkicehmchaaGreatDoor
