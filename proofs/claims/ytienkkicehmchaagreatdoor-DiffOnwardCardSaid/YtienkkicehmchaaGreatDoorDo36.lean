/- Texts of this claim, merged by a program of this claim: FRdif, FRruns, FRdiff, FEnc, ThereM3, VerM, KDiff, KDiffA. -/
import Derived.Test.YtienkkicehmchaaGreatDoorDo14
import Derived.Test.YtienkkicehmchaaGreatDoorDo15
import Derived.Test.YtienkkicehmchaaGreatDoorDo16
import Derived.Test.YtienkkicehmchaaGreatDoorDo18
import Derived.Test.YtienkkicehmchaaGreatDoorDo25
import Derived.Test.YtienkkicehmchaaGreatDoorDo28
import Derived.Test.YtienkkicehmchaaGreatDoorDo34
import Derived.Test.YtienkkicehmchaaGreatDoorDo35
import Derived.Test.YtienkkicehmchaaGreatDoorDo5
import Derived.Test.YtienkkicehmchaaGreatDoorDo6
namespace Go.Proofs.YtienkkicehmchaaGreatDoor
open And renaming intro→qaa
open Cos renaming intro→qab
noncomputable section
set_option linter.unusedVariables false
set_option linter.unusedSimpArgs false
section
open Go.RowKit
set_option maxRecDepth 100000
set_option maxHeartbeats 4000000
end
section
open Go.RowKit
set_option maxRecDepth 100000
set_option maxHeartbeats 4000000
end
section
open Go.RowKit
set_option maxRecDepth 100000
set_option maxHeartbeats 4000000
end
section
open Go.RowKit
set_option maxRecDepth 100000
set_option maxHeartbeats 4000000
abbrev jq8:List AK:=[.agg [.any,.any,.sl .cell,.any,.any,.any,.any,.any,.sl .str]]
abbrev q_mfull (k r:Int) (L:List CD) (x y:Int) (hd:Bool) (mo:Int) (ti:ByteArray) (l:List ByteArray):QA:=([.agg [.int .i64 k,.int .i64 r,.vec .cell L,.int .i64 x,.int .i64 y,.bool hd,.int .u8 mo,.str ti,.vec .str l]],(ScrOk L l∧SLen ti)∧0≤mo,.ret (.tup [.vec (.int .u8) (jdy k r L x y hd mo ti l),.int .i64 (errN (jal k r L x y mo ti l))]))
def sp_mfull:=spQ (u9 q_mfull)
theorem jkG:W9 (hA sp_mfull) q_mfull:=w9 (aA rfl)
theorem jq9:Fre 107 sp_mfull:=ofT (u9 q_mfull) fun⟨k,r,L,x,y,hd,mo,ti,l⟩ hG=>tfi (.f jep jbG jeq (.t [.any,.any] jaT jez (.t jqn jdk jqo (.t jvA jgL jvB .nil)))) 0 jfA (by
 dsimp only[u9,q_mfull]at hG ⊢
 have zc:=Hk.mk (qaa @jb2 (qaa @jb3 (qaa @jho @jlU)))
 obtain⟨⟨hs,ht⟩,hmo⟩:=hG
 cases hw:jal k r L x y mo ti l
 ·have e:jdy k r L x y hd mo ti l=[]:=by rw[jdy,if_neg (by rw[hw];decide)]
  repeat' first|exact hs|refine tU ?_|refine qaa ?_ ?_|(refine tI ?_;intro hyp)|intro hyp0|exact tZ|omega
  exact qab [99] [] rfl (by rw[e];simp only[PB,SAM,seval,rdB,Hk.out zc];simp[crs,crsL,jaM,errN])
 ·obtain⟨K,R,X,Y,M,rfl,rfl,rfl,rfl,rfl,f⟩:=jan hw hmo
  have hk:=f.k1
  have hr:=f.r1
  have hKR:K*R≤1920:=Nat.mul_le_mul (show K≤80 by omega) (show R≤24 by omega)
  have hbr:=jgN hk hr
  have hbo:=jmR K R (by omega)
  have hf:jbr (K:Int) R=true:=jcb.2 (by omega)
  have hw2:List.take (K*R) (List.replicate (K*R) blank0)=jah K R:=List.take_of_length_le (by simp)
  have hw3:ja3 [(K:Int),(R:Int)]=jar [K,R]:=jev [K,R]
  have hvl:=jbe [K,R] (fun u hu=>by simp at hu;omega)
  simp only[List.length_cons,List.length_nil]at hvl
  have hx:=f.x1
  have hy:=f.y1
  have hm:=f.mo1
  have hdl:=jj7 (L1:=jah K R) (x1:=0) (y1:=0) (hd1:=false) (m1:=0) (t1:=bs []) (l1:=[]) (L2:=L) (x2:=X) (y2:=Y) (hd2:=hd) (m2:=M) (t2:=ti) (l2:=l) (k:=K) (r:=R) (by simp[jah]) (by omega) hr f.len hs.wf (by omega) (by omega) (by omega) f.ti1 f.l1 f.s64
  have e:jdy (K:Int) R L X Y hd M ti l=1::(jar [K,R]++jga K R (jah K R) 0 0 false 0 (bs []) [] L X Y hd M ti l):=by
   rw[jdy,if_pos hw]
   rfl
  repeat' first|exact hs|exact hf|exact hbo|exact hbr|refine tU ?_|refine qaa ?_ ?_|(refine tI ?_;intro hyp)|intro hyp0|exact tZ|omega
  refine qab [7] [] rfl ?_
  rw[e]
  simp only[errN]
  exact tF)
abbrev jAg:List AK:=[.agg [.any,.any,.sl .cell,.any,.any,.any,.any,.any,.sl .str],.agg [.any,.any,.sl .cell,.any,.any,.any,.any,.any,.sl .str]]
abbrev q_menc (k r:Int) (L:List CD) (x y:Int) (hd:Bool) (mo:Int) (ti:ByteArray) (l:List ByteArray) (k' r':Int) (L':List CD) (x' y':Int) (hd':Bool) (mo':Int) (ti':ByteArray) (l':List ByteArray):QA:=([.agg [.int .i64 k,.int .i64 r,.vec .cell L,.int .i64 x,.int .i64 y,.bool hd,.int .u8 mo,.str ti,.vec .str l],.agg [.int .i64 k',.int .i64 r',.vec .cell L',.int .i64 x',.int .i64 y',.bool hd',.int .u8 mo',.str ti',.vec .str l']],((ScrOk L l∧SLen ti)∧0≤mo)∧((ScrOk L' l'∧SLen ti')∧0≤mo'),.ret (.tup [.vec (.int .u8) (encI k r L x y hd mo ti l k' r' L' x' y' hd' mo' ti' l'),.int .i64 (errN (jal k r L x y mo ti l&&jal k' r' L' x' y' mo' ti' l'))]))
def sp_menc:=spQ (u18 q_menc)
theorem jsA:W18 (hA sp_menc) q_menc:=w18 (aA rfl)
theorem jAh:Fre 106 sp_menc:=ofT (u18 q_menc) fun⟨k,r,L,x,y,hd,mo,ti,l,k',r',L',x',y',hd',mo',ti',l'⟩ hG=>tfi (.f jep jbG jeq (.t jq8 jfA jq9 (.t jvA jgL jvB .nil))) 0 jgi (by
 dsimp only[u18,q_menc]at hG ⊢
 have zc:=Hk.mk (qaa @jb2 (qaa @jkG @jlU))
 obtain⟨⟨⟨hs,ht⟩,hmo⟩,⟨hs',ht'⟩,hmo'⟩:=hG
 cases hw:jal k r L x y mo ti l
 ·have e:encI k r L x y hd mo ti l k' r' L' x' y' hd' mo' ti' l'=[]:=by rw[encI,if_neg (by rw[hw];simp)]
  repeat' first|exact hs|refine tU ?_|refine qaa ?_ ?_|(refine tI ?_;intro hyp)|intro hyp0|exact tZ|omega
  exact qab [99] [] rfl (by rw[e];simp only[PB,SAM,seval,rdB,Hk.out zc];simp[crs,crsL,jaM,errN])
 ·cases hw2:jal k' r' L' x' y' mo' ti' l'
  ·have e:encI k r L x y hd mo ti l k' r' L' x' y' hd' mo' ti' l'=[]:=by rw[encI,if_neg (by rw[hw2];simp)]
   repeat' first|exact hs|exact hs'|refine tU ?_|refine qaa ?_ ?_|(refine tI ?_;intro hyp)|intro hyp0|exact tZ|omega
   exact qab [99] [] rfl (by rw[e];simp only[PB,SAM,seval,rdB,Hk.out zc];simp[crs,crsL,jaM,errN])
  ·have e0:encI k r L x y hd mo ti l k' r' L' x' y' hd' mo' ti' l'=if k=k'∧r=r' then jga k.toNat r.toNat L x.toNat y.toNat hd mo.toNat ti l L' x'.toNat y'.toNat hd' mo'.toNat ti' l' else jdy k' r' L' x' y' hd' mo' ti' l':=by rw[encI,if_pos (by rw[hw,hw2];rfl)]
   by_cases hkr:k=k'∧r=r'
   ·rw[if_pos hkr]at e0
    repeat' first|exact hs|exact hs'|exact hw|exact hw2|refine tU ?_|refine qaa ?_ ?_|(refine tI ?_;intro hyp)|intro hyp0|exact tZ|omega
    exact qab [2] [] rfl (by rw[e0];simp only[errN];exact tF)
   ·rw[if_neg hkr]at e0
    repeat' first|exact hs|exact hs'|refine tU ?_|refine qaa ?_ ?_|(refine tI ?_;intro hyp)|intro hyp0|exact tZ|omega
    exact qab [2] [] rfl (by rw[e0];exact tF))
end
section
section
variable {k r:Int}{L:List CD}{x y:Int}{hd:Bool}{mo:Int}{ti:ByteArray}{l:List ByteArray}{k' r':Int}{L':List CD}{x' y':Int}{hd':Bool}{mo':Int}{ti':ByteArray}{l':List ByteArray}
theorem jvC (hA:jal k r L x y mo ti l=true) (hB:jal k' r' L' x' y' mo' ti' l'=true) (hm':0≤mo') (hw:∀c∈L',CWf c) :
  ∃l0 a',apG (jdy k' r' L' x' y' hd' mo' ti' l') ⟨k,r,L,x,y,hd,mo,ti,l,[],0⟩=(0,⟨k',r',L',x',y',hd',mo',ti',l0,l',a'⟩):=by
 have hB2:=hB
 obtain⟨K,R,X,Y,M,rfl,rfl,rfl,rfl,rfl,f⟩:=jan hB hm'
 obtain⟨a',h⟩:=jsk (d:=jdy K R L' X Y hd' M ti' l') (hd2:=hd') ⟨k,r,L,x,y,hd,mo,ti,l,l,0⟩ rfl f hw (by rw[jdy,if_pos hB2];rfl)
 exact⟨[],a',jvy hA h hB2⟩
theorem jBe (hA:jal k r L x y mo ti l=true) (hm:0≤mo) (hB:jal k' r' L' x' y' mo' ti' l'=true) (hm':0≤mo') (hw:∀c∈L',CWf c) :
  ∃l0 a',apG (encI k r L x y hd mo ti l k' r' L' x' y' hd' mo' ti' l') ⟨k,r,L,x,y,hd,mo,ti,l,[],0⟩=(0,⟨k',r',L',x',y',hd',mo',ti',l0,l',a'⟩):=by
 by_cases h:k=k'∧r=r'
 ·obtain⟨rfl,rfl⟩:=h
  have hA2:=hA
  have hB2:=hB
  obtain⟨K,R,X,Y,M,rfl,rfl,rfl,rfl,rfl,f1⟩:=jan hA hm
  obtain⟨K2,R2,X2,Y2,M2,e1,e2,rfl,rfl,rfl,f2⟩:=jan hB hm'
  obtain rfl:K=K2:=by omega
  obtain rfl:R=R2:=by omega
  obtain⟨a',h⟩:=jlH (d:=encI K R L X Y hd M ti l K R L' X2 Y2 hd' M2 ti' l') (a:=0) (f:=9) (last:=0) (x1:=X) (y1:=Y) (hd1:=hd) (m1:=M) (t1:=ti) (hd2:=hd') (by omega) (by omega) f1.len f1.links f1.l1 f2 hw (by rw[encI,if_pos (by rw[hA2,hB2];rfl),if_pos ⟨rfl,rfl⟩];rfl)
  exact⟨l,a',jvy hA2 h hB2⟩
 ·rw[encI,if_pos (by rw[hA,hB];rfl),if_neg h]
  exact jvC hA hB hm' hw
end
end
section
def jeB (v k r:Int) (L:List CD) (x y:Int) (hd:Bool) (mo:Int) (ti:ByteArray) (l:List ByteArray):List Int :=
 if v=1 then jcn k r L x y hd mo ti l else if v=2 then jcp k r L x y hd mo ti l else if v=3 then jdy k r L x y hd mo ti l else []
def encV (v k1 r1:Int) (L1:List CD) (x1 y1:Int) (hd1:Bool) (mo1:Int) (ti1:ByteArray) (l1:List ByteArray) (k2 r2:Int) (L2:List CD) (x2 y2:Int) (hd2:Bool) (mo2:Int) (ti2:ByteArray) (l2:List ByteArray):List Int :=
 if v=1 then jd2 k1 r1 L1 x1 y1 hd1 mo1 ti1 l1 k2 r2 L2 x2 y2 hd2 mo2 ti2 l2 else if v=2 then jd4 k1 r1 L1 x1 y1 hd1 mo1 ti1 l1 k2 r2 L2 x2 y2 hd2 mo2 ti2 l2 else if v=3 then encI k1 r1 L1 x1 y1 hd1 mo1 ti1 l1 k2 r2 L2 x2 y2 hd2 mo2 ti2 l2 else []
def jbl (d f:List Int):List Int:=if f.length<d.length then f else d
def RS.end_ (q:Int×RS):Int×RS:=(q.1,{ q.2 with more:=q.2.l })
def apV (v:Int) (d:List Int) (s:RS):Int×RS :=
 if v=1 then RS.end_ (ap1G d s) else if v=2 then RS.end_ (ap2G d s) else if v=3 then apG d s else (1,jc3)
section
variable {v k r:Int}{L:List CD}{x y:Int}{hd:Bool}{mo:Int}{ti:ByteArray}{l:List ByteArray}{k' r':Int}{L':List CD}{x' y':Int}{hd':Bool}{mo':Int}{ti':ByteArray}{l':List ByteArray}
theorem jkH (h:jbf v k r L x y mo ti l=true):(v=1∧jaC k r L x y mo ti l=true)∨(v=2∧jaB k r L x y mo ti l=true)∨(v=3∧jal k r L x y mo ti l=true):=by
 unfold jbf at h
 split at h
 ·exact .inl ⟨‹_›,h⟩
 ·split at h
  ·exact .inr (.inl ⟨‹_›,h⟩)
  ·split at h
   ·exact .inr (.inr ⟨‹_›,h⟩)
   ·cases h
theorem jxJ (hA:jbf v k r L x y mo ti l=true) (hB:jbf v k' r' L' x' y' mo' ti' l'=true) (hm':0≤mo') (hw:∀c∈L',CWf c) :
  ∃l0 a',apV v (jeB v k' r' L' x' y' hd' mo' ti' l') ⟨k,r,L,x,y,hd,mo,ti,l,[],0⟩=(0,⟨k',r',L',x',y',hd',mo',ti',l0,l',a'⟩):=by
 rcases jkH hA with⟨rfl,hA⟩|⟨rfl,hA⟩|⟨rfl,hA⟩
 ·obtain⟨a',h,rfl⟩:=jq0 (hd:=hd) (hd':=hd') hA (show jaC k' r' L' x' y' mo' ti' l'=true from hB) hm' hw
  exact⟨[],a',by show RS.end_ (ap1G (jcn k' r' L' x' y' hd' mo' ti' []) _)=_;rw[h];rfl⟩
 ·obtain⟨a',h,rfl⟩:=jq1 (hd:=hd) (hd':=hd') hA (show jaB k' r' L' x' y' mo' ti' l'=true from hB) hm' hw
  exact⟨[],a',by show RS.end_ (ap2G (jcp k' r' L' x' y' hd' mo' ti' []) _)=_;rw[h];rfl⟩
 ·exact jvC (hd:=hd) (hd':=hd') hA (show jal k' r' L' x' y' mo' ti' l'=true from hB) hm' hw
theorem jAi (hA:jbf v k r L x y mo ti l=true) (hm:0≤mo) (hwA:∀c∈L,CWf c) (hB:jbf v k' r' L' x' y' mo' ti' l'=true) (hm':0≤mo') (hw:∀c∈L',CWf c) :
  ∃l0 a',apV v (encV v k r L x y hd mo ti l k' r' L' x' y' hd' mo' ti' l') ⟨k,r,L,x,y,hd,mo,ti,l,[],0⟩=(0,⟨k',r',L',x',y',hd',mo',ti',l0,l',a'⟩):=by
 rcases jkH hA with⟨rfl,hA⟩|⟨rfl,hA⟩|⟨rfl,hA⟩
 ·obtain⟨a',h,rfl⟩:=jzU (hd:=hd) (hd':=hd') hA hm hwA (show jaC k' r' L' x' y' mo' ti' l'=true from hB) hm' hw
  exact⟨[],a',by show RS.end_ (ap1G (jd2 k r L x y hd mo ti l k' r' L' x' y' hd' mo' ti' []) _)=_;rw[h];rfl⟩
 ·obtain⟨a',h,rfl⟩:=jzV (hd:=hd) (hd':=hd') hA hm hwA (show jaB k' r' L' x' y' mo' ti' l'=true from hB) hm' hw
  exact⟨[],a',by show RS.end_ (ap2G (jd4 k r L x y hd mo ti l k' r' L' x' y' hd' mo' ti' []) _)=_;rw[h];rfl⟩
 ·exact jBe (hd:=hd) (hd':=hd') hA hm (show jal k' r' L' x' y' mo' ti' l'=true from hB) hm' hw
theorem jra (hA:jbf v k r L x y mo ti l=true) (hm:0≤mo) (hwA:∀c∈L,CWf c) (hB:jbf v k' r' L' x' y' mo' ti' l'=true) (hm':0≤mo') (hw:∀c∈L',CWf c) :
  ∃l0 a',apV v (jbl (encV v k r L x y hd mo ti l k' r' L' x' y' hd' mo' ti' l') (jeB v k' r' L' x' y' hd' mo' ti' l')) ⟨k,r,L,x,y,hd,mo,ti,l,[],0⟩=(0,⟨k',r',L',x',y',hd',mo',ti',l0,l',a'⟩):=by
 unfold jbl
 split
 ·exact jxJ hA hB hm' hw
 ·exact jAi hA hm hwA hB hm' hw
theorem jdq (hw:∀c∈L,CWf c) (hmo:0≤mo):(jeB v k r L x y hd mo ti l).length≤33792∧Bts (jeB v k r L x y hd mo ti l):=by
 unfold jeB
 split
 ·exact jkz hw hmo
 ·split
  ·exact jkB hw hmo
  ·split
   ·exact⟨jsl hw hmo,jqY _ _ _ _ _ _ _ _ _⟩
   ·exact⟨by simp,jaI⟩
theorem jeC (hs:ScrOk L l) (hm:0≤mo) (hs':ScrOk L' l') (hm':0≤mo'):(encV v k r L x y hd mo ti l k' r' L' x' y' hd' mo' ti' l').length≤200000∧Bts (encV v k r L x y hd mo ti l k' r' L' x' y' hd' mo' ti' l'):=by
 unfold encV
 split
 ·have:=jsm (k:=k) (r:=r) (L:=L) (x:=x) (y:=y) (hd:=hd) (mo:=mo) (ti:=ti) (l:=l) (k':=k') (r':=r') (x':=x') (y':=y') (hd':=hd') (ti':=ti') (l':=l') hs'.wf hm'
  exact⟨by omega,this.2⟩
 ·split
  ·have:=jsn (k:=k) (r:=r) (L:=L) (x:=x) (y:=y) (hd:=hd) (mo:=mo) (ti:=ti) (l:=l) (k':=k') (r':=r') (x':=x') (y':=y') (hd':=hd') (ti':=ti') (l':=l') hs'.wf hm'
   exact⟨by omega,this.2⟩
  ·split
   ·exact⟨enc_len hs hm hs' hm',jzS _ _ _ _ _ _ _ _ _ _ _ _ _ _ _ _ _ _⟩
   ·exact⟨by simp,jaI⟩
theorem jlV (d f:List Int):(jbl d f).length≤f.length∧(jbl d f).length≤d.length:=by
 unfold jbl
 split<;>omega
theorem jkI {d f:List Int}(h1:Bts d) (h2:Bts f):Bts (jbl d f):=by
 unfold jbl
 split
 ·exact h2
 ·exact h1
end
end
section
open Go.RowKit
set_option maxRecDepth 100000
def z127_0:LC:=.seq (.stm [6,7] [sd 8 (.load true 9 4),sd 9 (.load true 9 5),sd 10 (.call 99 [8,9]),sd 11 (.ext 10 0),sd 12 (.ext 10 1),kM 6 11,kM 7 12]) .ret
def z127:LC:=.seq (.stm [4,5] [sd 3 (.box 0),sd 4 (.box 1),sd 5 (.box 2),kM 6 kn,kM 7 (ki 0)]) z127_0
theorem jdr:jad Tryz.prog eqs0 47 z127 [.t 6,.t 7] 13=true:=by kernel_rfl
def z128_0:LC:=.seq (.stm [4,5] [sd 6 (.load true 9 3),sd 7 (.call 100 [6]),sd 8 (.ext 7 0),sd 9 (.ext 7 1),kM 4 8,kM 5 9]) .ret
def z128:LC:=.seq (.stm [3] [sd 2 (.box 0),sd 3 (.box 1),kM 4 kn,kM 5 (ki 0)]) z128_0
theorem jeD:jad Tryz.prog eqs0 48 z128 [.t 4,.t 5] 10=true:=by kernel_rfl
def z129_0:LC:=.seq (.stm [6,7] [sd 8 (.load true 9 4),sd 9 (.load true 9 5),sd 10 (.call 106 [8,9]),sd 11 (.ext 10 0),sd 12 (.ext 10 1),kM 6 11,kM 7 12]) .ret
def z129:LC:=.seq (.stm [4,5] [sd 3 (.box 0),sd 4 (.box 1),sd 5 (.box 2),kM 6 kn,kM 7 (ki 0)]) z129_0
theorem jds:jad Tryz.prog eqs0 55 z129 [.t 6,.t 7] 13=true:=by kernel_rfl
def z130_0:LC:=.seq (.stm [4,5] [sd 6 (.load true 9 3),sd 7 (.call 107 [6]),sd 8 (.ext 7 0),sd 9 (.ext 7 1),kM 4 8,kM 5 9]) .ret
def z130:LC:=.seq (.stm [3] [sd 2 (.box 0),sd 3 (.box 1),kM 4 kn,kM 5 (ki 0)]) z130_0
theorem jeE:jad Tryz.prog eqs0 56 z130 [.t 4,.t 5] 10=true:=by kernel_rfl
def z131_3:LC:=.cond 20 (.seq (.stm [6,7] [kM 6 kn,kM 7 (ki 1)]) .ret) .skip
def z131_2:LC:=.seq (.stm [4,5,8,20] [kM 19 9,sd 20 (.un .not 19)]) z131_3
def z131_8:LC:=.cond 30 (.seq (.stm [6,7] [kM 31 11,kM 6 kn,kM 7 31]) .ret) .skip
def z131_7:LC:=.seq (.stm [5,8,10,11,30] [kM 29 11,sd 30 (.cmp .neq 29 (ki 0))]) z131_8
def z131_13:LC:=.cond 43 (.seq (.stm [6,7] [kM 44 12,kM 6 44,kM 7 (ki 0)]) .ret) .skip
def z131_12:LC:=.seq (.stm [10,12,43] [kM 39 12,sd 40 (.len false 39),kM 41 10,sd 42 (.len false 41),sd 43 (.lt 40 42)]) z131_13
def z131_11:LC:=.seq (.stm [10,12] [kF 33 8 2,kL 34 1 33,sd 35 (.load true 9 5),sd 36 (.callv 34 [35]),kM 32 36,sd 37 (.ext 32 0),sd 38 (.ext 32 1),kM 12 37,kM 13 38]) z131_12
def z131_10:LC:=.seq z131_11 (.seq (.stm [6,7] [kM 45 10,kM 6 45,kM 7 (ki 0)]) .ret)
def z131_5:LC:=.seq (.stm [5,8,10,11] [kF 22 8 1,kL 23 1 22,sd 24 (.load true 9 4),sd 25 (.load true 9 5),sd 26 (.callv 23 [24,25]),kM 21 26,sd 27 (.ext 21 0),sd 28 (.ext 21 1),kM 10 27,kM 11 28]) (.seq z131_7 z131_10)
def z131_0:LC:=.seq (.stm [4,5,8,9] [kM 15 0,sd 16 (.call 24 [15]),kM 14 16,sd 17 (.ext 14 0),sd 18 (.ext 14 1),sd 8 (.zero [.nilfn,.nilfn,.nilfn,.nilfn]),sn (.store 4 8 17),kM 9 18]) (.seq z131_2 z131_5)
def z131:LC:=.seq (.stm [0,4,5] [sd 4 (.box 1),sd 5 (.box 2),kM 6 kn,kM 7 (ki 0)]) z131_0
theorem jgX:jad Tryz.prog eqs0 10 z131 [.t 6,.t 7] 46=true:=by kernel_rfl
end
section
open Go.RowKit
set_option maxRecDepth 100000
def z132_0:LC:=.seq (.stm [6,7] [sd 8 (.load true 9 4),sd 9 (.load true 9 5),sd 10 (.call 103 [8,9]),sd 11 (.ext 10 0),sd 12 (.ext 10 1),kM 6 11,kM 7 12]) .ret
def z132:LC:=.seq (.stm [4,5] [sd 3 (.box 0),sd 4 (.box 1),sd 5 (.box 2),kM 6 kn,kM 7 (ki 0)]) z132_0
theorem jcU:jad Tryz.prog eqs0 51 z132 [.t 6,.t 7] 13=true:=by kernel_rfl
def z133_0:LC:=.seq (.stm [4,5] [sd 6 (.load true 9 3),sd 7 (.call 104 [6]),sd 8 (.ext 7 0),sd 9 (.ext 7 1),kM 4 8,kM 5 9]) .ret
def z133:LC:=.seq (.stm [3] [sd 2 (.box 0),sd 3 (.box 1),kM 4 kn,kM 5 (ki 0)]) z133_0
theorem jdU:jad Tryz.prog eqs0 52 z133 [.t 4,.t 5] 10=true:=by kernel_rfl
def z134_0:LC:=.seq (.stm [6,7] [sd 8 (.load true 9 4),kM 9 2,sd 10 (.call 101 [8,9]),sd 11 (.ext 10 0),sd 12 (.ext 10 1),sn (.store 9 6 11),kM 7 12]) .ret
def z134:LC:=.seq (.stm [2,4,6] [sd 3 (.box 0),sd 4 (.box 1),sd 6 (.zero [.int .i64 0,.int .i64 0,.nils,.int .i64 0,.int .i64 0,.bool false,.int .u8 0,.str (bs []),.nils]),kM 7 (ki 0)]) z134_0
theorem jdV:jad Tryz.prog eqs0 49 z134 [.c 6 true 9,.t 7] 13=true:=by kernel_rfl
def z135_0:LC:=.seq (.stm [6,7] [sd 8 (.load true 9 4),kM 9 2,sd 10 (.call 105 [8,9]),sd 11 (.ext 10 0),sd 12 (.ext 10 1),sn (.store 9 6 11),kM 7 12]) .ret
def z135:LC:=.seq (.stm [2,4,6] [sd 3 (.box 0),sd 4 (.box 1),sd 6 (.zero [.int .i64 0,.int .i64 0,.nils,.int .i64 0,.int .i64 0,.bool false,.int .u8 0,.str (bs []),.nils]),kM 7 (ki 0)]) z135_0
theorem jdt:jad Tryz.prog eqs0 53 z135 [.c 6 true 9,.t 7] 13=true:=by kernel_rfl
def z136_0:LC:=.seq (.stm [6,7] [sd 8 (.load true 9 4),kM 9 2,sd 10 (.call 108 [8,9]),sd 11 (.ext 10 0),sd 12 (.ext 10 1),sn (.store 9 6 11),kM 7 12]) .ret
def z136:LC:=.seq (.stm [2,4,6] [sd 3 (.box 0),sd 4 (.box 1),sd 6 (.zero [.int .i64 0,.int .i64 0,.nils,.int .i64 0,.int .i64 0,.bool false,.int .u8 0,.str (bs []),.nils]),kM 7 (ki 0)]) z136_0
theorem jdW:jad Tryz.prog eqs0 57 z136 [.c 6 true 9,.t 7] 13=true:=by kernel_rfl
def z137_4:LC:=.seq (.stm [6,7] [sd 17 (.build [.int .i64 0,.int .i64 0,.nils,.int .i64 0,.int .i64 0,.bool false,.int .u8 0,.str (bs []),.nils] []),sn (.store 9 6 17),kM 7 (ki 1)]) .ret
def z137_2:LC:=.seq (.stm [2,4,6,8,16] [kM 15 9,sd 16 (.un .not 15)]) (.cond 16 z137_4 .skip)
def z137_5:LC:=.seq (.stm [6,7] [kF 18 8 3,kL 19 1 18,sd 20 (.load true 9 4),kM 21 2,sd 22 (.callv 19 [20,21]),sd 23 (.ext 22 0),sd 24 (.ext 22 1),sn (.store 9 6 23),kM 7 24]) .ret
def z137_0:LC:=.seq (.stm [2,4,6,8,9] [kM 11 0,sd 12 (.call 24 [11]),kM 10 12,sd 13 (.ext 10 0),sd 14 (.ext 10 1),sd 8 (.zero [.nilfn,.nilfn,.nilfn,.nilfn]),sn (.store 4 8 13),kM 9 14]) (.seq z137_2 z137_5)
def z137:LC:=.seq (.stm [0,2,4,6] [sd 4 (.box 1),sd 6 (.zero [.int .i64 0,.int .i64 0,.nils,.int .i64 0,.int .i64 0,.bool false,.int .u8 0,.str (bs []),.nils]),kM 7 (ki 0)]) z137_0
theorem jiO:jad Tryz.prog eqs0 17 z137 [.c 6 true 9,.t 7] 25=true:=by kernel_rfl
end
end
end Go.Proofs.YtienkkicehmchaaGreatDoor
