/- Texts of this claim, merged by a program of this claim: FRnL2, FNum, KRowsA, FRwA, FRwA2, KeepR, KRuns, FRn1, FRn2, FRn3, KRunsD, KDefer, FApply5, FRn4. -/
import Derived.Test.YtienkkicehmchaaGreatDoorDl19
import Derived.Test.YtienkkicehmchaaGreatDoorDl21
import Derived.Test.YtienkkicehmchaaGreatDoorDl23
import Derived.Test.YtienkkicehmchaaGreatDoorDl26
import Derived.Test.YtienkkicehmchaaGreatDoorDl28
import Derived.Test.YtienkkicehmchaaGreatDoorDl29
import Derived.Test.YtienkkicehmchaaGreatDoorDl31
import Derived.Test.YtienkkicehmchaaGreatDoorDl32
import Derived.Test.YtienkkicehmchaaGreatDoorDl33
import Derived.Test.YtienkkicehmchaaGreatDoorDl36
import Derived.Test.YtienkkicehmchaaGreatDoorDl5
import Derived.Test.YtienkkicehmchaaGreatDoorDl6
namespace Go.Proofs.YtienkkicehmchaaGreatDoor
open And renaming intro→qaa
open Cos renaming intro→qab
open List renaming take_of_length_le→qac,append_nil→qad,length_append→qae,take→qaf
noncomputable section
set_option linter.unusedVariables false
set_option linter.unusedSimpArgs false
section
open Go.RowKit
set_option maxRecDepth 100000
set_option maxHeartbeats 4000000
abbrev jtj:List AK:=[.agg [.any,.any,.sl .cell,.any,.any,.any,.any,.any,.sl .str],.agg [.any,.any,.sl .cell,.any,.any,.any,.any,.any,.sl .str]]
abbrev q_nlay (k r:Int) (L:List CD) (x y:Int) (hd:Bool) (mo:Int) (ti:ByteArray) (l:List ByteArray) (k' r':Int) (L':List CD) (x' y':Int) (hd':Bool) (mo':Int) (ti':ByteArray) (l':List ByteArray):QA:=([.agg [.int .i64 k,.int .i64 r,.vec .cell L,.int .i64 x,.int .i64 y,.bool hd,.int .u8 mo,.str ti,.vec .str l],.agg [.int .i64 k',.int .i64 r',.vec .cell L',.int .i64 x',.int .i64 y',.bool hd',.int .u8 mo',.str ti',.vec .str l']],(k=k'∧r=r')∧(ScrOk L l∧ScrOk L' l')∧(jai k r L x y mo ti l=true∧jai k' r' L' x' y' mo' ti' l'=true)∧(0≤mo∧0≤mo')∧All2 L',.ret (.vec (.int .u8) (jhe L x.toNat y.toNat hd mo.toNat ti L' x'.toNat y'.toNat hd' mo'.toNat ti')))
def sp_nlay:=spQ (u18 q_nlay)
theorem jkL:W18 (hA sp_nlay) q_nlay:=w18 (aA rfl)
theorem jtk:Fre 144 sp_nlay:=ofT (u18 q_nlay) fun⟨k,r,L,x,y,hd,mo,ti,l,k',r',L',x',y',hd',mo',ti',l'⟩ hG=>tfi (.t jth jhf jti (.t [.sl (.int .u8)] jfL jsh (.t [.sl .cell,.sl .cell] jft jvf .nil))) 0 jhg (by
 dsimp only[u18,q_nlay]at hG ⊢
 have zc:=Hk.mk (qaa @jkK (qaa @jkt @jon))
 obtain⟨⟨rfl,rfl⟩,⟨hs,hs'⟩,⟨hr1,hr2⟩,⟨hmo,hmo'⟩,hT⟩:=hG
 obtain⟨K,R,X,Y,M,rfl,rfl,rfl,rfl,rfl,f1⟩:=jaj hr1 hmo
 obtain⟨K2,R2,X2,Y2,M2,e1,e2,rfl,rfl,rfl,f2⟩:=jaj hr2 hmo'
 obtain rfl:K=K2:=by omega
 obtain rfl:R=R2:=by omega
 simp only[Int.toNat_natCast]
 have hk:=f1.k1
 have hr:=f1.r1
 have hx2:=f2.x1
 have hy2:=f2.y1
 have hm2:=f2.mo1
 have ht2:=f2.ti1
 have hl1:=f1.l1
 have hl2:=f2.l1
 have hL:=f1.len
 have hL':=f2.len
 have hKR:K*R≤1920:=Nat.mul_le_mul (show K≤80 by omega) (show R≤24 by omega)
 have htk:qaf ti'.size (jab ti')=jab ti':=qac (by rw[jaw];exact Nat.le_refl _)
 have hti:(jab ti').length=ti'.size:=jaw ti'
 obtain⟨b1,hb1⟩:∃b,b=curB X Y hd X2 Y2 hd':=⟨_,rfl⟩
 obtain⟨b2,hb2⟩:∃b,b=b1++titB ti ti':=⟨_,rfl⟩
 obtain⟨b3,hb3⟩:∃b,b=b2++mouB M M2:=⟨_,rfl⟩
 have q1:b1.length≤31:=by rw[hb1];exact jgv X Y hd X2 Y2 hd' (by omega) (by omega)
 have q2:b2.length≤200:=by
  have:=jgw ti ti' ht2
  rw[hb2,qae]
  omega
 have q3:b3.length≤300:=by
  have:=jgx M M2 (by omega)
  rw[hb3,qae]
  omega
 obtain⟨b4,hb4⟩:∃b,b=jkI L L':=⟨_,rfl⟩
 have hall:jhe L X Y hd M ti L' X2 Y2 hd' M2 ti'=b3++b4:=by rw[hb4,hb3,hb2,hb1];rfl
 rw[hall]
 repeat' first|refine T.cut (a:=z105_2) (fun _:Unit=>⟨[(2,.ptr 0 0 0),(3,.ptr 1 0 0),(5,.slice 2 0 1 (b1).length (b1).length)],[.box [.int .i64 K,.int .i64 R,.vec .cell L,.int .i64 X,.int .i64 Y,.bool hd,.int .u8 M,.str ti,.vec .str l],.box [.int .i64 K,.int .i64 R,.vec .cell L',.int .i64 X2,.int .i64 Y2,.bool hd',.int .u8 M2,.str ti',.vec .str l'],.seq (.int .u8) (b1)]⟩) (fun _=>True) (Held.out ?_) (fun _ _=>Held.out ?_)|refine tU ?_|refine qaa ?_ ?_|(refine tI ?_;intro hyp)|intro hyp0|exact tZ|omega
 ·refine⟨?_⟩
  have hc:=@jig X Y X2 Y2 hd hd'
  have hby:curC X Y hd X2 Y2 hd'=true→b1=2::jaq [X2,Y2,if hd' then 1 else 0]:=fun h=>by rw[hb1,curB,if_pos h]
  have hbn:¬curC X Y hd X2 Y2 hd'=true→b1=[]:=fun h=>by rw[hb1,curB,if_neg h]
  have hv:∀z:Nat,z<128→jaq [X2,Y2,z]=[(X2:Int),Y2,z]:=fun z hz=>by
   simp only[jbm,jbR,ja3 (show X2<128 by omega),ja3 (show Y2<128 by omega),ja3 hz]
   rfl
  have hb0:∀z:Int,0≤z→z≤80→varN z.toNat=[z]:=fun z h1 h2=>jbQ h1 (by omega)
  have hw:jau [(X2:Int),(Y2:Int),0]=[(X2:Int),Y2,0]:=by rw[jao,jao,jao,jaU,hb0 _ (by omega) (by omega),hb0 _ (by omega) (by omega),hb0 _ (by omega) (by omega)];rfl
  have hw2:jau [(X2:Int),(Y2:Int),1]=[(X2:Int),Y2,1]:=by rw[jao,jao,jao,jaU,hb0 _ (by omega) (by omega),hb0 _ (by omega) (by omega),hb0 _ (by omega) (by omega)];rfl
  repeat' first|refine tU ?_|refine qaa ?_ ?_|(refine tI ?_;intro hyp)|intro hyp0|exact tZ|omega
  ·rename_i hq
   have e:b1=[2,(X2:Int),Y2,1]:=by rw[hby (hc.2 hq),hyp,if_pos rfl,hv 1 (by omega)];rfl
   exact⟨(),qab [0,1,4] [] rfl (by rw[e];exact tF)⟩
  ·rename_i hq
   have e:b1=[2,(X2:Int),Y2,0]:=by rw[hby (hc.2 hq),hyp,if_neg (by decide),hv 0 (by omega)];rfl
   exact⟨(),qab [0,1,4] [] rfl (by rw[e];exact tF)⟩
  ·have e:b1=[]:=hbn fun q=>by
    rcases hc.1 q with (h|h)|h
    ·exact h hyp.1.1
    ·exact h hyp.1.2
    ·rw[hyp.2]at h
     simp at h
   exact⟨(),qab [0,1,99] [] rfl (by rw[e];simp only[PB,SAM,seval,rdB,Hk.out zc];first|done|simp[crs,crsL,jaE])⟩
 refine⟨?_⟩
 repeat' first|refine T.cut (a:=z105_9) (fun _:Unit=>⟨[(2,.ptr 0 0 0),(3,.ptr 1 0 0),(5,.slice 2 0 1 (b2).length (b2).length)],[.box [.int .i64 K,.int .i64 R,.vec .cell L,.int .i64 X,.int .i64 Y,.bool hd,.int .u8 M,.str ti,.vec .str l],.box [.int .i64 K,.int .i64 R,.vec .cell L',.int .i64 X2,.int .i64 Y2,.bool hd',.int .u8 M2,.str ti',.vec .str l'],.seq (.int .u8) (b2)]⟩) (fun _=>True) (Held.out ?_) (fun _ _=>Held.out ?_)|refine tU ?_|refine qaa ?_ ?_|(refine tI ?_;intro hyp)|intro hyp0|exact tZ|omega
 ·refine⟨?_⟩
  have hw:=htk
  have htl:=jcm (jab ti') (by omega)
  repeat' first|refine tU ?_|refine qaa ?_ ?_|(refine tI ?_;intro hyp)|intro hyp0|exact tZ|omega
  ·have e:b2=b1++3::jeE (jab ti'):=by rw[hb2,titB,if_neg (fun q=>hyp (jaC.1 q))]
   exact⟨(),qab [0,1,7] [] rfl (by rw[e];exact tF)⟩
  ·have e:b2=b1:=by rw[hb2,titB,if_pos (jaC.2 hyp),qad]
   exact⟨(),qab [0,1,2] [] rfl (by rw[e];exact tF)⟩
 refine⟨?_⟩
 repeat' first|refine T.cut (a:=z105_13) (fun _:Unit=>⟨[(2,.ptr 0 0 0),(3,.ptr 1 0 0),(5,.slice 2 0 1 (b3).length (b3).length)],[.box [.int .i64 K,.int .i64 R,.vec .cell L,.int .i64 X,.int .i64 Y,.bool hd,.int .u8 M,.str ti,.vec .str l],.box [.int .i64 K,.int .i64 R,.vec .cell L',.int .i64 X2,.int .i64 Y2,.bool hd',.int .u8 M2,.str ti',.vec .str l'],.seq (.int .u8) (b3)]⟩) (fun _=>True) (Held.out ?_) (fun _ _=>Held.out ?_)|refine tU ?_|refine qaa ?_ ?_|(refine tI ?_;intro hyp)|intro hyp0|exact tZ|omega
 ·refine⟨?_⟩
  have hw:jau [(M2:Int)]=[(M2:Int)]:=by rw[jao,jaU,jbQ (by omega) (by omega)];rfl
  repeat' first|refine tU ?_|refine qaa ?_ ?_|(refine tI ?_;intro hyp)|intro hyp0|exact tZ|omega
  ·have e:b3=b2++[4,(M2:Int)]:=by rw[hb3,mouB,if_neg (fun e=>hyp (by rw[e]))];simp only[jbm,jbR,ja3 (show M2<128 by omega)];rfl
   exact⟨(),qab [0,1,5] [] rfl (by rw[e];exact tF)⟩
  ·have e:b3=b2:=by rw[hb3,mouB,if_pos (by omega),qad]
   exact⟨(),qab [0,1,2] [] rfl (by rw[e];exact tF)⟩
 refine⟨?_⟩
 have hrs:=hs.wf
 have hq:=jjE (C:=L) hT
 rw[←hb4]at hq
 obtain⟨Z,hZ⟩:∃Z,Z=jfV L L':=⟨_,rfl⟩
 have hw:=hZ.symm
 have hb5:b4=if Z.2=0 then [] else (5:Int)::(varN Z.2++Z.1):=by rw[hb4,hZ];rfl
 have hz2:Z.2≤2000:=by
  have h1:=jgG hT (rem (jav L L') (jaa L') L'.length 0).length 0 (rem (jav L L') (jaa L') L'.length 0) (fun x hx=>(jeI (fun i=>(jat L' i).1) hx).2.1) (by have:=jbD (oth:=jav L L') (wd:=jaa L') (N:=L'.length) (i:=0);have:=hT.small;omega)
  have h2:=jbD (oth:=jav L L') (wd:=jaa L') (N:=L'.length) (i:=0)
  have h3:Z.2≤(rem (jav L L') (jaa L') L'.length 0).length:=by rw[hZ];exact h1.2
  have:=hT.small
  omega
 have hz1:Z.1.length≤40000:=by
  have h1:=jgG hT (rem (jav L L') (jaa L') L'.length 0).length 0 (rem (jav L L') (jaa L') L'.length 0) (fun x hx=>(jeI (fun i=>(jat L' i).1) hx).2.1) (by have:=jbD (oth:=jav L L') (wd:=jaa L') (N:=L'.length) (i:=0);have:=hT.small;omega)
  have h2:=jbD (oth:=jav L L') (wd:=jaa L') (N:=L'.length) (i:=0)
  have h3:Z.1.length≤16*(rem (jav L L') (jaa L') L'.length 0).length:=by rw[hZ];exact h1.1
  have:=hT.small
  omega
 have hw2:jau [(Z.2:Int)]=varN Z.2:=by rw[jao,jaU,qad,Int.toNat_natCast]
 have h10:=jan Z.2 (by omega)
 have hw3:qaf (b3.length+((varN Z.2).length+1)) (b3++(5:Int)::varN Z.2)=b3++5::varN Z.2:=qac (by simp)
 repeat' first|exact hT|exact hrs _ ‹_›|refine tU ?_|refine qaa ?_ ?_|(refine tI ?_;intro hyp)|intro hyp0|exact tZ|omega
 ·rw[if_neg (by omega)]at hb5
  exact qab [7] [] rfl (by rw[hb5];exact tF)
 ·rw[if_pos (by omega)]at hb5
  exact qab [2] [] rfl (by rw[hb5];exact tF))
abbrev jpx:List AK:=[.agg [.any,.any,.sl .cell,.any,.any,.any,.any,.any,.sl .str]]
abbrev q_nfull (k r:Int) (L:List CD) (x y:Int) (hd:Bool) (mo:Int) (ti:ByteArray) (l:List ByteArray):QA:=([.agg [.int .i64 k,.int .i64 r,.vec .cell L,.int .i64 x,.int .i64 y,.bool hd,.int .u8 mo,.str ti,.vec .str l]],(ScrOk L l∧SLen ti)∧0≤mo,.ret (.tup [.vec (.int .u8) (jby k r L x y hd mo ti l),.int .i64 (errN (jaO k r L x y mo ti l))]))
def sp_nfull:=spQ (u9 q_nfull)
theorem jjG:W9 (hA sp_nfull) q_nfull:=w9 (aA rfl)
theorem jpy:Fre 104 sp_nfull:=ofT (u9 q_nfull) fun⟨k,r,L,x,y,hd,mo,ti,l⟩ hG=>tfi (.f jjs jeb jjt (.t [.any,.any] jbU jjA (.t jth jhf jti (.t jtj jhg jtk .nil)))) 0 jfX (by
 dsimp only[u9,q_nfull]at hG ⊢
 have zc:=Hk.mk (qaa @jeR (qaa @jeW (qaa @jkK @jkL)))
 obtain⟨⟨hs,ht⟩,hmo⟩:=hG
 cases hw:jaO k r L x y mo ti l
 ·have e:jby k r L x y hd mo ti l=[]:=by rw[jby,if_neg (by rw[hw];decide)]
  repeat' first|exact hs|refine tU ?_|refine qaa ?_ ?_|(refine tI ?_;intro hyp)|intro hyp0|exact tZ|omega
  exact qab [99] [] rfl (by rw[e];simp only[PB,SAM,seval,rdB,Hk.out zc];simp[crs,crsL,jaE,errN])
 ·obtain⟨hR,_,hT⟩:=jbh hw hs.wf hmo
  obtain⟨K,R,X,Y,M,rfl,rfl,rfl,rfl,rfl,f⟩:=jaj hR hmo
  have hk:=f.k1
  have hr:=f.r1
  have hx:=f.x1
  have hy:=f.y1
  have hm:=f.mo1
  have hKR:K*R≤1920:=Nat.mul_le_mul (show K≤80 by omega) (show R≤24 by omega)
  have hbr:=jca hk hr
  have hbo:=jfc K R (by omega)
  have hf:jb5 (K:Int) R=true:=jbA.2 (by omega)
  have hw2:qaf (K*R) (List.replicate (K*R) blank0)=jah K R:=qac (by simp)
  have hw3:jau [(K:Int),(R:Int)]=jaq [K,R]:=jbw [K,R]
  have hvl:=jaI [K,R] (fun u hu=>by simp at hu;omega)
  simp only[List.length_cons,List.length_nil]at hvl
  have hdl:=(jee (L1:=jah K R) (x1:=0) (y1:=0) (hd1:=false) (m1:=0) (t1:=bs []) (hd2:=hd) (m2:=M) hT (show X<80 by omega) (show Y<24 by omega) (by omega) f.ti1).1
  have e:jby (K:Int) R L X Y hd M ti l=1::(jaq [K,R]++jhe (jah K R) 0 0 false 0 (bs []) L X Y hd M ti):=by
   rw[jby,if_pos hw]
   rfl
  repeat' first|exact hs|exact hf|exact hbo|exact hbr|exact hR|exact hT|refine tU ?_|refine qaa ?_ ?_|(refine tI ?_;intro hyp)|intro hyp0|exact tZ|omega
  exact qab [7] [] rfl (by rw[e];simp only[errN];exact tF))
abbrev jxo:List AK:=[.agg [.any,.any,.sl .cell,.any,.any,.any,.any,.any,.sl .str],.agg [.any,.any,.sl .cell,.any,.any,.any,.any,.any,.sl .str]]
abbrev q_nenc (k r:Int) (L:List CD) (x y:Int) (hd:Bool) (mo:Int) (ti:ByteArray) (l:List ByteArray) (k' r':Int) (L':List CD) (x' y':Int) (hd':Bool) (mo':Int) (ti':ByteArray) (l':List ByteArray):QA:=([.agg [.int .i64 k,.int .i64 r,.vec .cell L,.int .i64 x,.int .i64 y,.bool hd,.int .u8 mo,.str ti,.vec .str l],.agg [.int .i64 k',.int .i64 r',.vec .cell L',.int .i64 x',.int .i64 y',.bool hd',.int .u8 mo',.str ti',.vec .str l']],((ScrOk L l∧SLen ti)∧0≤mo)∧((ScrOk L' l'∧SLen ti')∧0≤mo'),.ret (.tup [.vec (.int .u8) (jcu k r L x y hd mo ti l k' r' L' x' y' hd' mo' ti' l'),.int .i64 (errN (jaO k r L x y mo ti l&&jaO k' r' L' x' y' mo' ti' l'))]))
def sp_nenc:=spQ (u18 q_nenc)
theorem jqV:W18 (hA sp_nenc) q_nenc:=w18 (aA rfl)
theorem jxp:Fre 103 sp_nenc:=ofT (u18 q_nenc) fun⟨k,r,L,x,y,hd,mo,ti,l,k',r',L',x',y',hd',mo',ti',l'⟩ hG=>tfi (.f jjs jeb jjt (.t jpx jfX jpy (.t jtj jhg jtk .nil))) 0 jgH (by
 dsimp only[u18,q_nenc]at hG ⊢
 have zc:=Hk.mk (qaa @jeR (qaa @jjG @jkL))
 obtain⟨⟨⟨hs,ht⟩,hmo⟩,⟨hs',ht'⟩,hmo'⟩:=hG
 cases hw:jaO k r L x y mo ti l
 ·have e:jcu k r L x y hd mo ti l k' r' L' x' y' hd' mo' ti' l'=[]:=by rw[jcu,if_neg (by rw[hw];simp)]
  repeat' first|exact hs|refine tU ?_|refine qaa ?_ ?_|(refine tI ?_;intro hyp)|intro hyp0|exact tZ|omega
  exact qab [99] [] rfl (by rw[e];simp only[PB,SAM,seval,rdB,Hk.out zc];simp[crs,crsL,jaE,errN])
 ·cases hw2:jaO k' r' L' x' y' mo' ti' l'
  ·have e:jcu k r L x y hd mo ti l k' r' L' x' y' hd' mo' ti' l'=[]:=by rw[jcu,if_neg (by rw[hw2];simp)]
   repeat' first|exact hs|exact hs'|refine tU ?_|refine qaa ?_ ?_|(refine tI ?_;intro hyp)|intro hyp0|exact tZ|omega
   exact qab [99] [] rfl (by rw[e];simp only[PB,SAM,seval,rdB,Hk.out zc];simp[crs,crsL,jaE,errN])
  ·have hR:=(jbh hw hs.wf hmo).1
   obtain⟨hR2,_,hT⟩:=jbh hw2 hs'.wf hmo'
   have e0:jcu k r L x y hd mo ti l k' r' L' x' y' hd' mo' ti' l'=if k=k'∧r=r' then jhe L x.toNat y.toNat hd mo.toNat ti L' x'.toNat y'.toNat hd' mo'.toNat ti' else jby k' r' L' x' y' hd' mo' ti' l':=by rw[jcu,if_pos (by rw[hw,hw2];rfl)]
   by_cases hkr:k=k'∧r=r'
   ·rw[if_pos hkr]at e0
    repeat' first|exact hs|exact hs'|exact hR|exact hR2|exact hT|refine tU ?_|refine qaa ?_ ?_|(refine tI ?_;intro hyp)|intro hyp0|exact tZ|omega
    exact qab [2] [] rfl (by rw[e0];simp only[errN];exact tF)
   ·rw[if_neg hkr]at e0
    repeat' first|exact hs|exact hs'|refine tU ?_|refine qaa ?_ ?_|(refine tI ?_;intro hyp)|intro hyp0|exact tZ|omega
    exact qab [2] [] rfl (by rw[e0];exact tF))
end
section
open Go.RowKit
set_option maxRecDepth 100000
set_option maxHeartbeats 4000000
end
section
open Go.RowKit
set_option maxRecDepth 100000
end
section
open Go.RowKit
set_option maxRecDepth 100000
set_option maxHeartbeats 4000000
end
section
open Go.RowKit
set_option maxRecDepth 100000
set_option maxHeartbeats 4000000
end
section
end
section
open Go.RowKit
set_option maxRecDepth 100000
end
section
open Go.RowKit
set_option maxRecDepth 100000
set_option maxHeartbeats 4000000
end
section
open Go.RowKit
set_option maxRecDepth 100000
set_option maxHeartbeats 4000000
end
section
open Go.RowKit
set_option maxRecDepth 100000
set_option maxHeartbeats 4000000
end
section
open Go.RowKit
set_option maxRecDepth 100000
end
section
open Go.RowKit
set_option maxRecDepth 100000
end
section
open Go.RowKit
set_option maxRecDepth 100000
set_option maxHeartbeats 4000000
end
section
open Go.RowKit
set_option maxRecDepth 100000
set_option maxHeartbeats 4000000
end
end
end Go.Proofs.YtienkkicehmchaaGreatDoor
