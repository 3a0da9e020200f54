/- Texts of this claim, merged by a program of this claim: FRnD2, FLawTells. -/
import Derived.Test.YtienkkicehmchaaGreatDoorDl42
import Derived.Test.YtienkkicehmchaaGreatDoorDl45
import Derived.Test.YtienkkicehmchaaGreatDoorDl48
namespace Go.Proofs.YtienkkicehmchaaGreatDoor
open And renaming intro→qaa
open Cos renaming intro→qab
noncomputable section
set_option linter.unusedVariables false
set_option linter.unusedSimpArgs false
section
open Go.RowKit
set_option maxRecDepth 100000
set_option maxHeartbeats 4000000
abbrev jnq:List AK:=[.agg [.any,.any,.sl .cell,.any,.any,.any,.any,.any,.sl .str]]
abbrev q_r2full (k r:Int) (L:List CD) (x y:Int) (hd:Bool) (mo:Int) (ti:ByteArray) (l:List ByteArray):QA:=([.agg [.int .i64 k,.int .i64 r,.vec .cell L,.int .i64 x,.int .i64 y,.bool hd,.int .u8 mo,.str ti,.vec .str l]],(ScrOk L l∧SLen ti)∧0≤mo,.ret (.tup [.vec (.int .u8) (jby k r L x y hd mo ti l),.int .i64 (errN (jaO k r L x y mo ti l))]))
def sp_r2full:=spQ (u9 q_r2full)
theorem jhX:W9 (hA sp_r2full) q_r2full:=w9 (aA rfl)
theorem jnr:Fre 27 sp_r2full:=ofT (u9 q_r2full) fun⟨k,r,L,x,y,hd,mo,ti,l⟩ hG=>tfi (.f jtA jfg jtB (.t [.any,.any] jc0 jfb (.t [.sl (.int .i64)] jhl jnn (.t jno jhm jnp .nil)))) 0 jhn (by
 dsimp only[u9,q_r2full]at hG ⊢
 have zc:=Hk.mk (qaa @jjN (qaa @jcL (qaa @jhV @jhW)))
 obtain⟨⟨hs,ht⟩,hmo⟩:=hG
 cases hw:jaO k r L x y mo ti l
 ·have e:jby k r L x y hd mo ti l=[]:=by rw[jby,if_neg (by rw[hw];decide)]
  repeat' first|exact hs|refine tU ?_|refine qaa ?_ ?_|(refine tI ?_;intro hyp)|intro hyp0|exact tZ|omega
  exact qab [99] [] rfl (by rw[e];simp only[PB,SAM,seval,rdB,Hk.out zc];simp[crs,crsL,jaE,errN])
 ·obtain⟨hR,_,hT⟩:=jbh hw hs.wf hmo
  obtain⟨K,R,X,Y,M,rfl,rfl,rfl,rfl,rfl,f⟩:=jaj hR hmo
  have hk:=f.k1
  have hr:=f.r1
  have hx:=f.x1
  have hy:=f.y1
  have hm:=f.mo1
  have hKR:K*R≤1920:=Nat.mul_le_mul (show K≤80 by omega) (show R≤24 by omega)
  have hbr:=jca hk hr
  have hbo:=jfc K R (by omega)
  have hf:jb5 (K:Int) R=true:=jbA.2 (by omega)
  have hw2:List.take (K*R) (List.replicate (K*R) blank0)=jah K R:=List.take_of_length_le (by simp)
  have hw3:jau [(K:Int),(R:Int)]=jaq [K,R]:=jbw [K,R]
  have hvl:=jaI [K,R] (fun u hu=>by simp at hu;omega)
  simp only[List.length_cons,List.length_nil]at hvl
  have hdl:=(jee (L1:=jah K R) (x1:=0) (y1:=0) (hd1:=false) (m1:=0) (t1:=bs []) (hd2:=hd) (m2:=M) hT (show X<80 by omega) (show Y<24 by omega) (by omega) f.ti1).1
  have e:jby (K:Int) R L X Y hd M ti l=1::(jaq [K,R]++jhe (jah K R) 0 0 false 0 (bs []) L X Y hd M ti):=by
   rw[jby,if_pos hw]
   rfl
  repeat' first|exact hs|exact hf|exact hbo|exact hbr|exact hR|exact hT|refine tU ?_|refine qaa ?_ ?_|(refine tI ?_;intro hyp)|intro hyp0|exact tZ|omega
  exact qab [9] [] rfl (by rw[e];simp only[errN];exact tF))
abbrev jvw:List AK:=[.agg [.any,.any,.sl .cell,.any,.any,.any,.any,.any,.sl .str],.agg [.any,.any,.sl .cell,.any,.any,.any,.any,.any,.sl .str]]
abbrev q_r2enc (k r:Int) (L:List CD) (x y:Int) (hd:Bool) (mo:Int) (ti:ByteArray) (l:List ByteArray) (k' r':Int) (L':List CD) (x' y':Int) (hd':Bool) (mo':Int) (ti':ByteArray) (l':List ByteArray):QA:=([.agg [.int .i64 k,.int .i64 r,.vec .cell L,.int .i64 x,.int .i64 y,.bool hd,.int .u8 mo,.str ti,.vec .str l],.agg [.int .i64 k',.int .i64 r',.vec .cell L',.int .i64 x',.int .i64 y',.bool hd',.int .u8 mo',.str ti',.vec .str l']],((ScrOk L l∧SLen ti)∧0≤mo)∧((ScrOk L' l'∧SLen ti')∧0≤mo'),.ret (.tup [.vec (.int .u8) (jcu k r L x y hd mo ti l k' r' L' x' y' hd' mo' ti' l'),.int .i64 (errN (jaO k r L x y mo ti l&&jaO k' r' L' x' y' mo' ti' l'))]))
def sp_r2enc:=spQ (u18 q_r2enc)
theorem joz:W18 (hA sp_r2enc) q_r2enc:=w18 (aA rfl)
theorem jvx:Fre 59 sp_r2enc:=ofT (u18 q_r2enc) fun⟨k,r,L,x,y,hd,mo,ti,l,k',r',L',x',y',hd',mo',ti',l'⟩ hG=>tfi (.f jtA jfg jtB (.t jnq jhn jnr (.t jno jhm jnp .nil))) 0 jhR (by
 dsimp only[u18,q_r2enc]at hG ⊢
 have zc:=Hk.mk (qaa @jjN (qaa @jhX @jhW))
 obtain⟨⟨⟨hs,ht⟩,hmo⟩,⟨hs',ht'⟩,hmo'⟩:=hG
 cases hw:jaO k r L x y mo ti l
 ·have e:jcu k r L x y hd mo ti l k' r' L' x' y' hd' mo' ti' l'=[]:=by rw[jcu,if_neg (by rw[hw];simp)]
  repeat' first|exact hs|refine tU ?_|refine qaa ?_ ?_|(refine tI ?_;intro hyp)|intro hyp0|exact tZ|omega
  exact qab [99] [] rfl (by rw[e];simp only[PB,SAM,seval,rdB,Hk.out zc];simp[crs,crsL,jaE,errN])
 ·cases hw2:jaO k' r' L' x' y' mo' ti' l'
  ·have e:jcu k r L x y hd mo ti l k' r' L' x' y' hd' mo' ti' l'=[]:=by rw[jcu,if_neg (by rw[hw2];simp)]
   repeat' first|exact hs|exact hs'|refine tU ?_|refine qaa ?_ ?_|(refine tI ?_;intro hyp)|intro hyp0|exact tZ|omega
   exact qab [99] [] rfl (by rw[e];simp only[PB,SAM,seval,rdB,Hk.out zc];simp[crs,crsL,jaE,errN])
  ·have hR:=(jbh hw hs.wf hmo).1
   obtain⟨hR2,_,hT⟩:=jbh hw2 hs'.wf hmo'
   have e0:jcu k r L x y hd mo ti l k' r' L' x' y' hd' mo' ti' l'=if k=k'∧r=r' then jhe L x.toNat y.toNat hd mo.toNat ti L' x'.toNat y'.toNat hd' mo'.toNat ti' else jby k' r' L' x' y' hd' mo' ti' l':=by rw[jcu,if_pos (by rw[hw,hw2];rfl)]
   by_cases hkr:k=k'∧r=r'
   ·rw[if_pos hkr]at e0
    repeat' first|exact hs|exact hs'|exact hR|exact hR2|exact hT|refine tU ?_|refine qaa ?_ ?_|(refine tI ?_;intro hyp)|intro hyp0|exact tZ|omega
    exact qab [2] [] rfl (by rw[e0];simp only[errN];exact tF)
   ·rw[if_neg hkr]at e0
    repeat' first|exact hs|exact hs'|refine tU ?_|refine qaa ?_ ?_|(refine tI ?_;intro hyp)|intro hyp0|exact tZ|omega
    exact qab [2] [] rfl (by rw[e0];exact tF))
abbrev jns:List AK:=[.any,.agg [.any,.any,.sl .cell,.any,.any,.any,.any,.any,.sl .str]]
abbrev q_rfullV (v k r:Int) (L:List CD) (x y:Int) (hd:Bool) (mo:Int) (ti:ByteArray) (l:List ByteArray):QA:=([.int .i64 v,.agg [.int .i64 k,.int .i64 r,.vec .cell L,.int .i64 x,.int .i64 y,.bool hd,.int .u8 mo,.str ti,.vec .str l]],(ScrOk L l∧SLen ti)∧0≤mo,.ret (.tup [.vec (.int .u8) (jbp v k r L x y hd mo ti l),.int .i64 (errN (jay v k r L x y mo ti l))]))
def sp_rfullV:=spQ (u10 q_rfullV)
theorem jhY:W10 (hA sp_rfullV) q_rfullV:=w10 (aA rfl)
theorem jnt:Al 13 sp_rfullV:=ofA (u10 q_rfullV) fun⟨v,k,r,L,x,y,hd,mo,ti,l⟩ hG=>tfi (.f jnl jhk jnm (.f jnq jhn jnr (.f jm8 jhi jm9 .nil))) 0 jho (by
 dsimp only[u10,q_rfullV]at hG ⊢
 have zc:=Hk.mk (qaa @jhU (qaa @jhX @jhM))
 by_cases h1:v=1
 ·subst h1
  have hF:jbp 1 k r L x y hd mo ti l=jbx k r L x y hd mo ti l:=by simp[jbp]
  have hT:jay 1 k r L x y mo ti l=jaL k r L x y mo ti l:=by simp[jay]
  rw[hF,hT]
  repeat' first|exact hG.1.1|exact hG.1.2|refine tU ?_|refine qab [] [] rfl ?_|refine qaa ?_ ?_|(refine tI ?_;intro hyp)|intro hyp0|exact tZ|omega
 by_cases h2:v=2
 ·subst h2
  have hF:jbp 2 k r L x y hd mo ti l=jby k r L x y hd mo ti l:=by simp[jbp]
  have hT:jay 2 k r L x y mo ti l=jaO k r L x y mo ti l:=by simp[jay]
  rw[hF,hT]
  repeat' first|exact hG.1.1|exact hG.1.2|refine tU ?_|refine qab [] [] rfl ?_|refine qaa ?_ ?_|(refine tI ?_;intro hyp)|intro hyp0|exact tZ|omega
 by_cases h3:v=3
 ·subst h3
  have hF:jbp 3 k r L x y hd mo ti l=jcn k r L x y hd mo ti l:=by simp[jbp]
  have hT:jay 3 k r L x y mo ti l=jai k r L x y mo ti l:=by simp[jay]
  rw[hF,hT]
  repeat' first|exact hG.1.1|exact hG.1.2|refine tU ?_|refine qab [] [] rfl ?_|refine qaa ?_ ?_|(refine tI ?_;intro hyp)|intro hyp0|exact tZ|omega
 have hF:jbp v k r L x y hd mo ti l=[]:=by simp[jbp,h1,h2,h3]
 have hT:jay v k r L x y mo ti l=false:=by simp[jay,h1,h2,h3]
 rw[hF,hT]
 repeat' first|refine tU ?_|refine qab [] [] rfl ?_|refine qaa ?_ ?_|(refine tI ?_;intro hyp)|intro hyp0|exact tZ|omega
 rfl)
abbrev jvy:List AK:=[.any,.agg [.any,.any,.sl .cell,.any,.any,.any,.any,.any,.sl .str],.agg [.any,.any,.sl .cell,.any,.any,.any,.any,.any,.sl .str]]
abbrev q_rencV (v k r:Int) (L:List CD) (x y:Int) (hd:Bool) (mo:Int) (ti:ByteArray) (l:List ByteArray) (k' r':Int) (L':List CD) (x' y':Int) (hd':Bool) (mo':Int) (ti':ByteArray) (l':List ByteArray):QA:=([.int .i64 v,.agg [.int .i64 k,.int .i64 r,.vec .cell L,.int .i64 x,.int .i64 y,.bool hd,.int .u8 mo,.str ti,.vec .str l],.agg [.int .i64 k',.int .i64 r',.vec .cell L',.int .i64 x',.int .i64 y',.bool hd',.int .u8 mo',.str ti',.vec .str l']],((ScrOk L l∧SLen ti)∧0≤mo)∧((ScrOk L' l'∧SLen ti')∧0≤mo'),.ret (.tup [.vec (.int .u8) (encV v k r L x y hd mo ti l k' r' L' x' y' hd' mo' ti' l'),.int .i64 (errN (jay v k r L x y mo ti l&&jay v k' r' L' x' y' mo' ti' l'))]))
def sp_rencV:=spQ (u19 q_rencV)
theorem joA:W19 (hA sp_rencV) q_rencV:=w19 (aA rfl)
theorem jvz:Al 25 sp_rencV:=ofA (u19 q_rencV) fun⟨v,k,r,L,x,y,hd,mo,ti,l,k',r',L',x',y',hd',mo',ti',l'⟩ hG=>tfi (.f jvt jhQ jvu (.f jvw jhR jvx (.f jvi jhK jvj .nil))) 0 jhS (by
 dsimp only[u19,q_rencV]at hG ⊢
 have zc:=Hk.mk (qaa @joy (qaa @joz @jor))
 by_cases h1:v=1
 ·subst h1
  have hF:encV 1 k r L x y hd mo ti l k' r' L' x' y' hd' mo' ti' l'=jct k r L x y hd mo ti l k' r' L' x' y' hd' mo' ti' l':=by simp[encV]
  have hT1:jay 1 k r L x y mo ti l=jaL k r L x y mo ti l:=by simp[jay]
  have hT2:jay 1 k' r' L' x' y' mo' ti' l'=jaL k' r' L' x' y' mo' ti' l':=by simp[jay]
  rw[hF,hT1,hT2]
  repeat' first|exact hG.1.1.1|exact hG.1.1.2|exact hG.1.2|exact hG.2.1.1|exact hG.2.1.2|exact hG.2.2|refine tU ?_|refine qab [] [] rfl ?_|refine qaa ?_ ?_|(refine tI ?_;intro hyp)|intro hyp0|exact tZ|omega
 by_cases h2:v=2
 ·subst h2
  have hF:encV 2 k r L x y hd mo ti l k' r' L' x' y' hd' mo' ti' l'=jcu k r L x y hd mo ti l k' r' L' x' y' hd' mo' ti' l':=by simp[encV]
  have hT1:jay 2 k r L x y mo ti l=jaO k r L x y mo ti l:=by simp[jay]
  have hT2:jay 2 k' r' L' x' y' mo' ti' l'=jaO k' r' L' x' y' mo' ti' l':=by simp[jay]
  rw[hF,hT1,hT2]
  repeat' first|exact hG.1.1.1|exact hG.1.1.2|exact hG.1.2|exact hG.2.1.1|exact hG.2.1.2|exact hG.2.2|refine tU ?_|refine qab [] [] rfl ?_|refine qaa ?_ ?_|(refine tI ?_;intro hyp)|intro hyp0|exact tZ|omega
 by_cases h3:v=3
 ·subst h3
  have hF:encV 3 k r L x y hd mo ti l k' r' L' x' y' hd' mo' ti' l'=encI k r L x y hd mo ti l k' r' L' x' y' hd' mo' ti' l':=by simp[encV]
  have hT1:jay 3 k r L x y mo ti l=jai k r L x y mo ti l:=by simp[jay]
  have hT2:jay 3 k' r' L' x' y' mo' ti' l'=jai k' r' L' x' y' mo' ti' l':=by simp[jay]
  rw[hF,hT1,hT2]
  repeat' first|exact hG.1.1.1|exact hG.1.1.2|exact hG.1.2|exact hG.2.1.1|exact hG.2.1.2|exact hG.2.2|refine tU ?_|refine qab [] [] rfl ?_|refine qaa ?_ ?_|(refine tI ?_;intro hyp)|intro hyp0|exact tZ|omega
 have hF:encV v k r L x y hd mo ti l k' r' L' x' y' hd' mo' ti' l'=[]:=by simp[encV,h1,h2,h3]
 have hT:jay v k r L x y mo ti l=false:=by simp[jay,h1,h2,h3]
 rw[hF,hT]
 repeat' first|refine tU ?_|refine qab [] [] rfl ?_|refine qaa ?_ ?_|(refine tI ?_;intro hyp)|intro hyp0|exact tZ|omega
 rfl)
theorem jyl {v k r:Int}{L:List CD}{x y:Int}{hd:Bool}{mo:Int}{ti:ByteArray}{l:List ByteArray}{k' r':Int}{L':List CD}{x' y':Int}{hd':Bool}{mo':Int}{ti':ByteArray}{l':List ByteArray}(h:(jay v k r L x y mo ti l&&jay v k' r' L' x' y' mo' ti' l')=false):encV v k r L x y hd mo ti l k' r' L' x' y' hd' mo' ti' l'=[]:=by
 unfold jay at h
 unfold encV
 split
 ·rename_i e
  rw[if_pos e,if_pos e]at h
  rw[jct,if_neg (by rw[h];decide)]
 ·rename_i e1
  rw[if_neg e1,if_neg e1]at h
  split
  ·rename_i e
   rw[if_pos e,if_pos e]at h
   rw[jcu,if_neg (by rw[h];decide)]
  ·rename_i e2
   rw[if_neg e2,if_neg e2]at h
   split
   ·rename_i e
    rw[if_pos e,if_pos e]at h
    rw[encI,if_neg (by rw[h];decide)]
   ·rfl
abbrev jtK:List AK:=[.any,.agg [.any,.any,.sl .cell,.any,.any,.any,.any,.any,.sl .str],.agg [.any,.any,.sl .cell,.any,.any,.any,.any,.any,.sl .str]]
abbrev q_rdiffV (v k r:Int) (L:List CD) (x y:Int) (hd:Bool) (mo:Int) (ti:ByteArray) (l:List ByteArray) (k' r':Int) (L':List CD) (x' y':Int) (hd':Bool) (mo':Int) (ti':ByteArray) (l':List ByteArray):QA:=([.int .i64 v,.agg [.int .i64 k,.int .i64 r,.vec .cell L,.int .i64 x,.int .i64 y,.bool hd,.int .u8 mo,.str ti,.vec .str l],.agg [.int .i64 k',.int .i64 r',.vec .cell L',.int .i64 x',.int .i64 y',.bool hd',.int .u8 mo',.str ti',.vec .str l']],((ScrOk L l∧SLen ti)∧0≤mo)∧((ScrOk L' l'∧SLen ti')∧0≤mo'),.ret (.tup [.vec (.int .u8) (jbj (encV v k r L x y hd mo ti l k' r' L' x' y' hd' mo' ti' l') (jbp v k' r' L' x' y' hd' mo' ti' l')),.int .i64 (errN (jay v k r L x y mo ti l&&jay v k' r' L' x' y' mo' ti' l'))]))
def sp_rdiffV:=spQ (u19 q_rdiffV)
theorem jnu:W19 (hA sp_rdiffV) q_rdiffV:=w19 (aA rfl)
theorem jtL:Al 11 sp_rdiffV:=ofA (u19 q_rdiffV) fun⟨v,k,r,L,x,y,hd,mo,ti,l,k',r',L',x',y',hd',mo',ti',l'⟩ hG=>tfi (.a jvy jhS jvz (.a jns jho jnt .nil)) 0 jkS (by
 dsimp only[u19,q_rdiffV]at hG ⊢
 have zc:=Hk.mk (qaa @joA @jhY)
 have hlE:=jdR (v:=v) (k:=k) (r:=r) (L:=L) (x:=x) (y:=y) (hd:=hd) (mo:=mo) (ti:=ti) (l:=l) (k':=k') (r':=r') (L':=L') (x':=x') (y':=y') (hd':=hd') (mo':=mo') (ti':=ti') (l':=l') hG.1.1.1 hG.1.2 hG.2.1.1 hG.2.2
 have hlF:=jc2 (v:=v) (k:=k') (r:=r') (L:=L') (x:=x') (y:=y') (hd:=hd') (mo:=mo') (ti:=ti') (l:=l') hG.2.1.1.wf hG.2.2
 have hno:=@jyl v k r L x y hd mo ti l k' r' L' x' y' hd' mo' ti' l'
 obtain⟨B,hB⟩:∃B,(jay v k r L x y mo ti l&&jay v k' r' L' x' y' mo' ti' l')=B:=⟨_,rfl⟩
 obtain⟨d,hd1⟩:∃B,encV v k r L x y hd mo ti l k' r' L' x' y' hd' mo' ti' l'=B:=⟨_,rfl⟩
 obtain⟨f,hf1⟩:∃B,jbp v k' r' L' x' y' hd' mo' ti' l'=B:=⟨_,rfl⟩
 rw[hd1]at hlE
 rw[hf1]at hlF
 rw[hB,hd1]at hno
 rw[hB,hd1,hf1]
 have hw3:=qaa hB (qaa hd1 hf1)
 cases B
 ·obtain rfl:=hno rfl
  have hw4:errN false=1:=rfl
  repeat' first|exact hG.1.1.1|exact hG.1.1.2|exact hG.1.2|exact hG.2.1.1|exact hG.2.1.2|exact hG.2.2|refine tU ?_|refine qab [] [] rfl ?_|refine qaa ?_ ?_|(refine tI ?_;intro hyp)|intro hyp0|exact tZ|omega
  all_goals simp[jbj]
 ·have hw4:errN true=0:=rfl
  repeat' first|exact hG.1.1.1|exact hG.1.1.2|exact hG.1.2|exact hG.2.1.1|exact hG.2.1.2|exact hG.2.2|refine tU ?_|refine qab [] [] rfl ?_|refine qaa ?_ ?_|(refine tI ?_;intro hyp)|intro hyp0|exact tZ|omega
  all_goals (simp[jbj];try omega))
end
section
open Go.RowKit
set_option maxRecDepth 100000
set_option maxHeartbeats 8000000
abbrev q_lawTells (v k r:Int) (L:List CD) (x y:Int) (hd:Bool) (mo:Int) (ti:ByteArray) (l:List ByteArray) (k' r':Int) (L':List CD) (x' y':Int) (hd':Bool) (mo':Int) (ti':ByteArray) (l':List ByteArray):QA:=([.int .i64 v,.agg [.int .i64 k,.int .i64 r,.vec .cell L,.int .i64 x,.int .i64 y,.bool hd,.int .u8 mo,.str ti,.vec .str l],.agg [.int .i64 k',.int .i64 r',.vec .cell L',.int .i64 x',.int .i64 y',.bool hd',.int .u8 mo',.str ti',.vec .str l']],(-9223372036854775808≤v∧v≤9223372036854775807)∧((∀c∈L,CWf c)∧SLen ti∧(∀s∈l,SLen s)∧0≤mo)∧((∀c∈L',CWf c)∧SLen ti'∧(∀s∈l',SLen s)∧0≤mo'),.ret (.bool true))
def sp_lawTells:=spQ (u19 q_lawTells)
theorem jj2:W19 (hA sp_lawTells) q_lawTells:=w19 (aA rfl)
theorem joB:Al 3 sp_lawTells:=ofA (u19 q_lawTells) fun⟨v,k,r,L,x,y,hd,mo,ti,l,k',r',L',x',y',hd',mo',ti',l'⟩ hG=>tfi (.f jtD jjO jtF (.f [] jjP jtH (.a jpE jfY jpF (.a jtK jkS jtL (.a jvq jjK jvr (.a jns jho jnt (.f jpb jg8 jpc (.f jph jfS jpi (.f jye jkR jyg .nil))))))))) 0 jjQ (by
 dsimp only[u19,q_lawTells]at hG ⊢
 have zc:=Hk.mk (qaa @jng (qaa @jnh (qaa @jjL (qaa @jnu (qaa @jov (qaa @jhY (qaa @ji9 (qaa @jjv @jtC))))))))
 obtain⟨hv64,⟨hwf,ht,hsl,hmo⟩,hwf',ht',hsl',hmo'⟩:=hG
 by_cases hgt:((3000<(L.length:Int)∨1000<(ti.size:Int))∨1000<(l.length:Int))∨((3000<(L'.length:Int)∨1000<(ti'.size:Int))∨1000<(l'.length:Int))
 ·repeat' first|exact⟨hwf,by omega,by omega,hsl⟩|exact⟨hwf',by omega,by omega,hsl'⟩|refine tU ?_|refine qab [] [] rfl ?_|refine qaa ?_ ?_|(refine tI ?_;intro hyp)|intro hyp0|exact tZ|omega
  all_goals (exfalso;omega)
 have hsc:ScrOk L l:=⟨hwf,by omega,by omega,hsl⟩
 have hsc':ScrOk L' l':=⟨hwf',by omega,by omega,hsl'⟩
 have g1:¬3000<(L.length:Int):=by omega
 have g2:¬1000<(ti.size:Int):=by omega
 have g3:¬1000<(l.length:Int):=by omega
 have g1':¬3000<(L'.length:Int):=by omega
 have g2':¬1000<(ti'.size:Int):=by omega
 have g3':¬1000<(l'.length:Int):=by omega
 have hf:=jc2 (v:=v) (k:=k') (r:=r') (x:=x') (y:=y') (hd:=hd') (ti:=ti') (l:=l') hwf' hmo'
 have he:=jdR (v:=v) (k:=k) (r:=r) (x:=x) (y:=y) (hd:=hd) (ti:=ti) (k':=k') (r':=r') (x':=x') (y':=y') (hd':=hd') (ti':=ti') hsc hmo hsc' hmo'
 have hle:=(jq4 (encV v k r L x y hd mo ti l k' r' L' x' y' hd' mo' ti' l') (jbp v k' r' L' x' y' hd' mo' ti' l')).1
 obtain⟨d,hdd⟩:∃d,jbj (encV v k r L x y hd mo ti l k' r' L' x' y' hd' mo' ti' l') (jbp v k' r' L' x' y' hd' mo' ti' l')=d:=⟨_,rfl⟩
 obtain⟨g,hg⟩:∃d,jbp v k' r' L' x' y' hd' mo' ti' l'=d:=⟨_,rfl⟩
 obtain⟨A,hA⟩:∃A,jay v k r L x y mo ti l=A:=⟨_,rfl⟩
 obtain⟨B,hB⟩:∃B,jay v k' r' L' x' y' mo' ti' l'=B:=⟨_,rfl⟩
 rw[hg]at hdd hf hle
 rw[hdd]at hle
 have hl3:d.length≤4611686018427387904:=by omega
 have hl4:g.length≤4611686018427387904:=by omega
 have hw3:=qaa hdd hg
 have hw:=qaa hA hB
 repeat' first|exact hsc|exact hsc'|exact hl3|exact hl4|exact ht|exact ht'|exact hwf _ ‹_›|refine tU ?_|refine qab [] [] rfl ?_|refine qaa ?_ ?_|(refine tI ?_;intro hyp)|intro hyp0|exact tZ|omega
 all_goals simp)
end
end
end Go.Proofs.YtienkkicehmchaaGreatDoor
