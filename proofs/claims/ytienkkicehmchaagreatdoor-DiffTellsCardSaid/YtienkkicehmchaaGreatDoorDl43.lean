/- Texts of this claim, merged by a program of this claim: FDiffM. -/
import Derived.Test.YtienkkicehmchaaGreatDoorDl30
import Derived.Test.YtienkkicehmchaaGreatDoorDl37
import Derived.Test.YtienkkicehmchaaGreatDoorDl42
import Derived.Test.YtienkkicehmchaaGreatDoorDl6
namespace Go.Proofs.YtienkkicehmchaaGreatDoor
open And renaming intro→qaa
open Cos renaming intro→qab
noncomputable section
set_option linter.unusedVariables false
set_option linter.unusedSimpArgs false
section
open Go.RowKit
set_option maxRecDepth 100000
set_option maxHeartbeats 4000000
theorem no1 {k r:Int}{L:List CD}{x y:Int}{hd:Bool}{mo:Int}{ti:ByteArray}{l:List ByteArray}{k' r':Int}{L':List CD}{x' y':Int}{hd':Bool}{mo':Int}{ti':ByteArray}{l':List ByteArray}(h:(jaL k r L x y mo ti l&&jaL k' r' L' x' y' mo' ti' l')=false):jct k r L x y hd mo ti l k' r' L' x' y' hd' mo' ti' l'=[]:=by
 unfold jct
 rw[if_neg (by rw[h];decide)]
theorem no2 {k r:Int}{L:List CD}{x y:Int}{hd:Bool}{mo:Int}{ti:ByteArray}{l:List ByteArray}{k' r':Int}{L':List CD}{x' y':Int}{hd':Bool}{mo':Int}{ti':ByteArray}{l':List ByteArray}(h:(jaO k r L x y mo ti l&&jaO k' r' L' x' y' mo' ti' l')=false):jcu k r L x y hd mo ti l k' r' L' x' y' hd' mo' ti' l'=[]:=by
 unfold jcu
 rw[if_neg (by rw[h];decide)]
theorem no3 {k r:Int}{L:List CD}{x y:Int}{hd:Bool}{mo:Int}{ti:ByteArray}{l:List ByteArray}{k' r':Int}{L':List CD}{x' y':Int}{hd':Bool}{mo':Int}{ti':ByteArray}{l':List ByteArray}(h:(jai k r L x y mo ti l&&jai k' r' L' x' y' mo' ti' l')=false):encI k r L x y hd mo ti l k' r' L' x' y' hd' mo' ti' l'=[]:=by
 unfold encI
 rw[if_neg (by rw[h];decide)]
abbrev jna:List AK:=[.any,.agg [.any,.any,.sl .cell,.any,.any,.any,.any,.any,.sl .str]]
abbrev q_m1full (k r:Int) (L:List CD) (x y:Int) (hd:Bool) (mo:Int) (ti:ByteArray) (l:List ByteArray):QA:=([.agg [],.agg [.int .i64 k,.int .i64 r,.vec .cell L,.int .i64 x,.int .i64 y,.bool hd,.int .u8 mo,.str ti,.vec .str l]],(ScrOk L l∧SLen ti)∧0≤mo,.ret (.tup [.vec (.int .u8) (jbx k r L x y hd mo ti l),.int .i64 (errN (jaL k r L x y mo ti l))]))
def sp_m1full:=spQ (u9 q_m1full)
theorem jhN:W9 (hA sp_m1full) q_m1full:=w9 (aA rfl)
theorem jnb:Al 48 sp_m1full:=ofA (u9 q_m1full) fun⟨k,r,L,x,y,hd,mo,ti,l⟩ hG=>tfi (.f jpo jfU jpp .nil) 0 jcb (by
 dsimp only[u9,q_m1full]at hG ⊢
 have zc:=Hk.mk (qaa @jjB (qaa @bF1 (qaa @bF2 (qaa @jbT (qaa @ja7 @jaG)))))
 repeat' first|exact hG.1.1|exact hG.1.2|refine tU ?_|refine qab [] [] rfl ?_|refine qaa ?_ ?_|(refine tI ?_;intro hyp)|intro hyp0|exact tZ|omega)
abbrev jvk:List AK:=[.any,.agg [.any,.any,.sl .cell,.any,.any,.any,.any,.any,.sl .str],.agg [.any,.any,.sl .cell,.any,.any,.any,.any,.any,.sl .str]]
abbrev q_m1enc (k r:Int) (L:List CD) (x y:Int) (hd:Bool) (mo:Int) (ti:ByteArray) (l:List ByteArray) (k' r':Int) (L':List CD) (x' y':Int) (hd':Bool) (mo':Int) (ti':ByteArray) (l':List ByteArray):QA:=([.agg [],.agg [.int .i64 k,.int .i64 r,.vec .cell L,.int .i64 x,.int .i64 y,.bool hd,.int .u8 mo,.str ti,.vec .str l],.agg [.int .i64 k',.int .i64 r',.vec .cell L',.int .i64 x',.int .i64 y',.bool hd',.int .u8 mo',.str ti',.vec .str l']],((ScrOk L l∧SLen ti)∧0≤mo)∧((ScrOk L' l'∧SLen ti')∧0≤mo'),.ret (.tup [.vec (.int .u8) (jct k r L x y hd mo ti l k' r' L' x' y' hd' mo' ti' l'),.int .i64 (errN (jaL k r L x y mo ti l&&jaL k' r' L' x' y' mo' ti' l'))]))
def sp_m1enc:=spQ (u18 q_m1enc)
theorem jos:W18 (hA sp_m1enc) q_m1enc:=w18 (aA rfl)
theorem jvl:Al 47 sp_m1enc:=ofA (u18 q_m1enc) fun⟨k,r,L,x,y,hd,mo,ti,l,k',r',L',x',y',hd',mo',ti',l'⟩ hG=>tfi (.f jxi jgF jxj .nil) 0 jc3 (by
 dsimp only[u18,q_m1enc]at hG ⊢
 have zc:=Hk.mk (qaa @jqP (qaa @bF1 (qaa @bF2 (qaa @jbT (qaa @ja7 @jaG)))))
 repeat' first|exact hG.1.1|exact hG.1.2|exact hG.2.1|exact hG.2.2|refine tU ?_|refine qab [] [] rfl ?_|refine qaa ?_ ?_|(refine tI ?_;intro hyp)|intro hyp0|exact tZ|omega)
abbrev jnc:List AK:=[.any,.agg [.any,.any,.sl .cell,.any,.any,.any,.any,.any,.sl .str]]
abbrev q_m2full (k r:Int) (L:List CD) (x y:Int) (hd:Bool) (mo:Int) (ti:ByteArray) (l:List ByteArray):QA:=([.agg [],.agg [.int .i64 k,.int .i64 r,.vec .cell L,.int .i64 x,.int .i64 y,.bool hd,.int .u8 mo,.str ti,.vec .str l]],(ScrOk L l∧SLen ti)∧0≤mo,.ret (.tup [.vec (.int .u8) (jby k r L x y hd mo ti l),.int .i64 (errN (jaO k r L x y mo ti l))]))
def sp_m2full:=spQ (u9 q_m2full)
theorem jhO:W9 (hA sp_m2full) q_m2full:=w9 (aA rfl)
theorem jnd:Al 52 sp_m2full:=ofA (u9 q_m2full) fun⟨k,r,L,x,y,hd,mo,ti,l⟩ hG=>tfi (.f jpx jfX jpy .nil) 0 jbY (by
 dsimp only[u9,q_m2full]at hG ⊢
 have zc:=Hk.mk (qaa @jjG (qaa @bF1 (qaa @bF2 (qaa @jbT (qaa @ja7 @jaG)))))
 repeat' first|exact hG.1.1|exact hG.1.2|refine tU ?_|refine qab [] [] rfl ?_|refine qaa ?_ ?_|(refine tI ?_;intro hyp)|intro hyp0|exact tZ|omega)
abbrev jvm:List AK:=[.any,.agg [.any,.any,.sl .cell,.any,.any,.any,.any,.any,.sl .str],.agg [.any,.any,.sl .cell,.any,.any,.any,.any,.any,.sl .str]]
abbrev q_m2enc (k r:Int) (L:List CD) (x y:Int) (hd:Bool) (mo:Int) (ti:ByteArray) (l:List ByteArray) (k' r':Int) (L':List CD) (x' y':Int) (hd':Bool) (mo':Int) (ti':ByteArray) (l':List ByteArray):QA:=([.agg [],.agg [.int .i64 k,.int .i64 r,.vec .cell L,.int .i64 x,.int .i64 y,.bool hd,.int .u8 mo,.str ti,.vec .str l],.agg [.int .i64 k',.int .i64 r',.vec .cell L',.int .i64 x',.int .i64 y',.bool hd',.int .u8 mo',.str ti',.vec .str l']],((ScrOk L l∧SLen ti)∧0≤mo)∧((ScrOk L' l'∧SLen ti')∧0≤mo'),.ret (.tup [.vec (.int .u8) (jcu k r L x y hd mo ti l k' r' L' x' y' hd' mo' ti' l'),.int .i64 (errN (jaO k r L x y mo ti l&&jaO k' r' L' x' y' mo' ti' l'))]))
def sp_m2enc:=spQ (u18 q_m2enc)
theorem jot:W18 (hA sp_m2enc) q_m2enc:=w18 (aA rfl)
theorem jvn:Al 51 sp_m2enc:=ofA (u18 q_m2enc) fun⟨k,r,L,x,y,hd,mo,ti,l,k',r',L',x',y',hd',mo',ti',l'⟩ hG=>tfi (.f jxo jgH jxp .nil) 0 jcx (by
 dsimp only[u18,q_m2enc]at hG ⊢
 have zc:=Hk.mk (qaa @jqV (qaa @bF1 (qaa @bF2 (qaa @jbT (qaa @ja7 @jaG)))))
 repeat' first|exact hG.1.1|exact hG.1.2|exact hG.2.1|exact hG.2.2|refine tU ?_|refine qab [] [] rfl ?_|refine qaa ?_ ?_|(refine tI ?_;intro hyp)|intro hyp0|exact tZ|omega)
abbrev jne:List AK:=[.any,.agg [.any,.any,.sl .cell,.any,.any,.any,.any,.any,.sl .str]]
abbrev q_m3full (k r:Int) (L:List CD) (x y:Int) (hd:Bool) (mo:Int) (ti:ByteArray) (l:List ByteArray):QA:=([.agg [],.agg [.int .i64 k,.int .i64 r,.vec .cell L,.int .i64 x,.int .i64 y,.bool hd,.int .u8 mo,.str ti,.vec .str l]],(ScrOk L l∧SLen ti)∧0≤mo,.ret (.tup [.vec (.int .u8) (jcn k r L x y hd mo ti l),.int .i64 (errN (jai k r L x y mo ti l))]))
def sp_m3full:=spQ (u9 q_m3full)
theorem jhP:W9 (hA sp_m3full) q_m3full:=w9 (aA rfl)
theorem jnf:Al 56 sp_m3full:=ofA (u9 q_m3full) fun⟨k,r,L,x,y,hd,mo,ti,l⟩ hG=>tfi (.f jpC jeU jpD .nil) 0 jcc (by
 dsimp only[u9,q_m3full]at hG ⊢
 have zc:=Hk.mk (qaa @jjJ (qaa @bF1 (qaa @bF2 (qaa @jbT (qaa @ja7 @jaG)))))
 repeat' first|exact hG.1.1|exact hG.1.2|refine tU ?_|refine qab [] [] rfl ?_|refine qaa ?_ ?_|(refine tI ?_;intro hyp)|intro hyp0|exact tZ|omega)
abbrev jvo:List AK:=[.any,.agg [.any,.any,.sl .cell,.any,.any,.any,.any,.any,.sl .str],.agg [.any,.any,.sl .cell,.any,.any,.any,.any,.any,.sl .str]]
abbrev q_m3enc (k r:Int) (L:List CD) (x y:Int) (hd:Bool) (mo:Int) (ti:ByteArray) (l:List ByteArray) (k' r':Int) (L':List CD) (x' y':Int) (hd':Bool) (mo':Int) (ti':ByteArray) (l':List ByteArray):QA:=([.agg [],.agg [.int .i64 k,.int .i64 r,.vec .cell L,.int .i64 x,.int .i64 y,.bool hd,.int .u8 mo,.str ti,.vec .str l],.agg [.int .i64 k',.int .i64 r',.vec .cell L',.int .i64 x',.int .i64 y',.bool hd',.int .u8 mo',.str ti',.vec .str l']],((ScrOk L l∧SLen ti)∧0≤mo)∧((ScrOk L' l'∧SLen ti')∧0≤mo'),.ret (.tup [.vec (.int .u8) (encI k r L x y hd mo ti l k' r' L' x' y' hd' mo' ti' l'),.int .i64 (errN (jai k r L x y mo ti l&&jai k' r' L' x' y' mo' ti' l'))]))
def sp_m3enc:=spQ (u18 q_m3enc)
theorem jou:W18 (hA sp_m3enc) q_m3enc:=w18 (aA rfl)
theorem jvp:Al 55 sp_m3enc:=ofA (u18 q_m3enc) fun⟨k,r,L,x,y,hd,mo,ti,l,k',r',L',x',y',hd',mo',ti',l'⟩ hG=>tfi (.f jxu jfs jxv .nil) 0 jc4 (by
 dsimp only[u18,q_m3enc]at hG ⊢
 have zc:=Hk.mk (qaa @jq3 (qaa @bF1 (qaa @bF2 (qaa @jbT (qaa @ja7 @jaG)))))
 repeat' first|exact hG.1.1|exact hG.1.2|exact hG.2.1|exact hG.2.2|refine tU ?_|refine qab [] [] rfl ?_|refine qaa ?_ ?_|(refine tI ?_;intro hyp)|intro hyp0|exact tZ|omega)
abbrev jvq:List AK:=[.any,.agg [.any,.any,.sl .cell,.any,.any,.any,.any,.any,.sl .str]]
abbrev q_dfull (v k r:Int) (L:List CD) (x y:Int) (hd:Bool) (mo:Int) (ti:ByteArray) (l:List ByteArray):QA:=([.int .i64 v,.agg [.int .i64 k,.int .i64 r,.vec .cell L,.int .i64 x,.int .i64 y,.bool hd,.int .u8 mo,.str ti,.vec .str l]],(ScrOk L l∧SLen ti)∧0≤mo,.ret (.tup [.vec (.int .u8) (jbp v k r L x y hd mo ti l),.int .i64 (errN (jay v k r L x y mo ti l))]))
def sp_dfull:=spQ (u10 q_dfull)
theorem jov:W10 (hA sp_dfull) q_dfull:=w10 (aA rfl)
theorem jvr:Al 12 sp_dfull:=ofA (u10 q_dfull) fun⟨v,k,r,L,x,y,hd,mo,ti,l⟩ hG=>tfi (.a [.any] jgD jsY (.a jna jcb jnb (.a jnc jbY jnd (.a jne jcc jnf .nil)))) 0 jjK (by
 dsimp only[u10,q_dfull]at hG ⊢
 have zc:=Hk.mk (qaa @jju (qaa @jhN (qaa @jhO (qaa @jhP (qaa @bF1 (qaa @bF2 (qaa @jbT (qaa @ja7 @jaG))))))))
 by_cases h1:v=1
 ·subst h1
  have hw:wayV 1=_:=if_pos rfl
  repeat' first|exact hG.1.1|exact hG.1.2|refine tU ?_|refine qab [] [] rfl ?_|refine qaa ?_ ?_|(refine tI ?_;intro hyp)|intro hyp0|exact tZ|omega
  all_goals simp[jbp,jay]
 by_cases h2:v=2
 ·subst h2
  have hw:wayV 2=_:=(if_neg (by decide)).trans (if_pos rfl)
  repeat' first|exact hG.1.1|exact hG.1.2|refine tU ?_|refine qab [] [] rfl ?_|refine qaa ?_ ?_|(refine tI ?_;intro hyp)|intro hyp0|exact tZ|omega
  all_goals simp[jbp,jay]
 by_cases h3:v=3
 ·subst h3
  have hw:wayV 3=_:=(if_neg (by decide)).trans ((if_neg (by decide)).trans (if_pos rfl))
  repeat' first|exact hG.1.1|exact hG.1.2|refine tU ?_|refine qab [] [] rfl ?_|refine qaa ?_ ?_|(refine tI ?_;intro hyp)|intro hyp0|exact tZ|omega
  all_goals simp[jbp,jay]
 have hw:wayV v=_:=(if_neg h1).trans ((if_neg h2).trans (if_neg h3))
 have hw2:decide (1≤v∧v≤3)=false:=decide_eq_false (by omega)
 repeat' first|refine tU ?_|refine qab [] [] rfl ?_|refine qaa ?_ ?_|(refine tI ?_;intro hyp)|intro hyp0|exact tZ|omega
 all_goals simp[jbp,jay,h1,h2,h3,errN])
abbrev jpE:List AK:=[.any,.agg [.any,.any,.sl .cell,.any,.any,.any,.any,.any,.sl .str],.agg [.any,.any,.sl .cell,.any,.any,.any,.any,.any,.sl .str]]
abbrev q_ddiff (v k r:Int) (L:List CD) (x y:Int) (hd:Bool) (mo:Int) (ti:ByteArray) (l:List ByteArray) (k' r':Int) (L':List CD) (x' y':Int) (hd':Bool) (mo':Int) (ti':ByteArray) (l':List ByteArray):QA:=([.int .i64 v,.agg [.int .i64 k,.int .i64 r,.vec .cell L,.int .i64 x,.int .i64 y,.bool hd,.int .u8 mo,.str ti,.vec .str l],.agg [.int .i64 k',.int .i64 r',.vec .cell L',.int .i64 x',.int .i64 y',.bool hd',.int .u8 mo',.str ti',.vec .str l']],((ScrOk L l∧SLen ti)∧0≤mo)∧((ScrOk L' l'∧SLen ti')∧0≤mo'),.ret (.tup [.vec (.int .u8) (jbj (encV v k r L x y hd mo ti l k' r' L' x' y' hd' mo' ti' l') (jbp v k' r' L' x' y' hd' mo' ti' l')),.int .i64 (errN (jay v k r L x y mo ti l&&jay v k' r' L' x' y' mo' ti' l'))]))
def sp_ddiff:=spQ (u19 q_ddiff)
theorem jjL:W19 (hA sp_ddiff) q_ddiff:=w19 (aA rfl)
theorem jpF:Al 10 sp_ddiff:=ofA (u19 q_ddiff) fun⟨v,k,r,L,x,y,hd,mo,ti,l,k',r',L',x',y',hd',mo',ti',l'⟩ hG=>tfi (.a [.any] jgD jsY (.a jvk jc3 jvl (.a jvm jcx jvn (.a jvo jc4 jvp (.a jna jcb jnb (.a jnc jbY jnd (.a jne jcc jnf .nil))))))) 0 jfY (by
 dsimp only[u19,q_ddiff]at hG ⊢
 have zc:=Hk.mk (qaa @jju (qaa @jos (qaa @jot (qaa @jou (qaa @jhN (qaa @jhO (qaa @jhP (qaa @bF1 (qaa @bF2 (qaa @jbT (qaa @ja7 @jaG)))))))))))
 by_cases h1:v=1
 ·subst h1
  have hw:wayV 1=_:=if_pos rfl
  have hE:encV 1 k r L x y hd mo ti l k' r' L' x' y' hd' mo' ti' l'=jct k r L x y hd mo ti l k' r' L' x' y' hd' mo' ti' l':=by simp[encV]
  have hF:jbp 1 k' r' L' x' y' hd' mo' ti' l'=jbx k' r' L' x' y' hd' mo' ti' l':=by simp[jbp]
  have hT1:jay 1 k r L x y mo ti l=jaL k r L x y mo ti l:=by simp[jay]
  have hT2:jay 1 k' r' L' x' y' mo' ti' l'=jaL k' r' L' x' y' mo' ti' l':=by simp[jay]
  have hlE:=jdR (v:=1) (k:=k) (r:=r) (L:=L) (x:=x) (y:=y) (hd:=hd) (mo:=mo) (ti:=ti) (l:=l) (k':=k') (r':=r') (L':=L') (x':=x') (y':=y') (hd':=hd') (mo':=mo') (ti':=ti') (l':=l') hG.1.1.1 hG.1.2 hG.2.1.1 hG.2.2
  have hlF:=jc2 (v:=1) (k:=k') (r:=r') (L:=L') (x:=x') (y:=y') (hd:=hd') (mo:=mo') (ti:=ti') (l:=l') hG.2.1.1.wf hG.2.2
  rw[hE]at hlE
  rw[hF]at hlF
  rw[hE,hF,hT1,hT2]
  obtain⟨B,hB⟩:∃B,(jaL k r L x y mo ti l&&jaL k' r' L' x' y' mo' ti' l')=B:=⟨_,rfl⟩
  obtain⟨d,hd1⟩:∃B,jct k r L x y hd mo ti l k' r' L' x' y' hd' mo' ti' l'=B:=⟨_,rfl⟩
  obtain⟨f,hf1⟩:∃B,jbx k' r' L' x' y' hd' mo' ti' l'=B:=⟨_,rfl⟩
  rw[hd1]at hlE
  rw[hf1]at hlF
  rw[hB,hd1,hf1]
  cases B
  ·have hd2:d=[]:=by
    rw[←hd1]
    exact no1 hB
   subst hd2
   have hw3:=qaa hB (qaa hd1 hf1)
   have hw4:errN false=1:=rfl
   repeat' first|exact hG.1.1.1|exact hG.1.1.2|exact hG.1.2|exact hG.2.1.1|exact hG.2.1.2|exact hG.2.2|refine tU ?_|refine qab [] [] rfl ?_|refine qaa ?_ ?_|(refine tI ?_;intro hyp)|intro hyp0|exact tZ|omega
   all_goals simp[jbj]
  ·have hw3:=qaa hB (qaa hd1 hf1)
   have hw4:errN true=0:=rfl
   repeat' first|exact hG.1.1.1|exact hG.1.1.2|exact hG.1.2|exact hG.2.1.1|exact hG.2.1.2|exact hG.2.2|refine tU ?_|refine qab [] [] rfl ?_|refine qaa ?_ ?_|(refine tI ?_;intro hyp)|intro hyp0|exact tZ|omega
   all_goals (simp[jbj];try omega)
 by_cases h2:v=2
 ·subst h2
  have hw:wayV 2=_:=(if_neg (by decide)).trans (if_pos rfl)
  have hE:encV 2 k r L x y hd mo ti l k' r' L' x' y' hd' mo' ti' l'=jcu k r L x y hd mo ti l k' r' L' x' y' hd' mo' ti' l':=by simp[encV]
  have hF:jbp 2 k' r' L' x' y' hd' mo' ti' l'=jby k' r' L' x' y' hd' mo' ti' l':=by simp[jbp]
  have hT1:jay 2 k r L x y mo ti l=jaO k r L x y mo ti l:=by simp[jay]
  have hT2:jay 2 k' r' L' x' y' mo' ti' l'=jaO k' r' L' x' y' mo' ti' l':=by simp[jay]
  have hlE:=jdR (v:=2) (k:=k) (r:=r) (L:=L) (x:=x) (y:=y) (hd:=hd) (mo:=mo) (ti:=ti) (l:=l) (k':=k') (r':=r') (L':=L') (x':=x') (y':=y') (hd':=hd') (mo':=mo') (ti':=ti') (l':=l') hG.1.1.1 hG.1.2 hG.2.1.1 hG.2.2
  have hlF:=jc2 (v:=2) (k:=k') (r:=r') (L:=L') (x:=x') (y:=y') (hd:=hd') (mo:=mo') (ti:=ti') (l:=l') hG.2.1.1.wf hG.2.2
  rw[hE]at hlE
  rw[hF]at hlF
  rw[hE,hF,hT1,hT2]
  obtain⟨B,hB⟩:∃B,(jaO k r L x y mo ti l&&jaO k' r' L' x' y' mo' ti' l')=B:=⟨_,rfl⟩
  obtain⟨d,hd1⟩:∃B,jcu k r L x y hd mo ti l k' r' L' x' y' hd' mo' ti' l'=B:=⟨_,rfl⟩
  obtain⟨f,hf1⟩:∃B,jby k' r' L' x' y' hd' mo' ti' l'=B:=⟨_,rfl⟩
  rw[hd1]at hlE
  rw[hf1]at hlF
  rw[hB,hd1,hf1]
  cases B
  ·have hd2:d=[]:=by
    rw[←hd1]
    exact no2 hB
   subst hd2
   have hw3:=qaa hB (qaa hd1 hf1)
   have hw4:errN false=1:=rfl
   repeat' first|exact hG.1.1.1|exact hG.1.1.2|exact hG.1.2|exact hG.2.1.1|exact hG.2.1.2|exact hG.2.2|refine tU ?_|refine qab [] [] rfl ?_|refine qaa ?_ ?_|(refine tI ?_;intro hyp)|intro hyp0|exact tZ|omega
   all_goals simp[jbj]
  ·have hw3:=qaa hB (qaa hd1 hf1)
   have hw4:errN true=0:=rfl
   repeat' first|exact hG.1.1.1|exact hG.1.1.2|exact hG.1.2|exact hG.2.1.1|exact hG.2.1.2|exact hG.2.2|refine tU ?_|refine qab [] [] rfl ?_|refine qaa ?_ ?_|(refine tI ?_;intro hyp)|intro hyp0|exact tZ|omega
   all_goals (simp[jbj];try omega)
 by_cases h3:v=3
 ·subst h3
  have hw:wayV 3=_:=(if_neg (by decide)).trans ((if_neg (by decide)).trans (if_pos rfl))
  have hE:encV 3 k r L x y hd mo ti l k' r' L' x' y' hd' mo' ti' l'=encI k r L x y hd mo ti l k' r' L' x' y' hd' mo' ti' l':=by simp[encV]
  have hF:jbp 3 k' r' L' x' y' hd' mo' ti' l'=jcn k' r' L' x' y' hd' mo' ti' l':=by simp[jbp]
  have hT1:jay 3 k r L x y mo ti l=jai k r L x y mo ti l:=by simp[jay]
  have hT2:jay 3 k' r' L' x' y' mo' ti' l'=jai k' r' L' x' y' mo' ti' l':=by simp[jay]
  have hlE:=jdR (v:=3) (k:=k) (r:=r) (L:=L) (x:=x) (y:=y) (hd:=hd) (mo:=mo) (ti:=ti) (l:=l) (k':=k') (r':=r') (L':=L') (x':=x') (y':=y') (hd':=hd') (mo':=mo') (ti':=ti') (l':=l') hG.1.1.1 hG.1.2 hG.2.1.1 hG.2.2
  have hlF:=jc2 (v:=3) (k:=k') (r:=r') (L:=L') (x:=x') (y:=y') (hd:=hd') (mo:=mo') (ti:=ti') (l:=l') hG.2.1.1.wf hG.2.2
  rw[hE]at hlE
  rw[hF]at hlF
  rw[hE,hF,hT1,hT2]
  obtain⟨B,hB⟩:∃B,(jai k r L x y mo ti l&&jai k' r' L' x' y' mo' ti' l')=B:=⟨_,rfl⟩
  obtain⟨d,hd1⟩:∃B,encI k r L x y hd mo ti l k' r' L' x' y' hd' mo' ti' l'=B:=⟨_,rfl⟩
  obtain⟨f,hf1⟩:∃B,jcn k' r' L' x' y' hd' mo' ti' l'=B:=⟨_,rfl⟩
  rw[hd1]at hlE
  rw[hf1]at hlF
  rw[hB,hd1,hf1]
  cases B
  ·have hd2:d=[]:=by
    rw[←hd1]
    exact no3 hB
   subst hd2
   have hw3:=qaa hB (qaa hd1 hf1)
   have hw4:errN false=1:=rfl
   repeat' first|exact hG.1.1.1|exact hG.1.1.2|exact hG.1.2|exact hG.2.1.1|exact hG.2.1.2|exact hG.2.2|refine tU ?_|refine qab [] [] rfl ?_|refine qaa ?_ ?_|(refine tI ?_;intro hyp)|intro hyp0|exact tZ|omega
   all_goals simp[jbj]
  ·have hw3:=qaa hB (qaa hd1 hf1)
   have hw4:errN true=0:=rfl
   repeat' first|exact hG.1.1.1|exact hG.1.1.2|exact hG.1.2|exact hG.2.1.1|exact hG.2.1.2|exact hG.2.2|refine tU ?_|refine qab [] [] rfl ?_|refine qaa ?_ ?_|(refine tI ?_;intro hyp)|intro hyp0|exact tZ|omega
   all_goals (simp[jbj];try omega)
 have hw:wayV v=_:=(if_neg h1).trans ((if_neg h2).trans (if_neg h3))
 have hw2:decide (1≤v∧v≤3)=false:=decide_eq_false (by omega)
 have hE:encV v k r L x y hd mo ti l k' r' L' x' y' hd' mo' ti' l'=[]:=by simp[encV,h1,h2,h3]
 have hF:jbp v k' r' L' x' y' hd' mo' ti' l'=[]:=by simp[jbp,h1,h2,h3]
 have hT:jay v k r L x y mo ti l=false:=by simp[jay,h1,h2,h3]
 rw[hE,hF,hT]
 repeat' first|refine tU ?_|refine qab [] [] rfl ?_|refine qaa ?_ ?_|(refine tI ?_;intro hyp)|intro hyp0|exact tZ|omega
 all_goals simp[jbj,errN])
end
end
end Go.Proofs.YtienkkicehmchaaGreatDoor
