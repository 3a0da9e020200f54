/- Texts of this claim, merged by a program of this claim: FDiffM. -/
import Derived.Test.YtienkkicehmchaaGreatDoorDt19
import Derived.Test.YtienkkicehmchaaGreatDoorDt29
import Derived.Test.YtienkkicehmchaaGreatDoorDt31
import Derived.Test.YtienkkicehmchaaGreatDoorDt35
import Derived.Test.YtienkkicehmchaaGreatDoorDt36
import Derived.Test.YtienkkicehmchaaGreatDoorDt6
namespace Go.Proofs.YtienkkicehmchaaGreatDoor
open And renaming intro→qaa
open Cos renaming intro→qab
noncomputable section
set_option linter.unusedVariables false
set_option linter.unusedSimpArgs false
section
open Go.RowKit
set_option maxRecDepth 100000
set_option maxHeartbeats 4000000
theorem no1 {k r:Int}{L:List CD}{x y:Int}{hd:Bool}{mo:Int}{ti:ByteArray}{l:List ByteArray}{k' r':Int}{L':List CD}{x' y':Int}{hd':Bool}{mo':Int}{ti':ByteArray}{l':List ByteArray}(h:(jaC k r L x y mo ti l&&jaC k' r' L' x' y' mo' ti' l')=false):jd3 k r L x y hd mo ti l k' r' L' x' y' hd' mo' ti' l'=[]:=by
 unfold jd3
 rw[if_neg (by rw[h];decide)]
theorem no2 {k r:Int}{L:List CD}{x y:Int}{hd:Bool}{mo:Int}{ti:ByteArray}{l:List ByteArray}{k' r':Int}{L':List CD}{x' y':Int}{hd':Bool}{mo':Int}{ti':ByteArray}{l':List ByteArray}(h:(jaB k r L x y mo ti l&&jaB k' r' L' x' y' mo' ti' l')=false):jd5 k r L x y hd mo ti l k' r' L' x' y' hd' mo' ti' l'=[]:=by
 unfold jd5
 rw[if_neg (by rw[h];decide)]
theorem no3 {k r:Int}{L:List CD}{x y:Int}{hd:Bool}{mo:Int}{ti:ByteArray}{l:List ByteArray}{k' r':Int}{L':List CD}{x' y':Int}{hd':Bool}{mo':Int}{ti':ByteArray}{l':List ByteArray}(h:(jal k r L x y mo ti l&&jal k' r' L' x' y' mo' ti' l')=false):encI k r L x y hd mo ti l k' r' L' x' y' hd' mo' ti' l'=[]:=by
 unfold encI
 rw[if_neg (by rw[h];decide)]
abbrev jow:List AK:=[.any,.agg [.any,.any,.sl .cell,.any,.any,.any,.any,.any,.sl .str]]
abbrev q_m1full (k r:Int) (L:List CD) (x y:Int) (hd:Bool) (mo:Int) (ti:ByteArray) (l:List ByteArray):QA:=([.agg [],.agg [.int .i64 k,.int .i64 r,.vec .cell L,.int .i64 x,.int .i64 y,.bool hd,.int .u8 mo,.str ti,.vec .str l]],(ScrOk L l∧SLen ti)∧0≤mo,.ret (.tup [.vec (.int .u8) (jco k r L x y hd mo ti l),.int .i64 (errN (jaC k r L x y mo ti l))]))
def sp_m1full:=spQ (u9 q_m1full)
theorem jiQ:W9 (hA sp_m1full) q_m1full:=w9 (aA rfl)
theorem jox:Al 48 sp_m1full:=ofA (u9 q_m1full) fun⟨k,r,L,x,y,hd,mo,ti,l⟩ hG=>tfi (.f jqM jgN jqN .nil) 0 jcA (by
 dsimp only[u9,q_m1full]at hG ⊢
 have zc:=Hk.mk (qaa @jko (qaa @bF1 (qaa @bF2 (qaa @jbH (qaa @ja4 @jay)))))
 repeat' first|exact hG.1.1|exact hG.1.2|refine tU ?_|refine qab [] [] rfl ?_|refine qaa ?_ ?_|(refine tI ?_;intro hyp)|intro hyp0|exact tZ|omega)
abbrev jxN:List AK:=[.any,.agg [.any,.any,.sl .cell,.any,.any,.any,.any,.any,.sl .str],.agg [.any,.any,.sl .cell,.any,.any,.any,.any,.any,.sl .str]]
abbrev q_m1enc (k r:Int) (L:List CD) (x y:Int) (hd:Bool) (mo:Int) (ti:ByteArray) (l:List ByteArray) (k' r':Int) (L':List CD) (x' y':Int) (hd':Bool) (mo':Int) (ti':ByteArray) (l':List ByteArray):QA:=([.agg [],.agg [.int .i64 k,.int .i64 r,.vec .cell L,.int .i64 x,.int .i64 y,.bool hd,.int .u8 mo,.str ti,.vec .str l],.agg [.int .i64 k',.int .i64 r',.vec .cell L',.int .i64 x',.int .i64 y',.bool hd',.int .u8 mo',.str ti',.vec .str l']],((ScrOk L l∧SLen ti)∧0≤mo)∧((ScrOk L' l'∧SLen ti')∧0≤mo'),.ret (.tup [.vec (.int .u8) (jd3 k r L x y hd mo ti l k' r' L' x' y' hd' mo' ti' l'),.int .i64 (errN (jaC k r L x y mo ti l&&jaC k' r' L' x' y' mo' ti' l'))]))
def sp_m1enc:=spQ (u18 q_m1enc)
theorem jpP:W18 (hA sp_m1enc) q_m1enc:=w18 (aA rfl)
theorem jxO:Al 47 sp_m1enc:=ofA (u18 q_m1enc) fun⟨k,r,L,x,y,hd,mo,ti,l,k',r',L',x',y',hd',mo',ti',l'⟩ hG=>tfi (.f jzK jhG jzL .nil) 0 jdu (by
 dsimp only[u18,q_m1enc]at hG ⊢
 have zc:=Hk.mk (qaa @jsq (qaa @bF1 (qaa @bF2 (qaa @jbH (qaa @ja4 @jay)))))
 repeat' first|exact hG.1.1|exact hG.1.2|exact hG.2.1|exact hG.2.2|refine tU ?_|refine qab [] [] rfl ?_|refine qaa ?_ ?_|(refine tI ?_;intro hyp)|intro hyp0|exact tZ|omega)
abbrev jxP:List AK:=[.any,.agg [.any,.any,.sl .cell,.any,.any,.any,.any,.any,.sl .str],.sl (.int .u8)]
abbrev q_m1app (k r:Int) (L:List CD) (x y:Int) (hd:Bool) (mo:Int) (ti:ByteArray) (l:List ByteArray) (d:List Int):QA:=([.agg [],.agg [.int .i64 k,.int .i64 r,.vec .cell L,.int .i64 x,.int .i64 y,.bool hd,.int .u8 mo,.str ti,.vec .str l],.vec (.int .u8) d],(ScrOk L l∧SLen ti)∧(d.length≤1000000∧Bts d),.ret (.tup [.agg [.int .i64 (ap1G d ⟨k,r,L,x,y,hd,mo,ti,l,[],0⟩).2.k,.int .i64 (ap1G d ⟨k,r,L,x,y,hd,mo,ti,l,[],0⟩).2.r,.vec .cell (ap1G d ⟨k,r,L,x,y,hd,mo,ti,l,[],0⟩).2.L,.int .i64 (ap1G d ⟨k,r,L,x,y,hd,mo,ti,l,[],0⟩).2.x,.int .i64 (ap1G d ⟨k,r,L,x,y,hd,mo,ti,l,[],0⟩).2.y,.bool (ap1G d ⟨k,r,L,x,y,hd,mo,ti,l,[],0⟩).2.hd,.int .u8 (ap1G d ⟨k,r,L,x,y,hd,mo,ti,l,[],0⟩).2.mo,.str (ap1G d ⟨k,r,L,x,y,hd,mo,ti,l,[],0⟩).2.ti,.vec .str (ap1G d ⟨k,r,L,x,y,hd,mo,ti,l,[],0⟩).2.l],.int .i64 (ap1G d ⟨k,r,L,x,y,hd,mo,ti,l,[],0⟩).1]))
def sp_m1app:=spQ (u10 q_m1app)
theorem jpQ:W10 (hA sp_m1app) q_m1app:=w10 (aA rfl)
theorem jxQ:Al 49 sp_m1app:=ofA (u10 q_m1app) fun⟨k,r,L,x,y,hd,mo,ti,l,d⟩ hG=>tfi (.a jz9 jiN jAa .nil) 0 jdW (by
 dsimp only[u10,q_m1app]at hG ⊢
 have zc:=Hk.mk (qaa @jsA (qaa @bF1 (qaa @bF2 (qaa @jbH (qaa @ja4 @jay)))))
 have hwf:=hG.1.1.wf
 repeat' first|exact hG.1.1|exact hG.1.2|exact hG.2.1|exact hG.2.2|exact hwf _ ‹_›|refine tU ?_|refine qab [] [] rfl ?_|refine qaa ?_ ?_|(refine tI ?_;intro hyp)|intro hyp0|exact tZ|omega)
abbrev joy:List AK:=[.any,.agg [.any,.any,.sl .cell,.any,.any,.any,.any,.any,.sl .str]]
abbrev q_m2full (k r:Int) (L:List CD) (x y:Int) (hd:Bool) (mo:Int) (ti:ByteArray) (l:List ByteArray):QA:=([.agg [],.agg [.int .i64 k,.int .i64 r,.vec .cell L,.int .i64 x,.int .i64 y,.bool hd,.int .u8 mo,.str ti,.vec .str l]],(ScrOk L l∧SLen ti)∧0≤mo,.ret (.tup [.vec (.int .u8) (jcq k r L x y hd mo ti l),.int .i64 (errN (jaB k r L x y mo ti l))]))
def sp_m2full:=spQ (u9 q_m2full)
theorem jiR:W9 (hA sp_m2full) q_m2full:=w9 (aA rfl)
theorem joz:Al 52 sp_m2full:=ofA (u9 q_m2full) fun⟨k,r,L,x,y,hd,mo,ti,l⟩ hG=>tfi (.f jra jgV jrb .nil) 0 jck (by
 dsimp only[u9,q_m2full]at hG ⊢
 have zc:=Hk.mk (qaa @jkF (qaa @bF1 (qaa @bF2 (qaa @jbH (qaa @ja4 @jay)))))
 repeat' first|exact hG.1.1|exact hG.1.2|refine tU ?_|refine qab [] [] rfl ?_|refine qaa ?_ ?_|(refine tI ?_;intro hyp)|intro hyp0|exact tZ|omega)
abbrev jxR:List AK:=[.any,.agg [.any,.any,.sl .cell,.any,.any,.any,.any,.any,.sl .str],.agg [.any,.any,.sl .cell,.any,.any,.any,.any,.any,.sl .str]]
abbrev q_m2enc (k r:Int) (L:List CD) (x y:Int) (hd:Bool) (mo:Int) (ti:ByteArray) (l:List ByteArray) (k' r':Int) (L':List CD) (x' y':Int) (hd':Bool) (mo':Int) (ti':ByteArray) (l':List ByteArray):QA:=([.agg [],.agg [.int .i64 k,.int .i64 r,.vec .cell L,.int .i64 x,.int .i64 y,.bool hd,.int .u8 mo,.str ti,.vec .str l],.agg [.int .i64 k',.int .i64 r',.vec .cell L',.int .i64 x',.int .i64 y',.bool hd',.int .u8 mo',.str ti',.vec .str l']],((ScrOk L l∧SLen ti)∧0≤mo)∧((ScrOk L' l'∧SLen ti')∧0≤mo'),.ret (.tup [.vec (.int .u8) (jd5 k r L x y hd mo ti l k' r' L' x' y' hd' mo' ti' l'),.int .i64 (errN (jaB k r L x y mo ti l&&jaB k' r' L' x' y' mo' ti' l'))]))
def sp_m2enc:=spQ (u18 q_m2enc)
theorem jpR:W18 (hA sp_m2enc) q_m2enc:=w18 (aA rfl)
theorem jxS:Al 51 sp_m2enc:=ofA (u18 q_m2enc) fun⟨k,r,L,x,y,hd,mo,ti,l,k',r',L',x',y',hd',mo',ti',l'⟩ hG=>tfi (.f jz1 jhJ jz2 .nil) 0 jcX (by
 dsimp only[u18,q_m2enc]at hG ⊢
 have zc:=Hk.mk (qaa @jsx (qaa @bF1 (qaa @bF2 (qaa @jbH (qaa @ja4 @jay)))))
 repeat' first|exact hG.1.1|exact hG.1.2|exact hG.2.1|exact hG.2.2|refine tU ?_|refine qab [] [] rfl ?_|refine qaa ?_ ?_|(refine tI ?_;intro hyp)|intro hyp0|exact tZ|omega)
abbrev jxT:List AK:=[.any,.agg [.any,.any,.sl .cell,.any,.any,.any,.any,.any,.sl .str],.sl (.int .u8)]
abbrev q_m2app (k r:Int) (L:List CD) (x y:Int) (hd:Bool) (mo:Int) (ti:ByteArray) (l:List ByteArray) (d:List Int):QA:=([.agg [],.agg [.int .i64 k,.int .i64 r,.vec .cell L,.int .i64 x,.int .i64 y,.bool hd,.int .u8 mo,.str ti,.vec .str l],.vec (.int .u8) d],(ScrOk L l∧SLen ti)∧(d.length≤1000000∧Bts d),.ret (.tup [.agg [.int .i64 (ap2G d ⟨k,r,L,x,y,hd,mo,ti,l,[],0⟩).2.k,.int .i64 (ap2G d ⟨k,r,L,x,y,hd,mo,ti,l,[],0⟩).2.r,.vec .cell (ap2G d ⟨k,r,L,x,y,hd,mo,ti,l,[],0⟩).2.L,.int .i64 (ap2G d ⟨k,r,L,x,y,hd,mo,ti,l,[],0⟩).2.x,.int .i64 (ap2G d ⟨k,r,L,x,y,hd,mo,ti,l,[],0⟩).2.y,.bool (ap2G d ⟨k,r,L,x,y,hd,mo,ti,l,[],0⟩).2.hd,.int .u8 (ap2G d ⟨k,r,L,x,y,hd,mo,ti,l,[],0⟩).2.mo,.str (ap2G d ⟨k,r,L,x,y,hd,mo,ti,l,[],0⟩).2.ti,.vec .str (ap2G d ⟨k,r,L,x,y,hd,mo,ti,l,[],0⟩).2.l],.int .i64 (ap2G d ⟨k,r,L,x,y,hd,mo,ti,l,[],0⟩).1]))
def sp_m2app:=spQ (u10 q_m2app)
theorem jpS:W10 (hA sp_m2app) q_m2app:=w10 (aA rfl)
theorem jxU:Al 53 sp_m2app:=ofA (u10 q_m2app) fun⟨k,r,L,x,y,hd,mo,ti,l,d⟩ hG=>tfi (.cons (jfm jiO) (Alias.soundA (ks:=jBg) jBh) .nil) 0 jdw (by
 dsimp only[u10,q_m2app]at hG ⊢
 have zc:=Hk.mk (qaa @jvI (qaa @bF1 (qaa @bF2 (qaa @jbH (qaa @ja4 @jay)))))
 have hwf:=hG.1.1.wf
 repeat' first|exact hG.1.1|exact hG.1.2|exact hG.2.1|exact hG.2.2|exact hwf _ ‹_›|refine tU ?_|refine qab [] [] rfl ?_|refine qaa ?_ ?_|(refine tI ?_;intro hyp)|intro hyp0|exact tZ|omega)
abbrev joA:List AK:=[.any,.agg [.any,.any,.sl .cell,.any,.any,.any,.any,.any,.sl .str]]
abbrev q_m3full (k r:Int) (L:List CD) (x y:Int) (hd:Bool) (mo:Int) (ti:ByteArray) (l:List ByteArray):QA:=([.agg [],.agg [.int .i64 k,.int .i64 r,.vec .cell L,.int .i64 x,.int .i64 y,.bool hd,.int .u8 mo,.str ti,.vec .str l]],(ScrOk L l∧SLen ti)∧0≤mo,.ret (.tup [.vec (.int .u8) (jdB k r L x y hd mo ti l),.int .i64 (errN (jal k r L x y mo ti l))]))
def sp_m3full:=spQ (u9 q_m3full)
theorem jiS:W9 (hA sp_m3full) q_m3full:=w9 (aA rfl)
theorem joB:Al 56 sp_m3full:=ofA (u9 q_m3full) fun⟨k,r,L,x,y,hd,mo,ti,l⟩ hG=>tfi (.f jrg jfA jrh .nil) 0 jcB (by
 dsimp only[u9,q_m3full]at hG ⊢
 have zc:=Hk.mk (qaa @jkI (qaa @bF1 (qaa @bF2 (qaa @jbH (qaa @ja4 @jay)))))
 repeat' first|exact hG.1.1|exact hG.1.2|refine tU ?_|refine qab [] [] rfl ?_|refine qaa ?_ ?_|(refine tI ?_;intro hyp)|intro hyp0|exact tZ|omega)
abbrev jxV:List AK:=[.any,.agg [.any,.any,.sl .cell,.any,.any,.any,.any,.any,.sl .str],.agg [.any,.any,.sl .cell,.any,.any,.any,.any,.any,.sl .str]]
abbrev q_m3enc (k r:Int) (L:List CD) (x y:Int) (hd:Bool) (mo:Int) (ti:ByteArray) (l:List ByteArray) (k' r':Int) (L':List CD) (x' y':Int) (hd':Bool) (mo':Int) (ti':ByteArray) (l':List ByteArray):QA:=([.agg [],.agg [.int .i64 k,.int .i64 r,.vec .cell L,.int .i64 x,.int .i64 y,.bool hd,.int .u8 mo,.str ti,.vec .str l],.agg [.int .i64 k',.int .i64 r',.vec .cell L',.int .i64 x',.int .i64 y',.bool hd',.int .u8 mo',.str ti',.vec .str l']],((ScrOk L l∧SLen ti)∧0≤mo)∧((ScrOk L' l'∧SLen ti')∧0≤mo'),.ret (.tup [.vec (.int .u8) (encI k r L x y hd mo ti l k' r' L' x' y' hd' mo' ti' l'),.int .i64 (errN (jal k r L x y mo ti l&&jal k' r' L' x' y' mo' ti' l'))]))
def sp_m3enc:=spQ (u18 q_m3enc)
theorem jpT:W18 (hA sp_m3enc) q_m3enc:=w18 (aA rfl)
theorem jxW:Al 55 sp_m3enc:=ofA (u18 q_m3enc) fun⟨k,r,L,x,y,hd,mo,ti,l,k',r',L',x',y',hd',mo',ti',l'⟩ hG=>tfi (.f jAk jgj jAl .nil) 0 jdv (by
 dsimp only[u18,q_m3enc]at hG ⊢
 have zc:=Hk.mk (qaa @jsJ (qaa @bF1 (qaa @bF2 (qaa @jbH (qaa @ja4 @jay)))))
 repeat' first|exact hG.1.1|exact hG.1.2|exact hG.2.1|exact hG.2.2|refine tU ?_|refine qab [] [] rfl ?_|refine qaa ?_ ?_|(refine tI ?_;intro hyp)|intro hyp0|exact tZ|omega)
abbrev jxX:List AK:=[.any,.agg [.any,.any,.sl .cell,.any,.any,.any,.any,.any,.sl .str],.sl (.int .u8)]
abbrev q_m3app (k r:Int) (L:List CD) (x y:Int) (hd:Bool) (mo:Int) (ti:ByteArray) (l:List ByteArray) (d:List Int):QA:=([.agg [],.agg [.int .i64 k,.int .i64 r,.vec .cell L,.int .i64 x,.int .i64 y,.bool hd,.int .u8 mo,.str ti,.vec .str l],.vec (.int .u8) d],(ScrOk L l∧SLen ti)∧(d.length≤1000000∧Bts d),.ret (.tup [.agg [.int .i64 (apG d ⟨k,r,L,x,y,hd,mo,ti,l,[],0⟩).2.k,.int .i64 (apG d ⟨k,r,L,x,y,hd,mo,ti,l,[],0⟩).2.r,.vec .cell (apG d ⟨k,r,L,x,y,hd,mo,ti,l,[],0⟩).2.L,.int .i64 (apG d ⟨k,r,L,x,y,hd,mo,ti,l,[],0⟩).2.x,.int .i64 (apG d ⟨k,r,L,x,y,hd,mo,ti,l,[],0⟩).2.y,.bool (apG d ⟨k,r,L,x,y,hd,mo,ti,l,[],0⟩).2.hd,.int .u8 (apG d ⟨k,r,L,x,y,hd,mo,ti,l,[],0⟩).2.mo,.str (apG d ⟨k,r,L,x,y,hd,mo,ti,l,[],0⟩).2.ti,.vec .str (apG d ⟨k,r,L,x,y,hd,mo,ti,l,[],0⟩).2.more],.int .i64 (apG d ⟨k,r,L,x,y,hd,mo,ti,l,[],0⟩).1]))
def sp_m3app:=spQ (u10 q_m3app)
theorem jpU:W10 (hA sp_m3app) q_m3app:=w10 (aA rfl)
theorem jxY:Al 57 sp_m3app:=ofA (u10 q_m3app) fun⟨k,r,L,x,y,hd,mo,ti,l,d⟩ hG=>tfi (.cons (jfm jhK) (Alias.soundA (ks:=jxJ) jxK) .nil) 0 jdX (by
 dsimp only[u10,q_m3app]at hG ⊢
 have zc:=Hk.mk (qaa @jpN (qaa @bF1 (qaa @bF2 (qaa @jbH (qaa @ja4 @jay)))))
 have hwf:=hG.1.1.wf
 repeat' first|exact hG.1.1|exact hG.1.2|exact hG.2.1|exact hG.2.2|exact hwf _ ‹_›|refine tU ?_|refine qab [] [] rfl ?_|refine qaa ?_ ?_|(refine tI ?_;intro hyp)|intro hyp0|exact tZ|omega)
abbrev jxZ:List AK:=[.any,.agg [.any,.any,.sl .cell,.any,.any,.any,.any,.any,.sl .str]]
abbrev q_dfull (v k r:Int) (L:List CD) (x y:Int) (hd:Bool) (mo:Int) (ti:ByteArray) (l:List ByteArray):QA:=([.int .i64 v,.agg [.int .i64 k,.int .i64 r,.vec .cell L,.int .i64 x,.int .i64 y,.bool hd,.int .u8 mo,.str ti,.vec .str l]],(ScrOk L l∧SLen ti)∧0≤mo,.ret (.tup [.vec (.int .u8) (jdc v k r L x y hd mo ti l),.int .i64 (errN (ja8 v k r L x y mo ti l))]))
def sp_dfull:=spQ (u10 q_dfull)
theorem jpV:W10 (hA sp_dfull) q_dfull:=w10 (aA rfl)
theorem jx0:Al 12 sp_dfull:=ofA (u10 q_dfull) fun⟨v,k,r,L,x,y,hd,mo,ti,l⟩ hG=>tfi (.a [.any] jfx jqF (.a jow jcA jox (.a joy jck joz (.a joA jcB joB .nil)))) 0 jkK (by
 dsimp only[u10,q_dfull]at hG ⊢
 have zc:=Hk.mk (qaa @jhB (qaa @jiQ (qaa @jiR (qaa @jiS (qaa @bF1 (qaa @bF2 (qaa @jbH (qaa @ja4 @jay))))))))
 by_cases h1:v=1
 ·subst h1
  have hw:wayV 1=_:=if_pos rfl
  repeat' first|exact hG.1.1|exact hG.1.2|refine tU ?_|refine qab [] [] rfl ?_|refine qaa ?_ ?_|(refine tI ?_;intro hyp)|intro hyp0|exact tZ|omega
  all_goals simp[jdc,ja8]
 by_cases h2:v=2
 ·subst h2
  have hw:wayV 2=_:=(if_neg (by decide)).trans (if_pos rfl)
  repeat' first|exact hG.1.1|exact hG.1.2|refine tU ?_|refine qab [] [] rfl ?_|refine qaa ?_ ?_|(refine tI ?_;intro hyp)|intro hyp0|exact tZ|omega
  all_goals simp[jdc,ja8]
 by_cases h3:v=3
 ·subst h3
  have hw:wayV 3=_:=(if_neg (by decide)).trans ((if_neg (by decide)).trans (if_pos rfl))
  repeat' first|exact hG.1.1|exact hG.1.2|refine tU ?_|refine qab [] [] rfl ?_|refine qaa ?_ ?_|(refine tI ?_;intro hyp)|intro hyp0|exact tZ|omega
  all_goals simp[jdc,ja8]
 have hw:wayV v=_:=(if_neg h1).trans ((if_neg h2).trans (if_neg h3))
 have hw2:decide (1≤v∧v≤3)=false:=decide_eq_false (by omega)
 repeat' first|refine tU ?_|refine qab [] [] rfl ?_|refine qaa ?_ ?_|(refine tI ?_;intro hyp)|intro hyp0|exact tZ|omega
 all_goals simp[jdc,ja8,h1,h2,h3,errN])
abbrev jAn:List AK:=[.any,.agg [.any,.any,.sl .cell,.any,.any,.any,.any,.any,.sl .str],.sl (.int .u8)]
abbrev q_dapp (v k r:Int) (L:List CD) (x y:Int) (hd:Bool) (mo:Int) (ti:ByteArray) (l:List ByteArray) (d:List Int):QA:=([.int .i64 v,.agg [.int .i64 k,.int .i64 r,.vec .cell L,.int .i64 x,.int .i64 y,.bool hd,.int .u8 mo,.str ti,.vec .str l],.vec (.int .u8) d],(ScrOk L l∧SLen ti)∧(d.length≤1000000∧Bts d),.ret (.tup [.agg [.int .i64 (apV v d ⟨k,r,L,x,y,hd,mo,ti,l,[],0⟩).2.k,.int .i64 (apV v d ⟨k,r,L,x,y,hd,mo,ti,l,[],0⟩).2.r,.vec .cell (apV v d ⟨k,r,L,x,y,hd,mo,ti,l,[],0⟩).2.L,.int .i64 (apV v d ⟨k,r,L,x,y,hd,mo,ti,l,[],0⟩).2.x,.int .i64 (apV v d ⟨k,r,L,x,y,hd,mo,ti,l,[],0⟩).2.y,.bool (apV v d ⟨k,r,L,x,y,hd,mo,ti,l,[],0⟩).2.hd,.int .u8 (apV v d ⟨k,r,L,x,y,hd,mo,ti,l,[],0⟩).2.mo,.str (apV v d ⟨k,r,L,x,y,hd,mo,ti,l,[],0⟩).2.ti,.vec .str (apV v d ⟨k,r,L,x,y,hd,mo,ti,l,[],0⟩).2.more],.int .i64 (apV v d ⟨k,r,L,x,y,hd,mo,ti,l,[],0⟩).1]))
def sp_dapp:=spQ (u11 q_dapp)
theorem jsL:W11 (hA sp_dapp) q_dapp:=w11 (aA rfl)
theorem jAo:Al 17 sp_dapp:=ofA (u11 q_dapp) fun⟨v,k,r,L,x,y,hd,mo,ti,l,d⟩ hG=>tfi (.a [.any] jfx jqF (.a jxP jdW jxQ (.a jxT jdw jxU (.a jxX jdX jxY .nil)))) 0 jiP (by
 dsimp only[u11,q_dapp]at hG ⊢
 have zc:=Hk.mk (qaa @jhB (qaa @jpQ (qaa @jpS (qaa @jpU (qaa @bF1 (qaa @bF2 (qaa @jbH (qaa @ja4 @jay))))))))
 by_cases h1:v=1
 ·subst h1
  have hw:wayV 1=_:=if_pos rfl
  repeat' first|exact hG.1.1|exact hG.1.2|exact hG.2.1|exact hG.2.2|refine tU ?_|refine qab [] [] rfl ?_|refine qaa ?_ ?_|(refine tI ?_;intro hyp)|intro hyp0|exact tZ|omega
  all_goals simp[apV,RS.end_]
 by_cases h2:v=2
 ·subst h2
  have hw:wayV 2=_:=(if_neg (by decide)).trans (if_pos rfl)
  repeat' first|exact hG.1.1|exact hG.1.2|exact hG.2.1|exact hG.2.2|refine tU ?_|refine qab [] [] rfl ?_|refine qaa ?_ ?_|(refine tI ?_;intro hyp)|intro hyp0|exact tZ|omega
  all_goals simp[apV,RS.end_]
 by_cases h3:v=3
 ·subst h3
  have hw:wayV 3=_:=(if_neg (by decide)).trans ((if_neg (by decide)).trans (if_pos rfl))
  repeat' first|exact hG.1.1|exact hG.1.2|exact hG.2.1|exact hG.2.2|refine tU ?_|refine qab [] [] rfl ?_|refine qaa ?_ ?_|(refine tI ?_;intro hyp)|intro hyp0|exact tZ|omega
  all_goals simp[apV,RS.end_]
 have hw:wayV v=_:=(if_neg h1).trans ((if_neg h2).trans (if_neg h3))
 have hw2:decide (1≤v∧v≤3)=false:=decide_eq_false (by omega)
 repeat' first|refine tU ?_|refine qab [] [] rfl ?_|refine qaa ?_ ?_|(refine tI ?_;intro hyp)|intro hyp0|exact tZ|omega
 all_goals simp[apV,h1,h2,h3,jc6])
abbrev jrj:List AK:=[.any,.agg [.any,.any,.sl .cell,.any,.any,.any,.any,.any,.sl .str],.agg [.any,.any,.sl .cell,.any,.any,.any,.any,.any,.sl .str]]
abbrev q_ddiff (v k r:Int) (L:List CD) (x y:Int) (hd:Bool) (mo:Int) (ti:ByteArray) (l:List ByteArray) (k' r':Int) (L':List CD) (x' y':Int) (hd':Bool) (mo':Int) (ti':ByteArray) (l':List ByteArray):QA:=([.int .i64 v,.agg [.int .i64 k,.int .i64 r,.vec .cell L,.int .i64 x,.int .i64 y,.bool hd,.int .u8 mo,.str ti,.vec .str l],.agg [.int .i64 k',.int .i64 r',.vec .cell L',.int .i64 x',.int .i64 y',.bool hd',.int .u8 mo',.str ti',.vec .str l']],((ScrOk L l∧SLen ti)∧0≤mo)∧((ScrOk L' l'∧SLen ti')∧0≤mo'),.ret (.tup [.vec (.int .u8) (jbr (encV v k r L x y hd mo ti l k' r' L' x' y' hd' mo' ti' l') (jdc v k' r' L' x' y' hd' mo' ti' l')),.int .i64 (errN (ja8 v k r L x y mo ti l&&ja8 v k' r' L' x' y' mo' ti' l'))]))
def sp_ddiff:=spQ (u19 q_ddiff)
theorem jkL:W19 (hA sp_ddiff) q_ddiff:=w19 (aA rfl)
theorem jrk:Al 10 sp_ddiff:=ofA (u19 q_ddiff) fun⟨v,k,r,L,x,y,hd,mo,ti,l,k',r',L',x',y',hd',mo',ti',l'⟩ hG=>tfi (.a [.any] jfx jqF (.a jxN jdu jxO (.a jxR jcX jxS (.a jxV jdv jxW (.a jow jcA jox (.a joy jck joz (.a joA jcB joB .nil))))))) 0 jgY (by
 dsimp only[u19,q_ddiff]at hG ⊢
 have zc:=Hk.mk (qaa @jhB (qaa @jpP (qaa @jpR (qaa @jpT (qaa @jiQ (qaa @jiR (qaa @jiS (qaa @bF1 (qaa @bF2 (qaa @jbH (qaa @ja4 @jay)))))))))))
 by_cases h1:v=1
 ·subst h1
  have hw:wayV 1=_:=if_pos rfl
  have hE:encV 1 k r L x y hd mo ti l k' r' L' x' y' hd' mo' ti' l'=jd3 k r L x y hd mo ti l k' r' L' x' y' hd' mo' ti' l':=by simp[encV]
  have hF:jdc 1 k' r' L' x' y' hd' mo' ti' l'=jco k' r' L' x' y' hd' mo' ti' l':=by simp[jdc]
  have hT1:ja8 1 k r L x y mo ti l=jaC k r L x y mo ti l:=by simp[ja8]
  have hT2:ja8 1 k' r' L' x' y' mo' ti' l'=jaC k' r' L' x' y' mo' ti' l':=by simp[ja8]
  have hlE:=jf3 (v:=1) (k:=k) (r:=r) (L:=L) (x:=x) (y:=y) (hd:=hd) (mo:=mo) (ti:=ti) (l:=l) (k':=k') (r':=r') (L':=L') (x':=x') (y':=y') (hd':=hd') (mo':=mo') (ti':=ti') (l':=l') hG.1.1.1 hG.1.2 hG.2.1.1 hG.2.2
  have hlF:=je2 (v:=1) (k:=k') (r:=r') (L:=L') (x:=x') (y:=y') (hd:=hd') (mo:=mo') (ti:=ti') (l:=l') hG.2.1.1.wf hG.2.2
  rw[hE]at hlE
  rw[hF]at hlF
  rw[hE,hF,hT1,hT2]
  obtain⟨B,hB⟩:∃B,(jaC k r L x y mo ti l&&jaC k' r' L' x' y' mo' ti' l')=B:=⟨_,rfl⟩
  obtain⟨d,hd1⟩:∃B,jd3 k r L x y hd mo ti l k' r' L' x' y' hd' mo' ti' l'=B:=⟨_,rfl⟩
  obtain⟨f,hf1⟩:∃B,jco k' r' L' x' y' hd' mo' ti' l'=B:=⟨_,rfl⟩
  rw[hd1]at hlE
  rw[hf1]at hlF
  rw[hB,hd1,hf1]
  cases B
  ·have hd2:d=[]:=by
    rw[←hd1]
    exact no1 hB
   subst hd2
   have hw3:=qaa hB (qaa hd1 hf1)
   have hw4:errN false=1:=rfl
   repeat' first|exact hG.1.1.1|exact hG.1.1.2|exact hG.1.2|exact hG.2.1.1|exact hG.2.1.2|exact hG.2.2|refine tU ?_|refine qab [] [] rfl ?_|refine qaa ?_ ?_|(refine tI ?_;intro hyp)|intro hyp0|exact tZ|omega
   all_goals simp[jbr]
  ·have hw3:=qaa hB (qaa hd1 hf1)
   have hw4:errN true=0:=rfl
   repeat' first|exact hG.1.1.1|exact hG.1.1.2|exact hG.1.2|exact hG.2.1.1|exact hG.2.1.2|exact hG.2.2|refine tU ?_|refine qab [] [] rfl ?_|refine qaa ?_ ?_|(refine tI ?_;intro hyp)|intro hyp0|exact tZ|omega
   all_goals (simp[jbr];try omega)
 by_cases h2:v=2
 ·subst h2
  have hw:wayV 2=_:=(if_neg (by decide)).trans (if_pos rfl)
  have hE:encV 2 k r L x y hd mo ti l k' r' L' x' y' hd' mo' ti' l'=jd5 k r L x y hd mo ti l k' r' L' x' y' hd' mo' ti' l':=by simp[encV]
  have hF:jdc 2 k' r' L' x' y' hd' mo' ti' l'=jcq k' r' L' x' y' hd' mo' ti' l':=by simp[jdc]
  have hT1:ja8 2 k r L x y mo ti l=jaB k r L x y mo ti l:=by simp[ja8]
  have hT2:ja8 2 k' r' L' x' y' mo' ti' l'=jaB k' r' L' x' y' mo' ti' l':=by simp[ja8]
  have hlE:=jf3 (v:=2) (k:=k) (r:=r) (L:=L) (x:=x) (y:=y) (hd:=hd) (mo:=mo) (ti:=ti) (l:=l) (k':=k') (r':=r') (L':=L') (x':=x') (y':=y') (hd':=hd') (mo':=mo') (ti':=ti') (l':=l') hG.1.1.1 hG.1.2 hG.2.1.1 hG.2.2
  have hlF:=je2 (v:=2) (k:=k') (r:=r') (L:=L') (x:=x') (y:=y') (hd:=hd') (mo:=mo') (ti:=ti') (l:=l') hG.2.1.1.wf hG.2.2
  rw[hE]at hlE
  rw[hF]at hlF
  rw[hE,hF,hT1,hT2]
  obtain⟨B,hB⟩:∃B,(jaB k r L x y mo ti l&&jaB k' r' L' x' y' mo' ti' l')=B:=⟨_,rfl⟩
  obtain⟨d,hd1⟩:∃B,jd5 k r L x y hd mo ti l k' r' L' x' y' hd' mo' ti' l'=B:=⟨_,rfl⟩
  obtain⟨f,hf1⟩:∃B,jcq k' r' L' x' y' hd' mo' ti' l'=B:=⟨_,rfl⟩
  rw[hd1]at hlE
  rw[hf1]at hlF
  rw[hB,hd1,hf1]
  cases B
  ·have hd2:d=[]:=by
    rw[←hd1]
    exact no2 hB
   subst hd2
   have hw3:=qaa hB (qaa hd1 hf1)
   have hw4:errN false=1:=rfl
   repeat' first|exact hG.1.1.1|exact hG.1.1.2|exact hG.1.2|exact hG.2.1.1|exact hG.2.1.2|exact hG.2.2|refine tU ?_|refine qab [] [] rfl ?_|refine qaa ?_ ?_|(refine tI ?_;intro hyp)|intro hyp0|exact tZ|omega
   all_goals simp[jbr]
  ·have hw3:=qaa hB (qaa hd1 hf1)
   have hw4:errN true=0:=rfl
   repeat' first|exact hG.1.1.1|exact hG.1.1.2|exact hG.1.2|exact hG.2.1.1|exact hG.2.1.2|exact hG.2.2|refine tU ?_|refine qab [] [] rfl ?_|refine qaa ?_ ?_|(refine tI ?_;intro hyp)|intro hyp0|exact tZ|omega
   all_goals (simp[jbr];try omega)
 by_cases h3:v=3
 ·subst h3
  have hw:wayV 3=_:=(if_neg (by decide)).trans ((if_neg (by decide)).trans (if_pos rfl))
  have hE:encV 3 k r L x y hd mo ti l k' r' L' x' y' hd' mo' ti' l'=encI k r L x y hd mo ti l k' r' L' x' y' hd' mo' ti' l':=by simp[encV]
  have hF:jdc 3 k' r' L' x' y' hd' mo' ti' l'=jdB k' r' L' x' y' hd' mo' ti' l':=by simp[jdc]
  have hT1:ja8 3 k r L x y mo ti l=jal k r L x y mo ti l:=by simp[ja8]
  have hT2:ja8 3 k' r' L' x' y' mo' ti' l'=jal k' r' L' x' y' mo' ti' l':=by simp[ja8]
  have hlE:=jf3 (v:=3) (k:=k) (r:=r) (L:=L) (x:=x) (y:=y) (hd:=hd) (mo:=mo) (ti:=ti) (l:=l) (k':=k') (r':=r') (L':=L') (x':=x') (y':=y') (hd':=hd') (mo':=mo') (ti':=ti') (l':=l') hG.1.1.1 hG.1.2 hG.2.1.1 hG.2.2
  have hlF:=je2 (v:=3) (k:=k') (r:=r') (L:=L') (x:=x') (y:=y') (hd:=hd') (mo:=mo') (ti:=ti') (l:=l') hG.2.1.1.wf hG.2.2
  rw[hE]at hlE
  rw[hF]at hlF
  rw[hE,hF,hT1,hT2]
  obtain⟨B,hB⟩:∃B,(jal k r L x y mo ti l&&jal k' r' L' x' y' mo' ti' l')=B:=⟨_,rfl⟩
  obtain⟨d,hd1⟩:∃B,encI k r L x y hd mo ti l k' r' L' x' y' hd' mo' ti' l'=B:=⟨_,rfl⟩
  obtain⟨f,hf1⟩:∃B,jdB k' r' L' x' y' hd' mo' ti' l'=B:=⟨_,rfl⟩
  rw[hd1]at hlE
  rw[hf1]at hlF
  rw[hB,hd1,hf1]
  cases B
  ·have hd2:d=[]:=by
    rw[←hd1]
    exact no3 hB
   subst hd2
   have hw3:=qaa hB (qaa hd1 hf1)
   have hw4:errN false=1:=rfl
   repeat' first|exact hG.1.1.1|exact hG.1.1.2|exact hG.1.2|exact hG.2.1.1|exact hG.2.1.2|exact hG.2.2|refine tU ?_|refine qab [] [] rfl ?_|refine qaa ?_ ?_|(refine tI ?_;intro hyp)|intro hyp0|exact tZ|omega
   all_goals simp[jbr]
  ·have hw3:=qaa hB (qaa hd1 hf1)
   have hw4:errN true=0:=rfl
   repeat' first|exact hG.1.1.1|exact hG.1.1.2|exact hG.1.2|exact hG.2.1.1|exact hG.2.1.2|exact hG.2.2|refine tU ?_|refine qab [] [] rfl ?_|refine qaa ?_ ?_|(refine tI ?_;intro hyp)|intro hyp0|exact tZ|omega
   all_goals (simp[jbr];try omega)
 have hw:wayV v=_:=(if_neg h1).trans ((if_neg h2).trans (if_neg h3))
 have hw2:decide (1≤v∧v≤3)=false:=decide_eq_false (by omega)
 have hE:encV v k r L x y hd mo ti l k' r' L' x' y' hd' mo' ti' l'=[]:=by simp[encV,h1,h2,h3]
 have hF:jdc v k' r' L' x' y' hd' mo' ti' l'=[]:=by simp[jdc,h1,h2,h3]
 have hT:ja8 v k r L x y mo ti l=false:=by simp[ja8,h1,h2,h3]
 rw[hE,hF,hT]
 repeat' first|refine tU ?_|refine qab [] [] rfl ?_|refine qaa ?_ ?_|(refine tI ?_;intro hyp)|intro hyp0|exact tZ|omega
 all_goals simp[jbr,errN])
end
end
end Go.Proofs.YtienkkicehmchaaGreatDoor
