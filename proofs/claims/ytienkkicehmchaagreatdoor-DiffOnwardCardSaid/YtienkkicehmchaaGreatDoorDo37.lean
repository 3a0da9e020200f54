/- Texts of this claim, merged by a program of this claim: FDiffM. -/
import Derived.Test.YtienkkicehmchaaGreatDoorDo19
import Derived.Test.YtienkkicehmchaaGreatDoorDo29
import Derived.Test.YtienkkicehmchaaGreatDoorDo31
import Derived.Test.YtienkkicehmchaaGreatDoorDo35
import Derived.Test.YtienkkicehmchaaGreatDoorDo36
import Derived.Test.YtienkkicehmchaaGreatDoorDo6
namespace Go.Proofs.YtienkkicehmchaaGreatDoor
open And renaming intro→qaa
open Cos renaming intro→qab
noncomputable section
set_option linter.unusedVariables false
set_option linter.unusedSimpArgs false
section
open Go.RowKit
set_option maxRecDepth 100000
set_option maxHeartbeats 4000000
theorem no1 {k r:Int}{L:List CD}{x y:Int}{hd:Bool}{mo:Int}{ti:ByteArray}{l:List ByteArray}{k' r':Int}{L':List CD}{x' y':Int}{hd':Bool}{mo':Int}{ti':ByteArray}{l':List ByteArray}(h:(jaC k r L x y mo ti l&&jaC k' r' L' x' y' mo' ti' l')=false):jd2 k r L x y hd mo ti l k' r' L' x' y' hd' mo' ti' l'=[]:=by
 unfold jd2
 rw[if_neg (by rw[h];decide)]
theorem no2 {k r:Int}{L:List CD}{x y:Int}{hd:Bool}{mo:Int}{ti:ByteArray}{l:List ByteArray}{k' r':Int}{L':List CD}{x' y':Int}{hd':Bool}{mo':Int}{ti':ByteArray}{l':List ByteArray}(h:(jaB k r L x y mo ti l&&jaB k' r' L' x' y' mo' ti' l')=false):jd4 k r L x y hd mo ti l k' r' L' x' y' hd' mo' ti' l'=[]:=by
 unfold jd4
 rw[if_neg (by rw[h];decide)]
theorem no3 {k r:Int}{L:List CD}{x y:Int}{hd:Bool}{mo:Int}{ti:ByteArray}{l:List ByteArray}{k' r':Int}{L':List CD}{x' y':Int}{hd':Bool}{mo':Int}{ti':ByteArray}{l':List ByteArray}(h:(jal k r L x y mo ti l&&jal k' r' L' x' y' mo' ti' l')=false):encI k r L x y hd mo ti l k' r' L' x' y' hd' mo' ti' l'=[]:=by
 unfold encI
 rw[if_neg (by rw[h];decide)]
abbrev jvD:List AK:=[.any,.agg [.any,.any,.sl .cell,.any,.any,.any,.any,.any,.sl .str]]
abbrev q_m1full (k r:Int) (L:List CD) (x y:Int) (hd:Bool) (mo:Int) (ti:ByteArray) (l:List ByteArray):QA:=([.agg [],.agg [.int .i64 k,.int .i64 r,.vec .cell L,.int .i64 x,.int .i64 y,.bool hd,.int .u8 mo,.str ti,.vec .str l]],(ScrOk L l∧SLen ti)∧0≤mo,.ret (.tup [.vec (.int .u8) (jcn k r L x y hd mo ti l),.int .i64 (errN (jaC k r L x y mo ti l))]))
def sp_m1full:=spQ (u9 q_m1full)
theorem jov:W9 (hA sp_m1full) q_m1full:=w9 (aA rfl)
theorem jvE:Al 48 sp_m1full:=ofA (u9 q_m1full) fun⟨k,r,L,x,y,hd,mo,ti,l⟩ hG=>tfi (.f jqE jgM jqF .nil) 0 jeD (by
 dsimp only[u9,q_m1full]at hG ⊢
 have zc:=Hk.mk (qaa @jkm (qaa @bF1 (qaa @bF2 (qaa @jbL (qaa @ja7 @jaA)))))
 repeat' first|exact hG.1.1|exact hG.1.2|refine tU ?_|refine qab [] [] rfl ?_|refine qaa ?_ ?_|(refine tI ?_;intro hyp)|intro hyp0|exact tZ|omega)
abbrev jxK:List AK:=[.any,.agg [.any,.any,.sl .cell,.any,.any,.any,.any,.any,.sl .str],.agg [.any,.any,.sl .cell,.any,.any,.any,.any,.any,.sl .str]]
abbrev q_m1enc (k r:Int) (L:List CD) (x y:Int) (hd:Bool) (mo:Int) (ti:ByteArray) (l:List ByteArray) (k' r':Int) (L':List CD) (x' y':Int) (hd':Bool) (mo':Int) (ti':ByteArray) (l':List ByteArray):QA:=([.agg [],.agg [.int .i64 k,.int .i64 r,.vec .cell L,.int .i64 x,.int .i64 y,.bool hd,.int .u8 mo,.str ti,.vec .str l],.agg [.int .i64 k',.int .i64 r',.vec .cell L',.int .i64 x',.int .i64 y',.bool hd',.int .u8 mo',.str ti',.vec .str l']],((ScrOk L l∧SLen ti)∧0≤mo)∧((ScrOk L' l'∧SLen ti')∧0≤mo'),.ret (.tup [.vec (.int .u8) (jd2 k r L x y hd mo ti l k' r' L' x' y' hd' mo' ti' l'),.int .i64 (errN (jaC k r L x y mo ti l&&jaC k' r' L' x' y' mo' ti' l'))]))
def sp_m1enc:=spQ (u18 q_m1enc)
theorem jpK:W18 (hA sp_m1enc) q_m1enc:=w18 (aA rfl)
theorem jxL:Al 47 sp_m1enc:=ofA (u18 q_m1enc) fun⟨k,r,L,x,y,hd,mo,ti,l,k',r',L',x',y',hd',mo',ti',l'⟩ hG=>tfi (.f jzG jhF jzH .nil) 0 jdr (by
 dsimp only[u18,q_m1enc]at hG ⊢
 have zc:=Hk.mk (qaa @jsh (qaa @bF1 (qaa @bF2 (qaa @jbL (qaa @ja7 @jaA)))))
 repeat' first|exact hG.1.1|exact hG.1.2|exact hG.2.1|exact hG.2.2|refine tU ?_|refine qab [] [] rfl ?_|refine qaa ?_ ?_|(refine tI ?_;intro hyp)|intro hyp0|exact tZ|omega)
abbrev jxM:List AK:=[.any,.agg [.any,.any,.sl .cell,.any,.any,.any,.any,.any,.sl .str],.sl (.int .u8)]
abbrev q_m1app (k r:Int) (L:List CD) (x y:Int) (hd:Bool) (mo:Int) (ti:ByteArray) (l:List ByteArray) (d:List Int):QA:=([.agg [],.agg [.int .i64 k,.int .i64 r,.vec .cell L,.int .i64 x,.int .i64 y,.bool hd,.int .u8 mo,.str ti,.vec .str l],.vec (.int .u8) d],(ScrOk L l∧SLen ti)∧(d.length≤1000000∧Bts d),.ret (.tup [.agg [.int .i64 (ap1G d ⟨k,r,L,x,y,hd,mo,ti,l,[],0⟩).2.k,.int .i64 (ap1G d ⟨k,r,L,x,y,hd,mo,ti,l,[],0⟩).2.r,.vec .cell (ap1G d ⟨k,r,L,x,y,hd,mo,ti,l,[],0⟩).2.L,.int .i64 (ap1G d ⟨k,r,L,x,y,hd,mo,ti,l,[],0⟩).2.x,.int .i64 (ap1G d ⟨k,r,L,x,y,hd,mo,ti,l,[],0⟩).2.y,.bool (ap1G d ⟨k,r,L,x,y,hd,mo,ti,l,[],0⟩).2.hd,.int .u8 (ap1G d ⟨k,r,L,x,y,hd,mo,ti,l,[],0⟩).2.mo,.str (ap1G d ⟨k,r,L,x,y,hd,mo,ti,l,[],0⟩).2.ti,.vec .str (ap1G d ⟨k,r,L,x,y,hd,mo,ti,l,[],0⟩).2.l],.int .i64 (ap1G d ⟨k,r,L,x,y,hd,mo,ti,l,[],0⟩).1]))
def sp_m1app:=spQ (u10 q_m1app)
theorem jpL:W10 (hA sp_m1app) q_m1app:=w10 (aA rfl)
theorem jxN:Al 49 sp_m1app:=ofA (u10 q_m1app) fun⟨k,r,L,x,y,hd,mo,ti,l,d⟩ hG=>tfi (.a jz5 jiM jz6 .nil) 0 jdV (by
 dsimp only[u10,q_m1app]at hG ⊢
 have zc:=Hk.mk (qaa @jsr (qaa @bF1 (qaa @bF2 (qaa @jbL (qaa @ja7 @jaA)))))
 have hwf:=hG.1.1.wf
 repeat' first|exact hG.1.1|exact hG.1.2|exact hG.2.1|exact hG.2.2|exact hwf _ ‹_›|refine tU ?_|refine qab [] [] rfl ?_|refine qaa ?_ ?_|(refine tI ?_;intro hyp)|intro hyp0|exact tZ|omega)
abbrev jvF:List AK:=[.any,.agg [.any,.any,.sl .cell,.any,.any,.any,.any,.any,.sl .str]]
abbrev q_m2full (k r:Int) (L:List CD) (x y:Int) (hd:Bool) (mo:Int) (ti:ByteArray) (l:List ByteArray):QA:=([.agg [],.agg [.int .i64 k,.int .i64 r,.vec .cell L,.int .i64 x,.int .i64 y,.bool hd,.int .u8 mo,.str ti,.vec .str l]],(ScrOk L l∧SLen ti)∧0≤mo,.ret (.tup [.vec (.int .u8) (jcp k r L x y hd mo ti l),.int .i64 (errN (jaB k r L x y mo ti l))]))
def sp_m2full:=spQ (u9 q_m2full)
theorem jow:W9 (hA sp_m2full) q_m2full:=w9 (aA rfl)
theorem jvG:Al 52 sp_m2full:=ofA (u9 q_m2full) fun⟨k,r,L,x,y,hd,mo,ti,l⟩ hG=>tfi (.f jq2 jgU jq3 .nil) 0 jdU (by
 dsimp only[u9,q_m2full]at hG ⊢
 have zc:=Hk.mk (qaa @jkD (qaa @bF1 (qaa @bF2 (qaa @jbL (qaa @ja7 @jaA)))))
 repeat' first|exact hG.1.1|exact hG.1.2|refine tU ?_|refine qab [] [] rfl ?_|refine qaa ?_ ?_|(refine tI ?_;intro hyp)|intro hyp0|exact tZ|omega)
abbrev jxO:List AK:=[.any,.agg [.any,.any,.sl .cell,.any,.any,.any,.any,.any,.sl .str],.agg [.any,.any,.sl .cell,.any,.any,.any,.any,.any,.sl .str]]
abbrev q_m2enc (k r:Int) (L:List CD) (x y:Int) (hd:Bool) (mo:Int) (ti:ByteArray) (l:List ByteArray) (k' r':Int) (L':List CD) (x' y':Int) (hd':Bool) (mo':Int) (ti':ByteArray) (l':List ByteArray):QA:=([.agg [],.agg [.int .i64 k,.int .i64 r,.vec .cell L,.int .i64 x,.int .i64 y,.bool hd,.int .u8 mo,.str ti,.vec .str l],.agg [.int .i64 k',.int .i64 r',.vec .cell L',.int .i64 x',.int .i64 y',.bool hd',.int .u8 mo',.str ti',.vec .str l']],((ScrOk L l∧SLen ti)∧0≤mo)∧((ScrOk L' l'∧SLen ti')∧0≤mo'),.ret (.tup [.vec (.int .u8) (jd4 k r L x y hd mo ti l k' r' L' x' y' hd' mo' ti' l'),.int .i64 (errN (jaB k r L x y mo ti l&&jaB k' r' L' x' y' mo' ti' l'))]))
def sp_m2enc:=spQ (u18 q_m2enc)
theorem jpM:W18 (hA sp_m2enc) q_m2enc:=w18 (aA rfl)
theorem jxP:Al 51 sp_m2enc:=ofA (u18 q_m2enc) fun⟨k,r,L,x,y,hd,mo,ti,l,k',r',L',x',y',hd',mo',ti',l'⟩ hG=>tfi (.f jzX jhI jzY .nil) 0 jcU (by
 dsimp only[u18,q_m2enc]at hG ⊢
 have zc:=Hk.mk (qaa @jso (qaa @bF1 (qaa @bF2 (qaa @jbL (qaa @ja7 @jaA)))))
 repeat' first|exact hG.1.1|exact hG.1.2|exact hG.2.1|exact hG.2.2|refine tU ?_|refine qab [] [] rfl ?_|refine qaa ?_ ?_|(refine tI ?_;intro hyp)|intro hyp0|exact tZ|omega)
abbrev jxQ:List AK:=[.any,.agg [.any,.any,.sl .cell,.any,.any,.any,.any,.any,.sl .str],.sl (.int .u8)]
abbrev q_m2app (k r:Int) (L:List CD) (x y:Int) (hd:Bool) (mo:Int) (ti:ByteArray) (l:List ByteArray) (d:List Int):QA:=([.agg [],.agg [.int .i64 k,.int .i64 r,.vec .cell L,.int .i64 x,.int .i64 y,.bool hd,.int .u8 mo,.str ti,.vec .str l],.vec (.int .u8) d],(ScrOk L l∧SLen ti)∧(d.length≤1000000∧Bts d),.ret (.tup [.agg [.int .i64 (ap2G d ⟨k,r,L,x,y,hd,mo,ti,l,[],0⟩).2.k,.int .i64 (ap2G d ⟨k,r,L,x,y,hd,mo,ti,l,[],0⟩).2.r,.vec .cell (ap2G d ⟨k,r,L,x,y,hd,mo,ti,l,[],0⟩).2.L,.int .i64 (ap2G d ⟨k,r,L,x,y,hd,mo,ti,l,[],0⟩).2.x,.int .i64 (ap2G d ⟨k,r,L,x,y,hd,mo,ti,l,[],0⟩).2.y,.bool (ap2G d ⟨k,r,L,x,y,hd,mo,ti,l,[],0⟩).2.hd,.int .u8 (ap2G d ⟨k,r,L,x,y,hd,mo,ti,l,[],0⟩).2.mo,.str (ap2G d ⟨k,r,L,x,y,hd,mo,ti,l,[],0⟩).2.ti,.vec .str (ap2G d ⟨k,r,L,x,y,hd,mo,ti,l,[],0⟩).2.l],.int .i64 (ap2G d ⟨k,r,L,x,y,hd,mo,ti,l,[],0⟩).1]))
def sp_m2app:=spQ (u10 q_m2app)
theorem jpN:W10 (hA sp_m2app) q_m2app:=w10 (aA rfl)
theorem jxR:Al 53 sp_m2app:=ofA (u10 q_m2app) fun⟨k,r,L,x,y,hd,mo,ti,l,d⟩ hG=>tfi (.cons (jfn jiN) (Alias.soundA (ks:=jBc) jBd) .nil) 0 jdt (by
 dsimp only[u10,q_m2app]at hG ⊢
 have zc:=Hk.mk (qaa @jvz (qaa @bF1 (qaa @bF2 (qaa @jbL (qaa @ja7 @jaA)))))
 have hwf:=hG.1.1.wf
 repeat' first|exact hG.1.1|exact hG.1.2|exact hG.2.1|exact hG.2.2|exact hwf _ ‹_›|refine tU ?_|refine qab [] [] rfl ?_|refine qaa ?_ ?_|(refine tI ?_;intro hyp)|intro hyp0|exact tZ|omega)
abbrev jvH:List AK:=[.any,.agg [.any,.any,.sl .cell,.any,.any,.any,.any,.any,.sl .str]]
abbrev q_m3full (k r:Int) (L:List CD) (x y:Int) (hd:Bool) (mo:Int) (ti:ByteArray) (l:List ByteArray):QA:=([.agg [],.agg [.int .i64 k,.int .i64 r,.vec .cell L,.int .i64 x,.int .i64 y,.bool hd,.int .u8 mo,.str ti,.vec .str l]],(ScrOk L l∧SLen ti)∧0≤mo,.ret (.tup [.vec (.int .u8) (jdy k r L x y hd mo ti l),.int .i64 (errN (jal k r L x y mo ti l))]))
def sp_m3full:=spQ (u9 q_m3full)
theorem jox:W9 (hA sp_m3full) q_m3full:=w9 (aA rfl)
theorem jvI:Al 56 sp_m3full:=ofA (u9 q_m3full) fun⟨k,r,L,x,y,hd,mo,ti,l⟩ hG=>tfi (.f jq8 jfA jq9 .nil) 0 jeE (by
 dsimp only[u9,q_m3full]at hG ⊢
 have zc:=Hk.mk (qaa @jkG (qaa @bF1 (qaa @bF2 (qaa @jbL (qaa @ja7 @jaA)))))
 repeat' first|exact hG.1.1|exact hG.1.2|refine tU ?_|refine qab [] [] rfl ?_|refine qaa ?_ ?_|(refine tI ?_;intro hyp)|intro hyp0|exact tZ|omega)
abbrev jxS:List AK:=[.any,.agg [.any,.any,.sl .cell,.any,.any,.any,.any,.any,.sl .str],.agg [.any,.any,.sl .cell,.any,.any,.any,.any,.any,.sl .str]]
abbrev q_m3enc (k r:Int) (L:List CD) (x y:Int) (hd:Bool) (mo:Int) (ti:ByteArray) (l:List ByteArray) (k' r':Int) (L':List CD) (x' y':Int) (hd':Bool) (mo':Int) (ti':ByteArray) (l':List ByteArray):QA:=([.agg [],.agg [.int .i64 k,.int .i64 r,.vec .cell L,.int .i64 x,.int .i64 y,.bool hd,.int .u8 mo,.str ti,.vec .str l],.agg [.int .i64 k',.int .i64 r',.vec .cell L',.int .i64 x',.int .i64 y',.bool hd',.int .u8 mo',.str ti',.vec .str l']],((ScrOk L l∧SLen ti)∧0≤mo)∧((ScrOk L' l'∧SLen ti')∧0≤mo'),.ret (.tup [.vec (.int .u8) (encI k r L x y hd mo ti l k' r' L' x' y' hd' mo' ti' l'),.int .i64 (errN (jal k r L x y mo ti l&&jal k' r' L' x' y' mo' ti' l'))]))
def sp_m3enc:=spQ (u18 q_m3enc)
theorem jpO:W18 (hA sp_m3enc) q_m3enc:=w18 (aA rfl)
theorem jxT:Al 55 sp_m3enc:=ofA (u18 q_m3enc) fun⟨k,r,L,x,y,hd,mo,ti,l,k',r',L',x',y',hd',mo',ti',l'⟩ hG=>tfi (.f jAg jgi jAh .nil) 0 jds (by
 dsimp only[u18,q_m3enc]at hG ⊢
 have zc:=Hk.mk (qaa @jsA (qaa @bF1 (qaa @bF2 (qaa @jbL (qaa @ja7 @jaA)))))
 repeat' first|exact hG.1.1|exact hG.1.2|exact hG.2.1|exact hG.2.2|refine tU ?_|refine qab [] [] rfl ?_|refine qaa ?_ ?_|(refine tI ?_;intro hyp)|intro hyp0|exact tZ|omega)
abbrev jxU:List AK:=[.any,.agg [.any,.any,.sl .cell,.any,.any,.any,.any,.any,.sl .str],.sl (.int .u8)]
abbrev q_m3app (k r:Int) (L:List CD) (x y:Int) (hd:Bool) (mo:Int) (ti:ByteArray) (l:List ByteArray) (d:List Int):QA:=([.agg [],.agg [.int .i64 k,.int .i64 r,.vec .cell L,.int .i64 x,.int .i64 y,.bool hd,.int .u8 mo,.str ti,.vec .str l],.vec (.int .u8) d],(ScrOk L l∧SLen ti)∧(d.length≤1000000∧Bts d),.ret (.tup [.agg [.int .i64 (apG d ⟨k,r,L,x,y,hd,mo,ti,l,[],0⟩).2.k,.int .i64 (apG d ⟨k,r,L,x,y,hd,mo,ti,l,[],0⟩).2.r,.vec .cell (apG d ⟨k,r,L,x,y,hd,mo,ti,l,[],0⟩).2.L,.int .i64 (apG d ⟨k,r,L,x,y,hd,mo,ti,l,[],0⟩).2.x,.int .i64 (apG d ⟨k,r,L,x,y,hd,mo,ti,l,[],0⟩).2.y,.bool (apG d ⟨k,r,L,x,y,hd,mo,ti,l,[],0⟩).2.hd,.int .u8 (apG d ⟨k,r,L,x,y,hd,mo,ti,l,[],0⟩).2.mo,.str (apG d ⟨k,r,L,x,y,hd,mo,ti,l,[],0⟩).2.ti,.vec .str (apG d ⟨k,r,L,x,y,hd,mo,ti,l,[],0⟩).2.more],.int .i64 (apG d ⟨k,r,L,x,y,hd,mo,ti,l,[],0⟩).1]))
def sp_m3app:=spQ (u10 q_m3app)
theorem jpP:W10 (hA sp_m3app) q_m3app:=w10 (aA rfl)
theorem jxV:Al 57 sp_m3app:=ofA (u10 q_m3app) fun⟨k,r,L,x,y,hd,mo,ti,l,d⟩ hG=>tfi (.cons (jfn jhJ) (Alias.soundA (ks:=jxG) jxH) .nil) 0 jdW (by
 dsimp only[u10,q_m3app]at hG ⊢
 have zc:=Hk.mk (qaa @jpJ (qaa @bF1 (qaa @bF2 (qaa @jbL (qaa @ja7 @jaA)))))
 have hwf:=hG.1.1.wf
 repeat' first|exact hG.1.1|exact hG.1.2|exact hG.2.1|exact hG.2.2|exact hwf _ ‹_›|refine tU ?_|refine qab [] [] rfl ?_|refine qaa ?_ ?_|(refine tI ?_;intro hyp)|intro hyp0|exact tZ|omega)
abbrev jAj:List AK:=[.any,.agg [.any,.any,.sl .cell,.any,.any,.any,.any,.any,.sl .str],.sl (.int .u8)]
abbrev q_dapp (v k r:Int) (L:List CD) (x y:Int) (hd:Bool) (mo:Int) (ti:ByteArray) (l:List ByteArray) (d:List Int):QA:=([.int .i64 v,.agg [.int .i64 k,.int .i64 r,.vec .cell L,.int .i64 x,.int .i64 y,.bool hd,.int .u8 mo,.str ti,.vec .str l],.vec (.int .u8) d],(ScrOk L l∧SLen ti)∧(d.length≤1000000∧Bts d),.ret (.tup [.agg [.int .i64 (apV v d ⟨k,r,L,x,y,hd,mo,ti,l,[],0⟩).2.k,.int .i64 (apV v d ⟨k,r,L,x,y,hd,mo,ti,l,[],0⟩).2.r,.vec .cell (apV v d ⟨k,r,L,x,y,hd,mo,ti,l,[],0⟩).2.L,.int .i64 (apV v d ⟨k,r,L,x,y,hd,mo,ti,l,[],0⟩).2.x,.int .i64 (apV v d ⟨k,r,L,x,y,hd,mo,ti,l,[],0⟩).2.y,.bool (apV v d ⟨k,r,L,x,y,hd,mo,ti,l,[],0⟩).2.hd,.int .u8 (apV v d ⟨k,r,L,x,y,hd,mo,ti,l,[],0⟩).2.mo,.str (apV v d ⟨k,r,L,x,y,hd,mo,ti,l,[],0⟩).2.ti,.vec .str (apV v d ⟨k,r,L,x,y,hd,mo,ti,l,[],0⟩).2.more],.int .i64 (apV v d ⟨k,r,L,x,y,hd,mo,ti,l,[],0⟩).1]))
def sp_dapp:=spQ (u11 q_dapp)
theorem jsB:W11 (hA sp_dapp) q_dapp:=w11 (aA rfl)
theorem jAk:Al 17 sp_dapp:=ofA (u11 q_dapp) fun⟨v,k,r,L,x,y,hd,mo,ti,l,d⟩ hG=>tfi (.a [.any] jhw juD (.a jxM jdV jxN (.a jxQ jdt jxR (.a jxU jdW jxV .nil)))) 0 jiO (by
 dsimp only[u11,q_dapp]at hG ⊢
 have zc:=Hk.mk (qaa @jkh (qaa @jpL (qaa @jpN (qaa @jpP (qaa @bF1 (qaa @bF2 (qaa @jbL (qaa @ja7 @jaA))))))))
 by_cases h1:v=1
 ·subst h1
  have hw:wayV 1=_:=if_pos rfl
  repeat' first|exact hG.1.1|exact hG.1.2|exact hG.2.1|exact hG.2.2|refine tU ?_|refine qab [] [] rfl ?_|refine qaa ?_ ?_|(refine tI ?_;intro hyp)|intro hyp0|exact tZ|omega
  all_goals simp[apV,RS.end_]
 by_cases h2:v=2
 ·subst h2
  have hw:wayV 2=_:=(if_neg (by decide)).trans (if_pos rfl)
  repeat' first|exact hG.1.1|exact hG.1.2|exact hG.2.1|exact hG.2.2|refine tU ?_|refine qab [] [] rfl ?_|refine qaa ?_ ?_|(refine tI ?_;intro hyp)|intro hyp0|exact tZ|omega
  all_goals simp[apV,RS.end_]
 by_cases h3:v=3
 ·subst h3
  have hw:wayV 3=_:=(if_neg (by decide)).trans ((if_neg (by decide)).trans (if_pos rfl))
  repeat' first|exact hG.1.1|exact hG.1.2|exact hG.2.1|exact hG.2.2|refine tU ?_|refine qab [] [] rfl ?_|refine qaa ?_ ?_|(refine tI ?_;intro hyp)|intro hyp0|exact tZ|omega
  all_goals simp[apV,RS.end_]
 have hw:wayV v=_:=(if_neg h1).trans ((if_neg h2).trans (if_neg h3))
 have hw2:decide (1≤v∧v≤3)=false:=decide_eq_false (by omega)
 repeat' first|refine tU ?_|refine qab [] [] rfl ?_|refine qaa ?_ ?_|(refine tI ?_;intro hyp)|intro hyp0|exact tZ|omega
 all_goals simp[apV,h1,h2,h3,jc3])
abbrev jrb:List AK:=[.any,.agg [.any,.any,.sl .cell,.any,.any,.any,.any,.any,.sl .str],.agg [.any,.any,.sl .cell,.any,.any,.any,.any,.any,.sl .str]]
abbrev q_ddiff (v k r:Int) (L:List CD) (x y:Int) (hd:Bool) (mo:Int) (ti:ByteArray) (l:List ByteArray) (k' r':Int) (L':List CD) (x' y':Int) (hd':Bool) (mo':Int) (ti':ByteArray) (l':List ByteArray):QA:=([.int .i64 v,.agg [.int .i64 k,.int .i64 r,.vec .cell L,.int .i64 x,.int .i64 y,.bool hd,.int .u8 mo,.str ti,.vec .str l],.agg [.int .i64 k',.int .i64 r',.vec .cell L',.int .i64 x',.int .i64 y',.bool hd',.int .u8 mo',.str ti',.vec .str l']],((ScrOk L l∧SLen ti)∧0≤mo)∧((ScrOk L' l'∧SLen ti')∧0≤mo'),.ret (.tup [.vec (.int .u8) (jbl (encV v k r L x y hd mo ti l k' r' L' x' y' hd' mo' ti' l') (jeB v k' r' L' x' y' hd' mo' ti' l')),.int .i64 (errN (jbf v k r L x y mo ti l&&jbf v k' r' L' x' y' mo' ti' l'))]))
def sp_ddiff:=spQ (u19 q_ddiff)
theorem jkJ:W19 (hA sp_ddiff) q_ddiff:=w19 (aA rfl)
theorem jrc:Al 10 sp_ddiff:=ofA (u19 q_ddiff) fun⟨v,k,r,L,x,y,hd,mo,ti,l,k',r',L',x',y',hd',mo',ti',l'⟩ hG=>tfi (.a [.any] jhw juD (.a jxK jdr jxL (.a jxO jcU jxP (.a jxS jds jxT (.a jvD jeD jvE (.a jvF jdU jvG (.a jvH jeE jvI .nil))))))) 0 jgX (by
 dsimp only[u19,q_ddiff]at hG ⊢
 have zc:=Hk.mk (qaa @jkh (qaa @jpK (qaa @jpM (qaa @jpO (qaa @jov (qaa @jow (qaa @jox (qaa @bF1 (qaa @bF2 (qaa @jbL (qaa @ja7 @jaA)))))))))))
 by_cases h1:v=1
 ·subst h1
  have hw:wayV 1=_:=if_pos rfl
  have hE:encV 1 k r L x y hd mo ti l k' r' L' x' y' hd' mo' ti' l'=jd2 k r L x y hd mo ti l k' r' L' x' y' hd' mo' ti' l':=by simp[encV]
  have hF:jeB 1 k' r' L' x' y' hd' mo' ti' l'=jcn k' r' L' x' y' hd' mo' ti' l':=by simp[jeB]
  have hT1:jbf 1 k r L x y mo ti l=jaC k r L x y mo ti l:=by simp[jbf]
  have hT2:jbf 1 k' r' L' x' y' mo' ti' l'=jaC k' r' L' x' y' mo' ti' l':=by simp[jbf]
  have hlE:=jeC (v:=1) (k:=k) (r:=r) (L:=L) (x:=x) (y:=y) (hd:=hd) (mo:=mo) (ti:=ti) (l:=l) (k':=k') (r':=r') (L':=L') (x':=x') (y':=y') (hd':=hd') (mo':=mo') (ti':=ti') (l':=l') hG.1.1.1 hG.1.2 hG.2.1.1 hG.2.2
  have hlF:=jdq (v:=1) (k:=k') (r:=r') (L:=L') (x:=x') (y:=y') (hd:=hd') (mo:=mo') (ti:=ti') (l:=l') hG.2.1.1.wf hG.2.2
  rw[hE]at hlE
  rw[hF]at hlF
  rw[hE,hF,hT1,hT2]
  obtain⟨B,hB⟩:∃B,(jaC k r L x y mo ti l&&jaC k' r' L' x' y' mo' ti' l')=B:=⟨_,rfl⟩
  obtain⟨d,hd1⟩:∃B,jd2 k r L x y hd mo ti l k' r' L' x' y' hd' mo' ti' l'=B:=⟨_,rfl⟩
  obtain⟨f,hf1⟩:∃B,jcn k' r' L' x' y' hd' mo' ti' l'=B:=⟨_,rfl⟩
  rw[hd1]at hlE
  rw[hf1]at hlF
  rw[hB,hd1,hf1]
  cases B
  ·have hd2:d=[]:=by
    rw[←hd1]
    exact no1 hB
   subst hd2
   have hw3:=qaa hB (qaa hd1 hf1)
   have hw4:errN false=1:=rfl
   repeat' first|exact hG.1.1.1|exact hG.1.1.2|exact hG.1.2|exact hG.2.1.1|exact hG.2.1.2|exact hG.2.2|refine tU ?_|refine qab [] [] rfl ?_|refine qaa ?_ ?_|(refine tI ?_;intro hyp)|intro hyp0|exact tZ|omega
   all_goals simp[jbl]
  ·have hw3:=qaa hB (qaa hd1 hf1)
   have hw4:errN true=0:=rfl
   repeat' first|exact hG.1.1.1|exact hG.1.1.2|exact hG.1.2|exact hG.2.1.1|exact hG.2.1.2|exact hG.2.2|refine tU ?_|refine qab [] [] rfl ?_|refine qaa ?_ ?_|(refine tI ?_;intro hyp)|intro hyp0|exact tZ|omega
   all_goals (simp[jbl];try omega)
 by_cases h2:v=2
 ·subst h2
  have hw:wayV 2=_:=(if_neg (by decide)).trans (if_pos rfl)
  have hE:encV 2 k r L x y hd mo ti l k' r' L' x' y' hd' mo' ti' l'=jd4 k r L x y hd mo ti l k' r' L' x' y' hd' mo' ti' l':=by simp[encV]
  have hF:jeB 2 k' r' L' x' y' hd' mo' ti' l'=jcp k' r' L' x' y' hd' mo' ti' l':=by simp[jeB]
  have hT1:jbf 2 k r L x y mo ti l=jaB k r L x y mo ti l:=by simp[jbf]
  have hT2:jbf 2 k' r' L' x' y' mo' ti' l'=jaB k' r' L' x' y' mo' ti' l':=by simp[jbf]
  have hlE:=jeC (v:=2) (k:=k) (r:=r) (L:=L) (x:=x) (y:=y) (hd:=hd) (mo:=mo) (ti:=ti) (l:=l) (k':=k') (r':=r') (L':=L') (x':=x') (y':=y') (hd':=hd') (mo':=mo') (ti':=ti') (l':=l') hG.1.1.1 hG.1.2 hG.2.1.1 hG.2.2
  have hlF:=jdq (v:=2) (k:=k') (r:=r') (L:=L') (x:=x') (y:=y') (hd:=hd') (mo:=mo') (ti:=ti') (l:=l') hG.2.1.1.wf hG.2.2
  rw[hE]at hlE
  rw[hF]at hlF
  rw[hE,hF,hT1,hT2]
  obtain⟨B,hB⟩:∃B,(jaB k r L x y mo ti l&&jaB k' r' L' x' y' mo' ti' l')=B:=⟨_,rfl⟩
  obtain⟨d,hd1⟩:∃B,jd4 k r L x y hd mo ti l k' r' L' x' y' hd' mo' ti' l'=B:=⟨_,rfl⟩
  obtain⟨f,hf1⟩:∃B,jcp k' r' L' x' y' hd' mo' ti' l'=B:=⟨_,rfl⟩
  rw[hd1]at hlE
  rw[hf1]at hlF
  rw[hB,hd1,hf1]
  cases B
  ·have hd2:d=[]:=by
    rw[←hd1]
    exact no2 hB
   subst hd2
   have hw3:=qaa hB (qaa hd1 hf1)
   have hw4:errN false=1:=rfl
   repeat' first|exact hG.1.1.1|exact hG.1.1.2|exact hG.1.2|exact hG.2.1.1|exact hG.2.1.2|exact hG.2.2|refine tU ?_|refine qab [] [] rfl ?_|refine qaa ?_ ?_|(refine tI ?_;intro hyp)|intro hyp0|exact tZ|omega
   all_goals simp[jbl]
  ·have hw3:=qaa hB (qaa hd1 hf1)
   have hw4:errN true=0:=rfl
   repeat' first|exact hG.1.1.1|exact hG.1.1.2|exact hG.1.2|exact hG.2.1.1|exact hG.2.1.2|exact hG.2.2|refine tU ?_|refine qab [] [] rfl ?_|refine qaa ?_ ?_|(refine tI ?_;intro hyp)|intro hyp0|exact tZ|omega
   all_goals (simp[jbl];try omega)
 by_cases h3:v=3
 ·subst h3
  have hw:wayV 3=_:=(if_neg (by decide)).trans ((if_neg (by decide)).trans (if_pos rfl))
  have hE:encV 3 k r L x y hd mo ti l k' r' L' x' y' hd' mo' ti' l'=encI k r L x y hd mo ti l k' r' L' x' y' hd' mo' ti' l':=by simp[encV]
  have hF:jeB 3 k' r' L' x' y' hd' mo' ti' l'=jdy k' r' L' x' y' hd' mo' ti' l':=by simp[jeB]
  have hT1:jbf 3 k r L x y mo ti l=jal k r L x y mo ti l:=by simp[jbf]
  have hT2:jbf 3 k' r' L' x' y' mo' ti' l'=jal k' r' L' x' y' mo' ti' l':=by simp[jbf]
  have hlE:=jeC (v:=3) (k:=k) (r:=r) (L:=L) (x:=x) (y:=y) (hd:=hd) (mo:=mo) (ti:=ti) (l:=l) (k':=k') (r':=r') (L':=L') (x':=x') (y':=y') (hd':=hd') (mo':=mo') (ti':=ti') (l':=l') hG.1.1.1 hG.1.2 hG.2.1.1 hG.2.2
  have hlF:=jdq (v:=3) (k:=k') (r:=r') (L:=L') (x:=x') (y:=y') (hd:=hd') (mo:=mo') (ti:=ti') (l:=l') hG.2.1.1.wf hG.2.2
  rw[hE]at hlE
  rw[hF]at hlF
  rw[hE,hF,hT1,hT2]
  obtain⟨B,hB⟩:∃B,(jal k r L x y mo ti l&&jal k' r' L' x' y' mo' ti' l')=B:=⟨_,rfl⟩
  obtain⟨d,hd1⟩:∃B,encI k r L x y hd mo ti l k' r' L' x' y' hd' mo' ti' l'=B:=⟨_,rfl⟩
  obtain⟨f,hf1⟩:∃B,jdy k' r' L' x' y' hd' mo' ti' l'=B:=⟨_,rfl⟩
  rw[hd1]at hlE
  rw[hf1]at hlF
  rw[hB,hd1,hf1]
  cases B
  ·have hd2:d=[]:=by
    rw[←hd1]
    exact no3 hB
   subst hd2
   have hw3:=qaa hB (qaa hd1 hf1)
   have hw4:errN false=1:=rfl
   repeat' first|exact hG.1.1.1|exact hG.1.1.2|exact hG.1.2|exact hG.2.1.1|exact hG.2.1.2|exact hG.2.2|refine tU ?_|refine qab [] [] rfl ?_|refine qaa ?_ ?_|(refine tI ?_;intro hyp)|intro hyp0|exact tZ|omega
   all_goals simp[jbl]
  ·have hw3:=qaa hB (qaa hd1 hf1)
   have hw4:errN true=0:=rfl
   repeat' first|exact hG.1.1.1|exact hG.1.1.2|exact hG.1.2|exact hG.2.1.1|exact hG.2.1.2|exact hG.2.2|refine tU ?_|refine qab [] [] rfl ?_|refine qaa ?_ ?_|(refine tI ?_;intro hyp)|intro hyp0|exact tZ|omega
   all_goals (simp[jbl];try omega)
 have hw:wayV v=_:=(if_neg h1).trans ((if_neg h2).trans (if_neg h3))
 have hw2:decide (1≤v∧v≤3)=false:=decide_eq_false (by omega)
 have hE:encV v k r L x y hd mo ti l k' r' L' x' y' hd' mo' ti' l'=[]:=by simp[encV,h1,h2,h3]
 have hF:jeB v k' r' L' x' y' hd' mo' ti' l'=[]:=by simp[jeB,h1,h2,h3]
 have hT:jbf v k r L x y mo ti l=false:=by simp[jbf,h1,h2,h3]
 rw[hE,hF,hT]
 repeat' first|refine tU ?_|refine qab [] [] rfl ?_|refine qaa ?_ ?_|(refine tI ?_;intro hyp)|intro hyp0|exact tZ|omega
 all_goals simp[jbl,errN])
end
end
end Go.Proofs.YtienkkicehmchaaGreatDoor
