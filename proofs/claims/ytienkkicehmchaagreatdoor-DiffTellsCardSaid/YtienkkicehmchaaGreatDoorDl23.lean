/- Texts of this claim, merged by a program of this claim: FFits. -/
import Derived.Test.YtienkkicehmchaaGreatDoorDl21
import Derived.Test.YtienkkicehmchaaGreatDoorDl22
import Derived.Test.YtienkkicehmchaaGreatDoorDl6
namespace Go.Proofs.YtienkkicehmchaaGreatDoor
open And renaming intro→qaa
open Cos renaming intro→qab
noncomputable section
set_option linter.unusedVariables false
set_option linter.unusedSimpArgs false
section
open Go.RowKit
set_option maxRecDepth 100000
set_option maxHeartbeats 4000000
def bad1 (c:CD):Bool:=!fit1 c
def bad2 (c:CD):Bool:=!fit2 c
def f1:FuncId:=134
def f2:FuncId:=143
def badF (F:FuncId):CD→Bool:=if F=f1 then bad1 else bad2
def idxB (p:CD→Bool) (L:List CD):Int:=if L.any p then ((L.findIdx p:Nat):Int) else -1
theorem bF1:badF 134=bad1:=if_pos rfl
theorem bF2:badF 143=bad2:=if_neg (by decide)
theorem jaG:idf .nilfn=true:=rfl
theorem ja7 (F:FuncId):idf (.mfn F)=true:=rfl
def wayV (v:Int):CV :=
 if v=1 then .agg [.mfn 46,.mfn 47,.mfn 48,.mfn 49]
 else if v=2 then .agg [.mfn 50,.mfn 51,.mfn 52,.mfn 53]
 else if v=3 then .agg [.mfn 54,.mfn 55,.mfn 56,.mfn 57]
 else .agg [.nilfn,.nilfn,.nilfn,.nilfn]
theorem jbT (F:FuncId):idf (.fn F [])=true:=rfl
abbrev q_fbad1 (c:CD):QA:=([ja4 c],True,.ret (.bool (bad1 c)))
def sp_fbad1:=spQ (u1 q_fbad1)
theorem job:W1 (hA sp_fbad1) q_fbad1:=w1 (aA rfl)
theorem juX:Al 134 sp_fbad1:=ofA (u1 q_fbad1) fun c hG=>tfi .nil 0 jgB (by
 dsimp only[u1,q_fbad1]at hG ⊢
 have zc:=Hk.mk (qaa @bF1 (qaa @bF2 (qaa @jbT (qaa @ja7 @jaG))))
 repeat' first|refine tU ?_|refine qab [] [] rfl ?_|refine qaa ?_ ?_|(refine tI ?_;intro hyp)|intro hyp0|exact tZ|omega
 all_goals (simp only[bad1,fit1];grind))
theorem juY:Fre 134 sp_fbad1:=ofF (u1 q_fbad1) juX fun _=>rfl
abbrev q_fbad2 (c:CD):QA:=([ja4 c],True,.ret (.bool (bad2 c)))
def sp_fbad2:=spQ (u1 q_fbad2)
theorem joc:W1 (hA sp_fbad2) q_fbad2:=w1 (aA rfl)
theorem juZ:Al 143 sp_fbad2:=ofA (u1 q_fbad2) fun c hG=>tfi .nil 0 jgC (by
 dsimp only[u1,q_fbad2]at hG ⊢
 have zc:=Hk.mk (qaa @bF1 (qaa @bF2 (qaa @jbT (qaa @ja7 @jaG))))
 repeat' first|refine tU ?_|refine qab [] [] rfl ?_|refine qaa ?_ ?_|(refine tI ?_;intro hyp)|intro hyp0|exact tZ|omega
 simp[bad2,fit2,ibeq])
theorem ju0:Fre 143 sp_fbad2:=ofF (u1 q_fbad2) juZ fun _=>rfl
theorem jvL {f:Nat→Bool}{k:Nat}(h:f k=false) (hall:∀j,j<k→f j=false):∀j,j<k+1→f j=false:=fun j hj=>by
 by_cases e:j=k
 ·rw[e];exact h
 ·exact hall j (by omega)
theorem jsJ {p:CD→Bool}{L:List CD}{k:Nat}(hk:k<L.length) (hall:∀j,j<k→p (L.getD j default)=false) (h:p (L.getD k default)=true):(k:Int)=idxB p L:=by
 have e:L.getD k default=L[k]:=by simp[hk]
 rw[e]at h
 have h1:L.any p=true:=List.any_eq_true.2 ⟨_,List.getElem_mem hk,h⟩
 have h2:L.findIdx p=k:=by
  rw[List.findIdx_eq hk]
  refine⟨h,fun j hj=>?_⟩
  have:=hall j hj
  rw[List.getD_eq_getElem?_getD,List.getElem?_eq_getElem (by omega)]at this
  simpa using this
 unfold idxB
 rw[if_pos h1,h2]
theorem jvM {p:CD→Bool}{L:List CD}{k:Nat}(hk:L.length≤k) (hall:∀j,j<k→p (L.getD j default)=false):-1=idxB p L:=by
 unfold idxB
 rw[if_neg]
 intro h
 obtain⟨x,hx,hp⟩:=List.any_eq_true.1 h
 obtain⟨j,hj,rfl⟩:=List.mem_iff_getElem.1 hx
 have:=hall j (by omega)
 rw[List.getD_eq_getElem?_getD,List.getElem?_eq_getElem hj]at this
 simp_all
abbrev q_ixfn (L:List CD) (F:FuncId):QA:=([.vec .cell L,.fn F []],(F=f1∨F=f2)∧L.length≤1000000,.ret (.int .i64 (idxB (badF F) L)))
def sp_ixfn:=spQ (u2 q_ixfn)
theorem jqE:W2 (hA sp_ixfn) q_ixfn:=w2 (aA rfl)
theorem jw2:Al 160 sp_ixfn:=ofA (u2 q_ixfn) fun⟨L,F⟩ hG=>tfi (.f [.any] jgB juY (.f [.any] jgC ju0 .nil)) 0 jbS (by
 dsimp only[u2,q_ixfn]at hG ⊢
 have zc:=Hk.mk (qaa @job (qaa @joc (qaa @bF1 (qaa @bF2 (qaa @jbT (qaa @ja7 @jaG))))))
 obtain⟨hF,hl⟩:=hG
 rcases hF with rfl|rfl
 ·have e:badF f1=bad1:=bF1
  rw[e]
  repeat' first|refine tU ?_|refine qaa ?_ ?_|(refine tI ?_;intro hyp)|intro hyp0|exact tZ|omega
  refine T.loop (fun k:Nat=>⟨[(0,.vec .cell L),(1,.fn 134 []),(7,.int .i64 L.length),(8,.int .i64 k)],[]⟩) (fun k=>k≤L.length∧∀j,j<k→bad1 (L.getD j default)=false) (fun k=>L.length-k) 0 ⟨by omega,fun j hj=>by omega⟩ (qab [] [] rfl (by exact tG)) (fun k ⟨hk,hall⟩=>?_)
  repeat' first|refine tU ?_|refine qab [] [] rfl ?_|refine qaa ?_ ?_|(refine tI ?_;intro hyp)|intro hyp0|exact tZ|omega
  ·exact jsJ (by omega) hall hyp
  ·exact⟨k+1,⟨by omega,jvL hyp hall⟩,by omega,(qab [] [] rfl (by exact tG))⟩
  ·exact jvM (by omega) hall
 ·have e:badF f2=bad2:=bF2
  rw[e]
  repeat' first|refine tU ?_|refine qaa ?_ ?_|(refine tI ?_;intro hyp)|intro hyp0|exact tZ|omega
  refine T.loop (fun k:Nat=>⟨[(0,.vec .cell L),(1,.fn 143 []),(7,.int .i64 L.length),(8,.int .i64 k)],[]⟩) (fun k=>k≤L.length∧∀j,j<k→bad2 (L.getD j default)=false) (fun k=>L.length-k) 0 ⟨by omega,fun j hj=>by omega⟩ (qab [] [] rfl (by exact tG)) (fun k ⟨hk,hall⟩=>?_)
  repeat' first|refine tU ?_|refine qab [] [] rfl ?_|refine qaa ?_ ?_|(refine tI ?_;intro hyp)|intro hyp0|exact tZ|omega
  ·exact jsJ (by omega) hall hyp
  ·exact⟨k+1,⟨by omega,jvL hyp hall⟩,by omega,(qab [] [] rfl (by exact tG))⟩
  ·exact jvM (by omega) hall)
theorem jw3:Fre 160 sp_ixfn:=ofF (u2 q_ixfn) jw2 fun _=>rfl
theorem jw4 (p:CD→Bool) (L:List CD):decide (0≤idxB p L)=L.any p:=by
 unfold idxB
 cases h:L.any p<;>simp
abbrev q_ctfn (L:List CD) (F:FuncId):QA:=([.vec .cell L,.fn F []],(F=f1∨F=f2)∧L.length≤1000000,.ret (.bool (L.any (badF F))))
def sp_ctfn:=spQ (u2 q_ctfn)
theorem jkA:W2 (hA sp_ctfn) q_ctfn:=w2 (aA rfl)
theorem jw5:Al 133 sp_ctfn:=ofA (u2 q_ctfn) fun⟨L,F⟩ hG=>tfi (.f [.sl .cell,.any] jbS jw3 .nil) 0 jaY (by
 dsimp only[u2,q_ctfn]at hG ⊢
 have zc:=Hk.mk (qaa @jqE (qaa @bF1 (qaa @bF2 (qaa @jbT (qaa @ja7 @jaG)))))
 obtain⟨hF,hl⟩:=hG
 repeat' first|exact hF|refine tU ?_|refine qab [] [] rfl ?_|refine qaa ?_ ?_|(refine tI ?_;intro hyp)|intro hyp0|exact tZ|omega
 all_goals exact jw4 _ L)
theorem jsK:Fre 133 sp_ctfn:=ofF (u2 q_ctfn) jw5 fun _=>rfl
theorem jsL (l:List ByteArray):decide ((l.length:Int)=0)=decide (l.length=0):=decide_eq_decide.2 (by omega)
theorem jsM {p:CD→Bool}{L:List CD}:(!L.any fun c=>!p c)=L.all p:=by simp[List.all_eq_not_any_not]
theorem any1 (L:List CD):(!L.any bad1)=L.all fit1:=jsM
theorem any2 (L:List CD):(!L.any bad2)=L.all fit2:=jsM
abbrev jjq:List AK:=[.agg [.any,.any,.sl .cell,.any,.any,.any,.any,.any,.sl .str]]
abbrev q_pfits1 (k r:Int) (L:List CD) (x y:Int) (hd:Bool) (mo:Int) (ti:ByteArray) (l:List ByteArray):QA:=([.agg [.int .i64 k,.int .i64 r,.vec .cell L,.int .i64 x,.int .i64 y,.bool hd,.int .u8 mo,.str ti,.vec .str l]],ScrOk L l∧SLen ti,.ret (.bool (jaL k r L x y mo ti l)))
def sp_pfits1:=spQ (u9 q_pfits1)
theorem jeQ:W9 (hA sp_pfits1) q_pfits1:=w9 (aA rfl)
theorem jsN:Al 98 sp_pfits1:=ofA (u9 q_pfits1) fun⟨k,r,L,x,y,hd,mo,ti,l⟩ hG=>tfi (.f jeO jbI jeP (.f [.sl .cell,.any] jaY jsK .nil)) 0 jea (by
 dsimp only[u9,q_pfits1]at hG ⊢
 have zc:=Hk.mk (qaa @jcp (qaa @jkA (qaa @bF1 (qaa @bF2 (qaa @jbT (qaa @ja7 @jaG))))))
 obtain⟨hs,ht⟩:=hG
 have hl:=hs.len
 have hl2:=hs.links
 repeat' first|exact hs|exact .inl rfl|exact .inr rfl|refine tU ?_|refine qab [] [] rfl ?_|refine qaa ?_ ?_|(refine tI ?_;intro hyp)|intro hyp0|exact tZ|omega
 all_goals (rw[jsL,any1];rfl))
theorem jjr:Fre 98 sp_pfits1:=ofF (u9 q_pfits1) jsN fun _=>rfl
abbrev jjs:List AK:=[.agg [.any,.any,.sl .cell,.any,.any,.any,.any,.any,.sl .str]]
abbrev q_pfits2 (k r:Int) (L:List CD) (x y:Int) (hd:Bool) (mo:Int) (ti:ByteArray) (l:List ByteArray):QA:=([.agg [.int .i64 k,.int .i64 r,.vec .cell L,.int .i64 x,.int .i64 y,.bool hd,.int .u8 mo,.str ti,.vec .str l]],ScrOk L l∧SLen ti,.ret (.bool (jaO k r L x y mo ti l)))
def sp_pfits2:=spQ (u9 q_pfits2)
theorem jeR:W9 (hA sp_pfits2) q_pfits2:=w9 (aA rfl)
theorem jsO:Al 102 sp_pfits2:=ofA (u9 q_pfits2) fun⟨k,r,L,x,y,hd,mo,ti,l⟩ hG=>tfi (.f jeO jbI jeP (.f [.sl .cell,.any] jaY jsK .nil)) 0 jeb (by
 dsimp only[u9,q_pfits2]at hG ⊢
 have zc:=Hk.mk (qaa @jcp (qaa @jkA (qaa @bF1 (qaa @bF2 (qaa @jbT (qaa @ja7 @jaG))))))
 obtain⟨hs,ht⟩:=hG
 have hl:=hs.len
 have hl2:=hs.links
 repeat' first|exact hs|exact .inl rfl|exact .inr rfl|refine tU ?_|refine qab [] [] rfl ?_|refine qaa ?_ ?_|(refine tI ?_;intro hyp)|intro hyp0|exact tZ|omega
 all_goals (rw[jsL,any2];rfl))
theorem jjt:Fre 102 sp_pfits2:=ofF (u9 q_pfits2) jsO fun _=>rfl
abbrev jsP:List AK:=[.any,.agg [.any,.any,.sl .cell,.any,.any,.any,.any,.any,.sl .str]]
abbrev q_mfits1 (k r:Int) (L:List CD) (x y:Int) (hd:Bool) (mo:Int) (ti:ByteArray) (l:List ByteArray):QA:=([.agg [],.agg [.int .i64 k,.int .i64 r,.vec .cell L,.int .i64 x,.int .i64 y,.bool hd,.int .u8 mo,.str ti,.vec .str l]],ScrOk L l∧SLen ti,.ret (.bool (jaL k r L x y mo ti l)))
def sp_mfits1:=spQ (u9 q_mfits1)
theorem jmO:W9 (hA sp_mfits1) q_mfits1:=w9 (aA rfl)
theorem jsQ:Al 46 sp_mfits1:=ofA (u9 q_mfits1) fun⟨k,r,L,x,y,hd,mo,ti,l⟩ hG=>tfi (.f jjq jea jjr .nil) 0 jdK (by
 dsimp only[u9,q_mfits1]at hG ⊢
 have zc:=Hk.mk (qaa @jeQ (qaa @bF1 (qaa @bF2 (qaa @jbT (qaa @ja7 @jaG)))))
 obtain⟨hs,ht⟩:=hG
 repeat' first|exact hs|refine tU ?_|refine qab [] [] rfl ?_|refine qaa ?_ ?_|(refine tI ?_;intro hyp)|intro hyp0|exact tZ|omega)
theorem jsR:Fre 46 sp_mfits1:=ofF (u9 q_mfits1) jsQ fun _=>rfl
abbrev jsS:List AK:=[.any,.agg [.any,.any,.sl .cell,.any,.any,.any,.any,.any,.sl .str]]
abbrev q_mfits2 (k r:Int) (L:List CD) (x y:Int) (hd:Bool) (mo:Int) (ti:ByteArray) (l:List ByteArray):QA:=([.agg [],.agg [.int .i64 k,.int .i64 r,.vec .cell L,.int .i64 x,.int .i64 y,.bool hd,.int .u8 mo,.str ti,.vec .str l]],ScrOk L l∧SLen ti,.ret (.bool (jaO k r L x y mo ti l)))
def sp_mfits2:=spQ (u9 q_mfits2)
theorem jmP:W9 (hA sp_mfits2) q_mfits2:=w9 (aA rfl)
theorem jsT:Al 50 sp_mfits2:=ofA (u9 q_mfits2) fun⟨k,r,L,x,y,hd,mo,ti,l⟩ hG=>tfi (.f jjs jeb jjt .nil) 0 jdm (by
 dsimp only[u9,q_mfits2]at hG ⊢
 have zc:=Hk.mk (qaa @jeR (qaa @bF1 (qaa @bF2 (qaa @jbT (qaa @ja7 @jaG)))))
 obtain⟨hs,ht⟩:=hG
 repeat' first|exact hs|refine tU ?_|refine qab [] [] rfl ?_|refine qaa ?_ ?_|(refine tI ?_;intro hyp)|intro hyp0|exact tZ|omega)
theorem jsU:Fre 50 sp_mfits2:=ofF (u9 q_mfits2) jsT fun _=>rfl
abbrev jsV:List AK:=[.any,.agg [.any,.any,.sl .cell,.any,.any,.any,.any,.any,.sl .str]]
abbrev q_mfits3 (k r:Int) (L:List CD) (x y:Int) (hd:Bool) (mo:Int) (ti:ByteArray) (l:List ByteArray):QA:=([.agg [],.agg [.int .i64 k,.int .i64 r,.vec .cell L,.int .i64 x,.int .i64 y,.bool hd,.int .u8 mo,.str ti,.vec .str l]],ScrOk L l∧SLen ti,.ret (.bool (jai k r L x y mo ti l)))
def sp_mfits3:=spQ (u9 q_mfits3)
theorem jmQ:W9 (hA sp_mfits3) q_mfits3:=w9 (aA rfl)
theorem jsW:Al 54 sp_mfits3:=ofA (u9 q_mfits3) fun⟨k,r,L,x,y,hd,mo,ti,l⟩ hG=>tfi (.f jeO jbI jeP .nil) 0 jdL (by
 dsimp only[u9,q_mfits3]at hG ⊢
 have zc:=Hk.mk (qaa @jcp (qaa @bF1 (qaa @bF2 (qaa @jbT (qaa @ja7 @jaG)))))
 obtain⟨hs,ht⟩:=hG
 repeat' first|exact hs|refine tU ?_|refine qab [] [] rfl ?_|refine qaa ?_ ?_|(refine tI ?_;intro hyp)|intro hyp0|exact tZ|omega)
theorem jsX:Fre 54 sp_mfits3:=ofF (u9 q_mfits3) jsW fun _=>rfl
abbrev q_dof (v:Int):QA:=([.int .i64 v],True,.ret (.tup [wayV v,.bool (decide (1≤v∧v≤3))]))
def sp_dof:=spQ (u1 q_dof)
theorem jju:W1 (hA sp_dof) q_dof:=w1 (aA rfl)
theorem jsY:Al 24 sp_dof:=ofA (u1 q_dof) fun v hG=>tfi .nil 0 jgD (by
 dsimp only[u1,q_dof]at hG ⊢
 have zc:=Hk.mk (qaa @bF1 (qaa @bF2 (qaa @jbT (qaa @ja7 @jaG))))
 by_cases h1:v=1
 ·subst h1
  repeat' first|refine tU ?_|refine qab [] [] rfl ?_|refine qaa ?_ ?_|(refine tI ?_;intro hyp)|intro hyp0|exact tZ|omega
  all_goals simp[wayV,crs,crsL]
 by_cases h2:v=2
 ·subst h2
  repeat' first|refine tU ?_|refine qab [] [] rfl ?_|refine qaa ?_ ?_|(refine tI ?_;intro hyp)|intro hyp0|exact tZ|omega
  all_goals simp[wayV,crs,crsL]
 by_cases h3:v=3
 ·subst h3
  repeat' first|refine tU ?_|refine qab [] [] rfl ?_|refine qaa ?_ ?_|(refine tI ?_;intro hyp)|intro hyp0|exact tZ|omega
  all_goals simp[wayV,crs,crsL]
 repeat' first|refine tU ?_|refine qab [] [] rfl ?_|refine qaa ?_ ?_|(refine tI ?_;intro hyp)|intro hyp0|exact tZ|omega
 all_goals simp[wayV,h1,h2,h3,crs,crsL]
 omega)
abbrev jph:List AK:=[.any,.agg [.any,.any,.sl .cell,.any,.any,.any,.any,.any,.sl .str]]
abbrev q_dfits (v k r:Int) (L:List CD) (x y:Int) (hd:Bool) (mo:Int) (ti:ByteArray) (l:List ByteArray):QA:=([.int .i64 v,.agg [.int .i64 k,.int .i64 r,.vec .cell L,.int .i64 x,.int .i64 y,.bool hd,.int .u8 mo,.str ti,.vec .str l]],ScrOk L l∧SLen ti,.ret (.bool (jay v k r L x y mo ti l)))
def sp_dfits:=spQ (u10 q_dfits)
theorem jjv:W10 (hA sp_dfits) q_dfits:=w10 (aA rfl)
theorem ju1:Al 15 sp_dfits:=ofA (u10 q_dfits) fun⟨v,k,r,L,x,y,hd,mo,ti,l⟩ hG=>tfi (.a [.any] jgD jsY (.f jsP jdK jsR (.f jsS jdm jsU (.f jsV jdL jsX .nil)))) 0 jfS (by
 dsimp only[u10,q_dfits]at hG ⊢
 have zc:=Hk.mk (qaa @jju (qaa @jmO (qaa @jmP (qaa @jmQ (qaa @bF1 (qaa @bF2 (qaa @jbT (qaa @ja7 @jaG))))))))
 obtain⟨hs,ht⟩:=hG
 by_cases h1:v=1
 ·subst h1
  have hw:wayV 1=_:=if_pos rfl
  repeat' first|exact hs|refine tU ?_|refine qab [] [] rfl ?_|refine qaa ?_ ?_|(refine tI ?_;intro hyp)|intro hyp0|exact tZ|omega
  simp[jay]
 by_cases h2:v=2
 ·subst h2
  have hw:wayV 2=_:=(if_neg (by decide)).trans (if_pos rfl)
  repeat' first|exact hs|refine tU ?_|refine qab [] [] rfl ?_|refine qaa ?_ ?_|(refine tI ?_;intro hyp)|intro hyp0|exact tZ|omega
  simp[jay]
 by_cases h3:v=3
 ·subst h3
  have hw:wayV 3=_:=(if_neg (by decide)).trans ((if_neg (by decide)).trans (if_pos rfl))
  repeat' first|exact hs|refine tU ?_|refine qab [] [] rfl ?_|refine qaa ?_ ?_|(refine tI ?_;intro hyp)|intro hyp0|exact tZ|omega
  simp[jay]
 have hw:wayV v=_:=(if_neg h1).trans ((if_neg h2).trans (if_neg h3))
 have hw2:decide (1≤v∧v≤3)=false:=decide_eq_false (by omega)
 repeat' first|exact hs|refine tU ?_|refine qab [] [] rfl ?_|refine qaa ?_ ?_|(refine tI ?_;intro hyp)|intro hyp0|exact tZ|omega
 simp[jay,h1,h2,h3])
theorem jpi:Fre 15 sp_dfits:=ofF (u10 q_dfits) ju1 fun _=>rfl
end
end
end Go.Proofs.YtienkkicehmchaaGreatDoor
