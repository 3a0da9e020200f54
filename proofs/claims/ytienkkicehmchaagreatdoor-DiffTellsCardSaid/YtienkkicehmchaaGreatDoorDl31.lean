/- Texts of this claim, merged by a program of this claim: KRead, EEval, FRead, KApply, FApply, FDif, FDif2. -/
import Derived.Test.YtienkkicehmchaaGreatDoorDl12
import Derived.Test.YtienkkicehmchaaGreatDoorDl16
import Derived.Test.YtienkkicehmchaaGreatDoorDl21
import Derived.Test.YtienkkicehmchaaGreatDoorDl24
import Derived.Test.YtienkkicehmchaaGreatDoorDl26
import Derived.Test.YtienkkicehmchaaGreatDoorDl5
import Derived.Test.YtienkkicehmchaaGreatDoorDl6
import Derived.LoopN
namespace Go.Proofs.YtienkkicehmchaaGreatDoor
open Cos renaming intro→qaa
open And renaming intro→qab
noncomputable section
set_option linter.unusedVariables false
set_option linter.unusedSimpArgs false
section
open Go.RowKit
set_option maxRecDepth 100000
end
section
open Go.RowKit
noncomputable section
def hget (h:KH):Nat→KB:=List.rec (motive:=fun _=>Nat→KB) (fun _=>.dead) (fun b _ ih i=>Nat.rec (motive:=fun _=>KB) b (fun m _=>ih m) i) h
def hput (h:KH):Nat→KB→KH:=List.rec (motive:=fun _=>Nat→KB→KH) (fun _ _=>[]) (fun b r ih i x=>Nat.rec (motive:=fun _=>KH) (x::r) (fun m _=>b::ih m x) i) h
section
variable {α:Type}
end
def iter (f:St→Option (EX×St)):Nat→St→Option (EX×St)
 | 0,_=>none
 | k+1,s=>match f s with
  | some (.norm,s')=>iter f k s'
  | r=>r
section
variable {P:Program}{E:Nat→Option (List CV)}{eqs:List (TypeId×List IntKind)}
end
end
end
section
open Go.RowKit
set_option maxRecDepth 100000
set_option maxHeartbeats 4000000
end
section
open Go.RowKit
set_option maxRecDepth 100000
end
section
open Go.RowKit
set_option maxRecDepth 100000
set_option maxHeartbeats 4000000
end
section
open Go.RowKit
set_option maxRecDepth 100000
set_option maxHeartbeats 4000000
theorem js8 (f:CD→CD){L:List CD}{i:Nat}(h:i<L.length):(half f L i).getD i default=L.getD i default:=by
 rw[List.getD_eq_getElem?_getD,jlt f (ja6 h)]
 rfl
theorem js9 {f:CD→CD}{L:List CD}{i:Nat}(h:i<L.length) (e:f (L.getD i default)=L.getD i default):half f L (i+1)=half f L i:=by
 rw[←jlu f (ja6 h),e]
 have hl:i<(half f L i).length:=by rw[jls];exact h
 have:=jlt f (ja6 h)
 rw[List.getElem?_eq_getElem hl]at this
 rw[←Option.some.inj this,List.set_getElem_self]
abbrev ju7:List AK:=[.agg [.any,.any,.sl .cell,.any,.any,.any,.any,.any,.sl .str],.sl .str]
abbrev q_under (k r:Int) (L:List CD) (x y:Int) (hd:Bool) (mo:Int) (ti:ByteArray) (bl links:List ByteArray):QA:=([.agg [.int .i64 k,.int .i64 r,.vec .cell L,.int .i64 x,.int .i64 y,.bool hd,.int .u8 mo,.str ti,.vec .str bl],.vec .str links],L.length≤60000∧bl.length≤60000∧links.length≤60000∧(∀c∈L,CWf c)∧(∀c∈L,c.link≤bl.length),.ret (.vec .cell (L.map (ulf bl links))))
def sp_under:=spQ (u10 q_under)
theorem jok:W10 (hA sp_under) q_under:=w10 (aA rfl)
theorem ju8:Fre 175 sp_under:=ofT (u10 q_under) fun⟨k,r,L,x,y,hd,mo,ti,bl,links⟩ hG=>tfi (.t [.sl .cell] jaT jid (.f [.sl .str,.any] ja1 jjn .nil)) 0 jgE (by
 dsimp only[u10,q_under]at hG ⊢
 have zc:=Hk.mk (qab @jd1 @jeM)
 obtain⟨hL,hb,hl,hc,hle⟩:=hG
 repeat' first|refine tU ?_|refine qaa [1] [] rfl ?_|refine qab ?_ ?_|(refine tI ?_;intro hyp)|intro hyp0|exact tZ|omega
 refine T.loop (fun i:Nat=>⟨[(1,.vec .str links),(2,.ptr 0 0 0),(5,.slice 1 0 6 L.length L.length),(12,.int .i64 L.length),(13,.int .i64 i)],[.box [.int .i64 k,.int .i64 r,.vec .cell L,.int .i64 x,.int .i64 y,.bool hd,.int .u8 mo,.str ti,.vec .str bl],.seq .cell (half (ulf bl links) L i)]⟩) (fun i=>i≤L.length) (fun i=>L.length-i) 0 (by omega) (qaa [0,1] [] rfl (by simp only[PB,SAM,seval,rdB,Hk.out zc];simp[half])) (fun i hi=>?_)
 have hhl:=jls (ulf bl links) L i
 by_cases hil:i<L.length
 ·have hlk:=(hc _ (jaV hil)).link
  have hlb:=hle _ (jaV hil)
  have hw:=js8 (ulf bl links) hil
  have hst:=jlu (ulf bl links) (ja6 hil)
  by_cases h0:0<(L.getD i default).link
  ·have hpl:=jbO links (bl.getD ((L.getD i default).link-1).toNat ETy.str.dflt)
   have hu:ulf bl links (L.getD i default)={ L.getD i default with link:=jal links (bl.getD ((L.getD i default).link-1).toNat ETy.str.dflt)+1 }:=if_pos h0
   rw[hu]at hst
   have hw2:IntKind.u16.wrap ((L.getD i default).link-1)=(L.getD i default).link-1:=jnL (by omega)
   have hw3:IntKind.u16.wrap (jal links (bl.getD ((L.getD i default).link-1).toNat ETy.str.dflt)+1)=jal links (bl.getD ((L.getD i default).link-1).toNat ETy.str.dflt)+1:=jnL (by omega)
   repeat' first|refine tU ?_|refine qab ?_ ?_|(refine tI ?_;intro hyp)|intro hyp0|exact tZ|omega
   exact⟨i+1,by omega,by omega,qaa [0,1] [] rfl (by rw[←hst];exact tF)⟩
  ·have hu:ulf bl links (L.getD i default)=L.getD i default:=if_neg h0
   have hsk:=js9 (f:=ulf bl links) hil hu
   repeat' first|refine tU ?_|refine qab ?_ ?_|(refine tI ?_;intro hyp)|intro hyp0|exact tZ|omega
   exact⟨i+1,by omega,by omega,qaa [0,1] [] rfl (by rw[hsk];exact tF)⟩
 ·have e:half (ulf bl links) L i=L.map (ulf bl links):=jo7 _ _ _ (by omega)
  rw[e]
  have hlm:(L.map (ulf bl links)).length=L.length:=by simp
  repeat' first|refine tU ?_|refine qaa [1] [] rfl ?_|refine qab ?_ ?_|(refine tI ?_;intro hyp)|intro hyp0|exact tZ|omega)
end
section
open Go.RowKit
set_option maxRecDepth 100000
set_option maxHeartbeats 4000000
abbrev jqW:List AK:=[.agg [.any,.any,.sl .cell,.any,.any,.any,.any,.any,.sl .str],.agg [.any,.any,.sl .cell,.any,.any,.any,.any,.any,.sl .str],.any]
abbrev q_differs (k r:Int) (L:List CD) (x y:Int) (hd:Bool) (mo:Int) (ti:ByteArray) (l:List ByteArray) (k' r':Int) (L':List CD) (x' y':Int) (hd':Bool) (mo':Int) (ti':ByteArray) (l':List ByteArray) (m:Int):QA:=([.agg [.int .i64 k,.int .i64 r,.vec .cell L,.int .i64 x,.int .i64 y,.bool hd,.int .u8 mo,.str ti,.vec .str l],.agg [.int .i64 k',.int .i64 r',.vec .cell L',.int .i64 x',.int .i64 y',.bool hd',.int .u8 mo',.str ti',.vec .str l'],.int .i64 m],L.length≤60000∧L'.length≤60000∧(-10000≤m*k∧m*k≤10000),.ret (.int .i64 (cntF (fun i=>jfl L (i+m*k)) (cAt L') L'.length)))
def sp_differs:=spQ (u19 q_differs)
theorem jlQ:W19 (hA sp_differs) q_differs:=w19 (aA rfl)
theorem jqX:Al 195 sp_differs:=ofA (u19 q_differs) fun⟨k,r,L,x,y,hd,mo,ti,l,k',r',L',x',y',hd',mo',ti',l',m⟩ hG=>tfi (.f [.any] jdi ji1 .nil) 0 jeS (by
 dsimp only[u19,q_differs]at hG ⊢
 have zc:=Hk.mk (@jeA)
 obtain⟨hL,hL',hm⟩:=hG
 repeat' first|refine tU ?_|refine qaa [] [] rfl ?_|refine qab ?_ ?_|(refine tI ?_;intro hyp)|intro hyp0|exact tZ|omega
 refine T.loop (fun i:Nat=>⟨[(3,.ptr 0 0 0),(7,.int .i64 (cntF (fun i=>jfl L (i+m*k)) (cAt L') i)),(8,.int .i64 (m*k)),(17,.vec .cell L'),(18,.int .i64 L'.length),(19,.int .i64 i)],[.box [.int .i64 k,.int .i64 r,.vec .cell L,.int .i64 x,.int .i64 y,.bool hd,.int .u8 mo,.str ti,.vec .str l]]⟩) (fun i=>i≤L'.length) (fun i=>L'.length-i) 0 (by omega) (qaa [0] [] rfl (by simp only[PB,SAM,seval,rdB,Hk.out zc];simp[cntF])) (fun i hi=>?_)
 have hct:=jlv (fun i=>jfl L (i+m*k)) (cAt L') i
 have hcs:=jmq (fun i=>jfl L (i+m*k)) (cAt L') i
 by_cases hil:i<L'.length
 ·rw[jbe hil]at hcs
  by_cases hin:0≤(i:Int)+m*k∧(i:Int)+m*k<L.length
  ·have e:jfl L ((i:Int)+m*k)=L.getD ((i:Int)+m*k).toNat default:=by
    unfold jfl
    rw[if_pos hin,jbe (by omega)]
   rw[e]at hcs
   unfold jdZ at hcs
   repeat' first|refine tU ?_|refine qab ?_ ?_|(refine tI ?_;intro hyp)|intro hyp0|exact tZ|omega
   ·refine⟨i+1,by omega,by omega,qaa [0] [] rfl ?_⟩
    rw[hcs,if_neg (fun q=>hyp (of_decide_eq_true q))]
    exact tF
   ·refine⟨i+1,by omega,by omega,qaa [0] [] rfl ?_⟩
    rw[hcs,if_pos (decide_eq_true hyp)]
    exact tF
  ·have e:jfl L ((i:Int)+m*k)=blank0:=if_neg hin
   rw[e]at hcs
   unfold jdZ at hcs
   have hw3:jcv { fg:=0,bg:=0,attrs:=0,link:=0 }=blank0:=rfl
   repeat' first|refine tU ?_|refine qab ?_ ?_|(refine tI ?_;intro hyp)|intro hyp0|exact tZ|omega
   ·refine⟨i+1,by omega,by omega,qaa [0] [] rfl ?_⟩
    rw[hcs,if_neg (fun q=>hyp (of_decide_eq_true q))]
    exact tF
   ·refine⟨i+1,by omega,by omega,qaa [0] [] rfl ?_⟩
    rw[hcs,if_pos (decide_eq_true hyp)]
    exact tF
 ·obtain rfl:i=L'.length:=by omega
  repeat' first|refine tU ?_|refine qaa [] [] rfl ?_|refine qab ?_ ?_|(refine tI ?_;intro hyp)|intro hyp0|exact tZ|omega)
theorem jqY:Fre 195 sp_differs:=ofF (u19 q_differs) jqX fun _=>rfl
theorem jvg {m k:Int}(h1:-100≤m∧m≤100) (h2:0≤k∧k≤100):-10000≤m*k∧m*k≤10000:=by
 have a1:m*k≤100*k:=Int.mul_le_mul_of_nonneg_right h1.2 h2.1
 have a2:-100*k≤m*k:=Int.mul_le_mul_of_nonneg_right h1.1 h2.1
 omega
abbrev jxq:List AK:=[.agg [.any,.any,.sl .cell,.any,.any,.any,.any,.any,.sl .str],.agg [.any,.any,.sl .cell,.any,.any,.any,.any,.any,.sl .str]]
abbrev q_best (k r:Int) (L:List CD) (x y:Int) (hd:Bool) (mo:Int) (ti:ByteArray) (l:List ByteArray) (k' r':Int) (L':List CD) (x' y':Int) (hd':Bool) (mo':Int) (ti':ByteArray) (l':List ByteArray):QA:=([.agg [.int .i64 k,.int .i64 r,.vec .cell L,.int .i64 x,.int .i64 y,.bool hd,.int .u8 mo,.str ti,.vec .str l],.agg [.int .i64 k',.int .i64 r',.vec .cell L',.int .i64 x',.int .i64 y',.bool hd',.int .u8 mo',.str ti',.vec .str l']],L.length≤60000∧L'.length≤60000∧(0≤k∧k≤100)∧(1≤r∧r≤100),.ret (.int .i64 (jbC (fun m=>cntF (fun i=>jfl L (i+m*k)) (cAt L') L'.length) (r.toNat-1)).1))
def sp_best:=spQ (u18 q_best)
theorem jqZ:W18 (hA sp_best) q_best:=w18 (aA rfl)
theorem jxr:Al 176 sp_best:=ofA (u18 q_best) fun⟨k,r,L,x,y,hd,mo,ti,l,k',r',L',x',y',hd',mo',ti',l'⟩ hG=>tfi (.f jqW jeS jqY .nil) 0 jhG (by
 dsimp only[u18,q_best]at hG ⊢
 have zc:=Hk.mk (@jlQ)
 obtain⟨hL,hL',hk,hr⟩:=hG
 obtain⟨d,hD⟩:∃d:Int→Nat,d=fun m=>cntF (fun i=>jfl L (i+m*k)) (cAt L') L'.length:=⟨_,rfl⟩
 have hw:∀m:Int,cntF (fun i=>jfl L (i+m*k)) (cAt L') L'.length=d m:=fun m=>by rw[hD]
 have hdl:∀m,d m≤L'.length:=fun m=>by rw[hD];exact jlv _ _ _
 have hmk:∀m:Int,-100≤m∧m≤100 → -10000≤m*k∧m*k≤10000:=fun m h=>jvg h hk
 have h00:=hmk 0 (by omega)
 repeat' first|refine tU ?_|refine qaa [] [] rfl ?_|refine qab ?_ ?_|(refine tI ?_;intro hyp)|intro hyp0|exact tZ|omega
 refine T.loop (fun n:Nat=>⟨[(2,.ptr 0 0 0),(3,.ptr 1 0 0),(5,.int .i64 (jbC d (n-1)).1),(6,.int .i64 (jbC d (n-1)).2),(7,.int .i64 n)],[.box [.int .i64 k,.int .i64 r,.vec .cell L,.int .i64 x,.int .i64 y,.bool hd,.int .u8 mo,.str ti,.vec .str l],.box [.int .i64 k',.int .i64 r',.vec .cell L',.int .i64 x',.int .i64 y',.bool hd',.int .u8 mo',.str ti',.vec .str l']]⟩) (fun n=>1≤n∧n≤r.toNat) (fun n=>r.toNat-n) 1 (by omega) (qaa [0,1] [] rfl (by simp only[PB,SAM,seval,rdB,Hk.out zc];simp[jbC])) (fun n hn=>?_)
 have hbl:∀j,(jbC d j).2≤L'.length∧(-(j:Int)≤(jbC d j).1∧(jbC d j).1≤j):=fun j=>⟨by
  induction j with
  | zero=>exact hdl 0
  | succ j ih =>
   simp only[jbC,jbl]
   have:=hdl ((j+1:Nat):Int)
   have:=hdl (-((j+1:Nat):Int))
   split<;>(try split)<;>(try simp only)<;>omega,jlB d j⟩
 have hb1:=hbl (n-1)
 by_cases hnr:n<r.toNat
 ·repeat' first|refine tU ?_|refine qab ?_ ?_|(refine tI ?_;intro hyp)|intro hyp0|exact tZ|omega
  obtain⟨st,hst⟩:∃st,st=jbC d (n-1):=⟨_,rfl⟩
  rw[←hst]
  refine T.loop (fun j:Nat=>⟨[(2,.ptr 0 0 0),(3,.ptr 1 0 0),(5,.int .i64 (innB d st n j).1),(6,.int .i64 (innB d st n j).2),(7,.int .i64 n),(23,.slice 2 0 1 2 2),(24,.int .i64 2),(25,.int .i64 j)],[.box [.int .i64 k,.int .i64 r,.vec .cell L,.int .i64 x,.int .i64 y,.bool hd,.int .u8 mo,.str ti,.vec .str l],.box [.int .i64 k',.int .i64 r',.vec .cell L',.int .i64 x',.int .i64 y',.bool hd',.int .u8 mo',.str ti',.vec .str l'],.seq (.int .i64) [n,-n]]⟩) (fun j=>j≤2) (fun j=>2-j) 0 (by omega) (qaa [0,1,2] [] rfl (by simp only[PB,SAM,seval,rdB,Hk.out zc];simp[innB])) (fun j hj=>?_)
  rw[←hst]at hb1
  have hdn:=hdl n
  have hdm:=hdl (-n)
  rcases (show j=0∨j=1∨j=2 by omega)with rfl|rfl|rfl
  ·have e0:innB d st n 0=st:=rfl
   have e1:innB d st n 1=jbl d st n:=rfl
   rw[e0]
   repeat' first|exact hmk _ (by omega)|refine tU ?_|refine qab ?_ ?_|(refine tI ?_;intro hyp)|intro hyp0|exact tZ|omega
   ·exact⟨1,by omega,by omega,qaa [0,1,2] [] rfl (by rw[e1,(jbg d st n).1 (by omega)];exact tF)⟩
   ·exact⟨1,by omega,by omega,qaa [0,1,2] [] rfl (by rw[e1,(jbg d st n).2 (by omega)];exact tF)⟩
  ·have e1:innB d st n 1=jbl d st n:=rfl
   have e2:innB d st n 2=jbl d (jbl d st n) (-n):=rfl
   obtain⟨su,hsu⟩:∃su,su=jbl d st n:=⟨_,rfl⟩
   have hs2:su.2≤L'.length:=by
    rw[hsu]
    unfold jbl
    split<;>(try simp only)<;>omega
   rw[e1,←hsu]
   rw[←hsu]at e2
   repeat' first|exact hmk _ (by omega)|refine tU ?_|refine qab ?_ ?_|(refine tI ?_;intro hyp)|intro hyp0|exact tZ|omega
   ·exact⟨2,by omega,by omega,qaa [0,1,2] [] rfl (by rw[e2,(jbg d su (-n)).1 (by omega)];exact tF)⟩
   ·exact⟨2,by omega,by omega,qaa [0,1,2] [] rfl (by rw[e2,(jbg d su (-n)).2 (by omega)];exact tF)⟩
  ·have e2:innB d st n 2=jbC d n:=by
    obtain⟨z,rfl⟩:∃z,n=z+1:=⟨n-1,by omega⟩
    rw[hst]
    rfl
   rw[e2]
   repeat' first|refine tU ?_|refine qab ?_ ?_|(refine tI ?_;intro hyp)|intro hyp0|exact tZ|omega
   exact⟨n+1,by omega,by omega,qaa [0,1] [] rfl (by rw[Nat.add_sub_cancel];exact tF)⟩
 ·obtain rfl:n=r.toNat:=by omega
  repeat' first|refine tU ?_|refine qaa [] [] rfl ?_|refine qab ?_ ?_|(refine tI ?_;intro hyp)|intro hyp0|exact tZ|omega)
theorem jxs:Fre 176 sp_best:=ofF (u18 q_best) jxr fun _=>rfl
end
end
end Go.Proofs.YtienkkicehmchaaGreatDoor
