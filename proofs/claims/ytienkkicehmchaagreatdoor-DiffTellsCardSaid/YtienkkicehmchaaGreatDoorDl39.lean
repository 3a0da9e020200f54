/- Texts of this claim, merged by a program of this claim: FRdif. -/
import Derived.Test.YtienkkicehmchaaGreatDoorDl21
import Derived.Test.YtienkkicehmchaaGreatDoorDl24
import Derived.Test.YtienkkicehmchaaGreatDoorDl27
import Derived.Test.YtienkkicehmchaaGreatDoorDl6
namespace Go.Proofs.YtienkkicehmchaaGreatDoor
open And renaming intro→qaa
open Cos renaming intro→qab
open List renaming take_of_length_le→qac,take→qaf,range→qah,length_map→qai
open Nat renaming add_sub_cancel→qad,mul_le_mul→qae,mul_le_mul_right→qag,le_refl→qaj,mul_comm→qak
noncomputable section
set_option linter.unusedVariables false
set_option linter.unusedSimpArgs false
section
open Go.RowKit
set_option maxRecDepth 100000
set_option maxHeartbeats 4000000
theorem jkQ (L:List CD) (k y:Nat):jak L k (y+1)=jak L k y++[jas L k y]:=jaD _ _
abbrev jtn:List AK:=[.agg [.any,.any,.sl .cell,.any,.any,.any,.any,.any,.sl .str]]
abbrev q_r8rows (k r:Int) (L:List CD) (x y:Int) (hd:Bool) (mo:Int) (ti:ByteArray) (l:List ByteArray):QA:=([.agg [.int .i64 k,.int .i64 r,.vec .cell L,.int .i64 x,.int .i64 y,.bool hd,.int .u8 mo,.str ti,.vec .str l]],(0≤k∧k≤100)∧(0≤r∧r≤100)∧L.length=k.toNat*r.toNat,.ret (.vec (.rows .cell) (jak L k.toNat r.toNat)))
def sp_r8rows:=spQ (u9 q_r8rows)
theorem jm2:W9 (hA sp_r8rows) q_r8rows:=w9 (aA rfl)
theorem jto:Fre 80 sp_r8rows:=ofT (u9 q_r8rows) fun⟨k,r,L,x,y,hd,mo,ti,l⟩ hG=>tfi (.f [.sl .cell] jdE jic .nil) 0 jkN (by
 dsimp only[u9,q_r8rows]at hG ⊢
 have zc:=Hk.mk (qaa @jd0 (qaa @tq0 (qaa @tq1 (qaa @tq2 @List.set_set.{0}))))
 obtain⟨hk,hr,hL⟩:=hG
 obtain⟨k,rfl⟩:∃n:Nat,k=n:=⟨k.toNat,by omega⟩
 obtain⟨r,rfl⟩:∃n:Nat,r=n:=⟨r.toNat,by omega⟩
 simp only[Int.toNat_natCast]at hL ⊢
 have hkr:k*r≤10000:=qae (show k≤100 by omega) (show r≤100 by omega)
 repeat' first|refine tU ?_|refine qaa ?_ ?_|(refine tI ?_;intro hyp)|intro hyp0|exact tZ|omega
 refine T.loop (fun y':Nat=>⟨[(1,.ptr 0 0 0),(3,.slice 1 0 1 y' y'),(4,.int .i64 y')],[.box [.int .i64 k,.int .i64 r,.vec .cell L,.int .i64 x,.int .i64 y,.bool hd,.int .u8 mo,.str ti,.vec .str l],.seq (.rows .cell) (jak L k y')]⟩) (fun y'=>y'≤r) (fun y'=>r-y') 0 (by omega) (qab [0,1] [] rfl (by simp only[PB,SAM,seval,rdB,Hk.out zc];simp[jak])) (fun y' hy=>?_)
 have hrow:y'<r→(y'+1)*k≤L.length:=fun h=>by
  rw[hL,qak k r]
  exact qag k h
 have hml:(jak L k y').length=y':=jba _ _ _
 have hmf:y'<r→0≤(y':Int)*k∧(y':Int)*k≤1000000∧(y':Int)*k+k≤L.length:=fun h=>by
  have:=jch (hrow h)
  omega
 have hw:((y':Int)*k+k).toNat=y'*k+k:=by rw[←tq0,←Int.toNat_add_nat (Int.mul_nonneg (by omega) (by omega))]
 have hw3:qaf y' (jak L k y')=jak L k y':=qac (by omega)
 have hw2:qaf k (List.drop (y'*k) L)=jas L k y':=rfl
 have hrl:(jas L k y').length≤1000000:=by simp[jas];omega
 by_cases hyr:y'<r
 ·repeat' first|refine tU ?_|refine qaa ?_ ?_|(refine tI ?_;intro hyp)|intro hyp0|exact tZ|omega
  exact⟨y'+1,by omega,by omega,qab [0,3] [] rfl (by rw[jkQ];exact tF)⟩
 ·obtain rfl:y'=r:=by omega
  repeat' first|refine tU ?_|refine qaa ?_ ?_|(refine tI ?_;intro hyp)|intro hyp0|exact tZ|omega
  exact qab [1] [] rfl (by exact tF))
theorem jdQ {M:List (List CD)}{k r:Nat}(h:Rect M k r):M.flatten.length=r*k:=by
 rw[jeG M h.row,h.len]
abbrev joo:List AK:=[.sl (.rows .cell),.sl (.rows .cell)]
abbrev q_r8unlike (A B:List (List CD)):QA:=([.vec (.rows .cell) A,.vec (.rows .cell) B],∃k r,k≤100∧r≤100∧Rect A k r∧Rect B k r,.ret (.int .i64 (jbP A B A.flatten.length)))
def sp_r8unlike:=spQ (u2 q_r8unlike)
theorem jj1:W2 (hA sp_r8unlike) q_r8unlike:=w2 (aA rfl)
theorem jop:Al 154 sp_r8unlike:=ofA (u2 q_r8unlike) fun⟨A,B⟩ hG=>tfi .nil 0 jhJ (by
 dsimp only[u2,q_r8unlike]at hG ⊢
 have zc:=Hk.mk (qaa @tq0 (qaa @tq1 (qaa @tq2 @List.set_set.{0})))
 obtain⟨k,r,hk,hr,hA,hB⟩:=hG
 rw[jdQ hA]
 have hla:=hA.len
 have hlb:=hB.len
 repeat' first|refine tU ?_|refine qaa ?_ ?_|(refine tI ?_;intro hyp)|intro hyp0|exact tZ|omega
 refine T.loop (fun y:Nat=>⟨[(0,.vec (.rows .cell) A),(1,.vec (.rows .cell) B),(5,.int .i64 (jbP A B (y*k))),(9,.int .i64 r),(10,.int .i64 y)],[]⟩) (fun y=>y≤r) (fun y=>r-y) 0 (by omega) (qab [] [] rfl (by simp only[PB,SAM,seval,rdB,Hk.out zc];simp[jbP,cntF,hla])) (fun y hy=>?_)
 by_cases hyr:y<r
 ·have ha:=hA.at_ hyr
  have hb:=hB.at_ hyr
  have hyk:y*k≤10000:=qae (show y≤100 by omega) hk
  have hw:A.getD y []=mAt A y:=rfl
  have hw2:B.getD y []=mAt B y:=rfl
  repeat' first|refine tU ?_|refine qaa ?_ ?_|(refine tI ?_;intro hyp)|intro hyp0|exact tZ|omega
  refine T.loop (fun x:Nat=>⟨[(0,.vec (.rows .cell) A),(1,.vec (.rows .cell) B),(5,.int .i64 (jbP A B (y*k+x))),(6,.int .i64 y),(9,.int .i64 r),(10,.int .i64 y),(17,.int .i64 k),(18,.int .i64 x)],[]⟩) (fun x=>x≤k) (fun x=>k-x) 0 (by omega) (qab [] [] rfl (by simp only[PB,SAM,seval,rdB,Hk.out zc];simp[ha.1])) (fun x hx=>?_)
  have hcl:=jlv (cAt A.flatten) (cAt B.flatten) (y*k+x)
  have hcs:=jmq (cAt A.flatten) (cAt B.flatten) (y*k+x)
  by_cases hxk:x<k
  ·have e1:cAt A.flatten (y*k+x)=(mAt A y).getD x default:=by
    rw[jcV ((jd5 A hA.row y x (by omega) hxk).trans (ja6 (by omega)))]
   have e2:cAt B.flatten (y*k+x)=(mAt B y).getD x default:=by
    rw[jcV ((jd5 B hB.row y x (by omega) hxk).trans (ja6 (by omega)))]
   rw[e1,e2]at hcs
   have hul:jbP A B (y*k+x)≤y*k+x:=hcl
   unfold jdZ at hcs
   have hcs:jbP A B (y*k+(x+1))=jbP A B (y*k+x)+_:=hcs
   repeat' first|refine tU ?_|refine qaa ?_ ?_|(refine tI ?_;intro hyp)|intro hyp0|exact tZ|omega
   ·exact⟨x+1,by omega,by omega,qab [] [] rfl (by rw[hcs,if_neg (fun q=>hyp (of_decide_eq_true q))];exact tF)⟩
   ·exact⟨x+1,by omega,by omega,qab [] [] rfl (by rw[hcs,if_pos (decide_eq_true hyp)];exact tF)⟩
  ·obtain rfl:x=k:=by omega
   repeat' first|refine tU ?_|refine qaa ?_ ?_|(refine tI ?_;intro hyp)|intro hyp0|exact tZ|omega
   exact⟨y+1,by omega,by omega,qab [] [] rfl (by rw[Nat.succ_mul];exact tF)⟩
 ·obtain rfl:y=r:=by omega
  repeat' first|refine tU ?_|refine qab [] [] rfl ?_|refine qaa ?_ ?_|(refine tI ?_;intro hyp)|intro hyp0|exact tZ|omega)
theorem joq:Fre 154 sp_r8unlike:=ofF (u2 q_r8unlike) jop fun _=>rfl
abbrev jgI:List AK:=[.sl (.rows .cell),.any]
abbrev q_r8scrolled (A:List (List CD)) (m:Int):QA:=([.vec (.rows .cell) A,.int .i64 m],A.length≤1000∧(∀a∈A,a.length≤1000)∧(-1000≤m∧m≤1000),.ret (.vec (.rows .cell) (jaM A m)))
def sp_r8scrolled:=spQ (u2 q_r8scrolled)
theorem jek:W2 (hA sp_r8scrolled) q_r8scrolled:=w2 (aA rfl)
theorem jgJ:Al 79 sp_r8scrolled:=ofA (u2 q_r8scrolled) fun⟨A,m⟩ hG=>tfi (.f [.sl .cell] jdE jic (.f [.any,.any] jeD jks .nil)) 0 jdr (by
 dsimp only[u2,q_r8scrolled]at hG ⊢
 have zc:=Hk.mk (qaa @jd0 (qaa @jgp (qaa @tq0 (qaa @tq1 (qaa @tq2 @List.set_set.{0})))))
 obtain⟨hA,hr,hm⟩:=hG
 repeat' first|refine tU ?_|refine qaa ?_ ?_|(refine tI ?_;intro hyp)|intro hyp0|exact tZ|omega
 refine T.loop (fun y:Nat=>⟨[(0,.vec (.rows .cell) A),(1,.int .i64 m),(5,.slice 0 0 1 y y),(9,.int .i64 A.length),(10,.int .i64 y)],[.seq (.rows .cell) ((qah y).map (jg5 A m))]⟩) (fun y=>y≤A.length) (fun y=>A.length-y) 0 (by omega) (qab [0] [] rfl (by simp only[PB,SAM,seval,rdB,Hk.out zc];simp)) (fun y hy=>?_)
 have hml:((qah y).map (jg5 A m)).length=y:=by simp
 have hsn:=jaD (jg5 A m) y
 have hw3:qaf y ((qah y).map (jg5 A m))=(qah y).map (jg5 A m):=qac (by omega)
 by_cases hya:y<A.length
 ·have hay:=hr _ (List.mem_of_getElem? (jax (d:=[]) hya))
  by_cases hin:0≤(y:Int)+m∧(y:Int)+m<A.length
  ·have hs:jg5 A m y=A.getD ((y:Int)+m).toNat []:=if_pos hin
   have haz:=hr _ (List.mem_of_getElem? (jax (d:=[]) (show ((y:Int)+m).toNat<A.length by omega)))
   rw[hs]at hsn
   have hw4:jcv { fg:=0,bg:=0,attrs:=0,link:=0 }=blank0:=rfl
   repeat' first|refine tU ?_|refine qaa ?_ ?_|(refine tI ?_;intro hyp)|intro hyp0|exact tZ|omega
   exact⟨y+1,by omega,by omega,qab [2] [] rfl (by rw[hsn];exact tF)⟩
  ·have hs:jg5 A m y=List.replicate (A.getD y []).length blank0:=if_neg hin
   rw[hs]at hsn
   have hw4:jcv { fg:=0,bg:=0,attrs:=0,link:=0 }=blank0:=rfl
   repeat' first|refine tU ?_|refine qaa ?_ ?_|(refine tI ?_;intro hyp)|intro hyp0|exact tZ|omega
   exact⟨y+1,by omega,by omega,qab [2] [] rfl (by rw[hsn];exact tF)⟩
 ·obtain rfl:y=A.length:=by omega
  repeat' first|refine tU ?_|refine qab [] [0,1,2,3,4,5,6,7,8,9] rfl ?_|refine qaa ?_ ?_|(refine tI ?_;intro hyp)|intro hyp0|exact tZ|omega
  rfl)
theorem jtp (f:CD→CD){L:List CD}{i:Nat}(h:i<L.length):(half f L i).getD i default=L.getD i default:=by
 rw[List.getD_eq_getElem?_getD,jlt f (ja6 h)]
 rfl
abbrev jq1:List AK:=[.agg [.any,.any,.sl .cell,.any,.any,.any,.any,.any,.sl .str],.sl .str]
abbrev q_r8under (k r:Int) (L:List CD) (x y:Int) (hd:Bool) (mo:Int) (ti:ByteArray) (l links:List ByteArray):QA:=([.agg [.int .i64 k,.int .i64 r,.vec .cell L,.int .i64 x,.int .i64 y,.bool hd,.int .u8 mo,.str ti,.vec .str l],.vec .str links],((0≤k∧k≤100)∧(0≤r∧r≤100)∧L.length=k.toNat*r.toNat)∧ScrOk L l∧links.length≤60000,.ret (.vec (.rows .cell) ((jak L k.toNat r.toNat).map fun a=>a.map (ruf l links))))
def sp_r8under:=spQ (u10 q_r8under)
theorem jlS:W10 (hA sp_r8under) q_r8under:=w10 (aA rfl)
theorem jq2:Al 112 sp_r8under:=ofA (u10 q_r8under) fun⟨k,r,L,x,y,hd,mo,ti,l,links⟩ hG=>tfi (.t [.sl .cell] jdE jic (.f [.sl .str,.any] jfR jmJ (.f [.sl .str,.any] jfQ jmD .nil))) 0 jjH (by
 dsimp only[u10,q_r8under]at hG ⊢
 have zc:=Hk.mk (qaa @jd0 (qaa @jhE (qaa @jhC (qaa @tq0 (qaa @tq1 (qaa @tq2 @List.set_set.{0}))))))
 obtain⟨⟨hk,hr,hL⟩,hs,hlk⟩:=hG
 obtain⟨k,rfl⟩:∃n:Nat,k=n:=⟨k.toNat,by omega⟩
 obtain⟨r,rfl⟩:∃n:Nat,r=n:=⟨r.toNat,by omega⟩
 simp only[Int.toNat_natCast]at hL ⊢
 have hkr:k*r≤10000:=qae (show k≤100 by omega) (show r≤100 by omega)
 have hll:=hs.links
 have hsl:=hs.slen
 repeat' first|refine tU ?_|refine qaa ?_ ?_|(refine tI ?_;intro hyp)|intro hyp0|exact tZ|omega
 refine T.loop (fun y':Nat=>⟨[(1,.vec .str links),(2,.ptr 0 0 0),(5,.slice 1 0 1 y' y'),(6,.int .i64 y')],[.box [.int .i64 k,.int .i64 r,.vec .cell L,.int .i64 x,.int .i64 y,.bool hd,.int .u8 mo,.str ti,.vec .str l],.seq (.rows .cell) ((jak L k y').map fun a=>a.map (ruf l links))]⟩) (fun y'=>y'≤r) (fun y'=>r-y') 0 (by omega) (qab [0,1] [] rfl (by simp only[PB,SAM,seval,rdB,Hk.out zc];simp[jak])) (fun y' hy=>?_)
 have hml:((jak L k y').map fun a=>a.map (ruf l links)).length=y':=by rw[qai,jba]
 by_cases hyr:y'<r
 ·have hrow:(y'+1)*k≤L.length:=by
   rw[hL,qak k r]
   exact qag k hyr
  have hmf:0≤(y':Int)*k∧(y':Int)*k≤1000000∧(y':Int)*k+k≤L.length:=by
   have:=jch hrow
   omega
  have hw:((y':Int)*k+k).toNat=y'*k+k:=by rw[←tq0,←Int.toNat_add_nat (Int.mul_nonneg (by omega) (by omega))]
  have hw2:qaf k (List.drop (y'*k) L)=jas L k y':=rfl
  have hrl:(jas L k y').length=k:=jaQ hL hyr
  have hw3:qaf y' ((jak L k y').map fun a=>a.map (ruf l links))=(jak L k y').map fun a=>a.map (ruf l links):=qac (by omega)
  repeat' first|refine T.cut (a:=z94_12) (fun _:Unit=>⟨[(1,.vec .str links),(2,.ptr 0 0 0),(5,.slice 1 0 1 y' y'),(6,.int .i64 y'),(7,.vec .cell ((jas L k y').map (ruf l links)))],[.box [.int .i64 k,.int .i64 r,.vec .cell L,.int .i64 x,.int .i64 y,.bool hd,.int .u8 mo,.str ti,.vec .str l],.seq (.rows .cell) ((jak L k y').map fun a=>a.map (ruf l links))]⟩) (fun _=>True) ?_ (fun _ _=>?_)|refine tU ?_|refine qaa ?_ ?_|(refine tI ?_;intro hyp)|intro hyp0|exact tZ|omega
  ·refine T.loop (fun i:Nat=>⟨[(1,.vec .str links),(2,.ptr 0 0 0),(5,.slice 1 0 1 y' y'),(6,.int .i64 y'),(7,.slice 2 0 6 k k),(34,.int .i64 k),(35,.int .i64 i)],[.box [.int .i64 k,.int .i64 r,.vec .cell L,.int .i64 x,.int .i64 y,.bool hd,.int .u8 mo,.str ti,.vec .str l],.seq (.rows .cell) ((jak L k y').map fun a=>a.map (ruf l links)),.seq .cell (half (ruf l links) (jas L k y') i)]⟩) (fun i=>i≤k) (fun i=>k-i) 0 (by omega) (qab [0,1,2] [] rfl (by rw[jsg];exact tF)) (fun i hi=>?_)
   have hhl:=jls (ruf l links) (jas L k y') i
   by_cases hik:i<k
   ·have hir:i<(jas L k y').length:=by omega
    have hst:=jlu (ruf l links) (ja6 hir)
    have hw:=jtp (ruf l links) hir
    have hw2:∀a:CD,((half (ruf l links) (jas L k y') i).set i a).getD i default=a:=fun a=>jd9 (by omega)
    have hlk2:=hs.lk _ (jci (jaV hir))
    have hpl:=jbO links (jam l ((jas L k y').getD i default).link)
    have hw3:IntKind.u16.wrap (jal links (jam l ((jas L k y').getD i default).link)+1)=jal links (jam l ((jas L k y').getD i default).link)+1:=jnL (by omega)
    repeat' first|exact hsl|refine tU ?_|refine qaa ?_ ?_|(refine tI ?_;intro hyp)|intro hyp0|exact tZ|omega
    ·have hu:ruf l links ((jas L k y').getD i default)={ (jas L k y').getD i default with link:=jal links (jam l ((jas L k y').getD i default).link)+1 }:=by
      unfold ruf jo6
      rw[if_pos ⟨hyp.1,hyp.2⟩]
      rfl
     rw[hu]at hst
     exact⟨i+1,by omega,by omega,qab [0,1,2] [] rfl (by rw[←hst];exact tF)⟩
    ·have hu:ruf l links ((jas L k y').getD i default)={ (jas L k y').getD i default with link:=0 }:=by
      unfold ruf jo6
      rw[if_neg (fun q=>hyp.elim q.1 (fun w=>w q.2))]
      rfl
     rw[hu]at hst
     exact⟨i+1,by omega,by omega,qab [0,1,2] [] rfl (by rw[←hst];exact tF)⟩
   ·have hha:=jo7 (ruf l links) (jas L k y') i (by omega)
    have hlk3:((jas L k y').map (ruf l links)).length=k:=by rw[qai,hrl]
    have hw3:qaf k ((jas L k y').map (ruf l links))=(jas L k y').map (ruf l links):=qac (by omega)
    repeat' first|refine tU ?_|refine qaa ?_ ?_|(refine tI ?_;intro hyp)|intro hyp0|exact tZ|omega
    refine⟨(),qab [0,1] [2] rfl ?_⟩
    rw[hha]
    simp only[PB,SAM,seval,rdB,Hk.out zc,hw3,hlk3]
    exact⟨qaj _,qaj _,qaj _⟩
  ·exact⟨y'+1,by omega,by omega,qab [0,3] [] rfl (by rw[jkQ,List.map_append];exact tF)⟩
 ·obtain rfl:y'=r:=by omega
  have hw3:qaf y' ((jak L k y').map fun a=>a.map (ruf l links))=(jak L k y').map fun a=>a.map (ruf l links):=qac (by omega)
  repeat' first|refine tU ?_|refine qab [] [0,1,2,3,4,5,6,7,8,9] rfl ?_|refine qaa ?_ ?_|(refine tI ?_;intro hyp)|intro hyp0|exact tZ|omega)
theorem jvh {M:List (List CD)}{k r:Nat}(h:Rect M k r) (m:Int):(jaM M m).flatten.length=M.flatten.length:=by
 rw[jdQ (jdk h m),jdQ h]
abbrev jtq:List AK:=[.sl (.rows .cell),.sl (.rows .cell)]
abbrev q_r8best (A B:List (List CD)):QA:=([.vec (.rows .cell) A,.vec (.rows .cell) B],∃k r,k≤100∧(1≤r∧r≤100)∧Rect A k r∧Rect B k r,.ret (.int .i64 (jbC (fun m=>jbP (jaM A m) B A.flatten.length) (A.length-1)).1))
def sp_r8best:=spQ (u2 q_r8best)
theorem jm3:W2 (hA sp_r8best) q_r8best:=w2 (aA rfl)
theorem jtr:Al 113 sp_r8best:=ofA (u2 q_r8best) fun⟨A,B⟩ hG=>tfi (.a jgI jdr jgJ (.f joo jhJ joq .nil)) 0 jkO (by
 dsimp only[u2,q_r8best]at hG ⊢
 have zc:=Hk.mk (qaa @jek (qaa @jj1 (qaa @tq0 (qaa @tq1 (qaa @tq2 @List.set_set.{0})))))
 obtain⟨k,r,hk,hr,hA,hB⟩:=hG
 have hla:=hA.len
 obtain⟨d,hD⟩:∃d:Int→Nat,d=fun m=>jbP (jaM A m) B A.flatten.length:=⟨_,rfl⟩
 have hw:∀m:Int,jbP (jaM A m) B (jaM A m).flatten.length=d m:=fun m=>by rw[hD,jvh hA]
 have hw2:jbP A B A.flatten.length=d 0:=by rw[hD];simp only;rw[ji7]
 have hdl:∀m,d m≤10000:=fun m=>by
  rw[hD]
  refine Nat.le_trans (jlv _ _ _) ?_
  rw[jdQ hA]
  exact qae (show r≤100 by omega) hk
 have hrl:∀a∈A,a.length≤1000:=fun a ha=>by rw[hA.row a ha];omega
 have hbl:∀j,(refS d j).2≤10000:=fun j=>by
  induction j with
  | zero=>exact hdl 0
  | succ j ih =>
   simp only[refS,jbl]
   have:=hdl (jg6 (j+1))
   split<;>(try simp only)<;>omega
 repeat' first|exact⟨k,r,by omega,by omega,hA,hB⟩|refine tU ?_|refine qaa ?_ ?_|(refine tI ?_;intro hyp)|intro hyp0|exact tZ|omega
 refine T.loop (fun t:Nat=>⟨[(0,.vec (.rows .cell) A),(1,.vec (.rows .cell) B),(5,.int .i64 (refS d (t-1)).1),(6,.int .i64 (refS d (t-1)).2),(7,.int .i64 t)],[]⟩) (fun t=>1≤t∧t≤2*r-1) (fun t=>2*r-1-t) 1 (by omega) (qab [] [] rfl (by simp only[PB,SAM,seval,rdB,Hk.out zc];simp[refS])) (fun t ht=>?_)
 have hb1:=hbl (t-1)
 by_cases htr:t<2*r-1
 ·have hsn:refS d t=jbl d (refS d (t-1)) (jg6 t):=by
   obtain⟨z,rfl⟩:∃z,t=z+1:=⟨t-1,by omega⟩
   rfl
  by_cases hp:(t:Int) % 2=0
  ·have hn:jg6 t = -(((t:Int)+1) / 2):=by
    unfold jg6
    rw[if_pos (by omega)]
    omega
   rw[hn]at hsn
   repeat' first|exact hrl|exact⟨k,r,by omega,by omega,jdk hA _,hB⟩|refine tU ?_|refine qaa ?_ ?_|(refine tI ?_;intro hyp)|intro hyp0|exact tZ|omega
   ·exact⟨t+1,by omega,by omega,qab [] [] rfl (by rw[qad,hsn,(jbg d _ _).1 (by omega)];exact tF)⟩
   ·exact⟨t+1,by omega,by omega,qab [] [] rfl (by rw[qad,hsn,(jbg d _ _).2 (by omega)];exact tF)⟩
  ·have hn:jg6 t=((t:Int)+1) / 2:=by
    unfold jg6
    rw[if_neg (by omega)]
    omega
   rw[hn]at hsn
   repeat' first|exact hrl|exact⟨k,r,by omega,by omega,jdk hA _,hB⟩|refine tU ?_|refine qaa ?_ ?_|(refine tI ?_;intro hyp)|intro hyp0|exact tZ|omega
   ·exact⟨t+1,by omega,by omega,qab [] [] rfl (by rw[qad,hsn,(jbg d _ _).1 (by omega)];exact tF)⟩
   ·exact⟨t+1,by omega,by omega,qab [] [] rfl (by rw[qad,hsn,(jbg d _ _).2 (by omega)];exact tF)⟩
 ·obtain rfl:t=2*r-1:=by omega
  repeat' first|refine tU ?_|refine qab [] [] rfl ?_|refine qaa ?_ ?_|(refine tI ?_;intro hyp)|intro hyp0|exact tZ|omega
  rw[hla,←hD,show 2*r-1-1=2*(r-1) by omega,jmr])
theorem jts:Fre 113 sp_r8best:=ofF (u2 q_r8best) jtr fun _=>rfl
end
end
end Go.Proofs.YtienkkicehmchaaGreatDoor
