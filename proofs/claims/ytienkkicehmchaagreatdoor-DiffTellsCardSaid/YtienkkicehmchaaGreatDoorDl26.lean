/- Texts of this claim, merged by a program of this claim: FRun, ReadM, ApplyM, ThingM, RwM, KRows. -/
import Derived.Test.YtienkkicehmchaaGreatDoorDl15
import Derived.Test.YtienkkicehmchaaGreatDoorDl18
import Derived.Test.YtienkkicehmchaaGreatDoorDl22
import Derived.Test.YtienkkicehmchaaGreatDoorDl24
import Derived.Test.YtienkkicehmchaaGreatDoorDl25
import Derived.Test.YtienkkicehmchaaGreatDoorDl5
import Derived.Test.YtienkkicehmchaaGreatDoorDl6
import Derived.Test.YtienkkicehmchaaGreatDoorDl8
namespace Go.Proofs.YtienkkicehmchaaGreatDoor
open And renaming intro→qaa
open Cos renaming intro→qab
noncomputable section
set_option linter.unusedVariables false
set_option linter.unusedSimpArgs false
section
open Go.RowKit
set_option maxRecDepth 100000
set_option maxHeartbeats 4000000
abbrev q_wideF (i:Nat) (k r:Int) (L:List CD) (x y:Int) (hd:Bool) (mo:Int) (ti:ByteArray) (l:List ByteArray):QM:=(([.int .i64 i,.ptr 0 0 0],[.box [.int .i64 k,.int .i64 r,.vec .cell L,.int .i64 x,.int .i64 y,.bool hd,.int .u8 mo,.str ti,.vec .str l]]),i<L.length∧L.length≤60000,.ret (.int .i64 (jaa L i)),[.box [.int .i64 k,.int .i64 r,.vec .cell L,.int .i64 x,.int .i64 y,.bool hd,.int .u8 mo,.str ti,.vec .str l]])
def msp_wideF:=mspQ (u10 q_wideF)
theorem jhH:W10 (hM msp_wideF) q_wideF:=w10 (aM rfl)
theorem jpj:Mu 198 msp_wideF:=ofM (u10 q_wideF) fun⟨i,k,r,L,x,y,hd,mo,ti,l⟩ hG=>tfi .nil 1 jb8 (by
 dsimp only[u10,q_wideF]at hG ⊢
 obtain⟨hi,hl⟩:=hG
 have hwd:jaa L i=if (L.getD i default).wide=1 then 2 else 1:=by
  unfold jaa
  rw[jbe hi]
 repeat' first|refine tU ?_|refine qaa ?_ ?_|(refine tI ?_;intro hyp)|intro hyp0|exact tZ|omega
 ·exact qab [0] [] rfl (by rw[hwd,if_pos hyp];exact tF)
 ·exact qab [0] [] rfl (by rw[hwd,if_neg hyp];exact tF))
abbrev q_otherF (i:Nat) (C:List CD) (k r:Int) (L:List CD) (x y:Int) (hd:Bool) (mo:Int) (ti:ByteArray) (l:List ByteArray):QM:=(([.int .i64 i,.ptr 0 0 0,.ptr 1 0 0,.ptr 2 0 0],[.box [.vec .cell C],.box [.fn 198 [.ptr 2 0 0]],.box [.int .i64 k,.int .i64 r,.vec .cell L,.int .i64 x,.int .i64 y,.bool hd,.int .u8 mo,.str ti,.vec .str l]]),i+jaa L i≤L.length∧C.length=L.length∧L.length≤60000,.ret (.bool (jav C L i)),[.box [.vec .cell C],.box [.fn 198 [.ptr 2 0 0]],.box [.int .i64 k,.int .i64 r,.vec .cell L,.int .i64 x,.int .i64 y,.bool hd,.int .u8 mo,.str ti,.vec .str l]])
def msp_otherF:=mspQ (u11 q_otherF)
theorem jlK:W11 (hM msp_otherF) q_otherF:=w11 (aM rfl)
theorem jsZ:Mu 199 msp_otherF:=ofM (u11 q_otherF) fun⟨i,C,k,r,L,x,y,hd,mo,ti,l⟩ hG=>tfi (.m jb8 jpj (.f [.sl .cell,.sl .cell] ja5 jlq .nil)) 3 jdN (by
 dsimp only[u11,q_otherF]at hG ⊢
 have zc:=Hk.mk (qaa @jhH @jfH)
 obtain⟨hi,hC,hl⟩:=hG
 have hwp:=jat L i
 have hlen:∀X:List CD,(List.take (jaa L i) (List.drop i X)).length≤4611686018427387904:=fun X=>by
  rw[List.length_take]
  omega
 repeat' first|exact hlen _|refine tU ?_|refine qaa ?_ ?_|(refine tI ?_;intro hyp)|intro hyp0|exact tZ|omega
 exact qab [0,1,2] [] rfl (by simp only[jav];exact tF))
theorem jx8 {i bh kk:Nat}{q:CD}(hb:bh≤i) (hq:CWf q):jau [(i:Int)-bh,(kk:Int),q.fg,q.bg,q.attrs,q.link]=jaq ([i-bh,kk]++penN q.pen):=by
 rw[←jbw]
 have h1:=hq.fg
 have h2:=hq.bg
 have h3:=hq.attrs
 have h4:=hq.link
 congr 1
 simp only[penN,CD.pen,List.cons_append,List.nil_append,List.map_cons,List.map_nil,Int.ofNat_eq_natCast,List.cons.injEq,and_true]
 (repeat' apply qaa)<;>first|rfl|omega|trivial
abbrev ju2:List AK:=[.sl .cell,.agg [.any,.any,.sl .cell,.any,.any,.any,.any,.any,.sl .str]]
abbrev q_mruns (C:List CD) (k r:Int) (L:List CD) (x y:Int) (hd:Bool) (mo:Int) (ti:ByteArray) (l:List ByteArray):QA:=([.vec .cell C,.agg [.int .i64 k,.int .i64 r,.vec .cell L,.int .i64 x,.int .i64 y,.bool hd,.int .u8 mo,.str ti,.vec .str l]],C.length=L.length∧L.length≤1920∧(∀q∈L,CWf q)∧(∀q∈L,0≤q.rune)∧(∀i,i<L.length→i+jaa L i≤L.length),.ret (.vec (.int .u8) (jbd C L)))
def sp_mruns:=spQ (u10 q_mruns)
theorem jod:W10 (hA sp_mruns) q_mruns:=w10 (aA rfl)
theorem ju3:Fre 179 sp_mruns:=ofT (u10 q_mruns) fun⟨C,k,r,L,x,y,hd,mo,ti,l⟩ hG=>tfi (.m jb8 jpj (.m jdN jsZ (.t [.sl (.int .i64)] jdj jnZ (.t jo8 jcX jo9 (.t [.any] jcM jmt .nil))))) 0 jeT (by
 dsimp only[u10,q_mruns]at hG ⊢
 have zc:=Hk.mk (qaa @jhH (qaa @jlK (qaa @jha (qaa @jgr @jeH))))
 obtain⟨hC,hl,hwf,hru,hwd⟩:=hG
 obtain⟨oth,hoth⟩:∃o,o=jav C L:=⟨_,rfl⟩
 have heq:=jn5 C L
 rw[←hoth]at heq
 rw[heq]
 have hw5:∀i,jav C L i=oth i:=fun i=>by rw[hoth]
 repeat' first|refine tU ?_|refine qaa ?_ ?_|(refine tI ?_;intro hyp)|intro hyp0|exact tZ|omega
 refine T.loop (fun q:Nat×Nat×Nat×List Int=>⟨[(2,.ptr 0 0 0),(3,.ptr 1 0 0),(5,.slice 3 0 1 q.2.2.2.length q.2.2.2.length),(6,.int .i64 q.2.2.1),(7,.int .i64 q.2.1),(8,.ptr 2 0 0),(9,.fn 199 [.ptr 0 0 0,.ptr 2 0 0,.ptr 1 0 0]),(10,.int .i64 q.1)],[.box [.vec .cell C],.box [.int .i64 k,.int .i64 r,.vec .cell L,.int .i64 x,.int .i64 y,.bool hd,.int .u8 mo,.str ti,.vec .str l],.box [.fn 198 [.ptr 1 0 0]],.seq (.int .u8) q.2.2.2]⟩) (fun q=>Outn L oth q.1 q.2.1 q.2.2.1 q.2.2.2) (fun q=>L.length-q.1) (0,0,0,[]) ⟨⟨Nat.le_refl _,Nat.zero_le _⟩,rfl,by simp⟩ (qab [0,1,2,99] [] rfl (by simp only[PB,SAM,seval,rdB,Hk.out zc];first|done|simp[crs,crsL,jaE])) (fun⟨i,bh,nn,bs⟩ hout=>?_)
 dsimp only at hout ⊢
 have hle:=hout.le
 have hsm:=hout.small hwf (by omega)
 by_cases hil:i<L.length
 ·have hwi:=hwd i hil
  have hwp:=jat L i
  cases ho:oth i
  ·have hsk:=hout.skip hil ho hwi
   have hw:=ho
   repeat' first|refine tU ?_|refine qaa ?_ ?_|(refine tI ?_;intro hyp)|intro hyp0|exact tZ|omega
   exact⟨(i+jaa L i,bh,nn,bs),hsk,by simp only;omega,qab [0,1,2,3] [] rfl (by exact tF)⟩
  ·have hw:=ho
   have hcw:=hwf _ (jaV hil)
   have hcg:=jbe hil
   repeat' first|refine tU ?_|refine qaa ?_ ?_|(refine tI ?_;intro hyp)|intro hyp0|exact tZ|omega
   refine T.loop (fun q:Nat×Nat×List Int=>⟨[(2,.ptr 0 0 0),(3,.ptr 1 0 0),(5,.slice 3 0 1 bs.length bs.length),(6,.int .i64 nn),(7,.int .i64 bh),(8,.ptr 2 0 0),(9,.fn 199 [.ptr 0 0 0,.ptr 2 0 0,.ptr 1 0 0]),(10,.int .i64 q.1),(11,.ptr 4 0 0),(12,.int .i64 i),(13,.int .i64 q.2.1),(14,.slice 5 0 1 q.2.2.length q.2.2.length)],[.box [.vec .cell C],.box [.int .i64 k,.int .i64 r,.vec .cell L,.int .i64 x,.int .i64 y,.bool hd,.int .u8 mo,.str ti,.vec .str l],.box [.fn 198 [.ptr 1 0 0]],.seq (.int .u8) bs,.box [.int .u32 (L.getD i default).fg,.int .u32 (L.getD i default).bg,.int .u8 (L.getD i default).attrs,.int .u16 (L.getD i default).link],.seq (.int .u8) q.2.2]⟩) (fun q=>Inn L (cAt L i).pen oth i q.1 q.2.1 q.2.2) (fun q=>L.length-q.1) (i,0,[]) (Inn.start (by omega)) (qab [0,1,2,3,4,99] [] rfl (by simp only[PB,SAM,seval,rdB,Hk.out zc];simp[crs,crsL,jaE,CD.pen])) (fun⟨j,kk,rb⟩ hin=>?_)
   dsimp only at hin ⊢
   have hle2:=hin.le
   have hsm2:=hin.small hwf (by omega)
   have hend:¬(j<L.length∧oth j=true∧(cAt L j).pen=(cAt L i).pen)→i<j∧Outn L oth j j (nn+1) (bs++jaq ([i-bh,kk]++penN (cAt L i).pen)++rb):=fun h=>⟨hin.far hil ho h,hout.go hil ho hin h⟩
   have hv6:=jx8 (kk:=kk) hle.1 hcw
   have hvl6:=jcj [(i:Int)-bh,(kk:Int),(L.getD i default).fg,(L.getD i default).bg,(L.getD i default).attrs,(L.getD i default).link] (fun u hu=>by
    have h1:=hcw.fg
    have h2:=hcw.bg
    have h3:=hcw.attrs
    have h4:=hcw.link
    simp only[HB,ne_eq,reduceCtorEq]at hu
    omega)
   simp only[List.length_cons,List.length_nil]at hvl6
   have hcf:=hcw.fg
   have hcb:=hcw.bg
   have hca:=hcw.attrs
   have hclk:=hcw.link
   by_cases hjl:j<L.length
   ·have hwj:=hwd j hjl
    have hwpj:=jat L j
    have hrj:=hru _ (jaV hjl)
    have hrw:=(hwf _ (jaV hjl)).rune
    have hcj:=jbe hjl
    have hw2:IntKind.u64.wrap (L.getD j default).rune=(L.getD j default).rune:=jh3 (by omega)
    have h10:=jan (L.getD j default).rune.toNat (by omega)
    cases ho2:oth j
    ·have hw:=ho2
     have hE:=hend (by rw[ho2];simp)
     rw[hcg]at hE
     repeat' first|refine tU ?_|refine qaa ?_ ?_|(refine tI ?_;intro hyp)|intro hyp0|exact tZ|omega
     exact⟨(j,j,nn+1,_),hE.2,by simp only;have:=hE.1;omega,qab [0,1,2,9] [] rfl (by rw[hv6];exact tF)⟩
    ·have hw:=ho2
     repeat' first|refine tU ?_|refine qaa ?_ ?_|(refine tI ?_;intro hyp)|intro hyp0|exact tZ|omega
     ·have hgo:=hin.go hjl ho2 (by rw[hcj,hcg];exact hyp) hwj
      rw[hcj]at hgo
      exact⟨(j+jaa L j,kk+1,_),hgo,by simp only;omega,qab [0,1,2,3,4,7] [] rfl (by exact tF)⟩
     ·have hE:=hend (fun h=>hyp (by rw[←hcj,←hcg];exact h.2.2))
      rw[hcg]at hE
      exact⟨(j,j,nn+1,_),hE.2,by simp only;have:=hE.1;omega,qab [0,1,2,9] [] rfl (by rw[hv6];exact tF)⟩
   ·have hE:=hend (fun h=>hjl h.1)
    rw[hcg]at hE
    repeat' first|refine tU ?_|refine qaa ?_ ?_|(refine tI ?_;intro hyp)|intro hyp0|exact tZ|omega
    exact⟨(j,j,nn+1,_),hE.2,by simp only;have:=hE.1;omega,qab [0,1,2,9] [] rfl (by rw[hv6];exact tF)⟩
 ·obtain⟨e1,e2⟩:=hout.done (by omega)
  rw[←e1,←e2]
  have hw:jau [(nn:Int)]=varN nn:=by simp only[jau,List.flatMap_cons,List.flatMap_nil,List.append_nil,Int.toNat_natCast]
  have h10:=jan nn (by omega)
  repeat' first|refine tU ?_|refine qaa ?_ ?_|(refine tI ?_;intro hyp)|intro hyp0|exact tZ|omega
  ·rw[if_pos (show nn=0 by omega)]
   exact qab [99] [] rfl (by simp only[PB,SAM,seval,rdB,Hk.out zc];first|done|simp[crs,crsL,jaE])
  ·rw[if_neg (show ¬nn=0 by omega)]
   refine qab [6] [] rfl ?_
   exact tF)
end
section
def Bts (d:List Int):Prop:=∀x∈d,0≤x∧x<256
end
section
end
section
structure RS where
 k:Int
 r:Int
 L:List CD
 x:Int
 y:Int
 hd:Bool
 mo:Int
 ti:ByteArray
 l:List ByteArray
 more:List ByteArray
 a:Nat
end
section
def numN:Nat→Nat→List Int
 | 0,_=>[]
 | k+1,n=>numN k (n / 256)++[((n % 256:Nat):Int)]
theorem jbB:∀(k n:Nat),(numN k n).length=k
 | 0,n=>rfl
 | k+1,n=>by simp[numN,jbB k]
def cellN (c:CD):List Int:=numN 4 c.rune.toNat++(numN 2 c.fg.toNat++(numN 2 c.bg.toNat++[c.attrs]))
theorem jeV (c:CD):(cellN c).length=9:=by simp[cellN,jbB]
def rowN (L:List CD) (k y:Nat):List Int:=(y:Int)::(jas L k y).flatMap cellN
def difY (k:Nat) (L1 L2:List CD) (y:Nat):Bool:=!decide (jas L2 k y=jas L1 k y)
def ysN (k:Nat) (L1 L2:List CD) (y:Nat):List Nat:=(List.range y).filter (difY k L1 L2)
theorem jlL (k:Nat) (L1 L2:List CD) (y:Nat):ysN k L1 L2 (y+1)=ysN k L1 L2 y++if difY k L1 L2 y then [y] else []:=by
 unfold ysN
 rw[List.range_succ,List.filter_append]
 congr 1
 unfold List.filter
 cases difY k L1 L2 y<;>rfl
theorem joe (k:Nat) (L1 L2:List CD) (y:Nat):(ysN k L1 L2 y).length≤y:=by
 unfold ysN
 have:=List.length_filter_le (difY k L1 L2) (List.range y)
 rwa [List.length_range]at this
def rwsN (k:Nat) (L1 L2:List CD) (y:Nat):List Int:=(ysN k L1 L2 y).flatMap (rowN L2 k)
def jc8 (fl:Int) (hd:Bool) (t1 t2:ByteArray):Int:=fl+(if hd then 1 else 0)+(if jdp t2 t1 then 0 else 2)
def tit1 (t1 t2:ByteArray):List Int:=if jdp t2 t1 then [] else (t2.size:Int)::jab t2
def row1 (fl:Int) (k r:Nat) (L1:List CD) (t1:ByteArray) (L2:List CD) (x2 y2:Nat) (hd2:Bool) (t2:ByteArray):List Int :=
 [(k:Int),r,x2,y2,jc8 fl hd2 t1 t2]++(tit1 t1 t2++(((ysN k L1 L2 r).length:Int)::rwsN k L1 L2 r))
def jyz (k r:Nat) (L:List CD) (x y:Nat) (hd:Bool) (ti:ByteArray):List Int:=row1 4 k r (jah k r) ⟨#[]⟩ L x y hd ti
def jbx (k r:Int) (L:List CD) (x y:Int) (hd:Bool) (mo:Int) (ti:ByteArray) (l:List ByteArray):List Int :=
 if jaL k r L x y mo ti l then jyz k.toNat r.toNat L x.toNat y.toNat hd ti else []
def jct (k1 r1:Int) (L1:List CD) (x1 y1:Int) (hd1:Bool) (mo1:Int) (ti1:ByteArray) (l1:List ByteArray) (k2 r2:Int) (L2:List CD) (x2 y2:Int) (hd2:Bool) (mo2:Int) (ti2:ByteArray) (l2:List ByteArray):List Int :=
 if jaL k1 r1 L1 x1 y1 mo1 ti1 l1&&jaL k2 r2 L2 x2 y2 mo2 ti2 l2 then (if k1=k2∧r1=r2 then row1 0 k1.toNat r1.toNat L1 ti1 L2 x2.toNat y2.toNat hd2 ti2 else jbx k2 r2 L2 x2 y2 hd2 mo2 ti2 l2) else []
end
section
open Go.RowKit
set_option maxRecDepth 100000
def z82_1:LC:=.seq (.stm [0,1,12] [kM 7 1,sd 8 (.lt 7 (ki 1)),kM 9 8,.g 9 false [kM 10 1,sd 11 (.cmp .gtr 10 (ki 8))] 12 kt 11]) (.cond 12 (.seq (.stm [4] [kM 4 kn]) .ret) .skip)
def z82_10:LC:=.seq (.stm [0,5,6,18] [kM 17 6,sd 18 (.cmp .geq 17 (ki 0))]) (.cond 18 .skip (.exit 0))
def z82_14:LC:=.seq (.stm [0,5,6] [kM 21 5,kM 22 6,kM 23 0,sd 24 (.conv .u8 true 23),sd 25 (.ixS 1 21 22),sn (.store 1 25 24)]) (.stm [0,5,6] [kM 26 0,sd 27 (.ari .shr false 26 (.c (.int .u64 8))),kM 0 27])
def z82_12:LC:=.seq (.block 1 z82_14) (.stm [0,5,6] [kM 19 6,sd 20 (.sub 19 (ki 1)),kM 6 20])
def z82_8:LC:=.loop (.seq z82_10 z82_12)
def z82_6:LC:=.seq (.stm [0,5,6] [kM 15 1,sd 16 (.sub 15 (ki 1)),kM 6 16]) (.block 0 z82_8)
def z82_4:LC:=.seq (.stm [0,1,5] [kM 13 1,sd 14 (.mksl (.int .u8) 1 13 13),kM 5 14]) (.seq z82_6 (.seq (.stm [4] [kM 28 5,kM 4 28]) .ret))
def z82_0:LC:=.seq z82_1 z82_4
def z82:LC:=.seq (.stm [0,1] [kM 4 kn]) z82_0
theorem jkB:jad Tryz.prog eqs0 162 z82 [.t 4] 29=true:=by kernel_rfl
def z83_2:LC:=.cond 14 (.stm [2,3,4] [kM 15 2,sd 16 (.ari .or false 15 (k8 1)),kM 2 16]) .skip
def z83_1:LC:=.seq (.stm [2,3,4,14] [kF 13 4 5,kL 14 1 13]) z83_2
def z83_5:LC:=.cond 21 (.stm [2,3,4] [kM 22 2,sd 23 (.ari .or false 22 (k8 2)),kM 2 23]) .skip
def z83_4:LC:=.seq (.stm [2,3,4,21] [kF 17 4 7,kL 18 1 17,kF 19 3 7,kL 20 1 19,sd 21 (.cmp .neq 18 20)]) z83_5
def z83_9:LC:=.cond 40 (.reg [3,4,7] [kR 0 41 (.mov 7),kR 1 42 (.fa 4 7),kR 2 43 (.ld 1 42),kR 3 44 (.len true 43),kR 4 45 (.conv .u8 true 44),kR 7 48 (.fa 4 7),kR 8 49 (.ld 1 48),kR 5 46 (.bslice (.int .u8) [45]),⟨6,some 47,none,.app (.int .u8) 41 46,true,true⟩,⟨9,some 50,none,.app (.int .u8) 47 49,false,true⟩,kR 10 7 (.mov 50)]) .skip
def z83_8:LC:=.seq (.stm [3,4,7,40] [kM 38 2,sd 39 (.ari .and false 38 (k8 2)),sd 40 (.cmp .neq 39 (k8 0))]) z83_9
def z83_24:LC:=.seq (.stm [3,4,7,8,9,10,57,58,86] [kM 73 10,kF 74 3 2,kL 75 1 74,kM 76 9,kF 77 4 0,kL 78 1 77,sd 79 (.ari .mul false 76 78),kM 80 9,sd 81 (.add 80 (ki 1)),kF 82 4 0,kL 83 1 82,sd 84 (.ari .mul false 81 83),sd 85 (.sl false 6 75 (some 79) (some 84) none),sd 86 (.call 161 [73,85])]) (.cond 86 (.exit 1) .skip)
def z83_36:LC:=.seq (.stm [3,4,7,8,12,57,58,98,99,100] [sd 102 (.ixS 6 98 100),sd 103 (.load true 6 102),sd 12 (.zero [.int .i32 0,.int .u8 0,.int .u32 0,.int .u32 0,.int .u8 0,.int .u16 0]),sn (.store 6 12 103)]) (.reg [3,4,7,8,57,58,98,99,100] [kR 0 104 (.mov 7),kR 1 105 (.fa 12 0),kR 2 106 (.ld 1 105),kR 3 107 (.conv .u64 true 106),kR 6 110 (.fa 12 2),kR 7 111 (.fa 110 0),kR 8 112 (.ld 1 111),kR 9 113 (.conv .u64 false 112),kR 12 116 (.fa 12 2),kR 13 117 (.fa 116 1),kR 14 118 (.ld 1 117),kR 15 119 (.conv .u64 false 118),kR 18 122 (.fa 12 2),kR 19 123 (.fa 122 2),kR 20 124 (.ld 1 123),⟨4,some 108,none,.call 162 [107,(ki 4)],true,false⟩,⟨5,some 109,none,.app (.int .u8) 104 108,true,false⟩,⟨10,some 114,none,.call 162 [113,(ki 2)],true,false⟩,⟨11,some 115,none,.app (.int .u8) 109 114,true,false⟩,⟨16,some 120,none,.call 162 [119,(ki 2)],true,false⟩,⟨17,some 121,none,.app (.int .u8) 115 120,true,false⟩,kR 21 125 (.bslice (.int .u8) [124]),⟨22,some 126,none,.app (.int .u8) 121 125,false,true⟩,kR 23 7 (.mov 126)])
def z83_34:LC:=.seq (.block 3 z83_36) (.stm [3,4,7,8,57,58,98,99,100] [sd 127 (.add 100 (ki 1)),kM 100 127])
def z83_31:LC:=.seq (.stm [3,4,7,8,57,58,98,99,100,101] [sd 101 (.lt 100 99)]) (.seq (.cond 101 .skip (.exit 2)) z83_34)
def z83_30:LC:=.loop z83_31
def z83_28:LC:=.seq (.stm [3,4,7,8,57,58,98,99,100] [kM 98 10,sd 99 (.len false 98),kM 100 (ki 0)]) (.block 2 z83_30)
def z83_27:LC:=.seq (.stm [3,4,7,8,10,57,58] [kM 93 7,kM 94 9,sd 95 (.conv .u8 true 94),sd 96 (.bslice (.int .u8) [95]),sd 97 (.app (.int .u8) 93 96),kM 7 97]) z83_28
def z83_26:LC:=.seq (.stm [3,4,7,8,9,10,57,58] [kM 87 7,kM 88 8,sd 89 (.ixS 1 87 88),kL 90 1 89,sd 91 (.ari .add true 90 (k8 1)),sd 92 (.ixS 1 87 88),sn (.store 1 92 91)]) z83_27
def z83_22:LC:=.seq (.stm [3,4,7,8,9,10,57,58] [kF 61 4 2,kL 62 1 61,kM 63 9,kF 64 4 0,kL 65 1 64,sd 66 (.ari .mul false 63 65),kM 67 9,sd 68 (.add 67 (ki 1)),kF 69 4 0,kL 70 1 69,sd 71 (.ari .mul false 68 70),sd 72 (.sl false 6 62 (some 66) (some 71) none),kM 10 72]) (.seq z83_24 z83_26)
def z83_21:LC:=.seq (.stm [3,4,7,8,9,57,58] [kM 60 58,kM 9 60]) z83_22
def z83_19:LC:=.seq (.block 1 z83_21) (.stm [3,4,7,8,57,58] [sd 128 (.add 58 (ki 1)),kM 58 128])
def z83_16:LC:=.seq (.stm [3,4,7,8,57,58,59] [sd 59 (.lt 58 57)]) (.seq (.cond 59 .skip (.exit 0)) z83_19)
def z83_15:LC:=.loop z83_16
def z83_13:LC:=.seq (.stm [3,4,7,8,57,58] [kF 56 4 1,kL 57 1 56,kM 58 (ki 0)]) (.block 0 z83_15)
def z83_11:LC:=.seq (.stm [3,4,7,8] [kM 53 7,sd 54 (.bslice (.int .u8) [(k8 0)]),sd 55 (.app (.int .u8) 53 54),kM 7 55]) (.seq z83_13 (.seq (.stm [6] [kM 129 7,kM 6 129]) .ret))
def z83_10:LC:=.seq (.stm [3,4,7,8] [kM 51 7,sd 52 (.len false 51),kM 8 52]) z83_11
def z83_6:LC:=.seq (.stm [2,3,4,7] [kF 24 4 0,kL 25 1 24,sd 26 (.conv .u8 true 25),kF 27 4 1,kL 28 1 27,sd 29 (.conv .u8 true 28),kF 30 4 3,kL 31 1 30,sd 32 (.conv .u8 true 31),kF 33 4 4,kL 34 1 33,sd 35 (.conv .u8 true 34),kM 36 2,sd 37 (.bslice (.int .u8) [26,29,32,35,36]),kM 7 37]) (.seq z83_8 z83_10)
def z83_0:LC:=.seq z83_1 (.seq z83_4 z83_6)
def z83:LC:=.seq (.stm [2,3,4] [sd 3 (.box 0),sd 4 (.box 1),kM 6 kn]) z83_0
theorem jhc:jad Tryz.prog eqs0 135 z83 [.t 6] 130=true:=by kernel_rfl
def z84_7:LC:=.seq (.stm [4,5] [sd 28 (.load true 9 3),sd 29 (.call 100 [28]),sd 30 (.ext 29 0),sd 31 (.ext 29 1),kM 4 30,kM 5 31]) .ret
def z84_5:LC:=.seq (.stm [2,3,15] [kF 16 2 0,kL 17 1 16,kF 18 3 0,kL 19 1 18,sd 20 (.cmp .neq 17 19),kM 21 20,.g 21 false [kF 22 2 1,kL 23 1 22,kF 24 3 1,kL 25 1 24,sd 26 (.cmp .neq 23 25)] 27 kt 26,kM 15 27]) (.cond 15 z84_7 .skip)
def z84_3:LC:=.cond 6 (.seq (.stm [4,5] [kM 4 kn,kM 5 (ki 1)]) .ret) z84_5
def z84_2:LC:=.seq (.stm [2,3,6] [sd 7 (.load true 9 2),sd 8 (.call 98 [7]),sd 9 (.un .not 8),kM 10 9,.g 10 false [sd 11 (.load true 9 3),sd 12 (.call 98 [11]),sd 13 (.un .not 12)] 14 kt 13,kM 6 14]) z84_3
def z84_8:LC:=.seq (.stm [4,5] [sd 32 (.load true 9 2),sd 33 (.load true 9 3),sd 34 (.call 135 [32,33,(k8 0)]),kM 4 34,kM 5 (ki 0)]) .ret
def z84_0:LC:=.seq (.block 0 z84_2) z84_8
def z84:LC:=.seq (.stm [2,3] [sd 2 (.box 0),sd 3 (.box 1),kM 4 kn,kM 5 (ki 0)]) z84_0
theorem jgF:jad Tryz.prog eqs0 99 z84 [.t 4,.t 5] 35=true:=by kernel_rfl
def z85_2:LC:=.cond 8 (.seq (.stm [2,3] [kM 2 kn,kM 3 (ki 1)]) .ret) .skip
def z85_1:LC:=.seq (.stm [1,8] [sd 6 (.load true 9 1),sd 7 (.call 98 [6]),sd 8 (.un .not 7)]) z85_2
def z85_5:LC:=.seq (.stm [2,3] [sd 17 (.load true 9 4),sd 18 (.load true 9 1),sd 19 (.call 135 [17,18,(k8 4)]),kM 2 19,kM 3 (ki 0)]) .ret
def z85_4:LC:=.seq (.stm [1,4] [kF 10 1 0,kL 11 1 10,kF 12 1 1,kL 13 1 12,sd 14 (.call 136 [11,13]),kM 9 14,sd 15 (.ext 9 0),sd 16 (.ext 9 1),sd 4 (.zero [.int .i64 0,.int .i64 0,.nils,.int .i64 0,.int .i64 0,.bool false,.int .u8 0,.str (bs []),.nils]),sn (.store 9 4 15),kM 5 16]) z85_5
def z85_0:LC:=.seq z85_1 z85_4
def z85:LC:=.seq (.stm [1] [sd 1 (.box 0),kM 2 kn,kM 3 (ki 0)]) z85_0
theorem jfU:jad Tryz.prog eqs0 100 z85 [.t 2,.t 3] 20=true:=by kernel_rfl
end
end
end Go.Proofs.YtienkkicehmchaaGreatDoor
