/- Texts of this claim, merged by a program of this claim: FRruns. -/
import Derived.Test.YtienkkicehmchaaGreatDoorDl19
import Derived.Test.YtienkkicehmchaaGreatDoorDl26
import Derived.Test.YtienkkicehmchaaGreatDoorDl39
import Derived.Test.YtienkkicehmchaaGreatDoorDl6
namespace Go.Proofs.YtienkkicehmchaaGreatDoor
open And renaming intro→qaa
open Cos renaming intro→qab
open List renaming append_nil→qac,length_take→qad,flatMap_nil→qae,take→qaf,drop→qag
noncomputable section
set_option linter.unusedVariables false
set_option linter.unusedSimpArgs false
section
open Go.RowKit
set_option maxRecDepth 100000
set_option maxHeartbeats 4000000
theorem jpA (M:List (List CD)) (y:Nat):M.getD y []=mAt M y:=rfl
def lets (W:List CD) (l:List Nat):List (Int×Int×CD):=l.map fun i:Nat=>((i:Int),(jaa W i:Int),cAt W i)
theorem jpB (W:List CD) (l:List Nat):(lets W l).length=l.length:=by simp[lets]
theorem jtt (W:List CD) (l:List Nat):qaf l.length (lets W l)=lets W l:=List.take_of_length_le (by rw[jpB];exact Nat.le_refl _)
theorem jm4 (W:List CD) (l:List Nat) (i:Nat):lets W (l++[i])=lets W l++[((i:Int),(jaa W i:Int),cAt W i)]:=by simp[lets]
theorem jjI {W:List CD}{l:List Nat}{i:Nat}{d:Int×Int×CD}(h:i<l.length):(lets W l).getD i d=(((l.getD i 0:Nat):Int),(jaa W (l.getD i 0):Int),cAt W (l.getD i 0)):=by
 rw[List.getD_eq_getElem?_getD,lets,List.getElem?_map,jax (d:=0) h]
 rfl
abbrev jtu:List AK:=[.sl (.rows .cell),.sl (.rows .cell)]
abbrev q_r8runs (A B:List (List CD)):QA:=([.vec (.rows .cell) A,.vec (.rows .cell) B],(∃k r,(1≤k∧k≤80)∧(1≤r∧r≤24)∧Rect A k r∧Rect B k r∧(∀y x,y<r→x<k→(cAt B.flatten (y*k+x)).wide=1→x+1<k))∧Whole B.flatten∧(∀q∈B.flatten,CWf q)∧(∀q∈B.flatten,0≤q.rune),.ret (.vec (.int .u8) (jbd A.flatten B.flatten)))
def sp_r8runs:=spQ (u2 q_r8runs)
theorem jm5:W2 (hA sp_r8runs) q_r8runs:=w2 (aA rfl)
theorem jtv:Fre 114 sp_r8runs:=ofT (u2 q_r8runs) fun⟨A,B⟩ hG=>tfi (.f [.sl .cell,.sl .cell] je4 jlp (.t [.sl (.int .i64)] je8 jlw .nil)) 0 jkP (by
 dsimp only[u2,q_r8runs]at hG ⊢
 have zc:=Hk.mk (qaa @jfG (qaa @jfM (qaa @tq0 (qaa @tq1 (qaa @tq2 (qaa @jpB (qaa @jtt @jpA)))))))
 obtain⟨⟨k,r,hk,hr,hA,hB,hfit⟩,hwh,hwf,hru⟩:=hG
 obtain⟨W,hW⟩:∃W,W=B.flatten:=⟨_,rfl⟩
 obtain⟨C,hC⟩:∃C,C=A.flatten:=⟨_,rfl⟩
 have hWl:W.length=r*k:=by rw[hW,jdQ hB]
 have hla:=hA.len
 have hlb:=hB.len
 have hkr:r*k≤1920:=Nat.mul_le_mul (show r≤24 by omega) (show k≤80 by omega)
 rw[←hW]at hwh hwf hru hfit ⊢
 rw[←hC]
 obtain⟨oth,hoth⟩:∃o,o=jav C W:=⟨_,rfl⟩
 have hcl:∀t,(col oth W t).length≤t:=jwW oth W
 obtain⟨l,hl⟩:∃l,l=col oth W W.length:=⟨_,rfl⟩
 have hlr:l=rem (jav C W) (jaa W) W.length 0:=by rw[hl,←hoth,jsn hwh]
 rw[jlR C W l hlr]
 have hll:l.length≤1920:=by have:=hcl W.length;rw[←hl]at this;omega
 repeat' first|refine T.cut (a:=z99_2) (fun _:Unit=>⟨[(5,.slice 0 0 8 l.length l.length)],[.seq (.pair (.int .i64) (.pair (.int .i64) .cell)) (lets W l)]⟩) (fun _=>True) (Held.out ?_) (fun _ _=>Held.out ?_)|refine tU ?_|refine qaa ?_ ?_|(refine tI ?_;intro hyp)|intro hyp0|exact tZ|omega
 ·refine⟨?_⟩
  repeat' first|refine tU ?_|refine qaa ?_ ?_|(refine tI ?_;intro hyp)|intro hyp0|exact tZ|omega
  refine T.loop (fun y:Nat=>⟨[(0,.vec (.rows .cell) A),(1,.vec (.rows .cell) B),(5,.slice 0 0 8 (col oth W (y*k)).length (col oth W (y*k)).length),(19,.int .i64 r),(20,.int .i64 y)],[.seq (.pair (.int .i64) (.pair (.int .i64) .cell)) (lets W (col oth W (y*k)))]⟩) (fun y=>y≤r) (fun y=>r-y) 0 (by omega) (qab [0] [] rfl (by simp only[PB,SAM,seval,rdB,Hk.out zc];simp[col,lets,hlb])) (fun y hy=>?_)
  by_cases hyr:y<r
  ·have ha:=hA.at_ hyr
   have hb:=hB.at_ hyr
   have hyk:y*k+k≤r*k:=by rw[←Nat.succ_mul];exact Nat.mul_le_mul_right k hyr
   have hbl:=hb.1
   have hw:=hbl
   have hal:=ha.1
   have hcy:=hcl (y*k)
   repeat' first|refine tU ?_|refine qaa ?_ ?_|(refine tI ?_;intro hyp)|intro hyp0|exact tZ|omega
   refine T.loop (fun x:Nat=>⟨[(0,.vec (.rows .cell) A),(1,.vec (.rows .cell) B),(5,.slice 0 0 8 (col oth W (y*k+x)).length (col oth W (y*k+x)).length),(6,.int .i64 y),(19,.int .i64 r),(20,.int .i64 y),(27,.int .i64 k),(28,.int .i64 x)],[.seq (.pair (.int .i64) (.pair (.int .i64) .cell)) (lets W (col oth W (y*k+x)))]⟩) (fun x=>x≤k) (fun x=>k-x) 0 (by omega) (qab [0] [] rfl (by exact tF)) (fun x hx=>?_)
   have hcx:=hcl (y*k+x)
   by_cases hxk:x<k
   ·have e2:(mAt B y).getD x default=cAt W (y*k+x):=by
     rw[hW,jcV ((jd5 B hB.row y x (by omega) hxk).trans (ja6 (by omega)))]
    have hw2:=e2
    have hw3:(y:Int)*k=((y*k:Nat):Int):=by simp
    have hlt:∀(v:Nat) (M:List CD),v≤2→(qaf v (qag x M)).length≤4611686018427387904:=fun v M h=>by rw[qad];omega
    have hsn:=juI oth W (y*k+x)
    have hf:=hfit y x hyr hxk
    have hot:∀v,jaa W (y*k+x)=v→x+v≤k→oth (y*k+x)=!decide (qaf v (qag x (mAt A y))=qaf v (qag x (mAt B y))):=fun v h1 h2=>by
     rw[hoth,jav,h1,hC,hW,jgu hA.row (by omega) h2,jgu hB.row (by omega) h2]
    by_cases h1:(cAt W (y*k+x)).wide=1
    ·have hx1:=hf h1
     have hwa:jaa W (y*k+x)=2:=if_pos h1
     have hot:=hot 2 hwa (by omega)
     repeat' first|exact hlt _ _ (by decide)|refine tU ?_|refine qaa ?_ ?_|(refine tI ?_;intro hyp)|intro hyp0|exact tZ|omega
     ·have hcp:colP oth W (y*k+x)=true:=by unfold colP;rw[decide_eq_true (by omega),hot,decide_eq_false hyp];rfl
      exact⟨x+1,by omega,by omega,qab [3] [] rfl (by rw[show y*k+(x+1)=y*k+x+1 from rfl,hsn,if_pos hcp,jm4,hwa,Int.natCast_add];exact tF)⟩
     ·have hcp:¬colP oth W (y*k+x)=true:=by unfold colP;rw[hot,decide_eq_true hyp];simp
      exact⟨x+1,by omega,by omega,qab [0] [] rfl (by rw[show y*k+(x+1)=y*k+x+1 from rfl,hsn,if_neg hcp,qac];exact tF)⟩
    ·have hwa:jaa W (y*k+x)=1:=if_neg h1
     have hot:=hot 1 hwa (by omega)
     repeat' first|exact hlt _ _ (by decide)|refine tU ?_|refine qaa ?_ ?_|(refine tI ?_;intro hyp)|intro hyp0|exact tZ|omega
     ·have hcp:colP oth W (y*k+x)=true:=by unfold colP;rw[decide_eq_true (by omega),hot,decide_eq_false hyp];rfl
      exact⟨x+1,by omega,by omega,qab [3] [] rfl (by rw[show y*k+(x+1)=y*k+x+1 from rfl,hsn,if_pos hcp,jm4,hwa,Int.natCast_add];exact tF)⟩
     ·have hcp:¬colP oth W (y*k+x)=true:=by unfold colP;rw[hot,decide_eq_true hyp];simp
      exact⟨x+1,by omega,by omega,qab [0] [] rfl (by rw[show y*k+(x+1)=y*k+x+1 from rfl,hsn,if_neg hcp,qac];exact tF)⟩
     ·have hcp:¬colP oth W (y*k+x)=true:=by unfold colP;rw[decide_eq_false (by omega)];simp
      exact⟨x+1,by omega,by omega,qab [0] [] rfl (by rw[show y*k+(x+1)=y*k+x+1 from rfl,hsn,if_neg hcp,qac];exact tF)⟩
   ·obtain rfl:x=k:=by omega
    repeat' first|refine tU ?_|refine qaa ?_ ?_|(refine tI ?_;intro hyp)|intro hyp0|exact tZ|omega
    exact⟨y+1,by omega,by omega,qab [0] [] rfl (by rw[Nat.succ_mul];exact tF)⟩
  ·obtain rfl:y=r:=by omega
   repeat' first|refine tU ?_|refine qaa ?_ ?_|(refine tI ?_;intro hyp)|intro hyp0|exact tZ|omega
   exact⟨(),qab [0] [] rfl (by rw[hl,hWl];exact tF)⟩
 refine⟨?_⟩
 have hbd:∀i,i<l.length→l.getD i 0<1920:=fun i h=>by
  have:=jsm (oth:=oth) (W:=W) (t:=W.length) (x:=l.getD i 0) (by rw[←hl];exact List.mem_of_getElem? (jax h))
  omega
 have hcw:∀i,CWf (cAt W i):=jvK hwf
 have hasc:Asc W l:=by rw[hlr];exact jxt
 have hrn:∀i,0≤(cAt W i).rune:=fun i=>by
  rcases Nat.lt_or_ge i W.length with h|h
  ·rw[jbe h]
   exact hru _ (jaV h)
  ·have:cAt W i=default:=by unfold cAt;rw[List.getD_eq_getElem?_getD,List.getElem?_eq_none h];rfl
   rw[this]
   decide
 repeat' first|refine tU ?_|refine qaa ?_ ?_|(refine tI ?_;intro hyp)|intro hyp0|exact tZ|omega
 ·have h0:l=[]:=List.eq_nil_of_length_eq_zero (by omega)
  rw[if_pos h0]
  exact qab [99] [] rfl (by simp only[PB,SAM,seval,rdB,Hk.out zc];first|done|simp[crs,crsL,jaE])
 have hne:=hyp
 refine T.loop (fun q:Nat×Nat×Nat×List Int=>⟨[(5,.slice 0 0 8 l.length l.length),(10,.slice 1 0 1 q.2.2.2.length q.2.2.2.length),(11,.int .i64 q.2.2.1),(12,.int .i64 q.2.1),(13,.int .i64 q.1)],[.seq (.pair (.int .i64) (.pair (.int .i64) .cell)) (lets W l),.seq (.int .u8) q.2.2.2]⟩) (fun q=>OutR W l q.1 q.2.1 q.2.2.1 q.2.2.2∧(q.1<l.length→q.2.1≤l.getD q.1 0)) (fun q=>l.length-q.1) (0,0,0,[]) ⟨⟨Nat.zero_le _,rfl,by simp⟩,fun _=>Nat.zero_le _⟩ (qab [0,1] [] rfl (by exact tF)) (fun⟨i,bh,nn,bs⟩ ⟨hout,hbh⟩=>?_)
 dsimp only at hout hbh ⊢
 have hle:=hout.le
 have hsm:=hout.small hwf (by omega) (fun u hu=>by
  obtain⟨z,hz⟩:=List.getElem?_of_mem hu
  have h1:=(List.getElem?_eq_some_iff.1 hz).1
  have:=hbd z h1
  rw[List.getD_eq_getElem?_getD,hz]at this
  simp only[Option.getD_some]at this
  omega)
 by_cases hil:i<l.length
 ·obtain⟨x,hx⟩:∃x,x=l.getD i 0:=⟨_,rfl⟩
  have hbx:=hbh hil
  rw[←hx]at hbx
  have hxb:x<1920:=by rw[hx];exact hbd i hil
  have hw:∀d,(lets W l).getD i d=((x:Int),(jaa W x:Int),cAt W x):=fun d=>by rw[jjI hil,←hx]
  repeat' first|refine T.cut (a:=z99_44) (fun q:Nat×Nat=>⟨[(5,.slice 0 0 8 l.length l.length),(10,.slice 1 0 1 bs.length bs.length),(11,.int .i64 nn),(12,.int .i64 bh),(13,.int .i64 i),(14,.int .i64 q.1)],[.seq (.pair (.int .i64) (.pair (.int .i64) .cell)) (lets W l),.seq (.int .u8) bs]⟩) (fun q=>InnR W (cAt W x).pen l i x q.1 q.2∧¬(q.1<l.length∧l.getD q.1 0=q.2∧(cAt W (l.getD q.1 0)).pen=(cAt W x).pen)) (Held.out ?_) (fun⟨k,e⟩ ⟨hin,hno⟩=>Held.out ?_)|refine tU ?_|refine qaa ?_ ?_|(refine tI ?_;intro hyp)|intro hyp0|exact tZ|omega
  ·refine⟨?_⟩
   repeat' first|refine tU ?_|refine qaa ?_ ?_|(refine tI ?_;intro hyp)|intro hyp0|exact tZ|omega
   refine T.loop (fun q:Nat×Nat=>⟨[(5,.slice 0 0 8 l.length l.length),(10,.slice 1 0 1 bs.length bs.length),(11,.int .i64 nn),(12,.int .i64 bh),(13,.int .i64 i),(14,.int .i64 q.1)],[.seq (.pair (.int .i64) (.pair (.int .i64) .cell)) (lets W l),.seq (.int .u8) bs]⟩) (fun q=>InnR W (cAt W x).pen l i x q.1 q.2) (fun q=>l.length-q.1) (i+1,x+jaa W x) (InnR.start hil hx) (qab [0,1] [] rfl (by exact tF)) (fun⟨k,e⟩ hin=>?_)
   dsimp only at hin ⊢
   have hlk:=hin.le
   have he:=hin.endd
   have hk1:=hbd (k-1) (by omega)
   have hwp:=jat W (l.getD (k-1) 0)
   have hw2:∀d,(lets W l).getD (k-1) d=(((l.getD (k-1) 0:Nat):Int),(jaa W (l.getD (k-1) 0):Int),cAt W (l.getD (k-1) 0)):=fun d=>jjI (by omega)
   by_cases hkl:k<l.length
   ·have hw3:∀d,(lets W l).getD k d=(((l.getD k 0:Nat):Int),(jaa W (l.getD k 0):Int),cAt W (l.getD k 0)):=fun d=>jjI hkl
    repeat' first|refine tU ?_|refine qaa ?_ ?_|(refine tI ?_;intro hyp)|intro hyp0|exact tZ|omega
    ·exact⟨(k+1,e+jaa W e),hin.go hkl (by omega) hyp,by simp only;omega,qab [0,1] [] rfl (by exact tF)⟩
    ·exact⟨(k,e),⟨hin,fun h=>hyp h.2.2⟩,qab [0,1] [] rfl (by exact tF)⟩
    ·exact⟨(k,e),⟨hin,fun h=>hyp (by have:=h.2.1;simp only at this;omega)⟩,qab [0,1] [] rfl (by exact tF)⟩
   ·repeat' first|refine tU ?_|refine qaa ?_ ?_|(refine tI ?_;intro hyp)|intro hyp0|exact tZ|omega
    exact⟨(k,e),⟨hin,fun h=>hkl h.1⟩,qab [0,1] [] rfl (by exact tF)⟩
  ·refine⟨?_⟩
   dsimp only at hin hno
   have hlk:=hin.le
   have he:=hin.endd
   have hk1:=hbd (k-1) (by omega)
   have hwp:=jat W (l.getD (k-1) 0)
   have hgo:=hout.go hil hx hin hno
   have hnx:k<l.length→e≤l.getD k 0:=fun h=>by
    have:=hasc (k-1) (by omega)
    rw[show k-1+1=k by omega]at this
    omega
   obtain⟨bs1,hbs1⟩:∃b,b=bs++jaq ([x-bh,k-i]++penN (cAt W x).pen):=⟨_,rfl⟩
   rw[←hbs1]at hgo
   have hv6:=jx8 (kk:=k-i) hbx (hcw x)
   have hw2:(k:Int)-i=((k-i:Nat):Int):=by omega
   have hw3:jau [(x:Int)-bh,((k-i:Nat):Int),(cAt W x).pen.fg,(cAt W x).pen.bg,(cAt W x).pen.attrs,(cAt W x).pen.link]=jaq ([x-bh,k-i]++penN (cAt W x).pen):=hv6
   have hc1:0≤(cAt W x).pen.fg∧(cAt W x).pen.fg<4294967296:=(hcw x).fg
   have hc2:0≤(cAt W x).pen.bg∧(cAt W x).pen.bg<4294967296:=(hcw x).bg
   have hc3:0≤(cAt W x).pen.attrs∧(cAt W x).pen.attrs<256:=(hcw x).attrs
   have hc4:0≤(cAt W x).pen.link∧(cAt W x).pen.link<65536:=(hcw x).link
   have hvl6:=jaI ([x-bh,k-i]++penN (cAt W x).pen) (jjh hwf (by omega) (by omega))
   have hl6:([x-bh,k-i]++penN (cAt W x).pen).length=6:=rfl
   rw[hl6]at hvl6
   obtain⟨ps,hps⟩:∃p,p=[x-bh,k-i]++penN (cAt W x).pen:=⟨_,rfl⟩
   rw[←hps]at hvl6 hbs1 hw3
   have hb1l:bs1.length≤130100:=by rw[hbs1,List.length_append];omega
   obtain⟨bs2,hbs2⟩:∃b,b=bs1++jbu W ((l.drop i).take (k-i)):=⟨_,rfl⟩
   rw[←hbs2]at hgo
   repeat' first|refine T.cut (a:=z99_53) (fun _:Unit=>⟨[(5,.slice 0 0 8 l.length l.length),(10,.slice 1 0 1 bs2.length bs2.length),(11,.int .i64 nn),(14,.int .i64 k)],[.seq (.pair (.int .i64) (.pair (.int .i64) .cell)) (lets W l),.seq (.int .u8) bs2]⟩) (fun _=>True) (Held.out ?_) (fun _ _=>Held.out ?_)|refine tU ?_|refine qaa ?_ ?_|(refine tI ?_;intro hyp)|intro hyp0|exact tZ|omega
   ·refine⟨?_⟩
    repeat' first|refine tU ?_|refine qaa ?_ ?_|(refine tI ?_;intro hyp)|intro hyp0|exact tZ|omega
    refine T.loop (fun j:Nat=>⟨[(5,.slice 0 0 8 l.length l.length),(10,.slice 1 0 1 (bs1++jbu W ((l.drop i).take (j-i))).length (bs1++jbu W ((l.drop i).take (j-i))).length),(11,.int .i64 nn),(14,.int .i64 k),(16,.int .i64 j)],[.seq (.pair (.int .i64) (.pair (.int .i64) .cell)) (lets W l),.seq (.int .u8) (bs1++jbu W ((l.drop i).take (j-i)))]⟩) (fun j=>i≤j∧j≤k) (fun j=>k-j) i ⟨Nat.le_refl _,by omega⟩ (qab [0,5] [] rfl (by rw[Nat.sub_self,List.take_zero];simp only[jbu,qae,qac,hbs1];exact tF)) (fun j ⟨hj1,hj2⟩=>?_)
    have hrl:=jdJ hwf ((l.drop i).take (j-i))
    rw[qad,List.length_drop]at hrl
    by_cases hjk:j<k
    ·have hw2:∀d,(lets W l).getD j d=(((l.getD j 0:Nat):Int),(jaa W (l.getD j 0):Int),cAt W (l.getD j 0)):=fun d=>jjI (by omega)
     have hrj:=hrn (l.getD j 0)
     have hrw:=(hcw (l.getD j 0)).rune
     have hw3:jau [(cAt W (l.getD j 0)).rune]=varN (cAt W (l.getD j 0)).rune.toNat:=by simp only[jao,jaU,qac]
     have h10:=jan (cAt W (l.getD j 0)).rune.toNat (by omega)
     have hts:(l.drop i).take (j+1-i)=(l.drop i).take (j-i)++[l.getD j 0]:=by
      rw[show j+1-i=(j-i)+1 by omega]
      refine jar ?_
      rw[List.getElem?_drop,show i+(j-i)=j by omega,jax (d:=0) (by omega)]
     have hrb:jbu W ((l.drop i).take (j-i)++[l.getD j 0])=jbu W ((l.drop i).take (j-i))++varN (cAt W (l.getD j 0)).rune.toNat:=by simp[jbu]
     repeat' first|refine tU ?_|refine qaa ?_ ?_|(refine tI ?_;intro hyp)|intro hyp0|exact tZ|omega
     exact⟨j+1,by omega,by omega,qab [0,4] [] rfl (by rw[hts,hrb];exact tF)⟩
    ·obtain rfl:j=k:=by omega
     rw[←hbs2]
     repeat' first|refine tU ?_|refine qaa ?_ ?_|(refine tI ?_;intro hyp)|intro hyp0|exact tZ|omega
     exact⟨(),qab [0,1] [] rfl (by exact tF)⟩
   refine⟨?_⟩
   have hw4:∀d,(lets W l).getD (k-1) d=(((l.getD (k-1) 0:Nat):Int),(jaa W (l.getD (k-1) 0):Int),cAt W (l.getD (k-1) 0)):=fun d=>jjI (by omega)
   repeat' first|refine tU ?_|refine qaa ?_ ?_|(refine tI ?_;intro hyp)|intro hyp0|exact tZ|omega
   exact⟨(k,e,nn+1,bs2),⟨hgo,hnx⟩,by simp only;omega,qab [0,1] [] rfl (by rw[he];exact tF)⟩
 ·obtain rfl:i=l.length:=by omega
  have e1:=hout.bytes
  have e2:=hout.num
  rw[List.drop_length,jfa]at e1 e2
  simp only[qac,Nat.add_zero]at e1 e2
  rw[if_neg (fun e=>hne (by rw[e];rfl)),←e1,←e2]
  have hw:jau [(nn:Int)]=varN nn:=by simp only[jau,List.flatMap_cons,qae,qac,Int.toNat_natCast]
  have h10:=jan nn (by omega)
  repeat' first|refine tU ?_|refine qaa ?_ ?_|(refine tI ?_;intro hyp)|intro hyp0|exact tZ|omega
  exact qab [6] [] rfl (by exact tF))
end
end
end Go.Proofs.YtienkkicehmchaaGreatDoor
