/- Texts of this claim, merged by a program of this claim: FRnL. -/
import Derived.Test.YtienkkicehmchaaGreatDoorDl17
import Derived.Test.YtienkkicehmchaaGreatDoorDl19
import Derived.Test.YtienkkicehmchaaGreatDoorDl23
import Derived.Test.YtienkkicehmchaaGreatDoorDl28
import Derived.Test.YtienkkicehmchaaGreatDoorDl29
import Derived.Test.YtienkkicehmchaaGreatDoorDl34
import Derived.Test.YtienkkicehmchaaGreatDoorDl35
import Derived.Test.YtienkkicehmchaaGreatDoorDl6
namespace Go.Proofs.YtienkkicehmchaaGreatDoor
open And renaming intro→qaa
open Cos renaming intro→qab
noncomputable section
set_option linter.unusedVariables false
set_option linter.unusedSimpArgs false
section
open Go.RowKit
set_option maxRecDepth 100000
set_option maxHeartbeats 4000000
abbrev jth:List AK:=[.any,.sl (.int .i64)]
abbrev q_nput (b:Int) (L:List Int):QA:=([.int .u8 b,.vec (.int .i64) L],(0≤b∧b<256)∧(∀x∈L,0≤x∧x<9223372036854775808)∧L.length≤100000,.ret (.vec (.int .u8) (b::jau L)))
def sp_nput:=spQ (u2 q_nput)
theorem jkK:W2 (hA sp_nput) q_nput:=w2 (aA rfl)
theorem jti:Fre 145 sp_nput:=ofT (u2 q_nput) fun⟨b,L⟩ hG=>tfi (.t [.any] jcM jmt .nil) 0 jhf (by
 dsimp only[u2,q_nput]at hG ⊢
 have zc:=Hk.mk (@jeH)
 obtain⟨hb,hL,hl⟩:=hG
 repeat' first|refine tU ?_|refine qaa ?_ ?_|(refine tI ?_;intro hyp)|intro hyp0|exact tZ|omega
 refine T.loop (fun k:Nat=>⟨[(5,.slice 0 0 1 (b::jau (L.take k)).length (b::jau (L.take k)).length),(10,.vec (.int .i64) L),(11,.int .i64 L.length),(12,.int .i64 k)],[.seq (.int .u8) (b::jau (L.take k))]⟩) (fun k=>k≤L.length) (fun k=>L.length-k) 0 (by omega) (qab [0] [] rfl (by simp only[PB,SAM,seval,rdB,Hk.out zc];simp[jau])) (fun k hk=>?_)
 have hvl:=jcj (L.take k) fun x hx=>by have:=hL x (List.mem_of_mem_take hx);omega
 rw[List.length_take]at hvl
 by_cases hkl:k<L.length
 ·have hx:=hL _ (List.mem_of_getElem? (jax (d:=0) hkl))
  have h10:=jan (L.getD k 0).toNat (by omega)
  have hw:IntKind.u64.wrap (L.getD k 0)=L.getD k 0:=jh3 (by omega)
  have hsn:=jdH hkl
  repeat' first|refine tU ?_|refine qaa ?_ ?_|(refine tI ?_;intro hyp)|intro hyp0|exact tZ|omega
  refine⟨k+1,by omega,by omega,qab [2] [] rfl ?_⟩
  rw[hsn]
  exact tF
 ·have e:L.take k=L:=List.take_of_length_le (by omega)
  rw[e]
  repeat' first|refine tU ?_|refine qaa ?_ ?_|(refine tI ?_;intro hyp)|intro hyp0|exact tZ|omega
  exact qab [0] [] rfl (by exact tF))
theorem jyb {i bh kk:Nat}{q:CD}(hb:bh≤i) (hq:CWf q):jau [(i:Int)-bh,(kk:Int),q.fg,q.bg,q.attrs]=jaq ([i-bh,kk]++pen3 q.pen):=by
 rw[←jbw]
 have h1:=hq.fg
 have h2:=hq.bg
 have h3:=hq.attrs
 congr 1
 simp only[pen3,CD.pen,List.cons_append,List.nil_append,List.map_cons,List.map_nil,Int.ofNat_eq_natCast,List.cons.injEq,and_true]
 (repeat' apply qaa)<;>first|rfl|omega|trivial
abbrev q_nruns (C W:List CD):QA:=([.vec .cell C,.vec .cell W],C.length=W.length∧All2 W∧(∀c∈C,CWf c),.ret (.tup [.int .i64 (jfV C W).2,.vec (.int .u8) (jfV C W).1]))
def sp_nruns:=spQ (u2 q_nruns)
theorem jon:W2 (hA sp_nruns) q_nruns:=w2 (aA rfl)
theorem jvf:Fre 167 sp_nruns:=ofT (u2 q_nruns) fun⟨C,W⟩ hG=>tfi (.t [.any] jcM jmt .nil) 0 jft (by
 dsimp only[u2,q_nruns]at hG ⊢
 have zc:=Hk.mk (@jeH)
 obtain⟨hC,hT,hwC⟩:=hG
 have hsm:=hT.small
 have hwf:∀q∈W,CWf q:=fun q hq=>(hT.cell q hq).wf
 obtain⟨oth,hoth⟩:∃o,o=jav C W:=⟨_,rfl⟩
 have heq:=jpw C W
 rw[←hoth]at heq
 rw[heq]
 have ho1:=fun i hi=>jtg hT hC (i:=i) hi
 rw[←hoth]at ho1
 repeat' first|refine tU ?_|refine qaa ?_ ?_|(refine tI ?_;intro hyp)|intro hyp0|exact tZ|omega
 refine T.loop (fun q:Nat×Nat×Nat×List Int=>⟨[(0,.vec .cell C),(1,.vec .cell W),(6,.slice 0 0 1 q.2.2.2.length q.2.2.2.length),(7,.int .i64 q.2.2.1),(8,.int .i64 q.2.1),(9,.int .i64 q.1)],[.seq (.int .u8) q.2.2.2]⟩) (fun q=>Out3 W oth q.1 q.2.1 q.2.2.1 q.2.2.2) (fun q=>W.length-q.1) (0,0,0,[]) ⟨⟨Nat.le_refl _,Nat.zero_le _⟩,rfl,by simp⟩ (qab [99] [] rfl (by simp only[PB,SAM,seval,rdB,Hk.out zc];first|done|simp[crs,crsL,jaE])) (fun⟨i,bh,nn,bs⟩ hout=>?_)
 dsimp only at hout ⊢
 have hle:=hout.le
 have hsm2:=hout.small hT
 by_cases hil:i<W.length
 ·have ho:=ho1 i hil
  have hone:=hT.one hil
  by_cases he:C.getD i default=W.getD i default
  ·have hsk:=hout.skip hil (by rw[ho,decide_eq_true he];rfl) (by omega)
   rw[hone]at hsk
   have hw:=eq_true he
   repeat' first|refine tU ?_|refine qaa ?_ ?_|(refine tI ?_;intro hyp)|intro hyp0|exact tZ|omega
   exact⟨(i+1,bh,nn,bs),hsk,by simp only;omega,qab [0] [] rfl (by exact tF)⟩
  ·have hw:=eq_false he
   have hcw:=hwf _ (jaV hil)
   have hcg:=jbe hil
   have hoi:oth i=true:=by rw[ho,decide_eq_false he];rfl
   have hin0:=(Inn.start (W:=W) (p:=(cAt W i).pen) (oth:=oth) (i:=i) (by omega)).go hil hoi rfl (by omega)
   rw[hone]at hin0
   have hr1:runB W i 1=[]++varN (cAt W i).rune.toNat:=by rw[show 1=0+1 from rfl,jeX];rfl
   repeat' first|refine T.cut (a:=z104_16) (fun j:Nat=>⟨[(0,.vec .cell C),(1,.vec .cell W),(6,.slice 0 0 1 bs.length bs.length),(7,.int .i64 nn),(8,.int .i64 bh),(9,.int .i64 i),(10,.int .i64 j)],[.seq (.int .u8) bs]⟩) (fun j=>(i<j∧j≤W.length)∧Out3 W oth j j (nn+1) (bs++jaq ([i-bh,j-i]++pen3 (cAt W i).pen)++runB W i (j-i))) (Held.out ?_) (fun j hj=>Held.out ?_)|refine tU ?_|refine qaa ?_ ?_|(refine tI ?_;intro hyp)|intro hyp0|exact tZ|omega
   ·refine⟨?_⟩
    repeat' first|refine tU ?_|refine qaa ?_ ?_|(refine tI ?_;intro hyp)|intro hyp0|exact tZ|omega
    refine T.loop (fun j:Nat=>⟨[(0,.vec .cell C),(1,.vec .cell W),(6,.slice 0 0 1 bs.length bs.length),(7,.int .i64 nn),(8,.int .i64 bh),(9,.int .i64 i),(10,.int .i64 j)],[.seq (.int .u8) bs]⟩) (fun j=>i+1≤j∧Inn W (cAt W i).pen oth i j (j-i) (runB W i (j-i))) (fun j=>W.length-j) (i+1) ⟨Nat.le_refl _,by rw[show i+1-i=1 by omega,hr1];exact hin0⟩ (qab [0] [] rfl (by exact tF)) (fun j ⟨hij,hin⟩=>?_)
    have hlj:=hin.le
    have hend:¬(j<W.length∧oth j=true∧(cAt W j).pen=(cAt W i).pen)→Out3 W oth j j (nn+1) (bs++jaq ([i-bh,j-i]++pen3 (cAt W i).pen)++runB W i (j-i)):=fun h=>hout.go hil hoi hin h
    have hgo:j<W.length→oth j=true→(cAt W j).pen=(cAt W i).pen→Inn W (cAt W i).pen oth i (j+1) (j+1-i) (runB W i (j+1-i)):=fun h1 h2 h3=>by
     have:=hin.go h1 h2 h3 (by rw[hT.one h1];omega)
     rw[hT.one h1]at this
     rw[show j+1-i=j-i+1 by omega,jeX,show i+(j-i)=j by omega]
     exact this
    by_cases hjy:j<W.length∧oth j=true∧(cAt W j).pen=(cAt W i).pen
    ·obtain⟨g1,g2,g3⟩:=hjy
     have hj1:=ho1 j g1
     rw[g2]at hj1
     have hne:¬C.getD j default=W.getD j default:=by simpa using hj1.symm
     rw[jbe g1,hcg]at g3
     have hw:=qaa (eq_false hne) (eq_true g3)
     repeat' first|refine tU ?_|refine qaa ?_ ?_|(refine tI ?_;intro hyp)|intro hyp0|exact tZ|omega
     exact⟨j+1,⟨by omega,hgo g1 g2 (by rw[jbe g1,hcg];exact g3)⟩,by omega,qab [0] [] rfl (by exact tF)⟩
    ·have hE:=hend hjy
     clear hend hgo
     have hq:j<W.length→¬C.getD j default=W.getD j default→¬(W.getD j default).pen=(W.getD i default).pen:=fun g1 g2 g3=>hjy ⟨g1,by rw[ho1 j g1,decide_eq_false g2];rfl,by rw[jbe g1,hcg];exact g3⟩
     repeat' first|refine tU ?_|refine qaa ?_ ?_|(refine tI ?_;intro hyp)|intro hyp0|exact tZ|omega
     all_goals first
      | exact⟨j,⟨⟨by omega,by omega⟩,hE⟩,qab [0] [] rfl (by exact tF)⟩
      | exact absurd ‹_› (hq (by omega) ‹_›)
   ·refine⟨?_⟩
    obtain⟨⟨hij,hjl⟩,hE⟩:=hj
    have hv5:=jyb (kk:=j-i) hle.1 hcw
    have c1:=hcw.fg
    have c2:=hcw.bg
    have c3:=hcw.attrs
    obtain⟨P,hP⟩:∃P,P=(W.getD i default).pen:=⟨_,rfl⟩
    obtain⟨K5,hK5⟩:∃K,K=[(i:Int)-bh,(j:Int)-i,P.fg,P.bg,P.attrs]:=⟨_,rfl⟩
    have hKl:K5.length=5:=by rw[hK5];rfl
    have hKv:jau K5=jaq ([i-bh,j-i]++pen3 (cAt W i).pen):=by
     rw[hcg,←hv5,hK5,hP,Int.ofNat_sub (by omega)]
     rfl
    rw[←hKv]at hE
    have p1:0≤P.fg∧P.fg<4294967296:=by rw[hP];exact c1
    have p2:0≤P.bg∧P.bg<4294967296:=by rw[hP];exact c2
    have p3:0≤P.attrs∧P.attrs<256:=by rw[hP];exact c3
    have hKb:∀x∈K5,0≤x∧x<9223372036854775808:=fun x hx=>by
     rw[hK5]at hx
     simp only[List.mem_cons,List.not_mem_nil,or_false]at hx
     omega
    have hw:=hP.symm
    have hvl:=jcj
    repeat' first|refine tU ?_|refine qaa ?_ ?_|(refine tI ?_;intro hyp)|intro hyp0|exact tZ|omega
    rw[←hK5]
    refine T.loop (fun k:Nat=>⟨[(0,.vec .cell C),(1,.vec .cell W),(6,.slice 0 0 1 (bs++jau (K5.take k)).length (bs++jau (K5.take k)).length),(7,.int .i64 nn),(9,.int .i64 i),(10,.int .i64 j),(83,.slice 1 0 1 5 5),(84,.int .i64 5),(85,.int .i64 k)],[.seq (.int .u8) (bs++jau (K5.take k)),.seq (.int .i64) K5]⟩) (fun k=>k≤5) (fun k=>5-k) 0 (by omega) (qab [0,2] [] rfl (by simp only[List.take_zero,show jau []=[]from rfl,List.append_nil];exact tF)) (fun k hk=>?_)
    have hvk:=jcj (K5.take k) fun x hx=>by have:=hKb x (List.mem_of_mem_take hx);omega
    rw[List.length_take]at hvk
    by_cases hk5:k<5
    ·have hx:=hKb _ (List.mem_of_getElem? (jax (d:=0) (show k<K5.length by omega)))
     have h10:=jan (K5.getD k 0).toNat (by omega)
     have hw:IntKind.u64.wrap (K5.getD k 0)=K5.getD k 0:=jh3 (by omega)
     have hsn:=jdH (show k<K5.length by omega)
     repeat' first|refine tU ?_|refine qaa ?_ ?_|(refine tI ?_;intro hyp)|intro hyp0|exact tZ|omega
     exact⟨k+1,by omega,by omega,qab [3,1] [] rfl (by rw[hsn];exact tF)⟩
    ·have e5:K5.take k=K5:=List.take_of_length_le (by omega)
     rw[e5]at hvk ⊢
     obtain⟨u,hu⟩:∃u,u=bs++jau K5:=⟨_,rfl⟩
     have hul:u.length≤34000:=by rw[hu,List.length_append];omega
     rw[←hu]at hE ⊢
     obtain⟨S,hS⟩:∃S,S=List.take (j-i) (List.drop i W):=⟨_,rfl⟩
     have hSl:S.length=j-i:=by rw[hS,List.length_take,List.length_drop];omega
     have hw:=hS.symm
     have hEs:=hE.small hT
     rw[List.length_append]at hEs
     repeat' first|refine tU ?_|refine qaa ?_ ?_|(refine tI ?_;intro hyp)|intro hyp0|exact tZ|omega
     refine T.loop (fun k:Nat=>⟨[(0,.vec .cell C),(1,.vec .cell W),(6,.slice 0 0 1 (u++runB W i k).length (u++runB W i k).length),(7,.int .i64 nn),(10,.int .i64 j),(98,.vec .cell S),(99,.int .i64 S.length),(100,.int .i64 k)],[.seq (.int .u8) (u++runB W i k)]⟩) (fun k=>k≤S.length) (fun k=>S.length-k) 0 (by omega) (qab [0] [] rfl (by simp only[show runB W i 0=[]from rfl,List.append_nil];exact tF)) (fun k hk=>?_)
     have hrk:(runB W i k).length≤5*k:=by
      have:=jdJ hwf (List.range' i k)
      rwa [List.length_range']at this
     by_cases hkS:k<S.length
     ·have hg:S.getD k default=W.getD (i+k) default:=by
       rw[hS,List.getD_eq_getElem?_getD,List.getElem?_take_of_lt (by omega),List.getElem?_drop,←List.getD_eq_getElem?_getD]
      have hcc:=hT.at_ (show i+k<W.length by omega)
      have hc2:=jbe (show i+k<W.length by omega)
      rw[hc2,←hg]at hcc
      have hru:=jji hcc.may
      have hr2:=hcc.wf.rune
      have h10:=jan (S.getD k default).rune.toNat (by omega)
      have hw2:IntKind.u64.wrap (S.getD k default).rune=(S.getD k default).rune:=jh3 (by omega)
      have hsn:=jeX W i k
      rw[hc2,←hg]at hsn
      repeat' first|refine tU ?_|refine qaa ?_ ?_|(refine tI ?_;intro hyp)|intro hyp0|exact tZ|omega
      exact⟨k+1,by omega,by omega,qab [3] [] rfl (by rw[hsn];exact tF)⟩
     ·have e6:j-i=k:=by omega
      rw[e6]at hE hEs
      repeat' first|refine tU ?_|refine qaa ?_ ?_|(refine tI ?_;intro hyp)|intro hyp0|exact tZ|omega
      exact⟨(j,j,nn+1,u++runB W i k),hE,by simp only;omega,qab [0] [] rfl (by exact tF)⟩
 ·obtain⟨e1,e2⟩:=hout.done (by omega)
  rw[←e1,←e2]
  repeat' first|refine tU ?_|refine qaa ?_ ?_|(refine tI ?_;intro hyp)|intro hyp0|exact tZ|omega
  exact qab [0] [] rfl (by exact tF))
end
end
end Go.Proofs.YtienkkicehmchaaGreatDoor
