/- Texts of this claim, merged by a program of this claim: FRnL, FRnL2. -/
import Derived.Test.YtienkkicehmchaaGreatDoorDo12
import Derived.Test.YtienkkicehmchaaGreatDoorDo14
import Derived.Test.YtienkkicehmchaaGreatDoorDo15
import Derived.Test.YtienkkicehmchaaGreatDoorDo18
import Derived.Test.YtienkkicehmchaaGreatDoorDo28
import Derived.Test.YtienkkicehmchaaGreatDoorDo6
namespace Go.Proofs.YtienkkicehmchaaGreatDoor
open And renaming intro→qaa
open Cos renaming intro→qab
open List renaming take_of_length_le→qac,append_nil→qad,length_append→qae,length_take→qaf,mem_of_mem_take→qag,take→qah
noncomputable section
set_option linter.unusedVariables false
set_option linter.unusedSimpArgs false
section
open Go.RowKit
set_option maxRecDepth 100000
set_option maxHeartbeats 4000000
abbrev jve:List AK:=[.any,.sl (.int .i64)]
abbrev q_nput (b:Int) (L:List Int):QA:=([.int .u8 b,.vec (.int .i64) L],(0≤b∧b<256)∧(∀x∈L,0≤x∧x<9223372036854775808)∧L.length≤100000,.ret (.vec (.int .u8) (b::ja3 L)))
def sp_nput:=spQ (u2 q_nput)
theorem jlN:W2 (hA sp_nput) q_nput:=w2 (aA rfl)
theorem jvf:Fre 145 sp_nput:=ofT (u2 q_nput) fun⟨b,L⟩ hG=>tfi (.t [.any] jdb jnH .nil) 0 jii (by
 dsimp only[u2,q_nput]at hG ⊢
 have zc:=Hk.mk (@jft)
 obtain⟨hb,hL,hl⟩:=hG
 repeat' first|refine tU ?_|refine qaa ?_ ?_|(refine tI ?_;intro hyp)|intro hyp0|exact tZ|omega
 refine T.loop (fun k:Nat=>⟨[(5,.slice 0 0 1 (b::ja3 (L.take k)).length (b::ja3 (L.take k)).length),(10,.vec (.int .i64) L),(11,.int .i64 L.length),(12,.int .i64 k)],[.seq (.int .u8) (b::ja3 (L.take k))]⟩) (fun k=>k≤L.length) (fun k=>L.length-k) 0 (by omega) (qab [0] [] rfl (by simp only[PB,SAM,seval,rdB,Hk.out zc];simp[ja3])) (fun k hk=>?_)
 have hvl:=jel (L.take k) fun x hx=>by have:=hL x (qag hx);omega
 rw[qaf]at hvl
 by_cases hkl:k<L.length
 ·have hx:=hL _ (List.mem_of_getElem? (jaW (d:=0) hkl))
  have h10:=jaO (L.getD k 0).toNat (by omega)
  have hw:IntKind.u64.wrap (L.getD k 0)=L.getD k 0:=jhd (by omega)
  have hsn:=jh8 hkl
  repeat' first|refine tU ?_|refine qaa ?_ ?_|(refine tI ?_;intro hyp)|intro hyp0|exact tZ|omega
  refine⟨k+1,by omega,by omega,qab [2] [] rfl ?_⟩
  rw[hsn]
  exact tF
 ·have e:L.take k=L:=qac (by omega)
  rw[e]
  repeat' first|refine tU ?_|refine qaa ?_ ?_|(refine tI ?_;intro hyp)|intro hyp0|exact tZ|omega
  exact qab [0] [] rfl (by exact tF))
theorem jBQ {i bh kk:Nat}{q:CD}(hb:bh≤i) (hq:CWf q):ja3 [(i:Int)-bh,(kk:Int),q.fg,q.bg,q.attrs]=jar ([i-bh,kk]++pen3 q.pen):=by
 rw[←jev]
 have h1:=hq.fg
 have h2:=hq.bg
 have h3:=hq.attrs
 congr 1
 simp only[pen3,CD.pen,List.cons_append,List.nil_append,List.map_cons,List.map_nil,Int.ofNat_eq_natCast,List.cons.injEq,and_true]
 (repeat' apply qaa)<;>first|rfl|omega|trivial
abbrev q_nruns (C W:List CD):QA:=([.vec .cell C,.vec .cell W],C.length=W.length∧All2 W∧(∀c∈C,CWf c),.ret (.tup [.int .i64 (jiT C W).2,.vec (.int .u8) (jiT C W).1]))
def sp_nruns:=spQ (u2 q_nruns)
theorem jpG:W2 (hA sp_nruns) q_nruns:=w2 (aA rfl)
theorem jxz:Fre 167 sp_nruns:=ofT (u2 q_nruns) fun⟨C,W⟩ hG=>tfi (.t [.any] jdb jnH .nil) 0 jgj (by
 dsimp only[u2,q_nruns]at hG ⊢
 have zc:=Hk.mk (@jft)
 obtain⟨hC,hT,hwC⟩:=hG
 have hsm:=hT.small
 have hwf:∀q∈W,CWf q:=fun q hq=>(hT.cell q hq).wf
 obtain⟨oth,hoth⟩:∃o,o=jaj C W:=⟨_,rfl⟩
 have heq:=jxy C W
 rw[←hoth]at heq
 rw[heq]
 have ho1:=fun i hi=>jzW hT hC (i:=i) hi
 rw[←hoth]at ho1
 repeat' first|refine tU ?_|refine qaa ?_ ?_|(refine tI ?_;intro hyp)|intro hyp0|exact tZ|omega
 refine T.loop (fun q:Nat×Nat×Nat×List Int=>⟨[(0,.vec .cell C),(1,.vec .cell W),(6,.slice 0 0 1 q.2.2.2.length q.2.2.2.length),(7,.int .i64 q.2.2.1),(8,.int .i64 q.2.1),(9,.int .i64 q.1)],[.seq (.int .u8) q.2.2.2]⟩) (fun q=>Out3 W oth q.1 q.2.1 q.2.2.1 q.2.2.2) (fun q=>W.length-q.1) (0,0,0,[]) ⟨⟨Nat.le_refl _,Nat.zero_le _⟩,rfl,by simp⟩ (qab [99] [] rfl (by simp only[PB,SAM,seval,rdB,Hk.out zc];first|done|simp[crs,crsL,jaM])) (fun⟨i,bh,nn,bs⟩ hout=>?_)
 dsimp only at hout ⊢
 have hle:=hout.le
 have hsm2:=hout.small hT
 by_cases hil:i<W.length
 ·have ho:=ho1 i hil
  have hone:=hT.one hil
  by_cases he:C.getD i default=W.getD i default
  ·have hsk:=hout.skip hil (by rw[ho,decide_eq_true he];rfl) (by omega)
   rw[hone]at hsk
   have hw:=eq_true he
   repeat' first|refine tU ?_|refine qaa ?_ ?_|(refine tI ?_;intro hyp)|intro hyp0|exact tZ|omega
   exact⟨(i+1,bh,nn,bs),hsk,by simp only;omega,qab [0] [] rfl (by exact tF)⟩
  ·have hw:=eq_false he
   have hcw:=hwf _ (jbp hil)
   have hcg:=jce hil
   have hoi:oth i=true:=by rw[ho,decide_eq_false he];rfl
   have hin0:=(Inn.start (W:=W) (p:=(cAt W i).pen) (oth:=oth) (i:=i) (by omega)).go hil hoi rfl (by omega)
   rw[hone]at hin0
   have hr1:runB W i 1=[]++varN (cAt W i).rune.toNat:=by rw[show 1=0+1 from rfl,jkC];rfl
   repeat' first|refine T.cut (a:=z110_16) (fun j:Nat=>⟨[(0,.vec .cell C),(1,.vec .cell W),(6,.slice 0 0 1 bs.length bs.length),(7,.int .i64 nn),(8,.int .i64 bh),(9,.int .i64 i),(10,.int .i64 j)],[.seq (.int .u8) bs]⟩) (fun j=>(i<j∧j≤W.length)∧Out3 W oth j j (nn+1) (bs++jar ([i-bh,j-i]++pen3 (cAt W i).pen)++runB W i (j-i))) (Held.out ?_) (fun j hj=>Held.out ?_)|refine tU ?_|refine qaa ?_ ?_|(refine tI ?_;intro hyp)|intro hyp0|exact tZ|omega
   ·refine⟨?_⟩
    repeat' first|refine tU ?_|refine qaa ?_ ?_|(refine tI ?_;intro hyp)|intro hyp0|exact tZ|omega
    refine T.loop (fun j:Nat=>⟨[(0,.vec .cell C),(1,.vec .cell W),(6,.slice 0 0 1 bs.length bs.length),(7,.int .i64 nn),(8,.int .i64 bh),(9,.int .i64 i),(10,.int .i64 j)],[.seq (.int .u8) bs]⟩) (fun j=>i+1≤j∧Inn W (cAt W i).pen oth i j (j-i) (runB W i (j-i))) (fun j=>W.length-j) (i+1) ⟨Nat.le_refl _,by rw[show i+1-i=1 by omega,hr1];exact hin0⟩ (qab [0] [] rfl (by exact tF)) (fun j ⟨hij,hin⟩=>?_)
    have hlj:=hin.le
    have hend:¬(j<W.length∧oth j=true∧(cAt W j).pen=(cAt W i).pen)→Out3 W oth j j (nn+1) (bs++jar ([i-bh,j-i]++pen3 (cAt W i).pen)++runB W i (j-i)):=fun h=>hout.go hil hoi hin h
    have hgo:j<W.length→oth j=true→(cAt W j).pen=(cAt W i).pen→Inn W (cAt W i).pen oth i (j+1) (j+1-i) (runB W i (j+1-i)):=fun h1 h2 h3=>by
     have:=hin.go h1 h2 h3 (by rw[hT.one h1];omega)
     rw[hT.one h1]at this
     rw[show j+1-i=j-i+1 by omega,jkC,show i+(j-i)=j by omega]
     exact this
    by_cases hjy:j<W.length∧oth j=true∧(cAt W j).pen=(cAt W i).pen
    ·obtain⟨g1,g2,g3⟩:=hjy
     have hj1:=ho1 j g1
     rw[g2]at hj1
     have hne:¬C.getD j default=W.getD j default:=by simpa using hj1.symm
     rw[jce g1,hcg]at g3
     have hw:=qaa (eq_false hne) (eq_true g3)
     repeat' first|refine tU ?_|refine qaa ?_ ?_|(refine tI ?_;intro hyp)|intro hyp0|exact tZ|omega
     exact⟨j+1,⟨by omega,hgo g1 g2 (by rw[jce g1,hcg];exact g3)⟩,by omega,qab [0] [] rfl (by exact tF)⟩
    ·have hE:=hend hjy
     clear hend hgo
     have hq:j<W.length→¬C.getD j default=W.getD j default→¬(W.getD j default).pen=(W.getD i default).pen:=fun g1 g2 g3=>hjy ⟨g1,by rw[ho1 j g1,decide_eq_false g2];rfl,by rw[jce g1,hcg];exact g3⟩
     repeat' first|refine tU ?_|refine qaa ?_ ?_|(refine tI ?_;intro hyp)|intro hyp0|exact tZ|omega
     all_goals first
      | exact⟨j,⟨⟨by omega,by omega⟩,hE⟩,qab [0] [] rfl (by exact tF)⟩
      | exact absurd ‹_› (hq (by omega) ‹_›)
   ·refine⟨?_⟩
    obtain⟨⟨hij,hjl⟩,hE⟩:=hj
    have hv5:=jBQ (kk:=j-i) hle.1 hcw
    have c1:=hcw.fg
    have c2:=hcw.bg
    have c3:=hcw.attrs
    obtain⟨P,hP⟩:∃P,P=(W.getD i default).pen:=⟨_,rfl⟩
    obtain⟨K5,hK5⟩:∃K,K=[(i:Int)-bh,(j:Int)-i,P.fg,P.bg,P.attrs]:=⟨_,rfl⟩
    have hKl:K5.length=5:=by rw[hK5];rfl
    have hKv:ja3 K5=jar ([i-bh,j-i]++pen3 (cAt W i).pen):=by
     rw[hcg,←hv5,hK5,hP,Int.ofNat_sub (by omega)]
     rfl
    rw[←hKv]at hE
    have p1:0≤P.fg∧P.fg<4294967296:=by rw[hP];exact c1
    have p2:0≤P.bg∧P.bg<4294967296:=by rw[hP];exact c2
    have p3:0≤P.attrs∧P.attrs<256:=by rw[hP];exact c3
    have hKb:∀x∈K5,0≤x∧x<9223372036854775808:=fun x hx=>by
     rw[hK5]at hx
     simp only[List.mem_cons,List.not_mem_nil,or_false]at hx
     omega
    have hw:=hP.symm
    have hvl:=jel
    repeat' first|refine tU ?_|refine qaa ?_ ?_|(refine tI ?_;intro hyp)|intro hyp0|exact tZ|omega
    rw[←hK5]
    refine T.loop (fun k:Nat=>⟨[(0,.vec .cell C),(1,.vec .cell W),(6,.slice 0 0 1 (bs++ja3 (K5.take k)).length (bs++ja3 (K5.take k)).length),(7,.int .i64 nn),(9,.int .i64 i),(10,.int .i64 j),(83,.slice 1 0 1 5 5),(84,.int .i64 5),(85,.int .i64 k)],[.seq (.int .u8) (bs++ja3 (K5.take k)),.seq (.int .i64) K5]⟩) (fun k=>k≤5) (fun k=>5-k) 0 (by omega) (qab [0,2] [] rfl (by simp only[List.take_zero,show ja3 []=[]from rfl,qad];exact tF)) (fun k hk=>?_)
    have hvk:=jel (K5.take k) fun x hx=>by have:=hKb x (qag hx);omega
    rw[qaf]at hvk
    by_cases hk5:k<5
    ·have hx:=hKb _ (List.mem_of_getElem? (jaW (d:=0) (show k<K5.length by omega)))
     have h10:=jaO (K5.getD k 0).toNat (by omega)
     have hw:IntKind.u64.wrap (K5.getD k 0)=K5.getD k 0:=jhd (by omega)
     have hsn:=jh8 (show k<K5.length by omega)
     repeat' first|refine tU ?_|refine qaa ?_ ?_|(refine tI ?_;intro hyp)|intro hyp0|exact tZ|omega
     exact⟨k+1,by omega,by omega,qab [3,1] [] rfl (by rw[hsn];exact tF)⟩
    ·have e5:K5.take k=K5:=qac (by omega)
     rw[e5]at hvk ⊢
     obtain⟨u,hu⟩:∃u,u=bs++ja3 K5:=⟨_,rfl⟩
     have hul:u.length≤34000:=by rw[hu,qae];omega
     rw[←hu]at hE ⊢
     obtain⟨S,hS⟩:∃S,S=qah (j-i) (List.drop i W):=⟨_,rfl⟩
     have hSl:S.length=j-i:=by rw[hS,qaf,List.length_drop];omega
     have hw:=hS.symm
     have hEs:=hE.small hT
     rw[qae]at hEs
     repeat' first|refine tU ?_|refine qaa ?_ ?_|(refine tI ?_;intro hyp)|intro hyp0|exact tZ|omega
     refine T.loop (fun k:Nat=>⟨[(0,.vec .cell C),(1,.vec .cell W),(6,.slice 0 0 1 (u++runB W i k).length (u++runB W i k).length),(7,.int .i64 nn),(10,.int .i64 j),(98,.vec .cell S),(99,.int .i64 S.length),(100,.int .i64 k)],[.seq (.int .u8) (u++runB W i k)]⟩) (fun k=>k≤S.length) (fun k=>S.length-k) 0 (by omega) (qab [0] [] rfl (by simp only[show runB W i 0=[]from rfl,qad];exact tF)) (fun k hk=>?_)
     have hrk:(runB W i k).length≤5*k:=by
      have:=jhp hwf (List.range' i k)
      rwa [List.length_range']at this
     by_cases hkS:k<S.length
     ·have hg:S.getD k default=W.getD (i+k) default:=by
       rw[hS,List.getD_eq_getElem?_getD,List.getElem?_take_of_lt (by omega),List.getElem?_drop,←List.getD_eq_getElem?_getD]
      have hcc:=hT.at_ (show i+k<W.length by omega)
      have hc2:=jce (show i+k<W.length by omega)
      rw[hc2,←hg]at hcc
      have hru:=jnL hcc.may
      have hr2:=hcc.wf.rune
      have h10:=jaO (S.getD k default).rune.toNat (by omega)
      have hw2:IntKind.u64.wrap (S.getD k default).rune=(S.getD k default).rune:=jhd (by omega)
      have hsn:=jkC W i k
      rw[hc2,←hg]at hsn
      repeat' first|refine tU ?_|refine qaa ?_ ?_|(refine tI ?_;intro hyp)|intro hyp0|exact tZ|omega
      exact⟨k+1,by omega,by omega,qab [3] [] rfl (by rw[hsn];exact tF)⟩
     ·have e6:j-i=k:=by omega
      rw[e6]at hE hEs
      repeat' first|refine tU ?_|refine qaa ?_ ?_|(refine tI ?_;intro hyp)|intro hyp0|exact tZ|omega
      exact⟨(j,j,nn+1,u++runB W i k),hE,by simp only;omega,qab [0] [] rfl (by exact tF)⟩
 ·obtain⟨e1,e2⟩:=hout.done (by omega)
  rw[←e1,←e2]
  repeat' first|refine tU ?_|refine qaa ?_ ?_|(refine tI ?_;intro hyp)|intro hyp0|exact tZ|omega
  exact qab [0] [] rfl (by exact tF))
end
section
open Go.RowKit
set_option maxRecDepth 100000
set_option maxHeartbeats 4000000
abbrev jvg:List AK:=[.agg [.any,.any,.sl .cell,.any,.any,.any,.any,.any,.sl .str],.agg [.any,.any,.sl .cell,.any,.any,.any,.any,.any,.sl .str]]
abbrev q_nlay (k r:Int) (L:List CD) (x y:Int) (hd:Bool) (mo:Int) (ti:ByteArray) (l:List ByteArray) (k' r':Int) (L':List CD) (x' y':Int) (hd':Bool) (mo':Int) (ti':ByteArray) (l':List ByteArray):QA:=([.agg [.int .i64 k,.int .i64 r,.vec .cell L,.int .i64 x,.int .i64 y,.bool hd,.int .u8 mo,.str ti,.vec .str l],.agg [.int .i64 k',.int .i64 r',.vec .cell L',.int .i64 x',.int .i64 y',.bool hd',.int .u8 mo',.str ti',.vec .str l']],(k=k'∧r=r')∧(ScrOk L l∧ScrOk L' l')∧(jal k r L x y mo ti l=true∧jal k' r' L' x' y' mo' ti' l'=true)∧(0≤mo∧0≤mo')∧All2 L',.ret (.vec (.int .u8) (jih L x.toNat y.toNat hd mo.toNat ti L' x'.toNat y'.toNat hd' mo'.toNat ti')))
def sp_nlay:=spQ (u18 q_nlay)
theorem jlO:W18 (hA sp_nlay) q_nlay:=w18 (aA rfl)
theorem jvh:Fre 144 sp_nlay:=ofT (u18 q_nlay) fun⟨k,r,L,x,y,hd,mo,ti,l,k',r',L',x',y',hd',mo',ti',l'⟩ hG=>tfi (.t jve jii jvf (.t [.sl (.int .u8)] jgE jtV (.t [.sl .cell,.sl .cell] jgj jxz .nil))) 0 jij (by
 dsimp only[u18,q_nlay]at hG ⊢
 have zc:=Hk.mk (qaa @jlN (qaa @jlp @jpG))
 obtain⟨⟨rfl,rfl⟩,⟨hs,hs'⟩,⟨hr1,hr2⟩,⟨hmo,hmo'⟩,hT⟩:=hG
 obtain⟨K,R,X,Y,M,rfl,rfl,rfl,rfl,rfl,f1⟩:=jan hr1 hmo
 obtain⟨K2,R2,X2,Y2,M2,e1,e2,rfl,rfl,rfl,f2⟩:=jan hr2 hmo'
 obtain rfl:K=K2:=by omega
 obtain rfl:R=R2:=by omega
 simp only[Int.toNat_natCast]
 have hk:=f1.k1
 have hr:=f1.r1
 have hx2:=f2.x1
 have hy2:=f2.y1
 have hm2:=f2.mo1
 have ht2:=f2.ti1
 have hl1:=f1.l1
 have hl2:=f2.l1
 have hL:=f1.len
 have hL':=f2.len
 have hKR:K*R≤1920:=Nat.mul_le_mul (show K≤80 by omega) (show R≤24 by omega)
 have htk:qah ti'.size (jac ti')=jac ti':=qac (by rw[jay];exact Nat.le_refl _)
 have hti:(jac ti').length=ti'.size:=jay ti'
 obtain⟨b1,hb1⟩:∃b,b=curB X Y hd X2 Y2 hd':=⟨_,rfl⟩
 obtain⟨b2,hb2⟩:∃b,b=b1++titB ti ti':=⟨_,rfl⟩
 obtain⟨b3,hb3⟩:∃b,b=b2++mouB M M2:=⟨_,rfl⟩
 have q1:b1.length≤31:=by rw[hb1];exact jmD X Y hd X2 Y2 hd' (by omega) (by omega)
 have q2:b2.length≤200:=by
  have:=jmE ti ti' ht2
  rw[hb2,qae]
  omega
 have q3:b3.length≤300:=by
  have:=jmF M M2 (by omega)
  rw[hb3,qae]
  omega
 obtain⟨b4,hb4⟩:∃b,b=jiL L L':=⟨_,rfl⟩
 have hall:jih L X Y hd M ti L' X2 Y2 hd' M2 ti'=b3++b4:=by rw[hb4,hb3,hb2,hb1];rfl
 rw[hall]
 repeat' first|refine T.cut (a:=z111_2) (fun _:Unit=>⟨[(2,.ptr 0 0 0),(3,.ptr 1 0 0),(5,.slice 2 0 1 (b1).length (b1).length)],[.box [.int .i64 K,.int .i64 R,.vec .cell L,.int .i64 X,.int .i64 Y,.bool hd,.int .u8 M,.str ti,.vec .str l],.box [.int .i64 K,.int .i64 R,.vec .cell L',.int .i64 X2,.int .i64 Y2,.bool hd',.int .u8 M2,.str ti',.vec .str l'],.seq (.int .u8) (b1)]⟩) (fun _=>True) (Held.out ?_) (fun _ _=>Held.out ?_)|refine tU ?_|refine qaa ?_ ?_|(refine tI ?_;intro hyp)|intro hyp0|exact tZ|omega
 ·refine⟨?_⟩
  have hc:=@jqw X Y X2 Y2 hd hd'
  have hby:curC X Y hd X2 Y2 hd'=true→b1=2::jar [X2,Y2,if hd' then 1 else 0]:=fun h=>by rw[hb1,curB,if_pos h]
  have hbn:¬curC X Y hd X2 Y2 hd'=true→b1=[]:=fun h=>by rw[hb1,curB,if_neg h]
  have hv:∀z:Nat,z<128→jar [X2,Y2,z]=[(X2:Int),Y2,z]:=fun z hz=>by
   simp only[jeo,jfv,jdP (show X2<128 by omega),jdP (show Y2<128 by omega),jdP hz]
   rfl
  have hb0:∀z:Int,0≤z→z≤80→varN z.toNat=[z]:=fun z h1 h2=>jfs h1 (by omega)
  have hw:ja3 [(X2:Int),(Y2:Int),0]=[(X2:Int),Y2,0]:=by rw[jaJ,jaJ,jaJ,jcH,hb0 _ (by omega) (by omega),hb0 _ (by omega) (by omega),hb0 _ (by omega) (by omega)];rfl
  have hw2:ja3 [(X2:Int),(Y2:Int),1]=[(X2:Int),Y2,1]:=by rw[jaJ,jaJ,jaJ,jcH,hb0 _ (by omega) (by omega),hb0 _ (by omega) (by omega),hb0 _ (by omega) (by omega)];rfl
  repeat' first|refine tU ?_|refine qaa ?_ ?_|(refine tI ?_;intro hyp)|intro hyp0|exact tZ|omega
  ·rename_i hq
   have e:b1=[2,(X2:Int),Y2,1]:=by rw[hby (hc.2 hq),hyp,if_pos rfl,hv 1 (by omega)];rfl
   exact⟨(),qab [0,1,4] [] rfl (by rw[e];exact tF)⟩
  ·rename_i hq
   have e:b1=[2,(X2:Int),Y2,0]:=by rw[hby (hc.2 hq),hyp,if_neg (by decide),hv 0 (by omega)];rfl
   exact⟨(),qab [0,1,4] [] rfl (by rw[e];exact tF)⟩
  ·have e:b1=[]:=hbn fun q=>by
    rcases hc.1 q with (h|h)|h
    ·exact h hyp.1.1
    ·exact h hyp.1.2
    ·rw[hyp.2]at h
     simp at h
   exact⟨(),qab [0,1,99] [] rfl (by rw[e];simp only[PB,SAM,seval,rdB,Hk.out zc];first|done|simp[crs,crsL,jaM])⟩
 refine⟨?_⟩
 repeat' first|refine T.cut (a:=z111_9) (fun _:Unit=>⟨[(2,.ptr 0 0 0),(3,.ptr 1 0 0),(5,.slice 2 0 1 (b2).length (b2).length)],[.box [.int .i64 K,.int .i64 R,.vec .cell L,.int .i64 X,.int .i64 Y,.bool hd,.int .u8 M,.str ti,.vec .str l],.box [.int .i64 K,.int .i64 R,.vec .cell L',.int .i64 X2,.int .i64 Y2,.bool hd',.int .u8 M2,.str ti',.vec .str l'],.seq (.int .u8) (b2)]⟩) (fun _=>True) (Held.out ?_) (fun _ _=>Held.out ?_)|refine tU ?_|refine qaa ?_ ?_|(refine tI ?_;intro hyp)|intro hyp0|exact tZ|omega
 ·refine⟨?_⟩
  have hw:=htk
  have htl:=jfu (jac ti') (by omega)
  repeat' first|refine tU ?_|refine qaa ?_ ?_|(refine tI ?_;intro hyp)|intro hyp0|exact tZ|omega
  ·have e:b2=b1++3::jf8 (jac ti'):=by rw[hb2,titB,if_neg (fun q=>hyp (ja9.1 q))]
   exact⟨(),qab [0,1,7] [] rfl (by rw[e];exact tF)⟩
  ·have e:b2=b1:=by rw[hb2,titB,if_pos (ja9.2 hyp),qad]
   exact⟨(),qab [0,1,2] [] rfl (by rw[e];exact tF)⟩
 refine⟨?_⟩
 repeat' first|refine T.cut (a:=z111_13) (fun _:Unit=>⟨[(2,.ptr 0 0 0),(3,.ptr 1 0 0),(5,.slice 2 0 1 (b3).length (b3).length)],[.box [.int .i64 K,.int .i64 R,.vec .cell L,.int .i64 X,.int .i64 Y,.bool hd,.int .u8 M,.str ti,.vec .str l],.box [.int .i64 K,.int .i64 R,.vec .cell L',.int .i64 X2,.int .i64 Y2,.bool hd',.int .u8 M2,.str ti',.vec .str l'],.seq (.int .u8) (b3)]⟩) (fun _=>True) (Held.out ?_) (fun _ _=>Held.out ?_)|refine tU ?_|refine qaa ?_ ?_|(refine tI ?_;intro hyp)|intro hyp0|exact tZ|omega
 ·refine⟨?_⟩
  have hw:ja3 [(M2:Int)]=[(M2:Int)]:=by rw[jaJ,jcH,jfs (by omega) (by omega)];rfl
  repeat' first|refine tU ?_|refine qaa ?_ ?_|(refine tI ?_;intro hyp)|intro hyp0|exact tZ|omega
  ·have e:b3=b2++[4,(M2:Int)]:=by rw[hb3,mouB,if_neg (fun e=>hyp (by rw[e]))];simp only[jeo,jfv,jdP (show M2<128 by omega)];rfl
   exact⟨(),qab [0,1,5] [] rfl (by rw[e];exact tF)⟩
  ·have e:b3=b2:=by rw[hb3,mouB,if_pos (by omega),qad]
   exact⟨(),qab [0,1,2] [] rfl (by rw[e];exact tF)⟩
 refine⟨?_⟩
 have hrs:=hs.wf
 have hq:=jkA (C:=L) hT
 rw[←hb4]at hq
 obtain⟨Z,hZ⟩:∃Z,Z=jiT L L':=⟨_,rfl⟩
 have hw:=hZ.symm
 have hb5:b4=if Z.2=0 then [] else (5:Int)::(varN Z.2++Z.1):=by rw[hb4,hZ];rfl
 have hz2:Z.2≤2000:=by
  have h1:=jhH hT (rem (jaj L L') (jaa L') L'.length 0).length 0 (rem (jaj L L') (jaa L') L'.length 0) (fun x hx=>(jeR (fun i=>(jao L' i).1) hx).2.1) (by have:=jbC (oth:=jaj L L') (wd:=jaa L') (N:=L'.length) (i:=0);have:=hT.small;omega)
  have h2:=jbC (oth:=jaj L L') (wd:=jaa L') (N:=L'.length) (i:=0)
  have h3:Z.2≤(rem (jaj L L') (jaa L') L'.length 0).length:=by rw[hZ];exact h1.2
  have:=hT.small
  omega
 have hz1:Z.1.length≤40000:=by
  have h1:=jhH hT (rem (jaj L L') (jaa L') L'.length 0).length 0 (rem (jaj L L') (jaa L') L'.length 0) (fun x hx=>(jeR (fun i=>(jao L' i).1) hx).2.1) (by have:=jbC (oth:=jaj L L') (wd:=jaa L') (N:=L'.length) (i:=0);have:=hT.small;omega)
  have h2:=jbC (oth:=jaj L L') (wd:=jaa L') (N:=L'.length) (i:=0)
  have h3:Z.1.length≤16*(rem (jaj L L') (jaa L') L'.length 0).length:=by rw[hZ];exact h1.1
  have:=hT.small
  omega
 have hw2:ja3 [(Z.2:Int)]=varN Z.2:=by rw[jaJ,jcH,qad,Int.toNat_natCast]
 have h10:=jaO Z.2 (by omega)
 have hw3:qah (b3.length+((varN Z.2).length+1)) (b3++(5:Int)::varN Z.2)=b3++5::varN Z.2:=qac (by simp)
 repeat' first|exact hT|exact hrs _ ‹_›|refine tU ?_|refine qaa ?_ ?_|(refine tI ?_;intro hyp)|intro hyp0|exact tZ|omega
 ·rw[if_neg (by omega)]at hb5
  exact qab [7] [] rfl (by rw[hb5];exact tF)
 ·rw[if_pos (by omega)]at hb5
  exact qab [2] [] rfl (by rw[hb5];exact tF))
abbrev jq2:List AK:=[.agg [.any,.any,.sl .cell,.any,.any,.any,.any,.any,.sl .str]]
abbrev q_nfull (k r:Int) (L:List CD) (x y:Int) (hd:Bool) (mo:Int) (ti:ByteArray) (l:List ByteArray):QA:=([.agg [.int .i64 k,.int .i64 r,.vec .cell L,.int .i64 x,.int .i64 y,.bool hd,.int .u8 mo,.str ti,.vec .str l]],(ScrOk L l∧SLen ti)∧0≤mo,.ret (.tup [.vec (.int .u8) (jcp k r L x y hd mo ti l),.int .i64 (errN (jaB k r L x y mo ti l))]))
def sp_nfull:=spQ (u9 q_nfull)
theorem jkD:W9 (hA sp_nfull) q_nfull:=w9 (aA rfl)
theorem jq3:Fre 104 sp_nfull:=ofT (u9 q_nfull) fun⟨k,r,L,x,y,hd,mo,ti,l⟩ hG=>tfi (.f jhz jdm jhA (.t [.any,.any] jaT jez (.t jve jii jvf (.t jvg jij jvh .nil)))) 0 jgU (by
 dsimp only[u9,q_nfull]at hG ⊢
 have zc:=Hk.mk (qaa @jdS (qaa @jb3 (qaa @jlN @jlO)))
 obtain⟨⟨hs,ht⟩,hmo⟩:=hG
 cases hw:jaB k r L x y mo ti l
 ·have e:jcp k r L x y hd mo ti l=[]:=by rw[jcp,if_neg (by rw[hw];decide)]
  repeat' first|exact hs|refine tU ?_|refine qaa ?_ ?_|(refine tI ?_;intro hyp)|intro hyp0|exact tZ|omega
  exact qab [99] [] rfl (by rw[e];simp only[PB,SAM,seval,rdB,Hk.out zc];simp[crs,crsL,jaM,errN])
 ·obtain⟨hR,_,hT⟩:=jbH hw hs.wf hmo
  obtain⟨K,R,X,Y,M,rfl,rfl,rfl,rfl,rfl,f⟩:=jan hR hmo
  have hk:=f.k1
  have hr:=f.r1
  have hx:=f.x1
  have hy:=f.y1
  have hm:=f.mo1
  have hKR:K*R≤1920:=Nat.mul_le_mul (show K≤80 by omega) (show R≤24 by omega)
  have hbr:=jgN hk hr
  have hbo:=jmR K R (by omega)
  have hf:jbr (K:Int) R=true:=jcb.2 (by omega)
  have hw2:qah (K*R) (List.replicate (K*R) blank0)=jah K R:=qac (by simp)
  have hw3:ja3 [(K:Int),(R:Int)]=jar [K,R]:=jev [K,R]
  have hvl:=jbe [K,R] (fun u hu=>by simp at hu;omega)
  simp only[List.length_cons,List.length_nil]at hvl
  have hdl:=(jgS (L1:=jah K R) (x1:=0) (y1:=0) (hd1:=false) (m1:=0) (t1:=bs []) (hd2:=hd) (m2:=M) hT (show X<80 by omega) (show Y<24 by omega) (by omega) f.ti1).1
  have e:jcp (K:Int) R L X Y hd M ti l=1::(jar [K,R]++jih (jah K R) 0 0 false 0 (bs []) L X Y hd M ti):=by
   rw[jcp,if_pos hw]
   rfl
  repeat' first|exact hs|exact hf|exact hbo|exact hbr|exact hR|exact hT|refine tU ?_|refine qaa ?_ ?_|(refine tI ?_;intro hyp)|intro hyp0|exact tZ|omega
  exact qab [7] [] rfl (by rw[e];simp only[errN];exact tF))
abbrev jzX:List AK:=[.agg [.any,.any,.sl .cell,.any,.any,.any,.any,.any,.sl .str],.agg [.any,.any,.sl .cell,.any,.any,.any,.any,.any,.sl .str]]
abbrev q_nenc (k r:Int) (L:List CD) (x y:Int) (hd:Bool) (mo:Int) (ti:ByteArray) (l:List ByteArray) (k' r':Int) (L':List CD) (x' y':Int) (hd':Bool) (mo':Int) (ti':ByteArray) (l':List ByteArray):QA:=([.agg [.int .i64 k,.int .i64 r,.vec .cell L,.int .i64 x,.int .i64 y,.bool hd,.int .u8 mo,.str ti,.vec .str l],.agg [.int .i64 k',.int .i64 r',.vec .cell L',.int .i64 x',.int .i64 y',.bool hd',.int .u8 mo',.str ti',.vec .str l']],((ScrOk L l∧SLen ti)∧0≤mo)∧((ScrOk L' l'∧SLen ti')∧0≤mo'),.ret (.tup [.vec (.int .u8) (jd4 k r L x y hd mo ti l k' r' L' x' y' hd' mo' ti' l'),.int .i64 (errN (jaB k r L x y mo ti l&&jaB k' r' L' x' y' mo' ti' l'))]))
def sp_nenc:=spQ (u18 q_nenc)
theorem jso:W18 (hA sp_nenc) q_nenc:=w18 (aA rfl)
theorem jzY:Fre 103 sp_nenc:=ofT (u18 q_nenc) fun⟨k,r,L,x,y,hd,mo,ti,l,k',r',L',x',y',hd',mo',ti',l'⟩ hG=>tfi (.f jhz jdm jhA (.t jq2 jgU jq3 (.t jvg jij jvh .nil))) 0 jhI (by
 dsimp only[u18,q_nenc]at hG ⊢
 have zc:=Hk.mk (qaa @jdS (qaa @jkD @jlO))
 obtain⟨⟨⟨hs,ht⟩,hmo⟩,⟨hs',ht'⟩,hmo'⟩:=hG
 cases hw:jaB k r L x y mo ti l
 ·have e:jd4 k r L x y hd mo ti l k' r' L' x' y' hd' mo' ti' l'=[]:=by rw[jd4,if_neg (by rw[hw];simp)]
  repeat' first|exact hs|refine tU ?_|refine qaa ?_ ?_|(refine tI ?_;intro hyp)|intro hyp0|exact tZ|omega
  exact qab [99] [] rfl (by rw[e];simp only[PB,SAM,seval,rdB,Hk.out zc];simp[crs,crsL,jaM,errN])
 ·cases hw2:jaB k' r' L' x' y' mo' ti' l'
  ·have e:jd4 k r L x y hd mo ti l k' r' L' x' y' hd' mo' ti' l'=[]:=by rw[jd4,if_neg (by rw[hw2];simp)]
   repeat' first|exact hs|exact hs'|refine tU ?_|refine qaa ?_ ?_|(refine tI ?_;intro hyp)|intro hyp0|exact tZ|omega
   exact qab [99] [] rfl (by rw[e];simp only[PB,SAM,seval,rdB,Hk.out zc];simp[crs,crsL,jaM,errN])
  ·have hR:=(jbH hw hs.wf hmo).1
   obtain⟨hR2,_,hT⟩:=jbH hw2 hs'.wf hmo'
   have e0:jd4 k r L x y hd mo ti l k' r' L' x' y' hd' mo' ti' l'=if k=k'∧r=r' then jih L x.toNat y.toNat hd mo.toNat ti L' x'.toNat y'.toNat hd' mo'.toNat ti' else jcp k' r' L' x' y' hd' mo' ti' l':=by rw[jd4,if_pos (by rw[hw,hw2];rfl)]
   by_cases hkr:k=k'∧r=r'
   ·rw[if_pos hkr]at e0
    repeat' first|exact hs|exact hs'|exact hR|exact hR2|exact hT|refine tU ?_|refine qaa ?_ ?_|(refine tI ?_;intro hyp)|intro hyp0|exact tZ|omega
    exact qab [2] [] rfl (by rw[e0];simp only[errN];exact tF)
   ·rw[if_neg hkr]at e0
    repeat' first|exact hs|exact hs'|refine tU ?_|refine qaa ?_ ?_|(refine tI ?_;intro hyp)|intro hyp0|exact tZ|omega
    exact qab [2] [] rfl (by rw[e0];exact tF))
end
end
end Go.Proofs.YtienkkicehmchaaGreatDoor
