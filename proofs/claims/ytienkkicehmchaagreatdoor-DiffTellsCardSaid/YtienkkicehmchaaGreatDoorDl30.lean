/- Texts of this claim, merged by a program of this claim: FRwL. -/
import Derived.Test.YtienkkicehmchaaGreatDoorDl19
import Derived.Test.YtienkkicehmchaaGreatDoorDl23
import Derived.Test.YtienkkicehmchaaGreatDoorDl26
import Derived.Test.YtienkkicehmchaaGreatDoorDl28
import Derived.Test.YtienkkicehmchaaGreatDoorDl29
import Derived.Test.YtienkkicehmchaaGreatDoorDl6
namespace Go.Proofs.YtienkkicehmchaaGreatDoor
open And renaming intro→qaa
open Cos renaming intro→qab
open List renaming length_append→qac,take_of_length_le→qad,replicate→qae,length_cons→qaf,flatMap_singleton→qai,length_nil→qaj,take→qak,flatMap_append→qal,append_assoc→qam,flatMap_cons→qan,flatMap_nil→qap
open Nat renaming mul_le_mul_right→qag,div_div_eq_div_mul→qah,mul_comm→qao,mul_le_mul→qaq,pow_succ→qar
noncomputable section
set_option linter.unusedVariables false
set_option linter.unusedSimpArgs false
section
open Go.RowKit
set_option maxRecDepth 100000
set_option maxHeartbeats 4000000
theorem jmY:∀(k n:Nat),numN (k+1) n=((n / 256 ^ k % 256:Nat):Int)::numN k n
 | 0,n=>by simp[numN]
 | k+1,n=>by
  rw[numN,jmY k (n / 256),numN,qah,qar,qao]
  rfl
theorem jpm {s j n:Nat}(h:j<s):(qae (s-j) (0:Int)++numN j n).set (s-1-j) ((n / 256 ^ j % 256:Nat):Int)=qae (s-(j+1)) 0++numN (j+1) n:=by
 rw[jmY,show s-j=(s-(j+1))+1 by omega,List.replicate_succ',qam,List.set_append_right _ _ (by simp;omega)]
 simp[show s-1-j-(s-(j+1))=0 by omega]
abbrev q_lnum (n s:Int):QA:=([.int .u64 n,.int .i64 s],(0≤n∧n<18446744073709551616)∧(1≤s∧s≤8),.ret (.vec (.int .u8) (numN s.toNat n.toNat)))
def sp_lnum:=spQ (u2 q_lnum)
theorem jqO:W2 (hA sp_lnum) q_lnum:=w2 (aA rfl)
theorem jxg:Fre 162 sp_lnum:=ofT (u2 q_lnum) fun⟨n,s⟩ hG=>tfi .nil 0 jkB (by
 dsimp only[u2,q_lnum]at hG ⊢
 obtain⟨⟨hn0,hn⟩,h1,h8⟩:=hG
 obtain⟨n,rfl⟩:∃m:Nat,n=m:=⟨n.toNat,by omega⟩
 obtain⟨s,rfl⟩:∃m:Nat,s=m:=⟨s.toNat,by omega⟩
 simp only[Int.toNat_natCast]
 repeat' first|refine tU ?_|refine qaa ?_ ?_|(refine tI ?_;intro hyp)|intro hyp0|exact tZ|omega
 refine T.loop (fun j:Nat=>⟨[(0,.int .u64 ((n / 256 ^ j:Nat):Int)),(5,.slice 0 0 1 s s),(6,.int .i64 ((s:Int)-1-j))],[.seq (.int .u8) (qae (s-j) 0++numN j n)]⟩) (fun j=>j≤s) (fun j=>s-j) 0 (by omega) (qab [0] [] rfl (by simp only[PB,SAM,seval,rdB,Hk.out zc];simp[numN])) (fun j hj=>?_)
 have hdv:n / 256 ^ j≤n:=Nat.div_le_self _ _
 have hln:(qae (s-j) (0:Int)++numN j n).length=s:=by rw[qac,jbB,List.length_replicate];omega
 by_cases hjs:j<s
 ·have hst:=jpm (n:=n) hjs
  have hw:IntKind.u8.wrap ((n / 256 ^ j:Nat):Int)=((n / 256 ^ j % 256:Nat):Int):=by
   simp only[IntKind.wrap,IntKind.signed,IntKind.bits,Bool.false_and,Bool.false_eq_true,if_false]
   omega
  have hw2:((s:Int)-1-j).toNat=s-1-j:=by omega
  have hdd:n / 256 ^ j / 256=n / 256 ^ (j+1):=by rw[qah,qar]
  have hb:(8:Int)≤(IntKind.u64.bits:Int):=by decide
  have hnn:(0:Int)≤((n / 256 ^ j:Nat):Int) / 256:=Int.ediv_nonneg (Int.natCast_nonneg _) (by decide)
  repeat' first|exact hb|exact hnn|refine tU ?_|refine qaa ?_ ?_|(refine tI ?_;intro hyp)|intro hyp0|exact tZ|omega
  exact⟨j+1,by omega,by omega,qab [0] [] rfl (by rw[←hst,←hdd];exact tF)⟩
 ·obtain rfl:j=s:=by omega
  have hw:qae (j-j) (0:Int)++numN j n=numN j n:=by rw[Nat.sub_self];rfl
  repeat' first|refine tU ?_|refine qaa ?_ ?_|(refine tI ?_;intro hyp)|intro hyp0|exact tZ|omega
  exact qab [0] [] rfl (by rw[jbB];exact tF))
theorem js4 {k:Nat}{L:List CD}{r y:Nat}(hL:L.length=k*r) (hy:y<r):(rowN L k y).length=1+9*k:=by
 have h1:=jaQ hL hy
 have h2:∀l:List CD,(l.flatMap cellN).length=9*l.length:=fun l=>by
  induction l with
  | nil=>rfl
  | cons c l ih=>rw[qan,qac,ih,jeV,qaf];omega
 rw[rowN,qaf,h2,h1]
 omega
theorem jlN {k:Nat}{L1 L2:List CD}{r:Nat}(hL:L2.length=k*r) (hk:k≤80):∀y,y≤r→(rwsN k L1 L2 y).length≤721*y
 | 0,_=>by simp[rwsN,ysN]
 | y+1,hy=>by
  have ih:=jlN (L1:=L1) hL hk y (by omega)
  have hr:=js4 hL (show y<r by omega)
  unfold rwsN at ih ⊢
  rw[jlL,qal,qac]
  split
  ·rw[qai,hr]
   omega
  ·simp only[qap,qaj]
   omega
theorem jpn {k:Nat}{L1 L2:List CD}{y:Nat}(h:¬jas L2 k y=jas L1 k y):rwsN k L1 L2 (y+1)=rwsN k L1 L2 y++rowN L2 k y∧(ysN k L1 L2 (y+1)).length=(ysN k L1 L2 y).length+1:=by
 unfold rwsN
 have e:difY k L1 L2 y=true:=by simp[difY,h]
 rw[jlL,e]
 simp
theorem js5 {k:Nat}{L1 L2:List CD}{y:Nat}(h:jas L2 k y=jas L1 k y):rwsN k L1 L2 (y+1)=rwsN k L1 L2 y∧(ysN k L1 L2 (y+1)).length=(ysN k L1 L2 y).length:=by
 unfold rwsN
 have e:difY k L1 L2 y=false:=by simp[difY,h]
 rw[jlL,e]
 simp
theorem jx9 (h1 t:List Int) (n:Int):(h1++n::t).getD h1.length 0=n:=by simp
theorem jxh (h1 t:List Int) (n m:Int):(h1++n::t).set h1.length m=h1++m::t:=by simp
theorem jkD {l:List CD}{j:Nat}(h:j<l.length):(l.take (j+1)).flatMap cellN=(l.take j).flatMap cellN++cellN (l.getD j default):=by
 rw[jar (jax (d:=default) h),qal,qai]
theorem tkD {α:Type}(L M N O:List α):qak (L.length+M.length+N.length+O.length) (L++M++N++O)=L++M++N++O:=qad (by simp;omega)
abbrev js6:List AK:=[.agg [.any,.any,.sl .cell,.any,.any,.any,.any,.any,.sl .str],.agg [.any,.any,.sl .cell,.any,.any,.any,.any,.any,.sl .str],.any]
abbrev q_rlay (k r:Int) (L:List CD) (x y:Int) (hd:Bool) (mo:Int) (ti:ByteArray) (l:List ByteArray) (k' r':Int) (L':List CD) (x' y':Int) (hd':Bool) (mo':Int) (ti':ByteArray) (l':List ByteArray) (fl:Int):QA:=([.agg [.int .i64 k,.int .i64 r,.vec .cell L,.int .i64 x,.int .i64 y,.bool hd,.int .u8 mo,.str ti,.vec .str l],.agg [.int .i64 k',.int .i64 r',.vec .cell L',.int .i64 x',.int .i64 y',.bool hd',.int .u8 mo',.str ti',.vec .str l'],.int .u8 fl],(k=k'∧r=r')∧(ScrOk L l∧ScrOk L' l')∧(jai k r L x y mo ti l=true∧jai k' r' L' x' y' mo' ti' l'=true)∧(0≤mo∧0≤mo')∧(fl=0∨fl=4),.ret (.vec (.int .u8) (row1 fl k.toNat r.toNat L ti L' x'.toNat y'.toNat hd' ti')))
def sp_rlay:=spQ (u19 q_rlay)
theorem jkE:W19 (hA sp_rlay) q_rlay:=w19 (aA rfl)
theorem js7:Fre 135 sp_rlay:=ofT (u19 q_rlay) fun⟨k,r,L,x,y,hd,mo,ti,l,k',r',L',x',y',hd',mo',ti',l',fl⟩ hG=>tfi (.t [.any,.any] jkB jxg (.f [.sl .cell,.sl .cell] ja5 jlq .nil)) 0 jhc (by
 dsimp only[u19,q_rlay]at hG ⊢
 have zc:=Hk.mk (qaa @jqO (qaa @jfH (qaa @tq0 (qaa @tq1 @tq2))))
 obtain⟨⟨rfl,rfl⟩,⟨hs,hs'⟩,⟨hr1,hr2⟩,⟨hmo,hmo'⟩,hfl⟩:=hG
 obtain⟨K,R,X,Y,M,rfl,rfl,rfl,rfl,rfl,f1⟩:=jaj hr1 hmo
 obtain⟨K2,R2,X2,Y2,M2,e1,e2,rfl,rfl,rfl,f2⟩:=jaj hr2 hmo'
 obtain rfl:K=K2:=by omega
 obtain rfl:R=R2:=by omega
 simp only[Int.toNat_natCast]
 have hk:=f1.k1
 have hr:=f1.r1
 have hx2:=f2.x1
 have hy2:=f2.y1
 have ht2:=f2.ti1
 have hL:=f1.len
 have hL':=f2.len
 have hKR:K*R≤1920:=qaq (show K≤80 by omega) (show R≤24 by omega)
 have htk:qak ti'.size (jab ti')=jab ti':=qad (by rw[jaw];exact Nat.le_refl _)
 have hti:(jab ti').length=ti'.size:=jaw ti'
 obtain⟨h1,hh1⟩:∃b,b=[(K:Int),R,X2,Y2,jc8 fl hd' ti ti']++tit1 ti ti':=⟨_,rfl⟩
 have q1:h1.length≤70:=by
  rw[hh1,qac]
  unfold tit1
  split
  ·simp
  ·simp only[qaf,qaj,hti]
   omega
 have hrow:row1 fl K R L ti L' X2 Y2 hd' ti'=h1++((ysN K L L' R).length:Int)::rwsN K L L' R:=by rw[hh1,row1,qam]
 rw[hrow]
 have w1:IntKind.u8.wrap (K:Int)=K:=w_u8 (by omega)
 have w2:IntKind.u8.wrap (R:Int)=R:=w_u8 (by omega)
 have w3:IntKind.u8.wrap (X2:Int)=X2:=w_u8 (by omega)
 have w4:IntKind.u8.wrap (Y2:Int)=Y2:=w_u8 (by omega)
 have w5:IntKind.u8.wrap (ti'.size:Int)=ti'.size:=w_u8 (by omega)
 repeat' first|refine T.cut (a:=z83_1) (fun _:Unit=>⟨[(2,.int .u8 (fl+(if hd' then 1 else 0))),(3,.ptr 0 0 0),(4,.ptr 1 0 0)],[.box [.int .i64 K,.int .i64 R,.vec .cell L,.int .i64 X,.int .i64 Y,.bool hd,.int .u8 M,.str ti,.vec .str l],.box [.int .i64 K,.int .i64 R,.vec .cell L',.int .i64 X2,.int .i64 Y2,.bool hd',.int .u8 M2,.str ti',.vec .str l']]⟩) (fun _=>True) (Held.out ?_) (fun _ _=>Held.out ?_)|refine tU ?_|refine qaa ?_ ?_|(refine tI ?_;intro hyp)|intro hyp0|exact tZ|omega
 ·refine⟨?_⟩
  cases hd'<;>rcases hfl with rfl|rfl
  all_goals
   repeat' first|refine tU ?_|refine qaa ?_ ?_|(refine tI ?_;intro hyp)|intro hyp0|exact tZ|omega
   exact⟨(),qab [0,1] [] rfl (by simp only[PB,SAM,seval,rdB,Hk.out zc]<;>first|exact tE|decide)⟩
 refine⟨?_⟩
 repeat' first|refine T.cut (a:=z83_4) (fun _:Unit=>⟨[(2,.int .u8 (jc8 fl hd' ti ti')),(3,.ptr 0 0 0),(4,.ptr 1 0 0)],[.box [.int .i64 K,.int .i64 R,.vec .cell L,.int .i64 X,.int .i64 Y,.bool hd,.int .u8 M,.str ti,.vec .str l],.box [.int .i64 K,.int .i64 R,.vec .cell L',.int .i64 X2,.int .i64 Y2,.bool hd',.int .u8 M2,.str ti',.vec .str l']]⟩) (fun _=>True) (Held.out ?_) (fun _ _=>Held.out ?_)|refine tU ?_|refine qaa ?_ ?_|(refine tI ?_;intro hyp)|intro hyp0|exact tZ|omega
 ·refine⟨?_⟩
  have hor:(((fl+if hd'=true then 1 else 0).toNat ||| 2:Nat):Int)=fl+(if hd' then 1 else 0)+2:=by
   cases hd'<;>rcases hfl with rfl|rfl<;>decide
  have hw:=hor
  have hb:fl+(if hd' then 1 else 0)+2≤255:=by
   split<;>omega
  repeat' first|exact hb|refine tU ?_|refine qaa ?_ ?_|(refine tI ?_;intro hyp)|intro hyp0|exact tZ|omega
  ·exact⟨(),qab [0,1] [] rfl (by rw[jc8,if_neg (fun q=>hyp (jaC.1 q))];exact tF)⟩
  ·exact⟨(),qab [0,1] [] rfl (by rw[jc8,if_pos (jaC.2 hyp),Int.add_zero];exact tF)⟩
 refine⟨?_⟩
 have hand:(((jc8 fl hd' ti ti').toNat &&& 2:Nat):Int)=if jdp ti' ti then 0 else 2:=by
  unfold jc8
  cases hd'<;>cases jdp ti' ti<;>rcases hfl with rfl|rfl<;>decide
 obtain⟨F,hF⟩:∃F,F=jc8 fl hd' ti ti':=⟨_,rfl⟩
 have hFb:0≤F∧F≤255:=by
  rw[hF]
  unfold jc8
  (repeat' split)<;>omega
 rw[←hF]at hand hh1
 rw[←hF]
 repeat' first|refine T.cut (a:=z83_8) (fun _:Unit=>⟨[(3,.ptr 0 0 0),(4,.ptr 1 0 0),(7,.slice 2 0 1 h1.length h1.length)],[.box [.int .i64 K,.int .i64 R,.vec .cell L,.int .i64 X,.int .i64 Y,.bool hd,.int .u8 M,.str ti,.vec .str l],.box [.int .i64 K,.int .i64 R,.vec .cell L',.int .i64 X2,.int .i64 Y2,.bool hd',.int .u8 M2,.str ti',.vec .str l'],.seq (.int .u8) h1]⟩) (fun _=>True) (Held.out ?_) (fun _ _=>Held.out ?_)|refine tU ?_|refine qaa ?_ ?_|(refine tI ?_;intro hyp)|intro hyp0|exact tZ|omega
 ·refine⟨?_⟩
  have hw:=qaa w1 (qaa w2 (qaa w3 (qaa w4 (qaa w5 (qaa htk hand)))))
  by_cases hT:jdp ti' ti=true
  ·have e:h1=[(K:Int),R,X2,Y2,F]:=by rw[hh1,tit1,if_pos hT];rfl
   have hw2:=hT
   repeat' first|refine tU ?_|refine qaa ?_ ?_|(refine tI ?_;intro hyp)|intro hyp0|exact tZ|omega
   exact⟨(),qab [0,1,2] [] rfl (by rw[e];exact tF)⟩
  ·have e:h1=[(K:Int),R,X2,Y2,F]++(ti'.size:Int)::jab ti':=by rw[hh1,tit1,if_neg hT]
   have hw2:=Bool.eq_false_iff.2 hT
   repeat' first|refine tU ?_|refine qaa ?_ ?_|(refine tI ?_;intro hyp)|intro hyp0|exact tZ|omega
   exact⟨(),qab [0,1,5] [] rfl (by rw[e];exact tF)⟩
 refine⟨?_⟩
 have hrl:=fun y hy=>jlN (L1:=L) hL' hk.2 y hy
 have hyl:=joe K L L'
 have hb1:∀y,y≤R→IntKind.u8.wrap (y:Int)=y:=fun y hy=>w_u8 (by omega)
 have hrl0:=hrl R (Nat.le_refl _)
 repeat' first|refine tU ?_|refine qaa ?_ ?_|(refine tI ?_;intro hyp)|intro hyp0|exact tZ|omega
 refine T.loop (fun y:Nat=>⟨[(3,.ptr 0 0 0),(4,.ptr 1 0 0),(7,.slice 2 0 1 (h1++((ysN K L L' y).length:Int)::rwsN K L L' y).length (h1++((ysN K L L' y).length:Int)::rwsN K L L' y).length),(8,.int .i64 h1.length),(57,.int .i64 R),(58,.int .i64 y)],[.box [.int .i64 K,.int .i64 R,.vec .cell L,.int .i64 X,.int .i64 Y,.bool hd,.int .u8 M,.str ti,.vec .str l],.box [.int .i64 K,.int .i64 R,.vec .cell L',.int .i64 X2,.int .i64 Y2,.bool hd',.int .u8 M2,.str ti',.vec .str l'],.seq (.int .u8) (h1++((ysN K L L' y).length:Int)::rwsN K L L' y)]⟩) (fun y=>y≤R) (fun y=>R-y) 0 (by omega) (qab [0,1,4] [] rfl (by simp only[PB,SAM,seval,rdB,Hk.out zc];simp[rwsN,ysN])) (fun y hy=>?_)
 have hr1:=hrl y hy
 by_cases hyR:y<R
 ·have hm:=jch (y:=y) (n:=K) (N:=K*R) (by rw[qao K R];exact qag K hyR)
  have hrowL:=jaQ hL hyR
  have hrowL':=jaQ hL' hyR
  obtain⟨A,hA⟩:∃A,A=jas L K y:=⟨_,rfl⟩
  obtain⟨B,hB⟩:∃B,B=jas L' K y:=⟨_,rfl⟩
  have hw:qak (K:Nat) (List.drop (y*K) L)=A:=hA.symm
  have hw2:qak (K:Nat) (List.drop (y*K) L')=B:=hB.symm
  rw[←hA]at hrowL
  rw[←hB]at hrowL'
  obtain⟨n,hn⟩:∃n,n=(ysN K L L' y).length:=⟨_,rfl⟩
  obtain⟨t,ht⟩:∃t,t=rwsN K L L' y:=⟨_,rfl⟩
  have hyy:=hyl y
  rw[←hn]at hyy
  rw[←ht]at hr1
  rw[←hn,←ht]
  have hn1:IntKind.u8.wrap ((n:Int)+1)=(n:Int)+1:=w_u8 (by omega)
  have hy1:=hb1 y hy
  have hm2:(y+1)*K≤K*R:=by rw[qao K R];exact qag K hyR
  have hm3:y*K≤(y+1)*K:=qag K (by omega)
  have hm4:(y+1)*K≤L'.length:=by omega
  have hm5:(y+1)*K≤L.length:=by omega
  have hw3:=qaa (jx9 h1 t n) (qaa (jxh h1 t n) (qaa hn1 hy1))
  have hw4:qak (h1.length+(t.length+1)) (h1++((n:Int)+1)::t)=h1++((n:Int)+1)::t:=qad (by simp)
  by_cases hBA:B=A
  ·have e:=js5 (k:=K) (L1:=L) (L2:=L') (y:=y) (by rw[←hA,←hB];exact hBA)
   rw[←ht,←hn]at e
   have hw5:=eq_true hBA
   repeat' first|exact hm3|exact hm4|exact hm5|refine tU ?_|refine qaa ?_ ?_|(refine tI ?_;intro hyp)|intro hyp0|exact tZ|omega
   exact⟨y+1,by omega,by omega,qab [0,1,2] [] rfl (by rw[e.1,e.2];exact tF)⟩
  ·have e:=jpn (k:=K) (L1:=L) (L2:=L') (y:=y) (by rw[←hA,←hB];exact hBA)
   rw[←ht,←hn,rowN,←hB]at e
   have hw5:=eq_false hBA
   repeat' first|exact hm3|exact hm4|exact hm5|refine tU ?_|refine qaa ?_ ?_|(refine tI ?_;intro hyp)|intro hyp0|exact tZ|omega
   obtain⟨u,hu⟩:∃u,u=h1++((n:Int)+1)::(t++[(y:Int)]):=⟨_,rfl⟩
   have hul:u.length=h1.length+(t.length+1)+1:=by rw[hu];simp;omega
   have hfl:∀j,j≤B.length→((B.take j).flatMap cellN).length≤9*j:=fun j hj=>by
    have h2:∀l:List CD,(l.flatMap cellN).length=9*l.length:=fun l=>by
     induction l with
     | nil=>rfl
     | cons c l ih=>rw[qan,qac,ih,jeV,qaf];omega
    rw[h2,List.length_take]
    omega
   refine T.loop (fun j:Nat=>⟨[(3,.ptr 0 0 0),(4,.ptr 1 0 0),(7,.slice 2 0 1 (u++(B.take j).flatMap cellN).length (u++(B.take j).flatMap cellN).length),(8,.int .i64 h1.length),(57,.int .i64 R),(58,.int .i64 y),(98,.vec .cell B),(99,.int .i64 B.length),(100,.int .i64 j)],[.box [.int .i64 K,.int .i64 R,.vec .cell L,.int .i64 X,.int .i64 Y,.bool hd,.int .u8 M,.str ti,.vec .str l],.box [.int .i64 K,.int .i64 R,.vec .cell L',.int .i64 X2,.int .i64 Y2,.bool hd',.int .u8 M2,.str ti',.vec .str l'],.seq (.int .u8) (u++(B.take j).flatMap cellN)]⟩) (fun j=>j≤B.length) (fun j=>B.length-j) 0 (by omega) (qab [0,1,4] [] rfl (by simp only[List.take_zero,qap,List.append_nil,hul,hu];exact tF)) (fun j hj=>?_)
   have hfj:=hfl j hj
   by_cases hjB:j<B.length
   ·have hmem:B.getD j default∈L':=by
     have:=jaV hjB
     rw[hB]at this ⊢
     exact jci this
    have hcw:=hs'.wf _ hmem
    have hru:=f2.runes _ hmem
    have c1:=hcw.rune
    have c2:=hcw.fg
    have c3:=hcw.bg
    have c4:=hcw.attrs
    have hsn:=jkD hjB
    have hw6:IntKind.u64.wrap (B.getD j default).rune=(B.getD j default).rune:=jh3 (by omega)
    obtain⟨N4,h4⟩:∃N,N=numN 4 (B.getD j default).rune.toNat:=⟨_,rfl⟩
    obtain⟨N2,h2⟩:∃N,N=numN 2 (B.getD j default).fg.toNat:=⟨_,rfl⟩
    obtain⟨N3,h3⟩:∃N,N=numN 2 (B.getD j default).bg.toNat:=⟨_,rfl⟩
    have l4:N4.length=4:=by rw[h4,jbB]
    have l2:N2.length=2:=by rw[h2,jbB]
    have l3:N3.length=2:=by rw[h3,jbB]
    obtain⟨W,hW⟩:∃W,W=u++(B.take j).flatMap cellN:=⟨_,rfl⟩
    have hWl:W.length≤100000:=by rw[hW,qac];omega
    have hsn2:u++(B.take (j+1)).flatMap cellN=W++N4++N2++N3++[(B.getD j default).attrs]:=by rw[hsn,hW,cellN,←h4,←h2,←h3];simp
    rw[←hW]
    have hw7:=qaa hw5 (qaa hw6 (qaa h4.symm (qaa h2.symm (qaa h3.symm (@tkD Int)))))
    clear hw5 hw6 hsn hfj hfl
    have hw5:=hw7
    repeat' first|refine tU ?_|refine qaa ?_ ?_|(refine tI ?_;intro hyp)|intro hyp0|exact tZ|omega
    have hl5:=congrArg List.length hsn2
    simp only[qac,qaf,qaj]at hl5
    exact⟨j+1,by omega,by omega,qab [0,1,11] [] rfl (by rw[hsn2];exact tF)⟩
   ·have e2:B.take j=B:=qad (by omega)
    rw[e2]
    repeat' first|refine tU ?_|refine qaa ?_ ?_|(refine tI ?_;intro hyp)|intro hyp0|exact tZ|omega
    exact⟨y+1,by omega,by omega,qab [0,1,2] [] rfl (by rw[e.1,e.2,hu];exact tF)⟩
 ·obtain rfl:y=R:=by omega
  repeat' first|refine tU ?_|refine qaa ?_ ?_|(refine tI ?_;intro hyp)|intro hyp0|exact tZ|omega
  exact qab [2] [] rfl (by exact tF))
theorem jfd {k r:Int}{L:List CD}{x y mo:Int}{ti:ByteArray}{l:List ByteArray}(h:jaL k r L x y mo ti l=true):jai k r L x y mo ti l=true∧mo=0:=by
 unfold jaL at h
 simp only[Bool.and_eq_true,beq_iff_eq]at h
 exact⟨h.1.1.1,h.1.2⟩
abbrev jpo:List AK:=[.agg [.any,.any,.sl .cell,.any,.any,.any,.any,.any,.sl .str]]
abbrev q_rfull (k r:Int) (L:List CD) (x y:Int) (hd:Bool) (mo:Int) (ti:ByteArray) (l:List ByteArray):QA:=([.agg [.int .i64 k,.int .i64 r,.vec .cell L,.int .i64 x,.int .i64 y,.bool hd,.int .u8 mo,.str ti,.vec .str l]],(ScrOk L l∧SLen ti)∧0≤mo,.ret (.tup [.vec (.int .u8) (jbx k r L x y hd mo ti l),.int .i64 (errN (jaL k r L x y mo ti l))]))
def sp_rfull:=spQ (u9 q_rfull)
theorem jjB:W9 (hA sp_rfull) q_rfull:=w9 (aA rfl)
theorem jpp:Fre 100 sp_rfull:=ofT (u9 q_rfull) fun⟨k,r,L,x,y,hd,mo,ti,l⟩ hG=>tfi (.f jjq jea jjr (.t [.any,.any] jbU jjA (.t js6 jhc js7 .nil))) 0 jfU (by
 dsimp only[u9,q_rfull]at hG ⊢
 have zc:=Hk.mk (qaa @jeQ (qaa @jeW (qaa @jkE (qaa @tq0 (qaa @tq1 @tq2)))))
 obtain⟨⟨hs,ht⟩,hmo⟩:=hG
 cases hw:jaL k r L x y mo ti l
 ·have e:jbx k r L x y hd mo ti l=[]:=by rw[jbx,if_neg (by rw[hw];decide)]
  repeat' first|exact hs|refine tU ?_|refine qaa ?_ ?_|(refine tI ?_;intro hyp)|intro hyp0|exact tZ|omega
  exact qab [99] [] rfl (by rw[e];simp only[PB,SAM,seval,rdB,Hk.out zc];simp[crs,crsL,jaE,errN])
 ·have hR:=(jfd hw).1
  obtain⟨K,R,X,Y,M,rfl,rfl,rfl,rfl,rfl,f⟩:=jaj hR hmo
  have hk:=f.k1
  have hr:=f.r1
  have hKR:K*R≤1920:=qaq (show K≤80 by omega) (show R≤24 by omega)
  have hbr:=jca hk hr
  have hbo:=jfc K R (by omega)
  have hf:jb5 (K:Int) R=true:=jbA.2 (by omega)
  have hw2:qak (K*R) (qae (K*R) blank0)=jah K R:=qad (by simp)
  have e:jbx (K:Int) R L X Y hd M ti l=row1 4 K R (jah K R) (bs []) L X Y hd ti:=by
   rw[jbx,if_pos hw]
   rfl
  repeat' first|exact hs|exact hf|exact hbo|exact hbr|exact hR|exact .inr trivial|refine tU ?_|refine qaa ?_ ?_|(refine tI ?_;intro hyp)|intro hyp0|exact tZ|omega
  exact qab [4] [] rfl (by rw[e];simp only[errN];exact tF))
abbrev jxi:List AK:=[.agg [.any,.any,.sl .cell,.any,.any,.any,.any,.any,.sl .str],.agg [.any,.any,.sl .cell,.any,.any,.any,.any,.any,.sl .str]]
abbrev q_renc (k r:Int) (L:List CD) (x y:Int) (hd:Bool) (mo:Int) (ti:ByteArray) (l:List ByteArray) (k' r':Int) (L':List CD) (x' y':Int) (hd':Bool) (mo':Int) (ti':ByteArray) (l':List ByteArray):QA:=([.agg [.int .i64 k,.int .i64 r,.vec .cell L,.int .i64 x,.int .i64 y,.bool hd,.int .u8 mo,.str ti,.vec .str l],.agg [.int .i64 k',.int .i64 r',.vec .cell L',.int .i64 x',.int .i64 y',.bool hd',.int .u8 mo',.str ti',.vec .str l']],((ScrOk L l∧SLen ti)∧0≤mo)∧((ScrOk L' l'∧SLen ti')∧0≤mo'),.ret (.tup [.vec (.int .u8) (jct k r L x y hd mo ti l k' r' L' x' y' hd' mo' ti' l'),.int .i64 (errN (jaL k r L x y mo ti l&&jaL k' r' L' x' y' mo' ti' l'))]))
def sp_renc:=spQ (u18 q_renc)
theorem jqP:W18 (hA sp_renc) q_renc:=w18 (aA rfl)
theorem jxj:Fre 99 sp_renc:=ofT (u18 q_renc) fun⟨k,r,L,x,y,hd,mo,ti,l,k',r',L',x',y',hd',mo',ti',l'⟩ hG=>tfi (.f jjq jea jjr (.t jpo jfU jpp (.t js6 jhc js7 .nil))) 0 jgF (by
 dsimp only[u18,q_renc]at hG ⊢
 have zc:=Hk.mk (qaa @jeQ (qaa @jjB (qaa @jkE (qaa @tq0 (qaa @tq1 @tq2)))))
 obtain⟨⟨⟨hs,ht⟩,hmo⟩,⟨hs',ht'⟩,hmo'⟩:=hG
 cases hw:jaL k r L x y mo ti l
 ·have e:jct k r L x y hd mo ti l k' r' L' x' y' hd' mo' ti' l'=[]:=by rw[jct,if_neg (by rw[hw];simp)]
  repeat' first|exact hs|refine tU ?_|refine qaa ?_ ?_|(refine tI ?_;intro hyp)|intro hyp0|exact tZ|omega
  exact qab [99] [] rfl (by rw[e];simp only[PB,SAM,seval,rdB,Hk.out zc];simp[crs,crsL,jaE,errN])
 ·cases hw2:jaL k' r' L' x' y' mo' ti' l'
  ·have e:jct k r L x y hd mo ti l k' r' L' x' y' hd' mo' ti' l'=[]:=by rw[jct,if_neg (by rw[hw2];simp)]
   repeat' first|exact hs|exact hs'|refine tU ?_|refine qaa ?_ ?_|(refine tI ?_;intro hyp)|intro hyp0|exact tZ|omega
   exact qab [99] [] rfl (by rw[e];simp only[PB,SAM,seval,rdB,Hk.out zc];simp[crs,crsL,jaE,errN])
  ·have hR:=(jfd hw).1
   have hR2:=(jfd hw2).1
   have e0:jct k r L x y hd mo ti l k' r' L' x' y' hd' mo' ti' l'=if k=k'∧r=r' then row1 0 k.toNat r.toNat L ti L' x'.toNat y'.toNat hd' ti' else jbx k' r' L' x' y' hd' mo' ti' l':=by rw[jct,if_pos (by rw[hw,hw2];rfl)]
   by_cases hkr:k=k'∧r=r'
   ·rw[if_pos hkr]at e0
    repeat' first|exact hs|exact hs'|exact hR|exact hR2|exact .inl trivial|refine tU ?_|refine qaa ?_ ?_|(refine tI ?_;intro hyp)|intro hyp0|exact tZ|omega
    exact qab [2] [] rfl (by rw[e0];simp only[errN];exact tF)
   ·rw[if_neg hkr]at e0
    repeat' first|exact hs|exact hs'|refine tU ?_|refine qaa ?_ ?_|(refine tI ?_;intro hyp)|intro hyp0|exact tZ|omega
    exact qab [2] [] rfl (by rw[e0];exact tF))
end
end
end Go.Proofs.YtienkkicehmchaaGreatDoor
