/- Texts of this claim, merged by a program of this claim: FRwD. -/
import Derived.Test.YtienkkicehmchaaGreatDoorDl30
import Derived.Test.YtienkkicehmchaaGreatDoorDl44
import Derived.Test.YtienkkicehmchaaGreatDoorDl46
namespace Go.Proofs.YtienkkicehmchaaGreatDoor
open And renaming intro→qaa
open Cos renaming intro→qab
open List renaming length_append→qac,take_of_length_le→qad,replicate→qae,length_cons→qaf,take→qag
noncomputable section
set_option linter.unusedVariables false
set_option linter.unusedSimpArgs false
section
open Go.RowKit
set_option maxRecDepth 100000
set_option maxHeartbeats 4000000
abbrev q_r1num (n s:Int):QA:=([.int .u64 n,.int .i64 s],(0≤n∧n<18446744073709551616)∧(1≤s∧s≤8),.ret (.vec (.int .u8) (numN s.toNat n.toNat)))
def sp_r1num:=spQ (u2 q_r1num)
theorem jox:W2 (hA sp_r1num) q_r1num:=w2 (aA rfl)
theorem jvs:Fre 153 sp_r1num:=ofT (u2 q_r1num) fun⟨n,s⟩ hG=>tfi .nil 0 jni (by
 dsimp only[u2,q_r1num]at hG ⊢
 obtain⟨⟨hn0,hn⟩,h1,h8⟩:=hG
 obtain⟨n,rfl⟩:∃m:Nat,n=m:=⟨n.toNat,by omega⟩
 obtain⟨s,rfl⟩:∃m:Nat,s=m:=⟨s.toNat,by omega⟩
 simp only[Int.toNat_natCast]
 repeat' first|refine tU ?_|refine qaa ?_ ?_|(refine tI ?_;intro hyp)|intro hyp0|exact tZ|omega
 refine T.loop (fun j:Nat=>⟨[(0,.int .u64 ((n / 256 ^ j:Nat):Int)),(1,.int .i64 s),(5,.slice 0 0 1 s s),(6,.int .i64 j)],[.seq (.int .u8) (qae (s-j) 0++numN j n)]⟩) (fun j=>j≤s) (fun j=>s-j) 0 (by omega) (qab [0] [] rfl (by simp only[PB,SAM,seval,rdB,Hk.out zc];simp[numN])) (fun j hj=>?_)
 have hdv:n / 256 ^ j≤n:=Nat.div_le_self _ _
 have hln:(qae (s-j) (0:Int)++numN j n).length=s:=by rw[qac,jbB,List.length_replicate];omega
 by_cases hjs:j<s
 ·have hst:=jpm (n:=n) hjs
  have hw:IntKind.u8.wrap ((n / 256 ^ j % 256:Nat):Int)=((n / 256 ^ j % 256:Nat):Int):=w_u8 (by omega)
  have hw2:((s:Int)-1-j).toNat=s-1-j:=by omega
  have hw3:IntKind.u8.wrap (((n / 256 ^ j:Nat):Int) % 256)=((n / 256 ^ j % 256:Nat):Int):=w_u8 (n:=((n / 256 ^ j % 256:Nat):Int)) (by omega)
  have hdd:n / 256 ^ j / 256=n / 256 ^ (j+1):=by rw[Nat.div_div_eq_div_mul,Nat.pow_succ]
  have hnn:(0:Int)≤((n / 256 ^ j:Nat):Int) / 256:=Int.ediv_nonneg (Int.natCast_nonneg _) (by decide)
  repeat' first|with_reducible exact hnn|refine tU ?_|refine qaa ?_ ?_|(refine tI ?_;intro hyp)|intro hyp0|exact tZ|omega
  exact⟨j+1,by omega,by omega,qab [0] [] rfl (by rw[←hst,←hdd];exact tF)⟩
 ·obtain rfl:j=s:=by omega
  have hw:qae (j-j) (0:Int)++numN j n=numN j n:=by rw[Nat.sub_self];rfl
  repeat' first|refine tU ?_|refine qaa ?_ ?_|(refine tI ?_;intro hyp)|intro hyp0|exact tZ|omega
  exact qab [0] [] rfl (by rw[jbB];exact tF))
abbrev q_rcb (c:CD):QA:=([ja4 c],CWf c∧0≤c.rune,.ret (.vec (.int .u8) (cellN c)))
def sp_rcb:=spQ (u1 q_rcb)
theorem jtJ:W1 (hA sp_rcb) q_rcb:=w1 (aA rfl)
theorem jyk:Fre 109 sp_rcb:=ofT (u1 q_rcb) fun c hG=>tfi (.t [.any,.any] jni jvs .nil) 0 jeY (by
 dsimp only[u1,q_rcb]at hG ⊢
 have zc:=Hk.mk (qaa @jox (qaa @tq0 (qaa @tq1 @tq2)))
 obtain⟨hcw,hru⟩:=hG
 have c1:=hcw.rune
 have c2:=hcw.fg
 have c3:=hcw.bg
 have c4:=hcw.attrs
 have hw:IntKind.u64.wrap c.rune=c.rune:=jh3 (by omega)
 obtain⟨N4,h4⟩:∃N,N=numN 4 c.rune.toNat:=⟨_,rfl⟩
 obtain⟨N2,h2⟩:∃N,N=numN 2 c.fg.toNat:=⟨_,rfl⟩
 obtain⟨N3,h3⟩:∃N,N=numN 2 c.bg.toNat:=⟨_,rfl⟩
 have l4:N4.length=4:=by rw[h4,jbB]
 have l2:N2.length=2:=by rw[h2,jbB]
 have l3:N3.length=2:=by rw[h3,jbB]
 have e:cellN c=N4++N2++N3++[c.attrs]:=by rw[cellN,←h4,←h2,←h3];simp
 have hw2:=qaa h4.symm (qaa h2.symm (qaa h3.symm (@tkD Int)))
 repeat' first|refine tU ?_|refine qaa ?_ ?_|(refine tI ?_;intro hyp)|intro hyp0|exact tZ|omega
 exact qab [7] [] rfl (by rw[e];exact tF))
abbrev jnj:List AK:=[.agg [.any,.any,.sl .cell,.any,.any,.any,.any,.any,.sl .str],.agg [.any,.any,.sl .cell,.any,.any,.any,.any,.any,.sl .str],.any]
abbrev q_r1diff (k r:Int) (L:List CD) (x y:Int) (hd:Bool) (mo:Int) (ti:ByteArray) (l:List ByteArray) (k' r':Int) (L':List CD) (x' y':Int) (hd':Bool) (mo':Int) (ti':ByteArray) (l':List ByteArray) (fl:Int):QA:=([.agg [.int .i64 k,.int .i64 r,.vec .cell L,.int .i64 x,.int .i64 y,.bool hd,.int .u8 mo,.str ti,.vec .str l],.agg [.int .i64 k',.int .i64 r',.vec .cell L',.int .i64 x',.int .i64 y',.bool hd',.int .u8 mo',.str ti',.vec .str l'],.int .i64 fl],(k=k'∧r=r')∧(ScrOk L l∧ScrOk L' l')∧(jai k r L x y mo ti l=true∧jai k' r' L' x' y' mo' ti' l'=true)∧(0≤mo∧0≤mo')∧(fl=0∨fl=4),.ret (.vec (.int .u8) (row1 fl k.toNat r.toNat L ti L' x'.toNat y'.toNat hd' ti')))
def sp_r1diff:=spQ (u19 q_r1diff)
theorem jhT:W19 (hA sp_r1diff) q_r1diff:=w19 (aA rfl)
theorem jnk:Fre 61 sp_r1diff:=ofT (u19 q_r1diff) fun⟨k,r,L,x,y,hd,mo,ti,l,k',r',L',x',y',hd',mo',ti',l',fl⟩ hG=>tfi (.f [.sl .cell,.sl .cell] je4 jlp (.t [.any] jeY jyk .nil)) 0 jhj (by
 dsimp only[u19,q_r1diff]at hG ⊢
 have zc:=Hk.mk (qaa @jfG (qaa @jtJ (qaa @tq0 (qaa @tq1 @tq2))))
 obtain⟨⟨rfl,rfl⟩,⟨hs,hs'⟩,⟨hr1,hr2⟩,⟨hmo,hmo'⟩,hfl⟩:=hG
 obtain⟨K,R,X,Y,M,rfl,rfl,rfl,rfl,rfl,f1⟩:=jaj hr1 hmo
 obtain⟨K2,R2,X2,Y2,M2,e1,e2,rfl,rfl,rfl,f2⟩:=jaj hr2 hmo'
 obtain rfl:K=K2:=by omega
 obtain rfl:R=R2:=by omega
 simp only[Int.toNat_natCast]
 have hk:=f1.k1
 have hr:=f1.r1
 have hx2:=f2.x1
 have hy2:=f2.y1
 have ht2:=f2.ti1
 have hL:=f1.len
 have hL':=f2.len
 have hKR:K*R≤1920:=Nat.mul_le_mul (show K≤80 by omega) (show R≤24 by omega)
 have htk:qag ti'.size (jab ti')=jab ti':=qad (by rw[jaw];exact Nat.le_refl _)
 have hti:(jab ti').length=ti'.size:=jaw ti'
 have w1:IntKind.u8.wrap (K:Int)=K:=w_u8 (by omega)
 have w2:IntKind.u8.wrap (R:Int)=R:=w_u8 (by omega)
 have w3:IntKind.u8.wrap (X2:Int)=X2:=w_u8 (by omega)
 have w4:IntKind.u8.wrap (Y2:Int)=Y2:=w_u8 (by omega)
 have w5:IntKind.u8.wrap (ti'.size:Int)=ti'.size:=w_u8 (by omega)
 repeat' first|refine T.cut (a:=z123_1) (fun _:Unit=>⟨[(2,.int .i64 (fl+(if hd' then 1 else 0))),(3,.ptr 0 0 0),(4,.ptr 1 0 0)],[.box [.int .i64 K,.int .i64 R,.vec .cell L,.int .i64 X,.int .i64 Y,.bool hd,.int .u8 M,.str ti,.vec .str l],.box [.int .i64 K,.int .i64 R,.vec .cell L',.int .i64 X2,.int .i64 Y2,.bool hd',.int .u8 M2,.str ti',.vec .str l']]⟩) (fun _=>True) (Held.out ?_) (fun _ _=>Held.out ?_)|refine tU ?_|refine qaa ?_ ?_|(refine tI ?_;intro hyp)|intro hyp0|exact tZ|omega
 ·refine⟨?_⟩
  cases hd'<;>rcases hfl with rfl|rfl
  all_goals
   repeat' first|refine tU ?_|refine qaa ?_ ?_|(refine tI ?_;intro hyp)|intro hyp0|exact tZ|omega
   exact⟨(),qab [0,1] [] rfl (by simp only[PB,SAM,seval,rdB,Hk.out zc]<;>first|exact tE|decide)⟩
 refine⟨?_⟩
 obtain⟨B0,hT⟩:∃B:Bool,B=!decide (ti'=ti):=⟨_,rfl⟩
 have hF0:jc8 fl hd' ti ti'=fl+(if hd' then 1 else 0)+(if B0 then 2 else 0):=by
  rw[hT,jc8]
  by_cases q:ti'=ti
  ·rw[if_pos (jaC.2 q)]
   simp[q]
  ·rw[if_neg (fun z=>q (jaC.1 z))]
   simp[q]
 have hw:=hT.symm
 repeat' first|refine T.cut (a:=z123_5) (fun _:Unit=>⟨[(2,.int .i64 (jc8 fl hd' ti ti')),(3,.ptr 0 0 0),(4,.ptr 1 0 0),(7,.bool B0)],[.box [.int .i64 K,.int .i64 R,.vec .cell L,.int .i64 X,.int .i64 Y,.bool hd,.int .u8 M,.str ti,.vec .str l],.box [.int .i64 K,.int .i64 R,.vec .cell L',.int .i64 X2,.int .i64 Y2,.bool hd',.int .u8 M2,.str ti',.vec .str l']]⟩) (fun _=>True) (Held.out ?_) (fun _ _=>Held.out ?_)|refine tU ?_|refine qaa ?_ ?_|(refine tI ?_;intro hyp)|intro hyp0|exact tZ|omega
 ·refine⟨?_⟩
  have hFb:fl+(if hd' then 1 else 0)≤5∧0≤fl+(if hd' then 1 else 0):=by split<;>omega
  obtain⟨F1,hF1⟩:∃F,F=fl+(if hd' then 1 else 0):=⟨_,rfl⟩
  rw[←hF1]at hF0 hFb ⊢
  rw[hF0]
  clear hT
  cases B0
  ·repeat' first|refine tU ?_|refine qaa ?_ ?_|(refine tI ?_;intro hyp)|intro hyp0|exact tZ|omega
   exact⟨(),qab [0,1] [] rfl (by simp only[Bool.false_eq_true,if_false,Int.add_zero];exact tF)⟩
  ·repeat' first|refine tU ?_|refine qaa ?_ ?_|(refine tI ?_;intro hyp)|intro hyp0|exact tZ|omega
   exact⟨(),qab [0,1] [] rfl (by simp only[if_true];exact tF)⟩
 refine⟨?_⟩
 obtain⟨F,hF⟩:∃F,F=jc8 fl hd' ti ti':=⟨_,rfl⟩
 have hFb:0≤F∧F≤255:=by
  rw[hF]
  unfold jc8
  (repeat' split)<;>omega
 have w6:IntKind.u8.wrap F=F:=w_u8 (by omega)
 obtain⟨h1,hh1⟩:∃b,b=[(K:Int),R,X2,Y2,F]++tit1 ti ti':=⟨_,rfl⟩
 have q1:h1.length≤70:=by
  rw[hh1,qac]
  unfold tit1
  split
  ·simp
  ·simp only[qaf,List.length_nil,hti]
   omega
 have hrow:row1 fl K R L ti L' X2 Y2 hd' ti'=h1++((ysN K L L' R).length:Int)::rwsN K L L' R:=by rw[hh1,row1,hF,List.append_assoc]
 rw[hrow,←hF]
 clear hw
 have hw:=qaa w1 (qaa w2 (qaa w3 (qaa w4 (qaa w5 (qaa htk w6)))))
 repeat' first|refine T.cut (a:=z123_9) (fun _:Unit=>⟨[(3,.ptr 0 0 0),(4,.ptr 1 0 0),(8,.slice 2 0 1 h1.length h1.length)],[.box [.int .i64 K,.int .i64 R,.vec .cell L,.int .i64 X,.int .i64 Y,.bool hd,.int .u8 M,.str ti,.vec .str l],.box [.int .i64 K,.int .i64 R,.vec .cell L',.int .i64 X2,.int .i64 Y2,.bool hd',.int .u8 M2,.str ti',.vec .str l'],.seq (.int .u8) h1]⟩) (fun _=>True) (Held.out ?_) (fun _ _=>Held.out ?_)|refine tU ?_|refine qaa ?_ ?_|(refine tI ?_;intro hyp)|intro hyp0|exact tZ|omega
 ·refine⟨?_⟩
  by_cases hTT:ti'=ti
  ·have e:h1=[(K:Int),R,X2,Y2,F]:=by rw[hh1,tit1,if_pos (jaC.2 hTT)];rfl
   obtain rfl:B0=false:=by rw[hT,decide_eq_true hTT];rfl
   repeat' first|refine tU ?_|refine qaa ?_ ?_|(refine tI ?_;intro hyp)|intro hyp0|exact tZ|omega
   exact⟨(),qab [0,1,2] [] rfl (by rw[e];exact tF)⟩
  ·have e:h1=[(K:Int),R,X2,Y2,F]++(ti'.size:Int)::jab ti':=by rw[hh1,tit1,if_neg (fun z=>hTT (jaC.1 z))]
   obtain rfl:B0=true:=by rw[hT,decide_eq_false hTT];rfl
   repeat' first|refine tU ?_|refine qaa ?_ ?_|(refine tI ?_;intro hyp)|intro hyp0|exact tZ|omega
   exact⟨(),qab [0,1,5] [] rfl (by rw[e];exact tF)⟩
 refine⟨?_⟩
 clear hw
 have hrl:=fun y hy=>jlN (L1:=L) hL' hk.2 y hy
 have hyl:=joe K L L'
 have hb1:∀y,y≤R→IntKind.u8.wrap (y:Int)=y:=fun y hy=>w_u8 (by omega)
 repeat' first|refine tU ?_|refine qaa ?_ ?_|(refine tI ?_;intro hyp)|intro hyp0|exact tZ|omega
 refine T.loop (fun y:Nat=>⟨[(3,.ptr 0 0 0),(4,.ptr 1 0 0),(8,.slice 2 0 1 h1.length h1.length),(9,.slice 3 0 1 (rwsN K L L' y).length (rwsN K L L' y).length),(10,.int .i64 (ysN K L L' y).length),(11,.int .i64 y)],[.box [.int .i64 K,.int .i64 R,.vec .cell L,.int .i64 X,.int .i64 Y,.bool hd,.int .u8 M,.str ti,.vec .str l],.box [.int .i64 K,.int .i64 R,.vec .cell L',.int .i64 X2,.int .i64 Y2,.bool hd',.int .u8 M2,.str ti',.vec .str l'],.seq (.int .u8) h1,.seq (.int .u8) (rwsN K L L' y)]⟩) (fun y=>y≤R) (fun y=>R-y) 0 (by omega) (qab [0,1,2,3] [] rfl (by simp only[PB,SAM,seval,rdB,Hk.out zc];simp[rwsN,ysN])) (fun y hy=>?_)
 have hr1:=hrl y hy
 by_cases hyR:y<R
 ·have hm:=jch (y:=y) (n:=K) (N:=K*R) (by rw[Nat.mul_comm K R];exact Nat.mul_le_mul_right K hyR)
  have hrowL:=jaQ hL hyR
  have hrowL':=jaQ hL' hyR
  obtain⟨A,hA⟩:∃A,A=jas L K y:=⟨_,rfl⟩
  obtain⟨B,hB⟩:∃B,B=jas L' K y:=⟨_,rfl⟩
  have hw:qag (K:Nat) (List.drop (y*K) L)=A:=hA.symm
  have hw2:qag (K:Nat) (List.drop (y*K) L')=B:=hB.symm
  rw[←hA]at hrowL
  rw[←hB]at hrowL'
  obtain⟨n,hn⟩:∃n,n=(ysN K L L' y).length:=⟨_,rfl⟩
  obtain⟨t,ht⟩:∃t,t=rwsN K L L' y:=⟨_,rfl⟩
  have hyy:=hyl y
  rw[←hn]at hyy
  rw[←ht]at hr1
  rw[←hn,←ht]
  have hy1:=hb1 y hy
  have hm2:(y+1)*K≤K*R:=by rw[Nat.mul_comm K R];exact Nat.mul_le_mul_right K hyR
  have hm3:y*K+K≤K*R:=by rw[←Nat.succ_mul];exact hm2
  have hm4:y*K+K≤L'.length:=by omega
  have hm5:y*K+K≤L.length:=by omega
  have hm6:((y:Int)*K+K).toNat=y*K+K:=by
   rw[←Int.natCast_mul]
   omega
  have hm7:(y:Int)*K=((y*K:Nat):Int):=by simp
  have hw3:=qaa hy1 hm6
  by_cases hBA:A=B
  ·have e:=js5 (k:=K) (L1:=L) (L2:=L') (y:=y) (by rw[←hA,←hB,hBA])
   rw[←ht,←hn]at e
   have hw5:=eq_true hBA
   repeat' first|exact hm3|exact hm4|exact hm5|refine tU ?_|refine qaa ?_ ?_|(refine tI ?_;intro hyp)|intro hyp0|exact tZ|omega
   exact⟨y+1,by omega,by omega,qab [0,1,2,3] [] rfl (by rw[e.1,e.2];exact tF)⟩
  ·have e:=jpn (k:=K) (L1:=L) (L2:=L') (y:=y) (by rw[←hA,←hB];exact fun q=>hBA q.symm)
   rw[←ht,←hn,rowN,←hB]at e
   have hw5:=eq_false hBA
   repeat' first|exact hm3|exact hm4|exact hm5|refine tU ?_|refine qaa ?_ ?_|(refine tI ?_;intro hyp)|intro hyp0|exact tZ|omega
   obtain⟨u,hu⟩:∃u,u=t++[(y:Int)]:=⟨_,rfl⟩
   have hul:u.length=t.length+1:=by rw[hu];simp
   have hfl:∀j,j≤B.length→((B.take j).flatMap cellN).length≤9*j:=fun j hj=>by
    have h2:∀l:List CD,(l.flatMap cellN).length=9*l.length:=fun l=>by
     induction l with
     | nil=>rfl
     | cons c l ih=>rw[List.flatMap_cons,qac,ih,jeV,qaf];omega
    rw[h2,List.length_take]
    omega
   refine T.loop (fun j:Nat=>⟨[(3,.ptr 0 0 0),(4,.ptr 1 0 0),(8,.slice 2 0 1 h1.length h1.length),(9,.slice 3 0 1 (u++(B.take j).flatMap cellN).length (u++(B.take j).flatMap cellN).length),(10,.int .i64 ((n:Int)+1)),(11,.int .i64 y),(12,.int .i64 j)],[.box [.int .i64 K,.int .i64 R,.vec .cell L,.int .i64 X,.int .i64 Y,.bool hd,.int .u8 M,.str ti,.vec .str l],.box [.int .i64 K,.int .i64 R,.vec .cell L',.int .i64 X2,.int .i64 Y2,.bool hd',.int .u8 M2,.str ti',.vec .str l'],.seq (.int .u8) h1,.seq (.int .u8) (u++(B.take j).flatMap cellN)]⟩) (fun j=>j≤B.length) (fun j=>B.length-j) 0 (by omega) (qab [0,1,2,5] [] rfl (by simp only[List.take_zero,List.flatMap_nil,List.append_nil,hul,hu];exact tF)) (fun j hj=>?_)
   have hfj:=hfl j hj
   by_cases hjB:j<B.length
   ·have hjB2:=hjB
    have hmem:B.getD j default∈L':=by
     have:=jaV hjB
     rw[hB]at this ⊢
     exact jci this
    have hcw:=hs'.wf _ hmem
    have hru:=f2.runes _ hmem
    have hsn:=jkD hjB
    have hat:L'.getD (y*K+j) default=B.getD j default:=by
     rw[←hw2,List.getD_eq_getElem?_getD,List.getD_eq_getElem?_getD,List.getElem?_take_of_lt (by omega),List.getElem?_drop]
    have hm8:((y:Int)*K+j).toNat=y*K+j:=by
     rw[hm7]
     omega
    have hlc:=jeV (B.getD j default)
    obtain⟨Z,hZ⟩:∃Z,Z=u++(B.take j).flatMap cellN:=⟨_,rfl⟩
    have hZl:Z.length≤100000:=by rw[hZ,qac];omega
    have hsn2:u++(B.take (j+1)).flatMap cellN=Z++cellN (B.getD j default):=by rw[hsn,hZ];simp
    rw[←hZ]
    clear hw hw2 hw3 hw5
    have hw:=qaa hm8 hat
    have hm9:y*K+j<L'.length:=by omega
    have hm10:(0:Int)≤(y:Int)*K+j:=by rw[hm7];omega
    have hm11:(y:Int)*K+j<L'.length:=by rw[hm7];omega
    repeat' first|with_reducible exact hcw|with_reducible exact hm9|with_reducible exact hm10|with_reducible exact hm11|refine tU ?_|refine qaa ?_ ?_|(refine tI ?_;intro hyp)|intro hyp0|exact tZ|omega
    have hl5:=congrArg List.length hsn2
    simp only[qac]at hl5
    exact⟨j+1,by omega,by omega,qab [0,1,2,5] [] rfl (by rw[hsn2];exact tF)⟩
   ·have e2:B.take j=B:=qad (by omega)
    rw[e2]
    repeat' first|refine tU ?_|refine qaa ?_ ?_|(refine tI ?_;intro hyp)|intro hyp0|exact tZ|omega
    exact⟨y+1,by omega,by omega,qab [0,1,2,3] [] rfl (by rw[e.1,e.2,hu];exact tF)⟩
 ·obtain rfl:y=R:=by omega
  have hw:IntKind.u8.wrap ((ysN K L L' y).length:Int)=((ysN K L L' y).length:Int):=w_u8 (by have:=hyl y;omega)
  have e:h1++((ysN K L L' y).length:Int)::rwsN K L L' y=h1++[((ysN K L L' y).length:Int)]++rwsN K L L' y:=by simp
  repeat' first|refine tU ?_|refine qaa ?_ ?_|(refine tI ?_;intro hyp)|intro hyp0|exact tZ|omega
  exact qab [6] [] rfl (by rw[e];exact tF))
abbrev jnl:List AK:=[.agg [.any,.any,.sl .cell,.any,.any,.any,.any,.any,.sl .str]]
abbrev q_r1full (k r:Int) (L:List CD) (x y:Int) (hd:Bool) (mo:Int) (ti:ByteArray) (l:List ByteArray):QA:=([.agg [.int .i64 k,.int .i64 r,.vec .cell L,.int .i64 x,.int .i64 y,.bool hd,.int .u8 mo,.str ti,.vec .str l]],(ScrOk L l∧SLen ti)∧0≤mo,.ret (.tup [.vec (.int .u8) (jbx k r L x y hd mo ti l),.int .i64 (errN (jaL k r L x y mo ti l))]))
def sp_r1full:=spQ (u9 q_r1full)
theorem jhU:W9 (hA sp_r1full) q_r1full:=w9 (aA rfl)
theorem jnm:Fre 26 sp_r1full:=ofT (u9 q_r1full) fun⟨k,r,L,x,y,hd,mo,ti,l⟩ hG=>tfi (.f jty jff jtz (.t [.any,.any] jc0 jfb (.t jnj jhj jnk .nil))) 0 jhk (by
 dsimp only[u9,q_r1full]at hG ⊢
 have zc:=Hk.mk (qaa @jjM (qaa @jcL (qaa @jhT (qaa @tq0 (qaa @tq1 @tq2)))))
 obtain⟨⟨hs,ht⟩,hmo⟩:=hG
 cases hw:jaL k r L x y mo ti l
 ·have e:jbx k r L x y hd mo ti l=[]:=by rw[jbx,if_neg (by rw[hw];decide)]
  repeat' first|exact hs|refine tU ?_|refine qaa ?_ ?_|(refine tI ?_;intro hyp)|intro hyp0|exact tZ|omega
  exact qab [99] [] rfl (by rw[e];simp only[PB,SAM,seval,rdB,Hk.out zc];simp[crs,crsL,jaE,errN])
 ·have hR:=(jfd hw).1
  obtain⟨K,R,X,Y,M,rfl,rfl,rfl,rfl,rfl,f⟩:=jaj hR hmo
  have hk:=f.k1
  have hr:=f.r1
  have hKR:K*R≤1920:=Nat.mul_le_mul (show K≤80 by omega) (show R≤24 by omega)
  have hbr:=jca hk hr
  have hbo:=jfc K R (by omega)
  have hf:jb5 (K:Int) R=true:=jbA.2 (by omega)
  have hw2:qag (K*R) (qae (K*R) blank0)=jah K R:=qad (by simp)
  have e:jbx (K:Int) R L X Y hd M ti l=row1 4 K R (jah K R) (bs []) L X Y hd ti:=by
   rw[jbx,if_pos hw]
   rfl
  repeat' first|exact hs|exact hf|exact hbo|exact hbr|exact hR|exact .inr trivial|refine tU ?_|refine qaa ?_ ?_|(refine tI ?_;intro hyp)|intro hyp0|exact tZ|omega
  exact qab [4] [] rfl (by rw[e];simp only[errN];exact tF))
abbrev jvt:List AK:=[.agg [.any,.any,.sl .cell,.any,.any,.any,.any,.any,.sl .str],.agg [.any,.any,.sl .cell,.any,.any,.any,.any,.any,.sl .str]]
abbrev q_r1enc (k r:Int) (L:List CD) (x y:Int) (hd:Bool) (mo:Int) (ti:ByteArray) (l:List ByteArray) (k' r':Int) (L':List CD) (x' y':Int) (hd':Bool) (mo':Int) (ti':ByteArray) (l':List ByteArray):QA:=([.agg [.int .i64 k,.int .i64 r,.vec .cell L,.int .i64 x,.int .i64 y,.bool hd,.int .u8 mo,.str ti,.vec .str l],.agg [.int .i64 k',.int .i64 r',.vec .cell L',.int .i64 x',.int .i64 y',.bool hd',.int .u8 mo',.str ti',.vec .str l']],((ScrOk L l∧SLen ti)∧0≤mo)∧((ScrOk L' l'∧SLen ti')∧0≤mo'),.ret (.tup [.vec (.int .u8) (jct k r L x y hd mo ti l k' r' L' x' y' hd' mo' ti' l'),.int .i64 (errN (jaL k r L x y mo ti l&&jaL k' r' L' x' y' mo' ti' l'))]))
def sp_r1enc:=spQ (u18 q_r1enc)
theorem joy:W18 (hA sp_r1enc) q_r1enc:=w18 (aA rfl)
theorem jvu:Fre 58 sp_r1enc:=ofT (u18 q_r1enc) fun⟨k,r,L,x,y,hd,mo,ti,l,k',r',L',x',y',hd',mo',ti',l'⟩ hG=>tfi (.f jty jff jtz (.t jnl jhk jnm (.t jnj jhj jnk .nil))) 0 jhQ (by
 dsimp only[u18,q_r1enc]at hG ⊢
 have zc:=Hk.mk (qaa @jjM (qaa @jhU (qaa @jhT (qaa @tq0 (qaa @tq1 @tq2)))))
 obtain⟨⟨⟨hs,ht⟩,hmo⟩,⟨hs',ht'⟩,hmo'⟩:=hG
 cases hw:jaL k r L x y mo ti l
 ·have e:jct k r L x y hd mo ti l k' r' L' x' y' hd' mo' ti' l'=[]:=by rw[jct,if_neg (by rw[hw];simp)]
  repeat' first|exact hs|refine tU ?_|refine qaa ?_ ?_|(refine tI ?_;intro hyp)|intro hyp0|exact tZ|omega
  exact qab [99] [] rfl (by rw[e];simp only[PB,SAM,seval,rdB,Hk.out zc];simp[crs,crsL,jaE,errN])
 ·cases hw2:jaL k' r' L' x' y' mo' ti' l'
  ·have e:jct k r L x y hd mo ti l k' r' L' x' y' hd' mo' ti' l'=[]:=by rw[jct,if_neg (by rw[hw2];simp)]
   repeat' first|exact hs|exact hs'|refine tU ?_|refine qaa ?_ ?_|(refine tI ?_;intro hyp)|intro hyp0|exact tZ|omega
   exact qab [99] [] rfl (by rw[e];simp only[PB,SAM,seval,rdB,Hk.out zc];simp[crs,crsL,jaE,errN])
  ·have hR:=(jfd hw).1
   have hR2:=(jfd hw2).1
   have e0:jct k r L x y hd mo ti l k' r' L' x' y' hd' mo' ti' l'=if k=k'∧r=r' then row1 0 k.toNat r.toNat L ti L' x'.toNat y'.toNat hd' ti' else jbx k' r' L' x' y' hd' mo' ti' l':=by rw[jct,if_pos (by rw[hw,hw2];rfl)]
   by_cases hkr:k=k'∧r=r'
   ·rw[if_pos hkr]at e0
    repeat' first|exact hs|exact hs'|exact hR|exact hR2|exact .inl trivial|refine tU ?_|refine qaa ?_ ?_|(refine tI ?_;intro hyp)|intro hyp0|exact tZ|omega
    exact qab [2] [] rfl (by rw[e0];simp only[errN];exact tF)
   ·rw[if_neg hkr]at e0
    repeat' first|exact hs|exact hs'|refine tU ?_|refine qaa ?_ ?_|(refine tI ?_;intro hyp)|intro hyp0|exact tZ|omega
    exact qab [2] [] rfl (by rw[e0];exact tF))
end
end
end Go.Proofs.YtienkkicehmchaaGreatDoor
