/- Texts of this claim, merged by a program of this claim: FRnD. -/
import Derived.Test.YtienkkicehmchaaGreatDoorDl37
import Derived.Test.YtienkkicehmchaaGreatDoorDl44
import Derived.Test.YtienkkicehmchaaGreatDoorDl45
import Derived.Test.YtienkkicehmchaaGreatDoorDl47
namespace Go.Proofs.YtienkkicehmchaaGreatDoor
open And renaming intro→qaa
open Cos renaming intro→qab
open List renaming length_append→qac,append_nil→qad,take_of_length_le→qaf,length_map→qag
open Nat renaming le_refl→qae,zero_le→qah
noncomputable section
set_option linter.unusedVariables false
set_option linter.unusedSimpArgs false
section
open Go.RowKit
set_option maxRecDepth 100000
set_option maxHeartbeats 4000000
abbrev q_r7vars (L:List Int):QA:=([.vec (.int .i64) L],(∀x∈L,0≤x∧x<9223372036854775808)∧L.length≤100000,.ret (.vec (.int .u8) (jau L)))
def sp_r7vars:=spQ (u1 q_r7vars)
theorem jhV:W1 (hA sp_r7vars) q_r7vars:=w1 (aA rfl)
theorem jnn:Fre 62 sp_r7vars:=ofT (u1 q_r7vars) fun L hG=>tfi (.t [.any] jgq jnY .nil) 0 jhl (by
 dsimp only[u1,q_r7vars]at hG ⊢
 have zc:=Hk.mk (@jg9)
 obtain⟨hL,hl⟩:=hG
 repeat' first|refine tU ?_|refine qaa ?_ ?_|(refine tI ?_;intro hyp)|intro hyp0|exact tZ|omega
 refine T.loop (fun k:Nat=>⟨[(0,.vec (.int .i64) L),(3,.slice 0 0 1 (jau (L.take k)).length (jau (L.take k)).length),(7,.int .i64 L.length),(8,.int .i64 k)],[.seq (.int .u8) (jau (L.take k))]⟩) (fun k=>k≤L.length) (fun k=>L.length-k) 0 (by omega) (qab [0] [] rfl (by simp only[PB,SAM,seval,rdB,Hk.out zc];simp[jau])) (fun k hk=>?_)
 have hvl:=jcj (L.take k) fun x hx=>by have:=hL x (List.mem_of_mem_take hx);omega
 rw[List.length_take]at hvl
 by_cases hkl:k<L.length
 ·have hx:=hL _ (List.mem_of_getElem? (jax (d:=0) hkl))
  have h10:=jan (L.getD k 0).toNat (by omega)
  have hw:IntKind.u64.wrap (L.getD k 0)=L.getD k 0:=jh3 (by omega)
  have hsn:=jdH hkl
  repeat' first|refine tU ?_|refine qaa ?_ ?_|(refine tI ?_;intro hyp)|intro hyp0|exact tZ|omega
  refine⟨k+1,by omega,by omega,qab [2] [] rfl ?_⟩
  rw[hsn]
  exact tF
 ·have e:L.take k=L:=qaf (by omega)
  rw[e]
  repeat' first|refine tU ?_|refine qab [0] [] rfl ?_|refine qaa ?_ ?_|(refine tI ?_;intro hyp)|intro hyp0|exact tZ|omega)
def bgI (oth:Nat→Bool) (W:List CD) (t:Nat):List Int:=(bgN oth W t).map fun n:Nat=>(n:Int)
theorem jxy {oth:Nat→Bool}{W:List CD}(t:Nat):(bgI oth W t).length≤t:=by
 rw[bgI,qag]
 exact jvP t
theorem jvv {oth:Nat→Bool}{W:List CD}(t:Nat):bgI oth W (t+1)=bgI oth W t++if stB oth W t then [(t:Int)] else []:=by
 rw[bgI,jfZ,List.map_append]
 congr 1
 split<;>rfl
abbrev jno:List AK:=[.agg [.any,.any,.sl .cell,.any,.any,.any,.any,.any,.sl .str],.agg [.any,.any,.sl .cell,.any,.any,.any,.any,.any,.sl .str]]
abbrev q_r2diff (k r:Int) (L:List CD) (x y:Int) (hd:Bool) (mo:Int) (ti:ByteArray) (l:List ByteArray) (k' r':Int) (L':List CD) (x' y':Int) (hd':Bool) (mo':Int) (ti':ByteArray) (l':List ByteArray):QA:=([.agg [.int .i64 k,.int .i64 r,.vec .cell L,.int .i64 x,.int .i64 y,.bool hd,.int .u8 mo,.str ti,.vec .str l],.agg [.int .i64 k',.int .i64 r',.vec .cell L',.int .i64 x',.int .i64 y',.bool hd',.int .u8 mo',.str ti',.vec .str l']],(k=k'∧r=r')∧(ScrOk L l∧ScrOk L' l')∧(jai k r L x y mo ti l=true∧jai k' r' L' x' y' mo' ti' l'=true)∧(0≤mo∧0≤mo')∧All2 L',.ret (.vec (.int .u8) (jhe L x.toNat y.toNat hd mo.toNat ti L' x'.toNat y'.toNat hd' mo'.toNat ti')))
def sp_r2diff:=spQ (u18 q_r2diff)
theorem jhW:W18 (hA sp_r2diff) q_r2diff:=w18 (aA rfl)
theorem jnp:Fre 63 sp_r2diff:=ofT (u18 q_r2diff) fun⟨k,r,L,x,y,hd,mo,ti,l,k',r',L',x',y',hd',mo',ti',l'⟩ hG=>tfi (.t [.sl (.int .i64)] jhl jnn (.t [.sl (.int .u8)] jg7 jpa .nil)) 0 jhm (by
 dsimp only[u18,q_r2diff]at hG ⊢
 have zc:=Hk.mk (qaa @jhV @ji8)
 obtain⟨⟨rfl,rfl⟩,⟨hs,hs'⟩,⟨hr1,hr2⟩,⟨hmo,hmo'⟩,hT⟩:=hG
 obtain⟨K,R,X,Y,M,rfl,rfl,rfl,rfl,rfl,f1⟩:=jaj hr1 hmo
 obtain⟨K2,R2,X2,Y2,M2,e1,e2,rfl,rfl,rfl,f2⟩:=jaj hr2 hmo'
 obtain rfl:K=K2:=by omega
 obtain rfl:R=R2:=by omega
 simp only[Int.toNat_natCast]
 have hk:=f1.k1
 have hr:=f1.r1
 have hx2:=f2.x1
 have hy2:=f2.y1
 have hm2:=f2.mo1
 have ht2:=f2.ti1
 have hl1:=f1.l1
 have hl2:=f2.l1
 have hL:=f1.len
 have hL':=f2.len
 have hKR:K*R≤1920:=Nat.mul_le_mul (show K≤80 by omega) (show R≤24 by omega)
 have htk:List.take ti'.size (jab ti')=jab ti':=qaf (by rw[jaw];exact qae _)
 have hti:(jab ti').length=ti'.size:=jaw ti'
 obtain⟨b1,hb1⟩:∃b,b=curB X Y hd X2 Y2 hd':=⟨_,rfl⟩
 obtain⟨b2,hb2⟩:∃b,b=b1++titB ti ti':=⟨_,rfl⟩
 obtain⟨b3,hb3⟩:∃b,b=b2++mouB M M2:=⟨_,rfl⟩
 have q1:b1.length≤31:=by rw[hb1];exact jgv X Y hd X2 Y2 hd' (by omega) (by omega)
 have q2:b2.length≤200:=by
  have:=jgw ti ti' ht2
  rw[hb2,qac]
  omega
 have q3:b3.length≤300:=by
  have:=jgx M M2 (by omega)
  rw[hb3,qac]
  omega
 obtain⟨b4,hb4⟩:∃b,b=jkI L L':=⟨_,rfl⟩
 have hall:jhe L X Y hd M ti L' X2 Y2 hd' M2 ti'=b3++b4:=by rw[hb4,hb3,hb2,hb1];rfl
 rw[hall]
 repeat' first|refine T.cut (a:=z127_2) (fun _:Unit=>⟨[(2,.ptr 0 0 0),(3,.ptr 1 0 0),(5,.slice 2 0 1 (b1).length (b1).length)],[.box [.int .i64 K,.int .i64 R,.vec .cell L,.int .i64 X,.int .i64 Y,.bool hd,.int .u8 M,.str ti,.vec .str l],.box [.int .i64 K,.int .i64 R,.vec .cell L',.int .i64 X2,.int .i64 Y2,.bool hd',.int .u8 M2,.str ti',.vec .str l'],.seq (.int .u8) (b1)]⟩) (fun _=>True) (Held.out ?_) (fun _ _=>Held.out ?_)|refine tU ?_|refine qaa ?_ ?_|(refine tI ?_;intro hyp)|intro hyp0|exact tZ|omega
 ·refine⟨?_⟩
  have hc:=@jig X Y X2 Y2 hd hd'
  have hby:curC X Y hd X2 Y2 hd'=true→b1=2::jaq [X2,Y2,if hd' then 1 else 0]:=fun h=>by rw[hb1,curB,if_pos h]
  have hbn:¬curC X Y hd X2 Y2 hd'=true→b1=[]:=fun h=>by rw[hb1,curB,if_neg h]
  have hv:∀z:Nat,z<128→jaq [X2,Y2,z]=[(X2:Int),Y2,z]:=fun z hz=>by
   simp only[jbm,jbR,ja3 (show X2<128 by omega),ja3 (show Y2<128 by omega),ja3 hz]
   rfl
  have hb0:∀z:Int,0≤z→z≤80→varN z.toNat=[z]:=fun z h1 h2=>jbQ h1 (by omega)
  have hw:jau [(X2:Int),(Y2:Int)]=[(X2:Int),Y2]:=by rw[jao,jao,jaU,hb0 _ (by omega) (by omega),hb0 _ (by omega) (by omega)];rfl
  repeat' first|refine tU ?_|refine qaa ?_ ?_|(refine tI ?_;intro hyp)|intro hyp0|exact tZ|omega
  ·rename_i hq
   have e:b1=[2,(X2:Int),Y2,1]:=by rw[hby (hc.2 hq),hyp,if_pos rfl,hv 1 (by omega)];rfl
   exact⟨(),qab [0,1,9] [] rfl (by rw[e];exact tF)⟩
  ·rename_i hq
   have e:b1=[2,(X2:Int),Y2,0]:=by rw[hby (hc.2 hq),hyp,if_neg (by decide),hv 0 (by omega)];rfl
   exact⟨(),qab [0,1,9] [] rfl (by rw[e];exact tF)⟩
  ·have e:b1=[]:=hbn fun q=>by
    rcases hc.1 q with (h|h)|h
    ·exact h hyp.1.1
    ·exact h hyp.1.2
    ·rw[hyp.2]at h
     simp at h
   exact⟨(),qab [0,1,2] [] rfl (by rw[e];simp only[PB,SAM,seval,rdB,Hk.out zc];first|done|simp[crs,crsL,jaE])⟩
 refine⟨?_⟩
 repeat' first|refine T.cut (a:=z127_9) (fun _:Unit=>⟨[(2,.ptr 0 0 0),(3,.ptr 1 0 0),(5,.slice 2 0 1 (b2).length (b2).length)],[.box [.int .i64 K,.int .i64 R,.vec .cell L,.int .i64 X,.int .i64 Y,.bool hd,.int .u8 M,.str ti,.vec .str l],.box [.int .i64 K,.int .i64 R,.vec .cell L',.int .i64 X2,.int .i64 Y2,.bool hd',.int .u8 M2,.str ti',.vec .str l'],.seq (.int .u8) (b2)]⟩) (fun _=>True) (Held.out ?_) (fun _ _=>Held.out ?_)|refine tU ?_|refine qaa ?_ ?_|(refine tI ?_;intro hyp)|intro hyp0|exact tZ|omega
 ·refine⟨?_⟩
  have hw:=htk
  have htl:=jcm (jab ti') (by omega)
  repeat' first|refine tU ?_|refine qaa ?_ ?_|(refine tI ?_;intro hyp)|intro hyp0|exact tZ|omega
  ·have e:b2=b1++3::jeE (jab ti'):=by rw[hb2,titB,if_neg (fun q=>hyp (jaC.1 q))]
   exact⟨(),qab [0,1,7] [] rfl (by rw[e];exact tF)⟩
  ·have e:b2=b1:=by rw[hb2,titB,if_pos (jaC.2 hyp),qad]
   exact⟨(),qab [0,1,2] [] rfl (by rw[e];exact tF)⟩
 refine⟨?_⟩
 repeat' first|refine T.cut (a:=z127_14) (fun _:Unit=>⟨[(2,.ptr 0 0 0),(3,.ptr 1 0 0),(5,.slice 2 0 1 (b3).length (b3).length)],[.box [.int .i64 K,.int .i64 R,.vec .cell L,.int .i64 X,.int .i64 Y,.bool hd,.int .u8 M,.str ti,.vec .str l],.box [.int .i64 K,.int .i64 R,.vec .cell L',.int .i64 X2,.int .i64 Y2,.bool hd',.int .u8 M2,.str ti',.vec .str l'],.seq (.int .u8) (b3)]⟩) (fun _=>True) (Held.out ?_) (fun _ _=>Held.out ?_)|refine tU ?_|refine qaa ?_ ?_|(refine tI ?_;intro hyp)|intro hyp0|exact tZ|omega
 ·refine⟨?_⟩
  have hw:jau [(M2:Int)]=[(M2:Int)]:=by rw[jao,jaU,jbQ (by omega) (by omega)];rfl
  repeat' first|refine tU ?_|refine qaa ?_ ?_|(refine tI ?_;intro hyp)|intro hyp0|exact tZ|omega
  ·have e:b3=b2++[4,(M2:Int)]:=by rw[hb3,mouB,if_neg (fun e=>hyp (by rw[e]))];simp only[jbm,jbR,ja3 (show M2<128 by omega)];rfl
   exact⟨(),qab [0,1,4] [] rfl (by rw[e];exact tF)⟩
  ·have e:b3=b2:=by rw[hb3,mouB,if_pos (by omega),qad]
   exact⟨(),qab [0,1,2] [] rfl (by rw[e];exact tF)⟩
 refine⟨?_⟩
 obtain⟨oth,hoth⟩:∃o,o=jav L L':=⟨_,rfl⟩
 have hLL:L.length=L'.length:=by omega
 have ho1:∀i,i<L'.length→oth i=!decide (L.getD i default=L'.getD i default):=fun i hi=>by rw[hoth,jtg hT hLL hi]
 have hbl:=jvP (oth:=oth) (W:=L')
 have hcg:∀i,i<L'.length→cAt L' i=L'.getD i default:=fun i hi=>jbe hi
 clear hk hr hm2
 repeat' first|refine T.cut (a:=z127_18) (fun _:Unit=>⟨[(2,.ptr 0 0 0),(3,.ptr 1 0 0),(5,.slice 2 0 1 b3.length b3.length),(8,.slice 3 0 1 (bgI oth L' L'.length).length (bgI oth L' L'.length).length)],[.box [.int .i64 K,.int .i64 R,.vec .cell L,.int .i64 X,.int .i64 Y,.bool hd,.int .u8 M,.str ti,.vec .str l],.box [.int .i64 K,.int .i64 R,.vec .cell L',.int .i64 X2,.int .i64 Y2,.bool hd',.int .u8 M2,.str ti',.vec .str l'],.seq (.int .u8) b3,.seq (.int .i64) (bgI oth L' L'.length)]⟩) (fun _=>True) (Held.out ?_) (fun _ _=>Held.out ?_)|refine tU ?_|refine qaa ?_ ?_|(refine tI ?_;intro hyp)|intro hyp0|exact tZ|omega
 ·refine⟨?_⟩
  repeat' first|refine tU ?_|refine qaa ?_ ?_|(refine tI ?_;intro hyp)|intro hyp0|exact tZ|omega
  refine T.loop (fun i:Nat=>⟨[(2,.ptr 0 0 0),(3,.ptr 1 0 0),(5,.slice 2 0 1 b3.length b3.length),(8,.slice 3 0 1 (bgI oth L' i).length (bgI oth L' i).length),(87,.int .i64 L'.length),(88,.int .i64 i)],[.box [.int .i64 K,.int .i64 R,.vec .cell L,.int .i64 X,.int .i64 Y,.bool hd,.int .u8 M,.str ti,.vec .str l],.box [.int .i64 K,.int .i64 R,.vec .cell L',.int .i64 X2,.int .i64 Y2,.bool hd',.int .u8 M2,.str ti',.vec .str l'],.seq (.int .u8) b3,.seq (.int .i64) (bgI oth L' i)]⟩) (fun i=>i≤L'.length) (fun i=>L'.length-i) 0 (by omega) (qab [0,1,2,3] [] rfl (by simp only[PB,SAM,seval,rdB,Hk.out zc];simp[bgI,bgN])) (fun i hi=>?_)
  have hbi:=jxy (oth:=oth) (W:=L') i
  by_cases hil:i<L'.length
  ·have hsn:=jvv (oth:=oth) (W:=L') i
   have ho:=ho1 i hil
   by_cases h0:i=0
   ·subst h0
    by_cases he:L.getD 0 default=L'.getD 0 default
    ·have hw:=eq_true he
     have hsf:stB oth L' 0=false:=by rw[stB,ho,decide_eq_true he];rfl
     rw[hsf]at hsn
     repeat' first|refine tU ?_|refine qaa ?_ ?_|(refine tI ?_;intro hyp)|intro hyp0|exact tZ|omega
     exact⟨0+1,by omega,by omega,qab [0,1,2,3] [] rfl (by rw[hsn];simp only[Bool.false_eq_true,if_false,qad];exact tF)⟩
    ·have hw:=eq_false he
     have hst:stB oth L' 0=true:=by rw[stB,ho,decide_eq_false he];rfl
     rw[hst]at hsn
     repeat' first|refine tU ?_|refine qaa ?_ ?_|(refine tI ?_;intro hyp)|intro hyp0|exact tZ|omega
     exact⟨0+1,by omega,by omega,qab [0,1,2,5] [] rfl (by rw[hsn];simp only[if_true];exact tF)⟩
   ·obtain⟨j,rfl⟩:∃j,i=j+1:=⟨i-1,by omega⟩
    have hoj:=ho1 j (by omega)
    have hc1:=hcg (j+1) hil
    have hc0:=hcg j (by omega)
    have hw2:((j+1:Nat):Int)-1=(j:Int):=by omega
    have hsN:stB oth L' (j+1)=false→bgI oth L' (j+1+1)=bgI oth L' (j+1):=fun h=>by rw[hsn,h];simp
    have hsY:stB oth L' (j+1)=true→bgI oth L' (j+1+1)=bgI oth L' (j+1)++[((j+1:Nat):Int)]:=fun h=>by rw[hsn,h];simp
    clear hsn
    by_cases he:L.getD (j+1) default=L'.getD (j+1) default
    ·have hw:=eq_true he
     have hs:=hsN (by rw[stB,ho,decide_eq_true he];rfl)
     repeat' first|refine tU ?_|refine qaa ?_ ?_|(refine tI ?_;intro hyp)|intro hyp0|exact tZ|omega
     all_goals exact⟨j+1+1,by omega,by omega,qab [0,1,2,3] [] rfl (by rw[hs];exact tF)⟩
    ·have hw:=eq_false he
     have hS:stB oth L' (j+1)=!(oth j&&decide ((L'.getD j default).pen=(L'.getD (j+1) default).pen)):=by
      rw[stB,ho,decide_eq_false he,decide_eq_true (by omega),Nat.add_sub_cancel,hc1,hc0]
      simp
     repeat' first|refine tU ?_|refine qaa ?_ ?_|(refine tI ?_;intro hyp)|intro hyp0|exact tZ|omega
     ·have hs:=hsY (by rw[hS,decide_eq_false hyp];simp)
      exact⟨j+1+1,by omega,by omega,qab [0,1,2,5] [] rfl (by rw[hs];exact tF)⟩
     ·rename_i hq
      have hs:=hsN (by rw[hS,decide_eq_true hyp,hoj,decide_eq_false hq];rfl)
      exact⟨j+1+1,by omega,by omega,qab [0,1,2,3] [] rfl (by rw[hs];exact tF)⟩
     ·have hs:=hsY (by rw[hS,hoj,decide_eq_true hyp];rfl)
      exact⟨j+1+1,by omega,by omega,qab [0,1,2,5] [] rfl (by rw[hs];exact tF)⟩
  ·obtain rfl:i=L'.length:=by omega
   repeat' first|refine tU ?_|refine qaa ?_ ?_|(refine tI ?_;intro hyp)|intro hyp0|exact tZ|omega
   exact⟨(),qab [0,1,2,3] [] rfl (by exact tF)⟩
 refine⟨?_⟩
 obtain⟨N,hN⟩:∃N,N=(bgN oth L' L'.length).length:=⟨_,rfl⟩
 have hNl:N≤L'.length:=by rw[hN];exact hbl _
 obtain⟨bg,hbg⟩:∃g,g=bgI oth L' L'.length:=⟨_,rfl⟩
 have hbgl:bg.length=N:=by rw[hbg,hN,bgI,qag]
 have hout0:Out3 L' oth 0 0 0 []:=⟨⟨qae _,qah _⟩,rfl,Nat.zero_add _⟩
 have hZ:jfV L L'=lay3 L' L'.length 0 (rem oth (jaa L') L'.length 0):=by rw[jpw,←hoth]
 have hrs3:b4=if (jfV L L').2=0 then [] else (5:Int)::(varN (jfV L L').2++(jfV L L').1):=hb4
 have hw:jau [(N:Int)]=varN N:=by rw[jao,jaU,qad,Int.toNat_natCast]
 have h10:=jan N (by omega)
 rw[←hbg,hbgl]
 have hw2:=hbgl
 repeat' first|refine tU ?_|refine qaa ?_ ?_|(refine tI ?_;intro hyp)|intro hyp0|exact tZ|omega
 ·obtain rfl:N=0:=by omega
  obtain⟨z1,z2⟩:=(jow hT _ 0 0 0 [] (qae _) (fun _=>jpG) hout0 (by rw[←hN];exact qah _)).done (qae _)
  rw[hZ,←z2,if_pos rfl]at hrs3
  exact qab [2] [] rfl (by rw[hrs3];exact tF)
 have hne:=hyp
 obtain⟨h5,hh5⟩:∃h,h=b3++[5]++varN N:=⟨_,rfl⟩
 have h5l:h5.length=b3.length+1+(varN N).length:=by rw[hh5];simp;omega
 clear hw
 refine T.loop (fun q:Nat×Nat×Nat×List Int=>⟨[(2,.ptr 0 0 0),(3,.ptr 1 0 0),(5,.slice 3 0 1 (h5++q.2.2.2).length (h5++q.2.2.2).length),(8,.slice 2 0 1 N N),(11,.int .i64 q.2.2.1),(158,.int .i64 N),(159,.int .i64 q.1)],[.box [.int .i64 K,.int .i64 R,.vec .cell L,.int .i64 X,.int .i64 Y,.bool hd,.int .u8 M,.str ti,.vec .str l],.box [.int .i64 K,.int .i64 R,.vec .cell L',.int .i64 X2,.int .i64 Y2,.bool hd',.int .u8 M2,.str ti',.vec .str l'],.seq (.int .i64) bg,.seq (.int .u8) (h5++q.2.2.2)]⟩) (fun q=>q.1≤N∧(q.2.1<L'.length→Pre oth L' q.2.1)∧Out3 L' oth q.2.1 q.2.2.1 q.1 q.2.2.2∧(bgN oth L' q.2.1).length=q.1) (fun q=>N-q.1) (0,0,0,[]) ⟨qah _,fun _=>jpG,hout0,rfl⟩ (qab [0,1,3,8] [] rfl (by simp only[qad,h5l,hh5];exact tF)) (fun⟨k,i,bh,bs⟩ ⟨hkN,hpre,hout,hki⟩=>?_)
 dsimp only at hkN hpre hout hki ⊢
 have hle:=hout.le
 have hsm:=hout.small hT
 by_cases hk:k<N
 ·obtain⟨p,hp1,hp2,hp3,hp4,hout⟩:=jtI hT _ i bh k bs (qae _) hpre hout (by rw[hki,←hN];exact hk)
  rw[hki]at hp1 hp4
  have hle:=hout.le
  have hbp:bg.getD k 0=(p:Int):=by
   rw[hbg,bgI,List.getD_eq_getElem?_getD,List.getElem?_map,jax (d:=0) (by rw[←hN];exact hk),hp1]
   rfl
  have hsp:=hp3
  have hp3:oth p=true:=by
   simp only[stB,Bool.and_eq_true]at hsp
   exact hsp.1
  have hw:=hbp
  repeat' first|refine T.cut (a:=z127_50) (fun n:Nat=>⟨[(2,.ptr 0 0 0),(3,.ptr 1 0 0),(5,.slice 3 0 1 (h5++bs).length (h5++bs).length),(8,.slice 2 0 1 N N),(11,.int .i64 bh),(13,.int .i64 p),(14,.int .i64 n),(158,.int .i64 N),(159,.int .i64 k)],[.box [.int .i64 K,.int .i64 R,.vec .cell L,.int .i64 X,.int .i64 Y,.bool hd,.int .u8 M,.str ti,.vec .str l],.box [.int .i64 K,.int .i64 R,.vec .cell L',.int .i64 X2,.int .i64 Y2,.bool hd',.int .u8 M2,.str ti',.vec .str l'],.seq (.int .i64) bg,.seq (.int .u8) (h5++bs)]⟩) (fun n=>(0<n∧p+n≤L'.length)∧(∀t,p≤t→t<p+n→oth t=true∧(cAt L' t).pen=(cAt L' p).pen)∧¬(p+n<L'.length∧oth (p+n)=true∧(cAt L' (p+n)).pen=(cAt L' p).pen)∧Inn L' (cAt L' p).pen oth p (p+n) n (runB L' p n)) (Held.out ?_) (fun n hn=>Held.out ?_)|refine tU ?_|refine qaa ?_ ?_|(refine tI ?_;intro hyp)|intro hyp0|exact tZ|omega
  ·refine⟨?_⟩
   repeat' first|refine tU ?_|refine qaa ?_ ?_|(refine tI ?_;intro hyp)|intro hyp0|exact tZ|omega
   refine T.loop (fun n:Nat=>⟨[(2,.ptr 0 0 0),(3,.ptr 1 0 0),(5,.slice 3 0 1 (h5++bs).length (h5++bs).length),(8,.slice 2 0 1 N N),(11,.int .i64 bh),(13,.int .i64 p),(14,.int .i64 n),(158,.int .i64 N),(159,.int .i64 k)],[.box [.int .i64 K,.int .i64 R,.vec .cell L,.int .i64 X,.int .i64 Y,.bool hd,.int .u8 M,.str ti,.vec .str l],.box [.int .i64 K,.int .i64 R,.vec .cell L',.int .i64 X2,.int .i64 Y2,.bool hd',.int .u8 M2,.str ti',.vec .str l'],.seq (.int .i64) bg,.seq (.int .u8) (h5++bs)]⟩) (fun n=>p+n≤L'.length∧(∀t,p≤t→t<p+n→oth t=true∧(cAt L' t).pen=(cAt L' p).pen)∧Inn L' (cAt L' p).pen oth p (p+n) n (runB L' p n)) (fun n=>L'.length-(p+n)) 0 ⟨by omega,fun t h1 h2=>absurd h2 (by omega),Inn.start (by omega)⟩ (qab [0,1,2,3] [] rfl (by simp only[qac];exact tF)) (fun n ⟨hpn,hall,hin⟩=>?_)
   by_cases hjy:p+n<L'.length∧oth (p+n)=true∧(cAt L' (p+n)).pen=(cAt L' p).pen
   ·obtain⟨g1,g2,g3⟩:=hjy
    have hj1:=ho1 (p+n) g1
    rw[g2]at hj1
    have hne:¬L.getD (p+n) default=L'.getD (p+n) default:=by simpa using hj1.symm
    have hgo:=hin.go g1 g2 g3 (by rw[hT.one g1];omega)
    rw[hT.one g1,←jeX]at hgo
    have hall2:∀t,p≤t→t<p+(n+1)→oth t=true∧(cAt L' t).pen=(cAt L' p).pen:=fun t h1 h2=>by
     rcases Nat.lt_or_ge t (p+n)with q|q
     ·exact hall t h1 q
     ·obtain rfl:t=p+n:=by omega
      exact⟨g2,g3⟩
    rw[hcg _ g1,hcg _ hp2]at g3
    clear hw hall hin
    have hw:=qaa (eq_false hne) (eq_true g3)
    repeat' first|refine tU ?_|refine qaa ?_ ?_|(refine tI ?_;intro hyp)|intro hyp0|exact tZ|omega
    exact⟨n+1,⟨by omega,hall2,hgo⟩,by omega,qab [0,1,2,3] [] rfl (by exact tF)⟩
   ·have hn0:0<n:=by
     rcases Nat.eq_zero_or_pos n with q|q
     ·subst q
      exact absurd ⟨by omega,hp3,rfl⟩ hjy
     ·exact q
    have hq:p+n<L'.length→¬L.getD (p+n) default=L'.getD (p+n) default→¬(L'.getD (p+n) default).pen=(L'.getD p default).pen:=fun g1 g2 g3=>hjy ⟨g1,by rw[ho1 _ g1,decide_eq_false g2];rfl,by rw[hcg _ g1,hcg _ hp2];exact g3⟩
    have hfin:(0<n∧p+n≤L'.length)∧(∀t,p≤t→t<p+n→oth t=true∧(cAt L' t).pen=(cAt L' p).pen)∧¬(p+n<L'.length∧oth (p+n)=true∧(cAt L' (p+n)).pen=(cAt L' p).pen)∧Inn L' (cAt L' p).pen oth p (p+n) n (runB L' p n):=⟨⟨hn0,hpn⟩,hall,hjy,hin⟩
    clear hall hjy hin hw
    repeat' first|refine tU ?_|refine qaa ?_ ?_|(refine tI ?_;intro hyp)|intro hyp0|exact tZ|omega
    all_goals first
     | exact⟨n,hfin,qab [0,1,2,3] [] rfl (by exact tF)⟩
     | exact absurd ‹_› (hq (by omega) ‹_›)
  ·refine⟨?_⟩
   obtain⟨⟨hn0,hpn⟩,hall,hno,hin⟩:=hn
   have hE:=hout.go hp2 hp3 hin hno
   have hlst:=hall (p+n-1) (by omega) (by omega)
   have hpre2:p+n<L'.length→Pre oth L' (p+n):=fun h=>jxx (p:=p) (by omega) hlst.2 fun q=>hno ⟨h,q⟩
   have hbn:=jvQ hsp (n-1) fun t h1 h2=>hall t h1 (by omega)
   rw[show p+(n-1)+1=p+n by omega,hp4]at hbn
   have hcw:=hs'.wf _ (jaV hp2)
   have hv5:=jyb (kk:=n) hle.1 hcw
   rw[←hcg _ hp2]at hv5
   have c1:=hcw.fg
   have c2:=hcw.bg
   have c3:=hcw.attrs
   have hEs:=hE.small hT
   have hls:jau [(p:Int)-bh,(n:Int),(L'.getD p default).fg,(L'.getD p default).bg,(L'.getD p default).attrs]=jau [(p:Int)-bh,(n:Int),(cAt L' p).fg,(cAt L' p).bg,(cAt L' p).attrs]:=by rw[hcg _ hp2]
   obtain⟨V5,hV5⟩:∃V,V=jaq ([p-bh,n]++pen3 (cAt L' p).pen):=⟨_,rfl⟩
   rw[←hV5]at hv5 hE hEs
   rw[hv5]at hls
   clear hall hno hin hlst hw
   obtain⟨P,hP⟩:∃P,P=(L'.getD p default).pen:=⟨_,rfl⟩
   have hls2:jau [(p:Int)-bh,(n:Int),P.fg,P.bg,P.attrs]=V5:=by rw[hP];exact hls
   have p1:0≤P.fg∧P.fg<4294967296:=by rw[hP];exact c1
   have p2:0≤P.bg∧P.bg<4294967296:=by rw[hP];exact c2
   have p3:0≤P.attrs∧P.attrs<256:=by rw[hP];exact c3
   have hw:=qaa hP.symm hls2
   rw[qac,qac]at hEs
   have hdl:=hle.1
   repeat' first|refine tU ?_|refine qaa ?_ ?_|(refine tI ?_;intro hyp)|intro hyp0|exact tZ|omega
   obtain⟨u,hu⟩:∃u,u=h5++bs++V5:=⟨_,rfl⟩
   have hul:u.length=h5.length+bs.length+V5.length:=by rw[hu];simp;omega
   clear hw
   refine T.loop (fun j:Nat=>⟨[(2,.ptr 0 0 0),(3,.ptr 1 0 0),(5,.slice 3 0 1 (u++runB L' p j).length (u++runB L' p j).length),(8,.slice 2 0 1 N N),(13,.int .i64 p),(14,.int .i64 n),(16,.int .i64 j),(158,.int .i64 N),(159,.int .i64 k)],[.box [.int .i64 K,.int .i64 R,.vec .cell L,.int .i64 X,.int .i64 Y,.bool hd,.int .u8 M,.str ti,.vec .str l],.box [.int .i64 K,.int .i64 R,.vec .cell L',.int .i64 X2,.int .i64 Y2,.bool hd',.int .u8 M2,.str ti',.vec .str l'],.seq (.int .i64) bg,.seq (.int .u8) (u++runB L' p j)]⟩) (fun j=>j≤n) (fun j=>n-j) 0 (by omega) (qab [0,1,2,7] [] rfl (by simp only[show runB L' p 0=[]from rfl,qad,hul,hu];exact tF)) (fun j hj=>?_)
   have hrk:(runB L' p j).length≤5*j:=by
    have:=jdJ hs'.wf (List.range' p j)
    rwa [List.length_range']at this
   by_cases hjn:j<n
   ·have hcc:=hT.at_ (show p+j<L'.length by omega)
    have hc2:=jbe (show p+j<L'.length by omega)
    rw[hc2]at hcc
    have hru:=jji hcc.may
    have hr2:=hcc.wf.rune
    have h10:=jan (L'.getD (p+j) default).rune.toNat (by omega)
    have hw:jau [(L'.getD (p+j) default).rune]=varN (L'.getD (p+j) default).rune.toNat:=by rw[jao,jaU,qad]
    have hsn:=jeX L' p j
    rw[hc2]at hsn
    repeat' first|refine tU ?_|refine qaa ?_ ?_|(refine tI ?_;intro hyp)|intro hyp0|exact tZ|omega
    exact⟨j+1,by omega,by omega,qab [0,1,2,6] [] rfl (by rw[hsn];exact tF)⟩
   ·obtain rfl:j=n:=by omega
    repeat' first|refine tU ?_|refine qaa ?_ ?_|(refine tI ?_;intro hyp)|intro hyp0|exact tZ|omega
    exact⟨(k+1,p+j,p+j,bs++V5++runB L' p j),⟨hk,hpre2,hE,hbn⟩,by simp only;omega,qab [0,1,2,3] [] rfl (by simp only[qac,hul,hu,←List.append_assoc];exact tF)⟩
 ·obtain rfl:k=N:=by omega
  obtain⟨z1,z2⟩:=(jow hT _ i bh k bs (qae _) hpre hout (by rw[←hN,hki];exact qae _)).done (qae _)
  rw[hZ,←z2,←z1,if_neg (by omega)]at hrs3
  have e:b3++b4=h5++bs:=by rw[hrs3,hh5];simp
  have el:=congrArg List.length e
  rw[qac,qac]at el
  repeat' first|refine tU ?_|refine qaa ?_ ?_|(refine tI ?_;intro hyp)|intro hyp0|exact tZ|omega
  exact qab [3] [] rfl (by rw[e];exact tF))
end
end
end Go.Proofs.YtienkkicehmchaaGreatDoor
