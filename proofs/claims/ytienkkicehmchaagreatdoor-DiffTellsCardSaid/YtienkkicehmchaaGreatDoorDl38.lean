/- Texts of this claim, merged by a program of this claim: FLay. -/
import Derived.Test.YtienkkicehmchaaGreatDoorDl19
import Derived.Test.YtienkkicehmchaaGreatDoorDl26
import Derived.Test.YtienkkicehmchaaGreatDoorDl31
import Derived.Test.YtienkkicehmchaaGreatDoorDl6
namespace Go.Proofs.YtienkkicehmchaaGreatDoor
open And renaming intro→qaa
open Cos renaming intro→qab
open List renaming take_of_length_le→qac,length_append→qad,append_nil→qae,length_drop→qaf,length_cons→qag,take→qah,map_cons→qai
noncomputable section
set_option linter.unusedVariables false
set_option linter.unusedSimpArgs false
section
open Go.RowKit
set_option maxRecDepth 100000
set_option maxHeartbeats 4000000
theorem jq0 {k r:Int}{L:List CD}{x y mo:Int}{ti:ByteArray}{l:List ByteArray}(h:jai k r L x y mo ti l=true):jbo k r L=true:=by
 unfold jai at h
 simp only[HB,ne_eq,reduceCtorEq]at h
 exact h.1.1.1.1.1.1.1.1
abbrev jtl:List AK:=[.agg [.any,.any,.sl .cell,.any,.any,.any,.any,.any,.sl .str],.agg [.any,.any,.sl .cell,.any,.any,.any,.any,.any,.sl .str]]
abbrev q_mlay (k r:Int) (L:List CD) (x y:Int) (hd:Bool) (mo:Int) (ti:ByteArray) (l:List ByteArray) (k' r':Int) (L':List CD) (x' y':Int) (hd':Bool) (mo':Int) (ti':ByteArray) (l':List ByteArray):QA:=([.agg [.int .i64 k,.int .i64 r,.vec .cell L,.int .i64 x,.int .i64 y,.bool hd,.int .u8 mo,.str ti,.vec .str l],.agg [.int .i64 k',.int .i64 r',.vec .cell L',.int .i64 x',.int .i64 y',.bool hd',.int .u8 mo',.str ti',.vec .str l']],(k=k'∧r=r')∧(ScrOk L l∧ScrOk L' l')∧(jai k r L x y mo ti l=true∧jai k' r' L' x' y' mo' ti' l'=true)∧(0≤mo∧0≤mo'),.ret (.vec (.int .u8) (jfm k.toNat r.toNat L x.toNat y.toNat hd mo.toNat ti l L' x'.toNat y'.toNat hd' mo'.toNat ti' l')))
def sp_mlay:=spQ (u18 q_mlay)
theorem jkM:W18 (hA sp_mlay) q_mlay:=w18 (aA rfl)
theorem jtm:Fre 149 sp_mlay:=ofT (u18 q_mlay) fun⟨k,r,L,x,y,hd,mo,ti,l,k',r',L',x',y',hd',mo',ti',l'⟩ hG=>tfi (.t jo8 jcX jo9 (.t [.sl (.int .u8)] jfL jsh (.f [.sl .str,.sl .str] jco jsA (.t ju7 jgE ju8 (.f jxq jhG jxs (.t jmS jei jmT (.t jqL jdM jqM (.t ju2 jeT ju3 .nil)))))))) 0 jfT (by
 dsimp only[u18,q_mlay]at hG ⊢
 have zc:=Hk.mk (qaa @jgr (qaa @jkt (qaa @jmH (qaa @jok (qaa @jqZ (qaa @jjx (qaa @jlJ @jod)))))))
 obtain⟨⟨rfl,rfl⟩,⟨hs,hs'⟩,⟨hr1,hr2⟩,hmo,hmo'⟩:=hG
 obtain⟨K,R,X,Y,M,rfl,rfl,rfl,rfl,rfl,f1⟩:=jaj hr1 hmo
 obtain⟨K2,R2,X2,Y2,M2,e1,e2,rfl,rfl,rfl,f2⟩:=jaj hr2 hmo'
 obtain rfl:K=K2:=by omega
 obtain rfl:R=R2:=by omega
 simp only[Int.toNat_natCast]
 have hk:=f1.k1
 have hr:=f1.r1
 have hx2:=f2.x1
 have hy2:=f2.y1
 have hm2:=f2.mo1
 have ht2:=f2.ti1
 have hl1:=f1.l1
 have hl2:=f2.l1
 have hL:=f1.len
 have hL':=f2.len
 have hKR:K*R≤1920:=Nat.mul_le_mul (show K≤80 by omega) (show R≤24 by omega)
 have htk:qah ti'.size (jab ti')=jab ti':=qac (by rw[jaw];exact Nat.le_refl _)
 have hti:(jab ti').length=ti'.size:=jaw ti'
 obtain⟨b1,hb1⟩:∃b,b=curB X Y hd X2 Y2 hd':=⟨_,rfl⟩
 obtain⟨b2,hb2⟩:∃b,b=b1++titB ti ti':=⟨_,rfl⟩
 obtain⟨b3,hb3⟩:∃b,b=b2++mouB M M2:=⟨_,rfl⟩
 obtain⟨b4,hb4⟩:∃b,b=b3++linB l l':=⟨_,rfl⟩
 have q1:b1.length≤31:=by rw[hb1];exact jgv X Y hd X2 Y2 hd' (by omega) (by omega)
 have q2:b2.length≤200:=by
  have:=jgw ti ti' ht2
  rw[hb2,qad]
  omega
 have q3:b3.length≤300:=by
  have:=jgx M M2 (by omega)
  rw[hb3,qad]
  omega
 have q4:b4.length≤2000:=by
  have:=jlD l l' hl2 f2.s64
  rw[hb4,qad]
  omega
 have hhead:jqw X Y hd M ti l X2 Y2 hd' M2 ti' l'=b4:=by rw[hb4,hb3,hb2,hb1];rfl
 rw[jfm,hhead]
 repeat' first|refine T.cut (a:=z68_2) (fun _:Unit=>⟨[(2,.ptr 0 0 0),(3,.ptr 1 0 0),(5,.slice 2 0 1 (b1).length (b1).length)],[.box [.int .i64 K,.int .i64 R,.vec .cell L,.int .i64 X,.int .i64 Y,.bool hd,.int .u8 M,.str ti,.vec .str l],.box [.int .i64 K,.int .i64 R,.vec .cell L',.int .i64 X2,.int .i64 Y2,.bool hd',.int .u8 M2,.str ti',.vec .str l'],.seq (.int .u8) (b1)]⟩) (fun _=>True) (Held.out ?_) (fun _ _=>Held.out ?_)|refine tU ?_|refine qaa ?_ ?_|(refine tI ?_;intro hyp)|intro hyp0|exact tZ|omega
 ·refine⟨?_⟩
  have hc:=@jig X Y X2 Y2 hd hd'
  have hby:curC X Y hd X2 Y2 hd'=true→b1=2::jaq [X2,Y2,if hd' then 1 else 0]:=fun h=>by rw[hb1,curB,if_pos h]
  have hbn:¬curC X Y hd X2 Y2 hd'=true→b1=[]:=fun h=>by rw[hb1,curB,if_neg h]
  have hv:∀z:Nat,z<128→jaq [X2,Y2,z]=[(X2:Int),Y2,z]:=fun z hz=>by
   simp only[jbm,jbR,ja3 (show X2<128 by omega),ja3 (show Y2<128 by omega),ja3 hz]
   rfl
  have hb0:∀z:Int,0≤z→z≤80→varN z.toNat=[z]:=fun z h1 h2=>jbQ h1 (by omega)
  have hw:jau [(X2:Int),(Y2:Int),0]=[(X2:Int),Y2,0]:=by rw[jao,jao,jao,jaU,hb0 _ (by omega) (by omega),hb0 _ (by omega) (by omega),hb0 _ (by omega) (by omega)];rfl
  have hw2:jau [(X2:Int),(Y2:Int),1]=[(X2:Int),Y2,1]:=by rw[jao,jao,jao,jaU,hb0 _ (by omega) (by omega),hb0 _ (by omega) (by omega),hb0 _ (by omega) (by omega)];rfl
  repeat' first|refine tU ?_|refine qaa ?_ ?_|(refine tI ?_;intro hyp)|intro hyp0|exact tZ|omega
  ·rename_i hq
   have e:b1=[2,(X2:Int),Y2,1]:=by rw[hby (hc.2 hq),hyp,if_pos rfl,hv 1 (by omega)];rfl
   exact⟨(),qab [0,1,4] [] rfl (by rw[e];exact tF)⟩
  ·rename_i hq
   have e:b1=[2,(X2:Int),Y2,0]:=by rw[hby (hc.2 hq),hyp,if_neg (by decide),hv 0 (by omega)];rfl
   exact⟨(),qab [0,1,4] [] rfl (by rw[e];exact tF)⟩
  ·have e:b1=[]:=hbn fun q=>by
    rcases hc.1 q with (h|h)|h
    ·exact h hyp.1.1
    ·exact h hyp.1.2
    ·rw[hyp.2]at h
     simp at h
   exact⟨(),qab [0,1,99] [] rfl (by rw[e];simp only[PB,SAM,seval,rdB,Hk.out zc];first|done|simp[crs,crsL,jaE])⟩
 refine⟨?_⟩
 repeat' first|refine T.cut (a:=z68_9) (fun _:Unit=>⟨[(2,.ptr 0 0 0),(3,.ptr 1 0 0),(5,.slice 2 0 1 (b2).length (b2).length)],[.box [.int .i64 K,.int .i64 R,.vec .cell L,.int .i64 X,.int .i64 Y,.bool hd,.int .u8 M,.str ti,.vec .str l],.box [.int .i64 K,.int .i64 R,.vec .cell L',.int .i64 X2,.int .i64 Y2,.bool hd',.int .u8 M2,.str ti',.vec .str l'],.seq (.int .u8) (b2)]⟩) (fun _=>True) (Held.out ?_) (fun _ _=>Held.out ?_)|refine tU ?_|refine qaa ?_ ?_|(refine tI ?_;intro hyp)|intro hyp0|exact tZ|omega
 ·refine⟨?_⟩
  have hw:=htk
  have htl:=jcm (jab ti') (by omega)
  repeat' first|refine tU ?_|refine qaa ?_ ?_|(refine tI ?_;intro hyp)|intro hyp0|exact tZ|omega
  ·have e:b2=b1++3::jeE (jab ti'):=by rw[hb2,titB,if_neg (fun q=>hyp (jaC.1 q))]
   exact⟨(),qab [0,1,7] [] rfl (by rw[e];exact tF)⟩
  ·have e:b2=b1:=by rw[hb2,titB,if_pos (jaC.2 hyp),qae]
   exact⟨(),qab [0,1,2] [] rfl (by rw[e];exact tF)⟩
 refine⟨?_⟩
 repeat' first|refine T.cut (a:=z68_13) (fun _:Unit=>⟨[(2,.ptr 0 0 0),(3,.ptr 1 0 0),(5,.slice 2 0 1 (b3).length (b3).length)],[.box [.int .i64 K,.int .i64 R,.vec .cell L,.int .i64 X,.int .i64 Y,.bool hd,.int .u8 M,.str ti,.vec .str l],.box [.int .i64 K,.int .i64 R,.vec .cell L',.int .i64 X2,.int .i64 Y2,.bool hd',.int .u8 M2,.str ti',.vec .str l'],.seq (.int .u8) (b3)]⟩) (fun _=>True) (Held.out ?_) (fun _ _=>Held.out ?_)|refine tU ?_|refine qaa ?_ ?_|(refine tI ?_;intro hyp)|intro hyp0|exact tZ|omega
 ·refine⟨?_⟩
  have hw:jau [(M2:Int)]=[(M2:Int)]:=by rw[jao,jaU,jbQ (by omega) (by omega)];rfl
  repeat' first|refine tU ?_|refine qaa ?_ ?_|(refine tI ?_;intro hyp)|intro hyp0|exact tZ|omega
  ·have e:b3=b2++[4,(M2:Int)]:=by rw[hb3,mouB,if_neg (fun e=>hyp (by rw[e]))];simp only[jbm,jbR,ja3 (show M2<128 by omega)];rfl
   exact⟨(),qab [0,1,5] [] rfl (by rw[e];exact tF)⟩
  ·have e:b3=b2:=by rw[hb3,mouB,if_pos (by omega),qae]
   exact⟨(),qab [0,1,2] [] rfl (by rw[e];exact tF)⟩
 refine⟨?_⟩
 repeat' first|refine T.cut (a:=z68_16) (fun _:Unit=>⟨[(2,.ptr 0 0 0),(3,.ptr 1 0 0),(5,.slice 2 0 1 (b4).length (b4).length)],[.box [.int .i64 K,.int .i64 R,.vec .cell L,.int .i64 X,.int .i64 Y,.bool hd,.int .u8 M,.str ti,.vec .str l],.box [.int .i64 K,.int .i64 R,.vec .cell L',.int .i64 X2,.int .i64 Y2,.bool hd',.int .u8 M2,.str ti',.vec .str l'],.seq (.int .u8) (b4)]⟩) (fun _=>True) (Held.out ?_) (fun _ _=>Held.out ?_)|refine tU ?_|refine qaa ?_ ?_|(refine tI ?_;intro hyp)|intro hyp0|exact tZ|omega
 ·refine⟨?_⟩
  have hby:¬l'=l→b4=b3++5::jaq [comK l' l,l'.length-comK l' l]++texB (l'.drop (comK l' l)):=fun h=>by rw[hb4,linB,if_neg h,List.append_assoc]
  have hbn:l'=l→b4=b3:=fun h=>by rw[hb4,linB,if_pos h,qae]
  obtain⟨j,hj⟩:∃j,j=comK l' l:=⟨_,rfl⟩
  obtain⟨c1,c2⟩:=jlA l' l
  rw[←hj]at c1 c2 hby
  have hsl':=hs'.slen
  repeat' first|refine T.cut (a:=z68_20) (fun _:Unit=>⟨[(2,.ptr 0 0 0),(3,.ptr 1 0 0),(5,.slice 2 0 1 b3.length b3.length),(9,.int .i64 j)],[.box [.int .i64 K,.int .i64 R,.vec .cell L,.int .i64 X,.int .i64 Y,.bool hd,.int .u8 M,.str ti,.vec .str l],.box [.int .i64 K,.int .i64 R,.vec .cell L',.int .i64 X2,.int .i64 Y2,.bool hd',.int .u8 M2,.str ti',.vec .str l'],.seq (.int .u8) b3]⟩) (fun _=>True) (Held.out ?_) (fun _ _=>Held.out ?_)|refine tU ?_|refine qaa ?_ ?_|(refine tI ?_;intro hyp)|intro hyp0|exact tZ|omega
  ·refine⟨?_⟩
   repeat' first|refine tU ?_|refine qaa ?_ ?_|(refine tI ?_;intro hyp)|intro hyp0|exact tZ|omega
   refine T.loop (fun v:Nat=>⟨[(2,.ptr 0 0 0),(3,.ptr 1 0 0),(5,.slice 2 0 1 b3.length b3.length),(9,.int .i64 v)],[.box [.int .i64 K,.int .i64 R,.vec .cell L,.int .i64 X,.int .i64 Y,.bool hd,.int .u8 M,.str ti,.vec .str l],.box [.int .i64 K,.int .i64 R,.vec .cell L',.int .i64 X2,.int .i64 Y2,.bool hd',.int .u8 M2,.str ti',.vec .str l'],.seq (.int .u8) b3]⟩) (fun v=>j=v+comK (l'.drop v) (l.drop v)) (fun v=>l'.length-v) 0 (by rw[hj];simp) (qab [0,1,2] [] rfl (by exact tF)) (fun v hv=>?_)
   by_cases hyes:(v<l'.length∧v<l.length)∧l'.getD v ETy.str.dflt=l.getD v ETy.str.dflt
   ·obtain⟨⟨h1,h2⟩,h3⟩:=hyes
    have hgo:=jso (jax (d:=ETy.str.dflt) h1) (by rw[h3];exact jax h2)
    repeat' first|exact absurd h3 hyp|refine tU ?_|refine qaa ?_ ?_|(refine tI ?_;intro hyp)|intro hyp0|exact tZ|omega
    exact⟨v+1,by omega,by omega,qab [0,1,2] [] rfl (by exact tF)⟩
   ·have hst:comK (l'.drop v) (l.drop v)=0:=jmx fun s t h1 h2 e=>hyes (by
     have q1:=(List.getElem?_eq_some_iff.1 h1).1
     have q2:=(List.getElem?_eq_some_iff.1 h2).1
     rw[jax (d:=ETy.str.dflt) q1]at h1
     rw[jax (d:=ETy.str.dflt) q2]at h2
     exact⟨⟨q1,q2⟩,(Option.some.inj h1).trans (e.trans (Option.some.inj h2).symm)⟩)
    have hvj:v=j:=by omega
    subst hvj
    repeat' first|refine tU ?_|refine qaa ?_ ?_|(refine tI ?_;intro hyp)|intro hyp0|exact tZ|omega
    all_goals first|exact⟨(),qab [0,1,2] [] rfl (by exact tF)⟩|exact absurd ⟨⟨by omega,by omega⟩,by assumption⟩ hyes
  ·refine⟨?_⟩
   have hb4:=hby hyp
   obtain⟨D,hD⟩:∃D,D=l'.drop j:=⟨_,rfl⟩
   have hDl:D.length=l'.length-j:=by rw[hD,qaf]
   have hw:qah (l'.length-j) (List.drop j l')=D:=by rw[hD];exact qac (by rw[qaf];exact Nat.le_refl _)
   have hw2:jau [(j:Int),(l'.length:Int)-j]=jaq [j,l'.length-j]:=by
    rw[←jbw,qai,qai,List.map_nil]
    congr 2
    simp only[Int.ofNat_eq_natCast,List.cons.injEq,and_true]
    omega
   have hvl:=jaI [j,l'.length-j] (fun u hu=>by simp at hu;omega)
   simp only[qag,List.length_nil]at hvl
   rw[←hD]at hb4
   obtain⟨c0,hc0⟩:∃c,c=b3++5::jaq [j,l'.length-j]:=⟨_,rfl⟩
   have hc0l:c0.length≤400:=by rw[hc0];simp only[qad,qag];omega
   have hbc:b4=c0++texB D:=by rw[hb4,hc0]
   repeat' first|refine tU ?_|refine qaa ?_ ?_|(refine tI ?_;intro hyp)|intro hyp0|exact tZ|omega
   refine T.loop (fun v:Nat=>⟨[(2,.ptr 0 0 0),(3,.ptr 1 0 0),(5,.slice 2 0 1 (c0++texB (D.take v)).length (c0++texB (D.take v)).length),(122,.vec .str D),(123,.int .i64 D.length),(124,.int .i64 v)],[.box [.int .i64 K,.int .i64 R,.vec .cell L,.int .i64 X,.int .i64 Y,.bool hd,.int .u8 M,.str ti,.vec .str l],.box [.int .i64 K,.int .i64 R,.vec .cell L',.int .i64 X2,.int .i64 Y2,.bool hd',.int .u8 M2,.str ti',.vec .str l'],.seq (.int .u8) (c0++texB (D.take v))]⟩) (fun v=>v≤D.length) (fun v=>D.length-v) 0 (by omega) (qab [0,1,5] [] rfl (by simp only[hc0,texB,List.take_zero,List.flatMap_nil,qae];exact tF)) (fun v hv=>?_)
   have hs64:∀s∈D,s.size≤64:=fun s hs=>f2.s64 s (by rw[hD]at hs;exact List.mem_of_mem_drop hs)
   have htl:=jlC (l:=D.take v) (fun s hs=>hs64 s (List.mem_of_mem_take hs))
   rw[List.length_take]at htl
   by_cases hvD:v<D.length
   ·have h64:=hs64 _ (jeN hvD)
    have hsn:=jmA (jax (d:=ETy.str.dflt) hvD)
    have hln:(jab (D.getD v ETy.str.dflt)).length=(D.getD v ETy.str.dflt).size:=jaw _
    have hw3:qah (D.getD v ETy.str.dflt).size (jab (D.getD v ETy.str.dflt))=jab (D.getD v ETy.str.dflt):=qac (by omega)
    have htx:=jcm (jab (D.getD v ETy.str.dflt)) (by omega)
    repeat' first|refine tU ?_|refine qaa ?_ ?_|(refine tI ?_;intro hyp)|intro hyp0|exact tZ|omega
    exact⟨v+1,by omega,by omega,qab [0,1,5] [] rfl (by rw[hsn];exact tF)⟩
   ·have e:D.take v=D:=qac (by omega)
    rw[e,←hbc]
    repeat' first|refine tU ?_|refine qaa ?_ ?_|(refine tI ?_;intro hyp)|intro hyp0|exact tZ|omega
    exact⟨(),qab [0,1,2] [] rfl (by exact tF)⟩
  ·exact⟨(),qab [0,1,2] [] rfl (by rw[hbn hyp];exact tF)⟩
 refine⟨?_⟩
 obtain⟨U,hU⟩:∃U,U=undL L l l':=⟨_,rfl⟩
 obtain⟨n,hn⟩:∃n,n=upN K R U L':=⟨_,rfl⟩
 obtain⟨V,hV⟩:∃V,V=movL K R U n:=⟨_,rfl⟩
 have hUL:U.length=K*R:=by rw[hU,jst,hL]
 have hnb:=jsp K R hr.1 U L'
 rw[←hn]at hnb
 have hgU:jbo K R U=true:=by rw[hU];exact jss l l' (jq0 hr1)
 have hcU:∀q∈U,CWf q:=by rw[hU];exact jx5 (by omega) hs.wf
 have hVL:V.length=K*R:=by rw[hV];exact juM hUL n
 have hcel:celB K R U L'=scrB n++jgs (jae (jak V K R) (jak L' K R) R).1++jbd (cpyL K R V L') L':=by rw[hV,hn];rfl
 rw[←hU,hcel]
 have hw:List.map (ulf l l') L=U:=hU.symm
 have hw2:(jbC (fun m=>cntF (fun i=>jfl U (i+m * ↑K)) (cAt L') L'.length) (R-1)).1=n:=by
  rw[hn,upN]
  congr 2
  funext m
  rw[dist,hL']
 repeat' first|exact hs.wf|exact f1.lk|refine T.cut (a:=z68_39) (fun _:Unit=>⟨[(2,.ptr 0 0 0),(3,.ptr 1 0 0),(5,.slice 2 0 1 (b4++scrB n).length (b4++scrB n).length)],[.box [.int .i64 K,.int .i64 R,.slice 3 0 6 (K*R) (K*R),.int .i64 X,.int .i64 Y,.bool hd,.int .u8 M,.str ti,.vec .str l],.box [.int .i64 K,.int .i64 R,.vec .cell L',.int .i64 X2,.int .i64 Y2,.bool hd',.int .u8 M2,.str ti',.vec .str l'],.seq (.int .u8) (b4++scrB n),.seq .cell V]⟩) (fun _=>True) (Held.out ?_) (fun _ _=>Held.out ?_)|refine tU ?_|refine qaa ?_ ?_|(refine tI ?_;intro hyp)|intro hyp0|exact tZ|omega
 ·refine⟨?_⟩
  have hcw:CWs U:=fun q hq=>(hcU q hq).rune
  have hw3:(jaM (jak U K R) n).flatten=V:=hV.symm
  have hsb:=jif n (by omega)
  have hw4:jau [max (2*n-1) (-2*n)]=jaq [scrN n]:=by
   rw[jao,jaU,jbm,jbR]
   congr 2
   unfold scrN
   split<;>omega
  have hvl:(jaq [scrN n]).length≤10:=jaI [scrN n] (fun u hu=>by
   simp only[HB,ne_eq,reduceCtorEq]at hu
   rw[hu]
   unfold scrN
   split<;>omega)
  repeat' first|exact hgU|exact hcw|refine tU ?_|refine qaa ?_ ?_|(refine tI ?_;intro hyp)|intro hyp0|exact tZ|omega
  ·have e:scrB n=6::jaq [scrN n]:=if_neg hyp
   exact⟨(),qab [0,1,6,7] [] rfl (by rw[e];exact tF)⟩
  ·have e:scrB n=[]:=if_pos hyp
   have e2:V=U:=by rw[hV,hyp,jmz hUL]
   exact⟨(),qab [0,1,2,3] [] rfl (by rw[e,e2];exact tF)⟩
 refine⟨?_⟩
 have hw:qah (K*R) V=V:=qac (by omega)
 have hcpl:=juN hVL hL'
 have hsb:=jif n (by omega)
 have hcs:=jeJ (jak V K R) (jak L' K R) R (by omega) (jba _ _ _)
 have hlb:=jeK (cpyL K R V L') L' hs'.wf (by omega)
 repeat' first|exact hs'.wf|exact f2.runes|exact f2.wide|refine tU ?_|refine qaa ?_ ?_|(refine tI ?_;intro hyp)|intro hyp0|exact tZ|omega
 exact qab [8] [] rfl (by exact tF))
end
end
end Go.Proofs.YtienkkicehmchaaGreatDoor
