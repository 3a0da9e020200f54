/- Texts of this claim, merged by a program of this claim: FRdiff. -/
import Derived.Test.YtienkkicehmchaaGreatDoorDl40
import Derived.Test.YtienkkicehmchaaGreatDoorDl6
namespace Go.Proofs.YtienkkicehmchaaGreatDoor
open And renaming intro→qaa
open List renaming take_of_length_le→qab,append_nil→qad,length_append→qae,range→qaf,take→qah,map→qai,length_cons→qaj,map_cons→qal,length_drop→qan,flatMap_nil→qao,length_map→qap,map_nil→qaq
open Cos renaming intro→qac
open Int renaming ofNat→qag,ofNat_eq_natCast→qak,toNat_natCast→qam
noncomputable section
set_option linter.unusedVariables false
set_option linter.unusedSimpArgs false
section
open Go.RowKit
set_option maxRecDepth 100000
set_option maxHeartbeats 4000000
abbrev jm6:List AK:=[.agg [.any,.any,.sl .cell,.any,.any,.any,.any,.any,.sl .str],.agg [.any,.any,.sl .cell,.any,.any,.any,.any,.any,.sl .str]]
abbrev q_r8diff (k r:Int) (L:List CD) (x y:Int) (hd:Bool) (mo:Int) (ti:ByteArray) (l:List ByteArray) (k' r':Int) (L':List CD) (x' y':Int) (hd':Bool) (mo':Int) (ti':ByteArray) (l':List ByteArray):QA:=([.agg [.int .i64 k,.int .i64 r,.vec .cell L,.int .i64 x,.int .i64 y,.bool hd,.int .u8 mo,.str ti,.vec .str l],.agg [.int .i64 k',.int .i64 r',.vec .cell L',.int .i64 x',.int .i64 y',.bool hd',.int .u8 mo',.str ti',.vec .str l']],(k=k'∧r=r')∧(ScrOk L l∧ScrOk L' l')∧(jai k r L x y mo ti l=true∧jai k' r' L' x' y' mo' ti' l'=true)∧(0≤mo∧0≤mo'),.ret (.vec (.int .u8) (jfm k.toNat r.toNat L x.toNat y.toNat hd mo.toNat ti l L' x'.toNat y'.toNat hd' mo'.toNat ti' l')))
def sp_r8diff:=spQ (u18 q_r8diff)
theorem jhL:W18 (hA sp_r8diff) q_r8diff:=w18 (aA rfl)
theorem jm7:Fre 65 sp_r8diff:=ofT (u18 q_r8diff) fun⟨k,r,L,x,y,hd,mo,ti,l,k',r',L',x',y',hd',mo',ti',l'⟩ hG=>tfi (.t [.sl (.int .i64)] je8 jlw (.t [.sl (.int .u8)] jg7 jpa (.f [.sl .str,.sl .str] jhb jmG (.a jq1 jjH jq2 (.t jtn jkN jto (.f jtq jkO jts (.a jgI jdr jgJ (.f [.sl .cell,.sl .cell] je4 jlp (.t jtu jkP jtv .nil))))))))) 0 jhh (by
 dsimp only[u18,q_r8diff]at hG ⊢
 have zc:=Hk.mk (qaa @jfM (qaa @ji8 (qaa @jhD (qaa @jlS (qaa @jm2 (qaa @jm3 (qaa @jek (qaa @jfG (qaa @jm5 @jpA)))))))))
 obtain⟨⟨rfl,rfl⟩,⟨hs,hs'⟩,⟨hr1,hr2⟩,hmo,hmo'⟩:=hG
 obtain⟨K,R,X,Y,M,rfl,rfl,rfl,rfl,rfl,f1⟩:=jaj hr1 hmo
 obtain⟨K2,R2,X2,Y2,M2,e1,e2,rfl,rfl,rfl,f2⟩:=jaj hr2 hmo'
 obtain rfl:K=K2:=by omega
 obtain rfl:R=R2:=by omega
 simp only[qam]
 have hk:=f1.k1
 have hr:=f1.r1
 have hx2:=f2.x1
 have hy2:=f2.y1
 have hm2:=f2.mo1
 have ht2:=f2.ti1
 have hl1:=f1.l1
 have hl2:=f2.l1
 have hL:=f1.len
 have hL':=f2.len
 have hKR:K*R≤1920:=Nat.mul_le_mul (show K≤80 by omega) (show R≤24 by omega)
 have htk:qah ti'.size (jab ti')=jab ti':=qab (by rw[jaw];exact Nat.le_refl _)
 have hti:(jab ti').length=ti'.size:=jaw ti'
 obtain⟨b1,hb1⟩:∃b,b=curB X Y hd X2 Y2 hd':=⟨_,rfl⟩
 obtain⟨b2,hb2⟩:∃b,b=b1++titB ti ti':=⟨_,rfl⟩
 obtain⟨b3,hb3⟩:∃b,b=b2++mouB M M2:=⟨_,rfl⟩
 obtain⟨b4,hb4⟩:∃b,b=b3++linB l l':=⟨_,rfl⟩
 have q1:b1.length≤31:=by rw[hb1];exact jgv X Y hd X2 Y2 hd' (by omega) (by omega)
 have q2:b2.length≤200:=by
  have:=jgw ti ti' ht2
  rw[hb2,qae]
  omega
 have q3:b3.length≤300:=by
  have:=jgx M M2 (by omega)
  rw[hb3,qae]
  omega
 have q4:b4.length≤2000:=by
  have:=jlD l l' hl2 f2.s64
  rw[hb4,qae]
  omega
 have hhead:jqw X Y hd M ti l X2 Y2 hd' M2 ti' l'=b4:=by rw[hb4,hb3,hb2,hb1];rfl
 rw[jfm,hhead]
 repeat' first|refine T.cut (a:=z100_2) (fun _:Unit=>⟨[(2,.ptr 0 0 0),(3,.ptr 1 0 0),(5,.slice 2 0 1 (b1).length (b1).length)],[.box [.int .i64 K,.int .i64 R,.vec .cell L,.int .i64 X,.int .i64 Y,.bool hd,.int .u8 M,.str ti,.vec .str l],.box [.int .i64 K,.int .i64 R,.vec .cell L',.int .i64 X2,.int .i64 Y2,.bool hd',.int .u8 M2,.str ti',.vec .str l'],.seq (.int .u8) (b1)]⟩) (fun _=>True) (Held.out ?_) (fun _ _=>Held.out ?_)|refine tU ?_|refine qaa ?_ ?_|(refine tI ?_;intro hyp)|intro hyp0|exact tZ|omega
 ·refine⟨?_⟩
  have hc:=@jig X Y X2 Y2 hd hd'
  have hby:curC X Y hd X2 Y2 hd'=true→b1=2::jaq [X2,Y2,if hd' then 1 else 0]:=fun h=>by rw[hb1,curB,if_pos h]
  have hbn:¬curC X Y hd X2 Y2 hd'=true→b1=[]:=fun h=>by rw[hb1,curB,if_neg h]
  have hv:∀z:Nat,z<128→jaq [X2,Y2,z]=[(X2:Int),Y2,z]:=fun z hz=>by
   simp only[jbm,jbR,ja3 (show X2<128 by omega),ja3 (show Y2<128 by omega),ja3 hz]
   rfl
  have hb0:∀z:Int,0≤z→z≤80→varN z.toNat=[z]:=fun z h1 h2=>jbQ h1 (by omega)
  have hw:jau [(X2:Int),(Y2:Int)]=[(X2:Int),Y2]:=by rw[jao,jao,jaU,hb0 _ (by omega) (by omega),hb0 _ (by omega) (by omega)];rfl
  repeat' first|refine tU ?_|refine qaa ?_ ?_|(refine tI ?_;intro hyp)|intro hyp0|exact tZ|omega
  ·rename_i hq
   have e:b1=[2,(X2:Int),Y2,1]:=by rw[hby (hc.2 hq),hyp,if_pos rfl,hv 1 (by omega)];rfl
   exact⟨(),qac [0,1,9] [] rfl (by rw[e];exact tF)⟩
  ·rename_i hq
   have e:b1=[2,(X2:Int),Y2,0]:=by rw[hby (hc.2 hq),hyp,if_neg (by decide),hv 0 (by omega)];rfl
   exact⟨(),qac [0,1,9] [] rfl (by rw[e];exact tF)⟩
  ·have e:b1=[]:=hbn fun q=>by
    rcases hc.1 q with (h|h)|h
    ·exact h hyp.1.1
    ·exact h hyp.1.2
    ·rw[hyp.2]at h
     simp at h
   exact⟨(),qac [0,1,2] [] rfl (by rw[e];exact tF)⟩
 refine⟨?_⟩
 repeat' first|refine T.cut (a:=z100_9) (fun _:Unit=>⟨[(2,.ptr 0 0 0),(3,.ptr 1 0 0),(5,.slice 2 0 1 (b2).length (b2).length)],[.box [.int .i64 K,.int .i64 R,.vec .cell L,.int .i64 X,.int .i64 Y,.bool hd,.int .u8 M,.str ti,.vec .str l],.box [.int .i64 K,.int .i64 R,.vec .cell L',.int .i64 X2,.int .i64 Y2,.bool hd',.int .u8 M2,.str ti',.vec .str l'],.seq (.int .u8) (b2)]⟩) (fun _=>True) (Held.out ?_) (fun _ _=>Held.out ?_)|refine tU ?_|refine qaa ?_ ?_|(refine tI ?_;intro hyp)|intro hyp0|exact tZ|omega
 ·refine⟨?_⟩
  have hw:=htk
  have htl:=jcm (jab ti') (by omega)
  repeat' first|refine tU ?_|refine qaa ?_ ?_|(refine tI ?_;intro hyp)|intro hyp0|exact tZ|omega
  ·have e:b2=b1++3::jeE (jab ti'):=by rw[hb2,titB,if_neg (fun q=>hyp (jaC.1 q))]
   exact⟨(),qac [0,1,7] [] rfl (by rw[e];exact tF)⟩
  ·have e:b2=b1:=by rw[hb2,titB,if_pos (jaC.2 hyp),qad]
   exact⟨(),qac [0,1,2] [] rfl (by rw[e];exact tF)⟩
 refine⟨?_⟩
 repeat' first|refine T.cut (a:=z100_14) (fun _:Unit=>⟨[(2,.ptr 0 0 0),(3,.ptr 1 0 0),(5,.slice 2 0 1 (b3).length (b3).length)],[.box [.int .i64 K,.int .i64 R,.vec .cell L,.int .i64 X,.int .i64 Y,.bool hd,.int .u8 M,.str ti,.vec .str l],.box [.int .i64 K,.int .i64 R,.vec .cell L',.int .i64 X2,.int .i64 Y2,.bool hd',.int .u8 M2,.str ti',.vec .str l'],.seq (.int .u8) (b3)]⟩) (fun _=>True) (Held.out ?_) (fun _ _=>Held.out ?_)|refine tU ?_|refine qaa ?_ ?_|(refine tI ?_;intro hyp)|intro hyp0|exact tZ|omega
 ·refine⟨?_⟩
  repeat' first|refine tU ?_|refine qaa ?_ ?_|(refine tI ?_;intro hyp)|intro hyp0|exact tZ|omega
  ·have e:b3=b2++[4,(M2:Int)]:=by rw[hb3,mouB,if_neg (fun e=>hyp (by rw[e]))];simp only[jbm,jbR,ja3 (show M2<128 by omega)];rfl
   exact⟨(),qac [0,1,4] [] rfl (by rw[e];exact tF)⟩
  ·have e:b3=b2:=by rw[hb3,mouB,if_pos (by omega),qad]
   exact⟨(),qac [0,1,2] [] rfl (by rw[e];exact tF)⟩
 refine⟨?_⟩
 repeat' first|refine T.cut (a:=z100_17) (fun _:Unit=>⟨[(2,.ptr 0 0 0),(3,.ptr 1 0 0),(5,.slice 2 0 1 (b4).length (b4).length)],[.box [.int .i64 K,.int .i64 R,.vec .cell L,.int .i64 X,.int .i64 Y,.bool hd,.int .u8 M,.str ti,.vec .str l],.box [.int .i64 K,.int .i64 R,.vec .cell L',.int .i64 X2,.int .i64 Y2,.bool hd',.int .u8 M2,.str ti',.vec .str l'],.seq (.int .u8) (b4)]⟩) (fun _=>True) (Held.out ?_) (fun _ _=>Held.out ?_)|refine tU ?_|refine qaa ?_ ?_|(refine tI ?_;intro hyp)|intro hyp0|exact tZ|omega
 ·refine⟨?_⟩
  have hby:¬l'=l→b4=b3++5::jaq [comK l' l,l'.length-comK l' l]++texB (l'.drop (comK l' l)):=fun h=>by rw[hb4,linB,if_neg h,List.append_assoc]
  have hbn:l'=l→b4=b3:=fun h=>by rw[hb4,linB,if_pos h,qad]
  obtain⟨j,hj⟩:∃j,j=comK l' l:=⟨_,rfl⟩
  obtain⟨c1,c2⟩:=jlA l' l
  rw[←hj]at c1 c2 hby
  have hsl':=hs'.slen
  repeat' first|refine T.cut (a:=z100_21) (fun _:Unit=>⟨[(2,.ptr 0 0 0),(3,.ptr 1 0 0),(5,.slice 2 0 1 b3.length b3.length),(8,.int .i64 j)],[.box [.int .i64 K,.int .i64 R,.vec .cell L,.int .i64 X,.int .i64 Y,.bool hd,.int .u8 M,.str ti,.vec .str l],.box [.int .i64 K,.int .i64 R,.vec .cell L',.int .i64 X2,.int .i64 Y2,.bool hd',.int .u8 M2,.str ti',.vec .str l'],.seq (.int .u8) b3]⟩) (fun _=>True) (Held.out ?_) (fun _ _=>Held.out ?_)|refine tU ?_|refine qaa ?_ ?_|(refine tI ?_;intro hyp)|intro hyp0|exact tZ|omega
  ·refine⟨?_⟩
   repeat' first|refine tU ?_|refine qaa ?_ ?_|(refine tI ?_;intro hyp)|intro hyp0|exact tZ|omega
   refine T.loop (fun v:Nat=>⟨[(2,.ptr 0 0 0),(3,.ptr 1 0 0),(5,.slice 2 0 1 b3.length b3.length),(8,.int .i64 v)],[.box [.int .i64 K,.int .i64 R,.vec .cell L,.int .i64 X,.int .i64 Y,.bool hd,.int .u8 M,.str ti,.vec .str l],.box [.int .i64 K,.int .i64 R,.vec .cell L',.int .i64 X2,.int .i64 Y2,.bool hd',.int .u8 M2,.str ti',.vec .str l'],.seq (.int .u8) b3]⟩) (fun v=>j=v+comK (l'.drop v) (l.drop v)) (fun v=>l'.length-v) 0 (by rw[hj];simp) (qac [0,1,2] [] rfl (by exact tF)) (fun v hv=>?_)
   by_cases hyes:(v<l'.length∧v<l.length)∧l'.getD v ETy.str.dflt=l.getD v ETy.str.dflt
   ·obtain⟨⟨h1,h2⟩,h3⟩:=hyes
    have hgo:=jso (jax (d:=ETy.str.dflt) h1) (by rw[h3];exact jax h2)
    repeat' first|exact absurd h3 hyp|refine tU ?_|refine qaa ?_ ?_|(refine tI ?_;intro hyp)|intro hyp0|exact tZ|omega
    exact⟨v+1,by omega,by omega,qac [0,1,2] [] rfl (by exact tF)⟩
   ·have hst:comK (l'.drop v) (l.drop v)=0:=jmx fun s t h1 h2 e=>hyes (by
     have q1:=(List.getElem?_eq_some_iff.1 h1).1
     have q2:=(List.getElem?_eq_some_iff.1 h2).1
     rw[jax (d:=ETy.str.dflt) q1]at h1
     rw[jax (d:=ETy.str.dflt) q2]at h2
     exact⟨⟨q1,q2⟩,(Option.some.inj h1).trans (e.trans (Option.some.inj h2).symm)⟩)
    have hvj:v=j:=by omega
    subst hvj
    repeat' first|refine tU ?_|refine qaa ?_ ?_|(refine tI ?_;intro hyp)|intro hyp0|exact tZ|omega
    all_goals first|exact⟨(),qac [0,1,2] [] rfl (by exact tF)⟩|exact absurd ⟨⟨by omega,by omega⟩,by assumption⟩ hyes
  ·refine⟨?_⟩
   have hb4:=hby hyp
   obtain⟨D,hD⟩:∃D,D=l'.drop j:=⟨_,rfl⟩
   have hDl:D.length=l'.length-j:=by rw[hD,qan]
   have hw:qah (l'.length-j) (List.drop j l')=D:=by rw[hD];exact qab (by rw[qan];exact Nat.le_refl _)
   have hw2:jau [(j:Int),(l'.length:Int)-j]=jaq [j,l'.length-j]:=by
    rw[←jbw,qal,qal,qaq]
    congr 2
    simp only[qak,List.cons.injEq,and_true]
    omega
   have hvl:=jaI [j,l'.length-j] (fun u hu=>by simp at hu;omega)
   simp only[qaj,List.length_nil]at hvl
   rw[←hD]at hb4
   obtain⟨c0,hc0⟩:∃c,c=b3++5::jaq [j,l'.length-j]:=⟨_,rfl⟩
   have hc0l:c0.length≤400:=by rw[hc0];simp only[qae,qaj];omega
   have hbc:b4=c0++texB D:=by rw[hb4,hc0]
   repeat' first|refine tU ?_|refine qaa ?_ ?_|(refine tI ?_;intro hyp)|intro hyp0|exact tZ|omega
   refine T.loop (fun v:Nat=>⟨[(2,.ptr 0 0 0),(3,.ptr 1 0 0),(5,.slice 2 0 1 (c0++texB (D.take v)).length (c0++texB (D.take v)).length),(9,.int .i64 ((j+v:Nat):Int))],[.box [.int .i64 K,.int .i64 R,.vec .cell L,.int .i64 X,.int .i64 Y,.bool hd,.int .u8 M,.str ti,.vec .str l],.box [.int .i64 K,.int .i64 R,.vec .cell L',.int .i64 X2,.int .i64 Y2,.bool hd',.int .u8 M2,.str ti',.vec .str l'],.seq (.int .u8) (c0++texB (D.take v))]⟩) (fun v=>v≤D.length) (fun v=>D.length-v) 0 (by omega) (qac [0,1,7] [] rfl (by simp only[hc0,texB,List.take_zero,qao,qad];exact tF)) (fun v hv=>?_)
   have hs64:∀s∈D,s.size≤64:=fun s hs=>f2.s64 s (by rw[hD]at hs;exact List.mem_of_mem_drop hs)
   have htl:=jlC (l:=D.take v) (fun s hs=>hs64 s (List.mem_of_mem_take hs))
   rw[List.length_take]at htl
   by_cases hvD:v<D.length
   ·have h64:=hs64 _ (jeN hvD)
    have hsn:=jmA (jax (d:=ETy.str.dflt) hvD)
    have hln:(jab (D.getD v ETy.str.dflt)).length=(D.getD v ETy.str.dflt).size:=jaw _
    have hw3:qah (D.getD v ETy.str.dflt).size (jab (D.getD v ETy.str.dflt))=jab (D.getD v ETy.str.dflt):=qab (by omega)
    have hw4:l'.getD (j+v) ETy.str.dflt=D.getD v ETy.str.dflt:=by
     rw[hD,List.getD_eq_getElem?_getD,List.getD_eq_getElem?_getD,List.getElem?_drop]
    have htx:=jcm (jab (D.getD v ETy.str.dflt)) (by omega)
    repeat' first|refine tU ?_|refine qaa ?_ ?_|(refine tI ?_;intro hyp)|intro hyp0|exact tZ|omega
    exact⟨v+1,by omega,by omega,qac [0,1,5] [] rfl (by rw[hsn];exact tF)⟩
   ·have e:D.take v=D:=qab (by omega)
    rw[e,←hbc]
    repeat' first|refine tU ?_|refine qaa ?_ ?_|(refine tI ?_;intro hyp)|intro hyp0|exact tZ|omega
    exact⟨(),qac [0,1,2] [] rfl (by exact tF)⟩
  ·exact⟨(),qac [0,1,2] [] rfl (by rw[hbn hyp];exact tF)⟩
 refine⟨?_⟩
 obtain⟨U,hU⟩:∃U,U=undL L l l':=⟨_,rfl⟩
 obtain⟨n,hn⟩:∃n,n=upN K R U L':=⟨_,rfl⟩
 obtain⟨V,hV⟩:∃V,V=movL K R U n:=⟨_,rfl⟩
 have hUL:U.length=K*R:=by rw[hU,jst,hL]
 have hnb:=jsp K R hr.1 U L'
 rw[←hn]at hnb
 have hcel:celB K R U L'=scrB n++jgs (jae (jak V K R) (jak L' K R) R).1++jbd (cpyL K R V L') L':=by rw[hV,hn];rfl
 rw[←hU,hcel]
 have hur:((jak L K R).map fun a=>a.map (ruf l l'))=jak U K R:=by rw[hU];exact juO f1.links fun t ht=>(hs.lk t ht).1
 have hA0r:=jaZ hUL
 have hBr:=jaZ hL'
 have hrb:=juQ hUL hL' hk.1
 have hVr:jak V K R=jaM (jak U K R) n:=by rw[hV];exact jlF (jdk hA0r n)
 have hBf:(jak L' K R).flatten=L':=jdI hL'
 have hcpy:cpyL K R V L'=((qaf R).map (jaR (jaM (jak U K R) n) (jak L' K R))).flatten:=by rw[←hVr];rfl
 rw[hVr,hcpy]
 obtain⟨A0,hA0⟩:∃A,A=jak U K R:=⟨_,rfl⟩
 obtain⟨B,hB⟩:∃A,A=jak L' K R:=⟨_,rfl⟩
 rw[←hA0]at hA0r hrb hur ⊢
 rw[←hB]at hBr hrb hBf ⊢
 have hw:((jak L K R).map fun a=>a.map (ruf l l'))=A0:=hur
 have hw2:jak L' K R=B:=hB.symm
 have hw3:(jbC (fun m=>jbP (jaM A0 m) B A0.flatten.length) (A0.length-1)).1=n:=by
  rw[jdQ hA0r,hA0r.len,hn]
  exact hrb
 have hla0:=hA0r.len
 have hlb:=hBr.len
 have hrows:∀a∈A0,a.length≤1000:=fun a ha=>by rw[hA0r.row a ha];omega
 obtain⟨c1,hc1⟩:∃c,c=b4++(if 0<n then 6::jaq [(2*n-1).toNat] else []):=⟨_,rfl⟩
 have hv1:∀z:Int,0≤z→z≤100→(jau [z]).length≤10∧jau [z]=jaq [z.toNat]:=fun z h1 h2=>⟨by
  rw[jao,jaU,qad]
  exact jan _ (by omega),rfl⟩
 have q5:c1.length≤2020:=by
  rw[hc1,qae]
  split
  ·rename_i h
   have:=(hv1 (2*n-1) (by omega) (by omega)).1
   rw[(hv1 (2*n-1) (by omega) (by omega)).2]at this
   rw[qaj]
   omega
  ·simp
   omega
 obtain⟨b5,hb5⟩:∃b,b=b4++scrB n:=⟨_,rfl⟩
 have q6:b5.length≤2020:=by
  have:=jif n (by omega)
  rw[hb5,qae]
  omega
 repeat' first|exact hs|exact⟨K,R,by omega,by omega,hA0r,hBr⟩|refine T.cut (a:=z100_42) (fun _:Unit=>⟨[(3,.ptr 0 0 0),(5,.slice 1 0 1 (c1).length (c1).length),(12,.vec (.rows .cell) A0),(13,.slice 2 0 1 R R),(14,.int .i64 n)],[.box [.int .i64 K,.int .i64 R,.vec .cell L',.int .i64 X2,.int .i64 Y2,.bool hd',.int .u8 M2,.str ti',.vec .str l'],.seq (.int .u8) (c1),.seq (.rows .cell) B]⟩) (fun _=>True) (Held.out ?_) (fun _ _=>Held.out ?_)|refine tU ?_|refine qaa ?_ ?_|(refine tI ?_;intro hyp)|intro hyp0|exact tZ|omega
 ·refine⟨?_⟩
  repeat' first|refine tU ?_|refine qaa ?_ ?_|(refine tI ?_;intro hyp)|intro hyp0|exact tZ|omega
  ·have:=hv1 (2*n-1) (by omega) (by omega)
   omega
  ·have e:c1=b4++6::jau [2*n-1]:=by rw[hc1,if_pos (by omega)];rfl
   exact⟨(),qac [1,8,3] [] rfl (by rw[e];exact tF)⟩
  ·have e:c1=b4:=by rw[hc1,if_neg (by omega),qad]
   exact⟨(),qac [1,2,3] [] rfl (by rw[e];exact tF)⟩
 refine⟨?_⟩
 repeat' first|refine T.cut (a:=z100_46) (fun _:Unit=>⟨[(3,.ptr 0 0 0),(5,.slice 1 0 1 (b5).length (b5).length),(12,.vec (.rows .cell) A0),(13,.slice 2 0 1 R R),(14,.int .i64 n)],[.box [.int .i64 K,.int .i64 R,.vec .cell L',.int .i64 X2,.int .i64 Y2,.bool hd',.int .u8 M2,.str ti',.vec .str l'],.seq (.int .u8) (b5),.seq (.rows .cell) B]⟩) (fun _=>True) (Held.out ?_) (fun _ _=>Held.out ?_)|refine tU ?_|refine qaa ?_ ?_|(refine tI ?_;intro hyp)|intro hyp0|exact tZ|omega
 ·refine⟨?_⟩
  repeat' first|refine tU ?_|refine qaa ?_ ?_|(refine tI ?_;intro hyp)|intro hyp0|exact tZ|omega
  ·have:=hv1 (-2*n) (by omega) (by omega)
   omega
  ·have e:b5=c1++6::jau [-2*n]:=by
    rw[hb5,hc1,if_neg (by omega),qad,scrB,if_neg (by omega),scrN,if_neg (by omega)]
    rfl
   exact⟨(),qac [0,7,2] [] rfl (by rw[e];exact tF)⟩
  ·have e:b5=c1:=by
    rw[hb5,hc1]
    congr 1
    by_cases h:0<n
    ·rw[if_pos h,scrB,if_neg (by omega),scrN,if_pos h]
    ·rw[if_neg h,scrB,if_pos (by omega)]
   exact⟨(),qac [0,1,2] [] rfl (by rw[e];exact tF)⟩
 refine⟨?_⟩
 obtain⟨A1,hA1⟩:∃A,A=jaM A0 n:=⟨_,rfl⟩
 have hA1r:=jdk hA0r n
 rw[←hA1]at hA1r ⊢
 have hla1:=hA1r.len
 have hnmr:=juS hA1r hBr
 have hw:jaM A0 n=A1:=hA1.symm
 obtain⟨b6,hb6⟩:∃b,b=b5++jgs (jae A1 B R).1:=⟨_,rfl⟩
 have q7:b6.length≤3000:=by
  have:=jeJ A1 B R (by omega) hla1
  rw[hb6,qae]
  omega
 repeat' first|exact hrows|refine T.cut (a:=z100_54) (fun _:Unit=>⟨[(5,.slice 0 0 1 b5.length b5.length),(13,.slice 1 0 1 R R),(15,.slice 2 0 1 R R),(16,.slice 3 0 1 (jae A1 B R).1.length (jae A1 B R).1.length)],[.seq (.int .u8) b5,.seq (.rows .cell) B,.seq (.rows .cell) ((qaf R).map (jaR A1 B)),.seq (.int .i64) ((jae A1 B R).1.map qag)]⟩) (fun _=>True) (Held.out ?_) (fun _ _=>Held.out ?_)|refine tU ?_|refine qaa ?_ ?_|(refine tI ?_;intro hyp)|intro hyp0|exact tZ|omega
 ·refine⟨?_⟩
  repeat' first|refine tU ?_|refine qaa ?_ ?_|(refine tI ?_;intro hyp)|intro hyp0|exact tZ|omega
  refine T.loop (fun y:Nat=>⟨[(5,.slice 0 0 1 b5.length b5.length),(12,.vec (.rows .cell) A1),(13,.slice 1 0 1 R R),(15,.slice 2 0 1 R R),(16,.slice 3 0 1 (jae A1 B y).1.length (jae A1 B y).1.length),(17,.int .i64 (jae A1 B y).2),(193,.int .i64 R),(194,.int .i64 y)],[.seq (.int .u8) b5,.seq (.rows .cell) B,.seq (.rows .cell) ((qaf y).map (jaR A1 B)++B.drop y),.seq (.int .i64) ((jae A1 B y).1.map qag)]⟩) (fun y=>y≤R) (fun y=>R-y) 0 (by omega) (qac [1,2,3,4] [] rfl (by simp only[PB,SAM,seval,rdB,Hk.out zc];simp[jae,hlb])) (fun y hy=>?_)
  have hnf:=jck A1 B y
  by_cases hyR:y<R
  ·have hyA:y<A1.length:=by omega
   have hyB:y<B.length:=by omega
   have hay:=(hA1r.at_ hyR).1
   have hby:=(hBr.at_ hyR).1
   have hnl:((qaf y).map (jaR A1 B)).length+(B.drop y).length=R:=by simp;omega
   have hset:=jwZ (jaR A1 B) B hyB (mAt A1 y)
   repeat' first|refine tU ?_|refine qaa ?_ ?_|(refine tI ?_;intro hyp)|intro hyp0|exact tZ|omega
   rw[hset]
   refine T.loop (fun z:Nat=>⟨[(5,.slice 0 0 1 b5.length b5.length),(12,.vec (.rows .cell) A1),(13,.slice 1 0 1 R R),(15,.slice 2 0 1 R R),(16,.slice 3 0 1 (jae A1 B y).1.length (jae A1 B y).1.length),(17,.int .i64 (jae A1 B y).2),(18,.int .i64 y),(19,.int .i64 z),(193,.int .i64 R),(194,.int .i64 y)],[.seq (.int .u8) b5,.seq (.rows .cell) B,.seq (.rows .cell) ((qaf y).map (jaR A1 B)++mAt A1 y::B.drop (y+1)),.seq (.int .i64) ((jae A1 B y).1.map qag)]⟩) (fun z=>z≤R∧∀u,u<z→mAt A1 u≠mAt B y) (fun z=>R-z) 0 ⟨by omega,fun u hu=>by omega⟩ (qac [0,1,2,3] [] rfl (by exact tF)) (fun z ⟨hz,hno⟩=>?_)
   have hnl2:((qaf y).map (jaR A1 B)).length+((B.drop (y+1)).length+1)=R:=by simp;omega
   by_cases heq:mAt A1 y=mAt B y
   ·have hsn:jae A1 B (y+1)=jae A1 B y:=by rw[jae,if_pos heq]
    have hnr:=jjd hyA heq
    have hnn:=jlE (jaR A1 B) (B.drop (y+1)) y
    rw[hnr]at hnn
    repeat' first|exact absurd heq hyp|refine tU ?_|refine qaa ?_ ?_|(refine tI ?_;intro hyp)|intro hyp0|exact tZ|omega
    all_goals exact⟨y+1,by omega,by omega,qac [0,1,2,3] [] rfl (by rw[hsn,←hnn];exact tF)⟩
   ·by_cases hzR:z<R
    ·have haz:=(hA1r.at_ hzR).1
     by_cases hzz:mAt A1 z=mAt B y
     ·have hfz:=je9 (n:=A1.length) hno hzz (by omega)
      have hsn:jae A1 B (y+1)=((jae A1 B y).1++[y-(jae A1 B y).2,z],y+1):=by rw[jae,if_neg heq,hfz]
      have hnr:=jjf hno hzz (by omega)
      have hnn:=jlE (jaR A1 B) (B.drop (y+1)) y
      rw[hnr]at hnn
      have hst2:=juR (jaR A1 B) (B.drop (y+1)) y (mAt A1 y) (mAt B y)
      have hml:(qai qag (jae A1 B y).1).length=(jae A1 B y).1.length:=qap _
      have hw2:qah (jae A1 B y).1.length (qai qag (jae A1 B y).1)=qai qag (jae A1 B y).1:=qab (by omega)
      have hsub:qag (y-(jae A1 B y).2)=(y:Int)-(jae A1 B y).2:=Int.ofNat_sub hnf.1
      repeat' first|exact absurd hyp heq|exact absurd hzz hyp|refine tU ?_|refine qaa ?_ ?_|(refine tI ?_;intro hyp)|intro hyp0|exact tZ|omega
      refine⟨y+1,by omega,by omega,qac [0,1,2,5] [] rfl ?_⟩
      rw[hsn,←hnn,hst2]
      simp only[List.map_append,qal,qaq,hsub]
      exact tF
     ·repeat' first|exact absurd hyp heq|exact absurd hyp hzz|refine tU ?_|refine qaa ?_ ?_|(refine tI ?_;intro hyp)|intro hyp0|exact tZ|omega
      exact⟨z+1,⟨by omega,fun u hu=>if e:u=z then by subst e;exact hzz else hno u (by omega)⟩,by omega,qac [0,1,2,3] [] rfl (by exact tF)⟩
    ·obtain rfl:z=R:=by omega
     have hsn:jae A1 B (y+1)=jae A1 B y:=by rw[jae,if_neg heq,jcN (fun u hu=>hno u (by omega))]
     have hnr:=jje (A:=A1) (B:=B) (y:=y) fun u hu=>hno u (by omega)
     have hnn:=jlE (jaR A1 B) (B.drop (y+1)) y
     rw[hnr]at hnn
     repeat' first|refine tU ?_|refine qaa ?_ ?_|(refine tI ?_;intro hyp)|intro hyp0|exact tZ|omega
     exact⟨y+1,by omega,by omega,qac [0,1,2,3] [] rfl (by rw[hsn,←hnn];exact tF)⟩
  ·obtain rfl:y=R:=by omega
   have hde:B.drop y=[]:=List.drop_of_length_le (by omega)
   repeat' first|refine tU ?_|refine qaa ?_ ?_|(refine tI ?_;intro hyp)|intro hyp0|exact tZ|omega
   exact⟨(),qac [0,1,2,3] [] rfl (by rw[hde,qad];exact tF)⟩
 refine⟨?_⟩
 repeat' first|refine T.cut (a:=z100_78) (fun _:Unit=>⟨[(5,.slice 0 0 1 b6.length b6.length),(13,.slice 1 0 1 R R),(15,.slice 2 0 1 R R)],[.seq (.int .u8) b6,.seq (.rows .cell) B,.seq (.rows .cell) ((qaf R).map (jaR A1 B))]⟩) (fun _=>True) (Held.out ?_) (fun _ _=>Held.out ?_)|refine tU ?_|refine qaa ?_ ?_|(refine tI ?_;intro hyp)|intro hyp0|exact tZ|omega
 ·refine⟨?_⟩
  have hnf:=jck A1 B R
  have hne:=jfN A1 B R
  obtain⟨nums,hnm⟩:∃nums,nums=(jae A1 B R).1:=⟨_,rfl⟩
  rw[←hnm]at hne hnf hb6 ⊢
  have hw:((nums.length:Int) / 2)=((nums.length / 2:Nat):Int):=by omega
  have hw2:qah nums.length (qai qag nums)=qai qag nums:=qab (by simp)
  have hw3:jau (qai qag nums)=jaq nums:=jbw nums
  have hw4:∀X:List Int,qah (b5.length+1+X.length) (b5++[7]++X)=b5++[7]++X:=fun X=>qab (by simp;omega)
  have hw5:jau [((nums.length / 2:Nat):Int)]=varN (nums.length / 2):=by simp only[jau,List.flatMap_cons,qao,qad,qam]
  have h10:=jan (nums.length / 2) (by omega)
  have hvl:=jaI nums (fun x hx=>by have:=hnf.2.2 x hx;omega)
  have hmm:(qai qag nums).length=nums.length:=qap _
  have hnn:∀x∈qai qag nums,0≤x∧x<9223372036854775808:=fun x hx=>by
   obtain⟨u,hu,rfl⟩:=List.mem_map.1 hx
   have:=hnf.2.2 u hu
   simp only[qak]
   omega
  repeat' first|exact hnn|refine tU ?_|refine qaa ?_ ?_|(refine tI ?_;intro hyp)|intro hyp0|exact tZ|omega
  ·have h0:nums≠[]:=fun e=>by rw[e]at hyp;simp at hyp
   have e:b6=b5++7::(varN (nums.length / 2)++jaq nums):=by rw[hb6,jgs,if_neg h0]
   exact⟨(),qac [10,1,2] [] rfl (by rw[e];exact tF)⟩
  ·have h0:nums=[]:=List.eq_nil_of_length_eq_zero (by omega)
   have e:b6=b5:=by rw[hb6,h0];simp[jgs]
   exact⟨(),qac [0,1,2] [] rfl (by rw[e];exact tF)⟩
 refine⟨?_⟩
 have hw:qah R ((qaf R).map (jaR A1 B))=(qaf R).map (jaR A1 B):=qab (by simp)
 have hw2:qah R B=B:=qab (by omega)
 have hw3:=hBf
 have hlt:=jeK ((qaf R).map (jaR A1 B)).flatten L' hs'.wf (by omega)
 have hnl:((qaf R).map (jaR A1 B)).length=R:=by simp
 repeat' first|exact⟨K,R,by omega,by omega,hnmr,hBr,f2.fit⟩|exact f2.whole|exact hs'.wf|exact f2.runes|refine tU ?_|refine qaa ?_ ?_|(refine tI ?_;intro hyp)|intro hyp0|exact tZ|omega
 have e:b6=b4++scrB n++jgs (jae A1 B R).1:=by rw[hb6,hb5]
 exact qac [4] [] rfl (by rw[e];exact tF))
end
end
end Go.Proofs.YtienkkicehmchaaGreatDoor
