/- Texts of this claim, merged by a program of this claim: FLay. -/
import Derived.Test.YtcfkfgkndncanaaGreatDoorMs29
import Derived.Test.YtcfkfgkndncanaaGreatDoorMs39
namespace Go.Proofs.YtcfkfgkndncanaaGreatDoor
set_option linter.unusedVariables false
set_option linter.unusedSimpArgs false
section
open Go.RowKit
set_option maxRecDepth 100000
set_option maxHeartbeats 4000000
theorem jtK {k r:Int}{L:List CD}{x y mo:Int}{ti:ByteArray}{l:List ByteArray}(h:ja6 k r L x y mo ti l=true):jbM k r L=true:=by
 unfold ja6 at h
 simp only[HB,ne_eq,reduceCtorEq]at h
 exact h.1.1.1.1.1.1.1.1
abbrev jxf (k:Int) (r:Int) (L:List CD) (x:Int) (y:Int) (hd:Bool) (mo:Int) (ti:ByteArray) (l:List ByteArray) (k':Int) (r':Int) (L':List CD) (x':Int) (y':Int) (hd':Bool) (mo':Int) (ti':ByteArray) (l':List ByteArray):List CV:=[.agg [.int .i64 k,.int .i64 r,.vec .cell L,.int .i64 x,.int .i64 y,.bool hd,.int .u8 mo,.str ti,.vec .str l],.agg [.int .i64 k',.int .i64 r',.vec .cell L',.int .i64 x',.int .i64 y',.bool hd',.int .u8 mo',.str ti',.vec .str l']]
abbrev jxg (k:Int) (r:Int) (L:List CD) (x:Int) (y:Int) (hd:Bool) (mo:Int) (ti:ByteArray) (l:List ByteArray) (k':Int) (r':Int) (L':List CD) (x':Int) (y':Int) (hd':Bool) (mo':Int) (ti':ByteArray) (l':List ByteArray):Prop×Res:=((k=k'∧r=r')∧(ScrOk L l∧ScrOk L' l')∧(ja6 k r L x y mo ti l=true∧ja6 k' r' L' x' y' mo' ti' l'=true)∧(0≤mo∧0≤mo'),.ret (.vec (.int .u8) (jf7 k.toNat r.toNat L x.toNat y.toNat hd mo.toNat ti l L' x'.toNat y'.toNat hd' mo'.toNat ti' l')))
noncomputable def sp_mlay:Spec:=spOf (α:=Int×Int×(List CD)×Int×Int×Bool×Int×ByteArray×(List ByteArray)×Int×Int×(List CD)×Int×Int×Bool×Int×ByteArray×(List ByteArray)) (fun⟨k,r,L,x,y,hd,mo,ti,l,k',r',L',x',y',hd',mo',ti',l'⟩=>jxf k r L x y hd mo ti l k' r' L' x' y' hd' mo' ti' l') fun⟨k,r,L,x,y,hd,mo,ti,l,k',r',L',x',y',hd',mo',ti',l'⟩=>jxg k r L x y hd mo ti l k' r' L' x' y' hd' mo' ti' l'
theorem jbQ (k:Int) (r:Int) (L:List CD) (x:Int) (y:Int) (hd:Bool) (mo:Int) (ti:ByteArray) (l:List ByteArray) (k':Int) (r':Int) (L':List CD) (x':Int) (y':Int) (hd':Bool) (mo':Int) (ti':ByteArray) (l':List ByteArray):sp_mlay (jxf k r L x y hd mo ti l k' r' L' x' y' hd' mo' ti' l')=some (jxg k r L x y hd mo ti l k' r' L' x' y' hd' mo' ti' l'):=jak _ injS (k,r,L,x,y,hd,mo,ti,l,k',r',L',x',y',hd',mo',ti',l')
theorem jxh:Fresh Tryz.prog E0 47 sp_mlay:=Fresh.of fun⟨k,r,L,x,y,hd,mo,ti,l,k',r',L',x',y',hd',mo',ti',l'⟩ hG=>TF.intro (V:=(VV [(49,conT [.any,.sl (.int .i64)] sp_put),(83,conT [.sl (.int .u8)] sp_text),(84,conF [.sl .str,.sl .str] sp_sequal),(85,conT [.agg [.any,.any,.sl .cell,.any,.any,.any,.any,.any,.sl .str],.sl .str] sp_under),(86,conF [.agg [.any,.any,.sl .cell,.any,.any,.any,.any,.any,.sl .str],.agg [.any,.any,.sl .cell,.any,.any,.any,.any,.any,.sl .str]] sp_best),(65,conT [.agg [.any,.any,.sl .cell,.any,.any,.any,.any,.any,.sl .str],.any] sp_mscrolled),(87,conT [.agg [.any,.any,.sl .cell,.any,.any,.any,.any,.any,.sl .str],.agg [.any,.any,.sl .cell,.any,.any,.any,.any,.any,.sl .str]] sp_mcopies),(88,conT [.sl .cell,.agg [.any,.any,.sl .cell,.any,.any,.any,.any,.any,.sl .str]] sp_mruns)] (.cons (jaa jdw) (Fresh.soundT jsq) (.cons (jaa jhk) (Fresh.soundT jA8) (.cons (jaa jcB) (Fresh.soundF jwx) (.cons (jaa jef) (Fresh.soundT jss) (.cons (jaa jgp) (Fresh.soundF jBm) (.cons (jaa jcY) (Fresh.soundT jje) (.cons (jaa jdx) (Fresh.soundT jtD) (.cons (jaa jeD) (Fresh.soundT jy7) GOk.nil)))))))) 176 0)) jf0 rfl rfl (by
 dsimp only[jxf,jxg]at hG ⊢
 obtain⟨⟨rfl,rfl⟩,⟨hs,hs'⟩,⟨hr1,hr2⟩,hmo,hmo'⟩:=hG
 obtain⟨K,R,X,Y,M,rfl,rfl,rfl,rfl,rfl,f1⟩:=jb4 hr1 hmo
 obtain⟨K2,R2,X2,Y2,M2,e1,e2,rfl,rfl,rfl,f2⟩:=jb4 hr2 hmo'
 obtain rfl:K=K2:=by omega
 obtain rfl:R=R2:=by omega
 simp only[Int.toNat_natCast]
 have hk:=f1.k1
 have hr:=f1.r1
 have hx2:=f2.x1
 have hy2:=f2.y1
 have hm2:=f2.mo1
 have ht2:=f2.ti1
 have hl1:=f1.l1
 have hl2:=f2.l1
 have hL:=f1.len
 have hL':=f2.len
 have hKR:K*R≤1920:=Nat.mul_le_mul (show K≤80 by omega) (show R≤24 by omega)
 have htk:List.take ti'.size (jan ti')=jan ti':=List.take_of_length_le (by rw[jcd];exact Nat.le_refl _)
 have hti:(jan ti').length=ti'.size:=jcd ti'
 obtain⟨b1,hb1⟩:∃b,b=curB X Y hd X2 Y2 hd':=⟨_,rfl⟩
 obtain⟨b2,hb2⟩:∃b,b=b1++titB ti ti':=⟨_,rfl⟩
 obtain⟨b3,hb3⟩:∃b,b=b2++mouB M M2:=⟨_,rfl⟩
 obtain⟨b4,hb4⟩:∃b,b=b3++linB l l':=⟨_,rfl⟩
 have q1:b1.length≤31:=by rw[hb1];exact jsl X Y hd X2 Y2 hd' (by omega) (by omega)
 have q2:b2.length≤200:=by
  have:=jsm ti ti' ht2
  rw[hb2,List.length_append]
  omega
 have q3:b3.length≤300:=by
  have:=jsn M M2 (by omega)
  rw[hb3,List.length_append]
  omega
 have q4:b4.length≤2000:=by
  have:=jso l l' hl2 f2.s64
  rw[hb4,List.length_append]
  omega
 have hhead:jtt X Y hd M ti l X2 Y2 hd' M2 ti' l'=b4:=by rw[hb4,hb3,hb2,hb1];rfl
 rw[jf7,hhead]
 repeat' first|refine T.cut (a:=z85_2) (fun _:Unit=>⟨[(2,.ptr 0 0 0),(3,.ptr 1 0 0),(5,.slice 2 0 1 (b1).length (b1).length)],[.box [.int .i64 K,.int .i64 R,.vec .cell L,.int .i64 X,.int .i64 Y,.bool hd,.int .u8 M,.str ti,.vec .str l],.box [.int .i64 K,.int .i64 R,.vec .cell L',.int .i64 X2,.int .i64 Y2,.bool hd',.int .u8 M2,.str ti',.vec .str l'],.seq (.int .u8) (b1)]⟩) (fun _=>True) (Held.out ?_) (fun _ _=>Held.out ?_)|simp only[SA,seval,rdB,jae,jaz,jal,jai,jaA,jab,jaj,jar]|simp only[hw]|simp only[hw2]|simp only[hw3]|simp only[hw4]|refine tT ?_|refine And.intro ?_ ?_|exact tC|(refine tI ?_;intro hyp)|intro hyp0|omega
 ·refine⟨?_⟩
  have hc:=@jy5 X Y X2 Y2 hd hd'
  have hby:curC X Y hd X2 Y2 hd'=true→b1=2::jbc [X2,Y2,if hd' then 1 else 0]:=fun h=>by rw[hb1,curB,if_pos h]
  have hbn:¬curC X Y hd X2 Y2 hd'=true→b1=[]:=fun h=>by rw[hb1,curB,if_neg h]
  have hv:∀z:Nat,z<128→jbc [X2,Y2,z]=[(X2:Int),Y2,z]:=fun z hz=>by
   simp only[jiV,jlw,jjH (show X2<128 by omega),jjH (show Y2<128 by omega),jjH hz]
   rfl
  have hb0:∀z:Int,0≤z→z≤80→varN z.toNat=[z]:=fun z h1 h2=>jkW h1 (by omega)
  have hw:jc7 [(X2:Int),(Y2:Int),0]=[(X2:Int),Y2,0]:=by rw[jc4,jc4,jc4,jh0,hb0 _ (by omega) (by omega),hb0 _ (by omega) (by omega),hb0 _ (by omega) (by omega)];rfl
  have hw2:jc7 [(X2:Int),(Y2:Int),1]=[(X2:Int),Y2,1]:=by rw[jc4,jc4,jc4,jh0,hb0 _ (by omega) (by omega),hb0 _ (by omega) (by omega),hb0 _ (by omega) (by omega)];rfl
  repeat' first|simp only[SA,seval,rdB,jae,jaz,jal,jai,jaA,jab,jaj,jar]|simp only[hw]|simp only[hw2]|simp only[hw3]|simp only[hw4]|refine tT ?_|refine And.intro ?_ ?_|exact tC|(refine tI ?_;intro hyp)|intro hyp0|omega
  ·rename_i hq
   have e:b1=[2,(X2:Int),Y2,1]:=by rw[hby (hc.2 hq),hyp,if_pos rfl,hv 1 (by omega)];rfl
   exact⟨(),Cos.intro [0,1,4] [] rfl (by rw[e];(simp only[SA,seval,rdB,jae,jaz,jal,jai,jaA,jab,jaj,jar]<;>exact tE))⟩
  ·rename_i hq
   have e:b1=[2,(X2:Int),Y2,0]:=by rw[hby (hc.2 hq),hyp,if_neg (by decide),hv 0 (by omega)];rfl
   exact⟨(),Cos.intro [0,1,4] [] rfl (by rw[e];(simp only[SA,seval,rdB,jae,jaz,jal,jai,jaA,jab,jaj,jar]<;>exact tE))⟩
  ·have e:b1=[]:=hbn fun q=>by
    rcases hc.1 q with (h|h)|h
    ·exact h hyp.1.1
    ·exact h hyp.1.2
    ·rw[hyp.2]at h
     simp at h
   exact⟨(),Cos.intro [0,1,99] [] rfl (by rw[e];simp only[SA,seval,rdB,jae,jaz,jal,jai,jaA,jab,jaj,jar];first|done|simp[crs,crsL,jct])⟩
 refine⟨?_⟩
 repeat' first|refine T.cut (a:=z85_9) (fun _:Unit=>⟨[(2,.ptr 0 0 0),(3,.ptr 1 0 0),(5,.slice 2 0 1 (b2).length (b2).length)],[.box [.int .i64 K,.int .i64 R,.vec .cell L,.int .i64 X,.int .i64 Y,.bool hd,.int .u8 M,.str ti,.vec .str l],.box [.int .i64 K,.int .i64 R,.vec .cell L',.int .i64 X2,.int .i64 Y2,.bool hd',.int .u8 M2,.str ti',.vec .str l'],.seq (.int .u8) (b2)]⟩) (fun _=>True) (Held.out ?_) (fun _ _=>Held.out ?_)|simp only[SA,seval,rdB,jae,jaz,jal,jai,jaA,jab,jaj,jar]|simp only[hw]|simp only[hw2]|simp only[hw3]|simp only[hw4]|refine tT ?_|refine And.intro ?_ ?_|exact tC|(refine tI ?_;intro hyp)|intro hyp0|omega
 ·refine⟨?_⟩
  have hw:=htk
  have htl:=jhV (jan ti') (by omega)
  repeat' first|simp only[SA,seval,rdB,jae,jaz,jal,jai,jaA,jab,jaj,jar]|simp only[hw]|simp only[hw2]|simp only[hw3]|simp only[hw4]|refine tT ?_|refine And.intro ?_ ?_|exact tC|(refine tI ?_;intro hyp)|intro hyp0|omega
  ·have e:b2=b1++3::jjp (jan ti'):=by rw[hb2,titB,if_neg (fun q=>hyp (jcT.1 q))]
   exact⟨(),Cos.intro [0,1,7] [] rfl (by rw[e];(simp only[SA,seval,rdB,jae,jaz,jal,jai,jaA,jab,jaj,jar]<;>exact tE))⟩
  ·have e:b2=b1:=by rw[hb2,titB,if_pos (jcT.2 hyp),List.append_nil]
   exact⟨(),Cos.intro [0,1,2] [] rfl (by rw[e];(simp only[SA,seval,rdB,jae,jaz,jal,jai,jaA,jab,jaj,jar]<;>exact tE))⟩
 refine⟨?_⟩
 repeat' first|refine T.cut (a:=z85_13) (fun _:Unit=>⟨[(2,.ptr 0 0 0),(3,.ptr 1 0 0),(5,.slice 2 0 1 (b3).length (b3).length)],[.box [.int .i64 K,.int .i64 R,.vec .cell L,.int .i64 X,.int .i64 Y,.bool hd,.int .u8 M,.str ti,.vec .str l],.box [.int .i64 K,.int .i64 R,.vec .cell L',.int .i64 X2,.int .i64 Y2,.bool hd',.int .u8 M2,.str ti',.vec .str l'],.seq (.int .u8) (b3)]⟩) (fun _=>True) (Held.out ?_) (fun _ _=>Held.out ?_)|simp only[SA,seval,rdB,jae,jaz,jal,jai,jaA,jab,jaj,jar]|simp only[hw]|simp only[hw2]|simp only[hw3]|simp only[hw4]|refine tT ?_|refine And.intro ?_ ?_|exact tC|(refine tI ?_;intro hyp)|intro hyp0|omega
 ·refine⟨?_⟩
  have hw:jc7 [(M2:Int)]=[(M2:Int)]:=by rw[jc4,jh0,jkW (by omega) (by omega)];rfl
  repeat' first|simp only[SA,seval,rdB,jae,jaz,jal,jai,jaA,jab,jaj,jar]|simp only[hw]|simp only[hw2]|simp only[hw3]|simp only[hw4]|refine tT ?_|refine And.intro ?_ ?_|exact tC|(refine tI ?_;intro hyp)|intro hyp0|omega
  ·have e:b3=b2++[4,(M2:Int)]:=by rw[hb3,mouB,if_neg (fun e=>hyp (by rw[e]))];simp only[jiV,jlw,jjH (show M2<128 by omega)];rfl
   exact⟨(),Cos.intro [0,1,5] [] rfl (by rw[e];(simp only[SA,seval,rdB,jae,jaz,jal,jai,jaA,jab,jaj,jar]<;>exact tE))⟩
  ·have e:b3=b2:=by rw[hb3,mouB,if_pos (by omega),List.append_nil]
   exact⟨(),Cos.intro [0,1,2] [] rfl (by rw[e];(simp only[SA,seval,rdB,jae,jaz,jal,jai,jaA,jab,jaj,jar]<;>exact tE))⟩
 refine⟨?_⟩
 repeat' first|refine T.cut (a:=z85_16) (fun _:Unit=>⟨[(2,.ptr 0 0 0),(3,.ptr 1 0 0),(5,.slice 2 0 1 (b4).length (b4).length)],[.box [.int .i64 K,.int .i64 R,.vec .cell L,.int .i64 X,.int .i64 Y,.bool hd,.int .u8 M,.str ti,.vec .str l],.box [.int .i64 K,.int .i64 R,.vec .cell L',.int .i64 X2,.int .i64 Y2,.bool hd',.int .u8 M2,.str ti',.vec .str l'],.seq (.int .u8) (b4)]⟩) (fun _=>True) (Held.out ?_) (fun _ _=>Held.out ?_)|simp only[SA,seval,rdB,jae,jaz,jal,jai,jaA,jab,jaj,jar]|simp only[hw]|simp only[hw2]|simp only[hw3]|simp only[hw4]|refine tT ?_|refine And.intro ?_ ?_|exact tC|(refine tI ?_;intro hyp)|intro hyp0|omega
 ·refine⟨?_⟩
  have hby:¬l'=l→b4=b3++5::jbc [comK l' l,l'.length-comK l' l]++texB (l'.drop (comK l' l)):=fun h=>by rw[hb4,linB,if_neg h,List.append_assoc]
  have hbn:l'=l→b4=b3:=fun h=>by rw[hb4,linB,if_pos h,List.append_nil]
  obtain⟨j,hj⟩:∃j,j=comK l' l:=⟨_,rfl⟩
  obtain⟨c1,c2⟩:=jnB l' l
  rw[←hj]at c1 c2 hby
  have hsl':=hs'.slen
  repeat' first|refine T.cut (a:=z85_20) (fun _:Unit=>⟨[(2,.ptr 0 0 0),(3,.ptr 1 0 0),(5,.slice 2 0 1 b3.length b3.length),(9,.int .i64 j)],[.box [.int .i64 K,.int .i64 R,.vec .cell L,.int .i64 X,.int .i64 Y,.bool hd,.int .u8 M,.str ti,.vec .str l],.box [.int .i64 K,.int .i64 R,.vec .cell L',.int .i64 X2,.int .i64 Y2,.bool hd',.int .u8 M2,.str ti',.vec .str l'],.seq (.int .u8) b3]⟩) (fun _=>True) (Held.out ?_) (fun _ _=>Held.out ?_)|simp only[SA,seval,rdB,jae,jaz,jal,jai,jaA,jab,jaj,jar]|simp only[hw]|simp only[hw2]|simp only[hw3]|simp only[hw4]|refine tT ?_|refine And.intro ?_ ?_|exact tC|(refine tI ?_;intro hyp)|intro hyp0|omega
  ·refine⟨?_⟩
   repeat' first|simp only[SA,seval,rdB,jae,jaz,jal,jai,jaA,jab,jaj,jar]|simp only[hw]|simp only[hw2]|simp only[hw3]|simp only[hw4]|refine tT ?_|refine And.intro ?_ ?_|exact tC|(refine tI ?_;intro hyp)|intro hyp0|omega
   refine T.loop (fun v:Nat=>⟨[(2,.ptr 0 0 0),(3,.ptr 1 0 0),(5,.slice 2 0 1 b3.length b3.length),(9,.int .i64 v)],[.box [.int .i64 K,.int .i64 R,.vec .cell L,.int .i64 X,.int .i64 Y,.bool hd,.int .u8 M,.str ti,.vec .str l],.box [.int .i64 K,.int .i64 R,.vec .cell L',.int .i64 X2,.int .i64 Y2,.bool hd',.int .u8 M2,.str ti',.vec .str l'],.seq (.int .u8) b3]⟩) (fun v=>j=v+comK (l'.drop v) (l.drop v)) (fun v=>l'.length-v) 0 (by rw[hj];simp) (Cos.intro [0,1,2] [] rfl (by (simp only[SA,seval,rdB,jae,jaz,jal,jai,jaA,jab,jaj,jar]<;>exact tE))) (fun v hv=>?_)
   by_cases hyes:(v<l'.length∧v<l.length)∧l'.getD v ETy.str.dflt=l.getD v ETy.str.dflt
   ·obtain⟨⟨h1,h2⟩,h3⟩:=hyes
    have hgo:=jA2 (jbH (d:=ETy.str.dflt) h1) (by rw[h3];exact jbH h2)
    repeat' first|exact absurd h3 hyp|simp only[SA,seval,rdB,jae,jaz,jal,jai,jaA,jab,jaj,jar]|simp only[hw]|simp only[hw2]|simp only[hw3]|simp only[hw4]|refine tT ?_|refine And.intro ?_ ?_|exact tC|(refine tI ?_;intro hyp)|intro hyp0|omega
    exact⟨v+1,by omega,by omega,Cos.intro [0,1,2] [] rfl (by (simp only[SA,seval,rdB,jae,jaz,jal,jai,jaA,jab,jaj,jar]<;>exact tE))⟩
   ·have hst:comK (l'.drop v) (l.drop v)=0:=jwb fun s t h1 h2 e=>hyes (by
     have q1:=(List.getElem?_eq_some_iff.1 h1).1
     have q2:=(List.getElem?_eq_some_iff.1 h2).1
     rw[jbH (d:=ETy.str.dflt) q1]at h1
     rw[jbH (d:=ETy.str.dflt) q2]at h2
     exact⟨⟨q1,q2⟩,(Option.some.inj h1).trans (e.trans (Option.some.inj h2).symm)⟩)
    have hvj:v=j:=by omega
    subst hvj
    repeat' first|simp only[SA,seval,rdB,jae,jaz,jal,jai,jaA,jab,jaj,jar]|simp only[hw]|simp only[hw2]|simp only[hw3]|simp only[hw4]|refine tT ?_|refine And.intro ?_ ?_|exact tC|(refine tI ?_;intro hyp)|intro hyp0|omega
    all_goals first|exact⟨(),Cos.intro [0,1,2] [] rfl (by (simp only[SA,seval,rdB,jae,jaz,jal,jai,jaA,jab,jaj,jar]<;>exact tE))⟩|exact absurd ⟨⟨by omega,by omega⟩,by assumption⟩ hyes
  ·refine⟨?_⟩
   have hb4:=hby hyp
   obtain⟨D,hD⟩:∃D,D=l'.drop j:=⟨_,rfl⟩
   have hDl:D.length=l'.length-j:=by rw[hD,List.length_drop]
   have hw:List.take (l'.length-j) (List.drop j l')=D:=by rw[hD];exact List.take_of_length_le (by rw[List.length_drop];exact Nat.le_refl _)
   have hw2:jc7 [(j:Int),(l'.length:Int)-j]=jbc [j,l'.length-j]:=by
    rw[←jhY,List.map_cons,List.map_cons,List.map_nil]
    congr 2
    simp only[Int.ofNat_eq_natCast,List.cons.injEq,and_true]
    omega
   have hvl:=jcm [j,l'.length-j] (fun u hu=>by simp at hu;omega)
   simp only[List.length_cons,List.length_nil]at hvl
   rw[←hD]at hb4
   obtain⟨c0,hc0⟩:∃c,c=b3++5::jbc [j,l'.length-j]:=⟨_,rfl⟩
   have hc0l:c0.length≤400:=by rw[hc0];simp only[List.length_append,List.length_cons];omega
   have hbc:b4=c0++texB D:=by rw[hb4,hc0]
   repeat' first|simp only[SA,seval,rdB,jae,jaz,jal,jai,jaA,jab,jaj,jar]|simp only[hw]|simp only[hw2]|simp only[hw3]|simp only[hw4]|refine tT ?_|refine And.intro ?_ ?_|exact tC|(refine tI ?_;intro hyp)|intro hyp0|omega
   refine T.loop (fun v:Nat=>⟨[(2,.ptr 0 0 0),(3,.ptr 1 0 0),(5,.slice 2 0 1 (c0++texB (D.take v)).length (c0++texB (D.take v)).length),(122,.vec .str D),(123,.int .i64 D.length),(124,.int .i64 v)],[.box [.int .i64 K,.int .i64 R,.vec .cell L,.int .i64 X,.int .i64 Y,.bool hd,.int .u8 M,.str ti,.vec .str l],.box [.int .i64 K,.int .i64 R,.vec .cell L',.int .i64 X2,.int .i64 Y2,.bool hd',.int .u8 M2,.str ti',.vec .str l'],.seq (.int .u8) (c0++texB (D.take v))]⟩) (fun v=>v≤D.length) (fun v=>D.length-v) 0 (by omega) (Cos.intro [0,1,5] [] rfl (by simp only[hc0,texB,List.take_zero,List.flatMap_nil,List.append_nil];(simp only[SA,seval,rdB,jae,jaz,jal,jai,jaA,jab,jaj,jar]<;>exact tE))) (fun v hv=>?_)
   have hs64:∀s∈D,s.size≤64:=fun s hs=>f2.s64 s (by rw[hD]at hs;exact List.mem_of_mem_drop hs)
   have htl:=jsk (l:=D.take v) (fun s hs=>hs64 s (List.mem_of_mem_take hs))
   rw[List.length_take]at htl
   by_cases hvD:v<D.length
   ·have h64:=hs64 _ (jhX hvD)
    have hsn:=jwg (jbH (d:=ETy.str.dflt) hvD)
    have hln:(jan (D.getD v ETy.str.dflt)).length=(D.getD v ETy.str.dflt).size:=jcd _
    have hw3:List.take (D.getD v ETy.str.dflt).size (jan (D.getD v ETy.str.dflt))=jan (D.getD v ETy.str.dflt):=List.take_of_length_le (by omega)
    have htx:=jhV (jan (D.getD v ETy.str.dflt)) (by omega)
    repeat' first|simp only[SA,seval,rdB,jae,jaz,jal,jai,jaA,jab,jaj,jar]|simp only[hw]|simp only[hw2]|simp only[hw3]|simp only[hw4]|refine tT ?_|refine And.intro ?_ ?_|exact tC|(refine tI ?_;intro hyp)|intro hyp0|omega
    exact⟨v+1,by omega,by omega,Cos.intro [0,1,5] [] rfl (by rw[hsn];(simp only[SA,seval,rdB,jae,jaz,jal,jai,jaA,jab,jaj,jar]<;>exact tE))⟩
   ·have e:D.take v=D:=List.take_of_length_le (by omega)
    rw[e,←hbc]
    repeat' first|simp only[SA,seval,rdB,jae,jaz,jal,jai,jaA,jab,jaj,jar]|simp only[hw]|simp only[hw2]|simp only[hw3]|simp only[hw4]|refine tT ?_|refine And.intro ?_ ?_|exact tC|(refine tI ?_;intro hyp)|intro hyp0|omega
    exact⟨(),Cos.intro [0,1,2] [] rfl (by (simp only[SA,seval,rdB,jae,jaz,jal,jai,jaA,jab,jaj,jar]<;>exact tE))⟩
  ·exact⟨(),Cos.intro [0,1,2] [] rfl (by rw[hbn hyp];(simp only[SA,seval,rdB,jae,jaz,jal,jai,jaA,jab,jaj,jar]<;>exact tE))⟩
 refine⟨?_⟩
 obtain⟨U,hU⟩:∃U,U=undL L l l':=⟨_,rfl⟩
 obtain⟨n,hn⟩:∃n,n=upN K R U L':=⟨_,rfl⟩
 obtain⟨V,hV⟩:∃V,V=movL K R U n:=⟨_,rfl⟩
 have hUL:U.length=K*R:=by rw[hU,jwf,hL]
 have hnb:=jsj K R hr.1 U L'
 rw[←hn]at hnb
 have hgU:jbM K R U=true:=by rw[hU];exact joV l l' (jtK hr1)
 have hcU:∀q∈U,CWf q:=by rw[hU];exact jCe (by omega) hs.wf
 have hVL:V.length=K*R:=by rw[hV];exact jnD hUL n
 have hcel:celB K R U L'=scrB n++jjq (jau (jam V K R) (jam L' K R) R).1++jcX (cpyL K R V L') L':=by rw[hV,hn];rfl
 rw[←hU,hcel]
 have hw:List.map (ulf l l') L=U:=hU.symm
 have hw2:(jd1 (fun m=>cntF (fun i=>jfs U (i+m * ↑K)) (cAt L') L'.length) (R-1)).1=n:=by
  rw[hn,upN]
  congr 2
  funext m
  rw[dist,hL']
 repeat' first|exact hs.wf|exact f1.lk|refine T.cut (a:=z85_39) (fun _:Unit=>⟨[(2,.ptr 0 0 0),(3,.ptr 1 0 0),(5,.slice 2 0 1 (b4++scrB n).length (b4++scrB n).length)],[.box [.int .i64 K,.int .i64 R,.slice 3 0 6 (K*R) (K*R),.int .i64 X,.int .i64 Y,.bool hd,.int .u8 M,.str ti,.vec .str l],.box [.int .i64 K,.int .i64 R,.vec .cell L',.int .i64 X2,.int .i64 Y2,.bool hd',.int .u8 M2,.str ti',.vec .str l'],.seq (.int .u8) (b4++scrB n),.seq .cell V]⟩) (fun _=>True) (Held.out ?_) (fun _ _=>Held.out ?_)|simp only[SA,seval,rdB,jae,jaz,jal,jai,jaA,jab,jaj,jar]|simp only[hw]|simp only[hw2]|simp only[hw3]|simp only[hw4]|refine tT ?_|refine And.intro ?_ ?_|exact tC|(refine tI ?_;intro hyp)|intro hyp0|omega
 ·refine⟨?_⟩
  have hcw:CWs U:=fun q hq=>(hcU q hq).rune
  have hw3:(jcf (jam U K R) n).flatten=V:=hV.symm
  have hsb:=jnF n (by omega)
  have hw4:jc7 [max (2*n-1) (-2*n)]=jbc [scrN n]:=by
   rw[jc4,jh0,jiV,jlw]
   congr 2
   unfold scrN
   split<;>omega
  have hvl:(jbc [scrN n]).length≤10:=jcm [scrN n] (fun u hu=>by
   simp only[HB,ne_eq,reduceCtorEq]at hu
   rw[hu]
   unfold scrN
   split<;>omega)
  repeat' first|exact hgU|exact hcw|simp only[SA,seval,rdB,jae,jaz,jal,jai,jaA,jab,jaj,jar]|simp only[hw]|simp only[hw2]|simp only[hw3]|simp only[hw4]|refine tT ?_|refine And.intro ?_ ?_|exact tC|(refine tI ?_;intro hyp)|intro hyp0|omega
  ·have e:scrB n=6::jbc [scrN n]:=if_neg hyp
   exact⟨(),Cos.intro [0,1,6,7] [] rfl (by rw[e];(simp only[SA,seval,rdB,jae,jaz,jal,jai,jaA,jab,jaj,jar]<;>exact tE))⟩
  ·have e:scrB n=[]:=if_pos hyp
   have e2:V=U:=by rw[hV,hyp,joW hUL]
   exact⟨(),Cos.intro [0,1,2,3] [] rfl (by rw[e,e2];(simp only[SA,seval,rdB,jae,jaz,jal,jai,jaA,jab,jaj,jar]<;>exact tE))⟩
 refine⟨?_⟩
 have hw:List.take (K*R) V=V:=List.take_of_length_le (by omega)
 have hcpl:=jnE hVL hL'
 have hsb:=jnF n (by omega)
 have hcs:=ji9 (jam V K R) (jam L' K R) R (by omega) (jbD _ _ _)
 have hlb:=jja (cpyL K R V L') L' hs'.wf (by omega)
 repeat' first|exact hs'.wf|exact f2.runes|exact f2.wide|simp only[SA,seval,rdB,jae,jaz,jal,jai,jaA,jab,jaj,jar]|simp only[hw]|simp only[hw2]|simp only[hw3]|simp only[hw4]|refine tT ?_|refine And.intro ?_ ?_|exact tC|(refine tI ?_;intro hyp)|intro hyp0|omega
 exact Cos.intro [8] [] rfl (by (simp only[SA,seval,rdB,jae,jaz,jal,jai,jaA,jab,jaj,jar]<;>exact tE)))
end
end Go.Proofs.YtcfkfgkndncanaaGreatDoor
