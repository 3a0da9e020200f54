/- Texts of this claim, merged by a program of this claim: FLay. -/
import Derived.Test.YtcfkfgkndncanaaGreatDoorMt30
import Derived.Test.YtcfkfgkndncanaaGreatDoorMt42
import Derived.Test.YtcfkfgkndncanaaGreatDoorMt43
namespace Go.Proofs.YtcfkfgkndncanaaGreatDoor
set_option linter.unusedVariables false
set_option linter.unusedSimpArgs false
section
open Go.RowKit
set_option maxRecDepth 100000
set_option maxHeartbeats 4000000
theorem jqc {k r:Int} {L:List CD} {x y mo:Int} {ti:ByteArray} {l:List ByteArray} (h:ja0 k r L x y mo ti l=true):jbN k r L=true:=by
 unfold ja0 at h
 simp only [HB,ne_eq,reduceCtorEq] at h
 exact h.1.1.1.1.1.1.1.1
noncomputable def sp_mlay:Spec:=spOf (α:=Int × Int × (List CD) × Int × Int × Bool × Int × ByteArray × (List ByteArray) × Int × Int × (List CD) × Int × Int × Bool × Int × ByteArray × (List ByteArray)) (fun ⟨k,r,L,x,y,hd,mo,ti,l,k',r',L',x',y',hd',mo',ti',l'⟩=>[.agg [.int .i64 k,.int .i64 r,.vec .cell L,.int .i64 x,.int .i64 y,.bool hd,.int .u8 mo,.str ti,.vec .str l],.agg [.int .i64 k',.int .i64 r',.vec .cell L',.int .i64 x',.int .i64 y',.bool hd',.int .u8 mo',.str ti',.vec .str l']]) fun ⟨k,r,L,x,y,hd,mo,ti,l,k',r',L',x',y',hd',mo',ti',l'⟩=>((k=k'∧r=r')∧(ScrOk L l∧ScrOk L' l')∧(ja0 k r L x y mo ti l=true∧ja0 k' r' L' x' y' mo' ti' l'=true)∧(0≤mo∧0≤mo'),.ret (.vec (.int .u8) (jgn k.toNat r.toNat L x.toNat y.toNat hd mo.toNat ti l L' x'.toNat y'.toNat hd' mo'.toNat ti' l')))
theorem jbK (k:Int) (r:Int) (L:List CD) (x:Int) (y:Int) (hd:Bool) (mo:Int) (ti:ByteArray) (l:List ByteArray) (k':Int) (r':Int) (L':List CD) (x':Int) (y':Int) (hd':Bool) (mo':Int) (ti':ByteArray) (l':List ByteArray):sp_mlay [.agg [.int .i64 k,.int .i64 r,.vec .cell L,.int .i64 x,.int .i64 y,.bool hd,.int .u8 mo,.str ti,.vec .str l],.agg [.int .i64 k',.int .i64 r',.vec .cell L',.int .i64 x',.int .i64 y',.bool hd',.int .u8 mo',.str ti',.vec .str l']]=some ((k=k'∧r=r')∧(ScrOk L l∧ScrOk L' l')∧(ja0 k r L x y mo ti l=true∧ja0 k' r' L' x' y' mo' ti' l'=true)∧(0≤mo∧0≤mo'),.ret (.vec (.int .u8) (jgn k.toNat r.toNat L x.toNat y.toNat hd mo.toNat ti l L' x'.toNat y'.toNat hd' mo'.toNat ti' l'))):=jar (α:=Int × Int × (List CD) × Int × Int × Bool × Int × ByteArray × (List ByteArray) × Int × Int × (List CD) × Int × Int × Bool × Int × ByteArray × (List ByteArray)) _ (fun ⟨k,r,L,x,y,hd,mo,ti,l,k',r',L',x',y',hd',mo',ti',l'⟩ ⟨k',r',L',x',y',hd',mo',ti',l',k'',r'',L'',x'',y'',hd'',mo'',ti'',l''⟩ h=>by first | simpa [CP] using h | (simp [CP] at h ⊢; grind)) (k,r,L,x,y,hd,mo,ti,l,k',r',L',x',y',hd',mo',ti',l')
theorem jsJ:Fresh Tryz.prog E0 47 sp_mlay:=Fresh.of fun ⟨k,r,L,x,y,hd,mo,ti,l,k',r',L',x',y',hd',mo',ti',l'⟩ hG=>TF.intro (V:=(VV [(49,conT [.any,.sl (.int .i64)] sp_put),(83,conT [.sl (.int .u8)] sp_text),(84,conF [.sl .str,.sl .str] sp_sequal),(85,conT [.agg [.any,.any,.sl .cell,.any,.any,.any,.any,.any,.sl .str],.sl .str] sp_under),(86,conF [.agg [.any,.any,.sl .cell,.any,.any,.any,.any,.any,.sl .str],.agg [.any,.any,.sl .cell,.any,.any,.any,.any,.any,.sl .str]] sp_best),(65,conT [.agg [.any,.any,.sl .cell,.any,.any,.any,.any,.any,.sl .str],.any] sp_mscrolled),(87,conT [.agg [.any,.any,.sl .cell,.any,.any,.any,.any,.any,.sl .str],.agg [.any,.any,.sl .cell,.any,.any,.any,.any,.any,.sl .str]] sp_mcopies),(88,conT [.sl .cell,.agg [.any,.any,.sl .cell,.any,.any,.any,.any,.any,.sl .str]] sp_mruns)] (.cons (jaa jdd) (Fresh.soundT joX) (.cons (jaa jgW) (Fresh.soundT jv4) (.cons (jaa jco) (Fresh.soundF jsf) (.cons (jaa jdX) (Fresh.soundT joZ) (.cons (jaa jf1) (Fresh.soundF jwi) (.cons (jaa jcJ) (Fresh.soundT jir) (.cons (jaa jde) (Fresh.soundT jp5) (.cons (jaa jeh) (Fresh.soundT jup) GOk.nil)))))))) 176 0)) jfx rfl rfl (by
 dsimp only at hG ⊢
 obtain ⟨⟨rfl,rfl⟩,⟨hs,hs'⟩,⟨hr1,hr2⟩,hmo,hmo'⟩:=hG
 obtain ⟨K,R,X,Y,M,rfl,rfl,rfl,rfl,rfl,f1⟩:=jct hr1 hmo
 obtain ⟨K2,R2,X2,Y2,M2,e1,e2,rfl,rfl,rfl,f2⟩:=jct hr2 hmo'
 obtain rfl:K=K2:=by omega
 obtain rfl:R=R2:=by omega
 simp only [Int.toNat_natCast]
 have hk:=f1.k1
 have hr:=f1.r1
 have hx2:=f2.x1
 have hy2:=f2.y1
 have hm2:=f2.mo1
 have ht2:=f2.ti1
 have hl1:=f1.l1
 have hl2:=f2.l1
 have hL:=f1.len
 have hL':=f2.len
 have hKR:K * R≤1920:=Nat.mul_le_mul (show K≤80 by omega) (show R≤24 by omega)
 have htk:List.take ti'.size (jao ti')=jao ti':=List.take_of_length_le (by rw [jb4]; exact Nat.le_refl _)
 have hti:(jao ti').length=ti'.size:=jb4 ti'
 obtain ⟨b1,hb1⟩:∃ b,b=curB X Y hd X2 Y2 hd':=⟨_,rfl⟩
 obtain ⟨b2,hb2⟩:∃ b,b=b1++titB ti ti':=⟨_,rfl⟩
 obtain ⟨b3,hb3⟩:∃ b,b=b2++mouB M M2:=⟨_,rfl⟩
 obtain ⟨b4,hb4⟩:∃ b,b=b3++linB l l':=⟨_,rfl⟩
 have q1:b1.length≤31:=by rw [hb1]; exact joS X Y hd X2 Y2 hd' (by omega) (by omega)
 have q2:b2.length≤200:=by
  have:=joT ti ti' ht2
  rw [hb2,List.length_append]
  omega
 have q3:b3.length≤300:=by
  have:=joU M M2 (by omega)
  rw [hb3,List.length_append]
  omega
 have q4:b4.length≤2000:=by
  have:=joV l l' hl2 f2.s64
  rw [hb4,List.length_append]
  omega
 have hhead:jrZ X Y hd M ti l X2 Y2 hd' M2 ti' l'=b4:=by rw [hb4,hb3,hb2,hb1]; rfl
 rw [jgn,hhead]
 repeat' first | refine T.cut (a:=z84_2) (fun _:Unit=>⟨[(2,.ptr 0 0 0),(3,.ptr 1 0 0),(5,.slice 2 0 1 (b1).length (b1).length)],[.box [.int .i64 K,.int .i64 R,.vec .cell L,.int .i64 X,.int .i64 Y,.bool hd,.int .u8 M,.str ti,.vec .str l],.box [.int .i64 K,.int .i64 R,.vec .cell L',.int .i64 X2,.int .i64 Y2,.bool hd',.int .u8 M2,.str ti',.vec .str l'],.seq (.int .u8) (b1)]⟩) (fun _=>True) (Held.out ?_) (fun _ _=>Held.out ?_) | simp only [SB,E,seval,rdB,ne_eq,implies_true,jah,jaA,jan,jak,jaB,jab,jal,jat] | simp only [hw] | simp only [hw2] | simp only [hw3] | simp only [hw4] | apply tA | apply tB | apply tC | apply tD | apply tE | apply tF | apply tG | apply tH | apply tI | apply tJ | apply tK | apply And.intro | (intro p0; have hyp:=p0; (try simp only [HB,ne_eq,reduceCtorEq] at hyp); (try simp only [p0]); (try clear p0); try (exfalso; omega; done)) | omega
 ·refine ⟨?_⟩
  have hc:=@jun X Y X2 Y2 hd hd'
  have hby:curC X Y hd X2 Y2 hd'=true→b1=2 :: jbu [X2,Y2,if hd' then 1 else 0]:=fun h=>by rw [hb1,curB,if_pos h]
  have hbn:¬ curC X Y hd X2 Y2 hd'=true→b1=[]:=fun h=>by rw [hb1,curB,if_neg h]
  have hv:∀ z:Nat,z < 128→jbu [X2,Y2,z]=[(X2:Int),Y2,z]:=fun z hz=>by
   simp only [jh9,jki,jiO (show X2 < 128 by omega),jiO (show Y2 < 128 by omega),jiO hz]
   rfl
  have hb0:∀ z:Int,0≤z→z≤80→varN z.toNat=[z]:=fun z h1 h2=>jjR h1 (by omega)
  have hw:jcF [(X2:Int),(Y2:Int),0]=[(X2:Int),Y2,0]:=by rw [jcP,jcP,jcP,jhy,hb0 _ (by omega) (by omega),hb0 _ (by omega) (by omega),hb0 _ (by omega) (by omega)]; rfl
  have hw2:jcF [(X2:Int),(Y2:Int),1]=[(X2:Int),Y2,1]:=by rw [jcP,jcP,jcP,jhy,hb0 _ (by omega) (by omega),hb0 _ (by omega) (by omega),hb0 _ (by omega) (by omega)]; rfl
  repeat' first | simp only [SB,E,seval,rdB,ne_eq,implies_true,jah,jaA,jan,jak,jaB,jab,jal,jat] | simp only [hw] | simp only [hw2] | simp only [hw3] | simp only [hw4] | apply tA | apply tB | apply tC | apply tD | apply tE | apply tF | apply tG | apply tH | apply tI | apply tJ | apply tK | apply And.intro | (intro p0; have hyp:=p0; (try simp only [HB,ne_eq,reduceCtorEq] at hyp); (try simp only [p0]); (try clear p0); try (exfalso; omega; done)) | omega
  ·rename_i hq
   have e:b1=[2,(X2:Int),Y2,1]:=by rw [hby (hc.2 hq),hyp,if_pos rfl,hv 1 (by omega)]; rfl
   exact ⟨(),Cos.intro [0,1,4] [] rfl (by rw [e]; (simp only [SB,E,seval,rdB,ne_eq,implies_true,jah,jaA,jan,jak,jaB,jab,jal,jat]; first | done | ((repeat' apply And.intro) <;> first | rfl | omega | (simp; done) | (simp; omega))))⟩
  ·rename_i hq
   have e:b1=[2,(X2:Int),Y2,0]:=by rw [hby (hc.2 hq),hyp,if_neg (by decide),hv 0 (by omega)]; rfl
   exact ⟨(),Cos.intro [0,1,4] [] rfl (by rw [e]; (simp only [SB,E,seval,rdB,ne_eq,implies_true,jah,jaA,jan,jak,jaB,jab,jal,jat]; first | done | ((repeat' apply And.intro) <;> first | rfl | omega | (simp; done) | (simp; omega))))⟩
  ·have e:b1=[]:=hbn fun q=>by
    rcases hc.1 q with (h | h) | h
    ·exact h hyp.1.1
    ·exact h hyp.1.2
    ·rw [hyp.2] at h
     simp at h
   exact ⟨(),Cos.intro [0,1,99] [] rfl (by rw [e]; simp only [SB,E,seval,rdB,ne_eq,implies_true,jah,jaA,jan,jak,jaB,jab,jal,jat]; first | done | simp [crs,crsL,jcw])⟩
 refine ⟨?_⟩
 repeat' first | refine T.cut (a:=z84_9) (fun _:Unit=>⟨[(2,.ptr 0 0 0),(3,.ptr 1 0 0),(5,.slice 2 0 1 (b2).length (b2).length)],[.box [.int .i64 K,.int .i64 R,.vec .cell L,.int .i64 X,.int .i64 Y,.bool hd,.int .u8 M,.str ti,.vec .str l],.box [.int .i64 K,.int .i64 R,.vec .cell L',.int .i64 X2,.int .i64 Y2,.bool hd',.int .u8 M2,.str ti',.vec .str l'],.seq (.int .u8) (b2)]⟩) (fun _=>True) (Held.out ?_) (fun _ _=>Held.out ?_) | simp only [SB,E,seval,rdB,ne_eq,implies_true,jah,jaA,jan,jak,jaB,jab,jal,jat] | simp only [hw] | simp only [hw2] | simp only [hw3] | simp only [hw4] | apply tA | apply tB | apply tC | apply tD | apply tE | apply tF | apply tG | apply tH | apply tI | apply tJ | apply tK | apply And.intro | (intro p0; have hyp:=p0; (try simp only [HB,ne_eq,reduceCtorEq] at hyp); (try simp only [p0]); (try clear p0); try (exfalso; omega; done)) | omega
 ·refine ⟨?_⟩
  have hw:=htk
  have htl:=jht (jao ti') (by omega)
  repeat' first | simp only [SB,E,seval,rdB,ne_eq,implies_true,jah,jaA,jan,jak,jaB,jab,jal,jat] | simp only [hw] | simp only [hw2] | simp only [hw3] | simp only [hw4] | apply tA | apply tB | apply tC | apply tD | apply tE | apply tF | apply tG | apply tH | apply tI | apply tJ | apply tK | apply And.intro | (intro p0; have hyp:=p0; (try simp only [HB,ne_eq,reduceCtorEq] at hyp); (try simp only [p0]); (try clear p0); try (exfalso; omega; done)) | omega
  ·have e:b2=b1++3 :: jh1 (jao ti'):=by rw [hb2,titB,if_neg (fun q=>hyp (jcE.1 q))]
   exact ⟨(),Cos.intro [0,1,7] [] rfl (by rw [e]; (simp only [SB,E,seval,rdB,ne_eq,implies_true,jah,jaA,jan,jak,jaB,jab,jal,jat]; first | done | ((repeat' apply And.intro) <;> first | rfl | omega | (simp; done) | (simp; omega))))⟩
  ·have e:b2=b1:=by rw [hb2,titB,if_pos (jcE.2 hyp),List.append_nil]
   exact ⟨(),Cos.intro [0,1,2] [] rfl (by rw [e]; (simp only [SB,E,seval,rdB,ne_eq,implies_true,jah,jaA,jan,jak,jaB,jab,jal,jat]; first | done | ((repeat' apply And.intro) <;> first | rfl | omega | (simp; done) | (simp; omega))))⟩
 refine ⟨?_⟩
 repeat' first | refine T.cut (a:=z84_13) (fun _:Unit=>⟨[(2,.ptr 0 0 0),(3,.ptr 1 0 0),(5,.slice 2 0 1 (b3).length (b3).length)],[.box [.int .i64 K,.int .i64 R,.vec .cell L,.int .i64 X,.int .i64 Y,.bool hd,.int .u8 M,.str ti,.vec .str l],.box [.int .i64 K,.int .i64 R,.vec .cell L',.int .i64 X2,.int .i64 Y2,.bool hd',.int .u8 M2,.str ti',.vec .str l'],.seq (.int .u8) (b3)]⟩) (fun _=>True) (Held.out ?_) (fun _ _=>Held.out ?_) | simp only [SB,E,seval,rdB,ne_eq,implies_true,jah,jaA,jan,jak,jaB,jab,jal,jat] | simp only [hw] | simp only [hw2] | simp only [hw3] | simp only [hw4] | apply tA | apply tB | apply tC | apply tD | apply tE | apply tF | apply tG | apply tH | apply tI | apply tJ | apply tK | apply And.intro | (intro p0; have hyp:=p0; (try simp only [HB,ne_eq,reduceCtorEq] at hyp); (try simp only [p0]); (try clear p0); try (exfalso; omega; done)) | omega
 ·refine ⟨?_⟩
  have hw:jcF [(M2:Int)]=[(M2:Int)]:=by rw [jcP,jhy,jjR (by omega) (by omega)]; rfl
  repeat' first | simp only [SB,E,seval,rdB,ne_eq,implies_true,jah,jaA,jan,jak,jaB,jab,jal,jat] | simp only [hw] | simp only [hw2] | simp only [hw3] | simp only [hw4] | apply tA | apply tB | apply tC | apply tD | apply tE | apply tF | apply tG | apply tH | apply tI | apply tJ | apply tK | apply And.intro | (intro p0; have hyp:=p0; (try simp only [HB,ne_eq,reduceCtorEq] at hyp); (try simp only [p0]); (try clear p0); try (exfalso; omega; done)) | omega
  ·have e:b3=b2++[4,(M2:Int)]:=by rw [hb3,mouB,if_neg (fun e=>hyp (by rw [e]))]; simp only [jh9,jki,jiO (show M2 < 128 by omega)]; rfl
   exact ⟨(),Cos.intro [0,1,5] [] rfl (by rw [e]; (simp only [SB,E,seval,rdB,ne_eq,implies_true,jah,jaA,jan,jak,jaB,jab,jal,jat]; first | done | ((repeat' apply And.intro) <;> first | rfl | omega | (simp; done) | (simp; omega))))⟩
  ·have e:b3=b2:=by rw [hb3,mouB,if_pos (by omega),List.append_nil]
   exact ⟨(),Cos.intro [0,1,2] [] rfl (by rw [e]; (simp only [SB,E,seval,rdB,ne_eq,implies_true,jah,jaA,jan,jak,jaB,jab,jal,jat]; first | done | ((repeat' apply And.intro) <;> first | rfl | omega | (simp; done) | (simp; omega))))⟩
 refine ⟨?_⟩
 repeat' first | refine T.cut (a:=z84_16) (fun _:Unit=>⟨[(2,.ptr 0 0 0),(3,.ptr 1 0 0),(5,.slice 2 0 1 (b4).length (b4).length)],[.box [.int .i64 K,.int .i64 R,.vec .cell L,.int .i64 X,.int .i64 Y,.bool hd,.int .u8 M,.str ti,.vec .str l],.box [.int .i64 K,.int .i64 R,.vec .cell L',.int .i64 X2,.int .i64 Y2,.bool hd',.int .u8 M2,.str ti',.vec .str l'],.seq (.int .u8) (b4)]⟩) (fun _=>True) (Held.out ?_) (fun _ _=>Held.out ?_) | simp only [SB,E,seval,rdB,ne_eq,implies_true,jah,jaA,jan,jak,jaB,jab,jal,jat] | simp only [hw] | simp only [hw2] | simp only [hw3] | simp only [hw4] | apply tA | apply tB | apply tC | apply tD | apply tE | apply tF | apply tG | apply tH | apply tI | apply tJ | apply tK | apply And.intro | (intro p0; have hyp:=p0; (try simp only [HB,ne_eq,reduceCtorEq] at hyp); (try simp only [p0]); (try clear p0); try (exfalso; omega; done)) | omega
 ·refine ⟨?_⟩
  have hby:¬ l'=l→b4=b3++5 :: jbu [comK l' l,l'.length - comK l' l]++texB (l'.drop (comK l' l)):=fun h=>by rw [hb4,linB,if_neg h,List.append_assoc]
  have hbn:l'=l→b4=b3:=fun h=>by rw [hb4,linB,if_pos h,List.append_nil]
  obtain ⟨j,hj⟩:∃ j,j=comK l' l:=⟨_,rfl⟩
  obtain ⟨c1,c2⟩:=jlV l' l
  rw [← hj] at c1 c2 hby
  have hsl':=hs'.slen
  repeat' first | refine T.cut (a:=z84_20) (fun _:Unit=>⟨[(2,.ptr 0 0 0),(3,.ptr 1 0 0),(5,.slice 2 0 1 b3.length b3.length),(9,.int .i64 j)],[.box [.int .i64 K,.int .i64 R,.vec .cell L,.int .i64 X,.int .i64 Y,.bool hd,.int .u8 M,.str ti,.vec .str l],.box [.int .i64 K,.int .i64 R,.vec .cell L',.int .i64 X2,.int .i64 Y2,.bool hd',.int .u8 M2,.str ti',.vec .str l'],.seq (.int .u8) b3]⟩) (fun _=>True) (Held.out ?_) (fun _ _=>Held.out ?_) | simp only [SB,E,seval,rdB,ne_eq,implies_true,jah,jaA,jan,jak,jaB,jab,jal,jat] | simp only [hw] | simp only [hw2] | simp only [hw3] | simp only [hw4] | apply tA | apply tB | apply tC | apply tD | apply tE | apply tF | apply tG | apply tH | apply tI | apply tJ | apply tK | apply And.intro | (intro p0; have hyp:=p0; (try simp only [HB,ne_eq,reduceCtorEq] at hyp); (try simp only [p0]); (try clear p0); try (exfalso; omega; done)) | omega
  ·refine ⟨?_⟩
   repeat' first | simp only [SB,E,seval,rdB,ne_eq,implies_true,jah,jaA,jan,jak,jaB,jab,jal,jat] | simp only [hw] | simp only [hw2] | simp only [hw3] | simp only [hw4] | apply tA | apply tB | apply tC | apply tD | apply tE | apply tF | apply tG | apply tH | apply tI | apply tJ | apply tK | apply And.intro | (intro p0; have hyp:=p0; (try simp only [HB,ne_eq,reduceCtorEq] at hyp); (try simp only [p0]); (try clear p0); try (exfalso; omega; done)) | omega
   refine T.loop (fun v:Nat=>⟨[(2,.ptr 0 0 0),(3,.ptr 1 0 0),(5,.slice 2 0 1 b3.length b3.length),(9,.int .i64 v)],[.box [.int .i64 K,.int .i64 R,.vec .cell L,.int .i64 X,.int .i64 Y,.bool hd,.int .u8 M,.str ti,.vec .str l],.box [.int .i64 K,.int .i64 R,.vec .cell L',.int .i64 X2,.int .i64 Y2,.bool hd',.int .u8 M2,.str ti',.vec .str l'],.seq (.int .u8) b3]⟩) (fun v=>j=v+comK (l'.drop v) (l.drop v)) (fun v=>l'.length - v) 0 (by rw [hj]; simp) (Cos.intro [0,1,2] [] rfl (by (simp only [SB,E,seval,rdB,ne_eq,implies_true,jah,jaA,jan,jak,jaB,jab,jal,jat]; first | done | ((repeat' apply And.intro) <;> first | rfl | omega | (simp; done) | (simp; omega))))) (fun v hv=>?_)
   by_cases hyes:(v < l'.length∧v < l.length)∧l'.getD v ETy.str.dflt=l.getD v ETy.str.dflt
   ·obtain ⟨⟨h1,h2⟩,h3⟩:=hyes
    have hgo:=jv2 (jbU (d:=ETy.str.dflt) h1) (by rw [h3]; exact jbU h2)
    repeat' first | exact absurd h3 hyp | simp only [SB,E,seval,rdB,ne_eq,implies_true,jah,jaA,jan,jak,jaB,jab,jal,jat] | simp only [hw] | simp only [hw2] | simp only [hw3] | simp only [hw4] | apply tA | apply tB | apply tC | apply tD | apply tE | apply tF | apply tG | apply tH | apply tI | apply tJ | apply tK | apply And.intro | (intro p0; have hyp:=p0; (try simp only [HB,ne_eq,reduceCtorEq] at hyp); (try simp only [p0]); (try clear p0); try (exfalso; omega; done)) | omega
    exact ⟨v+1,by omega,by omega,Cos.intro [0,1,2] [] rfl (by (simp only [SB,E,seval,rdB,ne_eq,implies_true,jah,jaA,jan,jak,jaB,jab,jal,jat]; first | done | ((repeat' apply And.intro) <;> first | rfl | omega | (simp; done) | (simp; omega))))⟩
   ·have hst:comK (l'.drop v) (l.drop v)=0:=jrY fun s t h1 h2 e=>hyes (by
     have q1:=(List.getElem?_eq_some_iff.1 h1).1
     have q2:=(List.getElem?_eq_some_iff.1 h2).1
     rw [jbU (d:=ETy.str.dflt) q1] at h1
     rw [jbU (d:=ETy.str.dflt) q2] at h2
     exact ⟨⟨q1,q2⟩,(Option.some.inj h1).trans (e.trans (Option.some.inj h2).symm)⟩)
    have hvj:v=j:=by omega
    subst hvj
    repeat' first | simp only [SB,E,seval,rdB,ne_eq,implies_true,jah,jaA,jan,jak,jaB,jab,jal,jat] | simp only [hw] | simp only [hw2] | simp only [hw3] | simp only [hw4] | apply tA | apply tB | apply tC | apply tD | apply tE | apply tF | apply tG | apply tH | apply tI | apply tJ | apply tK | apply And.intro | (intro p0; have hyp:=p0; (try simp only [HB,ne_eq,reduceCtorEq] at hyp); (try simp only [p0]); (try clear p0); try (exfalso; omega; done)) | omega
    all_goals first | exact ⟨(),Cos.intro [0,1,2] [] rfl (by (simp only [SB,E,seval,rdB,ne_eq,implies_true,jah,jaA,jan,jak,jaB,jab,jal,jat]; first | done | ((repeat' apply And.intro) <;> first | rfl | omega | (simp; done) | (simp; omega))))⟩ | exact absurd ⟨⟨by omega,by omega⟩,by assumption⟩ hyes
  ·refine ⟨?_⟩
   have hb4:=hby hyp
   obtain ⟨D,hD⟩:∃ D,D=l'.drop j:=⟨_,rfl⟩
   have hDl:D.length=l'.length - j:=by rw [hD,List.length_drop]
   have hw:List.take (l'.length - j) (List.drop j l')=D:=by rw [hD]; exact List.take_of_length_le (by rw [List.length_drop]; exact Nat.le_refl _)
   have hw2:jcF [(j:Int),(l'.length:Int) - j]=jbu [j,l'.length - j]:=by
    rw [← jhw,List.map_cons,List.map_cons,List.map_nil]
    congr 2
    simp only [Int.ofNat_eq_natCast,List.cons.injEq,and_true]
    omega
   have hvl:=jcc [j,l'.length - j] (fun u hu=>by simp at hu; omega)
   simp only [List.length_cons,List.length_nil] at hvl
   rw [← hD] at hb4
   obtain ⟨c0,hc0⟩:∃ c,c=b3++5 :: jbu [j,l'.length - j]:=⟨_,rfl⟩
   have hc0l:c0.length≤400:=by rw [hc0]; simp only [List.length_append,List.length_cons]; omega
   have hbc:b4=c0++texB D:=by rw [hb4,hc0]
   repeat' first | simp only [SB,E,seval,rdB,ne_eq,implies_true,jah,jaA,jan,jak,jaB,jab,jal,jat] | simp only [hw] | simp only [hw2] | simp only [hw3] | simp only [hw4] | apply tA | apply tB | apply tC | apply tD | apply tE | apply tF | apply tG | apply tH | apply tI | apply tJ | apply tK | apply And.intro | (intro p0; have hyp:=p0; (try simp only [HB,ne_eq,reduceCtorEq] at hyp); (try simp only [p0]); (try clear p0); try (exfalso; omega; done)) | omega
   refine T.loop (fun v:Nat=>⟨[(2,.ptr 0 0 0),(3,.ptr 1 0 0),(5,.slice 2 0 1 (c0++texB (D.take v)).length (c0++texB (D.take v)).length),(122,.vec .str D),(123,.int .i64 D.length),(124,.int .i64 v)],[.box [.int .i64 K,.int .i64 R,.vec .cell L,.int .i64 X,.int .i64 Y,.bool hd,.int .u8 M,.str ti,.vec .str l],.box [.int .i64 K,.int .i64 R,.vec .cell L',.int .i64 X2,.int .i64 Y2,.bool hd',.int .u8 M2,.str ti',.vec .str l'],.seq (.int .u8) (c0++texB (D.take v))]⟩) (fun v=>v≤D.length) (fun v=>D.length - v) 0 (by omega) (Cos.intro [0,1,5] [] rfl (by simp only [hc0,texB,List.take_zero,List.flatMap_nil,List.append_nil]; (simp only [SB,E,seval,rdB,ne_eq,implies_true,jah,jaA,jan,jak,jaB,jab,jal,jat]; first | done | ((repeat' apply And.intro) <;> first | rfl | omega | (simp; done) | (simp; omega))))) (fun v hv=>?_)
   have hs64:∀ s∈D,s.size≤64:=fun s hs=>f2.s64 s (by rw [hD] at hs; exact List.mem_of_mem_drop hs)
   have htl:=joR (l:=D.take v) (fun s hs=>hs64 s (List.mem_of_mem_take hs))
   rw [List.length_take] at htl
   by_cases hvD:v < D.length
   ·have h64:=hs64 _ (jhv hvD)
    have hsn:=jr5 (jbU (d:=ETy.str.dflt) hvD)
    have hln:(jao (D.getD v ETy.str.dflt)).length=(D.getD v ETy.str.dflt).size:=jb4 _
    have hw3:List.take (D.getD v ETy.str.dflt).size (jao (D.getD v ETy.str.dflt))=jao (D.getD v ETy.str.dflt):=List.take_of_length_le (by omega)
    have htx:=jht (jao (D.getD v ETy.str.dflt)) (by omega)
    repeat' first | simp only [SB,E,seval,rdB,ne_eq,implies_true,jah,jaA,jan,jak,jaB,jab,jal,jat] | simp only [hw] | simp only [hw2] | simp only [hw3] | simp only [hw4] | apply tA | apply tB | apply tC | apply tD | apply tE | apply tF | apply tG | apply tH | apply tI | apply tJ | apply tK | apply And.intro | (intro p0; have hyp:=p0; (try simp only [HB,ne_eq,reduceCtorEq] at hyp); (try simp only [p0]); (try clear p0); try (exfalso; omega; done)) | omega
    exact ⟨v+1,by omega,by omega,Cos.intro [0,1,5] [] rfl (by rw [hsn]; (simp only [SB,E,seval,rdB,ne_eq,implies_true,jah,jaA,jan,jak,jaB,jab,jal,jat]; first | done | ((repeat' apply And.intro) <;> first | rfl | omega | (simp; done) | (simp; omega))))⟩
   ·have e:D.take v=D:=List.take_of_length_le (by omega)
    rw [e,← hbc]
    repeat' first | simp only [SB,E,seval,rdB,ne_eq,implies_true,jah,jaA,jan,jak,jaB,jab,jal,jat] | simp only [hw] | simp only [hw2] | simp only [hw3] | simp only [hw4] | apply tA | apply tB | apply tC | apply tD | apply tE | apply tF | apply tG | apply tH | apply tI | apply tJ | apply tK | apply And.intro | (intro p0; have hyp:=p0; (try simp only [HB,ne_eq,reduceCtorEq] at hyp); (try simp only [p0]); (try clear p0); try (exfalso; omega; done)) | omega
    exact ⟨(),Cos.intro [0,1,2] [] rfl (by (simp only [SB,E,seval,rdB,ne_eq,implies_true,jah,jaA,jan,jak,jaB,jab,jal,jat]; first | done | ((repeat' apply And.intro) <;> first | rfl | omega | (simp; done) | (simp; omega))))⟩
  ·exact ⟨(),Cos.intro [0,1,2] [] rfl (by rw [hbn hyp]; (simp only [SB,E,seval,rdB,ne_eq,implies_true,jah,jaA,jan,jak,jaB,jab,jal,jat]; first | done | ((repeat' apply And.intro) <;> first | rfl | omega | (simp; done) | (simp; omega))))⟩
 refine ⟨?_⟩
 obtain ⟨U,hU⟩:∃ U,U=undL L l l':=⟨_,rfl⟩
 obtain ⟨n,hn⟩:∃ n,n=upN K R U L':=⟨_,rfl⟩
 obtain ⟨V,hV⟩:∃ V,V=movL K R U n:=⟨_,rfl⟩
 have hUL:U.length=K * R:=by rw [hU,jr4,hL]
 have hnb:=jr0 K R hr.1 U L'
 rw [← hn] at hnb
 have hgU:jbN K R U=true:=by rw [hU]; exact jmJ l l' (jqc hr1)
 have hcU:∀ q∈U,CWf q:=by rw [hU]; exact jw2 (by omega) hs.wf
 have hVL:V.length=K * R:=by rw [hV]; exact joP hUL n
 have hcel:celB K R U L'=scrB n++jjJ (jaK (ja4 V K R) (ja4 L' K R) R).1++jc1 (cpyL K R V L') L':=by rw [hV,hn]; rfl
 rw [← hU,hcel]
 have hw:List.map (ulf l l') L=U:=hU.symm
 have hw2:(jeZ (fun m=>cntF (fun i=>jfF U (i+m * ↑K)) (cAt L') L'.length) (R - 1)).1=n:=by
  rw [hn,upN]
  congr 2
  funext m
  rw [dist,hL']
 repeat' first | exact hs.wf | exact f1.lk | refine T.cut (a:=z84_39) (fun _:Unit=>⟨[(2,.ptr 0 0 0),(3,.ptr 1 0 0),(5,.slice 2 0 1 (b4++scrB n).length (b4++scrB n).length)],[.box [.int .i64 K,.int .i64 R,.slice 3 0 6 (K * R) (K * R),.int .i64 X,.int .i64 Y,.bool hd,.int .u8 M,.str ti,.vec .str l],.box [.int .i64 K,.int .i64 R,.vec .cell L',.int .i64 X2,.int .i64 Y2,.bool hd',.int .u8 M2,.str ti',.vec .str l'],.seq (.int .u8) (b4++scrB n),.seq .cell V]⟩) (fun _=>True) (Held.out ?_) (fun _ _=>Held.out ?_) | simp only [SB,E,seval,rdB,ne_eq,implies_true,jah,jaA,jan,jak,jaB,jab,jal,jat] | simp only [hw] | simp only [hw2] | simp only [hw3] | simp only [hw4] | apply tA | apply tB | apply tC | apply tD | apply tE | apply tF | apply tG | apply tH | apply tI | apply tJ | apply tK | apply And.intro | (intro p0; have hyp:=p0; (try simp only [HB,ne_eq,reduceCtorEq] at hyp); (try simp only [p0]); (try clear p0); try (exfalso; omega; done)) | omega
 ·refine ⟨?_⟩
  have hcw:CWs U:=fun q hq=>(hcU q hq).rune
  have hw3:(jbX (ja4 U K R) n).flatten=V:=hV.symm
  have hsb:=jlX n (by omega)
  have hw4:jcF [max (2 * n - 1) (-2 * n)]=jbu [scrN n]:=by
   rw [jcP,jhy,jh9,jki]
   congr 2
   unfold scrN
   split <;> omega
  have hvl:(jbu [scrN n]).length≤10:=jcc [scrN n] (fun u hu=>by
   simp only [HB,ne_eq,reduceCtorEq] at hu
   rw [hu]
   unfold scrN
   split <;> omega)
  repeat' first | exact hgU | exact hcw | simp only [SB,E,seval,rdB,ne_eq,implies_true,jah,jaA,jan,jak,jaB,jab,jal,jat] | simp only [hw] | simp only [hw2] | simp only [hw3] | simp only [hw4] | apply tA | apply tB | apply tC | apply tD | apply tE | apply tF | apply tG | apply tH | apply tI | apply tJ | apply tK | apply And.intro | (intro p0; have hyp:=p0; (try simp only [HB,ne_eq,reduceCtorEq] at hyp); (try simp only [p0]); (try clear p0); try (exfalso; omega; done)) | omega
  ·have e:scrB n=6 :: jbu [scrN n]:=if_neg hyp
   exact ⟨(),Cos.intro [0,1,6,7] [] rfl (by rw [e]; (simp only [SB,E,seval,rdB,ne_eq,implies_true,jah,jaA,jan,jak,jaB,jab,jal,jat]; first | done | ((repeat' apply And.intro) <;> first | rfl | omega | (simp; done) | (simp; omega))))⟩
  ·have e:scrB n=[]:=if_pos hyp
   have e2:V=U:=by rw [hV,hyp,jmK hUL]
   exact ⟨(),Cos.intro [0,1,2,3] [] rfl (by rw [e,e2]; (simp only [SB,E,seval,rdB,ne_eq,implies_true,jah,jaA,jan,jak,jaB,jab,jal,jat]; first | done | ((repeat' apply And.intro) <;> first | rfl | omega | (simp; done) | (simp; omega))))⟩
 refine ⟨?_⟩
 have hw:List.take (K * R) V=V:=List.take_of_length_le (by omega)
 have hcpl:=joQ hVL hL'
 have hsb:=jlX n (by omega)
 have hcs:=jim (ja4 V K R) (ja4 L' K R) R (by omega) (jcY _ _ _)
 have hlb:=jin (cpyL K R V L') L' hs'.wf (by omega)
 repeat' first | exact hs'.wf | exact f2.runes | exact f2.wide | simp only [SB,E,seval,rdB,ne_eq,implies_true,jah,jaA,jan,jak,jaB,jab,jal,jat] | simp only [hw] | simp only [hw2] | simp only [hw3] | simp only [hw4] | apply tA | apply tB | apply tC | apply tD | apply tE | apply tF | apply tG | apply tH | apply tI | apply tJ | apply tK | apply And.intro | (intro p0; have hyp:=p0; (try simp only [HB,ne_eq,reduceCtorEq] at hyp); (try simp only [p0]); (try clear p0); try (exfalso; omega; done)) | omega
 exact Cos.intro [8] [] rfl (by (simp only [SB,E,seval,rdB,ne_eq,implies_true,jah,jaA,jan,jak,jaB,jab,jal,jat]; first | done | ((repeat' apply And.intro) <;> first | rfl | omega | (simp; done) | (simp; omega)))))
end
end Go.Proofs.YtcfkfgkndncanaaGreatDoor
