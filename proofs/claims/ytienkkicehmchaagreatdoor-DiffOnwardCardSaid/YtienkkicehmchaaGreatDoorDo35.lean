/- Texts of this claim, merged by a program of this claim: FRn4, FLay. -/
import Derived.Test.YtienkkicehmchaaGreatDoorDo14
import Derived.Test.YtienkkicehmchaaGreatDoorDo15
import Derived.Test.YtienkkicehmchaaGreatDoorDo16
import Derived.Test.YtienkkicehmchaaGreatDoorDo21
import Derived.Test.YtienkkicehmchaaGreatDoorDo32
import Derived.Test.YtienkkicehmchaaGreatDoorDo33
import Derived.Test.YtienkkicehmchaaGreatDoorDo34
import Derived.Test.YtienkkicehmchaaGreatDoorDo6
namespace Go.Proofs.YtienkkicehmchaaGreatDoor
open And renaming intro→qaa
open Cos renaming intro→qab
open List renaming take_of_length_le→qac,length_append→qad,append_nil→qae,length_drop→qaf,length_cons→qag,take→qah,map_cons→qai
noncomputable section
set_option linter.unusedVariables false
set_option linter.unusedSimpArgs false
section
open Go.RowKit
set_option maxRecDepth 100000
set_option maxHeartbeats 4000000
theorem jAc (x y:CV) (h:KH):Clo Tryz.prog E0 jgl [x,y] .niliface h h:=by
 refine Clo.intro (V:=VV [] GOk.nil 17 h.length) jgm rfl rfl ?_
 repeat' first|simp only[PB,SAM,seval,rdB,Hk.out zc,tq0,tq1,tq2]|refine tU ?_|refine qaa ?_ ?_|(refine tI ?_;intro hyp)|intro hyp0|exact tZ|omega
theorem jq7 (A:KB) (c:CV) (rest:KH) (no:Int):Clo Tryz.prog E0 jgl [.ptr 1 0 0,.ptr 2 0 0] (errV no) (A :: .box jsu :: .box [c]::rest) (A :: .box jsu :: .box [.int .i64 no]::rest):=by
 refine Clo.intro (V:=VV [] GOk.nil 17 (A :: .box jsu :: .box [c]::rest).length) jgm rfl rfl ?_
 repeat' first|simp only[PB,SAM,seval,rdB,Hk.out zc,tq0,tq1,tq2]|refine tU ?_|refine qaa ?_ ?_|(refine tI ?_;intro hyp)|intro hyp0|exact tZ|omega
theorem jgW {k r:Int}{L:List CD}{x y mo:Int}{ti:ByteArray}{l:List ByteArray}(h:jaB k r L x y mo ti l=true):jal k r L x y mo ti l=true:=by
 unfold jaB at h
 simp only[Bool.and_eq_true]at h
 exact h.1.1
abbrev jBc:List AK:=[.agg [.any,.any,.sl .cell,.any,.any,.any,.any,.any,.sl .str],.sl (.int .u8)]
abbrev q_nap (k r:Int) (L:List CD) (x y:Int) (hd:Bool) (mo:Int) (ti:ByteArray) (l:List ByteArray) (d:List Int):QA:=([.agg [.int .i64 k,.int .i64 r,.vec .cell L,.int .i64 x,.int .i64 y,.bool hd,.int .u8 mo,.str ti,.vec .str l],.vec (.int .u8) d],ScrOk L l∧SLen ti∧(d.length≤1000000∧Bts d),.ret (.tup [.agg [.int .i64 (ap2G d ⟨k,r,L,x,y,hd,mo,ti,l,[],0⟩).2.k,.int .i64 (ap2G d ⟨k,r,L,x,y,hd,mo,ti,l,[],0⟩).2.r,.vec .cell (ap2G d ⟨k,r,L,x,y,hd,mo,ti,l,[],0⟩).2.L,.int .i64 (ap2G d ⟨k,r,L,x,y,hd,mo,ti,l,[],0⟩).2.x,.int .i64 (ap2G d ⟨k,r,L,x,y,hd,mo,ti,l,[],0⟩).2.y,.bool (ap2G d ⟨k,r,L,x,y,hd,mo,ti,l,[],0⟩).2.hd,.int .u8 (ap2G d ⟨k,r,L,x,y,hd,mo,ti,l,[],0⟩).2.mo,.str (ap2G d ⟨k,r,L,x,y,hd,mo,ti,l,[],0⟩).2.ti,.vec .str (ap2G d ⟨k,r,L,x,y,hd,mo,ti,l,[],0⟩).2.l],.int .i64 (ap2G d ⟨k,r,L,x,y,hd,mo,ti,l,[],0⟩).1]))
def sp_nap:=spQ (u10 q_nap)
theorem jvz:W10 (hA sp_nap) q_nap:=w10 (aA rfl)
theorem jBd:Al 105 sp_nap:=ofA (u10 q_nap) fun⟨k,r,L,x,y,hd,mo,ti,l,d⟩ hG=>tfd (.f jhz jdm jhA (.t [.sl .cell] jau jdM (.m jfZ jpv (.m jbv jmT (.m ja2 jqG (.p jcT jvv .nil)))))) 0 jiN (by
 dsimp only[u10,q_nap]at hG ⊢
 have zc:=Hk.mk (qaa @jdS (qaa @jbz (qaa @jgO (qaa @jfC (qaa @jiI (qaa @jm5 (qaa @tq0 (qaa @tq1 @tq2))))))))
 obtain⟨hsc,hti,hdl,hb⟩:=hG
 have hwf:=hsc.wf
 have hw:=qaa hsc hti
 refine TD.pre rfl ?_
 repeat' first|refine tU ?_|refine qaa ?_ ?_|(refine tI ?_;intro hyp)|intro hyp0|exact tZ|omega
 refine TD.pre rfl ?_
 repeat' first|exact hsc|refine tU ?_|refine qaa ?_ ?_|(refine tI ?_;intro hyp)|intro hyp0|exact tZ|omega
 ·have hW:ap2G d ⟨k,r,L,x,y,hd,mo,ti,l,[],0⟩=(1,jc3):=if_pos hyp
  rw[hW]
  refine qab [] [0,1,2,3,4,5,6,7,8,9] rfl ?_
  simp only[PB,SAM,seval,rdB,Hk.out zc]
  simp[jc3,jaM]
 ·obtain⟨hk,hr,hl,hle⟩:=jfX (jfM (jgW hyp))
  have hl7:l.length≤1000000:=by
   have:=hsc.links
   omega
  have hl6:L.length≤1000000:=by omega
  refine TD.dfr [.ptr 1 0 0,.ptr 2 0 0] rfl rfl (fun h=>jAc _ _ h) (fun D=>?_)
  repeat' first|exact hl6|exact hdl|refine tU ?_|refine qaa ?_ ?_|(refine tI ?_;intro hyp)|intro hyp0|exact tZ|omega
  generalize hW:goR d 6 0 ⟨k,r,L,x,y,hd,mo,ti,l,[],0⟩=W
  refine T.loop (fun q:Nat×Int×RS=>⟨[(4,.ptr 1 0 0),(5,.ptr 2 0 0),(6,.ptr 3 0 0),(7,.int .i64 q.2.1)],[.dead,.box [.int .i64 0,.int .i64 0,.nils,.int .i64 0,.int .i64 0,.bool false,.int .u8 0,.str (bs []),.nils],.box [.int .i64 0],.box [.ptr 4 0 0,.int .i64 q.2.2.k,.int .i64 q.2.2.r,.slice 5 0 6 q.2.2.L.length q.2.2.L.length,.int .i64 q.2.2.x,.int .i64 q.2.2.y,.bool q.2.2.hd,.int .u8 q.2.2.mo,.str q.2.2.ti,.vec .str q.2.2.l],rdr d q.2.2.a 0,.seq .cell q.2.2.L]⟩) (fun q=>5-q.2.1<q.1∧(0≤q.2.1∧q.2.1≤5)∧KeptR d q.2.2∧(q.2.1<5→Kept d q.2.1 q.2.2)∧q.2.2.more=[]∧goR d q.1 q.2.1 q.2.2=W) (fun q=>q.1) (6,0,⟨k,r,L,x,y,hd,mo,ti,l,[],0⟩) ?_ (qab [0,1,2,5,4,3] [] rfl (by exact tF)) (fun q hq=>?_)
  ·obtain⟨hz,h16,hlk⟩:=jlT (jgW hyp)
   have hK:Kept d 0 ⟨k,r,L,x,y,hd,mo,ti,l,[],0⟩:=⟨⟨Nat.zero_le _,hdl,hb⟩,hz,h16,Nat.zero_le _,hwf,fun _=>hlk,fun _=>jfM (jgW hyp),fun t ht=>(by cases ht),hti,hsc.slen⟩
   exact⟨by dsimp only;omega,⟨by dsimp only;omega,by dsimp only;omega⟩,hK.weak,fun _=>hK,rfl,hW⟩
  ·obtain⟨f,last,s⟩:=q
   obtain⟨hf,⟨h0,h8⟩,hK,hKK,hmr,hg⟩:=hq
   dsimp only at hf h0 h8 hK hKK hmr hg
   cases f with
   | zero=>omega
   | succ f =>
    simp only[goR]at hg
    have hrd:=hK.rd
    by_cases ha:d.length≤s.a
    ·rw[if_pos ha]at hg
     subst hg
     have hsk:ScrOk s.L s.l:=⟨hK.wf,by have:=hK.sz.le;omega,by have:=hK.ln;omega,hK.sl⟩
     by_cases hR:jaB s.k s.r s.L s.x s.y s.mo s.ti s.l=true
     ·rw[jA8 (d:=d) (s:=⟨k,r,L,x,y,hd,mo,ti,l,[],0⟩) hyp hW hR]
      have hw:=hR
      repeat' first|exact hrd.1|exact hdl|exact hsk|exact hK.st|refine tU ?_|refine qab [] [0,1,2,3,4,5,6,7,8,9] rfl ?_|refine qaa ?_ ?_|(refine tI ?_;intro hyp)|intro hyp0|exact tZ|omega
     ·have hR2:=Bool.eq_false_iff.2 hR
      rw[jAa (d:=d) (s:=⟨k,r,L,x,y,hd,mo,ti,l,[],0⟩) hyp hW hR2]
      have hw:=hR2
      repeat' first|exact hrd.1|exact hdl|exact hsk|exact hK.st|refine tU ?_|refine qab [] [0,1,2,3,4,5,6,7,8,9] rfl ?_|refine qaa ?_ ?_|(refine tI ?_;intro hyp)|intro hyp0|exact tZ|omega
      all_goals (simp[jc3,jaM])
    ·rw[if_neg ha]at hg
     obtain⟨kd,hkd⟩:∃kd,d.getD s.a 0=kd:=⟨_,rfl⟩
     rw[hkd]at hg
     have hln:s.a<d.length:=by omega
     have hkb:0≤kd∧kd<256:=by
      rw[←hkd]
      exact hrd.2.2 _ (jaX (d:=0) hln)
     by_cases h9:kd≤last∨5<kd
     ·rw[if_pos h9]at hg
      subst hg
      rw[jvs (d:=d) (s:=⟨k,r,L,x,y,hd,mo,ti,l,[],0⟩) hyp hW (by decide)]
      have hw:=qaa hkd (jf7 (n:=kd) (by omega))
      repeat' first|exact hrd.1|exact hdl|exact hln|exact hb|refine tU ?_|refine qaa ?_ ?_|(refine tI ?_;intro hyp)|intro hyp0|exact tZ|omega
      refine⟨_,jq7 _ _ _ _,?_⟩
      repeat' first|refine tU ?_|refine qab [] [0,1,2,3,4,5,6,7,8,9] rfl ?_|refine qaa ?_ ?_|(refine tI ?_;intro hyp)|intro hyp0|exact tZ|omega
      all_goals (simp[jc3,jaM])
     ·rw[if_neg h9]at hg
      have hK2:=(hKK (by omega)).next hln
      obtain⟨⟨k1,k2⟩,⟨r1,r2⟩,hLl⟩:=hK.sz
      have hth:RdOk d (s.a+1)∧Szd s.k s.r s.L∧(1≤kd∧kd≤5):=⟨hK2.rd,hK.sz,by omega,by omega⟩
      have hs1:({ s with a:=s.a+1 }:RS)=⟨s.k,s.r,s.L,s.x,s.y,s.hd,s.mo,s.ti,s.l,[],s.a+1⟩:=by rw[←hmr]
      rw[hs1]at hK2 hg
      by_cases he:(thR d kd ⟨s.k,s.r,s.L,s.x,s.y,s.hd,s.mo,s.ti,s.l,[],s.a+1⟩).1=0
      ·rw[if_neg (by rw[he];decide)]at hg
       have hK3:=jBU hK2 (show last<kd by omega) (by omega) he
       have hm3:=jz9 (d:=d) (kd:=kd) (s:=⟨s.k,s.r,s.L,s.x,s.y,s.hd,s.mo,s.ti,s.l,[],s.a+1⟩) rfl (by omega)
       have hw:=qaa hkd (qaa (jf7 (n:=kd) (by omega)) he)
       repeat' first|exact hrd.1|exact hdl|exact hln|exact hb|exact hth.1|exact hth.2.1|exact hLl|refine tU ?_|refine qaa ?_ ?_|(refine tI ?_;intro hyp)|intro hyp0|exact tZ|omega
       exact⟨(f,kd,(thR d kd ⟨s.k,s.r,s.L,s.x,s.y,s.hd,s.mo,s.ti,s.l,[],s.a+1⟩).2),⟨by dsimp only;omega,⟨by dsimp only;omega,by dsimp only;omega⟩,hK3.1,hK3.2,hm3,hg⟩,Nat.lt_succ_self _,qab [0,1,2,3,4,6] [] rfl (by exact tF)⟩
      ·rw[if_pos he]at hg
       subst hg
       rw[jvs (d:=d) (s:=⟨k,r,L,x,y,hd,mo,ti,l,[],0⟩) hyp hW he]
       have hw:=qaa hkd (qaa (jf7 (n:=kd) (by omega)) (eq_false he))
       repeat' first|exact hrd.1|exact hdl|exact hln|exact hb|exact hth.1|exact hth.2.1|exact hLl|refine tU ?_|refine qaa ?_ ?_|(refine tI ?_;intro hyp)|intro hyp0|exact tZ|omega
       refine⟨_,jq7 _ _ _ _,?_⟩
       repeat' first|refine tU ?_|refine qab [] [0,1,2,3,4,5,6,7,8,9] rfl ?_|refine qaa ?_ ?_|(refine tI ?_;intro hyp)|intro hyp0|exact tZ|omega
       all_goals (simp[jc3,jaM]))
end
section
open Go.RowKit
set_option maxRecDepth 100000
set_option maxHeartbeats 4000000
theorem jsz {k r:Int}{L:List CD}{x y mo:Int}{ti:ByteArray}{l:List ByteArray}(h:jal k r L x y mo ti l=true):jbo k r L=true:=by
 unfold jal at h
 simp only[HB,ne_eq,reduceCtorEq]at h
 exact h.1.1.1.1.1.1.1.1
abbrev jvA:List AK:=[.agg [.any,.any,.sl .cell,.any,.any,.any,.any,.any,.sl .str],.agg [.any,.any,.sl .cell,.any,.any,.any,.any,.any,.sl .str]]
abbrev q_mlay (k r:Int) (L:List CD) (x y:Int) (hd:Bool) (mo:Int) (ti:ByteArray) (l:List ByteArray) (k' r':Int) (L':List CD) (x' y':Int) (hd':Bool) (mo':Int) (ti':ByteArray) (l':List ByteArray):QA:=([.agg [.int .i64 k,.int .i64 r,.vec .cell L,.int .i64 x,.int .i64 y,.bool hd,.int .u8 mo,.str ti,.vec .str l],.agg [.int .i64 k',.int .i64 r',.vec .cell L',.int .i64 x',.int .i64 y',.bool hd',.int .u8 mo',.str ti',.vec .str l']],(k=k'∧r=r')∧(ScrOk L l∧ScrOk L' l')∧(jal k r L x y mo ti l=true∧jal k' r' L' x' y' mo' ti' l'=true)∧(0≤mo∧0≤mo'),.ret (.vec (.int .u8) (jga k.toNat r.toNat L x.toNat y.toNat hd mo.toNat ti l L' x'.toNat y'.toNat hd' mo'.toNat ti' l')))
def sp_mlay:=spQ (u18 q_mlay)
theorem jlU:W18 (hA sp_mlay) q_mlay:=w18 (aA rfl)
theorem jvB:Fre 149 sp_mlay:=ofT (u18 q_mlay) fun⟨k,r,L,x,y,hd,mo,ti,l,k',r',L',x',y',hd',mo',ti',l'⟩ hG=>tfi (.t jqn jdk jqo (.t [.sl (.int .u8)] jgE jtV (.f [.sl .str,.sl .str] jcI jue (.t jqK jeW jqL (.f jAd jiE jAf (.t jiF jcP jiG (.t jsb jet jsc (.t jxb jfz jxc .nil)))))))) 0 jgL (by
 dsimp only[u18,q_mlay]at hG ⊢
 have zc:=Hk.mk (qaa @jho (qaa @jlp (qaa @jnT (qaa @jkq (qaa @jsy (qaa @jfB (qaa @jmK @jpp)))))))
 obtain⟨⟨rfl,rfl⟩,⟨hs,hs'⟩,⟨hr1,hr2⟩,hmo,hmo'⟩:=hG
 obtain⟨K,R,X,Y,M,rfl,rfl,rfl,rfl,rfl,f1⟩:=jan hr1 hmo
 obtain⟨K2,R2,X2,Y2,M2,e1,e2,rfl,rfl,rfl,f2⟩:=jan hr2 hmo'
 obtain rfl:K=K2:=by omega
 obtain rfl:R=R2:=by omega
 simp only[Int.toNat_natCast]
 have hk:=f1.k1
 have hr:=f1.r1
 have hx2:=f2.x1
 have hy2:=f2.y1
 have hm2:=f2.mo1
 have ht2:=f2.ti1
 have hl1:=f1.l1
 have hl2:=f2.l1
 have hL:=f1.len
 have hL':=f2.len
 have hKR:K*R≤1920:=Nat.mul_le_mul (show K≤80 by omega) (show R≤24 by omega)
 have htk:qah ti'.size (jac ti')=jac ti':=qac (by rw[jay];exact Nat.le_refl _)
 have hti:(jac ti').length=ti'.size:=jay ti'
 obtain⟨b1,hb1⟩:∃b,b=curB X Y hd X2 Y2 hd':=⟨_,rfl⟩
 obtain⟨b2,hb2⟩:∃b,b=b1++titB ti ti':=⟨_,rfl⟩
 obtain⟨b3,hb3⟩:∃b,b=b2++mouB M M2:=⟨_,rfl⟩
 obtain⟨b4,hb4⟩:∃b,b=b3++linB l l':=⟨_,rfl⟩
 have q1:b1.length≤31:=by rw[hb1];exact jmD X Y hd X2 Y2 hd' (by omega) (by omega)
 have q2:b2.length≤200:=by
  have:=jmE ti ti' ht2
  rw[hb2,qad]
  omega
 have q3:b3.length≤300:=by
  have:=jmF M M2 (by omega)
  rw[hb3,qad]
  omega
 have q4:b4.length≤2000:=by
  have:=jqu l l' hl2 f2.s64
  rw[hb4,qad]
  omega
 have hhead:jr0 X Y hd M ti l X2 Y2 hd' M2 ti' l'=b4:=by rw[hb4,hb3,hb2,hb1];rfl
 rw[jga,hhead]
 repeat' first|refine T.cut (a:=z68_2) (fun _:Unit=>⟨[(2,.ptr 0 0 0),(3,.ptr 1 0 0),(5,.slice 2 0 1 (b1).length (b1).length)],[.box [.int .i64 K,.int .i64 R,.vec .cell L,.int .i64 X,.int .i64 Y,.bool hd,.int .u8 M,.str ti,.vec .str l],.box [.int .i64 K,.int .i64 R,.vec .cell L',.int .i64 X2,.int .i64 Y2,.bool hd',.int .u8 M2,.str ti',.vec .str l'],.seq (.int .u8) (b1)]⟩) (fun _=>True) (Held.out ?_) (fun _ _=>Held.out ?_)|refine tU ?_|refine qaa ?_ ?_|(refine tI ?_;intro hyp)|intro hyp0|exact tZ|omega
 ·refine⟨?_⟩
  have hc:=@jqw X Y X2 Y2 hd hd'
  have hby:curC X Y hd X2 Y2 hd'=true→b1=2::jar [X2,Y2,if hd' then 1 else 0]:=fun h=>by rw[hb1,curB,if_pos h]
  have hbn:¬curC X Y hd X2 Y2 hd'=true→b1=[]:=fun h=>by rw[hb1,curB,if_neg h]
  have hv:∀z:Nat,z<128→jar [X2,Y2,z]=[(X2:Int),Y2,z]:=fun z hz=>by
   simp only[jeo,jfv,jdP (show X2<128 by omega),jdP (show Y2<128 by omega),jdP hz]
   rfl
  have hb0:∀z:Int,0≤z→z≤80→varN z.toNat=[z]:=fun z h1 h2=>jfs h1 (by omega)
  have hw:ja3 [(X2:Int),(Y2:Int),0]=[(X2:Int),Y2,0]:=by rw[jaJ,jaJ,jaJ,jcH,hb0 _ (by omega) (by omega),hb0 _ (by omega) (by omega),hb0 _ (by omega) (by omega)];rfl
  have hw2:ja3 [(X2:Int),(Y2:Int),1]=[(X2:Int),Y2,1]:=by rw[jaJ,jaJ,jaJ,jcH,hb0 _ (by omega) (by omega),hb0 _ (by omega) (by omega),hb0 _ (by omega) (by omega)];rfl
  repeat' first|refine tU ?_|refine qaa ?_ ?_|(refine tI ?_;intro hyp)|intro hyp0|exact tZ|omega
  ·rename_i hq
   have e:b1=[2,(X2:Int),Y2,1]:=by rw[hby (hc.2 hq),hyp,if_pos rfl,hv 1 (by omega)];rfl
   exact⟨(),qab [0,1,4] [] rfl (by rw[e];exact tF)⟩
  ·rename_i hq
   have e:b1=[2,(X2:Int),Y2,0]:=by rw[hby (hc.2 hq),hyp,if_neg (by decide),hv 0 (by omega)];rfl
   exact⟨(),qab [0,1,4] [] rfl (by rw[e];exact tF)⟩
  ·have e:b1=[]:=hbn fun q=>by
    rcases hc.1 q with (h|h)|h
    ·exact h hyp.1.1
    ·exact h hyp.1.2
    ·rw[hyp.2]at h
     simp at h
   exact⟨(),qab [0,1,99] [] rfl (by rw[e];simp only[PB,SAM,seval,rdB,Hk.out zc];first|done|simp[crs,crsL,jaM])⟩
 refine⟨?_⟩
 repeat' first|refine T.cut (a:=z68_9) (fun _:Unit=>⟨[(2,.ptr 0 0 0),(3,.ptr 1 0 0),(5,.slice 2 0 1 (b2).length (b2).length)],[.box [.int .i64 K,.int .i64 R,.vec .cell L,.int .i64 X,.int .i64 Y,.bool hd,.int .u8 M,.str ti,.vec .str l],.box [.int .i64 K,.int .i64 R,.vec .cell L',.int .i64 X2,.int .i64 Y2,.bool hd',.int .u8 M2,.str ti',.vec .str l'],.seq (.int .u8) (b2)]⟩) (fun _=>True) (Held.out ?_) (fun _ _=>Held.out ?_)|refine tU ?_|refine qaa ?_ ?_|(refine tI ?_;intro hyp)|intro hyp0|exact tZ|omega
 ·refine⟨?_⟩
  have hw:=htk
  have htl:=jfu (jac ti') (by omega)
  repeat' first|refine tU ?_|refine qaa ?_ ?_|(refine tI ?_;intro hyp)|intro hyp0|exact tZ|omega
  ·have e:b2=b1++3::jf8 (jac ti'):=by rw[hb2,titB,if_neg (fun q=>hyp (ja9.1 q))]
   exact⟨(),qab [0,1,7] [] rfl (by rw[e];exact tF)⟩
  ·have e:b2=b1:=by rw[hb2,titB,if_pos (ja9.2 hyp),qae]
   exact⟨(),qab [0,1,2] [] rfl (by rw[e];exact tF)⟩
 refine⟨?_⟩
 repeat' first|refine T.cut (a:=z68_13) (fun _:Unit=>⟨[(2,.ptr 0 0 0),(3,.ptr 1 0 0),(5,.slice 2 0 1 (b3).length (b3).length)],[.box [.int .i64 K,.int .i64 R,.vec .cell L,.int .i64 X,.int .i64 Y,.bool hd,.int .u8 M,.str ti,.vec .str l],.box [.int .i64 K,.int .i64 R,.vec .cell L',.int .i64 X2,.int .i64 Y2,.bool hd',.int .u8 M2,.str ti',.vec .str l'],.seq (.int .u8) (b3)]⟩) (fun _=>True) (Held.out ?_) (fun _ _=>Held.out ?_)|refine tU ?_|refine qaa ?_ ?_|(refine tI ?_;intro hyp)|intro hyp0|exact tZ|omega
 ·refine⟨?_⟩
  have hw:ja3 [(M2:Int)]=[(M2:Int)]:=by rw[jaJ,jcH,jfs (by omega) (by omega)];rfl
  repeat' first|refine tU ?_|refine qaa ?_ ?_|(refine tI ?_;intro hyp)|intro hyp0|exact tZ|omega
  ·have e:b3=b2++[4,(M2:Int)]:=by rw[hb3,mouB,if_neg (fun e=>hyp (by rw[e]))];simp only[jeo,jfv,jdP (show M2<128 by omega)];rfl
   exact⟨(),qab [0,1,5] [] rfl (by rw[e];exact tF)⟩
  ·have e:b3=b2:=by rw[hb3,mouB,if_pos (by omega),qae]
   exact⟨(),qab [0,1,2] [] rfl (by rw[e];exact tF)⟩
 refine⟨?_⟩
 repeat' first|refine T.cut (a:=z68_16) (fun _:Unit=>⟨[(2,.ptr 0 0 0),(3,.ptr 1 0 0),(5,.slice 2 0 1 (b4).length (b4).length)],[.box [.int .i64 K,.int .i64 R,.vec .cell L,.int .i64 X,.int .i64 Y,.bool hd,.int .u8 M,.str ti,.vec .str l],.box [.int .i64 K,.int .i64 R,.vec .cell L',.int .i64 X2,.int .i64 Y2,.bool hd',.int .u8 M2,.str ti',.vec .str l'],.seq (.int .u8) (b4)]⟩) (fun _=>True) (Held.out ?_) (fun _ _=>Held.out ?_)|refine tU ?_|refine qaa ?_ ?_|(refine tI ?_;intro hyp)|intro hyp0|exact tZ|omega
 ·refine⟨?_⟩
  have hby:¬l'=l→b4=b3++5::jar [comK l' l,l'.length-comK l' l]++texB (l'.drop (comK l' l)):=fun h=>by rw[hb4,linB,if_neg h,List.append_assoc]
  have hbn:l'=l→b4=b3:=fun h=>by rw[hb4,linB,if_pos h,qae]
  obtain⟨j,hj⟩:∃j,j=comK l' l:=⟨_,rfl⟩
  obtain⟨c1,c2⟩:=jmB l' l
  rw[←hj]at c1 c2 hby
  have hsl':=hs'.slen
  repeat' first|refine T.cut (a:=z68_20) (fun _:Unit=>⟨[(2,.ptr 0 0 0),(3,.ptr 1 0 0),(5,.slice 2 0 1 b3.length b3.length),(9,.int .i64 j)],[.box [.int .i64 K,.int .i64 R,.vec .cell L,.int .i64 X,.int .i64 Y,.bool hd,.int .u8 M,.str ti,.vec .str l],.box [.int .i64 K,.int .i64 R,.vec .cell L',.int .i64 X2,.int .i64 Y2,.bool hd',.int .u8 M2,.str ti',.vec .str l'],.seq (.int .u8) b3]⟩) (fun _=>True) (Held.out ?_) (fun _ _=>Held.out ?_)|refine tU ?_|refine qaa ?_ ?_|(refine tI ?_;intro hyp)|intro hyp0|exact tZ|omega
  ·refine⟨?_⟩
   repeat' first|refine tU ?_|refine qaa ?_ ?_|(refine tI ?_;intro hyp)|intro hyp0|exact tZ|omega
   refine T.loop (fun v:Nat=>⟨[(2,.ptr 0 0 0),(3,.ptr 1 0 0),(5,.slice 2 0 1 b3.length b3.length),(9,.int .i64 v)],[.box [.int .i64 K,.int .i64 R,.vec .cell L,.int .i64 X,.int .i64 Y,.bool hd,.int .u8 M,.str ti,.vec .str l],.box [.int .i64 K,.int .i64 R,.vec .cell L',.int .i64 X2,.int .i64 Y2,.bool hd',.int .u8 M2,.str ti',.vec .str l'],.seq (.int .u8) b3]⟩) (fun v=>j=v+comK (l'.drop v) (l.drop v)) (fun v=>l'.length-v) 0 (by rw[hj];simp) (qab [0,1,2] [] rfl (by exact tF)) (fun v hv=>?_)
   by_cases hyes:(v<l'.length∧v<l.length)∧l'.getD v ETy.str.dflt=l.getD v ETy.str.dflt
   ·obtain⟨⟨h1,h2⟩,h3⟩:=hyes
    have hgo:=jzo (jaW (d:=ETy.str.dflt) h1) (by rw[h3];exact jaW h2)
    repeat' first|exact absurd h3 hyp|refine tU ?_|refine qaa ?_ ?_|(refine tI ?_;intro hyp)|intro hyp0|exact tZ|omega
    exact⟨v+1,by omega,by omega,qab [0,1,2] [] rfl (by exact tF)⟩
   ·have hst:comK (l'.drop v) (l.drop v)=0:=jt1 fun s t h1 h2 e=>hyes (by
     have q1:=(List.getElem?_eq_some_iff.1 h1).1
     have q2:=(List.getElem?_eq_some_iff.1 h2).1
     rw[jaW (d:=ETy.str.dflt) q1]at h1
     rw[jaW (d:=ETy.str.dflt) q2]at h2
     exact⟨⟨q1,q2⟩,(Option.some.inj h1).trans (e.trans (Option.some.inj h2).symm)⟩)
    have hvj:v=j:=by omega
    subst hvj
    repeat' first|refine tU ?_|refine qaa ?_ ?_|(refine tI ?_;intro hyp)|intro hyp0|exact tZ|omega
    all_goals first|exact⟨(),qab [0,1,2] [] rfl (by exact tF)⟩|exact absurd ⟨⟨by omega,by omega⟩,by assumption⟩ hyes
  ·refine⟨?_⟩
   have hb4:=hby hyp
   obtain⟨D,hD⟩:∃D,D=l'.drop j:=⟨_,rfl⟩
   have hDl:D.length=l'.length-j:=by rw[hD,qaf]
   have hw:qah (l'.length-j) (List.drop j l')=D:=by rw[hD];exact qac (by rw[qaf];exact Nat.le_refl _)
   have hw2:ja3 [(j:Int),(l'.length:Int)-j]=jar [j,l'.length-j]:=by
    rw[←jev,qai,qai,List.map_nil]
    congr 2
    simp only[Int.ofNat_eq_natCast,List.cons.injEq,and_true]
    omega
   have hvl:=jbe [j,l'.length-j] (fun u hu=>by simp at hu;omega)
   simp only[qag,List.length_nil]at hvl
   rw[←hD]at hb4
   obtain⟨c0,hc0⟩:∃c,c=b3++5::jar [j,l'.length-j]:=⟨_,rfl⟩
   have hc0l:c0.length≤400:=by rw[hc0];simp only[qad,qag];omega
   have hbc:b4=c0++texB D:=by rw[hb4,hc0]
   repeat' first|refine tU ?_|refine qaa ?_ ?_|(refine tI ?_;intro hyp)|intro hyp0|exact tZ|omega
   refine T.loop (fun v:Nat=>⟨[(2,.ptr 0 0 0),(3,.ptr 1 0 0),(5,.slice 2 0 1 (c0++texB (D.take v)).length (c0++texB (D.take v)).length),(122,.vec .str D),(123,.int .i64 D.length),(124,.int .i64 v)],[.box [.int .i64 K,.int .i64 R,.vec .cell L,.int .i64 X,.int .i64 Y,.bool hd,.int .u8 M,.str ti,.vec .str l],.box [.int .i64 K,.int .i64 R,.vec .cell L',.int .i64 X2,.int .i64 Y2,.bool hd',.int .u8 M2,.str ti',.vec .str l'],.seq (.int .u8) (c0++texB (D.take v))]⟩) (fun v=>v≤D.length) (fun v=>D.length-v) 0 (by omega) (qab [0,1,5] [] rfl (by simp only[hc0,texB,List.take_zero,List.flatMap_nil,qae];exact tF)) (fun v hv=>?_)
   have hs64:∀s∈D,s.size≤64:=fun s hs=>f2.s64 s (by rw[hD]at hs;exact List.mem_of_mem_drop hs)
   have htl:=jqt (l:=D.take v) (fun s hs=>hs64 s (List.mem_of_mem_take hs))
   rw[List.length_take]at htl
   by_cases hvD:v<D.length
   ·have h64:=hs64 _ (jht hvD)
    have hsn:=jt7 (jaW (d:=ETy.str.dflt) hvD)
    have hln:(jac (D.getD v ETy.str.dflt)).length=(D.getD v ETy.str.dflt).size:=jay _
    have hw3:qah (D.getD v ETy.str.dflt).size (jac (D.getD v ETy.str.dflt))=jac (D.getD v ETy.str.dflt):=qac (by omega)
    have htx:=jfu (jac (D.getD v ETy.str.dflt)) (by omega)
    repeat' first|refine tU ?_|refine qaa ?_ ?_|(refine tI ?_;intro hyp)|intro hyp0|exact tZ|omega
    exact⟨v+1,by omega,by omega,qab [0,1,5] [] rfl (by rw[hsn];exact tF)⟩
   ·have e:D.take v=D:=qac (by omega)
    rw[e,←hbc]
    repeat' first|refine tU ?_|refine qaa ?_ ?_|(refine tI ?_;intro hyp)|intro hyp0|exact tZ|omega
    exact⟨(),qab [0,1,2] [] rfl (by exact tF)⟩
  ·exact⟨(),qab [0,1,2] [] rfl (by rw[hbn hyp];exact tF)⟩
 refine⟨?_⟩
 obtain⟨U,hU⟩:∃U,U=undL L l l':=⟨_,rfl⟩
 obtain⟨n,hn⟩:∃n,n=upN K R U L':=⟨_,rfl⟩
 obtain⟨V,hV⟩:∃V,V=movL K R U n:=⟨_,rfl⟩
 have hUL:U.length=K*R:=by rw[hU,jt6,hL]
 have hnb:=jt2 K R hr.1 U L'
 rw[←hn]at hnb
 have hgU:jbo K R U=true:=by rw[hU];exact jnK l l' (jsz hr1)
 have hcU:∀q∈U,CWf q:=by rw[hU];exact jAS (by omega) hs.wf
 have hVL:V.length=K*R:=by rw[hV];exact jqr hUL n
 have hcel:celB K R U L'=scrB n++jj2 (jak (jat V K R) (jat L' K R) R).1++jbU (cpyL K R V L') L':=by rw[hV,hn];rfl
 rw[←hU,hcel]
 have hw:List.map (ulf l l') L=U:=hU.symm
 have hw2:(jdZ (fun m=>cntF (fun i=>jfd U (i+m * ↑K)) (cAt L') L'.length) (R-1)).1=n:=by
  rw[hn,upN]
  congr 2
  funext m
  rw[dist,hL']
 repeat' first|exact hs.wf|exact f1.lk|refine T.cut (a:=z68_39) (fun _:Unit=>⟨[(2,.ptr 0 0 0),(3,.ptr 1 0 0),(5,.slice 2 0 1 (b4++scrB n).length (b4++scrB n).length)],[.box [.int .i64 K,.int .i64 R,.slice 3 0 6 (K*R) (K*R),.int .i64 X,.int .i64 Y,.bool hd,.int .u8 M,.str ti,.vec .str l],.box [.int .i64 K,.int .i64 R,.vec .cell L',.int .i64 X2,.int .i64 Y2,.bool hd',.int .u8 M2,.str ti',.vec .str l'],.seq (.int .u8) (b4++scrB n),.seq .cell V]⟩) (fun _=>True) (Held.out ?_) (fun _ _=>Held.out ?_)|refine tU ?_|refine qaa ?_ ?_|(refine tI ?_;intro hyp)|intro hyp0|exact tZ|omega
 ·refine⟨?_⟩
  have hcw:CWs U:=fun q hq=>(hcU q hq).rune
  have hw3:(jbi (jat U K R) n).flatten=V:=hV.symm
  have hsb:=jmG n (by omega)
  have hw4:ja3 [max (2*n-1) (-2*n)]=jar [scrN n]:=by
   rw[jaJ,jcH,jeo,jfv]
   congr 2
   unfold scrN
   split<;>omega
  have hvl:(jar [scrN n]).length≤10:=jbe [scrN n] (fun u hu=>by
   simp only[HB,ne_eq,reduceCtorEq]at hu
   rw[hu]
   unfold scrN
   split<;>omega)
  repeat' first|exact hgU|exact hcw|refine tU ?_|refine qaa ?_ ?_|(refine tI ?_;intro hyp)|intro hyp0|exact tZ|omega
  ·have e:scrB n=6::jar [scrN n]:=if_neg hyp
   exact⟨(),qab [0,1,6,7] [] rfl (by rw[e];exact tF)⟩
  ·have e:scrB n=[]:=if_pos hyp
   have e2:V=U:=by rw[hV,hyp,jj5 hUL]
   exact⟨(),qab [0,1,2,3] [] rfl (by rw[e,e2];exact tF)⟩
 refine⟨?_⟩
 have hw:qah (K*R) V=V:=qac (by omega)
 have hcpl:=jqs hVL hL'
 have hsb:=jmG n (by omega)
 have hcs:=jiy (jat V K R) (jat L' K R) R (by omega) (jbR _ _ _)
 have hlb:=jiz (cpyL K R V L') L' hs'.wf (by omega)
 repeat' first|exact hs'.wf|exact f2.runes|exact f2.wide|refine tU ?_|refine qaa ?_ ?_|(refine tI ?_;intro hyp)|intro hyp0|exact tZ|omega
 exact qab [8] [] rfl (by exact tF))
end
end
end Go.Proofs.YtienkkicehmchaaGreatDoor
