/- Texts of this claim, merged by a program of this claim: FRead. -/
import Derived.Test.YtcfkfgkndncanaaGreatDoorMs10
import Derived.Test.YtcfkfgkndncanaaGreatDoorMs7
import Derived.Test.YtcfkfgkndncanaaGreatDoorMs8
namespace Go.Proofs.YtcfkfgkndncanaaGreatDoor
set_option linter.unusedVariables false
set_option linter.unusedSimpArgs false
section
open Go.RowKit
set_option maxRecDepth 100000
set_option maxHeartbeats 4000000
abbrev rdr (d:List Int) (a:Nat) (e:Int):KB:=.box [.vec (.int .u8) d,.int .i64 a,.int .i64 e]
abbrev juV (d:List Int):List CV:=[.vec (.int .u8) d]
abbrev juW (d:List Int):KH:=[]
abbrev juX (d:List Int):Prop×Res×KH:=(d.length≤1000000,.ret (.ptr 0 0 0),[rdr d 0 0])
noncomputable def msp_wnew:MSpec:=jcS (α:=(List Int)) (fun d=>(juV d,juW d)) fun d=>juX d
theorem jbx (d:List Int):msp_wnew (juV d) (juW d)=some (juX d):=jbd _ injM d
theorem jAC:MutF Tryz.prog E0 26 msp_wnew:=MutF.of fun d hG=>TF.intro (V:=(VV [] GOk.nil 7 0)) jlU rfl rfl (by
 dsimp only[juV,juW,juX]at hG ⊢
 have hl:=hG
 repeat' first|simp only[SA,MB,seval,rdB]|refine tT ?_|refine And.intro ?_ ?_|exact tC|(refine tI ?_;intro hyp)|intro hyp0|omega
 exact Cos.intro [1] [0] rfl (by (simp only[SA,MB,seval,rdB]<;>exact tE)))
abbrev jpJ (d:List Int) (a:Nat) (e:Int):List CV:=[.ptr 0 0 0]
abbrev jpK (d:List Int) (a:Nat) (e:Int):KH:=[rdr d a e]
abbrev jpL (d:List Int) (a:Nat) (e:Int):Prop×Res×KH:=(a≤d.length∧d.length≤1000000,.ret (.int .i64 ((d.length:Int)-a)),[rdr d a e])
noncomputable def msp_wleft:MSpec:=jcS (α:=(List Int)×Nat×Int) (fun⟨d,a,e⟩=>(jpJ d a e,jpK d a e)) fun⟨d,a,e⟩=>jpL d a e
theorem jbh (d:List Int) (a:Nat) (e:Int):msp_wleft (jpJ d a e) (jpK d a e)=some (jpL d a e):=jbd _ injM (d,a,e)
theorem jyl:MutF Tryz.prog E0 27 msp_wleft:=MutF.of fun⟨d,a,e⟩ hG=>TF.intro (V:=(VV [] GOk.nil 15 1)) jeR rfl rfl (by
 dsimp only[jpJ,jpK,jpL]at hG ⊢
 obtain⟨h1,h2⟩:=hG
 repeat' first|simp only[SA,MB,seval,rdB]|refine tT ?_|refine Cos.intro [0] [] rfl ?_|refine And.intro ?_ ?_|exact tC|(refine tI ?_;intro hyp)|intro hyp0|omega)
abbrev juY (d:List Int) (a:Nat) (e:Int):List CV:=[.ptr 0 0 0]
abbrev juZ (d:List Int) (a:Nat) (e:Int):KH:=[rdr d a e]
abbrev ju0 (d:List Int) (a:Nat) (e:Int):Prop×Res×KH:=(True,.ret (.int .i64 e),[rdr d a e])
noncomputable def msp_werr:MSpec:=jcS (α:=(List Int)×Nat×Int) (fun⟨d,a,e⟩=>(juY d a e,juZ d a e)) fun⟨d,a,e⟩=>ju0 d a e
theorem jfJ (d:List Int) (a:Nat) (e:Int):msp_werr (juY d a e) (juZ d a e)=some (ju0 d a e):=jbd _ injM (d,a,e)
theorem ju1:MutF Tryz.prog E0 101 msp_werr:=MutF.of fun⟨d,a,e⟩ hG=>TF.intro (V:=(VV [] GOk.nil 9 1)) jdq rfl rfl (by
 dsimp only[juY,juZ,ju0]at hG ⊢
 repeat' first|simp only[SA,MB,seval,rdB]|refine tT ?_|refine Cos.intro [0] [] rfl ?_|refine And.intro ?_ ?_|exact tC|(refine tI ?_;intro hyp)|intro hyp0|omega)
abbrev jpM (d:List Int) (a:Nat):List CV:=[.ptr 0 0 0,.int .i64 1]
abbrev jpN (d:List Int) (a:Nat):KH:=[rdr d a 0]
abbrev jpO (d:List Int) (a:Nat):Prop×Res×KH:=(a<d.length∧d.length≤1000000∧Bts d,.ret (.int .u64 (d.getD a 0)),[rdr d (a+1) 0])
noncomputable def msp_wnum1:MSpec:=jcS (α:=(List Int)×Nat) (fun⟨d,a⟩=>(jpM d a,jpN d a)) fun⟨d,a⟩=>jpO d a
theorem jbi (d:List Int) (a:Nat):msp_wnum1 (jpM d a) (jpN d a)=some (jpO d a):=jbd _ injM (d,a)
theorem jym:MutF Tryz.prog E0 28 msp_wnum1:=MutF.of fun⟨d,a⟩ hG=>TF.intro (V:=(VV [] GOk.nil 68 1)) jfh rfl rfl (by
 dsimp only[jpM,jpN,jpO]at hG ⊢
 obtain⟨h1,h2,h3⟩:=hG
 have hb:=h3 _ (jhL (d:=0) h1)
 repeat' first|simp only[SA,MB,seval,rdB]|simp only[hw]|simp only[hw2]|simp only[hw3]|refine tT ?_|refine Cos.intro [0] [] rfl ?_|refine And.intro ?_ ?_|exact tC|(refine tI ?_;intro hyp)|intro hyp0|omega
 refine T.unroll 2 ?_
 simp only[TR]
 have hw:IntKind.u64.wrap 0=0:=rfl
 have hw2:((0 ||| (d.getD a 0).toNat:Nat):Int)=d.getD a 0:=by
  rw[Nat.zero_or]
  omega
 have hbits:(8:Int)≤(IntKind.u64.bits:Int):=Int.ofNat_le.2 (show 8≤64 by omega)
 have hw3:=eq_true hbits
 repeat' first|simp only[SA,MB,seval,rdB]|simp only[hw]|simp only[hw2]|simp only[hw3]|refine tT ?_|refine Cos.intro [0] [] rfl ?_|refine And.intro ?_ ?_|exact tC|(refine tI ?_;intro hyp)|intro hyp0|omega)
theorem jB7 {n m:Int}{i:Nat}(h0:0≤n) (h1:n<2 ^ i) (h2:0≤m):((n.toNat ||| (m*2 ^ i).toNat:Nat):Int)=n+m*2 ^ i:=by
 obtain⟨x,rfl⟩:∃x:Nat,n=x:=⟨n.toNat,by omega⟩
 obtain⟨y,rfl⟩:∃y:Nat,m=y:=⟨m.toNat,by omega⟩
 have e:((y:Int)*2 ^ i)=((y*2 ^ i:Nat):Int):=by simp
 rw[e,Int.toNat_natCast,Int.toNat_natCast,Nat.or_comm,←Nat.shiftLeft_eq,←Nat.shiftLeft_add_eq_or_of_lt (by
  have:((x:Int)<((2 ^ i:Nat):Int)):=by simpa using h1
  omega),Nat.shiftLeft_eq]
 omega
theorem jB8 {b:Int}(h0:0≤b):((b.toNat &&& 127:Nat):Int)=b % 128:=by
 have:=Nat.and_two_pow_sub_one_eq_mod b.toNat 7
 simp only[show (2:Nat) ^ 7-1=127 from rfl,show (2:Nat) ^ 7=128 from rfl]at this
 rw[this]
 omega
theorem jin {n:Int}(h0:0≤n) (h1:n<18446744073709551616):IntKind.u64.wrap n=n:=jpz ⟨h0,by omega⟩
abbrev ju2 (d:List Int) (a:Nat):List CV:=[.ptr 0 0 0]
abbrev ju3 (d:List Int) (a:Nat):KH:=[rdr d a 0]
abbrev ju4 (d:List Int) (a:Nat):Prop×Res×KH:=(a≤d.length∧d.length≤1000000∧Bts d,.ret (.int .u64 (varV d a)),[rdr d (a+varU d a) (varE d a)])
noncomputable def msp_wvar:MSpec:=jcS (α:=(List Int)×Nat) (fun⟨d,a⟩=>(ju2 d a,ju3 d a)) fun⟨d,a⟩=>ju4 d a
theorem jao (d:List Int) (a:Nat):msp_wvar (ju2 d a) (ju3 d a)=some (ju4 d a):=jbd _ injM (d,a)
theorem jm6:MutF Tryz.prog E0 60 msp_wvar:=MutF.of fun⟨d,a⟩ hG=>TF.intro (V:=(VV [] GOk.nil 82 1)) jb1 rfl rfl (by
 dsimp only[ju2,ju3,ju4]at hG ⊢
 obtain⟨h1,h2,h3⟩:=hG
 repeat' first|simp only[SA,MB,seval,rdB]|simp only[hw]|simp only[hw2]|simp only[hw3]|refine tT ?_|refine And.intro ?_ ?_|exact tC|(refine tI ?_;intro hyp)|intro hyp0|omega
 refine T.loop (fun x:Nat×Int=>⟨[(0,.ptr 0 0 0),(3,.int .u64 x.2),(4,.int .i64 x.1)],[rdr d a 0]⟩) (fun x=>x.1≤9∧(0≤x.2∧x.2<2 ^ (7*x.1))∧a+x.1≤d.length∧varG (d.drop (a+x.1)) x.1 x.2=varG (d.drop a) 0 0) (fun x=>10-x.1) (0,0) ⟨by omega,by simp,by omega,rfl⟩ (Cos.intro [0] [] rfl (by (simp only[SA,MB,seval,rdB]<;>exact tE))) (fun⟨i,n⟩ ⟨hi,⟨hn0,hn1⟩,hal,hv⟩=>?_)
 dsimp only at hi hn0 hn1 hal hv ⊢
 have hbits:IntKind.u64.bits=64:=rfl
 by_cases hend:a+i<d.length
 ·have hb:=h3 _ (jhL (d:=0) hend)
  have hcons:d.drop (a+i)=d.getD (a+i) 0::d.drop (a+(i+1)):=by
   rw[List.drop_eq_getElem_cons hend,List.getD_eq_getElem?_getD,List.getElem?_eq_getElem hend]
   rfl
  rw[hcons]at hv
  simp only[varG]at hv
  generalize hbd:d.getD (a+i) 0=b at hb hv
  have hM:(¬(i:Int)=9∨¬1<b)→(0≤b % 128*2 ^ (7*i)∧b % 128*2 ^ (7*i)<18446744073709551616)∧n+b % 128*2 ^ (7*i)<18446744073709551616∧n<18446744073709551616:=fun h=>by
   have hi2:i=0∨i=1∨i=2∨i=3∨i=4∨i=5∨i=6∨i=7∨i=8∨i=9:=by omega
   rcases hi2 with rfl|rfl|rfl|rfl|rfl|rfl|rfl|rfl|rfl|rfl<;>simp at hn1 h ⊢<;>omega
  have hw2:=And.intro hbd (And.intro (show ((a:Int)+i).toNat=a+i by omega) (And.intro (jB8 hb.1) (And.intro (show IntKind.u64.wrap (7*(i:Int))=7*i from jin (by omega) (by omega)) (show ((7:Int)*(i:Int)).toNat=7*i by omega))))
  by_cases hbad:((i:Int)=9∧1<b)∨(0<(i:Int)∧b=0)
  ·have e:varG (d.drop a) 0 0=(3,0,0):=by rw[←hv,if_pos (by omega)]
   have hw:=And.intro (show ((i:Int)=9∧1<b∨0<(i:Int)∧b=0)=True from eq_true hbad) e
   repeat' first|exfalso;omega|simp only[SA,MB,seval,rdB]|simp only[hw]|simp only[hw2]|simp only[hw3]|refine tT ?_|refine And.intro ?_ ?_|exact tC|(refine tI ?_;intro hyp)|intro hyp0|omega
   exact Cos.intro [0] [] rfl (by simp only[varE,varV,varU,e];(simp only[SA,MB,seval,rdB]<;>exact tE))
  ·have hm:=hM (by omega)
   have hw:=jin hm.1.1 hm.1.2
   have hO:=jB7 hn0 hn1 (show 0≤b % 128 by omega)
   have hw3:=hO
   repeat' first|simp only[SA,MB,seval,rdB]|simp only[hw]|simp only[hw2]|simp only[hw3]|refine tT ?_|refine And.intro ?_ ?_|exact tC|(refine tI ?_;intro hyp)|intro hyp0|omega
   ·have e:varG (d.drop a) 0 0=(0,n+b*2 ^ (7*i),i+1):=by rw[←hv,if_neg (by omega),if_pos hyp]
    rw[show b % 128=b by omega]
    exact Cos.intro [0] [] rfl (by simp only[varE,varV,varU,e];(simp only[SA,MB,seval,rdB]<;>exact tE))
   ·rw[if_neg (by omega),if_neg hyp]at hv
    have hq:i≤8:=by omega
    refine⟨(i+1,n+(b-128)*2 ^ (7*i)),⟨by simp only;omega,?_,by simp only;omega,hv⟩,by simp only;omega,Cos.intro [0] [] rfl (by rw[show b % 128=b-128 by omega];(simp only[SA,MB,seval,rdB]<;>exact tE))⟩
    have hi2:i=0∨i=1∨i=2∨i=3∨i=4∨i=5∨i=6∨i=7∨i=8:=by omega
    rcases hi2 with rfl|rfl|rfl|rfl|rfl|rfl|rfl|rfl|rfl<;>simp at hn1 ⊢<;>omega
 ·have hnil:d.drop (a+i)=[]:=List.drop_of_length_le (by omega)
  rw[hnil]at hv
  repeat' first|simp only[SA,MB,seval,rdB]|simp only[hw]|simp only[hw2]|simp only[hw3]|refine tT ?_|refine And.intro ?_ ?_|exact tC|(refine tI ?_;intro hyp)|intro hyp0|omega
  have:varG (d.drop a) 0 0=(2,0,0):=by rw[←hv];rfl
  exact Cos.intro [0] [] rfl (by simp only[varE,varV,varU,this];(simp only[SA,MB,seval,rdB]<;>exact tE)))
abbrev jpP (d:List Int) (a:Nat) (n:Int):List CV:=[.ptr 0 0 0,.int .i64 n]
abbrev jpQ (d:List Int) (a:Nat) (n:Int):KH:=[rdr d a 0]
abbrev jpR (d:List Int) (a:Nat) (n:Int):Prop×Res×KH:=((0≤n∧a+n≤d.length)∧d.length≤1000000,.ret (.vec (.int .u8) ((d.drop a).take n.toNat)),[rdr d (a+n.toNat) 0])
noncomputable def msp_wtake:MSpec:=jcS (α:=(List Int)×Nat×Int) (fun⟨d,a,n⟩=>(jpP d a n,jpQ d a n)) fun⟨d,a,n⟩=>jpR d a n
theorem jb7 (d:List Int) (a:Nat) (n:Int):msp_wtake (jpP d a n) (jpQ d a n)=some (jpR d a n):=jbd _ injM (d,a,n)
theorem jyn:MutF Tryz.prog E0 102 msp_wtake:=MutF.of fun⟨d,a,n⟩ hG=>TF.intro (V:=(VV [] GOk.nil 63 1)) jeS rfl rfl (by
 dsimp only[jpP,jpQ,jpR]at hG ⊢
 obtain⟨⟨h0,h1⟩,h2⟩:=hG
 obtain⟨m,rfl⟩:∃m:Nat,n=m:=⟨n.toNat,by omega⟩
 simp only[Int.toNat_natCast]
 have hl:((d.drop a).take m).length=m:=by simp;omega
 have hw:=hl
 repeat' first|simp only[SA,MB,seval,rdB]|simp only[hw]|refine tT ?_|refine And.intro ?_ ?_|exact tC|(refine tI ?_;intro hyp)|intro hyp0|omega
 refine Cos.intro [0] [1] rfl ?_
 simp only[SA,MB,seval,rdB]
 simp[hl,crs,crsL,ETy.cast_same,List.take_take])
abbrev jpS (d:List Int) (a:Nat) (most:Int):List CV:=[.ptr 0 0 0,.int .i64 most]
abbrev jpT (d:List Int) (a:Nat) (most:Int):KH:=[rdr d a 0]
abbrev jpU (d:List Int) (a:Nat) (most:Int):Prop×Res×KH:=(a≤d.length∧d.length≤1000000∧Bts d∧(0≤most∧most≤1000000),.ret (.vec (.int .u8) (je2 d a most)),[rdr d (a+je3 d a most) (jd0 d a most)])
noncomputable def msp_wtext:MSpec:=jcS (α:=(List Int)×Nat×Int) (fun⟨d,a,most⟩=>(jpS d a most,jpT d a most)) fun⟨d,a,most⟩=>jpU d a most
theorem jap (d:List Int) (a:Nat) (most:Int):msp_wtext (jpS d a most) (jpT d a most)=some (jpU d a most):=jbd _ injM (d,a,most)
theorem jr5:MutF Tryz.prog E0 63 msp_wtext:=MutF.of fun⟨d,a,most⟩ hG=>TF.intro (V:=(VV [(60,conM msp_wvar),(102,conM msp_wtake)] (.cons (jaa jb1) (MutF.soundM jm6) (.cons (jaa jeS) (MutF.soundM jyn) GOk.nil)) 58 1)) jdc rfl rfl (by
 dsimp only[jpS,jpT,jpU]at hG ⊢
 obtain⟨h1,h2,h3,h4,h5⟩:=hG
 have hu:=jbz h1
 have hv:=jaO h3 a
 have hwm:=jin h4 (show most<18446744073709551616 by omega)
 have hwl:=jin (show 0≤(d.length:Int)-(a+varU d a:Nat) by omega) (show (d.length:Int)-(a+varU d a:Nat)<18446744073709551616 by omega)
 have hsub:((d.length-(a+varU d a):Nat):Int)=(d.length:Int)-(a+varU d a:Nat):=by omega
 by_cases hE:varE d a=0
 ·have hw:=And.intro hE (And.intro hwm hwl)
  by_cases hlong:most<varV d a
  ·have e:jd0 d a most=4:=by rw[jd0,if_neg (by simp[hE]),if_pos hlong]
   have hx:je2 d a most=[]∧je3 d a most=0:=by simp[je2,je3,e]
   repeat' first|exact h3 _ ‹_›|simp only[SA,MB,seval,rdB,jao,jb7]|simp only[hw]|simp only[hw2]|refine tT ?_|refine And.intro ?_ ?_|exact tC|(refine tI ?_;intro hyp)|intro hyp0|omega
   exact Cos.intro [0] [] rfl (by rw[hx.1,hx.2,e];(simp only[SA,MB,seval,rdB,jao,jb7]<;>exact tE))
  ·by_cases hshort:((d.length-(a+varU d a):Nat):Int)<varV d a
   ·have e:jd0 d a most=2:=by rw[jd0,if_neg (by simp[hE]),if_neg hlong,if_pos hshort]
    have hx:je2 d a most=[]∧je3 d a most=0:=by simp[je2,je3,e]
    repeat' first|exact h3 _ ‹_›|simp only[SA,MB,seval,rdB,jao,jb7]|simp only[hw]|simp only[hw2]|refine tT ?_|refine And.intro ?_ ?_|exact tC|(refine tI ?_;intro hyp)|intro hyp0|omega
    exact Cos.intro [0] [] rfl (by rw[hx.1,hx.2,e];(simp only[SA,MB,seval,rdB,jao,jb7]<;>exact tE))
   ·have e:jd0 d a most=0:=by rw[jd0,if_neg (by simp[hE]),if_neg hlong,if_neg hshort]
    have hx:je2 d a most=(d.drop (a+varU d a)).take (varV d a).toNat∧je3 d a most=varU d a+(varV d a).toNat:=by simp[je2,je3,e]
    have hw2:=jpA (show -9223372036854775808≤varV d a∧varV d a≤9223372036854775807 by omega)
    repeat' first|exact h3 _ ‹_›|simp only[SA,MB,seval,rdB,jao,jb7]|simp only[hw]|simp only[hw2]|refine tT ?_|refine And.intro ?_ ?_|exact tC|(refine tI ?_;intro hyp)|intro hyp0|omega
    exact Cos.intro [0] [] rfl (by rw[hx.1,hx.2,e];(simp only[SA,MB,seval,rdB,jao,jb7]<;>exact tE))
 ·have e:jd0 d a most=varE d a:=by rw[jd0,if_pos hE]
  have hx:je2 d a most=[]∧je3 d a most=0:=by simp[je2,je3,e,hE]
  repeat' first|exact h3 _ ‹_›|simp only[SA,MB,seval,rdB,jao,jb7]|simp only[hw]|simp only[hw2]|refine tT ?_|refine And.intro ?_ ?_|exact tC|(refine tI ?_;intro hyp)|intro hyp0|omega
  exact Cos.intro [0] [] rfl (by rw[hx.1,hx.2,e];(simp only[SA,MB,seval,rdB,jao,jb7]<;>exact tE)))
end
end Go.Proofs.YtcfkfgkndncanaaGreatDoor
