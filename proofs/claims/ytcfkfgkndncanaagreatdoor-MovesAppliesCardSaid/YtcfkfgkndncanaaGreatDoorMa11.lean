/- Texts of this claim, merged by a program of this claim: FRead. -/
import Derived.Test.YtcfkfgkndncanaaGreatDoorMa10
import Derived.Test.YtcfkfgkndncanaaGreatDoorMa7
import Derived.Test.YtcfkfgkndncanaaGreatDoorMa8
namespace Go.Proofs.YtcfkfgkndncanaaGreatDoor
set_option linter.unusedVariables false
set_option linter.unusedSimpArgs false
section
open Go.RowKit
set_option maxRecDepth 100000
set_option maxHeartbeats 4000000
abbrev rdr (d:List Int) (a:Nat) (e:Int):KB:=.box [.vec (.int .u8) d,.int .i64 a,.int .i64 e]
abbrev juS (d:List Int):List CV:=[.vec (.int .u8) d]
abbrev juT (d:List Int):KH:=[]
abbrev juU (d:List Int):Prop×Res×KH:=(d.length≤1000000,.ret (.ptr 0 0 0),[rdr d 0 0])
noncomputable def msp_wnew:MSpec:=jcH (α:=(List Int)) (fun d=>(juS d,juT d)) fun d=>juU d
theorem ja2 (d:List Int):msp_wnew (juS d) (juT d)=some (juU d):=jbn _ injM d
theorem jzD:MutF Tryz.prog E0 26 msp_wnew:=MutF.of fun d hG=>TF.intro (V:=(VV [] GOk.nil 7 0)) jmq rfl rfl (by
 dsimp only[juS,juT,juU]at hG ⊢
 have hl:=hG
 repeat' first|simp only[SA,MB,seval,rdB]|refine tT ?_|refine And.intro ?_ ?_|exact tC|(refine tI ?_;intro hyp)|intro hyp0|omega
 exact Cos.intro [1] [0] rfl (by (simp only[SA,MB,seval,rdB]<;>exact tE)))
abbrev jqf (d:List Int) (a:Nat) (e:Int):List CV:=[.ptr 0 0 0]
abbrev jqg (d:List Int) (a:Nat) (e:Int):KH:=[rdr d a e]
abbrev jqh (d:List Int) (a:Nat) (e:Int):Prop×Res×KH:=(a≤d.length∧d.length≤1000000,.ret (.int .i64 ((d.length:Int)-a)),[rdr d a e])
noncomputable def msp_wleft:MSpec:=jcH (α:=(List Int)×Nat×Int) (fun⟨d,a,e⟩=>(jqf d a e,jqg d a e)) fun⟨d,a,e⟩=>jqh d a e
theorem jaY (d:List Int) (a:Nat) (e:Int):msp_wleft (jqf d a e) (jqg d a e)=some (jqh d a e):=jbn _ injM (d,a,e)
theorem jxN:MutF Tryz.prog E0 27 msp_wleft:=MutF.of fun⟨d,a,e⟩ hG=>TF.intro (V:=(VV [] GOk.nil 15 1)) jeL rfl rfl (by
 dsimp only[jqf,jqg,jqh]at hG ⊢
 obtain⟨h1,h2⟩:=hG
 repeat' first|simp only[SA,MB,seval,rdB]|refine tT ?_|refine Cos.intro [0] [] rfl ?_|refine And.intro ?_ ?_|exact tC|(refine tI ?_;intro hyp)|intro hyp0|omega)
abbrev juV (d:List Int) (a:Nat) (e:Int):List CV:=[.ptr 0 0 0]
abbrev juW (d:List Int) (a:Nat) (e:Int):KH:=[rdr d a e]
abbrev juX (d:List Int) (a:Nat) (e:Int):Prop×Res×KH:=(True,.ret (.int .i64 e),[rdr d a e])
noncomputable def msp_werr:MSpec:=jcH (α:=(List Int)×Nat×Int) (fun⟨d,a,e⟩=>(juV d a e,juW d a e)) fun⟨d,a,e⟩=>juX d a e
theorem jdw (d:List Int) (a:Nat) (e:Int):msp_werr (juV d a e) (juW d a e)=some (juX d a e):=jbn _ injM (d,a,e)
theorem jqi:MutF Tryz.prog E0 101 msp_werr:=MutF.of fun⟨d,a,e⟩ hG=>TF.intro (V:=(VV [] GOk.nil 9 1)) jcS rfl rfl (by
 dsimp only[juV,juW,juX]at hG ⊢
 repeat' first|simp only[SA,MB,seval,rdB]|refine tT ?_|refine Cos.intro [0] [] rfl ?_|refine And.intro ?_ ?_|exact tC|(refine tI ?_;intro hyp)|intro hyp0|omega)
abbrev jqj (d:List Int) (a:Nat):List CV:=[.ptr 0 0 0,.int .i64 1]
abbrev jqk (d:List Int) (a:Nat):KH:=[rdr d a 0]
abbrev jql (d:List Int) (a:Nat):Prop×Res×KH:=(a<d.length∧d.length≤1000000∧Bts d,.ret (.int .u64 (d.getD a 0)),[rdr d (a+1) 0])
noncomputable def msp_wnum1:MSpec:=jcH (α:=(List Int)×Nat) (fun⟨d,a⟩=>(jqj d a,jqk d a)) fun⟨d,a⟩=>jql d a
theorem jaZ (d:List Int) (a:Nat):msp_wnum1 (jqj d a) (jqk d a)=some (jql d a):=jbn _ injM (d,a)
theorem jxO:MutF Tryz.prog E0 28 msp_wnum1:=MutF.of fun⟨d,a⟩ hG=>TF.intro (V:=(VV [] GOk.nil 68 1)) jfc rfl rfl (by
 dsimp only[jqj,jqk,jql]at hG ⊢
 obtain⟨h1,h2,h3⟩:=hG
 have hb:=h3 _ (jed (d:=0) h1)
 repeat' first|simp only[SA,MB,seval,rdB]|simp only[hw]|simp only[hw2]|simp only[hw3]|refine tT ?_|refine Cos.intro [0] [] rfl ?_|refine And.intro ?_ ?_|exact tC|(refine tI ?_;intro hyp)|intro hyp0|omega
 refine T.unroll 2 ?_
 simp only[TR]
 have hw:IntKind.u64.wrap 0=0:=rfl
 have hw2:((0 ||| (d.getD a 0).toNat:Nat):Int)=d.getD a 0:=by
  rw[Nat.zero_or]
  omega
 have hbits:(8:Int)≤(IntKind.u64.bits:Int):=Int.ofNat_le.2 (show 8≤64 by omega)
 have hw3:=eq_true hbits
 repeat' first|simp only[SA,MB,seval,rdB]|simp only[hw]|simp only[hw2]|simp only[hw3]|refine tT ?_|refine Cos.intro [0] [] rfl ?_|refine And.intro ?_ ?_|exact tC|(refine tI ?_;intro hyp)|intro hyp0|omega)
theorem jAR {n m:Int}{i:Nat}(h0:0≤n) (h1:n<2 ^ i) (h2:0≤m):((n.toNat ||| (m*2 ^ i).toNat:Nat):Int)=n+m*2 ^ i:=by
 obtain⟨x,rfl⟩:∃x:Nat,n=x:=⟨n.toNat,by omega⟩
 obtain⟨y,rfl⟩:∃y:Nat,m=y:=⟨m.toNat,by omega⟩
 have e:((y:Int)*2 ^ i)=((y*2 ^ i:Nat):Int):=by simp
 rw[e,Int.toNat_natCast,Int.toNat_natCast,Nat.or_comm,←Nat.shiftLeft_eq,←Nat.shiftLeft_add_eq_or_of_lt (by
  have:((x:Int)<((2 ^ i:Nat):Int)):=by simpa using h1
  omega),Nat.shiftLeft_eq]
 omega
theorem jAS {b:Int}(h0:0≤b):((b.toNat &&& 127:Nat):Int)=b % 128:=by
 have:=Nat.and_two_pow_sub_one_eq_mod b.toNat 7
 simp only[show (2:Nat) ^ 7-1=127 from rfl,show (2:Nat) ^ 7=128 from rfl]at this
 rw[this]
 omega
theorem jdY {n:Int}(h0:0≤n) (h1:n<18446744073709551616):IntKind.u64.wrap n=n:=jmb ⟨h0,by omega⟩
abbrev juY (d:List Int) (a:Nat):List CV:=[.ptr 0 0 0]
abbrev juZ (d:List Int) (a:Nat):KH:=[rdr d a 0]
abbrev ju0 (d:List Int) (a:Nat):Prop×Res×KH:=(a≤d.length∧d.length≤1000000∧Bts d,.ret (.int .u64 (varV d a)),[rdr d (a+varU d a) (varE d a)])
noncomputable def msp_wvar:MSpec:=jcH (α:=(List Int)×Nat) (fun⟨d,a⟩=>(juY d a,juZ d a)) fun⟨d,a⟩=>ju0 d a
theorem jaX (d:List Int) (a:Nat):msp_wvar (juY d a) (juZ d a)=some (ju0 d a):=jbn _ injM (d,a)
theorem jkT:MutF Tryz.prog E0 60 msp_wvar:=MutF.of fun⟨d,a⟩ hG=>TF.intro (V:=(VV [] GOk.nil 82 1)) jb4 rfl rfl (by
 dsimp only[juY,juZ,ju0]at hG ⊢
 obtain⟨h1,h2,h3⟩:=hG
 repeat' first|simp only[SA,MB,seval,rdB]|simp only[hw]|simp only[hw2]|simp only[hw3]|refine tT ?_|refine And.intro ?_ ?_|exact tC|(refine tI ?_;intro hyp)|intro hyp0|omega
 refine T.loop (fun x:Nat×Int=>⟨[(0,.ptr 0 0 0),(3,.int .u64 x.2),(4,.int .i64 x.1)],[rdr d a 0]⟩) (fun x=>x.1≤9∧(0≤x.2∧x.2<2 ^ (7*x.1))∧a+x.1≤d.length∧varG (d.drop (a+x.1)) x.1 x.2=varG (d.drop a) 0 0) (fun x=>10-x.1) (0,0) ⟨by omega,by simp,by omega,rfl⟩ (Cos.intro [0] [] rfl (by (simp only[SA,MB,seval,rdB]<;>exact tE))) (fun⟨i,n⟩ ⟨hi,⟨hn0,hn1⟩,hal,hv⟩=>?_)
 dsimp only at hi hn0 hn1 hal hv ⊢
 have hbits:IntKind.u64.bits=64:=rfl
 by_cases hend:a+i<d.length
 ·have hb:=h3 _ (jed (d:=0) hend)
  have hcons:d.drop (a+i)=d.getD (a+i) 0::d.drop (a+(i+1)):=by
   rw[List.drop_eq_getElem_cons hend,List.getD_eq_getElem?_getD,List.getElem?_eq_getElem hend]
   rfl
  rw[hcons]at hv
  simp only[varG]at hv
  generalize hbd:d.getD (a+i) 0=b at hb hv
  have hM:(¬(i:Int)=9∨¬1<b)→(0≤b % 128*2 ^ (7*i)∧b % 128*2 ^ (7*i)<18446744073709551616)∧n+b % 128*2 ^ (7*i)<18446744073709551616∧n<18446744073709551616:=fun h=>by
   have hi2:i=0∨i=1∨i=2∨i=3∨i=4∨i=5∨i=6∨i=7∨i=8∨i=9:=by omega
   rcases hi2 with rfl|rfl|rfl|rfl|rfl|rfl|rfl|rfl|rfl|rfl<;>simp at hn1 h ⊢<;>omega
  have hw2:=And.intro hbd (And.intro (show ((a:Int)+i).toNat=a+i by omega) (And.intro (jAS hb.1) (And.intro (show IntKind.u64.wrap (7*(i:Int))=7*i from jdY (by omega) (by omega)) (show ((7:Int)*(i:Int)).toNat=7*i by omega))))
  by_cases hbad:((i:Int)=9∧1<b)∨(0<(i:Int)∧b=0)
  ·have e:varG (d.drop a) 0 0=(3,0,0):=by rw[←hv,if_pos (by omega)]
   have hw:=And.intro (show ((i:Int)=9∧1<b∨0<(i:Int)∧b=0)=True from eq_true hbad) e
   repeat' first|exfalso;omega|simp only[SA,MB,seval,rdB]|simp only[hw]|simp only[hw2]|simp only[hw3]|refine tT ?_|refine And.intro ?_ ?_|exact tC|(refine tI ?_;intro hyp)|intro hyp0|omega
   exact Cos.intro [0] [] rfl (by simp only[varE,varV,varU,e];(simp only[SA,MB,seval,rdB]<;>exact tE))
  ·have hm:=hM (by omega)
   have hw:=jdY hm.1.1 hm.1.2
   have hO:=jAR hn0 hn1 (show 0≤b % 128 by omega)
   have hw3:=hO
   repeat' first|simp only[SA,MB,seval,rdB]|simp only[hw]|simp only[hw2]|simp only[hw3]|refine tT ?_|refine And.intro ?_ ?_|exact tC|(refine tI ?_;intro hyp)|intro hyp0|omega
   ·have e:varG (d.drop a) 0 0=(0,n+b*2 ^ (7*i),i+1):=by rw[←hv,if_neg (by omega),if_pos hyp]
    rw[show b % 128=b by omega]
    exact Cos.intro [0] [] rfl (by simp only[varE,varV,varU,e];(simp only[SA,MB,seval,rdB]<;>exact tE))
   ·rw[if_neg (by omega),if_neg hyp]at hv
    have hq:i≤8:=by omega
    refine⟨(i+1,n+(b-128)*2 ^ (7*i)),⟨by simp only;omega,?_,by simp only;omega,hv⟩,by simp only;omega,Cos.intro [0] [] rfl (by rw[show b % 128=b-128 by omega];(simp only[SA,MB,seval,rdB]<;>exact tE))⟩
    have hi2:i=0∨i=1∨i=2∨i=3∨i=4∨i=5∨i=6∨i=7∨i=8:=by omega
    rcases hi2 with rfl|rfl|rfl|rfl|rfl|rfl|rfl|rfl|rfl<;>simp at hn1 ⊢<;>omega
 ·have hnil:d.drop (a+i)=[]:=List.drop_of_length_le (by omega)
  rw[hnil]at hv
  repeat' first|simp only[SA,MB,seval,rdB]|simp only[hw]|simp only[hw2]|simp only[hw3]|refine tT ?_|refine And.intro ?_ ?_|exact tC|(refine tI ?_;intro hyp)|intro hyp0|omega
  have:varG (d.drop a) 0 0=(2,0,0):=by rw[←hv];rfl
  exact Cos.intro [0] [] rfl (by simp only[varE,varV,varU,this];(simp only[SA,MB,seval,rdB]<;>exact tE)))
abbrev jqm (d:List Int) (a:Nat) (n:Int):List CV:=[.ptr 0 0 0,.int .i64 n]
abbrev jqn (d:List Int) (a:Nat) (n:Int):KH:=[rdr d a 0]
abbrev jqo (d:List Int) (a:Nat) (n:Int):Prop×Res×KH:=((0≤n∧a+n≤d.length)∧d.length≤1000000,.ret (.vec (.int .u8) ((d.drop a).take n.toNat)),[rdr d (a+n.toNat) 0])
noncomputable def msp_wtake:MSpec:=jcH (α:=(List Int)×Nat×Int) (fun⟨d,a,n⟩=>(jqm d a n,jqn d a n)) fun⟨d,a,n⟩=>jqo d a n
theorem jcs (d:List Int) (a:Nat) (n:Int):msp_wtake (jqm d a n) (jqn d a n)=some (jqo d a n):=jbn _ injM (d,a,n)
theorem jxP:MutF Tryz.prog E0 102 msp_wtake:=MutF.of fun⟨d,a,n⟩ hG=>TF.intro (V:=(VV [] GOk.nil 63 1)) jeM rfl rfl (by
 dsimp only[jqm,jqn,jqo]at hG ⊢
 obtain⟨⟨h0,h1⟩,h2⟩:=hG
 obtain⟨m,rfl⟩:∃m:Nat,n=m:=⟨n.toNat,by omega⟩
 simp only[Int.toNat_natCast]
 have hl:((d.drop a).take m).length=m:=by simp;omega
 have hw:=hl
 repeat' first|simp only[SA,MB,seval,rdB]|simp only[hw]|refine tT ?_|refine And.intro ?_ ?_|exact tC|(refine tI ?_;intro hyp)|intro hyp0|omega
 refine Cos.intro [0] [1] rfl ?_
 simp only[SA,MB,seval,rdB]
 simp[hl,crs,crsL,ETy.cast_same,List.take_take])
abbrev jqp (d:List Int) (a:Nat) (most:Int):List CV:=[.ptr 0 0 0,.int .i64 most]
abbrev jqq (d:List Int) (a:Nat) (most:Int):KH:=[rdr d a 0]
abbrev jqr (d:List Int) (a:Nat) (most:Int):Prop×Res×KH:=(a≤d.length∧d.length≤1000000∧Bts d∧(0≤most∧most≤1000000),.ret (.vec (.int .u8) (jcM d a most)),[rdr d (a+jcU d a most) (jcB d a most)])
noncomputable def msp_wtext:MSpec:=jcH (α:=(List Int)×Nat×Int) (fun⟨d,a,most⟩=>(jqp d a most,jqq d a most)) fun⟨d,a,most⟩=>jqr d a most
theorem ja9 (d:List Int) (a:Nat) (most:Int):msp_wtext (jqp d a most) (jqq d a most)=some (jqr d a most):=jbn _ injM (d,a,most)
theorem jsm:MutF Tryz.prog E0 63 msp_wtext:=MutF.of fun⟨d,a,most⟩ hG=>TF.intro (V:=(VV [(60,conM msp_wvar),(102,conM msp_wtake)] (.cons (jaa jb4) (MutF.soundM jkT) (.cons (jaa jeM) (MutF.soundM jxP) GOk.nil)) 58 1)) jdj rfl rfl (by
 dsimp only[jqp,jqq,jqr]at hG ⊢
 obtain⟨h1,h2,h3,h4,h5⟩:=hG
 have hu:=jbS h1
 have hv:=jar h3 a
 have hwm:=jdY h4 (show most<18446744073709551616 by omega)
 have hwl:=jdY (show 0≤(d.length:Int)-(a+varU d a:Nat) by omega) (show (d.length:Int)-(a+varU d a:Nat)<18446744073709551616 by omega)
 have hsub:((d.length-(a+varU d a):Nat):Int)=(d.length:Int)-(a+varU d a:Nat):=by omega
 by_cases hE:varE d a=0
 ·have hw:=And.intro hE (And.intro hwm hwl)
  by_cases hlong:most<varV d a
  ·have e:jcB d a most=4:=by rw[jcB,if_neg (by simp[hE]),if_pos hlong]
   have hx:jcM d a most=[]∧jcU d a most=0:=by simp[jcM,jcU,e]
   repeat' first|exact h3 _ ‹_›|simp only[SA,MB,seval,rdB,jaX,jcs]|simp only[hw]|simp only[hw2]|refine tT ?_|refine And.intro ?_ ?_|exact tC|(refine tI ?_;intro hyp)|intro hyp0|omega
   exact Cos.intro [0] [] rfl (by rw[hx.1,hx.2,e];(simp only[SA,MB,seval,rdB,jaX,jcs]<;>exact tE))
  ·by_cases hshort:((d.length-(a+varU d a):Nat):Int)<varV d a
   ·have e:jcB d a most=2:=by rw[jcB,if_neg (by simp[hE]),if_neg hlong,if_pos hshort]
    have hx:jcM d a most=[]∧jcU d a most=0:=by simp[jcM,jcU,e]
    repeat' first|exact h3 _ ‹_›|simp only[SA,MB,seval,rdB,jaX,jcs]|simp only[hw]|simp only[hw2]|refine tT ?_|refine And.intro ?_ ?_|exact tC|(refine tI ?_;intro hyp)|intro hyp0|omega
    exact Cos.intro [0] [] rfl (by rw[hx.1,hx.2,e];(simp only[SA,MB,seval,rdB,jaX,jcs]<;>exact tE))
   ·have e:jcB d a most=0:=by rw[jcB,if_neg (by simp[hE]),if_neg hlong,if_neg hshort]
    have hx:jcM d a most=(d.drop (a+varU d a)).take (varV d a).toNat∧jcU d a most=varU d a+(varV d a).toNat:=by simp[jcM,jcU,e]
    have hw2:=jf0 (show -9223372036854775808≤varV d a∧varV d a≤9223372036854775807 by omega)
    repeat' first|exact h3 _ ‹_›|simp only[SA,MB,seval,rdB,jaX,jcs]|simp only[hw]|simp only[hw2]|refine tT ?_|refine And.intro ?_ ?_|exact tC|(refine tI ?_;intro hyp)|intro hyp0|omega
    exact Cos.intro [0] [] rfl (by rw[hx.1,hx.2,e];(simp only[SA,MB,seval,rdB,jaX,jcs]<;>exact tE))
 ·have e:jcB d a most=varE d a:=by rw[jcB,if_pos hE]
  have hx:jcM d a most=[]∧jcU d a most=0:=by simp[jcM,jcU,e,hE]
  repeat' first|exact h3 _ ‹_›|simp only[SA,MB,seval,rdB,jaX,jcs]|simp only[hw]|simp only[hw2]|refine tT ?_|refine And.intro ?_ ?_|exact tC|(refine tI ?_;intro hyp)|intro hyp0|omega
  exact Cos.intro [0] [] rfl (by rw[hx.1,hx.2,e];(simp only[SA,MB,seval,rdB,jaX,jcs]<;>exact tE)))
end
end Go.Proofs.YtcfkfgkndncanaaGreatDoor
