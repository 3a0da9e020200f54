/- Texts of this claim, merged by a program of this claim: FReadR. -/
import Derived.Test.YtcfkfgkndncanaaGreatDoorMa11
namespace Go.Proofs.YtcfkfgkndncanaaGreatDoor
set_option linter.unusedVariables false
set_option linter.unusedSimpArgs false
section
open Go.RowKit
set_option maxRecDepth 100000
set_option maxHeartbeats 4000000
abbrev jrC (d:List Int) (a:Nat) (e:Int):List CV:=[.agg [.vec (.int .u8) d,.int .i64 a,.int .i64 e]]
abbrev jrD (d:List Int) (a:Nat) (e:Int):Prop×Res:=(a≤d.length∧d.length≤1000000,.ret (.int .i64 ((d.length:Int)-a)))
noncomputable def sp_rleft:Spec:=spOf (α:=(List Int)×Nat×Int) (fun⟨d,a,e⟩=>jrC d a e) fun⟨d,a,e⟩=>jrD d a e
theorem jbc (d:List Int) (a:Nat) (e:Int):sp_rleft (jrC d a e)=some (jrD d a e):=jaq _ injS (d,a,e)
theorem jyq:Alias Tryz.prog E0 31 sp_rleft:=Alias.of fun⟨d,a,e⟩ hG=>TF.intro (V:=(VV [] GOk.nil 9 0)) jfd rfl rfl (by
 dsimp only[jrC,jrD]at hG ⊢
 obtain⟨h1,h2⟩:=hG
 repeat' first|simp only[SA,seval,rdB]|refine tT ?_|refine Cos.intro [] [] rfl ?_|refine And.intro ?_ ?_|exact tC|(refine tI ?_;intro hyp)|intro hyp0|omega)
theorem jyr:Fresh Tryz.prog E0 31 sp_rleft:=Alias.fresh jyq (fun x=>rfl)
def digs:List Int→Int
 | []=>0
 | b::r=>b % 128+128*digs r
theorem joC:∀{l:List Int},0≤digs l
 | []=>Int.le_refl _
 | b::l=>by
  have:=joC (l:=l)
  simp only[digs]
  omega
theorem jpO:∀(l:List Int) (j:Nat),digs (l.drop j)≤digs l
 | [],j=>by simp
 | b::l,0=>by simp
 | b::l,j+1=>by
  have:=jpO l j
  have h:=joC (l:=l)
  simp only[List.drop_succ_cons,digs]
  omega
theorem jpP:∀(r:List Int) (i:Nat) (n:Int),Bts r→(varG r i n).1=0→(varG r i n).2.1=n+digs (r.take ((varG r i n).2.2-i))*2 ^ (7*i)
 | [],i,n,_,h=>by simp[varG]at h
 | b::r,i,n,hb,h=>by
  have hb0:=hb b (by simp)
  by_cases h1:(i=9∧1<b)∨(0<i∧b=0)
  ·simp only[varG,if_pos h1]at h
   cases h
  ·by_cases h2:b<128
   ·simp only[varG,if_neg h1,if_pos h2,Nat.add_sub_cancel_left,List.take_succ_cons,List.take_zero,digs]
    rw[show b % 128=b by omega]
    simp
   ·simp only[varG,if_neg h1,if_neg h2]at h ⊢
    have ih:=jpP r (i+1) _ (fun x hx=>hb x (by simp[hx])) h
    have hg:=jpa r _ _ h
    rw[ih]
    obtain⟨m,hm⟩:∃m,(varG r (i+1) (n+(b-128)*2 ^ (7*i))).2.2=m+(i+1):=⟨(varG r (i+1) (n+(b-128)*2 ^ (7*i))).2.2-(i+1),by omega⟩
    rw[hm,show m+(i+1)-i=m+1 by omega,Nat.add_sub_cancel,List.take_succ_cons]
    simp only[digs]
    have hP:(2:Int) ^ (7*(i+1))=128*2 ^ (7*i):=by
     rw[show 7*(i+1)=7*i+7 by omega,Int.pow_add,Int.mul_comm]
     rfl
    rw[show b % 128=b-128 by omega,hP,Int.add_mul,Int.add_assoc,Int.mul_left_comm,Int.mul_assoc 128]
theorem jwU {d:List Int}{a:Nat}(hb:Bts d) (h:varE d a=0):varV d a=digs ((d.drop a).take (varU d a)):=by
 have:=jpP (d.drop a) 0 0 (jsa hb a) h
 simp only[Nat.mul_zero,Int.pow_zero,Int.mul_one,Int.zero_add,Nat.sub_zero]at this
 exact this
abbrev jrE (d:List Int) (a:Nat):List CV:=[.agg [.vec (.int .u8) d,.int .i64 a,.int .i64 0]]
abbrev jrF (d:List Int) (a:Nat):Prop×Res:=(a≤d.length∧d.length≤1000000∧Bts d,.ret (.tup [.int .u64 (varV d a),.agg [.vec (.int .u8) d,.int .i64 (a+varU d a:Nat),.int .i64 (varE d a)]]))
noncomputable def sp_rrvar:Spec:=spOf (α:=(List Int)×Nat) (fun⟨d,a⟩=>jrE d a) fun⟨d,a⟩=>jrF d a
theorem jaP (d:List Int) (a:Nat):sp_rrvar (jrE d a)=some (jrF d a):=jaq _ injS (d,a)
theorem jii:Alias Tryz.prog E0 68 sp_rrvar:=Alias.of fun⟨d,a⟩ hG=>TF.intro (V:=(VV [] GOk.nil 76 0)) jb8 rfl rfl (by
 dsimp only[jrE,jrF]at hG ⊢
 obtain⟨h1,h2,h3⟩:=hG
 have hvf:=jar h3 a
 repeat' first|simp only[SA,seval,rdB]|simp only[hw]|simp only[hw2]|refine tT ?_|refine And.intro ?_ ?_|exact tC|(refine tI ?_;intro hyp)|intro hyp0|omega
 refine T.loop (fun k:Nat=>⟨[(1,.ptr 0 0 0),(3,.ptr 1 0 0),(4,.int .i64 k)],[rdr d a 0,.box [.nils,.int .i64 0,.int .i64 0]]⟩) (fun k=>k≤9∧a+k≤d.length∧∃n,varG (d.drop (a+k)) k n=varG (d.drop a) 0 0) (fun k=>10-k) 0 ⟨by omega,by omega,0,rfl⟩ (Cos.intro [0,1] [] rfl (by (simp only[SA,seval,rdB]<;>exact tE))) (fun i ⟨hi,hal,n,hv⟩=>?_)
 by_cases hend:a+i<d.length
 ·have hb:=h3 _ (jed (d:=0) hend)
  have hcons:d.drop (a+i)=d.getD (a+i) 0::d.drop (a+(i+1)):=by
   rw[List.drop_eq_getElem_cons hend,List.getD_eq_getElem?_getD,List.getElem?_eq_getElem hend]
   rfl
  rw[hcons]at hv
  simp only[varG]at hv
  generalize hbd:d.getD (a+i) 0=b at hb hv
  have hw2:=And.intro hbd (show ((a:Int)+i).toNat=a+i by omega)
  by_cases hbad:((i:Int)=9∧1<b)∨(0<(i:Int)∧b=0)
  ·have e:varG (d.drop a) 0 0=(3,0,0):=by rw[←hv,if_pos (by omega)]
   have hw:=And.intro (show ((i:Int)=9∧1<b∨0<(i:Int)∧b=0)=True from eq_true hbad) e
   repeat' first|exfalso;omega|simp only[SA,seval,rdB]|simp only[hw]|simp only[hw2]|refine tT ?_|refine And.intro ?_ ?_|exact tC|(refine tI ?_;intro hyp)|intro hyp0|omega
   exact Cos.intro [] [0,1,2,3] rfl (by simp only[varE,varV,varU,e];(simp only[SA,seval,rdB]<;>exact tE))
  ·by_cases hb128:b<128
   ·have e:varG (d.drop a) 0 0=(0,n+b*2 ^ (7*i),i+1):=by rw[←hv,if_neg (by omega),if_pos hb128]
    have hE:varE d a=0:=by simp only[varE,e]
    have hU:varU d a=i+1:=by simp only[varU,e]
    have hd:=jwU h3 hE
    rw[hU]at hd
    repeat' first|simp only[SA,seval,rdB]|simp only[hw]|simp only[hw2]|refine tT ?_|refine And.intro ?_ ?_|exact tC|(refine tI ?_;intro hyp)|intro hyp0|omega
    generalize hl:(d.drop a).take (i+1)=l at hd
    have hll:l.length=i+1:=by rw[←hl];simp;omega
    have hlg:∀j,j<i+1→l.getD j 0=d.getD (a+j) 0:=fun j hj=>by
     rw[←hl,List.getD_eq_getElem?_getD,List.getElem?_take_of_lt hj,List.getElem?_drop,←List.getD_eq_getElem?_getD]
    refine T.loop (fun j:Nat=>⟨[(1,.ptr 0 0 0),(3,.ptr 1 0 0),(4,.int .i64 (i+1)),(6,.int .u64 (digs (l.drop j))),(7,.int .i64 ((j:Int)-1))],[rdr d a 0,.box [.nils,.int .i64 0,.int .i64 0]]⟩) (fun j=>j≤i+1) (fun j=>j) (i+1) (Nat.le_refl _) (Cos.intro [0,1] [] rfl (by rw[List.drop_of_length_le (by omega)];simp only[digs];(simp only[SA,seval,rdB]<;>exact tE))) (fun j hj=>?_)
    cases j with
    | zero =>
     repeat' first|simp only[SA,seval,rdB]|simp only[hw]|simp only[hw2]|refine tT ?_|refine And.intro ?_ ?_|exact tC|(refine tI ?_;intro hyp)|intro hyp0|omega
     exact Cos.intro [] [0,1,2,3] rfl (by simp only[hd,hU,hE,List.drop_zero];(simp only[SA,seval,rdB]<;>exact tE))
    | succ j =>
     have hgj:=hlg j (by omega)
     have hbj:=h3 _ (jed (d:=0) (show a+j<d.length by omega))
     have hdj:digs (l.drop j)=l.getD j 0 % 128+128*digs (l.drop (j+1)):=by
      rw[List.drop_eq_getElem_cons (by omega),digs,List.getD_eq_getElem?_getD,List.getElem?_eq_getElem (by omega)]
      rfl
     have hle:=jpO l j
     have hpos:=joC (l:=l.drop (j+1))
     rw[hgj]at hdj
     have hw:=And.intro (show ((a:Int)+(((j+1:Nat):Int)-1)).toNat=a+j by omega) (And.intro (jdY (n:=digs (l.drop (j+1))*128) (by omega) (by omega)) (show IntKind.u64.wrap (digs (l.drop (j+1))*128+d.getD (a+j) 0 % 128)=digs (l.drop j) by rw[jdY (by omega) (by omega)];omega))
     repeat' first|simp only[SA,seval,rdB]|simp only[hw]|simp only[hw2]|refine tT ?_|refine And.intro ?_ ?_|exact tC|(refine tI ?_;intro hyp)|intro hyp0|omega
     exact⟨j,by omega,by omega,Cos.intro [0,1] [] rfl (by rw[show (((j+1:Nat):Int)-1-1)=(j:Int)-1 by omega];(simp only[SA,seval,rdB]<;>exact tE))⟩
   ·repeat' first|simp only[SA,seval,rdB]|simp only[hw]|simp only[hw2]|refine tT ?_|refine And.intro ?_ ?_|exact tC|(refine tI ?_;intro hyp)|intro hyp0|omega
    rw[if_neg (by omega),if_neg hb128]at hv
    exact⟨i+1,⟨by omega,by omega,_,hv⟩,by omega,Cos.intro [0,1] [] rfl (by (simp only[SA,seval,rdB]<;>exact tE))⟩
 ·have hnil:d.drop (a+i)=[]:=List.drop_of_length_le (by omega)
  rw[hnil]at hv
  have e:varG (d.drop a) 0 0=(2,0,0):=by rw[←hv];rfl
  repeat' first|simp only[SA,seval,rdB]|simp only[hw]|simp only[hw2]|refine tT ?_|refine And.intro ?_ ?_|exact tC|(refine tI ?_;intro hyp)|intro hyp0|omega
  exact Cos.intro [] [0,1,2,3] rfl (by simp only[varE,varV,varU,e];(simp only[SA,seval,rdB]<;>exact tE)))
abbrev jrG (L:List Int):List CV:=[.vec (.int .u8) L]
abbrev jrH (L:List Int):Prop×Res:=(L.length≤1000000,.ret (.vec (.int .u8) L))
noncomputable def sp_bcopy:Spec:=spOf (α:=(List Int)) (fun L=>jrG L) fun L=>jrH L
theorem jbZ (L:List Int):sp_bcopy (jrG L)=some (jrH L):=jaq _ injS L
theorem jsP:Fresh Tryz.prog E0 10 sp_bcopy:=Fresh.of fun L hG=>TF.intro (V:=(VV [] GOk.nil 11 0)) jiA rfl rfl (by
 dsimp only[jrG,jrH]at hG ⊢
 have hw:List.drop L.length (List.replicate L.length (0:Int))=[]:=by simp
 repeat' first|simp only[SA,seval,rdB]|simp only[hw]|refine tT ?_|exact Cos.row (t:=.int .u8) rfl (by simp) (by simp) (by simp)|refine And.intro ?_ ?_|exact tC|(refine tI ?_;intro hyp)|intro hyp0|omega)
abbrev joD (d:List Int) (a:Nat) (n:Int):List CV:=[.agg [.vec (.int .u8) d,.int .i64 a,.int .i64 0],.int .i64 n]
abbrev joE (d:List Int) (a:Nat) (n:Int):Prop×Res:=((0≤n∧a+n≤d.length)∧d.length≤1000000,.ret (.tup [.vec (.int .u8) ((d.drop a).take n.toNat),.agg [.vec (.int .u8) d,.int .i64 (a+n.toNat:Nat),.int .i64 0]]))
noncomputable def sp_rrtake:Spec:=spOf (α:=(List Int)×Nat×Int) (fun⟨d,a,n⟩=>joD d a n) fun⟨d,a,n⟩=>joE d a n
theorem jcw (d:List Int) (a:Nat) (n:Int):sp_rrtake (joD d a n)=some (joE d a n):=jaq _ injS (d,a,n)
theorem jwV:Alias Tryz.prog E0 107 sp_rrtake:=Alias.of fun⟨d,a,n⟩ hG=>TF.intro (V:=(VV [(10,conF [.sl (.int .u8)] sp_bcopy)] (.cons (jaa jiA) (Fresh.soundF jsP) GOk.nil) 42 0)) jfe rfl rfl (by
 dsimp only[joD,joE]at hG ⊢
 obtain⟨⟨h0,h1⟩,h2⟩:=hG
 obtain⟨m,rfl⟩:∃m:Nat,n=m:=⟨n.toNat,by omega⟩
 simp only[Int.toNat_natCast]
 have hl:((d.drop a).take m).length=m:=by simp;omega
 have hw:=hl
 repeat' first|simp only[SA,seval,rdB,jbZ]|simp only[hw]|refine tT ?_|refine And.intro ?_ ?_|exact tC|(refine tI ?_;intro hyp)|intro hyp0|omega
 exact Cos.intro [] [0,1,2,3] rfl (by (simp only[SA,seval,rdB,jbZ]<;>exact tE)))
abbrev joF (d:List Int) (a:Nat) (most:Int):List CV:=[.agg [.vec (.int .u8) d,.int .i64 a,.int .i64 0],.int .i64 most]
abbrev joG (d:List Int) (a:Nat) (most:Int):Prop×Res:=(a≤d.length∧d.length≤1000000∧Bts d∧(0≤most∧most≤1000000),.ret (.tup [.vec (.int .u8) (jcM d a most),.agg [.vec (.int .u8) d,.int .i64 (a+jcU d a most:Nat),.int .i64 (jcB d a most)]]))
noncomputable def sp_rrtext:Spec:=spOf (α:=(List Int)×Nat×Int) (fun⟨d,a,most⟩=>joF d a most) fun⟨d,a,most⟩=>joG d a most
theorem ja6 (d:List Int) (a:Nat) (most:Int):sp_rrtext (joF d a most)=some (joG d a most):=jaq _ injS (d,a,most)
theorem jpQ:Alias Tryz.prog E0 69 sp_rrtext:=Alias.of fun⟨d,a,most⟩ hG=>TF.intro (V:=(VV [(68,conA [.agg [.sl (.int .u8),.any,.any]] sp_rrvar),(107,conA [.agg [.sl (.int .u8),.any,.any],.any] sp_rrtake)] (.cons (jaa jb8) (Alias.soundA jii) (.cons (jaa jfe) (Alias.soundA jwV) GOk.nil)) 47 0)) jdv rfl rfl (by
 dsimp only[joF,joG]at hG ⊢
 obtain⟨h1,h2,h3,h4,h5⟩:=hG
 have hu:=jbS h1
 have hv:=jar h3 a
 have hwm:=jdY h4 (show most<18446744073709551616 by omega)
 have hwl:=jdY (show 0≤(d.length:Int)-(a+varU d a:Nat) by omega) (show (d.length:Int)-(a+varU d a:Nat)<18446744073709551616 by omega)
 have hsub:((d.length-(a+varU d a):Nat):Int)=(d.length:Int)-(a+varU d a:Nat):=by omega
 by_cases hE:varE d a=0
 ·have hw:=And.intro hE (And.intro hwm hwl)
  by_cases hlong:most<varV d a
  ·have e:jcB d a most=4:=by rw[jcB,if_neg (by simp[hE]),if_pos hlong]
   have hx:jcM d a most=[]∧jcU d a most=0:=by simp[jcM,jcU,e]
   repeat' first|exact h3 _ ‹_›|simp only[SA,seval,rdB,jaP,jcw]|simp only[hw]|simp only[hw2]|refine tT ?_|refine And.intro ?_ ?_|exact tC|(refine tI ?_;intro hyp)|intro hyp0|omega
   exact Cos.intro [] [0,1,2,3] rfl (by rw[hx.1,hx.2,e];(simp only[SA,seval,rdB,jaP,jcw]<;>exact tE))
  ·by_cases hshort:((d.length-(a+varU d a):Nat):Int)<varV d a
   ·have e:jcB d a most=2:=by rw[jcB,if_neg (by simp[hE]),if_neg hlong,if_pos hshort]
    have hx:jcM d a most=[]∧jcU d a most=0:=by simp[jcM,jcU,e]
    repeat' first|exact h3 _ ‹_›|simp only[SA,seval,rdB,jaP,jcw]|simp only[hw]|simp only[hw2]|refine tT ?_|refine And.intro ?_ ?_|exact tC|(refine tI ?_;intro hyp)|intro hyp0|omega
    exact Cos.intro [] [0,1,2,3] rfl (by rw[hx.1,hx.2,e];(simp only[SA,seval,rdB,jaP,jcw]<;>exact tE))
   ·have e:jcB d a most=0:=by rw[jcB,if_neg (by simp[hE]),if_neg hlong,if_neg hshort]
    have hx:jcM d a most=(d.drop (a+varU d a)).take (varV d a).toNat∧jcU d a most=varU d a+(varV d a).toNat:=by simp[jcM,jcU,e]
    have hw2:=jf0 (show -9223372036854775808≤varV d a∧varV d a≤9223372036854775807 by omega)
    repeat' first|exact h3 _ ‹_›|simp only[SA,seval,rdB,jaP,jcw]|simp only[hw]|simp only[hw2]|refine tT ?_|refine And.intro ?_ ?_|exact tC|(refine tI ?_;intro hyp)|intro hyp0|omega
    exact Cos.intro [] [0,1,2,3] rfl (by rw[hx.1,hx.2,e];(simp only[SA,seval,rdB,jaP,jcw]<;>exact tE))
 ·have e:jcB d a most=varE d a:=by rw[jcB,if_pos hE]
  have hx:jcM d a most=[]∧jcU d a most=0:=by simp[jcM,jcU,e,hE]
  repeat' first|exact h3 _ ‹_›|simp only[SA,seval,rdB,jaP,jcw]|simp only[hw]|simp only[hw2]|refine tT ?_|refine And.intro ?_ ?_|exact tC|(refine tI ?_;intro hyp)|intro hyp0|omega
  exact Cos.intro [] [0,1,2,3] rfl (by rw[hx.1,hx.2,e];(simp only[SA,seval,rdB,jaP,jcw]<;>exact tE)))
end
end Go.Proofs.YtcfkfgkndncanaaGreatDoor
