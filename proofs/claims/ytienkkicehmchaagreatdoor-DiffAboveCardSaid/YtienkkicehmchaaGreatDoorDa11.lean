/- Texts of this claim, merged by a program of this claim: FUtf5. -/
import Derived.Test.YtienkkicehmchaaGreatDoorDa10
import Derived.Test.YtienkkicehmchaaGreatDoorDa8
namespace Go.Proofs.YtienkkicehmchaaGreatDoor
set_option linter.unusedVariables false
set_option linter.unusedSimpArgs false
section
open Go.RowKit
set_option maxRecDepth 100000
set_option maxHeartbeats 4000000
theorem jgL (l:List (List Int)) (k:Nat) (r lo hi:Int) (e:l[k]?=some [lo,hi]) (h0:Utf.hit (l.take k) r=false) (h:(decide (lo≤r)&&decide (r≤hi))=false):Utf.hit (l.take (k+1)) r=false:=by
 rw[Utf.hit_snoc l k (List.getElem?_eq_some_iff.1 e).1 r lo hi e,h0,h]
 rfl
abbrev jkK (r:Int):List CV:=[.int .i32 r]
abbrev jkL (r:Int):Prop×Res:=(I32 r,.ret (.int .i64 (Utf.width r)))
noncomputable def sp_width:Spec:=spOf (α:=Int) (fun r=>jkK r) fun r=>jkL r
theorem jbo (r:Int):sp_width (jkK r)=some (jkL r):=jad _ injS r
theorem jqG:Alias Tryz.prog E0 95 sp_width:=Alias.of fun r hG=>TF.intro (V:=(VV [] GOk.nil 59 0)) jcQ rfl rfl (by
 dsimp only[jkK,jkL]at hG ⊢
 repeat' first|simp only[SA,seval,rdB]|simp only[hw]|refine tT ?_|refine Cos.intro [] [] rfl ?_|simp only[jnU]|simp only[jnV]|refine And.intro ?_ ?_|exact tC|(refine tI ?_;intro hyp)|intro hyp0|omega
 ·have:Utf.noWidth r=true:=by simp only[Utf.noWidth,HB,ne_eq,reduceCtorEq];exact hyp
  simp only[Utf.width,this,if_true]
 have hno:Utf.noWidth r=false:=by simp only[Utf.noWidth,HB,ne_eq,reduceCtorEq];exact hyp
 have hyes:∀lo hi:Int,[lo,hi]∈Utf.nones→lo≤r∧r≤hi→0=Utf.width r:=fun lo hi hm h=>by
  have e:Utf.hit Utf.nones r=true:=by
   rw[Utf.hit,List.any_eq_true]
   exact⟨_,hm,by simp;exact h⟩
  simp only[Utf.width,hno,e,Bool.false_eq_true,if_false,if_true]
 have hnx:∀(k:Nat) (lo hi:Int),Utf.nones[k]?=some [lo,hi]→Utf.hit (Utf.nones.take k) r=false→(¬lo≤r∨¬r≤hi)→Utf.hit (Utf.nones.take (k+1)) r=false:=fun k lo hi e h0 h=>jgL _ k r lo hi e h0 (by simp only[HB,ne_eq,reduceCtorEq];exact h)
 have hwy:∀lo hi:Int,Utf.hit Utf.nones r=false→[lo,hi]∈Utf.wides→lo≤r∧r≤hi→2=Utf.width r:=fun lo hi h0 hm h=>by
  have e:Utf.hit Utf.wides r=true:=by
   rw[Utf.hit,List.any_eq_true]
   exact⟨_,hm,by simp;exact h⟩
  simp only[Utf.width,hno,h0,e,Bool.false_eq_true,if_false,if_true]
 have hwx:∀(k:Nat) (lo hi:Int),Utf.wides[k]?=some [lo,hi]→Utf.hit (Utf.wides.take k) r=false→(¬lo≤r∨¬r≤hi)→Utf.hit (Utf.wides.take (k+1)) r=false:=fun k lo hi e h0 h=>jgL _ k r lo hi e h0 (by simp only[HB,ne_eq,reduceCtorEq];exact h)
 refine T.loop (fun k:Nat=>⟨[(0,.int .i32 r),(29,.agg noneT),(30,.int .i64 k)],[]⟩) (fun k=>k≤3∧Utf.hit (Utf.nones.take k) r=false) (fun k=>3-k) 0 ⟨by omega,rfl⟩ (Cos.intro [] [] rfl (by first|(simp only[SA,seval,rdB,noneT];done)|(simp only[SA,seval,rdB,noneT];simp)|simp[noneT,SA,seval,rdB])) (fun k ⟨hk,hh⟩=>?_)
 rcases (show k=0∨k=1∨k=2∨k=3 by omega)with rfl|rfl|rfl|rfl
 all_goals
  repeat' first|simp only[SA,seval,rdB]|simp only[hw]|refine tT ?_|refine Cos.intro [] [] rfl ?_|simp only[jnU]|simp only[jnV]|simp only[noneT]|exact hyes _ _ (by decide) hyp|exact⟨1,⟨by omega,hnx 0 _ _ rfl hh hyp⟩,by omega,(Cos.intro [] [] rfl (by (simp only[SA,seval,rdB]);first|done|(repeat' apply And.intro)<;>first|rfl|omega|simp))⟩|exact⟨2,⟨by omega,hnx 1 _ _ rfl hh hyp⟩,by omega,(Cos.intro [] [] rfl (by (simp only[SA,seval,rdB]);first|done|(repeat' apply And.intro)<;>first|rfl|omega|simp))⟩|exact⟨3,⟨by omega,hnx 2 _ _ rfl hh hyp⟩,by omega,(Cos.intro [] [] rfl (by (simp only[SA,seval,rdB]);first|done|(repeat' apply And.intro)<;>first|rfl|omega|simp))⟩|refine And.intro ?_ ?_|exact tC|(refine tI ?_;intro hyp)|intro hyp0|omega
 have hhn:Utf.hit Utf.nones r=false:=hh
 refine T.loop (fun k:Nat=>⟨[(0,.int .i32 r),(44,.agg wideT),(45,.int .i64 k)],[]⟩) (fun k=>k≤10∧Utf.hit (Utf.wides.take k) r=false) (fun k=>10-k) 0 ⟨by omega,rfl⟩ (Cos.intro [] [] rfl (by first|(simp only[SA,seval,rdB,wideT];done)|(simp only[SA,seval,rdB,wideT];simp)|simp[wideT,SA,seval,rdB])) (fun k ⟨hk,hw⟩=>?_)
 rcases (show k=0∨k=1∨k=2∨k=3∨k=4∨k=5∨k=6∨k=7∨k=8∨k=9∨k=10 by omega)with rfl|rfl|rfl|rfl|rfl|rfl|rfl|rfl|rfl|rfl|rfl
 all_goals
  have hw':=hw
  clear hw
  repeat' first|simp only[SA,seval,rdB]|simp only[hw]|refine tT ?_|refine Cos.intro [] [] rfl ?_|simp only[wideT]|exact hwy _ _ hhn (by decide) hyp|exact⟨1,⟨by omega,hwx 0 _ _ rfl hw' hyp⟩,by omega,(Cos.intro [] [] rfl (by (simp only[SA,seval,rdB]);first|done|(repeat' apply And.intro)<;>first|rfl|omega|simp))⟩|exact⟨2,⟨by omega,hwx 1 _ _ rfl hw' hyp⟩,by omega,(Cos.intro [] [] rfl (by (simp only[SA,seval,rdB]);first|done|(repeat' apply And.intro)<;>first|rfl|omega|simp))⟩|exact⟨3,⟨by omega,hwx 2 _ _ rfl hw' hyp⟩,by omega,(Cos.intro [] [] rfl (by (simp only[SA,seval,rdB]);first|done|(repeat' apply And.intro)<;>first|rfl|omega|simp))⟩|exact⟨4,⟨by omega,hwx 3 _ _ rfl hw' hyp⟩,by omega,(Cos.intro [] [] rfl (by (simp only[SA,seval,rdB]);first|done|(repeat' apply And.intro)<;>first|rfl|omega|simp))⟩|exact⟨5,⟨by omega,hwx 4 _ _ rfl hw' hyp⟩,by omega,(Cos.intro [] [] rfl (by (simp only[SA,seval,rdB]);first|done|(repeat' apply And.intro)<;>first|rfl|omega|simp))⟩|exact⟨6,⟨by omega,hwx 5 _ _ rfl hw' hyp⟩,by omega,(Cos.intro [] [] rfl (by (simp only[SA,seval,rdB]);first|done|(repeat' apply And.intro)<;>first|rfl|omega|simp))⟩|exact⟨7,⟨by omega,hwx 6 _ _ rfl hw' hyp⟩,by omega,(Cos.intro [] [] rfl (by (simp only[SA,seval,rdB]);first|done|(repeat' apply And.intro)<;>first|rfl|omega|simp))⟩|exact⟨8,⟨by omega,hwx 7 _ _ rfl hw' hyp⟩,by omega,(Cos.intro [] [] rfl (by (simp only[SA,seval,rdB]);first|done|(repeat' apply And.intro)<;>first|rfl|omega|simp))⟩|exact⟨9,⟨by omega,hwx 8 _ _ rfl hw' hyp⟩,by omega,(Cos.intro [] [] rfl (by (simp only[SA,seval,rdB]);first|done|(repeat' apply And.intro)<;>first|rfl|omega|simp))⟩|exact⟨10,⟨by omega,hwx 9 _ _ rfl hw' hyp⟩,by omega,(Cos.intro [] [] rfl (by (simp only[SA,seval,rdB]);first|done|(repeat' apply And.intro)<;>first|rfl|omega|simp))⟩|refine And.intro ?_ ?_|exact tC|(refine tI ?_;intro hyp)|intro hyp0|omega
 have hww:Utf.hit Utf.wides r=false:=hw'
 simp only[Utf.width,hno,hhn,hww,Bool.false_eq_true,if_false])
theorem jlZ:Fresh Tryz.prog E0 95 sp_width:=Alias.fresh jqG (fun x=>rfl)
abbrev jkM (b:List Int):List CV:=[.vec (.int .u8) b]
abbrev jkN (b:List Int):Prop×Res:=((∀a∈b,Utf.Byte a)∧b.length≤1048576,.ret (.bool (Utf.vB b)))
noncomputable def sp_valid:Spec:=spOf (α:=(List Int)) (fun b=>jkM b) fun b=>jkN b
theorem jb4 (b:List Int):sp_valid (jkM b)=some (jkN b):=jad _ injS b
theorem jqH:Alias Tryz.prog E0 94 sp_valid:=Alias.of fun b hG=>TF.intro (V:=(VV [] GOk.nil 54 0)) jd2 rfl rfl (by
 dsimp only[jkM,jkN]at hG ⊢
 obtain⟨hb,hl⟩:=hG
 have hsz:=jfB b
 have hz:(Utf8.encode 65533).size=3:=by decide
 repeat' first|simp only[SA,seval,rdB]|simp only[hw]|simp only[hw2]|simp only[hw3]|simp only[hw4]|refine tT ?_|refine Cos.intro [] [] rfl ?_|refine And.intro ?_ ?_|exact tC|(refine tI ?_;intro hyp)|intro hyp0|omega
 refine T.loop (fun p:Nat=>⟨[(0,.vec (.int .u8) b),(3,.int .i64 p),(8,.ptr 0 0 0)],[.iter (jas b) p]⟩) (fun p=>p≤b.length∧Utf.vB b=Utf.vB (b.drop p)) (fun p=>b.length-p) 0 ⟨by omega,rfl⟩ (Cos.intro [0] [] rfl (by simp only[SA,seval,rdB])) (fun p ⟨hp,hv⟩=>?_)
 rcases (show p=b.length∨p<b.length by omega)with h|h
 ·have hw:(p<(jas b).size)=False:=eq_false (by omega)
  repeat' first|simp only[SA,seval,rdB]|simp only[hw]|simp only[hw2]|simp only[hw3]|simp only[hw4]|refine tT ?_|refine Cos.intro [] [] rfl ?_|refine And.intro ?_ ?_|exact tC|(refine tI ?_;intro hyp)|intro hyp0|omega
  rw[hv,h,List.drop_length,decide_eq_true rfl]
  rfl
 ·have hw:(p<(jas b).size)=True:=eq_true (by omega)
  have hdec:=Utf.decode_str b hb p h
  have hbd:∀x∈b.drop p,Utf.Byte x:=fun x hx=>hb x (List.mem_of_mem_drop hx)
  have hne:b.drop p≠[]:=by intro e;have:=congrArg List.length e;simp at this;omega
  by_cases h0:Utf.step (b.drop p)=0
  ·rw[if_pos h0,if_pos h0]at hdec
   have hw2:=hdec.1
   have hw3:=hdec.2
   have hw4:=hz
   repeat' first|simp only[SA,seval,rdB]|simp only[hw]|simp only[hw2]|simp only[hw3]|simp only[hw4]|refine tT ?_|refine Cos.intro [] [] rfl ?_|refine And.intro ?_ ?_|exact tC|(refine tI ?_;intro hyp)|intro hyp0|omega
   ·rw[hv]
    exact (Utf.vB_stop _ hne h0).symm
   ·obtain⟨⟨⟨q1,q2⟩,q3⟩,q4⟩:=hyp
    exact absurd h0 (Utf.step_broken (b.drop p) hbd (by simp;omega) (by rw[Utf.drop_getD];exact q2) (by rw[Utf.drop_getD];exact q3) (by rw[Utf.drop_getD];exact q4))
  ·rw[if_neg h0,if_neg h0]at hdec
   have hw2:=hdec.1
   have hw3:=hdec.2
   have hnt:=Utf.num_take _ hbd h0
   have hsl:Utf.step (b.drop p)≤b.length-p:=by
    have:=(Utf.wk_le (b.drop p) 4).2
    rw[List.length_drop]at this
    exact this
   have hw4:(Utf8.encode (Utf.num (List.take (Utf.step (List.drop p b)) (List.drop p b)))).size=Utf.step (b.drop p):=by
    rw[←jdu,jkI]
    exact hnt.2.2
   repeat' first|simp only[SA,seval,rdB]|simp only[hw]|simp only[hw2]|simp only[hw3]|simp only[hw4]|refine tT ?_|refine Cos.intro [] [] rfl ?_|refine And.intro ?_ ?_|exact tC|(refine tI ?_;intro hyp)|intro hyp0|omega
   ·obtain⟨q1,q2⟩:=hyp
    have:=Utf.broken_step (b.drop p) hbd h0 q1
    simp only[Utf.drop_getD,List.length_drop,Nat.add_zero]at this
    omega
   ·exact⟨p+Utf.step (b.drop p),⟨by omega,by rw[hv,Utf.vB_go _ h0,List.drop_drop]⟩,by omega,Cos.intro [0] [] rfl (by simp only[SA,seval,rdB];simp)⟩)
theorem jqI:Fresh Tryz.prog E0 94 sp_valid:=Alias.fresh jqH (fun x=>rfl)
end
end Go.Proofs.YtienkkicehmchaaGreatDoor
