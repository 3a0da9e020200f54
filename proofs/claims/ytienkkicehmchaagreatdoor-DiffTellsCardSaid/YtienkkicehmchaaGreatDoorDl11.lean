/- Texts of this claim, merged by a program of this claim: FUtf5. -/
import Derived.Test.YtienkkicehmchaaGreatDoorDl10
import Derived.Test.YtienkkicehmchaaGreatDoorDl6
import Derived.Test.YtienkkicehmchaaGreatDoorDl8
namespace Go.Proofs.YtienkkicehmchaaGreatDoor
open Cos renaming intro→qaa
open Bool renaming false_eq_true→qab
open And renaming intro→qac
noncomputable section
set_option linter.unusedVariables false
set_option linter.unusedSimpArgs false
section
open Go.RowKit
set_option maxRecDepth 100000
set_option maxHeartbeats 4000000
theorem jiW (l:List (List Int)) (k:Nat) (r lo hi:Int) (e:l[k]?=some [lo,hi]) (h0:Utf.hit (l.take k) r=false) (h:(decide (lo≤r)&&decide (r≤hi))=false):Utf.hit (l.take (k+1)) r=false:=by
 rw[Utf.hit_snoc l k (List.getElem?_eq_some_iff.1 e).1 r lo hi e,h0,h]
 rfl
abbrev q_width (r:Int):QA:=([.int .i32 r],I32 r,.ret (.int .i64 (Utf.width r)))
def sp_width:=spQ (u1 q_width)
theorem jiX:W1 (hA sp_width) q_width:=w1 (aA rfl)
theorem juy:Al 95 sp_width:=ofA (u1 q_width) fun r hG=>tfi .nil 0 jfE (by
 dsimp only[u1,q_width]at hG ⊢
 repeat' first|refine tU ?_|refine qaa [] [] rfl ?_|simp only[jrE]|simp only[jrF]|refine qac ?_ ?_|(refine tI ?_;intro hyp)|intro hyp0|exact tZ|omega
 ·have:Utf.noWidth r=true:=by simp only[Utf.noWidth,HB,ne_eq,reduceCtorEq];exact hyp
  simp only[Utf.width,this,if_true]
 have hno:Utf.noWidth r=false:=by simp only[Utf.noWidth,HB,ne_eq,reduceCtorEq];exact hyp
 have hyes:∀lo hi:Int,[lo,hi]∈Utf.nones→lo≤r∧r≤hi→0=Utf.width r:=fun lo hi hm h=>by
  have e:Utf.hit Utf.nones r=true:=by
   rw[Utf.hit,List.any_eq_true]
   exact⟨_,hm,by simp;exact h⟩
  simp only[Utf.width,hno,e,qab,if_false,if_true]
 have hnx:∀(k:Nat) (lo hi:Int),Utf.nones[k]?=some [lo,hi]→Utf.hit (Utf.nones.take k) r=false→(¬lo≤r∨¬r≤hi)→Utf.hit (Utf.nones.take (k+1)) r=false:=fun k lo hi e h0 h=>jiW _ k r lo hi e h0 (by simp only[HB,ne_eq,reduceCtorEq];exact h)
 have hwy:∀lo hi:Int,Utf.hit Utf.nones r=false→[lo,hi]∈Utf.wides→lo≤r∧r≤hi→2=Utf.width r:=fun lo hi h0 hm h=>by
  have e:Utf.hit Utf.wides r=true:=by
   rw[Utf.hit,List.any_eq_true]
   exact⟨_,hm,by simp;exact h⟩
  simp only[Utf.width,hno,h0,e,qab,if_false,if_true]
 have hwx:∀(k:Nat) (lo hi:Int),Utf.wides[k]?=some [lo,hi]→Utf.hit (Utf.wides.take k) r=false→(¬lo≤r∨¬r≤hi)→Utf.hit (Utf.wides.take (k+1)) r=false:=fun k lo hi e h0 h=>jiW _ k r lo hi e h0 (by simp only[HB,ne_eq,reduceCtorEq];exact h)
 refine T.loop (fun k:Nat=>⟨[(0,.int .i32 r),(29,.agg noneT),(30,.int .i64 k)],[]⟩) (fun k=>k≤3∧Utf.hit (Utf.nones.take k) r=false) (fun k=>3-k) 0 ⟨by omega,rfl⟩ (qaa [] [] rfl (by first|(simp only[PB,SAM,seval,rdB,Hk.out zc,noneT];done)|(simp only[PB,SAM,seval,rdB,Hk.out zc,noneT];simp)|simp[noneT,PB,SAM,seval,rdB,Hk.out zc])) (fun k ⟨hk,hh⟩=>?_)
 rcases (show k=0∨k=1∨k=2∨k=3 by omega)with rfl|rfl|rfl|rfl
 all_goals
  repeat' first|refine tU ?_|refine qaa [] [] rfl ?_|simp only[jrE]|simp only[jrF]|simp only[noneT]|exact hyes _ _ (by decide) hyp|exact⟨1,⟨by omega,hnx 0 _ _ rfl hh hyp⟩,by omega,(qaa [] [] rfl (by exact tG))⟩|exact⟨2,⟨by omega,hnx 1 _ _ rfl hh hyp⟩,by omega,(qaa [] [] rfl (by exact tG))⟩|exact⟨3,⟨by omega,hnx 2 _ _ rfl hh hyp⟩,by omega,(qaa [] [] rfl (by exact tG))⟩|refine qac ?_ ?_|(refine tI ?_;intro hyp)|intro hyp0|exact tZ|omega
 have hhn:Utf.hit Utf.nones r=false:=hh
 refine T.loop (fun k:Nat=>⟨[(0,.int .i32 r),(44,.agg wideT),(45,.int .i64 k)],[]⟩) (fun k=>k≤10∧Utf.hit (Utf.wides.take k) r=false) (fun k=>10-k) 0 ⟨by omega,rfl⟩ (qaa [] [] rfl (by first|(simp only[PB,SAM,seval,rdB,Hk.out zc,wideT];done)|(simp only[PB,SAM,seval,rdB,Hk.out zc,wideT];simp)|simp[wideT,PB,SAM,seval,rdB,Hk.out zc])) (fun k ⟨hk,hw⟩=>?_)
 rcases (show k=0∨k=1∨k=2∨k=3∨k=4∨k=5∨k=6∨k=7∨k=8∨k=9∨k=10 by omega)with rfl|rfl|rfl|rfl|rfl|rfl|rfl|rfl|rfl|rfl|rfl
 all_goals
  have hw':=hw
  clear hw
  repeat' first|refine tU ?_|refine qaa [] [] rfl ?_|simp only[wideT]|exact hwy _ _ hhn (by decide) hyp|exact⟨1,⟨by omega,hwx 0 _ _ rfl hw' hyp⟩,by omega,(qaa [] [] rfl (by exact tG))⟩|exact⟨2,⟨by omega,hwx 1 _ _ rfl hw' hyp⟩,by omega,(qaa [] [] rfl (by exact tG))⟩|exact⟨3,⟨by omega,hwx 2 _ _ rfl hw' hyp⟩,by omega,(qaa [] [] rfl (by exact tG))⟩|exact⟨4,⟨by omega,hwx 3 _ _ rfl hw' hyp⟩,by omega,(qaa [] [] rfl (by exact tG))⟩|exact⟨5,⟨by omega,hwx 4 _ _ rfl hw' hyp⟩,by omega,(qaa [] [] rfl (by exact tG))⟩|exact⟨6,⟨by omega,hwx 5 _ _ rfl hw' hyp⟩,by omega,(qaa [] [] rfl (by exact tG))⟩|exact⟨7,⟨by omega,hwx 6 _ _ rfl hw' hyp⟩,by omega,(qaa [] [] rfl (by exact tG))⟩|exact⟨8,⟨by omega,hwx 7 _ _ rfl hw' hyp⟩,by omega,(qaa [] [] rfl (by exact tG))⟩|exact⟨9,⟨by omega,hwx 8 _ _ rfl hw' hyp⟩,by omega,(qaa [] [] rfl (by exact tG))⟩|exact⟨10,⟨by omega,hwx 9 _ _ rfl hw' hyp⟩,by omega,(qaa [] [] rfl (by exact tG))⟩|refine qac ?_ ?_|(refine tI ?_;intro hyp)|intro hyp0|exact tZ|omega
 have hww:Utf.hit Utf.wides r=false:=hw'
 simp only[Utf.width,hno,hhn,hww,qab,if_false])
theorem jo1:Fre 95 sp_width:=ofF (u1 q_width) juy fun _=>rfl
abbrev q_valid (b:List Int):QA:=([.vec (.int .u8) b],(∀a∈b,Utf.Byte a)∧b.length≤1048576,.ret (.bool (Utf.vB b)))
def sp_valid:=spQ (u1 q_valid)
theorem jnU:W1 (hA sp_valid) q_valid:=w1 (aA rfl)
theorem juz:Al 94 sp_valid:=ofA (u1 q_valid) fun b hG=>tfi .nil 0 jiP (by
 dsimp only[u1,q_valid]at hG ⊢
 obtain⟨hb,hl⟩:=hG
 have hsz:=jhx b
 have hz:(Utf8.encode 65533).size=3:=by decide
 repeat' first|refine tU ?_|refine qaa [] [] rfl ?_|refine qac ?_ ?_|(refine tI ?_;intro hyp)|intro hyp0|exact tZ|omega
 refine T.loop (fun p:Nat=>⟨[(0,.vec (.int .u8) b),(3,.int .i64 p),(8,.ptr 0 0 0)],[.iter (jaJ b) p]⟩) (fun p=>p≤b.length∧Utf.vB b=Utf.vB (b.drop p)) (fun p=>b.length-p) 0 ⟨by omega,rfl⟩ (qaa [0] [] rfl (by simp only[PB,SAM,seval,rdB,Hk.out zc])) (fun p ⟨hp,hv⟩=>?_)
 rcases (show p=b.length∨p<b.length by omega)with h|h
 ·have hw:(p<(jaJ b).size)=False:=eq_false (by omega)
  repeat' first|refine tU ?_|refine qaa [] [] rfl ?_|refine qac ?_ ?_|(refine tI ?_;intro hyp)|intro hyp0|exact tZ|omega
  rw[hv,h,List.drop_length,decide_eq_true rfl]
  rfl
 ·have hw:(p<(jaJ b).size)=True:=eq_true (by omega)
  have hdec:=Utf.decode_str b hb p h
  have hbd:∀x∈b.drop p,Utf.Byte x:=fun x hx=>hb x (List.mem_of_mem_drop hx)
  have hne:b.drop p≠[]:=by intro e;have:=congrArg List.length e;simp at this;omega
  by_cases h0:Utf.step (b.drop p)=0
  ·rw[if_pos h0,if_pos h0]at hdec
   have hw2:=hdec.1
   have hw3:=hdec.2
   have hw4:=hz
   repeat' first|refine tU ?_|refine qaa [] [] rfl ?_|refine qac ?_ ?_|(refine tI ?_;intro hyp)|intro hyp0|exact tZ|omega
   ·rw[hv]
    exact (Utf.vB_stop _ hne h0).symm
   ·obtain⟨⟨⟨q1,q2⟩,q3⟩,q4⟩:=hyp
    exact absurd h0 (Utf.step_broken (b.drop p) hbd (by simp;omega) (by rw[Utf.drop_getD];exact q2) (by rw[Utf.drop_getD];exact q3) (by rw[Utf.drop_getD];exact q4))
  ·rw[if_neg h0,if_neg h0]at hdec
   have hw2:=hdec.1
   have hw3:=hdec.2
   have hnt:=Utf.num_take _ hbd h0
   have hsl:Utf.step (b.drop p)≤b.length-p:=by
    have:=(Utf.wk_le (b.drop p) 4).2
    rw[List.length_drop]at this
    exact this
   have hw4:(Utf8.encode (Utf.num (List.take (Utf.step (List.drop p b)) (List.drop p b)))).size=Utf.step (b.drop p):=by
    rw[←jaw,jnS]
    exact hnt.2.2
   repeat' first|refine tU ?_|refine qaa [] [] rfl ?_|refine qac ?_ ?_|(refine tI ?_;intro hyp)|intro hyp0|exact tZ|omega
   ·obtain⟨q1,q2⟩:=hyp
    have:=Utf.broken_step (b.drop p) hbd h0 q1
    simp only[Utf.drop_getD,List.length_drop,Nat.add_zero]at this
    omega
   ·exact⟨p+Utf.step (b.drop p),⟨by omega,by rw[hv,Utf.vB_go _ h0,List.drop_drop]⟩,by omega,qaa [0] [] rfl (by simp only[PB,SAM,seval,rdB,Hk.out zc];simp)⟩)
theorem juA:Fre 94 sp_valid:=ofF (u1 q_valid) juz fun _=>rfl
end
end
end Go.Proofs.YtienkkicehmchaaGreatDoor
