/- Texts of this claim, merged by a program of this claim: ApplyM, FApply. -/
import Derived.Test.YtcfkfgkndncanaaGreatDoorMa11
import Derived.Test.YtcfkfgkndncanaaGreatDoorMa12
import Derived.Test.YtcfkfgkndncanaaGreatDoorMa17
import Derived.Test.YtcfkfgkndncanaaGreatDoorMa20
import Derived.Test.YtcfkfgkndncanaaGreatDoorMa7
namespace Go.Proofs.YtcfkfgkndncanaaGreatDoor
set_option linter.unusedVariables false
set_option linter.unusedSimpArgs false
section
def colE (d:List Int) (a:Nat):Int:=if upE d a 4294967295≠0 then upE d a 4294967295 else if jg3 (varV d a) then 0 else 3
def lnkG (d:List Int):Nat→Nat→List ByteArray→Int×Nat×List ByteArray
 | 0,a,m=>(0,a,m)
 | n+1,a,m=>if jcB d a 64≠0 then (jcB d a 64,0,[]) else if jdn (jbl (jcM d a 64))=false then (3,0,[]) else lnkG d n (a+jcU d a 64) (m++[jbl (jcM d a 64)])
def lkG (d:List Int) (a:Nat) (l:List ByteArray):Int×Nat×List ByteArray :=
 if upE d a l.length≠0 then (upE d a l.length,0,[]) else
 if upE d (a+varU d a) (16-varV d a)≠0 then (upE d (a+varU d a) (16-varV d a),0,[]) else
 lnkG d (varV d (a+varU d a)).toNat (a+varU d a+varU d (a+varU d a)) (l.take (varV d a).toNat)
def jeQ (L:List CD) (o:Nat) (R:List CD):List CD:=L.take o++R++L.drop (o+R.length)
def cpG (d:List Int) (k r:Nat) (was:List CD):Nat→Nat→Nat→List CD→Int×Nat×List CD
 | 0,a,_,L=>(0,a,L)
 | n+1,a,pos,L=>if upE d a ((r:Int)-1-pos)≠0 then (upE d a ((r:Int)-1-pos),0,[]) else
  if upE d (a+varU d a) ((r:Int)-1)≠0 then (upE d (a+varU d a) ((r:Int)-1),0,[]) else
  cpG d k r was n (a+varU d a+varU d (a+varU d a)) (pos+(varV d a).toNat+1) (jeQ L ((pos+(varV d a).toNat)*k) (jbo was k (varV d (a+varU d a)).toNat))
def cpsG (d:List Int) (a:Nat) (k r:Nat) (L:List CD):Int×Nat×List CD :=
 if jdr d a≠0 then (jdr d a,0,[]) else cpG d k r L (varV d a).toNat (a+varU d a) 0 L
def putL (L:List CD) (pos:Nat) (c w:Int) (p:PD):List CD :=
 if w=2 then (L.set pos ⟨c,1,p.fg,p.bg,p.attrs,p.link⟩).set (pos+1) ⟨0,2,p.fg,p.bg,p.attrs,p.link⟩ else L.set pos ⟨c,0,p.fg,p.bg,p.attrs,p.link⟩
def letG (d:List Int) (k:Nat) (p:PD):Nat→Nat→Nat→List CD→Int×Nat×Nat×List CD
 | 0,a,pos,L=>(0,a,pos,L)
 | n+1,a,pos,L=>if upE d a 1114111≠0 then (upE d a 1114111,0,0,[]) else
  if Utf.width (varV d a)=0∨pos=L.length∨(k:Int)<((pos % k:Nat):Int)+Utf.width (varV d a) then (3,0,0,[]) else
  letG d k p n (a+varU d a) (pos+(Utf.width (varV d a)).toNat) (putL L pos (varV d a) (Utf.width (varV d a)) p)
structure Hd where
 e:Int
 a:Nat
 pos:Nat
 n:Nat
 p:PD
def jc3 (e:Int):Hd:=⟨e,0,0,0,⟨0,0,0,0⟩⟩
def hdG (d:List Int) (a pos all nl:Nat):Hd :=
 if upE d a ((all:Int)-pos)≠0 then jc3 (upE d a ((all:Int)-pos)) else
 let a1:=a+varU d a
 let p1:=pos+(varV d a).toNat
 if upE d a1 ((all:Int)-p1)≠0 then jc3 (upE d a1 ((all:Int)-p1)) else
 if varV d a1=0 then jc3 3 else
 let a2:=a1+varU d a1
 if colE d a2≠0 then jc3 (colE d a2) else
 let a3:=a2+varU d a2
 if colE d a3≠0 then jc3 (colE d a3) else
 let a4:=a3+varU d a3
 if upE d a4 255≠0 then jc3 (upE d a4 255) else
 let a5:=a4+varU d a4
 if upE d a5 nl≠0 then jc3 (upE d a5 nl) else
 ⟨0,a5+varU d a5,p1,(varV d a1).toNat,⟨varV d a2,varV d a3,varV d a4,varV d a5⟩⟩
def rnG (d:List Int) (k nl:Nat):Nat→Nat→Nat→List CD→Int×Nat×List CD
 | 0,a,_,L=>(0,a,L)
 | n+1,a,pos,L=>if (hdG d a pos L.length nl).e≠0 then ((hdG d a pos L.length nl).e,0,[]) else
  if (letG d k (hdG d a pos L.length nl).p (hdG d a pos L.length nl).n (hdG d a pos L.length nl).a (hdG d a pos L.length nl).pos L).1≠0 then ((letG d k (hdG d a pos L.length nl).p (hdG d a pos L.length nl).n (hdG d a pos L.length nl).a (hdG d a pos L.length nl).pos L).1,0,[]) else
  rnG d k nl n (letG d k (hdG d a pos L.length nl).p (hdG d a pos L.length nl).n (hdG d a pos L.length nl).a (hdG d a pos L.length nl).pos L).2.1 (letG d k (hdG d a pos L.length nl).p (hdG d a pos L.length nl).n (hdG d a pos L.length nl).a (hdG d a pos L.length nl).pos L).2.2.1 (letG d k (hdG d a pos L.length nl).p (hdG d a pos L.length nl).n (hdG d a pos L.length nl).a (hdG d a pos L.length nl).pos L).2.2.2
def rnsG (d:List Int) (a:Nat) (k nl:Nat) (L:List CD):Int×Nat×List CD :=
 if jdr d a≠0 then (jdr d a,0,[]) else rnG d k nl (varV d a).toNat (a+varU d a) 0 L
theorem jmI {L:List CD}{o:Nat}{R:List CD}(h:o+R.length≤L.length):(jeQ L o R).length=L.length:=by
 simp[jeQ]
 omega
theorem jnO (L:List CD) (pos:Nat) (c w:Int) (p:PD):(putL L pos c w p).length=L.length:=by
 unfold putL
 split<;>simp
theorem jvV {d:List Int}:∀(n a:Nat) (m:List ByteArray),a≤d.length→Bts d→(lnkG d n a m).2.1≤d.length∧((lnkG d n a m).1=0→(lnkG d n a m).2.2.length=m.length+n)
 | 0,a,m,h,_=>⟨h,fun _=>rfl⟩
 | n+1,a,m,h,hb=>by
  simp only[lnkG]
  split
  ·rename_i q
   exact⟨Nat.zero_le _,fun e=>absurd e q⟩
  ·rename_i q
   split
   ·exact⟨Nat.zero_le _,fun e=>by cases e⟩
   ·simp only[ne_eq,Classical.not_not]at q
    have hx:jcU d a 64=varU d a+(varV d a).toNat:=by simp[jcU,q]
    have hu:=jbS h
    have hs:¬((d.length-(a+varU d a):Nat):Int)<varV d a:=by
     intro h1
     simp only[jcB]at q
     by_cases q1:varE d a=0
     ·by_cases q2:(64:Int)<varV d a
      ·simp[q1,q2]at q
      ·simp only[q1,q2,h1,ne_eq,not_true_eq_false,if_false,if_true]at q
       cases q
     ·simp[q1]at q
    have:=jvV (d:=d) n (a+jcU d a 64) (m++[jbl (jcM d a 64)]) (by omega) hb
    refine⟨this.1,fun e=>?_⟩
    rw[this.2 e]
    simp
    omega
theorem jpv {d:List Int}(k:Nat) (p:PD):∀(n a pos:Nat) (L:List CD),a≤d.length→(letG d k p n a pos L).2.1≤d.length∧((letG d k p n a pos L).1=0→(letG d k p n a pos L).2.2.2.length=L.length)
 | 0,a,pos,L,h=>⟨h,fun _=>rfl⟩
 | n+1,a,pos,L,h=>by
  simp only[letG]
  split
  ·rename_i q
   exact⟨Nat.zero_le _,fun e=>absurd e q⟩
  ·split
   ·exact⟨Nat.zero_le _,fun e=>by cases e⟩
   ·have:=jpv (d:=d) k p n (a+varU d a) (pos+(Utf.width (varV d a)).toNat) (putL L pos (varV d a) (Utf.width (varV d a)) p) (jbS h)
    rw[jnO]at this
    exact this
theorem jAV {d:List Int}{a pos all nl:Nat}(h:a≤d.length):(hdG d a pos all nl).a≤d.length:=by
 unfold hdG
 split
 ·exact Nat.zero_le _
 ·have h1:=jbS h
  simp only
  split
  ·exact Nat.zero_le _
  ·have h2:=jbS h1
   split
   ·exact Nat.zero_le _
   ·split
    ·exact Nat.zero_le _
    ·have h3:=jbS h2
     split
     ·exact Nat.zero_le _
     ·have h4:=jbS h3
      split
      ·exact Nat.zero_le _
      ·have h5:=jbS h4
       split
       ·exact Nat.zero_le _
       ·exact jbS h5
theorem jnP {d:List Int}(k nl:Nat):∀(n a pos:Nat) (L:List CD),a≤d.length→(rnG d k nl n a pos L).2.1≤d.length∧((rnG d k nl n a pos L).1=0→(rnG d k nl n a pos L).2.2.length=L.length)
 | 0,a,pos,L,h=>⟨h,fun _=>rfl⟩
 | n+1,a,pos,L,h=>by
  simp only[rnG]
  split
  ·rename_i q
   exact⟨Nat.zero_le _,fun e=>absurd e q⟩
  ·split
   ·rename_i q
    exact⟨Nat.zero_le _,fun e=>absurd e q⟩
   ·rename_i q
    simp only[ne_eq,Classical.not_not]at q
    have h1:=jpv (d:=d) k (hdG d a pos L.length nl).p (hdG d a pos L.length nl).n (hdG d a pos L.length nl).a (hdG d a pos L.length nl).pos L (jAV h)
    have h2:=jnP (d:=d) k nl n _ (letG d k (hdG d a pos L.length nl).p (hdG d a pos L.length nl).n (hdG d a pos L.length nl).a (hdG d a pos L.length nl).pos L).2.2.1 (letG d k (hdG d a pos L.length nl).p (hdG d a pos L.length nl).n (hdG d a pos L.length nl).a (hdG d a pos L.length nl).pos L).2.2.2 h1.1
    refine⟨h2.1,fun e=>?_⟩
    rw[h2.2 e,h1.2 q]
theorem jnQ {d:List Int}(k r:Nat) (was:List CD) (hw:was.length=k*r) (hb:Bts d):∀(n a pos:Nat) (L:List CD),a≤d.length→L.length=k*r→(cpG d k r was n a pos L).2.1≤d.length∧((cpG d k r was n a pos L).1=0→(cpG d k r was n a pos L).2.2.length=L.length)
 | 0,a,pos,L,h,_=>⟨h,fun _=>rfl⟩
 | n+1,a,pos,L,h,hL=>by
  simp only[cpG]
  split
  ·rename_i q
   exact⟨Nat.zero_le _,fun e=>absurd e q⟩
  ·rename_i q1
   split
   ·rename_i q
    exact⟨Nat.zero_le _,fun e=>absurd e q⟩
   ·rename_i q2
    simp only[ne_eq,Classical.not_not]at q1 q2
    have u1:=jbe q1
    have u2:=jbe q2
    have v1:=jar hb a
    have v2:=jar hb (a+varU d a)
    have hp:pos+(varV d a).toNat+1≤r:=by omega
    have hz:(varV d (a+varU d a)).toNat+1≤r:=by omega
    have hm:(pos+(varV d a).toNat)*k+k≤k*r:=by
     have:=Nat.mul_le_mul_right k hp
     rw[Nat.add_mul,Nat.one_mul,Nat.mul_comm r k]at this
     exact this
    have hm2:(varV d (a+varU d a)).toNat*k+k≤k*r:=by
     have:=Nat.mul_le_mul_right k hz
     rw[Nat.add_mul,Nat.one_mul,Nat.mul_comm r k]at this
     exact this
    have hr:(jbo was k (varV d (a+varU d a)).toNat).length=k:=by
     simp only[jbo,List.length_take,List.length_drop]
     omega
    have hl:(jeQ L ((pos+(varV d a).toNat)*k) (jbo was k (varV d (a+varU d a)).toNat)).length=L.length:=jmI (by omega)
    have:=jnQ (d:=d) k r was hw hb n (a+varU d a+varU d (a+varU d a)) (pos+(varV d a).toNat+1) _ (jbS (jbS h)) (hl.trans hL)
    rw[hl]at this
    exact this
end
section
open Go.RowKit
set_option maxRecDepth 100000
set_option maxHeartbeats 4000000
def RdOk (d:List Int) (a:Nat):Prop:=a≤d.length∧d.length≤1000000∧Bts d
theorem jpw (d:List Int) (a:Nat) (most:Int):(varE d a=0∧(¬most<0∧varV d a≤most)∧upE d a most=0)∨(varE d a=0∧(most<0∨most<varV d a)∧upE d a most=3)∨(¬varE d a=0∧upE d a most=varE d a):=by
 unfold upE
 by_cases h:varE d a=0
 ·by_cases q:most<0∨most<varV d a
  ·exact .inr (.inl ⟨h,q,by rw[if_neg (by simp[h]),if_pos q]⟩)
  ·exact .inl ⟨h,by omega,by rw[if_neg (by simp[h]),if_neg q]⟩
 ·exact .inr (.inr ⟨h,if_pos h⟩)
theorem jqX (d:List Int) (a:Nat):(varE d a=0∧¬varV d a=0∧jdr d a=0)∨(varE d a=0∧varV d a=0∧jdr d a=3)∨(¬varE d a=0∧jdr d a=varE d a):=by
 unfold jdr
 by_cases h:varE d a=0
 ·by_cases q:varV d a=0
  ·exact .inr (.inl ⟨h,q,by rw[if_neg (by simp[h]),if_pos q]⟩)
  ·exact .inl ⟨h,q,by rw[if_neg (by simp[h]),if_neg q]⟩
 ·exact .inr (.inr ⟨h,if_pos h⟩)
theorem jfm (d:List Int) (a:Nat):(upE d a 4294967295=0∧jg3 (varV d a)=true∧colE d a=0)∨(upE d a 4294967295=0∧jg3 (varV d a)=false∧colE d a=3)∨(¬upE d a 4294967295=0∧colE d a=upE d a 4294967295):=by
 unfold colE
 by_cases h:upE d a 4294967295=0
 ·cases q:jg3 (varV d a)
  ·exact .inr (.inl ⟨h,rfl,by rw[if_neg (by simp[h])];rfl⟩)
  ·exact .inl ⟨h,rfl,by rw[if_neg (by simp[h])];rfl⟩
 ·exact .inr (.inr ⟨h,if_pos h⟩)
end
end Go.Proofs.YtcfkfgkndncanaaGreatDoor
