/- Texts of this claim, merged by a program of this claim: ApplyM. -/
import Derived.Test.YtcfkfgkndncanaaGreatDoorMt20
import Derived.Test.YtcfkfgkndncanaaGreatDoorMt7
namespace Go.Proofs.YtcfkfgkndncanaaGreatDoor
set_option linter.unusedVariables false
set_option linter.unusedSimpArgs false
section
def colE (d:List Int) (a:Nat):Int:=if upE d a 4294967295 ≠ 0 then upE d a 4294967295 else if jex (varV d a) then 0 else 3
def lnkG (d:List Int):Nat→Nat→List ByteArray→Int × Nat × List ByteArray
 | 0,a,m=>(0,a,m)
 | n+1,a,m=>if jdq d a 64 ≠ 0 then (jdq d a 64,0,[]) else if jcK (ja6 (jek d a 64))=false then (3,0,[]) else lnkG d n (a+jel d a 64) (m++[ja6 (jek d a 64)])
def lkG (d:List Int) (a:Nat) (l:List ByteArray):Int × Nat × List ByteArray :=
 if upE d a l.length ≠ 0 then (upE d a l.length,0,[]) else
 if upE d (a+varU d a) (16 - varV d a) ≠ 0 then (upE d (a+varU d a) (16 - varV d a),0,[]) else
 lnkG d (varV d (a+varU d a)).toNat (a+varU d a+varU d (a+varU d a)) (l.take (varV d a).toNat)
def jfW (L:List CD) (o:Nat) (R:List CD):List CD:=L.take o++R++L.drop (o+R.length)
def cpG (d:List Int) (k r:Nat) (was:List CD):Nat→Nat→Nat→List CD→Int × Nat × List CD
 | 0,a,_,L=>(0,a,L)
 | n+1,a,pos,L=>if upE d a ((r:Int) - 1 - pos) ≠ 0 then (upE d a ((r:Int) - 1 - pos),0,[]) else
  if upE d (a+varU d a) ((r:Int) - 1) ≠ 0 then (upE d (a+varU d a) ((r:Int) - 1),0,[]) else
  cpG d k r was n (a+varU d a+varU d (a+varU d a)) (pos+(varV d a).toNat+1) (jfW L ((pos+(varV d a).toNat) * k) (jbm was k (varV d (a+varU d a)).toNat))
def cpsG (d:List Int) (a:Nat) (k r:Nat) (L:List CD):Int × Nat × List CD :=
 if jfE d a ≠ 0 then (jfE d a,0,[]) else cpG d k r L (varV d a).toNat (a+varU d a) 0 L
def putL (L:List CD) (pos:Nat) (c w:Int) (p:PD):List CD :=
 if w=2 then (L.set pos ⟨c,1,p.fg,p.bg,p.attrs,p.link⟩).set (pos+1) ⟨0,2,p.fg,p.bg,p.attrs,p.link⟩ else L.set pos ⟨c,0,p.fg,p.bg,p.attrs,p.link⟩
def letG (d:List Int) (k:Nat) (p:PD):Nat→Nat→Nat→List CD→Int × Nat × Nat × List CD
 | 0,a,pos,L=>(0,a,pos,L)
 | n+1,a,pos,L=>if upE d a 1114111 ≠ 0 then (upE d a 1114111,0,0,[]) else
  if Utf.width (varV d a)=0∨pos=L.length∨(k:Int) < ((pos % k:Nat):Int)+Utf.width (varV d a) then (3,0,0,[]) else
  letG d k p n (a+varU d a) (pos+(Utf.width (varV d a)).toNat) (putL L pos (varV d a) (Utf.width (varV d a)) p)
structure Hd where
 e:Int
 a:Nat
 pos:Nat
 n:Nat
 p:PD
def jed (e:Int):Hd:=⟨e,0,0,0,⟨0,0,0,0⟩⟩
def hdG (d:List Int) (a pos all nl:Nat):Hd :=
 if upE d a ((all:Int) - pos) ≠ 0 then jed (upE d a ((all:Int) - pos)) else
 let a1:=a+varU d a
 let p1:=pos+(varV d a).toNat
 if upE d a1 ((all:Int) - p1) ≠ 0 then jed (upE d a1 ((all:Int) - p1)) else
 if varV d a1=0 then jed 3 else
 let a2:=a1+varU d a1
 if colE d a2 ≠ 0 then jed (colE d a2) else
 let a3:=a2+varU d a2
 if colE d a3 ≠ 0 then jed (colE d a3) else
 let a4:=a3+varU d a3
 if upE d a4 255 ≠ 0 then jed (upE d a4 255) else
 let a5:=a4+varU d a4
 if upE d a5 nl ≠ 0 then jed (upE d a5 nl) else
 ⟨0,a5+varU d a5,p1,(varV d a1).toNat,⟨varV d a2,varV d a3,varV d a4,varV d a5⟩⟩
def rnG (d:List Int) (k nl:Nat):Nat→Nat→Nat→List CD→Int × Nat × List CD
 | 0,a,_,L=>(0,a,L)
 | n+1,a,pos,L=>if (hdG d a pos L.length nl).e ≠ 0 then ((hdG d a pos L.length nl).e,0,[]) else
  if (letG d k (hdG d a pos L.length nl).p (hdG d a pos L.length nl).n (hdG d a pos L.length nl).a (hdG d a pos L.length nl).pos L).1 ≠ 0 then ((letG d k (hdG d a pos L.length nl).p (hdG d a pos L.length nl).n (hdG d a pos L.length nl).a (hdG d a pos L.length nl).pos L).1,0,[]) else
  rnG d k nl n (letG d k (hdG d a pos L.length nl).p (hdG d a pos L.length nl).n (hdG d a pos L.length nl).a (hdG d a pos L.length nl).pos L).2.1 (letG d k (hdG d a pos L.length nl).p (hdG d a pos L.length nl).n (hdG d a pos L.length nl).a (hdG d a pos L.length nl).pos L).2.2.1 (letG d k (hdG d a pos L.length nl).p (hdG d a pos L.length nl).n (hdG d a pos L.length nl).a (hdG d a pos L.length nl).pos L).2.2.2
def rnsG (d:List Int) (a:Nat) (k nl:Nat) (L:List CD):Int × Nat × List CD :=
 if jfE d a ≠ 0 then (jfE d a,0,[]) else rnG d k nl (varV d a).toNat (a+varU d a) 0 L
theorem jkT {L:List CD} {o:Nat} {R:List CD} (h:o+R.length≤L.length):(jfW L o R).length=L.length:=by
 simp [jfW]
 omega
theorem joL (L:List CD) (pos:Nat) (c w:Int) (p:PD):(putL L pos c w p).length=L.length:=by
 unfold putL
 split <;> simp
theorem jrR {d:List Int}:∀ (n a:Nat) (m:List ByteArray),a≤d.length→Bts d→(lnkG d n a m).2.1≤d.length∧((lnkG d n a m).1=0→(lnkG d n a m).2.2.length=m.length+n)
 | 0,a,m,h,_=>⟨h,fun _=>rfl⟩
 | n+1,a,m,h,hb=>by
  simp only [lnkG]
  split
  ·rename_i q
   exact ⟨Nat.zero_le _,fun e=>absurd e q⟩
  ·rename_i q
   split
   ·exact ⟨Nat.zero_le _,fun e=>by cases e⟩
   ·simp only [ne_eq,Classical.not_not] at q
    have hx:jel d a 64=varU d a+(varV d a).toNat:=by simp [jel,q]
    have hu:=jbx h
    have hs:¬ ((d.length - (a+varU d a):Nat):Int) < varV d a:=by
     intro h1
     simp only [jdq] at q
     by_cases q1:varE d a=0
     ·by_cases q2:(64:Int) < varV d a
      ·simp [q1,q2] at q
      ·simp only [q1,q2,h1,ne_eq,not_true_eq_false,if_false,if_true] at q
       cases q
     ·simp [q1] at q
    have:=jrR (d:=d) n (a+jel d a 64) (m++[ja6 (jek d a 64)]) (by omega) hb
    refine ⟨this.1,fun e=>?_⟩
    rw [this.2 e]
    simp
    omega
theorem jmF {d:List Int} (k:Nat) (p:PD):∀ (n a pos:Nat) (L:List CD),a≤d.length→(letG d k p n a pos L).2.1≤d.length∧((letG d k p n a pos L).1=0→(letG d k p n a pos L).2.2.2.length=L.length)
 | 0,a,pos,L,h=>⟨h,fun _=>rfl⟩
 | n+1,a,pos,L,h=>by
  simp only [letG]
  split
  ·rename_i q
   exact ⟨Nat.zero_le _,fun e=>absurd e q⟩
  ·split
   ·exact ⟨Nat.zero_le _,fun e=>by cases e⟩
   ·have:=jmF (d:=d) k p n (a+varU d a) (pos+(Utf.width (varV d a)).toNat) (putL L pos (varV d a) (Utf.width (varV d a)) p) (jbx h)
    rw [joL] at this
    exact this
theorem jwZ {d:List Int} {a pos all nl:Nat} (h:a≤d.length):(hdG d a pos all nl).a≤d.length:=by
 unfold hdG
 split
 ·exact Nat.zero_le _
 ·have h1:=jbx h
  simp only
  split
  ·exact Nat.zero_le _
  ·have h2:=jbx h1
   split
   ·exact Nat.zero_le _
   ·split
    ·exact Nat.zero_le _
    ·have h3:=jbx h2
     split
     ·exact Nat.zero_le _
     ·have h4:=jbx h3
      split
      ·exact Nat.zero_le _
      ·have h5:=jbx h4
       split
       ·exact Nat.zero_le _
       ·exact jbx h5
theorem jlM {d:List Int} (k nl:Nat):∀ (n a pos:Nat) (L:List CD),a≤d.length→(rnG d k nl n a pos L).2.1≤d.length∧((rnG d k nl n a pos L).1=0→(rnG d k nl n a pos L).2.2.length=L.length)
 | 0,a,pos,L,h=>⟨h,fun _=>rfl⟩
 | n+1,a,pos,L,h=>by
  simp only [rnG]
  split
  ·rename_i q
   exact ⟨Nat.zero_le _,fun e=>absurd e q⟩
  ·split
   ·rename_i q
    exact ⟨Nat.zero_le _,fun e=>absurd e q⟩
   ·rename_i q
    simp only [ne_eq,Classical.not_not] at q
    have h1:=jmF (d:=d) k (hdG d a pos L.length nl).p (hdG d a pos L.length nl).n (hdG d a pos L.length nl).a (hdG d a pos L.length nl).pos L (jwZ h)
    have h2:=jlM (d:=d) k nl n _ (letG d k (hdG d a pos L.length nl).p (hdG d a pos L.length nl).n (hdG d a pos L.length nl).a (hdG d a pos L.length nl).pos L).2.2.1 (letG d k (hdG d a pos L.length nl).p (hdG d a pos L.length nl).n (hdG d a pos L.length nl).a (hdG d a pos L.length nl).pos L).2.2.2 h1.1
    refine ⟨h2.1,fun e=>?_⟩
    rw [h2.2 e,h1.2 q]
theorem jlN {d:List Int} (k r:Nat) (was:List CD) (hw:was.length=k * r) (hb:Bts d):∀ (n a pos:Nat) (L:List CD),a≤d.length→L.length=k * r→(cpG d k r was n a pos L).2.1≤d.length∧((cpG d k r was n a pos L).1=0→(cpG d k r was n a pos L).2.2.length=L.length)
 | 0,a,pos,L,h,_=>⟨h,fun _=>rfl⟩
 | n+1,a,pos,L,h,hL=>by
  simp only [cpG]
  split
  ·rename_i q
   exact ⟨Nat.zero_le _,fun e=>absurd e q⟩
  ·rename_i q1
   split
   ·rename_i q
    exact ⟨Nat.zero_le _,fun e=>absurd e q⟩
   ·rename_i q2
    simp only [ne_eq,Classical.not_not] at q1 q2
    have u1:=jcf q1
    have u2:=jcf q2
    have v1:=jaR hb a
    have v2:=jaR hb (a+varU d a)
    have hp:pos+(varV d a).toNat+1≤r:=by omega
    have hz:(varV d (a+varU d a)).toNat+1≤r:=by omega
    have hm:(pos+(varV d a).toNat) * k+k≤k * r:=by
     have:=Nat.mul_le_mul_right k hp
     rw [Nat.add_mul,Nat.one_mul,Nat.mul_comm r k] at this
     exact this
    have hm2:(varV d (a+varU d a)).toNat * k+k≤k * r:=by
     have:=Nat.mul_le_mul_right k hz
     rw [Nat.add_mul,Nat.one_mul,Nat.mul_comm r k] at this
     exact this
    have hr:(jbm was k (varV d (a+varU d a)).toNat).length=k:=by
     simp only [jbm,List.length_take,List.length_drop]
     omega
    have hl:(jfW L ((pos+(varV d a).toNat) * k) (jbm was k (varV d (a+varU d a)).toNat)).length=L.length:=jkT (by omega)
    have:=jlN (d:=d) k r was hw hb n (a+varU d a+varU d (a+varU d a)) (pos+(varV d a).toNat+1) _ (jbx (jbx h)) (hl.trans hL)
    rw [hl] at this
    exact this
end
end Go.Proofs.YtcfkfgkndncanaaGreatDoor
