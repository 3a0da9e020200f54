/- Texts of this claim, merged by a program of this claim: RapplyM. -/
import Derived.Test.YtcfkfgkndncanaaGreatDoorMa33
namespace Go.Proofs.YtcfkfgkndncanaaGreatDoor
set_option linter.unusedVariables false
set_option linter.unusedSimpArgs false
section
structure ES where
 a:Nat
 e:Int
def nmX (d:List Int) (a:Nat):ES:=⟨a+varU d a,varE d a⟩
def plX (d:List Int) (kd:Int) (s:RS):RS×Int :=
 if kd=1 then
  (if varE d s.a≠0 then (s,0) else ({ s with a:=s.a+varU d s.a+varU d (s.a+varU d s.a) },varE d (s.a+varU d s.a)))
 else if kd=2 then
  (if upE d s.a (s.k-1)≠0 then ({ s with a:=s.a+varU d s.a },varE d s.a) else
   if upE d (s.a+varU d s.a) (s.r-1)≠0 then ({ s with x:=varV d s.a,a:=s.a+varU d s.a+varU d (s.a+varU d s.a) },varE d (s.a+varU d s.a)) else
   ({ s with x:=varV d s.a,y:=varV d (s.a+varU d s.a),hd:=false,a:=s.a+varU d s.a+varU d (s.a+varU d s.a)+varU d (s.a+varU d s.a+varU d (s.a+varU d s.a)) },varE d (s.a+varU d s.a+varU d (s.a+varU d s.a))))
 else if kd=3 then ({ s with ti:=bs [] },jcB d s.a 64)
 else ({ s with mo:=0,a:=s.a+varU d s.a },varE d s.a)
def lnX (d:List Int):Nat→Nat→ES
 | 0,a=>⟨a,0⟩
 | n+1,a=>if jcB d a 64≠0 then ⟨a,jcB d a 64⟩ else if jdn (jbl (jcM d a 64))=false then ⟨a+jcU d a 64,0⟩ else lnX d n (a+jcU d a 64)
def lkX (d:List Int) (a:Nat) (l:List ByteArray):ES :=
 if upE d a l.length≠0 then nmX d a else
 if upE d (a+varU d a) (16-varV d a)≠0 then nmX d (a+varU d a) else
 lnX d (varV d (a+varU d a)).toNat (a+varU d a+varU d (a+varU d a))
def cpX (d:List Int) (r:Nat):Nat→Nat→Nat→ES
 | 0,a,_=>⟨a,0⟩
 | n+1,a,pos=>if upE d a ((r:Int)-1-pos)≠0 then nmX d a else
  if upE d (a+varU d a) ((r:Int)-1)≠0 then nmX d (a+varU d a) else
  cpX d r n (a+varU d a+varU d (a+varU d a)) (pos+(varV d a).toNat+1)
def cpsX (d:List Int) (a:Nat) (r:Nat):ES :=
 if jdr d a≠0 then nmX d a else cpX d r (varV d a).toNat (a+varU d a) 0
def letX (d:List Int) (k:Nat) (p:PD):Nat→Nat→Nat→List CD→ES×List CD
 | 0,a,pos,L=>(⟨a,0⟩,L)
 | n+1,a,pos,L=>if upE d a 1114111≠0 then (nmX d a,L) else
  if Utf.width (varV d a)=0∨pos=L.length∨(k:Int)<((pos % k:Nat):Int)+Utf.width (varV d a) then (⟨a+varU d a,0⟩,L) else
  letX d k p n (a+varU d a) (pos+(Utf.width (varV d a)).toNat) (putL L pos (varV d a) (Utf.width (varV d a)) p)
def hdX (d:List Int) (a pos all nl:Nat):ES :=
 if upE d a ((all:Int)-pos)≠0 then nmX d a else
 let a1:=a+varU d a
 if upE d a1 ((all:Int)-(pos+(varV d a).toNat:Nat))≠0 then nmX d a1 else
 let a2:=a1+varU d a1
 if varV d a1=0 then ⟨a2,0⟩ else
 let a3:=a2+varU d a2
 if colE d a2≠0 then ⟨a3,varE d a2⟩ else
 let a4:=a3+varU d a3
 if colE d a3≠0 then ⟨a4,varE d a3⟩ else
 let a5:=a4+varU d a4
 if upE d a4 255≠0 then nmX d a4 else nmX d a5
def rnX (d:List Int) (k nl:Nat):Nat→Nat→Nat→List CD→ES×List CD
 | 0,a,_,L=>(⟨a,0⟩,L)
 | n+1,a,pos,L=>if (hdG d a pos L.length nl).e≠0 then (hdX d a pos L.length nl,L) else
  if (letG d k (hdG d a pos L.length nl).p (hdG d a pos L.length nl).n (hdG d a pos L.length nl).a (hdG d a pos L.length nl).pos L).1≠0 then letX d k (hdG d a pos L.length nl).p (hdG d a pos L.length nl).n (hdG d a pos L.length nl).a (hdG d a pos L.length nl).pos L else
  rnX d k nl n (letG d k (hdG d a pos L.length nl).p (hdG d a pos L.length nl).n (hdG d a pos L.length nl).a (hdG d a pos L.length nl).pos L).2.1 (letG d k (hdG d a pos L.length nl).p (hdG d a pos L.length nl).n (hdG d a pos L.length nl).a (hdG d a pos L.length nl).pos L).2.2.1 (letG d k (hdG d a pos L.length nl).p (hdG d a pos L.length nl).n (hdG d a pos L.length nl).a (hdG d a pos L.length nl).pos L).2.2.2
def rnsX (d:List Int) (a:Nat) (k nl:Nat) (L:List CD):ES×List CD :=
 if jdr d a≠0 then (nmX d a,L) else rnX d k nl (varV d a).toNat (a+varU d a) 0 L
end
end Go.Proofs.YtcfkfgkndncanaaGreatDoor
