/- Texts of this claim, merged by a program of this claim: ReadM, ApplyM, ThingM, RwM. -/
import Derived.Test.YtienkkicehmchaaGreatDoorDo11
import Derived.Test.YtienkkicehmchaaGreatDoorDo13
import Derived.Test.YtienkkicehmchaaGreatDoorDo15
import Derived.Test.YtienkkicehmchaaGreatDoorDo6
import Derived.Test.YtienkkicehmchaaGreatDoorDo8
namespace Go.Proofs.YtienkkicehmchaaGreatDoor
open Nat renaming zero_le→qaa,mul_le_mul_right→qab,mul_comm→qac
set_option linter.unusedVariables false
set_option linter.unusedSimpArgs false
section
def Bts (d:List Int):Prop:=∀x∈d,0≤x∧x<256
def varG:List Int→Nat→Int→Int×Int×Nat
 | [],_,_=>(2,0,0)
 | b::r,i,n=>if (i=9∧1<b)∨(0<i∧b=0) then (3,0,0) else if b<128 then (0,n+b*2 ^ (7*i),i+1) else varG r (i+1) (n+(b-128)*2 ^ (7*i))
def varE (d:List Int) (a:Nat):Int:=(varG (d.drop a) 0 0).1
def varV (d:List Int) (a:Nat):Int:=(varG (d.drop a) 0 0).2.1
def varU (d:List Int) (a:Nat):Nat:=(varG (d.drop a) 0 0).2.2
theorem jn4:∀(r:List Int) (i:Nat) (n:Int),(varG r i n).2.2≤r.length+i
 | [],i,n=>by simp[varG]
 | b::r,i,n=>by
  simp only[varG]
  split
  ·simp
  ·split
   ·simp;omega
   ·have:=jn4 r (i+1) (n+(b-128)*2 ^ (7*i))
    grind
theorem jqz:∀(r:List Int) (i:Nat) (n:Int),Bts r→i≤9→0≤n→n<2 ^ (7*i)→0≤(varG r i n).2.1∧(varG r i n).2.1<18446744073709551616
 | [],i,n,_,_,_,_=>by simp[varG]
 | b::r,i,n,hb,hi,h0,hn=>by
  have h1:=hb b (by simp)
  have hi2:i=0∨i=1∨i=2∨i=3∨i=4∨i=5∨i=6∨i=7∨i=8∨i=9:=by omega
  simp only[varG]
  split
  ·simp
  ·rename_i hc
   split
   ·simp only
    rcases hi2 with rfl|rfl|rfl|rfl|rfl|rfl|rfl|rfl|rfl|rfl<;>omega<;>omega
   ·have hi3:i≤8:=by omega
    refine jqz r (i+1) _ (fun x hx=>hb x (by simp[hx])) (by omega) ?_ ?_
    all_goals grind
theorem jxd {d:List Int}(h:Bts d) (a:Nat):Bts (d.drop a):=fun x hx=>h x (List.mem_of_mem_drop hx)
theorem jae {d:List Int}(h:Bts d) (a:Nat):0≤varV d a∧varV d a<18446744073709551616:=jqz _ _ _ (jxd h a) (by omega) (by omega) (by simp)
theorem jaz {d:List Int}{a:Nat}(h:a≤d.length):a+varU d a≤d.length:=by
 grind [jn4,List.length_drop,varU]
def upE (d:List Int) (a:Nat) (most:Int):Int:=if varE d a≠0 then varE d a else if most<0∨most<varV d a then 3 else 0
theorem jaQ {d:List Int}{a:Nat}{most:Int}(h:upE d a most=0):varE d a=0∧¬most<0∧varV d a≤most:=by
 unfold upE at h
 omega
def jc2 (d:List Int) (a:Nat):Int:=if varE d a≠0 then varE d a else if varV d a=0 then 3 else 0
def jcv (d:List Int) (a:Nat) (most:Int):Int:=if varE d a≠0 then varE d a else if most<varV d a then 4 else if ((d.length-(a+varU d a):Nat):Int)<varV d a then 2 else 0
def jdz (d:List Int) (a:Nat) (most:Int):List Int:=if jcv d a most=0 then (d.drop (a+varU d a)).take (varV d a).toNat else []
def jdA (d:List Int) (a:Nat) (most:Int):Nat:=if jcv d a most=0 then varU d a+(varV d a).toNat else 0
end
section
def colE (d:List Int) (a:Nat):Int:=if upE d a 4294967295≠0 then upE d a 4294967295 else if jcQ (varV d a) then 0 else 3
def lnkG (d:List Int):Nat→Nat→List ByteArray→Int×Nat×List ByteArray
 | 0,a,m=>(0,a,m)
 | n+1,a,m=>if jcv d a 64≠0 then (jcv d a 64,0,[]) else if jca (jas (jdz d a 64))=false then (3,0,[]) else lnkG d n (a+jdA d a 64) (m++[jas (jdz d a 64)])
def lkG (d:List Int) (a:Nat) (l:List ByteArray):Int×Nat×List ByteArray :=
 if upE d a l.length≠0 then (upE d a l.length,0,[]) else
 if upE d (a+varU d a) (16-varV d a)≠0 then (upE d (a+varU d a) (16-varV d a),0,[]) else
 lnkG d (varV d (a+varU d a)).toNat (a+varU d a+varU d (a+varU d a)) (l.take (varV d a).toNat)
def jcg (L:List CD) (o:Nat) (R:List CD):List CD:=L.take o++R++L.drop (o+R.length)
def cpG (d:List Int) (k r:Nat) (was:List CD):Nat→Nat→Nat→List CD→Int×Nat×List CD
 | 0,a,_,L=>(0,a,L)
 | n+1,a,pos,L=>if upE d a ((r:Int)-1-pos)≠0 then (upE d a ((r:Int)-1-pos),0,[]) else
  if upE d (a+varU d a) ((r:Int)-1)≠0 then (upE d (a+varU d a) ((r:Int)-1),0,[]) else
  cpG d k r was n (a+varU d a+varU d (a+varU d a)) (pos+(varV d a).toNat+1) (jcg L ((pos+(varV d a).toNat)*k) (jax was k (varV d (a+varU d a)).toNat))
def cpsG (d:List Int) (a:Nat) (k r:Nat) (L:List CD):Int×Nat×List CD :=
 if jc2 d a≠0 then (jc2 d a,0,[]) else cpG d k r L (varV d a).toNat (a+varU d a) 0 L
def putL (L:List CD) (pos:Nat) (c w:Int) (p:PD):List CD :=
 if w=2 then (L.set pos ⟨c,1,p.fg,p.bg,p.attrs,p.link⟩).set (pos+1) ⟨0,2,p.fg,p.bg,p.attrs,p.link⟩ else L.set pos ⟨c,0,p.fg,p.bg,p.attrs,p.link⟩
def letG (d:List Int) (k:Nat) (p:PD):Nat→Nat→Nat→List CD→Int×Nat×Nat×List CD
 | 0,a,pos,L=>(0,a,pos,L)
 | n+1,a,pos,L=>if upE d a 1114111≠0 then (upE d a 1114111,0,0,[]) else
  if Utf.width (varV d a)=0∨pos=L.length∨(k:Int)<((pos % k:Nat):Int)+Utf.width (varV d a) then (3,0,0,[]) else
  letG d k p n (a+varU d a) (pos+(Utf.width (varV d a)).toNat) (putL L pos (varV d a) (Utf.width (varV d a)) p)
structure Hd where
 e:Int
 a:Nat
 pos:Nat
 n:Nat
 p:PD
def jbq (e:Int):Hd:=⟨e,0,0,0,⟨0,0,0,0⟩⟩
def hdG (d:List Int) (a pos all nl:Nat):Hd :=
 if upE d a ((all:Int)-pos)≠0 then jbq (upE d a ((all:Int)-pos)) else
 let a1:=a+varU d a
 let p1:=pos+(varV d a).toNat
 if upE d a1 ((all:Int)-p1)≠0 then jbq (upE d a1 ((all:Int)-p1)) else
 if varV d a1=0 then jbq 3 else
 let a2:=a1+varU d a1
 if colE d a2≠0 then jbq (colE d a2) else
 let a3:=a2+varU d a2
 if colE d a3≠0 then jbq (colE d a3) else
 let a4:=a3+varU d a3
 if upE d a4 255≠0 then jbq (upE d a4 255) else
 let a5:=a4+varU d a4
 if upE d a5 nl≠0 then jbq (upE d a5 nl) else
 ⟨0,a5+varU d a5,p1,(varV d a1).toNat,⟨varV d a2,varV d a3,varV d a4,varV d a5⟩⟩
def rnG (d:List Int) (k nl:Nat):Nat→Nat→Nat→List CD→Int×Nat×List CD
 | 0,a,_,L=>(0,a,L)
 | n+1,a,pos,L=>if (hdG d a pos L.length nl).e≠0 then ((hdG d a pos L.length nl).e,0,[]) else
  if (letG d k (hdG d a pos L.length nl).p (hdG d a pos L.length nl).n (hdG d a pos L.length nl).a (hdG d a pos L.length nl).pos L).1≠0 then ((letG d k (hdG d a pos L.length nl).p (hdG d a pos L.length nl).n (hdG d a pos L.length nl).a (hdG d a pos L.length nl).pos L).1,0,[]) else
  rnG d k nl n (letG d k (hdG d a pos L.length nl).p (hdG d a pos L.length nl).n (hdG d a pos L.length nl).a (hdG d a pos L.length nl).pos L).2.1 (letG d k (hdG d a pos L.length nl).p (hdG d a pos L.length nl).n (hdG d a pos L.length nl).a (hdG d a pos L.length nl).pos L).2.2.1 (letG d k (hdG d a pos L.length nl).p (hdG d a pos L.length nl).n (hdG d a pos L.length nl).a (hdG d a pos L.length nl).pos L).2.2.2
def rnsG (d:List Int) (a:Nat) (k nl:Nat) (L:List CD):Int×Nat×List CD :=
 if jc2 d a≠0 then (jc2 d a,0,[]) else rnG d k nl (varV d a).toNat (a+varU d a) 0 L
theorem jlz {L:List CD}{o:Nat}{R:List CD}(h:o+R.length≤L.length):(jcg L o R).length=L.length:=by
 simp[jcg]
 omega
theorem jqA (L:List CD) (pos:Nat) (c w:Int) (p:PD):(putL L pos c w p).length=L.length:=by
 unfold putL
 split<;>simp
theorem juI {d:List Int}:∀(n a:Nat) (m:List ByteArray),a≤d.length→Bts d→(lnkG d n a m).2.1≤d.length∧((lnkG d n a m).1=0→(lnkG d n a m).2.2.length=m.length+n)
 | 0,a,m,h,_=>⟨h,fun _=>rfl⟩
 | n+1,a,m,h,hb=>by
  simp only[lnkG]
  split
  ·rename_i q
   exact⟨qaa _,fun e=>absurd e q⟩
  ·rename_i q
   split
   ·exact⟨qaa _,fun e=>by cases e⟩
   ·simp only[ne_eq,Classical.not_not]at q
    have hx:jdA d a 64=varU d a+(varV d a).toNat:=by simp[jdA,q]
    have hu:=jaz h
    have hs:¬((d.length-(a+varU d a):Nat):Int)<varV d a:=by
     intro h1
     simp only[jcv]at q
     by_cases q1:varE d a=0
     ·by_cases q2:(64:Int)<varV d a
      ·simp[q1,q2]at q
      ·simp only[q1,q2,h1,ne_eq,not_true_eq_false,if_false,if_true]at q
       cases q
     ·simp[q1]at q
    have:=juI (d:=d) n (a+jdA d a 64) (m++[jas (jdz d a 64)]) (by omega) hb
    refine⟨this.1,fun e=>?_⟩
    rw[this.2 e]
    simp
    omega
theorem jn5 {d:List Int}(k:Nat) (p:PD):∀(n a pos:Nat) (L:List CD),a≤d.length→(letG d k p n a pos L).2.1≤d.length∧((letG d k p n a pos L).1=0→(letG d k p n a pos L).2.2.2.length=L.length)
 | 0,a,pos,L,h=>⟨h,fun _=>rfl⟩
 | n+1,a,pos,L,h=>by
  simp only[letG]
  split
  ·rename_i q
   exact⟨qaa _,fun e=>absurd e q⟩
  ·split
   ·exact⟨qaa _,fun e=>by cases e⟩
   ·have:=jn5 (d:=d) k p n (a+varU d a) (pos+(Utf.width (varV d a)).toNat) (putL L pos (varV d a) (Utf.width (varV d a)) p) (jaz h)
    rw[jqA]at this
    exact this
theorem jAV {d:List Int}{a pos all nl:Nat}(h:a≤d.length):(hdG d a pos all nl).a≤d.length:=by
 unfold hdG
 split
 ·exact qaa _
 ·have h1:=jaz h
  simp only
  split
  ·exact qaa _
  ·have h2:=jaz h1
   split
   ·exact qaa _
   ·split
    ·exact qaa _
    ·have h3:=jaz h2
     split
     ·exact qaa _
     ·have h4:=jaz h3
      split
      ·exact qaa _
      ·have h5:=jaz h4
       split
       ·exact qaa _
       ·exact jaz h5
theorem jmM {d:List Int}(k nl:Nat):∀(n a pos:Nat) (L:List CD),a≤d.length→(rnG d k nl n a pos L).2.1≤d.length∧((rnG d k nl n a pos L).1=0→(rnG d k nl n a pos L).2.2.length=L.length)
 | 0,a,pos,L,h=>⟨h,fun _=>rfl⟩
 | n+1,a,pos,L,h=>by
  simp only[rnG]
  split
  ·rename_i q
   exact⟨qaa _,fun e=>absurd e q⟩
  ·split
   ·rename_i q
    exact⟨qaa _,fun e=>absurd e q⟩
   ·rename_i q
    simp only[ne_eq,Classical.not_not]at q
    have h1:=jn5 (d:=d) k (hdG d a pos L.length nl).p (hdG d a pos L.length nl).n (hdG d a pos L.length nl).a (hdG d a pos L.length nl).pos L (jAV h)
    have h2:=jmM (d:=d) k nl n _ (letG d k (hdG d a pos L.length nl).p (hdG d a pos L.length nl).n (hdG d a pos L.length nl).a (hdG d a pos L.length nl).pos L).2.2.1 (letG d k (hdG d a pos L.length nl).p (hdG d a pos L.length nl).n (hdG d a pos L.length nl).a (hdG d a pos L.length nl).pos L).2.2.2 h1.1
    refine⟨h2.1,fun e=>?_⟩
    rw[h2.2 e,h1.2 q]
theorem jmN {d:List Int}(k r:Nat) (was:List CD) (hw:was.length=k*r) (hb:Bts d):∀(n a pos:Nat) (L:List CD),a≤d.length→L.length=k*r→(cpG d k r was n a pos L).2.1≤d.length∧((cpG d k r was n a pos L).1=0→(cpG d k r was n a pos L).2.2.length=L.length)
 | 0,a,pos,L,h,_=>⟨h,fun _=>rfl⟩
 | n+1,a,pos,L,h,hL=>by
  simp only[cpG]
  split
  ·rename_i q
   exact⟨qaa _,fun e=>absurd e q⟩
  ·rename_i q1
   split
   ·rename_i q
    exact⟨qaa _,fun e=>absurd e q⟩
   ·rename_i q2
    simp only[ne_eq,Classical.not_not]at q1 q2
    have u1:=jaQ q1
    have u2:=jaQ q2
    have v1:=jae hb a
    have v2:=jae hb (a+varU d a)
    have hp:pos+(varV d a).toNat+1≤r:=by omega
    have hz:(varV d (a+varU d a)).toNat+1≤r:=by omega
    have hm:(pos+(varV d a).toNat)*k+k≤k*r:=by
     have:=qab k hp
     rw[Nat.add_mul,Nat.one_mul,qac r k]at this
     exact this
    have hm2:(varV d (a+varU d a)).toNat*k+k≤k*r:=by
     have:=qab k hz
     rw[Nat.add_mul,Nat.one_mul,qac r k]at this
     exact this
    have hr:(jax was k (varV d (a+varU d a)).toNat).length=k:=by
     simp only[jax,List.length_take,List.length_drop]
     omega
    have hl:(jcg L ((pos+(varV d a).toNat)*k) (jax was k (varV d (a+varU d a)).toNat)).length=L.length:=jlz (by omega)
    have:=jmN (d:=d) k r was hw hb n (a+varU d a+varU d (a+varU d a)) (pos+(varV d a).toNat+1) _ (jaz (jaz h)) (hl.trans hL)
    rw[hl]at this
    exact this
end
section
structure RS where
 k:Int
 r:Int
 L:List CD
 x:Int
 y:Int
 hd:Bool
 mo:Int
 ti:ByteArray
 l:List ByteArray
 more:List ByteArray
 a:Nat
def RS.bad:RS:=⟨0,0,[],0,0,false,0,jas [],[],[],0⟩
def th1 (d:List Int) (s:RS):Int×RS :=
 if varE d s.a≠0 then (varE d s.a,.bad) else
 if varE d (s.a+varU d s.a)≠0 then (varE d (s.a+varU d s.a),.bad) else
 if 80<varV d s.a∨24<varV d (s.a+varU d s.a)∨varV d s.a*varV d (s.a+varU d s.a)=0 then (3,.bad) else
 (0,⟨varV d s.a,varV d (s.a+varU d s.a),List.replicate ((varV d s.a).toNat*(varV d (s.a+varU d s.a)).toNat) blank0,0,0,false,0,bs [],[],[],s.a+varU d s.a+varU d (s.a+varU d s.a)⟩)
def th2 (d:List Int) (s:RS):Int×RS :=
 if upE d s.a (s.k-1)≠0 then (upE d s.a (s.k-1),.bad) else
 if upE d (s.a+varU d s.a) (s.r-1)≠0 then (upE d (s.a+varU d s.a) (s.r-1),.bad) else
 if upE d (s.a+varU d s.a+varU d (s.a+varU d s.a)) 1≠0 then (upE d (s.a+varU d s.a+varU d (s.a+varU d s.a)) 1,.bad) else
 (0,{ s with x:=varV d s.a,y:=varV d (s.a+varU d s.a),hd:=decide (varV d (s.a+varU d s.a+varU d (s.a+varU d s.a))=1),a:=s.a+varU d s.a+varU d (s.a+varU d s.a)+varU d (s.a+varU d s.a+varU d (s.a+varU d s.a)) })
def th3 (d:List Int) (s:RS):Int×RS :=
 if jcv d s.a 64≠0 then (jcv d s.a 64,.bad) else (0,{ s with ti:=jas (jdz d s.a 64),a:=s.a+jdA d s.a 64 })
def th4 (d:List Int) (s:RS):Int×RS :=
 if upE d s.a 2≠0 then (upE d s.a 2,.bad) else (0,{ s with mo:=varV d s.a,a:=s.a+varU d s.a })
def th5 (d:List Int) (s:RS):Int×RS :=
 if (lkG d s.a s.l).1≠0 then ((lkG d s.a s.l).1,.bad) else (0,{ s with more:=(lkG d s.a s.l).2.2,L:=s.L.map (ulf s.l (lkG d s.a s.l).2.2),a:=(lkG d s.a s.l).2.1 })
def jki (n:Int):Int:=if n % 2=0 then -n / 2 else (n+1) / 2
def th6 (d:List Int) (s:RS):Int×RS :=
 if upE d s.a (2*s.r-2)≠0 then (upE d s.a (2*s.r-2),.bad) else
 if varV d s.a=0 then (3,.bad) else
 (0,{ s with L:=(jbi (jat s.L s.k.toNat s.r.toNat) (jki (varV d s.a))).flatten,a:=s.a+varU d s.a })
def th7 (d:List Int) (s:RS):Int×RS :=
 if (cpsG d s.a s.k.toNat s.r.toNat s.L).1≠0 then ((cpsG d s.a s.k.toNat s.r.toNat s.L).1,.bad) else
 (0,{ s with L:=(cpsG d s.a s.k.toNat s.r.toNat s.L).2.2,a:=(cpsG d s.a s.k.toNat s.r.toNat s.L).2.1 })
def th8 (d:List Int) (s:RS):Int×RS :=
 if (rnsG d s.a s.k.toNat s.more.length s.L).1≠0 then ((rnsG d s.a s.k.toNat s.more.length s.L).1,.bad) else
 (0,{ s with L:=(rnsG d s.a s.k.toNat s.more.length s.L).2.2,a:=(rnsG d s.a s.k.toNat s.more.length s.L).2.1 })
def thG (d:List Int) (kd:Int) (s:RS):Int×RS :=
 if kd=1 then th1 d s else if kd=2 then th2 d s else if kd=3 then th3 d s else if kd=4 then th4 d s else
 if kd=5 then th5 d s else if kd=6 then th6 d s else if kd=7 then th7 d s else th8 d s
end
section
def numN:Nat→Nat→List Int
 | 0,_=>[]
 | k+1,n=>numN k (n / 256)++[((n % 256:Nat):Int)]
def numR (l:List Int):Int:=l.foldl (fun n b=>n*256+b) 0
theorem jkj (l:List Int) (b:Int):numR (l++[b])=numR l*256+b:=by simp[numR]
theorem jbK:∀(k n:Nat),(numN k n).length=k
 | 0,n=>rfl
 | k+1,n=>by simp[numN,jbK k]
theorem jhC:∀(k n:Nat),n<256 ^ k→numR (numN k n)=n
 | 0,n,h=>by
  obtain rfl:n=0:=by simpa using h
  rfl
 | k+1,n,h=>by
  rw[numN,jkj,jhC k (n / 256) (Nat.div_lt_of_lt_mul (by rw[qac,←Nat.pow_succ];exact h))]
  omega
theorem jzy (l:List Int):Bts l→0≤numR l∧numR l<256 ^ l.length:=by
 refine jdN (P:=fun l=>Bts l→0≤numR l∧numR l<256 ^ l.length) (fun _=>by decide) (fun l b ih h=>?_) l
 have h1:=ih fun x hx=>h x (List.mem_append.2 (.inl hx))
 have h2:=h b (List.mem_append.2 (.inr (by simp)))
 rw[jkj,List.length_append,List.length_singleton,Int.pow_succ]
 omega
def numV (d:List Int) (a k:Nat):Int:=numR ((d.drop a).take k)
def cellN (c:CD):List Int:=numN 4 c.rune.toNat++(numN 2 c.fg.toNat++(numN 2 c.bg.toNat++[c.attrs]))
theorem jhD (c:CD):(cellN c).length=9:=by simp[cellN,jbK]
def rowN (L:List CD) (k y:Nat):List Int:=(y:Int)::(jax L k y).flatMap cellN
def difY (k:Nat) (L1 L2:List CD) (y:Nat):Bool:=!decide (jax L2 k y=jax L1 k y)
def ysN (k:Nat) (L1 L2:List CD) (y:Nat):List Nat:=(List.range y).filter (difY k L1 L2)
theorem jmO (k:Nat) (L1 L2:List CD) (y:Nat):ysN k L1 L2 (y+1)=ysN k L1 L2 y++if difY k L1 L2 y then [y] else []:=by
 unfold ysN
 rw[List.range_succ,List.filter_append]
 congr 1
 unfold List.filter
 cases difY k L1 L2 y<;>rfl
theorem juJ (k:Nat) (L1 L2:List CD) (y:Nat):(ysN k L1 L2 y).length≤y:=by
 unfold ysN
 have:=List.length_filter_le (difY k L1 L2) (List.range y)
 rwa [List.length_range]at this
def rwsN (k:Nat) (L1 L2:List CD) (y:Nat):List Int:=(ysN k L1 L2 y).flatMap (rowN L2 k)
def jew (fl:Int) (hd:Bool) (t1 t2:ByteArray):Int:=fl+(if hd then 1 else 0)+(if jdw t2 t1 then 0 else 2)
def tit1 (t1 t2:ByteArray):List Int:=if jdw t2 t1 then [] else (t2.size:Int)::jac t2
def row1 (fl:Int) (k r:Nat) (L1:List CD) (t1:ByteArray) (L2:List CD) (x2 y2:Nat) (hd2:Bool) (t2:ByteArray):List Int :=
 [(k:Int),r,x2,y2,jew fl hd2 t1 t2]++(tit1 t1 t2++(((ysN k L1 L2 r).length:Int)::rwsN k L1 L2 r))
def jBF (k r:Nat) (L:List CD) (x y:Nat) (hd:Bool) (ti:ByteArray):List Int:=row1 4 k r (jah k r) ⟨#[]⟩ L x y hd ti
def jcn (k r:Int) (L:List CD) (x y:Int) (hd:Bool) (mo:Int) (ti:ByteArray) (l:List ByteArray):List Int :=
 if jaC k r L x y mo ti l then jBF k.toNat r.toNat L x.toNat y.toNat hd ti else []
def jd2 (k1 r1:Int) (L1:List CD) (x1 y1:Int) (hd1:Bool) (mo1:Int) (ti1:ByteArray) (l1:List ByteArray) (k2 r2:Int) (L2:List CD) (x2 y2:Int) (hd2:Bool) (mo2:Int) (ti2:ByteArray) (l2:List ByteArray):List Int :=
 if jaC k1 r1 L1 x1 y1 mo1 ti1 l1&&jaC k2 r2 L2 x2 y2 mo2 ti2 l2 then (if k1=k2∧r1=r2 then row1 0 k1.toNat r1.toNat L1 ti1 L2 x2.toNat y2.toNat hd2 ti2 else jcn k2 r2 L2 x2 y2 hd2 mo2 ti2 l2) else []
def jhE (d:List Int) (a:Nat):CD:=⟨IntKind.i32.wrap (numV d a 4),0,numV d (a+4) 2,numV d (a+6) 2,d.getD (a+8) 0,0⟩
def clG (d:List Int):Nat→Nat→Nat→List CD→Int×Nat×List CD
 | 0,a,_,L=>(0,a,L)
 | n+1,a,pos,L=>if d.length<a+9 then (2,0,[]) else if mayB (jhE d a)=false∨256<(jhE d a).fg∨256<(jhE d a).bg then (3,0,[]) else clG d n (a+9) (pos+1) (L.set pos (jhE d a))
def rwG (d:List Int) (k:Nat) (r:Int):Nat→Nat→Int→List CD→Int×Nat×List CD
 | 0,a,_,L=>(0,a,L)
 | n+1,a,last,L=>if d.length≤a then (2,0,[]) else if r≤d.getD a 0∨d.getD a 0≤last then (3,0,[]) else
  if (clG d k (a+1) ((d.getD a 0).toNat*k) L).1≠0 then ((clG d k (a+1) ((d.getD a 0).toNat*k) L).1,0,[]) else
  rwG d k r n (clG d k (a+1) ((d.getD a 0).toNat*k) L).2.1 (d.getD a 0) (clG d k (a+1) ((d.getD a 0).toNat*k) L).2.2
def hd1G (d:List Int) (s:RS):Int×RS :=
 if d.length<5 then (2,.bad) else
 if 7<d.getD 4 0∨jbr (d.getD 0 0) (d.getD 1 0)=false then (3,.bad) else
 if d.getD 4 0<4∧¬(d.getD 0 0=s.k∧d.getD 1 0=s.r) then (15,.bad) else
 (0,⟨d.getD 0 0,d.getD 1 0,if d.getD 4 0<4 then s.L else jah (d.getD 0 0).toNat (d.getD 1 0).toNat,d.getD 2 0,d.getD 3 0,decide (d.getD 4 0 % 2=1),if d.getD 4 0<4 then s.mo else 0,if d.getD 4 0<4 then s.ti else ⟨#[]⟩,if d.getD 4 0<4 then s.l else [],[],5⟩)
def ti1G (d:List Int) (fl:Int) (s:RS):Int×RS :=
 if fl / 2 % 2=1 then (if d.length≤5∨(d.length:Int)<6+d.getD 5 0 then (2,.bad) else (0,{ s with ti:=jas ((d.drop 6).take (d.getD 5 0).toNat),a:=6+(d.getD 5 0).toNat })) else (0,s)
def jcJ (d:List Int) (s:RS):Int×RS :=
 if d.length≤s.a then (2,.bad) else
 if (rwG d s.k.toNat s.r (d.getD s.a 0).toNat (s.a+1) (-1) s.L).1≠0 then ((rwG d s.k.toNat s.r (d.getD s.a 0).toNat (s.a+1) (-1) s.L).1,.bad) else
 if (rwG d s.k.toNat s.r (d.getD s.a 0).toNat (s.a+1) (-1) s.L).2.1<d.length then (6,.bad) else
 (0,{ s with L:=(rwG d s.k.toNat s.r (d.getD s.a 0).toNat (s.a+1) (-1) s.L).2.2 })
def jc3:RS:=⟨0,0,[],0,0,false,0,bs [],[],[],0⟩
def ap1G (d:List Int) (s:RS):Int×RS :=
 if jaC s.k s.r s.L s.x s.y s.mo s.ti s.l=false then (1,jc3) else
 if (hd1G d s).1≠0 then ((hd1G d s).1,jc3) else
 if (ti1G d (d.getD 4 0) (hd1G d s).2).1≠0 then ((ti1G d (d.getD 4 0) (hd1G d s).2).1,jc3) else
 if (jcJ d (ti1G d (d.getD 4 0) (hd1G d s).2).2).1≠0 then ((jcJ d (ti1G d (d.getD 4 0) (hd1G d s).2).2).1,jc3) else
 if jaC (jcJ d (ti1G d (d.getD 4 0) (hd1G d s).2).2).2.k (jcJ d (ti1G d (d.getD 4 0) (hd1G d s).2).2).2.r (jcJ d (ti1G d (d.getD 4 0) (hd1G d s).2).2).2.L (jcJ d (ti1G d (d.getD 4 0) (hd1G d s).2).2).2.x (jcJ d (ti1G d (d.getD 4 0) (hd1G d s).2).2).2.y (jcJ d (ti1G d (d.getD 4 0) (hd1G d s).2).2).2.mo (jcJ d (ti1G d (d.getD 4 0) (hd1G d s).2).2).2.ti (jcJ d (ti1G d (d.getD 4 0) (hd1G d s).2).2).2.l=false then (3,jc3) else
 (0,(jcJ d (ti1G d (d.getD 4 0) (hd1G d s).2).2).2)
end
end Go.Proofs.YtienkkicehmchaaGreatDoor
