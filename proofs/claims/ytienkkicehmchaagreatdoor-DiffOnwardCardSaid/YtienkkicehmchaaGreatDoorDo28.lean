/- Texts of this claim, merged by a program of this claim: EncM, LenM2, RnE, KRunsL. -/
import Derived.Test.YtienkkicehmchaaGreatDoorDo13
import Derived.Test.YtienkkicehmchaaGreatDoorDo15
import Derived.Test.YtienkkicehmchaaGreatDoorDo17
import Derived.Test.YtienkkicehmchaaGreatDoorDo26
import Derived.Test.YtienkkicehmchaaGreatDoorDo27
import Derived.Test.YtienkkicehmchaaGreatDoorDo5
namespace Go.Proofs.YtienkkicehmchaaGreatDoor
open List renaming length_cons→qaa,length_append→qab,flatMap_cons→qad,length_nil→qaf,flatMap_nil→qag
open Int renaming toNat_natCast→qac
open Bool renaming and_eq_true→qae
set_option linter.unusedVariables false
set_option linter.unusedSimpArgs false
section
theorem jxv {k r:Int}{L:List CD}{x y:Int}{hd:Bool}{mo:Int}{ti:ByteArray}{l:List ByteArray}(hs:ScrOk L l) (hmo:0≤mo):(jdy k r L x y hd mo ti l).length≤200000:=by
 cases hr:jal k r L x y mo ti l
 ·rw[jdy,if_neg (by rw[hr];decide)]
  simp
 ·have hr2:=hr
  obtain⟨K,R,X,Y,M,rfl,rfl,rfl,rfl,rfl,f⟩:=jan hr hmo
  rw[jdy,if_pos hr2]
  have hx:=f.x1
  have hy:=f.y1
  have hm:=f.mo1
  have hk:=f.k1
  have hrr:=f.r1
  have hdl:=jj7 (L1:=jah K R) (x1:=0) (y1:=0) (hd1:=false) (m1:=0) (t1:=bs []) (l1:=[]) (L2:=L) (x2:=X) (y2:=Y) (hd2:=hd) (m2:=M) (t2:=ti) (l2:=l) (k:=K) (r:=R) (by simp[jah]) (by omega) hrr f.len hs.wf (by omega) (by omega) (by omega) f.ti1 f.l1 f.s64
  have hvl:=jbe [K,R] (fun u hu=>by simp at hu;omega)
  simp only[qaa,qaf]at hvl
  simp only[qac,jt8,qab,qaa]
  have:(jga K R (jah K R) 0 0 false 0 ⟨#[]⟩ [] L X Y hd M ti l).length≤133000:=hdl
  omega
theorem enc_len {k r:Int}{L:List CD}{x y:Int}{hd:Bool}{mo:Int}{ti:ByteArray}{l:List ByteArray}{k' r':Int}{L':List CD}{x' y':Int}{hd':Bool}{mo':Int}{ti':ByteArray}{l':List ByteArray}(hs:ScrOk L l) (hmo:0≤mo) (hs':ScrOk L' l') (hmo':0≤mo'):(encI k r L x y hd mo ti l k' r' L' x' y' hd' mo' ti' l').length≤200000:=by
 cases hr:(jal k r L x y mo ti l&&jal k' r' L' x' y' mo' ti' l')
 ·rw[encI,if_neg (by rw[hr];decide)]
  simp
 ·rw[encI,if_pos hr]
  by_cases h:k=k'∧r=r'
  ·rw[if_pos h]
   rw[qae]at hr
   obtain⟨K,R,X,Y,M,rfl,rfl,rfl,rfl,rfl,f⟩:=jan hr.1 hmo
   obtain⟨K2,R2,X2,Y2,M2,e1,e2,rfl,rfl,rfl,f2⟩:=jan hr.2 hmo'
   obtain rfl:K=K2:=by omega
   obtain rfl:R=R2:=by omega
   simp only[qac]
   have hx:=f2.x1
   have hy:=f2.y1
   have hm:=f2.mo1
   have hk:=f2.k1
   have hrr:=f2.r1
   have:=jj7 (L1:=L) (x1:=X) (y1:=Y) (hd1:=hd) (m1:=M) (t1:=ti) (l1:=l) (L2:=L') (x2:=X2) (y2:=Y2) (hd2:=hd') (m2:=M2) (t2:=ti') (l2:=l') (k:=K) (r:=R) f.len (by omega) f2.r1 f2.len hs'.wf (by omega) (by omega) (by omega) f2.ti1 f2.l1 f2.s64
   omega
  ·rw[if_neg h]
   exact jxv hs' hmo'
theorem jaU {a b:List Int}(h1:Bts a) (h2:Bts b):Bts (a++b):=fun x hx=>(List.mem_append.1 hx).elim (h1 x) (h2 x)
theorem jaE {x:Int}{a:List Int}(h1:0≤x∧x<256) (h2:Bts a):Bts (x::a):=fun y hy=>(List.mem_cons.1 hy).elim (fun e=>e▸h1) (h2 y)
theorem jaI:Bts []:=fun x hx=>by cases hx
theorem je2 (n:Nat):Bts (varN n):=by
 induction n using Nat.strongRecOn with
 | ind n ih =>
  by_cases h:n<128
  ·rw[jda h]
   exact jaE (by omega) jaI
  ·rw[jfU h]
   exact jaE (by omega) (ih _ (by omega))
theorem jf2 {α:Type}{l:List α}{f:α→List Int}(h:∀x∈l,Bts (f x)):Bts (l.flatMap f):=fun y hy=>by
 obtain⟨x,hx,h2⟩:=List.mem_flatMap.1 hy
 exact h x hx y h2
theorem jbI (l:List Nat):Bts (jar l):=jf2 fun x _=>je2 x
theorem jmZ (t:ByteArray):Bts (jf8 (jac t)):=jaU (je2 _) fun x hx=>by
 have h:=jdj t x hx
 obtain⟨h1,h2⟩:=h
 exact⟨h1,h2⟩
theorem jqW (W:List CD):∀(f bh:Nat) (l:List Nat),Bts (layR W f bh l).1
 | 0,_,_=>jaI
 | f+1,bh,[]=>jaI
 | f+1,bh,x::l=>by
  rw[layR]
  exact jaU (jbI _) (jaU (jf2 fun y _=>je2 _) (jqW W f _ _))
theorem jqX (k r:Nat) (L1:List CD) (x1 y1:Nat) (hd1:Bool) (m1:Nat) (t1:ByteArray) (l1:List ByteArray) (L2:List CD) (x2 y2:Nat) (hd2:Bool) (m2:Nat) (t2:ByteArray) (l2:List ByteArray) :
  Bts (jga k r L1 x1 y1 hd1 m1 t1 l1 L2 x2 y2 hd2 m2 t2 l2):=by
 unfold jga jr0 celB curB titB mouB linB scrB jj2 jbU texB
 refine jaU (jaU (jaU (jaU ?_ ?_) ?_) ?_) (jaU (jaU ?_ ?_) ?_)
 ·split
  ·exact jaE (by omega) (jbI _)
  ·exact jaI
 ·split
  ·exact jaI
  ·exact jaE (by omega) (jmZ _)
 ·split
  ·exact jaI
  ·exact jaE (by omega) (jbI _)
 ·split
  ·exact jaI
  ·exact jaE (by omega) (jaU (jbI _) (jf2 fun t _=>jmZ t))
 ·split
  ·exact jaI
  ·exact jaE (by omega) (jbI _)
 ·split
  ·exact jaI
  ·exact jaE (by omega) (jaU (je2 _) (jbI _))
 ·dsimp only
  split
  ·exact jaI
  ·exact jaE (by omega) (jaU (je2 _) (jqW _ _ _ _))
theorem jqY (k r:Int) (L:List CD) (x y:Int) (hd:Bool) (mo:Int) (ti:ByteArray) (l:List ByteArray):Bts (jdy k r L x y hd mo ti l):=by
 unfold jdy jt8
 split
 ·exact jaU (jaE (by omega) (jbI _)) (jqX _ _ _ _ _ _ _ _ _ _ _ _ _ _ _ _)
 ·exact jaI
theorem jzS (k r:Int) (L:List CD) (x y:Int) (hd:Bool) (mo:Int) (ti:ByteArray) (l:List ByteArray) (k' r':Int) (L':List CD) (x' y':Int) (hd':Bool) (mo':Int) (ti':ByteArray) (l':List ByteArray):Bts (encI k r L x y hd mo ti l k' r' L' x' y' hd' mo' ti' l'):=by
 unfold encI
 split
 ·split
  ·exact jqX _ _ _ _ _ _ _ _ _ _ _ _ _ _ _ _
  ·exact jqY _ _ _ _ _ _ _ _ _
 ·exact jaI
end
section
theorem jjd:∀(k n:Nat),Bts (numN k n)
 | 0,_=>jaI
 | k+1,n=>jaU (jjd k _) (jaE (by omega) jaI)
theorem jzT (t:ByteArray):Bts (jac t):=fun x hx=>by
 have h:=jdj t x hx
 obtain⟨h1,h2⟩:=h
 exact⟨h1,h2⟩
theorem jxw {c:CD}(h:CWf c):Bts (cellN c):=jaU (jjd _ _) (jaU (jjd _ _) (jaU (jjd _ _) (jaE h.attrs jaI)))
theorem jvd {fl:Int}(h:fl=0∨fl=4) (hd:Bool) (t1 t2:ByteArray):0≤jew fl hd t1 t2∧jew fl hd t1 t2<256:=by
 have:=jlK h hd t1 t2
 omega
theorem jlM {fl:Int}(hfl:fl=0∨fl=4){k r:Nat}{L1 L2:List CD}{x2 y2:Nat}{hd2:Bool}{t1 t2:ByteArray}(hk:k≤80) (hr:r≤24) (hx:x2<80) (hy:y2<24) (ht:t2.size≤64) (hw:∀c∈L2,CWf c) :
  (row1 fl k r L1 t1 L2 x2 y2 hd2 t2).length≤33792∧Bts (row1 fl k r L1 t1 L2 x2 y2 hd2 t2):=by
 have hys:=juJ k L1 L2 r
 have hrow:∀y,(rowN L2 k y).length≤721:=fun y=>by
  have h1:(jax L2 k y).length≤k:=by unfold jax;rw[List.length_take];omega
  have h2:∀l:List CD,(l.flatMap cellN).length=9*l.length:=fun l=>by
   induction l with
   | nil=>rfl
   | cons c l ih=>rw[qad,qab,ih,jhD,qaa];omega
  unfold rowN
  rw[qaa,h2]
  omega
 have hrws:∀l:List Nat,(l.flatMap (rowN L2 k)).length≤721*l.length:=fun l=>by
  induction l with
  | nil=>simp
  | cons y l ih =>
   have:=hrow y
   rw[qad,qab,qaa]
   omega
 have h3:=hrws (ysN k L1 L2 r)
 have hti:(tit1 t1 t2).length≤65∧Bts (tit1 t1 t2):=by
  unfold tit1
  split
  ·exact⟨by simp,jaI⟩
  ·exact⟨by rw[qaa,jay];omega,jaE (by omega) (jzT _)⟩
 refine⟨?_,?_⟩
 ·unfold row1 rwsN
  simp only[qab,qaa,qaf]
  omega
 ·unfold row1
  refine jaU (jaE (by omega) (jaE (by omega) (jaE (by omega) (jaE (by omega) (jaE (jvd hfl _ _ _) jaI))))) (jaU hti.2 (jaE (by omega) (jf2 fun y hy=>?_)))
  have hy2:y<r:=by
   unfold ysN at hy
   exact List.mem_range.1 (List.mem_filter.1 hy).1
  exact jaE (by omega) (jf2 fun c hc=>jxw (hw c (jej hc)))
section
variable {k r:Int}{L:List CD}{x y:Int}{hd:Bool}{mo:Int}{ti:ByteArray}{l:List ByteArray}
theorem jkz (hw:∀c∈L,CWf c) (hmo:0≤mo):(jcn k r L x y hd mo ti l).length≤33792∧Bts (jcn k r L x y hd mo ti l):=by
 unfold jcn
 split
 ·rename_i h
  obtain⟨h1,_,_,_⟩:=jcy h hw hmo
  obtain⟨K,R,X,Y,M,rfl,rfl,rfl,rfl,rfl,f⟩:=jan h1 hmo
  simp only[qac]
  have hk:=f.k1
  have hr:=f.r1
  have hx:=f.x1
  have hy:=f.y1
  exact jlM (.inr rfl) hk.2 hr.2 (by omega) (by omega) f.ti1 hw
 ·exact⟨by simp,jaI⟩
variable {k' r':Int}{L':List CD}{x' y':Int}{hd':Bool}{mo':Int}{ti':ByteArray}{l':List ByteArray}
theorem jsm (hw:∀c∈L',CWf c) (hmo:0≤mo'):(jd2 k r L x y hd mo ti l k' r' L' x' y' hd' mo' ti' l').length≤33792∧Bts (jd2 k r L x y hd mo ti l k' r' L' x' y' hd' mo' ti' l'):=by
 unfold jd2
 split
 ·rename_i h
  rw[qae]at h
  split
  ·rename_i he
   obtain⟨rfl,rfl⟩:=he
   obtain⟨h1,_,_,_⟩:=jcy h.2 hw hmo
   obtain⟨K,R,X,Y,M,rfl,rfl,rfl,rfl,rfl,f⟩:=jan h1 hmo
   simp only[qac]
   have hk:=f.k1
   have hr:=f.r1
   have hx:=f.x1
   have hy:=f.y1
   exact jlM (.inl rfl) hk.2 hr.2 (by omega) (by omega) f.ti1 hw
  ·exact jkz hw hmo
 ·exact⟨by simp,jaI⟩
end
section
variable {W:List CD}
theorem joo (hT:All2 W):∀l:List Nat,(∀x∈l,x<W.length)→(jbE W l).length≤3*l.length
 | [],_=>by simp[jbE]
 | x::l,h=>by
  have h1:=joo hT l fun y hy=>h y (by simp[hy])
  have hc:=hT.at_ (h x (by simp))
  have hw:=jfF hc.may (by rw[hc.wide];decide)
  have h2:=jf1 (c:=(cAt W x).rune) (by have:=hc.wide;omega)
  have h3:=jye (n:=(cAt W x).rune.toNat) (by omega)
  have e:jbE W (x::l)=varN (cAt W x).rune.toNat++jbE W l:=by simp[jbE]
  rw[e,qab,qaa]
  omega
theorem jxx (hT:All2 W){x:Nat}(hx:x<W.length):(jar (pen3 (cAt W x).pen)).length≤10:=by
 have hc:=hT.at_ hx
 have hm:=hc.may
 unfold mayB penB at hm
 simp only[qae]at hm
 have c1:=je1 hm.1.1
 have c2:=je1 hm.1.2
 have e1:=hc.wf.attrs
 simp only[CD.pen]at c1 c2
 have a1:=jqR (n:=(cAt W x).fg.toNat) (by omega)
 have a2:=jqR (n:=(cAt W x).bg.toNat) (by omega)
 have a3:=jiK (n:=(cAt W x).attrs.toNat) (by omega)
 simp only[pen3,CD.pen,jar,qad,qag,qab,qaf]
 omega
theorem jhH (hT:All2 W):∀(f bh:Nat) (l:List Nat),(∀x∈l,x<W.length)→l.length≤2000→(lay3 W f bh l).1.length≤16*l.length∧(lay3 W f bh l).2≤l.length
 | 0,bh,l,_,_=>by simp[lay3]
 | f+1,bh,[],_,_=>by simp[lay3]
 | f+1,bh,x::l,h,hl=>by
  have hx:=h x (by simp)
  have hlen:=jbT W (cAt W x).pen (x::l) x
  have hpos:1≤(runP W (cAt W x).pen x (x::l)).1.length:=by
   rw[(jbD W x l).1,qaa]
   omega
  have happ:=ji8 W (cAt W x).pen (x::l) x
  have q1:∀y∈(runP W (cAt W x).pen x (x::l)).1,y<W.length:=fun y hy=>h y (by rw[←happ];exact List.mem_append.2 (.inl hy))
  have q2:∀y∈(runP W (cAt W x).pen x (x::l)).2.2,y<W.length:=fun y hy=>h y (by rw[←happ];exact List.mem_append.2 (.inr hy))
  have h1:=joo hT _ q1
  have h2:=jhH hT f (runP W (cAt W x).pen x (x::l)).2.1 _ q2 (by omega)
  have h3:=jxx hT hx
  have hsm:=hT.small
  have h4:=jiK (n:=x-bh) (by omega)
  have h5:(varN (runP W (cAt W x).pen x (x::l)).1.length).length≤1∨(128≤(runP W (cAt W x).pen x (x::l)).1.length∧(varN (runP W (cAt W x).pen x (x::l)).1.length).length≤2):=by
   rcases Nat.lt_or_ge (runP W (cAt W x).pen x (x::l)).1.length 128 with q|q
   ·exact .inl (jdo q)
   ·exact .inr ⟨q,jiK (by omega)⟩
  rw[lay3]
  simp only[jhB,qab]
  have e:(jar [x-bh,(runP W (cAt W x).pen x (x::l)).1.length]).length=(varN (x-bh)).length+(varN (runP W (cAt W x).pen x (x::l)).1.length).length:=by simp[jar]
  rw[e]
  omega
theorem jqZ (W:List CD):∀(f bh:Nat) (l:List Nat),Bts (lay3 W f bh l).1
 | 0,_,_=>jaI
 | f+1,bh,[]=>jaI
 | f+1,bh,x::l=>by
  rw[lay3]
  exact jaU (jbI _) (jaU (jf2 fun y _=>je2 _) (jqZ W f _ _))
theorem jkA {C:List CD}(hT:All2 W):(jiL C W).length≤32003∧Bts (jiL C W):=by
 have hsm:=hT.small
 have hr:(rem (jaj C W) (jaa W) W.length 0).length≤W.length:=jbC
 have hm:∀x∈rem (jaj C W) (jaa W) W.length 0,x<W.length:=fun x hx=>(jeR (fun i=>(jao W i).1) hx).2.1
 have h1:=jhH hT (rem (jaj C W) (jaa W) W.length 0).length 0 _ hm (by omega)
 have h2:=jqZ W (rem (jaj C W) (jaa W) W.length 0).length 0 (rem (jaj C W) (jaa W) W.length 0)
 unfold jiL
 split
 ·exact⟨by simp,jaI⟩
 ·have h3:=jiK (n:=(jiT C W).2) (by unfold jiT;omega)
  refine⟨?_,jaE (by omega) (jaU (je2 _) h2)⟩
  have h4:(jiT C W).1.length≤16*(rem (jaj C W) (jaa W) W.length 0).length:=h1.1
  simp only[qaa,qab]
  omega
theorem jgS {L1:List CD}{x1 y1:Nat}{hd1:Bool}{m1:Nat}{t1:ByteArray}{x2 y2:Nat}{hd2:Bool}{m2:Nat}{t2:ByteArray}(hT:All2 W) (hx:x2<80) (hy:y2<24) (hm:m2≤2) (ht:t2.size≤64) :
  (jih L1 x1 y1 hd1 m1 t1 W x2 y2 hd2 m2 t2).length≤32075∧Bts (jih L1 x1 y1 hd1 m1 t1 W x2 y2 hd2 m2 t2):=by
 have a1:=ju8 (x1:=x1) (y1:=y1) (hd1:=hd1) (hd2:=hd2) hx hy
 have a2:=ju9 (t1:=t1) ht
 have a3:=jva (m1:=m1) hm
 obtain⟨a4,a5⟩:=jkA (C:=L1) hT
 unfold jih
 refine⟨?_,jaU (jaU (jaU ?_ ?_) ?_) a5⟩
 ·simp only[qab]
  omega
 ·unfold curB
  split
  ·exact jaE (by omega) (jbI _)
  ·exact jaI
 ·unfold titB
  split
  ·exact jaI
  ·exact jaE (by omega) (jmZ _)
 ·unfold mouB
  split
  ·exact jaI
  ·exact jaE (by omega) (jbI _)
end
section
variable {k r:Int}{L:List CD}{x y:Int}{hd:Bool}{mo:Int}{ti:ByteArray}{l:List ByteArray}
theorem jkB (hw:∀c∈L,CWf c) (hmo:0≤mo):(jcp k r L x y hd mo ti l).length≤33792∧Bts (jcp k r L x y hd mo ti l):=by
 unfold jcp
 split
 ·rename_i h
  obtain⟨h1,_,hT⟩:=jbH h hw hmo
  obtain⟨K,R,X,Y,M,rfl,rfl,rfl,rfl,rfl,f⟩:=jan h1 hmo
  simp only[qac]
  have hk:=f.k1
  have hr:=f.r1
  have hx:=f.x1
  have hy:=f.y1
  have a8:=jdo (n:=K) (by omega)
  have a9:=jdo (n:=R) (by omega)
  obtain⟨h3,h4⟩:=jgS (L1:=jah K R) (x1:=0) (y1:=0) (hd1:=false) (m1:=0) (t1:=⟨#[]⟩) (hd2:=hd) hT (show X<80 by omega) (show Y<24 by omega) f.mo1 f.ti1
  refine⟨?_,jaU (jaE (by omega) (jbI _)) h4⟩
  unfold jzO
  simp only[jar,qad,qag,qab,qaf,qaa]
  omega
 ·exact⟨by simp,jaI⟩
variable {k' r':Int}{L':List CD}{x' y':Int}{hd':Bool}{mo':Int}{ti':ByteArray}{l':List ByteArray}
theorem jsn (hw:∀c∈L',CWf c) (hmo:0≤mo'):(jd4 k r L x y hd mo ti l k' r' L' x' y' hd' mo' ti' l').length≤33792∧Bts (jd4 k r L x y hd mo ti l k' r' L' x' y' hd' mo' ti' l'):=by
 unfold jd4
 split
 ·rename_i h
  rw[qae]at h
  split
  ·rename_i he
   obtain⟨rfl,rfl⟩:=he
   obtain⟨h1,_,hT⟩:=jbH h.2 hw hmo
   obtain⟨K,R,X,Y,M,rfl,rfl,rfl,rfl,rfl,f⟩:=jan h1 hmo
   simp only[qac]
   have hk:=f.k1
   have hr:=f.r1
   have hx:=f.x1
   have hy:=f.y1
   have:=jgS (L1:=L) (x1:=x.toNat) (y1:=y.toNat) (hd1:=hd) (m1:=mo.toNat) (t1:=ti) (hd2:=hd') hT (show X<80 by omega) (show Y<24 by omega) f.mo1 f.ti1
   exact⟨by omega,this.2⟩
  ·exact jkB hw hmo
 ·exact⟨by simp,jaI⟩
end
section
variable {k r:Int}{L:List CD}{x y:Int}{hd:Bool}{mo:Int}{ti:ByteArray}{l:List ByteArray}{k' r':Int}{L':List CD}{x' y':Int}{hd':Bool}{mo':Int}{ti':ByteArray}{l':List ByteArray}
theorem jq0 (hA:jaC k r L x y mo ti l=true) (hB:jaC k' r' L' x' y' mo' ti' l'=true) (hm':0≤mo') (hw:∀c∈L',CWf c) :
  ∃a',ap1G (jcn k' r' L' x' y' hd' mo' ti' l') ⟨k,r,L,x,y,hd,mo,ti,l,[],0⟩=(0,⟨k',r',L',x',y',hd',mo',ti',[],[],a'⟩)∧l'=[]:=by
 have hB2:=hB
 obtain⟨h1,h2,h3,_⟩:=jcy hB hw hm'
 subst h2
 subst h3
 obtain⟨K,R,X,Y,M,rfl,rfl,rfl,rfl,e5,f⟩:=jan h1 hm'
 obtain⟨a',h⟩:=jlL (fl:=4) (.inr rfl) (s:=⟨k,r,L,x,y,hd,mo,ti,l,[],0⟩) (k:=K) (r:=R) (L1:=jah K R) (t1:=⟨#[]⟩) (hd2:=hd') (d:=jcn K R L' X Y hd' 0 ti' []) (fun e=>by cases e) (fun _=>⟨rfl,rfl⟩) (by simp[jah]) hA hB2 hw (by rw[jcn,if_pos hB2];rfl)
 exact⟨a',h,rfl⟩
theorem jzU (hA:jaC k r L x y mo ti l=true) (hm:0≤mo) (hwA:∀c∈L,CWf c) (hB:jaC k' r' L' x' y' mo' ti' l'=true) (hm':0≤mo') (hw:∀c∈L',CWf c) :
  ∃a',ap1G (jd2 k r L x y hd mo ti l k' r' L' x' y' hd' mo' ti' l') ⟨k,r,L,x,y,hd,mo,ti,l,[],0⟩=(0,⟨k',r',L',x',y',hd',mo',ti',[],[],a'⟩)∧l'=[]:=by
 by_cases h:k=k'∧r=r'
 ·obtain⟨rfl,rfl⟩:=h
  have hA2:=hA
  have hB2:=hB
  obtain⟨g1,g2,g3,_⟩:=jcy hA hwA hm
  subst g2
  subst g3
  obtain⟨h1,h2,h3,_⟩:=jcy hB hw hm'
  subst h2
  subst h3
  obtain⟨K,R,X,Y,M,rfl,rfl,rfl,rfl,e5,f⟩:=jan g1 hm
  obtain⟨K2,R2,X2,Y2,M2,e1,e2,rfl,rfl,e6,f2⟩:=jan h1 hm'
  obtain⟨a',h⟩:=jlL (fl:=0) (.inl rfl) (s:=⟨K,R,L,X,Y,hd,0,ti,[],[],0⟩) (k:=K) (r:=R) (L1:=L) (t1:=ti) (hd2:=hd') (d:=jd2 K R L X Y hd 0 ti [] K R L' X2 Y2 hd' 0 ti' []) (fun _=>⟨rfl,rfl,rfl,rfl,rfl,rfl⟩) (fun e=>by cases e) f.len hA2 hB2 hw (by rw[jd2,if_pos (by rw[hA2,hB2];rfl),if_pos ⟨rfl,rfl⟩];rfl)
  exact⟨a',h,rfl⟩
 ·rw[jd2,if_pos (by rw[hA,hB];rfl),if_neg h]
  exact jq0 hA hB hm' hw
theorem jyf {d:List Int}{s b:RS}(h1:jaB s.k s.r s.L s.x s.y s.mo s.ti s.l=true) (h:goR d 6 0 { s with a:=0 }=(0,b)) (h2:jaB b.k b.r b.L b.x b.y b.mo b.ti b.l=true):ap2G d s=(0,b):=by
 unfold ap2G
 rw[if_neg (by rw[h1];decide),h,if_neg (fun q=>q rfl),if_neg (by rw[h2];decide)]
theorem jq1 (hA:jaB k r L x y mo ti l=true) (hB:jaB k' r' L' x' y' mo' ti' l'=true) (hm':0≤mo') (hw:∀c∈L',CWf c) :
  ∃a',ap2G (jcp k' r' L' x' y' hd' mo' ti' l') ⟨k,r,L,x,y,hd,mo,ti,l,[],0⟩=(0,⟨k',r',L',x',y',hd',mo',ti',[],[],a'⟩)∧l'=[]:=by
 have hB2:=hB
 obtain⟨h1,h2,hT⟩:=jbH hB hw hm'
 subst h2
 obtain⟨K,R,X,Y,M,rfl,rfl,rfl,rfl,rfl,f⟩:=jan h1 hm'
 obtain⟨a',h⟩:=jpF (d:=jcp K R L' X Y hd' M ti' []) (hd2:=hd') ⟨k,r,L,x,y,hd,mo,ti,l,[],0⟩ rfl f hT (by rw[jcp,if_pos hB2];rfl)
 exact⟨a',jyf hA h hB2,rfl⟩
theorem jzV (hA:jaB k r L x y mo ti l=true) (hm:0≤mo) (hwA:∀c∈L,CWf c) (hB:jaB k' r' L' x' y' mo' ti' l'=true) (hm':0≤mo') (hw:∀c∈L',CWf c) :
  ∃a',ap2G (jd4 k r L x y hd mo ti l k' r' L' x' y' hd' mo' ti' l') ⟨k,r,L,x,y,hd,mo,ti,l,[],0⟩=(0,⟨k',r',L',x',y',hd',mo',ti',[],[],a'⟩)∧l'=[]:=by
 by_cases h:k=k'∧r=r'
 ·obtain⟨rfl,rfl⟩:=h
  have hA2:=hA
  have hB2:=hB
  obtain⟨g1,g2,_⟩:=jbH hA hwA hm
  subst g2
  obtain⟨h1,h2,hT⟩:=jbH hB hw hm'
  subst h2
  obtain⟨K,R,X,Y,M,rfl,rfl,rfl,rfl,rfl,f1⟩:=jan g1 hm
  obtain⟨K2,R2,X2,Y2,M2,e1,e2,rfl,rfl,rfl,f2⟩:=jan h1 hm'
  obtain rfl:K=K2:=by omega
  obtain rfl:R=R2:=by omega
  obtain⟨a',h⟩:=jky (d:=jd4 K R L X Y hd M ti [] K R L' X2 Y2 hd' M2 ti' []) (a:=0) (f:=6) (last:=0) (x1:=X) (y1:=Y) (hd1:=hd) (m1:=M) (t1:=ti) (hd2:=hd') (l1:=[]) (mr:=[]) (by omega) (by omega) f1.len f2 hT (by rw[jd4,if_pos (by rw[hA2,hB2];rfl),if_pos ⟨rfl,rfl⟩];rfl)
  exact⟨a',jyf hA2 h hB2,rfl⟩
 ·rw[jd4,if_pos (by rw[hA,hB];rfl),if_neg h]
  exact jq1 hA hB hm' hw
end
end
section
theorem jgT (W:List CD):∀(f g bh:Nat) (l:List Nat),l.length≤f→l.length≤g→lay3 W f bh l=lay3 W g bh l
 | _,_,bh,[],_,_=>by rw[jhG,jhG]
 | 0,_,bh,x::l,h,_=>by simp at h
 | f+1,0,bh,x::l,_,h=>by simp at h
 | f+1,g+1,bh,x::l,h1,h2=>by
  have hh:=(jbD W x l).1
  have hl:=jbT W (cAt W x).pen (x::l) x
  rw[hh]at hl
  simp only[qaa]at hl h1 h2
  rw[lay3,lay3,jgT W f g _ (runP W (cAt W x).pen x (x::l)).2.2 (by omega) (by omega)]
structure Out3 (W:List CD) (oth:Nat→Bool) (i bh nn:Nat) (bs:List Int):Prop where
 le:bh≤i∧i≤W.length
 bytes:bs++(lay3 W W.length bh (rem oth (jaa W) W.length i)).1=(lay3 W W.length 0 (rem oth (jaa W) W.length 0)).1
 num:nn+(lay3 W W.length bh (rem oth (jaa W) W.length i)).2=(lay3 W W.length 0 (rem oth (jaa W) W.length 0)).2
theorem Out3.skip {W:List CD}{oth:Nat→Bool}{i bh nn:Nat}{bs:List Int}(h:Out3 W oth i bh nn bs) (hi:i<W.length) (ho:oth i=false) (hv:i+jaa W i≤W.length):Out3 W oth (i+jaa W i) bh nn bs:=by
 have hr:=jcA (oth:=oth) (fun i=>(jao W i).1) hi
 rw[ho]at hr
 simp only[Bool.false_eq_true,if_false,List.nil_append]at hr
 have h1:=h.bytes
 have h2:=h.num
 rw[hr]at h1 h2
 exact⟨⟨by have:=h.le;omega,hv⟩,h1,h2⟩
theorem Out3.go {W:List CD}{oth:Nat→Bool}{i bh nn j kk:Nat}{bs rb:List Int}(h:Out3 W oth i bh nn bs) (hi:i<W.length) (ho:oth i=true) (hin:Inn W (cAt W i).pen oth i j kk rb) (hs:¬(j<W.length∧oth j=true∧(cAt W j).pen=(cAt W i).pen)) :
  Out3 W oth j j (nn+1) (bs++jar ([i-bh,kk]++pen3 (cAt W i).pen)++rb):=by
 obtain⟨e1,e2,e3⟩:=hin.done hs
 have hr:=jcA (oth:=oth) (fun i=>(jao W i).1) hi
 rw[if_pos ho]at hr
 obtain⟨l,hl⟩:∃l,rem oth (jaa W) W.length i=i::l:=⟨_,hr⟩
 have hc:=jbT W (cAt W i).pen (i::l) i
 have hh:=(jbD W i l).1
 have hlen:(i::l).length≤W.length:=by rw[←hl];exact jbC
 rw[hl]at e1 e2 e3
 have hlay:lay3 W W.length bh (i::l)=(jar ([i-bh,kk]++pen3 (cAt W i).pen)++(rb++(lay3 W W.length j (rem oth (jaa W) W.length j)).1),(lay3 W W.length j (rem oth (jaa W) W.length j)).2+1):=by
  obtain⟨f,hf⟩:∃f,W.length=f+1:=⟨W.length-1,by omega⟩
  have e5:lay3 W W.length j (rem oth (jaa W) W.length j)=lay3 W f j (rem oth (jaa W) W.length j):=by
   have hrl:(rem oth (jaa W) W.length j).length≤f:=by
    rw[hh,e3]at hc
    simp only[qaa]at hc hlen
    omega
   exact jgT W _ _ _ _ (by omega) hrl
  rw[e5]
  conv=>lhs;rw[hf]
  rw[lay3,←e1,←e2,e3]
 have h1:=h.bytes
 have h2:=h.num
 rw[hl,hlay]at h1 h2
 refine⟨⟨Nat.le_refl _,hin.le.2⟩,?_,?_⟩
 ·rw[←h1]
  simp
 ·simp only at h2
  omega
theorem Out3.done {W:List CD}{oth:Nat→Bool}{i bh nn:Nat}{bs:List Int}(h:Out3 W oth i bh nn bs) (hi:W.length≤i):bs=(lay3 W W.length 0 (rem oth (jaa W) W.length 0)).1∧nn=(lay3 W W.length 0 (rem oth (jaa W) W.length 0)).2:=by
 have h1:=h.bytes
 have h2:=h.num
 rw[jgG hi,jhG]at h1 h2
 simp at h1 h2
 exact⟨h1,h2⟩
theorem Out3.small {W:List CD}(hT:All2 W){oth:Nat→Bool}{i bh nn:Nat}{bs:List Int}(h:Out3 W oth i bh nn bs):bs.length≤33000∧nn≤2000:=by
 have hs:=hT.small
 have hr:(rem oth (jaa W) W.length 0).length≤W.length:=jbC
 have h1:=jhH hT W.length 0 (rem oth (jaa W) W.length 0) (fun x hx=>(jeR (fun i=>(jao W i).1) hx).2.1) (by omega)
 have h2:=congrArg List.length h.bytes
 have h3:=h.num
 rw[qab]at h2
 omega
theorem jxy (C W:List CD):jiT C W=lay3 W W.length 0 (rem (jaj C W) (jaa W) W.length 0):=by
 unfold jiT
 rw[jgT W _ W.length 0 _ (Nat.le_refl _) jbC]
theorem jzW {C W:List CD}(hT:All2 W) (hl:C.length=W.length){i:Nat}(hi:i<W.length):jaj C W i=!decide (C.getD i default=W.getD i default):=by
 unfold jaj
 rw[hT.one hi]
 have e:∀X:List CD,i<X.length→(X.drop i).take 1=[X.getD i default]:=fun X h=>by
  rw[List.drop_eq_getElem_cons h,List.take_succ_cons,List.take_zero]
  simp[h]
 rw[e C (by omega),e W hi]
 simp
def runB (W:List CD) (i:Nat) (n:Nat):List Int:=jbE W (List.range' i n)
theorem jkC (W:List CD) (i n:Nat):runB W i (n+1)=runB W i n++varN (cAt W (i+n)).rune.toNat:=by
 unfold runB jbE
 rw[List.range'_concat,List.flatMap_append]
 simp
end
section
open Go.RowKit
set_option maxRecDepth 100000
def z109_10:LC:=.seq (.stm [5,7,10,11,12] [sd 14 (.ixS 1 10 12),kL 15 1 14,kM 7 15]) (.stm [5,10,11,12] [kM 16 5,kM 17 7,sd 18 (.conv .u64 true 17),sd 19 (.call 168 [18]),sd 20 (.app (.int .u8) 16 19),kM 5 20])
def z109_8:LC:=.seq (.block 1 z109_10) (.stm [5,10,11,12] [sd 21 (.add 12 (ki 1)),kM 12 21])
def z109_5:LC:=.seq (.stm [5,10,11,12,13] [sd 13 (.lt 12 11)]) (.seq (.cond 13 .skip (.exit 0)) z109_8)
def z109_4:LC:=.loop z109_5
def z109_2:LC:=.seq (.stm [5,10,11,12] [kM 10 1,sd 11 (.len false 10),kM 12 (ki 0)]) (.block 0 z109_4)
def z109_0:LC:=.seq (.stm [1,5] [kM 8 0,sd 9 (.bslice (.int .u8) [8]),kM 5 9]) (.seq z109_2 (.seq (.stm [4] [kM 22 5,kM 4 22]) .ret))
def z109:LC:=.seq (.stm [0,1] [kM 4 kn]) z109_0
theorem jii:jad Tryz.prog eqs0 145 z109 [.t 4] 23=true:=by kernel_rfl
def z110_7:LC:=.seq (.stm [0,1,6,7,8,9,19] [kM 16 9,kM 17 1,sd 18 (.len false 17),sd 19 (.lt 16 18)]) (.cond 19 .skip (.exit 0))
def z110_13:LC:=.seq (.stm [0,1,6,7,8,9] [kM 29 9,sd 30 (.add 29 (ki 1)),kM 9 30]) (.exit 1)
def z110_11:LC:=.seq (.reg [0,1,6,7,8,9,28] [kR 0 20 (.mov 0),kR 1 21 (.mov 9),kR 2 22 (.ixS 6 20 21),kR 3 23 (.load true 6 22),kR 4 24 (.mov 1),kR 5 25 (.mov 9),kR 6 26 (.ixS 6 24 25),kR 7 27 (.load true 6 26),kR 8 28 (.eqA [.i32,.u8,.u32,.u32,.u8,.u16] false 23 27)]) (.cond 28 z110_13 .skip)
def z110_19:LC:=.seq (.reg [0,1,6,7,8,9,10,60] [kR 0 33 (.mov 10),kR 1 34 (.mov 1),kR 2 35 (.len false 34),kR 3 36 (.lt 33 35),kR 4 37 (.mov 36),⟨5,some 38,some (37,true),.mov 0,false,false⟩,⟨6,some 39,some (37,true),.mov 10,false,false⟩,⟨7,some 40,some (37,true),.ixS 6 38 39,false,false⟩,⟨8,some 41,some (37,true),.load true 6 40,false,false⟩,⟨9,some 42,some (37,true),.mov 1,false,false⟩,⟨10,some 43,some (37,true),.mov 10,false,false⟩,⟨11,some 44,some (37,true),.ixS 6 42 43,false,false⟩,⟨12,some 45,some (37,true),.load true 6 44,false,false⟩,⟨13,some 46,some (37,true),.eqA [.i32,.u8,.u32,.u32,.u8,.u16] true 41 45,false,false⟩,kR 14 47 (.pick 37 46 kf),kR 15 48 (.mov 47),⟨16,some 49,some (48,true),.mov 1,false,false⟩,⟨17,some 50,some (48,true),.mov 10,false,false⟩,⟨18,some 51,some (48,true),.ixS 6 49 50,false,false⟩,⟨19,some 52,some (48,true),.faddr 51 2,false,false⟩,⟨20,some 53,some (48,true),.load true 4 52,false,false⟩,⟨21,some 54,some (48,true),.mov 1,false,false⟩,⟨22,some 55,some (48,true),.mov 9,false,false⟩,⟨23,some 56,some (48,true),.ixS 6 54 55,false,false⟩,⟨24,some 57,some (48,true),.faddr 56 2,false,false⟩,⟨25,some 58,some (48,true),.load true 4 57,false,false⟩,⟨26,some 59,some (48,true),.eqA [.u32,.u32,.u8,.u16] false 53 58,false,false⟩,kR 27 60 (.pick 48 59 kf)]) (.cond 60 .skip (.exit 2))
def z110_21:LC:=.block 3 (.stm [0,1,6,7,8,9,10] [kM 61 10,sd 62 (.add 61 (ki 1)),kM 10 62])
def z110_17:LC:=.loop (.seq z110_19 z110_21)
def z110_16:LC:=.block 2 z110_17
def z110_32:LC:=.seq (.stm [0,1,6,7,9,10,13,83,84,85] [sd 87 (.ixS 1 83 85),kL 88 1 87,kM 13 88]) (.stm [0,1,6,7,9,10,83,84,85] [kM 89 6,kM 90 13,sd 91 (.conv .u64 true 90),sd 92 (.call 168 [91]),sd 93 (.app (.int .u8) 89 92),kM 6 93])
def z110_30:LC:=.seq (.block 5 z110_32) (.stm [0,1,6,7,9,10,83,84,85] [sd 94 (.add 85 (ki 1)),kM 85 94])
def z110_27:LC:=.seq (.stm [0,1,6,7,9,10,83,84,85,86] [sd 86 (.lt 85 84)]) (.seq (.cond 86 .skip (.exit 4)) z110_30)
def z110_26:LC:=.loop z110_27
def z110_24:LC:=.seq (.stm [0,1,6,7,9,10,83,84,85] [kM 68 9,kM 69 8,sd 70 (.sub 68 69),kM 71 10,kM 72 9,sd 73 (.sub 71 72),kF 74 11 0,kL 75 1 74,sd 76 (.conv .i64 false 75),kF 77 11 1,kL 78 1 77,sd 79 (.conv .i64 false 78),kF 80 11 2,kL 81 1 80,sd 82 (.conv .i64 false 81),sd 83 (.bslice (.int .i64) [70,73,76,79,82]),sd 84 (.len false 83),kM 85 (ki 0)]) (.block 4 z110_26)
def z110_42:LC:=.seq (.stm [0,1,6,7,10,15,98,99,100] [sd 102 (.ixS 6 98 100),sd 103 (.load true 6 102),sd 15 (.zero [.int .i32 0,.int .u8 0,.int .u32 0,.int .u32 0,.int .u8 0,.int .u16 0]),sn (.store 6 15 103)]) (.stm [0,1,6,7,10,98,99,100] [kM 104 6,kF 105 15 0,kL 106 1 105,sd 107 (.conv .u64 true 106),sd 108 (.call 168 [107]),sd 109 (.app (.int .u8) 104 108),kM 6 109])
def z110_40:LC:=.seq (.block 7 z110_42) (.stm [0,1,6,7,10,98,99,100] [sd 110 (.add 100 (ki 1)),kM 100 110])
def z110_37:LC:=.seq (.stm [0,1,6,7,10,98,99,100,101] [sd 101 (.lt 100 99)]) (.seq (.cond 101 .skip (.exit 6)) z110_40)
def z110_36:LC:=.loop z110_37
def z110_34:LC:=.seq (.stm [0,1,6,7,10,98,99,100] [kM 95 1,kM 96 9,kM 97 10,sd 98 (.sl false 6 95 (some 96) (some 97) none),sd 99 (.len false 98),kM 100 (ki 0)]) (.block 6 z110_36)
def z110_33:LC:=.seq z110_34 (.stm [0,1,6,7,8,9] [kM 111 7,sd 112 (.add 111 (ki 1)),kM 113 10,kM 114 10,kM 7 112,kM 8 113,kM 9 114])
def z110_22:LC:=.seq (.stm [0,1,6,7,8,9,10,11] [kM 63 1,kM 64 9,sd 65 (.ixS 6 63 64),kF 66 65 2,sd 67 (.load true 4 66),sd 11 (.zero [.int .u32 0,.int .u32 0,.int .u8 0,.int .u16 0]),sn (.store 4 11 67)]) (.seq z110_24 z110_33)
def z110_14:LC:=.seq (.stm [0,1,6,7,8,9,10] [kM 31 9,sd 32 (.add 31 (ki 1)),kM 10 32]) (.seq z110_16 z110_22)
def z110_5:LC:=.loop (.seq z110_7 (.block 1 (.seq z110_11 z110_14)))
def z110_43:LC:=.seq (.stm [4,5] [kM 115 7,kM 116 6,kM 4 115,kM 5 116]) .ret
def z110_2:LC:=.seq (.seq (.stm [0,1,6,7,8,9] [kM 9 (ki 0)]) (.block 0 z110_5)) z110_43
def z110_0:LC:=.seq (.stm [0,1,6] [kM 6 kn]) (.seq (.stm [0,1,6,7,8] [kM 7 (ki 0),kM 8 (ki 0)]) z110_2)
def z110:LC:=.seq (.stm [0,1] [kM 4 (ki 0),kM 5 kn]) z110_0
theorem jgj:jad Tryz.prog eqs0 167 z110 [.t 4,.t 5] 117=true:=by kernel_rfl
def z111_6:LC:=.seq (.stm [2,3,5,6,31] [kF 30 3 5,kL 31 1 30]) (.cond 31 (.stm [2,3,5,6] [kM 6 (ki 1)]) .skip)
def z111_5:LC:=.seq z111_6 (.stm [2,3,5] [kM 32 5,kF 33 3 3,kL 34 1 33,kF 35 3 4,kL 36 1 35,kM 37 6,sd 38 (.bslice (.int .i64) [34,36,37]),sd 39 (.call 145 [(k8 2),38]),sd 40 (.app (.int .u8) 32 39),kM 5 40])
def z111_2:LC:=.seq (.stm [2,3,5,29] [kF 11 3 3,kL 12 1 11,kF 13 2 3,kL 14 1 13,sd 15 (.cmp .neq 12 14),kM 16 15,.g 16 false [kF 17 3 4,kL 18 1 17,kF 19 2 4,kL 20 1 19,sd 21 (.cmp .neq 18 20)] 22 kt 21,kM 23 22,.g 23 false [kF 24 3 5,kL 25 1 24,kF 26 2 5,kL 27 1 26,sd 28 (.cmpB true 25 27)] 29 kt 28]) (.cond 29 (.seq (.stm [2,3,5,6] [kM 6 (ki 0)]) z111_5) .skip)
def z111_11:LC:=.seq (.stm [2,3,5,7] [kF 47 3 7,kL 48 1 47,sd 49 (.s2b 48),sd 50 (.call 166 [49]),kM 46 50,sd 51 (.ext 46 0),sd 52 (.ext 46 1),kM 7 51,kM 8 52]) (.stm [2,3,5] [kM 53 5,sd 54 (.bslice (.int .u8) [(k8 3)]),sd 55 (.app (.int .u8) 53 54),kM 56 7,sd 57 (.app (.int .u8) 55 56),kM 5 57])
def z111_9:LC:=.seq (.stm [2,3,5,45] [kF 41 3 7,kL 42 1 41,kF 43 2 7,kL 44 1 43,sd 45 (.cmp .neq 42 44)]) (.cond 45 z111_11 .skip)
def z111_14:LC:=.cond 62 (.stm [2,3,5] [kM 63 5,kF 64 3 6,kL 65 1 64,sd 66 (.conv .i64 false 65),sd 67 (.bslice (.int .i64) [66]),sd 68 (.call 145 [(k8 4),67]),sd 69 (.app (.int .u8) 63 68),kM 5 69]) .skip
def z111_13:LC:=.seq (.stm [2,3,5,62] [kF 58 3 6,kL 59 1 58,kF 60 2 6,kL 61 1 60,sd 62 (.cmp .neq 59 61)]) z111_14
def z111_18:LC:=.cond 79 (.stm [5] [kM 80 5,kM 81 9,sd 82 (.bslice (.int .i64) [81]),sd 83 (.call 145 [(k8 5),82]),sd 84 (.app (.int .u8) 80 83),kM 85 10,sd 86 (.app (.int .u8) 84 85),kM 5 86]) .skip
def z111_17:LC:=.seq (.stm [5,9,10,79] [kM 78 9,sd 79 (.cmp .gtr 78 (ki 0))]) z111_18
def z111_15:LC:=.seq (.stm [5,9,10] [kF 71 2 2,kL 72 1 71,kF 73 3 2,kL 74 1 73,sd 75 (.call 167 [72,74]),kM 70 75,sd 76 (.ext 70 0),sd 77 (.ext 70 1),kM 9 76,kM 10 77]) (.seq z111_17 (.seq (.stm [4] [kM 87 5,kM 4 87]) .ret))
def z111_0:LC:=.seq (.stm [2,3,5] [kM 5 kn]) (.seq z111_2 (.seq z111_9 (.seq z111_13 z111_15)))
def z111:LC:=.seq (.stm [2,3] [sd 2 (.box 0),sd 3 (.box 1),kM 4 kn]) z111_0
theorem jij:jad Tryz.prog eqs0 144 z111 [.t 4] 88=true:=by kernel_rfl
def z112_7:LC:=.seq (.stm [4,5] [sd 28 (.load true 9 3),sd 29 (.call 104 [28]),sd 30 (.ext 29 0),sd 31 (.ext 29 1),kM 4 30,kM 5 31]) .ret
def z112_5:LC:=.seq (.stm [2,3,15] [kF 16 2 0,kL 17 1 16,kF 18 3 0,kL 19 1 18,sd 20 (.cmp .neq 17 19),kM 21 20,.g 21 false [kF 22 2 1,kL 23 1 22,kF 24 3 1,kL 25 1 24,sd 26 (.cmp .neq 23 25)] 27 kt 26,kM 15 27]) (.cond 15 z112_7 .skip)
def z112_3:LC:=.cond 6 (.seq (.stm [4,5] [kM 4 kn,kM 5 (ki 1)]) .ret) z112_5
def z112_2:LC:=.seq (.stm [2,3,6] [sd 7 (.load true 9 2),sd 8 (.call 102 [7]),sd 9 (.un .not 8),kM 10 9,.g 10 false [sd 11 (.load true 9 3),sd 12 (.call 102 [11]),sd 13 (.un .not 12)] 14 kt 13,kM 6 14]) z112_3
def z112_8:LC:=.seq (.stm [4,5] [sd 32 (.load true 9 2),sd 33 (.load true 9 3),sd 34 (.call 144 [32,33]),kM 4 34,kM 5 (ki 0)]) .ret
def z112_0:LC:=.seq (.block 0 z112_2) z112_8
def z112:LC:=.seq (.stm [2,3] [sd 2 (.box 0),sd 3 (.box 1),kM 4 kn,kM 5 (ki 0)]) z112_0
theorem jhI:jad Tryz.prog eqs0 103 z112 [.t 4,.t 5] 35=true:=by kernel_rfl
def z113_2:LC:=.cond 8 (.seq (.stm [2,3] [kM 2 kn,kM 3 (ki 1)]) .ret) .skip
def z113_1:LC:=.seq (.stm [1,8] [sd 6 (.load true 9 1),sd 7 (.call 102 [6]),sd 8 (.un .not 7)]) z113_2
def z113_5:LC:=.seq (.reg [2,3] [kR 0 17 (.fa 1 0),kR 1 18 (.ld 1 17),kR 2 19 (.fa 1 1),kR 3 20 (.ld 1 19),kR 6 23 (.load true 9 4),kR 7 24 (.load true 9 1),kR 4 21 (.bslice (.int .i64) [18,20]),⟨5,some 22,none,.call 145 [(k8 1),21],true,true⟩,⟨8,some 25,none,.call 144 [23,24],false,true⟩,⟨9,some 26,none,.app (.int .u8) 22 25,false,true⟩,kR 10 2 (.mov 26),kR 11 3 (.mov (ki 0))]) .ret
def z113_4:LC:=.seq (.stm [1,4] [kF 10 1 0,kL 11 1 10,kF 12 1 1,kL 13 1 12,sd 14 (.call 136 [11,13]),kM 9 14,sd 15 (.ext 9 0),sd 16 (.ext 9 1),sd 4 (.zero [.int .i64 0,.int .i64 0,.nils,.int .i64 0,.int .i64 0,.bool false,.int .u8 0,.str (bs []),.nils]),sn (.store 9 4 15),kM 5 16]) z113_5
def z113_0:LC:=.seq z113_1 z113_4
def z113:LC:=.seq (.stm [1] [sd 1 (.box 0),kM 2 kn,kM 3 (ki 0)]) z113_0
theorem jgU:jad Tryz.prog eqs0 104 z113 [.t 2,.t 3] 27=true:=by kernel_rfl
end
end Go.Proofs.YtienkkicehmchaaGreatDoor
