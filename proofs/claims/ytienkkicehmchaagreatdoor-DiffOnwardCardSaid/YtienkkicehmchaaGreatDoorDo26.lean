/- Texts of this claim, merged by a program of this claim: LenM, RnM, RwT. -/
import Derived.Test.YtienkkicehmchaaGreatDoorDo17
import Derived.Test.YtienkkicehmchaaGreatDoorDo25
namespace Go.Proofs.YtienkkicehmchaaGreatDoor
open List renaming length_append→qaa,length_cons→qab,length_nil→qad,flatMap_cons→qae,drop_drop→qaf,flatMap_nil→qah,length_drop→qai,drop_eq_getElem_cons→qaj,length_take→qak,take_append_drop→qal,take_left'→qam,drop_left'→qan,range'→qao,append_nil→qaq,nil_append→qar,replicate→qas,take_add→qat,length→qau
open Int renaming toNat_natCast→qac
open Bool renaming and_eq_true→qag,false_eq_true→qap
set_option linter.unusedVariables false
set_option linter.unusedSimpArgs false
section
theorem je1 {c:Int}(h:jcQ c=true):c<33554432:=by
 unfold jcQ at h
 simp only[Bool.or_eq_true,qag,decide_eq_true_eq]at h
 omega
theorem jdo {n:Nat}(h:n<128):(varN n).length≤1:=jfV n 0 (by omega)
theorem jiK {n:Nat}(h:n<16384):(varN n).length≤2:=jfV n 1 (by omega)
theorem jye {n:Nat}(h:n<2097152):(varN n).length≤3:=jfV n 2 (by omega)
theorem jqR {n:Nat}(h:n<268435456):(varN n).length≤4:=jfV n 3 (by omega)
section
variable {W:List CD}{k nl:Nat}
def Lets (W:List CD) (l:List Nat):Prop:=∀x∈l,x<W.length∧(cAt W x).wide≠2
theorem jqS (hT:Tell W k nl):∀l:List Nat,Lets W l→(jbE W l).length≤3*l.length
 | [],_=>by simp[jbE]
 | x::l,h=>by
  have h1:=jqS hT l fun y hy=>h y (by simp[hy])
  obtain⟨hx,hw⟩:=h x (by simp)
  have h2:=jlG hT hx hw
  have h3:=jye (n:=(cAt W x).rune.toNat) (by omega)
  have e:jbE W (x::l)=varN (cAt W x).rune.toNat++jbE W l:=by simp[jbE]
  rw[e,qaa,qab]
  omega
theorem jzM (hT:Tell W k nl) (h16:nl≤16){x:Nat}(hx:x<W.length):(jar (penN (cAt W x).pen)).length≤11:=by
 have hw:=hT.wf (cAt W x) (List.mem_of_getElem? (je0 hx))
 have hl:=hT.link (cAt W x) (List.mem_of_getElem? (je0 hx))
 have hm:=hT.may x hx
 unfold mayB penB at hm
 simp only[qag]at hm
 have c1:=je1 hm.1.1
 have c2:=je1 hm.1.2
 have e1:=hw.attrs
 simp only[CD.pen]at c1 c2
 have a1:=jqR (n:=(cAt W x).fg.toNat) (by omega)
 have a2:=jqR (n:=(cAt W x).bg.toNat) (by omega)
 have a3:=jiK (n:=(cAt W x).attrs.toNat) (by omega)
 have a4:=jdo (n:=(cAt W x).link.toNat) (by omega)
 simp only[penN,CD.pen,jar,qae,qah,qaa,qad]
 omega
theorem jxr {l:List Nat}{p:PD}{e:Nat}(h:Lets W l):Lets W (runP W p e l).1∧Lets W (runP W p e l).2.2:=by
 have:=ji8 W p l e
 exact⟨fun x hx=>h x (by rw[←this];exact List.mem_append.2 (.inl hx)),fun x hx=>h x (by rw[←this];exact List.mem_append.2 (.inr hx))⟩
theorem jlI (hT:Tell W k nl) (h16:nl≤16):∀(f bh:Nat) (l:List Nat),Lets W l→l.length≤2000→(layR W f bh l).1.length≤17*l.length
 | 0,bh,l,_,_=>by simp[layR]
 | f+1,bh,[],_,_=>by simp[layR]
 | f+1,bh,x::l,h,hl=>by
  obtain⟨hx,hw⟩:=h x (by simp)
  have hlen:=jbT W (cAt W x).pen (x::l) x
  have hpos:1≤(runP W (cAt W x).pen x (x::l)).1.length:=by
   rw[(jbD W x l).1,qab]
   omega
  obtain⟨q1,q2⟩:=jxr (p:=(cAt W x).pen) (e:=x) h
  have h1:=jqS hT _ q1
  have h2:=jlI hT h16 f (runP W (cAt W x).pen x (x::l)).2.1 _ q2 (by omega)
  have h3:=jzM hT h16 hx
  have hsm:=hT.small
  have h4:=jiK (n:=x-bh) (by omega)
  have h5:(varN (runP W (cAt W x).pen x (x::l)).1.length).length≤1∨(128≤(runP W (cAt W x).pen x (x::l)).1.length∧(varN (runP W (cAt W x).pen x (x::l)).1.length).length≤2):=by
   rcases Nat.lt_or_ge (runP W (cAt W x).pen x (x::l)).1.length 128 with q|q
   ·exact .inl (jdo q)
   ·exact .inr ⟨q,jiK (by omega)⟩
  rw[layR]
  simp only[jhB,qaa]
  have e:(jar [x-bh,(runP W (cAt W x).pen x (x::l)).1.length]).length=(varN (x-bh)).length+(varN (runP W (cAt W x).pen x (x::l)).1.length).length:=by simp[jar]
  rw[e]
  omega
theorem jxs {C:List CD}(hT:Tell W k nl):Lets W (rem (jaj C W) (jaa W) W.length 0):=fun x hx=>by
 rw[jzn hT.whole]at hx
 have h1:=jzl hx
 unfold col at hx
 have h2:=(List.mem_filter.1 hx).2
 unfold colP at h2
 simp only[qag,decide_eq_true_eq]at h2
 exact⟨h1,h2.1⟩
theorem jpC {C:List CD}(hT:Tell W k nl) (h16:nl≤16):(jbU C W).length≤3+17*(rem (jaj C W) (jaa W) W.length 0).length:=by
 have hsm:=hT.small
 have hr:(rem (jaj C W) (jaa W) W.length 0).length≤W.length:=jbC
 have h1:=jlI hT h16 (rem (jaj C W) (jaa W) W.length 0).length 0 _ (jxs (C:=C) hT) (by omega)
 have h2:=(jhq hT.wf (rem (jaj C W) (jaa W) W.length 0).length 0 (rem (jaj C W) (jaa W) W.length 0) (by omega) (fun x hx=>by have:=(jeR (fun i=>(jao W i).1) hx).2.1;omega)).2
 unfold jbU
 dsimp only
 split
 ·simp
 ·have h3:=jiK (n:=(layR W (rem (jaj C W) (jaa W) W.length 0).length 0 (rem (jaj C W) (jaa W) W.length 0)).2) (by omega)
  simp only[qab,qaa]
  omega
end
theorem ju6 (n:Nat) (j:Int):jfd (qas n blank0) j=blank0:=by
 unfold jfd
 split
 ·rename_i h
  rw[List.length_replicate]at h
  unfold cAt
  rw[List.getD_eq_getElem?_getD,List.getElem?_replicate,if_pos (by omega)]
  rfl
 ·rfl
theorem jlJ {d:Int→Nat}(h:∀m,d m=d 0):∀n,jdZ d n=(0,d 0)
 | 0=>rfl
 | n+1=>by
  rw[jdZ,jlJ h n]
  unfold jek
  rw[h ((n+1:Nat):Int),h (-((n+1:Nat):Int)),if_neg (by simp),if_neg (by simp)]
theorem jxt (k r:Nat) (L:List CD):upN k r (jah k r) L=0:=by
 unfold upN
 rw[jlJ]
 intro m
 unfold dist jah
 simp only[ju6]
theorem ju7 (k r:Nat) (l:List ByteArray):undL (jah k r) [] l=jah k r:=by
 unfold undL jah
 rw[List.map_replicate]
 congr 1
theorem jon {k r y:Nat}(hy:y<r):mAt (jat (jah k r) k r) y=qas k blank0:=by
 rw[jcz hy]
 have hl:(jax (jah k r) k y).length=k:=jbd (by simp[jah]) hy
 refine List.eq_replicate_iff.2 ⟨hl,fun b hb=>?_⟩
 have:=jej hb
 unfold jah at this
 exact (List.mem_replicate.1 this).2
theorem jig {k r:Nat}{B:List (List CD)}:∀y,y≤r→(jak (jat (jah k r) k r) B y).1=[]
 | 0,_=>rfl
 | y+1,hy=>by
  by_cases q:mAt (jat (jah k r) k r) y=mAt B y
  ·rw[jak,if_pos q]
   exact jig y (by omega)
  ·have:jf9 (jat (jah k r) k r) B y (jat (jah k r) k r).length=none:=by
    refine jen fun z hz e=>q ?_
    rw[jbR]at hz
    rw[←e,jon (by omega),jon hz]
   rw[jak,if_neg q,this]
   exact jig y (by omega)
theorem jzN {l:List ByteArray}(h:∀s∈l,s.size≤64):(texB l).length≤65*l.length:=by
 induction l with
 | nil=>simp[texB]
 | cons s l ih =>
  have h1:=ih fun t ht=>h t (by simp[ht])
  have h2:=h s (by simp)
  have h3:=jdo (n:=(jac s).length) (by rw[jay];omega)
  have e:texB (s::l)=jf8 (jac s)++texB l:=by simp[texB]
  have h4:=jay s
  rw[e,qaa,jf8,qaa,qab]
  omega
theorem ju8 {x1 y1:Nat}{hd1:Bool}{x2 y2:Nat}{hd2:Bool}(hx:x2<80) (hy:y2<24):(curB x1 y1 hd1 x2 y2 hd2).length≤4:=by
 unfold curB
 split
 ·have a1:=jdo (n:=x2) (by omega)
  have a2:=jdo (n:=y2) (by omega)
  have a3:=jdo (n:=if hd2 then 1 else 0) (by cases hd2<;>decide)
  simp only[jar,qae,qah,qaa,qad,qab]
  omega
 ·simp
theorem ju9 {t1 t2:ByteArray}(h:t2.size≤64):(titB t1 t2).length≤66:=by
 unfold titB
 split
 ·simp
 ·have h3:=jdo (n:=(jac t2).length) (by rw[jay];omega)
  have h4:=jay t2
  simp only[jf8,qaa,qab]
  omega
theorem jva {m1 m2:Nat}(h:m2≤2):(mouB m1 m2).length≤2:=by
 unfold mouB
 split
 ·simp
 ·have h3:=jdo (n:=m2) (by omega)
  simp only[jar,qae,qah,qaa,qad,qab]
  omega
theorem jsl {k r:Int}{L:List CD}{x y:Int}{hd:Bool}{mo:Int}{ti:ByteArray}{l:List ByteArray}(hw:∀c∈L,CWf c) (hmo:0≤mo):(jdy k r L x y hd mo ti l).length≤33792:=by
 cases hr:jal k r L x y mo ti l
 ·rw[jdy,if_neg (by rw[hr];decide)]
  simp
 ·have hr2:=hr
  obtain⟨K,R,X,Y,M,rfl,rfl,rfl,rfl,rfl,f⟩:=jan hr hmo
  rw[jdy,if_pos hr2]
  simp only[qac]
  have hk:=f.k1
  have hrr:=f.r1
  have hx:=f.x1
  have hy:=f.y1
  have hkr:K*R≤80*24:=Nat.mul_le_mul hk.2 hrr.2
  have a1:=ju8 (x1:=0) (y1:=0) (hd1:=false) (x2:=X) (y2:=Y) (hd2:=hd) (by omega) (by omega)
  have a2:=ju9 (t1:=⟨#[]⟩) f.ti1
  have a3:=jva (m1:=0) f.mo1
  have a4:(linB [] l).length≤1043:=by
   unfold linB
   split
   ·simp
   ·have e:comK l []=0:=by cases l<;>rfl
    have b1:=jdo (n:=comK l []) (by omega)
    have b2:=jdo (n:=l.length-comK l []) (by have:=f.l1;omega)
    have b3:=jzN (l:=l.drop (comK l [])) fun s hs=>f.s64 s (List.mem_of_mem_drop hs)
    have:=f.l1
    simp only[jar,qae,qah,qaa,qad,qab,qai]at b3 ⊢
    omega
  have hm0:movL K R (jah K R) 0=jah K R:=jj5 (by simp[jah])
  have a5:=jpC (C:=cpyL K R (jah K R) L) (f.tell hw) f.l1
  have a6:(rem (jaj (cpyL K R (jah K R) L) L) (jaa L) L.length 0).length≤L.length:=jbC
  have a7:=f.len
  have a8:=jdo (n:=K) (by omega)
  have a9:=jdo (n:=R) (by omega)
  have e1:scrB 0=[]:=rfl
  have e2:jj2 []=[]:=rfl
  unfold jt8 jga jr0 celB
  rw[ju7,jxt,hm0,jig R (Nat.le_refl _),e1,e2]
  simp only[jar,qae,qah,qaa,qad,qab,qaq,qar]at a1 a2 a3 a4 a5 ⊢
  omega
end
section
def pen3 (p:PD):List Nat:=[p.fg.toNat,p.bg.toNat,p.attrs.toNat]
def lay3 (W:List CD):Nat→Nat→List Nat→List Int×Nat
 | 0,_,_=>([],0)
 | f+1,bh,[]=>([],0)
 | f+1,bh,x::l=>(jar ([x-bh,(runP W (cAt W x).pen x (x::l)).1.length]++pen3 (cAt W x).pen)++(jbE W (runP W (cAt W x).pen x (x::l)).1++(lay3 W f (runP W (cAt W x).pen x (x::l)).2.1 (runP W (cAt W x).pen x (x::l)).2.2).1),(lay3 W f (runP W (cAt W x).pen x (x::l)).2.1 (runP W (cAt W x).pen x (x::l)).2.2).2+1)
theorem jhG (W:List CD) (f bh:Nat):lay3 W f bh []=([],0):=by cases f<;>rfl
def jiT (C W:List CD):List Int×Nat:=lay3 W (rem (jaj C W) (jaa W) W.length 0).length 0 (rem (jaj C W) (jaa W) W.length 0)
def jiL (C W:List CD):List Int:=if (jiT C W).2=0 then [] else (5:Int)::(varN (jiT C W).2++(jiT C W).1)
def jih (L1:List CD) (x1 y1:Nat) (hd1:Bool) (m1:Nat) (t1:ByteArray) (L2:List CD) (x2 y2:Nat) (hd2:Bool) (m2:Nat) (t2:ByteArray):List Int :=
 curB x1 y1 hd1 x2 y2 hd2++titB t1 t2++mouB m1 m2++jiL L1 L2
def jzO (k r:Nat) (L:List CD) (x y:Nat) (hd:Bool) (mo:Nat) (ti:ByteArray):List Int:=(1::jar [k,r])++jih (jah k r) 0 0 false 0 ⟨#[]⟩ L x y hd mo ti
def jcp (k r:Int) (L:List CD) (x y:Int) (hd:Bool) (mo:Int) (ti:ByteArray) (l:List ByteArray):List Int :=
 if jaB k r L x y mo ti l then jzO k.toNat r.toNat L x.toNat y.toNat hd mo.toNat ti else []
def jd4 (k1 r1:Int) (L1:List CD) (x1 y1:Int) (hd1:Bool) (mo1:Int) (ti1:ByteArray) (l1:List ByteArray) (k2 r2:Int) (L2:List CD) (x2 y2:Int) (hd2:Bool) (mo2:Int) (ti2:ByteArray) (l2:List ByteArray):List Int :=
 if jaB k1 r1 L1 x1 y1 mo1 ti1 l1&&jaB k2 r2 L2 x2 y2 mo2 ti2 l2 then (if k1=k2∧r1=r2 then jih L1 x1.toNat y1.toNat hd1 mo1.toNat ti1 L2 x2.toNat y2.toNat hd2 mo2.toNat ti2 else jcp k2 r2 L2 x2 y2 hd2 mo2 ti2 l2) else []
def le3G (d:List Int) (p:PD):Nat→Nat→Nat→List CD→Int×Nat×List CD
 | 0,a,_,L=>(0,a,L)
 | n+1,a,pos,L=>if upE d a 1114111≠0 then (upE d a 1114111,0,[]) else
  if mayB ⟨varV d a,0,p.fg,p.bg,p.attrs,0⟩=false then (3,0,[]) else
  le3G d p n (a+varU d a) (pos+1) (L.set pos ⟨varV d a,0,p.fg,p.bg,p.attrs,0⟩)
def hd3G (d:List Int) (a pos all:Nat):Hd :=
 if upE d a ((all:Int)-pos)≠0 then jbq (upE d a ((all:Int)-pos)) else
 let a1:=a+varU d a
 let p1:=pos+(varV d a).toNat
 if upE d a1 ((all:Int)-p1)≠0 then jbq (upE d a1 ((all:Int)-p1)) else
 if varV d a1=0 then jbq 3 else
 let a2:=a1+varU d a1
 if colE d a2≠0 then jbq (colE d a2) else
 let a3:=a2+varU d a2
 if colE d a3≠0 then jbq (colE d a3) else
 let a4:=a3+varU d a3
 if upE d a4 255≠0 then jbq (upE d a4 255) else
 ⟨0,a4+varU d a4,p1,(varV d a1).toNat,⟨varV d a2,varV d a3,varV d a4,0⟩⟩
def rn3G (d:List Int):Nat→Nat→Nat→List CD→Int×Nat×List CD
 | 0,a,_,L=>(0,a,L)
 | n+1,a,pos,L=>if (hd3G d a pos L.length).e≠0 then ((hd3G d a pos L.length).e,0,[]) else
  if (le3G d (hd3G d a pos L.length).p (hd3G d a pos L.length).n (hd3G d a pos L.length).a (hd3G d a pos L.length).pos L).1≠0 then ((le3G d (hd3G d a pos L.length).p (hd3G d a pos L.length).n (hd3G d a pos L.length).a (hd3G d a pos L.length).pos L).1,0,[]) else
  rn3G d n (le3G d (hd3G d a pos L.length).p (hd3G d a pos L.length).n (hd3G d a pos L.length).a (hd3G d a pos L.length).pos L).2.1 ((hd3G d a pos L.length).pos+(hd3G d a pos L.length).n) (le3G d (hd3G d a pos L.length).p (hd3G d a pos L.length).n (hd3G d a pos L.length).a (hd3G d a pos L.length).pos L).2.2
def rs3G (d:List Int) (a:Nat) (L:List CD):Int×Nat×List CD :=
 if jc2 d a≠0 then (jc2 d a,0,[]) else rn3G d (varV d a).toNat (a+varU d a) 0 L
def th5R (d:List Int) (s:RS):Int×RS :=
 if (rs3G d s.a s.L).1≠0 then ((rs3G d s.a s.L).1,.bad) else (0,{ s with L:=(rs3G d s.a s.L).2.2,a:=(rs3G d s.a s.L).2.1 })
def thR (d:List Int) (kd:Int) (s:RS):Int×RS:=if kd=5 then th5R d s else thG d kd s
def goR (d:List Int):Nat→Int→RS→Int×RS
 | 0,_,s=>(0,s)
 | f+1,last,s=>if d.length≤s.a then (0,s) else
  if d.getD s.a 0≤last∨5<d.getD s.a 0 then (3,.bad) else
  if (thR d (d.getD s.a 0) { s with a:=s.a+1 }).1≠0 then ((thR d (d.getD s.a 0) { s with a:=s.a+1 }).1,.bad) else
  goR d f (d.getD s.a 0) (thR d (d.getD s.a 0) { s with a:=s.a+1 }).2
def ap2G (d:List Int) (s:RS):Int×RS :=
 if jaB s.k s.r s.L s.x s.y s.mo s.ti s.l=false then (1,jc3) else
 if (goR d 6 0 { s with a:=0 }).1≠0 then ((goR d 6 0 { s with a:=0 }).1,jc3) else
 if jaB (goR d 6 0 { s with a:=0 }).2.k (goR d 6 0 { s with a:=0 }).2.r (goR d 6 0 { s with a:=0 }).2.L (goR d 6 0 { s with a:=0 }).2.x (goR d 6 0 { s with a:=0 }).2.y (goR d 6 0 { s with a:=0 }).2.mo (goR d 6 0 { s with a:=0 }).2.ti (goR d 6 0 { s with a:=0 }).2.l=false then (3,jc3) else
 (0,(goR d 6 0 { s with a:=0 }).2)
end
section
structure Cell1 (c:CD):Prop where
 may:mayB c=true
 wf:CWf c
 wide:c.wide=0
 link:c.link=0
 fg:c.fg≤256
 bg:c.bg≤256
theorem jjb {d a b:List Int}{i n:Nat}(h:d.drop i=a++b) (hn:a.length=n):d.drop (i+n)=b:=by
 rw[←qaf,h,←hn,List.drop_left]
theorem jjc {d a b:List Int}{i n:Nat}(h:d.drop i=a++b) (hn:a.length=n):(d.drop i).take n=a:=by
 rw[h,←hn,List.take_left]
theorem jfG {d r:List Int}{i:Nat}{x:Int}(h:d.drop i=x::r):i<d.length∧d.getD i 0=x∧d.drop (i+1)=r:=by
 have hl:i<d.length:=by
  rcases Nat.lt_or_ge i d.length with q|q
  ·exact q
  ·rw[List.drop_of_length_le q]at h
   cases h
 rw[qaj hl]at h
 injection h with h1 h2
 exact⟨hl,by rw[List.getD_eq_getElem?_getD,List.getElem?_eq_getElem hl,Option.getD_some,h1],h2⟩
theorem jvb {d R:List Int}{a:Nat}{c:CD}(h:Cell1 c) (hd:d.drop a=cellN c++R):a+9≤d.length∧jhE d a=c∧d.drop (a+9)=R:=by
 have hl:a+9≤d.length:=by
  have:=congrArg qau hd
  rw[qai,qaa,jhD]at this
  omega
 have hw:=jfF h.may (by rw[h.wide];decide)
 have hr:=jf1 (c:=c.rune) (by have:=h.wide;omega)
 have w:=h.wf
 obtain⟨w1,w2,w3,w4,w5,w6⟩:=w
 have d0:d.drop a=numN 4 c.rune.toNat++(numN 2 c.fg.toNat++(numN 2 c.bg.toNat++([c.attrs]++R))):=by rw[hd];simp[cellN]
 have d1:=jjb d0 (jbK 4 _)
 have d2:=jjb d1 (jbK 2 _)
 have d3:=jjb d2 (jbK 2 _)
 have v1:numV d a 4=c.rune:=by
  unfold numV
  rw[jjc d0 (jbK 4 _),jhC 4 _ (by omega)]
  omega
 have v2:numV d (a+4) 2=c.fg:=by
  unfold numV
  rw[jjc d1 (jbK 2 _),jhC 2 _ (by have:=h.fg;omega)]
  omega
 have v3:numV d (a+6) 2=c.bg:=by
  unfold numV
  rw[jjc d2 (jbK 2 _),jhC 2 _ (by have:=h.bg;omega)]
  omega
 obtain⟨_,v4,d4⟩:=jfG d3
 refine⟨hl,?_,d4⟩
 unfold jhE
 rw[v1,v2,v3,v4,jnt (by omega)]
 have e1:=h.wide
 have e2:=h.link
 cases c
 simp only at e1 e2 ⊢
 rw[e1,e2]
theorem jpD {M:List CD}{pos:Nat}{c:CD}{l:List CD}(h:pos<M.length):jcg (M.set pos c) (pos+1) l=jcg M pos (c::l):=by
 obtain⟨A,x,B,rfl,hA⟩:∃A x B,M=A++x::B∧A.length=pos:=⟨M.take pos,M[pos],M.drop (pos+1),by rw[←qaj h,qal],by rw[qak];omega⟩
 subst hA
 have e:(A++x::B).set A.length c=A++c::B:=by rw[List.set_append_right _ _ (Nat.le_refl _),Nat.sub_self];rfl
 have e2:A++c::B=(A++[c])++B:=by simp
 have r1:(A++x::B).take A.length=A:=qam rfl
 have r2:(A++x::B).drop (A.length+(l.length+1))=B.drop l.length:=by rw[←qaf,qan rfl,List.drop_succ_cons]
 have r3:(A++c::B).take (A.length+1)=A++[c]:=by rw[e2];exact qam (by simp)
 have r4:(A++c::B).drop (A.length+1+l.length)=B.drop l.length:=by rw[e2,←qaf,qan (by simp)]
 unfold jcg
 rw[e,r3,r4,r1,qab,r2]
 simp
theorem jvc {d R:List Int}:∀(l:List CD) (a pos:Nat) (M:List CD),(∀c∈l,Cell1 c)→pos+l.length≤M.length→d.drop a=l.flatMap cellN++R→∃a',d.drop a'=R∧clG d l.length a pos M=(0,a',jcg M pos l)
 | [],a,pos,M,_,_,h=>⟨a,by simpa using h,by simp[clG,jcg]⟩
 | c::l,a,pos,M,hc,hl,h=>by
  have h1:d.drop a=cellN c++(l.flatMap cellN++R):=by rw[h];simp
  have hc1:=hc c (by simp)
  rw[qab]at hl
  obtain⟨q1,q2,q3⟩:=jvb hc1 h1
  obtain⟨a',r1,r2⟩:=jvc l (a+9) (pos+1) (M.set pos c) (fun x hx=>hc x (by simp[hx])) (by rw[List.length_set];omega) q3
  refine⟨a',r1,?_⟩
  have:=hc1.fg
  have:=hc1.bg
  rw[qab,clG,if_neg (by omega),q2,if_neg (by rw[hc1.may];simp;omega),r2,jpD (by omega)]
section
variable {C W:List CD}
theorem jxu {i w:Nat}(h:(C.drop i).take w=(W.drop i).take w):mix C W i=mix C W (i+w):=by
 unfold mix
 rw[qat,List.append_assoc,←h,←qaf,qal]
theorem jzP {i w:Nat}(hl:C.length=W.length) (h:i+w≤W.length):jcg (mix C W i) i ((W.drop i).take w)=mix C W (i+w):=by
 have e:((W.drop i).take w).length=w:=by rw[qak,qai];omega
 have h1:(W.take i).length=i:=by rw[qak];omega
 have r1:(W.take i++C.drop i).take i=W.take i:=qam h1
 have r2:(W.take i++C.drop i).drop (i+w)=C.drop (i+w):=by rw[←qaf,qan h1,qaf]
 unfold jcg mix
 rw[e,r1,r2,qat]
theorem jpE {d R:List Int}{k r:Nat}(hC:C.length=k*r) (hW:W.length=k*r) (hc:∀c∈W,Cell1 c) (hr:r≤24):∀(t y a:Nat) (last:Int),y+t=r→last<y→d.drop a=((qao y t).filter (difY k C W)).flatMap (rowN W k)++R →
  ∃a',d.drop a'=R∧rwG d k r ((qao y t).filter (difY k C W)).length a last (mix C W (y*k))=(0,a',W)
 | 0,y,a,last,hy,hlast,h=>by
  obtain rfl:y=r:=by omega
  exact⟨a,by simpa using h,by simp[rwG,jpA (hC.trans hW.symm) (show W.length≤y*k by rw[hW,Nat.mul_comm];exact Nat.le_refl _)]⟩
 | t+1,y,a,last,hy,hlast,h=>by
  have hyk:y*k+k≤k*r:=by
   have:=Nat.mul_le_mul_right k (show y+1≤r by omega)
   rwa [Nat.succ_mul,Nat.mul_comm r k]at this
  rw[List.range'_succ,List.filter_cons]at h ⊢
  cases hd:difY k C W y
  ·rw[hd]at h
   simp only[qap,if_false]at h ⊢
   have he:jax W k y=jax C k y:=by simpa[difY] using hd
   rw[jxu (w:=k) (show (C.drop (y*k)).take k=(W.drop (y*k)).take k from he.symm),show y*k+k=(y+1)*k by rw[Nat.succ_mul]]
   exact jpE hC hW hc hr t (y+1) a last (by omega) (by omega) h
  ·rw[hd]at h
   simp only[if_true]at h ⊢
   have h0:d.drop a=(y:Int)::((jax W k y).flatMap cellN++(((qao (y+1) t).filter (difY k C W)).flatMap (rowN W k)++R)):=by rw[h];simp[rowN]
   obtain⟨p1,p2,p3⟩:=jfG h0
   have hlen:=jbd hW (show y<r by omega)
   have hml:(mix C W (y*k)).length=W.length:=jif (hC.trans hW.symm) (by rw[hW];omega)
   obtain⟨a1,q1,q2⟩:=jvc (jax W k y) (a+1) (y*k) (mix C W (y*k)) (fun c hx=>hc c (jej hx)) (by rw[hlen,hml,hW];omega) p3
   rw[hlen]at q2
   have hput:jcg (mix C W (y*k)) (y*k) (jax W k y)=mix C W ((y+1)*k):=by
    rw[Nat.succ_mul]
    exact jzP (hC.trans hW.symm) (by rw[hW];exact hyk)
   rw[hput]at q2
   obtain⟨a2,s1,s2⟩:=jpE hC hW hc hr t (y+1) a1 y (by omega) (by omega) q1
   refine⟨a2,s1,?_⟩
   rw[qab,rwG,if_neg (by omega),p2,if_neg (by omega),qac,q2]
   simp only[ne_eq,not_true_eq_false,if_false]
   exact s2
end
theorem jlK {fl:Int}(h:fl=0∨fl=4) (hd:Bool) (t1 t2:ByteArray):jew fl hd t1 t2≤7∧0≤jew fl hd t1 t2∧(jew fl hd t1 t2<4↔fl=0)∧decide (jew fl hd t1 t2 % 2=1)=hd∧(jew fl hd t1 t2 / 2 % 2=1↔jdw t2 t1=false):=by
 unfold jew
 rcases h with rfl|rfl<;>cases hd<;>cases jdw t2 t1<;>decide
theorem jcy {k r:Int}{L:List CD}{x y mo:Int}{ti:ByteArray}{l:List ByteArray}(h:jaC k r L x y mo ti l=true) (hw:∀c∈L,CWf c) (hm:0≤mo):jal k r L x y mo ti l=true∧l=[]∧mo=0∧∀c∈L,Cell1 c:=by
 unfold jaC at h
 simp only[qag,decide_eq_true_eq,beq_iff_eq,List.all_eq_true]at h
 obtain⟨⟨⟨h1,h2⟩,h3⟩,h4⟩:=h
 have hl:l=[]:=List.length_eq_zero_iff.1 h2
 obtain⟨K,R,X,Y,M,rfl,rfl,rfl,rfl,rfl,f⟩:=jan h1 hm
 refine⟨h1,hl,h3,fun c hc=>?_⟩
 have hf:=h4 c hc
 unfold fit1 at hf
 simp only[qag,decide_eq_true_eq,beq_iff_eq]at hf
 have hk:=f.lk c hc
 subst hl
 have hw1:=(hw c hc).link
 obtain⟨i,hi⟩:=List.getElem?_of_mem hc
 have hb:=(f.tell hw).may i (List.getElem?_eq_some_iff.1 hi).1
 rw[je7 hi]at hb
 exact⟨hb,hw c hc,hf.1.1,by simp at hk;omega,hf.1.2,hf.2⟩
theorem jlL {fl:Int}(hfl:fl=0∨fl=4){s:RS}{k r:Nat}{L1 L2:List CD}{x2 y2:Nat}{hd2:Bool}{t1 t2:ByteArray}{d:List Int}
  (h0:fl=0→s.k=k∧s.r=r∧s.L=L1∧s.ti=t1∧s.mo=0∧s.l=[]) (h4:fl=4→L1=jah k r∧t1=⟨#[]⟩) (hC:L1.length=k*r)
  (hs:jaC s.k s.r s.L s.x s.y s.mo s.ti s.l=true) (hb:jaC k r L2 x2 y2 0 t2 []=true) (hw:∀c∈L2,CWf c) (hd:d=row1 fl k r L1 t1 L2 x2 y2 hd2 t2) :
  ∃a',ap1G d s=(0,⟨k,r,L2,x2,y2,hd2,0,t2,[],[],a'⟩):=by
 obtain⟨hr,_,_,hc⟩:=jcy hb hw (Int.le_refl 0)
 obtain⟨K,R,X,Y,M,e1,e2,e3,e4,e5,f⟩:=jan hr (Int.le_refl 0)
 obtain rfl:k=K:=by omega
 obtain rfl:r=R:=by omega
 obtain⟨f1,f2,f3,f4,f5⟩:=jlK hfl hd2 t1 t2
 have hk:=f.k1
 have hrr:=f.r1
 have hrest:∃T,d=(k:Int)::r::x2::y2::jew fl hd2 t1 t2::T∧T=tit1 t1 t2++(((ysN k L1 L2 r).length:Int)::rwsN k L1 L2 r):=⟨_,by rw[hd];rfl,rfl⟩
 obtain⟨T,hT,hT2⟩:=hrest
 have g0:d.getD 0 0=k:=by rw[hT];rfl
 have g1:d.getD 1 0=r:=by rw[hT];rfl
 have g2:d.getD 2 0=x2:=by rw[hT];rfl
 have g3:d.getD 3 0=y2:=by rw[hT];rfl
 have g4:d.getD 4 0=jew fl hd2 t1 t2:=by rw[hT];rfl
 have g5:d.drop 5=T:=by rw[hT];rfl
 have gl:5≤d.length:=by rw[hT];simp
 have hfit:jbr (k:Int) r=true:=jcb.2 (by omega)
 have hH:hd1G d s=(0,⟨k,r,L1,x2,y2,hd2,0,t1,[],[],5⟩):=by
  unfold hd1G
  rw[if_neg (by omega),g0,g1,g2,g3,g4,if_neg (by rw[hfit];simp;omega)]
  rcases hfl with rfl|rfl
  ·obtain⟨s1,s2,s3,s4,s5,s6⟩:=h0 rfl
   rw[if_neg (by rintro⟨_,q⟩;exact q ⟨s1.symm,s2.symm⟩),if_pos (f3.2 rfl),if_pos (f3.2 rfl),if_pos (f3.2 rfl),if_pos (f3.2 rfl),s3,s4,s5,s6,f4]
  ·obtain⟨s1,s2⟩:=h4 rfl
   have hn:¬jew 4 hd2 t1 t2<4:=fun q=>by have:=f3.1 q;omega
   rw[if_neg (by rintro⟨q,_⟩;exact hn q),if_neg hn,if_neg hn,if_neg hn,if_neg hn,f4,qac,qac,s1,s2]
 have hTi:∃a,ti1G d (d.getD 4 0) ⟨k,r,L1,x2,y2,hd2,0,t1,[],[],5⟩=(0,⟨k,r,L1,x2,y2,hd2,0,t2,[],[],a⟩)∧d.drop a=((ysN k L1 L2 r).length:Int)::rwsN k L1 L2 r:=by
  unfold ti1G
  rw[g4]
  cases hq:jdw t2 t1
  ·rw[if_pos (f5.2 hq)]
   rw[hT2]at g5
   unfold tit1 at g5
   rw[hq]at g5
   simp only[qap,if_false,List.cons_append]at g5
   obtain⟨p1,p2,p3⟩:=jfG g5
   have hln:d.length-6=t2.size+(((ysN k L1 L2 r).length:Int)::rwsN k L1 L2 r).length:=by
    rw[←qai,p3,qaa,jay]
   rw[p2,if_neg (by simp only[qab]at hln;omega)]
   refine⟨6+t2.size,?_,jjb p3 (jay t2)⟩
   rw[qac,jjc p3 (jay t2),ji5]
  ·rw[if_neg (fun q=>by rw[f5.1 q]at hq;cases hq)]
   rw[hT2]at g5
   unfold tit1 at g5
   rw[hq]at g5
   simp only[if_true,qar]at g5
   exact⟨5,by rw[ja9.1 hq],g5⟩
 obtain⟨a,hTa,hda⟩:=hTi
 obtain⟨p1,p2,p3⟩:=jfG hda
 have hys:ysN k L1 L2 r=(qao 0 r).filter (difY k L1 L2):=by unfold ysN;rw[List.range_eq_range']
 have hmix:mix L1 L2 (0*k)=L1:=by simp[mix]
 obtain⟨a',q1,q2⟩:=jpE (R:=[]) hC f.len hc hrr.2 r 0 (a+1) (-1) (by omega) (by omega) (by rw[p3,qaq,←hys];rfl)
 rw[hmix,←hys]at q2
 have hend:d.length≤a':=by
  have:=congrArg qau q1
  rw[qai,qad]at this
  omega
 have hR:jcJ d ⟨k,r,L1,x2,y2,hd2,0,t2,[],[],a⟩=(0,⟨k,r,L2,x2,y2,hd2,0,t2,[],[],a⟩):=by
  unfold jcJ
  simp only
  rw[if_neg (by omega),p2,qac,qac,q2]
  simp only[ne_eq,not_true_eq_false,if_false]
  rw[if_neg (by omega)]
 refine⟨a,?_⟩
 unfold ap1G
 rw[if_neg (by rw[hs];decide),hH]
 simp only[ne_eq,not_true_eq_false,if_false]
 rw[hTa]
 simp only[ne_eq,not_true_eq_false,if_false]
 rw[hR]
 simp only[ne_eq,not_true_eq_false,if_false]
 rw[if_neg (by rw[hb];decide)]
end
end Go.Proofs.YtienkkicehmchaaGreatDoor
