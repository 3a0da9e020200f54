/- Texts of this claim, merged by a program of this claim: FApply2, FApply3, FApply4, FThing, KeepM, ThereM, ThereM2, LenM. -/
import Derived.Test.YtienkkicehmchaaGreatDoorDl11
import Derived.Test.YtienkkicehmchaaGreatDoorDl25
import Derived.Test.YtienkkicehmchaaGreatDoorDl26
import Derived.Test.YtienkkicehmchaaGreatDoorDl28
import Derived.Test.YtienkkicehmchaaGreatDoorDl31
import Derived.Test.YtienkkicehmchaaGreatDoorDl6
namespace Go.Proofs.YtienkkicehmchaaGreatDoor
open List renaming length_append→qaa,length_cons→qab,flatMap_cons→qac,flatMap_nil→qae,length_nil→qaf,replicate→qah
open Bool renaming and_eq_true→qad,or_eq_true→qag
set_option linter.unusedVariables false
set_option linter.unusedSimpArgs false
section
open Go.RowKit
set_option maxRecDepth 100000
set_option maxHeartbeats 4000000
end
section
open Go.RowKit
set_option maxRecDepth 100000
set_option maxHeartbeats 4000000
end
section
open Go.RowKit
set_option maxRecDepth 100000
set_option maxHeartbeats 4000000
end
section
open Go.RowKit
set_option maxRecDepth 100000
set_option maxHeartbeats 4000000
end
section
end
section
section
variable {C W:List CD}
structure Tell (W:List CD) (k:Nat) (nl:Nat):Prop where
 whole:Whole W
 may:∀i,i<W.length→mayB (cAt W i)=true
 pen:∀i,i<W.length→(cAt W i).wide=1→(cAt W (i+1)).pen=(cAt W i).pen
 fit:∀i,i<W.length→(cAt W i).wide=1→i % k+2≤k
 k1:1≤k
 wf:∀c∈W,CWf c
 link:∀c∈W,c.link≤nl
 small:W.length≤2000
theorem jmZ {c:CD}(h:mayB c=true) (h2:c.wide≠2):(c.wide=0∧Utf.width c.rune=1)∨(c.wide=1∧Utf.width c.rune=2):=by
 unfold mayB at h
 simp only[qad,qag,beq_iff_eq]at h
 rcases h.2 with (h|h)|h
 ·exact .inl h
 ·exact .inr h
 ·exact absurd h.1 h2
theorem jkF {c:Int}(h:Utf.width c≠0):32≤c∧c≤1114111:=by
 unfold Utf.width at h
 by_cases hn:Utf.noWidth c=true
 ·rw[if_pos hn]at h
  exact absurd rfl h
 ·unfold Utf.noWidth at hn
  simp only[qag,decide_eq_true_eq,not_or]at hn
  omega
theorem jol {i:Nat}(hi:i<W.length):W[i]?=some (cAt W i):=by
 rw[List.getElem?_eq_getElem hi,jcV (List.getElem?_eq_getElem hi)]
theorem jqQ {k nl:Nat}(hT:Tell W k nl){i:Nat}(hi:i<W.length) (hb:(cAt W i).wide≠2):Utf.width (cAt W i).rune=jaa W i∧32≤(cAt W i).rune∧(cAt W i).rune≤1114111:=by
 have hm:=jmZ (hT.may i hi) hb
 have h0:Utf.width (cAt W i).rune≠0:=by omega
 refine⟨?_,jkF h0⟩
 unfold jaa
 split<;>omega
end
end
section
theorem RFact.tell {k r:Nat}{L:List CD}{x y mo:Nat}{ti:ByteArray}{l:List ByteArray}(h:RFact k r L x y mo ti l) (hw:∀c∈L,CWf c):Tell L k l.length:=by
 have row:∀y x,y<r→x<k→mayB (cAt L (y*k+x))=true∧(0<x→(cAt L (y*k+(x-1))).wide=1→(cAt L (y*k+(x-1))).pen=(cAt L (y*k+x)).pen):=fun y x hy hx=>by
  have hb:=h.row y hy
  unfold jb0 at hb
  simp only[qad,List.all_eq_true,List.mem_range]at hb
  have:=(jcg _ _).1 (hb.1.2 x (by rw[jaQ h.len hy];exact hx))
  rw[jfO hx,jfO (show x-1<k by omega)]at this
  exact⟨this.1,this.2.2⟩
 have hkr:k*r≤80*24:=Nat.mul_le_mul h.k1.2 h.r1.2
 refine⟨h.whole,fun i hi=>?_,fun i hi hwd=>?_,fun i hi hwd=>?_,h.k1.1,hw,h.lk,by rw[h.len];omega⟩
 ·obtain⟨y,x,rfl,hy,hx⟩:=jd8 (k:=k) (r:=r) (by rw[←h.len];exact hi)
  exact (row y x hy hx).1
 ·obtain⟨y,x,rfl,hy,hx⟩:=jd8 (k:=k) (r:=r) (by rw[←h.len];exact hi)
  have h1:=h.fit y x hy hx hwd
  have:=(row y (x+1) hy h1).2 (by omega) (by rw[Nat.add_sub_cancel];exact hwd)
  rw[Nat.add_sub_cancel]at this
  exact this.symm
 ·obtain⟨y,x,rfl,hy,hx⟩:=jd8 (k:=k) (r:=r) (by rw[←h.len];exact hi)
  have h1:=h.fit y x hy hx hwd
  rw[Nat.mul_comm,Nat.mul_add_mod,Nat.mod_eq_of_lt hx]
  omega
section
variable {d R:List Int}{s:RS}{f:Nat}{last:Int}
end
end
section
theorem jec {c:Int}(h:jiZ c=true):c<33554432:=by
 unfold jiZ at h
 simp only[qag,qad,decide_eq_true_eq]at h
 omega
theorem jc1 {n:Nat}(h:n<128):(varN n).length≤1:=je7 n 0 (by omega)
theorem jhI {n:Nat}(h:n<16384):(varN n).length≤2:=je7 n 1 (by omega)
theorem jvN {n:Nat}(h:n<2097152):(varN n).length≤3:=je7 n 2 (by omega)
theorem jpq {n:Nat}(h:n<268435456):(varN n).length≤4:=je7 n 3 (by omega)
section
variable {W:List CD}{k nl:Nat}
def Lets (W:List CD) (l:List Nat):Prop:=∀x∈l,x<W.length∧(cAt W x).wide≠2
theorem jpr (hT:Tell W k nl):∀l:List Nat,Lets W l→(jbu W l).length≤3*l.length
 | [],_=>by simp[jbu]
 | x::l,h=>by
  have h1:=jpr hT l fun y hy=>h y (by simp[hy])
  obtain⟨hx,hw⟩:=h x (by simp)
  have h2:=jqQ hT hx hw
  have h3:=jvN (n:=(cAt W x).rune.toNat) (by omega)
  have e:jbu W (x::l)=varN (cAt W x).rune.toNat++jbu W l:=by simp[jbu]
  rw[e,qaa,qab]
  omega
theorem jxk (hT:Tell W k nl) (h16:nl≤16){x:Nat}(hx:x<W.length):(jaq (penN (cAt W x).pen)).length≤11:=by
 have hw:=hT.wf (cAt W x) (List.mem_of_getElem? (jol hx))
 have hl:=hT.link (cAt W x) (List.mem_of_getElem? (jol hx))
 have hm:=hT.may x hx
 unfold mayB penB at hm
 simp only[qad]at hm
 have c1:=jec hm.1.1
 have c2:=jec hm.1.2
 have e1:=hw.attrs
 simp only[CD.pen]at c1 c2
 have a1:=jpq (n:=(cAt W x).fg.toNat) (by omega)
 have a2:=jpq (n:=(cAt W x).bg.toNat) (by omega)
 have a3:=jhI (n:=(cAt W x).attrs.toNat) (by omega)
 have a4:=jc1 (n:=(cAt W x).link.toNat) (by omega)
 simp only[penN,CD.pen,jaq,qac,qae,qaa,qaf]
 omega
theorem ju9 {l:List Nat}{p:PD}{e:Nat}(h:Lets W l):Lets W (runP W p e l).1∧Lets W (runP W p e l).2.2:=by
 have:=jie W p l e
 exact⟨fun x hx=>h x (by rw[←this];exact List.mem_append.2 (.inl hx)),fun x hx=>h x (by rw[←this];exact List.mem_append.2 (.inr hx))⟩
theorem jkG (hT:Tell W k nl) (h16:nl≤16):∀(f bh:Nat) (l:List Nat),Lets W l→l.length≤2000→(layR W f bh l).1.length≤17*l.length
 | 0,bh,l,_,_=>by simp[layR]
 | f+1,bh,[],_,_=>by simp[layR]
 | f+1,bh,x::l,h,hl=>by
  obtain⟨hx,hw⟩:=h x (by simp)
  have hlen:=jcF W (cAt W x).pen (x::l) x
  have hpos:1≤(runP W (cAt W x).pen x (x::l)).1.length:=by
   rw[(jcl W x l).1,qab]
   omega
  obtain⟨q1,q2⟩:=ju9 (p:=(cAt W x).pen) (e:=x) h
  have h1:=jpr hT _ q1
  have h2:=jkG hT h16 f (runP W (cAt W x).pen x (x::l)).2.1 _ q2 (by omega)
  have h3:=jxk hT h16 hx
  have hsm:=hT.small
  have h4:=jhI (n:=x-bh) (by omega)
  have h5:(varN (runP W (cAt W x).pen x (x::l)).1.length).length≤1∨(128≤(runP W (cAt W x).pen x (x::l)).1.length∧(varN (runP W (cAt W x).pen x (x::l)).1.length).length≤2):=by
   rcases Nat.lt_or_ge (runP W (cAt W x).pen x (x::l)).1.length 128 with q|q
   ·exact .inl (jc1 q)
   ·exact .inr ⟨q,jhI (by omega)⟩
  rw[layR]
  simp only[jjy,qaa]
  have e:(jaq [x-bh,(runP W (cAt W x).pen x (x::l)).1.length]).length=(varN (x-bh)).length+(varN (runP W (cAt W x).pen x (x::l)).1.length).length:=by simp[jaq]
  rw[e]
  omega
theorem jva {C:List CD}(hT:Tell W k nl):Lets W (rem (jav C W) (jaa W) W.length 0):=fun x hx=>by
 rw[jsn hT.whole]at hx
 have h1:=jsm hx
 unfold col at hx
 have h2:=(List.mem_filter.1 hx).2
 unfold colP at h2
 simp only[qad,decide_eq_true_eq]at h2
 exact⟨h1,h2.1⟩
theorem jom {C:List CD}(hT:Tell W k nl) (h16:nl≤16):(jbd C W).length≤3+17*(rem (jav C W) (jaa W) W.length 0).length:=by
 have hsm:=hT.small
 have hr:(rem (jav C W) (jaa W) W.length 0).length≤W.length:=jbD
 have h1:=jkG hT h16 (rem (jav C W) (jaa W) W.length 0).length 0 _ (jva (C:=C) hT) (by omega)
 have h2:=(jgt hT.wf (rem (jav C W) (jaa W) W.length 0).length 0 (rem (jav C W) (jaa W) W.length 0) (by omega) (fun x hx=>by have:=(jeI (fun i=>(jat W i).1) hx).2.1;omega)).2
 unfold jbd
 dsimp only
 split
 ·simp
 ·have h3:=jhI (n:=(layR W (rem (jav C W) (jaa W) W.length 0).length 0 (rem (jav C W) (jaa W) W.length 0)).2) (by omega)
  simp only[qab,qaa]
  omega
end
theorem jta (n:Nat) (j:Int):jfl (qah n blank0) j=blank0:=by
 unfold jfl
 split
 ·rename_i h
  rw[List.length_replicate]at h
  unfold cAt
  rw[List.getD_eq_getElem?_getD,List.getElem?_replicate,if_pos (by omega)]
  rfl
 ·rfl
theorem jkH {d:Int→Nat}(h:∀m,d m=d 0):∀n,jbC d n=(0,d 0)
 | 0=>rfl
 | n+1=>by
  rw[jbC,jkH h n]
  unfold jbl
  rw[h ((n+1:Nat):Int),h (-((n+1:Nat):Int)),if_neg (by simp),if_neg (by simp)]
theorem jvb (k r:Nat) (L:List CD):upN k r (jah k r) L=0:=by
 unfold upN
 rw[jkH]
 intro m
 unfold dist jah
 simp only[jta]
theorem jtb (k r:Nat) (l:List ByteArray):undL (jah k r) [] l=jah k r:=by
 unfold undL jah
 rw[List.map_replicate]
 congr 1
theorem jm0 {k r y:Nat}(hy:y<r):mAt (jak (jah k r) k r) y=qah k blank0:=by
 rw[jcE hy]
 have hl:(jas (jah k r) k y).length=k:=jaQ (by simp[jah]) hy
 refine List.eq_replicate_iff.2 ⟨hl,fun b hb=>?_⟩
 have:=jci hb
 unfold jah at this
 exact (List.mem_replicate.1 this).2
theorem jhd {k r:Nat}{B:List (List CD)}:∀y,y≤r→(jae (jak (jah k r) k r) B y).1=[]
 | 0,_=>rfl
 | y+1,hy=>by
  by_cases q:mAt (jak (jah k r) k r) y=mAt B y
  ·rw[jae,if_pos q]
   exact jhd y (by omega)
  ·have:jjb (jak (jah k r) k r) B y (jak (jah k r) k r).length=none:=by
    refine jcN fun z hz e=>q ?_
    rw[jba]at hz
    rw[←e,jm0 (by omega),jm0 hz]
   rw[jae,if_neg q,this]
   exact jhd y (by omega)
theorem jxl {l:List ByteArray}(h:∀s∈l,s.size≤64):(texB l).length≤65*l.length:=by
 induction l with
 | nil=>simp[texB]
 | cons s l ih =>
  have h1:=ih fun t ht=>h t (by simp[ht])
  have h2:=h s (by simp)
  have h3:=jc1 (n:=(jab s).length) (by rw[jaw];omega)
  have e:texB (s::l)=jeE (jab s)++texB l:=by simp[texB]
  have h4:=jaw s
  rw[e,qaa,jeE,qaa,qab]
  omega
theorem jtc {x1 y1:Nat}{hd1:Bool}{x2 y2:Nat}{hd2:Bool}(hx:x2<80) (hy:y2<24):(curB x1 y1 hd1 x2 y2 hd2).length≤4:=by
 unfold curB
 split
 ·have a1:=jc1 (n:=x2) (by omega)
  have a2:=jc1 (n:=y2) (by omega)
  have a3:=jc1 (n:=if hd2 then 1 else 0) (by cases hd2<;>decide)
  simp only[jaq,qac,qae,qaa,qaf,qab]
  omega
 ·simp
theorem jtd {t1 t2:ByteArray}(h:t2.size≤64):(titB t1 t2).length≤66:=by
 unfold titB
 split
 ·simp
 ·have h3:=jc1 (n:=(jab t2).length) (by rw[jaw];omega)
  have h4:=jaw t2
  simp only[jeE,qaa,qab]
  omega
theorem jte {m1 m2:Nat}(h:m2≤2):(mouB m1 m2).length≤2:=by
 unfold mouB
 split
 ·simp
 ·have h3:=jc1 (n:=m2) (by omega)
  simp only[jaq,qac,qae,qaa,qaf,qab]
  omega
theorem jqR {k r:Int}{L:List CD}{x y:Int}{hd:Bool}{mo:Int}{ti:ByteArray}{l:List ByteArray}(hw:∀c∈L,CWf c) (hmo:0≤mo):(jcn k r L x y hd mo ti l).length≤33792:=by
 cases hr:jai k r L x y mo ti l
 ·rw[jcn,if_neg (by rw[hr];decide)]
  simp
 ·have hr2:=hr
  obtain⟨K,R,X,Y,M,rfl,rfl,rfl,rfl,rfl,f⟩:=jaj hr hmo
  rw[jcn,if_pos hr2]
  simp only[Int.toNat_natCast]
  have hk:=f.k1
  have hrr:=f.r1
  have hx:=f.x1
  have hy:=f.y1
  have hkr:K*R≤80*24:=Nat.mul_le_mul hk.2 hrr.2
  have a1:=jtc (x1:=0) (y1:=0) (hd1:=false) (x2:=X) (y2:=Y) (hd2:=hd) (by omega) (by omega)
  have a2:=jtd (t1:=⟨#[]⟩) f.ti1
  have a3:=jte (m1:=0) f.mo1
  have a4:(linB [] l).length≤1043:=by
   unfold linB
   split
   ·simp
   ·have e:comK l []=0:=by cases l<;>rfl
    have b1:=jc1 (n:=comK l []) (by omega)
    have b2:=jc1 (n:=l.length-comK l []) (by have:=f.l1;omega)
    have b3:=jxl (l:=l.drop (comK l [])) fun s hs=>f.s64 s (List.mem_of_mem_drop hs)
    have:=f.l1
    simp only[jaq,qac,qae,qaa,qaf,qab,List.length_drop]at b3 ⊢
    omega
  have hm0:movL K R (jah K R) 0=jah K R:=jmz (by simp[jah])
  have a5:=jom (C:=cpyL K R (jah K R) L) (f.tell hw) f.l1
  have a6:(rem (jav (cpyL K R (jah K R) L) L) (jaa L) L.length 0).length≤L.length:=jbD
  have a7:=f.len
  have a8:=jc1 (n:=K) (by omega)
  have a9:=jc1 (n:=R) (by omega)
  have e1:scrB 0=[]:=rfl
  have e2:jgs []=[]:=rfl
  unfold juT jfm jqw celB
  rw[jtb,jvb,hm0,jhd R (Nat.le_refl _),e1,e2]
  simp only[jaq,qac,qae,qaa,qaf,qab,List.append_nil,List.nil_append]at a1 a2 a3 a4 a5 ⊢
  omega
end
end Go.Proofs.YtienkkicehmchaaGreatDoor
