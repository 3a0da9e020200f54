/- Texts of this claim, merged by a program of this claim: LenM2, RnE. -/
import Derived.Test.YtienkkicehmchaaGreatDoorDl32
import Derived.Test.YtienkkicehmchaaGreatDoorDl33
namespace Go.Proofs.YtienkkicehmchaaGreatDoor
open List renaming length_append→qaa,length_cons→qab,flatMap_cons→qac,length_nil→qae,flatMap_nil→qaf
open Int renaming toNat_natCast→qad
set_option linter.unusedVariables false
set_option linter.unusedSimpArgs false
section
theorem jii:∀(k n:Nat),Bts (numN k n)
 | 0,_=>jaH
 | k+1,n=>jaN (jii k _) (jaA (by omega) jaH)
theorem jxn (t:ByteArray):Bts (jab t):=fun x hx=>by
 have h:=jcW t x hx
 obtain⟨h1,h2⟩:=h
 exact⟨h1,h2⟩
theorem jvd {c:CD}(h:CWf c):Bts (cellN c):=jaN (jii _ _) (jaN (jii _ _) (jaN (jii _ _) (jaA h.attrs jaH)))
theorem jtf {fl:Int}(h:fl=0∨fl=4) (hd:Bool) (t1 t2:ByteArray):0≤jc8 fl hd t1 t2∧jc8 fl hd t1 t2<256:=by
 have:=jqS h hd t1 t2
 omega
theorem jkJ {fl:Int}(hfl:fl=0∨fl=4){k r:Nat}{L1 L2:List CD}{x2 y2:Nat}{hd2:Bool}{t1 t2:ByteArray}(hk:k≤80) (hr:r≤24) (hx:x2<80) (hy:y2<24) (ht:t2.size≤64) (hw:∀c∈L2,CWf c) :
  (row1 fl k r L1 t1 L2 x2 y2 hd2 t2).length≤33792∧Bts (row1 fl k r L1 t1 L2 x2 y2 hd2 t2):=by
 have hys:=joe k L1 L2 r
 have hrow:∀y,(rowN L2 k y).length≤721:=fun y=>by
  have h1:(jas L2 k y).length≤k:=by unfold jas;rw[List.length_take];omega
  have h2:∀l:List CD,(l.flatMap cellN).length=9*l.length:=fun l=>by
   induction l with
   | nil=>rfl
   | cons c l ih=>rw[qac,qaa,ih,jeV,qab];omega
  unfold rowN
  rw[qab,h2]
  omega
 have hrws:∀l:List Nat,(l.flatMap (rowN L2 k)).length≤721*l.length:=fun l=>by
  induction l with
  | nil=>simp
  | cons y l ih =>
   have:=hrow y
   rw[qac,qaa,qab]
   omega
 have h3:=hrws (ysN k L1 L2 r)
 have hti:(tit1 t1 t2).length≤65∧Bts (tit1 t1 t2):=by
  unfold tit1
  split
  ·exact⟨by simp,jaH⟩
  ·exact⟨by rw[qab,jaw];omega,jaA (by omega) (jxn _)⟩
 refine⟨?_,?_⟩
 ·unfold row1 rwsN
  simp only[qaa,qab,qae]
  omega
 ·unfold row1
  refine jaN (jaA (by omega) (jaA (by omega) (jaA (by omega) (jaA (by omega) (jaA (jtf hfl _ _ _) jaH))))) (jaN hti.2 (jaA (by omega) (jfe fun y hy=>?_)))
  have hy2:y<r:=by
   unfold ysN at hy
   exact List.mem_range.1 (List.mem_filter.1 hy).1
  exact jaA (by omega) (jfe fun c hc=>jvd (hw c (jci hc)))
section
variable {k r:Int}{L:List CD}{x y:Int}{hd:Bool}{mo:Int}{ti:ByteArray}{l:List ByteArray}
theorem jjD (hw:∀c∈L,CWf c) (hmo:0≤mo):(jbx k r L x y hd mo ti l).length≤33792∧Bts (jbx k r L x y hd mo ti l):=by
 unfold jbx
 split
 ·rename_i h
  obtain⟨h1,_,_,_⟩:=jjC h hw hmo
  obtain⟨K,R,X,Y,M,rfl,rfl,rfl,rfl,rfl,f⟩:=jaj h1 hmo
  simp only[qad]
  have hk:=f.k1
  have hr:=f.r1
  have hx:=f.x1
  have hy:=f.y1
  exact jkJ (.inr rfl) hk.2 hr.2 (by omega) (by omega) f.ti1 hw
 ·exact⟨by simp,jaH⟩
variable {k' r':Int}{L':List CD}{x' y':Int}{hd':Bool}{mo':Int}{ti':ByteArray}{l':List ByteArray}
theorem jqT (hw:∀c∈L',CWf c) (hmo:0≤mo'):(jct k r L x y hd mo ti l k' r' L' x' y' hd' mo' ti' l').length≤33792∧Bts (jct k r L x y hd mo ti l k' r' L' x' y' hd' mo' ti' l'):=by
 unfold jct
 split
 ·rename_i h
  rw[Bool.and_eq_true]at h
  split
  ·rename_i he
   obtain⟨rfl,rfl⟩:=he
   obtain⟨h1,_,_,_⟩:=jjC h.2 hw hmo
   obtain⟨K,R,X,Y,M,rfl,rfl,rfl,rfl,rfl,f⟩:=jaj h1 hmo
   simp only[qad]
   have hk:=f.k1
   have hr:=f.r1
   have hx:=f.x1
   have hy:=f.y1
   exact jkJ (.inl rfl) hk.2 hr.2 (by omega) (by omega) f.ti1 hw
  ·exact jjD hw hmo
 ·exact⟨by simp,jaH⟩
end
section
variable {W:List CD}
theorem jm1 (hT:All2 W):∀l:List Nat,(∀x∈l,x<W.length)→(jbu W l).length≤3*l.length
 | [],_=>by simp[jbu]
 | x::l,h=>by
  have h1:=jm1 hT l fun y hy=>h y (by simp[hy])
  have hc:=hT.at_ (h x (by simp))
  have hw:=jmZ hc.may (by rw[hc.wide];decide)
  have h2:=jkF (c:=(cAt W x).rune) (by have:=hc.wide;omega)
  have h3:=jvN (n:=(cAt W x).rune.toNat) (by omega)
  have e:jbu W (x::l)=varN (cAt W x).rune.toNat++jbu W l:=by simp[jbu]
  rw[e,qaa,qab]
  omega
theorem jve (hT:All2 W){x:Nat}(hx:x<W.length):(jaq (pen3 (cAt W x).pen)).length≤10:=by
 have hc:=hT.at_ hx
 have hm:=hc.may
 unfold mayB penB at hm
 simp only[Bool.and_eq_true]at hm
 have c1:=jec hm.1.1
 have c2:=jec hm.1.2
 have e1:=hc.wf.attrs
 simp only[CD.pen]at c1 c2
 have a1:=jpq (n:=(cAt W x).fg.toNat) (by omega)
 have a2:=jpq (n:=(cAt W x).bg.toNat) (by omega)
 have a3:=jhI (n:=(cAt W x).attrs.toNat) (by omega)
 simp only[pen3,CD.pen,jaq,qac,qaf,qaa,qae]
 omega
theorem jgG (hT:All2 W):∀(f bh:Nat) (l:List Nat),(∀x∈l,x<W.length)→l.length≤2000→(lay3 W f bh l).1.length≤16*l.length∧(lay3 W f bh l).2≤l.length
 | 0,bh,l,_,_=>by simp[lay3]
 | f+1,bh,[],_,_=>by simp[lay3]
 | f+1,bh,x::l,h,hl=>by
  have hx:=h x (by simp)
  have hlen:=jcF W (cAt W x).pen (x::l) x
  have hpos:1≤(runP W (cAt W x).pen x (x::l)).1.length:=by
   rw[(jcl W x l).1,qab]
   omega
  have happ:=jie W (cAt W x).pen (x::l) x
  have q1:∀y∈(runP W (cAt W x).pen x (x::l)).1,y<W.length:=fun y hy=>h y (by rw[←happ];exact List.mem_append.2 (.inl hy))
  have q2:∀y∈(runP W (cAt W x).pen x (x::l)).2.2,y<W.length:=fun y hy=>h y (by rw[←happ];exact List.mem_append.2 (.inr hy))
  have h1:=jm1 hT _ q1
  have h2:=jgG hT f (runP W (cAt W x).pen x (x::l)).2.1 _ q2 (by omega)
  have h3:=jve hT hx
  have hsm:=hT.small
  have h4:=jhI (n:=x-bh) (by omega)
  have h5:(varN (runP W (cAt W x).pen x (x::l)).1.length).length≤1∨(128≤(runP W (cAt W x).pen x (x::l)).1.length∧(varN (runP W (cAt W x).pen x (x::l)).1.length).length≤2):=by
   rcases Nat.lt_or_ge (runP W (cAt W x).pen x (x::l)).1.length 128 with q|q
   ·exact .inl (jc1 q)
   ·exact .inr ⟨q,jhI (by omega)⟩
  rw[lay3]
  simp only[jjy,qaa]
  have e:(jaq [x-bh,(runP W (cAt W x).pen x (x::l)).1.length]).length=(varN (x-bh)).length+(varN (runP W (cAt W x).pen x (x::l)).1.length).length:=by simp[jaq]
  rw[e]
  omega
theorem jpv (W:List CD):∀(f bh:Nat) (l:List Nat),Bts (lay3 W f bh l).1
 | 0,_,_=>jaH
 | f+1,bh,[]=>jaH
 | f+1,bh,x::l=>by
  rw[lay3]
  exact jaN (jbi _) (jaN (jfe fun y _=>jed _) (jpv W f _ _))
theorem jjE {C:List CD}(hT:All2 W):(jkI C W).length≤32003∧Bts (jkI C W):=by
 have hsm:=hT.small
 have hr:(rem (jav C W) (jaa W) W.length 0).length≤W.length:=jbD
 have hm:∀x∈rem (jav C W) (jaa W) W.length 0,x<W.length:=fun x hx=>(jeI (fun i=>(jat W i).1) hx).2.1
 have h1:=jgG hT (rem (jav C W) (jaa W) W.length 0).length 0 _ hm (by omega)
 have h2:=jpv W (rem (jav C W) (jaa W) W.length 0).length 0 (rem (jav C W) (jaa W) W.length 0)
 unfold jkI
 split
 ·exact⟨by simp,jaH⟩
 ·have h3:=jhI (n:=(jfV C W).2) (by unfold jfV;omega)
  refine⟨?_,jaA (by omega) (jaN (jed _) h2)⟩
  have h4:(jfV C W).1.length≤16*(rem (jav C W) (jaa W) W.length 0).length:=h1.1
  simp only[qab,qaa]
  omega
theorem jee {L1:List CD}{x1 y1:Nat}{hd1:Bool}{m1:Nat}{t1:ByteArray}{x2 y2:Nat}{hd2:Bool}{m2:Nat}{t2:ByteArray}(hT:All2 W) (hx:x2<80) (hy:y2<24) (hm:m2≤2) (ht:t2.size≤64) :
  (jhe L1 x1 y1 hd1 m1 t1 W x2 y2 hd2 m2 t2).length≤32075∧Bts (jhe L1 x1 y1 hd1 m1 t1 W x2 y2 hd2 m2 t2):=by
 have a1:=jtc (x1:=x1) (y1:=y1) (hd1:=hd1) (hd2:=hd2) hx hy
 have a2:=jtd (t1:=t1) ht
 have a3:=jte (m1:=m1) hm
 obtain⟨a4,a5⟩:=jjE (C:=L1) hT
 unfold jhe
 refine⟨?_,jaN (jaN (jaN ?_ ?_) ?_) a5⟩
 ·simp only[qaa]
  omega
 ·unfold curB
  split
  ·exact jaA (by omega) (jbi _)
  ·exact jaH
 ·unfold titB
  split
  ·exact jaH
  ·exact jaA (by omega) (jlP _)
 ·unfold mouB
  split
  ·exact jaH
  ·exact jaA (by omega) (jbi _)
end
section
variable {k r:Int}{L:List CD}{x y:Int}{hd:Bool}{mo:Int}{ti:ByteArray}{l:List ByteArray}
theorem jjF (hw:∀c∈L,CWf c) (hmo:0≤mo):(jby k r L x y hd mo ti l).length≤33792∧Bts (jby k r L x y hd mo ti l):=by
 unfold jby
 split
 ·rename_i h
  obtain⟨h1,_,hT⟩:=jbh h hw hmo
  obtain⟨K,R,X,Y,M,rfl,rfl,rfl,rfl,rfl,f⟩:=jaj h1 hmo
  simp only[qad]
  have hk:=f.k1
  have hr:=f.r1
  have hx:=f.x1
  have hy:=f.y1
  have a8:=jc1 (n:=K) (by omega)
  have a9:=jc1 (n:=R) (by omega)
  obtain⟨h3,h4⟩:=jee (L1:=jah K R) (x1:=0) (y1:=0) (hd1:=false) (m1:=0) (t1:=⟨#[]⟩) (hd2:=hd) hT (show X<80 by omega) (show Y<24 by omega) f.mo1 f.ti1
  refine⟨?_,jaN (jaA (by omega) (jbi _)) h4⟩
  unfold jya
  simp only[jaq,qac,qaf,qaa,qae,qab]
  omega
 ·exact⟨by simp,jaH⟩
variable {k' r':Int}{L':List CD}{x' y':Int}{hd':Bool}{mo':Int}{ti':ByteArray}{l':List ByteArray}
theorem jqU (hw:∀c∈L',CWf c) (hmo:0≤mo'):(jcu k r L x y hd mo ti l k' r' L' x' y' hd' mo' ti' l').length≤33792∧Bts (jcu k r L x y hd mo ti l k' r' L' x' y' hd' mo' ti' l'):=by
 unfold jcu
 split
 ·rename_i h
  rw[Bool.and_eq_true]at h
  split
  ·rename_i he
   obtain⟨rfl,rfl⟩:=he
   obtain⟨h1,_,hT⟩:=jbh h.2 hw hmo
   obtain⟨K,R,X,Y,M,rfl,rfl,rfl,rfl,rfl,f⟩:=jaj h1 hmo
   simp only[qad]
   have hk:=f.k1
   have hr:=f.r1
   have hx:=f.x1
   have hy:=f.y1
   have:=jee (L1:=L) (x1:=x.toNat) (y1:=y.toNat) (hd1:=hd) (m1:=mo.toNat) (t1:=ti) (hd2:=hd') hT (show X<80 by omega) (show Y<24 by omega) f.mo1 f.ti1
   exact⟨by omega,this.2⟩
  ·exact jjF hw hmo
 ·exact⟨by simp,jaH⟩
end
section
variable {k r:Int}{L:List CD}{x y:Int}{hd:Bool}{mo:Int}{ti:ByteArray}{l:List ByteArray}{k' r':Int}{L':List CD}{x' y':Int}{hd':Bool}{mo':Int}{ti':ByteArray}{l':List ByteArray}
end
end
section
theorem jfW (W:List CD):∀(f g bh:Nat) (l:List Nat),l.length≤f→l.length≤g→lay3 W f bh l=lay3 W g bh l
 | _,_,bh,[],_,_=>by rw[jlO,jlO]
 | 0,_,bh,x::l,h,_=>by simp at h
 | f+1,0,bh,x::l,_,h=>by simp at h
 | f+1,g+1,bh,x::l,h1,h2=>by
  have hh:=(jcl W x l).1
  have hl:=jcF W (cAt W x).pen (x::l) x
  rw[hh]at hl
  simp only[qab]at hl h1 h2
  rw[lay3,lay3,jfW W f g _ (runP W (cAt W x).pen x (x::l)).2.2 (by omega) (by omega)]
structure Out3 (W:List CD) (oth:Nat→Bool) (i bh nn:Nat) (bs:List Int):Prop where
 le:bh≤i∧i≤W.length
 bytes:bs++(lay3 W W.length bh (rem oth (jaa W) W.length i)).1=(lay3 W W.length 0 (rem oth (jaa W) W.length 0)).1
 num:nn+(lay3 W W.length bh (rem oth (jaa W) W.length i)).2=(lay3 W W.length 0 (rem oth (jaa W) W.length 0)).2
theorem Out3.skip {W:List CD}{oth:Nat→Bool}{i bh nn:Nat}{bs:List Int}(h:Out3 W oth i bh nn bs) (hi:i<W.length) (ho:oth i=false) (hv:i+jaa W i≤W.length):Out3 W oth (i+jaa W i) bh nn bs:=by
 have hr:=jd6 (oth:=oth) (fun i=>(jat W i).1) hi
 rw[ho]at hr
 simp only[Bool.false_eq_true,if_false,List.nil_append]at hr
 have h1:=h.bytes
 have h2:=h.num
 rw[hr]at h1 h2
 exact⟨⟨by have:=h.le;omega,hv⟩,h1,h2⟩
theorem Out3.go {W:List CD}{oth:Nat→Bool}{i bh nn j kk:Nat}{bs rb:List Int}(h:Out3 W oth i bh nn bs) (hi:i<W.length) (ho:oth i=true) (hin:Inn W (cAt W i).pen oth i j kk rb) (hs:¬(j<W.length∧oth j=true∧(cAt W j).pen=(cAt W i).pen)) :
  Out3 W oth j j (nn+1) (bs++jaq ([i-bh,kk]++pen3 (cAt W i).pen)++rb):=by
 obtain⟨e1,e2,e3⟩:=hin.done hs
 have hr:=jd6 (oth:=oth) (fun i=>(jat W i).1) hi
 rw[if_pos ho]at hr
 obtain⟨l,hl⟩:∃l,rem oth (jaa W) W.length i=i::l:=⟨_,hr⟩
 have hc:=jcF W (cAt W i).pen (i::l) i
 have hh:=(jcl W i l).1
 have hlen:(i::l).length≤W.length:=by rw[←hl];exact jbD
 rw[hl]at e1 e2 e3
 have hlay:lay3 W W.length bh (i::l)=(jaq ([i-bh,kk]++pen3 (cAt W i).pen)++(rb++(lay3 W W.length j (rem oth (jaa W) W.length j)).1),(lay3 W W.length j (rem oth (jaa W) W.length j)).2+1):=by
  obtain⟨f,hf⟩:∃f,W.length=f+1:=⟨W.length-1,by omega⟩
  have e5:lay3 W W.length j (rem oth (jaa W) W.length j)=lay3 W f j (rem oth (jaa W) W.length j):=by
   have hrl:(rem oth (jaa W) W.length j).length≤f:=by
    rw[hh,e3]at hc
    simp only[qab]at hc hlen
    omega
   exact jfW W _ _ _ _ (by omega) hrl
  rw[e5]
  conv=>lhs;rw[hf]
  rw[lay3,←e1,←e2,e3]
 have h1:=h.bytes
 have h2:=h.num
 rw[hl,hlay]at h1 h2
 refine⟨⟨Nat.le_refl _,hin.le.2⟩,?_,?_⟩
 ·rw[←h1]
  simp
 ·simp only at h2
  omega
theorem Out3.done {W:List CD}{oth:Nat→Bool}{i bh nn:Nat}{bs:List Int}(h:Out3 W oth i bh nn bs) (hi:W.length≤i):bs=(lay3 W W.length 0 (rem oth (jaa W) W.length 0)).1∧nn=(lay3 W W.length 0 (rem oth (jaa W) W.length 0)).2:=by
 have h1:=h.bytes
 have h2:=h.num
 rw[jn3 hi,jlO]at h1 h2
 simp at h1 h2
 exact⟨h1,h2⟩
theorem Out3.small {W:List CD}(hT:All2 W){oth:Nat→Bool}{i bh nn:Nat}{bs:List Int}(h:Out3 W oth i bh nn bs):bs.length≤33000∧nn≤2000:=by
 have hs:=hT.small
 have hr:(rem oth (jaa W) W.length 0).length≤W.length:=jbD
 have h1:=jgG hT W.length 0 (rem oth (jaa W) W.length 0) (fun x hx=>(jeI (fun i=>(jat W i).1) hx).2.1) (by omega)
 have h2:=congrArg List.length h.bytes
 have h3:=h.num
 rw[qaa]at h2
 omega
theorem jpw (C W:List CD):jfV C W=lay3 W W.length 0 (rem (jav C W) (jaa W) W.length 0):=by
 unfold jfV
 rw[jfW W _ W.length 0 _ (Nat.le_refl _) jbD]
theorem jtg {C W:List CD}(hT:All2 W) (hl:C.length=W.length){i:Nat}(hi:i<W.length):jav C W i=!decide (C.getD i default=W.getD i default):=by
 unfold jav
 rw[hT.one hi]
 have e:∀X:List CD,i<X.length→(X.drop i).take 1=[X.getD i default]:=fun X h=>by
  rw[List.drop_eq_getElem_cons h,List.take_succ_cons,List.take_zero]
  simp[h]
 rw[e C (by omega),e W hi]
 simp
def runB (W:List CD) (i:Nat) (n:Nat):List Int:=jbu W (List.range' i n)
theorem jeX (W:List CD) (i n:Nat):runB W i (n+1)=runB W i n++varN (cAt W (i+n)).rune.toNat:=by
 unfold runB jbu
 rw[List.range'_concat,List.flatMap_append]
 simp
end
end Go.Proofs.YtienkkicehmchaaGreatDoor
