/- Texts of this claim, merged by a program of this claim: LenM, ScrollM. -/
import Derived.Test.YtcfkfgkndncanaaGreatDoorMs43
namespace Go.Proofs.YtcfkfgkndncanaaGreatDoor
set_option linter.unusedVariables false
set_option linter.unusedSimpArgs false
section
theorem jlz {c:Int}(h:jeu c=true):c<33554432:=by
 unfold jeu at h
 simp only[Bool.or_eq_true,Bool.and_eq_true,decide_eq_true_eq]at h
 omega
theorem jjj {n:Nat}(h:n<128):(varN n).length≤1:=jgF n 0 (by omega)
theorem jsH {n:Nat}(h:n<16384):(varN n).length≤2:=jgF n 1 (by omega)
theorem jCl {n:Nat}(h:n<2097152):(varN n).length≤3:=jgF n 2 (by omega)
theorem jzJ {n:Nat}(h:n<268435456):(varN n).length≤4:=jgF n 3 (by omega)
section
variable {W:List CD}{k nl:Nat}
def Lets (W:List CD) (l:List Nat):Prop:=∀x∈l,x<W.length∧(cAt W x).wide≠2
theorem jsI (hT:Tell W k nl):∀l:List Nat,Lets W l→(jeI W l).length≤3*l.length
 | [],_=>by simp[jeI]
 | x::l,h=>by
  have h1:=jsI hT l fun y hy=>h y (by simp[hy])
  obtain⟨hx,hw⟩:=h x (by simp)
  have h2:=jmr hT hx hw
  have h3:=jCl (n:=(cAt W x).rune.toNat) (by omega)
  have e:jeI W (x::l)=varN (cAt W x).rune.toNat++jeI W l:=by simp[jeI]
  rw[e,List.length_append,List.length_cons]
  omega
theorem jBr (hT:Tell W k nl) (h16:nl≤16){x:Nat}(hx:x<W.length):(jbc (penN (cAt W x).pen)).length≤11:=by
 have hw:=hT.wf (cAt W x) (List.mem_of_getElem? (jcZ hx))
 have hl:=hT.link (cAt W x) (List.mem_of_getElem? (jcZ hx))
 have hm:=hT.may x hx
 unfold mayB penB at hm
 simp only[Bool.and_eq_true]at hm
 have c1:=jlz hm.1.1
 have c2:=jlz hm.1.2
 have e1:=hw.attrs
 simp only[CD.pen]at c1 c2
 have a1:=jzJ (n:=(cAt W x).fg.toNat) (by omega)
 have a2:=jzJ (n:=(cAt W x).bg.toNat) (by omega)
 have a3:=jsH (n:=(cAt W x).attrs.toNat) (by omega)
 have a4:=jjj (n:=(cAt W x).link.toNat) (by omega)
 simp only[penN,CD.pen,jbc,List.flatMap_cons,List.flatMap_nil,List.length_append,List.length_nil]
 omega
theorem jzc {l:List Nat}{p:PD}{e:Nat}(h:Lets W l):Lets W (runP W p e l).1∧Lets W (runP W p e l).2.2:=by
 have:=jnA W p l e
 exact⟨fun x hx=>h x (by rw[←this];exact List.mem_append.2 (.inl hx)),fun x hx=>h x (by rw[←this];exact List.mem_append.2 (.inr hx))⟩
theorem jmv (hT:Tell W k nl) (h16:nl≤16):∀(f bh:Nat) (l:List Nat),Lets W l→l.length≤2000→(layR W f bh l).1.length≤17*l.length
 | 0,bh,l,_,_=>by simp[layR]
 | f+1,bh,[],_,_=>by simp[layR]
 | f+1,bh,x::l,h,hl=>by
  obtain⟨hx,hw⟩:=h x (by simp)
  have hlen:=jfT W (cAt W x).pen (x::l) x
  have hpos:1≤(runP W (cAt W x).pen x (x::l)).1.length:=by
   rw[(jft W x l).1,List.length_cons]
   omega
  obtain⟨q1,q2⟩:=jzc (p:=(cAt W x).pen) (e:=x) h
  have h1:=jsI hT _ q1
  have h2:=jmv hT h16 f (runP W (cAt W x).pen x (x::l)).2.1 _ q2 (by omega)
  have h3:=jBr hT h16 hx
  have hsm:=hT.small
  have h4:=jsH (n:=x-bh) (by omega)
  have h5:(varN (runP W (cAt W x).pen x (x::l)).1.length).length≤1∨(128≤(runP W (cAt W x).pen x (x::l)).1.length∧(varN (runP W (cAt W x).pen x (x::l)).1.length).length≤2):=by
   rcases Nat.lt_or_ge (runP W (cAt W x).pen x (x::l)).1.length 128 with q|q
   ·exact .inl (jjj q)
   ·exact .inr ⟨q,jsH (by omega)⟩
  rw[layR]
  simp only[jk9,List.length_append]
  have e:(jbc [x-bh,(runP W (cAt W x).pen x (x::l)).1.length]).length=(varN (x-bh)).length+(varN (runP W (cAt W x).pen x (x::l)).1.length).length:=by simp[jbc]
  rw[e]
  omega
theorem jzd {C:List CD}(hT:Tell W k nl):Lets W (rem (jbe C W) (jag W) W.length 0):=fun x hx=>by
 rw[jA1 hT.whole]at hx
 have h1:=jAZ hx
 unfold col at hx
 have h2:=(List.mem_filter.1 hx).2
 unfold colP at h2
 simp only[Bool.and_eq_true,decide_eq_true_eq]at h2
 exact⟨h1,h2.1⟩
theorem jrp {C:List CD}(hT:Tell W k nl) (h16:nl≤16):(jcX C W).length≤3+17*(rem (jbe C W) (jag W) W.length 0).length:=by
 have hsm:=hT.small
 have hr:(rem (jbe C W) (jag W) W.length 0).length≤W.length:=jhi
 have h1:=jmv hT h16 (rem (jbe C W) (jag W) W.length 0).length 0 _ (jzd (C:=C) hT) (by omega)
 have h2:=(jgI hT.wf (rem (jbe C W) (jag W) W.length 0).length 0 (rem (jbe C W) (jag W) W.length 0) (by omega) (fun x hx=>by have:=(jkO (fun i=>(ja3 W i).1) hx).2.1;omega)).2
 unfold jcX
 dsimp only
 split
 ·simp
 ·have h3:=jsH (n:=(layR W (rem (jbe C W) (jag W) W.length 0).length 0 (rem (jbe C W) (jag W) W.length 0)).2) (by omega)
  simp only[List.length_cons,List.length_append]
  omega
end
theorem jBs {x1 y1:Nat}{hd1:Bool}{x2 y2:Nat}{hd2:Bool}(hx:x2<80) (hy:y2<24):(curB x1 y1 hd1 x2 y2 hd2).length≤4:=by
 unfold curB
 split
 ·have a1:=jjj (n:=x2) (by omega)
  have a2:=jjj (n:=y2) (by omega)
  have a3:=jjj (n:=if hd2 then 1 else 0) (by cases hd2<;>decide)
  simp only[jbc,List.flatMap_cons,List.flatMap_nil,List.length_append,List.length_nil,List.length_cons]
  omega
 ·simp
end
section
def jaU (k:Nat) (L:List CD) (kk:Nat) (c:CD):List CD:=L.drop k++(List.replicate kk c++List.replicate (k-kk) blank0)
theorem jpd (d : Int → Nat) : ∀ j : Nat, (jd1 d j).2 = d (jd1 d j).1 ∧ ∀ m : Int, -(j : Int) ≤ m → m ≤ j → (jd1 d j).2 ≤ d m
  | 0 => ⟨rfl, fun m h1 h2 => by obtain rfl : m = 0 := by omega
                                 exact Nat.le_refl _⟩
  | j + 1 => by
    obtain ⟨h1, h2⟩ := jpd d j
    have step : ∀ (st : Int × Nat) (k : Int), st.2 = d st.1 → (jdr d st k).2 = d (jdr d st k).1 ∧ (jdr d st k).2 ≤ st.2 ∧ (jdr d st k).2 ≤ d k := fun st k h => by
      unfold jdr
      split
      · exact ⟨rfl, by omega, Nat.le_refl _⟩
      · exact ⟨h, Nat.le_refl _, by omega⟩
    obtain ⟨a1, a2, a3⟩ := step (jd1 d j) ((j + 1 : Nat) : Int) h1
    obtain ⟨b1, b2, b3⟩ := step (jdr d (jd1 d j) ((j + 1 : Nat) : Int)) (-((j + 1 : Nat) : Int)) a1
    refine ⟨b1, fun m m1 m2 => ?_⟩
    show (jdr d (jdr d (jd1 d j) ((j + 1 : Nat) : Int)) (-((j + 1 : Nat) : Int))).2 ≤ d m
    by_cases q1 : m = ((j + 1 : Nat) : Int)
    · rw [q1]; omega
    · by_cases q2 : m = -((j + 1 : Nat) : Int)
      · rw [q2]; exact b3
      · have := h2 m (by omega) (by omega)
        omega
theorem jgL (f g:Nat→CD) (t:Nat):∀s,cntF f g (t+s)=cntF f g t+cntF (fun i=>f (t+i)) (fun i=>g (t+i)) s
 | 0=>by simp[cntF]
 | s+1=>by
  rw[←Nat.add_assoc,jhT,jhT,jgL f g t s]
  omega
theorem jh2 {f g:Nat→CD}:∀{t:Nat},(∀i,i<t→f i=g i)→cntF f g t=0
 | 0,_=>rfl
 | t+1,h=>by
  rw[jhT,jh2 fun i hi=>h i (by omega),h t (by omega)]
  simp[jee]
theorem jsJ {f g:Nat→CD}{t i:Nat}(hi:i<t) (h:f i≠g i):1≤cntF f g t:=by
 unfold cntF
 have:0<(List.range t).countP fun i=>!jee (f i) (g i):=List.countP_pos_iff.2 ⟨i,List.mem_range.2 hi,by simp[jee,h]⟩
 omega
section
variable {k r kk:Nat}{L:List CD}{c:CD}
theorem jeF (hL:L.length=k*r) (hr:1≤r) (hk:kk≤k):(jaU k L kk c).length=k*r:=by
 have:k≤k*r:=Nat.le_mul_of_pos_right _ (by omega)
 simp only[jaU,List.length_append,List.length_drop,List.length_replicate]
 omega
theorem jmw {i:Nat}(hi:i+k<L.length):cAt (jaU k L kk c) i=cAt L (i+k):=by
 unfold cAt jaU
 rw[List.getD_eq_getElem?_getD,List.getD_eq_getElem?_getD,List.getElem?_append_left (by rw[List.length_drop];omega),List.getElem?_drop,Nat.add_comm]
theorem jpe {j:Nat}(hL:k≤L.length) (hj:j<k) (hk:kk≤k):cAt (jaU k L kk c) (L.length-k+j)=if j<kk then c else blank0:=by
 unfold cAt jaU
 rw[List.getD_eq_getElem?_getD,List.getElem?_append_right (by rw[List.length_drop];omega),List.length_drop,show L.length-k+j-(L.length-k)=j by omega]
 split
 ·rename_i h
  rw[List.getElem?_append_left (by rw[List.length_replicate];exact h),List.getElem?_replicate,if_pos h]
  rfl
 ·rename_i h
  rw[List.getElem?_append_right (by rw[List.length_replicate];omega),List.getElem?_replicate,List.length_replicate,if_pos (by omega)]
  rfl
theorem jze (hL:L.length=k*r) (hr:1≤r) (hk:kk≤k):dist k r L (jaU k L kk c) 1≤kk:=by
 have hkr:k≤k*r:=Nat.le_mul_of_pos_right _ (by omega)
 unfold dist
 have hs:k*r=(k*r-k)+(kk+(k-kk)):=by omega
 rw[hs,jgL,jh2 (fun i hi=>?_),Nat.zero_add,jgL]
 ·have h1:=jqr (fun i=>jfs L (((k*r-k+i:Nat):Int)+1*(k:Int))) (fun i=>cAt (jaU k L kk c) (k*r-k+i)) kk
  have h2:cntF (fun i=>jfs L (((k*r-k+(kk+i):Nat):Int)+1*(k:Int))) (fun i=>cAt (jaU k L kk c) (k*r-k+(kk+i))) (k-kk)=0:=jh2 fun i hi=>by
   have e:=jpe (L:=L) (k:=k) (kk:=kk) (c:=c) (j:=kk+i) (by omega) (by omega) hk
   rw[hL,if_neg (by omega)]at e
   rw[e]
   unfold jfs
   rw[if_neg (by rw[hL];omega)]
  omega
 ·unfold jfs
  rw[if_pos (by rw[hL];omega),show ((i:Int)+1*(k:Int)).toNat=i+k by omega]
  exact (jmw (by omega)).symm
end
theorem jxp {C W:List CD}(hl:C.length=W.length){i w:Nat}(hw:i+w≤W.length) (h:(C.drop i).take w≠(W.drop i).take w):∃j,j<w∧cAt C (i+j)≠cAt W (i+j):=by
 refine Classical.byContradiction fun hn=>h ?_
 refine List.ext_getElem? fun j=>?_
 by_cases hj:j<w
 ·rw[List.getElem?_take_of_lt hj,List.getElem?_take_of_lt hj,List.getElem?_drop,List.getElem?_drop,jcZ (W:=C) (by omega),jcZ (W:=W) (by omega)]
  exact congrArg some (Classical.byContradiction fun q=>hn ⟨j,hj,q⟩)
 ·rw[List.getElem?_eq_none (by rw[List.length_take];omega),List.getElem?_eq_none (by rw[List.length_take];omega)]
theorem jpf {C W:List CD}(hl:C.length=W.length) (hf:∀i,i<W.length→i+jag W i≤W.length):∀(t i:Nat),W.length-i≤t→(rem (jbe C W) (jag W) W.length i).length≤cntF (fun j=>cAt C (i+j)) (fun j=>cAt W (i+j)) (W.length-i)
 | 0,i,ht=>by rw[jiE (by omega)];simp
 | t+1,i,ht=>by
  rcases Nat.lt_or_ge i W.length with q|q
  ·have hp:=ja3 W i
   have hfi:=hf i q
   have ih:=jpf hl hf t (i+jag W i) (by omega)
   rw[jeY (fun i=>(ja3 W i).1) q,show W.length-i=jag W i+(W.length-(i+jag W i)) by omega,jgL]
   have e:(fun j=>cAt C (i+(jag W i+j)))=fun j=>cAt C (i+jag W i+j):=funext fun j=>by rw[Nat.add_assoc]
   have e2:(fun j=>cAt W (i+(jag W i+j)))=fun j=>cAt W (i+jag W i+j):=funext fun j=>by rw[Nat.add_assoc]
   rw[e,e2,List.length_append]
   cases ho:jbe C W i
   ·simp only[Bool.false_eq_true,if_false,List.length_nil]
    omega
   ·have hne:(C.drop i).take (jag W i)≠(W.drop i).take (jag W i):=by simpa[jbe] using ho
    obtain⟨j,hj,hd⟩:=jxp hl hfi hne
    have:=jsJ (f:=fun j=>cAt C (i+j)) (g:=fun j=>cAt W (i+j)) hj hd
    simp only[if_true,List.length_singleton]
    omega
  ·rw[jiE q]
   simp
theorem jmx {k r:Nat}{V B:List CD}(hk:1≤k) (hV:V.length=k*r) (hB:B.length=k*r):∀y,y≤r→cntF (cAt (cpyL k r V B)) (cAt B) (y*k)+(jau (jam V k r) (jam B k r) y).1.length / 2≤cntF (cAt V) (cAt B) (y*k)
 | 0,_=>by simp[cntF,jau]
 | y+1,hy=>by
  have ih:=jmx hk hV hB y (by omega)
  have hA:=jbk hV
  have hBr:=jbk hB
  have hev:=jdu (jam V k r) (jam B k r) y
  have hat:∀x,x<k→cAt (cpyL k r V B) (y*k+x)=cAt (jb3 (jam V k r) (jam B k r) y) x:=fun x hx=>by
   unfold cAt cpyL
   rw[List.getD_eq_getElem?_getD,List.getD_eq_getElem?_getD,jnr _ (jyK hA hBr).row y x (by simp;omega) hx,jkH (l:=jb3 (jam V k r) (jam B k r) y) (by simp[show y<r by omega])]
  have hrow:∀(M:List CD),M.length=k*r→∀x,x<k→cAt (mAt (jam M k r) y) x=cAt M (y*k+x):=fun M hM x hx=>by
   rw[jdD (show y<r by omega),je7 hx]
  rw[Nat.succ_mul,jgL,jgL]
  have e1:cntF (fun i=>cAt (cpyL k r V B) (y*k+i)) (fun i=>cAt B (y*k+i)) k=cntF (cAt (jb3 (jam V k r) (jam B k r) y)) (cAt (mAt (jam B k r) y)) k:=jiA fun i hi=>⟨hat i hi,(hrow B hB i hi).symm⟩
  have e2:cntF (fun i=>cAt V (y*k+i)) (fun i=>cAt B (y*k+i)) k=cntF (cAt (mAt (jam V k r) y)) (cAt (mAt (jam B k r) y)) k:=jiA fun i hi=>⟨(hrow V hV i hi).symm,(hrow B hB i hi).symm⟩
  rw[e1,e2]
  by_cases q:mAt (jam V k r) y=mAt (jam B k r) y
  ·rw[jau,if_pos q,jfS (by rw[jbD];omega) q]
   omega
  ·rcases hz:jgM (jam V k r) (jam B k r) y (jam V k r).length with _|z
   ·have hn:jb3 (jam V k r) (jam B k r) y=mAt (jam V k r) y:=by unfold jb3;rw[hz];rfl
    rw[jau,if_neg q,hz,hn]
    simp only
    omega
   ·have hn:jb3 (jam V k r) (jam B k r) y=mAt (jam B k r) y:=by unfold jb3;rw[hz];rfl
    rw[jau,if_neg q,hz,hn,jh2 (f:=cAt (mAt (jam B k r) y)) fun _ _=>rfl]
    have h1:=(hA.at_ (show y<r by omega)).1
    have h2:=(hBr.at_ (show y<r by omega)).1
    have hd:∃x,x<k∧cAt (mAt (jam V k r) y) x≠cAt (mAt (jam B k r) y) x:=by
     refine Classical.byContradiction fun hno=>q (List.ext_getElem? fun j=>?_)
     by_cases hj:j<k
     ·rw[jcZ (W:=mAt (jam V k r) y) (by omega),jcZ (W:=mAt (jam B k r) y) (by omega)]
      exact congrArg some (Classical.byContradiction fun q=>hno ⟨j,hj,q⟩)
     ·rw[List.getElem?_eq_none (by omega),List.getElem?_eq_none (by omega)]
    obtain⟨x,hx,hne⟩:=hd
    have:=jsJ (f:=cAt (mAt (jam V k r) y)) (g:=cAt (mAt (jam B k r) y)) hx hne
    simp only[List.length_append,List.length_cons,List.length_nil]
    omega
theorem jmy:∀l:List Nat,(∀x∈l,x<128)→(jbc l).length≤l.length
 | [],_=>by simp[jbc]
 | x::l,h=>by
  have h1:=jmy l fun y hy=>h y (by simp[hy])
  have h2:=jjj (h x (by simp))
  have e:jbc (x::l)=varN x++jbc l:=by simp[jbc]
  rw[e,List.length_append,List.length_cons]
  omega
theorem jtO {k r kk:Nat}{L:List CD}{c:CD}{x y mo x2 y2:Nat}{hd:Bool}{ti:ByteArray}(hA:RFact k r L x y mo ti []) (hr2:2≤r) (hk:kk≤k) (hB:RFact k r (jaU k L kk c) x2 y2 mo ti []) (hw:∀q∈jaU k L kk c,CWf q) :
  (jf7 k r L x y hd mo ti [] (jaU k L kk c) x2 y2 hd mo ti []).length≤60+17*kk:=by
 have hu:undL L [] []=L:=jzI hA.links
 obtain⟨B,eB⟩:∃B,jaU k L kk c=B:=⟨_,rfl⟩
 have hd1:=jze (c:=c) hA.len (by omega) hk
 rw[eB]at hB hw hd1 ⊢
 have hT:=hB.tell hw
 have hbest:=jpd (dist k r L B) (r-1)
 have hup:=jsj k r (by omega) L B
 have hmin:=hbest.2 1 (by omega) (by omega)
 rw[hbest.1]at hmin
 have hdn:dist k r L B (upN k r L B)≤kk:=Nat.le_trans hmin hd1
 generalize hn:upN k r L B=n at hup hdn
 have hV:(movL k r L n).length=k*r:=jnD hA.len n
 have hcnt:cntF (cAt (movL k r L n)) (cAt B) (r*k)≤kk:=by
  refine Nat.le_trans (Nat.le_of_eq ?_) hdn
  unfold dist
  rw[Nat.mul_comm r k]
  exact jiA fun i hi=>⟨jzF hA.len hA.k1.1 n hi,rfl⟩
 have hcopy:=jmx hA.k1.1 hV hB.len r (Nat.le_refl _)
 have hC:(cpyL k r (movL k r L n) B).length=B.length:=(jnE hV hB.len).trans hB.len.symm
 have hlet:=jpf (C:=cpyL k r (movL k r L n) B) hC (fun i hi=>hB.wide i hi) B.length 0 (by omega)
 have e0:(fun j=>cAt (cpyL k r (movL k r L n) B) (0+j))=cAt (cpyL k r (movL k r L n) B):=funext fun j=>by rw[Nat.zero_add]
 have e1:(fun j=>cAt B (0+j))=cAt B:=funext fun j=>by rw[Nat.zero_add]
 rw[e0,e1,Nat.sub_zero,hB.len,Nat.mul_comm k r]at hlet
 have hl17:=jrp (C:=cpyL k r (movL k r L n) B) hT (by simp)
 rw[hB.len,Nat.mul_comm k r]at hl17
 have hf:=jc2 (jam (movL k r L n) k r) (jam B k r) r
 have hev:=jdu (jam (movL k r L n) k r) (jam B k r) r
 have hcB:(jjq (jau (jam (movL k r L n) k r) (jam B k r) r).1).length≤2+2*((jau (jam (movL k r L n) k r) (jam B k r) r).1.length / 2):=by
  have hr:=hA.r1
  unfold jjq
  split
  ·simp
  ·have h1:=jjj (n:=(jau (jam (movL k r L n) k r) (jam B k r) r).1.length / 2) (by omega)
   have h2:=jmy (jau (jam (movL k r L n) k r) (jam B k r) r).1 fun x hx=>by
    have:=hf.2.2 x hx
    rw[jbD]at this
    omega
   simp only[List.length_cons,List.length_append]
   omega
 have hk1:=hA.k1
 have hr1:=hA.r1
 have hx2:=hB.x1
 have hy2:=hB.y1
 have a1:=jBs (x1:=x) (y1:=y) (hd1:=hd) (hd2:=hd) (show x2<80 by omega) (show y2<24 by omega)
 have a2:titB ti ti=[]:=by unfold titB;rw[if_pos (jeh ti)]
 have a3:mouB mo mo=[]:=by unfold mouB;rw[if_pos rfl]
 have a4:linB ([]:List ByteArray) []=[]:=by unfold linB;rw[if_pos rfl]
 have a5:(scrB n).length≤2:=by
  unfold scrB
  split
  ·simp
  ·rename_i q
   have h0:=(jpb q hup.1 hup.2).2.1
   have h1:=jjj (n:=scrN n) (by omega)
   simp only[jbc,List.flatMap_cons,List.flatMap_nil,List.length_append,List.length_nil,List.length_cons]
   omega
 unfold jf7 jtt celB
 rw[hu,hn,a2,a3,a4]
 simp only[List.length_append,List.append_nil]
 omega
end
end Go.Proofs.YtcfkfgkndncanaaGreatDoor
