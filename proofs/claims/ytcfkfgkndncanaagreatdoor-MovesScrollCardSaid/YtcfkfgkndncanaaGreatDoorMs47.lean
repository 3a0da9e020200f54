/- Texts of this claim, merged by a program of this claim: ScrollM2. -/
import Derived.Test.YtcfkfgkndncanaaGreatDoorMs46
namespace Go.Proofs.YtcfkfgkndncanaaGreatDoor
set_option linter.unusedVariables false
set_option linter.unusedSimpArgs false
section
def letC (v:Int):CD:=⟨97+v % 26,0,0,0,0,0⟩
theorem jpg (v:Int) (h:0≤v):Utf.width (97+v % 26)=1:=by
 have key:∀i:Fin 26,Utf.width (97+(i.val:Int))=1:=by decide +kernel
 have hb:(v % 26).toNat<26:=by omega
 have:=key ⟨(v % 26).toNat,hb⟩
 rwa [show (((v % 26).toNat:Nat):Int)=v % 26 by omega]at this
theorem jBt (v:Int) (h:0≤v):mayB (letC v)=true:=by
 unfold mayB letC penB
 simp only[CD.pen,jpg v h]
 have:jeu 0=true:=by decide
 simp[this]
theorem jCm (v:Int) (h:0≤v):CWf (letC v):=by
 unfold letC
 exact⟨by dsimp only;omega,by dsimp only;omega,by dsimp only;omega,by dsimp only;omega,by dsimp only;omega,by dsimp only;omega⟩
theorem jxq:mayB blank0=true:=by decide +kernel
section
variable {k r kk:Nat}{L:List CD}{c:CD}
theorem jlA {q:CD}(h:q∈jaU k L kk c):q∈L∨q=c∨q=blank0:=by
 unfold jaU at h
 rcases List.mem_append.1 h with h|h
 ·exact .inl (List.mem_of_mem_drop h)
 ·rcases List.mem_append.1 h with h|h
  ·exact .inr (.inl (List.mem_replicate.1 h).2)
  ·exact .inr (.inr (List.mem_replicate.1 h).2)
theorem jiW (hL:L.length=k*r){y:Nat}(hy:y+1<r) (hk:kk≤k):jaY (jaU k L kk c) k y=jaY L k (y+1):=by
 have h1:=jcl (jeF (c:=c) hL (by omega) hk) (show y<r by omega)
 have h2:=jcl hL (show y+1<r by omega)
 have hk2:(y+1+1)*k≤k*r:=by rw[Nat.mul_comm k r];exact Nat.mul_le_mul_right _ (by omega)
 rw[Nat.succ_mul]at hk2
 refine List.ext_getElem? fun j=>?_
 by_cases hj:j<k
 ·rw[jcZ (by omega),jcZ (by omega),je7 hj,je7 hj,jmw (by rw[Nat.succ_mul]at hk2;omega)]
  congr 2
  rw[Nat.succ_mul]
  omega
 ·rw[List.getElem?_eq_none (by omega),List.getElem?_eq_none (by omega)]
theorem jf2 (hL:L.length=k*r) (hr:1≤r) (hk:kk≤k):jaY (jaU k L kk c) k (r-1)=List.replicate kk c++List.replicate (k-kk) blank0:=by
 have e:(r-1)*k=(L.drop k).length:=by rw[List.length_drop,hL,Nat.mul_comm,Nat.mul_sub,Nat.mul_one]
 unfold jaY jaU
 rw[e,List.drop_left,List.take_of_length_le (by simp;omega)]
theorem jzf (hk1:1≤k) (hk:kk≤k) (h80:k≤80) (hc:mayB c=true) (hw:c.wide=0):jcN (List.replicate kk c++List.replicate (k-kk) blank0)=true:=by
 have hlen:(List.replicate kk c++List.replicate (k-kk) blank0).length=k:=by simp;omega
 have hat:∀i,i<k→mayB (cAt (List.replicate kk c++List.replicate (k-kk) blank0) i)=true∧(cAt (List.replicate kk c++List.replicate (k-kk) blank0) i).wide=0:=fun i hi=>by
  have hm:cAt (List.replicate kk c++List.replicate (k-kk) blank0) i∈List.replicate kk c++List.replicate (k-kk) blank0:=List.mem_of_getElem? (jcZ (by omega))
  rcases List.mem_append.1 hm with h|h
  ·rw[(List.mem_replicate.1 h).2];exact⟨hc,hw⟩
  ·rw[(List.mem_replicate.1 h).2];exact⟨jxq,rfl⟩
 unfold jcN
 simp only[Bool.and_eq_true,decide_eq_true_eq,List.all_eq_true,List.mem_range,bne_iff_ne,ne_eq]
 rw[hlen]
 refine⟨⟨⟨hk1,h80⟩,fun i hi=>?_⟩,?_⟩
 ·have h1:=hat i hi
  have h2:=hat (i-1) (by omega)
  rw[jde,h1.2,h2.2]
  exact⟨h1.1,by simp,fun _ q=>by cases q⟩
 ·have:=(hat (k-1) (by omega)).2
  rw[this]
  decide
theorem jzg:∀(M:List CD),(∀q∈M,q.link=0)→jey 0 M=some 0:=fun M=>by
 refine jeW (P:=fun M=>(∀q∈M,q.link=0)→jey 0 M=some 0) (fun _=>rfl) (fun M q ih h=>?_) M
 rw[jcK,ih fun x hx=>h x (List.mem_append.2 (.inl hx))]
 have:=h q (List.mem_append.2 (.inr (by simp)))
 simp[this]
theorem jph {x y mo x2:Nat}{ti:ByteArray}(hA:RFact k r L x y mo ti []) (hti:jfr ti=true) (hw:∀q∈L,CWf q) (hr2:2≤r) (hk:kk≤k) (hx:x2<k) (hc:mayB c=true) (hcw:CWf c) (hc0:c.wide=0) (hcl:c.link=0) :
  ja6 k r (jaU k L kk c) x2 ((r-1:Nat):Int) mo ti []=true∧(∀q∈jaU k L kk c,CWf q)∧jbM k r (jaU k L kk c)=true:=by
 have hlen:=jeF (c:=c) hA.len (by omega) hk
 have hwf:∀q∈jaU k L kk c,CWf q:=fun q hq=>by
  rcases jlA hq with h|rfl|rfl
  ·exact hw q h
  ·exact hcw
  ·exact joX
 have hg:jbM k r (jaU k L kk c)=true:=by
  unfold jbM
  simp only[Bool.and_eq_true,beq_iff_eq,List.all_eq_true,List.mem_range]
  refine⟨⟨jdh.2 (by have:=hA.k1;have:=hA.r1;omega),by rw[hlen];simp⟩,fun y hy=>?_⟩
  rw[Int.toNat_natCast]at hy ⊢
  by_cases q:y+1<r
  ·rw[jiW hA.len q hk]
   exact hA.row _ q
  ·obtain rfl:y=r-1:=by omega
   rw[jf2 hA.len (by omega) hk]
   exact jzf hA.k1.1 hk hA.k1.2 hc hc0
 have hl:jb8 (jaU k L kk c) []=true:=by
  unfold jb8
  have:jey 0 (jaU k L kk c)=some 0:=jzg _ fun q hq=>by
   rcases jlA hq with h|rfl|rfl
   ·have h1:=hA.lk q h
    have h2:=(hw q h).link
    simp at h1
    omega
   ·exact hcl
   ·rfl
  simp[this]
 refine⟨?_,hwf,hg⟩
 have:=hA.mo1
 have:=hA.ti1
 have:=hA.r1
 unfold ja6
 simp only[Bool.and_eq_true,decide_eq_true_eq]
 exact⟨⟨⟨⟨⟨⟨⟨⟨hg,hl⟩,by omega⟩,by omega⟩,by omega⟩,by omega⟩,by omega⟩,by omega⟩,hti⟩
theorem jpi (hL:L.length=k*r) (hr:1≤r):((jam L k r).drop 1++[List.replicate k blank0]).flatten=jaU k L 0 c:=by
 have hk:k≤k*r:=Nat.le_mul_of_pos_right _ (by omega)
 have h1:jam L k r=jaY L k 0::(jam L k r).drop 1:=by
  have h:0<(jam L k r).length:=by rw[jbD];omega
  have:=List.drop_eq_getElem_cons h
  rw[List.drop_zero]at this
  have e:(jam L k r)[0]=jaY L k 0:=by simp[jam]
  rw[e]at this
  exact this
 have h2:=jds hL
 rw[h1,List.flatten_cons]at h2
 have h3:(jaY L k 0).length=k:=jcl hL (by omega)
 have h4:((jam L k r).drop 1).flatten=L.drop k:=by
  have:=congrArg (List.drop k) h2
  rwa [List.drop_left' h3]at this
 rw[List.flatten_append,h4]
 simp[jaU]
theorem jtP (hL:L.length=k*r) (hr:1≤r) (hk:kk<k):((jam (jaU k L kk c) k r).set (r-1) ((jaY (jaU k L kk c) k (r-1)).set kk c)).flatten=jaU k L (kk+1) c:=by
 have hlen:=jeF (c:=c) hL hr (Nat.le_of_lt hk)
 have hlen2:=jeF (c:=c) (kk:=kk+1) hL hr hk
 have e:(jam (jaU k L kk c) k r).set (r-1) ((jaY (jaU k L kk c) k (r-1)).set kk c)=jam (jaU k L (kk+1) c) k r:=by
  refine List.ext_getElem? fun y=>?_
  rw[List.getElem?_set,jbD]
  by_cases hy:r-1=y
  ·subst hy
   rw[if_pos rfl,if_pos (by omega)]
   have:(jam (jaU k L (kk+1) c) k r)[r-1]?=some (jaY (jaU k L (kk+1) c) k (r-1)):=by simp[jam,show r-1<r by omega]
   rw[this,jf2 hL hr (Nat.le_of_lt hk),jf2 hL hr hk]
   congr 1
   refine List.ext_getElem? fun j=>?_
   rw[List.getElem?_set]
   simp only[List.getElem?_append,List.length_replicate,List.getElem?_replicate,List.length_append]
   by_cases hj:kk=j
   ·subst hj
    rw[if_pos rfl,if_pos (by omega),if_pos (by omega),if_pos (by omega)]
   ·rw[if_neg hj]
    by_cases h1:j<kk
    ·rw[if_pos h1,if_pos h1,if_pos (by omega),if_pos (by omega)]
    ·rw[if_neg h1,if_neg (show ¬j<kk+1 by omega)]
     by_cases h2:j<k
     ·rw[if_pos (by omega),if_pos (by omega)]
     ·rw[if_neg (by omega),if_neg (by omega)]
  ·rw[if_neg hy]
   by_cases h1:y<r
   ·simp only[jam,List.getElem?_map,List.getElem?_range h1,Option.map_some]
    rw[jiW hL (by omega) (Nat.le_of_lt hk),jiW hL (by omega) hk]
   ·simp[jam,h1]
 rw[e,jds hlen2]
end
end
end Go.Proofs.YtcfkfgkndncanaaGreatDoor
