/- Texts of this claim, merged by a program of this claim: DiffM1. -/
import Derived.Test.YtcfkfgkndncanaaGreatDoorMt18
import Derived.Test.YtcfkfgkndncanaaGreatDoorMt19
import Derived.Test.YtcfkfgkndncanaaGreatDoorMt6
namespace Go.Proofs.YtcfkfgkndncanaaGreatDoor
set_option linter.unusedVariables false
set_option linter.unusedSimpArgs false
section
open Go.RowKit
set_option maxRecDepth 100000
set_option maxHeartbeats 4000000
theorem jfl {cols rows:Int}:jdJ cols rows=true↔(1≤cols∧cols≤80∧1≤rows∧rows≤24):=by
 unfold jdJ
 simp [and_assoc]
theorem jdA {L:List CD} {cols rows y:Nat} (hL:L.length=cols * rows) (hy:y < rows):(jbm L cols y).length=cols:=by
 unfold jbm
 rw [List.length_take,List.length_drop,hL]
 have h1:(y+1) * cols≤cols * rows:=by rw [Nat.mul_comm cols rows]; exact Nat.mul_le_mul_right _ (by omega)
 rw [Nat.succ_mul] at h1
 omega
theorem jmE {L:List CD} {cols y:Nat} {q:CD} (h:q∈jbm L cols y):q∈L:=List.mem_of_mem_drop (List.mem_of_mem_take h)
structure CWf (c:CD):Prop where
 rune:-2147483648≤c.rune∧c.rune≤2147483647
 wide:0≤c.wide∧c.wide < 256
 fg:0≤c.fg∧c.fg < 4294967296
 bg:0≤c.bg∧c.bg < 4294967296
 attrs:0≤c.attrs∧c.attrs < 256
 link:0≤c.link∧c.link < 65536
def varN (n:Nat):List Int:=if n < 128 then [(n:Int)] else ((n % 128+128:Nat):Int) :: varN (n / 128)
termination_by n
decreasing_by omega
theorem jd0 {n:Nat} (h:n < 128):varN n=[(n:Int)]:=by rw [varN,if_pos h]
theorem jgg {n:Nat} (h:¬ n < 128):varN n=((n % 128+128:Nat):Int) :: varN (n / 128):=by rw [varN,if_neg h]
theorem joG (n:Nat):∀ k,n < 128 ^ (k+1)→(varN n).length≤k+1:=by
 intro k
 induction k generalizing n with
 | zero=>intro h; rw [jd0 (by simpa using h)]; simp
 | succ k ih =>
  intro h
  by_cases h0:n < 128
  ·rw [jd0 h0]; simp
  ·rw [jgg h0,List.length_cons]
   have:=ih (n / 128) (by rw [Nat.pow_succ] at h; omega)
   omega
theorem jbW (n:Nat) (h:n < 18446744073709551616):(varN n).length≤10:=joG n 9 (by omega)
theorem jtY (n:Nat):0 < (varN n).length:=by
 rw [varN]
 split <;> simp
theorem jrO:∀ a:Fin 256,a.val ||| 128=a.val % 128+128:=by decide
def jbu (l:List Nat):List Int:=l.flatMap varN
theorem jcc (l:List Nat) (h:∀ x∈l,x < 9223372036854775808):(jbu l).length≤10 * l.length:=by
 induction l with
 | nil=>simp [jbu]
 | cons x l ih =>
  have h1:=jbW x (by have:=h x (by simp); omega)
  have h2:=ih (fun y hy=>h y (List.mem_cons_of_mem _ hy))
  simp only [jbu,List.flatMap_cons,List.length_append,List.length_cons] at h2 ⊢
  omega
def jh1 (bs:List Int):List Int:=varN bs.length++bs
theorem jlL (t:ByteArray):ja6 (jao t)=t:=by
 have:∀ x:ByteArray,ja6 (x.data.toList.map fun b=>(b.toNat:Int))=x:=fun x=>by
  unfold ja6
  rw [List.map_map]
  have e:((fun n:Int=>UInt8.ofNat n.toNat) ∘ fun b:UInt8=>(b.toNat:Int))=id:=by
   funext b
   simp
  rw [e]
  simp
 exact this t
theorem jeY (t:ByteArray):∀ b∈jao t,Utf.Byte b:=fun b hb=>by
 obtain ⟨x,_,rfl⟩:=List.mem_map.1 hb
 have:=x.toNat_lt
 exact ⟨by omega,by omega⟩
def jfV (t:ByteArray):Bool:=Utf.vB (jao t) && (List.range (Utf.runes (jao t)).length).all (fun i=>Utf.width ((Utf.runes (jao t)).getD i 0) != 0)
theorem jv1 (r:Int) (hm:Utf.may r=true):Utf.num (Utf.enc r)=r:=by
 have he:Utf.enc r=Utf.enc1 r:=by unfold Utf.enc; rw [if_pos hm]
 rw [he]
 rcases Utf.enc_cases r hm with ⟨a,e,h⟩ | ⟨a,b,e,h⟩ | ⟨a,b,d,e,h⟩ | ⟨a,b,d,c,e,h⟩
 ·rw [e]
  show a=r
  omega
 ·rw [e]
  show (a - 192) * 64+b - 128=r
  omega
 ·rw [e]
  show (a - 224) * 4096+(b - 128) * 64+d - 128=r
  omega
 ·rw [e]
  show (a - 240) * 262144+(b - 128) * 4096+(d - 128) * 64+c - 128=r
  omega
theorem jjD (t:ByteArray) (h:Utf.vB (jao t)=true):∃ rs:List Int,rs=Utf.runes (jao t)∧jao t=rs.flatMap Utf.enc∧∀ r∈rs,Utf.may r=true:=by
 obtain ⟨qs,hq⟩:=Utf.encs_of_vB _ (jao t) (Nat.le_refl _) h
 refine ⟨Utf.runes (jao t),rfl,?_,?_⟩
 ·rw [hq,Utf.runes_encs,Utf.flatMap_fix]
 ·rw [hq,Utf.runes_encs]
  intro r hr
  obtain ⟨x,_,rfl⟩:=List.mem_map.1 hr
  exact Utf.fix_may x
theorem jnx (t:ByteArray) (rs:List Int) (h:jao t=rs.flatMap Utf.enc) (hm:∀ r∈rs,Utf.may r=true) {j:Nat} {u:Int} (hu:rs[j]?=some u) :
  ((rs.take j).flatMap Utf.enc).length < t.size∧(Utf8.decode t ((rs.take j).flatMap Utf.enc).length).2+((rs.take j).flatMap Utf.enc).length=((rs.take (j+1)).flatMap Utf.enc).length∧((Utf8.decode t ((rs.take j).flatMap Utf.enc).length).1:Int)=u:=by
 have hj:=(List.getElem?_eq_some_iff.1 hu).1
 have hsp:rs=rs.take j++u :: rs.drop (j+1):=by
  have:=List.take_append_drop j rs
  rw [List.drop_eq_getElem_cons hj] at this
  rw [show rs[j]=u from (List.getElem?_eq_some_iff.1 hu).2] at this
  exact this.symm
 have hbs:jao t=(rs.take j).flatMap Utf.enc++(Utf.enc u++(rs.drop (j+1)).flatMap Utf.enc):=by
  rw [h]
  conv=>lhs; rw [hsp]
  simp [List.flatMap_append,List.flatMap_cons]
 obtain ⟨p,hp⟩:∃ p,p=((rs.take j).flatMap Utf.enc).length:=⟨_,rfl⟩
 have hpos:0 < (Utf.enc u).length:=List.length_pos_iff.2 (Utf.enc_ne u)
 have hlen:(jao t).length=t.size:=jb4 t
 have hpl:p < (jao t).length:=by rw [hbs,List.length_append,List.length_append,← hp]; omega
 have hd:=Utf.decode_str (jao t) (jeY t) p hpl
 have hdr:(jao t).drop p=Utf.enc u++(rs.drop (j+1)).flatMap Utf.enc:=by rw [hbs,hp,List.drop_left]
 have hst:Utf.step ((jao t).drop p)=(Utf.enc u).length:=by
  rw [hdr]
  refine Utf.step_enc u _ fun x hx=>jeY t x ?_
  rw [hbs]
  exact List.mem_append_right _ (List.mem_append_right _ hx)
 rw [jlL,hst,if_neg (by omega),if_neg (by omega)] at hd
 rw [hdr,List.take_left,jv1 u (hm u (List.mem_of_getElem? hu))] at hd
 refine ⟨by rw [← hp]; omega,?_,by rw [← hp]; exact hd.2⟩
 rw [← hp,hd.1,take_snoc_get' hu]
 simp [List.flatMap_append,← hp]
 omega
where
 take_snoc_get' {rs:List Int} {j:Nat} {u:Int} (hu:rs[j]?=some u):rs.take (j+1)=rs.take j++[u]:=by
  rw [List.take_add_one,hu]
  rfl
def ja0 (k r:Int) (L:List CD) (x y mo:Int) (ti:ByteArray) (l:List ByteArray):Bool :=
 jbN k r L && jcb L l && decide (0≤x) && decide (x < k) && decide (0≤y) && decide (y < r) && decide (mo≤2) && decide (ti.size≤64) && jfV ti
theorem jcY (L:List CD) (k r:Nat):(ja4 L k r).length=r:=by simp [ja4]
theorem jbS {α:Type} (f:Nat→α) (y:Nat):(List.range (y+1)).map f=(List.range y).map f++[f y]:=by simp [List.range_succ]
def half (f:CD→CD) (L:List CD) (i:Nat):List CD:=(L.take i).map f++L.drop i
theorem joH (f:CD→CD) (L:List CD) (i:Nat):(half f L i).length=L.length:=by simp [half]; omega
theorem jtZ (f:CD→CD) (L:List CD) (i:Nat) (h:L.length≤i):half f L i=L.map f:=by simp [half,List.take_of_length_le h,List.drop_of_length_le h]
theorem joI (f:CD→CD) {L:List CD} {i:Nat} {q:CD} (h:L[i]?=some q):(half f L i)[i]?=some q:=by
 have hi:=(List.getElem?_eq_some_iff.1 h).1
 unfold half
 rw [List.getElem?_append_right (by simp; omega),List.getElem?_drop]
 have:i+(i - (List.map f (List.take i L)).length)=i:=by simp; omega
 rw [this,h]
theorem joJ (f:CD→CD) {L:List CD} {i:Nat} {q:CD} (h:L[i]?=some q):(half f L i).set i (f q)=half f L (i+1):=by
 have hi:=(List.getElem?_eq_some_iff.1 h).1
 have hd:L.drop i=q :: L.drop (i+1):=by
  rw [List.drop_eq_getElem_cons hi]
  congr 1
  exact (List.getElem?_eq_some_iff.1 h).2
 unfold half
 have hl:((L.take i).map f).length=i:=by simp; omega
 rw [List.set_append_right _ _ (by omega),hl,Nat.sub_self,hd,List.set_cons_zero,ja7 h,List.map_append,List.append_assoc]
 rfl
def ulf (bl links:List ByteArray) (c:CD):CD:=if 0 < c.link then c.withLink (jaU links (sAt bl (c.link - 1).toNat)+1) else c
def jfF (S:List CD) (j:Int):CD:=if 0≤j∧j < S.length then cAt S j.toNat else blank0
def cntF (f g:Nat→CD) (t:Nat):Nat:=(List.range t).countP fun i=>!jga (f i) (g i)
theorem jrP (f g:Nat→CD) (t:Nat):cntF f g (t+1)=cntF f g t+if jga (f t) (g t) then 0 else 1:=by
 unfold cntF
 rw [List.range_succ,List.countP_append,List.countP_singleton]
 cases jga (f t) (g t) <;> rfl
theorem jrQ (f g:Nat→CD) (t:Nat):cntF f g t≤t:=by
 unfold cntF
 have:=List.countP_le_length (p:=fun i=>!jga (f i) (g i)) (l:=List.range t)
 rwa [List.length_range] at this
def jfm (d:Int→Nat) (st:Int × Nat) (k:Int):Int × Nat:=if d k < st.2 then (k,d k) else st
def jeZ (d:Int→Nat):Nat→Int × Nat
 | 0=>(0,d 0)
 | n+1=>jfm d (jfm d (jeZ d n) ((n+1:Nat):Int)) (-((n+1:Nat):Int))
def innB (d:Int→Nat) (st:Int × Nat) (n:Int) (j:Nat):Int × Nat:=if j=0 then st else if j=1 then jfm d st n else jfm d (jfm d st n) (-n)
def dist (k r:Nat) (L1 L2:List CD) (m:Int):Nat:=cntF (fun i=>jfF L1 (i+m * k)) (cAt L2) (k * r)
theorem jfn (d:Int→Nat) (st:Int × Nat) (k:Int):(d k < st.2→jfm d st k=(k,d k))∧(¬ d k < st.2→jfm d st k=st):=by
 unfold jfm
 exact ⟨fun h=>if_pos h,fun h=>if_neg h⟩
def mAt (M:List (List CD)) (i:Nat):List CD:=M.getD i []
theorem jkS {M:List (List CD)} {i:Nat} {l:List CD} (h:M[i]?=some l):mAt M i=l:=by simp [mAt,List.getD_eq_getElem?_getD,h]
def jpQ (M:List (List CD)) (m:Int) (y:Nat):List CD:=if 0≤(y:Int)+m∧(y:Int)+m < M.length then mAt M ((y:Int)+m).toNat else List.replicate (mAt M y).length blank0
def jbX (M:List (List CD)) (m:Int):List (List CD):=(List.range M.length).map (jpQ M m)
theorem jny (M:List (List CD)) (m:Int):(jbX M m).length=M.length:=by simp [jbX]
theorem joK {k:Nat}:∀ (M:List (List CD)),(∀ l∈M,l.length=k)→∀ y x,y < M.length→x < k→M.flatten[y * k+x]?=(mAt M y)[x]?
 | [],h,y,x,hy,hx=>by simp at hy
 | l :: M,h,0,x,hy,hx=>by
  have hl:=h l (by simp)
  rw [List.flatten_cons,Nat.zero_mul,Nat.zero_add,List.getElem?_append_left (by omega)]
  rfl
 | l :: M,h,y+1,x,hy,hx=>by
  have hl:=h l (by simp)
  have ih:=joK M (fun q hq=>h q (List.mem_cons_of_mem _ hq)) y x (by simpa using hy) hx
  rw [List.flatten_cons,List.getElem?_append_right (by rw [hl,Nat.succ_mul]; omega),hl,show (y+1) * k+x - k=y * k+x by rw [Nat.succ_mul]; omega,ih]
  rfl
theorem jjE {k:Nat}:∀ (M:List (List CD)),(∀ l∈M,l.length=k)→M.flatten.length=M.length * k
 | [],h=>by simp
 | l :: M,h=>by
  have ih:=jjE M (fun q hq=>h q (List.mem_cons_of_mem _ hq))
  rw [List.flatten_cons,List.length_append,ih,h l (by simp),List.length_cons,Nat.succ_mul,Nat.add_comm]
structure Rect (M:List (List CD)) (k r:Nat):Prop where
 len:M.length=r
 row:∀ l∈M,l.length=k
theorem Rect.at_ {M:List (List CD)} {k r:Nat} (h:Rect M k r) {y:Nat} (hy:y < r):(mAt M y).length=k∧mAt M y∈M:=by
 have hy':y < M.length:=by rw [h.len]; exact hy
 have e:=jkS (List.getElem?_eq_getElem hy')
 have hm:mAt M y∈M:=by rw [e]; exact List.getElem_mem hy'
 exact ⟨h.row _ hm,hm⟩
theorem jiL {M:List (List CD)} {k r:Nat} (h:Rect M k r) (m:Int):Rect (jbX M m) k r:=by
 refine ⟨by rw [jny,h.len],fun l hl=>?_⟩
 obtain ⟨y,hy,rfl⟩:=List.mem_map.1 hl
 have hy':y < r:=by rw [← h.len]; exact List.mem_range.1 hy
 unfold jpQ
 split
 ·rename_i hh
  refine (h.at_ (y:=((y:Int)+m).toNat) ?_).1
  rw [h.len] at hh
  omega
 ·rw [List.length_replicate]
  exact (h.at_ hy').1
theorem jnz {M:List (List CD)}:jbX M 0=M:=by
 unfold jbX
 refine List.ext_getElem (by simp) fun i h1 h2=>?_
 rw [List.getElem_map,List.getElem_range]
 unfold jpQ
 rw [if_pos (by simp at h1; omega),Int.add_zero,Int.toNat_natCast]
 exact jkS (List.getElem?_eq_getElem h2)
end
end Go.Proofs.YtcfkfgkndncanaaGreatDoor
