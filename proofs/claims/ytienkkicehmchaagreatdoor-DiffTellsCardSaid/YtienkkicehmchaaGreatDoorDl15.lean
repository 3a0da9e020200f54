/- Texts of this claim, merged by a program of this claim: DiffM1. -/
import Derived.Test.YtienkkicehmchaaGreatDoorDl13
import Derived.Test.YtienkkicehmchaaGreatDoorDl14
import Derived.Test.YtienkkicehmchaaGreatDoorDl8
namespace Go.Proofs.YtienkkicehmchaaGreatDoor
open List renaming length_append→qaa,mem_cons_of_mem→qab,drop_eq_getElem_cons→qac,range→qad,flatten_cons→qae,length_cons→qaf,mem_append_right→qag,flatMap_append→qah,flatMap_cons→qai,range_succ→qaj
set_option linter.unusedVariables false
set_option linter.unusedSimpArgs false
section
open Go.RowKit
set_option maxRecDepth 100000
set_option maxHeartbeats 4000000
theorem jbA {cols rows:Int}:jb5 cols rows=true↔(1≤cols∧cols≤80∧1≤rows∧rows≤24):=by
 unfold jb5
 simp[and_assoc]
theorem jaQ {L:List CD}{cols rows y:Nat}(hL:L.length=cols*rows) (hy:y<rows):(jas L cols y).length=cols:=by
 unfold jas
 rw[List.length_take,List.length_drop,hL]
 have h1:(y+1)*cols≤cols*rows:=by rw[Nat.mul_comm cols rows];exact Nat.mul_le_mul_right _ (by omega)
 rw[Nat.succ_mul]at h1
 omega
theorem jci {L:List CD}{cols y:Nat}{q:CD}(h:q∈jas L cols y):q∈L:=List.mem_of_mem_drop (List.mem_of_mem_take h)
structure CWf (c:CD):Prop where
 rune:-2147483648≤c.rune∧c.rune≤2147483647
 wide:0≤c.wide∧c.wide<256
 fg:0≤c.fg∧c.fg<4294967296
 bg:0≤c.bg∧c.bg<4294967296
 attrs:0≤c.attrs∧c.attrs<256
 link:0≤c.link∧c.link<65536
def varN (n:Nat):List Int:=if n<128 then [(n:Int)] else ((n % 128+128:Nat):Int)::varN (n / 128)
termination_by n
decreasing_by omega
theorem jdG {n:Nat}(h:n<128):varN n=[(n:Int)]:=by rw[varN,if_pos h]
theorem jg4 {n:Nat}(h:¬n<128):varN n=((n % 128+128:Nat):Int)::varN (n / 128):=by rw[varN,if_neg h]
theorem je7 (n:Nat):∀k,n<128 ^ (k+1)→(varN n).length≤k+1:=by
 intro k
 induction k generalizing n with
 | zero=>intro h;rw[jdG (by simpa using h)];simp
 | succ k ih =>
  intro h
  by_cases h0:n<128
  ·rw[jdG h0];simp
  ·rw[jg4 h0,qaf]
   have:=ih (n / 128) (by rw[Nat.pow_succ]at h;omega)
   omega
theorem jan (n:Nat) (h:n<18446744073709551616):(varN n).length≤10:=je7 n 9 (by omega)
theorem jo5 (n:Nat):0<(varN n).length:=by
 rw[varN]
 split<;>simp
theorem jsf:∀a:Fin 256,a.val ||| 128=a.val % 128+128:=by decide
def jaq (l:List Nat):List Int:=l.flatMap varN
theorem jaI (l:List Nat) (h:∀x∈l,x<9223372036854775808):(jaq l).length≤10*l.length:=by
 induction l with
 | nil=>simp[jaq]
 | cons x l ih =>
  have h1:=jan x (by have:=h x (by simp);omega)
  have h2:=ih (fun y hy=>h y (qab _ hy))
  simp only[jaq,qai,qaa,qaf]at h2 ⊢
  omega
def jeE (bs:List Int):List Int:=varN bs.length++bs
theorem juG (t:ByteArray):jaJ (jab t)=t:=by
 have:∀x:ByteArray,jaJ (x.data.toList.map fun b=>(b.toNat:Int))=x:=fun x=>by
  unfold jaJ
  rw[List.map_map]
  have e:((fun n:Int=>UInt8.ofNat n.toNat) ∘ fun b:UInt8=>(b.toNat:Int))=id:=by
   funext b
   simp
  rw[e]
  simp
 exact this t
theorem jcW (t:ByteArray):∀b∈jab t,Utf.Byte b:=fun b hb=>by
 obtain⟨x,_,rfl⟩:=List.mem_map.1 hb
 have:=x.toNat_lt
 exact⟨by omega,by omega⟩
def jeF (t:ByteArray):Bool:=Utf.vB (jab t)&&(qad (Utf.runes (jab t)).length).all (fun i=>Utf.width ((Utf.runes (jab t)).getD i 0) != 0)
theorem jwU (r:Int) (hm:Utf.may r=true):Utf.num (Utf.enc r)=r:=by
 have he:Utf.enc r=Utf.enc1 r:=by unfold Utf.enc;rw[if_pos hm]
 rw[he]
 rcases Utf.enc_cases r hm with⟨a,e,h⟩|⟨a,b,e,h⟩|⟨a,b,d,e,h⟩|⟨a,b,d,c,e,h⟩
 ·rw[e]
  show a=r
  omega
 ·rw[e]
  show (a-192)*64+b-128=r
  omega
 ·rw[e]
  show (a-224)*4096+(b-128)*64+d-128=r
  omega
 ·rw[e]
  show (a-240)*262144+(b-128)*4096+(d-128)*64+c-128=r
  omega
theorem ji4 (t:ByteArray) (h:Utf.vB (jab t)=true):∃rs:List Int,rs=Utf.runes (jab t)∧jab t=rs.flatMap Utf.enc∧∀r∈rs,Utf.may r=true:=by
 obtain⟨qs,hq⟩:=Utf.encs_of_vB _ (jab t) (Nat.le_refl _) h
 refine⟨Utf.runes (jab t),rfl,?_,?_⟩
 ·rw[hq,Utf.runes_encs,Utf.flatMap_fix]
 ·rw[hq,Utf.runes_encs]
  intro r hr
  obtain⟨x,_,rfl⟩:=List.mem_map.1 hr
  exact Utf.fix_may x
theorem jnW (t:ByteArray) (rs:List Int) (h:jab t=rs.flatMap Utf.enc) (hm:∀r∈rs,Utf.may r=true){j:Nat}{u:Int}(hu:rs[j]?=some u) :
  ((rs.take j).flatMap Utf.enc).length<t.size∧(Utf8.decode t ((rs.take j).flatMap Utf.enc).length).2+((rs.take j).flatMap Utf.enc).length=((rs.take (j+1)).flatMap Utf.enc).length∧((Utf8.decode t ((rs.take j).flatMap Utf.enc).length).1:Int)=u:=by
 have hj:=(List.getElem?_eq_some_iff.1 hu).1
 have hsp:rs=rs.take j++u::rs.drop (j+1):=by
  have:=List.take_append_drop j rs
  rw[qac hj]at this
  rw[show rs[j]=u from (List.getElem?_eq_some_iff.1 hu).2]at this
  exact this.symm
 have hbs:jab t=(rs.take j).flatMap Utf.enc++(Utf.enc u++(rs.drop (j+1)).flatMap Utf.enc):=by
  rw[h]
  conv=>lhs;rw[hsp]
  simp[qah,qai]
 obtain⟨p,hp⟩:∃p,p=((rs.take j).flatMap Utf.enc).length:=⟨_,rfl⟩
 have hpos:0<(Utf.enc u).length:=List.length_pos_iff.2 (Utf.enc_ne u)
 have hlen:(jab t).length=t.size:=jaw t
 have hpl:p<(jab t).length:=by rw[hbs,qaa,qaa,←hp];omega
 have hd:=Utf.decode_str (jab t) (jcW t) p hpl
 have hdr:(jab t).drop p=Utf.enc u++(rs.drop (j+1)).flatMap Utf.enc:=by rw[hbs,hp,List.drop_left]
 have hst:Utf.step ((jab t).drop p)=(Utf.enc u).length:=by
  rw[hdr]
  refine Utf.step_enc u _ fun x hx=>jcW t x ?_
  rw[hbs]
  exact qag _ (qag _ hx)
 rw[juG,hst,if_neg (by omega),if_neg (by omega)]at hd
 rw[hdr,List.take_left,jwU u (hm u (List.mem_of_getElem? hu))]at hd
 refine⟨by rw[←hp];omega,?_,by rw[←hp];exact hd.2⟩
 rw[←hp,hd.1,take_snoc_get' hu]
 simp[qah,←hp]
 omega
where
 take_snoc_get' {rs:List Int}{j:Nat}{u:Int}(hu:rs[j]?=some u):rs.take (j+1)=rs.take j++[u]:=by
  rw[List.take_add_one,hu]
  rfl
def jai (k r:Int) (L:List CD) (x y mo:Int) (ti:ByteArray) (l:List ByteArray):Bool :=
 jbo k r L&&jb1 L l&&decide (0≤x)&&decide (x<k)&&decide (0≤y)&&decide (y<r)&&decide (mo≤2)&&decide (ti.size≤64)&&jeF ti
theorem jba (L:List CD) (k r:Nat):(jak L k r).length=r:=by simp[jak]
theorem jaD {α:Type}(f:Nat→α) (y:Nat):(qad (y+1)).map f=(qad y).map f++[f y]:=by simp[qaj]
def jo6 (bl links:List ByteArray) (v:Int):Int:=if jam bl v≠emptyS∧0≤jal links (jam bl v) then jal links (jam bl v)+1 else 0
def ruf (bl links:List ByteArray) (c:CD):CD:=c.withLink (jo6 bl links c.link)
def half (f:CD→CD) (L:List CD) (i:Nat):List CD:=(L.take i).map f++L.drop i
theorem jls (f:CD→CD) (L:List CD) (i:Nat):(half f L i).length=L.length:=by simp[half];omega
theorem jsg (f:CD→CD) (L:List CD):half f L 0=L:=by simp[half]
theorem jo7 (f:CD→CD) (L:List CD) (i:Nat) (h:L.length≤i):half f L i=L.map f:=by simp[half,List.take_of_length_le h,List.drop_of_length_le h]
theorem jlt (f:CD→CD){L:List CD}{i:Nat}{q:CD}(h:L[i]?=some q):(half f L i)[i]?=some q:=by
 have hi:=(List.getElem?_eq_some_iff.1 h).1
 unfold half
 rw[List.getElem?_append_right (by simp;omega),List.getElem?_drop]
 have:i+(i-(List.map f (List.take i L)).length)=i:=by simp;omega
 rw[this,h]
theorem jlu (f:CD→CD){L:List CD}{i:Nat}{q:CD}(h:L[i]?=some q):(half f L i).set i (f q)=half f L (i+1):=by
 have hi:=(List.getElem?_eq_some_iff.1 h).1
 have hd:L.drop i=q::L.drop (i+1):=by
  rw[qac hi]
  congr 1
  exact (List.getElem?_eq_some_iff.1 h).2
 unfold half
 have hl:((L.take i).map f).length=i:=by simp;omega
 rw[List.set_append_right _ _ (by omega),hl,Nat.sub_self,hd,List.set_cons_zero,jar h,List.map_append,List.append_assoc]
 rfl
def ulf (bl links:List ByteArray) (c:CD):CD:=if 0<c.link then c.withLink (jal links (sAt bl (c.link-1).toNat)+1) else c
def jfl (S:List CD) (j:Int):CD:=if 0≤j∧j<S.length then cAt S j.toNat else blank0
def cntF (f g:Nat→CD) (t:Nat):Nat:=(qad t).countP fun i=>!jdZ (f i) (g i)
theorem jmq (f g:Nat→CD) (t:Nat):cntF f g (t+1)=cntF f g t+if jdZ (f t) (g t) then 0 else 1:=by
 unfold cntF
 rw[qaj,List.countP_append,List.countP_singleton]
 cases jdZ (f t) (g t)<;>rfl
theorem jlv (f g:Nat→CD) (t:Nat):cntF f g t≤t:=by
 unfold cntF
 have:=List.countP_le_length (p:=fun i=>!jdZ (f i) (g i)) (l:=qad t)
 rwa [List.length_range]at this
theorem jqr {f f' g g':Nat→CD}{t:Nat}(h:∀i,i<t→f i=f' i∧g i=g' i):cntF f g t=cntF f' g' t:=by
 unfold cntF
 refine List.countP_congr fun i hi=>?_
 rw[(h i (List.mem_range.1 hi)).1,(h i (List.mem_range.1 hi)).2]
def jbl (d:Int→Nat) (st:Int×Nat) (k:Int):Int×Nat:=if d k<st.2 then (k,d k) else st
def jbC (d:Int→Nat):Nat→Int×Nat
 | 0=>(0,d 0)
 | n+1=>jbl d (jbl d (jbC d n) ((n+1:Nat):Int)) (-((n+1:Nat):Int))
def innB (d:Int→Nat) (st:Int×Nat) (n:Int) (j:Nat):Int×Nat:=if j=0 then st else if j=1 then jbl d st n else jbl d (jbl d st n) (-n)
def dist (k r:Nat) (L1 L2:List CD) (m:Int):Nat:=cntF (fun i=>jfl L1 (i+m*k)) (cAt L2) (k*r)
theorem jbg (d:Int→Nat) (st:Int×Nat) (k:Int):(d k<st.2→jbl d st k=(k,d k))∧(¬d k<st.2→jbl d st k=st):=by
 unfold jbl
 exact⟨fun h=>if_pos h,fun h=>if_neg h⟩
def mAt (M:List (List CD)) (i:Nat):List CD:=M.getD i []
theorem ji5 {M:List (List CD)}{i:Nat}{l:List CD}(h:M[i]?=some l):mAt M i=l:=by simp[mAt,List.getD_eq_getElem?_getD,h]
def jg5 (M:List (List CD)) (m:Int) (y:Nat):List CD:=if 0≤(y:Int)+m∧(y:Int)+m<M.length then mAt M ((y:Int)+m).toNat else List.replicate (mAt M y).length blank0
def jaM (M:List (List CD)) (m:Int):List (List CD):=(qad M.length).map (jg5 M m)
theorem jnX (M:List (List CD)) (m:Int):(jaM M m).length=M.length:=by simp[jaM]
theorem jd5 {k:Nat}:∀(M:List (List CD)),(∀l∈M,l.length=k)→∀y x,y<M.length→x<k→M.flatten[y*k+x]?=(mAt M y)[x]?
 | [],h,y,x,hy,hx=>by simp at hy
 | l::M,h,0,x,hy,hx=>by
  have hl:=h l (by simp)
  rw[qae,Nat.zero_mul,Nat.zero_add,List.getElem?_append_left (by omega)]
  rfl
 | l::M,h,y+1,x,hy,hx=>by
  have hl:=h l (by simp)
  have ih:=jd5 M (fun q hq=>h q (qab _ hq)) y x (by simpa using hy) hx
  rw[qae,List.getElem?_append_right (by rw[hl,Nat.succ_mul];omega),hl,show (y+1)*k+x-k=y*k+x by rw[Nat.succ_mul];omega,ih]
  rfl
theorem jeG {k:Nat}:∀(M:List (List CD)),(∀l∈M,l.length=k)→M.flatten.length=M.length*k
 | [],h=>by simp
 | l::M,h=>by
  have ih:=jeG M (fun q hq=>h q (qab _ hq))
  rw[qae,qaa,ih,h l (by simp),qaf,Nat.succ_mul,Nat.add_comm]
structure Rect (M:List (List CD)) (k r:Nat):Prop where
 len:M.length=r
 row:∀l∈M,l.length=k
theorem Rect.at_ {M:List (List CD)}{k r:Nat}(h:Rect M k r){y:Nat}(hy:y<r):(mAt M y).length=k∧mAt M y∈M:=by
 have hy':y<M.length:=by rw[h.len];exact hy
 have e:=ji5 (List.getElem?_eq_getElem hy')
 have hm:mAt M y∈M:=by rw[e];exact List.getElem_mem hy'
 exact⟨h.row _ hm,hm⟩
def jbP (M1 M2:List (List CD)) (t:Nat):Nat:=cntF (cAt M1.flatten) (cAt M2.flatten) t
def jg6 (t:Nat):Int:=if t % 2=0 then -(((t+1) / 2:Nat):Int) else (((t+1) / 2:Nat):Int)
def refS (d:Int→Nat):Nat→Int×Nat
 | 0=>(0,d 0)
 | t+1=>jbl d (refS d t) (jg6 (t+1))
theorem jmr (d:Int→Nat):∀j,refS d (2*j)=jbC d j
 | 0=>rfl
 | j+1=>by
  have ih:=jmr d j
  rw[show 2*(j+1)=2*j+1+1 by omega]
  show jbl d (jbl d (refS d (2*j)) (jg6 (2*j+1))) (jg6 (2*j+1+1))=jbl d (jbl d (jbC d j) ((j+1:Nat):Int)) (-((j+1:Nat):Int))
  have h1:jg6 (2*j+1)=((j+1:Nat):Int):=by unfold jg6;rw[if_neg (by omega),show (2*j+1+1) / 2=j+1 by omega]
  have h2:jg6 (2*j+1+1) = -((j+1:Nat):Int):=by unfold jg6;rw[if_pos (by omega),show (2*j+1+1+1) / 2=j+1 by omega]
  rw[h1,h2,ih]
theorem ji6 {d d':Int→Nat}:∀{j:Nat},(∀m:Int,-(j:Int)≤m→m≤j→d m=d' m)→jbC d j=jbC d' j
 | 0,h=>by simp[jbC,h 0 (by omega) (by omega)]
 | j+1,h=>by
  have ih:=ji6 (j:=j) (fun m h1 h2=>h m (by omega) (by omega))
  have e1:=h ((j+1:Nat):Int) (by omega) (by omega)
  have e2:=h (-((j+1:Nat):Int)) (by omega) (by omega)
  have hs:∀(st:Int×Nat) (m:Int),d m=d' m→jbl d st m=jbl d' st m:=fun st m e=>by unfold jbl;rw[e]
  show jbl d (jbl d (jbC d j) _) _=jbl d' (jbl d' (jbC d' j) _) _
  rw[ih,hs _ _ e1,hs _ _ e2]
theorem jdk {M:List (List CD)}{k r:Nat}(h:Rect M k r) (m:Int):Rect (jaM M m) k r:=by
 refine⟨by rw[jnX,h.len],fun l hl=>?_⟩
 obtain⟨y,hy,rfl⟩:=List.mem_map.1 hl
 have hy':y<r:=by rw[←h.len];exact List.mem_range.1 hy
 unfold jg5
 split
 ·rename_i hh
  refine (h.at_ (y:=((y:Int)+m).toNat) ?_).1
  rw[h.len]at hh
  omega
 ·rw[List.length_replicate]
  exact (h.at_ hy').1
theorem ji7 {M:List (List CD)}:jaM M 0=M:=by
 unfold jaM
 refine List.ext_getElem (by simp) fun i h1 h2=>?_
 rw[List.getElem_map,List.getElem_range]
 unfold jg5
 rw[if_pos (by simp at h1;omega),Int.add_zero,Int.toNat_natCast]
 exact ji5 (List.getElem?_eq_getElem h2)
def jwV (M1 M2:List (List CD)) (k r:Nat) (m:Int):Nat:=jbP (jaM M1 m) M2 (r*k)
end
end Go.Proofs.YtienkkicehmchaaGreatDoor
