/- Texts of this claim, merged by a program of this claim: DiffM1. -/
import Derived.Test.YtienkkicehmchaaGreatDoorDa16
import Derived.Test.YtienkkicehmchaaGreatDoorDa17
import Derived.Test.YtienkkicehmchaaGreatDoorDa8
namespace Go.Proofs.YtienkkicehmchaaGreatDoor
set_option linter.unusedVariables false
set_option linter.unusedSimpArgs false
section
open Go.RowKit
set_option maxRecDepth 100000
set_option maxHeartbeats 4000000
theorem jqP {cols rows:Int}:jfe cols rows=true↔(1≤cols∧cols≤80∧1≤rows∧rows≤24):=by
 unfold jfe
 simp[and_assoc]
theorem jgT {L:List CD}{cols rows y:Nat}(hL:L.length=cols*rows) (hy:y<rows):(jbH L cols y).length=cols:=by
 unfold jbH
 rw[List.length_take,List.length_drop,hL]
 have h1:(y+1)*cols≤cols*rows:=by rw[Nat.mul_comm cols rows];exact Nat.mul_le_mul_right _ (by omega)
 rw[Nat.succ_mul]at h1
 omega
structure CWf (c:CD):Prop where
 rune:-2147483648≤c.rune∧c.rune≤2147483647
 wide:0≤c.wide∧c.wide<256
 fg:0≤c.fg∧c.fg<4294967296
 bg:0≤c.bg∧c.bg<4294967296
 attrs:0≤c.attrs∧c.attrs<256
 link:0≤c.link∧c.link<65536
def varN (n:Nat):List Int:=if n<128 then [(n:Int)] else ((n % 128+128:Nat):Int)::varN (n / 128)
termination_by n
decreasing_by omega
theorem jhV {n:Nat}(h:n<128):varN n=[(n:Int)]:=by rw[varN,if_pos h]
theorem jmV {n:Nat}(h:¬n<128):varN n=((n % 128+128:Nat):Int)::varN (n / 128):=by rw[varN,if_neg h]
theorem jl5 (n:Nat):∀k,n<128 ^ (k+1)→(varN n).length≤k+1:=by
 intro k
 induction k generalizing n with
 | zero=>intro h;rw[jhV (by simpa using h)];simp
 | succ k ih =>
  intro h
  by_cases h0:n<128
  ·rw[jhV h0];simp
  ·rw[jmV h0,List.length_cons]
   have:=ih (n / 128) (by rw[Nat.pow_succ]at h;omega)
   omega
theorem jmW (n:Nat) (h:n<18446744073709551616):(varN n).length≤10:=jl5 n 9 (by omega)
def jjW (l:List Nat):List Int:=l.flatMap varN
theorem joN (l:List Nat) (h:∀x∈l,x<9223372036854775808):(jjW l).length≤10*l.length:=by
 induction l with
 | nil=>simp[jjW]
 | cons x l ih =>
  have h1:=jmW x (by have:=h x (by simp);omega)
  have h2:=ih (fun y hy=>h y (List.mem_cons_of_mem _ hy))
  simp only[jjW,List.flatMap_cons,List.length_append,List.length_cons]at h2 ⊢
  omega
theorem jqQ (t:ByteArray):jas (jaf t)=t:=by
 have:∀x:ByteArray,jas (x.data.toList.map fun b=>(b.toNat:Int))=x:=fun x=>by
  unfold jas
  rw[List.map_map]
  have e:((fun n:Int=>UInt8.ofNat n.toNat) ∘ fun b:UInt8=>(b.toNat:Int))=id:=by
   funext b
   simp
  rw[e]
  simp
 exact this t
theorem jdi (t:ByteArray):∀b∈jaf t,Utf.Byte b:=fun b hb=>by
 obtain⟨x,_,rfl⟩:=List.mem_map.1 hb
 have:=x.toNat_lt
 exact⟨by omega,by omega⟩
def jdj (t:ByteArray):Bool:=Utf.vB (jaf t)&&(List.range (Utf.runes (jaf t)).length).all (fun i=>Utf.width ((Utf.runes (jaf t)).getD i 0) != 0)
theorem jsM (r:Int) (hm:Utf.may r=true):Utf.num (Utf.enc r)=r:=by
 have he:Utf.enc r=Utf.enc1 r:=by unfold Utf.enc;rw[if_pos hm]
 rw[he]
 rcases Utf.enc_cases r hm with⟨a,e,h⟩|⟨a,b,e,h⟩|⟨a,b,d,e,h⟩|⟨a,b,d,c,e,h⟩
 ·rw[e]
  show a=r
  omega
 ·rw[e]
  show (a-192)*64+b-128=r
  omega
 ·rw[e]
  show (a-224)*4096+(b-128)*64+d-128=r
  omega
 ·rw[e]
  show (a-240)*262144+(b-128)*4096+(d-128)*64+c-128=r
  omega
theorem jgU (t:ByteArray) (h:Utf.vB (jaf t)=true):∃rs:List Int,rs=Utf.runes (jaf t)∧jaf t=rs.flatMap Utf.enc∧∀r∈rs,Utf.may r=true:=by
 obtain⟨qs,hq⟩:=Utf.encs_of_vB _ (jaf t) (Nat.le_refl _) h
 refine⟨Utf.runes (jaf t),rfl,?_,?_⟩
 ·rw[hq,Utf.runes_encs,Utf.flatMap_fix]
 ·rw[hq,Utf.runes_encs]
  intro r hr
  obtain⟨x,_,rfl⟩:=List.mem_map.1 hr
  exact Utf.fix_may x
theorem jkY (t:ByteArray) (rs:List Int) (h:jaf t=rs.flatMap Utf.enc) (hm:∀r∈rs,Utf.may r=true){j:Nat}{u:Int}(hu:rs[j]?=some u) :
  ((rs.take j).flatMap Utf.enc).length<t.size∧(Utf8.decode t ((rs.take j).flatMap Utf.enc).length).2+((rs.take j).flatMap Utf.enc).length=((rs.take (j+1)).flatMap Utf.enc).length∧((Utf8.decode t ((rs.take j).flatMap Utf.enc).length).1:Int)=u:=by
 have hj:=(List.getElem?_eq_some_iff.1 hu).1
 have hsp:rs=rs.take j++u::rs.drop (j+1):=by
  have:=List.take_append_drop j rs
  rw[List.drop_eq_getElem_cons hj]at this
  rw[show rs[j]=u from (List.getElem?_eq_some_iff.1 hu).2]at this
  exact this.symm
 have hbs:jaf t=(rs.take j).flatMap Utf.enc++(Utf.enc u++(rs.drop (j+1)).flatMap Utf.enc):=by
  rw[h]
  conv=>lhs;rw[hsp]
  simp[List.flatMap_append,List.flatMap_cons]
 obtain⟨p,hp⟩:∃p,p=((rs.take j).flatMap Utf.enc).length:=⟨_,rfl⟩
 have hpos:0<(Utf.enc u).length:=List.length_pos_iff.2 (Utf.enc_ne u)
 have hlen:(jaf t).length=t.size:=jdu t
 have hpl:p<(jaf t).length:=by rw[hbs,List.length_append,List.length_append,←hp];omega
 have hd:=Utf.decode_str (jaf t) (jdi t) p hpl
 have hdr:(jaf t).drop p=Utf.enc u++(rs.drop (j+1)).flatMap Utf.enc:=by rw[hbs,hp,List.drop_left]
 have hst:Utf.step ((jaf t).drop p)=(Utf.enc u).length:=by
  rw[hdr]
  refine Utf.step_enc u _ fun x hx=>jdi t x ?_
  rw[hbs]
  exact List.mem_append_right _ (List.mem_append_right _ hx)
 rw[jqQ,hst,if_neg (by omega),if_neg (by omega)]at hd
 rw[hdr,List.take_left,jsM u (hm u (List.mem_of_getElem? hu))]at hd
 refine⟨by rw[←hp];omega,?_,by rw[←hp];exact hd.2⟩
 rw[←hp,hd.1,take_snoc_get' hu]
 simp[List.flatMap_append,←hp]
 omega
where
 take_snoc_get' {rs:List Int}{j:Nat}{u:Int}(hu:rs[j]?=some u):rs.take (j+1)=rs.take j++[u]:=by
  rw[List.take_add_one,hu]
  rfl
def ja9 (k r:Int) (L:List CD) (x y mo:Int) (ti:ByteArray) (l:List ByteArray):Bool :=
 jb9 k r L&&jci L l&&decide (0≤x)&&decide (x<k)&&decide (0≤y)&&decide (y<r)&&decide (mo≤2)&&decide (ti.size≤64)&&jdj ti
def half (f:CD→CD) (L:List CD) (i:Nat):List CD:=(L.take i).map f++L.drop i
theorem jqR (f:CD→CD) (L:List CD) (i:Nat):(half f L i).length=L.length:=by simp[half];omega
theorem jqS (f:CD→CD) (L:List CD) (i:Nat) (h:L.length≤i):half f L i=L.map f:=by simp[half,List.take_of_length_le h,List.drop_of_length_le h]
theorem jqT (f:CD→CD){L:List CD}{i:Nat}{q:CD}(h:L[i]?=some q):(half f L i)[i]?=some q:=by
 have hi:=(List.getElem?_eq_some_iff.1 h).1
 unfold half
 rw[List.getElem?_append_right (by simp;omega),List.getElem?_drop]
 have:i+(i-(List.map f (List.take i L)).length)=i:=by simp;omega
 rw[this,h]
theorem jqU (f:CD→CD){L:List CD}{i:Nat}{q:CD}(h:L[i]?=some q):(half f L i).set i (f q)=half f L (i+1):=by
 have hi:=(List.getElem?_eq_some_iff.1 h).1
 have hd:L.drop i=q::L.drop (i+1):=by
  rw[List.drop_eq_getElem_cons hi]
  congr 1
  exact (List.getElem?_eq_some_iff.1 h).2
 unfold half
 have hl:((L.take i).map f).length=i:=by simp;omega
 rw[List.set_append_right _ _ (by omega),hl,Nat.sub_self,hd,List.set_cons_zero,jaK h,List.map_append,List.append_assoc]
 rfl
def mAt (M:List (List CD)) (i:Nat):List CD:=M.getD i []
theorem jtZ {M:List (List CD)}{i:Nat}{l:List CD}(h:M[i]?=some l):mAt M i=l:=by simp[mAt,List.getD_eq_getElem?_getD,h]
structure Rect (M:List (List CD)) (k r:Nat):Prop where
 len:M.length=r
 row:∀l∈M,l.length=k
theorem Rect.at_ {M:List (List CD)}{k r:Nat}(h:Rect M k r){y:Nat}(hy:y<r):(mAt M y).length=k∧mAt M y∈M:=by
 have hy':y<M.length:=by rw[h.len];exact hy
 have e:=jtZ (List.getElem?_eq_getElem hy')
 have hm:mAt M y∈M:=by rw[e];exact List.getElem_mem hy'
 exact⟨h.row _ hm,hm⟩
end
end Go.Proofs.YtienkkicehmchaaGreatDoor
