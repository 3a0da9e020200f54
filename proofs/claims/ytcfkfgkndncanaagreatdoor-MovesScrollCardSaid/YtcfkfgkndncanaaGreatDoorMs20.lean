/- Texts of this claim, merged by a program of this claim: DiffM1, ApplyM. -/
import Derived.Test.YtcfkfgkndncanaaGreatDoorMs18
import Derived.Test.YtcfkfgkndncanaaGreatDoorMs19
import Derived.Test.YtcfkfgkndncanaaGreatDoorMs6
import Derived.Test.YtcfkfgkndncanaaGreatDoorMs7
namespace Go.Proofs.YtcfkfgkndncanaaGreatDoor
set_option linter.unusedVariables false
set_option linter.unusedSimpArgs false
section
open Go.RowKit
set_option maxRecDepth 100000
set_option maxHeartbeats 4000000
theorem jdh {cols rows:Int}:je5 cols rows=true↔(1≤cols∧cols≤80∧1≤rows∧rows≤24):=by
 unfold je5
 simp[and_assoc]
theorem jcl {L:List CD}{cols rows y:Nat}(hL:L.length=cols*rows) (hy:y<rows):(jaY L cols y).length=cols:=by
 unfold jaY
 rw[List.length_take,List.length_drop,hL]
 have h1:(y+1)*cols≤cols*rows:=by rw[Nat.mul_comm cols rows];exact Nat.mul_le_mul_right _ (by omega)
 rw[Nat.succ_mul]at h1
 omega
theorem joQ {L:List CD}{cols y:Nat}{q:CD}(h:q∈jaY L cols y):q∈L:=List.mem_of_mem_drop (List.mem_of_mem_take h)
structure CWf (c:CD):Prop where
 rune:-2147483648≤c.rune∧c.rune≤2147483647
 wide:0≤c.wide∧c.wide<256
 fg:0≤c.fg∧c.fg<4294967296
 bg:0≤c.bg∧c.bg<4294967296
 attrs:0≤c.attrs∧c.attrs<256
 link:0≤c.link∧c.link<65536
def varN (n:Nat):List Int:=if n<128 then [(n:Int)] else ((n % 128+128:Nat):Int)::varN (n / 128)
termination_by n
decreasing_by omega
theorem jek {n:Nat}(h:n<128):varN n=[(n:Int)]:=by rw[varN,if_pos h]
theorem jgE {n:Nat}(h:¬n<128):varN n=((n % 128+128:Nat):Int)::varN (n / 128):=by rw[varN,if_neg h]
theorem jgF (n:Nat):∀k,n<128 ^ (k+1)→(varN n).length≤k+1:=by
 intro k
 induction k generalizing n with
 | zero=>intro h;rw[jek (by simpa using h)];simp
 | succ k ih =>
  intro h
  by_cases h0:n<128
  ·rw[jek h0];simp
  ·rw[jgE h0,List.length_cons]
   have:=ih (n / 128) (by rw[Nat.pow_succ]at h;omega)
   omega
theorem jb2 (n:Nat) (h:n<18446744073709551616):(varN n).length≤10:=jgF n 9 (by omega)
theorem jyE (n:Nat):0<(varN n).length:=by
 rw[varN]
 split<;>simp
theorem jv0:∀a:Fin 256,a.val ||| 128=a.val % 128+128:=by decide
def jbc (l:List Nat):List Int:=l.flatMap varN
theorem jcm (l:List Nat) (h:∀x∈l,x<9223372036854775808):(jbc l).length≤10*l.length:=by
 induction l with
 | nil=>simp[jbc]
 | cons x l ih =>
  have h1:=jb2 x (by have:=h x (by simp);omega)
  have h2:=ih (fun y hy=>h y (List.mem_cons_of_mem _ hy))
  simp only[jbc,List.flatMap_cons,List.length_append,List.length_cons]at h2 ⊢
  omega
def jjp (bs:List Int):List Int:=varN bs.length++bs
theorem jnq (t:ByteArray):ja5 (jan t)=t:=by
 have:∀x:ByteArray,ja5 (x.data.toList.map fun b=>(b.toNat:Int))=x:=fun x=>by
  unfold ja5
  rw[List.map_map]
  have e:((fun n:Int=>UInt8.ofNat n.toNat) ∘ fun b:UInt8=>(b.toNat:Int))=id:=by
   funext b
   simp
  rw[e]
  simp
 exact this t
theorem jfq (t:ByteArray):∀b∈jan t,Utf.Byte b:=fun b hb=>by
 obtain⟨x,_,rfl⟩:=List.mem_map.1 hb
 have:=x.toNat_lt
 exact⟨by omega,by omega⟩
def jfr (t:ByteArray):Bool:=Utf.vB (jan t)&&(List.range (Utf.runes (jan t)).length).all (fun i=>Utf.width ((Utf.runes (jan t)).getD i 0) != 0)
theorem jAY (r:Int) (hm:Utf.may r=true):Utf.num (Utf.enc r)=r:=by
 have he:Utf.enc r=Utf.enc1 r:=by unfold Utf.enc;rw[if_pos hm]
 rw[he]
 rcases Utf.enc_cases r hm with⟨a,e,h⟩|⟨a,b,e,h⟩|⟨a,b,d,e,h⟩|⟨a,b,d,c,e,h⟩
 ·rw[e]
  show a=r
  omega
 ·rw[e]
  show (a-192)*64+b-128=r
  omega
 ·rw[e]
  show (a-224)*4096+(b-128)*64+d-128=r
  omega
 ·rw[e]
  show (a-240)*262144+(b-128)*4096+(d-128)*64+c-128=r
  omega
theorem jkG (t:ByteArray) (h:Utf.vB (jan t)=true):∃rs:List Int,rs=Utf.runes (jan t)∧jan t=rs.flatMap Utf.enc∧∀r∈rs,Utf.may r=true:=by
 obtain⟨qs,hq⟩:=Utf.encs_of_vB _ (jan t) (Nat.le_refl _) h
 refine⟨Utf.runes (jan t),rfl,?_,?_⟩
 ·rw[hq,Utf.runes_encs,Utf.flatMap_fix]
 ·rw[hq,Utf.runes_encs]
  intro r hr
  obtain⟨x,_,rfl⟩:=List.mem_map.1 hr
  exact Utf.fix_may x
theorem jqq (t:ByteArray) (rs:List Int) (h:jan t=rs.flatMap Utf.enc) (hm:∀r∈rs,Utf.may r=true){j:Nat}{u:Int}(hu:rs[j]?=some u) :
  ((rs.take j).flatMap Utf.enc).length<t.size∧(Utf8.decode t ((rs.take j).flatMap Utf.enc).length).2+((rs.take j).flatMap Utf.enc).length=((rs.take (j+1)).flatMap Utf.enc).length∧((Utf8.decode t ((rs.take j).flatMap Utf.enc).length).1:Int)=u:=by
 have hj:=(List.getElem?_eq_some_iff.1 hu).1
 have hsp:rs=rs.take j++u::rs.drop (j+1):=by
  have:=List.take_append_drop j rs
  rw[List.drop_eq_getElem_cons hj]at this
  rw[show rs[j]=u from (List.getElem?_eq_some_iff.1 hu).2]at this
  exact this.symm
 have hbs:jan t=(rs.take j).flatMap Utf.enc++(Utf.enc u++(rs.drop (j+1)).flatMap Utf.enc):=by
  rw[h]
  conv=>lhs;rw[hsp]
  simp[List.flatMap_append,List.flatMap_cons]
 obtain⟨p,hp⟩:∃p,p=((rs.take j).flatMap Utf.enc).length:=⟨_,rfl⟩
 have hpos:0<(Utf.enc u).length:=List.length_pos_iff.2 (Utf.enc_ne u)
 have hlen:(jan t).length=t.size:=jcd t
 have hpl:p<(jan t).length:=by rw[hbs,List.length_append,List.length_append,←hp];omega
 have hd:=Utf.decode_str (jan t) (jfq t) p hpl
 have hdr:(jan t).drop p=Utf.enc u++(rs.drop (j+1)).flatMap Utf.enc:=by rw[hbs,hp,List.drop_left]
 have hst:Utf.step ((jan t).drop p)=(Utf.enc u).length:=by
  rw[hdr]
  refine Utf.step_enc u _ fun x hx=>jfq t x ?_
  rw[hbs]
  exact List.mem_append_right _ (List.mem_append_right _ hx)
 rw[jnq,hst,if_neg (by omega),if_neg (by omega)]at hd
 rw[hdr,List.take_left,jAY u (hm u (List.mem_of_getElem? hu))]at hd
 refine⟨by rw[←hp];omega,?_,by rw[←hp];exact hd.2⟩
 rw[←hp,hd.1,take_snoc_get' hu]
 simp[List.flatMap_append,←hp]
 omega
where
 take_snoc_get' {rs:List Int}{j:Nat}{u:Int}(hu:rs[j]?=some u):rs.take (j+1)=rs.take j++[u]:=by
  rw[List.take_add_one,hu]
  rfl
def ja6 (k r:Int) (L:List CD) (x y mo:Int) (ti:ByteArray) (l:List ByteArray):Bool :=
 jbM k r L&&jb8 L l&&decide (0≤x)&&decide (x<k)&&decide (0≤y)&&decide (y<r)&&decide (mo≤2)&&decide (ti.size≤64)&&jfr ti
theorem jbD (L:List CD) (k r:Nat):(jam L k r).length=r:=by simp[jam]
theorem jbZ {α:Type}(f:Nat→α) (y:Nat):(List.range (y+1)).map f=(List.range y).map f++[f y]:=by simp[List.range_succ]
def half (f:CD→CD) (L:List CD) (i:Nat):List CD:=(L.take i).map f++L.drop i
theorem jsd (f:CD→CD) (L:List CD) (i:Nat):(half f L i).length=L.length:=by simp[half];omega
theorem jyF (f:CD→CD) (L:List CD) (i:Nat) (h:L.length≤i):half f L i=L.map f:=by simp[half,List.take_of_length_le h,List.drop_of_length_le h]
theorem jse (f:CD→CD){L:List CD}{i:Nat}{q:CD}(h:L[i]?=some q):(half f L i)[i]?=some q:=by
 have hi:=(List.getElem?_eq_some_iff.1 h).1
 unfold half
 rw[List.getElem?_append_right (by simp;omega),List.getElem?_drop]
 have:i+(i-(List.map f (List.take i L)).length)=i:=by simp;omega
 rw[this,h]
theorem jsf (f:CD→CD){L:List CD}{i:Nat}{q:CD}(h:L[i]?=some q):(half f L i).set i (f q)=half f L (i+1):=by
 have hi:=(List.getElem?_eq_some_iff.1 h).1
 have hd:L.drop i=q::L.drop (i+1):=by
  rw[List.drop_eq_getElem_cons hi]
  congr 1
  exact (List.getElem?_eq_some_iff.1 h).2
 unfold half
 have hl:((L.take i).map f).length=i:=by simp;omega
 rw[List.set_append_right _ _ (by omega),hl,Nat.sub_self,hd,List.set_cons_zero,jaW h,List.map_append,List.append_assoc]
 rfl
def ulf (bl links:List ByteArray) (c:CD):CD:=if 0<c.link then c.withLink (jaS links (sAt bl (c.link-1).toNat)+1) else c
def jfs (S:List CD) (j:Int):CD:=if 0≤j∧j<S.length then cAt S j.toNat else blank0
def cntF (f g:Nat→CD) (t:Nat):Nat:=(List.range t).countP fun i=>!jee (f i) (g i)
theorem jhT (f g:Nat→CD) (t:Nat):cntF f g (t+1)=cntF f g t+if jee (f t) (g t) then 0 else 1:=by
 unfold cntF
 rw[List.range_succ,List.countP_append,List.countP_singleton]
 cases jee (f t) (g t)<;>rfl
theorem jqr (f g:Nat→CD) (t:Nat):cntF f g t≤t:=by
 unfold cntF
 have:=List.countP_le_length (p:=fun i=>!jee (f i) (g i)) (l:=List.range t)
 rwa [List.length_range]at this
theorem jiA {f f' g g':Nat→CD}{t:Nat}(h:∀i,i<t→f i=f' i∧g i=g' i):cntF f g t=cntF f' g' t:=by
 unfold cntF
 refine List.countP_congr fun i hi=>?_
 rw[(h i (List.mem_range.1 hi)).1,(h i (List.mem_range.1 hi)).2]
def jdr (d:Int→Nat) (st:Int×Nat) (k:Int):Int×Nat:=if d k<st.2 then (k,d k) else st
def jd1 (d:Int→Nat):Nat→Int×Nat
 | 0=>(0,d 0)
 | n+1=>jdr d (jdr d (jd1 d n) ((n+1:Nat):Int)) (-((n+1:Nat):Int))
def innB (d:Int→Nat) (st:Int×Nat) (n:Int) (j:Nat):Int×Nat:=if j=0 then st else if j=1 then jdr d st n else jdr d (jdr d st n) (-n)
def dist (k r:Nat) (L1 L2:List CD) (m:Int):Nat:=cntF (fun i=>jfs L1 (i+m*k)) (cAt L2) (k*r)
theorem jfQ (d:Int→Nat) (st:Int×Nat) (k:Int):(d k<st.2→jdr d st k=(k,d k))∧(¬d k<st.2→jdr d st k=st):=by
 unfold jdr
 exact⟨fun h=>if_pos h,fun h=>if_neg h⟩
def mAt (M:List (List CD)) (i:Nat):List CD:=M.getD i []
theorem jkH {M:List (List CD)}{i:Nat}{l:List CD}(h:M[i]?=some l):mAt M i=l:=by simp[mAt,List.getD_eq_getElem?_getD,h]
def jto (M:List (List CD)) (m:Int) (y:Nat):List CD:=if 0≤(y:Int)+m∧(y:Int)+m<M.length then mAt M ((y:Int)+m).toNat else List.replicate (mAt M y).length blank0
def jcf (M:List (List CD)) (m:Int):List (List CD):=(List.range M.length).map (jto M m)
theorem jqs (M:List (List CD)) (m:Int):(jcf M m).length=M.length:=by simp[jcf]
theorem jnr {k:Nat}:∀(M:List (List CD)),(∀l∈M,l.length=k)→∀y x,y<M.length→x<k→M.flatten[y*k+x]?=(mAt M y)[x]?
 | [],h,y,x,hy,hx=>by simp at hy
 | l::M,h,0,x,hy,hx=>by
  have hl:=h l (by simp)
  rw[List.flatten_cons,Nat.zero_mul,Nat.zero_add,List.getElem?_append_left (by omega)]
  rfl
 | l::M,h,y+1,x,hy,hx=>by
  have hl:=h l (by simp)
  have ih:=jnr M (fun q hq=>h q (List.mem_cons_of_mem _ hq)) y x (by simpa using hy) hx
  rw[List.flatten_cons,List.getElem?_append_right (by rw[hl,Nat.succ_mul];omega),hl,show (y+1)*k+x-k=y*k+x by rw[Nat.succ_mul];omega,ih]
  rfl
theorem jgm {k:Nat}:∀(M:List (List CD)),(∀l∈M,l.length=k)→M.flatten.length=M.length*k
 | [],h=>by simp
 | l::M,h=>by
  have ih:=jgm M (fun q hq=>h q (List.mem_cons_of_mem _ hq))
  rw[List.flatten_cons,List.length_append,ih,h l (by simp),List.length_cons,Nat.succ_mul,Nat.add_comm]
structure Rect (M:List (List CD)) (k r:Nat):Prop where
 len:M.length=r
 row:∀l∈M,l.length=k
theorem Rect.at_ {M:List (List CD)}{k r:Nat}(h:Rect M k r){y:Nat}(hy:y<r):(mAt M y).length=k∧mAt M y∈M:=by
 have hy':y<M.length:=by rw[h.len];exact hy
 have e:=jkH (List.getElem?_eq_getElem hy')
 have hm:mAt M y∈M:=by rw[e];exact List.getElem_mem hy'
 exact⟨h.row _ hm,hm⟩
theorem jjE {M:List (List CD)}{k r:Nat}(h:Rect M k r) (m:Int):Rect (jcf M m) k r:=by
 refine⟨by rw[jqs,h.len],fun l hl=>?_⟩
 obtain⟨y,hy,rfl⟩:=List.mem_map.1 hl
 have hy':y<r:=by rw[←h.len];exact List.mem_range.1 hy
 unfold jto
 split
 ·rename_i hh
  refine (h.at_ (y:=((y:Int)+m).toNat) ?_).1
  rw[h.len]at hh
  omega
 ·rw[List.length_replicate]
  exact (h.at_ hy').1
theorem jqt {M:List (List CD)}:jcf M 0=M:=by
 unfold jcf
 refine List.ext_getElem (by simp) fun i h1 h2=>?_
 rw[List.getElem_map,List.getElem_range]
 unfold jto
 rw[if_pos (by simp at h1;omega),Int.add_zero,Int.toNat_natCast]
 exact jkH (List.getElem?_eq_getElem h2)
end
section
def colE (d:List Int) (a:Nat):Int:=if upE d a 4294967295≠0 then upE d a 4294967295 else if jeu (varV d a) then 0 else 3
def lnkG (d:List Int):Nat→Nat→List ByteArray→Int×Nat×List ByteArray
 | 0,a,m=>(0,a,m)
 | n+1,a,m=>if jd0 d a 64≠0 then (jd0 d a 64,0,[]) else if jdg (ja5 (je2 d a 64))=false then (3,0,[]) else lnkG d n (a+je3 d a 64) (m++[ja5 (je2 d a 64)])
def lkG (d:List Int) (a:Nat) (l:List ByteArray):Int×Nat×List ByteArray :=
 if upE d a l.length≠0 then (upE d a l.length,0,[]) else
 if upE d (a+varU d a) (16-varV d a)≠0 then (upE d (a+varU d a) (16-varV d a),0,[]) else
 lnkG d (varV d (a+varU d a)).toNat (a+varU d a+varU d (a+varU d a)) (l.take (varV d a).toNat)
def jgn (L:List CD) (o:Nat) (R:List CD):List CD:=L.take o++R++L.drop (o+R.length)
def cpG (d:List Int) (k r:Nat) (was:List CD):Nat→Nat→Nat→List CD→Int×Nat×List CD
 | 0,a,_,L=>(0,a,L)
 | n+1,a,pos,L=>if upE d a ((r:Int)-1-pos)≠0 then (upE d a ((r:Int)-1-pos),0,[]) else
  if upE d (a+varU d a) ((r:Int)-1)≠0 then (upE d (a+varU d a) ((r:Int)-1),0,[]) else
  cpG d k r was n (a+varU d a+varU d (a+varU d a)) (pos+(varV d a).toNat+1) (jgn L ((pos+(varV d a).toNat)*k) (jaY was k (varV d (a+varU d a)).toNat))
def cpsG (d:List Int) (a:Nat) (k r:Nat) (L:List CD):Int×Nat×List CD :=
 if jf6 d a≠0 then (jf6 d a,0,[]) else cpG d k r L (varV d a).toNat (a+varU d a) 0 L
def putL (L:List CD) (pos:Nat) (c w:Int) (p:PD):List CD :=
 if w=2 then (L.set pos ⟨c,1,p.fg,p.bg,p.attrs,p.link⟩).set (pos+1) ⟨0,2,p.fg,p.bg,p.attrs,p.link⟩ else L.set pos ⟨c,0,p.fg,p.bg,p.attrs,p.link⟩
def letG (d:List Int) (k:Nat) (p:PD):Nat→Nat→Nat→List CD→Int×Nat×Nat×List CD
 | 0,a,pos,L=>(0,a,pos,L)
 | n+1,a,pos,L=>if upE d a 1114111≠0 then (upE d a 1114111,0,0,[]) else
  if Utf.width (varV d a)=0∨pos=L.length∨(k:Int)<((pos % k:Nat):Int)+Utf.width (varV d a) then (3,0,0,[]) else
  letG d k p n (a+varU d a) (pos+(Utf.width (varV d a)).toNat) (putL L pos (varV d a) (Utf.width (varV d a)) p)
structure Hd where
 e:Int
 a:Nat
 pos:Nat
 n:Nat
 p:PD
def jez (e:Int):Hd:=⟨e,0,0,0,⟨0,0,0,0⟩⟩
def hdG (d:List Int) (a pos all nl:Nat):Hd :=
 if upE d a ((all:Int)-pos)≠0 then jez (upE d a ((all:Int)-pos)) else
 let a1:=a+varU d a
 let p1:=pos+(varV d a).toNat
 if upE d a1 ((all:Int)-p1)≠0 then jez (upE d a1 ((all:Int)-p1)) else
 if varV d a1=0 then jez 3 else
 let a2:=a1+varU d a1
 if colE d a2≠0 then jez (colE d a2) else
 let a3:=a2+varU d a2
 if colE d a3≠0 then jez (colE d a3) else
 let a4:=a3+varU d a3
 if upE d a4 255≠0 then jez (upE d a4 255) else
 let a5:=a4+varU d a4
 if upE d a5 nl≠0 then jez (upE d a5 nl) else
 ⟨0,a5+varU d a5,p1,(varV d a1).toNat,⟨varV d a2,varV d a3,varV d a4,varV d a5⟩⟩
def rnG (d:List Int) (k nl:Nat):Nat→Nat→Nat→List CD→Int×Nat×List CD
 | 0,a,_,L=>(0,a,L)
 | n+1,a,pos,L=>if (hdG d a pos L.length nl).e≠0 then ((hdG d a pos L.length nl).e,0,[]) else
  if (letG d k (hdG d a pos L.length nl).p (hdG d a pos L.length nl).n (hdG d a pos L.length nl).a (hdG d a pos L.length nl).pos L).1≠0 then ((letG d k (hdG d a pos L.length nl).p (hdG d a pos L.length nl).n (hdG d a pos L.length nl).a (hdG d a pos L.length nl).pos L).1,0,[]) else
  rnG d k nl n (letG d k (hdG d a pos L.length nl).p (hdG d a pos L.length nl).n (hdG d a pos L.length nl).a (hdG d a pos L.length nl).pos L).2.1 (letG d k (hdG d a pos L.length nl).p (hdG d a pos L.length nl).n (hdG d a pos L.length nl).a (hdG d a pos L.length nl).pos L).2.2.1 (letG d k (hdG d a pos L.length nl).p (hdG d a pos L.length nl).n (hdG d a pos L.length nl).a (hdG d a pos L.length nl).pos L).2.2.2
def rnsG (d:List Int) (a:Nat) (k nl:Nat) (L:List CD):Int×Nat×List CD :=
 if jf6 d a≠0 then (jf6 d a,0,[]) else rnG d k nl (varV d a).toNat (a+varU d a) 0 L
theorem jl8 {L:List CD}{o:Nat}{R:List CD}(h:o+R.length≤L.length):(jgn L o R).length=L.length:=by
 simp[jgn]
 omega
theorem jsg (L:List CD) (pos:Nat) (c w:Int) (p:PD):(putL L pos c w p).length=L.length:=by
 unfold putL
 split<;>simp
theorem jv1 {d:List Int}:∀(n a:Nat) (m:List ByteArray),a≤d.length→Bts d→(lnkG d n a m).2.1≤d.length∧((lnkG d n a m).1=0→(lnkG d n a m).2.2.length=m.length+n)
 | 0,a,m,h,_=>⟨h,fun _=>rfl⟩
 | n+1,a,m,h,hb=>by
  simp only[lnkG]
  split
  ·rename_i q
   exact⟨Nat.zero_le _,fun e=>absurd e q⟩
  ·rename_i q
   split
   ·exact⟨Nat.zero_le _,fun e=>by cases e⟩
   ·simp only[ne_eq,Classical.not_not]at q
    have hx:je3 d a 64=varU d a+(varV d a).toNat:=by simp[je3,q]
    have hu:=jbz h
    have hs:¬((d.length-(a+varU d a):Nat):Int)<varV d a:=by
     intro h1
     simp only[jd0]at q
     by_cases q1:varE d a=0
     ·by_cases q2:(64:Int)<varV d a
      ·simp[q1,q2]at q
      ·simp only[q1,q2,h1,ne_eq,not_true_eq_false,if_false,if_true]at q
       cases q
     ·simp[q1]at q
    have:=jv1 (d:=d) n (a+je3 d a 64) (m++[ja5 (je2 d a 64)]) (by omega) hb
    refine⟨this.1,fun e=>?_⟩
    rw[this.2 e]
    simp
    omega
theorem joR {d:List Int}(k:Nat) (p:PD):∀(n a pos:Nat) (L:List CD),a≤d.length→(letG d k p n a pos L).2.1≤d.length∧((letG d k p n a pos L).1=0→(letG d k p n a pos L).2.2.2.length=L.length)
 | 0,a,pos,L,h=>⟨h,fun _=>rfl⟩
 | n+1,a,pos,L,h=>by
  simp only[letG]
  split
  ·rename_i q
   exact⟨Nat.zero_le _,fun e=>absurd e q⟩
  ·split
   ·exact⟨Nat.zero_le _,fun e=>by cases e⟩
   ·have:=joR (d:=d) k p n (a+varU d a) (pos+(Utf.width (varV d a)).toNat) (putL L pos (varV d a) (Utf.width (varV d a)) p) (jbz h)
    rw[jsg]at this
    exact this
theorem jCb {d:List Int}{a pos all nl:Nat}(h:a≤d.length):(hdG d a pos all nl).a≤d.length:=by
 unfold hdG
 split
 ·exact Nat.zero_le _
 ·have h1:=jbz h
  simp only
  split
  ·exact Nat.zero_le _
  ·have h2:=jbz h1
   split
   ·exact Nat.zero_le _
   ·split
    ·exact Nat.zero_le _
    ·have h3:=jbz h2
     split
     ·exact Nat.zero_le _
     ·have h4:=jbz h3
      split
      ·exact Nat.zero_le _
      ·have h5:=jbz h4
       split
       ·exact Nat.zero_le _
       ·exact jbz h5
theorem jns {d:List Int}(k nl:Nat):∀(n a pos:Nat) (L:List CD),a≤d.length→(rnG d k nl n a pos L).2.1≤d.length∧((rnG d k nl n a pos L).1=0→(rnG d k nl n a pos L).2.2.length=L.length)
 | 0,a,pos,L,h=>⟨h,fun _=>rfl⟩
 | n+1,a,pos,L,h=>by
  simp only[rnG]
  split
  ·rename_i q
   exact⟨Nat.zero_le _,fun e=>absurd e q⟩
  ·split
   ·rename_i q
    exact⟨Nat.zero_le _,fun e=>absurd e q⟩
   ·rename_i q
    simp only[ne_eq,Classical.not_not]at q
    have h1:=joR (d:=d) k (hdG d a pos L.length nl).p (hdG d a pos L.length nl).n (hdG d a pos L.length nl).a (hdG d a pos L.length nl).pos L (jCb h)
    have h2:=jns (d:=d) k nl n _ (letG d k (hdG d a pos L.length nl).p (hdG d a pos L.length nl).n (hdG d a pos L.length nl).a (hdG d a pos L.length nl).pos L).2.2.1 (letG d k (hdG d a pos L.length nl).p (hdG d a pos L.length nl).n (hdG d a pos L.length nl).a (hdG d a pos L.length nl).pos L).2.2.2 h1.1
    refine⟨h2.1,fun e=>?_⟩
    rw[h2.2 e,h1.2 q]
theorem jnt {d:List Int}(k r:Nat) (was:List CD) (hw:was.length=k*r) (hb:Bts d):∀(n a pos:Nat) (L:List CD),a≤d.length→L.length=k*r→(cpG d k r was n a pos L).2.1≤d.length∧((cpG d k r was n a pos L).1=0→(cpG d k r was n a pos L).2.2.length=L.length)
 | 0,a,pos,L,h,_=>⟨h,fun _=>rfl⟩
 | n+1,a,pos,L,h,hL=>by
  simp only[cpG]
  split
  ·rename_i q
   exact⟨Nat.zero_le _,fun e=>absurd e q⟩
  ·rename_i q1
   split
   ·rename_i q
    exact⟨Nat.zero_le _,fun e=>absurd e q⟩
   ·rename_i q2
    simp only[ne_eq,Classical.not_not]at q1 q2
    have u1:=jcq q1
    have u2:=jcq q2
    have v1:=jaO hb a
    have v2:=jaO hb (a+varU d a)
    have hp:pos+(varV d a).toNat+1≤r:=by omega
    have hz:(varV d (a+varU d a)).toNat+1≤r:=by omega
    have hm:(pos+(varV d a).toNat)*k+k≤k*r:=by
     have:=Nat.mul_le_mul_right k hp
     rw[Nat.add_mul,Nat.one_mul,Nat.mul_comm r k]at this
     exact this
    have hm2:(varV d (a+varU d a)).toNat*k+k≤k*r:=by
     have:=Nat.mul_le_mul_right k hz
     rw[Nat.add_mul,Nat.one_mul,Nat.mul_comm r k]at this
     exact this
    have hr:(jaY was k (varV d (a+varU d a)).toNat).length=k:=by
     simp only[jaY,List.length_take,List.length_drop]
     omega
    have hl:(jgn L ((pos+(varV d a).toNat)*k) (jaY was k (varV d (a+varU d a)).toNat)).length=L.length:=jl8 (by omega)
    have:=jnt (d:=d) k r was hw hb n (a+varU d a+varU d (a+varU d a)) (pos+(varV d a).toNat+1) _ (jbz (jbz h)) (hl.trans hL)
    rw[hl]at this
    exact this
end
end Go.Proofs.YtcfkfgkndncanaaGreatDoor
