/- Texts of this claim, merged by a program of this claim: LinkM. -/
import Derived.Test.YtienkkicehmchaaGreatDoorDl12
namespace Go.Proofs.YtienkkicehmchaaGreatDoor
open List renaming prefix_append→qaa,prefix_rfl→qab,range→qac
set_option linter.unusedVariables false
set_option linter.unusedSimpArgs false
section
open Go.RowKit
theorem jcV {L:List CD}{i:Nat}{c:CD}(h:L[i]?=some c):cAt L i=c:=by simp[cAt,List.getD_eq_getElem?_getD,h]
def CD.withLink (c:CD) (v:Int):CD:=⟨c.rune,c.wide,c.fg,c.bg,c.attrs,v⟩
def jdp (a b:ByteArray):Bool:=a.toList==b.toList
theorem jaC {a b:ByteArray}:jdp a b=true↔a=b:=by
 unfold jdp
 rw[beq_iff_eq,ByteArray.toList_eq,ByteArray.toList_eq]
 constructor
 ·intro h
  obtain⟨x⟩:=a
  obtain⟨y⟩:=b
  simp only[Array.toList_inj]at h
  rw[h]
 ·intro h
  rw[h]
theorem jd2 {a b:ByteArray}:jdp a b=false↔a≠b:=by
 rw[←Bool.not_eq_true,jaC]
theorem je5 (a:ByteArray):jdp a a=true:=jaC.2 rfl
def jal:List ByteArray→ByteArray→Int
 | [],_=>-1
 | x::l,s=>if jdp x s then 0 else let k:=jal l s;if k<0 then -1 else k+1
theorem jeB:∀(l:List ByteArray) (s:ByteArray) (k:Nat),(∀(j:Nat) (x:ByteArray),j<k→l[j]?=some x→jdp x s=false)→∀x,l[k]?=some x→jdp x s=true→jal l s=k
 | [],s,k,h,x,hx,hs=>by simp at hx
 | y::l,s,0,h,x,hx,hs=>by
  simp at hx
  subst hx
  simp[jal,hs]
 | y::l,s,k+1,h,x,hx,hs=>by
  have h0:=h 0 y (by omega) rfl
  have ih:=jeB l s k (fun j x hj hx=>h (j+1) x (by omega) (by simpa using hx)) x (by simpa using hx) hs
  simp only[jal,h0,ih]
  rw[if_neg (by simp),if_neg (by omega)]
  rfl
theorem ji2:∀(l:List ByteArray) (s:ByteArray),(∀(j:Nat) (x:ByteArray),l[j]?=some x→jdp x s=false)→jal l s = -1
 | [],s,h=>rfl
 | y::l,s,h=>by
  have h0:=h 0 y rfl
  have ih:=ji2 l s (fun j x hx=>h (j+1) x (by simpa using hx))
  simp[jal,h0,ih]
theorem jbO:∀(l:List ByteArray) (s:ByteArray),-1≤jal l s∧jal l s<l.length
 | [],s=>by simp[jal]
 | y::l,s=>by
  have ih:=jbO l s
  simp only[jal,List.length_cons]
  split
  ·omega
  ·split<;>omega
theorem jdF (l:List ByteArray) (s:ByteArray):0≤jal l s↔s∈l:=by
 induction l with
 | nil=>simp[jal]
 | cons y l ih =>
  simp only[jal,List.mem_cons]
  cases h:jdp y s
  ·have:s≠y:=fun e=>by rw[e,je5]at h;cases h
   simp only[this,false_or,←ih]
   simp
   split<;>omega
  ·have:s=y:=(jaC.1 h).symm
   simp[this]
theorem jqi (l:List ByteArray) (s:ByteArray) (k:Nat) (h:jal l s=k):l[k]?=some s:=by
 induction l generalizing k with
 | nil=>simp[jal]at h
 | cons y l ih =>
  simp only[jal]at h
  cases hs:jdp y s
  ·simp only[hs]at h
   simp at h
   split at h
   ·omega
   ·obtain⟨m,rfl⟩:∃m,k=m+1:=⟨k-1,by omega⟩
    rw[List.getElem?_cons_succ]
    exact ih m (by omega)
  ·simp only[hs]at h
   simp at h
   obtain rfl:k=0:=by omega
   rw[jaC.1 hs]
   rfl
def jcs (s:ByteArray):Bool:=decide (1≤s.size)&&decide (s.size≤64)&&(qac s.size).all (fun i=>decide (33≤(s.data.toList.getD i 0).toNat)&&decide ((s.data.toList.getD i 0).toNat≤126))
def sAt (l:List ByteArray) (i:Nat):ByteArray:=l.getD i ⟨#[]⟩
theorem jkj {l:List ByteArray}{i:Nat}{s:ByteArray}(h:l[i]?=some s):sAt l i=s:=by simp[sAt,List.getD_eq_getElem?_getD,h]
def jgk (l:List ByteArray) (i:Nat):Bool:=jcs (sAt l i) && !decide (0≤jal (l.take i) (sAt l i))
def jd3 (m:Nat):List CD→Option Int
 | L=>L.foldl (fun t c=>t.bind fun t=>if t+1<c.link∨(m:Int)<c.link then none else some (max t c.link)) (some 0)
theorem jb4 (m:Nat) (L:List CD) (c:CD):jd3 m (L++[c])=(jd3 m L).bind fun t=>if t+1<c.link∨(m:Int)<c.link then none else some (max t c.link):=by simp[jd3]
theorem jqj (m:Nat) (L M:List CD) (h:jd3 m L=none):jd3 m (L++M)=none:=by
 induction M generalizing L with
 | nil=>simpa using h
 | cons c M ih =>
  rw[show L++c::M=(L++[c])++M by simp]
  exact ih _ (by rw[jb4,h];rfl)
def jb1 (L:List CD) (l:List ByteArray):Bool:=decide (l.length≤16)&&(qac l.length).all (jgk l)&&decide (jd3 l.length L=some (l.length:Int))
theorem jar {α:Type}{l:List α}{k:Nat}{x:α}(h:l[k]?=some x):l.take (k+1)=l.take k++[x]:=by
 rw[List.take_add_one,h]
 rfl
def emptyS:ByteArray:=⟨#[]⟩
def jam (l:List ByteArray) (v:Int):ByteArray:=if v=0∨(l.length:Int)<v then emptyS else if jcs (sAt l (v-1).toNat) then sAt l (v-1).toNat else emptyS
theorem jgl {s:ByteArray}(h:jcs s=true):s≠emptyS:=by
 rintro rfl
 have:jcs emptyS=false:=by decide
 rw[this]at h
 cases h
theorem jd4 {α:Type}{P:List α→Prop}(h0:P []) (hs:∀L c,P L→P (L++[c])) (L:List α):P L:=by
 have h:∀M:List α,P M.reverse:=fun M=>by
  induction M with
  | nil=>exact h0
  | cons c M ih=>rw[List.reverse_cons];exact hs _ _ ih
 have:=h L.reverse
 rwa [List.reverse_reverse]at this
def jbf (l acc:List ByteArray) (c:CD):List ByteArray:=if jam l c.link≠emptyS∧jal acc (jam l c.link)<0 then acc++[jam l c.link] else acc
def jac (l:List ByteArray) (L:List CD):List ByteArray:=L.foldl (jbf l) []
def jb2 (l m:List ByteArray) (v:Int):Int:=if jam l v=emptyS then 0 else jal m (jam l v)+1
def jaF (l m:List ByteArray) (c:CD):CD:=c.withLink (jb2 l m c.link)
theorem jaK (l:List ByteArray) (L:List CD) (c:CD):jac l (L++[c])=jbf l (jac l L) c:=by simp[jac]
theorem jqk (l acc:List ByteArray) (c:CD):acc <+: jbf l acc c:=by
 unfold jbf
 split
 ·exact qaa _ _
 ·exact qab
theorem jgZ (l:List ByteArray) (L M:List CD):jac l L <+: jac l (L++M):=by
 induction M using jd4 with
 | h0=>rw[List.append_nil];exact qab
 | hs M c ih =>
  rw[←List.append_assoc,jaK]
  exact ih.trans (jqk _ _ _)
theorem jg0 {m:List ByteArray}{s:ByteArray}:jal m s<0↔s ∉ m:=by
 rw[←jdF]
 have:=jbO m s
 omega
theorem jql {l acc:List ByteArray}{c:CD}(h:jam l c.link≠emptyS):jam l c.link∈jbf l acc c:=by
 unfold jbf
 by_cases hp:jal acc (jam l c.link)<0
 ·rw[if_pos ⟨h,hp⟩]
  simp
 ·rw[if_neg (fun e=>hp e.2)]
  exact (jdF _ _).1 (by omega)
theorem jg1:∀{m m':List ByteArray}{s:ByteArray},m <+: m'→s∈m→jal m' s=jal m s
 | [],m',s,_,hs=>by cases hs
 | y::m,m',s,⟨t,ht⟩,hs=>by
  subst ht
  simp only[List.cons_append,jal]
  cases he:jdp y s
  ·have h2:s∈m:=by
    rcases List.mem_cons.1 hs with e|e
    ·rw[←e,je5]at he;cases he
    ·exact e
   rw[jg1 (qaa m t) h2]
  ·rfl
def jhB (l:List ByteArray):Prop:=∀(i:Nat) (s:ByteArray),l[i]?=some s→jal l s=i
theorem jkk {m:List ByteArray}{s:ByteArray}(h:jhB m) (hs:jal m s<0):jhB (m++[s]):=fun i x hx=>by
 rcases Nat.lt_or_ge i m.length with hi|hi
 ·rw[List.getElem?_append_left hi]at hx
  rw[jg1 (qaa m [s]) (List.mem_of_getElem? hx)]
  exact h i x hx
 ·rw[List.getElem?_append_right hi]at hx
  have hi0:i-m.length=0:=by
   rcases Nat.eq_zero_or_pos (i-m.length)with e|e
   ·exact e
   ·rw[List.getElem?_eq_none (by simp;omega)]at hx
    cases hx
  rw[hi0]at hx
  simp at hx
  subst hx
  obtain rfl:i=m.length:=by omega
  refine jeB _ _ _ (fun j y hj hy=>?_) s (by simp) (je5 s)
  rw[List.getElem?_append_left hj]at hy
  rw[jd2]
  rintro rfl
  exact (jg0.1 hs) (List.mem_of_getElem? hy)
theorem jeC (l:List ByteArray) (L:List CD):jhB (jac l L):=by
 induction L using jd4 with
 | h0=>intro i s h;simp[jac]at h
 | hs L c ih =>
  rw[jaK]
  unfold jbf
  split
  ·rename_i h
   exact jkk ih h.2
  ·exact ih
theorem jgm {l:List ByteArray}{v:Int}(h:jam l v≠emptyS):v≠0∧v≤l.length∧jcs (jam l v)=true∧jam l v=sAt l (v-1).toNat:=by
 by_cases h0:v=0∨(l.length:Int)<v
 ·exact absurd (by unfold jam;rw[if_pos h0]) h
 ·cases hb:jcs (sAt l (v-1).toNat)
  ·exact absurd (by unfold jam;rw[if_neg h0,hb];rfl) h
  ·have key:jam l v=sAt l (v-1).toNat:=by unfold jam;rw[if_neg h0,if_pos hb]
   exact⟨fun e=>h0 (.inl e),by omega,by rw[key];exact hb,key⟩
theorem ji3 (l:List ByteArray) (L:List CD):∀s∈jac l L,jcs s=true:=by
 induction L using jd4 with
 | h0=>intro s h;simp[jac]at h
 | hs L c ih =>
  rw[jaK]
  unfold jbf
  split
  ·rename_i h
   intro s hs
   rcases List.mem_append.1 hs with e|e
   ·exact ih s e
   ·rw[List.mem_singleton.1 e]
    exact (jgm h.1).2.2.1
  ·exact ih
theorem jg2 (l:List ByteArray) (L:List CD):(jac l L).length≤L.length:=by
 induction L using jd4 with
 | h0=>simp[jac]
 | hs L c ih =>
  rw[jaK]
  unfold jbf
  split
  ·simp;omega
  ·simp;omega
theorem jqm {l m m':List ByteArray}{v:Int}(h:m <+: m') (hv:jam l v≠emptyS→jam l v∈m):jb2 l m' v=jb2 l m v:=by
 unfold jb2
 by_cases he:jam l v=emptyS
 ·rw[if_pos he,if_pos he]
 ·rw[if_neg he,if_neg he,jg1 h (hv he)]
theorem jr5 (l m:List ByteArray) (v:Int):0≤jb2 l m v∧jb2 l m v≤m.length:=by
 unfold jb2
 have:=jbO m (jam l v)
 split<;>omega
theorem jqn {l:List ByteArray}{L:List CD}{t:Nat}{u:CD}(hu:L[t]?=some u) (h:jam l u.link=emptyS):jac l (L.take (t+1))=jac l (L.take t)∧jaF l (jac l L) u=u.withLink 0:=by
 rw[jar hu,jaK]
 unfold jbf jaF jb2
 rw[if_neg (fun e=>e.1 h),if_pos h]
 exact⟨rfl,rfl⟩
theorem jkl {l:List ByteArray}{L:List CD}{t:Nat}{u:CD}{s:ByteArray}(hu:L[t]?=some u) (h:jam l u.link=s) (hs:s≠emptyS) :
  jaF l (jac l L) u=u.withLink (jal (jac l (L.take (t+1))) s+1):=by
 have hp:jac l (L.take (t+1)) <+: jac l L:=by
  have:=jgZ l (L.take (t+1)) (L.drop (t+1))
  rwa [List.take_append_drop]at this
 have hm:jam l u.link∈jac l (L.take (t+1)):=by
  rw[jar hu,jaK]
  exact jql (by rw[h];exact hs)
 unfold jaF
 rw[jqm hp (fun _=>hm)]
 unfold jb2
 rw[if_neg (by rw[h];exact hs),h]
theorem jr6 {l:List ByteArray}{L:List CD}{t:Nat}{u:CD}{s:ByteArray}(hu:L[t]?=some u) (h:jam l u.link=s) (hs:s≠emptyS) (hp:¬jal (jac l (L.take t)) s<0) :
  jac l (L.take (t+1))=jac l (L.take t)∧jaF l (jac l L) u=u.withLink (jal (jac l (L.take t)) s+1):=by
 have e:jac l (L.take (t+1))=jac l (L.take t):=by
  rw[jar hu,jaK]
  unfold jbf
  rw[if_neg (fun e=>hp (by rw[←h];exact e.2))]
 exact⟨e,by rw[jkl hu h hs,e]⟩
theorem jr7 {l:List ByteArray}{L:List CD}{t:Nat}{u:CD}{s:ByteArray}(hu:L[t]?=some u) (h:jam l u.link=s) (hs:s≠emptyS) (hp:jal (jac l (L.take t)) s<0) :
  jac l (L.take (t+1))=jac l (L.take t)++[s]∧jaF l (jac l L) u=u.withLink (((jac l (L.take t)).length:Int)+1):=by
 have e:jac l (L.take (t+1))=jac l (L.take t)++[s]:=by
  rw[jar hu,jaK]
  unfold jbf
  rw[if_pos ⟨by rw[h];exact hs,by rw[h];exact hp⟩,h]
 refine⟨e,?_⟩
 rw[jkl hu h hs,e,jkk (jeC l (L.take t)) hp (jac l (L.take t)).length s (by simp)]
def jfJ (L:List CD) (l:List ByteArray):Bool:=decide (l.length≤16)&&(qac L.length).all (fun i=>decide (jb2 l (jac l L) (cAt L i).link=(cAt L i).link))&&decide (jac l L=l)
theorem jnV {l:List ByteArray}{i:Nat}{s:ByteArray}(h:l[i]?=some s) (hb:jcs s=true):jam l ((i:Int)+1)=s:=by
 have hi:i<l.length:=(List.getElem?_eq_some_iff.1 h).1
 unfold jam
 rw[if_neg (by omega),show ((i:Int)+1-1).toNat=i by omega,jkj h,if_pos hb]
theorem jgn {l:List ByteArray}(h:jhB l){i t:Nat}{s:ByteArray}(hi:l[i]?=some s):s∈l.take t↔i<t:=by
 constructor
 ·intro hm
  obtain⟨j,hj⟩:=List.getElem?_of_mem hm
  have hjt:j<t:=by
   have:=(List.getElem?_eq_some_iff.1 hj).1
   simp at this
   omega
  rw[List.getElem?_take_of_lt hjt]at hj
  have h1:=h j s hj
  have h2:=h i s hi
  omega
 ·intro hlt
  refine List.mem_of_getElem? (i:=i) ?_
  rw[List.getElem?_take_of_lt hlt]
  exact hi
theorem jlr {m:Nat}{L:List CD}{t:Int}(h:jd3 m L=some t):∀c∈L,c.link≤m:=by
 induction L using jd4 generalizing t with
 | h0=>intro c hc;cases hc
 | hs L c ih =>
  rw[jb4]at h
  cases ht:jd3 m L with
  | none=>rw[ht]at h;cases h
  | some t0 =>
   rw[ht]at h
   simp only[Option.bind_some]at h
   split at h
   ·cases h
   ·rename_i hn
    intro x hx
    rcases List.mem_append.1 hx with e|e
    ·exact ih ht x e
    ·rw[List.mem_singleton.1 e]
     omega
theorem jr8 {l:List ByteArray}(hl:∀(i:Nat) (s:ByteArray),l[i]?=some s→jcs s=true) (ha:jhB l){M:List CD}{t:Int}(h0:∀q∈M,0≤q.link) (h:jd3 l.length M=some t) :
  0≤t∧t≤l.length∧jac l M=l.take t.toNat:=by
 induction M using jd4 generalizing t with
 | h0 =>
  have e:t=0:=by
   have:jd3 l.length []=some 0:=rfl
   rw[this]at h
   exact (Option.some.inj h).symm
  subst e
  exact⟨by omega,by omega,rfl⟩
 | hs M c ih =>
  rw[jb4]at h
  cases ht:jd3 l.length M with
  | none=>rw[ht]at h;cases h
  | some t0 =>
   rw[ht]at h
   simp only[Option.bind_some]at h
   obtain⟨i1,i2,i3⟩:=ih (fun q hq=>h0 q (List.mem_append_left _ hq)) ht
   have hc:=h0 c (by simp)
   split at h
   ·cases h
   ·rename_i hn
    have ht1:t=max t0 c.link:=(Option.some.inj h).symm
    refine⟨by omega,by omega,?_⟩
    rw[jaK,i3]
    unfold jbf
    by_cases hz:c.link=0
    ·rw[if_neg (fun e=>(jgm e.1).1 hz)]
     congr 1
     omega
    ·obtain⟨k,hk⟩:∃k:Nat,c.link=(k:Int)+1:=⟨(c.link-1).toNat,by omega⟩
     obtain⟨s,hs⟩:∃s,l[k]?=some s:=⟨_,List.getElem?_eq_getElem (by omega)⟩
     have hle:jam l c.link=s:=by rw[hk];exact jnV hs (hl k s hs)
     have hne:s≠emptyS:=jgl (hl k s hs)
     rw[hle]
     by_cases hlt:k<t0.toNat
     ·rw[if_neg (fun e=>(jg0.1 e.2) ((jgn ha hs).2 hlt))]
      congr 1
      omega
     ·have hk2:k=t0.toNat:=by omega
      rw[if_pos ⟨hne,jg0.2 (fun e=>hlt ((jgn ha hs).1 e))⟩,show t.toNat=k+1 by omega,jar hs,hk2]
theorem jr9 {l:List ByteArray}{L:List CD}(heq:jac l L=l) (hc:∀c∈L,jb2 l l c.link=c.link):∀M N:List CD,L=M++N→jd3 l.length M=some ((jac l M).length:Int):=by
 have hl:∀(i:Nat) (s:ByteArray),l[i]?=some s→jcs s=true:=fun i s h=>ji3 l L s (by rw[heq];exact List.mem_of_getElem? h)
 have ha:jhB l:=by have:=jeC l L;rwa [heq]at this
 intro M
 induction M using jd4 with
 | h0=>intro N h;rfl
 | hs M c ih =>
  intro N h
  have i1:=ih (c::N) (by rw[h];simp)
  have hcc:=hc c (by rw[h];simp)
  have hp:jac l M <+: l:=by
   have:=jgZ l M (c::N)
   rw[show M++c::N=L by rw[h];simp,heq]at this
   exact this
  have hp2:jac l (M++[c]) <+: l:=by
   have:=jgZ l (M++[c]) N
   rw[←h,heq]at this
   exact this
  have hpl:=hp.length_le
  have htk:jac l M=l.take (jac l M).length:=List.prefix_iff_eq_take.1 hp
  rw[jb4,i1,Option.bind_some,jaK]
  rw[jaK]at hp2
  unfold jb2 at hcc
  by_cases he:jam l c.link=emptyS
  ·have e1:jbf l (jac l M) c=jac l M:=by unfold jbf;exact if_neg (fun e=>e.1 he)
   rw[if_pos he]at hcc
   rw[e1,if_neg (by omega)]
   congr 1
   omega
  ·rw[if_neg he]at hcc
   obtain⟨a1,a2,a3,a4⟩:=jgm he
   have hlo:=jbO l (jam l c.link)
   obtain⟨k,hk⟩:∃k:Nat,jal l (jam l c.link)=k:=⟨(jal l (jam l c.link)).toNat,by omega⟩
   have hs:=jqi l _ k hk
   by_cases hneg:jal (jac l M) (jam l c.link)<0
   ·have e1:jbf l (jac l M) c=jac l M++[jam l c.link]:=by unfold jbf;exact if_pos ⟨he,hneg⟩
    rw[e1]at hp2 ⊢
    have h1:l[(jac l M).length]?=some (jam l c.link):=by
     obtain⟨t,ht⟩:=hp2
     have h2:(jac l M++[jam l c.link]++t)[(jac l M).length]?=some (jam l c.link):=by simp
     rwa [ht]at h2
    have h2:=ha _ _ h1
    have hll:=(List.getElem?_eq_some_iff.1 h1).1
    rw[if_neg (by omega),List.length_append]
    congr 1
    simp
    omega
   ·have e1:jbf l (jac l M) c=jac l M:=by unfold jbf;exact if_neg (fun e=>hneg e.2)
    rw[e1]
    have hm:jam l c.link∈jac l M:=(jdF _ _).1 (by omega)
    rw[htk]at hm
    have hlt:=(jgn ha hs).1 hm
    rw[if_neg (by omega)]
    congr 1
    omega
theorem juE (L:List CD) (l:List ByteArray) (h0:∀q∈L,0≤q.link):jfJ L l=jb1 L l:=by
 have mem_at:∀i,i<L.length→cAt L i∈L:=fun i hi=>by
  rw[jcV (List.getElem?_eq_getElem hi)]
  exact List.getElem_mem hi
 rw[Bool.eq_iff_iff]
 unfold jfJ jb1
 simp only[Bool.and_eq_true,decide_eq_true_eq,List.all_eq_true,List.mem_range]
 constructor
 ·rintro⟨⟨h16,hc⟩,heq⟩
  have hl:∀(i:Nat) (s:ByteArray),l[i]?=some s→jcs s=true:=fun i s h=>ji3 l L s (by rw[heq];exact List.mem_of_getElem? h)
  have ha:jhB l:=by have:=jeC l L;rwa [heq]at this
  refine⟨⟨h16,fun i hi=>?_⟩,?_⟩
  ·have hg:=List.getElem?_eq_getElem hi
   unfold jgk
   rw[jkj hg,hl i _ hg]
   simp only[Bool.true_and,Bool.not_eq_true',decide_eq_false_iff_not]
   rw[jdF,jgn ha hg]
   omega
  ·have:=jr9 heq (fun c hcm=>by
    obtain⟨i,hi⟩:=List.getElem?_of_mem hcm
    have:=hc i (List.getElem?_eq_some_iff.1 hi).1
    rw[heq,jcV hi]at this
    exact this) L [] (by simp)
   rw[heq]at this
   exact this
 ·rintro⟨⟨h16,hall⟩,htop⟩
  have hl:∀(i:Nat) (s:ByteArray),l[i]?=some s→jcs s=true:=fun i s h=>by
   have:=hall i (List.getElem?_eq_some_iff.1 h).1
   unfold jgk at this
   rw[jkj h]at this
   simp only[Bool.and_eq_true]at this
   exact this.1
  have ha:jhB l:=fun i s h=>by
   have hi:=(List.getElem?_eq_some_iff.1 h).1
   have:=hall i hi
   unfold jgk at this
   rw[jkj h]at this
   simp only[Bool.and_eq_true,Bool.not_eq_true',decide_eq_false_iff_not]at this
   refine jeB l s i (fun j x hj hx=>?_) s h (je5 s)
   rw[jd2]
   rintro rfl
   refine this.2 ((jdF _ _).2 (List.mem_of_getElem? (i:=j) ?_))
   rw[List.getElem?_take_of_lt hj]
   exact hx
  obtain⟨_,_,hcan⟩:=jr8 hl ha h0 htop
  have heq:jac l L=l:=by rw[hcan,Int.toNat_natCast,List.take_of_length_le (Nat.le_refl _)]
  refine⟨⟨h16,fun i hi=>?_⟩,heq⟩
  have hm:=mem_at i hi
  have h1:=h0 _ hm
  have h2:=jlr htop _ hm
  rw[heq]
  unfold jb2
  by_cases hz:(cAt L i).link=0
  ·rw[if_pos (by unfold jam;rw[if_pos (.inl hz)]),hz]
  ·obtain⟨k,hk⟩:∃k:Nat,(cAt L i).link=(k:Int)+1:=⟨((cAt L i).link-1).toNat,by omega⟩
   obtain⟨s,hs⟩:∃s,l[k]?=some s:=⟨_,List.getElem?_eq_getElem (by omega)⟩
   have hle:jam l (cAt L i).link=s:=by rw[hk];exact jnV hs (hl k s hs)
   rw[hle,if_neg (jgl (hl k s hs)),ha k s hs,hk]
end
end Go.Proofs.YtienkkicehmchaaGreatDoor
