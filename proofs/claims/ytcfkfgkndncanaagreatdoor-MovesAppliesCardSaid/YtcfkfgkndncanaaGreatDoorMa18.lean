/- Texts of this claim, merged by a program of this claim: LinkM. -/
import Derived.Test.YtcfkfgkndncanaaGreatDoorMa17
namespace Go.Proofs.YtcfkfgkndncanaaGreatDoor
set_option linter.unusedVariables false
set_option linter.unusedSimpArgs false
section
open Go.RowKit
theorem jjQ {L:List CD}{i:Nat}{c:CD}(h:L[i]?=some c):cAt L i=c:=by simp[cAt,List.getD_eq_getElem?_getD,h]
def CD.withLink (c:CD) (v:Int):CD:=⟨c.rune,c.wide,c.fg,c.bg,c.attrs,v⟩
def jh2 (a b:ByteArray):Bool:=a.toList==b.toList
theorem jeu {a b:ByteArray}:jh2 a b=true↔a=b:=by
 unfold jh2
 rw[beq_iff_eq,ByteArray.toList_eq,ByteArray.toList_eq]
 constructor
 ·intro h
  obtain⟨x⟩:=a
  obtain⟨y⟩:=b
  simp only[Array.toList_inj]at h
  rw[h]
 ·intro h
  rw[h]
theorem jfI {a b:ByteArray}:jh2 a b=false↔a≠b:=by
 rw[←Bool.not_eq_true,jeu]
theorem jgF (a:ByteArray):jh2 a a=true:=jeu.2 rfl
def jbd:List ByteArray→ByteArray→Int
 | [],_=>-1
 | x::l,s=>if jh2 x s then 0 else let k:=jbd l s;if k<0 then -1 else k+1
theorem jgc:∀(l:List ByteArray) (s:ByteArray) (k:Nat),(∀(j:Nat) (x:ByteArray),j<k→l[j]?=some x→jh2 x s=false)→∀x,l[k]?=some x→jh2 x s=true→jbd l s=k
 | [],s,k,h,x,hx,hs=>by simp at hx
 | y::l,s,0,h,x,hx,hs=>by
  simp at hx
  subst hx
  simp[jbd,hs]
 | y::l,s,k+1,h,x,hx,hs=>by
  have h0:=h 0 y (by omega) rfl
  have ih:=jgc l s k (fun j x hj hx=>h (j+1) x (by omega) (by simpa using hx)) x (by simpa using hx) hs
  simp only[jbd,h0,ih]
  rw[if_neg (by simp),if_neg (by omega)]
  rfl
theorem jlb:∀(l:List ByteArray) (s:ByteArray),(∀(j:Nat) (x:ByteArray),l[j]?=some x→jh2 x s=false)→jbd l s = -1
 | [],s,h=>rfl
 | y::l,s,h=>by
  have h0:=h 0 y rfl
  have ih:=jlb l s (fun j x hx=>h (j+1) x (by simpa using hx))
  simp[jbd,h0,ih]
theorem jdm:∀(l:List ByteArray) (s:ByteArray),-1≤jbd l s∧jbd l s<l.length
 | [],s=>by simp[jbd]
 | y::l,s=>by
  have ih:=jdm l s
  simp only[jbd,List.length_cons]
  split
  ·omega
  ·split<;>omega
theorem jfj (l:List ByteArray) (s:ByteArray):0≤jbd l s↔s∈l:=by
 induction l with
 | nil=>simp[jbd]
 | cons y l ih =>
  simp only[jbd,List.mem_cons]
  cases h:jh2 y s
  ·have:s≠y:=fun e=>by rw[e,jgF]at h;cases h
   simp only[this,false_or,←ih]
   simp
   split<;>omega
  ·have:s=y:=(jeu.1 h).symm
   simp[this]
theorem jtj (l:List ByteArray) (s:ByteArray) (k:Nat) (h:jbd l s=k):l[k]?=some s:=by
 induction l generalizing k with
 | nil=>simp[jbd]at h
 | cons y l ih =>
  simp only[jbd]at h
  cases hs:jh2 y s
  ·simp only[hs]at h
   simp at h
   split at h
   ·omega
   ·obtain⟨m,rfl⟩:∃m,k=m+1:=⟨k-1,by omega⟩
    rw[List.getElem?_cons_succ]
    exact ih m (by omega)
  ·simp only[hs]at h
   simp at h
   obtain rfl:k=0:=by omega
   rw[jeu.1 hs]
   rfl
def jdn (s:ByteArray):Bool:=decide (1≤s.size)&&decide (s.size≤64)&&(List.range s.size).all (fun i=>decide (33≤(s.data.toList.getD i 0).toNat)&&decide ((s.data.toList.getD i 0).toNat≤126))
def sAt (l:List ByteArray) (i:Nat):ByteArray:=l.getD i ⟨#[]⟩
theorem jmA {l:List ByteArray}{i:Nat}{s:ByteArray}(h:l[i]?=some s):sAt l i=s:=by simp[sAt,List.getD_eq_getElem?_getD,h]
def jh3 (l:List ByteArray) (i:Nat):Bool:=jdn (sAt l i) && !decide (0≤jbd (l.take i) (sAt l i))
def jfJ (m:Nat):List CD→Option Int
 | L=>L.foldl (fun t c=>t.bind fun t=>if t+1<c.link∨(m:Int)<c.link then none else some (max t c.link)) (some 0)
theorem jdx (m:Nat) (L:List CD) (c:CD):jfJ m (L++[c])=(jfJ m L).bind fun t=>if t+1<c.link∨(m:Int)<c.link then none else some (max t c.link):=by simp[jfJ]
theorem jtk (m:Nat) (L M:List CD) (h:jfJ m L=none):jfJ m (L++M)=none:=by
 induction M generalizing L with
 | nil=>simpa using h
 | cons c M ih =>
  rw[show L++c::M=(L++[c])++M by simp]
  exact ih _ (by rw[jdx,h];rfl)
def jct (L:List CD) (l:List ByteArray):Bool:=decide (l.length≤16)&&(List.range l.length).all (jh3 l)&&decide (jfJ l.length L=some (l.length:Int))
theorem jbC {α:Type}{l:List α}{k:Nat}{x:α}(h:l[k]?=some x):l.take (k+1)=l.take k++[x]:=by
 rw[List.take_add_one,h]
 rfl
def emptyS:ByteArray:=⟨#[]⟩
def jbf (l:List ByteArray) (v:Int):ByteArray:=if v=0∨(l.length:Int)<v then emptyS else if jdn (sAt l (v-1).toNat) then sAt l (v-1).toNat else emptyS
theorem jh4 {s:ByteArray}(h:jdn s=true):s≠emptyS:=by
 rintro rfl
 have:jdn emptyS=false:=by decide
 rw[this]at h
 cases h
theorem isEmpty_iff (s:ByteArray):s.toList.isEmpty=true↔s=emptyS:=by
 rw[←jeu,List.isEmpty_iff]
 unfold jh2
 rw[beq_iff_eq]
 have:emptyS.toList=[]:=by rw[ByteArray.toList_eq];rfl
 rw[this]
theorem jfK {α:Type}{P:List α→Prop}(h0:P []) (hs:∀L c,P L→P (L++[c])) (L:List α):P L:=by
 have h:∀M:List α,P M.reverse:=fun M=>by
  induction M with
  | nil=>exact h0
  | cons c M ih=>rw[List.reverse_cons];exact hs _ _ ih
 have:=h L.reverse
 rwa [List.reverse_reverse]at this
def jcP (l acc:List ByteArray) (c:CD):List ByteArray:=if jbf l c.link≠emptyS∧jbd acc (jbf l c.link)<0 then acc++[jbf l c.link] else acc
def jal (l:List ByteArray) (L:List CD):List ByteArray:=L.foldl (jcP l) []
def jdt (l m:List ByteArray) (v:Int):Int:=if jbf l v=emptyS then 0 else jbd m (jbf l v)+1
def jbJ (l m:List ByteArray) (c:CD):CD:=c.withLink (jdt l m c.link)
theorem jbT (l:List ByteArray) (L:List CD) (c:CD):jal l (L++[c])=jcP l (jal l L) c:=by simp[jal]
theorem jtl (l acc:List ByteArray) (c:CD):acc <+: jcP l acc c:=by
 unfold jcP
 split
 ·exact List.prefix_append _ _
 ·exact List.prefix_rfl
theorem jiK (l:List ByteArray) (L M:List CD):jal l L <+: jal l (L++M):=by
 induction M using jfK with
 | h0=>rw[List.append_nil];exact List.prefix_rfl
 | hs M c ih =>
  rw[←List.append_assoc,jbT]
  exact ih.trans (jtl _ _ _)
theorem jiL {m:List ByteArray}{s:ByteArray}:jbd m s<0↔s ∉ m:=by
 rw[←jfj]
 have:=jdm m s
 omega
theorem jtm {l acc:List ByteArray}{c:CD}(h:jbf l c.link≠emptyS):jbf l c.link∈jcP l acc c:=by
 unfold jcP
 by_cases hp:jbd acc (jbf l c.link)<0
 ·rw[if_pos ⟨h,hp⟩]
  simp
 ·rw[if_neg (fun e=>hp e.2)]
  exact (jfj _ _).1 (by omega)
theorem jiM:∀{m m':List ByteArray}{s:ByteArray},m <+: m'→s∈m→jbd m' s=jbd m s
 | [],m',s,_,hs=>by cases hs
 | y::m,m',s,⟨t,ht⟩,hs=>by
  subst ht
  simp only[List.cons_append,jbd]
  cases he:jh2 y s
  ·have h2:s∈m:=by
    rcases List.mem_cons.1 hs with e|e
    ·rw[←e,jgF]at he;cases he
    ·exact e
   rw[jiM (List.prefix_append m t) h2]
  ·rfl
def jjR (l:List ByteArray):Prop:=∀(i:Nat) (s:ByteArray),l[i]?=some s→jbd l s=i
theorem jmB {m:List ByteArray}{s:ByteArray}(h:jjR m) (hs:jbd m s<0):jjR (m++[s]):=fun i x hx=>by
 rcases Nat.lt_or_ge i m.length with hi|hi
 ·rw[List.getElem?_append_left hi]at hx
  rw[jiM (List.prefix_append m [s]) (List.mem_of_getElem? hx)]
  exact h i x hx
 ·rw[List.getElem?_append_right hi]at hx
  have hi0:i-m.length=0:=by
   rcases Nat.eq_zero_or_pos (i-m.length)with e|e
   ·exact e
   ·rw[List.getElem?_eq_none (by simp;omega)]at hx
    cases hx
  rw[hi0]at hx
  simp at hx
  subst hx
  obtain rfl:i=m.length:=by omega
  refine jgc _ _ _ (fun j y hj hy=>?_) s (by simp) (jgF s)
  rw[List.getElem?_append_left hj]at hy
  rw[jfI]
  rintro rfl
  exact (jiL.1 hs) (List.mem_of_getElem? hy)
theorem jgd (l:List ByteArray) (L:List CD):jjR (jal l L):=by
 induction L using jfK with
 | h0=>intro i s h;simp[jal]at h
 | hs L c ih =>
  rw[jbT]
  unfold jcP
  split
  ·rename_i h
   exact jmB ih h.2
  ·exact ih
theorem jh5 {l:List ByteArray}{v:Int}(h:jbf l v≠emptyS):v≠0∧v≤l.length∧jdn (jbf l v)=true∧jbf l v=sAt l (v-1).toNat:=by
 by_cases h0:v=0∨(l.length:Int)<v
 ·exact absurd (by unfold jbf;rw[if_pos h0]) h
 ·cases hb:jdn (sAt l (v-1).toNat)
  ·exact absurd (by unfold jbf;rw[if_neg h0,hb];rfl) h
  ·have key:jbf l v=sAt l (v-1).toNat:=by unfold jbf;rw[if_neg h0,if_pos hb]
   exact⟨fun e=>h0 (.inl e),by omega,by rw[key];exact hb,key⟩
theorem jlc (l:List ByteArray) (L:List CD):∀s∈jal l L,jdn s=true:=by
 induction L using jfK with
 | h0=>intro s h;simp[jal]at h
 | hs L c ih =>
  rw[jbT]
  unfold jcP
  split
  ·rename_i h
   intro s hs
   rcases List.mem_append.1 hs with e|e
   ·exact ih s e
   ·rw[List.mem_singleton.1 e]
    exact (jh5 h.1).2.2.1
  ·exact ih
theorem jiN (l:List ByteArray) (L:List CD):(jal l L).length≤L.length:=by
 induction L using jfK with
 | h0=>simp[jal]
 | hs L c ih =>
  rw[jbT]
  unfold jcP
  split
  ·simp;omega
  ·simp;omega
theorem jtn {l m m':List ByteArray}{v:Int}(h:m <+: m') (hv:jbf l v≠emptyS→jbf l v∈m):jdt l m' v=jdt l m v:=by
 unfold jdt
 by_cases he:jbf l v=emptyS
 ·rw[if_pos he,if_pos he]
 ·rw[if_neg he,if_neg he,jiM h (hv he)]
theorem jvw (l m:List ByteArray) (v:Int):0≤jdt l m v∧jdt l m v≤m.length:=by
 unfold jdt
 have:=jdm m (jbf l v)
 split<;>omega
theorem jto {l:List ByteArray}{L:List CD}{t:Nat}{u:CD}(hu:L[t]?=some u) (h:jbf l u.link=emptyS):jal l (L.take (t+1))=jal l (L.take t)∧jbJ l (jal l L) u=u.withLink 0:=by
 rw[jbC hu,jbT]
 unfold jcP jbJ jdt
 rw[if_neg (fun e=>e.1 h),if_pos h]
 exact⟨rfl,rfl⟩
theorem jmC {l:List ByteArray}{L:List CD}{t:Nat}{u:CD}{s:ByteArray}(hu:L[t]?=some u) (h:jbf l u.link=s) (hs:s≠emptyS) :
  jbJ l (jal l L) u=u.withLink (jbd (jal l (L.take (t+1))) s+1):=by
 have hp:jal l (L.take (t+1)) <+: jal l L:=by
  have:=jiK l (L.take (t+1)) (L.drop (t+1))
  rwa [List.take_append_drop]at this
 have hm:jbf l u.link∈jal l (L.take (t+1)):=by
  rw[jbC hu,jbT]
  exact jtm (by rw[h];exact hs)
 unfold jbJ
 rw[jtn hp (fun _=>hm)]
 unfold jdt
 rw[if_neg (by rw[h];exact hs),h]
theorem jvx {l:List ByteArray}{L:List CD}{t:Nat}{u:CD}{s:ByteArray}(hu:L[t]?=some u) (h:jbf l u.link=s) (hs:s≠emptyS) (hp:¬jbd (jal l (L.take t)) s<0) :
  jal l (L.take (t+1))=jal l (L.take t)∧jbJ l (jal l L) u=u.withLink (jbd (jal l (L.take t)) s+1):=by
 have e:jal l (L.take (t+1))=jal l (L.take t):=by
  rw[jbC hu,jbT]
  unfold jcP
  rw[if_neg (fun e=>hp (by rw[←h];exact e.2))]
 exact⟨e,by rw[jmC hu h hs,e]⟩
theorem jvy {l:List ByteArray}{L:List CD}{t:Nat}{u:CD}{s:ByteArray}(hu:L[t]?=some u) (h:jbf l u.link=s) (hs:s≠emptyS) (hp:jbd (jal l (L.take t)) s<0) :
  jal l (L.take (t+1))=jal l (L.take t)++[s]∧jbJ l (jal l L) u=u.withLink (((jal l (L.take t)).length:Int)+1):=by
 have e:jal l (L.take (t+1))=jal l (L.take t)++[s]:=by
  rw[jbC hu,jbT]
  unfold jcP
  rw[if_pos ⟨by rw[h];exact hs,by rw[h];exact hp⟩,h]
 refine⟨e,?_⟩
 rw[jmC hu h hs,e,jmB (jgd l (L.take t)) hp (jal l (L.take t)).length s (by simp)]
def jhs (L:List CD) (l:List ByteArray):Bool:=decide (l.length≤16)&&(List.range L.length).all (fun i=>decide (jdt l (jal l L) (cAt L i).link=(cAt L i).link))&&decide (jal l L=l)
theorem jqR {l:List ByteArray}{i:Nat}{s:ByteArray}(h:l[i]?=some s) (hb:jdn s=true):jbf l ((i:Int)+1)=s:=by
 have hi:i<l.length:=(List.getElem?_eq_some_iff.1 h).1
 unfold jbf
 rw[if_neg (by omega),show ((i:Int)+1-1).toNat=i by omega,jmA h,if_pos hb]
theorem jh6 {l:List ByteArray}(h:jjR l){i t:Nat}{s:ByteArray}(hi:l[i]?=some s):s∈l.take t↔i<t:=by
 constructor
 ·intro hm
  obtain⟨j,hj⟩:=List.getElem?_of_mem hm
  have hjt:j<t:=by
   have:=(List.getElem?_eq_some_iff.1 hj).1
   simp at this
   omega
  rw[List.getElem?_take_of_lt hjt]at hj
  have h1:=h j s hj
  have h2:=h i s hi
  omega
 ·intro hlt
  refine List.mem_of_getElem? (i:=i) ?_
  rw[List.getElem?_take_of_lt hlt]
  exact hi
theorem jnG {m:Nat}{L:List CD}{t:Int}(h:jfJ m L=some t):∀c∈L,c.link≤m:=by
 induction L using jfK generalizing t with
 | h0=>intro c hc;cases hc
 | hs L c ih =>
  rw[jdx]at h
  cases ht:jfJ m L with
  | none=>rw[ht]at h;cases h
  | some t0 =>
   rw[ht]at h
   simp only[Option.bind_some]at h
   split at h
   ·cases h
   ·rename_i hn
    intro x hx
    rcases List.mem_append.1 hx with e|e
    ·exact ih ht x e
    ·rw[List.mem_singleton.1 e]
     omega
theorem jvz {l:List ByteArray}(hl:∀(i:Nat) (s:ByteArray),l[i]?=some s→jdn s=true) (ha:jjR l){M:List CD}{t:Int}(h0:∀q∈M,0≤q.link) (h:jfJ l.length M=some t) :
  0≤t∧t≤l.length∧jal l M=l.take t.toNat:=by
 induction M using jfK generalizing t with
 | h0 =>
  have e:t=0:=by
   have:jfJ l.length []=some 0:=rfl
   rw[this]at h
   exact (Option.some.inj h).symm
  subst e
  exact⟨by omega,by omega,rfl⟩
 | hs M c ih =>
  rw[jdx]at h
  cases ht:jfJ l.length M with
  | none=>rw[ht]at h;cases h
  | some t0 =>
   rw[ht]at h
   simp only[Option.bind_some]at h
   obtain⟨i1,i2,i3⟩:=ih (fun q hq=>h0 q (List.mem_append_left _ hq)) ht
   have hc:=h0 c (by simp)
   split at h
   ·cases h
   ·rename_i hn
    have ht1:t=max t0 c.link:=(Option.some.inj h).symm
    refine⟨by omega,by omega,?_⟩
    rw[jbT,i3]
    unfold jcP
    by_cases hz:c.link=0
    ·rw[if_neg (fun e=>(jh5 e.1).1 hz)]
     congr 1
     omega
    ·obtain⟨k,hk⟩:∃k:Nat,c.link=(k:Int)+1:=⟨(c.link-1).toNat,by omega⟩
     obtain⟨s,hs⟩:∃s,l[k]?=some s:=⟨_,List.getElem?_eq_getElem (by omega)⟩
     have hle:jbf l c.link=s:=by rw[hk];exact jqR hs (hl k s hs)
     have hne:s≠emptyS:=jh4 (hl k s hs)
     rw[hle]
     by_cases hlt:k<t0.toNat
     ·rw[if_neg (fun e=>(jiL.1 e.2) ((jh6 ha hs).2 hlt))]
      congr 1
      omega
     ·have hk2:k=t0.toNat:=by omega
      rw[if_pos ⟨hne,jiL.2 (fun e=>hlt ((jh6 ha hs).1 e))⟩,show t.toNat=k+1 by omega,jbC hs,hk2]
theorem jvA {l:List ByteArray}{L:List CD}(heq:jal l L=l) (hc:∀c∈L,jdt l l c.link=c.link):∀M N:List CD,L=M++N→jfJ l.length M=some ((jal l M).length:Int):=by
 have hl:∀(i:Nat) (s:ByteArray),l[i]?=some s→jdn s=true:=fun i s h=>jlc l L s (by rw[heq];exact List.mem_of_getElem? h)
 have ha:jjR l:=by have:=jgd l L;rwa [heq]at this
 intro M
 induction M using jfK with
 | h0=>intro N h;rfl
 | hs M c ih =>
  intro N h
  have i1:=ih (c::N) (by rw[h];simp)
  have hcc:=hc c (by rw[h];simp)
  have hp:jal l M <+: l:=by
   have:=jiK l M (c::N)
   rw[show M++c::N=L by rw[h];simp,heq]at this
   exact this
  have hp2:jal l (M++[c]) <+: l:=by
   have:=jiK l (M++[c]) N
   rw[←h,heq]at this
   exact this
  have hpl:=hp.length_le
  have htk:jal l M=l.take (jal l M).length:=List.prefix_iff_eq_take.1 hp
  rw[jdx,i1,Option.bind_some,jbT]
  rw[jbT]at hp2
  unfold jdt at hcc
  by_cases he:jbf l c.link=emptyS
  ·have e1:jcP l (jal l M) c=jal l M:=by unfold jcP;exact if_neg (fun e=>e.1 he)
   rw[if_pos he]at hcc
   rw[e1,if_neg (by omega)]
   congr 1
   omega
  ·rw[if_neg he]at hcc
   obtain⟨a1,a2,a3,a4⟩:=jh5 he
   have hlo:=jdm l (jbf l c.link)
   obtain⟨k,hk⟩:∃k:Nat,jbd l (jbf l c.link)=k:=⟨(jbd l (jbf l c.link)).toNat,by omega⟩
   have hs:=jtj l _ k hk
   by_cases hneg:jbd (jal l M) (jbf l c.link)<0
   ·have e1:jcP l (jal l M) c=jal l M++[jbf l c.link]:=by unfold jcP;exact if_pos ⟨he,hneg⟩
    rw[e1]at hp2 ⊢
    have h1:l[(jal l M).length]?=some (jbf l c.link):=by
     obtain⟨t,ht⟩:=hp2
     have h2:(jal l M++[jbf l c.link]++t)[(jal l M).length]?=some (jbf l c.link):=by simp
     rwa [ht]at h2
    have h2:=ha _ _ h1
    have hll:=(List.getElem?_eq_some_iff.1 h1).1
    rw[if_neg (by omega),List.length_append]
    congr 1
    simp
    omega
   ·have e1:jcP l (jal l M) c=jal l M:=by unfold jcP;exact if_neg (fun e=>hneg e.2)
    rw[e1]
    have hm:jbf l c.link∈jal l M:=(jfj _ _).1 (by omega)
    rw[htk]at hm
    have hlt:=(jh6 ha hs).1 hm
    rw[if_neg (by omega)]
    congr 1
    omega
theorem jx3 (L:List CD) (l:List ByteArray) (h0:∀q∈L,0≤q.link):jhs L l=jct L l:=by
 have mem_at:∀i,i<L.length→cAt L i∈L:=fun i hi=>by
  rw[jjQ (List.getElem?_eq_getElem hi)]
  exact List.getElem_mem hi
 rw[Bool.eq_iff_iff]
 unfold jhs jct
 simp only[Bool.and_eq_true,decide_eq_true_eq,List.all_eq_true,List.mem_range]
 constructor
 ·rintro⟨⟨h16,hc⟩,heq⟩
  have hl:∀(i:Nat) (s:ByteArray),l[i]?=some s→jdn s=true:=fun i s h=>jlc l L s (by rw[heq];exact List.mem_of_getElem? h)
  have ha:jjR l:=by have:=jgd l L;rwa [heq]at this
  refine⟨⟨h16,fun i hi=>?_⟩,?_⟩
  ·have hg:=List.getElem?_eq_getElem hi
   unfold jh3
   rw[jmA hg,hl i _ hg]
   simp only[Bool.true_and,Bool.not_eq_true',decide_eq_false_iff_not]
   rw[jfj,jh6 ha hg]
   omega
  ·have:=jvA heq (fun c hcm=>by
    obtain⟨i,hi⟩:=List.getElem?_of_mem hcm
    have:=hc i (List.getElem?_eq_some_iff.1 hi).1
    rw[heq,jjQ hi]at this
    exact this) L [] (by simp)
   rw[heq]at this
   exact this
 ·rintro⟨⟨h16,hall⟩,htop⟩
  have hl:∀(i:Nat) (s:ByteArray),l[i]?=some s→jdn s=true:=fun i s h=>by
   have:=hall i (List.getElem?_eq_some_iff.1 h).1
   unfold jh3 at this
   rw[jmA h]at this
   simp only[Bool.and_eq_true]at this
   exact this.1
  have ha:jjR l:=fun i s h=>by
   have hi:=(List.getElem?_eq_some_iff.1 h).1
   have:=hall i hi
   unfold jh3 at this
   rw[jmA h]at this
   simp only[Bool.and_eq_true,Bool.not_eq_true',decide_eq_false_iff_not]at this
   refine jgc l s i (fun j x hj hx=>?_) s h (jgF s)
   rw[jfI]
   rintro rfl
   refine this.2 ((jfj _ _).2 (List.mem_of_getElem? (i:=j) ?_))
   rw[List.getElem?_take_of_lt hj]
   exact hx
  obtain⟨_,_,hcan⟩:=jvz hl ha h0 htop
  have heq:jal l L=l:=by rw[hcan,Int.toNat_natCast,List.take_of_length_le (Nat.le_refl _)]
  refine⟨⟨h16,fun i hi=>?_⟩,heq⟩
  have hm:=mem_at i hi
  have h1:=h0 _ hm
  have h2:=jnG htop _ hm
  rw[heq]
  unfold jdt
  by_cases hz:(cAt L i).link=0
  ·rw[if_pos (by unfold jbf;rw[if_pos (.inl hz)]),hz]
  ·obtain⟨k,hk⟩:∃k:Nat,(cAt L i).link=(k:Int)+1:=⟨((cAt L i).link-1).toNat,by omega⟩
   obtain⟨s,hs⟩:∃s,l[k]?=some s:=⟨_,List.getElem?_eq_getElem (by omega)⟩
   have hle:jbf l (cAt L i).link=s:=by rw[hk];exact jqR hs (hl k s hs)
   rw[hle,if_neg (jh4 (hl k s hs)),ha k s hs,hk]
end
end Go.Proofs.YtcfkfgkndncanaaGreatDoor
