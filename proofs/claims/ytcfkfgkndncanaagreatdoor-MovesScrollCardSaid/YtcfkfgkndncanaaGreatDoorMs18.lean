/- Texts of this claim, merged by a program of this claim: LinkM. -/
import Derived.Test.YtcfkfgkndncanaaGreatDoorMs17
namespace Go.Proofs.YtcfkfgkndncanaaGreatDoor
set_option linter.unusedVariables false
set_option linter.unusedSimpArgs false
section
open Go.RowKit
theorem jgV {L:List CD}{i:Nat}{c:CD}(h:L[i]?=some c):cAt L i=c:=by simp[cAt,List.getD_eq_getElem?_getD,h]
def CD.withLink (c:CD) (v:Int):CD:=⟨c.rune,c.wide,c.fg,c.bg,c.attrs,v⟩
def jhg (a b:ByteArray):Bool:=a.toList==b.toList
theorem jcT {a b:ByteArray}:jhg a b=true↔a=b:=by
 unfold jhg
 rw[beq_iff_eq,ByteArray.toList_eq,ByteArray.toList_eq]
 constructor
 ·intro h
  obtain⟨x⟩:=a
  obtain⟨y⟩:=b
  simp only[Array.toList_inj]at h
  rw[h]
 ·intro h
  rw[h]
theorem jex {a b:ByteArray}:jhg a b=false↔a≠b:=by
 rw[←Bool.not_eq_true,jcT]
theorem jeh (a:ByteArray):jhg a a=true:=jcT.2 rfl
def jaS:List ByteArray→ByteArray→Int
 | [],_=>-1
 | x::l,s=>if jhg x s then 0 else let k:=jaS l s;if k<0 then -1 else k+1
theorem jfl:∀(l:List ByteArray) (s:ByteArray) (k:Nat),(∀(j:Nat) (x:ByteArray),j<k→l[j]?=some x→jhg x s=false)→∀x,l[k]?=some x→jhg x s=true→jaS l s=k
 | [],s,k,h,x,hx,hs=>by simp at hx
 | y::l,s,0,h,x,hx,hs=>by
  simp at hx
  subst hx
  simp[jaS,hs]
 | y::l,s,k+1,h,x,hx,hs=>by
  have h0:=h 0 y (by omega) rfl
  have ih:=jfl l s k (fun j x hj hx=>h (j+1) x (by omega) (by simpa using hx)) x (by simpa using hx) hs
  simp only[jaS,h0,ih]
  rw[if_neg (by simp),if_neg (by omega)]
  rfl
theorem jkB:∀(l:List ByteArray) (s:ByteArray),(∀(j:Nat) (x:ByteArray),l[j]?=some x→jhg x s=false)→jaS l s = -1
 | [],s,h=>rfl
 | y::l,s,h=>by
  have h0:=h 0 y rfl
  have ih:=jkB l s (fun j x hx=>h (j+1) x (by simpa using hx))
  simp[jaS,h0,ih]
theorem jdS:∀(l:List ByteArray) (s:ByteArray),-1≤jaS l s∧jaS l s<l.length
 | [],s=>by simp[jaS]
 | y::l,s=>by
  have ih:=jdS l s
  simp only[jaS,List.length_cons]
  split
  ·omega
  ·split<;>omega
theorem jei (l:List ByteArray) (s:ByteArray):0≤jaS l s↔s∈l:=by
 induction l with
 | nil=>simp[jaS]
 | cons y l ih =>
  simp only[jaS,List.mem_cons]
  cases h:jhg y s
  ·have:s≠y:=fun e=>by rw[e,jeh]at h;cases h
   simp only[this,false_or,←ih]
   simp
   split<;>omega
  ·have:s=y:=(jcT.1 h).symm
   simp[this]
theorem jth (l:List ByteArray) (s:ByteArray) (k:Nat) (h:jaS l s=k):l[k]?=some s:=by
 induction l generalizing k with
 | nil=>simp[jaS]at h
 | cons y l ih =>
  simp only[jaS]at h
  cases hs:jhg y s
  ·simp only[hs]at h
   simp at h
   split at h
   ·omega
   ·obtain⟨m,rfl⟩:∃m,k=m+1:=⟨k-1,by omega⟩
    rw[List.getElem?_cons_succ]
    exact ih m (by omega)
  ·simp only[hs]at h
   simp at h
   obtain rfl:k=0:=by omega
   rw[jcT.1 hs]
   rfl
def jdg (s:ByteArray):Bool:=decide (1≤s.size)&&decide (s.size≤64)&&(List.range s.size).all (fun i=>decide (33≤(s.data.toList.getD i 0).toNat)&&decide ((s.data.toList.getD i 0).toNat≤126))
def sAt (l:List ByteArray) (i:Nat):ByteArray:=l.getD i ⟨#[]⟩
theorem jkC {l:List ByteArray}{i:Nat}{s:ByteArray}(h:l[i]?=some s):sAt l i=s:=by simp[sAt,List.getD_eq_getElem?_getD,h]
def jgW (l:List ByteArray) (i:Nat):Bool:=jdg (sAt l i) && !decide (0≤jaS (l.take i) (sAt l i))
def jey (m:Nat):List CD→Option Int
 | L=>L.foldl (fun t c=>t.bind fun t=>if t+1<c.link∨(m:Int)<c.link then none else some (max t c.link)) (some 0)
theorem jcK (m:Nat) (L:List CD) (c:CD):jey m (L++[c])=(jey m L).bind fun t=>if t+1<c.link∨(m:Int)<c.link then none else some (max t c.link):=by simp[jey]
theorem jti (m:Nat) (L M:List CD) (h:jey m L=none):jey m (L++M)=none:=by
 induction M generalizing L with
 | nil=>simpa using h
 | cons c M ih =>
  rw[show L++c::M=(L++[c])++M by simp]
  exact ih _ (by rw[jcK,h];rfl)
def jb8 (L:List CD) (l:List ByteArray):Bool:=decide (l.length≤16)&&(List.range l.length).all (jgW l)&&decide (jey l.length L=some (l.length:Int))
theorem jaW {α:Type}{l:List α}{k:Nat}{x:α}(h:l[k]?=some x):l.take (k+1)=l.take k++[x]:=by
 rw[List.take_add_one,h]
 rfl
def emptyS:ByteArray:=⟨#[]⟩
def ja2 (l:List ByteArray) (v:Int):ByteArray:=if v=0∨(l.length:Int)<v then emptyS else if jdg (sAt l (v-1).toNat) then sAt l (v-1).toNat else emptyS
theorem jjB {s:ByteArray}(h:jdg s=true):s≠emptyS:=by
 rintro rfl
 have:jdg emptyS=false:=by decide
 rw[this]at h
 cases h
theorem isEmpty_iff (s:ByteArray):s.toList.isEmpty=true↔s=emptyS:=by
 rw[←jcT,List.isEmpty_iff]
 unfold jhg
 rw[beq_iff_eq]
 have:emptyS.toList=[]:=by rw[ByteArray.toList_eq];rfl
 rw[this]
theorem jeW {α:Type}{P:List α→Prop}(h0:P []) (hs:∀L c,P L→P (L++[c])) (L:List α):P L:=by
 have h:∀M:List α,P M.reverse:=fun M=>by
  induction M with
  | nil=>exact h0
  | cons c M ih=>rw[List.reverse_cons];exact hs _ _ ih
 have:=h L.reverse
 rwa [List.reverse_reverse]at this
def jcz (l acc:List ByteArray) (c:CD):List ByteArray:=if ja2 l c.link≠emptyS∧jaS acc (ja2 l c.link)<0 then acc++[ja2 l c.link] else acc
def jah (l:List ByteArray) (L:List CD):List ByteArray:=L.foldl (jcz l) []
def jdo (l m:List ByteArray) (v:Int):Int:=if ja2 l v=emptyS then 0 else jaS m (ja2 l v)+1
def jbo (l m:List ByteArray) (c:CD):CD:=c.withLink (jdo l m c.link)
theorem jby (l:List ByteArray) (L:List CD) (c:CD):jah l (L++[c])=jcz l (jah l L) c:=by simp[jah]
theorem jtj (l acc:List ByteArray) (c:CD):acc <+: jcz l acc c:=by
 unfold jcz
 split
 ·exact List.prefix_append _ _
 ·exact List.prefix_rfl
theorem jiu (l:List ByteArray) (L M:List CD):jah l L <+: jah l (L++M):=by
 induction M using jeW with
 | h0=>rw[List.append_nil];exact List.prefix_rfl
 | hs M c ih =>
  rw[←List.append_assoc,jby]
  exact ih.trans (jtj _ _ _)
theorem jiv {m:List ByteArray}{s:ByteArray}:jaS m s<0↔s ∉ m:=by
 rw[←jei]
 have:=jdS m s
 omega
theorem jtk {l acc:List ByteArray}{c:CD}(h:ja2 l c.link≠emptyS):ja2 l c.link∈jcz l acc c:=by
 unfold jcz
 by_cases hp:jaS acc (ja2 l c.link)<0
 ·rw[if_pos ⟨h,hp⟩]
  simp
 ·rw[if_neg (fun e=>hp e.2)]
  exact (jei _ _).1 (by omega)
theorem jiw:∀{m m':List ByteArray}{s:ByteArray},m <+: m'→s∈m→jaS m' s=jaS m s
 | [],m',s,_,hs=>by cases hs
 | y::m,m',s,⟨t,ht⟩,hs=>by
  subst ht
  simp only[List.cons_append,jaS]
  cases he:jhg y s
  ·have h2:s∈m:=by
    rcases List.mem_cons.1 hs with e|e
    ·rw[←e,jeh]at he;cases he
    ·exact e
   rw[jiw (List.prefix_append m t) h2]
  ·rfl
def jhQ (l:List ByteArray):Prop:=∀(i:Nat) (s:ByteArray),l[i]?=some s→jaS l s=i
theorem jl4 {m:List ByteArray}{s:ByteArray}(h:jhQ m) (hs:jaS m s<0):jhQ (m++[s]):=fun i x hx=>by
 rcases Nat.lt_or_ge i m.length with hi|hi
 ·rw[List.getElem?_append_left hi]at hx
  rw[jiw (List.prefix_append m [s]) (List.mem_of_getElem? hx)]
  exact h i x hx
 ·rw[List.getElem?_append_right hi]at hx
  have hi0:i-m.length=0:=by
   rcases Nat.eq_zero_or_pos (i-m.length)with e|e
   ·exact e
   ·rw[List.getElem?_eq_none (by simp;omega)]at hx
    cases hx
  rw[hi0]at hx
  simp at hx
  subst hx
  obtain rfl:i=m.length:=by omega
  refine jfl _ _ _ (fun j y hj hy=>?_) s (by simp) (jeh s)
  rw[List.getElem?_append_left hj]at hy
  rw[jex]
  rintro rfl
  exact (jiv.1 hs) (List.mem_of_getElem? hy)
theorem jgk (l:List ByteArray) (L:List CD):jhQ (jah l L):=by
 induction L using jeW with
 | h0=>intro i s h;simp[jah]at h
 | hs L c ih =>
  rw[jby]
  unfold jcz
  split
  ·rename_i h
   exact jl4 ih h.2
  ·exact ih
theorem jhR {l:List ByteArray}{v:Int}(h:ja2 l v≠emptyS):v≠0∧v≤l.length∧jdg (ja2 l v)=true∧ja2 l v=sAt l (v-1).toNat:=by
 by_cases h0:v=0∨(l.length:Int)<v
 ·exact absurd (by unfold ja2;rw[if_pos h0]) h
 ·cases hb:jdg (sAt l (v-1).toNat)
  ·exact absurd (by unfold ja2;rw[if_neg h0,hb];rfl) h
  ·have key:ja2 l v=sAt l (v-1).toNat:=by unfold ja2;rw[if_neg h0,if_pos hb]
   exact⟨fun e=>h0 (.inl e),by omega,by rw[key];exact hb,key⟩
theorem jkD (l:List ByteArray) (L:List CD):∀s∈jah l L,jdg s=true:=by
 induction L using jeW with
 | h0=>intro s h;simp[jah]at h
 | hs L c ih =>
  rw[jby]
  unfold jcz
  split
  ·rename_i h
   intro s hs
   rcases List.mem_append.1 hs with e|e
   ·exact ih s e
   ·rw[List.mem_singleton.1 e]
    exact (jhR h.1).2.2.1
  ·exact ih
theorem jix (l:List ByteArray) (L:List CD):(jah l L).length≤L.length:=by
 induction L using jeW with
 | h0=>simp[jah]
 | hs L c ih =>
  rw[jby]
  unfold jcz
  split
  ·simp;omega
  ·simp;omega
theorem jtl {l m m':List ByteArray}{v:Int}(h:m <+: m') (hv:ja2 l v≠emptyS→ja2 l v∈m):jdo l m' v=jdo l m v:=by
 unfold jdo
 by_cases he:ja2 l v=emptyS
 ·rw[if_pos he,if_pos he]
 ·rw[if_neg he,if_neg he,jiw h (hv he)]
theorem jvB (l m:List ByteArray) (v:Int):0≤jdo l m v∧jdo l m v≤m.length:=by
 unfold jdo
 have:=jdS m (ja2 l v)
 split<;>omega
theorem jtm {l:List ByteArray}{L:List CD}{t:Nat}{u:CD}(hu:L[t]?=some u) (h:ja2 l u.link=emptyS):jah l (L.take (t+1))=jah l (L.take t)∧jbo l (jah l L) u=u.withLink 0:=by
 rw[jaW hu,jby]
 unfold jcz jbo jdo
 rw[if_neg (fun e=>e.1 h),if_pos h]
 exact⟨rfl,rfl⟩
theorem jl5 {l:List ByteArray}{L:List CD}{t:Nat}{u:CD}{s:ByteArray}(hu:L[t]?=some u) (h:ja2 l u.link=s) (hs:s≠emptyS) :
  jbo l (jah l L) u=u.withLink (jaS (jah l (L.take (t+1))) s+1):=by
 have hp:jah l (L.take (t+1)) <+: jah l L:=by
  have:=jiu l (L.take (t+1)) (L.drop (t+1))
  rwa [List.take_append_drop]at this
 have hm:ja2 l u.link∈jah l (L.take (t+1)):=by
  rw[jaW hu,jby]
  exact jtk (by rw[h];exact hs)
 unfold jbo
 rw[jtl hp (fun _=>hm)]
 unfold jdo
 rw[if_neg (by rw[h];exact hs),h]
theorem jvC {l:List ByteArray}{L:List CD}{t:Nat}{u:CD}{s:ByteArray}(hu:L[t]?=some u) (h:ja2 l u.link=s) (hs:s≠emptyS) (hp:¬jaS (jah l (L.take t)) s<0) :
  jah l (L.take (t+1))=jah l (L.take t)∧jbo l (jah l L) u=u.withLink (jaS (jah l (L.take t)) s+1):=by
 have e:jah l (L.take (t+1))=jah l (L.take t):=by
  rw[jaW hu,jby]
  unfold jcz
  rw[if_neg (fun e=>hp (by rw[←h];exact e.2))]
 exact⟨e,by rw[jl5 hu h hs,e]⟩
theorem jvD {l:List ByteArray}{L:List CD}{t:Nat}{u:CD}{s:ByteArray}(hu:L[t]?=some u) (h:ja2 l u.link=s) (hs:s≠emptyS) (hp:jaS (jah l (L.take t)) s<0) :
  jah l (L.take (t+1))=jah l (L.take t)++[s]∧jbo l (jah l L) u=u.withLink (((jah l (L.take t)).length:Int)+1):=by
 have e:jah l (L.take (t+1))=jah l (L.take t)++[s]:=by
  rw[jaW hu,jby]
  unfold jcz
  rw[if_pos ⟨by rw[h];exact hs,by rw[h];exact hp⟩,h]
 refine⟨e,?_⟩
 rw[jl5 hu h hs,e,jl4 (jgk l (L.take t)) hp (jah l (L.take t)).length s (by simp)]
def jhh (L:List CD) (l:List ByteArray):Bool:=decide (l.length≤16)&&(List.range L.length).all (fun i=>decide (jdo l (jah l L) (cAt L i).link=(cAt L i).link))&&decide (jah l L=l)
theorem jvE {l:List ByteArray}{i:Nat}{s:ByteArray}(h:l[i]?=some s) (hb:jdg s=true):ja2 l ((i:Int)+1)=s:=by
 have hi:i<l.length:=(List.getElem?_eq_some_iff.1 h).1
 unfold ja2
 rw[if_neg (by omega),show ((i:Int)+1-1).toNat=i by omega,jkC h,if_pos hb]
theorem jhS {l:List ByteArray}(h:jhQ l){i t:Nat}{s:ByteArray}(hi:l[i]?=some s):s∈l.take t↔i<t:=by
 constructor
 ·intro hm
  obtain⟨j,hj⟩:=List.getElem?_of_mem hm
  have hjt:j<t:=by
   have:=(List.getElem?_eq_some_iff.1 hj).1
   simp at this
   omega
  rw[List.getElem?_take_of_lt hjt]at hj
  have h1:=h j s hj
  have h2:=h i s hi
  omega
 ·intro hlt
  refine List.mem_of_getElem? (i:=i) ?_
  rw[List.getElem?_take_of_lt hlt]
  exact hi
theorem jjC {m:Nat}{L:List CD}{t:Int}(h:jey m L=some t):∀c∈L,c.link≤m:=by
 induction L using jeW generalizing t with
 | h0=>intro c hc;cases hc
 | hs L c ih =>
  rw[jcK]at h
  cases ht:jey m L with
  | none=>rw[ht]at h;cases h
  | some t0 =>
   rw[ht]at h
   simp only[Option.bind_some]at h
   split at h
   ·cases h
   ·rename_i hn
    intro x hx
    rcases List.mem_append.1 hx with e|e
    ·exact ih ht x e
    ·rw[List.mem_singleton.1 e]
     omega
theorem jvF {l:List ByteArray}(hl:∀(i:Nat) (s:ByteArray),l[i]?=some s→jdg s=true) (ha:jhQ l){M:List CD}{t:Int}(h0:∀q∈M,0≤q.link) (h:jey l.length M=some t) :
  0≤t∧t≤l.length∧jah l M=l.take t.toNat:=by
 induction M using jeW generalizing t with
 | h0 =>
  have e:t=0:=by
   have:jey l.length []=some 0:=rfl
   rw[this]at h
   exact (Option.some.inj h).symm
  subst e
  exact⟨by omega,by omega,rfl⟩
 | hs M c ih =>
  rw[jcK]at h
  cases ht:jey l.length M with
  | none=>rw[ht]at h;cases h
  | some t0 =>
   rw[ht]at h
   simp only[Option.bind_some]at h
   obtain⟨i1,i2,i3⟩:=ih (fun q hq=>h0 q (List.mem_append_left _ hq)) ht
   have hc:=h0 c (by simp)
   split at h
   ·cases h
   ·rename_i hn
    have ht1:t=max t0 c.link:=(Option.some.inj h).symm
    refine⟨by omega,by omega,?_⟩
    rw[jby,i3]
    unfold jcz
    by_cases hz:c.link=0
    ·rw[if_neg (fun e=>(jhR e.1).1 hz)]
     congr 1
     omega
    ·obtain⟨k,hk⟩:∃k:Nat,c.link=(k:Int)+1:=⟨(c.link-1).toNat,by omega⟩
     obtain⟨s,hs⟩:∃s,l[k]?=some s:=⟨_,List.getElem?_eq_getElem (by omega)⟩
     have hle:ja2 l c.link=s:=by rw[hk];exact jvE hs (hl k s hs)
     have hne:s≠emptyS:=jjB (hl k s hs)
     rw[hle]
     by_cases hlt:k<t0.toNat
     ·rw[if_neg (fun e=>(jiv.1 e.2) ((jhS ha hs).2 hlt))]
      congr 1
      omega
     ·have hk2:k=t0.toNat:=by omega
      rw[if_pos ⟨hne,jiv.2 (fun e=>hlt ((jhS ha hs).1 e))⟩,show t.toNat=k+1 by omega,jaW hs,hk2]
theorem jvG {l:List ByteArray}{L:List CD}(heq:jah l L=l) (hc:∀c∈L,jdo l l c.link=c.link):∀M N:List CD,L=M++N→jey l.length M=some ((jah l M).length:Int):=by
 have hl:∀(i:Nat) (s:ByteArray),l[i]?=some s→jdg s=true:=fun i s h=>jkD l L s (by rw[heq];exact List.mem_of_getElem? h)
 have ha:jhQ l:=by have:=jgk l L;rwa [heq]at this
 intro M
 induction M using jeW with
 | h0=>intro N h;rfl
 | hs M c ih =>
  intro N h
  have i1:=ih (c::N) (by rw[h];simp)
  have hcc:=hc c (by rw[h];simp)
  have hp:jah l M <+: l:=by
   have:=jiu l M (c::N)
   rw[show M++c::N=L by rw[h];simp,heq]at this
   exact this
  have hp2:jah l (M++[c]) <+: l:=by
   have:=jiu l (M++[c]) N
   rw[←h,heq]at this
   exact this
  have hpl:=hp.length_le
  have htk:jah l M=l.take (jah l M).length:=List.prefix_iff_eq_take.1 hp
  rw[jcK,i1,Option.bind_some,jby]
  rw[jby]at hp2
  unfold jdo at hcc
  by_cases he:ja2 l c.link=emptyS
  ·have e1:jcz l (jah l M) c=jah l M:=by unfold jcz;exact if_neg (fun e=>e.1 he)
   rw[if_pos he]at hcc
   rw[e1,if_neg (by omega)]
   congr 1
   omega
  ·rw[if_neg he]at hcc
   obtain⟨a1,a2,a3,a4⟩:=jhR he
   have hlo:=jdS l (ja2 l c.link)
   obtain⟨k,hk⟩:∃k:Nat,jaS l (ja2 l c.link)=k:=⟨(jaS l (ja2 l c.link)).toNat,by omega⟩
   have hs:=jth l _ k hk
   by_cases hneg:jaS (jah l M) (ja2 l c.link)<0
   ·have e1:jcz l (jah l M) c=jah l M++[ja2 l c.link]:=by unfold jcz;exact if_pos ⟨he,hneg⟩
    rw[e1]at hp2 ⊢
    have h1:l[(jah l M).length]?=some (ja2 l c.link):=by
     obtain⟨t,ht⟩:=hp2
     have h2:(jah l M++[ja2 l c.link]++t)[(jah l M).length]?=some (ja2 l c.link):=by simp
     rwa [ht]at h2
    have h2:=ha _ _ h1
    have hll:=(List.getElem?_eq_some_iff.1 h1).1
    rw[if_neg (by omega),List.length_append]
    congr 1
    simp
    omega
   ·have e1:jcz l (jah l M) c=jah l M:=by unfold jcz;exact if_neg (fun e=>hneg e.2)
    rw[e1]
    have hm:ja2 l c.link∈jah l M:=(jei _ _).1 (by omega)
    rw[htk]at hm
    have hlt:=(jhS ha hs).1 hm
    rw[if_neg (by omega)]
    congr 1
    omega
theorem jyC (L:List CD) (l:List ByteArray) (h0:∀q∈L,0≤q.link):jhh L l=jb8 L l:=by
 have mem_at:∀i,i<L.length→cAt L i∈L:=fun i hi=>by
  rw[jgV (List.getElem?_eq_getElem hi)]
  exact List.getElem_mem hi
 rw[Bool.eq_iff_iff]
 unfold jhh jb8
 simp only[Bool.and_eq_true,decide_eq_true_eq,List.all_eq_true,List.mem_range]
 constructor
 ·rintro⟨⟨h16,hc⟩,heq⟩
  have hl:∀(i:Nat) (s:ByteArray),l[i]?=some s→jdg s=true:=fun i s h=>jkD l L s (by rw[heq];exact List.mem_of_getElem? h)
  have ha:jhQ l:=by have:=jgk l L;rwa [heq]at this
  refine⟨⟨h16,fun i hi=>?_⟩,?_⟩
  ·have hg:=List.getElem?_eq_getElem hi
   unfold jgW
   rw[jkC hg,hl i _ hg]
   simp only[Bool.true_and,Bool.not_eq_true',decide_eq_false_iff_not]
   rw[jei,jhS ha hg]
   omega
  ·have:=jvG heq (fun c hcm=>by
    obtain⟨i,hi⟩:=List.getElem?_of_mem hcm
    have:=hc i (List.getElem?_eq_some_iff.1 hi).1
    rw[heq,jgV hi]at this
    exact this) L [] (by simp)
   rw[heq]at this
   exact this
 ·rintro⟨⟨h16,hall⟩,htop⟩
  have hl:∀(i:Nat) (s:ByteArray),l[i]?=some s→jdg s=true:=fun i s h=>by
   have:=hall i (List.getElem?_eq_some_iff.1 h).1
   unfold jgW at this
   rw[jkC h]at this
   simp only[Bool.and_eq_true]at this
   exact this.1
  have ha:jhQ l:=fun i s h=>by
   have hi:=(List.getElem?_eq_some_iff.1 h).1
   have:=hall i hi
   unfold jgW at this
   rw[jkC h]at this
   simp only[Bool.and_eq_true,Bool.not_eq_true',decide_eq_false_iff_not]at this
   refine jfl l s i (fun j x hj hx=>?_) s h (jeh s)
   rw[jex]
   rintro rfl
   refine this.2 ((jei _ _).2 (List.mem_of_getElem? (i:=j) ?_))
   rw[List.getElem?_take_of_lt hj]
   exact hx
  obtain⟨_,_,hcan⟩:=jvF hl ha h0 htop
  have heq:jah l L=l:=by rw[hcan,Int.toNat_natCast,List.take_of_length_le (Nat.le_refl _)]
  refine⟨⟨h16,fun i hi=>?_⟩,heq⟩
  have hm:=mem_at i hi
  have h1:=h0 _ hm
  have h2:=jjC htop _ hm
  rw[heq]
  unfold jdo
  by_cases hz:(cAt L i).link=0
  ·rw[if_pos (by unfold ja2;rw[if_pos (.inl hz)]),hz]
  ·obtain⟨k,hk⟩:∃k:Nat,(cAt L i).link=(k:Int)+1:=⟨((cAt L i).link-1).toNat,by omega⟩
   obtain⟨s,hs⟩:∃s,l[k]?=some s:=⟨_,List.getElem?_eq_getElem (by omega)⟩
   have hle:ja2 l (cAt L i).link=s:=by rw[hk];exact jvE hs (hl k s hs)
   rw[hle,if_neg (jjB (hl k s hs)),ha k s hs,hk]
end
end Go.Proofs.YtcfkfgkndncanaaGreatDoor
