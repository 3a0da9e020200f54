/- Texts of this claim, merged by a program of this claim: LinkM. -/
import Derived.Test.YtcfkfgkndncanaaGreatDoorMt17
namespace Go.Proofs.YtcfkfgkndncanaaGreatDoor
set_option linter.unusedVariables false
set_option linter.unusedSimpArgs false
section
open Go.RowKit
theorem jgx {L:List CD} {i:Nat} {c:CD} (h:L[i]?=some c):cAt L i=c:=by simp [cAt,List.getD_eq_getElem?_getD,h]
def CD.withLink (c:CD) (v:Int):CD:=⟨c.rune,c.wide,c.fg,c.bg,c.attrs,v⟩
def jgS (a b:ByteArray):Bool:=a.toList == b.toList
theorem jcE {a b:ByteArray}:jgS a b=true↔a=b:=by
 unfold jgS
 rw [beq_iff_eq,ByteArray.toList_eq,ByteArray.toList_eq]
 constructor
 ·intro h
  obtain ⟨x⟩:=a
  obtain ⟨y⟩:=b
  simp only [Array.toList_inj] at h
  rw [h]
 ·intro h
  rw [h]
theorem jec {a b:ByteArray}:jgS a b=false↔a ≠ b:=by
 rw [← Bool.not_eq_true,jcE]
theorem jeT (a:ByteArray):jgS a a=true:=jcE.2 rfl
def jaU:List ByteArray→ByteArray→Int
 | [],_=>-1
 | x :: l,s=>if jgS x s then 0 else let k:=jaU l s; if k < 0 then -1 else k+1
theorem jeU:∀ (l:List ByteArray) (s:ByteArray) (k:Nat),(∀ (j:Nat) (x:ByteArray),j < k→l[j]?=some x→jgS x s=false)→∀ x,l[k]?=some x→jgS x s=true→jaU l s=k
 | [],s,k,h,x,hx,hs=>by simp at hx
 | y :: l,s,0,h,x,hx,hs=>by
  simp at hx
  subst hx
  simp [jaU,hs]
 | y :: l,s,k+1,h,x,hx,hs=>by
  have h0:=h 0 y (by omega) rfl
  have ih:=jeU l s k (fun j x hj hx=>h (j+1) x (by omega) (by simpa using hx)) x (by simpa using hx) hs
  simp only [jaU,h0,ih]
  rw [if_neg (by simp),if_neg (by omega)]
  rfl
theorem jjA:∀ (l:List ByteArray) (s:ByteArray),(∀ (j:Nat) (x:ByteArray),l[j]?=some x→jgS x s=false)→jaU l s = -1
 | [],s,h=>rfl
 | y :: l,s,h=>by
  have h0:=h 0 y rfl
  have ih:=jjA l s (fun j x hx=>h (j+1) x (by simpa using hx))
  simp [jaU,h0,ih]
theorem jdz:∀ (l:List ByteArray) (s:ByteArray),-1≤jaU l s∧jaU l s < l.length
 | [],s=>by simp [jaU]
 | y :: l,s=>by
  have ih:=jdz l s
  simp only [jaU,List.length_cons]
  split
  ·omega
  ·split <;> omega
theorem jdY (l:List ByteArray) (s:ByteArray):0≤jaU l s↔s∈l:=by
 induction l with
 | nil=>simp [jaU]
 | cons y l ih =>
  simp only [jaU,List.mem_cons]
  cases h:jgS y s
  ·have:s ≠ y:=fun e=>by rw [e,jeT] at h; cases h
   simp only [this,false_or,← ih]
   simp
   split <;> omega
  ·have:s=y:=(jcE.1 h).symm
   simp [this]
theorem jpK (l:List ByteArray) (s:ByteArray) (k:Nat) (h:jaU l s=k):l[k]?=some s:=by
 induction l generalizing k with
 | nil=>simp [jaU] at h
 | cons y l ih =>
  simp only [jaU] at h
  cases hs:jgS y s
  ·simp only [hs] at h
   simp at h
   split at h
   ·omega
   ·obtain ⟨m,rfl⟩:∃ m,k=m+1:=⟨k - 1,by omega⟩
    rw [List.getElem?_cons_succ]
    exact ih m (by omega)
  ·simp only [hs] at h
   simp at h
   obtain rfl:k=0:=by omega
   rw [jcE.1 hs]
   rfl
def jcK (s:ByteArray):Bool:=decide (1≤s.size) && decide (s.size≤64) && (List.range s.size).all (fun i=>decide (33≤(s.data.toList.getD i 0).toNat) && decide ((s.data.toList.getD i 0).toNat≤126))
def sAt (l:List ByteArray) (i:Nat):ByteArray:=l.getD i ⟨#[]⟩
theorem jjB {l:List ByteArray} {i:Nat} {s:ByteArray} (h:l[i]?=some s):sAt l i=s:=by simp [sAt,List.getD_eq_getElem?_getD,h]
def jgy (l:List ByteArray) (i:Nat):Bool:=jcK (sAt l i) && !decide (0≤jaU (l.take i) (sAt l i))
def jeV (m:Nat):List CD→Option Int
 | L=>L.foldl (fun t c=>t.bind fun t=>if t+1 < c.link∨(m:Int) < c.link then none else some (max t c.link)) (some 0)
theorem jcN (m:Nat) (L:List CD) (c:CD):jeV m (L++[c])=(jeV m L).bind fun t=>if t+1 < c.link∨(m:Int) < c.link then none else some (max t c.link):=by simp [jeV]
theorem jpL (m:Nat) (L M:List CD) (h:jeV m L=none):jeV m (L++M)=none:=by
 induction M generalizing L with
 | nil=>simpa using h
 | cons c M ih =>
  rw [show L++c :: M=(L++[c])++M by simp]
  exact ih _ (by rw [jcN,h]; rfl)
def jcb (L:List CD) (l:List ByteArray):Bool:=decide (l.length≤16) && (List.range l.length).all (jgy l) && decide (jeV l.length L=some (l.length:Int))
theorem ja7 {α:Type} {l:List α} {k:Nat} {x:α} (h:l[k]?=some x):l.take (k+1)=l.take k++[x]:=by
 rw [List.take_add_one,h]
 rfl
def emptyS:ByteArray:=⟨#[]⟩
def ja3 (l:List ByteArray) (v:Int):ByteArray:=if v=0∨(l.length:Int) < v then emptyS else if jcK (sAt l (v - 1).toNat) then sAt l (v - 1).toNat else emptyS
theorem jiJ {s:ByteArray} (h:jcK s=true):s ≠ emptyS:=by
 rintro rfl
 have:jcK emptyS=false:=by decide
 rw [this] at h
 cases h
theorem isEmpty_iff (s:ByteArray):s.toList.isEmpty=true↔s=emptyS:=by
 rw [← jcE,List.isEmpty_iff]
 unfold jgS
 rw [beq_iff_eq]
 have:emptyS.toList=[]:=by rw [ByteArray.toList_eq]; rfl
 rw [this]
theorem jfi {α:Type} {P:List α→Prop} (h0:P []) (hs:∀ L c,P L→P (L++[c])) (L:List α):P L:=by
 have h:∀ M:List α,P M.reverse:=fun M=>by
  induction M with
  | nil=>exact h0
  | cons c M ih=>rw [List.reverse_cons]; exact hs _ _ ih
 have:=h L.reverse
 rwa [List.reverse_reverse] at this
def jcm (l acc:List ByteArray) (c:CD):List ByteArray:=if ja3 l c.link ≠ emptyS∧jaU acc (ja3 l c.link) < 0 then acc++[ja3 l c.link] else acc
def jaj (l:List ByteArray) (L:List CD):List ByteArray:=L.foldl (jcm l) []
def jc9 (l m:List ByteArray) (v:Int):Int:=if ja3 l v=emptyS then 0 else jaU m (ja3 l v)+1
def jbf (l m:List ByteArray) (c:CD):CD:=c.withLink (jc9 l m c.link)
theorem jbw (l:List ByteArray) (L:List CD) (c:CD):jaj l (L++[c])=jcm l (jaj l L) c:=by simp [jaj]
theorem jpM (l acc:List ByteArray) (c:CD):acc <+: jcm l acc c:=by
 unfold jcm
 split
 ·exact List.prefix_append _ _
 ·exact List.prefix_rfl
theorem jhV (l:List ByteArray) (L M:List CD):jaj l L <+: jaj l (L++M):=by
 induction M using jfi with
 | h0=>rw [List.append_nil]; exact List.prefix_rfl
 | hs M c ih =>
  rw [← List.append_assoc,jbw]
  exact ih.trans (jpM _ _ _)
theorem jhW {m:List ByteArray} {s:ByteArray}:jaU m s < 0↔s ∉ m:=by
 rw [← jdY]
 have:=jdz m s
 omega
theorem jpN {l acc:List ByteArray} {c:CD} (h:ja3 l c.link ≠ emptyS):ja3 l c.link∈jcm l acc c:=by
 unfold jcm
 by_cases hp:jaU acc (ja3 l c.link) < 0
 ·rw [if_pos ⟨h,hp⟩]
  simp
 ·rw [if_neg (fun e=>hp e.2)]
  exact (jdY _ _).1 (by omega)
theorem jhX:∀ {m m':List ByteArray} {s:ByteArray},m <+: m'→s∈m→jaU m' s=jaU m s
 | [],m',s,_,hs=>by cases hs
 | y :: m,m',s,⟨t,ht⟩,hs=>by
  subst ht
  simp only [List.cons_append,jaU]
  cases he:jgS y s
  ·have h2:s∈m:=by
    rcases List.mem_cons.1 hs with e | e
    ·rw [← e,jeT] at he; cases he
    ·exact e
   rw [jhX (List.prefix_append m t) h2]
  ·rfl
def jho (l:List ByteArray):Prop:=∀ (i:Nat) (s:ByteArray),l[i]?=some s→jaU l s=i
theorem jkN {m:List ByteArray} {s:ByteArray} (h:jho m) (hs:jaU m s < 0):jho (m++[s]):=fun i x hx=>by
 rcases Nat.lt_or_ge i m.length with hi | hi
 ·rw [List.getElem?_append_left hi] at hx
  rw [jhX (List.prefix_append m [s]) (List.mem_of_getElem? hx)]
  exact h i x hx
 ·rw [List.getElem?_append_right hi] at hx
  have hi0:i - m.length=0:=by
   rcases Nat.eq_zero_or_pos (i - m.length) with e | e
   ·exact e
   ·rw [List.getElem?_eq_none (by simp; omega)] at hx
    cases hx
  rw [hi0] at hx
  simp at hx
  subst hx
  obtain rfl:i=m.length:=by omega
  refine jeU _ _ _ (fun j y hj hy=>?_) s (by simp) (jeT s)
  rw [List.getElem?_append_left hj] at hy
  rw [jec]
  rintro rfl
  exact (jhW.1 hs) (List.mem_of_getElem? hy)
theorem jfS (l:List ByteArray) (L:List CD):jho (jaj l L):=by
 induction L using jfi with
 | h0=>intro i s h; simp [jaj] at h
 | hs L c ih =>
  rw [jbw]
  unfold jcm
  split
  ·rename_i h
   exact jkN ih h.2
  ·exact ih
theorem jhp {l:List ByteArray} {v:Int} (h:ja3 l v ≠ emptyS):v ≠ 0∧v≤l.length∧jcK (ja3 l v)=true∧ja3 l v=sAt l (v - 1).toNat:=by
 by_cases h0:v=0∨(l.length:Int) < v
 ·exact absurd (by unfold ja3; rw [if_pos h0]) h
 ·cases hb:jcK (sAt l (v - 1).toNat)
  ·exact absurd (by unfold ja3; rw [if_neg h0,hb]; rfl) h
  ·have key:ja3 l v=sAt l (v - 1).toNat:=by unfold ja3; rw [if_neg h0,if_pos hb]
   exact ⟨fun e=>h0 (.inl e),by omega,by rw [key]; exact hb,key⟩
theorem jjC (l:List ByteArray) (L:List CD):∀ s∈jaj l L,jcK s=true:=by
 induction L using jfi with
 | h0=>intro s h; simp [jaj] at h
 | hs L c ih =>
  rw [jbw]
  unfold jcm
  split
  ·rename_i h
   intro s hs
   rcases List.mem_append.1 hs with e | e
   ·exact ih s e
   ·rw [List.mem_singleton.1 e]
    exact (jhp h.1).2.2.1
  ·exact ih
theorem jhY (l:List ByteArray) (L:List CD):(jaj l L).length≤L.length:=by
 induction L using jfi with
 | h0=>simp [jaj]
 | hs L c ih =>
  rw [jbw]
  unfold jcm
  split
  ·simp; omega
  ·simp; omega
theorem jpO {l m m':List ByteArray} {v:Int} (h:m <+: m') (hv:ja3 l v ≠ emptyS→ja3 l v∈m):jc9 l m' v=jc9 l m v:=by
 unfold jc9
 by_cases he:ja3 l v=emptyS
 ·rw [if_pos he,if_pos he]
 ·rw [if_neg he,if_neg he,jhX h (hv he)]
theorem jrC (l m:List ByteArray) (v:Int):0≤jc9 l m v∧jc9 l m v≤m.length:=by
 unfold jc9
 have:=jdz m (ja3 l v)
 split <;> omega
theorem jpP {l:List ByteArray} {L:List CD} {t:Nat} {u:CD} (hu:L[t]?=some u) (h:ja3 l u.link=emptyS):jaj l (L.take (t+1))=jaj l (L.take t)∧jbf l (jaj l L) u=u.withLink 0:=by
 rw [ja7 hu,jbw]
 unfold jcm jbf jc9
 rw [if_neg (fun e=>e.1 h),if_pos h]
 exact ⟨rfl,rfl⟩
theorem jkO {l:List ByteArray} {L:List CD} {t:Nat} {u:CD} {s:ByteArray} (hu:L[t]?=some u) (h:ja3 l u.link=s) (hs:s ≠ emptyS) :
  jbf l (jaj l L) u=u.withLink (jaU (jaj l (L.take (t+1))) s+1):=by
 have hp:jaj l (L.take (t+1)) <+: jaj l L:=by
  have:=jhV l (L.take (t+1)) (L.drop (t+1))
  rwa [List.take_append_drop] at this
 have hm:ja3 l u.link∈jaj l (L.take (t+1)):=by
  rw [ja7 hu,jbw]
  exact jpN (by rw [h]; exact hs)
 unfold jbf
 rw [jpO hp (fun _=>hm)]
 unfold jc9
 rw [if_neg (by rw [h]; exact hs),h]
theorem jrD {l:List ByteArray} {L:List CD} {t:Nat} {u:CD} {s:ByteArray} (hu:L[t]?=some u) (h:ja3 l u.link=s) (hs:s ≠ emptyS) (hp:¬ jaU (jaj l (L.take t)) s < 0) :
  jaj l (L.take (t+1))=jaj l (L.take t)∧jbf l (jaj l L) u=u.withLink (jaU (jaj l (L.take t)) s+1):=by
 have e:jaj l (L.take (t+1))=jaj l (L.take t):=by
  rw [ja7 hu,jbw]
  unfold jcm
  rw [if_neg (fun e=>hp (by rw [← h]; exact e.2))]
 exact ⟨e,by rw [jkO hu h hs,e]⟩
theorem jrE {l:List ByteArray} {L:List CD} {t:Nat} {u:CD} {s:ByteArray} (hu:L[t]?=some u) (h:ja3 l u.link=s) (hs:s ≠ emptyS) (hp:jaU (jaj l (L.take t)) s < 0) :
  jaj l (L.take (t+1))=jaj l (L.take t)++[s]∧jbf l (jaj l L) u=u.withLink (((jaj l (L.take t)).length:Int)+1):=by
 have e:jaj l (L.take (t+1))=jaj l (L.take t)++[s]:=by
  rw [ja7 hu,jbw]
  unfold jcm
  rw [if_pos ⟨by rw [h]; exact hs,by rw [h]; exact hp⟩,h]
 refine ⟨e,?_⟩
 rw [jkO hu h hs,e,jkN (jfS l (L.take t)) hp (jaj l (L.take t)).length s (by simp)]
def jfT (L:List CD) (l:List ByteArray):Bool:=decide (l.length≤16) && (List.range L.length).all (fun i=>decide (jc9 l (jaj l L) (cAt L i).link=(cAt L i).link)) && decide (jaj l L=l)
theorem jrF {l:List ByteArray} {i:Nat} {s:ByteArray} (h:l[i]?=some s) (hb:jcK s=true):ja3 l ((i:Int)+1)=s:=by
 have hi:i < l.length:=(List.getElem?_eq_some_iff.1 h).1
 unfold ja3
 rw [if_neg (by omega),show ((i:Int)+1 - 1).toNat=i by omega,jjB h,if_pos hb]
theorem jhq {l:List ByteArray} (h:jho l) {i t:Nat} {s:ByteArray} (hi:l[i]?=some s):s∈l.take t↔i < t:=by
 constructor
 ·intro hm
  obtain ⟨j,hj⟩:=List.getElem?_of_mem hm
  have hjt:j < t:=by
   have:=(List.getElem?_eq_some_iff.1 hj).1
   simp at this
   omega
  rw [List.getElem?_take_of_lt hjt] at hj
  have h1:=h j s hj
  have h2:=h i s hi
  omega
 ·intro hlt
  refine List.mem_of_getElem? (i:=i) ?_
  rw [List.getElem?_take_of_lt hlt]
  exact hi
theorem jiK {m:Nat} {L:List CD} {t:Int} (h:jeV m L=some t):∀ c∈L,c.link≤m:=by
 induction L using jfi generalizing t with
 | h0=>intro c hc; cases hc
 | hs L c ih =>
  rw [jcN] at h
  cases ht:jeV m L with
  | none=>rw [ht] at h; cases h
  | some t0 =>
   rw [ht] at h
   simp only [Option.bind_some] at h
   split at h
   ·cases h
   ·rename_i hn
    intro x hx
    rcases List.mem_append.1 hx with e | e
    ·exact ih ht x e
    ·rw [List.mem_singleton.1 e]
     omega
theorem jrG {l:List ByteArray} (hl:∀ (i:Nat) (s:ByteArray),l[i]?=some s→jcK s=true) (ha:jho l) {M:List CD} {t:Int} (h0:∀ q∈M,0≤q.link) (h:jeV l.length M=some t) :
  0≤t∧t≤l.length∧jaj l M=l.take t.toNat:=by
 induction M using jfi generalizing t with
 | h0 =>
  have e:t=0:=by
   have:jeV l.length []=some 0:=rfl
   rw [this] at h
   exact (Option.some.inj h).symm
  subst e
  exact ⟨by omega,by omega,rfl⟩
 | hs M c ih =>
  rw [jcN] at h
  cases ht:jeV l.length M with
  | none=>rw [ht] at h; cases h
  | some t0 =>
   rw [ht] at h
   simp only [Option.bind_some] at h
   obtain ⟨i1,i2,i3⟩:=ih (fun q hq=>h0 q (List.mem_append_left _ hq)) ht
   have hc:=h0 c (by simp)
   split at h
   ·cases h
   ·rename_i hn
    have ht1:t=max t0 c.link:=(Option.some.inj h).symm
    refine ⟨by omega,by omega,?_⟩
    rw [jbw,i3]
    unfold jcm
    by_cases hz:c.link=0
    ·rw [if_neg (fun e=>(jhp e.1).1 hz)]
     congr 1
     omega
    ·obtain ⟨k,hk⟩:∃ k:Nat,c.link=(k:Int)+1:=⟨(c.link - 1).toNat,by omega⟩
     obtain ⟨s,hs⟩:∃ s,l[k]?=some s:=⟨_,List.getElem?_eq_getElem (by omega)⟩
     have hle:ja3 l c.link=s:=by rw [hk]; exact jrF hs (hl k s hs)
     have hne:s ≠ emptyS:=jiJ (hl k s hs)
     rw [hle]
     by_cases hlt:k < t0.toNat
     ·rw [if_neg (fun e=>(jhW.1 e.2) ((jhq ha hs).2 hlt))]
      congr 1
      omega
     ·have hk2:k=t0.toNat:=by omega
      rw [if_pos ⟨hne,jhW.2 (fun e=>hlt ((jhq ha hs).1 e))⟩,show t.toNat=k+1 by omega,ja7 hs,hk2]
theorem jrH {l:List ByteArray} {L:List CD} (heq:jaj l L=l) (hc:∀ c∈L,jc9 l l c.link=c.link):∀ M N:List CD,L=M++N→jeV l.length M=some ((jaj l M).length:Int):=by
 have hl:∀ (i:Nat) (s:ByteArray),l[i]?=some s→jcK s=true:=fun i s h=>jjC l L s (by rw [heq]; exact List.mem_of_getElem? h)
 have ha:jho l:=by have:=jfS l L; rwa [heq] at this
 intro M
 induction M using jfi with
 | h0=>intro N h; rfl
 | hs M c ih =>
  intro N h
  have i1:=ih (c :: N) (by rw [h]; simp)
  have hcc:=hc c (by rw [h]; simp)
  have hp:jaj l M <+: l:=by
   have:=jhV l M (c :: N)
   rw [show M++c :: N=L by rw [h]; simp,heq] at this
   exact this
  have hp2:jaj l (M++[c]) <+: l:=by
   have:=jhV l (M++[c]) N
   rw [← h,heq] at this
   exact this
  have hpl:=hp.length_le
  have htk:jaj l M=l.take (jaj l M).length:=List.prefix_iff_eq_take.1 hp
  rw [jcN,i1,Option.bind_some,jbw]
  rw [jbw] at hp2
  unfold jc9 at hcc
  by_cases he:ja3 l c.link=emptyS
  ·have e1:jcm l (jaj l M) c=jaj l M:=by unfold jcm; exact if_neg (fun e=>e.1 he)
   rw [if_pos he] at hcc
   rw [e1,if_neg (by omega)]
   congr 1
   omega
  ·rw [if_neg he] at hcc
   obtain ⟨a1,a2,a3,a4⟩:=jhp he
   have hlo:=jdz l (ja3 l c.link)
   obtain ⟨k,hk⟩:∃ k:Nat,jaU l (ja3 l c.link)=k:=⟨(jaU l (ja3 l c.link)).toNat,by omega⟩
   have hs:=jpK l _ k hk
   by_cases hneg:jaU (jaj l M) (ja3 l c.link) < 0
   ·have e1:jcm l (jaj l M) c=jaj l M++[ja3 l c.link]:=by unfold jcm; exact if_pos ⟨he,hneg⟩
    rw [e1] at hp2 ⊢
    have h1:l[(jaj l M).length]?=some (ja3 l c.link):=by
     obtain ⟨t,ht⟩:=hp2
     have h2:(jaj l M++[ja3 l c.link]++t)[(jaj l M).length]?=some (ja3 l c.link):=by simp
     rwa [ht] at h2
    have h2:=ha _ _ h1
    have hll:=(List.getElem?_eq_some_iff.1 h1).1
    rw [if_neg (by omega),List.length_append]
    congr 1
    simp
    omega
   ·have e1:jcm l (jaj l M) c=jaj l M:=by unfold jcm; exact if_neg (fun e=>hneg e.2)
    rw [e1]
    have hm:ja3 l c.link∈jaj l M:=(jdY _ _).1 (by omega)
    rw [htk] at hm
    have hlt:=(jhq ha hs).1 hm
    rw [if_neg (by omega)]
    congr 1
    omega
theorem jtV (L:List CD) (l:List ByteArray) (h0:∀ q∈L,0≤q.link):jfT L l=jcb L l:=by
 have mem_at:∀ i,i < L.length→cAt L i∈L:=fun i hi=>by
  rw [jgx (List.getElem?_eq_getElem hi)]
  exact List.getElem_mem hi
 rw [Bool.eq_iff_iff]
 unfold jfT jcb
 simp only [Bool.and_eq_true,decide_eq_true_eq,List.all_eq_true,List.mem_range]
 constructor
 ·rintro ⟨⟨h16,hc⟩,heq⟩
  have hl:∀ (i:Nat) (s:ByteArray),l[i]?=some s→jcK s=true:=fun i s h=>jjC l L s (by rw [heq]; exact List.mem_of_getElem? h)
  have ha:jho l:=by have:=jfS l L; rwa [heq] at this
  refine ⟨⟨h16,fun i hi=>?_⟩,?_⟩
  ·have hg:=List.getElem?_eq_getElem hi
   unfold jgy
   rw [jjB hg,hl i _ hg]
   simp only [Bool.true_and,Bool.not_eq_true',decide_eq_false_iff_not]
   rw [jdY,jhq ha hg]
   omega
  ·have:=jrH heq (fun c hcm=>by
    obtain ⟨i,hi⟩:=List.getElem?_of_mem hcm
    have:=hc i (List.getElem?_eq_some_iff.1 hi).1
    rw [heq,jgx hi] at this
    exact this) L [] (by simp)
   rw [heq] at this
   exact this
 ·rintro ⟨⟨h16,hall⟩,htop⟩
  have hl:∀ (i:Nat) (s:ByteArray),l[i]?=some s→jcK s=true:=fun i s h=>by
   have:=hall i (List.getElem?_eq_some_iff.1 h).1
   unfold jgy at this
   rw [jjB h] at this
   simp only [Bool.and_eq_true] at this
   exact this.1
  have ha:jho l:=fun i s h=>by
   have hi:=(List.getElem?_eq_some_iff.1 h).1
   have:=hall i hi
   unfold jgy at this
   rw [jjB h] at this
   simp only [Bool.and_eq_true,Bool.not_eq_true',decide_eq_false_iff_not] at this
   refine jeU l s i (fun j x hj hx=>?_) s h (jeT s)
   rw [jec]
   rintro rfl
   refine this.2 ((jdY _ _).2 (List.mem_of_getElem? (i:=j) ?_))
   rw [List.getElem?_take_of_lt hj]
   exact hx
  obtain ⟨_,_,hcan⟩:=jrG hl ha h0 htop
  have heq:jaj l L=l:=by rw [hcan,Int.toNat_natCast,List.take_of_length_le (Nat.le_refl _)]
  refine ⟨⟨h16,fun i hi=>?_⟩,heq⟩
  have hm:=mem_at i hi
  have h1:=h0 _ hm
  have h2:=jiK htop _ hm
  rw [heq]
  unfold jc9
  by_cases hz:(cAt L i).link=0
  ·rw [if_pos (by unfold ja3; rw [if_pos (.inl hz)]),hz]
  ·obtain ⟨k,hk⟩:∃ k:Nat,(cAt L i).link=(k:Int)+1:=⟨((cAt L i).link - 1).toNat,by omega⟩
   obtain ⟨s,hs⟩:∃ s,l[k]?=some s:=⟨_,List.getElem?_eq_getElem (by omega)⟩
   have hle:ja3 l (cAt L i).link=s:=by rw [hk]; exact jrF hs (hl k s hs)
   rw [hle,if_neg (jiJ (hl k s hs)),ha k s hs,hk]
end
end Go.Proofs.YtcfkfgkndncanaaGreatDoor
