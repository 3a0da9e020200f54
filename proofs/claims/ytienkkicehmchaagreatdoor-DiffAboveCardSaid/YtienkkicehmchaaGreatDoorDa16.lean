/- Texts of this claim, merged by a program of this claim: LinkM. -/
import Derived.Test.YtienkkicehmchaaGreatDoorDa12
namespace Go.Proofs.YtienkkicehmchaaGreatDoor
set_option linter.unusedVariables false
set_option linter.unusedSimpArgs false
section
open Go.RowKit
theorem jgP {L:List CD}{i:Nat}{c:CD}(h:L[i]?=some c):cAt L i=c:=by simp[cAt,List.getD_eq_getElem?_getD,h]
def CD.withLink (c:CD) (v:Int):CD:=⟨c.rune,c.wide,c.fg,c.bg,c.attrs,v⟩
def jeA (a b:ByteArray):Bool:=a.toList==b.toList
theorem jb8 {a b:ByteArray}:jeA a b=true↔a=b:=by
 unfold jeA
 rw[beq_iff_eq,ByteArray.toList_eq,ByteArray.toList_eq]
 constructor
 ·intro h
  obtain⟨x⟩:=a
  obtain⟨y⟩:=b
  simp only[Array.toList_inj]at h
  rw[h]
 ·intro h
  rw[h]
theorem jcU {a b:ByteArray}:jeA a b=false↔a≠b:=by
 rw[←Bool.not_eq_true,jb8]
theorem jdy (a:ByteArray):jeA a a=true:=jb8.2 rfl
def jan:List ByteArray→ByteArray→Int
 | [],_=>-1
 | x::l,s=>if jeA x s then 0 else let k:=jan l s;if k<0 then -1 else k+1
theorem jdh:∀(l:List ByteArray) (s:ByteArray) (k:Nat),(∀(j:Nat) (x:ByteArray),j<k→l[j]?=some x→jeA x s=false)→∀x,l[k]?=some x→jeA x s=true→jan l s=k
 | [],s,k,h,x,hx,hs=>by simp at hx
 | y::l,s,0,h,x,hx,hs=>by
  simp at hx
  subst hx
  simp[jan,hs]
 | y::l,s,k+1,h,x,hx,hs=>by
  have h0:=h 0 y (by omega) rfl
  have ih:=jdh l s k (fun j x hj hx=>h (j+1) x (by omega) (by simpa using hx)) x (by simpa using hx) hs
  simp only[jan,h0,ih]
  rw[if_neg (by simp),if_neg (by omega)]
  rfl
theorem jgQ:∀(l:List ByteArray) (s:ByteArray),(∀(j:Nat) (x:ByteArray),l[j]?=some x→jeA x s=false)→jan l s = -1
 | [],s,h=>rfl
 | y::l,s,h=>by
  have h0:=h 0 y rfl
  have ih:=jgQ l s (fun j x hx=>h (j+1) x (by simpa using hx))
  simp[jan,h0,ih]
theorem jeB:∀(l:List ByteArray) (s:ByteArray),-1≤jan l s∧jan l s<l.length
 | [],s=>by simp[jan]
 | y::l,s=>by
  have ih:=jeB l s
  simp only[jan,List.length_cons]
  split
  ·omega
  ·split<;>omega
theorem jdz (l:List ByteArray) (s:ByteArray):0≤jan l s↔s∈l:=by
 induction l with
 | nil=>simp[jan]
 | cons y l ih =>
  simp only[jan,List.mem_cons]
  cases h:jeA y s
  ·have:s≠y:=fun e=>by rw[e,jdy]at h;cases h
   simp only[this,false_or,←ih]
   simp
   split<;>omega
  ·have:s=y:=(jb8.1 h).symm
   simp[this]
theorem jmP (l:List ByteArray) (s:ByteArray) (k:Nat) (h:jan l s=k):l[k]?=some s:=by
 induction l generalizing k with
 | nil=>simp[jan]at h
 | cons y l ih =>
  simp only[jan]at h
  cases hs:jeA y s
  ·simp only[hs]at h
   simp at h
   split at h
   ·omega
   ·obtain⟨m,rfl⟩:∃m,k=m+1:=⟨k-1,by omega⟩
    rw[List.getElem?_cons_succ]
    exact ih m (by omega)
  ·simp only[hs]at h
   simp at h
   obtain rfl:k=0:=by omega
   rw[jb8.1 hs]
   rfl
def jcp (s:ByteArray):Bool:=decide (1≤s.size)&&decide (s.size≤64)&&(List.range s.size).all (fun i=>decide (33≤(s.data.toList.getD i 0).toNat)&&decide ((s.data.toList.getD i 0).toNat≤126))
def sAt (l:List ByteArray) (i:Nat):ByteArray:=l.getD i ⟨#[]⟩
theorem jl3 {l:List ByteArray}{i:Nat}{s:ByteArray}(h:l[i]?=some s):sAt l i=s:=by simp[sAt,List.getD_eq_getElem?_getD,h]
def jeC (l:List ByteArray) (i:Nat):Bool:=jcp (sAt l i) && !decide (0≤jan (l.take i) (sAt l i))
def jbR (m:Nat):List CD→Option Int
 | L=>L.foldl (fun t c=>t.bind fun t=>if t+1<c.link∨(m:Int)<c.link then none else some (max t c.link)) (some 0)
theorem jbU (m:Nat) (L:List CD) (c:CD):jbR m (L++[c])=(jbR m L).bind fun t=>if t+1<c.link∨(m:Int)<c.link then none else some (max t c.link):=by simp[jbR]
theorem jmQ (m:Nat) (L M:List CD) (h:jbR m L=none):jbR m (L++M)=none:=by
 induction M generalizing L with
 | nil=>simpa using h
 | cons c M ih =>
  rw[show L++c::M=(L++[c])++M by simp]
  exact ih _ (by rw[jbU,h];rfl)
def jci (L:List CD) (l:List ByteArray):Bool:=decide (l.length≤16)&&(List.range l.length).all (jeC l)&&decide (jbR l.length L=some (l.length:Int))
theorem jaK {α:Type}{l:List α}{k:Nat}{x:α}(h:l[k]?=some x):l.take (k+1)=l.take k++[x]:=by
 rw[List.take_add_one,h]
 rfl
def emptyS:ByteArray:=⟨#[]⟩
def jap (l:List ByteArray) (v:Int):ByteArray:=if v=0∨(l.length:Int)<v then emptyS else if jcp (sAt l (v-1).toNat) then sAt l (v-1).toNat else emptyS
theorem jl4 {s:ByteArray}(h:jcp s=true):s≠emptyS:=by
 rintro rfl
 have:jcp emptyS=false:=by decide
 rw[this]at h
 cases h
theorem isEmpty_iff (s:ByteArray):s.toList.isEmpty=true↔s=emptyS:=by
 rw[←jb8,List.isEmpty_iff]
 unfold jeA
 rw[beq_iff_eq]
 have:emptyS.toList=[]:=by rw[ByteArray.toList_eq];rfl
 rw[this]
theorem jcV {α:Type}{P:List α→Prop}(h0:P []) (hs:∀L c,P L→P (L++[c])) (L:List α):P L:=by
 have h:∀M:List α,P M.reverse:=fun M=>by
  induction M with
  | nil=>exact h0
  | cons c M ih=>rw[List.reverse_cons];exact hs _ _ ih
 have:=h L.reverse
 rwa [List.reverse_reverse]at this
def jbx (l acc:List ByteArray) (c:CD):List ByteArray:=if jap l c.link≠emptyS∧jan acc (jap l c.link)<0 then acc++[jap l c.link] else acc
def jah (l:List ByteArray) (L:List CD):List ByteArray:=L.foldl (jbx l) []
def jc2 (l m:List ByteArray) (v:Int):Int:=if jap l v=emptyS then 0 else jan m (jap l v)+1
def jbl (l m:List ByteArray) (c:CD):CD:=c.withLink (jc2 l m c.link)
theorem jaR (l:List ByteArray) (L:List CD) (c:CD):jah l (L++[c])=jbx l (jah l L) c:=by simp[jah]
theorem jmR (l acc:List ByteArray) (c:CD):acc <+: jbx l acc c:=by
 unfold jbx
 split
 ·exact List.prefix_append _ _
 ·exact List.prefix_rfl
theorem jhR (l:List ByteArray) (L M:List CD):jah l L <+: jah l (L++M):=by
 induction M using jcV with
 | h0=>rw[List.append_nil];exact List.prefix_rfl
 | hs M c ih =>
  rw[←List.append_assoc,jaR]
  exact ih.trans (jmR _ _ _)
theorem jfb {m:List ByteArray}{s:ByteArray}:jan m s<0↔s ∉ m:=by
 rw[←jdz]
 have:=jeB m s
 omega
theorem jhS:∀{m m':List ByteArray}{s:ByteArray},m <+: m'→s∈m→jan m' s=jan m s
 | [],m',s,_,hs=>by cases hs
 | y::m,m',s,⟨t,ht⟩,hs=>by
  subst ht
  simp only[List.cons_append,jan]
  cases he:jeA y s
  ·have h2:s∈m:=by
    rcases List.mem_cons.1 hs with e|e
    ·rw[←e,jdy]at he;cases he
    ·exact e
   rw[jhS (List.prefix_append m t) h2]
  ·rfl
def jfH (l:List ByteArray):Prop:=∀(i:Nat) (s:ByteArray),l[i]?=some s→jan l s=i
theorem jmS {m:List ByteArray}{s:ByteArray}(h:jfH m) (hs:jan m s<0):jfH (m++[s]):=fun i x hx=>by
 rcases Nat.lt_or_ge i m.length with hi|hi
 ·rw[List.getElem?_append_left hi]at hx
  rw[jhS (List.prefix_append m [s]) (List.mem_of_getElem? hx)]
  exact h i x hx
 ·rw[List.getElem?_append_right hi]at hx
  have hi0:i-m.length=0:=by
   rcases Nat.eq_zero_or_pos (i-m.length)with e|e
   ·exact e
   ·rw[List.getElem?_eq_none (by simp;omega)]at hx
    cases hx
  rw[hi0]at hx
  simp at hx
  subst hx
  obtain rfl:i=m.length:=by omega
  refine jdh _ _ _ (fun j y hj hy=>?_) s (by simp) (jdy s)
  rw[List.getElem?_append_left hj]at hy
  rw[jcU]
  rintro rfl
  exact (jfb.1 hs) (List.mem_of_getElem? hy)
theorem jfI (l:List ByteArray) (L:List CD):jfH (jah l L):=by
 induction L using jcV with
 | h0=>intro i s h;simp[jah]at h
 | hs L c ih =>
  rw[jaR]
  unfold jbx
  split
  ·rename_i h
   exact jmS ih h.2
  ·exact ih
theorem jgR {l:List ByteArray}{v:Int}(h:jap l v≠emptyS):v≠0∧v≤l.length∧jcp (jap l v)=true∧jap l v=sAt l (v-1).toNat:=by
 by_cases h0:v=0∨(l.length:Int)<v
 ·exact absurd (by unfold jap;rw[if_pos h0]) h
 ·cases hb:jcp (sAt l (v-1).toNat)
  ·exact absurd (by unfold jap;rw[if_neg h0,hb];rfl) h
  ·have key:jap l v=sAt l (v-1).toNat:=by unfold jap;rw[if_neg h0,if_pos hb]
   exact⟨fun e=>h0 (.inl e),by omega,by rw[key];exact hb,key⟩
theorem jgS (l:List ByteArray) (L:List CD):∀s∈jah l L,jcp s=true:=by
 induction L using jcV with
 | h0=>intro s h;simp[jah]at h
 | hs L c ih =>
  rw[jaR]
  unfold jbx
  split
  ·rename_i h
   intro s hs
   rcases List.mem_append.1 hs with e|e
   ·exact ih s e
   ·rw[List.mem_singleton.1 e]
    exact (jgR h.1).2.2.1
  ·exact ih
theorem jhT (l:List ByteArray) (L:List CD):(jah l L).length≤L.length:=by
 induction L using jcV with
 | h0=>simp[jah]
 | hs L c ih =>
  rw[jaR]
  unfold jbx
  split
  ·simp;omega
  ·simp;omega
theorem joA (l m:List ByteArray) (v:Int):0≤jc2 l m v∧jc2 l m v≤m.length:=by
 unfold jc2
 have:=jeB m (jap l v)
 split<;>omega
def jd5 (L:List CD) (l:List ByteArray):Bool:=decide (l.length≤16)&&(List.range L.length).all (fun i=>decide (jc2 l (jah l L) (cAt L i).link=(cAt L i).link))&&decide (jah l L=l)
theorem joB {l:List ByteArray}{i:Nat}{s:ByteArray}(h:l[i]?=some s) (hb:jcp s=true):jap l ((i:Int)+1)=s:=by
 have hi:i<l.length:=(List.getElem?_eq_some_iff.1 h).1
 unfold jap
 rw[if_neg (by omega),show ((i:Int)+1-1).toNat=i by omega,jl3 h,if_pos hb]
theorem jeD {l:List ByteArray}(h:jfH l){i t:Nat}{s:ByteArray}(hi:l[i]?=some s):s∈l.take t↔i<t:=by
 constructor
 ·intro hm
  obtain⟨j,hj⟩:=List.getElem?_of_mem hm
  have hjt:j<t:=by
   have:=(List.getElem?_eq_some_iff.1 hj).1
   simp at this
   omega
  rw[List.getElem?_take_of_lt hjt]at hj
  have h1:=h j s hj
  have h2:=h i s hi
  omega
 ·intro hlt
  refine List.mem_of_getElem? (i:=i) ?_
  rw[List.getElem?_take_of_lt hlt]
  exact hi
theorem jqM {m:Nat}{L:List CD}{t:Int}(h:jbR m L=some t):∀c∈L,c.link≤m:=by
 induction L using jcV generalizing t with
 | h0=>intro c hc;cases hc
 | hs L c ih =>
  rw[jbU]at h
  cases ht:jbR m L with
  | none=>rw[ht]at h;cases h
  | some t0 =>
   rw[ht]at h
   simp only[Option.bind_some]at h
   split at h
   ·cases h
   ·rename_i hn
    intro x hx
    rcases List.mem_append.1 hx with e|e
    ·exact ih ht x e
    ·rw[List.mem_singleton.1 e]
     omega
theorem joC {l:List ByteArray}(hl:∀(i:Nat) (s:ByteArray),l[i]?=some s→jcp s=true) (ha:jfH l){M:List CD}{t:Int}(h0:∀q∈M,0≤q.link) (h:jbR l.length M=some t) :
  0≤t∧t≤l.length∧jah l M=l.take t.toNat:=by
 induction M using jcV generalizing t with
 | h0 =>
  have e:t=0:=by
   have:jbR l.length []=some 0:=rfl
   rw[this]at h
   exact (Option.some.inj h).symm
  subst e
  exact⟨by omega,by omega,rfl⟩
 | hs M c ih =>
  rw[jbU]at h
  cases ht:jbR l.length M with
  | none=>rw[ht]at h;cases h
  | some t0 =>
   rw[ht]at h
   simp only[Option.bind_some]at h
   obtain⟨i1,i2,i3⟩:=ih (fun q hq=>h0 q (List.mem_append_left _ hq)) ht
   have hc:=h0 c (by simp)
   split at h
   ·cases h
   ·rename_i hn
    have ht1:t=max t0 c.link:=(Option.some.inj h).symm
    refine⟨by omega,by omega,?_⟩
    rw[jaR,i3]
    unfold jbx
    by_cases hz:c.link=0
    ·rw[if_neg (fun e=>(jgR e.1).1 hz)]
     congr 1
     omega
    ·obtain⟨k,hk⟩:∃k:Nat,c.link=(k:Int)+1:=⟨(c.link-1).toNat,by omega⟩
     obtain⟨s,hs⟩:∃s,l[k]?=some s:=⟨_,List.getElem?_eq_getElem (by omega)⟩
     have hle:jap l c.link=s:=by rw[hk];exact joB hs (hl k s hs)
     have hne:s≠emptyS:=jl4 (hl k s hs)
     rw[hle]
     by_cases hlt:k<t0.toNat
     ·rw[if_neg (fun e=>(jfb.1 e.2) ((jeD ha hs).2 hlt))]
      congr 1
      omega
     ·have hk2:k=t0.toNat:=by omega
      rw[if_pos ⟨hne,jfb.2 (fun e=>hlt ((jeD ha hs).1 e))⟩,show t.toNat=k+1 by omega,jaK hs,hk2]
theorem joD {l:List ByteArray}{L:List CD}(heq:jah l L=l) (hc:∀c∈L,jc2 l l c.link=c.link):∀M N:List CD,L=M++N→jbR l.length M=some ((jah l M).length:Int):=by
 have hl:∀(i:Nat) (s:ByteArray),l[i]?=some s→jcp s=true:=fun i s h=>jgS l L s (by rw[heq];exact List.mem_of_getElem? h)
 have ha:jfH l:=by have:=jfI l L;rwa [heq]at this
 intro M
 induction M using jcV with
 | h0=>intro N h;rfl
 | hs M c ih =>
  intro N h
  have i1:=ih (c::N) (by rw[h];simp)
  have hcc:=hc c (by rw[h];simp)
  have hp:jah l M <+: l:=by
   have:=jhR l M (c::N)
   rw[show M++c::N=L by rw[h];simp,heq]at this
   exact this
  have hp2:jah l (M++[c]) <+: l:=by
   have:=jhR l (M++[c]) N
   rw[←h,heq]at this
   exact this
  have hpl:=hp.length_le
  have htk:jah l M=l.take (jah l M).length:=List.prefix_iff_eq_take.1 hp
  rw[jbU,i1,Option.bind_some,jaR]
  rw[jaR]at hp2
  unfold jc2 at hcc
  by_cases he:jap l c.link=emptyS
  ·have e1:jbx l (jah l M) c=jah l M:=by unfold jbx;exact if_neg (fun e=>e.1 he)
   rw[if_pos he]at hcc
   rw[e1,if_neg (by omega)]
   congr 1
   omega
  ·rw[if_neg he]at hcc
   obtain⟨a1,a2,a3,a4⟩:=jgR he
   have hlo:=jeB l (jap l c.link)
   obtain⟨k,hk⟩:∃k:Nat,jan l (jap l c.link)=k:=⟨(jan l (jap l c.link)).toNat,by omega⟩
   have hs:=jmP l _ k hk
   by_cases hneg:jan (jah l M) (jap l c.link)<0
   ·have e1:jbx l (jah l M) c=jah l M++[jap l c.link]:=by unfold jbx;exact if_pos ⟨he,hneg⟩
    rw[e1]at hp2 ⊢
    have h1:l[(jah l M).length]?=some (jap l c.link):=by
     obtain⟨t,ht⟩:=hp2
     have h2:(jah l M++[jap l c.link]++t)[(jah l M).length]?=some (jap l c.link):=by simp
     rwa [ht]at h2
    have h2:=ha _ _ h1
    have hll:=(List.getElem?_eq_some_iff.1 h1).1
    rw[if_neg (by omega),List.length_append]
    congr 1
    simp
    omega
   ·have e1:jbx l (jah l M) c=jah l M:=by unfold jbx;exact if_neg (fun e=>hneg e.2)
    rw[e1]
    have hm:jap l c.link∈jah l M:=(jdz _ _).1 (by omega)
    rw[htk]at hm
    have hlt:=(jeD ha hs).1 hm
    rw[if_neg (by omega)]
    congr 1
    omega
theorem jqN (L:List CD) (l:List ByteArray) (h0:∀q∈L,0≤q.link):jd5 L l=jci L l:=by
 have mem_at:∀i,i<L.length→cAt L i∈L:=fun i hi=>by
  rw[jgP (List.getElem?_eq_getElem hi)]
  exact List.getElem_mem hi
 rw[Bool.eq_iff_iff]
 unfold jd5 jci
 simp only[Bool.and_eq_true,decide_eq_true_eq,List.all_eq_true,List.mem_range]
 constructor
 ·rintro⟨⟨h16,hc⟩,heq⟩
  have hl:∀(i:Nat) (s:ByteArray),l[i]?=some s→jcp s=true:=fun i s h=>jgS l L s (by rw[heq];exact List.mem_of_getElem? h)
  have ha:jfH l:=by have:=jfI l L;rwa [heq]at this
  refine⟨⟨h16,fun i hi=>?_⟩,?_⟩
  ·have hg:=List.getElem?_eq_getElem hi
   unfold jeC
   rw[jl3 hg,hl i _ hg]
   simp only[Bool.true_and,Bool.not_eq_true',decide_eq_false_iff_not]
   rw[jdz,jeD ha hg]
   omega
  ·have:=joD heq (fun c hcm=>by
    obtain⟨i,hi⟩:=List.getElem?_of_mem hcm
    have:=hc i (List.getElem?_eq_some_iff.1 hi).1
    rw[heq,jgP hi]at this
    exact this) L [] (by simp)
   rw[heq]at this
   exact this
 ·rintro⟨⟨h16,hall⟩,htop⟩
  have hl:∀(i:Nat) (s:ByteArray),l[i]?=some s→jcp s=true:=fun i s h=>by
   have:=hall i (List.getElem?_eq_some_iff.1 h).1
   unfold jeC at this
   rw[jl3 h]at this
   simp only[Bool.and_eq_true]at this
   exact this.1
  have ha:jfH l:=fun i s h=>by
   have hi:=(List.getElem?_eq_some_iff.1 h).1
   have:=hall i hi
   unfold jeC at this
   rw[jl3 h]at this
   simp only[Bool.and_eq_true,Bool.not_eq_true',decide_eq_false_iff_not]at this
   refine jdh l s i (fun j x hj hx=>?_) s h (jdy s)
   rw[jcU]
   rintro rfl
   refine this.2 ((jdz _ _).2 (List.mem_of_getElem? (i:=j) ?_))
   rw[List.getElem?_take_of_lt hj]
   exact hx
  obtain⟨_,_,hcan⟩:=joC hl ha h0 htop
  have heq:jah l L=l:=by rw[hcan,Int.toNat_natCast,List.take_of_length_le (Nat.le_refl _)]
  refine⟨⟨h16,fun i hi=>?_⟩,heq⟩
  have hm:=mem_at i hi
  have h1:=h0 _ hm
  have h2:=jqM htop _ hm
  rw[heq]
  unfold jc2
  by_cases hz:(cAt L i).link=0
  ·rw[if_pos (by unfold jap;rw[if_pos (.inl hz)]),hz]
  ·obtain⟨k,hk⟩:∃k:Nat,(cAt L i).link=(k:Int)+1:=⟨((cAt L i).link-1).toNat,by omega⟩
   obtain⟨s,hs⟩:∃s,l[k]?=some s:=⟨_,List.getElem?_eq_getElem (by omega)⟩
   have hle:jap l (cAt L i).link=s:=by rw[hk];exact joB hs (hl k s hs)
   rw[hle,if_neg (jl4 (hl k s hs)),ha k s hs,hk]
end
end Go.Proofs.YtienkkicehmchaaGreatDoor
