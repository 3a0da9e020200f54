/- Texts of this claim, merged by a program of this claim: ThereM. -/
import Derived.Test.YtienkkicehmchaaGreatDoorDo23
namespace Go.Proofs.YtienkkicehmchaaGreatDoor
open Int renaming toNat_natCast→qaa,toNat_of_nonneg→qab
open List renaming length_cons→qac,length_take→qae,length_append→qaf,length_drop→qag,drop_of_length_le→qah,cons_append→qaj,append_assoc→qak,drop_drop→qam,nil_append→qan,length_nil→qao
open Bool renaming and_eq_true→qad,or_eq_true→qal
open Nat renaming lt_or_ge→qai,le_refl→qap
set_option linter.unusedVariables false
set_option linter.unusedSimpArgs false
section
theorem ju2 (n:Nat):∀(i:Nat) (acc:Int) (R:List Int),i≤9→n<2 ^ (64-7*i)→(0<i→0<n)→varG (varN n++R) i acc=(0,acc+(n:Int)*2 ^ (7*i),i+(varN n).length):=by
 induction n using Nat.strongRecOn with
 | ind n ih =>
  intro i acc R hi hn hp
  by_cases h:n<128
  ·rw[jda h]
   simp only[qaj,qan,varG,List.length_singleton]
   rw[if_neg,if_pos (by omega)]
   rintro (⟨rfl,h2⟩|⟨h1,h2⟩)
   ·simp at hn;omega
   ·have:=hp h1;omega
  ·have hi9:i≤8:=by
    rcases qai i 9 with h9|h9
    ·omega
    ·obtain rfl:i=9:=by omega
     simp at hn;omega
   have hpw:2 ^ (64-7*i)=2 ^ (64-7*(i+1))*128:=by
    rw[show 64-7*i=(64-7*(i+1))+7 by omega,Nat.pow_add]
   have hlt:n / 128<2 ^ (64-7*(i+1)):=Nat.div_lt_of_lt_mul (by rw[hpw,Nat.mul_comm]at hn;exact hn)
   rw[jfU h]
   simp only[qaj,varG]
   rw[if_neg (by omega),if_neg (by omega),ih (n / 128) (by omega) (i+1) _ R (by omega) hlt (fun _=>by omega)]
   have e1:(n:Int)=((n % 128:Nat):Int)+128*((n / 128:Nat):Int):=by omega
   have e2:(2:Int) ^ (7*(i+1))=2 ^ (7*i)*128:=by rw[show 7*(i+1)=7*i+7 by omega,Int.pow_add];rfl
   rw[e2,qac]
   have e3:(((n % 128+128:Nat):Int)-128)=((n % 128:Nat):Int):=by omega
   rw[e3]
   generalize (2:Int) ^ (7*i)=p
   generalize ((n / 128:Nat):Int)=q at e1 ⊢
   generalize ((n % 128:Nat):Int)=t at e1 ⊢
   rw[e1]
   refine Prod.ext rfl (Prod.ext ?_ ?_)
   ·show acc+t*p+q*(p*128)=acc+(t+128*q)*p
    grind
   ·show i+1+_=i+(_+1)
    omega
theorem jaZ {d:List Int}{a n:Nat}{R:List Int}(h:d.drop a=varN n++R) (hn:n<18446744073709551616):varE d a=0∧varV d a=n∧d.drop (a+varU d a)=R:=by
 have e:=ju2 n 0 0 R (by omega) (by simpa using hn) (by omega)
 rw[←h]at e
 unfold varE varV varU
 rw[e]
 refine⟨rfl,by simp,?_⟩
 rw[←qam,h]
 simp
theorem jeZ {d:List Int}{a n:Nat}{R:List Int}{most:Int}(h:d.drop a=varN n++R) (hn:n<18446744073709551616) (hm:(n:Int)≤most):upE d a most=0:=by
 obtain⟨h1,h2,_⟩:=jaZ h hn
 unfold upE
 rw[if_neg (by simp[h1]),if_neg (by omega)]
theorem ju3 {d:List Int}{a:Nat}{bs R:List Int}(h:d.drop a=jf8 bs++R) (hn:bs.length≤64):jcv d a 64=0∧jdz d a 64=bs∧d.drop (a+jdA d a 64)=R:=by
 unfold jf8 at h
 rw[qak]at h
 obtain⟨h1,h2,h3⟩:=jaZ h (by omega)
 have hl:d.length-(a+varU d a)=bs.length+R.length:=by rw[←qag,h3,qaf]
 have hE:jcv d a 64=0:=by
  unfold jcv
  rw[if_neg (by simp[h1]),if_neg (by omega),if_neg (by omega)]
 refine⟨hE,?_,?_⟩
 ·unfold jdz
  rw[if_pos hE,h3,h2,qaa,List.take_left]
 ·unfold jdA
  rw[if_pos hE,h2,qaa,←Nat.add_assoc,←qam,h3,List.drop_left]
theorem jqO {d:List Int}{R:List Int}:∀(l:List ByteArray) (a:Nat) (m:List ByteArray),d.drop a=texB l++R→(∀s∈l,jca s=true)→∃a',lnkG d l.length a m=(0,a',m++l)∧d.drop a'=R
 | [],a,m,h,_=>⟨a,by simp[lnkG],by simpa[texB] using h⟩
 | s::l,a,m,h,hs=>by
  have h':d.drop a=jf8 (jac s)++(texB l++R):=by rw[h];simp[texB]
  have h64:(jac s).length≤64:=by rw[jay];exact jlr (hs s (by simp))
  obtain⟨e1,e2,e3⟩:=ju3 h' h64
  obtain⟨a',e4,e5⟩:=jqO l (a+jdA d a 64) (m++[s]) e3 (fun t ht=>hs t (by simp[ht]))
  refine⟨a',?_,e5⟩
  rw[qac,lnkG,if_neg (by simp[e1]),e2,ji5,if_neg (by simp[hs s (by simp)]),e4]
  simp
abbrev RS.at_ (s:RS) (a:Nat):RS:={ s with a:=a }
theorem jiJ {d:List Int}{kd last:Int}{B R:List Int}{s s':RS}{f:Nat}(hf:1≤f) (hd:d.drop s.a=B++R) (hl:last<kd) (hk:kd≤8)
  (h:(B=[]∧s'.at_ s.a=s)∨∃body,B=kd::body∧∀a,d.drop a=body++R→∃a',thG d kd (s.at_ a)=(0,s'.at_ a')∧d.drop a'=R) :
  ∃f' last' a',f≤f'+1∧last'≤kd∧goG d f last s=goG d f' last' (s'.at_ a')∧d.drop a'=R:=by
 rcases h with⟨rfl,h⟩|⟨body,rfl,h⟩
 ·exact⟨f,last,s.a,by omega,by omega,by rw[h],by simpa using hd⟩
 ·obtain⟨g,rfl⟩:∃g,f=g+1:=⟨f-1,by omega⟩
  have hlt:s.a<d.length:=by
   rcases qai s.a d.length with q|q
   ·exact q
   ·rw[qah q]at hd
    simp at hd
  rw[List.drop_eq_getElem_cons hlt,qaj]at hd
  injection hd with h1 h2
  have hg:d.getD s.a 0=kd:=by rw[List.getD_eq_getElem?_getD,List.getElem?_eq_getElem hlt,Option.getD_some,h1]
  obtain⟨a',h3,h4⟩:=h (s.a+1) h2
  refine⟨g,kd,a',by omega,by omega,?_,h4⟩
  rw[goG,if_neg (by omega),hg,if_neg (by omega)]
  show (if (thG d kd (s.at_ (s.a+1))).1≠0 then _ else goG d g kd (thG d kd (s.at_ (s.a+1))).2)=_
  rw[h3]
  rfl
theorem jA1 {d:List Int}{f:Nat}{last:Int}{s:RS}(h:d.drop s.a=[]):goG d f last s=(0,s):=by
 cases f with
 | zero=>rfl
 | succ f =>
  have:=qag (l:=d) (i:=s.a)
  rw[h]at this
  simp only[qao]at this
  rw[goG,if_pos (by omega)]
theorem jpz {L:List CD}{l:List ByteArray}(h:jbu L l=true):jhk l:=fun i s hi=>by
 have hl:=(List.getElem?_eq_some_iff.1 hi).1
 unfold jbu at h
 simp only[qad,List.all_eq_true,List.mem_range,decide_eq_true_eq]at h
 have:=h.1.2 i hl
 unfold jgh at this
 rw[jjX hi,qad,Bool.not_eq_true',decide_eq_false_iff_not]at this
 refine jeg l s i (fun j x hj hx=>?_) s hi (jef s)
 rw[jdi]
 rintro rfl
 refine this.2 ((jc9 _ _).2 (List.mem_of_getElem? (i:=j) ?_))
 rw[List.getElem?_take_of_lt hj]
 exact hx
theorem jA2 {L:List CD}{l:List ByteArray}(h:jbu L l=true):undL L l l=L:=by
 unfold undL
 refine (List.map_congr_left fun c hc=>?_).trans (List.map_id _)
 have hap:=jpz h
 unfold jbu at h
 simp only[qad,decide_eq_true_eq]at h
 have hle:=ji4 h.2 c hc
 unfold ulf
 split
 ·rename_i h0
  have hi:(c.link-1).toNat<l.length:=by omega
  have he:l[(c.link-1).toNat]?=some (sAt l (c.link-1).toNat):=by
   rw[jjX (List.getElem?_eq_getElem hi),List.getElem?_eq_getElem hi]
  rw[hap _ _ he,show (((c.link-1).toNat:Nat):Int)+1=c.link by omega]
  rfl
 ·rfl
theorem jom:∀l m:List ByteArray,m.take (comK l m)++l.drop (comK l m)=l
 | [],m=>by simp[comK]
 | x::l,[]=>by simp[comK]
 | x::l,y::m=>by
  unfold comK
  split
  ·rename_i e
   subst e
   simp[jom l m]
  ·simp
theorem jlF {A B:List (List CD)}{y z:Nat}:∀{n:Nat},jf9 A B y n=some z→z<n∧mAt A z=mAt B y
 | 0,h=>by cases h
 | n+1,h=>by
  unfold jf9 at h
  rcases e:jf9 A B y n with _|w
  ·rw[e]at h
   simp only[Option.none_or]at h
   split at h
   ·rename_i q
    cases h
    exact⟨by omega,q⟩
   ·cases h
  ·rw[e]at h
   cases h
   have:=jlF e
   exact⟨by omega,this.2⟩
theorem jmW {d:List Int}{k r:Nat}{A B:List (List CD)}{V:List CD}(hA:Rect A k r) (hB:Rect B k r) (hV:A.flatten=V) (hr:r≤24) (hrow:∀z,z<r→jax V k z=mAt A z) :
  ∀(y:Nat),y≤r→∀(n a:Nat) (R:List Int),d.drop a=jar (jak A B y).1++R→∃a',d.drop a'=R∧cpG d k r V ((jak A B y).1.length / 2+n) a 0 V=cpG d k r V n a' (jak A B y).2 (jbB A B y)
 | 0,hy,n,a,R,h=>⟨a,by simpa[jak,jar] using h,by simp[jak,jbB,hV]⟩
 | y+1,hy,n,a,R,h=>by
  have hyA:y<A.length:=by rw[hA.len];omega
  by_cases q:mAt A y=mAt B y
  ·have e:jak A B (y+1)=jak A B y:=by rw[jak,if_pos q]
   rw[e]at h ⊢
   rw[jct hyA (jgF hyA q)]
   exact jmW hA hB hV hr hrow y (by omega) n a R h
  ·rcases hz:jf9 A B y A.length with _|z
   ·have e:jak A B (y+1)=jak A B y:=by rw[jak,if_neg q,hz]
    rw[e]at h ⊢
    rw[jct hyA (by unfold jcc;rw[hz];rfl)]
    exact jmW hA hB hV hr hrow y (by omega) n a R h
   ·have e:jak A B (y+1)=((jak A B y).1++[y-(jak A B y).2,z],y+1):=by rw[jak,if_neg q,hz]
    obtain⟨hz1,hz2⟩:=jlF hz
    have hf:=jcG A B y
    have hev:=jeQ A B y
    rw[e]at h ⊢
    simp only at h ⊢
    rw[jhB,qak]at h
    obtain⟨a',h1,h2⟩:=jmW hA hB hV hr hrow y (by omega) (n+1) a _ h
    have hlen:((jak A B y).1++[y-(jak A B y).2,z]).length / 2+n=(jak A B y).1.length / 2+(n+1):=by
     simp only[qaf,qac,qao]
     omega
    have h1':d.drop a'=varN (y-(jak A B y).2)++(varN z++R):=by rw[h1];simp[jar]
    have hzr:z<r:=by rw[←hA.len];exact hz1
    obtain⟨v1,v2,v3⟩:=jaZ h1' (by omega)
    have u1:=jeZ (most:=(r:Int)-1-((jak A B y).2:Int)) h1' (by omega) (by omega)
    obtain⟨w1,w2,w3⟩:=jaZ v3 (by omega)
    have u2:=jeZ (most:=(r:Int)-1) v3 (by omega) (by omega)
    refine⟨_,w3,?_⟩
    rw[hlen,h2,cpG,if_neg (by simp[u1]),if_neg (by simp[u2]),v2,w2,qaa,qaa,hrow z hzr,hz2,show (jak A B y).2+(y-(jak A B y).2)=y by omega]
    have:=jj3 hA hB (show y<r by omega) (by unfold jcc;rw[hz];rfl)
    unfold jcg
    rw[this]
theorem jsj {A B:List (List CD)}{k r:Nat}(hA:Rect A k r):jbB A B r=((List.range r).map (jcc A B)).flatten:=by
 unfold jbB
 rw[qah (by rw[hA.len];exact qap _)]
 simp
theorem jgR {A B:List (List CD)}:∀(y:Nat),y≤A.length→(jak A B y).1=[]→jbB A B y=A.flatten
 | 0,_,_=>by simp[jbB]
 | y+1,hy,h=>by
  by_cases q:mAt A y=mAt B y
  ·rw[jak,if_pos q]at h
   rw[jct (by omega) (jgF (by omega) q),jgR y (by omega) h]
  ·rcases hz:jf9 A B y A.length with _|z
   ·rw[jak,if_neg q,hz]at h
    rw[jct (by omega) (by unfold jcc;rw[hz];rfl),jgR y (by omega) h]
   ·rw[jak,if_neg q,hz]at h
    simp at h
section
variable {C W:List CD}
def mix (C W:List CD) (i:Nat):List CD:=W.take i++C.drop i
theorem jku (hl:C.length=W.length) (i j:Nat):(mix C W i)[j]?=if j<i then W[j]? else C[j]?:=by
 unfold mix
 by_cases h:j<i
 ·rw[if_pos h]
  rcases qai j W.length with q|q
  ·rw[List.getElem?_append_left (by rw[qae];omega),List.getElem?_take_of_lt h]
  ·rw[List.getElem?_eq_none (l:=W) q,List.getElem?_eq_none]
   rw[qaf,qae,qag]
   omega
 ·rw[if_neg h]
  rcases qai i W.length with q|q
  ·rw[List.getElem?_append_right (by rw[qae];omega),List.getElem?_drop,qae]
   congr 1
   omega
  ·rw[List.getElem?_eq_none (l:=C) (by omega),List.getElem?_eq_none]
   rw[qaf,qae,qag]
   omega
theorem jif (hl:C.length=W.length){i:Nat}(hi:i≤W.length):(mix C W i).length=W.length:=by
 unfold mix
 rw[qaf,qae,qag]
 omega
theorem jpA (hl:C.length=W.length){i:Nat}(hi:W.length≤i):mix C W i=W:=by
 unfold mix
 rw[List.take_of_length_le hi,qah (by omega),List.append_nil]
theorem jmX {i:Nat}(h:jaj C W i=false):mix C W i=mix C W (i+jaa W i):=by
 unfold jaj at h
 simp only[Bool.not_eq_false',decide_eq_true_eq]at h
 unfold mix
 rw[List.take_add,qak,←h,←qam,List.take_append_drop]
theorem jkv (hl:C.length=W.length):∀(t i:Nat),W.length-i≤t→rem (jaj C W) (jaa W) W.length i=[]→mix C W i=W
 | 0,i,ht,_=>jpA hl (by omega)
 | t+1,i,ht,h=>by
  rcases qai i W.length with q|q
  ·rw[jcA (fun i=>(jao W i).1) q]at h
   cases ho:jaj C W i
   ·rw[ho]at h
    rw[jmX ho]
    have:=(jao W i).1
    exact jkv hl t _ (by omega) (by simpa using h)
   ·rw[ho]at h
    simp at h
  ·exact jpA hl q
structure Tell (W:List CD) (k:Nat) (nl:Nat):Prop where
 whole:Whole W
 may:∀i,i<W.length→mayB (cAt W i)=true
 pen:∀i,i<W.length→(cAt W i).wide=1→(cAt W (i+1)).pen=(cAt W i).pen
 fit:∀i,i<W.length→(cAt W i).wide=1→i % k+2≤k
 k1:1≤k
 wf:∀c∈W,CWf c
 link:∀c∈W,c.link≤nl
 small:W.length≤2000
def Bd (W:List CD) (i:Nat):Prop:=i<W.length→(cAt W i).wide≠2
theorem Tell.next {k nl:Nat}(h:Tell W k nl){i:Nat}(hi:i<W.length) (hb:(cAt W i).wide≠2):Bd W (i+jaa W i):=fun hj e=>by
 have h1:=h.whole.right _ hj e
 unfold jaa at h1 hj
 split at h1
 ·rename_i hw
  have h2:=(h.whole.left i hi hw).2
  rw[show i+2-1=i+1 by omega,h2]at h1
  omega
 ·rename_i hw
  rw[show i+1-1=i by omega]at h1
  exact hw h1.2
theorem jmY {k nl:Nat}(hT:Tell W k nl) (hl:C.length=W.length){x:Nat}{l:List Nat}:∀(t i:Nat),W.length-i≤t→Bd W i→rem (jaj C W) (jaa W) W.length i=x::l →
  mix C W i=mix C W x∧i≤x∧x<W.length∧jaj C W x=true∧Bd W x∧rem (jaj C W) (jaa W) W.length x=x::l∧l=rem (jaj C W) (jaa W) W.length (x+jaa W x)
 | 0,i,ht,_,h=>by rw[jgG (by omega)]at h;cases h
 | t+1,i,ht,hb,h=>by
  rcases qai i W.length with q|q
  ·have hs:=jcA (oth:=jaj C W) (fun i=>(jao W i).1) q
   have h0:=h
   rw[hs]at h
   cases ho:jaj C W i
   ·rw[ho]at h
    have:=(jao W i).1
    obtain⟨h1,h2,h3⟩:=jmY hT hl t _ (by omega) (hT.next q (hb q)) (by simpa using h)
    exact⟨(jmX ho).trans h1,by omega,h3⟩
   ·rw[ho]at h
    simp only[if_true,qaj,qan]at h
    injection h with e1 e2
    subst e1
    exact⟨rfl,qap _,q,ho,hb,h0,e2.symm⟩
  ·rw[jgG q]at h
   cases h
theorem jfF {c:CD}(h:mayB c=true) (h2:c.wide≠2):(c.wide=0∧Utf.width c.rune=1)∨(c.wide=1∧Utf.width c.rune=2):=by
 unfold mayB at h
 simp only[qad,qal,beq_iff_eq]at h
 rcases h.2 with (h|h)|h
 ·exact .inl h
 ·exact .inr h
 ·exact absurd h.1 h2
theorem jf1 {c:Int}(h:Utf.width c≠0):32≤c∧c≤1114111:=by
 unfold Utf.width at h
 by_cases hn:Utf.noWidth c=true
 ·rw[if_pos hn]at h
  exact absurd rfl h
 ·unfold Utf.noWidth at hn
  simp only[qal,decide_eq_true_eq,not_or]at hn
  omega
theorem jqP {c e:CD}(h1:c.rune=e.rune) (h2:c.wide=e.wide) (h3:c.pen=e.pen):c=e:=by
 obtain⟨a1,a2,a3,a4,a5,a6⟩:=c
 obtain⟨b1,b2,b3,b4,b5,b6⟩:=e
 simp only[CD.pen,PD.mk.injEq]at h1 h2 h3 ⊢
 simp[h1,h2,h3]
theorem je0 {i:Nat}(hi:i<W.length):W[i]?=some (cAt W i):=by
 rw[List.getElem?_eq_getElem hi,je7 (List.getElem?_eq_getElem hi)]
theorem jzL {k nl:Nat}(hT:Tell W k nl) (hl:C.length=W.length){i:Nat}(hi:i<W.length) (hb:(cAt W i).wide≠2) :
  putL (mix C W i) i (cAt W i).rune (Utf.width (cAt W i).rune) (cAt W i).pen=mix C W (i+jaa W i):=by
 have hm:=jfF (hT.may i hi) hb
 have hlen:=jif hl (Nat.le_of_lt hi)
 refine List.ext_getElem? fun j=>?_
 rw[jku hl]
 unfold putL jaa
 rcases hm with⟨h1,h2⟩|⟨h1,h2⟩
 ·have hwd:(if (cAt W i).wide=1 then 2 else 1)=1:=if_neg (by omega)
  rw[hwd,if_neg (by omega),List.getElem?_set,jku hl,hlen]
  by_cases hj:i=j
  ·subst hj
   rw[if_pos rfl,if_pos hi,if_pos (by omega),je0 hi]
   exact congrArg some (jqP rfl h1.symm rfl)
  ·rw[if_neg hj]
   by_cases h3:j<i
   ·rw[if_pos h3,if_pos (by omega)]
   ·rw[if_neg h3,if_neg (by omega)]
 ·obtain⟨g1,g2⟩:=hT.whole.left i hi h1
  have g3:=hT.pen i hi h1
  have g4:=hT.may (i+1) g1
  have g5:(cAt W (i+1)).rune=0:=by
   unfold mayB at g4
   simp only[qad,qal,beq_iff_eq]at g4
   rcases g4.2 with (h|h)|h
   ·omega
   ·omega
   ·exact h.2
  rw[if_pos h2,if_pos h1,List.getElem?_set,List.getElem?_set,jku hl,List.length_set,hlen]
  by_cases hj:i+1=j
  ·subst hj
   rw[if_pos rfl,if_pos g1,if_pos (by omega),je0 g1]
   exact congrArg some (jqP g5.symm g2.symm g3.symm)
  ·rw[if_neg hj]
   by_cases hj2:i=j
   ·subst hj2
    rw[if_pos rfl,if_pos hi,if_pos (by omega),je0 hi]
    exact congrArg some (jqP rfl h1.symm rfl)
   ·rw[if_neg hj2]
    by_cases h3:j<i
    ·rw[if_pos h3,if_pos (by omega)]
    ·rw[if_neg h3,if_neg (by omega)]
theorem jlG {k nl:Nat}(hT:Tell W k nl){i:Nat}(hi:i<W.length) (hb:(cAt W i).wide≠2):Utf.width (cAt W i).rune=jaa W i∧32≤(cAt W i).rune∧(cAt W i).rune≤1114111:=by
 have hm:=jfF (hT.may i hi) hb
 have h0:Utf.width (cAt W i).rune≠0:=by omega
 refine⟨?_,jf1 h0⟩
 unfold jaa
 split<;>omega
theorem jqQ {d:List Int}{k nl:Nat}(hT:Tell W k nl) (hl:C.length=W.length){p:PD}:∀(l:List Nat) (e a:Nat) (R:List Int),l=rem (jaj C W) (jaa W) W.length e→Bd W e→e≤W.length →
  d.drop a=jbE W (runP W p e l).1++R→∃a',d.drop a'=R∧letG d k p (runP W p e l).1.length a e (mix C W e)=(0,a',(runP W p e l).2.1,mix C W (runP W p e l).2.1) ∧
   (runP W p e l).2.2=rem (jaj C W) (jaa W) W.length (runP W p e l).2.1∧Bd W (runP W p e l).2.1∧(runP W p e l).2.1≤W.length
 | [],e,a,R,h,hb,he,hd=>⟨a,by simpa[runP,jbE] using hd,rfl,h,hb,he⟩
 | x::l,e,a,R,h,hb,he,hd=>by
  by_cases q:x=e∧(cAt W x).pen=p
  ·obtain⟨rfl,hp⟩:=q
   obtain⟨_,_,hx,ho,_,_,hr⟩:=jmY hT hl W.length x (by omega) hb h.symm
   have hrun:runP W p x (x::l)=((x::(runP W p (x+jaa W x) l).1),(runP W p (x+jaa W x) l).2):=by rw[runP,if_pos ⟨rfl,hp⟩]
   rw[hrun]at hd ⊢
   obtain⟨w1,w2,w3⟩:=jlG hT hx (hb hx)
   have hd':d.drop a=varN (cAt W x).rune.toNat++(jbE W (runP W p (x+jaa W x) l).1++R):=by rw[hd];simp[jbE]
   obtain⟨v1,v2,v3⟩:=jaZ hd' (by omega)
   have u1:=jeZ (most:=1114111) hd' (by omega) (by omega)
   obtain⟨a',r1,r2,r3,r4,r5⟩:=jqQ hT hl l (x+jaa W x) (a+varU d a) R hr (hT.next hx (hb hx)) (hT.whole.fits hx) v3
   refine⟨a',r1,?_,r3,r4,r5⟩
   have hv:varV d a=(cAt W x).rune:=by rw[v2];omega
   have hk:=hT.k1
   have hfit:(x % k:Nat)+jaa W x≤k:=by
    by_cases hw:(cAt W x).wide=1
    ·have:=hT.fit x hx hw
     unfold jaa
     rw[if_pos hw]
     exact this
    ·have:=Nat.mod_lt x hk
     unfold jaa
     rw[if_neg hw]
     omega
   have hwp:=jao W x
   rw[qac,letG,if_neg (by simp[u1]),hv,if_neg (by rw[jif hl (by omega)];omega),←hp,jzL hT hl hx (hb hx),w1,qaa,hp]
   exact r2
  ·have hrun:runP W p e (x::l)=([],e,x::l):=by rw[runP,if_neg q]
   rw[hrun]at hd ⊢
   exact⟨a,by simpa[jbE] using hd,rfl,h,hb,he⟩
theorem jja {d:List Int}{a n:Nat}{R:List Int}(h:d.drop a=varN n++R) (hn:n<4294967296) (hc:jcQ n=true):colE d a=0:=by
 have u:=jeZ (most:=4294967295) h (by omega) (by omega)
 obtain⟨_,v,_⟩:=jaZ h (by omega)
 unfold colE
 rw[if_neg (by simp[u]),v,if_pos hc]
theorem ju4 {d:List Int}{k nl:Nat}(hT:Tell W k nl) (hl:C.length=W.length) (hnl:nl≤16):∀(f e a:Nat) (R:List Int),(rem (jaj C W) (jaa W) W.length e).length≤f→Bd W e→e≤W.length →
  d.drop a=(layR W f e (rem (jaj C W) (jaa W) W.length e)).1++R→∃a',d.drop a'=R∧rnG d k nl (layR W f e (rem (jaj C W) (jaa W) W.length e)).2 a e (mix C W e)=(0,a',W)
 | f,e,a,R,hf,hb,he,hd=>by
  rcases hr:rem (jaj C W) (jaa W) W.length e with _|⟨x,l⟩
  ·rw[hr,jfW]at hd
   rw[jfW]
   exact⟨a,by simpa using hd,by rw[rnG,jkv hl _ _ (qap _) hr]⟩
  ·obtain⟨g,rfl⟩:∃g,f=g+1:=⟨f-1,by rw[hr,qac]at hf;omega⟩
   obtain⟨m1,m2,m3,m4,m5,m6,m7⟩:=jmY hT hl W.length e (by omega) hb hr
   rw[hr]at hd hf
   rw[layR]at hd ⊢
   obtain⟨p,hp⟩:∃p,(cAt W x).pen=p:=⟨_,rfl⟩
   rw[hp]at hd ⊢
   have hlen:=jbT W p (x::l) x
   have hpos:1≤(runP W p x (x::l)).1.length:=by
    have:=(jbD W x l).1
    rw[hp]at this
    rw[this,qac]
    omega
   have hcount:(runP W p x (x::l)).1.length≤W.length-x:=by
    have h1:(rem (jaj C W) (jaa W) W.length x).length≤W.length-x:=ji7 _ _
    rw[m6]at h1
    omega
   have hsm:=hT.small
   have hw:=hT.wf (cAt W x) (List.mem_of_getElem? (je0 m3))
   have hlk:=hT.link (cAt W x) (List.mem_of_getElem? (je0 m3))
   have hmay:=hT.may x m3
   have hpen:jcQ p.fg=true∧jcQ p.bg=true:=by
    unfold mayB at hmay
    rw[hp]at hmay
    simp only[qad]at hmay
    have:=hmay.1
    unfold penB at this
    simpa using this
   have f1:0≤p.fg∧p.fg<4294967296:=by rw[←hp];exact hw.fg
   have f2:0≤p.bg∧p.bg<4294967296:=by rw[←hp];exact hw.bg
   have f3:0≤p.attrs∧p.attrs<256:=by rw[←hp];exact hw.attrs
   have f4:0≤p.link∧p.link≤nl:=by rw[←hp];exact⟨hw.link.1,hlk⟩
   generalize hcnt:(runP W p x (x::l)).1.length=cnt at *
   have d0:d.drop a=varN (x-e)++(varN cnt++(varN p.fg.toNat++(varN p.bg.toNat++(varN p.attrs.toNat++(varN p.link.toNat++(jbE W (runP W p x (x::l)).1++((layR W g (runP W p x (x::l)).2.1 (runP W p x (x::l)).2.2).1++R))))))):=by
    rw[hd]
    simp[jar,penN]
   obtain⟨a1,a2,d1⟩:=jaZ d0 (by omega)
   have b1:=jeZ (most:=(W.length:Int)-e) d0 (by omega) (by omega)
   obtain⟨a3,a4,d2⟩:=jaZ d1 (by omega)
   have b2:=jeZ (most:=(W.length:Int)-x) d1 (by omega) (by omega)
   obtain⟨a5,a6,d3⟩:=jaZ d2 (by omega)
   have b3:=jja d2 (by omega) (by rw[qab f1.1];exact hpen.1)
   obtain⟨a7,a8,d4⟩:=jaZ d3 (by omega)
   have b4:=jja d3 (by omega) (by rw[qab f2.1];exact hpen.2)
   obtain⟨a9,a10,d5⟩:=jaZ d4 (by omega)
   have b5:=jeZ (most:=255) d4 (by omega) (by omega)
   obtain⟨a11,a12,d6⟩:=jaZ d5 (by omega)
   have b6:=jeZ (most:=nl) d5 (by omega) (by omega)
   have hH:hdG d a e W.length nl=⟨0,a+varU d a+varU d (a+varU d a)+varU d (a+varU d a+varU d (a+varU d a))+varU d (a+varU d a+varU d (a+varU d a)+varU d (a+varU d a+varU d (a+varU d a)))+varU d (a+varU d a+varU d (a+varU d a)+varU d (a+varU d a+varU d (a+varU d a))+varU d (a+varU d a+varU d (a+varU d a)+varU d (a+varU d a+varU d (a+varU d a))))+varU d (a+varU d a+varU d (a+varU d a)+varU d (a+varU d a+varU d (a+varU d a))+varU d (a+varU d a+varU d (a+varU d a)+varU d (a+varU d a+varU d (a+varU d a)))+varU d (a+varU d a+varU d (a+varU d a)+varU d (a+varU d a+varU d (a+varU d a))+varU d (a+varU d a+varU d (a+varU d a)+varU d (a+varU d a+varU d (a+varU d a))))),x,cnt,p⟩:=by
    unfold hdG
    simp only
    rw[if_neg (by simp[b1]),a2,qaa,show e+(x-e)=x by omega,if_neg (by simp[b2]),a4,if_neg (by omega),if_neg (by simp[b3]),if_neg (by simp[b4]),if_neg (by simp[b5]),if_neg (by simp[b6]),a6,a8,a10,a12,qaa,qab f1.1,qab f2.1,qab f3.1,qab f4.1]
   generalize hA:a+varU d a+varU d (a+varU d a)+varU d (a+varU d a+varU d (a+varU d a))+varU d (a+varU d a+varU d (a+varU d a)+varU d (a+varU d a+varU d (a+varU d a)))+varU d (a+varU d a+varU d (a+varU d a)+varU d (a+varU d a+varU d (a+varU d a))+varU d (a+varU d a+varU d (a+varU d a)+varU d (a+varU d a+varU d (a+varU d a))))+varU d (a+varU d a+varU d (a+varU d a)+varU d (a+varU d a+varU d (a+varU d a))+varU d (a+varU d a+varU d (a+varU d a)+varU d (a+varU d a+varU d (a+varU d a)))+varU d (a+varU d a+varU d (a+varU d a)+varU d (a+varU d a+varU d (a+varU d a))+varU d (a+varU d a+varU d (a+varU d a)+varU d (a+varU d a+varU d (a+varU d a)))))=b at d6 hH
   obtain⟨a',r1,r2,r3,r4,r5⟩:=jqQ hT hl (p:=p) (x::l) x b _ m6.symm m5 (by omega) d6
   rw[hcnt]at r2
   rw[r3]at r1 ⊢
   have hle:(rem (jaj C W) (jaa W) W.length (runP W p x (x::l)).2.1).length≤g:=by
    rw[←r3]
    rw[qac]at hf hlen
    omega
   obtain⟨a2',s1,s2⟩:=ju4 hT hl hnl g _ a' R hle r4 r5 r1
   refine⟨a2',s1,?_⟩
   rw[rnG,jif hl he,hH]
   simp only[ne_eq,not_true_eq_false,if_false]
   rw[m1,r2]
   simp only[ne_eq,not_true_eq_false,if_false]
   exact s2
end
end
end Go.Proofs.YtienkkicehmchaaGreatDoor
