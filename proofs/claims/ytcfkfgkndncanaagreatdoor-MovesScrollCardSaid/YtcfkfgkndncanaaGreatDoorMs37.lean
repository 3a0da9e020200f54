/- Texts of this claim, merged by a program of this claim: KeepM. -/
import Derived.Test.YtcfkfgkndncanaaGreatDoorMs36
namespace Go.Proofs.YtcfkfgkndncanaaGreatDoor
set_option linter.unusedVariables false
set_option linter.unusedSimpArgs false
section
structure Kept (d:List Int) (last:Int) (s:RS):Prop where
 rd:RdOk d s.a
 sz:Szd s.k s.r s.L
 nl:s.l.length≤16
 nm:s.more.length≤16
 wf:∀c∈s.L,CWf c
 lk:last<5→∀c∈s.L,c.link≤s.l.length
 gr:last<6→jbM s.k s.r s.L=true
 sl:∀t∈s.more,SLen t
 st:SLen s.ti
 ls:∀t∈s.l,SLen t
theorem Kept.up {d:List Int}{last kd:Int}{s:RS}(h:Kept d last s) (hk:last≤kd):Kept d kd s :=
 ⟨h.rd,h.sz,h.nl,h.nm,h.wf,fun q=>h.lk (by omega),fun q=>h.gr (by omega),h.sl,h.st,h.ls⟩
theorem jf1 {d:List Int}{a:Nat}(h:RdOk d a):RdOk d (a+varU d a):=⟨jbz h.1,h.2.1,h.2.2⟩
theorem jCD {d:List Int}{last:Int}{s:RS}(h:Kept d last s) (e:(th2 d s).1=0):Kept d last (th2 d s).2:=by
 unfold th2 at e ⊢
 split at e
 ·rename_i q
  exact absurd e q
 rename_i q1
 rw[if_neg q1]
 split at e
 ·rename_i q
  exact absurd e q
 rename_i q2
 rw[if_neg q2]
 split at e
 ·rename_i q
  exact absurd e q
 rename_i q3
 rw[if_neg q3]
 exact⟨jf1 (jf1 (jf1 h.rd)),h.sz,h.nl,h.nm,h.wf,h.lk,h.gr,h.sl,h.st,h.ls⟩
theorem jCE {d:List Int}{last:Int}{s:RS}(h:Kept d last s) (e:(th3 d s).1=0):Kept d last (th3 d s).2:=by
 unfold th3 at e ⊢
 split at e
 ·rename_i q
  exact absurd e q
 rename_i q1
 rw[if_neg q1]
 refine⟨⟨jst h.rd.1,h.rd.2.1,h.rd.2.2⟩,h.sz,h.nl,h.nm,h.wf,h.lk,h.gr,h.sl,?_,h.ls⟩
 have:=jlc d s.a 64
 have:=h.rd.2.1
 simp only[SLen,jdO]
 omega
theorem jCF {d:List Int}{last:Int}{s:RS}(h:Kept d last s) (e:(th4 d s).1=0):Kept d last (th4 d s).2:=by
 unfold th4 at e ⊢
 split at e
 ·rename_i q
  exact absurd e q
 rename_i q1
 rw[if_neg q1]
 exact⟨jf1 h.rd,h.sz,h.nl,h.nm,h.wf,h.lk,h.gr,h.sl,h.st,h.ls⟩
theorem jCG {d:List Int}{last:Int}{s:RS}(h:Kept d last s) (e:(th1 d s).1=0):Kept d last (th1 d s).2:=by
 unfold th1 at e ⊢
 split at e
 ·rename_i q
  exact absurd e q
 rename_i q1
 rw[if_neg q1]
 split at e
 ·rename_i q
  exact absurd e q
 rename_i q2
 rw[if_neg q2]
 split at e
 ·cases e
 rename_i q3
 rw[if_neg q3]
 have v1:=jaO h.rd.2.2 s.a
 have v2:=jaO h.rd.2.2 (s.a+varU d s.a)
 have s1:=not_or.mp q3
 have s2:=not_or.mp s1.2
 have n1:varV d s.a≠0:=fun z=>s2.2 (by rw[z,Int.zero_mul])
 have n2:varV d (s.a+varU d s.a)≠0:=fun z=>s2.2 (by rw[z,Int.mul_zero])
 have hg:=jjb (k:=(varV d s.a).toNat) (r:=(varV d (s.a+varU d s.a)).toNat) (by omega) (by omega)
 rw[Int.toNat_of_nonneg v1.1,Int.toNat_of_nonneg v2.1]at hg
 refine⟨jf1 (jf1 h.rd),⟨by dsimp only;omega,by dsimp only;omega,List.length_replicate⟩,Nat.zero_le _,Nat.zero_le _,fun c hc=>?_,fun _ c hc=>?_,fun _=>hg,fun t ht=>(by cases ht),(show SLen (bs []) by decide),fun t ht=>(by cases ht)⟩
 ·rw[List.eq_of_mem_replicate hc]
  constructor<;>decide
 ·rw[List.eq_of_mem_replicate hc]
  show blank0.link≤((0:Nat):Int)
  decide
theorem jq7 {c:CD}(h:CWf c){n:Int}(hn:0≤n∧n<65536):CWf (c.withLink n):=⟨h.rune,h.wide,h.fg,h.bg,h.attrs,hn⟩
theorem jCh {c:CD}{l m:List ByteArray}(h:CWf c) (hm:m.length≤16):CWf (ulf l m c):=by
 unfold ulf
 split
 ·have:=jdS m (sAt l (c.link-1).toNat)
  exact jq7 h (by omega)
 ·exact h
theorem jw3 {d:List Int}(h2:d.length≤1000000):∀(n a:Nat) (m:List ByteArray),(∀t∈m,SLen t)→∀t∈(lnkG d n a m).2.2,SLen t
 | 0,a,m,h=>h
 | n+1,a,m,h=>by
  simp only[lnkG]
  split
  ·intro t ht
   cases ht
  ·split
   ·intro t ht
    cases ht
   ·refine jw3 h2 n _ _ (fun t ht=>?_)
    rcases List.mem_append.1 ht with q|q
    ·exact h t q
    ·rw[List.mem_singleton.1 q]
     have:=jlc d a 64
     simp only[SLen,jdO]
     omega
theorem jw4 {d:List Int}{a:Nat}{l:List ByteArray}(h:RdOk d a) (hl:l.length≤16) (hs:∀t∈l,SLen t) (e:(lkG d a l).1=0):(lkG d a l).2.1≤d.length∧(lkG d a l).2.2.length≤16∧∀t∈(lkG d a l).2.2,SLen t:=by
 unfold lkG at e ⊢
 split at e
 ·rename_i q
  exact absurd e q
 rename_i q1
 rw[if_neg q1]
 split at e
 ·rename_i q
  exact absurd e q
 rename_i q2
 rw[if_neg q2]
 have u1:=jcq (Classical.not_not.mp q1)
 have u2:=jcq (Classical.not_not.mp q2)
 have v1:=jaO h.2.2 a
 have v2:=jaO h.2.2 (a+varU d a)
 have f:=jv1 (d:=d) (varV d (a+varU d a)).toNat (a+varU d a+varU d (a+varU d a)) (l.take (varV d a).toNat) (jf1 (jf1 h)).1 h.2.2
 refine⟨f.1,?_,jw3 h.2.1 _ _ _ (fun t ht=>hs t (List.mem_of_mem_take ht))⟩
 rw[f.2 e,List.length_take]
 omega
theorem jCH {d:List Int}{last:Int}{s:RS}(h:Kept d last s) (hl:last<5) (hs:∀t∈s.l,SLen t) (e:(th5 d s).1=0):Kept d 5 (th5 d s).2:=by
 unfold th5 at e ⊢
 split at e
 ·rename_i q
  exact absurd e q
 rename_i q1
 rw[if_neg q1]
 obtain⟨f1,f2,f3⟩:=jw4 h.rd h.nl hs (Classical.not_not.mp q1)
 refine⟨⟨f1,h.rd.2⟩,⟨h.sz.1,h.sz.2.1,by rw[List.length_map];exact h.sz.2.2⟩,h.nl,f2,fun c hc=>?_,fun q=>absurd q (by decide),fun _=>joV _ _ (h.gr (by omega)),f3,h.st,h.ls⟩
 obtain⟨c0,h0,rfl⟩:=List.mem_map.1 hc
 exact jCh (h.wf c0 h0) f2
theorem jw5 {L R:List CD}{o:Nat}(hL:∀c∈L,CWf c) (hR:∀c∈R,CWf c):∀c∈jgn L o R,CWf c:=fun c hc=>by
 unfold jgn at hc
 rcases List.mem_append.1 hc with q|q
 ·rcases List.mem_append.1 q with q|q
  ·exact hL c (List.mem_of_mem_take q)
  ·exact hR c q
 ·exact hL c (List.mem_of_mem_drop q)
theorem jzG {d:List Int}{k r:Nat}{was:List CD}(hw:∀c∈was,CWf c):∀(n a pos:Nat) (L:List CD),(∀c∈L,CWf c)→∀c∈(cpG d k r was n a pos L).2.2,CWf c
 | 0,a,pos,L,h=>h
 | n+1,a,pos,L,h=>by
  simp only[cpG]
  split
  ·intro c hc
   cases hc
  ·split
   ·intro c hc
    cases hc
   ·exact jzG hw n _ _ _ (jw5 h (fun c hc=>hw c (joQ hc)))
theorem jCI {d:List Int}{last:Int}{s:RS}(h:Kept d last s) (e:(th7 d s).1=0):Kept d 7 (th7 d s).2:=by
 unfold th7 at e ⊢
 split at e
 ·rename_i q
  exact absurd e q
 rename_i q1
 rw[if_neg q1]
 have e0:=Classical.not_not.mp q1
 have hl:=jw1 (d:=d) (a:=s.a) h.sz h.rd.2.2 h.rd.1 e0
 refine⟨⟨?_,h.rd.2⟩,⟨h.sz.1,h.sz.2.1,hl.trans h.sz.2.2⟩,h.nl,h.nm,?_,fun q=>absurd q (by decide),fun q=>absurd q (by decide),h.sl,h.st,h.ls⟩
 ·have hle:=h.rd.1
  revert e0
  unfold cpsG
  split
  ·exact fun e=>absurd e ‹_›
  ·exact fun _=>(jnt _ _ s.L h.sz.2.2 h.rd.2.2 _ _ _ _ (jbz hle) h.sz.2.2).1
 ·revert e0
  unfold cpsG
  split
  ·exact fun e=>absurd e ‹_›
  ·exact fun _=>jzG h.wf _ _ _ _ h.wf
def PWf (p:PD):Prop:=(0≤p.fg∧p.fg<4294967296)∧(0≤p.bg∧p.bg<4294967296)∧(0≤p.attrs∧p.attrs<256)∧(0≤p.link∧p.link<65536)
theorem jq8 {L:List CD}{i:Nat}{a:CD}(hL:∀c∈L,CWf c) (ha:CWf a):∀c∈L.set i a,CWf c:=fun c hc=>by
 rcases List.mem_or_eq_of_mem_set hc with q|q
 ·exact hL c q
 ·rw[q]
  exact ha
theorem jBh {L:List CD}{pos:Nat}{c w:Int}{p:PD}(hL:∀c∈L,CWf c) (hc:0≤c∧c≤1114111) (hp:PWf p):∀x∈putL L pos c w p,CWf x:=by
 obtain⟨p1,p2,p3,p4⟩:=hp
 unfold putL
 split
 ·exact jq8 (jq8 hL ⟨by dsimp only;omega,by dsimp only;omega,p1,p2,p3,p4⟩) ⟨by dsimp only;omega,by dsimp only;omega,p1,p2,p3,p4⟩
 ·exact jq8 hL ⟨by dsimp only;omega,by dsimp only;omega,p1,p2,p3,p4⟩
theorem jw6 {d:List Int}{k:Nat}{p:PD}(hb:Bts d) (hp:PWf p):∀(n a pos:Nat) (L:List CD),(∀c∈L,CWf c)→∀c∈(letG d k p n a pos L).2.2.2,CWf c
 | 0,a,pos,L,h=>h
 | n+1,a,pos,L,h=>by
  simp only[letG]
  split
  ·intro c hc
   cases hc
  ·rename_i q
   split
   ·intro c hc
    cases hc
   ·have u:=jcq (Classical.not_not.mp q)
    have v:=jaO hb a
    exact jw6 hb hp n _ _ _ (jBh h (by omega) hp)
theorem jBi {d:List Int}{a pos all nl:Nat}(hb:Bts d) (hn:nl≤16) (h:(hdG d a pos all nl).e=0):PWf (hdG d a pos all nl).p:=by
 obtain⟨a1,b1⟩:∃a1,a+varU d a=a1:=⟨_,rfl⟩
 obtain⟨a2,b2⟩:∃a2,a1+varU d a1=a2:=⟨_,rfl⟩
 obtain⟨a3,b3⟩:∃a3,a2+varU d a2=a3:=⟨_,rfl⟩
 obtain⟨a4,b4⟩:∃a4,a3+varU d a3=a4:=⟨_,rfl⟩
 obtain⟨a5,b5⟩:∃a5,a4+varU d a4=a5:=⟨_,rfl⟩
 by_cases t1:upE d a ((all:Int)-pos)=0
 case neg =>
  simp only[hdG,b1,b2,b3,b4,b5,t1,jez,ne_eq,not_true_eq_false,not_false_eq_true,if_true,if_false]at h
 by_cases t2:upE d a1 ((all:Int)-((pos+(varV d a).toNat:Nat):Int))=0
 case neg =>
  simp only[hdG,b1,b2,b3,b4,b5,t1,t2,jez,ne_eq,not_true_eq_false,not_false_eq_true,if_true,if_false]at h
 by_cases t3:varV d a1=0
 ·simp only[hdG,b1,b2,b3,b4,b5,t1,t2,t3,jez,ne_eq,not_true_eq_false,not_false_eq_true,if_true,if_false]at h
  cases h
 by_cases t4:colE d a2=0
 case neg =>
  simp only[hdG,b1,b2,b3,b4,b5,t1,t2,t3,t4,jez,ne_eq,not_true_eq_false,not_false_eq_true,if_true,if_false]at h
 by_cases t5:colE d a3=0
 case neg =>
  simp only[hdG,b1,b2,b3,b4,b5,t1,t2,t3,t4,t5,jez,ne_eq,not_true_eq_false,not_false_eq_true,if_true,if_false]at h
 by_cases t6:upE d a4 255=0
 case neg =>
  simp only[hdG,b1,b2,b3,b4,b5,t1,t2,t3,t4,t5,t6,jez,ne_eq,not_true_eq_false,not_false_eq_true,if_true,if_false]at h
 by_cases t7:upE d a5 nl=0
 case neg =>
  simp only[hdG,b1,b2,b3,b4,b5,t1,t2,t3,t4,t5,t6,t7,jez,ne_eq,not_true_eq_false,not_false_eq_true,if_true,if_false]at h
 simp only[hdG,b1,b2,b3,b4,b5,t1,t2,t3,t4,t5,t6,t7,ne_eq,not_true_eq_false,not_false_eq_true,if_true,if_false]
 have u4:=jcq (jsu t4)
 have u5:=jcq (jsu t5)
 have u6:=jcq t6
 have u7:=jcq t7
 have v2:=jaO hb a2
 have v3:=jaO hb a3
 have v4:=jaO hb a4
 have v5:=jaO hb a5
 refine⟨⟨v2.1,?_⟩,⟨v3.1,?_⟩,⟨v4.1,?_⟩,⟨v5.1,?_⟩⟩<;>dsimp only<;>omega
theorem jzH {d:List Int}{k nl:Nat}(hb:Bts d) (hn:nl≤16):∀(n a pos:Nat) (L:List CD),(∀c∈L,CWf c)→∀c∈(rnG d k nl n a pos L).2.2,CWf c
 | 0,a,pos,L,h=>h
 | n+1,a,pos,L,h=>by
  simp only[rnG]
  split
  ·intro c hc
   cases hc
  ·rename_i q
   split
   ·intro c hc
    cases hc
   ·exact jzH hb hn n _ _ _ (jw6 hb (jBi hb hn (Classical.not_not.mp q)) _ _ _ _ h)
theorem jCJ {d:List Int}{last:Int}{s:RS}(h:Kept d last s) (e:(th8 d s).1=0):Kept d 8 (th8 d s).2:=by
 unfold th8 at e ⊢
 split at e
 ·rename_i q
  exact absurd e q
 rename_i q1
 rw[if_neg q1]
 have e0:=Classical.not_not.mp q1
 have hl:=jw2 (d:=d) (a:=s.a) (k:=s.k.toNat) (nl:=s.more.length) h.rd.1 e0
 refine⟨⟨?_,h.rd.2⟩,⟨h.sz.1,h.sz.2.1,hl.trans h.sz.2.2⟩,h.nl,h.nm,?_,fun q=>absurd q (by decide),fun q=>absurd q (by decide),h.sl,h.st,h.ls⟩
 ·have hle:=h.rd.1
  revert e0
  unfold rnsG
  split
  ·exact fun e=>absurd e ‹_›
  ·exact fun _=>(jns _ _ _ _ _ _ (jbz hle)).1
 ·revert e0
  unfold rnsG
  split
  ·exact fun e=>absurd e ‹_›
  ·exact fun _=>jzH h.rd.2.2 h.nm _ _ _ _ h.wf
theorem jmp {k:Nat}:∀{r:Nat}{M:List (List CD)},Rect M k r→M.flatten.length=k*r
 | r,[],h=>by
  have:=h.len
  simp only[List.length_nil]at this
  subst this
  rfl
 | r,l::M,h=>by
  have hl:=h.len
  simp only[List.length_cons]at hl
  subst hl
  have ih:=jmp (k:=k) (r:=M.length) (M:=M) ⟨rfl,fun x hx=>h.row x (List.mem_cons_of_mem _ hx)⟩
  rw[List.flatten_cons,List.length_append,ih,h.row l List.mem_cons_self,Nat.mul_add,Nat.mul_one,Nat.add_comm]
theorem jy3 {L:List CD}(h:∀c∈L,CWf c) (j:Int):CWf (jfs L j):=by
 unfold jfs
 split
 ·rename_i q
  exact h _ (jcU (by omega))
 ·constructor<;>decide
theorem jCK {d:List Int}{last:Int}{s:RS}(h:Kept d last s) (e:(th6 d s).1=0):Kept d 6 (th6 d s).2:=by
 unfold th6 at e ⊢
 split at e
 ·rename_i q
  exact absurd e q
 rename_i q1
 rw[if_neg q1]
 split at e
 ·cases e
 rename_i q2
 rw[if_neg q2]
 have hf:=jmp (jjE (jbk h.sz.2.2) (jlk (varV d s.a)))
 refine⟨jf1 h.rd,⟨h.sz.1,h.sz.2.1,hf⟩,h.nl,h.nm,fun c hc=>?_,fun q=>absurd q (by decide),fun q=>absurd q (by decide),h.sl,h.st,h.ls⟩
 obtain⟨i,hi,rfl⟩:=List.mem_iff_getElem.1 hc
 have hi2:i<s.k.toNat*s.r.toNat:=by rw[←hf];exact hi
 have hk:=h.sz.1
 have:=jzF h.sz.2.2 (show 1≤s.k.toNat by omega) (jlk (varV d s.a)) hi2
 have hx:cAt (jcf (jam s.L s.k.toNat s.r.toNat) (jlk (varV d s.a))).flatten i=(jcf (jam s.L s.k.toNat s.r.toNat) (jlk (varV d s.a))).flatten[i]:=by simp[cAt,List.getD_eq_getElem?_getD,List.getElem?_eq_getElem hi]
 show CWf ((jcf (jam s.L s.k.toNat s.r.toNat) (jlk (varV d s.a))).flatten[i])
 rw[←hx,this]
 exact jy3 h.wf _
theorem jCL {d:List Int}{last kd:Int}{s:RS}(h:Kept d last s) (hl:last<kd) (hk:1≤kd∧kd≤8) (e:(thG d kd s).1=0):Kept d kd (thG d kd s).2:=by
 obtain rfl|rfl|rfl|rfl|rfl|rfl|rfl|rfl:kd=1∨kd=2∨kd=3∨kd=4∨kd=5∨kd=6∨kd=7∨kd=8:=by omega
 ·exact (jCG h e).up (by omega)
 ·exact (jCD h e).up (by omega)
 ·exact (jCE h e).up (by omega)
 ·exact (jCF h e).up (by omega)
 ·exact jCH h (by omega) h.ls e
 ·exact jCK h e
 ·exact jCI h e
 ·exact jCJ h e
def goG (d:List Int):Nat→Int→RS→Int×RS
 | 0,_,s=>(0,s)
 | f+1,last,s=>if d.length≤s.a then (0,s) else
  if d.getD s.a 0≤last∨8<d.getD s.a 0 then (3,.bad) else
  if (thG d (d.getD s.a 0) { s with a:=s.a+1 }).1≠0 then ((thG d (d.getD s.a 0) { s with a:=s.a+1 }).1,.bad) else
  goG d f (d.getD s.a 0) (thG d (d.getD s.a 0) { s with a:=s.a+1 }).2
theorem Kept.next {d:List Int}{last:Int}{s:RS}(h:Kept d last s) (ha:s.a<d.length):Kept d last { s with a:=s.a+1 }:=⟨⟨ha,h.rd.2⟩,h.sz,h.nl,h.nm,h.wf,h.lk,h.gr,h.sl,h.st,h.ls⟩
def jlJ:RS:=⟨0,0,[],0,0,false,0,bs [],[],[],0⟩
def apG (d:List Int) (s:RS):Int×RS :=
 if ja6 s.k s.r s.L s.x s.y s.mo s.ti s.l=false then (1,jlJ) else
 if (goG d 9 0 { s with more:=s.l,a:=0 }).1≠0 then ((goG d 9 0 { s with more:=s.l,a:=0 }).1,jlJ) else
 if ja6 (goG d 9 0 { s with more:=s.l,a:=0 }).2.k (goG d 9 0 { s with more:=s.l,a:=0 }).2.r (goG d 9 0 { s with more:=s.l,a:=0 }).2.L (goG d 9 0 { s with more:=s.l,a:=0 }).2.x (goG d 9 0 { s with more:=s.l,a:=0 }).2.y (goG d 9 0 { s with more:=s.l,a:=0 }).2.mo (goG d 9 0 { s with more:=s.l,a:=0 }).2.ti (goG d 9 0 { s with more:=s.l,a:=0 }).2.more=false then (3,jlJ) else
 (0,(goG d 9 0 { s with more:=s.l,a:=0 }).2)
end
end Go.Proofs.YtcfkfgkndncanaaGreatDoor
