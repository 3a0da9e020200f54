/- Texts of this claim, merged by a program of this claim: ECode, EWeak, EWeak2, EFn, ELift, EPure. -/
import Derived.Test.YtienkkicehmchaaGreatDoorDl3
namespace Go.Proofs.YtienkkicehmchaaGreatDoor
open Bool renaming and_eq_true→qaa,not_eq_true'→qah,or_eq_true→qbe
open List renaming contains_eq_mem→qab,mem_append_left→qac,singleton_append→qad,mem_append_right→qae,mem_append→qaf,map_cons→qag,map_nil→qai,mem_cons→qaj,mem_singleton→qak,mem_cons_of_mem→qal,append_assoc→qan,map_append→qao,cons_append→qap,length_cons→qaq,mem_cons_self→qar,all_eq_true→qat,not_mem_nil→qau,isEmpty_iff→qav,drop_zero→qaw,length_append→qaz,length_drop→qba,flatMap_def→qbb,append_nil→qbc,length_map→qbd,length_nil→qbf
open Option renaming map_eq_some_iff→qam
open Nat renaming zero_le→qas,add_assoc→qax,lt_of_lt_of_le→qay
noncomputable section
set_option linter.unusedVariables false
set_option linter.unusedSimpArgs false
section
open Go.RowKit
inductive PS where
 | o (d:Option Nat) (op:LOp)
 | g (c:Nat) (want:Bool) (L:List PS) (d:Nat) (x y:Opd)
 | n (d:Nat) (neg:Bool) (x:Opd)
 | b (c:Nat) (want:Bool) (L:List PS) (d:Nat) (x y:Opd)
deriving Inhabited
inductive LC where
 | skip
 | stm (ks:List Nat) (L:List PS)
 | reg (ks:List Nat) (L:List RO)
 | seq (a b:LC)
 | cond (c:Opd) (a b:LC)
 | block (id:Nat) (a:LC)
 | loop (a:LC)
 | exit (id:Nat)
 | ret
 | opq
deriving Inhabited
mutual
def jfj (gd:Option (Nat×Bool)):PS→List (Option Nat×Option (Nat×Bool)×LOp)
 | .n d neg x=>[(some d,gd,.cmpN 3 neg x)]
 | .o d op=>[(d,gd,op)]
 | .g c want L d x y=>jc5 (some (c,want)) L++[(some d,gd,.pick (.t c) x y)]
 | .b c want L d x y=>jc5 (some (c,want)) L++[(some d,gd,.pick (.t c) x y)]
def jc5 (gd:Option (Nat×Bool)):List PS→List (Option Nat×Option (Nat×Bool)×LOp)
 | []=>[]
 | o::r=>jfj gd o++jc5 gd r
end
def numb:Nat→List (Option Nat×Option (Nat×Bool)×LOp)→List RO
 | _,[]=>[]
 | i,o::r=>⟨i,o.1,o.2.1,o.2.2,false,true⟩::numb (i+1) r
mutual
def wr1:PS→List Nat
 | .n d _ _=>[d]
 | .o d _=>d.toList
 | .g _ _ L d _ _=>d::wrS L
 | .b _ _ L d _ _=>d::wrS L
def wrS:List PS→List Nat
 | []=>[]
 | o::r=>wr1 o++wrS r
end
def Opd.free (W:List Nat):Opd→Bool
 | .t n=>!W.contains n
 | .c _=>true
mutual
def ok1 (W:List Nat):PS→Bool
 | .n _ _ _=>true
 | .o d _=>d.isSome
 | .g c want L d x y=>W.contains c&&okS W L && !(wrS L).contains c&&(if want then y else x).free (wrS L)
 | .b c want L d x y=>W.contains c&&okS W L && !(wrS L).contains c&&(if want then y else x).free (wrS L)
def okS (W:List Nat):List PS→Bool
 | []=>true
 | o::r=>ok1 W o&&okS (wr1 o++W) r
end
mutual
def okT1:PS→Bool
 | .n _ _ _=>true
 | .o _ _=>true
 | .g c want L d x y=>okS [] L && !(wrS L).contains c&&(if want then y else x).free (wrS L)&&okT L
 | .b c want L d x y=>okS [] L && !(wrS L).contains c&&(if want then y else x).free (wrS L)&&okT L
def okT:List PS→Bool
 | []=>true
 | o::r=>okT1 o&&okT r
end
def chkC (P:Program) (eqs:List (TypeId×List IntKind)) (nt:NT):LC→Code→Bool
 | .skip,.skip=>true
 | .stm _ L,.region _ ops d=>!d&&okT L&&(numb 0 (jc5 none L)).all (jdw P eqs nt ops)&&(jc5 none L).length==ops.size
 | .reg _ L,.region _ ops d=>d&&jk5 P eqs nt ops L
 | .seq a b,.seq x y=>chkC P eqs nt a x&&chkC P eqs nt b y
 | .cond c a b,.cond u x y=>eqO u c&&chkC P eqs nt a x&&chkC P eqs nt b y
 | .block i a,.block j x=>i==j&&chkC P eqs nt a x
 | .loop a,.loop x=>chkC P eqs nt a x
 | .exit i,.exit j=>i==j
 | .ret,.ret=>true
 | .opq,_=>true
 | _,_=>false
theorem jro:∀(L:List (Option Nat×Option (Nat×Bool)×LOp)) (i:Nat),(numb i L).map RO.ix=List.range' i L.length
 | [],_=>rfl
 | o::r,i=>by
  simp only[numb,qag,jro r (i+1),qaq,List.range'_succ]
theorem jde:∀(L M:List (Option Nat×Option (Nat×Bool)×LOp)) (i:Nat),numb i (L++M)=numb i L++numb (i+L.length) M
 | [],_,_=>rfl
 | o::r,M,i=>by
  simp only[qap,numb,jde r M (i+1),qaq,qax,Nat.add_comm 1]
def Fr.sel (fr:Fr) (ks:List Nat):Fr:=ks.map fun k=>(k,fr.get k)
theorem Fr.get_sel (fr:Fr) (n:Nat):∀ks:List Nat,(fr.sel ks).get n=if n∈ks then fr.get n else .undef
 | []=>by simp[Fr.sel,Fr.get]
 | k::ks=>by
  have ih:=Fr.get_sel fr n ks
  simp only[Fr.sel,qag,Fr.get]at ih ⊢
  rw[ih]
  by_cases h:n=k
  ·subst h
   simp
  ·simp[h]
def Fr.del (W:List Nat):Fr→Fr
 | []=>[]
 | (k,x)::r=>if W.contains k then Fr.del W r else (k,x)::Fr.del W r
theorem Fr.get_del (W:List Nat):∀(fr:Fr) (n:Nat),(fr.del W).get n=if W.contains n then .undef else fr.get n
 | [],n=>by simp[Fr.del,Fr.get]
 | (k,x)::r,n=>by
  simp only[Fr.del]
  split
  ·rename_i e
   rw[Fr.get_del W r n]
   split
   ·rfl
   ·rename_i h
    simp only[Fr.get]
    grind
  ·rename_i e
   simp only[Fr.get,Fr.get_del W r n]
   grind
def gspl (c:CV) (b:Bool) (A B:Prop):Prop :=
 match c with
 | .bool t=>(t=b→A)∧(t≠b→B)
 | .tup []=>B
 | _=>False
def outK (v:Option (Prop×VOut)) (N:CV→KH→Prop) (K:CV→KH→Prop):Prop :=
 match v with
 | some (G,.val c h')=>G∧N c h'
 | some (G,.pan c h')=>G∧K c h'
 | none=>False
def wpR (X:Cx):RM→List RO→St→(St→Prop)→(CV→KH→Prop)→Prop
 | _,[],st,N,_=>N st
 | n,o::r,st,N,K =>
  let A:=outK (opV X o.op st.fr st.h) (fun c h'=>(o.pure=true→jjU n st.h h')∧wpR X (if rdB o.op=true then rdM o.op st.fr st.h n else n) r ⟨putF st.fr o.dst c,h'⟩ N K) (fun c h'=>o.last=true∧K c h')
  match o.gd with
  | none=>A
  | some (g,b)=>gspl (st.fr.get g) b A (wpR X (if rdB o.op=true then rdM o.op st.fr st.h n else n) r ⟨putF st.fr o.dst (.tup []),st.h⟩ N K)
mutual
def jeo (X:Cx) (h:KH):List PS→Fr→Option (Prop×Fr)
 | [],fr=>some (True,fr)
 | o::r,fr=>match jfz X h o fr with
  | some (G,fr')=>(match jeo X h r fr' with
   | some (G',fr'')=>some (G∧G',fr'')
   | none=>none)
  | none=>none
def jfz (X:Cx) (h:KH):PS→Fr→Option (Prop×Fr)
 | .o d op,fr=>match opV X op fr h with
  | some (G,.val c h')=>some (G∧h'=h,putF fr d c)
  | _=>none
 | .g c want L d x y,fr=>match fr.get c,jeo X h L fr with
  | .bool t,some (G,fr1)=>some (t=want→G,(fr.del (wrS L)).set d (jdt t (x.ev fr1) (y.ev fr1)))
  | _,_=>none
 | .b _ _ _ _ _ _,_=>none
 | .n _ _ _,_=>none
end
def gsp (c:CV) (b:Bool) (A B:Prop):Prop :=
 match c with
 | .bool t=>(t=b→A)∧(t≠b→B)
 | _=>False
def nilW (v:Option Prop) (K:Bool→Prop):Prop :=
 match v with
 | some G=>∀b:Bool,(G→b=false)→K b
 | none=>False
mutual
def wp1 (X:Cx):PS→St→(St→Prop)→(CV→KH→Prop)→Prop
 | .n d neg x,st,N,_=>nilW (jlW (x.ev st.fr)) fun b=>N ⟨st.fr.set d (.bool (if neg then !b else b)),st.h⟩
 | .o d op,st,N,K=>outK (opV X op st.fr st.h) (fun c h'=>N ⟨putF st.fr d c,h'⟩) K
 | .g c want L d x y,st,N,K=>match jfz X st.h (.g c want L d x y) st.fr with
  | some (G,fr')=>G∧N ⟨fr',st.h⟩
  | none=>False
 | .b c want L d x y,st,N,K=>gsp (st.fr.get c) want (wpS X L st (fun s=>N ⟨s.fr.set d ((if want then x else y).ev s.fr),s.h⟩) K) (N ⟨(st.fr.del (wrS L)).set d ((if want then y else x).ev st.fr),st.h⟩)
def wpS (X:Cx):List PS→St→(St→Prop)→(CV→KH→Prop)→Prop
 | [],st,N,_=>N st
 | o::r,st,N,K=>wp1 X o st (fun s=>wpS X r s N K) K
end
theorem jl7 {v:Option (Prop×VOut)}{N K:CV→KH→Prop}(h:outK v N K):∃G out,v=some (G,out)∧G∧(∀c h,out=.val c h→N c h)∧(∀c h,out=.pan c h→K c h):=by
 unfold outK at h
 split at h
 ·exact⟨_,_,rfl,h.1,(fun c h' e=>by grind),(fun c h' e=>by cases e)⟩
 ·exact⟨_,_,rfl,h.1,(fun c h' e=>by cases e),(fun c h' e=>by grind)⟩
 ·exact h.elim
theorem joP:∀(l:List Nat) (h:KH),onL l h h
 | [],_=>trivial
 | _::l,h=>⟨rfl,joP l h⟩
theorem jpW (n:RM) (h:KH):jjU n h h:=⟨rfl,joP _ _⟩
theorem jnJ {X:Cx}:∀(L:List RO) (n:RM) (st:St) (N:St→Prop) (K:CV→KH→Prop),wpR X n L st N K→∃(G:Prop) (out:Out),runR X n L st=some (G,out)∧G∧(∀st',out=.go st'→N st')∧(∀c h,out=.pan c h→K c h)
 | [],n,st,N,K,h=>⟨True,.go st,rfl,trivial,fun st' e=>by cases e;exact h,fun c h e=>by cases e⟩
 | o::r,n,st,N,K,h=>by
  have take:jaB o.gd st.fr=some true→outK (opV X o.op st.fr st.h) (fun c h'=>(o.pure=true→jjU n st.h h')∧wpR X (if rdB o.op=true then rdM o.op st.fr st.h n else n) r ⟨putF st.fr o.dst c,h'⟩ N K) (fun c h'=>o.last=true∧K c h')→∃(G:Prop) (out:Out),runR X n (o::r) st=some (G,out)∧G∧(∀st',out=.go st'→N st')∧(∀c h,out=.pan c h→K c h):=fun hg hA=>by
   obtain⟨G,out,e,hG,hv,hp⟩:=jl7 hA
   have hs:jaX X o st.fr st.h=some (G,out):=by simp only[jaX,hg,e]
   cases out with
   | val c h' =>
    obtain⟨q1,q2⟩:=hv c h' rfl
    obtain⟨G2,out2,e2,hG2,hN,hK⟩:=jnJ r _ _ N K q2
    exact⟨G∧(o.pure=true→jjU n st.h h')∧G2,out2,(by simp only[runR,hs,e2]),⟨hG,q1,hG2⟩,hN,hK⟩
   | pan c h' =>
    obtain⟨q1,q2⟩:=hp c h' rfl
    exact⟨G,.pan c h',(by simp only[runR,hs,q1,if_true]),hG,(fun st' e=>by cases e),(fun c h e=>by grind)⟩
  have skip:jaB o.gd st.fr=some false→wpR X (if rdB o.op=true then rdM o.op st.fr st.h n else n) r ⟨putF st.fr o.dst (.tup []),st.h⟩ N K→∃(G:Prop) (out:Out),runR X n (o::r) st=some (G,out)∧G∧(∀st',out=.go st'→N st')∧(∀c h,out=.pan c h→K c h):=fun hg hB=>by
   obtain⟨G2,out2,e2,hG2,hN,hK⟩:=jnJ r _ _ N K hB
   have hs:jaX X o st.fr st.h=some (True,.val (.tup []) st.h):=by simp only[jaX,hg]
   exact⟨True∧(o.pure=true→jjU n st.h st.h)∧G2,out2,(by simp only[runR,hs,e2]),⟨trivial,fun _=>jpW _ _,hG2⟩,hN,hK⟩
  simp only[wpR]at h
  cases hgd:o.gd with
  | none =>
   rw[hgd]at h
   exact take (by rw[hgd];rfl) h
  | some p =>
   obtain⟨g,b⟩:=p
   rw[hgd]at h
   simp only[gspl]at h
   split at h
   ·rename_i t ht
    by_cases e:t=b
    all_goals simp_all [jaB,if_true,if_false]
   all_goals grind [jaB]
section
variable {P:Program}{X:Cx}{z0 z:ZMap}{f0 f:LMap}{h0:KH}{w0 w:World}{a:Act}{ops:Array Oper}{Q:Exit→Act→World→Prop}{ds:DS}{nt:NT}
theorem FrOk.less {fr fr':Fr}(hf:FrOk z f fr a) (h:∀n,fr'.get n=.undef∨fr'.get n=fr.get n):FrOk z f fr' a:=fun n=>by
 rcases h n with e|e<;>rw[e]
 ·exact .undef _
 ·exact hf n
theorem Inv.less {st:St}{fr':Fr}(hi:Inv z0 f0 h0 w0 nt ds z f st a w) (h:∀n,fr'.get n=.undef∨fr'.get n=st.fr.get n):Inv z0 f0 h0 w0 nt ds z f ⟨fr',st.h⟩ a w:=⟨hi.d,hi.fr.less h,hi.stp,hi.nt,hi.nil⟩
theorem jdf (hX:CxOk P X){st:St}{o:RO}{G:Prop}{out:VOut}{K:Act→World→Prop}(hE:EnvOk X.E z) (hi:Inv z0 f0 h0 w0 nt ds z f st a w) (hfr:Free f st.h) (hc:jdw P X.eqs nt ops o=true) (hs:jaX X o st.fr st.h=some (G,out)) (hG:G)
  (hgo:∀c h' z' f' a' w',out=.val c h'→EnvOk X.E z'→Inv z0 f0 h0 w0 nt ds z' f' ⟨putF st.fr o.dst c,h'⟩ a' w'→Free f' h'→K a' w')
  (hpan:∀c h' v z' f' a' w',out=.pan c h'→EnvOk X.E z'→VRel z' f' c v→Desc z' f' h' w'→Stp z0 f0 h0 w0 z' f' h' w'→Free f' h'→held nt ds a'→Q (.panic [⟨v,false,false⟩]) a' w'):wpOp P ops Q o.ix K a w :=
 jev hX hE hi.d hi.fr hc hs hG (fun _ _ _ i hi2 _=>hfr i hi2) (fun c h' v w' z' f' e hv hd hst=>by
  have ext:=hst.ext' hfr
  exact hgo c h' z' f' (a.put o.dst v) w' e (hE.mono ext) ⟨hd,hi.fr.put ext hv (fun d e=>qay (jiw hc d e) hi.nt),hi.stp.trans hst,by rw[jh5];exact hi.nt,jh7 hi.nil (jh6 hc)⟩ (hst.free hfr)) (fun c h' v w' z' f' e hv hd hst=>hpan c h' v z' f' a w' e (hE.mono (hst.ext' hfr)) hv hd (hi.stp.trans hst) (hst.free hfr) hi.nil)
theorem jbM {gd:Option (Nat×Bool)}{fr:Fr}{d:Option Nat}(h:jaB gd fr=some false):jaB gd (putF fr d (.tup []))=some false:=by
 cases gd with
 | none=>cases h
 | some p =>
  obtain⟨g,b⟩:=p
  simp only[jaB]at h ⊢
  rw[jbz]
  grind
mutual
theorem jyo (hX:CxOk P X){hh:KH}:∀(o:PS) (gd:Option (Nat×Bool)) (W:List Nat) (i:Nat) (fr:Fr) (z:ZMap) (f:LMap) (a:Act) (w:World) (rest:List Nat),EnvOk X.E z→Inv z0 f0 h0 w0 nt ds z f ⟨fr,hh⟩ a w→Free f hh→jaB gd fr=some false→(∀n,W.contains n=true→fr.get n=.tup [])→ok1 W o=true →
  (∀q∈numb i (jfj gd o),jdw P X.eqs nt ops q=true) →
  (∀fr' z' f' a' w',EnvOk X.E z'→Inv z0 f0 h0 w0 nt ds z' f' ⟨fr',hh⟩ a' w'→Free f' hh→jaB gd fr'=some false→(∀n,(wr1 o++W).contains n=true→fr'.get n=.tup [])→(∀n,(wr1 o).contains n=false→fr'.get n=fr.get n)→wpOps P ops Q rest a' w') →
  wpOps P ops Q ((numb i (jfj gd o)).map RO.ix++rest) a w
 | .o d op,gd,W,i,fr,z,f,a,w,rest,hE,hi,hf,hg,hW,hok,hc,hk=>by
  simp only[jfj,numb,qag,qai,qad,wpOps_cons]at hc ⊢
  refine jdf (G:=True) (out:=.val (.tup []) hh) (o:=⟨i,d,gd,op,false,true⟩) hX hE hi hf (hc _ (by simp)) (by simp only[jaX,hg]) trivial (fun c h' z' f' a' w' e q1 q2 q3=>?_) (fun c h' v z' f' a' w' e=>by cases e)
  cases e
  refine hk _ z' f' a' w' q1 q2 q3 (jbM hg) (fun n hn=>?_) (fun n hn=>?_)
  ·rw[jbz]
   by_cases e:d=some n
   ·rw[if_pos e]
   simp_all [if_neg,wr1,qab,qaf,decide_eq_true_eq,Option.mem_toList]
  simp_all [jbz,if_neg,wr1]
 | .n d neg x,gd,W,i,fr,z,f,a,w,rest,hE,hi,hf,hg,hW,hok,hc,hk=>by
  simp only[jfj,numb,qag,qai,qad,wpOps_cons]at hc ⊢
  refine jdf (G:=True) (out:=.val (.tup []) hh) (o:=⟨i,some d,gd,.cmpN 3 neg x,false,true⟩) hX hE hi hf (hc _ (by simp)) (by simp only[jaX,hg]) trivial (fun c h' z' f' a' w' e q1 q2 q3=>?_) (fun c h' v z' f' a' w' e=>by cases e)
  cases e
  refine hk _ z' f' a' w' q1 q2 q3 (jbM hg) (fun n hn=>?_) (fun n hn=>?_)
  ·rw[jbz]
   by_cases e:some d=some n
   ·rw[if_pos e]
   ·rw[if_neg e]
    refine hW n ?_
    simp only[wr1,qab,qaf,decide_eq_true_eq,qak]at hn ⊢
    grind
  ·rw[jbz,if_neg]
   grind [wr1]
 | .g c want L d x y,gd,W,i,fr,z,f,a,w,rest,hE,hi,hf,hg,hW,hok,hc,hk=>by
  simp only[ok1,qaa]at hok
  obtain⟨⟨⟨hcW,hokL⟩,_⟩,_⟩:=hok
  simp only[jfj,jde,qao,qan]at hc ⊢
  have hgc:jaB (some (c,want)) fr=some false:=by simp only[jaB,hW c hcW]
  have gdkeep:∀fr':Fr,(∀n,(wrS L++W).contains n=true→fr'.get n=.tup [])→(∀n,(wrS L).contains n=false→fr'.get n=fr.get n)→jaB gd fr'=some false:=fun fr' h1 h2=>by
   cases gd with
   | none=>cases hg
   | some p =>
    obtain⟨g,b⟩:=p
    simp only[jaB]at hg ⊢
    grind
  refine jrp hX L (some (c,want)) W i fr z f a w _ hE hi hf hgc hW hokL (fun q hq=>hc q (qac _ hq)) (fun fr' z' f' a' w' q1 q2 q3 q4 q5 q6=>?_)
  simp only[numb,qag,qai,qad,wpOps_cons]
  have hg':=gdkeep fr' q5 q6
  refine jdf (G:=True) (out:=.val (.tup []) hh) (o:=⟨i+(jc5 (some (c,want)) L).length,some d,gd,.pick (.t c) x y,false,true⟩) hX q1 q2 q3 (hc _ (qae _ (by simp[numb]))) (by simp only[jaX,hg']) trivial (fun c' h' z' f' a' w' e r1 r2 r3=>?_) (fun c h' v z' f' a' w' e=>by cases e)
  cases e
  refine hk _ z' f' a' w' r1 r2 r3 (jbM hg') (fun n hn=>?_) (fun n hn=>?_)
  ·rw[jbz]
   by_cases e:d=n
   ·rw[if_pos (by rw[e])]
   ·rw[if_neg (fun q=>e (Option.some.inj q))]
    refine q5 n ?_
    simp only[wr1,qab,qaf,qaj,decide_eq_true_eq]at hn ⊢
    rcases hn with (q|q)|q
    ·exact absurd q.symm e
    ·exact .inl q
    ·exact .inr q
  ·simp only[wr1,qab,qaj,decide_eq_false_iff_not,not_or]at hn
   rw[jbz,if_neg (fun q=>hn.1 (Option.some.inj q).symm)]
   exact q6 n (by simpa using hn.2)
 | .b c want L d x y,gd,W,i,fr,z,f,a,w,rest,hE,hi,hf,hg,hW,hok,hc,hk=>by
  simp only[ok1,qaa]at hok
  obtain⟨⟨⟨hcW,hokL⟩,_⟩,_⟩:=hok
  simp only[jfj,jde,qao,qan]at hc ⊢
  have hgc:jaB (some (c,want)) fr=some false:=by simp only[jaB,hW c hcW]
  have gdkeep:∀fr':Fr,(∀n,(wrS L++W).contains n=true→fr'.get n=.tup [])→(∀n,(wrS L).contains n=false→fr'.get n=fr.get n)→jaB gd fr'=some false:=fun fr' h1 h2=>by
   cases gd with
   | none=>cases hg
   | some p =>
    obtain⟨g,b⟩:=p
    simp only[jaB]at hg ⊢
    grind
  refine jrp hX L (some (c,want)) W i fr z f a w _ hE hi hf hgc hW hokL (fun q hq=>hc q (qac _ hq)) (fun fr' z' f' a' w' q1 q2 q3 q4 q5 q6=>?_)
  simp only[numb,qag,qai,qad,wpOps_cons]
  have hg':=gdkeep fr' q5 q6
  refine jdf (G:=True) (out:=.val (.tup []) hh) (o:=⟨i+(jc5 (some (c,want)) L).length,some d,gd,.pick (.t c) x y,false,true⟩) hX q1 q2 q3 (hc _ (qae _ (by simp[numb]))) (by simp only[jaX,hg']) trivial (fun c' h' z' f' a' w' e r1 r2 r3=>?_) (fun c h' v z' f' a' w' e=>by cases e)
  cases e
  refine hk _ z' f' a' w' r1 r2 r3 (jbM hg') (fun n hn=>?_) (fun n hn=>?_)
  ·rw[jbz]
   by_cases e:d=n
   ·rw[if_pos (by rw[e])]
   ·rw[if_neg (fun q=>e (Option.some.inj q))]
    refine q5 n ?_
    simp only[wr1,qab,qaf,qaj,decide_eq_true_eq]at hn ⊢
    rcases hn with (q|q)|q
    ·exact absurd q.symm e
    ·exact .inl q
    ·exact .inr q
  ·simp only[wr1,qab,qaj,decide_eq_false_iff_not,not_or]at hn
   rw[jbz,if_neg (fun q=>hn.1 (Option.some.inj q).symm)]
   exact q6 n (by simpa using hn.2)
theorem jrp (hX:CxOk P X){hh:KH}:∀(L:List PS) (gd:Option (Nat×Bool)) (W:List Nat) (i:Nat) (fr:Fr) (z:ZMap) (f:LMap) (a:Act) (w:World) (rest:List Nat),EnvOk X.E z→Inv z0 f0 h0 w0 nt ds z f ⟨fr,hh⟩ a w→Free f hh→jaB gd fr=some false→(∀n,W.contains n=true→fr.get n=.tup [])→okS W L=true →
  (∀q∈numb i (jc5 gd L),jdw P X.eqs nt ops q=true) →
  (∀fr' z' f' a' w',EnvOk X.E z'→Inv z0 f0 h0 w0 nt ds z' f' ⟨fr',hh⟩ a' w'→Free f' hh→jaB gd fr'=some false→(∀n,(wrS L++W).contains n=true→fr'.get n=.tup [])→(∀n,(wrS L).contains n=false→fr'.get n=fr.get n)→wpOps P ops Q rest a' w') →
  wpOps P ops Q ((numb i (jc5 gd L)).map RO.ix++rest) a w
 | [],gd,W,i,fr,z,f,a,w,rest,hE,hi,hf,hg,hW,hok,hc,hk=>hk fr z f a w hE hi hf hg hW (fun _ _=>rfl)
 | o::r,gd,W,i,fr,z,f,a,w,rest,hE,hi,hf,hg,hW,hok,hc,hk=>by
  simp only[okS,qaa]at hok
  simp only[jc5,jde,qao,qan]at hc ⊢
  refine jyo hX o gd W i fr z f a w _ hE hi hf hg hW hok.1 (fun q hq=>hc q (qac _ hq)) (fun fr' z' f' a' w' q1 q2 q3 q4 q5 q6=>?_)
  refine jrp hX r gd (wr1 o++W) _ fr' z' f' a' w' rest q1 q2 q3 q4 q5 hok.2 (fun q hq=>hc q (qae _ hq)) (fun fr2 z2 f2 a2 w2 r1 r2 r3 r4 r5 r6=>hk fr2 z2 f2 a2 w2 r1 r2 r3 r4 (fun n hn=>r5 n ?_) (fun n hn=>?_))
  ·simp only[wrS,qab,qaf,decide_eq_true_eq]at hn ⊢
   grind
  simp_all [wrS,qab,qaf,decide_eq_false_iff_not,not_or]
end
mutual
theorem jdW {hh:KH}:∀(o:PS) (fr:Fr) (G:Prop) (fr':Fr),jfz X hh o fr=some (G,fr')→∀n,(wr1 o).contains n=false→fr'.get n=fr.get n
 | .o d op,fr,G,fr',h,n,hn=>by
  simp only[jfz]at h
  split at h
  ·cases h
   simp_all [jbz,if_neg,wr1]
  ·cases h
 | .g c want L d x y,fr,G,fr',h,n,hn=>by
  simp only[jfz]at h
  split at h
  ·cases h
   simp only[wr1,qab,qaj,decide_eq_false_iff_not,not_or]at hn
   simp_all [Fr.get_set,if_neg,Fr.get_del]
  ·cases h
 | .b _ _ _ _ _ _,fr,G,fr',h,n,hn=>by simp[jfz]at h
 | .n _ _ _,fr,G,fr',h,n,hn=>by simp[jfz]at h
theorem jiF {hh:KH}:∀(L:List PS) (fr:Fr) (G:Prop) (fr':Fr),jeo X hh L fr=some (G,fr')→∀n,(wrS L).contains n=false→fr'.get n=fr.get n
 | [],fr,G,fr',h,n,hn=>by
  grind [jeo,Option.some.injEq,Prod.mk.injEq]
 | o::r,fr,G,fr',h,n,hn=>by
  simp only[wrS,qab,qaf,decide_eq_false_iff_not,not_or]at hn
  simp only[jeo]at h
  split at h
  ·rename_i G1 fr1 e1
   split at h
   ·rename_i G2 fr2 e2
    cases h
    rw[jiF r fr1 G2 _ e2 n (by grind),jdW o fr G1 fr1 e1 n (by simpa using hn.1)]
   ·cases h
  ·cases h
end
theorem jh9 (t:Bool) (a b:CV):jdt t a b=if t then a else b:=by
 unfold jdt
 grind
theorem Opd.ev_free {W:List Nat}{fr fr':Fr}(h:∀n,W.contains n=false→fr'.get n=fr.get n){x:Opd}(hx:x.free W=true):x.ev fr'=x.ev fr:=by
 cases x with
 | t n=>exact h n (by simpa[Opd.free] using hx)
 | c v=>rfl
theorem jdy {gd:Option (Nat×Bool)}{fr fr':Fr}{W:List Nat}(h:jaB gd fr=some true) (hw:∀g b,gd=some (g,b)→W.contains g=false) (hf:∀n,W.contains n=false→fr'.get n=fr.get n):jaB gd fr'=some true:=by
 cases gd with
 | none=>rfl
 | some p =>
  obtain⟨g,b⟩:=p
  simp only[jaB]at h ⊢
  rw[hf g (hw g b rfl)]
  exact h
mutual
theorem jxN (hX:CxOk P X){hh:KH}:∀(o:PS) (gd:Option (Nat×Bool)) (i:Nat) (fr:Fr) (G:Prop) (fr':Fr) (z:ZMap) (f:LMap) (a:Act) (w:World) (rest:List Nat),EnvOk X.E z→Inv z0 f0 h0 w0 nt ds z f ⟨fr,hh⟩ a w→Free f hh→jaB gd fr=some true→(∀g b,gd=some (g,b)→(wr1 o).contains g=false)→okT1 o=true →
  jfz X hh o fr=some (G,fr')→G→(∀q∈numb i (jfj gd o),jdw P X.eqs nt ops q=true) →
  (∀z' f' a' w',EnvOk X.E z'→Inv z0 f0 h0 w0 nt ds z' f' ⟨fr',hh⟩ a' w'→Free f' hh→jaB gd fr'=some true→wpOps P ops Q rest a' w') →
  wpOps P ops Q ((numb i (jfj gd o)).map RO.ix++rest) a w
 | .o d op,gd,i,fr,G,fr',z,f,a,w,rest,hE,hi,hf,hg,hw,hok,hp,hG,hc,hk=>by
  have hfr:=jdW (.o d op) fr G fr' hp
  simp only[jfj,numb,qag,qai,qad,wpOps_cons]at hc ⊢
  simp only[jfz]at hp
  split at hp
  ·rename_i G1 c h' e
   cases hp
   refine jdf (G:=G1) (out:=.val c h') (o:=⟨i,d,gd,op,false,true⟩) hX hE hi hf (hc _ (by simp)) (by simp only[jaX,hg,e]) hG.1 (fun c' h2 z' f' a' w' e q1 q2 q3=>?_) (fun c h' v z' f' a' w' e=>by cases e)
   cases e
   obtain⟨_,rfl⟩:=hG
   exact hk z' f' a' w' q1 q2 q3 (jdy hg hw hfr)
  ·cases hp
 | .g c want L d x y,gd,i,fr,G,fr',z,f,a,w,rest,hE,hi,hf,hg,hw,hok,hp,hG,hc,hk=>by
  have hfr:=jdW (.g c want L d x y) fr G fr' hp
  simp only[okT1,qaa,qah]at hok
  obtain⟨⟨⟨hokS,hcL⟩,hfree⟩,hokT⟩:=hok
  simp only[jfj,jde,qao,qan]at hc ⊢
  have hwL:∀g b,gd=some (g,b)→(wrS L).contains g=false:=fun g b e=>by
   simp_all [wr1,qab,qaj,decide_eq_false_iff_not,not_or]
  simp only[jfz]at hp
  split at hp
  ·rename_i t G1 fr1 hct e1
   cases hp
   have hfr1:=jiF L fr G1 fr1 e1
   have fin:∀(F:Fr) (z':ZMap) (f':LMap) (a':Act) (w':World),(∀n,(wrS L).contains n=false→F.get n=fr.get n)→(if t then x else y).ev F=(if t then x else y).ev fr1→EnvOk X.E z'→Inv z0 f0 h0 w0 nt ds z' f' ⟨F,hh⟩ a' w'→Free f' hh →
     wpOps P ops Q ((numb (i+(jc5 (some (c,want)) L).length) [(some d,gd,LOp.pick (.t c) x y)]).map RO.ix++rest) a' w':=fun F z' f' a' w' hF hx q1 q2 q3=>by
    simp only[numb,qag,qai,qad,wpOps_cons]
    have hcF:F.get c=.bool t:=by rw[hF c (by simpa using hcL),hct]
    refine jdf (G:=True) (out:=.val (jdt t (x.ev F) (y.ev F)) hh) (o:=⟨i+(jc5 (some (c,want)) L).length,some d,gd,.pick (.t c) x y,false,true⟩) hX q1 q2 q3 (hc _ (qae _ (by simp[numb]))) (by simp only[jaX,jdy hg hwL hF,opV,jaf,Opd.ev,hcF]) trivial (fun c' h2 z2 f2 a2 w2 e r1 r2 r3=>?_) (fun c h' v z' f' a' w' e=>by cases e)
    cases e
    have hv:jdt t (x.ev F) (y.ev F)=jdt t (x.ev fr1) (y.ev fr1):=by
     rw[jh9,jh9]
     cases t<;>exact hx
    rw[hv]at r2
    refine hk z2 f2 a2 w2 r1 (r2.less (fun n=>?_)) r3 (jdy hg hw hfr)
    simp only[putF,Fr.get_set,Fr.get_del]
    grind
   by_cases htw:t=want
   ·refine jxO hX L (some (c,want)) i fr G1 fr1 z f a w _ hE hi hf (by simp only[jaB,hct,htw,if_true]) (fun g b e=>by grind) hokT e1 (hG htw) (fun q hq=>hc q (qac _ hq)) (fun z' f' a' w' q1 q2 q3 q4=>?_)
    grind
   ·refine jrp hX L (some (c,want)) [] i fr z f a w _ hE hi hf (by simp only[jaB,hct,htw,if_false]) (fun n hn=>by simp at hn) hokS (fun q hq=>hc q (qac _ hq)) (fun F z' f' a' w' q1 q2 q3 q4 q5 q6=>?_)
    refine fin F z' f' a' w' q6 ?_ q1 q2 q3
    have ht:(if t then x else y)=(if want then y else x):=by
     cases t<;>cases want<;>first|rfl|exact absurd rfl htw
    grind [Opd.ev_free]
  ·cases hp
 | .b _ _ _ _ _ _,gd,i,fr,G,fr',z,f,a,w,rest,hE,hi,hf,hg,hw,hok,hp,hG,hc,hk=>by simp[jfz]at hp
 | .n _ _ _,gd,i,fr,G,fr',z,f,a,w,rest,hE,hi,hf,hg,hw,hok,hp,hG,hc,hk=>by simp[jfz]at hp
theorem jxO (hX:CxOk P X){hh:KH}:∀(L:List PS) (gd:Option (Nat×Bool)) (i:Nat) (fr:Fr) (G:Prop) (fr':Fr) (z:ZMap) (f:LMap) (a:Act) (w:World) (rest:List Nat),EnvOk X.E z→Inv z0 f0 h0 w0 nt ds z f ⟨fr,hh⟩ a w→Free f hh→jaB gd fr=some true→(∀g b,gd=some (g,b)→(wrS L).contains g=false)→okT L=true →
  jeo X hh L fr=some (G,fr')→G→(∀q∈numb i (jc5 gd L),jdw P X.eqs nt ops q=true) →
  (∀z' f' a' w',EnvOk X.E z'→Inv z0 f0 h0 w0 nt ds z' f' ⟨fr',hh⟩ a' w'→Free f' hh→jaB gd fr'=some true→wpOps P ops Q rest a' w') →
  wpOps P ops Q ((numb i (jc5 gd L)).map RO.ix++rest) a w
 | [],gd,i,fr,G,fr',z,f,a,w,rest,hE,hi,hf,hg,hw,hok,hp,hG,hc,hk=>by
  simp only[jeo,Option.some.injEq,Prod.mk.injEq]at hp
  obtain⟨_,rfl⟩:=hp
  exact hk z f a w hE hi hf hg
 | o::r,gd,i,fr,G,fr',z,f,a,w,rest,hE,hi,hf,hg,hw,hok,hp,hG,hc,hk=>by
  simp only[okT,qaa]at hok
  simp only[jc5,jde,qao,qan]at hc ⊢
  have hw2:∀g b,gd=some (g,b)→(wr1 o).contains g=false∧(wrS r).contains g=false:=fun g b e=>by
   simp_all [wrS,qab,qaf,decide_eq_false_iff_not,not_or]
  simp only[jeo]at hp
  split at hp
  ·rename_i G1 fr1 e1
   split at hp
   ·rename_i G2 fr2 e2
    cases hp
    refine jxN hX o gd i fr G1 fr1 z f a w _ hE hi hf hg (fun g b e=>(hw2 g b e).1) hok.1 e1 hG.1 (fun q hq=>hc q (qac _ hq)) (fun z' f' a' w' q1 q2 q3 q4=>?_)
    exact jxO hX r gd _ fr1 G2 _ z' f' a' w' rest q1 q2 q3 q4 (fun g b e=>(hw2 g b e).2) hok.2 e2 hG.2 (fun q hq=>hc q (qae _ hq)) hk
   ·cases hp
  ·cases hp
end
theorem jpX {eqs:List (TypeId×List IntKind)}{op:Op}{kind:Nat}{neg:Bool}{x:Opd}(h:jlV P eqs op (.cmpN kind neg x)=true):∃op' t u v yt,op=.binOp op' t u (.const v) yt∧(if neg then op' == .neq else op' == .eql)=true∧eqO u x=true∧jgO P t v kind=true:=by
 cases op with
 | binOp op' t u v yt =>
  cases v with
  | const v =>
   simp only[jlV,qaa]at h
   grind
  | _=>simp[jlV]at h
 | _=>simp[jlV]at h
theorem juh (hX:CxOk P X){st:St}{i d:Nat}{gd:Option (Nat×Bool)}{neg:Bool}{x:Opd}{G:Prop}{K:Act→World→Prop}(hE:EnvOk X.E z) (hi:Inv z0 f0 h0 w0 nt ds z f st a w) (hfr:Free f st.h) (hc:jdw P X.eqs nt ops ⟨i,some d,gd,.cmpN 3 neg x,false,true⟩=true) (hg:jaB gd st.fr=some true) (hx:jlW (x.ev st.fr)=some G)
  (hgo:∀b z' f' a' w',(G→b=false)→EnvOk X.E z'→Inv z0 f0 h0 w0 nt ds z' f' ⟨st.fr.set d (.bool (if neg then !b else b)),st.h⟩ a' w'→Free f' st.h→K a' w'):wpOp P ops Q i K a w:=by
 have hd:=jiw hc
 have hlo:=jh6 hc
 unfold jdw at hc
 unfold wpOp
 split at hc
 ·rename_i oo hoo
  simp only at hoo
  simp only[hoo]
  simp only[qaa,beq_iff_eq]at hc
  obtain⟨⟨⟨hdst,_⟩,hgd⟩,hop⟩:=hc
  have hw:Region.wanted oo (yielded ops a.tmps)=true:=jet (o:=⟨i,some d,gd,.cmpN 3 neg x,false,true⟩) hi.fr hgd hg
  rw[hw]
  simp only[if_true]
  refine .inl ?_
  obtain⟨dst,op,ty,pos,after,guard⟩:=oo
  simp only at hop hdst
  obtain⟨op',t,u,v,yt,rfl,p1,p2,p3⟩:=jpX (by simpa only [jgS] using hop)
  obtain⟨b,hb,v',w',z',f',q1,q2,q3,q4⟩:=jt2 (dst:=dst) (ty:=ty) (pos:=pos) (after:=after) (guard:=guard) (yt:=yt) hi.d hi.fr p1 p2 p3 hx
  have ext:=q4.ext' hfr
  have fin:K (a.put dst v') w':=hgo b z' f' _ w' hb (hE.mono ext) ⟨q3,by
   rw[hdst]
   exact hi.fr.put ext q2 (fun e he=>qay (hd e he) hi.nt),hi.stp.trans q4,by rw[jh5];exact hi.nt,jh7 hi.nil (by grind)⟩ (q4.free hfr)
  unfold Oper.wp
  rcases q1 with e|⟨e,rfl⟩
  all_goals grind [Oper.upon_value,Oper.upon_skip]
 ·cases hc
mutual
theorem stm1 (hX:CxOk P X):∀(o:PS) (gd:Option (Nat×Bool)) (i:Nat) (st:St) (z:ZMap) (f:LMap) (a:Act) (w:World) (rest:List Nat) (N:St→Prop) (K:CV→KH→Prop),EnvOk X.E z→Inv z0 f0 h0 w0 nt ds z f st a w→Free f st.h→jaB gd st.fr=some true→(∀g b,gd=some (g,b)→(wr1 o).contains g=false)→okT1 o=true→wp1 X o st N K→(∀q∈numb i (jfj gd o),jdw P X.eqs nt ops q=true) →
  (∀st' z' f' a' w',N st'→(∀n,(wr1 o).contains n=false→st'.fr.get n=st.fr.get n)→EnvOk X.E z'→Inv z0 f0 h0 w0 nt ds z' f' st' a' w'→Free f' st'.h→wpOps P ops Q rest a' w') →
  (∀c h' v z' f' a' w',K c h'→EnvOk X.E z'→VRel z' f' c v→Desc z' f' h' w'→Stp z0 f0 h0 w0 z' f' h' w'→Free f' h'→held nt ds a'→Q (.panic [⟨v,false,false⟩]) a' w') →
  wpOps P ops Q ((numb i (jfj gd o)).map RO.ix++rest) a w
 | .o d op,gd,i,st,z,f,a,w,rest,N,K,hE,hi,hf,hg,hw,hok,h,hc,hk,hpan=>by
  simp only[jfj,numb,qag,qai,qad,wpOps_cons]at hc ⊢
  simp only[wp1]at h
  obtain⟨G,out,e,hG,hv,hp⟩:=jl7 h
  refine jdf (G:=G) (out:=out) (o:=⟨i,d,gd,op,false,true⟩) hX hE hi hf (hc _ (by simp)) (by simp only[jaX,hg,e]) hG (fun c h' z' f' a' w' e q1 q2 q3=>?_) (fun c h' v z' f' a' w' e q1 q2 q3 q4 q5 q6=>hpan c h' v z' f' a' w' (hp c h' e) q1 q2 q3 q4 q5 q6)
  refine hk _ z' f' a' w' (hv c h' e) (fun n hn=>?_) q1 q2 q3
  simp_all [jbz,if_neg,wr1]
 | .n d neg x,gd,i,st,z,f,a,w,rest,N,K,hE,hi,hf,hg,hw,hok,h,hc,hk,hpan=>by
  simp only[jfj,numb,qag,qai,qad,wpOps_cons]at hc ⊢
  simp only[wp1,nilW]at h
  split at h
  ·rename_i G hx
   refine juh (d:=d) (neg:=neg) (x:=x) hX hE hi hf (hc _ (by simp)) hg hx (fun b z' f' a' w' hb q1 q2 q3=>?_)
   refine hk _ z' f' a' w' (h b hb) (fun n hn=>?_) q1 q2 q3
   simp_all [Fr.get_set,if_neg,wr1]
  ·exact h.elim
 | .g c want L d x y,gd,i,st,z,f,a,w,rest,N,K,hE,hi,hf,hg,hw,hok,h,hc,hk,hpan=>by
  simp only[wp1]at h
  split at h
  ·rename_i G fr' e
   exact jxN hX (.g c want L d x y) gd i st.fr G fr' z f a w rest hE hi hf hg hw hok e h.1 hc (fun z' f' a' w' q1 q2 q3 q4=>hk ⟨fr',st.h⟩ z' f' a' w' h.2 (jdW _ _ _ _ e) q1 q2 q3)
  grind
 | .b c want L d x y,gd,i,st,z,f,a,w,rest,N,K,hE,hi,hf,hg,hw,hok,h,hc,hk,hpan=>by
  simp only[okT1,qaa,qah]at hok
  obtain⟨⟨⟨hokS,hcL⟩,hfree⟩,hokT⟩:=hok
  simp only[jfj,jde,qao,qan]at hc ⊢
  simp only[wp1]at h
  have hwL:∀g b,gd=some (g,b)→(wrS L).contains g=false:=fun g b e=>by
   simp_all [wr1,qab,qaj,decide_eq_false_iff_not,not_or]
  unfold gsp at h
  split at h
  ·rename_i t hct
   have fin:∀(F:St) (z':ZMap) (f':LMap) (a':Act) (w':World) (V:Fr),(∀n,(wrS L).contains n=false→F.fr.get n=st.fr.get n)→EnvOk X.E z'→Inv z0 f0 h0 w0 nt ds z' f' F a' w'→Free f' F.h→N ⟨V.set d ((if t then x else y).ev F.fr),F.h⟩→(∀n,V.get n=.undef∨V.get n=F.fr.get n)→(∀n,(wrS L).contains n=false→V.get n=F.fr.get n) →
     wpOps P ops Q ((numb (i+(jc5 (some (c,want)) L).length) [(some d,gd,LOp.pick (.t c) x y)]).map RO.ix++rest) a' w':=fun F z' f' a' w' V hF q1 q2 q3 hN hV hV2=>by
    simp only[numb,qag,qai,qad,wpOps_cons]
    have hcF:F.fr.get c=.bool t:=by rw[hF c (by simpa using hcL),hct]
    refine jdf (G:=True) (out:=.val (jdt t (x.ev F.fr) (y.ev F.fr)) F.h) (o:=⟨i+(jc5 (some (c,want)) L).length,some d,gd,.pick (.t c) x y,false,true⟩) hX q1 q2 q3 (hc _ (qae _ (by simp[numb]))) (by simp only[jaX,jdy hg hwL hF,opV,jaf,Opd.ev,hcF]) trivial (fun c' h2 z2 f2 a2 w2 e r1 r2 r3=>?_) (fun c h' v z' f' a' w' e=>by cases e)
    cases e
    have hv:jdt t (x.ev F.fr) (y.ev F.fr)=(if t then x else y).ev F.fr:=by
     rw[jh9]
     cases t<;>rfl
    rw[hv]at r2
    refine hk _ z2 f2 a2 w2 hN (fun n hn=>?_) r1 (r2.less (fun n=>?_)) r3
    ·simp only[wr1,qab,qaj,decide_eq_false_iff_not,not_or]at hn
     simp_all [Fr.get_set,if_neg]
    ·simp only[putF,Fr.get_set]
     grind
   by_cases htw:t=want
   ·refine stmS hX L (some (c,want)) i st z f a w _ _ K hE hi hf (by simp only[jaB,hct,htw,if_true]) (fun g b e=>by grind) hokT (h.1 htw) (fun q hq=>hc q (qac _ hq)) (fun F z' f' a' w' hN hF q1 q2 q3=>?_) hpan
    grind
   ·refine jrp hX L (some (c,want)) [] i st.fr z f a w _ hE hi hf (by simp only[jaB,hct,htw,if_false]) (fun n hn=>by simp at hn) hokS (fun q hq=>hc q (qac _ hq)) (fun F z' f' a' w' q1 q2 q3 q4 q5 q6=>?_)
    have ht:(if t then x else y)=(if want then y else x):=by
     cases t<;>cases want<;>first|rfl|exact absurd rfl htw
    refine fin ⟨F,st.h⟩ z' f' a' w' (st.fr.del (wrS L)) q6 q1 q2 q3 ?_ (fun n=>?_) (fun n hn=>?_)
    ·grind [Opd.ev_free]
    ·simp only[Fr.get_del]
     grind
    simp_all [Fr.get_del,if_neg]
  ·exact h.elim
theorem stmS (hX:CxOk P X):∀(L:List PS) (gd:Option (Nat×Bool)) (i:Nat) (st:St) (z:ZMap) (f:LMap) (a:Act) (w:World) (rest:List Nat) (N:St→Prop) (K:CV→KH→Prop),EnvOk X.E z→Inv z0 f0 h0 w0 nt ds z f st a w→Free f st.h→jaB gd st.fr=some true→(∀g b,gd=some (g,b)→(wrS L).contains g=false)→okT L=true→wpS X L st N K→(∀q∈numb i (jc5 gd L),jdw P X.eqs nt ops q=true) →
  (∀st' z' f' a' w',N st'→(∀n,(wrS L).contains n=false→st'.fr.get n=st.fr.get n)→EnvOk X.E z'→Inv z0 f0 h0 w0 nt ds z' f' st' a' w'→Free f' st'.h→wpOps P ops Q rest a' w') →
  (∀c h' v z' f' a' w',K c h'→EnvOk X.E z'→VRel z' f' c v→Desc z' f' h' w'→Stp z0 f0 h0 w0 z' f' h' w'→Free f' h'→held nt ds a'→Q (.panic [⟨v,false,false⟩]) a' w') →
  wpOps P ops Q ((numb i (jc5 gd L)).map RO.ix++rest) a w
 | [],gd,i,st,z,f,a,w,rest,N,K,hE,hi,hf,hg,hw,hok,h,hc,hk,hpan=>by
  simp only[wpS]at h
  exact hk st z f a w h (fun _ _=>rfl) hE hi hf
 | o::r,gd,i,st,z,f,a,w,rest,N,K,hE,hi,hf,hg,hw,hok,h,hc,hk,hpan=>by
  simp only[okT,qaa]at hok
  simp only[wpS]at h
  simp only[jc5,jde,qao,qan]at hc ⊢
  have hw2:∀g b,gd=some (g,b)→(wr1 o).contains g=false∧(wrS r).contains g=false:=fun g b e=>by
   simp_all [wrS,qab,qaf,decide_eq_false_iff_not,not_or]
  refine stm1 hX o gd i st z f a w _ _ K hE hi hf hg (fun g b e=>(hw2 g b e).1) hok.1 h (fun q hq=>hc q (qac _ hq)) (fun st' z' f' a' w' hN hF q1 q2 q3=>?_) hpan
  refine stmS hX r gd _ st' z' f' a' w' rest N K q1 q2 q3 (jdy hg (fun g b e=>(hw2 g b e).1) hF) (fun g b e=>(hw2 g b e).2) hok.2 hN (fun q hq=>hc q (qae _ hq)) (fun st2 z2 f2 a2 w2 hN2 hF2 r1 r2 r3=>hk st2 z2 f2 a2 w2 hN2 (fun n hn=>?_) r1 r2 r3) hpan
  simp_all [wrS,qab,qaf,decide_eq_false_iff_not,not_or]
end
theorem jwo (hX:CxOk P X){N:St→Prop}{K:CV→KH→Prop}(L:List PS) (i:Nat) (st:St) (z:ZMap) (f:LMap) (a:Act) (w:World) (hE:EnvOk X.E z) (hi:Inv z0 f0 h0 w0 nt ds z f st a w) (hf:Free f st.h) (hok:okT L=true) (h:wpS X L st N K) (hc:∀q∈numb i (jc5 none L),jdw P X.eqs nt ops q=true)
  (hgo:∀st' z' f' a' w',N st'→EnvOk X.E z'→Inv z0 f0 h0 w0 nt ds z' f' st' a' w'→Free f' st'.h→Q .normal a' w')
  (hpan:∀c h' v z' f' a' w',K c h'→EnvOk X.E z'→VRel z' f' c v→Desc z' f' h' w'→Stp z0 f0 h0 w0 z' f' h' w'→Free f' h'→held nt ds a'→Q (.panic [⟨v,false,false⟩]) a' w') :
  wpOps P ops Q ((numb i (jc5 none L)).map RO.ix) a w:=by
 have:=stmS hX L none i st z f a w [] N K hE hi hf rfl (fun g b e=>by cases e) hok h hc (fun st' z' f' a' w' hN _ q1 q2 q3=>hgo st' z' f' a' w' hN q1 q2 q3) hpan
 rwa [qbc]at this
end
inductive EX where
 | norm
 | exit (id:Nat)
 | ret
 | pan (c:CV)
structure Env where
 P:Program
 X:Cx
 nt:NT
 ds:DS
 n0:Nat
 ok:CxOk P X
 mixed:P.follows .mixedOrders=true
inductive Post (V:Env) (Q:EX→St→Prop) (z0:ZMap) (f0:LMap) (h0:KH) (w0:World):Exit→Act→World→Prop
 | norm {st:St}{z:ZMap}{f:LMap}{a:Act}{w:World}(hE:EnvOk V.X.E z) (hi:Inv z0 f0 h0 w0 V.nt V.ds z f st a w) (hf:Free f st.h) (q:Q .norm st):Post V Q z0 f0 h0 w0 .normal a w
 | exit {st:St}{z:ZMap}{f:LMap}{a:Act}{w:World}(id:Nat) (hE:EnvOk V.X.E z) (hi:Inv z0 f0 h0 w0 V.nt V.ds z f st a w) (hf:Free f st.h) (q:Q (.exit id) st):Post V Q z0 f0 h0 w0 (.exit id) a w
 | ret {st:St}{z:ZMap}{f:LMap}{a:Act}{w:World}(hE:EnvOk V.X.E z) (hi:Inv z0 f0 h0 w0 V.nt V.ds z f st a w) (hf:Free f st.h) (q:Q .ret st):Post V Q z0 f0 h0 w0 .ret a w
 | pan {c:CV}{h:KH}{v:Value}{z:ZMap}{f:LMap}{a:Act}{w:World}(hE:EnvOk V.X.E z) (hv:VRel z f c v) (hd:Desc z f h w) (hs:Stp z0 f0 h0 w0 z f h w) (hf:Free f h) (hds:held V.nt V.ds a) (q:Q (.pan c) ⟨[],h⟩):Post V Q z0 f0 h0 w0 (.panic [⟨v,false,false⟩]) a w
structure T (V:Env) (c:LC) (Q:EX→St→Prop) (st:St):Prop where
 run:∀(code:Code),chkC V.P V.X.eqs V.nt c code=true→∀(z0:ZMap) (f0:LMap) (h0:KH) (w0:World) (z:ZMap) (f:LMap) (a:Act) (w:World),h0.length=V.n0→Free f0 h0→EnvOk V.X.E z→Inv z0 f0 h0 w0 V.nt V.ds z f st a w→Free f st.h→code.wp V.P (Post V Q z0 f0 h0 w0) a w
def seqQ (K:St→Prop) (Q:EX→St→Prop):EX→St→Prop
 | .norm,s=>K s
 | e,s=>Q e s
def blkQ (id:Nat) (Q:EX→St→Prop):EX→St→Prop
 | .exit j,s=>if j=id then Q .norm s else Q (.exit j) s
 | e,s=>Q e s
def wpB (c:CV) (K:Bool→Prop):Prop :=
 match c with
 | .bool b=>K b
 | _=>False
section
variable {V:Env}{Q Q':EX→St→Prop}{st:St}
theorem Post.mono {z0:ZMap}{f0:LMap}{h0:KH}{w0:World}(h:∀e s,Q e s→Q' e s){e:Exit}{a:Act}{w:World}(p:Post V Q z0 f0 h0 w0 e a w):Post V Q' z0 f0 h0 w0 e a w:=by
 cases p with
 | norm hE hi hf q=>exact .norm hE hi hf (h _ _ q)
 | exit id hE hi hf q=>exact .exit id hE hi hf (h _ _ q)
 | ret hE hi hf q=>exact .ret hE hi hf (h _ _ q)
 | pan hE hv hd hs hf hds q=>exact .pan hE hv hd hs hf hds (h _ _ q)
theorem T.mono {c:LC}(t:T V c Q st) (h:∀e s,Q e s→Q' e s):T V c Q' st:=.mk fun code hc z0 f0 h0 w0 z f a w h1 h2 h3 h4 h5=>wp_mono (t.run code hc z0 f0 h0 w0 z f a w h1 h2 h3 h4 h5) (fun e a w p=>p.mono h)
theorem T.skip (q:Q .norm st):T V .skip Q st:=.mk fun code hc z0 f0 h0 w0 z f a w h1 h2 h3 h4 h5=>by
 cases code<;>simp only[chkC]at hc<;>try (cases hc;done)
 exact wp_skip (.norm h3 h4 h5 q)
theorem T.exit {id:Nat}(q:Q (.exit id) st):T V (.exit id) Q st:=.mk fun code hc z0 f0 h0 w0 z f a w h1 h2 h3 h4 h5=>by
 cases code<;>simp only[chkC,beq_iff_eq]at hc<;>try (cases hc;done)
 subst hc
 exact wp_exit (.exit _ h3 h4 h5 q)
theorem T.ret (q:Q .ret st):T V .ret Q st:=.mk fun code hc z0 f0 h0 w0 z f a w h1 h2 h3 h4 h5=>by
 cases code<;>simp only[chkC]at hc<;>try (cases hc;done)
 exact wp_ret (.ret h3 h4 h5 q)
theorem T.seq {a b:LC}(t:T V a (seqQ (fun s=>T V b Q s) Q) st):T V (.seq a b) Q st:=.mk fun code hc z0 f0 h0 w0 z f ac w h1 h2 h3 h4 h5=>by
 cases code<;>simp only[chkC,qaa]at hc<;>try (cases hc;done)
 refine wp_seq (wp_mono (t.run _ hc.1 z0 f0 h0 w0 z f ac w h1 h2 h3 h4 h5) (fun e a w p=>?_))
 cases p with
 | norm hE hi hf q=>exact q.run _ hc.2 z0 f0 h0 w0 _ _ _ _ h1 h2 hE hi hf
 | exit id hE hi hf q=>exact .exit id hE hi hf q
 | ret hE hi hf q=>exact .ret hE hi hf q
 | pan hE hv hd hs hf hds q=>exact .pan hE hv hd hs hf hds q
theorem T.cond {c:Opd}{x y:LC}(t:wpB (c.ev st.fr) (fun b=>(b=true→T V x Q st)∧(b=false→T V y Q st))):T V (.cond c x y) Q st:=.mk fun code hc z0 f0 h0 w0 z f a w h1 h2 h3 h4 h5=>by
 cases code<;>simp only[chkC,qaa]at hc<;>try (cases hc;done)
 obtain⟨⟨hu,hx⟩,hy⟩:=hc
 have hr:=jap h4.fr hu
 unfold wpB at t
 split at t
 ·rename_i b hb
  rw[hb]at hr
  have he:=hr
  generalize hv:a.eval _=v at he
  cases he with
  | bool _ =>
   refine wp_cond_split hv (fun e=>(t.1 e).run _ hx z0 f0 h0 w0 z f a w h1 h2 h3 h4 h5) (fun e=>(t.2 e).run _ hy z0 f0 h0 w0 z f a w h1 h2 h3 h4 h5)
 grind
theorem T.block {id:Nat}{c:LC}(t:T V c (blkQ id Q) st):T V (.block id c) Q st:=.mk fun code hc z0 f0 h0 w0 z f a w h1 h2 h3 h4 h5=>by
 cases code<;>simp only[chkC,qaa,beq_iff_eq]at hc<;>try grind
 obtain⟨rfl,hc⟩:=hc
 refine wp_block (wp_mono (t.run _ hc z0 f0 h0 w0 z f a w h1 h2 h3 h4 h5) (fun e a w p=>?_))
 cases p with
 | norm hE hi hf q=>exact .norm hE hi hf q
 | exit i hE hi hf q =>
  simp only[Exit.inBlock]
  simp only[blkQ]at q
  split
  ·rename_i e
   rw[if_pos e]at q
   exact .norm hE hi hf q
  ·rename_i e
   rw[if_neg e]at q
   exact .exit i hE hi hf q
 | ret hE hi hf q=>exact .ret hE hi hf q
 | pan hE hv hd hs hf hds q=>exact .pan hE hv hd hs hf hds q
theorem FrOk.sel {z:ZMap}{f:LMap}{fr:Fr}{a:Act}(hf:FrOk z f fr a) (ks:List Nat):FrOk z f (fr.sel ks) a:=fun n=>by
 rw[Fr.get_sel]
 split
 ·exact hf n
 ·exact .undef _
theorem Inv.sel {z0 z:ZMap}{f0 f:LMap}{h0:KH}{w0 w:World}{nt:NT}{ds:DS}{a:Act}(hi:Inv z0 f0 h0 w0 nt ds z f st a w) (ks:List Nat):Inv z0 f0 h0 w0 nt ds z f ⟨st.fr.sel ks,st.h⟩ a w:=⟨hi.d,hi.fr.sel ks,hi.stp,hi.nt,hi.nil⟩
theorem T.stm {ks:List Nat}{L:List PS}(t:wpS V.X L st (fun s=>Q .norm ⟨s.fr.sel ks,s.h⟩) (fun c h=>Q (.pan c) ⟨[],h⟩)):T V (.stm ks L) Q st:=.mk fun code hc z0 f0 h0 w0 z f a w h1 h2 h3 h4 h5=>by
 cases code<;>simp_all [chkC,qaa,beq_iff_eq,qah,qat]<;>try (cases hc;done)
 obtain⟨⟨⟨rfl,hok⟩,hro⟩,hlen⟩:=hc
 refine wp_region ?_
 rw[←hlen,List.range_eq_range',←jro]
 exact jwo V.ok L 0 st z f a w h3 h4 h5 hok t hro (fun st' z' f' a' w' e q1 q2 q3=>.norm (st:=⟨st'.fr.sel ks,st'.h⟩) q1 (q2.sel ks) q3 e) (fun c h' v z' f' a' w' e q1 q2 q3 q4 q5 q6=>.pan q1 q2 q3 q4 q5 q6 e)
theorem T.reg {ks:List Nat}{L:List RO}(t:wpR V.X (0,[]) L st (fun s=>Q .norm ⟨s.fr.sel ks,s.h⟩) (fun c h=>Q (.pan c) ⟨[],h⟩)):T V (.reg ks L) Q st:=.mk fun code hc z0 f0 h0 w0 z f a w h1 h2 h3 h4 h5=>by
 cases code<;>simp only[chkC,qaa]at hc<;>try (cases hc;done)
 obtain⟨rfl,hro⟩:=hc
 obtain⟨G,out,hr,hG,hN,hK⟩:=jnJ _ _ st _ _ t
 exact jpV V.ok V.mixed h3 h4 h5 hro hr hG (fun st' z' f' a' w' e q1 q2 q3=>.norm (st:=⟨st'.fr.sel ks,st'.h⟩) q1 (q2.sel ks) q3 (hN st' e)) (fun c h' v z' f' a' w' e q1 q2 q3 q4 q5 q6=>.pan q1 q2 q3 q4 q5 q6 (hK c h' e))
theorem jpY {P:Program}{R:Exit→Act→World→Prop}{c:Code}{α:Type}(J:α→Act→World→Prop) (μ:α→Nat){x:α}{a:Act}{w:World}(h0:J x a w)
  (round:∀x a w,J x a w→c.wp P (Exit.then (fun a' w'=>∃x',J x' a' w'∧μ x' < μ x) R) a w):(Code.loop c).wp P R a w:=by
 classical
 have ex:∀a w,(∃x,J x a w)→∃x,J x a w∧∀y,J y a w→μ x≤μ y:=fun a w ⟨x,h⟩=>by
  generalize hn:μ x=n
  induction n using Nat.strongRecOn generalizing x with
  | ind n ih =>
   grind
 refine wp_loop (fun a w=>∃x,J x a w) (fun a w=>if h:∃x,J x a w then μ (Classical.choose (ex a w h)) else 0) ⟨x,h0⟩ (fun a w hI=>?_)
 obtain⟨hx,hmin⟩:=Classical.choose_spec (ex a w hI)
 refine wp_mono (round (Classical.choose (ex a w hI)) a w hx) (fun e a' w' h=>?_)
 cases e with
 | normal =>
  obtain⟨x',hx',hlt⟩:=h
  refine⟨⟨x',hx'⟩,?_⟩
  rw[dif_pos ⟨x',hx'⟩,dif_pos hI]
  grind
 | _=>exact h
end
end
section
open Go.RowKit
mutual
def crs (ρ fz:List Nat) (h:KH):CV→CV→Prop
 | _,.undef=>True
 | .int k a,.int k' b=>k=k'∧a=b
 | .bool a,.bool b=>a=b
 | .str a,.str b=>a=b
 | .ptr b i o,.ptr b' i' o'=>ρ[b']?=some b∧i=i'∧o=o'
 | .vp t x o,.vp t' x' o'=>ETy.cast? t t' [x]=some [x']∧o=o'
 | .gptr g o,.gptr g' o'=>g=g'∧o=o'
 | .nilptr,.nilptr=>True
 | .slice b i e n c,.slice b' i' e' n' c'=>ρ[b']?=some b∧i=i'∧e=e'∧n=n'∧c'≤c
 | .slice b i e n c,.vec t L=>fz.contains b=true∧n≤c∧match h.get b with
  | .seq t' M=>i+n≤M.length∧ETy.cast? t' t ((M.drop i).take n)=some L
  | _=>False
 | .vec t L,.vec t' L'=>ETy.cast? t t' L=some L'
 | .zs,.zs=>True
 | .zs,.vec _ L=>L=[]
 | .zs,.slice _ _ _ n c=>n=0∧c=0
 | .nils,.nils=>True
 | .nils,.zs=>True
 | .nils,.vec _ L=>L=[]
 | .nils,.slice _ _ _ n c=>n=0∧c=0
 | .fn F l,.fn F' l'=>F=F'∧crsL ρ fz h l l'
 | .nilfn,.nilfn=>True
 | .mfn F,.mfn G=>F=G
 | .iface t c,.iface t' c'=>t=t'∧crs ρ fz h c c'
 | .niliface,.niliface=>True
 | .agg l,.agg l'=>crsL ρ fz h l l'
 | .tup l,.tup l'=>crsL ρ fz h l l'
 | _,_=>False
def crsL (ρ fz:List Nat) (h:KH):List CV→List CV→Prop
 | [],[]=>True
 | c::l,c'::l'=>crs ρ fz h c c'∧crsL ρ fz h l l'
 | _,_=>False
end
def crsB (ρ fz:List Nat) (h:KH):KB→KB→Prop
 | _,.dead=>True
 | .box l,.box l'=>crsL ρ fz h l l'
 | .seq t L,.seq t' L'=>ETy.cast? t t' L=some L'
 | .iter s p,.iter s' p'=>s=s'∧p=p'
 | _,_=>False
def jaE:KB→Prop
 | .dead=>True
 | .seq _ L=>L=[]
 | _=>False
def crsH (ρ fz:List Nat) (h:KH):List Nat→KH→Prop
 | [],[]=>True
 | b::r,k::h'=>(if h.length≤b then jaE k else crsB ρ fz h (h.get b) k)∧crsH ρ fz h r h'
 | _,_=>False
def crsF (ρ fz:List Nat) (h:KH) (fr:Fr):Fr→Prop
 | []=>True
 | (n,c)::r=>crs ρ fz h (fr.get n) c∧crsF ρ fz h fr r
def imgs:List Nat→KH→List Nat
 | _::r,.dead::h=>imgs r h
 | b::r,_::h=>b::imgs r h
 | _,_=>[]
def ja8:List Nat→Bool
 | []=>true
 | x::r=>!r.contains x&&ja8 r
def jhu:Nat→List Nat→Bool
 | 0,_=>true
 | n+1,ρ=>ρ[n]? == some n&&jhu n ρ
structure Crs (n0:Nat) (ρ fz:List Nat) (s s':St):Prop where
 num:(jhu n0 ρ && ja8 (imgs ρ s'.h++fz))=true
 mem:crsH ρ fz s.h ρ s'.h
 fr:crsF ρ fz s.h s.fr s'.fr
theorem jfA {ρ fz:List Nat}{h:KH}:∀{l l':List CV},crsL ρ fz h l l'→l'.length=l.length∧∀(i:Nat) (c c':CV),l[i]?=some c→l'[i]?=some c'→crs ρ fz h c c'
 | [],[],_=>⟨rfl,fun i c c' e=>by simp at e⟩
 | [],_::_,h=>by simp[crsL]at h
 | _::_,[],h=>by simp[crsL]at h
 | c::l,c'::l',h=>by
  simp only[crsL]at h
  obtain⟨h1,h2⟩:=jfA h.2
  grind
theorem jk8 {ρ0 fz:List Nat}{h:KH}:∀{ρ:List Nat}{h':KH},crsH ρ0 fz h ρ h'→ρ.length=h'.length∧∀(i b:Nat),ρ[i]?=some b→if h.length≤b then jaE (h'.get i) else crsB ρ0 fz h (h.get b) (h'.get i)
 | [],[],_=>⟨rfl,fun i b e=>by simp at e⟩
 | [],_::_,h=>by simp[crsH]at h
 | _::_,[],h=>by simp[crsH]at h
 | b :: ρ,k::h',h=>by
  simp only[crsH]at h
  obtain⟨h1,h2⟩:=jk8 h.2
  refine⟨by simp[h1],fun i x e=>?_⟩
  cases i with
  | zero =>
   simp only[List.getElem?_cons_zero,Option.some.injEq]at e
   subst e
   exact h.1
  | succ i =>
   simp only[List.getElem?_cons_succ]at e
   exact h2 i x e
theorem jrq {ρ fz:List Nat}{h:KH}{fr:Fr}:∀{fr':Fr},crsF ρ fz h fr fr'→∀n,fr'.get n=.undef∨crs ρ fz h (fr.get n) (fr'.get n)
 | [],_,n=>.inl rfl
 | (k,c)::r,h,n=>by
  simp only[crsF]at h
  simp only[Fr.get]
  split
  ·grind
  ·exact jrq h.2 n
theorem VRel.of_enc {z z':ZMap}{f f':LMap}(hz:∀B o,z B=some o→z' B=some o){t:ETy}{x:t.T}{k:Nat}{c:CV}{v:Value}(hc:(t.enc x)[k]?=some c) (h:VRel z f c v):VRel z' f' c v:=by
 have keym:∀(t:ETy) (x:t.T) (c:CV),c∈t.enc x→(∃k n,c=.int k n)∨(∃b,c=.bool b)∨(∃s,c=.str s)∨∃(t:ETy) (L:List t.T),c=.vec t L:=by
  intro t
  induction t with
  | int k=>grind [ETy.enc,qak]
  | bool=>grind [ETy.enc,qak]
  | str=>grind [ETy.enc,qak]
  | cell =>
   simp_all [ETy.enc,qaj,qau,or_false]
  | item =>
   intro x c hm
   cases x
   simp only[ETy.enc,qaj,qau,or_false]at hm
   grind
  | rows t=>grind [ETy.enc,qak]
  | pair a b iha ihb =>
   intro x c hm
   simp only[ETy.enc,qaf]at hm
   rcases hm with hm|hm
   ·exact iha _ _ hm
   ·exact ihb _ _ hm
 have key:∀{t:ETy}{x:t.T}{k:Nat}{c:CV},(t.enc x)[k]?=some c→(∃k n,c=.int k n)∨(∃b,c=.bool b)∨(∃s,c=.str s)∨∃(t:ETy) (L:List t.T),c=.vec t L:=fun {t x k c} hc=>keym t x c (List.mem_of_getElem? hc)
 have main:∀{c:CV}{v:Value},VRel z f c v→((∃k n,c=.int k n)∨(∃b,c=.bool b)∨(∃s,c=.str s)∨∃(t:ETy) (L:List t.T),c=.vec t L)→VRel z' f' c v:=by
  intro c v h
  induction h with
  | int k n=>exact fun _=>.int k n
  | bool b=>exact fun _=>.bool b
  | str s=>exact fun _=>.str s
  | vec t L B o cap' rc T fr g e1 e2 e3 e4 ih=>exact fun _=>.vec t L B o cap' rc T fr g (hz B _ e1) e2 e3 (fun j x hx k c hk=>ih j x hx k c hk (key hk))
  | vec0 t A cap'=>exact fun _=>.vec0 t A cap'
  | _=>grind
 grind
theorem jrr {α β γ:Type}{f:α→γ}{g:β→γ}{l:List α}{m:List β}(h:m.map g=l.map f){i:Nat}{y:β}(hy:m[i]?=some y):∃x,l[i]?=some x∧f x=g y:=by
 have:(m.map g)[i]?=some (g y):=by rw[List.getElem?_map,hy];rfl
 grind
theorem joQ {z z':ZMap}{f f':LMap}(hz:∀B o,z B=some o→z' B=some o){t t':ETy}{L:List t.T}{L':List t'.T}{v:Value}(hc:ETy.cast? t t' L=some L') (h:VRel z f (.vec t L) v):VRel z' f' (.vec t' L') v:=by
 obtain⟨e1,e2,e3⟩:=ETy.cast_enc t t' L L' hc
 cases h with
 | vec _ _ B o cap' rc T fr g q1 q2 q3 q4 =>
  rw[←e2]
  refine .vec t' L' B o cap' rc T fr g (hz B _ q1) (by omega) (fun j x hx k c hk=>?_) (fun j x hx k c hk=>?_)
  ·obtain⟨y,hy,e⟩:=jrr e3 hx
   grind
  ·obtain⟨y,hy,e⟩:=jrr e3 hx
   grind [VRel.of_enc]
 | vec0 _ A cap' =>
  have:L'=[]:=List.length_eq_zero_iff.1 (by rw[e2];rfl)
  subst this
  exact .vec0 t' A cap'
section
variable {z z':ZMap}{f f':LMap}{h:KH}{w:World}{ρ fz:List Nat}
theorem jka (d:Desc z f h w) (hz:∀B o,z B=some o→z' B=some o){b i e n c cap':Nat}{l:Loc}(hl:f b=some l) (he:l.esz=e) (hcap:c≤cap') (hn:n≤c){t t':ETy}{M:List t'.T}{L:List t.T}(hb:h.get b=.seq t' M) (hi:i+n≤M.length)
  (hc:ETy.cast? t' t ((M.drop i).take n)=some L) (hf:z' l.B=w.heap[l.B]?):VRel z' f' (.vec t L) (.slice (some (l.addr i 0)) n cap'):=by
 obtain⟨e1,e2,e3⟩:=ETy.cast_enc _ _ _ _ hc
 have hk:=d.blk b
 rw[hl,hb]at hk
 obtain⟨he2,rc,T,fr,h1,h2,h3,h4,h5⟩:=hk
 have hlen:L.length=n:=by rw[e2,List.length_take,qba];omega
 have at':∀(j:Nat) (x:t.T),L[j]?=some x→∀(k:Nat) (c:CV),(t.enc x)[k]?=some c→∃v,rc[l.sh+i*l.esz+0+j*t.esz+k]?=some v∧VRel z f c v:=fun j x hx k c hk=>by
  obtain⟨y,hy,ey⟩:=jrr e3 hx
  have hj:j<n:=by
   have:=(List.getElem?_eq_some_iff.1 hx).1
   omega
  rw[List.getElem?_take,if_pos hj,List.getElem?_drop]at hy
  obtain⟨v,q1,q2⟩:=h5 _ c (jfv t' M (i+j) k y c hy (ey▸hk))
  grind
 rw[←hlen]
 refine .vec t L l.B _ cap' rc T fr (fun j k=>(rc[l.sh+i*l.esz+0+j*t.esz+k]?).getD undef) (hf.trans h1) (by omega) (fun j x hx k c hk=>?_) (fun j x hx k c hk=>?_)
 all_goals grind [VRel.of_enc]
theorem jk9 (d:Desc z f h w) (hz:∀B o,z B=some o→z' B=some o) (hf:∀b' b,ρ[b']?=some b→f' b'=f b) (hfz:∀b l,fz.contains b=true→f b=some l→(h.get b).live→z' l.B=w.heap[l.B]?){c:CV}{v:Value}(hv:VRel z f c v):∀{c':CV},crs ρ fz h c c'→VRel z' f' c' v:=by
 induction hv with
 | undef v=>intro c' hc;cases c'<;>simp only[crs]at hc<;>first|exact hc.elim|exact .undef _
 | int k n =>
  intro c' hc
  cases c'<;>simp only[crs]at hc<;>first|exact hc.elim|exact .undef _|skip
  obtain⟨rfl,rfl⟩:=hc
  exact .int _ _
 | bool b =>
  intro c' hc
  cases c'<;>simp only[crs]at hc<;>first|exact hc.elim|exact .undef _|skip
  subst hc
  exact .bool _
 | str s =>
  intro c' hc
  cases c'<;>simp only[crs]at hc<;>first|exact hc.elim|exact .undef _|skip
  subst hc
  exact .str _
 | ptr b i o l hl =>
  intro c' hc
  cases c'<;>simp only[crs]at hc<;>first|exact hc.elim|exact .undef _|skip
  obtain⟨h1,rfl,rfl⟩:=hc
  exact .ptr _ _ _ l ((hf _ _ h1).trans hl)
 | vp t x o B base rc T fr g hz' hc' hr ih =>
  intro c' hc
  cases c'<;>simp only[crs]at hc<;>first|exact hc.elim|exact .undef _|skip
  obtain⟨h1,rfl⟩:=hc
  obtain⟨e1,e2,e3⟩:=ETy.cast_enc _ _ _ _ h1
  simp only[qag,qai,List.cons.injEq,and_true]at e3
  refine .vp _ _ o B base rc T fr g (hz B _ hz') (fun k c hk=>hc' k c (e3▸hk)) (fun k c hk=>VRel.of_enc hz hk (hr k c (e3▸hk)))
 | gptr g o =>
  intro c' hc
  cases c'<;>simp only[crs]at hc<;>first|exact hc.elim|exact .undef _|skip
  obtain⟨rfl,rfl⟩:=hc
  exact .gptr _ _
 | nilptr=>intro c' hc;cases c'<;>simp only[crs]at hc<;>first|exact hc.elim|exact .undef _|exact .nilptr
 | slice b i e n c cap' l hl he hcap hsz =>
  intro c' hc
  cases c'<;>simp only[crs]at hc<;>first|exact hc.elim|exact .undef _|skip
  ·obtain⟨h1,rfl,rfl,rfl,h2⟩:=hc
   exact .slice _ _ _ _ _ cap' l ((hf _ _ h1).trans hl) he (by omega) hsz
  ·obtain⟨h1,h2,h3⟩:=hc
   split at h3
   ·rename_i t' M hb
    exact jka d hz hl he hcap h2 hb h3.1 h3.2 (hfz b l h1 hl (by rw[hb];trivial))
   grind
 | slice0 b i e A =>
  intro c' hc
  cases c'<;>simp only[crs]at hc<;>first|exact hc.elim|exact .undef _|skip
  ·obtain⟨h1,rfl,rfl,rfl,h2⟩:=hc
   have:_=0:=Nat.le_zero.1 h2
   subst this
   exact .slice0 _ _ _ _
  ·obtain⟨h1,h2,h3⟩:=hc
   split at h3
   ·obtain⟨e1,e2,e3⟩:=ETy.cast_enc _ _ _ _ h3.2
    have:_=[]:=List.length_eq_zero_iff.1 (e2.trans (by simp))
    subst this
    exact .vec0 _ _ _
   grind
 | vec t L B o cap' rc T fr g q1 q2 q3 q4 ih =>
  intro c' hc
  cases c'<;>simp only[crs]at hc<;>first|exact hc.elim|exact .undef _|skip
  exact joQ hz hc (.vec t L B o cap' rc T fr g q1 q2 q3 q4)
 | vec0 t A cap' =>
  intro c' hc
  cases c'<;>simp only[crs]at hc<;>first|exact hc.elim|exact .undef _|skip
  exact joQ hz hc (VRel.vec0 (z:=z) (f:=f) t A cap')
 | zs A =>
  intro c' hc
  cases c'<;>simp only[crs]at hc<;>first|exact hc.elim|exact .undef _|skip
  ·obtain⟨rfl,rfl⟩:=hc
   exact .slice0 _ _ _ _
  ·subst hc
   exact .vec0 _ _ _
  ·exact .zs _
 | nils =>
  intro c' hc
  cases c'<;>simp only[crs]at hc<;>first|exact hc.elim|exact .undef _|skip
  ·obtain⟨rfl,rfl⟩:=hc
   exact .slice0 _ _ _ _
  ·subst hc
   exact .vec0 _ _ _
  ·exact .zs _
  ·exact .nils
 | fn F caps cs hs hr ih =>
  intro c' hc
  cases c'<;>simp only[crs]at hc<;>first|exact hc.elim|exact .undef _|skip
  obtain⟨rfl,hl⟩:=hc
  obtain⟨h1,h2⟩:=jfA hl
  exact .fn _ _ cs (by omega) (fun i c' v hc' hv=>by
   have hlt:=(List.getElem?_eq_some_iff.1 hc').1
   have hci:=List.getElem?_eq_getElem (show i<caps.length by omega)
   grind)
 | nilfn=>intro c' hc;cases c'<;>simp only[crs]at hc<;>first|exact hc.elim|exact .undef _|exact .nilfn
 | mfn F=>intro c' hc;cases c'<;>simp only[crs]at hc<;>first|exact hc.elim|exact .undef _|(subst hc;exact .mfn _)
 | iface t c v hv ih =>
  intro c' hc
  cases c'<;>simp only[crs]at hc<;>first|exact hc.elim|exact .undef _|skip
  obtain⟨rfl,hc⟩:=hc
  exact .iface _ _ _ (ih hc)
 | niliface=>intro c' hc;cases c'<;>simp only[crs]at hc<;>first|exact hc.elim|exact .undef _|exact .niliface
 | agg l cs hs hr ih =>
  intro c' hc
  cases c'<;>simp only[crs]at hc<;>first|exact hc.elim|exact .undef _|skip
  obtain⟨h1,h2⟩:=jfA hc
  exact .agg _ cs (by omega) (fun i c' v hc' hv=>by
   have hlt:=(List.getElem?_eq_some_iff.1 hc').1
   have hci:=List.getElem?_eq_getElem (show i<l.length by omega)
   grind)
 | tup l cs hs hr ih =>
  intro c' hc
  cases c'<;>simp only[crs]at hc<;>first|exact hc.elim|exact .undef _|skip
  obtain⟨h1,h2⟩:=jfA hc
  exact .tup _ cs (by omega) (fun i c' v hc' hv=>by
   have hlt:=(List.getElem?_eq_some_iff.1 hc').1
   have hci:=List.getElem?_eq_getElem (show i<l.length by omega)
   grind)
end
end
section
open Go.RowKit
theorem jia:∀{ρ:List Nat}{h:KH}{i b:Nat},ρ[i]?=some b→(KH.get h i).live→b∈imgs ρ h
 | [],_,i,b,e,_=>by simp at e
 | x :: ρ,[],i,b,e,hl=>by simp[KH.get,KB.live]at hl
 | x :: ρ,k::h,0,b,e,hl=>by
  simp only[List.getElem?_cons_zero,Option.some.injEq]at e
  subst e
  simp only[KH.get]at hl
  cases k<;>first|exact hl.elim|exact qar
 | x :: ρ,k::h,i+1,b,e,hl=>by
  simp only[List.getElem?_cons_succ]at e
  have:=jia e (h:=h) hl
  cases k<;>first|exact this|exact qal _ this
theorem jgV:∀{l m:List Nat},ja8 (l++m)=true→ja8 l=true∧∀x∈l,m.contains x=false
 | [],m,_=>⟨rfl,fun x h=>by cases h⟩
 | y::l,m,h=>by
  simp only[qap,ja8,qaa,qah]at h
  obtain⟨h1,h2⟩:=jgV h.2
  have h3:y ∉ l++m:=by simpa using h.1
  simp only[qaf,not_or]at h3
  refine⟨?_,fun x hx=>?_⟩
  ·simp only[ja8,qaa,qah]
   exact⟨by simpa using h3.1,h1⟩
  ·rcases List.mem_cons.1 hx with rfl|hx
   ·simpa using h3.2
   ·exact h2 x hx
theorem joR:∀{ρ:List Nat}{h:KH},ja8 (imgs ρ h)=true→∀{i j b:Nat},ρ[i]?=some b→ρ[j]?=some b→(KH.get h i).live→(KH.get h j).live→i=j
 | [],_,_,i,j,b,e,_,_,_=>by simp at e
 | x :: ρ,[],_,i,j,b,_,_,hl,_=>by simp[KH.get,KB.live]at hl
 | x :: ρ,k::h,hn,i,j,b,ei,ej,hi,hj=>by
  have tail:ja8 (imgs ρ h)=true∧(k.live→x ∉ imgs ρ h):=by
   cases k with
   | dead=>exact⟨hn,fun q=>q.elim⟩
   | _ =>
    simp_all [imgs,ja8,qaa,qah]
  cases i with
  | zero =>
   cases j with
   | zero=>rfl
   | succ j =>
    simp only[List.getElem?_cons_zero,Option.some.injEq]at ei
    simp only[List.getElem?_cons_succ]at ej
    subst ei
    exact absurd (jia ej hj) (tail.2 hi)
  | succ i =>
   cases j with
   | zero =>
    simp only[List.getElem?_cons_zero,Option.some.injEq]at ej
    simp only[List.getElem?_cons_succ]at ei
    subst ej
    exact absurd (jia ei hi) (tail.2 hj)
   | succ j =>
    simp only[List.getElem?_cons_succ]at ei ej
    rw[joR tail.1 ei ej hi hj]
theorem jf7:∀{n:Nat}{ρ:List Nat},jhu n ρ=true→∀i,i<n→ρ[i]?=some i
 | 0,_,_,i,hi=>by omega
 | n+1,ρ,h,i,hi=>by
  simp only[jhu,qaa,beq_iff_eq]at h
  by_cases e:i=n
  ·grind
  ·exact jf7 h.2 i (by omega)
theorem jf8 {ρ fz:List Nat}{h:KH}{k k':KB}(hc:crsB ρ fz h k k') (hl:k'.live):k.live:=by
 cases k<;>cases k'<;>simp only[crsB]at hc<;>first|exact hc.elim|exact hl.elim|trivial
open Classical in
def froz (z:ZMap) (f:LMap) (h:KH) (w:World) (fz:List Nat):ZMap:=fun B=>if ∃b l,fz.contains b=true∧f b=some l∧(h.get b).live∧l.B=B then w.heap[B]? else z B
def fren (f:LMap) (ρ:List Nat):LMap:=fun i=>(ρ[i]?).bind f
section
variable {z z' z0:ZMap}{f f' f0:LMap}{h h' h0:KH}{w w0:World}{ρ fz:List Nat}
theorem jfB {b' b:Nat}(e:ρ[b']?=some b):fren f ρ b'=f b:=by
 unfold fren
 rw[e]
 rfl
theorem jdz {i:Nat}{l:Loc}(e:fren f ρ i=some l):∃b,ρ[i]?=some b∧f b=some l:=by
 unfold fren at e
 grind
theorem jla (d:Desc z f h w){b:Nat}{l:Loc}(h1:fz.contains b=true) (h2:f b=some l) (h3:(h.get b).live):froz z f h w fz l.B=w.heap[l.B]?:=if_pos ⟨b,l,h1,h2,h3,rfl⟩
theorem jib (d:Desc z f h w) (B:Nat) (o:Obj) (e:z B=some o):froz z f h w fz B=some o:=by
 unfold froz
 split
 ·exact d.stays B o e
 ·exact e
theorem jlb (B:Nat) (o:Obj) (e:froz z f h w fz B=some o):z B=some o∨Mine f h B:=by
 unfold froz at e
 split at e
 ·rename_i q
  obtain⟨b,l,_,h2,h3,h4⟩:=q
  exact .inr ⟨b,l,h2,h3,h4⟩
 grind
theorem jrs (d:Desc z f h w) (hfk:∀b∈ρ,h.length≤b→f b=none) (hn:ja8 (imgs ρ h'++fz)=true) (hm:crsH ρ fz h ρ h'):Desc (froz z f h w fz) (fren f ρ) h' w:=by
 obtain⟨n1,n2⟩:=jgV hn
 obtain⟨m1,m2⟩:=jk8 hm
 have hz:∀B o,z B=some o→froz z f h w fz B=some o:=jib d
 have rel:∀{c:CV}{v:Value},VRel z f c v→∀{c':CV},crs ρ fz h c c'→VRel (froz z f h w fz) (fren f ρ) c' v:=jk9 d hz (fun b' b e=>jfB e) (fun b l q1 q2 q3=>jla d q1 q2 q3)
 have live:∀i b l,ρ[i]?=some b→f b=some l→(h'.get i).live→(h.get b).live:=fun i b l e hb hl=>by
  grind [List.mem_of_getElem?,jf8]
 refine⟨fun i=>?_,fun i j li lj ei ej hi hj hne=>?_,fun i l e hl=>?_,fun B o e=>?_⟩
 ·cases hb:ρ[i]? with
  | none =>
   have:h'.get i=.dead:=KH.get_ge _ _ (by
    grind)
   rw[this]
   cases fren f ρ i<;>trivial
  | some b =>
   rw[jfB hb]
   have hc:=m2 i b hb
   have hk:=d.blk b
   split at hc
   ·rename_i q
    rw[hfk b (List.mem_of_getElem? hb) q]
    generalize h'.get i=k' at hc ⊢
    cases k'<;>first|trivial|exact hc
   rename_i q
   generalize h'.get i=k' at hc ⊢
   generalize h.get b=k at hc hk
   cases k' with
   | dead=>cases f b<;>trivial
   | box cs' =>
    cases k<;>simp only[crsB]at hc<;>first|exact hc.elim|skip
    rename_i cs
    cases hl:f b with
    | none=>rw[hl]at hk;exact hk.elim
    | some l =>
     rw[hl]at hk
     obtain⟨rc,T,fr,h1,h2,h3,h4,h5⟩:=hk
     obtain⟨c1,c2⟩:=jfA hc
     refine⟨rc,T,fr,h1,h2,by omega,h4,fun k c hk=>?_⟩
     have hlt:=(List.getElem?_eq_some_iff.1 hk).1
     have hck:=List.getElem?_eq_getElem (show k<cs.length by omega)
     grind
   | seq t' L' =>
    cases k<;>simp only[crsB]at hc<;>first|exact hc.elim|skip
    rename_i t L
    obtain⟨e1,e2,e3⟩:=ETy.cast_enc _ _ _ _ hc
    cases hl:f b with
    | none =>
     rw[hl]at hk
     have:L=[]:=hk
     subst this
     exact List.length_eq_zero_iff.1 e2
    | some l =>
     rw[hl]at hk
     obtain⟨he,rc,T,fr,h1,h2,h3,h4,h5⟩:=hk
     have e4:L'.flatMap t'.enc=L.flatMap t.enc:=by rw[qbb,qbb,e3]
     refine⟨he.trans e1.symm,rc,T,fr,h1,h2,by grind,h4,fun k c hk=>?_⟩
     grind [jbJ,VRel.of_enc]
   | iter s p =>
    cases k<;>simp only[crsB]at hc<;>first|exact hc.elim|skip
    obtain⟨rfl,rfl⟩:=hc
    cases hl:f b<;>rw[hl]at hk<;>exact hk
 ·obtain⟨a,ha,fa⟩:=jdz ei
  obtain⟨b,hb,fb⟩:=jdz ej
  refine d.apart a b li lj fa fb (live i a li ha fa hi) (live j b lj hb fb hj) (fun e=>hne ?_)
  grind [joR]
 ·obtain⟨a,ha,fa⟩:=jdz e
  have hla:=live i a l ha fa hl
  have hoff:=d.off a l fa hla
  unfold froz
  rw[if_neg]
  ·exact hoff
  ·rintro⟨b,lb,q1,q2,q3,q4⟩
   have hne:b≠a:=fun e=>by
    grind [jia]
   exact d.apart b a lb l q2 fa q3 hla hne q4
 ·unfold froz at e
  split at e
  ·exact e
  ·exact d.stays B o e
theorem jpZ {n:Nat}{ρ:List Nat}(h:jhu n ρ=true):n≤ρ.length:=by
 cases n with
 | zero=>omega
 | succ n =>
  have:=(List.getElem?_eq_some_iff.1 (jf7 h n (by omega))).1
  omega
theorem Inv.weaken {n0:Nat}{nt:NT}{ds:DS}{s s':St}{a:Act}(hi:Inv z0 f0 h0 w0 nt ds z f s a w) (hn0:h0.length=n0) (hf0:Free f0 h0) (hfs:Free f s.h) (hc:Crs n0 ρ fz s s') :
  (∀B o,z B=some o→froz z f s.h w fz B=some o)∧Inv z0 f0 h0 w0 nt ds (froz z f s.h w fz) (fren f ρ) s' a w∧Free (fren f ρ) s'.h:=by
 obtain⟨hnum,hmem,hfr⟩:=hc
 rw[qaa]at hnum
 obtain⟨hid,hnd⟩:=hnum
 obtain⟨m1,m2⟩:=jk8 hmem
 have hz:∀B o,z B=some o→froz z f s.h w fz B=some o:=jib hi.d
 have rel:∀{c:CV}{v:Value},VRel z f c v→∀{c':CV},crs ρ fz s.h c c'→VRel (froz z f s.h w fz) (fren f ρ) c' v:=jk9 hi.d hz (fun b' b e=>jfB e) (fun b l q1 q2 q3=>jla hi.d q1 q2 q3)
 have live:∀i b l,ρ[i]?=some b→f b=some l→(s'.h.get i).live→(s.h.get b).live:=fun i b l e hb hl=>by
  have:=m2 i b e
  split at this
  ·rename_i q
   rw[hfs b q]at hb
   cases hb
  ·exact jf8 this hl
 have hlen:=jpZ hid
 have free:Free (fren f ρ) s'.h:=fun i hi=>by
  grind [fren,List.getElem?_eq_none_iff]
 refine⟨hz,⟨jrs hi.d (fun b _ q=>hfs b q) hnd hmem,fun n=>?_,⟨hi.stp.keep,by omega,fun i hi2=>?_,fun i hi2 hl=>?_,fun i l hi2 e hl=>?_,fun B o e=>hz B o (hi.stp.zold B o e),fun B o e=>?_⟩,hi.nt,hi.nil⟩,free⟩
 ·rcases jrq hfr n with e|e
  ·rw[e];exact .undef _
  ·exact rel (hi.fr n) e
 ·rcases hi2 with q|q
  ·rw[jfB (jf7 hid i (by omega))]
   exact hi.stp.old i (.inl q)
  ·rw[free i q,hf0 i (by omega)]
 ·have hs:=hi.stp.len
  have:=m2 i i (jf7 hid i (by omega))
  rw[if_neg (by omega)]at this
  exact hi.stp.liv i hi2 (jf8 this hl)
 ·obtain⟨b,hb,fb⟩:=jdz e
  exact hi.stp.mine ⟨b,l,fb,live i b l hb fb hl,rfl⟩
 ·rcases jlb B o e with q|q
  ·exact hi.stp.znew B o q
  ·exact .inr (hi.stp.mine q)
end
theorem EnvOk.zmono {E:Nat→Option (List CV)}{z z':ZMap}(hE:EnvOk E z) (hz:∀B o,z B=some o→z' B=some o):EnvOk E z':=hE.mono (f:=fun _=>none) (f':=fun _=>none) ⟨hz,fun _ _ h=>h⟩
section
variable {V:Env}{Q:EX→St→Prop}{s s':St}
theorem T.weak {c:LC}(ρ fz:List Nat) (hc:Crs V.n0 ρ fz s s') (t:T V c Q s'):T V c Q s:=.mk fun code hk z0 f0 h0 w0 z f a w h1 h2 h3 h4 h5=>by
 obtain⟨q1,q2,q3⟩:=h4.weaken h1 h2 h5 hc
 exact t.run code hk z0 f0 h0 w0 _ _ a w h1 h2 (h3.zmono q1) q2 q3
structure Cos (n0:Nat) (s s':St):Prop where
 ex:∃ρ fz,Crs n0 ρ fz s s'
theorem T.loop {c:LC}{α:Type}(S:α→St) (C:α→Prop) (μ:α→Nat) (x0:α) (hx:C x0) (h0:Cos V.n0 s (S x0)) (round:∀x,C x→T V c (seqQ (fun s=>∃x',C x'∧μ x' < μ x∧Cos V.n0 s (S x')) Q) (S x)):T V (.loop c) Q s:=.mk fun code hk z0 f0 h0' w0 z f a w h1 h2 h3 h4 h5=>by
 cases code<;>simp only[chkC]at hk<;>try (cases hk;done)
 obtain⟨ρ,fz,hc⟩:=h0.ex
 obtain⟨q1,q2,q3⟩:=h4.weaken h1 h2 h5 hc
 refine jpY (J:=fun x a w=>C x∧∃z f,EnvOk V.X.E z∧Inv z0 f0 h0' w0 V.nt V.ds z f (S x) a w∧Free f (S x).h) μ (x:=x0) ⟨hx,_,_,h3.zmono q1,q2,q3⟩ (fun x a w ⟨hx,z,f,hE,hi,hf⟩=>?_)
 refine wp_mono ((round x hx).run _ hk z0 f0 h0' w0 z f a w h1 h2 hE hi hf) (fun e a w p=>?_)
 cases p with
 | norm hE hi hf q =>
  obtain⟨x',hx',hlt,⟨ρ,fz,hc⟩⟩:=q
  obtain⟨q1,q2,q3⟩:=hi.weaken h1 h2 hf hc
  exact⟨x',⟨hx',_,_,hE.zmono q1,q2,q3⟩,hlt⟩
 | exit id hE hi hf q=>exact .exit id hE hi hf q
 | ret hE hi hf q=>exact .ret hE hi hf q
 | pan hE hv hd hs hf hds q=>exact .pan hE hv hd hs hf hds q
end
end
section
open Go.RowKit
def TF (P:Program) (E:Nat→Option (List CV)) (F:FuncId) (args:List CV) (h:KH) (r:Res) (h':KH):Prop :=
 ∀(z:ZMap) (f:LMap) (w:World) (vs:Array Value),vs.size=args.length→(∀(i:Nat) (c:CV) (v:Value),args[i]?=some c→vs[i]?=some v→VRel z f c v)→EnvOk E z→Desc z f h w→Free f h →
  Calls P F vs w fun e w'=>∃z' f',EndR z' f' r e∧Desc z' f' h' w'∧Stp z f h w z' f' h' w'∧Free f' h'
inductive RV where
 | t (n:Nat)
 | c (a:Nat) (agg:Bool) (n:Nat)
def jlc (E:Nat→Option (List CV)) (h:KH) (fr:Fr):RV→Option (Prop×CV)
 | .t n=>some (True,fr.get n)
 | .c a agg n=>match jem E h (fr.get a)with
  | some (G,r)=>(match jfh agg n r with
   | some c=>some (G,c)
   | none=>none)
  | none=>none
def jh2 (E:Nat→Option (List CV)) (h:KH) (fr:Fr):List RV→Option (Prop×List CV)
 | []=>some (True,[])
 | x::l=>match jlc E h fr x,jh2 E h fr l with
  | some (G,c),some (G',l')=>some (G∧G',c::l')
  | _,_=>none
def tupV:List CV→CV
 | [c]=>c
 | l=>.tup l
def retP (v:Option (Prop×List CV)) (K:CV→Prop):Prop :=
 match v with
 | some (G,l)=>G∧K (tupV l)
 | none=>False
def jp0 (P:Program):ResultVar→RV→Bool
 | .tmp t,.t n=>t==n
 | .cell a ty,.c b agg n=>a==b&&jer P ty==some agg&&szOf P ty==some n
 | _,_=>false
def jiG (P:Program):List ResultVar→List RV→Bool
 | [],[]=>true
 | x::l,y::m=>jp0 P x y&&jiG P l m
 | _,_=>false
def jdX:Nat→List CV→Fr
 | _,[]=>[]
 | i,c::l=>(i,c)::jdX (i+1) l
theorem jiH:∀(l:List CV) (i n:Nat),(jdX i l).get n=if i≤n then l.getD (n-i) .undef else .undef
 | [],i,n=>by simp[jdX,Fr.get]
 | c::l,i,n=>by
  simp only[jdX,Fr.get,jiH l (i+1) n]
  grind
theorem jrt (P:Program){E:Nat→Option (List CV)}{z:ZMap}{f:LMap}{h:KH}{w:World}{fr:Fr}{a:Act}(d:Desc z f h w) (hE:EnvOk E z) (hf:FrOk z f fr a){x:ResultVar}{y:RV}(hc:jp0 P x y=true){G:Prop}{c:CV}(hv:jlc E h fr y=some (G,c)) (hG:G) :
  ∃v,(match x with
   | .tmp t=>pure (a.tmps.getD t undef)
   | .cell ad t=>do loadVar t (←asAddr (a.tmps.getD ad undef)):Sem Value).run P w=.ok v w∧VRel z f c v:=by
 cases x with
 | tmp t =>
  cases y with
  | t n =>
   simp only[jp0,beq_iff_eq]at hc
   subst hc
   simp only[jlc,Option.some.injEq,Prod.mk.injEq]at hv
   obtain⟨_,rfl⟩:=hv
   exact⟨_,rfl,hf t⟩
  | c b agg n=>simp[jp0]at hc
 | cell ad ty =>
  cases y with
  | t n=>simp[jp0]at hc
  | c b agg n =>
   simp only[jp0,qaa,beq_iff_eq]at hc
   obtain⟨⟨rfl,ha⟩,hn⟩:=hc
   simp only[jlc]at hv
   split at hv
   ·rename_i G' r hr
    split at hv
    ·rename_i c' hl
     cases hv
     obtain⟨B,o,e1,e2⟩:=jik d hE (hf ad) hr hG
     obtain⟨ds,hu,rfl⟩:∃ds,P.underlying ty=some ds∧aggD ds=agg:=by
      unfold jer at ha
      simp_all
     obtain⟨i,hi,rfl⟩:∃i,P.info? ty=some i∧i.size=n:=by
      unfold szOf at hn
      simp_all
     obtain⟨v,q1,q2⟩:=jhp P hu rfl hi rfl e2 hl
     grind [Sem.run_bind,asAddr,Sem.run_pure,Result.andThen_ok]
    ·cases hv
   ·cases hv
theorem jl8 (P:Program){E:Nat→Option (List CV)}{z:ZMap}{f:LMap}{h:KH}{w:World}{fr:Fr}{a:Act}(d:Desc z f h w) (hE:EnvOk E z) (hf:FrOk z f fr a):∀(xs:List ResultVar) (ys:List RV),jiG P xs ys=true→∀(G:Prop) (cs:List CV),jh2 E h fr ys=some (G,cs)→G →
  ∃vs:List Value,(List.mapM (fun x=>(match x with
   | .tmp t=>pure (a.tmps.getD t undef)
   | .cell ad t=>do loadVar t (←asAddr (a.tmps.getD ad undef)):Sem Value)) xs).run P w=.ok vs w∧vs.length=cs.length∧∀(i:Nat) (c:CV) (v:Value),cs[i]?=some c→vs[i]?=some v→VRel z f c v
 | [],[],_,G,cs,hv,hG=>by
  simp only[jh2,Option.some.injEq,Prod.mk.injEq]at hv
  obtain⟨_,rfl⟩:=hv
  exact⟨[],rfl,rfl,fun i c v hc=>by simp at hc⟩
 | x::xs,y::ys,hc,G,cs,hv,hG=>by
  simp only[jiG,qaa]at hc
  simp only[jh2]at hv
  split at hv
  ·rename_i G1 c l' e1 e2
   rename_i G2 _
   cases hv
   obtain⟨v,q1,q2⟩:=jrt P d hE hf hc.1 e1 hG.1
   obtain⟨vs,r1,r2,r3⟩:=jl8 P d hE hf xs ys hc.2 _ _ e2 hG.2
   refine⟨v::vs,?_,by simp[r2],fun i c v hc hv=>?_⟩
   ·simp only[List.mapM_cons,Sem.run_bind,Sem.run_pure,q1,Result.andThen_ok,r1]
   ·cases i with
    | zero =>
     simp only[List.getElem?_cons_zero,Option.some.injEq]at hc hv
     subst hc hv
     exact q2
    | succ i=>exact r3 i c v (by simpa using hc) (by simpa using hv)
  ·cases hv
 | [],_::_,hc,_,_,_,_=>by simp[jiG]at hc
 | _::_,[],hc,_,_,_,_=>by simp[jiG]at hc
theorem jnK {P:Program}{fn:Func}{ts:List RV}{E:Nat→Option (List CV)}{z:ZMap}{f:LMap}{h:KH}{w:World}{fr:Fr}{a:Act}(d:Desc z f h w) (hE:EnvOk E z) (hf:FrOk z f fr a) (hc:jiG P fn.results.toList ts=true){K:CV→Prop}(hv:retP (jh2 E h fr ts) K) :
  ∃v c,(results fn a.tmps).run P w=.ok v w∧VRel z f c v∧K c:=by
 unfold retP at hv
 split at hv
 ·rename_i G l e
  obtain⟨vs,q1,q2,q3⟩:=jl8 P d hE hf _ _ hc _ _ e hv.1
  refine⟨if h:vs.toArray.size=1 then vs.toArray[0] else .tuple vs.toArray,tupV l,?_,?_,hv.2⟩
  ·unfold results
   rw[Array.mapM_eq_mapM_toList]
   grind [map_eq_pure_bind,Sem.run_bind,Result.andThen_ok,Sem.run_pure]
  ·match l,vs,q2,q3 with
   | [c],[v],_,q3=>exact q3 0 c v rfl rfl
   | [],[],_,q3=>exact .tup _ _ rfl (fun i c v hc hv=>by simp at hc)
   | c::c2::l,v::v2::vs,q2,q3 =>
    refine .tup _ _ (by simp only[qaq]at q2;simp only[List.size_toArray,qaq];exact q2) (fun i c v hc hv=>q3 i c v hc (by grind))
 grind
def retQ (E:Nat→Option (List CV)) (n0:Nat) (ts:List RV) (r:Res) (h':KH):EX→St→Prop
 | .norm,s | .ret,s=>match r with
  | .ret c=>retP (jh2 E s.h s.fr ts) fun c0=>Cos n0 ⟨[(0,c0)],s.h⟩ ⟨[(0,c)],h'⟩
  | .pan _=>False
 | .pan c,s=>match r with
  | .pan c'=>Cos n0 ⟨[(0,c)],s.h⟩ ⟨[(0,c')],h'⟩
  | .ret _=>False
 | .exit _,_=>False
theorem Crs.rel {z z0:ZMap}{f f0:LMap}{h h' h0:KH}{w w0:World}{n0:Nat}{c c':CV}{v:Value}(d:Desc z f h w) (s:Stp z0 f0 h0 w0 z f h w) (hn:h0.length=n0) (hf:Free f0 h0) (hfh:Free f h) (hv:VRel z f c v) (hc:Cos n0 ⟨[(0,c)],h⟩ ⟨[(0,c')],h'⟩) :
  ∃z' f',VRel z' f' c' v∧Desc z' f' h' w∧Stp z0 f0 h0 w0 z' f' h' w∧Free f' h':=by
 obtain⟨ρ,fz,hc⟩:=hc.ex
 have hi:Inv z0 f0 h0 w0 0 DS.no z f ⟨[(0,c)],h⟩ ⟨#[v],[]⟩ w:=⟨d,fun n=>by
  simp only[Fr.get]
  split
  ·simp_all
  ·exact .undef _,s,qas _,rfl,fun k hk=>absurd hk (Nat.not_lt_zero _)⟩
 obtain⟨q1,q2,q3⟩:=hi.weaken hn hf hfh hc
 exact⟨_,_,q2.fr 0,q2.d,q2.stp,q3⟩
def jad (P:Program) (eqs:List (TypeId×List IntKind)) (F:FuncId) (lc:LC) (ts:List RV) (nt:NT):Bool :=
 match P.funcs[F]? with
 | some fn=>(match fn.body with
  | some code=>chkC P eqs nt lc code&&(fn.ntmps==nt.n&&nt.lo==0)&&jiG P fn.results.toList ts && !(fn.name == "runtime.NumGoroutine")
  | none=>false)
 | none=>false
theorem jbt {P:Program}{eqs:List (TypeId×List IntKind)}{F:FuncId}{lc:LC}{ts:List RV}{nt:NT}(h:jad P eqs F lc ts nt=true):jdd P F=true:=by
 unfold jad at h
 split at h
 ·rename_i fn e
  split at h
  all_goals simp_all [qaa,jdd,Option.isSome_some,Bool.true_and]
 ·cases h
theorem TF.intro {V:Env}{F:FuncId}{lc:LC}{ts:List RV}{args:List CV}{h:KH}{r:Res}{h':KH}(hck:jad V.P V.X.eqs F lc ts V.nt=true) (hds:V.ds=DS.no) (hn0:h.length=V.n0) (t:T V lc (retQ V.X.E V.n0 ts r h') ⟨jdX 0 args,h⟩):TF V.P V.X.E F args h r h':=fun z f w vs hsz hrel hE hd hf=>by
 unfold jad at hck
 split at hck
 ·rename_i fn hfn
  split at hck
  ·rename_i code hb
   simp only[qaa,beq_iff_eq]at hck
   obtain⟨⟨⟨hck,hnt,hlo⟩,hres⟩,_⟩:=hck
   refine calls_of_wp hfn hb ?_
   refine wp_mono (t.run code hck z f h w z f ⟨vs++Array.replicate (fn.ntmps-vs.size) undef,[]⟩ w hn0 hf hE ⟨hd,fun n=>?_,Stp.refl _ _ _ _,?_,by rw[hds];rfl,fun k hk=>absurd hk (by omega)⟩ hf) (fun e a w' p=>?_)
   ·rw[jiH]
    simp only[qas,if_true,Nat.sub_zero,List.getD_eq_getElem?_getD,Array.getD_eq_getD_getElem?]
    cases hc:args[n]? with
    | none=>exact .undef _
    | some c =>
     grind
   ·grind
   ·have fin:∀(st:St) (z':ZMap) (f':LMap),EnvOk V.X.E z'→Inv z f h w V.nt V.ds z' f' st a w'→Free f' st.h→retQ V.X.E V.n0 ts r h' .norm st→∃v,(results fn a.tmps).run V.P w'=.ok v w'∧∃z' f',EndR z' f' r (.returned v)∧Desc z' f' h' w'∧Stp z f h w z' f' h' w'∧Free f' h':=fun st z' f' hE' hi hfr q=>by
     cases r with
     | pan c=>exact q.elim
     | ret c =>
      simp only[retQ]at q
      obtain⟨v,c0,e1,e2,e3⟩:=jnK hi.d hE' hi.fr hres q
      obtain⟨z2,f2,g1,g2,g3,g4⟩:=Crs.rel hi.d hi.stp hn0 hf hfr e2 e3
      exact⟨v,e1,z2,f2,g1,g2,g3,g4⟩
    cases p with
    | norm hE hi hf' q=>exact⟨hi.nil.1.trans (by rw[hds];rfl),fin _ _ _ hE hi hf' q⟩
    | ret hE hi hf' q=>exact⟨hi.nil.1.trans (by rw[hds];rfl),fin _ _ _ hE hi hf' q⟩
    | exit id hE hi hf' q=>exact q.elim
    | pan hE hv hd' hs hf' hdd q =>
     refine⟨hdd.1.trans (by rw[hds];rfl),?_⟩
     cases r with
     | ret c=>exact q.elim
     | pan c =>
      obtain⟨z2,f2,g1,g2,g3,g4⟩:=Crs.rel hd' hs hn0 hf hf' hv q
      exact⟨z2,f2,g1,g2,g3,g4⟩
  ·cases hck
 ·cases hck
end
section
open Go.RowKit
mutual
def renV (σ:Nat→Nat):CV→CV
 | .ptr b i o=>.ptr (σ b) i o
 | .slice b i e n c=>.slice (σ b) i e n c
 | .fn F l=>.fn F (renL σ l)
 | .iface t c=>.iface t (renV σ c)
 | .agg l=>.agg (renL σ l)
 | .tup l=>.tup (renL σ l)
 | c=>c
def renL (σ:Nat→Nat):List CV→List CV
 | []=>[]
 | c::l=>renV σ c::renL σ l
end
def renB (σ:Nat→Nat):KB→KB
 | .box l=>.box (renL σ l)
 | k=>k
def renR (σ:Nat→Nat):Res→Res
 | .ret c=>.ret (renV σ c)
 | .pan c=>.pan (renV σ c)
mutual
def nvV:CV→Bool
 | .vec _ _=>false
 | .vp _ _ _=>false
 | .fn _ l=>nvL l
 | .iface _ c=>nvV c
 | .agg l=>nvL l
 | .tup l=>nvL l
 | _=>true
def nvL:List CV→Bool
 | []=>true
 | c::l=>nvV c&&nvL l
end
def flat:ETy→Bool
 | .rows _=>false
 | .item=>false
 | .pair a b=>flat a&&flat b
 | _=>true
def nvB:KB→Bool
 | .box l=>nvL l
 | .seq t _=>flat t
 | _=>true
def nvR:Res→Bool
 | .ret c=>nvV c
 | .pan c=>nvV c
theorem je0 (σ:Nat→Nat):∀l:List CV,renL σ l=l.map (renV σ)
 | []=>rfl
 | c::l=>by rw[renL,je0 σ l,qag]
theorem jl9:∀{l:List CV},nvL l=true→∀(i:Nat) (c:CV),l[i]?=some c→nvV c=true
 | [],_,i,c,e=>by simp at e
 | x::l,h,i,c,e=>by
  simp only[nvL,qaa]at h
  cases i with
  | zero =>
   grind
  | succ i =>
   simp only[List.getElem?_cons_succ]at e
   exact jl9 h.2 i c e
theorem jgW {z z':ZMap}{f f':LMap}{σ:Nat→Nat}(hf:∀i l,f i=some l→f' (σ i)=some l){c:CV}{v:Value}(hv:VRel z f c v):((∀B o,z B=some o→z' B=some o)∨nvV c=true)→VRel z' f' (renV σ c) v:=by
 induction hv with
 | undef v=>exact fun _=>.undef v
 | int k n=>exact fun _=>.int k n
 | bool b=>exact fun _=>.bool b
 | str s=>exact fun _=>.str s
 | ptr b i o l h=>exact fun _=>.ptr _ i o l (hf b l h)
 | vp t x o B base rc T fr g h1 h2 h3 ih =>
  intro hz
  rcases hz with hz|hz
  ·exact .vp t x o B base rc T fr g (hz B _ h1) h2 (fun k c hk=>VRel.of_enc hz hk (h3 k c hk))
  ·cases hz
 | gptr g o=>exact fun _=>.gptr g o
 | nilptr=>exact fun _=>.nilptr
 | slice b i e n c cap' l h1 h2 h3 h4=>exact fun _=>.slice _ i e n c cap' l (hf b l h1) h2 h3 h4
 | slice0 b i e A=>exact fun _=>.slice0 _ i e A
 | vec t L B o cap' rc T fr g h1 h2 h3 h4 ih =>
  intro hz
  rcases hz with hz|hz
  ·exact .vec t L B o cap' rc T fr g (hz B _ h1) h2 h3 (fun j x hx k c hk=>VRel.of_enc hz hk (h4 j x hx k c hk))
  ·cases hz
 | vec0 t A cap'=>exact fun _=>.vec0 t A cap'
 | zs A=>exact fun _=>.zs A
 | nils=>exact fun _=>.nils
 | fn F caps cs hs hr ih =>
  intro hz
  simp only[renV,je0]
  refine .fn F _ cs (by grind) (fun i c v hc hv=>?_)
  simp only[List.getElem?_map,qam]at hc
  obtain⟨c,hc,rfl⟩:=hc
  exact ih i c v hc hv (hz.imp id (fun q=>jl9 q i c hc))
 | nilfn=>exact fun _=>.nilfn
 | mfn F=>exact fun _=>.mfn F
 | iface t c v h ih=>exact fun hz=>.iface t _ v (ih hz)
 | niliface=>exact fun _=>.niliface
 | agg caps cs hs hr ih =>
  intro hz
  simp only[renV,je0]
  refine .agg _ cs (by grind) (fun i c v hc hv=>?_)
  simp only[List.getElem?_map,qam]at hc
  obtain⟨c,hc,rfl⟩:=hc
  exact ih i c v hc hv (hz.imp id (fun q=>jl9 q i c hc))
 | tup caps cs hs hr ih =>
  intro hz
  simp only[renV,je0]
  refine .tup _ cs (by grind) (fun i c v hc hv=>?_)
  simp only[List.getElem?_map,qam]at hc
  obtain⟨c,hc,rfl⟩:=hc
  exact ih i c v hc hv (hz.imp id (fun q=>jl9 q i c hc))
theorem VRel.enc_any {z z':ZMap}{f f':LMap}{t:ETy}{x:t.T}{k:Nat}{c:CV}{v:Value}(hz:(∀B o,z B=some o→z' B=some o)∨flat t=true) (hc:(t.enc x)[k]?=some c) (h:VRel z f c v):VRel z' f' c v:=by
 rcases hz with hz|hz
 ·exact VRel.of_enc hz hc h
 ·have main:∀(t:ETy) (x:t.T),flat t=true→c∈t.enc x→VRel z' f' c v:=by
   intro t
   induction t with
   | int k =>
    intro x hz hm
    simp only[ETy.enc,qak]at hm
    subst hm
    cases h
    exact .int _ _
   | bool =>
    intro x hz hm
    simp only[ETy.enc,qak]at hm
    subst hm
    cases h
    exact .bool _
   | str =>
    intro x hz hm
    simp only[ETy.enc,qak]at hm
    subst hm
    cases h
    exact .str _
   | cell =>
    intro x hz hm
    simp only[ETy.enc,qaj,qau,or_false]at hm
    rcases hm with e|e|e|e|e|e<;>subst e<;>cases h<;>exact .int _ _
   | item=>intro x hz;cases hz
   | rows t=>intro x hz;cases hz
   | pair a b iha ihb =>
    intro x hz hm
    simp only[flat,qaa]at hz
    simp only[ETy.enc,qaf]at hm
    rcases hm with hm|hm
    ·exact iha _ hz.1 hm
    ·exact ihb _ hz.2 hm
  grind
theorem jru {z z':ZMap}{f f':LMap}{w:World}{σ:Nat→Nat}(hf:∀i l,f i=some l→f' (σ i)=some l){k:KB}{lo:Option Loc}(hz:(∀B o,z B=some o→z' B=some o)∨nvB k=true) (h:BlkAt z f w lo k):BlkAt z' f' w lo (renB σ k):=by
 cases k with
 | dead=>cases lo<;>trivial
 | box cs =>
  cases lo with
  | none=>exact h.elim
  | some l =>
   obtain⟨rc,T,fr,h1,h2,h3,h4,h5⟩:=h
   refine⟨rc,T,fr,h1,h2,by simpa[je0] using h3,h4,fun k c hk=>?_⟩
   rw[je0,List.getElem?_map,qam]at hk
   obtain⟨c,hk,rfl⟩:=hk
   obtain⟨v,e1,e2⟩:=h5 k c hk
   exact⟨v,e1,jgW hf e2 (hz.imp id (fun q=>jl9 q k c hk))⟩
 | seq t L =>
  cases lo with
  | none=>exact h
  | some l =>
   obtain⟨he,rc,T,fr,h1,h2,h3,h4,h5⟩:=h
   refine⟨he,rc,T,fr,h1,h2,h3,h4,fun k c hk=>?_⟩
   obtain⟨v,e1,e2⟩:=h5 k c hk
   obtain⟨j,m,x,q1,q2,q3,q4⟩:=jbJ t L k c hk
   exact⟨v,e1,VRel.enc_any hz q4 e2⟩
 | iter s p =>
  cases lo with
  | none=>exact h.elim
  | some l=>exact h
def jbG (σ:Nat→Nat):List Nat→KH→KH→KH
 | b :: ρ,k::h,H=>jbG σ ρ h (KH.put H b (renB σ k))
 | _,_,H=>H
def bigH (σ:Nat→Nat) (n:Nat) (ρ:List Nat) (h' H:KH):KH:=jbG σ ρ h' H++(h'.drop n).map (renB σ)
def bigN (ρ:List Nat) (n N:Nat) (i:Nat):Nat:=match ρ[i]? with
 | some b=>b
 | none=>N+(i-n)
theorem jdA (σ:Nat→Nat):∀(ρ:List Nat) (h H:KH),(jbG σ ρ h H).length=H.length
 | [],_,_=>by simp[jbG]
 | _::_,[],_=>by simp[jbG]
 | b :: ρ,k::h,H=>by rw[jbG,jdA σ ρ h,KH.put_len]
theorem jgX (σ:Nat→Nat):∀(ρ:List Nat) (h H:KH) (j:Nat),j ∉ ρ→(∀b∈ρ,b<H.length)→(jbG σ ρ h H).get j=H.get j
 | [],_,_,_,_,_=>by simp[jbG]
 | _::_,[],_,_,_,_=>by simp[jbG]
 | b :: ρ,k::h,H,j,hj,hb=>by
  simp only[qaj,not_or]at hj
  rw[jbG,jgX σ ρ h _ j hj.2 (fun x hx=>by rw[KH.put_len];exact hb x (qal _ hx)),KH.get_put _ _ _ _ (hb b (by simp)),if_neg hj.1]
theorem jma (σ:Nat→Nat):∀(ρ:List Nat) (h H:KH) (i j:Nat),ja8 ρ=true→ρ[i]?=some j→ρ.length≤h.length→(∀b∈ρ,b<H.length)→(jbG σ ρ h H).get j=renB σ (h.get i)
 | [],_,_,i,j,_,e,_,_=>by simp at e
 | _::_,[],_,i,j,_,_,hl,_=>by simp at hl
 | b :: ρ,k::h,H,i,j,hn,e,hl,hb=>by
  simp only[ja8,qaa,qah]at hn
  have hbm:b ∉ ρ:=by simpa using hn.1
  have hb2:∀x∈ρ,x<(KH.put H b (renB σ k)).length:=fun x hx=>by grind [KH.put_len,qal]
  cases i with
  | zero =>
   simp only[List.getElem?_cons_zero,Option.some.injEq]at e
   subst e
   rw[jbG,jgX σ ρ h _ b hbm hb2,KH.get_put _ _ _ _ (hb b (by simp)),if_pos rfl]
   rfl
  | succ i =>
   simp only[List.getElem?_cons_succ]at e
   rw[jbG,jma σ ρ h _ i j hn.2 e (by grind) hb2]
   rfl
theorem joS (g:KB→KB) (hg:g .dead=.dead):∀(h:KH) (i:Nat),KH.get (h.map g) i=g (KH.get h i)
 | [],_=>hg.symm
 | _::_,0=>rfl
 | _::h,i+1=>joS g hg h i
theorem jmb:∀(h:KH) (n i:Nat),KH.get (h.drop n) i=KH.get h (n+i)
 | [],n,i=>by simp[KH.get]
 | b::h,0,i=>by simp
 | b::h,n+1,i=>by
  rw[List.drop_succ_cons,jmb h n i,show n+1+i=(n+i)+1 by omega]
  rfl
def jfC:KH→Bool
 | []=>true
 | .dead::_=>false
 | _::h=>jfC h
theorem jld:∀{ρ:List Nat}{h:KH}{x:Nat},x∈imgs ρ h→x∈ρ
 | [],[],_,m=>by cases m
 | [],k::_,_,m=>by cases k<;>cases m
 | _::_,[],_,m=>by cases m
 | b :: ρ,k::h,x,m=>by
  cases k with
  | dead=>exact qal _ (jld (h:=h) m)
  | _ =>
   simp only[imgs,qaj]at m
   rcases m with rfl|m
   ·grind
   ·exact qal _ (jld (h:=h) m)
theorem jkb:∀{ρ:List Nat}{h:KH}{fz:List Nat},ja8 (ρ++fz)=true→ja8 (imgs ρ h++fz)=true
 | [],[],fz,hn=>hn
 | [],k::_,fz,hn=>by cases k<;>exact hn
 | b :: ρ,[],fz,hn=>by
  have:imgs (b :: ρ) []=[]:=rfl
  rw[this]
  clear this
  revert hn
  induction (b :: ρ)with
  | nil=>exact id
  | cons x r ih =>
   simp_all [qap,ja8,qaa]
 | b :: ρ,k::h,fz,hn=>by
  simp only[qap,ja8,qaa,qah]at hn
  have ih:=jkb (h:=h) hn.2
  cases k with
  | dead=>exact ih
  | _ =>
   simp only[imgs,qap,ja8,qaa,qah]
   refine⟨?_,ih⟩
   have h1:b ∉ ρ++fz:=by simpa using hn.1
   have:b ∉ imgs ρ h++fz:=fun q=>h1 (by
    rcases List.mem_append.1 q with q|q
    ·exact qac _ (jld q)
    ·exact qae _ q)
   simpa using this
open Classical in
theorem TF.lift {P:Program}{E:Nat→Option (List CV)}{F:FuncId}{args ARGS:List CV}{h h' H:KH}{r:Res}{ρ fz:List Nat}(t:TF P E F args h r h') (hnum:ja8 (ρ++fz)=true) (hlt:ρ.all (fun b=>decide (b<H.length))=true) (hm:crsH ρ fz H ρ h) (ha:crsL ρ fz H ARGS args)
  (hnv:fz=[]∨(nvR r&&h'.all nvB)=true) (hlen:h.length≤h'.length):TFx P E F ARGS H (renR (bigN ρ h.length H.length) r) (bigH (bigN ρ h.length H.length) h.length ρ h' H):=fun z f w vs hsz hrel hE d hfree=>by
 obtain⟨m1,m2⟩:=jk8 hm
 have hnum1:=jkb (h:=h) hnum
 have rlt:∀b∈ρ,b<H.length:=fun b hb=>by
  rw[qat]at hlt
  simpa using hlt b hb
 have d1:=jrs d (fun b hb q=>absurd (rlt b hb) (by omega)) hnum1 hm
 have hz1:∀B o,z B=some o→froz z f H w fz B=some o:=jib d
 obtain⟨n1,n2⟩:=jgV hnum
 obtain⟨a1,a2⟩:=jfA ha
 have rel1:∀{c:CV}{v:Value},VRel z f c v→∀{c':CV},crs ρ fz H c c'→VRel (froz z f H w fz) (fren f ρ) c' v:=jk9 d hz1 (fun b' b e=>jfB e) (fun b l q1 q2 q3=>jla d q1 q2 q3)
 have free1:Free (fren f ρ) h:=fun i hi=>by
  grind [fren,List.getElem?_eq_none_iff]
 have rlive:∀i b,ρ[i]?=some b→(h.get i).live→(H.get b).live:=fun i b e hl=>by
  have:=m2 i b e
  rw[if_neg (by
   have:=rlt b (List.mem_of_getElem? e)
   omega)]at this
  exact jf8 this hl
 refine (t (froz z f H w fz) (fren f ρ) w vs (by omega) (fun i c v hc hv=>?_) (hE.zmono hz1) d1 free1).mono ?_
 ·have hlt:=(List.getElem?_eq_some_iff.1 hc).1
  have hC:=List.getElem?_eq_getElem (show i<ARGS.length by omega)
  grind
 ·rintro e w' ⟨z2,f2,he,d2,st,free2⟩
  -- what is frozen for a while
  let ice:Nat→Prop:=fun B=>∃b l,fz.contains b=true∧f b=some l∧(H.get b).live∧l.B=B
  let z':ZMap:=fun B=>if ice B then none else z2 B
  let f':LMap:=fun j=>if H.length≤j∧j<H.length+(h'.length-h.length) then f2 (h.length+(j-H.length)) else f j
  have hice:∀B o,z B=some o→¬ice B:=fun B o e ⟨b,l,q1,q2,q3,q4⟩=>by
   have:=d.off b l q2 q3
   grind
  have zz:∀B o,z B=some o→z' B=some o:=fun B o e=>by
   show (if ice B then none else z2 B)=some o
   rw[if_neg (hice B o e)]
   exact st.zold B o (hz1 B o e)
  have z2':∀B o,z' B=some o→z2 B=some o∧¬ice B:=fun B o e=>by
   have e:(if ice B then none else z2 B)=some o:=e
   split at e
   ·cases e
   ·rename_i q
    exact⟨e,q⟩
  have hzz:(∀B o,z2 B=some o→z' B=some o)∨(nvR r&&h'.all nvB)=true:=hnv.imp (fun q B o e=>by
   show (if ice B then none else z2 B)=some o
   rw[if_neg]
   ·exact e
   ·rintro⟨b,l,q1,_⟩
    rw[q]at q1
    cases q1) id
  have f'old:∀j,j<H.length→f' j=f j:=fun j hj=>if_neg (by omega)
  have f'new:∀i,h.length≤i→i<h'.length→f' (H.length+(i-h.length))=f2 i:=fun i h1 h2=>by
   grind
  have f'far:∀j,H.length+(h'.length-h.length)≤j→f' j=f j:=fun j hj=>if_neg (by omega)
  have f2old:∀i b,ρ[i]?=some b→f2 i=f b:=fun i b e=>by
   have:=(List.getElem?_eq_some_iff.1 e).1
   rw[st.old i (.inl (by omega)),jfB e]
  have σold:∀i b,ρ[i]?=some b→bigN ρ h.length H.length i=b:=fun i b e=>by simp only[bigN,e]
  have σnew:∀i,h.length≤i→bigN ρ h.length H.length i=H.length+(i-h.length):=fun i hi=>by
   grind [bigN,List.getElem?_eq_none_iff]
  have hσ:∀i l,f2 i=some l→f' (bigN ρ h.length H.length i)=some l:=fun i l e=>by
   by_cases h1:i<h.length
   ·grind
   ·by_cases h2:i<h'.length
    ·grind
    ·rw[free2 i (by omega)]at e
     cases e
  -- the great memory
  have lenH:(bigH (bigN ρ h.length H.length) h.length ρ h' H).length=H.length+(h'.length-h.length):=by
   simp only[bigH,qaz,jdA,qbd,qba]
  have getR:∀i b,ρ[i]?=some b→(bigH (bigN ρ h.length H.length) h.length ρ h' H).get b=renB (bigN ρ h.length H.length) (h'.get i):=fun i b e=>by
   have hb:=rlt b (List.mem_of_getElem? e)
   rw[bigH,KH.get_app,jdA,if_pos hb,jma _ ρ h' H i b n1 e (by omega) rlt]
  have getO:∀j,j<H.length→j ∉ ρ→(bigH (bigN ρ h.length H.length) h.length ρ h' H).get j=H.get j:=fun j hj hn=>by
   rw[bigH,KH.get_app,jdA,if_pos hj,jgX _ ρ h' H j hn rlt]
  have getN:∀j,H.length≤j→(bigH (bigN ρ h.length H.length) h.length ρ h' H).get j=renB (bigN ρ h.length H.length) (h'.get (h.length+(j-H.length))):=fun j hj=>by
   rw[bigH,KH.get_app,jdA,if_neg (by omega),joS _ rfl,jmb]
  have renlive:∀k:KB,(renB (bigN ρ h.length H.length) k).live→k.live:=fun k hk=>by cases k<;>first|exact hk|trivial
  have hz2:∀i,(∀B o,z2 B=some o→z' B=some o)∨nvB (h'.get i)=true:=fun i=>hzz.imp id (fun q=>by
   rw[qaa,qat]at q
   by_cases hi:i<h'.length
   ·have mem:∀(h:KH) (i:Nat),i<h.length→KH.get h i∈h:=by
     intro h
     induction h with
     | nil=>grind
     | cons k h ih =>
      intro i hi
      cases i with
      | zero=>exact qar
      | succ i=>exact qal _ (ih i (by grind))
    grind
   ·rw[KH.get_ge _ _ (by omega)]
    rfl)
  have beside:∀j l,f j=some l→(H.get j).live→j ∉ ρ→¬Mine (fren f ρ) h l.B:=fun j l e hl hn ⟨i,li,ei,hi,eb⟩=>by
   obtain⟨b,hb,fb⟩:=jdz ei
   exact d.apart b j li l fb e (rlive i b hb hi) hl (fun q=>hn (q▸List.mem_of_getElem? hb)) eb
  have big:∀B,Mine (fren f ρ) h B→Mine f H B:=fun B ⟨i,l,e,hl,eb⟩=>by
   obtain⟨b,hb,fb⟩:=jdz e
   exact⟨b,l,fb,rlive i b hb hl,eb⟩
  have small:∀j l,f j=some l→(H.get j).live→l.B<w.heap.size:=fun j l e hl=>d.f_lt e hl
  have same:∀j l,f j=some l→(H.get j).live→j ∉ ρ→w'.heap[l.B]?=w.heap[l.B]?:=fun j l e hl hn=>st.keep.block l.B (small j l e hl) (beside j l e hl hn)
  have ext:Ext z f z' f':=⟨zz,fun j l e=>by
   grind⟩
  -- where a block of the great memory comes from
  have kinds:∀j,(∃i,i<h.length∧ρ[i]?=some j∧j<H.length)∨(j<H.length∧j ∉ ρ)∨H.length≤j:=fun j=>by
   grind [List.mem_iff_getElem?,List.getElem?_eq_some_iff]
  have fromSmall:∀j l,f' j=some l→((bigH (bigN ρ h.length H.length) h.length ρ h' H).get j).live→(∃i,f2 i=some l∧(h'.get i).live∧bigN ρ h.length H.length i=j)∨(j<H.length∧j ∉ ρ∧f j=some l∧(H.get j).live):=fun j l e hl=>by
   rcases kinds j with⟨i,h1,h2,h3⟩|⟨h1,h2⟩|h1
   all_goals grind [KH.lt_of_live]
  have offS:∀i l,f2 i=some l→(h'.get i).live→z' l.B=none:=fun i l e hl=>by
   show (if ice l.B then none else z2 l.B)=none
   split
   ·rfl
   ·exact d2.off i l e hl
  have apartS:∀i l j lj,f2 i=some l→(h'.get i).live→f j=some lj→(H.get j).live→j ∉ ρ→l.B≠lj.B:=fun i l j lj e hl ej hj hn eb=>by
   rcases st.mine ⟨i,l,e,hl,rfl⟩ with q|q
   all_goals grind
  refine⟨z',f',?_,⟨fun j=>?_,fun i j li lj ei ej hi hj hne=>?_,fun j l e hl=>?_,fun B o e=>d2.stays B o (z2' B o e).1⟩,⟨⟨st.keep.os,st.keep.tape,st.keep.output,st.keep.size,fun B hB hn=>st.keep.block B hB (fun q=>hn (big B q))⟩,by omega,fun j hj=>?_,fun j hj hl=>?_,fun j l hj e hl=>?_,zz,fun B o e=>?_⟩⟩
  ·cases r with
   | ret c =>
    cases e with
    | returned v =>
     refine jgW hσ he (hzz.imp id (fun q=>?_))
     rw[qaa]at q
     exact q.1
    | panicked ch=>exact he.elim
    | outgrown=>exact he.elim
   | pan c =>
    cases e with
    | returned v=>exact he.elim
    | outgrown=>exact he.elim
    | panicked ch =>
     unfold EndR at he
     split at he
     ·grind
     ·rename_i c' v e1 e2
      cases e1
      cases e2
      refine jgW hσ he (hzz.imp id (fun q=>?_))
      rw[qaa]at q
      exact q.1
     grind
  ·rcases kinds j with⟨i,h1,h2,h3⟩|⟨h1,h2⟩|h1
   ·rw[getR i j h2,f'old j h3,←f2old i j h2]
    exact jru hσ (hz2 i) (d2.blk i)
   ·rw[getO j h1 h2,f'old j h1]
    have hb:=d.blk j
    cases e:f j with
    | none =>
     rw[e]at hb
     exact hb.none_any
    | some l =>
     rw[e]at hb
     by_cases hl:(H.get j).live
     ·exact hb.mono ext (same j l e hl h2)
     ·rw[jdV hl]
      trivial
   ·rw[getN j h1]
    by_cases h2:h.length+(j-H.length)<h'.length
    ·have:=f'new (h.length+(j-H.length)) (by omega) h2
     rw[show H.length+(h.length+(j-H.length)-h.length)=j by omega]at this
     rw[this]
     exact jru hσ (hz2 _) (d2.blk _)
    ·rw[KH.get_ge _ _ (by omega)]
     cases f' j<;>trivial
  ·rcases fromSmall i li ei hi with⟨a,q1,q2,q3⟩|⟨q1,q2,q3,q4⟩<;>rcases fromSmall j lj ej hj with⟨b,p1,p2,p3⟩|⟨p1,p2,p3,p4⟩
   ·exact d2.apart a b li lj q1 p1 q2 p2 (fun e=>hne (by rw[←q3,←p3,e]))
   ·grind
   ·grind
   ·exact d.apart i j li lj q3 p3 q4 p4 hne
  ·rcases fromSmall j l e hl with⟨a,q1,q2,q3⟩|⟨q1,q2,q3,q4⟩
   ·exact offS a l q1 q2
   ·cases ez:z' l.B with
    | none=>rfl
    | some o =>
     exfalso
     obtain⟨g1,g2⟩:=z2' _ o ez
     rcases st.znew _ _ g1 with k|k|k
     ·rcases jlb _ _ k with k|k
      ·rw[d.off j l q3 q4]at k
       cases k
      ·have k2:froz z f H w fz l.B=some o:=by
        rcases st.znew _ _ g1 with k3|k3|k3
        ·exact k3
        ·have:=small j l q3 q4
         omega
        ·exact absurd k3 (beside j l q3 q4 q2)
       unfold froz at k2
       rw[if_neg g2,d.off j l q3 q4]at k2
       cases k2
     all_goals grind
  ·rw[lenH]at hj
   rcases hj with q|q
   ·exact f'old j q
   ·exact f'far j q
  ·rcases kinds j with⟨i,h1,h2,h3⟩|⟨h1,h2⟩|h1
   ·rw[getR i j h2]at hl
    exact rlive i j h2 (st.liv i h1 (renlive _ hl))
   ·rw[getO j h1 h2]at hl
    exact hl
   ·omega
  ·rcases fromSmall j l e hl with⟨a,q1,q2,q3⟩|⟨q1,q2,q3,q4⟩
   ·rcases st.mine ⟨a,l,q1,q2,rfl⟩ with k|k
    all_goals grind
   ·omega
  ·obtain⟨g1,g2⟩:=z2' B o e
   rcases st.znew B o g1 with k|k|k
   all_goals grind [jlb]
end
section
open Go.RowKit
inductive AK where
 | any
 | sl (t:ETy)
 | agg (l:List AK)
mutual
def idf:CV→Bool
 | .ptr _ _ _=>false
 | .slice _ _ _ _ _=>false
 | .fn _ l=>idfL l
 | .iface _ c=>idf c
 | .agg l=>idfL l
 | .tup l=>idfL l
 | _=>true
def idfL:List CV→Bool
 | []=>true
 | c::l=>idf c&&idfL l
end
theorem jle:∀{l:List CV},idfL l=true→∀(i:Nat) (c:CV),l[i]?=some c→idf c=true
 | [],_,i,c,e=>by simp at e
 | x::l,h,i,c,e=>by
  simp only[idfL,qaa]at h
  cases i with
  | zero =>
   grind
  | succ i =>
   simp only[List.getElem?_cons_succ]at e
   exact jle h.2 i c e
mutual
theorem jlf (ρ fz:List Nat) (H:KH):∀{c:CV},idf c=true→crs ρ fz H c c
 | .undef,_=>by simp[crs]
 | .int _ _,_=>by simp[crs]
 | .bool _,_=>by simp[crs]
 | .str _,_=>by simp[crs]
 | .ptr _ _ _,h=>by simp[idf]at h
 | .slice _ _ _ _ _,h=>by simp[idf]at h
 | .vec t L,h=>by simp only[crs];exact ETy.cast_same t L
 | .vp t x o,h=>by simp_all [crs,ETy.cast_same,trivial]
 | .gptr _ _,_=>by simp[crs]
 | .nilptr,_=>by simp[crs]
 | .zs,_=>by simp[crs]
 | .nils,_=>by simp[crs]
 | .fn F l,h=>by simp only[crs];exact⟨trivial,jf9 ρ fz H h⟩
 | .nilfn,_=>by simp[crs]
 | .mfn _,_=>by simp[crs]
 | .iface t c,h=>by simp only[crs];exact⟨trivial,jlf ρ fz H h⟩
 | .niliface,_=>by simp[crs]
 | .agg l,h=>by simp only[crs];exact jf9 ρ fz H h
 | .tup l,h=>by simp only[crs];exact jf9 ρ fz H h
theorem jf9 (ρ fz:List Nat) (H:KH):∀{l:List CV},idfL l=true→crsL ρ fz H l l
 | [],_=>by simp[crsL]
 | c::l,h=>by
  simp only[idfL,qaa]at h
  simp only[crsL]
  exact⟨jlf ρ fz H h.1,jf9 ρ fz H h.2⟩
end
mutual
def purV (H:KH):AK→CV→Option (Prop×CV×List Nat)
 | .any,c=>if idf c=true then some (True,c,[]) else none
 | .sl t,.vec t' L=>(ETy.cast? t' t L).map fun L=>(True,.vec t L,[])
 | .sl t,.slice b i _ n c=>match H.get b with
  | .seq t' M=>(ETy.cast? t' t ((M.drop i).take n)).map fun L=>(i+n≤M.length∧n≤c,.vec t L,[b])
  | _=>none
 | .sl t,.zs=>some (True,.vec t [],[])
 | .sl t,.nils=>some (True,.vec t [],[])
 | .agg ks,.agg l=>match purL H ks l with
  | some (G,l',bs)=>some (G,.agg l',bs)
  | none=>none
 | _,_=>none
def purL (H:KH):List AK→List CV→Option (Prop×List CV×List Nat)
 | [],[]=>some (True,[],[])
 | k::ks,c::l=>match purV H k c,purL H ks l with
  | some (G,c',bs),some (G',l',bs')=>some (G∧G',c'::l',bs++bs')
  | _,_=>none
 | _,_=>none
end
mutual
theorem jui {H:KH}{fz:List Nat}:∀{k:AK}{c:CV}{G:Prop}{c':CV}{bs:List Nat},purV H k c=some (G,c',bs)→G→(∀b∈bs,fz.contains b=true)→crs [] fz H c c'
 | .any,c,G,c',bs,h,hG,hb=>by
  grind [purV,jlf]
 | .sl t,c,G,c',bs,h,hG,hb=>by
  cases c<;>simp only[purV]at h<;>try (cases h;done)
  ·split at h
   ·rename_i t' M e
    simp only[qam,Prod.mk.injEq]at h
    obtain⟨L,h1,rfl,rfl,rfl⟩:=h
    grind [crs]
   ·cases h
  ·simp only[qam,Prod.mk.injEq]at h
   obtain⟨L,h1,_,rfl,rfl⟩:=h
   simp only[crs]
   exact h1
  all_goals grind [crs]
 | .agg ks,c,G,c',bs,h,hG,hb=>by
  cases c<;>simp only[purV]at h<;>try (cases h;done)
  split at h
  ·rename_i G' l' bs' e
   cases h
   simp only[crs]
   exact jga e hG hb
  ·cases h
theorem jga {H:KH}{fz:List Nat}:∀{ks:List AK}{l:List CV}{G:Prop}{l':List CV}{bs:List Nat},purL H ks l=some (G,l',bs)→G→(∀b∈bs,fz.contains b=true)→crsL [] fz H l l'
 | [],l,G,l',bs,h,hG,hb=>by
  grind [purL,crsL]
 | k::ks,l,G,l',bs,h,hG,hb=>by
  cases l<;>simp only[purL]at h
  ·cases h
  ·split at h
   ·rename_i G1 c1 b1 G2 l2 b2 e1 e2
    cases h
    simp only[crsL]
    exact⟨jui e1 hG.1 (fun b q=>hb b (qac _ q)),jga e2 hG.2 (fun b q=>hb b (qae _ q))⟩
   ·cases h
end
mutual
def jaP (k:Nat):CV→CV×KH
 | .vec t L=>(.slice k 0 t.esz L.length L.length,[.seq t L])
 | .agg l=>(.agg (jb3 k l).1,(jb3 k l).2)
 | .tup l=>(.tup (jb3 k l).1,(jb3 k l).2)
 | c=>(c,[])
def jb3 (k:Nat):List CV→List CV×KH
 | []=>([],[])
 | c::l=>((jaP k c).1::(jb3 (k+(jaP k c).2.length) l).1,(jaP k c).2++(jb3 (k+(jaP k c).2.length) l).2)
end
def ja9 (k:Nat):Res→Res×KH
 | .ret c=>(.ret (jaP k c).1,(jaP k c).2)
 | .pan c=>(.pan c,[])
mutual
def ja0:CV→Bool
 | .vec _ _=>true
 | .agg l=>jeh l
 | .tup l=>jeh l
 | c=>idf c&&nvV c
def jeh:List CV→Bool
 | []=>true
 | c::l=>ja0 c&&jeh l
end
def jey:Res→Bool
 | .ret c=>ja0 c
 | .pan c=>idf c&&nvV c
mutual
theorem jdg (σ:Nat→Nat):∀{c:CV},idf c=true→renV σ c=c
 | .undef,_=>rfl
 | .int _ _,_=>rfl
 | .bool _,_=>rfl
 | .str _,_=>rfl
 | .ptr _ _ _,h=>by simp[idf]at h
 | .slice _ _ _ _ _,h=>by simp[idf]at h
 | .vec _ _,_=>rfl
 | .vp _ _ _,_=>rfl
 | .gptr _ _,_=>rfl
 | .nilptr,_=>rfl
 | .zs,_=>rfl
 | .nils,_=>rfl
 | .fn F l,h=>by simp only[renV];rw[jgb σ h]
 | .nilfn,_=>rfl
 | .mfn _,_=>rfl
 | .iface t c,h=>congrArg (CV.iface t) (jdg σ (c:=c) h)
 | .niliface,_=>rfl
 | .agg l,h=>by simp only[renV];rw[jgb σ h]
 | .tup l,h=>by simp only[renV];rw[jgb σ h]
theorem jgb (σ:Nat→Nat):∀{l:List CV},idfL l=true→renL σ l=l
 | [],_=>rfl
 | c::l,h=>by
  simp only[idfL,qaa]at h
  simp only[renL]
  rw[jdg σ h.1,jgb σ h.2]
end
mutual
theorem joT {σ:Nat→Nat}{N:Nat}(hσ:∀i,σ i=N+i):∀{c:CV}(k:Nat),ja0 c=true→renV σ (jaP k c).1=(jaP (N+k) c).1∧(jaP k c).2.map (renB σ)=(jaP (N+k) c).2
 | .vec t L,k,_=>by simp_all [jaP,renV,qag,qai,renB,trivial]
 | .agg l,k,h=>by
  obtain⟨h1,h2⟩:=jiI hσ k (l:=l) h
  simp_all [jaP,renV,trivial]
 | .tup l,k,h=>by
  obtain⟨h1,h2⟩:=jiI hσ k (l:=l) h
  simp_all [jaP,renV,trivial]
 | .undef,k,h=>⟨rfl,rfl⟩
 | .int _ _,k,h=>⟨rfl,rfl⟩
 | .bool _,k,h=>⟨rfl,rfl⟩
 | .str _,k,h=>⟨rfl,rfl⟩
 | .ptr _ _ _,k,h=>by simp[ja0,idf]at h
 | .slice _ _ _ _ _,k,h=>by simp[ja0,idf]at h
 | .vp _ _ _,k,h=>⟨rfl,rfl⟩
 | .gptr _ _,k,h=>⟨rfl,rfl⟩
 | .nilptr,k,h=>⟨rfl,rfl⟩
 | .zs,k,h=>⟨rfl,rfl⟩
 | .nils,k,h=>⟨rfl,rfl⟩
 | .fn F l,k,h=>by
  simp only[ja0,idf,qaa]at h
  simp_all [jaP,renV,qai,jgb,trivial]
 | .nilfn,k,h=>⟨rfl,rfl⟩
 | .mfn _,k,h=>⟨rfl,rfl⟩
 | .iface t c,k,h=>by
  simp only[ja0,idf,qaa]at h
  simp only[jaP,renV,qai]
  simp_all [congrArg,CV.iface,jdg,trivial]
 | .niliface,k,h=>⟨rfl,rfl⟩
theorem jiI {σ:Nat→Nat}{N:Nat}(hσ:∀i,σ i=N+i):∀{l:List CV}(k:Nat),jeh l=true→renL σ (jb3 k l).1=(jb3 (N+k) l).1∧(jb3 k l).2.map (renB σ)=(jb3 (N+k) l).2
 | [],k,_=>⟨rfl,rfl⟩
 | c::l,k,h=>by
  simp only[jeh,qaa]at h
  obtain⟨h1,h2⟩:=joT hσ k h.1
  have hl:(jaP (N+k) c).2.length=(jaP k c).2.length:=by rw[←h2,qbd]
  obtain⟨h3,h4⟩:=jiI hσ (k+(jaP k c).2.length) h.2
  simp_all [jb3,renL,qao,qax,trivial]
end
theorem VRel.of_idf {z:ZMap}{f f':LMap}{c:CV}{v:Value}(h:idf c=true) (hv:VRel z f c v):VRel z f' c v:=by
 induction hv with
 | undef v=>exact .undef v
 | int k n=>exact .int k n
 | bool b=>exact .bool b
 | str s=>exact .str s
 | ptr b i o l _=>simp[idf]at h
 | vp t x o B base rc T fr g h1 h2 h3 ih=>exact .vp t x o B base rc T fr g h1 h2 (fun k c hk=>VRel.of_enc (fun _ _ e=>e) hk (h3 k c hk))
 | gptr g o=>exact .gptr g o
 | nilptr=>exact .nilptr
 | slice b i e n c cap' l _ _ _ _=>simp[idf]at h
 | slice0 b i e A=>simp[idf]at h
 | vec t L B o cap' rc T fr g h1 h2 h3 h4 ih=>exact .vec t L B o cap' rc T fr g h1 h2 h3 (fun j x hx k c hk=>VRel.of_enc (fun _ _ e=>e) hk (h4 j x hx k c hk))
 | vec0 t A cap'=>exact .vec0 t A cap'
 | zs A=>exact .zs A
 | nils=>exact .nils
 | fn F caps cs hs hr ih=>exact .fn F caps cs hs (fun i c v hc hv=>ih i c v hc hv (jle h i c hc))
 | nilfn=>exact .nilfn
 | mfn F=>exact .mfn F
 | iface t c v _ ih=>exact .iface t c v (ih h)
 | niliface=>exact .niliface
 | agg caps cs hs hr ih=>exact .agg caps cs hs (fun i c v hc hv=>ih i c v hc hv (jle h i c hc))
 | tup caps cs hs hr ih=>exact .tup caps cs hs (fun i c v hc hv=>ih i c v hc hv (jle h i c hc))
def jgc:List Nat→List Nat
 | []=>[]
 | x::r=>if (jgc r).contains x then jgc r else x::jgc r
theorem jgd {x:Nat}:∀{l:List Nat},x∈l→(jgc l).contains x=true
 | [],h=>by cases h
 | y::r,h=>by
  simp only[jgc]
  split
  ·rename_i q
   rcases List.mem_cons.1 h with rfl|h
   ·exact q
   ·exact jgd h
  ·rcases List.mem_cons.1 h with rfl|h
   ·simp
   ·have:=jgd h
    grind
theorem jdY:∀l:List Nat,ja8 (jgc l)=true
 | []=>rfl
 | x::r=>by
  simp only[jgc]
  split
  ·exact jdY r
  ·rename_i q
   simp only[ja8,qaa,qah]
   exact⟨by simpa using q,jdY r⟩
abbrev Spec:=List CV→Option (Prop×Res)
def conT (ks:List AK) (spec:Spec):Con:=fun ARGS H=>match purL H ks ARGS with
 | some (G,args,bs)=>match spec args with
  | some (G',r)=>some (G∧G'∧(jey r&&(bs.isEmpty || (nvR (ja9 0 r).1&&(ja9 0 r).2.all nvB)))=true,(ja9 H.length r).1,H++(ja9 H.length r).2)
  | none=>none
 | none=>none
def conF (ks:List AK) (spec:Spec):Con:=fun ARGS H=>match purL H ks ARGS with
 | some (G,args,bs)=>match spec args with
  | some (G',r)=>some (G∧G'∧(jey r&&(bs.isEmpty || (nvR (ja9 0 r).1&&(ja9 0 r).2.all nvB)))=true,r,H)
  | none=>none
 | none=>none
def conA (ks:List AK) (spec:Spec):Con:=fun ARGS H=>match purL H ks ARGS with
 | some (G,args,bs)=>match spec args with
  | some (G',r)=>some (G∧G'∧(bs.isEmpty&&(match r with | .ret c=>idf c | .pan c=>idf c))=true,r,H)
  | none=>none
 | none=>none
def Fresh (P:Program) (E:Nat→Option (List CV)) (F:FuncId) (spec:Spec):Prop:=∀args G r,spec args=some (G,r)→G→TF P E F args [] (ja9 0 r).1 (ja9 0 r).2
def Alias (P:Program) (E:Nat→Option (List CV)) (F:FuncId) (spec:Spec):Prop:=∀args G r,spec args=some (G,r)→G→TF P E F args [] r []
section
variable {P:Program}{E:Nat→Option (List CV)}{F:FuncId}{ks:List AK}{spec:Spec}
theorem jrv {σ:Nat→Nat}{N:Nat}(hσ:∀i,σ i=N+i){r:Res}(k:Nat) (h:jey r=true):renR σ (ja9 k r).1=(ja9 (N+k) r).1∧(ja9 k r).2.map (renB σ)=(ja9 (N+k) r).2:=by
 cases r with
 | ret c =>
  obtain⟨h1,h2⟩:=joT hσ k (c:=c) h
  simp_all [ja9,renR,trivial]
 | pan c =>
  simp only[jey,qaa]at h
  simp_all [ja9,renR,jdg,qai,trivial]
theorem Fresh.soundT (t:Fresh P E F spec):jjT P E F (conT ks spec):=fun ARGS H G r H' hc hG=>by
 unfold conT at hc
 split at hc
 ·rename_i G1 args bs e1
  split at hc
  ·rename_i G2 r0 e2
   simp only[Option.some.injEq,Prod.mk.injEq]at hc
   obtain⟨rfl,rfl,rfl⟩:=hc
   obtain⟨g1,g2,g3⟩:=hG
   rw[qaa]at g3
   have hσ:∀i,bigN [] 0 H.length i=H.length+i:=fun i=>by simp[bigN]
   obtain⟨q1,q2⟩:=jrv hσ 0 g3.1
   have:=TF.lift (H:=H) (ARGS:=ARGS) (ρ:=[]) (fz:=jgc bs) (t args G2 r0 e2 g2) (by simpa using jdY bs) rfl trivial (jga e1 g1 (fun b hb=>jgd hb)) (by
    rcases qbe _ _▸g3.2 with q|q
    ·rw[qav]at q
     subst q
     exact .inl rfl
    grind) (qas _)
   simp_all [qbf,bigH,jbG,qaw,Nat.add_zero]
  ·cases hc
 ·cases hc
theorem Alias.soundA (t:Alias P E F spec):jjT P E F (conA ks spec):=fun ARGS H G r H' hc hG=>by
 unfold conA at hc
 split at hc
 ·rename_i G1 args bs e1
  split at hc
  ·rename_i G2 r0 e2
   simp only[Option.some.injEq,Prod.mk.injEq]at hc
   obtain⟨rfl,rfl,rfl⟩:=hc
   obtain⟨g1,g2,g3⟩:=hG
   rw[qaa,qav]at g3
   obtain⟨rfl,g3⟩:=g3
   have:=TF.lift (H:=H) (ARGS:=ARGS) (ρ:=[]) (fz:=[]) (t args G2 r0 e2 g2) rfl rfl trivial (jga e1 g1 (fun b hb=>by cases hb)) (.inl rfl) (qas _)
   simp only[qbf,bigH,jbG,qaw,qai,qbc]at this
   grind [renR,jdg]
  ·cases hc
 ·cases hc
mutual
theorem joU {z z2:ZMap}{f f2:LMap}{nb:KH}{w:World}(d:Desc z2 f2 nb w) (hnew:∀i l,f2 i=some l→(nb.get i).live→z l.B=w.heap[l.B]?) (hz:(∀B o,z2 B=some o→z B=some o)∨nb.all nvB=true):∀{c:CV}{k:Nat}{v:Value},ja0 c=true→(∀i,i<(jaP k c).2.length→nb.get (k+i)=(jaP k c).2.get i)→((∀B o,z2 B=some o→z B=some o)∨nvV (jaP k c).1=true)→VRel z2 f2 (jaP k c).1 v→VRel z f c v
 | .vec t L,k,v,h,hb,hn,hv=>by
  have hk:nb.get k=.seq t L:=hb 0 (by simp[jaP])
  simp only[jaP]at hv
  have full:∀(A:Option Addr) (n cap:Nat),L.length=0→VRel z f (.vec t L) (.slice A 0 cap):=fun A n cap e=>by
   rw[List.length_eq_zero_iff.1 e]
   exact .vec0 _ _ _
  generalize hn':L.length=n at hv
  generalize hc':n=c at hv
  cases hv with
  | slice _ _ _ _ _ cap' l h1 h2 h3 h4 =>
   subst hc'
   rcases hz with hz|hz
   ·exact jka d hz h1 h2 h3 (Nat.le_refl _) hk (by omega) (by rw[qaw,←hn',List.take_length];exact ETy.cast_same t L) (hnew k l h1 (by rw[hk];trivial))
   ·have hbk:=d.blk k
    rw[h1,hk]at hbk
    obtain⟨he2,rc,T,fr,r1,r2,r3,r4,r5⟩:=hbk
    have nvk:flat t=true:=by
     have:nvB (nb.get k)=true:=by
      have hlt:=KH.lt_of_live (h:=nb) (i:=k) (by rw[hk];trivial)
      have mem:∀(h:KH) (i:Nat),i<h.length→KH.get h i∈h:=by
       intro h
       induction h with
       | nil=>grind
       | cons k h ih =>
        intro i hi
        cases i with
        | zero=>exact qar
        | succ i=>exact qal _ (ih i (by grind))
      exact List.all_eq_true.1 hz _ (mem nb k hlt)
     rw[hk]at this
     exact this
    have at':∀(j:Nat) (x:t.T),L[j]?=some x→∀(m:Nat) (c:CV),(t.enc x)[m]?=some c→∃v,rc[l.sh+0*l.esz+0+j*t.esz+m]?=some v∧VRel z2 f2 c v:=fun j x hx m c hc=>by
     obtain⟨v,q1,q2⟩:=r5 _ c (jfv t L j m x c hx hc)
     grind
    rw[←hn']
    refine .vec t L l.B _ cap' rc T fr (fun j m=>(rc[l.sh+0*l.esz+0+j*t.esz+m]?).getD undef) ((hnew k l h1 (by rw[hk];trivial)).trans r1) (by omega) (fun j x hx m c hc=>?_) (fun j x hx m c hc=>?_)
    all_goals grind [VRel.enc_any]
  | slice0 _ _ _ A =>
   simp_all
 | .agg l,k,v,h,hb,hn,hv=>by
  simp only[jaP]at hv hb hn
  cases hv with
  | agg _ cs hs hr =>
   obtain⟨q1,q2⟩:=jiJ (f:=f) d hnew hz (l:=l) (k:=k) (vs:=cs.toList) h hb (hn.imp id id) (by omega) (fun i c v hc hv=>hr i c v hc (by simpa using hv))
   exact .agg _ _ (by omega) (fun i c v hc hv=>q2 i c v hc (by simpa using hv))
 | .tup l,k,v,h,hb,hn,hv=>by
  simp only[jaP]at hv hb hn
  cases hv with
  | tup _ cs hs hr =>
   obtain⟨q1,q2⟩:=jiJ (f:=f) d hnew hz (l:=l) (k:=k) (vs:=cs.toList) h hb (hn.imp id id) (by omega) (fun i c v hc hv=>hr i c v hc (by simpa using hv))
   exact .tup _ _ (by omega) (fun i c v hc hv=>q2 i c v hc (by simpa using hv))
 | .undef,k,v,h,hb,hn,hv=>.undef _
 | .int _ _,k,v,h,hb,hn,hv=>by cases hv;exact .int _ _
 | .bool _,k,v,h,hb,hn,hv=>by cases hv;exact .bool _
 | .str _,k,v,h,hb,hn,hv=>by cases hv;exact .str _
 | .ptr _ _ _,k,v,h,hb,hn,hv=>by simp[ja0,idf]at h
 | .slice _ _ _ _ _,k,v,h,hb,hn,hv=>by simp[ja0,idf]at h
 | .vp _ _ _,k,v,h,hb,hn,hv=>by simp[ja0,nvV]at h
 | .gptr _ _,k,v,h,hb,hn,hv=>by cases hv;exact .gptr _ _
 | .nilptr,k,v,h,hb,hn,hv=>by cases hv;exact .nilptr
 | .zs,k,v,h,hb,hn,hv=>by cases hv;exact .zs _
 | .nils,k,v,h,hb,hn,hv=>by cases hv;exact .nils
 | .fn F l,k,v,h,hb,hn,hv=>by
  simp only[ja0,qaa]at h
  have hv:VRel z2 f2 (.fn F l) v:=hv
  have:=jgW (σ:=id) (z':=z) (f':=f2) (f:=f2) (fun _ _ e=>e) hv (.inr h.2)
  grind [jdg,VRel.of_idf]
 | .nilfn,k,v,h,hb,hn,hv=>by cases hv;exact .nilfn
 | .mfn F,k,v,h,hb,hn,hv=>by cases hv;exact .mfn F
 | .iface t c,k,v,h,hb,hn,hv=>by
  simp only[ja0,qaa]at h
  have hv:VRel z2 f2 (.iface t c) v:=hv
  have:=jgW (σ:=id) (z':=z) (f':=f2) (f:=f2) (fun _ _ e=>e) hv (.inr h.2)
  grind [jdg,VRel.of_idf]
 | .niliface,k,v,h,hb,hn,hv=>by cases hv;exact .niliface
theorem jiJ {z z2:ZMap}{f f2:LMap}{nb:KH}{w:World}(d:Desc z2 f2 nb w) (hnew:∀i l,f2 i=some l→(nb.get i).live→z l.B=w.heap[l.B]?) (hz:(∀B o,z2 B=some o→z B=some o)∨nb.all nvB=true):∀{l:List CV}{k:Nat}{vs:List Value},jeh l=true→(∀i,i<(jb3 k l).2.length→nb.get (k+i)=(jb3 k l).2.get i)→((∀B o,z2 B=some o→z B=some o)∨nvL (jb3 k l).1=true)→vs.length=(jb3 k l).1.length→(∀(i:Nat) (c:CV) (v:Value),(jb3 k l).1[i]?=some c→vs[i]?=some v→VRel z2 f2 c v) →
  vs.length=l.length∧∀(i:Nat) (c:CV) (v:Value),l[i]?=some c→vs[i]?=some v→VRel z f c v
 | [],k,vs,h,hb,hn,hs,hr=>⟨by simpa[jb3] using hs,fun i c v hc=>by simp at hc⟩
 | c::l,k,[],h,hb,hn,hs,hr=>by simp[jb3]at hs
 | c::l,k,u::vs,h,hb,hn,hs,hr=>by
  simp only[jeh,qaa]at h
  simp only[jb3]at hb hs hr hn
  obtain⟨q1,q2⟩:=jiJ (f:=f) d hnew hz (l:=l) (k:=k+(jaP k c).2.length) (vs:=vs) h.2 (fun i hi=>by
   simp_all [jaP,qaz,KH.get_app,if_neg,Nat.add_sub_cancel_left,qax]) (hn.imp id (fun q=>by
   simp_all [nvL,qaa])) (by simpa using hs) (fun i c v hc hv=>hr (i+1) c v (by grind) (by simpa using hv))
  have head:=joU (f:=f) d hnew hz (c:=c) (k:=k) (v:=u) h.1 (fun i hi=>by
   have:=hb i (by grind)
   simp_all [KH.get_app,if_pos]) (hn.imp id (fun q=>by
   simp_all [nvL,qaa])) (hr 0 _ u rfl rfl)
  grind
end
end
section
variable {P:Program}{E:Nat→Option (List CV)}{F:FuncId}{ks:List AK}{spec:Spec}
open Classical in
theorem Fresh.soundF (t:Fresh P E F spec):jjT P E F (conF ks spec):=fun ARGS H G r H' hc hG z f w vs hsz hrel hE d hfree=>by
 unfold conF at hc
 split at hc
 ·rename_i G1 args bs e1
  split at hc
  ·rename_i G2 r0 e2
   simp only[Option.some.injEq,Prod.mk.injEq]at hc
   obtain⟨rfl,rfl,rfl⟩:=hc
   obtain⟨g1,g2,g3⟩:=hG
   rw[qaa]at g3
   obtain⟨g3,g4⟩:=g3
   have hcr:=jga e1 g1 (fz:=jgc bs) (fun b hb=>jgd hb)
   obtain⟨a1,a2⟩:=jfA hcr
   have hz1:∀B o,z B=some o→froz z f H w (jgc bs) B=some o:=jib d
   have d1:Desc (froz z f H w (jgc bs)) (fren f []) [] w:=jrs d (fun b hb=>by cases hb) (by simpa[imgs] using jdY bs) trivial
   have free1:Free (fren f []) []:=fun i hi=>rfl
   refine (t args G2 r0 e2 g2 (froz z f H w (jgc bs)) (fren f []) w vs (by omega) (fun i c v hc hv=>?_) (hE.zmono hz1) d1 free1).mono ?_
   ·have hlt:=(List.getElem?_eq_some_iff.1 hc).1
    have hC:=List.getElem?_eq_getElem (show i<ARGS.length by omega)
    grind [jk9,jfB,jla]
   ·rintro e w' ⟨z2,f2,he,d2,st,free2⟩
    let ice:Nat→Prop:=fun B=>∃b l,(jgc bs).contains b=true∧f b=some l∧(H.get b).live∧l.B=B
    let new:Nat→Prop:=fun B=>∃i l,f2 i=some l∧(((ja9 0 r0).2).get i).live∧l.B=B
    let z':ZMap:=fun B=>if new B then w'.heap[B]? else if ice B then none else z2 B
    have hnew:∀B,new B→w.heap.size≤B:=fun B ⟨i,l,q1,q2,q3⟩=>by
     rcases st.new i l (qas _) q1 q2 with k|⟨j,l',_,k,_⟩
     ·omega
     ·exact absurd (KH.lt_of_live k) (by simp)
    have hzw:∀B o,z B=some o→B<w.heap.size:=fun B o e=>d.z_lt e
    have hice:∀B o,z B=some o→¬ice B:=fun B o e ⟨b,l,q1,q2,q3,q4⟩=>by
     have:=d.off b l q2 q3
     grind
    have zz:∀B o,z B=some o→z' B=some o:=fun B o e=>by
     show (if new B then w'.heap[B]? else if ice B then none else z2 B)=some o
     rw[if_neg (fun q=>by
      have:=hnew B q
      grind),if_neg (hice B o e)]
     exact st.zold B o (hz1 B o e)
    have kp:Kp (fun _=>False) w w':=st.keep.mono (fun g ⟨j,l,_,k,_⟩=>absurd (KH.lt_of_live k) (by simp))
    have z2':∀B o,z' B=some o→w'.heap[B]?=some o∧(w.heap.size≤B∨z B=some o):=fun B o e=>by
     have e:(if new B then w'.heap[B]? else if ice B then none else z2 B)=some o:=e
     split at e
     ·simp_all
     ·split at e
      ·cases e
      ·rename_i q
       refine⟨d2.stays B o e,?_⟩
       rcases st.znew B o e with k|k|⟨j,l,_,k,_⟩
       ·unfold froz at k
        grind
       ·exact .inl k
       ·exact absurd (KH.lt_of_live k) (by simp)
    have hzz:(∀B o,z2 B=some o→z' B=some o)∨(nvR (ja9 0 r0).1&&(ja9 0 r0).2.all nvB)=true:=by
     rcases qbe _ _▸g4 with q|q
     ·rw[qav]at q
      subst q
      refine .inl (fun B o e=>?_)
      show (if new B then w'.heap[B]? else if ice B then none else z2 B)=some o
      split
      ·exact d2.stays B o e
      ·rw[if_neg]
       all_goals grind [jgc]
     ·exact .inr q
    have ext:Ext z f z' f:=⟨zz,fun _ _ e=>e⟩
    refine⟨z',f,?_,⟨fun j=>?_,d.apart,fun j l e hl=>?_,fun B o e=>(z2' B o e).1⟩,⟨kp.mono (fun _ q=>q.elim),Nat.le_refl _,fun _ _=>rfl,fun _ _ h=>h,fun i l hi _ hl=>absurd (KH.lt_of_live hl) (by omega),zz,fun B o e=>?_⟩⟩
    ·have main:∀(c:CV) (v:Value),ja0 c=true→(jaP 0 c).2=(ja9 0 r0).2→((∀B o,z2 B=some o→z' B=some o)∨nvV (jaP 0 c).1=true)→VRel z2 f2 (jaP 0 c).1 v→VRel z' f c v:=fun c v h1 h2 h3 h4=>by
      refine joU d2 (fun i l q1 q2=>if_pos ⟨i,l,q1,q2,rfl⟩) (hzz.imp id (fun q=>by
       grind)) h1 (fun i hi=>by grind) h3 h4
     cases r0 with
     | ret c =>
      cases e with
      | returned v =>
       exact main c v g3 rfl (hzz.imp id (fun q=>by
        rw[qaa]at q
        exact q.1)) he
      | panicked ch=>exact he.elim
      | outgrown=>exact he.elim
     | pan c =>
      cases e with
      | returned v=>exact he.elim
      | outgrown=>exact he.elim
      | panicked ch =>
       unfold EndR at he
       split at he
       ·grind
       ·rename_i c' v e1 e2
        cases e1
        cases e2
        simp only[jey,qaa]at g3
        have:=jgW (σ:=id) (z':=z') (f':=f2) (f:=f2) (fun _ _ e=>e) he (.inr g3.2)
        rw[jdg _ g3.1]at this
        exact VRel.of_idf g3.1 this
       grind
    ·have hb:=d.blk j
     cases e:f j with
     | none =>
      rw[e]at hb
      exact hb.none_any
     | some l =>
      rw[e]at hb
      by_cases hl:(H.get j).live
      ·exact hb.mono ext (kp.block l.B (d.f_lt e hl) (fun q=>q))
      ·rw[jdV hl]
       trivial
    ·cases ez:z' l.B with
     | none=>rfl
     | some o =>
      exfalso
      have h1:=d.off j l e hl
      have h2:=d.f_lt e hl
      rcases (z2' l.B o ez).2 with q|q
      all_goals grind
    ·rcases (z2' B o e).2 with q|q
     all_goals grind
  ·cases hc
 ·cases hc
end
end
end
end Go.Proofs.YtienkkicehmchaaGreatDoor
