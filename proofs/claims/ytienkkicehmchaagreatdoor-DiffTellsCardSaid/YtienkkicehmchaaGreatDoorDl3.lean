/- Texts of this claim, merged by a program of this claim: ERegion, EDraw, EDraw2, EDraw3, EDraw4, EDraw5, EDraw6. -/
import Derived.Test.YtienkkicehmchaaGreatDoorDl2
import Derived.Orders
namespace Go.Proofs.YtienkkicehmchaaGreatDoor
open List renaming replicate→qaa,mem_cons_of_mem→qad,contains_eq_mem→qaj,mem_append→qak,mem_cons→qap,length_append→qaq,range→qav
open Bool renaming and_eq_true→qab,or_eq_true→qal,not_eq_true'→qan,false_eq_true→qao
open Nat renaming lt_of_lt_of_le→qac,le_refl→qae,lt_or_gt_of_ne→qaf,le_trans→qai,lt_trichotomy→qar,lt_or_ge→qat
open Option renaming map_eq_some_iff→qag,map_map→qau
open Result renaming andThen_ok→qah
open Sem renaming run_bind→qam,run_pure→qas
noncomputable section
set_option linter.unusedVariables false
set_option linter.unusedSimpArgs false
section
open Go.RowKit
inductive Res where
 | ret (c:CV)
 | pan (c:CV)
abbrev Con:=List CV→KH→Option (Prop×Res×KH)
structure Cx where
 E:Nat→Option (List CV)
 eqs:List (TypeId×List IntKind)
 G:List (FuncId×Con)
structure St where
 fr:Fr
 h:KH
structure RO where
 ix:Nat
 dst:Option Nat
 gd:Option (Nat×Bool)
 op:LOp
 pure:Bool
 last:Bool
deriving Inhabited
inductive VOut where
 | val (c:CV) (h:KH)
 | pan (c:CV) (h:KH)
def jf4:List (FuncId×Con)→FuncId→Option Con
 | [],_=>none
 | (k,c)::r,F=>if F=k then some c else jf4 r F
def jaB:Option (Nat×Bool)→Fr→Option Bool
 | none,_=>some true
 | some (g,want),fr=>match fr.get g with
  | .bool b=>if b=want then some true else some false
  | .tup []=>some false
  | _=>none
def jvD:Res→KH→VOut
 | .ret c,h=>.val c h
 | .pan c,h=>.pan c h
def jgR (X:Cx) (F:FuncId) (args:List CV) (h:KH):Option (Prop×VOut) :=
 match jf4 X.G F with
 | some c=>(match c args h with
  | some (G,r,h')=>some (G∧h.length≤h'.length,jvD r h')
  | none=>none)
 | none=>none
def opV (X:Cx) (l:LOp) (fr:Fr) (h:KH):Option (Prop×VOut) :=
 match l with
 | .call F xs=>jgR X F (xs.map (Opd.ev fr)) h
 | .callv x xs=>match x.ev fr with
  | .fn F caps=>jgR X F (xs.map (Opd.ev fr)++caps) h
  | .mfn F=>jgR X F (.agg []::xs.map (Opd.ev fr)) h
  | _=>none
 | .panic x=>match x.ev fr with
  | .iface t c=>some (True,.pan (.iface t c) h)
  | _=>none
 | l=>match jaf X.E l fr h with
  | some (G,c,h')=>some (G,.val c h')
  | none=>none
def jaX (X:Cx) (o:RO) (fr:Fr) (h:KH):Option (Prop×VOut) :=
 match jaB o.gd fr with
 | some true=>opV X o.op fr h
 | some false=>some (True,.val (.tup []) h)
 | none=>none
def putF (fr:Fr) (dst:Option Nat) (c:CV):Fr :=
 match dst with
 | some d=>fr.set d c
 | none=>fr
def EndR (z:ZMap) (f:LMap):Res→Ending→Prop
 | .ret c,.returned v=>VRel z f c v
 | .pan c,.panicked [⟨v,false,false⟩]=>VRel z f c v
 | _,_=>False
def TFx (P:Program) (E:Nat→Option (List CV)) (F:FuncId) (args:List CV) (h:KH) (r:Res) (h':KH):Prop :=
 ∀(z:ZMap) (f:LMap) (w:World) (vs:Array Value),vs.size=args.length→(∀(i:Nat) (c:CV) (v:Value),args[i]?=some c→vs[i]?=some v→VRel z f c v)→EnvOk E z→Desc z f h w →
  (∀i,h.length≤i→i<h'.length→f i=none) →
  Calls P F vs w fun e w'=>∃z' f',EndR z' f' r e∧Desc z' f' h' w'∧Stp z f h w z' f' h' w'
def jjT (P:Program) (E:Nat→Option (List CV)) (F:FuncId) (c:Con):Prop :=
 ∀args h G r h',c args h=some (G,r,h')→G→TFx P E F args h r h'
def jdd (P:Program) (F:FuncId):Bool :=
 match P.funcs[F]? with
 | some fn=>fn.body.isSome && !(fn.name == "runtime.NumGoroutine")
 | none=>false
def GOk (P:Program) (E:Nat→Option (List CV)):List (FuncId×Con)→Prop
 | []=>True
 | (F,c)::r=>(jdd P F=true∧jjT P E F c)∧GOk P E r
structure CxOk (P:Program) (X:Cx):Prop where
 eqs:jt6 P X.eqs
 G:GOk P X.E X.G
theorem GOk.find {P:Program}{E:Nat→Option (List CV)}:∀{l:List (FuncId×Con)}{F:FuncId}{c:Con},GOk P E l→jf4 l F=some c→jdd P F=true∧jjT P E F c
 | [],_,_,_,h=>by simp[jf4]at h
 | (k,c)::r,F,c',h,hf=>by
  simp only[jf4]at hf
  split at hf
  ·rename_i e
   subst e
   cases hf
   exact h.1
  ·exact GOk.find h.2 hf
def jgS (P:Program) (eqs:List (TypeId×List IntKind)) (op:Op) (l:LOp):Bool :=
 match l with
 | .call F xs=>(match op with
  | .call { callee:=.value (.func F'),args,argTypes:=_ }=>F==F'&&eqOs args.toList xs
  | _=>false)
 | .callv x xs=>(match op with
  | .call { callee:=.value u,args,argTypes:=_ }=>eqO u x&&eqOs args.toList xs
  | _=>false)
 | .panic x=>(match op with
  | .panic u=>eqO u x
  | _=>false)
 | l=>jlV P eqs op l
def jwl (ops:Array Oper):Option (Nat×Bool)→Option (Nat×Bool)→Bool
 | none,none=>true
 | some (j,want),some (g,want')=>want==want'&&((ops[j]?).bind (·.dst))==some g
 | _,_=>false
structure NT where
 n:Nat
 lo:Nat
instance (k:Nat):OfNat NT k:=⟨⟨k,0⟩⟩
structure DS where
 ds:List Deferred
 ks:Nat→Value
def DS.no:DS:=⟨[],fun _=>undef⟩
def held (nt:NT) (ds:DS) (a:Act):Prop:=a.defers=ds.ds∧∀k,k<nt.lo→a.tmps.getD k undef=ds.ks k
def jdw (P:Program) (eqs:List (TypeId×List IntKind)) (nt:NT) (ops:Array Oper) (o:RO):Bool :=
 match ops[o.ix]? with
 | some oo=>oo.dst==o.dst&&(match o.dst with
   | some d=>decide (nt.lo≤d)&&decide (d<nt.n)
   | none=>true)&&jwl ops oo.guard o.gd&&jgS P eqs oo.op o.op
 | none=>false
section
variable {P:Program}{X:Cx}{z:ZMap}{f:LMap}{h h':KH}{w:World}{a:Act}{fr:Fr}{ops:Array Oper}{Q:Exit→Act→World→Prop}{K:Act→World→Prop}{ds:DS}
theorem jet (hf:FrOk z f fr a){oo:Oper}{o:RO}{b:Bool}(hg:jwl ops oo.guard o.gd=true) (hb:jaB o.gd fr=some b):Region.wanted oo (yielded ops a.tmps)=b:=by
 unfold jwl at hg
 split at hg
 ·grind [jaB,Option.some.injEq,Region.wanted]
 ·rename_i j want g want' e1 e2
  simp only[qab,beq_iff_eq]at hg
  obtain⟨rfl,hj⟩:=hg
  rw[e2]at hb
  simp only[jaB]at hb
  have hr:=hf g
  unfold Region.wanted
  rw[e1]
  have hy:yielded ops a.tmps j=match a.tmps[g]? with
    | some (.bool b)=>some b
    | _=>none:=by
   unfold yielded
   rw[hj]
   rfl
  simp only[hy]
  split at hb
  ·rename_i q hq
   rw[hq]at hr
   have hv:a.tmps[g]?=some (.bool q):=by
    generalize hvv:a.tmps.getD g undef=v at hr
    cases hr
    rw[Array.getD_eq_getD_getElem?]at hvv
    cases hx:a.tmps[g]? with
    | none=>rw[hx]at hvv;simp[undef]at hvv
    | some y=>grind
   grind
  ·rename_i hq
   cases hb
   rw[hq]at hr
   generalize hvv:a.tmps.getD g undef=v at hr
   have hne:∀b,a.tmps[g]? ≠ some (.bool b):=fun b hx=>by
    rw[Array.getD_eq_getD_getElem?,hx]at hvv
    simp at hvv
    subst hvv
    cases hr
   grind
  ·cases hb
 ·cases hg
theorem jrg (hf:FrOk z f fr a){xs:Array Operand}{ys:List Opd}(h:eqOs xs.toList ys=true):(xs.map a.eval).size=(ys.map (Opd.ev fr)).length∧∀(i:Nat) (c:CV) (v:Value),(ys.map (Opd.ev fr))[i]?=some c→(xs.map a.eval)[i]?=some v→VRel z f c v:=by
 obtain⟨h1,h2⟩:=jkV hf h
 grind
theorem jeu {F:FuncId}(hc:jdd P F=true) (args:Array Value) (w:World):(callFunc F args).run P w=.ok (.enter F args) w:=by
 unfold jdd at hc
 split at hc
 ·rename_i fn hfn
  simp only[qab,qan]at hc
  obtain⟨h1,h2⟩:=hc
  have hnone:fn.body.isNone=false:=by
   cases hb:fn.body<;>simp[hb]at h1 ⊢
  unfold callFunc
  simp only[program,qam,Sem.run,qah,hfn,h2,hnone,qao,if_false]
  rfl
 ·cases hc
theorem jnD (hX:CxOk P X) (hE:EnvOk X.E z) (d:Desc z f h w){oo:Oper}{F:FuncId}{args:List CV}{vs:Array Value}{G:Prop}{out:VOut}(hrun:jdd P F=true→(execOp a.eval oo).run P w=.ok (.enter F vs) w)
  (hs:vs.size=args.length) (hr:∀(i:Nat) (c:CV) (v:Value),args[i]?=some c→vs[i]?=some v→VRel z f c v) (hc:jgR X F args h=some (G,out)) (hG:G)
  (hn:∀c h',(out=.val c h'∨out=.pan c h')→∀i,h.length≤i→i<h'.length→f i=none)
  (hK:∀c h' v w' z' f',out=.val c h'→VRel z' f' c v→Desc z' f' h' w'→Stp z f h w z' f' h' w'→K (a.put oo.dst v) w')
  (hP:∀c h' v w' z' f',out=.pan c h'→VRel z' f' c v→Desc z' f' h' w'→Stp z f h w z' f' h' w'→Q (.panic [⟨v,false,false⟩]) a w'):oo.wp P a w K Q:=by
 unfold jgR at hc
 split at hc
 ·rename_i c hfc
  split at hc
  ·rename_i G' r h' hcc
   simp only[Option.some.injEq,Prod.mk.injEq]at hc
   obtain⟨rfl,rfl⟩:=hc
   obtain⟨hcall,hsound⟩:=GOk.find hX.G hfc
   unfold Oper.wp
   rw[hrun hcall,Oper.upon_enter]
   have hfree:∀i,h.length≤i→i<h'.length→f i=none:=by
    cases r
    ·exact hn _ _ (.inl rfl)
    ·exact hn _ _ (.inr rfl)
   refine (hsound args h G' r h' hcc hG.1 z f w vs hs hr hE d hfree).mono ?_
   rintro e w' ⟨z',f',he,hd,hst⟩
   cases r with
   | ret c =>
    cases e with
    | returned v=>exact hK c h' v w' z' f' rfl he hd hst
    | panicked ch=>exact he.elim
    | outgrown=>exact he.elim
   | pan c =>
    cases e with
    | returned v=>exact he.elim
    | outgrown=>exact he.elim
    | panicked ch =>
     unfold EndR at he
     split at he
     ·grind
     ·rename_i c' v e1 e2
      cases e1
      cases e2
      exact hP _ h' v w' z' f' rfl he hd hst
     grind
  ·cases hc
 ·cases hc
theorem jcR (l:LOp) (h1:∀F xs,l ≠ .call F xs) (h2:∀x xs,l ≠ .callv x xs) (h3:∀x,l ≠ .panic x) (fr:Fr) (h:KH):opV X l fr h=match jaf X.E l fr h with
  | some (G,c,h')=>some (G,.val c h')
  | none=>none:=by
 cases l<;>first|rfl|grind|exact absurd rfl (h2 _ _)|exact absurd rfl (h3 _)
theorem jk4 (l:LOp) (op:Op) (h1:∀F xs,l ≠ .call F xs) (h2:∀x xs,l ≠ .callv x xs) (h3:∀x,l ≠ .panic x):jgS P X.eqs op l=jlV P X.eqs op l:=by
 cases l<;>first|rfl|grind|exact absurd rfl (h2 _ _)|exact absurd rfl (h3 _)
theorem jev (hX:CxOk P X) (hE:EnvOk X.E z) (d:Desc z f h w) (hf:FrOk z f fr a){nt:NT}{o:RO}{G:Prop}{out:VOut}(hc:jdw P X.eqs nt ops o=true) (hs:jaX X o fr h=some (G,out)) (hG:G)
  (hn:∀c h',(out=.val c h'∨out=.pan c h')→∀i,h.length≤i→i<h'.length→f i=none)
  (hK:∀c h' v w' z' f',out=.val c h'→VRel z' f' c v→Desc z' f' h' w'→Stp z f h w z' f' h' w'→K (a.put o.dst v) w')
  (hP:∀c h' v w' z' f',out=.pan c h'→VRel z' f' c v→Desc z' f' h' w'→Stp z f h w z' f' h' w'→Q (.panic [⟨v,false,false⟩]) a w'):wpOp P ops Q o.ix K a w:=by
 unfold jdw at hc
 unfold wpOp
 split at hc
 ·rename_i oo hoo
  simp only[hoo]
  simp only[qab,beq_iff_eq]at hc
  obtain⟨⟨⟨hdst,_⟩,hgd⟩,hop⟩:=hc
  rw[←hdst]at hK
  unfold jaX at hs
  split at hs
  ·rename_i hg
   rw[jet hf hgd hg]
   simp only[if_true]
   refine .inl ?_
   obtain⟨dst,op,ty,pos,after,guard⟩:=oo
   simp only at hop hK hdst
   have plain:(∀F xs,o.op ≠ .call F xs)→(∀x xs,o.op ≠ .callv x xs)→(∀x,o.op ≠ .panic x)→Oper.wp P ⟨dst,op,ty,pos,after,guard⟩ a w K Q:=fun h1 h2 h3=>by
    rw[jcR o.op h1 h2 h3]at hs
    rw[jk4 o.op op h1 h2 h3]at hop
    split at hs
    ·rename_i G' c h' hx
     simp only[Option.some.injEq,Prod.mk.injEq]at hs
     obtain⟨rfl,rfl⟩:=hs
     obtain⟨v,w',z',f',q1,q2,q3,q4⟩:=jue hX.eqs hE d hf ⟨dst,op,ty,pos,after,guard⟩ hop hx hG (hn c h' (.inl rfl))
     unfold Oper.wp
     rcases q1 with e|⟨e,rfl⟩
     ·rw[e,Oper.upon_value]
      grind
     ·rw[e,Oper.upon_skip]
      grind
    ·cases hs
   cases hl:o.op with
   | call F xs =>
    rw[hl]at hop hs
    simp only[opV]at hs
    simp only[jgS]at hop
    split at hop
    ·rename_i F' args ts
     simp only[qab,beq_iff_eq]at hop
     obtain⟨rfl,h2⟩:=hop
     obtain⟨r1,r2⟩:=jrg hf h2
     exact jnD hX hE d (fun hcall=>by
      simp only[execOp,resolve,Act.eval,Deferred.ofValue,qam,qas,qah,invoke,Array.empty_append,Array.append_empty]
      exact jeu hcall _ _) r1 r2 hs hG hn hK hP
    ·cases hop
   | callv x xs =>
    rw[hl]at hop hs
    simp only[opV]at hs
    simp only[jgS]at hop
    split at hop
    ·rename_i u args ts
     simp only[qab]at hop
     obtain⟨h1,h2⟩:=hop
     obtain⟨r1,r2⟩:=jrg hf h2
     have hr:=jap hf h1
     split at hs
     ·rename_i F caps hx
      rw[hx]at hr
      generalize hu:a.eval u=v at hr
      cases hr with
      | fn _ _ cs hcs hcr =>
       refine jnD hX hE d (F:=F) (vs:=args.map a.eval++cs) (args:=xs.map (Opd.ev fr)++caps) (fun hcall=>by
        simp only[execOp,resolve,hu,Deferred.ofValue,qam,qas,qah,invoke,Array.empty_append]
        exact jeu hcall _ _) (by grind) (fun i c v hc hv=>?_) hs hG hn hK hP
       grind
     ·rename_i F hx
      rw[hx]at hr
      generalize hu:a.eval u=v at hr
      cases hr with
      | mfn _ =>
       refine jnD hX hE d (F:=F) (vs:=#[.agg #[]]++args.map a.eval) (args:=.agg []::xs.map (Opd.ev fr)) (fun hcall=>by
        simp only[execOp,resolve,hu,Deferred.ofValue,qam,qas,qah,invoke,Array.append_empty]
        exact jeu hcall _ _) (by grind) (fun i c v hc hv=>?_) hs hG hn hK hP
       cases i with
       | zero =>
        simp only[List.getElem?_cons_zero,Option.some.injEq]at hc
        rw[Array.getElem?_append,if_pos (by simp)]at hv
        cases hv
        subst hc
        exact .agg [] #[] rfl (fun i c v hc _=>by simp at hc)
       | succ i =>
        grind
     ·cases hs
    ·cases hop
   | panic x =>
    rw[hl]at hop hs
    simp only[opV]at hs
    simp only[jgS]at hop
    split at hop
    ·rename_i u
     have hr:=jap hf hop
     split at hs
     ·rename_i t c hx
      simp only[Option.some.injEq,Prod.mk.injEq]at hs
      obtain⟨rfl,rfl⟩:=hs
      rw[hx]at hr
      generalize hu:a.eval u=v at hr
      cases hr with
      | iface _ _ v hv =>
       unfold Oper.wp
       have:(execOp a.eval ⟨dst,.panic u,ty,pos,after,guard⟩).run P w=.halt (.panic (.iface t v)) w:=by
        simp only[execOp,hu,Instr.panic,goPanic,qam,Sem.run,Result.andThen]
       rw[this,Oper.upon_panic]
       exact hP _ _ _ w z f rfl (.iface t c v hv) d (Stp.refl _ _ _ _)
     ·cases hs
    ·cases hop
   | _=>grind
  ·rename_i hg
   rw[jet hf hgd hg]
   simp only[Option.some.injEq,Prod.mk.injEq]at hs
   obtain⟨rfl,rfl⟩:=hs
   simp only[qao,if_false]
   exact hK _ h undef w z f rfl (joL z f) d (Stp.refl _ _ _ _)
  ·cases hs
 ·cases hc
end
inductive Out where
 | go (st:St)
 | pan (c:CV) (h:KH)
abbrev RM:=Nat×List Nat
def onL:List Nat→KH→KH→Prop
 | [],_,_=>True
 | b::l,h,h'=>h'.get b=h.get b∧onL l h h'
def jjU (n:RM) (h h':KH):Prop:=h'.take n.1=h.take n.1∧onL n.2 h h'
def rdP (c:CV) (h:KH) (n:RM):RM:=match c with
 | .ptr b _ _=>(n.1,b::n.2)
 | _=>(h.length,n.2)
def rdM (op:LOp) (fr:Fr) (h:KH) (n:RM):RM:=match op with
 | .load _ _ x=>rdP (x.ev fr) h n
 | _=>(h.length,n.2)
def rdB:LOp→Bool
 | .load _ _ _ | .b2s _=>true
 | _=>false
def runR (X:Cx):RM→List RO→St→Option (Prop×Out)
 | _,[],st=>some (True,.go st)
 | n,o::r,st=>match jaX X o st.fr st.h with
  | some (G,.val c h')=>(match runR X (if rdB o.op=true then rdM o.op st.fr st.h n else n) r ⟨putF st.fr o.dst c,h'⟩ with
   | some (G',out)=>some (G∧(o.pure=true→jjU n st.h h')∧G',out)
   | none=>none)
  | some (G,.pan c h')=>if o.last=true then some (G,.pan c h') else none
  | none=>none
structure Inv (z0:ZMap) (f0:LMap) (h0:KH) (w0:World) (n:NT) (ds:DS) (z:ZMap) (f:LMap) (st:St) (a:Act) (w:World):Prop where
 d:Desc z f st.h w
 fr:FrOk z f st.fr a
 stp:Stp z0 f0 h0 w0 z f st.h w
 nt:n.n≤a.tmps.size
 nil:held n ds a
def Free (f:LMap) (h:KH):Prop:=∀i,h.length≤i→f i=none
section
variable {P:Program}{X:Cx}{z z0:ZMap}{f f0:LMap}{h h' h0:KH}{w w' w0:World}{a:Act}{fr:Fr}{ops:Array Oper}{Q:Exit→Act→World→Prop}{K:Act→World→Prop}{ds:DS}
theorem Fr.get_set:∀(fr:Fr) (d n:Nat) (c:CV),(fr.set d c).get n=if n=d then c else fr.get n
 | [],d,n,c=>by simp[Fr.set,Fr.get]
 | (k,x)::r,d,n,c=>by
  simp only[Fr.set]
  split
  ·grind [Fr.get]
  ·rename_i e
   simp only[Fr.get,Fr.get_set r d n c]
   grind
theorem Fr.get_keep (ks:List Nat):∀(fr:Fr) (n:Nat),(Fr.keep ks fr).get n=if ks.contains n then fr.get n else .undef
 | [],n=>by simp[Fr.keep,Fr.get]
 | (k,x)::r,n=>by
  simp only[Fr.keep]
  split
  ·rename_i e
   simp only[Fr.get,Fr.get_keep ks r n]
   grind
  ·rename_i e
   simp only[Fr.get,Fr.get_keep ks r n]
   grind
theorem FrOk.put {z':ZMap}{f':LMap}(hf:FrOk z f fr a) (e:Ext z f z' f'){dst:Option Nat}{c:CV}{v:Value}(hv:VRel z' f' c v) (hd:∀d,dst=some d→d<a.tmps.size):FrOk z' f' (putF fr dst c) (a.put dst v):=fun n=>by
 cases dst with
 | none=>exact (hf n).mono e
 | some d =>
  simp only[putF,Act.put,Fr.get_set,Array.getD_eq_getD_getElem?]
  by_cases hn:n=d
  ·grind
  ·rw[if_neg hn,Array.getElem?_setIfInBounds_ne (by omega),←Array.getD_eq_getD_getElem?]
   exact (hf n).mono e
theorem jh5 (a:Act) (dst:Option Nat) (v:Value):(a.put dst v).tmps.size=a.tmps.size:=by
 cases dst<;>simp[Act.put]
theorem jpQ (a:Act) (dst:Option Nat) (v:Value):(a.put dst v).defers=a.defers:=by
 cases dst<;>rfl
theorem jiw {eqs:List (TypeId×List IntKind)}{nt:NT}{o:RO}(hc:jdw P eqs nt ops o=true):∀d,o.dst=some d→d<nt.n:=fun d e=>by
 unfold jdw at hc
 grind
theorem jh6 {eqs:List (TypeId×List IntKind)}{nt:NT}{o:RO}(hc:jdw P eqs nt ops o=true):∀d,o.dst=some d→nt.lo≤d:=fun d e=>by
 unfold jdw at hc
 grind
theorem jh7 {nt:NT}{dst:Option Nat}{v:Value}(h:held nt ds a) (hd:∀d,dst=some d→nt.lo≤d):held nt ds (a.put dst v):=⟨by rw[jpQ];exact h.1,fun k hk=>by
 cases dst with
 | none=>exact h.2 k hk
 | some d =>
  have:=hd d rfl
  simp only[Act.put,Array.getD_eq_getD_getElem?]
  rw[Array.getElem?_setIfInBounds_ne (by omega),←Array.getD_eq_getD_getElem?]
  exact h.2 k hk⟩
theorem Stp.free {z':ZMap}{f':LMap}(s:Stp z f h w z' f' h' w') (hf:Free f h):Free f' h':=fun i hi=>by
 have:=s.len
 rw[s.old i (.inr hi)]
 exact hf i (by omega)
theorem Stp.ext' {z':ZMap}{f':LMap}(s:Stp z f h w z' f' h' w') (hf:Free f h):Ext z f z' f':=s.ext (fun i hi _=>hf i hi)
end
end
section
open Go.RowKit
def cls:LOp→Nat
 | .load _ _ _ | .b2s _=>1
 | .box _ | .zero _ | .bslice _ _ | .mksl _ _ _ _ | .s2b _ | .rng _=>2
 | .store _ _ _ | .app _ _ _ | .cpy _ _ _ | .nxt _ | .call _ _ | .callv _ _ | .panic _ | .frz _=>3
 | _=>0
def opds:LOp→List Opd
 | .mov x | .box x | .i2s x | .load _ _ x | .nilck x | .cmpN _ _ x | .un _ x | .conv _ _ x | .s2b x | .b2s x | .frz x | .mkif _ x | .sl0 x | .faddr x _ | .field x _ _ _ | .ext x _ | .len _ x | .rng x | .nxt x | .tas _ _ _ x | .panic x | .mkm _ x=>[x]
 | .pick c a b=>[c,a,b]
 | .zero _=>[]
 | .build _ ps=>ps.map fun p=>p.2.2
 | .bslice _ ps=>ps
 | .store _ a v=>[a,v]
 | .ari _ _ x y | .cmp _ x y | .cmpB _ x y | .eqA _ _ x y | .mksl _ _ x y | .ixS _ x y | .ixA _ _ x y | .ixV x y | .ixC _ _ _ x y | .cat x y | .app _ x y | .cpy _ x y | .mm _ x y=>[x,y]
 | .mkfn _ cs=>cs
 | .sl _ _ x lo hi mx=>x::(lo.toList++hi.toList++mx.toList)
 | .call _ xs=>xs
 | .callv x xs=>x::xs
def Opd.slot:Opd→List Nat
 | .t n=>[n]
 | .c _=>[]
def jcr (o:RO):List Nat:=(opds o.op).flatMap Opd.slot++(match o.gd with|some (g,_)=>[g]|none=>[])
theorem jix {fr fr':Fr}:∀(ps:List (Nat×Nat×Opd)) (z:List CV),(∀p∈ps,p.2.2.ev fr=p.2.2.ev fr')→jgM fr z ps=jgM fr' z ps
 | [],z,_=>rfl
 | (off,size,x)::ps,z,h=>by
  have h1:=h (off,size,x) (by simp)
  simp only at h1
  simp only[jgM,h1]
  rw[jix ps _ (fun p hp=>h p (by simp[hp]))]
theorem jht {fr fr':Fr}(t:ETy):∀(ps:List Opd),(∀p∈ps,p.ev fr=p.ev fr')→jc9 t fr ps=jc9 t fr' ps
 | [],_=>rfl
 | x::ps,h=>by
  have h1:=h x (by simp)
  simp only[jc9,h1]
  rw[jht t ps (fun p hp=>h p (by simp[hp]))]
theorem jew {fr fr':Fr}{ps:List Opd}(h:∀p∈ps,p.ev fr=p.ev fr'):ps.map (Opd.ev fr)=ps.map (Opd.ev fr'):=List.map_congr_left h
theorem jdU {fr fr':Fr}{x:Option Opd}(h:∀p∈x.toList,p.ev fr=p.ev fr'):x.map (Opd.ev fr)=x.map (Opd.ev fr'):=by
 cases x with
 | none=>rfl
 | some x=>grind
theorem jnE (E:Nat→Option (List CV)) (l:LOp){fr fr':Fr}(h:KH) (hx:∀x∈opds l,x.ev fr=x.ev fr'):jaf E l fr h=jaf E l fr' h:=by
 cases l with
 | build z ps=>simp only[jaf,jix ps z (fun p hp=>hx p.2.2 (List.mem_map.2 ⟨p,hp,rfl⟩))]
 | bslice t ps=>simp only[jaf,jht t ps hx]
 | mkfn F cs=>simp only[jaf,jew (ps:=cs) hx]
 | sl st esz x lo hi mx =>
  have h1:=hx x (by simp[opds])
  have h2:lo.map (Opd.ev fr)=lo.map (Opd.ev fr'):=jdU (fun p hp=>hx p (by simp only[opds,qap,qak];exact .inr (.inl (.inl hp))))
  have h3:hi.map (Opd.ev fr)=hi.map (Opd.ev fr'):=jdU (fun p hp=>hx p (by simp only[opds,qap,qak];exact .inr (.inl (.inr hp))))
  have h4:mx.map (Opd.ev fr)=mx.map (Opd.ev fr'):=jdU (fun p hp=>hx p (by simp only[opds,qap,qak];exact .inr (.inr hp)))
  simp only[jaf,h1,h2,h3,h4]
 | zero cs=>rfl
 | call F xs=>rfl
 | callv x xs=>rfl
 | panic x=>rfl
 | pick c a b =>
  simp_all [opds,jaf]
 | store n x y =>
  simp_all [opds,jaf]
 | ari op wr x y =>
  simp_all [opds,jaf]
 | cmp op x y =>
  simp_all [opds,jaf]
 | cmpB op x y =>
  simp_all [opds,jaf]
 | eqA ks op x y =>
  simp_all [opds,jaf]
 | mksl t b x y =>
  simp_all [opds,jaf]
 | ixS n x y =>
  simp_all [opds,jaf]
 | ixA m n x y =>
  simp_all [opds,jaf]
 | ixV x y =>
  simp_all [opds,jaf]
 | ixC m n b x y =>
  simp_all [opds,jaf]
 | cat x y =>
  simp_all [opds,jaf]
 | i2s x=>simp only[jaf,hx x (by simp[opds])]
 | app t x y =>
  simp_all [opds,jaf]
 | cpy t x y =>
  simp_all [opds,jaf]
 | mm b x y =>
  simp_all [opds,jaf]
 | mov x=>simp only[jaf,hx x (by simp[opds])]
 | box x=>simp only[jaf,hx x (by simp[opds])]
 | load b n x=>simp only[jaf,hx x (by simp[opds])]
 | nilck x=>simp only[jaf,hx x (by simp[opds])]
 | cmpN k b x=>simp only[jaf,hx x (by simp[opds])]
 | un op x=>simp only[jaf,hx x (by simp[opds])]
 | conv k b x=>simp only[jaf,hx x (by simp[opds])]
 | s2b x=>simp only[jaf,hx x (by simp[opds])]
 | b2s x=>simp only[jaf,hx x (by simp[opds])]
 | frz x=>simp only[jaf,hx x (by simp[opds])]
 | mkif t x=>simp only[jaf,hx x (by simp[opds])]
 | mkm t x=>simp only[jaf,hx x (by simp[opds])]
 | sl0 x=>simp only[jaf,hx x (by simp[opds])]
 | faddr x n=>simp only[jaf,hx x (by simp[opds])]
 | field x m n b=>simp only[jaf,hx x (by simp[opds])]
 | ext x n=>simp only[jaf,hx x (by simp[opds])]
 | len b x=>simp only[jaf,hx x (by simp[opds])]
 | rng x=>simp only[jaf,hx x (by simp[opds])]
 | nxt x=>simp only[jaf,hx x (by simp[opds])]
 | tas t b c x=>simp only[jaf,hx x (by simp[opds])]
theorem jrh (X:Cx) (l:LOp){fr fr':Fr}(h:KH) (hx:∀x∈opds l,x.ev fr=x.ev fr'):opV X l fr h=opV X l fr' h:=by
 have hc:=jnE X.E l h hx
 cases l with
 | call F xs=>simp only[opV,jew (ps:=xs) hx]
 | callv x xs=>grind [opV,opds,jew]
 | panic x=>simp only[opV,hx x (by simp[opds])]
 | _=>simp only[opV,hc]
theorem jnF (X:Cx) (o:RO){fr fr':Fr}(h:KH) (hx:∀t∈jcr o,fr.get t=fr'.get t):jaX X o fr h=jaX X o fr' h:=by
 have hev:∀x∈opds o.op,x.ev fr=x.ev fr':=fun x hx'=>by
  cases x with
  | t n=>exact hx n (by simp only[jcr,qak,List.mem_flatMap];exact .inl ⟨_,hx',by simp[Opd.slot]⟩)
  | c v=>rfl
 have hg:jaB o.gd fr=jaB o.gd fr':=by
  cases hgd:o.gd with
  | none=>rfl
  | some p =>
   grind [jaB,jcr]
 grind [jaX,jrh]
theorem jiy (E : Nat → Option (List CV)) (l : LOp) (hl : cls l = 0) (fr : Fr) (h : KH) : jaf E l fr h = (jaf E l fr []).map fun p => (p.1, p.2.1, h) := by
  cases l <;> first | (simp [cls] at hl; done) | skip
  all_goals
    simp only [jaf, qau]
  all_goals first
    | rfl
    | (repeat' split
       all_goals first | rfl | (simp only [qau]; rfl))
    | skip
theorem jgT (E:Nat→Option (List CV)) (l:LOp) (hl:cls l=0){fr:Fr}{h h1:KH}{G:Prop}{c:CV}(hx:jaf E l fr h=some (G,c,h1)):h1=h∧∀h2,jaf E l fr h2=some (G,c,h2):=by
 rw[jiy E l hl]at hx
 simp only[qag,Prod.mk.injEq]at hx
 obtain⟨⟨G',c',h'⟩,e1,rfl,rfl,rfl⟩:=hx
 refine⟨rfl,fun h2=>?_⟩
 rw[jiy E l hl,e1]
 rfl
theorem jj8 (E:Nat→Option (List CV)) (l:LOp) (hl:cls l=1){fr:Fr}{h h1:KH}{G:Prop}{c:CV}(hx:jaf E l fr h=some (G,c,h1)):h1=h:=by
 cases l<;>first|(simp[cls]at hl;done)|skip
 ·simp only[jaf]at hx
  grind [qag,Prod.mk.injEq]
 ·simp only[jaf]at hx
  grind
theorem jfx (E : Nat → Option (List CV)) (l : LOp) (hl : cls l = 2) {fr : Fr} {h h1 : KH} {G : Prop} {c : CV} (hx : jaf E l fr h = some (G, c, h1)) : ∃ b, h1 = h ++ [b] ∧ ∀ h2 : KH, h2.length = h.length → jaf E l fr h2 = some (G, c, h2 ++ [b]) := by
  cases l <;> first | (simp [cls] at hl; done) | skip
  all_goals
    simp only [jaf] at hx ⊢
  all_goals first
    | (split at hx
       · rename_i hk
         cases hx
         exact ⟨_, rfl, fun h2 e => by rw [e, if_pos hk]⟩
       · cases hx)
    | (split at hx
       · cases hx
         exact ⟨_, rfl, fun h2 e => by simp only [*]⟩
       · cases hx)
    | (simp only [qag, Prod.mk.injEq] at hx
       obtain ⟨q, e1, rfl, rfl, rfl⟩ := hx
       exact ⟨_, rfl, fun h2 e => by rw [e1, e]; rfl⟩)
    | (cases hx
       exact ⟨_, rfl, fun h2 e => by rw [e]⟩)
end
section
open Go.RowKit
def Dir (ops:Array Oper) (i j:Nat):Prop:=∃o,ops[j]?=some o∧∃e∈o.after,Region.binds .any e=true∧e.on=i
inductive Reach (ops:Array Oper):Nat→Nat→Prop where
 | one {i j:Nat}(h:Dir ops i j):Reach ops i j
 | more {i k j:Nat}(h:Reach ops i k) (d:Dir ops k j):Reach ops i j
def jpR:List Nat→List Nat
 | []=>[]
 | x::r=>if (jpR r).contains x then jpR r else x::jpR r
theorem jiz {x:Nat}:∀{l:List Nat},x∈jpR l→x∈l
 | [],h=>h
 | y::r,h=>by
  simp only[jpR]at h
  split at h
  ·exact qad _ (jiz h)
  ·rcases List.mem_cons.1 h with rfl|h
   ·grind
   ·exact qad _ (jiz h)
def ancs:List Oper→List (List Nat)→List (List Nat)
 | [],acc=>acc
 | o::r,acc=>ancs r (acc++[jpR ((o.after.toList.filter (Region.binds .any)).flatMap fun e=>e.on::acc.getD e.on [])])
theorem jri {ops:Array Oper}:∀(r pre:List Oper) (acc:List (List Nat)),ops.toList=pre++r→acc.length=pre.length→(∀j i,i∈acc.getD j []→Reach ops i j)→∀j i,i∈(ancs r acc).getD j []→Reach ops i j
 | [],_,_,_,_,h=>h
 | o::r,pre,acc,he,hl,h=>by
  simp only[ancs]
  have hat:ops[pre.length]?=some o:=by
   rw[←Array.getElem?_toList,he]
   simp
  refine jri r (pre++[o]) _ (by simp[he]) (by simp[hl]) (fun j i hi=>?_)
  rw[List.getD_eq_getElem?_getD,List.getElem?_append]at hi
  split at hi
  ·grind
  ·rename_i hge
   cases hk:j-acc.length with
   | zero =>
    have hj:j=pre.length:=by omega
    rw[hk]at hi
    simp only[List.getElem?_cons_zero,Option.getD_some]at hi
    obtain⟨e,he1,he2⟩:=List.mem_flatMap.1 (jiz hi)
    obtain⟨he3,he4⟩:=List.mem_filter.1 he1
    have hd:Dir ops e.on j:=by
     rw[hj]
     exact⟨o,hat,e,by grind,he4,rfl⟩
    rcases List.mem_cons.1 he2 with rfl|he5
    ·exact .one hd
    ·exact .more (h _ _ he5) hd
   | succ k =>
    grind
def jjV (oa ob:RO):Bool :=
 (match oa.dst with
  | some d=>(jcr ob).contains d || ob.dst==some d
  | none=>false) ||
 (match ob.dst with
  | some d=>(jcr oa).contains d
  | none=>false)
def jl1 (a b:Nat) (pure:Bool):Bool :=
 match a,b with
 | 3,3=>false
 | 3,1=>false
 | 2,3=>false
 | 2,1=>false
 | 1,3=>pure
 | _,_=>true
def isZ (o:RO):Bool :=
 match o.op with
 | .zero _=>o.gd.isNone
 | _=>false
def jrj (anc:List (List Nat)) (oa ob:RO):Bool :=
 (anc.getD ob.ix []).contains oa.ix || (!jjV oa ob&&(!oa.last || isZ ob)&&jl1 (cls oa.op) (cls ob.op) ob.pure)
def jh8 (anc:List (List Nat)):List RO→Bool
 | []=>true
 | o::r=>r.all (jrj anc o)&&jh8 anc r
def jl2 (ops:Array Oper):List Nat→List RO→Bool
 | _,[]=>true
 | seen,o::r=>(match ops[o.ix]? with
  | some oo=>oo.after.toList.all (fun e=>!Region.binds .any e || seen.contains e.on) && !seen.contains o.ix
  | none=>false)&&jl2 ops (o.ix::seen) r
def jk5 (P:Program) (eqs:List (TypeId×List IntKind)) (nt:NT) (ops:Array Oper) (L:List RO):Bool :=
 L.all (jdw P eqs nt ops)&&jl2 ops [] L&&jh8 (ancs ops.toList []) L&&(qav ops.size).all (fun i=>L.any fun o=>o.ix==i)&&L.length==ops.size
theorem jnG {anc:List (List Nat)}(L:List RO):jh8 anc L=true→∀(k m:Nat) (o o':RO),k<m→L[k]?=some o→L[m]?=some o'→jrj anc o o'=true:=by
 induction L with
 | nil=>grind
 | cons q L ih =>
  intro h k m o o' hk h1 h2
  unfold jh8 at h
  grind
theorem jf5 {ops:Array Oper}:∀{L:List RO}{seen:List Nat},jl2 ops seen L=true→∀{k:Nat}{o:RO},L[k]?=some o →
  (∀oo,ops[o.ix]?=some oo→∀e∈oo.after,Region.binds .any e=true→e.on∈seen∨∃m o',m<k∧L[m]?=some o'∧o'.ix=e.on)∧o.ix ∉ seen∧∀m o',m<k→L[m]?=some o'→o'.ix≠o.ix
 | [],_,_,k,o,h1=>by simp at h1
 | q::L,seen,h,0,o,h1=>by
  simp only[List.getElem?_cons_zero,Option.some.injEq]at h1
  subst h1
  simp only[jl2,qab]at h
  grind
 | q::L,seen,h,k+1,o,h1=>by
  simp only[jl2,qab]at h
  obtain⟨i1,i2,i3⟩:=jf5 h.2 (show L[k]?=some o by grind)
  refine⟨fun oo hoo e he hb=>?_,fun hm=>i2 (qad _ hm),fun m o' hm hl=>?_⟩
  ·rcases i1 oo hoo e he hb with hm|⟨m,o',hm,hl,hx⟩
   ·rcases List.mem_cons.1 hm with e1|e1
    ·exact .inr ⟨0,q,by omega,rfl,e1.symm⟩
    grind
   ·exact .inr ⟨m+1,o',by omega,by grind,hx⟩
  grind
def rdI (op:LOp) (fr:Fr) (h:KH) (i:Nat):Prop:=match op with
 | .load _ _ x=>(match x.ev fr with
  | .ptr b _ _=>i=b
  | _=>i<h.length)
 | _=>i<h.length
structure Run (X:Cx) (L:List RO) (st:St) (out:Out) (N:Nat) (s:Nat→St) (cv:Nat→CV):Prop where
 zero:s 0=st
 step:∀k,k<N→∃o G,L[k]?=some o∧jaX X o (s k).fr (s k).h=some (G,.val (cv k) (s (k+1)).h)∧G∧(o.pure=true→∀m o',m<k→L[m]?=some o'→rdB o'.op=true→∀i,rdI o'.op (s m).fr (s m).h i→i<(s k).h.length→(s (k+1)).h.get i=(s k).h.get i)∧(s (k+1)).fr=putF (s k).fr o.dst (cv k)
 fin:(N=L.length∧out=.go (s N))∨∃o G c h',L[N]?=some o∧jaX X o (s N).fr (s N).h=some (G,.pan c h')∧G∧o.last=true∧out=.pan c h'
theorem jrk:∀{l:List Nat}{h h':KH}{i:Nat},onL l h h'→i∈l→h'.get i=h.get i
 | _::l,h,h',i,e,hi=>by
  rcases List.mem_cons.1 hi with q|q
  ·subst q
   exact e.1
  ·exact jrk e.2 q
def inM (n:RM) (i:Nat):Prop:=i<n.1∨i∈n.2
theorem jl3 {n:RM}{h h':KH}(e:jjU n h h'){i:Nat}(hi:inM n i) (h1:i<h.length) (h2:h.length≤h'.length):h'.get i=h.get i:=by
 rcases hi with hi|hi
 ·replace e:=e.1
  have g:∀k:KH,i<k.length→k.get i=KH.get (k.take n.1) i:=fun k hk=>by
   conv=>lhs;rw[←List.take_append_drop n.1 k]
   rw[KH.get_app,if_pos (by simp;omega)]
  grind
 ·exact jrk e.2 hi
theorem jxI {c:CV}{h:KH}{n:RM}(hn:n.1≤h.length):(rdP c h n).1≤h.length:=by
 cases c<;>simp[rdP,hn]
theorem jxJ {op:LOp}{fr:Fr}{h:KH}{n:RM}(hn:n.1≤h.length):(rdM op fr h n).1≤h.length:=by
 cases op<;>simp only[rdM]<;>first|exact qae _|exact jxI hn
theorem jxK {c:CV}{h:KH}{n:RM}(hn:n.1≤h.length){i:Nat}(hi:inM n i):inM (rdP c h n) i:=by
 rcases hi with q|q
 ·cases c<;>first|exact .inl q|exact .inl (qac q hn)
 ·cases c<;>first|exact .inr q|exact .inr (qad _ q)
theorem jxL {op:LOp}{fr:Fr}{h:KH}{n:RM}(hn:n.1≤h.length){i:Nat}(hi:inM n i):inM (rdM op fr h n) i:=by
 have other:inM (h.length,n.2) i:=by
  rcases hi with q|q
  ·exact .inl (qac q hn)
  ·exact .inr q
 cases op<;>first|exact other|exact jxK hn hi
theorem jwm {op:LOp}{fr:Fr}{h:KH}{n:RM}{i:Nat}(hi:rdI op fr h i):inM (rdM op fr h n) i:=by
 cases op<;>first|exact .inl hi|skip
 rename_i agg k x
 simp only[rdI,rdM]at hi ⊢
 revert hi
 cases x.ev fr<;>intro hi<;>first|exact .inl hi|(exact .inr (hi▸List.mem_cons_self))
theorem jrl (E:Nat→Option (List CV)) (l:LOp){fr:Fr}{h h1:KH}{G:Prop}{c:CV}(hx:jaf E l fr h=some (G,c,h1)):h.length≤h1.length:=by
 by_cases c0:cls l=0
 ·rw[(jgT E l c0 hx).1]
  omega
 by_cases c1:cls l=1
 ·rw[jj8 E l c1 hx]
  omega
 by_cases c2:cls l=2
 ·grind [jfx]
 cases l with
 | store n a v =>
  simp only[jaf]at hx
  split at hx
  ·split at hx
   ·split at hx
    ·cases hx
     simp_all [KH.put_len,qae]
    ·cases hx
   ·cases hx
  ·cases hx
 | app t x y =>
  simp only[jaf]at hx
  split at hx
  ·cases hx
  ·split at hx
   ·cases hx
    simp_all [qaq,jes,Nat.le_add_right]
   ·cases hx
 | cpy t x y =>
  simp only[jaf]at hx
  split at hx
  ·split at hx
   ·split at hx
    ·cases hx
     simp_all [KH.put_len,qae]
    ·cases hx
   ·cases hx
  all_goals grind
 | nxt x =>
  simp only[jaf]at hx
  split at hx
  ·split at hx
   ·cases hx
    split
    all_goals simp_all [KH.put_len,qae]
   ·cases hx
  ·cases hx
 | frz x =>
  simp only[jaf]at hx
  grind
 | call F xs=>simp[jaf]at hx
 | callv x xs=>simp[jaf]at hx
 | panic x=>simp[jaf]at hx
 | _=>first|(exfalso;exact c0 rfl)|(exfalso;exact c1 rfl)|(exfalso;exact c2 rfl)
theorem jl4 {X:Cx}{o:RO}{fr:Fr}{h h1:KH}{G:Prop}{c:CV}(hx:jaX X o fr h=some (G,.val c h1)) (hG:G):h.length≤h1.length:=by
 unfold jaX at hx
 split at hx
 ·have call:∀F args,jgR X F args h=some (G,.val c h1)→h.length≤h1.length:=fun F args hc=>by
   unfold jgR at hc
   split at hc
   ·split at hc
    ·rename_i G' r h' hcc
     simp only[Option.some.injEq,Prod.mk.injEq]at hc
     obtain⟨rfl,hr⟩:=hc
     cases r with
     | ret q=>cases hr;exact hG.2
     | pan q=>cases hr
    ·cases hc
   ·cases hc
  cases hl:o.op with
  | call F xs=>rw[hl]at hx;exact call _ _ hx
  | callv x xs =>
   grind [opV]
  | panic x =>
   grind [opV]
  | _ =>
   rw[hl,jcR _ (by simp) (by simp) (by simp)]at hx
   split at hx
   ·rename_i e
    cases hx
    exact jrl _ _ e
   ·cases hx
 all_goals grind
theorem jiA {X:Cx}{o:RO}{fr:Fr}{h h1:KH}{G:Prop}{c:CV}(hx:jaX X o fr h=some (G,.val c h1)) (hc:cls o.op≠3):h1=h∨∃b,h1=h++[b]∧cls o.op=2:=by
 unfold jaX at hx
 split at hx
 ·rw[jcR _ (fun F xs e=>hc (by rw[e];rfl)) (fun x xs e=>hc (by rw[e];rfl)) (fun x e=>hc (by rw[e];rfl))]at hx
  split at hx
  ·rename_i e
   cases hx
   by_cases c0:cls o.op=0
   ·exact .inl (jgT _ _ c0 e).1
   by_cases c1:cls o.op=1
   ·exact .inl (jj8 _ _ c1 e)
   by_cases c2:cls o.op=2
   ·grind [jfx]
   ·exfalso
    revert hc c0 c1 c2
    cases o.op<;>simp[cls]
  ·cases hx
 all_goals grind
theorem jrm {X:Cx}:∀(L:List RO) (n:RM) (st:St) (G:Prop) (out:Out),runR X n L st=some (G,out)→G→n.1≤st.h.length→∃N s cv,Run X L st out N s cv∧∀k,k<N→∀o,L[k]?=some o→o.pure=true→∀i,inM n i→i<(s k).h.length→(s (k+1)).h.get i=(s k).h.get i
 | [],n,st,G,out,h,hG,hn=>by
  simp only[runR,Option.some.injEq,Prod.mk.injEq]at h
  obtain⟨_,rfl⟩:=h
  exact⟨0,fun _=>st,fun _=>.undef,⟨rfl,fun k hk=>by omega,.inl ⟨rfl,rfl⟩⟩,fun k hk=>by omega⟩
 | o::L,n,st,G,out,h,hG,hn=>by
  simp only[runR]at h
  split at h
  ·rename_i G1 c1 h1 hs
   split at h
   ·rename_i G2 out' hr
    simp only[Option.some.injEq,Prod.mk.injEq]at h
    obtain⟨rfl,rfl⟩:=h
    have hlen:st.h.length≤h1.length:=jl4 hs hG.1
    obtain⟨N,s,cv,⟨r1,r2,r3⟩,r4⟩:=jrm L _ _ G2 out' hr hG.2.2 (by grind [qai,jxJ])
    have first:o.pure=true→∀i,inM n i→i<st.h.length→(s 0).h.get i=st.h.get i:=fun hp i hi hl=>by
     grind [jl3]
    refine⟨N+1,fun k=>match k with|0=>st|k+1=>s k,fun k=>match k with|0=>c1|k+1=>cv k,⟨rfl,fun k hk=>?_,?_⟩,fun k hk o' ho hp i hi hl=>?_⟩
    ·cases k with
     | zero=>grind
     | succ k =>
      obtain⟨o',G',e1,e2,e3,e4,e5⟩:=r2 k (by omega)
      refine⟨o',G',by grind,e2,e3,fun hp m om hm hom hr i hi hl=>?_,e5⟩
      cases m with
      | zero =>
       simp_all [List.getElem?_cons_zero,Option.some.injEq,if_pos,jwm]
      | succ m=>grind
    all_goals grind [List.getElem?_cons_zero,Option.some.injEq,jxL]
   ·cases h
  ·rename_i G1 c1 h1 hs
   split at h
   ·rename_i hl
    cases h
    exact⟨0,fun _=>st,fun _=>.undef,⟨rfl,fun k hk=>by omega,.inr ⟨o,_,c1,h1,rfl,hs,hG,hl,rfl⟩⟩,fun k hk=>by omega⟩
   ·cases h
  ·cases h
theorem jxM {X:Cx}(L:List RO) (st:St) (G:Prop) (out:Out) (h:runR X (0,[]) L st=some (G,out)) (hG:G):∃N s cv,Run X L st out N s cv :=
 let ⟨N,s,cv,r,_⟩:=jrm L (0,[]) st G out h hG (Nat.zero_le _)
 ⟨N,s,cv,r⟩
theorem jwn (l:LOp):rdB l=true↔cls l=1:=by
 cases l<;>simp[rdB,cls]
end
section
open Go.RowKit
open Classical in
def jex (g:Nat→KB) (h h':KH):Nat→KB:=fun i=>if i<h'.length∧(h.length≤i∨(h.get i).live) then h'.get i else g i
theorem jdx {g:Nat→KB}{h h':KH}{i:Nat}(hi:i<h'.length) (hl:h.length≤i∨(h.get i).live):jex g h h' i=h'.get i:=if_pos ⟨hi,hl⟩
theorem jaS {g:Nat→KB}{h h':KH}{i:Nat}(hi:¬(i<h'.length∧(h.length≤i∨(h.get i).live))):jex g h h' i=g i:=if_neg hi
theorem jdV {b:KB}(h:¬b.live):b=.dead:=by
 revert h
 cases b<;>simp[KB.live]
theorem DescG.weaken {z:ZMap}{f:LMap}{g g':Nat→KB}{w:World}(d:DescG z f g w) (hg:∀i,g' i=g i∨g' i=.dead):DescG z f g' w:=by
 have live:∀i,(g' i).live→g' i=g i:=fun i hl=>(hg i).resolve_right (fun e=>by rw[e]at hl;exact hl)
 refine⟨fun i=>?_,fun i j li lj ei ej hi hj hne=>d.apart i j li lj ei ej (by grind) (by grind) hne,fun i l e hl=>d.off i l e (by grind),d.stays⟩
 rcases hg i with e|e
 ·rw[e];exact d.blk i
 ·rw[e];cases f i<;>trivial
structure Acc (z1:ZMap) (f1:LMap) (h1:KH) (w1:World) (z:ZMap) (f:LMap) (g:Nat→KB) (w:World):Prop where
 keep:Kp (Mine f1 h1) w1 w
 old:∀i,i<h1.length→f i=f1 i
 liv:∀i,i<h1.length→(g i).live→(h1.get i).live
 new:∀i l,h1.length≤i→f i=some l→(g i).live→w1.heap.size≤l.B∨Mine f1 h1 l.B
 zold:∀B o,z1 B=some o→z B=some o
 znew:∀B o,z B=some o→z1 B=some o∨w1.heap.size≤B∨Mine f1 h1 B
section
variable {z z' z1:ZMap}{f f' f1:LMap}{g:Nat→KB}{h h' h1:KH}{w w' w1:World}
theorem jbF (dg:DescG z f g w) (d':Desc z' f' h' w') (s:Stp z f h w z' f' h' w') (hsub:∀i,(h.get i).live→g i=h.get i) (hfree:∀i,h.length≤i→i<h'.length→g i=.dead∧f i=none) (acc:Acc z1 f1 h1 w1 z f g w) (hlen:h1.length≤h.length∨h'.length=0) :
  DescG z' f' (jex g h h') w'∧Acc z1 f1 h1 w1 z' f' (jex g h h') w'∧Ext z f z' f':=by
 have ext:=s.ext (fun i h1 h2=>(hfree i h1 h2).2)
 -- a block beside
 have far:∀i,¬(i<h'.length∧(h.length≤i∨(h.get i).live))→(g i).live→f' i=f i∧¬(i<h.length∧(h.get i).live):=fun i hi hl=>by
  refine⟨?_,fun⟨h2,h3⟩=>hi ⟨qac h2 s.len,.inr h3⟩⟩
  by_cases h2:i<h.length
  ·exact s.old i (.inl h2)
  ·by_cases h3:i<h'.length
   ·omega
   ·exact s.old i (.inr (by omega))
 have notmine:∀i l,¬(i<h'.length∧(h.length≤i∨(h.get i).live))→(g i).live→f i=some l→¬Mine f h l.B:=fun i l hi hl e ⟨j,lj,ej,hj,eb⟩=>by
  have hne:j≠i:=fun e2=>(far i hi hl).2 ⟨KH.lt_of_live (e2▸hj),e2▸hj⟩
  exact dg.apart j i lj l ej e (by grind) hl hne eb
 have small:∀i l,(g i).live→f i=some l→l.B<w.heap.size:=fun i l hl e=>by
  have:=dg.blk i
  rw[e]at this
  exact this.lt hl
 have inLive:∀i,(i<h'.length∧(h.length≤i∨(h.get i).live))→(jex g h h' i).live→(h'.get i).live:=fun i hi hl=>by
  grind [jdx]
 refine⟨⟨fun i=>?_,fun i j li lj ei ej hi hj hne=>?_,fun i l e hl=>?_,d'.stays⟩,?_,ext⟩
 ·by_cases hi:i<h'.length∧(h.length≤i∨(h.get i).live)
  ·rw[jdx hi.1 hi.2]
   exact d'.blk i
  ·rw[jaS hi]
   by_cases hl:(g i).live
   ·have hb:=dg.blk i
    rw[(far i hi hl).1]
    cases e:f i with
    | none =>
     rw[e]at hb
     exact hb.none_any
    | some l =>
     rw[e]at hb
     exact hb.mono ext (s.keep.block l.B (small i l hl e) (notmine i l hi hl e))
   ·rw[jdV hl]
    cases f' i<;>trivial
 ·have key:∀i j li lj,(i<h'.length∧(h.length≤i∨(h.get i).live))→¬(j<h'.length∧(h.length≤j∨(h.get j).live))→f' i=some li→f' j=some lj→(h'.get i).live→(g j).live→li.B≠lj.B:=fun i j li lj hi hj ei ej hil hjl eb=>by
   rw[(far j hj hjl).1]at ej
   rcases s.mine ⟨i,li,ei,hil,rfl⟩ with q|q
   all_goals grind
  by_cases hi2:i<h'.length∧(h.length≤i∨(h.get i).live)<;>by_cases hj2:j<h'.length∧(h.length≤j∨(h.get j).live)
  ·exact d'.apart i j li lj ei ej (inLive i hi2 hi) (inLive j hj2 hj) hne
  ·grind [jaS]
  ·grind [jaS]
  ·rw[jaS hi2]at hi
   rw[jaS hj2]at hj
   rw[(far i hi2 hi).1]at ei
   rw[(far j hj2 hj).1]at ej
   exact dg.apart i j li lj ei ej hi hj hne
 ·by_cases hi:i<h'.length∧(h.length≤i∨(h.get i).live)
  ·exact d'.off i l e (inLive i hi hl)
  ·rw[jaS hi]at hl
   rw[(far i hi hl).1]at e
   cases ez:z' l.B with
   | none=>rfl
   | some o =>
    exfalso
    rcases s.znew _ _ ez with q|q|q
    ·have:=dg.off i l e hl
     grind
    all_goals grind
 ·-- what has become
  have mine1:∀B,Mine f h B→w1.heap.size≤B∨Mine f1 h1 B:=fun B ⟨j,lj,ej,hj,eb⟩=>by
   have hgj:(g j).live:=by rw[hsub j hj];exact hj
   by_cases hj1:j<h1.length
   ·exact .inr ⟨j,lj,(acc.old j hj1).symm.trans ej,acc.liv j hj1 hgj,eb⟩
   ·rw[←eb]
    exact acc.new j lj (by omega) ej hgj
  have hls:=s.len
  refine⟨acc.keep.trans s.keep (fun B hB hlt=>(mine1 B hB).resolve_left (by omega)),fun i hi=>?_,fun i hi hl=>?_,fun i l hi e hl=>?_,fun B o e=>s.zold B o (acc.zold B o e),fun B o e=>?_⟩
  ·rw[←acc.old i hi]
   rcases hlen with q|q
   ·exact s.old i (.inl (by omega))
   ·exact s.old i (.inr (by omega))
  ·by_cases hi2:i<h'.length∧(h.length≤i∨(h.get i).live)
   ·have hl2:=inLive i hi2 hl
    have h3:i<h.length:=by omega
    have h4:=s.liv i h3 hl2
    exact acc.liv i hi (by grind)
   ·rw[jaS hi2]at hl
    exact acc.liv i hi hl
  ·by_cases hi2:i<h'.length∧(h.length≤i∨(h.get i).live)
   ·rcases s.mine ⟨i,l,e,inLive i hi2 hl,rfl⟩ with q|q
    ·exact .inl (qai acc.keep.size q)
    grind
   ·rw[jaS hi2]at hl
    rw[(far i hi2 hl).1]at e
    exact acc.new i l hi e hl
  ·rcases s.znew B o e with q|q|q
   ·exact acc.znew B o q
   ·exact .inr (.inl (qai acc.keep.size q))
   grind
end
end
section
open Go.RowKit
structure ChkD (P:Program) (eqs:List (TypeId×List IntKind)) (nt:NT) (ops:Array Oper) (L:List RO):Prop where
 ro:∀(k:Nat) (o:RO),L[k]?=some o→jdw P eqs nt ops o=true
 dep:∀(k:Nat) (o:RO) (oo:Oper),L[k]?=some o→ops[o.ix]?=some oo→∀e∈oo.after,Region.binds .any e=true→∃(m:Nat) (o':RO),m<k∧L[m]?=some o'∧o'.ix=e.on
 inj:∀(k m:Nat) (o o':RO),L[k]?=some o→L[m]?=some o'→o.ix=o'.ix→k=m
 pair:∀(k m:Nat) (o o':RO),k<m→L[k]?=some o→L[m]?=some o'→Reach ops o.ix o'.ix∨(jjV o o'=false∧(o.last=false∨isZ o'=true)∧jl1 (cls o.op) (cls o'.op) o'.pure=true)
 all:∀i,i<ops.size→∃(k:Nat) (o:RO),L[k]?=some o∧o.ix=i
 into:∀(k:Nat) (o:RO),L[k]?=some o→o.ix<ops.size
theorem chkD {P:Program}{eqs:List (TypeId×List IntKind)}{nt:NT}{ops:Array Oper}{L:List RO}(h:jk5 P eqs nt ops L=true):ChkD P eqs nt ops L:=by
 unfold jk5 at h
 simp only[qab,List.all_eq_true,List.any_eq_true,List.mem_range,beq_iff_eq]at h
 obtain⟨⟨⟨⟨h1,h2⟩,h3⟩,h4⟩,h5⟩:=h
 refine⟨fun k o hk=>h1 o (List.mem_of_getElem? hk),fun k o oo hk ho e he hb=>?_,fun k m o o' hk hm e=>?_,fun k m o o' hlt hk hm=>?_,fun i hi=>?_,fun k o hk=>?_⟩
 ·rcases (jf5 h2 hk).1 oo ho e he hb with q|q
  all_goals grind
 ·rcases qar k m with q|q|q
  ·exact absurd e ((jf5 h2 hm).2.2 k o q hk)
  ·exact q
  ·exact absurd e.symm ((jf5 h2 hk).2.2 m o' q hm)
 ·have:=jnG L h3 k m o o' hlt hk hm
  unfold jrj at this
  simp only[qal,qab,qan,qaj,decide_eq_true_eq]at this
  rcases this with q|⟨⟨q1,q2⟩,q3⟩
  ·exact .inl (jri ops.toList [] [] rfl rfl (fun j i hi=>by simp at hi) _ _ q)
  grind
 ·grind [List.mem_iff_getElem?]
 ·have:=h1 o (List.mem_of_getElem? hk)
  grind [jdw,Array.getElem?_eq_some_iff]
def On (listed:Array Bool) (i:Nat):Prop:=listed.getD i false=true
theorem jbr {listed:Array Bool}{i j:Nat}(hi:i<listed.size):On (listed.setIfInBounds i true) j↔j=i∨On listed j:=by
 unfold On
 by_cases h:i=j
 all_goals simp_all [Array.getD_eq_getD_getElem?,Array.getElem?_setIfInBounds_ne,Ne.symm]
def curV (L:List RO) (listed:Array Bool) (fr:Fr) (cv:Nat→CV):Nat→Nat→CV
 | 0,t=>fr.get t
 | m+1,t=>match L[m]? with
  | some o=>if listed.getD o.ix false=true∧o.dst=some t then cv m else curV L listed fr cv m t
  | none=>curV L listed fr cv m t
theorem jgU {L:List RO}{l1 l2:Array Bool}{fr:Fr}{cv:Nat→CV}(t:Nat):∀(m:Nat),(∀k o,k<m→L[k]?=some o→o.dst=some t→(On l1 o.ix↔On l2 o.ix))→curV L l1 fr cv m t=curV L l2 fr cv m t
 | 0,_=>rfl
 | m+1,h=>by
  have ih:=jgU (L:=L) (l1:=l1) (l2:=l2) (fr:=fr) (cv:=cv) t m (fun k o hk=>h k o (by omega))
  simp only[curV]
  cases ho:L[m]? with
  | none=>exact ih
  | some o =>
   simp only
   by_cases hd:o.dst=some t
   ·have hh:=h m o (by omega) ho hd
    simp_all [On,false,true,if_pos,if_neg]
   grind
theorem jf6 {L:List RO}{listed:Array Bool}{fr:Fr}{cv:Nat→CV}(t:Nat) (m:Nat):∀(n:Nat),m≤n→(∀k o,m≤k→k<n→L[k]?=some o→o.dst=some t→¬On listed o.ix)→curV L listed fr cv n t=curV L listed fr cv m t
 | 0,hmn,_=>by
  grind
 | n+1,hmn,h=>by
  by_cases e:m=n+1
  ·rw[e]
  ·have ih:=jf6 (L:=L) (listed:=listed) (fr:=fr) (cv:=cv) t m n (by omega) (fun k o h1 h2=>h k o h1 (by omega))
   simp only[curV]
   cases ho:L[n]? with
   | none=>exact ih
   | some o =>
    simp only
    rw[if_neg (fun q=>h n o (by omega) (by omega) ho q.2 q.1),ih]
section
variable {X:Cx}{L:List RO}{st:St}{out:Out}{N:Nat}{s:Nat→St}{cv:Nat→CV}
theorem jbz (fr:Fr) (dst:Option Nat) (c:CV) (t:Nat):(putF fr dst c).get t=if dst=some t then c else fr.get t:=by
 cases dst with
 | none=>simp[putF]
 | some d =>
  simp only[putF,Fr.get_set,Option.some.injEq]
  grind
theorem jk6 (R:Run X L st out N s cv){listed:Array Bool}(t:Nat):∀(m:Nat),m≤N→(∀k o,k<m→L[k]?=some o→o.dst=some t→On listed o.ix)→curV L listed st.fr cv m t=(s m).fr.get t
 | 0,_,_=>by
  rw[R.zero]
  rfl
 | m+1,hm,h=>by
  have ih:=jk6 R (listed:=listed) t m (by omega) (fun k o h1=>h k o (by omega))
  obtain⟨o,G,h1,h2,h3,h4,h5⟩:=R.step m (by omega)
  simp only[curV,h1,h5,jbz]
  by_cases hd:o.dst=some t
  ·rw[if_pos ⟨h m o (by omega) h1 hd,hd⟩,if_pos hd]
  grind
theorem Run.len (R:Run X L st out N s cv){k:Nat}(hk:k<N):(s k).h.length≤(s (k+1)).h.length:=by
 obtain⟨o,G,h1,h2,h3,h4,h5⟩:=R.step k hk
 exact jl4 h2 h3
theorem Run.lens (R:Run X L st out N s cv){k m:Nat}(hkm:k≤m) (hm:m≤N):(s k).h.length≤(s m).h.length:=by
 induction m with
 | zero =>
  grind
 | succ m ih =>
  by_cases e:k=m+1
  ·grind
  ·exact qai (ih (by omega) (by omega)) (R.len (by omega))
theorem Run.get_one (R:Run X L st out N s cv){k:Nat}(hk:k<N){i:Nat}(hc:∀o,L[k]?=some o→cls o.op≠3∨(o.pure=true∧∃m o',m<k∧L[m]?=some o'∧rdB o'.op=true∧rdI o'.op (s m).fr (s m).h i)) (hi:i<(s k).h.length):(s (k+1)).h.get i=(s k).h.get i:=by
 obtain⟨o,G,h1,h2,h3,h4,h5⟩:=R.step k hk
 rcases hc o h1 with q|q
 ·rcases jiA h2 q with e|⟨b,e,_⟩
  ·rw[e]
  ·rw[e,jcy,if_neg (by omega)]
 grind
theorem Run.get_span (R:Run X L st out N s cv){k m:Nat}(hkm:k≤m) (hm:m≤N){i:Nat}(hc:∀j o,k≤j→j<m→L[j]?=some o→cls o.op≠3∨(o.pure=true∧∃p o',p<j∧L[p]?=some o'∧rdB o'.op=true∧rdI o'.op (s p).fr (s p).h i)) (hi:i<(s k).h.length):(s m).h.get i=(s k).h.get i:=by
 induction m with
 | zero =>
  grind
 | succ m ih =>
  by_cases e:k=m+1
  ·rw[e]
  ·rw[←ih (by omega) (by omega) (fun j o h1 h2=>hc j o h1 (by omega))]
   exact R.get_one (by omega) (fun o ho=>hc m o (by omega) (by omega) ho) (qac hi (R.lens (by omega) (by omega)))
theorem Run.born (R:Run X L st out N s cv){k:Nat}(hk:k<N){i:Nat}(h1:(s k).h.length≤i) (h2:i<(s (k+1)).h.length):∃o,L[k]?=some o∧(cls o.op=2∨cls o.op=3):=by
 obtain⟨o,G,e1,e2,e3,e4,e5⟩:=R.step k hk
 grind [cls,jiA]
theorem Run.where (R:Run X L st out N s cv) (i:Nat):∀m,m≤N→i<(s 0).h.length∨(∃k,k<m∧(s k).h.length≤i∧i<(s (k+1)).h.length)∨(s m).h.length≤i
 | 0,_=>by omega
 | m+1,hm=>by
  rcases Run.where R i m (by omega)with q|⟨k,h1,h2⟩|q
  ·exact .inl q
  ·exact .inr (.inl ⟨k,by omega,h2⟩)
  ·by_cases h:i<(s (m+1)).h.length
   ·exact .inr (.inl ⟨m,by omega,q,h⟩)
   ·exact .inr (.inr (by omega))
end
structure DG (L:List RO) (N:Nat) (s:Nat→St) (listed:Array Bool) (T:Nat) (f:LMap) (g:Nat→KB):Prop where
 le:T≤N
 cut:∀k o,k<N→L[k]?=some o→cls o.op=3→(k<T↔On listed o.ix)
 old:∀i,i<(s 0).h.length→g i=(s T).h.get i
 born:∀k o,k<N→L[k]?=some o→On listed o.ix→∀i,(s k).h.length≤i→i<(s (k+1)).h.length→g i=(s (max T (k+1))).h.get i
 not:∀k o,k<N→L[k]?=some o→¬On listed o.ix→∀i,(s k).h.length≤i→i<(s (k+1)).h.length→g i=.dead∧f i=none
 none:∀i,(s N).h.length≤i→g i=.dead∧f i=none
structure DI (X:Cx) (ops:Array Oper) (L:List RO) (st:St) (N:Nat) (s:Nat→St) (cv:Nat→CV) (m:NT) (ds:DS) (z1:ZMap) (f1:LMap) (w1:World) (listed:Array Bool) (z:ZMap) (f:LMap) (a:Act) (w:World):Prop where
 size:listed.size=ops.size
 closed:∀i j,Dir ops i j→On listed j→On listed i
 small:∀k o,L[k]?=some o→On listed o.ix→k<N∨isZ o=true
 fr:∀t,(∀k o,N≤k→L[k]?=some o→On listed o.ix→o.dst≠some t)→VRel z f (curV L listed st.fr cv N t) (a.tmps.getD t undef)
 E:EnvOk X.E z
 nt:m.n≤a.tmps.size
 nil:held m ds a
 mem:∃T g,DG L N s listed T f g∧DescG z f g w∧Acc z1 f1 st.h w1 z f g w
theorem joM {ops:Array Oper}{listed:Array Bool}(hc:∀i j,Dir ops i j→On listed j→On listed i){i j:Nat}(h:Reach ops i j):On listed j→On listed i:=by
 induction h with
 | one h=>grind
 | more h d ih=>grind
theorem jnH {ops:Array Oper}{listed:Array Bool}(hc:∀i j,Dir ops i j→On listed j→On listed i){i j:Nat}(hj:j∈Region.ready .any ops listed) (h:Reach ops i j):On listed i:=by
 obtain⟨h0,o,ho,hall⟩:=mem_ready.1 hj
 have dir:∀i,Dir ops i j→On listed i:=fun i ⟨o',ho',e,he,hb,hi⟩=>by
  rw[ho]at ho'
  cases ho'
  exact hi▸hall e he hb
 cases h with
 | one h=>exact dir _ h
 | more h d=>exact joM hc h (dir _ d)
end
section
open Go.RowKit
theorem jpS {X:Cx}{o:RO}(hl:cls o.op=0){fr:Fr}{h h1:KH}{G:Prop}{c:CV}(hx:jaX X o fr h=some (G,.val c h1)):h1=h∧∀h2,jaX X o fr h2=some (G,.val c h2):=by
 have plain:∀h,opV X o.op fr h=match jaf X.E o.op fr h with
  | some (G,c,h')=>some (G,.val c h')
  | none=>none:=fun h=>jcR _ (fun F xs e=>by rw[e]at hl;cases hl) (fun x xs e=>by rw[e]at hl;cases hl) (fun x e=>by rw[e]at hl;cases hl) fr h
 unfold jaX at hx ⊢
 split at hx
 ·grind [jgT]
 all_goals grind
theorem jj9 {X:Cx}{o:RO}(hl:cls o.op=1){fr:Fr}{h h1:KH}{G:Prop}{c:CV}(hx:jaX X o fr h=some (G,.val c h1)):h1=h:=by
 grind [jiA]
def jiB:KH→Nat→KH
 | [],_=>[]
 | k::h,0=>k::qaa h.length .dead
 | _::h,b+1=>.dead::jiB h b
theorem jl5:∀(h:KH) (b:Nat),(jiB h b).length=h.length
 | [],_=>rfl
 | _::h,0=>by simp[jiB]
 | _::h,b+1=>by simp[jiB,jl5 h b]
theorem joN:∀(n i:Nat),KH.get (qaa n .dead) i=.dead
 | 0,_=>rfl
 | _+1,0=>rfl
 | n+1,i+1=>joN n i
theorem jiC:∀(h:KH) (b i:Nat),(jiB h b).get i=if i=b then h.get i else .dead
 | [],b,i=>by simp[jiB,KH.get]
 | k::h,0,0=>rfl
 | k::h,0,i+1=>by simp[jiB,KH.get,joN]
 | _::h,b+1,0=>by simp[jiB,KH.get]
 | _::h,b+1,i+1=>by simp[jiB,KH.get,jiC h b i]
theorem jpT {X:Cx}{o:RO}(hl:cls o.op=1){fr:Fr}{h h1:KH}{G:Prop}{c:CV}(hx:jaX X o fr h=some (G,.val c h1)) :
  ∃h2:KH,jaX X o fr h2=some (G,.val c h2)∧h2.length=h.length∧∀i,(h2.get i=h.get i∧(i<h.length→rdI o.op fr h i))∨h2.get i=.dead:=by
 have e1:=jj9 hl hx
 rw[e1]at hx
 clear e1
 have all:(∀i,i<h.length→rdI o.op fr h i)→∃h2:KH,jaX X o fr h2=some (G,.val c h2)∧h2.length=h.length∧∀i,(h2.get i=h.get i∧(i<h.length→rdI o.op fr h i))∨h2.get i=.dead :=
  fun q=>⟨h,hx,rfl,fun i=>.inl ⟨rfl,q i⟩⟩
 obtain⟨op,hop⟩:∃op,o.op=op:=⟨_,rfl⟩
 cases op<;>first|(rw[hop]at hl;cases hl;done)|skip
 case b2s x=>exact all (fun i hi=>by rw[hop];exact hi)
 case load agg n x =>
  cases hx2:x.ev fr<;>first|(exact all (fun i hi=>by rw[hop];simp only[rdI,hx2];exact hi))|skip
  rename_i b i0 o0
  refine⟨jiB h b,?_,jl5 h b,fun i=>?_⟩
  ·have plain:∀h,opV X o.op fr h=match jaf X.E o.op fr h with
    | some (G,c,h')=>some (G,.val c h')
    | none=>none:=fun h=>jcR _ (fun F xs e=>by grind) (fun x xs e=>by rw[e]at hl;cases hl) (fun x e=>by rw[e]at hl;cases hl) fr h
   unfold jaX at hx ⊢
   cases hg:jaB o.gd fr with
   | none =>
    grind
   | some t =>
    rw[hg]at hx
    cases t with
    | false =>
     grind
    | true =>
     simp only at hx ⊢
     rw[plain]at hx ⊢
     rw[hop]at hx ⊢
     simp only[jaf,hx2]at hx ⊢
     have hr:jem X.E (jiB h b) (.ptr b i0 o0)=jem X.E h (.ptr b i0 o0):=by
      simp only[jem,jiC,if_pos]
     rw[hr]
     cases hra:jem X.E h (.ptr b i0 o0)with
     | none =>
      grind
     | some q =>
      rw[hra]at hx
      obtain⟨G1,r1⟩:=q
      simp only at hx ⊢
      cases hlv:jfh agg n r1 with
      | none =>
       grind
      | some c1 =>
       grind
  ·rw[jiC]
   by_cases e:i=b
   all_goals simp_all [if_pos,rdI,if_neg]
theorem jnI {X:Cx}{o:RO}(hl:cls o.op=2){fr:Fr}{h h1:KH}{G:Prop}{c:CV}(hx:jaX X o fr h=some (G,.val c h1)) :
  (h1=h∧∀h2,jaX X o fr h2=some (G,.val c h2))∨∃b,h1=h++[b]∧∀h2:KH,h2.length=h.length→jaX X o fr h2=some (G,.val c (h2++[b])):=by
 have plain:∀h,opV X o.op fr h=match jaf X.E o.op fr h with
  | some (G,c,h')=>some (G,.val c h')
  | none=>none:=fun h=>jcR _ (fun F xs e=>by rw[e]at hl;cases hl) (fun x xs e=>by rw[e]at hl;cases hl) (fun x e=>by rw[e]at hl;cases hl) fr h
 unfold jaX at hx ⊢
 split at hx
 ·grind [jfx]
 all_goals grind
section
variable {P:Program}{X:Cx}{ops:Array Oper}{L:List RO}{st:St}{out:Out}{N:Nat}{s:Nat→St}{cv:Nat→CV}{nt:NT}{ds:DS}{z1 z z':ZMap}{f1 f f':LMap}{w1 w w':World}{listed:Array Bool}{a:Act}
variable {p:Nat}{o:RO}
theorem DI.early (C:ChkD P X.eqs nt ops L) (D:DI X ops L st N s cv nt ds z1 f1 w1 listed z f a w) (hp:L[p]?=some o) (hr:o.ix∈Region.ready .any ops listed){k:Nat}{o':RO}(hk:k<p) (ho:L[k]?=some o')
  (hc:jjV o' o=true∨(o'.last=true∧isZ o=false)∨jl1 (cls o'.op) (cls o.op) o.pure=false):On listed o'.ix:=by
 rcases C.pair k p o' o hk ho hp with q|⟨q1,q2,q3⟩
 ·exact jnH D.closed hr q
 grind
theorem DI.late (C:ChkD P X.eqs nt ops L) (D:DI X ops L st N s cv nt ds z1 f1 w1 listed z f a w) (hp:L[p]?=some o) (hr:o.ix∈Region.ready .any ops listed){k:Nat}{o':RO}(hk:p<k) (ho:L[k]?=some o')
  (hc:jjV o o'=true∨(o.last=true∧isZ o'=false)∨jl1 (cls o.op) (cls o'.op) o'.pure=false):¬On listed o'.ix:=fun hon=>by
 rcases C.pair p k o o' hk hp ho with q|⟨q1,q2,q3⟩
 ·have h1:=joM D.closed q hon
  grind [mem_ready,On]
 ·rw[q1,q3]at hc
  rcases q2 with q2|q2<;>rw[q2]at hc<;>simp at hc
theorem DI.off (C:ChkD P X.eqs nt ops L) (D:DI X ops L st N s cv nt ds z1 f1 w1 listed z f a w) (hp:L[p]?=some o) (hr:o.ix∈Region.ready .any ops listed):¬On listed o.ix:=fun h1=>by
 grind [mem_ready,On]
theorem juf {o o':RO}{t:Nat}(hd:o.dst=some t) (ht:t∈jcr o'):jjV o o'=true:=by
 simp_all [jjV,qal,qaj,decide_eq_true_eq]
theorem jl6 {o o':RO}{t:Nat}(hd:o'.dst=some t) (ht:t∈jcr o):jjV o o'=true:=by
 simp_all [jjV,qal,qaj,decide_eq_true_eq]
theorem jpU {o o':RO}{t:Nat}(hd:o.dst=some t) (hd':o'.dst=some t):jjV o o'=true:=by
 simp_all [jjV,qal]
theorem DI.slot (R:Run X L st out N s cv) (C:ChkD P X.eqs nt ops L) (D:DI X ops L st N s cv nt ds z1 f1 w1 listed z f a w) (hpN:p≤N) (hp:L[p]?=some o) (hr:o.ix∈Region.ready .any ops listed){t:Nat}(ht:t∈jcr o):curV L listed st.fr cv N t=(s p).fr.get t:=by
 rw[jf6 t p N hpN,jk6 R t p hpN]
 ·exact fun k o' hk ho hd=>D.early C hp hr hk ho (.inl (juf hd ht))
 ·intro k o' h1 h2 ho hd
  by_cases e:k=p
  ·subst e
   rw[hp]at ho
   cases ho
   exact D.off C hp hr
  ·exact D.late C hp hr (by omega) ho (.inl (jl6 hd ht))
theorem DI.cur (C:ChkD P X.eqs nt ops L) (D:DI X ops L st N s cv nt ds z1 f1 w1 listed z f a w) (hpN:p<N) (hp:L[p]?=some o) (hr:o.ix∈Region.ready .any ops listed) (t:Nat):curV L (listed.setIfInBounds o.ix true) st.fr cv N t=if o.dst=some t then cv p else curV L listed st.fr cv N t:=by
 have hlt:o.ix<listed.size:=by
  rw[D.size]
  exact C.into p o hp
 by_cases hd:o.dst=some t
 ·rw[if_pos hd,jf6 t (p+1) N (by omega)]
  ·simp only[curV,hp]
   rw[if_pos ⟨(jbr hlt).2 (.inl rfl),hd⟩]
  ·intro k o' h1 h2 ho hd' hon
   rcases (jbr hlt).1 hon with e|e
   ·have:=C.inj k p o' o ho hp e
    omega
   ·exact D.late C hp hr (by omega) ho (.inl (jpU hd hd')) e
 ·rw[if_neg hd]
  refine jgU t N (fun k o' hk ho hd'=>?_)
  rw[jbr hlt]
  constructor
  ·rintro (e|e)
   ·have:=C.inj k p o' o ho hp e
    grind
   ·exact e
  ·exact .inr
theorem DI.next (C:ChkD P X.eqs nt ops L) (D:DI X ops L st N s cv nt ds z1 f1 w1 listed z f a w) (hpN:p<N) (hp:L[p]?=some o) (hr:o.ix∈Region.ready .any ops listed){v:Value}(ext:Ext z f z' f') (hv:VRel z' f' (cv p) v)
  (hm:∃T g,DG L N s (listed.setIfInBounds o.ix true) T f' g∧DescG z' f' g w'∧Acc z1 f1 st.h w1 z' f' g w'):DI X ops L st N s cv nt ds z1 f1 w1 (listed.setIfInBounds o.ix true) z' f' (a.put o.dst v) w':=by
 have hlt:o.ix<listed.size:=by
  rw[D.size]
  exact C.into p o hp
 refine⟨by simpa using D.size,fun i j hd hon=>?_,fun k o' ho hon=>?_,fun t hnz=>?_,D.E.mono ext,by rw[jh5];exact D.nt,jh7 D.nil (jh6 (C.ro p o hp)),hm⟩
 ·rcases (jbr hlt).1 hon with e|e
  ·subst e
   obtain⟨o',ho',q,hq,hb,hi⟩:=hd
   obtain⟨_,o2,ho2,hall⟩:=mem_ready.1 hr
   rw[ho']at ho2
   cases ho2
   exact (jbr hlt).2 (.inr (hi▸hall q hq hb))
  ·exact (jbr hlt).2 (.inr (D.closed i j hd e))
 ·rcases (jbr hlt).1 hon with e|e
  ·have:=C.inj k p o' o ho hp e
   omega
  ·exact D.small k o' ho e
 ·rw[D.cur C hpN hp hr]
  by_cases hd:o.dst=some t
  ·rw[if_pos hd]
   have hdt:=jiw (C.ro p o hp) t hd
   have hnt:=D.nt
   simp only[Act.put,hd,Array.getD_eq_getD_getElem?]
   grind
  ·rw[if_neg hd]
   have:=(D.fr t (fun k o' h1 h2 h3=>hnz k o' h1 h2 ((jbr hlt).2 (.inr h3)))).mono ext
   cases hd2:o.dst with
   | none=>exact this
   | some d =>
    simp_all [Act.put,Array.getD_eq_getD_getElem?,Array.getElem?_setIfInBounds_ne]
theorem jbs {k:Nat}{o':RO}(C:ChkD P X.eqs nt ops L) (hlt:o.ix<listed.size) (hp:L[p]?=some o) (ho:L[k]?=some o') (hk:k≠p):On (listed.setIfInBounds o.ix true) o'.ix↔On listed o'.ix:=by
 rw[jbr hlt]
 exact⟨fun q=>q.resolve_left (fun e=>hk (C.inj k p o' o ho hp e)),.inr⟩
theorem DG.quiet (C:ChkD P X.eqs nt ops L){T:Nat}{g:Nat→KB}(hlt:o.ix<listed.size) (hpN:p<N) (hp:L[p]?=some o) (G:DG L N s listed T f g) (h3:cls o.op≠3) (hh:(s (p+1)).h=(s p).h):DG L N s (listed.setIfInBounds o.ix true) T f g where
 le:=G.le
 cut:=fun k o' hk ho hc=>by
  by_cases e:k=p
  ·grind
  ·rw[jbs C hlt hp ho e]
   exact G.cut k o' hk ho hc
 old:=G.old
 born:=fun k o' hk ho hon i h1 h2=>by
  by_cases e:k=p
  ·grind
  ·exact G.born k o' hk ho ((jbs C hlt hp ho e).1 hon) i h1 h2
 not:=fun k o' hk ho hon i h1 h2=>G.not k o' hk ho (fun q=>hon ((jbr hlt).2 (.inr q))) i h1 h2
 none:=G.none
theorem jfy {g:Nat→KB}{h:KH}(hs:∀i,(h.get i).live→g i=h.get i) (h0:∀i,h.length≤i→i<h.length→False):jex g h h=g:=by
 grind [jdx,jaS]
theorem jiD (n i:Nat):KH.get (qaa n .dead) i=.dead:=by
 induction n generalizing i with
 | zero=>rfl
 | succ n ih =>
  cases i with
  | zero=>rfl
  | succ i=>exact ih i
theorem DI.sees (R:Run X L st out N s cv) (C:ChkD P X.eqs nt ops L) (D:DI X ops L st N s cv nt ds z1 f1 w1 listed z f a w) (hpN:p≤N) (hp:L[p]?=some o) (hr:o.ix∈Region.ready .any ops listed){T:Nat}{g:Nat→KB}(G:DG L N s listed T f g) (hc:cls o.op=1∨cls o.op=3){i:Nat}(hi:i<(s p).h.length) (hq:cls o.op=1→rdI o.op (s p).fr (s p).h i):g i=(s p).h.get i:=by
 -- from the cut to the step,or from the step to the cut,nothing turns what is there
 have gentle:∀j o',(T≤j∧j<p)∨(p≤j∧j<T)→L[j]?=some o'→cls o'.op≠3∨(o'.pure=true∧∃q oq,q<j∧L[q]?=some oq∧rdB oq.op=true∧rdI oq.op (s q).fr (s q).h i):=fun j o' hj ho=>by
  by_cases c:cls o'.op=3
  ·rcases hj with⟨h1,h2⟩|⟨h1,h2⟩
   ·have hon:=D.early C hp hr h2 ho (.inr (.inr (by rw[c];rcases hc with e|e<;>rw[e]<;>rfl)))
    have:=(G.cut j o' (by omega) ho c).2 hon
    omega
   ·have hle:=G.le
    have hon:=(G.cut j o' (by omega) ho c).1 h2
    by_cases e:j=p
    ·subst e
     rw[hp]at ho
     cases ho
     exact absurd hon (D.off C hp hr)
    ·rcases hc with c1|c3
     ·by_cases hpu:o'.pure=true
      ·grind [jwn]
      ·exfalso
       refine D.late C hp hr (by omega) ho (.inr (.inr ?_)) hon
       grind [jl1]
     ·exfalso
      refine D.late C hp hr (by omega) ho (.inr (.inr ?_)) hon
      rw[c,c3]
      rfl
  omega
 have hle:=G.le
 have same:∀m,m≤p→i<(s m).h.length→(s (max T m)).h.get i=(s p).h.get i:=fun m hm him=>by
  rcases qat p T with q|q
  ·rw[show max T m=T by omega]
   exact R.get_span (by omega) (by omega) (fun j o' h1 h2=>gentle j o' (.inr ⟨h1,h2⟩)) hi
  ·exact (R.get_span (k:=max T m) (m:=p) (by omega) (by omega) (fun j o' h1 h2=>gentle j o' (.inl ⟨by omega,h2⟩)) (qac him (R.lens (by omega) (by omega)))).symm
 rcases R.where i p hpN with q|⟨k,h1,h2,h3⟩|q
 ·rw[G.old i q,←same 0 (by omega) q,show max T 0=T by omega]
 ·obtain⟨o',ho,hcl⟩:=R.born (by omega) h2 h3
  have hon:=D.early C hp hr h1 ho (.inr (.inr (by rcases hcl with e|e<;>rw[e]<;>rcases hc with e|e<;>rw[e]<;>rfl)))
  rw[G.born k o' (by omega) ho hon i h2 h3,same (k+1) (by omega) h3]
 ·omega
theorem DG.alloc (R:Run X L st out N s cv) (C:ChkD P X.eqs nt ops L) (D:DI X ops L st N s cv nt ds z1 f1 w1 listed z f a w) (hpN:p<N) (hp:L[p]?=some o) (hr:o.ix∈Region.ready .any ops listed){T:Nat}{g:Nat→KB}(G:DG L N s listed T f g) (h2:cls o.op=2){b:KB}(hh:(s (p+1)).h=(s p).h++[b])
  (hf:∀i,i≠(s p).h.length→f' i=f i):DG L N s (listed.setIfInBounds o.ix true) T f' (jex g (qaa (s p).h.length .dead) (qaa (s p).h.length .dead++[b])):=by
 have hlt:o.ix<listed.size:=by
  rw[D.size]
  exact C.into p o hp
 have hlen:(s (p+1)).h.length=(s p).h.length+1:=by rw[hh];simp
 have at':∀i,jex g (qaa (s p).h.length .dead) (qaa (s p).h.length .dead++[b]) i=if i=(s p).h.length then b else g i:=fun i=>by
  by_cases e:i=(s p).h.length
  ·simp_all [if_pos,jdx,jcy]
  ·rw[if_neg e,jaS]
   rintro⟨h1,h2⟩
   simp only[qaq,List.length_replicate,List.length_cons,List.length_nil,jiD]at h1 h2
   rcases h2 with h2|h2
   ·omega
   ·exact h2
 have h0:=R.lens (k:=0) (m:=p) (by omega) (by omega)
 refine⟨G.le,fun k o' hk ho hc=>?_,fun i hi=>?_,fun k o' hk ho hon i q1 q2=>?_,fun k o' hk ho hon i q1 q2=>?_,fun i hi=>?_⟩
 ·by_cases e:k=p
  ·grind
  ·rw[jbs C hlt hp ho e]
   exact G.cut k o' hk ho hc
 ·rw[at',if_neg (by omega)]
  exact G.old i hi
 ·by_cases e:k=p
  ·subst e
   have hi:i=(s k).h.length:=by omega
   rw[at',if_pos hi]
   have h1:(s (k+1)).h.get i=b:=by rw[hh,jcy,if_pos hi]
   rw[←h1]
   have hle:=G.le
   refine (R.get_span (k:=k+1) (m:=max T (k+1)) (by omega) (by omega) (fun j o2 r1 r2 r3=>.inl (fun r4=>?_)) q2).symm
   exact D.late C hp hr (by omega) r3 (.inr (.inr (by rw[h2,r4];rfl))) ((G.cut j o2 (by omega) r3 r4).1 (by omega))
  ·rw[at',if_neg,G.born k o' hk ho ((jbs C hlt hp ho e).1 hon) i q1 q2]
   intro e2
   rcases qaf e with q|q
   ·have:=R.lens (k:=k+1) (m:=p) (by omega) (by omega)
    omega
   ·have:=R.lens (k:=p+1) (m:=k) (by omega) (by omega)
    omega
 ·have hne:k≠p:=fun e=>by
   subst e
   rw[hp]at ho
   cases ho
   exact hon ((jbr hlt).2 (.inl rfl))
  have:i≠(s p).h.length:=by
   intro e2
   rcases qaf hne with q|q
   ·have:=R.lens (k:=k+1) (m:=p) (by omega) (by omega)
    omega
   ·have:=R.lens (k:=p+1) (m:=k) (by omega) (by omega)
    omega
  rw[at',if_neg this,hf i this]
  exact G.not k o' hk ho (fun q=>hon ((jbr hlt).2 (.inr q))) i q1 q2
 ·have:=R.lens (k:=p+1) (m:=N) (by omega) (by omega)
  rw[at',if_neg (by omega),hf i (by omega)]
  exact G.none i hi
theorem DG.effect (R:Run X L st out N s cv) (C:ChkD P X.eqs nt ops L) (D:DI X ops L st N s cv nt ds z1 f1 w1 listed z f a w) (hpN:p<N) (hp:L[p]?=some o) (hr:o.ix∈Region.ready .any ops listed){T:Nat}{g:Nat→KB}(G:DG L N s listed T f g) (h3:cls o.op=3)
  (hliv:∀i,i<(s p).h.length→((s (p+1)).h.get i).live→((s p).h.get i).live) (hf:∀i,i<(s p).h.length∨(s (p+1)).h.length≤i→f' i=f i):DG L N s (listed.setIfInBounds o.ix true) (p+1) f' (jex g (s p).h (s (p+1)).h):=by
 have hlt:o.ix<listed.size:=by
  rw[D.size]
  exact C.into p o hp
 have hl1:=R.len hpN
 have inside:∀i,i<(s (p+1)).h.length→jex g (s p).h (s (p+1)).h i=(s (p+1)).h.get i:=fun i hi=>by
  by_cases e:i<(s (p+1)).h.length∧((s p).h.length≤i∨((s p).h.get i).live)
  ·rw[jdx e.1 e.2]
  ·rw[jaS e]
   have hi2:i<(s p).h.length:=by
    by_cases q:i<(s p).h.length
    ·exact q
    ·exact absurd ⟨hi,.inl (by omega)⟩ e
   have hd:¬((s p).h.get i).live:=fun q=>e ⟨hi,.inr q⟩
   rw[D.sees R C (by omega) hp hr G (.inr h3) hi2 (fun q=>by omega),jdV hd,jdV (fun q=>hd (hliv i hi2 q))]
 have outside:∀i,(s (p+1)).h.length≤i→jex g (s p).h (s (p+1)).h i=g i:=fun i hi=>jaS (by omega)
 have hTp:T≤p:=by
  rcases qat p T with q|q
  ·exact absurd ((G.cut p o hpN hp h3).1 q) (D.off C hp hr)
  ·exact q
 have span0:∀k,k≤p→∀o',L[k]?=some o'→cls o'.op=3→k<p→On listed o'.ix:=fun k hk o' ho hc hlt=>D.early C hp hr hlt ho (.inr (.inr (by rw[hc,h3];rfl)))
 refine⟨by omega,fun k o' hk ho hc=>?_,fun i hi=>?_,fun k o' hk ho hon i q1 q2=>?_,fun k o' hk ho hon i q1 q2=>?_,fun i hi=>?_⟩
 ·by_cases e:k=p
  ·subst e
   rw[hp]at ho
   cases ho
   exact⟨fun _=>(jbr hlt).2 (.inl rfl),fun _=>by omega⟩
  ·rw[jbs C hlt hp ho e]
   rcases qaf e with q|q
   ·grind
   ·exact⟨fun _=>by omega,fun hon=>absurd hon (D.late C hp hr q ho (.inr (.inr (by rw[h3,hc];rfl))))⟩
 ·have:=R.lens (k:=0) (m:=p+1) (by omega) (by omega)
  grind
 ·by_cases e:k≤p
  ·have:=R.lens (k:=k+1) (m:=p+1) (by omega) (by omega)
   grind
  ·have:=R.lens (k:=p+1) (m:=k) (by omega) (by omega)
   rw[outside i (by omega),G.born k o' hk ho ((jbs C hlt hp ho (by omega)).1 hon) i q1 q2,show max T (k+1)=k+1 by omega,show max (p+1) (k+1)=k+1 by omega]
 ·have hoff:¬On listed o'.ix:=fun q=>hon ((jbr hlt).2 (.inr q))
  have hne:k≠p:=fun e=>by
   subst e
   rw[hp]at ho
   cases ho
   exact hon ((jbr hlt).2 (.inl rfl))
  have hkp:p<k:=by
   rcases qaf hne with q|q
   ·obtain⟨o2,ho2,hcl⟩:=R.born (by omega) q1 q2
    rw[ho]at ho2
    cases ho2
    exact absurd (D.early C hp hr q ho (.inr (.inr (by rcases hcl with e|e<;>rw[e,h3]<;>rfl)))) hoff
   ·exact q
  have:=R.lens (k:=p+1) (m:=k) (by omega) (by omega)
  rw[outside i (by omega),hf i (.inr (by omega))]
  exact G.not k o' hk ho hoff i q1 q2
 ·have:=R.lens (k:=p+1) (m:=N) (by omega) (by omega)
  rw[outside i (by omega),hf i (.inr (by omega))]
  exact G.none i hi
end
end
section
open Go.RowKit
section
variable {P:Program}{X:Cx}{ops:Array Oper}{L:List RO}{st:St}{out:Out}{N:Nat}{s:Nat→St}{cv:Nat→CV}{nt:NT}{ds:DS}{z1 z z':ZMap}{f1 f f':LMap}{w1 w w':World}{listed:Array Bool}{a:Act}
variable {p:Nat}{o:RO}{Q:Exit→Act→World→Prop}{K:Act→World→Prop}{g0:Nat→KB}
theorem DI.fits (R:Run X L st out N s cv) (C:ChkD P X.eqs nt ops L) (D:DI X ops L st N s cv nt ds z1 f1 w1 listed z f a w) (hpN:p≤N) (hp:L[p]?=some o) (hr:o.ix∈Region.ready .any ops listed):FrOk z f (Fr.keep (jcr o) (s p).fr) a:=fun t=>by
 rw[Fr.get_keep]
 by_cases ht:t∈jcr o
 ·rw[if_pos (by grind),←D.slot R C hpN hp hr ht]
  refine D.fr t (fun k o' h1 h2 h3 h4=>?_)
  by_cases e:k=p
  ·subst e
   rw[hp]at h2
   cases h2
   exact D.off C hp hr h3
  ·exact D.late C hp hr (by omega) h2 (.inl (jl6 h4 ht)) h3
 ·rw[if_neg (by grind)]
  exact .undef _
theorem DI.same (hx:∀t,t∈jcr o→True) (fr:Fr) (h:KH):jaX X o (Fr.keep (jcr o) fr) h=jaX X o fr h:=jnF X o h (fun t ht=>by rw[Fr.get_keep,if_pos (by simpa using ht)])
theorem DI.look (R:Run X L st out N s cv) (C:ChkD P X.eqs nt ops L) (D:DI X ops L st N s cv nt ds z1 f1 w1 listed z f a w) (hpN:p≤N) (hp:L[p]?=some o) (hr:o.ix∈Region.ready .any ops listed){T:Nat}{g:Nat→KB}(G:DG L N s listed T f g) (hc:cls o.op=3) (d:DescG z f g w):Desc z f (s p).h w :=
 d.weaken (fun i=>by
  by_cases hi:i<(s p).h.length
  ·exact .inl (D.sees R C hpN hp hr G (.inr hc) hi (fun q=>by omega)).symm
  ·exact .inr (KH.get_ge _ _ (by omega)))
theorem jk7 (d:DescG z f (fun _=>.dead) w):Desc z f [] w:=by
 simp_all [KH.get,Desc]
theorem DI.step (hX:CxOk P X) (R:Run X L st out N s cv) (C:ChkD P X.eqs nt ops L) (D:DI X ops L st N s cv nt ds z1 f1 w1 listed z f a w) (hpN:p<N) (hp:L[p]?=some o) (hr:o.ix∈Region.ready .any ops listed)
  (hK:∀z' f' a' w',DI X ops L st N s cv nt ds z1 f1 w1 (listed.setIfInBounds o.ix true) z' f' a' w'→K a' w'):wpOp P ops Q o.ix K a w:=by
 obtain⟨T,g,hG,dg,acc⟩:=D.mem
 have hlt:o.ix<listed.size:=by
  rw[D.size]
  exact C.into p o hp
 obtain⟨o',G,ho',hs,hGv,hpure,hfr⟩:=R.step p hpN
 rw[hp]at ho'
 cases ho'
 have hfit:=D.fits R C (by omega) hp hr
 rw[←DI.same (fun _ _=>trivial) (s p).fr]at hs
 have l0:st.h.length≤(s p).h.length:=by
  rw[←congrArg St.h R.zero]
  exact R.lens (by omega) (by omega)
 -- what is not born yet
 have unborn:∀i,(s p).h.length≤i→i<(s (p+1)).h.length→g i=.dead∧f i=none:=fun i h1 h2=>hG.not p o hpN hp (D.off C hp hr) i h1 h2
 have four:cls o.op=0∨cls o.op=1∨cls o.op=2∨cls o.op=3:=by
  cases o.op<;>simp[cls]
 have free':Free f (s N).h:=fun i hi=>(hG.none i hi).2
 rcases four with hc|hc|hc|hc
 ·-- values alone
  obtain⟨e1,e2⟩:=jpS hc hs
  have hd:Desc z f [] w:=jk7 (dg.weaken (fun i=>.inr rfl))
  refine jev hX D.E hd hfit (C.ro p o hp) (e2 []) hGv (fun c h' e i h1 h2=>?_) (fun c h' v w' z' f' e hv hd' hst=>?_) (fun c h' v w' z' f' e=>by cases e)
  ·grind
  ·cases e
   obtain⟨t1,t2,t3⟩:=jbF dg hd' hst (fun i hi=>by simp[KH.get,KB.live]at hi) (fun i h1 h2=>by simp at h2) acc (.inr rfl)
   rw[jfy (fun i hi=>by simp[KH.get,KB.live]at hi) (fun i h1 h2=>by simp at h2)]at t1 t2
   have hff:f'=f:=funext fun i=>hst.old i (.inr (by simp))
   refine hK z' f' _ w' (D.next C hpN hp hr t3 hv ⟨T,g,?_,t1,t2⟩)
   rw[hff]
   exact hG.quiet C hlt hpN hp (by omega) e1
 ·-- a reading step
  have e1:=jj9 hc hs
  rw[DI.same (fun _ _=>trivial) (s p).fr]at hs
  obtain⟨h2,m1,m2,m3⟩:=jpT hc hs
  rw[←DI.same (fun _ _=>trivial) (s p).fr]at m1
  have look:∀i,h2.get i=g i∨h2.get i=.dead:=fun i=>by
   rcases m3 i with⟨q1,q2⟩|q
   ·by_cases hi:i<(s p).h.length
    ·exact .inl (q1.trans (D.sees R C (by omega) hp hr hG (.inl hc) hi (fun _=>q2 hi)).symm)
    grind [KH.get_ge]
   grind
  have sub:∀i,(h2.get i).live→g i=h2.get i:=fun i hi=>by
   rcases look i with q|q
   ·exact q.symm
   ·rw[q]at hi
    exact hi.elim
  refine jev hX D.E (dg.weaken look) hfit (C.ro p o hp) m1 hGv (fun c h' e i h1 h2=>?_) (fun c h' v w' z' f' e hv hd' hst=>?_) (fun c h' v w' z' f' e=>by cases e)
  ·grind
  ·cases e
   obtain⟨t1,t2,t3⟩:=jbF dg hd' hst sub (fun i h1 h2=>by omega) acc (.inl (by omega))
   rw[jfy sub (fun i h1 h2=>by omega)]at t1 t2
   have hff:f'=f:=funext fun i=>hst.old i (by omega)
   refine hK z' f' _ w' (D.next C hpN hp hr t3 hv ⟨T,g,?_,t1,t2⟩)
   rw[hff]
   exact hG.quiet C hlt hpN hp (by omega) e1
 ·-- memory is made
  rcases jnI hc hs with⟨e1,e2⟩|⟨b,e1,e2⟩
  ·have hd:Desc z f [] w:=jk7 (dg.weaken (fun i=>.inr rfl))
   refine jev hX D.E hd hfit (C.ro p o hp) (e2 []) hGv (fun c h' e i h1 h2=>?_) (fun c h' v w' z' f' e hv hd' hst=>?_) (fun c h' v w' z' f' e=>by cases e)
   ·grind
   ·cases e
    obtain⟨t1,t2,t3⟩:=jbF dg hd' hst (fun i hi=>by simp[KH.get,KB.live]at hi) (fun i h1 h2=>by simp at h2) acc (.inr rfl)
    rw[jfy (fun i hi=>by simp[KH.get,KB.live]at hi) (fun i h1 h2=>by simp at h2)]at t1 t2
    have hff:f'=f:=funext fun i=>hst.old i (.inr (by simp))
    refine hK z' f' _ w' (D.next C hpN hp hr t3 hv ⟨T,g,?_,t1,t2⟩)
    rw[hff]
    exact hG.quiet C hlt hpN hp (by omega) e1
  ·have hdl:(qaa (s p).h.length KB.dead).length=(s p).h.length:=by simp
   have nolive:∀i,¬(KH.get (qaa (s p).h.length .dead) i).live:=fun i=>by
    rw[jiD]
    exact fun h=>h
   have hd:Desc z f (qaa (s p).h.length .dead) w:=dg.weaken (fun i=>.inr (jiD _ _))
   have e3:=e2 (qaa (s p).h.length .dead) hdl
   have hl1:(s (p+1)).h.length=(s p).h.length+1:=by rw[e1];simp
   refine jev hX D.E hd hfit (C.ro p o hp) e3 hGv (fun c h' e i h1 h2=>?_) (fun c h' v w' z' f' e hv hd' hst=>?_) (fun c h' v w' z' f' e=>by cases e)
   ·grind
   ·cases e
    obtain⟨t1,t2,t3⟩:=jbF dg hd' hst (fun i hi=>absurd hi (nolive i)) (fun i h1 h2=>by
     grind) acc (.inl (by omega))
    refine hK z' f' _ w' (D.next C hpN hp hr t3 hv ⟨T,_,?_,t1,t2⟩)
    refine hG.alloc R C D hpN hp hr hc e1 (fun i hi=>hst.old i ?_)
    grind
 ·-- an effect
  have sub:∀i,((s p).h.get i).live→g i=(s p).h.get i:=fun i hi=>D.sees R C (by omega) hp hr hG (.inr hc) (KH.lt_of_live hi) (fun q=>by omega)
  refine jev hX D.E (D.look R C (by omega) hp hr hG hc dg) hfit (C.ro p o hp) hs hGv (fun c h' e i h1 h2=>?_) (fun c h' v w' z' f' e hv hd' hst=>?_) (fun c h' v w' z' f' e=>by cases e)
  ·grind
  ·cases e
   obtain⟨t1,t2,t3⟩:=jbF dg hd' hst sub (fun i h1 h2=>unborn i h1 h2) acc (.inl l0)
   exact hK z' f' _ w' (D.next C hpN hp hr t3 hv ⟨p+1,_,hG.effect R C D hpN hp hr hc hst.liv hst.old,t1,t2⟩)
theorem Acc.stp {h1 h:KH}{g:Nat→KB}(acc:Acc z1 f1 h1 w1 z f g w) (hl:h1.length≤h.length) (hg:∀i,i<h.length→g i=h.get i) (hf:∀i,h.length≤i→f i=none) (hf1:Free f1 h1):Stp z1 f1 h1 w1 z f h w where
 keep:=acc.keep
 len:=hl
 old:=fun i hi=>by
  rcases hi with q|q
  ·exact acc.old i q
  ·rw[hf i q,hf1 i (by omega)]
 liv:=fun i hi hli=>acc.liv i hi (by grind)
 new:=fun i l hi e hli=>acc.new i l hi e (by grind)
 zold:=acc.zold
 znew:=acc.znew
theorem DI.panic (hX:CxOk P X) (R:Run X L st out N s cv) (C:ChkD P X.eqs nt ops L) (D:DI X ops L st N s cv nt ds z1 f1 w1 listed z f a w) (hf1:Free f1 st.h) (hp:L[N]?=some o) (hr:o.ix∈Region.ready .any ops listed)
  {G:Prop}{c:CV}{h':KH}(hs:jaX X o (s N).fr (s N).h=some (G,.pan c h')) (hGv:G)
  (hP:∀v z' f' w',EnvOk X.E z'→VRel z' f' c v→Desc z' f' h' w'→Stp z1 f1 st.h w1 z' f' h' w'→Free f' h'→Q (.panic [⟨v,false,false⟩]) a w'):wpOp P ops Q o.ix K a w:=by
 obtain⟨T,g,hG,dg,acc⟩:=D.mem
 have hfit:=D.fits R C (qae _) hp hr
 rw[←DI.same (fun _ _=>trivial) (s N).fr]at hs
 have l0:st.h.length≤(s N).h.length:=by
  rw[←congrArg St.h R.zero]
  exact R.lens (by omega) (by omega)
 have hc:cls o.op=3:=by
  by_cases c3:cls o.op=3
  ·exact c3
  ·exfalso
   unfold jaX at hs
   split at hs
   ·rw[jcR _ (fun F xs e=>c3 (by rw[e];rfl)) (fun x xs e=>c3 (by rw[e];rfl)) (fun x e=>c3 (by rw[e];rfl))]at hs
    split at hs<;>cases hs
   ·cases hs
   ·cases hs
 have free:∀i,(s N).h.length≤i→g i=.dead∧f i=none:=hG.none
 have sub:∀i,((s N).h.get i).live→g i=(s N).h.get i:=fun i hi=>D.sees R C (by omega) hp hr hG (.inr hc) (KH.lt_of_live hi) (fun q=>by omega)
 refine jev hX D.E (D.look R C (by omega) hp hr hG hc dg) hfit (C.ro N o hp) hs hGv (fun c h' e i h1 h2=>(free i h1).2) (fun c h' v w' z' f' e=>by cases e) (fun c h' v w' z' f' e hv hd' hst=>?_)
 cases e
 obtain⟨t1,t2,t3⟩:=jbF dg hd' hst sub (fun i h1 h2=>free i h1) acc (.inl l0)
 have hfree:∀i,h'.length≤i→f' i=none:=fun i hi=>by
  rw[hst.old i (.inr hi)]
  exact (free i (qai hst.len hi)).2
 refine hP v z' f' w' (D.E.mono t3) hv hd' (t2.stp (qai l0 hst.len) (fun i hi=>?_) hfree hf1) hfree
 by_cases e:i<h'.length∧((s N).h.length≤i∨((s N).h.get i).live)
 ·exact jdx e.1 e.2
 ·rw[jaS e]
  have hi2:i<(s N).h.length:=by
   by_cases q:i<(s N).h.length
   ·exact q
   ·exact absurd ⟨hi,.inl (by omega)⟩ e
  have hdd:¬((s N).h.get i).live:=fun q=>e ⟨hi,.inr q⟩
  rw[D.sees R C (by omega) hp hr hG (.inr hc) hi2 (fun q=>by omega),jdV hdd,jdV (fun q=>hdd (hst.liv i hi2 q))]
theorem jrn {o:RO}{fr:Fr}{h h':KH}{G:Prop}{c:CV}(hz:isZ o=true) (hs:jaX X o fr h=some (G,.pan c h')):False:=by
 unfold isZ at hz
 split at hz
 ·rename_i cs e
  unfold jaX at hs
  rw[e]at hs
  split at hs
  ·cases hs
  ·cases hs
  ·cases hs
 ·cases hz
theorem DescG.world (d:DescG z f g0 w) (hb:∀i l,f i=some l→(g0 i).live→w'.heap[l.B]?=w.heap[l.B]?) (hz:∀B o,z B=some o→w'.heap[B]?=w.heap[B]?):DescG z f g0 w' where
 blk:=fun i=>by
  cases e:f i with
  | none =>
   have:=d.blk i
   rw[e]at this
   exact this.none_any
  | some l =>
   have hd:=d.blk i
   rw[e]at hd
   by_cases hl:(g0 i).live
   ·exact hd.mono (Ext.refl _ _) (hb i l e hl)
   ·have:g0 i=.dead:=by
     revert hl
     cases g0 i<;>simp[KB.live]
    rw[this]
    trivial
 apart:=d.apart
 off:=d.off
 stays:=fun B o e=>(hz B o e).trans (d.stays B o e)
theorem DI.zero (hX:CxOk P X) (C:ChkD P X.eqs nt ops L) (D:DI X ops L st N s cv nt ds z1 f1 w1 listed z f a w) (hpN:N<p) (hp:L[p]?=some o) (hr:o.ix∈Region.ready .any ops listed) (hz:isZ o=true)
  (hK:∀a' w',DI X ops L st N s cv nt ds z1 f1 w1 (listed.setIfInBounds o.ix true) z f a' w'→K a' w'):wpOp P ops Q o.ix K a w:=by
 obtain⟨T,g,hG,dg,acc⟩:=D.mem
 have hlt:o.ix<listed.size:=by
  rw[D.size]
  exact C.into p o hp
 have hd:Desc z f [] w:=jk7 (dg.weaken (fun i=>.inr rfl))
 obtain⟨b,hs⟩:∃b,jaX X o [] []=some (True,.val (.ptr 0 0 0) [b]):=by
  unfold isZ at hz
  split at hz
  ·rename_i cs e
   refine⟨.box cs,?_⟩
   unfold jaX
   rw[e]
   cases hgd:o.gd with
   | none=>rfl
   | some q=>grind
  ·cases hz
 have hd0:Desc z (fun _=>none) [] w:=⟨fun i=>(by rw[KH.get_ge [] i (Nat.zero_le _)];trivial),fun i j li lj e=>(by cases e),fun i l e=>(by cases e),dg.stays⟩
 refine jev hX D.E hd0 (fr:=[]) (fun n=>.undef _) (C.ro p o hp) hs trivial (fun c h' e i h1 h2=>rfl) (fun c h' v w' z' f' e hv hd' hst=>?_) (fun c h' v w' z' f' e=>by cases e)
 have none:∀B,¬Mine (fun _=>none) [] B:=fun B ⟨j,l,e,_⟩=>by cases e
 have keep:∀i,i<w.heap.size→w'.heap[i]?=w.heap[i]?:=fun i hi=>hst.keep.block i hi (none i)
 refine hK _ w' ⟨by simpa using D.size,fun i j hdr hon=>?_,fun k o' ho hon=>?_,fun t hnz=>?_,D.E,by rw[jh5];exact D.nt,jh7 D.nil (jh6 (C.ro p o hp)),T,g,?_,dg.world (fun i l e hl=>keep _ ?_) (fun B o e=>keep _ (Array.getElem?_eq_some_iff.1 (dg.stays B o e)).1),⟨acc.keep.trans hst.keep (fun g hg=>absurd hg (none g)),acc.old,acc.liv,acc.new,acc.zold,acc.znew⟩⟩
 ·rcases (jbr hlt).1 hon with e|e
  ·subst e
   obtain⟨o',ho',q,hq,hb,hi⟩:=hdr
   obtain⟨_,o2,ho2,hall⟩:=mem_ready.1 hr
   rw[ho']at ho2
   cases ho2
   exact (jbr hlt).2 (.inr (hi▸hall q hq hb))
  ·exact (jbr hlt).2 (.inr (D.closed i j hdr e))
 ·rcases (jbr hlt).1 hon with e|e
  ·have:=C.inj k p o' o ho hp e
   grind
  ·exact D.small k o' ho e
 ·have hd1:o.dst≠some t:=hnz p o (by omega) hp ((jbr hlt).2 (.inl rfl))
  have h1:=D.fr t (fun k o' h1 h2 h3=>hnz k o' h1 h2 ((jbr hlt).2 (.inr h3)))
  rw[jgU t N (fun k o' hk ho hd'=>jbs C hlt hp ho (by omega))]
  cases hd2:o.dst with
  | none=>exact h1
  | some d =>
   simp_all [Act.put,Array.getD_eq_getD_getElem?,Array.getElem?_setIfInBounds_ne]
 ·exact⟨hG.le,fun k o' hk ho hc=>(hG.cut k o' hk ho hc).trans (jbs C hlt hp ho (by omega)).symm,hG.old,fun k o' hk ho hon=>hG.born k o' hk ho ((jbs C hlt hp ho (by omega)).1 hon),fun k o' hk ho hon=>hG.not k o' hk ho (fun q=>hon ((jbs C hlt hp ho (by omega)).2 q)),hG.none⟩
 ·have:=dg.blk i
  rw[e]at this
  exact this.lt hl
theorem DI.done (R:Run X L st out N s cv) (C:ChkD P X.eqs nt ops L) (D:DI X ops L st N s cv nt ds z1 f1 w1 listed z f a w) (hf1:Free f1 st.h) (hall:∀(k:Nat) (o:RO),L[k]?=some o→On listed o.ix):N=L.length∧Desc z f (s N).h w∧FrOk z f (s N).fr a∧Stp z1 f1 st.h w1 z f (s N).h w∧Free f (s N).h:=by
 obtain⟨T,g,hG,dg,acc⟩:=D.mem
 have hN:L.length≤N:=by
  rcases qat N L.length with q|q
  ·exfalso
   rcases R.fin with⟨e,_⟩|⟨o,G,c,h',e,hs,_⟩
   ·omega
   ·rcases D.small N o e (hall N o e)with h|h
    ·omega
    ·exact jrn h hs
  ·exact q
 have hN2:N≤L.length:=by
  rcases R.fin with⟨e,_⟩|⟨o,G,c,h',e,_⟩
  ·omega
  ·grind
 have l0:st.h.length≤(s N).h.length:=by
  rw[←congrArg St.h R.zero]
  exact R.lens (by omega) (by omega)
 have hle:=hG.le
 have span:∀m,m≤N→∀i,i<(s m).h.length→(s (max T m)).h.get i=(s N).h.get i:=fun m hm i hi=>by
  refine (R.get_span (k:=max T m) (m:=N) (by omega) (by omega) (fun j o h1 h2 h3=>.inl (fun h4=>?_)) (qac hi (R.lens (by omega) (by omega)))).symm
  have:=(hG.cut j o h2 h3 h4).2 (hall j o h3)
  omega
 have same:∀i,i<(s N).h.length→g i=(s N).h.get i:=fun i hi=>by
  rcases R.where i N (qae _)with q|⟨k,h1,h2,h3⟩|q
  ·rw[hG.old i q,←span 0 (by omega) i q,show max T 0=T by omega]
  ·have ho:=List.getElem?_eq_getElem (show k<L.length by omega)
   rw[hG.born k _ h1 ho (hall k _ ho) i h2 h3,span (k+1) (by omega) i h3]
  ·omega
 have free:Free f (s N).h:=fun i hi=>(hG.none i hi).2
 refine⟨by omega,dg.weaken (fun i=>?_),fun t=>?_,acc.stp l0 same free hf1,free⟩
 ·grind [KH.get_ge]
 ·rw[←jk6 R t N (qae _) (fun k o _ ho _=>hall k o ho)]
  exact D.fr t (fun k o h1 h2=>by
   grind)
theorem DI.more (C:ChkD P X.eqs nt ops L) (D:DI X ops L st N s cv nt ds z1 f1 w1 listed z f a w) (hr:Region.ready .any ops listed=[]):∀(k:Nat) (o:RO),L[k]?=some o→On listed o.ix:=by
 intro k
 induction k using Nat.strongRecOn with
 | ind k ih =>
  intro o ho
  by_cases hon:On listed o.ix
  ·exact hon
  ·exfalso
   have hlt:=C.into k o ho
   have hmem:o.ix∈Region.ready .any ops listed:=by
    refine mem_ready.2 ⟨?_,ops[o.ix],Array.getElem?_eq_getElem hlt,fun e he hb=>?_⟩
    ·unfold On at hon
     rw[←D.size]at hlt
     grind
    ·obtain⟨m,o',hm,ho',e2⟩:=C.dep k o _ ho (Array.getElem?_eq_getElem hlt) e he hb
     rw[←e2]
     exact ih m hm o' ho'
   grind
def left (n:Nat) (listed:Array Bool):Nat:=((qav n).filter fun i=>!listed.getD i false).length
theorem jiE {α:Type}{p q:α→Bool}:∀(l:List α),(∀x,q x=true→p x=true)→(∃x,x∈l∧p x=true∧q x=false)→(l.filter q).length<(l.filter p).length
 | [],_,⟨x,hx,_⟩=>by cases hx
 | y::l,h,⟨x,hx,h1,h2⟩=>by
  have le:∀l:List α,(l.filter q).length≤(l.filter p).length:=fun l=>by
   induction l with
   | nil=>grind
   | cons z l ih =>
    grind
  rcases List.mem_cons.1 hx with rfl|hx
  ·grind
  ·have ih:=jiE l h ⟨x,hx,h1,h2⟩
   grind
theorem joO {n i:Nat}(hi:i<n) (hs:listed.size=n) (hf:listed.getD i false=false):left n (listed.setIfInBounds i true)<left n listed:=by
 refine jiE _ (fun x hx=>?_) ⟨i,List.mem_range.2 hi,by rw[hf];rfl,?_⟩
 ·simp only[qan]at hx ⊢
  by_cases e:i=x
  all_goals simp_all
 simp_all
theorem jug (hX:CxOk P X) (R:Run X L st out N s cv) (C:ChkD P X.eqs nt ops L) (hf1:Free f1 st.h)
  (hgo:∀z' f' a' w',out=.go (s N)→EnvOk X.E z'→Desc z' f' (s N).h w'→FrOk z' f' (s N).fr a'→Stp z1 f1 st.h w1 z' f' (s N).h w'→Free f' (s N).h→nt.n≤a'.tmps.size→held nt ds a'→Q .normal a' w')
  (hpan:∀c h' v z' f' a' w',out=.pan c h'→EnvOk X.E z'→VRel z' f' c v→Desc z' f' h' w'→Stp z1 f1 st.h w1 z' f' h' w'→Free f' h'→held nt ds a'→Q (.panic [⟨v,false,false⟩]) a' w') :
  ∀(fuel:Nat) (listed:Array Bool) (z:ZMap) (f:LMap) (a:Act) (w:World),DI X ops L st N s cv nt ds z1 f1 w1 listed z f a w→left ops.size listed≤fuel→wpAny P .any ops Q fuel listed a w:=by
 have fin:∀(listed:Array Bool) (z:ZMap) (f:LMap) (a:Act) (w:World),DI X ops L st N s cv nt ds z1 f1 w1 listed z f a w→(∀(k:Nat) (o:RO),L[k]?=some o→On listed o.ix)→Q .normal a w:=fun listed z f a w D hall=>by
  obtain⟨e1,e2,e3,e4,e5⟩:=D.done R C hf1 hall
  refine hgo z f a w ?_ D.E e2 e3 e4 e5 D.nt D.nil
  rcases R.fin with⟨_,e⟩|⟨o,G,c,h',e,_⟩
  all_goals grind
 intro fuel
 induction fuel with
 | zero =>
  intro listed z f a w D hl
  have hall:∀i,i<ops.size→On listed i:=fun i hi=>by
   by_cases h:On listed i
   ·exact h
   ·exfalso
    have:i∈(qav ops.size).filter fun i=>!listed.getD i false:=List.mem_filter.2 ⟨List.mem_range.2 hi,by
     simp_all [On,false,absurd]⟩
    grind [left,List.length_pos_of_mem]
  refine⟨?_,fin listed z f a w D (fun k o ho=>hall o.ix (C.into k o ho))⟩
  refine List.eq_nil_iff_forall_not_mem.2 (fun i hi=>?_)
  grind [mem_ready,Array.getElem?_eq_some_iff,On]
 | succ fuel ih =>
  intro listed z f a w D hl
  refine⟨fun hr=>fin listed z f a w D (D.more C hr),fun i hi=>?_⟩
  obtain⟨h0,oo,hoo,_⟩:=mem_ready.1 hi
  have hlt:i<ops.size:=(Array.getElem?_eq_some_iff.1 hoo).1
  obtain⟨p,o,hp,rfl⟩:=C.all i hlt
  have hoff:=D.off C hp hi
  rcases qar p N with q|q|q
  ·refine D.step hX R C q hp hi (fun z' f' a' w' D'=>ih _ z' f' a' w' D' ?_)
   have:=joO (n:=ops.size) hlt D.size (by
    grind)
   omega
  ·subst q
   rcases R.fin with⟨e,_⟩|⟨o',G,c,h',e,hs,hG,hlast,hout⟩
   ·grind
   ·rw[hp]at e
    cases e
    exact D.panic hX R C hf1 hp hi hs hG (fun v z' f' w' h1 h2 h3 h4 h5=>hpan c h' v z' f' a w' hout h1 h2 h3 h4 h5 D.nil)
  ·by_cases hz:isZ o=true
   ·refine D.zero hX C q hp hi hz (fun a' w' D'=>ih _ z f a' w' D' ?_)
    have:=joO (n:=ops.size) hlt D.size (by
     grind)
    omega
   rw[Bool.not_eq_true]at hz
   exfalso
   rcases R.fin with⟨e,_⟩|⟨o',G,c,h',e,hs,hG,hlast,hout⟩
   ·grind
   ·have:=D.early C hp hi q e (.inr (.inl ⟨hlast,hz⟩))
    rcases D.small N o' e this with h|h
    ·omega
    ·exact jrn h hs
end
section
variable {P:Program}{X:Cx}{z z0:ZMap}{f f0:LMap}{h0:KH}{w w0:World}{a:Act}{ops:Array Oper}{Q:Exit→Act→World→Prop}{ds:DS}
theorem jpV (hX:CxOk P X) (hm:P.follows .mixedOrders=true){nt:NT}{id:Nat}{L:List RO}{st:St}{G:Prop}{out:Out}(hE:EnvOk X.E z) (hi:Inv z0 f0 h0 w0 nt ds z f st a w) (hfr:Free f st.h) (hc:jk5 P X.eqs nt ops L=true) (hr:runR X (0,[]) L st=some (G,out)) (hG:G)
  (hgo:∀st' z' f' a' w',out=.go st'→EnvOk X.E z'→Inv z0 f0 h0 w0 nt ds z' f' st' a' w'→Free f' st'.h→Q .normal a' w')
  (hpan:∀c h' v z' f' a' w',out=.pan c h'→EnvOk X.E z'→VRel z' f' c v→Desc z' f' h' w'→Stp z0 f0 h0 w0 z' f' h' w'→Free f' h'→held nt ds a'→Q (.panic [⟨v,false,false⟩]) a' w') :
  (Code.region id ops true).wp P Q a w:=by
 obtain⟨N,s,cv,R⟩:=jxM L st G out hr hG
 have C:=chkD hc
 refine wp_region_any hm ?_
 have hd:Desc z f st.h w.drew:=⟨hi.d.blk,hi.d.apart,hi.d.off,hi.d.stays⟩
 have hs0:(s 0).h=st.h:=congrArg St.h R.zero
 have off:∀i,¬On (Array.replicate ops.size false) i:=fun i h=>by
  unfold On at h
  simp[Array.getElem?_replicate]at h
  grind
 have stpD:Stp z f st.h w z f st.h w.drew:=⟨jgK _ _,qae _,fun _ _=>rfl,fun _ _ h=>h,fun i l hi _ hl=>absurd (KH.lt_of_live hl) (by omega),fun _ _ h=>h,fun _ _ h=>.inl h⟩
 refine jug (z1:=z) (f1:=f) (w1:=w.drew) (nt:=nt) (ds:=ds) hX R C hfr (fun z' f' a' w' e h1 h2 h3 h4 h5 h6 h7=>hgo _ z' f' a' w' e h1 ⟨h2,h3,(hi.stp.trans stpD).trans h4,h6,h7⟩ h5)
  (fun c h' v z' f' a' w' e h1 h2 h3 h4 h5 h6=>hpan c h' v z' f' a' w' e h1 h2 h3 ((hi.stp.trans stpD).trans h4) h5 h6) ops.size (Array.replicate ops.size false) z f a w.drew ?_ ?_
 ·refine⟨by simp,fun i j _ h=>absurd h (off j),fun k o _ h=>absurd h (off o.ix),fun t _=>?_,hE,hi.nt,hi.nil,0,st.h.get,⟨by omega,fun k o _ _ _=>⟨fun h=>by omega,fun h=>absurd h (off o.ix)⟩,fun i _=>by rw[hs0],fun k o _ _ h=>absurd h (off o.ix),fun k o hk _ _ i h1 h2=>?_,fun i hi2=>?_⟩,hd,?_⟩
  ·rw[jf6 t 0 N (by omega) (fun k o _ _ _ _ h=>off o.ix h)]
   exact hi.fr t
  ·have:=R.lens (k:=0) (m:=k) (by omega) (by omega)
   rw[hs0]at this
   exact⟨KH.get_ge _ _ (by omega),hfr i (by omega)⟩
  ·have:=R.lens (k:=0) (m:=N) (by omega) (by omega)
   rw[hs0]at this
   exact⟨KH.get_ge _ _ (by omega),hfr i (by omega)⟩
  ·exact⟨Kp.refl _ _,fun _ _=>rfl,fun _ _ h=>h,fun i l h1 _ h2=>absurd (KH.lt_of_live h2) (by omega),fun _ _ h=>h,fun _ _ h=>.inl h⟩
 ·unfold left
  grind
end
end
end
end Go.Proofs.YtienkkicehmchaaGreatDoor
