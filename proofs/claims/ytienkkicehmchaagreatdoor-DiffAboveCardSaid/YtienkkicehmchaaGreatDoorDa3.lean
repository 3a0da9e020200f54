/- Texts of this claim, merged by a program of this claim: ERegion, EDraw, EDraw2, EDraw3, EDraw4, EDraw5, EDraw6. -/
import Derived.Test.YtienkkicehmchaaGreatDoorDa2
import Derived.Orders
namespace Go.Proofs.YtienkkicehmchaaGreatDoor
set_option linter.unusedVariables false
set_option linter.unusedSimpArgs false
section
open Go.RowKit
inductive Res where
 | ret (c:CV)
 | pan (c:CV)
abbrev Con:=List CV→KH→Option (Prop×Res×KH)
structure Cx where
 E:Nat→Option (List CV)
 eqs:List (TypeId×List IntKind)
 G:List (FuncId×Con)
structure St where
 fr:Fr
 h:KH
structure RO where
 ix:Nat
 dst:Option Nat
 gd:Option (Nat×Bool)
 op:LOp
 pure:Bool
 last:Bool
deriving Inhabited
inductive VOut where
 | val (c:CV) (h:KH)
 | pan (c:CV) (h:KH)
def jbY:List (FuncId×Con)→FuncId→Option Con
 | [],_=>none
 | (k,c)::r,F=>if F=k then some c else jbY r F
def jak:Option (Nat×Bool)→Fr→Option Bool
 | none,_=>some true
 | some (g,want),fr=>match fr.get g with
  | .bool b=>if b=want then some true else some false
  | .tup []=>some false
  | _=>none
def jnu:Res→KH→VOut
 | .ret c,h=>.val c h
 | .pan c,h=>.pan c h
def jdT (X:Cx) (F:FuncId) (args:List CV) (h:KH):Option (Prop×VOut) :=
 match jbY X.G F with
 | some c=>(match c args h with
  | some (G,r,h')=>some (G∧h.length≤h'.length,jnu r h')
  | none=>none)
 | none=>none
def opV (X:Cx) (l:LOp) (fr:Fr) (h:KH):Option (Prop×VOut) :=
 match l with
 | .call F xs=>jdT X F (xs.map (Opd.ev fr)) h
 | .callv x xs=>match x.ev fr with
  | .fn F caps=>jdT X F (xs.map (Opd.ev fr)++caps) h
  | .mfn F=>jdT X F (.agg []::xs.map (Opd.ev fr)) h
  | _=>none
 | .panic x=>match x.ev fr with
  | .iface t c=>some (True,.pan (.iface t c) h)
  | _=>none
 | l=>match jac X.E l fr h with
  | some (G,c,h')=>some (G,.val c h')
  | none=>none
def jaz (X:Cx) (o:RO) (fr:Fr) (h:KH):Option (Prop×VOut) :=
 match jak o.gd fr with
 | some true=>opV X o.op fr h
 | some false=>some (True,.val (.tup []) h)
 | none=>none
def putF (fr:Fr) (dst:Option Nat) (c:CV):Fr :=
 match dst with
 | some d=>fr.set d c
 | none=>fr
def EndR (z:ZMap) (f:LMap):Res→Ending→Prop
 | .ret c,.returned v=>VRel z f c v
 | .pan c,.panicked [⟨v,false,false⟩]=>VRel z f c v
 | _,_=>False
def TFx (P:Program) (E:Nat→Option (List CV)) (F:FuncId) (args:List CV) (h:KH) (r:Res) (h':KH):Prop :=
 ∀(z:ZMap) (f:LMap) (w:World) (vs:Array Value),vs.size=args.length→(∀(i:Nat) (c:CV) (v:Value),args[i]?=some c→vs[i]?=some v→VRel z f c v)→EnvOk E z→Desc z f h w →
  (∀i,h.length≤i→i<h'.length→f i=none) →
  Calls P F vs w fun e w'=>∃z' f',EndR z' f' r e∧Desc z' f' h' w'∧Stp z f h w z' f' h' w'
def jfN (P:Program) (E:Nat→Option (List CV)) (F:FuncId) (c:Con):Prop :=
 ∀args h G r h',c args h=some (G,r,h')→G→TFx P E F args h r h'
def jbd (P:Program) (F:FuncId):Bool :=
 match P.funcs[F]? with
 | some fn=>fn.body.isSome && !(fn.name == "runtime.NumGoroutine")
 | none=>false
def GOk (P:Program) (E:Nat→Option (List CV)):List (FuncId×Con)→Prop
 | []=>True
 | (F,c)::r=>(jbd P F=true∧jfN P E F c)∧GOk P E r
structure CxOk (P:Program) (X:Cx):Prop where
 eqs:jkl P X.eqs
 G:GOk P X.E X.G
theorem GOk.find {P:Program}{E:Nat→Option (List CV)}:∀{l:List (FuncId×Con)}{F:FuncId}{c:Con},GOk P E l→jbY l F=some c→jbd P F=true∧jfN P E F c
 | [],_,_,_,h=>by simp[jbY]at h
 | (k,c)::r,F,c',h,hf=>by
  simp only[jbY]at hf
  split at hf
  ·rename_i e
   subst e
   cases hf
   exact h.1
  ·exact GOk.find h.2 hf
def jeW (P:Program) (eqs:List (TypeId×List IntKind)) (op:Op) (l:LOp):Bool :=
 match l with
 | .call F xs=>(match op with
  | .call { callee:=.value (.func F'),args,argTypes:=_ }=>F==F'&&eqOs args.toList xs
  | _=>false)
 | .callv x xs=>(match op with
  | .call { callee:=.value u,args,argTypes:=_ }=>eqO u x&&eqOs args.toList xs
  | _=>false)
 | .panic x=>(match op with
  | .panic u=>eqO u x
  | _=>false)
 | l=>jjn P eqs op l
def jsb (ops:Array Oper):Option (Nat×Bool)→Option (Nat×Bool)→Bool
 | none,none=>true
 | some (j,want),some (g,want')=>want==want'&&((ops[j]?).bind (·.dst))==some g
 | _,_=>false
structure NT where
 n:Nat
 lo:Nat
instance (k:Nat):OfNat NT k:=⟨⟨k,0⟩⟩
structure DS where
 ds:List Deferred
 ks:Nat→Value
def DS.no:DS:=⟨[],fun _=>undef⟩
def held (nt:NT) (ds:DS) (a:Act):Prop:=a.defers=ds.ds∧∀k,k<nt.lo→a.tmps.getD k undef=ds.ks k
def jcn (P:Program) (eqs:List (TypeId×List IntKind)) (nt:NT) (ops:Array Oper) (o:RO):Bool :=
 match ops[o.ix]? with
 | some oo=>oo.dst==o.dst&&(match o.dst with
   | some d=>decide (nt.lo≤d)&&decide (d<nt.n)
   | none=>true)&&jsb ops oo.guard o.gd&&jeW P eqs oo.op o.op
 | none=>false
section
variable {P:Program}{X:Cx}{z:ZMap}{f:LMap}{h h':KH}{w:World}{a:Act}{fr:Fr}{ops:Array Oper}{Q:Exit→Act→World→Prop}{K:Act→World→Prop}{ds:DS}
theorem jc7 (hf:FrOk z f fr a){oo:Oper}{o:RO}{b:Bool}(hg:jsb ops oo.guard o.gd=true) (hb:jak o.gd fr=some b):Region.wanted oo (yielded ops a.tmps)=b:=by
 unfold jsb at hg
 split at hg
 ·rename_i e1 e2
  rw[e2]at hb
  simp only[jak,Option.some.injEq]at hb
  subst hb
  unfold Region.wanted
  rw[e1]
 ·rename_i j want g want' e1 e2
  simp only[Bool.and_eq_true,beq_iff_eq]at hg
  obtain⟨rfl,hj⟩:=hg
  rw[e2]at hb
  simp only[jak]at hb
  have hr:=hf g
  unfold Region.wanted
  rw[e1]
  have hy:yielded ops a.tmps j=match a.tmps[g]? with
    | some (.bool b)=>some b
    | _=>none:=by
   unfold yielded
   rw[hj]
   rfl
  simp only[hy]
  split at hb
  ·rename_i q hq
   rw[hq]at hr
   have hv:a.tmps[g]?=some (.bool q):=by
    generalize hvv:a.tmps.getD g undef=v at hr
    cases hr
    rw[Array.getD_eq_getD_getElem?]at hvv
    cases hx:a.tmps[g]? with
    | none=>rw[hx]at hvv;simp[undef]at hvv
    | some y=>rw[hx]at hvv;simp at hvv;rw[hvv]
   rw[hv]
   split at hb
   ·rename_i e
    cases hb
    simp[e]
   ·rename_i e
    cases hb
    simp[e]
  ·rename_i hq
   cases hb
   rw[hq]at hr
   generalize hvv:a.tmps.getD g undef=v at hr
   have hne:∀b,a.tmps[g]? ≠ some (.bool b):=fun b hx=>by
    rw[Array.getD_eq_getD_getElem?,hx]at hvv
    simp at hvv
    subst hvv
    cases hr
   cases hx:a.tmps[g]? with
   | none=>rfl
   | some y =>
    cases y<;>first|rfl|exact absurd hx (hne _)
  ·cases hb
 ·cases hg
theorem jnv (hf:FrOk z f fr a){xs:Array Operand}{ys:List Opd}(h:eqOs xs.toList ys=true):(xs.map a.eval).size=(ys.map (Opd.ev fr)).length∧∀(i:Nat) (c:CV) (v:Value),(ys.map (Opd.ev fr))[i]?=some c→(xs.map a.eval)[i]?=some v→VRel z f c v:=by
 obtain⟨h1,h2⟩:=jh7 hf h
 exact⟨by simpa using h1,fun i c v hc hv=>h2 i c v hc (by simpa using hv)⟩
theorem jbu {F:FuncId}(hc:jbd P F=true) (args:Array Value) (w:World):(callFunc F args).run P w=.ok (.enter F args) w:=by
 unfold jbd at hc
 split at hc
 ·rename_i fn hfn
  simp only[Bool.and_eq_true,Bool.not_eq_true']at hc
  obtain⟨h1,h2⟩:=hc
  have hnone:fn.body.isNone=false:=by
   cases hb:fn.body<;>simp[hb]at h1 ⊢
  unfold callFunc
  simp only[program,Sem.run_bind,Sem.run,Result.andThen_ok,hfn,h2,hnone,Bool.false_eq_true,if_false]
  rfl
 ·cases hc
theorem jkp (hX:CxOk P X) (hE:EnvOk X.E z) (d:Desc z f h w){oo:Oper}{F:FuncId}{args:List CV}{vs:Array Value}{G:Prop}{out:VOut}(hrun:jbd P F=true→(execOp a.eval oo).run P w=.ok (.enter F vs) w)
  (hs:vs.size=args.length) (hr:∀(i:Nat) (c:CV) (v:Value),args[i]?=some c→vs[i]?=some v→VRel z f c v) (hc:jdT X F args h=some (G,out)) (hG:G)
  (hn:∀c h',(out=.val c h'∨out=.pan c h')→∀i,h.length≤i→i<h'.length→f i=none)
  (hK:∀c h' v w' z' f',out=.val c h'→VRel z' f' c v→Desc z' f' h' w'→Stp z f h w z' f' h' w'→K (a.put oo.dst v) w')
  (hP:∀c h' v w' z' f',out=.pan c h'→VRel z' f' c v→Desc z' f' h' w'→Stp z f h w z' f' h' w'→Q (.panic [⟨v,false,false⟩]) a w'):oo.wp P a w K Q:=by
 unfold jdT at hc
 split at hc
 ·rename_i c hfc
  split at hc
  ·rename_i G' r h' hcc
   simp only[Option.some.injEq,Prod.mk.injEq]at hc
   obtain⟨rfl,rfl⟩:=hc
   obtain⟨hcall,hsound⟩:=GOk.find hX.G hfc
   unfold Oper.wp
   rw[hrun hcall,Oper.upon_enter]
   have hfree:∀i,h.length≤i→i<h'.length→f i=none:=by
    cases r
    ·exact hn _ _ (.inl rfl)
    ·exact hn _ _ (.inr rfl)
   refine (hsound args h G' r h' hcc hG.1 z f w vs hs hr hE d hfree).mono ?_
   rintro e w' ⟨z',f',he,hd,hst⟩
   cases r with
   | ret c =>
    cases e with
    | returned v=>exact hK c h' v w' z' f' rfl he hd hst
    | panicked ch=>exact he.elim
    | outgrown=>exact he.elim
   | pan c =>
    cases e with
    | returned v=>exact he.elim
    | outgrown=>exact he.elim
    | panicked ch =>
     unfold EndR at he
     split at he
     ·rename_i e1 _
      cases e1
     ·rename_i c' v e1 e2
      cases e1
      cases e2
      exact hP _ h' v w' z' f' rfl he hd hst
     ·exact he.elim
  ·cases hc
 ·cases hc
theorem jbZ (l:LOp) (h1:∀F xs,l ≠ .call F xs) (h2:∀x xs,l ≠ .callv x xs) (h3:∀x,l ≠ .panic x) (fr:Fr) (h:KH):opV X l fr h=match jac X.E l fr h with
  | some (G,c,h')=>some (G,.val c h')
  | none=>none:=by
 cases l<;>first|rfl|exact absurd rfl (h1 _ _)|exact absurd rfl (h2 _ _)|exact absurd rfl (h3 _)
theorem jig (l:LOp) (op:Op) (h1:∀F xs,l ≠ .call F xs) (h2:∀x xs,l ≠ .callv x xs) (h3:∀x,l ≠ .panic x):jeW P X.eqs op l=jjn P X.eqs op l:=by
 cases l<;>first|rfl|exact absurd rfl (h1 _ _)|exact absurd rfl (h2 _ _)|exact absurd rfl (h3 _)
theorem jc8 (hX:CxOk P X) (hE:EnvOk X.E z) (d:Desc z f h w) (hf:FrOk z f fr a){nt:NT}{o:RO}{G:Prop}{out:VOut}(hc:jcn P X.eqs nt ops o=true) (hs:jaz X o fr h=some (G,out)) (hG:G)
  (hn:∀c h',(out=.val c h'∨out=.pan c h')→∀i,h.length≤i→i<h'.length→f i=none)
  (hK:∀c h' v w' z' f',out=.val c h'→VRel z' f' c v→Desc z' f' h' w'→Stp z f h w z' f' h' w'→K (a.put o.dst v) w')
  (hP:∀c h' v w' z' f',out=.pan c h'→VRel z' f' c v→Desc z' f' h' w'→Stp z f h w z' f' h' w'→Q (.panic [⟨v,false,false⟩]) a w'):wpOp P ops Q o.ix K a w:=by
 unfold jcn at hc
 unfold wpOp
 split at hc
 ·rename_i oo hoo
  simp only[hoo]
  simp only[Bool.and_eq_true,beq_iff_eq]at hc
  obtain⟨⟨⟨hdst,_⟩,hgd⟩,hop⟩:=hc
  rw[←hdst]at hK
  unfold jaz at hs
  split at hs
  ·rename_i hg
   rw[jc7 hf hgd hg]
   simp only[if_true]
   refine .inl ?_
   obtain⟨dst,op,ty,pos,after,guard⟩:=oo
   simp only at hop hK hdst
   have plain:(∀F xs,o.op ≠ .call F xs)→(∀x xs,o.op ≠ .callv x xs)→(∀x,o.op ≠ .panic x)→Oper.wp P ⟨dst,op,ty,pos,after,guard⟩ a w K Q:=fun h1 h2 h3=>by
    rw[jbZ o.op h1 h2 h3]at hs
    rw[jig o.op op h1 h2 h3]at hop
    split at hs
    ·rename_i G' c h' hx
     simp only[Option.some.injEq,Prod.mk.injEq]at hs
     obtain⟨rfl,rfl⟩:=hs
     obtain⟨v,w',z',f',q1,q2,q3,q4⟩:=jqn hX.eqs hE d hf ⟨dst,op,ty,pos,after,guard⟩ hop hx hG (hn c h' (.inl rfl))
     unfold Oper.wp
     rcases q1 with e|⟨e,rfl⟩
     ·rw[e,Oper.upon_value]
      exact hK c h' v w' z' f' rfl q2 q3 q4
     ·rw[e,Oper.upon_skip]
      exact hK c h' undef w' z' f' rfl q2 q3 q4
    ·cases hs
   cases hl:o.op with
   | call F xs =>
    rw[hl]at hop hs
    simp only[opV]at hs
    simp only[jeW]at hop
    split at hop
    ·rename_i F' args ts
     simp only[Bool.and_eq_true,beq_iff_eq]at hop
     obtain⟨rfl,h2⟩:=hop
     obtain⟨r1,r2⟩:=jnv hf h2
     exact jkp hX hE d (fun hcall=>by
      simp only[execOp,resolve,Act.eval,Deferred.ofValue,Sem.run_bind,Sem.run_pure,Result.andThen_ok,invoke,Array.empty_append,Array.append_empty]
      exact jbu hcall _ _) r1 r2 hs hG hn hK hP
    ·cases hop
   | callv x xs =>
    rw[hl]at hop hs
    simp only[opV]at hs
    simp only[jeW]at hop
    split at hop
    ·rename_i u args ts
     simp only[Bool.and_eq_true]at hop
     obtain⟨h1,h2⟩:=hop
     obtain⟨r1,r2⟩:=jnv hf h2
     have hr:=jai hf h1
     split at hs
     ·rename_i F caps hx
      rw[hx]at hr
      generalize hu:a.eval u=v at hr
      cases hr with
      | fn _ _ cs hcs hcr =>
       refine jkp hX hE d (F:=F) (vs:=args.map a.eval++cs) (args:=xs.map (Opd.ev fr)++caps) (fun hcall=>by
        simp only[execOp,resolve,hu,Deferred.ofValue,Sem.run_bind,Sem.run_pure,Result.andThen_ok,invoke,Array.empty_append]
        exact jbu hcall _ _) (by simp only[Array.size_append,List.length_append,r1,hcs]) (fun i c v hc hv=>?_) hs hG hn hK hP
       rw[List.getElem?_append]at hc
       rw[Array.getElem?_append,r1]at hv
       split at hc
       ·rename_i hlt
        rw[if_pos hlt]at hv
        exact r2 i c v hc hv
       ·rename_i hge
        rw[if_neg hge]at hv
        exact hcr _ c v hc hv
     ·rename_i F hx
      rw[hx]at hr
      generalize hu:a.eval u=v at hr
      cases hr with
      | mfn _ =>
       refine jkp hX hE d (F:=F) (vs:=#[.agg #[]]++args.map a.eval) (args:=.agg []::xs.map (Opd.ev fr)) (fun hcall=>by
        simp only[execOp,resolve,hu,Deferred.ofValue,Sem.run_bind,Sem.run_pure,Result.andThen_ok,invoke,Array.append_empty]
        exact jbu hcall _ _) (by simp only[Array.size_append,List.length_cons,r1];simp;omega) (fun i c v hc hv=>?_) hs hG hn hK hP
       cases i with
       | zero =>
        simp only[List.getElem?_cons_zero,Option.some.injEq]at hc
        rw[Array.getElem?_append,if_pos (by simp)]at hv
        cases hv
        subst hc
        exact .agg [] #[] rfl (fun i c v hc _=>by simp at hc)
       | succ i =>
        rw[List.getElem?_cons_succ]at hc
        rw[Array.getElem?_append,if_neg (by simp)]at hv
        exact r2 i c v hc (by simpa using hv)
     ·cases hs
    ·cases hop
   | panic x =>
    rw[hl]at hop hs
    simp only[opV]at hs
    simp only[jeW]at hop
    split at hop
    ·rename_i u
     have hr:=jai hf hop
     split at hs
     ·rename_i t c hx
      simp only[Option.some.injEq,Prod.mk.injEq]at hs
      obtain⟨rfl,rfl⟩:=hs
      rw[hx]at hr
      generalize hu:a.eval u=v at hr
      cases hr with
      | iface _ _ v hv =>
       unfold Oper.wp
       have:(execOp a.eval ⟨dst,.panic u,ty,pos,after,guard⟩).run P w=.halt (.panic (.iface t v)) w:=by
        simp only[execOp,hu,Instr.panic,goPanic,Sem.run_bind,Sem.run,Result.andThen]
       rw[this,Oper.upon_panic]
       exact hP _ _ _ w z f rfl (.iface t c v hv) d (Stp.refl _ _ _ _)
     ·cases hs
    ·cases hop
   | _=>exact plain (by rw[hl];simp) (by rw[hl];simp) (by rw[hl];simp)
  ·rename_i hg
   rw[jc7 hf hgd hg]
   simp only[Option.some.injEq,Prod.mk.injEq]at hs
   obtain⟨rfl,rfl⟩:=hs
   simp only[Bool.false_eq_true,if_false]
   exact hK _ h undef w z f rfl (jlF z f) d (Stp.refl _ _ _ _)
  ·cases hs
 ·cases hc
end
inductive Out where
 | go (st:St)
 | pan (c:CV) (h:KH)
abbrev RM:=Nat×List Nat
def onL:List Nat→KH→KH→Prop
 | [],_,_=>True
 | b::l,h,h'=>h'.get b=h.get b∧onL l h h'
def jgg (n:RM) (h h':KH):Prop:=h'.take n.1=h.take n.1∧onL n.2 h h'
def rdP (c:CV) (h:KH) (n:RM):RM:=match c with
 | .ptr b _ _=>(n.1,b::n.2)
 | _=>(h.length,n.2)
def rdM (op:LOp) (fr:Fr) (h:KH) (n:RM):RM:=match op with
 | .load _ _ x=>rdP (x.ev fr) h n
 | _=>(h.length,n.2)
def rdB:LOp→Bool
 | .load _ _ _ | .b2s _=>true
 | _=>false
def runR (X:Cx):RM→List RO→St→Option (Prop×Out)
 | _,[],st=>some (True,.go st)
 | n,o::r,st=>match jaz X o st.fr st.h with
  | some (G,.val c h')=>(match runR X (if rdB o.op=true then rdM o.op st.fr st.h n else n) r ⟨putF st.fr o.dst c,h'⟩ with
   | some (G',out)=>some (G∧(o.pure=true→jgg n st.h h')∧G',out)
   | none=>none)
  | some (G,.pan c h')=>if o.last=true then some (G,.pan c h') else none
  | none=>none
structure Inv (z0:ZMap) (f0:LMap) (h0:KH) (w0:World) (n:NT) (ds:DS) (z:ZMap) (f:LMap) (st:St) (a:Act) (w:World):Prop where
 d:Desc z f st.h w
 fr:FrOk z f st.fr a
 stp:Stp z0 f0 h0 w0 z f st.h w
 nt:n.n≤a.tmps.size
 nil:held n ds a
def Free (f:LMap) (h:KH):Prop:=∀i,h.length≤i→f i=none
section
variable {P:Program}{X:Cx}{z z0:ZMap}{f f0:LMap}{h h' h0:KH}{w w' w0:World}{a:Act}{fr:Fr}{ops:Array Oper}{Q:Exit→Act→World→Prop}{K:Act→World→Prop}{ds:DS}
theorem Fr.get_set:∀(fr:Fr) (d n:Nat) (c:CV),(fr.set d c).get n=if n=d then c else fr.get n
 | [],d,n,c=>by simp[Fr.set,Fr.get]
 | (k,x)::r,d,n,c=>by
  simp only[Fr.set]
  split
  ·rename_i e
   subst e
   simp only[Fr.get]
   split<;>rfl
  ·rename_i e
   simp only[Fr.get,Fr.get_set r d n c]
   by_cases h1:n=k
   ·rw[if_pos h1,if_pos h1,if_neg (by omega)]
   ·rw[if_neg h1,if_neg h1]
theorem Fr.get_keep (ks:List Nat):∀(fr:Fr) (n:Nat),(Fr.keep ks fr).get n=if ks.contains n then fr.get n else .undef
 | [],n=>by simp[Fr.keep,Fr.get]
 | (k,x)::r,n=>by
  simp only[Fr.keep]
  split
  ·rename_i e
   simp only[Fr.get,Fr.get_keep ks r n]
   by_cases h1:n=k
   ·subst h1
    rw[if_pos rfl,if_pos e,if_pos rfl]
   ·rw[if_neg h1,if_neg h1]
  ·rename_i e
   simp only[Fr.get,Fr.get_keep ks r n]
   by_cases h1:n=k
   ·subst h1
    rw[if_neg e]
    exact (if_neg e).symm
   ·rw[if_neg h1]
theorem FrOk.put {z':ZMap}{f':LMap}(hf:FrOk z f fr a) (e:Ext z f z' f'){dst:Option Nat}{c:CV}{v:Value}(hv:VRel z' f' c v) (hd:∀d,dst=some d→d<a.tmps.size):FrOk z' f' (putF fr dst c) (a.put dst v):=fun n=>by
 cases dst with
 | none=>exact (hf n).mono e
 | some d =>
  simp only[putF,Act.put,Fr.get_set,Array.getD_eq_getD_getElem?]
  by_cases hn:n=d
  ·subst hn
   rw[if_pos rfl,Array.getElem?_setIfInBounds_self_of_lt (hd n rfl)]
   exact hv
  ·rw[if_neg hn,Array.getElem?_setIfInBounds_ne (by omega),←Array.getD_eq_getD_getElem?]
   exact (hf n).mono e
theorem FrOk.keep (hf:FrOk z f fr a) (ks:List Nat):FrOk z f (Fr.keep ks fr) a:=fun n=>by
 rw[Fr.get_keep]
 split
 ·exact hf n
 ·exact .undef _
theorem jdq (a:Act) (dst:Option Nat) (v:Value):(a.put dst v).tmps.size=a.tmps.size:=by
 cases dst<;>simp[Act.put]
theorem jeX (a:Act) (dst:Option Nat) (v:Value):(a.put dst v).defers=a.defers:=by
 cases dst<;>rfl
theorem jgh {eqs:List (TypeId×List IntKind)}{nt:NT}{o:RO}(hc:jcn P eqs nt ops o=true):∀d,o.dst=some d→d<nt.n:=fun d e=>by
 unfold jcn at hc
 split at hc
 ·simp only[Bool.and_eq_true]at hc
  rw[e]at hc
  have:=hc.1.1.2
  simp at this
  exact this.2
 ·cases hc
theorem jfR {eqs:List (TypeId×List IntKind)}{nt:NT}{o:RO}(hc:jcn P eqs nt ops o=true):∀d,o.dst=some d→nt.lo≤d:=fun d e=>by
 unfold jcn at hc
 split at hc
 ·simp only[Bool.and_eq_true]at hc
  rw[e]at hc
  have:=hc.1.1.2
  simp at this
  exact this.1
 ·cases hc
theorem jfS {nt:NT}{dst:Option Nat}{v:Value}(h:held nt ds a) (hd:∀d,dst=some d→nt.lo≤d):held nt ds (a.put dst v):=⟨by rw[jeX];exact h.1,fun k hk=>by
 cases dst with
 | none=>exact h.2 k hk
 | some d =>
  have:=hd d rfl
  simp only[Act.put,Array.getD_eq_getD_getElem?]
  rw[Array.getElem?_setIfInBounds_ne (by omega),←Array.getD_eq_getD_getElem?]
  exact h.2 k hk⟩
theorem Stp.free {z':ZMap}{f':LMap}(s:Stp z f h w z' f' h' w') (hf:Free f h):Free f' h':=fun i hi=>by
 have:=s.len
 rw[s.old i (.inr hi)]
 exact hf i (by omega)
theorem Stp.ext' {z':ZMap}{f':LMap}(s:Stp z f h w z' f' h' w') (hf:Free f h):Ext z f z' f':=s.ext (fun i hi _=>hf i hi)
end
end
section
open Go.RowKit
def cls:LOp→Nat
 | .load _ _ _ | .b2s _=>1
 | .box _ | .zero _ | .bslice _ _ | .mksl _ _ _ _ | .s2b _ | .rng _=>2
 | .store _ _ _ | .app _ _ _ | .cpy _ _ _ | .nxt _ | .call _ _ | .callv _ _ | .panic _ | .frz _=>3
 | _=>0
def opds:LOp→List Opd
 | .mov x | .box x | .i2s x | .load _ _ x | .nilck x | .cmpN _ _ x | .un _ x | .conv _ _ x | .s2b x | .b2s x | .frz x | .mkif _ x | .sl0 x | .faddr x _ | .field x _ _ _ | .ext x _ | .len _ x | .rng x | .nxt x | .tas _ _ _ x | .panic x | .mkm _ x=>[x]
 | .pick c a b=>[c,a,b]
 | .zero _=>[]
 | .build _ ps=>ps.map fun p=>p.2.2
 | .bslice _ ps=>ps
 | .store _ a v=>[a,v]
 | .ari _ _ x y | .cmp _ x y | .cmpB _ x y | .eqA _ _ x y | .mksl _ _ x y | .ixS _ x y | .ixA _ _ x y | .ixV x y | .ixC _ _ _ x y | .cat x y | .app _ x y | .cpy _ x y | .mm _ x y=>[x,y]
 | .mkfn _ cs=>cs
 | .sl _ _ x lo hi mx=>x::(lo.toList++hi.toList++mx.toList)
 | .call _ xs=>xs
 | .callv x xs=>x::xs
def Opd.slot:Opd→List Nat
 | .t n=>[n]
 | .c _=>[]
def jbE (o:RO):List Nat:=(opds o.op).flatMap Opd.slot++(match o.gd with|some (g,_)=>[g]|none=>[])
theorem jgi {fr fr':Fr}:∀(ps:List (Nat×Nat×Opd)) (z:List CV),(∀p∈ps,p.2.2.ev fr=p.2.2.ev fr')→jdQ fr z ps=jdQ fr' z ps
 | [],z,_=>rfl
 | (off,size,x)::ps,z,h=>by
  have h1:=h (off,size,x) (by simp)
  simp only at h1
  simp only[jdQ,h1]
  rw[jgi ps _ (fun p hp=>h p (by simp[hp]))]
theorem jfy {fr fr':Fr}(t:ETy):∀(ps:List Opd),(∀p∈ps,p.ev fr=p.ev fr')→jbI t fr ps=jbI t fr' ps
 | [],_=>rfl
 | x::ps,h=>by
  have h1:=h x (by simp)
  simp only[jbI,h1]
  rw[jfy t ps (fun p hp=>h p (by simp[hp]))]
theorem jc9 {fr fr':Fr}{ps:List Opd}(h:∀p∈ps,p.ev fr=p.ev fr'):ps.map (Opd.ev fr)=ps.map (Opd.ev fr'):=List.map_congr_left h
theorem jcL {fr fr':Fr}{x:Option Opd}(h:∀p∈x.toList,p.ev fr=p.ev fr'):x.map (Opd.ev fr)=x.map (Opd.ev fr'):=by
 cases x with
 | none=>rfl
 | some x=>simp[h x (by simp)]
theorem jkq (E:Nat→Option (List CV)) (l:LOp){fr fr':Fr}(h:KH) (hx:∀x∈opds l,x.ev fr=x.ev fr'):jac E l fr h=jac E l fr' h:=by
 cases l with
 | build z ps=>simp only[jac,jgi ps z (fun p hp=>hx p.2.2 (List.mem_map.2 ⟨p,hp,rfl⟩))]
 | bslice t ps=>simp only[jac,jfy t ps hx]
 | mkfn F cs=>simp only[jac,jc9 (ps:=cs) hx]
 | sl st esz x lo hi mx =>
  have h1:=hx x (by simp[opds])
  have h2:lo.map (Opd.ev fr)=lo.map (Opd.ev fr'):=jcL (fun p hp=>hx p (by simp only[opds,List.mem_cons,List.mem_append];exact .inr (.inl (.inl hp))))
  have h3:hi.map (Opd.ev fr)=hi.map (Opd.ev fr'):=jcL (fun p hp=>hx p (by simp only[opds,List.mem_cons,List.mem_append];exact .inr (.inl (.inr hp))))
  have h4:mx.map (Opd.ev fr)=mx.map (Opd.ev fr'):=jcL (fun p hp=>hx p (by simp only[opds,List.mem_cons,List.mem_append];exact .inr (.inr hp)))
  simp only[jac,h1,h2,h3,h4]
 | zero cs=>rfl
 | call F xs=>rfl
 | callv x xs=>rfl
 | panic x=>rfl
 | pick c a b =>
  have h1:=hx c (by simp[opds])
  have h2:=hx a (by simp[opds])
  have h3:=hx b (by simp[opds])
  simp only[jac,h1,h2,h3]
 | store n x y =>
  have h1:=hx x (by simp[opds])
  have h2:=hx y (by simp[opds])
  simp only[jac,h1,h2]
 | ari op wr x y =>
  have h1:=hx x (by simp[opds])
  have h2:=hx y (by simp[opds])
  simp only[jac,h1,h2]
 | cmp op x y =>
  have h1:=hx x (by simp[opds])
  have h2:=hx y (by simp[opds])
  simp only[jac,h1,h2]
 | cmpB op x y =>
  have h1:=hx x (by simp[opds])
  have h2:=hx y (by simp[opds])
  simp only[jac,h1,h2]
 | eqA ks op x y =>
  have h1:=hx x (by simp[opds])
  have h2:=hx y (by simp[opds])
  simp only[jac,h1,h2]
 | mksl t b x y =>
  have h1:=hx x (by simp[opds])
  have h2:=hx y (by simp[opds])
  simp only[jac,h1,h2]
 | ixS n x y =>
  have h1:=hx x (by simp[opds])
  have h2:=hx y (by simp[opds])
  simp only[jac,h1,h2]
 | ixA m n x y =>
  have h1:=hx x (by simp[opds])
  have h2:=hx y (by simp[opds])
  simp only[jac,h1,h2]
 | ixV x y =>
  have h1:=hx x (by simp[opds])
  have h2:=hx y (by simp[opds])
  simp only[jac,h1,h2]
 | ixC m n b x y =>
  have h1:=hx x (by simp[opds])
  have h2:=hx y (by simp[opds])
  simp only[jac,h1,h2]
 | cat x y =>
  have h1:=hx x (by simp[opds])
  have h2:=hx y (by simp[opds])
  simp only[jac,h1,h2]
 | i2s x=>simp only[jac,hx x (by simp[opds])]
 | app t x y =>
  have h1:=hx x (by simp[opds])
  have h2:=hx y (by simp[opds])
  simp only[jac,h1,h2]
 | cpy t x y =>
  have h1:=hx x (by simp[opds])
  have h2:=hx y (by simp[opds])
  simp only[jac,h1,h2]
 | mm b x y =>
  have h1:=hx x (by simp[opds])
  have h2:=hx y (by simp[opds])
  simp only[jac,h1,h2]
 | mov x=>simp only[jac,hx x (by simp[opds])]
 | box x=>simp only[jac,hx x (by simp[opds])]
 | load b n x=>simp only[jac,hx x (by simp[opds])]
 | nilck x=>simp only[jac,hx x (by simp[opds])]
 | cmpN k b x=>simp only[jac,hx x (by simp[opds])]
 | un op x=>simp only[jac,hx x (by simp[opds])]
 | conv k b x=>simp only[jac,hx x (by simp[opds])]
 | s2b x=>simp only[jac,hx x (by simp[opds])]
 | b2s x=>simp only[jac,hx x (by simp[opds])]
 | frz x=>simp only[jac,hx x (by simp[opds])]
 | mkif t x=>simp only[jac,hx x (by simp[opds])]
 | mkm t x=>simp only[jac,hx x (by simp[opds])]
 | sl0 x=>simp only[jac,hx x (by simp[opds])]
 | faddr x n=>simp only[jac,hx x (by simp[opds])]
 | field x m n b=>simp only[jac,hx x (by simp[opds])]
 | ext x n=>simp only[jac,hx x (by simp[opds])]
 | len b x=>simp only[jac,hx x (by simp[opds])]
 | rng x=>simp only[jac,hx x (by simp[opds])]
 | nxt x=>simp only[jac,hx x (by simp[opds])]
 | tas t b c x=>simp only[jac,hx x (by simp[opds])]
theorem jnw (X:Cx) (l:LOp){fr fr':Fr}(h:KH) (hx:∀x∈opds l,x.ev fr=x.ev fr'):opV X l fr h=opV X l fr' h:=by
 have hc:=jkq X.E l h hx
 cases l with
 | call F xs=>simp only[opV,jc9 (ps:=xs) hx]
 | callv x xs=>simp only[opV,hx x (by simp[opds]),jc9 (fr:=fr) (fr':=fr') (ps:=xs) (fun p hp=>hx p (by simp[opds,hp]))]
 | panic x=>simp only[opV,hx x (by simp[opds])]
 | _=>simp only[opV,hc]
theorem jkr (X:Cx) (o:RO){fr fr':Fr}(h:KH) (hx:∀t∈jbE o,fr.get t=fr'.get t):jaz X o fr h=jaz X o fr' h:=by
 have hev:∀x∈opds o.op,x.ev fr=x.ev fr':=fun x hx'=>by
  cases x with
  | t n=>exact hx n (by simp only[jbE,List.mem_append,List.mem_flatMap];exact .inl ⟨_,hx',by simp[Opd.slot]⟩)
  | c v=>rfl
 have hg:jak o.gd fr=jak o.gd fr':=by
  cases hgd:o.gd with
  | none=>rfl
  | some p =>
   obtain⟨g,want⟩:=p
   simp only[jak]
   rw[hx g (by simp[jbE,hgd])]
 simp only[jaz,hg,jnw X o.op h hev]
theorem jgj (E : Nat → Option (List CV)) (l : LOp) (hl : cls l = 0) (fr : Fr) (h : KH) : jac E l fr h = (jac E l fr []).map fun p => (p.1, p.2.1, h) := by
  cases l <;> first | (simp [cls] at hl; done) | skip
  all_goals
    simp only [jac, Option.map_map]
  all_goals first
    | rfl
    | (repeat' split
       all_goals first | rfl | (simp only [Option.map_map]; rfl))
    | skip
theorem jeY (E:Nat→Option (List CV)) (l:LOp) (hl:cls l=0){fr:Fr}{h h1:KH}{G:Prop}{c:CV}(hx:jac E l fr h=some (G,c,h1)):h1=h∧∀h2,jac E l fr h2=some (G,c,h2):=by
 rw[jgj E l hl]at hx
 simp only[Option.map_eq_some_iff,Prod.mk.injEq]at hx
 obtain⟨⟨G',c',h'⟩,e1,rfl,rfl,rfl⟩:=hx
 refine⟨rfl,fun h2=>?_⟩
 rw[jgj E l hl,e1]
 rfl
theorem jhF (E:Nat→Option (List CV)) (l:LOp) (hl:cls l=1){fr:Fr}{h h1:KH}{G:Prop}{c:CV}(hx:jac E l fr h=some (G,c,h1)):h1=h:=by
 cases l<;>first|(simp[cls]at hl;done)|skip
 ·simp only[jac]at hx
  split at hx
  ·simp only[Option.map_eq_some_iff,Prod.mk.injEq]at hx
   obtain⟨_,_,_,_,e⟩:=hx
   exact e.symm
  ·cases hx
 ·simp only[jac]at hx
  split at hx
  ·cases hx
   rfl
  ·cases hx
theorem jdU (E : Nat → Option (List CV)) (l : LOp) (hl : cls l = 2) {fr : Fr} {h h1 : KH} {G : Prop} {c : CV} (hx : jac E l fr h = some (G, c, h1)) : ∃ b, h1 = h ++ [b] ∧ ∀ h2 : KH, h2.length = h.length → jac E l fr h2 = some (G, c, h2 ++ [b]) := by
  cases l <;> first | (simp [cls] at hl; done) | skip
  all_goals
    simp only [jac] at hx ⊢
  all_goals first
    | (split at hx
       · rename_i hk
         cases hx
         exact ⟨_, rfl, fun h2 e => by rw [e, if_pos hk]⟩
       · cases hx)
    | (split at hx
       · cases hx
         exact ⟨_, rfl, fun h2 e => by simp only [*]⟩
       · cases hx)
    | (simp only [Option.map_eq_some_iff, Prod.mk.injEq] at hx
       obtain ⟨q, e1, rfl, rfl, rfl⟩ := hx
       exact ⟨_, rfl, fun h2 e => by rw [e1, e]; rfl⟩)
    | (cases hx
       exact ⟨_, rfl, fun h2 e => by rw [e]⟩)
end
section
open Go.RowKit
def Dir (ops:Array Oper) (i j:Nat):Prop:=∃o,ops[j]?=some o∧∃e∈o.after,Region.binds .any e=true∧e.on=i
inductive Reach (ops:Array Oper):Nat→Nat→Prop where
 | one {i j:Nat}(h:Dir ops i j):Reach ops i j
 | more {i k j:Nat}(h:Reach ops i k) (d:Dir ops k j):Reach ops i j
def jmt:List Nat→List Nat
 | []=>[]
 | x::r=>if (jmt r).contains x then jmt r else x::jmt r
theorem jgk {x:Nat}:∀{l:List Nat},x∈jmt l→x∈l
 | [],h=>h
 | y::r,h=>by
  simp only[jmt]at h
  split at h
  ·exact List.mem_cons_of_mem _ (jgk h)
  ·rcases List.mem_cons.1 h with rfl|h
   ·exact List.mem_cons_self
   ·exact List.mem_cons_of_mem _ (jgk h)
def ancs:List Oper→List (List Nat)→List (List Nat)
 | [],acc=>acc
 | o::r,acc=>ancs r (acc++[jmt ((o.after.toList.filter (Region.binds .any)).flatMap fun e=>e.on::acc.getD e.on [])])
theorem jnx {ops:Array Oper}:∀(r pre:List Oper) (acc:List (List Nat)),ops.toList=pre++r→acc.length=pre.length→(∀j i,i∈acc.getD j []→Reach ops i j)→∀j i,i∈(ancs r acc).getD j []→Reach ops i j
 | [],_,_,_,_,h=>h
 | o::r,pre,acc,he,hl,h=>by
  simp only[ancs]
  have hat:ops[pre.length]?=some o:=by
   rw[←Array.getElem?_toList,he]
   simp
  refine jnx r (pre++[o]) _ (by simp[he]) (by simp[hl]) (fun j i hi=>?_)
  rw[List.getD_eq_getElem?_getD,List.getElem?_append]at hi
  split at hi
  ·exact h j i (by rw[List.getD_eq_getElem?_getD];exact hi)
  ·rename_i hge
   cases hk:j-acc.length with
   | zero =>
    have hj:j=pre.length:=by omega
    rw[hk]at hi
    simp only[List.getElem?_cons_zero,Option.getD_some]at hi
    obtain⟨e,he1,he2⟩:=List.mem_flatMap.1 (jgk hi)
    obtain⟨he3,he4⟩:=List.mem_filter.1 he1
    have hd:Dir ops e.on j:=by
     rw[hj]
     exact⟨o,hat,e,by simpa using he3,he4,rfl⟩
    rcases List.mem_cons.1 he2 with rfl|he5
    ·exact .one hd
    ·exact .more (h _ _ he5) hd
   | succ k =>
    rw[hk]at hi
    simp at hi
def jht (oa ob:RO):Bool :=
 (match oa.dst with
  | some d=>(jbE ob).contains d || ob.dst==some d
  | none=>false) ||
 (match ob.dst with
  | some d=>(jbE oa).contains d
  | none=>false)
def jjt (a b:Nat) (pure:Bool):Bool :=
 match a,b with
 | 3,3=>false
 | 3,1=>false
 | 2,3=>false
 | 2,1=>false
 | 1,3=>pure
 | _,_=>true
def isZ (o:RO):Bool :=
 match o.op with
 | .zero _=>o.gd.isNone
 | _=>false
def jny (anc:List (List Nat)) (oa ob:RO):Bool :=
 (anc.getD ob.ix []).contains oa.ix || (!jht oa ob&&(!oa.last || isZ ob)&&jjt (cls oa.op) (cls ob.op) ob.pure)
def jfT (anc:List (List Nat)):List RO→Bool
 | []=>true
 | o::r=>r.all (jny anc o)&&jfT anc r
def jju (ops:Array Oper):List Nat→List RO→Bool
 | _,[]=>true
 | seen,o::r=>(match ops[o.ix]? with
  | some oo=>oo.after.toList.all (fun e=>!Region.binds .any e || seen.contains e.on) && !seen.contains o.ix
  | none=>false)&&jju ops (o.ix::seen) r
def jih (P:Program) (eqs:List (TypeId×List IntKind)) (nt:NT) (ops:Array Oper) (L:List RO):Bool :=
 L.all (jcn P eqs nt ops)&&jju ops [] L&&jfT (ancs ops.toList []) L&&(List.range ops.size).all (fun i=>L.any fun o=>o.ix==i)&&L.length==ops.size
theorem jks {anc:List (List Nat)}(L:List RO):jfT anc L=true→∀(k m:Nat) (o o':RO),k<m→L[k]?=some o→L[m]?=some o'→jny anc o o'=true:=by
 induction L with
 | nil=>intro _ k m o o' _ h1;simp at h1
 | cons q L ih =>
  intro h k m o o' hk h1 h2
  unfold jfT at h
  rw[Bool.and_eq_true,List.all_eq_true]at h
  cases m with
  | zero=>omega
  | succ m =>
   rw[List.getElem?_cons_succ]at h2
   cases k with
   | zero =>
    rw[List.getElem?_cons_zero,Option.some.injEq]at h1
    subst h1
    exact h.1 o' (List.mem_iff_getElem?.2 ⟨m,h2⟩)
   | succ k =>
    rw[List.getElem?_cons_succ]at h1
    exact ih h.2 k m o o' (by omega) h1 h2
theorem jem {ops:Array Oper}:∀{L:List RO}{seen:List Nat},jju ops seen L=true→∀{k:Nat}{o:RO},L[k]?=some o →
  (∀oo,ops[o.ix]?=some oo→∀e∈oo.after,Region.binds .any e=true→e.on∈seen∨∃m o',m<k∧L[m]?=some o'∧o'.ix=e.on)∧o.ix ∉ seen∧∀m o',m<k→L[m]?=some o'→o'.ix≠o.ix
 | [],_,_,k,o,h1=>by simp at h1
 | q::L,seen,h,0,o,h1=>by
  simp only[List.getElem?_cons_zero,Option.some.injEq]at h1
  subst h1
  simp only[jju,Bool.and_eq_true]at h
  refine⟨fun oo hoo e he hb=>?_,?_,fun m o' hm=>by omega⟩
  ·have:=h.1
   rw[hoo]at this
   simp only[Bool.and_eq_true,List.all_eq_true]at this
   have:=this.1 e (by simpa using he)
   simp only[hb,Bool.not_true,Bool.false_or,List.contains_eq_mem,decide_eq_true_eq]at this
   exact .inl this
  ·have:=h.1
   split at this
   ·simp only[Bool.and_eq_true,Bool.not_eq_true',List.contains_eq_mem,decide_eq_false_iff_not]at this
    exact this.2
   ·cases this
 | q::L,seen,h,k+1,o,h1=>by
  simp only[jju,Bool.and_eq_true]at h
  obtain⟨i1,i2,i3⟩:=jem h.2 (show L[k]?=some o by simpa using h1)
  refine⟨fun oo hoo e he hb=>?_,fun hm=>i2 (List.mem_cons_of_mem _ hm),fun m o' hm hl=>?_⟩
  ·rcases i1 oo hoo e he hb with hm|⟨m,o',hm,hl,hx⟩
   ·rcases List.mem_cons.1 hm with e1|e1
    ·exact .inr ⟨0,q,by omega,rfl,e1.symm⟩
    ·exact .inl e1
   ·exact .inr ⟨m+1,o',by omega,by simpa using hl,hx⟩
  ·cases m with
   | zero =>
    simp only[List.getElem?_cons_zero,Option.some.injEq]at hl
    subst hl
    exact fun e=>i2 (e▸List.mem_cons_self)
   | succ m=>exact i3 m o' (by omega) (by simpa using hl)
def rdI (op:LOp) (fr:Fr) (h:KH) (i:Nat):Prop:=match op with
 | .load _ _ x=>(match x.ev fr with
  | .ptr b _ _=>i=b
  | _=>i<h.length)
 | _=>i<h.length
structure Run (X:Cx) (L:List RO) (st:St) (out:Out) (N:Nat) (s:Nat→St) (cv:Nat→CV):Prop where
 zero:s 0=st
 step:∀k,k<N→∃o G,L[k]?=some o∧jaz X o (s k).fr (s k).h=some (G,.val (cv k) (s (k+1)).h)∧G∧(o.pure=true→∀m o',m<k→L[m]?=some o'→rdB o'.op=true→∀i,rdI o'.op (s m).fr (s m).h i→i<(s k).h.length→(s (k+1)).h.get i=(s k).h.get i)∧(s (k+1)).fr=putF (s k).fr o.dst (cv k)
 fin:(N=L.length∧out=.go (s N))∨∃o G c h',L[N]?=some o∧jaz X o (s N).fr (s N).h=some (G,.pan c h')∧G∧o.last=true∧out=.pan c h'
theorem jnz:∀{l:List Nat}{h h':KH}{i:Nat},onL l h h'→i∈l→h'.get i=h.get i
 | _::l,h,h',i,e,hi=>by
  rcases List.mem_cons.1 hi with q|q
  ·subst q
   exact e.1
  ·exact jnz e.2 q
def inM (n:RM) (i:Nat):Prop:=i<n.1∨i∈n.2
theorem jjv {n:RM}{h h':KH}(e:jgg n h h'){i:Nat}(hi:inM n i) (h1:i<h.length) (h2:h.length≤h'.length):h'.get i=h.get i:=by
 rcases hi with hi|hi
 ·replace e:=e.1
  have g:∀k:KH,i<k.length→k.get i=KH.get (k.take n.1) i:=fun k hk=>by
   conv=>lhs;rw[←List.take_append_drop n.1 k]
   rw[KH.get_app,if_pos (by simp;omega)]
  rw[g h' (by omega),g h h1,e]
 ·exact jnz e.2 hi
theorem jtB {c:CV}{h:KH}{n:RM}(hn:n.1≤h.length):(rdP c h n).1≤h.length:=by
 cases c<;>simp[rdP,hn]
theorem jtC {op:LOp}{fr:Fr}{h:KH}{n:RM}(hn:n.1≤h.length):(rdM op fr h n).1≤h.length:=by
 cases op<;>simp only[rdM]<;>first|exact Nat.le_refl _|exact jtB hn
theorem jtD {c:CV}{h:KH}{n:RM}(hn:n.1≤h.length){i:Nat}(hi:inM n i):inM (rdP c h n) i:=by
 rcases hi with q|q
 ·cases c<;>first|exact .inl q|exact .inl (Nat.lt_of_lt_of_le q hn)
 ·cases c<;>first|exact .inr q|exact .inr (List.mem_cons_of_mem _ q)
theorem jtE {op:LOp}{fr:Fr}{h:KH}{n:RM}(hn:n.1≤h.length){i:Nat}(hi:inM n i):inM (rdM op fr h n) i:=by
 have other:inM (h.length,n.2) i:=by
  rcases hi with q|q
  ·exact .inl (Nat.lt_of_lt_of_le q hn)
  ·exact .inr q
 cases op<;>first|exact other|exact jtD hn hi
theorem jsc {op:LOp}{fr:Fr}{h:KH}{n:RM}{i:Nat}(hi:rdI op fr h i):inM (rdM op fr h n) i:=by
 cases op<;>first|exact .inl hi|skip
 rename_i agg k x
 simp only[rdI,rdM]at hi ⊢
 revert hi
 cases x.ev fr<;>intro hi<;>first|exact .inl hi|(exact .inr (hi▸List.mem_cons_self))
theorem jnA (E:Nat→Option (List CV)) (l:LOp){fr:Fr}{h h1:KH}{G:Prop}{c:CV}(hx:jac E l fr h=some (G,c,h1)):h.length≤h1.length:=by
 by_cases c0:cls l=0
 ·rw[(jeY E l c0 hx).1]
  exact Nat.le_refl _
 by_cases c1:cls l=1
 ·rw[jhF E l c1 hx]
  exact Nat.le_refl _
 by_cases c2:cls l=2
 ·obtain⟨b,e,_⟩:=jdU E l c2 hx
  rw[e]
  simp
 cases l with
 | store n a v =>
  simp only[jac]at hx
  split at hx
  ·split at hx
   ·split at hx
    ·cases hx
     rw[KH.put_len]
     exact Nat.le_refl _
    ·cases hx
   ·cases hx
  ·cases hx
 | app t x y =>
  simp only[jac]at hx
  split at hx
  ·cases hx
  ·split at hx
   ·cases hx
    rw[List.length_append,jc6]
    exact Nat.le_add_right _ _
   ·cases hx
 | cpy t x y =>
  simp only[jac]at hx
  split at hx
  ·split at hx
   ·split at hx
    ·cases hx
     rw[KH.put_len]
     exact Nat.le_refl _
    ·cases hx
   ·cases hx
  ·split at hx
   ·cases hx
    exact Nat.le_refl _
   ·cases hx
  ·split at hx
   ·cases hx
    exact Nat.le_refl _
   ·cases hx
  ·cases hx
 | nxt x =>
  simp only[jac]at hx
  split at hx
  ·split at hx
   ·cases hx
    split
    ·rw[KH.put_len]
     exact Nat.le_refl _
    ·exact Nat.le_refl _
   ·cases hx
  ·cases hx
 | frz x =>
  simp only[jac]at hx
  repeat' split at hx
  all_goals first|(cases hx;exact Nat.le_refl _)|(cases hx;done)
 | call F xs=>simp[jac]at hx
 | callv x xs=>simp[jac]at hx
 | panic x=>simp[jac]at hx
 | _=>first|(exfalso;exact c0 rfl)|(exfalso;exact c1 rfl)|(exfalso;exact c2 rfl)
theorem jjw {X:Cx}{o:RO}{fr:Fr}{h h1:KH}{G:Prop}{c:CV}(hx:jaz X o fr h=some (G,.val c h1)) (hG:G):h.length≤h1.length:=by
 unfold jaz at hx
 split at hx
 ·have call:∀F args,jdT X F args h=some (G,.val c h1)→h.length≤h1.length:=fun F args hc=>by
   unfold jdT at hc
   split at hc
   ·split at hc
    ·rename_i G' r h' hcc
     simp only[Option.some.injEq,Prod.mk.injEq]at hc
     obtain⟨rfl,hr⟩:=hc
     cases r with
     | ret q=>cases hr;exact hG.2
     | pan q=>cases hr
    ·cases hc
   ·cases hc
  cases hl:o.op with
  | call F xs=>rw[hl]at hx;exact call _ _ hx
  | callv x xs =>
   rw[hl]at hx
   simp only[opV]at hx
   split at hx
   ·exact call _ _ hx
   ·exact call _ _ hx
   ·cases hx
  | panic x =>
   rw[hl]at hx
   simp only[opV]at hx
   split at hx<;>cases hx
  | _ =>
   rw[hl,jbZ _ (by simp) (by simp) (by simp)]at hx
   split at hx
   ·rename_i e
    cases hx
    exact jnA _ _ e
   ·cases hx
 ·cases hx
  exact Nat.le_refl _
 ·cases hx
theorem jgl {X:Cx}{o:RO}{fr:Fr}{h h1:KH}{G:Prop}{c:CV}(hx:jaz X o fr h=some (G,.val c h1)) (hc:cls o.op≠3):h1=h∨∃b,h1=h++[b]∧cls o.op=2:=by
 unfold jaz at hx
 split at hx
 ·rw[jbZ _ (fun F xs e=>hc (by rw[e];rfl)) (fun x xs e=>hc (by rw[e];rfl)) (fun x e=>hc (by rw[e];rfl))]at hx
  split at hx
  ·rename_i e
   cases hx
   by_cases c0:cls o.op=0
   ·exact .inl (jeY _ _ c0 e).1
   by_cases c1:cls o.op=1
   ·exact .inl (jhF _ _ c1 e)
   by_cases c2:cls o.op=2
   ·obtain⟨b,e2,_⟩:=jdU _ _ c2 e
    exact .inr ⟨b,e2,c2⟩
   ·exfalso
    revert hc c0 c1 c2
    cases o.op<;>simp[cls]
  ·cases hx
 ·cases hx
  exact .inl rfl
 ·cases hx
theorem jnB {X:Cx}:∀(L:List RO) (n:RM) (st:St) (G:Prop) (out:Out),runR X n L st=some (G,out)→G→n.1≤st.h.length→∃N s cv,Run X L st out N s cv∧∀k,k<N→∀o,L[k]?=some o→o.pure=true→∀i,inM n i→i<(s k).h.length→(s (k+1)).h.get i=(s k).h.get i
 | [],n,st,G,out,h,hG,hn=>by
  simp only[runR,Option.some.injEq,Prod.mk.injEq]at h
  obtain⟨_,rfl⟩:=h
  exact⟨0,fun _=>st,fun _=>.undef,⟨rfl,fun k hk=>by omega,.inl ⟨rfl,rfl⟩⟩,fun k hk=>by omega⟩
 | o::L,n,st,G,out,h,hG,hn=>by
  simp only[runR]at h
  split at h
  ·rename_i G1 c1 h1 hs
   split at h
   ·rename_i G2 out' hr
    simp only[Option.some.injEq,Prod.mk.injEq]at h
    obtain⟨rfl,rfl⟩:=h
    have hlen:st.h.length≤h1.length:=jjw hs hG.1
    obtain⟨N,s,cv,⟨r1,r2,r3⟩,r4⟩:=jnB L _ _ G2 out' hr hG.2.2 (by simp only;split<;>first|exact Nat.le_trans (jtC hn) hlen|exact Nat.le_trans hn hlen)
    have first:o.pure=true→∀i,inM n i→i<st.h.length→(s 0).h.get i=st.h.get i:=fun hp i hi hl=>by
     rw[r1]
     exact jjv (hG.2.1 hp) hi hl hlen
    refine⟨N+1,fun k=>match k with|0=>st|k+1=>s k,fun k=>match k with|0=>c1|k+1=>cv k,⟨rfl,fun k hk=>?_,?_⟩,fun k hk o' ho hp i hi hl=>?_⟩
    ·cases k with
     | zero=>exact⟨o,G1,rfl,by simpa[r1] using hs,hG.1,fun _ m _ hm=>by omega,by simp[r1]⟩
     | succ k =>
      obtain⟨o',G',e1,e2,e3,e4,e5⟩:=r2 k (by omega)
      refine⟨o',G',by simpa using e1,e2,e3,fun hp m om hm hom hr i hi hl=>?_,e5⟩
      cases m with
      | zero =>
       simp only[List.getElem?_cons_zero,Option.some.injEq]at hom
       subst hom
       exact r4 k (by omega) o' e1 hp i (by rw[if_pos hr];exact jsc hi) hl
      | succ m=>exact e4 hp m om (by omega) (by simpa using hom) hr i hi hl
    ·rcases r3 with⟨e1,e2⟩|⟨o',G',c',h',e1,e2⟩
     ·exact .inl ⟨by simp[e1],e2⟩
     ·exact .inr ⟨o',G',c',h',by simpa using e1,e2⟩
    ·cases k with
     | zero =>
      simp only[List.getElem?_cons_zero,Option.some.injEq]at ho
      subst ho
      exact first hp i hi hl
     | succ k =>
      refine r4 k (by omega) o' (by simpa using ho) hp i ?_ hl
      split
      ·exact jtE hn hi
      ·exact hi
   ·cases h
  ·rename_i G1 c1 h1 hs
   split at h
   ·rename_i hl
    cases h
    exact⟨0,fun _=>st,fun _=>.undef,⟨rfl,fun k hk=>by omega,.inr ⟨o,_,c1,h1,rfl,hs,hG,hl,rfl⟩⟩,fun k hk=>by omega⟩
   ·cases h
  ·cases h
theorem jtF {X:Cx}(L:List RO) (st:St) (G:Prop) (out:Out) (h:runR X (0,[]) L st=some (G,out)) (hG:G):∃N s cv,Run X L st out N s cv :=
 let ⟨N,s,cv,r,_⟩:=jnB L (0,[]) st G out h hG (Nat.zero_le _)
 ⟨N,s,cv,r⟩
theorem jsd (l:LOp):rdB l=true↔cls l=1:=by
 cases l<;>simp[rdB,cls]
end
section
open Go.RowKit
open Classical in
noncomputable def jda (g:Nat→KB) (h h':KH):Nat→KB:=fun i=>if i<h'.length∧(h.length≤i∨(h.get i).live) then h'.get i else g i
theorem jct {g:Nat→KB}{h h':KH}{i:Nat}(hi:i<h'.length) (hl:h.length≤i∨(h.get i).live):jda g h h' i=h'.get i:=if_pos ⟨hi,hl⟩
theorem jay {g:Nat→KB}{h h':KH}{i:Nat}(hi:¬(i<h'.length∧(h.length≤i∨(h.get i).live))):jda g h h' i=g i:=if_neg hi
theorem jcM {b:KB}(h:¬b.live):b=.dead:=by
 revert h
 cases b<;>simp[KB.live]
theorem DescG.weaken {z:ZMap}{f:LMap}{g g':Nat→KB}{w:World}(d:DescG z f g w) (hg:∀i,g' i=g i∨g' i=.dead):DescG z f g' w:=by
 have live:∀i,(g' i).live→g' i=g i:=fun i hl=>(hg i).resolve_right (fun e=>by rw[e]at hl;exact hl)
 refine⟨fun i=>?_,fun i j li lj ei ej hi hj hne=>d.apart i j li lj ei ej (by rw[←live i hi];exact hi) (by rw[←live j hj];exact hj) hne,fun i l e hl=>d.off i l e (by rw[←live i hl];exact hl),d.stays⟩
 rcases hg i with e|e
 ·rw[e];exact d.blk i
 ·rw[e];cases f i<;>trivial
structure Acc (z1:ZMap) (f1:LMap) (h1:KH) (w1:World) (z:ZMap) (f:LMap) (g:Nat→KB) (w:World):Prop where
 keep:Kp (Mine f1 h1) w1 w
 old:∀i,i<h1.length→f i=f1 i
 liv:∀i,i<h1.length→(g i).live→(h1.get i).live
 new:∀i l,h1.length≤i→f i=some l→(g i).live→w1.heap.size≤l.B∨Mine f1 h1 l.B
 zold:∀B o,z1 B=some o→z B=some o
 znew:∀B o,z B=some o→z1 B=some o∨w1.heap.size≤B∨Mine f1 h1 B
section
variable {z z' z1:ZMap}{f f' f1:LMap}{g:Nat→KB}{h h' h1:KH}{w w' w1:World}
theorem ja7 (dg:DescG z f g w) (d':Desc z' f' h' w') (s:Stp z f h w z' f' h' w') (hsub:∀i,(h.get i).live→g i=h.get i) (hfree:∀i,h.length≤i→i<h'.length→g i=.dead∧f i=none) (acc:Acc z1 f1 h1 w1 z f g w) (hlen:h1.length≤h.length∨h'.length=0) :
  DescG z' f' (jda g h h') w'∧Acc z1 f1 h1 w1 z' f' (jda g h h') w'∧Ext z f z' f':=by
 have ext:=s.ext (fun i h1 h2=>(hfree i h1 h2).2)
 -- a block beside
 have far:∀i,¬(i<h'.length∧(h.length≤i∨(h.get i).live))→(g i).live→f' i=f i∧¬(i<h.length∧(h.get i).live):=fun i hi hl=>by
  refine⟨?_,fun⟨h2,h3⟩=>hi ⟨Nat.lt_of_lt_of_le h2 s.len,.inr h3⟩⟩
  by_cases h2:i<h.length
  ·exact s.old i (.inl h2)
  ·by_cases h3:i<h'.length
   ·exact absurd ⟨h3,.inl (by omega)⟩ hi
   ·exact s.old i (.inr (by omega))
 have notmine:∀i l,¬(i<h'.length∧(h.length≤i∨(h.get i).live))→(g i).live→f i=some l→¬Mine f h l.B:=fun i l hi hl e ⟨j,lj,ej,hj,eb⟩=>by
  have hne:j≠i:=fun e2=>(far i hi hl).2 ⟨KH.lt_of_live (e2▸hj),e2▸hj⟩
  exact dg.apart j i lj l ej e (by rw[hsub j hj];exact hj) hl hne eb
 have small:∀i l,(g i).live→f i=some l→l.B<w.heap.size:=fun i l hl e=>by
  have:=dg.blk i
  rw[e]at this
  exact this.lt hl
 have inLive:∀i,(i<h'.length∧(h.length≤i∨(h.get i).live))→(jda g h h' i).live→(h'.get i).live:=fun i hi hl=>by
  rw[jct hi.1 hi.2]at hl
  exact hl
 refine⟨⟨fun i=>?_,fun i j li lj ei ej hi hj hne=>?_,fun i l e hl=>?_,d'.stays⟩,?_,ext⟩
 ·by_cases hi:i<h'.length∧(h.length≤i∨(h.get i).live)
  ·rw[jct hi.1 hi.2]
   exact d'.blk i
  ·rw[jay hi]
   by_cases hl:(g i).live
   ·have hb:=dg.blk i
    rw[(far i hi hl).1]
    cases e:f i with
    | none =>
     rw[e]at hb
     exact hb.none_any
    | some l =>
     rw[e]at hb
     exact hb.mono ext (s.keep.block l.B (small i l hl e) (notmine i l hi hl e))
   ·rw[jcM hl]
    cases f' i<;>trivial
 ·have key:∀i j li lj,(i<h'.length∧(h.length≤i∨(h.get i).live))→¬(j<h'.length∧(h.length≤j∨(h.get j).live))→f' i=some li→f' j=some lj→(h'.get i).live→(g j).live→li.B≠lj.B:=fun i j li lj hi hj ei ej hil hjl eb=>by
   rw[(far j hj hjl).1]at ej
   rcases s.mine ⟨i,li,ei,hil,rfl⟩ with q|q
   ·have:=small j lj hjl ej
    omega
   ·exact notmine j lj hj hjl ej (eb▸q)
  by_cases hi2:i<h'.length∧(h.length≤i∨(h.get i).live)<;>by_cases hj2:j<h'.length∧(h.length≤j∨(h.get j).live)
  ·exact d'.apart i j li lj ei ej (inLive i hi2 hi) (inLive j hj2 hj) hne
  ·rw[jay hj2]at hj
   exact key i j li lj hi2 hj2 ei ej (inLive i hi2 hi) hj
  ·rw[jay hi2]at hi
   exact fun e=>key j i lj li hj2 hi2 ej ei (inLive j hj2 hj) hi e.symm
  ·rw[jay hi2]at hi
   rw[jay hj2]at hj
   rw[(far i hi2 hi).1]at ei
   rw[(far j hj2 hj).1]at ej
   exact dg.apart i j li lj ei ej hi hj hne
 ·by_cases hi:i<h'.length∧(h.length≤i∨(h.get i).live)
  ·exact d'.off i l e (inLive i hi hl)
  ·rw[jay hi]at hl
   rw[(far i hi hl).1]at e
   cases ez:z' l.B with
   | none=>rfl
   | some o =>
    exfalso
    rcases s.znew _ _ ez with q|q|q
    ·have:=dg.off i l e hl
     rw[this]at q
     cases q
    ·have:=small i l hl e
     omega
    ·exact notmine i l hi hl e q
 ·-- what has become
  have mine1:∀B,Mine f h B→w1.heap.size≤B∨Mine f1 h1 B:=fun B ⟨j,lj,ej,hj,eb⟩=>by
   have hgj:(g j).live:=by rw[hsub j hj];exact hj
   by_cases hj1:j<h1.length
   ·exact .inr ⟨j,lj,(acc.old j hj1).symm.trans ej,acc.liv j hj1 hgj,eb⟩
   ·rw[←eb]
    exact acc.new j lj (by omega) ej hgj
  have hls:=s.len
  refine⟨acc.keep.trans s.keep (fun B hB hlt=>(mine1 B hB).resolve_left (by omega)),fun i hi=>?_,fun i hi hl=>?_,fun i l hi e hl=>?_,fun B o e=>s.zold B o (acc.zold B o e),fun B o e=>?_⟩
  ·rw[←acc.old i hi]
   rcases hlen with q|q
   ·exact s.old i (.inl (by omega))
   ·exact s.old i (.inr (by omega))
  ·by_cases hi2:i<h'.length∧(h.length≤i∨(h.get i).live)
   ·have hl2:=inLive i hi2 hl
    have h3:i<h.length:=by omega
    have h4:=s.liv i h3 hl2
    exact acc.liv i hi (by rw[hsub i h4];exact h4)
   ·rw[jay hi2]at hl
    exact acc.liv i hi hl
  ·by_cases hi2:i<h'.length∧(h.length≤i∨(h.get i).live)
   ·rcases s.mine ⟨i,l,e,inLive i hi2 hl,rfl⟩ with q|q
    ·exact .inl (Nat.le_trans acc.keep.size q)
    ·exact mine1 _ q
   ·rw[jay hi2]at hl
    rw[(far i hi2 hl).1]at e
    exact acc.new i l hi e hl
  ·rcases s.znew B o e with q|q|q
   ·exact acc.znew B o q
   ·exact .inr (.inl (Nat.le_trans acc.keep.size q))
   ·exact .inr (mine1 B q)
end
end
section
open Go.RowKit
structure ChkD (P:Program) (eqs:List (TypeId×List IntKind)) (nt:NT) (ops:Array Oper) (L:List RO):Prop where
 ro:∀(k:Nat) (o:RO),L[k]?=some o→jcn P eqs nt ops o=true
 dep:∀(k:Nat) (o:RO) (oo:Oper),L[k]?=some o→ops[o.ix]?=some oo→∀e∈oo.after,Region.binds .any e=true→∃(m:Nat) (o':RO),m<k∧L[m]?=some o'∧o'.ix=e.on
 inj:∀(k m:Nat) (o o':RO),L[k]?=some o→L[m]?=some o'→o.ix=o'.ix→k=m
 pair:∀(k m:Nat) (o o':RO),k<m→L[k]?=some o→L[m]?=some o'→Reach ops o.ix o'.ix∨(jht o o'=false∧(o.last=false∨isZ o'=true)∧jjt (cls o.op) (cls o'.op) o'.pure=true)
 all:∀i,i<ops.size→∃(k:Nat) (o:RO),L[k]?=some o∧o.ix=i
 into:∀(k:Nat) (o:RO),L[k]?=some o→o.ix<ops.size
theorem chkD {P:Program}{eqs:List (TypeId×List IntKind)}{nt:NT}{ops:Array Oper}{L:List RO}(h:jih P eqs nt ops L=true):ChkD P eqs nt ops L:=by
 unfold jih at h
 simp only[Bool.and_eq_true,List.all_eq_true,List.any_eq_true,List.mem_range,beq_iff_eq]at h
 obtain⟨⟨⟨⟨h1,h2⟩,h3⟩,h4⟩,h5⟩:=h
 refine⟨fun k o hk=>h1 o (List.mem_of_getElem? hk),fun k o oo hk ho e he hb=>?_,fun k m o o' hk hm e=>?_,fun k m o o' hlt hk hm=>?_,fun i hi=>?_,fun k o hk=>?_⟩
 ·rcases (jem h2 hk).1 oo ho e he hb with q|q
  ·simp at q
  ·exact q
 ·rcases Nat.lt_trichotomy k m with q|q|q
  ·exact absurd e ((jem h2 hm).2.2 k o q hk)
  ·exact q
  ·exact absurd e.symm ((jem h2 hk).2.2 m o' q hm)
 ·have:=jks L h3 k m o o' hlt hk hm
  unfold jny at this
  simp only[Bool.or_eq_true,Bool.and_eq_true,Bool.not_eq_true',List.contains_eq_mem,decide_eq_true_eq]at this
  rcases this with q|⟨⟨q1,q2⟩,q3⟩
  ·exact .inl (jnx ops.toList [] [] rfl rfl (fun j i hi=>by simp at hi) _ _ q)
  ·exact .inr ⟨q1,q2,q3⟩
 ·obtain⟨o,ho,e⟩:=h4 i hi
  obtain⟨k,hk⟩:=List.mem_iff_getElem?.1 ho
  exact⟨k,o,hk,e⟩
 ·have:=h1 o (List.mem_of_getElem? hk)
  unfold jcn at this
  split at this
  ·rename_i oo hoo
   exact (Array.getElem?_eq_some_iff.1 hoo).1
  ·cases this
def On (listed:Array Bool) (i:Nat):Prop:=listed.getD i false=true
theorem ja0 {listed:Array Bool}{i j:Nat}(hi:i<listed.size):On (listed.setIfInBounds i true) j↔j=i∨On listed j:=by
 unfold On
 by_cases h:i=j
 ·subst h
  simp[hi]
 ·simp only[Array.getD_eq_getD_getElem?,Array.getElem?_setIfInBounds_ne h]
  constructor
  ·exact .inr
  ·exact fun q=>q.resolve_left (Ne.symm h)
def curV (L:List RO) (listed:Array Bool) (fr:Fr) (cv:Nat→CV):Nat→Nat→CV
 | 0,t=>fr.get t
 | m+1,t=>match L[m]? with
  | some o=>if listed.getD o.ix false=true∧o.dst=some t then cv m else curV L listed fr cv m t
  | none=>curV L listed fr cv m t
theorem jeZ {L:List RO}{l1 l2:Array Bool}{fr:Fr}{cv:Nat→CV}(t:Nat):∀(m:Nat),(∀k o,k<m→L[k]?=some o→o.dst=some t→(On l1 o.ix↔On l2 o.ix))→curV L l1 fr cv m t=curV L l2 fr cv m t
 | 0,_=>rfl
 | m+1,h=>by
  have ih:=jeZ (L:=L) (l1:=l1) (l2:=l2) (fr:=fr) (cv:=cv) t m (fun k o hk=>h k o (by omega))
  simp only[curV]
  cases ho:L[m]? with
  | none=>exact ih
  | some o =>
   simp only
   by_cases hd:o.dst=some t
   ·have hh:=h m o (by omega) ho hd
    unfold On at hh
    by_cases h1:l1.getD o.ix false=true
    ·rw[if_pos ⟨h1,hd⟩,if_pos ⟨hh.1 h1,hd⟩]
    ·rw[if_neg (fun q=>h1 q.1),if_neg (fun q=>h1 (hh.2 q.1)),ih]
   ·rw[if_neg (fun q=>hd q.2),if_neg (fun q=>hd q.2),ih]
theorem jen {L:List RO}{listed:Array Bool}{fr:Fr}{cv:Nat→CV}(t:Nat) (m:Nat):∀(n:Nat),m≤n→(∀k o,m≤k→k<n→L[k]?=some o→o.dst=some t→¬On listed o.ix)→curV L listed fr cv n t=curV L listed fr cv m t
 | 0,hmn,_=>by
  have:m=0:=by omega
  rw[this]
 | n+1,hmn,h=>by
  by_cases e:m=n+1
  ·rw[e]
  ·have ih:=jen (L:=L) (listed:=listed) (fr:=fr) (cv:=cv) t m n (by omega) (fun k o h1 h2=>h k o h1 (by omega))
   simp only[curV]
   cases ho:L[n]? with
   | none=>exact ih
   | some o =>
    simp only
    rw[if_neg (fun q=>h n o (by omega) (by omega) ho q.2 q.1),ih]
section
variable {X:Cx}{L:List RO}{st:St}{out:Out}{N:Nat}{s:Nat→St}{cv:Nat→CV}
theorem ja5 (fr:Fr) (dst:Option Nat) (c:CV) (t:Nat):(putF fr dst c).get t=if dst=some t then c else fr.get t:=by
 cases dst with
 | none=>simp[putF]
 | some d =>
  simp only[putF,Fr.get_set,Option.some.injEq]
  by_cases h:t=d
  ·rw[if_pos h,if_pos h.symm]
  ·rw[if_neg h,if_neg (fun e=>h e.symm)]
theorem jii (R:Run X L st out N s cv){listed:Array Bool}(t:Nat):∀(m:Nat),m≤N→(∀k o,k<m→L[k]?=some o→o.dst=some t→On listed o.ix)→curV L listed st.fr cv m t=(s m).fr.get t
 | 0,_,_=>by
  rw[R.zero]
  rfl
 | m+1,hm,h=>by
  have ih:=jii R (listed:=listed) t m (by omega) (fun k o h1=>h k o (by omega))
  obtain⟨o,G,h1,h2,h3,h4,h5⟩:=R.step m (by omega)
  simp only[curV,h1,h5,ja5]
  by_cases hd:o.dst=some t
  ·rw[if_pos ⟨h m o (by omega) h1 hd,hd⟩,if_pos hd]
  ·rw[if_neg (fun q=>hd q.2),if_neg hd,ih]
theorem Run.len (R:Run X L st out N s cv){k:Nat}(hk:k<N):(s k).h.length≤(s (k+1)).h.length:=by
 obtain⟨o,G,h1,h2,h3,h4,h5⟩:=R.step k hk
 exact jjw h2 h3
theorem Run.lens (R:Run X L st out N s cv){k m:Nat}(hkm:k≤m) (hm:m≤N):(s k).h.length≤(s m).h.length:=by
 induction m with
 | zero =>
  have:k=0:=by omega
  rw[this]
  exact Nat.le_refl _
 | succ m ih =>
  by_cases e:k=m+1
  ·rw[e]
   exact Nat.le_refl _
  ·exact Nat.le_trans (ih (by omega) (by omega)) (R.len (by omega))
theorem Run.get_one (R:Run X L st out N s cv){k:Nat}(hk:k<N){i:Nat}(hc:∀o,L[k]?=some o→cls o.op≠3∨(o.pure=true∧∃m o',m<k∧L[m]?=some o'∧rdB o'.op=true∧rdI o'.op (s m).fr (s m).h i)) (hi:i<(s k).h.length):(s (k+1)).h.get i=(s k).h.get i:=by
 obtain⟨o,G,h1,h2,h3,h4,h5⟩:=R.step k hk
 rcases hc o h1 with q|q
 ·rcases jgl h2 q with e|⟨b,e,_⟩
  ·rw[e]
  ·rw[e,jbJ,if_neg (by omega)]
 ·obtain⟨q1,m,om,q2,q3,q4,q5⟩:=q
  exact h4 q1 m om q2 q3 q4 i q5 hi
theorem Run.get_span (R:Run X L st out N s cv){k m:Nat}(hkm:k≤m) (hm:m≤N){i:Nat}(hc:∀j o,k≤j→j<m→L[j]?=some o→cls o.op≠3∨(o.pure=true∧∃p o',p<j∧L[p]?=some o'∧rdB o'.op=true∧rdI o'.op (s p).fr (s p).h i)) (hi:i<(s k).h.length):(s m).h.get i=(s k).h.get i:=by
 induction m with
 | zero =>
  have:k=0:=by omega
  rw[this]
 | succ m ih =>
  by_cases e:k=m+1
  ·rw[e]
  ·rw[←ih (by omega) (by omega) (fun j o h1 h2=>hc j o h1 (by omega))]
   exact R.get_one (by omega) (fun o ho=>hc m o (by omega) (by omega) ho) (Nat.lt_of_lt_of_le hi (R.lens (by omega) (by omega)))
theorem Run.born (R:Run X L st out N s cv){k:Nat}(hk:k<N){i:Nat}(h1:(s k).h.length≤i) (h2:i<(s (k+1)).h.length):∃o,L[k]?=some o∧(cls o.op=2∨cls o.op=3):=by
 obtain⟨o,G,e1,e2,e3,e4,e5⟩:=R.step k hk
 refine⟨o,e1,?_⟩
 by_cases c:cls o.op=3
 ·exact .inr c
 ·rcases jgl e2 c with e|⟨b,e,c2⟩
  ·rw[e]at h2
   omega
  ·exact .inl c2
theorem Run.where (R:Run X L st out N s cv) (i:Nat):∀m,m≤N→i<(s 0).h.length∨(∃k,k<m∧(s k).h.length≤i∧i<(s (k+1)).h.length)∨(s m).h.length≤i
 | 0,_=>by omega
 | m+1,hm=>by
  rcases Run.where R i m (by omega)with q|⟨k,h1,h2⟩|q
  ·exact .inl q
  ·exact .inr (.inl ⟨k,by omega,h2⟩)
  ·by_cases h:i<(s (m+1)).h.length
   ·exact .inr (.inl ⟨m,by omega,q,h⟩)
   ·exact .inr (.inr (by omega))
end
structure DG (L:List RO) (N:Nat) (s:Nat→St) (listed:Array Bool) (T:Nat) (f:LMap) (g:Nat→KB):Prop where
 le:T≤N
 cut:∀k o,k<N→L[k]?=some o→cls o.op=3→(k<T↔On listed o.ix)
 old:∀i,i<(s 0).h.length→g i=(s T).h.get i
 born:∀k o,k<N→L[k]?=some o→On listed o.ix→∀i,(s k).h.length≤i→i<(s (k+1)).h.length→g i=(s (max T (k+1))).h.get i
 not:∀k o,k<N→L[k]?=some o→¬On listed o.ix→∀i,(s k).h.length≤i→i<(s (k+1)).h.length→g i=.dead∧f i=none
 none:∀i,(s N).h.length≤i→g i=.dead∧f i=none
structure DI (X:Cx) (ops:Array Oper) (L:List RO) (st:St) (N:Nat) (s:Nat→St) (cv:Nat→CV) (m:NT) (ds:DS) (z1:ZMap) (f1:LMap) (w1:World) (listed:Array Bool) (z:ZMap) (f:LMap) (a:Act) (w:World):Prop where
 size:listed.size=ops.size
 closed:∀i j,Dir ops i j→On listed j→On listed i
 small:∀k o,L[k]?=some o→On listed o.ix→k<N∨isZ o=true
 fr:∀t,(∀k o,N≤k→L[k]?=some o→On listed o.ix→o.dst≠some t)→VRel z f (curV L listed st.fr cv N t) (a.tmps.getD t undef)
 E:EnvOk X.E z
 nt:m.n≤a.tmps.size
 nil:held m ds a
 mem:∃T g,DG L N s listed T f g∧DescG z f g w∧Acc z1 f1 st.h w1 z f g w
theorem jlH {ops:Array Oper}{listed:Array Bool}(hc:∀i j,Dir ops i j→On listed j→On listed i){i j:Nat}(h:Reach ops i j):On listed j→On listed i:=by
 induction h with
 | one h=>exact hc _ _ h
 | more h d ih=>exact fun q=>ih (hc _ _ d q)
theorem jkt {ops:Array Oper}{listed:Array Bool}(hc:∀i j,Dir ops i j→On listed j→On listed i){i j:Nat}(hj:j∈Region.ready .any ops listed) (h:Reach ops i j):On listed i:=by
 obtain⟨h0,o,ho,hall⟩:=mem_ready.1 hj
 have dir:∀i,Dir ops i j→On listed i:=fun i ⟨o',ho',e,he,hb,hi⟩=>by
  rw[ho]at ho'
  cases ho'
  exact hi▸hall e he hb
 cases h with
 | one h=>exact dir _ h
 | more h d=>exact jlH hc h (dir _ d)
end
section
open Go.RowKit
theorem jmu {X:Cx}{o:RO}(hl:cls o.op=0){fr:Fr}{h h1:KH}{G:Prop}{c:CV}(hx:jaz X o fr h=some (G,.val c h1)):h1=h∧∀h2,jaz X o fr h2=some (G,.val c h2):=by
 have plain:∀h,opV X o.op fr h=match jac X.E o.op fr h with
  | some (G,c,h')=>some (G,.val c h')
  | none=>none:=fun h=>jbZ _ (fun F xs e=>by rw[e]at hl;cases hl) (fun x xs e=>by rw[e]at hl;cases hl) (fun x e=>by rw[e]at hl;cases hl) fr h
 unfold jaz at hx ⊢
 split at hx
 ·rename_i hg
  rw[plain]at hx
  split at hx
  ·rename_i e
   cases hx
   obtain⟨e1,e2⟩:=jeY _ _ hl e
   refine⟨e1,fun h2=>?_⟩
   simp only[hg,plain,e2 h2]
  ·cases hx
 ·rename_i hg
  cases hx
  exact⟨rfl,fun h2=>by simp only[hg]⟩
 ·cases hx
theorem jhG {X:Cx}{o:RO}(hl:cls o.op=1){fr:Fr}{h h1:KH}{G:Prop}{c:CV}(hx:jaz X o fr h=some (G,.val c h1)):h1=h:=by
 rcases jgl hx (by omega)with e|⟨b,e,c2⟩
 ·exact e
 ·omega
def jgm:KH→Nat→KH
 | [],_=>[]
 | k::h,0=>k::List.replicate h.length .dead
 | _::h,b+1=>.dead::jgm h b
theorem jjx:∀(h:KH) (b:Nat),(jgm h b).length=h.length
 | [],_=>rfl
 | _::h,0=>by simp[jgm]
 | _::h,b+1=>by simp[jgm,jjx h b]
theorem jlI:∀(n i:Nat),KH.get (List.replicate n .dead) i=.dead
 | 0,_=>rfl
 | _+1,0=>rfl
 | n+1,i+1=>jlI n i
theorem jgn:∀(h:KH) (b i:Nat),(jgm h b).get i=if i=b then h.get i else .dead
 | [],b,i=>by simp[jgm,KH.get]
 | k::h,0,0=>rfl
 | k::h,0,i+1=>by simp[jgm,KH.get,jlI]
 | _::h,b+1,0=>by simp[jgm,KH.get]
 | _::h,b+1,i+1=>by simp[jgm,KH.get,jgn h b i]
theorem jmv {X:Cx}{o:RO}(hl:cls o.op=1){fr:Fr}{h h1:KH}{G:Prop}{c:CV}(hx:jaz X o fr h=some (G,.val c h1)) :
  ∃h2:KH,jaz X o fr h2=some (G,.val c h2)∧h2.length=h.length∧∀i,(h2.get i=h.get i∧(i<h.length→rdI o.op fr h i))∨h2.get i=.dead:=by
 have e1:=jhG hl hx
 rw[e1]at hx
 clear e1
 have all:(∀i,i<h.length→rdI o.op fr h i)→∃h2:KH,jaz X o fr h2=some (G,.val c h2)∧h2.length=h.length∧∀i,(h2.get i=h.get i∧(i<h.length→rdI o.op fr h i))∨h2.get i=.dead :=
  fun q=>⟨h,hx,rfl,fun i=>.inl ⟨rfl,q i⟩⟩
 obtain⟨op,hop⟩:∃op,o.op=op:=⟨_,rfl⟩
 cases op<;>first|(rw[hop]at hl;cases hl;done)|skip
 case b2s x=>exact all (fun i hi=>by rw[hop];exact hi)
 case load agg n x =>
  cases hx2:x.ev fr<;>first|(exact all (fun i hi=>by rw[hop];simp only[rdI,hx2];exact hi))|skip
  rename_i b i0 o0
  refine⟨jgm h b,?_,jjx h b,fun i=>?_⟩
  ·have plain:∀h,opV X o.op fr h=match jac X.E o.op fr h with
    | some (G,c,h')=>some (G,.val c h')
    | none=>none:=fun h=>jbZ _ (fun F xs e=>by rw[e]at hl;cases hl) (fun x xs e=>by rw[e]at hl;cases hl) (fun x e=>by rw[e]at hl;cases hl) fr h
   unfold jaz at hx ⊢
   cases hg:jak o.gd fr with
   | none =>
    rw[hg]at hx
    cases hx
   | some t =>
    rw[hg]at hx
    cases t with
    | false =>
     simp only[Option.some.injEq,Prod.mk.injEq,VOut.val.injEq]at hx ⊢
     exact⟨hx.1,hx.2.1,trivial⟩
    | true =>
     simp only at hx ⊢
     rw[plain]at hx ⊢
     rw[hop]at hx ⊢
     simp only[jac,hx2]at hx ⊢
     have hr:jbL X.E (jgm h b) (.ptr b i0 o0)=jbL X.E h (.ptr b i0 o0):=by
      simp only[jbL,jgn,if_pos]
     rw[hr]
     cases hra:jbL X.E h (.ptr b i0 o0)with
     | none =>
      rw[hra]at hx
      cases hx
     | some q =>
      rw[hra]at hx
      obtain⟨G1,r1⟩:=q
      simp only at hx ⊢
      cases hlv:jcI agg n r1 with
      | none =>
       rw[hlv]at hx
       cases hx
      | some c1 =>
       rw[hlv]at hx
       simp only[Option.map_some,Option.some.injEq,Prod.mk.injEq,VOut.val.injEq]at hx ⊢
       exact⟨hx.1,hx.2.1,trivial⟩
  ·rw[jgn]
   by_cases e:i=b
   ·exact .inl ⟨if_pos e,fun _=>by rw[hop];simp only[rdI,hx2];exact e⟩
   ·exact .inr (if_neg e)
theorem jku {X:Cx}{o:RO}(hl:cls o.op=2){fr:Fr}{h h1:KH}{G:Prop}{c:CV}(hx:jaz X o fr h=some (G,.val c h1)) :
  (h1=h∧∀h2,jaz X o fr h2=some (G,.val c h2))∨∃b,h1=h++[b]∧∀h2:KH,h2.length=h.length→jaz X o fr h2=some (G,.val c (h2++[b])):=by
 have plain:∀h,opV X o.op fr h=match jac X.E o.op fr h with
  | some (G,c,h')=>some (G,.val c h')
  | none=>none:=fun h=>jbZ _ (fun F xs e=>by rw[e]at hl;cases hl) (fun x xs e=>by rw[e]at hl;cases hl) (fun x e=>by rw[e]at hl;cases hl) fr h
 unfold jaz at hx ⊢
 split at hx
 ·rename_i hg
  rw[plain]at hx
  split at hx
  ·rename_i e
   cases hx
   obtain⟨b,e1,e2⟩:=jdU _ _ hl e
   refine .inr ⟨b,e1,fun h2 he=>?_⟩
   simp only[hg,plain,e2 h2 he]
  ·cases hx
 ·rename_i hg
  cases hx
  exact .inl ⟨rfl,fun h2=>by simp only[hg]⟩
 ·cases hx
section
variable {P:Program}{X:Cx}{ops:Array Oper}{L:List RO}{st:St}{out:Out}{N:Nat}{s:Nat→St}{cv:Nat→CV}{nt:NT}{ds:DS}{z1 z z':ZMap}{f1 f f':LMap}{w1 w w':World}{listed:Array Bool}{a:Act}
variable {p:Nat}{o:RO}
theorem DI.early (C:ChkD P X.eqs nt ops L) (D:DI X ops L st N s cv nt ds z1 f1 w1 listed z f a w) (hp:L[p]?=some o) (hr:o.ix∈Region.ready .any ops listed){k:Nat}{o':RO}(hk:k<p) (ho:L[k]?=some o')
  (hc:jht o' o=true∨(o'.last=true∧isZ o=false)∨jjt (cls o'.op) (cls o.op) o.pure=false):On listed o'.ix:=by
 rcases C.pair k p o' o hk ho hp with q|⟨q1,q2,q3⟩
 ·exact jkt D.closed hr q
 ·rw[q1,q3]at hc
  rcases q2 with q2|q2<;>rw[q2]at hc<;>simp at hc
theorem DI.late (C:ChkD P X.eqs nt ops L) (D:DI X ops L st N s cv nt ds z1 f1 w1 listed z f a w) (hp:L[p]?=some o) (hr:o.ix∈Region.ready .any ops listed){k:Nat}{o':RO}(hk:p<k) (ho:L[k]?=some o')
  (hc:jht o o'=true∨(o.last=true∧isZ o'=false)∨jjt (cls o.op) (cls o'.op) o'.pure=false):¬On listed o'.ix:=fun hon=>by
 rcases C.pair p k o o' hk hp ho with q|⟨q1,q2,q3⟩
 ·have h1:=jlH D.closed q hon
  obtain⟨h0,_⟩:=mem_ready.1 hr
  have hlt:=C.into p o hp
  unfold On at h1
  rw[←D.size]at hlt
  simp[hlt]at h0 h1
  rw[h0]at h1
  cases h1
 ·rw[q1,q3]at hc
  rcases q2 with q2|q2<;>rw[q2]at hc<;>simp at hc
theorem DI.off (C:ChkD P X.eqs nt ops L) (D:DI X ops L st N s cv nt ds z1 f1 w1 listed z f a w) (hp:L[p]?=some o) (hr:o.ix∈Region.ready .any ops listed):¬On listed o.ix:=fun h1=>by
 obtain⟨h0,_⟩:=mem_ready.1 hr
 have hlt:=C.into p o hp
 unfold On at h1
 rw[←D.size]at hlt
 simp[hlt]at h0 h1
 rw[h0]at h1
 cases h1
theorem jqo {o o':RO}{t:Nat}(hd:o.dst=some t) (ht:t∈jbE o'):jht o o'=true:=by
 simp only[jht,hd,Bool.or_eq_true,List.contains_eq_mem,decide_eq_true_eq]
 exact .inl (.inl ht)
theorem jjy {o o':RO}{t:Nat}(hd:o'.dst=some t) (ht:t∈jbE o):jht o o'=true:=by
 simp only[jht,hd,Bool.or_eq_true,List.contains_eq_mem,decide_eq_true_eq]
 exact .inr ht
theorem jmw {o o':RO}{t:Nat}(hd:o.dst=some t) (hd':o'.dst=some t):jht o o'=true:=by
 simp only[jht,hd,hd',Bool.or_eq_true]
 exact .inl (.inr (by simp))
theorem DI.slot (R:Run X L st out N s cv) (C:ChkD P X.eqs nt ops L) (D:DI X ops L st N s cv nt ds z1 f1 w1 listed z f a w) (hpN:p≤N) (hp:L[p]?=some o) (hr:o.ix∈Region.ready .any ops listed){t:Nat}(ht:t∈jbE o):curV L listed st.fr cv N t=(s p).fr.get t:=by
 rw[jen t p N hpN,jii R t p hpN]
 ·exact fun k o' hk ho hd=>D.early C hp hr hk ho (.inl (jqo hd ht))
 ·intro k o' h1 h2 ho hd
  by_cases e:k=p
  ·subst e
   rw[hp]at ho
   cases ho
   exact D.off C hp hr
  ·exact D.late C hp hr (by omega) ho (.inl (jjy hd ht))
theorem DI.cur (C:ChkD P X.eqs nt ops L) (D:DI X ops L st N s cv nt ds z1 f1 w1 listed z f a w) (hpN:p<N) (hp:L[p]?=some o) (hr:o.ix∈Region.ready .any ops listed) (t:Nat):curV L (listed.setIfInBounds o.ix true) st.fr cv N t=if o.dst=some t then cv p else curV L listed st.fr cv N t:=by
 have hlt:o.ix<listed.size:=by
  rw[D.size]
  exact C.into p o hp
 by_cases hd:o.dst=some t
 ·rw[if_pos hd,jen t (p+1) N (by omega)]
  ·simp only[curV,hp]
   rw[if_pos ⟨(ja0 hlt).2 (.inl rfl),hd⟩]
  ·intro k o' h1 h2 ho hd' hon
   rcases (ja0 hlt).1 hon with e|e
   ·have:=C.inj k p o' o ho hp e
    omega
   ·exact D.late C hp hr (by omega) ho (.inl (jmw hd hd')) e
 ·rw[if_neg hd]
  refine jeZ t N (fun k o' hk ho hd'=>?_)
  rw[ja0 hlt]
  constructor
  ·rintro (e|e)
   ·have:=C.inj k p o' o ho hp e
    subst this
    rw[hp]at ho
    cases ho
    exact absurd hd' hd
   ·exact e
  ·exact .inr
theorem DI.next (C:ChkD P X.eqs nt ops L) (D:DI X ops L st N s cv nt ds z1 f1 w1 listed z f a w) (hpN:p<N) (hp:L[p]?=some o) (hr:o.ix∈Region.ready .any ops listed){v:Value}(ext:Ext z f z' f') (hv:VRel z' f' (cv p) v)
  (hm:∃T g,DG L N s (listed.setIfInBounds o.ix true) T f' g∧DescG z' f' g w'∧Acc z1 f1 st.h w1 z' f' g w'):DI X ops L st N s cv nt ds z1 f1 w1 (listed.setIfInBounds o.ix true) z' f' (a.put o.dst v) w':=by
 have hlt:o.ix<listed.size:=by
  rw[D.size]
  exact C.into p o hp
 refine⟨by simpa using D.size,fun i j hd hon=>?_,fun k o' ho hon=>?_,fun t hnz=>?_,D.E.mono ext,by rw[jdq];exact D.nt,jfS D.nil (jfR (C.ro p o hp)),hm⟩
 ·rcases (ja0 hlt).1 hon with e|e
  ·subst e
   obtain⟨o',ho',q,hq,hb,hi⟩:=hd
   obtain⟨_,o2,ho2,hall⟩:=mem_ready.1 hr
   rw[ho']at ho2
   cases ho2
   exact (ja0 hlt).2 (.inr (hi▸hall q hq hb))
  ·exact (ja0 hlt).2 (.inr (D.closed i j hd e))
 ·rcases (ja0 hlt).1 hon with e|e
  ·have:=C.inj k p o' o ho hp e
   omega
  ·exact D.small k o' ho e
 ·rw[D.cur C hpN hp hr]
  by_cases hd:o.dst=some t
  ·rw[if_pos hd]
   have hdt:=jgh (C.ro p o hp) t hd
   have hnt:=D.nt
   simp only[Act.put,hd,Array.getD_eq_getD_getElem?]
   rw[Array.getElem?_setIfInBounds_self_of_lt (by omega)]
   exact hv
  ·rw[if_neg hd]
   have:=(D.fr t (fun k o' h1 h2 h3=>hnz k o' h1 h2 ((ja0 hlt).2 (.inr h3)))).mono ext
   cases hd2:o.dst with
   | none=>exact this
   | some d =>
    have hne:d≠t:=fun e=>hd (by rw[hd2,e])
    simp only[Act.put,Array.getD_eq_getD_getElem?]
    rw[Array.getElem?_setIfInBounds_ne hne,←Array.getD_eq_getD_getElem?]
    exact this
theorem ja1 {k:Nat}{o':RO}(C:ChkD P X.eqs nt ops L) (hlt:o.ix<listed.size) (hp:L[p]?=some o) (ho:L[k]?=some o') (hk:k≠p):On (listed.setIfInBounds o.ix true) o'.ix↔On listed o'.ix:=by
 rw[ja0 hlt]
 exact⟨fun q=>q.resolve_left (fun e=>hk (C.inj k p o' o ho hp e)),.inr⟩
theorem DG.quiet (C:ChkD P X.eqs nt ops L){T:Nat}{g:Nat→KB}(hlt:o.ix<listed.size) (hpN:p<N) (hp:L[p]?=some o) (G:DG L N s listed T f g) (h3:cls o.op≠3) (hh:(s (p+1)).h=(s p).h):DG L N s (listed.setIfInBounds o.ix true) T f g where
 le:=G.le
 cut:=fun k o' hk ho hc=>by
  by_cases e:k=p
  ·subst e
   rw[hp]at ho
   cases ho
   exact absurd hc h3
  ·rw[ja1 C hlt hp ho e]
   exact G.cut k o' hk ho hc
 old:=G.old
 born:=fun k o' hk ho hon i h1 h2=>by
  by_cases e:k=p
  ·subst e
   rw[hh]at h2
   omega
  ·exact G.born k o' hk ho ((ja1 C hlt hp ho e).1 hon) i h1 h2
 not:=fun k o' hk ho hon i h1 h2=>G.not k o' hk ho (fun q=>hon ((ja0 hlt).2 (.inr q))) i h1 h2
 none:=G.none
theorem jdV {g:Nat→KB}{h:KH}(hs:∀i,(h.get i).live→g i=h.get i) (h0:∀i,h.length≤i→i<h.length→False):jda g h h=g:=by
 funext i
 by_cases hi:i<h.length∧(h.length≤i∨(h.get i).live)
 ·rw[jct hi.1 hi.2]
  exact (hs i (hi.2.resolve_left (by omega))).symm
 ·exact jay hi
theorem jgo (n i:Nat):KH.get (List.replicate n .dead) i=.dead:=by
 induction n generalizing i with
 | zero=>rfl
 | succ n ih =>
  cases i with
  | zero=>rfl
  | succ i=>exact ih i
theorem DI.sees (R:Run X L st out N s cv) (C:ChkD P X.eqs nt ops L) (D:DI X ops L st N s cv nt ds z1 f1 w1 listed z f a w) (hpN:p≤N) (hp:L[p]?=some o) (hr:o.ix∈Region.ready .any ops listed){T:Nat}{g:Nat→KB}(G:DG L N s listed T f g) (hc:cls o.op=1∨cls o.op=3){i:Nat}(hi:i<(s p).h.length) (hq:cls o.op=1→rdI o.op (s p).fr (s p).h i):g i=(s p).h.get i:=by
 -- from the cut to the step,or from the step to the cut,nothing turns what is there
 have gentle:∀j o',(T≤j∧j<p)∨(p≤j∧j<T)→L[j]?=some o'→cls o'.op≠3∨(o'.pure=true∧∃q oq,q<j∧L[q]?=some oq∧rdB oq.op=true∧rdI oq.op (s q).fr (s q).h i):=fun j o' hj ho=>by
  by_cases c:cls o'.op=3
  ·rcases hj with⟨h1,h2⟩|⟨h1,h2⟩
   ·have hon:=D.early C hp hr h2 ho (.inr (.inr (by rw[c];rcases hc with e|e<;>rw[e]<;>rfl)))
    have:=(G.cut j o' (by omega) ho c).2 hon
    omega
   ·have hle:=G.le
    have hon:=(G.cut j o' (by omega) ho c).1 h2
    by_cases e:j=p
    ·subst e
     rw[hp]at ho
     cases ho
     exact absurd hon (D.off C hp hr)
    ·rcases hc with c1|c3
     ·by_cases hpu:o'.pure=true
      ·exact .inr ⟨hpu,p,o,by omega,hp,(jsd _).2 c1,hq c1⟩
      ·exfalso
       refine D.late C hp hr (by omega) ho (.inr (.inr ?_)) hon
       rw[c,c1]
       simpa[jjt] using hpu
     ·exfalso
      refine D.late C hp hr (by omega) ho (.inr (.inr ?_)) hon
      rw[c,c3]
      rfl
  ·exact .inl c
 have hle:=G.le
 have same:∀m,m≤p→i<(s m).h.length→(s (max T m)).h.get i=(s p).h.get i:=fun m hm him=>by
  rcases Nat.lt_or_ge p T with q|q
  ·rw[show max T m=T by omega]
   exact R.get_span (by omega) (by omega) (fun j o' h1 h2=>gentle j o' (.inr ⟨h1,h2⟩)) hi
  ·exact (R.get_span (k:=max T m) (m:=p) (by omega) (by omega) (fun j o' h1 h2=>gentle j o' (.inl ⟨by omega,h2⟩)) (Nat.lt_of_lt_of_le him (R.lens (by omega) (by omega)))).symm
 rcases R.where i p hpN with q|⟨k,h1,h2,h3⟩|q
 ·rw[G.old i q,←same 0 (by omega) q,show max T 0=T by omega]
 ·obtain⟨o',ho,hcl⟩:=R.born (by omega) h2 h3
  have hon:=D.early C hp hr h1 ho (.inr (.inr (by rcases hcl with e|e<;>rw[e]<;>rcases hc with e|e<;>rw[e]<;>rfl)))
  rw[G.born k o' (by omega) ho hon i h2 h3,same (k+1) (by omega) h3]
 ·omega
theorem DG.alloc (R:Run X L st out N s cv) (C:ChkD P X.eqs nt ops L) (D:DI X ops L st N s cv nt ds z1 f1 w1 listed z f a w) (hpN:p<N) (hp:L[p]?=some o) (hr:o.ix∈Region.ready .any ops listed){T:Nat}{g:Nat→KB}(G:DG L N s listed T f g) (h2:cls o.op=2){b:KB}(hh:(s (p+1)).h=(s p).h++[b])
  (hf:∀i,i≠(s p).h.length→f' i=f i):DG L N s (listed.setIfInBounds o.ix true) T f' (jda g (List.replicate (s p).h.length .dead) (List.replicate (s p).h.length .dead++[b])):=by
 have hlt:o.ix<listed.size:=by
  rw[D.size]
  exact C.into p o hp
 have hlen:(s (p+1)).h.length=(s p).h.length+1:=by rw[hh];simp
 have at':∀i,jda g (List.replicate (s p).h.length .dead) (List.replicate (s p).h.length .dead++[b]) i=if i=(s p).h.length then b else g i:=fun i=>by
  by_cases e:i=(s p).h.length
  ·rw[if_pos e,jct (by simp;omega) (.inl (by simp;omega)),jbJ,if_pos (by simpa using e)]
  ·rw[if_neg e,jay]
   rintro⟨h1,h2⟩
   simp only[List.length_append,List.length_replicate,List.length_cons,List.length_nil,jgo]at h1 h2
   rcases h2 with h2|h2
   ·omega
   ·exact h2
 have h0:=R.lens (k:=0) (m:=p) (by omega) (by omega)
 refine⟨G.le,fun k o' hk ho hc=>?_,fun i hi=>?_,fun k o' hk ho hon i q1 q2=>?_,fun k o' hk ho hon i q1 q2=>?_,fun i hi=>?_⟩
 ·by_cases e:k=p
  ·subst e
   rw[hp]at ho
   cases ho
   omega
  ·rw[ja1 C hlt hp ho e]
   exact G.cut k o' hk ho hc
 ·rw[at',if_neg (by omega)]
  exact G.old i hi
 ·by_cases e:k=p
  ·subst e
   have hi:i=(s k).h.length:=by omega
   rw[at',if_pos hi]
   have h1:(s (k+1)).h.get i=b:=by rw[hh,jbJ,if_pos hi]
   rw[←h1]
   have hle:=G.le
   refine (R.get_span (k:=k+1) (m:=max T (k+1)) (by omega) (by omega) (fun j o2 r1 r2 r3=>.inl (fun r4=>?_)) q2).symm
   exact D.late C hp hr (by omega) r3 (.inr (.inr (by rw[h2,r4];rfl))) ((G.cut j o2 (by omega) r3 r4).1 (by omega))
  ·rw[at',if_neg,G.born k o' hk ho ((ja1 C hlt hp ho e).1 hon) i q1 q2]
   intro e2
   rcases Nat.lt_or_gt_of_ne e with q|q
   ·have:=R.lens (k:=k+1) (m:=p) (by omega) (by omega)
    omega
   ·have:=R.lens (k:=p+1) (m:=k) (by omega) (by omega)
    omega
 ·have hne:k≠p:=fun e=>by
   subst e
   rw[hp]at ho
   cases ho
   exact hon ((ja0 hlt).2 (.inl rfl))
  have:i≠(s p).h.length:=by
   intro e2
   rcases Nat.lt_or_gt_of_ne hne with q|q
   ·have:=R.lens (k:=k+1) (m:=p) (by omega) (by omega)
    omega
   ·have:=R.lens (k:=p+1) (m:=k) (by omega) (by omega)
    omega
  rw[at',if_neg this,hf i this]
  exact G.not k o' hk ho (fun q=>hon ((ja0 hlt).2 (.inr q))) i q1 q2
 ·have:=R.lens (k:=p+1) (m:=N) (by omega) (by omega)
  rw[at',if_neg (by omega),hf i (by omega)]
  exact G.none i hi
theorem DG.effect (R:Run X L st out N s cv) (C:ChkD P X.eqs nt ops L) (D:DI X ops L st N s cv nt ds z1 f1 w1 listed z f a w) (hpN:p<N) (hp:L[p]?=some o) (hr:o.ix∈Region.ready .any ops listed){T:Nat}{g:Nat→KB}(G:DG L N s listed T f g) (h3:cls o.op=3)
  (hliv:∀i,i<(s p).h.length→((s (p+1)).h.get i).live→((s p).h.get i).live) (hf:∀i,i<(s p).h.length∨(s (p+1)).h.length≤i→f' i=f i):DG L N s (listed.setIfInBounds o.ix true) (p+1) f' (jda g (s p).h (s (p+1)).h):=by
 have hlt:o.ix<listed.size:=by
  rw[D.size]
  exact C.into p o hp
 have hl1:=R.len hpN
 have inside:∀i,i<(s (p+1)).h.length→jda g (s p).h (s (p+1)).h i=(s (p+1)).h.get i:=fun i hi=>by
  by_cases e:i<(s (p+1)).h.length∧((s p).h.length≤i∨((s p).h.get i).live)
  ·rw[jct e.1 e.2]
  ·rw[jay e]
   have hi2:i<(s p).h.length:=by
    by_cases q:i<(s p).h.length
    ·exact q
    ·exact absurd ⟨hi,.inl (by omega)⟩ e
   have hd:¬((s p).h.get i).live:=fun q=>e ⟨hi,.inr q⟩
   rw[D.sees R C (by omega) hp hr G (.inr h3) hi2 (fun q=>by rw[h3]at q;cases q),jcM hd,jcM (fun q=>hd (hliv i hi2 q))]
 have outside:∀i,(s (p+1)).h.length≤i→jda g (s p).h (s (p+1)).h i=g i:=fun i hi=>jay (by omega)
 have hTp:T≤p:=by
  rcases Nat.lt_or_ge p T with q|q
  ·exact absurd ((G.cut p o hpN hp h3).1 q) (D.off C hp hr)
  ·exact q
 have span0:∀k,k≤p→∀o',L[k]?=some o'→cls o'.op=3→k<p→On listed o'.ix:=fun k hk o' ho hc hlt=>D.early C hp hr hlt ho (.inr (.inr (by rw[hc,h3];rfl)))
 refine⟨by omega,fun k o' hk ho hc=>?_,fun i hi=>?_,fun k o' hk ho hon i q1 q2=>?_,fun k o' hk ho hon i q1 q2=>?_,fun i hi=>?_⟩
 ·by_cases e:k=p
  ·subst e
   rw[hp]at ho
   cases ho
   exact⟨fun _=>(ja0 hlt).2 (.inl rfl),fun _=>by omega⟩
  ·rw[ja1 C hlt hp ho e]
   rcases Nat.lt_or_gt_of_ne e with q|q
   ·exact⟨fun _=>span0 k (by omega) o' ho hc q,fun _=>by omega⟩
   ·exact⟨fun _=>by omega,fun hon=>absurd hon (D.late C hp hr q ho (.inr (.inr (by rw[h3,hc];rfl))))⟩
 ·have:=R.lens (k:=0) (m:=p+1) (by omega) (by omega)
  rw[inside i (by omega)]
 ·by_cases e:k≤p
  ·have:=R.lens (k:=k+1) (m:=p+1) (by omega) (by omega)
   rw[inside i (by omega),show max (p+1) (k+1)=p+1 by omega]
  ·have:=R.lens (k:=p+1) (m:=k) (by omega) (by omega)
   rw[outside i (by omega),G.born k o' hk ho ((ja1 C hlt hp ho (by omega)).1 hon) i q1 q2,show max T (k+1)=k+1 by omega,show max (p+1) (k+1)=k+1 by omega]
 ·have hoff:¬On listed o'.ix:=fun q=>hon ((ja0 hlt).2 (.inr q))
  have hne:k≠p:=fun e=>by
   subst e
   rw[hp]at ho
   cases ho
   exact hon ((ja0 hlt).2 (.inl rfl))
  have hkp:p<k:=by
   rcases Nat.lt_or_gt_of_ne hne with q|q
   ·obtain⟨o2,ho2,hcl⟩:=R.born (by omega) q1 q2
    rw[ho]at ho2
    cases ho2
    exact absurd (D.early C hp hr q ho (.inr (.inr (by rcases hcl with e|e<;>rw[e,h3]<;>rfl)))) hoff
   ·exact q
  have:=R.lens (k:=p+1) (m:=k) (by omega) (by omega)
  rw[outside i (by omega),hf i (.inr (by omega))]
  exact G.not k o' hk ho hoff i q1 q2
 ·have:=R.lens (k:=p+1) (m:=N) (by omega) (by omega)
  rw[outside i (by omega),hf i (.inr (by omega))]
  exact G.none i hi
end
end
section
open Go.RowKit
section
variable {P:Program}{X:Cx}{ops:Array Oper}{L:List RO}{st:St}{out:Out}{N:Nat}{s:Nat→St}{cv:Nat→CV}{nt:NT}{ds:DS}{z1 z z':ZMap}{f1 f f':LMap}{w1 w w':World}{listed:Array Bool}{a:Act}
variable {p:Nat}{o:RO}{Q:Exit→Act→World→Prop}{K:Act→World→Prop}{g0:Nat→KB}
theorem DI.fits (R:Run X L st out N s cv) (C:ChkD P X.eqs nt ops L) (D:DI X ops L st N s cv nt ds z1 f1 w1 listed z f a w) (hpN:p≤N) (hp:L[p]?=some o) (hr:o.ix∈Region.ready .any ops listed):FrOk z f (Fr.keep (jbE o) (s p).fr) a:=fun t=>by
 rw[Fr.get_keep]
 by_cases ht:t∈jbE o
 ·rw[if_pos (by simpa using ht),←D.slot R C hpN hp hr ht]
  refine D.fr t (fun k o' h1 h2 h3 h4=>?_)
  by_cases e:k=p
  ·subst e
   rw[hp]at h2
   cases h2
   exact D.off C hp hr h3
  ·exact D.late C hp hr (by omega) h2 (.inl (jjy h4 ht)) h3
 ·rw[if_neg (by simpa using ht)]
  exact .undef _
theorem DI.same (hx:∀t,t∈jbE o→True) (fr:Fr) (h:KH):jaz X o (Fr.keep (jbE o) fr) h=jaz X o fr h:=jkr X o h (fun t ht=>by rw[Fr.get_keep,if_pos (by simpa using ht)])
theorem DI.look (R:Run X L st out N s cv) (C:ChkD P X.eqs nt ops L) (D:DI X ops L st N s cv nt ds z1 f1 w1 listed z f a w) (hpN:p≤N) (hp:L[p]?=some o) (hr:o.ix∈Region.ready .any ops listed){T:Nat}{g:Nat→KB}(G:DG L N s listed T f g) (hc:cls o.op=3) (d:DescG z f g w):Desc z f (s p).h w :=
 d.weaken (fun i=>by
  by_cases hi:i<(s p).h.length
  ·exact .inl (D.sees R C hpN hp hr G (.inr hc) hi (fun q=>by rw[hc]at q;cases q)).symm
  ·exact .inr (KH.get_ge _ _ (by omega)))
theorem jij (d:DescG z f (fun _=>.dead) w):Desc z f [] w:=by
 have:KH.get []=fun _=>.dead:=by funext i;rfl
 unfold Desc
 rw[this]
 exact d
theorem DI.step (hX:CxOk P X) (R:Run X L st out N s cv) (C:ChkD P X.eqs nt ops L) (D:DI X ops L st N s cv nt ds z1 f1 w1 listed z f a w) (hpN:p<N) (hp:L[p]?=some o) (hr:o.ix∈Region.ready .any ops listed)
  (hK:∀z' f' a' w',DI X ops L st N s cv nt ds z1 f1 w1 (listed.setIfInBounds o.ix true) z' f' a' w'→K a' w'):wpOp P ops Q o.ix K a w:=by
 obtain⟨T,g,hG,dg,acc⟩:=D.mem
 have hlt:o.ix<listed.size:=by
  rw[D.size]
  exact C.into p o hp
 obtain⟨o',G,ho',hs,hGv,hpure,hfr⟩:=R.step p hpN
 rw[hp]at ho'
 cases ho'
 have hfit:=D.fits R C (by omega) hp hr
 rw[←DI.same (fun _ _=>trivial) (s p).fr]at hs
 have l0:st.h.length≤(s p).h.length:=by
  rw[←congrArg St.h R.zero]
  exact R.lens (by omega) (by omega)
 -- what is not born yet
 have unborn:∀i,(s p).h.length≤i→i<(s (p+1)).h.length→g i=.dead∧f i=none:=fun i h1 h2=>hG.not p o hpN hp (D.off C hp hr) i h1 h2
 have four:cls o.op=0∨cls o.op=1∨cls o.op=2∨cls o.op=3:=by
  cases o.op<;>simp[cls]
 have free':Free f (s N).h:=fun i hi=>(hG.none i hi).2
 rcases four with hc|hc|hc|hc
 ·-- values alone
  obtain⟨e1,e2⟩:=jmu hc hs
  have hd:Desc z f [] w:=jij (dg.weaken (fun i=>.inr rfl))
  refine jc8 hX D.E hd hfit (C.ro p o hp) (e2 []) hGv (fun c h' e i h1 h2=>?_) (fun c h' v w' z' f' e hv hd' hst=>?_) (fun c h' v w' z' f' e=>by cases e)
  ·rcases e with e|e<;>cases e
   simp at h2
  ·cases e
   obtain⟨t1,t2,t3⟩:=ja7 dg hd' hst (fun i hi=>by simp[KH.get,KB.live]at hi) (fun i h1 h2=>by simp at h2) acc (.inr rfl)
   rw[jdV (fun i hi=>by simp[KH.get,KB.live]at hi) (fun i h1 h2=>by simp at h2)]at t1 t2
   have hff:f'=f:=funext fun i=>hst.old i (.inr (by simp))
   refine hK z' f' _ w' (D.next C hpN hp hr t3 hv ⟨T,g,?_,t1,t2⟩)
   rw[hff]
   exact hG.quiet C hlt hpN hp (by omega) e1
 ·-- a reading step
  have e1:=jhG hc hs
  rw[DI.same (fun _ _=>trivial) (s p).fr]at hs
  obtain⟨h2,m1,m2,m3⟩:=jmv hc hs
  rw[←DI.same (fun _ _=>trivial) (s p).fr]at m1
  have look:∀i,h2.get i=g i∨h2.get i=.dead:=fun i=>by
   rcases m3 i with⟨q1,q2⟩|q
   ·by_cases hi:i<(s p).h.length
    ·exact .inl (q1.trans (D.sees R C (by omega) hp hr hG (.inl hc) hi (fun _=>q2 hi)).symm)
    ·exact .inr (q1.trans (KH.get_ge _ _ (by omega)))
   ·exact .inr q
  have sub:∀i,(h2.get i).live→g i=h2.get i:=fun i hi=>by
   rcases look i with q|q
   ·exact q.symm
   ·rw[q]at hi
    exact hi.elim
  refine jc8 hX D.E (dg.weaken look) hfit (C.ro p o hp) m1 hGv (fun c h' e i h1 h2=>?_) (fun c h' v w' z' f' e hv hd' hst=>?_) (fun c h' v w' z' f' e=>by cases e)
  ·rcases e with e|e<;>cases e
   omega
  ·cases e
   obtain⟨t1,t2,t3⟩:=ja7 dg hd' hst sub (fun i h1 h2=>by omega) acc (.inl (by rw[m2];exact l0))
   rw[jdV sub (fun i h1 h2=>by omega)]at t1 t2
   have hff:f'=f:=funext fun i=>hst.old i (by omega)
   refine hK z' f' _ w' (D.next C hpN hp hr t3 hv ⟨T,g,?_,t1,t2⟩)
   rw[hff]
   exact hG.quiet C hlt hpN hp (by omega) e1
 ·-- memory is made
  rcases jku hc hs with⟨e1,e2⟩|⟨b,e1,e2⟩
  ·have hd:Desc z f [] w:=jij (dg.weaken (fun i=>.inr rfl))
   refine jc8 hX D.E hd hfit (C.ro p o hp) (e2 []) hGv (fun c h' e i h1 h2=>?_) (fun c h' v w' z' f' e hv hd' hst=>?_) (fun c h' v w' z' f' e=>by cases e)
   ·rcases e with e|e<;>cases e
    simp at h2
   ·cases e
    obtain⟨t1,t2,t3⟩:=ja7 dg hd' hst (fun i hi=>by simp[KH.get,KB.live]at hi) (fun i h1 h2=>by simp at h2) acc (.inr rfl)
    rw[jdV (fun i hi=>by simp[KH.get,KB.live]at hi) (fun i h1 h2=>by simp at h2)]at t1 t2
    have hff:f'=f:=funext fun i=>hst.old i (.inr (by simp))
    refine hK z' f' _ w' (D.next C hpN hp hr t3 hv ⟨T,g,?_,t1,t2⟩)
    rw[hff]
    exact hG.quiet C hlt hpN hp (by omega) e1
  ·have hdl:(List.replicate (s p).h.length KB.dead).length=(s p).h.length:=by simp
   have nolive:∀i,¬(KH.get (List.replicate (s p).h.length .dead) i).live:=fun i=>by
    rw[jgo]
    exact fun h=>h
   have hd:Desc z f (List.replicate (s p).h.length .dead) w:=dg.weaken (fun i=>.inr (jgo _ _))
   have e3:=e2 (List.replicate (s p).h.length .dead) hdl
   have hl1:(s (p+1)).h.length=(s p).h.length+1:=by rw[e1];simp
   refine jc8 hX D.E hd hfit (C.ro p o hp) e3 hGv (fun c h' e i h1 h2=>?_) (fun c h' v w' z' f' e hv hd' hst=>?_) (fun c h' v w' z' f' e=>by cases e)
   ·rcases e with e|e<;>cases e
    simp only[List.length_append,List.length_replicate,List.length_cons,List.length_nil]at h1 h2
    exact (unborn i (by omega) (by omega)).2
   ·cases e
    obtain⟨t1,t2,t3⟩:=ja7 dg hd' hst (fun i hi=>absurd hi (nolive i)) (fun i h1 h2=>by
     simp only[List.length_append,List.length_replicate,List.length_cons,List.length_nil]at h1 h2
     exact unborn i (by omega) (by omega)) acc (.inl (by simpa using l0))
    refine hK z' f' _ w' (D.next C hpN hp hr t3 hv ⟨T,_,?_,t1,t2⟩)
    refine hG.alloc R C D hpN hp hr hc e1 (fun i hi=>hst.old i ?_)
    simp only[List.length_append,List.length_replicate,List.length_cons,List.length_nil]
    omega
 ·-- an effect
  have sub:∀i,((s p).h.get i).live→g i=(s p).h.get i:=fun i hi=>D.sees R C (by omega) hp hr hG (.inr hc) (KH.lt_of_live hi) (fun q=>by rw[hc]at q;cases q)
  refine jc8 hX D.E (D.look R C (by omega) hp hr hG hc dg) hfit (C.ro p o hp) hs hGv (fun c h' e i h1 h2=>?_) (fun c h' v w' z' f' e hv hd' hst=>?_) (fun c h' v w' z' f' e=>by cases e)
  ·rcases e with e|e<;>cases e
   exact (unborn i h1 h2).2
  ·cases e
   obtain⟨t1,t2,t3⟩:=ja7 dg hd' hst sub (fun i h1 h2=>unborn i h1 h2) acc (.inl l0)
   exact hK z' f' _ w' (D.next C hpN hp hr t3 hv ⟨p+1,_,hG.effect R C D hpN hp hr hc hst.liv hst.old,t1,t2⟩)
theorem Acc.stp {h1 h:KH}{g:Nat→KB}(acc:Acc z1 f1 h1 w1 z f g w) (hl:h1.length≤h.length) (hg:∀i,i<h.length→g i=h.get i) (hf:∀i,h.length≤i→f i=none) (hf1:Free f1 h1):Stp z1 f1 h1 w1 z f h w where
 keep:=acc.keep
 len:=hl
 old:=fun i hi=>by
  rcases hi with q|q
  ·exact acc.old i q
  ·rw[hf i q,hf1 i (by omega)]
 liv:=fun i hi hli=>acc.liv i hi (by rw[hg i (by omega)];exact hli)
 new:=fun i l hi e hli=>acc.new i l hi e (by rw[hg i (KH.lt_of_live hli)];exact hli)
 zold:=acc.zold
 znew:=acc.znew
theorem DI.panic (hX:CxOk P X) (R:Run X L st out N s cv) (C:ChkD P X.eqs nt ops L) (D:DI X ops L st N s cv nt ds z1 f1 w1 listed z f a w) (hf1:Free f1 st.h) (hp:L[N]?=some o) (hr:o.ix∈Region.ready .any ops listed)
  {G:Prop}{c:CV}{h':KH}(hs:jaz X o (s N).fr (s N).h=some (G,.pan c h')) (hGv:G)
  (hP:∀v z' f' w',EnvOk X.E z'→VRel z' f' c v→Desc z' f' h' w'→Stp z1 f1 st.h w1 z' f' h' w'→Free f' h'→Q (.panic [⟨v,false,false⟩]) a w'):wpOp P ops Q o.ix K a w:=by
 obtain⟨T,g,hG,dg,acc⟩:=D.mem
 have hfit:=D.fits R C (Nat.le_refl _) hp hr
 rw[←DI.same (fun _ _=>trivial) (s N).fr]at hs
 have l0:st.h.length≤(s N).h.length:=by
  rw[←congrArg St.h R.zero]
  exact R.lens (by omega) (by omega)
 have hc:cls o.op=3:=by
  by_cases c3:cls o.op=3
  ·exact c3
  ·exfalso
   unfold jaz at hs
   split at hs
   ·rw[jbZ _ (fun F xs e=>c3 (by rw[e];rfl)) (fun x xs e=>c3 (by rw[e];rfl)) (fun x e=>c3 (by rw[e];rfl))]at hs
    split at hs<;>cases hs
   ·cases hs
   ·cases hs
 have free:∀i,(s N).h.length≤i→g i=.dead∧f i=none:=hG.none
 have sub:∀i,((s N).h.get i).live→g i=(s N).h.get i:=fun i hi=>D.sees R C (by omega) hp hr hG (.inr hc) (KH.lt_of_live hi) (fun q=>by rw[hc]at q;cases q)
 refine jc8 hX D.E (D.look R C (by omega) hp hr hG hc dg) hfit (C.ro N o hp) hs hGv (fun c h' e i h1 h2=>(free i h1).2) (fun c h' v w' z' f' e=>by cases e) (fun c h' v w' z' f' e hv hd' hst=>?_)
 cases e
 obtain⟨t1,t2,t3⟩:=ja7 dg hd' hst sub (fun i h1 h2=>free i h1) acc (.inl l0)
 have hfree:∀i,h'.length≤i→f' i=none:=fun i hi=>by
  rw[hst.old i (.inr hi)]
  exact (free i (Nat.le_trans hst.len hi)).2
 refine hP v z' f' w' (D.E.mono t3) hv hd' (t2.stp (Nat.le_trans l0 hst.len) (fun i hi=>?_) hfree hf1) hfree
 by_cases e:i<h'.length∧((s N).h.length≤i∨((s N).h.get i).live)
 ·exact jct e.1 e.2
 ·rw[jay e]
  have hi2:i<(s N).h.length:=by
   by_cases q:i<(s N).h.length
   ·exact q
   ·exact absurd ⟨hi,.inl (by omega)⟩ e
  have hdd:¬((s N).h.get i).live:=fun q=>e ⟨hi,.inr q⟩
  rw[D.sees R C (by omega) hp hr hG (.inr hc) hi2 (fun q=>by rw[hc]at q;cases q),jcM hdd,jcM (fun q=>hdd (hst.liv i hi2 q))]
theorem jnC {o:RO}{fr:Fr}{h h':KH}{G:Prop}{c:CV}(hz:isZ o=true) (hs:jaz X o fr h=some (G,.pan c h')):False:=by
 unfold isZ at hz
 split at hz
 ·rename_i cs e
  unfold jaz at hs
  rw[e]at hs
  split at hs
  ·cases hs
  ·cases hs
  ·cases hs
 ·cases hz
theorem DescG.world (d:DescG z f g0 w) (hb:∀i l,f i=some l→(g0 i).live→w'.heap[l.B]?=w.heap[l.B]?) (hz:∀B o,z B=some o→w'.heap[B]?=w.heap[B]?):DescG z f g0 w' where
 blk:=fun i=>by
  cases e:f i with
  | none =>
   have:=d.blk i
   rw[e]at this
   exact this.none_any
  | some l =>
   have hd:=d.blk i
   rw[e]at hd
   by_cases hl:(g0 i).live
   ·exact hd.mono (Ext.refl _ _) (hb i l e hl)
   ·have:g0 i=.dead:=by
     revert hl
     cases g0 i<;>simp[KB.live]
    rw[this]
    trivial
 apart:=d.apart
 off:=d.off
 stays:=fun B o e=>(hz B o e).trans (d.stays B o e)
theorem DI.zero (hX:CxOk P X) (C:ChkD P X.eqs nt ops L) (D:DI X ops L st N s cv nt ds z1 f1 w1 listed z f a w) (hpN:N<p) (hp:L[p]?=some o) (hr:o.ix∈Region.ready .any ops listed) (hz:isZ o=true)
  (hK:∀a' w',DI X ops L st N s cv nt ds z1 f1 w1 (listed.setIfInBounds o.ix true) z f a' w'→K a' w'):wpOp P ops Q o.ix K a w:=by
 obtain⟨T,g,hG,dg,acc⟩:=D.mem
 have hlt:o.ix<listed.size:=by
  rw[D.size]
  exact C.into p o hp
 have hd:Desc z f [] w:=jij (dg.weaken (fun i=>.inr rfl))
 obtain⟨b,hs⟩:∃b,jaz X o [] []=some (True,.val (.ptr 0 0 0) [b]):=by
  unfold isZ at hz
  split at hz
  ·rename_i cs e
   refine⟨.box cs,?_⟩
   unfold jaz
   rw[e]
   cases hgd:o.gd with
   | none=>rfl
   | some q=>rw[hgd]at hz;cases hz
  ·cases hz
 have hd0:Desc z (fun _=>none) [] w:=⟨fun i=>(by rw[KH.get_ge [] i (Nat.zero_le _)];trivial),fun i j li lj e=>(by cases e),fun i l e=>(by cases e),dg.stays⟩
 refine jc8 hX D.E hd0 (fr:=[]) (fun n=>.undef _) (C.ro p o hp) hs trivial (fun c h' e i h1 h2=>rfl) (fun c h' v w' z' f' e hv hd' hst=>?_) (fun c h' v w' z' f' e=>by cases e)
 have none:∀B,¬Mine (fun _=>none) [] B:=fun B ⟨j,l,e,_⟩=>by cases e
 have keep:∀i,i<w.heap.size→w'.heap[i]?=w.heap[i]?:=fun i hi=>hst.keep.block i hi (none i)
 refine hK _ w' ⟨by simpa using D.size,fun i j hdr hon=>?_,fun k o' ho hon=>?_,fun t hnz=>?_,D.E,by rw[jdq];exact D.nt,jfS D.nil (jfR (C.ro p o hp)),T,g,?_,dg.world (fun i l e hl=>keep _ ?_) (fun B o e=>keep _ (Array.getElem?_eq_some_iff.1 (dg.stays B o e)).1),⟨acc.keep.trans hst.keep (fun g hg=>absurd hg (none g)),acc.old,acc.liv,acc.new,acc.zold,acc.znew⟩⟩
 ·rcases (ja0 hlt).1 hon with e|e
  ·subst e
   obtain⟨o',ho',q,hq,hb,hi⟩:=hdr
   obtain⟨_,o2,ho2,hall⟩:=mem_ready.1 hr
   rw[ho']at ho2
   cases ho2
   exact (ja0 hlt).2 (.inr (hi▸hall q hq hb))
  ·exact (ja0 hlt).2 (.inr (D.closed i j hdr e))
 ·rcases (ja0 hlt).1 hon with e|e
  ·have:=C.inj k p o' o ho hp e
   subst this
   rw[hp]at ho
   cases ho
   exact .inr hz
  ·exact D.small k o' ho e
 ·have hd1:o.dst≠some t:=hnz p o (by omega) hp ((ja0 hlt).2 (.inl rfl))
  have h1:=D.fr t (fun k o' h1 h2 h3=>hnz k o' h1 h2 ((ja0 hlt).2 (.inr h3)))
  rw[jeZ t N (fun k o' hk ho hd'=>ja1 C hlt hp ho (by omega))]
  cases hd2:o.dst with
  | none=>exact h1
  | some d =>
   have hne:d≠t:=fun e=>hd1 (by rw[hd2,e])
   simp only[Act.put,Array.getD_eq_getD_getElem?]
   rw[Array.getElem?_setIfInBounds_ne hne,←Array.getD_eq_getD_getElem?]
   exact h1
 ·exact⟨hG.le,fun k o' hk ho hc=>(hG.cut k o' hk ho hc).trans (ja1 C hlt hp ho (by omega)).symm,hG.old,fun k o' hk ho hon=>hG.born k o' hk ho ((ja1 C hlt hp ho (by omega)).1 hon),fun k o' hk ho hon=>hG.not k o' hk ho (fun q=>hon ((ja1 C hlt hp ho (by omega)).2 q)),hG.none⟩
 ·have:=dg.blk i
  rw[e]at this
  exact this.lt hl
theorem DI.done (R:Run X L st out N s cv) (C:ChkD P X.eqs nt ops L) (D:DI X ops L st N s cv nt ds z1 f1 w1 listed z f a w) (hf1:Free f1 st.h) (hall:∀(k:Nat) (o:RO),L[k]?=some o→On listed o.ix):N=L.length∧Desc z f (s N).h w∧FrOk z f (s N).fr a∧Stp z1 f1 st.h w1 z f (s N).h w∧Free f (s N).h:=by
 obtain⟨T,g,hG,dg,acc⟩:=D.mem
 have hN:L.length≤N:=by
  rcases Nat.lt_or_ge N L.length with q|q
  ·exfalso
   rcases R.fin with⟨e,_⟩|⟨o,G,c,h',e,hs,_⟩
   ·omega
   ·rcases D.small N o e (hall N o e)with h|h
    ·omega
    ·exact jnC h hs
  ·exact q
 have hN2:N≤L.length:=by
  rcases R.fin with⟨e,_⟩|⟨o,G,c,h',e,_⟩
  ·omega
  ·have:=(List.getElem?_eq_some_iff.1 e).1
   omega
 have l0:st.h.length≤(s N).h.length:=by
  rw[←congrArg St.h R.zero]
  exact R.lens (by omega) (by omega)
 have hle:=hG.le
 have span:∀m,m≤N→∀i,i<(s m).h.length→(s (max T m)).h.get i=(s N).h.get i:=fun m hm i hi=>by
  refine (R.get_span (k:=max T m) (m:=N) (by omega) (by omega) (fun j o h1 h2 h3=>.inl (fun h4=>?_)) (Nat.lt_of_lt_of_le hi (R.lens (by omega) (by omega)))).symm
  have:=(hG.cut j o h2 h3 h4).2 (hall j o h3)
  omega
 have same:∀i,i<(s N).h.length→g i=(s N).h.get i:=fun i hi=>by
  rcases R.where i N (Nat.le_refl _)with q|⟨k,h1,h2,h3⟩|q
  ·rw[hG.old i q,←span 0 (by omega) i q,show max T 0=T by omega]
  ·have ho:=List.getElem?_eq_getElem (show k<L.length by omega)
   rw[hG.born k _ h1 ho (hall k _ ho) i h2 h3,span (k+1) (by omega) i h3]
  ·omega
 have free:Free f (s N).h:=fun i hi=>(hG.none i hi).2
 refine⟨by omega,dg.weaken (fun i=>?_),fun t=>?_,acc.stp l0 same free hf1,free⟩
 ·by_cases hi:i<(s N).h.length
  ·exact .inl (same i hi).symm
  ·exact .inr (KH.get_ge _ _ (by omega))
 ·rw[←jii R t N (Nat.le_refl _) (fun k o _ ho _=>hall k o ho)]
  exact D.fr t (fun k o h1 h2=>by
   have:=(List.getElem?_eq_some_iff.1 h2).1
   omega)
theorem DI.more (C:ChkD P X.eqs nt ops L) (D:DI X ops L st N s cv nt ds z1 f1 w1 listed z f a w) (hr:Region.ready .any ops listed=[]):∀(k:Nat) (o:RO),L[k]?=some o→On listed o.ix:=by
 intro k
 induction k using Nat.strongRecOn with
 | ind k ih =>
  intro o ho
  by_cases hon:On listed o.ix
  ·exact hon
  ·exfalso
   have hlt:=C.into k o ho
   have hmem:o.ix∈Region.ready .any ops listed:=by
    refine mem_ready.2 ⟨?_,ops[o.ix],Array.getElem?_eq_getElem hlt,fun e he hb=>?_⟩
    ·unfold On at hon
     rw[←D.size]at hlt
     simpa[hlt] using hon
    ·obtain⟨m,o',hm,ho',e2⟩:=C.dep k o _ ho (Array.getElem?_eq_getElem hlt) e he hb
     rw[←e2]
     exact ih m hm o' ho'
   rw[hr]at hmem
   cases hmem
def left (n:Nat) (listed:Array Bool):Nat:=((List.range n).filter fun i=>!listed.getD i false).length
theorem jgp {α:Type}{p q:α→Bool}:∀(l:List α),(∀x,q x=true→p x=true)→(∃x,x∈l∧p x=true∧q x=false)→(l.filter q).length<(l.filter p).length
 | [],_,⟨x,hx,_⟩=>by cases hx
 | y::l,h,⟨x,hx,h1,h2⟩=>by
  have le:∀l:List α,(l.filter q).length≤(l.filter p).length:=fun l=>by
   induction l with
   | nil=>exact Nat.le_refl _
   | cons z l ih =>
    by_cases hq:q z=true
    ·rw[List.filter_cons_of_pos hq,List.filter_cons_of_pos (h z hq)]
     simpa using ih
    ·rw[List.filter_cons_of_neg hq]
     by_cases hp:p z=true
     ·rw[List.filter_cons_of_pos hp]
      simp only[List.length_cons]
      omega
     ·rw[List.filter_cons_of_neg hp]
      exact ih
  rcases List.mem_cons.1 hx with rfl|hx
  ·rw[List.filter_cons_of_neg (by rw[h2];simp),List.filter_cons_of_pos h1]
   have:=le l
   simp only[List.length_cons]
   omega
  ·have ih:=jgp l h ⟨x,hx,h1,h2⟩
   by_cases hq:q y=true
   ·rw[List.filter_cons_of_pos hq,List.filter_cons_of_pos (h y hq)]
    simpa using ih
   ·rw[List.filter_cons_of_neg hq]
    by_cases hp:p y=true
    ·rw[List.filter_cons_of_pos hp]
     simp only[List.length_cons]
     omega
    ·rw[List.filter_cons_of_neg hp]
     exact ih
theorem jlJ {n i:Nat}(hi:i<n) (hs:listed.size=n) (hf:listed.getD i false=false):left n (listed.setIfInBounds i true)<left n listed:=by
 refine jgp _ (fun x hx=>?_) ⟨i,List.mem_range.2 hi,by rw[hf];rfl,?_⟩
 ·simp only[Bool.not_eq_true']at hx ⊢
  by_cases e:i=x
  ·rw[←e]
   exact hf
  ·rw[getD_set_ne false e]at hx
   exact hx
 ·simp[show i<listed.size by omega]
theorem jqp (hX:CxOk P X) (R:Run X L st out N s cv) (C:ChkD P X.eqs nt ops L) (hf1:Free f1 st.h)
  (hgo:∀z' f' a' w',out=.go (s N)→EnvOk X.E z'→Desc z' f' (s N).h w'→FrOk z' f' (s N).fr a'→Stp z1 f1 st.h w1 z' f' (s N).h w'→Free f' (s N).h→nt.n≤a'.tmps.size→held nt ds a'→Q .normal a' w')
  (hpan:∀c h' v z' f' a' w',out=.pan c h'→EnvOk X.E z'→VRel z' f' c v→Desc z' f' h' w'→Stp z1 f1 st.h w1 z' f' h' w'→Free f' h'→held nt ds a'→Q (.panic [⟨v,false,false⟩]) a' w') :
  ∀(fuel:Nat) (listed:Array Bool) (z:ZMap) (f:LMap) (a:Act) (w:World),DI X ops L st N s cv nt ds z1 f1 w1 listed z f a w→left ops.size listed≤fuel→wpAny P .any ops Q fuel listed a w:=by
 have fin:∀(listed:Array Bool) (z:ZMap) (f:LMap) (a:Act) (w:World),DI X ops L st N s cv nt ds z1 f1 w1 listed z f a w→(∀(k:Nat) (o:RO),L[k]?=some o→On listed o.ix)→Q .normal a w:=fun listed z f a w D hall=>by
  obtain⟨e1,e2,e3,e4,e5⟩:=D.done R C hf1 hall
  refine hgo z f a w ?_ D.E e2 e3 e4 e5 D.nt D.nil
  rcases R.fin with⟨_,e⟩|⟨o,G,c,h',e,_⟩
  ·exact e
  ·have:=(List.getElem?_eq_some_iff.1 e).1
   omega
 intro fuel
 induction fuel with
 | zero =>
  intro listed z f a w D hl
  have hall:∀i,i<ops.size→On listed i:=fun i hi=>by
   by_cases h:On listed i
   ·exact h
   ·exfalso
    have:i∈(List.range ops.size).filter fun i=>!listed.getD i false:=List.mem_filter.2 ⟨List.mem_range.2 hi,by
     unfold On at h
     cases hh:listed.getD i false
     ·rfl
     ·exact absurd hh h⟩
    unfold left at hl
    have:=List.length_pos_of_mem this
    omega
  refine⟨?_,fin listed z f a w D (fun k o ho=>hall o.ix (C.into k o ho))⟩
  refine List.eq_nil_iff_forall_not_mem.2 (fun i hi=>?_)
  obtain⟨h0,o,ho,_⟩:=mem_ready.1 hi
  have hlt:i<ops.size:=(Array.getElem?_eq_some_iff.1 ho).1
  have:=hall i hlt
  unfold On at this
  rw[←D.size]at hlt
  simp[hlt]at h0 this
  rw[h0]at this
  cases this
 | succ fuel ih =>
  intro listed z f a w D hl
  refine⟨fun hr=>fin listed z f a w D (D.more C hr),fun i hi=>?_⟩
  obtain⟨h0,oo,hoo,_⟩:=mem_ready.1 hi
  have hlt:i<ops.size:=(Array.getElem?_eq_some_iff.1 hoo).1
  obtain⟨p,o,hp,rfl⟩:=C.all i hlt
  have hoff:=D.off C hp hi
  rcases Nat.lt_trichotomy p N with q|q|q
  ·refine D.step hX R C q hp hi (fun z' f' a' w' D'=>ih _ z' f' a' w' D' ?_)
   have:=jlJ (n:=ops.size) hlt D.size (by
    unfold On at hoff
    simpa using hoff)
   omega
  ·subst q
   rcases R.fin with⟨e,_⟩|⟨o',G,c,h',e,hs,hG,hlast,hout⟩
   ·have:=(List.getElem?_eq_some_iff.1 hp).1
    omega
   ·rw[hp]at e
    cases e
    exact D.panic hX R C hf1 hp hi hs hG (fun v z' f' w' h1 h2 h3 h4 h5=>hpan c h' v z' f' a w' hout h1 h2 h3 h4 h5 D.nil)
  ·by_cases hz:isZ o=true
   ·refine D.zero hX C q hp hi hz (fun a' w' D'=>ih _ z f a' w' D' ?_)
    have:=jlJ (n:=ops.size) hlt D.size (by
     unfold On at hoff
     simpa using hoff)
    omega
   rw[Bool.not_eq_true]at hz
   exfalso
   rcases R.fin with⟨e,_⟩|⟨o',G,c,h',e,hs,hG,hlast,hout⟩
   ·have:=(List.getElem?_eq_some_iff.1 hp).1
    omega
   ·have:=D.early C hp hi q e (.inr (.inl ⟨hlast,hz⟩))
    rcases D.small N o' e this with h|h
    ·omega
    ·exact jnC h hs
end
section
variable {P:Program}{X:Cx}{z z0:ZMap}{f f0:LMap}{h0:KH}{w w0:World}{a:Act}{ops:Array Oper}{Q:Exit→Act→World→Prop}{ds:DS}
theorem jmx (hX:CxOk P X) (hm:P.follows .mixedOrders=true){nt:NT}{id:Nat}{L:List RO}{st:St}{G:Prop}{out:Out}(hE:EnvOk X.E z) (hi:Inv z0 f0 h0 w0 nt ds z f st a w) (hfr:Free f st.h) (hc:jih P X.eqs nt ops L=true) (hr:runR X (0,[]) L st=some (G,out)) (hG:G)
  (hgo:∀st' z' f' a' w',out=.go st'→EnvOk X.E z'→Inv z0 f0 h0 w0 nt ds z' f' st' a' w'→Free f' st'.h→Q .normal a' w')
  (hpan:∀c h' v z' f' a' w',out=.pan c h'→EnvOk X.E z'→VRel z' f' c v→Desc z' f' h' w'→Stp z0 f0 h0 w0 z' f' h' w'→Free f' h'→held nt ds a'→Q (.panic [⟨v,false,false⟩]) a' w') :
  (Code.region id ops true).wp P Q a w:=by
 obtain⟨N,s,cv,R⟩:=jtF L st G out hr hG
 have C:=chkD hc
 refine wp_region_any hm ?_
 have hd:Desc z f st.h w.drew:=⟨hi.d.blk,hi.d.apart,hi.d.off,hi.d.stays⟩
 have hs0:(s 0).h=st.h:=congrArg St.h R.zero
 have off:∀i,¬On (Array.replicate ops.size false) i:=fun i h=>by
  unfold On at h
  simp[Array.getElem?_replicate]at h
  split at h<;>simp at h
 have stpD:Stp z f st.h w z f st.h w.drew:=⟨jeQ _ _,Nat.le_refl _,fun _ _=>rfl,fun _ _ h=>h,fun i l hi _ hl=>absurd (KH.lt_of_live hl) (by omega),fun _ _ h=>h,fun _ _ h=>.inl h⟩
 refine jqp (z1:=z) (f1:=f) (w1:=w.drew) (nt:=nt) (ds:=ds) hX R C hfr (fun z' f' a' w' e h1 h2 h3 h4 h5 h6 h7=>hgo _ z' f' a' w' e h1 ⟨h2,h3,(hi.stp.trans stpD).trans h4,h6,h7⟩ h5)
  (fun c h' v z' f' a' w' e h1 h2 h3 h4 h5 h6=>hpan c h' v z' f' a' w' e h1 h2 h3 ((hi.stp.trans stpD).trans h4) h5 h6) ops.size (Array.replicate ops.size false) z f a w.drew ?_ ?_
 ·refine⟨by simp,fun i j _ h=>absurd h (off j),fun k o _ h=>absurd h (off o.ix),fun t _=>?_,hE,hi.nt,hi.nil,0,st.h.get,⟨by omega,fun k o _ _ _=>⟨fun h=>by omega,fun h=>absurd h (off o.ix)⟩,fun i _=>by rw[hs0],fun k o _ _ h=>absurd h (off o.ix),fun k o hk _ _ i h1 h2=>?_,fun i hi2=>?_⟩,hd,?_⟩
  ·rw[jen t 0 N (by omega) (fun k o _ _ _ _ h=>off o.ix h)]
   exact hi.fr t
  ·have:=R.lens (k:=0) (m:=k) (by omega) (by omega)
   rw[hs0]at this
   exact⟨KH.get_ge _ _ (by omega),hfr i (by omega)⟩
  ·have:=R.lens (k:=0) (m:=N) (by omega) (by omega)
   rw[hs0]at this
   exact⟨KH.get_ge _ _ (by omega),hfr i (by omega)⟩
  ·exact⟨Kp.refl _ _,fun _ _=>rfl,fun _ _ h=>h,fun i l h1 _ h2=>absurd (KH.lt_of_live h2) (by omega),fun _ _ h=>h,fun _ _ h=>.inl h⟩
 ·unfold left
  have:=List.length_filter_le (fun i=>!(Array.replicate ops.size false).getD i false) (List.range ops.size)
  simpa using this
end
end
end Go.Proofs.YtienkkicehmchaaGreatDoor
