/- Texts of this claim, merged by a program of this claim: EDefer. -/
import Derived.Test.YtienkkicehmchaaGreatDoorDa5
import Derived.Recover
namespace Go.Proofs.YtienkkicehmchaaGreatDoor
set_option linter.unusedVariables false
set_option linter.unusedSimpArgs false
section
open Go.RowKit
inductive LD where
 | pre (a:LC) (b:LD)
 | dfr (d:Nat) (K:FuncId) (xs:List Opd) (lo:Nat) (c:LC)
def jt4 (ops:Array Oper) (d:Nat):Bool :=
 match ops[1]? with
 | some oo=>(match oo.op with
  | .defer c=>(match c.callee with
   | .value (.tmp t)=>t==d&&c.args.size==0
   | _=>false)&&oo.dst==none&&oo.guard==none
  | _=>false)
 | none=>false
def jli (P:Program) (eqs:List (TypeId×List IntKind)) (nt:NT):LD→Code→Bool
 | .pre a b,.seq x y=>chkC P eqs nt a x&&jli P eqs nt b y
 | .dfr d K xs lo c,.seq (.region _ ops dr) y=>!dr&&ops.size==2&&jcn P eqs nt ops ⟨0,some d,none,.mkfn K xs,false,true⟩&&jt4 ops d&&jbd P K&&chkC P eqs ⟨nt.n,lo⟩ c y
 | _,_=>false
def Clo (P:Program) (E:Nat→Option (List CV)) (K:FuncId) (caps:List CV) (c:CV) (h h2:KH):Prop :=
 ∀(z:ZMap) (f:LMap) (w:World) (vs:Array Value) (v:Value) (u u':FrameMode),vs.size=caps.length→(∀(i:Nat) (c:CV) (v:Value),caps[i]?=some c→vs[i]?=some v→VRel z f c v)→VRel z f c v →
  (u=.returning∧u'=.returning∧v=.nilIface∨u=.panicking [⟨v,false,false⟩]∧u'=.panicking [⟨v,true,false⟩])→EnvOk E z→Desc z f h w→Free f h →
  CallsD P K vs u w fun e u2 w'=>∃v0,e=.returned v0∧u2=u'∧∃z' f',Desc z' f' h2 w'∧Stp z f h w z' f' h2 w'∧Free f' h2
def EndP (P:Program) (fn:Func) (z0:ZMap) (f0:LMap) (h0:KH) (w0:World) (r:Res) (h':KH):Exit→Act→World→Prop :=
 bodyPostD P fn fun e w'=>∃z' f',EndR z' f' r e∧Desc z' f' h' w'∧Stp z0 f0 h0 w0 z' f' h' w'∧Free f' h'
structure TD (V:Env) (ts:List RV) (r:Res) (h':KH) (b:LD) (st:St):Prop where
 run:∀(fn:Func) (code:Code),jdG V.P fn.results.toList ts=true→jli V.P V.X.eqs V.nt b code=true→∀(z0:ZMap) (f0:LMap) (h0:KH) (w0:World) (z:ZMap) (f:LMap) (a:Act) (w:World),h0.length=V.n0→Free f0 h0→EnvOk V.X.E z→Inv z0 f0 h0 w0 V.nt V.ds z f st a w→Free f st.h →
  code.wp V.P (EndP V.P fn z0 f0 h0 w0 r h') a w
theorem jlj {P:Program}{fn:Func}{ts:List RV}{E:Nat→Option (List CV)}{n0:Nat}{r:Res}{h':KH}{z0 z:ZMap}{f0 f:LMap}{h0:KH}{w0 w:World}{fr:Fr}{h:KH}{a:Act}(hc:jdG P fn.results.toList ts=true) (hn0:h0.length=n0) (hf0:Free f0 h0) (hE:EnvOk E z) (d:Desc z f h w) (hfr:FrOk z f fr a) (s:Stp z0 f0 h0 w0 z f h w) (hf:Free f h) (q:retQ E n0 ts r h' .ret ⟨fr,h⟩) :
  ∃v,(results fn a.tmps).run P w=.ok v w∧∃z' f',EndR z' f' r (.returned v)∧Desc z' f' h' w∧Stp z0 f0 h0 w0 z' f' h' w∧Free f' h':=by
 cases r with
 | pan c=>exact q.elim
 | ret c =>
  simp only[retQ]at q
  obtain⟨v,c0,e1,e2,e3⟩:=jdZ d hE hfr hc q
  obtain⟨z2,f2,g1,g2,g3,g4⟩:=Crs.rel d s hn0 hf0 hf e2 e3
  exact⟨v,e1,z2,f2,g1,g2,g3,g4⟩
theorem TD.pre {V:Env}{ts:List RV}{r:Res}{h':KH}{a:LC}{b:LD}{st:St}(hds:V.ds=DS.no) (t:T V a (fun e s=>match e with
  | .norm=>TD V ts r h' b s
  | .pan c=>retQ V.X.E V.n0 ts r h' (.pan c) s
  | .ret=>retQ V.X.E V.n0 ts r h' .ret s
  | .exit _=>False) st):TD V ts r h' (.pre a b) st:=.mk fun fn code hts hc z0 f0 h0 w0 z f ac w h1 h2 h3 h4 h5=>by
 cases code<;>simp only[jli,Bool.and_eq_true]at hc<;>try (cases hc;done)
 refine wp_seq (wp_mono (t.run _ hc.1 z0 f0 h0 w0 z f ac w h1 h2 h3 h4 h5) (fun e a w p=>?_))
 have nods:∀{z f s a w},Inv z0 f0 h0 w0 V.nt V.ds z f s a w→a.defers=[]:=fun hi=>hi.nil.1.trans (by rw[hds];rfl)
 cases p with
 | norm hE hi hf q=>exact q.run fn _ hts hc.2 z0 f0 h0 w0 _ _ _ _ h1 h2 hE hi hf
 | exit id hE hi hf q=>exact q.elim
 | ret hE hi hf q =>
  obtain⟨v,e1,e2⟩:=jlj hts h1 h2 hE hi.d hi.fr hi.stp hf q
  simp only[Exit.then,EndP,bodyPostD,nods hi]
  exact⟨v,e1,e2⟩
 | pan hE hv hd hs hf hdd q =>
  cases r with
  | ret c=>exact q.elim
  | pan c =>
   obtain⟨z2,f2,g1,g2,g3,g4⟩:=Crs.rel hd hs h1 h2 hf hv q
   simp only[Exit.then,EndP,bodyPostD,hdd.1.trans (by rw[hds];rfl:V.ds.ds=[])]
   exact⟨z2,f2,g1,g2,g3,g4⟩
theorem TD.dfr {V:Env}{ts:List RV}{r:Res}{h':KH}{d:Nat}{K:FuncId}{xs:List Opd}{lo:Nat}{c:LC}{st:St}(caps:List CV) (hds:V.ds=DS.no) (hx:xs.map (Opd.ev st.fr)=caps)
  (hn:∀h,Clo V.P V.X.E K caps .niliface h h)
  (t:∀D,T ⟨V.P,V.X,⟨V.nt.n,lo⟩,D,st.h.length,V.ok,V.mixed⟩ c (fun e s=>match e with
   | .norm=>retQ V.X.E V.n0 ts r h' .ret s
   | .ret=>retQ V.X.E V.n0 ts r h' .ret s
   | .pan c=>∃h2,Clo V.P V.X.E K caps c s.h h2∧retQ V.X.E V.n0 ts r h' .ret ⟨(st.fr.set d (.fn K caps)).sel (List.range lo),h2⟩
   | .exit _=>False) ⟨st.fr.set d (.fn K caps),st.h⟩):TD V ts r h' (.dfr d K xs lo c) st:=.mk fun fn code hts hc z0 f0 h0 w0 z f ac w h1 h2 h3 h4 h5=>by
 cases code with
 | seq x y =>
  cases x with
  | region id ops dr =>
   simp only[jli,Bool.and_eq_true,Bool.not_eq_true',beq_iff_eq]at hc
   obtain⟨⟨⟨⟨⟨rfl,hsz⟩,hro⟩,hdf⟩,hcall⟩,hck⟩:=hc
   refine wp_seq (wp_region ?_)
   rw[hsz,show List.range 2=[0,1]from rfl,wpOps_cons]
   refine jbP V.ok (o:=⟨0,some d,none,.mkfn K xs,false,true⟩) (st:=st) (G:=True) (out:=.val (.fn K caps) st.h) h3 h4 h5 hro (by rw[←hx];rfl) trivial (fun c1 h1' z1 f1 a1 w1 e hE1 hi1 hf1=>?_) (fun c1 h1' v1 z1 f1 a1 w1 e=>by cases e)
   cases e
   have hslot:=hi1.fr d
   simp only[putF]at hslot
   rw[Fr.get_set,if_pos rfl]at hslot
   unfold jt4 at hdf
   split at hdf
   ·rename_i oo ho
    split at hdf
    ·rename_i cl hop
     simp only[Bool.and_eq_true,beq_iff_eq]at hdf
     obtain⟨⟨hcal,hdst⟩,hgd⟩:=hdf
     split at hcal
     ·rename_i td hcl
      simp only[Bool.and_eq_true,beq_iff_eq]at hcal
      obtain⟨rfl,hargs⟩:=hcal
      generalize hv:a1.tmps.getD td undef=v at hslot
      cases hslot with
      | fn _ _ cs hcs hrel =>
       have hev:a1.eval (.tmp td)=.func (.func K) #[] cs:=hv
       have hwant:Region.wanted oo (yielded ops a1.tmps)=true:=by
        unfold Region.wanted
        rw[hgd]
       have hexec:(execOp a1.eval oo).run V.P w1=.ok (.defer ⟨.fn (.func K) cs,#[]⟩) w1:=by
        unfold execOp
        rw[hop]
        simp[resolve,hcl,hev,Deferred.ofValue,Array.eq_empty_of_size_eq_zero hargs,Sem.run_bind,Sem.run_pure]
       simp only[wpOps,ho,hwant,if_true]
       refine .inl ?_
       unfold Oper.wp
       rw[hexec,Oper.upon_defer,hdst]
       simp only[Exit.then,Act.put]
       -- the code behind it
       have hd0:a1.defers=[]:=hi1.nil.1.trans (by rw[hds];rfl)
       rw[hd0]
       have hi2:Inv z1 f1 st.h w1 ⟨V.nt.n,lo⟩ ⟨[⟨.fn (.func K) cs,#[]⟩],fun k=>a1.tmps.getD k undef⟩ z1 f1 ⟨st.fr.set td (.fn K caps),st.h⟩ { a1 with defers:=[⟨.fn (.func K) cs,#[]⟩] } w1 :=
        ⟨hi1.d,hi1.fr,Stp.refl _ _ _ _,hi1.nt,rfl,fun _ _=>rfl⟩
       refine wp_mono ((t _).run y hck z1 f1 st.h w1 z1 f1 _ w1 rfl hf1 hE1 hi2 hf1) (fun e a w p=>?_)
       have fin:∀{z f s a w},EnvOk V.X.E z→Inv z1 f1 st.h w1 ⟨V.nt.n,lo⟩ ⟨[⟨.fn (.func K) cs,#[]⟩],fun k=>a1.tmps.getD k undef⟩ z f s a w→Free f s.h→retQ V.X.E V.n0 ts r h' .ret s→Leaves V.P fn a.tmps (fun e w'=>∃z' f',EndR z' f' r e∧Desc z' f' h' w'∧Stp z0 f0 h0 w0 z' f' h' w'∧Free f' h') a.defers .returning w:=by
        intro z f s a w hE hi hf q
        rw[hi.nil.1]
        have ext:=hi.stp.ext (fun i hi _=>hf1 i hi)
        refine leaves_cons (f:=K) (args:=#[]++cs) (by simp) (jbu hcall _ _) ((hn s.h z f w (#[]++cs) .nilIface .returning .returning (by simpa using hcs) (fun i c v h1 h2=>(hrel i c v h1 (by simpa using h2)).mono ext) .niliface (.inl ⟨rfl,rfl,rfl⟩) hE hi.d hf).mono ?_)
        rintro e u2 w' ⟨v0,rfl,rfl,z',f',d',s',ff⟩
        obtain⟨v,e1,e2⟩:=jlj (a:=a) hts h1 h2 (hE.mono (s'.ext (fun i hi _=>hf i hi))) d' (fun n=>(hi.fr n).mono (s'.ext (fun i hi _=>hf i hi))) ((hi1.stp.trans hi.stp).trans s') ff q
        exact⟨v,e1,e2⟩
       cases p with
       | norm hE hi hf q=>exact fin hE hi hf q
       | ret hE hi hf q=>exact fin hE hi hf q
       | exit id hE hi hf q=>exact q.elim
       | pan hE hv hd hs hf hdd q =>
        rename_i cp hp vp zp fp
        obtain⟨hh,hclo,q⟩:=q
        simp only[EndP,bodyPostD]
        rw[hdd.1]
        have ext:=hs.ext (fun i hi _=>hf1 i hi)
        refine leaves_cons (f:=K) (args:=#[]++cs) (by simp) (jbu hcall _ _) ((hclo zp fp w (#[]++cs) vp _ _ (by simpa using hcs) (fun i c v h1 h2=>(hrel i c v h1 (by simpa using h2)).mono ext) hv (.inr ⟨rfl,rfl⟩) hE hd hf).mono ?_)
        rintro e u2 w' ⟨v0,rfl,rfl,z',f',d',s',ff⟩
        have ext2:=s'.ext (fun i hi _=>hf i hi)
        have hfr:FrOk z' f' ((st.fr.set td (.fn K caps)).sel (List.range lo)) a:=fun n=>by
         rw[Fr.get_sel]
         split
         ·rename_i hm
          rw[hdd.2 n (by simpa using hm)]
          exact ((hi1.fr n).mono ext).mono ext2
         ·exact .undef _
        obtain⟨v,e1,e2⟩:=jlj (a:=a) hts h1 h2 (hE.mono ext2) d' hfr ((hi1.stp.trans hs).trans s') ff q
        exact⟨v,e1,e2⟩
     ·cases hcal
    ·cases hdf
   ·cases hdf
  | _=>simp[jli]at hc
 | _=>simp[jli]at hc
def jrv (P:Program) (eqs:List (TypeId×List IntKind)) (F:FuncId) (b:LD) (ts:List RV) (nt:NT):Bool :=
 match P.funcs[F]? with
 | some fn=>(match fn.body with
  | some code=>jli P eqs nt b code&&(fn.ntmps==nt.n&&nt.lo==0)&&jdG P fn.results.toList ts && !(fn.name == "runtime.NumGoroutine")
  | none=>false)
 | none=>false
theorem TFD.intro {V:Env}{F:FuncId}{lc:LD}{ts:List RV}{args:List CV}{h:KH}{r:Res}{h':KH}(hck:jrv V.P V.X.eqs F lc ts V.nt=true) (hds:V.ds=DS.no) (hn0:h.length=V.n0) (t:TD V ts r h' lc ⟨jbf 0 args,h⟩):TF V.P V.X.E F args h r h':=fun z f w vs hsz hrel hE hd hf=>by
 unfold jrv at hck
 split at hck
 ·rename_i fn hfn
  split at hck
  ·rename_i code hb
   simp only[Bool.and_eq_true,beq_iff_eq]at hck
   obtain⟨⟨⟨hck,hnt,hlo⟩,hres⟩,_⟩:=hck
   refine calls_of_wp_defers hfn hb ?_
   refine t.run fn code hres hck z f h w z f ⟨vs++Array.replicate (fn.ntmps-vs.size) undef,[]⟩ w hn0 hf hE ⟨hd,fun n=>?_,Stp.refl _ _ _ _,?_,by rw[hds];rfl,fun k hk=>absurd hk (by omega)⟩ hf
   ·rw[jb0]
    simp only[Nat.zero_le,if_true,Nat.sub_zero,List.getD_eq_getElem?_getD,Array.getD_eq_getD_getElem?]
    cases hc:args[n]? with
    | none=>exact .undef _
    | some c =>
     have hlt:n<vs.size:=by
      rw[hsz]
      exact (List.getElem?_eq_some_iff.1 hc).1
     rw[Array.getElem?_append_left hlt,Array.getElem?_eq_getElem hlt]
     exact hrel n c _ hc (Array.getElem?_eq_getElem hlt)
   ·simp[hnt]
    omega
  ·cases hck
 ·cases hck
def jrw (ops:Array Oper) (d e:Nat):Bool :=
 ops.size==2&&(match ops[0]? with
 | some oo=>(match oo.op with
  | .call c=>(match c.callee with
   | .builtin .recover=>c.args.size==0
   | _=>false)
  | _=>false)&&oo.dst==some d&&oo.guard==none
 | none=>false)&&(match ops[1]? with
 | some oo=>(match oo.op with
  | .assign (.tmp t)=>t==d
  | .move (.tmp t)=>t==d
  | _=>false)&&oo.dst==some e&&oo.guard==none
 | none=>false)
def jrx (P:Program) (eqs:List (TypeId×List IntKind)) (K:FuncId) (d e:Nat) (c:LC) (nt:NT):Bool :=
 match P.funcs[K]? with
 | some fn=>(match fn.body with
  | some (.seq (.region _ ops false) y)=>jrw ops d e&&chkC P eqs nt c y&&(fn.ntmps==nt.n&&nt.lo==0)&&fn.results.size==0&&decide (d<nt.n)&&decide (e<nt.n)
  | _=>false)
 | none=>false
theorem jmc {P:Program}{fn:Func}(h:fn.results.size=0) (tmps:Array Value) (w:World):(results fn tmps).run P w=.ok (.tuple #[]) w:=by
 unfold results
 rw[Array.eq_empty_of_size_eq_zero h]
 simp[Sem.run_bind,Sem.run_pure]
theorem Clo.intro {V:Env}{K:FuncId}{d e:Nat}{lc:LC}{caps:List CV}{c:CV}{h h2:KH}(hck:jrx V.P V.X.eqs K d e lc V.nt=true) (hds:V.ds=DS.no) (hn0:h.length=V.n0)
  (t:T V lc (fun x s=>match x with
   | .norm=>s.h=h2
   | .ret=>s.h=h2
   | _=>False) ⟨((jbf 0 caps).set d c).set e c,h⟩):Clo V.P V.X.E K caps c h h2:=fun z f w vs v u u' hsz hrel hv hm hE hd hf=>by
 unfold jrx at hck
 split at hck
 ·rename_i fn hfn
  split at hck
  ·rename_i id ops y hb
   simp only[Bool.and_eq_true,beq_iff_eq,decide_eq_true_eq]at hck
   obtain⟨⟨⟨⟨⟨hrec,hck⟩,hnt,hlo⟩,hres⟩,hdn⟩,hen⟩:=hck
   unfold jrw at hrec
   simp only[Bool.and_eq_true,beq_iff_eq]at hrec
   obtain⟨⟨hsz2,hr0⟩,hr1⟩:=hrec
   split at hr0
   ·rename_i o0 ho0
    split at hr1
    ·rename_i o1 ho1
     simp only[Bool.and_eq_true,beq_iff_eq]at hr0 hr1
     obtain⟨⟨q0,hd0⟩,hg0⟩:=hr0
     obtain⟨⟨q1,hd1⟩,hg1⟩:=hr1
     refine callsD_of_wpS hfn hb (fun c₀ cs hc₀=>?_)
     refine wpS_seq (wpS_region ?_)
     rw[hsz2,show List.range 2=[0,1]from rfl]
     generalize ha:({ tmps:=vs++Array.replicate (fn.ntmps-vs.size) undef,defers:=[] }:Act)=a0
     have hw0:∀a:Act,Region.wanted o0 (yielded ops a.tmps)=true:=fun a=>by
      unfold Region.wanted
      rw[hg0]
     have hw1:∀a:Act,Region.wanted o1 (yielded ops a.tmps)=true:=fun a=>by
      unfold Region.wanted
      rw[hg1]
     have he0:∀a:Act,(execOp a.eval o0).run V.P w=.ok .recover w:=fun a=>by
      split at q0
      ·rename_i cl hop
       split at q0
       ·rename_i hcl
        unfold execOp
        rw[hop]
        simp only[beq_iff_eq]at q0
        simp[resolve,invoke,hcl,Array.eq_empty_of_size_eq_zero q0,builtin,Sem.run_bind,Sem.run_pure]
       ·cases q0
      ·cases q0
     have he1:∀a:Act,(execOp a.eval o1).run V.P w=.ok (.value (a.tmps.getD d undef)) w:=fun a=>by
      split at q1
      ·rename_i td hop
       rw[beq_iff_eq]at q1
       subst q1
       unfold execOp
       rw[hop]
       rfl
      ·rename_i td hop
       rw[beq_iff_eq]at q1
       subst q1
       unfold execOp
       rw[hop]
       rfl
      ·cases q1
     -- what is recovered
     have key:∀cs',(∃u2,cs'={ c₀ with mode:=u2 } :: cs∧u2=u')→wpOpsS V.P ops (Exit.thenS (y.wpS V.P (bodyPostS V.P fn c₀ cs (fun e u2 w'=>∃v0,e=.returned v0∧u2=u'∧∃z' f',Desc z' f' h2 w'∧Stp z f h w z' f' h2 w'∧Free f' h2))) (bodyPostS V.P fn c₀ cs (fun e u2 w'=>∃v0,e=.returned v0∧u2=u'∧∃z' f',Desc z' f' h2 w'∧Stp z f h w z' f' h2 w'∧Free f' h2))) [1] (a0.put (some d) v) cs' w:=by
      intro cs' hcs'
      simp only[wpOpsS,ho1,hw1,if_true]
      rw[he1]
      simp only[Oper.upon,hd1,Exit.thenS]
      refine wpS_of_wp (wp_mono (t.run y hck z f h w z f _ w hn0 hf hE ⟨hd,fun n=>?_,Stp.refl _ _ _ _,?_,?_,fun k hk=>absurd hk (by omega)⟩ hf) (fun x a w' p=>?_))
      ·have hs0:a0.tmps.size=vs.size+(fn.ntmps-vs.size):=by rw[←ha];simp
       have hslot:∀n,VRel z f ((jbf 0 caps).get n) (a0.tmps.getD n undef):=fun n=>by
        rw[jb0,←ha]
        simp only[Nat.zero_le,if_true,Nat.sub_zero,List.getD_eq_getElem?_getD,Array.getD_eq_getD_getElem?]
        cases hc:caps[n]? with
        | none=>exact .undef _
        | some c =>
         have hlt:n<vs.size:=by
          rw[hsz]
          exact (List.getElem?_eq_some_iff.1 hc).1
         rw[Array.getElem?_append_left hlt,Array.getElem?_eq_getElem hlt]
         exact hrel n c _ hc (Array.getElem?_eq_getElem hlt)
       have hgd:(a0.put (some d) v).tmps.getD d undef=v:=by
        simp only[Act.put,Array.getD_eq_getD_getElem?]
        rw[Array.getElem?_setIfInBounds_self_of_lt (by omega)]
        rfl
       rw[hgd]
       simp only[Act.put,Fr.get_set,Array.getD_eq_getD_getElem?]
       by_cases h1:n=e
       ·subst h1
        rw[if_pos rfl,Array.getElem?_setIfInBounds_self_of_lt (by simp;omega)]
        exact hv
       ·rw[if_neg h1,Array.getElem?_setIfInBounds_ne (by omega)]
        by_cases h2:n=d
        ·subst h2
         rw[if_pos rfl,Array.getElem?_setIfInBounds_self_of_lt (by omega)]
         exact hv
        ·rw[if_neg h2,Array.getElem?_setIfInBounds_ne (by omega),←Array.getD_eq_getD_getElem?]
         exact hslot n
      ·rw[jdq,jdq,←ha]
       simp
       omega
      ·rw[jeX,jeX,←ha,hds]
       rfl
      ·have nod:∀{z1 f1 s a w1},Inv z f h w V.nt V.ds z1 f1 s a w1→a.defers=[]:=fun hi=>hi.nil.1.trans (by rw[hds];rfl)
       cases p with
       | norm hE1 hi hf1 q =>
        obtain⟨u2,rfl,rfl⟩:=hcs'
        exact⟨nod hi,_,rfl,_,jmc hres _ _,_,rfl,rfl,_,_,q▸hi.d,q▸hi.stp,q▸hf1⟩
       | ret hE1 hi hf1 q =>
        obtain⟨u2,rfl,rfl⟩:=hcs'
        exact⟨nod hi,_,rfl,_,jmc hres _ _,_,rfl,rfl,_,_,q▸hi.d,q▸hi.stp,q▸hf1⟩
       | exit id hE1 hi hf1 q=>exact q.elim
       | pan hE1 hv1 hd1 hs1 hf1 hdd q=>exact q.elim
     unfold wpOpsS
     simp only[ho0,hw0,if_true]
     rw[he0]
     simp only[hd0]
     rcases hm with⟨hu,hu',hvn⟩|⟨hu,hu'⟩
     ·have hrd:recoverD (c₀ :: cs)=none:=by simp only[recoverD,hc₀,hu]
      rw[hrd]
      simp only
      rw[←hvn]
      exact key _ ⟨c₀.mode,rfl,by rw[hc₀,hu,hu']⟩
     ·have hrd:recoverD (c₀ :: cs)=some (v,{ c₀ with mode:=.panicking [⟨v,true,false⟩] } :: cs):=by simp only[recoverD,hc₀,hu]
      rw[hrd]
      simp only
      exact key _ ⟨_,rfl,hu'.symm⟩
    ·cases hr1
   ·cases hr0
  ·cases hck
 ·cases hck
end
end Go.Proofs.YtienkkicehmchaaGreatDoor
