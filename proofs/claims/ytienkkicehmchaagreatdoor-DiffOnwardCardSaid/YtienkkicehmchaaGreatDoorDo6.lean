/- Texts of this claim, merged by a program of this claim: ECond, EDefer, ConI, EDrv. -/
import Derived.Test.YtienkkicehmchaaGreatDoorDo5
import Derived.Recover
namespace Go.Proofs.YtienkkicehmchaaGreatDoor
open Bool renaming and_eq_true→qaa
open And renaming intro→qab
noncomputable section
set_option linter.unusedVariables false
set_option linter.unusedSimpArgs false
section
open Go.RowKit
open Classical in
def iteV (c:Prop) (a b:Option (Prop×VOut)):Option (Prop×VOut):=if c then a else b
open Classical in
def conI (c:List CV→KH→Prop) (a b:Con):Con:=fun ARGS H=>if c ARGS H then a ARGS H else b ARGS H
theorem jyV (c:List CV→KH→Prop) (a b:Con) (args:List CV) (h:KH):jf6 (some (conI c a b)) args h=iteV (c args h) (jf6 (some a) args h) (jf6 (some b) args h):=by
 unfold conI iteV
 by_cases q:c args h
 all_goals simp_all [jf6,if_pos,if_neg]
theorem jAM (c:Prop) (a b:Option (Prop×VOut)) (N K:CV→KH→Prop):outK (iteV c a b) N K=((c→outK a N K)∧(¬c→outK b N K)):=by
 unfold iteV
 grind
def jtg (P:Program) (E:Nat→Option (List CV)) (F:FuncId) (c:List CV→KH→Prop) (a:Con):Prop:=∀args h G r h',c args h→a args h=some (G,r,h')→G→TFx P E F args h r h'
theorem jk6 {P:Program}{E:Nat→Option (List CV)}{F:FuncId}{c:List CV→KH→Prop}{a b:Con}(ha:jtg P E F c a) (hb:jtg P E F (fun x y=>¬c x y) b):jgq P E F (conI c a b):=fun args h G r h' e hG=>by
 unfold conI at e
 split at e
 ·rename_i q
  exact ha _ _ _ _ _ q e hG
 ·rename_i q
  exact hb _ _ _ _ _ q e hG
open Classical in
def iteC (c:Prop) (a b:Option (Prop×Res×KH)):Option (Prop×Res×KH):=if c then a else b
theorem jx3 (c:List CV→KH→Prop) (a b:Con) (args:List CV) (h:KH):conI c a b args h=iteC (c args h) (a args h) (b args h):=rfl
def jrw (o:Option (Prop×Res×KH)) (h:KH):Option (Prop×VOut) :=
 match o with
 | some (G,.ret r,h')=>some (G∧h.length≤h'.length,.val r h')
 | some (G,.pan r,h')=>some (G∧h.length≤h'.length,.pan r h')
 | none=>none
theorem jth (c:Con) (args:List CV) (h:KH):jf6 (some c) args h=jrw (c args h) h:=rfl
theorem jti (c:Prop) (a b:Option (Prop×Res×KH)) (h:KH):jrw (iteC c a b) h=iteV c (jrw a h) (jrw b h):=by
 unfold iteC iteV
 grind
theorem jtj (G:Prop) (r:CV) (h' h:KH):jrw (some (G,.ret r,h')) h=some (G∧h.length≤h'.length,.val r h'):=rfl
theorem jtk (G:Prop) (r:CV) (h' h:KH):jrw (some (G,.pan r,h')) h=some (G∧h.length≤h'.length,.pan r h'):=rfl
abbrev ESpec:=List CV→KH→Int
def errV (e:Int):CV:=.iface 29 (.int .i64 e)
def jhZ:Nat→KH
 | 0=>[]
 | n+1=>.dead::jhZ n
def jwv (msp:MSpec) (esp:ESpec):MSpec:=fun args h=>match msp args h with
 | some (G,_,_)=>some (G,.pan (errV (esp args h)),jhZ h.length)
 | none=>none
def rhoM (ARGS:List CV) (H:KH):List Nat:=jkQ H 3 (once [] (jdv ARGS))
def errM (esp:ESpec) (ARGS:List CV) (H:KH) (ρ:List Nat):Int:=esp (locL ρ ARGS) (locH ρ H ρ)
def okM (esp:ESpec) (ARGS:List CV) (H:KH):Prop:=errM esp ARGS H (rhoM ARGS H)=0
def conP (msp:MSpec) (esp:ESpec):Con:=conI (okM esp) (conM msp) (conM (jwv msp esp))
def MutP (P:Program) (E:Nat→Option (List CV)) (F:FuncId) (msp:MSpec) (esp:ESpec):Prop:=∀args h G r h',msp args h=some (G,r,h')→G→(esp args h=0→TF P E F args h r h')∧(esp args h≠0→TF P E F args h (.pan (errV (esp args h))) (jhZ h.length))
theorem jx4 {P:Program}{E:Nat→Option (List CV)}{F:FuncId}{spec:MSpec}{ARGS:List CV}{H:KH}{ρ:List Nat}{G:Prop}{r:Res}{H':KH}(hc:goM spec ARGS H ρ=some (G,r,H')) (hG:G) (t:∀G1 r1 h1,spec (locL ρ ARGS) (locH ρ H ρ)=some (G1,r1,h1)→G1→TF P E F (locL ρ ARGS) (locH ρ H ρ) r1 h1):TFx P E F ARGS H r H':=by
 simp only[goM]at hc
 split at hc
 ·rename_i G1 r1 h1 e
  cases hc
  obtain⟨hG1,hk,hl⟩:=hG
  simp only[qaa]at hk
  obtain⟨⟨k1,k2⟩,k3⟩:=hk
  have tf:=t _ _ _ e hG1
  have hln:=jmo ρ H ρ
  have:=TF.lift (ρ:=ρ) (fz:=[]) (H:=H) (ARGS:=ARGS) tf (by rw[List.append_nil,←jjH];exact k2) (jjI _ _ k3) (jmn ρ H ρ k3) (jeM ρ H ARGS) (.inl rfl) (by rw[hln];exact hl)
  grind
 ·cases hc
theorem MutP.soundP {P:Program}{E:Nat→Option (List CV)}{F:FuncId}{msp:MSpec}{esp:ESpec}(t:MutP P E F msp esp):jgq P E F (conP msp esp):=by
 refine jk6 (fun ARGS H G r H' hc e hG=>?_) (fun ARGS H G r H' hc e hG=>?_)
 ·exact jx4 e hG (fun G1 r1 h1 e1 g1=>(t _ _ _ _ _ e1 g1).1 hc)
 ·refine jx4 e hG (fun G1 r1 h1 e1 g1=>?_)
  unfold jwv at e1
  split at e1
  ·rename_i e2
   cases e1
   exact (t _ _ _ _ _ e2 g1).2 hc
  ·cases e1
open Classical in
def jww {α:Type}(enc:α→List CV×KH) (f:α→Int):ESpec:=fun args h=>if e:∃x,enc x=(args,h) then f (Classical.choose e) else 0
theorem jqb {α:Type}{enc:α→List CV×KH}(f:α→Int) (inj:∀x y,enc x=enc y→x=y) (x:α):jww enc f (enc x).1 (enc x).2=f x:=by
 unfold jww
 have h:∃y,enc y=((enc x).1,(enc x).2):=⟨x,rfl⟩
 grind
def resP (e:Int) (r:Res):Res:=if e=0 then r else .pan (errV e)
def memP (e:Int) (h':KH) (n:Nat):KH:=if e=0 then h' else jhZ n
theorem jaR {e:Int}(h:e=0) (r:Res):resP e r=r:=if_pos h
theorem jaf {e:Int}(h:¬e=0) (r:Res):resP e r=.pan (errV e):=if_neg h
theorem jaS {e:Int}(h:e=0) (m:KH) (n:Nat):memP e m n=m:=if_pos h
theorem jag {e:Int}(h:¬e=0) (m:KH) (n:Nat):memP e m n=jhZ n:=if_neg h
theorem MutP.of {P:Program}{E:Nat→Option (List CV)}{F:FuncId}{α:Type}{enc:α→List CV×KH}{f:α→Prop×Res×KH}{g:α→Int}(inj:∀x y,enc x=enc y→x=y) (t:∀x,(f x).1→TF P E F (enc x).1 (enc x).2 (resP (g x) (f x).2.1) (memP (g x) (f x).2.2 (enc x).2.length)):MutP P E F (jnu enc f) (jww enc g):=fun args h G r h' e hG=>by
 unfold jnu at e
 split at e
 ·rename_i q
  have hx:=Classical.choose_spec q
  generalize Classical.choose q=x at e hx
  have e:=Option.some.inj e
  have:=t x (by grind)
  have he:=jqb g inj x
  grind [jaR,jaS,jaf,jag]
 ·cases e
abbrev QSpec:=List CV→Int
def okA (ks:List AK) (esp:QSpec) (ARGS:List CV) (H:KH):Prop:=match purL H ks ARGS with
 | some (_,args,_)=>esp args=0
 | none=>True
def conQ (ks:List AK) (sp sp2:Spec) (esp:QSpec):Con:=conI (okA ks esp) (conA ks sp) (conA ks sp2)
theorem PBu:(∀c a b args h,jf6 (some (conI c a b)) args h=iteV (c args h) (jf6 (some a) args h) (jf6 (some b) args h))∧(∀c a b N K,outK (iteV c a b) N K=((c→outK a N K)∧(¬c→outK b N K))) ∧
  (∀msp esp,conP msp esp=conI (okM esp) (conM msp) (conM (jwv msp esp)))∧(∀ks sp sp2 esp,conQ ks sp sp2 esp=conI (okA ks esp) (conA ks sp) (conA ks sp2)) ∧
  (∀esp ARGS H,okM esp ARGS H=(errM esp ARGS H (jkQ H 3 (once [] (jdv ARGS)))=0))∧(∀esp ARGS H ρ,errM esp ARGS H ρ=esp (locL ρ ARGS) (locH ρ H ρ)) ∧
  (∀ks esp ARGS H,okA ks esp ARGS H=match purL H ks ARGS with
   | some (_,args,_)=>esp args=0
   | none=>True)∧(∀msp esp args h,jwv msp esp args h=match msp args h with
   | some (G,_,_)=>some (G,.pan (errV (esp args h)),jhZ h.length)
   | none=>none)∧(jhZ 0=[])∧(∀n,jhZ (n+1)=.dead::jhZ n)∧(jhZ 1=[.dead])∧(jhZ 2=[.dead,.dead])∧(jhZ 3=[.dead,.dead,.dead])∧(jhZ 4=[.dead,.dead,.dead,.dead])∧(∀e,jec (errV e)=[])∧(∀ρ e,locV ρ (errV e)=errV e)∧(∀σ e,renV σ (errV e)=errV e) :=
 ⟨jyV,jAM,fun _ _=>rfl,fun _ _ _ _=>rfl,fun _ _ _=>rfl,fun _ _ _ _=>rfl,fun _ _ _ _=>rfl,fun _ _ _ _=>rfl,rfl,fun _=>rfl,rfl,rfl,rfl,rfl,fun _=>rfl,fun _ _=>rfl,fun _ _=>rfl⟩
theorem PB:type_of% (qab PBu (qab jx3 (qab jth (qab jti (qab jtj jtk))))):=qab PBu (qab jx3 (qab jth (qab jti (qab jtj jtk))))
theorem Cos.err {n0:Nat}{e:Int}{h:KH}{k:KH}(hk:Cos n0 ⟨[(0,.iface 29 (.int .i64 e))],h⟩ ⟨[(0,.iface 29 (.int .i64 e))],k⟩):Cos n0 ⟨[(0,.iface 29 (.int .i64 e))],h⟩ ⟨[(0,errV e)],k⟩:=hk
end
section
open Go.RowKit
inductive LD where
 | pre (a:LC) (b:LD)
 | dfr (d:Nat) (K:FuncId) (xs:List Opd) (lo:Nat) (c:LC)
def jAN (ops:Array Oper) (d:Nat):Bool :=
 match ops[1]? with
 | some oo=>(match oo.op with
  | .defer c=>(match c.callee with
   | .value (.tmp t)=>t==d&&c.args.size==0
   | _=>false)&&oo.dst==none&&oo.guard==none
  | _=>false)
 | none=>false
def joQ (P:Program) (eqs:List (TypeId×List IntKind)) (nt:NT):LD→Code→Bool
 | .pre a b,.seq x y=>chkC P eqs nt a x&&joQ P eqs nt b y
 | .dfr d K xs lo c,.seq (.region _ ops dr) y=>!dr&&ops.size==2&&jdX P eqs nt ops ⟨0,some d,none,.mkfn K xs,false,true⟩&&jAN ops d&&jb7 P K&&chkC P eqs ⟨nt.n,lo⟩ c y
 | _,_=>false
def Clo (P:Program) (E:Nat→Option (List CV)) (K:FuncId) (caps:List CV) (c:CV) (h h2:KH):Prop :=
 ∀(z:ZMap) (f:LMap) (w:World) (vs:Array Value) (v:Value) (u u':FrameMode),vs.size=caps.length→(∀(i:Nat) (c:CV) (v:Value),caps[i]?=some c→vs[i]?=some v→VRel z f c v)→VRel z f c v →
  (u=.returning∧u'=.returning∧v=.nilIface∨u=.panicking [⟨v,false,false⟩]∧u'=.panicking [⟨v,true,false⟩])→EnvOk E z→Desc z f h w→Free f h →
  CallsD P K vs u w fun e u2 w'=>∃v0,e=.returned v0∧u2=u'∧∃z' f',Desc z' f' h2 w'∧Stp z f h w z' f' h2 w'∧Free f' h2
def EndP (P:Program) (fn:Func) (z0:ZMap) (f0:LMap) (h0:KH) (w0:World) (r:Res) (h':KH):Exit→Act→World→Prop :=
 bodyPostD P fn fun e w'=>∃z' f',EndR z' f' r e∧Desc z' f' h' w'∧Stp z0 f0 h0 w0 z' f' h' w'∧Free f' h'
structure TD (V:Env) (ts:List RV) (r:Res) (h':KH) (b:LD) (st:St):Prop where
 run:∀(fn:Func) (code:Code),jgc V.P fn.results.toList ts=true→joQ V.P V.X.eqs V.nt b code=true→∀(z0:ZMap) (f0:LMap) (h0:KH) (w0:World) (z:ZMap) (f:LMap) (a:Act) (w:World),h0.length=V.n0→Free f0 h0→EnvOk V.X.E z→Inv z0 f0 h0 w0 V.nt V.ds z f st a w→Free f st.h →
  code.wp V.P (EndP V.P fn z0 f0 h0 w0 r h') a w
theorem joR {P:Program}{fn:Func}{ts:List RV}{E:Nat→Option (List CV)}{n0:Nat}{r:Res}{h':KH}{z0 z:ZMap}{f0 f:LMap}{h0:KH}{w0 w:World}{fr:Fr}{h:KH}{a:Act}(hc:jgc P fn.results.toList ts=true) (hn0:h0.length=n0) (hf0:Free f0 h0) (hE:EnvOk E z) (d:Desc z f h w) (hfr:FrOk z f fr a) (s:Stp z0 f0 h0 w0 z f h w) (hf:Free f h) (q:retQ E n0 ts r h' .ret ⟨fr,h⟩) :
  ∃v,(results fn a.tmps).run P w=.ok v w∧∃z' f',EndR z' f' r (.returned v)∧Desc z' f' h' w∧Stp z0 f0 h0 w0 z' f' h' w∧Free f' h':=by
 cases r with
 | pan c=>exact q.elim
 | ret c =>
  simp only[retQ]at q
  obtain⟨v,c0,e1,e2,e3⟩:=jjB d hE hfr hc q
  obtain⟨z2,f2,g1,g2,g3,g4⟩:=Crs.rel d s hn0 hf0 hf e2 e3
  exact⟨v,e1,z2,f2,g1,g2,g3,g4⟩
theorem TD.pre {V:Env}{ts:List RV}{r:Res}{h':KH}{a:LC}{b:LD}{st:St}(hds:V.ds=DS.no) (t:T V a (fun e s=>match e with
  | .norm=>TD V ts r h' b s
  | .pan c=>retQ V.X.E V.n0 ts r h' (.pan c) s
  | .ret=>retQ V.X.E V.n0 ts r h' .ret s
  | .exit _=>False) st):TD V ts r h' (.pre a b) st:=.mk fun fn code hts hc z0 f0 h0 w0 z f ac w h1 h2 h3 h4 h5=>by
 cases code<;>simp only[joQ,qaa]at hc<;>try (cases hc;done)
 refine wp_seq (wp_mono (t.run _ hc.1 z0 f0 h0 w0 z f ac w h1 h2 h3 h4 h5) (fun e a w p=>?_))
 have nods:∀{z f s a w},Inv z0 f0 h0 w0 V.nt V.ds z f s a w→a.defers=[]:=fun hi=>hi.nil.1.trans (by rw[hds];rfl)
 cases p with
 | norm hE hi hf q=>exact q.run fn _ hts hc.2 z0 f0 h0 w0 _ _ _ _ h1 h2 hE hi hf
 | exit id hE hi hf q=>exact q.elim
 | ret hE hi hf q =>
  obtain⟨v,e1,e2⟩:=joR hts h1 h2 hE hi.d hi.fr hi.stp hf q
  simp only[Exit.then,EndP,bodyPostD,nods hi]
  exact⟨v,e1,e2⟩
 | pan hE hv hd hs hf hdd q =>
  cases r with
  | ret c=>exact q.elim
  | pan c =>
   obtain⟨z2,f2,g1,g2,g3,g4⟩:=Crs.rel hd hs h1 h2 hf hv q
   simp only[Exit.then,EndP,bodyPostD,hdd.1.trans (by rw[hds];rfl:V.ds.ds=[])]
   exact⟨z2,f2,g1,g2,g3,g4⟩
theorem TD.dfr {V:Env}{ts:List RV}{r:Res}{h':KH}{d:Nat}{K:FuncId}{xs:List Opd}{lo:Nat}{c:LC}{st:St}(caps:List CV) (hds:V.ds=DS.no) (hx:xs.map (Opd.ev st.fr)=caps)
  (hn:∀h,Clo V.P V.X.E K caps .niliface h h)
  (t:∀D,T ⟨V.P,V.X,⟨V.nt.n,lo⟩,D,st.h.length,V.ok,V.mixed⟩ c (fun e s=>match e with
   | .norm=>retQ V.X.E V.n0 ts r h' .ret s
   | .ret=>retQ V.X.E V.n0 ts r h' .ret s
   | .pan c=>∃h2,Clo V.P V.X.E K caps c s.h h2∧retQ V.X.E V.n0 ts r h' .ret ⟨(st.fr.set d (.fn K caps)).sel (List.range lo),h2⟩
   | .exit _=>False) ⟨st.fr.set d (.fn K caps),st.h⟩):TD V ts r h' (.dfr d K xs lo c) st:=.mk fun fn code hts hc z0 f0 h0 w0 z f ac w h1 h2 h3 h4 h5=>by
 cases code with
 | seq x y =>
  cases x with
  | region id ops dr =>
   simp only[joQ,qaa,Bool.not_eq_true',beq_iff_eq]at hc
   obtain⟨⟨⟨⟨⟨rfl,hsz⟩,hro⟩,hdf⟩,hcall⟩,hck⟩:=hc
   refine wp_seq (wp_region ?_)
   rw[hsz,show List.range 2=[0,1]from rfl,wpOps_cons]
   refine jc0 V.ok (o:=⟨0,some d,none,.mkfn K xs,false,true⟩) (st:=st) (G:=True) (out:=.val (.fn K caps) st.h) h3 h4 h5 hro (by rw[←hx];rfl) trivial (fun c1 h1' z1 f1 a1 w1 e hE1 hi1 hf1=>?_) (fun c1 h1' v1 z1 f1 a1 w1 e=>by cases e)
   cases e
   have hslot:=hi1.fr d
   simp only[putF]at hslot
   rw[Fr.get_set,if_pos rfl]at hslot
   unfold jAN at hdf
   split at hdf
   ·rename_i oo ho
    split at hdf
    ·rename_i cl hop
     simp only[qaa,beq_iff_eq]at hdf
     obtain⟨⟨hcal,hdst⟩,hgd⟩:=hdf
     split at hcal
     ·rename_i td hcl
      simp only[qaa,beq_iff_eq]at hcal
      obtain⟨rfl,hargs⟩:=hcal
      generalize hv:a1.tmps.getD td undef=v at hslot
      cases hslot with
      | fn _ _ cs hcs hrel =>
       have hev:a1.eval (.tmp td)=.func (.func K) #[] cs:=hv
       have hwant:Region.wanted oo (yielded ops a1.tmps)=true:=by
        unfold Region.wanted
        rw[hgd]
       have hexec:(execOp a1.eval oo).run V.P w1=.ok (.defer ⟨.fn (.func K) cs,#[]⟩) w1:=by
        unfold execOp
        rw[hop]
        simp[resolve,hcl,hev,Deferred.ofValue,Array.eq_empty_of_size_eq_zero hargs,Sem.run_bind,Sem.run_pure]
       simp only[wpOps,ho,hwant,if_true]
       refine .inl ?_
       unfold Oper.wp
       rw[hexec,Oper.upon_defer,hdst]
       simp only[Exit.then,Act.put]
       -- the code behind it
       have hd0:a1.defers=[]:=hi1.nil.1.trans (by rw[hds];rfl)
       rw[hd0]
       have hi2:Inv z1 f1 st.h w1 ⟨V.nt.n,lo⟩ ⟨[⟨.fn (.func K) cs,#[]⟩],fun k=>a1.tmps.getD k undef⟩ z1 f1 ⟨st.fr.set td (.fn K caps),st.h⟩ { a1 with defers:=[⟨.fn (.func K) cs,#[]⟩] } w1 :=
        ⟨hi1.d,hi1.fr,Stp.refl _ _ _ _,hi1.nt,rfl,fun _ _=>rfl⟩
       refine wp_mono ((t _).run y hck z1 f1 st.h w1 z1 f1 _ w1 rfl hf1 hE1 hi2 hf1) (fun e a w p=>?_)
       have fin:∀{z f s a w},EnvOk V.X.E z→Inv z1 f1 st.h w1 ⟨V.nt.n,lo⟩ ⟨[⟨.fn (.func K) cs,#[]⟩],fun k=>a1.tmps.getD k undef⟩ z f s a w→Free f s.h→retQ V.X.E V.n0 ts r h' .ret s→Leaves V.P fn a.tmps (fun e w'=>∃z' f',EndR z' f' r e∧Desc z' f' h' w'∧Stp z0 f0 h0 w0 z' f' h' w'∧Free f' h') a.defers .returning w:=by
        intro z f s a w hE hi hf q
        rw[hi.nil.1]
        have ext:=hi.stp.ext (fun i hi _=>hf1 i hi)
        refine leaves_cons (f:=K) (args:=#[]++cs) (by simp) (jcD hcall _ _) ((hn s.h z f w (#[]++cs) .nilIface .returning .returning (by grind) (fun i c v h1 h2=>(hrel i c v h1 (by simpa using h2)).mono ext) .niliface (.inl ⟨rfl,rfl,rfl⟩) hE hi.d hf).mono ?_)
        rintro e u2 w' ⟨v0,rfl,rfl,z',f',d',s',ff⟩
        obtain⟨v,e1,e2⟩:=joR (a:=a) hts h1 h2 (hE.mono (s'.ext (fun i hi _=>hf i hi))) d' (fun n=>(hi.fr n).mono (s'.ext (fun i hi _=>hf i hi))) ((hi1.stp.trans hi.stp).trans s') ff q
        exact⟨v,e1,e2⟩
       cases p with
       | norm hE hi hf q=>exact fin hE hi hf q
       | ret hE hi hf q=>exact fin hE hi hf q
       | exit id hE hi hf q=>exact q.elim
       | pan hE hv hd hs hf hdd q =>
        rename_i cp hp vp zp fp
        obtain⟨hh,hclo,q⟩:=q
        simp only[EndP,bodyPostD]
        rw[hdd.1]
        have ext:=hs.ext (fun i hi _=>hf1 i hi)
        refine leaves_cons (f:=K) (args:=#[]++cs) (by simp) (jcD hcall _ _) ((hclo zp fp w (#[]++cs) vp _ _ (by grind) (fun i c v h1 h2=>(hrel i c v h1 (by simpa using h2)).mono ext) hv (.inr ⟨rfl,rfl⟩) hE hd hf).mono ?_)
        rintro e u2 w' ⟨v0,rfl,rfl,z',f',d',s',ff⟩
        have ext2:=s'.ext (fun i hi _=>hf i hi)
        have hfr:FrOk z' f' ((st.fr.set td (.fn K caps)).sel (List.range lo)) a:=fun n=>by
         rw[Fr.get_sel]
         split
         ·rename_i hm
          rw[hdd.2 n (by grind)]
          exact ((hi1.fr n).mono ext).mono ext2
         ·exact .undef _
        obtain⟨v,e1,e2⟩:=joR (a:=a) hts h1 h2 (hE.mono ext2) d' hfr ((hi1.stp.trans hs).trans s') ff q
        exact⟨v,e1,e2⟩
     ·cases hcal
    ·cases hdf
   ·cases hdf
  | _=>simp[joQ]at hc
 | _=>simp[joQ]at hc
def jjJ (P:Program) (eqs:List (TypeId×List IntKind)) (F:FuncId) (b:LD) (ts:List RV) (nt:NT):Bool :=
 match P.funcs[F]? with
 | some fn=>(match fn.body with
  | some code=>joQ P eqs nt b code&&(fn.ntmps==nt.n&&nt.lo==0)&&jgc P fn.results.toList ts && !(fn.name == "runtime.NumGoroutine")
  | none=>false)
 | none=>false
theorem jfn {P:Program}{eqs:List (TypeId×List IntKind)}{F:FuncId}{lc:LD}{ts:List RV}{nt:NT}(h:jjJ P eqs F lc ts nt=true):jb7 P F=true:=by
 unfold jjJ at h
 split at h
 ·rename_i fn e
  split at h
  ·rename_i code hb
   simp only[qaa]at h
   unfold jb7
   rw[e]
   simp only[hb,qaa]
   refine⟨rfl,?_⟩
   exact h.2
  ·cases h
 ·cases h
theorem TFD.intro {V:Env}{F:FuncId}{lc:LD}{ts:List RV}{args:List CV}{h:KH}{r:Res}{h':KH}(hck:jjJ V.P V.X.eqs F lc ts V.nt=true) (hds:V.ds=DS.no) (hn0:h.length=V.n0) (t:TD V ts r h' lc ⟨jcq 0 args,h⟩):TF V.P V.X.E F args h r h':=fun z f w vs hsz hrel hE hd hf=>by
 unfold jjJ at hck
 split at hck
 ·rename_i fn hfn
  split at hck
  ·rename_i code hb
   simp only[qaa,beq_iff_eq]at hck
   obtain⟨⟨⟨hck,hnt,hlo⟩,hres⟩,_⟩:=hck
   refine calls_of_wp_defers hfn hb ?_
   refine t.run fn code hres hck z f h w z f ⟨vs++Array.replicate (fn.ntmps-vs.size) undef,[]⟩ w hn0 hf hE ⟨hd,fun n=>?_,Stp.refl _ _ _ _,?_,by rw[hds];rfl,fun k hk=>absurd hk (by omega)⟩ hf
   ·rw[jeK]
    simp only[Nat.zero_le,if_true,Nat.sub_zero,List.getD_eq_getElem?_getD,Array.getD_eq_getD_getElem?]
    cases hc:args[n]? with
    | none=>exact .undef _
    | some c =>
     grind
   grind
  ·cases hck
 ·cases hck
def jx5 (ops:Array Oper) (d e:Nat):Bool :=
 ops.size==2&&(match ops[0]? with
 | some oo=>(match oo.op with
  | .call c=>(match c.callee with
   | .builtin .recover=>c.args.size==0
   | _=>false)
  | _=>false)&&oo.dst==some d&&oo.guard==none
 | none=>false)&&(match ops[1]? with
 | some oo=>(match oo.op with
  | .assign (.tmp t)=>t==d
  | .move (.tmp t)=>t==d
  | _=>false)&&oo.dst==some e&&oo.guard==none
 | none=>false)
def jqc (P:Program) (eqs:List (TypeId×List IntKind)) (K:FuncId) (d e:Nat) (c:LC) (nt:NT):Bool :=
 match P.funcs[K]? with
 | some fn=>(match fn.body with
  | some (.seq (.region _ ops false) y)=>jx5 ops d e&&chkC P eqs nt c y&&(fn.ntmps==nt.n&&nt.lo==0)&&fn.results.size==0&&decide (d<nt.n)&&decide (e<nt.n)
  | _=>false)
 | none=>false
theorem jqd {P:Program}{fn:Func}(h:fn.results.size=0) (tmps:Array Value) (w:World):(results fn tmps).run P w=.ok (.tuple #[]) w:=by
 simp_all [results,Array.eq_empty_of_size_eq_zero,Sem.run_bind,Sem.run_pure]
theorem Clo.intro {V:Env}{K:FuncId}{d e:Nat}{lc:LC}{caps:List CV}{c:CV}{h h2:KH}(hck:jqc V.P V.X.eqs K d e lc V.nt=true) (hds:V.ds=DS.no) (hn0:h.length=V.n0)
  (t:T V lc (fun x s=>match x with
   | .norm=>s.h=h2
   | .ret=>s.h=h2
   | _=>False) ⟨((jcq 0 caps).set d c).set e c,h⟩):Clo V.P V.X.E K caps c h h2:=fun z f w vs v u u' hsz hrel hv hm hE hd hf=>by
 unfold jqc at hck
 split at hck
 ·rename_i fn hfn
  split at hck
  ·rename_i id ops y hb
   simp only[qaa,beq_iff_eq,decide_eq_true_eq]at hck
   obtain⟨⟨⟨⟨⟨hrec,hck⟩,hnt,hlo⟩,hres⟩,hdn⟩,hen⟩:=hck
   unfold jx5 at hrec
   simp only[qaa,beq_iff_eq]at hrec
   obtain⟨⟨hsz2,hr0⟩,hr1⟩:=hrec
   split at hr0
   ·rename_i o0 ho0
    split at hr1
    ·rename_i o1 ho1
     simp only[qaa,beq_iff_eq]at hr0 hr1
     obtain⟨⟨q0,hd0⟩,hg0⟩:=hr0
     obtain⟨⟨q1,hd1⟩,hg1⟩:=hr1
     refine callsD_of_wpS hfn hb (fun c₀ cs hc₀=>?_)
     refine wpS_seq (wpS_region ?_)
     rw[hsz2,show List.range 2=[0,1]from rfl]
     generalize ha:({ tmps:=vs++Array.replicate (fn.ntmps-vs.size) undef,defers:=[] }:Act)=a0
     have hw0:∀a:Act,Region.wanted o0 (yielded ops a.tmps)=true:=fun a=>by
      grind [Region.wanted]
     have hw1:∀a:Act,Region.wanted o1 (yielded ops a.tmps)=true:=fun a=>by
      grind [Region.wanted]
     have he0:∀a:Act,(execOp a.eval o0).run V.P w=.ok .recover w:=fun a=>by
      split at q0
      ·rename_i cl hop
       split at q0
       ·rename_i hcl
        unfold execOp
        rw[hop]
        simp only[beq_iff_eq]at q0
        grind [resolve,invoke,Array.eq_empty_of_size_eq_zero,builtin,Sem.run_bind,Sem.run_pure]
       ·cases q0
      ·cases q0
     have he1:∀a:Act,(execOp a.eval o1).run V.P w=.ok (.value (a.tmps.getD d undef)) w:=fun a=>by
      split at q1
      ·rename_i td hop
       rw[beq_iff_eq]at q1
       subst q1
       unfold execOp
       rw[hop]
       rfl
      ·rename_i td hop
       rw[beq_iff_eq]at q1
       subst q1
       unfold execOp
       rw[hop]
       rfl
      ·cases q1
     -- what is recovered
     have key:∀cs',(∃u2,cs'={ c₀ with mode:=u2 } :: cs∧u2=u')→wpOpsS V.P ops (Exit.thenS (y.wpS V.P (bodyPostS V.P fn c₀ cs (fun e u2 w'=>∃v0,e=.returned v0∧u2=u'∧∃z' f',Desc z' f' h2 w'∧Stp z f h w z' f' h2 w'∧Free f' h2))) (bodyPostS V.P fn c₀ cs (fun e u2 w'=>∃v0,e=.returned v0∧u2=u'∧∃z' f',Desc z' f' h2 w'∧Stp z f h w z' f' h2 w'∧Free f' h2))) [1] (a0.put (some d) v) cs' w:=by
      intro cs' hcs'
      simp only[wpOpsS,ho1,hw1,if_true]
      rw[he1]
      simp only[Oper.upon,hd1,Exit.thenS]
      refine wpS_of_wp (wp_mono (t.run y hck z f h w z f _ w hn0 hf hE ⟨hd,fun n=>?_,Stp.refl _ _ _ _,?_,?_,fun k hk=>absurd hk (by omega)⟩ hf) (fun x a w' p=>?_))
      ·have hs0:a0.tmps.size=vs.size+(fn.ntmps-vs.size):=by rw[←ha];simp
       have hslot:∀n,VRel z f ((jcq 0 caps).get n) (a0.tmps.getD n undef):=fun n=>by
        rw[jeK,←ha]
        simp only[Nat.zero_le,if_true,Nat.sub_zero,List.getD_eq_getElem?_getD,Array.getD_eq_getD_getElem?]
        cases hc:caps[n]? with
        | none=>exact .undef _
        | some c =>
         grind
       have hgd:(a0.put (some d) v).tmps.getD d undef=v:=by
        simp only[Act.put,Array.getD_eq_getD_getElem?]
        rw[Array.getElem?_setIfInBounds_self_of_lt (by omega)]
        rfl
       rw[hgd]
       simp only[Act.put,Fr.get_set,Array.getD_eq_getD_getElem?]
       by_cases h1:n=e
       ·subst h1
        rw[if_pos rfl,Array.getElem?_setIfInBounds_self_of_lt (by simp;omega)]
        exact hv
       ·rw[if_neg h1,Array.getElem?_setIfInBounds_ne (by omega)]
        by_cases h2:n=d
        ·grind
        ·rw[if_neg h2,Array.getElem?_setIfInBounds_ne (by omega),←Array.getD_eq_getD_getElem?]
         exact hslot n
      ·grind [jg3]
      ·rw[jhT,jhT,←ha,hds]
       rfl
      ·have nod:∀{z1 f1 s a w1},Inv z f h w V.nt V.ds z1 f1 s a w1→a.defers=[]:=fun hi=>hi.nil.1.trans (by rw[hds];rfl)
       cases p with
       | norm hE1 hi hf1 q =>
        obtain⟨u2,rfl,rfl⟩:=hcs'
        exact⟨nod hi,_,rfl,_,jqd hres _ _,_,rfl,rfl,_,_,q▸hi.d,q▸hi.stp,q▸hf1⟩
       | ret hE1 hi hf1 q =>
        obtain⟨u2,rfl,rfl⟩:=hcs'
        exact⟨nod hi,_,rfl,_,jqd hres _ _,_,rfl,rfl,_,_,q▸hi.d,q▸hi.stp,q▸hf1⟩
       | exit id hE1 hi hf1 q=>exact q.elim
       | pan hE1 hv1 hd1 hs1 hf1 hdd q=>exact q.elim
     unfold wpOpsS
     simp only[ho0,hw0,if_true]
     rw[he0]
     simp only[hd0]
     rcases hm with⟨hu,hu',hvn⟩|⟨hu,hu'⟩
     ·have hrd:recoverD (c₀ :: cs)=none:=by simp only[recoverD,hc₀,hu]
      grind
     ·have hrd:recoverD (c₀ :: cs)=some (v,{ c₀ with mode:=.panicking [⟨v,true,false⟩] } :: cs):=by simp only[recoverD,hc₀,hu]
      rw[hrd]
      simp only
      exact key _ ⟨_,rfl,hu'.symm⟩
    ·cases hr1
   ·cases hr0
  ·cases hck
 ·cases hck
end
section
open Go.RowKit
theorem jwx {P:Program}{E:Nat→Option (List CV)}{F:FuncId}{c:List CV→KH→Prop}{a b:Con}(ha:jgq P E F a) (hb:jgq P E F b):jgq P E F (conI c a b):=jk6 (fun args h G r h' _=>ha args h G r h') (fun args h G r h' _=>hb args h G r h')
end
section
open Go.RowKit
section
variable {A B C D E F G H I J K L M N O P Q R S T U V W X Y A' B' C' D' Z:Type}{h:Z→Prop}
abbrev u0 (f:Z) (p:Unit):Z:=f
abbrev W0 (h:Z→Prop) (f:Z):Prop:=h f
theorem w0 {f:Z}(t:∀x,h (u0 f x)):W0 h f:=t ()
abbrev u1 (f:A→Z) (p:A):Z:=f p
abbrev W1 (h:Z→Prop) (f:A→Z):Prop:=∀a,h (f a)
theorem w1 {f:A→Z}(t:∀x,h (u1 f x)):W1 h f:=fun a=>t a
abbrev u2 (f:A→B→Z) (p:A×B):Z:=f p.1 p.2
abbrev W2 (h:Z→Prop) (f:A→B→Z):Prop:=∀a0 a1,h (f a0 a1)
theorem w2 {f:A→B→Z}(t:∀x,h (u2 f x)):W2 h f:=fun a0 a1=>t (a0,a1)
abbrev u3 (f:A→B→C→Z) (p:A×B×C):Z:=f p.1 p.2.1 p.2.2
abbrev W3 (h:Z→Prop) (f:A→B→C→Z):Prop:=∀a0 a1 a2,h (f a0 a1 a2)
theorem w3 {f:A→B→C→Z}(t:∀x,h (u3 f x)):W3 h f:=fun a0 a1 a2=>t (a0,a1,a2)
abbrev u4 (f:A→B→C→D→Z) (p:A×B×C×D):Z:=f p.1 p.2.1 p.2.2.1 p.2.2.2
abbrev W4 (h:Z→Prop) (f:A→B→C→D→Z):Prop:=∀a0 a1 a2 a3,h (f a0 a1 a2 a3)
theorem w4 {f:A→B→C→D→Z}(t:∀x,h (u4 f x)):W4 h f:=fun a0 a1 a2 a3=>t (a0,a1,a2,a3)
abbrev u5 (f:A→B→C→D→E→Z) (p:A×B×C×D×E):Z:=f p.1 p.2.1 p.2.2.1 p.2.2.2.1 p.2.2.2.2
abbrev W5 (h:Z→Prop) (f:A→B→C→D→E→Z):Prop:=∀a0 a1 a2 a3 a4,h (f a0 a1 a2 a3 a4)
theorem w5 {f:A→B→C→D→E→Z}(t:∀x,h (u5 f x)):W5 h f:=fun a0 a1 a2 a3 a4=>t (a0,a1,a2,a3,a4)
abbrev u6 (f:A→B→C→D→E→F→Z) (p:A×B×C×D×E×F):Z:=f p.1 p.2.1 p.2.2.1 p.2.2.2.1 p.2.2.2.2.1 p.2.2.2.2.2
abbrev W6 (h:Z→Prop) (f:A→B→C→D→E→F→Z):Prop:=∀a0 a1 a2 a3 a4 a5,h (f a0 a1 a2 a3 a4 a5)
theorem w6 {f:A→B→C→D→E→F→Z}(t:∀x,h (u6 f x)):W6 h f:=fun a0 a1 a2 a3 a4 a5=>t (a0,a1,a2,a3,a4,a5)
abbrev u7 (f:A→B→C→D→E→F→G→Z) (p:A×B×C×D×E×F×G):Z:=f p.1 p.2.1 p.2.2.1 p.2.2.2.1 p.2.2.2.2.1 p.2.2.2.2.2.1 p.2.2.2.2.2.2
abbrev W7 (h:Z→Prop) (f:A→B→C→D→E→F→G→Z):Prop:=∀a0 a1 a2 a3 a4 a5 a6,h (f a0 a1 a2 a3 a4 a5 a6)
theorem w7 {f:A→B→C→D→E→F→G→Z}(t:∀x,h (u7 f x)):W7 h f:=fun a0 a1 a2 a3 a4 a5 a6=>t (a0,a1,a2,a3,a4,a5,a6)
abbrev u8 (f:A→B→C→D→E→F→G→H→Z) (p:A×B×C×D×E×F×G×H):Z:=f p.1 p.2.1 p.2.2.1 p.2.2.2.1 p.2.2.2.2.1 p.2.2.2.2.2.1 p.2.2.2.2.2.2.1 p.2.2.2.2.2.2.2
abbrev u9 (f:A→B→C→D→E→F→G→H→I→Z) (p:A×B×C×D×E×F×G×H×I):Z:=f p.1 p.2.1 p.2.2.1 p.2.2.2.1 p.2.2.2.2.1 p.2.2.2.2.2.1 p.2.2.2.2.2.2.1 p.2.2.2.2.2.2.2.1 p.2.2.2.2.2.2.2.2
abbrev W9 (h:Z→Prop) (f:A→B→C→D→E→F→G→H→I→Z):Prop:=∀a0 a1 a2 a3 a4 a5 a6 a7 a8,h (f a0 a1 a2 a3 a4 a5 a6 a7 a8)
theorem w9 {f:A→B→C→D→E→F→G→H→I→Z}(t:∀x,h (u9 f x)):W9 h f:=fun a0 a1 a2 a3 a4 a5 a6 a7 a8=>t (a0,a1,a2,a3,a4,a5,a6,a7,a8)
abbrev u10 (f:A→B→C→D→E→F→G→H→I→J→Z) (p:A×B×C×D×E×F×G×H×I×J):Z:=f p.1 p.2.1 p.2.2.1 p.2.2.2.1 p.2.2.2.2.1 p.2.2.2.2.2.1 p.2.2.2.2.2.2.1 p.2.2.2.2.2.2.2.1 p.2.2.2.2.2.2.2.2.1 p.2.2.2.2.2.2.2.2.2
abbrev W10 (h:Z→Prop) (f:A→B→C→D→E→F→G→H→I→J→Z):Prop:=∀a0 a1 a2 a3 a4 a5 a6 a7 a8 a9,h (f a0 a1 a2 a3 a4 a5 a6 a7 a8 a9)
theorem w10 {f:A→B→C→D→E→F→G→H→I→J→Z}(t:∀x,h (u10 f x)):W10 h f:=fun a0 a1 a2 a3 a4 a5 a6 a7 a8 a9=>t (a0,a1,a2,a3,a4,a5,a6,a7,a8,a9)
abbrev u11 (f:A→B→C→D→E→F→G→H→I→J→K→Z) (p:A×B×C×D×E×F×G×H×I×J×K):Z:=f p.1 p.2.1 p.2.2.1 p.2.2.2.1 p.2.2.2.2.1 p.2.2.2.2.2.1 p.2.2.2.2.2.2.1 p.2.2.2.2.2.2.2.1 p.2.2.2.2.2.2.2.2.1 p.2.2.2.2.2.2.2.2.2.1 p.2.2.2.2.2.2.2.2.2.2
abbrev W11 (h:Z→Prop) (f:A→B→C→D→E→F→G→H→I→J→K→Z):Prop:=∀a0 a1 a2 a3 a4 a5 a6 a7 a8 a9 a10,h (f a0 a1 a2 a3 a4 a5 a6 a7 a8 a9 a10)
theorem w11 {f:A→B→C→D→E→F→G→H→I→J→K→Z}(t:∀x,h (u11 f x)):W11 h f:=fun a0 a1 a2 a3 a4 a5 a6 a7 a8 a9 a10=>t (a0,a1,a2,a3,a4,a5,a6,a7,a8,a9,a10)
abbrev u12 (f:A→B→C→D→E→F→G→H→I→J→K→L→Z) (p:A×B×C×D×E×F×G×H×I×J×K×L):Z:=f p.1 p.2.1 p.2.2.1 p.2.2.2.1 p.2.2.2.2.1 p.2.2.2.2.2.1 p.2.2.2.2.2.2.1 p.2.2.2.2.2.2.2.1 p.2.2.2.2.2.2.2.2.1 p.2.2.2.2.2.2.2.2.2.1 p.2.2.2.2.2.2.2.2.2.2.1 p.2.2.2.2.2.2.2.2.2.2.2
abbrev W12 (h:Z→Prop) (f:A→B→C→D→E→F→G→H→I→J→K→L→Z):Prop:=∀a0 a1 a2 a3 a4 a5 a6 a7 a8 a9 a10 a11,h (f a0 a1 a2 a3 a4 a5 a6 a7 a8 a9 a10 a11)
theorem w12 {f:A→B→C→D→E→F→G→H→I→J→K→L→Z}(t:∀x,h (u12 f x)):W12 h f:=fun a0 a1 a2 a3 a4 a5 a6 a7 a8 a9 a10 a11=>t (a0,a1,a2,a3,a4,a5,a6,a7,a8,a9,a10,a11)
abbrev u13 (f:A→B→C→D→E→F→G→H→I→J→K→L→M→Z) (p:A×B×C×D×E×F×G×H×I×J×K×L×M):Z:=f p.1 p.2.1 p.2.2.1 p.2.2.2.1 p.2.2.2.2.1 p.2.2.2.2.2.1 p.2.2.2.2.2.2.1 p.2.2.2.2.2.2.2.1 p.2.2.2.2.2.2.2.2.1 p.2.2.2.2.2.2.2.2.2.1 p.2.2.2.2.2.2.2.2.2.2.1 p.2.2.2.2.2.2.2.2.2.2.2.1 p.2.2.2.2.2.2.2.2.2.2.2.2
abbrev W13 (h:Z→Prop) (f:A→B→C→D→E→F→G→H→I→J→K→L→M→Z):Prop:=∀a0 a1 a2 a3 a4 a5 a6 a7 a8 a9 a10 a11 a12,h (f a0 a1 a2 a3 a4 a5 a6 a7 a8 a9 a10 a11 a12)
theorem w13 {f:A→B→C→D→E→F→G→H→I→J→K→L→M→Z}(t:∀x,h (u13 f x)):W13 h f:=fun a0 a1 a2 a3 a4 a5 a6 a7 a8 a9 a10 a11 a12=>t (a0,a1,a2,a3,a4,a5,a6,a7,a8,a9,a10,a11,a12)
abbrev u18 (f:A→B→C→D→E→F→G→H→I→J→K→L→M→N→O→P→Q→R→Z) (p:A×B×C×D×E×F×G×H×I×J×K×L×M×N×O×P×Q×R):Z:=f p.1 p.2.1 p.2.2.1 p.2.2.2.1 p.2.2.2.2.1 p.2.2.2.2.2.1 p.2.2.2.2.2.2.1 p.2.2.2.2.2.2.2.1 p.2.2.2.2.2.2.2.2.1 p.2.2.2.2.2.2.2.2.2.1 p.2.2.2.2.2.2.2.2.2.2.1 p.2.2.2.2.2.2.2.2.2.2.2.1 p.2.2.2.2.2.2.2.2.2.2.2.2.1 p.2.2.2.2.2.2.2.2.2.2.2.2.2.1 p.2.2.2.2.2.2.2.2.2.2.2.2.2.2.1 p.2.2.2.2.2.2.2.2.2.2.2.2.2.2.2.1 p.2.2.2.2.2.2.2.2.2.2.2.2.2.2.2.2.1 p.2.2.2.2.2.2.2.2.2.2.2.2.2.2.2.2.2
abbrev W18 (h:Z→Prop) (f:A→B→C→D→E→F→G→H→I→J→K→L→M→N→O→P→Q→R→Z):Prop:=∀a0 a1 a2 a3 a4 a5 a6 a7 a8 a9 a10 a11 a12 a13 a14 a15 a16 a17,h (f a0 a1 a2 a3 a4 a5 a6 a7 a8 a9 a10 a11 a12 a13 a14 a15 a16 a17)
theorem w18 {f:A→B→C→D→E→F→G→H→I→J→K→L→M→N→O→P→Q→R→Z}(t:∀x,h (u18 f x)):W18 h f:=fun a0 a1 a2 a3 a4 a5 a6 a7 a8 a9 a10 a11 a12 a13 a14 a15 a16 a17=>t (a0,a1,a2,a3,a4,a5,a6,a7,a8,a9,a10,a11,a12,a13,a14,a15,a16,a17)
abbrev u19 (f:A→B→C→D→E→F→G→H→I→J→K→L→M→N→O→P→Q→R→S→Z) (p:A×B×C×D×E×F×G×H×I×J×K×L×M×N×O×P×Q×R×S):Z:=f p.1 p.2.1 p.2.2.1 p.2.2.2.1 p.2.2.2.2.1 p.2.2.2.2.2.1 p.2.2.2.2.2.2.1 p.2.2.2.2.2.2.2.1 p.2.2.2.2.2.2.2.2.1 p.2.2.2.2.2.2.2.2.2.1 p.2.2.2.2.2.2.2.2.2.2.1 p.2.2.2.2.2.2.2.2.2.2.2.1 p.2.2.2.2.2.2.2.2.2.2.2.2.1 p.2.2.2.2.2.2.2.2.2.2.2.2.2.1 p.2.2.2.2.2.2.2.2.2.2.2.2.2.2.1 p.2.2.2.2.2.2.2.2.2.2.2.2.2.2.2.1 p.2.2.2.2.2.2.2.2.2.2.2.2.2.2.2.2.1 p.2.2.2.2.2.2.2.2.2.2.2.2.2.2.2.2.2.1 p.2.2.2.2.2.2.2.2.2.2.2.2.2.2.2.2.2.2
abbrev W19 (h:Z→Prop) (f:A→B→C→D→E→F→G→H→I→J→K→L→M→N→O→P→Q→R→S→Z):Prop:=∀a0 a1 a2 a3 a4 a5 a6 a7 a8 a9 a10 a11 a12 a13 a14 a15 a16 a17 a18,h (f a0 a1 a2 a3 a4 a5 a6 a7 a8 a9 a10 a11 a12 a13 a14 a15 a16 a17 a18)
theorem w19 {f:A→B→C→D→E→F→G→H→I→J→K→L→M→N→O→P→Q→R→S→Z}(t:∀x,h (u19 f x)):W19 h f:=fun a0 a1 a2 a3 a4 a5 a6 a7 a8 a9 a10 a11 a12 a13 a14 a15 a16 a17 a18=>t (a0,a1,a2,a3,a4,a5,a6,a7,a8,a9,a10,a11,a12,a13,a14,a15,a16,a17,a18)
abbrev u28 (f:A→B→C→D→E→F→G→H→I→J→K→L→M→N→O→P→Q→R→S→T→U→V→W→X→Y→A'→B'→C'→Z) (p:A×B×C×D×E×F×G×H×I×J×K×L×M×N×O×P×Q×R×S×T×U×V×W×X×Y×A'×B'×C'):Z:=f p.1 p.2.1 p.2.2.1 p.2.2.2.1 p.2.2.2.2.1 p.2.2.2.2.2.1 p.2.2.2.2.2.2.1 p.2.2.2.2.2.2.2.1 p.2.2.2.2.2.2.2.2.1 p.2.2.2.2.2.2.2.2.2.1 p.2.2.2.2.2.2.2.2.2.2.1 p.2.2.2.2.2.2.2.2.2.2.2.1 p.2.2.2.2.2.2.2.2.2.2.2.2.1 p.2.2.2.2.2.2.2.2.2.2.2.2.2.1 p.2.2.2.2.2.2.2.2.2.2.2.2.2.2.1 p.2.2.2.2.2.2.2.2.2.2.2.2.2.2.2.1 p.2.2.2.2.2.2.2.2.2.2.2.2.2.2.2.2.1 p.2.2.2.2.2.2.2.2.2.2.2.2.2.2.2.2.2.1 p.2.2.2.2.2.2.2.2.2.2.2.2.2.2.2.2.2.2.1 p.2.2.2.2.2.2.2.2.2.2.2.2.2.2.2.2.2.2.2.1 p.2.2.2.2.2.2.2.2.2.2.2.2.2.2.2.2.2.2.2.2.1 p.2.2.2.2.2.2.2.2.2.2.2.2.2.2.2.2.2.2.2.2.2.1 p.2.2.2.2.2.2.2.2.2.2.2.2.2.2.2.2.2.2.2.2.2.2.1 p.2.2.2.2.2.2.2.2.2.2.2.2.2.2.2.2.2.2.2.2.2.2.2.1 p.2.2.2.2.2.2.2.2.2.2.2.2.2.2.2.2.2.2.2.2.2.2.2.2.1 p.2.2.2.2.2.2.2.2.2.2.2.2.2.2.2.2.2.2.2.2.2.2.2.2.2.1 p.2.2.2.2.2.2.2.2.2.2.2.2.2.2.2.2.2.2.2.2.2.2.2.2.2.2.1 p.2.2.2.2.2.2.2.2.2.2.2.2.2.2.2.2.2.2.2.2.2.2.2.2.2.2.2
abbrev W28 (h:Z→Prop) (f:A→B→C→D→E→F→G→H→I→J→K→L→M→N→O→P→Q→R→S→T→U→V→W→X→Y→A'→B'→C'→Z):Prop:=∀a0 a1 a2 a3 a4 a5 a6 a7 a8 a9 a10 a11 a12 a13 a14 a15 a16 a17 a18 a19 a20 a21 a22 a23 a24 a25 a26 a27,h (f a0 a1 a2 a3 a4 a5 a6 a7 a8 a9 a10 a11 a12 a13 a14 a15 a16 a17 a18 a19 a20 a21 a22 a23 a24 a25 a26 a27)
theorem w28 {f:A→B→C→D→E→F→G→H→I→J→K→L→M→N→O→P→Q→R→S→T→U→V→W→X→Y→A'→B'→C'→Z}(t:∀x,h (u28 f x)):W28 h f:=fun a0 a1 a2 a3 a4 a5 a6 a7 a8 a9 a10 a11 a12 a13 a14 a15 a16 a17 a18 a19 a20 a21 a22 a23 a24 a25 a26 a27=>t (a0,a1,a2,a3,a4,a5,a6,a7,a8,a9,a10,a11,a12,a13,a14,a15,a16,a17,a18,a19,a20,a21,a22,a23,a24,a25,a26,a27)
end
section
variable {α:Type}
abbrev QA:=List CV×Prop×Res
abbrev QM:=(List CV×KH)×Prop×Res×KH
abbrev QP:=(List CV×KH)×Int×Prop×Res×KH
abbrev QB:=List CV×Int×Prop×Res×Res
abbrev hA (s:Spec) (p:QA):Prop:=s p.1=some p.2
abbrev hM (s:MSpec) (p:QM):Prop:=s p.1.1 p.1.2=some p.2
abbrev hP (s:MSpec) (e:ESpec) (p:QP):Prop:=s p.1.1 p.1.2=some p.2.2∧e p.1.1 p.1.2=p.2.1
abbrev hB (s s2:Spec) (e:QSpec) (p:QB):Prop:=s p.1=some (p.2.2.1,p.2.2.2.1)∧s2 p.1=some (p.2.2.1,p.2.2.2.2)∧e p.1=p.2.1
def spQ (q:α→QA):Spec:=spOf (fun x=>(q x).1) fun x=>(q x).2
def mspQ (q:α→QM):MSpec:=jnu (fun x=>(q x).1) fun x=>(q x).2
def mspR (q:α→QP):MSpec:=jnu (fun x=>(q x).1) fun x=>(q x).2.2
def espR (q:α→QP):ESpec:=jww (fun x=>(q x).1) fun x=>(q x).2.1
abbrev InP (q:α→QP):Prop:=InjM fun x=>(q x).1
theorem aA {q:α→QA}{s:Spec}(e:s=spQ q) (i:InjS (fun x=>(q x).1):=by exact injS) (x:α):hA s (q x):=by
 subst e
 exact jyT _ i x
theorem aM {q:α→QM}{s:MSpec}(e:s=mspQ q) (i:InjM (fun x=>(q x).1):=by exact injM) (x:α):hM s (q x):=by
 subst e
 exact jqa _ i x
theorem aP {q:α→QP}{s:MSpec}{e:ESpec}(h1:s=mspR q) (h2:e=espR q) (i:InP q) (x:α):hP s e (q x):=by
 subst h1 h2
 exact⟨jqa _ i x,jqb _ i x⟩
end
section
variable {α:Type}{P:Program}{E:Nat→Option (List CV)}{F:FuncId}
theorem ofA (q:α→QA){s:Spec}(t:∀x,(q x).2.1→TF P E F (q x).1 [] (q x).2.2 []) (e:s=spQ q:=by rfl):Alias P E F s:=by
 subst e
 exact Alias.of t
theorem ofT (q:α→QA){s:Spec}(t:∀x,(q x).2.1→TF P E F (q x).1 [] (jbn 0 (q x).2.2).1 (jbn 0 (q x).2.2).2) (e:s=spQ q:=by rfl):Fresh P E F s:=by
 subst e
 exact Fresh.of t
theorem ofF (q:α→QA){s:Spec}(al:Alias P E F s) (h:∀x,jbn 0 (q x).2.2=((q x).2.2,[])) (e:s=spQ q:=by rfl):Fresh P E F s:=by
 subst e
 exact Alias.fresh al h
theorem ofM (q:α→QM){s:MSpec}(t:∀x,(q x).2.1→TF P E F (q x).1.1 (q x).1.2 (q x).2.2.1 (q x).2.2.2) (e:s=mspQ q:=by rfl):MutF P E F s:=by
 subst e
 exact MutF.of t
theorem ofP (q:α→QP){s:MSpec}{r:ESpec}(i:InP q) (t:∀x,(q x).2.2.1→TF P E F (q x).1.1 (q x).1.2 (resP (q x).2.1 (q x).2.2.2.1) (memP (q x).2.1 (q x).2.2.2.2 (q x).1.2.length)) (e:s=mspR q:=by rfl) (e2:r=espR q:=by rfl):MutP P E F s r:=by
 subst e e2
 exact MutP.of i t
end
abbrev Al (F:FuncId) (s:Spec):Prop:=Alias Tryz.prog E0 F s
abbrev Fre (F:FuncId) (s:Spec):Prop:=Fresh Tryz.prog E0 F s
abbrev Mu (F:FuncId) (s:MSpec):Prop:=MutF Tryz.prog E0 F s
abbrev Mp (F:FuncId) (s:MSpec) (e:ESpec):Prop:=MutP Tryz.prog E0 F s e
section
variable {P:Program}{E:Nat→Option (List CV)}{F:FuncId}{eqs:List (TypeId×List IntKind)}{lc:LC}{ld:LD}{ts:List RV}{nt:NT}{r:List (FuncId×Con)}{s s2:Spec}{ms:MSpec}{es:ESpec}{qs:QSpec}
theorem GOk.a (ks:List AK) (k:jad P eqs F lc ts nt=true) (h:Alias P E F s) (g:GOk P E r):GOk P E ((F,conA ks s)::r):=.cons (jaY k) (Alias.soundA h) g
theorem GOk.t (ks:List AK) (k:jad P eqs F lc ts nt=true) (h:Fresh P E F s) (g:GOk P E r):GOk P E ((F,conT ks s)::r):=.cons (jaY k) (Fresh.soundT h) g
theorem GOk.f (ks:List AK) (k:jad P eqs F lc ts nt=true) (h:Fresh P E F s) (g:GOk P E r):GOk P E ((F,conF ks s)::r):=.cons (jaY k) (Fresh.soundF h) g
theorem GOk.m (k:jad P eqs F lc ts nt=true) (h:MutF P E F ms) (g:GOk P E r):GOk P E ((F,conM ms)::r):=.cons (jaY k) (MutF.soundM h) g
theorem GOk.p (k:jad P eqs F lc ts nt=true) (h:MutP P E F ms es) (g:GOk P E r):GOk P E ((F,conP ms es)::r):=.cons (jaY k) (MutP.soundP h) g
end
section
variable {G:List (FuncId×Con)}{F:FuncId}{lc:LC}{ld:LD}{ts:List RV}{nt:NT}{args:List CV}{h:KH}{r:Res}{h':KH}
theorem tfi (g:GOk Tryz.prog E0 G) (n0:Nat) (k:jad Tryz.prog eqs0 F lc ts nt=true) (t:T (VV G g nt n0) lc (retQ (VV G g nt n0).X.E (VV G g nt n0).n0 ts r h') ⟨jcq 0 args,h⟩) (hn:h.length=n0:=by rfl):TF Tryz.prog E0 F args h r h':=TF.intro (V:=VV G g nt n0) k rfl hn t
theorem tfd (g:GOk Tryz.prog E0 G) (n0:Nat) (k:jjJ Tryz.prog eqs0 F ld ts nt=true) (t:TD (VV G g nt n0) ts r h' ld ⟨jcq 0 args,h⟩) (hn:h.length=n0:=by rfl):TF Tryz.prog E0 F args h r h':=TFD.intro (V:=VV G g nt n0) k rfl hn t
end
theorem zc:Hk True:=⟨trivial⟩
theorem SAM:type_of% (qab SA MB):=qab SA MB
theorem tU {p q:Prop}(k:q) (h:Hk q→p:=by
 intro hq
 (fail_if_success with_reducible exact True.intro)
 first
 | (simp only[PB,SAM,seval,rdB,Hk.out zc];exact Hk.out hq)
 | (refine (fun (_:Hk True)=>?_) hq;simp only[PB,SAM,seval,rdB,Hk.out zc];done)
 | (simp only[hw];exact Hk.out hq)
 | (refine (fun (_:Hk True)=>?_) hq;simp only[hw];done)
 | (simp only[hw2];exact Hk.out hq)
 | (refine (fun (_:Hk True)=>?_) hq;simp only[hw2];done)
 | (simp only[hw3];exact Hk.out hq)
 | (refine (fun (_:Hk True)=>?_) hq;simp only[hw3];done)
 | (simp only[hw4];exact Hk.out hq)
 | (refine (fun (_:Hk True)=>?_) hq;simp only[hw4];done)
 | (simp only[hw5];exact Hk.out hq)
 | (refine (fun (_:Hk True)=>?_) hq;simp only[hw5];done)
 | exact T.seq (Hk.out hq)|exact T.stm (Hk.out hq)|exact T.rg (Hk.out hq)|exact jBt (Hk.out hq)|exact jBu (Hk.out hq)|exact jBv (Hk.out hq)|exact T.cond (Hk.out hq)|exact T.skip (Hk.out hq)|exact T.ret (Hk.out hq)|exact T.exit (Hk.out hq)|exact T.block (Hk.out hq)
 | (refine (fun (_:Hk True)=>?_) hq;intro p0;have hyp:=p0;(try simp only[HB,ne_eq,reduceCtorEq]at hyp);(try simp only[p0]);(try clear p0);first|done|(exfalso;omega))):p:=h ⟨k⟩
theorem tZ {p:Prop}(h:p:=by with_reducible exact True.intro):p:=h
theorem tF {p:Prop}(h:p:=by simp only[PB,SAM,seval,rdB,Hk.out zc]<;>exact tE):p:=h
theorem tG {p:Prop}(h:p:=by (simp only[PB,SAM,seval,rdB,Hk.out zc]);first|done|(repeat' apply qab)<;>first|rfl|omega|simp):p:=h
end
end
end Go.Proofs.YtienkkicehmchaaGreatDoor
