/- Texts of this claim, merged by a program of this claim: Door, DoorS. -/
import Derived.Test.YtienkkicehmchaaGreatDoorDl15
import Derived.Test.YtienkkicehmchaaGreatDoorDl20
import Derived.Test.YtienkkicehmchaaGreatDoorCards
import Derived.Test.YtienkkicehmchaaGreatDoorTie
import Derived.WalkKit
import Derived.ProofKit
import Derived.OpenShut
import Derived.Below
import Derived.SizedLaws
import Derived.LaidLaws
import Derived.Deep.DeepHandedRow
import Derived.Deep.Slices
import Derived.Deep.Fields
import Derived.ChangeSame
import Derived.ChangeAt
import Derived.Lib.SmallJoins
import Derived.Lib.LaidTab
import Derived.Stop.LaidErr
namespace Go.Proofs.YtienkkicehmchaaGreatDoor
open List renaming flatMap_cons→qaa,length_append→qab,length_cons→qac,length→qad
noncomputable section
set_option linter.unusedVariables false
set_option linter.unusedSimpArgs false
section
open Go.ChangeShapes Go.WideShapes Go.ChangeAt Go.RowKit Go.Deep Go.Joins
set_option maxRecDepth 100000
theorem jnv {α:Type}(f:Int→α) (n:Nat):∀(rows:List (List Int)) (cs:List α),cs.length=rows.length*n→(∀i r,rows[i]?=some r→(cs.drop (i*n)).take n=r.map f)→cs=rows.flatten.map f
 | [],cs,hl,_=>by simp at hl;subst hl;rfl
 | r::rows,cs,hl,h=>by
  have h0:=h 0 r rfl
  simp only[Nat.zero_mul,List.drop_zero]at h0
  have ih:=jnv f n rows (cs.drop n) (by simp at hl ⊢;rw[hl,Nat.add_mul];omega) (fun i r' hr=>by
   have:=h (i+1) r' (by simpa using hr)
   rw[List.drop_drop]
   rw[show n+i*n=(i+1)*n from by rw[Nat.add_mul];omega]
   exact this)
  rw[←List.take_append_drop n cs,h0,ih]
  simp
theorem jlT {H:Type}{enc:TypeId×Value→H}{P:Program}{w:World}{base:Nat}{sp:Nat→Bool}{held:Bool}{fuel:Nat}{t e e':TypeId}{m n:Nat}{k:IntKind}{cs:List Value}{rows:List (List Int)}{p:List MemPlace}
  (ht:P.underlying t=some (.array m e)) (he:P.underlying e=some (.array n e')) (hi:P.underlying e'=some (.int k)) (hce':P.cellsOf e'=1) (hce:P.cellsOf e=n) (hct:P.cellsOf t=m*n)
  (h:DataW.trod enc P w base sp held fuel t cs=some (.agg (rows.map (Lib.tabData k)),p)):cs=rows.flatten.map fun z=>Value.int k z:=by
 obtain⟨xs,f,_,hx,hl,hxl,hg⟩:=DataW.trod_array ht h
 have hrows:rows.map (Lib.tabData k)=xs.map (·.1):=by
  have:=congrArg Prod.fst hx
  simpa using this
 have hrl:rows.length=m:=by
  have:=congrArg qad hrows
  simpa[hxl] using this
 refine jnv _ n rows cs (by rw[hl,hct,hrl]) fun i r hr=>?_
 have him:i<m:=by rw[←hrl];exact (List.getElem?_eq_some_iff.1 hr).1
 have h1:=hg i him
 rw[hce]at h1
 have h2:(xs.map (·.1))[i]?=some (Lib.tabData k r):=by rw[←hrows];simp[hr]
 rw[List.getElem?_map]at h2
 obtain⟨y,hy,hy2⟩:=Option.map_eq_some_iff.1 h2
 rw[hy]at h1
 obtain⟨y1,y2⟩:=y
 simp only at hy2
 subst hy2
 exact Lib.cells_of_tab he hi hce' hce h1
theorem jhZ {P:Program}{W:World}{name:String}{k:IntKind}{rows:List (List Int)}{rest:List (String×DataW Unit)}{g:Nat}{t e e':TypeId}{m n:Nat}
  (hg:P.globalNamed name=some g) (hty:(P.globals[g]?).map (·.type)=some t) (ht:P.underlying t=some (.array m e)) (he:P.underlying e=some (.array n e')) (hi:P.underlying e'=some (.int k)) (hce':P.cellsOf e'=1) (hce:P.cellsOf e=n) (hct:P.cellsOf t=m*n)
  (h:laidMet P ((name,.agg (rows.map (Lib.tabData k)))::rest) W):Lib.TabIs P W name k rows.flatten:=by
 obtain⟨ps,⟨g',t',cs,fuel,p,q,hg',ht',hvar,hd,_,_⟩,_⟩:=h
 obtain rfl:=Option.some.inj (hg.symm.trans hg')
 obtain rfl:=Option.some.inj (hty.symm.trans ht')
 unfold Lib.TabIs
 rw[hvar,←jlT ht he hi hce' hce hct hd]
theorem own:ownKnob Tryz.prog.godebug=none:=by kernel_rfl
theorem joC:laidOutB Tryz.prog=true:=by kernel_rfl
theorem jym:Tryz.prog.globalNamed "spyglass/utf.none" = some 0:=by kernel_rfl
theorem jtM:(Tryz.prog.globals[0]?).map (·.type)=some 154:=by kernel_rfl
theorem jyn:Tryz.prog.globalNamed "spyglass/utf.wide" = some 1:=by kernel_rfl
theorem jtN:(Tryz.prog.globals[1]?).map (·.type)=some 155:=by kernel_rfl
theorem jxz:Tryz.prog.cellsOf 154=3*2:=by kernel_rfl
theorem jtO:Tryz.prog.cellsOf 153=2:=by kernel_rfl
theorem jtP:Tryz.prog.cellsOf 21=1:=by kernel_rfl
theorem jxA:Tryz.prog.cellsOf 155=10*2:=by kernel_rfl
theorem jh0 {W:World}{name:String}{g:Nat}{zs:List Int}(hg:Tryz.prog.globalNamed name=some g) (h:Lib.TabIs Tryz.prog W name .i32 zs):∃t fr,W.heap[g]?=some (.cells (zs.map (Value.int .i32)).toArray t fr):=by
 unfold Lib.TabIs World.var? at h
 rw[hg]at h
 simp only[Option.bind_some]at h
 split at h
 ·rename_i cs t fr e
  injection h with h
  subst h
  exact⟨_,_,e⟩
 ·cases h
def Tab (w:World):Prop:=(∃t fr,w.heap[0]?=some (.cells ((Utf.nones.flatten).map (Value.int .i32)).toArray t fr))∧(∃t fr,w.heap[1]?=some (.cells ((Utf.wides.flatten).map (Value.int .i32)).toArray t fr))
theorem jyG {W:World}(h:laidMet Tryz.prog [("spyglass/utf.none",Rows.laid_spyglass_utf_none),("spyglass/utf.wide",Rows.laid_spyglass_utf_wide)] W):Tab W:=by
 have h1:Lib.TabIs Tryz.prog W "spyglass/utf.none" .i32 Utf.nones.flatten :=
  jhZ (rest:=[("spyglass/utf.wide",Rows.laid_spyglass_utf_wide)]) (rows:=Utf.nones) jym jtM Tryz.underlying154 Tryz.underlying153 Tryz.underlying21 jtP jtO jxz h
 have h2:Lib.TabIs Tryz.prog W "spyglass/utf.wide" .i32 Utf.wides.flatten :=
  jhZ (rest:=[]) (rows:=Utf.wides) jyn jtN Tryz.underlying155 Tryz.underlying153 Tryz.underlying21 jtP jtO jxA h.tail
 exact⟨jh0 jym h1,jh0 jyn h2⟩
theorem jtQ {x:Int}(h:(Lit.int .i32 x).wf=true):-2147483648≤x∧x≤2147483647:=by
 simp[Lit.wf,IntKind.min,IntKind.max,IntKind.signed,IntKind.bits]at h
 omega
theorem jlU {x:Int}(h:(Lit.int .u8 x).wf=true):0≤x∧x<256:=by
 simp[Lit.wf,IntKind.min,IntKind.max,IntKind.signed,IntKind.bits]at h
 omega
theorem jtR {x:Int}(h:(Lit.int .u16 x).wf=true):0≤x∧x<65536:=by
 simp[Lit.wf,IntKind.min,IntKind.max,IntKind.signed,IntKind.bits]at h
 omega
theorem jnw {x:Int}(h:(Lit.int .u32 x).wf=true):0≤x∧x<4294967296:=by
 simp[Lit.wf,IntKind.min,IntKind.max,IntKind.signed,IntKind.bits]at h
 omega
theorem jtS {x:Int}(h:(Lit.int .i64 x).wf=true):-9223372036854775808≤x∧x≤9223372036854775807:=by
 simp[Lit.wf,IntKind.min,IntKind.max,IntKind.signed,IntKind.bits]at h
 omega
def jvA (w:World) (A:Option Addr) (cs:List Value):Prop:=cs≠[]→∃b o,A=some ⟨b,o,none⟩∧∀j u,cs[j]?=some u→w.cell? ⟨b,o+j,none⟩=some u
section
variable {H:Type}{enc:TypeId×Value→H}{P:Program}{w:World}{base:Nat}{spare:Nat→Bool}{held:Bool}
theorem jel {t e:TypeId}{C:Nat}{fuel:Nat}{cs:List Value}{x:DataW H×List MemPlace}(ht:P.underlying t=some (.slice e)) (hC:P.cellsOf e=C)
  (h:DataW.trod enc P w base spare held fuel t cs=some x) :
  cs=[.slice none 0 0] ∨
  ∃(a:Addr) (len cap m:Nat),cs=[.slice (some a) len cap]∧len≤cap∧cap≤maxLen∧len≤m ∧
   ∀i,i<m→∃(ys:List Value) (n:Nat) (y:DataW H×List MemPlace),ys.length=C∧(∀j,j<C→w.cell? (a.add (i*C+j))=ys[j]?)∧DataW.trod enc P w base spare held n e ys=some y:=by
 rcases open_slice ht h with h0|⟨a,len,cap,m,n,D,Pl,hcs,hb,hl,hm,hmm,hx,hi⟩
 ·exact .inl h0.1
 ·refine .inr ⟨a,len,cap,m,hcs,hl,hm,by rw[hmm];split<;>omega,fun i him=>?_⟩
  obtain⟨cs',hc,ht'⟩:=hi i him
  rw[hC]at hc
  obtain⟨_,hcl,hat⟩:=World.cells?_some hc
  exact⟨cs',n,_,hcl,fun j hj=>by rw[←Go.Deep.add_add];exact hat j hj,ht'⟩
theorem jf0 {t:TypeId}{fs:Array Field}{fuel:Nat}{cs:List Value}{x:DataW H×List MemPlace}(ht:P.underlying t=some (.struct fs)) (h:DataW.trod enc P w base spare held fuel t cs=some x) :
  cs.length=P.cellsOf t∧∃n,∀(j:Nat) (f:Field),fs[j]?=some f→∃y,DataW.trod enc P w base spare held n f.type ((cs.drop f.offset).take (P.cellsOf f.type))=some y:=by
 obtain⟨ys,n,hy,hlen,hl,hlx,hf⟩:=DataW.trod_struct ht h
 refine⟨by first|exact hl|exact hlen|exact hlx,n,fun j f hj=>?_⟩
 have hjl:j<fs.size:=(Array.getElem?_eq_some_iff.1 hj).1
 have h1:=hf j f hj
 have:j<ys.length:=by omega
 rw[List.getElem?_eq_getElem this]at h1
 exact⟨_,h1⟩
end
theorem jnx {α:Type}{w:World}{a:Addr}{k len:Nat}(e:α→List Value) (hk:0<k) (he:∀q,(e q).length=k) (R:α→Prop)
  (h:∀i,i<len→∃q,(∀j,j<k→w.cell? (a.add (i*k+j))=(e q)[j]?)∧R q) :
  ∃L:List α,L.length=len∧jvA w (some a) (L.flatMap e)∧∀q∈L,R q:=by
 have flen:∀L:List α,(L.flatMap e).length=L.length*k:=fun L=>by
  induction L with
  | nil=>simp
  | cons q L ih=>rw[qaa,qab,ih,he,qac,Nat.succ_mul,Nat.add_comm]
 have list:∀n,n≤len→∃L:List α,L.length=n∧(∀j u,(L.flatMap e)[j]?=some u→w.cell? (a.add j)=some u)∧∀q∈L,R q:=by
  intro n
  induction n with
  | zero=>exact fun _=>⟨[],rfl,(fun j u h=>by simp at h),fun _ h=>by cases h⟩
  | succ n ih =>
   intro hn
   obtain⟨L,hl,hc,hp⟩:=ih (by omega)
   obtain⟨q,hq,hqp⟩:=h n (by omega)
   refine⟨L++[q],by simp[hl],fun j u hu=>?_,fun p hp'=>?_⟩
   ·rw[List.flatMap_append,qaa,List.flatMap_nil,List.append_nil]at hu
    rcases Nat.lt_or_ge j (L.length*k)with h1|h1
    ·rw[List.getElem?_append_left (by rw[flen];exact h1)]at hu
     exact hc j u hu
    ·rw[List.getElem?_append_right (by rw[flen];exact h1),flen]at hu
     have hj:j-L.length*k<k:=Nat.lt_of_lt_of_eq (List.getElem?_eq_some_iff.1 hu).1 (he q)
     have:=hq (j-L.length*k) hj
     rw[hl]at this hu h1
     rw[show n*k+(j-n*k)=j by omega]at this
     rw[this,hu]
   ·rcases List.mem_append.1 hp' with h|h
    ·exact hp p h
    ·rw[List.mem_singleton.1 h];exact hqp
 obtain⟨L,hL,hc,hp⟩:=list len (Nat.le_refl _)
 refine⟨L,hL,fun hne=>?_,hp⟩
 obtain⟨b,off,spot⟩:=a
 have h0:0<(L.flatMap e).length:=List.length_pos_iff.2 hne
 have hc0:=hc 0 _ (List.getElem?_eq_getElem h0)
 have hspot:spot=none:=by simpa[Addr.add] using World.cell?_spot hc0
 subst hspot
 refine⟨b,off,rfl,fun j u hu=>?_⟩
 have e:(⟨b,off,none⟩:Addr).add j=⟨b,off+j,none⟩:=by unfold Addr.add;split<;>simp_all
 rw[←e]
 exact hc j u hu
abbrev jds (w:World):ZMap:=fun B=>w.heap[B]?
abbrev noF:LMap:=fun _=>none
theorem TF.row {P:Program}{E:Nat→Option (List CV)}{F:FuncId}{args:List CV}(t:TF P E F args [] (.ret (.bool true)) []) (w:World) (vs:Array Value) (hs:vs.size=args.length)
  (hr:∀(i:Nat) (c:CV) (v:Value),args[i]?=some c→vs[i]?=some v→VRel (jds w) noF c v) (hE:EnvOk E (jds w)) :
  Calls P F vs w fun e w'=>e=.returned (.bool true)∧Below w.heap.size w w' :=
 (t (jds w) noF w vs hs hr hE ⟨fun i=>trivial,fun i j li lj h=>(by cases h),fun i l h=>(by cases h),fun B o h=>h⟩ (fun i _=>rfl)).mono fun e w' ⟨z',f',he,d,s,hf⟩=>by
  refine⟨?_,⟨s.keep.os,s.keep.tape,s.keep.output,s.keep.size,fun k hk=>s.keep.block k hk fun⟨j,l,e,_⟩=>by cases e⟩⟩
  cases e<;>cases he<;>rfl
theorem jyH {w:World}(T:Tab w):EnvOk E0 (jds w):=fun g cs hg=>by
 obtain⟨⟨t1,r1,h1⟩,⟨t2,r2,h2⟩⟩:=T
 have key:∀(zs:List Int) (f:LMap) (k:Nat) (c:CV),(zs.map (CV.int .i32))[k]?=some c→∃v,((zs.map (Value.int .i32)).toArray)[k]?=some v∧VRel (jds w) f c v:=fun zs f k c hk=>by
  rw[List.getElem?_map]at hk
  obtain⟨z,hz,rfl⟩:=Option.map_eq_some_iff.1 hk
  exact⟨.int .i32 z,by simp[hz],.int .i32 z⟩
 unfold E0 at hg
 split at hg
 ·rename_i e
  subst e
  cases hg
  exact⟨_,t1,r1,h1,key _⟩
 ·split at hg
  ·rename_i e
   subst e
   cases hg
   exact⟨_,t2,r2,h2,key _⟩
  ·cases hg
theorem jpI {t:ETy}{w:World}{A:Option Addr}{L:List t.T}{cap:Nat}(e:t.T→List Value) (he:∀x,(e x).length=t.esz) (hv:∀(x:t.T) (k:Nat) (c:CV) (u:Value),(t.enc x)[k]?=some c→(e x)[k]?=some u→VRel (jds w) noF c u) (hz:∀x,(t.enc x).length=t.esz) (h0:0<t.esz)
  (hr:jvA w A (L.flatMap e)) (hL:L.length≤cap):VRel (jds w) noF (.vec t L) (.slice A L.length cap):=by
 have flen:∀L:List t.T,(L.flatMap e).length=L.length*t.esz:=fun L=>by
  induction L with
  | nil=>simp
  | cons q L ih=>rw[qaa,qab,ih,he,qac,Nat.succ_mul,Nat.add_comm]
 cases hc:L with
 | nil=>exact .vec0 t A cap
 | cons x0 L0 =>
  rw[←hc]
  have hpos:0<L.length:=by rw[hc];simp
  have hne:L.flatMap e≠[]:=fun q=>by
   have:=congrArg qad q
   rw[flen,List.length_nil]at this
   have:=Nat.mul_pos hpos h0
   omega
  obtain⟨b,o,rfl,hcell⟩:=hr hne
  have hlen:0<(L.flatMap e).length:=List.length_pos_iff.2 hne
  have hc0:=hcell 0 _ (List.getElem?_eq_getElem hlen)
  unfold World.cell? at hc0
  split at hc0
  ·rename_i rc T fr hb
   have hat:∀j u,(L.flatMap e)[j]?=some u→rc[o+j]?=some u:=fun j u hu=>by
    have:=hcell j u hu
    unfold World.cell? at this
    simp only at hb
    simp only[hb]at this
    simpa using this
   have each:∀(M:List t.T) (j:Nat) (x:t.T),M[j]?=some x→∀k,k<t.esz→(M.flatMap e)[j*t.esz+k]?=(e x)[k]?:=by
    intro M
    induction M with
    | nil=>intro j x h;simp at h
    | cons q M ih =>
     intro j x h k hk
     rw[qaa]
     cases j with
     | zero =>
      simp at h
      subst h
      rw[Nat.zero_mul,Nat.zero_add,List.getElem?_append_left (by rw[he];exact hk)]
     | succ j =>
      rw[List.getElem?_append_right (by rw[he,Nat.succ_mul];omega),he,show (j+1)*t.esz+k-t.esz=j*t.esz+k by rw[Nat.succ_mul];omega]
      exact ih j x (by simpa using h) k hk
   have hget:∀j x,L[j]?=some x→∀k c,(t.enc x)[k]?=some c→∃u,(e x)[k]?=some u∧rc[o+j*t.esz+k]?=some u:=fun j x hx k c hkc=>by
    have hk:k<t.esz:=by
     have:=(List.getElem?_eq_some_iff.1 hkc).1
     rwa [hz]at this
    obtain⟨u,hu⟩:∃u,(e x)[k]?=some u:=⟨_,List.getElem?_eq_getElem (by rw[he];exact hk)⟩
    refine⟨u,hu,?_⟩
    rw[Nat.add_assoc]
    exact hat _ _ ((each L j x hx k hk).trans hu)
   refine .vec t L b o cap rc T fr (fun j k=>(rc[o+j*t.esz+k]?).getD .nilFunc) hb hL (fun j x hx k c hkc=>?_) (fun j x hx k c hkc=>?_)
   ·obtain⟨u,_,h2⟩:=hget j x hx k c hkc
    rw[h2]
    rfl
   ·obtain⟨u,h1,h2⟩:=hget j x hx k c hkc
    rw[h2]
    exact hv x k c u hkc h1
  ·cases hc0
def jxB (c:CD):List Value:=[.int .i32 c.rune,.int .u8 c.wide,.int .u32 c.fg,.int .u32 c.bg,.int .u8 c.attrs,.int .u16 c.link]
theorem jtT {w:World}{A:Option Addr}{L:List CD}{cap:Nat}(hr:jvA w A (L.flatMap jxB)) (hL:L.length≤cap):VRel (jds w) noF (.vec .cell L) (.slice A L.length cap) :=
 jpI (t:=.cell) jxB (fun _=>rfl) (fun x k c u h1 h2=>by
  match k with
  | 0=>cases h1;cases h2;exact .int _ _
  | 1=>cases h1;cases h2;exact .int _ _
  | 2=>cases h1;cases h2;exact .int _ _
  | 3=>cases h1;cases h2;exact .int _ _
  | 4=>cases h1;cases h2;exact .int _ _
  | 5=>cases h1;cases h2;exact .int _ _
  | n+6=>cases h2) (fun _=>rfl) (by decide) hr hL
theorem jvB {w:World}{A:Option Addr}{L:List ByteArray}{cap:Nat}(hr:jvA w A (L.flatMap fun s=>[Value.string s])) (hL:L.length≤cap):VRel (jds w) noF (.vec .str L) (.slice A L.length cap) :=
 jpI (t:=.str) (fun s=>[Value.string s]) (fun _=>rfl) (fun x k c u h1 h2=>by
  match k with
  | 0=>cases h1;cases h2;exact .str _
  | n+1=>cases h2) (fun _=>rfl) (by decide) hr hL
end
section
open Go.ChangeShapes Go.WideShapes Go.ChangeAt Go.RowKit Go.Deep Go.Joins
set_option maxRecDepth 100000
section
variable {H:Type}{enc:TypeId×Value→H}{P:Program}{w:World}{base:Nat}{spare:Nat→Bool}{held:Bool}
theorem jbZ {t:TypeId}{k:IntKind}{n:Nat}{v:Value}{y:DataW H×List MemPlace}(ht:P.underlying t=some (.int k)) (h:DataW.trod enc P w base spare held n t [v]=some y):∃a,v=.int k a∧(Lit.int k a).wf=true:=by
 obtain⟨a,e,_,hw⟩:=DataW.trod_int ht h
 simp at e
 exact⟨a,e,hw⟩
theorem jtU {t:TypeId}{n:Nat}{v:Value}{y:DataW H×List MemPlace}(ht:P.underlying t=some .bool) (h:DataW.trod enc P w base spare held n t [v]=some y):∃b,v=.bool b:=by
 obtain⟨b,e,_⟩:=DataW.trod_bool ht h
 simp at e
 exact⟨b,e⟩
theorem jpJ {t:TypeId}{n:Nat}{v:Value}{y:DataW H×List MemPlace}(ht:P.underlying t=some .string) (h:DataW.trod enc P w base spare held n t [v]=some y):∃s:ByteArray,v=.string s∧s.size≤maxLen:=by
 obtain⟨s,e,_,hs⟩:=DataW.trod_string ht h
 simp at e
 exact⟨s,e,hs⟩
end
theorem jq5 {H:Type}{enc:TypeId×Value→H}{W:World}{n:Nat}{v:Value}{y:DataW H×List MemPlace}(h:DataW.trod enc Tryz.prog W 0 (fun _=>true) true n 22 [v]=some y) :
  ∃L:List CD,VRel (jds W) noF (.vec .cell L) v∧∀c∈L,CWf c:=by
 rcases jel (C:=6) Tryz.underlying22 (by kernel_rfl) h with hcs|⟨a,len,cap,m,hcs,hl,hm,hlm,hi⟩
 ·simp at hcs
  subst hcs
  exact⟨[],.vec0 _ _ _,fun c hc=>by cases hc⟩
 ·simp at hcs
  subst hcs
  obtain⟨L,hL,hr,hp⟩:=jnx (w:=W) (a:=a) (k:=6) (len:=len) jxB (by omega) (fun _=>rfl) CWf (fun i hil=>by
   obtain⟨ys,n,y,hyl,hc,ht⟩:=hi i (by omega)
   obtain⟨_,n',hf⟩:=jf0 Tryz.underlying56 ht
   match ys,hyl with
   | [y0,y1,y2,y3,y4,y5],_ =>
    obtain⟨z0,t0⟩:=hf 0 _ rfl
    obtain⟨z1,t1⟩:=hf 1 _ rfl
    obtain⟨z2,t2⟩:=hf 2 _ rfl
    obtain⟨x0,rfl,w0⟩:=jbZ Tryz.underlying21 (show DataW.trod enc Tryz.prog W 0 (fun _=>true) true n' 21 [y0]=some z0 from t0)
    obtain⟨x1,rfl,w1⟩:=jbZ Tryz.underlying5 (show DataW.trod enc Tryz.prog W 0 (fun _=>true) true n' 5 [y1]=some z1 from t1)
    obtain⟨_,n'',hg⟩:=jf0 Tryz.underlying54 (show DataW.trod enc Tryz.prog W 0 (fun _=>true) true n' 54 [y2,y3,y4,y5]=some z2 from t2)
    obtain⟨u0,s0⟩:=hg 0 _ rfl
    obtain⟨u1,s1⟩:=hg 1 _ rfl
    obtain⟨u2,s2⟩:=hg 2 _ rfl
    obtain⟨u3,s3⟩:=hg 3 _ rfl
    obtain⟨x2,rfl,w2⟩:=jbZ Tryz.underlying51 (show DataW.trod enc Tryz.prog W 0 (fun _=>true) true n'' 51 [y2]=some u0 from s0)
    obtain⟨x3,rfl,w3⟩:=jbZ Tryz.underlying51 (show DataW.trod enc Tryz.prog W 0 (fun _=>true) true n'' 51 [y3]=some u1 from s1)
    obtain⟨x4,rfl,w4⟩:=jbZ Tryz.underlying5 (show DataW.trod enc Tryz.prog W 0 (fun _=>true) true n'' 5 [y4]=some u2 from s2)
    obtain⟨x5,rfl,w5⟩:=jbZ Tryz.underlying52 (show DataW.trod enc Tryz.prog W 0 (fun _=>true) true n'' 52 [y5]=some u3 from s3)
    exact⟨⟨x0,x1,x2,x3,x4,x5⟩,hc,jtQ w0,jlU w1,jnw w2,jnw w3,jlU w4,jtR w5⟩)
  refine⟨L,?_,hp⟩
  rw[←hL]at hl ⊢
  exact jtT hr hl
theorem jtV {H:Type}{enc:TypeId×Value→H}{W:World}{n:Nat}{v:Value}{y:DataW H×List MemPlace}(h:DataW.trod enc Tryz.prog W 0 (fun _=>true) true n 23 [v]=some y) :
  ∃l:List ByteArray,VRel (jds W) noF (.vec .str l) v∧∀s∈l,SLen s:=by
 rcases jel (C:=1) Tryz.underlying23 (by kernel_rfl) h with hcs|⟨a,len,cap,m,hcs,hl,hm,hlm,hi⟩
 ·simp at hcs
  subst hcs
  exact⟨[],.vec0 _ _ _,fun c hc=>by cases hc⟩
 ·simp at hcs
  subst hcs
  obtain⟨L,hL,hr,hp⟩:=jnx (w:=W) (a:=a) (k:=1) (len:=len) (fun s:ByteArray=>[Value.string s]) (by omega) (fun _=>rfl) SLen (fun i hil=>by
   obtain⟨ys,n,y,hyl,hc,ht⟩:=hi i (by omega)
   match ys,hyl with
   | [y0],_ =>
    obtain⟨s,rfl,hs⟩:=jpJ Tryz.underlying9 ht
    exact⟨s,hc,by simp only[maxLen]at hs;exact hs⟩)
  refine⟨L,?_,hp⟩
  rw[←hL]at hl ⊢
  exact jvB hr hl
inductive AllR (R:CV→Value→Prop):List CV→List Value→Prop
 | nil:AllR R [] []
 | cons {c:CV}{v:Value}{l:List CV}{m:List Value}(h:R c v) (t:AllR R l m):AllR R (c::l) (v::m)
theorem jxC {w:World}:∀{l:List CV}{cs:List Value},AllR (VRel (jds w) noF) l cs→VRel (jds w) noF (.agg l) (.agg cs.toArray):=fun {l cs} h=>by
 have hl:∀{l:List CV}{cs:List Value},AllR (VRel (jds w) noF) l cs→cs.length=l.length∧∀(i:Nat) (c:CV) (v:Value),l[i]?=some c→cs[i]?=some v→VRel (jds w) noF c v:=by
  intro l cs h
  induction h with
  | nil=>exact⟨rfl,fun i c v h=>by simp at h⟩
  | cons h1 _ ih =>
   refine⟨by simp[ih.1],fun i c v hc hv=>?_⟩
   cases i with
   | zero=>cases hc;cases hv;exact h1
   | succ i=>exact ih.2 i c v hc hv
 exact .agg l cs.toArray (by simp[(hl h).1]) (fun i c v h1 h2=>(hl h).2 i c v h1 (by simpa using h2))
theorem jpK {H:Type}{enc:TypeId×Value→H}{W:World}{v:Value}{d:DataW H}{p:List MemPlace}{base0:Nat}(hv:Value.okWide Tryz.prog W .any base0 25 v) (h:DataW.Trod enc Tryz.prog W 0 (fun _=>true) true 25 v d p) :
  ∃(k r:Int) (L:List CD) (x y:Int) (hd:Bool) (mo:Int) (ti:ByteArray) (l:List ByteArray),VRel (jds W) noF (.agg [.int .i64 k,.int .i64 r,.vec .cell L,.int .i64 x,.int .i64 y,.bool hd,.int .u8 mo,.str ti,.vec .str l]) v∧(∀c∈L,CWf c)∧SLen ti∧(∀s∈l,SLen s)∧0≤mo:=by
 obtain⟨cs,rfl,hsz⟩:=okWide_struct Tryz.underlying25 hv
 obtain⟨fuel,hf⟩:=h
 have hC:Tryz.prog.cellsOf 25=9:=by kernel_rfl
 obtain⟨ys⟩:=cs
 have hsz':ys.length=9:=by rw[←hC];simpa using hsz
 match ys,hsz' with
 | [y0,y1,y2,y3,y4,y5,y6,y7,y8],_ =>
  obtain⟨_,n',hg⟩:=jf0 Tryz.underlying25 (show DataW.trod enc Tryz.prog W 0 (fun _=>true) true fuel 25 [y0,y1,y2,y3,y4,y5,y6,y7,y8]=some (d,p)from hf)
  obtain⟨u0,s0⟩:=hg 0 _ rfl
  obtain⟨u1,s1⟩:=hg 1 _ rfl
  obtain⟨u2,s2⟩:=hg 2 _ rfl
  obtain⟨u3,s3⟩:=hg 3 _ rfl
  obtain⟨u4,s4⟩:=hg 4 _ rfl
  obtain⟨u5,s5⟩:=hg 5 _ rfl
  obtain⟨u6,s6⟩:=hg 6 _ rfl
  obtain⟨u7,s7⟩:=hg 7 _ rfl
  obtain⟨u8,s8⟩:=hg 8 _ rfl
  obtain⟨k,rfl,w0⟩:=jbZ Tryz.underlying3 (show DataW.trod enc Tryz.prog W 0 (fun _=>true) true n' 3 [y0]=some u0 from s0)
  obtain⟨r,rfl,w1⟩:=jbZ Tryz.underlying3 (show DataW.trod enc Tryz.prog W 0 (fun _=>true) true n' 3 [y1]=some u1 from s1)
  obtain⟨L,hL,hLw⟩:=jq5 (show DataW.trod enc Tryz.prog W 0 (fun _=>true) true n' 22 [y2]=some u2 from s2)
  obtain⟨x,rfl,w3⟩:=jbZ Tryz.underlying3 (show DataW.trod enc Tryz.prog W 0 (fun _=>true) true n' 3 [y3]=some u3 from s3)
  obtain⟨y,rfl,w4⟩:=jbZ Tryz.underlying3 (show DataW.trod enc Tryz.prog W 0 (fun _=>true) true n' 3 [y4]=some u4 from s4)
  obtain⟨hd,rfl⟩:=jtU Tryz.underlying4 (show DataW.trod enc Tryz.prog W 0 (fun _=>true) true n' 4 [y5]=some u5 from s5)
  obtain⟨mo,rfl,w6⟩:=jbZ Tryz.underlying5 (show DataW.trod enc Tryz.prog W 0 (fun _=>true) true n' 5 [y6]=some u6 from s6)
  obtain⟨ti,rfl,w7⟩:=jpJ Tryz.underlying9 (show DataW.trod enc Tryz.prog W 0 (fun _=>true) true n' 9 [y7]=some u7 from s7)
  obtain⟨l,hl,hlw⟩:=jtV (show DataW.trod enc Tryz.prog W 0 (fun _=>true) true n' 23 [y8]=some u8 from s8)
  exact⟨k,r,L,x,y,hd,mo,ti,l,jxC (.cons (.int _ _) (.cons (.int _ _) (.cons hL (.cons (.int _ _) (.cons (.int _ _) (.cons (.bool _) (.cons (.int _ _) (.cons (.str _) (.cons hl .nil))))))))),hLw,by simp only[maxLen]at w7;exact w7,hlw,(jlU w6).1⟩
def jpL (cs:Array Value):Obj→Obj
 | .cells _ t frozen=>.cells cs t frozen
 | o=>o
def jjR (os:Os):World :=
 { World.holding Tryz.prog os ⟨#[],#[],[]⟩ with heap:=((World.holding Tryz.prog os ⟨#[],#[],[]⟩).heap.modify 0 (jpL ((Utf.nones.flatten).map (Value.int .i32)).toArray)).modify 1 (jpL ((Utf.wides.flatten).map (Value.int .i32)).toArray) }
end
end
end Go.Proofs.YtienkkicehmchaaGreatDoor
