/- Texts of this claim, merged by a program of this claim: ECond, ReadM. -/
import Derived.Test.YtcfkfgkndncanaaGreatDoorMs5
import Derived.Test.YtcfkfgkndncanaaGreatDoorMs6
namespace Go.Proofs.YtcfkfgkndncanaaGreatDoor
set_option linter.unusedVariables false
set_option linter.unusedSimpArgs false
section
open Go.RowKit
open Classical in
noncomputable def iteV (c:Prop) (a b:Option (Prop×VOut)):Option (Prop×VOut):=if c then a else b
open Classical in
noncomputable def conI (c:List CV→KH→Prop) (a b:Con):Con:=fun ARGS H=>if c ARGS H then a ARGS H else b ARGS H
theorem jAl (c:List CV→KH→Prop) (a b:Con) (args:List CV) (h:KH):jhb (some (conI c a b)) args h=iteV (c args h) (jhb (some a) args h) (jhb (some b) args h):=by
 unfold conI iteV
 by_cases q:c args h
 ·simp only[jhb,if_pos q]
 ·simp only[jhb,if_neg q]
theorem jBZ (c:Prop) (a b:Option (Prop×VOut)) (N K:CV→KH→Prop):outK (iteV c a b) N K=((c→outK a N K)∧(¬c→outK b N K)):=by
 unfold iteV
 by_cases q:c
 ·rw[if_pos q]
  exact propext ⟨fun h=>⟨fun _=>h,fun n=>absurd q n⟩,fun h=>h.1 q⟩
 ·rw[if_neg q]
  exact propext ⟨fun h=>⟨fun n=>absurd n q,fun _=>h⟩,fun h=>h.2 q⟩
def jux (P:Program) (E:Nat→Option (List CV)) (F:FuncId) (c:List CV→KH→Prop) (a:Con):Prop:=∀args h G r h',c args h→a args h=some (G,r,h')→G→TFx P E F args h r h'
theorem js5 {P:Program}{E:Nat→Option (List CV)}{F:FuncId}{c:List CV→KH→Prop}{a b:Con}(ha:jux P E F c a) (hb:jux P E F (fun x y=>¬c x y) b):jg3 P E F (conI c a b):=fun args h G r h' e hG=>by
 unfold conI at e
 split at e
 ·rename_i q
  exact ha _ _ _ _ _ q e hG
 ·rename_i q
  exact hb _ _ _ _ _ q e hG
open Classical in
noncomputable def iteC (c:Prop) (a b:Option (Prop×Res×KH)):Option (Prop×Res×KH):=if c then a else b
theorem jzs (c:List CV→KH→Prop) (a b:Con) (args:List CV) (h:KH):conI c a b args h=iteC (c args h) (a args h) (b args h):=rfl
def js6 (o:Option (Prop×Res×KH)) (h:KH):Option (Prop×VOut) :=
 match o with
 | some (G,.ret r,h')=>some (G∧h.length≤h'.length,.val r h')
 | some (G,.pan r,h')=>some (G∧h.length≤h'.length,.pan r h')
 | none=>none
theorem juy (c:Con) (args:List CV) (h:KH):jhb (some c) args h=js6 (c args h) h:=rfl
theorem juz (c:Prop) (a b:Option (Prop×Res×KH)) (h:KH):js6 (iteC c a b) h=iteV c (js6 a h) (js6 b h):=by
 unfold iteC iteV
 by_cases q:c
 ·rw[if_pos q,if_pos q]
 ·rw[if_neg q,if_neg q]
theorem juA (G:Prop) (r:CV) (h' h:KH):js6 (some (G,.ret r,h')) h=some (G∧h.length≤h'.length,.val r h'):=rfl
theorem juB (G:Prop) (r:CV) (h' h:KH):js6 (some (G,.pan r,h')) h=some (G∧h.length≤h'.length,.pan r h'):=rfl
abbrev ESpec:=List CV→KH→Int
def errV (e:Int):CV:=.iface 31 (.int .i64 e)
def jii:Nat→KH
 | 0=>[]
 | n+1=>.dead::jii n
def jya (msp:MSpec) (esp:ESpec):MSpec:=fun args h=>match msp args h with
 | some (G,_,_)=>some (G,.pan (errV (esp args h)),jii h.length)
 | none=>none
def rhoM (ARGS:List CV) (H:KH):List Nat:=jlG H 3 (once [] (jdI ARGS))
def errM (esp:ESpec) (ARGS:List CV) (H:KH) (ρ:List Nat):Int:=esp (locL ρ ARGS) (locH ρ H ρ)
def okM (esp:ESpec) (ARGS:List CV) (H:KH):Prop:=errM esp ARGS H (rhoM ARGS H)=0
noncomputable def conP (msp:MSpec) (esp:ESpec):Con:=conI (okM esp) (conM msp) (conM (jya msp esp))
def MutP (P:Program) (E:Nat→Option (List CV)) (F:FuncId) (msp:MSpec) (esp:ESpec):Prop:=∀args h G r h',msp args h=some (G,r,h')→G→(esp args h=0→TF P E F args h r h')∧(esp args h≠0→TF P E F args h (.pan (errV (esp args h))) (jii h.length))
theorem jzt {P:Program}{E:Nat→Option (List CV)}{F:FuncId}{spec:MSpec}{ARGS:List CV}{H:KH}{ρ:List Nat}{G:Prop}{r:Res}{H':KH}(hc:goM spec ARGS H ρ=some (G,r,H')) (hG:G) (t:∀G1 r1 h1,spec (locL ρ ARGS) (locH ρ H ρ)=some (G1,r1,h1)→G1→TF P E F (locL ρ ARGS) (locH ρ H ρ) r1 h1):TFx P E F ARGS H r H':=by
 simp only[goM]at hc
 split at hc
 ·rename_i G1 r1 h1 e
  cases hc
  obtain⟨hG1,hk,hl⟩:=hG
  simp only[Bool.and_eq_true]at hk
  obtain⟨⟨k1,k2⟩,k3⟩:=hk
  have tf:=t _ _ _ e hG1
  have hln:=jmW ρ H ρ
  have:=TF.lift (ρ:=ρ) (fz:=[]) (H:=H) (ARGS:=ARGS) tf (by rw[List.append_nil,←jj9];exact k2) (jka _ _ k3) (jmV ρ H ρ k3) (jfH ρ H ARGS) (.inl rfl) (by rw[hln];exact hl)
  rw[hln]at this
  exact this
 ·cases hc
theorem MutP.soundP {P:Program}{E:Nat→Option (List CV)}{F:FuncId}{msp:MSpec}{esp:ESpec}(t:MutP P E F msp esp):jg3 P E F (conP msp esp):=by
 refine js5 (fun ARGS H G r H' hc e hG=>?_) (fun ARGS H G r H' hc e hG=>?_)
 ·exact jzt e hG (fun G1 r1 h1 e1 g1=>(t _ _ _ _ _ e1 g1).1 hc)
 ·refine jzt e hG (fun G1 r1 h1 e1 g1=>?_)
  unfold jya at e1
  split at e1
  ·rename_i e2
   cases e1
   exact (t _ _ _ _ _ e2 g1).2 hc
  ·cases e1
open Classical in
noncomputable def jjo {α:Type}(enc:α→List CV×KH) (f:α→Int):ESpec:=fun args h=>if e:∃x,enc x=(args,h) then f (Classical.choose e) else 0
theorem jdC {α:Type}{enc:α→List CV×KH}(f:α→Int) (inj:∀x y,enc x=enc y→x=y) (x:α):jjo enc f (enc x).1 (enc x).2=f x:=by
 unfold jjo
 have h:∃y,enc y=((enc x).1,(enc x).2):=⟨x,rfl⟩
 rw[dif_pos h,inj _ _ (Classical.choose_spec h)]
def resP (e:Int) (r:Res):Res:=if e=0 then r else .pan (errV e)
def memP (e:Int) (h':KH) (n:Nat):KH:=if e=0 then h' else jii n
theorem jcv {e:Int}(h:e=0) (r:Res):resP e r=r:=if_pos h
theorem ja0 {e:Int}(h:¬e=0) (r:Res):resP e r=.pan (errV e):=if_neg h
theorem jcw {e:Int}(h:e=0) (m:KH) (n:Nat):memP e m n=m:=if_pos h
theorem ja1 {e:Int}(h:¬e=0) (m:KH) (n:Nat):memP e m n=jii n:=if_neg h
theorem MutP.of {P:Program}{E:Nat→Option (List CV)}{F:FuncId}{α:Type}{enc:α→List CV×KH}{f:α→Prop×Res×KH}{g:α→Int}(inj:∀x y,enc x=enc y→x=y) (t:∀x,(f x).1→TF P E F (enc x).1 (enc x).2 (resP (g x) (f x).2.1) (memP (g x) (f x).2.2 (enc x).2.length)):MutP P E F (jcS enc f) (jjo enc g):=fun args h G r h' e hG=>by
 unfold jcS at e
 split at e
 ·rename_i q
  have hx:=Classical.choose_spec q
  generalize Classical.choose q=x at e hx
  have e:=Option.some.inj e
  have:=t x (by rw[e];exact hG)
  have he:=jdC g inj x
  rw[e,hx]at this
  rw[hx]at he
  simp only at he this
  rw[he]
  refine⟨fun h0=>?_,fun h0=>?_⟩
  ·rw[jcv h0,jcw h0]at this
   exact this
  ·rw[ja0 h0,ja1 h0]at this
   exact this
 ·cases e
abbrev QSpec:=List CV→Int
def okA (ks:List AK) (esp:QSpec) (ARGS:List CV) (H:KH):Prop:=match purL H ks ARGS with
 | some (_,args,_)=>esp args=0
 | none=>True
noncomputable def conQ (ks:List AK) (sp sp2:Spec) (esp:QSpec):Con:=conI (okA ks esp) (conA ks sp) (conA ks sp2)
def AliasQ (P:Program) (E:Nat→Option (List CV)) (F:FuncId) (sp sp2:Spec) (esp:QSpec):Prop:=(∀args G r,sp args=some (G,r)→G→esp args=0→TF P E F args [] r [])∧(∀args G r,sp2 args=some (G,r)→G→esp args≠0→TF P E F args [] r [])
open Classical in
noncomputable def jAm {α:Type}(enc:α→List CV) (f:α→Int):QSpec:=fun args=>if e:∃x,enc x=args then f (Classical.choose e) else 0
theorem jrS {α:Type}{enc:α→List CV}(f:α→Int) (inj:∀x y,enc x=enc y→x=y) (x:α):jAm enc f (enc x)=f x:=by
 unfold jAm
 have h:∃y,enc y=enc x:=⟨x,rfl⟩
 rw[dif_pos h,inj _ _ (Classical.choose_spec h)]
def resQ (e:Int) (r r2:Res):Res:=if e=0 then r else r2
theorem jAn {e:Int}(h:e=0) (r r2:Res):resQ e r r2=r:=if_pos h
theorem jAo {e:Int}(h:¬e=0) (r r2:Res):resQ e r r2=r2:=if_neg h
theorem AliasQ.of {P:Program}{E:Nat→Option (List CV)}{F:FuncId}{α:Type}{enc:α→List CV}{f f2:α→Prop×Res}{g:α→Int}(inj:∀x y,enc x=enc y→x=y) (h1:∀x,(f2 x).1=(f x).1) (t:∀x,(f x).1→TF P E F (enc x) [] (resQ (g x) (f x).2 (f2 x).2) []):AliasQ P E F (spOf enc f) (spOf enc f2) (jAm enc g):=by
 refine⟨fun args G r e hG he=>?_,fun args G r e hG he=>?_⟩
 ·obtain⟨x,rfl,ex⟩:=jgg e
  have:=t x (by rw[ex];exact hG)
  rw[jrS g inj]at he
  rw[jAn he,ex]at this
  exact this
 ·obtain⟨x,rfl,ex⟩:=jgg e
  have:=t x (by rw[←h1,ex];exact hG)
  rw[jrS g inj]at he
  rw[jAo he,ex]at this
  exact this
theorem PBu:(∀c a b args h,jhb (some (conI c a b)) args h=iteV (c args h) (jhb (some a) args h) (jhb (some b) args h))∧(∀c a b N K,outK (iteV c a b) N K=((c→outK a N K)∧(¬c→outK b N K))) ∧
  (∀msp esp,conP msp esp=conI (okM esp) (conM msp) (conM (jya msp esp)))∧(∀ks sp sp2 esp,conQ ks sp sp2 esp=conI (okA ks esp) (conA ks sp) (conA ks sp2)) ∧
  (∀esp ARGS H,okM esp ARGS H=(errM esp ARGS H (jlG H 3 (once [] (jdI ARGS)))=0))∧(∀esp ARGS H ρ,errM esp ARGS H ρ=esp (locL ρ ARGS) (locH ρ H ρ)) ∧
  (∀ks esp ARGS H,okA ks esp ARGS H=match purL H ks ARGS with
   | some (_,args,_)=>esp args=0
   | none=>True)∧(∀msp esp args h,jya msp esp args h=match msp args h with
   | some (G,_,_)=>some (G,.pan (errV (esp args h)),jii h.length)
   | none=>none)∧(jii 0=[])∧(∀n,jii (n+1)=.dead::jii n)∧(jii 1=[.dead])∧(jii 2=[.dead,.dead])∧(jii 3=[.dead,.dead,.dead])∧(jii 4=[.dead,.dead,.dead,.dead])∧(∀e,jdZ (errV e)=[])∧(∀ρ e,locV ρ (errV e)=errV e)∧(∀σ e,renV σ (errV e)=errV e) :=
 ⟨jAl,jBZ,fun _ _=>rfl,fun _ _ _ _=>rfl,fun _ _ _=>rfl,fun _ _ _ _=>rfl,fun _ _ _ _=>rfl,fun _ _ _ _=>rfl,rfl,fun _=>rfl,rfl,rfl,rfl,rfl,fun _=>rfl,fun _ _=>rfl,fun _ _=>rfl⟩
theorem PB:type_of% (And.intro PBu (And.intro jzs (And.intro juy (And.intro juz (And.intro juA juB))))):=And.intro PBu (And.intro jzs (And.intro juy (And.intro juz (And.intro juA juB))))
theorem Cos.err {n0:Nat}{e:Int}{h:KH}{k:KH}(hk:Cos n0 ⟨[(0,.iface 31 (.int .i64 e))],h⟩ ⟨[(0,.iface 31 (.int .i64 e))],k⟩):Cos n0 ⟨[(0,.iface 31 (.int .i64 e))],h⟩ ⟨[(0,errV e)],k⟩:=hk
end
section
def Bts (d:List Int):Prop:=∀x∈d,0≤x∧x<256
def varG:List Int→Nat→Int→Int×Int×Nat
 | [],_,_=>(2,0,0)
 | b::r,i,n=>if (i=9∧1<b)∨(0<i∧b=0) then (3,0,0) else if b<128 then (0,n+b*2 ^ (7*i),i+1) else varG r (i+1) (n+(b-128)*2 ^ (7*i))
def varE (d:List Int) (a:Nat):Int:=(varG (d.drop a) 0 0).1
def varV (d:List Int) (a:Nat):Int:=(varG (d.drop a) 0 0).2.1
def varU (d:List Int) (a:Nat):Nat:=(varG (d.drop a) 0 0).2.2
theorem joz:∀(r:List Int) (i:Nat) (n:Int),(varG r i n).2.2≤r.length+i
 | [],i,n=>by simp[varG]
 | b::r,i,n=>by
  simp only[varG]
  split
  ·simp
  ·split
   ·simp;omega
   ·have:=joz r (i+1) (n+(b-128)*2 ^ (7*i))
    simp only[List.length_cons]
    omega
theorem jrT:∀(r:List Int) (i:Nat) (n:Int),Bts r→i≤9→0≤n→n<2 ^ (7*i)→0≤(varG r i n).2.1∧(varG r i n).2.1<18446744073709551616
 | [],i,n,_,_,_,_=>by simp[varG]
 | b::r,i,n,hb,hi,h0,hn=>by
  have h1:=hb b (by simp)
  have hi2:i=0∨i=1∨i=2∨i=3∨i=4∨i=5∨i=6∨i=7∨i=8∨i=9:=by omega
  simp only[varG]
  split
  ·simp
  ·rename_i hc
   split
   ·simp only
    rcases hi2 with rfl|rfl|rfl|rfl|rfl|rfl|rfl|rfl|rfl|rfl<;>simp at hn ⊢<;>omega
   ·have hi3:i≤8:=by omega
    refine jrT r (i+1) _ (fun x hx=>hb x (by simp[hx])) (by omega) ?_ ?_
    ·rcases hi2 with rfl|rfl|rfl|rfl|rfl|rfl|rfl|rfl|rfl|rfl<;>simp at hn ⊢<;>omega
    ·rcases hi2 with rfl|rfl|rfl|rfl|rfl|rfl|rfl|rfl|rfl|rfl<;>simp at hn ⊢<;>omega
theorem jyb {d:List Int}(h:Bts d) (a:Nat):Bts (d.drop a):=fun x hx=>h x (List.mem_of_mem_drop hx)
theorem jaO {d:List Int}(h:Bts d) (a:Nat):0≤varV d a∧varV d a<18446744073709551616:=jrT _ _ _ (jyb h a) (by omega) (by omega) (by simp)
theorem jbz {d:List Int}{a:Nat}(h:a≤d.length):a+varU d a≤d.length:=by
 have:=joz (d.drop a) 0 0
 simp only[List.length_drop]at this
 unfold varU
 omega
def upE (d:List Int) (a:Nat) (most:Int):Int:=if varE d a≠0 then varE d a else if most<0∨most<varV d a then 3 else 0
theorem jcq {d:List Int}{a:Nat}{most:Int}(h:upE d a most=0):varE d a=0∧¬most<0∧varV d a≤most:=by
 unfold upE at h
 split at h
 ·rename_i q
  exact absurd h q
 ·rename_i q
  split at h
  ·cases h
  ·simp only[ne_eq,Classical.not_not]at q
   omega
def jf6 (d:List Int) (a:Nat):Int:=if varE d a≠0 then varE d a else if varV d a=0 then 3 else 0
def jd0 (d:List Int) (a:Nat) (most:Int):Int:=if varE d a≠0 then varE d a else if most<varV d a then 4 else if ((d.length-(a+varU d a):Nat):Int)<varV d a then 2 else 0
def je2 (d:List Int) (a:Nat) (most:Int):List Int:=if jd0 d a most=0 then (d.drop (a+varU d a)).take (varV d a).toNat else []
def je3 (d:List Int) (a:Nat) (most:Int):Nat:=if jd0 d a most=0 then varU d a+(varV d a).toNat else 0
end
end Go.Proofs.YtcfkfgkndncanaaGreatDoor
