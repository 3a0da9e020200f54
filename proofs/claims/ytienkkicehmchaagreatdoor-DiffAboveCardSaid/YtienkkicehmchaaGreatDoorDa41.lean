/- Texts of this claim, merged by a program of this claim: ECond. -/
import Derived.Test.YtienkkicehmchaaGreatDoorDa5
namespace Go.Proofs.YtienkkicehmchaaGreatDoor
set_option linter.unusedVariables false
set_option linter.unusedSimpArgs false
section
open Go.RowKit
abbrev ESpec:=List CV→KH→Int
def errV (e:Int):CV:=.iface 29 (.int .i64 e)
def jrl:Nat→KH
 | 0=>[]
 | n+1=>.dead::jrl n
def MutP (P:Program) (E:Nat→Option (List CV)) (F:FuncId) (msp:MSpec) (esp:ESpec):Prop:=∀args h G r h',msp args h=some (G,r,h')→G→(esp args h=0→TF P E F args h r h')∧(esp args h≠0→TF P E F args h (.pan (errV (esp args h))) (jrl h.length))
open Classical in
noncomputable def jto {α:Type}(enc:α→List CV×KH) (f:α→Int):ESpec:=fun args h=>if e:∃x,enc x=(args,h) then f (Classical.choose e) else 0
theorem jrm {α:Type}{enc:α→List CV×KH}(f:α→Int) (inj:∀x y,enc x=enc y→x=y) (x:α):jto enc f (enc x).1 (enc x).2=f x:=by
 unfold jto
 have h:∃y,enc y=((enc x).1,(enc x).2):=⟨x,rfl⟩
 rw[dif_pos h,inj _ _ (Classical.choose_spec h)]
def resP (e:Int) (r:Res):Res:=if e=0 then r else .pan (errV e)
def memP (e:Int) (h':KH) (n:Nat):KH:=if e=0 then h' else jrl n
theorem jtp {e:Int}(h:e=0) (r:Res):resP e r=r:=if_pos h
theorem jtq {e:Int}(h:¬e=0) (r:Res):resP e r=.pan (errV e):=if_neg h
theorem jtr {e:Int}(h:e=0) (m:KH) (n:Nat):memP e m n=m:=if_pos h
theorem jts {e:Int}(h:¬e=0) (m:KH) (n:Nat):memP e m n=jrl n:=if_neg h
theorem MutP.of {P:Program}{E:Nat→Option (List CV)}{F:FuncId}{α:Type}{enc:α→List CV×KH}{f:α→Prop×Res×KH}{g:α→Int}(inj:∀x y,enc x=enc y→x=y) (t:∀x,(f x).1→TF P E F (enc x).1 (enc x).2 (resP (g x) (f x).2.1) (memP (g x) (f x).2.2 (enc x).2.length)):MutP P E F (jjJ enc f) (jto enc g):=fun args h G r h' e hG=>by
 unfold jjJ at e
 split at e
 ·rename_i q
  have hx:=Classical.choose_spec q
  generalize Classical.choose q=x at e hx
  have e:=Option.some.inj e
  have:=t x (by rw[e];exact hG)
  have he:=jrm g inj x
  rw[e,hx]at this
  rw[hx]at he
  simp only at he this
  rw[he]
  refine⟨fun h0=>?_,fun h0=>?_⟩
  ·rw[jtp h0,jtr h0]at this
   exact this
  ·rw[jtq h0,jts h0]at this
   exact this
 ·cases e
abbrev QSpec:=List CV→Int
def AliasQ (P:Program) (E:Nat→Option (List CV)) (F:FuncId) (sp sp2:Spec) (esp:QSpec):Prop:=(∀args G r,sp args=some (G,r)→G→esp args=0→TF P E F args [] r [])∧(∀args G r,sp2 args=some (G,r)→G→esp args≠0→TF P E F args [] r [])
open Classical in
noncomputable def jtt {α:Type}(enc:α→List CV) (f:α→Int):QSpec:=fun args=>if e:∃x,enc x=args then f (Classical.choose e) else 0
theorem jmo {α:Type}{enc:α→List CV}(f:α→Int) (inj:∀x y,enc x=enc y→x=y) (x:α):jtt enc f (enc x)=f x:=by
 unfold jtt
 have h:∃y,enc y=enc x:=⟨x,rfl⟩
 rw[dif_pos h,inj _ _ (Classical.choose_spec h)]
def resQ (e:Int) (r r2:Res):Res:=if e=0 then r else r2
theorem jtu {e:Int}(h:e=0) (r r2:Res):resQ e r r2=r:=if_pos h
theorem jtv {e:Int}(h:¬e=0) (r r2:Res):resQ e r r2=r2:=if_neg h
theorem AliasQ.of {P:Program}{E:Nat→Option (List CV)}{F:FuncId}{α:Type}{enc:α→List CV}{f f2:α→Prop×Res}{g:α→Int}(inj:∀x y,enc x=enc y→x=y) (h1:∀x,(f2 x).1=(f x).1) (t:∀x,(f x).1→TF P E F (enc x) [] (resQ (g x) (f x).2 (f2 x).2) []):AliasQ P E F (spOf enc f) (spOf enc f2) (jtt enc g):=by
 refine⟨fun args G r e hG he=>?_,fun args G r e hG he=>?_⟩
 ·obtain⟨x,rfl,ex⟩:=jdd e
  have:=t x (by rw[ex];exact hG)
  rw[jmo g inj]at he
  rw[jtu he,ex]at this
  exact this
 ·obtain⟨x,rfl,ex⟩:=jdd e
  have:=t x (by rw[←h1,ex];exact hG)
  rw[jmo g inj]at he
  rw[jtv he,ex]at this
  exact this
end
end Go.Proofs.YtienkkicehmchaaGreatDoor
