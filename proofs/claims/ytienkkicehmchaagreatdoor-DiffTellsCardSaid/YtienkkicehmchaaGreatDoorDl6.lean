/- Texts of this claim, merged by a program of this claim: ECond, EDefer, ConI, EDrv. -/
import Derived.Test.YtienkkicehmchaaGreatDoorDl5
import Derived.Recover
namespace Go.Proofs.YtienkkicehmchaaGreatDoor
open And renaming intro→qaa
noncomputable section
set_option linter.unusedVariables false
set_option linter.unusedSimpArgs false
section
open Go.RowKit
open Classical in
def iteV (c:Prop) (a b:Option (Prop×VOut)):Option (Prop×VOut):=if c then a else b
open Classical in
def conI (c:List CV→KH→Prop) (a b:Con):Con:=fun ARGS H=>if c ARGS H then a ARGS H else b ARGS H
theorem jwt (c:List CV→KH→Prop) (a b:Con) (args:List CV) (h:KH):jfk (some (conI c a b)) args h=iteV (c args h) (jfk (some a) args h) (jfk (some b) args h):=by
 unfold conI iteV
 by_cases q:c args h
 all_goals simp_all [jfk,if_pos,if_neg]
theorem jx0 (c:Prop) (a b:Option (Prop×VOut)) (N K:CV→KH→Prop):outK (iteV c a b) N K=((c→outK a N K)∧(¬c→outK b N K)):=by
 unfold iteV
 grind
open Classical in
def iteC (c:Prop) (a b:Option (Prop×Res×KH)):Option (Prop×Res×KH):=if c then a else b
theorem jvG (c:List CV→KH→Prop) (a b:Con) (args:List CV) (h:KH):conI c a b args h=iteC (c args h) (a args h) (b args h):=rfl
def jp2 (o:Option (Prop×Res×KH)) (h:KH):Option (Prop×VOut) :=
 match o with
 | some (G,.ret r,h')=>some (G∧h.length≤h'.length,.val r h')
 | some (G,.pan r,h')=>some (G∧h.length≤h'.length,.pan r h')
 | none=>none
theorem jrK (c:Con) (args:List CV) (h:KH):jfk (some c) args h=jp2 (c args h) h:=rfl
theorem jrL (c:Prop) (a b:Option (Prop×Res×KH)) (h:KH):jp2 (iteC c a b) h=iteV c (jp2 a h) (jp2 b h):=by
 unfold iteC iteV
 grind
theorem jrM (G:Prop) (r:CV) (h' h:KH):jp2 (some (G,.ret r,h')) h=some (G∧h.length≤h'.length,.val r h'):=rfl
theorem jrN (G:Prop) (r:CV) (h' h:KH):jp2 (some (G,.pan r,h')) h=some (G∧h.length≤h'.length,.pan r h'):=rfl
abbrev ESpec:=List CV→KH→Int
def errV (e:Int):CV:=.iface 29 (.int .i64 e)
def jjY:Nat→KH
 | 0=>[]
 | n+1=>.dead::jjY n
def jwu (msp:MSpec) (esp:ESpec):MSpec:=fun args h=>match msp args h with
 | some (G,_,_)=>some (G,.pan (errV (esp args h)),jjY h.length)
 | none=>none
def rhoM (ARGS:List CV) (H:KH):List Nat:=jjW H 3 (once [] (jc6 ARGS))
def errM (esp:ESpec) (ARGS:List CV) (H:KH) (ρ:List Nat):Int:=esp (locL ρ ARGS) (locH ρ H ρ)
def okM (esp:ESpec) (ARGS:List CV) (H:KH):Prop:=errM esp ARGS H (rhoM ARGS H)=0
def conP (msp:MSpec) (esp:ESpec):Con:=conI (okM esp) (conM msp) (conM (jwu msp esp))
abbrev QSpec:=List CV→Int
def okA (ks:List AK) (esp:QSpec) (ARGS:List CV) (H:KH):Prop:=match purL H ks ARGS with
 | some (_,args,_)=>esp args=0
 | none=>True
def conQ (ks:List AK) (sp sp2:Spec) (esp:QSpec):Con:=conI (okA ks esp) (conA ks sp) (conA ks sp2)
theorem PBu:(∀c a b args h,jfk (some (conI c a b)) args h=iteV (c args h) (jfk (some a) args h) (jfk (some b) args h))∧(∀c a b N K,outK (iteV c a b) N K=((c→outK a N K)∧(¬c→outK b N K))) ∧
  (∀msp esp,conP msp esp=conI (okM esp) (conM msp) (conM (jwu msp esp)))∧(∀ks sp sp2 esp,conQ ks sp sp2 esp=conI (okA ks esp) (conA ks sp) (conA ks sp2)) ∧
  (∀esp ARGS H,okM esp ARGS H=(errM esp ARGS H (jjW H 3 (once [] (jc6 ARGS)))=0))∧(∀esp ARGS H ρ,errM esp ARGS H ρ=esp (locL ρ ARGS) (locH ρ H ρ)) ∧
  (∀ks esp ARGS H,okA ks esp ARGS H=match purL H ks ARGS with
   | some (_,args,_)=>esp args=0
   | none=>True)∧(∀msp esp args h,jwu msp esp args h=match msp args h with
   | some (G,_,_)=>some (G,.pan (errV (esp args h)),jjY h.length)
   | none=>none)∧(jjY 0=[])∧(∀n,jjY (n+1)=.dead::jjY n)∧(jjY 1=[.dead])∧(jjY 2=[.dead,.dead])∧(jjY 3=[.dead,.dead,.dead])∧(jjY 4=[.dead,.dead,.dead,.dead])∧(∀e,jdB (errV e)=[])∧(∀ρ e,locV ρ (errV e)=errV e)∧(∀σ e,renV σ (errV e)=errV e) :=
 ⟨jwt,jx0,fun _ _=>rfl,fun _ _ _ _=>rfl,fun _ _ _=>rfl,fun _ _ _ _=>rfl,fun _ _ _ _=>rfl,fun _ _ _ _=>rfl,rfl,fun _=>rfl,rfl,rfl,rfl,rfl,fun _=>rfl,fun _ _=>rfl,fun _ _=>rfl⟩
theorem PB:type_of% (qaa PBu (qaa jvG (qaa jrK (qaa jrL (qaa jrM jrN))))):=qaa PBu (qaa jvG (qaa jrK (qaa jrL (qaa jrM jrN))))
end
section
open Go.RowKit
inductive LD where
 | pre (a:LC) (b:LD)
 | dfr (d:Nat) (K:FuncId) (xs:List Opd) (lo:Nat) (c:LC)
end
section
open Go.RowKit
end
section
open Go.RowKit
section
variable {A B C D E F G H I J K L M N O P Q R S T U V W X Y A' B' C' D' Z:Type}{h:Z→Prop}
abbrev u0 (f:Z) (p:Unit):Z:=f
abbrev W0 (h:Z→Prop) (f:Z):Prop:=h f
theorem w0 {f:Z}(t:∀x,h (u0 f x)):W0 h f:=t ()
abbrev u1 (f:A→Z) (p:A):Z:=f p
abbrev W1 (h:Z→Prop) (f:A→Z):Prop:=∀a,h (f a)
theorem w1 {f:A→Z}(t:∀x,h (u1 f x)):W1 h f:=fun a=>t a
abbrev u2 (f:A→B→Z) (p:A×B):Z:=f p.1 p.2
abbrev W2 (h:Z→Prop) (f:A→B→Z):Prop:=∀a0 a1,h (f a0 a1)
theorem w2 {f:A→B→Z}(t:∀x,h (u2 f x)):W2 h f:=fun a0 a1=>t (a0,a1)
abbrev u3 (f:A→B→C→Z) (p:A×B×C):Z:=f p.1 p.2.1 p.2.2
abbrev W3 (h:Z→Prop) (f:A→B→C→Z):Prop:=∀a0 a1 a2,h (f a0 a1 a2)
theorem w3 {f:A→B→C→Z}(t:∀x,h (u3 f x)):W3 h f:=fun a0 a1 a2=>t (a0,a1,a2)
abbrev u4 (f:A→B→C→D→Z) (p:A×B×C×D):Z:=f p.1 p.2.1 p.2.2.1 p.2.2.2
abbrev W4 (h:Z→Prop) (f:A→B→C→D→Z):Prop:=∀a0 a1 a2 a3,h (f a0 a1 a2 a3)
theorem w4 {f:A→B→C→D→Z}(t:∀x,h (u4 f x)):W4 h f:=fun a0 a1 a2 a3=>t (a0,a1,a2,a3)
abbrev u5 (f:A→B→C→D→E→Z) (p:A×B×C×D×E):Z:=f p.1 p.2.1 p.2.2.1 p.2.2.2.1 p.2.2.2.2
abbrev W5 (h:Z→Prop) (f:A→B→C→D→E→Z):Prop:=∀a0 a1 a2 a3 a4,h (f a0 a1 a2 a3 a4)
theorem w5 {f:A→B→C→D→E→Z}(t:∀x,h (u5 f x)):W5 h f:=fun a0 a1 a2 a3 a4=>t (a0,a1,a2,a3,a4)
abbrev u6 (f:A→B→C→D→E→F→Z) (p:A×B×C×D×E×F):Z:=f p.1 p.2.1 p.2.2.1 p.2.2.2.1 p.2.2.2.2.1 p.2.2.2.2.2
abbrev W6 (h:Z→Prop) (f:A→B→C→D→E→F→Z):Prop:=∀a0 a1 a2 a3 a4 a5,h (f a0 a1 a2 a3 a4 a5)
theorem w6 {f:A→B→C→D→E→F→Z}(t:∀x,h (u6 f x)):W6 h f:=fun a0 a1 a2 a3 a4 a5=>t (a0,a1,a2,a3,a4,a5)
abbrev u7 (f:A→B→C→D→E→F→G→Z) (p:A×B×C×D×E×F×G):Z:=f p.1 p.2.1 p.2.2.1 p.2.2.2.1 p.2.2.2.2.1 p.2.2.2.2.2.1 p.2.2.2.2.2.2
abbrev W7 (h:Z→Prop) (f:A→B→C→D→E→F→G→Z):Prop:=∀a0 a1 a2 a3 a4 a5 a6,h (f a0 a1 a2 a3 a4 a5 a6)
theorem w7 {f:A→B→C→D→E→F→G→Z}(t:∀x,h (u7 f x)):W7 h f:=fun a0 a1 a2 a3 a4 a5 a6=>t (a0,a1,a2,a3,a4,a5,a6)
abbrev u8 (f:A→B→C→D→E→F→G→H→Z) (p:A×B×C×D×E×F×G×H):Z:=f p.1 p.2.1 p.2.2.1 p.2.2.2.1 p.2.2.2.2.1 p.2.2.2.2.2.1 p.2.2.2.2.2.2.1 p.2.2.2.2.2.2.2
abbrev u9 (f:A→B→C→D→E→F→G→H→I→Z) (p:A×B×C×D×E×F×G×H×I):Z:=f p.1 p.2.1 p.2.2.1 p.2.2.2.1 p.2.2.2.2.1 p.2.2.2.2.2.1 p.2.2.2.2.2.2.1 p.2.2.2.2.2.2.2.1 p.2.2.2.2.2.2.2.2
abbrev W9 (h:Z→Prop) (f:A→B→C→D→E→F→G→H→I→Z):Prop:=∀a0 a1 a2 a3 a4 a5 a6 a7 a8,h (f a0 a1 a2 a3 a4 a5 a6 a7 a8)
theorem w9 {f:A→B→C→D→E→F→G→H→I→Z}(t:∀x,h (u9 f x)):W9 h f:=fun a0 a1 a2 a3 a4 a5 a6 a7 a8=>t (a0,a1,a2,a3,a4,a5,a6,a7,a8)
abbrev u10 (f:A→B→C→D→E→F→G→H→I→J→Z) (p:A×B×C×D×E×F×G×H×I×J):Z:=f p.1 p.2.1 p.2.2.1 p.2.2.2.1 p.2.2.2.2.1 p.2.2.2.2.2.1 p.2.2.2.2.2.2.1 p.2.2.2.2.2.2.2.1 p.2.2.2.2.2.2.2.2.1 p.2.2.2.2.2.2.2.2.2
abbrev W10 (h:Z→Prop) (f:A→B→C→D→E→F→G→H→I→J→Z):Prop:=∀a0 a1 a2 a3 a4 a5 a6 a7 a8 a9,h (f a0 a1 a2 a3 a4 a5 a6 a7 a8 a9)
theorem w10 {f:A→B→C→D→E→F→G→H→I→J→Z}(t:∀x,h (u10 f x)):W10 h f:=fun a0 a1 a2 a3 a4 a5 a6 a7 a8 a9=>t (a0,a1,a2,a3,a4,a5,a6,a7,a8,a9)
abbrev u11 (f:A→B→C→D→E→F→G→H→I→J→K→Z) (p:A×B×C×D×E×F×G×H×I×J×K):Z:=f p.1 p.2.1 p.2.2.1 p.2.2.2.1 p.2.2.2.2.1 p.2.2.2.2.2.1 p.2.2.2.2.2.2.1 p.2.2.2.2.2.2.2.1 p.2.2.2.2.2.2.2.2.1 p.2.2.2.2.2.2.2.2.2.1 p.2.2.2.2.2.2.2.2.2.2
abbrev W11 (h:Z→Prop) (f:A→B→C→D→E→F→G→H→I→J→K→Z):Prop:=∀a0 a1 a2 a3 a4 a5 a6 a7 a8 a9 a10,h (f a0 a1 a2 a3 a4 a5 a6 a7 a8 a9 a10)
theorem w11 {f:A→B→C→D→E→F→G→H→I→J→K→Z}(t:∀x,h (u11 f x)):W11 h f:=fun a0 a1 a2 a3 a4 a5 a6 a7 a8 a9 a10=>t (a0,a1,a2,a3,a4,a5,a6,a7,a8,a9,a10)
abbrev u18 (f:A→B→C→D→E→F→G→H→I→J→K→L→M→N→O→P→Q→R→Z) (p:A×B×C×D×E×F×G×H×I×J×K×L×M×N×O×P×Q×R):Z:=f p.1 p.2.1 p.2.2.1 p.2.2.2.1 p.2.2.2.2.1 p.2.2.2.2.2.1 p.2.2.2.2.2.2.1 p.2.2.2.2.2.2.2.1 p.2.2.2.2.2.2.2.2.1 p.2.2.2.2.2.2.2.2.2.1 p.2.2.2.2.2.2.2.2.2.2.1 p.2.2.2.2.2.2.2.2.2.2.2.1 p.2.2.2.2.2.2.2.2.2.2.2.2.1 p.2.2.2.2.2.2.2.2.2.2.2.2.2.1 p.2.2.2.2.2.2.2.2.2.2.2.2.2.2.1 p.2.2.2.2.2.2.2.2.2.2.2.2.2.2.2.1 p.2.2.2.2.2.2.2.2.2.2.2.2.2.2.2.2.1 p.2.2.2.2.2.2.2.2.2.2.2.2.2.2.2.2.2
abbrev W18 (h:Z→Prop) (f:A→B→C→D→E→F→G→H→I→J→K→L→M→N→O→P→Q→R→Z):Prop:=∀a0 a1 a2 a3 a4 a5 a6 a7 a8 a9 a10 a11 a12 a13 a14 a15 a16 a17,h (f a0 a1 a2 a3 a4 a5 a6 a7 a8 a9 a10 a11 a12 a13 a14 a15 a16 a17)
theorem w18 {f:A→B→C→D→E→F→G→H→I→J→K→L→M→N→O→P→Q→R→Z}(t:∀x,h (u18 f x)):W18 h f:=fun a0 a1 a2 a3 a4 a5 a6 a7 a8 a9 a10 a11 a12 a13 a14 a15 a16 a17=>t (a0,a1,a2,a3,a4,a5,a6,a7,a8,a9,a10,a11,a12,a13,a14,a15,a16,a17)
abbrev u19 (f:A→B→C→D→E→F→G→H→I→J→K→L→M→N→O→P→Q→R→S→Z) (p:A×B×C×D×E×F×G×H×I×J×K×L×M×N×O×P×Q×R×S):Z:=f p.1 p.2.1 p.2.2.1 p.2.2.2.1 p.2.2.2.2.1 p.2.2.2.2.2.1 p.2.2.2.2.2.2.1 p.2.2.2.2.2.2.2.1 p.2.2.2.2.2.2.2.2.1 p.2.2.2.2.2.2.2.2.2.1 p.2.2.2.2.2.2.2.2.2.2.1 p.2.2.2.2.2.2.2.2.2.2.2.1 p.2.2.2.2.2.2.2.2.2.2.2.2.1 p.2.2.2.2.2.2.2.2.2.2.2.2.2.1 p.2.2.2.2.2.2.2.2.2.2.2.2.2.2.1 p.2.2.2.2.2.2.2.2.2.2.2.2.2.2.2.1 p.2.2.2.2.2.2.2.2.2.2.2.2.2.2.2.2.1 p.2.2.2.2.2.2.2.2.2.2.2.2.2.2.2.2.2.1 p.2.2.2.2.2.2.2.2.2.2.2.2.2.2.2.2.2.2
abbrev W19 (h:Z→Prop) (f:A→B→C→D→E→F→G→H→I→J→K→L→M→N→O→P→Q→R→S→Z):Prop:=∀a0 a1 a2 a3 a4 a5 a6 a7 a8 a9 a10 a11 a12 a13 a14 a15 a16 a17 a18,h (f a0 a1 a2 a3 a4 a5 a6 a7 a8 a9 a10 a11 a12 a13 a14 a15 a16 a17 a18)
theorem w19 {f:A→B→C→D→E→F→G→H→I→J→K→L→M→N→O→P→Q→R→S→Z}(t:∀x,h (u19 f x)):W19 h f:=fun a0 a1 a2 a3 a4 a5 a6 a7 a8 a9 a10 a11 a12 a13 a14 a15 a16 a17 a18=>t (a0,a1,a2,a3,a4,a5,a6,a7,a8,a9,a10,a11,a12,a13,a14,a15,a16,a17,a18)
end
section
variable {α:Type}
abbrev QA:=List CV×Prop×Res
abbrev QM:=(List CV×KH)×Prop×Res×KH
abbrev QP:=(List CV×KH)×Int×Prop×Res×KH
abbrev QB:=List CV×Int×Prop×Res×Res
abbrev hA (s:Spec) (p:QA):Prop:=s p.1=some p.2
abbrev hM (s:MSpec) (p:QM):Prop:=s p.1.1 p.1.2=some p.2
abbrev hP (s:MSpec) (e:ESpec) (p:QP):Prop:=s p.1.1 p.1.2=some p.2.2∧e p.1.1 p.1.2=p.2.1
abbrev hB (s s2:Spec) (e:QSpec) (p:QB):Prop:=s p.1=some (p.2.2.1,p.2.2.2.1)∧s2 p.1=some (p.2.2.1,p.2.2.2.2)∧e p.1=p.2.1
def spQ (q:α→QA):Spec:=spOf (fun x=>(q x).1) fun x=>(q x).2
def mspQ (q:α→QM):MSpec:=jrI (fun x=>(q x).1) fun x=>(q x).2
theorem aA {q:α→QA}{s:Spec}(e:s=spQ q) (i:InjS (fun x=>(q x).1):=by exact injS) (x:α):hA s (q x):=by
 subst e
 exact jwr _ i x
theorem aM {q:α→QM}{s:MSpec}(e:s=mspQ q) (i:InjM (fun x=>(q x).1):=by exact injM) (x:α):hM s (q x):=by
 subst e
 exact jup _ i x
end
section
variable {α:Type}{P:Program}{E:Nat→Option (List CV)}{F:FuncId}
theorem ofA (q:α→QA){s:Spec}(t:∀x,(q x).2.1→TF P E F (q x).1 [] (q x).2.2 []) (e:s=spQ q:=by rfl):Alias P E F s:=by
 subst e
 exact Alias.of t
theorem ofT (q:α→QA){s:Spec}(t:∀x,(q x).2.1→TF P E F (q x).1 [] (ja9 0 (q x).2.2).1 (ja9 0 (q x).2.2).2) (e:s=spQ q:=by rfl):Fresh P E F s:=by
 subst e
 exact Fresh.of t
theorem ofF (q:α→QA){s:Spec}(al:Alias P E F s) (h:∀x,ja9 0 (q x).2.2=((q x).2.2,[])) (e:s=spQ q:=by rfl):Fresh P E F s:=by
 subst e
 exact Alias.fresh al h
theorem ofM (q:α→QM){s:MSpec}(t:∀x,(q x).2.1→TF P E F (q x).1.1 (q x).1.2 (q x).2.2.1 (q x).2.2.2) (e:s=mspQ q:=by rfl):MutF P E F s:=by
 subst e
 exact MutF.of t
end
abbrev Al (F:FuncId) (s:Spec):Prop:=Alias Tryz.prog E0 F s
abbrev Fre (F:FuncId) (s:Spec):Prop:=Fresh Tryz.prog E0 F s
abbrev Mu (F:FuncId) (s:MSpec):Prop:=MutF Tryz.prog E0 F s
section
variable {P:Program}{E:Nat→Option (List CV)}{F:FuncId}{eqs:List (TypeId×List IntKind)}{lc:LC}{ld:LD}{ts:List RV}{nt:NT}{r:List (FuncId×Con)}{s s2:Spec}{ms:MSpec}{es:ESpec}{qs:QSpec}
theorem GOk.a (ks:List AK) (k:jad P eqs F lc ts nt=true) (h:Alias P E F s) (g:GOk P E r):GOk P E ((F,conA ks s)::r):=.cons (jbt k) (Alias.soundA h) g
theorem GOk.t (ks:List AK) (k:jad P eqs F lc ts nt=true) (h:Fresh P E F s) (g:GOk P E r):GOk P E ((F,conT ks s)::r):=.cons (jbt k) (Fresh.soundT h) g
theorem GOk.f (ks:List AK) (k:jad P eqs F lc ts nt=true) (h:Fresh P E F s) (g:GOk P E r):GOk P E ((F,conF ks s)::r):=.cons (jbt k) (Fresh.soundF h) g
theorem GOk.m (k:jad P eqs F lc ts nt=true) (h:MutF P E F ms) (g:GOk P E r):GOk P E ((F,conM ms)::r):=.cons (jbt k) (MutF.soundM h) g
end
section
variable {G:List (FuncId×Con)}{F:FuncId}{lc:LC}{ld:LD}{ts:List RV}{nt:NT}{args:List CV}{h:KH}{r:Res}{h':KH}
theorem tfi (g:GOk Tryz.prog E0 G) (n0:Nat) (k:jad Tryz.prog eqs0 F lc ts nt=true) (t:T (VV G g nt n0) lc (retQ (VV G g nt n0).X.E (VV G g nt n0).n0 ts r h') ⟨jdX 0 args,h⟩) (hn:h.length=n0:=by rfl):TF Tryz.prog E0 F args h r h':=TF.intro (V:=VV G g nt n0) k rfl hn t
end
theorem zc:Hk True:=⟨trivial⟩
theorem SAM:type_of% (qaa SA MB):=qaa SA MB
theorem tU {p q:Prop}(k:q) (h:Hk q→p:=by
 intro hq
 (fail_if_success with_reducible exact True.intro)
 first
 | (simp only[PB,SAM,seval,rdB,Hk.out zc];exact Hk.out hq)
 | (refine (fun (_:Hk True)=>?_) hq;simp only[PB,SAM,seval,rdB,Hk.out zc];done)
 | (simp only[hw];exact Hk.out hq)
 | (refine (fun (_:Hk True)=>?_) hq;simp only[hw];done)
 | (simp only[hw2];exact Hk.out hq)
 | (refine (fun (_:Hk True)=>?_) hq;simp only[hw2];done)
 | (simp only[hw3];exact Hk.out hq)
 | (refine (fun (_:Hk True)=>?_) hq;simp only[hw3];done)
 | (simp only[hw4];exact Hk.out hq)
 | (refine (fun (_:Hk True)=>?_) hq;simp only[hw4];done)
 | (simp only[hw5];exact Hk.out hq)
 | (refine (fun (_:Hk True)=>?_) hq;simp only[hw5];done)
 | exact T.seq (Hk.out hq)|exact T.stm (Hk.out hq)|exact T.rg (Hk.out hq)|exact jyp (Hk.out hq)|exact jyq (Hk.out hq)|exact jyr (Hk.out hq)|exact T.cond (Hk.out hq)|exact T.skip (Hk.out hq)|exact T.ret (Hk.out hq)|exact T.exit (Hk.out hq)|exact T.block (Hk.out hq)
 | (refine (fun (_:Hk True)=>?_) hq;intro p0;have hyp:=p0;(try simp only[HB,ne_eq,reduceCtorEq]at hyp);(try simp only[p0]);(try clear p0);first|done|(exfalso;omega))):p:=h ⟨k⟩
theorem tZ {p:Prop}(h:p:=by with_reducible exact True.intro):p:=h
theorem tF {p:Prop}(h:p:=by simp only[PB,SAM,seval,rdB,Hk.out zc]<;>exact tE):p:=h
theorem tG {p:Prop}(h:p:=by (simp only[PB,SAM,seval,rdB,Hk.out zc]);first|done|(repeat' apply qaa)<;>first|rfl|omega|simp):p:=h
end
end
end Go.Proofs.YtienkkicehmchaaGreatDoor
