/- Texts of this claim, merged by a program of this claim: ESim, ESim2, ESim3, ESim4, ESim5, ESim6, ESim7, ESim8, ESim9, ESim10, ESimAll. -/
import Derived.Test.YtienkkicehmchaaGreatDoorDl1
import Derived.Great.BuildSlice
import Derived.Laws.MakeOwn
import Derived.Laws.IdiomStrings
import Derived.Laws.Append
namespace Go.Proofs.YtienkkicehmchaaGreatDoor
open Result renaming andThen_ok→qaa
open Bool renaming and_eq_true→qab,false_eq_true→qaj,not_false→qbe
open Sem renaming run_bind→qac,run_pure→qad
open Option renaming map_eq_some_iff→qae,map_some→qai,map_none→qat
open Nat renaming le_refl→qaf,mul_le_mul_right→qag,add_zero→qam,add_mul→qan,mul_comm→qax,mul_one→qaz,add_assoc→qba,min_zero→qbf
open List renaming eq_nil_of_length_eq_zero→qah,length_append→qak,flatMap_def→qal,map_cons→qao,flatMap_append→qap,map_toArray→qaq,length_take→qar,length_cons→qas,take_of_length_le→qau,map_nil→qav,foldl_cons→qaw,replicate→qay,append_assoc→qbb,zipIdx_cons→qbc,length_nil→qbd
set_option linter.unusedVariables false
set_option linter.unusedSimpArgs false
section
open Go.RowKit
def Sim (z:ZMap) (f:LMap) (h:KH) (w:World) (r:Result Next) (c:CV) (h':KH):Prop :=
 ∃v w' z' f',(r=.ok (.value v) w'∨(r=.ok .skip w'∧v=undef))∧VRel z' f' c v∧Desc z' f' h' w'∧Stp z f h w z' f' h' w'
theorem Sim.val {z:ZMap}{f:LMap}{h:KH}{w:World}{r:Result Next}{c:CV}{v:Value}(d:Desc z f h w) (hr:r=.ok (.value v) w) (hv:VRel z f c v):Sim z f h w r c h :=
 ⟨v,w,z,f,.inl hr,hv,d,Stp.refl _ _ _ _⟩
theorem jkW {k:IntKind}{n:Int}(h:jag k n):k.wrap n=n:=by
 unfold jag at h
 have hw:k.wrap n=if (k.signed&&decide (n % (2 ^ k.bits:Int) ≥ (2 ^ (k.bits-1):Int))) then n % (2 ^ k.bits:Int)-(2 ^ k.bits:Int) else n % (2 ^ k.bits:Int):=rfl
 rw[hw]
 cases k<;>grind [IntKind.min,IntKind.max,IntKind.signed,IntKind.bits]
 all_goals omega
section
variable {P:Program}{z:ZMap}{f:LMap}{h:KH}{w:World}{a:Act}{fr:Fr}{dst:Option Tmp}{ty:TypeId}{pos:String}{after:Array Edge}{guard:Option (Nat×Bool)}
theorem jvS (d:Desc z f h w) (hf:FrOk z f fr a){x:Operand}{y:Opd}(hc:eqO x y=true):Sim z f h w ((execOp a.eval ⟨dst,.move x,ty,pos,after,guard⟩).run P w) (y.ev fr) h :=
 Sim.val d rfl (jap hf hc)
theorem jvT (d:Desc z f h w) (hf:FrOk z f fr a){x:Operand}{y:Opd}(hc:eqO x y=true):Sim z f h w ((execOp a.eval ⟨dst,.assign x,ty,pos,after,guard⟩).run P w) (y.ev fr) h :=
 Sim.val d rfl (jap hf hc)
theorem jq8 {t:Bool}{x y:CV}{u v:Value}(hu:VRel z f x u) (hv:VRel z f y v):VRel z f (jdt t x y) (if t then u else v):=by
 unfold jdt
 grind
theorem jtW (d:Desc z f h w) (hf:FrOk z f fr a){c x y:Operand}{c' x' y':Opd}(h1:eqO c c'=true) (h2:eqO x x'=true) (h3:eqO y y'=true){t:Bool}(ht:c'.ev fr=.bool t) :
  Sim z f h w ((execOp a.eval ⟨dst,.pick c x y,ty,pos,after,guard⟩).run P w) (jdt t (x'.ev fr) (y'.ev fr)) h:=by
 have hc:=jap hf h1
 rw[ht]at hc
 have e:a.eval c=.bool t:=by
  generalize a.eval c=v at hc
  cases hc
  rfl
 refine Sim.val (v:=if t then a.eval x else a.eval y) d ?_ (jq8 (jap hf h2) (jap hf h3))
 grind [execOp,asBool,qac,qad,qaa]
theorem jq9 (d:Desc z f h w) (hf:FrOk z f fr a){x:Operand}{y:Opd}(hc:eqO x y=true){c:CV}(hy:y.ev fr=c) (hk:(∃b i o,c=.ptr b i o)∨(∃t u o,c=.vp t u o)∨(∃g o,c=.gptr g o)∨(∃F cs,c=.fn F cs)) :
  Sim z f h w ((execOp a.eval ⟨dst,.nilCheck x,ty,pos,after,guard⟩).run P w) c h:=by
 have hr:=jap hf hc
 rw[hy]at hr
 refine Sim.val (v:=a.eval x) d ?_ hr
 simp only[execOp]
 generalize a.eval x=v at hr
 rcases hk with⟨b,i,o,rfl⟩|⟨t,u,o,rfl⟩|⟨g,o,rfl⟩|⟨F,cs,rfl⟩<;>cases hr<;>rfl
theorem jbK (hf:FrOk z f fr a){x:Operand}{y:Opd}(hc:eqO x y=true){k:IntKind}{n:Int}(hy:y.ev fr=.int k n):a.eval x=.int k n:=by
 have hr:=jap hf hc
 rw[hy]at hr
 generalize a.eval x=v at hr
 cases hr
 rfl
theorem jny (hf:FrOk z f fr a){x:Operand}{y:Opd}(hc:eqO x y=true){b:Bool}(hy:y.ev fr=.bool b):a.eval x=.bool b:=by
 have hr:=jap hf hc
 rw[hy]at hr
 generalize a.eval x=v at hr
 cases hr
 rfl
theorem jhr (hf:FrOk z f fr a){x:Operand}{y:Opd}(hc:eqO x y=true){s:ByteArray}(hy:y.ev fr=.str s):a.eval x=.string s:=by
 have hr:=jap hf hc
 rw[hy]at hr
 generalize a.eval x=v at hr
 cases hr
 rfl
theorem jcP (op:BinOp) (t:TypeId) (x y:Operand) (k k':IntKind) (m n:Int) (w:World):(eqGuard op t x y (.int k m) (.int k' n)).run P w=.ok () w:=by
 unfold eqGuard
 simp_all
theorem jvU (op:BinOp) (t:TypeId) (k:IntKind) (m n r:Int) (G:Prop) (wr:Bool) (w:World) (hr:ariK op m n=some (G,r)) (hG:G∧(wr=true∨jag k r)) (hw:wr=true→op ≠ .rem) :
  (binOp op t (.int k m) (.int k n)).run P w=.ok (.int k (if wr then k.wrap r else r)) w:=by
 obtain⟨hG,hin⟩:=hG
 have key:wr=true∨k.wrap r=r:=hin.imp id jkW
 have fin:(if wr then k.wrap r else r)=k.wrap r:=by
  rcases key with e|e
  ·rw[if_pos e]
  ·rw[e];split<;>rfl
 unfold ariK at hr
 split at hr<;>simp only[Option.some.injEq,Prod.mk.injEq,reduceCtorEq]at hr
 ·obtain⟨rfl,rfl⟩:=hr
  rw[fin]
  simp[binOp,Op.intArith]
 ·obtain⟨rfl,rfl⟩:=hr
  rw[fin]
  simp[binOp,Op.intArith]
 ·obtain⟨rfl,rfl⟩:=hr
  rw[fin]
  simp[binOp,Op.intArith]
 ·obtain⟨rfl,rfl⟩:=hr
  rw[fin]
  have:¬n=0:=by omega
  have e:m.tdiv n=m / n:=by
   by_cases q:m<0
   ·exact Int.tdiv_eq_ediv_of_dvd (Int.dvd_of_emod_eq_zero (hG.1 q))
   ·exact Int.tdiv_eq_ediv_of_nonneg (by omega)
  simp[binOp,Op.intDiv,this,e]
 ·obtain⟨rfl,rfl⟩:=hr
  have:¬n=0:=by omega
  have e:wr=false:=by
   cases wr
   ·rfl
   ·exact absurd rfl (hw rfl)
  subst e
  simp[binOp,Op.intDiv,this,Int.tmod_eq_emod_of_nonneg hG.1]
theorem jdu (k:IntKind){x:Int}(h0:0≤x) (hx:jag k x):(BitVec.ofInt k.bits x).toNat=x.toNat:=by
 rw[BitVec.toNat_ofInt]
 congr 1
 refine Int.emod_eq_of_lt h0 ?_
 unfold jag at hx
 cases k<;>grind [IntKind.min,IntKind.max,IntKind.signed,IntKind.bits]<;>omega
theorem jvV (op:BinOp) (t:TypeId) (k k':IntKind) (m n r:Int) (G:Prop) (wr:Bool) (w:World) (hr:bitK op k m n=some (G,r)) (hG:G∧(wr=true∨jag k r)) (hk:k=k'∨op=.shl∨op=.shr) (hw:wr=true→op ≠ .shr) :
  (binOp op t (.int k m) (.int k' n)).run P w=.ok (.int k (if wr then k.wrap r else r)) w:=by
 obtain⟨hG,hin⟩:=hG
 have key:wr=true∨k.wrap r=r:=hin.imp id jkW
 have fin:(if wr then k.wrap r else r)=k.wrap r:=by
  rcases key with e|e
  ·rw[if_pos e]
  ·rw[e];split<;>rfl
 unfold bitK at hr
 split at hr<;>simp only[Option.some.injEq,Prod.mk.injEq,reduceCtorEq]at hr
 ·obtain⟨rfl,rfl⟩:=hr
  obtain rfl:k=k':=by grind
  rw[fin]
  simp[binOp,Op.intBits,BitVec.toNat_and,jdu k hG.1 hG.2.2.1,jdu k hG.2.1 hG.2.2.2]
 ·obtain⟨rfl,rfl⟩:=hr
  obtain rfl:k=k':=by grind
  rw[fin]
  simp[binOp,Op.intBits,BitVec.toNat_or,jdu k hG.1 hG.2.2.1,jdu k hG.2.1 hG.2.2.2]
 ·obtain⟨rfl,rfl⟩:=hr
  obtain rfl:k=k':=by grind
  rw[fin]
  simp[binOp,Op.intBits,BitVec.toNat_xor,jdu k hG.1 hG.2.2.1,jdu k hG.2.1 hG.2.2.2]
 ·obtain⟨rfl,rfl⟩:=hr
  have e:wr=false:=by
   cases wr
   ·rfl
   ·exact absurd rfl (hw rfl)
  subst e
  have h1:¬n<0:=by omega
  have h2:min n.toNat k.bits=n.toNat:=by omega
  simp[binOp,Op.shift,h1,h2,Int.fdiv_eq_ediv_of_nonneg m (show (0:Int)≤2 ^ n.toNat from Int.pow_nonneg (by decide))]
 ·obtain⟨rfl,rfl⟩:=hr
  rw[fin]
  have h1:¬n<0:=by omega
  have h2:min n.toNat k.bits=n.toNat:=by omega
  simp[binOp,Op.shift,h1,h2]
end
end
section
open Go.RowKit
section
variable {P:Program}{z:ZMap}{f:LMap}{h:KH}{w:World}{a:Act}{fr:Fr}{dst:Option Tmp}{ty:TypeId}{pos:String}{after:Array Edge}{guard:Option (Nat×Bool)}
theorem jtX (op:BinOp) (t:TypeId) (k:IntKind) (m n:Int) (r:Bool) (w:World) (hr:cmpI op m n=some r):(binOp op t (.int k m) (.int k n)).run P w=.ok (.bool r) w:=by
 unfold cmpI at hr
 split at hr<;>simp only[Option.some.injEq,reduceCtorEq]at hr
 all_goals
  subst hr
  simp[binOp,Op.intCmp]
 all_goals grind
theorem jtY (op:BinOp) (t:TypeId) (s u:ByteArray) (r:Bool) (w:World) (hr:cmpS op s u=some r):(binOp op t (.string s) (.string u)).run P w=.ok (.bool r) w:=by
 unfold cmpS at hr
 split at hr<;>simp only[Option.some.injEq,reduceCtorEq]at hr
 all_goals simp_all [binOp,Op.stringOp]
theorem jcC (a:Act) (op:BinOp) (t yt:TypeId) (x y:Operand) (u v:Value) (w:World) (r:Value) (hx:a.eval x=u) (hy:a.eval y=v) (hg:(eqGuard op t x y u v).run P w=.ok () w) (hr:(binOp op t u v).run P w=.ok r w) :
  (execOp a.eval ⟨dst,.binOp op t x y yt,ty,pos,after,guard⟩).run P w=.ok (.value r) w:=by
 simp_all [execOp,qac,qaa,qad]
theorem jvW (d:Desc z f h w) (hf:FrOk z f fr a){op:BinOp}{t yt:TypeId}{u v:Operand}{x y:Opd}(h1:eqO u x=true) (h2:eqO v y=true){k:IntKind}{m n:Int}{r:Bool}(hx:x.ev fr=.int k m) (hy:y.ev fr=.int k n) (hr:cmpI op m n=some r) :
  Sim z f h w ((execOp a.eval ⟨dst,.binOp op t u v yt,ty,pos,after,guard⟩).run P w) (.bool r) h:=by
 have e1:=jbK hf h1 hx
 have e2:=jbK hf h2 hy
 exact Sim.val d (jcC a op t yt u v _ _ w _ e1 e2 (jcP ..) (jtX op t k m n r w hr)) (.bool r)
theorem jtZ (d:Desc z f h w) (hf:FrOk z f fr a){op:BinOp}{t yt:TypeId}{u v:Operand}{x y:Opd}(h1:eqO u x=true) (h2:eqO v y=true){m n:ByteArray}{r:Bool}(hx:x.ev fr=.str m) (hy:y.ev fr=.str n) (hr:cmpS op m n=some r) :
  Sim z f h w ((execOp a.eval ⟨dst,.binOp op t u v yt,ty,pos,after,guard⟩).run P w) (.bool r) h:=by
 have e1:=jhr hf h1 hx
 have e2:=jhr hf h2 hy
 exact Sim.val d (jcC a op t yt u v _ _ w _ e1 e2 (by unfold eqGuard;simp_all) (jtY op t m n r w hr)) (.bool r)
theorem jvX (d:Desc z f h w) (hf:FrOk z f fr a){op:BinOp}{t yt:TypeId}{u v:Operand}{x y:Opd}{wr:Bool}(h1:eqO u x=true) (h2:eqO v y=true){k:IntKind}{m n r:Int}{G:Prop}(hx:x.ev fr=.int k m) (hy:y.ev fr=.int k n) (hr:ariK op m n=some (G,r))
  (hG:G∧(wr=true∨jag k r)) (hw:wr=true→op ≠ .rem):Sim z f h w ((execOp a.eval ⟨dst,.binOp op t u v yt,ty,pos,after,guard⟩).run P w) (.int k (if wr then k.wrap r else r)) h:=by
 have e1:=jbK hf h1 hx
 have e2:=jbK hf h2 hy
 exact Sim.val d (jcC a op t yt u v _ _ w _ e1 e2 (jcP ..) (jvU op t k m n r G wr w hr hG hw)) (.int _ _)
theorem jvY (d:Desc z f h w) (hf:FrOk z f fr a){op:BinOp}{t yt:TypeId}{u v:Operand}{x y:Opd}{wr:Bool}(h1:eqO u x=true) (h2:eqO v y=true){k k':IntKind}{m n r:Int}{G:Prop}(hx:x.ev fr=.int k m) (hy:y.ev fr=.int k' n) (hr:bitK op k m n=some (G,r))
  (hG:G∧(wr=true∨jag k r)) (hk:k=k'∨op=.shl∨op=.shr) (hw:wr=true→op ≠ .shr):Sim z f h w ((execOp a.eval ⟨dst,.binOp op t u v yt,ty,pos,after,guard⟩).run P w) (.int k (if wr then k.wrap r else r)) h:=by
 have e1:=jbK hf h1 hx
 have e2:=jbK hf h2 hy
 exact Sim.val d (jcC a op t yt u v _ _ w _ e1 e2 (jcP ..) (jvV op t k k' m n r G wr w hr hG hk hw)) (.int _ _)
theorem jkX (op:BinOp) (neg:Bool) (hn:(if neg then op == .neq else op == .eql)=true):op=if neg then .neq else .eql:=by
 all_goals grind
theorem jgP (neg:Bool) (t:TypeId) (x y:Value) (b:Bool) (w:World) (hx:(∃c,x=.bool c)∨(∃A,x=.pointer A)∨(∃A n c,x=.slice A n c)∨x=.nilFunc∨(∃F p q,x=.func F p q)∨x=.nilIface∨(∃t v,x=.iface t v)) (hy:(∃c,y=.bool c)∨y=.pointer none∨(∃n c,y=.slice none n c)∨y=.nilFunc∨y=.nilIface)
  (he:(Op.equal t x y).run P w=.ok b w):(binOp (if neg then .neq else .eql) t x y).run P w=.ok (.bool (if neg then !b else b)) w:=by
 rcases hx with⟨_,rfl⟩|⟨_,rfl⟩|⟨_,_,_,rfl⟩|rfl|⟨_,_,_,rfl⟩|rfl|⟨_,_,rfl⟩<;>rcases hy with⟨_,rfl⟩|rfl|⟨_,_,rfl⟩|rfl|rfl<;>cases neg<;>simp only[binOp,if_true,if_false,qaj,qac,he,qaa,qad]
theorem jdb (t:TypeId) (x y:Value):Op.equal t x y=Op.equalIn (9999+1) t x y:=rfl
theorem jt0 (d:Desc z f h w) (hf:FrOk z f fr a){op:BinOp}{neg:Bool}{t yt:TypeId}{u v:Operand}{x y:Opd}(hn:(if neg then op == .neq else op == .eql)=true) (h1:eqO u x=true) (h2:eqO v y=true) (ht:P.underlying t=some .bool){m n:Bool}(hx:x.ev fr=.bool m) (hy:y.ev fr=.bool n) :
  Sim z f h w ((execOp a.eval ⟨dst,.binOp op t u v yt,ty,pos,after,guard⟩).run P w) (.bool (if neg then !(m==n) else m==n)) h:=by
 have e1:=jny hf h1 hx
 have e2:=jny hf h2 hy
 obtain rfl:=jkX op neg hn
 refine Sim.val d (jcC a _ t yt u v _ _ w _ e1 e2 ?_ (jgP neg t _ _ (m==n) w (.inl ⟨_,rfl⟩) (.inl ⟨_,rfl⟩) ?_)) (.bool _)
 ·unfold eqGuard;simp_all
 ·rw[jdb]
  generalize 9999=D
  simp_all [Op.equalIn,qac,run_underlying,qaa,qad]
theorem jt1 (d:Desc z f h w) (hf:FrOk z f fr a){op:BinOp}{neg:Bool}{t yt:TypeId}{u:Operand}{v:Value}{x:Opd}{kind:Nat}(hn:(if neg then op == .neq else op == .eql)=true) (h1:eqO u x=true) (ht:jgO P t v kind=true){G:Prop}{b:Bool}(hx:jen kind (x.ev fr)=some (G,b)) (hG:G) :
  Sim z f h w ((execOp a.eval ⟨dst,.binOp op t u (.const v) yt,ty,pos,after,guard⟩).run P w) (.bool (if neg then !b else b)) h:=by
 have hr:=jap hf h1
 obtain rfl:=jkX op neg hn
 have hy:a.eval (.const v)=v:=rfl
 generalize x.ev fr=c at hr hx
 generalize hue:a.eval u=q at hr
 unfold jgO at ht
 have guard_ok:∀q,(v ≠ .nilIface→(∀l,v ≠ .agg l)→(eqGuard (if neg then .neq else .eql) t u (.const v) q v).run P w=.ok () w):=fun q h1 h2=>by
  unfold eqGuard
  cases v<;>first|exact absurd rfl h1|exact absurd rfl (h2 _)|(cases neg<;>cases q<;>rfl)
 have go:∀(hq:(∃A,q=.pointer A)∨(∃A n c,q=.slice A n c)∨q=.nilFunc∨(∃F p q',q=.func F p q')∨q=.nilIface∨(∃t v,q=.iface t v)) (hv:v=.pointer none∨(∃n c,v=.slice none n c)∨v=.nilFunc∨v=.nilIface),
   (eqGuard (if neg then .neq else .eql) t u (.const v) q v).run P w=.ok () w→(Op.equal t q v).run P w=.ok b w→Sim z f h w ((execOp a.eval ⟨dst,.binOp (if neg then .neq else .eql) t u (.const v) yt,ty,pos,after,guard⟩).run P w) (.bool (if neg then !b else b)) h:=fun hq hv hg he =>
  Sim.val d (jcC a _ t yt u (.const v) q v w _ hue hy hg (jgP neg t _ _ b w (.inr hq) (.inr hv) he)) (.bool _)
 split at ht
 ·rename_i e hu
  simp only[beq_iff_eq]at ht
  subst ht
  have hq:∃A,q=.pointer A∧A.isNone=b:=by
   cases hr<;>grind [jen,Option.some.injEq,Prod.mk.injEq,reduceCtorEq]<;>grind
  obtain⟨A,rfl,rfl⟩:=hq
  refine go (.inl ⟨A,rfl⟩) (.inl rfl) (guard_ok _ (by simp) (by simp)) ?_
  rw[jdb]
  generalize 9999=D
  cases A<;>simp only[Op.equalIn,qac,run_underlying hu,qaa,qad]<;>rfl
 ·rename_i hu
  simp only[beq_iff_eq]at ht
  subst ht
  have hq:(q=.nilFunc∧b=true)∨(∃F p q',q=.func F p q'∧b=false):=by
   cases hr<;>simp only[jen,Option.some.injEq,Prod.mk.injEq,reduceCtorEq]at hx<;>first|exact .inl ⟨rfl,hx.2.symm⟩|exact .inr ⟨_,_,_,rfl,hx.2.symm⟩
  rcases hq with⟨rfl,rfl⟩|⟨F,p,q',rfl,rfl⟩
  ·refine go (.inr (.inr (.inl rfl))) (.inr (.inr (.inl rfl))) (guard_ok _ (by simp) (by simp)) ?_
   rw[jdb]
   generalize 9999=D
   simp_all [Op.equalIn,qac,run_underlying,qaa,qad]
  ·refine go (.inr (.inr (.inr (.inl ⟨_,_,_,rfl⟩)))) (.inr (.inr (.inl rfl))) (guard_ok _ (by simp) (by simp)) ?_
   rw[jdb]
   generalize 9999=D
   simp_all [Op.equalIn,qac,run_underlying,qaa,qad]
 ·rename_i hu
  simp only[beq_iff_eq]at ht
  subst ht
  have hq:(q=.nilIface∧b=true)∨(∃t v,q=.iface t v∧b=false):=by
   cases hr<;>grind [jen,Option.some.injEq,Prod.mk.injEq,reduceCtorEq]<;>grind
  rcases hq with⟨rfl,rfl⟩|⟨t',v',rfl,rfl⟩
  ·refine go (.inr (.inr (.inr (.inr (.inl rfl))))) (.inr (.inr (.inr rfl))) ?_ ?_
   ·simp_all [eqGuard]
   rw[jdb]
   generalize 9999=D
   simp only[Op.equalIn,qac,run_underlying hu,qaa,qad]
  ·refine go (.inr (.inr (.inr (.inr (.inr ⟨_,_,rfl⟩))))) (.inr (.inr (.inr rfl))) ?_ ?_
   ·unfold eqGuard
    simp_all
   rw[jdb]
   generalize 9999=D
   simp only[Op.equalIn,qac,run_underlying hu,qaa,qad]
 ·rename_i hu
  simp only[beq_iff_eq]at ht
  subst ht
  have hq:∃A n c,q=.slice A n c∧A.isNone=b:=by
   cases hr<;>simp only[jen,Option.some.injEq,Prod.mk.injEq,reduceCtorEq]at hx
   ·grind
   ·obtain⟨rfl,rfl⟩:=hx;exact absurd hG (by simp)
   ·exact⟨_,_,_,rfl,hx.2⟩
   ·obtain⟨rfl,rfl⟩:=hx;exact absurd hG (by simp)
   ·exact⟨_,_,_,rfl,hx.2⟩
  obtain⟨A,n,c,rfl,rfl⟩:=hq
  refine go (.inr (.inl ⟨A,_,_,rfl⟩)) (.inr (.inl ⟨_,_,rfl⟩)) (guard_ok _ (by simp) (by simp)) ?_
  rw[jdb]
  generalize 9999=D
  cases A<;>simp only[Op.equalIn,qac,run_underlying hu,qaa,qad]<;>rfl
 ·cases ht
def jlW:CV→Option Prop
 | .vec _ L=>some (0<L.length)
 | .slice _ _ _ n _=>some (0<n)
 | .zs=>some False
 | _=>none
theorem jt2 (d:Desc z f h w) (hf:FrOk z f fr a){op:BinOp}{neg:Bool}{t yt:TypeId}{u:Operand}{v:Value}{x:Opd}(hn:(if neg then op == .neq else op == .eql)=true) (h1:eqO u x=true) (ht:jgO P t v 3=true){G:Prop}(hx:jlW (x.ev fr)=some G) :
  ∃b:Bool,(G→b=false)∧Sim z f h w ((execOp a.eval ⟨dst,.binOp op t u (.const v) yt,ty,pos,after,guard⟩).run P w) (.bool (if neg then !b else b)) h:=by
 have hr:=jap hf h1
 obtain rfl:=jkX op neg hn
 have hy:a.eval (.const v)=v:=rfl
 generalize x.ev fr=c at hr hx
 generalize hue:a.eval u=q at hr
 have hq:∃A n c,q=.slice A n c∧(G→A.isNone=false):=by
  cases hr<;>simp only[jlW,Option.some.injEq,reduceCtorEq]at hx
  ·grind
  ·exact⟨_,_,_,rfl,fun g=>by rw[←hx]at g;exact absurd g (by simp)⟩
  ·grind
  ·exact⟨_,_,_,rfl,fun g=>by rw[←hx]at g;exact absurd g (by simp)⟩
  ·grind
 obtain⟨A,n,c,rfl,hA⟩:=hq
 unfold jgO at ht
 split at ht
 ·simp at ht
 ·simp at ht
 ·simp at ht
 ·rename_i hu
  refine⟨A.isNone,hA,Sim.val d (jcC a _ t yt u _ _ _ w _ hue hy ?_ (jgP neg t _ _ A.isNone w (.inr (.inr (.inl ⟨A,_,_,rfl⟩))) (.inr (.inr (.inl ⟨_,_,rfl⟩))) ?_)) (.bool _)⟩
  ·unfold eqGuard
   cases neg<;>rfl
  ·rw[jdb]
   generalize 9999=D
   cases A<;>simp_all [Op.equalIn,qac,run_underlying,qaa,qad]<;>rfl
 ·cases ht
end
end
section
open Go.RowKit
section
variable {P:Program}{z:ZMap}{f:LMap}{h:KH}{w:World}{a:Act}{fr:Fr}{dst:Option Tmp}{ty:TypeId}{pos:String}{after:Array Edge}{guard:Option (Nat×Bool)}
theorem jvZ {t:TypeId}(d:Desc z f h w) (hf:FrOk z f fr a){x:Operand}{y:Opd}(hc:eqO x y=true){b:Bool}(hy:y.ev fr=.bool b):Sim z f h w ((execOp a.eval ⟨dst,.unOp .not t x,ty,pos,after,guard⟩).run P w) (.bool (!b)) h:=by
 have e:=jny hf hc hy
 refine Sim.val (v:=.bool (!b)) d ?_ (.bool _)
 grind [execOp,Op.unary,qac,qad,qaa]
theorem jv0 {t:TypeId}(d:Desc z f h w) (hf:FrOk z f fr a){x:Operand}{y:Opd}(hc:eqO x y=true){k:IntKind}{n:Int}(hy:y.ev fr=.int k n) (hG:jag k (-n)):Sim z f h w ((execOp a.eval ⟨dst,.unOp .neg t x,ty,pos,after,guard⟩).run P w) (.int k (-n)) h:=by
 have e:=jbK hf hc hy
 refine Sim.val (v:=.int k (-n)) d ?_ (.int _ _)
 simp only[execOp,e,Op.unary,Op.intArith,qac,qad,qaa,Int.zero_sub,jkW hG]
theorem jt3 (d:Desc z f h w) (hf:FrOk z f fr a){s t:TypeId}{x:Operand}{y:Opd}{k k':IntKind}{wr:Bool}(hs:(intT P s).isSome=true) (ht:intT P t=some k) (hc:eqO x y=true){n:Int}(hy:y.ev fr=.int k' n) (hG:wr=true∨jag k n) :
  Sim z f h w ((execOp a.eval ⟨dst,.convert s t x,ty,pos,after,guard⟩).run P w) (.int k (if wr then k.wrap n else n)) h:=by
 have e:=jbK hf hc hy
 obtain⟨ds,hds⟩:∃d,P.underlying s=some d:=by
  unfold intT at hs
  grind
 have hdt:P.underlying t=some (.int k):=by
  unfold intT at ht
  split at ht
  ·rename_i hu
   cases ht
   exact hu
  ·cases ht
 have fin:(if wr then k.wrap n else n)=k.wrap n:=by
  rcases hG with e|e
  ·rw[if_pos e]
  ·rw[jkW e];split<;>rfl
 rw[fin]
 refine Sim.val (v:=.int k (k.wrap n)) d ?_ (.int _ _)
 simp only[execOp,e,convert,qac,run_underlying hds,run_underlying hdt,qaa,Conv.intToInt,qad]
theorem jt4 (d:Desc z f h w) (hf:FrOk z f fr a){t:TypeId}{x:Operand}{y:Opd}(hc:eqO x y=true) (ht:(match P.underlying t with|some (.interface _)=>false|some _=>true|none=>false)=true) :
  Sim z f h w ((execOp a.eval ⟨dst,.makeInterface t x,ty,pos,after,guard⟩).run P w) (.iface t (y.ev fr)) h:=by
 have e:=jap hf hc
 refine Sim.val (v:=.iface t (a.eval x)) d ?_ (.iface t _ _ e)
 cases hu:P.underlying t with
 | none=>grind
 | some ds =>
  simp only[execOp,Instr.makeInterface,qac,run_underlying hu,qaa]
  rw[hu]at ht
  cases ds<;>simp_all
theorem jt5 (d:Desc z f h w) (hf:FrOk z f fr a){F:FuncId}{caps:Array Operand}{cs:List Opd}(hc:eqOs caps.toList cs=true) :
  Sim z f h w ((execOp a.eval ⟨dst,.makeFunc (.func F) #[] caps,ty,pos,after,guard⟩).run P w) (.fn F (cs.map (Opd.ev fr))) h:=by
 obtain⟨h1,h2⟩:=jkV hf hc
 refine Sim.val (v:=.func (.func F) #[] (caps.map a.eval)) d ?_ (.fn F _ _ (by grind) (fun i c v hc hv=>h2 i c v hc (by grind)))
 simp only[execOp,Instr.makeFunc,qac,qad,qaa,Array.map_empty]
theorem jv1 (d:Desc z f h w) (hf:FrOk z f fr a){F:FuncId}{x:Operand}{y:Opd}(hc:eqO x y=true){c:CV}(hb:bndV F (y.ev fr)=some c) :
  Sim z f h w ((execOp a.eval ⟨dst,.makeFunc (.func F) #[x] #[],ty,pos,after,guard⟩).run P w) c h:=by
 have hr:=jap hf hc
 unfold bndV at hb
 split at hb
 ·rename_i e
  cases hb
  rw[e]at hr
  refine Sim.val (v:=.func (.func F) #[a.eval x] #[]) d ?_ ?_
  ·simp only[execOp,Instr.makeFunc,qac,qad,qaa,qaq,qao,qav]
  ·generalize a.eval x=v at hr
   cases hr with
   | agg _ cs hs _ =>
    obtain rfl:cs=#[]:=Array.eq_empty_of_size_eq_zero hs
    exact .mfn F
 ·cases hb
theorem jlX {x y:CV}{u:Value}{n:Nat}(hx:VRel z f x u) (hs:jeg x n=some y):∃B o,u=.pointer (some ⟨B,o,none⟩)∧VRel z f y (.pointer (some ⟨B,o+n,none⟩)):=by
 cases hx<;>simp only[jeg,Option.some.injEq,reduceCtorEq]at hs<;>subst hs
 ·rename_i b i o l hl
  refine⟨_,_,rfl,?_⟩
  have:=VRel.ptr (z:=z) b i (o+n) l hl
  grind [Loc.addr,qba]
 ·rename_i t x o B base rc T fr g hz hcc hr
  refine⟨_,_,rfl,?_⟩
  have:=VRel.vp t x (o+n) B base rc T fr g hz hcc hr
  grind
 ·exact⟨_,_,rfl,.gptr _ _⟩
theorem jbL {t:TypeId}{n:Nat}(ht:szOf P t=some n) (w:World):(sizeOf t).run P w=.ok n w:=by
 unfold szOf at ht
 cases hi:P.info? t with
 | none=>grind
 | some i =>
  simp_all [qai,Option.some.injEq,sizeOf,run_typeInfo]
theorem jhs {s:TypeId}{k off:Nat}{t:TypeId}(hh:jgN P s k off=some t):∃fs fd,P.underlying s=some (.struct fs)∧fs[k]?=some fd∧fd.offset=off∧fd.type=t:=by
 unfold jgN at hh
 grind
theorem jra (d:Desc z f h w) (hf:FrOk z f fr a){s:TypeId}{x:Operand}{k off:Nat}{y:Opd}{c:CV}(hfd:(match jgN P s k off with
   | some t=>(match szOf P t with
    | some (n+1)=>true
    | _=>false)
   | none=>false)=true) (hc:eqO x y=true) (hs:jeg (y.ev fr) off=some c) :
  Sim z f h w ((execOp a.eval ⟨dst,.fieldAddr s x k,ty,pos,after,guard⟩).run P w) c h:=by
 obtain⟨B,o,e1,e2⟩:=jlX (jap hf hc) hs
 refine Sim.val d ?_ e2
 split at hfd
 ·rename_i t ht
  obtain⟨fs,fd,h1,h2,h3,h4⟩:=jhs ht
  split at hfd
  ·rename_i n hn
   subst h4
   simp only[execOp,e1,Instr.fieldAt,qac,run_underlying h1,qaa,h2,Instr.sureAddr,qad,fieldPlace,jbL hn]
   simp_all [if_neg,qad,qaa,jfn]
  ·cases hfd
 ·cases hfd
theorem joF {t:TypeId}{n:Nat}{agg:Bool}{cs:Array Value}{l:List CV}{off:Nat}{c:CV}(hs:cs.size=l.length) (hr:∀(i:Nat) (c:CV) (v:Value),l[i]?=some c→cs[i]?=some v→VRel z f c v)
  (hn:szOf P t=some n) (ha:jer P t=some agg) (hp:jh1 l off n agg=some c):∃v,(part t cs off).run P w=.ok v w∧VRel z f c v:=by
 obtain⟨ds,hu,rfl⟩:∃ds,P.underlying t=some ds∧aggD ds=agg:=by
  unfold jer at ha
  cases hu:P.underlying t with
  | none=>rw[hu]at ha;cases ha
  | some ds =>
   rw[hu]at ha
   exact⟨ds,rfl,by simpa using ha⟩
 have hagg:(isAgg t).run P w=.ok (aggD ds) w:=by
  unfold isAgg
  rw[qac,run_underlying hu]
  cases ds<;>rfl
 unfold jh1 jfh at hp
 simp only[List.length_drop]at hp
 split at hp
 ·rename_i hle
  split at hp
  ·rename_i hag
   cases hp
   refine⟨.agg (cs.extract off (off+n)),?_,.agg _ _ (by simp;omega) (fun i c v hc hv=>?_)⟩
   ·simp_all [part,qac,qaa,if_true,jbL,qad]
   grind
  ·rename_i hag
   split at hp
   ·rename_i h1
    rw[List.head?_eq_getElem?,List.getElem?_drop,qam]at hp
    have hlt:off<cs.size:=by
     have:=(List.getElem?_eq_some_iff.1 hp).1
     omega
    refine⟨cs[off],?_,hr _ _ _ hp (Array.getElem?_eq_getElem hlt)⟩
    simp only[part,qac,hagg,qaa,hag,qaj,if_false,Array.getElem?_eq_getElem hlt,qad]
   ·cases hp
 ·cases hp
theorem jrb (d:Desc z f h w) (hf:FrOk z f fr a){s:TypeId}{x:Operand}{k off n:Nat}{agg:Bool}{y:Opd}{c:CV}{l:List CV}(hfd:(match jgN P s k off with
   | some t=>szOf P t==some n&&jer P t==some agg
   | none=>false)=true) (hc:eqO x y=true) (hy:y.ev fr=.agg l) (hp:jh1 l off n agg=some c) :
  Sim z f h w ((execOp a.eval ⟨dst,.field s x k,ty,pos,after,guard⟩).run P w) c h:=by
 have hr:=jap hf hc
 rw[hy]at hr
 generalize hx:a.eval x=v at hr
 cases hr with
 | agg _ cs hs hcr =>
  split at hfd
  ·rename_i t ht
   simp only[qab,beq_iff_eq]at hfd
   obtain⟨fs,fd,h1,h2,h3,h4⟩:=jhs ht
   subst h4 h3
   obtain⟨u,e1,e2⟩:=joF (w:=w) hs hcr hfd.1 hfd.2 hp
   refine Sim.val d ?_ e2
   simp only[execOp,hx,Instr.field,qac,run_underlying h1,qaa,h2,asAgg,qad,e1]
  ·cases hfd
theorem jv2 (d:Desc z f h w) (hf:FrOk z f fr a){s:TypeId}{x i:Operand}{esz:Nat}{y j:Opd}{G:Prop}{c:CV}(hu:(match P.underlying s with
   | some (.slice e)=>szOf P e==some esz
   | _=>false)=true) (h1:eqO x y=true) (h2:eqO i j=true) (hx:ixSK esz (y.ev fr) (j.ev fr)=some (G,c)) (hG:G) :
  Sim z f h w ((execOp a.eval ⟨dst,.indexAddr s x i,ty,pos,after,guard⟩).run P w) c h:=by
 split at hu
 ·rename_i e hus
  simp only[beq_iff_eq]at hu
  have hr:=jap hf h1
  have key:∀(k:IntKind) (n:Int) (B o len cap:Nat),a.eval i=.int k n→a.eval x=.slice (some ⟨B,o,none⟩) len cap→0≤n∧n<len→(execOp a.eval ⟨dst,.indexAddr s x i,ty,pos,after,guard⟩).run P w=.ok (.value (.pointer (some ⟨B,o+n.toNat*esz,none⟩))) w:=fun k n B o len cap hi hxx hn=>by
   simp only[execOp,hi,hxx,Instr.indexAt,asIntOf,qac,qad,qaa,run_underlying hus]
   simp_all [if_pos,qac,jbL,qaa,qad,jfn]
  unfold ixSK at hx
  split at hx
  ·rename_i b i0 esz' len cap k n hyv hjv
   split at hx
   ·rename_i he
    subst he
    simp only[Option.some.injEq,Prod.mk.injEq]at hx
    obtain⟨rfl,rfl⟩:=hx
    have hi:=jbK hf h2 hjv
    rw[hyv]at hr
    generalize hxx:a.eval x=v at hr
    cases hr with
    | slice _ _ _ _ _ cap' l hl he hc hs =>
     refine Sim.val d (key k n _ _ _ _ hi hxx hG) ?_
     have:=VRel.ptr (z:=z) b (i0+n.toNat) 0 l hl
     simp_all [Loc.addr,qan,qam,qba]
    | slice0=>omega
   ·cases hx
  ·rename_i t L k n hyv hjv
   split at hx
   ·rename_i he
    simp only[Option.some.injEq,Prod.mk.injEq]at hx
    obtain⟨rfl,rfl⟩:=hx
    have hi:=jbK hf h2 hjv
    rw[hyv]at hr
    generalize hxx:a.eval x=v at hr
    cases hr with
    | vec _ _ B o cap' rc T fr g hz hl hcc hrr =>
     obtain⟨m,rfl⟩:∃m:Nat,n=m:=⟨n.toNat,by omega⟩
     have hm:m<L.length:=by omega
     have hxd:L[m]?=some (L.getD m t.dflt):=by rw[List.getD_eq_getElem?_getD,List.getElem?_eq_getElem hm];rfl
     refine Sim.val d (key k _ _ _ _ _ hi hxx hG) ?_
     have:=VRel.vp t (L.getD m t.dflt) 0 B (o+m*t.esz) rc T fr (g m) hz (fun k c hk=>hcc m _ hxd k c hk) (fun k c hk=>hrr m _ hxd k c hk)
     grind
    | vec0=>grind
   ·cases hx
  ·cases hx
 ·cases hu
theorem jv3 (d:Desc z f h w) (hf:FrOk z f fr a){s:TypeId}{x i:Operand}{esz len:Nat}{y j:Opd}{c:CV}(hu:(match P.underlying s with
   | some (.array n e)=>szOf P e==some esz&&n==len
   | _=>false)=true) (h1:eqO x y=true) (h2:eqO i j=true){k:IntKind}{n:Int}(hj:j.ev fr=.int k n) (hs:jeg (y.ev fr) (n.toNat*esz)=some c) (hG:0≤n∧n<len) :
  Sim z f h w ((execOp a.eval ⟨dst,.indexAddr s x i,ty,pos,after,guard⟩).run P w) c h:=by
 obtain⟨B,o,e1,e2⟩:=jlX (jap hf h1) hs
 have hi:=jbK hf h2 hj
 refine Sim.val d ?_ e2
 split at hu
 ·rename_i m e hus
  simp only[qab,beq_iff_eq]at hu
  obtain⟨hu1,rfl⟩:=hu
  simp only[execOp,hi,e1,Instr.indexAt,asIntOf,Instr.sureAddr,qac,qad,qaa,run_underlying hus]
  simp_all [if_pos,qac,jbL,qaa,qad,jfn]
 ·cases hu
theorem jnz (s:ByteArray) (n:Nat) (hn:n<s.size):s[n]?=some (s.data[n]'(by simp_all))∧(jab s).getD n 0=((s.data[n]'(by simpa using hn)).toNat:Int):=by
 have hn2:n<s.data.size:=by simpa using hn
 refine⟨by simp[getElem?_def,hn];rfl,?_⟩
 unfold jab
 rw[List.getD_eq_getElem?_getD,List.getElem?_map,Array.getElem?_toList,Array.getElem?_eq_getElem hn2]
 rfl
theorem jv4 (d:Desc z f h w) (hf:FrOk z f fr a){s:TypeId}{x i:Operand}{y j:Opd}(hu:strT P s=true) (h1:eqO x y=true) (h2:eqO i j=true){k:IntKind}{n:Int}{q:ByteArray}(hy:y.ev fr=.str q) (hj:j.ev fr=.int k n) (hG:0≤n∧n<q.size) :
  Sim z f h w ((execOp a.eval ⟨dst,.index s x i,ty,pos,after,guard⟩).run P w) (.int .u8 ((jab q).getD n.toNat 0)) h:=by
 have e1:=jhr hf h1 hy
 have e2:=jbK hf h2 hj
 have hus:P.underlying s=some .string:=by
  unfold strT at hu
  split at hu
  ·rename_i e
   exact e
  ·cases hu
 obtain⟨g1,g2⟩:=jnz q n.toNat (by omega)
 refine Sim.val (v:=.int .u8 ((jab q).getD n.toNat 0)) d ?_ (.int _ _)
 simp only[execOp,e1,e2,Instr.index,asIntOf,qac,qad,qaa,run_underlying hus,hG.1,if_true,g1,g2]
theorem jv5 (d:Desc z f h w) (hf:FrOk z f fr a){x:Operand}{y:Opd}{i:Nat}{l:List CV}{c:CV}(hc:eqO x y=true) (hy:y.ev fr=.tup l) (hi:l[i]?=some c):Sim z f h w ((execOp a.eval ⟨dst,.extract x i,ty,pos,after,guard⟩).run P w) c h:=by
 have hr:=jap hf hc
 rw[hy]at hr
 generalize hx:a.eval x=v at hr
 cases hr with
 | tup _ cs hs hcr =>
  have hlt:i<cs.size:=by
   rw[hs]
   exact (List.getElem?_eq_some_iff.1 hi).1
  refine Sim.val d ?_ (hcr i c _ hi (Array.getElem?_eq_getElem hlt))
  grind [execOp,Instr.extract,Array.getElem?_eq_getElem,qac,qad,qaa]
end
end
section
open Go.RowKit
def jt6 (P:Program) (eqs:List (TypeId×List IntKind)):Prop :=
 ∀t ks,(t,ks)∈eqs→∀(xs ys:List Int),xs.length=ks.length→ys.length=ks.length→∀(x y:Operand) (w:World) (neg:Bool),
  (eqGuard (if neg then .neq else .eql) t x y (.agg ((ks.zip xs).map fun p=>Value.int p.1 p.2).toArray) (.agg ((ks.zip ys).map fun p=>Value.int p.1 p.2).toArray)).run P w=.ok () w ∧
  (binOp (if neg then .neq else .eql) t (.agg ((ks.zip xs).map fun p=>Value.int p.1 p.2).toArray) (.agg ((ks.zip ys).map fun p=>Value.int p.1 p.2).toArray)).run P w=.ok (.bool (if neg then !decide (xs=ys) else decide (xs=ys))) w
section
variable {P:Program}{E:Nat→Option (List CV)}{z:ZMap}{f:LMap}{h:KH}{w:World}{a:Act}{fr:Fr}{dst:Option Tmp}{ty:TypeId}{pos:String}{after:Array Edge}{guard:Option (Nat×Bool)}
theorem jt7 (d:Desc z f h w) (hf:FrOk z f fr a) (hE:EnvOk E z){t:TypeId}{x:Operand}{y:Opd}{agg:Bool}{n:Nat}(ha:jer P t=some agg) (hn:szOf P t=some n) (hc:eqO x y=true){G:Prop}{r:List CV}{c:CV}(hr:jem E h (y.ev fr)=some (G,r)) (hG:G) (hl:jfh agg n r=some c) :
  Sim z f h w ((execOp a.eval ⟨dst,.load t x,ty,pos,after,guard⟩).run P w) c h:=by
 obtain⟨B,o,e1,e2⟩:=jik d hE (jap hf hc) hr hG
 obtain⟨ds,hu,rfl⟩:∃ds,P.underlying t=some ds∧aggD ds=agg:=by
  unfold jer at ha
  cases hu:P.underlying t with
  | none=>rw[hu]at ha;cases ha
  | some ds =>
   rw[hu]at ha
   exact⟨ds,rfl,by simpa using ha⟩
 obtain⟨i,hi,hin⟩:∃i,P.info? t=some i∧i.size=n:=by
  unfold szOf at hn
  cases hi:P.info? t with
  | none=>rw[hi]at hn;cases hn
  | some i =>
   rw[hi]at hn
   exact⟨i,rfl,by simpa using hn⟩
 obtain⟨v,g1,g2⟩:=jhp P hu rfl hi hin e2 hl
 refine Sim.val d ?_ g2
 simp_all [execOp,Instr.loadAt,Instr.sureAddr,qac,qad,qaa]
theorem jv6 (d:Desc z f h w) (hf:FrOk z f fr a){t:TypeId}{x:Operand}{y:Opd}(hc:eqO x y=true) (ht:(match P.underlying t with
     | some .string|some (.slice _)=>true
     | _=>false)=true){n:Int}(hl:lenK (y.ev fr)=some n) (hk:strT P t=true↔∃s,y.ev fr=.str s) :
  Sim z f h w ((execOp a.eval ⟨dst,.call { callee:=.builtin .len,args:=#[x],argTypes:=#[t] },ty,pos,after,guard⟩).run P w) (.int .i64 n) h:=by
 have hr:=jap hf hc
 refine Sim.val (v:=.int .i64 n) d ?_ (.int _ _)
 generalize hx:a.eval x=v at hr
 have hrun:∀r,(Builtin.len_ #[t] ty #[v]).run P w=.ok r w→(execOp a.eval ⟨dst,.call { callee:=.builtin .len,args:=#[x],argTypes:=#[t] },ty,pos,after,guard⟩).run P w=.ok (.value r) w:=fun r hr=>by
  simp only[execOp,resolve,qaq,qao,qav,hx,invoke,builtin,qac,qad,qaa,hr]
 apply hrun
 cases hu:P.underlying t with
 | none=>grind
 | some ds =>
  rw[hu]at ht
  have hst:strT P t=true→ds=.string:=fun e=>by
   grind [strT]
  cases ds<;>first|cases ht|skip
  ·obtain⟨s,hs⟩:=hk.1 (by unfold strT;rw[hu])
   rw[hs]at hr hl
   cases hr
   simp_all [lenK,Option.some.injEq,Builtin.len_,run_underlying,goInt]
  ·have no:¬∃s,y.ev fr=.str s:=fun e=>by
    grind
   have ex:∃A m c,v=.slice A m c∧(m:Int)=n:=by
    generalize y.ev fr=q at hr hl no
    cases hr<;>simp only[lenK,Option.some.injEq,reduceCtorEq]at hl
    ·exact absurd ⟨_,rfl⟩ no
    all_goals exact⟨_,_,_,rfl,by simpa using hl⟩
   obtain⟨A,m,c,rfl,rfl⟩:=ex
   simp[Builtin.len_,run_underlying hu,goInt]
theorem jxD (d:Desc z f h w) (hf:FrOk z f fr a){u v:Operand}{x y:Opd}{mx:Bool}{b:Builtin}{ts:Array TypeId}(h1:eqO u x=true) (h2:eqO v y=true) (hb:(if mx then b == .max else b == .min)=true){k:IntKind}{m n:Int}(hx:x.ev fr=.int k m) (hy:y.ev fr=.int k n) :
  Sim z f h w ((execOp a.eval ⟨dst,.call { callee:=.builtin b,args:=#[u,v],argTypes:=ts },ty,pos,after,guard⟩).run P w) (.int k (if mx then max m n else min m n)) h:=by
 have e1:=jbK hf h1 hx
 have e2:=jbK hf h2 hy
 refine Sim.val (v:=.int k (if mx then max m n else min m n)) d ?_ (.int _ _)
 cases mx
 ·simp only[qaj,if_false,beq_iff_eq]at hb
  subst hb
  have:(if n<m then n else m)=min m n:=by omega
  simp_all [execOp,resolve,invoke,builtin,Builtin.min_,Builtin.min2]
 ·simp only[if_true,beq_iff_eq]at hb
  subst hb
  have:(if m<n then n else m)=max m n:=by omega
  simp_all [execOp,resolve,invoke,builtin,Builtin.max_,Builtin.max2]
theorem jlY (hf:FrOk z f fr a){x:Operand}{y:Opd}(hc:eqO x y=true){G:Prop}{n:Nat}(hb:jim (y.ev fr)=some (G,n)) (hG:G) (cap:Nat) (hn:n≤cap) (code:BoundsCode):(Instr.sliceBound (a.eval x) cap code).run P w=.ok n w:=by
 unfold jim at hb
 split at hb
 ·rename_i k m hy
  cases hb
  have e:=jbK hf hc hy
  simp_all [Instr.sliceBound,asIntOf]
 ·cases hb
theorem jnA (d:Desc z f h w) (hf:FrOk z f fr a){x:Operand}{y:Opd}{xt t:TypeId}{ok:Bool}{zero c:CV}(hc:eqO x y=true) (ht:(match P.underlying t with
   | some (.interface _)=>false
   | some _=>true
   | none=>false)=true) (hz:(match P.info? t with
   | some i=>(match i.zero with
    | some v=>jin v zero
    | none=>false)
   | none=>false)=true)
  (hr:(∃q,y.ev fr=.iface t q∧c=if ok then .tup [q,.bool true] else q)∨(ok=true∧c=.tup [zero,.bool false]∧(y.ev fr=.niliface∨∃t' q,y.ev fr=.iface t' q∧t'≠t))) :
  Sim z f h w ((execOp a.eval ⟨dst,.typeAssert x xt t ok,ty,pos,after,guard⟩).run P w) c h:=by
 have hv:=jap hf hc
 cases hu:P.underlying t with
 | none=>grind
 | some ds =>
  rw[hu]at ht
  cases hi:P.info? t with
  | none=>grind
  | some i =>
   rw[hi]at hz
   cases hzz:i.zero with
   | none=>grind
   | some zv =>
    simp only[hzz]at hz
    have pair:∀(c1 c2:CV) (v1 v2:Value),VRel z f c1 v1→VRel z f c2 v2→VRel z f (.tup [c1,c2]) (.tuple #[v1,v2]):=fun c1 c2 v1 v2 r1 r2=>by
     refine .tup _ _ rfl (fun i c v hc hv=>?_)
     grind
    rcases hr with⟨q,hy,rfl⟩|⟨rfl,rfl,hy⟩
    ·rw[hy]at hv
     generalize hx:a.eval x=v at hv
     cases hv with
     | iface _ _ u hq =>
      refine Sim.val (v:=if ok then .tuple #[u,.bool true] else u) d ?_ ?_
      ·simp only[execOp,hx,Instr.typeAssert,qac,run_underlying hu,qaa]
       cases ds<;>simp_all
      ·cases ok
       ·exact hq
       ·exact pair _ _ _ _ hq (.bool true)
    ·have zr:=jio z f hz
     refine Sim.val (v:=.tuple #[zv,.bool false]) d ?_ (pair _ _ _ _ zr (.bool false))
     have zrun:(zeroValue t).run P w=.ok zv w:=by simp[zeroValue,run_typeInfo w hi,hzz]
     rcases hy with hy|⟨t',q,hy,hne⟩
     ·rw[hy]at hv
      generalize hx:a.eval x=v at hv
      cases hv
      simp only[execOp,hx,Instr.typeAssert,qac,run_underlying hu,qaa]
      cases ds<;>simp_all
     ·rw[hy]at hv
      generalize hx:a.eval x=v at hv
      cases hv with
      | iface _ _ u hq =>
       simp only[execOp,hx,Instr.typeAssert,qac,run_underlying hu,qaa]
       cases ds<;>simp_all
theorem jir:∀{ks:List IntKind}{l m:List CV}{r:Bool},jbn ks l m=some r→∃xs ys:List Int,xs.length=ks.length∧ys.length=ks.length∧l=(ks.zip xs).map (fun p=>CV.int p.1 p.2)∧m=(ks.zip ys).map (fun p=>CV.int p.1 p.2)∧r=decide (xs=ys)
 | [],[],[],r,h=>by
  simp[jbn]at h
  exact⟨[],[],rfl,rfl,rfl,rfl,by simp[h]⟩
 | q::ks,.int k a::l,.int k' b::m,r,h=>by
  simp only[jbn]at h
  split at h
  ·rename_i hk
   obtain⟨rfl,rfl⟩:=hk
   obtain⟨r',h1,h2⟩:=Option.map_eq_some_iff.1 h
   obtain⟨xs,ys,e1,e2,e3,e4,e5⟩:=jir h1
   refine⟨a::xs,b::ys,by simp[e1],by simp[e2],by simp[e3],by simp[e4],?_⟩
   simp_all
  ·cases h
theorem jv7 (d:Desc z f h w) (hf:FrOk z f fr a){eqs:List (TypeId×List IntKind)}(hq:jt6 P eqs){ks:List IntKind}{neg:Bool}{op:BinOp}{t yt:TypeId}{u v:Operand}{x y:Opd}(hm:eqs.contains (t,ks)=true) (h1:eqO u x=true) (h2:eqO v y=true) (hn:(if neg then op == .neq else op == .eql)=true)
  {l m:List CV}{r:Bool}(hx:x.ev fr=.agg l) (hy:y.ev fr=.agg m) (hr:jbn ks l m=some r):Sim z f h w ((execOp a.eval ⟨dst,.binOp op t u v yt,ty,pos,after,guard⟩).run P w) (.bool (if neg then !r else r)) h:=by
 obtain rfl:=jkX op neg hn
 obtain⟨xs,ys,e1,e2,e3,e4,e5⟩:=jir hr
 have shape:∀(xs:List Int) (v:Value),VRel z f (.agg ((ks.zip xs).map fun p=>CV.int p.1 p.2)) v→v=.agg ((ks.zip xs).map fun p=>Value.int p.1 p.2).toArray:=fun xs v hv=>by
  cases hv with
  | agg _ cs hs hcr =>
   congr 1
   apply Array.ext'
   apply List.ext_getElem?
   intro i
   by_cases hi:i<(ks.zip xs).length
   ·have hi2:i<cs.size:=by rw[hs];simpa using hi
    have:=hcr i _ _ (by rw[List.getElem?_map,List.getElem?_eq_getElem hi];rfl) (Array.getElem?_eq_getElem hi2)
    rw[Array.getElem?_toList,Array.getElem?_eq_getElem hi2]
    simp only[List.getElem?_map,List.getElem?_eq_getElem hi,qai]
    generalize cs[i]=q at this
    cases this
    rfl
   grind
 have r1:=jap hf h1
 have r2:=jap hf h2
 rw[hx,e3]at r1
 rw[hy,e4]at r2
 have s1:=shape xs _ r1
 have s2:=shape ys _ r2
 obtain⟨g1,g2⟩:=hq t ks (by grind) xs ys e1 e2 u v w neg
 rw[e5]
 exact Sim.val d (jcC a _ t yt u v _ _ w _ s1 s2 g1 g2) (.bool _)
end
end
section
open Go.RowKit
def CellsR (z:ZMap) (f:LMap) (cs:List CV) (us:List Value):Prop:=us.length=cs.length∧∀(k:Nat) (c:CV) (u:Value),cs[k]?=some c→us[k]?=some u→VRel z f c u
theorem ETy.enc_one:∀(t:ETy) (x:t.T),(t.enc x).all CV.one=true
 | .int _,_=>rfl
 | .bool,_=>rfl
 | .str,_=>rfl
 | .cell,_=>rfl
 | .item,.mk _ _ _ _ _=>rfl
 | .rows _,_=>rfl
 | .pair a b,x=>by simp only[ETy.enc,List.all_append,a.enc_one,b.enc_one,Bool.and_self]
theorem joG (t:ETy) (L:List t.T):∀c∈L.flatMap t.enc,c.one=true:=fun c hc=>by
 obtain⟨x,_,hx⟩:=List.mem_flatMap.1 hc
 exact List.all_eq_true.1 (t.enc_one x) c hx
theorem CellsR.one {z:ZMap}{f:LMap}{cs:List CV}{us:List Value}(h:CellsR z f cs us) (h1:∀c∈cs,c.one=true):∀u∈us,u.oneCell'=true:=fun u hu=>by
 obtain⟨k,hk⟩:=List.mem_iff_getElem?.1 hu
 have hlt:k<cs.length:=by
  rw[←h.1]
  exact (List.getElem?_eq_some_iff.1 hk).1
 exact (h.2 k cs[k] u (List.getElem?_eq_getElem hlt) hk).oneCell (h1 _ (List.getElem_mem hlt))
theorem CellsR.append {z:ZMap}{f:LMap}{cs ds:List CV}{us vs:List Value}(h:CellsR z f cs us) (k:CellsR z f ds vs):CellsR z f (cs++ds) (us++vs):=by
 refine⟨by simp[h.1,k.1],fun i c u hc hu=>?_⟩
 rw[List.getElem?_append]at hc hu
 rw[h.1]at hu
 split at hc
 ·rename_i hi
  rw[if_pos hi]at hu
  exact h.2 i c u hc hu
 ·rename_i hi
  rw[if_neg hi]at hu
  exact k.2 _ c u hc hu
section
variable {P:Program}{E:Nat→Option (List CV)}{z:ZMap}{f:LMap}{h:KH}{w:World}{a:Act}{fr:Fr}{dst:Option Tmp}{ty:TypeId}{pos:String}{after:Array Edge}{guard:Option (Nat×Bool)}
theorem jkY (F:Nat→Option Value) (cs:List CV) (hc:∀k c,cs[k]?=some c→∃v,F k=some v∧VRel z f c v):∃us,CellsR z f cs us∧∀k u,us[k]?=some u→F k=some u:=by
 refine⟨(List.range cs.length).map fun k=>(F k).getD undef,⟨by simp,fun k c u h1 h2=>?_⟩,fun k u hu=>?_⟩
 ·grind
 ·have hk:k<cs.length:=by
   have:=(List.getElem?_eq_some_iff.1 hu).1
   simpa using this
  obtain⟨v,e1,e2⟩:=hc k _ (List.getElem?_eq_getElem hk)
  grind
theorem jdc (d:Desc z f h w){t:ETy}{c:CV}{v:Value}{G:Prop}{L:List t.T}(hv:VRel z f c v) (hl:jbb h t c=some (G,L)) (hG:G) :
  ∃A cap us,v=.slice A L.length cap∧CellsR z f (L.flatMap t.enc) us∧∀n,n≤L.length→(Builtin.firstCells t.esz n v).run P w=.ok (us.take (n*t.esz)).toArray w:=by
 have flatmap:∀(t':ETy) (M:List t'.T),ETy.cast? t' t M=some L→L.flatMap t.enc=M.flatMap t'.enc∧t.esz=t'.esz∧L.length=M.length:=fun t' M hc=>by
  obtain⟨e1,e2,e3⟩:=ETy.cast_enc _ _ _ _ hc
  refine⟨?_,e1,e2⟩
  rw[qal,qal,e3]
 have fin:∀(B o cap:Nat) (us:List Value),CellsR z f (L.flatMap t.enc) us→(∀k u,us[k]?=some u→w.cell? ⟨B,o+k,none⟩=some u) →
   ∀n,n≤L.length→(Builtin.firstCells t.esz n (.slice (some ⟨B,o,none⟩) L.length cap)).run P w=.ok (us.take (n*t.esz)).toArray w:=fun B o cap us h1 h2 n hn=>by
  have hmul:=qag t.esz hn
  have hlen:n*t.esz=(us.take (n*t.esz)).length:=by rw[qar,h1.1,jaz];omega
  have hrun:=run_loadCells_list (P:=P) w ⟨B,o,none⟩ (us.take (n*t.esz)) (fun k u hu=>by
   rw[jfn]
   refine h2 k u ?_
   rw[List.getElem?_take]at hu
   split at hu
   ·exact hu
   ·cases hu)
  rw[←hlen]at hrun
  exact hrun
 have empty:∀(A:Option Addr) (cap:Nat),L=[]→v=.slice A 0 cap→∃A cap us,v=.slice A L.length cap∧CellsR z f (L.flatMap t.enc) us∧∀n,n≤L.length→(Builtin.firstCells t.esz n v).run P w=.ok (us.take (n*t.esz)).toArray w:=fun A cap hL hv=>by
  subst hL hv
  refine⟨A,cap,[],rfl,⟨rfl,fun k c u h1 h2=>by simp at h1⟩,fun n hn=>?_⟩
  obtain rfl:n=0:=by grind
  cases A
  ·simp[Builtin.firstCells]
  ·simp[Builtin.firstCells,run_loadCells w _ 0 (fun _=>undef) (fun j hj=>by omega)]
 cases hv with
 | vec t' M B o cap' rc T fr g hz hle hcc hr =>
  simp only[jbb,qae]at hl
  obtain⟨L',hc,e⟩:=hl
  simp only[Prod.mk.injEq]at e
  obtain⟨_,rfl⟩:=e
  obtain⟨e1,e2,e3⟩:=flatmap t' M hc
  obtain⟨us,u1,u2⟩:=jkY (z:=z) (f:=f) (fun k=>w.cell? ⟨B,o+k,none⟩) (L'.flatMap t.enc) (fun k c hk=>by
   rw[e1]at hk
   obtain⟨j,k',x,rfl,hk',hx,hcx⟩:=jbJ t' M k c hk
   exact⟨g j k',by rw[jfu (d.stays _ _ hz),←hcc j x hx k' c hcx];congr 1;omega,hr j x hx k' c hcx⟩)
  refine⟨_,cap',us,by rw[e3],u1,?_⟩
  grind
 | vec0 t' A cap' =>
  simp only[jbb,qae]at hl
  grind
 | slice b i esz len cap cap' l hb he hcap hs =>
  simp only[jbb]at hl
  split at hl
  ·rename_i t' M hg
   simp only[qae]at hl
   obtain⟨M',hc,e⟩:=hl
   simp only[Prod.mk.injEq]at e
   obtain⟨rfl,rfl⟩:=e
   have hcast:=ETy.cast_enc _ _ _ _ hc
   have hbk:=d.blk b
   rw[hb,hg]at hbk
   obtain⟨hesz,rc,T,fr,q1,q2,q3,q4,q5⟩:=hbk
   have hlen:((M'.drop i).take len).length=len:=by simp;omega
   obtain⟨us,u1,u2⟩:=jkY (z:=z) (f:=f) (fun k=>w.cell? ⟨l.B,l.sh+i*l.esz+k,none⟩) (((M'.drop i).take len).flatMap t.enc) (fun k c hk=>by
    obtain⟨j,k',x,rfl,hk',hx,hcx⟩:=jbJ t _ k c hk
    have hj:j<len:=by
     have:=(List.getElem?_eq_some_iff.1 hx).1
     rw[hlen]at this
     exact this
    rw[List.getElem?_take_of_lt hj,List.getElem?_drop]at hx
    have hfl:(M.flatMap t'.enc)[(i+j)*t'.esz+k']?=some c:=by
     have:M.flatMap t'.enc=M'.flatMap t.enc:=by rw[qal,qal,hcast.2.2]
     rw[this,←hcast.1]
     exact jfv t M' (i+j) k' x c hx hcx
    obtain⟨v,v1,v2⟩:=q5 _ c hfl
    refine⟨v,?_,v2⟩
    rw[jfu q1,←v1]
    grind)
   refine⟨_,cap',us,by rw[hlen],u1,?_⟩
   have:=fin l.B (l.sh+i*l.esz) cap' us u1 u2
   simp_all [Loc.addr,qam]
  ·cases hl
 | slice0 b i esz A =>
  simp only[jbb]at hl
  split at hl
  ·rename_i t' M hg
   simp only[qae]at hl
   grind
  ·cases hl
 | zs A =>
  simp only[jbb,Option.some.injEq,Prod.mk.injEq]at hl
  obtain⟨_,rfl⟩:=hl
  exact empty A 0 rfl rfl
 | nils =>
  simp only[jbb,Option.some.injEq,Prod.mk.injEq]at hl
  obtain⟨_,rfl⟩:=hl
  exact empty none 0 rfl rfl
 | _=>simp[jbb]at hl
theorem jcq {t:TypeId}(ht:jf2 P t=true):∃e,P.underlying t=some (.slice e)∧P.underlying e=some (.int .u8):=by
 unfold jf2 at ht
 split at ht
 ·rename_i e hu
  refine⟨e,hu,?_⟩
  simp only[beq_iff_eq,intT]at ht
  grind
 ·cases ht
theorem jbq {t:TypeId}(ht:strT P t=true):P.underlying t=some .string:=by
 grind [strT]
theorem jpM (F:Value→ByteArray→Sem (ForInStep ByteArray)) (hF:∀n s,F (.int .u8 n) s=pure (ForInStep.yield (s.push (UInt8.ofNat n.toNat)))):∀(L:List Int) (s:ByteArray),(forIn (L.map (Value.int .u8)).toArray s F).run P w=.ok (L.foldl (fun r n=>r.push (UInt8.ofNat n.toNat)) s) w
 | [],s=>by simp
 | n::L,s=>by
  simp_all
theorem jlZ:∀(L:List Int) (s:ByteArray),L.foldl (fun r n=>r.push (UInt8.ofNat n.toNat)) s=⟨s.data++(L.map fun n=>UInt8.ofNat n.toNat).toArray⟩
 | [],s=>by simp
 | n::L,s=>by
  rw[qaw,jlZ L]
  congr 1
  apply Array.ext'
  simp only[ByteArray.push,Array.toList_append,Array.toList_push,qbb,qao,List.singleton_append]
theorem jv8 (d:Desc z f h w) (hf:FrOk z f fr a){s t:TypeId}{x:Operand}{y:Opd}(hs:jf2 P s=true) (ht:strT P t=true) (hc:eqO x y=true){G:Prop}{L:List Int}(hl:jbb h (.int .u8) (y.ev fr)=some (G,L)) (hG:G) :
  Sim z f h w ((execOp a.eval ⟨dst,.convert s t x,ty,pos,after,guard⟩).run P w) (.str (jaJ L)) h:=by
 obtain⟨A,cap,us,e1,e2,e3⟩:=jdc (P:=P) d (jap hf hc) hl hG
 replace e3:=e3 L.length (qaf _)
 rw[qau (by rw[e2.1,jaz];exact qaf _)]at e3
 obtain⟨e,h1,h2⟩:=jcq hs
 have h3:=jbq ht
 have hus:us=L.map (Value.int .u8):=by
  apply List.ext_getElem?
  intro k
  by_cases hk:k<us.length
  ·have hk2:k<L.length:=by
    have:=e2.1
    rw[jaz]at this
    simp only[ETy.esz]at this
    omega
   have:=e2.2 k (.int .u8 L[k]) us[k] (by
    have:=jfv (.int .u8) L k 0 L[k] (.int .u8 L[k]) (List.getElem?_eq_getElem hk2) rfl
    simpa[ETy.esz] using this) (List.getElem?_eq_getElem hk)
   rw[List.getElem?_eq_getElem hk,List.getElem?_map,List.getElem?_eq_getElem hk2]
   generalize us[k]=q at this
   cases this
   rfl
  ·have hk2:¬k<L.length:=by
    have:=e2.1
    rw[jaz]at this
    simp only[ETy.esz]at this
    omega
   grind
 refine Sim.val (v:=.string (jaJ L)) d ?_ (.str _)
 simp only[execOp,e1,convert,qac,run_underlying h1,run_underlying h2,run_underlying h3,qaa]
 rw[e1]at e3
 simp only[ETy.esz,Builtin.firstCells,qaz]at e3
 cases A with
 | none =>
  simp only[qad,Result.ok.injEq,and_true]at e3
  have:us=[]:=by
   have:=congrArg Array.size e3
   simp at this
   exact qah (by omega)
  rw[this]at hus
  have:L=[]:=by
   cases L
   ·rfl
   ·simp at hus
  subst this
  simp[Conv.bytesToString,jaJ]
  rfl
 | some ad =>
  simp only[Conv.bytesToString,qac,e3,qaa,hus]
  rw[jpM _ (fun n s=>rfl) L ByteArray.empty]
  simp[jlZ,jaJ,ByteArray.empty,ByteArray.emptyWithCapacity]
  rfl
end
end
section
open Go.RowKit
section
variable {P:Program}{z:ZMap}{f:LMap}{h:KH}{w:World}{a:Act}{fr:Fr}{dst:Option Tmp}{ty:TypeId}{pos:String}{after:Array Edge}{guard:Option (Nat×Bool)}
theorem joH (hf:FrOk z f fr a){x:Option Operand}{y:Option Opd}(hc:eqOO x y=true){dflt:Nat}{G:Prop}{n:Nat}(hb:(y.map (Opd.ev fr)).elim (some (True,dflt)) jim=some (G,n)) (hG:G) :
  (x=none∧n=dflt)∨(∃v,x.map a.eval=some v∧∀cap code,n≤cap→(Instr.sliceBound v cap code).run P w=.ok n w):=by
 cases x with
 | none =>
  cases y with
  | none =>
   grind
  | some y=>simp[eqOO]at hc
 | some x =>
  cases y with
  | none=>simp[eqOO]at hc
  | some y=>exact .inr ⟨a.eval x,rfl,fun cap code hn=>jlY hf hc (by grind) hG cap hn code⟩
theorem joI (hf:FrOk z f fr a){lo' hi' mx':Option Operand}{lo hi mx:Option Opd}(h2:eqOO lo' lo=true) (h3:eqOO hi' hi=true) (h4:eqOO mx' mx=true){len:Nat}{G:Prop}{l u:Nat}{mo:Option Nat}(hb:bdK len (lo.map (Opd.ev fr)) (hi.map (Opd.ev fr)) (mx.map (Opd.ev fr))=some (G,l,u,mo)) (hG:G)
  (s:Bool) (cap:Nat) (h5:l≤u) (h6:u≤mo.getD cap) (h7:mo.getD cap≤cap):(Instr.sliceBounds s len cap (lo'.map a.eval) (hi'.map a.eval) (mx'.map a.eval)).run P w=.ok (l,u,mo.getD cap) w:=by
 unfold bdK at hb
 split at hb
 ·rename_i G1 l1 G2 u1 e1 e2
  have hl:=fun g=>joH (P:=P) (w:=w) hf h2 e1 g
  have hu:=fun g=>joH (P:=P) (w:=w) hf h3 e2 g
  unfold Instr.sliceBounds
  split at hb
  ·rename_i emx
   simp only[Option.some.injEq,Prod.mk.injEq]at hb
   obtain⟨rfl,rfl,rfl,rfl⟩:=hb
   have em:mx'=none:=by
    cases mx' with
    | none=>rfl
    | some m=>cases mx<;>simp[eqOO]at h4 emx
   subst em
   simp only[Option.getD_none]at h6 h7 ⊢
   rcases hl hG.1 with⟨rfl,rfl⟩|⟨v,ev,hv⟩<;>rcases hu hG.2 with⟨rfl,rfl⟩|⟨v',ev',hv'⟩
   ·simp
   ·rw[ev']
    simp only[qat,qac,qad,qaa]
    rw[hv' _ _ h6]
    simp
   ·rw[ev]
    simp only[qat,qac,qad,qaa]
    rw[hv _ _ h5]
    simp
   ·rw[ev,ev']
    simp_all
  ·rename_i m emx
   split at hb
   ·rename_i hv0 G3 m1 ehi em
    simp only[Option.some.injEq,Prod.mk.injEq]at hb
    obtain⟨rfl,rfl,rfl,rfl⟩:=hb
    simp only[Option.getD_some]at h6 h7 ⊢
    obtain⟨mo,hmo⟩:∃mo,mx'=some mo:=by
     cases mx' with
     | none=>cases mx<;>simp[eqOO]at h4 emx
     | some m=>grind
    obtain⟨my,hmy⟩:∃my,mx=some my:=by
     cases mx with
     | none=>simp at emx
     | some m=>grind
    subst hmo hmy
    simp only[qai,Option.some.injEq]at emx
    subst emx
    have hm:=jlY (P:=P) (w:=w) hf (show eqO mo my=true from h4) em hG.2.2 cap h7
    simp only[qai,qac,qad,qaa,hm]
    rcases hu hG.2.1 with⟨rfl,_⟩|⟨v',ev',hv'⟩
    ·cases hi<;>simp[eqOO]at h3 ehi
    ·rw[ev']
     have q:=fun code=>hv' m1 code h6
     rcases hl hG.1 with⟨rfl,rfl⟩|⟨v,ev,hv⟩
     ·simp[q]
     ·rw[ev]
      simp_all
   ·cases hb
 ·cases hb
theorem joJ (a:Act){s e:TypeId}{x:Operand}{lo hi mx:Option Operand}{esz:Nat}(hu:P.underlying s=some (.slice e)) (hz:szOf P e=some esz){A:Option Addr}{len cap l u m:Nat}(hx:a.eval x=.slice A len cap)
  (hb:(Instr.sliceBounds true len cap (lo.map a.eval) (hi.map a.eval) (mx.map a.eval)).run P w=.ok (l,u,m) w) :
  (execOp a.eval ⟨dst,.slice s x lo hi mx,ty,pos,after,guard⟩).run P w=.ok (.value (.slice (if m=l then A else A.map (·.add (l*esz))) (u-l) (m-l))) w:=by
 simp only[execOp,hx,Instr.sliceAt,qac,run_underlying hu,qaa,Instr.slice,hb,jbL hz,qad]
theorem jt8 {b i esz len cap:Nat}{v:Value}(hv:VRel z f (.slice b i esz len cap) v){A:Option Addr}{n c':Nat}(e:v=.slice A n c'){l u m m':Nat}(h1:l≤u) (h2:u≤m) (h4:m≤m') (h3:m'≤c') :
  VRel z f (.slice b (i+l) esz (u-l) (m-l)) (.slice (if m'=l then A else A.map (·.add (l*esz))) (u-l) (m'-l)):=by
 subst e
 cases hv with
 | slice _ _ _ _ _ _ lc hb he hc hs =>
  by_cases hml:m'=l
  ·rw[if_pos hml]
   have e1:u-l=0:=by omega
   have e2:m-l=0:=by omega
   have e3:m'-l=0:=by omega
   rw[e1,e2,e3]
   exact .slice0 _ _ _ _
  ·rw[if_neg hml]
   have:=VRel.slice (z:=z) b (i+l) esz (u-l) (m-l) (m'-l) lc hb he (by omega) (by
    have h5:i+l+(m'-l)≤i+c':=by omega
    have:=qag esz h5
    omega)
   have ea:(some (lc.addr i 0)).map (fun a=>a.add (l*esz))=some (lc.addr (i+l) 0):=by
    simp only[qai,Loc.addr,jfn,he,qan,qam,qba]
   grind
 | slice0 =>
  have e0:l=0:=by omega
  have e1:u=0:=by omega
  have e2:m=0:=by omega
  have e3:m'=0:=by omega
  subst e0 e1 e2 e3
  exact .slice0 _ _ _ _
theorem jxE {t:ETy}{L:List t.T}{v:Value}(hv:VRel z f (.vec t L) v){A:Option Addr}{n c':Nat}(e:v=.slice A n c'){l u m:Nat}(h1:l≤u) (h2:u≤L.length) (h4:u≤m) (h3:m≤c') :
  VRel z f (.vec t ((L.drop l).take (u-l))) (.slice (if m=l then A else A.map (·.add (l*t.esz))) (u-l) (m-l)):=by
 subst e
 have hlen:((L.drop l).take (u-l)).length=u-l:=by simp;omega
 cases hv with
 | vec _ _ B o cap' rc T fr g hz hle hcc hr =>
  by_cases hml:m=l
  ·have e1:u-l=0:=by omega
   rw[e1,List.take_zero,if_pos hml]
   exact .vec0 _ _ _
  ·rw[if_neg hml]
   simp only[qai,jfn]
   have:=VRel.vec (z:=z) (f:=f) t ((L.drop l).take (u-l)) B (o+l*t.esz) (m-l) rc T fr (fun j k=>g (l+j) k) hz (by rw[hlen];omega) (fun j x hx k c hk=>by
     have hj:j<u-l:=by
      have:=(List.getElem?_eq_some_iff.1 hx).1
      rw[hlen]at this
      exact this
     rw[List.getElem?_take_of_lt hj,List.getElem?_drop]at hx
     have:=hcc (l+j) x hx k c hk
     rw[←this]
     congr 1
     rw[qan]
     omega) (fun j x hx k c hk=>by
     have hj:j<u-l:=by
      have:=(List.getElem?_eq_some_iff.1 hx).1
      rw[hlen]at this
      exact this
     rw[List.getElem?_take_of_lt hj,List.getElem?_drop]at hx
     exact hr (l+j) x hx k c hk)
   grind
 | vec0 =>
  simp only[List.drop_nil,List.take_nil]
  have e1:u-l=0:=by
   simp at h2
   omega
  rw[e1]
  exact .vec0 _ _ _
theorem jxF (d : Desc z f h w) (hf : FrOk z f fr a) {s : TypeId} {x : Operand} {lo' hi' mx' : Option Operand} {esz : Nat} {y : Opd} {lo hi mx : Option Opd} {G : Prop} {c : CV} (hu : (match P.underlying s with
      | some (.slice e) => szOf P e == some esz
      | some .string => true
      | _ => false) = true) (h1 : eqO x y = true) (h2 : eqOO lo' lo = true) (h3 : eqOO hi' hi = true) (h4 : eqOO mx' mx = true) (hst : strT P s = true ↔ ∃ q, y.ev fr = .str q)
    (hx : slK esz (y.ev fr) (lo.map (Opd.ev fr)) (hi.map (Opd.ev fr)) (mx.map (Opd.ev fr)) = some (G, c)) (hG : G) :
    Sim z f h w ((execOp a.eval ⟨dst, .slice s x lo' hi' mx', ty, pos, after, guard⟩).run P w) c h := by
  have hr := jap hf h1
  have slice_t : (∀ q, y.ev fr ≠ .str q) → ∃ e, P.underlying s = some (.slice e) ∧ szOf P e = some esz := fun hq => by
    grind [strT, absurd]
  unfold slK at hx
  generalize hyv : y.ev fr = yv at hx hr hst slice_t
  split at hx
  · rename_i q
    split at hx
    · rename_i G2 l u hb
      simp only [Option.some.injEq, Prod.mk.injEq] at hx
      obtain ⟨rfl, rfl⟩ := hx
      obtain ⟨g1, g2, g3⟩ := hG
      have hus : P.underlying s = some .string := jbq (hst.2 ⟨_, rfl⟩)
      have hxv := jhr hf h1 hyv
      have em : mx' = none := by
        unfold bdK at hb
        split at hb
        · split at hb
          · rename_i e
            cases mx' with
            | none => rfl
            | some m => cases mx <;> simp [eqOO] at h4 e
          grind
        · cases hb
      have hb2 := joI (P := P) (w := w) hf h2 h3 h4 hb g1 false q.size g2 g3 (qaf _)
      subst em
      refine Sim.val (v := .string (q.extract l u)) d ?_ (.str _)
      simp only [qat] at hb2
      simp only [execOp, hxv, qat, Instr.sliceAt, qac, run_underlying hus, qaa, Instr.slice, Option.isSome_none, qaj, if_false, qad, hb2]
    · cases hx
  · rename_i b i esz' len cap
    split at hx
    · rename_i he
      subst he
      split at hx
      · rename_i G2 l u mo hb
        simp only [Option.some.injEq, Prod.mk.injEq] at hx
        obtain ⟨rfl, rfl⟩ := hx
        obtain ⟨g1, g2, g3, g4⟩ := hG
        obtain ⟨e, hus, hsz⟩ := slice_t (by simp)
        have ex : ∃ A c', a.eval x = .slice A len c' ∧ cap ≤ c' := by
          generalize a.eval x = v at hr
          cases hr
          · grind
          · grind
        obtain ⟨A, c', hxv, hcc⟩ := ex
        rw [hxv] at hr
        have hm : u ≤ mo.getD c' ∧ mo.getD c' ≤ c' ∧ mo.getD cap ≤ mo.getD c' := by
          cases mo <;> simp at g3 g4 ⊢ <;> omega
        exact Sim.val d (joJ a hus hsz hxv (joI hf h2 h3 h4 hb g1 true c' g2 hm.1 hm.2.1)) (jt8 hr rfl g2 g3 hm.2.2 hm.2.1)
      · cases hx
    · cases hx
  · rename_i t L
    split at hx
    · rename_i he
      subst he
      split at hx
      · rename_i G2 l u mo hb
        simp only [Option.some.injEq, Prod.mk.injEq] at hx
        obtain ⟨rfl, rfl⟩ := hx
        obtain ⟨g1, g2, g3, g4⟩ := hG
        obtain ⟨e, hus, hsz⟩ := slice_t (by simp)
        have ex : ∃ A c', a.eval x = .slice A L.length c' ∧ L.length ≤ c' := by
          generalize a.eval x = v at hr
          cases hr
          · grind
          · simp_all
        obtain ⟨A, c', hxv, hcc⟩ := ex
        rw [hxv] at hr
        have hm : u ≤ mo.getD c' ∧ mo.getD c' ≤ c' ∧ u ≤ L.length := by
          cases mo <;> simp at g3 g4 ⊢ <;> omega
        exact Sim.val d (joJ a hus hsz hxv (joI hf h2 h3 h4 hb g1 true c' g2 hm.1 hm.2.1)) (jxE hr rfl g2 hm.2.2 hm.1 hm.2.1)
      · cases hx
    · cases hx
  all_goals first
    | (split at hx
       · rename_i G2 l u mo hb
         simp only [Option.some.injEq, Prod.mk.injEq] at hx
         obtain ⟨rfl, rfl⟩ := hx
         obtain ⟨g1, rfl, rfl, g3⟩ := hG
         obtain ⟨e, hus, hsz⟩ := slice_t (by simp)
         have ex : ∃ A, a.eval x = .slice A 0 0 := by
           generalize a.eval x = v at hr
           cases hr
           exact ⟨_, rfl⟩
         obtain ⟨A, hxv⟩ := ex
         have res := joJ (dst := dst) (ty := ty) (pos := pos) (after := after) (guard := guard) a hus hsz hxv (joI (P := P) (w := w) hf h2 h3 h4 hb g1 true 0 (qaf _) (Nat.zero_le _) (by omega))
         rw [g3] at res
         exact Sim.val d res (.zs _)
       · cases hx)
    | cases hx
theorem jv9 (d:Desc z f h w) (hf:FrOk z f fr a){s e:TypeId}{x:Operand}{y:Opd}{n:Nat}(hu:P.underlying s=some (.slice e)) (hz:szOf P e=some n) (h1:eqO x y=true){k k':IntKind}{lo:Option Operand}(hlo:lo=none∨∃k,lo=some (.const (.int k 0))) (hs:jeq (y.ev fr)=true) :
  Sim z f h w ((execOp a.eval ⟨dst,.slice s x lo (some (.const (.int k 0))) (some (.const (.int k' 0))),ty,pos,after,guard⟩).run P w) .zs h:=by
 have hr:=jap hf h1
 have ex:∃A m c,a.eval x=.slice A m c:=by
  generalize a.eval x=v at hr
  generalize y.ev fr=q at hr hs
  cases hr<;>first|exact⟨_,_,_,rfl⟩|simp[jeq]at hs
 obtain⟨A,m,c,hxv⟩:=ex
 have hb:(Instr.sliceBounds true m c (lo.map a.eval) (some (.int k 0)) (some (.int k' 0))).run P w=.ok (0,0,0) w:=by
  rcases hlo with rfl|⟨q,rfl⟩
  ·simp[Instr.sliceBounds,Instr.sliceBound,asIntOf]
  ·simp[Instr.sliceBounds,Instr.sliceBound,asIntOf,Act.eval]
 have res:=joJ (dst:=dst) (ty:=ty) (pos:=pos) (after:=after) (guard:=guard) a hu hz hxv (hi:=some (.const (.int k 0))) (mx:=some (.const (.int k' 0))) hb
 exact Sim.val d res (.zs _)
theorem joK {places:Nat→Option (Nat×Nat)}:∀{xs:List (Nat×Operand)}{ps:List (Nat×Nat×Opd)}{zc:List CV}{cells:Array Value}{r:List CV},FrOk z f fr a →
  (∀i x off size y,((i,x),(off,size,y))∈xs.zip ps→eqO x y=true∧places i=some (off,size))→xs.length=ps.length →
  cells.size=zc.length→(∀(i:Nat) (c:CV) (v:Value),zc[i]?=some c→cells[i]?=some v→VRel z f c v)→jgM fr zc ps=some r →
  ∃cs,Instr.fill places cells (xs.map fun p=>(p.1,a.eval p.2))=some cs∧cs.size=r.length∧∀(i:Nat) (c:CV) (v:Value),r[i]?=some c→cs[i]?=some v→VRel z f c v
 | [],[],zc,cells,r,hf,_,_,hs,hr,hk=>by
  simp only[jgM,Option.some.injEq]at hk
  subst hk
  exact⟨cells,rfl,hs,hr⟩
 | (i,x)::xs,(off,size,y)::ps,zc,cells,r,hf,hp,hl,hs,hr,hk=>by
  simp only[jgM]at hk
  split at hk
  ·rename_i hc
   simp only[qab,beq_iff_eq,decide_eq_true_eq]at hc
   obtain⟨⟨c1,c2⟩,c3⟩:=hc
   obtain⟨e1,e2⟩:=hp i x off size y (by simp)
   have hxr:=jap hf e1
   obtain⟨q1,q2,q3⟩:=hxr.cells c1
   have hput:∀(l:List Value) (n:Nat) (cur:Array Value) (m:Nat),((l.zipIdx n).foldl (fun cs (p:Value×Nat)=>cs.setIfInBounds (off+p.2) p.1) cur).size=cur.size∧∀k,((l.zipIdx n).foldl (fun cs (p:Value×Nat)=>cs.setIfInBounds (off+p.2) p.1) cur)[k]?=if off+n≤k∧k<off+n+l.length∧k<cur.size then l[k-(off+n)]? else cur[k]?:=by
    intro l
    induction l with
    | nil=>intro n cur m;simp;omega
    | cons v l ih =>
     intro n cur m
     obtain⟨i1,i2⟩:=ih (n+1) (cur.setIfInBounds (off+n) v) m
     rw[qbc,qaw]
     grind
   have hfl:((a.eval x).cells.zipIdx.foldl (fun cs (p:Value×Nat)=>cs.setIfInBounds (off+p.2) p.1) cells)=(((a.eval x).cells.toList.zipIdx 0).foldl (fun cs (p:Value×Nat)=>cs.setIfInBounds (off+p.2) p.1) cells):=by
    rw[←Array.foldl_toList,Array.toList_zipIdx]
   obtain⟨p1,p2⟩:=hput (a.eval x).cells.toList 0 cells 0
   have ih:=joK (places:=places) (xs:=xs) (ps:=ps) (zc:=jbE zc off (y.ev fr).cells) (cells:=((a.eval x).cells.zipIdx.foldl (fun cs (p:Value×Nat)=>cs.setIfInBounds (off+p.2) p.1) cells)) hf
    (fun i' x' off' size' y' hm=>hp i' x' off' size' y' (by simp[hm])) (by simpa using hl) (by rw[hfl,p1,jj3 _ _ _ (by omega),hs]) (fun k c v hc hv=>by
     rw[hfl,p2]at hv
     rw[jgL _ _ _ (by omega)]at hc
     grind) hk
   simp_all [qao,Instr.fill,if_neg]
  ·cases hk
 | [],_::_,_,_,_,_,_,hl,_,_,_=>by simp at hl
 | _::_,[],_,_,_,_,_,hl,_,_,_=>by simp at hl
end
end
section
open Go.RowKit
section
variable {P:Program}{z:ZMap}{f:LMap}{h:KH}{w:World}{a:Act}{fr:Fr}{dst:Option Tmp}{ty:TypeId}{pos:String}{after:Array Edge}{guard:Option (Nat×Bool)}
theorem jdv (o:Obj) (w:World):(newObj o).run P w=.ok w.heap.size (w.alloc o):=rfl
theorem jf3 (rc:Array Value):((0,0):Nat×Nat).1≤((0,0):Nat×Nat).2∧∀o,((0,0):Nat×Nat).1≤o→o<((0,0):Nat×Nat).2→rc.size≤o:=⟨qaf _,fun o _ h=>absurd h (Nat.not_lt_zero _)⟩
theorem jis (w:World) (o:Obj):(w.alloc o).heap[w.heap.size]?=some o:=by
 show (w.heap.push o)[w.heap.size]?=_
 simp
theorem jrc (d:Desc z f h w) (hn:f h.length=none) (cs:List CV) (rc:Array Value) (T:TypeId) (hs:rc.size=cs.length) (hr:∀(k:Nat) (c:CV) (v:Value),cs[k]?=some c→rc[k]?=some v→VRel z f c v){r:Result Next}(hrun:r=.ok (.value (.pointer (some ⟨w.heap.size,0,none⟩))) (w.alloc (.cells rc T))) :
  Sim z f h w r (.ptr h.length 0 0) (h++[.box cs]):=by
 have ext:=jkT (f:=f) z hn (some ⟨w.heap.size,0,0,rc.size⟩)
 obtain⟨d1,d2⟩:=joD d hn (.box cs) 0 rc T (0,0) ⟨rc,T,(0,0),jis _ _,rfl,by simp[hs],jf3 rc,fun k c hk=>by
  have hk2:k<rc.size:=by
   rw[hs]
   exact (List.getElem?_eq_some_iff.1 hk).1
  exact⟨rc[k],by grind,(hr k c _ hk (Array.getElem?_eq_getElem hk2)).mono ext⟩⟩
 have:=VRel.ptr (z:=z) (f:=f.upd h.length (some ⟨w.heap.size,0,0,rc.size⟩)) h.length 0 0 _ (LMap.upd_same _ _ _)
 exact⟨_,_,_,_,.inl hrun,by simpa[Loc.addr] using this,d1,d2⟩
theorem jwa (d:Desc z f h w) (hf:FrOk z f fr a) (hn:f h.length=none){t:TypeId}{x:Operand}{y:Opd}(hc:eqO x y=true) (hk:(y.ev fr).known=true) :
  Sim z f h w ((execOp a.eval ⟨dst,.box t x,ty,pos,after,guard⟩).run P w) (.ptr h.length 0 0) (h++[.box (y.ev fr).cells]):=by
 obtain⟨q1,q2,q3⟩:=(jap hf hc).cells hk
 refine jrc d hn _ (a.eval x).cells t q1 q2 ?_
 simp only[execOp,Instr.box,newVar,newRow,qac,jdv,qad,qaa]
theorem jfw {t:TypeId}{cs:List CV}(hz:jip P t cs=true):∃i v,P.info? t=some i∧i.zero=some v∧v.cells.size=i.size∧jcA v.cells.toList cs=true:=by
 unfold jip at hz
 grind
theorem jt9 (d:Desc z f h w) (hn:f h.length=none){t:TypeId}{cs:List CV}(hz:jip P t cs=true) :
  Sim z f h w ((execOp a.eval ⟨dst,.alloc t,ty,pos,after,guard⟩).run P w) (.ptr h.length 0 0) (h++[.box cs]):=by
 obtain⟨i,v,e1,e2,_,e3⟩:=jfw hz
 obtain⟨q1,q2⟩:=jce z f e3
 refine jrc d hn cs v.cells t (by omega) (fun k c v h1 h2=>q2 k c v h1 (by grind)) ?_
 have zrun:(zeroValue t).run P w=.ok v w:=by simp[zeroValue,run_typeInfo w e1,e2]
 simp only[execOp,Instr.alloc,newVar,newRow,qac,zrun,jdv,qad,qaa]
theorem jrd (d:Desc z f h w) (hf:FrOk z f fr a){t:TypeId}{parts:Array (Nat×Operand)}{zc:List CV}{ps:List (Nat×Nat×Opd)}(h1:jcB P t parts.toList ps=true) (h2:jip P t zc=true) (h3:jiq P t=true){cs:List CV}(hk:jgM fr zc ps=some cs) :
  Sim z f h w ((execOp a.eval ⟨dst,.build t parts,ty,pos,after,guard⟩).run P w) (.agg cs) h:=by
 obtain⟨i,v,e1,e2,_,e3⟩:=jfw h2
 obtain⟨q1,q2⟩:=jce z f e3
 have zrun:(zeroValue t).run P w=.ok v w:=by simp[zeroValue,run_typeInfo w e1,e2]
 have len:∀(xs:List (Nat×Operand)) (ps:List (Nat×Nat×Opd)),jcB P t xs ps=true→xs.length=ps.length:=by
  intro xs
  induction xs with
  | nil=>grind [jcB]
  | cons x xs ih =>
   intro ps hp
   cases ps with
   | nil=>simp[jcB]at hp
   | cons p ps =>
    simp only[jcB,qab]at hp
    grind
 have mem:∀(xs:List (Nat×Operand)) (ps:List (Nat×Nat×Opd)),jcB P t xs ps=true→∀i x off size y,((i,x),(off,size,y))∈xs.zip ps→eqO x y=true∧(match P.underlying t with
   | some (.struct fs)=>(match fs[i]? with
    | some fd=>fd.offset==off&&szOf P fd.type==some size
    | none=>false)
   | some (.array _ e)=>szOf P e==some size&&i*size==off
   | _=>false)=true:=by
  intro xs
  induction xs with
  | nil=>simp_all
  | cons q xs ih =>
   intro ps hp i x off size y hm
   cases ps with
   | nil=>simp at hm
   | cons p ps =>
    obtain⟨i0,x0⟩:=q
    obtain⟨o0,s0,y0⟩:=p
    simp only[jcB,qab]at hp
    simp only[List.zip_cons_cons,List.mem_cons,Prod.mk.injEq]at hm
    grind
 have main:∀(places:Nat→Option (Nat×Nat)),(∀i x off size y,((i,x),(off,size,y))∈parts.toList.zip ps→places i=some (off,size)) →
   (∀cells,Instr.fill places v.cells ((parts.map fun (p:Nat×Operand)=>(p.1,a.eval p.2)).toList)=some cells→(execOp a.eval ⟨dst,.build t parts,ty,pos,after,guard⟩).run P w=.ok (.value (.agg cells)) w) →
   Sim z f h w ((execOp a.eval ⟨dst,.build t parts,ty,pos,after,guard⟩).run P w) (.agg cs) h:=fun places hpl hrun=>by
  obtain⟨cells,g1,g2,g3⟩:=joK (places:=places) hf (fun i x off size y hm=>⟨(mem _ _ h1 i x off size y hm).1,hpl i x off size y hm⟩) (len _ _ h1) (by omega) (fun k c v hc hv=>q2 k c v hc (by grind)) hk
  exact Sim.val d (hrun cells (by simp_all)) (.agg cs cells g2 g3)
 unfold jiq at h3
 split at h3
 ·rename_i fs hu
  have hpl:∃places,fs.toList.mapM (fun f=>(P.info? f.type).map fun i=>(f.offset,i.size))=some places∧∀(k:Nat) (fd:Field) (n:Nat),fs.toList[k]?=some fd→szOf P fd.type=some n→places[k]?=some (fd.offset,n):=by
   generalize fs.toList=l at h3
   clear h1 mem main
   induction l with
   | nil=>simp_all
   | cons fd l ih =>
    simp only[List.all_cons,qab]at h3
    obtain⟨pl,p1,p2⟩:=ih h3.2
    obtain⟨n,hn⟩:=Option.isSome_iff_exists.1 h3.1
    have hi:∃i,P.info? fd.type=some i∧i.size=n:=by
     unfold szOf at hn
     exact Option.map_eq_some_iff.1 hn
    obtain⟨i,hi1,hi2⟩:=hi
    refine⟨(fd.offset,n)::pl,by grind,fun k fd' n' hk hn'=>?_⟩
    grind
  obtain⟨places,p1,p2⟩:=hpl
  refine main (fun k=>places[k]?) (fun i x off size y hm=>?_) (fun cells hfill=>?_)
  ·grind
  ·have h':Instr.fill (fun x=>places[x]?) v.cells (parts.map fun (p:Nat×Operand)=>(p.1,a.eval p.2)).toList=some cells:=hfill
   simp[execOp,Instr.build,run_underlying hu,typeInfo,zeroValue,e1,e2,Array.mapM_eq_mapM_toList,run_places w _ _ p1]
   simp_all
 ·rename_i n e hu
  obtain⟨sz,hsz⟩:=Option.isSome_iff_exists.1 h3
  refine main (fun k=>some (k*sz,sz)) (fun i x off size y hm=>?_) (fun cells hfill=>?_)
  ·grind
  ·have h':Instr.fill (fun k=>some (k*sz,sz)) v.cells (parts.map fun (p:Nat×Operand)=>(p.1,a.eval p.2)).toList=some cells:=hfill
   simp_all [execOp,Instr.build,run_underlying,jbL]
 ·cases h3
theorem jit {w w1:World}(hk:Kp (Mine f h) w w1) (d1:Desc z f h w1) (hn:f h.length=none) (t:ETy) (L:List t.T) (cap capk:Nat) (rc:Array Value) (T:TypeId) (us:List Value) (hcap:L.length≤cap) (hck:capk≤cap) (hsz:cap*t.esz≤rc.size) (hu:CellsR z f (L.flatMap t.enc) us) (hpre:∀(k:Nat) (u:Value),us[k]?=some u→rc[k]?=some u)
  (fz:Nat×Nat) (hfz:fz.1≤fz.2∧∀o,fz.1≤o→o<fz.2→rc.size≤o){r:Result Next}(hrun:r=.ok (.value (.slice (some ⟨w1.heap.size,0,none⟩) L.length cap)) (w1.alloc (.cells rc T fz))) :
  Sim z f h w r (.slice h.length 0 t.esz L.length capk) (h++[.seq t L]):=by
 have ext:=jkT (f:=f) z hn (some ⟨w1.heap.size,0,t.esz,rc.size⟩)
 obtain⟨g1,g2⟩:=joD d1 hn (.seq t L) t.esz rc T fz ⟨rfl,rc,T,fz,jis _ _,rfl,by
   rw[jaz]
   have:=qag t.esz hcap
   grind,hfz,fun k c hk=>by
  have hk2:k<us.length:=by
   rw[hu.1]
   exact (List.getElem?_eq_some_iff.1 hk).1
  exact⟨us[k],by grind,(hu.2 k c _ hk (List.getElem?_eq_getElem hk2)).mono ext⟩⟩
 have:=VRel.slice (z:=z) (f:=f.upd h.length (some ⟨w1.heap.size,0,t.esz,rc.size⟩)) h.length 0 t.esz L.length capk cap _ (LMap.upd_same _ _ _) rfl hck (by grind)
 have s0:Stp z f h w z f h w1:=⟨hk,qaf _,fun _ _=>rfl,fun _ _ h=>h,fun i l hi _ hl=>absurd (KH.lt_of_live hl) (by omega),fun _ _ h=>h,fun _ _ h=>.inl h⟩
 exact⟨_,_,_,_,.inl hrun,by simpa[Loc.addr] using this,g1,s0.trans g2⟩
theorem jcQ {e:TypeId}{t:ETy}(he:joE P e t=true):∃i zv,P.info? e=some i∧i.size=t.esz∧i.bytes≤4096∧i.zero=some zv∧zv.cells.size=i.size∧jcA zv.cells.toList (t.enc t.dflt)=true:=by
 unfold joE at he
 split at he
 ·rename_i i hi
  simp only[qab,beq_iff_eq,decide_eq_true_eq]at he
  grind [jfw]
 ·cases he
theorem jcf {s:TypeId}{t:ETy}(hs:jcO P s t=true):∃e,P.underlying s=some (.slice e)∧joE P e t=true:=by
 grind [jcO]
theorem jua (zc:Array Value) (n m:Nat) (hm:m<n) (hz:0<zc.size):(madeCells zc n)[m]?=zc[m % zc.size]?:=by
 have hlt:=Nat.mod_lt m hz
 simp[madeCells,hm,getElem!_pos,hlt]
theorem jub (d:Desc z f h w) (hf:FrOk z f fr a) (hn:f h.length=none){s:TypeId}{t:ETy}{l' c':Operand}{l c:Opd}(hs:jcO P s t=true) (h1:eqO l' l=true) (h2:eqO c' c=true){k k':IntKind}{n m:Int}(hl:l.ev fr=.int k n) (hc:c.ev fr=.int k' m) (hG:0≤n∧n≤m∧m≤1073741824) :
  Sim z f h w ((execOp a.eval ⟨dst,.makeSlice s l' c',ty,pos,after,guard⟩).run P w) (.slice h.length 0 t.esz n.toNat m.toNat) (h++[.seq t (qay n.toNat t.dflt)]):=by
 obtain⟨e,hu,he⟩:=jcf hs
 obtain⟨i,zv,e1,e2,e3,e4,e5,e6⟩:=jcQ he
 have x1:=jbK hf h1 hl
 have x2:=jbK hf h2 hc
 obtain⟨q1,q2⟩:=jce z f e6
 rw[t.enc_len]at q1
 simp only[Array.length_toList]at q1
 have hb:(i.bytes:Int)*m≤281474976710656:=by
  have:(i.bytes:Int)*m≤4096*1073741824:=Int.mul_le_mul (by omega) hG.2.2 (by omega) (by decide)
  omega
 have hrun:=run_make (P:=P) w s e i zv hu e1 e4 k k' n m hG.1 hG.2.1 hb (by omega)
 have hlen:(qay n.toNat t.dflt).length=n.toNat:=List.length_replicate
 have hpz:=t.esz_pos
 have hms:(madeCells zv.cells (m.toNat*i.size)).size=m.toNat*t.esz:=by simp[madeCells,e2]
 have hr2:=jit (z:=z) (f:=f) (h:=h) (Kp.refl _ w) d hn t (qay n.toNat t.dflt) m.toNat m.toNat (madeCells zv.cells (m.toNat*i.size)) e
  ((List.range (n.toNat*t.esz)).map fun k=>(zv.cells[k % t.esz]?).getD undef) (by omega) (qaf _) (by omega)
  ⟨by rw[jaz,hlen];simp,fun j c u hc hu=>by
   obtain⟨j1,k1,x,rfl,hk1,hx,hcx⟩:=jbJ t _ _ _ hc
   have hj1:j1<n.toNat:=by
    have:=(List.getElem?_eq_some_iff.1 hx).1
    rwa [hlen]at this
   rw[List.getElem?_replicate_of_lt hj1]at hx
   cases hx
   have hlt:j1*t.esz+k1<n.toNat*t.esz:=by
    have:=qag t.esz hj1
    rw[Nat.succ_mul]at this
    omega
   have hmod:(j1*t.esz+k1) % t.esz=k1:=by rw[qax,Nat.mul_add_mod,Nat.mod_eq_of_lt hk1]
   grind⟩
  (fun j u hu=>by
   have hj:j<n.toNat*t.esz:=by
    have:=(List.getElem?_eq_some_iff.1 hu).1
    simpa using this
   rw[List.getElem?_map,List.getElem?_range hj]at hu
   simp only[qai,Option.some.injEq]at hu
   have hz0:0<zv.cells.size:=by omega
   have hle:n.toNat*t.esz≤m.toNat*i.size:=by
    rw[e2]
    exact qag _ (by omega)
   grind [jua,Nat.mod_lt,Array.getElem?_eq_getElem]) (0,0) (jf3 _) (r:=(execOp a.eval ⟨dst,.makeSlice s l' c',ty,pos,after,guard⟩).run P w) (by
    grind [execOp,qac,qaa,qad])
 grind
end
end
section
open Go.RowKit
section
variable {P:Program}{z:ZMap}{f:LMap}{h:KH}{w w':World}{a:Act}{fr:Fr}{dst:Option Tmp}{ty:TypeId}{pos:String}{after:Array Edge}{guard:Option (Nat×Bool)}
theorem Sim.pre {h2 h':KH}{r:Result Next}{c:CV}(s:Stp z f h w z f h2 w) (q:Sim z f h2 w r c h'):Sim z f h w r c h':=by
 obtain⟨v,w',z',f',q1,q2,q3,q4⟩:=q
 exact⟨v,w',z',f',q1,q2,q3,s.trans q4⟩
theorem jvC:∀(h:KH) (b:Nat) (x:KB),h.length≤b→KH.put h b x=h
 | [],_,_,_=>rfl
 | _::h,0,_,hb=>by simp at hb
 | y::h,b+1,x,hb=>by
  simp only[qas]at hb
  rw[KH.put,jvC h b x (by omega)]
theorem jkZ (h:KH) (b j:Nat):KH.get (KH.put h b .dead) j=if j=b then .dead else h.get j:=by
 grind [KH.get_put,jvC,KH.get_ge]
theorem jl0 (d:Desc z f h w) (b:Nat):Desc z f (KH.put h b .dead) w∧Stp z f h w z f (KH.put h b .dead) w:=by
 have live:∀j,((KH.put h b .dead).get j).live→(h.get j).live∧j≠b:=fun j hj=>by
  rw[jkZ]at hj
  split at hj
  ·exact hj.elim
  grind
 refine⟨⟨fun i=>?_,fun i j li lj ei ej hi hj hne=>d.apart i j li lj ei ej (live i hi).1 (live j hj).1 hne,fun i l e hl=>d.off i l e (live i hl).1,d.stays⟩,⟨Kp.refl _ _,by rw[KH.put_len];omega,fun _ _=>rfl,fun i hi hl=>(live i hl).1,fun i l hi _ hl=>?_,fun _ _ e=>e,fun _ _ e=>.inl e⟩⟩
 ·rw[jkZ]
  split
  ·cases f i<;>trivial
  ·exact d.blk i
 ·have:=KH.lt_of_live (live i hl).1
  omega
theorem jpN (d:Desc z f h w){b:Nat}{l nl:Loc}{b':KB}(hb:f b=some l) (hl:(h.get b).live) (hn:f h.length=none) (hk:Kp (fun B=>l.B=B) w w') (hB:nl.B=l.B) (hblk:BlkAt z (f.upd h.length (some nl)) w' (some nl) b') :
  Desc z (f.upd h.length (some nl)) (KH.put h b .dead++[b']) w'∧Stp z f h w z (f.upd h.length (some nl)) (KH.put h b .dead++[b']) w':=by
 obtain⟨d1,s1⟩:=jl0 d b
 have hlen:=KH.put_len h b .dead
 have live:∀j,((KH.put h b .dead).get j).live→(h.get j).live∧j≠b:=fun j hj=>by
  rw[jkZ]at hj
  split at hj
  ·exact hj.elim
  grind
 have d2:Desc z f (KH.put h b .dead) w':=d1.world (fun i li e hli=>hk.block _ (d.f_lt e (live i hli).1) (fun e2=>d.apart i b li l e hb (live i hli).1 hl (live i hli).2 e2.symm))
  (fun B o e=>hk.block B (d.z_lt e) (fun e2=>by
   have:=d.off b l hb hl
   grind))
 have s2:Stp z f h w z (f.upd h.length (some nl)) (KH.put h b .dead++[b']) w':=by
  refine⟨hk.mono (fun B e=>⟨b,l,hb,hl,e⟩),by simp[hlen],fun i hi=>?_,fun i hi hli=>?_,fun i li hi e hli=>?_,fun _ _ e=>e,fun _ _ e=>.inl e⟩
  ·grind [qak,qas,qbd,LMap.upd_ne]
  ·rw[jcy,hlen,if_neg (by omega)]at hli
   grind
  ·have h2:=KH.lt_of_live hli
   simp only[qak,hlen,qas,qbd]at h2
   have h1:i=h.length:=by omega
   rw[h1,LMap.upd_same]at e
   cases e
   exact .inr ⟨b,l,hb,hl,hB.symm⟩
 rw[←hlen]at hn hblk s2 ⊢
 refine⟨d2.push hn hblk (fun l' e' _=>?_),s2⟩
 cases e'
 refine⟨fun j lj ej hj=>?_,?_⟩
 ·rw[hB]
  exact d.apart j b lj l ej hb (live j hj).1 hl (live j hj).2
 ·rw[hB]
  exact d.off b l hb hl
theorem jjS (d:Desc z f h w) (hn:f h.length=none) (t:ETy):Desc z (f.upd h.length none) (h++[.seq t []]) w∧Stp z f h w z (f.upd h.length none) (h++[.seq t []]) w :=
 ⟨d.push hn rfl (fun l e _=>by cases e),jkU _ _ _ (Kp.refl _ _) (fun l e _=>by cases e)⟩
def jpO (P:Program) (k:Nat) (news:List Value) (w w':World):Option Addr→Prop
 | some a=>(storeCells (a.add k) news).run P w=.ok () w'
 | none=>w'=w
theorem jj4 {s s' e:TypeId}{x y:Value}{size m need:Nat}{A:Option Addr}{n c:Nat}{news:List Value}(hu:P.underlying s=some (.slice e)) (hsz:szOf P e=some size) (hu':∃d,P.underlying s'=some d∧∀k,d ≠ .int k)
  (hx:x=.slice A n c) (hm:(Builtin.lenOf y).run P w=.ok m w) (hn:n+m=need) (hle:need≤c) (hnew:(Builtin.firstCells size m y).run P w=.ok news.toArray w) (hput:jpO P (n*size) news w w' A):(Builtin.append_ #[s,s'] ty #[x,y]).run P w=.ok (.slice A need c) w':=by
 obtain⟨ds,hd,hni⟩:=hu'
 subst hx hn
 have hz:(ds matches .int _)=false:=by
  cases ds<;>first|rfl|exact absurd rfl (hni _)
 simp only[Builtin.append_,List.getElem?_toArray,List.getElem?_cons_zero,List.getElem?_cons_succ,qac,run_underlying hu,run_underlying hd,qaa,jbL hsz,qad,hz,qaj,if_false,hm,if_pos hle,qbe,if_true,hnew]
 cases A with
 | none =>
  subst hput
  rfl
 | some a =>
  simp_all [qac,jpO]
theorem jnB {s s' e:TypeId}{x y:Value}{size m need:Nat}{A:Option Addr}{n c:Nat}{i:TypeInfo}{zv:Value}{olds news:List Value}(hu:P.underlying s=some (.slice e)) (hi:P.info? e=some i) (hz:i.zero=some zv) (hs:i.size=size) (hby:i.bytes≤4096) (hu':∃d,P.underlying s'=some d∧∀k,d ≠ .int k)
  (hx:x=.slice A n c) (hm:(Builtin.lenOf y).run P w=.ok m w) (hn:n+m=need) (hlt:c<need) (hbig:need≤1073741824) (hold:(Builtin.firstCells size n x).run P w.drew=.ok olds.toArray w.drew) (hnew:(Builtin.firstCells size m y).run P w.drew=.ok news.toArray w.drew) :
  (Builtin.append_ #[s,s'] ty #[x,y]).run P w=.ok (.slice (some ⟨w.heap.size,0,none⟩) need (grownCap w need c e)) (w.drew.alloc (.cells (olds.toArray++news.toArray++Builtin.zeroCells zv.cells (grownCap w need c e-need)) e)):=by
 obtain⟨ds,hd,hni⟩:=hu'
 subst hx hn hs
 have hzz:(ds matches .int _)=false:=by
  cases ds<;>first|rfl|exact absurd rfl (hni _)
 have hmul:(n+m)*i.bytes≤1073741824*4096:=Nat.mul_le_mul hbig hby
 have hfit:=growslice_fits (bytes:=i.bytes) hlt (Nat.le_trans hmul (by decide))
 have h1:¬(n+m≤c):=by omega
 have h2:¬(((n+m:Nat):Int)>IntKind.i64.max∧(False∨i.bytes=0)):=by
  simp[IntKind.max,IntKind.signed,IntKind.bits]
  omega
 have h3:¬(Builtin.nextslicecap (n+m) c*i.bytes>2 ^ 48):=by
  have:(2:Nat) ^ 48=281474976710656:=by decide
  omega
 have hsz:szOf P e=some i.size:=by unfold szOf;rw[hi];rfl
 have zrun:∀w,(zeroValue e).run P w=.ok zv w:=fun w=>by simp[zeroValue,run_typeInfo w hi,hz]
 have room:∀q w,(askRoom q).run P w=.ok () w:=fun q w=>by simp_all
 simp only[Builtin.append_,List.getElem?_toArray,List.getElem?_cons_zero,List.getElem?_cons_succ,qac,run_underlying hu,run_underlying hd,qaa,jbL hsz,qad,hzz,qaj,if_false,hm,if_neg h1,run_typeInfo _ hi,if_neg h2,if_neg h3,run_choose,Question.forced,room,qbe,if_true]
 have hq:(Question.appendCap (n+m) c e).cut (w.tape w.drawn (.appendCap (n+m) c e))=grownCap w (n+m) c e:=rfl
 rw[hq]
 have hw:({ w with drawn:=w.drawn+1 }:World)=w.drew:=rfl
 rw[hw]
 simp only[hold,hnew,qaa,zrun,newRow,qac,jdv,qad]
 rfl
end
end
section
open Go.RowKit
section
variable {P:Program}{z:ZMap}{f:LMap}{h:KH}{w w':World}{a:Act}{fr:Fr}{dst:Option Tmp}{ty:TypeId}{pos:String}{after:Array Edge}{guard:Option (Nat×Bool)}
theorem jiu {t t':ETy}{M:List t'.T}{L:List t.T}(hc:ETy.cast? t' t M=some L):L.flatMap t.enc=M.flatMap t'.enc∧t.esz=t'.esz∧L.length=M.length:=by
 obtain⟨e1,e2,e3⟩:=ETy.cast_enc _ _ _ _ hc
 refine⟨?_,e1,e2⟩
 rw[qal,qal,e3]
theorem jdT (d:Desc z f h w){t:ETy}{c:CV}{v:Value}{G:Prop}{L:List t.T}(hv:VRel z f c v) (hl:jep h t c=some (G,L)) (hG:G) :
  ∃us,CellsR z f (L.flatMap t.enc) us∧(Builtin.lenOf v).run P w=.ok L.length w∧∀n,n≤L.length→(Builtin.firstCells t.esz n v).run P w=.ok (us.take (n*t.esz)).toArray w:=by
 unfold jep at hl
 split at hl
 ·rename_i s
  simp only[qae,Prod.mk.injEq]at hl
  obtain⟨L',hc,_,rfl⟩:=hl
  obtain⟨e1,e2,e3⟩:=jiu hc
  cases hv
  have hlen:(jab s).length=s.size:=by simp[jab]
  refine⟨s.data.toList.map fun b=>Value.int .u8 b.toNat,⟨?_,fun k c u hk hu=>?_⟩,?_,fun n hn=>?_⟩
  ·grind [jaz,jab,ETy.esz]
  ·rw[e1]at hk
   obtain⟨j,k',x,rfl,hk',hx,hcx⟩:=jbJ (.int .u8) _ _ _ hk
   have hk0:k'=0:=by simp[ETy.esz]at hk';omega
   subst hk0
   simp only[ETy.enc,List.getElem?_cons_zero,Option.some.injEq]at hcx
   subst hcx
   simp only[ETy.esz,qaz,qam,List.getElem?_map]at hu
   unfold jab at hx
   rw[List.getElem?_map]at hx
   cases hb:s.data.toList[j]? with
   | none=>grind
   | some b =>
    rw[hb]at hx hu
    simp only[qai,Option.some.injEq]at hx hu
    subst hx hu
    exact .int _ _
  ·rw[e3,hlen]
   rfl
  ·have hsz:t.esz=1:=e2
   simp only[Builtin.firstCells,qad,hsz,qaz]
   congr 1
   grind [Array.ext',ByteArray.data_extract,Array.toList_extract,List.map_take]
 ·obtain⟨A,cap,us,e1,e2,e3⟩:=jdc (P:=P) d hv hl hG
  subst e1
  exact⟨us,e2,rfl,e3⟩
theorem Desc.drew (d:Desc z f h w):Desc z f h w.drew:=d.world (fun _ _ _ _=>rfl) (fun _ _ _=>rfl)
theorem jiv {need c:Nat}(w:World) (e:TypeId) (hb:need≤1073741824):need≤grownCap w need c e:=by
 simp_all [grownCap,Question.cut,Nat.le_add_right]
theorem jk0 {cs:List CV}{us:List Value}(h:CellsR z f cs us){n:Nat}(hn:cs.length≤n):us.take n=us:=qau (by rw[h.1];exact hn)
theorem jk1 (a:Act){s s':TypeId}{u v:Operand}{r:Value}(hr:(Builtin.append_ #[s,s'] ty #[a.eval u,a.eval v]).run P w=.ok r w') :
  (execOp a.eval ⟨dst,.call { callee:=.builtin .append,args:=#[u,v],argTypes:=#[s,s'] },ty,pos,after,guard⟩).run P w=.ok (.value r) w':=by
 simp only[execOp,resolve,qaq,qao,qav,invoke,builtin,qac,qad,qaa,hr]
theorem jes (h:KH) (c:CV):(jfi h c).length=h.length:=by
 unfold jfi
 grind [KH.put_len]
theorem jj5 (d:Desc z f h w) (c:CV):Desc z f (jfi h c) w∧Stp z f h w z f (jfi h c) w:=by
 unfold jfi
 grind [jl0,Stp.refl]
theorem jwb (d:Desc z f h w) (hf:FrOk z f fr a) (hn:f h.length=none){s s':TypeId}{t:ETy}{u v:Operand}{x y:Opd}(hs:jcO P s t=true) (hs':(match P.underlying s' with
     | some (.int _)=>false
     | some _=>true
     | none=>false)=true) (h1:eqO u x=true) (h2:eqO v y=true){G1 G2:Prop}{L M:List t.T}(hnv:∀t L,x.ev fr ≠ .vec t L) (hx:jbb h t (x.ev fr)=some (G1,L)) (hy:jep h t (y.ev fr)=some (G2,M)) (g1:G1) (g2:G2) (g3:L.length+M.length≤1073741824) :
  Sim z f h w ((execOp a.eval ⟨dst,.call { callee:=.builtin .append,args:=#[u,v],argTypes:=#[s,s'] },ty,pos,after,guard⟩).run P w) (.slice h.length 0 t.esz (L.length+M.length) (L.length+M.length)) (jfi h (x.ev fr)++[.seq t (L++M)]):=by
 obtain⟨e,hu,he⟩:=jcf hs
 obtain⟨i,zv,i1,i2,i3,i4,i5,i6⟩:=jcQ he
 have hu':∃d,P.underlying s'=some d∧∀k,d ≠ .int k:=by
  cases hq:P.underlying s' with
  | none=>rw[hq]at hs';cases hs'
  | some ds =>
   rw[hq]at hs'
   exact⟨ds,rfl,fun k e=>by subst e;cases hs'⟩
 have hsz:szOf P e=some t.esz:=by unfold szOf;rw[i1,←i2];rfl
 have r1:=jap hf h1
 have r2:=jap hf h2
 obtain⟨A,cap,us,e1,e2,e3⟩:=jdc (P:=P) d r1 hx g1
 obtain⟨vs,q2,q3,q4⟩:=jdT (P:=P) d r2 hy g2
 have hflen:((L++M).flatMap t.enc).length=(L.length+M.length)*t.esz:=by rw[jaz,qak]
 by_cases hroom:L.length+M.length≤cap
 ·have hnew:=q4 M.length (qaf _)
  rw[jk0 q2 (by rw[jaz];omega)]at hnew
  have inplace:∀(b i0 esz' len capk:Nat) (l:Loc),x.ev fr=.slice b i0 esz' len capk→f b=some l→l.esz=esz'→A=some (l.addr i0 0)→l.sh+(i0+cap)*esz'≤l.sz →
    Sim z f h w ((execOp a.eval ⟨dst,.call { callee:=.builtin .append,args:=#[u,v],argTypes:=#[s,s'] },ty,pos,after,guard⟩).run P w) (.slice h.length 0 t.esz (L.length+M.length) (L.length+M.length)) (jfi h (x.ev fr)++[.seq t (L++M)]):=by
   intro b i0 esz' len capk l hxe hb hle hA hbound
   rw[hxe]at hx
   simp only[jbb]at hx
   split at hx
   ·rename_i t' M0 hg
    simp only[qae,Prod.mk.injEq]at hx
    obtain⟨M',hc,hG1,hL⟩:=hx
    obtain⟨c1,c2,c3⟩:=jiu hc
    have hbk:=d.blk b
    rw[hb,hg]at hbk
    obtain⟨hesz,rc,T,fz,p1,p2,p3,p4,p5⟩:=hbk
    have hesz2:esz'=t.esz:=by rw[←hle,hesz,c2]
    have hG1':i0+len≤M'.length:=by rw[←hG1]at g1;exact g1
    have hLl:L.length=len:=by rw[←hL];simp;omega
    -- the old cells,at their places
    have old:∀k c,(L.flatMap t.enc)[k]?=some c→∃v,rc[l.sh+i0*l.esz+k]?=some v∧VRel z f c v:=fun k c hk=>by
     obtain⟨j,k',y',rfl,hk',hx',hcx⟩:=jbJ t _ k c hk
     have hj:j<len:=by
      have:=(List.getElem?_eq_some_iff.1 hx').1
      omega
     rw[←hL,List.getElem?_take_of_lt hj,List.getElem?_drop]at hx'
     have:=p5 ((i0+j)*t.esz+k') c (by grind [jfv])
     obtain⟨v,v1,v2⟩:=this
     refine⟨v,?_,v2⟩
     grind [qan]
    have hvl:vs.length=M.length*t.esz:=by rw[q2.1,jaz]
    obtain⟨w',cur',g1',g2',g3',g4',g5',g6',g7'⟩:=jdS P l.B (l.sh+i0*l.esz+L.length*t.esz) T fz vs 0 rc w p1 p4.2 (by
      rw[hvl,p2]
      have:=qag esz' (show i0+(L.length+M.length)≤i0+cap by omega)
      grind) (q2.one (joG t M))
    have hrun:=jj4 (P:=P) (w:=w) (w':=w') (ty:=ty) hu hsz hu' e1 q3 rfl hroom hnew (by
     simp_all [jpO,Loc.addr,jfn,qam])
    have hbL:(KH.get h b).live:=by rw[hg];trivial
    obtain⟨d1,d2⟩:=jpN d hb hbL hn g4' (nl:=⟨l.B,l.sh+i0*l.esz,t.esz,l.sz⟩) rfl (b':=.seq t (L++M)) ⟨rfl,cur',T,fz,g2',by rw[g3',p2],by
      rw[hflen]
      have:=qag esz' (show i0+(L.length+M.length)≤i0+cap by omega)
      grind,by grind,fun k c hk=>by
      have ext:=jkT (f:=f) z hn (some ⟨l.B,l.sh+i0*l.esz,t.esz,l.sz⟩)
      rw[qap,List.getElem?_append]at hk
      split at hk
      ·rename_i hlt
       obtain⟨v,v1,v2⟩:=old k c hk
       rw[jaz]at hlt
       exact⟨v,by grind,v2.mono ext⟩
      ·rename_i hge
       rw[jaz]at hk hge
       have hlt:k-L.length*t.esz<vs.length:=by
        rw[q2.1]
        exact (List.getElem?_eq_some_iff.1 hk).1
       refine⟨vs[k-L.length*t.esz],?_,(q2.2 _ c _ hk (List.getElem?_eq_getElem hlt)).mono ext⟩
       have:=g7' (k-L.length*t.esz) _ (List.getElem?_eq_getElem hlt)
       grind⟩
    rw[hxe]
    refine⟨.slice A (L.length+M.length) cap,w',z,_,.inl (jk1 a hrun),?_,d1,d2⟩
    have:=VRel.slice (z:=z) (f:=f.upd h.length (some ⟨l.B,l.sh+i0*l.esz,t.esz,l.sz⟩)) h.length 0 t.esz (L.length+M.length) (L.length+M.length) cap _ (LMap.upd_same _ _ _) rfl hroom (by
     grind)
    grind [Loc.addr]
   ·cases hx
  have nothing:cap=0→Sim z f h w ((execOp a.eval ⟨dst,.call { callee:=.builtin .append,args:=#[u,v],argTypes:=#[s,s'] },ty,pos,after,guard⟩).run P w) (.slice h.length 0 t.esz (L.length+M.length) (L.length+M.length)) (jfi h (x.ev fr)++[.seq t (L++M)]):=by
   intro hcap
   have hL:L=[]:=qah (by omega)
   have hM:M=[]:=qah (by omega)
   subst hL hM hcap
   have hv0:vs=[]:=qah (by grind)
   subst hv0
   have hrun:=jj4 (P:=P) (w:=w) (w':=w) (ty:=ty) hu hsz hu' e1 q3 rfl hroom hnew (by cases A<;>rfl)
   obtain⟨k1,k2⟩:=jj5 d (x.ev fr)
   have hn2:f (jfi h (x.ev fr)).length=none:=by rw[jes];exact hn
   obtain⟨d1,d2⟩:=jjS k1 hn2 t
   exact⟨.slice A 0 0,w,z,_,.inl (jk1 a hrun),.slice0 _ _ _ _,d1,k2.trans d2⟩
  generalize hxe:x.ev fr=c at r1 hx inplace nothing hnv
  rw[e1]at r1
  obtain⟨q,r1⟩:∃q,VRel z f c (.slice A q cap):=⟨_,r1⟩
  cases r1 with
  | slice b i0 esz' len capk cap' l hb hle hc hbd=>grind
  | slice0=>grind
  | zs=>grind
  | nils=>grind
  | vec=>grind
  | vec0=>grind
  | undef=>simp[jbb]at hx
 ·obtain⟨A',cap',us',e1',e2',e3'⟩:=jdc (P:=P) d.drew r1 hx g1
  obtain⟨vs',q2',q3',q4'⟩:=jdT (P:=P) d.drew r2 hy g2
  have hnew:=q4' M.length (qaf _)
  rw[jk0 q2' (by rw[jaz];omega)]at hnew
  have hold:=e3' L.length (qaf _)
  rw[jk0 e2' (by rw[jaz];omega)]at hold
  have hrun:=jnB (P:=P) (w:=w) (ty:=ty) hu i1 i4 i2 i3 hu' e1 q3 rfl (by omega) g3 hold hnew
  have hge:=jiv (c:=cap) w e g3
  have hall:=e2'.append q2'
  rw[←qap]at hall
  have hul:(us'++vs').length=(L.length+M.length)*t.esz:=by rw[hall.1,hflen]
  obtain⟨k1,k2⟩:=jj5 d (x.ev fr)
  have hn2:f (jfi h (x.ev fr)).length=none:=by rw[jes];exact hn
  have res:=jit (z:=z) (f:=f) (h:=jfi h (x.ev fr)) (w:=w) (w1:=w.drew) (jgK _ w) k1.drew hn2 t (L++M) (grownCap w (L.length+M.length) cap e) (L.length+M.length)
   (us'.toArray++vs'.toArray++Builtin.zeroCells zv.cells (grownCap w (L.length+M.length) cap e-(L.length+M.length))) e (us'++vs') (by grind) hge (by
    have hzc:(Builtin.zeroCells zv.cells (grownCap w (L.length+M.length) cap e-(L.length+M.length))).size=(grownCap w (L.length+M.length) cap e-(L.length+M.length))*t.esz:=by simp[Builtin.zeroCells,i5,i2]
    simp only[Array.size_append,hzc,List.size_toArray]
    rw[qak]at hul
    have:grownCap w (L.length+M.length) cap e*t.esz=(L.length+M.length)*t.esz+(grownCap w (L.length+M.length) cap e-(L.length+M.length))*t.esz:=by rw[←qan];congr 1;omega
    omega) hall (fun k u hk=>by
    grind) (0,0) (jf3 _) (jk1 (dst:=dst) (pos:=pos) (after:=after) (guard:=guard) a (by rw[qak];exact hrun))
  rw[jes,qak]at res
  exact res.pre k2
theorem jwc (d:Desc z f h w) (hf:FrOk z f fr a){s:TypeId}{x i:Operand}{len esz:Nat}{agg:Bool}{y j:Opd}(hu:(match P.underlying s with
   | some (.array n e)=>szOf P e==some esz&&n==len&&jer P e==some agg
   | _=>false)=true) (h1:eqO x y=true) (h2:eqO i j=true){l:List CV}{k:IntKind}{n:Int}{c:CV}(hy:y.ev fr=.agg l) (hj:j.ev fr=.int k n) (hp:jh1 l (n.toNat*esz) esz agg=some c) (hG:0≤n∧n<len) :
  Sim z f h w ((execOp a.eval ⟨dst,.index s x i,ty,pos,after,guard⟩).run P w) c h:=by
 have hr:=jap hf h1
 rw[hy]at hr
 have hi:=jbK hf h2 hj
 generalize hx:a.eval x=v at hr
 cases hr with
 | agg _ cs hs hcr =>
  split at hu
  ·rename_i m e hus
   simp only[qab,beq_iff_eq]at hu
   obtain⟨⟨hu1,rfl⟩,hu3⟩:=hu
   obtain⟨u,e1,e2⟩:=joF (w:=w) hs hcr hu1 hu3 hp
   refine Sim.val d ?_ e2
   simp only[execOp,hx,hi,Instr.index,asIntOf,qac,qad,run_underlying hus,qaa]
   simp_all [if_pos,qac,jbL,qaa,qad]
  ·cases hu
theorem jwd (d:Desc z f h w) (hf:FrOk z f fr a){s t:TypeId}{x:Operand}{y:Opd}(hs:(intT P s).isSome=true) (ht:strT P t=true) (hc:eqO x y=true){k:IntKind}{n:Int}(hy:y.ev fr=.int k n) :
  Sim z f h w ((execOp a.eval ⟨dst,.convert s t x,ty,pos,after,guard⟩).run P w) (.str (Utf8.encode n)) h:=by
 have e1:=jbK hf hc hy
 have h2:=jbq ht
 obtain⟨q,h1⟩:∃q,P.underlying s=some (.int q):=by
  grind [intT]
 refine Sim.val d ?_ (.str _)
 simp only[execOp,e1,convert,qac,run_underlying h1,run_underlying h2,qaa,Conv.intToString,qad]
theorem jwe (d:Desc z f h w) (hf:FrOk z f fr a){op:BinOp}{t yt:TypeId}{u v:Operand}{x y:Opd}(h0:op=.add) (h1:eqO u x=true) (h2:eqO v y=true){m n:ByteArray}(hx:x.ev fr=.str m) (hy:y.ev fr=.str n) (hG:m.size+n.size≤9223372036854775807) :
  Sim z f h w ((execOp a.eval ⟨dst,.binOp op t u v yt,ty,pos,after,guard⟩).run P w) (.str (m++n)) h:=by
 subst h0
 have e1:=jhr hf h1 hx
 have e2:=jhr hf h2 hy
 refine Sim.val d (jcC a .add t yt u v _ _ w _ e1 e2 (by unfold eqGuard;rfl) ?_) (.str _)
 simp only[binOp,Op.stringOp]
 rw[if_neg (by grind [IntKind.max,IntKind.signed,IntKind.bits])]
 rfl
end
end
section
open Go.RowKit
section
variable {P:Program}{z:ZMap}{f:LMap}{h:KH}{w w':World}{a:Act}{fr:Fr}{dst:Option Tmp}{ty:TypeId}{pos:String}{after:Array Edge}{guard:Option (Nat×Bool)}
theorem jre {t:TypeId}{n:Nat}(hn:szOf P t=some n):∃i,P.info? t=some i∧i.size=n:=by
 grind [szOf,qae]
theorem joL (z:ZMap) (f:LMap):VRel z f (.tup []) undef:=.tup [] #[] rfl (fun i c v hc hv=>by simp at hc)
theorem jrf (d:Desc z f h w) (hf:FrOk z f fr a){t:TypeId}{n:Nat}{x u:Operand}{y v:Opd}(hn:szOf P t=some n) (h1:eqO x y=true) (h2:eqO u v=true){b i o:Nat}(hy:y.ev fr=.ptr b i o) (hk:(v.ev fr).known=true) (hl:(v.ev fr).cells.length=n){G:Prop}{kb:KB}(hs:jbk (h.get b) i o (v.ev fr).cells=some (G,kb)) (hG:G) :
  Sim z f h w ((execOp a.eval ⟨dst,.store t x u,ty,pos,after,guard⟩).run P w) (.tup []) (KH.put h b kb):=by
 obtain⟨ti,hi,his⟩:=jre hn
 have r1:=jap hf h1
 have r2:=jap hf h2
 rw[hy]at r1
 obtain⟨w',e1,e2,e3⟩:=jq7 P hi d r1 r2 hk (by rw[his,hl]) hs hG
 refine⟨undef,w',z,f,.inr ⟨?_,rfl⟩,joL z f,e2,e3⟩
 grind [execOp,qac,qaa,qad]
theorem jk2 (a:Act){ts:Array TypeId}{u v:Operand}{r:Value}(hr:(Builtin.copy_ ts ty #[a.eval u,a.eval v]).run P w=.ok r w') :
  (execOp a.eval ⟨dst,.call { callee:=.builtin .copy,args:=#[u,v],argTypes:=ts },ty,pos,after,guard⟩).run P w=.ok (.value r) w':=by
 simp only[execOp,resolve,qaq,qao,qav,invoke,builtin,qac,qad,qaa,hr]
theorem jnC {s e:TypeId}{ts:List TypeId}{x y:Value}{size m n c:Nat}{A:Option Addr}{news:List Value}(hu:P.underlying s=some (.slice e)) (hsz:szOf P e=some size) (hx:x=.slice A n c) (hm:(Builtin.lenOf y).run P w=.ok m w)
  (hnew:(Builtin.firstCells size (min m n) y).run P w=.ok news.toArray w) (hput:jpO P 0 news w w' A):(Builtin.copy_ (s::ts).toArray ty #[x,y]).run P w=.ok (.int .i64 (min m n:Nat)) w':=by
 subst hx
 have hmin:Nat.min m n=min m n:=rfl
 simp only[Builtin.copy_,List.getElem?_toArray,List.getElem?_cons_zero,List.getElem?_cons_succ,qac,run_underlying hu,qaa,jbL hsz,hm,hmin,hnew,qad]
 cases A with
 | none =>
  subst hput
  rfl
 | some a =>
  have ha:a.add 0=a:=by simp[Addr.add]
  simp only[jpO,ha]at hput
  simp only[qac,hput,qaa]
  rfl
theorem jk3:∀(h:KH) (b:Nat),KH.put h b (h.get b)=h
 | [],_=>rfl
 | _::_,0=>rfl
 | x::h,b+1=>by rw[KH.get,KH.put,jk3 h b]
theorem jwf (d:Desc z f h w) (hf:FrOk z f fr a){s:TypeId}{ts:List TypeId}{t t':ETy}{u v:Operand}{x y:Opd}(hs:jcO P s t=true) (h1:eqO u x=true) (h2:eqO v y=true){b i esz len cap:Nat}{M L':List t'.T}{G:Prop}{L:List t.T}(hx:x.ev fr=.slice b i esz len cap) (hg:h.get b=.seq t' M)
  (hy:jep h t (y.ev fr)=some (G,L)) (hc:ETy.cast? t t' L=some L') (hG:G) (hb:i+len≤M.length) :
  Sim z f h w ((execOp a.eval ⟨dst,.call { callee:=.builtin .copy,args:=#[u,v],argTypes:=(s::ts).toArray },ty,pos,after,guard⟩).run P w) (.int .i64 (min L'.length len:Nat))
   (KH.put h b (.seq t' (M.take i++L'.take (min L'.length len)++M.drop (i+min L'.length len)))):=by
 obtain⟨e,hu,he⟩:=jcf hs
 obtain⟨ti,zv,i1,i2,i3,i4,i5,i6⟩:=jcQ he
 have hsz:szOf P e=some t.esz:=by unfold szOf;rw[i1,←i2];rfl
 obtain⟨c1,c2,c3⟩:=jiu hc
 have r1:=jap hf h1
 have r2:=jap hf h2
 obtain⟨us,q1,q2,q3⟩:=jdT (P:=P) d r2 hy hG
 rw[hx]at r1
 obtain⟨k,hk⟩:∃k,k=min L'.length len:=⟨_,rfl⟩
 rw[←hk]
 have hkL:k≤L.length:=by omega
 have hkm:min L.length len=k:=by omega
 have hnew:=q3 k hkL
 generalize hxe:a.eval u=xv at r1
 cases r1 with
 | slice _ _ _ _ _ cap' l hbl hle hcap hbd =>
  have hbk:=d.blk b
  rw[hbl,hg]at hbk
  obtain⟨hesz,hcells⟩:=hbk
  have hmul:=qag t'.esz (show i+k≤M.length by omega)
  have hul:(us.take (k*t.esz)).length=k*t.esz:=by
   rw[qar,q1.1,jaz]
   have:=qag t.esz hkL
   omega
  have hnl:((L'.take k).flatMap t'.enc).length=k*t'.esz:=by rw[jaz,qar];congr 1;omega
  obtain⟨w',p1,p2,p3⟩:=jil P hcells (i*t'.esz) ((L'.take k).flatMap t'.enc) (us.take (k*t.esz)) (by rw[hnl,jaz,←qan];exact hmul) (by rw[hul,hnl,c2]) (fun j c v hj hv=>by
    have hj2:j<k*t.esz:=by
     rw[←hul]
     exact (List.getElem?_eq_some_iff.1 hv).1
    rw[List.getElem?_take_of_lt hj2]at hv
    refine q1.2 j c v ?_ hv
    rw[←c1]
    obtain⟨j1,k1,y1,rfl,hk1,hy1,hc1⟩:=jbJ t' _ _ _ hj
    rw[List.getElem?_take]at hy1
    split at hy1
    ·exact jfv t' L' j1 k1 y1 c hy1 hc1
    ·cases hy1) (fun v hv=>(q1.one (joG t L)) v (List.mem_of_mem_take hv)) ((M.take i++L'.take k++M.drop (i+k)).flatMap t'.enc)
    (by rw[jaz,jaz];congr 1;simp;omega) (fun m=>by
    rw[qbb,qap,qap,List.getElem?_append,List.getElem?_append,hnl]
    have hil:((M.take i).flatMap t'.enc).length=i*t'.esz:=by rw[jaz,qar];congr 1;omega
    rw[hil]
    by_cases hm1:m<i*t'.esz
    ·rw[if_pos hm1,if_neg (by omega),jcz,jcz,List.getElem?_take_of_lt (Nat.div_lt_of_lt_mul (by rwa [qax]at hm1))]
    ·rw[if_neg hm1]
     by_cases hm2:m-i*t'.esz<k*t'.esz
     ·rw[if_pos hm2,if_pos (by omega)]
     ·rw[if_neg hm2,if_neg (by omega),jcz,jcz]
      have e1:m-i*t'.esz-k*t'.esz=m-t'.esz*(i+k):=by rw[qax t'.esz,qan];omega
      have hle2:t'.esz*(i+k)≤m:=by rw[qax,qan];omega
      rw[e1,List.getElem?_drop]
      have e2:i+k+(m-t'.esz*(i+k)) / t'.esz=m / t'.esz:=by
       rw[Nat.sub_mul_div]
       have:=(Nat.le_div_iff_mul_le t'.esz_pos).2 (show (i+k)*t'.esz≤m by grind)
       omega
      grind [Nat.sub_mul_mod])
  have hrun:=jnC (P:=P) (w:=w) (w':=w') (ty:=ty) (ts:=ts) (n:=len) (c:=cap') hu hsz rfl q2 (by rw[hkm];exact hnew) (A:=some (l.addr i 0)) (by
   simp_all [jpO,Loc.addr,jfn,qam])
  obtain⟨d1,d2⟩:=jf1 d hbl (by rw[hg];trivial) p2 (b':=.seq t' (M.take i++L'.take k++M.drop (i+k))) ⟨hesz,p3⟩
  refine⟨.int .i64 k,w',z,f,.inl (jk2 a ?_),.int _ _,d1,d2⟩
  grind
 | slice0 =>
  have hk0:k=0:=by omega
  subst hk0
  have hz:us.take (0*t.esz)=[]:=by simp
  rw[hz]at hnew
  have hM:M.take i++L'.take 0++M.drop (i+0)=M:=by simp
  rw[hM]
  have hsame:KH.put h b (.seq t' M)=h:=by rw[←hg];exact jk3 h b
  rw[hsame]
  rename_i A
  have hrun:=jnC (P:=P) (w:=w) (w':=w) (ty:=ty) (ts:=ts) (n:=0) (c:=0) hu hsz rfl q2 (by rw[qbf,hz]at *;simpa using hnew) (A:=A) (by cases A<;>rfl)
  refine⟨.int .i64 0,w,z,f,.inl (jk2 a ?_),.int _ _,d,Stp.refl _ _ _ _⟩
  grind
theorem juc (d:Desc z f h w) (hf:FrOk z f fr a){s:TypeId}{ts:List TypeId}{t:ETy}{u v:Operand}{x y:Opd}(hs:jcO P s t=true) (h1:eqO u x=true) (h2:eqO v y=true){G:Prop}{L:List t.T}(hx:x.ev fr=.zs∨x.ev fr=.nils) (hy:jep h t (y.ev fr)=some (G,L)) (hG:G) :
  Sim z f h w ((execOp a.eval ⟨dst,.call { callee:=.builtin .copy,args:=#[u,v],argTypes:=(s::ts).toArray },ty,pos,after,guard⟩).run P w) (.int .i64 0) h:=by
 obtain⟨e,hu,he⟩:=jcf hs
 obtain⟨ti,zv,i1,i2,i3,i4,i5,i6⟩:=jcQ he
 have hsz:szOf P e=some t.esz:=by unfold szOf;rw[i1,←i2];rfl
 have r1:=jap hf h1
 have r2:=jap hf h2
 obtain⟨us,q1,q2,q3⟩:=jdT (P:=P) d r2 hy hG
 have hnew:=q3 0 (Nat.zero_le _)
 have hz:us.take (0*t.esz)=[]:=by simp
 rw[hz]at hnew
 have ex:∃A,a.eval u=.slice A 0 0:=by
  generalize a.eval u=xv at r1
  rcases hx with hx|hx<;>(rw[hx]at r1;cases r1;grind)
 obtain⟨A,hxe⟩:=ex
 have hrun:=jnC (P:=P) (w:=w) (w':=w) (ty:=ty) (ts:=ts) (n:=0) (c:=0) hu hsz hxe q2 (by rw[qbf];exact hnew) (by cases A<;>rfl)
 refine⟨.int .i64 0,w,z,f,.inl (jk2 a ?_),.int _ _,d,Stp.refl _ _ _ _⟩
 grind
theorem jwg {t:TypeId}{B n:Nat}{rc:Array Value}{T:TypeId}{fr0:Nat×Nat}{A:Addr}{len cap:Nat}(hb:jf2 P t=true) (hA:A.block=B) (hw:w.heap[B]?=some (.cells rc T fr0)) :
  (convert t t (.slice (some A) len cap)).run P w=.ok (.slice (some A) len cap) (w.freeze ⟨B,rc.size,none⟩ 1):=by
 obtain⟨e,h1,h2⟩:=jcq hb
 simp_all [some,World.shape?,convert,run_underlying,markStringish]
theorem jxG {B:Nat}{rc:Array Value}{T:TypeId}{fr0:Nat×Nat}(hw:w.heap[B]?=some (.cells rc T fr0)) (hf:fr0.1≤fr0.2∧∀o,fr0.1≤o→o<fr0.2→rc.size≤o) :
  ∃fr1:Nat×Nat,(w.freeze ⟨B,rc.size,none⟩ 1).heap[B]?=some (.cells rc T fr1)∧fr1.1≤fr1.2∧∀o,fr1.1≤o→o<fr1.2→rc.size≤o:=by
 obtain⟨lo,hi⟩:=fr0
 obtain⟨hle,hf⟩:=hf
 refine⟨if lo==hi then (rc.size,rc.size+1) else (min lo rc.size,max hi (rc.size+1)),?_,?_⟩
 ·simp[World.freeze,Array.getElem?_modify,hw]
 ·by_cases q:lo=hi
  ·grind
  ·rw[if_neg (by simp[q])]
   simp only at hle hf ⊢
   have:=hf lo (qaf _) (by omega)
   grind
theorem jxH {B n:Nat}:Kp (fun C=>B=C) w (w.freeze ⟨B,n,none⟩ 1) :=
 ⟨rfl,rfl,rfl,by simp[World.freeze],fun i hi hn=>by simp[World.freeze,Array.getElem?_modify,show ¬B=i from hn]⟩
theorem jwh (d:Desc z f h w) (hf:FrOk z f fr a){s t:TypeId}{x:Operand}{y:Opd}(hst:s=t) (hs:jf2 P s=true) (hc:eqO x y=true){b i esz len cap:Nat}{L:List Int}(hy:y.ev fr=.slice b i esz len cap) (hg:h.get b=.seq (.int .u8) L) (hlen:0<len) :
  Sim z f h w ((execOp a.eval ⟨dst,.convert s t x,ty,pos,after,guard⟩).run P w) (.slice b i esz len cap) h:=by
 subst hst
 have r1:=jap hf hc
 rw[hy]at r1
 generalize hxe:a.eval x=xv at r1
 have r1':=r1
 cases r1 with
 | slice _ _ _ _ _ cap' l hbl hle hcap hbd =>
  have hbk:=d.blk b
  rw[hbl,hg]at hbk
  obtain⟨hesz,rc,T,fr0,e1,e2,e3,e4,e5⟩:=hbk
  obtain⟨fr1,g1,g2⟩:=jxG (w:=w) e1 e4
  have hrun:=jwg (P:=P) (w:=w) (t:=s) (A:=l.addr i 0) (n:=0) (len:=len) (cap:=cap') hs rfl e1
  obtain⟨d1,d2⟩:=jf1 (w':=w.freeze ⟨l.B,rc.size,none⟩ 1) d hbl (by rw[hg];trivial) jxH (b':=h.get b) (by
   rw[hg]
   exact⟨hesz,rc,T,fr1,g1,e2,e3,⟨g2.1,g2.2⟩,e5⟩)
  rw[jk3]at d1 d2
  refine⟨_,_,z,f,.inl ?_,r1',d1,d2⟩
  simp only[execOp,hxe,qac,hrun,qaa,qad]
  rfl
 | slice0=>omega
theorem jwi (d:Desc z f h w) (hf:FrOk z f fr a) (hn:f h.length=none){s t:TypeId}{x:Operand}{y:Opd}(hs:strT P s=true) (ht:jf2 P t=true) (hc:eqO x y=true){q:ByteArray}(hy:y.ev fr=.str q) (hG:q.size≤1073741824) :
  Sim z f h w ((execOp a.eval ⟨dst,.convert s t x,ty,pos,after,guard⟩).run P w) (.slice h.length 0 1 q.size q.size) (h++[.seq (.int .u8) (jab q)]):=by
 obtain⟨e,h1,h2⟩:=jcq ht
 have h3:=jbq hs
 have e1:=jhr hf hc hy
 have hrun:=run_bytes_of_string (P:=P) w s t e q h3 h1 h2
 have hlen:(jab q).length=q.size:=by simp[jab]
 have hge:=jiv (c:=0) w e hG
 have hrow:(bytesRow q (grownCap w q.size 0 e)).size=grownCap w q.size 0 e:=by simp[bytesRow];omega
 have res:=jit (z:=z) (f:=f) (h:=h) (w:=w) (w1:=w.drew) (jgK _ w) d.drew hn (.int .u8) (jab q) (grownCap w q.size 0 e) q.size (bytesRow q (grownCap w q.size 0 e)) e (q.data.toList.map fun b=>Value.int .u8 b.toNat)
  (by omega) hge (by simp only[ETy.esz];omega) ⟨by rw[jaz];simp[jab,ETy.esz],fun k c u hk hu=>by
   obtain⟨j,k',x,rfl,hk',hx,hcx⟩:=jbJ (.int .u8) _ _ _ hk
   have hk0:k'=0:=by simp[ETy.esz]at hk';omega
   subst hk0
   simp only[ETy.enc,List.getElem?_cons_zero,Option.some.injEq]at hcx
   subst hcx
   simp only[ETy.esz,qaz,qam,List.getElem?_map]at hu
   unfold jab at hx
   rw[List.getElem?_map]at hx
   cases hb:q.data.toList[j]? with
   | none=>grind
   | some b =>
    rw[hb]at hx hu
    simp only[qai,Option.some.injEq]at hx hu
    subst hx hu
    exact .int _ _⟩ (fun k u hk=>by
   grind [List.getElem?_eq_some_iff,bytesRow,Array.getElem?_append_left]) _ ⟨Nat.le_succ _,fun o h1 h2=>h1⟩ (r:=(execOp a.eval ⟨dst,.convert s t x,ty,pos,after,guard⟩).run P w) (by
   simp only[execOp,e1,qac,hrun,qaa,qad,hlen]
   rfl)
 rw[hlen]at res
 exact res
theorem jwj (d : Desc z f h w) (hf : FrOk z f fr a) (hn : f h.length = none) {t : TypeId} {x : Operand} {y : Opd} (ht : strT P t = true) (hc : eqO x y = true) {q : ByteArray} (hy : y.ev fr = .str q) :
    Sim z f h w ((execOp a.eval ⟨dst, .range t x, ty, pos, after, guard⟩).run P w) (.ptr h.length 0 0) (h ++ [.iter q 0]) := by
  have h3 := jbq ht
  have e1 := jhr hf hc hy
  obtain ⟨l, hl⟩ : ∃ l : Loc, l = ⟨w.heap.size, 0, 0, 0⟩ := ⟨_, rfl⟩
  have d1 : Desc z (f.upd h.length (some l)) (h ++ [.iter q 0]) (w.alloc (.stringIter q 0)) := (d.alloc _).push hn (show _ ∧ _ = _ by rw [hl]; exact ⟨rfl, jis _ _⟩) (fun l' e _ => by
    cases e
    subst hl
    refine ⟨fun j lj ej hj => ?_, ?_⟩
    · have := d.f_lt ej hj
      grind
    · cases ez : z w.heap.size with
      | none => rfl
      | some o =>
        have := d.z_lt ez
        omega)
  have d2 := jkU (z := z) (f := f) (h := h) (w := w) (.iter q 0) (some l) (w.alloc (.stringIter q 0)) (jij _ _ _) (fun l' e _ => by grind)
  have := VRel.ptr (z := z) (f := f.upd h.length (some l)) h.length 0 0 l (LMap.upd_same _ _ _)
  refine ⟨_, _, _, _, .inl ?_, this, d1, d2⟩
  subst hl
  simp only [execOp, e1, Instr.range, qac, run_underlying h3, qaa, qad, jdv]
  rfl
theorem jwk (d:Desc z f h w) (hf:FrOk z f fr a){x:Operand}{y:Opd}(hc:eqO x y=true){b:Nat}{q:ByteArray}{p:Nat}(hy:y.ev fr=.ptr b 0 0) (hg:h.get b=.iter q p) :
  Sim z f h w ((execOp a.eval ⟨dst,.next x true,ty,pos,after,guard⟩).run P w) (if p<q.size then .tup [.bool true,.int .i64 p,.int .i32 (Utf8.decode q p).1] else .tup [.bool false])
   (if p<q.size then KH.put h b (.iter q (p+(Utf8.decode q p).2)) else h):=by
 have r1:=jap hf hc
 rw[hy]at r1
 generalize hxe:a.eval x=xv at r1
 cases r1 with
 | ptr _ _ _ l hl =>
  have hbk:=d.blk b
  rw[hl,hg]at hbk
  obtain⟨hsh,hob⟩:=hbk
  have ha:l.addr 0 0=⟨l.B,0,none⟩:=by simp[Loc.addr,hsh]
  rw[ha]at hxe
  have hlt:l.B<w.heap.size:=(Array.getElem?_eq_some_iff.1 hob).1
  have hget:(getObj l.B).run P w=.ok (.stringIter q p) w:=by simp only[getObj,Sem.run,hob]
  by_cases hp:p<q.size
  ·rw[if_pos hp,if_pos hp]
   obtain⟨w',hw'⟩:∃w':World,w'={ w with heap:=w.heap.setIfInBounds l.B (.stringIter q (p+(Utf8.decode q p).2)) }:=⟨_,rfl⟩
   have hset:(setObj l.B (.stringIter q (p+(Utf8.decode q p).2))).run P w=.ok () w':=by simp only[setObj,Sem.run,hob,hw']
   have hkp:Kp (fun B=>l.B=B) w w':=by
    subst hw'
    exact⟨rfl,rfl,rfl,by simp,fun i hi hne=>Array.getElem?_setIfInBounds_ne hne⟩
   have hnew:w'.heap[l.B]?=some (.stringIter q (p+(Utf8.decode q p).2)):=by
    subst hw'
    exact Array.getElem?_setIfInBounds_self_of_lt hlt
   obtain⟨d1,d2⟩:=jf1 d hl (by rw[hg];trivial) hkp (b':=.iter q (p+(Utf8.decode q p).2)) ⟨hsh,hnew⟩
   refine⟨.tuple #[.bool true,.int .i64 p,.int .i32 (Utf8.decode q p).1],w',z,f,.inl ?_,?_,d1,d2⟩
   ·simp only[execOp,hxe,Instr.next,qac,hget,qaa,if_pos hp,hset,qad]
    rfl
   ·refine .tup _ _ rfl (fun i c v hc hv=>?_)
    match i with
    | 0=>simp at hc hv;subst hc hv;exact .bool _
    | 1=>simp at hc hv;subst hc hv;exact .int _ _
    | 2=>simp at hc hv;subst hc hv;exact .int _ _
    | i+3=>simp at hc
  ·rw[if_neg hp,if_neg hp]
   refine⟨.tuple #[.bool false],w,z,f,.inl ?_,?_,d,Stp.refl _ _ _ _⟩
   ·simp_all [execOp,Instr.next,qac,qaa,if_neg,qad]
   ·refine .tup _ _ rfl (fun i c v hc hv=>?_)
    match i with
    | 0=>simp at hc hv;subst hc hv;exact .bool _
    | i+1=>simp at hc
theorem jud (off:Nat) (l:List Value) (n:Nat):∀(cur:Array Value),((l.zipIdx n).foldl (fun cs (p:Value×Nat)=>cs.setIfInBounds (off+p.2) p.1) cur).size=cur.size∧∀k,((l.zipIdx n).foldl (fun cs (p:Value×Nat)=>cs.setIfInBounds (off+p.2) p.1) cur)[k]?=if off+n≤k∧k<off+n+l.length∧k<cur.size then l[k-(off+n)]? else cur[k]?:=by
 induction l generalizing n with
 | nil=>intro cur;simp;omega
 | cons v l ih =>
  intro cur
  obtain⟨i1,i2⟩:=ih (n+1) (cur.setIfInBounds (off+n) v)
  rw[qbc,qaw]
  grind
theorem jgQ (hf:FrOk z f fr a) (t:ETy):∀(xs:List (Nat×Operand)) (ys:List Opd) (k:Nat) (L:List t.T) (cells:Array Value),jda k xs ys=true→jc9 t fr ys=some L→(k+L.length)*t.esz≤cells.size →
  L.length=ys.length∧∃cs,Instr.fill (fun i=>some (i*t.esz,t.esz)) cells (xs.map fun p=>(p.1,a.eval p.2))=some cs∧cs.size=cells.size∧(∀m,m<k*t.esz→cs[m]?=cells[m]?) ∧
   ∀j c,(L.flatMap t.enc)[j]?=some c→∃v,cs[k*t.esz+j]?=some v∧VRel z f c v
 | [],[],k,L,cells,_,hd,_=>by
  simp only[jc9,Option.some.injEq]at hd
  subst hd
  exact⟨rfl,cells,rfl,rfl,fun _ _=>rfl,fun j c hj=>by simp at hj⟩
 | (i,x)::xs,y::ys,k,L,cells,hi,hd,hsz=>by
  simp only[jda,qab,beq_iff_eq]at hi
  obtain⟨⟨rfl,h1⟩,h2⟩:=hi
  simp only[jc9]at hd
  split at hd
  ·rename_i hk
   split at hd
   ·rename_i q l hq hl
    cases hd
    have henc:=t.enc_dec _ _ hq
    obtain⟨g1,g2,g3⟩:=(jap hf h1).cells hk
    have hcl:(y.ev fr).cells.length=t.esz:=by rw[←henc,t.enc_len]
    obtain⟨p1,p2⟩:=jud (i*t.esz) (a.eval x).cells.toList 0 cells
    have hfl:((a.eval x).cells.zipIdx.foldl (fun cs (p:Value×Nat)=>cs.setIfInBounds (i*t.esz+p.2) p.1) cells)=(((a.eval x).cells.toList.zipIdx 0).foldl (fun cs (p:Value×Nat)=>cs.setIfInBounds (i*t.esz+p.2) p.1) cells):=by
     rw[←Array.foldl_toList,Array.toList_zipIdx]
    simp only[qas,qan,Nat.one_mul]at hsz
    obtain⟨e0,cs,e1,e2,e3,e4⟩:=jgQ hf t xs ys (i+1) l (((a.eval x).cells.zipIdx.foldl (fun cs (p:Value×Nat)=>cs.setIfInBounds (i*t.esz+p.2) p.1) cells)) h2 hl (by
     grind)
    refine⟨by simp[e0],cs,?_,by rw[e2,hfl,p1],fun m hm=>?_,fun j c hj=>?_⟩
    ·simp only[qao,Instr.fill]
     grind
    ·grind
    ·rw[List.flatMap_cons,henc,List.getElem?_append]at hj
     rw[hcl]at hj
     split at hj
     ·rename_i hlt
      have hk2:j<(a.eval x).cells.size:=by omega
      refine⟨(a.eval x).cells[j],?_,g2 j c _ hj (Array.getElem?_eq_getElem hk2)⟩
      grind
     grind
   ·cases hd
  ·cases hd
 | [],_::_,_,_,_,h,_,_=>by simp[jda]at h
 | _::_,[],_,_,_,h,_,_=>by simp[jda]at h
theorem jpP (d:Desc z f h w) (hf:FrOk z f fr a) (hn:f h.length=none){s:TypeId}{t:ETy}{n:Nat}{parts:Array (Nat×Operand)}{ys:List Opd}(hs:jcO P s t=true) (hp:jda 0 parts.toList ys=true) (hl:ys.length=n) (hb:n*t.esz≤4096){L:List t.T}(hd:jc9 t fr ys=some L) :
  Sim z f h w ((execOp a.eval ⟨dst,.buildSlice s n parts,ty,pos,after,guard⟩).run P w) (.slice h.length 0 t.esz L.length L.length) (h++[.seq t L]):=by
 obtain⟨e,hu,he⟩:=jcf hs
 obtain⟨i,zv,i1,i2,i3,i4,i5,i6⟩:=jcQ he
 have hpz:=t.esz_pos
 by_cases h0:n=0
 ·subst h0
  have hy:ys=[]:=qah hl
  subst hy
  simp only[jc9,Option.some.injEq]at hd
  subst hd
  have hpn:parts.toList=[]:=by
   cases hq:parts.toList with
   | nil=>rfl
   | cons x xs=>rw[hq]at hp;simp[jda]at hp
  have hpn2:parts=#[]:=by
   apply Array.ext'
   simpa using hpn
  subst hpn2
  refine jit (z:=z) (f:=f) (h:=h) (w:=w) (w1:=w) (Kp.refl _ _) d hn t [] 0 0 #[] e [] (qaf _) (qaf _) (by simp) ⟨rfl,fun k c u hk=>by simp at hk⟩ (fun k u hk=>by simp at hk) (0,0) (jf3 _) ?_
  have hsz:szOf P e=some t.esz:=by unfold szOf;rw[i1,←i2];rfl
  simp[execOp,Instr.buildSlice,run_underlying hu,jbL hsz,Instr.fill,newRow,jdv]
  grind
 ·have hlen:L.length=n:=by
   obtain⟨e0,_⟩:=jgQ (z:=z) (f:=f) hf t parts.toList ys 0 L (Array.replicate ((0+L.length)*t.esz) undef) hp hd (by simp)
   omega
  obtain⟨e0,cs,e1,e2,e3,e4⟩:=jgQ (z:=z) (f:=f) hf t parts.toList ys 0 L ((Array.range (n*i.size)).map (zv.cells[· % zv.cells.size]!)) hp hd (by grind)
  have hpos:¬n*i.size=0:=by
   rw[i2]
   intro hh
   rcases Nat.mul_eq_zero.1 hh with h1|h1<;>omega
  have hfill:Instr.fill (fun j=>some (j*i.size,i.size)) ((Array.range (n*i.size)).map (zv.cells[· % zv.cells.size]!)) (parts.map fun (p:Nat×Operand)=>(p.1,a.eval p.2)).toList=some cs:=by
   rw[Array.toList_map,i2]
   rw[i2]at e1
   exact e1
  have hrun:=run_buildSlice (P:=P) w s e n (parts.map fun (p:Nat×Operand)=>(p.1,a.eval p.2)) cs i zv hu i1 i4 (by grind) hpos hfill
  have hcs:cs.size=n*t.esz:=by rw[e2];simp[i2]
  obtain⟨us,u1,u2⟩:=jkY (z:=z) (f:=f) (fun k=>cs[k]?) (L.flatMap t.enc) (fun k c hk=>by
   grind)
  have res:=jit (z:=z) (f:=f) (h:=h) (w:=w) (w1:=w) (Kp.refl _ _) d hn t L L.length L.length cs e us (qaf _) (qaf _) (by rw[hcs,hlen];exact qaf _) u1 u2 (0,0) (jf3 _) (r:=(execOp a.eval ⟨dst,.buildSlice s n parts,ty,pos,after,guard⟩).run P w) (by
   simp only[execOp,qac]
   rw[hrun,hlen]
   rfl)
  exact res
end
end
section
open Go.RowKit
section
variable {P:Program}{E:Nat→Option (List CV)}{eqs:List (TypeId×List IntKind)}{z:ZMap}{f:LMap}{h h':KH}{w:World}{a:Act}{fr:Fr}
theorem jeZ {α:Type}{xs:Array α}{x y:α}(h:xs.toList=[x,y]):xs=#[x,y]:=Array.ext' (by simpa using h)
theorem jj6 {α:Type}{xs:Array α}{x:α}(h:xs.toList=[x]):xs=#[x]:=Array.ext' (by simpa using h)
theorem jj7 {st:Bool}{x:CV}(h:jef st x=true):st=true↔∃q,x=.str q:=by
 cases x<;>simp[jef]at h ⊢<;>exact h
theorem jue (hq : jt6 P eqs) (hE : EnvOk E z) (d : Desc z f h w) (hf : FrOk z f fr a) (o : Oper) {l : LOp} {G : Prop} {c : CV} (hc : jlV P eqs o.op l = true) (hx : jaf E l fr h = some (G, c, h')) (hG : G) (hn : ∀ i, h.length ≤ i → i < h'.length → f i = none) :
    Sim z f h w ((execOp a.eval o).run P w) c h' := by
  obtain ⟨dst, op, ty, pos, after, guard⟩ := o
  simp only at hc
  unfold jlV at hc
  split at hc
  -- mov
  · simp only [jaf, Option.some.injEq, Prod.mk.injEq] at hx
    obtain ⟨_, rfl, rfl⟩ := hx
    exact jvS d hf hc
  · simp only [jaf, Option.some.injEq, Prod.mk.injEq] at hx
    obtain ⟨_, rfl, rfl⟩ := hx
    exact jvT d hf hc
  -- pick
  · simp only [qab] at hc
    simp only [jaf] at hx
    grind [jtW]
  -- box
  · simp only [jaf] at hx
    split at hx
    · rename_i hk
      cases hx
      simp_all [jwa, qaf]
    · cases hx
  -- zero
  · simp only [jaf] at hx
    cases hx
    simp_all [jt9, qaf]
  -- build
  · simp only [qab] at hc
    simp only [jaf, qae, Prod.mk.injEq] at hx
    obtain ⟨cs, h1, _, rfl, rfl⟩ := hx
    grind [jrd]
  -- bslice
  · simp only [qab, beq_iff_eq, decide_eq_true_eq] at hc
    simp only [jaf, qae, Prod.mk.injEq] at hx
    obtain ⟨L, h1, _, rfl, rfl⟩ := hx
    exact jpP d hf (hn _ (qaf _) (by simp)) hc.1.1.1 hc.1.1.2 hc.1.2 hc.2 h1
  -- load
  · simp only [qab, beq_iff_eq] at hc
    simp only [jaf] at hx
    split at hx
    · rename_i G' r hr
      simp only [qae, Prod.mk.injEq] at hx
      obtain ⟨c', h1, rfl, rfl, rfl⟩ := hx
      grind [jt7]
    · cases hx
  -- store
  · simp only [qab, beq_iff_eq] at hc
    simp only [jaf] at hx
    split at hx
    · rename_i b i o hy
      split at hx
      · rename_i hk
        simp only [qab, beq_iff_eq] at hk
        grind [jrf]
      · cases hx
    · cases hx
  -- nilck
  · simp only [jaf] at hx
    split at hx
    all_goals first
      | (rename_i hy
         cases hx
         refine jq9 d hf hc hy ?_
         grind)
      | cases hx
  -- ari
  · simp only [qab, beq_iff_eq] at hc
    obtain ⟨⟨⟨rfl, h1⟩, h2⟩, h3⟩ := hc
    simp only [jaf] at hx
    split at hx
    · rename_i k m k' n hxv hyv
      split at hx
      · rename_i G' r hr
        split at hx
        · rename_i hk
          subst hk
          cases hx
          exact jvX d hf h1 h2 hxv hyv hr hG (fun e => by
            grind)
        · cases hx
      · split at hx
        · rename_i G' r hr
          split at hx
          · rename_i hk
            cases hx
            exact jvY d hf h1 h2 hxv hyv hr hG hk (fun e => by
              grind)
          · cases hx
        · cases hx
    · cases hx
  -- cmp
  · simp only [qab, beq_iff_eq] at hc
    obtain ⟨⟨rfl, h1⟩, h2⟩ := hc
    simp only [jaf] at hx
    split at hx
    · rename_i k m k' n hxv hyv
      split at hx
      · rename_i hk
        subst hk
        simp only [qae, Prod.mk.injEq] at hx
        obtain ⟨r, hr, _, rfl, rfl⟩ := hx
        exact jvW d hf h1 h2 hxv hyv hr
      · cases hx
    · rename_i m n hxv hyv
      simp only [qae, Prod.mk.injEq] at hx
      obtain ⟨r, hr, _, rfl, rfl⟩ := hx
      exact jtZ d hf h1 h2 hxv hyv hr
    · cases hx
  -- cmpB
  · simp only [qab] at hc
    obtain ⟨⟨⟨h0, h1⟩, h2⟩, h3⟩ := hc
    simp only [jaf] at hx
    split at hx
    · rename_i m n hxv hyv
      cases hx
      exact jt0 d hf h0 h1 h2 (by
        grind) hxv hyv
    · cases hx
  -- cmpN
  · simp only [qab] at hc
    obtain ⟨⟨h0, h1⟩, h2⟩ := hc
    simp only [jaf, qae] at hx
    obtain ⟨⟨G', b⟩, hb, e⟩ := hx
    simp only [Prod.mk.injEq] at e
    obtain ⟨rfl, rfl, rfl⟩ := e
    exact jt1 d hf h0 h1 h2 hb hG
  -- eqA
  · simp only [qab] at hc
    obtain ⟨⟨⟨h0, h1⟩, h2⟩, h3⟩ := hc
    simp only [jaf] at hx
    split at hx
    · rename_i l m hxv hyv
      simp only [qae, Prod.mk.injEq] at hx
      obtain ⟨r, hr, _, rfl, rfl⟩ := hx
      exact jv7 d hf hq h0 h1 h2 h3 hxv hyv hr
    · cases hx
  -- un
  · simp only [qab, beq_iff_eq] at hc
    obtain ⟨rfl, h1⟩ := hc
    simp only [jaf] at hx
    grind [jvZ, jv0]
  -- conv
  · simp only [qab, beq_iff_eq] at hc
    simp only [jaf] at hx
    split at hx
    · rename_i k' n hy
      cases hx
      exact jt3 d hf hc.1.1 hc.1.2 hc.2 hy hG
    · cases hx
  -- s2b
  · simp only [qab] at hc
    simp only [jaf] at hx
    split at hx
    · rename_i s hy
      cases hx
      exact jwi d hf (hn _ (qaf _) (by simp)) hc.1.1 hc.1.2 hc.2 hy hG
    · cases hx
  -- b2s
  · simp only [qab] at hc
    simp only [jaf] at hx
    grind [jv8]
  -- frz
  · simp only [qab, beq_iff_eq] at hc
    simp only [jaf] at hx
    grind [jwh]
  -- mkif
  · simp only [qab, beq_iff_eq] at hc
    obtain ⟨⟨rfl, h1⟩, h2⟩ := hc
    simp only [jaf] at hx
    grind [jt4]
  -- mkfn
  · rename_i F' first caps
    simp only [qab, beq_iff_eq] at hc
    obtain ⟨⟨rfl, h1⟩, h2⟩ := hc
    have e1 : first = #[] := Array.eq_empty_of_size_eq_zero h1
    subst e1
    simp only [jaf] at hx
    cases hx
    exact jt5 d hf h2
  -- mkm
  · rename_i F' first caps
    simp only [qab, beq_iff_eq] at hc
    obtain ⟨⟨rfl, h1⟩, h2⟩ := hc
    have e1 : caps = #[] := Array.eq_empty_of_size_eq_zero h1
    subst e1
    split at h2
    · rename_i x e2
      obtain rfl : first = #[x] := by grind
      simp only [jaf, qae] at hx
      grind [jv1]
    · cases h2
  -- mksl
  · simp only [qab] at hc
    simp only [jaf] at hx
    split at hx
    · rename_i k n k' m hl hcv
      cases hx
      exact jub d hf (hn _ (qaf _) (by simp)) hc.1.1 hc.1.2 hc.2 hl hcv hG
    · cases hx
  -- sl
  · simp only [qab, beq_iff_eq] at hc
    obtain ⟨⟨⟨⟨⟨h0, h1⟩, h2⟩, h3⟩, h4⟩, h5⟩ := hc
    simp only [jaf] at hx
    split at hx
    · rename_i hk
      simp only [qae] at hx
      obtain ⟨⟨G', c'⟩, h6, e⟩ := hx
      simp only [Prod.mk.injEq] at e
      obtain ⟨rfl, rfl, rfl⟩ := e
      grind [jxF, jj7]
    · cases hx
  -- sl0
  · simp only [qab] at hc
    obtain ⟨⟨h1, h2⟩, h3⟩ := hc
    simp only [jaf] at hx
    split at hx
    · rename_i hk
      cases hx
      split at h1
      · rename_i e hu
        obtain ⟨n, hn'⟩ := Option.isSome_iff_exists.1 h1
        refine jv9 d hf hu hn' h2 ?_ hk
        grind
      · cases h1
    · cases hx
  -- faddr
  · simp only [qab] at hc
    simp only [jaf, qae, Prod.mk.injEq] at hx
    obtain ⟨c', h1, _, rfl, rfl⟩ := hx
    exact jra d hf hc.1 hc.2 h1
  -- field
  · simp only [qab] at hc
    simp only [jaf] at hx
    split at hx
    · rename_i l hl
      simp only [qae, Prod.mk.injEq] at hx
      obtain ⟨c', h1, _, rfl, rfl⟩ := hx
      exact jrb d hf hc.1 hc.2 hl h1
    · cases hx
  -- ixS
  · simp only [qab] at hc
    simp only [jaf, qae] at hx
    obtain ⟨⟨G', c'⟩, h1, e⟩ := hx
    simp only [Prod.mk.injEq] at e
    obtain ⟨rfl, rfl, rfl⟩ := e
    grind [jv2]
  -- ixA
  · simp only [qab] at hc
    simp only [jaf] at hx
    split at hx
    · rename_i k n hj
      simp only [qae, Prod.mk.injEq] at hx
      obtain ⟨c', h1, rfl, rfl, rfl⟩ := hx
      grind [jv3]
    · cases hx
  -- ixV
  · simp only [qab] at hc
    simp only [jaf] at hx
    grind [jv4]
  -- ext
  · simp only [qab, beq_iff_eq] at hc
    obtain ⟨rfl, h1⟩ := hc
    simp only [jaf] at hx
    split at hx
    · rename_i l hl
      simp only [qae, Prod.mk.injEq] at hx
      obtain ⟨c', h2, _, rfl, rfl⟩ := hx
      exact jv5 d hf h1 hl h2
    · cases hx
  -- app
  · split at hc
    · rename_i u v s s' ha ht
      simp only [qab] at hc
      obtain ⟨⟨⟨h1, h2⟩, h3⟩, h4⟩ := hc
      have e1 := jeZ ha
      have e2 := jeZ ht
      subst e1 e2
      simp only [jaf] at hx
      split at hx
      · cases hx
      · rename_i hnv
        split at hx
        · rename_i G1 L G2 M hl hs
          cases hx
          exact jwb d hf (hn _ (qaf _) (by simp [jes])) h1 h2 h3 h4 (fun t L e => hnv t L e) hl hs hG.1 hG.2.1 hG.2.2
        · cases hx
    · cases hc
  -- cpy
  · split at hc
    · rename_i u v s ts ha ht
      simp only [qab] at hc
      obtain ⟨⟨h1, h2⟩, h3⟩ := hc
      have e1 := jeZ ha
      subst e1
      obtain rfl := Array.ext' (ht.trans (by simp : s :: ts = (s :: ts).toArray.toList))
      simp only [jaf] at hx
      grind [jwf, juc]
    · cases hc
  -- len
  · split at hc
    · rename_i x t ha ht
      simp only [qab, beq_iff_eq] at hc
      obtain ⟨⟨h0, h1⟩, h2⟩ := hc
      have e1 := jj6 ha
      have e2 := jj6 ht
      subst e1 e2
      simp only [jaf] at hx
      split at hx
      · rename_i hk
        simp only [qae, Prod.mk.injEq] at hx
        obtain ⟨n, h3, _, rfl, rfl⟩ := hx
        grind [jv6, jj7]
      · cases hx
    · cases hc
  -- mm
  · split at hc
    · rename_i u v ha
      simp only [qab] at hc
      obtain ⟨⟨h1, h2⟩, h3⟩ := hc
      have e1 := jeZ ha
      subst e1
      simp only [jaf] at hx
      split at hx
      · rename_i k m k' n hxv hyv
        split at hx
        · rename_i hk
          subst hk
          cases hx
          exact jxD d hf h1 h2 h3 hxv hyv
        · cases hx
      · cases hx
    · cases hc
  -- rng
  · simp only [qab] at hc
    simp only [jaf] at hx
    split at hx
    · rename_i s hs
      cases hx
      exact jwj d hf (hn _ (qaf _) (by simp)) hc.1 hc.2 hs
    · cases hx
  -- nxt
  · simp only [qab] at hc
    obtain ⟨rfl, h1⟩ := hc
    simp only [jaf] at hx
    grind [jwk]
  -- tas
  · simp only [qab, beq_iff_eq] at hc
    obtain ⟨⟨⟨⟨rfl, rfl⟩, h1⟩, h2⟩, h3⟩ := hc
    simp only [jaf] at hx
    split at hx
    · rename_i t' q hy
      split at hx
      · rename_i e
        subst e
        cases hx
        exact jnA d hf h1 h2 h3 (.inl ⟨q, hy, rfl⟩)
      · rename_i hne
        split at hx
        · rename_i hok
          cases hx
          exact jnA d hf h1 h2 h3 (.inr ⟨hok, rfl, .inr ⟨t', q, hy, hne⟩⟩)
        · cases hx
    · rename_i hy
      split at hx
      · rename_i hok
        cases hx
        exact jnA d hf h1 h2 h3 (.inr ⟨hok, rfl, .inl hy⟩)
      · cases hx
    · cases hx
  -- ixC
  · simp only [qab] at hc
    simp only [jaf] at hx
    split at hx
    · rename_i l k n hy hj
      simp only [qae, Prod.mk.injEq] at hx
      obtain ⟨c', h1, rfl, rfl, rfl⟩ := hx
      grind [jwc]
    · cases hx
  -- i2s
  · simp only [qab] at hc
    simp only [jaf] at hx
    grind [jwd]
  -- cat
  · simp only [qab, beq_iff_eq] at hc
    simp only [jaf] at hx
    grind [jwe]
  · cases hc
end
end
end Go.Proofs.YtienkkicehmchaaGreatDoor
