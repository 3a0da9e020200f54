/- Texts of this claim, merged by a program of this claim: EEval. -/
import Derived.Test.YtienkkicehmchaaGreatDoorDa31
import Derived.Test.YtienkkicehmchaaGreatDoorDa5
import Derived.LoopN
namespace Go.Proofs.YtienkkicehmchaaGreatDoor
set_option linter.unusedVariables false
set_option linter.unusedSimpArgs false
section
open Go.RowKit
def inB (k:IntKind) (n:Int):Bool:=decide (k.min≤n)&&decide (n≤k.max)
theorem jfK {k:IntKind}{n:Int}(h:inB k n=true):jae k n:=by
 simpa[inB,jae] using h
def jh0 (h:KH):CV→Bool
 | .ptr b i o=>match h.get b with
  | .box cs=>i==0
  | .seq t L=>decide (i<L.length)
  | _=>false
 | _=>true
theorem jj7 {E:Nat→Option (List CV)}{h:KH}{c:CV}{G:Prop}{r:List CV}(e:jbL E h c=some (G,r)) (b:jh0 h c=true):G:=by
 unfold jbL at e
 unfold jh0 at b
 split at e
 ·split at e
  ·rename_i hg
   simp only[hg]at b
   cases e
   simpa using b
  ·rename_i hg
   simp only[hg]at b
   cases e
   simpa using b
  ·cases e
 ·cases e
  trivial
 ·simp only[Option.map_eq_some_iff]at e
  obtain⟨x,_,e⟩:=e
  cases e
  trivial
 ·cases e
def jhd (h:KH):CV→Bool
 | .slice b i _ n _=>match h.get b with
  | .seq _ M=>decide (i+n≤M.length)
  | _=>false
 | _=>true
theorem jjb {h:KH}{t:ETy}{c:CV}{G:Prop}{r:List t.T}(e:jaA h t c=some (G,r)) (b:jhd h c=true):G:=by
 unfold jaA at e
 unfold jhd at b
 split at e
 ·simp only[Option.map_eq_some_iff]at e
  obtain⟨x,_,e⟩:=e
  cases e
  trivial
 ·split at e
  ·rename_i t' M hg
   simp only[hg]at b
   simp only[Option.map_eq_some_iff]at e
   obtain⟨x,hx,e⟩:=e
   cases e
   have:=(ETy.cast_enc _ _ _ _ hx).2.1
   have:=of_decide_eq_true b
   omega
  ·cases e
 ·cases e
  trivial
 ·cases e
  trivial
 ·cases e
theorem jjc {h:KH}{t:ETy}{c:CV}{G:Prop}{r:List t.T}(e:jca h t c=some (G,r)) (b:jhd h c=true):G:=by
 unfold jca at e
 split at e
 ·simp only[Option.map_eq_some_iff]at e
  obtain⟨x,_,e⟩:=e
  cases e
  trivial
 ·exact jjb e b
def ariB (op:BinOp) (x y:Int):Bool :=
 match op with
 | .quo=>(decide (0≤x) || decide (x % y=0))&&decide (0<y)
 | .rem=>decide (0≤x)&&decide (0<y)
 | _=>true
def bitB (op:BinOp) (k:IntKind) (x y:Int):Bool :=
 match op with
 | .and | .or | .xor=>decide (0≤x)&&decide (0≤y)&&inB k x&&inB k y
 | .shr | .shl=>decide (0≤y)&&decide (y≤k.bits)
 | _=>true
def jpv (b:KB) (i o n:Nat):Bool :=
 match b with
 | .box _=>i==0
 | .seq t L=>decide (i<L.length)&&decide (o+n≤t.esz)
 | _=>false
def jry (x:CV):Bool :=
 match x with
 | .int _ n=>decide (0≤n)
 | _=>false
def optB (x:Option CV):Bool:=x.elim true jry
theorem jpw {len:Nat}{lo hi mx:Option CV}{G:Prop}{l u:Nat}{m:Option Nat}(e:bdK len lo hi mx=some (G,l,u,m)) (b:(optB lo&&optB hi&&optB mx)=true):G:=by
 simp only[Bool.and_eq_true]at b
 obtain⟨⟨b1,b2⟩,b3⟩:=b
 have one:∀{x:Option CV}{d:Nat}{G:Prop}{n:Nat},x.elim (some (True,d)) jej=some (G,n)→optB x=true→G:=fun {x d G n} h hb=>by
  cases x with
  | none=>cases h;trivial
  | some c =>
   simp only[Option.elim,jej]at h
   simp only[optB,Option.elim,jry]at hb
   split at h
   ·cases h
    simpa using hb
   ·cases h
 unfold bdK at e
 split at e
 ·rename_i e1 e2
  split at e
  ·cases e
   exact⟨one e1 b1,one e2 b2⟩
  ·split at e
   ·rename_i e3
    cases e
    exact⟨one e1 b1,one e2 b2,one (x:=some _) (d:=0) e3 b3⟩
   ·cases e
 ·cases e
def slB (esz:Nat) (x:CV) (lo hi mx:Option CV):Bool :=
 optB lo&&optB hi&&optB mx&&(match x with
 | .str s=>(match bdK s.size lo hi mx with
  | some (_,l,u,_)=>decide (l≤u)&&decide (u≤s.size)
  | none=>false)
 | .slice _ _ _ len cap=>(match bdK len lo hi mx with
  | some (_,l,u,mo)=>decide (l≤u)&&decide (u≤mo.getD cap)&&decide (mo.getD cap≤cap)
  | none=>false)
 | .vec _ L=>(match bdK L.length lo hi mx with
  | some (_,l,u,mo)=>decide (l≤u)&&decide (u≤mo.getD L.length)&&decide (mo.getD L.length≤L.length)
  | none=>false)
 | .zs | .nils=>(match bdK 0 lo hi mx with
  | some (_,l,u,mo)=>l==0&&u==0&&mo.getD 0==0
  | none=>false)
 | _=>false)
theorem jt5 {esz:Nat}{x c:CV}{lo hi mx:Option CV}{G:Prop}(e:slK esz x lo hi mx=some (G,c)) (b:slB esz x lo hi mx=true):G:=by
 unfold slB at b
 rw[Bool.and_eq_true]at b
 obtain⟨b1,b2⟩:=b
 unfold slK at e
 split at e
 ·split at e
  ·rename_i eb
   cases e
   simp only[eb,Bool.and_eq_true,decide_eq_true_eq]at b2
   exact⟨jpw eb b1,b2⟩
  ·cases e
 ·split at e
  ·split at e
   ·rename_i eb
    cases e
    simp only[eb,Bool.and_eq_true,decide_eq_true_eq]at b2
    exact⟨jpw eb b1,b2.1.1,b2.1.2,b2.2⟩
   ·cases e
  ·cases e
 ·split at e
  ·split at e
   ·rename_i eb
    cases e
    simp only[eb,Bool.and_eq_true,decide_eq_true_eq]at b2
    exact⟨jpw eb b1,b2.1.1,b2.1.2,b2.2⟩
   ·cases e
  ·cases e
 ·split at e
  ·rename_i eb
   cases e
   simp only[eb,Bool.and_eq_true,beq_iff_eq]at b2
   exact⟨jpw eb b1,b2.1.1,b2.1.2,b2.2⟩
  ·cases e
 ·split at e
  ·rename_i eb
   cases e
   simp only[eb,Bool.and_eq_true,beq_iff_eq]at b2
   exact⟨jpw eb b1,b2.1.1,b2.1.2,b2.2⟩
  ·cases e
 ·cases e
def jj8 (l:LOp) (fr:Fr) (h:KH):Bool :=
 match l with
 | .load _ _ a=>jh0 h (a.ev fr)
 | .store _ a v=>(match a.ev fr with
  | .ptr b i o=>jpv (h.get b) i o (v.ev fr).cells.length
  | _=>false)
 | .ari op wr x y=>(match x.ev fr,y.ev fr with
  | .int k a,.int _ b=>(match ariK op a b with
   | some (_,r)=>ariB op a b&&(wr || inB k r)
   | none=>(match bitK op k a b with
    | some (_,r)=>bitB op k a b&&(wr || inB k r)
    | none=>false))
  | _,_=>false)
 | .cmpN _ _ x=>(match x.ev fr with
  | .slice _ _ _ n _=>decide (0<n)
  | .vec _ L=>decide (0<L.length)
  | _=>true)
 | .un _ x=>(match x.ev fr with
  | .int k n=>inB k (-n)
  | _=>true)
 | .conv k wr x=>(match x.ev fr with
  | .int _ n=>wr || inB k n
  | _=>false)
 | .s2b x=>(match x.ev fr with
  | .str s=>decide (s.size≤1073741824)
  | _=>false)
 | .b2s x=>jhd h (x.ev fr)
 | .mksl _ _ l c=>(match l.ev fr,c.ev fr with
  | .int _ n,.int _ m=>decide (0≤n)&&decide (n≤m)&&decide (m≤1073741824)
  | _,_=>false)
 | .sl _ esz x lo hi mx=>slB esz (x.ev fr) (lo.map (Opd.ev fr)) (hi.map (Opd.ev fr)) (mx.map (Opd.ev fr))
 | .ixS _ x i=>(match x.ev fr,i.ev fr with
  | .slice _ _ _ len _,.int _ n=>decide (0≤n)&&decide (n<len)
  | .vec _ L,.int _ n=>decide (0≤n)&&decide (n<L.length)
  | _,_=>false)
 | .ixA len _ _ i=>(match i.ev fr with
  | .int _ n=>decide (0≤n)&&decide (n<len)
  | _=>false)
 | .ixV x i=>(match x.ev fr,i.ev fr with
  | .str s,.int _ n=>decide (0≤n)&&decide (n<s.size)
  | _,_=>false)
 | .ixC len _ _ _ i=>(match i.ev fr with
  | .int _ n=>decide (0≤n)&&decide (n<len)
  | _=>false)
 | .cat x y=>(match x.ev fr,y.ev fr with
  | .str a,.str b=>decide (a.size+b.size≤9223372036854775807)
  | _,_=>false)
 | .app t x y=>jhd h (x.ev fr)&&jhd h (y.ev fr)&&(match jaA h t (x.ev fr),jca h t (y.ev fr)with
  | some (_,L),some (_,M)=>decide (L.length+M.length≤1073741824)
  | _,_=>false)
 | .cpy _ x y=>jhd h (y.ev fr)&&jhd h (x.ev fr)
 | _=>true
theorem js2 {wr:Bool}{k:IntKind}{r:Int}(h:(wr || inB k r)=true):wr=true∨jae k r:=by
 rcases Bool.or_eq_true _ _▸h with q|q
 ·exact .inl q
 ·exact .inr (jfK q)
theorem js3 {op:BinOp}{x y r:Int}{G:Prop}(e:ariK op x y=some (G,r)) (b:ariB op x y=true):G:=by
 unfold ariK at e
 unfold ariB at b
 split at e<;>cases e<;>first|trivial|(simp only[Bool.and_eq_true,Bool.or_eq_true,decide_eq_true_eq]at b;exact⟨fun h=>b.1.resolve_left (by omega),b.2⟩)|(simp only[Bool.and_eq_true,decide_eq_true_eq]at b;exact b)
theorem js4 {op:BinOp}{k:IntKind}{x y r:Int}{G:Prop}(e:bitK op k x y=some (G,r)) (b:bitB op k x y=true):G:=by
 unfold bitK at e
 unfold bitB at b
 split at e<;>cases e<;>simp only[Bool.and_eq_true,decide_eq_true_eq]at b
 ·exact⟨b.1.1.1,b.1.1.2,jfK b.1.2,jfK b.2⟩
 ·exact⟨b.1.1.1,b.1.1.2,jfK b.1.2,jfK b.2⟩
 ·exact⟨b.1.1.1,b.1.1.2,jfK b.1.2,jfK b.2⟩
 ·exact b
 ·exact b
theorem jpx {E:Nat→Option (List CV)}{l:LOp}{fr:Fr}{h:KH}{G:Prop}{c:CV}{h':KH}(e:jac E l fr h=some (G,c,h')) (b:jj8 l fr h=true):G:=by
 cases l<;>simp only[jac,Option.map_eq_some_iff,Prod.mk.injEq]at e<;>simp only[jj8]at b
 all_goals try (cases e;trivial)
 all_goals try (split at e<;>first|(cases e;trivial)|(cases e;done))
 all_goals try (obtain⟨_,_,rfl,_,_⟩:=e;trivial)
 case load =>
  split at e
  ·rename_i hr
   simp only[Option.map_eq_some_iff]at e
   obtain⟨_,_,e⟩:=e
   cases e
   exact jj7 hr b
  ·cases e
 case store =>
  split at e
  ·split at e
   ·split at e
    ·rename_i ha _ _ _ _ hs
     cases e
     simp only[ha]at b
     unfold jaI at hs
     unfold jpv at b
     split at hs
     ·rename_i hg
      simp only[hg]at b
      split at hs
      ·cases hs
       simpa using b
      ·cases hs
     ·rename_i hg
      simp only[hg]at b
      split at hs
      ·cases hs
       simpa using b
      ·cases hs
     ·cases hs
    ·cases e
   ·cases e
  ·cases e
 case ari =>
  split at e
  ·rename_i hx hy
   simp only[hx,hy]at b
   split at e
   ·rename_i ha
    simp only[ha,Bool.and_eq_true]at b
    split at e
    ·cases e
     exact⟨js3 ha b.1,js2 b.2⟩
    ·cases e
   ·rename_i ha
    simp only[ha]at b
    split at e
    ·rename_i hb
     simp only[hb,Bool.and_eq_true]at b
     split at e
     ·cases e
      exact⟨js4 hb b.1,js2 b.2⟩
     ·cases e
    ·cases e
  ·cases e
 case cmpN =>
  obtain⟨a,ha,rfl,_,_⟩:=e
  unfold jcq at ha
  split at ha<;>cases ha<;>first|trivial|(simp_all;done)
 case sl =>
  split at e
  ·simp only[Option.map_eq_some_iff,Prod.mk.injEq]at e
   obtain⟨⟨_,_⟩,hs,rfl,_,_⟩:=e
   exact jt5 hs b
  ·cases e
 case ixS =>
  obtain⟨⟨_,_⟩,ha,rfl,_,_⟩:=e
  unfold ixSK at ha
  split at ha
  ·rename_i hx hi
   simp only[hx,hi]at b
   split at ha
   ·cases ha
    simpa using b
   ·cases ha
  ·rename_i hx hi
   simp only[hx,hi]at b
   split at ha
   ·cases ha
    simpa using b
   ·cases ha
  ·cases ha
 case app =>
  simp only[Bool.and_eq_true]at b
  split at e
  ·cases e
  ·split at e
   ·rename_i h1 h2
    simp only[h1,h2,decide_eq_true_eq]at b
    cases e
    exact⟨jjb h1 b.1.1,jjc h2 b.1.2,b.2⟩
   ·cases e
 case cpy =>
  simp only[Bool.and_eq_true]at b
  split at e
  ·rename_i hx
   split at e
   ·rename_i hg hs
    split at e
    ·cases e
     refine⟨jjc hs b.1,?_⟩
     have b2:=b.2
     simp only[hx,jhd,hg]at b2
     simpa using b2
    ·cases e
   ·cases e
  ·split at e
   ·rename_i hs
    cases e
    exact jjc hs b.1
   ·cases e
  ·split at e
   ·rename_i hs
    cases e
    exact jjc hs b.1
   ·cases e
  ·cases e
 case un op x =>
  split at e
  ·cases e
   trivial
  ·rename_i hx
   simp only[hx]at b
   cases e
   exact jfK b
  ·cases e
 case conv k wr x =>
  split at e
  ·rename_i hx
   simp only[hx]at b
   cases e
   exact js2 b
  ·cases e
 case frz x =>
  repeat' split at e
  all_goals first|(cases e;trivial)|(cases e;done)
 case b2s =>
  split at e
  ·rename_i hs
   cases e
   exact jjb hs b
  ·cases e
 all_goals (repeat' split at e)
 all_goals first|(cases e;done)|skip
 all_goals try (simp only[Option.map_eq_some_iff,Prod.mk.injEq]at e;obtain⟨_,_,rfl,_,_⟩:=e)
 all_goals first|trivial|(cases e;simp_all;done)|(simp_all;done)
def eqLs {α:Type}(f:α→α→Bool):List α→List α→Bool
 | [],[]=>true
 | x::l,y::m=>f x y&&eqLs f l m
 | _,_=>false
theorem jjd {α:Type}{f:α→α→Bool}(hf:∀x y,f x y=true→x=y):∀(l m:List α),eqLs f l m=true→l=m
 | [],[],_=>rfl
 | x::l,y::m,h=>by
  simp only[eqLs,Bool.and_eq_true]at h
  rw[hf x y h.1,jjd hf l m h.2]
 | [],_::_,h=>by simp[eqLs]at h
 | _::_,[],h=>by simp[eqLs]at h
def eqT:(t:ETy)→t.T→t.T→Bool
 | .int _,a,b=>decide ((a:Int)=b)
 | .bool,a,b=>decide ((a:Bool)=b)
 | .str,a,b=>decide ((a:ByteArray).data.toList=(b:ByteArray).data.toList)
 | .cell,a,b=>decide ((a:CD)=b)
 | .item,_,_=>false
 | .rows t,a,b=>eqLs (eqT t) a b
 | .pair s t,a,b=>eqT s a.1 b.1&&eqT t a.2 b.2
theorem jq9 {a b:ByteArray}(h:a.data.toList=b.data.toList):a=b:=by
 cases a;cases b
 simp only[ByteArray.mk.injEq]
 exact Array.ext' h
theorem jj9:∀(t:ETy) (a b:t.T),eqT t a b=true→a=b
 | .int _,a,b,h=>by simpa[eqT] using h
 | .bool,a,b,h=>by simpa[eqT] using h
 | .str,a,b,h=>jq9 (by simpa[eqT] using h)
 | .cell,a,b,h=>by simpa[eqT] using h
 | .item,a,b,h=>by simp[eqT]at h
 | .rows t,a,b,h=>jjd (jj9 t) a b (by simpa[eqT] using h)
 | .pair s t,a,b,h=>by
  simp only[eqT,Bool.and_eq_true]at h
  exact Prod.ext (jj9 s _ _ h.1) (jj9 t _ _ h.2)
mutual
def eqV:CV→CV→Bool
 | .undef,.undef=>true
 | .int k a,.int k' b=>decide (k=k')&&decide (a=b)
 | .bool a,.bool b=>decide (a=b)
 | .str a,.str b=>decide (a.data.toList=b.data.toList)
 | .ptr a b c,.ptr a' b' c'=>a==a'&&b==b'&&c==c'
 | .gptr a b,.gptr a' b'=>a==a'&&b==b'
 | .nilptr,.nilptr=>true
 | .slice a b c d e,.slice a' b' c' d' e'=>a==a'&&b==b'&&c==c'&&d==d'&&e==e'
 | .vec t L,.vec t' L'=>if h:t=t' then eqLs (eqT t') (h▸L) L' else false
 | .zs,.zs=>true
 | .nils,.nils=>true
 | .fn F l,.fn F' l'=>F==F'&&eqVL l l'
 | .nilfn,.nilfn=>true
 | .mfn F,.mfn G=>F==G
 | .iface t c,.iface t' c'=>t==t'&&eqV c c'
 | .niliface,.niliface=>true
 | .agg l,.agg l'=>eqVL l l'
 | .tup l,.tup l'=>eqVL l l'
 | _,_=>false
def eqVL:List CV→List CV→Bool
 | [],[]=>true
 | c::l,c'::l'=>eqV c c'&&eqVL l l'
 | _,_=>false
end
mutual
theorem jrz:∀(c d:CV),eqV c d=true→c=d
 | .undef,d,h=>by cases d<;>simp_all [eqV]
 | .int _ _,d,h=>by cases d<;>simp_all [eqV]
 | .bool _,d,h=>by cases d<;>simp_all [eqV]
 | .str _,d,h=>by
  cases d<;>simp only[eqV]at h<;>try (cases h;done)
  exact congrArg CV.str (jq9 (by simpa using h))
 | .ptr _ _ _,d,h=>by cases d<;>simp_all [eqV]
 | .vp _ _ _,d,h=>by cases d<;>simp_all [eqV]
 | .gptr _ _,d,h=>by cases d<;>simp_all [eqV]
 | .nilptr,d,h=>by cases d<;>simp_all [eqV]
 | .slice _ _ _ _ _,d,h=>by cases d<;>simp_all [eqV]
 | .vec t L,d,h=>by
  cases d<;>simp only[eqV]at h<;>try (cases h;done)
  split at h
  ·rename_i e
   subst e
   exact congrArg (CV.vec t) (jjd (jj9 t) _ _ h)
  ·cases h
 | .zs,d,h=>by cases d<;>simp_all [eqV]
 | .nils,d,h=>by cases d<;>simp_all [eqV]
 | .fn _ l,d,h=>by
  cases d<;>simp only[eqV,Bool.and_eq_true,beq_iff_eq]at h<;>try (cases h;done)
  rw[h.1,jhe _ _ h.2]
 | .nilfn,d,h=>by cases d<;>simp_all [eqV]
 | .mfn _,d,h=>by cases d<;>simp_all [eqV]
 | .iface _ c,d,h=>by
  cases d<;>simp only[eqV,Bool.and_eq_true,beq_iff_eq]at h<;>try (cases h;done)
  rw[h.1,jrz _ _ h.2]
 | .niliface,d,h=>by cases d<;>simp_all [eqV]
 | .agg l,d,h=>by
  cases d<;>simp only[eqV]at h<;>try (cases h;done)
  rw[jhe _ _ h]
 | .tup l,d,h=>by
  cases d<;>simp only[eqV]at h<;>try (cases h;done)
  rw[jhe _ _ h]
theorem jhe:∀(l m:List CV),eqVL l m=true→l=m
 | [],m,h=>by cases m<;>simp_all [eqVL]
 | c::l,m,h=>by
  cases m<;>simp only[eqVL,Bool.and_eq_true]at h
  ·cases h
  ·rw[jrz _ _ h.1,jhe _ _ h.2]
end
def eqB:KB→KB→Bool
 | .dead,.dead=>true
 | .box l,.box m=>eqVL l m
 | .seq t L,.seq t' L'=>if h:t=t' then eqLs (eqT t') (h▸L) L' else false
 | .iter s p,.iter s' p'=>decide (s.data.toList=s'.data.toList)&&p==p'
 | _,_=>false
theorem jrA:∀(a b:KB),eqB a b=true→a=b
 | .dead,b,h=>by cases b<;>simp_all [eqB]
 | .box l,b,h=>by
  cases b<;>simp only[eqB]at h<;>try (cases h;done)
  rw[jhe _ _ h]
 | .seq t L,b,h=>by
  cases b<;>simp only[eqB]at h<;>try (cases h;done)
  split at h
  ·rename_i e
   subst e
   exact congrArg (KB.seq t) (jjd (jj9 t) _ _ h)
  ·cases h
 | .iter s p,b,h=>by
  cases b<;>simp only[eqB,Bool.and_eq_true,beq_iff_eq,decide_eq_true_eq]at h<;>try (cases h;done)
  rw[jq9 h.1,h.2]
def eqH:KH→KH→Bool
 | [],[]=>true
 | a::l,b::m=>eqB a b&&eqH l m
 | _,_=>false
theorem jrB:∀(l m:KH),eqH l m=true→l=m
 | [],m,h=>by cases m<;>simp_all [eqH]
 | c::l,m,h=>by
  cases m<;>simp only[eqH,Bool.and_eq_true]at h
  ·cases h
  ·rw[jrA _ _ h.1,jrB _ _ h.2]
noncomputable section
def getF (fr:Fr) (n:Nat):CV:=List.rec (motive:=fun _=>CV) .undef (fun p _ ih=>cond (Nat.beq n p.1) p.2 ih) fr
theorem jee:∀(fr:Fr) (n:Nat),getF fr n=fr.get n
 | [],n=>rfl
 | (k,x)::r,n=>by
  have ih:=jee r n
  show cond (Nat.beq n k) x (getF r n)=_
  rw[ih]
  simp only[Fr.get]
  by_cases h:n=k
  ·subst h
   rw[if_pos rfl,Nat.beq_refl]
   rfl
  ·rw[if_neg h]
   have:Nat.beq n k=false:=by
    cases e:Nat.beq n k with
    | false=>rfl
    | true=>exact absurd (Nat.eq_of_beq_eq_true e) h
   rw[this]
   rfl
def setF (fr:Fr) (n:Nat) (v:CV):Fr:=List.rec (motive:=fun _=>Fr) [(n,v)] (fun p r ih=>cond (Nat.beq n p.1) ((n,v)::r) (p::ih)) fr
theorem jfm:∀(fr:Fr) (n:Nat) (v:CV),setF fr n v=fr.set n v
 | [],n,v=>rfl
 | (k,x)::r,n,v=>by
  have ih:=jfm r n v
  show cond (Nat.beq n k) ((n,v)::r) ((k,x)::setF r n v)=_
  rw[ih]
  simp only[Fr.set]
  by_cases h:n=k
  ·subst h
   rw[if_pos rfl,Nat.beq_refl]
   rfl
  ·rw[if_neg h]
   have:Nat.beq n k=false:=by
    cases e:Nat.beq n k with
    | false=>rfl
    | true=>exact absurd (Nat.eq_of_beq_eq_true e) h
   rw[this]
   rfl
def evo (x:Opd):Fr→CV:=match x with
 | .t n=>fun fr=>getF fr n
 | .c v=>fun _=>v
theorem jcG (x:Opd) (fr:Fr):evo x fr=x.ev fr:=by
 cases x
 ·exact jee _ _
 ·rfl
def hget (h:KH):Nat→KB:=List.rec (motive:=fun _=>Nat→KB) (fun _=>.dead) (fun b _ ih i=>Nat.rec (motive:=fun _=>KB) b (fun m _=>ih m) i) h
theorem jpy:∀(h:KH) (i:Nat),hget h i=h.get i
 | [],i=>rfl
 | b::h,0=>rfl
 | b::h,i+1=>jpy h i
def hput (h:KH):Nat→KB→KH:=List.rec (motive:=fun _=>Nat→KB→KH) (fun _ _=>[]) (fun b r ih i x=>Nat.rec (motive:=fun _=>KH) (x::r) (fun m _=>b::ih m x) i) h
theorem jpz:∀(h:KH) (i:Nat) (x:KB),hput h i x=h.put i x
 | [],i,x=>by cases i<;>rfl
 | b::h,0,x=>rfl
 | b::h,i+1,x=>congrArg (b :: ·) (jpz h i x)
theorem jdC:hget=KH.get:=funext fun h=>funext fun i=>jpy h i
theorem jmd:hput=KH.put:=funext fun h=>funext fun i=>funext fun x=>jpz h i x
def jpA (E:Nat→Option (List CV)) (h:KH):CV→Option (Prop×List CV)
 | .ptr b i o=>match hget h b with
  | .box cs=>some (i=0,cs.drop o)
  | .seq t L=>some (i<L.length,(t.enc (L.getD i t.dflt)).drop o)
  | _=>none
 | .vp t x o=>some (True,(t.enc x).drop o)
 | .gptr g o=>(E g).map fun cs=>(True,cs.drop o)
 | _=>none
theorem jpB (E:Nat→Option (List CV)) (h:KH) (c:CV):jpA E h c=jbL E h c:=by
 cases c<;>simp only[jpA,jbL,jdC]<;>rfl
def jlk (h:KH):CV→Bool
 | .ptr b i o=>match hget h b with
  | .box cs=>i==0
  | .seq t L=>decide (i<L.length)
  | _=>false
 | _=>true
theorem jm7 (h:KH) (c:CV):jlk h c=jh0 h c:=by
 cases c<;>simp only[jlk,jh0,jdC]
def jfn (h:KH) (t:ETy):CV→Option (Prop×List t.T)
 | .vec t' L=>(ETy.cast? t' t L).map fun L=>(True,L)
 | .slice b i esz len _=>match hget h b with
  | .seq t' M=>(ETy.cast? t' t M).map fun M=>(i+len≤M.length,(M.drop i).take len)
  | _=>none
 | .zs | .nils=>some (True,[])
 | _=>none
theorem jfo (h:KH) (t:ETy) (c:CV):jfn h t c=jaA h t c:=by
 cases c<;>simp only[jfn,jaA,jdC]<;>rfl
def jhf (h:KH):CV→Bool
 | .slice b i _ n _=>match hget h b with
  | .seq _ M=>decide (i+n≤M.length)
  | _=>false
 | _=>true
theorem jpC (h:KH) (c:CV):jhf h c=jhd h c:=by
 cases c<;>simp only[jhf,jhd,jdC]
def jh1 (h:KH) (t:ETy):CV→Option (Prop×List t.T)
 | .str s=>(ETy.cast? (.int .u8) t (jaf s)).map fun L=>(True,L)
 | c=>jfn h t c
theorem jka (h:KH) (t:ETy) (c:CV):jh1 h t c=jca h t c:=by
 cases c<;>simp only[jh1,jca,jfo]
def js5 (h:KH):CV→KH
 | .slice b _ _ _ _=>hput h b .dead
 | _=>h
theorem jra (h:KH) (c:CV):js5 h c=jc4 h c:=by
 cases c<;>simp only[js5,jc4,jmd]
def jrb (fr:Fr):List CV→List (Nat×Nat×Opd)→Option (List CV)
 | z,[]=>some z
 | z,(off,size,x)::r=>if (evo x fr).known&&(evo x fr).cells.length==size&&decide (off+size≤z.length) then jrb fr (jaY z off (evo x fr).cells) r else none
theorem jme (fr:Fr):∀(ps:List (Nat×Nat×Opd)) (z:List CV),jrb fr z ps=jdQ fr z ps
 | [],z=>rfl
 | (off,size,x)::r,z=>by simp only[jrb,jdQ,jcG,jme fr r]
def jje (t:ETy) (fr:Fr):List Opd→Option (List t.T)
 | []=>some []
 | x::r=>if (evo x fr).known then (match t.dec (evo x fr).cells,jje t fr r with
  | some y,some l=>some (y::l)
  | _,_=>none) else none
theorem jh2 (t:ETy) (fr:Fr):∀l:List Opd,jje t fr l=jbI t fr l
 | []=>rfl
 | x::r=>by
  simp only[jje,jbI,jcG,jh2 t fr r]
  rfl
def js6 (l:LOp):(Nat→Option (List CV))→Fr→KH→Option (Prop×CV×KH):=match l with
 | .mov x=>fun E fr h=>some (True,evo x fr,h)
 | .pick c a b=>fun E fr h=>match evo c fr with
  | .bool t=>some (True,jcm t (evo a fr) (evo b fr),h)
  | _=>none
 | .box x=>fun E fr h=>if (evo x fr).known then some (True,.ptr h.length 0 0,h++[.box (evo x fr).cells]) else none
 | .zero cs=>fun E fr h=>some (True,.ptr h.length 0 0,h++[.box cs])
 | .build z ps=>fun E fr h=>(jrb fr z ps).map fun cs=>(True,.agg cs,h)
 | .bslice t ps=>fun E fr h=>(jje t fr ps).map fun L=>(True,.slice h.length 0 t.esz L.length L.length,h++[.seq t L])
 | .load agg n a=>fun E fr h=>match jpA E h (evo a fr)with
  | some (G,r)=>(jcI agg n r).map fun c=>(G,c,h)
  | none=>none
 | .store n a v=>fun E fr h=>match evo a fr with
  | .ptr b i o=>if (evo v fr).known&&(evo v fr).cells.length==n then (match jaI (hget h b) i o (evo v fr).cells with
   | some (G,kb)=>some (G,.tup [],hput h b kb)
   | none=>none) else none
  | _=>none
 | .nilck x=>fun E fr h=>match evo x fr with
  | .ptr b i o=>some (True,.ptr b i o,h)
  | .vp t y o=>some (True,.vp t y o,h)
  | .gptr g o=>some (True,.gptr g o,h)
  | .fn F cs=>some (True,.fn F cs,h)
  | _=>none
 | .ari op wr x y=>fun E fr h=>match evo x fr,evo y fr with
  | .int k a,.int k' b =>
   (match ariK op a b with
   | some (G,r)=>if k=k' then some (G∧(wr=true∨jae k r),.int k (if wr then k.wrap r else r),h) else none
   | none=>match bitK op k a b with
    | some (G,r)=>if k=k'∨op=.shl∨op=.shr then some (G∧(wr=true∨jae k r),.int k (if wr then k.wrap r else r),h) else none
    | none=>none)
  | _,_=>none
 | .cmp op x y=>fun E fr h=>match evo x fr,evo y fr with
  | .int k a,.int k' b=>if k=k' then (cmpI op a b).map fun r=>(True,.bool r,h) else none
  | .str a,.str b=>(cmpS op a b).map fun r=>(True,.bool r,h)
  | _,_=>none
 | .cmpB neg x y=>fun E fr h=>match evo x fr,evo y fr with
  | .bool a,.bool b=>some (True,.bool (if neg then !(a==b) else a==b),h)
  | _,_=>none
 | .cmpN kind neg x=>fun E fr h=>(jcq kind (evo x fr)).map fun (G,b)=>(G,.bool (if neg then !b else b),h)
 | .eqA ks neg x y=>fun E fr h=>match evo x fr,evo y fr with
  | .agg l,.agg m=>(jaM ks l m).map fun r=>(True,.bool (if neg then !r else r),h)
  | _,_=>none
 | .un op x=>fun E fr h=>match op,evo x fr with
  | .not,.bool b=>some (True,.bool (!b),h)
  | .neg,.int k n=>some (jae k (-n),.int k (-n),h)
  | _,_=>none
 | .conv k wr x=>fun E fr h=>match evo x fr with
  | .int _ n=>some (wr=true∨jae k n,.int k (if wr then k.wrap n else n),h)
  | _=>none
 | .s2b x=>fun E fr h=>match evo x fr with
  | .str s=>some (s.size≤1073741824,.slice h.length 0 1 s.size s.size,h++[.seq (.int .u8) (jaf s)])
  | _=>none
 | .b2s x=>fun E fr h=>match jfn h (.int .u8) (evo x fr)with
  | some (G,L)=>some (G,.str (jas L),h)
  | none=>none
 | .frz x=>fun E fr h=>match evo x fr with
  | .slice b i esz len cap=>(match hget h b with
   | .seq (.int .u8) _=>if 0<len then some (True,.slice b i esz len cap,h) else none
   | _=>none)
  | _=>none
 | .mkif t x=>fun E fr h=>match evo x fr with
  | .undef=>none
  | c=>some (True,.iface t c,h)
 | .mkfn F cs=>fun E fr h=>some (True,.fn F (cs.map (fun y=>evo y fr)),h)
 | .mkm F x=>fun E fr h=>(bndV F (evo x fr)).map fun c=>(True,c,h)
 | .mksl t bytes l c=>fun E fr h=>match evo l fr,evo c fr with
  | .int _ n,.int _ m=>some (0≤n∧n≤m∧m≤1073741824,.slice h.length 0 t.esz n.toNat m.toNat,h++[.seq t (List.replicate n.toNat t.dflt)])
  | _,_=>none
 | .sl st esz x lo hi mx=>fun E fr h=>if jcb st (evo x fr)=true then (slK esz (evo x fr) (lo.map (fun y=>evo y fr)) (hi.map (fun y=>evo y fr)) (mx.map (fun y=>evo y fr))).map fun (G,c)=>(G,c,h) else none
 | .sl0 x=>fun E fr h=>if jcJ (evo x fr) then some (True,.zs,h) else none
 | .faddr x off=>fun E fr h=>(jcc (evo x fr) off).map fun c=>(True,c,h)
 | .field x off n agg=>fun E fr h=>match evo x fr with
  | .agg l=>(jdR l off n agg).map fun c=>(True,c,h)
  | _=>none
 | .ixS esz x i=>fun E fr h=>(ixSK esz (evo x fr) (evo i fr)).map fun (G,c)=>(G,c,h)
 | .ixA len esz x i=>fun E fr h=>match evo i fr with
  | .int _ n=>(jcc (evo x fr) (n.toNat*esz)).map fun c=>(0≤n∧n<len,c,h)
  | _=>none
 | .ixV x i=>fun E fr h=>match evo x fr,evo i fr with
  | .str s,.int _ n=>some (0≤n∧n<s.size,.int .u8 ((jaf s).getD n.toNat 0),h)
  | _,_=>none
 | .ixC len esz agg x i=>fun E fr h=>match evo x fr,evo i fr with
  | .agg l,.int _ n=>(jdR l (n.toNat*esz) esz agg).map fun c=>(0≤n∧n<len,c,h)
  | _,_=>none
 | .i2s x=>fun E fr h=>match evo x fr with
  | .int _ n=>some (True,.str (Utf8.encode n),h)
  | _=>none
 | .cat x y=>fun E fr h=>match evo x fr,evo y fr with
  | .str a,.str b=>some (a.size+b.size≤9223372036854775807,.str (a++b),h)
  | _,_=>none
 | .ext x i=>fun E fr h=>match evo x fr with
  | .tup l=>(l[i]?).map fun c=>(True,c,h)
  | _=>none
 | .app t x y=>fun E fr h=>match evo x fr with
  | .vec _ _=>none
  | s=>match jfn h t s,jh1 h t (evo y fr)with
   | some (G1,L),some (G2,M)=>some (G1∧G2∧L.length+M.length≤1073741824,.slice h.length 0 t.esz (L.length+M.length) (L.length+M.length),js5 h s++[.seq t (L++M)])
   | _,_=>none
 | .cpy t x y=>fun E fr h=>match evo x fr with
  | .slice b i esz len _=>match hget h b,jh1 h t (evo y fr)with
   | .seq t' M,some (G,L)=>match ETy.cast? t t' L with
    | some L'=>some (G∧i+len≤M.length,.int .i64 (min L'.length len:Nat),hput h b (.seq t' (M.take i++L'.take (min L'.length len)++M.drop (i+min L'.length len))))
    | none=>none
   | _,_=>none
  | .zs | .nils=>match jh1 h t (evo y fr)with
   | some (G,L)=>some (G,.int .i64 0,h)
   | none=>none
  | _=>none
 | .len st x=>fun E fr h=>if jcb st (evo x fr)=true then (lenK (evo x fr)).map fun n=>(True,.int .i64 n,h) else none
 | .mm mx x y=>fun E fr h=>match evo x fr,evo y fr with
  | .int k a,.int k' b=>if k=k' then some (True,.int k (if mx then max a b else min a b),h) else none
  | _,_=>none
 | .rng x=>fun E fr h=>match evo x fr with
  | .str s=>some (True,.ptr h.length 0 0,h++[.iter s 0])
  | _=>none
 | .nxt x=>fun E fr h=>match evo x fr with
  | .ptr b 0 0=>match hget h b with
   | .iter s p=>some (True,if p<s.size then .tup [.bool true,.int .i64 p,.int .i32 (Utf8.decode s p).1] else .tup [.bool false],
     if p<s.size then hput h b (.iter s (p+(Utf8.decode s p).2)) else h)
   | _=>none
  | _=>none
 | .tas t ok zero x=>fun E fr h=>match evo x fr with
  | .iface t' c=>if t'=t then some (True,if ok then .tup [c,.bool true] else c,h) else if ok then some (True,.tup [zero,.bool false],h) else none
  | .niliface=>if ok then some (True,.tup [zero,.bool false],h) else none
  | _=>none
 | .call _ _ | .callv _ _ | .panic _=>fun E fr h=>none
theorem jrc (E:Nat→Option (List CV)) (l:LOp) (fr:Fr) (h:KH):js6 l E fr h=jac E l fr h:=by
 cases l<;>simp only[js6,jac,jcG,jdC,jmd,jpB,jfo,jka,jra,jme,jh2]
 all_goals rfl
def jpD (l:LOp):Fr→KH→Bool:=match l with
 | .load _ _ a=>fun fr h=>jlk h (evo a fr)
 | .store _ a v=>fun fr h=>(match evo a fr with
  | .ptr b i o=>jpv (hget h b) i o (evo v fr).cells.length
  | _=>false)
 | .ari op wr x y=>fun fr h=>(match evo x fr,evo y fr with
  | .int k a,.int _ b=>(match ariK op a b with
   | some (_,r)=>ariB op a b&&(wr || inB k r)
   | none=>(match bitK op k a b with
    | some (_,r)=>bitB op k a b&&(wr || inB k r)
    | none=>false))
  | _,_=>false)
 | .cmpN _ _ x=>fun fr h=>(match evo x fr with
  | .slice _ _ _ n _=>decide (0<n)
  | .vec _ L=>decide (0<L.length)
  | _=>true)
 | .un _ x=>fun fr h=>(match evo x fr with
  | .int k n=>inB k (-n)
  | _=>true)
 | .conv k wr x=>fun fr h=>(match evo x fr with
  | .int _ n=>wr || inB k n
  | _=>false)
 | .s2b x=>fun fr h=>(match evo x fr with
  | .str s=>decide (s.size≤1073741824)
  | _=>false)
 | .b2s x=>fun fr h=>jhf h (evo x fr)
 | .mksl _ _ l c=>fun fr h=>(match evo l fr,evo c fr with
  | .int _ n,.int _ m=>decide (0≤n)&&decide (n≤m)&&decide (m≤1073741824)
  | _,_=>false)
 | .sl _ esz x lo hi mx=>fun fr h=>slB esz (evo x fr) (lo.map (fun y=>evo y fr)) (hi.map (fun y=>evo y fr)) (mx.map (fun y=>evo y fr))
 | .ixS _ x i=>fun fr h=>(match evo x fr,evo i fr with
  | .slice _ _ _ len _,.int _ n=>decide (0≤n)&&decide (n<len)
  | .vec _ L,.int _ n=>decide (0≤n)&&decide (n<L.length)
  | _,_=>false)
 | .ixA len _ _ i=>fun fr h=>(match evo i fr with
  | .int _ n=>decide (0≤n)&&decide (n<len)
  | _=>false)
 | .ixV x i=>fun fr h=>(match evo x fr,evo i fr with
  | .str s,.int _ n=>decide (0≤n)&&decide (n<s.size)
  | _,_=>false)
 | .ixC len _ _ _ i=>fun fr h=>(match evo i fr with
  | .int _ n=>decide (0≤n)&&decide (n<len)
  | _=>false)
 | .cat x y=>fun fr h=>(match evo x fr,evo y fr with
  | .str a,.str b=>decide (a.size+b.size≤9223372036854775807)
  | _,_=>false)
 | .app t x y=>fun fr h=>jhf h (evo x fr)&&jhf h (evo y fr)&&(match jfn h t (evo x fr),jh1 h t (evo y fr)with
  | some (_,L),some (_,M)=>decide (L.length+M.length≤1073741824)
  | _,_=>false)
 | .cpy _ x y=>fun fr h=>jhf h (evo y fr)&&jhf h (evo x fr)
 | _=>fun fr h=>true
theorem jpE (l:LOp) (fr:Fr) (h:KH):jpD l fr h=jj8 l fr h:=by
 cases l<;>simp only[jpD,jj8,jcG,jdC,jm7,jpC,jfo,jka]
abbrev CE:=List CV→KH→Option (Res×KH)
def jt6 (op:BinOp) (a b:ByteArray):Option Bool :=
 match op with
 | .eql=>some (decide (a.data.toList=b.data.toList))
 | .neq=>some (!decide (a.data.toList=b.data.toList))
 | _=>none
def jkb (ge:FuncId→CE) (F:FuncId) (args:List CV) (h:KH):Option VOut :=
 match ge F args h with
 | some (r,h')=>if h.length≤h'.length then some (jnu r h') else none
 | none=>none
def jjf (E:Nat→Option (List CV)) (l:LOp) (fr:Fr) (h:KH):Option VOut :=
 cond (jpD l fr h) (match js6 l E fr h with
  | some (_,c,h')=>some (.val c h')
  | none=>none) none
def evOp (E:Nat→Option (List CV)) (ge:FuncId→CE) (l:LOp):Fr→KH→Option VOut :=
 match l with
 | .call F xs=>fun fr h=>jkb ge F (xs.map fun y=>evo y fr) h
 | .callv x xs=>fun fr h=>match evo x fr with
  | .fn F caps=>jkb ge F ((xs.map fun y=>evo y fr)++caps) h
  | .mfn F=>jkb ge F (.agg []::(xs.map fun y=>evo y fr)) h
  | _=>none
 | .panic x=>fun fr h=>match evo x fr with
  | .iface t c=>some (.pan (.iface t c) h)
  | _=>none
 | .cmp op x y=>fun fr h=>match evo x fr,evo y fr with
  | .str a,.str b=>(match jt6 op a b with
   | some r=>some (.val (.bool r) h)
   | none=>none)
  | _,_=>jjf E (.cmp op x y) fr h
 | l=>fun fr h=>jjf E l fr h
def GeOk (X:Cx) (ge:FuncId→CE):Prop:=∀F args h r h',ge F args h=some (r,h')→∃c G,jbY X.G F=some c∧c args h=some (G,r,h')∧G
theorem jhg {X:Cx}{ge:FuncId→CE}(hg:GeOk X ge){F:FuncId}{args:List CV}{h:KH}{o:VOut}(e:jkb ge F args h=some o):∃G,jdT X F args h=some (G,o)∧G:=by
 unfold jkb at e
 split at e
 ·rename_i r h' hr
  split at e
  ·rename_i hl
   cases e
   obtain⟨c,G,h1,h2,h3⟩:=hg _ _ _ _ _ hr
   exact⟨G∧h.length≤h'.length,by simp only[jdT,h1,h2],h3,hl⟩
  ·cases e
 ·cases e
theorem jh3 {X:Cx}{l:LOp}{fr:Fr}{h:KH}{o:VOut}(e:jjf X.E l fr h=some o) (hl:opV X l fr h=(match jac X.E l fr h with
  | some (G,c,h')=>some (G,.val c h')
  | none=>none)):∃G,opV X l fr h=some (G,o)∧G:=by
 unfold jjf at e
 rw[jpE,jrc]at e
 cases hb:jj8 l fr h with
 | false =>
  rw[hb]at e
  cases e
 | true =>
  rw[hb]at e
  simp only[cond]at e
  split at e
  ·rename_i G c h' hx
   cases e
   exact⟨G,by rw[hl,hx],jpx hx hb⟩
  ·cases e
theorem jfp {X:Cx}{ge:FuncId→CE}(hg:GeOk X ge){l:LOp}{fr:Fr}{h:KH}{o:VOut}(e:evOp X.E ge l fr h=some o):∃G,opV X l fr h=some (G,o)∧G:=by
 cases l
 case call =>
  simp only[evOp,jcG]at e
  exact jhg hg e
 case callv =>
  simp only[evOp,jcG]at e
  split at e
  ·rename_i hx
   simp only[opV,hx]
   exact jhg hg e
  ·rename_i hx
   simp only[opV,hx]
   exact jhg hg e
  ·cases e
 case panic =>
  simp only[evOp,jcG]at e
  split at e
  ·rename_i hx
   cases e
   exact⟨True,by simp only[opV,hx],trivial⟩
  ·cases e
 case cmp op x y =>
  simp only[evOp,jcG]at e
  split at e
  ·rename_i a b hx hy
   split at e
   ·rename_i r hr
    cases e
    refine⟨True,?_,trivial⟩
    simp only[opV,jac,hx,hy]
    have hq:decide (a.data.toList=b.data.toList)=(a.toList==b.toList):=by
     rw[toList_inj]
     exact decide_eq_decide.2 ⟨jq9,fun h=>by rw[h]⟩
    have:cmpS op a b=some r:=by
     unfold jt6 at hr
     unfold cmpS
     split at hr<;>cases hr<;>simp only[hq]
    rw[this]
    rfl
   ·cases e
  ·exact jh3 e rfl
 all_goals exact jh3 e rfl
mutual
def toO1:PS→PS
 | .n d neg x=>.o (some d) (.cmpN 3 neg x)
 | .o d op=>.o d op
 | .g c want L d x y=>.b c want (toOS L) d x y
 | .b c want L d x y=>.b c want (toOS L) d x y
def toOS:List PS→List PS
 | []=>[]
 | o::r=>toO1 o::toOS r
end
mutual
theorem jpF (gd:Option (Nat×Bool)):∀o:PS,jcu gd (toO1 o)=jcu gd o
 | .n _ _ _=>rfl
 | .o _ _=>rfl
 | .g c want L d x y=>by simp only[toO1,jcu,jeK]
 | .b c want L d x y=>by simp only[toO1,jcu,jeK]
theorem jeK (gd:Option (Nat×Bool)):∀L:List PS,jbF gd (toOS L)=jbF gd L
 | []=>rfl
 | o::r=>by simp only[toOS,jbF,jpF gd o,jeK gd r]
end
mutual
theorem jpG:∀o:PS,wr1 (toO1 o)=wr1 o
 | .n _ _ _=>rfl
 | .o _ _=>rfl
 | .g c want L d x y=>by simp only[toO1,wr1,jcZ]
 | .b c want L d x y=>by simp only[toO1,wr1,jcZ]
theorem jcZ:∀L:List PS,wrS (toOS L)=wrS L
 | []=>rfl
 | o::r=>by simp only[toOS,wrS,jpG o,jcZ r]
end
mutual
theorem js7:∀(o:PS) (W:List Nat),ok1 W o=true→ok1 W (toO1 o)=true
 | .n _ _ _,W,_=>rfl
 | .o _ _,W,h=>h
 | .g c want L d x y,W,h=>by
  simp only[ok1,toO1,jcZ,Bool.and_eq_true]at h ⊢
  exact⟨⟨⟨h.1.1.1,jhh L W h.1.1.2⟩,h.1.2⟩,h.2⟩
 | .b c want L d x y,W,h=>by
  simp only[ok1,toO1,jcZ,Bool.and_eq_true]at h ⊢
  exact⟨⟨⟨h.1.1.1,jhh L W h.1.1.2⟩,h.1.2⟩,h.2⟩
theorem jhh:∀(L:List PS) (W:List Nat),okS W L=true→okS W (toOS L)=true
 | [],W,_=>rfl
 | o::r,W,h=>by
  simp only[okS,toOS,jpG,Bool.and_eq_true]at h ⊢
  exact⟨js7 o W h.1,jhh r _ h.2⟩
end
mutual
theorem jrd:∀(o:PS),okT1 o=true→okT1 (toO1 o)=true
 | .n _ _ _,_=>rfl
 | .o _ _,h=>h
 | .g c want L d x y,h=>by
  simp only[okT1,toO1,jcZ,Bool.and_eq_true]at h ⊢
  exact⟨⟨⟨jhh L _ h.1.1.1,h.1.1.2⟩,h.1.2⟩,jf1 L h.2⟩
 | .b c want L d x y,h=>by
  simp only[okT1,toO1,jcZ,Bool.and_eq_true]at h ⊢
  exact⟨⟨⟨jhh L _ h.1.1.1,h.1.1.2⟩,h.1.2⟩,jf1 L h.2⟩
theorem jf1:∀(L:List PS),okT L=true→okT (toOS L)=true
 | [],_=>rfl
 | o::r,h=>by
  simp only[okT,toOS,Bool.and_eq_true]at h ⊢
  exact⟨jrd o h.1,jf1 r h.2⟩
end
theorem T.flat {V:Env}{Q:EX→St→Prop}{st:St}{ks:List Nat}{L:List PS}(t:T V (.stm ks (toOS L)) Q st):T V (.stm ks L) Q st:=.mk fun code hc=>t.run code (by
 cases code<;>simp only[chkC,Bool.and_eq_true]at hc ⊢<;>try (cases hc;done)
 rw[jeK]
 exact⟨⟨⟨hc.1.1.1,jf1 L hc.1.1.2⟩,hc.1.2⟩,hc.2⟩)
def jre (fr:Fr) (dst:Option Nat) (c:CV):Fr :=
 match dst with
 | some d=>setF fr d c
 | none=>fr
theorem jf2 (fr:Fr) (dst:Option Nat) (c:CV):jre fr dst c=putF fr dst c:=by cases dst<;>simp only[jre,putF,jfm]
mutual
def ev1 (E:Nat→Option (List CV)) (ge:FuncId→CE):PS→St→Option Out
 | .n d neg x,st=>match evOp E ge (.cmpN 3 neg x) st.fr st.h with
  | some (.val c h')=>some (.go ⟨setF st.fr d c,h'⟩)
  | some (.pan c h')=>some (.pan c h')
  | none=>none
 | .o d op,st=>match evOp E ge op st.fr st.h with
  | some (.val c h')=>some (.go ⟨jre st.fr d c,h'⟩)
  | some (.pan c h')=>some (.pan c h')
  | none=>none
 | .g c want L d x y,st=>match getF st.fr c with
  | .bool t=>if t=want then (match evS E ge L st with
   | some (.go s)=>some (.go ⟨setF s.fr d (evo (if want then x else y) s.fr),s.h⟩)
   | r=>r) else some (.go ⟨setF (st.fr.del (wrS L)) d (evo (if want then y else x) st.fr),st.h⟩)
  | _=>none
 | .b c want L d x y,st=>match getF st.fr c with
  | .bool t=>if t=want then (match evS E ge L st with
   | some (.go s)=>some (.go ⟨setF s.fr d (evo (if want then x else y) s.fr),s.h⟩)
   | r=>r) else some (.go ⟨setF (st.fr.del (wrS L)) d (evo (if want then y else x) st.fr),st.h⟩)
  | _=>none
def evS (E:Nat→Option (List CV)) (ge:FuncId→CE):List PS→St→Option Out
 | [],st=>some (.go st)
 | o::r,st=>match ev1 E ge o st with
  | some (.go s)=>evS E ge r s
  | r=>r
end
def outP (o:Out) (N:St→Prop) (K:CV→KH→Prop):Prop :=
 match o with
 | .go s=>N s
 | .pan c h=>K c h
mutual
theorem jrC {X:Cx}{ge:FuncId→CE}(hg:GeOk X ge):∀(o:PS) (st:St) (out:Out),ev1 X.E ge o st=some out→∀(N:St→Prop) (K:CV→KH→Prop),outP out N K→wp1 X (toO1 o) st N K
 | .n d neg x,st,out,e,N,K,q=>by
  simp only[ev1,jfm,jee,jcG,jf2]at e
  split at e
  ·rename_i hx
   cases e
   obtain⟨G,h1,h2⟩:=jfp hg hx
   simp only[toO1,wp1,h1,outK]
   exact⟨h2,q⟩
  ·rename_i hx
   cases e
   obtain⟨G,h1,h2⟩:=jfp hg hx
   simp only[toO1,wp1,h1,outK]
   exact⟨h2,q⟩
  ·cases e
 | .o d op,st,out,e,N,K,q=>by
  simp only[ev1,jfm,jee,jcG,jf2]at e
  split at e
  ·rename_i hx
   cases e
   obtain⟨G,h1,h2⟩:=jfp hg hx
   simp only[toO1,wp1,h1,outK]
   exact⟨h2,q⟩
  ·rename_i hx
   cases e
   obtain⟨G,h1,h2⟩:=jfp hg hx
   simp only[toO1,wp1,h1,outK]
   exact⟨h2,q⟩
  ·cases e
 | .g c want L d x y,st,out,e,N,K,q=>by
  simp only[ev1,jfm,jee,jcG,jf2]at e
  split at e
  ·rename_i t hx
   simp only[toO1,wp1,gsp,hx]
   refine⟨fun ht=>?_,fun ht=>?_⟩
   ·rw[if_pos ht]at e
    split at e
    ·rename_i s hs
     cases e
     exact jhi hg L st _ hs _ _ q
    ·rename_i hs
     refine jhi hg L st out e _ _ ?_
     cases out with
     | go s=>exact absurd e (hs s)
     | pan c h=>exact q
   ·rw[if_neg ht]at e
    cases e
    rw[jcZ]
    exact q
  ·cases e
 | .b c want L d x y,st,out,e,N,K,q=>by
  simp only[ev1,jfm,jee,jcG,jf2]at e
  split at e
  ·rename_i t hx
   simp only[toO1,wp1,gsp,hx]
   refine⟨fun ht=>?_,fun ht=>?_⟩
   ·rw[if_pos ht]at e
    split at e
    ·rename_i s hs
     cases e
     exact jhi hg L st _ hs _ _ q
    ·rename_i hs
     refine jhi hg L st out e _ _ ?_
     cases out with
     | go s=>exact absurd e (hs s)
     | pan c h=>exact q
   ·rw[if_neg ht]at e
    cases e
    rw[jcZ]
    exact q
  ·cases e
theorem jhi {X:Cx}{ge:FuncId→CE}(hg:GeOk X ge):∀(L:List PS) (st:St) (out:Out),evS X.E ge L st=some out→∀(N:St→Prop) (K:CV→KH→Prop),outP out N K→wpS X (toOS L) st N K
 | [],st,out,e,N,K,q=>by
  simp only[evS]at e
  cases e
  simp only[toOS,wpS]
  exact q
 | o::r,st,out,e,N,K,q=>by
  simp only[evS]at e
  simp only[toOS,wpS]
  split at e
  ·rename_i s hs
   exact jrC hg o st _ hs _ _ (jhi hg r s out e N K q)
  ·rename_i hs
   refine jrC hg o st out e _ _ ?_
   cases out with
   | go s=>exact absurd e (hs s)
   | pan c h=>exact q
end
def eqOn (h h':KH):List Nat→Bool
 | []=>true
 | b::l=>eqB (h'.get b) (h.get b)&&eqOn h h' l
theorem jpH (h h':KH):∀l,eqOn h h' l=true→onL l h h'
 | [],_=>trivial
 | b::l,e=>by
  simp only[eqOn,Bool.and_eq_true]at e
  exact⟨jrA _ _ e.1,jpH h h' l e.2⟩
def evR (E:Nat→Option (List CV)) (ge:FuncId→CE):RM→List RO→St→Option Out
 | _,[],st=>some (.go st)
 | n,o::r,st=>match jak o.gd st.fr with
  | some true=>(match evOp E ge o.op st.fr st.h with
   | some (.val c h')=>if (!o.pure || (eqH (h'.take n.1) (st.h.take n.1)&&eqOn st.h h' n.2))=true then evR E ge (if rdB o.op=true then rdM o.op st.fr st.h n else n) r ⟨putF st.fr o.dst c,h'⟩ else none
   | some (.pan c h')=>if o.last=true then some (.pan c h') else none
   | none=>none)
  | some false=>evR E ge (if rdB o.op=true then rdM o.op st.fr st.h n else n) r ⟨putF st.fr o.dst (.tup []),st.h⟩
  | none=>none
theorem jmf {X:Cx}{ge:FuncId→CE}(hg:GeOk X ge):∀(L:List RO) (n:RM) (st:St) (out:Out),evR X.E ge n L st=some out→∀(N:St→Prop) (K:CV→KH→Prop),outP out N K→wpR X n L st N K
 | [],n,st,out,e,N,K,q=>by
  simp only[evR]at e
  cases e
  exact q
 | o::r,n,st,out,e,N,K,q=>by
  simp only[evR]at e
  have take:jak o.gd st.fr=some true→outK (opV X o.op st.fr st.h) (fun c h'=>(o.pure=true→jgg n st.h h')∧wpR X (if rdB o.op=true then rdM o.op st.fr st.h n else n) r ⟨putF st.fr o.dst c,h'⟩ N K) (fun c h'=>o.last=true∧K c h'):=fun hgd=>by
   rw[hgd]at e
   simp only at e
   split at e
   ·rename_i hx
    obtain⟨G,h1,h2⟩:=jfp hg hx
    split at e
    ·rename_i hp
     rw[h1]
     refine⟨h2,fun hpu=>?_,jmf hg r _ _ out e N K q⟩
     rw[hpu]at hp
     simp only[Bool.not_true,Bool.false_or,Bool.and_eq_true]at hp
     exact⟨jrB _ _ hp.1,jpH _ _ _ hp.2⟩
    ·cases e
   ·rename_i hx
    obtain⟨G,h1,h2⟩:=jfp hg hx
    split at e
    ·rename_i hl
     cases e
     rw[h1]
     exact⟨h2,hl,q⟩
    ·cases e
   ·cases e
  have skip:jak o.gd st.fr=some false→wpR X (if rdB o.op=true then rdM o.op st.fr st.h n else n) r ⟨putF st.fr o.dst (.tup []),st.h⟩ N K:=fun hgd=>by
   rw[hgd]at e
   exact jmf hg r _ _ out e N K q
  unfold wpR
  cases hgd:o.gd with
  | none=>exact take (by rw[hgd];rfl)
  | some gb =>
   obtain⟨g,b⟩:=gb
   simp only
   unfold gspl
   rw[hgd]at take skip e
   cases hs:st.fr.get g with
   | bool t =>
    simp only
    refine⟨fun ht=>take (by simp only[jak,hs,if_pos ht]),fun ht=>skip (by simp only[jak,hs,if_neg ht])⟩
   | tup l =>
    cases l with
    | nil=>exact skip (by simp only[jak,hs])
    | cons x l=>simp[jak,hs]at e
   | _=>simp[jak,hs]at e
section
variable {α:Type}
def fNat (n:Nat) (k:Nat→α):α:=match n with
 | 0=>k 0
 | m+1=>k (m+1)
theorem jjg (n:Nat) (k:Nat→α):fNat n k=k n:=by cases n<;>rfl
def fInt (n:Int) (k:Int→α):α:=match n with
 | .ofNat m=>fNat m fun m=>k (.ofNat m)
 | .negSucc m=>fNat m fun m=>k (.negSucc m)
theorem jll (n:Int) (k:Int→α):fInt n k=k n:=by cases n<;>simp only[fInt,jjg]
def js8 (b:Bool) (k:Bool→α):α:=match b with
 | true=>k true
 | false=>k false
theorem jmg (n:Bool) (k:Bool→α):js8 n k=k n:=by cases n<;>rfl
def js9 (c:CD) (k:CD→α):α:=match c with
 | ⟨a,b,c,d,e,f⟩=>fInt a fun a=>fInt b fun b=>fInt c fun c=>fInt d fun d=>fInt e fun e=>fInt f fun f=>k ⟨a,b,c,d,e,f⟩
theorem jrf (n:CD) (k:CD→α):js9 n k=k n:=by cases n;simp only[js9,jll]
def jhy {β:Type}(f:β→(β→α)→α):List β→(List β→α)→α
 | [],k=>k []
 | x::l,k=>f x fun x=>jhy f l fun l=>k (x::l)
theorem jeL {β:Type}{f:β→(β→α)→α}(hf:∀x k,f x k=k x):∀(l:List β) (k:List β→α),jhy f l k=k l
 | [],k=>rfl
 | x::l,k=>by simp only[jhy,hf,jeL hf l]
def fT:(t:ETy)→t.T→(t.T→α)→α
 | .int _,a,k=>fInt a k
 | .bool,a,k=>js8 a k
 | .str,a,k=>k a
 | .cell,a,k=>js9 a k
 | .item,a,k=>k a
 | .rows t,a,k=>jhy (fT t) a k
 | .pair s t,a,k=>fT s a.1 fun x=>fT t a.2 fun y=>k (x,y)
theorem jpI:∀(t:ETy) (a:t.T) (k:t.T→α),fT t a k=k a
 | .int _,a,k=>jll a k
 | .bool,a,k=>jmg a k
 | .str,a,k=>rfl
 | .cell,a,k=>jrf a k
 | .item,a,k=>rfl
 | .rows t,a,k=>jeL (jpI t) a k
 | .pair s t,a,k=>by simp only[fT,jpI s,jpI t]
mutual
def fV:CV→(CV→α)→α
 | .int q n,k=>fInt n fun n=>k (.int q n)
 | .bool b,k=>js8 b fun b=>k (.bool b)
 | .ptr b i o,k=>fNat b fun b=>fNat i fun i=>fNat o fun o=>k (.ptr b i o)
 | .slice b i e n c,k=>fNat b fun b=>fNat i fun i=>fNat e fun e=>fNat n fun n=>fNat c fun c=>k (.slice b i e n c)
 | .vec t L,k=>jhy (fT t) L fun L=>k (.vec t L)
 | .fn F l,k=>fVL l fun l=>k (.fn F l)
 | .iface t c,k=>fV c fun c=>k (.iface t c)
 | .agg l,k=>fVL l fun l=>k (.agg l)
 | .tup l,k=>fVL l fun l=>k (.tup l)
 | c,k=>k c
def fVL:List CV→(List CV→α)→α
 | [],k=>k []
 | c::l,k=>fV c fun c=>fVL l fun l=>k (c::l)
end
mutual
theorem jta:∀(c:CV) (k:CV→α),fV c k=k c
 | .int _ _,k=>by simp only[fV,jll]
 | .bool _,k=>by simp only[fV,jmg]
 | .ptr _ _ _,k=>by simp only[fV,jjg]
 | .slice _ _ _ _ _,k=>by simp only[fV,jjg]
 | .vec t L,k=>by simp only[fV,jeL (jpI t)]
 | .fn _ l,k=>by simp only[fV,jkc l]
 | .iface _ c,k=>by simp only[fV,jta c]
 | .agg l,k=>by simp only[fV,jkc l]
 | .tup l,k=>by simp only[fV,jkc l]
 | .undef,k=>by simp only[fV]
 | .str _,k=>by simp only[fV]
 | .vp _ _ _,k=>by simp only[fV]
 | .gptr _ _,k=>by simp only[fV]
 | .nilptr,k=>by simp only[fV]
 | .zs,k=>by simp only[fV]
 | .nils,k=>by simp only[fV]
 | .nilfn,k=>by simp only[fV]
 | .mfn _,k=>by simp only[fV]
 | .niliface,k=>by simp only[fV]
theorem jkc:∀(l:List CV) (k:List CV→α),fVL l k=k l
 | [],k=>by simp only[fVL]
 | c::l,k=>by simp only[fVL,jta c,jkc l]
end
def fB (b:KB) (k:KB→α):α:=match b with
 | .dead=>k .dead
 | .box l=>fVL l fun l=>k (.box l)
 | .seq t L=>jhy (fT t) L fun L=>k (.seq t L)
 | .iter s p=>fNat p fun p=>k (.iter s p)
theorem juq (b:KB) (k:KB→α):fB b k=k b:=by
 cases b with
 | dead=>rfl
 | box l=>simp only[fB,jkc]
 | seq t L=>simp only[fB,jeL (jpI t)]
 | iter s p=>simp only[fB,jjg]
end
def iter (f:St→Option (EX×St)):Nat→St→Option (EX×St)
 | 0,_=>none
 | k+1,s=>match f s with
  | some (.norm,s')=>iter f k s'
  | r=>r
def evC (E:Nat→Option (List CV)) (ge:FuncId→CE) (K:Nat):LC→St→Option (EX×St)
 | .skip,s=>some (.norm,s)
 | .stm ks L,s=>match evS E ge L s with
  | some (.go s)=>some (.norm,⟨s.fr.sel ks,s.h⟩)
  | some (.pan c h)=>some (.pan c,⟨[],h⟩)
  | none=>none
 | .reg ks L,s=>match evR E ge (0,[]) L s with
  | some (.go s)=>some (.norm,⟨s.fr.sel ks,s.h⟩)
  | some (.pan c h)=>some (.pan c,⟨[],h⟩)
  | none=>none
 | .seq a b,s=>match evC E ge K a s with
  | some (.norm,s')=>evC E ge K b s'
  | r=>r
 | .cond c a b,s=>match c.ev s.fr with
  | .bool true=>evC E ge K a s
  | .bool false=>evC E ge K b s
  | _=>none
 | .block id a,s=>match evC E ge K a s with
  | some (.exit j,s')=>if j=id then some (.norm,s') else some (.exit j,s')
  | r=>r
 | .loop a,s=>iter (evC E ge K a) K s
 | .exit id,s=>some (.exit id,s)
 | .ret,s=>some (.ret,s)
 | .opq,_=>none
def kO (E:Nat→Option (List CV)) (ge:FuncId→CE) (d:Option Nat) (op:LOp):St→Option Out:=fun st=>match evOp E ge op st.fr st.h with
 | some (.val c h')=>some (.go ⟨jre st.fr d c,h'⟩)
 | some (.pan c h')=>some (.pan c h')
 | none=>none
def kB (c:Nat) (want:Bool) (W:List Nat) (d:Nat) (x y:Opd) (ih:St→Option Out):St→Option Out:=fun st=>match getF st.fr c with
 | .bool t=>if t=want then (match ih st with
  | some (.go s)=>some (.go ⟨setF s.fr d (evo (if want then x else y) s.fr),s.h⟩)
  | r=>r) else some (.go ⟨setF (st.fr.del W) d (evo (if want then y else x) st.fr),st.h⟩)
 | _=>none
def kN (E:Nat→Option (List CV)) (ge:FuncId→CE) (d:Nat) (neg:Bool) (x:Opd):St→Option Out:=fun st=>match evOp E ge (.cmpN 3 neg x) st.fr st.h with
 | some (.val c h')=>some (.go ⟨setF st.fr d c,h'⟩)
 | some (.pan c h')=>some (.pan c h')
 | none=>none
def kC (a b:St→Option Out):St→Option Out:=fun st=>match a st with
 | some (.go s)=>b s
 | r=>r
def qvS (E:Nat→Option (List CV)) (ge:FuncId→CE) (L:List PS):St→Option Out :=
 PS.rec_1 (motive_1:=fun _=>St→Option Out) (motive_2:=fun _=>St→Option Out) (fun d op=>kO E ge d op) (fun c want L d x y ih=>kB c want (wrS L) d x y ih) (fun d neg x=>kN E ge d neg x) (fun c want L d x y ih=>kB c want (wrS L) d x y ih) (fun st=>some (.go st)) (fun _ _ a b=>kC a b) L
def qv1 (E:Nat→Option (List CV)) (ge:FuncId→CE) (o:PS):St→Option Out :=
 PS.rec (motive_1:=fun _=>St→Option Out) (motive_2:=fun _=>St→Option Out) (fun d op=>kO E ge d op) (fun c want L d x y ih=>kB c want (wrS L) d x y ih) (fun d neg x=>kN E ge d neg x) (fun c want L d x y ih=>kB c want (wrS L) d x y ih) (fun st=>some (.go st)) (fun _ _ a b=>kC a b) o
mutual
theorem jt7 (E:Nat→Option (List CV)) (ge:FuncId→CE):∀(o:PS) (st:St),qv1 E ge o st=ev1 E ge o st
 | .o d op,st=>by simp only[ev1];rfl
 | .n d neg x,st=>by simp only[ev1];rfl
 | .g c want L d x y,st=>by
  have h:qvS E ge L=evS E ge L:=funext fun s=>jmh E ge L s
  show kB c want (wrS L) d x y (qvS E ge L) st=_
  rw[h]
  simp only[ev1,kB]
 | .b c want L d x y,st=>by
  have h:qvS E ge L=evS E ge L:=funext fun s=>jmh E ge L s
  show kB c want (wrS L) d x y (qvS E ge L) st=_
  rw[h]
  simp only[ev1,kB]
theorem jmh (E:Nat→Option (List CV)) (ge:FuncId→CE):∀(L:List PS) (st:St),qvS E ge L st=evS E ge L st
 | [],st=>by simp only[evS];rfl
 | o::r,st=>by
  have h1:qv1 E ge o=ev1 E ge o:=funext fun s=>jt7 E ge o s
  have h2:qvS E ge r=evS E ge r:=funext fun s=>jmh E ge r s
  show kC (qv1 E ge o) (qvS E ge r) st=_
  rw[h1,h2]
  simp only[evS,kC]
end
def selF (fr:Fr) (ks:List Nat):Fr:=List.rec (motive:=fun _=>Fr) [] (fun k _ ih=>(k,getF fr k)::ih) ks
theorem jlm (fr:Fr):∀ks:List Nat,selF fr ks=fr.sel ks
 | []=>rfl
 | k::ks=>by
  have:=jlm fr ks
  show (k,getF fr k)::selF fr ks=_
  rw[this,jee]
  rfl
def kOut (ks:List Nat):Option Out→Option (EX×St)
 | some (.go s)=>some (.norm,⟨selF s.fr ks,s.h⟩)
 | some (.pan c h)=>some (.pan c,⟨[],h⟩)
 | none=>none
def kSeq (a b:St→Option (EX×St)):St→Option (EX×St):=fun s=>match a s with
 | some (.norm,s')=>b s'
 | r=>r
def jtb (c:Opd) (a b:St→Option (EX×St)):St→Option (EX×St):=fun s=>match evo c s.fr with
 | .bool true=>a s
 | .bool false=>b s
 | _=>none
def kBlk (id:Nat) (a:St→Option (EX×St)):St→Option (EX×St):=fun s=>match a s with
 | some (.exit j,s')=>if j=id then some (.norm,s') else some (.exit j,s')
 | r=>r
def qvC (E:Nat→Option (List CV)) (ge:FuncId→CE) (K:Nat) (c:LC):St→Option (EX×St) :=
 LC.rec (motive:=fun _=>St→Option (EX×St)) (fun s=>some (.norm,s)) (fun ks L s=>kOut ks (qvS E ge L s)) (fun ks L s=>kOut ks (evR E ge (0,[]) L s)) (fun _ _ a b=>kSeq a b) (fun c _ _ a b=>jtb c a b) (fun id _ a=>kBlk id a) (fun _ a=>iter a K) (fun id s=>some (.exit id,s)) (fun s=>some (.ret,s)) (fun _=>none) c
theorem jhj (E:Nat→Option (List CV)) (ge:FuncId→CE) (K:Nat):∀(c:LC),qvC E ge K c=evC E ge K c
 | .skip=>rfl
 | .exit _=>rfl
 | .ret=>rfl
 | .opq=>rfl
 | .stm ks L=>funext fun s=>by
  show kOut ks (qvS E ge L s)=_
  rw[jmh]
  simp only[evC,kOut,jlm]
 | .reg ks L=>funext fun s=>by
  show kOut ks (evR E ge (0,[]) L s)=_
  simp only[evC,kOut,jlm]
 | .seq a b=>funext fun s=>by
  show kSeq (qvC E ge K a) (qvC E ge K b) s=_
  rw[jhj E ge K a,jhj E ge K b]
  rfl
 | .cond c a b=>funext fun s=>by
  show jtb c (qvC E ge K a) (qvC E ge K b) s=_
  rw[jhj E ge K a,jhj E ge K b]
  simp only[evC,jtb,jcG]
 | .block id a=>funext fun s=>by
  show kBlk id (qvC E ge K a) s=_
  rw[jhj E ge K a]
  rfl
 | .loop a=>funext fun s=>by
  show iter (qvC E ge K a) K s=_
  rw[jhj E ge K a]
  rfl
def TR (V:Env) (c:LC) (Q:EX→St→Prop):Nat→St→Prop
 | 0,_=>False
 | n+1,st=>T V c (seqQ (TR V c Q n) Q) st
theorem T.unroll {V:Env}{c:LC}{Q:EX→St→Prop}(n:Nat){st:St}(t:TR V c Q n st):T V (.loop c) Q st:=.mk fun code hk z0 f0 h0 w0 z f a w h1 h2 h3 h4 h5=>by
 cases code<;>simp only[chkC]at hk<;>try (cases hk;done)
 rename_i body
 refine wp_loop_rounds n ?_
 induction n generalizing st z f a w with
 | zero=>exact t.elim
 | succ n ih =>
  rw[rounds_succ]
  refine wp_mono (t.run _ hk z0 f0 h0 w0 z f a w h1 h2 h3 h4 h5) (fun e a w p=>?_)
  cases p with
  | norm hE hi hf q=>exact ih q _ _ _ _ hE hi hf
  | exit id hE hi hf q=>exact .exit id hE hi hf q
  | ret hE hi hf q=>exact .ret hE hi hf q
  | pan hE hv hd hs hf hds q=>exact .pan hE hv hd hs hf hds q
def eqP (p:EX×St):EX→St→Prop:=fun e s=>(e,s)=p
theorem jdn {V:Env}{ge:FuncId→CE}(hg:GeOk V.X ge) (K:Nat):∀(c:LC) (st:St) (p:EX×St),evC V.X.E ge K c st=some p→T V c (eqP p) st
 | .skip,st,p,e=>by
  cases e
  exact T.skip rfl
 | .exit _,st,p,e=>by
  cases e
  exact T.exit rfl
 | .ret,st,p,e=>by
  cases e
  exact T.ret rfl
 | .opq,st,p,e=>by cases e
 | .stm ks L,st,p,e=>by
  refine T.flat (T.stm ?_)
  simp only[evC]at e
  split at e
  ·rename_i s hs
   cases e
   exact jhi hg L st _ hs _ _ rfl
  ·rename_i c h hs
   cases e
   exact jhi hg L st _ hs _ _ rfl
  ·cases e
 | .reg ks L,st,p,e=>by
  refine T.reg ?_
  simp only[evC]at e
  split at e
  ·rename_i s hs
   cases e
   exact jmf hg L _ st _ hs _ _ rfl
  ·rename_i c h hs
   cases e
   exact jmf hg L _ st _ hs _ _ rfl
  ·cases e
 | .seq a b,st,p,e=>by
  simp only[evC]at e
  refine T.seq ?_
  split at e
  ·rename_i s' hs
   refine (jdn hg K a st _ hs).mono (fun x s q=>?_)
   cases q
   exact jdn hg K b _ p e
  ·rename_i hs
   refine (jdn hg K a st p e).mono (fun x s q=>?_)
   cases q
   cases x with
   | norm=>exact absurd e (hs s)
   | _=>exact rfl
 | .cond c a b,st,p,e=>by
  simp only[evC]at e
  refine T.cond ?_
  split at e
  ·rename_i hc
   simp only[hc,wpB]
   exact⟨fun _=>jdn hg K a st p e,fun h=>by cases h⟩
  ·rename_i hc
   simp only[hc,wpB]
   exact⟨fun h=>(by cases h),fun _=>jdn hg K b st p e⟩
  ·cases e
 | .block id a,st,p,e=>by
  simp only[evC]at e
  refine T.block ?_
  split at e
  ·rename_i j s' hs
   refine (jdn hg K a st _ hs).mono (fun x s q=>?_)
   cases q
   simp only[blkQ]
   split at e<;>cases e<;>rename_i hj
   ·rw[if_pos hj]
    rfl
   ·rw[if_neg hj]
    rfl
  ·rename_i hs
   refine (jdn hg K a st p e).mono (fun x s q=>?_)
   cases q
   cases x with
   | exit j=>exact absurd e (hs j s)
   | _=>exact rfl
 | .loop a,st,p,e=>by
  simp only[evC]at e
  refine T.unroll K ?_
  have key:∀(n:Nat) (st:St),iter (evC V.X.E ge K a) n st=some p→TR V a (eqP p) n st:=fun n=>by
   induction n with
   | zero=>exact fun st h=>by cases h
   | succ n ih =>
    intro st h
    simp only[iter]at h
    simp only[TR]
    split at h
    ·rename_i s' hs
     refine (jdn hg K a st _ hs).mono (fun x s q=>?_)
     cases q
     exact ih _ h
    ·rename_i hs
     refine (jdn hg K a st p h).mono (fun x s q=>?_)
     cases q
     cases x with
     | norm=>exact absurd h (hs s)
     | _=>exact rfl
  exact key K st e
def jt8 (E:Nat→Option (List CV)) (h:KH) (fr:Fr):RV→Option CV
 | .t n=>some (fr.get n)
 | .c a agg n=>if jh0 h (fr.get a)=true then (match jbL E h (fr.get a)with
  | some (_,r)=>jcI agg n r
  | none=>none) else none
def retB (E:Nat→Option (List CV)) (h:KH) (fr:Fr):List RV→Option (List CV)
 | []=>some []
 | x::l=>match jt8 E h fr x,retB E h fr l with
  | some c,some l'=>some (c::l')
  | _,_=>none
theorem jpJ {E:Nat→Option (List CV)}{h:KH}{fr:Fr}:∀{ts:List RV}{l:List CV},retB E h fr ts=some l→∃G,jdb E h fr ts=some (G,l)∧G
 | [],l,e=>by
  cases e
  exact⟨True,rfl,trivial⟩
 | x::ts,l,e=>by
  simp only[retB]at e
  split at e
  ·rename_i c l' h1 h2
   cases e
   obtain⟨G2,q1,q2⟩:=jpJ h2
   obtain⟨G1,q3,q4⟩:∃G,jgr E h fr x=some (G,c)∧G:=by
    cases x with
    | t n =>
     cases h1
     exact⟨True,rfl,trivial⟩
    | c a agg n =>
     simp only[jt8]at h1
     split at h1
     ·rename_i hb
      split at h1
      ·rename_i hr
       exact⟨_,by simp only[jgr,hr,h1],jj7 hr hb⟩
      ·cases h1
     ·cases h1
   exact⟨G1∧G2,by simp only[jdb,q3,q1],q4,q2⟩
  ·cases e
structure FRow where
 F:FuncId
 lc:LC
 ts:List RV
 nt:NT
def rowOf?:List FRow→FuncId→Option FRow
 | [],_=>none
 | r::l,F=>if F=r.F then some r else rowOf? l F
def jdN:List (FuncId×CE)→FuncId→Option CE
 | [],_=>none
 | (k,c)::l,F=>if F=k then some c else jdN l F
def cutF (f:LMap) (n:Nat):LMap:=fun i=>if i<n then f i else none
theorem jkd {n:Nat}:∀{l m:List Nat},jbv n (l++m)=true→jbv n l=true∧jbv n m=true
 | [],m,h=>⟨rfl,h⟩
 | b::l,m,h=>by
  simp only[List.cons_append,jbv,Bool.and_eq_true]at h
  obtain⟨h1,h2⟩:=jkd h.2
  exact⟨by simp only[jbv,Bool.and_eq_true];exact⟨h.1,h1⟩,h2⟩
theorem jdD {n:Nat}:∀{l:List CV},jbv n (jde l)=true→∀(i:Nat) (c:CV),l[i]?=some c→jbv n (jb1 c)=true
 | [],_,i,c,e=>by simp at e
 | x::l,h,i,c,e=>by
  obtain⟨h1,h2⟩:=jkd (l:=jb1 x) h
  cases i with
  | zero =>
   cases e
   exact h1
  | succ i=>exact jdD h2 i c (by simpa using e)
theorem VRel.cut {z:ZMap}{f:LMap}{n:Nat}{c:CV}{v:Value}(h:VRel z f c v):jbv n (jb1 c)=true→VRel z (cutF f n) c v:=by
 induction h with
 | undef v=>exact fun _=>.undef v
 | int k n=>exact fun _=>.int k n
 | bool b=>exact fun _=>.bool b
 | str s=>exact fun _=>.str s
 | ptr b i o l h =>
  intro hr
  simp only[jb1,jbv,Bool.and_true,decide_eq_true_eq]at hr
  exact .ptr b i o l (by unfold cutF;rw[if_pos hr];exact h)
 | vp t x o B base rc T fr g hz hc hr ih=>exact fun _=>.vp t x o B base rc T fr g hz hc (fun k c hk=>(hr k c hk).enc_any (.inl fun _ _ e=>e) hk)
 | gptr g o=>exact fun _=>.gptr g o
 | nilptr=>exact fun _=>.nilptr
 | slice b i esz len cap cap' l h he hc hs =>
  intro hr
  simp only[jb1,jbv,Bool.and_true,decide_eq_true_eq]at hr
  exact .slice b i esz len cap cap' l (by unfold cutF;rw[if_pos hr];exact h) he hc hs
 | slice0 b i esz A=>exact fun _=>.slice0 b i esz A
 | vec t L B o cap' rc T fr g hz hl hc hr ih=>exact fun _=>.vec t L B o cap' rc T fr g hz hl hc (fun j x hx k c hk=>(hr j x hx k c hk).enc_any (.inl fun _ _ e=>e) hk)
 | vec0 t A cap'=>exact fun _=>.vec0 t A cap'
 | zs A=>exact fun _=>.zs A
 | nils=>exact fun _=>.nils
 | fn F caps cs hs hr ih=>exact fun h=>.fn F caps cs hs (fun i c v h1 h2=>ih i c v h1 h2 (jdD h i c h1))
 | nilfn=>exact fun _=>.nilfn
 | mfn F=>exact fun _=>.mfn F
 | iface t c v h ih=>exact fun hr=>.iface t c v (ih hr)
 | niliface=>exact fun _=>.niliface
 | agg l cs hs hr ih=>exact fun h=>.agg l cs hs (fun i c v h1 h2=>ih i c v h1 h2 (jdD h i c h1))
 | tup l cs hs hr ih=>exact fun h=>.tup l cs hs (fun i c v h1 h2=>ih i c v h1 h2 (jdD h i c h1))
def wfH (n:Nat):KH→Bool
 | []=>true
 | b::h=>jbv n (jkx b)&&wfH n h
theorem jrD {n:Nat}:∀{h:KH},wfH n h=true→∀i,jbv n (jkx (h.get i))=true
 | [],_,i=>by cases i<;>rfl
 | b::h,hw,0=>by
  simp only[wfH,Bool.and_eq_true]at hw
  exact hw.1
 | b::h,hw,i+1=>by
  simp only[wfH,Bool.and_eq_true]at hw
  exact jrD hw.2 i
theorem CellsAt.cut {z:ZMap}{f:LMap}{n:Nat}{w:World}{l:Loc}{cs:List CV}(hr:∀(k:Nat) (c:CV) (v:Value),cs[k]?=some c→VRel z f c v→VRel z (cutF f n) c v) (h:CellsAt z f w l cs):CellsAt z (cutF f n) w l cs:=by
 obtain⟨rc,T,fr,h1,h2,h3,h4,h5⟩:=h
 exact⟨rc,T,fr,h1,h2,h3,h4,fun k c hk=>let ⟨v,e1,e2⟩:=h5 k c hk;⟨v,e1,hr k c v hk e2⟩⟩
theorem Desc.cut {z:ZMap}{f:LMap}{h:KH}{w:World}(d:Desc z f h w) (hw:wfH h.length h=true):Desc z (cutF f h.length) h w:=by
 have cutSome:∀{i:Nat}{l:Loc},cutF f h.length i=some l→f i=some l:=fun {i l} e=>by
  unfold cutF at e
  split at e
  ·exact e
  ·cases e
 refine⟨fun i=>?_,fun i j li lj ei ej=>d.apart i j li lj (cutSome ei) (cutSome ej),fun i l e hl=>d.off i l (cutSome e) hl,d.stays⟩
 have hb:=d.blk i
 have hwi:=jrD hw i
 by_cases hi:i<h.length
 ·have e:cutF f h.length i=f i:=if_pos hi
  rw[e]
  cases el:f i with
  | none =>
   rw[el]at hb
   exact hb.none_any
  | some l =>
   rw[el]at hb
   generalize h.get i=k at hb hwi
   cases k with
   | dead=>exact trivial
   | box cs=>exact CellsAt.cut (fun k c v hk hv=>hv.cut (jdD hwi k c hk)) hb
   | seq t L =>
    refine⟨hb.1,CellsAt.cut (fun k c v hk hv=>?_) hb.2⟩
    obtain⟨j,k',x,_,_,_,hc⟩:=jaX t L k c hk
    exact hv.enc_any (.inl fun _ _ e=>e) hc
   | iter s p=>exact hb
 ·rw[KH.get_ge h i (by omega)]
  cases cutF f h.length i<;>trivial
theorem TF.x {P:Program}{E:Nat→Option (List CV)}{F:FuncId}{args:List CV}{h:KH}{r:Res}{h':KH}(t:TF P E F args h r h') (ha:jbv h.length (jde args)=true) (hw:wfH h.length h=true):TFx P E F args h r h':=fun z f w vs hsz hrel hE d hfree=>by
 refine (t z (cutF f h.length) w vs hsz (fun i c v h1 h2=>(hrel i c v h1 h2).cut (jdD ha i c h1)) hE (d.cut hw) (fun i hi=>if_neg (by omega))).mono ?_
 rintro e w' ⟨z',f',he,hd,hs,hf⟩
 have hlen:=hs.len
 have lt:∀{i l},f' i=some l→i<h'.length:=fun {i l} e=>by
  rcases Nat.lt_or_ge i h'.length with k|k
  ·exact k
  ·rw[hf i k]at e
   cases e
 let g:LMap:=fun i=>if i<h'.length then f' i else f i
 have ext:Ext z' f' z' g:=⟨fun _ _ e=>e,fun b l e=>(if_pos (lt e)).trans e⟩
 have mine:∀B,Mine (cutF f h.length) h B↔Mine f h B:=fun B=>by
  constructor
  ·rintro⟨j,l,e,hl,rfl⟩
   refine⟨j,l,?_,hl,rfl⟩
   unfold cutF at e
   rw[if_pos (KH.lt_of_live hl)]at e
   exact e
  ·rintro⟨j,l,e,hl,rfl⟩
   refine⟨j,l,?_,hl,rfl⟩
   unfold cutF
   rw[if_pos (KH.lt_of_live hl)]
   exact e
 have live:∀{i},(h'.get i).live→g i=f' i:=fun {i} hl=>if_pos (KH.lt_of_live hl)
 refine⟨z',g,?_,⟨fun i=>?_,fun i j li lj ei ej hi hj hne=>?_,fun i l e hl=>?_,hd.stays⟩,⟨hs.keep.mono (fun B e=>(mine B).1 e),hs.len,fun i hi=>?_,hs.liv,fun i l hi e hl=>?_,hs.zold,fun B o e=>?_⟩⟩
 ·unfold EndR at he ⊢
  split at he
  ·exact he.mono ext
  ·exact he.mono ext
  ·exact he.elim
 ·have hb:=hd.blk i
  by_cases hi:i<h'.length
  ·have e:g i=f' i:=if_pos hi
   rw[e]
   cases el:f' i with
   | none =>
    rw[el]at hb
    exact hb.none_any
   | some l =>
    rw[el]at hb
    exact hb.mono ext rfl
  ·rw[KH.get_ge h' i (by omega)]
   cases g i<;>trivial
 ·rw[live hi]at ei
  rw[live hj]at ej
  exact hd.apart i j li lj ei ej hi hj hne
 ·rw[live hl]at e
  exact hd.off i l e hl
 ·show (if i<h'.length then f' i else f i)=f i
  by_cases hi2:i<h'.length
  ·rw[if_pos hi2]
   have:=hs.old i (by omega)
   rw[this]
   exact if_pos (by omega)
  ·rw[if_neg hi2]
 ·rw[live hl]at e
  rcases hs.new i l hi e hl with q|q
  ·exact .inl q
  ·exact .inr ((mine _).1 q)
 ·rcases hs.znew B o e with q|q|q
  ·exact .inl q
  ·exact .inr (.inl q)
  ·exact .inr (.inr ((mine _).1 q))
theorem TF.raw {V:Env}{F:FuncId}{lc:LC}{ts:List RV}{args:List CV}{h:KH}{r:Res}{h':KH}(hck:jag V.P V.X.eqs F lc ts V.nt=true) (hds:V.ds=DS.no) (hn0:h.length=V.n0) (t:T V lc (fun e s=>match e with
  | .norm=>s.h=h'∧∃c,r=.ret c∧retP (jdb V.X.E s.h s.fr ts) (fun c0=>c0=c)
  | .ret=>s.h=h'∧∃c,r=.ret c∧retP (jdb V.X.E s.h s.fr ts) (fun c0=>c0=c)
  | .pan c=>s.h=h'∧r=.pan c
  | .exit _=>False) ⟨jbf 0 args,h⟩):TF V.P V.X.E F args h r h':=fun z f w vs hsz hrel hE hd hf=>by
 unfold jag at hck
 split at hck
 ·rename_i fn hfn
  split at hck
  ·rename_i code hb
   simp only[Bool.and_eq_true,beq_iff_eq]at hck
   obtain⟨⟨⟨hck,hnt,hlo⟩,hres⟩,_⟩:=hck
   refine calls_of_wp hfn hb ?_
   refine wp_mono (t.run code hck z f h w z f ⟨vs++Array.replicate (fn.ntmps-vs.size) undef,[]⟩ w hn0 hf hE ⟨hd,fun n=>?_,Stp.refl _ _ _ _,?_,by rw[hds];rfl,fun k hk=>absurd hk (by omega)⟩ hf) (fun e a w' p=>?_)
   ·rw[jb0]
    simp only[Nat.zero_le,if_true,Nat.sub_zero,List.getD_eq_getElem?_getD,Array.getD_eq_getD_getElem?]
    cases hc:args[n]? with
    | none=>exact .undef _
    | some c =>
     have hlt:n<vs.size:=by
      rw[hsz]
      exact (List.getElem?_eq_some_iff.1 hc).1
     rw[Array.getElem?_append_left hlt,Array.getElem?_eq_getElem hlt]
     exact hrel n c _ hc (Array.getElem?_eq_getElem hlt)
   ·simp[hnt]
    omega
   ·have nod:∀{z1 f1 s a w1},Inv z f h w V.nt V.ds z1 f1 s a w1→a.defers=[]:=fun hi=>hi.nil.1.trans (by rw[hds];rfl)
    have fin:∀{z1 f1 s a w1},EnvOk V.X.E z1→Inv z f h w V.nt V.ds z1 f1 s a w1→Free f1 s.h→(s.h=h'∧∃c,r=.ret c∧retP (jdb V.X.E s.h s.fr ts) (fun c0=>c0=c))→a.defers=[]∧∃v,(results fn a.tmps).run V.P w1=.ok v w1∧∃z2 f2,EndR z2 f2 r (.returned v)∧Desc z2 f2 h' w1∧Stp z f h w z2 f2 h' w1∧Free f2 h':=fun hE1 hi hf1 q=>by
     obtain⟨rfl,c,rfl,q⟩:=q
     obtain⟨v,c0,e1,e2,rfl⟩:=jdZ hi.d hE1 hi.fr hres q
     exact⟨nod hi,v,e1,_,_,e2,hi.d,hi.stp,hf1⟩
    cases p with
    | norm hE1 hi hf1 q=>exact fin hE1 hi hf1 q
    | ret hE1 hi hf1 q=>exact fin hE1 hi hf1 q
    | exit id hE1 hi hf1 q=>exact q.elim
    | pan hE1 hv1 hd1 hs1 hf1 hdd q =>
     obtain⟨rfl,rfl⟩:=q
     exact⟨hdd.1.trans (by rw[hds];rfl),_,_,hv1,hd1,hs1,hf1⟩
  ·cases hck
 ·cases hck
mutual
def frzV (h:KH) (n:Nat):CV→CV
 | .ptr b i o=>if b<n then .ptr b i o else .undef
 | .slice b i e m c=>if b<n then .slice b i e m c else (match h.get b with
  | .seq t M=>if i+m≤M.length∧m≤c then .vec t ((M.drop i).take m) else .undef
  | _=>.undef)
 | .fn F l=>.fn F (frzL h n l)
 | .iface t c=>.iface t (frzV h n c)
 | .agg l=>.agg (frzL h n l)
 | .tup l=>.tup (frzL h n l)
 | c=>c
def frzL (h:KH) (n:Nat):List CV→List CV
 | []=>[]
 | c::l=>frzV h n c::frzL h n l
end
def frzB (h:KH) (n:Nat):KB→KB
 | .box l=>.box (frzL h n l)
 | k=>k
def frzH (h:KH) (n:Nat):KH:=(h.take n).map (frzB h n)
theorem jmi {n b:Nat}(h:b<n):(List.range n)[b]?=some b:=by rw[List.getElem?_range h]
theorem jt9 {n m b:Nat}(h1:¬b<n) (h2:b<m):(List.range' n (m-n)).contains b=true:=by
 simp only[List.contains_eq_mem,List.mem_range'_1,decide_eq_true_eq]
 omega
mutual
theorem jjh (h:KH) (n:Nat):∀c:CV,crs (List.range n) (List.range' n (h.length-n)) h c (frzV h n c)
 | .undef=>by simp[frzV,crs]
 | .int _ _=>by simp[frzV,crs]
 | .bool _=>by simp[frzV,crs]
 | .str _=>by simp[frzV,crs]
 | .ptr b i o=>by
  simp only[frzV]
  split
  ·rename_i hb
   simp only[crs]
   exact⟨jmi hb,trivial,trivial⟩
  ·simp[crs]
 | .vp t x o=>by simp only[frzV,crs];exact⟨ETy.cast_same t [x],trivial⟩
 | .gptr _ _=>by simp[frzV,crs]
 | .nilptr=>by simp[frzV,crs]
 | .slice b i e m c=>by
  simp only[frzV]
  split
  ·rename_i hb
   simp only[crs]
   exact⟨jmi hb,trivial,trivial,trivial,Nat.le_refl _⟩
  ·rename_i hb
   split
   ·rename_i t M hg
    split
    ·rename_i hm
     simp only[crs,hg]
     exact⟨jt9 hb (KH.lt_of_live (by rw[hg];trivial)),hm.2,hm.1,ETy.cast_same _ _⟩
    ·simp[crs]
   ·simp[crs]
 | .vec t L=>by simp only[frzV,crs];exact ETy.cast_same t L
 | .zs=>by simp[frzV,crs]
 | .nils=>by simp[frzV,crs]
 | .fn F l=>by simp only[frzV,crs];exact⟨trivial,jeM h n l⟩
 | .nilfn=>by simp[frzV,crs]
 | .mfn _=>by simp[frzV,crs]
 | .iface t c=>by simp only[frzV,crs];exact⟨trivial,jjh h n c⟩
 | .niliface=>by simp[frzV,crs]
 | .agg l=>by simp only[frzV,crs];exact jeM h n l
 | .tup l=>by simp only[frzV,crs];exact jeM h n l
theorem jeM (h:KH) (n:Nat):∀l:List CV,crsL (List.range n) (List.range' n (h.length-n)) h l (frzL h n l)
 | []=>trivial
 | c::l=>⟨jjh h n c,jeM h n l⟩
end
theorem jrg (h:KH) (n:Nat) (k:KB):crsB (List.range n) (List.range' n (h.length-n)) h k (frzB h n k):=by
 cases k with
 | dead=>simp[frzB,crsB]
 | box l=>exact jeM h n l
 | seq t L=>exact ETy.cast_same t L
 | iter s p=>exact⟨rfl,rfl⟩
theorem jmj {ρ fz:List Nat}{h:KH}{g:KB→KB}(hg:∀k,crsB ρ fz h k (g k)):∀(l:KH) (i:Nat),(∀j,j<l.length→i+j<h.length∧h.get (i+j)=l.get j)→crsH ρ fz h (List.range' i l.length) (l.map g)
 | [],i,_=>trivial
 | k::l,i,hl=>by
  simp only[List.length_cons,List.range'_succ,List.map_cons,crsH]
  have h0:=hl 0 (by simp)
  refine⟨?_,jmj hg l (i+1) (fun j hj=>?_)⟩
  ·rw[if_neg (by omega)]
   have:h.get i=k:=h0.2
   rw[this]
   exact hg k
  ·have:=hl (j+1) (by simp;omega)
   rw[show i+1+j=i+(j+1) by omega]
   exact this
theorem jmk:∀(h:KH) (n j:Nat),j<n→KH.get (h.take n) j=h.get j
 | [],n,j,_=>by simp
 | b::h,0,j,hj=>by omega
 | b::h,n+1,0,_=>rfl
 | b::h,n+1,j+1,hj=>jmk h n j (by omega)
def jrh (h:KH) (n:Nat):Bool:=decide (n≤h.length)&&(jdF n (List.range n)&&jaE (imgs (List.range n) (frzH h n)++List.range' n (h.length-n)))
theorem jtc {h:KH}{n:Nat}(hk:jrh h n=true) (c:CV):Crs n (List.range n) (List.range' n (h.length-n)) ⟨[(0,c)],h⟩ ⟨[(0,frzV h n c)],frzH h n⟩:=by
 simp only[jrh,Bool.and_eq_true,decide_eq_true_eq]at hk
 obtain⟨hn,h1,h2⟩:=hk
 refine⟨by rw[h1,h2];rfl,?_,?_⟩
 ·have hl:(h.take n).length=n:=by simp;omega
  have:=jmj (jrg h n) (h.take n) 0 (fun j hj=>⟨by omega,by rw[Nat.zero_add,jmk h n j (by omega)]⟩)
  rw[hl,←List.range_eq_range']at this
  exact this
 ·simp only[crsF,Fr.get,if_true]
  exact⟨jjh h n c,trivial⟩
theorem TF.frz {P:Program}{E:Nat→Option (List CV)}{F:FuncId}{args:List CV}{h:KH}{c:CV}{h':KH}(t:TF P E F args h (.ret c) h') (hk:jrh h' h.length=true):TF P E F args h (.ret (frzV h' h.length c)) (frzH h' h.length):=fun z f w vs hsz hrel hE hd hf=>by
 refine (t z f w vs hsz hrel hE hd hf).mono ?_
 rintro e w' ⟨z',f',he,hd',hs,hf'⟩
 cases e with
 | returned v =>
  obtain⟨z2,f2,g1,g2,g3,g4⟩:=Crs.rel (n0:=h.length) hd' hs rfl hf hf' he ⟨_,_,jtc hk c⟩
  exact⟨z2,f2,g1,g2,g3,g4⟩
 | panicked ch=>exact he.elim
 | outgrown=>exact he.elim
def frzE (fz:List FuncId) (F:FuncId) (h:KH) (x:Option (Res×KH)):Option (Res×KH) :=
 if fz.contains F=true then (match x with
  | some (.ret c,h')=>if jrh h' h.length=true then some (.ret (frzV h' h.length c),frzH h' h.length) else none
  | _=>none) else x
theorem jtd (x:Option (Res×KH)):(match x with
  | some (.ret c,h)=>fV c fun c=>jhy fB h fun h=>some (Res.ret c,h)
  | some (.pan c,h)=>fV c fun c=>jhy fB h fun h=>some (Res.pan c,h)
  | none=>none)=x:=by
 split<;>simp only[jta,jeL juq]
def fRes (x:Option (Res×KH)):Option (Res×KH):=match x with
 | some (.ret c,h)=>fV c fun c=>jhy fB h fun h=>some (.ret c,h)
 | some (.pan c,h)=>fV c fun c=>jhy fB h fun h=>some (.pan c,h)
 | none=>none
theorem jte (x:Option (Res×KH)):fRes x=x:=jtd x
def evF (E:Nat→Option (List CV)) (tab:List FRow) (base:List (FuncId×CE)) (fz:List FuncId) (k:Nat):Nat→FuncId→CE
 | 0,_=>fun _ _=>none
 | n+1,F=>match jdN base F with
  | some ce=>ce
  | none=>match rowOf? tab F with
   | none=>fun _ _=>none
   | some r=>fun args h=>if (jbv h.length (jde args)&&wfH h.length h)=false then none else fRes (frzE fz F h (match qvC E (evF E tab base fz k n) k r.lc ⟨jbf 0 args,h⟩ with
    | some (.pan c,s)=>some (.pan c,s.h)
    | some (.exit _,_)=>none
    | some (_,s)=>(match retB E s.h s.fr r.ts with
     | some l=>some (.ret (tupV l),s.h)
     | none=>none)
    | none=>none))
def conE (ce:CE):Con:=fun args h=>match ce args h with
 | some (r,h')=>some (True,r,h')
 | none=>none
def jln (P:Program) (eqs:List (TypeId×List IntKind)):List FRow→Prop
 | []=>True
 | r::l=>jag P eqs r.F r.lc r.ts r.nt=true∧jln P eqs l
def jke (P:Program) (E:Nat→Option (List CV)):List (FuncId×CE)→Prop
 | []=>True
 | (F,ce)::l=>(jbd P F=true∧jfN P E F (conE ce))∧jke P E l
section
variable {P:Program}{E:Nat→Option (List CV)}{eqs:List (TypeId×List IntKind)}
def conG (E:Nat→Option (List CV)) (tab:List FRow) (base:List (FuncId×CE)) (fz:List FuncId) (k n:Nat):List (FuncId×Con):=(base.map fun p=>(p.1,conE p.2))++tab.map fun r=>(r.F,conE (evF E tab base fz k n r.F))
theorem jji:∀{l m:List (FuncId×Con)}{F:FuncId},jbY (l++m) F=match jbY l F with
  | some c=>some c
  | none=>jbY m F
 | [],m,F=>rfl
 | (k,c)::l,m,F=>by
  simp only[List.cons_append,jbY]
  split
  ·rfl
  ·exact jji
theorem jhk:∀{base:List (FuncId×CE)}{F:FuncId},jbY (base.map fun p=>(p.1,conE p.2)) F=(jdN base F).map conE
 | [],F=>rfl
 | (k,c)::l,F=>by
  simp only[List.map_cons,jbY,jdN]
  split
  ·rfl
  ·exact jhk
theorem jml {g:FuncId→CE}:∀{tab:List FRow}{F:FuncId},jbY (tab.map fun r=>(r.F,conE (g r.F))) F=(rowOf? tab F).map fun _=>conE (g F)
 | [],F=>rfl
 | r::l,F=>by
  simp only[List.map_cons,jbY,rowOf?]
  split
  ·rename_i e
   subst e
   rfl
  ·exact jml
theorem jpK:∀{base:List (FuncId×CE)}{F:FuncId}{ce:CE},jke P E base→jdN base F=some ce→jbd P F=true∧jfN P E F (conE ce)
 | [],F,ce,_,e=>by cases e
 | (k,c)::l,F,ce,h,e=>by
  simp only[jdN]at e
  split at e
  ·rename_i q
   cases e
   subst q
   exact h.1
  ·exact jpK h.2 e
theorem jrE:∀{tab:List FRow}{F:FuncId}{r:FRow},jln P eqs tab→rowOf? tab F=some r→jag P eqs F r.lc r.ts r.nt=true
 | [],F,r,_,e=>by cases e
 | x::l,F,r,h,e=>by
  simp only[rowOf?]at e
  split at e
  ·rename_i q
   cases e
   subst q
   exact h.1
  ·exact jrE h.2 e
theorem jpL {ce:CE}{args:List CV}{h:KH}{G:Prop}{r:Res}{h':KH}(e:conE ce args h=some (G,r,h')):ce args h=some (r,h'):=by
 unfold conE at e
 split at e
 ·rename_i q
  cases e
  exact q
 ·cases e
theorem jjj:∀{base:List (FuncId×CE)}{G:List (FuncId×Con)},jke P E base→GOk P E G→GOk P E ((base.map fun p=>(p.1,conE p.2))++G)
 | [],G,_,h=>h
 | (k,c)::l,G,hb,h=>⟨hb.1,jjj hb.2 h⟩
theorem jlo {g:FuncId→CE}:∀{tab:List FRow},jln P eqs tab→(∀F,jfN P E F (conE (g F)))→GOk P E (tab.map fun r=>(r.F,conE (g r.F)))
 | [],_,_=>trivial
 | r::l,h,hs=>⟨⟨jaa h.1,hs r.F⟩,jlo h.2 hs⟩
theorem jpM {tab:List FRow}{base:List (FuncId×CE)}{fz:List FuncId}{k n:Nat}(heqs:jkl P eqs) (hm:P.follows .mixedOrders=true) (htab:jln P eqs tab) (hG:GOk P E (conG E tab base fz k n)) (hge:GeOk ⟨E,eqs,conG E tab base fz k n⟩ (evF E tab base fz k n)){F:FuncId}{args:List CV}{h:KH}{r:Res}{h':KH}(hb:jdN base F=none) (e:evF E tab base fz k (n+1) F args h=some (r,h')) :
  TF P E F args h r h'∧jbv h.length (jde args)=true∧wfH h.length h=true:=by
 cases hrow:rowOf? tab F with
 | none=>simp[evF,hb,hrow]at e
 | some row =>
  simp only[evF,hb,hrow]at e
  split at e
  ·cases e
  ·rename_i hw
   have hck:=jrE htab hrow
   rw[Bool.not_eq_false,Bool.and_eq_true]at hw
   refine⟨?_,hw.1,hw.2⟩
   have raw:∀{r h'},(match evC E (evF E tab base fz k n) k row.lc ⟨jbf 0 args,h⟩ with
     | some (.pan c,s)=>some (.pan c,s.h)
     | some (.exit _,_)=>none
     | some (_,s)=>(match retB E s.h s.fr row.ts with
      | some l=>some (.ret (tupV l),s.h)
      | none=>none)
     | none=>none)=some (r,h')→TF P E F args h r h':=fun {r h'} e=>by
    refine TF.raw (V:=⟨P,⟨E,eqs,conG E tab base fz k n⟩,row.nt,DS.no,h.length,⟨heqs,hG⟩,hm⟩) hck rfl rfl ?_
    split at e
    ·rename_i c s hc
     cases e
     refine (jdn (V:=⟨P,⟨E,eqs,conG E tab base fz k n⟩,row.nt,DS.no,h.length,⟨heqs,hG⟩,hm⟩) hge k _ _ _ hc).mono (fun x s' q=>?_)
     cases q
     exact⟨rfl,rfl⟩
    ·cases e
    ·rename_i x s hn1 hn2 hc
     split at e
     ·rename_i l hl
      cases e
      obtain⟨G,q1,q2⟩:=jpJ hl
      refine (jdn (V:=⟨P,⟨E,eqs,conG E tab base fz k n⟩,row.nt,DS.no,h.length,⟨heqs,hG⟩,hm⟩) hge k _ _ _ hc).mono (fun x' s' q=>?_)
      cases q
      cases x with
      | norm=>exact⟨rfl,_,rfl,by simp only[q1,retP];exact⟨q2,trivial⟩⟩
      | ret=>exact⟨rfl,_,rfl,by simp only[q1,retP];exact⟨q2,trivial⟩⟩
      | exit id=>exact absurd rfl (hn2 id)
      | pan c=>exact absurd rfl (hn1 c)
     ·cases e
    ·cases e
   rw[jte,jhj]at e
   unfold frzE at e
   split at e
   ·split at e
    ·rename_i c h1 hc
     split at e
     ·rename_i hk
      cases e
      exact (raw hc).frz hk
     ·cases e
    ·cases e
   ·exact raw e
theorem jua {tab:List FRow}{base:List (FuncId×CE)}{fz:List FuncId}{k n:Nat}:GeOk ⟨E,eqs,conG E tab base fz k n⟩ (evF E tab base fz k n):=fun F args h r h' e=>by
 cases n with
 | zero=>simp[evF]at e
 | succ n =>
  have con:conE (evF E tab base fz k (n+1) F) args h=some (True,r,h'):=by simp only[conE,e]
  cases hb:jdN base F with
  | some ce =>
   refine⟨conE ce,True,by simp only[conG,jji,jhk,hb,Option.map_some],?_,trivial⟩
   have:evF E tab base fz k (n+1) F=ce:=by simp only[evF,hb]
   rw[this]at con
   exact con
  | none =>
   cases hr:rowOf? tab F with
   | none=>simp[evF,hb,hr]at e
   | some row=>exact⟨_,True,by simp only[conG,jji,jhk,hb,Option.map_none,jml,hr,Option.map_some],con,trivial⟩
theorem jrF {tab:List FRow}{base:List (FuncId×CE)}{fz:List FuncId}{k:Nat}(heqs:jkl P eqs) (hm:P.follows .mixedOrders=true) (htab:jln P eqs tab) (hbase:jke P E base):∀n,GOk P E (conG E tab base fz k n)
 | 0=>jjj hbase (jlo htab fun F args h G r h' e _=>by
   have:=jpL e
   simp[evF]at this)
 | n+1=>jjj hbase (jlo htab fun F args h G r h' e _=>by
   have:=jpL e
   cases hb:jdN base F with
   | some ce =>
    have hce:evF E tab base fz k (n+1) F=ce:=by simp only[evF,hb]
    rw[hce]at e
    exact (jpK hbase hb).2 args h G r h' e ‹_›
   | none =>
    obtain⟨q1,q2,q3⟩:=jpM heqs hm htab (jrF heqs hm htab hbase n) jua hb this
    exact q1.x q2 q3)
theorem TF.run {tab:List FRow}{base:List (FuncId×CE)}{fz:List FuncId}{k n:Nat}(heqs:jkl P eqs) (hm:P.follows .mixedOrders=true) (htab:jln P eqs tab) (hbase:jke P E base){F:FuncId}{args:List CV}{h:KH}{c:CV}(hb:jdN base F=none) (e:(evF E tab base fz k (n+1) F args h).map (·.1)=some (.ret c)):∃h',TF P E F args h (.ret c) h':=by
 simp only[Option.map_eq_some_iff]at e
 obtain⟨⟨r,h'⟩,e,rfl⟩:=e
 exact⟨h',(jpM heqs hm htab (jrF heqs hm htab hbase n) jua hb e).1⟩
end
structure KR (P:Program) (eqs:List (TypeId×List IntKind)) where
 r:FRow
 ok:jag P eqs r.F r.lc r.ts r.nt=true
def KR.of {P:Program}{eqs:List (TypeId×List IntKind)}{F:FuncId}{lc:LC}{ts:List RV}{nt:NT}(k:jag P eqs F lc ts nt=true):KR P eqs:=⟨⟨F,lc,ts,nt⟩,k⟩
theorem KR.tab {P:Program}{eqs:List (TypeId×List IntKind)}:∀l:List (KR P eqs),jln P eqs (l.map KR.r)
 | []=>trivial
 | x::l=>⟨x.ok,KR.tab l⟩
theorem TF.drop {P:Program}{E:Nat→Option (List CV)}{F:FuncId}{args:List CV}{c:CV}{h':KH}(t:TF P E F args [] (.ret c) h') (hc:idf c=true):TF P E F args [] (.ret c) []:=fun z f w vs hsz hrel hE hd hf=>by
 refine (t z f w vs hsz hrel hE hd hf).mono ?_
 rintro e w' ⟨z',f',he,hd',hs,hf'⟩
 cases e with
 | returned v =>
  obtain⟨z2,f2,g1,g2,g3,g4⟩:=Crs.rel (n0:=0) (h':=[]) (c':=c) hd' hs rfl hf hf' he ⟨[],[],⟨rfl,trivial,by simp only[crsF,Fr.get,if_true];exact⟨jfX _ _ _ hc,trivial⟩⟩⟩
  exact⟨z2,f2,g1,g2,g3,g4⟩
 | panicked ch=>exact he.elim
 | outgrown=>exact he.elim
theorem Alias.run (tab:List (KR Tryz.prog eqs0)) (fz:List FuncId) (k n:Nat){F:FuncId}(e:(evF E0 (tab.map KR.r) [] fz k (n+1) F [] []).map (·.1)=some (.ret (.bool true))):TF Tryz.prog E0 F [] [] (.ret (.bool true)) []:=by
 obtain⟨h',t⟩:=TF.run (P:=Tryz.prog) (E:=E0) (eqs:=eqs0) (base:=[]) (fz:=fz) (k:=k) (n:=n) jkw jnS (KR.tab tab) trivial rfl e
 exact t.drop rfl
end
end
end Go.Proofs.YtienkkicehmchaaGreatDoor
