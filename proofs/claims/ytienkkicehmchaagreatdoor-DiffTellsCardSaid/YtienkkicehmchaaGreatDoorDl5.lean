/- Texts of this claim, merged by a program of this claim: EAll, EVals, EVals2, EVals3, EEnv, EUse, EMut. -/
import Derived.Test.YtienkkicehmchaaGreatDoorDl4
import Derived.Test.YtienkkicehmchaaGreatDoorProg
import Derived.Laws.StructEq
namespace Go.Proofs.YtienkkicehmchaaGreatDoor
open And renaming intro→qaa
open List renaming take_of_length_le→qab,take→qaf,replicate→qah
open Bool renaming false_eq_true→qac,and_eq_true→qad,decide_and→qae,false_and→qag
noncomputable section
set_option linter.unusedVariables false
set_option linter.unusedSimpArgs false
section
open Go.RowKit
def sd (d:Nat) (op:LOp):PS:=.o (some d) op
def sn (op:LOp):PS:=.o none op
instance (n:Nat):OfNat Opd n:=⟨.t n⟩
def ki (n:Int):Opd:=.c (.int .i64 n)
abbrev kM (d:Nat) (x:Opd):PS:=sd d (.mov x)
abbrev kF (d:Nat) (x:Opd) (o:Nat):PS:=sd d (.faddr x o)
abbrev kL (d n:Nat) (x:Opd):PS:=sd d (.load false n x)
abbrev kR (i d:Nat) (op:LOp):RO:=⟨i,some d,none,op,false,false⟩
abbrev kf:Opd:=.c (.bool false)
abbrev kt:Opd:=.c (.bool true)
abbrev kn:Opd:=.c .nils
abbrev k8 (n:Int):Opd:=.c (.int .u8 n)
abbrev LOp.fa (x:Opd) (o:Nat):LOp:=.faddr x o
abbrev LOp.ld (n:Nat) (x:Opd):LOp:=.load false n x
abbrev LOp.add (x y:Opd):LOp:=.ari .add false x y
abbrev LOp.sub (x y:Opd):LOp:=.ari .sub false x y
abbrev LOp.lt (x y:Opd):LOp:=.cmp .lss x y
abbrev LOp.eq (x y:Opd):LOp:=.cmp .eql x y
def bs (l:List UInt8):ByteArray:=⟨l.toArray⟩
def pK (v:Option (Prop×VOut)) (h:KH) (k:CV→Option (Prop×Fr)):Option (Prop×Fr) :=
 match v with
 | some (G,.val c h')=>(match k c with
  | some (G',f)=>some ((G∧h'=h)∧G',f)
  | none=>none)
 | _=>none
def gP (c:CV) (want:Bool) (v:Option (Prop×Fr)) (k:Bool→Fr→Option (Prop×Fr)):Option (Prop×Fr) :=
 match c,v with
 | .bool t,some (G,fr1)=>(match k t fr1 with
  | some (G',f)=>some ((t=want→G)∧G',f)
  | none=>none)
 | _,_=>none
def gW (c:CV) (want:Bool) (v:Option (Prop×Fr)) (k:Bool→Fr→Prop):Prop :=
 match c,v with
 | .bool t,some (G,fr1)=>(t=want→G)∧k t fr1
 | _,_=>False
def mk2 (v:Option (Prop×CV)) (h:KH):Option (Prop×VOut) :=
 match v with
 | some (G,c)=>some (G,.val c h)
 | none=>none
def ldW (v:Option (Prop×List CV)) (agg:Bool) (n:Nat) (h:KH):Option (Prop×VOut) :=
 match v with
 | some (G,r)=>(match jfh agg n r with
  | some c=>some (G,.val c h)
  | none=>none)
 | none=>none
def stW (a v:CV) (n:Nat) (h:KH):Option (Prop×VOut) :=
 match a with
 | .ptr b i o=>if v.known&&v.cells.length==n then (match jbk (h.get b) i o v.cells with
  | some (G,kb)=>some (G,.val (.tup []) (KH.put h b kb))
  | none=>none) else none
 | _=>none
def ariW (op:BinOp) (wr:Bool) (x y:CV) (h:KH):Option (Prop×VOut) :=
 match x,y with
 | .int k a,.int k' b=>(match ariK op a b with
  | some (G,r)=>if k=k' then some (G∧(wr=true∨jag k r),.val (.int k (if wr then k.wrap r else r)) h) else none
  | none=>match bitK op k a b with
   | some (G,r)=>if k=k'∨op=.shl∨op=.shr then some (G∧(wr=true∨jag k r),.val (.int k (if wr then k.wrap r else r)) h) else none
   | none=>none)
 | _,_=>none
def cmpW (op:BinOp) (x y:CV) (h:KH):Option (Prop×VOut) :=
 match x,y with
 | .int k a,.int k' b=>if k=k' then (match cmpI op a b with
  | some r=>some (True,.val (.bool r) h)
  | none=>none) else none
 | .str a,.str b=>(match cmpS op a b with
  | some r=>some (True,.val (.bool r) h)
  | none=>none)
 | _,_=>none
def juj (neg:Bool) (x y:CV) (h:KH):Option (Prop×VOut) :=
 match x,y with
 | .bool a,.bool b=>some (True,.val (.bool (if neg then !(a==b) else a==b)) h)
 | _,_=>none
def juk (v:Option (Prop×Bool)) (neg:Bool) (h:KH):Option (Prop×VOut) :=
 match v with
 | some (G,b)=>some (G,.val (.bool (if neg then !b else b)) h)
 | none=>none
def eqAW (ks:List IntKind) (neg:Bool) (x y:CV) (h:KH):Option (Prop×VOut) :=
 match x,y with
 | .agg l,.agg m=>(match jbn ks l m with
  | some r=>some (True,.val (.bool (if neg then !r else r)) h)
  | none=>none)
 | _,_=>none
def unW (op:UnOp) (x:CV) (h:KH):Option (Prop×VOut) :=
 match op,x with
 | .not,.bool b=>some (True,.val (.bool (!b)) h)
 | .neg,.int k n=>some (jag k (-n),.val (.int k (-n)) h)
 | _,_=>none
def jrw (k:IntKind) (wr:Bool) (x:CV) (h:KH):Option (Prop×VOut) :=
 match x with
 | .int _ n=>some (wr=true∨jag k n,.val (.int k (if wr then k.wrap n else n)) h)
 | _=>none
def s2bW (x:CV) (h:KH):Option (Prop×VOut) :=
 match x with
 | .str s=>some (s.size≤1073741824,.val (.slice h.length 0 1 s.size s.size) (h++[.seq (.int .u8) (jab s)]))
 | _=>none
def b2sW (v:Option (Prop×List Int)) (h:KH):Option (Prop×VOut) :=
 match v with
 | some (G,L)=>some (G,.val (.str (jaJ L)) h)
 | none=>none
def frzW (x:CV) (h:KH):Option (Prop×VOut) :=
 match x with
 | .slice b i esz len cap=>(match h.get b with
  | .seq (.int .u8) _=>if 0<len then some (True,.val (.slice b i esz len cap) h) else none
  | _=>none)
 | _=>none
def jul (t:ETy) (x y:CV) (h:KH):Option (Prop×VOut) :=
 match x,y with
 | .int _ n,.int _ m=>some (0≤n∧n≤m∧m≤1073741824,.val (.slice h.length 0 t.esz n.toNat m.toNat) (h++[.seq t (qah n.toNat t.dflt)]))
 | _,_=>none
def ixAW (len esz:Nat) (x i:CV) (h:KH):Option (Prop×VOut) :=
 match i with
 | .int _ n=>(match jeg x (n.toNat*esz)with
  | some c=>some (0≤n∧n<len,.val c h)
  | none=>none)
 | _=>none
def one2 (v:Option CV) (h:KH):Option (Prop×VOut) :=
 match v with
 | some c=>some (True,.val c h)
 | none=>none
def ixVW (x i:CV) (h:KH):Option (Prop×VOut) :=
 match x,i with
 | .str s,.int _ n=>some (0≤n∧n<s.size,.val (.int .u8 ((jab s).getD n.toNat 0)) h)
 | _,_=>none
def ixCW (len esz:Nat) (agg:Bool) (x i:CV) (h:KH):Option (Prop×VOut) :=
 match x,i with
 | .agg l,.int _ n=>(match jh1 l (n.toNat*esz) esz agg with
  | some c=>some (0≤n∧n<len,.val c h)
  | none=>none)
 | _,_=>none
def i2sW (x:CV) (h:KH):Option (Prop×VOut) :=
 match x with
 | .int _ n=>some (True,.val (.str (Utf8.encode n)) h)
 | _=>none
def catW (x y:CV) (h:KH):Option (Prop×VOut) :=
 match x,y with
 | .str a,.str b=>some (a.size+b.size≤9223372036854775807,.val (.str (a++b)) h)
 | _,_=>none
def jdh (x:CV) (off n:Nat) (agg:Bool):Option CV :=
 match x with
 | .agg l=>jh1 l off n agg
 | _=>none
def extW (x:CV) (i:Nat):Option CV :=
 match x with
 | .tup l=>l[i]?
 | _=>none
def appW (t:ETy) (x:CV) (a b:Option (Prop×List t.T)) (h:KH):Option (Prop×VOut) :=
 match x with
 | .vec _ _=>none
 | s=>match a,b with
  | some (G1,L),some (G2,M)=>some (G1∧G2∧L.length+M.length≤1073741824,.val (.slice h.length 0 t.esz (L.length+M.length) (L.length+M.length)) (jfi h s++[.seq t (L++M)]))
  | _,_=>none
def lenW (st:Bool) (x:CV) (h:KH):Option (Prop×VOut) :=
 if jef st x=true then (match lenK x with
  | some n=>some (True,.val (.int .i64 n) h)
  | none=>none) else none
def mmW (mx:Bool) (x y:CV) (h:KH):Option (Prop×VOut) :=
 match x,y with
 | .int k a,.int k' b=>if k=k' then some (True,.val (.int k (if mx then max a b else min a b)) h) else none
 | _,_=>none
def jkc (X:Cx) (x:CV) (l:List CV) (h:KH):Option (Prop×VOut) :=
 match x with
 | .fn F caps=>jgR X F (l++caps) h
 | .mfn F=>jgR X F (.agg []::l) h
 | _=>none
def jfk (c:Option Con) (args:List CV) (h:KH):Option (Prop×VOut) :=
 match c with
 | some c=>(match c args h with
  | some (G,.ret r,h')=>some (G∧h.length≤h'.length,.val r h')
  | some (G,.pan r,h')=>some (G∧h.length≤h'.length,.pan r h')
  | none=>none)
 | none=>none
def jrx (x:CV) (h:KH):Option (Prop×VOut) :=
 match x with
 | .iface t c=>some (True,.pan (.iface t c) h)
 | _=>none
section
variable (X:Cx) (fr:Fr) (h:KH)
theorem jxP:(∀X st N K,wpS X [] st N K=N st) ∧
  (∀X d op r fr h N K,wpS X (sd d op::r) ⟨fr,h⟩ N K=outK (opV X op fr h) (fun c h'=>wpS X r ⟨fr.set d c,h'⟩ N K) K) ∧
  (∀X op r fr h N K,wpS X (sn op::r) ⟨fr,h⟩ N K=outK (opV X op fr h) (fun c h'=>wpS X r ⟨fr,h'⟩ N K) K) ∧
  (∀X c want L d x y r fr h N K,wpS X (.g c want L d x y::r) ⟨fr,h⟩ N K=gW (fr.get c) want (jeo X h L fr) (fun t fr1=>wpS X r ⟨(fr.del (wrS L)).set d (jdt t (x.ev fr1) (y.ev fr1)),h⟩ N K)) ∧
  (∀X c want L d x y r fr h N K,wpS X (.b c want L d x y::r) ⟨fr,h⟩ N K=gsp (fr.get c) want (wpS X L ⟨fr,h⟩ (fun s=>wpS X r ⟨s.fr.set d ((if want then x else y).ev s.fr),s.h⟩ N K) K) (wpS X r ⟨(fr.del (wrS L)).set d ((if want then y else x).ev fr),h⟩ N K)) ∧
  (∀X h fr,jeo X h [] fr=some (True,fr)) ∧
  (∀X h d op r fr,jeo X h (sd d op::r) fr=pK (opV X op fr h) h (fun c=>jeo X h r (fr.set d c))) ∧
  (∀X h c want L d x y r fr,jeo X h (.g c want L d x y::r) fr=gP (fr.get c) want (jeo X h L fr) (fun t fr1=>jeo X h r ((fr.del (wrS L)).set d (jdt t (x.ev fr1) (y.ev fr1))))) ∧
  (∀n l h h',jjU (n,l) h h'=(h'.take n=h.take n∧onL l h h'))∧(∀h h',onL [] h h'=True)∧(∀b l h h',onL (b::l) h h'=(h'.get b=h.get b∧onL l h h'))∧(∀agg k x fr h n,rdM (.load agg k x) fr h n=rdP (x.ev fr) h n)∧(∀x fr h n l,rdM (.b2s x) fr h (n,l)=(h.length,l))∧(∀b i o h n l,rdP (.ptr b i o) h (n,l)=(n,b::l))∧(∀t x o h n l,rdP (.vp t x o) h (n,l)=(h.length,l))∧(∀g o h n l,rdP (.gptr g o) h (n,l)=(h.length,l))∧(∀b n x,rdB (.load b n x)=true)∧(∀x,rdB (.b2s x)=true)∧(∀X d neg x r fr h N K,wpS X (.n d neg x::r) ⟨fr,h⟩ N K=nilW (jlW (x.ev fr)) (fun b=>wpS X r ⟨fr.set d (.bool (if neg then !b else b)),h⟩ N K))∧(∀d neg x,wr1 (.n d neg x)=[d])∧(∀G K,nilW (some G) K=(∀b:Bool,(G→b=false)→K b))∧(∀t L,jlW (.vec t L)=some (0<L.length))∧(∀b i e n c,jlW (.slice b i e n c)=some (0<n))∧(jlW .zs=some False):=by
 refine⟨fun _ _ _ _=>rfl,fun _ _ _ _ _ _ _ _=>rfl,fun _ _ _ _ _ _ _=>rfl,fun X c want L d x y r fr h N K=>?_,fun _ _ _ _ _ _ _ _ _ _ _ _=>rfl,fun _ _ _=>rfl,fun X h d op r fr=>?_,fun X h c want L d x y r fr=>?_,fun _ _ _ _=>rfl,fun _ _=>rfl,fun _ _ _ _=>rfl,fun _ _ _ _ _ _=>rfl,fun _ _ _ _ _=>rfl,fun _ _ _ _ _ _=>rfl,fun _ _ _ _ _ _=>rfl,fun _ _ _ _ _=>rfl,fun _ _ _=>rfl,fun _=>rfl,fun _ _ _ _ _ _ _ _ _=>rfl,fun _ _ _=>rfl,fun _ _=>rfl,fun _ _=>rfl,fun _ _ _ _ _=>rfl,rfl⟩
 ·simp only[wpS,wp1,jfz]
  cases fr.get c<;>try rfl
  cases jeo X h L fr<;>rfl
 ·simp only[sd,jeo,jfz]
  unfold pK
  cases opV X op fr h with
  | none=>rfl
  | some p =>
   obtain⟨G,v⟩:=p
   cases v with
   | val c h'=>rfl
   | pan c h'=>rfl
 grind [jeo,jfz,gP]
def memB (k:Nat):List Nat→Bool
 | []=>false
 | a::l=>if k=a then true else memB k l
theorem jiK (k:Nat):∀l:List Nat,memB k l=l.contains k
 | []=>rfl
 | a::l=>by
  simp only[memB,List.contains_cons,jiK k l]
  all_goals grind
theorem jxQ:(∀G c h N K,outK (some (G,.val c h)) N K=(G∧N c h))∧(∀G c h N K,outK (some (G,.pan c h)) N K=(G∧K c h)) ∧
  (∀b K,wpB (.bool b) K=K b) ∧
  (∀K Q s,seqQ K Q .norm s=K s)∧(∀K Q i s,seqQ K Q (.exit i) s=Q (.exit i) s)∧(∀K Q s,seqQ K Q .ret s=Q .ret s)∧(∀K Q c s,seqQ K Q (.pan c) s=Q (.pan c) s) ∧
  (∀i Q s,blkQ i Q .norm s=Q .norm s)∧(∀i Q s,blkQ i Q .ret s=Q .ret s)∧(∀i Q c s,blkQ i Q (.pan c) s=Q (.pan c) s)∧(∀i j Q s,blkQ i Q (.exit j) s=if j=i then Q .norm s else Q (.exit j) s) ∧
  (∀d fr c,putF fr (some d) c=fr.set d c)∧(∀fr c,putF fr none c=fr) ∧
  (∀n,Fr.get [] n=.undef)∧(∀k v r n,Fr.get ((k,v)::r) n=if n=k then v else Fr.get r n) ∧
  (∀n v,Fr.set [] n v=[(n,v)])∧(∀k x r n v,Fr.set ((k,x)::r) n v=if n=k then (n,v)::r else (k,x)::Fr.set r n v) ∧
  (∀fr,Fr.sel fr []=[])∧(∀fr k ks,Fr.sel fr (k::ks)=(k,fr.get k)::fr.sel ks) ∧
  (∀W,Fr.del W []=[])∧(∀W k x r,Fr.del W ((k,x)::r)=if memB k W=true then Fr.del W r else (k,x)::Fr.del W r)∧(∀k,memB k []=false)∧(∀k a l,memB k (a::l)=if k=a then true else memB k l) ∧
  (∀fr n,Opd.ev fr (.t n)=fr.get n)∧(∀fr n,Opd.ev fr (no_index (OfNat.ofNat n))=fr.get n)∧(∀fr v,Opd.ev fr (.c v)=v)∧(∀fr n,Opd.ev fr (ki n)=.int .i64 n) ∧
  (∀t x y,jdt t (.bool x) (.bool y)=.bool (bif t then x else y))∧(∀t k x y,jdt t (.int k x) (.int k y)=.int k (bif t then x else y))∧(∀a b,jdt true a b=a)∧(∀a b,jdt false a b=b) ∧
  (∀G c h h0 k,pK (some (G,.val c h)) h0 k=match k c with
   | some (G',f)=>some ((G∧h=h0)∧G',f)
   | none=>none) ∧
  (∀t want G fr1 k,gW (.bool t) want (some (G,fr1)) k=((t=want→G)∧k t fr1)) ∧
  (∀t want G fr1 k,gP (.bool t) want (some (G,fr1)) k=match k t fr1 with
   | some (G',f)=>some ((t=want→G)∧G',f)
   | none=>none) ∧
  (∀t A B,gspl (.bool t) true A B=((t=true→A)∧(t=false→B)))∧(∀t A B,gspl (.bool t) false A B=((t=false→A)∧(t=true→B)))∧(∀t A B,gsp (.bool t) true A B=((t=true→A)∧(t=false→B)))∧(∀t A B,gsp (.bool t) false A B=((t=false→A)∧(t=true→B)))∧(∀c w L d x y,wr1 (.b c w L d x y)=d::wrS L)∧(∀b A B,gspl (.tup []) b A B=B) ∧
  (∀d op,wr1 (sd d op)=[d])∧(∀c w L d x y,wr1 (.g c w L d x y)=d::wrS L)∧(wrS []=[])∧(∀o r,wrS (o::r)=wr1 o++wrS r):=by
 refine⟨?_,?_,?_,?_,?_,?_,?_,?_,?_,?_,?_,?_,?_,?_,?_,?_,?_,?_,?_,?_,?_,?_,?_,?_,?_,?_,?_,?_,?_,?_,?_,?_,?_,?_,?_,?_,?_,?_,?_,?_,?_,?_,?_,?_⟩
 all_goals intros
 all_goals first
  | rfl
  | (rw[jiK];rfl)
  | (simp[gspl];done)
  | (simp[gsp];done)
  | (simp[jdt];done)
  | (simp only[jh9];rfl)
theorem E_op : (∀ X fr h x, opV X (.mov x) fr h = some (True, .val (x.ev fr) h)) ∧
    (∀ X fr h c a b, opV X (.pick c a b) fr h = match c.ev fr with
      | .bool t => some (True, .val (jdt t (a.ev fr) (b.ev fr)) h)
      | _ => none) ∧
    (∀ X fr h x, opV X (.box x) fr h = if (x.ev fr).known then some (True, .val (.ptr h.length 0 0) (h ++ [.box (x.ev fr).cells])) else none) ∧
    (∀ X fr h cs, opV X (.zero cs) fr h = some (True, .val (.ptr h.length 0 0) (h ++ [.box cs]))) ∧
    (∀ X fr h z ps, opV X (.build z ps) fr h = match jgM fr z ps with
      | some cs => some (True, .val (.agg cs) h)
      | none => none) ∧
    (∀ X fr h t ps, opV X (.bslice t ps) fr h = match jc9 t fr ps with
      | some L => some (True, .val (.slice h.length 0 t.esz L.length L.length) (h ++ [.seq t L]))
      | none => none) ∧
    (∀ X fr h agg n a, opV X (.load agg n a) fr h = ldW (jem X.E h (a.ev fr)) agg n h) ∧
    (∀ X fr h n a v, opV X (.store n a v) fr h = stW (a.ev fr) (v.ev fr) n h) ∧
    (∀ X fr h x, opV X (.nilck x) fr h = match x.ev fr with
      | .ptr b i o => some (True, .val (.ptr b i o) h)
      | .vp t y o => some (True, .val (.vp t y o) h)
      | .gptr g o => some (True, .val (.gptr g o) h)
      | .fn F cs => some (True, .val (.fn F cs) h)
      | _ => none) ∧
    (∀ X fr h op wr x y, opV X (.ari op wr x y) fr h = ariW op wr (x.ev fr) (y.ev fr) h) ∧
    (∀ X fr h op x y, opV X (.cmp op x y) fr h = cmpW op (x.ev fr) (y.ev fr) h) ∧
    (∀ X fr h neg x y, opV X (.cmpB neg x y) fr h = juj neg (x.ev fr) (y.ev fr) h) ∧
    (∀ X fr h kind neg x, opV X (.cmpN kind neg x) fr h = juk (jen kind (x.ev fr)) neg h) ∧
    (∀ X fr h ks neg x y, opV X (.eqA ks neg x y) fr h = eqAW ks neg (x.ev fr) (y.ev fr) h) ∧
    (∀ X fr h op x, opV X (.un op x) fr h = unW op (x.ev fr) h) ∧
    (∀ X fr h k wr x, opV X (.conv k wr x) fr h = jrw k wr (x.ev fr) h) ∧
    (∀ X fr h x, opV X (.s2b x) fr h = s2bW (x.ev fr) h) ∧
    (∀ X fr h x, opV X (.b2s x) fr h = b2sW (jbb h (.int .u8) (x.ev fr)) h) ∧
    (∀ X fr h t x, opV X (.mkif t x) fr h = match x.ev fr with
      | .undef => none
      | c => some (True, .val (.iface t c) h)) ∧
    (∀ X fr h F cs, opV X (.mkfn F cs) fr h = some (True, .val (.fn F (cs.map (Opd.ev fr))) h)) ∧
    (∀ X fr h F x, opV X (.mkm F x) fr h = one2 (bndV F (x.ev fr)) h) ∧
    (∀ X fr h t b l c, opV X (.mksl t b l c) fr h = jul t (l.ev fr) (c.ev fr) h) ∧
    (∀ X fr h st esz x lo hi mx, opV X (.sl st esz x lo hi mx) fr h = if jef st (x.ev fr) = true then mk2 (slK esz (x.ev fr) (lo.map (Opd.ev fr)) (hi.map (Opd.ev fr)) (mx.map (Opd.ev fr))) h else none) ∧
    (∀ X fr h x, opV X (.sl0 x) fr h = if jeq (x.ev fr) then some (True, .val .zs h) else none) ∧
    (∀ X fr h x off, opV X (.faddr x off) fr h = one2 (jeg (x.ev fr) off) h) ∧
    (∀ X fr h x off n agg, opV X (.field x off n agg) fr h = one2 (jdh (x.ev fr) off n agg) h) ∧
    (∀ X fr h esz x i, opV X (.ixS esz x i) fr h = mk2 (ixSK esz (x.ev fr) (i.ev fr)) h) ∧
    (∀ X fr h len esz x i, opV X (.ixA len esz x i) fr h = ixAW len esz (x.ev fr) (i.ev fr) h) ∧
    (∀ X fr h x i, opV X (.ixV x i) fr h = ixVW (x.ev fr) (i.ev fr) h) ∧
    (∀ X fr h len esz agg x i, opV X (.ixC len esz agg x i) fr h = ixCW len esz agg (x.ev fr) (i.ev fr) h) ∧
    (∀ X fr h x, opV X (.i2s x) fr h = i2sW (x.ev fr) h) ∧
    (∀ X fr h x y, opV X (.cat x y) fr h = catW (x.ev fr) (y.ev fr) h) ∧
    (∀ X fr h x i, opV X (.ext x i) fr h = one2 (extW (x.ev fr) i) h) ∧
    (∀ X fr h t x y, opV X (.app t x y) fr h = appW t (x.ev fr) (jbb h t (x.ev fr)) (jep h t (y.ev fr)) h) ∧
    (∀ X fr h st x, opV X (.len st x) fr h = lenW st (x.ev fr) h) ∧
    (∀ X fr h mx x y, opV X (.mm mx x y) fr h = mmW mx (x.ev fr) (y.ev fr) h) ∧
    (∀ X fr h F xs, opV X (.call F xs) fr h = jfk (jf4 X.G F) (xs.map (Opd.ev fr)) h) ∧
    (∀ X fr h x xs, opV X (.callv x xs) fr h = jkc X (x.ev fr) (xs.map (Opd.ev fr)) h) ∧
    (∀ X F args h, jgR X F args h = jfk (jf4 X.G F) args h) ∧
    (∀ X fr h x, opV X (.panic x) fr h = jrx (x.ev fr) h) ∧
    (∀ X fr h x, opV X (.frz x) fr h = frzW (x.ev fr) h) := by
  refine ⟨?_, ?_, ?_, ?_, ?_, ?_, ?_, ?_, ?_, ?_, ?_, ?_, ?_, ?_, ?_, ?_, ?_, ?_, ?_, ?_, ?_, ?_, ?_, ?_, ?_, ?_, ?_, ?_, ?_, ?_, ?_, ?_, ?_, ?_, ?_, ?_, ?_, ?_, ?_, ?_, ?_⟩
  case refine_26 =>
    intro X fr h x off n agg
    simp only [opV, jaf, one2, jdh]
    grind
  case refine_33 =>
    intro X fr h x i
    simp only [opV, jaf, one2, extW]
    grind
  all_goals intros
  all_goals first
    | rfl
    | (simp only [opV, jaf, jgR, ldW, stW, ariW, cmpW, juj, juk, eqAW, unW, jrw, s2bW, b2sW, frzW, jul, ixAW, one2, mk2, ixVW, jdh, extW, appW, lenW, mmW, ixCW, i2sW, catW, jkc, jfk, jrx, jvD, Option.map]
       grind)
structure WR (X:Cx) (n:RM) (L:List RO) (st:St) (N:St→Prop) (K:CV→KH→Prop):Prop where
 run:wpR X n L st N K
theorem jxR (X:Cx) (n:RM) (L:List RO) (st:St) (N:St→Prop) (K:CV→KH→Prop):WR X n L st N K=wpR X n L st N K:=propext ⟨fun h=>h.run,fun h=>⟨h⟩⟩
theorem jyp {X:Cx}{n:RM}{ix:Nat}{dst:Option Nat}{op:LOp}{pure last:Bool}{r:List RO}{fr:Fr}{h:KH}{N:St→Prop}{K:CV→KH→Prop}(t:outK (opV X op fr h) (fun c h'=>(pure=true→jjU n h h')∧WR X (if rdB op=true then rdM op fr h n else n) r ⟨putF fr dst c,h'⟩ N K) (fun c h'=>last=true∧K c h')):WR X n (⟨ix,dst,none,op,pure,last⟩::r) ⟨fr,h⟩ N K:=by
 simp only[jxR]at t ⊢
 exact t
theorem jyq {X:Cx}{n:RM}{ix g:Nat}{b:Bool}{dst:Option Nat}{op:LOp}{pure last:Bool}{r:List RO}{fr:Fr}{h:KH}{N:St→Prop}{K:CV→KH→Prop}(t:gspl (fr.get g) b (outK (opV X op fr h) (fun c h'=>(pure=true→jjU n h h')∧WR X (if rdB op=true then rdM op fr h n else n) r ⟨putF fr dst c,h'⟩ N K) (fun c h'=>last=true∧K c h')) (WR X (if rdB op=true then rdM op fr h n else n) r ⟨putF fr dst (.tup []),h⟩ N K)):WR X n (⟨ix,dst,some (g,b),op,pure,last⟩::r) ⟨fr,h⟩ N K:=by
 simp only[jxR]at t ⊢
 exact t
theorem jyr {X:Cx}{n:RM}{st:St}{N:St→Prop}{K:CV→KH→Prop}(t:N st):WR X n [] st N K:=⟨t⟩
theorem T.rg {V:Env}{Q:EX→St→Prop}{st:St}{ks:List Nat}{L:List RO}(t:WR V.X (0,[]) L st (fun s=>Q .norm ⟨s.fr.sel ks,s.h⟩) (fun c h=>Q (.pan c) ⟨[],h⟩)):T V (.reg ks L) Q st:=T.reg t.run
end
end
section
open Go.RowKit
def rowB (k:KB) (i o:Nat):Option (Prop×List CV) :=
 match k with
 | .box cs=>some (i=0,cs.drop o)
 | .seq t L=>some (i<L.length,(t.enc (L.getD i t.dflt)).drop o)
 | _=>none
def winK (k:KB) (t:ETy) (i len:Nat):Option (Prop×List t.T) :=
 match k with
 | .seq t' M=>(match ETy.cast? t' t M with
  | some M=>some (i+len≤M.length,(M.drop i).take len)
  | none=>none)
 | _=>none
def stK (kb:Option (Prop×KB)) (h:KH) (b:Nat):Option (Prop×VOut) :=
 match kb with
 | some (G,kb)=>some (G,.val (.tup []) (KH.put h b kb))
 | none=>none
theorem toList_inj {a b:ByteArray}:(a.toList==b.toList)=decide (a=b):=by
 by_cases h:a=b
 ·grind
 ·rw[decide_eq_false h]
  have:¬a.toList=b.toList:=fun e=>h (by
   rw[ByteArray.toList_eq,ByteArray.toList_eq]at e
   cases a;simp_all)
  grind
set_option maxHeartbeats 1000000 in
theorem jxS:(∀E h b i o,jem E h (.ptr b i o)=rowB (h.get b) i o)∧(∀E h t x o,jem E h (.vp t x o)=some (True,(t.enc x).drop o))∧(∀E h g o,jem E h (.gptr g o)=match E g with
   | some cs=>some (True,cs.drop o)
   | none=>none) ∧
  (∀cs i o,rowB (.box cs) i o=some (i=0,cs.drop o))∧(∀t L i o,rowB (.seq t L) i o=some (i<L.length,(t.enc (L.getD i t.dflt)).drop o)) ∧
  (∀G c l h,ldW (some (G,c::l)) false 1 h=some (G,.val c h))∧(∀G a l n h,ldW (some (G,a::l)) true n h=if n≤(a::l).length then some (G,.val (.agg ((a::l).take n)) h) else none) ∧
  (∀b i o v n h,stW (.ptr b i o) v n h=if v.known&&v.cells.length==n then stK (jbk (h.get b) i o v.cells) h b else none) ∧
  (∀G kb h b,stK (some (G,kb)) h b=some (G,.val (.tup []) (KH.put h b kb))) ∧
  (∀r i o cs,jbk (.box r) i o cs=if o+cs.length≤r.length then some (i=0,.box (jbE r o cs)) else none) ∧
  (∀t L i o cs,jbk (.seq t L) i o cs=match t.dec (jbE (t.enc (L.getD i t.dflt)) o cs)with
   | some y=>some (i<L.length∧o+cs.length≤t.esz,.seq t (L.set i y))
   | none=>none) ∧
  (∀r o c,jbE r o [c]=r.set o c)∧(∀r o a b l,jbE r o (a::b::l)=r.take o++(a::b::l)++r.drop (o+(a::b::l).length))∧(∀r o,jbE r o []=r.take o++[]++r.drop o) ∧
  (∀i,KH.get [] i=.dead)∧(∀b h i,KH.get (b::h) i=if i=0 then b else KH.get h (i-1))∧(∀i x,KH.put [] i x=[])∧(∀b h i x,KH.put (b::h) i x=if i=0 then x::h else b::KH.put h (i-1) x) ∧
  (∀k n,CV.cells (.int k n)=[.int k n])∧(∀b,CV.cells (.bool b)=[.bool b])∧(∀s,CV.cells (.str s)=[.str s])∧(∀b i o,CV.cells (.ptr b i o)=[.ptr b i o])∧(∀t x o,CV.cells (.vp t x o)=[.vp t x o])∧(∀b i e n c,CV.cells (.slice b i e n c)=[.slice b i e n c])∧(∀t L,CV.cells (.vec t L)=[.vec t L])∧(CV.cells .zs=[.zs])∧(CV.cells .nils=[.nils])∧(∀l,CV.cells (.agg l)=l)∧(CV.cells .nilptr=[.nilptr])∧(∀F l,CV.cells (.fn F l)=[.fn F l])∧(CV.cells .nilfn=[.nilfn])∧(∀t c,CV.cells (.iface t c)=[.iface t c])∧(CV.cells .niliface=[.niliface])∧(∀g o,CV.cells (.gptr g o)=[.gptr g o]) ∧
  (∀k n,CV.known (.int k n)=true)∧(∀b,CV.known (.bool b)=true)∧(∀s,CV.known (.str s)=true)∧(∀b i o,CV.known (.ptr b i o)=true)∧(∀t x o,CV.known (.vp t x o)=true)∧(∀b i e n c,CV.known (.slice b i e n c)=true)∧(∀t L,CV.known (.vec t L)=true)∧(CV.known .zs=true)∧(CV.known .nils=true)∧(∀l,CV.known (.agg l)=l.all CV.one)∧(CV.known .nilptr=true)∧(∀F l,CV.known (.fn F l)=true)∧(CV.known .nilfn=true)∧(∀t c,CV.known (.iface t c)=true)∧(CV.known .niliface=true)∧(∀g o,CV.known (.gptr g o)=true) ∧
  (∀k n,CV.one (.int k n)=true)∧(∀b,CV.one (.bool b)=true)∧(∀s,CV.one (.str s)=true)∧(∀b i o,CV.one (.ptr b i o)=true)∧(∀t x o,CV.one (.vp t x o)=true)∧(∀b i e n c,CV.one (.slice b i e n c)=true)∧(∀t L,CV.one (.vec t L)=true)∧(CV.one .zs=true)∧(CV.one .nils=true)∧(CV.one .nilptr=true)∧(∀F l,CV.one (.fn F l)=true)∧(CV.one .nilfn=true)∧(∀t c,CV.one (.iface t c)=true)∧(CV.one .niliface=true)∧(∀g o,CV.one (.gptr g o)=true) ∧
  (∀t L,ETy.cast? t t L=some L) ∧
  (∀h t L,jbb h t (.vec t L)=some (True,L))∧(∀h t b i e n c,jbb h t (.slice b i e n c)=winK (h.get b) t i n)∧(∀h t,jbb h t .zs=some (True,[]))∧(∀h t,jbb h t .nils=some (True,[])) ∧
  (∀t L i n,winK (.seq t L) t i n=some (i+n≤L.length,(L.drop i).take n)) ∧
  (∀h s,jep h (.int .u8) (.str s)=some (True,jab s))∧(∀h t b i e n c,jep h t (.slice b i e n c)=winK (h.get b) t i n)∧(∀h t L,jep h t (.vec t L)=some (True,L))∧(∀h t,jep h t .zs=some (True,[]))∧(∀h t,jep h t .nils=some (True,[])) ∧
  (∀h b i e n c,jfi h (.slice b i e n c)=KH.put h b .dead)∧(∀h,jfi h .zs=h)∧(∀h,jfi h .nils=h) ∧
  (∀t b i e n c G1 L G2 M h,appW t (.slice b i e n c) (some (G1,L)) (some (G2,M)) h=some (G1∧G2∧L.length+M.length≤1073741824,.val (.slice h.length 0 t.esz (L.length+M.length) (L.length+M.length)) (KH.put h b .dead++[.seq t (L++M)]))) ∧
  (∀t G1 L G2 M h,appW t .zs (some (G1,L)) (some (G2,M)) h=some (G1∧G2∧L.length+M.length≤1073741824,.val (.slice h.length 0 t.esz (L.length+M.length) (L.length+M.length)) (h++[.seq t (L++M)]))) ∧
  (∀t G1 L G2 M h,appW t .nils (some (G1,L)) (some (G2,M)) h=some (G1∧G2∧L.length+M.length≤1073741824,.val (.slice h.length 0 t.esz (L.length+M.length) (L.length+M.length)) (h++[.seq t (L++M)]))) ∧
  (∀k n,ETy.enc (.int k) n=[.int k n])∧(∀b,ETy.enc .bool b=[.bool b])∧(∀s,ETy.enc .str s=[.str s])∧(∀t L,ETy.enc (.rows t) L=[.vec t L])∧(∀a b x,ETy.enc (.pair a b) x=a.enc x.1++b.enc x.2) ∧
  (∀k n,ETy.dec (.int k) [.int k n]=some n)∧(∀b,ETy.dec .bool [.bool b]=some b)∧(∀s,ETy.dec .str [.str s]=some s)∧(∀a b c d e f,ETy.dec .cell [.int .i32 a,.int .u8 b,.int .u32 c,.int .u32 d,.int .u8 e,.int .u16 f]=some ⟨a,b,c,d,e,f⟩)∧(∀t L,ETy.dec (.rows t) [.vec t L]=some L)∧(∀a b l,ETy.dec (.pair a b) l=match a.dec (l.take a.esz),b.dec (l.drop a.esz)with
   | some x,some y=>some (x,y)
   | _,_=>none) ∧
  (∀k,ETy.esz (.int k)=1)∧(ETy.esz .bool=1)∧(ETy.esz .str=1)∧(ETy.esz .cell=6)∧(∀t,ETy.esz (.rows t)=1)∧(∀a b,ETy.esz (.pair a b)=a.esz+b.esz) ∧
  (∀k,ETy.dflt (.int k)=(0:Int))∧(ETy.dflt .bool=false)∧(ETy.dflt .cell=(default:CD))∧(∀t,ETy.dflt (.rows t)=([]:List t.T))∧(∀a b,ETy.dflt (.pair a b)=(a.dflt,b.dflt)) ∧
  (∀F,jf4 [] F=none)∧(∀k c r F,jf4 ((k,c)::r) F=if F=k then some c else jf4 r F) ∧
  (∀c args h,jfk (some c) args h=match c args h with
   | some (G,.ret r,h')=>some (G∧h.length≤h'.length,.val r h')
   | some (G,.pan r,h')=>some (G∧h.length≤h'.length,.pan r h')
   | none=>none) ∧
  (∀F,bndV F (.agg [])=some (.mfn F))∧(∀F,CV.cells (.mfn F)=[.mfn F])∧(∀F,CV.known (.mfn F)=true)∧(∀F,CV.one (.mfn F)=true)∧(∀X F l h,jkc X (.mfn F) l h=jfk (jf4 X.G F) (.agg []::l) h) ∧
  (∀X F caps l h,jkc X (.fn F caps) l h=jfk (jf4 X.G F) (l++caps) h)∧(∀t c h,jrx (.iface t c) h=some (True,.pan (.iface t c) h)):=by
 repeat' constructor
 all_goals intros
 all_goals first
  | rfl
  | exact ETy.cast_same _ _
  | (simp[jbb,jep,winK,ETy.cast_same];done)
  | (simp[ldW,jfh];done)
  | (simp[ETy.dec];done)
  | skip
 ·grind [jem]
 ·rename_i G a l n h
  simp only[ldW,jfh]
  grind
 ·rename_i b h i
  cases i<;>rfl
 ·rename_i b h i x
  cases i<;>rfl
 ·grind [jbb,winK,ETy.cast?]
 ·grind [jep,jbb,winK,ETy.cast?]
 ·rename_i X F l h
  simp only[jkc,jgR,jfk]
  cases jf4 X.G F with
  | none=>rfl
  | some c =>
   dsimp only
   cases c (.agg []::l) h with
   | none=>rfl
   | some p =>
    obtain⟨G,r,h'⟩:=p
    cases r<;>rfl
 ·rename_i X F caps l h
  simp only[jkc,jgR,jfk]
  cases jf4 X.G F with
  | none=>rfl
  | some c =>
   dsimp only
   cases c (l++caps) h with
   | none=>rfl
   | some p =>
    obtain⟨G,r,h'⟩:=p
    cases r<;>rfl
end
section
open Go.RowKit
structure PD where
 fg:Int
 bg:Int
 attrs:Int
 link:Int
deriving DecidableEq,Inhabited
def CD.pen (c:CD):PD:=⟨c.fg,c.bg,c.attrs,c.link⟩
def ja4 (c:CD):CV:=.agg (ETy.enc .cell c)
def penV (p:PD):CV:=.agg [.int .u32 p.fg,.int .u32 p.bg,.int .u8 p.attrs,.int .u16 p.link]
theorem jry (n:Int):jag .i64 n=(-9223372036854775808≤n∧n≤9223372036854775807):=by simp[jag,IntKind.min,IntKind.max,IntKind.signed,IntKind.bits]
theorem jrz (n:Int):jag .i32 n=(-2147483648≤n∧n≤2147483647):=by simp[jag,IntKind.min,IntKind.max,IntKind.signed,IntKind.bits]
theorem jvE (n:Int):jag .u8 n=(0≤n∧n≤255):=by simp[jag,IntKind.min,IntKind.max,IntKind.signed,IntKind.bits]
theorem jrA (n:Int):jag .u16 n=(0≤n∧n≤65535):=by simp[jag,IntKind.min,IntKind.max,IntKind.signed,IntKind.bits]
theorem jrB (n:Int):jag .u32 n=(0≤n∧n≤4294967295):=by simp[jag,IntKind.min,IntKind.max,IntKind.signed,IntKind.bits]
theorem jrC (n:Int):jag .u64 n=(0≤n∧n≤18446744073709551615):=by simp[jag,IntKind.min,IntKind.max,IntKind.signed,IntKind.bits]
theorem jxT:(∀k a b h,ariW .add false (.int k a) (.int k b) h=some (jag k (a+b),.val (.int k (a+b)) h))∧(∀k a b h,ariW .add true (.int k a) (.int k b) h=some (True,.val (.int k (k.wrap (a+b))) h)) ∧
  (∀k a b h,ariW .sub false (.int k a) (.int k b) h=some (jag k (a-b),.val (.int k (a-b)) h))∧(∀k a b h,ariW .sub true (.int k a) (.int k b) h=some (True,.val (.int k (k.wrap (a-b))) h)) ∧
  (∀k a b h,ariW .mul false (.int k a) (.int k b) h=some (jag k (a*b),.val (.int k (a*b)) h))∧(∀k a b h,ariW .mul true (.int k a) (.int k b) h=some (True,.val (.int k (k.wrap (a*b))) h)) ∧
  (∀k a b h,ariW .quo false (.int k a) (.int k b) h=some (((a<0→a % b=0)∧0<b)∧jag k (a / b),.val (.int k (a / b)) h)) ∧
  (∀k a b h,ariW .rem false (.int k a) (.int k b) h=some ((0≤a∧0<b)∧jag k (a % b),.val (.int k (a % b)) h)) ∧
  (∀k a b h,ariW .and false (.int k a) (.int k b) h=some ((0≤a∧0≤b∧jag k a∧jag k b)∧jag k ((a.toNat &&& b.toNat:Nat):Int),.val (.int k ((a.toNat &&& b.toNat:Nat):Int)) h)) ∧
  (∀k a b h,ariW .or false (.int k a) (.int k b) h=some ((0≤a∧0≤b∧jag k a∧jag k b)∧jag k ((a.toNat ||| b.toNat:Nat):Int),.val (.int k ((a.toNat ||| b.toNat:Nat):Int)) h)) ∧
  (∀k a b h,ariW .xor false (.int k a) (.int k b) h=some ((0≤a∧0≤b∧jag k a∧jag k b)∧jag k ((a.toNat ^^^ b.toNat:Nat):Int),.val (.int k ((a.toNat ^^^ b.toNat:Nat):Int)) h)) ∧
  (∀k a k' b h,ariW .shr false (.int k a) (.int k' b) h=some ((0≤b∧b≤k.bits)∧jag k (a / 2 ^ b.toNat),.val (.int k (a / 2 ^ b.toNat)) h)) ∧
  (∀k a k' b h,ariW .shl true (.int k a) (.int k' b) h=some (0≤b∧b≤k.bits,.val (.int k (k.wrap (a*2 ^ b.toNat))) h)) ∧
  (∀k a k' b h,ariW .shl false (.int k a) (.int k' b) h=some ((0≤b∧b≤k.bits)∧jag k (a*2 ^ b.toNat),.val (.int k (a*2 ^ b.toNat)) h)) ∧
  (∀k a b h,cmpW .eql (.int k a) (.int k b) h=some (True,.val (.bool (decide (a=b))) h))∧(∀k a b h,cmpW .neq (.int k a) (.int k b) h=some (True,.val (.bool (!decide (a=b))) h)) ∧
  (∀k a b h,cmpW .lss (.int k a) (.int k b) h=some (True,.val (.bool (decide (a<b))) h))∧(∀k a b h,cmpW .leq (.int k a) (.int k b) h=some (True,.val (.bool (decide (a≤b))) h)) ∧
  (∀k a b h,cmpW .gtr (.int k a) (.int k b) h=some (True,.val (.bool (decide (b<a))) h))∧(∀k a b h,cmpW .geq (.int k a) (.int k b) h=some (True,.val (.bool (decide (b≤a))) h)) ∧
  (∀a b h,cmpW .eql (.str a) (.str b) h=some (True,.val (.bool (decide (a=b))) h))∧(∀a b h,cmpW .neq (.str a) (.str b) h=some (True,.val (.bool (!decide (a=b))) h)) ∧
  (∀a b h,juj false (.bool a) (.bool b) h=some (True,.val (.bool (a==b)) h))∧(∀a b h,juj true (.bool a) (.bool b) h=some (True,.val (.bool (!(a==b))) h)) ∧
  (∀G b h,juk (some (G,b)) false h=some (G,.val (.bool b) h))∧(∀G b h,juk (some (G,b)) true h=some (G,.val (.bool (!b)) h)) ∧
  (jen 0 .nilptr=some (True,true))∧(∀b i o,jen 0 (.ptr b i o)=some (True,false))∧(∀t x o,jen 0 (.vp t x o)=some (True,false))∧(∀g o,jen 0 (.gptr g o)=some (True,false))∧(jen 1 .nilfn=some (True,true))∧(∀F l,jen 1 (.fn F l)=some (True,false)) ∧
  (jen 2 .niliface=some (True,true))∧(∀t c,jen 2 (.iface t c)=some (True,false))∧(jen 3 .nils=some (True,true))∧(∀b i e n c,jen 3 (.slice b i e n c)=some (0<n,false))∧(∀t L,jen 3 (.vec t L)=some (0<L.length,false)) ∧
  (∀b h,unW .not (.bool b) h=some (True,.val (.bool (!b)) h))∧(∀k n h,unW .neg (.int k n) h=some (jag k (-n),.val (.int k (-n)) h)) ∧
  (∀k k' n h,jrw k false (.int k' n) h=some (jag k n,.val (.int k n) h))∧(∀k k' n h,jrw k true (.int k' n) h=some (True,.val (.int k (k.wrap n)) h)) ∧
  (∀k a b h,mmW true (.int k a) (.int k b) h=some (True,.val (.int k (max a b)) h))∧(∀k a b h,mmW false (.int k a) (.int k b) h=some (True,.val (.int k (min a b)) h)) ∧
  (∀ks neg l m h,eqAW ks neg (.agg l) (.agg m) h=match jbn ks l m with
   | some r=>some (True,.val (.bool (if neg then !r else r)) h)
   | none=>none)∧(jbn [] [] []=some true)∧(∀q ks a l b m,jbn (q::ks) (.int q a::l) (.int q b::m)=match jbn ks l m with
   | some r=>some (decide (a=b)&&r)
   | none=>none) ∧
  (∀c d h,eqAW [.i32,.u8,.u32,.u32,.u8,.u16] false (ja4 c) (ja4 d) h=some (True,.val (.bool (decide (c=d))) h))∧(∀c d h,eqAW [.i32,.u8,.u32,.u32,.u8,.u16] true (ja4 c) (ja4 d) h=some (True,.val (.bool (!decide (c=d))) h)) ∧
  (∀c d h,eqAW [.u32,.u32,.u8,.u16] false (penV c) (penV d) h=some (True,.val (.bool (decide (c=d))) h))∧(∀c d h,eqAW [.u32,.u32,.u8,.u16] true (penV c) (penV d) h=some (True,.val (.bool (!decide (c=d))) h)):=by
 repeat' constructor
 all_goals intros
 all_goals first
  | rfl
  | (simp[ariW,ariK,bitK];done)
  | (simp[cmpW,cmpI];done)
  | grind [cmpW,cmpS,toList_inj]
  | (simp[unW,jrw,mmW];done)
  | skip
 ·rename_i q ks a l b m
  simp only[jbn,and_self,if_true]
  grind
 ·rename_i c d h
  obtain⟨a1,a2,a3,a4,a5,a6⟩:=c
  obtain⟨b1,b2,b3,b4,b5,b6⟩:=d
  simp[eqAW,ja4,ETy.enc,jbn,CD.mk.injEq,qae]
 ·rename_i c d h
  obtain⟨a1,a2,a3,a4,a5,a6⟩:=c
  obtain⟨b1,b2,b3,b4,b5,b6⟩:=d
  simp[eqAW,ja4,ETy.enc,jbn,CD.mk.injEq,qae]
 ·rename_i c d h
  obtain⟨a1,a2,a3,a4⟩:=c
  obtain⟨b1,b2,b3,b4⟩:=d
  simp[eqAW,penV,jbn,PD.mk.injEq,qae]
 ·rename_i c d h
  obtain⟨a1,a2,a3,a4⟩:=c
  obtain⟨b1,b2,b3,b4⟩:=d
  simp[eqAW,penV,jbn,PD.mk.injEq,qae]
theorem E_sl:(∀s h,lenW true (.str s) h=some (True,.val (.int .i64 s.size) h))∧(∀t L h,lenW false (.vec t L) h=some (True,.val (.int .i64 L.length) h))∧(∀b i e n c h,lenW false (.slice b i e n c) h=some (True,.val (.int .i64 n) h))∧(∀h,lenW false .zs h=some (True,.val (.int .i64 0) h))∧(∀h,lenW false .nils h=some (True,.val (.int .i64 0) h)) ∧
  (∀s h,s2bW (.str s) h=some (s.size≤1073741824,.val (.slice h.length 0 1 s.size s.size) (h++[.seq (.int .u8) (jab s)])))∧(∀G L h,b2sW (some (G,L)) h=some (G,.val (.str (jaJ L)) h)) ∧
  (∀t k n k' m h,jul t (.int k n) (.int k' m) h=some (0≤n∧n≤m∧m≤1073741824,.val (.slice h.length 0 t.esz n.toNat m.toNat) (h++[.seq t (qah n.toNat t.dflt)]))) ∧
  (∀len esz x k n h,ixAW len esz x (.int k n) h=match jeg x (n.toNat*esz)with
   | some c=>some (0≤n∧n<len,.val c h)
   | none=>none) ∧
  (∀c h,one2 (some c) h=some (True,.val c h))∧(∀G c h,mk2 (some (G,c)) h=some (G,.val c h)) ∧
  (∀s k n h,ixVW (.str s) (.int k n) h=some (0≤n∧n<s.size,.val (.int .u8 ((jab s).getD n.toNat 0)) h)) ∧
  (∀l off n,jdh (.agg l) off n true=if n≤(l.drop off).length then some (.agg ((l.drop off).take n)) else none)∧(∀l off,jdh (.agg l) off 1 false=l[off]?)∧(∀l i,extW (.tup l) i=l[i]?) ∧
  (∀len esz agg l k n h,ixCW len esz agg (.agg l) (.int k n) h=match jh1 l (n.toNat*esz) esz agg with
   | some c=>some (0≤n∧n<len,.val c h)
   | none=>none)∧(∀l o n a,jh1 l o n a=jfh a n (l.drop o))∧(∀n r,jfh true n r=if n≤r.length then some (.agg (r.take n)) else none)∧(∀c r,jfh false 1 (c::r)=some c)∧(∀k n h,i2sW (.int k n) h=some (True,.val (.str (Utf8.encode n)) h))∧(∀a b h,catW (.str a) (.str b) h=some (a.size+b.size≤9223372036854775807,.val (.str (a++b)) h)) ∧
  (∀st s,jef st (.str s)=st)∧(∀st t L,jef st (.vec t L)=!st)∧(∀st b i e n c,jef st (.slice b i e n c)=!st)∧(∀st,jef st .zs=!st)∧(∀st,jef st .nils=!st) ∧
  (∀t L,jeq (.vec t L)=true)∧(∀b i e n c,jeq (.slice b i e n c)=true)∧(jeq .zs=true)∧(jeq .nils=true) ∧
  (∀n,bdK n none none none=some (True,0,n,none))∧(∀n k a,bdK n (some (.int k a)) none none=some (0≤a,a.toNat,n,none))∧(∀n k b,bdK n none (some (.int k b)) none=some (0≤b,0,b.toNat,none))∧(∀n k a k' b,bdK n (some (.int k a)) (some (.int k' b)) none=some (0≤a∧0≤b,a.toNat,b.toNat,none)) ∧
  (∀n k a k' b k2 c,bdK n (some (.int k a)) (some (.int k' b)) (some (.int k2 c))=some (0≤a∧0≤b∧0≤c,a.toNat,b.toNat,some c.toNat)) ∧
  (∀e s lo hi,slK e (.str s) lo hi none=match bdK s.size lo hi none with
   | some (G,l,u,_)=>some (G∧l≤u∧u≤s.size,.str (s.extract l u))
   | none=>none) ∧
  (∀e b i n c lo hi mx,slK e (.slice b i e n c) lo hi mx=match bdK n lo hi mx with
   | some (G,l,u,mo)=>some (G∧l≤u∧u≤mo.getD c∧mo.getD c≤c,.slice b (i+l) e (u-l) (mo.getD c-l))
   | none=>none) ∧
  (∀e t L lo hi mx,slK e (.vec t L) lo hi mx=if t.esz=e then (match bdK L.length lo hi mx with
   | some (G,l,u,mo)=>some (G∧l≤u∧u≤mo.getD L.length∧mo.getD L.length≤L.length,.vec t ((L.drop l).take (u-l)))
   | none=>none) else none) ∧
  (∀e b j n c k i,ixSK e (.slice b j e n c) (.int k i)=some (0≤i∧i<n,.ptr b (j+i.toNat) 0))∧(∀e t L k i,ixSK e (.vec t L) (.int k i)=if t.esz=e then some (0≤i∧i<L.length,.vp t (L.getD i.toNat t.dflt) 0) else none) ∧
  (∀b i o d,jeg (.ptr b i o) d=some (.ptr b i (o+d)))∧(∀t y o d,jeg (.vp t y o) d=some (.vp t y (o+d)))∧(∀g o d,jeg (.gptr g o) d=some (.gptr g (o+d))) ∧
  (∀fr z,jgM fr z []=some z)∧(∀fr z off size x r,jgM fr z ((off,size,x)::r)=if (x.ev fr).known&&(x.ev fr).cells.length==size&&decide (off+size≤z.length) then jgM fr (jbE z off (x.ev fr).cells) r else none) ∧
  (∀t fr,jc9 t fr []=some [])∧(∀t fr x r,jc9 t fr (x::r)=if (x.ev fr).known then (match t.dec (x.ev fr).cells,jc9 t fr r with
   | some y,some l=>some (y::l)
   | _,_=>none) else none):=by
 repeat' constructor
 all_goals intros
 all_goals first
  | rfl
  | (simp[bdK,jim];done)
  | (simp[lenW,jef,lenK,jul,ixVW,jdh,jh1,jfh,extW,ixSK,mk2];done)
  | skip
 ·rename_i l off
  simp only[jdh,jh1,jfh]
  by_cases q:1≤(l.drop off).length
  ·simp_all
  grind
 ·rename_i e s lo hi
  simp only[slK]
  have hm:∀G l u mo,bdK s.size lo hi none=some (G,l,u,mo)→mo=none:=fun G l u mo e=>by
   grind [bdK]
  grind
 ·rename_i e b i n c lo hi mx
  simp only[slK,if_true]
  cases bdK n lo hi mx<;>rfl
theorem jvF:(∀c,CV.cells (ja4 c)=ETy.enc .cell c)∧(∀c,CV.known (ja4 c)=true)∧(∀p,CV.cells (penV p)=[.int .u32 p.fg,.int .u32 p.bg,.int .u8 p.attrs,.int .u16 p.link])∧(∀p,CV.known (penV p)=true)∧(∀c,(ETy.enc .cell c).length=6) ∧
  (∀c,ETy.dec .cell (ETy.enc .cell c)=some c) ∧
  (∀a b c d e f,CV.agg [.int .i32 a,.int .u8 b,.int .u32 c,.int .u32 d,.int .u8 e,.int .u16 f]=ja4 ⟨a,b,c,d,e,f⟩)∧(∀a b c d,CV.agg [.int .u32 a,.int .u32 b,.int .u8 c,.int .u16 d]=penV ⟨a,b,c,d⟩) ∧
  (∀G c h,ldW (some (G,ETy.enc .cell c)) true 6 h=some (G,.val (ja4 c) h))∧(∀G c h,ldW (some (G,ETy.enc .cell c)) false 1 h=some (G,.val (.int .i32 c.rune) h))∧(∀G c h,ldW (some (G,(ETy.enc .cell c).drop 1)) false 1 h=some (G,.val (.int .u8 c.wide) h)) ∧
  (∀G c h,ldW (some (G,(ETy.enc .cell c).drop 2)) true 4 h=some (G,.val (penV c.pen) h))∧(∀G c h,ldW (some (G,(ETy.enc .cell c).drop 2)) false 1 h=some (G,.val (.int .u32 c.fg) h))∧(∀G c h,ldW (some (G,(ETy.enc .cell c).drop 3)) false 1 h=some (G,.val (.int .u32 c.bg) h))∧(∀G c h,ldW (some (G,(ETy.enc .cell c).drop 4)) false 1 h=some (G,.val (.int .u8 c.attrs) h))∧(∀G c h,ldW (some (G,(ETy.enc .cell c).drop 5)) false 1 h=some (G,.val (.int .u16 c.link) h)) ∧
  (∀c,jdh (ja4 c) 0 1 false=some (.int .i32 c.rune))∧(∀c,jdh (ja4 c) 1 1 false=some (.int .u8 c.wide))∧(∀c,jdh (ja4 c) 2 4 true=some (penV c.pen))∧(∀p,jdh (penV p) 0 1 false=some (.int .u32 p.fg))∧(∀p,jdh (penV p) 1 1 false=some (.int .u32 p.bg))∧(∀p,jdh (penV p) 2 1 false=some (.int .u8 p.attrs))∧(∀p,jdh (penV p) 3 1 false=some (.int .u16 p.link)) ∧
  (∀L i c,jbk (.seq .cell L) i 0 (ETy.enc .cell c)=some (i<L.length∧0+(ETy.enc .cell c).length≤ETy.esz .cell,.seq .cell (L.set i c))) ∧
  (∀L i n,jbk (.seq .cell L) i 0 [.int .i32 n]=some (i<L.length,.seq .cell (L.set i { L.getD i (ETy.dflt .cell)with rune:=n })))∧(∀L i n,jbk (.seq .cell L) i 1 [.int .u8 n]=some (i<L.length,.seq .cell (L.set i { L.getD i (ETy.dflt .cell)with wide:=n }))) ∧
  (∀L i n,jbk (.seq .cell L) i 5 [.int .u16 n]=some (i<L.length,.seq .cell (L.set i { L.getD i (ETy.dflt .cell)with link:=n }))) ∧
  (∀a b c d e f x,jbE [a,b,c,d,e,f] 0 (ETy.enc .cell x)=ETy.enc .cell x)∧(∀y x,jbE (ETy.enc .cell y) 0 (ETy.enc .cell x)=ETy.enc .cell x) ∧
  (∀x n,(ETy.enc .cell x).set 0 (.int .i32 n)=ETy.enc .cell { x with rune:=n })∧(∀x n,(ETy.enc .cell x).set 1 (.int .u8 n)=ETy.enc .cell { x with wide:=n })∧(∀x n,(ETy.enc .cell x).set 2 (.int .u32 n)=ETy.enc .cell { x with fg:=n })∧(∀x n,(ETy.enc .cell x).set 3 (.int .u32 n)=ETy.enc .cell { x with bg:=n })∧(∀x n,(ETy.enc .cell x).set 4 (.int .u8 n)=ETy.enc .cell { x with attrs:=n })∧(∀x n,(ETy.enc .cell x).set 5 (.int .u16 n)=ETy.enc .cell { x with link:=n }) ∧
  (∀x a b c d,jbE (ETy.enc .cell x) 2 [.int .u32 a,.int .u32 b,.int .u8 c,.int .u16 d]=ETy.enc .cell ⟨x.rune,x.wide,a,b,c,d⟩) ∧
  (∀p:PD,PD.mk p.fg p.bg p.attrs p.link=p)∧(∀c:CD,CD.mk c.rune c.wide c.fg c.bg c.attrs c.link=c)∧(∀c,(ja4 c).cells=ETy.enc .cell c)∧(∀c:CD,PD.mk c.fg c.bg c.attrs c.link=c.pen):=by
 repeat' constructor
 all_goals intros
 all_goals first
  | rfl
  | (simp[jbk,ETy.enc,ETy.esz,jbE,ETy.dec];done)
  | skip
end
section
open Go.RowKit
def goT (spec:Spec) (H:KH) (v:Option (Prop×List CV×List Nat)):Option (Prop×Res×KH) :=
 match v with
 | some (G,args,bs)=>match spec args with
  | some (G',r)=>some (G∧G'∧(jey r&&(bs.isEmpty || (nvR (ja9 0 r).1&&(ja9 0 r).2.all nvB)))=true,(ja9 H.length r).1,H++(ja9 H.length r).2)
  | none=>none
 | none=>none
def goF (spec:Spec) (H:KH) (v:Option (Prop×List CV×List Nat)):Option (Prop×Res×KH) :=
 match v with
 | some (G,args,bs)=>match spec args with
  | some (G',r)=>some (G∧G'∧(jey r&&(bs.isEmpty || (nvR (ja9 0 r).1&&(ja9 0 r).2.all nvB)))=true,r,H)
  | none=>none
 | none=>none
def goA (spec:Spec) (H:KH) (v:Option (Prop×List CV×List Nat)):Option (Prop×Res×KH) :=
 match v with
 | some (G,args,bs)=>match spec args with
  | some (G',r)=>some (G∧G'∧(bs.isEmpty&&(match r with | .ret c=>idf c | .pan c=>idf c))=true,r,H)
  | none=>none
 | none=>none
def purW (k:KB) (t:ETy) (b i n c:Nat):Option (Prop×CV×List Nat) :=
 match k with
 | .seq t' M=>(match ETy.cast? t' t ((M.drop i).take n)with
  | some L=>some (i+n≤M.length∧n≤c,.vec t L,[b])
  | none=>none)
 | _=>none
def cpyW (t:ETy) (x:CV) (a:Option (Prop×List t.T)) (h:KH):Option (Prop×VOut) :=
 match x with
 | .slice b i _ len _=>(match h.get b,a with
  | .seq t' M,some (G,L)=>(match ETy.cast? t t' L with
   | some L'=>some (G∧i+len≤M.length,.val (.int .i64 (min L'.length len:Nat)) (KH.put h b (.seq t' (M.take i++L'.take (min L'.length len)++M.drop (i+min L'.length len)))))
   | none=>none)
  | _,_=>none)
 | .zs | .nils=>(match a with
  | some (G,_)=>some (G,.val (.int .i64 0) h)
  | none=>none)
 | _=>none
def cpyK (t:ETy) (k:KB) (G:Prop) (L:List t.T) (b i len:Nat) (h:KH):Option (Prop×VOut) :=
 match k with
 | .seq t' M=>(match ETy.cast? t t' L with
   | some L'=>some (G∧i+len≤M.length,.val (.int .i64 (min L'.length len:Nat)) (KH.put h b (.seq t' (M.take i++L'.take (min L'.length len)++M.drop (i+min L'.length len)))))
   | none=>none)
 | _=>none
def nxtK (k:KB) (b:Nat) (h:KH):Option (Prop×VOut) :=
 match k with
 | .iter s p=>if p<s.size then some (True,.val (.tup [.bool true,.int .i64 p,.int .i32 (Utf8.decode s p).1]) (KH.put h b (.iter s (p+(Utf8.decode s p).2)))) else some (True,.val (.tup [.bool false]) h)
 | _=>none
def nxtW (x:CV) (h:KH):Option (Prop×VOut) :=
 match x with
 | .ptr b 0 0=>nxtK (h.get b) b h
 | _=>none
def rngW (x:CV) (h:KH):Option (Prop×VOut) :=
 match x with
 | .str s=>some (True,.val (.ptr h.length 0 0) (h++[.iter s 0]))
 | _=>none
def tasW (t:TypeId) (ok:Bool) (zero x:CV) (h:KH):Option (Prop×VOut) :=
 match x with
 | .iface t' c=>if t'=t then some (True,.val (if ok then .tup [c,.bool true] else c) h) else if ok then some (True,.val (.tup [zero,.bool false]) h) else none
 | .niliface=>if ok then some (True,.val (.tup [zero,.bool false]) h) else none
 | _=>none
theorem jxU:(∀X fr h t x y,opV X (.cpy t x y) fr h=cpyW t (x.ev fr) (jep h t (y.ev fr)) h)∧(∀X fr h x,opV X (.rng x) fr h=rngW (x.ev fr) h)∧(∀X fr h x,opV X (.nxt x) fr h=nxtW (x.ev fr) h)∧(∀X fr h t ok z x,opV X (.tas t ok z x) fr h=tasW t ok z (x.ev fr) h) ∧
  (∀t b i e len c G L h,cpyW t (.slice b i e len c) (some (G,L)) h=cpyK t (h.get b) G L b i len h)∧(∀t G L h,cpyW t .zs (some (G,L)) h=some (G,.val (.int .i64 0) h))∧(∀t G L h,cpyW t .nils (some (G,L)) h=some (G,.val (.int .i64 0) h)) ∧
  (∀t M G L b i len h,cpyK t (.seq t M) G L b i len h=some (G∧i+len≤M.length,.val (.int .i64 (min L.length len:Nat)) (KH.put h b (.seq t (M.take i++L.take (min L.length len)++M.drop (i+min L.length len)))))) ∧
  (∀s h,rngW (.str s) h=some (True,.val (.ptr h.length 0 0) (h++[.iter s 0])))∧(∀b h,nxtW (.ptr b 0 0) h=nxtK (h.get b) b h)∧(∀s p b h,nxtK (.iter s p) b h=if p<s.size then some (True,.val (.tup [.bool true,.int .i64 p,.int .i32 (Utf8.decode s p).1]) (KH.put h b (.iter s (p+(Utf8.decode s p).2)))) else some (True,.val (.tup [.bool false]) h)) ∧
  (∀t ok z t' c h,tasW t ok z (.iface t' c) h=if t'=t then some (True,.val (if ok then .tup [c,.bool true] else c) h) else if ok then some (True,.val (.tup [z,.bool false]) h) else none)∧(∀t ok z h,tasW t ok z .niliface h=if ok then some (True,.val (.tup [z,.bool false]) h) else none):=by
 refine⟨fun X fr h t x y=>?_,fun _ _ _ x=>?_,fun _ _ _ x=>?_,fun _ _ _ t ok z x=>?_,fun t b i e len c G L h=>?_,fun _ _ _ _=>rfl,fun _ _ _ _=>rfl,fun t M G L b i len h=>?_,fun _ _=>rfl,fun _ _=>rfl,fun _ _ _ _=>rfl,fun _ _ _ _ _ _=>rfl,fun _ _ _ _=>rfl⟩
 ·simp only[opV,jaf,cpyW]
  grind
 ·simp only[opV,jaf,rngW]
  grind
 ·simp only[opV,jaf,nxtW,nxtK]
  grind
 ·simp only[opV,jaf,tasW]
  grind
 ·simp only[cpyW,cpyK]
  cases h.get b<;>rfl
 ·simp only[cpyK,ETy.cast_same]
def jwp (a:Option (Prop×CV)) (b:Option (Prop×List CV)):Option (Prop×List CV) :=
 match a,b with
 | some (G,c),some (G',l')=>some (G∧G',c::l')
 | _,_=>none
def outR (v:Option (Prop×VOut)):Option (Prop×CV) :=
 match v with
 | some (G,.val c _)=>some (G,c)
 | _=>none
theorem jxV:(∀ks spec ARGS H,conT ks spec ARGS H=goT spec H (purL H ks ARGS))∧(∀ks spec ARGS H,conF ks spec ARGS H=goF spec H (purL H ks ARGS))∧(∀ks spec ARGS H,conA ks spec ARGS H=goA spec H (purL H ks ARGS)) ∧
  (∀spec H G args bs,goT spec H (some (G,args,bs))=match spec args with
   | some (G',r)=>some (G∧G'∧(jey r&&(bs.isEmpty || (nvR (ja9 0 r).1&&(ja9 0 r).2.all nvB)))=true,(ja9 H.length r).1,H++(ja9 H.length r).2)
   | none=>none) ∧
  (∀spec H G args bs,goF spec H (some (G,args,bs))=match spec args with
   | some (G',r)=>some (G∧G'∧(jey r&&(bs.isEmpty || (nvR (ja9 0 r).1&&(ja9 0 r).2.all nvB)))=true,r,H)
   | none=>none) ∧
  (∀spec H G args bs,goA spec H (some (G,args,bs))=match spec args with
   | some (G',.ret c)=>some (G∧G'∧(bs.isEmpty&&idf c)=true,.ret c,H)
   | some (G',.pan c)=>some (G∧G'∧(bs.isEmpty&&idf c)=true,.pan c,H)
   | none=>none) ∧
  (∀H,purL H [] []=some (True,[],[]))∧(∀H k ks c l,purL H (k::ks) (c::l)=match purV H k c,purL H ks l with
   | some (G,c',bs),some (G',l',bs')=>some (G∧G',c'::l',bs++bs')
   | _,_=>none) ∧
  (∀H c,purV H .any c=if idf c=true then some (True,c,[]) else none)∧(∀H t L,purV H (.sl t) (.vec t L)=some (True,.vec t L,[]))∧(∀H t b i e n c,purV H (.sl t) (.slice b i e n c)=purW (H.get b) t b i n c)∧(∀H t,purV H (.sl t) .zs=some (True,.vec t [],[]))∧(∀H t,purV H (.sl t) .nils=some (True,.vec t [],[])) ∧
  (∀H ks l,purV H (.agg ks) (.agg l)=match purL H ks l with
   | some (G,l',bs)=>some (G,.agg l',bs)
   | none=>none) ∧
  (∀t M b i n c,purW (.seq t M) t b i n c=some (i+n≤M.length∧n≤c,.vec t ((M.drop i).take n),[b])) ∧
  (∀k t L,jaP k (.vec t L)=(.slice k 0 t.esz L.length L.length,[.seq t L]))∧(∀k l,jaP k (.agg l)=(.agg (jb3 k l).1,(jb3 k l).2))∧(∀k l,jaP k (.tup l)=(.tup (jb3 k l).1,(jb3 k l).2)) ∧
  (∀k q n,jaP k (.int q n)=(.int q n,[]))∧(∀k b,jaP k (.bool b)=(.bool b,[]))∧(∀k b,jaP k (.str b)=(.str b,[]))∧(∀k,jaP k .zs=(.zs,[]))∧(∀k,jaP k .nils=(.nils,[]))∧(∀k,jaP k .nilptr=(.nilptr,[]))∧(∀k,jaP k .niliface=(.niliface,[]))∧(∀k t c,jaP k (.iface t c)=(.iface t c,[])) ∧
  (∀k,jb3 k []=([],[]))∧(∀k c l,jb3 k (c::l)=((jaP k c).1::(jb3 (k+(jaP k c).2.length) l).1,(jaP k c).2++(jb3 (k+(jaP k c).2.length) l).2))∧(∀k c,ja9 k (.ret c)=(.ret (jaP k c).1,(jaP k c).2))∧(∀k c,ja9 k (.pan c)=(.pan c,[])) ∧
  (∀t L,ja0 (.vec t L)=true)∧(∀l,ja0 (.agg l)=jeh l)∧(∀l,ja0 (.tup l)=jeh l)∧(∀q n,ja0 (.int q n)=true)∧(∀b,ja0 (.bool b)=true)∧(∀b,ja0 (.str b)=true)∧(ja0 .zs=true)∧(ja0 .nils=true)∧(ja0 .nilptr=true)∧(ja0 .niliface=true)∧(∀t c,ja0 (.iface t c)=(idf c&&nvV c)) ∧
  (jeh []=true)∧(∀c l,jeh (c::l)=(ja0 c&&jeh l))∧(∀c,jey (.ret c)=ja0 c)∧(∀c,jey (.pan c)=(idf c&&nvV c)) ∧
  (∀q n,idf (.int q n)=true)∧(∀b,idf (.bool b)=true)∧(∀b,idf (.str b)=true)∧(∀t L,idf (.vec t L)=true)∧(∀t x o,idf (.vp t x o)=true)∧(idf .zs=true)∧(idf .nils=true)∧(idf .nilptr=true)∧(idf .niliface=true)∧(∀l,idf (.agg l)=idfL l)∧(∀l,idf (.tup l)=idfL l)∧(∀t c,idf (.iface t c)=idf c)∧(idfL []=true)∧(∀c l,idfL (c::l)=(idf c&&idfL l))∧(∀c,idf (ja4 c)=true)∧(∀p,idf (penV p)=true)∧(∀b i o,idf (.ptr b i o)=false)∧(∀b i e n c,idf (.slice b i e n c)=false) ∧
  (∀q n,nvV (.int q n)=true)∧(∀b,nvV (.bool b)=true)∧(∀b,nvV (.str b)=true)∧(∀t L,nvV (.vec t L)=false)∧(∀t x o,nvV (.vp t x o)=false)∧(nvV .zs=true)∧(nvV .nils=true)∧(nvV .nilptr=true)∧(nvV .niliface=true)∧(∀l,nvV (.agg l)=nvL l)∧(∀l,nvV (.tup l)=nvL l)∧(∀t c,nvV (.iface t c)=nvV c)∧(nvL []=true)∧(∀c l,nvL (c::l)=(nvV c&&nvL l))∧(∀c,nvV (ja4 c)=true)∧(∀p,nvV (penV p)=true)∧(∀b i o,nvV (.ptr b i o)=true)∧(∀b i e n c,nvV (.slice b i e n c)=true) ∧
  (∀l,nvB (.box l)=nvL l)∧(∀t L,nvB (.seq t L)=flat t)∧(nvB .dead=true)∧(∀k,flat (.int k)=true)∧(flat .bool=true)∧(flat .str=true)∧(flat .cell=true)∧(∀t,flat (.rows t)=false)∧(∀a b,flat (.pair a b)=(flat a&&flat b))∧(∀c,nvR (.ret c)=nvV c)∧(∀c,nvR (.pan c)=nvV c) ∧
  (∀k c,jaP k (ja4 c)=(ja4 c,[]))∧(∀k c,jaP k (penV c)=(penV c,[]))∧(∀c,ja0 (ja4 c)=true)∧(∀c,ja0 (penV c)=true):=by
 repeat' constructor
 all_goals intros
 all_goals first
  | rfl
  | (simp[purV,purW,ETy.cast_same];done)
  | skip
 ·rename_i spec H G args bs
  simp only[goA]
  grind
 grind [purV,purW,ETy.cast?]
theorem jxW:(∀ρ fz h k a k' b,crs ρ fz h (.int k a) (.int k' b)=(k=k'∧a=b))∧(∀ρ fz h a b,crs ρ fz h (.bool a) (.bool b)=(a=b))∧(∀ρ fz h a b,crs ρ fz h (.str a) (.str b)=(a=b))∧(∀ρ fz h c,crs ρ fz h c .undef=True) ∧
  (∀ρ fz h b i o b' i' o',crs ρ fz h (.ptr b i o) (.ptr b' i' o')=(ρ[b']?=some b∧i=i'∧o=o'))∧(∀ρ fz h t x o y o',crs ρ fz h (.vp t x o) (.vp t y o')=(x=y∧o=o'))∧(∀ρ fz h b o b' o',crs ρ fz h (.gptr b o) (.gptr b' o')=(b=b'∧o=o'))∧(∀ρ fz h,crs ρ fz h .nilptr .nilptr=True) ∧
  (∀ρ fz h b i e n c b' i' e' n' c',crs ρ fz h (.slice b i e n c) (.slice b' i' e' n' c')=(ρ[b']?=some b∧i=i'∧e=e'∧n=n'∧c'≤c)) ∧
  (∀ρ fz h b i e n c t L,crs ρ fz h (.slice b i e n c) (.vec t L)=(memB b fz=true∧n≤c∧match h.get b with
   | .seq t' M=>i+n≤M.length∧ETy.cast? t' t ((M.drop i).take n)=some L
   | _=>False)) ∧
  (∀ρ fz h t L L',crs ρ fz h (.vec t L) (.vec t L')=(L=L'))∧(∀ρ fz h,crs ρ fz h .zs .zs=True)∧(∀ρ fz h t L,crs ρ fz h .zs (.vec t L)=(L=[]))∧(∀ρ fz h b i e n c,crs ρ fz h .zs (.slice b i e n c)=(n=0∧c=0))∧(∀ρ fz h,crs ρ fz h .nils .nils=True)∧(∀ρ fz h,crs ρ fz h .nils .zs=True)∧(∀ρ fz h t L,crs ρ fz h .nils (.vec t L)=(L=[]))∧(∀ρ fz h b i e n c,crs ρ fz h .nils (.slice b i e n c)=(n=0∧c=0)) ∧
  (∀ρ fz h F l F' l',crs ρ fz h (.fn F l) (.fn F' l')=(F=F'∧crsL ρ fz h l l'))∧(∀ρ fz h,crs ρ fz h .nilfn .nilfn=True)∧(∀ρ fz h F G,crs ρ fz h (.mfn F) (.mfn G)=(F=G))∧(∀ρ fz h t c t' c',crs ρ fz h (.iface t c) (.iface t' c')=(t=t'∧crs ρ fz h c c'))∧(∀ρ fz h,crs ρ fz h .niliface .niliface=True)∧(∀ρ fz h l l',crs ρ fz h (.agg l) (.agg l')=crsL ρ fz h l l')∧(∀ρ fz h l l',crs ρ fz h (.tup l) (.tup l')=crsL ρ fz h l l') ∧
  (∀ρ fz h,crsL ρ fz h [] []=True)∧(∀ρ fz h c l c' l',crsL ρ fz h (c::l) (c'::l')=(crs ρ fz h c c'∧crsL ρ fz h l l')) ∧
  (∀ρ fz h k,crsB ρ fz h k .dead=True)∧(∀ρ fz h l l',crsB ρ fz h (.box l) (.box l')=crsL ρ fz h l l')∧(∀ρ fz h t L L',crsB ρ fz h (.seq t L) (.seq t L')=(L=L'))∧(∀ρ fz h s p s' p',crsB ρ fz h (.iter s p) (.iter s' p')=(s=s'∧p=p')) ∧
  (∀ρ fz h,crsH ρ fz h [] []=True)∧(∀ρ fz h b r k h',crsH ρ fz h (b::r) (k::h')=((if h.length≤b then jaE k else crsB ρ fz h (h.get b) k)∧crsH ρ fz h r h'))∧(∀t L,jaE (.seq t L)=(L=[]))∧(jaE .dead=True) ∧
  (∀ρ fz h fr,crsF ρ fz h fr []=True)∧(∀ρ fz h fr n c r,crsF ρ fz h fr ((n,c)::r)=(crs ρ fz h (fr.get n) c∧crsF ρ fz h fr r)) ∧
  (∀ρ fz h c d,crs ρ fz h (ja4 c) (ja4 d)=(c=d))∧(∀ρ fz h c d,crs ρ fz h (penV c) (penV d)=(c=d)) ∧
  (∀E n0 ts c h' s,retQ E n0 ts (.ret c) h' .norm s=retP (jh2 E s.h s.fr ts) fun c0=>Cos n0 ⟨[(0,c0)],s.h⟩ ⟨[(0,c)],h'⟩)∧(∀E n0 ts c h' s,retQ E n0 ts (.ret c) h' .ret s=retP (jh2 E s.h s.fr ts) fun c0=>Cos n0 ⟨[(0,c0)],s.h⟩ ⟨[(0,c)],h'⟩)∧(∀E n0 ts c c' h' s,retQ E n0 ts (.pan c') h' (.pan c) s=Cos n0 ⟨[(0,c)],s.h⟩ ⟨[(0,c')],h'⟩) ∧
  (∀E h fr,jh2 E h fr []=some (True,[]))∧(∀E h fr x l,jh2 E h fr (x::l)=jwp (jlc E h fr x) (jh2 E h fr l))∧(∀G c G' l,jwp (some (G,c)) (some (G',l))=some (G∧G',c::l))∧(∀E h fr n,jlc E h fr (.t n)=some (True,fr.get n))∧(∀E h fr a agg n,jlc E h fr (.c a agg n)=outR (ldW (jem E h (fr.get a)) agg n []))∧(∀G c h,outR (some (G,.val c h))=some (G,c)) ∧
  (∀G l K,retP (some (G,l)) K=(G∧K (tupV l)))∧(∀c,tupV [c]=c)∧(tupV []=.tup [])∧(∀a b l,tupV (a::b::l)=.tup (a::b::l))∧(∀i,jdX i []=[])∧(∀i c l,jdX i (c::l)=(i,c)::jdX (i+1) l):=by
 repeat' constructor
 all_goals intros
 all_goals first
  | rfl
  | (simp[crs];done)
  | (simp[crs,crsB,ETy.cast_same];done)
  | (simp only[crs,jiK];done)
  | (simp only[crs,jiK];rfl)
  | (simp only[jh2,jwp,outR,jlc,ldW];done)
  | skip
 rotate_right
 ·rename_i E h fr a agg n
  simp only[jlc,outR,ldW]
  grind
 ·rename_i ρ fz h c d
  obtain⟨a1,a2,a3,a4,a5,a6⟩:=c
  obtain⟨b1,b2,b3,b4,b5,b6⟩:=d
  simp[ja4,ETy.enc,crs,crsL,CD.mk.injEq]
 ·rename_i ρ fz h c d
  obtain⟨a1,a2,a3,a4⟩:=c
  obtain⟨b1,b2,b3,b4⟩:=d
  simp[penV,crs,crsL,PD.mk.injEq]
theorem E:type_of% (qaa jxP (qaa jxQ (qaa E_op (qaa jxS (qaa jxT (qaa E_sl (qaa jvF (qaa jxV (qaa jxU jxW))))))))) :=
 qaa jxP (qaa jxQ (qaa E_op (qaa jxS (qaa jxT (qaa E_sl (qaa jvF (qaa jxV (qaa jxU jxW))))))))
theorem Cos.intro {n0:Nat}{s s':St}(ρ fz:List Nat) (h1:(jhu n0 ρ && ja8 (imgs ρ s'.h++fz))=true) (h2:crsH ρ fz s.h ρ s'.h∧crsF ρ fz s.h s.fr s'.fr):Cos n0 s s':=⟨⟨ρ,fz,h1,h2.1,h2.2⟩⟩
end
section
open Go.RowKit
def eqs0:List (TypeId×List IntKind):=[(56,[.i32,.u8,.u32,.u32,.u8,.u16]),(54,[.u32,.u32,.u8,.u16])]
theorem len4 {xs:List Int}(h:xs.length=4):∃a b c d,xs=[a,b,c,d]:=by
 match xs,h with
 | [a,b,c,d],_=>exact⟨a,b,c,d,rfl⟩
theorem len6 {xs:List Int}(h:xs.length=6):∃a b c d e f,xs=[a,b,c,d,e,f]:=by
 match xs,h with
 | [a,b,c,d,e,f],_=>exact⟨a,b,c,d,e,f,rfl⟩
set_option maxRecDepth 100000 in
theorem jwq:jt6 Tryz.prog eqs0:=fun t ks hm xs ys hx hy x y w neg=>by
 simp only[eqs0,List.mem_cons,Prod.mk.injEq,List.not_mem_nil,or_false]at hm
 rcases hm with⟨rfl,rfl⟩|⟨rfl,rfl⟩
 ·obtain⟨a,b,c,d,e,f,rfl⟩:=len6 hx
  obtain⟨a',b',c',d',e',f',rfl⟩:=len6 hy
  refine⟨run_eqGuard_agg _ _ _ _ _ _ _ (by kernel_rfl),?_⟩
  cases neg
  ·simp only[qac,if_false]
   rw[run_eql_struct,run_equalIn_agg w 9999 56 _ _ (by kernel_rfl) (by kernel_rfl)]
   simp[go_sem,Tryz.underlying56,Tryz.underlying54]
   grind
  ·simp only[if_true]
   rw[run_neq_struct,run_equalIn_agg w 9999 56 _ _ (by kernel_rfl) (by kernel_rfl)]
   simp[go_sem,Tryz.underlying56,Tryz.underlying54]
   grind
 ·obtain⟨a,b,c,d,rfl⟩:=len4 hx
  obtain⟨a',b',c',d',rfl⟩:=len4 hy
  refine⟨run_eqGuard_agg _ _ _ _ _ _ _ (by kernel_rfl),?_⟩
  cases neg
  ·simp only[qac,if_false]
   rw[run_eql_struct,run_equalIn_agg w 9999 54 _ _ (by kernel_rfl) (by kernel_rfl)]
   simp[go_sem,Tryz.underlying54]
   grind
  ·simp only[if_true]
   rw[run_neq_struct,run_equalIn_agg w 9999 54 _ _ (by kernel_rfl) (by kernel_rfl)]
   simp[go_sem,Tryz.underlying54]
   grind
theorem jxX:Tryz.prog.follows .mixedOrders=true:=by kernel_rfl
end
section
open Go.RowKit
open Classical in
def spOf {α:Type}(enc:α→List CV) (f:α→Prop×Res):Spec:=fun args=>if h:∃x,enc x=args then some (f (Classical.choose h)) else none
theorem jwr {α:Type}{enc:α→List CV}(f:α→Prop×Res) (inj:∀x y,enc x=enc y→x=y) (x:α):spOf enc f (enc x)=some (f x):=by
 unfold spOf
 have h:∃y,enc y=enc x:=⟨x,rfl⟩
 grind
theorem jiL {α:Type}{enc:α→List CV}{f:α→Prop×Res}{args:List CV}{p:Prop×Res}(h:spOf enc f args=some p):∃x,enc x=args∧f x=p:=by
 unfold spOf at h
 split at h
 all_goals grind
theorem Alias.of {P:Program}{E:Nat→Option (List CV)}{F:FuncId}{α:Type}{enc:α→List CV}{f:α→Prop×Res}(t:∀x,(f x).1→TF P E F (enc x) [] (f x).2 []):Alias P E F (spOf enc f):=fun args G r h hG=>by
 obtain⟨x,rfl,e⟩:=jiL h
 grind
theorem Fresh.of {P:Program}{E:Nat→Option (List CV)}{F:FuncId}{α:Type}{enc:α→List CV}{f:α→Prop×Res}(t:∀x,(f x).1→TF P E F (enc x) [] (ja9 0 (f x).2).1 (ja9 0 (f x).2).2):Fresh P E F (spOf enc f):=fun args G r h hG=>by
 obtain⟨x,rfl,e⟩:=jiL h
 grind
theorem Alias.fresh {P:Program}{E:Nat→Option (List CV)}{F:FuncId}{α:Type}{enc:α→List CV}{f:α→Prop×Res}(al:Alias P E F (spOf enc f)) (h:∀x,ja9 0 (f x).2=((f x).2,[])):Fresh P E F (spOf enc f):=fun args G r e hG=>by
 obtain⟨x,rfl,e2⟩:=jiL e
 have:=al _ G r e hG
 grind
theorem jmc {c d:CD}(h:ja4 c=ja4 d):c=d:=by
 obtain⟨a1,a2,a3,a4,a5,a6⟩:=c
 simp_all [ja4,ETy.enc]
theorem jum {c d:PD}(h:penV c=penV d):c=d:=by
 obtain⟨a1,a2,a3,a4⟩:=c
 simp_all [penV]
theorem joV (c d:CD):(ja4 c=ja4 d)=(c=d):=propext ⟨jmc,fun h=>h▸rfl⟩
theorem jrD (c d:PD):(penV c=penV d)=(c=d):=propext ⟨jum,fun h=>h▸rfl⟩
def noneT:List CV:=([768,879,8203,8207,65024,65039]:List Int).map (CV.int .i32)
def wideT:List CV:=([4352,4447,11904,12350,12353,42191,44032,55203,63744,64255,65072,65135,65280,65376,65504,65510,127744,128591,131072,262141]:List Int).map (CV.int .i32)
def E0:Nat→Option (List CV):=fun g=>if g=0 then some noneT else if g=1 then some wideT else none
theorem jrE:E0 0=some noneT:=rfl
theorem jrF:E0 1=some wideT:=rfl
theorem GOk.nil {P:Program}{E:Nat→Option (List CV)}:GOk P E []:=trivial
theorem GOk.cons {P:Program}{E:Nat→Option (List CV)}{F:FuncId}{c:Con}{r:List (FuncId×Con)}(h1:jdd P F=true) (h2:jjT P E F c) (h3:GOk P E r):GOk P E ((F,c)::r):=⟨⟨h1,h2⟩,h3⟩
theorem jws {ρ fz:List Nat}{h:KH}{i:Nat}{k:KB}(hi:(h.get i).live) (hc:crsB ρ fz h (h.get i) k):crsH ρ fz h [i] [k]:=by
 simp_all [crsH,trivial,if_neg,KH.lt_of_live]
theorem Cos.row {h:KH}{i n c:Nat}{t:ETy}{M L:List t.T}(hb:h.get i=.seq t M) (e:M=L) (hn:n=M.length) (hc:M.length≤c):Cos 0 ⟨[(0,.slice i 0 t.esz n c)],h⟩ ⟨[(0,.slice 0 0 t.esz L.length L.length)],[.seq t L]⟩:=by
 subst e
 refine Cos.intro [i] [] (by simp[jhu,imgs,ja8]) ⟨jws (by rw[hb];trivial) (by rw[hb];simp[crsB,ETy.cast_same]),?_⟩
 simp only[crsF,Fr.get,if_true,crs,List.getElem?_cons_zero,and_true,true_and]
 omega
theorem T.cut {V:Env}{Q:EX→St→Prop}{st:St}{a b:LC}{α:Type}(S:α→St) (C:α→Prop) (ta:T V a (seqQ (fun s=>∃x,C x∧Cos V.n0 s (S x)) Q) st) (tb:∀x,C x→T V b Q (S x)):T V (.seq a b) Q st:=by
 refine T.seq (ta.mono fun e s q=>?_)
 cases e with
 | norm =>
  obtain⟨x,hx,⟨ρ,fz,hc⟩⟩:=q
  exact T.weak ρ fz hc (tb x hx)
 | exit id=>exact q
 | ret=>exact q
 | pan c=>exact q
theorem w_u8 {n:Int}(h:0≤n∧n≤255):IntKind.u8.wrap n=n:=by
 simp only[IntKind.wrap,IntKind.signed,IntKind.bits,qag,qac,if_false]
 omega
theorem jnL {n:Int}(h:0≤n∧n≤65535):IntKind.u16.wrap n=n:=by
 simp only[IntKind.wrap,IntKind.signed,IntKind.bits,qag,qac,if_false]
 omega
theorem jh3 {n:Int}(h:0≤n∧n≤18446744073709551615):IntKind.u64.wrap n=n:=by
 simp only[IntKind.wrap,IntKind.signed,IntKind.bits,qag,qac,if_false]
 omega
theorem jun {n:Int}(h:-2147483648≤n∧n≤2147483647):IntKind.i32.wrap n=n:=by
 grind [IntKind.wrap,IntKind.signed,IntKind.bits]
section
variable {α:Type}
theorem tk1 (L:List α) (x:α):qaf (L.length+1) (L++[x])=L++[x]:=qab (by simp)
theorem tk2 (L:List α) (x y:α):qaf (L.length+2) (L++[x,y])=L++[x,y]:=qab (by simp)
theorem tk3 (L:List α) (x y z:α):qaf (L.length+3) (L++[x,y,z])=L++[x,y,z]:=qab (by simp)
theorem tk4 (L:List α) (x y z u:α):qaf (L.length+4) (L++[x,y,z,u])=L++[x,y,z,u]:=qab (by simp)
theorem tkL (L M:List α):qaf (L.length+M.length) (L++M)=L++M:=qab (by simp)
theorem tkA (L M N:List α):qaf (L.length+M.length+N.length) (L++M++N)=L++M++N:=qab (by simp;omega)
theorem tkB (L M N:List α):qaf (L.length+(M.length+N.length)) (L++(M++N))=L++(M++N):=qab (by simp)
theorem tn0 (a b:Nat):((a:Int)+(b:Int)).toNat=a+b:=by omega
theorem tn1 (a:Nat):((a:Int)+1).toNat=a+1:=by omega
theorem tn2 (a:Nat):((a:Int)+2).toNat=a+2:=by omega
theorem tn3 (a:Nat):((a:Int)+3).toNat=a+3:=by omega
theorem tm1 (a:Nat):((a:Int)-1).toNat=a-1:=by omega
theorem tm2 (a:Nat):((a:Int)-2).toNat=a-2:=by omega
theorem tkC (x:α) (L:List α):qaf (1+L.length) (x::L)=x::L:=qab (by simp;omega)
end
def VV (G:List (FuncId×Con)) (h:GOk Tryz.prog E0 G) (nt:NT) (n0:Nat):Env:=⟨Tryz.prog,⟨E0,eqs0,G⟩,nt,DS.no,n0,⟨jwq,h⟩,jxX⟩
theorem VV_X (G:List (FuncId×Con)) (h:GOk Tryz.prog E0 G) (nt:NT) (n0:Nat):(VV G h nt n0).X=⟨E0,eqs0,G⟩:=rfl
theorem jxY (G:List (FuncId×Con)) (h:GOk Tryz.prog E0 G) (nt:NT) (n0:Nat):(VV G h nt n0).n0=n0:=rfl
end
section
open Go.RowKit
mutual
def jdB:CV→List Nat
 | .ptr b _ _=>[b]
 | .slice b _ _ _ _=>[b]
 | .fn _ l=>jc6 l
 | .iface _ c=>jdB c
 | .agg l=>jc6 l
 | .tup l=>jc6 l
 | _=>[]
def jc6:List CV→List Nat
 | []=>[]
 | c::l=>jdB c++jc6 l
end
def jrG:KB→List Nat
 | .box l=>jc6 l
 | _=>[]
def jp1 (H:KH):List Nat→List Nat
 | []=>[]
 | b::r=>jrG (H.get b)++jp1 H r
def once:List Nat→List Nat→List Nat
 | _,[]=>[]
 | seen,b::r=>if memB b seen=true then once seen r else b::once (b::seen) r
def jjW (H:KH):Nat→List Nat→List Nat
 | 0,ρ=>ρ
 | n+1,ρ=>jjW H n (once [] (ρ++jp1 H ρ))
def jjX (b:Nat):List Nat→Nat→Option Nat
 | [],_=>none
 | x::r,i=>if x=b then some i else jjX b r (i+1)
mutual
def locV (ρ:List Nat):CV→CV
 | .ptr b i o=>match jjX b ρ 0 with
  | some b'=>.ptr b' i o
  | none=>.undef
 | .slice b i e n c=>match jjX b ρ 0 with
  | some b'=>.slice b' i e n c
  | none=>.undef
 | .fn F l=>.fn F (locL ρ l)
 | .iface t c=>.iface t (locV ρ c)
 | .agg l=>.agg (locL ρ l)
 | .tup l=>.tup (locL ρ l)
 | c=>c
def locL (ρ:List Nat):List CV→List CV
 | []=>[]
 | c::l=>locV ρ c::locL ρ l
end
def locB (ρ:List Nat):KB→KB
 | .box l=>.box (locL ρ l)
 | k=>k
def locH (ρ:List Nat) (H:KH):List Nat→KH
 | []=>[]
 | b::r=>locB ρ (H.get b)::locH ρ H r
def jiM (n:Nat):List Nat→Bool
 | []=>true
 | b::r=>decide (b<n)&&jiM n r
def jge:List Nat→Bool
 | []=>true
 | b::r=>!memB b r&&jge r
theorem jlg {b:Nat}:∀{ρ:List Nat}{k i:Nat},jjX b ρ k=some i→k≤i∧ρ[i-k]?=some b
 | [],k,i,h=>by simp[jjX]at h
 | x::r,k,i,h=>by
  simp only[jjX]at h
  split at h
  ·grind
  ·obtain⟨h1,h2⟩:=jlg h
   grind
mutual
theorem jrH (ρ:List Nat) (H:KH):∀c:CV,crs ρ [] H c (locV ρ c)
 | .undef=>by simp[locV,crs]
 | .int _ _=>by simp[locV,crs]
 | .bool _=>by simp[locV,crs]
 | .str _=>by simp[locV,crs]
 | .ptr b i o=>by
  simp only[locV]
  split
  ·rename_i b' e
   simp only[crs]
   exact⟨by simpa using (jlg e).2,trivial,trivial⟩
  ·simp[crs]
 | .slice b i e n c=>by
  simp only[locV]
  split
  ·rename_i b' e
   simp only[crs]
   exact⟨by simpa using (jlg e).2,trivial,trivial,trivial,Nat.le_refl _⟩
  ·simp[crs]
 | .vec t L=>by grind [locV,crs,ETy.cast_same]
 | .vp t x o=>by simp_all [locV,crs,ETy.cast_same,trivial]
 | .gptr _ _=>by simp[locV,crs]
 | .nilptr=>by simp[locV,crs]
 | .zs=>by simp[locV,crs]
 | .nils=>by simp[locV,crs]
 | .fn F l=>by simp only[locV,crs];exact⟨trivial,je1 ρ H l⟩
 | .nilfn=>by simp[locV,crs]
 | .mfn _=>by simp[locV,crs]
 | .iface t c=>by simp only[locV,crs];exact⟨trivial,jrH ρ H c⟩
 | .niliface=>by simp[locV,crs]
 | .agg l=>by simp only[locV,crs];exact je1 ρ H l
 | .tup l=>by simp only[locV,crs];exact je1 ρ H l
theorem je1 (ρ:List Nat) (H:KH):∀l:List CV,crsL ρ [] H l (locL ρ l)
 | []=>by simp[locL,crsL]
 | c::l=>by
  simp only[locL,crsL]
  exact⟨jrH ρ H c,je1 ρ H l⟩
end
theorem juo (ρ:List Nat) (H:KH) (k:KB):crsB ρ [] H k (locB ρ k):=by
 cases k with
 | dead=>simp[locB,crsB]
 | box l=>grind [locB,crsB,je1]
 | seq t L=>grind [locB,crsB,ETy.cast_same]
 | iter s p=>simp[locB,crsB]
theorem joW (ρ:List Nat) (H:KH):∀r:List Nat,jiM H.length r=true→crsH ρ [] H r (locH ρ H r)
 | [],_=>by simp[locH,crsH]
 | b::r,h=>by
  simp only[jiM,qad,decide_eq_true_eq]at h
  simp only[locH,crsH]
  refine⟨?_,joW ρ H r h.2⟩
  simp_all [if_neg,juo]
theorem jmd:∀l:List Nat,jge l=ja8 l
 | []=>rfl
 | b::r=>by simp only[jge,ja8,jiK,jmd r]
theorem jme (n:Nat):∀r:List Nat,jiM n r=true→r.all (fun b=>decide (b<n))=true
 | [],_=>rfl
 | b::r,h=>by
  simp only[jiM,qad]at h
  simp only[List.all_cons,qad]
  exact⟨h.1,jme n r h.2⟩
abbrev MSpec:=List CV→KH→Option (Prop×Res×KH)
def goM (spec:MSpec) (ARGS:List CV) (H:KH) (ρ:List Nat):Option (Prop×Res×KH) :=
 match spec (locL ρ ARGS) (locH ρ H ρ)with
 | some (G,r,h')=>some (G∧(true&&jge ρ && jiM H.length ρ)=true∧ρ.length≤h'.length,renR (bigN ρ ρ.length H.length) r,bigH (bigN ρ ρ.length H.length) ρ.length ρ h' H)
 | none=>none
def conM (spec:MSpec):Con:=fun ARGS H=>goM spec ARGS H (jjW H 3 (once [] (jc6 ARGS)))
theorem joX (ρ:List Nat) (H:KH):∀r:List Nat,(locH ρ H r).length=r.length
 | []=>rfl
 | b::r=>by simp[locH,joX ρ H r]
def MutF (P:Program) (E:Nat→Option (List CV)) (F:FuncId) (spec:MSpec):Prop:=∀args h G r h',spec args h=some (G,r,h')→G→TF P E F args h r h'
theorem MutF.soundM {P:Program}{E:Nat→Option (List CV)}{F:FuncId}{spec:MSpec}(t:MutF P E F spec):jjT P E F (conM spec):=fun ARGS H G r H' hc hG=>by
 simp only[conM,goM]at hc
 generalize jjW H 3 (once [] (jc6 ARGS))=ρ at hc
 split at hc
 ·rename_i G1 r1 h1 e
  cases hc
  obtain⟨hG1,hk,hl⟩:=hG
  simp only[qad]at hk
  obtain⟨⟨k1,k2⟩,k3⟩:=hk
  have tf:=t _ _ _ _ _ e hG1
  have hln:=joX ρ H ρ
  have:=TF.lift (ρ:=ρ) (fz:=[]) (H:=H) (ARGS:=ARGS) tf (by rw[List.append_nil,←jmd];exact k2) (jme _ _ k3) (joW ρ H ρ k3) (je1 ρ H ARGS) (.inl rfl) (by rw[hln];exact hl)
  grind
 ·cases hc
open Classical in
def jrI {α:Type}(enc:α→List CV×KH) (f:α→Prop×Res×KH):MSpec:=fun args h=>if e:∃x,enc x=(args,h) then some (f (Classical.choose e)) else none
theorem jup {α:Type}{enc:α→List CV×KH}(f:α→Prop×Res×KH) (inj:∀x y,enc x=enc y→x=y) (x:α):jrI enc f (enc x).1 (enc x).2=some (f x):=by
 unfold jrI
 have h:∃y,enc y=((enc x).1,(enc x).2):=⟨x,rfl⟩
 grind
theorem MutF.of {P:Program}{E:Nat→Option (List CV)}{F:FuncId}{α:Type}{enc:α→List CV×KH}{f:α→Prop×Res×KH}(t:∀x,(f x).1→TF P E F (enc x).1 (enc x).2 (f x).2.1 (f x).2.2):MutF P E F (jrI enc f):=fun args h G r h' e hG=>by
 unfold jrI at e
 split at e
 all_goals grind
theorem jrJ (c d:CD):(ETy.enc .cell c=ETy.enc .cell d)=(c=d):=propext ⟨fun h=>jmc (by simp only[ja4,h]),fun h=>h▸rfl⟩
theorem jxZ:(∀spec ARGS H,conM spec ARGS H=goM spec ARGS H (jjW H 3 (once [] (jc6 ARGS))))∧(∀spec ARGS H ρ,goM spec ARGS H ρ=match spec (locL ρ ARGS) (locH ρ H ρ)with
   | some (G,r,h')=>some (G∧(true&&jge ρ && jiM H.length ρ)=true∧ρ.length≤h'.length,renR (bigN ρ ρ.length H.length) r,bigH (bigN ρ ρ.length H.length) ρ.length ρ h' H)
   | none=>none) ∧
  (∀c,jdB (ja4 c)=[])∧(∀c,jdB (penV c)=[])∧(∀c,jc6 (ETy.enc .cell c)=[])∧(∀ρ c,locV ρ (ja4 c)=ja4 c)∧(∀ρ c,locV ρ (penV c)=penV c)∧(∀ρ c,locL ρ (ETy.enc .cell c)=ETy.enc .cell c)∧(∀σ c,renV σ (ja4 c)=ja4 c)∧(∀σ c,renV σ (penV c)=penV c)∧(∀σ c,renL σ (ETy.enc .cell c)=ETy.enc .cell c) ∧
  (∀σ c,renR σ (.ret c)=.ret (renV σ c))∧(∀σ c,renR σ (.pan c)=.pan (renV σ c))∧(∀σ n ρ h' H,bigH σ n ρ h' H=jbG σ ρ h' H++(h'.drop n).map (renB σ))∧(∀n N i,bigN [] n N i=N+(i-n))∧(∀b ρ n N i,bigN (b :: ρ) (n+1) N i=if i=0 then b else bigN ρ n N (i-1)):=by
 refine⟨fun _ _ _=>rfl,fun _ _ _ _=>rfl,fun _=>rfl,fun _=>rfl,fun _=>rfl,fun _ _=>rfl,fun _ _=>rfl,fun _ _=>rfl,fun _ _=>rfl,fun _ _=>rfl,fun _ _=>rfl,fun _ _=>rfl,fun _ _=>rfl,fun _ _ _ _ _=>rfl,fun _ _ _=>rfl,fun b ρ n N i=>?_⟩
 cases i with
 | zero=>rfl
 | succ i =>
  simp only[bigN,List.getElem?_cons_succ,Nat.succ_ne_zero,if_false,Nat.add_sub_cancel]
  grind
theorem SBu:type_of% (qaa @false_implies (qaa @true_implies (qaa @true_and (qaa @and_true (qaa @List.length_cons (qaa @List.length_nil (qaa @Int.toNat_natCast (qaa @List.map_cons (qaa @List.map_nil (qaa @Option.map_some (qaa @Option.map_none (qaa @Bool.true_eq_false (qaa @Bool.false_eq_true (qaa @Bool.not_true (qaa @Bool.not_false (qaa @Nat.zero_add (qaa @Nat.add_zero (qaa @List.append_nil (qaa @List.nil_append (qaa @List.cons_append (qaa @decide_true (qaa @decide_false (qaa @Bool.and_true (qaa @Bool.true_and (qaa @Bool.and_false (qaa @Bool.false_and (qaa @Bool.or_true (qaa @Bool.true_or (qaa @Bool.or_false (qaa @Bool.false_or (qaa @Bool.cond_true_left (qaa @Bool.cond_true_right (qaa @Bool.cond_false_left (qaa @Bool.cond_false_right (qaa @beq_self_eq_true (qaa @List.getD_cons_zero (qaa @List.getD_cons_succ (qaa @List.getD_nil (qaa @List.take_length (qaa @List.length_append (qaa @List.length_replicate (qaa @List.length_set (qaa @tk1 (qaa @tk2 (qaa @tk3 (qaa @tk4 (qaa @tkL (qaa @tkA (qaa @tkB (qaa @tkC (qaa @tn0 (qaa @tn1 (qaa @tn2 (qaa @tn3 (qaa @tm1 (qaa @tm2 (qaa @Option.getD_none (qaa @Option.getD_some (qaa @Nat.add_sub_cancel_left (qaa @Nat.sub_zero (qaa @Nat.min_self (qaa @Nat.sub_self (qaa @List.replicate_zero (qaa @List.drop_zero (qaa @List.drop_succ_cons (qaa @List.take_succ_cons (qaa @List.take_zero (qaa @List.set_cons_succ (qaa @List.set_cons_zero (qaa @List.drop_nil (qaa @List.take_nil (qaa @Int.natCast_zero (qaa @Int.cast_ofNat_Int (qaa @List.getElem?_cons_zero (qaa @List.getElem?_cons_succ (qaa @VV_X (qaa @jxY (qaa @jry (qaa @jrz (qaa @jvE (qaa @jrA (qaa @jrB (qaa @jrC (qaa @List.isEmpty_nil (qaa @List.isEmpty_cons (qaa @List.all_nil (qaa @List.all_cons (qaa @not_true_eq_false (qaa @not_false_eq_true (@forall_const)))))))))))))))))))))))))))))))))))))))))))))))))))))))))))))))))))))))))))))))))))))))))):=qaa @false_implies (qaa @true_implies (qaa @true_and (qaa @and_true (qaa @List.length_cons (qaa @List.length_nil (qaa @Int.toNat_natCast (qaa @List.map_cons (qaa @List.map_nil (qaa @Option.map_some (qaa @Option.map_none (qaa @Bool.true_eq_false (qaa @Bool.false_eq_true (qaa @Bool.not_true (qaa @Bool.not_false (qaa @Nat.zero_add (qaa @Nat.add_zero (qaa @List.append_nil (qaa @List.nil_append (qaa @List.cons_append (qaa @decide_true (qaa @decide_false (qaa @Bool.and_true (qaa @Bool.true_and (qaa @Bool.and_false (qaa @Bool.false_and (qaa @Bool.or_true (qaa @Bool.true_or (qaa @Bool.or_false (qaa @Bool.false_or (qaa @Bool.cond_true_left (qaa @Bool.cond_true_right (qaa @Bool.cond_false_left (qaa @Bool.cond_false_right (qaa @beq_self_eq_true (qaa @List.getD_cons_zero (qaa @List.getD_cons_succ (qaa @List.getD_nil (qaa @List.take_length (qaa @List.length_append (qaa @List.length_replicate (qaa @List.length_set (qaa @tk1 (qaa @tk2 (qaa @tk3 (qaa @tk4 (qaa @tkL (qaa @tkA (qaa @tkB (qaa @tkC (qaa @tn0 (qaa @tn1 (qaa @tn2 (qaa @tn3 (qaa @tm1 (qaa @tm2 (qaa @Option.getD_none (qaa @Option.getD_some (qaa @Nat.add_sub_cancel_left (qaa @Nat.sub_zero (qaa @Nat.min_self (qaa @Nat.sub_self (qaa @List.replicate_zero (qaa @List.drop_zero (qaa @List.drop_succ_cons (qaa @List.take_succ_cons (qaa @List.take_zero (qaa @List.set_cons_succ (qaa @List.set_cons_zero (qaa @List.drop_nil (qaa @List.take_nil (qaa @Int.natCast_zero (qaa @Int.cast_ofNat_Int (qaa @List.getElem?_cons_zero (qaa @List.getElem?_cons_succ (qaa @VV_X (qaa @jxY (qaa @jry (qaa @jrz (qaa @jvE (qaa @jrA (qaa @jrB (qaa @jrC (qaa @List.isEmpty_nil (qaa @List.isEmpty_cons (qaa @List.all_nil (qaa @List.all_cons (qaa @not_true_eq_false (qaa @not_false_eq_true (@forall_const)))))))))))))))))))))))))))))))))))))))))))))))))))))))))))))))))))))))))))))))))))))))))
theorem HBu:type_of% (qaa @Bool.not_eq_true' (qaa @Bool.not_eq_false' (qaa @Bool.not_eq_true (qaa @Bool.not_eq_false (qaa @decide_eq_true_eq (qaa @decide_eq_false_iff_not (qaa @Bool.and_eq_true (qaa @Bool.or_eq_true (qaa @Bool.or_eq_false_iff (qaa @Bool.and_eq_false_iff (qaa @Bool.not_not (qaa @beq_iff_eq (qaa @bne_iff_ne (qaa @Classical.not_not (qaa @Bool.true_eq_false (qaa @Bool.false_eq_true (qaa @List.mem_cons (qaa @List.not_mem_nil (@or_false))))))))))))))))))):=qaa @Bool.not_eq_true' (qaa @Bool.not_eq_false' (qaa @Bool.not_eq_true (qaa @Bool.not_eq_false (qaa @decide_eq_true_eq (qaa @decide_eq_false_iff_not (qaa @Bool.and_eq_true (qaa @Bool.or_eq_true (qaa @Bool.or_eq_false_iff (qaa @Bool.and_eq_false_iff (qaa @Bool.not_not (qaa @beq_iff_eq (qaa @bne_iff_ne (qaa @Classical.not_not (qaa @Bool.true_eq_false (qaa @Bool.false_eq_true (qaa @List.mem_cons (qaa @List.not_mem_nil (@or_false))))))))))))))))))
theorem SB:type_of% SBu.{0,0,0,0,0,0,0,0,0,0,0,0,0,0,0,0,0,0,0,0,0,0,0,0,0,0,0,0,0,0,0,0,0,0,0,0,0,0,0}:=SBu.{0,0,0,0,0,0,0,0,0,0,0,0,0,0,0,0,0,0,0,0,0,0,0,0,0,0,0,0,0,0,0,0,0,0,0,0,0,0,0}
theorem HB:type_of% HBu.{0,0,0,0}:=HBu.{0,0,0,0}
theorem MB:type_of% (qaa jxZ (qaa @jdB.eq_1 (qaa @jdB.eq_2 (qaa @jdB.eq_3 (qaa @jdB.eq_4 (qaa @jdB.eq_5 (qaa @jdB.eq_6 (qaa @jdB.eq_7 (qaa @jc6.eq_1 (qaa @jc6.eq_2 (qaa @jrG.eq_1 (qaa @jrG.eq_2 (qaa @jp1.eq_1 (qaa @jp1.eq_2 (qaa @once.eq_1 (qaa @once.eq_2 (qaa @jjW.eq_1 (qaa @jjW.eq_2 (qaa @jjX.eq_1 (qaa @jjX.eq_2 (qaa @locV.eq_1 (qaa @locV.eq_2 (qaa @locV.eq_3 (qaa @locV.eq_4 (qaa @locV.eq_5 (qaa @locV.eq_6 (qaa @locV.eq_7 (qaa @locL.eq_1 (qaa @locL.eq_2 (qaa @locB.eq_1 (qaa @locB.eq_2 (qaa @locH.eq_1 (qaa @locH.eq_2 (qaa @jiM.eq_1 (qaa @jiM.eq_2 (qaa @jge.eq_1 (qaa @jge.eq_2 (qaa @renV.eq_1 (qaa @renV.eq_2 (qaa @renV.eq_3 (qaa @renV.eq_4 (qaa @renV.eq_5 (qaa @renV.eq_6 (qaa @renV.eq_7 (qaa @renL.eq_1 (qaa @renL.eq_2 (qaa @renB.eq_1 (qaa @renB.eq_2 (qaa @jbG.eq_1 (qaa @jbG.eq_2 (qaa @jfC.eq_1 (qaa @jfC.eq_2 (qaa @jfC.eq_3 (qaa @memB.eq_1 @memB.eq_2)))))))))))))))))))))))))))))))))))))))))))))))))))))):=(qaa jxZ (qaa @jdB.eq_1 (qaa @jdB.eq_2 (qaa @jdB.eq_3 (qaa @jdB.eq_4 (qaa @jdB.eq_5 (qaa @jdB.eq_6 (qaa @jdB.eq_7 (qaa @jc6.eq_1 (qaa @jc6.eq_2 (qaa @jrG.eq_1 (qaa @jrG.eq_2 (qaa @jp1.eq_1 (qaa @jp1.eq_2 (qaa @once.eq_1 (qaa @once.eq_2 (qaa @jjW.eq_1 (qaa @jjW.eq_2 (qaa @jjX.eq_1 (qaa @jjX.eq_2 (qaa @locV.eq_1 (qaa @locV.eq_2 (qaa @locV.eq_3 (qaa @locV.eq_4 (qaa @locV.eq_5 (qaa @locV.eq_6 (qaa @locV.eq_7 (qaa @locL.eq_1 (qaa @locL.eq_2 (qaa @locB.eq_1 (qaa @locB.eq_2 (qaa @locH.eq_1 (qaa @locH.eq_2 (qaa @jiM.eq_1 (qaa @jiM.eq_2 (qaa @jge.eq_1 (qaa @jge.eq_2 (qaa @renV.eq_1 (qaa @renV.eq_2 (qaa @renV.eq_3 (qaa @renV.eq_4 (qaa @renV.eq_5 (qaa @renV.eq_6 (qaa @renV.eq_7 (qaa @renL.eq_1 (qaa @renL.eq_2 (qaa @renB.eq_1 (qaa @renB.eq_2 (qaa @jbG.eq_1 (qaa @jbG.eq_2 (qaa @jfC.eq_1 (qaa @jfC.eq_2 (qaa @jfC.eq_3 (qaa @memB.eq_1 @memB.eq_2))))))))))))))))))))))))))))))))))))))))))))))))))))))
theorem CP:type_of% (qaa @joV (qaa @jrD @Prod.mk.injEq.{0,0})):=qaa @joV (qaa @jrD @Prod.mk.injEq.{0,0})
structure Hk (q:Prop):Prop where
 out:q
theorem tI {a b q:Prop}(k:q) (h:Hk q→a→b:=by intro hq p0;have hyp:=p0;(try simp only[HB,ne_eq,reduceCtorEq]at hyp);(try simp only[p0]);(try clear p0);revert hyp;exact Hk.out hq):a→b:=h ⟨k⟩
theorem tE {p:Prop}(h:p:=by (repeat' apply qaa)<;>first|rfl|omega|(simp;done)|(simp;omega)):p:=h
theorem SA:type_of% (qaa SB (qaa E (qaa @ne_eq.{1} (qaa @implies_true.{0} @implies_true.{1})))):=qaa SB (qaa E (qaa @ne_eq.{1} (qaa @implies_true.{0} @implies_true.{1})))
abbrev InjS {α:Type}(a:α→List CV):Prop:=∀x y,a x=a y→x=y
theorem injS {α:Type}{a:α→List CV}(i:InjS a:=by simp only[InjS,Prod.forall];intros;rename_i h;first|rfl|simpa[CP] using h|(simp[CP]at h ⊢;grind)):InjS a:=i
abbrev InjM {α:Type}(a:α→List CV×KH):Prop:=∀x y,a x=a y→x=y
theorem injM {α:Type}{a:α→List CV×KH}(i:InjM a:=by simp only[InjM,Prod.forall];intros;rename_i h;first|rfl|simpa[CP,jrJ] using h|(simp[CP,jrJ]at h ⊢;grind)):InjM a:=i
end
end
end Go.Proofs.YtienkkicehmchaaGreatDoor
