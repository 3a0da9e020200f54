/- Texts of this claim, merged by a program of this claim: EVal, EMem, ERun, EStore, EOp, EChk. -/
import Derived.WalkKit
import Derived.Below
import Derived.Lib.Hide
namespace Go.Proofs.YtienkkicehmchaaGreatDoor
open List renaming length_cons→qaa,length_append→qab,flatMap_cons→qac,length_nil→qad
set_option linter.unusedVariables false
set_option linter.unusedSimpArgs false
section
open Go.RowKit
structure CD where
 rune:Int
 wide:Int
 fg:Int
 bg:Int
 attrs:Int
 link:Int
deriving DecidableEq,Inhabited
inductive ItemD where
 | mk (kind:Int) (crit list:Bool) (bytes:List Int) (items:List ItemD)
inductive ETy where
 | int (k:IntKind)
 | bool
 | str
 | cell
 | item
 | rows (t:ETy)
 | pair (a b:ETy)
deriving DecidableEq,Inhabited
@[reducible] def ETy.T:ETy→Type
 | .int _=>Int
 | .bool=>Bool
 | .str=>ByteArray
 | .cell=>CD
 | .item=>ItemD
 | .rows t=>List t.T
 | .pair a b=>a.T×b.T
inductive CV where
 | undef
 | int (k:IntKind) (n:Int)
 | bool (b:Bool)
 | str (s:ByteArray)
 | ptr (b i o:Nat)
 | vp (t:ETy) (x:t.T) (o:Nat)
 | gptr (g o:Nat)
 | nilptr
 | slice (b i esz len cap:Nat)
 | vec (t:ETy) (L:List t.T)
 | zs
 | nils
 | fn (F:FuncId) (caps:List CV)
 | nilfn
 | mfn (F:FuncId)
 | iface (t:TypeId) (v:CV)
 | niliface
 | agg (l:List CV)
 | tup (l:List CV)
deriving Inhabited
def ETy.esz:ETy→Nat
 | .cell=>6
 | .item=>5
 | .pair a b=>a.esz+b.esz
 | _=>1
def ETy.enc:(t:ETy)→t.T→List CV
 | .int k,n=>[.int k n]
 | .bool,b=>[.bool b]
 | .str,s=>[.str s]
 | .cell,c=>[.int .i32 c.rune,.int .u8 c.wide,.int .u32 c.fg,.int .u32 c.bg,.int .u8 c.attrs,.int .u16 c.link]
 | .item,.mk k c l b r=>[.int .i64 k,.bool c,.bool l,.vec (.int .u8) b,.vec .item r]
 | .rows t,l=>[.vec t l]
 | .pair a b,x=>a.enc x.1++b.enc x.2
def ETy.dec:(t:ETy)→List CV→Option t.T
 | .int k,l=>match l with
  | [.int k' n]=>if k'=k then some n else none
  | _=>none
 | .bool,l=>match l with
  | [.bool b]=>some b
  | _=>none
 | .str,l=>match l with
  | [.str s]=>some s
  | _=>none
 | .cell,l=>match l with
  | [.int .i32 a,.int .u8 b,.int .u32 c,.int .u32 d,.int .u8 e,.int .u16 f]=>some ⟨a,b,c,d,e,f⟩
  | _=>none
 | .item,l=>match l with
  | [.int .i64 k,.bool c,.bool l,.vec (.int .u8) b,.vec .item r]=>some (.mk k c l b r)
  | _=>none
 | .rows t,l=>match l with
  | [.vec t' l]=>if h:t'=t then some (h▸l) else none
  | _=>none
 | .pair a b,l=>match a.dec (l.take a.esz),b.dec (l.drop a.esz)with
  | some x,some y=>some (x,y)
  | _,_=>none
def ETy.dflt:(t:ETy)→t.T
 | .int _=>0
 | .bool=>false
 | .str=>ByteArray.empty
 | .cell=>⟨0,0,0,0,0,0⟩
 | .item=>.mk 0 false false [] []
 | .rows _=>[]
 | .pair a b=>(a.dflt,b.dflt)
theorem ETy.enc_len:∀(t:ETy) (x:t.T),(t.enc x).length=t.esz
 | .int _,_=>rfl
 | .bool,_=>rfl
 | .str,_=>rfl
 | .cell,_=>rfl
 | .item,.mk _ _ _ _ _=>rfl
 | .rows _,_=>rfl
 | .pair a b,x=>by simp only[ETy.enc,qab,a.enc_len,b.enc_len,ETy.esz]
theorem ETy.esz_pos (t:ETy):0<t.esz:=by
 induction t<;>simp only[ETy.esz]<;>omega
theorem ETy.enc_dec:∀(t:ETy) (l:List CV) (x:t.T),t.dec l=some x→t.enc x=l
 | .pair a b,l,x,h=>by
  simp only[ETy.dec]at h
  split at h
  ·rename_i y z e1 e2
   cases h
   simp only[ETy.enc,a.enc_dec _ _ e1,b.enc_dec _ _ e2,List.take_append_drop]
  ·cases h
 | .rows t,l,x,h=>by
  simp only[ETy.dec]at h
  split at h
  ·split at h
   ·rename_i e
    subst e
    cases h
    rfl
   ·cases h
  ·cases h
 | .int k,l,x,h=>by
  simp only[ETy.dec]at h
  split at h
  ·split at h
   ·rename_i e
    subst e
    cases h
    rfl
   ·cases h
  ·cases h
 | .bool,l,x,h=>by
  simp only[ETy.dec]at h
  split at h<;>cases h
  rfl
 | .str,l,x,h=>by
  simp only[ETy.dec]at h
  split at h<;>cases h
  rfl
 | .cell,l,x,h=>by
  simp only[ETy.dec]at h
  split at h<;>cases h
  rfl
 | .item,l,x,h=>by
  simp only[ETy.dec]at h
  split at h<;>cases h
  rfl
inductive KB where
 | dead
 | box (cells:List CV)
 | seq (t:ETy) (L:List t.T)
 | iter (s:ByteArray) (pos:Nat)
deriving Inhabited
abbrev KH:=List KB
def KH.get:KH→Nat→KB
 | [],_=>.dead
 | b::_,0=>b
 | _::h,i+1=>KH.get h i
def KH.put:KH→Nat→KB→KH
 | [],_,_=>[]
 | _::h,0,x=>x::h
 | b::h,i+1,x=>b::KH.put h i x
def CV.cells:CV→List CV
 | .agg l=>l
 | v=>[v]
structure Loc where
 B:Nat
 sh:Nat
 esz:Nat
 sz:Nat
abbrev LMap:=Nat→Option Loc
abbrev ZMap:=Nat→Option Obj
def Loc.addr (l:Loc) (i o:Nat):Addr:=⟨l.B,l.sh+i*l.esz+o,none⟩
inductive VRel (z:ZMap) (f:LMap):CV→Value→Prop
 | undef (v:Value):VRel z f .undef v
 | int (k:IntKind) (n:Int):VRel z f (.int k n) (.int k n)
 | bool (b:Bool):VRel z f (.bool b) (.bool b)
 | str (s:ByteArray):VRel z f (.str s) (.string s)
 | ptr (b i o:Nat) (l:Loc) (h:f b=some l):VRel z f (.ptr b i o) (.pointer (some (l.addr i o)))
 | vp (t:ETy) (x:t.T) (o B base:Nat) (rc:Array Value) (T:TypeId) (fr:Nat×Nat) (g:Nat→Value) (hz:z B=some (.cells rc T fr))
   (hc:∀k c,(t.enc x)[k]?=some c→rc[base+k]?=some (g k)) (hr:∀k c,(t.enc x)[k]?=some c→VRel z f c (g k)):VRel z f (.vp t x o) (.pointer (some ⟨B,base+o,none⟩))
 | gptr (g o:Nat):VRel z f (.gptr g o) (.pointer (some ⟨g,o,none⟩))
 | nilptr:VRel z f .nilptr (.pointer none)
 | slice (b i esz len cap cap':Nat) (l:Loc) (h:f b=some l) (he:l.esz=esz) (hc:cap≤cap') (hs:l.sh+(i+cap')*esz≤l.sz):VRel z f (.slice b i esz len cap) (.slice (some (l.addr i 0)) len cap')
 | slice0 (b i esz:Nat) (A:Option Addr):VRel z f (.slice b i esz 0 0) (.slice A 0 0)
 | vec (t:ETy) (L:List t.T) (B o cap':Nat) (rc:Array Value) (T:TypeId) (fr:Nat×Nat) (g:Nat→Nat→Value) (hz:z B=some (.cells rc T fr)) (hl:L.length≤cap')
   (hc:∀j x,L[j]?=some x→∀k c,(t.enc x)[k]?=some c→rc[o+j*t.esz+k]?=some (g j k)) (hr:∀j x,L[j]?=some x→∀k c,(t.enc x)[k]?=some c→VRel z f c (g j k)) :
   VRel z f (.vec t L) (.slice (some ⟨B,o,none⟩) L.length cap')
 | vec0 (t:ETy) (A:Option Addr) (cap':Nat):VRel z f (.vec t []) (.slice A 0 cap')
 | zs (A:Option Addr):VRel z f .zs (.slice A 0 0)
 | nils:VRel z f .nils (.slice none 0 0)
 | fn (F:FuncId) (caps:List CV) (cs:Array Value) (hs:cs.size=caps.length) (hr:∀(i:Nat) (c:CV) (v:Value),caps[i]?=some c→cs[i]?=some v→VRel z f c v):VRel z f (.fn F caps) (.func (.func F) #[] cs)
 | nilfn:VRel z f .nilfn .nilFunc
 | mfn (F:FuncId):VRel z f (.mfn F) (.func (.func F) #[.agg #[]] #[])
 | iface (t:TypeId) (c:CV) (v:Value) (h:VRel z f c v):VRel z f (.iface t c) (.iface t v)
 | niliface:VRel z f .niliface .nilIface
 | agg (l:List CV) (cs:Array Value) (hs:cs.size=l.length) (hr:∀(i:Nat) (c:CV) (v:Value),l[i]?=some c→cs[i]?=some v→VRel z f c v):VRel z f (.agg l) (.agg cs)
 | tup (l:List CV) (cs:Array Value) (hs:cs.size=l.length) (hr:∀(i:Nat) (c:CV) (v:Value),l[i]?=some c→cs[i]?=some v→VRel z f c v):VRel z f (.tup l) (.tuple cs)
structure Ext (z:ZMap) (f:LMap) (z':ZMap) (f':LMap):Prop where
 z:∀B o,z B=some o→z' B=some o
 f:∀b l,f b=some l→f' b=some l
theorem Ext.refl (z:ZMap) (f:LMap):Ext z f z f:=⟨fun _ _ h=>h,fun _ _ h=>h⟩
theorem VRel.mono {z z':ZMap}{f f':LMap}(e:Ext z f z' f'){c:CV}{v:Value}(h:VRel z f c v):VRel z' f' c v:=by
 induction h with
 | undef v=>exact .undef v
 | int k n=>exact .int k n
 | bool b=>exact .bool b
 | str s=>exact .str s
 | ptr b i o l h=>exact .ptr b i o l (e.f b l h)
 | vp t x o B base rc T fr g hz hc hr ih=>exact .vp t x o B base rc T fr g (e.z B _ hz) hc ih
 | gptr g o=>exact .gptr g o
 | nilptr=>exact .nilptr
 | slice b i esz len cap cap' l h he hc hs=>exact .slice b i esz len cap cap' l (e.f b l h) he hc hs
 | slice0 b i esz A=>exact .slice0 b i esz A
 | vec t L B o cap' rc T fr g hz hl hc hr ih=>exact .vec t L B o cap' rc T fr g (e.z B _ hz) hl hc ih
 | vec0 t A cap'=>exact .vec0 t A cap'
 | zs A=>exact .zs A
 | nils=>exact .nils
 | fn F caps cs hs hr ih=>exact .fn F caps cs hs ih
 | nilfn=>exact .nilfn
 | mfn F=>exact .mfn F
 | iface t c v h ih=>exact .iface t c v ih
 | niliface=>exact .niliface
 | agg l cs hs hr ih=>exact .agg l cs hs ih
 | tup l cs hs hr ih=>exact .tup l cs hs ih
def CellsAt (z:ZMap) (f:LMap) (w:World) (l:Loc) (cs:List CV):Prop :=
 ∃rc T fr,w.heap[l.B]?=some (.cells rc T fr)∧rc.size=l.sz∧l.sh+cs.length≤l.sz∧(fr.1≤fr.2∧∀o,fr.1≤o→o<fr.2→rc.size≤o)∧∀k c,cs[k]?=some c→∃v,rc[l.sh+k]?=some v∧VRel z f c v
def BlkAt (z:ZMap) (f:LMap) (w:World):Option Loc→KB→Prop
 | _,.dead=>True
 | none,.seq _ L=>L=[]
 | some l,.seq t L=>l.esz=t.esz∧CellsAt z f w l (L.flatMap t.enc)
 | some l,.box cs=>CellsAt z f w l cs
 | some l,.iter s p=>l.sh=0∧w.heap[l.B]?=some (.stringIter s p)
 | none,_=>False
def KB.live:KB→Prop
 | .dead=>False
 | _=>True
structure DescG (z:ZMap) (f:LMap) (g:Nat→KB) (w:World):Prop where
 blk:∀i,BlkAt z f w (f i) (g i)
 apart:∀i j li lj,f i=some li→f j=some lj→(g i).live→(g j).live→i≠j→li.B≠lj.B
 off:∀i l,f i=some l→(g i).live→z l.B=none
 stays:∀B o,z B=some o→w.heap[B]?=some o
abbrev Desc (z:ZMap) (f:LMap) (h:KH) (w:World):Prop:=DescG z f h.get w
theorem KH.get_ge:∀(h:KH) (i:Nat),h.length≤i→h.get i=.dead
 | [],_,_=>rfl
 | _::h,0,hi=>by simp at hi
 | _::h,i+1,hi=>by
  simp only[qaa]at hi
  exact KH.get_ge h i (by omega)
theorem KH.get_app:∀(h k:KH) (i:Nat),KH.get (h++k) i=if i<h.length then h.get i else k.get (i-h.length)
 | [],k,i=>by simp
 | b::h,k,0=>by simp[KH.get]
 | b::h,k,i+1=>by
  simp_all [KH.get_app,List.cons_append,KH.get,qaa,Nat.add_lt_add_iff_right,Nat.add_sub_add_right]
theorem KH.put_len:∀(h:KH) (i:Nat) (x:KB),(KH.put h i x).length=h.length
 | [],_,_=>rfl
 | _::h,0,_=>rfl
 | _::h,i+1,x=>by simp[KH.put,KH.put_len h i x]
theorem KH.get_put:∀(h:KH) (i j:Nat) (x:KB),i<h.length→(KH.put h i x).get j=if j=i then x else h.get j
 | [],i,_,_,hi=>by simp at hi
 | _::h,0,0,_,_=>rfl
 | _::h,0,j+1,_,_=>rfl
 | _::h,i+1,0,_,_=>rfl
 | _::h,i+1,j+1,x,hi=>by
  simp_all [qaa,KH.get_put,KH.put,KH.get,Nat.add_right_cancel_iff]
theorem KH.lt_of_live {h:KH}{i:Nat}(hl:(h.get i).live):i<h.length:=by
 rcases Nat.lt_or_ge i h.length with k|k
 ·exact k
 ·rw[KH.get_ge h i k]at hl
  exact hl.elim
theorem CellsAt.lt {z:ZMap}{f:LMap}{w:World}{l:Loc}{cs:List CV}(h:CellsAt z f w l cs):l.B<w.heap.size:=by
 obtain⟨rc,T,fr,h,_⟩:=h
 grind
theorem BlkAt.lt {z:ZMap}{f:LMap}{w:World}{l:Loc}{b:KB}(h:BlkAt z f w (some l) b) (hl:b.live):l.B<w.heap.size:=by
 cases b with
 | dead=>exact hl.elim
 | box cs=>exact CellsAt.lt h
 | seq t L=>exact CellsAt.lt h.2
 | iter s p=>exact (Array.getElem?_eq_some_iff.1 h.2).1
theorem CellsAt.mono {z z':ZMap}{f f':LMap}{w w':World}{l:Loc}{cs:List CV}(e:Ext z f z' f') (hw:w'.heap[l.B]?=w.heap[l.B]?) (h:CellsAt z f w l cs):CellsAt z' f' w' l cs:=by
 obtain⟨rc,T,fr,h1,h2,h3,h4,h5⟩:=h
 exact⟨rc,T,fr,hw.trans h1,h2,h3,h4,fun k c hk=>let ⟨v,e1,e2⟩:=h5 k c hk;⟨v,e1,e2.mono e⟩⟩
theorem BlkAt.mono {z z':ZMap}{f f':LMap}{w w':World}{l:Loc}{b:KB}(e:Ext z f z' f') (hw:w'.heap[l.B]?=w.heap[l.B]?) (h:BlkAt z f w (some l) b):BlkAt z' f' w' (some l) b:=by
 cases b with
 | dead=>exact trivial
 | box cs=>exact CellsAt.mono e hw h
 | seq t L=>exact⟨h.1,CellsAt.mono e hw h.2⟩
 | iter s p=>exact⟨h.1,hw.trans h.2⟩
theorem BlkAt.none_any {z z':ZMap}{f f':LMap}{w w':World}{b:KB}(h:BlkAt z f w none b):BlkAt z' f' w' none b:=by
 cases b with
 | dead=>exact trivial
 | box cs=>exact h.elim
 | seq t L=>exact h
 | iter s p=>exact h.elim
theorem Desc.world {z:ZMap}{f:LMap}{h:KH}{w w':World}(d:Desc z f h w) (hb:∀i l,f i=some l→(h.get i).live→w'.heap[l.B]?=w.heap[l.B]?) (hz:∀B o,z B=some o→w'.heap[B]?=w.heap[B]?):Desc z f h w' where
 blk:=fun i=>by
  cases e:f i with
  | none =>
   have:=d.blk i
   rw[e]at this
   exact this.none_any
  | some l =>
   have hd:=d.blk i
   rw[e]at hd
   by_cases hl:(h.get i).live
   ·exact hd.mono (Ext.refl _ _) (hb i l e hl)
   ·have:h.get i=.dead:=by
     revert hl
     cases h.get i<;>simp[KB.live]
    rw[this]
    trivial
 apart:=d.apart
 off:=d.off
 stays:=fun B o e=>(hz B o e).trans (d.stays B o e)
end
section
open Go.RowKit
structure Kp (S:Nat→Prop) (w w':World):Prop where
 os:w'.os=w.os
 tape:w'.tape=w.tape
 output:w'.output=w.output
 size:w.heap.size≤w'.heap.size
 block:∀i,i<w.heap.size→¬S i→w'.heap[i]?=w.heap[i]?
theorem Kp.refl (S:Nat→Prop) (w:World):Kp S w w:=⟨rfl,rfl,rfl,Nat.le_refl _,fun _ _ _=>rfl⟩
theorem Kp.under {S:Nat→Prop}{w w':World}(h:Below w.heap.size w w'):Kp S w w':=⟨h.os,h.tape,h.output,h.size,fun i hi _=>h.block i hi⟩
theorem Kp.trans {S S':Nat→Prop}{w w' w'':World}(h:Kp S w w') (k:Kp S' w' w'') (hS:∀g,S' g→g<w.heap.size→S g):Kp S w w'' :=
 ⟨k.os.trans h.os,k.tape.trans h.tape,k.output.trans h.output,Nat.le_trans h.size k.size,fun i hi hn=>(k.block i (Nat.lt_of_lt_of_le hi h.size) (fun e=>hn (hS i e hi))).trans (h.block i hi hn)⟩
theorem Kp.mono {S S':Nat→Prop}{w w':World}(h:Kp S w w') (hS:∀g,S g→S' g):Kp S' w w':=⟨h.os,h.tape,h.output,h.size,fun i hi hn=>h.block i hi (fun e=>hn (hS i e))⟩
theorem Kp.setCell {S:Nat→Prop}{w w':World}(h:Kp S w w'){p:Addr}(hp:S p.block∨w.heap.size≤p.block) (u:Value):Kp S w (w'.setCell p u) :=
 ⟨h.os,h.tape,h.output,by simpa[World.setCell] using h.size,fun i hi hn=>by
  rw[Below.heap_setCell _ _ _ _ (fun e=>by
   grind)]
  exact h.block i hi hn⟩
def Mine (f:LMap) (h:KH) (B:Nat):Prop:=∃j l,f j=some l∧(h.get j).live∧l.B=B
structure Stp (z:ZMap) (f:LMap) (h:KH) (w:World) (z':ZMap) (f':LMap) (h':KH) (w':World):Prop where
 keep:Kp (Mine f h) w w'
 len:h.length≤h'.length
 old:∀i,i<h.length∨h'.length≤i→f' i=f i
 liv:∀i,i<h.length→(h'.get i).live→(h.get i).live
 new:∀i l,h.length≤i→f' i=some l→(h'.get i).live→w.heap.size≤l.B∨Mine f h l.B
 zold:∀B o,z B=some o→z' B=some o
 znew:∀B o,z' B=some o→z B=some o∨w.heap.size≤B∨Mine f h B
section
variable {z z' z'':ZMap}{f f' f'':LMap}{h h' h'':KH}{w w' w'':World}
theorem Stp.refl (z:ZMap) (f:LMap) (h:KH) (w:World):Stp z f h w z f h w :=
 ⟨Kp.refl _ _,Nat.le_refl _,fun _ _=>rfl,fun _ _ h=>h,fun i l hi _ hl=>absurd (KH.lt_of_live hl) (by omega),fun _ _ h=>h,fun _ _ h=>.inl h⟩
theorem Stp.ext (s:Stp z f h w z' f' h' w') (hn:∀i,h.length≤i→i<h'.length→f i=none):Ext z f z' f' :=
 ⟨s.zold,fun b l e=>by
  by_cases hb:b<h.length∨h'.length≤b
  ·exact (s.old b hb).trans e
  grind⟩
theorem Stp.mine (s:Stp z f h w z' f' h' w'){B:Nat}(hm:Mine f' h' B):w.heap.size≤B∨Mine f h B:=by
 obtain⟨j,l,e,hl,rfl⟩:=hm
 by_cases hj:j<h.length
 ·exact .inr ⟨j,l,(s.old j (.inl hj)).symm.trans e,s.liv j hj hl,rfl⟩
 ·exact s.new j l (by omega) e hl
theorem Stp.trans (s:Stp z f h w z' f' h' w') (t:Stp z' f' h' w' z'' f'' h'' w''):Stp z f h w z'' f'' h'' w'' where
 keep:=s.keep.trans t.keep (fun g hg hlt=>(s.mine hg).resolve_left (by omega))
 len:=Nat.le_trans s.len t.len
 old:=fun i hi=>by
  have h1:=s.len
  have h2:=t.len
  rcases hi with hi|hi
  ·exact (t.old i (.inl (by omega))).trans (s.old i (.inl hi))
  ·exact (t.old i (.inr hi)).trans (s.old i (.inr (by omega)))
 liv:=fun i hi hl=>s.liv i hi (t.liv i (Nat.lt_of_lt_of_le hi s.len) hl)
 new:=fun i l hi e hl=>by
  by_cases hj:i<h'.length
  ·exact s.new i l hi ((t.old i (.inl hj)).symm.trans e) (t.liv i hj hl)
  ·rcases t.new i l (by omega) e hl with h1|h1
   ·exact .inl (Nat.le_trans s.keep.size h1)
   ·exact s.mine h1
 zold:=fun B o e=>t.zold B o (s.zold B o e)
 znew:=fun B o e=>by
  rcases t.znew B o e with h1|h1|h1
  ·exact s.znew B o h1
  ·exact .inr (.inl (Nat.le_trans s.keep.size h1))
  ·exact .inr (s.mine h1)
def LMap.upd (f:LMap) (n:Nat) (l:Option Loc):LMap:=fun i=>if i=n then l else f i
theorem LMap.upd_same (f:LMap) (n:Nat) (l:Option Loc):f.upd n l n=l:=if_pos rfl
theorem LMap.upd_ne (f:LMap){n i:Nat}(l:Option Loc) (hi:i≠n):f.upd n l i=f i:=if_neg hi
theorem jkT {n:Nat}(z:ZMap) (hn:f n=none) (l:Option Loc):Ext z f z (f.upd n l) :=
 ⟨fun _ _ e=>e,fun b k e=>by
  grind [LMap.upd_ne]⟩
theorem jcy (h:KH) (b:KB) (i:Nat):KH.get (h++[b]) i=if i=h.length then b else h.get i:=by
 rw[KH.get_app]
 by_cases h1:i<h.length
 ·grind
 ·by_cases h2:i=h.length
  ·rw[if_neg h1,if_pos h2,h2,Nat.sub_self]
   rfl
  ·rw[if_neg h1,if_neg h2,KH.get_ge h i (by omega),KH.get_ge [b] _ (by simp;omega)]
theorem Desc.push {b:KB}{lo:Option Loc}(d:Desc z f h w) (hn:f h.length=none) (hb:BlkAt z (f.upd h.length lo) w lo b)
  (hap:∀l,lo=some l→b.live→(∀j lj,f j=some lj→(h.get j).live→lj.B≠l.B)∧z l.B=none):Desc z (f.upd h.length lo) (h++[b]) w:=by
 have ext:=jkT (f:=f) z hn lo
 refine⟨fun i=>?_,fun i j li lj ei ej hi hj hne=>?_,fun i l e hl=>?_,d.stays⟩
 ·rw[jcy]
  by_cases hi:i=h.length
  ·simp_all [if_pos,LMap.upd_same]
  ·rw[if_neg hi,LMap.upd_ne _ _ hi]
   have hb:=d.blk i
   cases e:f i with
   | none =>
    rw[e]at hb
    exact hb.none_any
   | some l =>
    rw[e]at hb
    exact hb.mono ext rfl
 ·rw[jcy]at hi hj
  by_cases h1:i=h.length
  ·rw[if_pos h1]at hi
   rw[h1,LMap.upd_same]at ei
   rw[if_neg (by omega)]at hj
   grind [LMap.upd_ne]
  ·rw[if_neg h1]at hi
   rw[LMap.upd_ne _ _ h1]at ei
   by_cases h2:j=h.length
   ·rw[if_pos h2]at hj
    grind [LMap.upd_same]
   ·rw[if_neg h2]at hj
    rw[LMap.upd_ne _ _ h2]at ej
    exact d.apart i j li lj ei ej hi hj hne
 ·rw[jcy]at hl
  by_cases h1:i=h.length
  ·simp_all [if_pos,LMap.upd_same]
  ·rw[if_neg h1]at hl
   rw[LMap.upd_ne _ _ h1]at e
   exact d.off i l e hl
theorem Desc.alloc (d:Desc z f h w) (o:Obj):Desc z f h (w.alloc o) :=
 d.world (fun i l e hl=>Below.heap_alloc w o _ (by have:=d.blk i;rw[e]at this;exact this.lt hl)) (fun B o' e=>Below.heap_alloc w o _ (Array.getElem?_eq_some_iff.1 (d.stays B o' e)).1)
theorem Desc.z_lt (d:Desc z f h w){B:Nat}{o:Obj}(e:z B=some o):B<w.heap.size:=(Array.getElem?_eq_some_iff.1 (d.stays B o e)).1
theorem Desc.f_lt (d:Desc z f h w){i:Nat}{l:Loc}(e:f i=some l) (hl:(h.get i).live):l.B<w.heap.size:=by
 have:=d.blk i
 rw[e]at this
 exact this.lt hl
theorem jkU (b:KB) (lo:Option Loc) (w':World) (hk:Kp (Mine f h) w w') (hnew:∀l,lo=some l→b.live→w.heap.size≤l.B∨Mine f h l.B):Stp z f h w z (f.upd h.length lo) (h++[b]) w' where
 keep:=hk
 len:=by simp
 old:=fun i hi=>by
  grind [qab,qaa,qad,LMap.upd_ne]
 liv:=fun i hi hl=>by
  rw[jcy,if_neg (by omega)]at hl
  exact hl
 new:=fun i l hi e hl=>by
  have h2:=KH.lt_of_live hl
  simp only[qab,qaa,qad]at h2
  have h1:i=h.length:=by omega
  simp_all [jcy,if_pos,LMap.upd_same]
 zold:=fun _ _ e=>e
 znew:=fun _ _ e=>.inl e
theorem jij (S:Nat→Prop) (w:World) (o:Obj):Kp S w (w.alloc o):=Kp.under (Below.alloc (Below.refl _ _) (Nat.le_refl _) o)
theorem jgK (S:Nat→Prop) (w:World):Kp S w w.drew:=Kp.under (Below.drew (Below.refl _ _))
theorem joD (d:Desc z f h w) (hn:f h.length=none) (b:KB) (esz:Nat) (rc:Array Value) (T:TypeId) (fr:Nat×Nat)
  (hb:BlkAt z (f.upd h.length (some ⟨w.heap.size,0,esz,rc.size⟩)) (w.alloc (.cells rc T fr)) (some ⟨w.heap.size,0,esz,rc.size⟩) b) :
  Desc z (f.upd h.length (some ⟨w.heap.size,0,esz,rc.size⟩)) (h++[b]) (w.alloc (.cells rc T fr))∧Stp z f h w z (f.upd h.length (some ⟨w.heap.size,0,esz,rc.size⟩)) (h++[b]) (w.alloc (.cells rc T fr)):=by
 refine⟨(d.alloc _).push hn hb (fun l e hl=>?_),jkU b _ _ (jij _ _ _) (fun l e _=>?_)⟩
 ·cases e
  refine⟨fun j lj ej hj=>?_,?_⟩
  ·have:=d.f_lt ej hj
   grind
  ·cases ez:z w.heap.size with
   | none=>rfl
   | some o =>
    have:=d.z_lt ez
    omega
 grind
end
end
section
open Go.RowKit
theorem jfn (b o n:Nat):(Addr.mk b o none).add n=⟨b,o+n,none⟩:=by
 unfold Addr.add
 split<;>simp_all
theorem jfu {w:World}{g:Nat}{rc:Array Value}{T:TypeId}{fr:Nat×Nat}(h:w.heap[g]?=some (.cells rc T fr)) (o:Nat):w.cell? ⟨g,o,none⟩=rc[o]?:=by
 simp[World.cell?,h]
theorem jq6 {w:World}{g:Nat}{rc:Array Value}{T:TypeId}{fr:Nat×Nat}(h:w.heap[g]?=some (.cells rc T fr)) (hf:∀o,fr.1≤o→o<fr.2→rc.size≤o) (o:Nat) (ho:o<rc.size):w.frozen? ⟨g,o,none⟩=false:=by
 grind [World.frozen?,Bool.and_eq_false_iff,decide_eq_false_iff_not]
theorem jvR {w:World}{g:Nat}{rc:Array Value}{T:TypeId}{fr:Nat×Nat}(h:w.heap[g]?=some (.cells rc T fr)) (o:Nat) (v:Value):(w.setCell ⟨g,o,none⟩ v).heap[g]?=some (.cells (rc.setIfInBounds o v) T fr):=by
 simp[World.setCell,Array.getElem?_modify,h]
theorem jdS (P:Program) (g o:Nat) (T:TypeId) (fr:Nat×Nat):∀(vs:List Value) (i:Nat) (cur:Array Value) (w:World),w.heap[g]?=some (.cells cur T fr)→(∀j,fr.1≤j→j<fr.2→cur.size≤j)→o+i+vs.length≤cur.size→(∀v∈vs,v.oneCell'=true) →
  ∃w' cur',(storeCells ⟨g,o,none⟩ vs i).run P w=.ok () w'∧w'.heap[g]?=some (.cells cur' T fr)∧cur'.size=cur.size∧Kp (fun B=>g=B) w w'∧w'.heap.size=w.heap.size ∧
   (∀k,k<o+i∨o+i+vs.length≤k→cur'[k]?=cur[k]?)∧(∀j v,vs[j]?=some v→cur'[o+i+j]?=some v)
 | [],i,cur,w,hg,_,_,_=>⟨w,cur,rfl,hg,rfl,Kp.refl _ _,rfl,fun _ _=>rfl,fun j v e=>by simp at e⟩
 | v::rest,i,cur,w,hg,hf,hl,h1=>by
  have hi:o+i<cur.size:=by simp at hl;omega
  have hst:(store ((⟨g,o,none⟩:Addr).add i) v).run P w=.ok () (w.setCell ⟨g,o+i,none⟩ v):=by
   rw[jfn,run_store P w _ v _ (h1 v (by simp)),jfu hg,Array.getElem?_eq_getElem hi]
   simp[jq6 hg hf (o+i) hi]
  obtain⟨w',cur',e1,e2,e3,e4,e5,e6,e7⟩:=jdS P g o T fr rest (i+1) (cur.setIfInBounds (o+i) v) (w.setCell ⟨g,o+i,none⟩ v) (jvR hg _ _) (by grind) (by grind) (fun x hx=>h1 x (by simp[hx]))
  refine⟨w',cur',?_,e2,by grind,?_,by simp_all,?_,?_⟩
  ·grind [storeCells,Sem.run_bind,Result.andThen_ok]
  ·exact ((Kp.refl _ w).setCell (.inl rfl) v).trans e4 (fun g h _=>h)
  all_goals grind
theorem jcz (t:ETy):∀(L:List t.T) (m:Nat),(L.flatMap t.enc)[m]?=(L[m / t.esz]?).bind fun x=>(t.enc x)[m % t.esz]?
 | [],m=>by simp
 | x::L,m=>by
  have hp:=t.esz_pos
  have hl:=t.enc_len x
  rw[qac]
  by_cases h:m<t.esz
  ·grind [List.getElem?_append_left,Nat.div_eq_of_lt,Nat.mod_eq_of_lt]
  ·rw[List.getElem?_append_right (by omega),hl,jcz t L (m-t.esz)]
   have e1:m / t.esz=(m-t.esz) / t.esz+1:=by
    rw[Nat.div_eq m,if_pos ⟨hp,by omega⟩]
   grind [Nat.mod_eq_sub_mod,List.getElem?_cons_succ]
theorem jaz (t:ETy):∀L:List t.T,(L.flatMap t.enc).length=L.length*t.esz
 | []=>by simp
 | x::L=>by rw[qac,qab,t.enc_len,jaz t L,qaa,Nat.succ_mul,Nat.add_comm]
theorem jfv (t:ETy) (L:List t.T) (j k:Nat) (x:t.T) (c:CV) (hx:L[j]?=some x) (hc:(t.enc x)[k]?=some c):(L.flatMap t.enc)[j*t.esz+k]?=some c:=by
 have hk:k<t.esz:=by
  rw[←t.enc_len x]
  exact (List.getElem?_eq_some_iff.1 hc).1
 rw[jcz,show (j*t.esz+k) / t.esz=j by rw[Nat.mul_comm,Nat.mul_add_div t.esz_pos,Nat.div_eq_of_lt hk,Nat.add_zero],show (j*t.esz+k) % t.esz=k by rw[Nat.mul_comm,Nat.mul_add_mod,Nat.mod_eq_of_lt hk],hx]
 exact hc
theorem jbJ (t:ETy) (L:List t.T) (m:Nat) (c:CV) (h:(L.flatMap t.enc)[m]?=some c):∃j k x,m=j*t.esz+k∧k<t.esz∧L[j]?=some x∧(t.enc x)[k]?=some c:=by
 rw[jcz]at h
 cases hx:L[m / t.esz]? with
 | none=>grind
 | some x =>
  rw[hx]at h
  exact⟨m / t.esz,m % t.esz,x,by grind [Nat.mul_comm,Nat.div_add_mod],Nat.mod_lt _ t.esz_pos,hx,h⟩
def CV.one:CV→Bool
 | .undef | .agg _ | .tup _=>false
 | _=>true
theorem VRel.oneCell {z:ZMap}{f:LMap}{c:CV}{v:Value}(h:VRel z f c v) (hc:c.one=true):v.oneCell'=true:=by
 cases h<;>first|rfl|(simp[CV.one]at hc)
def jem (E:Nat→Option (List CV)) (h:KH):CV→Option (Prop×List CV)
 | .ptr b i o=>match h.get b with
  | .box cs=>some (i=0,cs.drop o)
  | .seq t L=>some (i<L.length,(t.enc (L.getD i t.dflt)).drop o)
  | _=>none
 | .vp t x o=>some (True,(t.enc x).drop o)
 | .gptr g o=>(E g).map fun cs=>(True,cs.drop o)
 | _=>none
def EnvOk (E:Nat→Option (List CV)) (z:ZMap):Prop:=∀(g:Nat) (cs:List CV),E g=some cs→∃rc T fr,z g=some (.cells rc T fr)∧∀(f:LMap) (k:Nat) (c:CV),cs[k]?=some c→∃v,rc[k]?=some v∧VRel z f c v
section
variable {z:ZMap}{f:LMap}{h:KH}{w:World}{E:Nat→Option (List CV)}
theorem EnvOk.mono {z':ZMap}{f':LMap}(hE:EnvOk E z) (e:Ext z f z' f'):EnvOk E z':=fun g cs hg=>by
 obtain⟨rc,T,fr,h1,h2⟩:=hE g cs hg
 exact⟨rc,T,fr,e.z _ _ h1,fun f k c hk=>let ⟨v,e1,e2⟩:=h2 f k c hk;⟨v,e1,e2.mono ⟨e.z,fun _ _ h=>h⟩⟩⟩
theorem jik (d:Desc z f h w) (hE:EnvOk E z){p:CV}{u:Value}{G:Prop}{r:List CV}(hp:VRel z f p u) (hr:jem E h p=some (G,r)) (hG:G) :
  ∃B o,u=.pointer (some ⟨B,o,none⟩)∧∀k c,r[k]?=some c→∃v,w.cell? ⟨B,o+k,none⟩=some v∧VRel z f c v:=by
 cases hp with
 | ptr b i o l hl =>
  have hb:=d.blk b
  rw[hl]at hb
  simp only[jem]at hr
  split at hr
  ·rename_i cs hg
   rw[hg]at hb
   simp only[Option.some.injEq,Prod.mk.injEq]at hr
   obtain⟨rfl,rfl⟩:=hr
   subst hG
   obtain⟨rc,T,fr,h1,h2,h3,h4,h5⟩:=hb
   refine⟨_,_,rfl,fun k c hk=>?_⟩
   rw[List.getElem?_drop]at hk
   obtain⟨v,e1,e2⟩:=h5 _ c hk
   exact⟨v,by rw[jfu h1,←e1];congr 1;omega,e2⟩
  ·rename_i t L hg
   rw[hg]at hb
   simp only[Option.some.injEq,Prod.mk.injEq]at hr
   obtain⟨rfl,rfl⟩:=hr
   obtain⟨he,rc,T,fr,h1,h2,h3,h4,h5⟩:=hb
   refine⟨_,_,rfl,fun k c hk=>?_⟩
   rw[List.getElem?_drop]at hk
   obtain⟨x,hx⟩:∃x,L[i]?=some x:=⟨_,List.getElem?_eq_getElem hG⟩
   have hxd:L.getD i t.dflt=x:=by rw[List.getD_eq_getElem?_getD,hx];rfl
   rw[hxd]at hk
   obtain⟨v,e1,e2⟩:=h5 _ c (jfv t L i (o+k) x c hx hk)
   grind [jfu]
  ·cases hr
 | vp t x o B base rc T fr g hz hc hrel =>
  simp only[jem,Option.some.injEq,Prod.mk.injEq]at hr
  obtain⟨rfl,rfl⟩:=hr
  refine⟨_,_,rfl,fun k c hk=>?_⟩
  rw[List.getElem?_drop]at hk
  exact⟨g (o+k),by rw[jfu (d.stays _ _ hz),←hc _ c hk];grind,hrel _ c hk⟩
 | gptr g o =>
  simp only[jem,Option.map_eq_some_iff]at hr
  obtain⟨cs,hcs,e⟩:=hr
  simp only[Prod.mk.injEq]at e
  obtain⟨_,rfl⟩:=e
  obtain⟨rc,T,fr,h1,h2⟩:=hE g cs hcs
  refine⟨_,_,rfl,fun k c hk=>?_⟩
  rw[List.getElem?_drop]at hk
  obtain⟨v,e1,e2⟩:=h2 f _ c hk
  exact⟨v,by rw[jfu (d.stays _ _ h1),←e1],e2⟩
 | _=>simp[jem]at hr
def aggD:TypeDesc→Bool
 | .struct _ | .array _ _=>true
 | _=>false
def jfh (agg:Bool) (n:Nat) (r:List CV):Option CV :=
 if n≤r.length then (if agg then some (.agg (r.take n)) else if n=1 then r.head? else none) else none
theorem jhp (P:Program){t:TypeId}{i:TypeInfo}{dsc:TypeDesc}{agg:Bool}{n:Nat}{B o:Nat}{r:List CV}{c:CV}(hu:P.underlying t=some dsc) (ha:aggD dsc=agg)
  (hi:P.info? t=some i) (hn:i.size=n) (hc:∀k c,r[k]?=some c→∃v,w.cell? ⟨B,o+k,none⟩=some v∧VRel z f c v) (hl:jfh agg n r=some c) :
  ∃v,(loadVar t ⟨B,o,none⟩).run P w=.ok v w∧VRel z f c v:=by
 have hagg:(isAgg t).run P w=.ok agg w:=by
  unfold isAgg
  rw[Sem.run_bind,run_underlying hu]
  subst ha
  cases dsc<;>rfl
 have hsz:(sizeOf t).run P w=.ok n w:=by simp[sizeOf,run_typeInfo w hi,hn]
 unfold jfh at hl
 split at hl
 ·rename_i hle
  cases agg with
  | true =>
   simp only[if_true,Option.some.injEq]at hl
   subst hl
   have hv:∀k,k<n→∃v,w.cell? ((⟨B,o,none⟩:Addr).add k)=some v∧∀c,r[k]?=some c→VRel z f c v:=fun k hk=>by
    obtain⟨v,e1,e2⟩:=hc k _ (List.getElem?_eq_getElem (by omega))
    grind [jfn,List.getElem?_eq_getElem]
   obtain⟨g,hg⟩:∃g:Nat→Value,∀k,k<n→w.cell? ((⟨B,o,none⟩:Addr).add k)=some (g k)∧∀c,r[k]?=some c→VRel z f c (g k) :=
    ⟨fun k=>(w.cell? ((⟨B,o,none⟩:Addr).add k)).getD undef,fun k hk=>by
     grind⟩
   refine⟨.agg ((List.range n).map g).toArray,?_,.agg _ _ (by simp;omega) (fun k c v hk hv=>?_)⟩
   ·simp_all [loadVar,Sem.run_bind,Result.andThen_ok,if_true,run_loadCells]
   grind
  | false =>
   simp only[Bool.false_eq_true,if_false]at hl
   split at hl
   ·rename_i h1
    rw[List.head?_eq_getElem?]at hl
    obtain⟨v,e1,e2⟩:=hc 0 c hl
    refine⟨v,?_,e2⟩
    unfold loadVar
    simp_all
   ·cases hl
 ·cases hl
end
end
section
open Go.RowKit
def jbE (r:List CV) (o:Nat):List CV→List CV
 | [c]=>r.set o c
 | cs=>r.take o++cs++r.drop (o+cs.length)
theorem jj3 (r:List CV) (o:Nat) (cs:List CV) (h:o+cs.length≤r.length):(jbE r o cs).length=r.length:=by
 unfold jbE
 grind
theorem jgL (r:List CV) (o:Nat) (cs:List CV) (h:o+cs.length≤r.length) (k:Nat):(jbE r o cs)[k]?=if o≤k∧k<o+cs.length then cs[k-o]? else r[k]?:=by
 unfold jbE
 split
 ·grind
 ·rw[List.getElem?_append,List.getElem?_append]
  grind
def jbk (b:KB) (i o:Nat) (cs:List CV):Option (Prop×KB) :=
 match b with
 | .box r=>if o+cs.length≤r.length then some (i=0,.box (jbE r o cs)) else none
 | .seq t L=>match t.dec (jbE (t.enc (L.getD i t.dflt)) o cs)with
  | some y=>some (i<L.length∧o+cs.length≤t.esz,.seq t (L.set i y))
  | none=>none
 | _=>none
section
variable {z:ZMap}{f:LMap}{h:KH}{w w':World}
theorem jf1 (d:Desc z f h w){i:Nat}{l:Loc}{b':KB}(hi:f i=some l) (hl:(h.get i).live) (hk:Kp (fun B=>l.B=B) w w') (hb:BlkAt z f w' (some l) b'):Desc z f (KH.put h i b') w'∧Stp z f h w z f (KH.put h i b') w':=by
 have hlt:=KH.lt_of_live hl
 have far:∀j lj,j≠i→f j=some lj→(h.get j).live→w'.heap[lj.B]?=w.heap[lj.B]?:=fun j lj hj ej hlj =>
  hk.block _ (d.f_lt ej hlj) (fun e=>d.apart j i lj l ej hi hlj hl hj e.symm)
 refine⟨⟨fun j=>?_,fun j k lj lk ej ek hj hk2 hne=>?_,fun j lj e hlj=>?_,fun B o e=>?_⟩,⟨hk.mono (fun B e=>⟨i,l,hi,hl,e⟩),by rw[KH.put_len];exact Nat.le_refl _,fun _ _=>rfl,fun j hj hlj=>?_,fun j lj hj _ hlj=>?_,fun _ _ e=>e,fun _ _ e=>.inl e⟩⟩
 ·rw[KH.get_put h i j b' hlt]
  by_cases hj:j=i
  ·grind
  ·rw[if_neg hj]
   have hb:=d.blk j
   cases e:f j with
   | none =>
    rw[e]at hb
    exact hb.none_any
   | some lj =>
    rw[e]at hb
    by_cases hlj:(h.get j).live
    ·exact hb.mono (Ext.refl _ _) (far j lj hj e hlj)
    ·have:h.get j=.dead:=by
      revert hlj
      cases h.get j<;>simp[KB.live]
     rw[this]
     trivial
 ·have live:∀j,((KH.put h i b').get j).live→(h.get j).live:=fun j hj=>by
   rw[KH.get_put h i j b' hlt]at hj
   grind
  exact d.apart j k lj lk ej ek (live j hj) (live k hk2) hne
 ·rw[KH.get_put h i j b' hlt]at hlj
  by_cases e2:j=i
  ·rw[e2]at e
   exact d.off i lj e hl
  ·rw[if_neg e2]at hlj
   exact d.off j lj e hlj
 ·rw[hk.block B (d.z_lt e) (fun e2=>by
   have:=d.off i l hi hl
   grind)]
  exact d.stays B o e
 ·rw[KH.get_put h i j b' hlt]at hlj
  grind
 ·have:=KH.lt_of_live hlj
  rw[KH.put_len]at this
  omega
theorem jil (P:Program){l:Loc}{cs:List CV}(hc:CellsAt z f w l cs) (p:Nat) (new:List CV) (vs:List Value) (hp:p+new.length≤cs.length) (hv:vs.length=new.length)
  (hr:∀(k:Nat) (c:CV) (v:Value),new[k]?=some c→vs[k]?=some v→VRel z f c v) (h1:∀v∈vs,v.oneCell'=true) (cs':List CV) (hl:cs'.length=cs.length)
  (hcs:∀k,cs'[k]?=if p≤k∧k<p+new.length then new[k-p]? else cs[k]?) :
  ∃w',(storeCells ⟨l.B,l.sh+p,none⟩ vs).run P w=.ok () w'∧Kp (fun B=>l.B=B) w w'∧CellsAt z f w' l cs':=by
 obtain⟨rc,T,fr,e1,e2,e3,e4,e5⟩:=hc
 obtain⟨w',cur',g1,g2,g3,g4,g5,g6,g7⟩:=jdS P l.B (l.sh+p) T fr vs 0 rc w e1 e4.2 (by omega) h1
 refine⟨w',g1,g4,cur',T,fr,g2,by omega,by omega,by grind,fun k c hk=>?_⟩
 rw[hcs]at hk
 by_cases hin:p≤k∧k<p+new.length
 ·rw[if_pos hin]at hk
  have hlt:k-p<vs.length:=by omega
  refine⟨vs[k-p],?_,hr _ c _ hk (List.getElem?_eq_getElem hlt)⟩
  grind
 ·rw[if_neg hin]at hk
  obtain⟨v,h1,h2⟩:=e5 k c hk
  exact⟨v,by rw[g6 _ (by omega)];exact h1,h2⟩
def CV.known (c:CV):Bool:=match c with
 | .agg l=>l.all CV.one
 | c=>c.one
theorem VRel.cells {c:CV}{v:Value}(hr:VRel z f c v) (hk:c.known=true):v.cells.size=c.cells.length∧(∀(k:Nat) (d:CV) (u:Value),c.cells[k]?=some d→v.cells[k]?=some u→VRel z f d u)∧∀u∈v.cells.toList,u.oneCell'=true:=by
 have one:c.one=true→v.cells=#[v]∧c.cells=[c]:=fun h=>by
  cases hr<;>first|exact⟨rfl,rfl⟩|(simp[CV.one]at h)
 have mk:c.one=true→v.cells.size=c.cells.length∧(∀(k:Nat) (d:CV) (u:Value),c.cells[k]?=some d→v.cells[k]?=some u→VRel z f d u)∧∀u∈v.cells.toList,u.oneCell'=true:=fun h=>by
  obtain⟨e1,e2⟩:=one h
  rw[e1,e2]
  refine⟨rfl,fun k d u hd hu=>?_,fun u hu=>?_⟩
  ·grind
  ·simp at hu
   subst hu
   exact hr.oneCell h
 unfold CV.known at hk
 split at hk
 ·rename_i l
  cases hr with
  | agg _ cs hs hc =>
   refine⟨hs,hc,fun u hu=>?_⟩
   obtain⟨k,hk2⟩:=List.mem_iff_getElem?.1 hu
   have hk3:cs[k]?=some u:=by simpa[Value.cells] using hk2
   have hlt:k<l.length:=by
    rw[←hs]
    exact (Array.getElem?_eq_some_iff.1 hk3).1
   exact (hc k l[k] u (List.getElem?_eq_getElem hlt) hk3).oneCell (List.all_eq_true.1 hk _ (List.getElem_mem hlt))
 grind
theorem jq7 (P:Program){t:TypeId}{i:TypeInfo}(hi:P.info? t=some i) (d:Desc z f h w){b j o:Nat}{c:CV}{u v:Value}{G:Prop}{kb:KB}(hp:VRel z f (.ptr b j o) u) (hv:VRel z f c v) (hk:c.known=true)
  (hn:i.size=c.cells.length) (hs:jbk (h.get b) j o c.cells=some (G,kb)) (hG:G) :
  ∃w',(Instr.storeAt t u v).run P w=.ok () w'∧Desc z f (KH.put h b kb) w'∧Stp z f h w z f (KH.put h b kb) w':=by
 obtain⟨hcl,hcr,hc1⟩:=hv.cells hk
 cases hp with
 | ptr _ _ _ l hl =>
  have hrun:∀w',(storeCells (l.addr j o) v.cells.toList).run P w=.ok () w'→(Instr.storeAt t (.pointer (some (l.addr j o))) v).run P w=.ok () w':=fun w' hw=>by
   have hsz:(sizeOf t).run P w=.ok i.size w:=by simp[sizeOf,run_typeInfo w hi]
   unfold Instr.storeAt
   simp_all [Instr.sureAddr,Sem.run_bind,Sem.run_pure,Result.andThen_ok,storeVar,if_neg]
  have hb:=d.blk b
  rw[hl]at hb
  unfold jbk at hs
  split at hs
  ·rename_i r hg
   rw[hg]at hb
   split at hs
   ·rename_i hle
    simp only[Option.some.injEq,Prod.mk.injEq]at hs
    obtain⟨rfl,rfl⟩:=hs
    subst hG
    obtain⟨w',e1,e2,e3⟩:=jil P hb o c.cells v.cells.toList hle (by omega) (fun k c v h1 h2=>hcr k c v h1 (by simpa using h2)) hc1 (jbE r o c.cells) (jj3 _ _ _ hle) (jgL _ _ _ hle)
    obtain⟨d1,d2⟩:=jf1 d hl (by rw[hg];trivial) e2 (b':=.box (jbE r o c.cells)) e3
    grind [Loc.addr]
   ·cases hs
  ·rename_i t2 L hg
   rw[hg]at hb
   split at hs
   ·rename_i y hy
    simp only[Option.some.injEq,Prod.mk.injEq]at hs
    obtain⟨rfl,rfl⟩:=hs
    obtain⟨hj,hle⟩:=hG
    obtain⟨he,hcells⟩:=hb
    have hx:L[j]?=some (L.getD j t2.dflt):=by rw[List.getD_eq_getElem?_getD,List.getElem?_eq_getElem hj];rfl
    have hle2:o+c.cells.length≤(t2.enc (L.getD j t2.dflt)).length:=by rw[t2.enc_len];exact hle
    have hy2:=t2.enc_dec _ _ hy
    have hpos:j*t2.esz+t2.esz≤L.length*t2.esz:=by
     rw[←Nat.succ_mul]
     exact Nat.mul_le_mul_right _ hj
    obtain⟨w',e1,e2,e3⟩:=jil P hcells (j*t2.esz+o) c.cells v.cells.toList (by rw[jaz];omega) (by omega) (fun k c v h1 h2=>hcr k c v h1 (by simpa using h2)) hc1
     ((L.set j y).flatMap t2.enc) (by rw[jaz,jaz,List.length_set]) (fun k=>by
      rw[jcz,jcz]
      have hm:=Nat.div_add_mod k t2.esz
      have hmod:=Nat.mod_lt k t2.esz_pos
      rw[List.getElem?_set]
      by_cases hkj:j=k / t2.esz
      ·rw[if_pos hkj,←hkj,if_pos hj,hx]
       simp only[Option.bind_some]
       rw[hy2,jgL _ _ _ hle2]
       have:k=j*t2.esz+k % t2.esz:=by
        rw[hkj,Nat.mul_comm]
        exact hm.symm
       grind
      ·rw[if_neg hkj,if_neg]
       intro ⟨g1,g2⟩
       apply hkj
       have h1:j*t2.esz≤k:=by omega
       grind [Nat.succ_mul,Nat.div_eq_of_lt_le])
    obtain⟨d1,d2⟩:=jf1 d hl (by rw[hg];trivial) e2 (b':=.seq t2 (L.set j y)) ⟨he,e3⟩
    simp_all [none,Loc.addr,Nat.add_assoc]
   ·cases hs
  ·cases hs
end
end
section
open Go.RowKit
abbrev Fr:=List (Nat×CV)
def Fr.get:Fr→Nat→CV
 | [],_=>.undef
 | (k,v)::r,n=>if n=k then v else Fr.get r n
def Fr.set:Fr→Nat→CV→Fr
 | [],n,v=>[(n,v)]
 | (k,x)::r,n,v=>if n=k then (n,v)::r else (k,x)::Fr.set r n v
def Fr.keep (ks:List Nat):Fr→Fr
 | []=>[]
 | (k,x)::r=>if ks.contains k then (k,x)::Fr.keep ks r else Fr.keep ks r
inductive Opd where
 | t (n:Nat)
 | c (v:CV)
deriving Inhabited
def Opd.ev (fr:Fr):Opd→CV
 | .t n=>fr.get n
 | .c v=>v
inductive LOp where
 | mov (x:Opd)
 | pick (c a b:Opd)
 | box (x:Opd)
 | zero (cs:List CV)
 | build (z:List CV) (ps:List (Nat×Nat×Opd))
 | bslice (t:ETy) (ps:List Opd)
 | load (agg:Bool) (n:Nat) (a:Opd)
 | store (n:Nat) (a v:Opd)
 | nilck (x:Opd)
 | ari (op:BinOp) (wr:Bool) (x y:Opd)
 | cmp (op:BinOp) (x y:Opd)
 | cmpB (neg:Bool) (x y:Opd)
 | cmpN (kind:Nat) (neg:Bool) (x:Opd)
 | eqA (ks:List IntKind) (neg:Bool) (x y:Opd)
 | un (op:UnOp) (x:Opd)
 | conv (k:IntKind) (wr:Bool) (x:Opd)
 | s2b (x:Opd)
 | b2s (x:Opd)
 | frz (x:Opd)
 | mkif (t:TypeId) (x:Opd)
 | mkfn (F:FuncId) (cs:List Opd)
 | mkm (F:FuncId) (x:Opd)
 | mksl (t:ETy) (bytes:Nat) (l c:Opd)
 | sl (st:Bool) (esz:Nat) (x:Opd) (lo hi mx:Option Opd)
 | sl0 (x:Opd)
 | faddr (x:Opd) (off:Nat)
 | field (x:Opd) (off n:Nat) (agg:Bool)
 | ixS (esz:Nat) (x i:Opd)
 | ixA (len esz:Nat) (x i:Opd)
 | ixV (x i:Opd)
 | ixC (len esz:Nat) (agg:Bool) (x i:Opd)
 | i2s (x:Opd)
 | cat (x y:Opd)
 | ext (x:Opd) (i:Nat)
 | app (t:ETy) (x y:Opd)
 | cpy (t:ETy) (x y:Opd)
 | len (st:Bool) (x:Opd)
 | mm (mx:Bool) (x y:Opd)
 | rng (x:Opd)
 | nxt (x:Opd)
 | tas (t:TypeId) (ok:Bool) (zero:CV) (x:Opd)
 | call (F:FuncId) (xs:List Opd)
 | callv (x:Opd) (xs:List Opd)
 | panic (x:Opd)
deriving Inhabited
def ETy.cast? (t t':ETy) (L:List t.T):Option (List t'.T):=if h:t=t' then some (h▸L) else none
theorem ETy.cast_same (t:ETy) (L:List t.T):ETy.cast? t t L=some L:=by simp[ETy.cast?]
theorem ETy.cast_enc (t t':ETy) (L:List t.T) (L':List t'.T) (h:ETy.cast? t t' L=some L'):t'.esz=t.esz∧L'.length=L.length∧L'.map t'.enc=L.map t.enc:=by
 unfold ETy.cast? at h
 grind
def jbb (h:KH) (t:ETy):CV→Option (Prop×List t.T)
 | .vec t' L=>(ETy.cast? t' t L).map fun L=>(True,L)
 | .slice b i esz len _=>match h.get b with
  | .seq t' M=>(ETy.cast? t' t M).map fun M=>(i+len≤M.length,(M.drop i).take len)
  | _=>none
 | .zs | .nils=>some (True,[])
 | _=>none
def jab (s:ByteArray):List Int:=s.data.toList.map fun b=>(b.toNat:Int)
def jep (h:KH) (t:ETy):CV→Option (Prop×List t.T)
 | .str s=>(ETy.cast? (.int .u8) t (jab s)).map fun L=>(True,L)
 | c=>jbb h t c
def jaJ (l:List Int):ByteArray:=⟨(l.map fun n=>UInt8.ofNat n.toNat).toArray⟩
def jag (k:IntKind) (n:Int):Prop:=k.min≤n∧n≤k.max
def ariK (op:BinOp) (x y:Int):Option (Prop×Int) :=
 match op with
 | .add=>some (True,x+y)
 | .sub=>some (True,x-y)
 | .mul=>some (True,x*y)
 | .quo=>some ((x<0→x % y=0)∧0<y,x / y)
 | .rem=>some (0≤x∧0<y,x % y)
 | _=>none
def bitK (op:BinOp) (k:IntKind) (x y:Int):Option (Prop×Int) :=
 match op with
 | .and=>some (0≤x∧0≤y∧jag k x∧jag k y,((x.toNat &&& y.toNat:Nat):Int))
 | .or=>some (0≤x∧0≤y∧jag k x∧jag k y,((x.toNat ||| y.toNat:Nat):Int))
 | .xor=>some (0≤x∧0≤y∧jag k x∧jag k y,((x.toNat ^^^ y.toNat:Nat):Int))
 | .shr=>some (0≤y∧y≤k.bits,x / 2 ^ y.toNat)
 | .shl=>some (0≤y∧y≤k.bits,x*2 ^ y.toNat)
 | _=>none
def cmpI (op:BinOp) (x y:Int):Option Bool :=
 match op with
 | .eql=>some (decide (x=y))
 | .neq=>some (!decide (x=y))
 | .lss=>some (decide (x<y))
 | .leq=>some (decide (x≤y))
 | .gtr=>some (decide (y<x))
 | .geq=>some (decide (y≤x))
 | _=>none
def cmpS (op:BinOp) (x y:ByteArray):Option Bool :=
 match op with
 | .eql=>some (x.toList==y.toList)
 | .neq=>some (!(x.toList==y.toList))
 | _=>none
def jen:Nat→CV→Option (Prop×Bool)
 | 0,.nilptr=>some (True,true)
 | 0,.ptr _ _ _=>some (True,false)
 | 0,.vp _ _ _=>some (True,false)
 | 0,.gptr _ _=>some (True,false)
 | 1,.nilfn=>some (True,true)
 | 1,.fn _ _=>some (True,false)
 | 1,.mfn _=>some (True,false)
 | 2,.niliface=>some (True,true)
 | 2,.iface _ _=>some (True,false)
 | 3,.nils=>some (True,true)
 | 3,.slice _ _ _ len _=>some (0<len,false)
 | 3,.vec _ L=>some (0<L.length,false)
 | _,_=>none
def jdt (t:Bool) (a b:CV):CV :=
 match a,b with
 | .bool x,.bool y=>.bool (bif t then x else y)
 | .int k x,.int k' y=>if k=k' then .int k (bif t then x else y) else bif t then .int k x else .int k' y
 | a,b=>bif t then a else b
def jgM (fr:Fr):List CV→List (Nat×Nat×Opd)→Option (List CV)
 | z,[]=>some z
 | z,(off,size,x)::r=>if (x.ev fr).known&&(x.ev fr).cells.length==size&&decide (off+size≤z.length) then jgM fr (jbE z off (x.ev fr).cells) r else none
def jc9 (t:ETy) (fr:Fr):List Opd→Option (List t.T)
 | []=>some []
 | x::r=>if (x.ev fr).known then (match t.dec (x.ev fr).cells,jc9 t fr r with
  | some y,some l=>some (y::l)
  | _,_=>none) else none
def jh1 (l:List CV) (off n:Nat) (agg:Bool):Option CV:=jfh agg n (l.drop off)
def jim (x:CV):Option (Prop×Nat) :=
 match x with
 | .int _ n=>some (0≤n,n.toNat)
 | _=>none
def bdK (len:Nat) (lo hi mx:Option CV):Option (Prop×Nat×Nat×Option Nat) :=
 match lo.elim (some (True,0)) jim,hi.elim (some (True,len)) jim with
 | some (G1,l),some (G2,u)=>(match mx with
  | none=>some (G1∧G2,l,u,none)
  | some m=>match hi,jim m with
   | some _,some (G3,m)=>some (G1∧G2∧G3,l,u,some m)
   | _,_=>none)
 | _,_=>none
def slK (esz:Nat) (x:CV) (lo hi mx:Option CV):Option (Prop×CV) :=
 match x with
 | .str s=>match bdK s.size lo hi mx with
  | some (G,l,u,none)=>some (G∧l≤u∧u≤s.size,.str (s.extract l u))
  | _=>none
 | .slice b i esz' len cap=>if esz'=esz then (match bdK len lo hi mx with
   | some (G,l,u,mo)=>some (G∧l≤u∧u≤mo.getD cap∧mo.getD cap≤cap,.slice b (i+l) esz (u-l) (mo.getD cap-l))
   | none=>none) else none
 | .vec t L=>if t.esz=esz then (match bdK L.length lo hi mx with
   | some (G,l,u,mo)=>some (G∧l≤u∧u≤mo.getD L.length∧mo.getD L.length≤L.length,.vec t ((L.drop l).take (u-l)))
   | none=>none) else none
 | .zs | .nils=>match bdK 0 lo hi mx with
   | some (G,l,u,mo)=>some (G∧l=0∧u=0∧mo.getD 0=0,.zs)
   | none=>none
 | _=>none
def jef (st:Bool):CV→Bool
 | .str _=>st
 | .slice _ _ _ _ _ | .vec _ _ | .zs | .nils=>!st
 | _=>false
def jeq:CV→Bool
 | .slice _ _ _ _ _ | .vec _ _ | .zs | .nils=>true
 | _=>false
def ixSK (esz:Nat) (x i:CV):Option (Prop×CV) :=
 match x,i with
 | .slice b j esz' len _,.int _ n=>if esz'=esz then some (0≤n∧n<len,.ptr b (j+n.toNat) 0) else none
 | .vec t L,.int _ n=>if t.esz=esz then some (0≤n∧n<L.length,.vp t (L.getD n.toNat t.dflt) 0) else none
 | _,_=>none
def jeg (x:CV) (d:Nat):Option CV :=
 match x with
 | .ptr b i o=>some (.ptr b i (o+d))
 | .vp t y o=>some (.vp t y (o+d))
 | .gptr g o=>some (.gptr g (o+d))
 | _=>none
def lenK:CV→Option Int
 | .str s=>some s.size
 | .slice _ _ _ len _=>some len
 | .vec _ L=>some L.length
 | .zs | .nils=>some 0
 | _=>none
def jbn:List IntKind→List CV→List CV→Option Bool
 | [],[],[]=>some true
 | q::ks,.int k a::l,.int k' b::m=>if k=q∧k'=q then (jbn ks l m).map fun r=>decide (a=b)&&r else none
 | _,_,_=>none
def jfi (h:KH):CV→KH
 | .slice b _ _ _ _=>KH.put h b .dead
 | _=>h
def bndV (F:FuncId):CV→Option CV
 | .agg []=>some (.mfn F)
 | _=>none
def jaf (E:Nat→Option (List CV)) (l:LOp) (fr:Fr) (h:KH):Option (Prop×CV×KH) :=
 match l with
 | .mov x=>some (True,x.ev fr,h)
 | .pick c a b=>match c.ev fr with
  | .bool t=>some (True,jdt t (a.ev fr) (b.ev fr),h)
  | _=>none
 | .box x=>if (x.ev fr).known then some (True,.ptr h.length 0 0,h++[.box (x.ev fr).cells]) else none
 | .zero cs=>some (True,.ptr h.length 0 0,h++[.box cs])
 | .build z ps=>(jgM fr z ps).map fun cs=>(True,.agg cs,h)
 | .bslice t ps=>(jc9 t fr ps).map fun L=>(True,.slice h.length 0 t.esz L.length L.length,h++[.seq t L])
 | .load agg n a=>match jem E h (a.ev fr)with
  | some (G,r)=>(jfh agg n r).map fun c=>(G,c,h)
  | none=>none
 | .store n a v=>match a.ev fr with
  | .ptr b i o=>if (v.ev fr).known&&(v.ev fr).cells.length==n then (match jbk (h.get b) i o (v.ev fr).cells with
   | some (G,kb)=>some (G,.tup [],KH.put h b kb)
   | none=>none) else none
  | _=>none
 | .nilck x=>match x.ev fr with
  | .ptr b i o=>some (True,.ptr b i o,h)
  | .vp t y o=>some (True,.vp t y o,h)
  | .gptr g o=>some (True,.gptr g o,h)
  | .fn F cs=>some (True,.fn F cs,h)
  | _=>none
 | .ari op wr x y=>match x.ev fr,y.ev fr with
  | .int k a,.int k' b =>
   (match ariK op a b with
   | some (G,r)=>if k=k' then some (G∧(wr=true∨jag k r),.int k (if wr then k.wrap r else r),h) else none
   | none=>match bitK op k a b with
    | some (G,r)=>if k=k'∨op=.shl∨op=.shr then some (G∧(wr=true∨jag k r),.int k (if wr then k.wrap r else r),h) else none
    | none=>none)
  | _,_=>none
 | .cmp op x y=>match x.ev fr,y.ev fr with
  | .int k a,.int k' b=>if k=k' then (cmpI op a b).map fun r=>(True,.bool r,h) else none
  | .str a,.str b=>(cmpS op a b).map fun r=>(True,.bool r,h)
  | _,_=>none
 | .cmpB neg x y=>match x.ev fr,y.ev fr with
  | .bool a,.bool b=>some (True,.bool (if neg then !(a==b) else a==b),h)
  | _,_=>none
 | .cmpN kind neg x=>(jen kind (x.ev fr)).map fun (G,b)=>(G,.bool (if neg then !b else b),h)
 | .eqA ks neg x y=>match x.ev fr,y.ev fr with
  | .agg l,.agg m=>(jbn ks l m).map fun r=>(True,.bool (if neg then !r else r),h)
  | _,_=>none
 | .un op x=>match op,x.ev fr with
  | .not,.bool b=>some (True,.bool (!b),h)
  | .neg,.int k n=>some (jag k (-n),.int k (-n),h)
  | _,_=>none
 | .conv k wr x=>match x.ev fr with
  | .int _ n=>some (wr=true∨jag k n,.int k (if wr then k.wrap n else n),h)
  | _=>none
 | .s2b x=>match x.ev fr with
  | .str s=>some (s.size≤1073741824,.slice h.length 0 1 s.size s.size,h++[.seq (.int .u8) (jab s)])
  | _=>none
 | .b2s x=>match jbb h (.int .u8) (x.ev fr)with
  | some (G,L)=>some (G,.str (jaJ L),h)
  | none=>none
 | .frz x=>match x.ev fr with
  | .slice b i esz len cap=>(match h.get b with
   | .seq (.int .u8) _=>if 0<len then some (True,.slice b i esz len cap,h) else none
   | _=>none)
  | _=>none
 | .mkif t x=>match x.ev fr with
  | .undef=>none
  | c=>some (True,.iface t c,h)
 | .mkfn F cs=>some (True,.fn F (cs.map (Opd.ev fr)),h)
 | .mkm F x=>(bndV F (x.ev fr)).map fun c=>(True,c,h)
 | .mksl t bytes l c=>match l.ev fr,c.ev fr with
  | .int _ n,.int _ m=>some (0≤n∧n≤m∧m≤1073741824,.slice h.length 0 t.esz n.toNat m.toNat,h++[.seq t (List.replicate n.toNat t.dflt)])
  | _,_=>none
 | .sl st esz x lo hi mx=>if jef st (x.ev fr)=true then (slK esz (x.ev fr) (lo.map (Opd.ev fr)) (hi.map (Opd.ev fr)) (mx.map (Opd.ev fr))).map fun (G,c)=>(G,c,h) else none
 | .sl0 x=>if jeq (x.ev fr) then some (True,.zs,h) else none
 | .faddr x off=>(jeg (x.ev fr) off).map fun c=>(True,c,h)
 | .field x off n agg=>match x.ev fr with
  | .agg l=>(jh1 l off n agg).map fun c=>(True,c,h)
  | _=>none
 | .ixS esz x i=>(ixSK esz (x.ev fr) (i.ev fr)).map fun (G,c)=>(G,c,h)
 | .ixA len esz x i=>match i.ev fr with
  | .int _ n=>(jeg (x.ev fr) (n.toNat*esz)).map fun c=>(0≤n∧n<len,c,h)
  | _=>none
 | .ixV x i=>match x.ev fr,i.ev fr with
  | .str s,.int _ n=>some (0≤n∧n<s.size,.int .u8 ((jab s).getD n.toNat 0),h)
  | _,_=>none
 | .ixC len esz agg x i=>match x.ev fr,i.ev fr with
  | .agg l,.int _ n=>(jh1 l (n.toNat*esz) esz agg).map fun c=>(0≤n∧n<len,c,h)
  | _,_=>none
 | .i2s x=>match x.ev fr with
  | .int _ n=>some (True,.str (Utf8.encode n),h)
  | _=>none
 | .cat x y=>match x.ev fr,y.ev fr with
  | .str a,.str b=>some (a.size+b.size≤9223372036854775807,.str (a++b),h)
  | _,_=>none
 | .ext x i=>match x.ev fr with
  | .tup l=>(l[i]?).map fun c=>(True,c,h)
  | _=>none
 | .app t x y=>match x.ev fr with
  | .vec _ _=>none
  | s=>match jbb h t s,jep h t (y.ev fr)with
   | some (G1,L),some (G2,M)=>some (G1∧G2∧L.length+M.length≤1073741824,.slice h.length 0 t.esz (L.length+M.length) (L.length+M.length),jfi h s++[.seq t (L++M)])
   | _,_=>none
 | .cpy t x y=>match x.ev fr with
  | .slice b i esz len _=>match h.get b,jep h t (y.ev fr)with
   | .seq t' M,some (G,L)=>match ETy.cast? t t' L with
    | some L'=>some (G∧i+len≤M.length,.int .i64 (min L'.length len:Nat),KH.put h b (.seq t' (M.take i++L'.take (min L'.length len)++M.drop (i+min L'.length len))))
    | none=>none
   | _,_=>none
  | .zs | .nils=>match jep h t (y.ev fr)with
   | some (G,L)=>some (G,.int .i64 0,h)
   | none=>none
  | _=>none
 | .len st x=>if jef st (x.ev fr)=true then (lenK (x.ev fr)).map fun n=>(True,.int .i64 n,h) else none
 | .mm mx x y=>match x.ev fr,y.ev fr with
  | .int k a,.int k' b=>if k=k' then some (True,.int k (if mx then max a b else min a b),h) else none
  | _,_=>none
 | .rng x=>match x.ev fr with
  | .str s=>some (True,.ptr h.length 0 0,h++[.iter s 0])
  | _=>none
 | .nxt x=>match x.ev fr with
  | .ptr b 0 0=>match h.get b with
   | .iter s p=>some (True,if p<s.size then .tup [.bool true,.int .i64 p,.int .i32 (Utf8.decode s p).1] else .tup [.bool false],
     if p<s.size then KH.put h b (.iter s (p+(Utf8.decode s p).2)) else h)
   | _=>none
  | _=>none
 | .tas t ok zero x=>match x.ev fr with
  | .iface t' c=>if t'=t then some (True,if ok then .tup [c,.bool true] else c,h) else if ok then some (True,.tup [zero,.bool false],h) else none
  | .niliface=>if ok then some (True,.tup [zero,.bool false],h) else none
  | _=>none
 | .call _ _ | .callv _ _ | .panic _=>none
end
section
open Go.RowKit
def jh4:Value→CV→Bool
 | .bool a,.bool b=>a==b
 | .int k a,.int k' b=>k==k'&&a==b
 | .string s,.str t=>s.data.toList==t.data.toList
 | .pointer none,.nilptr | .slice none 0 0,.nils | .nilFunc,.nilfn | .nilIface,.niliface=>true
 | .func (.func F) first caps,.fn F' []=>F==F'&&first.size==0&&caps.size==0
 | .slice none 0 0,.vec _ []=>true
 | _,.undef=>true
 | _,_=>false
def jcA:List Value→List CV→Bool
 | [],[]=>true
 | v::vs,c::cs=>jh4 v c&&jcA vs cs
 | _,_=>false
def jin:Value→CV→Bool
 | .agg vs,.agg cs=>jcA vs.toList cs
 | v,c=>jh4 v c
theorem jhq (z:ZMap) (f:LMap){v:Value}{c:CV}(h:jh4 v c=true):VRel z f c v:=by
 unfold jh4 at h
 split at h
 ·simp at h;subst h;exact .bool _
 ·simp at h;obtain⟨rfl,rfl⟩:=h;exact .int _ _
 ·rename_i s t
  have e:s=t:=by
   have:s.data.toList=t.data.toList:=by simpa using h
   cases s;cases t
   simp only[ByteArray.mk.injEq]
   exact Array.ext' this
  subst e
  exact .str _
 ·exact .nilptr
 ·exact .nils
 ·exact .nilfn
 ·exact .niliface
 ·rename_i F first caps F'
  simp only[Bool.and_eq_true,beq_iff_eq]at h
  obtain⟨⟨rfl,h1⟩,h2⟩:=h
  have e1:first=#[]:=Array.eq_empty_of_size_eq_zero h1
  have e2:caps=#[]:=Array.eq_empty_of_size_eq_zero h2
  subst e1 e2
  exact .fn _ _ _ rfl (fun i c v hc hv=>by simp at hc)
 ·exact .vec0 _ _ _
 ·exact .undef _
 ·cases h
theorem jce (z:ZMap) (f:LMap):∀{vs:List Value}{cs:List CV},jcA vs cs=true→vs.length=cs.length∧∀(i:Nat) (c:CV) (v:Value),cs[i]?=some c→vs[i]?=some v→VRel z f c v
 | [],[],_=>⟨rfl,fun i c v hc hv=>by simp at hc⟩
 | v::vs,c::cs,h=>by
  simp only[jcA,Bool.and_eq_true]at h
  obtain⟨h1,h2⟩:=h
  obtain⟨e1,e2⟩:=jce z f h2
  grind [jhq]
 | [],_::_,h=>by simp[jcA]at h
 | _::_,[],h=>by simp[jcA]at h
theorem jio (z:ZMap) (f:LMap){v:Value}{c:CV}(h:jin v c=true):VRel z f c v:=by
 unfold jin at h
 split at h
 ·obtain⟨e1,e2⟩:=jce z f h
  exact .agg _ _ (by simpa using e1) (fun i c v hc hv=>e2 i c v hc (by grind))
 ·exact jhq z f h
def eqO:Operand→Opd→Bool
 | .tmp n,.t m=>n==m
 | .const v,.c c=>jin v c
 | .func F,.c (.fn F' [])=>F==F'
 | .global g,.c (.gptr g' 0)=>g==g'
 | _,_=>false
def eqOs:List Operand→List Opd→Bool
 | [],[]=>true
 | x::xs,y::ys=>eqO x y&&eqOs xs ys
 | _,_=>false
def eqOO:Option Operand→Option Opd→Bool
 | none,none=>true
 | some x,some y=>eqO x y
 | _,_=>false
def FrOk (z:ZMap) (f:LMap) (fr:Fr) (a:Act):Prop:=∀n,VRel z f (fr.get n) (a.tmps.getD n undef)
theorem jap {z:ZMap}{f:LMap}{fr:Fr}{a:Act}(hf:FrOk z f fr a){x:Operand}{y:Opd}(h:eqO x y=true):VRel z f (y.ev fr) (a.eval x):=by
 unfold eqO at h
 split at h
 ·simp at h
  subst h
  exact hf _
 ·exact jio z f h
 ·simp at h
  subst h
  exact .fn _ _ _ rfl (fun i c v hc hv=>by simp at hc)
 ·simp at h
  subst h
  exact .gptr _ _
 ·cases h
theorem jkV {z:ZMap}{f:LMap}{fr:Fr}{a:Act}(hf:FrOk z f fr a):∀{xs:List Operand}{ys:List Opd},eqOs xs ys=true→xs.length=ys.length∧∀(i:Nat) (c:CV) (v:Value),(ys.map (Opd.ev fr))[i]?=some c→(xs.map a.eval)[i]?=some v→VRel z f c v
 | [],[],_=>⟨rfl,fun i c v hc hv=>by simp at hc⟩
 | x::xs,y::ys,h=>by
  simp only[eqOs,Bool.and_eq_true]at h
  obtain⟨h1,h2⟩:=h
  obtain⟨e1,e2⟩:=jkV hf h2
  grind [jap]
 | [],_::_,h=>by simp[eqOs]at h
 | _::_,[],h=>by simp[eqOs]at h
def szOf (P:Program) (t:TypeId):Option Nat:=(P.info? t).map (·.size)
def jer (P:Program) (t:TypeId):Option Bool:=(P.underlying t).map aggD
def jip (P:Program) (t:TypeId) (cs:List CV):Bool :=
 match P.info? t with
 | some i=>(match i.zero with
  | some v=>v.cells.size==i.size&&jcA v.cells.toList cs
  | none=>false)
 | none=>false
def joE (P:Program) (e:TypeId) (t:ETy):Bool :=
 match P.info? e with
 | some i=>i.size==t.esz&&decide (i.bytes≤4096)&&jip P e (t.enc t.dflt)&&(P.underlying e).isSome
 | none=>false
def jcO (P:Program) (s:TypeId) (t:ETy):Bool :=
 match P.underlying s with
 | some (.slice e)=>joE P e t
 | _=>false
def jgN (P:Program) (s:TypeId) (k off:Nat):Option TypeId :=
 match P.underlying s with
 | some (.struct fs)=>(match fs[k]? with
  | some fd=>if fd.offset=off then some fd.type else none
  | none=>none)
 | _=>none
def jcB (P:Program) (t:TypeId):List (Nat×Operand)→List (Nat×Nat×Opd)→Bool
 | [],[]=>true
 | (i,x)::xs,(off,size,y)::ys =>
  eqO x y&&(match P.underlying t with
   | some (.struct fs)=>(match fs[i]? with
    | some fd=>fd.offset==off&&szOf P fd.type==some size
    | none=>false)
   | some (.array _ e)=>szOf P e==some size&&i*size==off
   | _=>false)&&jcB P t xs ys
 | _,_=>false
def jiq (P:Program) (t:TypeId):Bool :=
 match P.underlying t with
 | some (.struct fs)=>fs.toList.all fun fd=>(szOf P fd.type).isSome
 | some (.array _ e)=>(szOf P e).isSome
 | _=>false
def jda:Nat→List (Nat×Operand)→List Opd→Bool
 | _,[],[]=>true
 | k,(i,x)::xs,y::ys=>i==k&&eqO x y&&jda (k+1) xs ys
 | _,_,_=>false
def intT (P:Program) (t:TypeId):Option IntKind:=match P.underlying t with|some (.int k)=>some k|_=>none
def strT (P:Program) (t:TypeId):Bool:=match P.underlying t with|some .string=>true|_=>false
def jf2 (P:Program) (t:TypeId):Bool:=match P.underlying t with|some (.slice e)=>intT P e==some .u8|_=>false
def jgO (P:Program) (t:TypeId) (v:Value) (kind:Nat):Bool :=
 match P.underlying t,v with
 | some (.pointer _),.pointer none=>kind==0
 | some (.func _ _ _),.nilFunc=>kind==1
 | some (.interface _),.nilIface=>kind==2
 | some (.slice _),.slice none _ _=>kind==3
 | _,_=>false
def jlV (P:Program) (eqs:List (TypeId×List IntKind)) (op:Op) (l:LOp):Bool :=
 match l,op with
 | .mov y,.move x=>eqO x y
 | .mov y,.assign x=>eqO x y
 | .pick c a b,.pick c' a' b'=>eqO c' c&&eqO a' a&&eqO b' b
 | .box y,.box _ x=>eqO x y
 | .zero cs,.alloc t=>jip P t cs
 | .build z ps,.build t parts=>jcB P t parts.toList ps&&jip P t z&&jiq P t
 | .bslice t ps,.buildSlice s n parts=>jcO P s t&&jda 0 parts.toList ps&&ps.length==n&&decide (n*t.esz≤4096)
 | .load agg n y,.load t x=>jer P t==some agg&&szOf P t==some n&&eqO x y
 | .store n y v,.store t x u=>szOf P t==some n&&eqO x y&&eqO u v
 | .nilck y,.nilCheck x=>eqO x y
 | .ari op wr x y,.binOp op' _ u v _=>op==op'&&eqO u x&&eqO v y&&(!wr || (op != .rem&&op != .shr))
 | .cmp op x y,.binOp op' t u v _=>op==op'&&eqO u x&&eqO v y
 | .cmpB neg x y,.binOp op t u v _=>(if neg then op == .neq else op == .eql)&&eqO u x&&eqO v y&&(match P.underlying t with
   | some .bool=>true
   | _=>false)
 | .cmpN kind neg x,.binOp op t u (.const v) _=>(if neg then op == .neq else op == .eql)&&eqO u x&&jgO P t v kind
 | .eqA ks neg x y,.binOp op t u v _=>eqs.contains (t,ks)&&eqO u x&&eqO v y&&(if neg then op == .neq else op == .eql)
 | .un op y,.unOp op' _ x=>op==op'&&eqO x y
 | .conv k _ y,.convert s t x=>(intT P s).isSome&&intT P t==some k&&eqO x y
 | .s2b y,.convert s t x=>strT P s&&jf2 P t&&eqO x y
 | .b2s y,.convert s t x=>jf2 P s&&strT P t&&eqO x y
 | .frz y,.convert s t x=>s==t&&jf2 P s&&eqO x y
 | .mkif t y,.makeInterface t' x=>t==t'&&eqO x y&&(match P.underlying t with|some (.interface _)=>false|some _=>true|none=>false)
 | .mkfn F cs,.makeFunc (.func F') first caps=>F==F'&&first.size==0&&eqOs caps.toList cs
 | .mkm F y,.makeFunc (.func F') first caps=>F==F'&&caps.size==0&&(match first.toList with
   | [x]=>eqO x y
   | _=>false)
 | .mksl t bytes l c,.makeSlice s l' c'=>jcO P s t&&eqO l' l&&eqO c' c
 | .sl st esz y lo hi mx,.slice s x lo' hi' mx'=>strT P s==st&&(match P.underlying s with
   | some (.slice e)=>szOf P e==some esz
   | some .string=>true
   | _=>false)&&eqO x y&&eqOO lo' lo&&eqOO hi' hi&&eqOO mx' mx
 | .sl0 y,.slice s x lo (some (.const (.int _ 0))) (some (.const (.int _ 0)))=>(match P.underlying s with
   | some (.slice e)=>(szOf P e).isSome
   | _=>false)&&eqO x y&&(match lo with
   | none|some (.const (.int _ 0))=>true
   | _=>false)
 | .faddr y off,.fieldAddr s x k=>(match jgN P s k off with
   | some t=>(match szOf P t with
    | some (n+1)=>true
    | _=>false)
   | none=>false)&&eqO x y
 | .field y off n agg,.field s x k=>(match jgN P s k off with
   | some t=>szOf P t==some n&&jer P t==some agg
   | none=>false)&&eqO x y
 | .ixS esz y j,.indexAddr s x i=>(match P.underlying s with
   | some (.slice e)=>szOf P e==some esz
   | _=>false)&&eqO x y&&eqO i j
 | .ixA len esz y j,.indexAddr s x i=>(match P.underlying s with
   | some (.array n e)=>szOf P e==some esz&&n==len
   | _=>false)&&eqO x y&&eqO i j
 | .ixV y j,.index s x i=>strT P s&&eqO x y&&eqO i j
 | .ext y i,.extract x i'=>i==i'&&eqO x y
 | .app t x y,.call { callee:=.builtin .append,args,argTypes }=>(match args.toList,argTypes.toList with
   | [u,v],[s,s']=>jcO P s t&&(match P.underlying s' with
     | some (.int _)=>false
     | some _=>true
     | none=>false)&&eqO u x&&eqO v y
   | _,_=>false)
 | .cpy t x y,.call { callee:=.builtin .copy,args,argTypes }=>(match args.toList,argTypes.toList with
   | [u,v],s::_=>jcO P s t&&eqO u x&&eqO v y
   | _,_=>false)
 | .len st y,.call { callee:=.builtin .len,args,argTypes }=>(match args.toList,argTypes.toList with
   | [x],[t]=>strT P t==st&&eqO x y&&(match P.underlying t with
     | some .string|some (.slice _)=>true
     | _=>false)
   | _,_=>false)
 | .mm mx x y,.call { callee:=.builtin b,args,argTypes:=_ }=>(match args.toList with
   | [u,v]=>eqO u x&&eqO v y&&(if mx then b == .max else b == .min)
   | _=>false)
 | .rng y,.range t x=>strT P t&&eqO x y
 | .nxt y,.next x s=>s&&eqO x y
 | .tas t ok zero y,.typeAssert x xt t' ok'=>t==t'&&ok==ok'&&eqO x y&&(match P.underlying t with
   | some (.interface _)=>false
   | some _=>true
   | none=>false)&&(match P.info? t with
   | some i=>(match i.zero with
    | some v=>jin v zero
    | none=>false)
   | none=>false)
 | .ixC len esz agg y j,.index s x i=>(match P.underlying s with
   | some (.array n e)=>szOf P e==some esz&&n==len&&jer P e==some agg
   | _=>false)&&eqO x y&&eqO i j
 | .i2s y,.convert s t x=>(intT P s).isSome&&strT P t&&eqO x y
 | .cat x y,.binOp op t u v _=>op == .add&&eqO u x&&eqO v y
 | _,_=>false
end
end Go.Proofs.YtienkkicehmchaaGreatDoor
