/- Texts of this claim, merged by a program of this claim: RnM, RwT, RnT, EncM. -/
import Derived.Test.YtienkkicehmchaaGreatDoorDl18
import Derived.Test.YtienkkicehmchaaGreatDoorDl21
import Derived.Test.YtienkkicehmchaaGreatDoorDl26
import Derived.Test.YtienkkicehmchaaGreatDoorDl32
namespace Go.Proofs.YtienkkicehmchaaGreatDoor
open Bool renaming and_eq_true→qaa
set_option linter.unusedVariables false
set_option linter.unusedSimpArgs false
section
def pen3 (p:PD):List Nat:=[p.fg.toNat,p.bg.toNat,p.attrs.toNat]
def lay3 (W:List CD):Nat→Nat→List Nat→List Int×Nat
 | 0,_,_=>([],0)
 | f+1,bh,[]=>([],0)
 | f+1,bh,x::l=>(jaq ([x-bh,(runP W (cAt W x).pen x (x::l)).1.length]++pen3 (cAt W x).pen)++(jbu W (runP W (cAt W x).pen x (x::l)).1++(lay3 W f (runP W (cAt W x).pen x (x::l)).2.1 (runP W (cAt W x).pen x (x::l)).2.2).1),(lay3 W f (runP W (cAt W x).pen x (x::l)).2.1 (runP W (cAt W x).pen x (x::l)).2.2).2+1)
theorem jlO (W:List CD) (f bh:Nat):lay3 W f bh []=([],0):=by cases f<;>rfl
def jfV (C W:List CD):List Int×Nat:=lay3 W (rem (jav C W) (jaa W) W.length 0).length 0 (rem (jav C W) (jaa W) W.length 0)
def jkI (C W:List CD):List Int:=if (jfV C W).2=0 then [] else (5:Int)::(varN (jfV C W).2++(jfV C W).1)
def jhe (L1:List CD) (x1 y1:Nat) (hd1:Bool) (m1:Nat) (t1:ByteArray) (L2:List CD) (x2 y2:Nat) (hd2:Bool) (m2:Nat) (t2:ByteArray):List Int :=
 curB x1 y1 hd1 x2 y2 hd2++titB t1 t2++mouB m1 m2++jkI L1 L2
def jya (k r:Nat) (L:List CD) (x y:Nat) (hd:Bool) (mo:Nat) (ti:ByteArray):List Int:=(1::jaq [k,r])++jhe (jah k r) 0 0 false 0 ⟨#[]⟩ L x y hd mo ti
def jby (k r:Int) (L:List CD) (x y:Int) (hd:Bool) (mo:Int) (ti:ByteArray) (l:List ByteArray):List Int :=
 if jaO k r L x y mo ti l then jya k.toNat r.toNat L x.toNat y.toNat hd mo.toNat ti else []
def jcu (k1 r1:Int) (L1:List CD) (x1 y1:Int) (hd1:Bool) (mo1:Int) (ti1:ByteArray) (l1:List ByteArray) (k2 r2:Int) (L2:List CD) (x2 y2:Int) (hd2:Bool) (mo2:Int) (ti2:ByteArray) (l2:List ByteArray):List Int :=
 if jaO k1 r1 L1 x1 y1 mo1 ti1 l1&&jaO k2 r2 L2 x2 y2 mo2 ti2 l2 then (if k1=k2∧r1=r2 then jhe L1 x1.toNat y1.toNat hd1 mo1.toNat ti1 L2 x2.toNat y2.toNat hd2 mo2.toNat ti2 else jby k2 r2 L2 x2 y2 hd2 mo2 ti2 l2) else []
end
section
structure Cell1 (c:CD):Prop where
 may:mayB c=true
 wf:CWf c
 wide:c.wide=0
 link:c.link=0
 fg:c.fg≤256
 bg:c.bg≤256
section
variable {C W:List CD}
end
theorem jqS {fl:Int}(h:fl=0∨fl=4) (hd:Bool) (t1 t2:ByteArray):jc8 fl hd t1 t2≤7∧0≤jc8 fl hd t1 t2∧(jc8 fl hd t1 t2<4↔fl=0)∧decide (jc8 fl hd t1 t2 % 2=1)=hd∧(jc8 fl hd t1 t2 / 2 % 2=1↔jdp t2 t1=false):=by
 unfold jc8
 rcases h with rfl|rfl<;>cases hd<;>cases jdp t2 t1<;>decide
theorem jjC {k r:Int}{L:List CD}{x y mo:Int}{ti:ByteArray}{l:List ByteArray}(h:jaL k r L x y mo ti l=true) (hw:∀c∈L,CWf c) (hm:0≤mo):jai k r L x y mo ti l=true∧l=[]∧mo=0∧∀c∈L,Cell1 c:=by
 unfold jaL at h
 simp only[qaa,decide_eq_true_eq,beq_iff_eq,List.all_eq_true]at h
 obtain⟨⟨⟨h1,h2⟩,h3⟩,h4⟩:=h
 have hl:l=[]:=List.length_eq_zero_iff.1 h2
 obtain⟨K,R,X,Y,M,rfl,rfl,rfl,rfl,rfl,f⟩:=jaj h1 hm
 refine⟨h1,hl,h3,fun c hc=>?_⟩
 have hf:=h4 c hc
 unfold fit1 at hf
 simp only[qaa,decide_eq_true_eq,beq_iff_eq]at hf
 have hk:=f.lk c hc
 subst hl
 have hw1:=(hw c hc).link
 obtain⟨i,hi⟩:=List.getElem?_of_mem hc
 have hb:=(f.tell hw).may i (List.getElem?_eq_some_iff.1 hi).1
 rw[jcV hi]at hb
 exact⟨hb,hw c hc,hf.1.1,by simp at hk;omega,hf.1.2,hf.2⟩
end
section
structure Cell2 (c:CD):Prop where
 may:mayB c=true
 wf:CWf c
 wide:c.wide=0
 link:c.link=0
structure All2 (W:List CD):Prop where
 cell:∀c∈W,Cell2 c
 small:W.length≤2000
section
variable {C W:List CD}
theorem All2.at_ (h:All2 W){i:Nat}(hi:i<W.length):Cell2 (cAt W i):=h.cell _ (List.mem_of_getElem? (jol hi))
theorem All2.one (h:All2 W){i:Nat}(hi:i<W.length):jaa W i=1:=by
 unfold jaa
 rw[if_neg (by rw[(h.at_ hi).wide];decide)]
end
theorem jbh {k r:Int}{L:List CD}{x y mo:Int}{ti:ByteArray}{l:List ByteArray}(h:jaO k r L x y mo ti l=true) (hw:∀c∈L,CWf c) (hm:0≤mo):jai k r L x y mo ti l=true∧l=[]∧All2 L:=by
 unfold jaO at h
 simp only[qaa,decide_eq_true_eq,List.all_eq_true]at h
 obtain⟨⟨h1,h2⟩,h4⟩:=h
 have hl:l=[]:=List.length_eq_zero_iff.1 h2
 obtain⟨K,R,X,Y,M,rfl,rfl,rfl,rfl,rfl,f⟩:=jaj h1 hm
 have ht:=f.tell hw
 refine⟨h1,hl,⟨fun c hc=>?_,ht.small⟩⟩
 have hf:=h4 c hc
 unfold fit2 at hf
 simp only[beq_iff_eq]at hf
 have hk:=f.lk c hc
 subst hl
 have hw1:=(hw c hc).link
 obtain⟨i,hi⟩:=List.getElem?_of_mem hc
 have hb:=ht.may i (List.getElem?_eq_some_iff.1 hi).1
 rw[jcV hi]at hb
 exact⟨hb,hw c hc,hf,by simp at hk;omega⟩
end
section
theorem jvc {k r:Int}{L:List CD}{x y:Int}{hd:Bool}{mo:Int}{ti:ByteArray}{l:List ByteArray}(hs:ScrOk L l) (hmo:0≤mo):(jcn k r L x y hd mo ti l).length≤200000:=by
 cases hr:jai k r L x y mo ti l
 ·rw[jcn,if_neg (by rw[hr];decide)]
  simp
 ·have hr2:=hr
  obtain⟨K,R,X,Y,M,rfl,rfl,rfl,rfl,rfl,f⟩:=jaj hr hmo
  rw[jcn,if_pos hr2]
  have hx:=f.x1
  have hy:=f.y1
  have hm:=f.mo1
  have hk:=f.k1
  have hrr:=f.r1
  have hdl:=jgy (L1:=jah K R) (x1:=0) (y1:=0) (hd1:=false) (m1:=0) (t1:=bs []) (l1:=[]) (L2:=L) (x2:=X) (y2:=Y) (hd2:=hd) (m2:=M) (t2:=ti) (l2:=l) (k:=K) (r:=R) (by simp[jah]) (by omega) hrr f.len hs.wf (by omega) (by omega) (by omega) f.ti1 f.l1 f.s64
  have hvl:=jaI [K,R] (fun u hu=>by simp at hu;omega)
  simp only[List.length_cons,List.length_nil]at hvl
  simp only[Int.toNat_natCast,juT,List.length_append,List.length_cons]
  have:(jfm K R (jah K R) 0 0 false 0 ⟨#[]⟩ [] L X Y hd M ti l).length≤133000:=hdl
  omega
theorem enc_len {k r:Int}{L:List CD}{x y:Int}{hd:Bool}{mo:Int}{ti:ByteArray}{l:List ByteArray}{k' r':Int}{L':List CD}{x' y':Int}{hd':Bool}{mo':Int}{ti':ByteArray}{l':List ByteArray}(hs:ScrOk L l) (hmo:0≤mo) (hs':ScrOk L' l') (hmo':0≤mo'):(encI k r L x y hd mo ti l k' r' L' x' y' hd' mo' ti' l').length≤200000:=by
 cases hr:(jai k r L x y mo ti l&&jai k' r' L' x' y' mo' ti' l')
 ·rw[encI,if_neg (by rw[hr];decide)]
  simp
 ·rw[encI,if_pos hr]
  by_cases h:k=k'∧r=r'
  ·rw[if_pos h]
   rw[qaa]at hr
   obtain⟨K,R,X,Y,M,rfl,rfl,rfl,rfl,rfl,f⟩:=jaj hr.1 hmo
   obtain⟨K2,R2,X2,Y2,M2,e1,e2,rfl,rfl,rfl,f2⟩:=jaj hr.2 hmo'
   obtain rfl:K=K2:=by omega
   obtain rfl:R=R2:=by omega
   simp only[Int.toNat_natCast]
   have hx:=f2.x1
   have hy:=f2.y1
   have hm:=f2.mo1
   have hk:=f2.k1
   have hrr:=f2.r1
   have:=jgy (L1:=L) (x1:=X) (y1:=Y) (hd1:=hd) (m1:=M) (t1:=ti) (l1:=l) (L2:=L') (x2:=X2) (y2:=Y2) (hd2:=hd') (m2:=M2) (t2:=ti') (l2:=l') (k:=K) (r:=R) f.len (by omega) f2.r1 f2.len hs'.wf (by omega) (by omega) (by omega) f2.ti1 f2.l1 f2.s64
   omega
  ·rw[if_neg h]
   exact jvc hs' hmo'
theorem jaN {a b:List Int}(h1:Bts a) (h2:Bts b):Bts (a++b):=fun x hx=>(List.mem_append.1 hx).elim (h1 x) (h2 x)
theorem jaA {x:Int}{a:List Int}(h1:0≤x∧x<256) (h2:Bts a):Bts (x::a):=fun y hy=>(List.mem_cons.1 hy).elim (fun e=>e▸h1) (h2 y)
theorem jaH:Bts []:=fun x hx=>by cases hx
theorem jed (n:Nat):Bts (varN n):=by
 induction n using Nat.strongRecOn with
 | ind n ih =>
  by_cases h:n<128
  ·rw[jdG h]
   exact jaA (by omega) jaH
  ·rw[jg4 h]
   exact jaA (by omega) (ih _ (by omega))
theorem jfe {α:Type}{l:List α}{f:α→List Int}(h:∀x∈l,Bts (f x)):Bts (l.flatMap f):=fun y hy=>by
 obtain⟨x,hx,h2⟩:=List.mem_flatMap.1 hy
 exact h x hx y h2
theorem jbi (l:List Nat):Bts (jaq l):=jfe fun x _=>jed x
theorem jlP (t:ByteArray):Bts (jeE (jab t)):=jaN (jed _) fun x hx=>by
 have h:=jcW t x hx
 obtain⟨h1,h2⟩:=h
 exact⟨h1,h2⟩
theorem jps (W:List CD):∀(f bh:Nat) (l:List Nat),Bts (layR W f bh l).1
 | 0,_,_=>jaH
 | f+1,bh,[]=>jaH
 | f+1,bh,x::l=>by
  rw[layR]
  exact jaN (jbi _) (jaN (jfe fun y _=>jed _) (jps W f _ _))
theorem jpt (k r:Nat) (L1:List CD) (x1 y1:Nat) (hd1:Bool) (m1:Nat) (t1:ByteArray) (l1:List ByteArray) (L2:List CD) (x2 y2:Nat) (hd2:Bool) (m2:Nat) (t2:ByteArray) (l2:List ByteArray) :
  Bts (jfm k r L1 x1 y1 hd1 m1 t1 l1 L2 x2 y2 hd2 m2 t2 l2):=by
 unfold jfm jqw celB curB titB mouB linB scrB jgs jbd texB
 refine jaN (jaN (jaN (jaN ?_ ?_) ?_) ?_) (jaN (jaN ?_ ?_) ?_)
 ·split
  ·exact jaA (by omega) (jbi _)
  ·exact jaH
 ·split
  ·exact jaH
  ·exact jaA (by omega) (jlP _)
 ·split
  ·exact jaH
  ·exact jaA (by omega) (jbi _)
 ·split
  ·exact jaH
  ·exact jaA (by omega) (jaN (jbi _) (jfe fun t _=>jlP t))
 ·split
  ·exact jaH
  ·exact jaA (by omega) (jbi _)
 ·split
  ·exact jaH
  ·exact jaA (by omega) (jaN (jed _) (jbi _))
 ·dsimp only
  split
  ·exact jaH
  ·exact jaA (by omega) (jaN (jed _) (jps _ _ _ _))
theorem jpu (k r:Int) (L:List CD) (x y:Int) (hd:Bool) (mo:Int) (ti:ByteArray) (l:List ByteArray):Bts (jcn k r L x y hd mo ti l):=by
 unfold jcn juT
 split
 ·exact jaN (jaA (by omega) (jbi _)) (jpt _ _ _ _ _ _ _ _ _ _ _ _ _ _ _ _)
 ·exact jaH
theorem jxm (k r:Int) (L:List CD) (x y:Int) (hd:Bool) (mo:Int) (ti:ByteArray) (l:List ByteArray) (k' r':Int) (L':List CD) (x' y':Int) (hd':Bool) (mo':Int) (ti':ByteArray) (l':List ByteArray):Bts (encI k r L x y hd mo ti l k' r' L' x' y' hd' mo' ti' l'):=by
 unfold encI
 split
 ·split
  ·exact jpt _ _ _ _ _ _ _ _ _ _ _ _ _ _ _ _
  ·exact jpu _ _ _ _ _ _ _ _ _
 ·exact jaH
end
end Go.Proofs.YtienkkicehmchaaGreatDoor
