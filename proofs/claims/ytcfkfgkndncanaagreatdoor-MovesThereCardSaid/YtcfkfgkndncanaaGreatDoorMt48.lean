/- Texts of this claim, merged by a program of this claim: EncM, ThereM3. -/
import Derived.Test.YtcfkfgkndncanaaGreatDoorMt23
import Derived.Test.YtcfkfgkndncanaaGreatDoorMt29
import Derived.Test.YtcfkfgkndncanaaGreatDoorMt41
import Derived.Test.YtcfkfgkndncanaaGreatDoorMt47
import Derived.Test.YtcfkfgkndncanaaGreatDoorMt7
namespace Go.Proofs.YtcfkfgkndncanaaGreatDoor
set_option linter.unusedVariables false
set_option linter.unusedSimpArgs false
section
theorem jpa {k r:Int} {L:List CD} {x y:Int} {hd:Bool} {mo:Int} {ti:ByteArray} {l:List ByteArray} (hs:ScrOk L l) (hmo:0≤mo):(jfZ k r L x y hd mo ti l).length≤200000:=by
 cases hr:ja0 k r L x y mo ti l
 ·rw [jfZ,if_neg (by rw [hr]; decide)]
  simp
 ·have hr2:=hr
  obtain ⟨K,R,X,Y,M,rfl,rfl,rfl,rfl,rfl,f⟩:=jct hr hmo
  rw [jfZ,if_pos hr2]
  have hx:=f.x1
  have hy:=f.y1
  have hm:=f.mo1
  have hk:=f.k1
  have hrr:=f.r1
  have hdl:=jjO (L1:=jbE K R) (x1:=0) (y1:=0) (hd1:=false) (m1:=0) (t1:=bs []) (l1:=[]) (L2:=L) (x2:=X) (y2:=Y) (hd2:=hd) (m2:=M) (t2:=ti) (l2:=l) (k:=K) (r:=R) (by simp [jbE]) (by omega) hrr f.len hs.wf (by omega) (by omega) (by omega) f.ti1 f.l1 f.s64
  have hvl:=jcc [K,R] (fun u hu=>by simp at hu; omega)
  simp only [List.length_cons,List.length_nil] at hvl
  simp only [Int.toNat_natCast,jt4,List.length_append,List.length_cons]
  have:(jgn K R (jbE K R) 0 0 false 0 ⟨#[]⟩ [] L X Y hd M ti l).length≤133000:=hdl
  omega
theorem enc_len {k r:Int} {L:List CD} {x y:Int} {hd:Bool} {mo:Int} {ti:ByteArray} {l:List ByteArray} {k' r':Int} {L':List CD} {x' y':Int} {hd':Bool} {mo':Int} {ti':ByteArray} {l':List ByteArray} (hs:ScrOk L l) (hmo:0≤mo) (hs':ScrOk L' l') (hmo':0≤mo'):(encI k r L x y hd mo ti l k' r' L' x' y' hd' mo' ti' l').length≤200000:=by
 cases hr:(ja0 k r L x y mo ti l && ja0 k' r' L' x' y' mo' ti' l')
 ·rw [encI,if_neg (by rw [hr]; decide)]
  simp
 ·rw [encI,if_pos hr]
  by_cases h:k=k'∧r=r'
  ·rw [if_pos h]
   rw [Bool.and_eq_true] at hr
   obtain ⟨K,R,X,Y,M,rfl,rfl,rfl,rfl,rfl,f⟩:=jct hr.1 hmo
   obtain ⟨K2,R2,X2,Y2,M2,e1,e2,rfl,rfl,rfl,f2⟩:=jct hr.2 hmo'
   obtain rfl:K=K2:=by omega
   obtain rfl:R=R2:=by omega
   simp only [Int.toNat_natCast]
   have hx:=f2.x1
   have hy:=f2.y1
   have hm:=f2.mo1
   have hk:=f2.k1
   have hrr:=f2.r1
   have:=jjO (L1:=L) (x1:=X) (y1:=Y) (hd1:=hd) (m1:=M) (t1:=ti) (l1:=l) (L2:=L') (x2:=X2) (y2:=Y2) (hd2:=hd') (m2:=M2) (t2:=ti') (l2:=l') (k:=K) (r:=R) f.len (by omega) f2.r1 f2.len hs'.wf (by omega) (by omega) (by omega) f2.ti1 f2.l1 f2.s64
   omega
  ·rw [if_neg h]
   exact jpa hs' hmo'
theorem jdh {a b:List Int} (h1:Bts a) (h2:Bts b):Bts (a++b):=fun x hx=>(List.mem_append.1 hx).elim (h1 x) (h2 x)
theorem jdl {x:Int} {a:List Int} (h1:0≤x∧x < 256) (h2:Bts a):Bts (x :: a):=fun y hy=>(List.mem_cons.1 hy).elim (fun e=>e ▸ h1) (h2 y)
theorem jdL:Bts []:=fun x hx=>by cases hx
theorem jhz (n:Nat):Bts (varN n):=by
 induction n using Nat.strongRecOn with
 | ind n ih =>
  by_cases h:n < 128
  ·rw [jd0 h]
   exact jdl (by omega) jdL
  ·rw [jgg h]
   exact jdl (by omega) (ih _ (by omega))
theorem jl1 {α:Type} {l:List α} {f:α→List Int} (h:∀ x∈l,Bts (f x)):Bts (l.flatMap f):=fun y hy=>by
 obtain ⟨x,hx,h2⟩:=List.mem_flatMap.1 hy
 exact h x hx y h2
theorem jei (l:List Nat):Bts (jbu l):=jl1 fun x _=>jhz x
theorem jpb (t:ByteArray):Bts (jh1 (jao t)):=jdh (jhz _) fun x hx=>by
 have h:=jeY t x hx
 obtain ⟨h1,h2⟩:=h
 exact ⟨h1,h2⟩
theorem jpc (W:List CD):∀ (f bh:Nat) (l:List Nat),Bts (layR W f bh l).1
 | 0,_,_=>jdL
 | f+1,bh,[]=>jdL
 | f+1,bh,x :: l=>by
  rw [layR]
  exact jdh (jei _) (jdh (jl1 fun y _=>jhz _) (jpc W f _ _))
theorem jpd (k r:Nat) (L1:List CD) (x1 y1:Nat) (hd1:Bool) (m1:Nat) (t1:ByteArray) (l1:List ByteArray) (L2:List CD) (x2 y2:Nat) (hd2:Bool) (m2:Nat) (t2:ByteArray) (l2:List ByteArray) :
  Bts (jgn k r L1 x1 y1 hd1 m1 t1 l1 L2 x2 y2 hd2 m2 t2 l2):=by
 unfold jgn jrZ celB curB titB mouB linB scrB jjJ jc1 texB
 refine jdh (jdh (jdh (jdh ?_ ?_) ?_) ?_) (jdh (jdh ?_ ?_) ?_)
 ·split
  ·exact jdl (by omega) (jei _)
  ·exact jdL
 ·split
  ·exact jdL
  ·exact jdl (by omega) (jpb _)
 ·split
  ·exact jdL
  ·exact jdl (by omega) (jei _)
 ·split
  ·exact jdL
  ·exact jdl (by omega) (jdh (jei _) (jl1 fun t _=>jpb t))
 ·split
  ·exact jdL
  ·exact jdl (by omega) (jei _)
 ·split
  ·exact jdL
  ·exact jdl (by omega) (jdh (jhz _) (jei _))
 ·dsimp only
  split
  ·exact jdL
  ·exact jdl (by omega) (jdh (jhz _) (jpc _ _ _ _))
theorem jpe (k r:Int) (L:List CD) (x y:Int) (hd:Bool) (mo:Int) (ti:ByteArray) (l:List ByteArray):Bts (jfZ k r L x y hd mo ti l):=by
 unfold jfZ jt4
 split
 ·exact jdh (jdl (by omega) (jei _)) (jpd _ _ _ _ _ _ _ _ _ _ _ _ _ _ _ _)
 ·exact jdL
theorem jwl (k r:Int) (L:List CD) (x y:Int) (hd:Bool) (mo:Int) (ti:ByteArray) (l:List ByteArray) (k' r':Int) (L':List CD) (x' y':Int) (hd':Bool) (mo':Int) (ti':ByteArray) (l':List ByteArray):Bts (encI k r L x y hd mo ti l k' r' L' x' y' hd' mo' ti' l'):=by
 unfold encI
 split
 ·split
  ·exact jpd _ _ _ _ _ _ _ _ _ _ _ _ _ _ _ _
  ·exact jpe _ _ _ _ _ _ _ _ _
 ·exact jdL
end
section
section
variable {k r:Int} {L:List CD} {x y:Int} {hd:Bool} {mo:Int} {ti:ByteArray} {l:List ByteArray} {k' r':Int} {L':List CD} {x' y':Int} {hd':Bool} {mo':Int} {ti':ByteArray} {l':List ByteArray}
theorem jsQ (hA:ja0 k r L x y mo ti l=true) (hB:ja0 k' r' L' x' y' mo' ti' l'=true) (hm':0≤mo') (hw:∀ c∈L',CWf c) :
  ∃ l0 a',apG (jfZ k' r' L' x' y' hd' mo' ti' l') ⟨k,r,L,x,y,hd,mo,ti,l,[],0⟩=(0,⟨k',r',L',x',y',hd',mo',ti',l0,l',a'⟩):=by
 have hB2:=hB
 obtain ⟨K,R,X,Y,M,rfl,rfl,rfl,rfl,rfl,f⟩:=jct hB hm'
 obtain ⟨a',h⟩:=jqg (d:=jfZ K R L' X Y hd' M ti' l') (hd2:=hd') ⟨k,r,L,x,y,hd,mo,ti,l,l,0⟩ rfl f hw (by rw [jfZ,if_pos hB2]; rfl)
 exact ⟨[],a',jsF hA h hB2⟩
theorem jxa (hA:ja0 k r L x y mo ti l=true) (hm:0≤mo) (hB:ja0 k' r' L' x' y' mo' ti' l'=true) (hm':0≤mo') (hw:∀ c∈L',CWf c) :
  ∃ l0 a',apG (encI k r L x y hd mo ti l k' r' L' x' y' hd' mo' ti' l') ⟨k,r,L,x,y,hd,mo,ti,l,[],0⟩=(0,⟨k',r',L',x',y',hd',mo',ti',l0,l',a'⟩):=by
 by_cases h:k=k'∧r=r'
 ·obtain ⟨rfl,rfl⟩:=h
  have hA2:=hA
  have hB2:=hB
  obtain ⟨K,R,X,Y,M,rfl,rfl,rfl,rfl,rfl,f1⟩:=jct hA hm
  obtain ⟨K2,R2,X2,Y2,M2,e1,e2,rfl,rfl,rfl,f2⟩:=jct hB hm'
  obtain rfl:K=K2:=by omega
  obtain rfl:R=R2:=by omega
  obtain ⟨a',h⟩:=jk4 (d:=encI K R L X Y hd M ti l K R L' X2 Y2 hd' M2 ti' l') (a:=0) (f:=9) (last:=0) (x1:=X) (y1:=Y) (hd1:=hd) (m1:=M) (t1:=ti) (hd2:=hd') (by omega) (by omega) f1.len f1.links f1.l1 f2 hw (by rw [encI,if_pos (by rw [hA2,hB2]; rfl),if_pos ⟨rfl,rfl⟩]; rfl)
  exact ⟨l,a',jsF hA2 h hB2⟩
 ·rw [encI,if_pos (by rw [hA,hB]; rfl),if_neg h]
  exact jsQ hA hB hm' hw
end
end
end Go.Proofs.YtcfkfgkndncanaaGreatDoor
