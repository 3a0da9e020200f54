/- Texts of this claim, merged by a program of this claim: EncM, ThereM3, FLawT. -/
import Derived.Test.YtcfkfgkndncanaaGreatDoorMs22
import Derived.Test.YtcfkfgkndncanaaGreatDoorMs28
import Derived.Test.YtcfkfgkndncanaaGreatDoorMs38
import Derived.Test.YtcfkfgkndncanaaGreatDoorMs39
import Derived.Test.YtcfkfgkndncanaaGreatDoorMs41
import Derived.Test.YtcfkfgkndncanaaGreatDoorMs43
import Derived.Test.YtcfkfgkndncanaaGreatDoorMs7
namespace Go.Proofs.YtcfkfgkndncanaaGreatDoor
set_option linter.unusedVariables false
set_option linter.unusedSimpArgs false
section
theorem jza {k r:Int}{L:List CD}{x y:Int}{hd:Bool}{mo:Int}{ti:ByteArray}{l:List ByteArray}(hs:ScrOk L l) (hmo:0≤mo):(jhj k r L x y hd mo ti l).length≤200000:=by
 cases hr:ja6 k r L x y mo ti l
 ·rw[jhj,if_neg (by rw[hr];decide)]
  simp
 ·have hr2:=hr
  obtain⟨K,R,X,Y,M,rfl,rfl,rfl,rfl,rfl,f⟩:=jb4 hr hmo
  rw[jhj,if_pos hr2]
  have hx:=f.x1
  have hy:=f.y1
  have hm:=f.mo1
  have hk:=f.k1
  have hrr:=f.r1
  have hdl:=jkR (L1:=jbI K R) (x1:=0) (y1:=0) (hd1:=false) (m1:=0) (t1:=bs []) (l1:=[]) (L2:=L) (x2:=X) (y2:=Y) (hd2:=hd) (m2:=M) (t2:=ti) (l2:=l) (k:=K) (r:=R) (by simp[jbI]) (by omega) hrr f.len hs.wf (by omega) (by omega) (by omega) f.ti1 f.l1 f.s64
  have hvl:=jcm [K,R] (fun u hu=>by simp at hu;omega)
  simp only[List.length_cons,List.length_nil]at hvl
  simp only[Int.toNat_natCast,jyL,List.length_append,List.length_cons]
  have:(jf7 K R (jbI K R) 0 0 false 0 ⟨#[]⟩ [] L X Y hd M ti l).length≤133000:=hdl
  omega
theorem enc_len {k r:Int}{L:List CD}{x y:Int}{hd:Bool}{mo:Int}{ti:ByteArray}{l:List ByteArray}{k' r':Int}{L':List CD}{x' y':Int}{hd':Bool}{mo':Int}{ti':ByteArray}{l':List ByteArray}(hs:ScrOk L l) (hmo:0≤mo) (hs':ScrOk L' l') (hmo':0≤mo'):(encI k r L x y hd mo ti l k' r' L' x' y' hd' mo' ti' l').length≤200000:=by
 cases hr:(ja6 k r L x y mo ti l&&ja6 k' r' L' x' y' mo' ti' l')
 ·rw[encI,if_neg (by rw[hr];decide)]
  simp
 ·rw[encI,if_pos hr]
  by_cases h:k=k'∧r=r'
  ·rw[if_pos h]
   rw[Bool.and_eq_true]at hr
   obtain⟨K,R,X,Y,M,rfl,rfl,rfl,rfl,rfl,f⟩:=jb4 hr.1 hmo
   obtain⟨K2,R2,X2,Y2,M2,e1,e2,rfl,rfl,rfl,f2⟩:=jb4 hr.2 hmo'
   obtain rfl:K=K2:=by omega
   obtain rfl:R=R2:=by omega
   simp only[Int.toNat_natCast]
   have hx:=f2.x1
   have hy:=f2.y1
   have hm:=f2.mo1
   have hk:=f2.k1
   have hrr:=f2.r1
   have:=jkR (L1:=L) (x1:=X) (y1:=Y) (hd1:=hd) (m1:=M) (t1:=ti) (l1:=l) (L2:=L') (x2:=X2) (y2:=Y2) (hd2:=hd') (m2:=M2) (t2:=ti') (l2:=l') (k:=K) (r:=R) f.len (by omega) f2.r1 f2.len hs'.wf (by omega) (by omega) (by omega) f2.ti1 f2.l1 f2.s64
   omega
  ·rw[if_neg h]
   exact jza hs' hmo'
theorem jdB {a b:List Int}(h1:Bts a) (h2:Bts b):Bts (a++b):=fun x hx=>(List.mem_append.1 hx).elim (h1 x) (h2 x)
theorem jdF {x:Int}{a:List Int}(h1:0≤x∧x<256) (h2:Bts a):Bts (x::a):=fun y hy=>(List.mem_cons.1 hy).elim (fun e=>e▸h1) (h2 y)
theorem jd3:Bts []:=fun x hx=>by cases hx
theorem jh1 (n:Nat):Bts (varN n):=by
 induction n using Nat.strongRecOn with
 | ind n ih =>
  by_cases h:n<128
  ·rw[jek h]
   exact jdF (by omega) jd3
  ·rw[jgE h]
   exact jdF (by omega) (ih _ (by omega))
theorem jn9 {α:Type}{l:List α}{f:α→List Int}(h:∀x∈l,Bts (f x)):Bts (l.flatMap f):=fun y hy=>by
 obtain⟨x,hx,h2⟩:=List.mem_flatMap.1 hy
 exact h x hx y h2
theorem jeE (l:List Nat):Bts (jbc l):=jn9 fun x _=>jh1 x
theorem jsD (t:ByteArray):Bts (jjp (jan t)):=jdB (jh1 _) fun x hx=>by
 have h:=jfq t x hx
 obtain⟨h1,h2⟩:=h
 exact⟨h1,h2⟩
theorem jsE (W:List CD):∀(f bh:Nat) (l:List Nat),Bts (layR W f bh l).1
 | 0,_,_=>jd3
 | f+1,bh,[]=>jd3
 | f+1,bh,x::l=>by
  rw[layR]
  exact jdB (jeE _) (jdB (jn9 fun y _=>jh1 _) (jsE W f _ _))
theorem jsF (k r:Nat) (L1:List CD) (x1 y1:Nat) (hd1:Bool) (m1:Nat) (t1:ByteArray) (l1:List ByteArray) (L2:List CD) (x2 y2:Nat) (hd2:Bool) (m2:Nat) (t2:ByteArray) (l2:List ByteArray) :
  Bts (jf7 k r L1 x1 y1 hd1 m1 t1 l1 L2 x2 y2 hd2 m2 t2 l2):=by
 unfold jf7 jtt celB curB titB mouB linB scrB jjq jcX texB
 refine jdB (jdB (jdB (jdB ?_ ?_) ?_) ?_) (jdB (jdB ?_ ?_) ?_)
 ·split
  ·exact jdF (by omega) (jeE _)
  ·exact jd3
 ·split
  ·exact jd3
  ·exact jdF (by omega) (jsD _)
 ·split
  ·exact jd3
  ·exact jdF (by omega) (jeE _)
 ·split
  ·exact jd3
  ·exact jdF (by omega) (jdB (jeE _) (jn9 fun t _=>jsD t))
 ·split
  ·exact jd3
  ·exact jdF (by omega) (jeE _)
 ·split
  ·exact jd3
  ·exact jdF (by omega) (jdB (jh1 _) (jeE _))
 ·dsimp only
  split
  ·exact jd3
  ·exact jdF (by omega) (jdB (jh1 _) (jsE _ _ _ _))
theorem jzb (k r:Int) (L:List CD) (x y:Int) (hd:Bool) (mo:Int) (ti:ByteArray) (l:List ByteArray):Bts (jhj k r L x y hd mo ti l):=by
 unfold jhj jyL
 split
 ·exact jdB (jdF (by omega) (jeE _)) (jsF _ _ _ _ _ _ _ _ _ _ _ _ _ _ _ _)
 ·exact jd3
theorem jBp (k r:Int) (L:List CD) (x y:Int) (hd:Bool) (mo:Int) (ti:ByteArray) (l:List ByteArray) (k' r':Int) (L':List CD) (x' y':Int) (hd':Bool) (mo':Int) (ti':ByteArray) (l':List ByteArray):Bts (encI k r L x y hd mo ti l k' r' L' x' y' hd' mo' ti' l'):=by
 unfold encI
 split
 ·split
  ·exact jsF _ _ _ _ _ _ _ _ _ _ _ _ _ _ _ _
  ·exact jzb _ _ _ _ _ _ _ _ _
 ·exact jd3
end
section
section
variable {k r:Int}{L:List CD}{x y:Int}{hd:Bool}{mo:Int}{ti:ByteArray}{l:List ByteArray}{k' r':Int}{L':List CD}{x' y':Int}{hd':Bool}{mo':Int}{ti':ByteArray}{l':List ByteArray}
theorem jBq (hA:ja6 k r L x y mo ti l=true) (hB:ja6 k' r' L' x' y' mo' ti' l'=true) (hm':0≤mo') (hw:∀c∈L',CWf c) :
  ∃l0 a',apG (jhj k' r' L' x' y' hd' mo' ti' l') ⟨k,r,L,x,y,hd,mo,ti,l,[],0⟩=(0,⟨k',r',L',x',y',hd',mo',ti',l0,l',a'⟩):=by
 have hB2:=hB
 obtain⟨K,R,X,Y,M,rfl,rfl,rfl,rfl,rfl,f⟩:=jb4 hB hm'
 obtain⟨a',h⟩:=jtN (d:=jhj K R L' X Y hd' M ti' l') (hd2:=hd') ⟨k,r,L,x,y,hd,mo,ti,l,l,0⟩ rfl f hw (by rw[jhj,if_pos hB2];rfl)
 exact⟨[],a',jw9 hA h hB2⟩
theorem jCk (hA:ja6 k r L x y mo ti l=true) (hm:0≤mo) (hB:ja6 k' r' L' x' y' mo' ti' l'=true) (hm':0≤mo') (hw:∀c∈L',CWf c) :
  ∃l0 a',apG (encI k r L x y hd mo ti l k' r' L' x' y' hd' mo' ti' l') ⟨k,r,L,x,y,hd,mo,ti,l,[],0⟩=(0,⟨k',r',L',x',y',hd',mo',ti',l0,l',a'⟩):=by
 by_cases h:k=k'∧r=r'
 ·obtain⟨rfl,rfl⟩:=h
  have hA2:=hA
  have hB2:=hB
  obtain⟨K,R,X,Y,M,rfl,rfl,rfl,rfl,rfl,f1⟩:=jb4 hA hm
  obtain⟨K2,R2,X2,Y2,M2,e1,e2,rfl,rfl,rfl,f2⟩:=jb4 hB hm'
  obtain rfl:K=K2:=by omega
  obtain rfl:R=R2:=by omega
  obtain⟨a',h⟩:=jms (d:=encI K R L X Y hd M ti l K R L' X2 Y2 hd' M2 ti' l') (a:=0) (f:=9) (last:=0) (x1:=X) (y1:=Y) (hd1:=hd) (m1:=M) (t1:=ti) (hd2:=hd') (by omega) (by omega) f1.len f1.links f1.l1 f2 hw (by rw[encI,if_pos (by rw[hA2,hB2];rfl),if_pos ⟨rfl,rfl⟩];rfl)
  exact⟨l,a',jw9 hA2 h hB2⟩
 ·rw[encI,if_pos (by rw[hA,hB];rfl),if_neg h]
  exact jBq hA hB hm' hw
end
end
section
open Go.RowKit
set_option maxRecDepth 100000
set_option maxHeartbeats 8000000
end
end Go.Proofs.YtcfkfgkndncanaaGreatDoor
