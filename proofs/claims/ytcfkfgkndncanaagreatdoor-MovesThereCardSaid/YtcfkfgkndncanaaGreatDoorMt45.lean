/- Texts of this claim, merged by a program of this claim: FRdif, FRruns, FRdiff, FEnc. -/
import Derived.Test.YtcfkfgkndncanaaGreatDoorMt24
import Derived.Test.YtcfkfgkndncanaaGreatDoorMt29
import Derived.Test.YtcfkfgkndncanaaGreatDoorMt36
import Derived.Test.YtcfkfgkndncanaaGreatDoorMt37
import Derived.Test.YtcfkfgkndncanaaGreatDoorMt42
import Derived.Test.YtcfkfgkndncanaaGreatDoorMt43
import Derived.Test.YtcfkfgkndncanaaGreatDoorMt44
namespace Go.Proofs.YtcfkfgkndncanaaGreatDoor
set_option linter.unusedVariables false
set_option linter.unusedSimpArgs false
section
open Go.RowKit
set_option maxRecDepth 100000
set_option maxHeartbeats 4000000
end
section
open Go.RowKit
set_option maxRecDepth 100000
set_option maxHeartbeats 4000000
end
section
open Go.RowKit
set_option maxRecDepth 100000
set_option maxHeartbeats 4000000
end
section
open Go.RowKit
set_option maxRecDepth 100000
set_option maxHeartbeats 4000000
theorem jmW:∀ n,jeV 0 (List.replicate n blank0)=some 0
 | 0=>rfl
 | n+1=>by
  rw [List.replicate_succ',jcN,jmW n]
  rfl
theorem jnV:jfV (bs [])=true:=by decide +kernel
theorem jnW {k r:Nat} (hk:1≤k∧k≤80) (hr:1≤r∧r≤24):ja0 k r (jbE k r) 0 0 0 (bs []) []=true:=by
 have h1:=jio hk hr
 have h2:jcb (jbE k r) []=true:=by
  simp only [jcb,jbE,List.length_nil,jmW]
  rfl
 unfold ja0
 simp only [h1,h2,jnV,HB,ne_eq,reduceCtorEq]
 refine ⟨⟨⟨⟨⟨⟨⟨⟨trivial,trivial⟩,?_⟩,?_⟩,?_⟩,?_⟩,?_⟩,?_⟩,trivial⟩ <;> first | omega | decide
theorem juq (k r:Nat) (h:k * r≤60000):ScrOk (jbE k r) []:=⟨fun c hc=>by rw [List.eq_of_mem_replicate hc]; exact jr7,by simp [jbE]; exact h,by simp,fun s hs=>by cases hs⟩
noncomputable def sp_mfull:Spec:=spOf (α:=Int × Int × (List CD) × Int × Int × Bool × Int × ByteArray × (List ByteArray)) (fun ⟨k,r,L,x,y,hd,mo,ti,l⟩=>[.agg [.int .i64 k,.int .i64 r,.vec .cell L,.int .i64 x,.int .i64 y,.bool hd,.int .u8 mo,.str ti,.vec .str l]]) fun ⟨k,r,L,x,y,hd,mo,ti,l⟩=>((ScrOk L l∧SLen ti)∧0≤mo,.ret (.tup [.vec (.int .u8) (jfZ k r L x y hd mo ti l),.int .i64 (errN (ja0 k r L x y mo ti l))]))
theorem jbA (k:Int) (r:Int) (L:List CD) (x:Int) (y:Int) (hd:Bool) (mo:Int) (ti:ByteArray) (l:List ByteArray):sp_mfull [.agg [.int .i64 k,.int .i64 r,.vec .cell L,.int .i64 x,.int .i64 y,.bool hd,.int .u8 mo,.str ti,.vec .str l]]=some ((ScrOk L l∧SLen ti)∧0≤mo,.ret (.tup [.vec (.int .u8) (jfZ k r L x y hd mo ti l),.int .i64 (errN (ja0 k r L x y mo ti l))])):=jar (α:=Int × Int × (List CD) × Int × Int × Bool × Int × ByteArray × (List ByteArray)) _ (fun ⟨k,r,L,x,y,hd,mo,ti,l⟩ ⟨k',r',L',x',y',hd',mo',ti',l'⟩ h=>by first | simpa [CP] using h | (simp [CP] at h ⊢; grind)) (k,r,L,x,y,hd,mo,ti,l)
theorem jo5:Fresh Tryz.prog E0 17 sp_mfull:=Fresh.of fun ⟨k,r,L,x,y,hd,mo,ti,l⟩ hG=>TF.intro (V:=(VV [(22,conF [.agg [.any,.any,.sl .cell,.any,.any,.any,.any,.any,.sl .str]] sp_eright),(48,conT [.any,.any] sp_pblank),(49,conT [.any,.sl (.int .i64)] sp_put),(47,conT [.agg [.any,.any,.sl .cell,.any,.any,.any,.any,.any,.sl .str],.agg [.any,.any,.sl .cell,.any,.any,.any,.any,.any,.sl .str]] sp_mlay)] (.cons (jaa jdE) (Fresh.soundF jj0) (.cons (jaa jc5) (Fresh.soundT jmU) (.cons (jaa jdd) (Fresh.soundT joX) (.cons (jaa jfx) (Fresh.soundT jsJ) GOk.nil)))) 27 0)) jez rfl rfl (by
 dsimp only at hG ⊢
 obtain ⟨⟨hs,ht⟩,hmo⟩:=hG
 cases hw:ja0 k r L x y mo ti l
 ·have e:jfZ k r L x y hd mo ti l=[]:=by rw [jfZ,if_neg (by rw [hw]; decide)]
  repeat' first | exact hs | simp only [SB,E,seval,rdB,ne_eq,implies_true,jaH,jax,jah,jbK] | simp only [hw] | simp only [hw2] | simp only [hw3] | apply tA | apply tB | apply tC | apply tD | apply tE | apply tF | apply tG | apply tH | apply tI | apply tJ | apply tK | apply And.intro | (intro p0; have hyp:=p0; (try simp only [HB,ne_eq,reduceCtorEq] at hyp); (try simp only [p0]); (try clear p0); try (exfalso; omega; done)) | omega
  exact Cos.intro [99] [] rfl (by rw [e]; simp only [SB,E,seval,rdB,ne_eq,implies_true,jaH,jax,jah,jbK]; simp [crs,crsL,jcw,errN])
 ·obtain ⟨K,R,X,Y,M,rfl,rfl,rfl,rfl,rfl,f⟩:=jct hw hmo
  have hk:=f.k1
  have hr:=f.r1
  have hKR:K * R≤1920:=Nat.mul_le_mul (show K≤80 by omega) (show R≤24 by omega)
  have hbr:=jnW hk hr
  have hbo:=juq K R (by omega)
  have hf:jdJ (K:Int) R=true:=jfl.2 (by omega)
  have hw2:List.take (K * R) (List.replicate (K * R) blank0)=jbE K R:=List.take_of_length_le (by simp)
  have hw3:jcF [(K:Int),(R:Int)]=jbu [K,R]:=jhw [K,R]
  have hvl:=jcc [K,R] (fun u hu=>by simp at hu; omega)
  simp only [List.length_cons,List.length_nil] at hvl
  have hx:=f.x1
  have hy:=f.y1
  have hm:=f.mo1
  have hdl:=jjO (L1:=jbE K R) (x1:=0) (y1:=0) (hd1:=false) (m1:=0) (t1:=bs []) (l1:=[]) (L2:=L) (x2:=X) (y2:=Y) (hd2:=hd) (m2:=M) (t2:=ti) (l2:=l) (k:=K) (r:=R) (by simp [jbE]) (by omega) hr f.len hs.wf (by omega) (by omega) (by omega) f.ti1 f.l1 f.s64
  have e:jfZ (K:Int) R L X Y hd M ti l=1 :: (jbu [K,R]++jgn K R (jbE K R) 0 0 false 0 (bs []) [] L X Y hd M ti l):=by
   rw [jfZ,if_pos hw]
   rfl
  repeat' first | exact hs | exact hf | exact hbo | exact hbr | simp only [SB,E,seval,rdB,ne_eq,implies_true,jaH,jax,jah,jbK] | simp only [hw] | simp only [hw2] | simp only [hw3] | apply tA | apply tB | apply tC | apply tD | apply tE | apply tF | apply tG | apply tH | apply tI | apply tJ | apply tK | apply And.intro | (intro p0; have hyp:=p0; (try simp only [HB,ne_eq,reduceCtorEq] at hyp); (try simp only [p0]); (try clear p0); try (exfalso; omega; done)) | omega
  refine Cos.intro [7] [] rfl ?_
  rw [e]
  simp only [errN]
  (simp only [SB,E,seval,rdB,ne_eq,implies_true,jaH,jax,jah,jbK]; first | done | ((repeat' apply And.intro) <;> first | rfl | omega | (simp; done) | (simp; omega))))
noncomputable def sp_menc:Spec:=spOf (α:=Int × Int × (List CD) × Int × Int × Bool × Int × ByteArray × (List ByteArray) × Int × Int × (List CD) × Int × Int × Bool × Int × ByteArray × (List ByteArray)) (fun ⟨k,r,L,x,y,hd,mo,ti,l,k',r',L',x',y',hd',mo',ti',l'⟩=>[.agg [.int .i64 k,.int .i64 r,.vec .cell L,.int .i64 x,.int .i64 y,.bool hd,.int .u8 mo,.str ti,.vec .str l],.agg [.int .i64 k',.int .i64 r',.vec .cell L',.int .i64 x',.int .i64 y',.bool hd',.int .u8 mo',.str ti',.vec .str l']]) fun ⟨k,r,L,x,y,hd,mo,ti,l,k',r',L',x',y',hd',mo',ti',l'⟩=>(((ScrOk L l∧SLen ti)∧0≤mo)∧((ScrOk L' l'∧SLen ti')∧0≤mo'),.ret (.tup [.vec (.int .u8) (encI k r L x y hd mo ti l k' r' L' x' y' hd' mo' ti' l'),.int .i64 (errN (ja0 k r L x y mo ti l && ja0 k' r' L' x' y' mo' ti' l'))]))
theorem jgm (k:Int) (r:Int) (L:List CD) (x:Int) (y:Int) (hd:Bool) (mo:Int) (ti:ByteArray) (l:List ByteArray) (k':Int) (r':Int) (L':List CD) (x':Int) (y':Int) (hd':Bool) (mo':Int) (ti':ByteArray) (l':List ByteArray):sp_menc [.agg [.int .i64 k,.int .i64 r,.vec .cell L,.int .i64 x,.int .i64 y,.bool hd,.int .u8 mo,.str ti,.vec .str l],.agg [.int .i64 k',.int .i64 r',.vec .cell L',.int .i64 x',.int .i64 y',.bool hd',.int .u8 mo',.str ti',.vec .str l']]=some (((ScrOk L l∧SLen ti)∧0≤mo)∧((ScrOk L' l'∧SLen ti')∧0≤mo'),.ret (.tup [.vec (.int .u8) (encI k r L x y hd mo ti l k' r' L' x' y' hd' mo' ti' l'),.int .i64 (errN (ja0 k r L x y mo ti l && ja0 k' r' L' x' y' mo' ti' l'))])):=jar (α:=Int × Int × (List CD) × Int × Int × Bool × Int × ByteArray × (List ByteArray) × Int × Int × (List CD) × Int × Int × Bool × Int × ByteArray × (List ByteArray)) _ (fun ⟨k,r,L,x,y,hd,mo,ti,l,k',r',L',x',y',hd',mo',ti',l'⟩ ⟨k',r',L',x',y',hd',mo',ti',l',k'',r'',L'',x'',y'',hd'',mo'',ti'',l''⟩ h=>by first | simpa [CP] using h | (simp [CP] at h ⊢; grind)) (k,r,L,x,y,hd,mo,ti,l,k',r',L',x',y',hd',mo',ti',l')
theorem jwj:Fresh Tryz.prog E0 16 sp_menc:=Fresh.of fun ⟨k,r,L,x,y,hd,mo,ti,l,k',r',L',x',y',hd',mo',ti',l'⟩ hG=>TF.intro (V:=(VV [(22,conF [.agg [.any,.any,.sl .cell,.any,.any,.any,.any,.any,.sl .str]] sp_eright),(17,conT [.agg [.any,.any,.sl .cell,.any,.any,.any,.any,.any,.sl .str]] sp_mfull),(47,conT [.agg [.any,.any,.sl .cell,.any,.any,.any,.any,.any,.sl .str],.agg [.any,.any,.sl .cell,.any,.any,.any,.any,.any,.sl .str]] sp_mlay)] (.cons (jaa jdE) (Fresh.soundF jj0) (.cons (jaa jez) (Fresh.soundT jo5) (.cons (jaa jfx) (Fresh.soundT jsJ) GOk.nil))) 35 0)) jeG rfl rfl (by
 dsimp only at hG ⊢
 obtain ⟨⟨⟨hs,ht⟩,hmo⟩,⟨hs',ht'⟩,hmo'⟩:=hG
 cases hw:ja0 k r L x y mo ti l
 ·have e:encI k r L x y hd mo ti l k' r' L' x' y' hd' mo' ti' l'=[]:=by rw [encI,if_neg (by rw [hw]; simp)]
  repeat' first | exact hs | simp only [SB,E,seval,rdB,ne_eq,implies_true,jaH,jbA,jbK] | simp only [hw] | simp only [hw2] | apply tA | apply tB | apply tC | apply tD | apply tE | apply tF | apply tG | apply tH | apply tI | apply tJ | apply tK | apply And.intro | (intro p0; have hyp:=p0; (try simp only [HB,ne_eq,reduceCtorEq] at hyp); (try simp only [p0]); (try clear p0); try (exfalso; omega; done)) | omega
  exact Cos.intro [99] [] rfl (by rw [e]; simp only [SB,E,seval,rdB,ne_eq,implies_true,jaH,jbA,jbK]; simp [crs,crsL,jcw,errN])
 ·cases hw2:ja0 k' r' L' x' y' mo' ti' l'
  ·have e:encI k r L x y hd mo ti l k' r' L' x' y' hd' mo' ti' l'=[]:=by rw [encI,if_neg (by rw [hw2]; simp)]
   repeat' first | exact hs | exact hs' | simp only [SB,E,seval,rdB,ne_eq,implies_true,jaH,jbA,jbK] | simp only [hw] | simp only [hw2] | apply tA | apply tB | apply tC | apply tD | apply tE | apply tF | apply tG | apply tH | apply tI | apply tJ | apply tK | apply And.intro | (intro p0; have hyp:=p0; (try simp only [HB,ne_eq,reduceCtorEq] at hyp); (try simp only [p0]); (try clear p0); try (exfalso; omega; done)) | omega
   exact Cos.intro [99] [] rfl (by rw [e]; simp only [SB,E,seval,rdB,ne_eq,implies_true,jaH,jbA,jbK]; simp [crs,crsL,jcw,errN])
  ·have e0:encI k r L x y hd mo ti l k' r' L' x' y' hd' mo' ti' l'=if k=k'∧r=r' then jgn k.toNat r.toNat L x.toNat y.toNat hd mo.toNat ti l L' x'.toNat y'.toNat hd' mo'.toNat ti' l' else jfZ k' r' L' x' y' hd' mo' ti' l':=by rw [encI,if_pos (by rw [hw,hw2]; rfl)]
   by_cases hkr:k=k'∧r=r'
   ·rw [if_pos hkr] at e0
    repeat' first | exact hs | exact hs' | exact hw | exact hw2 | simp only [SB,E,seval,rdB,ne_eq,implies_true,jaH,jbA,jbK] | simp only [hw] | simp only [hw2] | apply tA | apply tB | apply tC | apply tD | apply tE | apply tF | apply tG | apply tH | apply tI | apply tJ | apply tK | apply And.intro | (intro p0; have hyp:=p0; (try simp only [HB,ne_eq,reduceCtorEq] at hyp); (try simp only [p0]); (try clear p0); try (exfalso; omega; done)) | omega
    exact Cos.intro [2] [] rfl (by rw [e0]; simp only [errN]; (simp only [SB,E,seval,rdB,ne_eq,implies_true,jaH,jbA,jbK]; first | done | ((repeat' apply And.intro) <;> first | rfl | omega | (simp; done) | (simp; omega))))
   ·rw [if_neg hkr] at e0
    repeat' first | exact hs | exact hs' | simp only [SB,E,seval,rdB,ne_eq,implies_true,jaH,jbA,jbK] | simp only [hw] | simp only [hw2] | apply tA | apply tB | apply tC | apply tD | apply tE | apply tF | apply tG | apply tH | apply tI | apply tJ | apply tK | apply And.intro | (intro p0; have hyp:=p0; (try simp only [HB,ne_eq,reduceCtorEq] at hyp); (try simp only [p0]); (try clear p0); try (exfalso; omega; done)) | omega
    exact Cos.intro [2] [] rfl (by rw [e0]; (simp only [SB,E,seval,rdB,ne_eq,implies_true,jaH,jbA,jbK]; first | done | ((repeat' apply And.intro) <;> first | rfl | omega | (simp; done) | (simp; omega)))))
end
end Go.Proofs.YtcfkfgkndncanaaGreatDoor
