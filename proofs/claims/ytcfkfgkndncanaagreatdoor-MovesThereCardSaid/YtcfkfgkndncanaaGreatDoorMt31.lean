/- Texts of this claim, merged by a program of this claim: FDif3. -/
import Derived.Test.YtcfkfgkndncanaaGreatDoorMt24
import Derived.Test.YtcfkfgkndncanaaGreatDoorMt25
import Derived.Test.YtcfkfgkndncanaaGreatDoorMt29
namespace Go.Proofs.YtcfkfgkndncanaaGreatDoor
set_option linter.unusedVariables false
set_option linter.unusedSimpArgs false
section
open Go.RowKit
set_option maxRecDepth 100000
set_option maxHeartbeats 4000000
theorem jv7:penB ⟨0,0,0,0⟩=true:=by decide
theorem jh5 {k r:Int} {L:List CD} (h:jbN k r L=true):(1≤k∧k≤80)∧(1≤r∧r≤24)∧(L.length:Int)=k * r∧L.length≤1920:=by
 have hg2:=h
 simp only [jbN,HB,ne_eq,reduceCtorEq] at hg2
 have hf:=jfl.1 hg2.1.1
 have h1:k * r≤80 * r:=Int.mul_le_mul_of_nonneg_right (by omega) (by omega)
 refine ⟨by omega,by omega,hg2.1.2,?_⟩
 have:=hg2.1.2
 omega
noncomputable def sp_mscrolled:Spec:=spOf (α:=Int × Int × (List CD) × Int × Int × Bool × Int × ByteArray × (List ByteArray) × Int) (fun ⟨k,r,L,x,y,hd,mo,ti,l,m⟩=>[.agg [.int .i64 k,.int .i64 r,.vec .cell L,.int .i64 x,.int .i64 y,.bool hd,.int .u8 mo,.str ti,.vec .str l],.int .i64 m]) fun ⟨k,r,L,x,y,hd,mo,ti,l,m⟩=>(jbN k r L=true∧CWs L∧(-1000000≤m∧m≤1000000),.ret (.vec .cell (jbX (ja4 L k.toNat r.toNat) m).flatten))
theorem jab (k:Int) (r:Int) (L:List CD) (x:Int) (y:Int) (hd:Bool) (mo:Int) (ti:ByteArray) (l:List ByteArray) (m:Int):sp_mscrolled [.agg [.int .i64 k,.int .i64 r,.vec .cell L,.int .i64 x,.int .i64 y,.bool hd,.int .u8 mo,.str ti,.vec .str l],.int .i64 m]=some (jbN k r L=true∧CWs L∧(-1000000≤m∧m≤1000000),.ret (.vec .cell (jbX (ja4 L k.toNat r.toNat) m).flatten)):=jar (α:=Int × Int × (List CD) × Int × Int × Bool × Int × ByteArray × (List ByteArray) × Int) _ (fun ⟨k,r,L,x,y,hd,mo,ti,l,m⟩ ⟨k',r',L',x',y',hd',mo',ti',l',m'⟩ h=>by first | simpa [CP] using h | (simp [CP] at h ⊢; grind)) (k,r,L,x,y,hd,mo,ti,l,m)
theorem jir:Fresh Tryz.prog E0 65 sp_mscrolled:=Fresh.of fun ⟨k,r,L,x,y,hd,mo,ti,l,m⟩ hG=>TF.intro (V:=(VV [(103,conT [.agg [.any,.any,.sl .cell],.any,.any,.any,.any] sp_gscroll)] (.cons (jaa jfk) (Fresh.soundT jpW) GOk.nil) 21 0)) jcJ rfl rfl (by
 dsimp only at hG ⊢
 obtain ⟨hg,hc,hm⟩:=hG
 have hf:=jh5 hg
 have hsa:=jnD (L:=L) (k:=k.toNat) (r:=r.toNat) (by omega) m
 have hw:(r - 1).toNat=r.toNat - 1:=by omega
 have hw2:jcZ (ja4 L k.toNat r.toNat) 0 (r.toNat - 1) m { fg:=0,bg:=0,attrs:=0,link:=0 }=jbX (ja4 L k.toNat r.toNat) m:=hsa
 repeat' first | exact hg | exact jv7 | exact hc | simp only [SB,E,seval,rdB,ne_eq,implies_true,jhu,tq0,tq1,tq2] | simp only [hw] | simp only [hw2] | apply tA | apply tB | apply tC | apply tD | apply tE | apply tF | apply tG | apply tH | apply tI | apply tJ | apply tK | apply And.intro | (intro p0; have hyp:=p0; (try simp only [HB,ne_eq,reduceCtorEq] at hyp); (try simp only [p0]); (try clear p0); try (exfalso; omega; done)) | omega
 exact Cos.intro [2] [] rfl (by (simp only [SB,E,seval,rdB,ne_eq,implies_true,jhu,tq0,tq1,tq2]; first | done | ((repeat' apply And.intro) <;> first | rfl | omega | (simp; done) | (simp; omega)))))
noncomputable def sp_mrow:Spec:=spOf (α:=Int × Int × (List CD) × Int × Int × Bool × Int × ByteArray × (List ByteArray) × Int) (fun ⟨k,r,L,x,y,hd,mo,ti,l,v⟩=>[.agg [.int .i64 k,.int .i64 r,.vec .cell L,.int .i64 x,.int .i64 y,.bool hd,.int .u8 mo,.str ti,.vec .str l],.int .i64 v]) fun ⟨k,r,L,x,y,hd,mo,ti,l,v⟩=>((0≤k∧k≤100)∧(0≤v∧v≤1000)∧(v.toNat+1) * k.toNat≤L.length∧L.length≤1000000,.ret (.vec .cell (jbm L k.toNat v.toNat)))
theorem jaZ (k:Int) (r:Int) (L:List CD) (x:Int) (y:Int) (hd:Bool) (mo:Int) (ti:ByteArray) (l:List ByteArray) (v:Int):sp_mrow [.agg [.int .i64 k,.int .i64 r,.vec .cell L,.int .i64 x,.int .i64 y,.bool hd,.int .u8 mo,.str ti,.vec .str l],.int .i64 v]=some ((0≤k∧k≤100)∧(0≤v∧v≤1000)∧(v.toNat+1) * k.toNat≤L.length∧L.length≤1000000,.ret (.vec .cell (jbm L k.toNat v.toNat))):=jar (α:=Int × Int × (List CD) × Int × Int × Bool × Int × ByteArray × (List ByteArray) × Int) _ (fun ⟨k,r,L,x,y,hd,mo,ti,l,v⟩ ⟨k',r',L',x',y',hd',mo',ti',l',v'⟩ h=>by first | simpa [CP] using h | (simp [CP] at h ⊢; grind)) (k,r,L,x,y,hd,mo,ti,l,v)
theorem jsr:Alias Tryz.prog E0 105 sp_mrow:=Alias.of fun ⟨k,r,L,x,y,hd,mo,ti,l,v⟩ hG=>TF.intro (V:=(VV [] GOk.nil 17 0)) jeg rfl rfl (by
 dsimp only at hG ⊢
 obtain ⟨hk,hv,hl,hL⟩:=hG
 obtain ⟨k,rfl⟩:∃ n:Nat,k=n:=⟨k.toNat,by omega⟩
 obtain ⟨v,rfl⟩:∃ n:Nat,v=n:=⟨v.toNat,by omega⟩
 simp only [Int.toNat_natCast] at hl ⊢
 have hm:=jfU hl
 have hm2:(v+1) * k=v * k+k:=by rw [Nat.add_mul]; omega
 have hvk:v * k≤1000000:=by omega
 repeat' first | simp only [SB,E,seval,rdB,ne_eq,implies_true,tq0,tq1,tq2] | refine T.seq ?_ | refine T.stm ?_ | refine T.rg ?_ | refine jac ?_ | refine jad ?_ | refine jae ?_ | refine T.cond ?_ | refine T.skip ?_ | refine T.ret ?_ | refine T.exit ?_ | refine T.block ?_ | refine Cos.intro [] [0,1,2,3,4,5,6,7,8,9] rfl ?_ | refine And.intro ?_ ?_ | (intro p0; have hyp:=p0; (try simp only [HB,ne_eq,reduceCtorEq] at hyp); (try simp only [p0]); (try clear p0); try (exfalso; omega; done)) | omega
 rfl)
theorem jhw (l:List Nat):jcF (l.map Int.ofNat)=jbu l:=by
 unfold jcF jbu
 rw [List.flatMap_map]
 rfl
theorem jmT (l m:List Nat):jbu (l++m)=jbu l++jbu m:=by
 unfold jbu
 rw [List.flatMap_append]
noncomputable def sp_mcopies:Spec:=spOf (α:=Int × Int × (List CD) × Int × Int × Bool × Int × ByteArray × (List ByteArray) × Int × Int × (List CD) × Int × Int × Bool × Int × ByteArray × (List ByteArray)) (fun ⟨k,r,L,x,y,hd,mo,ti,l,k',r',L',x',y',hd',mo',ti',l'⟩=>[.agg [.int .i64 k,.int .i64 r,.vec .cell L,.int .i64 x,.int .i64 y,.bool hd,.int .u8 mo,.str ti,.vec .str l],.agg [.int .i64 k',.int .i64 r',.vec .cell L',.int .i64 x',.int .i64 y',.bool hd',.int .u8 mo',.str ti',.vec .str l']]) fun ⟨k,r,L,x,y,hd,mo,ti,l,k',r',L',x',y',hd',mo',ti',l'⟩=>((k=k'∧r=r')∧((0≤k∧k≤100)∧(0≤r∧r≤100))∧L.length=k.toNat * r.toNat∧L'.length=k.toNat * r.toNat,.ret (.tup [.vec .cell (cpyL k.toNat r.toNat L L'),.vec (.int .u8) (jjJ (jaK (ja4 L k.toNat r.toNat) (ja4 L' k.toNat r.toNat) r.toNat).1)]))
theorem jal (k:Int) (r:Int) (L:List CD) (x:Int) (y:Int) (hd:Bool) (mo:Int) (ti:ByteArray) (l:List ByteArray) (k':Int) (r':Int) (L':List CD) (x':Int) (y':Int) (hd':Bool) (mo':Int) (ti':ByteArray) (l':List ByteArray):sp_mcopies [.agg [.int .i64 k,.int .i64 r,.vec .cell L,.int .i64 x,.int .i64 y,.bool hd,.int .u8 mo,.str ti,.vec .str l],.agg [.int .i64 k',.int .i64 r',.vec .cell L',.int .i64 x',.int .i64 y',.bool hd',.int .u8 mo',.str ti',.vec .str l']]=some ((k=k'∧r=r')∧((0≤k∧k≤100)∧(0≤r∧r≤100))∧L.length=k.toNat * r.toNat∧L'.length=k.toNat * r.toNat,.ret (.tup [.vec .cell (cpyL k.toNat r.toNat L L'),.vec (.int .u8) (jjJ (jaK (ja4 L k.toNat r.toNat) (ja4 L' k.toNat r.toNat) r.toNat).1)])):=jar (α:=Int × Int × (List CD) × Int × Int × Bool × Int × ByteArray × (List ByteArray) × Int × Int × (List CD) × Int × Int × Bool × Int × ByteArray × (List ByteArray)) _ (fun ⟨k,r,L,x,y,hd,mo,ti,l,k',r',L',x',y',hd',mo',ti',l'⟩ ⟨k',r',L',x',y',hd',mo',ti',l',k'',r'',L'',x'',y'',hd'',mo'',ti'',l''⟩ h=>by first | simpa [CP] using h | (simp [CP] at h ⊢; grind)) (k,r,L,x,y,hd,mo,ti,l,k',r',L',x',y',hd',mo',ti',l')
theorem jp5:Fresh Tryz.prog E0 87 sp_mcopies:=Fresh.of fun ⟨k,r,L,x,y,hd,mo,ti,l,k',r',L',x',y',hd',mo',ti',l'⟩ hG=>TF.intro (V:=(VV [(24,conT [.sl .cell] sp_clone),(105,conA [.agg [.any,.any,.sl .cell,.any,.any,.any,.any,.any,.sl .str],.any] sp_mrow),(116,conF [.sl .cell,.sl .cell] sp_equal),(91,conT [.sl (.int .i64)] sp_vars),(49,conT [.any,.sl (.int .i64)] sp_put)] (.cons (jaa ja8) (Fresh.soundT jgc) (.cons (jaa jeg) (Alias.soundA jsr) (.cons (jaa jb5) (Fresh.soundF joE) (.cons (jaa jdx) (Fresh.soundT jnM) (.cons (jaa jdd) (Fresh.soundT joX) GOk.nil))))) 72 0)) jde rfl rfl (by
 dsimp only at hG ⊢
 obtain ⟨⟨rfl,rfl⟩,⟨hk,hr⟩,hL,hL'⟩:=hG
 obtain ⟨k,rfl⟩:∃ n:Nat,k=n:=⟨k.toNat,by omega⟩
 obtain ⟨r,rfl⟩:∃ n:Nat,r=n:=⟨r.toNat,by omega⟩
 simp only [Int.toNat_natCast] at hL hL' ⊢
 have hkr:k * r≤10000:=Nat.mul_le_mul (show k≤100 by omega) (show r≤100 by omega)
 have hA:=jbD hL
 have hB:=jbD hL'
 obtain ⟨A,hAd⟩:∃ A,A=ja4 L k r:=⟨_,rfl⟩
 obtain ⟨B,hBd⟩:∃ B,B=ja4 L' k r:=⟨_,rfl⟩
 have hcp:cpyL k r L L'=((List.range r).map (jc0 A B)).flatten:=by rw [hAd,hBd]; rfl
 have hma:∀ y,y < r→jbm L k y=mAt A y:=fun y h=>by rw [hAd]; exact (jdW h).symm
 have hmb:∀ y,y < r→jbm L' k y=mAt B y:=fun y h=>by rw [hBd]; exact (jdW h).symm
 rw [← hAd] at hA
 rw [← hBd] at hB
 have hstart:jcn A B 0=L:=by
  unfold jcn
  rw [hAd]
  simpa using je0 hL
 rw [hcp,← hAd,← hBd]
 have hal:=hA.len
 repeat' first | simp only [SB,E,seval,rdB,ne_eq,implies_true,jai,jaZ,ja9,jaG,jah,tq0,tq1,tq2] | simp only [hw] | simp only [hw2] | simp only [hw3] | simp only [hw4] | apply tA | apply tB | apply tC | apply tD | apply tE | apply tF | apply tG | apply tH | apply tI | apply tJ | apply tK | apply And.intro | (intro p0; have hyp:=p0; (try simp only [HB,ne_eq,reduceCtorEq] at hyp); (try simp only [p0]); (try clear p0); try (exfalso; omega; done)) | omega
 refine T.loop (fun v:Nat=>⟨[(2,.ptr 0 0 0),(3,.ptr 1 0 0),(6,.slice 2 0 6 (k * r) (k * r)),(7,.slice 3 0 1 (jbu (jaK A B v).1).length (jbu (jaK A B v).1).length),(8,.int .i64 ((jaK A B v).1.length / 2:Nat)),(9,.int .i64 (jaK A B v).2),(16,.int .i64 r),(17,.int .i64 v)],[.box [.int .i64 k,.int .i64 r,.vec .cell L,.int .i64 x,.int .i64 y,.bool hd,.int .u8 mo,.str ti,.vec .str l],.box [.int .i64 k,.int .i64 r,.vec .cell L',.int .i64 x',.int .i64 y',.bool hd',.int .u8 mo',.str ti',.vec .str l'],.seq .cell (jcn A B v),.seq (.int .u8) (jbu (jaK A B v).1)]⟩) (fun v=>v≤r) (fun v=>r - v) 0 (by omega) (Cos.intro [0,1,2,99] [] rfl (by rw [hstart]; simp only [SB,E,seval,rdB,ne_eq,implies_true,jai,jaZ,ja9,jaG,jah,tq0,tq1,tq2]; simp [jaK,jbu,crs,crsL,jcw,hL])) (fun v hv=>?_)
 have hnf:=jdB A B v
 have hne:=jfp A B v
 have hvl:(jbu (jaK A B v).1).length≤20 * v:=by
  have:=jcc (jaK A B v).1 (fun x hx=>by have:=hnf.2.2 x hx; omega)
  omega
 have hcl:=jpV hA hB (show v≤r from hv)
 by_cases hvr:v < r
 ·have hrow:(v+1) * k≤k * r:=by
   rw [Nat.mul_comm k r]
   exact Nat.mul_le_mul_right k hvr
  have hvk:v * k+k≤k * r:=by rw [← Nat.succ_mul]; exact hrow
  have hw:=hma v hvr
  have hw2:=hmb v hvr
  have hbl:=(hB.at_ hvr).1
  have hal1:=(hA.at_ hvr).1
  by_cases heq:mAt A v=mAt B v
  ·have hsn:jaK A B (v+1)=jaK A B v:=by rw [jaK,if_pos heq]
   have hcs:=jdc (B:=B) (show v < A.length by omega) (jgU (by omega) heq)
   repeat' first | (rw [hL]; exact hrow) | (rw [hL']; exact hrow) | exact absurd heq hyp | simp only [SB,E,seval,rdB,ne_eq,implies_true,jai,jaZ,ja9,jaG,jah,tq0,tq1,tq2] | simp only [hw] | simp only [hw2] | simp only [hw3] | simp only [hw4] | apply tA | apply tB | apply tC | apply tD | apply tE | apply tF | apply tG | apply tH | apply tI | apply tJ | apply tK | apply And.intro | (intro p0; have hyp:=p0; (try simp only [HB,ne_eq,reduceCtorEq] at hyp); (try simp only [p0]); (try clear p0); try (exfalso; omega; done)) | omega
   exact ⟨v+1,by omega,by omega,Cos.intro [0,1,2,3] [] rfl (by rw [hsn,hcs]; (simp only [SB,E,seval,rdB,ne_eq,implies_true,jai,jaZ,ja9,jaG,jah,tq0,tq1,tq2]; first | done | ((repeat' apply And.intro) <;> first | rfl | omega | (simp; done) | (simp; omega))))⟩
  ·repeat' first | (rw [hL]; exact hrow) | (rw [hL']; exact hrow) | exact absurd hyp heq | simp only [SB,E,seval,rdB,ne_eq,implies_true,jai,jaZ,ja9,jaG,jah,tq0,tq1,tq2] | simp only [hw] | simp only [hw2] | simp only [hw3] | simp only [hw4] | apply tA | apply tB | apply tC | apply tD | apply tE | apply tF | apply tG | apply tH | apply tI | apply tJ | apply tK | apply And.intro | (intro p0; have hyp:=p0; (try simp only [HB,ne_eq,reduceCtorEq] at hyp); (try simp only [p0]); (try clear p0); try (exfalso; omega; done)) | omega
   refine T.loop (fun z:Nat=>⟨[(2,.ptr 0 0 0),(3,.ptr 1 0 0),(6,.slice 2 0 6 (k * r) (k * r)),(7,.slice 3 0 1 (jbu (jaK A B v).1).length (jbu (jaK A B v).1).length),(8,.int .i64 ((jaK A B v).1.length / 2:Nat)),(9,.int .i64 (jaK A B v).2),(10,.int .i64 v),(16,.int .i64 r),(17,.int .i64 v),(28,.int .i64 r),(29,.int .i64 z)],[.box [.int .i64 k,.int .i64 r,.vec .cell L,.int .i64 x,.int .i64 y,.bool hd,.int .u8 mo,.str ti,.vec .str l],.box [.int .i64 k,.int .i64 r,.vec .cell L',.int .i64 x',.int .i64 y',.bool hd',.int .u8 mo',.str ti',.vec .str l'],.seq .cell (jcn A B v),.seq (.int .u8) (jbu (jaK A B v).1)]⟩) (fun z=>z≤r∧∀ u,u < z→mAt A u ≠ mAt B v) (fun z=>r - z) 0 ⟨by omega,fun u hu=>by omega⟩ (Cos.intro [0,1,2,3] [] rfl (by (simp only [SB,E,seval,rdB,ne_eq,implies_true,jai,jaZ,ja9,jaG,jah,tq0,tq1,tq2]; first | done | ((repeat' apply And.intro) <;> first | rfl | omega | (simp; done) | (simp; omega))))) (fun z ⟨hz,hno⟩=>?_)
   by_cases hzr:z < r
   ·have hrow2:(z+1) * k≤k * r:=by
     rw [Nat.mul_comm k r]
     exact Nat.mul_le_mul_right k hzr
    have hw3:=hma z hzr
    have hal2:=(hA.at_ hzr).1
    have hbd:(jaK A B v).2≤v:=hnf.1
    have hvv:jcF [(v:Int) - (jaK A B v).2,(z:Int)]=jbu [v - (jaK A B v).2,z]:=by
     rw [← jhw,List.map_cons,List.map_cons,List.map_nil]
     congr 2
     exact (Int.ofNat_sub hbd).symm
    have hw4:=hvv
    have hvl2:=jcc [v - (jaK A B v).2,z] (fun u hu=>by simp at hu; omega)
    simp only [List.length_cons,List.length_nil] at hvl2
    by_cases hzz:mAt A z=mAt B v
    ·have hfz:=jh2 (n:=A.length) hno hzz (by omega)
     have hsn:jaK A B (v+1)=((jaK A B v).1++[v - (jaK A B v).2,z],v+1):=by rw [jaK,if_neg heq,hfz]
     have hcs:=jjK hA hB hvr (jnF hno hzz (by omega))
     rw [hbl] at hcs
     have hm5:min (mAt B v).length (k * r - v * k)=k:=by omega
     have htk:List.take k (mAt B v)=mAt B v:=List.take_of_length_le (by omega)
     have hroom:v * k+(k * r - v * k)≤(jcn A B v).length:=by
      rw [hcl,Nat.mul_comm r k]
      omega
     repeat' first | exact hroom | (rw [hL]; exact hrow) | (rw [hL']; exact hrow) | (rw [hL]; exact hrow2) | exact absurd hzz hyp | simp only [SB,E,seval,rdB,ne_eq,implies_true,jai,jaZ,ja9,jaG,jah,tq0,tq1,tq2] | simp only [hw] | simp only [hw2] | simp only [hw3] | simp only [hw4] | apply tA | apply tB | apply tC | apply tD | apply tE | apply tF | apply tG | apply tH | apply tI | apply tJ | apply tK | apply And.intro | (intro p0; have hyp:=p0; (try simp only [HB,ne_eq,reduceCtorEq] at hyp); (try simp only [p0]); (try clear p0); try (exfalso; omega; done)) | omega
     exact ⟨v+1,by omega,by omega,Cos.intro [0,1,2,6] [] rfl (by rw [hm5,htk,hcs,hsn]; simp only [jmT]; (simp only [SB,E,seval,rdB,ne_eq,implies_true,jai,jaZ,ja9,jaG,jah,tq0,tq1,tq2]; first | done | ((repeat' apply And.intro) <;> first | rfl | omega | (simp; done) | (simp; omega))))⟩
    ·repeat' first | (rw [hL]; exact hrow) | (rw [hL']; exact hrow) | (rw [hL]; exact hrow2) | exact absurd hyp hzz | simp only [SB,E,seval,rdB,ne_eq,implies_true,jai,jaZ,ja9,jaG,jah,tq0,tq1,tq2] | simp only [hw] | simp only [hw2] | simp only [hw3] | simp only [hw4] | apply tA | apply tB | apply tC | apply tD | apply tE | apply tF | apply tG | apply tH | apply tI | apply tJ | apply tK | apply And.intro | (intro p0; have hyp:=p0; (try simp only [HB,ne_eq,reduceCtorEq] at hyp); (try simp only [p0]); (try clear p0); try (exfalso; omega; done)) | omega
     exact ⟨z+1,⟨by omega,fun u hu=>if e:u=z then by subst e; exact hzz else hno u (by omega)⟩,by omega,Cos.intro [0,1,2,3] [] rfl (by (simp only [SB,E,seval,rdB,ne_eq,implies_true,jai,jaZ,ja9,jaG,jah,tq0,tq1,tq2]; first | done | ((repeat' apply And.intro) <;> first | rfl | omega | (simp; done) | (simp; omega))))⟩
   ·obtain rfl:z=r:=by omega
    have hsn:jaK A B (v+1)=jaK A B v:=by rw [jaK,if_neg heq,jgh (fun u hu=>hno u (by omega))]
    have hcs:=jdc (B:=B) (show v < A.length by omega) (jnE fun u hu=>hno u (by omega))
    repeat' first | simp only [SB,E,seval,rdB,ne_eq,implies_true,jai,jaZ,ja9,jaG,jah,tq0,tq1,tq2] | simp only [hw] | simp only [hw2] | simp only [hw3] | simp only [hw4] | apply tA | apply tB | apply tC | apply tD | apply tE | apply tF | apply tG | apply tH | apply tI | apply tJ | apply tK | apply And.intro | (intro p0; have hyp:=p0; (try simp only [HB,ne_eq,reduceCtorEq] at hyp); (try simp only [p0]); (try clear p0); try (exfalso; omega; done)) | omega
    exact ⟨v+1,by omega,by omega,Cos.intro [0,1,2,3] [] rfl (by rw [hsn,hcs]; (simp only [SB,E,seval,rdB,ne_eq,implies_true,jai,jaZ,ja9,jaG,jah,tq0,tq1,tq2]; first | done | ((repeat' apply And.intro) <;> first | rfl | omega | (simp; done) | (simp; omega))))⟩
 ·obtain rfl:v=r:=by omega
  have hce:jcn A B v=((List.range v).map (jc0 A B)).flatten:=by
   unfold jcn
   rw [List.drop_of_length_le (by omega)]
   simp
  rw [← hce]
  obtain ⟨nums,hnm⟩:∃ nums,nums=(jaK A B v).1:=⟨_,rfl⟩
  rw [← hnm] at hne hvl hnf ⊢
  have hw:jcF [((nums.length / 2:Nat):Int)]=varN (nums.length / 2):=by simp only [jcF,List.flatMap_cons,List.flatMap_nil,List.append_nil,Int.toNat_natCast]
  have h10:=jbW (nums.length / 2) (by omega)
  repeat' first | simp only [SB,E,seval,rdB,ne_eq,implies_true,jai,jaZ,ja9,jaG,jah,tq0,tq1,tq2] | simp only [hw] | simp only [hw2] | simp only [hw3] | simp only [hw4] | apply tA | apply tB | apply tC | apply tD | apply tE | apply tF | apply tG | apply tH | apply tI | apply tJ | apply tK | apply And.intro | (intro p0; have hyp:=p0; (try simp only [HB,ne_eq,reduceCtorEq] at hyp); (try simp only [p0]); (try clear p0); try (exfalso; omega; done)) | omega
  ·have h0:nums=[]:=List.eq_nil_of_length_eq_zero (by omega)
   rw [h0]
   exact Cos.intro [2,99] [] rfl (by simp only [SB,E,seval,rdB,ne_eq,implies_true,jai,jaZ,ja9,jaG,jah,tq0,tq1,tq2]; simp [jjJ,crs,crsL,jcw,hcl,Nat.mul_comm])
  ·have h0:nums ≠ []:=fun e=>by rw [e] at hyp; exact hyp rfl
   refine Cos.intro [2,6] [] rfl ?_
   simp only [jjJ,if_neg h0]
   simp only [SB,E,seval,rdB,ne_eq,implies_true,jai,jaZ,ja9,jaG,jah,tq0,tq1,tq2]
   simp [hcl,Nat.mul_comm]
   omega)
end
end Go.Proofs.YtcfkfgkndncanaaGreatDoor
