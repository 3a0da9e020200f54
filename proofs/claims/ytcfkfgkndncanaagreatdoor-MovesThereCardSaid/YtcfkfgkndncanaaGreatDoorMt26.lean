/- Texts of this claim, merged by a program of this claim: FBytes. -/
import Derived.Test.YtcfkfgkndncanaaGreatDoorMt20
import Derived.Test.YtcfkfgkndncanaaGreatDoorMt25
namespace Go.Proofs.YtcfkfgkndncanaaGreatDoor
set_option linter.unusedVariables false
set_option linter.unusedSimpArgs false
section
open Go.RowKit
set_option maxRecDepth 100000
set_option maxHeartbeats 4000000
def jcF (L:List Int):List Int:=L.flatMap fun x=>varN x.toNat
theorem jpY {L:List Int} {k:Nat} (h:k < L.length):jcF (L.take (k+1))=jcF (L.take k)++varN (L.getD k 0).toNat:=by
 rw [ja7 (jbU (d:=0) h),jcF,List.flatMap_append]
 simp [jcF]
theorem jjQ (L:List Int) (h:∀ x∈L,x < 18446744073709551616):(jcF L).length≤10 * L.length:=by
 induction L with
 | nil=>simp [jcF]
 | cons a L ih =>
  have h1:=jbW a.toNat (by have:=h a (by simp); omega)
  have h2:=ih fun x hx=>h x (by simp [hx])
  simp only [jcF,List.flatMap_cons,List.length_append,List.length_cons] at *
  omega
theorem jr8 {n:Int} (h0:0≤n) (h:¬ n < 128):varN n.toNat=(n % 128+128) :: varN (n / 128).toNat:=by
 obtain ⟨m,rfl⟩:∃ m:Nat,n=m:=⟨n.toNat,by omega⟩
 rw [Int.toNat_natCast,jgg (by omega)]
 congr 1
theorem jjR {n:Int} (h0:0≤n) (h:n < 128):varN n.toNat=[n]:=by
 rw [jd0 (by omega)]
 congr 1
 omega
theorem jxk (m:Int):IntKind.u8.wrap m=m % 256:=by
 simp only [IntKind.wrap,IntKind.signed,IntKind.bits,Bool.false_and,Bool.false_eq_true,if_false]
 rfl
theorem jxl {m:Int} (h:0≤m):((m % 256).toNat ||| 128)=(m % 128+128).toNat:=by
 have:=jrO ⟨(m % 256).toNat,by omega⟩
 simp only at this
 rw [this]
 omega
noncomputable def sp_var:Spec:=spOf (α:=Int) (fun n=>[.int .u64 n]) fun n=>(0≤n∧n < 18446744073709551616,.ret (.vec (.int .u8) (varN n.toNat)))
theorem jba (n:Int):sp_var [.int .u64 n]=some (0≤n∧n < 18446744073709551616,.ret (.vec (.int .u8) (varN n.toNat))):=jar (α:=Int) _ (fun n n' h=>by first | simpa [CP] using h | (simp [CP] at h ⊢; grind)) n
theorem jr9:Fresh Tryz.prog E0 113 sp_var:=Fresh.of fun n hG=>TF.intro (V:=(VV [] GOk.nil 19 0)) je1 rfl rfl (by
 dsimp only at hG ⊢
 repeat' first | simp only [SB,E,seval,rdB,ne_eq,implies_true] | simp only [hw] | simp only [hw2] | apply tA | apply tB | apply tC | apply tD | apply tE | apply tF | apply tG | apply tH | apply tI | apply tJ | apply tK | apply And.intro | (intro p0; have hyp:=p0; (try simp only [HB,ne_eq,reduceCtorEq] at hyp); (try simp only [p0]); (try clear p0); try (exfalso; omega; done)) | omega
 refine T.loop (fun x:List Int × Int=>⟨[(0,.int .u64 x.2),(3,.slice 0 0 1 x.1.length x.1.length)],[.seq (.int .u8) x.1]⟩) (fun x=>(0≤x.2∧x.2 < 18446744073709551616)∧varN n.toNat=x.1++varN x.2.toNat) (fun x=>x.2.toNat) ([],n) ⟨by omega,rfl⟩ (Cos.intro [99] [] rfl (by simp only [SB,E,seval,rdB,ne_eq,implies_true]; first | done | simp [crs,crsL,jcw])) (fun ⟨P,m⟩ ⟨hm,hv⟩=>?_)
 dsimp only at hm hv ⊢
 have h10:=jbW n.toNat (by omega)
 have hlen:=congrArg List.length hv
 rw [List.length_append] at hlen
 have hpos:=jtY m.toNat
 have hw:=jxk m
 have hw2:=jxl hm.1
 repeat' first | exact (by decide:(7:Int)≤64) | simp only [SB,E,seval,rdB,ne_eq,implies_true] | simp only [hw] | simp only [hw2] | apply tA | apply tB | apply tC | apply tD | apply tE | apply tF | apply tG | apply tH | apply tI | apply tJ | apply tK | apply And.intro | (intro p0; have hyp:=p0; (try simp only [HB,ne_eq,reduceCtorEq] at hyp); (try simp only [p0]); (try clear p0); try (exfalso; omega; done)) | omega
 ·refine ⟨(P++[m % 128+128],m / 128),⟨by simp only; omega,?_⟩,by simp only; omega,Cos.intro [2] [] rfl ?_⟩
  ·rw [hv,jr8 hm.1 (by omega)]
   simp
  ·rw [show ((m % 128+128).toNat:Int)=m % 128+128 by omega]
   simp only [SB,E,seval,rdB,ne_eq,implies_true]
   simp
 ·exact Cos.row (t:=.int .u8) (L:=varN n.toNat) rfl (by rw [hv,jjR hm.1 (by omega),show m % 256=m by omega]) (by simp) (by simp))
noncomputable def sp_vars:Spec:=spOf (α:=(List Int)) (fun L=>[.vec (.int .i64) L]) fun L=>((∀ x∈L,0≤x∧x < 9223372036854775808)∧L.length≤100000,.ret (.vec (.int .u8) (jcF L)))
theorem jaG (L:List Int):sp_vars [.vec (.int .i64) L]=some ((∀ x∈L,0≤x∧x < 9223372036854775808)∧L.length≤100000,.ret (.vec (.int .u8) (jcF L))):=jar (α:=(List Int)) _ (fun L L' h=>by first | simpa [CP] using h | (simp [CP] at h ⊢; grind)) L
theorem jnM:Fresh Tryz.prog E0 91 sp_vars:=Fresh.of fun L hG=>TF.intro (V:=(VV [(113,conT [.any] sp_var)] (.cons (jaa je1) (Fresh.soundT jr9) GOk.nil) 19 0)) jdx rfl rfl (by
 dsimp only at hG ⊢
 obtain ⟨hL,hl⟩:=hG
 repeat' first | simp only [SB,E,seval,rdB,ne_eq,implies_true,jba] | simp only [hw] | apply tA | apply tB | apply tC | apply tD | apply tE | apply tF | apply tG | apply tH | apply tI | apply tJ | apply tK | apply And.intro | (intro p0; have hyp:=p0; (try simp only [HB,ne_eq,reduceCtorEq] at hyp); (try simp only [p0]); (try clear p0); try (exfalso; omega; done)) | omega
 refine T.loop (fun k:Nat=>⟨[(3,.slice 0 0 1 (jcF (L.take k)).length (jcF (L.take k)).length),(6,.vec (.int .i64) L),(7,.int .i64 L.length),(8,.int .i64 k)],[.seq (.int .u8) (jcF (L.take k))]⟩) (fun k=>k≤L.length) (fun k=>L.length - k) 0 (by omega) (Cos.intro [99] [] rfl (by simp only [SB,E,seval,rdB,ne_eq,implies_true,jba]; simp [jcF,crs,crsL,jcw])) (fun k hk=>?_)
 have hvl:=jjQ (L.take k) fun x hx=>by have:=hL x (List.mem_of_mem_take hx); omega
 rw [List.length_take] at hvl
 by_cases hkl:k < L.length
 ·have hx:=hL _ (List.mem_of_getElem? (jbU (d:=0) hkl))
  have h10:=jbW (L.getD k 0).toNat (by omega)
  have hw:IntKind.u64.wrap (L.getD k 0)=L.getD k 0:=jnf (by omega)
  have hsn:=jpY hkl
  repeat' first | simp only [SB,E,seval,rdB,ne_eq,implies_true,jba] | simp only [hw] | apply tA | apply tB | apply tC | apply tD | apply tE | apply tF | apply tG | apply tH | apply tI | apply tJ | apply tK | apply And.intro | (intro p0; have hyp:=p0; (try simp only [HB,ne_eq,reduceCtorEq] at hyp); (try simp only [p0]); (try clear p0); try (exfalso; omega; done)) | omega
  refine ⟨k+1,by omega,by omega,Cos.intro [2] [] rfl ?_⟩
  rw [hsn]
  (simp only [SB,E,seval,rdB,ne_eq,implies_true,jba]; first | done | ((repeat' apply And.intro) <;> first | rfl | omega | (simp; done) | (simp; omega)))
 ·have e:L.take k=L:=List.take_of_length_le (by omega)
  rw [e]
  repeat' first | simp only [SB,E,seval,rdB,ne_eq,implies_true,jba] | simp only [hw] | refine T.seq ?_ | refine T.stm ?_ | refine T.rg ?_ | refine jac ?_ | refine jad ?_ | refine jae ?_ | refine T.cond ?_ | refine T.skip ?_ | refine T.ret ?_ | refine T.exit ?_ | refine T.block ?_ | refine Cos.intro [0] [] rfl ?_ | refine And.intro ?_ ?_ | (intro p0; have hyp:=p0; (try simp only [HB,ne_eq,reduceCtorEq] at hyp); (try simp only [p0]); (try clear p0); try (exfalso; omega; done)) | omega)
noncomputable def sp_put:Spec:=spOf (α:=Int × (List Int)) (fun ⟨b,L⟩=>[.int .u8 b,.vec (.int .i64) L]) fun ⟨b,L⟩=>((∀ x∈L,0≤x∧x < 9223372036854775808)∧L.length≤100000,.ret (.vec (.int .u8) (b :: jcF L)))
theorem jah (b:Int) (L:List Int):sp_put [.int .u8 b,.vec (.int .i64) L]=some ((∀ x∈L,0≤x∧x < 9223372036854775808)∧L.length≤100000,.ret (.vec (.int .u8) (b :: jcF L))):=jar (α:=Int × (List Int)) _ (fun ⟨b,L⟩ ⟨b',L'⟩ h=>by first | simpa [CP] using h | (simp [CP] at h ⊢; grind)) (b,L)
theorem joX:Fresh Tryz.prog E0 49 sp_put:=Fresh.of fun ⟨b,L⟩ hG=>TF.intro (V:=(VV [(91,conT [.sl (.int .i64)] sp_vars)] (.cons (jaa jdx) (Fresh.soundT jnM) GOk.nil) 10 0)) jdd rfl rfl (by
 dsimp only at hG ⊢
 obtain ⟨hL,hl⟩:=hG
 have hvl:=jjQ L fun x hx=>by have:=hL x hx; omega
 repeat' first | exact hL | simp only [SB,E,seval,rdB,ne_eq,implies_true,jaG] | apply tA | apply tB | apply tC | apply tD | apply tE | apply tF | apply tG | apply tH | apply tI | apply tJ | apply tK | apply And.intro | (intro p0; have hyp:=p0; (try simp only [HB,ne_eq,reduceCtorEq] at hyp); (try simp only [p0]); (try clear p0); try (exfalso; omega; done)) | omega
 exact Cos.intro [2] [] rfl (by (simp only [SB,E,seval,rdB,ne_eq,implies_true,jaG]; first | done | ((repeat' apply And.intro) <;> first | rfl | omega | (simp; done) | (simp; omega)))))
noncomputable def sp_text:Spec:=spOf (α:=(List Int)) (fun L=>[.vec (.int .u8) L]) fun L=>(L.length≤4096,.ret (.tup [.vec (.int .u8) (jh1 L),.int .i64 0]))
theorem jaA (L:List Int):sp_text [.vec (.int .u8) L]=some (L.length≤4096,.ret (.tup [.vec (.int .u8) (jh1 L),.int .i64 0])):=jar (α:=(List Int)) _ (fun L L' h=>by first | simpa [CP] using h | (simp [CP] at h ⊢; grind)) L
theorem jv4:Fresh Tryz.prog E0 83 sp_text:=Fresh.of fun L hG=>TF.intro (V:=(VV [(113,conT [.any] sp_var)] (.cons (jaa je1) (Fresh.soundT jr9) GOk.nil) 13 0)) jgW rfl rfl (by
 dsimp only at hG ⊢
 have hw:IntKind.u64.wrap L.length=L.length:=jnf (by omega)
 have h10:=jbW L.length (by omega)
 repeat' first | simp only [SB,E,seval,rdB,ne_eq,implies_true,jba] | simp only [hw] | apply tA | apply tB | apply tC | apply tD | apply tE | apply tF | apply tG | apply tH | apply tI | apply tJ | apply tK | apply And.intro | (intro p0; have hyp:=p0; (try simp only [HB,ne_eq,reduceCtorEq] at hyp); (try simp only [p0]); (try clear p0); try (exfalso; omega; done)) | omega
 refine Cos.intro [1] [] rfl ?_
 simp only [jh1]
 (simp only [SB,E,seval,rdB,ne_eq,implies_true,jba]; first | done | ((repeat' apply And.intro) <;> first | rfl | omega | (simp; done) | (simp; omega))))
end
end Go.Proofs.YtcfkfgkndncanaaGreatDoor
