/- Texts of this claim, merged by a program of this claim: FLinks2. -/
import Derived.Test.YtcfkfgkndncanaaGreatDoorMt27
namespace Go.Proofs.YtcfkfgkndncanaaGreatDoor
set_option linter.unusedVariables false
set_option linter.unusedSimpArgs false
section
open Go.RowKit
set_option maxRecDepth 100000
set_option maxHeartbeats 4000000
theorem jxn {α:Type} {A L:List α} {k:Nat} {a:α} (hA:A.length=k) (h:k < L.length):(A++L.drop k).set k a=A++[a]++L.drop (k+1):=by
 rw [List.set_append_right _ _ (by omega),hA,Nat.sub_self,List.drop_eq_getElem_cons h,List.set_cons_zero]
 simp
theorem jp4 {α:Type} {A L:List α} {k:Nat} {d:α} (hA:A.length=k):(A++L.drop k).getD k d=L.getD k d:=by
 rw [List.getD_eq_getElem?_getD,List.getD_eq_getElem?_getD,List.getElem?_append_right (by omega),hA,Nat.sub_self,List.getElem?_drop,Nat.add_zero]
theorem jkZ {l:List ByteArray} {v:Int} (h:¬v < 1∧¬(l.length:Int) < v) (hb:jcK (l.getD (v - 1).toNat ETy.str.dflt)=true):ja3 l v=l.getD (v - 1).toNat ETy.str.dflt:=jmR (by omega) hb
theorem jmS:∀ (m:List ByteArray) (s:ByteArray),jaU m s < m.length∨jaU m s < 0
 | [],s=>Or.inr (by simp [jaU])
 | x :: m,s=>by
  have:=jmS m s
  simp only [jaU]
  split
  ·simp
  ·simp only [List.length_cons]
   split <;> omega
noncomputable def sp_lcanon:Spec:=spOf (α:=(List CD) × (List ByteArray)) (fun ⟨L,l⟩=>[.vec .cell L,.vec .str l]) fun ⟨L,l⟩=>(L.length≤60000∧l.length≤60000∧(∀ s∈l,SLen s)∧(∀ c∈L,0≤c.link∧c.link < 65536),.ret (.tup [.vec .cell (L.map (jbf l (jaj l L))),.vec .str (jaj l L)]))
theorem jip (L:List CD) (l:List ByteArray):sp_lcanon [.vec .cell L,.vec .str l]=some (L.length≤60000∧l.length≤60000∧(∀ s∈l,SLen s)∧(∀ c∈L,0≤c.link∧c.link < 65536),.ret (.tup [.vec .cell (L.map (jbf l (jaj l L))),.vec .str (jaj l L)])):=jar (α:=(List CD) × (List ByteArray)) _ (fun ⟨L,l⟩ ⟨L',l'⟩ h=>by first | simpa [CP] using h | (simp [CP] at h ⊢; grind)) (L,l)
theorem jsm:Fresh Tryz.prog E0 122 sp_lcanon:=Fresh.of fun ⟨L,l⟩ hG=>TF.intro (V:=(VV [(24,conT [.sl .cell] sp_clone),(99,conF [.any] sp_lmay),(114,conF [.sl .str,.any] sp_sindex)] (.cons (jaa ja8) (Fresh.soundT jgc) (.cons (jaa jee) (Fresh.soundF jnN) (.cons (jaa jby) (Fresh.soundF jjX) GOk.nil))) 77 0)) jft rfl rfl (by
 dsimp only at hG ⊢
 obtain ⟨hL,hl,hs,hc⟩:=hG
 repeat' first | simp only [SB,E,seval,rdB,ne_eq,implies_true,jai,jaV,jbb,List.drop_replicate,List.set_set] | simp only [hw] | simp only [hw2] | simp only [hw3] | simp only [hw4] | refine T.seq ?_ | refine T.stm ?_ | refine T.rg ?_ | refine jac ?_ | refine jad ?_ | refine jae ?_ | refine T.cond ?_ | refine T.skip ?_ | refine T.ret ?_ | refine T.exit ?_ | refine T.block ?_ | refine Cos.intro [] [] rfl ?_ | refine And.intro ?_ ?_ | (intro p0; have hyp:=p0; (try simp only [HB,ne_eq,reduceCtorEq] at hyp); (try simp only [p0]); (try clear p0); try (exfalso; omega; done)) | omega
 refine T.loop (fun k:Nat=>⟨[(1,.vec .str l),(6,.slice 0 0 6 L.length L.length),(7,.slice 1 0 1 (jaj l (L.take k)).length (jaj l (L.take k)).length),(14,.int .i64 L.length),(15,.int .i64 k)],[.seq .cell ((L.take k).map (jbf l (jaj l L))++L.drop k),.seq .str (jaj l (L.take k))]⟩) (fun k=>k≤L.length) (fun k=>L.length - k) 0 (by omega) (Cos.intro [0,99] [] rfl (by simp only [SB,E,seval,rdB,ne_eq,implies_true,jai,jaV,jbb,List.drop_replicate,List.set_set]; simp [jaj,crs,crsL,jcw])) (fun k hk=>?_)
 have hlen:(jaj l (L.take k)).length≤60000:=by
  have:=jhY l (L.take k)
  rw [List.length_take] at this
  omega
 have hml:((L.take k).map (jbf l (jaj l L))).length=k:=by simp; omega
 have hal:((L.take k).map (jbf l (jaj l L))++L.drop k).length=L.length:=by simp; omega
 by_cases hkl:k < L.length
 ·have hck:=hc _ (jcG hkl)
  have hw:((L.take k).map (jbf l (jaj l L))++L.drop k).getD k default=L.getD k default:=jp4 hml
  have hw2:∀ a:CD,(((L.take k).map (jbf l (jaj l L))++L.drop k).set k a).getD k default=a:=fun a=>jfu (by omega)
  have hts:((L.take k).map (jbf l (jaj l L))++L.drop k).set k (jbf l (jaj l L) (L.getD k default))=(L.take (k+1)).map (jbf l (jaj l L))++L.drop (k+1):=by
   rw [ja7 (jc2 hkl),List.map_append,jxn hml hkl]
   rfl
  have hx:k < ((L.take k).map (jbf l (jaj l L))).length+(L.drop k).length:=by simp; omega
  have hw3:IntKind.u16.wrap (((jaj l (L.take k)).length:Int)+1)=((jaj l (L.take k)).length:Int)+1:=jne (by omega)
  have hw4:∀ s,IntKind.u16.wrap (jaU (jaj l (L.take k)) s+1)=jaU (jaj l (L.take k)) s+1:=fun s=>jne (by have:=jdz (jaj l (L.take k)) s; omega)
  have hpl:∀ s,jaU (jaj l (L.take k)) s < (jaj l (L.take k)).length∨jaU (jaj l (L.take k)) s < 0:=fun s=>jmS _ s
  repeat' first | exact hs _ (jhv (by omega)) | exact hx | (have:=hpl (l.getD ((L.getD k default).link - 1).toNat ETy.str.dflt); omega) | simp only [SB,E,seval,rdB,ne_eq,implies_true,jai,jaV,jbb,List.drop_replicate,List.set_set] | simp only [hw] | simp only [hw2] | simp only [hw3] | simp only [hw4] | refine T.seq ?_ | refine T.stm ?_ | refine T.rg ?_ | refine jac ?_ | refine jad ?_ | refine jae ?_ | refine T.cond ?_ | refine T.skip ?_ | refine T.ret ?_ | refine T.exit ?_ | refine T.block ?_ | refine Cos.intro [] [] rfl ?_ | refine And.intro ?_ ?_ | (intro p0; have hyp:=p0; (try simp only [HB,ne_eq,reduceCtorEq] at hyp); (try simp only [p0]); (try clear p0); try (exfalso; omega; done)) | omega
  ·have hb:ja3 l (L.getD k default).link=emptyS:=(jlY (hyp.imp (fun h=>by omega) id)).trans jiN
   obtain ⟨h1,h2⟩:=jpP (jc2 hkl) hb
   refine ⟨k+1,by omega,by omega,Cos.intro [0,1] [] rfl ?_⟩
   rw [h2] at hts
   rw [h1,← hts]
   (simp only [SB,E,seval,rdB,ne_eq,implies_true,jai,jaV,jbb,List.drop_replicate,List.set_set]; first | done | ((repeat' apply And.intro) <;> first | rfl | omega | (simp; done) | (simp; omega)))
  ·rename_i hh
   have hb:=jkZ hh.1 hh.2
   obtain ⟨h1,h2⟩:=jrE (jc2 hkl) hb (jiJ hh.2) hyp
   refine ⟨k+1,by omega,by omega,Cos.intro [0,3] [] rfl ?_⟩
   rw [h2] at hts
   rw [h1,← hts]
   (simp only [SB,E,seval,rdB,ne_eq,implies_true,jai,jaV,jbb,List.drop_replicate,List.set_set]; first | done | ((repeat' apply And.intro) <;> first | rfl | omega | (simp; done) | (simp; omega)))
  ·rename_i hh
   have hb:=jkZ hh.1 hh.2
   obtain ⟨h1,h2⟩:=jrD (jc2 hkl) hb (jiJ hh.2) hyp
   refine ⟨k+1,by omega,by omega,Cos.intro [0,1] [] rfl ?_⟩
   rw [h2] at hts
   rw [h1,← hts]
   (simp only [SB,E,seval,rdB,ne_eq,implies_true,jai,jaV,jbb,List.drop_replicate,List.set_set]; first | done | ((repeat' apply And.intro) <;> first | rfl | omega | (simp; done) | (simp; omega)))
 ·have e:L.take k=L:=List.take_of_length_le (by omega)
  have e2:L.drop k=[]:=List.drop_eq_nil_of_le (by omega)
  rw [e,e2,List.append_nil]
  have hlm:(L.map (jbf l (jaj l L))).length=L.length:=by simp
  repeat' first | simp only [SB,E,seval,rdB,ne_eq,implies_true,jai,jaV,jbb,List.drop_replicate,List.set_set] | simp only [hw] | simp only [hw2] | simp only [hw3] | simp only [hw4] | refine T.seq ?_ | refine T.stm ?_ | refine T.rg ?_ | refine jac ?_ | refine jad ?_ | refine jae ?_ | refine T.cond ?_ | refine T.skip ?_ | refine T.ret ?_ | refine T.exit ?_ | refine T.block ?_ | refine Cos.intro [0,1] [] rfl ?_ | refine And.intro ?_ ?_ | (intro p0; have hyp:=p0; (try simp only [HB,ne_eq,reduceCtorEq] at hyp); (try simp only [p0]); (try clear p0); try (exfalso; omega; done)) | omega
  all_goals trace_state)
end
end Go.Proofs.YtcfkfgkndncanaaGreatDoor
