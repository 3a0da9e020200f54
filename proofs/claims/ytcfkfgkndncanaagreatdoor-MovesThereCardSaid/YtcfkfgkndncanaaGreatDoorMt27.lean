/- Texts of this claim, merged by a program of this claim: FLinks. -/
import Derived.Test.YtcfkfgkndncanaaGreatDoorMt13
import Derived.Test.YtcfkfgkndncanaaGreatDoorMt18
import Derived.Test.YtcfkfgkndncanaaGreatDoorMt19
namespace Go.Proofs.YtcfkfgkndncanaaGreatDoor
set_option linter.unusedVariables false
set_option linter.unusedSimpArgs false
section
open Go.RowKit
set_option maxRecDepth 100000
set_option maxHeartbeats 4000000
theorem jkY (s:ByteArray) (i:Nat):(jao s).getD i 0=((s.data.toList.getD i 0).toNat:Int):=by
 simp only [jao,List.getD_eq_getElem?_getD,List.getElem?_map]
 cases s.data.toList[i]? <;> rfl
def chrB (s:ByteArray) (i:Nat):Bool:=decide (33≤(s.data.toList.getD i 0).toNat) && decide ((s.data.toList.getD i 0).toNat≤126)
theorem jf0 (s:ByteArray):jcK s=(decide (1≤s.size) && decide (s.size≤64) && (List.range s.size).all (chrB s)):=rfl
abbrev SLen (s:ByteArray):Prop:=s.size≤9223372036854775807
noncomputable def sp_lmay:Spec:=spOf (α:=ByteArray) (fun s=>[.str s]) fun s=>(SLen s,.ret (.bool (jcK s)))
theorem jaV (s:ByteArray):sp_lmay [.str s]=some (SLen s,.ret (.bool (jcK s))):=jar (α:=ByteArray) _ (fun s s' h=>by first | simpa [CP] using h | (simp [CP] at h ⊢; grind)) s
theorem jv5:Alias Tryz.prog E0 99 sp_lmay:=Alias.of fun s hG=>TF.intro (V:=(VV [] GOk.nil 28 0)) jee rfl rfl (by
 dsimp only at hG ⊢
 repeat' first | simp only [SB,E,seval,rdB,ne_eq,implies_true,List.drop_replicate,List.set_set] | simp only [hw] | apply tA | apply tB | apply tC | apply tD | apply tE | apply tF | apply tG | apply tH | apply tI | apply tJ | apply tK | apply And.intro | (intro p0; have hyp:=p0; (try simp only [HB,ne_eq,reduceCtorEq] at hyp); (try simp only [p0]); (try clear p0); try (exfalso; omega; done)) | omega
 refine T.loop (fun k:Nat=>⟨[(0,.str s),(5,.int .i64 s.size),(6,.int .i64 k)],[]⟩) (fun k=>k≤s.size∧∀ j,j < k→chrB s j=true) (fun k=>s.size - k) 0 ⟨by omega,fun j hj=>by omega⟩ (Cos.intro [] [] rfl (by (simp only [SB,E,seval,rdB,ne_eq,implies_true,List.drop_replicate,List.set_set]); first | done | (repeat' apply And.intro) <;> first | rfl | omega | simp)) (fun k ⟨hk,hall⟩=>?_)
 have hw:=jkY s k
 repeat' first | simp only [SB,E,seval,rdB,ne_eq,implies_true,List.drop_replicate,List.set_set] | simp only [hw] | refine T.seq ?_ | refine T.stm ?_ | refine T.rg ?_ | refine jac ?_ | refine jad ?_ | refine jae ?_ | refine T.cond ?_ | refine T.skip ?_ | refine T.ret ?_ | refine T.exit ?_ | refine T.block ?_ | refine Cos.intro [] [] rfl ?_ | refine And.intro ?_ ?_ | (intro p0; have hyp:=p0; (try simp only [HB,ne_eq,reduceCtorEq] at hyp); (try simp only [p0]); (try clear p0); try (exfalso; omega; done)) | omega
 ·rw [jf0,jbQ (by omega:k < s.size) (by simp only [chrB,HB,ne_eq,reduceCtorEq]; omega),Bool.and_false]
 ·exact ⟨k+1,⟨by omega,jeb (by simp only [chrB,HB,ne_eq,reduceCtorEq]; omega) hall⟩,by omega,(Cos.intro [] [] rfl (by (simp only [SB,E,seval,rdB,ne_eq,implies_true,List.drop_replicate,List.set_set]); first | done | (repeat' apply And.intro) <;> first | rfl | omega | simp))⟩
 ·rw [jf0,jcX (n:=s.size) (k:=k) (by omega) hall,Bool.and_true]
  rw [← Bool.decide_and,← Bool.decide_and]
  exact decide_eq_decide.2 (by omega))
theorem jnN:Fresh Tryz.prog E0 99 sp_lmay:=Alias.fresh jv5 (fun x=>rfl)
noncomputable def sp_rlmay:Spec:=spOf (α:=ByteArray) (fun s=>[.str s]) fun s=>(SLen s,.ret (.bool (jcK s)))
theorem jjW (s:ByteArray):sp_rlmay [.str s]=some (SLen s,.ret (.bool (jcK s))):=jar (α:=ByteArray) _ (fun s s' h=>by first | simpa [CP] using h | (simp [CP] at h ⊢; grind)) s
theorem jt5:Alias Tryz.prog E0 70 sp_rlmay:=Alias.of fun s hG=>TF.intro (V:=(VV [] GOk.nil 28 0)) jmM rfl rfl (by
 dsimp only at hG ⊢
 repeat' first | simp only [SB,E,seval,rdB,ne_eq,implies_true,List.drop_replicate,List.set_set] | simp only [hw] | refine T.seq ?_ | refine T.stm ?_ | refine T.rg ?_ | refine jac ?_ | refine jad ?_ | refine jae ?_ | refine T.cond ?_ | refine T.skip ?_ | refine T.ret ?_ | refine T.exit ?_ | refine T.block ?_ | refine Cos.intro [] [] rfl ?_ | refine And.intro ?_ ?_ | (intro p0; have hyp:=p0; (try simp only [HB,ne_eq,reduceCtorEq] at hyp); (try simp only [p0]); (try clear p0); try (exfalso; omega; done)) | omega
 ·rw [jf0,← Bool.decide_and,decide_eq_false (by omega),Bool.false_and]
 refine T.loop (fun k:Nat=>⟨[(0,.str s),(3,.int .i64 k)],[]⟩) (fun k=>k≤s.size∧∀ j,j < k→chrB s j=true) (fun k=>s.size - k) 0 ⟨by omega,fun j hj=>by omega⟩ (Cos.intro [] [] rfl (by (simp only [SB,E,seval,rdB,ne_eq,implies_true,List.drop_replicate,List.set_set]); first | done | (repeat' apply And.intro) <;> first | rfl | omega | simp)) (fun k ⟨hk,hall⟩=>?_)
 have hw:=jkY s k
 repeat' first | simp only [SB,E,seval,rdB,ne_eq,implies_true,List.drop_replicate,List.set_set] | simp only [hw] | refine T.seq ?_ | refine T.stm ?_ | refine T.rg ?_ | refine jac ?_ | refine jad ?_ | refine jae ?_ | refine T.cond ?_ | refine T.skip ?_ | refine T.ret ?_ | refine T.exit ?_ | refine T.block ?_ | refine Cos.intro [] [] rfl ?_ | refine And.intro ?_ ?_ | (intro p0; have hyp:=p0; (try simp only [HB,ne_eq,reduceCtorEq] at hyp); (try simp only [p0]); (try clear p0); try (exfalso; omega; done)) | omega
 ·rw [jf0,jbQ (by omega:k < s.size) (by simp only [chrB,HB,ne_eq,reduceCtorEq]; omega),Bool.and_false]
 ·exact ⟨k+1,⟨by omega,jeb (by simp only [chrB,HB,ne_eq,reduceCtorEq]; omega) hall⟩,by omega,(Cos.intro [] [] rfl (by (simp only [SB,E,seval,rdB,ne_eq,implies_true,List.drop_replicate,List.set_set]); first | done | (repeat' apply And.intro) <;> first | rfl | omega | simp))⟩
 ·rw [jf0,jcX (n:=s.size) (k:=k) (by omega) hall,Bool.and_true,← Bool.decide_and,decide_eq_true (by omega)])
theorem jt6:Fresh Tryz.prog E0 70 sp_rlmay:=Alias.fresh jt5 (fun x=>rfl)
noncomputable def sp_sindex:Spec:=spOf (α:=(List ByteArray) × ByteArray) (fun ⟨l,s⟩=>[.vec .str l,.str s]) fun ⟨l,s⟩=>(l.length≤4611686018427387904,.ret (.int .i64 (jaU l s)))
theorem jbb (l:List ByteArray) (s:ByteArray):sp_sindex [.vec .str l,.str s]=some (l.length≤4611686018427387904,.ret (.int .i64 (jaU l s))):=jar (α:=(List ByteArray) × ByteArray) _ (fun ⟨l,s⟩ ⟨l',s'⟩ h=>by first | simpa [CP] using h | (simp [CP] at h ⊢; grind)) (l,s)
theorem jsa:Alias Tryz.prog E0 114 sp_sindex:=Alias.of fun ⟨l,s⟩ hG=>TF.intro (V:=(VV [] GOk.nil 19 0)) jby rfl rfl (by
 dsimp only at hG ⊢
 repeat' first | simp only [SB,E,seval,rdB,ne_eq,implies_true,List.drop_replicate,List.set_set] | apply tA | apply tB | apply tC | apply tD | apply tE | apply tF | apply tG | apply tH | apply tI | apply tJ | apply tK | apply And.intro | (intro p0; have hyp:=p0; (try simp only [HB,ne_eq,reduceCtorEq] at hyp); (try simp only [p0]); (try clear p0); try (exfalso; omega; done)) | omega
 refine T.loop (fun k:Nat=>⟨[(0,.vec .str l),(1,.str s),(7,.int .i64 l.length),(8,.int .i64 k)],[]⟩) (fun k=>k≤l.length∧∀ (j:Nat) (x:ByteArray),j < k→l[j]?=some x→jgS x s=false) (fun k=>l.length - k) 0 ⟨by omega,fun j x hj=>by omega⟩ (Cos.intro [] [] rfl (by (simp only [SB,E,seval,rdB,ne_eq,implies_true,List.drop_replicate,List.set_set]); first | done | (repeat' apply And.intro) <;> first | rfl | omega | simp)) (fun k ⟨hk,hall⟩=>?_)
 repeat' first | simp only [SB,E,seval,rdB,ne_eq,implies_true,List.drop_replicate,List.set_set] | refine T.seq ?_ | refine T.stm ?_ | refine T.rg ?_ | refine jac ?_ | refine jad ?_ | refine jae ?_ | refine T.cond ?_ | refine T.skip ?_ | refine T.ret ?_ | refine T.exit ?_ | refine T.block ?_ | refine Cos.intro [] [] rfl ?_ | refine And.intro ?_ ?_ | (intro p0; have hyp:=p0; (try simp only [HB,ne_eq,reduceCtorEq] at hyp); (try simp only [p0]); (try clear p0); try (exfalso; omega; done)) | omega
 ·exact (jeU l s k hall _ (jbU (d:=ETy.str.dflt) (by omega)) (jcE.2 (hyp.symm))).symm
 ·refine ⟨k+1,⟨by omega,fun j x hj hx=>?_⟩,by omega,(Cos.intro [] [] rfl (by (simp only [SB,E,seval,rdB,ne_eq,implies_true,List.drop_replicate,List.set_set]); first | done | (repeat' apply And.intro) <;> first | rfl | omega | simp))⟩
  by_cases e:j=k
  ·subst e
   rw [jbU (d:=ETy.str.dflt) (by omega)] at hx
   cases hx
   exact jec.2 (fun q=>hyp (q.symm))
  ·exact hall j x (by omega) hx
 ·exact (jjA l s (fun j x hx=>hall j x (by have:=(List.getElem?_eq_some_iff.1 hx).1; omega) hx)).symm)
theorem jjX:Fresh Tryz.prog E0 114 sp_sindex:=Alias.fresh jsa (fun x=>rfl)
noncomputable def sp_rplace:Spec:=spOf (α:=(List ByteArray) × ByteArray) (fun ⟨l,s⟩=>[.vec .str l,.str s]) fun ⟨l,s⟩=>(l.length≤4611686018427387904,.ret (.int .i64 (jaU l s)))
theorem jbs (l:List ByteArray) (s:ByteArray):sp_rplace [.vec .str l,.str s]=some (l.length≤4611686018427387904,.ret (.int .i64 (jaU l s))):=jar (α:=(List ByteArray) × ByteArray) _ (fun ⟨l,s⟩ ⟨l',s'⟩ h=>by first | simpa [CP] using h | (simp [CP] at h ⊢; grind)) (l,s)
theorem jsb:Alias Tryz.prog E0 109 sp_rplace:=Alias.of fun ⟨l,s⟩ hG=>TF.intro (V:=(VV [] GOk.nil 19 0)) jjS rfl rfl (by
 dsimp only at hG ⊢
 repeat' first | simp only [SB,E,seval,rdB,ne_eq,implies_true,List.drop_replicate,List.set_set] | apply tA | apply tB | apply tC | apply tD | apply tE | apply tF | apply tG | apply tH | apply tI | apply tJ | apply tK | apply And.intro | (intro p0; have hyp:=p0; (try simp only [HB,ne_eq,reduceCtorEq] at hyp); (try simp only [p0]); (try clear p0); try (exfalso; omega; done)) | omega
 refine T.loop (fun k:Nat=>⟨[(0,.vec .str l),(1,.str s),(5,.int .i64 k)],[]⟩) (fun k=>k≤l.length∧∀ (j:Nat) (x:ByteArray),j < k→l[j]?=some x→jgS x s=false) (fun k=>l.length - k) 0 ⟨by omega,fun j x hj=>by omega⟩ (Cos.intro [] [] rfl (by (simp only [SB,E,seval,rdB,ne_eq,implies_true,List.drop_replicate,List.set_set]); first | done | (repeat' apply And.intro) <;> first | rfl | omega | simp)) (fun k ⟨hk,hall⟩=>?_)
 repeat' first | simp only [SB,E,seval,rdB,ne_eq,implies_true,List.drop_replicate,List.set_set] | refine T.seq ?_ | refine T.stm ?_ | refine T.rg ?_ | refine jac ?_ | refine jad ?_ | refine jae ?_ | refine T.cond ?_ | refine T.skip ?_ | refine T.ret ?_ | refine T.exit ?_ | refine T.block ?_ | refine Cos.intro [] [] rfl ?_ | refine And.intro ?_ ?_ | (intro p0; have hyp:=p0; (try simp only [HB,ne_eq,reduceCtorEq] at hyp); (try simp only [p0]); (try clear p0); try (exfalso; omega; done)) | omega
 ·exact (jeU l s k hall _ (jbU (d:=ETy.str.dflt) (by omega)) (jcE.2 (hyp))).symm
 ·refine ⟨k+1,⟨by omega,fun j x hj hx=>?_⟩,by omega,(Cos.intro [] [] rfl (by (simp only [SB,E,seval,rdB,ne_eq,implies_true,List.drop_replicate,List.set_set]); first | done | (repeat' apply And.intro) <;> first | rfl | omega | simp))⟩
  by_cases e:j=k
  ·subst e
   rw [jbU (d:=ETy.str.dflt) (by omega)] at hx
   cases hx
   exact jec.2 (fun q=>hyp (q))
  ·exact hall j x (by omega) hx
 ·exact (jjA l s (fun j x hx=>hall j x (by have:=(List.getElem?_eq_some_iff.1 hx).1; omega) hx)).symm)
theorem jsc:Fresh Tryz.prog E0 109 sp_rplace:=Alias.fresh jsb (fun x=>rfl)
noncomputable def sp_scontains:Spec:=spOf (α:=(List ByteArray) × ByteArray) (fun ⟨l,s⟩=>[.vec .str l,.str s]) fun ⟨l,s⟩=>(l.length≤4611686018427387904,.ret (.bool (decide (0≤jaU l s))))
theorem jbn (l:List ByteArray) (s:ByteArray):sp_scontains [.vec .str l,.str s]=some (l.length≤4611686018427387904,.ret (.bool (decide (0≤jaU l s)))):=jar (α:=(List ByteArray) × ByteArray) _ (fun ⟨l,s⟩ ⟨l',s'⟩ h=>by first | simpa [CP] using h | (simp [CP] at h ⊢; grind)) (l,s)
theorem jmN:Alias Tryz.prog E0 100 sp_scontains:=Alias.of fun ⟨l,s⟩ hG=>TF.intro (V:=(VV [(114,conF [.sl .str,.any] sp_sindex)] (.cons (jaa jby) (Fresh.soundF jjX) GOk.nil) 9 0)) jbZ rfl rfl (by
 dsimp only at hG ⊢
 repeat' first | simp only [SB,E,seval,rdB,ne_eq,implies_true,jbb,List.drop_replicate,List.set_set] | refine T.seq ?_ | refine T.stm ?_ | refine T.rg ?_ | refine jac ?_ | refine jad ?_ | refine jae ?_ | refine T.cond ?_ | refine T.skip ?_ | refine T.ret ?_ | refine T.exit ?_ | refine T.block ?_ | refine Cos.intro [] [] rfl ?_ | refine And.intro ?_ ?_ | (intro p0; have hyp:=p0; (try simp only [HB,ne_eq,reduceCtorEq] at hyp); (try simp only [p0]); (try clear p0); try (exfalso; omega; done)) | omega)
theorem jmO:Fresh Tryz.prog E0 100 sp_scontains:=Alias.fresh jmN (fun x=>rfl)
noncomputable def sp_sclone:Spec:=spOf (α:=(List ByteArray)) (fun L=>[.vec .str L]) fun L=>(L.length≤1000000,.ret (.vec .str L))
theorem jaQ (L:List ByteArray):sp_sclone [.vec .str L]=some (L.length≤1000000,.ret (.vec .str L)):=jar (α:=(List ByteArray)) _ (fun L L' h=>by first | simpa [CP] using h | (simp [CP] at h ⊢; grind)) L
theorem jmP:Fresh Tryz.prog E0 25 sp_sclone:=Fresh.of fun L hG=>TF.intro (V:=(VV [] GOk.nil 8 0)) jcp rfl rfl (by
 dsimp only at hG ⊢
 repeat' first | simp only [SB,E,seval,rdB,ne_eq,implies_true,List.drop_replicate,List.set_set] | refine T.seq ?_ | refine T.stm ?_ | refine T.rg ?_ | refine jac ?_ | refine jad ?_ | refine jae ?_ | refine T.cond ?_ | refine T.skip ?_ | refine T.ret ?_ | refine T.exit ?_ | refine T.block ?_ | refine Cos.row (t:=.str) rfl ?_ rfl (Nat.le_refl _) | exact Cos.nilRow (t:=.str) (by cases L <;> simp_all) | refine And.intro ?_ ?_ | (intro p0; have hyp:=p0; (try simp only [HB,ne_eq,reduceCtorEq] at hyp); (try simp only [p0]); (try clear p0); try (exfalso; omega; done)) | omega)
noncomputable def sp_rssame:Spec:=spOf (α:=(List ByteArray) × (List ByteArray)) (fun ⟨L,M⟩=>[.vec .str L,.vec .str M]) fun ⟨L,M⟩=>(L.length≤4611686018427387904∧M.length≤4611686018427387904,.ret (.bool (decide (L=M))))
theorem jcO (L:List ByteArray) (M:List ByteArray):sp_rssame [.vec .str L,.vec .str M]=some (L.length≤4611686018427387904∧M.length≤4611686018427387904,.ret (.bool (decide (L=M)))):=jar (α:=(List ByteArray) × (List ByteArray)) _ (fun ⟨L,M⟩ ⟨L',M'⟩ h=>by first | simpa [CP] using h | (simp [CP] at h ⊢; grind)) (L,M)
theorem jsd:Alias Tryz.prog E0 40 sp_rssame:=Alias.of fun ⟨L,M⟩ hG=>TF.intro (V:=(VV [] GOk.nil 26 0)) jh4 rfl rfl (by
 dsimp only at hG ⊢
 repeat' first | simp only [SB,E,seval,rdB,ne_eq,implies_true,List.drop_replicate,List.set_set] | refine T.seq ?_ | refine T.stm ?_ | refine T.rg ?_ | refine jac ?_ | refine jad ?_ | refine jae ?_ | refine T.cond ?_ | refine T.skip ?_ | refine T.ret ?_ | refine T.exit ?_ | refine T.block ?_ | refine Cos.intro [] [] rfl ?_ | refine And.intro ?_ ?_ | (intro p0; have hyp:=p0; (try simp only [HB,ne_eq,reduceCtorEq] at hyp); (try simp only [p0]); (try clear p0); try (exfalso; omega; done)) | omega
 ·exact (decide_eq_false fun e=>by subst e; omega).symm
 ·refine T.loop (fun k:Nat=>⟨[(0,.vec .str L),(1,.vec .str M),(12,.int .i64 L.length),(13,.int .i64 k)],[]⟩) (fun k=>k≤L.length∧∀ j,j < k→L[j]?=M[j]?) (fun k=>L.length - k) 0 ⟨by omega,fun j hj=>by omega⟩ (Cos.intro [] [] rfl (by (simp only [SB,E,seval,rdB,ne_eq,implies_true,List.drop_replicate,List.set_set]); first | done | (repeat' apply And.intro) <;> first | rfl | omega | simp)) (fun k ⟨hk,hall⟩=>?_)
  repeat' first | simp only [SB,E,seval,rdB,ne_eq,implies_true,List.drop_replicate,List.set_set] | refine T.seq ?_ | refine T.stm ?_ | refine T.rg ?_ | refine jac ?_ | refine jad ?_ | refine jae ?_ | refine T.cond ?_ | refine T.skip ?_ | refine T.ret ?_ | refine T.exit ?_ | refine T.block ?_ | refine Cos.intro [] [] rfl ?_ | exact ⟨k+1,⟨by omega,jfP (by omega) (by omega) hyp hall⟩,by omega,(Cos.intro [] [] rfl (by (simp only [SB,E,seval,rdB,ne_eq,implies_true,List.drop_replicate,List.set_set]); first | done | (repeat' apply And.intro) <;> first | rfl | omega | simp))⟩ | refine And.intro ?_ ?_ | (intro p0; have hyp:=p0; (try simp only [HB,ne_eq,reduceCtorEq] at hyp); (try simp only [p0]); (try clear p0); try (exfalso; omega; done)) | omega
  ·exact (decide_eq_false fun e=>by subst e; exact hyp rfl).symm
  ·exact (decide_eq_true (jhi (by omega) (by omega) hall)).symm)
theorem jmQ:Fresh Tryz.prog E0 40 sp_rssame:=Alias.fresh jsd (fun x=>rfl)
noncomputable def sp_sequal:Spec:=spOf (α:=(List ByteArray) × (List ByteArray)) (fun ⟨L,M⟩=>[.vec .str L,.vec .str M]) fun ⟨L,M⟩=>(L.length≤4611686018427387904∧M.length≤4611686018427387904,.ret (.bool (decide (L=M))))
theorem jan (L:List ByteArray) (M:List ByteArray):sp_sequal [.vec .str L,.vec .str M]=some (L.length≤4611686018427387904∧M.length≤4611686018427387904,.ret (.bool (decide (L=M)))):=jar (α:=(List ByteArray) × (List ByteArray)) _ (fun ⟨L,M⟩ ⟨L',M'⟩ h=>by first | simpa [CP] using h | (simp [CP] at h ⊢; grind)) (L,M)
theorem jse:Alias Tryz.prog E0 84 sp_sequal:=Alias.of fun ⟨L,M⟩ hG=>TF.intro (V:=(VV [] GOk.nil 26 0)) jco rfl rfl (by
 dsimp only at hG ⊢
 repeat' first | simp only [SB,E,seval,rdB,ne_eq,implies_true,List.drop_replicate,List.set_set] | refine T.seq ?_ | refine T.stm ?_ | refine T.rg ?_ | refine jac ?_ | refine jad ?_ | refine jae ?_ | refine T.cond ?_ | refine T.skip ?_ | refine T.ret ?_ | refine T.exit ?_ | refine T.block ?_ | refine Cos.intro [] [] rfl ?_ | refine And.intro ?_ ?_ | (intro p0; have hyp:=p0; (try simp only [HB,ne_eq,reduceCtorEq] at hyp); (try simp only [p0]); (try clear p0); try (exfalso; omega; done)) | omega
 ·exact (decide_eq_false fun e=>by subst e; omega).symm
 ·refine T.loop (fun k:Nat=>⟨[(0,.vec .str L),(1,.vec .str M),(12,.int .i64 L.length),(13,.int .i64 k)],[]⟩) (fun k=>k≤L.length∧∀ j,j < k→L[j]?=M[j]?) (fun k=>L.length - k) 0 ⟨by omega,fun j hj=>by omega⟩ (Cos.intro [] [] rfl (by (simp only [SB,E,seval,rdB,ne_eq,implies_true,List.drop_replicate,List.set_set]); first | done | (repeat' apply And.intro) <;> first | rfl | omega | simp)) (fun k ⟨hk,hall⟩=>?_)
  repeat' first | simp only [SB,E,seval,rdB,ne_eq,implies_true,List.drop_replicate,List.set_set] | refine T.seq ?_ | refine T.stm ?_ | refine T.rg ?_ | refine jac ?_ | refine jad ?_ | refine jae ?_ | refine T.cond ?_ | refine T.skip ?_ | refine T.ret ?_ | refine T.exit ?_ | refine T.block ?_ | refine Cos.intro [] [] rfl ?_ | exact ⟨k+1,⟨by omega,jfP (by omega) (by omega) hyp hall⟩,by omega,(Cos.intro [] [] rfl (by (simp only [SB,E,seval,rdB,ne_eq,implies_true,List.drop_replicate,List.set_set]); first | done | (repeat' apply And.intro) <;> first | rfl | omega | simp))⟩ | refine And.intro ?_ ?_ | (intro p0; have hyp:=p0; (try simp only [HB,ne_eq,reduceCtorEq] at hyp); (try simp only [p0]); (try clear p0); try (exfalso; omega; done)) | omega
  ·exact (decide_eq_false fun e=>by subst e; exact hyp rfl).symm
  ·exact (decide_eq_true (jhi (by omega) (by omega) hall)).symm)
theorem jsf:Fresh Tryz.prog E0 84 sp_sequal:=Alias.fresh jse (fun x=>rfl)
theorem jhv {l:List ByteArray} {i:Nat} (h:i < l.length):l.getD i ETy.str.dflt∈l:=List.mem_of_getElem? (jbU h)
theorem jmR {l:List ByteArray} {v:Int} (h:¬v=0∧¬(l.length:Int) < v) (hb:jcK (l.getD (v - 1).toNat ETy.str.dflt)=true):ja3 l v=l.getD (v - 1).toNat ETy.str.dflt:=by
 unfold ja3
 rw [if_neg (by omega),show sAt l (v - 1).toNat=l.getD (v - 1).toNat ETy.str.dflt from rfl,if_pos hb]
theorem jlY {l:List ByteArray} {v:Int} (h:(v=0∨(l.length:Int) < v)∨jcK (l.getD (v - 1).toNat ETy.str.dflt)=false):ja3 l v=bs []:=by
 unfold ja3
 by_cases e:v=0∨(l.length:Int) < v
 ·rw [if_pos e]; rfl
 ·rw [if_neg e,show sAt l (v - 1).toNat=l.getD (v - 1).toNat ETy.str.dflt from rfl,if_neg (by rw [h.resolve_left e]; decide)]; rfl
noncomputable def sp_rleads:Spec:=spOf (α:=(List ByteArray) × Int) (fun ⟨l,v⟩=>[.vec .str l,.int .u16 v]) fun ⟨l,v⟩=>(l.length≤1000000∧(0≤v∧v < 65536)∧(∀ s∈l,SLen s),.ret (.str (ja3 l v)))
theorem jbt (l:List ByteArray) (v:Int):sp_rleads [.vec .str l,.int .u16 v]=some (l.length≤1000000∧(0≤v∧v < 65536)∧(∀ s∈l,SLen s),.ret (.str (ja3 l v))):=jar (α:=(List ByteArray) × Int) _ (fun ⟨l,v⟩ ⟨l',v'⟩ h=>by first | simpa [CP] using h | (simp [CP] at h ⊢; grind)) (l,v)
theorem jsg:Alias Tryz.prog E0 108 sp_rleads:=Alias.of fun ⟨l,v⟩ hG=>TF.intro (V:=(VV [(70,conF [.any] sp_rlmay)] (.cons (jaa jmM) (Fresh.soundF jt6) GOk.nil) 28 0)) jjT rfl rfl (by
 dsimp only at hG ⊢
 obtain ⟨hl,hv,hs⟩:=hG
 have hw:1≤v→IntKind.u16.wrap (v - 1)=v - 1:=fun h=>jne (by omega)
 by_cases h0:v=0
 ·subst h0
  repeat' first | simp only [SB,E,seval,rdB,ne_eq,implies_true,jjW,List.drop_replicate,List.set_set] | simp only [hw] | refine T.seq ?_ | refine T.stm ?_ | refine T.rg ?_ | refine jac ?_ | refine jad ?_ | refine jae ?_ | refine T.cond ?_ | refine T.skip ?_ | refine T.ret ?_ | refine T.exit ?_ | refine T.block ?_ | refine Cos.intro [] [] rfl ?_ | refine And.intro ?_ ?_ | (intro p0; have hyp:=p0; (try simp only [HB,ne_eq,reduceCtorEq] at hyp); (try simp only [p0]); (try clear p0); try (exfalso; omega; done)) | omega
  ·exact (jlY (Or.inl (Or.inl rfl))).symm
 ·have hw:=hw (by omega)
  repeat' first | simp only [SB,E,seval,rdB,ne_eq,implies_true,jjW,List.drop_replicate,List.set_set] | simp only [hw] | refine T.seq ?_ | refine T.stm ?_ | refine T.rg ?_ | refine jac ?_ | refine jad ?_ | refine jae ?_ | refine T.cond ?_ | refine T.skip ?_ | refine T.ret ?_ | refine T.exit ?_ | refine T.block ?_ | refine Cos.intro [] [] rfl ?_ | refine And.intro ?_ ?_ | (intro p0; have hyp:=p0; (try simp only [HB,ne_eq,reduceCtorEq] at hyp); (try simp only [p0]); (try clear p0); try (exfalso; omega; done)) | omega
  ·exact hs _ (jhv (by omega))
  ·exact (jlY hyp).symm
  ·exact (jmR hyp.1 hyp.2).symm)
theorem jsh:Fresh Tryz.prog E0 108 sp_rleads:=Alias.fresh jsg (fun x=>rfl)
theorem jpZ {l:List ByteArray} {k:Nat} (h:jcK (l.getD k ETy.str.dflt)=true∧¬0≤jaU (l.take k) (l.getD k ETy.str.dflt)):jgy l k=true:=by
 show (jcK (l.getD k ETy.str.dflt) && !decide (0≤jaU (l.take k) (l.getD k ETy.str.dflt)))=true
 rw [h.1,decide_eq_false h.2]; rfl
theorem jsi {l:List ByteArray} {k:Nat} (h:jcK (l.getD k ETy.str.dflt)=false∨0≤jaU (l.take k) (l.getD k ETy.str.dflt)):jgy l k=false:=by
 show (jcK (l.getD k ETy.str.dflt) && !decide (0≤jaU (l.take k) (l.getD k ETy.str.dflt)))=false
 rcases h with h | h
 ·rw [h,Bool.false_and]
 ·rw [decide_eq_true h]; simp
theorem jc2 {L:List CD} {k:Nat} (h:k < L.length):L[k]?=some (L.getD k default):=jbU h
theorem joY {m:Nat} {L:List CD} {k:Nat} {t:Int} (hk:k < L.length) (h:jeV m (L.take k)=some t) (hn:¬(t+1 < (L.getD k default).link∨(m:Int) < (L.getD k default).link)):jeV m (L.take (k+1))=some (max t (L.getD k default).link):=by
 rw [ja7 (jc2 hk),jcN,h]
 exact if_neg hn
theorem jv6 {m:Nat} {L:List CD} {k:Nat} {t:Int} (hk:k < L.length) (h:jeV m (L.take k)=some t) (hn:t+1 < (L.getD k default).link∨(m:Int) < (L.getD k default).link):jeV m L=none:=by
 rw [← List.take_append_drop (k+1) L]
 refine jpL m _ _ ?_
 rw [ja7 (jc2 hk),jcN,h]
 exact if_pos hn
theorem jt7 {L:List CD} {l:List ByteArray} (h:jeV l.length L=none):jcb L l=false:=by
 simp [jcb,h]
theorem jcG {L:List CD} {k:Nat} (h:k < L.length):L.getD k default∈L:=List.mem_of_getElem? (jbU h)
noncomputable def sp_lright:Spec:=spOf (α:=(List CD) × (List ByteArray)) (fun ⟨L,l⟩=>[.vec .cell L,.vec .str l]) fun ⟨L,l⟩=>(L.length≤1000000∧l.length≤4611686018427387904∧(∀ s∈l,SLen s)∧(∀ c∈L,0≤c.link∧c.link < 65536),.ret (.bool (jcb L l)))
theorem jdC (L:List CD) (l:List ByteArray):sp_lright [.vec .cell L,.vec .str l]=some (L.length≤1000000∧l.length≤4611686018427387904∧(∀ s∈l,SLen s)∧(∀ c∈L,0≤c.link∧c.link < 65536),.ret (.bool (jcb L l))):=jar (α:=(List CD) × (List ByteArray)) _ (fun ⟨L,l⟩ ⟨L',l'⟩ h=>by first | simpa [CP] using h | (simp [CP] at h ⊢; grind)) (L,l)
theorem jsj:Alias Tryz.prog E0 57 sp_lright:=Alias.of fun ⟨L,l⟩ hG=>TF.intro (V:=(VV [(99,conF [.any] sp_lmay),(100,conF [.sl .str,.any] sp_scontains)] (.cons (jaa jee) (Fresh.soundF jnN) (.cons (jaa jbZ) (Fresh.soundF jmO) GOk.nil)) 61 0)) jfs rfl rfl (by
 dsimp only at hG ⊢
 obtain ⟨hL,hl,hs,hc⟩:=hG
 repeat' first | simp only [SB,E,seval,rdB,ne_eq,implies_true,jaV,jbn,List.drop_replicate,List.set_set] | refine T.seq ?_ | refine T.stm ?_ | refine T.rg ?_ | refine jac ?_ | refine jad ?_ | refine jae ?_ | refine T.cond ?_ | refine T.skip ?_ | refine T.ret ?_ | refine T.exit ?_ | refine T.block ?_ | refine Cos.intro [] [] rfl ?_ | refine And.intro ?_ ?_ | (intro p0; have hyp:=p0; (try simp only [HB,ne_eq,reduceCtorEq] at hyp); (try simp only [p0]); (try clear p0); try (exfalso; omega; done)) | omega
 ·simp only [jcb,decide_eq_false (by omega:¬l.length≤16),Bool.false_and]
 refine T.loop (fun k:Nat=>⟨[(0,.vec .cell L),(1,.vec .str l),(14,.vec .str l),(15,.int .i64 l.length),(16,.int .i64 k)],[]⟩) (fun k=>k≤l.length∧∀ j,j < k→jgy l j=true) (fun k=>l.length - k) 0 ⟨by omega,fun j hj=>by omega⟩ (Cos.intro [] [] rfl (by (simp only [SB,E,seval,rdB,ne_eq,implies_true,jaV,jbn,List.drop_replicate,List.set_set]); first | done | (repeat' apply And.intro) <;> first | rfl | omega | simp)) (fun k ⟨hk,hall⟩=>?_)
 repeat' first | simp only [SB,E,seval,rdB,ne_eq,implies_true,jaV,jbn,List.drop_replicate,List.set_set] | refine T.seq ?_ | refine T.stm ?_ | refine T.rg ?_ | refine jac ?_ | refine jad ?_ | refine jae ?_ | refine T.cond ?_ | refine T.skip ?_ | refine T.ret ?_ | refine T.exit ?_ | refine T.block ?_ | refine Cos.intro [] [] rfl ?_ | refine And.intro ?_ ?_ | (intro p0; have hyp:=p0; (try simp only [HB,ne_eq,reduceCtorEq] at hyp); (try simp only [p0]); (try clear p0); try (exfalso; omega; done)) | omega
 ·exact hs _ (jhv (by omega))
 ·rw [List.length_take]; omega
 ·rw [jcb,jbQ (by omega:k < l.length) (jsi hyp),Bool.and_false,Bool.false_and]
 ·exact ⟨k+1,⟨by omega,jeb (jpZ hyp) hall⟩,by omega,(Cos.intro [] [] rfl (by (simp only [SB,E,seval,rdB,ne_eq,implies_true,jaV,jbn,List.drop_replicate,List.set_set]); first | done | (repeat' apply And.intro) <;> first | rfl | omega | simp))⟩
 have hall:=fun j (h:j < l.length)=>hall j (by omega)
 refine T.loop (fun q:Nat × Int=>⟨[(1,.vec .str l),(7,.int .i64 q.2),(32,.vec .cell L),(33,.int .i64 L.length),(34,.int .i64 q.1)],[]⟩) (fun q=>q.1≤L.length∧(0≤q.2∧q.2 < 65536)∧jeV l.length (L.take q.1)=some q.2) (fun q=>L.length - q.1) (0,0) ⟨by omega,by omega,rfl⟩ (Cos.intro [] [] rfl (by (simp only [SB,E,seval,rdB,ne_eq,implies_true,jaV,jbn,List.drop_replicate,List.set_set]); first | done | (repeat' apply And.intro) <;> first | rfl | omega | simp)) (fun ⟨k,t⟩ ⟨hk,ht,htop⟩=>?_)
 dsimp only at hk ht htop ⊢
 have hck:k < L.length→0≤(L.getD k default).link∧(L.getD k default).link < 65536:=fun h=>hc _ (jcG h)
 by_cases hkl:k < L.length
 ·have hck:=hck hkl
  repeat' first | simp only [SB,E,seval,rdB,ne_eq,implies_true,jaV,jbn,List.drop_replicate,List.set_set] | refine T.seq ?_ | refine T.stm ?_ | refine T.rg ?_ | refine jac ?_ | refine jad ?_ | refine jae ?_ | refine T.cond ?_ | refine T.skip ?_ | refine T.ret ?_ | refine T.exit ?_ | refine T.block ?_ | refine Cos.intro [] [] rfl ?_ | refine And.intro ?_ ?_ | (intro p0; have hyp:=p0; (try simp only [HB,ne_eq,reduceCtorEq] at hyp); (try simp only [p0]); (try clear p0); try (exfalso; omega; done)) | omega
  ·exact (jt7 (jv6 hkl htop (by omega))).symm
  ·exact ⟨(k+1,(L.getD k default).link),⟨by omega,hck,by rw [joY hkl htop (by omega)]; congr 1; omega⟩,by simp only; omega,(Cos.intro [] [] rfl (by (simp only [SB,E,seval,rdB,ne_eq,implies_true,jaV,jbn,List.drop_replicate,List.set_set]); first | done | (repeat' apply And.intro) <;> first | rfl | omega | simp))⟩
  ·exact ⟨(k+1,t),⟨by omega,ht,by rw [joY hkl htop (by omega)]; congr 1; omega⟩,by simp only; omega,(Cos.intro [] [] rfl (by (simp only [SB,E,seval,rdB,ne_eq,implies_true,jaV,jbn,List.drop_replicate,List.set_set]); first | done | (repeat' apply And.intro) <;> first | rfl | omega | simp))⟩
 ·have e:L.take k=L:=List.take_of_length_le (by omega)
  rw [e] at htop
  repeat' first | simp only [SB,E,seval,rdB,ne_eq,implies_true,jaV,jbn,List.drop_replicate,List.set_set] | refine T.seq ?_ | refine T.stm ?_ | refine T.rg ?_ | refine jac ?_ | refine jad ?_ | refine jae ?_ | refine T.cond ?_ | refine T.skip ?_ | refine T.ret ?_ | refine T.exit ?_ | refine T.block ?_ | refine Cos.intro [] [] rfl ?_ | refine And.intro ?_ ?_ | (intro p0; have hyp:=p0; (try simp only [HB,ne_eq,reduceCtorEq] at hyp); (try simp only [p0]); (try clear p0); try (exfalso; omega; done)) | omega
  ·have ha:(List.range l.length).all (jgy l)=true:=List.all_eq_true.2 fun j hj=>hall j (List.mem_range.1 hj)
   rw [jcb,htop,decide_eq_true (by omega:l.length≤16),ha,Bool.true_and,Bool.true_and]
   exact decide_eq_decide.2 ⟨fun e=>by rw [e],fun e=>Option.some.inj e⟩)
theorem jsk:Fresh Tryz.prog E0 57 sp_lright:=Alias.fresh jsj (fun x=>rfl)
theorem jp0 {l:List ByteArray} {L:List CD} {k:Nat} (h:k < L.length):jaj l (L.take (k+1))=jcm l (jaj l (L.take k)) (L.getD k default):=by
 rw [ja7 (jc2 h),jbw]
theorem jiN:bs []=emptyS:=rfl
theorem jfu {α:Type} {M:List α} {k:Nat} {a d:α} (h:k < M.length):(M.set k a).getD k d=a:=by
 rw [List.getD_eq_getElem?_getD,List.getElem?_set_self h]
 rfl
theorem jxm {α:Type} {A:List α} {n k:Nat} {a d:α} (hA:A.length=k) (h:k < n):(A++List.replicate (n - k) d).set k a=A++[a]++List.replicate (n - (k+1)) d:=by
 rw [List.set_append_right _ _ (by omega),hA,Nat.sub_self,show n - k=n - (k+1)+1 by omega,List.replicate_succ,List.set_cons_zero]
 simp
noncomputable def sp_rcanon:Spec:=spOf (α:=(List CD) × (List ByteArray)) (fun ⟨L,l⟩=>[.vec .cell L,.vec .str l]) fun ⟨L,l⟩=>(L.length≤60000∧l.length≤60000∧(∀ s∈l,SLen s)∧(∀ c∈L,0≤c.link∧c.link < 65536),.ret (.tup [.vec .cell (L.map (jbf l (jaj l L))),.vec .str (jaj l L)]))
theorem jdD (L:List CD) (l:List ByteArray):sp_rcanon [.vec .cell L,.vec .str l]=some (L.length≤60000∧l.length≤60000∧(∀ s∈l,SLen s)∧(∀ c∈L,0≤c.link∧c.link < 65536),.ret (.tup [.vec .cell (L.map (jbf l (jaj l L))),.vec .str (jaj l L)])):=jar (α:=(List CD) × (List ByteArray)) _ (fun ⟨L,l⟩ ⟨L',l'⟩ h=>by first | simpa [CP] using h | (simp [CP] at h ⊢; grind)) (L,l)
theorem jsl:Fresh Tryz.prog E0 77 sp_rcanon:=Fresh.of fun ⟨L,l⟩ hG=>TF.intro (V:=(VV [(108,conF [.sl .str,.any] sp_rleads),(109,conF [.sl .str,.any] sp_rplace)] (.cons (jaa jjT) (Fresh.soundF jsh) (.cons (jaa jjS) (Fresh.soundF jsc) GOk.nil)) 82 0)) jjV rfl rfl (by
 dsimp only at hG ⊢
 obtain ⟨hL,hl,hs,hc⟩:=hG
 repeat' first | simp only [SB,E,seval,rdB,ne_eq,implies_true,jbt,jbs,List.drop_replicate,List.set_set] | simp only [hw] | simp only [hw2] | refine T.seq ?_ | refine T.stm ?_ | refine T.rg ?_ | refine jac ?_ | refine jad ?_ | refine jae ?_ | refine T.cond ?_ | refine T.skip ?_ | refine T.ret ?_ | refine T.exit ?_ | refine T.block ?_ | refine Cos.intro [] [] rfl ?_ | refine And.intro ?_ ?_ | (intro p0; have hyp:=p0; (try simp only [HB,ne_eq,reduceCtorEq] at hyp); (try simp only [p0]); (try clear p0); try (exfalso; omega; done)) | omega
 refine T.loop (fun k:Nat=>⟨[(0,.vec .cell L),(1,.vec .str l),(6,.slice 0 0 1 (jaj l (L.take k)).length (jaj l (L.take k)).length),(7,.int .i64 k)],[.seq .str (jaj l (L.take k))]⟩) (fun k=>k≤L.length) (fun k=>L.length - k) 0 (by omega) (Cos.intro [0] [] rfl (by simp only [SB,E,seval,rdB,ne_eq,implies_true,jbt,jbs,List.drop_replicate,List.set_set]; simp [jaj])) (fun k hk=>?_)
 have hlen:(jaj l (L.take k)).length≤60000:=by
  have:=jhY l (L.take k)
  rw [List.length_take] at this
  omega
 have hck:k < L.length→0≤(L.getD k default).link∧(L.getD k default).link < 65536:=fun h=>hc _ (jcG h)
 by_cases hkl:k < L.length
 ·have hck:=hck hkl
  have hst:=jp0 (l:=l) hkl
  repeat' first | exact hs | simp only [SB,E,seval,rdB,ne_eq,implies_true,jbt,jbs,List.drop_replicate,List.set_set] | simp only [hw] | simp only [hw2] | refine T.seq ?_ | refine T.stm ?_ | refine T.rg ?_ | refine jac ?_ | refine jad ?_ | refine jae ?_ | refine T.cond ?_ | refine T.skip ?_ | refine T.ret ?_ | refine T.exit ?_ | refine T.block ?_ | refine Cos.intro [] [] rfl ?_ | refine And.intro ?_ ?_ | (intro p0; have hyp:=p0; (try simp only [HB,ne_eq,reduceCtorEq] at hyp); (try simp only [p0]); (try clear p0); try (exfalso; omega; done)) | omega
  ·refine ⟨k+1,by omega,by omega,Cos.intro [2] [] rfl ?_⟩
   rw [hst,jcm,if_pos (by rw [← jiN]; exact hyp)]
   simp only [SB,E,seval,rdB,ne_eq,implies_true,jbt,jbs,List.drop_replicate,List.set_set]
   simp
  ·refine ⟨k+1,by omega,by omega,Cos.intro [0] [] rfl ?_⟩
   rw [hst,jcm,if_neg (by rw [← jiN]; exact fun q=>hyp.elim q.1 (fun w=>w q.2))]
   simp only [SB,E,seval,rdB,ne_eq,implies_true,jbt,jbs,List.drop_replicate,List.set_set]
   simp
 ·have e:L.take k=L:=List.take_of_length_le (by omega)
  rw [e]
  repeat' first | simp only [SB,E,seval,rdB,ne_eq,implies_true,jbt,jbs,List.drop_replicate,List.set_set] | simp only [hw] | simp only [hw2] | refine T.seq ?_ | refine T.stm ?_ | refine T.rg ?_ | refine jac ?_ | refine jad ?_ | refine jae ?_ | refine T.cond ?_ | refine T.skip ?_ | refine T.ret ?_ | refine T.exit ?_ | refine T.block ?_ | refine Cos.intro [] [] rfl ?_ | refine And.intro ?_ ?_ | (intro p0; have hyp:=p0; (try simp only [HB,ne_eq,reduceCtorEq] at hyp); (try simp only [p0]); (try clear p0); try (exfalso; omega; done)) | omega
  rw [e] at hlen
  refine T.loop (fun k:Nat=>⟨[(0,.vec .cell L),(1,.vec .str l),(6,.slice 0 0 1 (jaj l L).length (jaj l L).length),(9,.slice 1 0 6 L.length L.length),(43,.int .i64 L.length),(44,.int .i64 k)],[.seq .str (jaj l L),.seq .cell ((L.take k).map (jbf l (jaj l L))++List.replicate (L.length - k) default)]⟩) (fun k=>k≤L.length) (fun k=>L.length - k) 0 (by omega) (Cos.intro [0,1] [] rfl (by simp only [SB,E,seval,rdB,ne_eq,implies_true,jbt,jbs,List.drop_replicate,List.set_set]; simp)) (fun k hk=>?_)
  have hml:((L.take k).map (jbf l (jaj l L))).length=k:=by simp; omega
  by_cases hkl:k < L.length
  ·have hck:=hc _ (jcG hkl)
   have hn:=jrC l (jaj l L) (L.getD k default).link
   have hw:∀ a:CD,(((L.take k).map (jbf l (jaj l L))++List.replicate (L.length - k) default).set k a).getD k default=a:=fun a=>jfu (by simp; omega)
   have hts:((L.take k).map (jbf l (jaj l L))++List.replicate (L.length - k) default).set k (jbf l (jaj l L) (L.getD k default))=(L.take (k+1)).map (jbf l (jaj l L))++List.replicate (L.length - (k+1)) default:=by
    rw [ja7 (jc2 hkl),List.map_append,jxm (by simp; omega) hkl]
    rfl
   by_cases hb:ja3 l (L.getD k default).link=bs []
   ·have hcn:jbf l (jaj l L) (L.getD k default)={ L.getD k default with link:=0 }:=by
     rw [jbf,jc9,if_pos (hb.trans jiN)]
     rfl
    rw [hcn] at hts
    repeat' first | exact hs | exact absurd hyp hb | exact absurd hb hyp | simp only [SB,E,seval,rdB,ne_eq,implies_true,jbt,jbs,List.drop_replicate,List.set_set] | simp only [hw] | simp only [hw2] | refine T.seq ?_ | refine T.stm ?_ | refine T.rg ?_ | refine jac ?_ | refine jad ?_ | refine jae ?_ | refine T.cond ?_ | refine T.skip ?_ | refine T.ret ?_ | refine T.exit ?_ | refine T.block ?_ | refine Cos.intro [] [] rfl ?_ | refine And.intro ?_ ?_ | (intro p0; have hyp:=p0; (try simp only [HB,ne_eq,reduceCtorEq] at hyp); (try simp only [p0]); (try clear p0); try (exfalso; omega; done)) | omega
    refine ⟨k+1,by omega,by omega,Cos.intro [0,1] [] rfl ?_⟩
    rw [hts]
    simp only [SB,E,seval,rdB,ne_eq,implies_true,jbt,jbs,List.drop_replicate,List.set_set]
    simp
   ·have hcn:jc9 l (jaj l L) (L.getD k default).link=jaU (jaj l L) (ja3 l (L.getD k default).link)+1:=if_neg hb
    have hcc:jbf l (jaj l L) (L.getD k default)={ L.getD k default with link:=jaU (jaj l L) (ja3 l (L.getD k default).link)+1 }:=by
     rw [jbf,hcn]
     rfl
    have hw2:IntKind.u16.wrap (jaU (jaj l L) (ja3 l (L.getD k default).link)+1)=jaU (jaj l L) (ja3 l (L.getD k default).link)+1:=jne (by omega)
    rw [hcc] at hts
    repeat' first | exact hs | exact absurd hyp hb | exact absurd hb hyp | simp only [SB,E,seval,rdB,ne_eq,implies_true,jbt,jbs,List.drop_replicate,List.set_set] | simp only [hw] | simp only [hw2] | refine T.seq ?_ | refine T.stm ?_ | refine T.rg ?_ | refine jac ?_ | refine jad ?_ | refine jae ?_ | refine T.cond ?_ | refine T.skip ?_ | refine T.ret ?_ | refine T.exit ?_ | refine T.block ?_ | refine Cos.intro [] [] rfl ?_ | refine And.intro ?_ ?_ | (intro p0; have hyp:=p0; (try simp only [HB,ne_eq,reduceCtorEq] at hyp); (try simp only [p0]); (try clear p0); try (exfalso; omega; done)) | omega
    refine ⟨k+1,by omega,by omega,Cos.intro [0,1] [] rfl ?_⟩
    rw [hts]
    simp only [SB,E,seval,rdB,ne_eq,implies_true,jbt,jbs,List.drop_replicate,List.set_set]
    simp
  ·have e:L.take k=L:=List.take_of_length_le (by omega)
   rw [e]
   have hlm:(L.map (jbf l (jaj l L))).length=L.length:=by simp
   rw [show L.length - k=0 by omega,List.replicate_zero,List.append_nil]
   repeat' first | simp only [SB,E,seval,rdB,ne_eq,implies_true,jbt,jbs,List.drop_replicate,List.set_set] | simp only [hw] | simp only [hw2] | refine T.seq ?_ | refine T.stm ?_ | refine T.rg ?_ | refine jac ?_ | refine jad ?_ | refine jae ?_ | refine T.cond ?_ | refine T.skip ?_ | refine T.ret ?_ | refine T.exit ?_ | refine T.block ?_ | refine Cos.intro [1,0] [] rfl ?_ | refine And.intro ?_ ?_ | (intro p0; have hyp:=p0; (try simp only [HB,ne_eq,reduceCtorEq] at hyp); (try simp only [p0]); (try clear p0); try (exfalso; omega; done)) | omega)
theorem jp1 {l:List ByteArray} {L:List CD} {k:Nat} (h:k < L.length):(L.map (jbf l (jaj l L))).getD k default=jbf l (jaj l L) (L.getD k default):=by
 rw [List.getD_eq_getElem?_getD,List.getElem?_map,jc2 h]
 rfl
theorem jgl {L:List CD} {k:Nat} (h:k < L.length):cAt L k=L.getD k default:=jgx (jc2 h)
noncomputable def sp_rlright:Spec:=spOf (α:=(List CD) × (List ByteArray)) (fun ⟨L,l⟩=>[.vec .cell L,.vec .str l]) fun ⟨L,l⟩=>(L.length≤60000∧l.length≤60000∧(∀ s∈l,SLen s)∧(∀ c∈L,0≤c.link∧c.link < 65536),.ret (.bool (jfT L l)))
theorem jc3 (L:List CD) (l:List ByteArray):sp_rlright [.vec .cell L,.vec .str l]=some (L.length≤60000∧l.length≤60000∧(∀ s∈l,SLen s)∧(∀ c∈L,0≤c.link∧c.link < 65536),.ret (.bool (jfT L l))):=jar (α:=(List CD) × (List ByteArray)) _ (fun ⟨L,l⟩ ⟨L',l'⟩ h=>by first | simpa [CP] using h | (simp [CP] at h ⊢; grind)) (L,l)
theorem jp2:Alias Tryz.prog E0 43 sp_rlright:=Alias.of fun ⟨L,l⟩ hG=>TF.intro (V:=(VV [(77,conF [.sl .cell,.sl .str] sp_rcanon),(40,conF [.sl .str,.sl .str] sp_rssame)] (.cons (jaa jjV) (Fresh.soundF jsl) (.cons (jaa jh4) (Fresh.soundF jmQ) GOk.nil)) 39 0)) jjU rfl rfl (by
 dsimp only at hG ⊢
 obtain ⟨hL,hl,hs,hc⟩:=hG
 have hm:=jhY l L
 repeat' first | exact hs | exact hc | simp only [SB,E,seval,rdB,ne_eq,implies_true,jdD,jcO,List.drop_replicate,List.set_set] | simp only [hw] | simp only [hw2] | refine T.seq ?_ | refine T.stm ?_ | refine T.rg ?_ | refine jac ?_ | refine jad ?_ | refine jae ?_ | refine T.cond ?_ | refine T.skip ?_ | refine T.ret ?_ | refine T.exit ?_ | refine T.block ?_ | refine Cos.intro [] [] rfl ?_ | refine And.intro ?_ ?_ | (intro p0; have hyp:=p0; (try simp only [HB,ne_eq,reduceCtorEq] at hyp); (try simp only [p0]); (try clear p0); try (exfalso; omega; done)) | omega
 ·simp only [jfT,decide_eq_false (by omega:¬l.length≤16),Bool.false_and]
 have hmm:(jaj l L).length≤4611686018427387904:=by omega
 refine T.loop (fun k:Nat=>⟨[(0,.vec .cell L),(1,.vec .str l),(5,.vec .cell (L.map (jbf l (jaj l L)))),(6,.vec .str (jaj l L)),(18,.int .i64 L.length),(19,.int .i64 k)],[]⟩) (fun k=>k≤L.length∧∀ j,j < k→decide (jc9 l (jaj l L) (cAt L j).link=(cAt L j).link)=true) (fun k=>L.length - k) 0 ⟨by omega,fun j hj=>by omega⟩ (Cos.intro [] [] rfl (by (simp only [SB,E,seval,rdB,ne_eq,implies_true,jdD,jcO,List.drop_replicate,List.set_set]); first | done | (repeat' apply And.intro) <;> first | rfl | omega | simp)) (fun k ⟨hk,hall⟩=>?_)
 by_cases hkl:k < L.length
 ·have hw:=jp1 (l:=l) hkl
  have hw2:(jbf l (jaj l L) (L.getD k default)).link=jc9 l (jaj l L) (L.getD k default).link:=rfl
  have hcg:=jgl hkl
  have hlm:(L.map (jbf l (jaj l L))).length=L.length:=by simp
  have hkm:k < (L.map (jbf l (jaj l L))).length:=by omega
  repeat' first | simp only [SB,E,seval,rdB,ne_eq,implies_true,jdD,jcO,List.drop_replicate,List.set_set] | simp only [hw] | simp only [hw2] | refine T.seq ?_ | refine T.stm ?_ | refine T.rg ?_ | refine jac ?_ | refine jad ?_ | refine jae ?_ | refine T.cond ?_ | refine T.skip ?_ | refine T.ret ?_ | refine T.exit ?_ | refine T.block ?_ | refine Cos.intro [] [] rfl ?_ | refine And.intro ?_ ?_ | (intro p0; have hyp:=p0; (try simp only [HB,ne_eq,reduceCtorEq] at hyp); (try simp only [p0]); (try clear p0); try (exfalso; omega; done)) | omega
  ·rw [jfT,jbQ hkl (by rw [hcg]; exact decide_eq_false hyp),Bool.and_false,Bool.false_and]
  ·exact ⟨k+1,⟨by omega,jeb (by rw [hcg]; exact decide_eq_true hyp) hall⟩,by omega,(Cos.intro [] [] rfl (by (simp only [SB,E,seval,rdB,ne_eq,implies_true,jdD,jcO,List.drop_replicate,List.set_set]); first | done | (repeat' apply And.intro) <;> first | rfl | omega | simp))⟩
 ·repeat' first | simp only [SB,E,seval,rdB,ne_eq,implies_true,jdD,jcO,List.drop_replicate,List.set_set] | simp only [hw] | simp only [hw2] | refine T.seq ?_ | refine T.stm ?_ | refine T.rg ?_ | refine jac ?_ | refine jad ?_ | refine jae ?_ | refine T.cond ?_ | refine T.skip ?_ | refine T.ret ?_ | refine T.exit ?_ | refine T.block ?_ | refine Cos.intro [] [] rfl ?_ | refine And.intro ?_ ?_ | (intro p0; have hyp:=p0; (try simp only [HB,ne_eq,reduceCtorEq] at hyp); (try simp only [p0]); (try clear p0); try (exfalso; omega; done)) | omega
  rw [jfT,jcX (n:=L.length) (k:=k) (by omega) hall,Bool.and_true,decide_eq_true (by omega:l.length≤16),Bool.true_and])
theorem jp3:Fresh Tryz.prog E0 43 sp_rlright:=Alias.fresh jp2 (fun x=>rfl)
end
end Go.Proofs.YtcfkfgkndncanaaGreatDoor
