/- Texts of this claim, merged by a program of this claim: FLinks. -/
import Derived.Test.YtcfkfgkndncanaaGreatDoorMr14
import Derived.Test.YtcfkfgkndncanaaGreatDoorMr19
import Derived.Test.YtcfkfgkndncanaaGreatDoorMr20
namespace Go.Proofs.YtcfkfgkndncanaaGreatDoor
set_option linter.unusedVariables false
set_option linter.unusedSimpArgs false
section
open Go.RowKit
set_option maxRecDepth 100000
set_option maxHeartbeats 4000000
theorem jhh (s : ByteArray) (i : Nat) : (jao s).getD i 0 = ((s.data.toList.getD i 0).toNat : Int) := by
  simp only [jao, List.getD_eq_getElem?_getD, List.getElem?_map]
  cases s.data.toList[i]? <;> rfl
def chrB (s : ByteArray) (i : Nat) : Bool := decide (33 ≤ (s.data.toList.getD i 0).toNat) && decide ((s.data.toList.getD i 0).toNat ≤ 126)
theorem jdU (s : ByteArray) : jch s = (decide (1 ≤ s.size) && decide (s.size ≤ 64) && (List.range s.size).all (chrB s)) := rfl
abbrev SLen (s : ByteArray) : Prop := s.size ≤ 9223372036854775807
noncomputable def sp_lmay : Spec := spOf (α := ByteArray) (fun s => [.str s]) fun s => (SLen s, .ret (.bool (jch s)))
theorem jaF (s : ByteArray) : sp_lmay [.str s] = some (SLen s, .ret (.bool (jch s))) := jav (α := ByteArray) _ (fun s s' h => by first | simpa [CP] using h | (simp [CP] at h ⊢; grind)) s
theorem jpZ : Alias Tryz.prog E0 99 sp_lmay := Alias.of fun s hG => TF.intro (V := (VV [] GOk.nil 28 0)) k_links_May rfl rfl (by
  dsimp only at hG ⊢
  repeat' first | simp only [SB, E, seval, rdB, ne_eq, implies_true, List.drop_replicate, List.set_set] | simp only [hw] | refine T.seq ?_ | refine T.stm ?_ | refine T.rg ?_ | refine jac ?_ | refine jad ?_ | refine jae ?_ | refine T.cond ?_ | refine T.skip ?_ | refine T.ret ?_ | refine T.exit ?_ | refine T.block ?_ | refine And.intro ?_ ?_ | (intro hyp0; have hyp := hyp0; (try simp only [HB, ne_eq, reduceCtorEq] at hyp); (try simp only [hyp0]); (try clear hyp0); try (exfalso; omega; done)) | omega
  refine T.loop (fun k : Nat => ⟨[(0, .str s), (5, .int .i64 s.size), (6, .int .i64 k)], []⟩) (fun k => k ≤ s.size ∧ ∀ j, j < k → chrB s j = true) (fun k => s.size - k) 0 ⟨by omega, fun j hj => by omega⟩ (Cos.intro [] [] rfl (by (simp only [SB, E, seval, rdB, ne_eq, implies_true, List.drop_replicate, List.set_set]); first | done | (repeat' apply And.intro) <;> first | rfl | omega | simp)) (fun k ⟨hk, hall⟩ => ?_)
  have hw := jhh s k
  repeat' first | simp only [SB, E, seval, rdB, ne_eq, implies_true, List.drop_replicate, List.set_set] | simp only [hw] | refine T.seq ?_ | refine T.stm ?_ | refine T.rg ?_ | refine jac ?_ | refine jad ?_ | refine jae ?_ | refine T.cond ?_ | refine T.skip ?_ | refine T.ret ?_ | refine T.exit ?_ | refine T.block ?_ | refine Cos.intro [] [] rfl ?_ | refine And.intro ?_ ?_ | (intro hyp0; have hyp := hyp0; (try simp only [HB, ne_eq, reduceCtorEq] at hyp); (try simp only [hyp0]); (try clear hyp0); try (exfalso; omega; done)) | omega
  · rw [jdU, jbj (by omega : k < s.size) (by simp only [chrB, HB, ne_eq, reduceCtorEq]; omega), Bool.and_false]
  · exact ⟨k + 1, ⟨by omega, jcJ (by simp only [chrB, HB, ne_eq, reduceCtorEq]; omega) hall⟩, by omega, (Cos.intro [] [] rfl (by (simp only [SB, E, seval, rdB, ne_eq, implies_true, List.drop_replicate, List.set_set]); first | done | (repeat' apply And.intro) <;> first | rfl | omega | simp))⟩
  · rw [jdU, jb1 (n := s.size) (k := k) (by omega) hall, Bool.and_true]
    rw [← Bool.decide_and, ← Bool.decide_and]
    exact decide_eq_decide.2 (by omega))
theorem jjo : Fresh Tryz.prog E0 99 sp_lmay := Alias.fresh jpZ (fun x => rfl)
noncomputable def sp_rlmay : Spec := spOf (α := ByteArray) (fun s => [.str s]) fun s => (SLen s, .ret (.bool (jch s)))
theorem jgw (s : ByteArray) : sp_rlmay [.str s] = some (SLen s, .ret (.bool (jch s))) := jav (α := ByteArray) _ (fun s s' h => by first | simpa [CP] using h | (simp [CP] at h ⊢; grind)) s
theorem jod : Alias Tryz.prog E0 70 sp_rlmay := Alias.of fun s hG => TF.intro (V := (VV [] GOk.nil 28 0)) k_r10_May rfl rfl (by
  dsimp only at hG ⊢
  repeat' first | simp only [SB, E, seval, rdB, ne_eq, implies_true, List.drop_replicate, List.set_set] | simp only [hw] | refine T.seq ?_ | refine T.stm ?_ | refine T.rg ?_ | refine jac ?_ | refine jad ?_ | refine jae ?_ | refine T.cond ?_ | refine T.skip ?_ | refine T.ret ?_ | refine T.exit ?_ | refine T.block ?_ | refine Cos.intro [] [] rfl ?_ | refine And.intro ?_ ?_ | (intro hyp0; have hyp := hyp0; (try simp only [HB, ne_eq, reduceCtorEq] at hyp); (try simp only [hyp0]); (try clear hyp0); try (exfalso; omega; done)) | omega
  · rw [jdU, ← Bool.decide_and, decide_eq_false (by omega), Bool.false_and]
  refine T.loop (fun k : Nat => ⟨[(0, .str s), (3, .int .i64 k)], []⟩) (fun k => k ≤ s.size ∧ ∀ j, j < k → chrB s j = true) (fun k => s.size - k) 0 ⟨by omega, fun j hj => by omega⟩ (Cos.intro [] [] rfl (by (simp only [SB, E, seval, rdB, ne_eq, implies_true, List.drop_replicate, List.set_set]); first | done | (repeat' apply And.intro) <;> first | rfl | omega | simp)) (fun k ⟨hk, hall⟩ => ?_)
  have hw := jhh s k
  repeat' first | simp only [SB, E, seval, rdB, ne_eq, implies_true, List.drop_replicate, List.set_set] | simp only [hw] | refine T.seq ?_ | refine T.stm ?_ | refine T.rg ?_ | refine jac ?_ | refine jad ?_ | refine jae ?_ | refine T.cond ?_ | refine T.skip ?_ | refine T.ret ?_ | refine T.exit ?_ | refine T.block ?_ | refine Cos.intro [] [] rfl ?_ | refine And.intro ?_ ?_ | (intro hyp0; have hyp := hyp0; (try simp only [HB, ne_eq, reduceCtorEq] at hyp); (try simp only [hyp0]); (try clear hyp0); try (exfalso; omega; done)) | omega
  · rw [jdU, jbj (by omega : k < s.size) (by simp only [chrB, HB, ne_eq, reduceCtorEq]; omega), Bool.and_false]
  · exact ⟨k + 1, ⟨by omega, jcJ (by simp only [chrB, HB, ne_eq, reduceCtorEq]; omega) hall⟩, by omega, (Cos.intro [] [] rfl (by (simp only [SB, E, seval, rdB, ne_eq, implies_true, List.drop_replicate, List.set_set]); first | done | (repeat' apply And.intro) <;> first | rfl | omega | simp))⟩
  · rw [jdU, jb1 (n := s.size) (k := k) (by omega) hall, Bool.and_true, ← Bool.decide_and, decide_eq_true (by omega)])
theorem joe : Fresh Tryz.prog E0 70 sp_rlmay := Alias.fresh jod (fun x => rfl)
noncomputable def sp_sindex : Spec := spOf (α := (List ByteArray) × ByteArray) (fun ⟨l, s⟩ => [.vec .str l, .str s]) fun ⟨l, s⟩ => (l.length ≤ 4611686018427387904, .ret (.int .i64 (jaG l s)))
theorem jaP (l : List ByteArray) (s : ByteArray) : sp_sindex [.vec .str l, .str s] = some (l.length ≤ 4611686018427387904, .ret (.int .i64 (jaG l s))) := jav (α := (List ByteArray) × ByteArray) _ (fun ⟨l, s⟩ ⟨l', s'⟩ h => by first | simpa [CP] using h | (simp [CP] at h ⊢; grind)) (l, s)
theorem jmB : Alias Tryz.prog E0 114 sp_sindex := Alias.of fun ⟨l, s⟩ hG => TF.intro (V := (VV [] GOk.nil 19 0)) k_slices_Index_string rfl rfl (by
  dsimp only at hG ⊢
  repeat' first | simp only [SB, E, seval, rdB, ne_eq, implies_true, List.drop_replicate, List.set_set] | refine T.seq ?_ | refine T.stm ?_ | refine T.rg ?_ | refine jac ?_ | refine jad ?_ | refine jae ?_ | refine T.cond ?_ | refine T.skip ?_ | refine T.ret ?_ | refine T.exit ?_ | refine T.block ?_ | refine And.intro ?_ ?_ | (intro hyp0; have hyp := hyp0; (try simp only [HB, ne_eq, reduceCtorEq] at hyp); (try simp only [hyp0]); (try clear hyp0); try (exfalso; omega; done)) | omega
  refine T.loop (fun k : Nat => ⟨[(0, .vec .str l), (1, .str s), (7, .int .i64 l.length), (8, .int .i64 k)], []⟩) (fun k => k ≤ l.length ∧ ∀ (j : Nat) (x : ByteArray), j < k → l[j]? = some x → jeN x s = false) (fun k => l.length - k) 0 ⟨by omega, fun j x hj => by omega⟩ (Cos.intro [] [] rfl (by (simp only [SB, E, seval, rdB, ne_eq, implies_true, List.drop_replicate, List.set_set]); first | done | (repeat' apply And.intro) <;> first | rfl | omega | simp)) (fun k ⟨hk, hall⟩ => ?_)
  repeat' first | simp only [SB, E, seval, rdB, ne_eq, implies_true, List.drop_replicate, List.set_set] | refine T.seq ?_ | refine T.stm ?_ | refine T.rg ?_ | refine jac ?_ | refine jad ?_ | refine jae ?_ | refine T.cond ?_ | refine T.skip ?_ | refine T.ret ?_ | refine T.exit ?_ | refine T.block ?_ | refine Cos.intro [] [] rfl ?_ | refine And.intro ?_ ?_ | (intro hyp0; have hyp := hyp0; (try simp only [HB, ne_eq, reduceCtorEq] at hyp); (try simp only [hyp0]); (try clear hyp0); try (exfalso; omega; done)) | omega
  · exact (jdQ l s k hall _ (jb6 (d := ETy.str.dflt) (by omega)) (jcK.2 (hyp.symm))).symm
  · refine ⟨k + 1, ⟨by omega, fun j x hj hx => ?_⟩, by omega, (Cos.intro [] [] rfl (by (simp only [SB, E, seval, rdB, ne_eq, implies_true, List.drop_replicate, List.set_set]); first | done | (repeat' apply And.intro) <;> first | rfl | omega | simp))⟩
    by_cases e : j = k
    · subst e
      rw [jb6 (d := ETy.str.dflt) (by omega)] at hx
      cases hx
      exact jdx.2 (fun q => hyp (q.symm))
    · exact hall j x (by omega) hx
  · exact (jgm l s (fun j x hx => hall j x (by have := (List.getElem?_eq_some_iff.1 hx).1; omega) hx)).symm)
theorem jgx : Fresh Tryz.prog E0 114 sp_sindex := Alias.fresh jmB (fun x => rfl)
noncomputable def sp_rplace : Spec := spOf (α := (List ByteArray) × ByteArray) (fun ⟨l, s⟩ => [.vec .str l, .str s]) fun ⟨l, s⟩ => (l.length ≤ 4611686018427387904, .ret (.int .i64 (jaG l s)))
theorem ja2 (l : List ByteArray) (s : ByteArray) : sp_rplace [.vec .str l, .str s] = some (l.length ≤ 4611686018427387904, .ret (.int .i64 (jaG l s))) := jav (α := (List ByteArray) × ByteArray) _ (fun ⟨l, s⟩ ⟨l', s'⟩ h => by first | simpa [CP] using h | (simp [CP] at h ⊢; grind)) (l, s)
theorem jmC : Alias Tryz.prog E0 109 sp_rplace := Alias.of fun ⟨l, s⟩ hG => TF.intro (V := (VV [] GOk.nil 19 0)) k_r10_Place rfl rfl (by
  dsimp only at hG ⊢
  repeat' first | simp only [SB, E, seval, rdB, ne_eq, implies_true, List.drop_replicate, List.set_set] | refine T.seq ?_ | refine T.stm ?_ | refine T.rg ?_ | refine jac ?_ | refine jad ?_ | refine jae ?_ | refine T.cond ?_ | refine T.skip ?_ | refine T.ret ?_ | refine T.exit ?_ | refine T.block ?_ | refine And.intro ?_ ?_ | (intro hyp0; have hyp := hyp0; (try simp only [HB, ne_eq, reduceCtorEq] at hyp); (try simp only [hyp0]); (try clear hyp0); try (exfalso; omega; done)) | omega
  refine T.loop (fun k : Nat => ⟨[(0, .vec .str l), (1, .str s), (5, .int .i64 k)], []⟩) (fun k => k ≤ l.length ∧ ∀ (j : Nat) (x : ByteArray), j < k → l[j]? = some x → jeN x s = false) (fun k => l.length - k) 0 ⟨by omega, fun j x hj => by omega⟩ (Cos.intro [] [] rfl (by (simp only [SB, E, seval, rdB, ne_eq, implies_true, List.drop_replicate, List.set_set]); first | done | (repeat' apply And.intro) <;> first | rfl | omega | simp)) (fun k ⟨hk, hall⟩ => ?_)
  repeat' first | simp only [SB, E, seval, rdB, ne_eq, implies_true, List.drop_replicate, List.set_set] | refine T.seq ?_ | refine T.stm ?_ | refine T.rg ?_ | refine jac ?_ | refine jad ?_ | refine jae ?_ | refine T.cond ?_ | refine T.skip ?_ | refine T.ret ?_ | refine T.exit ?_ | refine T.block ?_ | refine Cos.intro [] [] rfl ?_ | refine And.intro ?_ ?_ | (intro hyp0; have hyp := hyp0; (try simp only [HB, ne_eq, reduceCtorEq] at hyp); (try simp only [hyp0]); (try clear hyp0); try (exfalso; omega; done)) | omega
  · exact (jdQ l s k hall _ (jb6 (d := ETy.str.dflt) (by omega)) (jcK.2 (hyp))).symm
  · refine ⟨k + 1, ⟨by omega, fun j x hj hx => ?_⟩, by omega, (Cos.intro [] [] rfl (by (simp only [SB, E, seval, rdB, ne_eq, implies_true, List.drop_replicate, List.set_set]); first | done | (repeat' apply And.intro) <;> first | rfl | omega | simp))⟩
    by_cases e : j = k
    · subst e
      rw [jb6 (d := ETy.str.dflt) (by omega)] at hx
      cases hx
      exact jdx.2 (fun q => hyp (q))
    · exact hall j x (by omega) hx
  · exact (jgm l s (fun j x hx => hall j x (by have := (List.getElem?_eq_some_iff.1 hx).1; omega) hx)).symm)
theorem jmD : Fresh Tryz.prog E0 109 sp_rplace := Alias.fresh jmC (fun x => rfl)
noncomputable def sp_scontains : Spec := spOf (α := (List ByteArray) × ByteArray) (fun ⟨l, s⟩ => [.vec .str l, .str s]) fun ⟨l, s⟩ => (l.length ≤ 4611686018427387904, .ret (.bool (decide (0 ≤ jaG l s))))
theorem jaZ (l : List ByteArray) (s : ByteArray) : sp_scontains [.vec .str l, .str s] = some (l.length ≤ 4611686018427387904, .ret (.bool (decide (0 ≤ jaG l s)))) := jav (α := (List ByteArray) × ByteArray) _ (fun ⟨l, s⟩ ⟨l', s'⟩ h => by first | simpa [CP] using h | (simp [CP] at h ⊢; grind)) (l, s)
theorem jiG : Alias Tryz.prog E0 100 sp_scontains := Alias.of fun ⟨l, s⟩ hG => TF.intro (V := (VV [(114, conF [.sl .str, .any] sp_sindex)] (.cons (chkFn_callable k_slices_Index_string) (Fresh.soundF jgx) GOk.nil) 9 0)) k_slices_Contains_string rfl rfl (by
  dsimp only at hG ⊢
  repeat' first | simp only [SB, E, seval, rdB, ne_eq, implies_true, jaP, List.drop_replicate, List.set_set] | refine T.seq ?_ | refine T.stm ?_ | refine T.rg ?_ | refine jac ?_ | refine jad ?_ | refine jae ?_ | refine T.cond ?_ | refine T.skip ?_ | refine T.ret ?_ | refine T.exit ?_ | refine T.block ?_ | refine Cos.intro [] [] rfl ?_ | refine And.intro ?_ ?_ | (intro hyp0; have hyp := hyp0; (try simp only [HB, ne_eq, reduceCtorEq] at hyp); (try simp only [hyp0]); (try clear hyp0); try (exfalso; omega; done)) | omega)
theorem jiH : Fresh Tryz.prog E0 100 sp_scontains := Alias.fresh jiG (fun x => rfl)
noncomputable def sp_sclone : Spec := spOf (α := (List ByteArray)) (fun L => [.vec .str L]) fun L => (L.length ≤ 1000000, .ret (.vec .str L))
theorem jaA (L : List ByteArray) : sp_sclone [.vec .str L] = some (L.length ≤ 1000000, .ret (.vec .str L)) := jav (α := (List ByteArray)) _ (fun L L' h => by first | simpa [CP] using h | (simp [CP] at h ⊢; grind)) L
theorem jiI : Fresh Tryz.prog E0 25 sp_sclone := Fresh.of fun L hG => TF.intro (V := (VV [] GOk.nil 8 0)) k_slices_Clone_string rfl rfl (by
  dsimp only at hG ⊢
  repeat' first | simp only [SB, E, seval, rdB, ne_eq, implies_true, List.drop_replicate, List.set_set] | refine T.seq ?_ | refine T.stm ?_ | refine T.rg ?_ | refine jac ?_ | refine jad ?_ | refine jae ?_ | refine T.cond ?_ | refine T.skip ?_ | refine T.ret ?_ | refine T.exit ?_ | refine T.block ?_ | refine Cos.row (t := .str) rfl ?_ rfl (Nat.le_refl _) | exact Cos.nilRow (t := .str) (by cases L <;> simp_all) | refine And.intro ?_ ?_ | (intro hyp0; have hyp := hyp0; (try simp only [HB, ne_eq, reduceCtorEq] at hyp); (try simp only [hyp0]); (try clear hyp0); try (exfalso; omega; done)) | omega)
noncomputable def sp_rssame : Spec := spOf (α := (List ByteArray) × (List ByteArray)) (fun ⟨L, M⟩ => [.vec .str L, .vec .str M]) fun ⟨L, M⟩ => (L.length ≤ 4611686018427387904 ∧ M.length ≤ 4611686018427387904, .ret (.bool (decide (L = M))))
theorem jci (L : List ByteArray) (M : List ByteArray) : sp_rssame [.vec .str L, .vec .str M] = some (L.length ≤ 4611686018427387904 ∧ M.length ≤ 4611686018427387904, .ret (.bool (decide (L = M)))) := jav (α := (List ByteArray) × (List ByteArray)) _ (fun ⟨L, M⟩ ⟨L', M'⟩ h => by first | simpa [CP] using h | (simp [CP] at h ⊢; grind)) (L, M)
theorem jmE : Alias Tryz.prog E0 40 sp_rssame := Alias.of fun ⟨L, M⟩ hG => TF.intro (V := (VV [] GOk.nil 26 0)) k_r10_Same rfl rfl (by
  dsimp only at hG ⊢
  repeat' first | simp only [SB, E, seval, rdB, ne_eq, implies_true, List.drop_replicate, List.set_set] | refine T.seq ?_ | refine T.stm ?_ | refine T.rg ?_ | refine jac ?_ | refine jad ?_ | refine jae ?_ | refine T.cond ?_ | refine T.skip ?_ | refine T.ret ?_ | refine T.exit ?_ | refine T.block ?_ | refine Cos.intro [] [] rfl ?_ | refine And.intro ?_ ?_ | (intro hyp0; have hyp := hyp0; (try simp only [HB, ne_eq, reduceCtorEq] at hyp); (try simp only [hyp0]); (try clear hyp0); try (exfalso; omega; done)) | omega
  · exact (decide_eq_false fun e => by subst e; omega).symm
  · refine T.loop (fun k : Nat => ⟨[(0, .vec .str L), (1, .vec .str M), (12, .int .i64 L.length), (13, .int .i64 k)], []⟩) (fun k => k ≤ L.length ∧ ∀ j, j < k → L[j]? = M[j]?) (fun k => L.length - k) 0 ⟨by omega, fun j hj => by omega⟩ (Cos.intro [] [] rfl (by (simp only [SB, E, seval, rdB, ne_eq, implies_true, List.drop_replicate, List.set_set]); first | done | (repeat' apply And.intro) <;> first | rfl | omega | simp)) (fun k ⟨hk, hall⟩ => ?_)
    repeat' first | simp only [SB, E, seval, rdB, ne_eq, implies_true, List.drop_replicate, List.set_set] | refine T.seq ?_ | refine T.stm ?_ | refine T.rg ?_ | refine jac ?_ | refine jad ?_ | refine jae ?_ | refine T.cond ?_ | refine T.skip ?_ | refine T.ret ?_ | refine T.exit ?_ | refine T.block ?_ | refine Cos.intro [] [] rfl ?_ | exact ⟨k + 1, ⟨by omega, jii (by omega) (by omega) hyp hall⟩, by omega, (Cos.intro [] [] rfl (by (simp only [SB, E, seval, rdB, ne_eq, implies_true, List.drop_replicate, List.set_set]); first | done | (repeat' apply And.intro) <;> first | rfl | omega | simp))⟩ | refine And.intro ?_ ?_ | (intro hyp0; have hyp := hyp0; (try simp only [HB, ne_eq, reduceCtorEq] at hyp); (try simp only [hyp0]); (try clear hyp0); try (exfalso; omega; done)) | omega
    · exact (decide_eq_false fun e => by subst e; exact hyp rfl).symm
    · exact (decide_eq_true (jjR (by omega) (by omega) hall)).symm)
theorem jmF : Fresh Tryz.prog E0 40 sp_rssame := Alias.fresh jmE (fun x => rfl)
theorem jgy {l : List ByteArray} {i : Nat} (h : i < l.length) : l.getD i ETy.str.dflt ∈ l := List.mem_of_getElem? (jb6 h)
theorem jiJ {l : List ByteArray} {v : Int} (h : ¬v = 0 ∧ ¬(l.length : Int) < v) (hb : jch (l.getD (v - 1).toNat ETy.str.dflt) = true) : jaM l v = l.getD (v - 1).toNat ETy.str.dflt := by
  unfold jaM
  rw [if_neg (by omega), show sAt l (v - 1).toNat = l.getD (v - 1).toNat ETy.str.dflt from rfl, if_pos hb]
theorem jh1 {l : List ByteArray} {v : Int} (h : (v = 0 ∨ (l.length : Int) < v) ∨ jch (l.getD (v - 1).toNat ETy.str.dflt) = false) : jaM l v = bs [] := by
  unfold jaM
  by_cases e : v = 0 ∨ (l.length : Int) < v
  · rw [if_pos e]; rfl
  · rw [if_neg e, show sAt l (v - 1).toNat = l.getD (v - 1).toNat ETy.str.dflt from rfl, if_neg (by rw [h.resolve_left e]; decide)]; rfl
noncomputable def sp_rleads : Spec := spOf (α := (List ByteArray) × Int) (fun ⟨l, v⟩ => [.vec .str l, .int .u16 v]) fun ⟨l, v⟩ => (l.length ≤ 1000000 ∧ (0 ≤ v ∧ v < 65536) ∧ (∀ s ∈ l, SLen s), .ret (.str (jaM l v)))
theorem ja3 (l : List ByteArray) (v : Int) : sp_rleads [.vec .str l, .int .u16 v] = some (l.length ≤ 1000000 ∧ (0 ≤ v ∧ v < 65536) ∧ (∀ s ∈ l, SLen s), .ret (.str (jaM l v))) := jav (α := (List ByteArray) × Int) _ (fun ⟨l, v⟩ ⟨l', v'⟩ h => by first | simpa [CP] using h | (simp [CP] at h ⊢; grind)) (l, v)
theorem jmG : Alias Tryz.prog E0 108 sp_rleads := Alias.of fun ⟨l, v⟩ hG => TF.intro (V := (VV [(70, conF [.any] sp_rlmay)] (.cons (chkFn_callable k_r10_May) (Fresh.soundF joe) GOk.nil) 28 0)) k_r10_Leads rfl rfl (by
  dsimp only at hG ⊢
  obtain ⟨hl, hv, hs⟩ := hG
  have hw : 1 ≤ v → IntKind.u16.wrap (v - 1) = v - 1 := fun h => ji0 (by omega)
  by_cases h0 : v = 0
  · subst h0
    repeat' first | simp only [SB, E, seval, rdB, ne_eq, implies_true, jgw, List.drop_replicate, List.set_set] | simp only [hw] | refine T.seq ?_ | refine T.stm ?_ | refine T.rg ?_ | refine jac ?_ | refine jad ?_ | refine jae ?_ | refine T.cond ?_ | refine T.skip ?_ | refine T.ret ?_ | refine T.exit ?_ | refine T.block ?_ | refine Cos.intro [] [] rfl ?_ | refine And.intro ?_ ?_ | (intro hyp0; have hyp := hyp0; (try simp only [HB, ne_eq, reduceCtorEq] at hyp); (try simp only [hyp0]); (try clear hyp0); try (exfalso; omega; done)) | omega
    · exact (jh1 (Or.inl (Or.inl rfl))).symm
  · have hw := hw (by omega)
    repeat' first | simp only [SB, E, seval, rdB, ne_eq, implies_true, jgw, List.drop_replicate, List.set_set] | simp only [hw] | refine T.seq ?_ | refine T.stm ?_ | refine T.rg ?_ | refine jac ?_ | refine jad ?_ | refine jae ?_ | refine T.cond ?_ | refine T.skip ?_ | refine T.ret ?_ | refine T.exit ?_ | refine T.block ?_ | refine Cos.intro [] [] rfl ?_ | refine And.intro ?_ ?_ | (intro hyp0; have hyp := hyp0; (try simp only [HB, ne_eq, reduceCtorEq] at hyp); (try simp only [hyp0]); (try clear hyp0); try (exfalso; omega; done)) | omega
    · exact hs _ (jgy (by omega))
    · exact (jh1 hyp).symm
    · exact (jiJ hyp.1 hyp.2).symm)
theorem jmH : Fresh Tryz.prog E0 108 sp_rleads := Alias.fresh jmG (fun x => rfl)
theorem jk0 {l : List ByteArray} {k : Nat} (h : jch (l.getD k ETy.str.dflt) = true ∧ ¬0 ≤ jaG (l.take k) (l.getD k ETy.str.dflt)) : jfq l k = true := by
  show (jch (l.getD k ETy.str.dflt) && !decide (0 ≤ jaG (l.take k) (l.getD k ETy.str.dflt))) = true
  rw [h.1, decide_eq_false h.2]; rfl
theorem jmI {l : List ByteArray} {k : Nat} (h : jch (l.getD k ETy.str.dflt) = false ∨ 0 ≤ jaG (l.take k) (l.getD k ETy.str.dflt)) : jfq l k = false := by
  show (jch (l.getD k ETy.str.dflt) && !decide (0 ≤ jaG (l.take k) (l.getD k ETy.str.dflt))) = false
  rcases h with h | h
  · rw [h, Bool.false_and]
  · rw [decide_eq_true h]; simp
theorem cdAt_eq {L : List CD} {k : Nat} (h : k < L.length) : L[k]? = some (L.getD k default) := jb6 h
theorem jkm {m : Nat} {L : List CD} {k : Nat} {t : Int} (hk : k < L.length) (h : jdF m (L.take k) = some t) (hn : ¬(t + 1 < (L.getD k default).link ∨ (m : Int) < (L.getD k default).link)) : jdF m (L.take (k + 1)) = some (max t (L.getD k default).link) := by
  rw [jaR (cdAt_eq hk), jcy, h]
  exact if_neg hn
theorem jp0 {m : Nat} {L : List CD} {k : Nat} {t : Int} (hk : k < L.length) (h : jdF m (L.take k) = some t) (hn : t + 1 < (L.getD k default).link ∨ (m : Int) < (L.getD k default).link) : jdF m L = none := by
  rw [← List.take_append_drop (k + 1) L]
  refine jkQ m _ _ ?_
  rw [jaR (cdAt_eq hk), jcy, h]
  exact if_pos hn
theorem jof {L : List CD} {l : List ByteArray} (h : jdF l.length L = none) : jdE L l = false := by
  simp [jdE, h]
theorem jcO {L : List CD} {k : Nat} (h : k < L.length) : L.getD k default ∈ L := List.mem_of_getElem? (jb6 h)
noncomputable def sp_lright : Spec := spOf (α := (List CD) × (List ByteArray)) (fun ⟨L, l⟩ => [.vec .cell L, .vec .str l]) fun ⟨L, l⟩ => (L.length ≤ 1000000 ∧ l.length ≤ 4611686018427387904 ∧ (∀ s ∈ l, SLen s) ∧ (∀ c ∈ L, 0 ≤ c.link ∧ c.link < 65536), .ret (.bool (jdE L l)))
theorem jcj (L : List CD) (l : List ByteArray) : sp_lright [.vec .cell L, .vec .str l] = some (L.length ≤ 1000000 ∧ l.length ≤ 4611686018427387904 ∧ (∀ s ∈ l, SLen s) ∧ (∀ c ∈ L, 0 ≤ c.link ∧ c.link < 65536), .ret (.bool (jdE L l))) := jav (α := (List CD) × (List ByteArray)) _ (fun ⟨L, l⟩ ⟨L', l'⟩ h => by first | simpa [CP] using h | (simp [CP] at h ⊢; grind)) (L, l)
theorem jmJ : Alias Tryz.prog E0 57 sp_lright := Alias.of fun ⟨L, l⟩ hG => TF.intro (V := (VV [(99, conF [.any] sp_lmay), (100, conF [.sl .str, .any] sp_scontains)] (.cons (chkFn_callable k_links_May) (Fresh.soundF jjo) (.cons (chkFn_callable k_slices_Contains_string) (Fresh.soundF jiH) GOk.nil)) 61 0)) k_links_Right rfl rfl (by
  dsimp only at hG ⊢
  obtain ⟨hL, hl, hs, hc⟩ := hG
  repeat' first | simp only [SB, E, seval, rdB, ne_eq, implies_true, jaF, jaZ, List.drop_replicate, List.set_set] | refine T.seq ?_ | refine T.stm ?_ | refine T.rg ?_ | refine jac ?_ | refine jad ?_ | refine jae ?_ | refine T.cond ?_ | refine T.skip ?_ | refine T.ret ?_ | refine T.exit ?_ | refine T.block ?_ | refine Cos.intro [] [] rfl ?_ | refine And.intro ?_ ?_ | (intro hyp0; have hyp := hyp0; (try simp only [HB, ne_eq, reduceCtorEq] at hyp); (try simp only [hyp0]); (try clear hyp0); try (exfalso; omega; done)) | omega
  · simp only [jdE, decide_eq_false (by omega : ¬l.length ≤ 16), Bool.false_and]
  refine T.loop (fun k : Nat => ⟨[(0, .vec .cell L), (1, .vec .str l), (14, .vec .str l), (15, .int .i64 l.length), (16, .int .i64 k)], []⟩) (fun k => k ≤ l.length ∧ ∀ j, j < k → jfq l j = true) (fun k => l.length - k) 0 ⟨by omega, fun j hj => by omega⟩ (Cos.intro [] [] rfl (by (simp only [SB, E, seval, rdB, ne_eq, implies_true, jaF, jaZ, List.drop_replicate, List.set_set]); first | done | (repeat' apply And.intro) <;> first | rfl | omega | simp)) (fun k ⟨hk, hall⟩ => ?_)
  repeat' first | simp only [SB, E, seval, rdB, ne_eq, implies_true, jaF, jaZ, List.drop_replicate, List.set_set] | refine T.seq ?_ | refine T.stm ?_ | refine T.rg ?_ | refine jac ?_ | refine jad ?_ | refine jae ?_ | refine T.cond ?_ | refine T.skip ?_ | refine T.ret ?_ | refine T.exit ?_ | refine T.block ?_ | refine Cos.intro [] [] rfl ?_ | refine And.intro ?_ ?_ | (intro hyp0; have hyp := hyp0; (try simp only [HB, ne_eq, reduceCtorEq] at hyp); (try simp only [hyp0]); (try clear hyp0); try (exfalso; omega; done)) | omega
  · exact hs _ (jgy (by omega))
  · rw [List.length_take]; omega
  · rw [jdE, jbj (by omega : k < l.length) (jmI hyp), Bool.and_false, Bool.false_and]
  · exact ⟨k + 1, ⟨by omega, jcJ (jk0 hyp) hall⟩, by omega, (Cos.intro [] [] rfl (by (simp only [SB, E, seval, rdB, ne_eq, implies_true, jaF, jaZ, List.drop_replicate, List.set_set]); first | done | (repeat' apply And.intro) <;> first | rfl | omega | simp))⟩
  have hall := fun j (h : j < l.length) => hall j (by omega)
  refine T.loop (fun q : Nat × Int => ⟨[(1, .vec .str l), (7, .int .i64 q.2), (32, .vec .cell L), (33, .int .i64 L.length), (34, .int .i64 q.1)], []⟩) (fun q => q.1 ≤ L.length ∧ (0 ≤ q.2 ∧ q.2 < 65536) ∧ jdF l.length (L.take q.1) = some q.2) (fun q => L.length - q.1) (0, 0) ⟨by omega, by omega, rfl⟩ (Cos.intro [] [] rfl (by (simp only [SB, E, seval, rdB, ne_eq, implies_true, jaF, jaZ, List.drop_replicate, List.set_set]); first | done | (repeat' apply And.intro) <;> first | rfl | omega | simp)) (fun ⟨k, t⟩ ⟨hk, ht, htop⟩ => ?_)
  dsimp only at hk ht htop ⊢
  have hck : k < L.length → 0 ≤ (L.getD k default).link ∧ (L.getD k default).link < 65536 := fun h => hc _ (jcO h)
  by_cases hkl : k < L.length
  · have hck := hck hkl
    repeat' first | simp only [SB, E, seval, rdB, ne_eq, implies_true, jaF, jaZ, List.drop_replicate, List.set_set] | refine T.seq ?_ | refine T.stm ?_ | refine T.rg ?_ | refine jac ?_ | refine jad ?_ | refine jae ?_ | refine T.cond ?_ | refine T.skip ?_ | refine T.ret ?_ | refine T.exit ?_ | refine T.block ?_ | refine Cos.intro [] [] rfl ?_ | refine And.intro ?_ ?_ | (intro hyp0; have hyp := hyp0; (try simp only [HB, ne_eq, reduceCtorEq] at hyp); (try simp only [hyp0]); (try clear hyp0); try (exfalso; omega; done)) | omega
    · exact (jof (jp0 hkl htop (by omega))).symm
    · exact ⟨(k + 1, (L.getD k default).link), ⟨by omega, hck, by rw [jkm hkl htop (by omega)]; congr 1; omega⟩, by simp only; omega, (Cos.intro [] [] rfl (by (simp only [SB, E, seval, rdB, ne_eq, implies_true, jaF, jaZ, List.drop_replicate, List.set_set]); first | done | (repeat' apply And.intro) <;> first | rfl | omega | simp))⟩
    · exact ⟨(k + 1, t), ⟨by omega, ht, by rw [jkm hkl htop (by omega)]; congr 1; omega⟩, by simp only; omega, (Cos.intro [] [] rfl (by (simp only [SB, E, seval, rdB, ne_eq, implies_true, jaF, jaZ, List.drop_replicate, List.set_set]); first | done | (repeat' apply And.intro) <;> first | rfl | omega | simp))⟩
  · have e : L.take k = L := List.take_of_length_le (by omega)
    rw [e] at htop
    repeat' first | simp only [SB, E, seval, rdB, ne_eq, implies_true, jaF, jaZ, List.drop_replicate, List.set_set] | refine T.seq ?_ | refine T.stm ?_ | refine T.rg ?_ | refine jac ?_ | refine jad ?_ | refine jae ?_ | refine T.cond ?_ | refine T.skip ?_ | refine T.ret ?_ | refine T.exit ?_ | refine T.block ?_ | refine Cos.intro [] [] rfl ?_ | refine And.intro ?_ ?_ | (intro hyp0; have hyp := hyp0; (try simp only [HB, ne_eq, reduceCtorEq] at hyp); (try simp only [hyp0]); (try clear hyp0); try (exfalso; omega; done)) | omega
    · have ha : (List.range l.length).all (jfq l) = true := List.all_eq_true.2 fun j hj => hall j (List.mem_range.1 hj)
      rw [jdE, htop, decide_eq_true (by omega : l.length ≤ 16), ha, Bool.true_and, Bool.true_and]
      exact decide_eq_decide.2 ⟨fun e => by rw [e], fun e => Option.some.inj e⟩)
theorem jmK : Fresh Tryz.prog E0 57 sp_lright := Alias.fresh jmJ (fun x => rfl)
theorem canon_step {l : List ByteArray} {L : List CD} {k : Nat} (h : k < L.length) : canonL l (L.take (k + 1)) = jbE l (canonL l (L.take k)) (L.getD k default) := by
  rw [jaR (cdAt_eq h), canonL_snoc]
theorem jfK : bs [] = emptyS := rfl
theorem jdA {α : Type} {M : List α} {k : Nat} {a d : α} (h : k < M.length) : (M.set k a).getD k d = a := by
  rw [List.getD_eq_getElem?_getD, List.getElem?_set_self h]
  rfl
theorem jqV {α : Type} {A : List α} {n k : Nat} {a d : α} (hA : A.length = k) (h : k < n) : (A ++ List.replicate (n - k) d).set k a = A ++ [a] ++ List.replicate (n - (k + 1)) d := by
  rw [List.set_append_right _ _ (by omega), hA, Nat.sub_self, show n - k = n - (k + 1) + 1 by omega, List.replicate_succ, List.set_cons_zero]
  simp
noncomputable def sp_rcanon : Spec := spOf (α := (List CD) × (List ByteArray)) (fun ⟨L, l⟩ => [.vec .cell L, .vec .str l]) fun ⟨L, l⟩ => (L.length ≤ 60000 ∧ l.length ≤ 60000 ∧ (∀ s ∈ l, SLen s) ∧ (∀ c ∈ L, 0 ≤ c.link ∧ c.link < 65536), .ret (.tup [.vec .cell (L.map (canonC l (canonL l L))), .vec .str (canonL l L)]))
theorem jck (L : List CD) (l : List ByteArray) : sp_rcanon [.vec .cell L, .vec .str l] = some (L.length ≤ 60000 ∧ l.length ≤ 60000 ∧ (∀ s ∈ l, SLen s) ∧ (∀ c ∈ L, 0 ≤ c.link ∧ c.link < 65536), .ret (.tup [.vec .cell (L.map (canonC l (canonL l L))), .vec .str (canonL l L)])) := jav (α := (List CD) × (List ByteArray)) _ (fun ⟨L, l⟩ ⟨L', l'⟩ h => by first | simpa [CP] using h | (simp [CP] at h ⊢; grind)) (L, l)
theorem jmL : Fresh Tryz.prog E0 77 sp_rcanon := Fresh.of fun ⟨L, l⟩ hG => TF.intro (V := (VV [(108, conF [.sl .str, .any] sp_rleads), (109, conF [.sl .str, .any] sp_rplace)] (.cons (chkFn_callable k_r10_Leads) (Fresh.soundF jmH) (.cons (chkFn_callable k_r10_Place) (Fresh.soundF jmD) GOk.nil)) 82 0)) k_r10_Canon rfl rfl (by
  dsimp only at hG ⊢
  obtain ⟨hL, hl, hs, hc⟩ := hG
  repeat' first | simp only [SB, E, seval, rdB, ne_eq, implies_true, ja3, ja2, List.drop_replicate, List.set_set] | simp only [hw] | simp only [hw2] | refine T.seq ?_ | refine T.stm ?_ | refine T.rg ?_ | refine jac ?_ | refine jad ?_ | refine jae ?_ | refine T.cond ?_ | refine T.skip ?_ | refine T.ret ?_ | refine T.exit ?_ | refine T.block ?_ | refine Cos.intro [] [] rfl ?_ | refine And.intro ?_ ?_ | (intro hyp0; have hyp := hyp0; (try simp only [HB, ne_eq, reduceCtorEq] at hyp); (try simp only [hyp0]); (try clear hyp0); try (exfalso; omega; done)) | omega
  refine T.loop (fun k : Nat => ⟨[(0, .vec .cell L), (1, .vec .str l), (6, .slice 0 0 1 (canonL l (L.take k)).length (canonL l (L.take k)).length), (7, .int .i64 k)], [.seq .str (canonL l (L.take k))]⟩) (fun k => k ≤ L.length) (fun k => L.length - k) 0 (by omega) (Cos.intro [0] [] rfl (by simp only [SB, E, seval, rdB, ne_eq, implies_true, ja3, ja2, List.drop_replicate, List.set_set]; simp [canonL])) (fun k hk => ?_)
  have hlen : (canonL l (L.take k)).length ≤ 60000 := by
    have := canonL_len l (L.take k)
    rw [List.length_take] at this
    omega
  have hck : k < L.length → 0 ≤ (L.getD k default).link ∧ (L.getD k default).link < 65536 := fun h => hc _ (jcO h)
  by_cases hkl : k < L.length
  · have hck := hck hkl
    have hst := canon_step (l := l) hkl
    repeat' first | exact hs | simp only [SB, E, seval, rdB, ne_eq, implies_true, ja3, ja2, List.drop_replicate, List.set_set] | simp only [hw] | simp only [hw2] | refine T.seq ?_ | refine T.stm ?_ | refine T.rg ?_ | refine jac ?_ | refine jad ?_ | refine jae ?_ | refine T.cond ?_ | refine T.skip ?_ | refine T.ret ?_ | refine T.exit ?_ | refine T.block ?_ | refine Cos.intro [] [] rfl ?_ | refine And.intro ?_ ?_ | (intro hyp0; have hyp := hyp0; (try simp only [HB, ne_eq, reduceCtorEq] at hyp); (try simp only [hyp0]); (try clear hyp0); try (exfalso; omega; done)) | omega
    · refine ⟨k + 1, by omega, by omega, Cos.intro [2] [] rfl ?_⟩
      rw [hst, jbE, if_pos (by rw [← jfK]; exact hyp)]
      simp only [SB, E, seval, rdB, ne_eq, implies_true, ja3, ja2, List.drop_replicate, List.set_set]
      simp
    · refine ⟨k + 1, by omega, by omega, Cos.intro [0] [] rfl ?_⟩
      rw [hst, jbE, if_neg (by rw [← jfK]; exact fun q => hyp.elim q.1 (fun w => w q.2))]
      simp only [SB, E, seval, rdB, ne_eq, implies_true, ja3, ja2, List.drop_replicate, List.set_set]
      simp
  · have e : L.take k = L := List.take_of_length_le (by omega)
    rw [e]
    repeat' first | simp only [SB, E, seval, rdB, ne_eq, implies_true, ja3, ja2, List.drop_replicate, List.set_set] | simp only [hw] | simp only [hw2] | refine T.seq ?_ | refine T.stm ?_ | refine T.rg ?_ | refine jac ?_ | refine jad ?_ | refine jae ?_ | refine T.cond ?_ | refine T.skip ?_ | refine T.ret ?_ | refine T.exit ?_ | refine T.block ?_ | refine Cos.intro [] [] rfl ?_ | refine And.intro ?_ ?_ | (intro hyp0; have hyp := hyp0; (try simp only [HB, ne_eq, reduceCtorEq] at hyp); (try simp only [hyp0]); (try clear hyp0); try (exfalso; omega; done)) | omega
    rw [e] at hlen
    refine T.loop (fun k : Nat => ⟨[(0, .vec .cell L), (1, .vec .str l), (6, .slice 0 0 1 (canonL l L).length (canonL l L).length), (9, .slice 1 0 6 L.length L.length), (43, .int .i64 L.length), (44, .int .i64 k)], [.seq .str (canonL l L), .seq .cell ((L.take k).map (canonC l (canonL l L)) ++ List.replicate (L.length - k) default)]⟩) (fun k => k ≤ L.length) (fun k => L.length - k) 0 (by omega) (Cos.intro [0, 1] [] rfl (by simp only [SB, E, seval, rdB, ne_eq, implies_true, ja3, ja2, List.drop_replicate, List.set_set]; simp)) (fun k hk => ?_)
    have hml : ((L.take k).map (canonC l (canonL l L))).length = k := by simp; omega
    by_cases hkl : k < L.length
    · have hck := hc _ (jcO hkl)
      have hn := canonN_lo l (canonL l L) (L.getD k default).link
      have hw : ∀ a : CD, (((L.take k).map (canonC l (canonL l L)) ++ List.replicate (L.length - k) default).set k a).getD k default = a := fun a => jdA (by simp; omega)
      have hts : ((L.take k).map (canonC l (canonL l L)) ++ List.replicate (L.length - k) default).set k (canonC l (canonL l L) (L.getD k default)) = (L.take (k + 1)).map (canonC l (canonL l L)) ++ List.replicate (L.length - (k + 1)) default := by
        rw [jaR (cdAt_eq hkl), List.map_append, jqV (by simp; omega) hkl]
        rfl
      by_cases hb : jaM l (L.getD k default).link = bs []
      · have hcn : canonC l (canonL l L) (L.getD k default) = { L.getD k default with link := 0 } := by
          rw [canonC, canonN, if_pos (hb.trans jfK)]
          rfl
        rw [hcn] at hts
        repeat' first | exact hs | exact absurd hyp hb | exact absurd hb hyp | simp only [SB, E, seval, rdB, ne_eq, implies_true, ja3, ja2, List.drop_replicate, List.set_set] | simp only [hw] | simp only [hw2] | refine T.seq ?_ | refine T.stm ?_ | refine T.rg ?_ | refine jac ?_ | refine jad ?_ | refine jae ?_ | refine T.cond ?_ | refine T.skip ?_ | refine T.ret ?_ | refine T.exit ?_ | refine T.block ?_ | refine Cos.intro [] [] rfl ?_ | refine And.intro ?_ ?_ | (intro hyp0; have hyp := hyp0; (try simp only [HB, ne_eq, reduceCtorEq] at hyp); (try simp only [hyp0]); (try clear hyp0); try (exfalso; omega; done)) | omega
        refine ⟨k + 1, by omega, by omega, Cos.intro [0, 1] [] rfl ?_⟩
        rw [hts]
        simp only [SB, E, seval, rdB, ne_eq, implies_true, ja3, ja2, List.drop_replicate, List.set_set]
        simp
      · have hcn : canonN l (canonL l L) (L.getD k default).link = jaG (canonL l L) (jaM l (L.getD k default).link) + 1 := if_neg hb
        have hcc : canonC l (canonL l L) (L.getD k default) = { L.getD k default with link := jaG (canonL l L) (jaM l (L.getD k default).link) + 1 } := by
          rw [canonC, hcn]
          rfl
        have hw2 : IntKind.u16.wrap (jaG (canonL l L) (jaM l (L.getD k default).link) + 1) = jaG (canonL l L) (jaM l (L.getD k default).link) + 1 := ji0 (by omega)
        rw [hcc] at hts
        repeat' first | exact hs | exact absurd hyp hb | exact absurd hb hyp | simp only [SB, E, seval, rdB, ne_eq, implies_true, ja3, ja2, List.drop_replicate, List.set_set] | simp only [hw] | simp only [hw2] | refine T.seq ?_ | refine T.stm ?_ | refine T.rg ?_ | refine jac ?_ | refine jad ?_ | refine jae ?_ | refine T.cond ?_ | refine T.skip ?_ | refine T.ret ?_ | refine T.exit ?_ | refine T.block ?_ | refine Cos.intro [] [] rfl ?_ | refine And.intro ?_ ?_ | (intro hyp0; have hyp := hyp0; (try simp only [HB, ne_eq, reduceCtorEq] at hyp); (try simp only [hyp0]); (try clear hyp0); try (exfalso; omega; done)) | omega
        refine ⟨k + 1, by omega, by omega, Cos.intro [0, 1] [] rfl ?_⟩
        rw [hts]
        simp only [SB, E, seval, rdB, ne_eq, implies_true, ja3, ja2, List.drop_replicate, List.set_set]
        simp
    · have e : L.take k = L := List.take_of_length_le (by omega)
      rw [e]
      have hlm : (L.map (canonC l (canonL l L))).length = L.length := by simp
      rw [show L.length - k = 0 by omega, List.replicate_zero, List.append_nil]
      repeat' first | simp only [SB, E, seval, rdB, ne_eq, implies_true, ja3, ja2, List.drop_replicate, List.set_set] | simp only [hw] | simp only [hw2] | refine T.seq ?_ | refine T.stm ?_ | refine T.rg ?_ | refine jac ?_ | refine jad ?_ | refine jae ?_ | refine T.cond ?_ | refine T.skip ?_ | refine T.ret ?_ | refine T.exit ?_ | refine T.block ?_ | refine Cos.intro [1, 0] [] rfl ?_ | refine And.intro ?_ ?_ | (intro hyp0; have hyp := hyp0; (try simp only [HB, ne_eq, reduceCtorEq] at hyp); (try simp only [hyp0]); (try clear hyp0); try (exfalso; omega; done)) | omega)
theorem canon_getD {l : List ByteArray} {L : List CD} {k : Nat} (h : k < L.length) : (L.map (canonC l (canonL l L))).getD k default = canonC l (canonL l L) (L.getD k default) := by
  rw [List.getD_eq_getElem?_getD, List.getElem?_map, cdAt_eq h]
  rfl
theorem cAt_getD {L : List CD} {k : Nat} (h : k < L.length) : cAt L k = L.getD k default := cAt_of (cdAt_eq h)
noncomputable def sp_rlright : Spec := spOf (α := (List CD) × (List ByteArray)) (fun ⟨L, l⟩ => [.vec .cell L, .vec .str l]) fun ⟨L, l⟩ => (L.length ≤ 60000 ∧ l.length ≤ 60000 ∧ (∀ s ∈ l, SLen s) ∧ (∀ c ∈ L, 0 ≤ c.link ∧ c.link < 65536), .ret (.bool (jdR L l)))
theorem jb3 (L : List CD) (l : List ByteArray) : sp_rlright [.vec .cell L, .vec .str l] = some (L.length ≤ 60000 ∧ l.length ≤ 60000 ∧ (∀ s ∈ l, SLen s) ∧ (∀ c ∈ L, 0 ≤ c.link ∧ c.link < 65536), .ret (.bool (jdR L l))) := jav (α := (List CD) × (List ByteArray)) _ (fun ⟨L, l⟩ ⟨L', l'⟩ h => by first | simpa [CP] using h | (simp [CP] at h ⊢; grind)) (L, l)
theorem jk1 : Alias Tryz.prog E0 43 sp_rlright := Alias.of fun ⟨L, l⟩ hG => TF.intro (V := (VV [(77, conF [.sl .cell, .sl .str] sp_rcanon), (40, conF [.sl .str, .sl .str] sp_rssame)] (.cons (chkFn_callable k_r10_Canon) (Fresh.soundF jmL) (.cons (chkFn_callable k_r10_Same) (Fresh.soundF jmF) GOk.nil)) 39 0)) k_r10_Right rfl rfl (by
  dsimp only at hG ⊢
  obtain ⟨hL, hl, hs, hc⟩ := hG
  have hm := canonL_len l L
  repeat' first | exact hs | exact hc | simp only [SB, E, seval, rdB, ne_eq, implies_true, jck, jci, List.drop_replicate, List.set_set] | simp only [hw] | simp only [hw2] | refine T.seq ?_ | refine T.stm ?_ | refine T.rg ?_ | refine jac ?_ | refine jad ?_ | refine jae ?_ | refine T.cond ?_ | refine T.skip ?_ | refine T.ret ?_ | refine T.exit ?_ | refine T.block ?_ | refine Cos.intro [] [] rfl ?_ | refine And.intro ?_ ?_ | (intro hyp0; have hyp := hyp0; (try simp only [HB, ne_eq, reduceCtorEq] at hyp); (try simp only [hyp0]); (try clear hyp0); try (exfalso; omega; done)) | omega
  · simp only [jdR, decide_eq_false (by omega : ¬l.length ≤ 16), Bool.false_and]
  have hmm : (canonL l L).length ≤ 4611686018427387904 := by omega
  refine T.loop (fun k : Nat => ⟨[(0, .vec .cell L), (1, .vec .str l), (5, .vec .cell (L.map (canonC l (canonL l L)))), (6, .vec .str (canonL l L)), (18, .int .i64 L.length), (19, .int .i64 k)], []⟩) (fun k => k ≤ L.length ∧ ∀ j, j < k → decide (canonN l (canonL l L) (cAt L j).link = (cAt L j).link) = true) (fun k => L.length - k) 0 ⟨by omega, fun j hj => by omega⟩ (Cos.intro [] [] rfl (by (simp only [SB, E, seval, rdB, ne_eq, implies_true, jck, jci, List.drop_replicate, List.set_set]); first | done | (repeat' apply And.intro) <;> first | rfl | omega | simp)) (fun k ⟨hk, hall⟩ => ?_)
  by_cases hkl : k < L.length
  · have hw := canon_getD (l := l) hkl
    have hw2 : (canonC l (canonL l L) (L.getD k default)).link = canonN l (canonL l L) (L.getD k default).link := rfl
    have hcg := cAt_getD hkl
    have hlm : (L.map (canonC l (canonL l L))).length = L.length := by simp
    have hkm : k < (L.map (canonC l (canonL l L))).length := by omega
    repeat' first | simp only [SB, E, seval, rdB, ne_eq, implies_true, jck, jci, List.drop_replicate, List.set_set] | simp only [hw] | simp only [hw2] | refine T.seq ?_ | refine T.stm ?_ | refine T.rg ?_ | refine jac ?_ | refine jad ?_ | refine jae ?_ | refine T.cond ?_ | refine T.skip ?_ | refine T.ret ?_ | refine T.exit ?_ | refine T.block ?_ | refine Cos.intro [] [] rfl ?_ | refine And.intro ?_ ?_ | (intro hyp0; have hyp := hyp0; (try simp only [HB, ne_eq, reduceCtorEq] at hyp); (try simp only [hyp0]); (try clear hyp0); try (exfalso; omega; done)) | omega
    · rw [jdR, jbj hkl (by rw [hcg]; exact decide_eq_false hyp), Bool.and_false, Bool.false_and]
    · exact ⟨k + 1, ⟨by omega, jcJ (by rw [hcg]; exact decide_eq_true hyp) hall⟩, by omega, (Cos.intro [] [] rfl (by (simp only [SB, E, seval, rdB, ne_eq, implies_true, jck, jci, List.drop_replicate, List.set_set]); first | done | (repeat' apply And.intro) <;> first | rfl | omega | simp))⟩
  · repeat' first | simp only [SB, E, seval, rdB, ne_eq, implies_true, jck, jci, List.drop_replicate, List.set_set] | simp only [hw] | simp only [hw2] | refine T.seq ?_ | refine T.stm ?_ | refine T.rg ?_ | refine jac ?_ | refine jad ?_ | refine jae ?_ | refine T.cond ?_ | refine T.skip ?_ | refine T.ret ?_ | refine T.exit ?_ | refine T.block ?_ | refine Cos.intro [] [] rfl ?_ | refine And.intro ?_ ?_ | (intro hyp0; have hyp := hyp0; (try simp only [HB, ne_eq, reduceCtorEq] at hyp); (try simp only [hyp0]); (try clear hyp0); try (exfalso; omega; done)) | omega
    rw [jdR, jb1 (n := L.length) (k := k) (by omega) hall, Bool.and_true, decide_eq_true (by omega : l.length ≤ 16), Bool.true_and])
theorem jk2 : Fresh Tryz.prog E0 43 sp_rlright := Alias.fresh jk1 (fun x => rfl)
end
end Go.Proofs.YtcfkfgkndncanaaGreatDoor
