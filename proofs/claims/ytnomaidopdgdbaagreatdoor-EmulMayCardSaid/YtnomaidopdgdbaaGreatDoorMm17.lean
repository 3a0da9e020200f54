/- Texts of this claim, merged by a program of this claim: FLinks. -/
import Derived.Test.YtnomaidopdgdbaaGreatDoorMm12
import Derived.Test.YtnomaidopdgdbaaGreatDoorMm13
import Derived.Test.YtnomaidopdgdbaaGreatDoorMm6
namespace Go.Proofs.YtnomaidopdgdbaaGreatDoor
set_option linter.unusedVariables false
set_option linter.unusedSimpArgs false
section
open Go.RowKit
set_option maxRecDepth 100000
set_option maxHeartbeats 4000000
theorem strInts_at (s : ByteArray) (i : Nat) : (strInts s).getD i 0 = ((s.data.toList.getD i 0).toNat : Int) := by
  simp only [strInts, List.getD_eq_getElem?_getD, List.getElem?_map]
  cases s.data.toList[i]? <;> rfl
def chrB (s : ByteArray) (i : Nat) : Bool := decide (33 ≤ (s.data.toList.getD i 0).toNat) && decide ((s.data.toList.getD i 0).toNat ≤ 126)
theorem linkB_chr (s : ByteArray) : linkB s = (decide (1 ≤ s.size) && decide (s.size ≤ 64) && (List.range s.size).all (chrB s)) := rfl
abbrev SLen (s : ByteArray) : Prop := s.size ≤ 9223372036854775807
noncomputable def sp_lmay : Spec := spOf (α := ByteArray) (fun s => [.str s]) fun s => (SLen s, .ret (.bool (linkB s)))
theorem sp_lmay_at (s : ByteArray) : sp_lmay [.str s] = some (SLen s, .ret (.bool (linkB s))) := spOf_at (α := ByteArray) _ (fun s s' h => by first | simpa [CP] using h | (simp [CP] at h ⊢; grind)) s
theorem al_lmay : Alias Tryz.prog E0 102 sp_lmay := Alias.of fun s hG => TF.intro (V := (VV [] GOk.nil 28 0)) k_links_May rfl rfl (by
  dsimp only at hG ⊢
  repeat' first | simp only [SB, E, seval, rdB, ne_eq, implies_true, List.drop_replicate, List.set_set] | simp only [hw] | refine T.seq ?_ | refine T.stm ?_ | refine T.rg ?_ | refine wpR_o ?_ | refine wpR_g ?_ | refine wpR_e ?_ | refine T.cond ?_ | refine T.skip ?_ | refine T.ret ?_ | refine T.exit ?_ | refine T.block ?_ | refine And.intro ?_ ?_ | (intro hyp0; have hyp := hyp0; (try simp only [HB, ne_eq, reduceCtorEq] at hyp); (try simp only [hyp0]); (try clear hyp0); try (exfalso; omega; done)) | omega
  refine T.loop (fun k : Nat => ⟨[(0, .str s), (5, .int .i64 s.size), (6, .int .i64 k)], []⟩) (fun k => k ≤ s.size ∧ ∀ j, j < k → chrB s j = true) (fun k => s.size - k) 0 ⟨by omega, fun j hj => by omega⟩ (Cos.intro [] [] rfl (by (simp only [SB, E, seval, rdB, ne_eq, implies_true, List.drop_replicate, List.set_set]); first | done | (repeat' apply And.intro) <;> first | rfl | omega | simp)) (fun k ⟨hk, hall⟩ => ?_)
  have hw := strInts_at s k
  repeat' first | simp only [SB, E, seval, rdB, ne_eq, implies_true, List.drop_replicate, List.set_set] | simp only [hw] | refine T.seq ?_ | refine T.stm ?_ | refine T.rg ?_ | refine wpR_o ?_ | refine wpR_g ?_ | refine wpR_e ?_ | refine T.cond ?_ | refine T.skip ?_ | refine T.ret ?_ | refine T.exit ?_ | refine T.block ?_ | refine Cos.intro [] [] rfl ?_ | refine And.intro ?_ ?_ | (intro hyp0; have hyp := hyp0; (try simp only [HB, ne_eq, reduceCtorEq] at hyp); (try simp only [hyp0]); (try clear hyp0); try (exfalso; omega; done)) | omega
  · rw [linkB_chr, range_false (by omega : k < s.size) (by simp only [chrB, HB, ne_eq, reduceCtorEq]; omega), Bool.and_false]
  · exact ⟨k + 1, ⟨by omega, row_yes (by simp only [chrB, HB, ne_eq, reduceCtorEq]; omega) hall⟩, by omega, (Cos.intro [] [] rfl (by (simp only [SB, E, seval, rdB, ne_eq, implies_true, List.drop_replicate, List.set_set]); first | done | (repeat' apply And.intro) <;> first | rfl | omega | simp))⟩
  · rw [linkB_chr, range_yes (n := s.size) (k := k) (by omega) hall, Bool.and_true]
    rw [← Bool.decide_and, ← Bool.decide_and]
    exact decide_eq_decide.2 (by omega))
theorem fr_lmay : Fresh Tryz.prog E0 102 sp_lmay := Alias.fresh al_lmay (fun x => rfl)
noncomputable def sp_rlmay : Spec := spOf (α := ByteArray) (fun s => [.str s]) fun s => (SLen s, .ret (.bool (linkB s)))
theorem sp_rlmay_at (s : ByteArray) : sp_rlmay [.str s] = some (SLen s, .ret (.bool (linkB s))) := spOf_at (α := ByteArray) _ (fun s s' h => by first | simpa [CP] using h | (simp [CP] at h ⊢; grind)) s
theorem al_rlmay : Alias Tryz.prog E0 166 sp_rlmay := Alias.of fun s hG => TF.intro (V := (VV [] GOk.nil 28 0)) k_r10_May rfl rfl (by
  dsimp only at hG ⊢
  repeat' first | simp only [SB, E, seval, rdB, ne_eq, implies_true, List.drop_replicate, List.set_set] | simp only [hw] | refine T.seq ?_ | refine T.stm ?_ | refine T.rg ?_ | refine wpR_o ?_ | refine wpR_g ?_ | refine wpR_e ?_ | refine T.cond ?_ | refine T.skip ?_ | refine T.ret ?_ | refine T.exit ?_ | refine T.block ?_ | refine Cos.intro [] [] rfl ?_ | refine And.intro ?_ ?_ | (intro hyp0; have hyp := hyp0; (try simp only [HB, ne_eq, reduceCtorEq] at hyp); (try simp only [hyp0]); (try clear hyp0); try (exfalso; omega; done)) | omega
  · rw [linkB_chr, ← Bool.decide_and, decide_eq_false (by omega), Bool.false_and]
  refine T.loop (fun k : Nat => ⟨[(0, .str s), (3, .int .i64 k)], []⟩) (fun k => k ≤ s.size ∧ ∀ j, j < k → chrB s j = true) (fun k => s.size - k) 0 ⟨by omega, fun j hj => by omega⟩ (Cos.intro [] [] rfl (by (simp only [SB, E, seval, rdB, ne_eq, implies_true, List.drop_replicate, List.set_set]); first | done | (repeat' apply And.intro) <;> first | rfl | omega | simp)) (fun k ⟨hk, hall⟩ => ?_)
  have hw := strInts_at s k
  repeat' first | simp only [SB, E, seval, rdB, ne_eq, implies_true, List.drop_replicate, List.set_set] | simp only [hw] | refine T.seq ?_ | refine T.stm ?_ | refine T.rg ?_ | refine wpR_o ?_ | refine wpR_g ?_ | refine wpR_e ?_ | refine T.cond ?_ | refine T.skip ?_ | refine T.ret ?_ | refine T.exit ?_ | refine T.block ?_ | refine Cos.intro [] [] rfl ?_ | refine And.intro ?_ ?_ | (intro hyp0; have hyp := hyp0; (try simp only [HB, ne_eq, reduceCtorEq] at hyp); (try simp only [hyp0]); (try clear hyp0); try (exfalso; omega; done)) | omega
  · rw [linkB_chr, range_false (by omega : k < s.size) (by simp only [chrB, HB, ne_eq, reduceCtorEq]; omega), Bool.and_false]
  · exact ⟨k + 1, ⟨by omega, row_yes (by simp only [chrB, HB, ne_eq, reduceCtorEq]; omega) hall⟩, by omega, (Cos.intro [] [] rfl (by (simp only [SB, E, seval, rdB, ne_eq, implies_true, List.drop_replicate, List.set_set]); first | done | (repeat' apply And.intro) <;> first | rfl | omega | simp))⟩
  · rw [linkB_chr, range_yes (n := s.size) (k := k) (by omega) hall, Bool.and_true, ← Bool.decide_and, decide_eq_true (by omega)])
theorem fr_rlmay : Fresh Tryz.prog E0 166 sp_rlmay := Alias.fresh al_rlmay (fun x => rfl)
noncomputable def sp_sindex : Spec := spOf (α := (List ByteArray) × ByteArray) (fun ⟨l, s⟩ => [.vec .str l, .str s]) fun ⟨l, s⟩ => (l.length ≤ 4611686018427387904, .ret (.int .i64 (placeS l s)))
theorem sp_sindex_at (l : List ByteArray) (s : ByteArray) : sp_sindex [.vec .str l, .str s] = some (l.length ≤ 4611686018427387904, .ret (.int .i64 (placeS l s))) := spOf_at (α := (List ByteArray) × ByteArray) _ (fun ⟨l, s⟩ ⟨l', s'⟩ h => by first | simpa [CP] using h | (simp [CP] at h ⊢; grind)) (l, s)
theorem al_sindex : Alias Tryz.prog E0 103 sp_sindex := Alias.of fun ⟨l, s⟩ hG => TF.intro (V := (VV [] GOk.nil 19 0)) k_slices_Index_string rfl rfl (by
  dsimp only at hG ⊢
  repeat' first | simp only [SB, E, seval, rdB, ne_eq, implies_true, List.drop_replicate, List.set_set] | refine T.seq ?_ | refine T.stm ?_ | refine T.rg ?_ | refine wpR_o ?_ | refine wpR_g ?_ | refine wpR_e ?_ | refine T.cond ?_ | refine T.skip ?_ | refine T.ret ?_ | refine T.exit ?_ | refine T.block ?_ | refine And.intro ?_ ?_ | (intro hyp0; have hyp := hyp0; (try simp only [HB, ne_eq, reduceCtorEq] at hyp); (try simp only [hyp0]); (try clear hyp0); try (exfalso; omega; done)) | omega
  refine T.loop (fun k : Nat => ⟨[(0, .vec .str l), (1, .str s), (7, .int .i64 l.length), (8, .int .i64 k)], []⟩) (fun k => k ≤ l.length ∧ ∀ (j : Nat) (x : ByteArray), j < k → l[j]? = some x → sameS x s = false) (fun k => l.length - k) 0 ⟨by omega, fun j x hj => by omega⟩ (Cos.intro [] [] rfl (by (simp only [SB, E, seval, rdB, ne_eq, implies_true, List.drop_replicate, List.set_set]); first | done | (repeat' apply And.intro) <;> first | rfl | omega | simp)) (fun k ⟨hk, hall⟩ => ?_)
  repeat' first | simp only [SB, E, seval, rdB, ne_eq, implies_true, List.drop_replicate, List.set_set] | refine T.seq ?_ | refine T.stm ?_ | refine T.rg ?_ | refine wpR_o ?_ | refine wpR_g ?_ | refine wpR_e ?_ | refine T.cond ?_ | refine T.skip ?_ | refine T.ret ?_ | refine T.exit ?_ | refine T.block ?_ | refine Cos.intro [] [] rfl ?_ | refine And.intro ?_ ?_ | (intro hyp0; have hyp := hyp0; (try simp only [HB, ne_eq, reduceCtorEq] at hyp); (try simp only [hyp0]); (try clear hyp0); try (exfalso; omega; done)) | omega
  · exact (placeS_at l s k hall _ (getD_at (d := ETy.str.dflt) (by omega)) (sameS_iff.2 (hyp.symm))).symm
  · refine ⟨k + 1, ⟨by omega, fun j x hj hx => ?_⟩, by omega, (Cos.intro [] [] rfl (by (simp only [SB, E, seval, rdB, ne_eq, implies_true, List.drop_replicate, List.set_set]); first | done | (repeat' apply And.intro) <;> first | rfl | omega | simp))⟩
    by_cases e : j = k
    · subst e
      rw [getD_at (d := ETy.str.dflt) (by omega)] at hx
      cases hx
      exact sameS_false.2 (fun q => hyp (q.symm))
    · exact hall j x (by omega) hx
  · exact (placeS_no l s (fun j x hx => hall j x (by have := (List.getElem?_eq_some_iff.1 hx).1; omega) hx)).symm)
theorem fr_sindex : Fresh Tryz.prog E0 103 sp_sindex := Alias.fresh al_sindex (fun x => rfl)
noncomputable def sp_rplace : Spec := spOf (α := (List ByteArray) × ByteArray) (fun ⟨l, s⟩ => [.vec .str l, .str s]) fun ⟨l, s⟩ => (l.length ≤ 4611686018427387904, .ret (.int .i64 (placeS l s)))
theorem sp_rplace_at (l : List ByteArray) (s : ByteArray) : sp_rplace [.vec .str l, .str s] = some (l.length ≤ 4611686018427387904, .ret (.int .i64 (placeS l s))) := spOf_at (α := (List ByteArray) × ByteArray) _ (fun ⟨l, s⟩ ⟨l', s'⟩ h => by first | simpa [CP] using h | (simp [CP] at h ⊢; grind)) (l, s)
theorem al_rplace : Alias Tryz.prog E0 105 sp_rplace := Alias.of fun ⟨l, s⟩ hG => TF.intro (V := (VV [] GOk.nil 19 0)) k_r10_Place rfl rfl (by
  dsimp only at hG ⊢
  repeat' first | simp only [SB, E, seval, rdB, ne_eq, implies_true, List.drop_replicate, List.set_set] | refine T.seq ?_ | refine T.stm ?_ | refine T.rg ?_ | refine wpR_o ?_ | refine wpR_g ?_ | refine wpR_e ?_ | refine T.cond ?_ | refine T.skip ?_ | refine T.ret ?_ | refine T.exit ?_ | refine T.block ?_ | refine And.intro ?_ ?_ | (intro hyp0; have hyp := hyp0; (try simp only [HB, ne_eq, reduceCtorEq] at hyp); (try simp only [hyp0]); (try clear hyp0); try (exfalso; omega; done)) | omega
  refine T.loop (fun k : Nat => ⟨[(0, .vec .str l), (1, .str s), (5, .int .i64 k)], []⟩) (fun k => k ≤ l.length ∧ ∀ (j : Nat) (x : ByteArray), j < k → l[j]? = some x → sameS x s = false) (fun k => l.length - k) 0 ⟨by omega, fun j x hj => by omega⟩ (Cos.intro [] [] rfl (by (simp only [SB, E, seval, rdB, ne_eq, implies_true, List.drop_replicate, List.set_set]); first | done | (repeat' apply And.intro) <;> first | rfl | omega | simp)) (fun k ⟨hk, hall⟩ => ?_)
  repeat' first | simp only [SB, E, seval, rdB, ne_eq, implies_true, List.drop_replicate, List.set_set] | refine T.seq ?_ | refine T.stm ?_ | refine T.rg ?_ | refine wpR_o ?_ | refine wpR_g ?_ | refine wpR_e ?_ | refine T.cond ?_ | refine T.skip ?_ | refine T.ret ?_ | refine T.exit ?_ | refine T.block ?_ | refine Cos.intro [] [] rfl ?_ | refine And.intro ?_ ?_ | (intro hyp0; have hyp := hyp0; (try simp only [HB, ne_eq, reduceCtorEq] at hyp); (try simp only [hyp0]); (try clear hyp0); try (exfalso; omega; done)) | omega
  · exact (placeS_at l s k hall _ (getD_at (d := ETy.str.dflt) (by omega)) (sameS_iff.2 (hyp))).symm
  · refine ⟨k + 1, ⟨by omega, fun j x hj hx => ?_⟩, by omega, (Cos.intro [] [] rfl (by (simp only [SB, E, seval, rdB, ne_eq, implies_true, List.drop_replicate, List.set_set]); first | done | (repeat' apply And.intro) <;> first | rfl | omega | simp))⟩
    by_cases e : j = k
    · subst e
      rw [getD_at (d := ETy.str.dflt) (by omega)] at hx
      cases hx
      exact sameS_false.2 (fun q => hyp (q))
    · exact hall j x (by omega) hx
  · exact (placeS_no l s (fun j x hx => hall j x (by have := (List.getElem?_eq_some_iff.1 hx).1; omega) hx)).symm)
theorem fr_rplace : Fresh Tryz.prog E0 105 sp_rplace := Alias.fresh al_rplace (fun x => rfl)
noncomputable def sp_scontains : Spec := spOf (α := (List ByteArray) × ByteArray) (fun ⟨l, s⟩ => [.vec .str l, .str s]) fun ⟨l, s⟩ => (l.length ≤ 4611686018427387904, .ret (.bool (decide (0 ≤ placeS l s))))
theorem sp_scontains_at (l : List ByteArray) (s : ByteArray) : sp_scontains [.vec .str l, .str s] = some (l.length ≤ 4611686018427387904, .ret (.bool (decide (0 ≤ placeS l s)))) := spOf_at (α := (List ByteArray) × ByteArray) _ (fun ⟨l, s⟩ ⟨l', s'⟩ h => by first | simpa [CP] using h | (simp [CP] at h ⊢; grind)) (l, s)
theorem al_scontains : Alias Tryz.prog E0 109 sp_scontains := Alias.of fun ⟨l, s⟩ hG => TF.intro (V := (VV [(103, conF [.sl .str, .any] sp_sindex)] (.cons (chkFn_callable k_slices_Index_string) (Fresh.soundF fr_sindex) GOk.nil) 9 0)) k_slices_Contains_string rfl rfl (by
  dsimp only at hG ⊢
  repeat' first | simp only [SB, E, seval, rdB, ne_eq, implies_true, sp_sindex_at, List.drop_replicate, List.set_set] | refine T.seq ?_ | refine T.stm ?_ | refine T.rg ?_ | refine wpR_o ?_ | refine wpR_g ?_ | refine wpR_e ?_ | refine T.cond ?_ | refine T.skip ?_ | refine T.ret ?_ | refine T.exit ?_ | refine T.block ?_ | refine Cos.intro [] [] rfl ?_ | refine And.intro ?_ ?_ | (intro hyp0; have hyp := hyp0; (try simp only [HB, ne_eq, reduceCtorEq] at hyp); (try simp only [hyp0]); (try clear hyp0); try (exfalso; omega; done)) | omega)
theorem fr_scontains : Fresh Tryz.prog E0 109 sp_scontains := Alias.fresh al_scontains (fun x => rfl)
noncomputable def sp_rssame : Spec := spOf (α := (List ByteArray) × (List ByteArray)) (fun ⟨L, M⟩ => [.vec .str L, .vec .str M]) fun ⟨L, M⟩ => (L.length ≤ 4611686018427387904 ∧ M.length ≤ 4611686018427387904, .ret (.bool (decide (L = M))))
theorem sp_rssame_at (L : List ByteArray) (M : List ByteArray) : sp_rssame [.vec .str L, .vec .str M] = some (L.length ≤ 4611686018427387904 ∧ M.length ≤ 4611686018427387904, .ret (.bool (decide (L = M)))) := spOf_at (α := (List ByteArray) × (List ByteArray)) _ (fun ⟨L, M⟩ ⟨L', M'⟩ h => by first | simpa [CP] using h | (simp [CP] at h ⊢; grind)) (L, M)
theorem al_rssame : Alias Tryz.prog E0 47 sp_rssame := Alias.of fun ⟨L, M⟩ hG => TF.intro (V := (VV [] GOk.nil 26 0)) k_r10_Same rfl rfl (by
  dsimp only at hG ⊢
  repeat' first | simp only [SB, E, seval, rdB, ne_eq, implies_true, List.drop_replicate, List.set_set] | refine T.seq ?_ | refine T.stm ?_ | refine T.rg ?_ | refine wpR_o ?_ | refine wpR_g ?_ | refine wpR_e ?_ | refine T.cond ?_ | refine T.skip ?_ | refine T.ret ?_ | refine T.exit ?_ | refine T.block ?_ | refine Cos.intro [] [] rfl ?_ | refine And.intro ?_ ?_ | (intro hyp0; have hyp := hyp0; (try simp only [HB, ne_eq, reduceCtorEq] at hyp); (try simp only [hyp0]); (try clear hyp0); try (exfalso; omega; done)) | omega
  · exact (decide_eq_false fun e => by subst e; omega).symm
  · refine T.loop (fun k : Nat => ⟨[(0, .vec .str L), (1, .vec .str M), (12, .int .i64 L.length), (13, .int .i64 k)], []⟩) (fun k => k ≤ L.length ∧ ∀ j, j < k → L[j]? = M[j]?) (fun k => L.length - k) 0 ⟨by omega, fun j hj => by omega⟩ (Cos.intro [] [] rfl (by (simp only [SB, E, seval, rdB, ne_eq, implies_true, List.drop_replicate, List.set_set]); first | done | (repeat' apply And.intro) <;> first | rfl | omega | simp)) (fun k ⟨hk, hall⟩ => ?_)
    repeat' first | simp only [SB, E, seval, rdB, ne_eq, implies_true, List.drop_replicate, List.set_set] | refine T.seq ?_ | refine T.stm ?_ | refine T.rg ?_ | refine wpR_o ?_ | refine wpR_g ?_ | refine wpR_e ?_ | refine T.cond ?_ | refine T.skip ?_ | refine T.ret ?_ | refine T.exit ?_ | refine T.block ?_ | refine Cos.intro [] [] rfl ?_ | exact ⟨k + 1, ⟨by omega, same_step (by omega) (by omega) hyp hall⟩, by omega, (Cos.intro [] [] rfl (by (simp only [SB, E, seval, rdB, ne_eq, implies_true, List.drop_replicate, List.set_set]); first | done | (repeat' apply And.intro) <;> first | rfl | omega | simp))⟩ | refine And.intro ?_ ?_ | (intro hyp0; have hyp := hyp0; (try simp only [HB, ne_eq, reduceCtorEq] at hyp); (try simp only [hyp0]); (try clear hyp0); try (exfalso; omega; done)) | omega
    · exact (decide_eq_false fun e => by subst e; exact hyp rfl).symm
    · exact (decide_eq_true (same_end (by omega) (by omega) hall)).symm)
theorem fr_rssame : Fresh Tryz.prog E0 47 sp_rssame := Alias.fresh al_rssame (fun x => rfl)
theorem getD_memS {l : List ByteArray} {i : Nat} (h : i < l.length) : l.getD i ETy.str.dflt ∈ l := List.mem_of_getElem? (getD_at h)
theorem leads_yes {l : List ByteArray} {v : Int} (h : ¬v = 0 ∧ ¬(l.length : Int) < v) (hb : linkB (l.getD (v - 1).toNat ETy.str.dflt) = true) : leadsS l v = l.getD (v - 1).toNat ETy.str.dflt := by
  unfold leadsS
  rw [if_neg (by omega), show sAt l (v - 1).toNat = l.getD (v - 1).toNat ETy.str.dflt from rfl, if_pos hb]
theorem leads_no {l : List ByteArray} {v : Int} (h : (v = 0 ∨ (l.length : Int) < v) ∨ linkB (l.getD (v - 1).toNat ETy.str.dflt) = false) : leadsS l v = bs [] := by
  unfold leadsS
  by_cases e : v = 0 ∨ (l.length : Int) < v
  · rw [if_pos e]; rfl
  · rw [if_neg e, show sAt l (v - 1).toNat = l.getD (v - 1).toNat ETy.str.dflt from rfl, if_neg (by rw [h.resolve_left e]; decide)]; rfl
noncomputable def sp_rleads : Spec := spOf (α := (List ByteArray) × Int) (fun ⟨l, v⟩ => [.vec .str l, .int .u16 v]) fun ⟨l, v⟩ => (l.length ≤ 1000000 ∧ (0 ≤ v ∧ v < 65536) ∧ (∀ s ∈ l, SLen s), .ret (.str (leadsS l v)))
theorem sp_rleads_at (l : List ByteArray) (v : Int) : sp_rleads [.vec .str l, .int .u16 v] = some (l.length ≤ 1000000 ∧ (0 ≤ v ∧ v < 65536) ∧ (∀ s ∈ l, SLen s), .ret (.str (leadsS l v))) := spOf_at (α := (List ByteArray) × Int) _ (fun ⟨l, v⟩ ⟨l', v'⟩ h => by first | simpa [CP] using h | (simp [CP] at h ⊢; grind)) (l, v)
theorem al_rleads : Alias Tryz.prog E0 104 sp_rleads := Alias.of fun ⟨l, v⟩ hG => TF.intro (V := (VV [(166, conF [.any] sp_rlmay)] (.cons (chkFn_callable k_r10_May) (Fresh.soundF fr_rlmay) GOk.nil) 28 0)) k_r10_Leads rfl rfl (by
  dsimp only at hG ⊢
  obtain ⟨hl, hv, hs⟩ := hG
  have hw : 1 ≤ v → IntKind.u16.wrap (v - 1) = v - 1 := fun h => w_u16 (by omega)
  by_cases h0 : v = 0
  · subst h0
    repeat' first | simp only [SB, E, seval, rdB, ne_eq, implies_true, sp_rlmay_at, List.drop_replicate, List.set_set] | simp only [hw] | refine T.seq ?_ | refine T.stm ?_ | refine T.rg ?_ | refine wpR_o ?_ | refine wpR_g ?_ | refine wpR_e ?_ | refine T.cond ?_ | refine T.skip ?_ | refine T.ret ?_ | refine T.exit ?_ | refine T.block ?_ | refine Cos.intro [] [] rfl ?_ | refine And.intro ?_ ?_ | (intro hyp0; have hyp := hyp0; (try simp only [HB, ne_eq, reduceCtorEq] at hyp); (try simp only [hyp0]); (try clear hyp0); try (exfalso; omega; done)) | omega
    · exact (leads_no (Or.inl (Or.inl rfl))).symm
  · have hw := hw (by omega)
    repeat' first | simp only [SB, E, seval, rdB, ne_eq, implies_true, sp_rlmay_at, List.drop_replicate, List.set_set] | simp only [hw] | refine T.seq ?_ | refine T.stm ?_ | refine T.rg ?_ | refine wpR_o ?_ | refine wpR_g ?_ | refine wpR_e ?_ | refine T.cond ?_ | refine T.skip ?_ | refine T.ret ?_ | refine T.exit ?_ | refine T.block ?_ | refine Cos.intro [] [] rfl ?_ | refine And.intro ?_ ?_ | (intro hyp0; have hyp := hyp0; (try simp only [HB, ne_eq, reduceCtorEq] at hyp); (try simp only [hyp0]); (try clear hyp0); try (exfalso; omega; done)) | omega
    · exact hs _ (getD_memS (by omega))
    · exact (leads_no hyp).symm
    · exact (leads_yes hyp.1 hyp.2).symm)
theorem fr_rleads : Fresh Tryz.prog E0 104 sp_rleads := Alias.fresh al_rleads (fun x => rfl)
theorem linkAt_yes {l : List ByteArray} {k : Nat} (h : linkB (l.getD k ETy.str.dflt) = true ∧ ¬0 ≤ placeS (l.take k) (l.getD k ETy.str.dflt)) : linkAt l k = true := by
  show (linkB (l.getD k ETy.str.dflt) && !decide (0 ≤ placeS (l.take k) (l.getD k ETy.str.dflt))) = true
  rw [h.1, decide_eq_false h.2]; rfl
theorem linkAt_no {l : List ByteArray} {k : Nat} (h : linkB (l.getD k ETy.str.dflt) = false ∨ 0 ≤ placeS (l.take k) (l.getD k ETy.str.dflt)) : linkAt l k = false := by
  show (linkB (l.getD k ETy.str.dflt) && !decide (0 ≤ placeS (l.take k) (l.getD k ETy.str.dflt))) = false
  rcases h with h | h
  · rw [h, Bool.false_and]
  · rw [decide_eq_true h]; simp
theorem cdAt_eq {L : List CD} {k : Nat} (h : k < L.length) : L[k]? = some (L.getD k default) := getD_at h
theorem top_step {m : Nat} {L : List CD} {k : Nat} {t : Int} (hk : k < L.length) (h : topOf m (L.take k) = some t) (hn : ¬(t + 1 < (L.getD k default).link ∨ (m : Int) < (L.getD k default).link)) : topOf m (L.take (k + 1)) = some (max t (L.getD k default).link) := by
  rw [take_snoc_get (cdAt_eq hk), topOf_snoc, h]
  exact if_neg hn
theorem top_bad {m : Nat} {L : List CD} {k : Nat} {t : Int} (hk : k < L.length) (h : topOf m (L.take k) = some t) (hn : t + 1 < (L.getD k default).link ∨ (m : Int) < (L.getD k default).link) : topOf m L = none := by
  rw [← List.take_append_drop (k + 1) L]
  refine topOf_none m _ _ ?_
  rw [take_snoc_get (cdAt_eq hk), topOf_snoc, h]
  exact if_pos hn
theorem links_no {L : List CD} {l : List ByteArray} (h : topOf l.length L = none) : linksB L l = false := by
  simp [linksB, h]
theorem getD_memC {L : List CD} {k : Nat} (h : k < L.length) : L.getD k default ∈ L := List.mem_of_getElem? (getD_at h)
noncomputable def sp_lright : Spec := spOf (α := (List CD) × (List ByteArray)) (fun ⟨L, l⟩ => [.vec .cell L, .vec .str l]) fun ⟨L, l⟩ => (L.length ≤ 1000000 ∧ l.length ≤ 4611686018427387904 ∧ (∀ s ∈ l, SLen s) ∧ (∀ c ∈ L, 0 ≤ c.link ∧ c.link < 65536), .ret (.bool (linksB L l)))
theorem sp_lright_at (L : List CD) (l : List ByteArray) : sp_lright [.vec .cell L, .vec .str l] = some (L.length ≤ 1000000 ∧ l.length ≤ 4611686018427387904 ∧ (∀ s ∈ l, SLen s) ∧ (∀ c ∈ L, 0 ≤ c.link ∧ c.link < 65536), .ret (.bool (linksB L l))) := spOf_at (α := (List CD) × (List ByteArray)) _ (fun ⟨L, l⟩ ⟨L', l'⟩ h => by first | simpa [CP] using h | (simp [CP] at h ⊢; grind)) (L, l)
theorem al_lright : Alias Tryz.prog E0 52 sp_lright := Alias.of fun ⟨L, l⟩ hG => TF.intro (V := (VV [(102, conF [.any] sp_lmay), (109, conF [.sl .str, .any] sp_scontains)] (.cons (chkFn_callable k_links_May) (Fresh.soundF fr_lmay) (.cons (chkFn_callable k_slices_Contains_string) (Fresh.soundF fr_scontains) GOk.nil)) 61 0)) k_links_Right rfl rfl (by
  dsimp only at hG ⊢
  obtain ⟨hL, hl, hs, hc⟩ := hG
  repeat' first | simp only [SB, E, seval, rdB, ne_eq, implies_true, sp_lmay_at, sp_scontains_at, List.drop_replicate, List.set_set] | refine T.seq ?_ | refine T.stm ?_ | refine T.rg ?_ | refine wpR_o ?_ | refine wpR_g ?_ | refine wpR_e ?_ | refine T.cond ?_ | refine T.skip ?_ | refine T.ret ?_ | refine T.exit ?_ | refine T.block ?_ | refine Cos.intro [] [] rfl ?_ | refine And.intro ?_ ?_ | (intro hyp0; have hyp := hyp0; (try simp only [HB, ne_eq, reduceCtorEq] at hyp); (try simp only [hyp0]); (try clear hyp0); try (exfalso; omega; done)) | omega
  · simp only [linksB, decide_eq_false (by omega : ¬l.length ≤ 16), Bool.false_and]
  refine T.loop (fun k : Nat => ⟨[(0, .vec .cell L), (1, .vec .str l), (14, .vec .str l), (15, .int .i64 l.length), (16, .int .i64 k)], []⟩) (fun k => k ≤ l.length ∧ ∀ j, j < k → linkAt l j = true) (fun k => l.length - k) 0 ⟨by omega, fun j hj => by omega⟩ (Cos.intro [] [] rfl (by (simp only [SB, E, seval, rdB, ne_eq, implies_true, sp_lmay_at, sp_scontains_at, List.drop_replicate, List.set_set]); first | done | (repeat' apply And.intro) <;> first | rfl | omega | simp)) (fun k ⟨hk, hall⟩ => ?_)
  repeat' first | simp only [SB, E, seval, rdB, ne_eq, implies_true, sp_lmay_at, sp_scontains_at, List.drop_replicate, List.set_set] | refine T.seq ?_ | refine T.stm ?_ | refine T.rg ?_ | refine wpR_o ?_ | refine wpR_g ?_ | refine wpR_e ?_ | refine T.cond ?_ | refine T.skip ?_ | refine T.ret ?_ | refine T.exit ?_ | refine T.block ?_ | refine Cos.intro [] [] rfl ?_ | refine And.intro ?_ ?_ | (intro hyp0; have hyp := hyp0; (try simp only [HB, ne_eq, reduceCtorEq] at hyp); (try simp only [hyp0]); (try clear hyp0); try (exfalso; omega; done)) | omega
  · exact hs _ (getD_memS (by omega))
  · rw [List.length_take]; omega
  · rw [linksB, range_false (by omega : k < l.length) (linkAt_no hyp), Bool.and_false, Bool.false_and]
  · exact ⟨k + 1, ⟨by omega, row_yes (linkAt_yes hyp) hall⟩, by omega, (Cos.intro [] [] rfl (by (simp only [SB, E, seval, rdB, ne_eq, implies_true, sp_lmay_at, sp_scontains_at, List.drop_replicate, List.set_set]); first | done | (repeat' apply And.intro) <;> first | rfl | omega | simp))⟩
  have hall := fun j (h : j < l.length) => hall j (by omega)
  refine T.loop (fun q : Nat × Int => ⟨[(1, .vec .str l), (7, .int .i64 q.2), (32, .vec .cell L), (33, .int .i64 L.length), (34, .int .i64 q.1)], []⟩) (fun q => q.1 ≤ L.length ∧ (0 ≤ q.2 ∧ q.2 < 65536) ∧ topOf l.length (L.take q.1) = some q.2) (fun q => L.length - q.1) (0, 0) ⟨by omega, by omega, rfl⟩ (Cos.intro [] [] rfl (by (simp only [SB, E, seval, rdB, ne_eq, implies_true, sp_lmay_at, sp_scontains_at, List.drop_replicate, List.set_set]); first | done | (repeat' apply And.intro) <;> first | rfl | omega | simp)) (fun ⟨k, t⟩ ⟨hk, ht, htop⟩ => ?_)
  dsimp only at hk ht htop ⊢
  have hck : k < L.length → 0 ≤ (L.getD k default).link ∧ (L.getD k default).link < 65536 := fun h => hc _ (getD_memC h)
  by_cases hkl : k < L.length
  · have hck := hck hkl
    repeat' first | simp only [SB, E, seval, rdB, ne_eq, implies_true, sp_lmay_at, sp_scontains_at, List.drop_replicate, List.set_set] | refine T.seq ?_ | refine T.stm ?_ | refine T.rg ?_ | refine wpR_o ?_ | refine wpR_g ?_ | refine wpR_e ?_ | refine T.cond ?_ | refine T.skip ?_ | refine T.ret ?_ | refine T.exit ?_ | refine T.block ?_ | refine Cos.intro [] [] rfl ?_ | refine And.intro ?_ ?_ | (intro hyp0; have hyp := hyp0; (try simp only [HB, ne_eq, reduceCtorEq] at hyp); (try simp only [hyp0]); (try clear hyp0); try (exfalso; omega; done)) | omega
    · exact (links_no (top_bad hkl htop (by omega))).symm
    · exact ⟨(k + 1, (L.getD k default).link), ⟨by omega, hck, by rw [top_step hkl htop (by omega)]; congr 1; omega⟩, by simp only; omega, (Cos.intro [] [] rfl (by (simp only [SB, E, seval, rdB, ne_eq, implies_true, sp_lmay_at, sp_scontains_at, List.drop_replicate, List.set_set]); first | done | (repeat' apply And.intro) <;> first | rfl | omega | simp))⟩
    · exact ⟨(k + 1, t), ⟨by omega, ht, by rw [top_step hkl htop (by omega)]; congr 1; omega⟩, by simp only; omega, (Cos.intro [] [] rfl (by (simp only [SB, E, seval, rdB, ne_eq, implies_true, sp_lmay_at, sp_scontains_at, List.drop_replicate, List.set_set]); first | done | (repeat' apply And.intro) <;> first | rfl | omega | simp))⟩
  · have e : L.take k = L := List.take_of_length_le (by omega)
    rw [e] at htop
    repeat' first | simp only [SB, E, seval, rdB, ne_eq, implies_true, sp_lmay_at, sp_scontains_at, List.drop_replicate, List.set_set] | refine T.seq ?_ | refine T.stm ?_ | refine T.rg ?_ | refine wpR_o ?_ | refine wpR_g ?_ | refine wpR_e ?_ | refine T.cond ?_ | refine T.skip ?_ | refine T.ret ?_ | refine T.exit ?_ | refine T.block ?_ | refine Cos.intro [] [] rfl ?_ | refine And.intro ?_ ?_ | (intro hyp0; have hyp := hyp0; (try simp only [HB, ne_eq, reduceCtorEq] at hyp); (try simp only [hyp0]); (try clear hyp0); try (exfalso; omega; done)) | omega
    · have ha : (List.range l.length).all (linkAt l) = true := List.all_eq_true.2 fun j hj => hall j (List.mem_range.1 hj)
      rw [linksB, htop, decide_eq_true (by omega : l.length ≤ 16), ha, Bool.true_and, Bool.true_and]
      exact decide_eq_decide.2 ⟨fun e => by rw [e], fun e => Option.some.inj e⟩)
theorem fr_lright : Fresh Tryz.prog E0 52 sp_lright := Alias.fresh al_lright (fun x => rfl)
theorem canon_step {l : List ByteArray} {L : List CD} {k : Nat} (h : k < L.length) : canonL l (L.take (k + 1)) = rlStep l (canonL l (L.take k)) (L.getD k default) := by
  rw [take_snoc_get (cdAt_eq h), canonL_snoc]
theorem bs_empty : bs [] = emptyS := rfl
theorem getD_set_same {α : Type} {M : List α} {k : Nat} {a d : α} (h : k < M.length) : (M.set k a).getD k d = a := by
  rw [List.getD_eq_getElem?_getD, List.getElem?_set_self h]
  rfl
theorem fillM {α : Type} {A : List α} {n k : Nat} {a d : α} (hA : A.length = k) (h : k < n) : (A ++ List.replicate (n - k) d).set k a = A ++ [a] ++ List.replicate (n - (k + 1)) d := by
  rw [List.set_append_right _ _ (by omega), hA, Nat.sub_self, show n - k = n - (k + 1) + 1 by omega, List.replicate_succ, List.set_cons_zero]
  simp
noncomputable def sp_rcanon : Spec := spOf (α := (List CD) × (List ByteArray)) (fun ⟨L, l⟩ => [.vec .cell L, .vec .str l]) fun ⟨L, l⟩ => (L.length ≤ 60000 ∧ l.length ≤ 60000 ∧ (∀ s ∈ l, SLen s) ∧ (∀ c ∈ L, 0 ≤ c.link ∧ c.link < 65536), .ret (.tup [.vec .cell (L.map (canonC l (canonL l L))), .vec .str (canonL l L)]))
theorem sp_rcanon_at (L : List CD) (l : List ByteArray) : sp_rcanon [.vec .cell L, .vec .str l] = some (L.length ≤ 60000 ∧ l.length ≤ 60000 ∧ (∀ s ∈ l, SLen s) ∧ (∀ c ∈ L, 0 ≤ c.link ∧ c.link < 65536), .ret (.tup [.vec .cell (L.map (canonC l (canonL l L))), .vec .str (canonL l L)])) := spOf_at (α := (List CD) × (List ByteArray)) _ (fun ⟨L, l⟩ ⟨L', l'⟩ h => by first | simpa [CP] using h | (simp [CP] at h ⊢; grind)) (L, l)
theorem fr_rcanon : Fresh Tryz.prog E0 50 sp_rcanon := Fresh.of fun ⟨L, l⟩ hG => TF.intro (V := (VV [(104, conF [.sl .str, .any] sp_rleads), (105, conF [.sl .str, .any] sp_rplace)] (.cons (chkFn_callable k_r10_Leads) (Fresh.soundF fr_rleads) (.cons (chkFn_callable k_r10_Place) (Fresh.soundF fr_rplace) GOk.nil)) 82 0)) k_r10_Canon rfl rfl (by
  dsimp only at hG ⊢
  obtain ⟨hL, hl, hs, hc⟩ := hG
  repeat' first | simp only [SB, E, seval, rdB, ne_eq, implies_true, sp_rleads_at, sp_rplace_at, List.drop_replicate, List.set_set] | simp only [hw] | simp only [hw2] | refine T.seq ?_ | refine T.stm ?_ | refine T.rg ?_ | refine wpR_o ?_ | refine wpR_g ?_ | refine wpR_e ?_ | refine T.cond ?_ | refine T.skip ?_ | refine T.ret ?_ | refine T.exit ?_ | refine T.block ?_ | refine Cos.intro [] [] rfl ?_ | refine And.intro ?_ ?_ | (intro hyp0; have hyp := hyp0; (try simp only [HB, ne_eq, reduceCtorEq] at hyp); (try simp only [hyp0]); (try clear hyp0); try (exfalso; omega; done)) | omega
  refine T.loop (fun k : Nat => ⟨[(0, .vec .cell L), (1, .vec .str l), (6, .slice 0 0 1 (canonL l (L.take k)).length (canonL l (L.take k)).length), (7, .int .i64 k)], [.seq .str (canonL l (L.take k))]⟩) (fun k => k ≤ L.length) (fun k => L.length - k) 0 (by omega) (Cos.intro [0] [] rfl (by simp only [SB, E, seval, rdB, ne_eq, implies_true, sp_rleads_at, sp_rplace_at, List.drop_replicate, List.set_set]; simp [canonL])) (fun k hk => ?_)
  have hlen : (canonL l (L.take k)).length ≤ 60000 := by
    have := canonL_len l (L.take k)
    rw [List.length_take] at this
    omega
  have hck : k < L.length → 0 ≤ (L.getD k default).link ∧ (L.getD k default).link < 65536 := fun h => hc _ (getD_memC h)
  by_cases hkl : k < L.length
  · have hck := hck hkl
    have hst := canon_step (l := l) hkl
    repeat' first | exact hs | simp only [SB, E, seval, rdB, ne_eq, implies_true, sp_rleads_at, sp_rplace_at, List.drop_replicate, List.set_set] | simp only [hw] | simp only [hw2] | refine T.seq ?_ | refine T.stm ?_ | refine T.rg ?_ | refine wpR_o ?_ | refine wpR_g ?_ | refine wpR_e ?_ | refine T.cond ?_ | refine T.skip ?_ | refine T.ret ?_ | refine T.exit ?_ | refine T.block ?_ | refine Cos.intro [] [] rfl ?_ | refine And.intro ?_ ?_ | (intro hyp0; have hyp := hyp0; (try simp only [HB, ne_eq, reduceCtorEq] at hyp); (try simp only [hyp0]); (try clear hyp0); try (exfalso; omega; done)) | omega
    · refine ⟨k + 1, by omega, by omega, Cos.intro [2] [] rfl ?_⟩
      rw [hst, rlStep, if_pos (by rw [← bs_empty]; exact hyp)]
      simp only [SB, E, seval, rdB, ne_eq, implies_true, sp_rleads_at, sp_rplace_at, List.drop_replicate, List.set_set]
      simp
    · refine ⟨k + 1, by omega, by omega, Cos.intro [0] [] rfl ?_⟩
      rw [hst, rlStep, if_neg (by rw [← bs_empty]; exact fun q => hyp.elim q.1 (fun w => w q.2))]
      simp only [SB, E, seval, rdB, ne_eq, implies_true, sp_rleads_at, sp_rplace_at, List.drop_replicate, List.set_set]
      simp
  · have e : L.take k = L := List.take_of_length_le (by omega)
    rw [e]
    repeat' first | simp only [SB, E, seval, rdB, ne_eq, implies_true, sp_rleads_at, sp_rplace_at, List.drop_replicate, List.set_set] | simp only [hw] | simp only [hw2] | refine T.seq ?_ | refine T.stm ?_ | refine T.rg ?_ | refine wpR_o ?_ | refine wpR_g ?_ | refine wpR_e ?_ | refine T.cond ?_ | refine T.skip ?_ | refine T.ret ?_ | refine T.exit ?_ | refine T.block ?_ | refine Cos.intro [] [] rfl ?_ | refine And.intro ?_ ?_ | (intro hyp0; have hyp := hyp0; (try simp only [HB, ne_eq, reduceCtorEq] at hyp); (try simp only [hyp0]); (try clear hyp0); try (exfalso; omega; done)) | omega
    rw [e] at hlen
    refine T.loop (fun k : Nat => ⟨[(0, .vec .cell L), (1, .vec .str l), (6, .slice 0 0 1 (canonL l L).length (canonL l L).length), (9, .slice 1 0 6 L.length L.length), (43, .int .i64 L.length), (44, .int .i64 k)], [.seq .str (canonL l L), .seq .cell ((L.take k).map (canonC l (canonL l L)) ++ List.replicate (L.length - k) default)]⟩) (fun k => k ≤ L.length) (fun k => L.length - k) 0 (by omega) (Cos.intro [0, 1] [] rfl (by simp only [SB, E, seval, rdB, ne_eq, implies_true, sp_rleads_at, sp_rplace_at, List.drop_replicate, List.set_set]; simp)) (fun k hk => ?_)
    have hml : ((L.take k).map (canonC l (canonL l L))).length = k := by simp; omega
    by_cases hkl : k < L.length
    · have hck := hc _ (getD_memC hkl)
      have hn := canonN_lo l (canonL l L) (L.getD k default).link
      have hw : ∀ a : CD, (((L.take k).map (canonC l (canonL l L)) ++ List.replicate (L.length - k) default).set k a).getD k default = a := fun a => getD_set_same (by simp; omega)
      have hts : ((L.take k).map (canonC l (canonL l L)) ++ List.replicate (L.length - k) default).set k (canonC l (canonL l L) (L.getD k default)) = (L.take (k + 1)).map (canonC l (canonL l L)) ++ List.replicate (L.length - (k + 1)) default := by
        rw [take_snoc_get (cdAt_eq hkl), List.map_append, fillM (by simp; omega) hkl]
        rfl
      by_cases hb : leadsS l (L.getD k default).link = bs []
      · have hcn : canonC l (canonL l L) (L.getD k default) = { L.getD k default with link := 0 } := by
          rw [canonC, canonN, if_pos (hb.trans bs_empty)]
          rfl
        rw [hcn] at hts
        repeat' first | exact hs | exact absurd hyp hb | exact absurd hb hyp | simp only [SB, E, seval, rdB, ne_eq, implies_true, sp_rleads_at, sp_rplace_at, List.drop_replicate, List.set_set] | simp only [hw] | simp only [hw2] | refine T.seq ?_ | refine T.stm ?_ | refine T.rg ?_ | refine wpR_o ?_ | refine wpR_g ?_ | refine wpR_e ?_ | refine T.cond ?_ | refine T.skip ?_ | refine T.ret ?_ | refine T.exit ?_ | refine T.block ?_ | refine Cos.intro [] [] rfl ?_ | refine And.intro ?_ ?_ | (intro hyp0; have hyp := hyp0; (try simp only [HB, ne_eq, reduceCtorEq] at hyp); (try simp only [hyp0]); (try clear hyp0); try (exfalso; omega; done)) | omega
        refine ⟨k + 1, by omega, by omega, Cos.intro [0, 1] [] rfl ?_⟩
        rw [hts]
        simp only [SB, E, seval, rdB, ne_eq, implies_true, sp_rleads_at, sp_rplace_at, List.drop_replicate, List.set_set]
        simp
      · have hcn : canonN l (canonL l L) (L.getD k default).link = placeS (canonL l L) (leadsS l (L.getD k default).link) + 1 := if_neg hb
        have hcc : canonC l (canonL l L) (L.getD k default) = { L.getD k default with link := placeS (canonL l L) (leadsS l (L.getD k default).link) + 1 } := by
          rw [canonC, hcn]
          rfl
        have hw2 : IntKind.u16.wrap (placeS (canonL l L) (leadsS l (L.getD k default).link) + 1) = placeS (canonL l L) (leadsS l (L.getD k default).link) + 1 := w_u16 (by omega)
        rw [hcc] at hts
        repeat' first | exact hs | exact absurd hyp hb | exact absurd hb hyp | simp only [SB, E, seval, rdB, ne_eq, implies_true, sp_rleads_at, sp_rplace_at, List.drop_replicate, List.set_set] | simp only [hw] | simp only [hw2] | refine T.seq ?_ | refine T.stm ?_ | refine T.rg ?_ | refine wpR_o ?_ | refine wpR_g ?_ | refine wpR_e ?_ | refine T.cond ?_ | refine T.skip ?_ | refine T.ret ?_ | refine T.exit ?_ | refine T.block ?_ | refine Cos.intro [] [] rfl ?_ | refine And.intro ?_ ?_ | (intro hyp0; have hyp := hyp0; (try simp only [HB, ne_eq, reduceCtorEq] at hyp); (try simp only [hyp0]); (try clear hyp0); try (exfalso; omega; done)) | omega
        refine ⟨k + 1, by omega, by omega, Cos.intro [0, 1] [] rfl ?_⟩
        rw [hts]
        simp only [SB, E, seval, rdB, ne_eq, implies_true, sp_rleads_at, sp_rplace_at, List.drop_replicate, List.set_set]
        simp
    · have e : L.take k = L := List.take_of_length_le (by omega)
      rw [e]
      have hlm : (L.map (canonC l (canonL l L))).length = L.length := by simp
      rw [show L.length - k = 0 by omega, List.replicate_zero, List.append_nil]
      repeat' first | simp only [SB, E, seval, rdB, ne_eq, implies_true, sp_rleads_at, sp_rplace_at, List.drop_replicate, List.set_set] | simp only [hw] | simp only [hw2] | refine T.seq ?_ | refine T.stm ?_ | refine T.rg ?_ | refine wpR_o ?_ | refine wpR_g ?_ | refine wpR_e ?_ | refine T.cond ?_ | refine T.skip ?_ | refine T.ret ?_ | refine T.exit ?_ | refine T.block ?_ | refine Cos.intro [1, 0] [] rfl ?_ | refine And.intro ?_ ?_ | (intro hyp0; have hyp := hyp0; (try simp only [HB, ne_eq, reduceCtorEq] at hyp); (try simp only [hyp0]); (try clear hyp0); try (exfalso; omega; done)) | omega)
theorem canon_getD {l : List ByteArray} {L : List CD} {k : Nat} (h : k < L.length) : (L.map (canonC l (canonL l L))).getD k default = canonC l (canonL l L) (L.getD k default) := by
  rw [List.getD_eq_getElem?_getD, List.getElem?_map, cdAt_eq h]
  rfl
theorem cAt_getD {L : List CD} {k : Nat} (h : k < L.length) : cAt L k = L.getD k default := cAt_of (cdAt_eq h)
noncomputable def sp_rlright : Spec := spOf (α := (List CD) × (List ByteArray)) (fun ⟨L, l⟩ => [.vec .cell L, .vec .str l]) fun ⟨L, l⟩ => (L.length ≤ 60000 ∧ l.length ≤ 60000 ∧ (∀ s ∈ l, SLen s) ∧ (∀ c ∈ L, 0 ≤ c.link ∧ c.link < 65536), .ret (.bool (rlinksB L l)))
theorem sp_rlright_at (L : List CD) (l : List ByteArray) : sp_rlright [.vec .cell L, .vec .str l] = some (L.length ≤ 60000 ∧ l.length ≤ 60000 ∧ (∀ s ∈ l, SLen s) ∧ (∀ c ∈ L, 0 ≤ c.link ∧ c.link < 65536), .ret (.bool (rlinksB L l))) := spOf_at (α := (List CD) × (List ByteArray)) _ (fun ⟨L, l⟩ ⟨L', l'⟩ h => by first | simpa [CP] using h | (simp [CP] at h ⊢; grind)) (L, l)
theorem al_rlright : Alias Tryz.prog E0 56 sp_rlright := Alias.of fun ⟨L, l⟩ hG => TF.intro (V := (VV [(50, conF [.sl .cell, .sl .str] sp_rcanon), (47, conF [.sl .str, .sl .str] sp_rssame)] (.cons (chkFn_callable k_r10_Canon) (Fresh.soundF fr_rcanon) (.cons (chkFn_callable k_r10_Same) (Fresh.soundF fr_rssame) GOk.nil)) 39 0)) k_r10_Right rfl rfl (by
  dsimp only at hG ⊢
  obtain ⟨hL, hl, hs, hc⟩ := hG
  have hm := canonL_len l L
  repeat' first | exact hs | exact hc | simp only [SB, E, seval, rdB, ne_eq, implies_true, sp_rcanon_at, sp_rssame_at, List.drop_replicate, List.set_set] | simp only [hw] | simp only [hw2] | refine T.seq ?_ | refine T.stm ?_ | refine T.rg ?_ | refine wpR_o ?_ | refine wpR_g ?_ | refine wpR_e ?_ | refine T.cond ?_ | refine T.skip ?_ | refine T.ret ?_ | refine T.exit ?_ | refine T.block ?_ | refine Cos.intro [] [] rfl ?_ | refine And.intro ?_ ?_ | (intro hyp0; have hyp := hyp0; (try simp only [HB, ne_eq, reduceCtorEq] at hyp); (try simp only [hyp0]); (try clear hyp0); try (exfalso; omega; done)) | omega
  · simp only [rlinksB, decide_eq_false (by omega : ¬l.length ≤ 16), Bool.false_and]
  have hmm : (canonL l L).length ≤ 4611686018427387904 := by omega
  refine T.loop (fun k : Nat => ⟨[(0, .vec .cell L), (1, .vec .str l), (5, .vec .cell (L.map (canonC l (canonL l L)))), (6, .vec .str (canonL l L)), (18, .int .i64 L.length), (19, .int .i64 k)], []⟩) (fun k => k ≤ L.length ∧ ∀ j, j < k → decide (canonN l (canonL l L) (cAt L j).link = (cAt L j).link) = true) (fun k => L.length - k) 0 ⟨by omega, fun j hj => by omega⟩ (Cos.intro [] [] rfl (by (simp only [SB, E, seval, rdB, ne_eq, implies_true, sp_rcanon_at, sp_rssame_at, List.drop_replicate, List.set_set]); first | done | (repeat' apply And.intro) <;> first | rfl | omega | simp)) (fun k ⟨hk, hall⟩ => ?_)
  by_cases hkl : k < L.length
  · have hw := canon_getD (l := l) hkl
    have hw2 : (canonC l (canonL l L) (L.getD k default)).link = canonN l (canonL l L) (L.getD k default).link := rfl
    have hcg := cAt_getD hkl
    have hlm : (L.map (canonC l (canonL l L))).length = L.length := by simp
    have hkm : k < (L.map (canonC l (canonL l L))).length := by omega
    repeat' first | simp only [SB, E, seval, rdB, ne_eq, implies_true, sp_rcanon_at, sp_rssame_at, List.drop_replicate, List.set_set] | simp only [hw] | simp only [hw2] | refine T.seq ?_ | refine T.stm ?_ | refine T.rg ?_ | refine wpR_o ?_ | refine wpR_g ?_ | refine wpR_e ?_ | refine T.cond ?_ | refine T.skip ?_ | refine T.ret ?_ | refine T.exit ?_ | refine T.block ?_ | refine Cos.intro [] [] rfl ?_ | refine And.intro ?_ ?_ | (intro hyp0; have hyp := hyp0; (try simp only [HB, ne_eq, reduceCtorEq] at hyp); (try simp only [hyp0]); (try clear hyp0); try (exfalso; omega; done)) | omega
    · rw [rlinksB, range_false hkl (by rw [hcg]; exact decide_eq_false hyp), Bool.and_false, Bool.false_and]
    · exact ⟨k + 1, ⟨by omega, row_yes (by rw [hcg]; exact decide_eq_true hyp) hall⟩, by omega, (Cos.intro [] [] rfl (by (simp only [SB, E, seval, rdB, ne_eq, implies_true, sp_rcanon_at, sp_rssame_at, List.drop_replicate, List.set_set]); first | done | (repeat' apply And.intro) <;> first | rfl | omega | simp))⟩
  · repeat' first | simp only [SB, E, seval, rdB, ne_eq, implies_true, sp_rcanon_at, sp_rssame_at, List.drop_replicate, List.set_set] | simp only [hw] | simp only [hw2] | refine T.seq ?_ | refine T.stm ?_ | refine T.rg ?_ | refine wpR_o ?_ | refine wpR_g ?_ | refine wpR_e ?_ | refine T.cond ?_ | refine T.skip ?_ | refine T.ret ?_ | refine T.exit ?_ | refine T.block ?_ | refine Cos.intro [] [] rfl ?_ | refine And.intro ?_ ?_ | (intro hyp0; have hyp := hyp0; (try simp only [HB, ne_eq, reduceCtorEq] at hyp); (try simp only [hyp0]); (try clear hyp0); try (exfalso; omega; done)) | omega
    rw [rlinksB, range_yes (n := L.length) (k := k) (by omega) hall, Bool.and_true, decide_eq_true (by omega : l.length ≤ 16), Bool.true_and])
theorem fr_rlright : Fresh Tryz.prog E0 56 sp_rlright := Alias.fresh al_rlright (fun x => rfl)
end
end Go.Proofs.YtnomaidopdgdbaaGreatDoor
