/- Texts of this claim, merged by a program of this claim: FRdif. -/
import Derived.Test.YtcfkfgkndncanaaDoorMp19
import Derived.Test.YtcfkfgkndncanaaDoorMp22
import Derived.Test.YtcfkfgkndncanaaDoorMp27
namespace Go.Proofs.YtcfkfgkndncanaaDoor
set_option linter.unusedVariables false
set_option linter.unusedSimpArgs false
section
open Go.RowKit
set_option maxRecDepth 100000
set_option maxHeartbeats 4000000
theorem rowsM_snoc (L : List CD) (k y : Nat) : rowsM L k (y + 1) = rowsM L k y ++ [rowOf L k y] := map_range_snoc _ _
noncomputable def sp_r8rows : Spec := spOf (α := Int × Int × (List CD) × Int × Int × Bool × Int × ByteArray × (List ByteArray)) (fun ⟨k, r, L, x, y, hd, mo, ti, l⟩ => [.agg [.int .i64 k, .int .i64 r, .vec .cell L, .int .i64 x, .int .i64 y, .bool hd, .int .u8 mo, .str ti, .vec .str l]]) fun ⟨k, r, L, x, y, hd, mo, ti, l⟩ => ((0 ≤ k ∧ k ≤ 100) ∧ (0 ≤ r ∧ r ≤ 100) ∧ L.length = k.toNat * r.toNat, .ret (.vec (.rows .cell) (rowsM L k.toNat r.toNat)))
theorem sp_r8rows_at (k : Int) (r : Int) (L : List CD) (x : Int) (y : Int) (hd : Bool) (mo : Int) (ti : ByteArray) (l : List ByteArray) : sp_r8rows [.agg [.int .i64 k, .int .i64 r, .vec .cell L, .int .i64 x, .int .i64 y, .bool hd, .int .u8 mo, .str ti, .vec .str l]] = some ((0 ≤ k ∧ k ≤ 100) ∧ (0 ≤ r ∧ r ≤ 100) ∧ L.length = k.toNat * r.toNat, .ret (.vec (.rows .cell) (rowsM L k.toNat r.toNat))) := spOf_at (α := Int × Int × (List CD) × Int × Int × Bool × Int × ByteArray × (List ByteArray)) _ (fun ⟨k, r, L, x, y, hd, mo, ti, l⟩ ⟨k', r', L', x', y', hd', mo', ti', l'⟩ h => by first | simpa [CP] using h | (simp [CP] at h ⊢; grind)) (k, r, L, x, y, hd, mo, ti, l)
theorem fr_r8rows : Fresh Tryd.prog E0 42 sp_r8rows := Fresh.of fun ⟨k, r, L, x, y, hd, mo, ti, l⟩ hG => TF.intro (V := (VV [(66, conF [.sl .cell] sp_rcopy)] (.cons (chkFn_callable k_r08_Copy) (Fresh.soundF fr_rcopy) GOk.nil) 31 0)) k_r18_rows rfl rfl (by
  dsimp only at hG ⊢
  obtain ⟨hk, hr, hL⟩ := hG
  obtain ⟨k, rfl⟩ : ∃ n : Nat, k = n := ⟨k.toNat, by omega⟩
  obtain ⟨r, rfl⟩ : ∃ n : Nat, r = n := ⟨r.toNat, by omega⟩
  simp only [Int.toNat_natCast] at hL ⊢
  have hkr : k * r ≤ 10000 := Nat.mul_le_mul (show k ≤ 100 by omega) (show r ≤ 100 by omega)
  repeat' first | simp only [SB, E, seval, rdB, ne_eq, implies_true, sp_rcopy_at, tq0, tq1, tq2, List.set_set] | simp only [hw] | simp only [hw2] | simp only [hw3] | refine T.seq ?_ | refine T.stm ?_ | refine T.rg ?_ | refine wpR_o ?_ | refine wpR_g ?_ | refine wpR_e ?_ | refine T.cond ?_ | refine T.skip ?_ | refine T.ret ?_ | refine T.exit ?_ | refine T.block ?_ | refine And.intro ?_ ?_ | (intro hyp0; have hyp := hyp0; (try simp only [HB, ne_eq, reduceCtorEq] at hyp); (try simp only [hyp0]); (try clear hyp0); try (exfalso; omega; done)) | omega
  refine T.loop (fun y' : Nat => ⟨[(1, .ptr 0 0 0), (3, .slice 1 0 1 y' y'), (4, .int .i64 y')], [.box [.int .i64 k, .int .i64 r, .vec .cell L, .int .i64 x, .int .i64 y, .bool hd, .int .u8 mo, .str ti, .vec .str l], .seq (.rows .cell) (rowsM L k y')]⟩) (fun y' => y' ≤ r) (fun y' => r - y') 0 (by omega) (Cos.intro [0, 1] [] rfl (by simp only [SB, E, seval, rdB, ne_eq, implies_true, sp_rcopy_at, tq0, tq1, tq2, List.set_set]; simp [rowsM])) (fun y' hy => ?_)
  have hrow : y' < r → (y' + 1) * k ≤ L.length := fun h => by
    rw [hL, Nat.mul_comm k r]
    exact Nat.mul_le_mul_right k h
  have hml : (rowsM L k y').length = y' := rowsM_len _ _ _
  have hmf : y' < r → 0 ≤ (y' : Int) * k ∧ (y' : Int) * k ≤ 1000000 ∧ (y' : Int) * k + k ≤ L.length := fun h => by
    have := mul_facts (hrow h)
    omega
  have hw : ((y' : Int) * k + k).toNat = y' * k + k := by rw [← tq0, ← Int.toNat_add_nat (Int.mul_nonneg (by omega) (by omega))]
  have hw3 : List.take y' (rowsM L k y') = rowsM L k y' := List.take_of_length_le (by omega)
  have hw2 : List.take k (List.drop (y' * k) L) = rowOf L k y' := rfl
  have hrl : (rowOf L k y').length ≤ 1000000 := by simp [rowOf]; omega
  by_cases hyr : y' < r
  · repeat' first | simp only [SB, E, seval, rdB, ne_eq, implies_true, sp_rcopy_at, tq0, tq1, tq2, List.set_set] | simp only [hw] | simp only [hw2] | simp only [hw3] | refine T.seq ?_ | refine T.stm ?_ | refine T.rg ?_ | refine wpR_o ?_ | refine wpR_g ?_ | refine wpR_e ?_ | refine T.cond ?_ | refine T.skip ?_ | refine T.ret ?_ | refine T.exit ?_ | refine T.block ?_ | refine And.intro ?_ ?_ | (intro hyp0; have hyp := hyp0; (try simp only [HB, ne_eq, reduceCtorEq] at hyp); (try simp only [hyp0]); (try clear hyp0); try (exfalso; omega; done)) | omega
    exact ⟨y' + 1, by omega, by omega, Cos.intro [0, 3] [] rfl (by rw [rowsM_snoc]; (simp only [SB, E, seval, rdB, ne_eq, implies_true, sp_rcopy_at, tq0, tq1, tq2, List.set_set]; first | done | ((repeat' apply And.intro) <;> first | rfl | omega | (simp; done) | (simp; omega))))⟩
  · obtain rfl : y' = r := by omega
    repeat' first | simp only [SB, E, seval, rdB, ne_eq, implies_true, sp_rcopy_at, tq0, tq1, tq2, List.set_set] | simp only [hw] | simp only [hw2] | simp only [hw3] | refine T.seq ?_ | refine T.stm ?_ | refine T.rg ?_ | refine wpR_o ?_ | refine wpR_g ?_ | refine wpR_e ?_ | refine T.cond ?_ | refine T.skip ?_ | refine T.ret ?_ | refine T.exit ?_ | refine T.block ?_ | refine And.intro ?_ ?_ | (intro hyp0; have hyp := hyp0; (try simp only [HB, ne_eq, reduceCtorEq] at hyp); (try simp only [hyp0]); (try clear hyp0); try (exfalso; omega; done)) | omega
    exact Cos.intro [1] [] rfl (by (simp only [SB, E, seval, rdB, ne_eq, implies_true, sp_rcopy_at, tq0, tq1, tq2, List.set_set]; first | done | ((repeat' apply And.intro) <;> first | rfl | omega | (simp; done) | (simp; omega)))))
theorem rect_flat {M : List (List CD)} {k r : Nat} (h : Rect M k r) : M.flatten.length = r * k := by
  rw [flat_len_ M h.row, h.len]
noncomputable def sp_r8unlike : Spec := spOf (α := (List (List CD)) × (List (List CD))) (fun ⟨A, B⟩ => [.vec (.rows .cell) A, .vec (.rows .cell) B]) fun ⟨A, B⟩ => (∃ k r, k ≤ 100 ∧ r ≤ 100 ∧ Rect A k r ∧ Rect B k r, .ret (.int .i64 (unlikeM A B A.flatten.length)))
theorem sp_r8unlike_at (A : List (List CD)) (B : List (List CD)) : sp_r8unlike [.vec (.rows .cell) A, .vec (.rows .cell) B] = some (∃ k r, k ≤ 100 ∧ r ≤ 100 ∧ Rect A k r ∧ Rect B k r, .ret (.int .i64 (unlikeM A B A.flatten.length))) := spOf_at (α := (List (List CD)) × (List (List CD))) _ (fun ⟨A, B⟩ ⟨A', B'⟩ h => by first | simpa [CP] using h | (simp [CP] at h ⊢; grind)) (A, B)
theorem al_r8unlike : Alias Tryd.prog E0 76 sp_r8unlike := Alias.of fun ⟨A, B⟩ hG => TF.intro (V := (VV [] GOk.nil 41 0)) k_r18_unlike rfl rfl (by
  dsimp only at hG ⊢
  obtain ⟨k, r, hk, hr, hA, hB⟩ := hG
  rw [rect_flat hA]
  have hla := hA.len
  have hlb := hB.len
  repeat' first | simp only [SB, E, seval, rdB, ne_eq, implies_true, tq0, tq1, tq2, List.set_set] | simp only [hw] | simp only [hw2] | refine T.seq ?_ | refine T.stm ?_ | refine T.rg ?_ | refine wpR_o ?_ | refine wpR_g ?_ | refine wpR_e ?_ | refine T.cond ?_ | refine T.skip ?_ | refine T.ret ?_ | refine T.exit ?_ | refine T.block ?_ | refine And.intro ?_ ?_ | (intro hyp0; have hyp := hyp0; (try simp only [HB, ne_eq, reduceCtorEq] at hyp); (try simp only [hyp0]); (try clear hyp0); try (exfalso; omega; done)) | omega
  refine T.loop (fun y : Nat => ⟨[(0, .vec (.rows .cell) A), (1, .vec (.rows .cell) B), (5, .int .i64 (unlikeM A B (y * k))), (9, .int .i64 r), (10, .int .i64 y)], []⟩) (fun y => y ≤ r) (fun y => r - y) 0 (by omega) (Cos.intro [] [] rfl (by simp only [SB, E, seval, rdB, ne_eq, implies_true, tq0, tq1, tq2, List.set_set]; simp [unlikeM, cntF, hla])) (fun y hy => ?_)
  by_cases hyr : y < r
  · have ha := hA.at_ hyr
    have hb := hB.at_ hyr
    have hyk : y * k ≤ 10000 := Nat.mul_le_mul (show y ≤ 100 by omega) hk
    have hw : A.getD y [] = mAt A y := rfl
    have hw2 : B.getD y [] = mAt B y := rfl
    repeat' first | simp only [SB, E, seval, rdB, ne_eq, implies_true, tq0, tq1, tq2, List.set_set] | simp only [hw] | simp only [hw2] | refine T.seq ?_ | refine T.stm ?_ | refine T.rg ?_ | refine wpR_o ?_ | refine wpR_g ?_ | refine wpR_e ?_ | refine T.cond ?_ | refine T.skip ?_ | refine T.ret ?_ | refine T.exit ?_ | refine T.block ?_ | refine And.intro ?_ ?_ | (intro hyp0; have hyp := hyp0; (try simp only [HB, ne_eq, reduceCtorEq] at hyp); (try simp only [hyp0]); (try clear hyp0); try (exfalso; omega; done)) | omega
    refine T.loop (fun x : Nat => ⟨[(0, .vec (.rows .cell) A), (1, .vec (.rows .cell) B), (5, .int .i64 (unlikeM A B (y * k + x))), (6, .int .i64 y), (9, .int .i64 r), (10, .int .i64 y), (17, .int .i64 k), (18, .int .i64 x)], []⟩) (fun x => x ≤ k) (fun x => k - x) 0 (by omega) (Cos.intro [] [] rfl (by simp only [SB, E, seval, rdB, ne_eq, implies_true, tq0, tq1, tq2, List.set_set]; simp [ha.1])) (fun x hx => ?_)
    have hcl := cntF_le (cAt A.flatten) (cAt B.flatten) (y * k + x)
    have hcs := cntF_snoc (cAt A.flatten) (cAt B.flatten) (y * k + x)
    by_cases hxk : x < k
    · have e1 : cAt A.flatten (y * k + x) = (mAt A y).getD x default := by
        rw [cAt_of ((flat_at_ A hA.row y x (by omega) hxk).trans (cdAt_eq (by omega)))]
      have e2 : cAt B.flatten (y * k + x) = (mAt B y).getD x default := by
        rw [cAt_of ((flat_at_ B hB.row y x (by omega) hxk).trans (cdAt_eq (by omega)))]
      rw [e1, e2] at hcs
      have hul : unlikeM A B (y * k + x) ≤ y * k + x := hcl
      unfold cellSame at hcs
      have hcs : unlikeM A B (y * k + (x + 1)) = unlikeM A B (y * k + x) + _ := hcs
      repeat' first | simp only [SB, E, seval, rdB, ne_eq, implies_true, tq0, tq1, tq2, List.set_set] | simp only [hw] | simp only [hw2] | refine T.seq ?_ | refine T.stm ?_ | refine T.rg ?_ | refine wpR_o ?_ | refine wpR_g ?_ | refine wpR_e ?_ | refine T.cond ?_ | refine T.skip ?_ | refine T.ret ?_ | refine T.exit ?_ | refine T.block ?_ | refine And.intro ?_ ?_ | (intro hyp0; have hyp := hyp0; (try simp only [HB, ne_eq, reduceCtorEq] at hyp); (try simp only [hyp0]); (try clear hyp0); try (exfalso; omega; done)) | omega
      · exact ⟨x + 1, by omega, by omega, Cos.intro [] [] rfl (by rw [hcs, if_neg (fun q => hyp (of_decide_eq_true q))]; (simp only [SB, E, seval, rdB, ne_eq, implies_true, tq0, tq1, tq2, List.set_set]; first | done | ((repeat' apply And.intro) <;> first | rfl | omega | (simp; done) | (simp; omega))))⟩
      · exact ⟨x + 1, by omega, by omega, Cos.intro [] [] rfl (by rw [hcs, if_pos (decide_eq_true hyp)]; (simp only [SB, E, seval, rdB, ne_eq, implies_true, tq0, tq1, tq2, List.set_set]; first | done | ((repeat' apply And.intro) <;> first | rfl | omega | (simp; done) | (simp; omega))))⟩
    · obtain rfl : x = k := by omega
      repeat' first | simp only [SB, E, seval, rdB, ne_eq, implies_true, tq0, tq1, tq2, List.set_set] | simp only [hw] | simp only [hw2] | refine T.seq ?_ | refine T.stm ?_ | refine T.rg ?_ | refine wpR_o ?_ | refine wpR_g ?_ | refine wpR_e ?_ | refine T.cond ?_ | refine T.skip ?_ | refine T.ret ?_ | refine T.exit ?_ | refine T.block ?_ | refine And.intro ?_ ?_ | (intro hyp0; have hyp := hyp0; (try simp only [HB, ne_eq, reduceCtorEq] at hyp); (try simp only [hyp0]); (try clear hyp0); try (exfalso; omega; done)) | omega
      exact ⟨y + 1, by omega, by omega, Cos.intro [] [] rfl (by rw [Nat.succ_mul]; (simp only [SB, E, seval, rdB, ne_eq, implies_true, tq0, tq1, tq2, List.set_set]; first | done | ((repeat' apply And.intro) <;> first | rfl | omega | (simp; done) | (simp; omega))))⟩
  · obtain rfl : y = r := by omega
    repeat' first | simp only [SB, E, seval, rdB, ne_eq, implies_true, tq0, tq1, tq2, List.set_set] | simp only [hw] | simp only [hw2] | refine T.seq ?_ | refine T.stm ?_ | refine T.rg ?_ | refine wpR_o ?_ | refine wpR_g ?_ | refine wpR_e ?_ | refine T.cond ?_ | refine T.skip ?_ | refine T.ret ?_ | refine T.exit ?_ | refine T.block ?_ | refine Cos.intro [] [] rfl ?_ | refine And.intro ?_ ?_ | (intro hyp0; have hyp := hyp0; (try simp only [HB, ne_eq, reduceCtorEq] at hyp); (try simp only [hyp0]); (try clear hyp0); try (exfalso; omega; done)) | omega)
theorem fr_r8unlike : Fresh Tryd.prog E0 76 sp_r8unlike := Alias.fresh al_r8unlike (fun x => rfl)
noncomputable def sp_r8scrolled : Spec := spOf (α := (List (List CD)) × Int) (fun ⟨A, m⟩ => [.vec (.rows .cell) A, .int .i64 m]) fun ⟨A, m⟩ => (A.length ≤ 1000 ∧ (∀ a ∈ A, a.length ≤ 1000) ∧ (-1000 ≤ m ∧ m ≤ 1000), .ret (.vec (.rows .cell) (scrollM A m)))
theorem sp_r8scrolled_at (A : List (List CD)) (m : Int) : sp_r8scrolled [.vec (.rows .cell) A, .int .i64 m] = some (A.length ≤ 1000 ∧ (∀ a ∈ A, a.length ≤ 1000) ∧ (-1000 ≤ m ∧ m ≤ 1000), .ret (.vec (.rows .cell) (scrollM A m))) := spOf_at (α := (List (List CD)) × Int) _ (fun ⟨A, m⟩ ⟨A', m'⟩ h => by first | simpa [CP] using h | (simp [CP] at h ⊢; grind)) (A, m)
theorem al_r8scrolled : Alias Tryd.prog E0 44 sp_r8scrolled := Alias.of fun ⟨A, m⟩ hG => TF.intro (V := (VV [(66, conF [.sl .cell] sp_rcopy), (77, conF [.any, .any] sp_rblanks)] (.cons (chkFn_callable k_r08_Copy) (Fresh.soundF fr_rcopy) (.cons (chkFn_callable k_r09_Blanks) (Fresh.soundF fr_rblanks) GOk.nil)) 47 0)) k_r18_Scrolled rfl rfl (by
  dsimp only at hG ⊢
  obtain ⟨hA, hr, hm⟩ := hG
  repeat' first | simp only [SB, E, seval, rdB, ne_eq, implies_true, sp_rcopy_at, sp_rblanks_at, tq0, tq1, tq2, List.set_set] | simp only [hw3] | simp only [hw4] | refine T.seq ?_ | refine T.stm ?_ | refine T.rg ?_ | refine wpR_o ?_ | refine wpR_g ?_ | refine wpR_e ?_ | refine T.cond ?_ | refine T.skip ?_ | refine T.ret ?_ | refine T.exit ?_ | refine T.block ?_ | refine And.intro ?_ ?_ | (intro hyp0; have hyp := hyp0; (try simp only [HB, ne_eq, reduceCtorEq] at hyp); (try simp only [hyp0]); (try clear hyp0); try (exfalso; omega; done)) | omega
  refine T.loop (fun y : Nat => ⟨[(0, .vec (.rows .cell) A), (1, .int .i64 m), (5, .slice 0 0 1 y y), (9, .int .i64 A.length), (10, .int .i64 y)], [.seq (.rows .cell) ((List.range y).map (scrAt A m))]⟩) (fun y => y ≤ A.length) (fun y => A.length - y) 0 (by omega) (Cos.intro [0] [] rfl (by simp only [SB, E, seval, rdB, ne_eq, implies_true, sp_rcopy_at, sp_rblanks_at, tq0, tq1, tq2, List.set_set]; simp)) (fun y hy => ?_)
  have hml : ((List.range y).map (scrAt A m)).length = y := by simp
  have hsn := map_range_snoc (scrAt A m) y
  have hw3 : List.take y ((List.range y).map (scrAt A m)) = (List.range y).map (scrAt A m) := List.take_of_length_le (by omega)
  by_cases hya : y < A.length
  · have hay := hr _ (List.mem_of_getElem? (getD_at (d := []) hya))
    by_cases hin : 0 ≤ (y : Int) + m ∧ (y : Int) + m < A.length
    · have hs : scrAt A m y = A.getD ((y : Int) + m).toNat [] := if_pos hin
      have haz := hr _ (List.mem_of_getElem? (getD_at (d := []) (show ((y : Int) + m).toNat < A.length by omega)))
      rw [hs] at hsn
      have hw4 : blankC { fg := 0, bg := 0, attrs := 0, link := 0 } = blank0 := rfl
      repeat' first | simp only [SB, E, seval, rdB, ne_eq, implies_true, sp_rcopy_at, sp_rblanks_at, tq0, tq1, tq2, List.set_set] | simp only [hw3] | simp only [hw4] | refine T.seq ?_ | refine T.stm ?_ | refine T.rg ?_ | refine wpR_o ?_ | refine wpR_g ?_ | refine wpR_e ?_ | refine T.cond ?_ | refine T.skip ?_ | refine T.ret ?_ | refine T.exit ?_ | refine T.block ?_ | refine And.intro ?_ ?_ | (intro hyp0; have hyp := hyp0; (try simp only [HB, ne_eq, reduceCtorEq] at hyp); (try simp only [hyp0]); (try clear hyp0); try (exfalso; omega; done)) | omega
      exact ⟨y + 1, by omega, by omega, Cos.intro [2] [] rfl (by rw [hsn]; (simp only [SB, E, seval, rdB, ne_eq, implies_true, sp_rcopy_at, sp_rblanks_at, tq0, tq1, tq2, List.set_set]; first | done | ((repeat' apply And.intro) <;> first | rfl | omega | (simp; done) | (simp; omega))))⟩
    · have hs : scrAt A m y = List.replicate (A.getD y []).length blank0 := if_neg hin
      rw [hs] at hsn
      have hw4 : blankC { fg := 0, bg := 0, attrs := 0, link := 0 } = blank0 := rfl
      repeat' first | simp only [SB, E, seval, rdB, ne_eq, implies_true, sp_rcopy_at, sp_rblanks_at, tq0, tq1, tq2, List.set_set] | simp only [hw3] | simp only [hw4] | refine T.seq ?_ | refine T.stm ?_ | refine T.rg ?_ | refine wpR_o ?_ | refine wpR_g ?_ | refine wpR_e ?_ | refine T.cond ?_ | refine T.skip ?_ | refine T.ret ?_ | refine T.exit ?_ | refine T.block ?_ | refine And.intro ?_ ?_ | (intro hyp0; have hyp := hyp0; (try simp only [HB, ne_eq, reduceCtorEq] at hyp); (try simp only [hyp0]); (try clear hyp0); try (exfalso; omega; done)) | omega
      exact ⟨y + 1, by omega, by omega, Cos.intro [2] [] rfl (by rw [hsn]; (simp only [SB, E, seval, rdB, ne_eq, implies_true, sp_rcopy_at, sp_rblanks_at, tq0, tq1, tq2, List.set_set]; first | done | ((repeat' apply And.intro) <;> first | rfl | omega | (simp; done) | (simp; omega))))⟩
  · obtain rfl : y = A.length := by omega
    repeat' first | simp only [SB, E, seval, rdB, ne_eq, implies_true, sp_rcopy_at, sp_rblanks_at, tq0, tq1, tq2, List.set_set] | simp only [hw3] | simp only [hw4] | refine T.seq ?_ | refine T.stm ?_ | refine T.rg ?_ | refine wpR_o ?_ | refine wpR_g ?_ | refine wpR_e ?_ | refine T.cond ?_ | refine T.skip ?_ | refine T.ret ?_ | refine T.exit ?_ | refine T.block ?_ | refine Cos.intro [] [0, 1, 2, 3, 4, 5, 6, 7, 8, 9] rfl ?_ | refine And.intro ?_ ?_ | (intro hyp0; have hyp := hyp0; (try simp only [HB, ne_eq, reduceCtorEq] at hyp); (try simp only [hyp0]); (try clear hyp0); try (exfalso; omega; done)) | omega
    rfl)
theorem half_getD (f : CD → CD) {L : List CD} {i : Nat} (h : i < L.length) : (half f L i).getD i default = L.getD i default := by
  rw [List.getD_eq_getElem?_getD, half_get f (cdAt_eq h)]
  rfl
noncomputable def sp_r8under : Spec := spOf (α := Int × Int × (List CD) × Int × Int × Bool × Int × ByteArray × (List ByteArray) × (List ByteArray)) (fun ⟨k, r, L, x, y, hd, mo, ti, l, links⟩ => [.agg [.int .i64 k, .int .i64 r, .vec .cell L, .int .i64 x, .int .i64 y, .bool hd, .int .u8 mo, .str ti, .vec .str l], .vec .str links]) fun ⟨k, r, L, x, y, hd, mo, ti, l, links⟩ => (((0 ≤ k ∧ k ≤ 100) ∧ (0 ≤ r ∧ r ≤ 100) ∧ L.length = k.toNat * r.toNat) ∧ ScrOk L l ∧ links.length ≤ 60000, .ret (.vec (.rows .cell) ((rowsM L k.toNat r.toNat).map fun a => a.map (ruf l links))))
theorem sp_r8under_at (k : Int) (r : Int) (L : List CD) (x : Int) (y : Int) (hd : Bool) (mo : Int) (ti : ByteArray) (l : List ByteArray) (links : List ByteArray) : sp_r8under [.agg [.int .i64 k, .int .i64 r, .vec .cell L, .int .i64 x, .int .i64 y, .bool hd, .int .u8 mo, .str ti, .vec .str l], .vec .str links] = some (((0 ≤ k ∧ k ≤ 100) ∧ (0 ≤ r ∧ r ≤ 100) ∧ L.length = k.toNat * r.toNat) ∧ ScrOk L l ∧ links.length ≤ 60000, .ret (.vec (.rows .cell) ((rowsM L k.toNat r.toNat).map fun a => a.map (ruf l links)))) := spOf_at (α := Int × Int × (List CD) × Int × Int × Bool × Int × ByteArray × (List ByteArray) × (List ByteArray)) _ (fun ⟨k, r, L, x, y, hd, mo, ti, l, links⟩ ⟨k', r', L', x', y', hd', mo', ti', l', links'⟩ h => by first | simpa [CP] using h | (simp [CP] at h ⊢; grind)) (k, r, L, x, y, hd, mo, ti, l, links)
theorem al_r8under : Alias Tryd.prog E0 41 sp_r8under := Alias.of fun ⟨k, r, L, x, y, hd, mo, ti, l, links⟩ hG => TF.intro (V := (VV [(66, conT [.sl .cell] sp_rcopy), (74, conF [.sl .str, .any] sp_rleads), (75, conF [.sl .str, .any] sp_rplace)] (.cons (chkFn_callable k_r08_Copy) (Fresh.soundT fr_rcopy) (.cons (chkFn_callable k_r10_Leads) (Fresh.soundF fr_rleads) (.cons (chkFn_callable k_r10_Place) (Fresh.soundF fr_rplace) GOk.nil))) 75 0)) k_r18_Under rfl rfl (by
  dsimp only at hG ⊢
  obtain ⟨⟨hk, hr, hL⟩, hs, hlk⟩ := hG
  obtain ⟨k, rfl⟩ : ∃ n : Nat, k = n := ⟨k.toNat, by omega⟩
  obtain ⟨r, rfl⟩ : ∃ n : Nat, r = n := ⟨r.toNat, by omega⟩
  simp only [Int.toNat_natCast] at hL ⊢
  have hkr : k * r ≤ 10000 := Nat.mul_le_mul (show k ≤ 100 by omega) (show r ≤ 100 by omega)
  have hll := hs.links
  have hsl := hs.slen
  repeat' first | simp only [SB, E, seval, rdB, ne_eq, implies_true, sp_rcopy_at, sp_rleads_at, sp_rplace_at, tq0, tq1, tq2, List.set_set] | simp only [hw] | simp only [hw2] | simp only [hw3] | refine T.seq ?_ | refine T.stm ?_ | refine T.rg ?_ | refine wpR_o ?_ | refine wpR_g ?_ | refine wpR_e ?_ | refine T.cond ?_ | refine T.skip ?_ | refine T.ret ?_ | refine T.exit ?_ | refine T.block ?_ | refine And.intro ?_ ?_ | (intro hyp0; have hyp := hyp0; (try simp only [HB, ne_eq, reduceCtorEq] at hyp); (try simp only [hyp0]); (try clear hyp0); try (exfalso; omega; done)) | omega
  refine T.loop (fun y' : Nat => ⟨[(1, .vec .str links), (2, .ptr 0 0 0), (5, .slice 1 0 1 y' y'), (6, .int .i64 y')], [.box [.int .i64 k, .int .i64 r, .vec .cell L, .int .i64 x, .int .i64 y, .bool hd, .int .u8 mo, .str ti, .vec .str l], .seq (.rows .cell) ((rowsM L k y').map fun a => a.map (ruf l links))]⟩) (fun y' => y' ≤ r) (fun y' => r - y') 0 (by omega) (Cos.intro [0, 1] [] rfl (by simp only [SB, E, seval, rdB, ne_eq, implies_true, sp_rcopy_at, sp_rleads_at, sp_rplace_at, tq0, tq1, tq2, List.set_set]; simp [rowsM])) (fun y' hy => ?_)
  have hml : ((rowsM L k y').map fun a => a.map (ruf l links)).length = y' := by rw [List.length_map, rowsM_len]
  by_cases hyr : y' < r
  · have hrow : (y' + 1) * k ≤ L.length := by
      rw [hL, Nat.mul_comm k r]
      exact Nat.mul_le_mul_right k hyr
    have hmf : 0 ≤ (y' : Int) * k ∧ (y' : Int) * k ≤ 1000000 ∧ (y' : Int) * k + k ≤ L.length := by
      have := mul_facts hrow
      omega
    have hw : ((y' : Int) * k + k).toNat = y' * k + k := by rw [← tq0, ← Int.toNat_add_nat (Int.mul_nonneg (by omega) (by omega))]
    have hw2 : List.take k (List.drop (y' * k) L) = rowOf L k y' := rfl
    have hrl : (rowOf L k y').length = k := rowOf_len hL hyr
    have hw3 : List.take y' ((rowsM L k y').map fun a => a.map (ruf l links)) = (rowsM L k y').map fun a => a.map (ruf l links) := List.take_of_length_le (by omega)
    repeat' first | refine T.cut (a := z75_12) (fun _ : Unit => ⟨[(1, .vec .str links), (2, .ptr 0 0 0), (5, .slice 1 0 1 y' y'), (6, .int .i64 y'), (7, .vec .cell ((rowOf L k y').map (ruf l links)))], [.box [.int .i64 k, .int .i64 r, .vec .cell L, .int .i64 x, .int .i64 y, .bool hd, .int .u8 mo, .str ti, .vec .str l], .seq (.rows .cell) ((rowsM L k y').map fun a => a.map (ruf l links))]⟩) (fun _ => True) ?_ (fun _ _ => ?_) | simp only [SB, E, seval, rdB, ne_eq, implies_true, sp_rcopy_at, sp_rleads_at, sp_rplace_at, tq0, tq1, tq2, List.set_set] | simp only [hw] | simp only [hw2] | simp only [hw3] | refine T.seq ?_ | refine T.stm ?_ | refine T.rg ?_ | refine wpR_o ?_ | refine wpR_g ?_ | refine wpR_e ?_ | refine T.cond ?_ | refine T.skip ?_ | refine T.ret ?_ | refine T.exit ?_ | refine T.block ?_ | refine And.intro ?_ ?_ | (intro hyp0; have hyp := hyp0; (try simp only [HB, ne_eq, reduceCtorEq] at hyp); (try simp only [hyp0]); (try clear hyp0); try (exfalso; omega; done)) | omega
    · refine T.loop (fun i : Nat => ⟨[(1, .vec .str links), (2, .ptr 0 0 0), (5, .slice 1 0 1 y' y'), (6, .int .i64 y'), (7, .slice 2 0 6 k k), (34, .int .i64 k), (35, .int .i64 i)], [.box [.int .i64 k, .int .i64 r, .vec .cell L, .int .i64 x, .int .i64 y, .bool hd, .int .u8 mo, .str ti, .vec .str l], .seq (.rows .cell) ((rowsM L k y').map fun a => a.map (ruf l links)), .seq .cell (half (ruf l links) (rowOf L k y') i)]⟩) (fun i => i ≤ k) (fun i => k - i) 0 (by omega) (Cos.intro [0, 1, 2] [] rfl (by rw [half_zero]; (simp only [SB, E, seval, rdB, ne_eq, implies_true, sp_rcopy_at, sp_rleads_at, sp_rplace_at, tq0, tq1, tq2, List.set_set]; first | done | ((repeat' apply And.intro) <;> first | rfl | omega | (simp; done) | (simp; omega))))) (fun i hi => ?_)
      have hhl := half_len (ruf l links) (rowOf L k y') i
      by_cases hik : i < k
      · have hir : i < (rowOf L k y').length := by omega
        have hst := half_set (ruf l links) (cdAt_eq hir)
        have hw := half_getD (ruf l links) hir
        have hw2 : ∀ a : CD, ((half (ruf l links) (rowOf L k y') i).set i a).getD i default = a := fun a => getD_set_same (by omega)
        have hlk2 := hs.lk _ (rowOf_mem (getD_memC hir))
        have hpl := placeS_lo links (leadsS l ((rowOf L k y').getD i default).link)
        have hw3 : IntKind.u16.wrap (placeS links (leadsS l ((rowOf L k y').getD i default).link) + 1) = placeS links (leadsS l ((rowOf L k y').getD i default).link) + 1 := w_u16 (by omega)
        repeat' first | exact hsl | simp only [SB, E, seval, rdB, ne_eq, implies_true, sp_rcopy_at, sp_rleads_at, sp_rplace_at, tq0, tq1, tq2, List.set_set] | simp only [hw] | simp only [hw2] | simp only [hw3] | refine T.seq ?_ | refine T.stm ?_ | refine T.rg ?_ | refine wpR_o ?_ | refine wpR_g ?_ | refine wpR_e ?_ | refine T.cond ?_ | refine T.skip ?_ | refine T.ret ?_ | refine T.exit ?_ | refine T.block ?_ | refine And.intro ?_ ?_ | (intro hyp0; have hyp := hyp0; (try simp only [HB, ne_eq, reduceCtorEq] at hyp); (try simp only [hyp0]); (try clear hyp0); try (exfalso; omega; done)) | omega
        · have hu : ruf l links ((rowOf L k y').getD i default) = { (rowOf L k y').getD i default with link := placeS links (leadsS l ((rowOf L k y').getD i default).link) + 1 } := by
            unfold ruf rulink
            rw [if_pos ⟨hyp.1, hyp.2⟩]
            rfl
          rw [hu] at hst
          exact ⟨i + 1, by omega, by omega, Cos.intro [0, 1, 2] [] rfl (by rw [← hst]; (simp only [SB, E, seval, rdB, ne_eq, implies_true, sp_rcopy_at, sp_rleads_at, sp_rplace_at, tq0, tq1, tq2, List.set_set]; first | done | ((repeat' apply And.intro) <;> first | rfl | omega | (simp; done) | (simp; omega))))⟩
        · have hu : ruf l links ((rowOf L k y').getD i default) = { (rowOf L k y').getD i default with link := 0 } := by
            unfold ruf rulink
            rw [if_neg (fun q => hyp.elim q.1 (fun w => w q.2))]
            rfl
          rw [hu] at hst
          exact ⟨i + 1, by omega, by omega, Cos.intro [0, 1, 2] [] rfl (by rw [← hst]; (simp only [SB, E, seval, rdB, ne_eq, implies_true, sp_rcopy_at, sp_rleads_at, sp_rplace_at, tq0, tq1, tq2, List.set_set]; first | done | ((repeat' apply And.intro) <;> first | rfl | omega | (simp; done) | (simp; omega))))⟩
      · have hha := half_all (ruf l links) (rowOf L k y') i (by omega)
        have hlk3 : ((rowOf L k y').map (ruf l links)).length = k := by rw [List.length_map, hrl]
        have hw3 : List.take k ((rowOf L k y').map (ruf l links)) = (rowOf L k y').map (ruf l links) := List.take_of_length_le (by omega)
        repeat' first | simp only [SB, E, seval, rdB, ne_eq, implies_true, sp_rcopy_at, sp_rleads_at, sp_rplace_at, tq0, tq1, tq2, List.set_set] | simp only [hw] | simp only [hw2] | simp only [hw3] | refine T.seq ?_ | refine T.stm ?_ | refine T.rg ?_ | refine wpR_o ?_ | refine wpR_g ?_ | refine wpR_e ?_ | refine T.cond ?_ | refine T.skip ?_ | refine T.ret ?_ | refine T.exit ?_ | refine T.block ?_ | refine And.intro ?_ ?_ | (intro hyp0; have hyp := hyp0; (try simp only [HB, ne_eq, reduceCtorEq] at hyp); (try simp only [hyp0]); (try clear hyp0); try (exfalso; omega; done)) | omega
        refine ⟨(), Cos.intro [0, 1] [2] rfl ?_⟩
        rw [hha]
        simp only [SB, E, seval, rdB, ne_eq, implies_true, sp_rcopy_at, sp_rleads_at, sp_rplace_at, tq0, tq1, tq2, List.set_set, hw3, hlk3]
        exact ⟨Nat.le_refl _, Nat.le_refl _, Nat.le_refl _⟩
    · exact ⟨y' + 1, by omega, by omega, Cos.intro [0, 3] [] rfl (by rw [rowsM_snoc, List.map_append]; (simp only [SB, E, seval, rdB, ne_eq, implies_true, sp_rcopy_at, sp_rleads_at, sp_rplace_at, tq0, tq1, tq2, List.set_set]; first | done | ((repeat' apply And.intro) <;> first | rfl | omega | (simp; done) | (simp; omega))))⟩
  · obtain rfl : y' = r := by omega
    have hw3 : List.take y' ((rowsM L k y').map fun a => a.map (ruf l links)) = (rowsM L k y').map fun a => a.map (ruf l links) := List.take_of_length_le (by omega)
    repeat' first | simp only [SB, E, seval, rdB, ne_eq, implies_true, sp_rcopy_at, sp_rleads_at, sp_rplace_at, tq0, tq1, tq2, List.set_set] | simp only [hw] | simp only [hw2] | simp only [hw3] | refine T.seq ?_ | refine T.stm ?_ | refine T.rg ?_ | refine wpR_o ?_ | refine wpR_g ?_ | refine wpR_e ?_ | refine T.cond ?_ | refine T.skip ?_ | refine T.ret ?_ | refine T.exit ?_ | refine T.block ?_ | refine Cos.intro [] [0, 1, 2, 3, 4, 5, 6, 7, 8, 9] rfl ?_ | refine And.intro ?_ ?_ | (intro hyp0; have hyp := hyp0; (try simp only [HB, ne_eq, reduceCtorEq] at hyp); (try simp only [hyp0]); (try clear hyp0); try (exfalso; omega; done)) | omega)
theorem scr_flat {M : List (List CD)} {k r : Nat} (h : Rect M k r) (m : Int) : (scrollM M m).flatten.length = M.flatten.length := by
  rw [rect_flat (scr_rect h m), rect_flat h]
noncomputable def sp_r8best : Spec := spOf (α := (List (List CD)) × (List (List CD))) (fun ⟨A, B⟩ => [.vec (.rows .cell) A, .vec (.rows .cell) B]) fun ⟨A, B⟩ => (∃ k r, k ≤ 100 ∧ (1 ≤ r ∧ r ≤ 100) ∧ Rect A k r ∧ Rect B k r, .ret (.int .i64 (bestS (fun m => unlikeM (scrollM A m) B A.flatten.length) (A.length - 1)).1))
theorem sp_r8best_at (A : List (List CD)) (B : List (List CD)) : sp_r8best [.vec (.rows .cell) A, .vec (.rows .cell) B] = some (∃ k r, k ≤ 100 ∧ (1 ≤ r ∧ r ≤ 100) ∧ Rect A k r ∧ Rect B k r, .ret (.int .i64 (bestS (fun m => unlikeM (scrollM A m) B A.flatten.length) (A.length - 1)).1)) := spOf_at (α := (List (List CD)) × (List (List CD))) _ (fun ⟨A, B⟩ ⟨A', B'⟩ h => by first | simpa [CP] using h | (simp [CP] at h ⊢; grind)) (A, B)
theorem al_r8best : Alias Tryd.prog E0 43 sp_r8best := Alias.of fun ⟨A, B⟩ hG => TF.intro (V := (VV [(44, conA [.sl (.rows .cell), .any] sp_r8scrolled), (76, conF [.sl (.rows .cell), .sl (.rows .cell)] sp_r8unlike)] (.cons (chkFn_callable k_r18_Scrolled) (Alias.soundA al_r8scrolled) (.cons (chkFn_callable k_r18_unlike) (Fresh.soundF fr_r8unlike) GOk.nil)) 40 0)) k_r18_Best rfl rfl (by
  dsimp only at hG ⊢
  obtain ⟨k, r, hk, hr, hA, hB⟩ := hG
  have hla := hA.len
  obtain ⟨d, hD⟩ : ∃ d : Int → Nat, d = fun m => unlikeM (scrollM A m) B A.flatten.length := ⟨_, rfl⟩
  have hw : ∀ m : Int, unlikeM (scrollM A m) B (scrollM A m).flatten.length = d m := fun m => by rw [hD, scr_flat hA]
  have hw2 : unlikeM A B A.flatten.length = d 0 := by rw [hD]; simp only; rw [scroll_zero]
  have hdl : ∀ m, d m ≤ 10000 := fun m => by
    rw [hD]
    refine Nat.le_trans (cntF_le _ _ _) ?_
    rw [rect_flat hA]
    exact Nat.mul_le_mul (show r ≤ 100 by omega) hk
  have hrl : ∀ a ∈ A, a.length ≤ 1000 := fun a ha => by rw [hA.row a ha]; omega
  have hbl : ∀ j, (refS d j).2 ≤ 10000 := fun j => by
    induction j with
    | zero => exact hdl 0
    | succ j ih =>
      simp only [refS, stepB]
      have := hdl (numOf (j + 1))
      split <;> (try simp only) <;> omega
  repeat' first | exact ⟨k, r, by omega, by omega, hA, hB⟩ | simp only [SB, E, seval, rdB, ne_eq, implies_true, sp_r8scrolled_at, sp_r8unlike_at, tq0, tq1, tq2, List.set_set] | simp only [hw] | simp only [hw2] | refine T.seq ?_ | refine T.stm ?_ | refine T.rg ?_ | refine wpR_o ?_ | refine wpR_g ?_ | refine wpR_e ?_ | refine T.cond ?_ | refine T.skip ?_ | refine T.ret ?_ | refine T.exit ?_ | refine T.block ?_ | refine And.intro ?_ ?_ | (intro hyp0; have hyp := hyp0; (try simp only [HB, ne_eq, reduceCtorEq] at hyp); (try simp only [hyp0]); (try clear hyp0); try (exfalso; omega; done)) | omega
  refine T.loop (fun t : Nat => ⟨[(0, .vec (.rows .cell) A), (1, .vec (.rows .cell) B), (5, .int .i64 (refS d (t - 1)).1), (6, .int .i64 (refS d (t - 1)).2), (7, .int .i64 t)], []⟩) (fun t => 1 ≤ t ∧ t ≤ 2 * r - 1) (fun t => 2 * r - 1 - t) 1 (by omega) (Cos.intro [] [] rfl (by simp only [SB, E, seval, rdB, ne_eq, implies_true, sp_r8scrolled_at, sp_r8unlike_at, tq0, tq1, tq2, List.set_set]; simp [refS])) (fun t ht => ?_)
  have hb1 := hbl (t - 1)
  by_cases htr : t < 2 * r - 1
  · have hsn : refS d t = stepB d (refS d (t - 1)) (numOf t) := by
      obtain ⟨z, rfl⟩ : ∃ z, t = z + 1 := ⟨t - 1, by omega⟩
      rfl
    by_cases hp : (t : Int) % 2 = 0
    · have hn : numOf t = -(((t : Int) + 1) / 2) := by
        unfold numOf
        rw [if_pos (by omega)]
        omega
      rw [hn] at hsn
      repeat' first | exact hrl | exact ⟨k, r, by omega, by omega, scr_rect hA _, hB⟩ | simp only [SB, E, seval, rdB, ne_eq, implies_true, sp_r8scrolled_at, sp_r8unlike_at, tq0, tq1, tq2, List.set_set] | simp only [hw] | simp only [hw2] | refine T.seq ?_ | refine T.stm ?_ | refine T.rg ?_ | refine wpR_o ?_ | refine wpR_g ?_ | refine wpR_e ?_ | refine T.cond ?_ | refine T.skip ?_ | refine T.ret ?_ | refine T.exit ?_ | refine T.block ?_ | refine And.intro ?_ ?_ | (intro hyp0; have hyp := hyp0; (try simp only [HB, ne_eq, reduceCtorEq] at hyp); (try simp only [hyp0]); (try clear hyp0); try (exfalso; omega; done)) | omega
      · exact ⟨t + 1, by omega, by omega, Cos.intro [] [] rfl (by rw [Nat.add_sub_cancel, hsn, (stepB_cases d _ _).1 (by omega)]; (simp only [SB, E, seval, rdB, ne_eq, implies_true, sp_r8scrolled_at, sp_r8unlike_at, tq0, tq1, tq2, List.set_set]; first | done | ((repeat' apply And.intro) <;> first | rfl | omega | (simp; done) | (simp; omega))))⟩
      · exact ⟨t + 1, by omega, by omega, Cos.intro [] [] rfl (by rw [Nat.add_sub_cancel, hsn, (stepB_cases d _ _).2 (by omega)]; (simp only [SB, E, seval, rdB, ne_eq, implies_true, sp_r8scrolled_at, sp_r8unlike_at, tq0, tq1, tq2, List.set_set]; first | done | ((repeat' apply And.intro) <;> first | rfl | omega | (simp; done) | (simp; omega))))⟩
    · have hn : numOf t = ((t : Int) + 1) / 2 := by
        unfold numOf
        rw [if_neg (by omega)]
        omega
      rw [hn] at hsn
      repeat' first | exact hrl | exact ⟨k, r, by omega, by omega, scr_rect hA _, hB⟩ | simp only [SB, E, seval, rdB, ne_eq, implies_true, sp_r8scrolled_at, sp_r8unlike_at, tq0, tq1, tq2, List.set_set] | simp only [hw] | simp only [hw2] | refine T.seq ?_ | refine T.stm ?_ | refine T.rg ?_ | refine wpR_o ?_ | refine wpR_g ?_ | refine wpR_e ?_ | refine T.cond ?_ | refine T.skip ?_ | refine T.ret ?_ | refine T.exit ?_ | refine T.block ?_ | refine And.intro ?_ ?_ | (intro hyp0; have hyp := hyp0; (try simp only [HB, ne_eq, reduceCtorEq] at hyp); (try simp only [hyp0]); (try clear hyp0); try (exfalso; omega; done)) | omega
      · exact ⟨t + 1, by omega, by omega, Cos.intro [] [] rfl (by rw [Nat.add_sub_cancel, hsn, (stepB_cases d _ _).1 (by omega)]; (simp only [SB, E, seval, rdB, ne_eq, implies_true, sp_r8scrolled_at, sp_r8unlike_at, tq0, tq1, tq2, List.set_set]; first | done | ((repeat' apply And.intro) <;> first | rfl | omega | (simp; done) | (simp; omega))))⟩
      · exact ⟨t + 1, by omega, by omega, Cos.intro [] [] rfl (by rw [Nat.add_sub_cancel, hsn, (stepB_cases d _ _).2 (by omega)]; (simp only [SB, E, seval, rdB, ne_eq, implies_true, sp_r8scrolled_at, sp_r8unlike_at, tq0, tq1, tq2, List.set_set]; first | done | ((repeat' apply And.intro) <;> first | rfl | omega | (simp; done) | (simp; omega))))⟩
  · obtain rfl : t = 2 * r - 1 := by omega
    repeat' first | simp only [SB, E, seval, rdB, ne_eq, implies_true, sp_r8scrolled_at, sp_r8unlike_at, tq0, tq1, tq2, List.set_set] | simp only [hw] | simp only [hw2] | refine T.seq ?_ | refine T.stm ?_ | refine T.rg ?_ | refine wpR_o ?_ | refine wpR_g ?_ | refine wpR_e ?_ | refine T.cond ?_ | refine T.skip ?_ | refine T.ret ?_ | refine T.exit ?_ | refine T.block ?_ | refine Cos.intro [] [] rfl ?_ | refine And.intro ?_ ?_ | (intro hyp0; have hyp := hyp0; (try simp only [HB, ne_eq, reduceCtorEq] at hyp); (try simp only [hyp0]); (try clear hyp0); try (exfalso; omega; done)) | omega
    rw [hla, ← hD, show 2 * r - 1 - 1 = 2 * (r - 1) by omega, refS_best])
theorem fr_r8best : Fresh Tryd.prog E0 43 sp_r8best := Alias.fresh al_r8best (fun x => rfl)
end
end Go.Proofs.YtcfkfgkndncanaaDoor
