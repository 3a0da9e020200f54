/- Texts of this claim, merged by a program of this claim: FGrid. -/
import Derived.Test.YtnomaidopdgdbaaGreatDoorMm11
import Derived.Test.YtnomaidopdgdbaaGreatDoorMm5
import Derived.Test.YtnomaidopdgdbaaGreatDoorMm6
namespace Go.Proofs.YtnomaidopdgdbaaGreatDoor
set_option linter.unusedVariables false
set_option linter.unusedSimpArgs false
section
open Go.RowKit
set_option maxRecDepth 100000
set_option maxHeartbeats 4000000
theorem tq0 (a b : Nat) : ((a : Int) * (b : Int)).toNat = a * b := by rw [← Int.natCast_mul]; rfl
theorem tq1 (a b : Nat) : (((a : Int) + 1) * (b : Int)).toNat = (a + 1) * b := tq0 (a + 1) b
theorem tq2 (a b : Nat) : (a + 1) * b - a * b = b := by rw [Nat.add_mul]; omega
def fitsB (cols rows : Int) : Bool := decide (1 ≤ cols) && decide (cols ≤ 80) && decide (1 ≤ rows) && decide (rows ≤ 24)
def rowOf (L : List CD) (cols y : Nat) : List CD := (L.drop (y * cols)).take cols
def gridB (cols rows : Int) (L : List CD) : Bool := fitsB cols rows && ((L.length : Int) == cols * rows) && (List.range rows.toNat).all (fun y => rowB_ (rowOf L cols.toNat y))
theorem row_cw {L : List CD} (h : CWs L) (n y : Nat) : CWs (rowOf L n y) := fun c hc => h c (List.mem_of_mem_drop (List.mem_of_mem_take hc))
theorem mul_facts {y n N : Nat} (h : (y + 1) * n ≤ N) : 0 ≤ (y : Int) * n ∧ (y : Int) * n ≤ N ∧ 0 ≤ ((y : Int) + 1) * n ∧ ((y : Int) + 1) * n ≤ N ∧ ((y : Int) + 1) * n = y * n + n := by
  have h1 : ((y : Int) + 1) * n = y * n + n := by rw [Int.add_mul, Int.one_mul]
  have h2 : (0 : Int) ≤ (y : Int) * n := Int.mul_nonneg (by omega) (by omega)
  have h3 : (((y + 1) * n : Nat) : Int) = ((y : Int) + 1) * n := by simp
  omega
noncomputable def sp_fits : Spec := spOf (α := Int × Int) (fun ⟨k, r⟩ => [.int .i64 k, .int .i64 r]) fun ⟨k, r⟩ => (True, .ret (.bool (fitsB k r)))
theorem sp_fits_at (k : Int) (r : Int) : sp_fits [.int .i64 k, .int .i64 r] = some (True, .ret (.bool (fitsB k r))) := spOf_at (α := Int × Int) _ (fun ⟨k, r⟩ ⟨k', r'⟩ h => by first | simpa [CP] using h | (simp [CP] at h ⊢; grind)) (k, r)
theorem al_fits : Alias Tryz.prog E0 106 sp_fits := Alias.of fun ⟨k, r⟩ hG => TF.intro (V := (VV [] GOk.nil 19 0)) k_grid_fits rfl rfl (by
  dsimp only at hG ⊢
  repeat' first | simp only [SB, E, seval, rdB, ne_eq, implies_true, tq0, tq1, tq2] | refine T.seq ?_ | refine T.stm ?_ | refine T.rg ?_ | refine wpR_o ?_ | refine wpR_g ?_ | refine wpR_e ?_ | refine T.cond ?_ | refine T.skip ?_ | refine T.ret ?_ | refine T.exit ?_ | refine T.block ?_ | refine Cos.intro [] [] rfl ?_ | refine And.intro ?_ ?_ | (intro hyp0; have hyp := hyp0; (try simp only [HB, ne_eq, reduceCtorEq] at hyp); (try simp only [hyp0]); (try clear hyp0); try (exfalso; omega; done)) | omega
  rfl)
theorem fr_fits : Fresh Tryz.prog E0 106 sp_fits := Alias.fresh al_fits (fun x => rfl)
noncomputable def sp_grow : Spec := spOf (α := Nat × Int × (List CD) × Nat) (fun ⟨n, r, L, y⟩ => [.agg [.int .i64 n, .int .i64 r, .vec .cell L], .int .i64 y]) fun ⟨n, r, L, y⟩ => ((y + 1) * n ≤ L.length ∧ L.length ≤ 1000000 ∧ y ≤ 1000000, .ret (.vec .cell (rowOf L n y)))
theorem sp_grow_at (n : Nat) (r : Int) (L : List CD) (y : Nat) : sp_grow [.agg [.int .i64 n, .int .i64 r, .vec .cell L], .int .i64 y] = some ((y + 1) * n ≤ L.length ∧ L.length ≤ 1000000 ∧ y ≤ 1000000, .ret (.vec .cell (rowOf L n y))) := spOf_at (α := Nat × Int × (List CD) × Nat) _ (fun ⟨n, r, L, y⟩ ⟨n', r', L', y'⟩ h => by first | simpa [CP] using h | (simp [CP] at h ⊢; grind)) (n, r, L, y)
theorem al_grow : Alias Tryz.prog E0 108 sp_grow := Alias.of fun ⟨n, r, L, y⟩ hG => TF.intro (V := (VV [] GOk.nil 22 0)) k_grid_row rfl rfl (by
  dsimp only at hG ⊢
  obtain ⟨h1, h2, h4⟩ := hG
  have hm := mul_facts h1
  have hm2 : (y + 1) * n = y * n + n := by rw [Nat.add_mul]; omega
  have hy : y * n ≤ 1000000 := by omega
  repeat' first | simp only [SB, E, seval, rdB, ne_eq, implies_true, tq0, tq1, tq2] | refine T.seq ?_ | refine T.stm ?_ | refine T.rg ?_ | refine wpR_o ?_ | refine wpR_g ?_ | refine wpR_e ?_ | refine T.cond ?_ | refine T.skip ?_ | refine T.ret ?_ | refine T.exit ?_ | refine T.block ?_ | refine Cos.intro [] [0, 1, 2, 3, 4, 5, 6, 7, 8, 9] rfl ?_ | refine And.intro ?_ ?_ | (intro hyp0; have hyp := hyp0; (try simp only [HB, ne_eq, reduceCtorEq] at hyp); (try simp only [hyp0]); (try clear hyp0); try (exfalso; omega; done)) | omega
  rfl)
noncomputable def sp_gmay : Spec := spOf (α := Int × Int × (List CD)) (fun ⟨k, r, L⟩ => [.agg [.int .i64 k, .int .i64 r, .vec .cell L]]) fun ⟨k, r, L⟩ => (CWs L ∧ L.length ≤ 1000000, .ret (.bool (gridB k r L)))
theorem sp_gmay_at (k : Int) (r : Int) (L : List CD) : sp_gmay [.agg [.int .i64 k, .int .i64 r, .vec .cell L]] = some (CWs L ∧ L.length ≤ 1000000, .ret (.bool (gridB k r L))) := spOf_at (α := Int × Int × (List CD)) _ (fun ⟨k, r, L⟩ ⟨k', r', L'⟩ h => by first | simpa [CP] using h | (simp [CP] at h ⊢; grind)) (k, r, L)
theorem al_gmay : Alias Tryz.prog E0 51 sp_gmay := Alias.of fun ⟨k, r, L⟩ hG => TF.intro (V := (VV [(106, conF [.any, .any] sp_fits), (108, conA [.agg [.any, .any, .sl .cell], .any] sp_grow), (107, conF [.sl .cell] sp_crow)] (.cons (chkFn_callable k_grid_fits) (Fresh.soundF fr_fits) (.cons (chkFn_callable k_grid_row) (Alias.soundA al_grow) (.cons (chkFn_callable k_cell_RowMay) (Fresh.soundF fr_crow) GOk.nil))) 32 0)) k_grid_May rfl rfl (by
  dsimp only at hG ⊢
  obtain ⟨hc, hl⟩ := hG
  have hf : fitsB k r = true → (1 ≤ k ∧ k ≤ 80) ∧ (1 ≤ r ∧ r ≤ 24) := fun h => by
    simp only [fitsB, HB, ne_eq, reduceCtorEq] at h
    omega
  have hp : fitsB k r = true → 0 ≤ k * r ∧ k * r ≤ 1920 := fun h => by
    obtain ⟨⟨a1, a2⟩, a3, a4⟩ := hf h
    exact ⟨Int.mul_nonneg (by omega) (by omega), Int.le_trans (Int.mul_le_mul_of_nonneg_right a2 (by omega)) (by omega)⟩
  repeat' first | simp only [SB, E, seval, rdB, ne_eq, implies_true, sp_fits_at, sp_grow_at, sp_crow_at, tq0, tq1, tq2] | refine T.seq ?_ | refine T.stm ?_ | refine T.rg ?_ | refine wpR_o ?_ | refine wpR_g ?_ | refine wpR_e ?_ | refine T.cond ?_ | refine T.skip ?_ | refine T.ret ?_ | refine T.exit ?_ | refine T.block ?_ | refine Cos.intro [] [] rfl ?_ | refine And.intro ?_ ?_ | (intro hyp0; have hyp := hyp0; (try simp only [HB, ne_eq, reduceCtorEq] at hyp); (try simp only [hyp0]); (try clear hyp0); try (exfalso; omega; done)) | omega
  · have := hp hyp
    omega
  · have := hp hyp
    omega
  · rcases hyp with q | q
    · simp only [gridB, q, Bool.false_and]
    · simp only [gridB, ibeq, decide_eq_false q, Bool.and_false, Bool.false_and]
  obtain ⟨hfit, hlen⟩ := hyp
  obtain ⟨⟨a1, a2⟩, a3, a4⟩ := hf hfit
  obtain ⟨n, rfl⟩ : ∃ n : Nat, k = n := ⟨k.toNat, by omega⟩
  obtain ⟨m, rfl⟩ : ∃ m : Nat, r = m := ⟨r.toNat, by omega⟩
  have hgr : gridB n m L = (List.range m).all (fun y => rowB_ (rowOf L n y)) := by
    simp only [gridB, hfit, ibeq, decide_eq_true hlen, Bool.true_and, Int.toNat_natCast]
  have hln : L.length = n * m := by
    have : (L.length : Int) = ((n * m : Nat) : Int) := by rw [hlen]; simp
    omega
  refine T.loop (fun y : Nat => ⟨[(1, .ptr 0 0 0), (22, .int .i64 m), (23, .int .i64 y)], [.box [.int .i64 n, .int .i64 m, .vec .cell L]]⟩) (fun y => y ≤ m ∧ ∀ j, j < y → rowB_ (rowOf L n j) = true) (fun y => m - y) 0 ⟨by omega, fun j hj => by omega⟩ (Cos.intro [0] [] rfl (by simp only [SB, E, seval, rdB, ne_eq, implies_true, sp_fits_at, sp_grow_at, sp_crow_at, tq0, tq1, tq2])) (fun y ⟨hy, hall⟩ => ?_)
  have hrow : y < m → (y + 1) * n ≤ L.length := fun h => by
    rw [hln, Nat.mul_comm n m]
    exact Nat.mul_le_mul_right n h
  have hcr := row_cw hc n y
  have hrl : (rowOf L n y).length ≤ 1000000 := by simp [rowOf]; omega
  repeat' first | exact hcr | simp only [SB, E, seval, rdB, ne_eq, implies_true, sp_fits_at, sp_grow_at, sp_crow_at, tq0, tq1, tq2] | refine T.seq ?_ | refine T.stm ?_ | refine T.rg ?_ | refine wpR_o ?_ | refine wpR_g ?_ | refine wpR_e ?_ | refine T.cond ?_ | refine T.skip ?_ | refine T.ret ?_ | refine T.exit ?_ | refine T.block ?_ | refine Cos.intro [] [] rfl ?_ | refine And.intro ?_ ?_ | (intro hyp0; have hyp := hyp0; (try simp only [HB, ne_eq, reduceCtorEq] at hyp); (try simp only [hyp0]); (try clear hyp0); try (exfalso; omega; done)) | omega
  · rw [hgr, range_false (by omega : y < m) hyp]
  · exact ⟨y + 1, ⟨by omega, row_yes (f := fun j => rowB_ (rowOf L n j)) hyp hall⟩, by omega, Cos.intro [0] [] rfl (by simp only [SB, E, seval, rdB, ne_eq, implies_true, sp_fits_at, sp_grow_at, sp_crow_at, tq0, tq1, tq2]; simp)⟩
  · rw [hgr, range_yes (n := m) (k := y) (by omega) hall])
theorem fr_gmay : Fresh Tryz.prog E0 51 sp_gmay := Alias.fresh al_gmay (fun x => rfl)
def rowsM (L : List CD) (k r : Nat) : List (List CD) := (List.range r).map (rowOf L k)
noncomputable def sp_rsameg : Spec := spOf (α := Int × Int × (List CD) × Int × Int × (List CD)) (fun ⟨k, r, L, k', r', L'⟩ => [.agg [.int .i64 k, .int .i64 r, .vec .cell L], .agg [.int .i64 k', .int .i64 r', .vec .cell L']]) fun ⟨k, r, L, k', r', L'⟩ => (L.length ≤ 4611686018427387904 ∧ L'.length ≤ 4611686018427387904, .ret (.bool (decide (k = k') && decide (r = r') && decide (L = L'))))
theorem sp_rsameg_at (k : Int) (r : Int) (L : List CD) (k' : Int) (r' : Int) (L' : List CD) : sp_rsameg [.agg [.int .i64 k, .int .i64 r, .vec .cell L], .agg [.int .i64 k', .int .i64 r', .vec .cell L']] = some (L.length ≤ 4611686018427387904 ∧ L'.length ≤ 4611686018427387904, .ret (.bool (decide (k = k') && decide (r = r') && decide (L = L')))) := spOf_at (α := Int × Int × (List CD) × Int × Int × (List CD)) _ (fun ⟨k, r, L, k', r', L'⟩ ⟨k', r', L', k'', r'', L''⟩ h => by first | simpa [CP] using h | (simp [CP] at h ⊢; grind)) (k, r, L, k', r', L')
theorem al_rsameg : Alias Tryz.prog E0 48 sp_rsameg := Alias.of fun ⟨k, r, L, k', r', L'⟩ hG => TF.intro (V := (VV [(23, conF [.sl .cell, .sl .cell] sp_rsame)] (.cons (chkFn_callable k_r08_Same) (Fresh.soundF fr_rsame) GOk.nil) 24 0)) k_r09_Same rfl rfl (by
  dsimp only at hG ⊢
  obtain ⟨h1, h2⟩ := hG
  repeat' first | simp only [SB, E, seval, rdB, ne_eq, implies_true, sp_rsame_at, tq0, tq1, tq2] | refine T.seq ?_ | refine T.stm ?_ | refine T.rg ?_ | refine wpR_o ?_ | refine wpR_g ?_ | refine wpR_e ?_ | refine T.cond ?_ | refine T.skip ?_ | refine T.ret ?_ | refine T.exit ?_ | refine T.block ?_ | refine Cos.intro [] [] rfl ?_ | refine And.intro ?_ ?_ | (intro hyp0; have hyp := hyp0; (try simp only [HB, ne_eq, reduceCtorEq] at hyp); (try simp only [hyp0]); (try clear hyp0); try (exfalso; omega; done)) | omega)
theorem fr_rsameg : Fresh Tryz.prog E0 48 sp_rsameg := Alias.fresh al_rsameg (fun x => rfl)
noncomputable def sp_rows : Spec := spOf (α := Int × Int × (List CD)) (fun ⟨k, r, L⟩ => [.agg [.int .i64 k, .int .i64 r, .vec .cell L]]) fun ⟨k, r, L⟩ => (CWs L ∧ L.length ≤ 1000000, .ret (.tup [.vec (.rows .cell) (if gridB k r L then rowsM L k.toNat r.toNat else []), .bool (gridB k r L)]))
theorem sp_rows_at (k : Int) (r : Int) (L : List CD) : sp_rows [.agg [.int .i64 k, .int .i64 r, .vec .cell L]] = some (CWs L ∧ L.length ≤ 1000000, .ret (.tup [.vec (.rows .cell) (if gridB k r L then rowsM L k.toNat r.toNat else []), .bool (gridB k r L)])) := spOf_at (α := Int × Int × (List CD)) _ (fun ⟨k, r, L⟩ ⟨k', r', L'⟩ h => by first | simpa [CP] using h | (simp [CP] at h ⊢; grind)) (k, r, L)
theorem al_rows : Alias Tryz.prog E0 55 sp_rows := Alias.of fun ⟨k, r, L⟩ hG => TF.intro (V := (VV [(110, conF [.sl .cell] sp_rcopy), (111, conF [.sl .cell] sp_rrow)] (.cons (chkFn_callable k_r08_Copy) (Fresh.soundF fr_rcopy) (.cons (chkFn_callable k_r08_RowMay) (Fresh.soundF fr_rrow) GOk.nil)) 66 0)) k_r09_Rows rfl rfl (by
  dsimp only at hG ⊢
  obtain ⟨hc, hl⟩ := hG
  have hf : fitsB k r = true → (1 ≤ k ∧ k ≤ 80) ∧ (1 ≤ r ∧ r ≤ 24) := fun h => by
    simp only [fitsB, HB, ne_eq, reduceCtorEq] at h
    omega
  have hp : (1 ≤ k ∧ k ≤ 80) ∧ (1 ≤ r ∧ r ≤ 24) → 0 ≤ k * r ∧ k * r ≤ 1920 := fun ⟨⟨a1, a2⟩, a3, a4⟩ =>
    ⟨Int.mul_nonneg (by omega) (by omega), Int.le_trans (Int.mul_le_mul_of_nonneg_right a2 (by omega)) (by omega)⟩
  have hg0 : (((k < 1 ∨ 80 < k) ∨ r < 1) ∨ 24 < r) ∨ ¬ (L.length : Int) = k * r → gridB k r L = false := fun h => by
    rcases h with h | h
    · have : fitsB k r = false := by
        cases e : fitsB k r with
        | false => rfl
        | true => have := hf e; omega
      simp only [gridB, this, Bool.false_and]
    · simp only [gridB, ibeq, decide_eq_false h, Bool.and_false, Bool.false_and]
  repeat' first | simp only [SB, E, seval, rdB, ne_eq, implies_true, sp_rcopy_at, sp_rrow_at, tq0, tq1, tq2] | simp only [hw] | simp only [hw2] | simp only [hw3] | refine T.seq ?_ | refine T.stm ?_ | refine T.rg ?_ | refine wpR_o ?_ | refine wpR_g ?_ | refine wpR_e ?_ | refine T.cond ?_ | refine T.skip ?_ | refine T.ret ?_ | refine T.exit ?_ | refine T.block ?_ | refine Cos.intro [] [0, 1, 2, 3, 4, 5, 6, 7, 8, 9] rfl ?_ | refine And.intro ?_ ?_ | (intro hyp0; have hyp := hyp0; (try simp only [HB, ne_eq, reduceCtorEq] at hyp); (try simp only [hyp0]); (try clear hyp0); try (exfalso; omega; done)) | omega
  · rw [hg0 hyp]
    rfl
  · exact (hg0 hyp).symm
  obtain ⟨hfit, hlen⟩ := hyp
  obtain ⟨n, rfl⟩ : ∃ n : Nat, k = n := ⟨k.toNat, by omega⟩
  obtain ⟨m, rfl⟩ : ∃ m : Nat, r = m := ⟨r.toNat, by omega⟩
  have hfb : fitsB n m = true := by simp only [fitsB, HB, ne_eq, reduceCtorEq]; omega
  have hgr : gridB n m L = (List.range m).all (fun y => rowB_ (rowOf L n y)) := by
    simp only [gridB, hfb, ibeq, decide_eq_true hlen, Bool.true_and, Int.toNat_natCast]
  have hln : L.length = n * m := by
    have : (L.length : Int) = ((n * m : Nat) : Int) := by rw [hlen]; simp
    omega
  refine T.loop (fun y : Nat => ⟨[(1, .ptr 0 0 0), (4, .slice 1 0 1 y y), (5, .int .i64 y)], [.box [.int .i64 n, .int .i64 m, .vec .cell L], .seq (.rows .cell) (rowsM L n y)]⟩) (fun y => y ≤ m ∧ ∀ j, j < y → rowB_ (rowOf L n j) = true) (fun y => m - y) 0 ⟨by omega, fun j hj => by omega⟩ (Cos.intro [0, 1] [] rfl (by simp only [SB, E, seval, rdB, ne_eq, implies_true, sp_rcopy_at, sp_rrow_at, tq0, tq1, tq2]; simp [rowsM])) (fun y ⟨hy, hall⟩ => ?_)
  have hrow : y < m → (y + 1) * n ≤ L.length := fun h => by
    rw [hln, Nat.mul_comm n m]
    exact Nat.mul_le_mul_right n h
  have hcr := row_cw hc n y
  have hrl : (rowOf L n y).length ≤ 1000000 := by simp [rowOf]; omega
  have hml : (rowsM L n y).length = y := by simp [rowsM]
  have hmf : y < m → 0 ≤ (y : Int) * n ∧ (y : Int) * n ≤ 1000000 ∧ (y : Int) * n + n ≤ L.length := fun h => by
    have := mul_facts (hrow h)
    omega
  have hw : ((y : Int) * n + n).toNat = y * n + n := by rw [← tq0, ← Int.toNat_add_nat (Int.mul_nonneg (by omega) (by omega))]
  have hw3 : List.take y (rowsM L n y) = rowsM L n y := List.take_of_length_le (by omega)
  have hw2 : List.take n (List.drop (y * n) L) = rowOf L n y := rfl
  have hno : y < m → rowB_ (rowOf L n y) = false → gridB n m L = false := fun h q => by rw [hgr, range_false h q]
  have hye : ¬ y < m → gridB n m L = true := fun h => by rw [hgr, range_yes (n := m) (k := y) h hall]
  repeat' first | exact hcr | simp only [SB, E, seval, rdB, ne_eq, implies_true, sp_rcopy_at, sp_rrow_at, tq0, tq1, tq2] | simp only [hw] | simp only [hw2] | simp only [hw3] | refine T.seq ?_ | refine T.stm ?_ | refine T.rg ?_ | refine wpR_o ?_ | refine wpR_g ?_ | refine wpR_e ?_ | refine T.cond ?_ | refine T.skip ?_ | refine T.ret ?_ | refine T.exit ?_ | refine T.block ?_ | refine Cos.intro [] [0, 1, 2, 3, 4, 5, 6, 7, 8, 9] rfl ?_ | refine And.intro ?_ ?_ | (intro hyp0; have hyp := hyp0; (try simp only [HB, ne_eq, reduceCtorEq] at hyp); (try simp only [hyp0]); (try clear hyp0); try (exfalso; omega; done)) | omega
  · rw [hno (by omega) hyp]
    rfl
  · exact (hno (by omega) hyp).symm
  · refine ⟨y + 1, ⟨by omega, row_yes (f := fun j => rowB_ (rowOf L n j)) hyp hall⟩, by omega, Cos.intro [0, 3] [] rfl ?_⟩
    have : rowsM L n (y + 1) = rowsM L n y ++ [rowOf L n y] := by simp [rowsM, List.range_succ]
    simp only [SB, E, seval, rdB, ne_eq, implies_true, sp_rcopy_at, sp_rrow_at, tq0, tq1, tq2, this, hml]
    simp
  · obtain rfl : y = m := by omega
    rw [hye (by omega)]
    rfl
  · exact (hye (by omega)).symm)
end
end Go.Proofs.YtnomaidopdgdbaaGreatDoor
