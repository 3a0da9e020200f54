/- Texts of this claim, merged by a program of this claim: FGrid. -/
import Derived.Test.YtcfkfgkndncanaaGreatDoorMr14
import Derived.Test.YtcfkfgkndncanaaGreatDoorMr18
import Derived.Test.YtcfkfgkndncanaaGreatDoorMr5
namespace Go.Proofs.YtcfkfgkndncanaaGreatDoor
set_option linter.unusedVariables false
set_option linter.unusedSimpArgs false
section
open Go.RowKit
set_option maxRecDepth 100000
set_option maxHeartbeats 4000000
theorem jqU {α : Type} (n k : Nat) (h : k < n) (a d : α) : (List.replicate k a ++ List.replicate (n - k) d).set k a = List.replicate (k + 1) a ++ List.replicate (n - (k + 1)) d := by
  rw [List.set_append_right _ _ (by simp), show n - k = n - (k + 1) + 1 by omega, List.replicate_succ, List.length_replicate, Nat.sub_self, List.set_cons_zero, List.replicate_succ']
  simp
theorem tq0 (a b : Nat) : ((a : Int) * (b : Int)).toNat = a * b := by rw [← Int.natCast_mul]; rfl
theorem tq1 (a b : Nat) : (((a : Int) + 1) * (b : Int)).toNat = (a + 1) * b := tq0 (a + 1) b
theorem tq2 (a b : Nat) : (a + 1) * b - a * b = b := by rw [Nat.add_mul]; omega
def jcx (cols rows : Int) : Bool := decide (1 ≤ cols) && decide (cols ≤ 80) && decide (1 ≤ rows) && decide (rows ≤ 24)
def ja5 (L : List CD) (cols y : Nat) : List CD := (L.drop (y * cols)).take cols
def jbm (cols rows : Int) (L : List CD) : Bool := jcx cols rows && ((L.length : Int) == cols * rows) && (List.range rows.toNat).all (fun y => jb7 (ja5 L cols.toNat y))
theorem joM {L : List CD} (h : CWs L) (n y : Nat) : CWs (ja5 L n y) := fun c hc => h c (List.mem_of_mem_drop (List.mem_of_mem_take hc))
theorem jdS {y n N : Nat} (h : (y + 1) * n ≤ N) : 0 ≤ (y : Int) * n ∧ (y : Int) * n ≤ N ∧ 0 ≤ ((y : Int) + 1) * n ∧ ((y : Int) + 1) * n ≤ N ∧ ((y : Int) + 1) * n = y * n + n := by
  have h1 : ((y : Int) + 1) * n = y * n + n := by rw [Int.add_mul, Int.one_mul]
  have h2 : (0 : Int) ≤ (y : Int) * n := Int.mul_nonneg (by omega) (by omega)
  have h3 : (((y + 1) * n : Nat) : Int) = ((y : Int) + 1) * n := by simp
  omega
noncomputable def sp_fits : Spec := spOf (α := Int × Int) (fun ⟨k, r⟩ => [.int .i64 k, .int .i64 r]) fun ⟨k, r⟩ => (True, .ret (.bool (jcx k r)))
theorem jbx (k : Int) (r : Int) : sp_fits [.int .i64 k, .int .i64 r] = some (True, .ret (.bool (jcx k r))) := jav (α := Int × Int) _ (fun ⟨k, r⟩ ⟨k', r'⟩ h => by first | simpa [CP] using h | (simp [CP] at h ⊢; grind)) (k, r)
theorem jpR : Alias Tryz.prog E0 96 sp_fits := Alias.of fun ⟨k, r⟩ hG => TF.intro (V := (VV [] GOk.nil 19 0)) k_grid_fits rfl rfl (by
  dsimp only at hG ⊢
  repeat' first | simp only [SB, E, seval, rdB, ne_eq, implies_true, tq0, tq1, tq2] | refine T.seq ?_ | refine T.stm ?_ | refine T.rg ?_ | refine jac ?_ | refine jad ?_ | refine jae ?_ | refine T.cond ?_ | refine T.skip ?_ | refine T.ret ?_ | refine T.exit ?_ | refine T.block ?_ | refine Cos.intro [] [] rfl ?_ | refine And.intro ?_ ?_ | (intro hyp0; have hyp := hyp0; (try simp only [HB, ne_eq, reduceCtorEq] at hyp); (try simp only [hyp0]); (try clear hyp0); try (exfalso; omega; done)) | omega
  rfl)
theorem jmk : Fresh Tryz.prog E0 96 sp_fits := Alias.fresh jpR (fun x => rfl)
noncomputable def sp_grow : Spec := spOf (α := Nat × Int × (List CD) × Nat) (fun ⟨n, r, L, y⟩ => [.agg [.int .i64 n, .int .i64 r, .vec .cell L], .int .i64 y]) fun ⟨n, r, L, y⟩ => ((y + 1) * n ≤ L.length ∧ L.length ≤ 1000000 ∧ y ≤ 1000000, .ret (.vec .cell (ja5 L n y)))
theorem ja0 (n : Nat) (r : Int) (L : List CD) (y : Nat) : sp_grow [.agg [.int .i64 n, .int .i64 r, .vec .cell L], .int .i64 y] = some ((y + 1) * n ≤ L.length ∧ L.length ≤ 1000000 ∧ y ≤ 1000000, .ret (.vec .cell (ja5 L n y))) := jav (α := Nat × Int × (List CD) × Nat) _ (fun ⟨n, r, L, y⟩ ⟨n', r', L', y'⟩ h => by first | simpa [CP] using h | (simp [CP] at h ⊢; grind)) (n, r, L, y)
theorem jml : Alias Tryz.prog E0 98 sp_grow := Alias.of fun ⟨n, r, L, y⟩ hG => TF.intro (V := (VV [] GOk.nil 22 0)) k_grid_row rfl rfl (by
  dsimp only at hG ⊢
  obtain ⟨h1, h2, h4⟩ := hG
  have hm := jdS h1
  have hm2 : (y + 1) * n = y * n + n := by rw [Nat.add_mul]; omega
  have hy : y * n ≤ 1000000 := by omega
  repeat' first | simp only [SB, E, seval, rdB, ne_eq, implies_true, tq0, tq1, tq2] | refine T.seq ?_ | refine T.stm ?_ | refine T.rg ?_ | refine jac ?_ | refine jad ?_ | refine jae ?_ | refine T.cond ?_ | refine T.skip ?_ | refine T.ret ?_ | refine T.exit ?_ | refine T.block ?_ | refine Cos.intro [] [0, 1, 2, 3, 4, 5, 6, 7, 8, 9] rfl ?_ | refine And.intro ?_ ?_ | (intro hyp0; have hyp := hyp0; (try simp only [HB, ne_eq, reduceCtorEq] at hyp); (try simp only [hyp0]); (try clear hyp0); try (exfalso; omega; done)) | omega
  rfl)
noncomputable def msp_growM : MSpec := jbV (α := Nat × Int × (List CD) × Nat × Nat × Nat × Nat) (fun ⟨n, r, L, y, i, m, c⟩ => ([.agg [.int .i64 n, .int .i64 r, .slice 0 i 6 m c], .int .i64 y], [.seq .cell L])) fun ⟨n, r, L, y, i, m, c⟩ => ((y + 1) * n ≤ m ∧ m ≤ c ∧ c ≤ 1000000 ∧ y ≤ 1000000, .ret (.slice 0 (i + y * n) 6 n n), [.seq .cell L])
theorem ja1 (n : Nat) (r : Int) (L : List CD) (y : Nat) (i : Nat) (m : Nat) (c : Nat) : msp_growM [.agg [.int .i64 n, .int .i64 r, .slice 0 i 6 m c], .int .i64 y] [.seq .cell L] = some ((y + 1) * n ≤ m ∧ m ≤ c ∧ c ≤ 1000000 ∧ y ≤ 1000000, .ret (.slice 0 (i + y * n) 6 n n), [.seq .cell L]) := jaX (α := Nat × Int × (List CD) × Nat × Nat × Nat × Nat) _ (fun ⟨n, r, L, y, i, m, c⟩ ⟨n', r', L', y', i', m', c'⟩ h => by first | rfl | simpa [CP, jaC] using h | (simp [CP, jaC] at h ⊢; grind)) (n, r, L, y, i, m, c)
theorem jn5 : MutF Tryz.prog E0 98 msp_growM := MutF.of fun ⟨n, r, L, y, i, m, c⟩ hG => TF.intro (V := (VV [] GOk.nil 22 1)) k_grid_row rfl rfl (by
  dsimp only at hG ⊢
  obtain ⟨h1, h2, h3, h4⟩ := hG
  have hm := jdS h1
  have hm2 : (y + 1) * n = y * n + n := by rw [Nat.add_mul]; omega
  have hy : y * n ≤ 1000000 := by omega
  repeat' first | simp only [SB, E, MB, seval, rdB, ne_eq, implies_true, tq0, tq1, tq2] | refine T.seq ?_ | refine T.stm ?_ | refine T.rg ?_ | refine jac ?_ | refine jad ?_ | refine jae ?_ | refine T.cond ?_ | refine T.skip ?_ | refine T.ret ?_ | refine T.exit ?_ | refine T.block ?_ | refine Cos.intro [0] [] rfl ?_ | refine And.intro ?_ ?_ | (intro hyp0; have hyp := hyp0; (try simp only [HB, ne_eq, reduceCtorEq] at hyp); (try simp only [hyp0]); (try clear hyp0); try (exfalso; omega; done)) | omega)
noncomputable def sp_gmay : Spec := spOf (α := Int × Int × (List CD)) (fun ⟨k, r, L⟩ => [.agg [.int .i64 k, .int .i64 r, .vec .cell L]]) fun ⟨k, r, L⟩ => (CWs L ∧ L.length ≤ 1000000, .ret (.bool (jbm k r L)))
theorem jcz (k : Int) (r : Int) (L : List CD) : sp_gmay [.agg [.int .i64 k, .int .i64 r, .vec .cell L]] = some (CWs L ∧ L.length ≤ 1000000, .ret (.bool (jbm k r L))) := jav (α := Int × Int × (List CD)) _ (fun ⟨k, r, L⟩ ⟨k', r', L'⟩ h => by first | simpa [CP] using h | (simp [CP] at h ⊢; grind)) (k, r, L)
theorem jpS : Alias Tryz.prog E0 56 sp_gmay := Alias.of fun ⟨k, r, L⟩ hG => TF.intro (V := (VV [(96, conF [.any, .any] sp_fits), (98, conA [.agg [.any, .any, .sl .cell], .any] sp_grow), (97, conF [.sl .cell] sp_crow)] (.cons (chkFn_callable k_grid_fits) (Fresh.soundF jmk) (.cons (chkFn_callable k_grid_row) (Alias.soundA jml) (.cons (chkFn_callable k_cell_RowMay) (Fresh.soundF jpO) GOk.nil))) 32 0)) k_grid_May rfl rfl (by
  dsimp only at hG ⊢
  obtain ⟨hc, hl⟩ := hG
  have hf : jcx k r = true → (1 ≤ k ∧ k ≤ 80) ∧ (1 ≤ r ∧ r ≤ 24) := fun h => by
    simp only [jcx, HB, ne_eq, reduceCtorEq] at h
    omega
  have hp : jcx k r = true → 0 ≤ k * r ∧ k * r ≤ 1920 := fun h => by
    obtain ⟨⟨a1, a2⟩, a3, a4⟩ := hf h
    exact ⟨Int.mul_nonneg (by omega) (by omega), Int.le_trans (Int.mul_le_mul_of_nonneg_right a2 (by omega)) (by omega)⟩
  repeat' first | simp only [SB, E, seval, rdB, ne_eq, implies_true, jbx, ja0, jd4, tq0, tq1, tq2] | refine T.seq ?_ | refine T.stm ?_ | refine T.rg ?_ | refine jac ?_ | refine jad ?_ | refine jae ?_ | refine T.cond ?_ | refine T.skip ?_ | refine T.ret ?_ | refine T.exit ?_ | refine T.block ?_ | refine Cos.intro [] [] rfl ?_ | refine And.intro ?_ ?_ | (intro hyp0; have hyp := hyp0; (try simp only [HB, ne_eq, reduceCtorEq] at hyp); (try simp only [hyp0]); (try clear hyp0); try (exfalso; omega; done)) | omega
  · have := hp hyp
    omega
  · have := hp hyp
    omega
  · rcases hyp with q | q
    · simp only [jbm, q, Bool.false_and]
    · simp only [jbm, ibeq, decide_eq_false q, Bool.and_false, Bool.false_and]
  obtain ⟨hfit, hlen⟩ := hyp
  obtain ⟨⟨a1, a2⟩, a3, a4⟩ := hf hfit
  obtain ⟨n, rfl⟩ : ∃ n : Nat, k = n := ⟨k.toNat, by omega⟩
  obtain ⟨m, rfl⟩ : ∃ m : Nat, r = m := ⟨r.toNat, by omega⟩
  have hgr : jbm n m L = (List.range m).all (fun y => jb7 (ja5 L n y)) := by
    simp only [jbm, hfit, ibeq, decide_eq_true hlen, Bool.true_and, Int.toNat_natCast]
  have hln : L.length = n * m := by
    have : (L.length : Int) = ((n * m : Nat) : Int) := by rw [hlen]; simp
    omega
  refine T.loop (fun y : Nat => ⟨[(1, .ptr 0 0 0), (22, .int .i64 m), (23, .int .i64 y)], [.box [.int .i64 n, .int .i64 m, .vec .cell L]]⟩) (fun y => y ≤ m ∧ ∀ j, j < y → jb7 (ja5 L n j) = true) (fun y => m - y) 0 ⟨by omega, fun j hj => by omega⟩ (Cos.intro [0] [] rfl (by simp only [SB, E, seval, rdB, ne_eq, implies_true, jbx, ja0, jd4, tq0, tq1, tq2])) (fun y ⟨hy, hall⟩ => ?_)
  have hrow : y < m → (y + 1) * n ≤ L.length := fun h => by
    rw [hln, Nat.mul_comm n m]
    exact Nat.mul_le_mul_right n h
  have hcr := joM hc n y
  have hrl : (ja5 L n y).length ≤ 1000000 := by simp [ja5]; omega
  repeat' first | exact hcr | simp only [SB, E, seval, rdB, ne_eq, implies_true, jbx, ja0, jd4, tq0, tq1, tq2] | refine T.seq ?_ | refine T.stm ?_ | refine T.rg ?_ | refine jac ?_ | refine jad ?_ | refine jae ?_ | refine T.cond ?_ | refine T.skip ?_ | refine T.ret ?_ | refine T.exit ?_ | refine T.block ?_ | refine Cos.intro [] [] rfl ?_ | refine And.intro ?_ ?_ | (intro hyp0; have hyp := hyp0; (try simp only [HB, ne_eq, reduceCtorEq] at hyp); (try simp only [hyp0]); (try clear hyp0); try (exfalso; omega; done)) | omega
  · rw [hgr, jbj (by omega : y < m) hyp]
  · exact ⟨y + 1, ⟨by omega, jcJ (f := fun j => jb7 (ja5 L n j)) hyp hall⟩, by omega, Cos.intro [0] [] rfl (by simp only [SB, E, seval, rdB, ne_eq, implies_true, jbx, ja0, jd4, tq0, tq1, tq2]; simp)⟩
  · rw [hgr, jb1 (n := m) (k := y) (by omega) hall])
theorem jmm : Fresh Tryz.prog E0 56 sp_gmay := Alias.fresh jpS (fun x => rfl)
def jbc (L : List CD) (k r : Nat) : List (List CD) := (List.range r).map (ja5 L k)
noncomputable def sp_rows : Spec := spOf (α := Int × Int × (List CD)) (fun ⟨k, r, L⟩ => [.agg [.int .i64 k, .int .i64 r, .vec .cell L]]) fun ⟨k, r, L⟩ => (CWs L ∧ L.length ≤ 1000000, .ret (.tup [.vec (.rows .cell) (if jbm k r L then jbc L k.toNat r.toNat else []), .bool (jbm k r L)]))
theorem jdg (k : Int) (r : Int) (L : List CD) : sp_rows [.agg [.int .i64 k, .int .i64 r, .vec .cell L]] = some (CWs L ∧ L.length ≤ 1000000, .ret (.tup [.vec (.rows .cell) (if jbm k r L then jbc L k.toNat r.toNat else []), .bool (jbm k r L)])) := jav (α := Int × Int × (List CD)) _ (fun ⟨k, r, L⟩ ⟨k', r', L'⟩ h => by first | simpa [CP] using h | (simp [CP] at h ⊢; grind)) (k, r, L)
theorem jpT : Alias Tryz.prog E0 42 sp_rows := Alias.of fun ⟨k, r, L⟩ hG => TF.intro (V := (VV [(72, conF [.sl .cell] sp_rcopy), (76, conF [.sl .cell] sp_rrow)] (.cons (chkFn_callable k_r08_Copy) (Fresh.soundF jn3) (.cons (chkFn_callable k_r08_RowMay) (Fresh.soundF jpQ) GOk.nil)) 66 0)) k_r09_Rows rfl rfl (by
  dsimp only at hG ⊢
  obtain ⟨hc, hl⟩ := hG
  have hf : jcx k r = true → (1 ≤ k ∧ k ≤ 80) ∧ (1 ≤ r ∧ r ≤ 24) := fun h => by
    simp only [jcx, HB, ne_eq, reduceCtorEq] at h
    omega
  have hp : (1 ≤ k ∧ k ≤ 80) ∧ (1 ≤ r ∧ r ≤ 24) → 0 ≤ k * r ∧ k * r ≤ 1920 := fun ⟨⟨a1, a2⟩, a3, a4⟩ =>
    ⟨Int.mul_nonneg (by omega) (by omega), Int.le_trans (Int.mul_le_mul_of_nonneg_right a2 (by omega)) (by omega)⟩
  have hg0 : (((k < 1 ∨ 80 < k) ∨ r < 1) ∨ 24 < r) ∨ ¬ (L.length : Int) = k * r → jbm k r L = false := fun h => by
    rcases h with h | h
    · have : jcx k r = false := by
        cases e : jcx k r with
        | false => rfl
        | true => have := hf e; omega
      simp only [jbm, this, Bool.false_and]
    · simp only [jbm, ibeq, decide_eq_false h, Bool.and_false, Bool.false_and]
  repeat' first | simp only [SB, E, seval, rdB, ne_eq, implies_true, jdw, jd5, tq0, tq1, tq2] | simp only [hw] | simp only [hw2] | simp only [hw3] | refine T.seq ?_ | refine T.stm ?_ | refine T.rg ?_ | refine jac ?_ | refine jad ?_ | refine jae ?_ | refine T.cond ?_ | refine T.skip ?_ | refine T.ret ?_ | refine T.exit ?_ | refine T.block ?_ | refine Cos.intro [] [0, 1, 2, 3, 4, 5, 6, 7, 8, 9] rfl ?_ | refine And.intro ?_ ?_ | (intro hyp0; have hyp := hyp0; (try simp only [HB, ne_eq, reduceCtorEq] at hyp); (try simp only [hyp0]); (try clear hyp0); try (exfalso; omega; done)) | omega
  · rw [hg0 hyp]
    rfl
  · exact (hg0 hyp).symm
  obtain ⟨hfit, hlen⟩ := hyp
  obtain ⟨n, rfl⟩ : ∃ n : Nat, k = n := ⟨k.toNat, by omega⟩
  obtain ⟨m, rfl⟩ : ∃ m : Nat, r = m := ⟨r.toNat, by omega⟩
  have hfb : jcx n m = true := by simp only [jcx, HB, ne_eq, reduceCtorEq]; omega
  have hgr : jbm n m L = (List.range m).all (fun y => jb7 (ja5 L n y)) := by
    simp only [jbm, hfb, ibeq, decide_eq_true hlen, Bool.true_and, Int.toNat_natCast]
  have hln : L.length = n * m := by
    have : (L.length : Int) = ((n * m : Nat) : Int) := by rw [hlen]; simp
    omega
  refine T.loop (fun y : Nat => ⟨[(1, .ptr 0 0 0), (4, .slice 1 0 1 y y), (5, .int .i64 y)], [.box [.int .i64 n, .int .i64 m, .vec .cell L], .seq (.rows .cell) (jbc L n y)]⟩) (fun y => y ≤ m ∧ ∀ j, j < y → jb7 (ja5 L n j) = true) (fun y => m - y) 0 ⟨by omega, fun j hj => by omega⟩ (Cos.intro [0, 1] [] rfl (by simp only [SB, E, seval, rdB, ne_eq, implies_true, jdw, jd5, tq0, tq1, tq2]; simp [jbc])) (fun y ⟨hy, hall⟩ => ?_)
  have hrow : y < m → (y + 1) * n ≤ L.length := fun h => by
    rw [hln, Nat.mul_comm n m]
    exact Nat.mul_le_mul_right n h
  have hcr := joM hc n y
  have hrl : (ja5 L n y).length ≤ 1000000 := by simp [ja5]; omega
  have hml : (jbc L n y).length = y := by simp [jbc]
  have hmf : y < m → 0 ≤ (y : Int) * n ∧ (y : Int) * n ≤ 1000000 ∧ (y : Int) * n + n ≤ L.length := fun h => by
    have := jdS (hrow h)
    omega
  have hw : ((y : Int) * n + n).toNat = y * n + n := by rw [← tq0, ← Int.toNat_add_nat (Int.mul_nonneg (by omega) (by omega))]
  have hw3 : List.take y (jbc L n y) = jbc L n y := List.take_of_length_le (by omega)
  have hw2 : List.take n (List.drop (y * n) L) = ja5 L n y := rfl
  have hno : y < m → jb7 (ja5 L n y) = false → jbm n m L = false := fun h q => by rw [hgr, jbj h q]
  have hye : ¬ y < m → jbm n m L = true := fun h => by rw [hgr, jb1 (n := m) (k := y) h hall]
  repeat' first | exact hcr | simp only [SB, E, seval, rdB, ne_eq, implies_true, jdw, jd5, tq0, tq1, tq2] | simp only [hw] | simp only [hw2] | simp only [hw3] | refine T.seq ?_ | refine T.stm ?_ | refine T.rg ?_ | refine jac ?_ | refine jad ?_ | refine jae ?_ | refine T.cond ?_ | refine T.skip ?_ | refine T.ret ?_ | refine T.exit ?_ | refine T.block ?_ | refine Cos.intro [] [0, 1, 2, 3, 4, 5, 6, 7, 8, 9] rfl ?_ | refine And.intro ?_ ?_ | (intro hyp0; have hyp := hyp0; (try simp only [HB, ne_eq, reduceCtorEq] at hyp); (try simp only [hyp0]); (try clear hyp0); try (exfalso; omega; done)) | omega
  · rw [hno (by omega) hyp]
    rfl
  · exact (hno (by omega) hyp).symm
  · refine ⟨y + 1, ⟨by omega, jcJ (f := fun j => jb7 (ja5 L n j)) hyp hall⟩, by omega, Cos.intro [0, 3] [] rfl ?_⟩
    have : jbc L n (y + 1) = jbc L n y ++ [ja5 L n y] := by simp [jbc, List.range_succ]
    simp only [SB, E, seval, rdB, ne_eq, implies_true, jdw, jd5, tq0, tq1, tq2, this, hml]
    simp
  · obtain rfl : y = m := by omega
    rw [hye (by omega)]
    rfl
  · exact (hye (by omega)).symm)
def pen0 : PD := ⟨0, 0, 0, 0⟩
abbrev blank0 : CD := ⟨32, 0, 0, 0, 0, 0⟩
noncomputable def sp_gnew : Spec := spOf (α := Int × Int) (fun ⟨k, r⟩ => [.int .i64 k, .int .i64 r]) fun ⟨k, r⟩ => (True, .ret (if jcx k r then .tup [.agg [.int .i64 k, .int .i64 r, .vec .cell (List.replicate (k.toNat * r.toNat) blank0)], .int .i64 0] else .tup [.agg [.int .i64 0, .int .i64 0, .vec .cell []], .int .i64 1]))
theorem jhc (k : Int) (r : Int) : sp_gnew [.int .i64 k, .int .i64 r] = some (True, .ret (if jcx k r then .tup [.agg [.int .i64 k, .int .i64 r, .vec .cell (List.replicate (k.toNat * r.toNat) blank0)], .int .i64 0] else .tup [.agg [.int .i64 0, .int .i64 0, .vec .cell []], .int .i64 1])) := jav (α := Int × Int) _ (fun ⟨k, r⟩ ⟨k', r'⟩ h => by first | simpa [CP] using h | (simp [CP] at h ⊢; grind)) (k, r)
theorem jpU : Alias Tryz.prog E0 119 sp_gnew := Alias.of fun ⟨k, r⟩ hG => TF.intro (V := (VV [(96, conF [.any, .any] sp_fits), (126, conF [.any] sp_cblank)] (.cons (chkFn_callable k_grid_fits) (Fresh.soundF jmk) (.cons (chkFn_callable k_cell_Blank) (Fresh.soundF jix) GOk.nil)) 34 0)) k_grid_New rfl rfl (by
  dsimp only at hG ⊢
  cases hw : jcx k r
  · repeat' first | simp only [SB, E, seval, rdB, ne_eq, implies_true, jbx, jaJ, tq0, tq1, tq2] | simp only [hw] | simp only [hw3] | refine T.seq ?_ | refine T.stm ?_ | refine T.rg ?_ | refine jac ?_ | refine jad ?_ | refine jae ?_ | refine T.cond ?_ | refine T.skip ?_ | refine T.ret ?_ | refine T.exit ?_ | refine T.block ?_ | refine Cos.intro [] [0, 1, 2, 3, 4, 5, 6, 7, 8, 9] rfl ?_ | refine And.intro ?_ ?_ | (intro hyp0; have hyp := hyp0; (try simp only [HB, ne_eq, reduceCtorEq] at hyp); (try simp only [hyp0]); (try clear hyp0); try (exfalso; omega; done)) | omega
  · have hfit : (1 ≤ k ∧ k ≤ 80) ∧ (1 ≤ r ∧ r ≤ 24) := by
      simp only [jcx, HB, ne_eq, reduceCtorEq] at hw
      omega
    obtain ⟨n, rfl⟩ : ∃ n : Nat, k = n := ⟨k.toNat, by omega⟩
    obtain ⟨m, rfl⟩ : ∃ m : Nat, r = m := ⟨r.toNat, by omega⟩
    have hp : (n : Int) * m ≤ 1920 ∧ n * m ≤ 1920 ∧ (0 : Int) ≤ (n : Int) * m := by
      have h1 : n * m ≤ 80 * 24 := Nat.mul_le_mul (by omega) (by omega)
      have h2 : ((n * m : Nat) : Int) = (n : Int) * m := by simp
      omega
    have hcast : ((n * m : Nat) : Int) = (n : Int) * m := by simp
    repeat' first | simp only [SB, E, seval, rdB, ne_eq, implies_true, jbx, jaJ, tq0, tq1, tq2] | simp only [hw] | simp only [hw3] | refine T.seq ?_ | refine T.stm ?_ | refine T.rg ?_ | refine jac ?_ | refine jad ?_ | refine jae ?_ | refine T.cond ?_ | refine T.skip ?_ | refine T.ret ?_ | refine T.exit ?_ | refine T.block ?_ | refine Cos.intro [] [0, 1, 2, 3, 4, 5, 6, 7, 8, 9] rfl ?_ | refine And.intro ?_ ?_ | (intro hyp0; have hyp := hyp0; (try simp only [HB, ne_eq, reduceCtorEq] at hyp); (try simp only [hyp0]); (try clear hyp0); try (exfalso; omega; done)) | omega
    refine T.loop (fun i : Nat => ⟨[(4, .ptr 0 0 0), (6, .ptr 1 0 0), (22, .int .i64 (n * m : Nat)), (23, .int .i64 i)], [.box [.int .i64 0, .int .i64 0, .nils], .box [.int .i64 n, .int .i64 m, .slice 2 0 6 (n * m) (n * m)], .seq .cell (List.replicate i blank0 ++ List.replicate (n * m - i) default)]⟩) (fun i => i ≤ n * m) (fun i => n * m - i) 0 (by omega) (Cos.intro [0, 2, 1] [] rfl (by simp only [SB, E, seval, rdB, ne_eq, implies_true, jbx, jaJ, tq0, tq1, tq2]; simp)) (fun i hi => ?_)
    have hw3 : jeL { fg := 0, bg := 0, attrs := 0, link := 0 } = blank0 := rfl
    repeat' first | simp only [SB, E, seval, rdB, ne_eq, implies_true, jbx, jaJ, tq0, tq1, tq2] | simp only [hw] | simp only [hw3] | refine T.seq ?_ | refine T.stm ?_ | refine T.rg ?_ | refine jac ?_ | refine jad ?_ | refine jae ?_ | refine T.cond ?_ | refine T.skip ?_ | refine T.ret ?_ | refine T.exit ?_ | refine T.block ?_ | refine And.intro ?_ ?_ | (intro hyp0; have hyp := hyp0; (try simp only [HB, ne_eq, reduceCtorEq] at hyp); (try simp only [hyp0]); (try clear hyp0); try (exfalso; omega; done)) | omega
    · refine ⟨i + 1, by omega, by omega, Cos.intro [0, 1, 2] [] rfl ?_⟩
      rw [jqU _ i (by omega)]
      simp only [SB, E, seval, rdB, ne_eq, implies_true, jbx, jaJ, tq0, tq1, tq2]
      simp
    · obtain rfl : i = n * m := by omega
      exact Cos.intro [] [2] rfl (by simp only [SB, E, seval, rdB, ne_eq, implies_true, jbx, jaJ, tq0, tq1, tq2]; simp))
end
end Go.Proofs.YtcfkfgkndncanaaGreatDoor
