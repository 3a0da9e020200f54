/- Texts of this claim, merged by a program of this claim: FDif3. -/
import Derived.Test.YtcfkfgkndncanaaGreatDoorMr25
import Derived.Test.YtcfkfgkndncanaaGreatDoorMr26
import Derived.Test.YtcfkfgkndncanaaGreatDoorMr30
namespace Go.Proofs.YtcfkfgkndncanaaGreatDoor
set_option linter.unusedVariables false
set_option linter.unusedSimpArgs false
section
open Go.RowKit
set_option maxRecDepth 100000
set_option maxHeartbeats 4000000
theorem jp1 : penB ⟨0, 0, 0, 0⟩ = true := by decide
theorem jff {k r : Int} {L : List CD} (h : jbm k r L = true) : (1 ≤ k ∧ k ≤ 80) ∧ (1 ≤ r ∧ r ≤ 24) ∧ (L.length : Int) = k * r ∧ L.length ≤ 1920 := by
  have hg2 := h
  simp only [jbm, HB, ne_eq, reduceCtorEq] at hg2
  have hf := jeQ.1 hg2.1.1
  have h1 : k * r ≤ 80 * r := Int.mul_le_mul_of_nonneg_right (by omega) (by omega)
  refine ⟨by omega, by omega, hg2.1.2, ?_⟩
  have := hg2.1.2
  omega
noncomputable def sp_mscrolled : Spec := spOf (α := Int × Int × (List CD) × Int × Int × Bool × Int × ByteArray × (List ByteArray) × Int) (fun ⟨k, r, L, x, y, hd, mo, ti, l, m⟩ => [.agg [.int .i64 k, .int .i64 r, .vec .cell L, .int .i64 x, .int .i64 y, .bool hd, .int .u8 mo, .str ti, .vec .str l], .int .i64 m]) fun ⟨k, r, L, x, y, hd, mo, ti, l, m⟩ => (jbm k r L = true ∧ CWs L ∧ (-1000000 ≤ m ∧ m ≤ 1000000), .ret (.vec .cell (jbJ (jbc L k.toNat r.toNat) m).flatten))
theorem jai (k : Int) (r : Int) (L : List CD) (x : Int) (y : Int) (hd : Bool) (mo : Int) (ti : ByteArray) (l : List ByteArray) (m : Int) : sp_mscrolled [.agg [.int .i64 k, .int .i64 r, .vec .cell L, .int .i64 x, .int .i64 y, .bool hd, .int .u8 mo, .str ti, .vec .str l], .int .i64 m] = some (jbm k r L = true ∧ CWs L ∧ (-1000000 ≤ m ∧ m ≤ 1000000), .ret (.vec .cell (jbJ (jbc L k.toNat r.toNat) m).flatten)) := jav (α := Int × Int × (List CD) × Int × Int × Bool × Int × ByteArray × (List ByteArray) × Int) _ (fun ⟨k, r, L, x, y, hd, mo, ti, l, m⟩ ⟨k', r', L', x', y', hd', mo', ti', l', m'⟩ h => by first | simpa [CP] using h | (simp [CP] at h ⊢; grind)) (k, r, L, x, y, hd, mo, ti, l, m)
theorem jiL : Fresh Tryz.prog E0 65 sp_mscrolled := Fresh.of fun ⟨k, r, L, x, y, hd, mo, ti, l, m⟩ hG => TF.intro (V := (VV [(103, conT [.agg [.any, .any, .sl .cell], .any, .any, .any, .any] sp_gscroll)] (.cons (chkFn_callable k_grid_Scroll) (Fresh.soundT jkZ) GOk.nil) 21 0)) k_moves_scrolled rfl rfl (by
  dsimp only at hG ⊢
  obtain ⟨hg, hc, hm⟩ := hG
  have hf := jff hg
  have hsa := jjk (L := L) (k := k.toNat) (r := r.toNat) (by omega) m
  have hw : (r - 1).toNat = r.toNat - 1 := by omega
  have hw2 : jb2 (jbc L k.toNat r.toNat) 0 (r.toNat - 1) m { fg := 0, bg := 0, attrs := 0, link := 0 } = jbJ (jbc L k.toNat r.toNat) m := hsa
  repeat' first | exact hg | exact jp1 | exact hc | simp only [SB, E, seval, rdB, ne_eq, implies_true, jeU, tq0, tq1, tq2] | simp only [hw] | simp only [hw2] | refine T.seq ?_ | refine T.stm ?_ | refine T.rg ?_ | refine jac ?_ | refine jad ?_ | refine jae ?_ | refine T.cond ?_ | refine T.skip ?_ | refine T.ret ?_ | refine T.exit ?_ | refine T.block ?_ | refine And.intro ?_ ?_ | (intro hyp0; have hyp := hyp0; (try simp only [HB, ne_eq, reduceCtorEq] at hyp); (try simp only [hyp0]); (try clear hyp0); try (exfalso; omega; done)) | omega
  exact Cos.intro [2] [] rfl (by (simp only [SB, E, seval, rdB, ne_eq, implies_true, jeU, tq0, tq1, tq2]; first | done | ((repeat' apply And.intro) <;> first | rfl | omega | (simp; done) | (simp; omega)))))
noncomputable def sp_mrow : Spec := spOf (α := Int × Int × (List CD) × Int × Int × Bool × Int × ByteArray × (List ByteArray) × Int) (fun ⟨k, r, L, x, y, hd, mo, ti, l, v⟩ => [.agg [.int .i64 k, .int .i64 r, .vec .cell L, .int .i64 x, .int .i64 y, .bool hd, .int .u8 mo, .str ti, .vec .str l], .int .i64 v]) fun ⟨k, r, L, x, y, hd, mo, ti, l, v⟩ => ((0 ≤ k ∧ k ≤ 100) ∧ (0 ≤ v ∧ v ≤ 1000) ∧ (v.toNat + 1) * k.toNat ≤ L.length ∧ L.length ≤ 1000000, .ret (.vec .cell (ja5 L k.toNat v.toNat)))
theorem jbU (k : Int) (r : Int) (L : List CD) (x : Int) (y : Int) (hd : Bool) (mo : Int) (ti : ByteArray) (l : List ByteArray) (v : Int) : sp_mrow [.agg [.int .i64 k, .int .i64 r, .vec .cell L, .int .i64 x, .int .i64 y, .bool hd, .int .u8 mo, .str ti, .vec .str l], .int .i64 v] = some ((0 ≤ k ∧ k ≤ 100) ∧ (0 ≤ v ∧ v ≤ 1000) ∧ (v.toNat + 1) * k.toNat ≤ L.length ∧ L.length ≤ 1000000, .ret (.vec .cell (ja5 L k.toNat v.toNat))) := jav (α := Int × Int × (List CD) × Int × Int × Bool × Int × ByteArray × (List ByteArray) × Int) _ (fun ⟨k, r, L, x, y, hd, mo, ti, l, v⟩ ⟨k', r', L', x', y', hd', mo', ti', l', v'⟩ h => by first | simpa [CP] using h | (simp [CP] at h ⊢; grind)) (k, r, L, x, y, hd, mo, ti, l, v)
theorem jp2 : Alias Tryz.prog E0 105 sp_mrow := Alias.of fun ⟨k, r, L, x, y, hd, mo, ti, l, v⟩ hG => TF.intro (V := (VV [] GOk.nil 17 0)) k_moves_row rfl rfl (by
  dsimp only at hG ⊢
  obtain ⟨hk, hv, hl, hL⟩ := hG
  obtain ⟨k, rfl⟩ : ∃ n : Nat, k = n := ⟨k.toNat, by omega⟩
  obtain ⟨v, rfl⟩ : ∃ n : Nat, v = n := ⟨v.toNat, by omega⟩
  simp only [Int.toNat_natCast] at hl ⊢
  have hm := jdS hl
  have hm2 : (v + 1) * k = v * k + k := by rw [Nat.add_mul]; omega
  have hvk : v * k ≤ 1000000 := by omega
  repeat' first | simp only [SB, E, seval, rdB, ne_eq, implies_true, tq0, tq1, tq2] | refine T.seq ?_ | refine T.stm ?_ | refine T.rg ?_ | refine jac ?_ | refine jad ?_ | refine jae ?_ | refine T.cond ?_ | refine T.skip ?_ | refine T.ret ?_ | refine T.exit ?_ | refine T.block ?_ | refine Cos.intro [] [0, 1, 2, 3, 4, 5, 6, 7, 8, 9] rfl ?_ | refine And.intro ?_ ?_ | (intro hyp0; have hyp := hyp0; (try simp only [HB, ne_eq, reduceCtorEq] at hyp); (try simp only [hyp0]); (try clear hyp0); try (exfalso; omega; done)) | omega
  rfl)
end
end Go.Proofs.YtcfkfgkndncanaaGreatDoor
