/- Texts of this claim, merged by a program of this claim: FRruns. -/
import Derived.Test.YtcfkfgkndncanaaDoorMp18
import Derived.Test.YtcfkfgkndncanaaDoorMp25
import Derived.Test.YtcfkfgkndncanaaDoorMp28
namespace Go.Proofs.YtcfkfgkndncanaaDoor
set_option linter.unusedVariables false
set_option linter.unusedSimpArgs false
section
open Go.RowKit
set_option maxRecDepth 100000
set_option maxHeartbeats 4000000
theorem getD_mAt (M : List (List CD)) (y : Nat) : M.getD y [] = mAt M y := rfl
def lets (W : List CD) (l : List Nat) : List (Int × Int × CD) := l.map fun i : Nat => ((i : Int), (wideAt W i : Int), cAt W i)
theorem lets_len (W : List CD) (l : List Nat) : (lets W l).length = l.length := by simp [lets]
theorem lets_take (W : List CD) (l : List Nat) : List.take l.length (lets W l) = lets W l := List.take_of_length_le (by rw [lets_len]; exact Nat.le_refl _)
theorem lets_snoc (W : List CD) (l : List Nat) (i : Nat) : lets W (l ++ [i]) = lets W l ++ [((i : Int), (wideAt W i : Int), cAt W i)] := by simp [lets]
theorem lets_at {W : List CD} {l : List Nat} {i : Nat} {d : Int × Int × CD} (h : i < l.length) : (lets W l).getD i d = (((l.getD i 0 : Nat) : Int), (wideAt W (l.getD i 0) : Int), cAt W (l.getD i 0)) := by
  rw [List.getD_eq_getElem?_getD, lets, List.getElem?_map, getD_at (d := 0) h]
  rfl
noncomputable def sp_r8runs : Spec := spOf (α := (List (List CD)) × (List (List CD))) (fun ⟨A, B⟩ => [.vec (.rows .cell) A, .vec (.rows .cell) B]) fun ⟨A, B⟩ => ((∃ k r, (1 ≤ k ∧ k ≤ 80) ∧ (1 ≤ r ∧ r ≤ 24) ∧ Rect A k r ∧ Rect B k r ∧ (∀ y x, y < r → x < k → (cAt B.flatten (y * k + x)).wide = 1 → x + 1 < k)) ∧ Whole B.flatten ∧ (∀ q ∈ B.flatten, CWf q) ∧ (∀ q ∈ B.flatten, 0 ≤ q.rune), .ret (.vec (.int .u8) (lettersB A.flatten B.flatten)))
theorem sp_r8runs_at (A : List (List CD)) (B : List (List CD)) : sp_r8runs [.vec (.rows .cell) A, .vec (.rows .cell) B] = some ((∃ k r, (1 ≤ k ∧ k ≤ 80) ∧ (1 ≤ r ∧ r ≤ 24) ∧ Rect A k r ∧ Rect B k r ∧ (∀ y x, y < r → x < k → (cAt B.flatten (y * k + x)).wide = 1 → x + 1 < k)) ∧ Whole B.flatten ∧ (∀ q ∈ B.flatten, CWf q) ∧ (∀ q ∈ B.flatten, 0 ≤ q.rune), .ret (.vec (.int .u8) (lettersB A.flatten B.flatten))) := spOf_at (α := (List (List CD)) × (List (List CD))) _ (fun ⟨A, B⟩ ⟨A', B'⟩ h => by first | simpa [CP] using h | (simp [CP] at h ⊢; grind)) (A, B)
theorem fr_r8runs : Fresh Tryd.prog E0 46 sp_r8runs := Fresh.of fun ⟨A, B⟩ hG => TF.intro (V := (VV [(45, conF [.sl .cell, .sl .cell] sp_rsame), (21, conT [.sl (.int .i64)] sp_rvars)] (.cons (chkFn_callable k_r08_Same) (Fresh.soundF fr_rsame) (.cons (chkFn_callable k_r18_vars) (Fresh.soundT fr_rvars) GOk.nil)) 207 0)) k_r18_Runs rfl rfl (by
  dsimp only at hG ⊢
  obtain ⟨⟨k, r, hk, hr, hA, hB, hfit⟩, hwh, hwf, hru⟩ := hG
  obtain ⟨W, hW⟩ : ∃ W, W = B.flatten := ⟨_, rfl⟩
  obtain ⟨C, hC⟩ : ∃ C, C = A.flatten := ⟨_, rfl⟩
  have hWl : W.length = r * k := by rw [hW, rect_flat hB]
  have hla := hA.len
  have hlb := hB.len
  have hkr : r * k ≤ 1920 := Nat.mul_le_mul (show r ≤ 24 by omega) (show k ≤ 80 by omega)
  rw [← hW] at hwh hwf hru hfit ⊢
  rw [← hC]
  obtain ⟨oth, hoth⟩ : ∃ o, o = otherB C W := ⟨_, rfl⟩
  have hcl : ∀ t, (col oth W t).length ≤ t := col_len oth W
  obtain ⟨l, hl⟩ : ∃ l, l = col oth W W.length := ⟨_, rfl⟩
  have hlr : l = rem (otherB C W) (wideAt W) W.length 0 := by rw [hl, ← hoth, rem_all hwh]
  rw [lettersB_list C W l hlr]
  have hll : l.length ≤ 1920 := by have := hcl W.length; rw [← hl] at this; omega
  repeat' first | refine T.cut (a := z80_2) (fun _ : Unit => ⟨[(5, .slice 0 0 8 l.length l.length)], [.seq (.pair (.int .i64) (.pair (.int .i64) .cell)) (lets W l)]⟩) (fun _ => True) (Held.out ?_) (fun _ _ => Held.out ?_) | simp only [SB, E, seval, rdB, ne_eq, implies_true, sp_rsame_at, sp_rvars_at, tq0, tq1, tq2, lets_len, lets_take, getD_mAt] | simp only [hw] | simp only [hw2] | simp only [hw3] | simp only [hw4] | refine T.seq ?_ | refine T.stm ?_ | refine T.rg ?_ | refine wpR_o ?_ | refine wpR_g ?_ | refine wpR_e ?_ | refine T.cond ?_ | refine T.skip ?_ | refine T.ret ?_ | refine T.exit ?_ | refine T.block ?_ | refine And.intro ?_ ?_ | (intro hyp0; have hyp := hyp0; (try simp only [HB, ne_eq, reduceCtorEq] at hyp); (try simp only [hyp0]); (try clear hyp0); try (exfalso; omega; done)) | omega
  · refine ⟨?_⟩
    repeat' first | simp only [SB, E, seval, rdB, ne_eq, implies_true, sp_rsame_at, sp_rvars_at, tq0, tq1, tq2, lets_len, lets_take, getD_mAt] | simp only [hw] | simp only [hw2] | simp only [hw3] | simp only [hw4] | refine T.seq ?_ | refine T.stm ?_ | refine T.rg ?_ | refine wpR_o ?_ | refine wpR_g ?_ | refine wpR_e ?_ | refine T.cond ?_ | refine T.skip ?_ | refine T.ret ?_ | refine T.exit ?_ | refine T.block ?_ | refine And.intro ?_ ?_ | (intro hyp0; have hyp := hyp0; (try simp only [HB, ne_eq, reduceCtorEq] at hyp); (try simp only [hyp0]); (try clear hyp0); try (exfalso; omega; done)) | omega
    refine T.loop (fun y : Nat => ⟨[(0, .vec (.rows .cell) A), (1, .vec (.rows .cell) B), (5, .slice 0 0 8 (col oth W (y * k)).length (col oth W (y * k)).length), (19, .int .i64 r), (20, .int .i64 y)], [.seq (.pair (.int .i64) (.pair (.int .i64) .cell)) (lets W (col oth W (y * k)))]⟩) (fun y => y ≤ r) (fun y => r - y) 0 (by omega) (Cos.intro [0] [] rfl (by simp only [SB, E, seval, rdB, ne_eq, implies_true, sp_rsame_at, sp_rvars_at, tq0, tq1, tq2, lets_len, lets_take, getD_mAt]; simp [col, lets, hlb])) (fun y hy => ?_)
    by_cases hyr : y < r
    · have ha := hA.at_ hyr
      have hb := hB.at_ hyr
      have hyk : y * k + k ≤ r * k := by rw [← Nat.succ_mul]; exact Nat.mul_le_mul_right k hyr
      have hbl := hb.1
      have hw := hbl
      have hal := ha.1
      have hcy := hcl (y * k)
      repeat' first | simp only [SB, E, seval, rdB, ne_eq, implies_true, sp_rsame_at, sp_rvars_at, tq0, tq1, tq2, lets_len, lets_take, getD_mAt] | simp only [hw] | simp only [hw2] | simp only [hw3] | simp only [hw4] | refine T.seq ?_ | refine T.stm ?_ | refine T.rg ?_ | refine wpR_o ?_ | refine wpR_g ?_ | refine wpR_e ?_ | refine T.cond ?_ | refine T.skip ?_ | refine T.ret ?_ | refine T.exit ?_ | refine T.block ?_ | refine And.intro ?_ ?_ | (intro hyp0; have hyp := hyp0; (try simp only [HB, ne_eq, reduceCtorEq] at hyp); (try simp only [hyp0]); (try clear hyp0); try (exfalso; omega; done)) | omega
      refine T.loop (fun x : Nat => ⟨[(0, .vec (.rows .cell) A), (1, .vec (.rows .cell) B), (5, .slice 0 0 8 (col oth W (y * k + x)).length (col oth W (y * k + x)).length), (6, .int .i64 y), (19, .int .i64 r), (20, .int .i64 y), (27, .int .i64 k), (28, .int .i64 x)], [.seq (.pair (.int .i64) (.pair (.int .i64) .cell)) (lets W (col oth W (y * k + x)))]⟩) (fun x => x ≤ k) (fun x => k - x) 0 (by omega) (Cos.intro [0] [] rfl (by (simp only [SB, E, seval, rdB, ne_eq, implies_true, sp_rsame_at, sp_rvars_at, tq0, tq1, tq2, lets_len, lets_take, getD_mAt]; first | done | ((repeat' apply And.intro) <;> first | rfl | omega | (simp; done) | (simp; omega))))) (fun x hx => ?_)
      have hcx := hcl (y * k + x)
      by_cases hxk : x < k
      · have e2 : (mAt B y).getD x default = cAt W (y * k + x) := by
          rw [hW, cAt_of ((flat_at_ B hB.row y x (by omega) hxk).trans (cdAt_eq (by omega)))]
        have hw2 := e2
        have hw3 : (y : Int) * k = ((y * k : Nat) : Int) := by simp
        have hlt : ∀ (v : Nat) (M : List CD), v ≤ 2 → (List.take v (List.drop x M)).length ≤ 4611686018427387904 := fun v M h => by rw [List.length_take]; omega
        have hsn := col_snoc oth W (y * k + x)
        have hf := hfit y x hyr hxk
        have hot : ∀ v, wideAt W (y * k + x) = v → x + v ≤ k → oth (y * k + x) = !decide (List.take v (List.drop x (mAt A y)) = List.take v (List.drop x (mAt B y))) := fun v h1 h2 => by
          rw [hoth, otherB, h1, hC, hW, drop_take_row hA.row (by omega) h2, drop_take_row hB.row (by omega) h2]
        by_cases h1 : (cAt W (y * k + x)).wide = 1
        · have hx1 := hf h1
          have hwa : wideAt W (y * k + x) = 2 := if_pos h1
          have hot := hot 2 hwa (by omega)
          repeat' first | exact hlt _ _ (by decide) | simp only [SB, E, seval, rdB, ne_eq, implies_true, sp_rsame_at, sp_rvars_at, tq0, tq1, tq2, lets_len, lets_take, getD_mAt] | simp only [hw] | simp only [hw2] | simp only [hw3] | simp only [hw4] | refine T.seq ?_ | refine T.stm ?_ | refine T.rg ?_ | refine wpR_o ?_ | refine wpR_g ?_ | refine wpR_e ?_ | refine T.cond ?_ | refine T.skip ?_ | refine T.ret ?_ | refine T.exit ?_ | refine T.block ?_ | refine And.intro ?_ ?_ | (intro hyp0; have hyp := hyp0; (try simp only [HB, ne_eq, reduceCtorEq] at hyp); (try simp only [hyp0]); (try clear hyp0); try (exfalso; omega; done)) | omega
          · have hcp : colP oth W (y * k + x) = true := by unfold colP; rw [decide_eq_true (by omega), hot, decide_eq_false hyp]; rfl
            exact ⟨x + 1, by omega, by omega, Cos.intro [3] [] rfl (by rw [show y * k + (x + 1) = y * k + x + 1 from rfl, hsn, if_pos hcp, lets_snoc, hwa, Int.natCast_add]; (simp only [SB, E, seval, rdB, ne_eq, implies_true, sp_rsame_at, sp_rvars_at, tq0, tq1, tq2, lets_len, lets_take, getD_mAt]; first | done | ((repeat' apply And.intro) <;> first | rfl | omega | (simp; done) | (simp; omega))))⟩
          · have hcp : ¬ colP oth W (y * k + x) = true := by unfold colP; rw [hot, decide_eq_true hyp]; simp
            exact ⟨x + 1, by omega, by omega, Cos.intro [0] [] rfl (by rw [show y * k + (x + 1) = y * k + x + 1 from rfl, hsn, if_neg hcp, List.append_nil]; (simp only [SB, E, seval, rdB, ne_eq, implies_true, sp_rsame_at, sp_rvars_at, tq0, tq1, tq2, lets_len, lets_take, getD_mAt]; first | done | ((repeat' apply And.intro) <;> first | rfl | omega | (simp; done) | (simp; omega))))⟩
        · have hwa : wideAt W (y * k + x) = 1 := if_neg h1
          have hot := hot 1 hwa (by omega)
          repeat' first | exact hlt _ _ (by decide) | simp only [SB, E, seval, rdB, ne_eq, implies_true, sp_rsame_at, sp_rvars_at, tq0, tq1, tq2, lets_len, lets_take, getD_mAt] | simp only [hw] | simp only [hw2] | simp only [hw3] | simp only [hw4] | refine T.seq ?_ | refine T.stm ?_ | refine T.rg ?_ | refine wpR_o ?_ | refine wpR_g ?_ | refine wpR_e ?_ | refine T.cond ?_ | refine T.skip ?_ | refine T.ret ?_ | refine T.exit ?_ | refine T.block ?_ | refine And.intro ?_ ?_ | (intro hyp0; have hyp := hyp0; (try simp only [HB, ne_eq, reduceCtorEq] at hyp); (try simp only [hyp0]); (try clear hyp0); try (exfalso; omega; done)) | omega
          · have hcp : colP oth W (y * k + x) = true := by unfold colP; rw [decide_eq_true (by omega), hot, decide_eq_false hyp]; rfl
            exact ⟨x + 1, by omega, by omega, Cos.intro [3] [] rfl (by rw [show y * k + (x + 1) = y * k + x + 1 from rfl, hsn, if_pos hcp, lets_snoc, hwa, Int.natCast_add]; (simp only [SB, E, seval, rdB, ne_eq, implies_true, sp_rsame_at, sp_rvars_at, tq0, tq1, tq2, lets_len, lets_take, getD_mAt]; first | done | ((repeat' apply And.intro) <;> first | rfl | omega | (simp; done) | (simp; omega))))⟩
          · have hcp : ¬ colP oth W (y * k + x) = true := by unfold colP; rw [hot, decide_eq_true hyp]; simp
            exact ⟨x + 1, by omega, by omega, Cos.intro [0] [] rfl (by rw [show y * k + (x + 1) = y * k + x + 1 from rfl, hsn, if_neg hcp, List.append_nil]; (simp only [SB, E, seval, rdB, ne_eq, implies_true, sp_rsame_at, sp_rvars_at, tq0, tq1, tq2, lets_len, lets_take, getD_mAt]; first | done | ((repeat' apply And.intro) <;> first | rfl | omega | (simp; done) | (simp; omega))))⟩
          · have hcp : ¬ colP oth W (y * k + x) = true := by unfold colP; rw [decide_eq_false (by omega)]; simp
            exact ⟨x + 1, by omega, by omega, Cos.intro [0] [] rfl (by rw [show y * k + (x + 1) = y * k + x + 1 from rfl, hsn, if_neg hcp, List.append_nil]; (simp only [SB, E, seval, rdB, ne_eq, implies_true, sp_rsame_at, sp_rvars_at, tq0, tq1, tq2, lets_len, lets_take, getD_mAt]; first | done | ((repeat' apply And.intro) <;> first | rfl | omega | (simp; done) | (simp; omega))))⟩
      · obtain rfl : x = k := by omega
        repeat' first | simp only [SB, E, seval, rdB, ne_eq, implies_true, sp_rsame_at, sp_rvars_at, tq0, tq1, tq2, lets_len, lets_take, getD_mAt] | simp only [hw] | simp only [hw2] | simp only [hw3] | simp only [hw4] | refine T.seq ?_ | refine T.stm ?_ | refine T.rg ?_ | refine wpR_o ?_ | refine wpR_g ?_ | refine wpR_e ?_ | refine T.cond ?_ | refine T.skip ?_ | refine T.ret ?_ | refine T.exit ?_ | refine T.block ?_ | refine And.intro ?_ ?_ | (intro hyp0; have hyp := hyp0; (try simp only [HB, ne_eq, reduceCtorEq] at hyp); (try simp only [hyp0]); (try clear hyp0); try (exfalso; omega; done)) | omega
        exact ⟨y + 1, by omega, by omega, Cos.intro [0] [] rfl (by rw [Nat.succ_mul]; (simp only [SB, E, seval, rdB, ne_eq, implies_true, sp_rsame_at, sp_rvars_at, tq0, tq1, tq2, lets_len, lets_take, getD_mAt]; first | done | ((repeat' apply And.intro) <;> first | rfl | omega | (simp; done) | (simp; omega))))⟩
    · obtain rfl : y = r := by omega
      repeat' first | simp only [SB, E, seval, rdB, ne_eq, implies_true, sp_rsame_at, sp_rvars_at, tq0, tq1, tq2, lets_len, lets_take, getD_mAt] | simp only [hw] | simp only [hw2] | simp only [hw3] | simp only [hw4] | refine T.seq ?_ | refine T.stm ?_ | refine T.rg ?_ | refine wpR_o ?_ | refine wpR_g ?_ | refine wpR_e ?_ | refine T.cond ?_ | refine T.skip ?_ | refine T.ret ?_ | refine T.exit ?_ | refine T.block ?_ | refine And.intro ?_ ?_ | (intro hyp0; have hyp := hyp0; (try simp only [HB, ne_eq, reduceCtorEq] at hyp); (try simp only [hyp0]); (try clear hyp0); try (exfalso; omega; done)) | omega
      exact ⟨(), Cos.intro [0] [] rfl (by rw [hl, hWl]; (simp only [SB, E, seval, rdB, ne_eq, implies_true, sp_rsame_at, sp_rvars_at, tq0, tq1, tq2, lets_len, lets_take, getD_mAt]; first | done | ((repeat' apply And.intro) <;> first | rfl | omega | (simp; done) | (simp; omega))))⟩
  refine ⟨?_⟩
  have hbd : ∀ i, i < l.length → l.getD i 0 < 1920 := fun i h => by
    have := col_mem (oth := oth) (W := W) (t := W.length) (x := l.getD i 0) (by rw [← hl]; exact List.mem_of_getElem? (getD_at h))
    omega
  have hcw : ∀ i, CWf (cAt W i) := cAt_wf hwf
  have hasc : Asc W l := by rw [hlr]; exact rem_asc
  have hrn : ∀ i, 0 ≤ (cAt W i).rune := fun i => by
    rcases Nat.lt_or_ge i W.length with h | h
    · rw [cAt_getD h]
      exact hru _ (getD_memC h)
    · have : cAt W i = default := by unfold cAt; rw [List.getD_eq_getElem?_getD, List.getElem?_eq_none h]; rfl
      rw [this]
      decide
  repeat' first | simp only [SB, E, seval, rdB, ne_eq, implies_true, sp_rsame_at, sp_rvars_at, tq0, tq1, tq2, lets_len, lets_take, getD_mAt] | simp only [hw] | simp only [hw2] | simp only [hw3] | simp only [hw4] | refine T.seq ?_ | refine T.stm ?_ | refine T.rg ?_ | refine wpR_o ?_ | refine wpR_g ?_ | refine wpR_e ?_ | refine T.cond ?_ | refine T.skip ?_ | refine T.ret ?_ | refine T.exit ?_ | refine T.block ?_ | refine And.intro ?_ ?_ | (intro hyp0; have hyp := hyp0; (try simp only [HB, ne_eq, reduceCtorEq] at hyp); (try simp only [hyp0]); (try clear hyp0); try (exfalso; omega; done)) | omega
  · have h0 : l = [] := List.eq_nil_of_length_eq_zero (by omega)
    rw [if_pos h0]
    exact Cos.intro [99] [] rfl (by simp only [SB, E, seval, rdB, ne_eq, implies_true, sp_rsame_at, sp_rvars_at, tq0, tq1, tq2, lets_len, lets_take, getD_mAt]; first | done | simp [crs, crsL, emptyB])
  have hne := hyp
  refine T.loop (fun q : Nat × Nat × Nat × List Int => ⟨[(5, .slice 0 0 8 l.length l.length), (10, .slice 1 0 1 q.2.2.2.length q.2.2.2.length), (11, .int .i64 q.2.2.1), (12, .int .i64 q.2.1), (13, .int .i64 q.1)], [.seq (.pair (.int .i64) (.pair (.int .i64) .cell)) (lets W l), .seq (.int .u8) q.2.2.2]⟩) (fun q => OutR W l q.1 q.2.1 q.2.2.1 q.2.2.2 ∧ (q.1 < l.length → q.2.1 ≤ l.getD q.1 0)) (fun q => l.length - q.1) (0, 0, 0, []) ⟨⟨Nat.zero_le _, rfl, by simp⟩, fun _ => Nat.zero_le _⟩ (Cos.intro [0, 1] [] rfl (by (simp only [SB, E, seval, rdB, ne_eq, implies_true, sp_rsame_at, sp_rvars_at, tq0, tq1, tq2, lets_len, lets_take, getD_mAt]; first | done | ((repeat' apply And.intro) <;> first | rfl | omega | (simp; done) | (simp; omega))))) (fun ⟨i, bh, nn, bs⟩ ⟨hout, hbh⟩ => ?_)
  dsimp only at hout hbh ⊢
  have hle := hout.le
  have hsm := hout.small hwf (by omega) (fun u hu => by
    obtain ⟨z, hz⟩ := List.getElem?_of_mem hu
    have h1 := (List.getElem?_eq_some_iff.1 hz).1
    have := hbd z h1
    rw [List.getD_eq_getElem?_getD, hz] at this
    simp only [Option.getD_some] at this
    omega)
  by_cases hil : i < l.length
  · obtain ⟨x, hx⟩ : ∃ x, x = l.getD i 0 := ⟨_, rfl⟩
    have hbx := hbh hil
    rw [← hx] at hbx
    have hxb : x < 1920 := by rw [hx]; exact hbd i hil
    have hw : ∀ d, (lets W l).getD i d = ((x : Int), (wideAt W x : Int), cAt W x) := fun d => by rw [lets_at hil, ← hx]
    repeat' first | refine T.cut (a := z80_44) (fun q : Nat × Nat => ⟨[(5, .slice 0 0 8 l.length l.length), (10, .slice 1 0 1 bs.length bs.length), (11, .int .i64 nn), (12, .int .i64 bh), (13, .int .i64 i), (14, .int .i64 q.1)], [.seq (.pair (.int .i64) (.pair (.int .i64) .cell)) (lets W l), .seq (.int .u8) bs]⟩) (fun q => InnR W (cAt W x).pen l i x q.1 q.2 ∧ ¬ (q.1 < l.length ∧ l.getD q.1 0 = q.2 ∧ (cAt W (l.getD q.1 0)).pen = (cAt W x).pen)) (Held.out ?_) (fun ⟨k, e⟩ ⟨hin, hno⟩ => Held.out ?_) | simp only [SB, E, seval, rdB, ne_eq, implies_true, sp_rsame_at, sp_rvars_at, tq0, tq1, tq2, lets_len, lets_take, getD_mAt] | simp only [hw] | simp only [hw2] | simp only [hw3] | simp only [hw4] | refine T.seq ?_ | refine T.stm ?_ | refine T.rg ?_ | refine wpR_o ?_ | refine wpR_g ?_ | refine wpR_e ?_ | refine T.cond ?_ | refine T.skip ?_ | refine T.ret ?_ | refine T.exit ?_ | refine T.block ?_ | refine And.intro ?_ ?_ | (intro hyp0; have hyp := hyp0; (try simp only [HB, ne_eq, reduceCtorEq] at hyp); (try simp only [hyp0]); (try clear hyp0); try (exfalso; omega; done)) | omega
    · refine ⟨?_⟩
      repeat' first | simp only [SB, E, seval, rdB, ne_eq, implies_true, sp_rsame_at, sp_rvars_at, tq0, tq1, tq2, lets_len, lets_take, getD_mAt] | simp only [hw] | simp only [hw2] | simp only [hw3] | simp only [hw4] | refine T.seq ?_ | refine T.stm ?_ | refine T.rg ?_ | refine wpR_o ?_ | refine wpR_g ?_ | refine wpR_e ?_ | refine T.cond ?_ | refine T.skip ?_ | refine T.ret ?_ | refine T.exit ?_ | refine T.block ?_ | refine And.intro ?_ ?_ | (intro hyp0; have hyp := hyp0; (try simp only [HB, ne_eq, reduceCtorEq] at hyp); (try simp only [hyp0]); (try clear hyp0); try (exfalso; omega; done)) | omega
      refine T.loop (fun q : Nat × Nat => ⟨[(5, .slice 0 0 8 l.length l.length), (10, .slice 1 0 1 bs.length bs.length), (11, .int .i64 nn), (12, .int .i64 bh), (13, .int .i64 i), (14, .int .i64 q.1)], [.seq (.pair (.int .i64) (.pair (.int .i64) .cell)) (lets W l), .seq (.int .u8) bs]⟩) (fun q => InnR W (cAt W x).pen l i x q.1 q.2) (fun q => l.length - q.1) (i + 1, x + wideAt W x) (InnR.start hil hx) (Cos.intro [0, 1] [] rfl (by (simp only [SB, E, seval, rdB, ne_eq, implies_true, sp_rsame_at, sp_rvars_at, tq0, tq1, tq2, lets_len, lets_take, getD_mAt]; first | done | ((repeat' apply And.intro) <;> first | rfl | omega | (simp; done) | (simp; omega))))) (fun ⟨k, e⟩ hin => ?_)
      dsimp only at hin ⊢
      have hlk := hin.le
      have he := hin.endd
      have hk1 := hbd (k - 1) (by omega)
      have hwp := wideAt_pos W (l.getD (k - 1) 0)
      have hw2 : ∀ d, (lets W l).getD (k - 1) d = (((l.getD (k - 1) 0 : Nat) : Int), (wideAt W (l.getD (k - 1) 0) : Int), cAt W (l.getD (k - 1) 0)) := fun d => lets_at (by omega)
      by_cases hkl : k < l.length
      · have hw3 : ∀ d, (lets W l).getD k d = (((l.getD k 0 : Nat) : Int), (wideAt W (l.getD k 0) : Int), cAt W (l.getD k 0)) := fun d => lets_at hkl
        repeat' first | simp only [SB, E, seval, rdB, ne_eq, implies_true, sp_rsame_at, sp_rvars_at, tq0, tq1, tq2, lets_len, lets_take, getD_mAt] | simp only [hw] | simp only [hw2] | simp only [hw3] | simp only [hw4] | refine T.seq ?_ | refine T.stm ?_ | refine T.rg ?_ | refine wpR_o ?_ | refine wpR_g ?_ | refine wpR_e ?_ | refine T.cond ?_ | refine T.skip ?_ | refine T.ret ?_ | refine T.exit ?_ | refine T.block ?_ | refine And.intro ?_ ?_ | (intro hyp0; have hyp := hyp0; (try simp only [HB, ne_eq, reduceCtorEq] at hyp); (try simp only [hyp0]); (try clear hyp0); try (exfalso; omega; done)) | omega
        · exact ⟨(k + 1, e + wideAt W e), hin.go hkl (by omega) hyp, by simp only; omega, Cos.intro [0, 1] [] rfl (by (simp only [SB, E, seval, rdB, ne_eq, implies_true, sp_rsame_at, sp_rvars_at, tq0, tq1, tq2, lets_len, lets_take, getD_mAt]; first | done | ((repeat' apply And.intro) <;> first | rfl | omega | (simp; done) | (simp; omega))))⟩
        · exact ⟨(k, e), ⟨hin, fun h => hyp h.2.2⟩, Cos.intro [0, 1] [] rfl (by (simp only [SB, E, seval, rdB, ne_eq, implies_true, sp_rsame_at, sp_rvars_at, tq0, tq1, tq2, lets_len, lets_take, getD_mAt]; first | done | ((repeat' apply And.intro) <;> first | rfl | omega | (simp; done) | (simp; omega))))⟩
        · exact ⟨(k, e), ⟨hin, fun h => hyp (by have := h.2.1; simp only at this; omega)⟩, Cos.intro [0, 1] [] rfl (by (simp only [SB, E, seval, rdB, ne_eq, implies_true, sp_rsame_at, sp_rvars_at, tq0, tq1, tq2, lets_len, lets_take, getD_mAt]; first | done | ((repeat' apply And.intro) <;> first | rfl | omega | (simp; done) | (simp; omega))))⟩
      · repeat' first | simp only [SB, E, seval, rdB, ne_eq, implies_true, sp_rsame_at, sp_rvars_at, tq0, tq1, tq2, lets_len, lets_take, getD_mAt] | simp only [hw] | simp only [hw2] | simp only [hw3] | simp only [hw4] | refine T.seq ?_ | refine T.stm ?_ | refine T.rg ?_ | refine wpR_o ?_ | refine wpR_g ?_ | refine wpR_e ?_ | refine T.cond ?_ | refine T.skip ?_ | refine T.ret ?_ | refine T.exit ?_ | refine T.block ?_ | refine And.intro ?_ ?_ | (intro hyp0; have hyp := hyp0; (try simp only [HB, ne_eq, reduceCtorEq] at hyp); (try simp only [hyp0]); (try clear hyp0); try (exfalso; omega; done)) | omega
        exact ⟨(k, e), ⟨hin, fun h => hkl h.1⟩, Cos.intro [0, 1] [] rfl (by (simp only [SB, E, seval, rdB, ne_eq, implies_true, sp_rsame_at, sp_rvars_at, tq0, tq1, tq2, lets_len, lets_take, getD_mAt]; first | done | ((repeat' apply And.intro) <;> first | rfl | omega | (simp; done) | (simp; omega))))⟩
    · refine ⟨?_⟩
      dsimp only at hin hno
      have hlk := hin.le
      have he := hin.endd
      have hk1 := hbd (k - 1) (by omega)
      have hwp := wideAt_pos W (l.getD (k - 1) 0)
      have hgo := hout.go hil hx hin hno
      have hnx : k < l.length → e ≤ l.getD k 0 := fun h => by
        have := hasc (k - 1) (by omega)
        rw [show k - 1 + 1 = k by omega] at this
        omega
      obtain ⟨bs1, hbs1⟩ : ∃ b, b = bs ++ varsN ([x - bh, k - i] ++ penN (cAt W x).pen) := ⟨_, rfl⟩
      rw [← hbs1] at hgo
      have hv6 := vars6 (kk := k - i) hbx (hcw x)
      have hw2 : (k : Int) - i = ((k - i : Nat) : Int) := by omega
      have hw3 : varsI [(x : Int) - bh, ((k - i : Nat) : Int), (cAt W x).pen.fg, (cAt W x).pen.bg, (cAt W x).pen.attrs, (cAt W x).pen.link] = varsN ([x - bh, k - i] ++ penN (cAt W x).pen) := hv6
      have hc1 : 0 ≤ (cAt W x).pen.fg ∧ (cAt W x).pen.fg < 4294967296 := (hcw x).fg
      have hc2 : 0 ≤ (cAt W x).pen.bg ∧ (cAt W x).pen.bg < 4294967296 := (hcw x).bg
      have hc3 : 0 ≤ (cAt W x).pen.attrs ∧ (cAt W x).pen.attrs < 256 := (hcw x).attrs
      have hc4 : 0 ≤ (cAt W x).pen.link ∧ (cAt W x).pen.link < 65536 := (hcw x).link
      have hvl6 := varsN_len ([x - bh, k - i] ++ penN (cAt W x).pen) (runsN_small hwf (by omega) (by omega))
      have hl6 : ([x - bh, k - i] ++ penN (cAt W x).pen).length = 6 := rfl
      rw [hl6] at hvl6
      obtain ⟨ps, hps⟩ : ∃ p, p = [x - bh, k - i] ++ penN (cAt W x).pen := ⟨_, rfl⟩
      rw [← hps] at hvl6 hbs1 hw3
      have hb1l : bs1.length ≤ 130100 := by rw [hbs1, List.length_append]; omega
      obtain ⟨bs2, hbs2⟩ : ∃ b, b = bs1 ++ runeB W ((l.drop i).take (k - i)) := ⟨_, rfl⟩
      rw [← hbs2] at hgo
      repeat' first | refine T.cut (a := z80_53) (fun _ : Unit => ⟨[(5, .slice 0 0 8 l.length l.length), (10, .slice 1 0 1 bs2.length bs2.length), (11, .int .i64 nn), (14, .int .i64 k)], [.seq (.pair (.int .i64) (.pair (.int .i64) .cell)) (lets W l), .seq (.int .u8) bs2]⟩) (fun _ => True) (Held.out ?_) (fun _ _ => Held.out ?_) | simp only [SB, E, seval, rdB, ne_eq, implies_true, sp_rsame_at, sp_rvars_at, tq0, tq1, tq2, lets_len, lets_take, getD_mAt] | simp only [hw] | simp only [hw2] | simp only [hw3] | simp only [hw4] | refine T.seq ?_ | refine T.stm ?_ | refine T.rg ?_ | refine wpR_o ?_ | refine wpR_g ?_ | refine wpR_e ?_ | refine T.cond ?_ | refine T.skip ?_ | refine T.ret ?_ | refine T.exit ?_ | refine T.block ?_ | refine And.intro ?_ ?_ | (intro hyp0; have hyp := hyp0; (try simp only [HB, ne_eq, reduceCtorEq] at hyp); (try simp only [hyp0]); (try clear hyp0); try (exfalso; omega; done)) | omega
      · refine ⟨?_⟩
        repeat' first | simp only [SB, E, seval, rdB, ne_eq, implies_true, sp_rsame_at, sp_rvars_at, tq0, tq1, tq2, lets_len, lets_take, getD_mAt] | simp only [hw] | simp only [hw2] | simp only [hw3] | simp only [hw4] | refine T.seq ?_ | refine T.stm ?_ | refine T.rg ?_ | refine wpR_o ?_ | refine wpR_g ?_ | refine wpR_e ?_ | refine T.cond ?_ | refine T.skip ?_ | refine T.ret ?_ | refine T.exit ?_ | refine T.block ?_ | refine And.intro ?_ ?_ | (intro hyp0; have hyp := hyp0; (try simp only [HB, ne_eq, reduceCtorEq] at hyp); (try simp only [hyp0]); (try clear hyp0); try (exfalso; omega; done)) | omega
        refine T.loop (fun j : Nat => ⟨[(5, .slice 0 0 8 l.length l.length), (10, .slice 1 0 1 (bs1 ++ runeB W ((l.drop i).take (j - i))).length (bs1 ++ runeB W ((l.drop i).take (j - i))).length), (11, .int .i64 nn), (14, .int .i64 k), (16, .int .i64 j)], [.seq (.pair (.int .i64) (.pair (.int .i64) .cell)) (lets W l), .seq (.int .u8) (bs1 ++ runeB W ((l.drop i).take (j - i)))]⟩) (fun j => i ≤ j ∧ j ≤ k) (fun j => k - j) i ⟨Nat.le_refl _, by omega⟩ (Cos.intro [0, 5] [] rfl (by rw [Nat.sub_self, List.take_zero]; simp only [runeB, List.flatMap_nil, List.append_nil, hbs1]; (simp only [SB, E, seval, rdB, ne_eq, implies_true, sp_rsame_at, sp_rvars_at, tq0, tq1, tq2, lets_len, lets_take, getD_mAt]; first | done | ((repeat' apply And.intro) <;> first | rfl | omega | (simp; done) | (simp; omega))))) (fun j ⟨hj1, hj2⟩ => ?_)
        have hrl := runeB_len hwf ((l.drop i).take (j - i))
        rw [List.length_take, List.length_drop] at hrl
        by_cases hjk : j < k
        · have hw2 : ∀ d, (lets W l).getD j d = (((l.getD j 0 : Nat) : Int), (wideAt W (l.getD j 0) : Int), cAt W (l.getD j 0)) := fun d => lets_at (by omega)
          have hrj := hrn (l.getD j 0)
          have hrw := (hcw (l.getD j 0)).rune
          have hw3 : varsI [(cAt W (l.getD j 0)).rune] = varN (cAt W (l.getD j 0)).rune.toNat := by simp only [varsI_cons, varsI_nil, List.append_nil]
          have h10 := varN_len10 (cAt W (l.getD j 0)).rune.toNat (by omega)
          have hts : (l.drop i).take (j + 1 - i) = (l.drop i).take (j - i) ++ [l.getD j 0] := by
            rw [show j + 1 - i = (j - i) + 1 by omega]
            refine take_snoc_get ?_
            rw [List.getElem?_drop, show i + (j - i) = j by omega, getD_at (d := 0) (by omega)]
          have hrb : runeB W ((l.drop i).take (j - i) ++ [l.getD j 0]) = runeB W ((l.drop i).take (j - i)) ++ varN (cAt W (l.getD j 0)).rune.toNat := by simp [runeB]
          repeat' first | simp only [SB, E, seval, rdB, ne_eq, implies_true, sp_rsame_at, sp_rvars_at, tq0, tq1, tq2, lets_len, lets_take, getD_mAt] | simp only [hw] | simp only [hw2] | simp only [hw3] | simp only [hw4] | refine T.seq ?_ | refine T.stm ?_ | refine T.rg ?_ | refine wpR_o ?_ | refine wpR_g ?_ | refine wpR_e ?_ | refine T.cond ?_ | refine T.skip ?_ | refine T.ret ?_ | refine T.exit ?_ | refine T.block ?_ | refine And.intro ?_ ?_ | (intro hyp0; have hyp := hyp0; (try simp only [HB, ne_eq, reduceCtorEq] at hyp); (try simp only [hyp0]); (try clear hyp0); try (exfalso; omega; done)) | omega
          exact ⟨j + 1, by omega, by omega, Cos.intro [0, 4] [] rfl (by rw [hts, hrb]; (simp only [SB, E, seval, rdB, ne_eq, implies_true, sp_rsame_at, sp_rvars_at, tq0, tq1, tq2, lets_len, lets_take, getD_mAt]; first | done | ((repeat' apply And.intro) <;> first | rfl | omega | (simp; done) | (simp; omega))))⟩
        · obtain rfl : j = k := by omega
          rw [← hbs2]
          repeat' first | simp only [SB, E, seval, rdB, ne_eq, implies_true, sp_rsame_at, sp_rvars_at, tq0, tq1, tq2, lets_len, lets_take, getD_mAt] | simp only [hw] | simp only [hw2] | simp only [hw3] | simp only [hw4] | refine T.seq ?_ | refine T.stm ?_ | refine T.rg ?_ | refine wpR_o ?_ | refine wpR_g ?_ | refine wpR_e ?_ | refine T.cond ?_ | refine T.skip ?_ | refine T.ret ?_ | refine T.exit ?_ | refine T.block ?_ | refine And.intro ?_ ?_ | (intro hyp0; have hyp := hyp0; (try simp only [HB, ne_eq, reduceCtorEq] at hyp); (try simp only [hyp0]); (try clear hyp0); try (exfalso; omega; done)) | omega
          exact ⟨(), Cos.intro [0, 1] [] rfl (by (simp only [SB, E, seval, rdB, ne_eq, implies_true, sp_rsame_at, sp_rvars_at, tq0, tq1, tq2, lets_len, lets_take, getD_mAt]; first | done | ((repeat' apply And.intro) <;> first | rfl | omega | (simp; done) | (simp; omega))))⟩
      refine ⟨?_⟩
      have hw4 : ∀ d, (lets W l).getD (k - 1) d = (((l.getD (k - 1) 0 : Nat) : Int), (wideAt W (l.getD (k - 1) 0) : Int), cAt W (l.getD (k - 1) 0)) := fun d => lets_at (by omega)
      repeat' first | simp only [SB, E, seval, rdB, ne_eq, implies_true, sp_rsame_at, sp_rvars_at, tq0, tq1, tq2, lets_len, lets_take, getD_mAt] | simp only [hw] | simp only [hw2] | simp only [hw3] | simp only [hw4] | refine T.seq ?_ | refine T.stm ?_ | refine T.rg ?_ | refine wpR_o ?_ | refine wpR_g ?_ | refine wpR_e ?_ | refine T.cond ?_ | refine T.skip ?_ | refine T.ret ?_ | refine T.exit ?_ | refine T.block ?_ | refine And.intro ?_ ?_ | (intro hyp0; have hyp := hyp0; (try simp only [HB, ne_eq, reduceCtorEq] at hyp); (try simp only [hyp0]); (try clear hyp0); try (exfalso; omega; done)) | omega
      exact ⟨(k, e, nn + 1, bs2), ⟨hgo, hnx⟩, by simp only; omega, Cos.intro [0, 1] [] rfl (by rw [he]; (simp only [SB, E, seval, rdB, ne_eq, implies_true, sp_rsame_at, sp_rvars_at, tq0, tq1, tq2, lets_len, lets_take, getD_mAt]; first | done | ((repeat' apply And.intro) <;> first | rfl | omega | (simp; done) | (simp; omega))))⟩
  · obtain rfl : i = l.length := by omega
    have e1 := hout.bytes
    have e2 := hout.num
    rw [List.drop_length, layR_nil] at e1 e2
    simp only [List.append_nil, Nat.add_zero] at e1 e2
    rw [if_neg (fun e => hne (by rw [e]; rfl)), ← e1, ← e2]
    have hw : varsI [(nn : Int)] = varN nn := by simp only [varsI, List.flatMap_cons, List.flatMap_nil, List.append_nil, Int.toNat_natCast]
    have h10 := varN_len10 nn (by omega)
    repeat' first | simp only [SB, E, seval, rdB, ne_eq, implies_true, sp_rsame_at, sp_rvars_at, tq0, tq1, tq2, lets_len, lets_take, getD_mAt] | simp only [hw] | simp only [hw2] | simp only [hw3] | simp only [hw4] | refine T.seq ?_ | refine T.stm ?_ | refine T.rg ?_ | refine wpR_o ?_ | refine wpR_g ?_ | refine wpR_e ?_ | refine T.cond ?_ | refine T.skip ?_ | refine T.ret ?_ | refine T.exit ?_ | refine T.block ?_ | refine And.intro ?_ ?_ | (intro hyp0; have hyp := hyp0; (try simp only [HB, ne_eq, reduceCtorEq] at hyp); (try simp only [hyp0]); (try clear hyp0); try (exfalso; omega; done)) | omega
    exact Cos.intro [6] [] rfl (by (simp only [SB, E, seval, rdB, ne_eq, implies_true, sp_rsame_at, sp_rvars_at, tq0, tq1, tq2, lets_len, lets_take, getD_mAt]; first | done | ((repeat' apply And.intro) <;> first | rfl | omega | (simp; done) | (simp; omega)))))
end
end Go.Proofs.YtcfkfgkndncanaaDoor
