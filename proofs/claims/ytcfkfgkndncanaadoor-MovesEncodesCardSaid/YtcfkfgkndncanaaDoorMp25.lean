/- Texts of this claim, merged by a program of this claim: FRun. -/
import Derived.Test.YtcfkfgkndncanaaDoorMp19
import Derived.Test.YtcfkfgkndncanaaDoorMp24
namespace Go.Proofs.YtcfkfgkndncanaaDoor
set_option linter.unusedVariables false
set_option linter.unusedSimpArgs false
section
open Go.RowKit
set_option maxRecDepth 100000
set_option maxHeartbeats 4000000
noncomputable def msp_wideF : MSpec := mspOf (α := Nat × Int × Int × (List CD) × Int × Int × Bool × Int × ByteArray × (List ByteArray)) (fun ⟨i, k, r, L, x, y, hd, mo, ti, l⟩ => ([.int .i64 i, .ptr 0 0 0], [.box [.int .i64 k, .int .i64 r, .vec .cell L, .int .i64 x, .int .i64 y, .bool hd, .int .u8 mo, .str ti, .vec .str l]])) fun ⟨i, k, r, L, x, y, hd, mo, ti, l⟩ => (i < L.length ∧ L.length ≤ 60000, .ret (.int .i64 (wideAt L i)), [.box [.int .i64 k, .int .i64 r, .vec .cell L, .int .i64 x, .int .i64 y, .bool hd, .int .u8 mo, .str ti, .vec .str l]])
theorem msp_wideF_at (i : Nat) (k : Int) (r : Int) (L : List CD) (x : Int) (y : Int) (hd : Bool) (mo : Int) (ti : ByteArray) (l : List ByteArray) : msp_wideF [.int .i64 i, .ptr 0 0 0] [.box [.int .i64 k, .int .i64 r, .vec .cell L, .int .i64 x, .int .i64 y, .bool hd, .int .u8 mo, .str ti, .vec .str l]] = some (i < L.length ∧ L.length ≤ 60000, .ret (.int .i64 (wideAt L i)), [.box [.int .i64 k, .int .i64 r, .vec .cell L, .int .i64 x, .int .i64 y, .bool hd, .int .u8 mo, .str ti, .vec .str l]]) := mspOf_at (α := Nat × Int × Int × (List CD) × Int × Int × Bool × Int × ByteArray × (List ByteArray)) _ (fun ⟨i, k, r, L, x, y, hd, mo, ti, l⟩ ⟨i', k', r', L', x', y', hd', mo', ti', l'⟩ h => by first | rfl | simpa [CP, encC_eq] using h | (simp [CP, encC_eq] at h ⊢; grind)) (i, k, r, L, x, y, hd, mo, ti, l)
theorem mu_wideF : MutF Tryd.prog E0 64 msp_wideF := MutF.of fun ⟨i, k, r, L, x, y, hd, mo, ti, l⟩ hG => TF.intro (V := (VV [] GOk.nil 11 1)) k_moves_layRuns_1 rfl rfl (by
  dsimp only at hG ⊢
  obtain ⟨hi, hl⟩ := hG
  have hwd : wideAt L i = if (L.getD i default).wide = 1 then 2 else 1 := by
    unfold wideAt
    rw [cAt_getD hi]
  repeat' first | simp only [SB, E, MB, seval, rdB, ne_eq, implies_true] | refine T.seq ?_ | refine T.stm ?_ | refine T.rg ?_ | refine wpR_o ?_ | refine wpR_g ?_ | refine wpR_e ?_ | refine T.cond ?_ | refine T.skip ?_ | refine T.ret ?_ | refine T.exit ?_ | refine T.block ?_ | refine And.intro ?_ ?_ | (intro hyp0; have hyp := hyp0; (try simp only [HB, ne_eq, reduceCtorEq] at hyp); (try simp only [hyp0]); (try clear hyp0); try (exfalso; omega; done)) | omega
  · exact Cos.intro [0] [] rfl (by rw [hwd, if_pos hyp]; (simp only [SB, E, MB, seval, rdB, ne_eq, implies_true]; first | done | ((repeat' apply And.intro) <;> first | rfl | omega | (simp; done) | (simp; omega))))
  · exact Cos.intro [0] [] rfl (by rw [hwd, if_neg hyp]; (simp only [SB, E, MB, seval, rdB, ne_eq, implies_true]; first | done | ((repeat' apply And.intro) <;> first | rfl | omega | (simp; done) | (simp; omega)))))
noncomputable def msp_otherF : MSpec := mspOf (α := Nat × (List CD) × Int × Int × (List CD) × Int × Int × Bool × Int × ByteArray × (List ByteArray)) (fun ⟨i, C, k, r, L, x, y, hd, mo, ti, l⟩ => ([.int .i64 i, .ptr 0 0 0, .ptr 1 0 0, .ptr 2 0 0], [.box [.vec .cell C], .box [.fn 64 [.ptr 2 0 0]], .box [.int .i64 k, .int .i64 r, .vec .cell L, .int .i64 x, .int .i64 y, .bool hd, .int .u8 mo, .str ti, .vec .str l]])) fun ⟨i, C, k, r, L, x, y, hd, mo, ti, l⟩ => (i + wideAt L i ≤ L.length ∧ C.length = L.length ∧ L.length ≤ 60000, .ret (.bool (otherB C L i)), [.box [.vec .cell C], .box [.fn 64 [.ptr 2 0 0]], .box [.int .i64 k, .int .i64 r, .vec .cell L, .int .i64 x, .int .i64 y, .bool hd, .int .u8 mo, .str ti, .vec .str l]])
theorem msp_otherF_at (i : Nat) (C : List CD) (k : Int) (r : Int) (L : List CD) (x : Int) (y : Int) (hd : Bool) (mo : Int) (ti : ByteArray) (l : List ByteArray) : msp_otherF [.int .i64 i, .ptr 0 0 0, .ptr 1 0 0, .ptr 2 0 0] [.box [.vec .cell C], .box [.fn 64 [.ptr 2 0 0]], .box [.int .i64 k, .int .i64 r, .vec .cell L, .int .i64 x, .int .i64 y, .bool hd, .int .u8 mo, .str ti, .vec .str l]] = some (i + wideAt L i ≤ L.length ∧ C.length = L.length ∧ L.length ≤ 60000, .ret (.bool (otherB C L i)), [.box [.vec .cell C], .box [.fn 64 [.ptr 2 0 0]], .box [.int .i64 k, .int .i64 r, .vec .cell L, .int .i64 x, .int .i64 y, .bool hd, .int .u8 mo, .str ti, .vec .str l]]) := mspOf_at (α := Nat × (List CD) × Int × Int × (List CD) × Int × Int × Bool × Int × ByteArray × (List ByteArray)) _ (fun ⟨i, C, k, r, L, x, y, hd, mo, ti, l⟩ ⟨i', C', k', r', L', x', y', hd', mo', ti', l'⟩ h => by first | rfl | simpa [CP, encC_eq] using h | (simp [CP, encC_eq] at h ⊢; grind)) (i, C, k, r, L, x, y, hd, mo, ti, l)
theorem mu_otherF : MutF Tryd.prog E0 65 msp_otherF := MutF.of fun ⟨i, C, k, r, L, x, y, hd, mo, ti, l⟩ hG => TF.intro (V := (VV [(64, conM msp_wideF), (62, conF [.sl .cell, .sl .cell] sp_equal)] (.cons (chkFn_callable k_moves_layRuns_1) (MutF.soundM mu_wideF) (.cons (chkFn_callable k_slices_Equal_Cell) (Fresh.soundF fr_equal) GOk.nil)) 25 3)) k_moves_layRuns_2 rfl rfl (by
  dsimp only at hG ⊢
  obtain ⟨hi, hC, hl⟩ := hG
  have hwp := wideAt_pos L i
  have hlen : ∀ X : List CD, (List.take (wideAt L i) (List.drop i X)).length ≤ 4611686018427387904 := fun X => by
    rw [List.length_take]
    omega
  repeat' first | exact hlen _ | simp only [SB, E, MB, seval, rdB, ne_eq, implies_true, msp_wideF_at, sp_equal_at] | refine T.seq ?_ | refine T.stm ?_ | refine T.rg ?_ | refine wpR_o ?_ | refine wpR_g ?_ | refine wpR_e ?_ | refine T.cond ?_ | refine T.skip ?_ | refine T.ret ?_ | refine T.exit ?_ | refine T.block ?_ | refine And.intro ?_ ?_ | (intro hyp0; have hyp := hyp0; (try simp only [HB, ne_eq, reduceCtorEq] at hyp); (try simp only [hyp0]); (try clear hyp0); try (exfalso; omega; done)) | omega
  exact Cos.intro [0, 1, 2] [] rfl (by simp only [otherB]; (simp only [SB, E, MB, seval, rdB, ne_eq, implies_true, msp_wideF_at, sp_equal_at]; first | done | ((repeat' apply And.intro) <;> first | rfl | omega | (simp; done) | (simp; omega)))))
theorem vars6 {i bh kk : Nat} {q : CD} (hb : bh ≤ i) (hq : CWf q) : varsI [(i : Int) - bh, (kk : Int), q.fg, q.bg, q.attrs, q.link] = varsN ([i - bh, kk] ++ penN q.pen) := by
  rw [← varsI_nat]
  have h1 := hq.fg
  have h2 := hq.bg
  have h3 := hq.attrs
  have h4 := hq.link
  congr 1
  simp only [penN, CD.pen, List.cons_append, List.nil_append, List.map_cons, List.map_nil, Int.ofNat_eq_natCast, List.cons.injEq, and_true]
  (repeat' apply And.intro) <;> first | rfl | omega | trivial
noncomputable def sp_mruns : Spec := spOf (α := (List CD) × Int × Int × (List CD) × Int × Int × Bool × Int × ByteArray × (List ByteArray)) (fun ⟨C, k, r, L, x, y, hd, mo, ti, l⟩ => [.vec .cell C, .agg [.int .i64 k, .int .i64 r, .vec .cell L, .int .i64 x, .int .i64 y, .bool hd, .int .u8 mo, .str ti, .vec .str l]]) fun ⟨C, k, r, L, x, y, hd, mo, ti, l⟩ => (C.length = L.length ∧ L.length ≤ 1920 ∧ (∀ q ∈ L, CWf q) ∧ (∀ q ∈ L, 0 ≤ q.rune) ∧ (∀ i, i < L.length → i + wideAt L i ≤ L.length), .ret (.vec (.int .u8) (lettersB C L)))
theorem sp_mruns_at (C : List CD) (k : Int) (r : Int) (L : List CD) (x : Int) (y : Int) (hd : Bool) (mo : Int) (ti : ByteArray) (l : List ByteArray) : sp_mruns [.vec .cell C, .agg [.int .i64 k, .int .i64 r, .vec .cell L, .int .i64 x, .int .i64 y, .bool hd, .int .u8 mo, .str ti, .vec .str l]] = some (C.length = L.length ∧ L.length ≤ 1920 ∧ (∀ q ∈ L, CWf q) ∧ (∀ q ∈ L, 0 ≤ q.rune) ∧ (∀ i, i < L.length → i + wideAt L i ≤ L.length), .ret (.vec (.int .u8) (lettersB C L))) := spOf_at (α := (List CD) × Int × Int × (List CD) × Int × Int × Bool × Int × ByteArray × (List ByteArray)) _ (fun ⟨C, k, r, L, x, y, hd, mo, ti, l⟩ ⟨C', k', r', L', x', y', hd', mo', ti', l'⟩ h => by first | simpa [CP] using h | (simp [CP] at h ⊢; grind)) (C, k, r, L, x, y, hd, mo, ti, l)
theorem fr_mruns : Fresh Tryd.prog E0 34 sp_mruns := Fresh.of fun ⟨C, k, r, L, x, y, hd, mo, ti, l⟩ hG => TF.intro (V := (VV [(64, conM msp_wideF), (65, conM msp_otherF), (49, conT [.sl (.int .i64)] sp_vars), (19, conT [.any, .sl (.int .i64)] sp_put), (57, conT [.any] sp_var)] (.cons (chkFn_callable k_moves_layRuns_1) (MutF.soundM mu_wideF) (.cons (chkFn_callable k_moves_layRuns_2) (MutF.soundM mu_otherF) (.cons (chkFn_callable k_moves_vars) (Fresh.soundT fr_vars) (.cons (chkFn_callable k_moves_put) (Fresh.soundT fr_put) (.cons (chkFn_callable k_wire_Var) (Fresh.soundT fr_var) GOk.nil))))) 105 0)) k_moves_layRuns rfl rfl (by
  dsimp only at hG ⊢
  obtain ⟨hC, hl, hwf, hru, hwd⟩ := hG
  obtain ⟨oth, hoth⟩ : ∃ o, o = otherB C L := ⟨_, rfl⟩
  have heq := lettersB_eq C L
  rw [← hoth] at heq
  rw [heq]
  have hw5 : ∀ i, otherB C L i = oth i := fun i => by rw [hoth]
  repeat' first | simp only [SB, E, MB, seval, rdB, ne_eq, implies_true, msp_wideF_at, msp_otherF_at, sp_vars_at, sp_put_at, sp_var_at] | simp only [hw] | simp only [hw2] | simp only [hw5] | refine T.seq ?_ | refine T.stm ?_ | refine T.rg ?_ | refine wpR_o ?_ | refine wpR_g ?_ | refine wpR_e ?_ | refine T.cond ?_ | refine T.skip ?_ | refine T.ret ?_ | refine T.exit ?_ | refine T.block ?_ | refine And.intro ?_ ?_ | (intro hyp0; have hyp := hyp0; (try simp only [HB, ne_eq, reduceCtorEq] at hyp); (try simp only [hyp0]); (try clear hyp0); try (exfalso; omega; done)) | omega
  refine T.loop (fun q : Nat × Nat × Nat × List Int => ⟨[(2, .ptr 0 0 0), (3, .ptr 1 0 0), (5, .slice 3 0 1 q.2.2.2.length q.2.2.2.length), (6, .int .i64 q.2.2.1), (7, .int .i64 q.2.1), (8, .ptr 2 0 0), (9, .fn 65 [.ptr 0 0 0, .ptr 2 0 0, .ptr 1 0 0]), (10, .int .i64 q.1)], [.box [.vec .cell C], .box [.int .i64 k, .int .i64 r, .vec .cell L, .int .i64 x, .int .i64 y, .bool hd, .int .u8 mo, .str ti, .vec .str l], .box [.fn 64 [.ptr 1 0 0]], .seq (.int .u8) q.2.2.2]⟩) (fun q => Outn L oth q.1 q.2.1 q.2.2.1 q.2.2.2) (fun q => L.length - q.1) (0, 0, 0, []) ⟨⟨Nat.le_refl _, Nat.zero_le _⟩, rfl, by simp⟩ (Cos.intro [0, 1, 2, 99] [] rfl (by simp only [SB, E, MB, seval, rdB, ne_eq, implies_true, msp_wideF_at, msp_otherF_at, sp_vars_at, sp_put_at, sp_var_at]; first | done | simp [crs, crsL, emptyB])) (fun ⟨i, bh, nn, bs⟩ hout => ?_)
  dsimp only at hout ⊢
  have hle := hout.le
  have hsm := hout.small hwf (by omega)
  by_cases hil : i < L.length
  · have hwi := hwd i hil
    have hwp := wideAt_pos L i
    cases ho : oth i
    · have hsk := hout.skip hil ho hwi
      have hw := ho
      repeat' first | simp only [SB, E, MB, seval, rdB, ne_eq, implies_true, msp_wideF_at, msp_otherF_at, sp_vars_at, sp_put_at, sp_var_at] | simp only [hw] | simp only [hw2] | simp only [hw5] | refine T.seq ?_ | refine T.stm ?_ | refine T.rg ?_ | refine wpR_o ?_ | refine wpR_g ?_ | refine wpR_e ?_ | refine T.cond ?_ | refine T.skip ?_ | refine T.ret ?_ | refine T.exit ?_ | refine T.block ?_ | refine And.intro ?_ ?_ | (intro hyp0; have hyp := hyp0; (try simp only [HB, ne_eq, reduceCtorEq] at hyp); (try simp only [hyp0]); (try clear hyp0); try (exfalso; omega; done)) | omega
      exact ⟨(i + wideAt L i, bh, nn, bs), hsk, by simp only; omega, Cos.intro [0, 1, 2, 3] [] rfl (by (simp only [SB, E, MB, seval, rdB, ne_eq, implies_true, msp_wideF_at, msp_otherF_at, sp_vars_at, sp_put_at, sp_var_at]; first | done | ((repeat' apply And.intro) <;> first | rfl | omega | (simp; done) | (simp; omega))))⟩
    · have hw := ho
      have hcw := hwf _ (getD_memC hil)
      have hcg := cAt_getD hil
      repeat' first | simp only [SB, E, MB, seval, rdB, ne_eq, implies_true, msp_wideF_at, msp_otherF_at, sp_vars_at, sp_put_at, sp_var_at] | simp only [hw] | simp only [hw2] | simp only [hw5] | refine T.seq ?_ | refine T.stm ?_ | refine T.rg ?_ | refine wpR_o ?_ | refine wpR_g ?_ | refine wpR_e ?_ | refine T.cond ?_ | refine T.skip ?_ | refine T.ret ?_ | refine T.exit ?_ | refine T.block ?_ | refine And.intro ?_ ?_ | (intro hyp0; have hyp := hyp0; (try simp only [HB, ne_eq, reduceCtorEq] at hyp); (try simp only [hyp0]); (try clear hyp0); try (exfalso; omega; done)) | omega
      refine T.loop (fun q : Nat × Nat × List Int => ⟨[(2, .ptr 0 0 0), (3, .ptr 1 0 0), (5, .slice 3 0 1 bs.length bs.length), (6, .int .i64 nn), (7, .int .i64 bh), (8, .ptr 2 0 0), (9, .fn 65 [.ptr 0 0 0, .ptr 2 0 0, .ptr 1 0 0]), (10, .int .i64 q.1), (11, .ptr 4 0 0), (12, .int .i64 i), (13, .int .i64 q.2.1), (14, .slice 5 0 1 q.2.2.length q.2.2.length)], [.box [.vec .cell C], .box [.int .i64 k, .int .i64 r, .vec .cell L, .int .i64 x, .int .i64 y, .bool hd, .int .u8 mo, .str ti, .vec .str l], .box [.fn 64 [.ptr 1 0 0]], .seq (.int .u8) bs, .box [.int .u32 (L.getD i default).fg, .int .u32 (L.getD i default).bg, .int .u8 (L.getD i default).attrs, .int .u16 (L.getD i default).link], .seq (.int .u8) q.2.2]⟩) (fun q => Inn L (cAt L i).pen oth i q.1 q.2.1 q.2.2) (fun q => L.length - q.1) (i, 0, []) (Inn.start (by omega)) (Cos.intro [0, 1, 2, 3, 4, 99] [] rfl (by simp only [SB, E, MB, seval, rdB, ne_eq, implies_true, msp_wideF_at, msp_otherF_at, sp_vars_at, sp_put_at, sp_var_at]; simp [crs, crsL, emptyB, CD.pen])) (fun ⟨j, kk, rb⟩ hin => ?_)
      dsimp only at hin ⊢
      have hle2 := hin.le
      have hsm2 := hin.small hwf (by omega)
      have hend : ¬ (j < L.length ∧ oth j = true ∧ (cAt L j).pen = (cAt L i).pen) → i < j ∧ Outn L oth j j (nn + 1) (bs ++ varsN ([i - bh, kk] ++ penN (cAt L i).pen) ++ rb) := fun h => ⟨hin.far hil ho h, hout.go hil ho hin h⟩
      have hv6 := vars6 (kk := kk) hle.1 hcw
      have hvl6 := varsI_len [(i : Int) - bh, (kk : Int), (L.getD i default).fg, (L.getD i default).bg, (L.getD i default).attrs, (L.getD i default).link] (fun u hu => by
        have h1 := hcw.fg
        have h2 := hcw.bg
        have h3 := hcw.attrs
        have h4 := hcw.link
        simp only [HB, ne_eq, reduceCtorEq] at hu
        omega)
      simp only [List.length_cons, List.length_nil] at hvl6
      have hcf := hcw.fg
      have hcb := hcw.bg
      have hca := hcw.attrs
      have hclk := hcw.link
      by_cases hjl : j < L.length
      · have hwj := hwd j hjl
        have hwpj := wideAt_pos L j
        have hrj := hru _ (getD_memC hjl)
        have hrw := (hwf _ (getD_memC hjl)).rune
        have hcj := cAt_getD hjl
        have hw2 : IntKind.u64.wrap (L.getD j default).rune = (L.getD j default).rune := w_u64 (by omega)
        have h10 := varN_len10 (L.getD j default).rune.toNat (by omega)
        cases ho2 : oth j
        · have hw := ho2
          have hE := hend (by rw [ho2]; simp)
          rw [hcg] at hE
          repeat' first | simp only [SB, E, MB, seval, rdB, ne_eq, implies_true, msp_wideF_at, msp_otherF_at, sp_vars_at, sp_put_at, sp_var_at] | simp only [hw] | simp only [hw2] | simp only [hw5] | refine T.seq ?_ | refine T.stm ?_ | refine T.rg ?_ | refine wpR_o ?_ | refine wpR_g ?_ | refine wpR_e ?_ | refine T.cond ?_ | refine T.skip ?_ | refine T.ret ?_ | refine T.exit ?_ | refine T.block ?_ | refine And.intro ?_ ?_ | (intro hyp0; have hyp := hyp0; (try simp only [HB, ne_eq, reduceCtorEq] at hyp); (try simp only [hyp0]); (try clear hyp0); try (exfalso; omega; done)) | omega
          exact ⟨(j, j, nn + 1, _), hE.2, by simp only; have := hE.1; omega, Cos.intro [0, 1, 2, 9] [] rfl (by rw [hv6]; (simp only [SB, E, MB, seval, rdB, ne_eq, implies_true, msp_wideF_at, msp_otherF_at, sp_vars_at, sp_put_at, sp_var_at]; first | done | ((repeat' apply And.intro) <;> first | rfl | omega | (simp; done) | (simp; omega))))⟩
        · have hw := ho2
          repeat' first | simp only [SB, E, MB, seval, rdB, ne_eq, implies_true, msp_wideF_at, msp_otherF_at, sp_vars_at, sp_put_at, sp_var_at] | simp only [hw] | simp only [hw2] | simp only [hw5] | refine T.seq ?_ | refine T.stm ?_ | refine T.rg ?_ | refine wpR_o ?_ | refine wpR_g ?_ | refine wpR_e ?_ | refine T.cond ?_ | refine T.skip ?_ | refine T.ret ?_ | refine T.exit ?_ | refine T.block ?_ | refine And.intro ?_ ?_ | (intro hyp0; have hyp := hyp0; (try simp only [HB, ne_eq, reduceCtorEq] at hyp); (try simp only [hyp0]); (try clear hyp0); try (exfalso; omega; done)) | omega
          · have hgo := hin.go hjl ho2 (by rw [hcj, hcg]; exact hyp) hwj
            rw [hcj] at hgo
            exact ⟨(j + wideAt L j, kk + 1, _), hgo, by simp only; omega, Cos.intro [0, 1, 2, 3, 4, 7] [] rfl (by (simp only [SB, E, MB, seval, rdB, ne_eq, implies_true, msp_wideF_at, msp_otherF_at, sp_vars_at, sp_put_at, sp_var_at]; first | done | ((repeat' apply And.intro) <;> first | rfl | omega | (simp; done) | (simp; omega))))⟩
          · have hE := hend (fun h => hyp (by rw [← hcj, ← hcg]; exact h.2.2))
            rw [hcg] at hE
            exact ⟨(j, j, nn + 1, _), hE.2, by simp only; have := hE.1; omega, Cos.intro [0, 1, 2, 9] [] rfl (by rw [hv6]; (simp only [SB, E, MB, seval, rdB, ne_eq, implies_true, msp_wideF_at, msp_otherF_at, sp_vars_at, sp_put_at, sp_var_at]; first | done | ((repeat' apply And.intro) <;> first | rfl | omega | (simp; done) | (simp; omega))))⟩
      · have hE := hend (fun h => hjl h.1)
        rw [hcg] at hE
        repeat' first | simp only [SB, E, MB, seval, rdB, ne_eq, implies_true, msp_wideF_at, msp_otherF_at, sp_vars_at, sp_put_at, sp_var_at] | simp only [hw] | simp only [hw2] | simp only [hw5] | refine T.seq ?_ | refine T.stm ?_ | refine T.rg ?_ | refine wpR_o ?_ | refine wpR_g ?_ | refine wpR_e ?_ | refine T.cond ?_ | refine T.skip ?_ | refine T.ret ?_ | refine T.exit ?_ | refine T.block ?_ | refine And.intro ?_ ?_ | (intro hyp0; have hyp := hyp0; (try simp only [HB, ne_eq, reduceCtorEq] at hyp); (try simp only [hyp0]); (try clear hyp0); try (exfalso; omega; done)) | omega
        exact ⟨(j, j, nn + 1, _), hE.2, by simp only; have := hE.1; omega, Cos.intro [0, 1, 2, 9] [] rfl (by rw [hv6]; (simp only [SB, E, MB, seval, rdB, ne_eq, implies_true, msp_wideF_at, msp_otherF_at, sp_vars_at, sp_put_at, sp_var_at]; first | done | ((repeat' apply And.intro) <;> first | rfl | omega | (simp; done) | (simp; omega))))⟩
  · obtain ⟨e1, e2⟩ := hout.done (by omega)
    rw [← e1, ← e2]
    have hw : varsI [(nn : Int)] = varN nn := by simp only [varsI, List.flatMap_cons, List.flatMap_nil, List.append_nil, Int.toNat_natCast]
    have h10 := varN_len10 nn (by omega)
    repeat' first | simp only [SB, E, MB, seval, rdB, ne_eq, implies_true, msp_wideF_at, msp_otherF_at, sp_vars_at, sp_put_at, sp_var_at] | simp only [hw] | simp only [hw2] | simp only [hw5] | refine T.seq ?_ | refine T.stm ?_ | refine T.rg ?_ | refine wpR_o ?_ | refine wpR_g ?_ | refine wpR_e ?_ | refine T.cond ?_ | refine T.skip ?_ | refine T.ret ?_ | refine T.exit ?_ | refine T.block ?_ | refine And.intro ?_ ?_ | (intro hyp0; have hyp := hyp0; (try simp only [HB, ne_eq, reduceCtorEq] at hyp); (try simp only [hyp0]); (try clear hyp0); try (exfalso; omega; done)) | omega
    · rw [if_pos (show nn = 0 by omega)]
      exact Cos.intro [99] [] rfl (by simp only [SB, E, MB, seval, rdB, ne_eq, implies_true, msp_wideF_at, msp_otherF_at, sp_vars_at, sp_put_at, sp_var_at]; first | done | simp [crs, crsL, emptyB])
    · rw [if_neg (show ¬ nn = 0 by omega)]
      refine Cos.intro [6] [] rfl ?_
      (simp only [SB, E, MB, seval, rdB, ne_eq, implies_true, msp_wideF_at, msp_otherF_at, sp_vars_at, sp_put_at, sp_var_at]; first | done | ((repeat' apply And.intro) <;> first | rfl | omega | (simp; done) | (simp; omega))))
end
end Go.Proofs.YtcfkfgkndncanaaDoor
