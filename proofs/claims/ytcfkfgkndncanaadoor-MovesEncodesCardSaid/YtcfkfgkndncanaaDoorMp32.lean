/- Texts of this claim, merged by a program of this claim: FEnc. -/
import Derived.Test.YtcfkfgkndncanaaDoorMp26
import Derived.Test.YtcfkfgkndncanaaDoorMp30
import Derived.Test.YtcfkfgkndncanaaDoorMp31
namespace Go.Proofs.YtcfkfgkndncanaaDoor
set_option linter.unusedVariables false
set_option linter.unusedSimpArgs false
section
open Go.RowKit
set_option maxRecDepth 100000
set_option maxHeartbeats 4000000
theorem top_blank : ∀ n, topOf 0 (List.replicate n blank0) = some 0
  | 0 => rfl
  | n + 1 => by
    rw [List.replicate_succ', topOf_snoc, top_blank n]
    rfl
theorem title_empty : titleB (bs []) = true := by decide +kernel
theorem blank_right {k r : Nat} (hk : 1 ≤ k ∧ k ≤ 80) (hr : 1 ≤ r ∧ r ≤ 24) : rightB k r (blanksN k r) 0 0 0 (bs []) [] = true := by
  have h1 := blanksN_grid hk hr
  have h2 : linksB (blanksN k r) [] = true := by
    simp only [linksB, blanksN, List.length_nil, top_blank]
    rfl
  unfold rightB
  simp only [h1, h2, title_empty, HB, ne_eq, reduceCtorEq]
  refine ⟨⟨⟨⟨⟨⟨⟨⟨trivial, trivial⟩, ?_⟩, ?_⟩, ?_⟩, ?_⟩, ?_⟩, ?_⟩, trivial⟩ <;> first | omega | decide
theorem blank_ok (k r : Nat) (h : k * r ≤ 60000) : ScrOk (blanksN k r) [] := ⟨fun c hc => by rw [List.eq_of_mem_replicate hc]; exact blank0_wf, by simp [blanksN]; exact h, by simp, fun s hs => by cases hs⟩
noncomputable def sp_mfull : Spec := spOf (α := Int × Int × (List CD) × Int × Int × Bool × Int × ByteArray × (List ByteArray)) (fun ⟨k, r, L, x, y, hd, mo, ti, l⟩ => [.agg [.int .i64 k, .int .i64 r, .vec .cell L, .int .i64 x, .int .i64 y, .bool hd, .int .u8 mo, .str ti, .vec .str l]]) fun ⟨k, r, L, x, y, hd, mo, ti, l⟩ => ((ScrOk L l ∧ SLen ti) ∧ 0 ≤ mo, .ret (.tup [.vec (.int .u8) (fullI k r L x y hd mo ti l), .int .i64 (errN (rightB k r L x y mo ti l))]))
theorem sp_mfull_at (k : Int) (r : Int) (L : List CD) (x : Int) (y : Int) (hd : Bool) (mo : Int) (ti : ByteArray) (l : List ByteArray) : sp_mfull [.agg [.int .i64 k, .int .i64 r, .vec .cell L, .int .i64 x, .int .i64 y, .bool hd, .int .u8 mo, .str ti, .vec .str l]] = some ((ScrOk L l ∧ SLen ti) ∧ 0 ≤ mo, .ret (.tup [.vec (.int .u8) (fullI k r L x y hd mo ti l), .int .i64 (errN (rightB k r L x y mo ti l))])) := spOf_at (α := Int × Int × (List CD) × Int × Int × Bool × Int × ByteArray × (List ByteArray)) _ (fun ⟨k, r, L, x, y, hd, mo, ti, l⟩ ⟨k', r', L', x', y', hd', mo', ti', l'⟩ h => by first | simpa [CP] using h | (simp [CP] at h ⊢; grind)) (k, r, L, x, y, hd, mo, ti, l)
theorem fr_mfull : Fresh Tryd.prog E0 9 sp_mfull := Fresh.of fun ⟨k, r, L, x, y, hd, mo, ti, l⟩ hG => TF.intro (V := (VV [(14, conF [.agg [.any, .any, .sl .cell, .any, .any, .any, .any, .any, .sl .str]] sp_eright), (18, conT [.any, .any] sp_pblank), (19, conT [.any, .sl (.int .i64)] sp_put), (15, conT [.agg [.any, .any, .sl .cell, .any, .any, .any, .any, .any, .sl .str], .agg [.any, .any, .sl .cell, .any, .any, .any, .any, .any, .sl .str]] sp_mlay)] (.cons (chkFn_callable k_emul_Right) (Fresh.soundF fr_eright) (.cons (chkFn_callable k_project_Blank) (Fresh.soundT fr_pblank) (.cons (chkFn_callable k_moves_put) (Fresh.soundT fr_put) (.cons (chkFn_callable k_moves_lay) (Fresh.soundT fr_mlay) GOk.nil)))) 27 0)) k_moves_Full rfl rfl (by
  dsimp only at hG ⊢
  obtain ⟨⟨hs, ht⟩, hmo⟩ := hG
  cases hw : rightB k r L x y mo ti l
  · have e : fullI k r L x y hd mo ti l = [] := by rw [fullI, if_neg (by rw [hw]; decide)]
    repeat' first | exact hs | simp only [SB, E, seval, rdB, ne_eq, implies_true, sp_eright_at, sp_pblank_at, sp_put_at, sp_mlay_at] | simp only [hw] | simp only [hw2] | simp only [hw3] | refine T.seq ?_ | refine T.stm ?_ | refine T.rg ?_ | refine wpR_o ?_ | refine wpR_g ?_ | refine wpR_e ?_ | refine T.cond ?_ | refine T.skip ?_ | refine T.ret ?_ | refine T.exit ?_ | refine T.block ?_ | refine And.intro ?_ ?_ | (intro hyp0; have hyp := hyp0; (try simp only [HB, ne_eq, reduceCtorEq] at hyp); (try simp only [hyp0]); (try clear hyp0); try (exfalso; omega; done)) | omega
    exact Cos.intro [99] [] rfl (by rw [e]; simp only [SB, E, seval, rdB, ne_eq, implies_true, sp_eright_at, sp_pblank_at, sp_put_at, sp_mlay_at]; simp [crs, crsL, emptyB, errN])
  · obtain ⟨K, R, X, Y, M, rfl, rfl, rfl, rfl, rfl, f⟩ := right_fact hw hmo
    have hk := f.k1
    have hr := f.r1
    have hKR : K * R ≤ 1920 := Nat.mul_le_mul (show K ≤ 80 by omega) (show R ≤ 24 by omega)
    have hbr := blank_right hk hr
    have hbo := blank_ok K R (by omega)
    have hf : fitsB (K : Int) R = true := fits_iff.2 (by omega)
    have hw2 : List.take (K * R) (List.replicate (K * R) blank0) = blanksN K R := List.take_of_length_le (by simp)
    have hw3 : varsI [(K : Int), (R : Int)] = varsN [K, R] := varsI_nat [K, R]
    have hvl := varsN_len [K, R] (fun u hu => by simp at hu; omega)
    simp only [List.length_cons, List.length_nil] at hvl
    have hx := f.x1
    have hy := f.y1
    have hm := f.mo1
    have hdl := diffB_len (L1 := blanksN K R) (x1 := 0) (y1 := 0) (hd1 := false) (m1 := 0) (t1 := bs []) (l1 := []) (L2 := L) (x2 := X) (y2 := Y) (hd2 := hd) (m2 := M) (t2 := ti) (l2 := l) (k := K) (r := R) (by simp [blanksN]) (by omega) hr f.len hs.wf (by omega) (by omega) (by omega) f.ti1 f.l1 f.s64
    have e : fullI (K : Int) R L X Y hd M ti l = 1 :: (varsN [K, R] ++ diffB K R (blanksN K R) 0 0 false 0 (bs []) [] L X Y hd M ti l) := by
      rw [fullI, if_pos hw]
      rfl
    repeat' first | exact hs | exact hf | exact hbo | exact hbr | simp only [SB, E, seval, rdB, ne_eq, implies_true, sp_eright_at, sp_pblank_at, sp_put_at, sp_mlay_at] | simp only [hw] | simp only [hw2] | simp only [hw3] | refine T.seq ?_ | refine T.stm ?_ | refine T.rg ?_ | refine wpR_o ?_ | refine wpR_g ?_ | refine wpR_e ?_ | refine T.cond ?_ | refine T.skip ?_ | refine T.ret ?_ | refine T.exit ?_ | refine T.block ?_ | refine And.intro ?_ ?_ | (intro hyp0; have hyp := hyp0; (try simp only [HB, ne_eq, reduceCtorEq] at hyp); (try simp only [hyp0]); (try clear hyp0); try (exfalso; omega; done)) | omega
    refine Cos.intro [7] [] rfl ?_
    rw [e]
    simp only [errN]
    (simp only [SB, E, seval, rdB, ne_eq, implies_true, sp_eright_at, sp_pblank_at, sp_put_at, sp_mlay_at]; first | done | ((repeat' apply And.intro) <;> first | rfl | omega | (simp; done) | (simp; omega))))
noncomputable def sp_r8full : Spec := spOf (α := Int × Int × (List CD) × Int × Int × Bool × Int × ByteArray × (List ByteArray)) (fun ⟨k, r, L, x, y, hd, mo, ti, l⟩ => [.agg [.int .i64 k, .int .i64 r, .vec .cell L, .int .i64 x, .int .i64 y, .bool hd, .int .u8 mo, .str ti, .vec .str l]]) fun ⟨k, r, L, x, y, hd, mo, ti, l⟩ => ((ScrOk L l ∧ SLen ti) ∧ 0 ≤ mo, .ret (.tup [.vec (.int .u8) (fullI k r L x y hd mo ti l), .int .i64 (errN (rightB k r L x y mo ti l))]))
theorem sp_r8full_at (k : Int) (r : Int) (L : List CD) (x : Int) (y : Int) (hd : Bool) (mo : Int) (ti : ByteArray) (l : List ByteArray) : sp_r8full [.agg [.int .i64 k, .int .i64 r, .vec .cell L, .int .i64 x, .int .i64 y, .bool hd, .int .u8 mo, .str ti, .vec .str l]] = some ((ScrOk L l ∧ SLen ti) ∧ 0 ≤ mo, .ret (.tup [.vec (.int .u8) (fullI k r L x y hd mo ti l), .int .i64 (errN (rightB k r L x y mo ti l))])) := spOf_at (α := Int × Int × (List CD) × Int × Int × Bool × Int × ByteArray × (List ByteArray)) _ (fun ⟨k, r, L, x, y, hd, mo, ti, l⟩ ⟨k', r', L', x', y', hd', mo', ti', l'⟩ h => by first | simpa [CP] using h | (simp [CP] at h ⊢; grind)) (k, r, L, x, y, hd, mo, ti, l)
theorem fr_r8full : Fresh Tryd.prog E0 10 sp_r8full := Fresh.of fun ⟨k, r, L, x, y, hd, mo, ti, l⟩ hG => TF.intro (V := (VV [(16, conF [.agg [.any, .any, .sl .cell, .any, .any, .any, .any, .any, .sl .str]] sp_r12right), (20, conT [.any, .any] sp_rblankT), (21, conT [.sl (.int .i64)] sp_rvars), (17, conT [.agg [.any, .any, .sl .cell, .any, .any, .any, .any, .any, .sl .str], .agg [.any, .any, .sl .cell, .any, .any, .any, .any, .any, .sl .str]] sp_r8diff)] (.cons (chkFn_callable k_r12_Right) (Fresh.soundF fr_r12right) (.cons (chkFn_callable k_r15_Blank) (Fresh.soundT fr_rblankT) (.cons (chkFn_callable k_r18_vars) (Fresh.soundT fr_rvars) (.cons (chkFn_callable k_r18_Diff) (Fresh.soundT fr_r8diff) GOk.nil)))) 29 0)) k_r18_Full rfl rfl (by
  dsimp only at hG ⊢
  obtain ⟨⟨hs, ht⟩, hmo⟩ := hG
  cases hw : rightB k r L x y mo ti l
  · have e : fullI k r L x y hd mo ti l = [] := by rw [fullI, if_neg (by rw [hw]; decide)]
    repeat' first | exact hs | simp only [SB, E, seval, rdB, ne_eq, implies_true, sp_r12right_at, sp_rblankT_at, sp_rvars_at, sp_r8diff_at] | simp only [hw] | simp only [hw2] | simp only [hw3] | refine T.seq ?_ | refine T.stm ?_ | refine T.rg ?_ | refine wpR_o ?_ | refine wpR_g ?_ | refine wpR_e ?_ | refine T.cond ?_ | refine T.skip ?_ | refine T.ret ?_ | refine T.exit ?_ | refine T.block ?_ | refine And.intro ?_ ?_ | (intro hyp0; have hyp := hyp0; (try simp only [HB, ne_eq, reduceCtorEq] at hyp); (try simp only [hyp0]); (try clear hyp0); try (exfalso; omega; done)) | omega
    exact Cos.intro [99] [] rfl (by rw [e]; simp only [SB, E, seval, rdB, ne_eq, implies_true, sp_r12right_at, sp_rblankT_at, sp_rvars_at, sp_r8diff_at]; simp [crs, crsL, emptyB, errN])
  · obtain ⟨K, R, X, Y, M, rfl, rfl, rfl, rfl, rfl, f⟩ := right_fact hw hmo
    have hk := f.k1
    have hr := f.r1
    have hKR : K * R ≤ 1920 := Nat.mul_le_mul (show K ≤ 80 by omega) (show R ≤ 24 by omega)
    have hbr := blank_right hk hr
    have hbo := blank_ok K R (by omega)
    have hf : fitsB (K : Int) R = true := fits_iff.2 (by omega)
    have hw2 : List.take (K * R) (List.replicate (K * R) blank0) = blanksN K R := List.take_of_length_le (by simp)
    have hw3 : varsI [(K : Int), (R : Int)] = varsN [K, R] := varsI_nat [K, R]
    have hvl := varsN_len [K, R] (fun u hu => by simp at hu; omega)
    simp only [List.length_cons, List.length_nil] at hvl
    have hx := f.x1
    have hy := f.y1
    have hm := f.mo1
    have hdl := diffB_len (L1 := blanksN K R) (x1 := 0) (y1 := 0) (hd1 := false) (m1 := 0) (t1 := bs []) (l1 := []) (L2 := L) (x2 := X) (y2 := Y) (hd2 := hd) (m2 := M) (t2 := ti) (l2 := l) (k := K) (r := R) (by simp [blanksN]) (by omega) hr f.len hs.wf (by omega) (by omega) (by omega) f.ti1 f.l1 f.s64
    have e : fullI (K : Int) R L X Y hd M ti l = 1 :: (varsN [K, R] ++ diffB K R (blanksN K R) 0 0 false 0 (bs []) [] L X Y hd M ti l) := by
      rw [fullI, if_pos hw]
      rfl
    repeat' first | exact hs | exact hf | exact hbo | exact hbr | simp only [SB, E, seval, rdB, ne_eq, implies_true, sp_r12right_at, sp_rblankT_at, sp_rvars_at, sp_r8diff_at] | simp only [hw] | simp only [hw2] | simp only [hw3] | refine T.seq ?_ | refine T.stm ?_ | refine T.rg ?_ | refine wpR_o ?_ | refine wpR_g ?_ | refine wpR_e ?_ | refine T.cond ?_ | refine T.skip ?_ | refine T.ret ?_ | refine T.exit ?_ | refine T.block ?_ | refine And.intro ?_ ?_ | (intro hyp0; have hyp := hyp0; (try simp only [HB, ne_eq, reduceCtorEq] at hyp); (try simp only [hyp0]); (try clear hyp0); try (exfalso; omega; done)) | omega
    refine Cos.intro [9] [] rfl ?_
    rw [e]
    simp only [errN]
    (simp only [SB, E, seval, rdB, ne_eq, implies_true, sp_r12right_at, sp_rblankT_at, sp_rvars_at, sp_r8diff_at]; first | done | ((repeat' apply And.intro) <;> first | rfl | omega | (simp; done) | (simp; omega))))
noncomputable def sp_menc : Spec := spOf (α := Int × Int × (List CD) × Int × Int × Bool × Int × ByteArray × (List ByteArray) × Int × Int × (List CD) × Int × Int × Bool × Int × ByteArray × (List ByteArray)) (fun ⟨k, r, L, x, y, hd, mo, ti, l, k', r', L', x', y', hd', mo', ti', l'⟩ => [.agg [.int .i64 k, .int .i64 r, .vec .cell L, .int .i64 x, .int .i64 y, .bool hd, .int .u8 mo, .str ti, .vec .str l], .agg [.int .i64 k', .int .i64 r', .vec .cell L', .int .i64 x', .int .i64 y', .bool hd', .int .u8 mo', .str ti', .vec .str l']]) fun ⟨k, r, L, x, y, hd, mo, ti, l, k', r', L', x', y', hd', mo', ti', l'⟩ => (((ScrOk L l ∧ SLen ti) ∧ 0 ≤ mo) ∧ ((ScrOk L' l' ∧ SLen ti') ∧ 0 ≤ mo'), .ret (.tup [.vec (.int .u8) (encI k r L x y hd mo ti l k' r' L' x' y' hd' mo' ti' l'), .int .i64 (errN (rightB k r L x y mo ti l && rightB k' r' L' x' y' mo' ti' l'))]))
theorem sp_menc_at (k : Int) (r : Int) (L : List CD) (x : Int) (y : Int) (hd : Bool) (mo : Int) (ti : ByteArray) (l : List ByteArray) (k' : Int) (r' : Int) (L' : List CD) (x' : Int) (y' : Int) (hd' : Bool) (mo' : Int) (ti' : ByteArray) (l' : List ByteArray) : sp_menc [.agg [.int .i64 k, .int .i64 r, .vec .cell L, .int .i64 x, .int .i64 y, .bool hd, .int .u8 mo, .str ti, .vec .str l], .agg [.int .i64 k', .int .i64 r', .vec .cell L', .int .i64 x', .int .i64 y', .bool hd', .int .u8 mo', .str ti', .vec .str l']] = some (((ScrOk L l ∧ SLen ti) ∧ 0 ≤ mo) ∧ ((ScrOk L' l' ∧ SLen ti') ∧ 0 ≤ mo'), .ret (.tup [.vec (.int .u8) (encI k r L x y hd mo ti l k' r' L' x' y' hd' mo' ti' l'), .int .i64 (errN (rightB k r L x y mo ti l && rightB k' r' L' x' y' mo' ti' l'))])) := spOf_at (α := Int × Int × (List CD) × Int × Int × Bool × Int × ByteArray × (List ByteArray) × Int × Int × (List CD) × Int × Int × Bool × Int × ByteArray × (List ByteArray)) _ (fun ⟨k, r, L, x, y, hd, mo, ti, l, k', r', L', x', y', hd', mo', ti', l'⟩ ⟨k', r', L', x', y', hd', mo', ti', l', k'', r'', L'', x'', y'', hd'', mo'', ti'', l''⟩ h => by first | simpa [CP] using h | (simp [CP] at h ⊢; grind)) (k, r, L, x, y, hd, mo, ti, l, k', r', L', x', y', hd', mo', ti', l')
theorem fr_menc : Fresh Tryd.prog E0 7 sp_menc := Fresh.of fun ⟨k, r, L, x, y, hd, mo, ti, l, k', r', L', x', y', hd', mo', ti', l'⟩ hG => TF.intro (V := (VV [(14, conF [.agg [.any, .any, .sl .cell, .any, .any, .any, .any, .any, .sl .str]] sp_eright), (9, conT [.agg [.any, .any, .sl .cell, .any, .any, .any, .any, .any, .sl .str]] sp_mfull), (15, conT [.agg [.any, .any, .sl .cell, .any, .any, .any, .any, .any, .sl .str], .agg [.any, .any, .sl .cell, .any, .any, .any, .any, .any, .sl .str]] sp_mlay)] (.cons (chkFn_callable k_emul_Right) (Fresh.soundF fr_eright) (.cons (chkFn_callable k_moves_Full) (Fresh.soundT fr_mfull) (.cons (chkFn_callable k_moves_lay) (Fresh.soundT fr_mlay) GOk.nil))) 35 0)) k_moves_Encode rfl rfl (by
  dsimp only at hG ⊢
  obtain ⟨⟨⟨hs, ht⟩, hmo⟩, ⟨hs', ht'⟩, hmo'⟩ := hG
  cases hw : rightB k r L x y mo ti l
  · have e : encI k r L x y hd mo ti l k' r' L' x' y' hd' mo' ti' l' = [] := by rw [encI, if_neg (by rw [hw]; simp)]
    repeat' first | exact hs | simp only [SB, E, seval, rdB, ne_eq, implies_true, sp_eright_at, sp_mfull_at, sp_mlay_at] | simp only [hw] | simp only [hw2] | refine T.seq ?_ | refine T.stm ?_ | refine T.rg ?_ | refine wpR_o ?_ | refine wpR_g ?_ | refine wpR_e ?_ | refine T.cond ?_ | refine T.skip ?_ | refine T.ret ?_ | refine T.exit ?_ | refine T.block ?_ | refine And.intro ?_ ?_ | (intro hyp0; have hyp := hyp0; (try simp only [HB, ne_eq, reduceCtorEq] at hyp); (try simp only [hyp0]); (try clear hyp0); try (exfalso; omega; done)) | omega
    exact Cos.intro [99] [] rfl (by rw [e]; simp only [SB, E, seval, rdB, ne_eq, implies_true, sp_eright_at, sp_mfull_at, sp_mlay_at]; simp [crs, crsL, emptyB, errN])
  · cases hw2 : rightB k' r' L' x' y' mo' ti' l'
    · have e : encI k r L x y hd mo ti l k' r' L' x' y' hd' mo' ti' l' = [] := by rw [encI, if_neg (by rw [hw2]; simp)]
      repeat' first | exact hs | exact hs' | simp only [SB, E, seval, rdB, ne_eq, implies_true, sp_eright_at, sp_mfull_at, sp_mlay_at] | simp only [hw] | simp only [hw2] | refine T.seq ?_ | refine T.stm ?_ | refine T.rg ?_ | refine wpR_o ?_ | refine wpR_g ?_ | refine wpR_e ?_ | refine T.cond ?_ | refine T.skip ?_ | refine T.ret ?_ | refine T.exit ?_ | refine T.block ?_ | refine And.intro ?_ ?_ | (intro hyp0; have hyp := hyp0; (try simp only [HB, ne_eq, reduceCtorEq] at hyp); (try simp only [hyp0]); (try clear hyp0); try (exfalso; omega; done)) | omega
      exact Cos.intro [99] [] rfl (by rw [e]; simp only [SB, E, seval, rdB, ne_eq, implies_true, sp_eright_at, sp_mfull_at, sp_mlay_at]; simp [crs, crsL, emptyB, errN])
    · have e0 : encI k r L x y hd mo ti l k' r' L' x' y' hd' mo' ti' l' = if k = k' ∧ r = r' then diffB k.toNat r.toNat L x.toNat y.toNat hd mo.toNat ti l L' x'.toNat y'.toNat hd' mo'.toNat ti' l' else fullI k' r' L' x' y' hd' mo' ti' l' := by rw [encI, if_pos (by rw [hw, hw2]; rfl)]
      by_cases hkr : k = k' ∧ r = r'
      · rw [if_pos hkr] at e0
        repeat' first | exact hs | exact hs' | exact hw | exact hw2 | simp only [SB, E, seval, rdB, ne_eq, implies_true, sp_eright_at, sp_mfull_at, sp_mlay_at] | simp only [hw] | simp only [hw2] | refine T.seq ?_ | refine T.stm ?_ | refine T.rg ?_ | refine wpR_o ?_ | refine wpR_g ?_ | refine wpR_e ?_ | refine T.cond ?_ | refine T.skip ?_ | refine T.ret ?_ | refine T.exit ?_ | refine T.block ?_ | refine And.intro ?_ ?_ | (intro hyp0; have hyp := hyp0; (try simp only [HB, ne_eq, reduceCtorEq] at hyp); (try simp only [hyp0]); (try clear hyp0); try (exfalso; omega; done)) | omega
        exact Cos.intro [2] [] rfl (by rw [e0]; simp only [errN]; (simp only [SB, E, seval, rdB, ne_eq, implies_true, sp_eright_at, sp_mfull_at, sp_mlay_at]; first | done | ((repeat' apply And.intro) <;> first | rfl | omega | (simp; done) | (simp; omega))))
      · rw [if_neg hkr] at e0
        repeat' first | exact hs | exact hs' | simp only [SB, E, seval, rdB, ne_eq, implies_true, sp_eright_at, sp_mfull_at, sp_mlay_at] | simp only [hw] | simp only [hw2] | refine T.seq ?_ | refine T.stm ?_ | refine T.rg ?_ | refine wpR_o ?_ | refine wpR_g ?_ | refine wpR_e ?_ | refine T.cond ?_ | refine T.skip ?_ | refine T.ret ?_ | refine T.exit ?_ | refine T.block ?_ | refine And.intro ?_ ?_ | (intro hyp0; have hyp := hyp0; (try simp only [HB, ne_eq, reduceCtorEq] at hyp); (try simp only [hyp0]); (try clear hyp0); try (exfalso; omega; done)) | omega
        exact Cos.intro [2] [] rfl (by rw [e0]; (simp only [SB, E, seval, rdB, ne_eq, implies_true, sp_eright_at, sp_mfull_at, sp_mlay_at]; first | done | ((repeat' apply And.intro) <;> first | rfl | omega | (simp; done) | (simp; omega)))))
noncomputable def sp_r8enc : Spec := spOf (α := Int × Int × (List CD) × Int × Int × Bool × Int × ByteArray × (List ByteArray) × Int × Int × (List CD) × Int × Int × Bool × Int × ByteArray × (List ByteArray)) (fun ⟨k, r, L, x, y, hd, mo, ti, l, k', r', L', x', y', hd', mo', ti', l'⟩ => [.agg [.int .i64 k, .int .i64 r, .vec .cell L, .int .i64 x, .int .i64 y, .bool hd, .int .u8 mo, .str ti, .vec .str l], .agg [.int .i64 k', .int .i64 r', .vec .cell L', .int .i64 x', .int .i64 y', .bool hd', .int .u8 mo', .str ti', .vec .str l']]) fun ⟨k, r, L, x, y, hd, mo, ti, l, k', r', L', x', y', hd', mo', ti', l'⟩ => (((ScrOk L l ∧ SLen ti) ∧ 0 ≤ mo) ∧ ((ScrOk L' l' ∧ SLen ti') ∧ 0 ≤ mo'), .ret (.tup [.vec (.int .u8) (encI k r L x y hd mo ti l k' r' L' x' y' hd' mo' ti' l'), .int .i64 (errN (rightB k r L x y mo ti l && rightB k' r' L' x' y' mo' ti' l'))]))
theorem sp_r8enc_at (k : Int) (r : Int) (L : List CD) (x : Int) (y : Int) (hd : Bool) (mo : Int) (ti : ByteArray) (l : List ByteArray) (k' : Int) (r' : Int) (L' : List CD) (x' : Int) (y' : Int) (hd' : Bool) (mo' : Int) (ti' : ByteArray) (l' : List ByteArray) : sp_r8enc [.agg [.int .i64 k, .int .i64 r, .vec .cell L, .int .i64 x, .int .i64 y, .bool hd, .int .u8 mo, .str ti, .vec .str l], .agg [.int .i64 k', .int .i64 r', .vec .cell L', .int .i64 x', .int .i64 y', .bool hd', .int .u8 mo', .str ti', .vec .str l']] = some (((ScrOk L l ∧ SLen ti) ∧ 0 ≤ mo) ∧ ((ScrOk L' l' ∧ SLen ti') ∧ 0 ≤ mo'), .ret (.tup [.vec (.int .u8) (encI k r L x y hd mo ti l k' r' L' x' y' hd' mo' ti' l'), .int .i64 (errN (rightB k r L x y mo ti l && rightB k' r' L' x' y' mo' ti' l'))])) := spOf_at (α := Int × Int × (List CD) × Int × Int × Bool × Int × ByteArray × (List ByteArray) × Int × Int × (List CD) × Int × Int × Bool × Int × ByteArray × (List ByteArray)) _ (fun ⟨k, r, L, x, y, hd, mo, ti, l, k', r', L', x', y', hd', mo', ti', l'⟩ ⟨k', r', L', x', y', hd', mo', ti', l', k'', r'', L'', x'', y'', hd'', mo'', ti'', l''⟩ h => by first | simpa [CP] using h | (simp [CP] at h ⊢; grind)) (k, r, L, x, y, hd, mo, ti, l, k', r', L', x', y', hd', mo', ti', l')
theorem fr_r8enc : Fresh Tryd.prog E0 8 sp_r8enc := Fresh.of fun ⟨k, r, L, x, y, hd, mo, ti, l, k', r', L', x', y', hd', mo', ti', l'⟩ hG => TF.intro (V := (VV [(16, conF [.agg [.any, .any, .sl .cell, .any, .any, .any, .any, .any, .sl .str]] sp_r12right), (10, conT [.agg [.any, .any, .sl .cell, .any, .any, .any, .any, .any, .sl .str]] sp_r8full), (17, conT [.agg [.any, .any, .sl .cell, .any, .any, .any, .any, .any, .sl .str], .agg [.any, .any, .sl .cell, .any, .any, .any, .any, .any, .sl .str]] sp_r8diff)] (.cons (chkFn_callable k_r12_Right) (Fresh.soundF fr_r12right) (.cons (chkFn_callable k_r18_Full) (Fresh.soundT fr_r8full) (.cons (chkFn_callable k_r18_Diff) (Fresh.soundT fr_r8diff) GOk.nil))) 33 0)) k_r18_Encode rfl rfl (by
  dsimp only at hG ⊢
  obtain ⟨⟨⟨hs, ht⟩, hmo⟩, ⟨hs', ht'⟩, hmo'⟩ := hG
  cases hw : rightB k r L x y mo ti l
  · have e : encI k r L x y hd mo ti l k' r' L' x' y' hd' mo' ti' l' = [] := by rw [encI, if_neg (by rw [hw]; simp)]
    repeat' first | exact hs | simp only [SB, E, seval, rdB, ne_eq, implies_true, sp_r12right_at, sp_r8full_at, sp_r8diff_at] | simp only [hw] | simp only [hw2] | refine T.seq ?_ | refine T.stm ?_ | refine T.rg ?_ | refine wpR_o ?_ | refine wpR_g ?_ | refine wpR_e ?_ | refine T.cond ?_ | refine T.skip ?_ | refine T.ret ?_ | refine T.exit ?_ | refine T.block ?_ | refine And.intro ?_ ?_ | (intro hyp0; have hyp := hyp0; (try simp only [HB, ne_eq, reduceCtorEq] at hyp); (try simp only [hyp0]); (try clear hyp0); try (exfalso; omega; done)) | omega
    exact Cos.intro [99] [] rfl (by rw [e]; simp only [SB, E, seval, rdB, ne_eq, implies_true, sp_r12right_at, sp_r8full_at, sp_r8diff_at]; simp [crs, crsL, emptyB, errN])
  · cases hw2 : rightB k' r' L' x' y' mo' ti' l'
    · have e : encI k r L x y hd mo ti l k' r' L' x' y' hd' mo' ti' l' = [] := by rw [encI, if_neg (by rw [hw2]; simp)]
      repeat' first | exact hs | exact hs' | simp only [SB, E, seval, rdB, ne_eq, implies_true, sp_r12right_at, sp_r8full_at, sp_r8diff_at] | simp only [hw] | simp only [hw2] | refine T.seq ?_ | refine T.stm ?_ | refine T.rg ?_ | refine wpR_o ?_ | refine wpR_g ?_ | refine wpR_e ?_ | refine T.cond ?_ | refine T.skip ?_ | refine T.ret ?_ | refine T.exit ?_ | refine T.block ?_ | refine And.intro ?_ ?_ | (intro hyp0; have hyp := hyp0; (try simp only [HB, ne_eq, reduceCtorEq] at hyp); (try simp only [hyp0]); (try clear hyp0); try (exfalso; omega; done)) | omega
      exact Cos.intro [99] [] rfl (by rw [e]; simp only [SB, E, seval, rdB, ne_eq, implies_true, sp_r12right_at, sp_r8full_at, sp_r8diff_at]; simp [crs, crsL, emptyB, errN])
    · have e0 : encI k r L x y hd mo ti l k' r' L' x' y' hd' mo' ti' l' = if k = k' ∧ r = r' then diffB k.toNat r.toNat L x.toNat y.toNat hd mo.toNat ti l L' x'.toNat y'.toNat hd' mo'.toNat ti' l' else fullI k' r' L' x' y' hd' mo' ti' l' := by rw [encI, if_pos (by rw [hw, hw2]; rfl)]
      by_cases hkr : k = k' ∧ r = r'
      · rw [if_pos hkr] at e0
        repeat' first | exact hs | exact hs' | exact hw | exact hw2 | simp only [SB, E, seval, rdB, ne_eq, implies_true, sp_r12right_at, sp_r8full_at, sp_r8diff_at] | simp only [hw] | simp only [hw2] | refine T.seq ?_ | refine T.stm ?_ | refine T.rg ?_ | refine wpR_o ?_ | refine wpR_g ?_ | refine wpR_e ?_ | refine T.cond ?_ | refine T.skip ?_ | refine T.ret ?_ | refine T.exit ?_ | refine T.block ?_ | refine And.intro ?_ ?_ | (intro hyp0; have hyp := hyp0; (try simp only [HB, ne_eq, reduceCtorEq] at hyp); (try simp only [hyp0]); (try clear hyp0); try (exfalso; omega; done)) | omega
        exact Cos.intro [2] [] rfl (by rw [e0]; simp only [errN]; (simp only [SB, E, seval, rdB, ne_eq, implies_true, sp_r12right_at, sp_r8full_at, sp_r8diff_at]; first | done | ((repeat' apply And.intro) <;> first | rfl | omega | (simp; done) | (simp; omega))))
      · rw [if_neg hkr] at e0
        repeat' first | exact hs | exact hs' | simp only [SB, E, seval, rdB, ne_eq, implies_true, sp_r12right_at, sp_r8full_at, sp_r8diff_at] | simp only [hw] | simp only [hw2] | refine T.seq ?_ | refine T.stm ?_ | refine T.rg ?_ | refine wpR_o ?_ | refine wpR_g ?_ | refine wpR_e ?_ | refine T.cond ?_ | refine T.skip ?_ | refine T.ret ?_ | refine T.exit ?_ | refine T.block ?_ | refine And.intro ?_ ?_ | (intro hyp0; have hyp := hyp0; (try simp only [HB, ne_eq, reduceCtorEq] at hyp); (try simp only [hyp0]); (try clear hyp0); try (exfalso; omega; done)) | omega
        exact Cos.intro [2] [] rfl (by rw [e0]; (simp only [SB, E, seval, rdB, ne_eq, implies_true, sp_r12right_at, sp_r8full_at, sp_r8diff_at]; first | done | ((repeat' apply And.intro) <;> first | rfl | omega | (simp; done) | (simp; omega)))))
end
end Go.Proofs.YtcfkfgkndncanaaDoor
