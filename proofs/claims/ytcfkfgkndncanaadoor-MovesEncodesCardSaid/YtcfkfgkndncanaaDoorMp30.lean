/- Texts of this claim, merged by a program of this claim: FRdiff. -/
import Derived.Test.YtcfkfgkndncanaaDoorMp29
namespace Go.Proofs.YtcfkfgkndncanaaDoor
set_option linter.unusedVariables false
set_option linter.unusedSimpArgs false
section
open Go.RowKit
set_option maxRecDepth 100000
set_option maxHeartbeats 4000000
noncomputable def sp_r8diff : Spec := spOf (α := Int × Int × (List CD) × Int × Int × Bool × Int × ByteArray × (List ByteArray) × Int × Int × (List CD) × Int × Int × Bool × Int × ByteArray × (List ByteArray)) (fun ⟨k, r, L, x, y, hd, mo, ti, l, k', r', L', x', y', hd', mo', ti', l'⟩ => [.agg [.int .i64 k, .int .i64 r, .vec .cell L, .int .i64 x, .int .i64 y, .bool hd, .int .u8 mo, .str ti, .vec .str l], .agg [.int .i64 k', .int .i64 r', .vec .cell L', .int .i64 x', .int .i64 y', .bool hd', .int .u8 mo', .str ti', .vec .str l']]) fun ⟨k, r, L, x, y, hd, mo, ti, l, k', r', L', x', y', hd', mo', ti', l'⟩ => ((k = k' ∧ r = r') ∧ (ScrOk L l ∧ ScrOk L' l') ∧ (rightB k r L x y mo ti l = true ∧ rightB k' r' L' x' y' mo' ti' l' = true) ∧ (0 ≤ mo ∧ 0 ≤ mo'), .ret (.vec (.int .u8) (diffB k.toNat r.toNat L x.toNat y.toNat hd mo.toNat ti l L' x'.toNat y'.toNat hd' mo'.toNat ti' l')))
theorem sp_r8diff_at (k : Int) (r : Int) (L : List CD) (x : Int) (y : Int) (hd : Bool) (mo : Int) (ti : ByteArray) (l : List ByteArray) (k' : Int) (r' : Int) (L' : List CD) (x' : Int) (y' : Int) (hd' : Bool) (mo' : Int) (ti' : ByteArray) (l' : List ByteArray) : sp_r8diff [.agg [.int .i64 k, .int .i64 r, .vec .cell L, .int .i64 x, .int .i64 y, .bool hd, .int .u8 mo, .str ti, .vec .str l], .agg [.int .i64 k', .int .i64 r', .vec .cell L', .int .i64 x', .int .i64 y', .bool hd', .int .u8 mo', .str ti', .vec .str l']] = some ((k = k' ∧ r = r') ∧ (ScrOk L l ∧ ScrOk L' l') ∧ (rightB k r L x y mo ti l = true ∧ rightB k' r' L' x' y' mo' ti' l' = true) ∧ (0 ≤ mo ∧ 0 ≤ mo'), .ret (.vec (.int .u8) (diffB k.toNat r.toNat L x.toNat y.toNat hd mo.toNat ti l L' x'.toNat y'.toNat hd' mo'.toNat ti' l'))) := spOf_at (α := Int × Int × (List CD) × Int × Int × Bool × Int × ByteArray × (List ByteArray) × Int × Int × (List CD) × Int × Int × Bool × Int × ByteArray × (List ByteArray)) _ (fun ⟨k, r, L, x, y, hd, mo, ti, l, k', r', L', x', y', hd', mo', ti', l'⟩ ⟨k', r', L', x', y', hd', mo', ti', l', k'', r'', L'', x'', y'', hd'', mo'', ti'', l''⟩ h => by first | simpa [CP] using h | (simp [CP] at h ⊢; grind)) (k, r, L, x, y, hd, mo, ti, l, k', r', L', x', y', hd', mo', ti', l')
theorem fr_r8diff : Fresh Tryd.prog E0 17 sp_r8diff := Fresh.of fun ⟨k, r, L, x, y, hd, mo, ti, l, k', r', L', x', y', hd', mo', ti', l'⟩ hG => TF.intro (V := (VV [(21, conT [.sl (.int .i64)] sp_rvars), (40, conT [.sl (.int .u8)] sp_rtext), (22, conF [.sl .str, .sl .str] sp_rssame), (41, conA [.agg [.any, .any, .sl .cell, .any, .any, .any, .any, .any, .sl .str], .sl .str] sp_r8under), (42, conT [.agg [.any, .any, .sl .cell, .any, .any, .any, .any, .any, .sl .str]] sp_r8rows), (43, conF [.sl (.rows .cell), .sl (.rows .cell)] sp_r8best), (44, conA [.sl (.rows .cell), .any] sp_r8scrolled), (45, conF [.sl .cell, .sl .cell] sp_rsame), (46, conT [.sl (.rows .cell), .sl (.rows .cell)] sp_r8runs)] (.cons (chkFn_callable k_r18_vars) (Fresh.soundT fr_rvars) (.cons (chkFn_callable k_r01_Text) (Fresh.soundT fr_rtext) (.cons (chkFn_callable k_r10_Same) (Fresh.soundF fr_rssame) (.cons (chkFn_callable k_r18_Under) (Alias.soundA al_r8under) (.cons (chkFn_callable k_r18_rows) (Fresh.soundT fr_r8rows) (.cons (chkFn_callable k_r18_Best) (Fresh.soundF fr_r8best) (.cons (chkFn_callable k_r18_Scrolled) (Alias.soundA al_r8scrolled) (.cons (chkFn_callable k_r08_Same) (Fresh.soundF fr_rsame) (.cons (chkFn_callable k_r18_Runs) (Fresh.soundT fr_r8runs) GOk.nil))))))))) 270 0)) k_r18_Diff rfl rfl (by
  dsimp only at hG ⊢
  obtain ⟨⟨rfl, rfl⟩, ⟨hs, hs'⟩, ⟨hr1, hr2⟩, hmo, hmo'⟩ := hG
  obtain ⟨K, R, X, Y, M, rfl, rfl, rfl, rfl, rfl, f1⟩ := right_fact hr1 hmo
  obtain ⟨K2, R2, X2, Y2, M2, e1, e2, rfl, rfl, rfl, f2⟩ := right_fact hr2 hmo'
  obtain rfl : K = K2 := by omega
  obtain rfl : R = R2 := by omega
  simp only [Int.toNat_natCast]
  have hk := f1.k1
  have hr := f1.r1
  have hx2 := f2.x1
  have hy2 := f2.y1
  have hm2 := f2.mo1
  have ht2 := f2.ti1
  have hl1 := f1.l1
  have hl2 := f2.l1
  have hL := f1.len
  have hL' := f2.len
  have hKR : K * R ≤ 1920 := Nat.mul_le_mul (show K ≤ 80 by omega) (show R ≤ 24 by omega)
  have htk : List.take ti'.size (strInts ti') = strInts ti' := List.take_of_length_le (by rw [ints_len]; exact Nat.le_refl _)
  have hti : (strInts ti').length = ti'.size := ints_len ti'
  obtain ⟨b1, hb1⟩ : ∃ b, b = curB X Y hd X2 Y2 hd' := ⟨_, rfl⟩
  obtain ⟨b2, hb2⟩ : ∃ b, b = b1 ++ titB ti ti' := ⟨_, rfl⟩
  obtain ⟨b3, hb3⟩ : ∃ b, b = b2 ++ mouB M M2 := ⟨_, rfl⟩
  obtain ⟨b4, hb4⟩ : ∃ b, b = b3 ++ linB l l' := ⟨_, rfl⟩
  have q1 : b1.length ≤ 31 := by rw [hb1]; exact curB_len X Y hd X2 Y2 hd' (by omega) (by omega)
  have q2 : b2.length ≤ 200 := by
    have := titB_len ti ti' ht2
    rw [hb2, List.length_append]
    omega
  have q3 : b3.length ≤ 300 := by
    have := mouB_len M M2 (by omega)
    rw [hb3, List.length_append]
    omega
  have q4 : b4.length ≤ 2000 := by
    have := linB_len l l' hl2 f2.s64
    rw [hb4, List.length_append]
    omega
  have hhead : headB X Y hd M ti l X2 Y2 hd' M2 ti' l' = b4 := by rw [hb4, hb3, hb2, hb1]; rfl
  rw [diffB, hhead]
  repeat' first | refine T.cut (a := z81_2) (fun _ : Unit => ⟨[(2, .ptr 0 0 0), (3, .ptr 1 0 0), (5, .slice 2 0 1 (b1).length (b1).length)], [.box [.int .i64 K, .int .i64 R, .vec .cell L, .int .i64 X, .int .i64 Y, .bool hd, .int .u8 M, .str ti, .vec .str l], .box [.int .i64 K, .int .i64 R, .vec .cell L', .int .i64 X2, .int .i64 Y2, .bool hd', .int .u8 M2, .str ti', .vec .str l'], .seq (.int .u8) (b1)]⟩) (fun _ => True) (Held.out ?_) (fun _ _ => Held.out ?_) | simp only [SB, E, seval, rdB, ne_eq, implies_true, sp_rvars_at, sp_rtext_at, sp_rssame_at, sp_r8under_at, sp_r8rows_at, sp_r8best_at, sp_r8scrolled_at, sp_rsame_at, sp_r8runs_at, getD_mAt] | simp only [hw] | simp only [hw2] | simp only [hw3] | simp only [hw4] | simp only [hw5] | refine T.seq ?_ | refine T.stm ?_ | refine T.rg ?_ | refine wpR_o ?_ | refine wpR_g ?_ | refine wpR_e ?_ | refine T.cond ?_ | refine T.skip ?_ | refine T.ret ?_ | refine T.exit ?_ | refine T.block ?_ | refine And.intro ?_ ?_ | (intro hyp0; have hyp := hyp0; (try simp only [HB, ne_eq, reduceCtorEq] at hyp); (try simp only [hyp0]); (try clear hyp0); try (exfalso; omega; done)) | omega
  · refine ⟨?_⟩
    have hc := @curC_iff X Y X2 Y2 hd hd'
    have hby : curC X Y hd X2 Y2 hd' = true → b1 = 2 :: varsN [X2, Y2, if hd' then 1 else 0] := fun h => by rw [hb1, curB, if_pos h]
    have hbn : ¬ curC X Y hd X2 Y2 hd' = true → b1 = [] := fun h => by rw [hb1, curB, if_neg h]
    have hv : ∀ z : Nat, z < 128 → varsN [X2, Y2, z] = [(X2 : Int), Y2, z] := fun z hz => by
      simp only [varsN_cons, varsN_nil, varN_one (show X2 < 128 by omega), varN_one (show Y2 < 128 by omega), varN_one hz]
      rfl
    have hb0 : ∀ z : Int, 0 ≤ z → z ≤ 80 → varN z.toNat = [z] := fun z h1 h2 => varN_last h1 (by omega)
    have hw : varsI [(X2 : Int), (Y2 : Int)] = [(X2 : Int), Y2] := by rw [varsI_cons, varsI_cons, varsI_nil, hb0 _ (by omega) (by omega), hb0 _ (by omega) (by omega)]; rfl
    repeat' first | simp only [SB, E, seval, rdB, ne_eq, implies_true, sp_rvars_at, sp_rtext_at, sp_rssame_at, sp_r8under_at, sp_r8rows_at, sp_r8best_at, sp_r8scrolled_at, sp_rsame_at, sp_r8runs_at, getD_mAt] | simp only [hw] | simp only [hw2] | simp only [hw3] | simp only [hw4] | simp only [hw5] | refine T.seq ?_ | refine T.stm ?_ | refine T.rg ?_ | refine wpR_o ?_ | refine wpR_g ?_ | refine wpR_e ?_ | refine T.cond ?_ | refine T.skip ?_ | refine T.ret ?_ | refine T.exit ?_ | refine T.block ?_ | refine And.intro ?_ ?_ | (intro hyp0; have hyp := hyp0; (try simp only [HB, ne_eq, reduceCtorEq] at hyp); (try simp only [hyp0]); (try clear hyp0); try (exfalso; omega; done)) | omega
    · rename_i hq
      have e : b1 = [2, (X2 : Int), Y2, 1] := by rw [hby (hc.2 hq), hyp, if_pos rfl, hv 1 (by omega)]; rfl
      exact ⟨(), Cos.intro [0, 1, 9] [] rfl (by rw [e]; (simp only [SB, E, seval, rdB, ne_eq, implies_true, sp_rvars_at, sp_rtext_at, sp_rssame_at, sp_r8under_at, sp_r8rows_at, sp_r8best_at, sp_r8scrolled_at, sp_rsame_at, sp_r8runs_at, getD_mAt]; first | done | ((repeat' apply And.intro) <;> first | rfl | omega | (simp; done) | (simp; omega))))⟩
    · rename_i hq
      have e : b1 = [2, (X2 : Int), Y2, 0] := by rw [hby (hc.2 hq), hyp, if_neg (by decide), hv 0 (by omega)]; rfl
      exact ⟨(), Cos.intro [0, 1, 9] [] rfl (by rw [e]; (simp only [SB, E, seval, rdB, ne_eq, implies_true, sp_rvars_at, sp_rtext_at, sp_rssame_at, sp_r8under_at, sp_r8rows_at, sp_r8best_at, sp_r8scrolled_at, sp_rsame_at, sp_r8runs_at, getD_mAt]; first | done | ((repeat' apply And.intro) <;> first | rfl | omega | (simp; done) | (simp; omega))))⟩
    · have e : b1 = [] := hbn fun q => by
        rcases hc.1 q with (h | h) | h
        · exact h hyp.1.1
        · exact h hyp.1.2
        · rw [hyp.2] at h
          simp at h
      exact ⟨(), Cos.intro [0, 1, 2] [] rfl (by rw [e]; (simp only [SB, E, seval, rdB, ne_eq, implies_true, sp_rvars_at, sp_rtext_at, sp_rssame_at, sp_r8under_at, sp_r8rows_at, sp_r8best_at, sp_r8scrolled_at, sp_rsame_at, sp_r8runs_at, getD_mAt]; first | done | ((repeat' apply And.intro) <;> first | rfl | omega | (simp; done) | (simp; omega))))⟩
  refine ⟨?_⟩
  repeat' first | refine T.cut (a := z81_9) (fun _ : Unit => ⟨[(2, .ptr 0 0 0), (3, .ptr 1 0 0), (5, .slice 2 0 1 (b2).length (b2).length)], [.box [.int .i64 K, .int .i64 R, .vec .cell L, .int .i64 X, .int .i64 Y, .bool hd, .int .u8 M, .str ti, .vec .str l], .box [.int .i64 K, .int .i64 R, .vec .cell L', .int .i64 X2, .int .i64 Y2, .bool hd', .int .u8 M2, .str ti', .vec .str l'], .seq (.int .u8) (b2)]⟩) (fun _ => True) (Held.out ?_) (fun _ _ => Held.out ?_) | simp only [SB, E, seval, rdB, ne_eq, implies_true, sp_rvars_at, sp_rtext_at, sp_rssame_at, sp_r8under_at, sp_r8rows_at, sp_r8best_at, sp_r8scrolled_at, sp_rsame_at, sp_r8runs_at, getD_mAt] | simp only [hw] | simp only [hw2] | simp only [hw3] | simp only [hw4] | simp only [hw5] | refine T.seq ?_ | refine T.stm ?_ | refine T.rg ?_ | refine wpR_o ?_ | refine wpR_g ?_ | refine wpR_e ?_ | refine T.cond ?_ | refine T.skip ?_ | refine T.ret ?_ | refine T.exit ?_ | refine T.block ?_ | refine And.intro ?_ ?_ | (intro hyp0; have hyp := hyp0; (try simp only [HB, ne_eq, reduceCtorEq] at hyp); (try simp only [hyp0]); (try clear hyp0); try (exfalso; omega; done)) | omega
  · refine ⟨?_⟩
    have hw := htk
    have htl := textN_len (strInts ti') (by omega)
    repeat' first | simp only [SB, E, seval, rdB, ne_eq, implies_true, sp_rvars_at, sp_rtext_at, sp_rssame_at, sp_r8under_at, sp_r8rows_at, sp_r8best_at, sp_r8scrolled_at, sp_rsame_at, sp_r8runs_at, getD_mAt] | simp only [hw] | simp only [hw2] | simp only [hw3] | simp only [hw4] | simp only [hw5] | refine T.seq ?_ | refine T.stm ?_ | refine T.rg ?_ | refine wpR_o ?_ | refine wpR_g ?_ | refine wpR_e ?_ | refine T.cond ?_ | refine T.skip ?_ | refine T.ret ?_ | refine T.exit ?_ | refine T.block ?_ | refine And.intro ?_ ?_ | (intro hyp0; have hyp := hyp0; (try simp only [HB, ne_eq, reduceCtorEq] at hyp); (try simp only [hyp0]); (try clear hyp0); try (exfalso; omega; done)) | omega
    · have e : b2 = b1 ++ 3 :: textN (strInts ti') := by rw [hb2, titB, if_neg (fun q => hyp (sameS_iff.1 q))]
      exact ⟨(), Cos.intro [0, 1, 7] [] rfl (by rw [e]; (simp only [SB, E, seval, rdB, ne_eq, implies_true, sp_rvars_at, sp_rtext_at, sp_rssame_at, sp_r8under_at, sp_r8rows_at, sp_r8best_at, sp_r8scrolled_at, sp_rsame_at, sp_r8runs_at, getD_mAt]; first | done | ((repeat' apply And.intro) <;> first | rfl | omega | (simp; done) | (simp; omega))))⟩
    · have e : b2 = b1 := by rw [hb2, titB, if_pos (sameS_iff.2 hyp), List.append_nil]
      exact ⟨(), Cos.intro [0, 1, 2] [] rfl (by rw [e]; (simp only [SB, E, seval, rdB, ne_eq, implies_true, sp_rvars_at, sp_rtext_at, sp_rssame_at, sp_r8under_at, sp_r8rows_at, sp_r8best_at, sp_r8scrolled_at, sp_rsame_at, sp_r8runs_at, getD_mAt]; first | done | ((repeat' apply And.intro) <;> first | rfl | omega | (simp; done) | (simp; omega))))⟩
  refine ⟨?_⟩
  repeat' first | refine T.cut (a := z81_14) (fun _ : Unit => ⟨[(2, .ptr 0 0 0), (3, .ptr 1 0 0), (5, .slice 2 0 1 (b3).length (b3).length)], [.box [.int .i64 K, .int .i64 R, .vec .cell L, .int .i64 X, .int .i64 Y, .bool hd, .int .u8 M, .str ti, .vec .str l], .box [.int .i64 K, .int .i64 R, .vec .cell L', .int .i64 X2, .int .i64 Y2, .bool hd', .int .u8 M2, .str ti', .vec .str l'], .seq (.int .u8) (b3)]⟩) (fun _ => True) (Held.out ?_) (fun _ _ => Held.out ?_) | simp only [SB, E, seval, rdB, ne_eq, implies_true, sp_rvars_at, sp_rtext_at, sp_rssame_at, sp_r8under_at, sp_r8rows_at, sp_r8best_at, sp_r8scrolled_at, sp_rsame_at, sp_r8runs_at, getD_mAt] | simp only [hw] | simp only [hw2] | simp only [hw3] | simp only [hw4] | simp only [hw5] | refine T.seq ?_ | refine T.stm ?_ | refine T.rg ?_ | refine wpR_o ?_ | refine wpR_g ?_ | refine wpR_e ?_ | refine T.cond ?_ | refine T.skip ?_ | refine T.ret ?_ | refine T.exit ?_ | refine T.block ?_ | refine And.intro ?_ ?_ | (intro hyp0; have hyp := hyp0; (try simp only [HB, ne_eq, reduceCtorEq] at hyp); (try simp only [hyp0]); (try clear hyp0); try (exfalso; omega; done)) | omega
  · refine ⟨?_⟩
    repeat' first | simp only [SB, E, seval, rdB, ne_eq, implies_true, sp_rvars_at, sp_rtext_at, sp_rssame_at, sp_r8under_at, sp_r8rows_at, sp_r8best_at, sp_r8scrolled_at, sp_rsame_at, sp_r8runs_at, getD_mAt] | simp only [hw] | simp only [hw2] | simp only [hw3] | simp only [hw4] | simp only [hw5] | refine T.seq ?_ | refine T.stm ?_ | refine T.rg ?_ | refine wpR_o ?_ | refine wpR_g ?_ | refine wpR_e ?_ | refine T.cond ?_ | refine T.skip ?_ | refine T.ret ?_ | refine T.exit ?_ | refine T.block ?_ | refine And.intro ?_ ?_ | (intro hyp0; have hyp := hyp0; (try simp only [HB, ne_eq, reduceCtorEq] at hyp); (try simp only [hyp0]); (try clear hyp0); try (exfalso; omega; done)) | omega
    · have e : b3 = b2 ++ [4, (M2 : Int)] := by rw [hb3, mouB, if_neg (fun e => hyp (by rw [e]))]; simp only [varsN_cons, varsN_nil, varN_one (show M2 < 128 by omega)]; rfl
      exact ⟨(), Cos.intro [0, 1, 4] [] rfl (by rw [e]; (simp only [SB, E, seval, rdB, ne_eq, implies_true, sp_rvars_at, sp_rtext_at, sp_rssame_at, sp_r8under_at, sp_r8rows_at, sp_r8best_at, sp_r8scrolled_at, sp_rsame_at, sp_r8runs_at, getD_mAt]; first | done | ((repeat' apply And.intro) <;> first | rfl | omega | (simp; done) | (simp; omega))))⟩
    · have e : b3 = b2 := by rw [hb3, mouB, if_pos (by omega), List.append_nil]
      exact ⟨(), Cos.intro [0, 1, 2] [] rfl (by rw [e]; (simp only [SB, E, seval, rdB, ne_eq, implies_true, sp_rvars_at, sp_rtext_at, sp_rssame_at, sp_r8under_at, sp_r8rows_at, sp_r8best_at, sp_r8scrolled_at, sp_rsame_at, sp_r8runs_at, getD_mAt]; first | done | ((repeat' apply And.intro) <;> first | rfl | omega | (simp; done) | (simp; omega))))⟩
  refine ⟨?_⟩
  repeat' first | refine T.cut (a := z81_17) (fun _ : Unit => ⟨[(2, .ptr 0 0 0), (3, .ptr 1 0 0), (5, .slice 2 0 1 (b4).length (b4).length)], [.box [.int .i64 K, .int .i64 R, .vec .cell L, .int .i64 X, .int .i64 Y, .bool hd, .int .u8 M, .str ti, .vec .str l], .box [.int .i64 K, .int .i64 R, .vec .cell L', .int .i64 X2, .int .i64 Y2, .bool hd', .int .u8 M2, .str ti', .vec .str l'], .seq (.int .u8) (b4)]⟩) (fun _ => True) (Held.out ?_) (fun _ _ => Held.out ?_) | simp only [SB, E, seval, rdB, ne_eq, implies_true, sp_rvars_at, sp_rtext_at, sp_rssame_at, sp_r8under_at, sp_r8rows_at, sp_r8best_at, sp_r8scrolled_at, sp_rsame_at, sp_r8runs_at, getD_mAt] | simp only [hw] | simp only [hw2] | simp only [hw3] | simp only [hw4] | simp only [hw5] | refine T.seq ?_ | refine T.stm ?_ | refine T.rg ?_ | refine wpR_o ?_ | refine wpR_g ?_ | refine wpR_e ?_ | refine T.cond ?_ | refine T.skip ?_ | refine T.ret ?_ | refine T.exit ?_ | refine T.block ?_ | refine And.intro ?_ ?_ | (intro hyp0; have hyp := hyp0; (try simp only [HB, ne_eq, reduceCtorEq] at hyp); (try simp only [hyp0]); (try clear hyp0); try (exfalso; omega; done)) | omega
  · refine ⟨?_⟩
    have hby : ¬ l' = l → b4 = b3 ++ 5 :: varsN [comK l' l, l'.length - comK l' l] ++ texB (l'.drop (comK l' l)) := fun h => by rw [hb4, linB, if_neg h, List.append_assoc]
    have hbn : l' = l → b4 = b3 := fun h => by rw [hb4, linB, if_pos h, List.append_nil]
    obtain ⟨j, hj⟩ : ∃ j, j = comK l' l := ⟨_, rfl⟩
    obtain ⟨c1, c2⟩ := comK_le l' l
    rw [← hj] at c1 c2 hby
    have hsl' := hs'.slen
    repeat' first | refine T.cut (a := z81_21) (fun _ : Unit => ⟨[(2, .ptr 0 0 0), (3, .ptr 1 0 0), (5, .slice 2 0 1 b3.length b3.length), (8, .int .i64 j)], [.box [.int .i64 K, .int .i64 R, .vec .cell L, .int .i64 X, .int .i64 Y, .bool hd, .int .u8 M, .str ti, .vec .str l], .box [.int .i64 K, .int .i64 R, .vec .cell L', .int .i64 X2, .int .i64 Y2, .bool hd', .int .u8 M2, .str ti', .vec .str l'], .seq (.int .u8) b3]⟩) (fun _ => True) (Held.out ?_) (fun _ _ => Held.out ?_) | simp only [SB, E, seval, rdB, ne_eq, implies_true, sp_rvars_at, sp_rtext_at, sp_rssame_at, sp_r8under_at, sp_r8rows_at, sp_r8best_at, sp_r8scrolled_at, sp_rsame_at, sp_r8runs_at, getD_mAt] | simp only [hw] | simp only [hw2] | simp only [hw3] | simp only [hw4] | simp only [hw5] | refine T.seq ?_ | refine T.stm ?_ | refine T.rg ?_ | refine wpR_o ?_ | refine wpR_g ?_ | refine wpR_e ?_ | refine T.cond ?_ | refine T.skip ?_ | refine T.ret ?_ | refine T.exit ?_ | refine T.block ?_ | refine And.intro ?_ ?_ | (intro hyp0; have hyp := hyp0; (try simp only [HB, ne_eq, reduceCtorEq] at hyp); (try simp only [hyp0]); (try clear hyp0); try (exfalso; omega; done)) | omega
    · refine ⟨?_⟩
      repeat' first | simp only [SB, E, seval, rdB, ne_eq, implies_true, sp_rvars_at, sp_rtext_at, sp_rssame_at, sp_r8under_at, sp_r8rows_at, sp_r8best_at, sp_r8scrolled_at, sp_rsame_at, sp_r8runs_at, getD_mAt] | simp only [hw] | simp only [hw2] | simp only [hw3] | simp only [hw4] | simp only [hw5] | refine T.seq ?_ | refine T.stm ?_ | refine T.rg ?_ | refine wpR_o ?_ | refine wpR_g ?_ | refine wpR_e ?_ | refine T.cond ?_ | refine T.skip ?_ | refine T.ret ?_ | refine T.exit ?_ | refine T.block ?_ | refine And.intro ?_ ?_ | (intro hyp0; have hyp := hyp0; (try simp only [HB, ne_eq, reduceCtorEq] at hyp); (try simp only [hyp0]); (try clear hyp0); try (exfalso; omega; done)) | omega
      refine T.loop (fun v : Nat => ⟨[(2, .ptr 0 0 0), (3, .ptr 1 0 0), (5, .slice 2 0 1 b3.length b3.length), (8, .int .i64 v)], [.box [.int .i64 K, .int .i64 R, .vec .cell L, .int .i64 X, .int .i64 Y, .bool hd, .int .u8 M, .str ti, .vec .str l], .box [.int .i64 K, .int .i64 R, .vec .cell L', .int .i64 X2, .int .i64 Y2, .bool hd', .int .u8 M2, .str ti', .vec .str l'], .seq (.int .u8) b3]⟩) (fun v => j = v + comK (l'.drop v) (l.drop v)) (fun v => l'.length - v) 0 (by rw [hj]; simp) (Cos.intro [0, 1, 2] [] rfl (by (simp only [SB, E, seval, rdB, ne_eq, implies_true, sp_rvars_at, sp_rtext_at, sp_rssame_at, sp_r8under_at, sp_r8rows_at, sp_r8best_at, sp_r8scrolled_at, sp_rsame_at, sp_r8runs_at, getD_mAt]; first | done | ((repeat' apply And.intro) <;> first | rfl | omega | (simp; done) | (simp; omega))))) (fun v hv => ?_)
      by_cases hyes : (v < l'.length ∧ v < l.length) ∧ l'.getD v ETy.str.dflt = l.getD v ETy.str.dflt
      · obtain ⟨⟨h1, h2⟩, h3⟩ := hyes
        have hgo := comK_go (getD_at (d := ETy.str.dflt) h1) (by rw [h3]; exact getD_at h2)
        repeat' first | exact absurd h3 hyp | simp only [SB, E, seval, rdB, ne_eq, implies_true, sp_rvars_at, sp_rtext_at, sp_rssame_at, sp_r8under_at, sp_r8rows_at, sp_r8best_at, sp_r8scrolled_at, sp_rsame_at, sp_r8runs_at, getD_mAt] | simp only [hw] | simp only [hw2] | simp only [hw3] | simp only [hw4] | simp only [hw5] | refine T.seq ?_ | refine T.stm ?_ | refine T.rg ?_ | refine wpR_o ?_ | refine wpR_g ?_ | refine wpR_e ?_ | refine T.cond ?_ | refine T.skip ?_ | refine T.ret ?_ | refine T.exit ?_ | refine T.block ?_ | refine And.intro ?_ ?_ | (intro hyp0; have hyp := hyp0; (try simp only [HB, ne_eq, reduceCtorEq] at hyp); (try simp only [hyp0]); (try clear hyp0); try (exfalso; omega; done)) | omega
        exact ⟨v + 1, by omega, by omega, Cos.intro [0, 1, 2] [] rfl (by (simp only [SB, E, seval, rdB, ne_eq, implies_true, sp_rvars_at, sp_rtext_at, sp_rssame_at, sp_r8under_at, sp_r8rows_at, sp_r8best_at, sp_r8scrolled_at, sp_rsame_at, sp_r8runs_at, getD_mAt]; first | done | ((repeat' apply And.intro) <;> first | rfl | omega | (simp; done) | (simp; omega))))⟩
      · have hst : comK (l'.drop v) (l.drop v) = 0 := comK_stop fun s t h1 h2 e => hyes (by
          have q1 := (List.getElem?_eq_some_iff.1 h1).1
          have q2 := (List.getElem?_eq_some_iff.1 h2).1
          rw [getD_at (d := ETy.str.dflt) q1] at h1
          rw [getD_at (d := ETy.str.dflt) q2] at h2
          exact ⟨⟨q1, q2⟩, (Option.some.inj h1).trans (e.trans (Option.some.inj h2).symm)⟩)
        have hvj : v = j := by omega
        subst hvj
        repeat' first | simp only [SB, E, seval, rdB, ne_eq, implies_true, sp_rvars_at, sp_rtext_at, sp_rssame_at, sp_r8under_at, sp_r8rows_at, sp_r8best_at, sp_r8scrolled_at, sp_rsame_at, sp_r8runs_at, getD_mAt] | simp only [hw] | simp only [hw2] | simp only [hw3] | simp only [hw4] | simp only [hw5] | refine T.seq ?_ | refine T.stm ?_ | refine T.rg ?_ | refine wpR_o ?_ | refine wpR_g ?_ | refine wpR_e ?_ | refine T.cond ?_ | refine T.skip ?_ | refine T.ret ?_ | refine T.exit ?_ | refine T.block ?_ | refine And.intro ?_ ?_ | (intro hyp0; have hyp := hyp0; (try simp only [HB, ne_eq, reduceCtorEq] at hyp); (try simp only [hyp0]); (try clear hyp0); try (exfalso; omega; done)) | omega
        all_goals first | exact ⟨(), Cos.intro [0, 1, 2] [] rfl (by (simp only [SB, E, seval, rdB, ne_eq, implies_true, sp_rvars_at, sp_rtext_at, sp_rssame_at, sp_r8under_at, sp_r8rows_at, sp_r8best_at, sp_r8scrolled_at, sp_rsame_at, sp_r8runs_at, getD_mAt]; first | done | ((repeat' apply And.intro) <;> first | rfl | omega | (simp; done) | (simp; omega))))⟩ | exact absurd ⟨⟨by omega, by omega⟩, by assumption⟩ hyes
    · refine ⟨?_⟩
      have hb4 := hby hyp
      obtain ⟨D, hD⟩ : ∃ D, D = l'.drop j := ⟨_, rfl⟩
      have hDl : D.length = l'.length - j := by rw [hD, List.length_drop]
      have hw : List.take (l'.length - j) (List.drop j l') = D := by rw [hD]; exact List.take_of_length_le (by rw [List.length_drop]; exact Nat.le_refl _)
      have hw2 : varsI [(j : Int), (l'.length : Int) - j] = varsN [j, l'.length - j] := by
        rw [← varsI_nat, List.map_cons, List.map_cons, List.map_nil]
        congr 2
        simp only [Int.ofNat_eq_natCast, List.cons.injEq, and_true]
        omega
      have hvl := varsN_len [j, l'.length - j] (fun u hu => by simp at hu; omega)
      simp only [List.length_cons, List.length_nil] at hvl
      rw [← hD] at hb4
      obtain ⟨c0, hc0⟩ : ∃ c, c = b3 ++ 5 :: varsN [j, l'.length - j] := ⟨_, rfl⟩
      have hc0l : c0.length ≤ 400 := by rw [hc0]; simp only [List.length_append, List.length_cons]; omega
      have hbc : b4 = c0 ++ texB D := by rw [hb4, hc0]
      repeat' first | simp only [SB, E, seval, rdB, ne_eq, implies_true, sp_rvars_at, sp_rtext_at, sp_rssame_at, sp_r8under_at, sp_r8rows_at, sp_r8best_at, sp_r8scrolled_at, sp_rsame_at, sp_r8runs_at, getD_mAt] | simp only [hw] | simp only [hw2] | simp only [hw3] | simp only [hw4] | simp only [hw5] | refine T.seq ?_ | refine T.stm ?_ | refine T.rg ?_ | refine wpR_o ?_ | refine wpR_g ?_ | refine wpR_e ?_ | refine T.cond ?_ | refine T.skip ?_ | refine T.ret ?_ | refine T.exit ?_ | refine T.block ?_ | refine And.intro ?_ ?_ | (intro hyp0; have hyp := hyp0; (try simp only [HB, ne_eq, reduceCtorEq] at hyp); (try simp only [hyp0]); (try clear hyp0); try (exfalso; omega; done)) | omega
      refine T.loop (fun v : Nat => ⟨[(2, .ptr 0 0 0), (3, .ptr 1 0 0), (5, .slice 2 0 1 (c0 ++ texB (D.take v)).length (c0 ++ texB (D.take v)).length), (9, .int .i64 ((j + v : Nat) : Int))], [.box [.int .i64 K, .int .i64 R, .vec .cell L, .int .i64 X, .int .i64 Y, .bool hd, .int .u8 M, .str ti, .vec .str l], .box [.int .i64 K, .int .i64 R, .vec .cell L', .int .i64 X2, .int .i64 Y2, .bool hd', .int .u8 M2, .str ti', .vec .str l'], .seq (.int .u8) (c0 ++ texB (D.take v))]⟩) (fun v => v ≤ D.length) (fun v => D.length - v) 0 (by omega) (Cos.intro [0, 1, 7] [] rfl (by simp only [hc0, texB, List.take_zero, List.flatMap_nil, List.append_nil]; (simp only [SB, E, seval, rdB, ne_eq, implies_true, sp_rvars_at, sp_rtext_at, sp_rssame_at, sp_r8under_at, sp_r8rows_at, sp_r8best_at, sp_r8scrolled_at, sp_rsame_at, sp_r8runs_at, getD_mAt]; first | done | ((repeat' apply And.intro) <;> first | rfl | omega | (simp; done) | (simp; omega))))) (fun v hv => ?_)
      have hs64 : ∀ s ∈ D, s.size ≤ 64 := fun s hs => f2.s64 s (by rw [hD] at hs; exact List.mem_of_mem_drop hs)
      have htl := texB_len (l := D.take v) (fun s hs => hs64 s (List.mem_of_mem_take hs))
      rw [List.length_take] at htl
      by_cases hvD : v < D.length
      · have h64 := hs64 _ (getD_memS hvD)
        have hsn := texB_snoc (getD_at (d := ETy.str.dflt) hvD)
        have hln : (strInts (D.getD v ETy.str.dflt)).length = (D.getD v ETy.str.dflt).size := ints_len _
        have hw3 : List.take (D.getD v ETy.str.dflt).size (strInts (D.getD v ETy.str.dflt)) = strInts (D.getD v ETy.str.dflt) := List.take_of_length_le (by omega)
        have hw4 : l'.getD (j + v) ETy.str.dflt = D.getD v ETy.str.dflt := by
          rw [hD, List.getD_eq_getElem?_getD, List.getD_eq_getElem?_getD, List.getElem?_drop]
        have htx := textN_len (strInts (D.getD v ETy.str.dflt)) (by omega)
        repeat' first | simp only [SB, E, seval, rdB, ne_eq, implies_true, sp_rvars_at, sp_rtext_at, sp_rssame_at, sp_r8under_at, sp_r8rows_at, sp_r8best_at, sp_r8scrolled_at, sp_rsame_at, sp_r8runs_at, getD_mAt] | simp only [hw] | simp only [hw2] | simp only [hw3] | simp only [hw4] | simp only [hw5] | refine T.seq ?_ | refine T.stm ?_ | refine T.rg ?_ | refine wpR_o ?_ | refine wpR_g ?_ | refine wpR_e ?_ | refine T.cond ?_ | refine T.skip ?_ | refine T.ret ?_ | refine T.exit ?_ | refine T.block ?_ | refine And.intro ?_ ?_ | (intro hyp0; have hyp := hyp0; (try simp only [HB, ne_eq, reduceCtorEq] at hyp); (try simp only [hyp0]); (try clear hyp0); try (exfalso; omega; done)) | omega
        exact ⟨v + 1, by omega, by omega, Cos.intro [0, 1, 5] [] rfl (by rw [hsn]; (simp only [SB, E, seval, rdB, ne_eq, implies_true, sp_rvars_at, sp_rtext_at, sp_rssame_at, sp_r8under_at, sp_r8rows_at, sp_r8best_at, sp_r8scrolled_at, sp_rsame_at, sp_r8runs_at, getD_mAt]; first | done | ((repeat' apply And.intro) <;> first | rfl | omega | (simp; done) | (simp; omega))))⟩
      · have e : D.take v = D := List.take_of_length_le (by omega)
        rw [e, ← hbc]
        repeat' first | simp only [SB, E, seval, rdB, ne_eq, implies_true, sp_rvars_at, sp_rtext_at, sp_rssame_at, sp_r8under_at, sp_r8rows_at, sp_r8best_at, sp_r8scrolled_at, sp_rsame_at, sp_r8runs_at, getD_mAt] | simp only [hw] | simp only [hw2] | simp only [hw3] | simp only [hw4] | simp only [hw5] | refine T.seq ?_ | refine T.stm ?_ | refine T.rg ?_ | refine wpR_o ?_ | refine wpR_g ?_ | refine wpR_e ?_ | refine T.cond ?_ | refine T.skip ?_ | refine T.ret ?_ | refine T.exit ?_ | refine T.block ?_ | refine And.intro ?_ ?_ | (intro hyp0; have hyp := hyp0; (try simp only [HB, ne_eq, reduceCtorEq] at hyp); (try simp only [hyp0]); (try clear hyp0); try (exfalso; omega; done)) | omega
        exact ⟨(), Cos.intro [0, 1, 2] [] rfl (by (simp only [SB, E, seval, rdB, ne_eq, implies_true, sp_rvars_at, sp_rtext_at, sp_rssame_at, sp_r8under_at, sp_r8rows_at, sp_r8best_at, sp_r8scrolled_at, sp_rsame_at, sp_r8runs_at, getD_mAt]; first | done | ((repeat' apply And.intro) <;> first | rfl | omega | (simp; done) | (simp; omega))))⟩
    · exact ⟨(), Cos.intro [0, 1, 2] [] rfl (by rw [hbn hyp]; (simp only [SB, E, seval, rdB, ne_eq, implies_true, sp_rvars_at, sp_rtext_at, sp_rssame_at, sp_r8under_at, sp_r8rows_at, sp_r8best_at, sp_r8scrolled_at, sp_rsame_at, sp_r8runs_at, getD_mAt]; first | done | ((repeat' apply And.intro) <;> first | rfl | omega | (simp; done) | (simp; omega))))⟩
  refine ⟨?_⟩
  obtain ⟨U, hU⟩ : ∃ U, U = undL L l l' := ⟨_, rfl⟩
  obtain ⟨n, hn⟩ : ∃ n, n = upN K R U L' := ⟨_, rfl⟩
  obtain ⟨V, hV⟩ : ∃ V, V = movL K R U n := ⟨_, rfl⟩
  have hUL : U.length = K * R := by rw [hU, und_len, hL]
  have hnb := upN_bd K R hr.1 U L'
  rw [← hn] at hnb
  have hcel : celB K R U L' = scrB n ++ copyB (numsTo (rowsM V K R) (rowsM L' K R) R).1 ++ lettersB (cpyL K R V L') L' := by rw [hV, hn]; rfl
  rw [← hU, hcel]
  have hur : ((rowsM L K R).map fun a => a.map (ruf l l')) = rowsM U K R := by rw [hU]; exact und_rows f1.links fun t ht => (hs.lk t ht).1
  have hA0r := rowsM_rect hUL
  have hBr := rowsM_rect hL'
  have hrb := rbest_eq hUL hL' hk.1
  have hVr : rowsM V K R = scrollM (rowsM U K R) n := by rw [hV]; exact rowsM_flatten (scr_rect hA0r n)
  have hBf : (rowsM L' K R).flatten = L' := rowsM_flat hL'
  have hcpy : cpyL K R V L' = ((List.range R).map (nowRow (scrollM (rowsM U K R) n) (rowsM L' K R))).flatten := by rw [← hVr]; rfl
  rw [hVr, hcpy]
  obtain ⟨A0, hA0⟩ : ∃ A, A = rowsM U K R := ⟨_, rfl⟩
  obtain ⟨B, hB⟩ : ∃ A, A = rowsM L' K R := ⟨_, rfl⟩
  rw [← hA0] at hA0r hrb hur ⊢
  rw [← hB] at hBr hrb hBf ⊢
  have hw : ((rowsM L K R).map fun a => a.map (ruf l l')) = A0 := hur
  have hw2 : rowsM L' K R = B := hB.symm
  have hw3 : (bestS (fun m => unlikeM (scrollM A0 m) B A0.flatten.length) (A0.length - 1)).1 = n := by
    rw [rect_flat hA0r, hA0r.len, hn]
    exact hrb
  have hla0 := hA0r.len
  have hlb := hBr.len
  have hrows : ∀ a ∈ A0, a.length ≤ 1000 := fun a ha => by rw [hA0r.row a ha]; omega
  obtain ⟨c1, hc1⟩ : ∃ c, c = b4 ++ (if 0 < n then 6 :: varsN [(2 * n - 1).toNat] else []) := ⟨_, rfl⟩
  have hv1 : ∀ z : Int, 0 ≤ z → z ≤ 100 → (varsI [z]).length ≤ 10 ∧ varsI [z] = varsN [z.toNat] := fun z h1 h2 => ⟨by
    rw [varsI_cons, varsI_nil, List.append_nil]
    exact varN_len10 _ (by omega), rfl⟩
  have q5 : c1.length ≤ 2020 := by
    rw [hc1, List.length_append]
    split
    · rename_i h
      have := (hv1 (2 * n - 1) (by omega) (by omega)).1
      rw [(hv1 (2 * n - 1) (by omega) (by omega)).2] at this
      rw [List.length_cons]
      omega
    · simp
      omega
  obtain ⟨b5, hb5⟩ : ∃ b, b = b4 ++ scrB n := ⟨_, rfl⟩
  have q6 : b5.length ≤ 2020 := by
    have := scrB_len n (by omega)
    rw [hb5, List.length_append]
    omega
  repeat' first | exact hs | exact ⟨K, R, by omega, by omega, hA0r, hBr⟩ | refine T.cut (a := z81_42) (fun _ : Unit => ⟨[(3, .ptr 0 0 0), (5, .slice 1 0 1 (c1).length (c1).length), (12, .vec (.rows .cell) A0), (13, .slice 2 0 1 R R), (14, .int .i64 n)], [.box [.int .i64 K, .int .i64 R, .vec .cell L', .int .i64 X2, .int .i64 Y2, .bool hd', .int .u8 M2, .str ti', .vec .str l'], .seq (.int .u8) (c1), .seq (.rows .cell) B]⟩) (fun _ => True) (Held.out ?_) (fun _ _ => Held.out ?_) | simp only [SB, E, seval, rdB, ne_eq, implies_true, sp_rvars_at, sp_rtext_at, sp_rssame_at, sp_r8under_at, sp_r8rows_at, sp_r8best_at, sp_r8scrolled_at, sp_rsame_at, sp_r8runs_at, getD_mAt] | simp only [hw] | simp only [hw2] | simp only [hw3] | simp only [hw4] | simp only [hw5] | refine T.seq ?_ | refine T.stm ?_ | refine T.rg ?_ | refine wpR_o ?_ | refine wpR_g ?_ | refine wpR_e ?_ | refine T.cond ?_ | refine T.skip ?_ | refine T.ret ?_ | refine T.exit ?_ | refine T.block ?_ | refine And.intro ?_ ?_ | (intro hyp0; have hyp := hyp0; (try simp only [HB, ne_eq, reduceCtorEq] at hyp); (try simp only [hyp0]); (try clear hyp0); try (exfalso; omega; done)) | omega
  · refine ⟨?_⟩
    repeat' first | simp only [SB, E, seval, rdB, ne_eq, implies_true, sp_rvars_at, sp_rtext_at, sp_rssame_at, sp_r8under_at, sp_r8rows_at, sp_r8best_at, sp_r8scrolled_at, sp_rsame_at, sp_r8runs_at, getD_mAt] | simp only [hw] | simp only [hw2] | simp only [hw3] | simp only [hw4] | simp only [hw5] | refine T.seq ?_ | refine T.stm ?_ | refine T.rg ?_ | refine wpR_o ?_ | refine wpR_g ?_ | refine wpR_e ?_ | refine T.cond ?_ | refine T.skip ?_ | refine T.ret ?_ | refine T.exit ?_ | refine T.block ?_ | refine And.intro ?_ ?_ | (intro hyp0; have hyp := hyp0; (try simp only [HB, ne_eq, reduceCtorEq] at hyp); (try simp only [hyp0]); (try clear hyp0); try (exfalso; omega; done)) | omega
    · have := hv1 (2 * n - 1) (by omega) (by omega)
      omega
    · have e : c1 = b4 ++ 6 :: varsI [2 * n - 1] := by rw [hc1, if_pos (by omega)]; rfl
      exact ⟨(), Cos.intro [1, 8, 3] [] rfl (by rw [e]; (simp only [SB, E, seval, rdB, ne_eq, implies_true, sp_rvars_at, sp_rtext_at, sp_rssame_at, sp_r8under_at, sp_r8rows_at, sp_r8best_at, sp_r8scrolled_at, sp_rsame_at, sp_r8runs_at, getD_mAt]; first | done | ((repeat' apply And.intro) <;> first | rfl | omega | (simp; done) | (simp; omega))))⟩
    · have e : c1 = b4 := by rw [hc1, if_neg (by omega), List.append_nil]
      exact ⟨(), Cos.intro [1, 2, 3] [] rfl (by rw [e]; (simp only [SB, E, seval, rdB, ne_eq, implies_true, sp_rvars_at, sp_rtext_at, sp_rssame_at, sp_r8under_at, sp_r8rows_at, sp_r8best_at, sp_r8scrolled_at, sp_rsame_at, sp_r8runs_at, getD_mAt]; first | done | ((repeat' apply And.intro) <;> first | rfl | omega | (simp; done) | (simp; omega))))⟩
  refine ⟨?_⟩
  repeat' first | refine T.cut (a := z81_46) (fun _ : Unit => ⟨[(3, .ptr 0 0 0), (5, .slice 1 0 1 (b5).length (b5).length), (12, .vec (.rows .cell) A0), (13, .slice 2 0 1 R R), (14, .int .i64 n)], [.box [.int .i64 K, .int .i64 R, .vec .cell L', .int .i64 X2, .int .i64 Y2, .bool hd', .int .u8 M2, .str ti', .vec .str l'], .seq (.int .u8) (b5), .seq (.rows .cell) B]⟩) (fun _ => True) (Held.out ?_) (fun _ _ => Held.out ?_) | simp only [SB, E, seval, rdB, ne_eq, implies_true, sp_rvars_at, sp_rtext_at, sp_rssame_at, sp_r8under_at, sp_r8rows_at, sp_r8best_at, sp_r8scrolled_at, sp_rsame_at, sp_r8runs_at, getD_mAt] | simp only [hw] | simp only [hw2] | simp only [hw3] | simp only [hw4] | simp only [hw5] | refine T.seq ?_ | refine T.stm ?_ | refine T.rg ?_ | refine wpR_o ?_ | refine wpR_g ?_ | refine wpR_e ?_ | refine T.cond ?_ | refine T.skip ?_ | refine T.ret ?_ | refine T.exit ?_ | refine T.block ?_ | refine And.intro ?_ ?_ | (intro hyp0; have hyp := hyp0; (try simp only [HB, ne_eq, reduceCtorEq] at hyp); (try simp only [hyp0]); (try clear hyp0); try (exfalso; omega; done)) | omega
  · refine ⟨?_⟩
    repeat' first | simp only [SB, E, seval, rdB, ne_eq, implies_true, sp_rvars_at, sp_rtext_at, sp_rssame_at, sp_r8under_at, sp_r8rows_at, sp_r8best_at, sp_r8scrolled_at, sp_rsame_at, sp_r8runs_at, getD_mAt] | simp only [hw] | simp only [hw2] | simp only [hw3] | simp only [hw4] | simp only [hw5] | refine T.seq ?_ | refine T.stm ?_ | refine T.rg ?_ | refine wpR_o ?_ | refine wpR_g ?_ | refine wpR_e ?_ | refine T.cond ?_ | refine T.skip ?_ | refine T.ret ?_ | refine T.exit ?_ | refine T.block ?_ | refine And.intro ?_ ?_ | (intro hyp0; have hyp := hyp0; (try simp only [HB, ne_eq, reduceCtorEq] at hyp); (try simp only [hyp0]); (try clear hyp0); try (exfalso; omega; done)) | omega
    · have := hv1 (-2 * n) (by omega) (by omega)
      omega
    · have e : b5 = c1 ++ 6 :: varsI [-2 * n] := by
        rw [hb5, hc1, if_neg (by omega), List.append_nil, scrB, if_neg (by omega), scrN, if_neg (by omega)]
        rfl
      exact ⟨(), Cos.intro [0, 7, 2] [] rfl (by rw [e]; (simp only [SB, E, seval, rdB, ne_eq, implies_true, sp_rvars_at, sp_rtext_at, sp_rssame_at, sp_r8under_at, sp_r8rows_at, sp_r8best_at, sp_r8scrolled_at, sp_rsame_at, sp_r8runs_at, getD_mAt]; first | done | ((repeat' apply And.intro) <;> first | rfl | omega | (simp; done) | (simp; omega))))⟩
    · have e : b5 = c1 := by
        rw [hb5, hc1]
        congr 1
        by_cases h : 0 < n
        · rw [if_pos h, scrB, if_neg (by omega), scrN, if_pos h]
        · rw [if_neg h, scrB, if_pos (by omega)]
      exact ⟨(), Cos.intro [0, 1, 2] [] rfl (by rw [e]; (simp only [SB, E, seval, rdB, ne_eq, implies_true, sp_rvars_at, sp_rtext_at, sp_rssame_at, sp_r8under_at, sp_r8rows_at, sp_r8best_at, sp_r8scrolled_at, sp_rsame_at, sp_r8runs_at, getD_mAt]; first | done | ((repeat' apply And.intro) <;> first | rfl | omega | (simp; done) | (simp; omega))))⟩
  refine ⟨?_⟩
  obtain ⟨A1, hA1⟩ : ∃ A, A = scrollM A0 n := ⟨_, rfl⟩
  have hA1r := scr_rect hA0r n
  rw [← hA1] at hA1r ⊢
  have hla1 := hA1r.len
  have hnmr := now_rect hA1r hBr
  have hw : scrollM A0 n = A1 := hA1.symm
  obtain ⟨b6, hb6⟩ : ∃ b, b = b5 ++ copyB (numsTo A1 B R).1 := ⟨_, rfl⟩
  have q7 : b6.length ≤ 3000 := by
    have := numsTo_small A1 B R (by omega) hla1
    rw [hb6, List.length_append]
    omega
  repeat' first | exact hrows | refine T.cut (a := z81_54) (fun _ : Unit => ⟨[(5, .slice 0 0 1 b5.length b5.length), (13, .slice 1 0 1 R R), (15, .slice 2 0 1 R R), (16, .slice 3 0 1 (numsTo A1 B R).1.length (numsTo A1 B R).1.length)], [.seq (.int .u8) b5, .seq (.rows .cell) B, .seq (.rows .cell) ((List.range R).map (nowRow A1 B)), .seq (.int .i64) ((numsTo A1 B R).1.map Int.ofNat)]⟩) (fun _ => True) (Held.out ?_) (fun _ _ => Held.out ?_) | simp only [SB, E, seval, rdB, ne_eq, implies_true, sp_rvars_at, sp_rtext_at, sp_rssame_at, sp_r8under_at, sp_r8rows_at, sp_r8best_at, sp_r8scrolled_at, sp_rsame_at, sp_r8runs_at, getD_mAt] | simp only [hw] | simp only [hw2] | simp only [hw3] | simp only [hw4] | simp only [hw5] | refine T.seq ?_ | refine T.stm ?_ | refine T.rg ?_ | refine wpR_o ?_ | refine wpR_g ?_ | refine wpR_e ?_ | refine T.cond ?_ | refine T.skip ?_ | refine T.ret ?_ | refine T.exit ?_ | refine T.block ?_ | refine And.intro ?_ ?_ | (intro hyp0; have hyp := hyp0; (try simp only [HB, ne_eq, reduceCtorEq] at hyp); (try simp only [hyp0]); (try clear hyp0); try (exfalso; omega; done)) | omega
  · refine ⟨?_⟩
    repeat' first | simp only [SB, E, seval, rdB, ne_eq, implies_true, sp_rvars_at, sp_rtext_at, sp_rssame_at, sp_r8under_at, sp_r8rows_at, sp_r8best_at, sp_r8scrolled_at, sp_rsame_at, sp_r8runs_at, getD_mAt] | simp only [hw] | simp only [hw2] | simp only [hw3] | simp only [hw4] | simp only [hw5] | refine T.seq ?_ | refine T.stm ?_ | refine T.rg ?_ | refine wpR_o ?_ | refine wpR_g ?_ | refine wpR_e ?_ | refine T.cond ?_ | refine T.skip ?_ | refine T.ret ?_ | refine T.exit ?_ | refine T.block ?_ | refine And.intro ?_ ?_ | (intro hyp0; have hyp := hyp0; (try simp only [HB, ne_eq, reduceCtorEq] at hyp); (try simp only [hyp0]); (try clear hyp0); try (exfalso; omega; done)) | omega
    refine T.loop (fun y : Nat => ⟨[(5, .slice 0 0 1 b5.length b5.length), (12, .vec (.rows .cell) A1), (13, .slice 1 0 1 R R), (15, .slice 2 0 1 R R), (16, .slice 3 0 1 (numsTo A1 B y).1.length (numsTo A1 B y).1.length), (17, .int .i64 (numsTo A1 B y).2), (193, .int .i64 R), (194, .int .i64 y)], [.seq (.int .u8) b5, .seq (.rows .cell) B, .seq (.rows .cell) ((List.range y).map (nowRow A1 B) ++ B.drop y), .seq (.int .i64) ((numsTo A1 B y).1.map Int.ofNat)]⟩) (fun y => y ≤ R) (fun y => R - y) 0 (by omega) (Cos.intro [1, 2, 3, 4] [] rfl (by simp only [SB, E, seval, rdB, ne_eq, implies_true, sp_rvars_at, sp_rtext_at, sp_rssame_at, sp_r8under_at, sp_r8rows_at, sp_r8best_at, sp_r8scrolled_at, sp_rsame_at, sp_r8runs_at, getD_mAt]; simp [numsTo, hlb])) (fun y hy => ?_)
    have hnf := numsTo_facts A1 B y
    by_cases hyR : y < R
    · have hyA : y < A1.length := by omega
      have hyB : y < B.length := by omega
      have hay := (hA1r.at_ hyR).1
      have hby := (hBr.at_ hyR).1
      have hnl : ((List.range y).map (nowRow A1 B)).length + (B.drop y).length = R := by simp; omega
      have hset := now_set (nowRow A1 B) B hyB (mAt A1 y)
      repeat' first | simp only [SB, E, seval, rdB, ne_eq, implies_true, sp_rvars_at, sp_rtext_at, sp_rssame_at, sp_r8under_at, sp_r8rows_at, sp_r8best_at, sp_r8scrolled_at, sp_rsame_at, sp_r8runs_at, getD_mAt] | simp only [hw] | simp only [hw2] | simp only [hw3] | simp only [hw4] | simp only [hw5] | refine T.seq ?_ | refine T.stm ?_ | refine T.rg ?_ | refine wpR_o ?_ | refine wpR_g ?_ | refine wpR_e ?_ | refine T.cond ?_ | refine T.skip ?_ | refine T.ret ?_ | refine T.exit ?_ | refine T.block ?_ | refine And.intro ?_ ?_ | (intro hyp0; have hyp := hyp0; (try simp only [HB, ne_eq, reduceCtorEq] at hyp); (try simp only [hyp0]); (try clear hyp0); try (exfalso; omega; done)) | omega
      rw [hset]
      refine T.loop (fun z : Nat => ⟨[(5, .slice 0 0 1 b5.length b5.length), (12, .vec (.rows .cell) A1), (13, .slice 1 0 1 R R), (15, .slice 2 0 1 R R), (16, .slice 3 0 1 (numsTo A1 B y).1.length (numsTo A1 B y).1.length), (17, .int .i64 (numsTo A1 B y).2), (18, .int .i64 y), (19, .int .i64 z), (193, .int .i64 R), (194, .int .i64 y)], [.seq (.int .u8) b5, .seq (.rows .cell) B, .seq (.rows .cell) ((List.range y).map (nowRow A1 B) ++ mAt A1 y :: B.drop (y + 1)), .seq (.int .i64) ((numsTo A1 B y).1.map Int.ofNat)]⟩) (fun z => z ≤ R ∧ ∀ u, u < z → mAt A1 u ≠ mAt B y) (fun z => R - z) 0 ⟨by omega, fun u hu => by omega⟩ (Cos.intro [0, 1, 2, 3] [] rfl (by (simp only [SB, E, seval, rdB, ne_eq, implies_true, sp_rvars_at, sp_rtext_at, sp_rssame_at, sp_r8under_at, sp_r8rows_at, sp_r8best_at, sp_r8scrolled_at, sp_rsame_at, sp_r8runs_at, getD_mAt]; first | done | ((repeat' apply And.intro) <;> first | rfl | omega | (simp; done) | (simp; omega))))) (fun z ⟨hz, hno⟩ => ?_)
      have hnl2 : ((List.range y).map (nowRow A1 B)).length + ((B.drop (y + 1)).length + 1) = R := by simp; omega
      by_cases heq : mAt A1 y = mAt B y
      · have hsn : numsTo A1 B (y + 1) = numsTo A1 B y := by rw [numsTo, if_pos heq]
        have hnr := nowRow_same hyA heq
        have hnn := now_next (nowRow A1 B) (B.drop (y + 1)) y
        rw [hnr] at hnn
        repeat' first | exact absurd heq hyp | simp only [SB, E, seval, rdB, ne_eq, implies_true, sp_rvars_at, sp_rtext_at, sp_rssame_at, sp_r8under_at, sp_r8rows_at, sp_r8best_at, sp_r8scrolled_at, sp_rsame_at, sp_r8runs_at, getD_mAt] | simp only [hw] | simp only [hw2] | simp only [hw3] | simp only [hw4] | simp only [hw5] | refine T.seq ?_ | refine T.stm ?_ | refine T.rg ?_ | refine wpR_o ?_ | refine wpR_g ?_ | refine wpR_e ?_ | refine T.cond ?_ | refine T.skip ?_ | refine T.ret ?_ | refine T.exit ?_ | refine T.block ?_ | refine And.intro ?_ ?_ | (intro hyp0; have hyp := hyp0; (try simp only [HB, ne_eq, reduceCtorEq] at hyp); (try simp only [hyp0]); (try clear hyp0); try (exfalso; omega; done)) | omega
        all_goals exact ⟨y + 1, by omega, by omega, Cos.intro [0, 1, 2, 3] [] rfl (by rw [hsn, ← hnn]; (simp only [SB, E, seval, rdB, ne_eq, implies_true, sp_rvars_at, sp_rtext_at, sp_rssame_at, sp_r8under_at, sp_r8rows_at, sp_r8best_at, sp_r8scrolled_at, sp_rsame_at, sp_r8runs_at, getD_mAt]; first | done | ((repeat' apply And.intro) <;> first | rfl | omega | (simp; done) | (simp; omega))))⟩
      · by_cases hzR : z < R
        · have haz := (hA1r.at_ hzR).1
          by_cases hzz : mAt A1 z = mAt B y
          · have hfz := findZ_some (n := A1.length) hno hzz (by omega)
            have hsn : numsTo A1 B (y + 1) = ((numsTo A1 B y).1 ++ [y - (numsTo A1 B y).2, z], y + 1) := by rw [numsTo, if_neg heq, hfz]
            have hnr := nowRow_some hno hzz (by omega)
            have hnn := now_next (nowRow A1 B) (B.drop (y + 1)) y
            rw [hnr] at hnn
            have hst2 := now_set2 (nowRow A1 B) (B.drop (y + 1)) y (mAt A1 y) (mAt B y)
            have hml : (List.map Int.ofNat (numsTo A1 B y).1).length = (numsTo A1 B y).1.length := List.length_map _
            have hw2 : List.take (numsTo A1 B y).1.length (List.map Int.ofNat (numsTo A1 B y).1) = List.map Int.ofNat (numsTo A1 B y).1 := List.take_of_length_le (by omega)
            have hsub : Int.ofNat (y - (numsTo A1 B y).2) = (y : Int) - (numsTo A1 B y).2 := Int.ofNat_sub hnf.1
            repeat' first | exact absurd hyp heq | exact absurd hzz hyp | simp only [SB, E, seval, rdB, ne_eq, implies_true, sp_rvars_at, sp_rtext_at, sp_rssame_at, sp_r8under_at, sp_r8rows_at, sp_r8best_at, sp_r8scrolled_at, sp_rsame_at, sp_r8runs_at, getD_mAt] | simp only [hw] | simp only [hw2] | simp only [hw3] | simp only [hw4] | simp only [hw5] | refine T.seq ?_ | refine T.stm ?_ | refine T.rg ?_ | refine wpR_o ?_ | refine wpR_g ?_ | refine wpR_e ?_ | refine T.cond ?_ | refine T.skip ?_ | refine T.ret ?_ | refine T.exit ?_ | refine T.block ?_ | refine And.intro ?_ ?_ | (intro hyp0; have hyp := hyp0; (try simp only [HB, ne_eq, reduceCtorEq] at hyp); (try simp only [hyp0]); (try clear hyp0); try (exfalso; omega; done)) | omega
            refine ⟨y + 1, by omega, by omega, Cos.intro [0, 1, 2, 5] [] rfl ?_⟩
            rw [hsn, ← hnn, hst2]
            simp only [List.map_append, List.map_cons, List.map_nil, hsub]
            (simp only [SB, E, seval, rdB, ne_eq, implies_true, sp_rvars_at, sp_rtext_at, sp_rssame_at, sp_r8under_at, sp_r8rows_at, sp_r8best_at, sp_r8scrolled_at, sp_rsame_at, sp_r8runs_at, getD_mAt]; first | done | ((repeat' apply And.intro) <;> first | rfl | omega | (simp; done) | (simp; omega)))
          · repeat' first | exact absurd hyp heq | exact absurd hyp hzz | simp only [SB, E, seval, rdB, ne_eq, implies_true, sp_rvars_at, sp_rtext_at, sp_rssame_at, sp_r8under_at, sp_r8rows_at, sp_r8best_at, sp_r8scrolled_at, sp_rsame_at, sp_r8runs_at, getD_mAt] | simp only [hw] | simp only [hw2] | simp only [hw3] | simp only [hw4] | simp only [hw5] | refine T.seq ?_ | refine T.stm ?_ | refine T.rg ?_ | refine wpR_o ?_ | refine wpR_g ?_ | refine wpR_e ?_ | refine T.cond ?_ | refine T.skip ?_ | refine T.ret ?_ | refine T.exit ?_ | refine T.block ?_ | refine And.intro ?_ ?_ | (intro hyp0; have hyp := hyp0; (try simp only [HB, ne_eq, reduceCtorEq] at hyp); (try simp only [hyp0]); (try clear hyp0); try (exfalso; omega; done)) | omega
            exact ⟨z + 1, ⟨by omega, fun u hu => if e : u = z then by subst e; exact hzz else hno u (by omega)⟩, by omega, Cos.intro [0, 1, 2, 3] [] rfl (by (simp only [SB, E, seval, rdB, ne_eq, implies_true, sp_rvars_at, sp_rtext_at, sp_rssame_at, sp_r8under_at, sp_r8rows_at, sp_r8best_at, sp_r8scrolled_at, sp_rsame_at, sp_r8runs_at, getD_mAt]; first | done | ((repeat' apply And.intro) <;> first | rfl | omega | (simp; done) | (simp; omega))))⟩
        · obtain rfl : z = R := by omega
          have hsn : numsTo A1 B (y + 1) = numsTo A1 B y := by rw [numsTo, if_neg heq, findZ_none (fun u hu => hno u (by omega))]
          have hnr := nowRow_none (A := A1) (B := B) (y := y) fun u hu => hno u (by omega)
          have hnn := now_next (nowRow A1 B) (B.drop (y + 1)) y
          rw [hnr] at hnn
          repeat' first | simp only [SB, E, seval, rdB, ne_eq, implies_true, sp_rvars_at, sp_rtext_at, sp_rssame_at, sp_r8under_at, sp_r8rows_at, sp_r8best_at, sp_r8scrolled_at, sp_rsame_at, sp_r8runs_at, getD_mAt] | simp only [hw] | simp only [hw2] | simp only [hw3] | simp only [hw4] | simp only [hw5] | refine T.seq ?_ | refine T.stm ?_ | refine T.rg ?_ | refine wpR_o ?_ | refine wpR_g ?_ | refine wpR_e ?_ | refine T.cond ?_ | refine T.skip ?_ | refine T.ret ?_ | refine T.exit ?_ | refine T.block ?_ | refine And.intro ?_ ?_ | (intro hyp0; have hyp := hyp0; (try simp only [HB, ne_eq, reduceCtorEq] at hyp); (try simp only [hyp0]); (try clear hyp0); try (exfalso; omega; done)) | omega
          exact ⟨y + 1, by omega, by omega, Cos.intro [0, 1, 2, 3] [] rfl (by rw [hsn, ← hnn]; (simp only [SB, E, seval, rdB, ne_eq, implies_true, sp_rvars_at, sp_rtext_at, sp_rssame_at, sp_r8under_at, sp_r8rows_at, sp_r8best_at, sp_r8scrolled_at, sp_rsame_at, sp_r8runs_at, getD_mAt]; first | done | ((repeat' apply And.intro) <;> first | rfl | omega | (simp; done) | (simp; omega))))⟩
    · obtain rfl : y = R := by omega
      have hde : B.drop y = [] := List.drop_of_length_le (by omega)
      repeat' first | simp only [SB, E, seval, rdB, ne_eq, implies_true, sp_rvars_at, sp_rtext_at, sp_rssame_at, sp_r8under_at, sp_r8rows_at, sp_r8best_at, sp_r8scrolled_at, sp_rsame_at, sp_r8runs_at, getD_mAt] | simp only [hw] | simp only [hw2] | simp only [hw3] | simp only [hw4] | simp only [hw5] | refine T.seq ?_ | refine T.stm ?_ | refine T.rg ?_ | refine wpR_o ?_ | refine wpR_g ?_ | refine wpR_e ?_ | refine T.cond ?_ | refine T.skip ?_ | refine T.ret ?_ | refine T.exit ?_ | refine T.block ?_ | refine And.intro ?_ ?_ | (intro hyp0; have hyp := hyp0; (try simp only [HB, ne_eq, reduceCtorEq] at hyp); (try simp only [hyp0]); (try clear hyp0); try (exfalso; omega; done)) | omega
      exact ⟨(), Cos.intro [0, 1, 2, 3] [] rfl (by rw [hde, List.append_nil]; (simp only [SB, E, seval, rdB, ne_eq, implies_true, sp_rvars_at, sp_rtext_at, sp_rssame_at, sp_r8under_at, sp_r8rows_at, sp_r8best_at, sp_r8scrolled_at, sp_rsame_at, sp_r8runs_at, getD_mAt]; first | done | ((repeat' apply And.intro) <;> first | rfl | omega | (simp; done) | (simp; omega))))⟩
  refine ⟨?_⟩
  repeat' first | refine T.cut (a := z81_78) (fun _ : Unit => ⟨[(5, .slice 0 0 1 b6.length b6.length), (13, .slice 1 0 1 R R), (15, .slice 2 0 1 R R)], [.seq (.int .u8) b6, .seq (.rows .cell) B, .seq (.rows .cell) ((List.range R).map (nowRow A1 B))]⟩) (fun _ => True) (Held.out ?_) (fun _ _ => Held.out ?_) | simp only [SB, E, seval, rdB, ne_eq, implies_true, sp_rvars_at, sp_rtext_at, sp_rssame_at, sp_r8under_at, sp_r8rows_at, sp_r8best_at, sp_r8scrolled_at, sp_rsame_at, sp_r8runs_at, getD_mAt] | simp only [hw] | simp only [hw2] | simp only [hw3] | simp only [hw4] | simp only [hw5] | refine T.seq ?_ | refine T.stm ?_ | refine T.rg ?_ | refine wpR_o ?_ | refine wpR_g ?_ | refine wpR_e ?_ | refine T.cond ?_ | refine T.skip ?_ | refine T.ret ?_ | refine T.exit ?_ | refine T.block ?_ | refine And.intro ?_ ?_ | (intro hyp0; have hyp := hyp0; (try simp only [HB, ne_eq, reduceCtorEq] at hyp); (try simp only [hyp0]); (try clear hyp0); try (exfalso; omega; done)) | omega
  · refine ⟨?_⟩
    have hnf := numsTo_facts A1 B R
    have hne := numsTo_even A1 B R
    obtain ⟨nums, hnm⟩ : ∃ nums, nums = (numsTo A1 B R).1 := ⟨_, rfl⟩
    rw [← hnm] at hne hnf hb6 ⊢
    have hw : ((nums.length : Int) / 2) = ((nums.length / 2 : Nat) : Int) := by omega
    have hw2 : List.take nums.length (List.map Int.ofNat nums) = List.map Int.ofNat nums := List.take_of_length_le (by simp)
    have hw3 : varsI (List.map Int.ofNat nums) = varsN nums := varsI_nat nums
    have hw4 : ∀ X : List Int, List.take (b5.length + 1 + X.length) (b5 ++ [7] ++ X) = b5 ++ [7] ++ X := fun X => List.take_of_length_le (by simp; omega)
    have hw5 : varsI [((nums.length / 2 : Nat) : Int)] = varN (nums.length / 2) := by simp only [varsI, List.flatMap_cons, List.flatMap_nil, List.append_nil, Int.toNat_natCast]
    have h10 := varN_len10 (nums.length / 2) (by omega)
    have hvl := varsN_len nums (fun x hx => by have := hnf.2.2 x hx; omega)
    have hmm : (List.map Int.ofNat nums).length = nums.length := List.length_map _
    have hnn : ∀ x ∈ List.map Int.ofNat nums, 0 ≤ x ∧ x < 9223372036854775808 := fun x hx => by
      obtain ⟨u, hu, rfl⟩ := List.mem_map.1 hx
      have := hnf.2.2 u hu
      simp only [Int.ofNat_eq_natCast]
      omega
    repeat' first | exact hnn | simp only [SB, E, seval, rdB, ne_eq, implies_true, sp_rvars_at, sp_rtext_at, sp_rssame_at, sp_r8under_at, sp_r8rows_at, sp_r8best_at, sp_r8scrolled_at, sp_rsame_at, sp_r8runs_at, getD_mAt] | simp only [hw] | simp only [hw2] | simp only [hw3] | simp only [hw4] | simp only [hw5] | refine T.seq ?_ | refine T.stm ?_ | refine T.rg ?_ | refine wpR_o ?_ | refine wpR_g ?_ | refine wpR_e ?_ | refine T.cond ?_ | refine T.skip ?_ | refine T.ret ?_ | refine T.exit ?_ | refine T.block ?_ | refine And.intro ?_ ?_ | (intro hyp0; have hyp := hyp0; (try simp only [HB, ne_eq, reduceCtorEq] at hyp); (try simp only [hyp0]); (try clear hyp0); try (exfalso; omega; done)) | omega
    · have h0 : nums ≠ [] := fun e => by rw [e] at hyp; simp at hyp
      have e : b6 = b5 ++ 7 :: (varN (nums.length / 2) ++ varsN nums) := by rw [hb6, copyB, if_neg h0]
      exact ⟨(), Cos.intro [10, 1, 2] [] rfl (by rw [e]; (simp only [SB, E, seval, rdB, ne_eq, implies_true, sp_rvars_at, sp_rtext_at, sp_rssame_at, sp_r8under_at, sp_r8rows_at, sp_r8best_at, sp_r8scrolled_at, sp_rsame_at, sp_r8runs_at, getD_mAt]; first | done | ((repeat' apply And.intro) <;> first | rfl | omega | (simp; done) | (simp; omega))))⟩
    · have h0 : nums = [] := List.eq_nil_of_length_eq_zero (by omega)
      have e : b6 = b5 := by rw [hb6, h0]; simp [copyB]
      exact ⟨(), Cos.intro [0, 1, 2] [] rfl (by rw [e]; (simp only [SB, E, seval, rdB, ne_eq, implies_true, sp_rvars_at, sp_rtext_at, sp_rssame_at, sp_r8under_at, sp_r8rows_at, sp_r8best_at, sp_r8scrolled_at, sp_rsame_at, sp_r8runs_at, getD_mAt]; first | done | ((repeat' apply And.intro) <;> first | rfl | omega | (simp; done) | (simp; omega))))⟩
  refine ⟨?_⟩
  have hw : List.take R ((List.range R).map (nowRow A1 B)) = (List.range R).map (nowRow A1 B) := List.take_of_length_le (by simp)
  have hw2 : List.take R B = B := List.take_of_length_le (by omega)
  have hw3 := hBf
  have hlt := lettersB_len ((List.range R).map (nowRow A1 B)).flatten L' hs'.wf (by omega)
  have hnl : ((List.range R).map (nowRow A1 B)).length = R := by simp
  repeat' first | exact ⟨K, R, by omega, by omega, hnmr, hBr, f2.fit⟩ | exact f2.whole | exact hs'.wf | exact f2.runes | simp only [SB, E, seval, rdB, ne_eq, implies_true, sp_rvars_at, sp_rtext_at, sp_rssame_at, sp_r8under_at, sp_r8rows_at, sp_r8best_at, sp_r8scrolled_at, sp_rsame_at, sp_r8runs_at, getD_mAt] | simp only [hw] | simp only [hw2] | simp only [hw3] | simp only [hw4] | simp only [hw5] | refine T.seq ?_ | refine T.stm ?_ | refine T.rg ?_ | refine wpR_o ?_ | refine wpR_g ?_ | refine wpR_e ?_ | refine T.cond ?_ | refine T.skip ?_ | refine T.ret ?_ | refine T.exit ?_ | refine T.block ?_ | refine And.intro ?_ ?_ | (intro hyp0; have hyp := hyp0; (try simp only [HB, ne_eq, reduceCtorEq] at hyp); (try simp only [hyp0]); (try clear hyp0); try (exfalso; omega; done)) | omega
  have e : b6 = b4 ++ scrB n ++ copyB (numsTo A1 B R).1 := by rw [hb6, hb5]
  exact Cos.intro [4] [] rfl (by rw [e]; (simp only [SB, E, seval, rdB, ne_eq, implies_true, sp_rvars_at, sp_rtext_at, sp_rssame_at, sp_r8under_at, sp_r8rows_at, sp_r8best_at, sp_r8scrolled_at, sp_rsame_at, sp_r8runs_at, getD_mAt]; first | done | ((repeat' apply And.intro) <;> first | rfl | omega | (simp; done) | (simp; omega)))))
end
end Go.Proofs.YtcfkfgkndncanaaDoor
