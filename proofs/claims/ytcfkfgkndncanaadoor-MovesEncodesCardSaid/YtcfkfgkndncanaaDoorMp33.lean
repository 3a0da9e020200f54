/- Texts of this claim, merged by a program of this claim: FLaw18. -/
import Derived.Test.YtcfkfgkndncanaaDoorMp27
import Derived.Test.YtcfkfgkndncanaaDoorMp32
namespace Go.Proofs.YtcfkfgkndncanaaDoor
set_option linter.unusedVariables false
set_option linter.unusedSimpArgs false
section
open Go.RowKit
set_option maxRecDepth 100000
set_option maxHeartbeats 4000000
def colL (s : ByteArray) : List CD := (strInts s).map fun b => ⟨b, 0, 0, 0, 0, 0⟩
def Abc (s : ByteArray) : Prop := s = bs [97, 98, 99] ∨ s = bs [98, 99, 100] ∨ s = bs [98, 98, 99]
theorem abc_size {s : ByteArray} (h : Abc s) : s.size = 3 := by rcases h with rfl | rfl | rfl <;> rfl
theorem abc_dec {s : ByteArray} (h : Abc s) : ∀ p, p < 3 → (Utf8.decode s p).2 = 1 ∧ ((Utf8.decode s p).1 : Int) = (strInts s).getD p 0 ∧ I32 ((strInts s).getD p 0) := fun p hp => by
  rcases h with rfl | rfl | rfl <;> rcases (show p = 0 ∨ p = 1 ∨ p = 2 by omega) with rfl | rfl | rfl <;> refine ⟨rfl, rfl, ?_, ?_⟩ <;> decide
theorem half3 {s : ByteArray} (h : s.size = 3) {p : Nat} (hp : p < 3) : ((colL s).take p ++ List.replicate (3 - p) blank0).set p ⟨(strInts s).getD p 0, 0, 0, 0, 0, 0⟩ = (colL s).take (p + 1) ++ List.replicate (3 - (p + 1)) blank0 := by
  have hl : (colL s).length = 3 := by simp [colL, ints_len, h]
  have e : (colL s).getD p default = ⟨(strInts s).getD p 0, 0, 0, 0, 0, 0⟩ := by
    rw [List.getD_eq_getElem?_getD, colL, List.getElem?_map, getD_at (d := 0) (by rw [ints_len]; omega)]
    rfl
  rw [← e, take_snoc_get (getD_at (d := default) (by omega)), fillM (by simp; omega) hp]
noncomputable def sp_column : Spec := spOf (α := ByteArray) (fun s => [.str s]) fun s => (Abc s, .ret (.agg [.int .i64 1, .int .i64 3, .vec .cell (colL s), .int .i64 0, .int .i64 2, .bool false, .int .u8 0, .str (bs []), .vec .str []]))
theorem sp_column_at (s : ByteArray) : sp_column [.str s] = some (Abc s, .ret (.agg [.int .i64 1, .int .i64 3, .vec .cell (colL s), .int .i64 0, .int .i64 2, .bool false, .int .u8 0, .str (bs []), .vec .str []])) := spOf_at (α := ByteArray) _ (fun s s' h => by first | simpa [CP] using h | (simp [CP] at h ⊢; grind)) s
theorem fr_column : Fresh Tryd.prog E0 13 sp_column := Fresh.of fun s hG => TF.intro (V := (VV [(20, conT [.any, .any] sp_rblankT)] (.cons (chkFn_callable k_r15_Blank) (Fresh.soundT fr_rblankT) GOk.nil) 30 0)) k_l18_column rfl rfl (by
  dsimp only at hG ⊢
  have hs := abc_size hG
  have hd := abc_dec hG
  have hf : fitsB 1 3 = true := by decide
  have hw : s.size = 3 := hs
  have hcl : (colL s).length = 3 := by simp [colL, ints_len, hs]
  repeat' first | exact hf | simp only [SB, E, seval, rdB, ne_eq, implies_true, sp_rblankT_at] | simp only [hw] | simp only [hw2] | simp only [hw3] | simp only [hw4] | simp only [hw5] | refine T.seq ?_ | refine T.stm ?_ | refine T.rg ?_ | refine wpR_o ?_ | refine wpR_g ?_ | refine wpR_e ?_ | refine T.cond ?_ | refine T.skip ?_ | refine T.ret ?_ | refine T.exit ?_ | refine T.block ?_ | refine And.intro ?_ ?_ | (intro hyp0; have hyp := hyp0; (try simp only [HB, ne_eq, reduceCtorEq] at hyp); (try simp only [hyp0]); (try clear hyp0); try (exfalso; omega; done)) | omega
  refine T.loop (fun p : Nat => ⟨[(0, .str s), (2, .ptr 0 0 0), (3, .ptr 3 0 0), (14, .ptr 4 0 0)], [.box [.int .i64 0, .int .i64 0, .nils, .int .i64 0, .int .i64 0, .bool false, .int .u8 0, .str (bs []), .nils], .seq .cell ((colL s).take p ++ List.replicate (3 - p) blank0), .seq .str [], .box [.int .i64 1, .int .i64 3, .slice 1 0 6 3 3, .int .i64 0, .int .i64 0, .bool false, .int .u8 0, .str (bs []), .slice 2 0 1 0 0], .iter s p]⟩) (fun p => p ≤ 3) (fun p => 3 - p) 0 (by omega) (Cos.intro [0, 1, 2, 3, 4] [] rfl (by (simp only [SB, E, seval, rdB, ne_eq, implies_true, sp_rblankT_at]; first | done | ((repeat' apply And.intro) <;> first | rfl | omega | (simp; done) | (simp; omega))))) (fun p hp => ?_)
  have hlen : ((colL s).take p ++ List.replicate (3 - p) blank0).length = 3 := by simp; omega
  by_cases hp3 : p < 3
  · obtain ⟨d1, d2, d3⟩ := hd p hp3
    have hw2 := d2
    have hw3 := d1
    have hh := half3 hs hp3
    have htl : (List.take p (colL s)).length = p := by rw [List.length_take]; omega
    have hg : ((colL s).take p ++ List.replicate (3 - p) blank0).getD p default = blank0 := by
      rw [List.getD_eq_getElem?_getD, List.getElem?_append_right (by omega), htl, Nat.sub_self, show 3 - p = (3 - p - 1) + 1 by omega, List.replicate_succ]
      rfl
    have hw5 : (p < 3) = True := eq_true hp3
    have hw4 := hg
    repeat' first | exact d3.1 | exact d3.2 | simp only [SB, E, seval, rdB, ne_eq, implies_true, sp_rblankT_at] | simp only [hw] | simp only [hw2] | simp only [hw3] | simp only [hw4] | simp only [hw5] | refine T.seq ?_ | refine T.stm ?_ | refine T.rg ?_ | refine wpR_o ?_ | refine wpR_g ?_ | refine wpR_e ?_ | refine T.cond ?_ | refine T.skip ?_ | refine T.ret ?_ | refine T.exit ?_ | refine T.block ?_ | refine And.intro ?_ ?_ | (intro hyp0; have hyp := hyp0; (try simp only [HB, ne_eq, reduceCtorEq] at hyp); (try simp only [hyp0]); (try clear hyp0); try (exfalso; omega; done)) | omega
    exact ⟨p + 1, by omega, by omega, Cos.intro [0, 1, 2, 3, 4] [] rfl (by rw [← hh]; (simp only [SB, E, seval, rdB, ne_eq, implies_true, sp_rblankT_at]; first | done | ((repeat' apply And.intro) <;> first | rfl | omega | (simp; done) | (simp; omega))))⟩
  · obtain rfl : p = 3 := by omega
    have htk : List.take 3 (colL s) = colL s := List.take_of_length_le (by omega)
    repeat' first | simp only [SB, E, seval, rdB, ne_eq, implies_true, sp_rblankT_at] | simp only [hw] | simp only [hw2] | simp only [hw3] | simp only [hw4] | simp only [hw5] | refine T.seq ?_ | refine T.stm ?_ | refine T.rg ?_ | refine wpR_o ?_ | refine wpR_g ?_ | refine wpR_e ?_ | refine T.cond ?_ | refine T.skip ?_ | refine T.ret ?_ | refine T.exit ?_ | refine T.block ?_ | refine And.intro ?_ ?_ | (intro hyp0; have hyp := hyp0; (try simp only [HB, ne_eq, reduceCtorEq] at hyp); (try simp only [hyp0]); (try clear hyp0); try (exfalso; omega; done)) | omega
    refine Cos.intro [1, 2] [] rfl ?_
    rw [htk]
    (simp only [SB, E, seval, rdB, ne_eq, implies_true, sp_rblankT_at]; first | done | ((repeat' apply And.intro) <;> first | rfl | omega | (simp; done) | (simp; omega))))
theorem abc_ok (s : ByteArray) (h : s.size ≤ 60000) : ScrOk (colL s) [] := ⟨fun c hc => by
  obtain ⟨b, hb, rfl⟩ := List.mem_map.1 hc
  have h := ints_byte s b hb
  obtain ⟨h1, h2⟩ := h
  exact ⟨by simp only; omega, by simp only; omega, by simp only; omega, by simp only; omega, by simp only; omega, by simp only; omega⟩, by rw [colL, List.length_map, ints_len]; exact h, by simp, fun s hs => by cases hs⟩
theorem slen0 : SLen (bs []) := by decide
theorem ex_enc1 : encI 1 3 (colL (bs [97, 98, 99])) 0 2 false 0 (bs []) [] 1 3 (colL (bs [98, 99, 100])) 0 2 false 0 (bs []) [] = [6, 1, 8, 1, 2, 1, 0, 0, 0, 0, 100] := by decide +kernel
theorem ex_enc2 : encI 1 3 (colL (bs [97, 98, 99])) 0 2 false 0 (bs []) [] 1 3 (colL (bs [98, 98, 99])) 0 2 false 0 (bs []) [] = [7, 1, 0, 1] := by decide +kernel
theorem ex_right (s : ByteArray) (h : Abc s) : rightB 1 3 (colL s) 0 2 0 (bs []) [] = true := by rcases h with rfl | rfl | rfl <;> decide +kernel
noncomputable def sp_fixed : Spec := spOf (α := Unit) (fun _ => []) fun _ => (True, .ret (.bool true))
theorem sp_fixed_at : sp_fixed [] = some (True, .ret (.bool true)) := spOf_at (α := Unit) _ (fun x y h => rfl) ()
theorem al_fixed : Alias Tryd.prog E0 5 sp_fixed := Alias.of fun _ hG => TF.intro (V := (VV [(13, conT [.any] sp_column), (7, conT [.agg [.any, .any, .sl .cell, .any, .any, .any, .any, .any, .sl .str], .agg [.any, .any, .sl .cell, .any, .any, .any, .any, .any, .sl .str]] sp_menc), (11, conF [.sl (.int .u8), .sl (.int .u8)] sp_bsame)] (.cons (chkFn_callable k_l18_column) (Fresh.soundT fr_column) (.cons (chkFn_callable k_moves_Encode) (Fresh.soundT fr_menc) (.cons (chkFn_callable k_r01_Same) (Fresh.soundF fr_bsame) GOk.nil))) 33 0)) k_l18_fixed rfl rfl (by
  dsimp only at hG ⊢
  have hw := ex_enc1
  have hw2 := ex_enc2
  have hw3 := ex_right _ (.inl rfl)
  have hw4 := ex_right _ (.inr (.inl rfl))
  have hw5 := ex_right _ (.inr (.inr rfl))
  have he : errN true = 0 := rfl
  repeat' first | exact .inl rfl | exact .inr (.inl rfl) | exact .inr (.inr rfl) | exact abc_ok _ (by decide) | exact slen0 | simp only [SB, E, seval, rdB, ne_eq, implies_true, sp_column_at, sp_menc_at, sp_bsame_at] | simp only [hw] | simp only [hw2] | simp only [hw3] | simp only [hw4] | simp only [hw5] | refine T.seq ?_ | refine T.stm ?_ | refine T.rg ?_ | refine wpR_o ?_ | refine wpR_g ?_ | refine wpR_e ?_ | refine T.cond ?_ | refine T.skip ?_ | refine T.ret ?_ | refine T.exit ?_ | refine T.block ?_ | refine And.intro ?_ ?_ | (intro hyp0; have hyp := hyp0; (try simp only [HB, ne_eq, reduceCtorEq] at hyp); (try simp only [hyp0]); (try clear hyp0); try (exfalso; omega; done)) | omega
  exact Cos.intro [] [] rfl (by (simp only [SB, E, seval, rdB, ne_eq, implies_true, sp_column_at, sp_menc_at, sp_bsame_at]; first | done | ((repeat' apply And.intro) <;> first | rfl | omega | (simp; done) | (simp; omega)))))
theorem fr_fixed : Fresh Tryd.prog E0 5 sp_fixed := Alias.fresh al_fixed (fun x => rfl)
theorem full_len {k r : Int} {L : List CD} {x y : Int} {hd : Bool} {mo : Int} {ti : ByteArray} {l : List ByteArray} (hs : ScrOk L l) (hmo : 0 ≤ mo) : (fullI k r L x y hd mo ti l).length ≤ 200000 := by
  cases hr : rightB k r L x y mo ti l
  · rw [fullI, if_neg (by rw [hr]; decide)]
    simp
  · have hr2 := hr
    obtain ⟨K, R, X, Y, M, rfl, rfl, rfl, rfl, rfl, f⟩ := right_fact hr hmo
    rw [fullI, if_pos hr2]
    have hx := f.x1
    have hy := f.y1
    have hm := f.mo1
    have hk := f.k1
    have hrr := f.r1
    have hdl := diffB_len (L1 := blanksN K R) (x1 := 0) (y1 := 0) (hd1 := false) (m1 := 0) (t1 := bs []) (l1 := []) (L2 := L) (x2 := X) (y2 := Y) (hd2 := hd) (m2 := M) (t2 := ti) (l2 := l) (k := K) (r := R) (by simp [blanksN]) (by omega) hrr f.len hs.wf (by omega) (by omega) (by omega) f.ti1 f.l1 f.s64
    have hvl := varsN_len [K, R] (fun u hu => by simp at hu; omega)
    simp only [List.length_cons, List.length_nil] at hvl
    simp only [Int.toNat_natCast, fullB, List.length_append, List.length_cons]
    have : (diffB K R (blanksN K R) 0 0 false 0 ⟨#[]⟩ [] L X Y hd M ti l).length ≤ 133000 := hdl
    omega
theorem enc_len {k r : Int} {L : List CD} {x y : Int} {hd : Bool} {mo : Int} {ti : ByteArray} {l : List ByteArray} {k' r' : Int} {L' : List CD} {x' y' : Int} {hd' : Bool} {mo' : Int} {ti' : ByteArray} {l' : List ByteArray} (hs : ScrOk L l) (hmo : 0 ≤ mo) (hs' : ScrOk L' l') (hmo' : 0 ≤ mo') : (encI k r L x y hd mo ti l k' r' L' x' y' hd' mo' ti' l').length ≤ 200000 := by
  cases hr : (rightB k r L x y mo ti l && rightB k' r' L' x' y' mo' ti' l')
  · rw [encI, if_neg (by rw [hr]; decide)]
    simp
  · rw [encI, if_pos hr]
    by_cases h : k = k' ∧ r = r'
    · rw [if_pos h]
      rw [Bool.and_eq_true] at hr
      obtain ⟨K, R, X, Y, M, rfl, rfl, rfl, rfl, rfl, f⟩ := right_fact hr.1 hmo
      obtain ⟨K2, R2, X2, Y2, M2, e1, e2, rfl, rfl, rfl, f2⟩ := right_fact hr.2 hmo'
      obtain rfl : K = K2 := by omega
      obtain rfl : R = R2 := by omega
      simp only [Int.toNat_natCast]
      have hx := f2.x1
      have hy := f2.y1
      have hm := f2.mo1
      have hk := f2.k1
      have hrr := f2.r1
      have := diffB_len (L1 := L) (x1 := X) (y1 := Y) (hd1 := hd) (m1 := M) (t1 := ti) (l1 := l) (L2 := L') (x2 := X2) (y2 := Y2) (hd2 := hd') (m2 := M2) (t2 := ti') (l2 := l') (k := K) (r := R) f.len (by omega) f2.r1 f2.len hs'.wf (by omega) (by omega) (by omega) f2.ti1 f2.l1 f2.s64
      omega
    · rw [if_neg h]
      exact full_len hs' hmo'
noncomputable def sp_law : Spec := spOf (α := Int × Int × (List CD) × Int × Int × Bool × Int × ByteArray × (List ByteArray) × Int × Int × (List CD) × Int × Int × Bool × Int × ByteArray × (List ByteArray)) (fun ⟨k, r, L, x, y, hd, mo, ti, l, k', r', L', x', y', hd', mo', ti', l'⟩ => [.agg [.int .i64 k, .int .i64 r, .vec .cell L, .int .i64 x, .int .i64 y, .bool hd, .int .u8 mo, .str ti, .vec .str l], .agg [.int .i64 k', .int .i64 r', .vec .cell L', .int .i64 x', .int .i64 y', .bool hd', .int .u8 mo', .str ti', .vec .str l']]) fun ⟨k, r, L, x, y, hd, mo, ti, l, k', r', L', x', y', hd', mo', ti', l'⟩ => (((∀ c ∈ L, CWf c) ∧ SLen ti ∧ (∀ s ∈ l, SLen s) ∧ 0 ≤ mo) ∧ ((∀ c ∈ L', CWf c) ∧ SLen ti' ∧ (∀ s ∈ l', SLen s) ∧ 0 ≤ mo'), .ret (.bool true))
theorem sp_law_at (k : Int) (r : Int) (L : List CD) (x : Int) (y : Int) (hd : Bool) (mo : Int) (ti : ByteArray) (l : List ByteArray) (k' : Int) (r' : Int) (L' : List CD) (x' : Int) (y' : Int) (hd' : Bool) (mo' : Int) (ti' : ByteArray) (l' : List ByteArray) : sp_law [.agg [.int .i64 k, .int .i64 r, .vec .cell L, .int .i64 x, .int .i64 y, .bool hd, .int .u8 mo, .str ti, .vec .str l], .agg [.int .i64 k', .int .i64 r', .vec .cell L', .int .i64 x', .int .i64 y', .bool hd', .int .u8 mo', .str ti', .vec .str l']] = some (((∀ c ∈ L, CWf c) ∧ SLen ti ∧ (∀ s ∈ l, SLen s) ∧ 0 ≤ mo) ∧ ((∀ c ∈ L', CWf c) ∧ SLen ti' ∧ (∀ s ∈ l', SLen s) ∧ 0 ≤ mo'), .ret (.bool true)) := spOf_at (α := Int × Int × (List CD) × Int × Int × Bool × Int × ByteArray × (List ByteArray) × Int × Int × (List CD) × Int × Int × Bool × Int × ByteArray × (List ByteArray)) _ (fun ⟨k, r, L, x, y, hd, mo, ti, l, k', r', L', x', y', hd', mo', ti', l'⟩ ⟨k', r', L', x', y', hd', mo', ti', l', k'', r'', L'', x'', y'', hd'', mo'', ti'', l''⟩ h => by first | simpa [CP] using h | (simp [CP] at h ⊢; grind)) (k, r, L, x, y, hd, mo, ti, l, k', r', L', x', y', hd', mo', ti', l')
theorem al_law : Alias Tryd.prog E0 3 sp_law := Alias.of fun ⟨k, r, L, x, y, hd, mo, ti, l, k', r', L', x', y', hd', mo', ti', l'⟩ hG => TF.intro (V := (VV [(4, conF [.agg [.any, .any, .sl .cell, .any, .any, .any, .any, .any, .sl .str]] sp_great), (5, conF [] sp_fixed), (6, conT [.agg [.any, .any, .sl .cell, .any, .any, .any, .any, .any, .sl .str]] sp_scopy), (7, conT [.agg [.any, .any, .sl .cell, .any, .any, .any, .any, .any, .sl .str], .agg [.any, .any, .sl .cell, .any, .any, .any, .any, .any, .sl .str]] sp_menc), (8, conT [.agg [.any, .any, .sl .cell, .any, .any, .any, .any, .any, .sl .str], .agg [.any, .any, .sl .cell, .any, .any, .any, .any, .any, .sl .str]] sp_r8enc), (9, conT [.agg [.any, .any, .sl .cell, .any, .any, .any, .any, .any, .sl .str]] sp_mfull), (10, conT [.agg [.any, .any, .sl .cell, .any, .any, .any, .any, .any, .sl .str]] sp_r8full), (11, conF [.sl (.int .u8), .sl (.int .u8)] sp_bsame), (12, conF [.agg [.any, .any, .sl .cell, .any, .any, .any, .any, .any, .sl .str], .agg [.any, .any, .sl .cell, .any, .any, .any, .any, .any, .sl .str]] sp_ssame)] (.cons (chkFn_callable k_l18_great) (Fresh.soundF fr_great) (.cons (chkFn_callable k_l18_fixed) (Fresh.soundF fr_fixed) (.cons (chkFn_callable k_r12_Copy) (Fresh.soundT fr_scopy) (.cons (chkFn_callable k_moves_Encode) (Fresh.soundT fr_menc) (.cons (chkFn_callable k_r18_Encode) (Fresh.soundT fr_r8enc) (.cons (chkFn_callable k_moves_Full) (Fresh.soundT fr_mfull) (.cons (chkFn_callable k_r18_Full) (Fresh.soundT fr_r8full) (.cons (chkFn_callable k_r01_Same) (Fresh.soundF fr_bsame) (.cons (chkFn_callable k_r12_Same) (Fresh.soundF fr_ssame) GOk.nil))))))))) 79 0)) k_l18_MovesEncodes rfl rfl (by
  dsimp only at hG ⊢
  obtain ⟨⟨hwf, ht, hsl, hmo⟩, hwf', ht', hsl', hmo'⟩ := hG
  have hel := fun (h1 : ScrOk L l) (h2 : ScrOk L' l') => Nat.le_trans (enc_len (k := k) (r := r) (x := x) (y := y) (hd := hd) (ti := ti) (k' := k') (r' := r') (x' := x') (y' := y') (hd' := hd') (ti' := ti') h1 hmo h2 hmo') (show 200000 ≤ 4611686018427387904 by decide)
  have hfl := fun (h2 : ScrOk L' l') => Nat.le_trans (full_len (k := k') (r := r') (x := x') (y := y') (hd := hd') (ti := ti') h2 hmo') (show 200000 ≤ 4611686018427387904 by decide)
  repeat' first | exact ⟨hwf, by omega, by omega, hsl⟩ | exact ⟨hwf', by omega, by omega, hsl'⟩ | exact hel ⟨hwf, by omega, by omega, hsl⟩ ⟨hwf', by omega, by omega, hsl'⟩ | exact hfl ⟨hwf', by omega, by omega, hsl'⟩ | simp only [SB, E, seval, rdB, ne_eq, implies_true, sp_great_at, sp_fixed_at, sp_scopy_at, sp_menc_at, sp_r8enc_at, sp_mfull_at, sp_r8full_at, sp_bsame_at, sp_ssame_at] | refine T.seq ?_ | refine T.stm ?_ | refine T.rg ?_ | refine wpR_o ?_ | refine wpR_g ?_ | refine wpR_e ?_ | refine T.cond ?_ | refine T.skip ?_ | refine T.ret ?_ | refine T.exit ?_ | refine T.block ?_ | refine Cos.intro [] [] rfl ?_ | refine And.intro ?_ ?_ | (intro hyp0; have hyp := hyp0; (try simp only [HB, ne_eq, reduceCtorEq] at hyp); (try simp only [hyp0]); (try clear hyp0); try (exfalso; omega; done)) | omega)
end
end Go.Proofs.YtcfkfgkndncanaaDoor
