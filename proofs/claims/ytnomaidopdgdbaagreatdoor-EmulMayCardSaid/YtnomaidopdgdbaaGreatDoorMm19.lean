/- Texts of this claim, merged by a program of this claim: FScr. -/
import Derived.Test.YtnomaidopdgdbaaGreatDoorMm10
import Derived.Test.YtnomaidopdgdbaaGreatDoorMm15
import Derived.Test.YtnomaidopdgdbaaGreatDoorMm16
import Derived.Test.YtnomaidopdgdbaaGreatDoorMm18
namespace Go.Proofs.YtnomaidopdgdbaaGreatDoor
set_option linter.unusedVariables false
set_option linter.unusedSimpArgs false
section
open Go.RowKit
set_option maxRecDepth 100000
set_option maxHeartbeats 4000000
structure ScrOk (L : List CD) (l : List ByteArray) : Prop where
  wf : ∀ c ∈ L, CWf c
  len : L.length ≤ 60000
  links : l.length ≤ 60000
  slen : ∀ s ∈ l, SLen s
theorem ScrOk.cw {L : List CD} {l : List ByteArray} (h : ScrOk L l) : CWs L := fun c hc => (h.wf c hc).rune
theorem ScrOk.lk {L : List CD} {l : List ByteArray} (h : ScrOk L l) : ∀ c ∈ L, 0 ≤ c.link ∧ c.link < 65536 := fun c hc => (h.wf c hc).link
theorem may_i32 {r : Int} (h : Utf.may r = true) : I32 r := by
  unfold Utf.may at h
  simp only [HB, ne_eq, reduceCtorEq] at h
  constructor <;> omega
theorem and_false9 {g lb t : Bool} {x k y r mo s : Int} (h : ((((((g = false ∨ lb = false) ∨ x < 0) ∨ k ≤ x) ∨ y < 0) ∨ r ≤ y) ∨ 2 < mo) ∨ 64 < s) : (g && lb && decide (0 ≤ x) && decide (x < k) && decide (0 ≤ y) && decide (y < r) && decide (mo ≤ 2) && decide (s ≤ 64) && t) = false := by
  rw [Bool.eq_false_iff]
  intro hr
  simp only [HB, ne_eq, reduceCtorEq] at hr
  rcases h with ((((((h|h)|h)|h)|h)|h)|h)|h <;> first | omega | (rw [h] at hr; simp at hr)
theorem nat64 (n : Nat) : decide (n ≤ 64) = decide ((n : Int) ≤ 64) := decide_eq_decide.2 (by omega)
noncomputable def sp_eright : Spec := spOf (α := Int × Int × (List CD) × Int × Int × Bool × Int × ByteArray × (List ByteArray)) (fun ⟨k, r, L, x, y, hd, mo, ti, l⟩ => [.agg [.int .i64 k, .int .i64 r, .vec .cell L, .int .i64 x, .int .i64 y, .bool hd, .int .u8 mo, .str ti, .vec .str l]]) fun ⟨k, r, L, x, y, hd, mo, ti, l⟩ => (ScrOk L l ∧ SLen ti, .ret (.bool (rightB k r L x y mo ti l)))
theorem sp_eright_at (k : Int) (r : Int) (L : List CD) (x : Int) (y : Int) (hd : Bool) (mo : Int) (ti : ByteArray) (l : List ByteArray) : sp_eright [.agg [.int .i64 k, .int .i64 r, .vec .cell L, .int .i64 x, .int .i64 y, .bool hd, .int .u8 mo, .str ti, .vec .str l]] = some (ScrOk L l ∧ SLen ti, .ret (.bool (rightB k r L x y mo ti l))) := spOf_at (α := Int × Int × (List CD) × Int × Int × Bool × Int × ByteArray × (List ByteArray)) _ (fun ⟨k, r, L, x, y, hd, mo, ti, l⟩ ⟨k', r', L', x', y', hd', mo', ti', l'⟩ h => by first | simpa [CP] using h | (simp [CP] at h ⊢; grind)) (k, r, L, x, y, hd, mo, ti, l)
theorem al_eright : Alias Tryz.prog E0 19 sp_eright := Alias.of fun ⟨k, r, L, x, y, hd, mo, ti, l⟩ hG => TF.intro (V := (VV [(51, conF [.agg [.any, .any, .sl .cell]] sp_gmay), (52, conF [.sl .cell, .sl .str] sp_lright), (53, conF [.sl (.int .u8)] sp_valid), (54, conF [.any] sp_width)] (.cons (chkFn_callable k_grid_May) (Fresh.soundF fr_gmay) (.cons (chkFn_callable k_links_Right) (Fresh.soundF fr_lright) (.cons (chkFn_callable k_utf_Valid) (Fresh.soundF fr_valid) (.cons (chkFn_callable k_utf_Width) (Fresh.soundF fr_width) GOk.nil)))) 73 0)) k_emul_Right rfl rfl (by
  dsimp only at hG ⊢
  obtain ⟨hs, ht⟩ := hG
  have hl := hs.len
  have hl2 := hs.links
  have hw : List.take ti.size (strInts ti) = strInts ti := List.take_of_length_le (by rw [ints_len]; exact Nat.le_refl _)
  have hln : (strInts ti).length = ti.size := ints_len ti
  repeat' first | exact hs.cw | exact hs.lk | exact hs.slen | exact ints_byte ti | simp only [SB, E, seval, rdB, ne_eq, implies_true, sp_gmay_at, sp_lright_at, sp_valid_at, sp_width_at] | simp only [hw] | simp only [hw2] | simp only [hw3] | refine T.seq ?_ | refine T.stm ?_ | refine T.rg ?_ | refine wpR_o ?_ | refine wpR_g ?_ | refine wpR_e ?_ | refine T.cond ?_ | refine T.skip ?_ | refine T.ret ?_ | refine T.exit ?_ | refine T.block ?_ | refine Cos.intro [] [] rfl ?_ | refine And.intro ?_ ?_ | (intro hyp0; have hyp := hyp0; (try simp only [HB, ne_eq, reduceCtorEq] at hyp); (try simp only [hyp0]); (try clear hyp0); try (exfalso; omega; done)) | omega
  · have q := hyp
    simp only [rightB, titleB, q, Bool.false_and, Bool.and_false]
  rename_i hq
  have hrb : rightB k r L x y mo ti l = titleB ti := by
    obtain ⟨⟨⟨⟨⟨⟨⟨q1, q2⟩, q3⟩, q4⟩, q5⟩, q6⟩, q7⟩, q8⟩ := hq
    rw [Bool.eq_iff_iff]
    simp only [rightB, HB, ne_eq, reduceCtorEq]
    exact ⟨fun h => h.2, fun h => ⟨⟨⟨⟨⟨⟨⟨⟨q1, q2⟩, by omega⟩, by omega⟩, by omega⟩, by omega⟩, by omega⟩, by omega⟩, h⟩⟩
  have hvb := hyp
  obtain ⟨rs, hrs, hti, hmay⟩ := title_runes ti hvb
  have htb : titleB ti = (List.range rs.length).all (fun i => Utf.width (rs.getD i 0) != 0) := by rw [hrs]; simp only [titleB, hvb, Bool.true_and]
  rw [hrb, htb]
  refine T.loop (fun j : Nat => ⟨[(66, .ptr 0 0 0)], [.iter ti ((rs.take j).flatMap Utf.enc).length]⟩) (fun j => j ≤ rs.length ∧ ∀ i, i < j → (Utf.width (rs.getD i 0) != 0) = true) (fun j => rs.length - j) 0 ⟨by omega, fun i hi => by omega⟩ (Cos.intro [2] [] rfl (by simp only [SB, E, seval, rdB, ne_eq, implies_true, sp_gmay_at, sp_lright_at, sp_valid_at, sp_width_at]; simp)) (fun j ⟨hj, hall⟩ => ?_)
  by_cases hjl : j < rs.length
  · obtain ⟨d1, d2, d3⟩ := decode_rune ti rs hti hmay (getD_at (d := 0) hjl)
    have hw : (((rs.take j).flatMap Utf.enc).length < ti.size) = True := eq_true d1
    have hw2 := d3
    have hw3 : ((rs.take j).flatMap Utf.enc).length + (Utf8.decode ti ((rs.take j).flatMap Utf.enc).length).2 = ((rs.take (j + 1)).flatMap Utf.enc).length := by omega
    have hi32 := may_i32 (hmay _ (List.mem_of_getElem? (getD_at (d := 0) hjl)))
    repeat' first | exact hi32 | simp only [SB, E, seval, rdB, ne_eq, implies_true, sp_gmay_at, sp_lright_at, sp_valid_at, sp_width_at] | simp only [hw] | simp only [hw2] | simp only [hw3] | refine T.seq ?_ | refine T.stm ?_ | refine T.rg ?_ | refine wpR_o ?_ | refine wpR_g ?_ | refine wpR_e ?_ | refine T.cond ?_ | refine T.skip ?_ | refine T.ret ?_ | refine T.exit ?_ | refine T.block ?_ | refine Cos.intro [] [] rfl ?_ | refine And.intro ?_ ?_ | (intro hyp0; have hyp := hyp0; (try simp only [HB, ne_eq, reduceCtorEq] at hyp); (try simp only [hyp0]); (try clear hyp0); try (exfalso; omega; done)) | omega
    · exact (range_false hjl (by simpa using hyp)).symm
    · exact ⟨j + 1, ⟨by omega, row_yes (f := fun i => Utf.width (rs.getD i 0) != 0) (by simpa using hyp) hall⟩, by omega, Cos.intro [0] [] rfl (by (simp only [SB, E, seval, rdB, ne_eq, implies_true, sp_gmay_at, sp_lright_at, sp_valid_at, sp_width_at]; first | done | ((repeat' apply And.intro) <;> first | rfl | omega | (simp; done) | (simp; omega))))⟩
  · have hw : (((rs.take j).flatMap Utf.enc).length < ti.size) = False := eq_false (by
      rw [List.take_of_length_le (by omega), ← hti, hln]
      omega)
    repeat' first | simp only [SB, E, seval, rdB, ne_eq, implies_true, sp_gmay_at, sp_lright_at, sp_valid_at, sp_width_at] | simp only [hw] | simp only [hw2] | simp only [hw3] | refine T.seq ?_ | refine T.stm ?_ | refine T.rg ?_ | refine wpR_o ?_ | refine wpR_g ?_ | refine wpR_e ?_ | refine T.cond ?_ | refine T.skip ?_ | refine T.ret ?_ | refine T.exit ?_ | refine T.block ?_ | refine Cos.intro [] [] rfl ?_ | refine And.intro ?_ ?_ | (intro hyp0; have hyp := hyp0; (try simp only [HB, ne_eq, reduceCtorEq] at hyp); (try simp only [hyp0]); (try clear hyp0); try (exfalso; omega; done)) | omega
    exact (range_yes (by omega) hall).symm
  · unfold rightB
    rw [nat64]
    exact (and_false9 hyp).symm)
theorem fr_eright : Fresh Tryz.prog E0 19 sp_eright := Alias.fresh al_eright (fun x => rfl)
noncomputable def sp_r7runesT : Spec := spOf (α := (List Int)) (fun b => [.vec (.int .u8) b]) fun b => ((∀ a ∈ b, Utf.Byte a) ∧ b.length ≤ 100000000, .ret (.vec (.int .i32) (Utf.rrunes b)))
theorem sp_r7runesT_at (b : List Int) : sp_r7runesT [.vec (.int .u8) b] = some ((∀ a ∈ b, Utf.Byte a) ∧ b.length ≤ 100000000, .ret (.vec (.int .i32) (Utf.rrunes b))) := spOf_at (α := (List Int)) _ (fun b b' h => by first | simpa [CP] using h | (simp [CP] at h ⊢; grind)) b
theorem fr_r7runesT : Fresh Tryz.prog E0 58 sp_r7runesT := Fresh.of fun b hG => TF.intro (V := (VV [(113, conA [.agg [.sl (.int .u8)], .any] sp_r7feed), (114, conA [.agg [.sl (.int .u8)]] sp_r7end)] (.cons (chkFn_callable k_r07_Decoder_Feed) (Alias.soundA al_r7feed) (.cons (chkFn_callable k_r07_Decoder_End) (Alias.soundA al_r7end) GOk.nil)) 32 0)) k_r07_Runes rfl rfl (by
  dsimp only at hG ⊢
  obtain ⟨hb, hl⟩ := hG
  repeat' first | simp only [SB, E, seval, rdB, ne_eq, implies_true, sp_r7feed_at, sp_r7end_at] | refine T.seq ?_ | refine T.stm ?_ | refine T.rg ?_ | refine wpR_o ?_ | refine wpR_g ?_ | refine wpR_e ?_ | refine T.cond ?_ | refine T.skip ?_ | refine T.ret ?_ | refine T.exit ?_ | refine T.block ?_ | refine And.intro ?_ ?_ | (intro hyp0; have hyp := hyp0; (try simp only [HB, ne_eq, reduceCtorEq] at hyp); (try simp only [hyp0]); (try clear hyp0); try (exfalso; omega; done)) | omega
  refine T.loop (fun k : Nat => ⟨[(0, .vec (.int .u8) b), (3, .slice 0 0 1 (Utf.rtold [] (b.take k)).length (Utf.rtold [] (b.take k)).length), (4, .ptr 1 0 0), (10, .int .i64 b.length), (11, .int .i64 k)], [.seq (.int .i32) (Utf.rtold [] (b.take k)), .box [.vec (.int .u8) (Utf.rafter [] (b.take k))]]⟩) (fun k => k ≤ b.length) (fun k => b.length - k) 0 (by omega) (Cos.intro [0, 1] [] rfl (by simp only [SB, E, seval, rdB, ne_eq, implies_true, sp_r7feed_at, sp_r7end_at, Utf.rtold, Utf.rafter])) (fun k hk => ?_)
  have h1 := rafter_open (l := b.take k) (fun a ha => hb a (List.mem_of_mem_take ha))
  have h2 := byte_at hb k
  have h3 := rtold_len (b.take k) []
  have h4 := rfeed_len (Utf.rafter [] (b.take k)) (b.getD k 0)
  have h5 := rendT_len (Utf.rafter [] (b.take k))
  have h6 : (b.take k).length ≤ k := by simp; omega
  repeat' first | simp only [SB, E, seval, rdB, ne_eq, implies_true, sp_r7feed_at, sp_r7end_at] | refine T.seq ?_ | refine T.stm ?_ | refine T.rg ?_ | refine wpR_o ?_ | refine wpR_g ?_ | refine wpR_e ?_ | refine T.cond ?_ | refine T.skip ?_ | refine T.ret ?_ | refine T.exit ?_ | refine T.block ?_ | refine And.intro ?_ ?_ | (intro hyp0; have hyp := hyp0; (try simp only [HB, ne_eq, reduceCtorEq] at hyp); (try simp only [hyp0]); (try clear hyp0); try (exfalso; omega; done)) | omega
  · exact (h1.2 _ hyp).1
  · exact (h1.2 _ hyp).2
  · refine ⟨k + 1, by omega, by omega, Cos.intro [3, 1] [] rfl ?_⟩
    have e : b.take (k + 1) = b.take k ++ [b.getD k 0] := take_snoc (by omega)
    simp only [SB, E, seval, rdB, ne_eq, implies_true, sp_r7feed_at, sp_r7end_at, e, rtold_snoc, rafter_snoc]
    simp
  · have e : b.take k = b := List.take_of_length_le (by omega)
    rw [e]
    exact Cos.intro [2] [] rfl (by simp only [Utf.rrunes]; (simp only [SB, E, seval, rdB, ne_eq, implies_true, sp_r7feed_at, sp_r7end_at]; first | done | ((repeat' apply And.intro) <;> first | rfl | omega | (simp; done) | (simp; omega)))))
theorem flat_enc_len : ∀ rs : List Int, rs.length ≤ (rs.flatMap Utf.enc).length
  | [] => by simp
  | a :: rs => by
    have h1 := flat_enc_len rs
    have h2 := List.length_pos_iff.2 (Utf.enc_ne a)
    simp only [List.flatMap_cons, List.length_append, List.length_cons]
    omega
theorem rights_eq {k r : Int} {L : List CD} {x y mo : Int} {ti : ByteArray} {l : List ByteArray} (hs : ScrOk L l) : rightB k r L x y mo ti l = (gridB k r L && rlinksB L l && decide (0 ≤ x) && decide (x < k) && decide (0 ≤ y) && decide (y < r) && decide (mo ≤ 2) && decide (ti.size ≤ 64) && titleB ti) := by
  unfold rightB
  rw [links_eq L l fun q hq => (hs.lk q hq).1]
noncomputable def sp_r12right : Spec := spOf (α := Int × Int × (List CD) × Int × Int × Bool × Int × ByteArray × (List ByteArray)) (fun ⟨k, r, L, x, y, hd, mo, ti, l⟩ => [.agg [.int .i64 k, .int .i64 r, .vec .cell L, .int .i64 x, .int .i64 y, .bool hd, .int .u8 mo, .str ti, .vec .str l]]) fun ⟨k, r, L, x, y, hd, mo, ti, l⟩ => (ScrOk L l ∧ SLen ti, .ret (.bool (rightB k r L x y mo ti l)))
theorem sp_r12right_at (k : Int) (r : Int) (L : List CD) (x : Int) (y : Int) (hd : Bool) (mo : Int) (ti : ByteArray) (l : List ByteArray) : sp_r12right [.agg [.int .i64 k, .int .i64 r, .vec .cell L, .int .i64 x, .int .i64 y, .bool hd, .int .u8 mo, .str ti, .vec .str l]] = some (ScrOk L l ∧ SLen ti, .ret (.bool (rightB k r L x y mo ti l))) := spOf_at (α := Int × Int × (List CD) × Int × Int × Bool × Int × ByteArray × (List ByteArray)) _ (fun ⟨k, r, L, x, y, hd, mo, ti, l⟩ ⟨k', r', L', x', y', hd', mo', ti', l'⟩ h => by first | simpa [CP] using h | (simp [CP] at h ⊢; grind)) (k, r, L, x, y, hd, mo, ti, l)
theorem al_r12right : Alias Tryz.prog E0 20 sp_r12right := Alias.of fun ⟨k, r, L, x, y, hd, mo, ti, l⟩ hG => TF.intro (V := (VV [(55, conA [.agg [.any, .any, .sl .cell]] sp_rows), (56, conF [.sl .cell, .sl .str] sp_rlright), (57, conF [.sl (.int .u8)] sp_r7valid), (22, conF [.any] sp_r7width), (58, conF [.sl (.int .u8)] sp_r7runesT)] (.cons (chkFn_callable k_r09_Rows) (Alias.soundA al_rows) (.cons (chkFn_callable k_r10_Right) (Fresh.soundF fr_rlright) (.cons (chkFn_callable k_r07_Valid) (Fresh.soundF fr_r7valid) (.cons (chkFn_callable k_r07_Width) (Fresh.soundF fr_r7width) (.cons (chkFn_callable k_r07_Runes) (Fresh.soundF fr_r7runesT) GOk.nil))))) 84 0)) k_r12_Right rfl rfl (by
  dsimp only at hG ⊢
  obtain ⟨hs, ht⟩ := hG
  have hl := hs.len
  have hl2 := hs.links
  have hw : List.take ti.size (strInts ti) = strInts ti := List.take_of_length_le (by rw [ints_len]; exact Nat.le_refl _)
  have hln : (strInts ti).length = ti.size := ints_len ti
  rw [rights_eq hs]
  repeat' first | exact hs.cw | exact hs.lk | exact hs.slen | exact ints_byte ti | simp only [SB, E, seval, rdB, ne_eq, implies_true, sp_rows_at, sp_rlright_at, sp_r7valid_at, sp_r7width_at, sp_r7runesT_at] | simp only [hw] | refine T.seq ?_ | refine T.stm ?_ | refine T.rg ?_ | refine wpR_o ?_ | refine wpR_g ?_ | refine wpR_e ?_ | refine T.cond ?_ | refine T.skip ?_ | refine T.ret ?_ | refine T.exit ?_ | refine T.block ?_ | refine Cos.intro [] [] rfl ?_ | refine And.intro ?_ ?_ | (intro hyp0; have hyp := hyp0; (try simp only [HB, ne_eq, reduceCtorEq] at hyp); (try simp only [hyp0]); (try clear hyp0); try (exfalso; omega; done)) | omega
  · rw [hyp]
    simp only [Bool.false_and]
  · rw [titleB, hyp, Bool.false_and, Bool.and_false]
  · rename_i hq
    have hvb := hyp
    obtain ⟨rs, hrs, hti, hmay⟩ := title_runes ti hvb
    have hrr : Utf.rrunes (strInts ti) = rs := by rw [← Utf.runes_eq _ (ints_byte ti), hrs]
    have htb : titleB ti = (List.range rs.length).all (fun i => Utf.width (rs.getD i 0) != 0) := by rw [hrs]; simp only [titleB, hvb, Bool.true_and]
    have hrb : rightB k r L x y mo ti l = titleB ti := by
      rw [rights_eq hs, Bool.eq_iff_iff]
      simp only [HB, ne_eq, reduceCtorEq]
      obtain ⟨⟨⟨⟨⟨⟨q2, q3⟩, q4⟩, q5⟩, q6⟩, q7⟩, q8⟩ := hq
      exact ⟨fun h => h.2, fun h => ⟨⟨⟨⟨⟨⟨⟨⟨by assumption, q2⟩, by omega⟩, by omega⟩, by omega⟩, by omega⟩, by omega⟩, by omega⟩, h⟩⟩
    rw [← rights_eq hs, hrb, htb, hrr]
    have hrl : rs.length ≤ ti.size := by
      have := flat_enc_len rs
      rw [← hti, hln] at this
      exact this
    refine T.loop (fun j : Nat => ⟨[(5, .vec (.int .i32) rs), (73, .int .i64 rs.length), (74, .int .i64 j)], []⟩) (fun j => j ≤ rs.length ∧ ∀ i, i < j → (Utf.width (rs.getD i 0) != 0) = true) (fun j => rs.length - j) 0 ⟨by omega, fun i hi => by omega⟩ (Cos.intro [] [] rfl (by (simp only [SB, E, seval, rdB, ne_eq, implies_true, sp_rows_at, sp_rlright_at, sp_r7valid_at, sp_r7width_at, sp_r7runesT_at]); first | done | (repeat' apply And.intro) <;> first | rfl | omega | simp)) (fun j ⟨hj, hall⟩ => ?_)
    by_cases hjl : j < rs.length
    · have hi32 := may_i32 (hmay _ (List.mem_of_getElem? (getD_at (d := 0) hjl)))
      repeat' first | exact hi32 | simp only [SB, E, seval, rdB, ne_eq, implies_true, sp_rows_at, sp_rlright_at, sp_r7valid_at, sp_r7width_at, sp_r7runesT_at] | simp only [hw] | refine T.seq ?_ | refine T.stm ?_ | refine T.rg ?_ | refine wpR_o ?_ | refine wpR_g ?_ | refine wpR_e ?_ | refine T.cond ?_ | refine T.skip ?_ | refine T.ret ?_ | refine T.exit ?_ | refine T.block ?_ | refine Cos.intro [] [] rfl ?_ | refine And.intro ?_ ?_ | (intro hyp0; have hyp := hyp0; (try simp only [HB, ne_eq, reduceCtorEq] at hyp); (try simp only [hyp0]); (try clear hyp0); try (exfalso; omega; done)) | omega
      · exact (range_false hjl (by simpa using hyp)).symm
      · exact ⟨j + 1, ⟨by omega, row_yes (f := fun i => Utf.width (rs.getD i 0) != 0) (by simpa using hyp) hall⟩, by omega, Cos.intro [] [] rfl (by (simp only [SB, E, seval, rdB, ne_eq, implies_true, sp_rows_at, sp_rlright_at, sp_r7valid_at, sp_r7width_at, sp_r7runesT_at]; first | done | ((repeat' apply And.intro) <;> first | rfl | omega | (simp; done) | (simp; omega))))⟩
    · repeat' first | simp only [SB, E, seval, rdB, ne_eq, implies_true, sp_rows_at, sp_rlright_at, sp_r7valid_at, sp_r7width_at, sp_r7runesT_at] | simp only [hw] | refine T.seq ?_ | refine T.stm ?_ | refine T.rg ?_ | refine wpR_o ?_ | refine wpR_g ?_ | refine wpR_e ?_ | refine T.cond ?_ | refine T.skip ?_ | refine T.ret ?_ | refine T.exit ?_ | refine T.block ?_ | refine Cos.intro [] [] rfl ?_ | refine And.intro ?_ ?_ | (intro hyp0; have hyp := hyp0; (try simp only [HB, ne_eq, reduceCtorEq] at hyp); (try simp only [hyp0]); (try clear hyp0); try (exfalso; omega; done)) | omega
      exact (range_yes (by omega) hall).symm
  · rw [nat64]
    exact (and_false9 (by simp_all)).symm)
theorem fr_r12right : Fresh Tryz.prog E0 20 sp_r12right := Alias.fresh al_r12right (fun x => rfl)
noncomputable def sp_scopy : Spec := spOf (α := Int × Int × (List CD) × Int × Int × Bool × Int × ByteArray × (List ByteArray)) (fun ⟨k, r, L, x, y, hd, mo, ti, l⟩ => [.agg [.int .i64 k, .int .i64 r, .vec .cell L, .int .i64 x, .int .i64 y, .bool hd, .int .u8 mo, .str ti, .vec .str l]]) fun ⟨k, r, L, x, y, hd, mo, ti, l⟩ => (L.length ≤ 1000000 ∧ l.length ≤ 1000000, .ret (.agg [.int .i64 k, .int .i64 r, .vec .cell L, .int .i64 x, .int .i64 y, .bool hd, .int .u8 mo, .str ti, .vec .str l]))
theorem sp_scopy_at (k : Int) (r : Int) (L : List CD) (x : Int) (y : Int) (hd : Bool) (mo : Int) (ti : ByteArray) (l : List ByteArray) : sp_scopy [.agg [.int .i64 k, .int .i64 r, .vec .cell L, .int .i64 x, .int .i64 y, .bool hd, .int .u8 mo, .str ti, .vec .str l]] = some (L.length ≤ 1000000 ∧ l.length ≤ 1000000, .ret (.agg [.int .i64 k, .int .i64 r, .vec .cell L, .int .i64 x, .int .i64 y, .bool hd, .int .u8 mo, .str ti, .vec .str l])) := spOf_at (α := Int × Int × (List CD) × Int × Int × Bool × Int × ByteArray × (List ByteArray)) _ (fun ⟨k, r, L, x, y, hd, mo, ti, l⟩ ⟨k', r', L', x', y', hd', mo', ti', l'⟩ h => by first | simpa [CP] using h | (simp [CP] at h ⊢; grind)) (k, r, L, x, y, hd, mo, ti, l)
theorem fr_scopy : Fresh Tryz.prog E0 18 sp_scopy := Fresh.of fun ⟨k, r, L, x, y, hd, mo, ti, l⟩ hG => TF.intro (V := (VV [] GOk.nil 14 0)) k_r12_Copy rfl rfl (by
  dsimp only at hG ⊢
  repeat' first | simp only [SB, E, seval, rdB, ne_eq, implies_true] | refine T.seq ?_ | refine T.stm ?_ | refine T.rg ?_ | refine wpR_o ?_ | refine wpR_g ?_ | refine wpR_e ?_ | refine T.cond ?_ | refine T.skip ?_ | refine T.ret ?_ | refine T.exit ?_ | refine T.block ?_ | refine And.intro ?_ ?_ | (intro hyp0; have hyp := hyp0; (try simp only [HB, ne_eq, reduceCtorEq] at hyp); (try simp only [hyp0]); (try clear hyp0); try (exfalso; omega; done)) | omega
  exact Cos.intro [3, 5] [] rfl (by (simp only [SB, E, seval, rdB, ne_eq, implies_true]; first | done | ((repeat' apply And.intro) <;> first | rfl | omega | (simp; done) | (simp; omega)))))
noncomputable def sp_ssame : Spec := spOf (α := Int × Int × (List CD) × Int × Int × Bool × Int × ByteArray × (List ByteArray) × Int × Int × (List CD) × Int × Int × Bool × Int × ByteArray × (List ByteArray)) (fun ⟨k, r, L, x, y, hd, mo, ti, l, k', r', L', x', y', hd', mo', ti', l'⟩ => [.agg [.int .i64 k, .int .i64 r, .vec .cell L, .int .i64 x, .int .i64 y, .bool hd, .int .u8 mo, .str ti, .vec .str l], .agg [.int .i64 k', .int .i64 r', .vec .cell L', .int .i64 x', .int .i64 y', .bool hd', .int .u8 mo', .str ti', .vec .str l']]) fun ⟨k, r, L, x, y, hd, mo, ti, l, k', r', L', x', y', hd', mo', ti', l'⟩ => ((L.length ≤ 60000 ∧ l.length ≤ 60000) ∧ (L'.length ≤ 60000 ∧ l'.length ≤ 60000), .ret (.bool (decide (k = k' ∧ r = r' ∧ L = L' ∧ x = x' ∧ y = y' ∧ hd = hd' ∧ mo = mo' ∧ ti = ti' ∧ l = l'))))
theorem sp_ssame_at (k : Int) (r : Int) (L : List CD) (x : Int) (y : Int) (hd : Bool) (mo : Int) (ti : ByteArray) (l : List ByteArray) (k' : Int) (r' : Int) (L' : List CD) (x' : Int) (y' : Int) (hd' : Bool) (mo' : Int) (ti' : ByteArray) (l' : List ByteArray) : sp_ssame [.agg [.int .i64 k, .int .i64 r, .vec .cell L, .int .i64 x, .int .i64 y, .bool hd, .int .u8 mo, .str ti, .vec .str l], .agg [.int .i64 k', .int .i64 r', .vec .cell L', .int .i64 x', .int .i64 y', .bool hd', .int .u8 mo', .str ti', .vec .str l']] = some ((L.length ≤ 60000 ∧ l.length ≤ 60000) ∧ (L'.length ≤ 60000 ∧ l'.length ≤ 60000), .ret (.bool (decide (k = k' ∧ r = r' ∧ L = L' ∧ x = x' ∧ y = y' ∧ hd = hd' ∧ mo = mo' ∧ ti = ti' ∧ l = l')))) := spOf_at (α := Int × Int × (List CD) × Int × Int × Bool × Int × ByteArray × (List ByteArray) × Int × Int × (List CD) × Int × Int × Bool × Int × ByteArray × (List ByteArray)) _ (fun ⟨k, r, L, x, y, hd, mo, ti, l, k', r', L', x', y', hd', mo', ti', l'⟩ ⟨k', r', L', x', y', hd', mo', ti', l', k'', r'', L'', x'', y'', hd'', mo'', ti'', l''⟩ h => by first | simpa [CP] using h | (simp [CP] at h ⊢; grind)) (k, r, L, x, y, hd, mo, ti, l, k', r', L', x', y', hd', mo', ti', l')
theorem al_ssame : Alias Tryz.prog E0 15 sp_ssame := Alias.of fun ⟨k, r, L, x, y, hd, mo, ti, l, k', r', L', x', y', hd', mo', ti', l'⟩ hG => TF.intro (V := (VV [(47, conF [.sl .str, .sl .str] sp_rssame), (48, conF [.agg [.any, .any, .sl .cell], .agg [.any, .any, .sl .cell]] sp_rsameg)] (.cons (chkFn_callable k_r10_Same) (Fresh.soundF fr_rssame) (.cons (chkFn_callable k_r09_Same) (Fresh.soundF fr_rsameg) GOk.nil)) 68 0)) k_r12_Same rfl rfl (by
  dsimp only at hG ⊢
  repeat' first | simp only [SB, E, seval, rdB, ne_eq, implies_true, sp_rssame_at, sp_rsameg_at] | refine T.seq ?_ | refine T.stm ?_ | refine T.rg ?_ | refine wpR_o ?_ | refine wpR_g ?_ | refine wpR_e ?_ | refine T.cond ?_ | refine T.skip ?_ | refine T.ret ?_ | refine T.exit ?_ | refine T.block ?_ | refine Cos.intro [] [] rfl ?_ | refine And.intro ?_ ?_ | (intro hyp0; have hyp := hyp0; (try simp only [HB, ne_eq, reduceCtorEq] at hyp); (try simp only [hyp0]); (try clear hyp0); try (exfalso; omega; done)) | omega
  rw [Bool.eq_iff_iff]
  simp only [HB, ne_eq, reduceCtorEq]
  grind)
theorem fr_ssame : Fresh Tryz.prog E0 15 sp_ssame := Alias.fresh al_ssame (fun x => rfl)
end
end Go.Proofs.YtnomaidopdgdbaaGreatDoor
