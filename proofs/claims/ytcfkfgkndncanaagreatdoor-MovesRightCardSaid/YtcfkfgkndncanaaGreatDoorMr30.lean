/- Texts of this claim, merged by a program of this claim: FScr. -/
import Derived.Test.YtcfkfgkndncanaaGreatDoorMr17
import Derived.Test.YtcfkfgkndncanaaGreatDoorMr26
import Derived.Test.YtcfkfgkndncanaaGreatDoorMr27
import Derived.Test.YtcfkfgkndncanaaGreatDoorMr29
namespace Go.Proofs.YtcfkfgkndncanaaGreatDoor
set_option linter.unusedVariables false
set_option linter.unusedSimpArgs false
section
open Go.RowKit
set_option maxRecDepth 100000
set_option maxHeartbeats 4000000
structure ScrOk (L : List CD) (l : List ByteArray) : Prop where
  wf : ∀ c ∈ L, CWf c
  len : L.length ≤ 60000
  links : l.length ≤ 60000
  slen : ∀ s ∈ l, SLen s
theorem ScrOk.cw {L : List CD} {l : List ByteArray} (h : ScrOk L l) : CWs L := fun c hc => (h.wf c hc).rune
theorem ScrOk.lk {L : List CD} {l : List ByteArray} (h : ScrOk L l) : ∀ c ∈ L, 0 ≤ c.link ∧ c.link < 65536 := fun c hc => (h.wf c hc).link
theorem jmN {r : Int} (h : Utf.may r = true) : I32 r := by
  unfold Utf.may at h
  simp only [HB, ne_eq, reduceCtorEq] at h
  constructor <;> omega
theorem jhj {g lb t : Bool} {x k y r mo s : Int} (h : ((((((g = false ∨ lb = false) ∨ x < 0) ∨ k ≤ x) ∨ y < 0) ∨ r ≤ y) ∨ 2 < mo) ∨ 64 < s) : (g && lb && decide (0 ≤ x) && decide (x < k) && decide (0 ≤ y) && decide (y < r) && decide (mo ≤ 2) && decide (s ≤ 64) && t) = false := by
  rw [Bool.eq_false_iff]
  intro hr
  simp only [HB, ne_eq, reduceCtorEq] at hr
  rcases h with ((((((h|h)|h)|h)|h)|h)|h)|h <;> first | omega | (rw [h] at hr; simp at hr)
theorem jqJ (n : Nat) : decide (n ≤ 64) = decide ((n : Int) ≤ 64) := decide_eq_decide.2 (by omega)
noncomputable def sp_eright : Spec := spOf (α := Int × Int × (List CD) × Int × Int × Bool × Int × ByteArray × (List ByteArray)) (fun ⟨k, r, L, x, y, hd, mo, ti, l⟩ => [.agg [.int .i64 k, .int .i64 r, .vec .cell L, .int .i64 x, .int .i64 y, .bool hd, .int .u8 mo, .str ti, .vec .str l]]) fun ⟨k, r, L, x, y, hd, mo, ti, l⟩ => (ScrOk L l ∧ SLen ti, .ret (.bool (jbl k r L x y mo ti l)))
theorem jaU (k : Int) (r : Int) (L : List CD) (x : Int) (y : Int) (hd : Bool) (mo : Int) (ti : ByteArray) (l : List ByteArray) : sp_eright [.agg [.int .i64 k, .int .i64 r, .vec .cell L, .int .i64 x, .int .i64 y, .bool hd, .int .u8 mo, .str ti, .vec .str l]] = some (ScrOk L l ∧ SLen ti, .ret (.bool (jbl k r L x y mo ti l))) := jav (α := Int × Int × (List CD) × Int × Int × Bool × Int × ByteArray × (List ByteArray)) _ (fun ⟨k, r, L, x, y, hd, mo, ti, l⟩ ⟨k', r', L', x', y', hd', mo', ti', l'⟩ h => by first | simpa [CP] using h | (simp [CP] at h ⊢; grind)) (k, r, L, x, y, hd, mo, ti, l)
theorem jmO : Alias Tryz.prog E0 22 sp_eright := Alias.of fun ⟨k, r, L, x, y, hd, mo, ti, l⟩ hG => TF.intro (V := (VV [(56, conF [.agg [.any, .any, .sl .cell]] sp_gmay), (57, conF [.sl .cell, .sl .str] sp_lright), (58, conF [.sl (.int .u8)] sp_valid), (59, conF [.any] sp_width)] (.cons (chkFn_callable k_grid_May) (Fresh.soundF jmm) (.cons (chkFn_callable k_links_Right) (Fresh.soundF jmK) (.cons (chkFn_callable k_utf_Valid) (Fresh.soundF jn1) (.cons (chkFn_callable k_utf_Width) (Fresh.soundF jhR) GOk.nil)))) 73 0)) k_emul_Right rfl rfl (by
  dsimp only at hG ⊢
  obtain ⟨hs, ht⟩ := hG
  have hl := hs.len
  have hl2 := hs.links
  have hw : List.take ti.size (jao ti) = jao ti := List.take_of_length_le (by rw [jd2]; exact Nat.le_refl _)
  have hln : (jao ti).length = ti.size := jd2 ti
  repeat' first | exact hs.cw | exact hs.lk | exact hs.slen | exact jdT ti | simp only [SB, E, seval, rdB, ne_eq, implies_true, jcz, jcj, jcH, jaw] | simp only [hw] | simp only [hw2] | simp only [hw3] | refine T.seq ?_ | refine T.stm ?_ | refine T.rg ?_ | refine jac ?_ | refine jad ?_ | refine jae ?_ | refine T.cond ?_ | refine T.skip ?_ | refine T.ret ?_ | refine T.exit ?_ | refine T.block ?_ | refine Cos.intro [] [] rfl ?_ | refine And.intro ?_ ?_ | (intro hyp0; have hyp := hyp0; (try simp only [HB, ne_eq, reduceCtorEq] at hyp); (try simp only [hyp0]); (try clear hyp0); try (exfalso; omega; done)) | omega
  · have q := hyp
    simp only [jbl, jee, q, Bool.false_and, Bool.and_false]
  rename_i hq
  have hrb : jbl k r L x y mo ti l = jee ti := by
    obtain ⟨⟨⟨⟨⟨⟨⟨q1, q2⟩, q3⟩, q4⟩, q5⟩, q6⟩, q7⟩, q8⟩ := hq
    rw [Bool.eq_iff_iff]
    simp only [jbl, HB, ne_eq, reduceCtorEq]
    exact ⟨fun h => h.2, fun h => ⟨⟨⟨⟨⟨⟨⟨⟨q1, q2⟩, by omega⟩, by omega⟩, by omega⟩, by omega⟩, by omega⟩, by omega⟩, h⟩⟩
  have hvb := hyp
  obtain ⟨rs, hrs, hti, hmay⟩ := jgn ti hvb
  have htb : jee ti = (List.range rs.length).all (fun i => Utf.width (rs.getD i 0) != 0) := by rw [hrs]; simp only [jee, hvb, Bool.true_and]
  rw [hrb, htb]
  refine T.loop (fun j : Nat => ⟨[(66, .ptr 0 0 0)], [.iter ti ((rs.take j).flatMap Utf.enc).length]⟩) (fun j => j ≤ rs.length ∧ ∀ i, i < j → (Utf.width (rs.getD i 0) != 0) = true) (fun j => rs.length - j) 0 ⟨by omega, fun i hi => by omega⟩ (Cos.intro [2] [] rfl (by simp only [SB, E, seval, rdB, ne_eq, implies_true, jcz, jcj, jcH, jaw]; simp)) (fun j ⟨hj, hall⟩ => ?_)
  by_cases hjl : j < rs.length
  · obtain ⟨d1, d2, d3⟩ := jjf ti rs hti hmay (jb6 (d := 0) hjl)
    have hw : (((rs.take j).flatMap Utf.enc).length < ti.size) = True := eq_true d1
    have hw2 := d3
    have hw3 : ((rs.take j).flatMap Utf.enc).length + (Utf8.decode ti ((rs.take j).flatMap Utf.enc).length).2 = ((rs.take (j + 1)).flatMap Utf.enc).length := by omega
    have hi32 := jmN (hmay _ (List.mem_of_getElem? (jb6 (d := 0) hjl)))
    repeat' first | exact hi32 | simp only [SB, E, seval, rdB, ne_eq, implies_true, jcz, jcj, jcH, jaw] | simp only [hw] | simp only [hw2] | simp only [hw3] | refine T.seq ?_ | refine T.stm ?_ | refine T.rg ?_ | refine jac ?_ | refine jad ?_ | refine jae ?_ | refine T.cond ?_ | refine T.skip ?_ | refine T.ret ?_ | refine T.exit ?_ | refine T.block ?_ | refine Cos.intro [] [] rfl ?_ | refine And.intro ?_ ?_ | (intro hyp0; have hyp := hyp0; (try simp only [HB, ne_eq, reduceCtorEq] at hyp); (try simp only [hyp0]); (try clear hyp0); try (exfalso; omega; done)) | omega
    · exact (jbj hjl (by simpa using hyp)).symm
    · exact ⟨j + 1, ⟨by omega, jcJ (f := fun i => Utf.width (rs.getD i 0) != 0) (by simpa using hyp) hall⟩, by omega, Cos.intro [0] [] rfl (by (simp only [SB, E, seval, rdB, ne_eq, implies_true, jcz, jcj, jcH, jaw]; first | done | ((repeat' apply And.intro) <;> first | rfl | omega | (simp; done) | (simp; omega))))⟩
  · have hw : (((rs.take j).flatMap Utf.enc).length < ti.size) = False := eq_false (by
      rw [List.take_of_length_le (by omega), ← hti, hln]
      omega)
    repeat' first | simp only [SB, E, seval, rdB, ne_eq, implies_true, jcz, jcj, jcH, jaw] | simp only [hw] | simp only [hw2] | simp only [hw3] | refine T.seq ?_ | refine T.stm ?_ | refine T.rg ?_ | refine jac ?_ | refine jad ?_ | refine jae ?_ | refine T.cond ?_ | refine T.skip ?_ | refine T.ret ?_ | refine T.exit ?_ | refine T.block ?_ | refine Cos.intro [] [] rfl ?_ | refine And.intro ?_ ?_ | (intro hyp0; have hyp := hyp0; (try simp only [HB, ne_eq, reduceCtorEq] at hyp); (try simp only [hyp0]); (try clear hyp0); try (exfalso; omega; done)) | omega
    exact (jb1 (by omega) hall).symm
  · unfold jbl
    rw [jqJ]
    exact (jhj hyp).symm)
theorem jmP : Fresh Tryz.prog E0 22 sp_eright := Alias.fresh jmO (fun x => rfl)
noncomputable def sp_r7runesT : Spec := spOf (α := (List Int)) (fun b => [.vec (.int .u8) b]) fun b => ((∀ a ∈ b, Utf.Byte a) ∧ b.length ≤ 100000000, .ret (.vec (.int .i32) (Utf.rrunes b)))
theorem jbP (b : List Int) : sp_r7runesT [.vec (.int .u8) b] = some ((∀ a ∈ b, Utf.Byte a) ∧ b.length ≤ 100000000, .ret (.vec (.int .i32) (Utf.rrunes b))) := jav (α := (List Int)) _ (fun b b' h => by first | simpa [CP] using h | (simp [CP] at h ⊢; grind)) b
theorem jjp : Fresh Tryz.prog E0 45 sp_r7runesT := Fresh.of fun b hG => TF.intro (V := (VV [(79, conA [.agg [.sl (.int .u8)], .any] sp_r7feed), (80, conA [.agg [.sl (.int .u8)]] sp_r7end)] (.cons (chkFn_callable k_r07_Decoder_Feed) (Alias.soundA jmc) (.cons (chkFn_callable k_r07_Decoder_End) (Alias.soundA jnY) GOk.nil)) 32 0)) k_r07_Runes rfl rfl (by
  dsimp only at hG ⊢
  obtain ⟨hb, hl⟩ := hG
  repeat' first | simp only [SB, E, seval, rdB, ne_eq, implies_true, jcf, jcG] | refine T.seq ?_ | refine T.stm ?_ | refine T.rg ?_ | refine jac ?_ | refine jad ?_ | refine jae ?_ | refine T.cond ?_ | refine T.skip ?_ | refine T.ret ?_ | refine T.exit ?_ | refine T.block ?_ | refine And.intro ?_ ?_ | (intro hyp0; have hyp := hyp0; (try simp only [HB, ne_eq, reduceCtorEq] at hyp); (try simp only [hyp0]); (try clear hyp0); try (exfalso; omega; done)) | omega
  refine T.loop (fun k : Nat => ⟨[(0, .vec (.int .u8) b), (3, .slice 0 0 1 (Utf.rtold [] (b.take k)).length (Utf.rtold [] (b.take k)).length), (4, .ptr 1 0 0), (10, .int .i64 b.length), (11, .int .i64 k)], [.seq (.int .i32) (Utf.rtold [] (b.take k)), .box [.vec (.int .u8) (Utf.rafter [] (b.take k))]]⟩) (fun k => k ≤ b.length) (fun k => b.length - k) 0 (by omega) (Cos.intro [0, 1] [] rfl (by simp only [SB, E, seval, rdB, ne_eq, implies_true, jcf, jcG, Utf.rtold, Utf.rafter])) (fun k hk => ?_)
  have h1 := jjc (l := b.take k) (fun a ha => hb a (List.mem_of_mem_take ha))
  have h2 := jgi hb k
  have h3 := jiv (b.take k) []
  have h4 := jiu (Utf.rafter [] (b.take k)) (b.getD k 0)
  have h5 := jmb (Utf.rafter [] (b.take k))
  have h6 : (b.take k).length ≤ k := by simp; omega
  repeat' first | simp only [SB, E, seval, rdB, ne_eq, implies_true, jcf, jcG] | refine T.seq ?_ | refine T.stm ?_ | refine T.rg ?_ | refine jac ?_ | refine jad ?_ | refine jae ?_ | refine T.cond ?_ | refine T.skip ?_ | refine T.ret ?_ | refine T.exit ?_ | refine T.block ?_ | refine And.intro ?_ ?_ | (intro hyp0; have hyp := hyp0; (try simp only [HB, ne_eq, reduceCtorEq] at hyp); (try simp only [hyp0]); (try clear hyp0); try (exfalso; omega; done)) | omega
  · exact (h1.2 _ hyp).1
  · exact (h1.2 _ hyp).2
  · refine ⟨k + 1, by omega, by omega, Cos.intro [3, 1] [] rfl ?_⟩
    have e : b.take (k + 1) = b.take k ++ [b.getD k 0] := jlK (by omega)
    simp only [SB, E, seval, rdB, ne_eq, implies_true, jcf, jcG, e, jg9, jgk]
    simp
  · have e : b.take k = b := List.take_of_length_le (by omega)
    rw [e]
    exact Cos.intro [2] [] rfl (by simp only [Utf.rrunes]; (simp only [SB, E, seval, rdB, ne_eq, implies_true, jcf, jcG]; first | done | ((repeat' apply And.intro) <;> first | rfl | omega | (simp; done) | (simp; omega)))))
theorem jft : ∀ rs : List Int, rs.length ≤ (rs.flatMap Utf.enc).length
  | [] => by simp
  | a :: rs => by
    have h1 := jft rs
    have h2 := List.length_pos_iff.2 (Utf.enc_ne a)
    simp only [List.flatMap_cons, List.length_append, List.length_cons]
    omega
theorem jgz {k r : Int} {L : List CD} {x y mo : Int} {ti : ByteArray} {l : List ByteArray} (hs : ScrOk L l) : jbl k r L x y mo ti l = (jbm k r L && jdR L l && decide (0 ≤ x) && decide (x < k) && decide (0 ≤ y) && decide (y < r) && decide (mo ≤ 2) && decide (ti.size ≤ 64) && jee ti) := by
  unfold jbl
  rw [jn4 L l fun q hq => (hs.lk q hq).1]
noncomputable def sp_r12right : Spec := spOf (α := Int × Int × (List CD) × Int × Int × Bool × Int × ByteArray × (List ByteArray)) (fun ⟨k, r, L, x, y, hd, mo, ti, l⟩ => [.agg [.int .i64 k, .int .i64 r, .vec .cell L, .int .i64 x, .int .i64 y, .bool hd, .int .u8 mo, .str ti, .vec .str l]]) fun ⟨k, r, L, x, y, hd, mo, ti, l⟩ => (ScrOk L l ∧ SLen ti, .ret (.bool (jbl k r L x y mo ti l)))
theorem jeg (k : Int) (r : Int) (L : List CD) (x : Int) (y : Int) (hd : Bool) (mo : Int) (ti : ByteArray) (l : List ByteArray) : sp_r12right [.agg [.int .i64 k, .int .i64 r, .vec .cell L, .int .i64 x, .int .i64 y, .bool hd, .int .u8 mo, .str ti, .vec .str l]] = some (ScrOk L l ∧ SLen ti, .ret (.bool (jbl k r L x y mo ti l))) := jav (α := Int × Int × (List CD) × Int × Int × Bool × Int × ByteArray × (List ByteArray)) _ (fun ⟨k, r, L, x, y, hd, mo, ti, l⟩ ⟨k', r', L', x', y', hd', mo', ti', l'⟩ h => by first | simpa [CP] using h | (simp [CP] at h ⊢; grind)) (k, r, L, x, y, hd, mo, ti, l)
theorem jjq : Alias Tryz.prog E0 15 sp_r12right := Alias.of fun ⟨k, r, L, x, y, hd, mo, ti, l⟩ hG => TF.intro (V := (VV [(42, conA [.agg [.any, .any, .sl .cell]] sp_rows), (43, conF [.sl .cell, .sl .str] sp_rlright), (44, conF [.sl (.int .u8)] sp_r7valid), (46, conF [.any] sp_r7width), (45, conF [.sl (.int .u8)] sp_r7runesT)] (.cons (chkFn_callable k_r09_Rows) (Alias.soundA jpT) (.cons (chkFn_callable k_r10_Right) (Fresh.soundF jk2) (.cons (chkFn_callable k_r07_Valid) (Fresh.soundF jkL) (.cons (chkFn_callable k_r07_Width) (Fresh.soundF jg7) (.cons (chkFn_callable k_r07_Runes) (Fresh.soundF jjp) GOk.nil))))) 84 0)) k_r12_Right rfl rfl (by
  dsimp only at hG ⊢
  obtain ⟨hs, ht⟩ := hG
  have hl := hs.len
  have hl2 := hs.links
  have hw : List.take ti.size (jao ti) = jao ti := List.take_of_length_le (by rw [jd2]; exact Nat.le_refl _)
  have hln : (jao ti).length = ti.size := jd2 ti
  rw [jgz hs]
  repeat' first | exact hs.cw | exact hs.lk | exact hs.slen | exact jdT ti | simp only [SB, E, seval, rdB, ne_eq, implies_true, jdg, jb3, jb0, jbF, jbP] | simp only [hw] | refine T.seq ?_ | refine T.stm ?_ | refine T.rg ?_ | refine jac ?_ | refine jad ?_ | refine jae ?_ | refine T.cond ?_ | refine T.skip ?_ | refine T.ret ?_ | refine T.exit ?_ | refine T.block ?_ | refine Cos.intro [] [] rfl ?_ | refine And.intro ?_ ?_ | (intro hyp0; have hyp := hyp0; (try simp only [HB, ne_eq, reduceCtorEq] at hyp); (try simp only [hyp0]); (try clear hyp0); try (exfalso; omega; done)) | omega
  · rw [hyp]
    simp only [Bool.false_and]
  · rw [jee, hyp, Bool.false_and, Bool.and_false]
  · rename_i hq
    have hvb := hyp
    obtain ⟨rs, hrs, hti, hmay⟩ := jgn ti hvb
    have hrr : Utf.rrunes (jao ti) = rs := by rw [← Utf.runes_eq _ (jdT ti), hrs]
    have htb : jee ti = (List.range rs.length).all (fun i => Utf.width (rs.getD i 0) != 0) := by rw [hrs]; simp only [jee, hvb, Bool.true_and]
    have hrb : jbl k r L x y mo ti l = jee ti := by
      rw [jgz hs, Bool.eq_iff_iff]
      simp only [HB, ne_eq, reduceCtorEq]
      obtain ⟨⟨⟨⟨⟨⟨q2, q3⟩, q4⟩, q5⟩, q6⟩, q7⟩, q8⟩ := hq
      exact ⟨fun h => h.2, fun h => ⟨⟨⟨⟨⟨⟨⟨⟨by assumption, q2⟩, by omega⟩, by omega⟩, by omega⟩, by omega⟩, by omega⟩, by omega⟩, h⟩⟩
    rw [← jgz hs, hrb, htb, hrr]
    have hrl : rs.length ≤ ti.size := by
      have := jft rs
      rw [← hti, hln] at this
      exact this
    refine T.loop (fun j : Nat => ⟨[(5, .vec (.int .i32) rs), (73, .int .i64 rs.length), (74, .int .i64 j)], []⟩) (fun j => j ≤ rs.length ∧ ∀ i, i < j → (Utf.width (rs.getD i 0) != 0) = true) (fun j => rs.length - j) 0 ⟨by omega, fun i hi => by omega⟩ (Cos.intro [] [] rfl (by (simp only [SB, E, seval, rdB, ne_eq, implies_true, jdg, jb3, jb0, jbF, jbP]); first | done | (repeat' apply And.intro) <;> first | rfl | omega | simp)) (fun j ⟨hj, hall⟩ => ?_)
    by_cases hjl : j < rs.length
    · have hi32 := jmN (hmay _ (List.mem_of_getElem? (jb6 (d := 0) hjl)))
      repeat' first | exact hi32 | simp only [SB, E, seval, rdB, ne_eq, implies_true, jdg, jb3, jb0, jbF, jbP] | simp only [hw] | refine T.seq ?_ | refine T.stm ?_ | refine T.rg ?_ | refine jac ?_ | refine jad ?_ | refine jae ?_ | refine T.cond ?_ | refine T.skip ?_ | refine T.ret ?_ | refine T.exit ?_ | refine T.block ?_ | refine Cos.intro [] [] rfl ?_ | refine And.intro ?_ ?_ | (intro hyp0; have hyp := hyp0; (try simp only [HB, ne_eq, reduceCtorEq] at hyp); (try simp only [hyp0]); (try clear hyp0); try (exfalso; omega; done)) | omega
      · exact (jbj hjl (by simpa using hyp)).symm
      · exact ⟨j + 1, ⟨by omega, jcJ (f := fun i => Utf.width (rs.getD i 0) != 0) (by simpa using hyp) hall⟩, by omega, Cos.intro [] [] rfl (by (simp only [SB, E, seval, rdB, ne_eq, implies_true, jdg, jb3, jb0, jbF, jbP]; first | done | ((repeat' apply And.intro) <;> first | rfl | omega | (simp; done) | (simp; omega))))⟩
    · repeat' first | simp only [SB, E, seval, rdB, ne_eq, implies_true, jdg, jb3, jb0, jbF, jbP] | simp only [hw] | refine T.seq ?_ | refine T.stm ?_ | refine T.rg ?_ | refine jac ?_ | refine jad ?_ | refine jae ?_ | refine T.cond ?_ | refine T.skip ?_ | refine T.ret ?_ | refine T.exit ?_ | refine T.block ?_ | refine Cos.intro [] [] rfl ?_ | refine And.intro ?_ ?_ | (intro hyp0; have hyp := hyp0; (try simp only [HB, ne_eq, reduceCtorEq] at hyp); (try simp only [hyp0]); (try clear hyp0); try (exfalso; omega; done)) | omega
      exact (jb1 (by omega) hall).symm
  · rw [jqJ]
    exact (jhj (by simp_all)).symm)
theorem jjr : Fresh Tryz.prog E0 15 sp_r12right := Alias.fresh jjq (fun x => rfl)
noncomputable def sp_great : Spec := spOf (α := Int × Int × (List CD) × Int × Int × Bool × Int × ByteArray × (List ByteArray)) (fun ⟨k, r, L, x, y, hd, mo, ti, l⟩ => [.agg [.int .i64 k, .int .i64 r, .vec .cell L, .int .i64 x, .int .i64 y, .bool hd, .int .u8 mo, .str ti, .vec .str l]]) fun ⟨k, r, L, x, y, hd, mo, ti, l⟩ => (True, .ret (.bool (decide (3000 < (L.length : Int)) || decide (1000 < (ti.size : Int)) || decide (1000 < (l.length : Int)))))
theorem jgA (k : Int) (r : Int) (L : List CD) (x : Int) (y : Int) (hd : Bool) (mo : Int) (ti : ByteArray) (l : List ByteArray) : sp_great [.agg [.int .i64 k, .int .i64 r, .vec .cell L, .int .i64 x, .int .i64 y, .bool hd, .int .u8 mo, .str ti, .vec .str l]] = some (True, .ret (.bool (decide (3000 < (L.length : Int)) || decide (1000 < (ti.size : Int)) || decide (1000 < (l.length : Int))))) := jav (α := Int × Int × (List CD) × Int × Int × Bool × Int × ByteArray × (List ByteArray)) _ (fun ⟨k, r, L, x, y, hd, mo, ti, l⟩ ⟨k', r', L', x', y', hd', mo', ti', l'⟩ h => by first | simpa [CP] using h | (simp [CP] at h ⊢; grind)) (k, r, L, x, y, hd, mo, ti, l)
theorem jog : Alias Tryz.prog E0 7 sp_great := Alias.of fun ⟨k, r, L, x, y, hd, mo, ti, l⟩ hG => TF.intro (V := (VV [] GOk.nil 19 0)) k_l18_great rfl rfl (by
  dsimp only at hG ⊢
  repeat' first | simp only [SB, E, seval, rdB, ne_eq, implies_true] | refine T.seq ?_ | refine T.stm ?_ | refine T.rg ?_ | refine jac ?_ | refine jad ?_ | refine jae ?_ | refine T.cond ?_ | refine T.skip ?_ | refine T.ret ?_ | refine T.exit ?_ | refine T.block ?_ | refine Cos.intro [] [] rfl ?_ | refine And.intro ?_ ?_ | (intro hyp0; have hyp := hyp0; (try simp only [HB, ne_eq, reduceCtorEq] at hyp); (try simp only [hyp0]); (try clear hyp0); try (exfalso; omega; done)) | omega)
theorem joh : Fresh Tryz.prog E0 7 sp_great := Alias.fresh jog (fun x => rfl)
end
end Go.Proofs.YtcfkfgkndncanaaGreatDoor
