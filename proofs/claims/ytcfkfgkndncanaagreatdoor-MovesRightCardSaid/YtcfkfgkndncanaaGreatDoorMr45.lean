/- Texts of this claim, merged by a program of this claim: FLawR. -/
import Derived.Test.YtcfkfgkndncanaaGreatDoorMr42
import Derived.Test.YtcfkfgkndncanaaGreatDoorMr43
import Derived.Test.YtcfkfgkndncanaaGreatDoorMr44
namespace Go.Proofs.YtcfkfgkndncanaaGreatDoor
set_option linter.unusedVariables false
set_option linter.unusedSimpArgs false
section
open Go.RowKit
set_option maxRecDepth 100000
set_option maxHeartbeats 4000000
theorem jkq {d : List Int} : ∀ (f : Nat) (last : Int) (s : RS), 0 ≤ last → Kept d last s → (goG d f last s).1 = 0 → ∃ last', Kept d last' (goG d f last s).2
  | 0, last, s, _, h, _ => ⟨last, h⟩
  | f + 1, last, s, h0, h, e => by
    by_cases q1 : d.length ≤ s.a
    · simp only [goG, if_pos q1] at e ⊢
      exact ⟨last, h⟩
    · by_cases q2 : d.getD s.a 0 ≤ last ∨ 8 < d.getD s.a 0
      · simp only [goG, if_neg q1, if_pos q2] at e
        cases e
      · by_cases q3 : (thG d (d.getD s.a 0) { s with a := s.a + 1 }).1 = 0
        · simp only [goG, if_neg q1, if_neg q2, q3, ne_eq, not_true_eq_false, if_false] at e ⊢
          exact jkq f _ _ (by omega) (keepG (h.next (by omega)) (by omega) (by omega) q3) e
        · simp only [goG, if_neg q1, if_neg q2, ne_eq, q3, not_false_eq_true, if_true] at e
theorem jm3 {d : List Int} {s : RS} (hd : d.length ≤ 1000000) (hb : Bts d) (hs : ScrOk s.L s.l) (ht : SLen s.ti) (e : (apG d s).1 = 0) :
    jbl (apG d s).2.k (apG d s).2.r (apG d s).2.L (apG d s).2.x (apG d s).2.y (apG d s).2.mo (apG d s).2.ti (apG d s).2.more = true ∧ ScrOk (apG d s).2.L (apG d s).2.more ∧ SLen (apG d s).2.ti := by
  by_cases h1 : jbl s.k s.r s.L s.x s.y s.mo s.ti s.l = false
  · simp only [apG, if_pos h1] at e
    cases e
  · have h1t : jbl s.k s.r s.L s.x s.y s.mo s.ti s.l = true := by simpa using h1
    obtain ⟨hz, h16, hlk⟩ := jhk h1t
    by_cases h2 : (goG d 9 0 { s with more := s.l, a := 0 }).1 = 0
    · obtain ⟨last, hk⟩ := jkq (d := d) 9 0 { s with more := s.l, a := 0 } (Int.le_refl _) ⟨⟨Nat.zero_le _, hd, hb⟩, hz, h16, h16, hs.wf, fun _ => hlk, fun _ => jeV h1t, hs.slen, ht, hs.slen⟩ h2
      obtain ⟨b, hb2⟩ : ∃ b, goG d 9 0 { s with more := s.l, a := 0 } = (0, b) := ⟨_, Prod.ext h2 rfl⟩
      rw [hb2] at hk
      by_cases h3 : jbl b.k b.r b.L b.x b.y b.mo b.ti b.more = false
      · rw [jm2 h1t hb2 h3] at e
        cases e
      · have h3t : jbl b.k b.r b.L b.x b.y b.mo b.ti b.more = true := by simpa using h3
        rw [joO h1t hb2 h3t]
        exact ⟨h3t, ⟨hk.wf, by have := hk.sz.le; dsimp only at this ⊢; omega, by have := hk.nm; dsimp only at this ⊢; omega, hk.sl⟩, hk.st⟩
    · rw [jjv h1t rfl h2] at e
      exact absurd e h2
theorem jou {d : List Int} {s : RS} (e : ¬(apG d s).1 = 0) : (apG d s).2 = zeroR := by
  unfold apG at e ⊢
  split
  · rfl
  · rename_i q1
    rw [if_neg q1] at e
    split
    · rfl
    · rename_i q2
      rw [if_neg q2] at e
      split
      · rfl
      · rename_i q3
        rw [if_neg q3] at e
        exact absurd rfl e
noncomputable def sp_fixedE : Spec := spOf (α := Unit) (fun _ => []) fun _ => (True, .ret (.bool true))
theorem jfv : sp_fixedE [] = some (True, .ret (.bool true)) := jav (α := Unit) _ (fun x y h => rfl) ()
theorem jm4 : Alias Tryz.prog E0 8 sp_fixedE := Alias.of fun _ hG => (by
  dsimp only at hG ⊢
  exact jk6)
theorem jm5 : Fresh Tryz.prog E0 8 sp_fixedE := Alias.fresh jm4 (fun x => rfl)
noncomputable def sp_lawR : Spec := spOf (α := Int × Int × (List CD) × Int × Int × Bool × Int × ByteArray × (List ByteArray) × (List Int)) (fun ⟨k, r, L, x, y, hd, mo, ti, l, d⟩ => [.agg [.int .i64 k, .int .i64 r, .vec .cell L, .int .i64 x, .int .i64 y, .bool hd, .int .u8 mo, .str ti, .vec .str l], .vec (.int .u8) d]) fun ⟨k, r, L, x, y, hd, mo, ti, l, d⟩ => (((∀ c ∈ L, CWf c) ∧ SLen ti ∧ (∀ s ∈ l, SLen s) ∧ 0 ≤ mo) ∧ Bts d, .ret (.bool true))
theorem jk7 (k : Int) (r : Int) (L : List CD) (x : Int) (y : Int) (hd : Bool) (mo : Int) (ti : ByteArray) (l : List ByteArray) (d : List Int) : sp_lawR [.agg [.int .i64 k, .int .i64 r, .vec .cell L, .int .i64 x, .int .i64 y, .bool hd, .int .u8 mo, .str ti, .vec .str l], .vec (.int .u8) d] = some (((∀ c ∈ L, CWf c) ∧ SLen ti ∧ (∀ s ∈ l, SLen s) ∧ 0 ≤ mo) ∧ Bts d, .ret (.bool true)) := jav (α := Int × Int × (List CD) × Int × Int × Bool × Int × ByteArray × (List ByteArray) × (List Int)) _ (fun ⟨k, r, L, x, y, hd, mo, ti, l, d⟩ ⟨k', r', L', x', y', hd', mo', ti', l', d'⟩ h => by first | simpa [CP] using h | (simp [CP] at h ⊢; grind)) (k, r, L, x, y, hd, mo, ti, l, d)
theorem jqa : Alias Tryz.prog E0 5 sp_lawR := Alias.of fun ⟨k, r, L, x, y, hd, mo, ti, l, d⟩ hG => TF.intro (V := (VV [(7, conF [.agg [.any, .any, .sl .cell, .any, .any, .any, .any, .any, .sl .str]] sp_great), (8, conF [] sp_fixedE), (11, conA [.agg [.any, .any, .sl .cell, .any, .any, .any, .any, .any, .sl .str], .sl (.int .u8)] sp_apply), (15, conF [.agg [.any, .any, .sl .cell, .any, .any, .any, .any, .any, .sl .str]] sp_r12right)] (.cons (chkFn_callable k_l18_great) (Fresh.soundF joh) (.cons (chkFn_callable k_l18_fixed) (Fresh.soundF jm5) (.cons (chkFnD_callable k_moves_Apply) (Alias.soundA jot) (.cons (chkFn_callable k_r12_Right) (Fresh.soundF jjr) GOk.nil)))) 35 0)) k_l18_MovesRight rfl rfl (by
  dsimp only at hG ⊢
  obtain ⟨⟨hwf, ht, hsl, hmo⟩, hb⟩ := hG
  have hap := fun (h1 : ScrOk L l) (h2 : d.length ≤ 1000000) (e : (apG d ⟨k, r, L, x, y, hd, mo, ti, l, [], 0⟩).1 = 0) => jm3 (s := ⟨k, r, L, x, y, hd, mo, ti, l, [], 0⟩) h2 hb h1 ht e
  by_cases e : (apG d ⟨k, r, L, x, y, hd, mo, ti, l, [], 0⟩).1 = 0
  · have hw := e
    repeat' first | exact ⟨hwf, by omega, by omega, hsl⟩ | exact hb | exact ht | exact hwf _ ‹_› | exact (hap ⟨hwf, by omega, by omega, hsl⟩ (by omega) e).2.1 | exact (hap ⟨hwf, by omega, by omega, hsl⟩ (by omega) e).2.2 | exact (hap ⟨hwf, by omega, by omega, hsl⟩ (by omega) e).1 | simp only [SB, E, seval, rdB, ne_eq, implies_true, jgA, jfv, jgN, jeg] | simp only [hw] | refine T.seq ?_ | refine T.stm ?_ | refine T.rg ?_ | refine jac ?_ | refine jad ?_ | refine jae ?_ | refine T.cond ?_ | refine T.skip ?_ | refine T.ret ?_ | refine T.exit ?_ | refine T.block ?_ | refine Cos.intro [] [] rfl ?_ | refine And.intro ?_ ?_ | (intro hyp0; have hyp := hyp0; (try simp only [HB, ne_eq, reduceCtorEq] at hyp); (try simp only [hyp0]); (try clear hyp0); try (exfalso; omega; done)) | omega
  · have hz := jou e
    have hw := And.intro (eq_false e) hz
    repeat' first | exact ⟨hwf, by omega, by omega, hsl⟩ | exact hb | exact ht | exact hwf _ ‹_› | simp only [SB, E, seval, rdB, ne_eq, implies_true, jgA, jfv, jgN, jeg] | simp only [hw] | refine T.seq ?_ | refine T.stm ?_ | refine T.rg ?_ | refine jac ?_ | refine jad ?_ | refine jae ?_ | refine T.cond ?_ | refine T.skip ?_ | refine T.ret ?_ | refine T.exit ?_ | refine T.block ?_ | refine Cos.intro [] [] rfl ?_ | refine And.intro ?_ ?_ | (intro hyp0; have hyp := hyp0; (try simp only [HB, ne_eq, reduceCtorEq] at hyp); (try simp only [hyp0]); (try clear hyp0); try (exfalso; omega; done)) | omega
    all_goals (simp [zeroR]))
end
end Go.Proofs.YtcfkfgkndncanaaGreatDoor
