/- The walk of the document's Width. -/
import Derived.Test.YtkdmdklmkachfaaDoorUtfWidth
namespace Go.Proofs.YtkdmdklmkachfaaDoor
open Go.RowKit
set_option linter.unusedVariables false
set_option linter.unusedSimpArgs false
namespace Utf
def inR (r lo hi : Int) : Bool := decide (lo ≤ r) && decide (r ≤ hi)
def rno (r : Int) : Bool := !may r || Utf.inR r 0 31 || Utf.inR r 127 159 || Utf.inR r 768 879 || Utf.inR r 8203 8207 || Utf.inR r 65024 65039
def rwide (r : Int) : Bool := Utf.inR r 4352 4447 || Utf.inR r 11904 12350 || Utf.inR r 12353 42191 || Utf.inR r 44032 55203 || Utf.inR r 63744 64255 || Utf.inR r 65072 65135 || Utf.inR r 65280 65376 || Utf.inR r 65504 65510 || Utf.inR r 127744 128591 || Utf.inR r 131072 262141
theorem rno_eq (r : Int) : rno r = (noWidth r || hit nones r) := by
  rw [Bool.eq_iff_iff]
  simp [rno, noWidth, hit, nones, inR, may]
  omega
theorem rwide_eq (r : Int) : rwide r = hit wides r := by
  rw [Bool.eq_iff_iff]
  simp [rwide, hit, wides, inR]
  omega
theorem width_no (r : Int) (h : rno r = true) : width r = 0 := by
  rw [rno_eq] at h
  unfold width
  cases h1 : noWidth r
  · rw [h1, Bool.false_or] at h
    rw [if_neg (by simp), if_pos h]
  · rfl
theorem width_yes (r : Int) (h : rno r = false) : width r = if rwide r then 2 else 1 := by
  rw [rno_eq, Bool.or_eq_false_iff] at h
  unfold width
  rw [if_neg (by simp [h.1]), if_neg (by simp [h.2]), rwide_eq]
end Utf
theorem in_any (r lo hi : Int) (w : World) : Calls Tryd.prog 30 #[.int .i32 r, .int .i32 lo, .int .i32 hi] w fun e w' => e = .returned (.bool (Utf.inR r lo hi)) ∧ w = w' := by
  rcases Int.lt_or_le r lo with h | h
  · have d1 : decide (lo ≤ r) = false := decide_eq_false (by omega)
    have e := Lib.hid (show Utf.inR r lo hi = false by unfold Utf.inR; rw [d1]; rfl)
    go_enter Tryd.func30, Tryd.ntmps30
    go_wp2_with fail
    go_ret
    exact ⟨ret_bool e.out.symm, rfl⟩
  · have d1 : decide (lo ≤ r) = true := decide_eq_true h
    have e := Lib.hid (show Utf.inR r lo hi = decide (r ≤ hi) by unfold Utf.inR; rw [d1]; rfl)
    go_enter Tryd.func30, Tryd.ntmps30
    go_wp2_with fail
    go_ret
    exact ⟨ret_bool e.out.symm, rfl⟩

set_option maxHeartbeats 4000000 in
theorem rwidth_any (r : Int) (w : World) : Calls Tryd.prog 18 #[.int .i32 r] w fun e w' => e = .returned (.int .i64 (Utf.width r)) ∧ w = w' := by
  go_enter Tryd.func18, Tryd.ntmps18
  go_upto_region 1 with (fail)
  go_cut [25] from 3 to 25 (fun s wx => s = .bool (Utf.rno r) ∧ wx = w)
  case first =>
    go_wp2_with (first | (go_at_call 26; refine (rmay_any _ _).mono ?_; rintro e w' ⟨rfl, rfl⟩) | (go_at_call 30; refine (in_any _ _ _ _).mono ?_; rintro e w' ⟨rfl, rfl⟩))
    all_goals (go_meet)
    all_goals (exact ⟨by simp [Utf.rno, *], rfl⟩)
  case rest =>
    obtain ⟨rfl, rfl⟩ := hcut
    cases hn : Utf.rno r
    · go_upto_region 3 with (fail)
      go_cut [63] from 26 to 63 (fun s wx => s = .bool (Utf.rwide r) ∧ wx = wc)
      case first =>
        go_wp2_with (first | (go_at_call 30; refine (in_any _ _ _ _).mono ?_; rintro e w' ⟨rfl, rfl⟩))
        all_goals (go_meet)
        all_goals (exact ⟨by simp [Utf.rwide, *], rfl⟩)
      case rest =>
        obtain ⟨rfl, rfl⟩ := hcut
        have hy := Utf.width_yes r hn
        cases hw : Utf.rwide r
        · rw [hw] at hy
          have e := Lib.hid hy
          clear hy
          go_wp2_with fail
          go_ret
          exact ⟨ret_int e.out.symm, rfl⟩
        · rw [hw] at hy
          have e := Lib.hid hy
          clear hy
          go_wp2_with fail
          go_ret
          exact ⟨ret_int e.out.symm, rfl⟩
    · have e := Lib.hid (Utf.width_no r hn)
      go_wp2_with fail
      go_ret
      exact ⟨ret_int e.out.symm, rfl⟩
end Go.Proofs.YtkdmdklmkachfaaDoor
