/- sequence walked. -/
import Derived.Test.YtijjnpegokfidaaDoorPaEsc
namespace Go.Proofs.YtijjnpegokfidaaDoor
open Go.RowKit
open Pa
set_option linter.unusedVariables false
set_option linter.unusedSimpArgs false

set_option maxRecDepth 100000 in
set_option maxHeartbeats 1000000 in
theorem sequence_any (b : Int) (hb : 0 ≤ b ∧ b < 256) (w : World) (B gp gd : Nat) (s : PS) (vp vt : Value) (hP : Pv w B gp gd s vp vt) (hw : WF s) :
    Calls Tryd.prog 29 #[.pointer (some ⟨gp, 0, none⟩), .int .u8 b] w (FeedEnd w B gp gd vp vt (sequence s b)) := by
  have HP := Lib.hid hP
  have HW := Lib.hid hw
  have c1 : w.cell? ⟨gp, 1, none⟩ = some (.int .i64 s.st) := hP.blk.cell 1
  have f1 : w.frozen? ⟨gp, 1, none⟩ = false := hP.blk.frozen 1
  have h0 := FeedEnd.none (r := ([], s)) rfl hP (Keeps.refl _ _) Its.refl_or
  have h1 := FeedEnd.none (r := ([], { s with st := 0 })) rfl (hP.setSt 0).1 (hP.setSt 0).2 Its.refl_or
  have H0 := Lib.hid h0
  have H1 := Lib.hid h1
  clear hP hw h0 h1
  by_cases e1 : s.st = 1
  · have hr : sequence s b = escaped s b := by unfold sequence; rw [if_pos e1]
    rw [hr]
    rw [e1] at c1
    clear hr e1
    go_enter Tryd.func29, Tryd.ntmps29
    go_wp2_with fail
    refine (escaped_any b hb w B gp gd s vp vt HP.out HW.out).mono ?_
    rintro e w1 he
    obtain ⟨A, c, L, vp', vt', rfl, hrest⟩ := he
    have HREST := Lib.hid hrest
    clear hrest
    go_wp2_with fail
    go_ret
    exact ⟨A, c, L, vp', vt', rfl, HREST.out⟩
  by_cases e3 : s.st = 3
  · have hr : sequence s b = controlled s b := by unfold sequence; rw [if_neg e1, if_pos e3]
    rw [hr]
    rw [e3] at c1
    clear hr e1 e3
    go_enter Tryd.func29, Tryd.ntmps29
    go_wp2_with fail
    refine (controlled_any b hb w B gp gd s vp vt HP.out HW.out).mono ?_
    rintro e w1 he
    obtain ⟨A, c, L, vp', vt', rfl, hrest⟩ := he
    have HREST := Lib.hid hrest
    clear hrest
    go_wp2_with fail
    go_ret
    exact ⟨A, c, L, vp', vt', rfl, HREST.out⟩
  by_cases e4 : s.st = 4
  · by_cases h64 : b < 64
    · have hr : sequence s b = ([], s) := by unfold sequence; rw [if_neg e1, if_neg e3, if_pos e4, if_pos h64]
      have d64 : decide (b < 64) = true := decide_eq_true h64
      rw [hr]
      rw [e4] at c1
      clear hr e1 e3 e4 h64
      go_enter Tryd.func29, Tryd.ntmps29
      go_wp2_with fail
      go_ret
      exact H0.out
    · have hr : sequence s b = ([], { s with st := 0 }) := by unfold sequence; rw [if_neg e1, if_neg e3, if_pos e4, if_neg h64]
      have d64 : decide (b < 64) = false := decide_eq_false h64
      have d48 : decide (48 ≤ b) = true := decide_eq_true (by omega)
      rw [hr]
      rw [e4] at c1
      clear hr e1 e3 e4 h64
      go_enter Tryd.func29, Tryd.ntmps29
      go_wp2_with fail
      go_ret
      exact H1.out
  by_cases e2 : s.st = 2
  · by_cases h48 : b < 48
    · have hr : sequence s b = ([], s) := by unfold sequence; rw [if_neg e1, if_neg e3, if_neg e4, if_pos e2, if_pos h48]
      have d48 : decide (48 ≤ b) = false := decide_eq_false (by omega)
      rw [hr]
      rw [e2] at c1
      clear hr e1 e3 e4 e2 h48
      go_enter Tryd.func29, Tryd.ntmps29
      go_wp2_with fail
      go_ret
      exact H0.out
    · have hr : sequence s b = ([], { s with st := 0 }) := by unfold sequence; rw [if_neg e1, if_neg e3, if_neg e4, if_pos e2, if_neg h48]
      have d48 : decide (48 ≤ b) = true := decide_eq_true (by omega)
      rw [hr]
      rw [e2] at c1
      clear hr e1 e3 e4 e2 h48
      go_enter Tryd.func29, Tryd.ntmps29
      go_wp2_with fail
      go_ret
      exact H1.out
  · have hr : sequence s b = ([], s) := by unfold sequence; rw [if_neg e1, if_neg e3, if_neg e4, if_neg e2]
    have d1 : ((s.st : Int) == 1) = false := beq_eq_false_iff_ne.2 (by omega)
    have d2 : ((s.st : Int) == 2) = false := beq_eq_false_iff_ne.2 (by omega)
    have d3 : ((s.st : Int) == 3) = false := beq_eq_false_iff_ne.2 (by omega)
    have d4 : ((s.st : Int) == 4) = false := beq_eq_false_iff_ne.2 (by omega)
    rw [hr]
    clear hr e1 e3 e4 e2
    go_enter Tryd.func29, Tryd.ntmps29
    go_wp2_with fail
    go_ret
    exact H0.out
end Go.Proofs.YtijjnpegokfidaaDoor
