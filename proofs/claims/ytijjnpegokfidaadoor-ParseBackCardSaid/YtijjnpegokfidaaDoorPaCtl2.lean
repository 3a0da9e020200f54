/- controlled walked, whole. -/
import Derived.Test.YtijjnpegokfidaaDoorPaCtl
namespace Go.Proofs.YtijjnpegokfidaaDoor
open Go.RowKit
open Pa
set_option linter.unusedVariables false
set_option linter.unusedSimpArgs false

set_option maxRecDepth 100000 in
set_option maxHeartbeats 1000000 in
theorem controlled_low (b : Int) (hb : 0 ≤ b ∧ b < 64) (w : World) (B gp gd : Nat) (s : PS) (vp vt : Value) (hP : Pv w B gp gd s vp vt) (hw : WF s) :
    Calls Tryd.prog 34 #[.pointer (some ⟨gp, 0, none⟩), .int .u8 b] w (FeedEnd w B gp gd vp vt (controlled s b)) := by
  have HP := Lib.hid hP
  have HW := Lib.hid hw
  have c1 : w.cell? ⟨gp, 1, none⟩ = some (.int .i64 s.st) := hP.blk.cell 1
  have c2 : w.cell? ⟨gp, 2, none⟩ = some (.bool s.begun) := hP.blk.cell 2
  have c3 : w.cell? ⟨gp, 3, none⟩ = some (.int .u8 s.mark) := hP.blk.cell 3
  have c4 : w.cell? ⟨gp, 4, none⟩ = some (.bool s.middle) := hP.blk.cell 4
  have f1 : w.frozen? ⟨gp, 1, none⟩ = false := hP.blk.frozen 1
  have f2 : w.frozen? ⟨gp, 2, none⟩ = false := hP.blk.frozen 2
  have f3 : w.frozen? ⟨gp, 3, none⟩ = false := hP.blk.frozen 3
  have f4 : w.frozen? ⟨gp, 4, none⟩ = false := hP.blk.frozen 4
  have hr : controlled s b = if lostB s b then ([], { s with st := 4, begun := true }) else if b < 48 then ([], { s with mark := b, middle := true, begun := true }) else if 60 ≤ b then ([], { s with mark := b, begun := true }) else ([], { number s b with begun := true }) := by unfold controlled; rw [if_neg (by omega)]
  have d64 : decide (64 ≤ b) = false := decide_eq_false (by omega)
  have hlost := (hP.setSt 4).1.setBegun true
  have klost := (hP.setSt 4).2.trans hlost.2 (fun g h _ => h)
  have HLOST := Lib.hid (And.intro hlost.1 klost)
  have hmk := (hP.setMark b).1.setBegun true
  have kmk := (hP.setMark b).2.trans hmk.2 (fun g h _ => h)
  have HMK := Lib.hid (And.intro hmk.1 kmk)
  have hmm := ((hP.setMark b).1.setMiddle true)
  have hmm2 := hmm.1.setBegun true
  have kmm := ((hP.setMark b).2.trans hmm.2 (fun g h _ => h)).trans hmm2.2 (fun g h _ => h)
  have HMM := Lib.hid (And.intro hmm2.1 kmm)
  clear hlost klost hmk kmk hmm hmm2 kmm hP hw
  by_cases h48 : b < 48
  · have dA : decide (48 ≤ b) = false := decide_eq_false (by omega)
    have dB : decide (b < 48) = true := decide_eq_true h48
    have dC : decide (60 ≤ b) = false := decide_eq_false (by omega)
    by_cases hm : s.mark = 0
    · have hl : lostB s b = false := by unfold lostB; rw [dA, hm]; simp; omega
      rw [hl, if_neg (by simp), if_pos h48] at hr
      have HR := Lib.hid hr
      rw [hm] at c3
      clear hr hl hm h48
      go_enter Tryd.func34, Tryd.ntmps34
      go_wp2_with fail
      all_goals
        go_ret
        rw [HR.out]
        exact FeedEnd.none rfl HMM.out.1 HMM.out.2 Its.refl_or
    · have dM : (s.mark != 0) = true := by simp [hm]
      have hl : lostB s b = true := by unfold lostB; rw [dB, dM]; simp
      rw [hl, if_pos rfl] at hr
      have HR := Lib.hid hr
      clear hr hl hm h48
      go_enter Tryd.func34, Tryd.ntmps34
      go_wp2_with fail
      all_goals
        go_ret
        rw [HR.out]
        exact FeedEnd.none rfl HLOST.out.1 HLOST.out.2 Its.refl_or
  · have dA : decide (48 ≤ b) = true := decide_eq_true (by omega)
    have dB : decide (b < 48) = false := decide_eq_false (by omega)
    by_cases h60 : 60 ≤ b
    · have dC : decide (60 ≤ b) = true := decide_eq_true h60
      have dD : decide (b ≤ 59) = false := decide_eq_false (by omega)
      cases hg : s.begun
      · have hl : lostB s b = false := by unfold lostB; rw [dA, dB, dC, dD, hg]; simp
        rw [hl, if_neg (by simp), if_neg h48, if_pos h60] at hr
        rw [hg] at c2
        have HR := Lib.hid hr
        clear hr hl h60 h48
        go_enter Tryd.func34, Tryd.ntmps34
        go_wp2_with fail
        all_goals
          go_ret
          rw [HR.out]
          exact FeedEnd.none rfl HMK.out.1 HMK.out.2 Its.refl_or
      · have hl : lostB s b = true := by unfold lostB; rw [dC, hg]; simp
        rw [hl, if_pos rfl] at hr
        rw [hg] at c2
        have HR := Lib.hid hr
        clear hr hl h60 h48
        go_enter Tryd.func34, Tryd.ntmps34
        go_wp2_with fail
        all_goals
          go_ret
          rw [HR.out]
          exact FeedEnd.none rfl HLOST.out.1 HLOST.out.2 Its.refl_or
    · have dC : decide (60 ≤ b) = false := decide_eq_false h60
      have dD : decide (b ≤ 59) = true := decide_eq_true (by omega)
      cases hg : s.middle
      · have hl : lostB s b = false := by unfold lostB; rw [dB, dC, hg]; simp
        rw [hl, if_neg (by simp), if_neg h48, if_neg h60] at hr
        rw [hg] at c4
        have HR := Lib.hid hr
        have hnb : 48 ≤ b ∧ b < 60 := by omega
        clear hr hl h60 h48
        go_enter Tryd.func34, Tryd.ntmps34
        go_wp2_with fail
        refine (number_any b hnb w B gp gd s vp vt HP.out HW.out).mono ?_
        rintro e w1 ⟨rfl, vp1, hP1, hK1, hi1⟩
        have q2 : w1.cell? ⟨gp, 2, none⟩ = some (.bool (number s b).begun) := hP1.blk.cell 2
        have qf2 : w1.frozen? ⟨gp, 2, none⟩ = false := hP1.blk.frozen 2
        obtain ⟨hP2, k2⟩ := hP1.setBegun true
        have k3 : Keeps (Its gp gd vp vt) w (w1.setCell ⟨gp, 2, none⟩ (.bool true)) := hK1.trans k2 (fun g hg hlt => by rcases hi1 g hg with h | h; exact h; omega)
        have hfin : FeedEnd w B gp gd vp vt (controlled s b) (.returned nilV) (w1.setCell ⟨gp, 2, none⟩ (.bool true)) := by
          rw [HR.out]
          exact FeedEnd.none rfl hP2 k3 hi1
        have HFIN := Lib.hid hfin
        clear hP1 hK1 hi1 hP2 k2 k3 hfin
        go_wp2_with fail
        all_goals
          go_ret
          exact HFIN.out
      · have hl : lostB s b = true := by unfold lostB; rw [dA, dD, hg]; simp
        rw [hl, if_pos rfl] at hr
        rw [hg] at c4
        have HR := Lib.hid hr
        clear hr hl h60 h48
        go_enter Tryd.func34, Tryd.ntmps34
        go_wp2_with fail
        all_goals
          go_ret
          rw [HR.out]
          exact FeedEnd.none rfl HLOST.out.1 HLOST.out.2 Its.refl_or
theorem controlled_any (b : Int) (hb : 0 ≤ b ∧ b < 256) (w : World) (B gp gd : Nat) (s : PS) (vp vt : Value) (hP : Pv w B gp gd s vp vt) (hw : WF s) :
    Calls Tryd.prog 34 #[.pointer (some ⟨gp, 0, none⟩), .int .u8 b] w (FeedEnd w B gp gd vp vt (controlled s b)) := by
  by_cases h : 64 ≤ b
  · exact controlled_end b ⟨h, hb.2⟩ w B gp gd s vp vt hP hw
  · exact controlled_low b ⟨hb.1, by omega⟩ w B gp gd s vp vt hP hw
end Go.Proofs.YtijjnpegokfidaaDoor
