/- controlled walked: its end. -/
import Derived.Test.YtijjnpegokfidaaDoorPaNum
import Derived.Deep.RegionLaw
import Derived.BigRegion
namespace Go.Proofs.YtijjnpegokfidaaDoor
open Go.RowKit
open Pa
set_option linter.unusedVariables false
set_option linter.unusedSimpArgs false

/-- A new act whose numbers were copied; the parser's state has turned. -/
theorem feedEnd_ctl {w w2 w3 : World} {B gp gd : Nat} {s s' : PS} {vp vt v2 : Value} {t : TAct} (h0 : Pv w B gp gd s vp vt) (hP : Pv w2 B gp gd s' vp vt) (k : Keeps (Its gp gd vp vt) w w2) (ht : t.text = []) (ha : Apped w2 w3 w.heap.size 3 .i64 nilV v2 t.params) :
    FeedEnd w B gp gd vp vt ([t], s') (.returned (.slice (some ⟨w3.heap.size, 0, none⟩) 1 1)) (w3.alloc (.cells (acell (t, v2, nilV)).toArray 25)) := by
  have hb2 := below_of_only (Below.refl w2.heap.size w2) ha.only (Nat.le_refl _) (fun x hx => by cases hx)
  have hb3 := below_alloc hb2 (.cells (acell (t, v2, nilV)).toArray 25)
  have hA := Acs.lit1 w3 w.heap.size (t, v2, nilV) (Nat.le_trans k.size hb2.size) ha.own (by show OwnI _ _ _ _ _ t.text; rw [ht]; exact OwnI.nil _ _ _ _)
  exact FeedEnd.same (r := ([t], s')) (L := [(t, v2, nilV)]) h0 hA rfl (hP.under hb3) (k.trans (Keeps.under hb3 (fun _ => False)) (fun _ h => h.elim))
set_option maxRecDepth 100000 in
set_option maxHeartbeats 1000000 in
theorem controlled_end (b : Int) (hb : 64 ≤ b ∧ b < 256) (w : World) (B gp gd : Nat) (s : PS) (vp vt : Value) (hP : Pv w B gp gd s vp vt) (hw : WF s) :
    Calls Tryd.prog 34 #[.pointer (some ⟨gp, 0, none⟩), .int .u8 b] w (FeedEnd w B gp gd vp vt (controlled s b)) := by
  have HP := Lib.hid hP
  have HW := Lib.hid hw
  obtain ⟨A0, c0, ev, hc0, hc1⟩ := hP.par.form
  subst ev
  have hr : controlled s b = ([⟨4, 0, s.mark, b, s.params.take 16, []⟩], { s with st := 0 }) := by unfold controlled; rw [if_pos hb.1]
  rw [hr]
  have hpl := hw.plen
  obtain ⟨m, hm⟩ : ∃ m, m = min s.params.length 16 := ⟨_, rfl⟩
  have hpar : Pv (w.setCell ⟨gp, 1, none⟩ (.int .i64 (0 : Nat))) B gp gd { s with st := 0 } (.slice A0 s.params.length c0) vt := (hP.setSt 0).1
  have HQ := Lib.hid (hP.setSt 0)
  have c5 : w.cell? ⟨gp, 5, none⟩ = some (.slice A0 s.params.length c0) := hP.blk.cell 5
  have c3 : w.cell? ⟨gp, 3, none⟩ = some (.int .u8 s.mark) := hP.blk.cell 3
  have c1 : w.cell? ⟨gp, 1, none⟩ = some (.int .i64 s.st) := hP.blk.cell 1
  have f1 : w.frozen? ⟨gp, 1, none⟩ = false := hP.blk.frozen 1
  have d1 : decide (64 ≤ b) = true := decide_eq_true hb.1
  have d2 : decide (b ≤ 59) = false := decide_eq_false (by omega)
  have d3 : decide (48 ≤ b) = true := decide_eq_true (by omega)
  clear hr hP hw hpar
  go_enter Tryd.func34, Tryd.ntmps34
  go_wp2_with fail
  all_goals first
    | (have i1 : (16 : Int) ≤ (c0 : Int) := by omega
       have i2 : 16 ≤ s.params.length := by omega
       go_region_law ((first
      | (refine step_append_to _ rfl (.const (.slice none 0 0)) (.tmp 37) 22 3 .i64 8 (by rfl) Tryd.underlying22 (by kernel_rfl) (by omega) w.heap.size nilV [] (by rfl) (OwnI.nil _ _ _ _) A0 c0 16 (s.params.take 16) (by rfl) (HQ.out.1.par.read.take 16) (by simp; omega) 16 (s.params.take 16) (by simp) (by simp; omega) (by omega) (by simp) ?_; intro A2 c2 w2 hap; have HAP := Lib.hid hap; have hbw : Below (w.setCell ⟨gp, 1, none⟩ (.int .i64 (0 : Nat))).heap.size (w.setCell ⟨gp, 1, none⟩ (.int .i64 (0 : Nat))) w2 := below_of_only (below_drew (Below.refl _ _)) hap.only (by simp) (fun x hx => by cases hx); have y3 : w2.cell? ⟨gp, 3, none⟩ = some (.int .u8 s.mark) := (HQ.out.1.under hbw).blk.cell 3; clear hap hbw)))
       all_goals
         go_wp2_with fail
         go_ret
         exact feedEnd_ctl (s' := { s with st := 0 }) (t := ⟨4, 0, s.mark, b, s.params.take 16, []⟩) HP.out (HQ.out.1.under (below_drew (Below.refl _ _))) (HQ.out.2.trans (Keeps.under (below_drew (Below.refl _ _)) (fun _ => False)) (fun _ h => h.elim)) rfl HAP.out)
    | (have i2 : s.params.length ≤ 16 := by omega
       go_region_law ((first
      | (refine step_append_to _ rfl (.const (.slice none 0 0)) (.tmp 37) 22 3 .i64 8 (by rfl) Tryd.underlying22 (by kernel_rfl) (by omega) w.heap.size nilV [] (by rfl) (OwnI.nil _ _ _ _) A0 c0 s.params.length (s.params.take 16) (by rfl) (HQ.out.1.par.read.take 16) (by simp; omega) s.params.length (s.params.take 16) (by simp) (by simp; omega) (by omega) (by simp) ?_; intro A2 c2 w2 hap; have HAP := Lib.hid hap; have hbw : Below (w.setCell ⟨gp, 1, none⟩ (.int .i64 (0 : Nat))).heap.size (w.setCell ⟨gp, 1, none⟩ (.int .i64 (0 : Nat))) w2 := below_of_only (below_drew (Below.refl _ _)) hap.only (by simp) (fun x hx => by cases hx); have y3 : w2.cell? ⟨gp, 3, none⟩ = some (.int .u8 s.mark) := (HQ.out.1.under hbw).blk.cell 3; clear hap hbw)))
       all_goals
         go_wp2_with fail
         go_ret
         exact feedEnd_ctl (s' := { s with st := 0 }) (t := ⟨4, 0, s.mark, b, s.params.take 16, []⟩) HP.out (HQ.out.1.under (below_drew (Below.refl _ _))) (HQ.out.2.trans (Keeps.under (below_drew (Below.refl _ _)) (fun _ => False)) (fun _ h => h.elim)) rfl HAP.out)
end Go.Proofs.YtijjnpegokfidaaDoor
