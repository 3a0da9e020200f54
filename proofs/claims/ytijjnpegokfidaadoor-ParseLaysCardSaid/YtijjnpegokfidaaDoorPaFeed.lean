/- Feed walked. -/
import Derived.Test.YtijjnpegokfidaaDoorPaSeq
namespace Go.Proofs.YtijjnpegokfidaaDoor
open Go.RowKit
open Pa
open Utf (DS feed endT endS)
set_option linter.unusedVariables false
set_option linter.unusedSimpArgs false

/-- Acts made later behind acts made sooner. -/
theorem Acs.cat {w w' : World} {base mid : Nat} {v v' vM : Value} {L M : List AE} (h : Acs w base v L) (hM : Acs w mid vM M) (hb : base ≤ mid) (hlt : ∀ g, v.ownBlock = some g → g < mid)
    (ha : AppedR w w' base 25 6 v v' (L ++ M).length ((L ++ M).flatMap acell)) : Acs w' base v' (L ++ M) :=
  h.app (fun q hq => (hM.par q hq).mono hb) (fun q hq => (hM.txt q hq).mono hb) (fun q hq => ⟨fun g h1 h2 => by have := ((hM.par q hq).lt g h2).1; have := hlt g h1; omega, fun g h1 h2 => by have := ((hM.txt q hq).lt g h2).1; have := hlt g h1; omega⟩) ha
theorem FeedEnd.after {w w1 w' : World} {B gp gd : Nat} {vp vt : Value} {r : List TAct × PS} {e : Ending} (h : FeedEnd w1 B gp gd vp vt r e w') (k : Keeps (Its gp gd vp vt) w w1) : FeedEnd w B gp gd vp vt r e w' := by
  obtain ⟨A, c, L, vp', vt', he, hL, hA, hP, hk, hi⟩ := h
  have hz := k.size
  exact ⟨A, c, L, vp', vt', he, hL, hA.mono hz, hP, k.trans hk (fun g h _ => h), fun g hg => ⟨by
    rcases (hi g hg).1 with h | h
    · exact .inl h
    · exact .inr (Nat.le_trans hz h), (hi g hg).2⟩⟩

set_option maxRecDepth 100000 in
set_option maxHeartbeats 1000000 in
theorem feed_esc (w : World) (B gp gd : Nat) (s : PS) (vp vt : Value) (hP : Pv w B gp gd s vp vt) (hw : WF s) :
    Calls Tryd.prog 20 #[.pointer (some ⟨gp, 0, none⟩), .int .u8 27] w (FeedEnd w B gp gd vp vt (prints (endT s.d) ++ osc s, { s with d := endS s.d, st := 1, mark := 0 })) := by
  have HP := Lib.hid hP
  have HW := Lib.hid hw
  have c0 : w.cell? ⟨gp, 0, none⟩ = some (.pointer (some ⟨gd, 0, none⟩)) := hP.blk.cell 0
  clear hP hw
  go_enter Tryd.func20, Tryd.ntmps20
  go_wp2_with fail
  refine (end_any w gd s.d HP.out.dec).mono ?_
  rintro e w1 ⟨A1, c1, rfl, o1, hd1, hg1⟩
  have O1 := Lib.hid o1
  have D1 := Lib.hid hd1
  have G1 := Lib.hid hg1
  have hel := Utf.end_len s.d
  clear o1 hd1 hg1
  go_wp2_with fail
  refine (prints_any A1 _ c1 (endT s.d) w1 rfl O1.out.read (by omega)).mono ?_
  rintro e w2 ⟨A2, c2, L, rfl, hL, hA, hb2⟩
  have hll : L.length = (endT s.d).length := by have := congrArg List.length hL; simpa [prints] using this
  obtain ⟨hP2, k2⟩ := HP.out.told (r := (endT s.d, endS s.d)) D1.out G1.out hb2
  have hA2 := hA.mono G1.out.size
  have HA2 := Lib.hid hA2
  have HP2 := Lib.hid hP2
  have K2 := Lib.hid k2
  have HL := Lib.hid hL
  have HLL := Lib.hid hll
  have hl1 : L.length ≤ 1 := by omega
  have hw2 : WF { s with d := endS s.d } := ⟨Utf.wf_end _ HW.out.d, HW.out.mark, HW.out.plen, HW.out.pbd, HW.out.tlen, HW.out.st⟩
  have HW2 := Lib.hid hw2
  clear hL hA hb2 hP2 k2 hA2 hll hw2
  go_wp2_with fail
  refine (osc_any w2 B gp gd { s with d := endS s.d } vp vt HP2.out HW2.out).mono ?_
  rintro e w3 ⟨A3, c3, M, rfl, hM, hA3, hb3⟩
  rw [show osc { s with d := endS s.d } = osc s from rfl] at hM hA3
  have hml : M.length = (osc s).length := by have := congrArg List.length hM; simpa using this
  have hol : (osc s).length ≤ 1 := by unfold osc; split <;> simp
  rw [show osc { s with d := endS s.d } = osc s from rfl]
  rw [← hml] at hA3 ⊢
  have hP3 := HP2.out.under hb3
  have hL3 := HA2.out.under hb3
  have HP3 := Lib.hid hP3
  have HL3 := Lib.hid hL3
  have HA3 := Lib.hid hA3
  have HM := Lib.hid hM
  have HB3 := Lib.hid hb3
  have HML := Lib.hid hml
  have hm1 : M.length ≤ 1 := by omega
  have hz3 : w.heap.size ≤ w3.heap.size := Nat.le_trans K2.out.size hb3.size
  have hno : ∀ g, (Value.slice A2 L.length c2).ownBlock = some g → w.heap.size ≤ g ∧ g < w2.heap.size := fun g hg => OwnR.blocks HA2.out.row g hg
  have HNO := Lib.hid hno
  clear hP3 hL3 hA3 hM hb3 hml hno hol
  go_wp2_with (at_builtin; first
    | (refine wpList_append_cells _ rfl (.tmp 17) (.tmp 19) 35 25 6 64 rfl Tryd.underlying35 (by kernel_rfl) (by omega) (by omega) w.heap.size (.slice A2 L.length c2) L.length (L.flatMap acell) rfl HL3.out.row A3 c3 M.length (M.flatMap acell) rfl (OwnR.read HA3.out.row) (acell_len M) HA3.out.one (L.length + M.length) rfl _ rfl (by omega) hz3 ?_; intro A4 c4 w4 hap; have HAP := Lib.hid hap; have hk4 : Keeps (fun g => (Value.slice A2 L.length c2).ownBlock = some g) w3 w4 := Keeps.grown hap.only (fun g h => h); have hP4 : Pv w4 B gp gd { s with d := endS s.d } vp vt := HP3.out.far hk4 (fun g hg hi => by have := HP.out.its_lt hi; have := (HNO.out g hg).1; omega); have HK4 := Lib.hid hk4; have HP4 := Lib.hid hP4; have y1 : w4.cell? ⟨gp, 1, none⟩ = some (.int .i64 s.st) := hP4.blk.cell 1; have y3 : w4.cell? ⟨gp, 3, none⟩ = some (.int .u8 s.mark) := hP4.blk.cell 3; have g1 : w4.frozen? ⟨gp, 1, none⟩ = false := hP4.blk.frozen 1; have g3 : w4.frozen? ⟨gp, 3, none⟩ = false := hP4.blk.frozen 3; clear hap hk4 hP4))
  go_ret
  have hlen2 : (L ++ M).length = L.length + M.length := List.length_append ..
  have hac : Acs w4 w.heap.size (.slice A4 (L.length + M.length) c4) (L ++ M) :=
    HL3.out.cat HA3.out K2.out.size (fun g hg => (HNO.out g hg).2) (by
      have h := HAP.out
      rw [hlen2, List.flatMap_append]
      exact h)
  have hK3 : Keeps (Its gp gd vp vt) w w4 := (K2.out.trans (Keeps.under HB3.out (fun _ => False)) (fun _ h => h.elim)).trans HK4.out (fun g hg hlt => by have := (HNO.out g hg).1; omega)
  have h5 := HP4.out.setSt 1
  have h6 := h5.1.setMark 0
  have k56 := h5.2.trans h6.2 (fun g h _ => h)
  have hcl : ∀ g, Its gp gd vp vt g → Clear (.slice A4 (L.length + M.length) c4) (L ++ M) g := fun g hg => hac.clear_low (HP.out.its_lt hg)
  have hrl : (prints (endT s.d) ++ osc s).length = L.length + M.length := by rw [List.length_append, HLL.out, HML.out]; simp [prints]
  have hfin := FeedEnd.same (r := (prints (endT s.d) ++ osc s, { s with d := endS s.d, st := 1, mark := 0 })) (A := A4) (c := c4) (L := L ++ M) HP.out (by simp only []; rw [hrl]; exact hac.keeps k56 (fun g hg => hcl g hg)) (by rw [List.map_append, HL.out, HM.out]) h6.1 (hK3.trans k56 (fun g h _ => h))
  simp only [] at hfin
  rw [hrl] at hfin
  exact hfin

set_option maxRecDepth 100000 in
set_option maxHeartbeats 1000000 in
theorem feedP_any (b : Int) (hb : 0 ≤ b ∧ b < 256) (w : World) (B gp gd : Nat) (s : PS) (vp vt : Value) (hP : Pv w B gp gd s vp vt) (hw : WF s) :
    Calls Tryd.prog 20 #[.pointer (some ⟨gp, 0, none⟩), .int .u8 b] w (FeedEnd w B gp gd vp vt (feedP s b)) := by
  by_cases h27 : b = 27
  · have hr : feedP s b = (prints (endT s.d) ++ osc s, { s with d := endS s.d, st := 1, mark := 0 }) := by unfold feedP; rw [if_pos h27]
    rw [hr, h27]
    exact feed_esc w B gp gd s vp vt hP hw
  have HP := Lib.hid hP
  have HW := Lib.hid hw
  have c1 : w.cell? ⟨gp, 1, none⟩ = some (.int .i64 s.st) := hP.blk.cell 1
  have f1 : w.frozen? ⟨gp, 1, none⟩ = false := hP.blk.frozen 1
  have d27 : (b == 27) = false := beq_eq_false_iff_ne.2 h27
  have h0 := FeedEnd.none (r := ([], s)) rfl hP (Keeps.refl _ _) Its.refl_or
  have h1 := FeedEnd.none (r := ([], { s with st := 0 })) rfl (hP.setSt 0).1 (hP.setSt 0).2 Its.refl_or
  have H0 := Lib.hid h0
  have H1 := Lib.hid h1
  clear hP hw h0 h1
  by_cases e0 : s.st = 0
  · have hr : feedP s b = plain s b := by unfold feedP; rw [if_neg h27, if_pos e0]
    rw [hr]
    rw [e0] at c1
    clear hr e0 h27
    go_enter Tryd.func20, Tryd.ntmps20
    go_wp2_with fail
    refine (plain_any b hb w B gp gd s vp vt HP.out HW.out).mono ?_
    rintro e w1 ⟨A, c, L, vp', vt', rfl, hrest⟩
    have HREST := Lib.hid hrest
    clear hrest
    go_wp2_with fail
    go_ret
    exact ⟨A, c, L, vp', vt', rfl, HREST.out⟩
  have d0 : ((s.st : Int) == 0) = false := beq_eq_false_iff_ne.2 (by omega)
  by_cases h24 : b = 24 ∨ b = 26
  · have hr : feedP s b = ([], { s with st := 0 }) := by unfold feedP; rw [if_neg h27, if_neg e0, if_pos h24]
    rw [hr]
    rcases h24 with rfl | rfl
    all_goals
      clear hr e0 h27
      go_enter Tryd.func20, Tryd.ntmps20
      go_wp2_with fail
      go_ret
      exact H1.out
  have d24 : (b == 24) = false := beq_eq_false_iff_ne.2 (fun e => h24 (.inl e))
  have d26 : (b == 26) = false := beq_eq_false_iff_ne.2 (fun e => h24 (.inr e))
  by_cases e5 : s.st = 5
  · have hr : feedP s b = more s b := by unfold feedP; rw [if_neg h27, if_neg e0, if_neg h24, if_pos e5]
    rw [hr]
    rw [e5] at c1
    clear hr e0 h27 h24 e5 d0
    go_enter Tryd.func20, Tryd.ntmps20
    go_wp2_with fail
    refine (more_any b hb w B gp gd s vp vt HP.out HW.out).mono ?_
    rintro e w1 ⟨A, c, L, vp', vt', rfl, hrest⟩
    have HREST := Lib.hid hrest
    clear hrest
    go_wp2_with fail
    go_ret
    exact ⟨A, c, L, vp', vt', rfl, HREST.out⟩
  have d5 : ((s.st : Int) == 5) = false := beq_eq_false_iff_ne.2 (by omega)
  by_cases e6 : s.st = 6
  · have hr : feedP s b = ([], s) := by unfold feedP; rw [if_neg h27, if_neg e0, if_neg h24, if_neg e5, if_pos (.inl e6)]
    rw [hr]
    rw [e6] at c1
    clear hr e0 h27 h24 e5 d0 d5 e6
    go_enter Tryd.func20, Tryd.ntmps20
    go_wp2_with fail
    go_ret
    exact H0.out
  have d6 : ((s.st : Int) == 6) = false := beq_eq_false_iff_ne.2 (by omega)
  by_cases h127 : b = 127
  · have hr : feedP s b = ([], s) := by unfold feedP; rw [if_neg h27, if_neg e0, if_neg h24, if_neg e5, if_pos (.inr h127)]
    rw [hr]
    subst h127
    clear hr e0 h27 h24 e5 e6
    go_enter Tryd.func20, Tryd.ntmps20
    go_wp2_with fail
    go_ret
    exact H0.out
  have d127 : (b == 127) = false := beq_eq_false_iff_ne.2 h127
  have hn6 : ¬ (s.st = 6 ∨ b = 127) := fun h => h.elim e6 h127
  by_cases h32 : b < 32
  · have hr : feedP s b = ([Pa.c0 b], s) := by unfold feedP; rw [if_neg h27, if_neg e0, if_neg h24, if_neg e5, if_neg hn6, if_pos h32]
    have d32 : decide (b < 32) = true := decide_eq_true h32
    rw [hr]
    clear hr e0 h27 h24 e5 e6 h127 hn6 h32
    go_enter Tryd.func20, Tryd.ntmps20
    go_wp2_with fail
    go_ret
    exact feedEnd_lit (t := Pa.c0 b) (N := w.heap.size) rfl HP.out HP.out (Keeps.refl _ _) rfl rfl
  have d32 : decide (b < 32) = false := decide_eq_false h32
  by_cases h128 : 128 ≤ b
  · have hr : feedP s b = plain { s with st := 0 } b := by unfold feedP; rw [if_neg h27, if_neg e0, if_neg h24, if_neg e5, if_neg hn6, if_neg h32, if_pos h128]
    have d128 : decide (128 ≤ b) = true := decide_eq_true h128
    rw [hr]
    clear hr e0 h27 h24 e5 e6 h127 hn6 h32 h128
    go_enter Tryd.func20, Tryd.ntmps20
    go_wp2_with fail
    refine (plain_any b hb _ B gp gd { s with st := 0 } vp vt (HP.out.setSt 0).1 ⟨HW.out.d, HW.out.mark, HW.out.plen, HW.out.pbd, HW.out.tlen, by simp⟩).mono ?_
    rintro e w1 he
    obtain ⟨A, c, L, vp', vt', rfl, hrest⟩ := FeedEnd.after he (HP.out.setSt 0).2
    have HREST := Lib.hid hrest
    clear hrest he
    go_wp2_with fail
    go_ret
    exact ⟨A, c, L, vp', vt', rfl, HREST.out⟩
  · have hr : feedP s b = sequence s b := by unfold feedP; rw [if_neg h27, if_neg e0, if_neg h24, if_neg e5, if_neg hn6, if_neg h32, if_neg h128]
    have d128 : decide (128 ≤ b) = false := decide_eq_false h128
    rw [hr]
    clear hr e0 h27 h24 e5 e6 h127 hn6 h32 h128
    go_enter Tryd.func20, Tryd.ntmps20
    go_wp2_with fail
    refine (sequence_any b hb w B gp gd s vp vt HP.out HW.out).mono ?_
    rintro e w1 ⟨A, c, L, vp', vt', rfl, hrest⟩
    have HREST := Lib.hid hrest
    clear hrest
    go_wp2_with fail
    go_ret
    exact ⟨A, c, L, vp', vt', rfl, HREST.out⟩
set_option maxRecDepth 100000 in
theorem pfeed_nil (b : Int) (w : World) :
    Calls Tryd.prog 20 #[.pointer none, .int .u8 b] w fun e w' => e = .returned nilV ∧ w' = w := by
  go_enter Tryd.func20, Tryd.ntmps20
  go_wp2_with fail
  go_ret
  exact ⟨rfl, rfl⟩
end Go.Proofs.YtijjnpegokfidaaDoor
