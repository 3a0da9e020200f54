/- more and number walked. -/
import Derived.Test.YtijjnpegokfidaaDoorPaPlain
import Derived.Deep.RegionLaw
import Derived.BigRegion
namespace Go.Proofs.YtijjnpegokfidaaDoor
open Go.RowKit
open Pa
set_option linter.unusedVariables false
set_option linter.unusedSimpArgs false

theorem Its.refl_or {w : World} {gp gd : Nat} {vp vt : Value} : ∀ g, Its gp gd vp vt g → Its gp gd vp vt g ∨ w.heap.size ≤ g := fun _ h => .inl h
/-- The text grew: it lies where it lay, or in new memory. -/
theorem Pv.txtGrown {w w1 w2 : World} {B gp gd : Nat} {s : PS} {vp vt v : Value} {zs : List Int} (hP : Pv w B gp gd s vp vt) (hb : Below w.heap.size w w1) (ha : Apped w1 w2 B 5 .u8 vt v zs) :
    Pv (w2.setCell ⟨gp, 6, none⟩ v) B gp gd { s with text := zs } vp v ∧ Keeps (Its gp gd vp vt) w (w2.setCell ⟨gp, 6, none⟩ v) ∧ ∀ g, Its gp gd vp v g → Its gp gd vp vt g ∨ w.heap.size ≤ g := by
  have hlt := hP.lt
  have hP1 := hP.under hb
  have kg := Keeps.grown ha.only (S := fun g => vt.ownBlock = some g) (fun g h => h)
  have hv : ∀ g, v.ownBlock = some g → vt.ownBlock = some g ∨ w.heap.size ≤ g := fun g hg => by
    rcases ha.where_ with e | e
    · exact .inl (e ▸ hg)
    · rw [hg] at e; injection e with e; have := hb.size; exact .inr (by omega)
  have hblk : Blk w2 gp 51 #[.pointer (some ⟨gd, 0, none⟩), .int .i64 s.st, .bool s.begun, .int .u8 s.mark, .bool s.middle, vp, vt, .bool s.long] := kg.blk hP1.blk (fun e => by have := (hP1.txt.lt gp e).1; omega)
  have hdec : Dec w2 gd s.d := kg.blk hP1.dec (fun e => by have := (hP1.txt.lt gd e).1; omega)
  have hpar := kg.own hP1.par (fun b hb' e => hP1.apart b hb' e)
  have k2 : Keeps (fun j => j = gp) w2 (w2.setCell ⟨gp, 6, none⟩ v) := Keeps.setCell (S := fun j => j = gp) (p := ⟨gp, 6, none⟩) (Keeps.refl _ _) (.inl rfl) _
  have hapart : Apart vp v := fun g h1 h2 => by
    rcases hv g h2 with h | h
    · exact hP.apart g h1 h
    · have := (hP.par.lt g h1).2; omega
  refine ⟨⟨hblk.s8_6 _, k2.blk hdec (fun e => hlt.2.2 e.symm), k2.own hpar (fun b hb' e => by have := (hpar.lt b hb').1; omega), k2.own ha.own (fun b hb' e => by have := (ha.own.lt b hb').1; omega), hapart, hlt, Nat.le_trans hP1.size (Nat.le_trans kg.size k2.size)⟩, ?_, fun g hg => ?_⟩
  · exact (((Keeps.under hb (Its gp gd vp vt)).trans kg (fun g h _ => .inr (.inr (.inr h)))).trans k2 (fun g h _ => .inl h))
  · rcases hg with h | h | h | h
    · exact .inl (.inl h)
    · exact .inl (.inr (.inl h))
    · exact .inl (.inr (.inr (.inl h)))
    · rcases hv g h with h | h
      · exact .inl (.inr (.inr (.inr h)))
      · exact .inr h

/-- The parser's struct stands while one of its slices is appended to. -/
theorem Pv.appedBlk {w w1 w2 : World} {B gp gd : Nat} {s : PS} {vp vt : Value} (hP : Pv w B gp gd s vp vt) (hb : Below w.heap.size w w1) (ha : w1.grownBy w2 vp.ownBlock ∨ w1.grownBy w2 vt.ownBlock) :
    Blk w2 gp 51 #[.pointer (some ⟨gd, 0, none⟩), .int .i64 s.st, .bool s.begun, .int .u8 s.mark, .bool s.middle, vp, vt, .bool s.long] := by
  have hlt := hP.lt
  rcases ha with h | h
  · exact (Keeps.grown h (S := fun g => vp.ownBlock = some g) (fun g h => h)).blk (hP.under hb).blk (fun e => by have := (hP.par.lt gp e).1; omega)
  · exact (Keeps.grown h (S := fun g => vt.ownBlock = some g) (fun g h => h)).blk (hP.under hb).blk (fun e => by have := (hP.txt.lt gp e).1; omega)
set_option maxRecDepth 100000 in
set_option maxHeartbeats 1000000 in
theorem more_any (b : Int) (hb : 0 ≤ b ∧ b < 256) (w : World) (B gp gd : Nat) (s : PS) (vp vt : Value) (hP : Pv w B gp gd s vp vt) (hw : WF s) :
    Calls Tryd.prog 28 #[.pointer (some ⟨gp, 0, none⟩), .int .u8 b] w (FeedEnd w B gp gd vp vt (more s b)) := by
  have HP := Lib.hid hP
  have HW := Lib.hid hw
  by_cases h7 : b = 7
  · have hr : more s b = (osc s, { s with st := 0 }) := by unfold more; rw [if_pos h7]
    rw [hr]
    subst h7
    clear hr hP hw
    go_enter Tryd.func28, Tryd.ntmps28
    go_wp2_with fail
    refine (osc_any w B gp gd s vp vt HP.out HW.out).mono ?_
    rintro e w1 ⟨A1, c1, L, rfl, hL, hA, hb1⟩
    have hP1 := HP.out.under hb1
    have q1 : w1.cell? ⟨gp, 1, none⟩ = some (.int .i64 s.st) := hP1.blk.cell 1
    have f1 : w1.frozen? ⟨gp, 1, none⟩ = false := hP1.blk.frozen 1
    obtain ⟨hP2, k2⟩ := hP1.setSt 0
    have k3 : Keeps (Its gp gd vp vt) w (w1.setCell ⟨gp, 1, none⟩ (.int .i64 (0 : Nat))) := (Keeps.under hb1 _).trans k2 (fun g h _ => h)
    have hfin := FeedEnd.same (r := (osc s, { s with st := 0 })) HP.out (hA.keeps k2 (fun g hg => hA.clear_low (HP.out.its_lt hg))) hL hP2 k3
    have HFIN := Lib.hid hfin
    clear hL hA hb1 hP1 hP2 k2 k3 hfin
    go_wp2_with fail
    go_ret
    exact HFIN.out
  · have t7 : (b == 7) = false := beq_eq_false_iff_ne.2 h7
    by_cases h32 : b < 32
    · have hr : more s b = ([], s) := by unfold more; rw [if_neg h7, if_pos h32]
      rw [hr]
      have d1 : decide (b < 32) = true := decide_eq_true h32
      clear hr hP hw h7 h32
      go_enter Tryd.func28, Tryd.ntmps28
      go_wp2_with fail
      go_ret
      exact FeedEnd.none rfl HP.out (Keeps.refl _ _) Its.refl_or
    · have d1 : decide (b < 32) = false := decide_eq_false h32
      obtain ⟨A0, c0, ev, _⟩ := hP.txt.form
      subst ev
      have c6 : w.cell? ⟨gp, 6, none⟩ = some (.slice A0 s.text.length c0) := hP.blk.cell 6
      by_cases hlen : s.text.length = 256
      · have hr : more s b = ([], { s with long := true }) := by unfold more; rw [if_neg h7, if_neg h32, if_pos hlen]
        rw [hr]
        have d2 : ((s.text.length : Int) == 256) = true := by simp; omega
        have c7 : w.cell? ⟨gp, 7, none⟩ = some (.bool s.long) := hP.blk.cell 7
        have f7 : w.frozen? ⟨gp, 7, none⟩ = false := hP.blk.frozen 7
        obtain ⟨hP2, k2⟩ := hP.setLong true
        have hfin := FeedEnd.none (r := ([], { s with long := true })) rfl hP2 k2 Its.refl_or
        have HFIN := Lib.hid hfin
        clear hr hP hw h7 h32 hP2 k2 hfin hlen
        go_enter Tryd.func28, Tryd.ntmps28
        go_wp2_with fail
        go_ret
        exact HFIN.out
      · have hr : more s b = ([], { s with text := s.text ++ [b] }) := by unfold more; rw [if_neg h7, if_neg h32, if_neg hlen]
        rw [hr]
        have htl := hw.tlen
        have d2 : ((s.text.length : Int) == 256) = false := by apply beq_eq_false_iff_ne.2; omega
        have hsz := hP.size
        have hblt := hP.blk.lt
        have ht3 := hP.txt.alloc (.cells #[.int .u8 b] 5)
        have HT3 := Lib.hid ht3
        clear hr hP hw h7 h32 hlen ht3
        go_enter Tryd.func28, Tryd.ntmps28
        go_wp2_with (at_builtin; first
          | (refine wpList_append_to _ rfl (.tmp 10) (.tmp 12) 23 5 .u8 1 rfl Tryd.underlying23 (by kernel_rfl) (by omega) B (.slice A0 s.text.length c0) s.text rfl HT3.out (some ⟨w.heap.size, 0, none⟩) 1 1 [b] rfl (OwnI.lit1 w w.heap.size 5 .u8 b (Nat.le_refl _)).read rfl (s.text.length + 1) (s.text ++ [b]) rfl rfl (by omega) (by simp; omega) ?_; intro A2 c2 w2 hap; have HAP := Lib.hid hap; have hbk := HP.out.appedBlk (below_alloc (Below.refl _ _) _) (.inr hap.only); have y6 : w2.cell? ⟨gp, 6, none⟩ = some (.slice A0 s.text.length c0) := hbk.cell 6; have fy6 : w2.frozen? ⟨gp, 6, none⟩ = false := hbk.frozen 6; clear hap hbk))
        go_ret
        obtain ⟨hP4, k4, hi⟩ := HP.out.txtGrown (below_alloc (Below.refl _ _) _) HAP.out
        exact FeedEnd.none (r := ([], { s with text := s.text ++ [b] })) rfl hP4 k4 hi
end Go.Proofs.YtijjnpegokfidaaDoor
