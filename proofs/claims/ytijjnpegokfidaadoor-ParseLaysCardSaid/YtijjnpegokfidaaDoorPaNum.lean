/- number walked. -/
import Derived.Test.YtijjnpegokfidaaDoorPaMore
namespace Go.Proofs.YtijjnpegokfidaaDoor
open Go.RowKit
open Pa
set_option linter.unusedVariables false
set_option linter.unusedSimpArgs false

theorem World.setCell_alloc_old (w : World) (p : Addr) (u : Value) (o : Obj) (h : p.block < w.heap.size) : (w.alloc o).setCell p u = (w.setCell p u).alloc o := by
  unfold World.setCell World.alloc
  simp only
  congr 1
  apply Array.ext
  · simp
  · intro i h1 h2
    simp only [Array.getElem_modify, Array.getElem_push, Array.size_modify]
    simp at h1
    by_cases hi : i < w.heap.size
    · simp [hi]
    · have : ¬ p.block = i := by omega
      simp [hi, this]
/-- What number leaves. -/
def NumEnd (w : World) (B gp gd : Nat) (vp vt : Value) (s : PS) (e : Ending) (w' : World) : Prop :=
  e = .returned (.tuple #[]) ∧ ∃ vp', Pv w' B gp gd s vp' vt ∧ Keeps (Its gp gd vp vt) w w' ∧ ∀ g, Its gp gd vp' vt g → Its gp gd vp vt g ∨ w.heap.size ≤ g
def NumMid (w : World) (B gp gd : Nat) (vp vt : Value) (s : PS) (wx : World) : Prop :=
  ∃ vp', Pv wx B gp gd { s with params := first s.params } vp' vt ∧ Keeps (Its gp gd vp vt) w wx ∧ ∀ g, Its gp gd vp' vt g → Its gp gd vp vt g ∨ w.heap.size ≤ g
theorem Pv.parGrown {w w1 w2 : World} {B gp gd : Nat} {s : PS} {vp vt v : Value} {zs : List Int} (hP : Pv w B gp gd s vp vt) (hb : Below w.heap.size w w1) (ha : Apped w1 w2 B 3 .i64 vp v zs) :
    Pv (w2.setCell ⟨gp, 5, none⟩ v) B gp gd { s with params := zs } v vt ∧ Keeps (Its gp gd vp vt) w (w2.setCell ⟨gp, 5, none⟩ v) ∧ ∀ g, Its gp gd v vt g → Its gp gd vp vt g ∨ w.heap.size ≤ g := by
  have hlt := hP.lt
  have hP1 := hP.under hb
  have kg := Keeps.grown ha.only (S := fun g => vp.ownBlock = some g) (fun g h => h)
  have hv : ∀ g, v.ownBlock = some g → vp.ownBlock = some g ∨ w.heap.size ≤ g := fun g hg => by
    rcases ha.where_ with e | e
    · exact .inl (e ▸ hg)
    · rw [hg] at e; injection e with e; have := hb.size; exact .inr (by omega)
  have hblk := hP.appedBlk hb (.inl ha.only)
  have hdec : Dec w2 gd s.d := kg.blk hP1.dec (fun e => by have := (hP1.par.lt gd e).1; omega)
  have htxt := kg.own hP1.txt (fun b hb' e => hP1.apart b e hb')
  have k2 : Keeps (fun j => j = gp) w2 (w2.setCell ⟨gp, 5, none⟩ v) := Keeps.setCell (S := fun j => j = gp) (p := ⟨gp, 5, none⟩) (Keeps.refl _ _) (.inl rfl) _
  have hapart : Apart v vt := fun g h1 h2 => by
    rcases hv g h1 with h | h
    · exact hP.apart g h h2
    · have := (hP.txt.lt g h2).2; omega
  refine ⟨⟨hblk.s8_5 _, k2.blk hdec (fun e => hlt.2.2 e.symm), k2.own ha.own (fun b hb' e => by have := (ha.own.lt b hb').1; omega), k2.own htxt (fun b hb' e => by have := (htxt.lt b hb').1; omega), hapart, hlt, Nat.le_trans hP1.size (Nat.le_trans kg.size k2.size)⟩, ?_, fun g hg => ?_⟩
  · exact (((Keeps.under hb (Its gp gd vp vt)).trans kg (fun g h _ => .inr (.inr (.inl h)))).trans k2 (fun g h _ => .inl h))
  · rcases hg with h | h | h | h
    · exact .inl (.inl h)
    · exact .inl (.inr (.inl h))
    · rcases hv g h with h | h
      · exact .inl (.inr (.inr (.inl h)))
      · exact .inr h
    · exact .inl (.inr (.inr (.inr h)))
/-- A number is set in place. -/
theorem Pv.parSet {w : World} {B gp gd g n c : Nat} {s : PS} {vt : Value} (hP : Pv w B gp gd s (.slice (some ⟨g, 0, none⟩) n c) vt) (hn : n = s.params.length) (j : Nat) (x : Int) :
    Pv (w.setCell ⟨g, j, none⟩ (.int .i64 x)) B gp gd { s with params := s.params.set j x } (.slice (some ⟨g, 0, none⟩) n c) vt ∧ Keeps (Its gp gd (.slice (some ⟨g, 0, none⟩) n c) vt) w (w.setCell ⟨g, j, none⟩ (.int .i64 x)) := by
  subst hn
  have hlt := hP.lt
  have hg := (hP.par.lt g rfl).1
  have k : Keeps (fun i => i = g) w (w.setCell ⟨g, j, none⟩ (.int .i64 x)) := Keeps.setCell (S := fun i => i = g) (p := ⟨g, j, none⟩) (Keeps.refl _ _) (.inl rfl) _
  have hown : OwnI (w.setCell ⟨g, j, none⟩ (.int .i64 x)) B 3 .i64 (.slice (some ⟨g, 0, none⟩) s.params.length c) (s.params.set j x) := by
    have := (World.ownsRow.stored (n := s.params.length) hP.par j (.int .i64 x)).1
    unfold OwnI
    rw [List.length_set, List.map_set]
    exact this
  exact ⟨⟨k.blk hP.blk (by omega), k.blk hP.dec (by omega), hown, k.own hP.txt (fun b hb e => hP.apart g rfl (by rw [← e]; exact hb)), hP.apart, hlt, Nat.le_trans hP.size k.size⟩, k.mono (fun i hi => .inr (.inr (.inl (by rw [hi]; rfl))))⟩

set_option maxRecDepth 100000 in
set_option maxHeartbeats 1000000 in
theorem number_any (b : Int) (hb : 48 ≤ b ∧ b < 60) (w : World) (B gp gd : Nat) (s : PS) (vp vt : Value) (hP : Pv w B gp gd s vp vt) (hw : WF s) :
    Calls Tryd.prog 37 #[.pointer (some ⟨gp, 0, none⟩), .int .u8 b] w (NumEnd w B gp gd vp vt (number s b)) := by
  have HP := Lib.hid hP
  have HW := Lib.hid hw
  obtain ⟨A0, c0, ev, _⟩ := hP.par.form
  subst ev
  have c5 : w.cell? ⟨gp, 5, none⟩ = some (.slice A0 s.params.length c0) := hP.blk.cell 5
  have f5 : w.frozen? ⟨gp, 5, none⟩ = false := hP.blk.frozen 5
  have hblt := hP.blk.lt
  have hpl := hw.plen
  clear hP hw
  go_enter Tryd.func37, Tryd.ntmps37
  go_upto_if 10 with (fail)
  go_cut [] from 5 to 14 (fun wx => NumMid w B gp gd (.slice A0 s.params.length c0) vt s wx)
  case first =>
    by_cases h0 : s.params = []
    · have d0 : ((s.params.length : Int) == 0) = true := by rw [h0]; rfl
      have hf : first s.params = [0] := by unfold first; rw [if_pos h0]
      have hq : ∀ v, v = Value.slice (some ⟨w.heap.size, 0, none⟩) 1 1 → Pv ((w.alloc (.cells #[.int .i64 0] 3)).setCell ⟨gp, 5, none⟩ v) B gp gd { s with params := first s.params } v vt ∧ Keeps (Its gp gd (.slice A0 s.params.length c0) vt) w ((w.alloc (.cells #[.int .i64 0] 3)).setCell ⟨gp, 5, none⟩ v) := fun v hv => by
        subst hv
        rw [hf]
        have h1 := (HP.out.under (below_alloc (Below.refl _ _) (.cells #[.int .i64 0] 3))).setPar (.slice (some ⟨w.heap.size, 0, none⟩) 1 1) [0] (OwnI.mono (OwnI.lit1 w w.heap.size 3 .i64 0 (Nat.le_refl _)) HP.out.size) (fun g h1 h2 => by
          simp [Value.ownBlock] at h1
          have := (HP.out.txt.lt g h2).2
          omega)
        exact ⟨h1.1, (Keeps.under (below_alloc (Below.refl _ _) _) _).trans h1.2 (fun g h _ => h)⟩
      have HQ := Lib.hid (hq _ rfl)
      clear h0 hf hq
      go_wp2_with fail
      go_meet
      case rel =>
        rw [← World.setCell_alloc_old w ⟨gp, 5, none⟩ _ _ hblt]
        refine ⟨_, HQ.out.1, HQ.out.2, fun g hg => ?_⟩
        rcases hg with h | h | h | h
        · exact .inl (.inl h)
        · exact .inl (.inr (.inl h))
        · simp [Value.ownBlock] at h; exact .inr (by omega)
        · exact .inl (.inr (.inr (.inr h)))
    · have d0 : ((s.params.length : Int) == 0) = false := by
        have := List.length_pos_iff.2 h0
        apply beq_eq_false_iff_ne.2
        omega
      have hf : first s.params = s.params := by unfold first; rw [if_neg h0]
      have HF := Lib.hid hf
      clear h0 hf
      go_wp2_with fail
      go_meet
      case rel =>
        refine ⟨_, ?_, Keeps.refl _ _, fun g hg => .inl hg⟩
        rw [HF.out]
        exact HP.out
  case rest =>
    obtain ⟨vp1, hP1, hK1, hi1⟩ := hcut
    obtain ⟨f1, f2, f3⟩ := first_ok s.params HW.out.plen HW.out.pbd
    obtain ⟨zs, hzs⟩ : ∃ zs, zs = first s.params := ⟨_, rfl⟩
    have hnum : number s b = if b ≤ 57 then { s with params := setLast zs (min (10 * zs.getD (zs.length - 1) 0 + (b - 48)) 9999) } else if zs.length - 1 < 16 then { s with params := zs ++ [0] } else { s with params := zs } := by rw [hzs]; rfl
    rw [← hzs] at hP1 f1 f2 f3
    have HNUM := Lib.hid hnum
    obtain ⟨m, hm⟩ : ∃ m, zs.length = m + 1 := ⟨zs.length - 1, by omega⟩
    obtain ⟨g, c1, ev1⟩ : ∃ g c1, vp1 = .slice (some ⟨g, 0, none⟩) (m + 1) c1 := by
      rcases hP1.par.2 with ⟨_, h0⟩ | ⟨g, cap, cur, hv, _⟩
      · simp only [] at h0; omega
      · simp only [] at hv; rw [hm] at hv; exact ⟨g, cap, hv⟩
    subst ev1
    have q5 : wc.cell? ⟨gp, 5, none⟩ = some (.slice (some ⟨g, 0, none⟩) (m + 1) c1) := hP1.blk.cell 5
    have qf5 : wc.frozen? ⟨gp, 5, none⟩ = false := hP1.blk.frozen 5
    have hrow : wc.ownsRow B 3 1 (.slice (some ⟨g, 0, none⟩) (m + 1) c1) (m + 1) (zs.map (Value.int .i64)) := by
      have h := hP1.par
      unfold OwnI at h
      simp only [hm] at h
      exact h
    have qe : wc.cell? ⟨g, m, none⟩ = some (.int .i64 (zs.getD m 0)) := by
      rw [World.ownsRow.cellAt hrow m (by omega)]
      simp [List.getD_eq_getElem?_getD, hm]
    have qfe : wc.frozen? ⟨g, m, none⟩ = false := World.ownsRow.frozenAt hrow m
    have hxb : 0 ≤ zs.getD m 0 ∧ zs.getD m 0 ≤ 9999 := f3 _ (by rw [List.getD_eq_getElem?_getD, List.getElem?_eq_getElem (by omega)]; exact List.getElem_mem _)
    obtain ⟨x, hx⟩ : ∃ x, x = zs.getD m 0 := ⟨_, rfl⟩
    rw [← hx] at qe hxb
    have HX := Lib.hid hx
    have HM := Lib.hid hm
    have HP1 := Lib.hid hP1
    have HK1 := Lib.hid hK1
    have HI1 := Lib.hid hi1
    have hm16 : m ≤ 16 := by omega
    have hgg : g ≠ gp := by have := (hP1.par.lt g rfl).1; have := hP1.lt; omega
    clear hnum hrow hzs hP1 hK1 hi1 f1 f2 f3 hx hm c5 f5
    by_cases h57 : b ≤ 57
    · have d1 : decide (b ≤ 57) = true := decide_eq_true h57
      have im : (m : Int) < (m : Int) + 1 := by omega
      go_wp2_with fail
      go_region
      all_goals go_wp2_with fail
      all_goals
        go_end0
        refine ⟨rfl, _, ?_, HK1.out.trans (HP1.out.parSet (by rw [HM.out]) m _).2.drew (fun g hg hlt => by rcases HI1.out g hg with h | h; exact h; omega), HI1.out⟩
        have hr : number s b = { s with params := zs.set m (min (10 * x + (b - 48)) 9999) } := by rw [HNUM.out, if_pos h57, HX.out]; unfold setLast; rw [HM.out]; rfl
        rw [hr]
        first
          | (rw [show min (10 * x + (b - 48)) 9999 = 9999 by omega]; exact (HP1.out.parSet (by rw [HM.out]) m _).1.under (below_drew (Below.refl _ _)))
          | (rw [show min (10 * x + (b - 48)) 9999 = 10 * x + (b - 48) by omega]; exact (HP1.out.parSet (by rw [HM.out]) m _).1.under (below_drew (Below.refl _ _)))
    · have d1 : decide (b ≤ 57) = false := decide_eq_false h57
      have hr : number s b = if m < 16 then { s with params := zs ++ [0] } else { s with params := zs } := by rw [HNUM.out, if_neg h57, HM.out]; rfl
      by_cases h16 : m < 16
      · rw [if_pos h16] at hr
        have HR := Lib.hid hr
        have d2 : decide ((m : Int) < 16) = true := decide_eq_true (by omega)
        have ho := HP1.out.par
        have hoz : OwnI (wc.alloc (.cells #[.int .i64 0] 3)) B 3 .i64 (.slice (some ⟨g, 0, none⟩) (m + 1) c1) zs := HP1.out.par.alloc _
        have HOZ := Lib.hid hoz
        have hzb := HP1.out.size
        have hzl : zs.length ≤ 17 := by have := HM.out; omega
        clear hr hoz ho
        go_wp2_with (at_builtin; first
          | (refine wpList_append_to _ rfl (.tmp 50) (.tmp 51) 22 3 .i64 8 rfl Tryd.underlying22 (by kernel_rfl) (by omega) B (.slice (some ⟨g, 0, none⟩) (m + 1) c1) zs rfl HOZ.out (some ⟨wc.heap.size, 0, none⟩) 1 1 [0] rfl (OwnI.lit1 wc wc.heap.size 3 .i64 0 (Nat.le_refl _)).read rfl (m + 1 + 1) (zs ++ [0]) rfl (by rw [HM.out]; rfl) (by omega) (by simp; omega) ?_; intro A2 c2 w2 hap; have HAP := Lib.hid hap; have hbk := HP1.out.appedBlk (below_alloc (Below.refl _ _) _) (.inl hap.only); have y5 : w2.cell? ⟨gp, 5, none⟩ = some (.slice (some ⟨g, 0, none⟩) (m + 1) c1) := hbk.cell 5; have fy5 : w2.frozen? ⟨gp, 5, none⟩ = false := hbk.frozen 5; clear hap hbk))
        go_end0
        obtain ⟨hP4, k4, hi⟩ := HP1.out.parGrown (below_alloc (Below.refl _ _) _) HAP.out
        rw [HR.out]
        exact ⟨rfl, _, hP4, HK1.out.trans k4 (fun g hg hlt => by rcases HI1.out g hg with h | h; exact h; omega), fun g hg => by
          rcases hi g hg with h | h
          · exact HI1.out g h
          · exact .inr (Nat.le_trans HK1.out.size h)⟩
      · rw [if_neg h16] at hr
        have HR := Lib.hid hr
        have d2 : decide ((m : Int) < 16) = false := decide_eq_false (by omega)
        clear hr
        go_wp2_with fail
        go_end0
        rw [HR.out]
        exact ⟨rfl, _, HP1.out, HK1.out, HI1.out⟩
end Go.Proofs.YtijjnpegokfidaaDoor
