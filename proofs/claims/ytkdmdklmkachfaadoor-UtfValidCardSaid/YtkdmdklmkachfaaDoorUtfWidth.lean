/- The walk of utf.Width. -/

import Derived.Test.YtkdmdklmkachfaaDoorUtfRrun
import Derived.Laws.Rows
import Derived.Deep.DeepCutAuto
import Derived.KernelRfl
import Derived.BigGuardPart
namespace Go.Proofs.YtkdmdklmkachfaaDoor
open Go.RowKit
set_option linter.unusedVariables false
set_option linter.unusedSimpArgs false
set_option maxRecDepth 100000

namespace Utf
def nones : List (List Int) := [[768, 879], [8203, 8207], [65024, 65039]]
def wides : List (List Int) := [[4352, 4447], [11904, 12350], [12353, 42191], [44032, 55203], [63744, 64255], [65072, 65135], [65280, 65376], [65504, 65510], [127744, 128591], [131072, 262141]]
def hit (l : List (List Int)) (r : Int) : Bool := l.any fun p => decide (p.getD 0 0 ≤ r) && decide (r ≤ p.getD 1 0)
def noWidth (r : Int) : Bool := decide (r < 32) || (decide (127 ≤ r) && decide (r ≤ 159)) || (decide (55296 ≤ r) && decide (r ≤ 57343)) || decide (1114111 < r)
def width (r : Int) : Int := if noWidth r then 0 else if hit nones r then 0 else if hit wides r then 2 else 1
theorem hit_snoc (l : List (List Int)) (k : Nat) (h : k < l.length) (r lo hi : Int) (e : l[k]? = some [lo, hi]) : hit (l.take (k + 1)) r = (hit (l.take k) r || (decide (lo ≤ r) && decide (r ≤ hi))) := by
  have : l.take (k + 1) = l.take k ++ [[lo, hi]] := by
    rw [List.take_succ_eq_append_getElem h]
    rw [List.getElem?_eq_getElem h] at e
    rw [Option.some.inj e]
  unfold hit
  rw [this, List.any_append]
  simp
theorem hit_of (l : List (List Int)) (k : Nat) (r lo hi : Int) (e : l[k]? = some [lo, hi]) (h1 : lo ≤ r) (h2 : r ≤ hi) : hit l r = true := by
  unfold hit
  rw [List.any_eq_true]
  exact ⟨[lo, hi], List.mem_of_getElem? e, by simp; omega⟩
end Utf

def rowCells (l : List (List Int)) : Array Value := (l.flatten.map (Value.int .i32)).toArray
/-- The two tables, whole. -/
def Tab (w : World) : Prop := (∃ t fr, w.heap[0]? = some (.cells (rowCells Utf.nones) t fr)) ∧ (∃ t fr, w.heap[1]? = some (.cells (rowCells Utf.wides) t fr))
theorem lt_of_heap {w : World} {g : Nat} {o : Obj} (h : w.heap[g]? = some o) : g < w.heap.size := by
  rcases Nat.lt_or_ge g w.heap.size with h' | h'
  · exact h'
  · rw [Array.getElem?_eq_none h'] at h; cases h
theorem Tab.below {w w' : World} (h : Tab w) (hb : Below w.heap.size w w') : Tab w' := by
  obtain ⟨⟨t, fr, h1⟩, t2, fr2, h2⟩ := h
  exact ⟨⟨t, fr, (hb.block _ (lt_of_heap h1)).trans h1⟩, t2, fr2, (hb.block _ (lt_of_heap h2)).trans h2⟩

theorem wpList_index_run {P : Program} {ops : Array Oper} {rest : List Oper} {o : Oper} {a : Act} {Q : Exit → Act → World → Prop} (w : World) (hgd : o.guard = none) (t : TypeId) (x ix : Operand) (ho : o.op = .index t x ix)
    (X I V : Value) (hx : a.eval x = X) (hix : a.eval ix = I) (hrun : (Instr.index t X I).run P w = .ok V w) (h : wpList P ops Q rest (a.put o.dst V) w) : wpList P ops Q (o :: rest) a w := by
  refine wpList_plain hgd fun K hK => ?_
  unfold Oper.wp execOp
  simp only [ho, hx, hix, Sem.run_bind, Sem.run_pure, hrun, Result.andThen_ok]
  exact hK _ _ h
theorem idx_nones_0 (w : World) : (Instr.index 49 (.agg (rowCells Utf.nones)) (.int .i64 0)).run Tryd.prog w = .ok (.agg #[.int .i32 768, .int .i32 879]) w := by kernel_rfl
theorem idx_nones_1 (w : World) : (Instr.index 49 (.agg (rowCells Utf.nones)) (.int .i64 1)).run Tryd.prog w = .ok (.agg #[.int .i32 8203, .int .i32 8207]) w := by kernel_rfl
theorem idx_nones_2 (w : World) : (Instr.index 49 (.agg (rowCells Utf.nones)) (.int .i64 2)).run Tryd.prog w = .ok (.agg #[.int .i32 65024, .int .i32 65039]) w := by kernel_rfl
theorem size_nones : (Tryd.prog.info? 49).map (·.size) = some (rowCells Utf.nones).size := by kernel_rfl
theorem idx_wides_0 (w : World) : (Instr.index 50 (.agg (rowCells Utf.wides)) (.int .i64 0)).run Tryd.prog w = .ok (.agg #[.int .i32 4352, .int .i32 4447]) w := by kernel_rfl
theorem idx_wides_1 (w : World) : (Instr.index 50 (.agg (rowCells Utf.wides)) (.int .i64 1)).run Tryd.prog w = .ok (.agg #[.int .i32 11904, .int .i32 12350]) w := by kernel_rfl
theorem idx_wides_2 (w : World) : (Instr.index 50 (.agg (rowCells Utf.wides)) (.int .i64 2)).run Tryd.prog w = .ok (.agg #[.int .i32 12353, .int .i32 42191]) w := by kernel_rfl
theorem idx_wides_3 (w : World) : (Instr.index 50 (.agg (rowCells Utf.wides)) (.int .i64 3)).run Tryd.prog w = .ok (.agg #[.int .i32 44032, .int .i32 55203]) w := by kernel_rfl
theorem idx_wides_4 (w : World) : (Instr.index 50 (.agg (rowCells Utf.wides)) (.int .i64 4)).run Tryd.prog w = .ok (.agg #[.int .i32 63744, .int .i32 64255]) w := by kernel_rfl
theorem idx_wides_5 (w : World) : (Instr.index 50 (.agg (rowCells Utf.wides)) (.int .i64 5)).run Tryd.prog w = .ok (.agg #[.int .i32 65072, .int .i32 65135]) w := by kernel_rfl
theorem idx_wides_6 (w : World) : (Instr.index 50 (.agg (rowCells Utf.wides)) (.int .i64 6)).run Tryd.prog w = .ok (.agg #[.int .i32 65280, .int .i32 65376]) w := by kernel_rfl
theorem idx_wides_7 (w : World) : (Instr.index 50 (.agg (rowCells Utf.wides)) (.int .i64 7)).run Tryd.prog w = .ok (.agg #[.int .i32 65504, .int .i32 65510]) w := by kernel_rfl
theorem idx_wides_8 (w : World) : (Instr.index 50 (.agg (rowCells Utf.wides)) (.int .i64 8)).run Tryd.prog w = .ok (.agg #[.int .i32 127744, .int .i32 128591]) w := by kernel_rfl
theorem idx_wides_9 (w : World) : (Instr.index 50 (.agg (rowCells Utf.wides)) (.int .i64 9)).run Tryd.prog w = .ok (.agg #[.int .i32 131072, .int .i32 262141]) w := by kernel_rfl
theorem size_wides : (Tryd.prog.info? 50).map (·.size) = some (rowCells Utf.wides).size := by kernel_rfl

set_option maxHeartbeats 4000000 in
theorem width_any (r : Int) (h0 : -2147483648 ≤ r) (h1 : r ≤ 2147483647) (w : World) (T : Tab w) :
    Calls Tryd.prog 17 #[.int .i32 r] w fun e w' => e = .returned (.int .i64 (Utf.width r)) ∧ Below w.heap.size w w' := by
  have HT := Lib.hid T
  clear T
  go_enter Tryd.func17, Tryd.ntmps17
  go_upto_region 1 with (fail)
  go_cut [28] from 7 to 28 (fun s wx => s = .bool (Utf.noWidth r) ∧ wx = w)
  case first =>
    go_wp2_with fail
    all_goals (go_meet)
    all_goals (exact ⟨by simp [Utf.noWidth]; omega, rfl⟩)
  case rest =>
    obtain ⟨rfl, rfl⟩ := hcut
    have B0 : Below wc.heap.size wc wc := Below.refl _ _
    clear h0 h1
    obtain ⟨⟨t, fr, g1⟩, t2, fr2, g2⟩ := HT.out
    cases hn : Utf.noWidth r
    · go_wp2_with (refine wpList_load_row rfl 49 (.global 0) rfl 0 rfl t _ fr _ g1 Tryd.underlying49 rfl size_nones ?_)
      go_loopw [30] (fun v wr => ∃ k : Nat, k ≤ 3 ∧ v = .int .i64 k ∧ Utf.hit (Utf.nones.take k) r = false ∧ Below wc.heap.size wc wr) (fun v _ => 3 - (intOf v).toNat)
      case atStart => exact ⟨0, by omega, rfl, rfl, B0⟩
      case round =>
        obtain ⟨k, hk, rfl, hh, hb1⟩ := hrel
        rcases (show k = 0 ∨ k = 1 ∨ k = 2 ∨ k = 3 by omega) with rfl | rfl | rfl | rfl
        · have hs := Utf.hit_snoc Utf.nones 0 (by decide) r 768 879 rfl
          rw [hh, Bool.false_or] at hs
          have HS := Lib.hid hs
          clear hs hh
          rcases (show r < 768 ∨ 879 < r ∨ (768 ≤ r ∧ r ≤ 879) by omega) with h | h | ⟨h, h'⟩
          · have d1 : decide ((768 : Int) ≤ r) = false := decide_eq_false (by omega)
            have h2 : Utf.hit (Utf.nones.take 1) r = false := by rw [HS.out, d1]; rfl
            have H2 := Lib.hid h2
            clear h2
            go_wp2_with (refine wpList_index_run _ rfl 49 (.tmp 29) (.tmp 30) rfl (.agg (rowCells Utf.nones)) (.int .i64 0) _ rfl rfl (idx_nones_0 _) ?_)
            go_roundw
            case rel => exact ⟨1, by omega, by go_num, H2.out, below_alloc hb1 _⟩
            case measure => simp [intOf]
          · have d1 : decide ((768 : Int) ≤ r) = true := decide_eq_true (by omega)
            have d2 : decide (r ≤ 879) = false := decide_eq_false (by omega)
            have h2 : Utf.hit (Utf.nones.take 1) r = false := by rw [HS.out, d1]; rw [d2]; rfl
            have H2 := Lib.hid h2
            clear h2
            go_wp2_with (refine wpList_index_run _ rfl 49 (.tmp 29) (.tmp 30) rfl (.agg (rowCells Utf.nones)) (.int .i64 0) _ rfl rfl (idx_nones_0 _) ?_)
            go_roundw
            case rel => exact ⟨1, by omega, by go_num, H2.out, below_alloc hb1 _⟩
            case measure => simp [intOf]
          · have d1 : decide ((768 : Int) ≤ r) = true := decide_eq_true (by omega)
            have d2 : decide (r ≤ 879) = true := decide_eq_true (by omega)
            have ht := Utf.hit_of Utf.nones 0 r 768 879 rfl h h'
            have e := Lib.hid (show Utf.width r = 0 by unfold Utf.width; rw [if_neg (by simp [hn]), if_pos ht])
            clear ht
            go_wp2_with (refine wpList_index_run _ rfl 49 (.tmp 29) (.tmp 30) rfl (.agg (rowCells Utf.nones)) (.int .i64 0) _ rfl rfl (idx_nones_0 _) ?_)
            go_ret
            exact ⟨ret_int e.out.symm, below_alloc hb1 _⟩
        · have hs := Utf.hit_snoc Utf.nones 1 (by decide) r 8203 8207 rfl
          rw [hh, Bool.false_or] at hs
          have HS := Lib.hid hs
          clear hs hh
          rcases (show r < 8203 ∨ 8207 < r ∨ (8203 ≤ r ∧ r ≤ 8207) by omega) with h | h | ⟨h, h'⟩
          · have d1 : decide ((8203 : Int) ≤ r) = false := decide_eq_false (by omega)
            have h2 : Utf.hit (Utf.nones.take 2) r = false := by rw [HS.out, d1]; rfl
            have H2 := Lib.hid h2
            clear h2
            go_wp2_with (refine wpList_index_run _ rfl 49 (.tmp 29) (.tmp 30) rfl (.agg (rowCells Utf.nones)) (.int .i64 1) _ rfl rfl (idx_nones_1 _) ?_)
            go_roundw
            case rel => exact ⟨2, by omega, by go_num, H2.out, below_alloc hb1 _⟩
            case measure => simp [intOf]
          · have d1 : decide ((8203 : Int) ≤ r) = true := decide_eq_true (by omega)
            have d2 : decide (r ≤ 8207) = false := decide_eq_false (by omega)
            have h2 : Utf.hit (Utf.nones.take 2) r = false := by rw [HS.out, d1]; rw [d2]; rfl
            have H2 := Lib.hid h2
            clear h2
            go_wp2_with (refine wpList_index_run _ rfl 49 (.tmp 29) (.tmp 30) rfl (.agg (rowCells Utf.nones)) (.int .i64 1) _ rfl rfl (idx_nones_1 _) ?_)
            go_roundw
            case rel => exact ⟨2, by omega, by go_num, H2.out, below_alloc hb1 _⟩
            case measure => simp [intOf]
          · have d1 : decide ((8203 : Int) ≤ r) = true := decide_eq_true (by omega)
            have d2 : decide (r ≤ 8207) = true := decide_eq_true (by omega)
            have ht := Utf.hit_of Utf.nones 1 r 8203 8207 rfl h h'
            have e := Lib.hid (show Utf.width r = 0 by unfold Utf.width; rw [if_neg (by simp [hn]), if_pos ht])
            clear ht
            go_wp2_with (refine wpList_index_run _ rfl 49 (.tmp 29) (.tmp 30) rfl (.agg (rowCells Utf.nones)) (.int .i64 1) _ rfl rfl (idx_nones_1 _) ?_)
            go_ret
            exact ⟨ret_int e.out.symm, below_alloc hb1 _⟩
        · have hs := Utf.hit_snoc Utf.nones 2 (by decide) r 65024 65039 rfl
          rw [hh, Bool.false_or] at hs
          have HS := Lib.hid hs
          clear hs hh
          rcases (show r < 65024 ∨ 65039 < r ∨ (65024 ≤ r ∧ r ≤ 65039) by omega) with h | h | ⟨h, h'⟩
          · have d1 : decide ((65024 : Int) ≤ r) = false := decide_eq_false (by omega)
            have h2 : Utf.hit (Utf.nones.take 3) r = false := by rw [HS.out, d1]; rfl
            have H2 := Lib.hid h2
            clear h2
            go_wp2_with (refine wpList_index_run _ rfl 49 (.tmp 29) (.tmp 30) rfl (.agg (rowCells Utf.nones)) (.int .i64 2) _ rfl rfl (idx_nones_2 _) ?_)
            go_roundw
            case rel => exact ⟨3, by omega, by go_num, H2.out, below_alloc hb1 _⟩
            case measure => simp [intOf]
          · have d1 : decide ((65024 : Int) ≤ r) = true := decide_eq_true (by omega)
            have d2 : decide (r ≤ 65039) = false := decide_eq_false (by omega)
            have h2 : Utf.hit (Utf.nones.take 3) r = false := by rw [HS.out, d1]; rw [d2]; rfl
            have H2 := Lib.hid h2
            clear h2
            go_wp2_with (refine wpList_index_run _ rfl 49 (.tmp 29) (.tmp 30) rfl (.agg (rowCells Utf.nones)) (.int .i64 2) _ rfl rfl (idx_nones_2 _) ?_)
            go_roundw
            case rel => exact ⟨3, by omega, by go_num, H2.out, below_alloc hb1 _⟩
            case measure => simp [intOf]
          · have d1 : decide ((65024 : Int) ≤ r) = true := decide_eq_true (by omega)
            have d2 : decide (r ≤ 65039) = true := decide_eq_true (by omega)
            have ht := Utf.hit_of Utf.nones 2 r 65024 65039 rfl h h'
            have e := Lib.hid (show Utf.width r = 0 by unfold Utf.width; rw [if_neg (by simp [hn]), if_pos ht])
            clear ht
            go_wp2_with (refine wpList_index_run _ rfl 49 (.tmp 29) (.tmp 30) rfl (.agg (rowCells Utf.nones)) (.int .i64 2) _ rfl rfl (idx_nones_2 _) ?_)
            go_ret
            exact ⟨ret_int e.out.symm, below_alloc hb1 _⟩
        · have hw : Utf.hit Utf.nones r = false := hh
          have HN := Lib.hid hw
          clear hh hw
          have g3 := (hb1.block 1 (lt_of_heap g2)).trans g2
          go_wp2_with (refine wpList_load_row rfl 50 (.global 1) rfl 1 rfl t2 _ fr2 _ g3 Tryd.underlying50 rfl size_wides ?_)
          clear g3
          go_loopw [45] (fun v wr => ∃ k : Nat, k ≤ 10 ∧ v = .int .i64 k ∧ Utf.hit (Utf.wides.take k) r = false ∧ Below wc.heap.size wc wr) (fun v _ => 10 - (intOf v).toNat)
          case atStart => exact ⟨0, by omega, rfl, rfl, hb1⟩
          case round =>
            obtain ⟨k, hk, rfl, hh, hb2⟩ := hrel
            rcases (show k = 0 ∨ k = 1 ∨ k = 2 ∨ k = 3 ∨ k = 4 ∨ k = 5 ∨ k = 6 ∨ k = 7 ∨ k = 8 ∨ k = 9 ∨ k = 10 by omega) with rfl | rfl | rfl | rfl | rfl | rfl | rfl | rfl | rfl | rfl | rfl
            · have hs := Utf.hit_snoc Utf.wides 0 (by decide) r 4352 4447 rfl
              rw [hh, Bool.false_or] at hs
              have HS := Lib.hid hs
              clear hs hh
              rcases (show r < 4352 ∨ 4447 < r ∨ (4352 ≤ r ∧ r ≤ 4447) by omega) with h | h | ⟨h, h'⟩
              · have d1 : decide ((4352 : Int) ≤ r) = false := decide_eq_false (by omega)
                have h2 : Utf.hit (Utf.wides.take 1) r = false := by rw [HS.out, d1]; rfl
                have H2 := Lib.hid h2
                clear h2
                go_wp2_with (refine wpList_index_run _ rfl 50 (.tmp 44) (.tmp 45) rfl (.agg (rowCells Utf.wides)) (.int .i64 0) _ rfl rfl (idx_wides_0 _) ?_)
                go_roundw
                case rel => exact ⟨1, by omega, by go_num, H2.out, below_alloc hb2 _⟩
                case measure => simp [intOf]
              · have d1 : decide ((4352 : Int) ≤ r) = true := decide_eq_true (by omega)
                have d2 : decide (r ≤ 4447) = false := decide_eq_false (by omega)
                have h2 : Utf.hit (Utf.wides.take 1) r = false := by rw [HS.out, d1]; rw [d2]; rfl
                have H2 := Lib.hid h2
                clear h2
                go_wp2_with (refine wpList_index_run _ rfl 50 (.tmp 44) (.tmp 45) rfl (.agg (rowCells Utf.wides)) (.int .i64 0) _ rfl rfl (idx_wides_0 _) ?_)
                go_roundw
                case rel => exact ⟨1, by omega, by go_num, H2.out, below_alloc hb2 _⟩
                case measure => simp [intOf]
              · have d1 : decide ((4352 : Int) ≤ r) = true := decide_eq_true (by omega)
                have d2 : decide (r ≤ 4447) = true := decide_eq_true (by omega)
                have ht := Utf.hit_of Utf.wides 0 r 4352 4447 rfl h h'
                have e := Lib.hid (show Utf.width r = 2 by unfold Utf.width; rw [if_neg (by simp [hn]), if_neg (by simp [HN.out]), if_pos ht])
                clear ht
                go_wp2_with (refine wpList_index_run _ rfl 50 (.tmp 44) (.tmp 45) rfl (.agg (rowCells Utf.wides)) (.int .i64 0) _ rfl rfl (idx_wides_0 _) ?_)
                go_ret
                exact ⟨ret_int e.out.symm, below_alloc hb2 _⟩
            · have hs := Utf.hit_snoc Utf.wides 1 (by decide) r 11904 12350 rfl
              rw [hh, Bool.false_or] at hs
              have HS := Lib.hid hs
              clear hs hh
              rcases (show r < 11904 ∨ 12350 < r ∨ (11904 ≤ r ∧ r ≤ 12350) by omega) with h | h | ⟨h, h'⟩
              · have d1 : decide ((11904 : Int) ≤ r) = false := decide_eq_false (by omega)
                have h2 : Utf.hit (Utf.wides.take 2) r = false := by rw [HS.out, d1]; rfl
                have H2 := Lib.hid h2
                clear h2
                go_wp2_with (refine wpList_index_run _ rfl 50 (.tmp 44) (.tmp 45) rfl (.agg (rowCells Utf.wides)) (.int .i64 1) _ rfl rfl (idx_wides_1 _) ?_)
                go_roundw
                case rel => exact ⟨2, by omega, by go_num, H2.out, below_alloc hb2 _⟩
                case measure => simp [intOf]
              · have d1 : decide ((11904 : Int) ≤ r) = true := decide_eq_true (by omega)
                have d2 : decide (r ≤ 12350) = false := decide_eq_false (by omega)
                have h2 : Utf.hit (Utf.wides.take 2) r = false := by rw [HS.out, d1]; rw [d2]; rfl
                have H2 := Lib.hid h2
                clear h2
                go_wp2_with (refine wpList_index_run _ rfl 50 (.tmp 44) (.tmp 45) rfl (.agg (rowCells Utf.wides)) (.int .i64 1) _ rfl rfl (idx_wides_1 _) ?_)
                go_roundw
                case rel => exact ⟨2, by omega, by go_num, H2.out, below_alloc hb2 _⟩
                case measure => simp [intOf]
              · have d1 : decide ((11904 : Int) ≤ r) = true := decide_eq_true (by omega)
                have d2 : decide (r ≤ 12350) = true := decide_eq_true (by omega)
                have ht := Utf.hit_of Utf.wides 1 r 11904 12350 rfl h h'
                have e := Lib.hid (show Utf.width r = 2 by unfold Utf.width; rw [if_neg (by simp [hn]), if_neg (by simp [HN.out]), if_pos ht])
                clear ht
                go_wp2_with (refine wpList_index_run _ rfl 50 (.tmp 44) (.tmp 45) rfl (.agg (rowCells Utf.wides)) (.int .i64 1) _ rfl rfl (idx_wides_1 _) ?_)
                go_ret
                exact ⟨ret_int e.out.symm, below_alloc hb2 _⟩
            · have hs := Utf.hit_snoc Utf.wides 2 (by decide) r 12353 42191 rfl
              rw [hh, Bool.false_or] at hs
              have HS := Lib.hid hs
              clear hs hh
              rcases (show r < 12353 ∨ 42191 < r ∨ (12353 ≤ r ∧ r ≤ 42191) by omega) with h | h | ⟨h, h'⟩
              · have d1 : decide ((12353 : Int) ≤ r) = false := decide_eq_false (by omega)
                have h2 : Utf.hit (Utf.wides.take 3) r = false := by rw [HS.out, d1]; rfl
                have H2 := Lib.hid h2
                clear h2
                go_wp2_with (refine wpList_index_run _ rfl 50 (.tmp 44) (.tmp 45) rfl (.agg (rowCells Utf.wides)) (.int .i64 2) _ rfl rfl (idx_wides_2 _) ?_)
                go_roundw
                case rel => exact ⟨3, by omega, by go_num, H2.out, below_alloc hb2 _⟩
                case measure => simp [intOf]
              · have d1 : decide ((12353 : Int) ≤ r) = true := decide_eq_true (by omega)
                have d2 : decide (r ≤ 42191) = false := decide_eq_false (by omega)
                have h2 : Utf.hit (Utf.wides.take 3) r = false := by rw [HS.out, d1]; rw [d2]; rfl
                have H2 := Lib.hid h2
                clear h2
                go_wp2_with (refine wpList_index_run _ rfl 50 (.tmp 44) (.tmp 45) rfl (.agg (rowCells Utf.wides)) (.int .i64 2) _ rfl rfl (idx_wides_2 _) ?_)
                go_roundw
                case rel => exact ⟨3, by omega, by go_num, H2.out, below_alloc hb2 _⟩
                case measure => simp [intOf]
              · have d1 : decide ((12353 : Int) ≤ r) = true := decide_eq_true (by omega)
                have d2 : decide (r ≤ 42191) = true := decide_eq_true (by omega)
                have ht := Utf.hit_of Utf.wides 2 r 12353 42191 rfl h h'
                have e := Lib.hid (show Utf.width r = 2 by unfold Utf.width; rw [if_neg (by simp [hn]), if_neg (by simp [HN.out]), if_pos ht])
                clear ht
                go_wp2_with (refine wpList_index_run _ rfl 50 (.tmp 44) (.tmp 45) rfl (.agg (rowCells Utf.wides)) (.int .i64 2) _ rfl rfl (idx_wides_2 _) ?_)
                go_ret
                exact ⟨ret_int e.out.symm, below_alloc hb2 _⟩
            · have hs := Utf.hit_snoc Utf.wides 3 (by decide) r 44032 55203 rfl
              rw [hh, Bool.false_or] at hs
              have HS := Lib.hid hs
              clear hs hh
              rcases (show r < 44032 ∨ 55203 < r ∨ (44032 ≤ r ∧ r ≤ 55203) by omega) with h | h | ⟨h, h'⟩
              · have d1 : decide ((44032 : Int) ≤ r) = false := decide_eq_false (by omega)
                have h2 : Utf.hit (Utf.wides.take 4) r = false := by rw [HS.out, d1]; rfl
                have H2 := Lib.hid h2
                clear h2
                go_wp2_with (refine wpList_index_run _ rfl 50 (.tmp 44) (.tmp 45) rfl (.agg (rowCells Utf.wides)) (.int .i64 3) _ rfl rfl (idx_wides_3 _) ?_)
                go_roundw
                case rel => exact ⟨4, by omega, by go_num, H2.out, below_alloc hb2 _⟩
                case measure => simp [intOf]
              · have d1 : decide ((44032 : Int) ≤ r) = true := decide_eq_true (by omega)
                have d2 : decide (r ≤ 55203) = false := decide_eq_false (by omega)
                have h2 : Utf.hit (Utf.wides.take 4) r = false := by rw [HS.out, d1]; rw [d2]; rfl
                have H2 := Lib.hid h2
                clear h2
                go_wp2_with (refine wpList_index_run _ rfl 50 (.tmp 44) (.tmp 45) rfl (.agg (rowCells Utf.wides)) (.int .i64 3) _ rfl rfl (idx_wides_3 _) ?_)
                go_roundw
                case rel => exact ⟨4, by omega, by go_num, H2.out, below_alloc hb2 _⟩
                case measure => simp [intOf]
              · have d1 : decide ((44032 : Int) ≤ r) = true := decide_eq_true (by omega)
                have d2 : decide (r ≤ 55203) = true := decide_eq_true (by omega)
                have ht := Utf.hit_of Utf.wides 3 r 44032 55203 rfl h h'
                have e := Lib.hid (show Utf.width r = 2 by unfold Utf.width; rw [if_neg (by simp [hn]), if_neg (by simp [HN.out]), if_pos ht])
                clear ht
                go_wp2_with (refine wpList_index_run _ rfl 50 (.tmp 44) (.tmp 45) rfl (.agg (rowCells Utf.wides)) (.int .i64 3) _ rfl rfl (idx_wides_3 _) ?_)
                go_ret
                exact ⟨ret_int e.out.symm, below_alloc hb2 _⟩
            · have hs := Utf.hit_snoc Utf.wides 4 (by decide) r 63744 64255 rfl
              rw [hh, Bool.false_or] at hs
              have HS := Lib.hid hs
              clear hs hh
              rcases (show r < 63744 ∨ 64255 < r ∨ (63744 ≤ r ∧ r ≤ 64255) by omega) with h | h | ⟨h, h'⟩
              · have d1 : decide ((63744 : Int) ≤ r) = false := decide_eq_false (by omega)
                have h2 : Utf.hit (Utf.wides.take 5) r = false := by rw [HS.out, d1]; rfl
                have H2 := Lib.hid h2
                clear h2
                go_wp2_with (refine wpList_index_run _ rfl 50 (.tmp 44) (.tmp 45) rfl (.agg (rowCells Utf.wides)) (.int .i64 4) _ rfl rfl (idx_wides_4 _) ?_)
                go_roundw
                case rel => exact ⟨5, by omega, by go_num, H2.out, below_alloc hb2 _⟩
                case measure => simp [intOf]
              · have d1 : decide ((63744 : Int) ≤ r) = true := decide_eq_true (by omega)
                have d2 : decide (r ≤ 64255) = false := decide_eq_false (by omega)
                have h2 : Utf.hit (Utf.wides.take 5) r = false := by rw [HS.out, d1]; rw [d2]; rfl
                have H2 := Lib.hid h2
                clear h2
                go_wp2_with (refine wpList_index_run _ rfl 50 (.tmp 44) (.tmp 45) rfl (.agg (rowCells Utf.wides)) (.int .i64 4) _ rfl rfl (idx_wides_4 _) ?_)
                go_roundw
                case rel => exact ⟨5, by omega, by go_num, H2.out, below_alloc hb2 _⟩
                case measure => simp [intOf]
              · have d1 : decide ((63744 : Int) ≤ r) = true := decide_eq_true (by omega)
                have d2 : decide (r ≤ 64255) = true := decide_eq_true (by omega)
                have ht := Utf.hit_of Utf.wides 4 r 63744 64255 rfl h h'
                have e := Lib.hid (show Utf.width r = 2 by unfold Utf.width; rw [if_neg (by simp [hn]), if_neg (by simp [HN.out]), if_pos ht])
                clear ht
                go_wp2_with (refine wpList_index_run _ rfl 50 (.tmp 44) (.tmp 45) rfl (.agg (rowCells Utf.wides)) (.int .i64 4) _ rfl rfl (idx_wides_4 _) ?_)
                go_ret
                exact ⟨ret_int e.out.symm, below_alloc hb2 _⟩
            · have hs := Utf.hit_snoc Utf.wides 5 (by decide) r 65072 65135 rfl
              rw [hh, Bool.false_or] at hs
              have HS := Lib.hid hs
              clear hs hh
              rcases (show r < 65072 ∨ 65135 < r ∨ (65072 ≤ r ∧ r ≤ 65135) by omega) with h | h | ⟨h, h'⟩
              · have d1 : decide ((65072 : Int) ≤ r) = false := decide_eq_false (by omega)
                have h2 : Utf.hit (Utf.wides.take 6) r = false := by rw [HS.out, d1]; rfl
                have H2 := Lib.hid h2
                clear h2
                go_wp2_with (refine wpList_index_run _ rfl 50 (.tmp 44) (.tmp 45) rfl (.agg (rowCells Utf.wides)) (.int .i64 5) _ rfl rfl (idx_wides_5 _) ?_)
                go_roundw
                case rel => exact ⟨6, by omega, by go_num, H2.out, below_alloc hb2 _⟩
                case measure => simp [intOf]
              · have d1 : decide ((65072 : Int) ≤ r) = true := decide_eq_true (by omega)
                have d2 : decide (r ≤ 65135) = false := decide_eq_false (by omega)
                have h2 : Utf.hit (Utf.wides.take 6) r = false := by rw [HS.out, d1]; rw [d2]; rfl
                have H2 := Lib.hid h2
                clear h2
                go_wp2_with (refine wpList_index_run _ rfl 50 (.tmp 44) (.tmp 45) rfl (.agg (rowCells Utf.wides)) (.int .i64 5) _ rfl rfl (idx_wides_5 _) ?_)
                go_roundw
                case rel => exact ⟨6, by omega, by go_num, H2.out, below_alloc hb2 _⟩
                case measure => simp [intOf]
              · have d1 : decide ((65072 : Int) ≤ r) = true := decide_eq_true (by omega)
                have d2 : decide (r ≤ 65135) = true := decide_eq_true (by omega)
                have ht := Utf.hit_of Utf.wides 5 r 65072 65135 rfl h h'
                have e := Lib.hid (show Utf.width r = 2 by unfold Utf.width; rw [if_neg (by simp [hn]), if_neg (by simp [HN.out]), if_pos ht])
                clear ht
                go_wp2_with (refine wpList_index_run _ rfl 50 (.tmp 44) (.tmp 45) rfl (.agg (rowCells Utf.wides)) (.int .i64 5) _ rfl rfl (idx_wides_5 _) ?_)
                go_ret
                exact ⟨ret_int e.out.symm, below_alloc hb2 _⟩
            · have hs := Utf.hit_snoc Utf.wides 6 (by decide) r 65280 65376 rfl
              rw [hh, Bool.false_or] at hs
              have HS := Lib.hid hs
              clear hs hh
              rcases (show r < 65280 ∨ 65376 < r ∨ (65280 ≤ r ∧ r ≤ 65376) by omega) with h | h | ⟨h, h'⟩
              · have d1 : decide ((65280 : Int) ≤ r) = false := decide_eq_false (by omega)
                have h2 : Utf.hit (Utf.wides.take 7) r = false := by rw [HS.out, d1]; rfl
                have H2 := Lib.hid h2
                clear h2
                go_wp2_with (refine wpList_index_run _ rfl 50 (.tmp 44) (.tmp 45) rfl (.agg (rowCells Utf.wides)) (.int .i64 6) _ rfl rfl (idx_wides_6 _) ?_)
                go_roundw
                case rel => exact ⟨7, by omega, by go_num, H2.out, below_alloc hb2 _⟩
                case measure => simp [intOf]
              · have d1 : decide ((65280 : Int) ≤ r) = true := decide_eq_true (by omega)
                have d2 : decide (r ≤ 65376) = false := decide_eq_false (by omega)
                have h2 : Utf.hit (Utf.wides.take 7) r = false := by rw [HS.out, d1]; rw [d2]; rfl
                have H2 := Lib.hid h2
                clear h2
                go_wp2_with (refine wpList_index_run _ rfl 50 (.tmp 44) (.tmp 45) rfl (.agg (rowCells Utf.wides)) (.int .i64 6) _ rfl rfl (idx_wides_6 _) ?_)
                go_roundw
                case rel => exact ⟨7, by omega, by go_num, H2.out, below_alloc hb2 _⟩
                case measure => simp [intOf]
              · have d1 : decide ((65280 : Int) ≤ r) = true := decide_eq_true (by omega)
                have d2 : decide (r ≤ 65376) = true := decide_eq_true (by omega)
                have ht := Utf.hit_of Utf.wides 6 r 65280 65376 rfl h h'
                have e := Lib.hid (show Utf.width r = 2 by unfold Utf.width; rw [if_neg (by simp [hn]), if_neg (by simp [HN.out]), if_pos ht])
                clear ht
                go_wp2_with (refine wpList_index_run _ rfl 50 (.tmp 44) (.tmp 45) rfl (.agg (rowCells Utf.wides)) (.int .i64 6) _ rfl rfl (idx_wides_6 _) ?_)
                go_ret
                exact ⟨ret_int e.out.symm, below_alloc hb2 _⟩
            · have hs := Utf.hit_snoc Utf.wides 7 (by decide) r 65504 65510 rfl
              rw [hh, Bool.false_or] at hs
              have HS := Lib.hid hs
              clear hs hh
              rcases (show r < 65504 ∨ 65510 < r ∨ (65504 ≤ r ∧ r ≤ 65510) by omega) with h | h | ⟨h, h'⟩
              · have d1 : decide ((65504 : Int) ≤ r) = false := decide_eq_false (by omega)
                have h2 : Utf.hit (Utf.wides.take 8) r = false := by rw [HS.out, d1]; rfl
                have H2 := Lib.hid h2
                clear h2
                go_wp2_with (refine wpList_index_run _ rfl 50 (.tmp 44) (.tmp 45) rfl (.agg (rowCells Utf.wides)) (.int .i64 7) _ rfl rfl (idx_wides_7 _) ?_)
                go_roundw
                case rel => exact ⟨8, by omega, by go_num, H2.out, below_alloc hb2 _⟩
                case measure => simp [intOf]
              · have d1 : decide ((65504 : Int) ≤ r) = true := decide_eq_true (by omega)
                have d2 : decide (r ≤ 65510) = false := decide_eq_false (by omega)
                have h2 : Utf.hit (Utf.wides.take 8) r = false := by rw [HS.out, d1]; rw [d2]; rfl
                have H2 := Lib.hid h2
                clear h2
                go_wp2_with (refine wpList_index_run _ rfl 50 (.tmp 44) (.tmp 45) rfl (.agg (rowCells Utf.wides)) (.int .i64 7) _ rfl rfl (idx_wides_7 _) ?_)
                go_roundw
                case rel => exact ⟨8, by omega, by go_num, H2.out, below_alloc hb2 _⟩
                case measure => simp [intOf]
              · have d1 : decide ((65504 : Int) ≤ r) = true := decide_eq_true (by omega)
                have d2 : decide (r ≤ 65510) = true := decide_eq_true (by omega)
                have ht := Utf.hit_of Utf.wides 7 r 65504 65510 rfl h h'
                have e := Lib.hid (show Utf.width r = 2 by unfold Utf.width; rw [if_neg (by simp [hn]), if_neg (by simp [HN.out]), if_pos ht])
                clear ht
                go_wp2_with (refine wpList_index_run _ rfl 50 (.tmp 44) (.tmp 45) rfl (.agg (rowCells Utf.wides)) (.int .i64 7) _ rfl rfl (idx_wides_7 _) ?_)
                go_ret
                exact ⟨ret_int e.out.symm, below_alloc hb2 _⟩
            · have hs := Utf.hit_snoc Utf.wides 8 (by decide) r 127744 128591 rfl
              rw [hh, Bool.false_or] at hs
              have HS := Lib.hid hs
              clear hs hh
              rcases (show r < 127744 ∨ 128591 < r ∨ (127744 ≤ r ∧ r ≤ 128591) by omega) with h | h | ⟨h, h'⟩
              · have d1 : decide ((127744 : Int) ≤ r) = false := decide_eq_false (by omega)
                have h2 : Utf.hit (Utf.wides.take 9) r = false := by rw [HS.out, d1]; rfl
                have H2 := Lib.hid h2
                clear h2
                go_wp2_with (refine wpList_index_run _ rfl 50 (.tmp 44) (.tmp 45) rfl (.agg (rowCells Utf.wides)) (.int .i64 8) _ rfl rfl (idx_wides_8 _) ?_)
                go_roundw
                case rel => exact ⟨9, by omega, by go_num, H2.out, below_alloc hb2 _⟩
                case measure => simp [intOf]
              · have d1 : decide ((127744 : Int) ≤ r) = true := decide_eq_true (by omega)
                have d2 : decide (r ≤ 128591) = false := decide_eq_false (by omega)
                have h2 : Utf.hit (Utf.wides.take 9) r = false := by rw [HS.out, d1]; rw [d2]; rfl
                have H2 := Lib.hid h2
                clear h2
                go_wp2_with (refine wpList_index_run _ rfl 50 (.tmp 44) (.tmp 45) rfl (.agg (rowCells Utf.wides)) (.int .i64 8) _ rfl rfl (idx_wides_8 _) ?_)
                go_roundw
                case rel => exact ⟨9, by omega, by go_num, H2.out, below_alloc hb2 _⟩
                case measure => simp [intOf]
              · have d1 : decide ((127744 : Int) ≤ r) = true := decide_eq_true (by omega)
                have d2 : decide (r ≤ 128591) = true := decide_eq_true (by omega)
                have ht := Utf.hit_of Utf.wides 8 r 127744 128591 rfl h h'
                have e := Lib.hid (show Utf.width r = 2 by unfold Utf.width; rw [if_neg (by simp [hn]), if_neg (by simp [HN.out]), if_pos ht])
                clear ht
                go_wp2_with (refine wpList_index_run _ rfl 50 (.tmp 44) (.tmp 45) rfl (.agg (rowCells Utf.wides)) (.int .i64 8) _ rfl rfl (idx_wides_8 _) ?_)
                go_ret
                exact ⟨ret_int e.out.symm, below_alloc hb2 _⟩
            · have hs := Utf.hit_snoc Utf.wides 9 (by decide) r 131072 262141 rfl
              rw [hh, Bool.false_or] at hs
              have HS := Lib.hid hs
              clear hs hh
              rcases (show r < 131072 ∨ 262141 < r ∨ (131072 ≤ r ∧ r ≤ 262141) by omega) with h | h | ⟨h, h'⟩
              · have d1 : decide ((131072 : Int) ≤ r) = false := decide_eq_false (by omega)
                have h2 : Utf.hit (Utf.wides.take 10) r = false := by rw [HS.out, d1]; rfl
                have H2 := Lib.hid h2
                clear h2
                go_wp2_with (refine wpList_index_run _ rfl 50 (.tmp 44) (.tmp 45) rfl (.agg (rowCells Utf.wides)) (.int .i64 9) _ rfl rfl (idx_wides_9 _) ?_)
                go_roundw
                case rel => exact ⟨10, by omega, by go_num, H2.out, below_alloc hb2 _⟩
                case measure => simp [intOf]
              · have d1 : decide ((131072 : Int) ≤ r) = true := decide_eq_true (by omega)
                have d2 : decide (r ≤ 262141) = false := decide_eq_false (by omega)
                have h2 : Utf.hit (Utf.wides.take 10) r = false := by rw [HS.out, d1]; rw [d2]; rfl
                have H2 := Lib.hid h2
                clear h2
                go_wp2_with (refine wpList_index_run _ rfl 50 (.tmp 44) (.tmp 45) rfl (.agg (rowCells Utf.wides)) (.int .i64 9) _ rfl rfl (idx_wides_9 _) ?_)
                go_roundw
                case rel => exact ⟨10, by omega, by go_num, H2.out, below_alloc hb2 _⟩
                case measure => simp [intOf]
              · have d1 : decide ((131072 : Int) ≤ r) = true := decide_eq_true (by omega)
                have d2 : decide (r ≤ 262141) = true := decide_eq_true (by omega)
                have ht := Utf.hit_of Utf.wides 9 r 131072 262141 rfl h h'
                have e := Lib.hid (show Utf.width r = 2 by unfold Utf.width; rw [if_neg (by simp [hn]), if_neg (by simp [HN.out]), if_pos ht])
                clear ht
                go_wp2_with (refine wpList_index_run _ rfl 50 (.tmp 44) (.tmp 45) rfl (.agg (rowCells Utf.wides)) (.int .i64 9) _ rfl rfl (idx_wides_9 _) ?_)
                go_ret
                exact ⟨ret_int e.out.symm, below_alloc hb2 _⟩
            · have e := Lib.hid (show Utf.width r = 1 by
                  have hw : Utf.hit Utf.wides r = false := hh
                  unfold Utf.width
                  rw [if_neg (by simp [hn]), if_neg (by simp [HN.out]), if_neg (by simp [hw])])
              clear hh
              go_wp2_with fail
              go_ret
              exact ⟨ret_int e.out.symm, hb2⟩
    · have e := Lib.hid (show Utf.width r = 0 by unfold Utf.width; rw [if_pos hn])
      go_wp2_with fail
      go_ret
      exact ⟨ret_int e.out.symm, Below.refl _ _⟩

end Go.Proofs.YtkdmdklmkachfaaDoor
