/- The walk of frag.Split: no bytes, and too many. -/
import Derived.Test.YtpoobdccmaiaiaaFrSplit
namespace Go.Proofs.Ytpoobdccmaiaiaa
open Go.RowKit
open Frag
set_option linter.unusedVariables false
set_option linter.unusedSimpArgs false

set_option maxRecDepth 100000 in
set_option maxHeartbeats 1000000 in
theorem split_none (id : Int) (A : Option Addr) (c : Nat) (w : World) :
    Calls Try.prog 9 #[.int .u32 id, .slice A 0 c] w fun e w' => ∃ A' c' L, e = .returned (.tuple #[.slice A' L.length c', .int .i64 0]) ∧ L.map (·.1) = Frag.parts id [] 1 1 ∧ Parts w' w.heap.size (.slice A' L.length c') L ∧ Below w.heap.size w w' := by
  go_enter Try.func9, Try.ntmps9
  go_wp2_with fail
  go_loopw [7, 18] (fun v i wr => ∃ (k : Nat) (A' : Option Addr) (c' : Nat) (L : List (PV × Value)), k ≤ 1 ∧ i = .int .i64 k ∧ v = .slice A' L.length c' ∧ L.length = k ∧ L.map (·.1) = Frag.parts id [] 1 k ∧ Parts wr w.heap.size (.slice A' L.length c') L ∧ Below w.heap.size w wr) (fun _ i _ => 1 - (intOf i).toNat)
  case atStart => exact ⟨0, none, 0, [], Nat.zero_le _, rfl, rfl, rfl, rfl, Parts.nil _ _, Below.refl _ _⟩
  case round =>
    obtain ⟨k, A1, c1, L, hk, rfl, rfl, hL, hmap, hP, hbel⟩ := hrel
    rcases (show k = 0 ∨ k = 1 by omega) with rfl | rfl
    · obtain rfl := List.eq_nil_of_length_eq_zero hL
      have hP3 := hP.under (below_alloc (Below.refl _ _) (.cells #[.int .u32 id, .int .i64 0, .int .i64 1, .slice none 0 0] 34))
      have hb3 := below_alloc hbel (.cells #[.int .u32 id, .int .i64 0, .int .i64 1, .slice none 0 0] 34)
      cases A
      all_goals
        go_wp2_with (at_builtin; first
          | (refine wpList_append_row _ rfl (.tmp 21) (.tmp 37) 26 34 4 48 rfl Try.underlying26 (by kernel_rfl) (by omega) (by omega) w.heap.size (.slice A1 0 c1) 0 [] rfl hP3.row wr.heap.size (cells (⟨id, 0, 1, []⟩, .slice none 0 0)) rfl (Blk.new _ _ _) rfl (by intro u hu; simp [cells] at hu; rcases hu with rfl | rfl | rfl | rfl <;> rfl) (by omega) hb3.size ?_; intro g cap w3 p1 p2 p3 p4))
        have hap : Apart (.slice A1 0 c1) (.slice none 0 0) := fun x hx hx2 => by cases hx2
        have hP4 := Parts.more hP3 (⟨id, 0, 1, []⟩, .slice none 0 0) (OwnI.nil _ _ _ _) hap g cap p1 p2 p3
        have hb5 := below_of_only hb3 p2 hb3.size (fun x hx => (hP.row.blocks x hx).1)
        refine ⟨⟨1, some ⟨g, 0, none⟩, cap, [(⟨id, 0, 1, []⟩, .slice none 0 0)], by omega, rfl, rfl, rfl, rfl, hP4, hb5⟩, ?_⟩
        simp [intOf]
    · go_wp2_with fail
      go_ret2
      exact ⟨A1, c1, L, rfl, hmap, hP, hbel⟩

set_option maxRecDepth 100000 in
set_option maxHeartbeats 1000000 in
theorem split_long (id : Int) (A : Option Addr) (n c : Nat) (w : World) (h : 57344 < n) (h2 : n ≤ 9000000000000000000) :
    Calls Try.prog 9 #[.int .u32 id, .slice A n c] w fun e w' => e = .returned (.tuple #[.slice none 0 0, .int .i64 4]) ∧ w = w' := by
  obtain ⟨m, hm⟩ : ∃ m, m = (n + 447) / 448 := ⟨_, rfl⟩
  have hm1 : 128 < m ∧ (m : Int) ≤ 20587911796751029 := by omega
  go_enter Try.func9, Try.ntmps9
  go_upto_region 1 with (fail)
  go_cut [6] from 9 to 14 (fun s wx => s = .int .i64 m ∧ wx = w)
  case first =>
    go_wp2_with fail
    all_goals (go_meet)
    all_goals (exact ⟨by simp; omega, rfl⟩)
  case rest =>
    obtain ⟨rfl, rfl⟩ := hcut
    have d0 : decide (128 < (m : Int)) = true := decide_eq_true (by omega)
    clear hm
    go_wp2_with fail
    go_ret2
    exact ⟨rfl, rfl⟩
end Go.Proofs.Ytpoobdccmaiaiaa
