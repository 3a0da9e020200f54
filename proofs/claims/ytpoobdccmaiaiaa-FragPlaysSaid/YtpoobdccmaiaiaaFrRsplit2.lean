/- The walk of the document's Split: no bytes, and too many. -/
import Derived.Test.YtpoobdccmaiaiaaFrRsplit
namespace Go.Proofs.Ytpoobdccmaiaiaa
open Go.RowKit
open Frag
set_option linter.unusedVariables false
set_option linter.unusedSimpArgs false

theorem rsplit_long (id : Int) (A : Option Addr) (n c : Nat) (w : World) (h : 57344 < n) (h2 : n ≤ 9000000000000000000) :
    Calls Try.prog 10 #[.int .u32 id, .slice A n c] w fun e w' => e = .returned (.tuple #[.slice none 0 0, .int .i64 4]) ∧ w = w' := by
  have d0 : decide (57344 < (n : Int)) = true := decide_eq_true (by omega)
  go_enter Try.func10, Try.ntmps10
  go_wp2_with fail
  go_ret2
  exact ⟨rfl, rfl⟩

set_option maxRecDepth 100000 in
set_option maxHeartbeats 1000000 in
theorem rsplit_none (id : Int) (A : Option Addr) (c : Nat) (w : World) :
    Calls Try.prog 10 #[.int .u32 id, .slice A 0 c] w fun e w' => ∃ A' c' L, e = .returned (.tuple #[.slice A' L.length c', .int .i64 0]) ∧ L.map (·.1) = Frag.parts id [] 1 1 ∧ Parts w' w.heap.size (.slice A' L.length c') L ∧ Below w.heap.size w w' := by
  have hP0 := Parts.lit0 w w.heap.size (Nat.le_refl _)
  have hb1 := below_alloc (Below.refl w.heap.size w) (.cells #[] 34)
  have HP0 := Lib.hid hP0
  have HB1 := Lib.hid hb1
  clear hP0 hb1
  go_enter Try.func10, Try.ntmps10
  go_wp2_with fail
  go_loopw [6, 7] (fun v i wr => ∃ k : Nat, k ≤ 1 ∧ i = .int .i64 (448 * k : Nat) ∧ RS id [] w k v wr) (fun _ i _ => 448 - (intOf i).toNat)
  case atStart => exact ⟨0, Nat.zero_le _, rfl, some ⟨w.heap.size, 0, none⟩, 0, [], rfl, rfl, rfl, HP0.out, HB1.out⟩
  case round =>
    obtain ⟨k, hk, rfl, A1, c1, L, rfl, hL, hmap, hP, hbel⟩ := hrel
    have HLK := Lib.hid hL
    have HMAP := Lib.hid hmap
    clear hL hmap HP0 HB1
    rcases (show k = 0 ∨ k = 1 by omega) with rfl | rfl
    · obtain rfl := List.eq_nil_of_length_eq_zero HLK.out
      cases A
      all_goals
        go_wp2_with fail
        refine (copy_any _ _ _ [] wr rfl (ReadI.nil _ _ _) (by simp)).mono ?_
        rintro e w2 ⟨A2, c2, rfl, o2, h2⟩
        have hP2 := hP.under h2
        have hb2 := hbel.trans (h2.mono hbel.size)
        have hP3 := hP2.under (below_alloc (Below.refl _ _) (.cells #[.int .u32 id, .int .i64 0, .int .i64 0, .slice A2 0 c2] 34))
        have hb3 := below_alloc hb2 (.cells #[.int .u32 id, .int .i64 0, .int .i64 0, .slice A2 0 c2] 34)
        have hap : Apart (.slice A1 0 c1) (.slice A2 0 c2) := fun x hx hx2 => by
          have h1 := (hP.row.blocks x hx).2
          have h3 := (o2.lt x hx2).1
          omega
        have ho := (o2.mono hbel.size).alloc (.cells #[.int .u32 id, .int .i64 0, .int .i64 0, .slice A2 0 c2] 34)
        clear o2 h2 hP2
        go_wp2_with (at_builtin; first
          | (refine wpList_append_row _ rfl (.tmp 23) (.tmp 37) 26 34 4 48 rfl Try.underlying26 (by kernel_rfl) (by omega) (by omega) w.heap.size (.slice A1 0 c1) 0 [] rfl hP3.row w2.heap.size (cells (⟨id, 0, 0, []⟩, .slice A2 0 c2)) rfl (Blk.new _ _ _) rfl (by intro u hu; simp [cells] at hu; rcases hu with rfl | rfl | rfl | rfl <;> rfl) (by omega) hb3.size ?_; intro g cap w3 p1 p2 p3 p4))
        have hP4 := Parts.more hP3 (⟨id, 0, 0, []⟩, .slice A2 0 c2) ho hap g cap p1 p2 p3
        have hb5 := below_of_only hb3 p2 hb3.size (fun x hx => (hP.row.blocks x hx).1)
        refine ⟨⟨1, by omega, rfl, some ⟨g, 0, none⟩, cap, [(⟨id, 0, 0, []⟩, .slice A2 0 c2)], rfl, rfl, rfl, hP4, hb5⟩, ?_⟩
        simp [intOf]
    · obtain ⟨q, rfl⟩ : ∃ q, L = [q] := by
        have := HLK.out
        match L, this with
        | [q], _ => exact ⟨q, rfl⟩
      have hLp : 0 < 1 := by omega
      obtain ⟨g, cg, hv, hgb⟩ : ∃ g cg, Value.slice A1 1 c1 = .slice (some ⟨g, 0, none⟩) 1 cg ∧ w.heap.size ≤ g := by
        rcases hP.row.2 with ⟨_, h0⟩ | ⟨g, cap, cur, hv, hb, _⟩
        · cases h0
        · exact ⟨g, cap, hv, hb⟩
      injection hv with e1 _ e3
      subst e1 e3
      go_wp2_with fail
      go_loopw [41] (fun i wr => ∃ (j : Nat), j ≤ 1 ∧ i = .int .i64 j ∧ Parts wr w.heap.size (.slice (some ⟨g, 0, none⟩) 1 c1) (setct 1 j [q]) ∧ Below w.heap.size w wr) (fun i _ => 1 - (intOf i).toNat)
      case atStart => exact ⟨0, Nat.zero_le _, rfl, by rw [setct_zero]; exact hP, hbel⟩
      case round =>
        obtain ⟨j, hj, rfl, hPj, hbj⟩ := hrel
        rcases (show j = 0 ∨ j = 1 by omega) with rfl | rfl
        · have c2 : wr.cell? ⟨g, 2, none⟩ = some (.int .i64 q.1.ct) := World.ownsRow.cellAt hPj.row 2 (by simp [setct])
          have f2 : wr.frozen? ⟨g, 2, none⟩ = false := World.ownsRow.frozenAt hPj.row _
          have hP5 := hPj.count rfl 0 q rfl 1
          have hb5 := hbj.setCell (p := ⟨g, 2, none⟩) hgb (.int .i64 1)
          have HP5 := Lib.hid hP5
          have HB5 := Lib.hid hb5
          clear hP5 hb5 hPj hbj
          go_wp2_with fail
          go_roundw
          case rel => exact ⟨1, by omega, rfl, HP5.out, HB5.out⟩
          case measure => simp [intOf]
        · go_wp2_with fail
          go_ret2
          exact ⟨some ⟨g, 0, none⟩, c1, _, rfl, setct_parts id [] 1 1 [q] HMAP.out, hPj, hbj⟩

theorem rsplit_any (id : Int) (A : Option Addr) (n c : Nat) (b : List Int) (w : World) (hn : n = b.length) (hcap : n ≤ c) (hx : ReadI w .u8 A b) (hl : b.length ≤ 57344) :
    Calls Try.prog 10 #[.int .u32 id, .slice A n c] w fun e w' => ∃ A' c' L, e = .returned (.tuple #[.slice A' L.length c', .int .i64 0]) ∧ L.map (·.1) = Frag.parts id b (Frag.count b) (Frag.count b) ∧ Parts w' w.heap.size (.slice A' L.length c') L ∧ Below w.heap.size w w' := by
  by_cases h : b = []
  · subst h hn
    exact rsplit_none id A c w
  · exact rsplit_fits id A n c b w hn hcap hx hl h
end Go.Proofs.Ytpoobdccmaiaiaa
