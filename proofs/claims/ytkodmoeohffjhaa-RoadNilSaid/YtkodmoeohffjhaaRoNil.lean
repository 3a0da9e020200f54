/- The walk of the law RoadNil. -/
import Derived.Test.YtkodmoeohffjhaaRoFixed
namespace Go.Proofs.Ytkodmoeohffjhaa
open Go.RowKit Go.Proofs.Ytkodmoeohffjhaa.Hp
set_option linter.unusedVariables false
set_option linter.unusedSimpArgs false

set_option maxHeartbeats 4000000 in
set_option maxRecDepth 100000 in
theorem rnil_any (addr : Int) (down : Bool) (A : Option Addr) (n c : Nat) (i d : Int) (w : World) : Calls Try.prog 6 #[gramV addr down A n c, .int .i64 i, .int .i64 d] w fun e w' => e = .returned (.bool true) ∧ Below w.heap.size w w' := by
  have hAt := at_nil i
  have hF := fixed_any
  have HAt := Lib.hid hAt
  have HF := Lib.hid hF
  clear hAt hF
  go_enter Try.func6, Try.ntmps6
  go_wp2_with (first
    | (go_at_call 26; refine (HAt.out _).mono ?_; rintro e w1 ⟨rfl, hb⟩; obtain ⟨hb0, hz⟩ := below_new hb; have hX := (Blk.new w _ _).under hb; have g0 := hX.cell 0; have g1 := hX.cell 1; have g2 := hX.cell 2; simp at g0 g1 g2; have HX := Lib.hid hX; have HB1 := Lib.hid hb0; clear hb hb0 hX)
    | (go_at_call 8; refine (HF.out _).mono ?_; rintro e w2 ⟨rfl, hb⟩; obtain ⟨hb0, hz2⟩ := below_new hb; have hX := HX.out.under hb0; have hY := (Blk.new w1 _ _).under hb; have g0 := hX.cell 0; have g1 := hX.cell 1; have g2 := hX.cell 2; have y2 := hY.cell 2; simp at g0 g1 g2 y2; have HY := Lib.hid hY; have HB2 := Lib.hid (HB1.out.trans (hb0.mono HB1.out.size)); clear hb hb0 hX hY)
    | (go_at_call 12; refine (send_nil addr down A n c d w2).mono ?_; rintro e w3 ⟨rfl, hb⟩; have hY := HY.out.under hb; have y2 := hY.cell 2; simp at y2; have HB3 := Lib.hid (HB2.out.trans (hb.mono HB2.out.size)); clear hb hY)
    | (go_at_call 10; refine (tick_nil w3).mono ?_; rintro e w' ⟨rfl, rfl⟩)
    | (go_at_call 14; refine (count_nil w3).mono ?_; rintro e w' ⟨rfl, rfl⟩)
    | (go_at_call 17; refine (drop_nil i w3).mono ?_; rintro e w4 ⟨rfl, hb⟩; have HB4 := Lib.hid (HB3.out.trans (hb.mono HB3.out.size)); clear hb)
    | (go_at_call 15; refine (double_nil i w4).mono ?_; rintro e w' ⟨rfl, rfl⟩)
    | (go_at_call 24; refine (late_nil i d w4).mono ?_; rintro e w' ⟨rfl, rfl⟩))
  go_ret
  exact ⟨rfl, HB4.out⟩
end Go.Proofs.Ytkodmoeohffjhaa
