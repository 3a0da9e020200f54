/- The laws of colours: what each law's function answers, off the contracts. -/
import Derived.Test.YtkgklolpeanpbaaDoorColDone
namespace Go.Proofs.YtkgklolpeanpbaaDoor
open Go.RowKit
set_option linter.unusedVariables false
set_option linter.unusedSimpArgs false

theorem fixed_any  (w : World) (T : Tab w) :
    Calls Tryd.prog 10 #[] w fun e w' => e = .returned (.bool true) ∧ Below w.heap.size w w' := by
  have g1 := Col.eg1.1
  have g2 := Col.eg1.2.1
  have g3 := Col.eg1.2.2.1
  have g4 := Col.eg1.2.2.2
  have g5 := Col.eg2
  have g6 := Col.eg3
  have g7 := Col.eg4
  have HB0 : Below w.heap.size w w := Below.refl _ _
  have T0 := T
  go_enter Tryd.func10, Tryd.ntmps10
  go_wp2_with fail
  refine (parts_any 256 (by omega) (by omega) w T0).mono ?_
  rintro e w1 ⟨rfl, hb1⟩
  have HB1 : Below w.heap.size w w1 := HB0.trans (hb1.mono HB0.size)
  have T1 := T0.below hb1
  go_wp2_with fail
  refine (to256_any 16777471 (by omega) (by omega) w1 T1).mono ?_
  rintro e w2 ⟨rfl, hb2⟩
  have HB2 : Below w.heap.size w w2 := HB1.trans (hb2.mono HB1.size)
  have T2 := T1.below hb2
  go_wp2_with fail
  refine (to16_any 16777216 (by omega) (by omega) w2 T2).mono ?_
  rintro e w3 ⟨rfl, hb3⟩
  have HB3 : Below w.heap.size w w3 := HB2.trans (hb3.mono HB2.size)
  have T3 := T2.below hb3
  go_wp2_with fail
  refine (to16_any 22 (by omega) (by omega) w3 T3).mono ?_
  rintro e w4 ⟨rfl, hb4⟩
  have HB4 : Below w.heap.size w w4 := HB3.trans (hb4.mono HB3.size)
  have T4 := T3.below hb4
  go_wp2_with fail
  go_ret
  exact ⟨ret_true rfl, HB4⟩

theorem colorParts_any (x : Int) (hx : 0 ≤ x) (hx2 : x < 4294967296) (y : Int) (hy : 0 ≤ y) (hy2 : y < 4294967296) (w : World) (T : Tab w) :
    Calls Tryd.prog 3 #[.int .u32 x, .int .u32 y] w fun e w' => e = .returned (.bool true) ∧ Below w.heap.size w w' := by
  have HB0 : Below w.heap.size w w := Below.refl _ _
  have T0 := T
  go_enter Tryd.func3, Tryd.ntmps3
  go_wp2_with fail
  refine (parts_any x hx hx2 w T0).mono ?_
  rintro e w1 ⟨rfl, hb1⟩
  have HB1 : Below w.heap.size w w1 := HB0.trans (hb1.mono HB0.size)
  have T1 := T0.below hb1
  go_wp2_with fail
  refine (rparts_any x hx w1).mono ?_
  rintro e w2 ⟨rfl, hb2⟩
  have HB2 : Below w.heap.size w w2 := HB1.trans (hb2.mono HB1.size)
  have T2 := T1.below hb2
  go_wp2_with fail
  obtain ⟨W, hW⟩ : ∃ W, W = w2.alloc (.cells #[.int .i64 (Col.part 0 x), .int .i64 (Col.part 1 x), .int .i64 (Col.part 2 x)] 26) := ⟨_, rfl⟩
  have cx : ∀ k : Nat, W.cell? ⟨w2.heap.size, k, none⟩ = (#[Value.int .i64 (Col.part 0 x), .int .i64 (Col.part 1 x), .int .i64 (Col.part 2 x)])[k]? := fun k => by rw [hW]; exact World.cell?_alloc_at _ _ _ _ rfl
  have hWb : Below w2.heap.size w2 W := by rw [hW]; exact (Below.refl _ _).alloc (Nat.le_refl _) _
  have HBW : Below w.heap.size w W := HB2.trans (hWb.mono HB2.size)
  have TW := T2.below hWb
  have hlt : w2.heap.size < W.heap.size := by rw [hW]; simp
  rw [← hW]
  refine (fixed_any W TW).mono ?_
  rintro e w3 ⟨rfl, hb3⟩
  have HB3 : Below w.heap.size w w3 := HBW.trans (hb3.mono HBW.size)
  have T3 := TW.below hb3
  have c0 := (hb3.cell (p := ⟨w2.heap.size, 0, none⟩) hlt).trans (cx 0)
  have c1 := (hb3.cell (p := ⟨w2.heap.size, 1, none⟩) hlt).trans (cx 1)
  have c2 := (hb3.cell (p := ⟨w2.heap.size, 2, none⟩) hlt).trans (cx 2)
  simp at c0 c1 c2
  clear cx hW
  have he := fun W' => run_eql_arr3 (P := Tryd.prog) W' 26 3 .i64 Tryd.underlying26 Tryd.underlying3 (by kernel_rfl) (Col.part 0 x) (Col.part 1 x) (Col.part 2 x)
  go_wp2_with fail
  refine (far_any x y hx hx2 hy hy2 w3 T3).mono ?_
  rintro e w4 ⟨rfl, hb4⟩
  have HB4 : Below w.heap.size w w4 := HB3.trans (hb4.mono HB3.size)
  have T4 := T3.below hb4
  go_wp2_with fail
  refine (rfar_any x y hx hy w4).mono ?_
  rintro e w5 ⟨rfl, hb5⟩
  have HB5 : Below w.heap.size w w5 := HB4.trans (hb5.mono HB4.size)
  have T5 := T4.below hb5
  go_wp2_with fail
  go_ret
  exact ⟨ret_true rfl, HB5⟩

theorem colorFits_any (x : Int) (hx : 0 ≤ x) (hx2 : x < 4294967296) (f : Int) (hf : 0 ≤ f) (hf2 : f < 4294967296) (w : World) (T : Tab w) :
    Calls Tryd.prog 5 #[.int .u32 x, .int .u32 f] w fun e w' => e = .returned (.bool true) ∧ Below w.heap.size w w' := by
  have HB0 : Below w.heap.size w w := Below.refl _ _
  have T0 := T
  go_enter Tryd.func5, Tryd.ntmps5
  go_wp2_with fail
  refine (fixed_any w T0).mono ?_
  rintro e w1 ⟨rfl, hb1⟩
  have HB1 : Below w.heap.size w w1 := HB0.trans (hb1.mono HB0.size)
  have T1 := T0.below hb1
  go_wp2_with fail
  refine (to256_any x hx hx2 w1 T1).mono ?_
  rintro e w2 ⟨rfl, hb2⟩
  have HB2 : Below w.heap.size w w2 := HB1.trans (hb2.mono HB1.size)
  have T2 := T1.below hb2
  go_wp2_with fail
  refine (rto256_any x hx w2).mono ?_
  rintro e w3 ⟨rfl, hb3⟩
  have HB3 : Below w.heap.size w w3 := HB2.trans (hb3.mono HB2.size)
  have T3 := T2.below hb3
  go_wp2_with fail
  refine (to16_any x hx hx2 w3 T3).mono ?_
  rintro e w4 ⟨rfl, hb4⟩
  have HB4 : Below w.heap.size w w4 := HB3.trans (hb4.mono HB3.size)
  have T4 := T3.below hb4
  go_wp2_with fail
  refine (rto16_any x hx w4).mono ?_
  rintro e w5 ⟨rfl, hb5⟩
  have HB5 : Below w.heap.size w w5 := HB4.trans (hb5.mono HB4.size)
  have T5 := T4.below hb5
  go_wp2_with fail
  refine (fit_any x f hx hx2 hf hf2 w5 T5).mono ?_
  rintro e w6 ⟨rfl, hb6⟩
  have HB6 : Below w.heap.size w w6 := HB5.trans (hb6.mono HB5.size)
  have T6 := T5.below hb6
  go_wp2_with fail
  refine (rfit_any x f hx hx2 hf hf2 w6).mono ?_
  rintro e w7 ⟨rfl, hb7⟩
  have HB7 : Below w.heap.size w w7 := HB6.trans (hb7.mono HB6.size)
  have T7 := T6.below hb7
  go_wp2_with fail
  go_ret
  exact ⟨ret_true rfl, HB7⟩

theorem colorTwice_any (x : Int) (hx : 0 ≤ x) (hx2 : x < 4294967296) (f : Int) (hf : 0 ≤ f) (hf2 : f < 4294967296) (w : World) (T : Tab w) :
    Calls Tryd.prog 6 #[.int .u32 x, .int .u32 f] w fun e w' => e = .returned (.bool true) ∧ Below w.heap.size w w' := by
  have e1 := Col.to256_twice x
  have e2 := Col.to16_twice x
  have e3 := Col.fit_more x f f hx id id
  have r1 := Col.to256_rng x hx hx2
  have r2 := Col.to16_rng x hx hx2
  have r3 := Col.fit_rng x f hx hx2
  have HB0 : Below w.heap.size w w := Below.refl _ _
  have T0 := T
  go_enter Tryd.func6, Tryd.ntmps6
  go_wp2_with fail
  refine (to256_any x hx hx2 w T0).mono ?_
  rintro e w1 ⟨rfl, hb1⟩
  have HB1 : Below w.heap.size w w1 := HB0.trans (hb1.mono HB0.size)
  have T1 := T0.below hb1
  go_wp2_with fail
  refine (to16_any x hx hx2 w1 T1).mono ?_
  rintro e w2 ⟨rfl, hb2⟩
  have HB2 : Below w.heap.size w w2 := HB1.trans (hb2.mono HB1.size)
  have T2 := T1.below hb2
  go_wp2_with fail
  refine (fit_any x f hx hx2 hf hf2 w2 T2).mono ?_
  rintro e w3 ⟨rfl, hb3⟩
  have HB3 : Below w.heap.size w w3 := HB2.trans (hb3.mono HB2.size)
  have T3 := T2.below hb3
  go_wp2_with fail
  refine (fixed_any w3 T3).mono ?_
  rintro e w4 ⟨rfl, hb4⟩
  have HB4 : Below w.heap.size w w4 := HB3.trans (hb4.mono HB3.size)
  have T4 := T3.below hb4
  go_wp2_with fail
  refine (to256_any _ r1.1 r1.2 w4 T4).mono ?_
  rintro e w5 ⟨rfl, hb5⟩
  have HB5 : Below w.heap.size w w5 := HB4.trans (hb5.mono HB4.size)
  have T5 := T4.below hb5
  go_wp2_with fail
  refine (to16_any _ r2.1 r2.2 w5 T5).mono ?_
  rintro e w6 ⟨rfl, hb6⟩
  have HB6 : Below w.heap.size w w6 := HB5.trans (hb6.mono HB5.size)
  have T6 := T5.below hb6
  go_wp2_with fail
  refine (fit_any _ f r3.1 r3.2 hf hf2 w6 T6).mono ?_
  rintro e w7 ⟨rfl, hb7⟩
  have HB7 : Below w.heap.size w w7 := HB6.trans (hb7.mono HB6.size)
  have T7 := T6.below hb7
  go_wp2_with fail
  go_ret
  exact ⟨ret_true rfl, HB7⟩

theorem colorFew_any (x : Int) (hx : 0 ≤ x) (hx2 : x < 4294967296) (f : Int) (hf : 0 ≤ f) (hf2 : f < 4294967296) (g : Int) (hg : 0 ≤ g) (hg2 : g < 4294967296) (w : World) (T : Tab w) :
    Calls Tryd.prog 7 #[.int .u32 x, .int .u32 f, .int .u32 g] w fun e w' => e = .returned (.bool true) ∧ Below w.heap.size w w' := by
  obtain ⟨o1, o2, o3, o4⟩ := or32 f g hf hf2 hg hg2
  have e3 := Col.fit_more x f (bits .or .u32 f g) hx o3 o4
  have r3 := Col.fit_rng x f hx hx2
  have a1 := and1 f hf hf2
  have a2 := and2 f hf hf2
  have ff := Col.fit_few x f hx
  clear o3 o4
  have HB0 : Below w.heap.size w w := Below.refl _ _
  have T0 := T
  rcases (show f % 2 = 1 ∨ f % 2 = 0 by omega) with hb | hb
  case inl =>
    have n1 : (bits .and .u32 f 1 == 0) = false := by rw [a1, hb]; rfl
    clear a1 a2 ff hb
    go_enter Tryd.func7, Tryd.ntmps7
    go_wp2_with fail
    refine (fit_any x f hx hx2 hf hf2 w T0).mono ?_
    rintro e w1 ⟨rfl, hb1⟩
    have HB1 : Below w.heap.size w w1 := HB0.trans (hb1.mono HB0.size)
    have T1 := T0.below hb1
    go_wp2_with fail
    refine (fixed_any w1 T1).mono ?_
    rintro e w2 ⟨rfl, hb2⟩
    have HB2 : Below w.heap.size w w2 := HB1.trans (hb2.mono HB1.size)
    have T2 := T1.below hb2
    go_wp2_with fail
    refine (fit_any _ _ r3.1 r3.2 o1 o2 w2 T2).mono ?_
    rintro e w3 ⟨rfl, hb3⟩
    have HB3 : Below w.heap.size w w3 := HB2.trans (hb3.mono HB2.size)
    have T3 := T2.below hb3
    go_wp2_with fail
    all_goals (go_ret; exact ⟨ret_true rfl, HB3⟩)
  rcases (show f / 2 % 2 = 1 ∨ f / 2 % 2 = 0 by omega) with hb2 | hb2
  case inr.inl =>
    have n1 : (bits .and .u32 f 1 == 0) = true := by rw [a1, hb]; rfl
    have n2 : (bits .and .u32 f 2 == 0) = false := by rw [a2, hb2]; rfl
    clear a1 a2 ff hb hb2
    go_enter Tryd.func7, Tryd.ntmps7
    go_wp2_with fail
    refine (fit_any x f hx hx2 hf hf2 w T0).mono ?_
    rintro e w1 ⟨rfl, hb1⟩
    have HB1 : Below w.heap.size w w1 := HB0.trans (hb1.mono HB0.size)
    have T1 := T0.below hb1
    go_wp2_with fail
    refine (fixed_any w1 T1).mono ?_
    rintro e w2 ⟨rfl, hb2⟩
    have HB2 : Below w.heap.size w w2 := HB1.trans (hb2.mono HB1.size)
    have T2 := T1.below hb2
    go_wp2_with fail
    refine (fit_any _ _ r3.1 r3.2 o1 o2 w2 T2).mono ?_
    rintro e w3 ⟨rfl, hb3⟩
    have HB3 : Below w.heap.size w w3 := HB2.trans (hb3.mono HB2.size)
    have T3 := T2.below hb3
    go_wp2_with fail
    all_goals (go_ret; exact ⟨ret_true rfl, HB3⟩)
  rcases ff (by omega) (by omega) with hq | ⟨hq, hq2⟩
  case inr.inr.inl =>
    have n1 : (bits .and .u32 f 1 == 0) = true := by rw [a1, hb]; rfl
    have n2 : (bits .and .u32 f 2 == 0) = true := by rw [a2, hb2]; rfl
    have d1 : decide (Col.fit x f ≤ 16) = true := decide_eq_true hq
    clear a1 a2 ff hb hb2 hq
    go_enter Tryd.func7, Tryd.ntmps7
    go_wp2_with fail
    refine (fit_any x f hx hx2 hf hf2 w T0).mono ?_
    rintro e w1 ⟨rfl, hb1⟩
    have HB1 : Below w.heap.size w w1 := HB0.trans (hb1.mono HB0.size)
    have T1 := T0.below hb1
    go_wp2_with fail
    refine (fixed_any w1 T1).mono ?_
    rintro e w2 ⟨rfl, hb2⟩
    have HB2 : Below w.heap.size w w2 := HB1.trans (hb2.mono HB1.size)
    have T2 := T1.below hb2
    go_wp2_with fail
    refine (fit_any _ _ r3.1 r3.2 o1 o2 w2 T2).mono ?_
    rintro e w3 ⟨rfl, hb3⟩
    have HB3 : Below w.heap.size w w3 := HB2.trans (hb3.mono HB2.size)
    have T3 := T2.below hb3
    go_wp2_with fail
    all_goals (go_ret; exact ⟨ret_true rfl, HB3⟩)
  rcases (show x ≤ 16 ∨ 16 < x by omega) with hq3 | hq3
  case inr.inr.inr.inl =>
    have n1 : (bits .and .u32 f 1 == 0) = true := by rw [a1, hb]; rfl
    have n2 : (bits .and .u32 f 2 == 0) = true := by rw [a2, hb2]; rfl
    have d1 : decide (Col.fit x f ≤ 16) = true := decide_eq_true (by omega)
    clear a1 a2 ff hb hb2 hq hq2 hq3
    go_enter Tryd.func7, Tryd.ntmps7
    go_wp2_with fail
    refine (fit_any x f hx hx2 hf hf2 w T0).mono ?_
    rintro e w1 ⟨rfl, hb1⟩
    have HB1 : Below w.heap.size w w1 := HB0.trans (hb1.mono HB0.size)
    have T1 := T0.below hb1
    go_wp2_with fail
    refine (fixed_any w1 T1).mono ?_
    rintro e w2 ⟨rfl, hb2⟩
    have HB2 : Below w.heap.size w w2 := HB1.trans (hb2.mono HB1.size)
    have T2 := T1.below hb2
    go_wp2_with fail
    refine (fit_any _ _ r3.1 r3.2 o1 o2 w2 T2).mono ?_
    rintro e w3 ⟨rfl, hb3⟩
    have HB3 : Below w.heap.size w w3 := HB2.trans (hb3.mono HB2.size)
    have T3 := T2.below hb3
    go_wp2_with fail
    all_goals (go_ret; exact ⟨ret_true rfl, HB3⟩)
  rcases hq2 with ⟨q1, q2⟩ | q1
  case inr.inr.inr.inr.inl =>
    have n1 : (bits .and .u32 f 1 == 0) = true := by rw [a1, hb]; rfl
    have n2 : (bits .and .u32 f 2 == 0) = true := by rw [a2, hb2]; rfl
    have d1 : decide (Col.fit x f ≤ 16) = false := decide_eq_false (by omega)
    have d2 : (Col.fit x f == x) = true := beq_iff_eq.2 hq
    have d3 : decide (256 < x) = true := decide_eq_true q1
    have d4 : decide (x < 16777216) = true := decide_eq_true q2
    clear a1 a2 ff hb hb2 hq hq3 q1 q2
    go_enter Tryd.func7, Tryd.ntmps7
    go_wp2_with fail
    refine (fit_any x f hx hx2 hf hf2 w T0).mono ?_
    rintro e w1 ⟨rfl, hb1⟩
    have HB1 : Below w.heap.size w w1 := HB0.trans (hb1.mono HB0.size)
    have T1 := T0.below hb1
    go_wp2_with fail
    refine (fixed_any w1 T1).mono ?_
    rintro e w2 ⟨rfl, hb2⟩
    have HB2 : Below w.heap.size w w2 := HB1.trans (hb2.mono HB1.size)
    have T2 := T1.below hb2
    go_wp2_with fail
    refine (fit_any _ _ r3.1 r3.2 o1 o2 w2 T2).mono ?_
    rintro e w3 ⟨rfl, hb3⟩
    have HB3 : Below w.heap.size w w3 := HB2.trans (hb3.mono HB2.size)
    have T3 := T2.below hb3
    go_wp2_with fail
    all_goals (go_ret; exact ⟨ret_true rfl, HB3⟩)
  case inr.inr.inr.inr.inr =>
    have n1 : (bits .and .u32 f 1 == 0) = true := by rw [a1, hb]; rfl
    have n2 : (bits .and .u32 f 2 == 0) = true := by rw [a2, hb2]; rfl
    have d1 : decide (Col.fit x f ≤ 16) = false := decide_eq_false (by omega)
    have d2 : (Col.fit x f == x) = true := beq_iff_eq.2 hq
    have d3 : decide (256 < x) = true := decide_eq_true (by omega)
    have d4 : decide (x < 16777216) = false := decide_eq_false (by omega)
    have d5 : decide (33554432 ≤ x) = true := decide_eq_true q1
    clear a1 a2 ff hb hb2 hq hq3 q1
    go_enter Tryd.func7, Tryd.ntmps7
    go_wp2_with fail
    refine (fit_any x f hx hx2 hf hf2 w T0).mono ?_
    rintro e w1 ⟨rfl, hb1⟩
    have HB1 : Below w.heap.size w w1 := HB0.trans (hb1.mono HB0.size)
    have T1 := T0.below hb1
    go_wp2_with fail
    refine (fixed_any w1 T1).mono ?_
    rintro e w2 ⟨rfl, hb2⟩
    have HB2 : Below w.heap.size w w2 := HB1.trans (hb2.mono HB1.size)
    have T2 := T1.below hb2
    go_wp2_with fail
    refine (fit_any _ _ r3.1 r3.2 o1 o2 w2 T2).mono ?_
    rintro e w3 ⟨rfl, hb3⟩
    have HB3 : Below w.heap.size w w3 := HB2.trans (hb3.mono HB2.size)
    have T3 := T2.below hb3
    go_wp2_with fail
    all_goals (go_ret; exact ⟨ret_true rfl, HB3⟩)
theorem colorNearest_any (p : Int) (hp : 0 ≤ p) (hp2 : p < 4294967296) (i : Int) (hi : 0 ≤ i) (hi2 : i < 256) (w : World) (T : Tab w) :
    Calls Tryd.prog 4 #[.int .u32 p, .int .u8 i] w fun e w' => e = .returned (.bool true) ∧ Below w.heap.size w w' := by
  have hc1 : 0 ≤ (16777216 + p % 16777216) := by omega
  have hc2 : (16777216 + p % 16777216) < 4294967296 := by omega
  have b256 := Col.to256_bd (16777216 + p % 16777216) (by omega)
  have b16 := Col.to16_bd (16777216 + p % 16777216) (by omega)
  obtain ⟨x1, x2⟩ := b256
  obtain ⟨y1, y2⟩ := b16
  have d1 : decide (Col.to256 (16777216 + p % 16777216) < 17) = false := decide_eq_false (by omega)
  have d2 : decide (256 < Col.to256 (16777216 + p % 16777216)) = false := decide_eq_false (by omega)
  have d3 : decide (Col.to16 (16777216 + p % 16777216) < 1) = false := decide_eq_false (by omega)
  have d4 : decide (16 < Col.to16 (16777216 + p % 16777216)) = false := decide_eq_false (by omega)
  have m256 : ∀ k, 17 ≤ k → k ≤ 256 → Col.far (16777216 + p % 16777216) (Col.to256 (16777216 + p % 16777216)) < Col.far (16777216 + p % 16777216) k ∨ (Col.far (16777216 + p % 16777216) (Col.to256 (16777216 + p % 16777216)) = Col.far (16777216 + p % 16777216) k ∧ Col.to256 (16777216 + p % 16777216) ≤ k) := fun k h1 h2 => by
    have e : Col.to256 (16777216 + p % 16777216) = Col.best (Col.far (16777216 + p % 16777216)) 16 240 := by unfold Col.to256 Col.near; rw [if_pos (by omega)]
    rw [e]
    exact Col.best_min (Col.far (16777216 + p % 16777216)) 16 240 k (by omega) (by omega)
  have m16 : ∀ k, 1 ≤ k → k ≤ 16 → Col.far (16777216 + p % 16777216) (Col.to16 (16777216 + p % 16777216)) < Col.far (16777216 + p % 16777216) k ∨ (Col.far (16777216 + p % 16777216) (Col.to16 (16777216 + p % 16777216)) = Col.far (16777216 + p % 16777216) k ∧ Col.to16 (16777216 + p % 16777216) ≤ k) := fun k h1 h2 => by
    have e : Col.to16 (16777216 + p % 16777216) = Col.best (Col.far (16777216 + p % 16777216)) 0 16 := by unfold Col.to16 Col.near; rw [if_pos (by omega)]
    rw [e]
    exact Col.best_min (Col.far (16777216 + p % 16777216)) 0 16 k (by omega) (by omega)
  have HB0 : Below w.heap.size w w := Below.refl _ _
  have T0 := T
  rcases (show 17 ≤ i + 1 ∨ i + 1 < 17 by omega) with hk | hk
  case inl =>
    rcases m256 (i + 1) (by omega) (by omega) with hl | ⟨hl, hl2⟩
    · have f1 : decide (Col.far (16777216 + p % 16777216) (Col.to256 (16777216 + p % 16777216)) < Col.far (16777216 + p % 16777216) (i + 1)) = true := decide_eq_true hl
      clear m256 m16 hl
      go_enter Tryd.func4, Tryd.ntmps4
      go_wp2_with fail
      refine (to256_any (16777216 + p % 16777216) hc1 hc2 w T0).mono ?_
      rintro e w1 ⟨rfl, hb1⟩
      have HB1 : Below w.heap.size w w1 := HB0.trans (hb1.mono HB0.size)
      have T1 := T0.below hb1
      go_wp2_with fail
      refine (to16_any (16777216 + p % 16777216) hc1 hc2 w1 T1).mono ?_
      rintro e w2 ⟨rfl, hb2⟩
      have HB2 : Below w.heap.size w w2 := HB1.trans (hb2.mono HB1.size)
      have T2 := T1.below hb2
      go_wp2_with fail
      refine (fixed_any w2 T2).mono ?_
      rintro e w3 ⟨rfl, hb3⟩
      have HB3 : Below w.heap.size w w3 := HB2.trans (hb3.mono HB2.size)
      have T3 := T2.below hb3
      go_wp2_with fail
      refine (far_any (16777216 + p % 16777216) (Col.to256 (16777216 + p % 16777216)) hc1 hc2 (by omega) (by omega) w3 T3).mono ?_
      rintro e w4 ⟨rfl, hb4⟩
      have HB4 : Below w.heap.size w w4 := HB3.trans (hb4.mono HB3.size)
      have T4 := T3.below hb4
      go_wp2_with fail
      refine (far_any (16777216 + p % 16777216) (i + 1) hc1 hc2 (by omega) (by omega) w4 T4).mono ?_
      rintro e w5 ⟨rfl, hb5⟩
      have HB5 : Below w.heap.size w w5 := HB4.trans (hb5.mono HB4.size)
      have T5 := T4.below hb5
      go_wp2_with fail
      all_goals (go_ret; exact ⟨ret_true rfl, HB5⟩)
    · have f1 : decide (Col.far (16777216 + p % 16777216) (Col.to256 (16777216 + p % 16777216)) < Col.far (16777216 + p % 16777216) (i + 1)) = false := decide_eq_false (by omega)
      have f2 : (Col.far (16777216 + p % 16777216) (Col.to256 (16777216 + p % 16777216)) == Col.far (16777216 + p % 16777216) (i + 1)) = true := beq_iff_eq.2 hl
      have f3 : decide (Col.to256 (16777216 + p % 16777216) ≤ i + 1) = true := decide_eq_true hl2
      clear m256 m16 hl hl2
      go_enter Tryd.func4, Tryd.ntmps4
      go_wp2_with fail
      refine (to256_any (16777216 + p % 16777216) hc1 hc2 w T0).mono ?_
      rintro e w1 ⟨rfl, hb1⟩
      have HB1 : Below w.heap.size w w1 := HB0.trans (hb1.mono HB0.size)
      have T1 := T0.below hb1
      go_wp2_with fail
      refine (to16_any (16777216 + p % 16777216) hc1 hc2 w1 T1).mono ?_
      rintro e w2 ⟨rfl, hb2⟩
      have HB2 : Below w.heap.size w w2 := HB1.trans (hb2.mono HB1.size)
      have T2 := T1.below hb2
      go_wp2_with fail
      refine (fixed_any w2 T2).mono ?_
      rintro e w3 ⟨rfl, hb3⟩
      have HB3 : Below w.heap.size w w3 := HB2.trans (hb3.mono HB2.size)
      have T3 := T2.below hb3
      go_wp2_with fail
      refine (far_any (16777216 + p % 16777216) (Col.to256 (16777216 + p % 16777216)) hc1 hc2 (by omega) (by omega) w3 T3).mono ?_
      rintro e w4 ⟨rfl, hb4⟩
      have HB4 : Below w.heap.size w w4 := HB3.trans (hb4.mono HB3.size)
      have T4 := T3.below hb4
      go_wp2_with fail
      refine (far_any (16777216 + p % 16777216) (i + 1) hc1 hc2 (by omega) (by omega) w4 T4).mono ?_
      rintro e w5 ⟨rfl, hb5⟩
      have HB5 : Below w.heap.size w w5 := HB4.trans (hb5.mono HB4.size)
      have T5 := T4.below hb5
      go_wp2_with fail
      refine (far_any (16777216 + p % 16777216) (Col.to256 (16777216 + p % 16777216)) hc1 hc2 (by omega) (by omega) w5 T5).mono ?_
      rintro e w6 ⟨rfl, hb6⟩
      have HB6 : Below w.heap.size w w6 := HB5.trans (hb6.mono HB5.size)
      have T6 := T5.below hb6
      go_wp2_with fail
      refine (far_any (16777216 + p % 16777216) (i + 1) hc1 hc2 (by omega) (by omega) w6 T6).mono ?_
      rintro e w7 ⟨rfl, hb7⟩
      have HB7 : Below w.heap.size w w7 := HB6.trans (hb7.mono HB6.size)
      have T7 := T6.below hb7
      go_wp2_with fail
      all_goals (go_ret; exact ⟨ret_true rfl, HB7⟩)
  case inr =>
    rcases m16 (i + 1) (by omega) (by omega) with hl | ⟨hl, hl2⟩
    · have f1 : decide (Col.far (16777216 + p % 16777216) (Col.to16 (16777216 + p % 16777216)) < Col.far (16777216 + p % 16777216) (i + 1)) = true := decide_eq_true hl
      clear m256 m16 hl
      go_enter Tryd.func4, Tryd.ntmps4
      go_wp2_with fail
      refine (to256_any (16777216 + p % 16777216) hc1 hc2 w T0).mono ?_
      rintro e w1 ⟨rfl, hb1⟩
      have HB1 : Below w.heap.size w w1 := HB0.trans (hb1.mono HB0.size)
      have T1 := T0.below hb1
      go_wp2_with fail
      refine (to16_any (16777216 + p % 16777216) hc1 hc2 w1 T1).mono ?_
      rintro e w2 ⟨rfl, hb2⟩
      have HB2 : Below w.heap.size w w2 := HB1.trans (hb2.mono HB1.size)
      have T2 := T1.below hb2
      go_wp2_with fail
      refine (fixed_any w2 T2).mono ?_
      rintro e w3 ⟨rfl, hb3⟩
      have HB3 : Below w.heap.size w w3 := HB2.trans (hb3.mono HB2.size)
      have T3 := T2.below hb3
      go_wp2_with fail
      refine (far_any (16777216 + p % 16777216) (Col.to16 (16777216 + p % 16777216)) hc1 hc2 (by omega) (by omega) w3 T3).mono ?_
      rintro e w4 ⟨rfl, hb4⟩
      have HB4 : Below w.heap.size w w4 := HB3.trans (hb4.mono HB3.size)
      have T4 := T3.below hb4
      go_wp2_with fail
      refine (far_any (16777216 + p % 16777216) (i + 1) hc1 hc2 (by omega) (by omega) w4 T4).mono ?_
      rintro e w5 ⟨rfl, hb5⟩
      have HB5 : Below w.heap.size w w5 := HB4.trans (hb5.mono HB4.size)
      have T5 := T4.below hb5
      go_wp2_with fail
      all_goals (go_ret; exact ⟨ret_true rfl, HB5⟩)
    · have f1 : decide (Col.far (16777216 + p % 16777216) (Col.to16 (16777216 + p % 16777216)) < Col.far (16777216 + p % 16777216) (i + 1)) = false := decide_eq_false (by omega)
      have f2 : (Col.far (16777216 + p % 16777216) (Col.to16 (16777216 + p % 16777216)) == Col.far (16777216 + p % 16777216) (i + 1)) = true := beq_iff_eq.2 hl
      have f3 : decide (Col.to16 (16777216 + p % 16777216) ≤ i + 1) = true := decide_eq_true hl2
      clear m256 m16 hl hl2
      go_enter Tryd.func4, Tryd.ntmps4
      go_wp2_with fail
      refine (to256_any (16777216 + p % 16777216) hc1 hc2 w T0).mono ?_
      rintro e w1 ⟨rfl, hb1⟩
      have HB1 : Below w.heap.size w w1 := HB0.trans (hb1.mono HB0.size)
      have T1 := T0.below hb1
      go_wp2_with fail
      refine (to16_any (16777216 + p % 16777216) hc1 hc2 w1 T1).mono ?_
      rintro e w2 ⟨rfl, hb2⟩
      have HB2 : Below w.heap.size w w2 := HB1.trans (hb2.mono HB1.size)
      have T2 := T1.below hb2
      go_wp2_with fail
      refine (fixed_any w2 T2).mono ?_
      rintro e w3 ⟨rfl, hb3⟩
      have HB3 : Below w.heap.size w w3 := HB2.trans (hb3.mono HB2.size)
      have T3 := T2.below hb3
      go_wp2_with fail
      refine (far_any (16777216 + p % 16777216) (Col.to16 (16777216 + p % 16777216)) hc1 hc2 (by omega) (by omega) w3 T3).mono ?_
      rintro e w4 ⟨rfl, hb4⟩
      have HB4 : Below w.heap.size w w4 := HB3.trans (hb4.mono HB3.size)
      have T4 := T3.below hb4
      go_wp2_with fail
      refine (far_any (16777216 + p % 16777216) (i + 1) hc1 hc2 (by omega) (by omega) w4 T4).mono ?_
      rintro e w5 ⟨rfl, hb5⟩
      have HB5 : Below w.heap.size w w5 := HB4.trans (hb5.mono HB4.size)
      have T5 := T4.below hb5
      go_wp2_with fail
      refine (far_any (16777216 + p % 16777216) (Col.to16 (16777216 + p % 16777216)) hc1 hc2 (by omega) (by omega) w5 T5).mono ?_
      rintro e w6 ⟨rfl, hb6⟩
      have HB6 : Below w.heap.size w w6 := HB5.trans (hb6.mono HB5.size)
      have T6 := T5.below hb6
      go_wp2_with fail
      refine (far_any (16777216 + p % 16777216) (i + 1) hc1 hc2 (by omega) (by omega) w6 T6).mono ?_
      rintro e w7 ⟨rfl, hb7⟩
      have HB7 : Below w.heap.size w w7 := HB6.trans (hb7.mono HB6.size)
      have T7 := T6.below hb7
      go_wp2_with fail
      all_goals (go_ret; exact ⟨ret_true rfl, HB7⟩)
end Go.Proofs.YtkgklolpeanpbaaDoor
