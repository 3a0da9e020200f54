/- The walks of the document's Far and Near. -/
import Derived.Test.YtkgklolpeanpbaaDoorColFit
import Derived.Deep.DeepFit
namespace Go.Proofs.YtkgklolpeanpbaaDoor
open Go.RowKit
set_option linter.unusedVariables false
set_option linter.unusedSimpArgs false

/-- The sum of the first k squares. -/
def psum (x y : Int) : Nat → Int
  | 0 => 0
  | k + 1 => psum x y k + (Col.part k x - Col.part k y) * (Col.part k x - Col.part k y)
def part_of (x : Int) (k : Nat) : Int := Col.part k x
theorem rfar_any (x y : Int) (hx : 0 ≤ x) (hy : 0 ≤ y) (w : World) :
    Calls Tryd.prog 12 #[.int .u32 x, .int .u32 y] w fun e w' => e = .returned (.int .i64 (Col.far x y)) ∧ Below w.heap.size w w' := by
  have e : Col.far x y = if Col.ok x && Col.ok y then psum x y 3 else -1 := by unfold Col.far psum psum psum psum Col.sq; split <;> simp
  have F := Lib.hid e
  clear e
  by_cases hb : Col.ok x = true ∧ Col.ok y = true
  · obtain ⟨hox, hoy⟩ := hb
    go_enter Tryd.func12, Tryd.ntmps12
    go_wp2_with fail
    refine (rparts_any x hx w).mono ?_
    rintro e w1 ⟨rfl, hb1⟩
    go_wp2_with fail
    refine (rparts_any y hy _).mono ?_
    rintro e w2 ⟨rfl, hb2⟩
    go_wp2_with fail
    obtain ⟨W, hW⟩ : ∃ W, W = w2.alloc (.cells #[.int .i64 (Col.part 0 y), .int .i64 (Col.part 1 y), .int .i64 (Col.part 2 y)] 26) := ⟨_, rfl⟩
    have hs2 : w1.heap.size + 1 ≤ w2.heap.size := by have := hb2.size; simpa using this
    have cx : ∀ k : Nat, w2.cell? ⟨w1.heap.size, k, none⟩ = (#[Value.int .i64 (Col.part 0 x), .int .i64 (Col.part 1 x), .int .i64 (Col.part 2 x)])[k]? := fun k =>
      (hb2.cell (p := ⟨w1.heap.size, k, none⟩) (by simp)).trans (World.cell?_alloc_at _ _ _ _ rfl)
    have cx' : ∀ k : Nat, W.cell? ⟨w1.heap.size, k, none⟩ = (#[Value.int .i64 (Col.part 0 x), .int .i64 (Col.part 1 x), .int .i64 (Col.part 2 x)])[k]? := fun k => by
      rw [hW, World.cell?_alloc_past _ _ _ (by omega)]; exact cx k
    have cy' : ∀ k : Nat, W.cell? ⟨w2.heap.size, k, none⟩ = (#[Value.int .i64 (Col.part 0 y), .int .i64 (Col.part 1 y), .int .i64 (Col.part 2 y)])[k]? := fun k => by
      rw [hW]; exact World.cell?_alloc_at _ _ _ _ rfl
    have hB : Below w.heap.size w W := by
      rw [hW]
      exact (hb1.trans ((((Below.refl _ _).alloc (Nat.le_refl _) _).trans (hb2.mono (by simp))).mono hb1.size)).alloc (by have := hb1.size; omega) _
    rw [← hW]
    have x0 := cx' 0
    have x1 := cx' 1
    have x2 := cx' 2
    have y0 := cy' 0
    have y1 := cy' 1
    have y2 := cy' 2
    simp at x0 x1 x2 y0 y1 y2
    clear cx cx' cy' hW hb1 hb2
    have p0 := Col.part_bd 0 (by omega) x hx
    have p1 := Col.part_bd 1 (by omega) x hx
    have p2 := Col.part_bd 2 (by omega) x hx
    have q0 := Col.part_bd 0 (by omega) y hy
    have q1 := Col.part_bd 1 (by omega) y hy
    have q2 := Col.part_bd 2 (by omega) y hy
    have s0 := Col.sq_le (Col.part 0 x - Col.part 0 y) (by omega) (by omega)
    have s1 := Col.sq_le (Col.part 1 x - Col.part 1 y) (by omega) (by omega)
    have s2 := Col.sq_le (Col.part 2 x - Col.part 2 y) (by omega) (by omega)
    have t0 := Col.sq_nonneg (Col.part 0 x - Col.part 0 y)
    have t1 := Col.sq_nonneg (Col.part 1 x - Col.part 1 y)
    have t2 := Col.sq_nonneg (Col.part 2 x - Col.part 2 y)
    unfold Col.sq at s0 s1 s2 t0 t1 t2
    obtain ⟨p00, p01⟩ := p0
    obtain ⟨p10, p11⟩ := p1
    obtain ⟨p20, p21⟩ := p2
    obtain ⟨q00, q01⟩ := q0
    obtain ⟨q10, q11⟩ := q1
    obtain ⟨q20, q21⟩ := q2
    go_loopw [9, 10] (fun n i wr => ∃ k m : Nat, k ≤ 3 ∧ i = .int .i64 k ∧ n = .int .i64 (psum x y k) ∧ wr = W.drewN m) (fun _ i _ => 3 - (intOf i).toNat)
    case atStart => exact ⟨0, 0, by omega, rfl, rfl, rfl⟩
    case round =>
      obtain ⟨k, m, hk, rfl, rfl, rfl⟩ := hrel
      rcases (show k = 0 ∨ k = 1 ∨ k = 2 ∨ k = 3 by omega) with rfl | rfl | rfl | rfl
      · go_wp2_with fail
        go_quiet (fail)
        go_wp2
        go_roundw
        case rel => exact ⟨1, _, by omega, rfl, by simp [psum]; exact IntWalk.wrap64_in _ ⟨by omega, by omega⟩, rfl⟩
        case measure => simp [intOf]
      · go_wp2_with fail
        go_quiet (fail)
        go_wp2
        go_roundw
        case rel => exact ⟨2, _, by omega, rfl, by simp [psum]; exact IntWalk.wrap64_in _ ⟨by omega, by omega⟩, rfl⟩
        case measure => simp [intOf]
      · go_wp2_with fail
        go_quiet (fail)
        go_wp2
        go_roundw
        case rel => exact ⟨3, _, by omega, rfl, by simp [psum]; exact IntWalk.wrap64_in _ ⟨by omega, by omega⟩, rfl⟩
        case measure => simp [intOf]
      · go_wp2_with fail
        go_ret
        exact ⟨ret_int (by rw [F.out, hox, hoy]; rfl), below_drewN hB _⟩
  · cases hox : Col.ok x <;> cases hoy : Col.ok y
    case true.true => exact absurd ⟨hox, hoy⟩ hb
    all_goals
      go_enter Tryd.func12, Tryd.ntmps12
      go_wp2_with fail
      refine (rparts_any x hx w).mono ?_
      rintro e w1 ⟨rfl, hb1⟩
      go_wp2_with fail
      refine (rparts_any y hy _).mono ?_
      rintro e w2 ⟨rfl, hb2⟩
      go_wp2_with fail
      go_ret
      refine ⟨ret_int (by rw [F.out, hox, hoy]; rfl), ?_⟩
      exact (hb1.trans ((((Below.refl _ _).alloc (Nat.le_refl _) _).trans (hb2.mono (by simp))).mono hb1.size)).alloc (by have := hb1.size; have := hb2.size; simp at this; omega) _

theorem rnear_any (c lo : Int) (n : Nat) (hc : 0 ≤ c) (hlo : 0 ≤ lo) (hlo2 : lo ≤ 1000) (hn : 1 ≤ n) (hn2 : n ≤ 1000) (w : World) :
    Calls Tryd.prog 23 #[.int .u32 c, .int .i64 lo, .int .i64 (lo + n - 1)] w fun e w' => e = .returned (.int .u32 (Col.near c lo n)) ∧ Below w.heap.size w w' := by
  go_enter Tryd.func23, Tryd.ntmps23
  go_wp2_with fail
  go_loopw [7, 8] (fun b i wr => ∃ k : Nat, k ≤ n ∧ i = .int .i64 (lo + k) ∧ b = .int .i64 (Col.best (Col.far c) lo k - 1) ∧ Below w.heap.size w wr) (fun _ i _ => (lo + n - intOf i).toNat)
  case atStart => exact ⟨0, by omega, by simp, by simp [Col.best], Below.refl _ _⟩
  case round =>
    obtain ⟨k, hk, rfl, rfl, hb⟩ := hrel
    have hlo := Col.best_lo (Col.far c) lo k
    obtain ⟨hl1, hl2⟩ := hlo
    have hl2' : Col.best (Col.far c) lo k ≤ lo + k + 1 := by split at hl2 <;> omega
    clear hl2
    by_cases hlt : k < n
    · have E : Col.best (Col.far c) lo k - 1 + 1 = Col.best (Col.far c) lo k := by omega
      by_cases hl : Col.far c (lo + k + 1) < Col.far c (Col.best (Col.far c) lo k)
      · have hs : Col.best (Col.far c) lo (k + 1) = lo + k + 1 := by simp only [Col.best]; rw [if_pos hl]
        have HS := Lib.hid hs
        clear hs
        go_wp2_with fail
        refine (rfar_any c (lo + k + 1) hc (by omega) wr).mono ?_
        rintro e w1 ⟨rfl, hb1⟩
        go_wp2_with fail
        refine (rfar_any c (Col.best (Col.far c) lo k) hc (by omega) w1).mono ?_
        rintro e w2 ⟨rfl, hb2⟩
        go_wp2_with fail
        go_roundw
        case rel => exact ⟨k + 1, by omega, by go_num, by rw [HS.out]; go_num, (hb.trans (hb1.mono hb.size)).trans (hb2.mono (Nat.le_trans hb.size hb1.size))⟩
        case measure => simp [intOf]; omega
      · have hs : Col.best (Col.far c) lo (k + 1) = Col.best (Col.far c) lo k := by simp only [Col.best]; rw [if_neg hl]
        have HS := Lib.hid hs
        clear hs
        go_wp2_with fail
        refine (rfar_any c (lo + k + 1) hc (by omega) wr).mono ?_
        rintro e w1 ⟨rfl, hb1⟩
        go_wp2_with fail
        refine (rfar_any c (Col.best (Col.far c) lo k) hc (by omega) w1).mono ?_
        rintro e w2 ⟨rfl, hb2⟩
        go_wp2_with fail
        go_roundw
        case rel => exact ⟨k + 1, by omega, by go_num, by rw [HS.out], (hb.trans (hb1.mono hb.size)).trans (hb2.mono (Nat.le_trans hb.size hb1.size))⟩
        case measure => simp [intOf]; omega
    · obtain rfl : k = n := by omega
      go_wp2_with fail
      go_ret
      exact ⟨ret_int (by unfold Col.near; rfl), hb⟩
end Go.Proofs.YtkgklolpeanpbaaDoor
