/- The walks of the colours' functions. -/
import Derived.Test.YtkgklolpeanpbaaDoorColMath
import Derived.Test.YtkgklolpeanpbaaDoorBase
import Derived.WalkKit
import Derived.WalkSpells
import Derived.BigQuiet
import Derived.BigGuardPart
import Derived.Deep.QuietTactic
import Derived.Outline
import Derived.Lib.Hide
namespace Go.Proofs.YtkgklolpeanpbaaDoor
open Go.RowKit
set_option linter.unusedVariables false
set_option linter.unusedSimpArgs false

theorem may_any (c : Int) (w : World) : Calls Tryd.prog 19 #[.int .u32 c] w fun e w' => e = .returned (.bool (Col.may c)) ∧ w = w' := by
  go_enter Tryd.func19, Tryd.ntmps19
  go_wp2
  all_goals (go_ret; exact ⟨ret_bool (by rw [Bool.eq_iff_iff]; simp [Col.may]; omega), rfl⟩)
theorem rmay_any (c : Int) (w : World) : Calls Tryd.prog 20 #[.int .u32 c] w fun e w' => e = .returned (.bool (Col.may c)) ∧ w = w' := by
  go_enter Tryd.func20, Tryd.ntmps20
  go_wp2
  all_goals (go_ret; exact ⟨ret_bool (by rw [Bool.eq_iff_iff]; simp [Col.may]; omega), rfl⟩)
theorem level_any (k : Int) (h0 : 0 ≤ k) (h1 : k ≤ 5) (w : World) : Calls Tryd.prog 21 #[.int .i64 k] w fun e w' => e = .returned (.int .i64 (Col.lev k)) ∧ w = w' := by
  go_enter Tryd.func21, Tryd.ntmps21
  go_wp2
  all_goals (go_ret; exact ⟨ret_int (by unfold Col.lev; simp_all), rfl⟩)

/-- What the two tables hold. -/
def Tab (w : World) : Prop := (∀ i k, i < 16 → k < 3 → w.cell? ⟨0, i * 3 + k, none⟩ = some (.int .u8 ((Col.tab.getD i []).getD k 0))) ∧ (∀ j : Nat, j < 6 → w.cell? ⟨1, j, none⟩ = some (.int .i64 (Col.lev j))) ∧ 2 ≤ w.heap.size
theorem Tab.below {w w' : World} (h : Tab w) (hb : Below w.heap.size w w') : Tab w' := by
  obtain ⟨h1, h2, h3⟩ := h
  exact ⟨fun i k hi hk => (hb.cell (p := ⟨0, i * 3 + k, none⟩) (by simp only; omega)).trans (h1 i k hi hk), fun j hj => (hb.cell (p := ⟨1, j, none⟩) (by simp only; omega)).trans (h2 j hj), Nat.le_trans h3 hb.size⟩

def Parted (c : Int) (w : World) (e : Ending) (w' : World) : Prop :=
  e = .returned (.tuple #[.int .i64 (Col.part 0 c), .int .i64 (Col.part 1 c), .int .i64 (Col.part 2 c), .bool (Col.ok c)]) ∧ Below w.heap.size w w'
theorem ret_parts {c r g b : Int} {o : Bool} {w w' : World} (hr : Col.part 0 c = r) (hg : Col.part 1 c = g) (hb : Col.part 2 c = b) (ho : Col.ok c = o) (hw : Below w.heap.size w w') :
    Parted c w (.returned (.tuple #[.int .i64 r, .int .i64 g, .int .i64 b, .bool o])) w' := ⟨by rw [hr, hg, hb, ho], hw⟩

theorem parts_lo (c : Int) (hc : 1 ≤ c) (hc2 : c ≤ 16) (w : World) (r g b : Int) (h0 : w.cell? ⟨0, (c.toNat - 1) * 3, none⟩ = some (.int .u8 r)) (h1 : w.cell? ⟨0, (c.toNat - 1) * 3 + 1, none⟩ = some (.int .u8 g)) (h2 : w.cell? ⟨0, (c.toNat - 1) * 3 + 2, none⟩ = some (.int .u8 b))
   (b0 : 0 ≤ r ∧ r ≤ 255) (b1 : 0 ≤ g ∧ g ≤ 255) (b2 : 0 ≤ b ∧ b ≤ 255) (e0 : Col.part 0 c = r) (e1 : Col.part 1 c = g) (e2 : Col.part 2 c = b) (hm : Col.may c = true) (ho : Col.ok c = true) :
    Calls Tryd.prog 8 #[.int .u32 c] w (Parted c w) := by
  obtain ⟨b00, b01⟩ := b0
  obtain ⟨b10, b11⟩ := b1
  obtain ⟨b20, b21⟩ := b2
  have E0 := Lib.hid e0
  have E1 := Lib.hid e1
  have E2 := Lib.hid e2
  clear e0 e1 e2
  go_enter Tryd.func8, Tryd.ntmps8
  go_wp2_with (go_at_call 19; refine (may_any _ _).mono ?_; rintro e w' ⟨rfl, rfl⟩)
  go_region
  go_wp2
  refine bodyPost_ret (results_tmp4 rfl _ _ _) rfl ?_
  exact ret_parts E0.out E1.out E2.out ho (Below.refl _ _).drew

theorem parts_mid (c : Int) (hc : 17 ≤ c) (hc2 : c < 233) (w : World) (r g b : Int) (h0 : w.cell? ⟨1, ((c - 1 - 16) / 36).toNat, none⟩ = some (.int .i64 r)) (h1 : w.cell? ⟨1, ((c - 1 - 16) / 6 % 6).toNat, none⟩ = some (.int .i64 g)) (h2 : w.cell? ⟨1, ((c - 1 - 16) % 6).toNat, none⟩ = some (.int .i64 b))
   (e0 : Col.part 0 c = r) (e1 : Col.part 1 c = g) (e2 : Col.part 2 c = b) (hm : Col.may c = true) (ho : Col.ok c = true) :
    Calls Tryd.prog 8 #[.int .u32 c] w (Parted c w) := by
  have E0 := Lib.hid e0
  have E1 := Lib.hid e1
  have E2 := Lib.hid e2
  clear e0 e1 e2
  go_enter Tryd.func8, Tryd.ntmps8
  go_wp2_with (go_at_call 19; refine (may_any _ _).mono ?_; rintro e w' ⟨rfl, rfl⟩)
  go_region
  go_wp2
  refine bodyPost_ret (results_tmp4 rfl _ _ _) rfl ?_
  exact ret_parts E0.out E1.out E2.out ho (Below.refl _ _).drew

theorem parts_hi (c : Int) (hc : 233 ≤ c) (hc2 : c ≤ 256) (w : World) (e0 : Col.part 0 c = 8 + 10 * (c - 1 - 232)) (e1 : Col.part 1 c = 8 + 10 * (c - 1 - 232)) (e2 : Col.part 2 c = 8 + 10 * (c - 1 - 232)) (hm : Col.may c = true) (ho : Col.ok c = true) :
    Calls Tryd.prog 8 #[.int .u32 c] w (Parted c w) := by
  have E0 := Lib.hid e0
  have E1 := Lib.hid e1
  have E2 := Lib.hid e2
  clear e0 e1 e2
  go_enter Tryd.func8, Tryd.ntmps8
  go_wp2_with (go_at_call 19; refine (may_any _ _).mono ?_; rintro e w' ⟨rfl, rfl⟩)
  refine bodyPost_ret (results_tmp4 rfl _ _ _) rfl ?_
  exact ret_parts E0.out E1.out E2.out ho (Below.refl _ _)

theorem parts_rgb (c : Int) (hc : 16777216 ≤ c) (hc2 : c < 33554432) (w : World) (hm : Col.may c = true) (ho : Col.ok c = true)
    (e0 : Col.part 0 c = c / 65536 % 256) (e1 : Col.part 1 c = c / 256 % 256) (e2 : Col.part 2 c = c % 256) :
    Calls Tryd.prog 8 #[.int .u32 c] w (Parted c w) := by
  have E0 := Lib.hid e0
  have E1 := Lib.hid e1
  have E2 := Lib.hid e2
  clear e0 e1 e2
  have hz : (c == 0) = false := beq_eq_false_iff_ne.2 (by omega)
  have m0 := i64_mask8 (c / 65536) (by omega) (by omega)
  have m1 := i64_mask8 (c / 256) (by omega) (by omega)
  have m2 := i64_mask8 c (by omega) (by omega)
  go_enter Tryd.func8, Tryd.ntmps8
  go_wp2_with (go_at_call 19; refine (may_any _ _).mono ?_; rintro e w' ⟨rfl, rfl⟩)
  refine bodyPost_ret (results_tmp4 rfl _ _ _) rfl ?_
  exact ret_parts E0.out E1.out E2.out ho (Below.refl _ _)

theorem parts_no (c : Int) (hc : 0 ≤ c) (hc2 : c < 4294967296) (w : World) (ho : Col.ok c = false) :
    Calls Tryd.prog 8 #[.int .u32 c] w (Parted c w) := by
  have e : ∀ k, Col.part k c = 0 := fun k => by unfold Col.part; rw [if_pos ho]
  have E := Lib.hid e
  clear e
  by_cases h : c = 0
  · subst h
    go_enter Tryd.func8, Tryd.ntmps8
    go_wp2
    refine bodyPost_ret (results_tmp4 rfl _ _ _) rfl ?_
    exact ret_parts (E.out 0) (E.out 1) (E.out 2) ho (Below.refl _ _)
  · have hm : Col.may c = false := by simpa [Col.ok, h] using ho
    have h' : (c == 0) = false := by simpa using h
    clear h
    go_enter Tryd.func8, Tryd.ntmps8
    go_wp2_with (go_at_call 19; refine (may_any _ _).mono ?_; rintro e w' ⟨rfl, rfl⟩)
    refine bodyPost_ret (results_tmp4 rfl _ _ _) rfl ?_
    exact ret_parts (E.out 0) (E.out 1) (E.out 2) ho (Below.refl _ _)

theorem tab_at (i k : Nat) (hi : i < 16) (hk : k < 3) (c : Int) (hc : c = i + 1) : Col.part k c = (Col.tab.getD i []).getD k 0 := by
  subst hc
  have ho : Col.ok (i + 1) = true := by rw [Col.ok_iff]; omega
  unfold Col.part
  rw [if_neg (by simp [ho]), if_neg (by omega), if_neg (by omega), if_neg (by omega)]
  have e : ((i : Int) + 1 - 1).toNat = i := by omega
  rw [e]

/-- color.Parts, of any number. -/
theorem parts_any (c : Int) (hc : 0 ≤ c) (hc2 : c < 4294967296) (w : World) (T : Tab w) :
    Calls Tryd.prog 8 #[.int .u32 c] w (Parted c w) := by
  obtain ⟨T1, T2, _⟩ := T
  by_cases ho : Col.ok c = true
  · have hm : Col.may c = true := by have := (Col.ok_iff c).1 ho; rw [Col.may_iff]; exact this.2
    have hr := (Col.ok_iff c).1 ho
    by_cases h1 : 16777216 ≤ c
    · refine parts_rgb c h1 (by omega) w hm ho ?_ ?_ ?_ <;>
        (unfold Col.part; rw [if_neg (by simp [ho]), if_pos h1]; simp only; omega)
    · by_cases h2 : 233 ≤ c
      · refine parts_hi c h2 (by omega) w ?_ ?_ ?_ hm ho <;>
          (unfold Col.part; rw [if_neg (by simp [ho]), if_neg h1, if_pos h2]; omega)
      · by_cases h3 : 17 ≤ c
        · have a0 := T2 ((c - 1 - 16) / 36).toNat (by omega)
          have a1 := T2 ((c - 1 - 16) / 6 % 6).toNat (by omega)
          have a2 := T2 ((c - 1 - 16) % 6).toNat (by omega)
          refine parts_mid c h3 (by omega) w _ _ _ a0 a1 a2 ?_ ?_ ?_ hm ho <;>
            (unfold Col.part; rw [if_neg (by simp [ho]), if_neg h1, if_neg h2, if_pos h3]; simp only; congr 1; omega)
        · have hb := fun k hk => Col.part_bd k hk c hc
          have e := fun k hk => tab_at (c.toNat - 1) k (by omega) hk c (by omega)
          have cell := fun k (hk : k < 3) => T1 (c.toNat - 1) k (by omega) hk
          exact parts_lo c (by omega) (by omega) w _ _ _ (cell 0 (by omega)) (cell 1 (by omega)) (cell 2 (by omega)) (e 0 (by omega) ▸ hb 0 (by omega)) (e 1 (by omega) ▸ hb 1 (by omega)) (e 2 (by omega) ▸ hb 2 (by omega))
            (e 0 (by omega)) (e 1 (by omega)) (e 2 (by omega)) hm ho
  · exact parts_no c hc hc2 w (by simpa using ho)

theorem far_any (x y : Int) (hx : 0 ≤ x) (hx2 : x < 4294967296) (hy : 0 ≤ y) (hy2 : y < 4294967296) (w : World) (T : Tab w) :
    Calls Tryd.prog 11 #[.int .u32 x, .int .u32 y] w fun e w' => e = .returned (.int .i64 (Col.far x y)) ∧ Below w.heap.size w w' := by
  have p0 := Col.part_bd 0 (by omega) x hx
  have p1 := Col.part_bd 1 (by omega) x hx
  have p2 := Col.part_bd 2 (by omega) x hx
  have q0 := Col.part_bd 0 (by omega) y hy
  have q1 := Col.part_bd 1 (by omega) y hy
  have q2 := Col.part_bd 2 (by omega) y hy
  have e : Col.far x y = if Col.ok x && Col.ok y then (Col.part 0 x - Col.part 0 y) * (Col.part 0 x - Col.part 0 y) + (Col.part 1 x - Col.part 1 y) * (Col.part 1 x - Col.part 1 y) + (Col.part 2 x - Col.part 2 y) * (Col.part 2 x - Col.part 2 y) else -1 := rfl
  have F := Lib.hid e
  have s0 := Col.sq_le (Col.part 0 x - Col.part 0 y) (by omega) (by omega)
  have s1 := Col.sq_le (Col.part 1 x - Col.part 1 y) (by omega) (by omega)
  have s2 := Col.sq_le (Col.part 2 x - Col.part 2 y) (by omega) (by omega)
  have t0 := Col.sq_nonneg (Col.part 0 x - Col.part 0 y)
  have t1 := Col.sq_nonneg (Col.part 1 x - Col.part 1 y)
  have t2 := Col.sq_nonneg (Col.part 2 x - Col.part 2 y)
  unfold Col.sq at s0 s1 s2 t0 t1 t2
  clear e
  obtain ⟨p00, p01⟩ := p0
  obtain ⟨p10, p11⟩ := p1
  obtain ⟨p20, p21⟩ := p2
  obtain ⟨q00, q01⟩ := q0
  obtain ⟨q10, q11⟩ := q1
  obtain ⟨q20, q21⟩ := q2
  cases hox : Col.ok x <;> cases hoy : Col.ok y
  all_goals
    go_enter Tryd.func11, Tryd.ntmps11
    go_wp2_with fail
    refine (parts_any x hx hx2 w T).mono ?_
    rintro e w1 ⟨rfl, hb1⟩
    go_wp2_with fail
    refine (parts_any y hy hy2 w1 (T.below hb1)).mono ?_
    rintro e w2 ⟨rfl, hb2⟩
    go_wp2_with fail
    go_ret
    exact ⟨ret_int (by rw [F.out, hox, hoy]; rfl), hb1.trans (hb2.mono hb1.size)⟩
end Go.Proofs.YtkgklolpeanpbaaDoor
