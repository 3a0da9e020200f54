/- The walks of Fit, of the document's To256, To16, Fit, and of the examples. -/
import Derived.Test.YtkgklolpeanpbaaDoorColFar
namespace Go.Proofs.YtkgklolpeanpbaaDoor
open Go.RowKit
set_option linter.unusedVariables false
set_option linter.unusedSimpArgs false

theorem and2 (f : Int) (h0 : 0 ≤ f) (h1 : f < 4294967296) : bits .and .u32 f 2 = f / 2 % 2 * 2 := by
  obtain ⟨n, rfl⟩ := Int.eq_ofNat_of_zero_le h0
  have := u32_and_nat n 2 (by omega) (by omega)
  have e := nat_bit 1 n
  simp only [Nat.pow_one] at e
  rw [e] at this
  exact this.trans (by omega)
theorem and1 (f : Int) (h0 : 0 ≤ f) (h1 : f < 4294967296) : bits .and .u32 f 1 = f % 2 := by
  obtain ⟨n, rfl⟩ := Int.eq_ofNat_of_zero_le h0
  have := u32_and_nat n 1 (by omega) (by omega)
  rw [nat_mask1] at this
  exact this

theorem fit_any (c f : Int) (hc : 0 ≤ c) (hc2 : c < 4294967296) (hf : 0 ≤ f) (hf2 : f < 4294967296) (w : World) (T : Tab w) :
    Calls Tryd.prog 17 #[.int .u32 c, .int .u32 f] w fun e w' => e = .returned (.int .u32 (Col.fit c f)) ∧ Below w.heap.size w w' := by
  have a2 := and2 f hf hf2
  have a1 := and1 f hf hf2
  rcases Int.lt_or_le 16 c with h1 | h1
  case inr =>
    have e : c = Col.fit c f := by unfold Col.fit; rw [if_pos h1]
    have E := Lib.hid e
    clear e a1 a2
    go_enter Tryd.func17, Tryd.ntmps17
    go_wp2_with fail
    go_ret
    exact ⟨ret_int E.out, Below.refl _ _⟩
  case inl =>
    have hd : decide (c ≤ 16) = false := decide_eq_false (by omega)
    rcases Int.lt_or_le c 16777216 with h2 | h2
    · have hd2 : decide (16777216 ≤ c) = false := decide_eq_false (by omega)
      rcases (show f % 2 = 1 ∨ f % 2 = 0 by omega) with hb | hb
      · have e : c = Col.fit c f := by unfold Col.fit; rw [if_neg (by omega), if_neg (by omega), if_pos ⟨h2, hb⟩]
        have E := Lib.hid e
        have n1 : (bits .and .u32 f 1 != 0) = true := by rw [a1, hb]; rfl
        clear e a1 a2 hb
        go_enter Tryd.func17, Tryd.ntmps17
        go_wp2_with fail
        go_ret
        exact ⟨ret_int E.out, Below.refl _ _⟩
      · have e : Col.to16 c = Col.fit c f := by unfold Col.fit; rw [if_neg (by omega), if_neg (by omega), if_neg (by omega), if_neg (by omega)]
        have E := Lib.hid e
        have n1 : (bits .and .u32 f 1 != 0) = false := by rw [a1, hb]; rfl
        clear e a1 a2 hb
        go_enter Tryd.func17, Tryd.ntmps17
        go_wp2_with fail
        refine (to16_any c hc hc2 w T).mono ?_
        rintro e w1 ⟨rfl, hb1⟩
        go_wp2_with fail
        go_ret
        exact ⟨ret_int E.out, hb1⟩
    · have hd2 : decide (c < 16777216) = false := decide_eq_false (by omega)
      rcases (show f / 2 % 2 = 1 ∨ f / 2 % 2 = 0 by omega) with hb2 | hb2
      · have e : c = Col.fit c f := by unfold Col.fit; rw [if_neg (by omega), if_pos ⟨h2, hb2⟩]
        have E := Lib.hid e
        have n1 : (bits .and .u32 f 2 != 0) = true := by rw [a2, hb2]; rfl
        clear e a1 a2 hb2
        go_enter Tryd.func17, Tryd.ntmps17
        go_wp2_with fail
        go_ret
        exact ⟨ret_int E.out, Below.refl _ _⟩
      · have n2 : (bits .and .u32 f 2 != 0) = false := by rw [a2, hb2]; rfl
        rcases (show f % 2 = 1 ∨ f % 2 = 0 by omega) with hb | hb
        · have e : Col.to256 c = Col.fit c f := by unfold Col.fit; rw [if_neg (by omega), if_neg (by omega), if_neg (by omega), if_pos hb]
          have E := Lib.hid e
          have n1 : (bits .and .u32 f 1 != 0) = true := by rw [a1, hb]; rfl
          clear e a1 a2 hb hb2
          go_enter Tryd.func17, Tryd.ntmps17
          go_wp2_with fail
          refine (to256_any c hc hc2 w T).mono ?_
          rintro e w1 ⟨rfl, hb1⟩
          go_wp2_with fail
          go_ret
          exact ⟨ret_int E.out, hb1⟩
        · have e : Col.to16 c = Col.fit c f := by unfold Col.fit; rw [if_neg (by omega), if_neg (by omega), if_neg (by omega), if_neg (by omega)]
          have E := Lib.hid e
          have n1 : (bits .and .u32 f 1 != 0) = false := by rw [a1, hb]; rfl
          clear e a1 a2 hb hb2
          go_enter Tryd.func17, Tryd.ntmps17
          go_wp2_with fail
          refine (to16_any c hc hc2 w T).mono ?_
          rintro e w1 ⟨rfl, hb1⟩
          go_wp2_with fail
          go_ret
          exact ⟨ret_int E.out, hb1⟩

theorem rto256_any (c : Int) (hc : 0 ≤ c) (w : World) :
    Calls Tryd.prog 15 #[.int .u32 c] w fun e w' => e = .returned (.int .u32 (Col.to256 c)) ∧ Below w.heap.size w w' := by
  by_cases h : 16777216 ≤ c ∧ c < 33554432
  · have e : Col.near c 16 240 = Col.to256 c := by unfold Col.to256; rw [if_pos h]
    have E := Lib.hid e
    clear e
    obtain ⟨h1, h2⟩ := h
    go_enter Tryd.func15, Tryd.ntmps15
    go_wp2_with fail
    refine (rnear_any c 16 240 hc (by omega) (by omega) (by omega) (by omega) w).mono ?_
    rintro e w1 ⟨rfl, hb1⟩
    go_wp2_with fail
    go_ret
    exact ⟨ret_int E.out, hb1⟩
  · have e : c = Col.to256 c := (Col.to256_id c h).symm
    have E := Lib.hid e
    clear e
    rcases Int.lt_or_le c 16777216 with h2 | h2
    · have hd : decide (16777216 ≤ c) = false := decide_eq_false (by omega)
      go_enter Tryd.func15, Tryd.ntmps15
      go_wp2_with fail
      all_goals (go_ret; exact ⟨ret_int E.out, Below.refl _ _⟩)
    · have hd : decide (c < 33554432) = false := decide_eq_false (by omega)
      go_enter Tryd.func15, Tryd.ntmps15
      go_wp2_with fail
      all_goals (go_ret; exact ⟨ret_int E.out, Below.refl _ _⟩)

theorem rto16_any (c : Int) (hc : 0 ≤ c) (w : World) :
    Calls Tryd.prog 16 #[.int .u32 c] w fun e w' => e = .returned (.int .u32 (Col.to16 c)) ∧ Below w.heap.size w w' := by
  by_cases h : (16777216 ≤ c ∧ c < 33554432) ∨ (17 ≤ c ∧ c ≤ 256)
  · have e : Col.near c 0 16 = Col.to16 c := by unfold Col.to16; rw [if_pos h]
    have E := Lib.hid e
    clear e
    rcases h with ⟨h1, h2⟩ | ⟨h1, h2⟩
    · go_enter Tryd.func16, Tryd.ntmps16
      go_wp2_with fail
      refine (rnear_any c 0 16 hc (by omega) (by omega) (by omega) (by omega) w).mono ?_
      rintro e w1 ⟨rfl, hb1⟩
      go_wp2_with fail
      go_ret
      exact ⟨ret_int E.out, hb1⟩
    · have hd : decide (16777216 ≤ c) = false := decide_eq_false (by omega)
      go_enter Tryd.func16, Tryd.ntmps16
      go_wp2_with fail
      refine (rnear_any c 0 16 hc (by omega) (by omega) (by omega) (by omega) w).mono ?_
      rintro e w1 ⟨rfl, hb1⟩
      go_wp2_with fail
      go_ret
      exact ⟨ret_int E.out, hb1⟩
  · have e : c = Col.to16 c := (Col.to16_id c h).symm
    have E := Lib.hid e
    clear e
    rcases (show c ≤ 16 ∨ (257 ≤ c ∧ c < 16777216) ∨ 33554432 ≤ c by omega) with h2 | h2 | h2
    · have hd : decide (16777216 ≤ c) = false := decide_eq_false (by omega)
      have hd2 : decide (17 ≤ c) = false := decide_eq_false (by omega)
      go_enter Tryd.func16, Tryd.ntmps16
      go_wp2_with fail
      all_goals (go_ret; exact ⟨ret_int E.out, Below.refl _ _⟩)
    · have hd : decide (16777216 ≤ c) = false := decide_eq_false (by omega)
      have hd2 : decide (c ≤ 256) = false := decide_eq_false (by omega)
      go_enter Tryd.func16, Tryd.ntmps16
      go_wp2_with fail
      all_goals (go_ret; exact ⟨ret_int E.out, Below.refl _ _⟩)
    · have hd : decide (c < 33554432) = false := decide_eq_false (by omega)
      have hd2 : decide (c ≤ 256) = false := decide_eq_false (by omega)
      go_enter Tryd.func16, Tryd.ntmps16
      go_wp2_with fail
      all_goals (go_ret; exact ⟨ret_int E.out, Below.refl _ _⟩)

/-- What a way through the document's Fit comes to. -/
theorem rfit_any (c f : Int) (hc : 0 ≤ c) (hc2 : c < 4294967296) (hf : 0 ≤ f) (hf2 : f < 4294967296) (w : World) :
    Calls Tryd.prog 18 #[.int .u32 c, .int .u32 f] w fun e w' => e = .returned (.int .u32 (Col.fit c f)) ∧ Below w.heap.size w w' := by
  have kc : (¬ (16777216 ≤ c ∧ c < 33554432)) → Col.to256 c = c := Col.to256_id c
  have kd : (¬ ((16777216 ≤ c ∧ c < 33554432) ∨ (17 ≤ c ∧ c ≤ 256))) → Col.to16 c = c := Col.to16_id c
  have fin : ∀ v, (v = Col.fit c f) → v = Col.fit c f := fun _ h => h
  have K1 : ∀ b : Int, f / 2 % 2 = b → (f / 2 % 2 == 1) = (b == 1) := fun b h => by rw [h]
  have K2 : ∀ b : Int, f % 2 = b → (f % 2 == 1) = (b == 1) := fun b h => by rw [h]
  rcases (show c ≤ 16 ∨ (17 ≤ c ∧ c ≤ 256) ∨ (257 ≤ c ∧ c < 16777216) ∨ (16777216 ≤ c ∧ c < 33554432) ∨ 33554432 ≤ c by omega) with hr | hr | hr | hr | hr <;>
  rcases (show f / 2 % 2 = 1 ∨ f / 2 % 2 = 0 by omega) with hb2 | hb2 <;>
  rcases (show f % 2 = 1 ∨ f % 2 = 0 by omega) with hb | hb
  · have E : Hid (Col.to16 c = Col.fit c f) := by
      unfold Hid Col.fit
      repeat' split
      all_goals first | rfl | omega | (exact kc (by omega)) | (exact kd (by omega)) | (exact (kc (by omega)).symm) | (exact (kd (by omega)).symm) | (rw [kd (by omega), kc (by omega)])
    have t0 : decide (16777216 ≤ c) = false := by simp; omega
    have t1 : decide (c < 33554432) = true := by simp; omega
    have t2 : decide (17 ≤ c) = false := by simp; omega
    have t3 : decide (c ≤ 256) = true := by simp; omega
    have b2 : (f / 2 % 2 == 1) = true := K1 _ hb2
    have b1 : (f % 2 == 1) = true := K2 _ hb
    clear kc kd fin K1 K2 hb hb2 hr
    go_enter Tryd.func18, Tryd.ntmps18
    go_wp2_with fail
    refine (rto16_any c hc w).mono ?_
    rintro e w1 ⟨rfl, hb1⟩
    go_wp2_with fail
    go_ret
    exact ⟨ret_int E.out, hb1⟩
  · have E : Hid (Col.to16 c = Col.fit c f) := by
      unfold Hid Col.fit
      repeat' split
      all_goals first | rfl | omega | (exact kc (by omega)) | (exact kd (by omega)) | (exact (kc (by omega)).symm) | (exact (kd (by omega)).symm) | (rw [kd (by omega), kc (by omega)])
    have t0 : decide (16777216 ≤ c) = false := by simp; omega
    have t1 : decide (c < 33554432) = true := by simp; omega
    have t2 : decide (17 ≤ c) = false := by simp; omega
    have t3 : decide (c ≤ 256) = true := by simp; omega
    have b2 : (f / 2 % 2 == 1) = true := K1 _ hb2
    have b1 : (f % 2 == 1) = false := K2 _ hb
    clear kc kd fin K1 K2 hb hb2 hr
    go_enter Tryd.func18, Tryd.ntmps18
    go_wp2_with fail
    refine (rto16_any c hc w).mono ?_
    rintro e w1 ⟨rfl, hb1⟩
    go_wp2_with fail
    go_ret
    exact ⟨ret_int E.out, hb1⟩
  · have E : Hid (Col.to16 c = Col.fit c f) := by
      unfold Hid Col.fit
      repeat' split
      all_goals first | rfl | omega | (exact kc (by omega)) | (exact kd (by omega)) | (exact (kc (by omega)).symm) | (exact (kd (by omega)).symm) | (rw [kd (by omega), kc (by omega)])
    have t0 : decide (16777216 ≤ c) = false := by simp; omega
    have t1 : decide (c < 33554432) = true := by simp; omega
    have t2 : decide (17 ≤ c) = false := by simp; omega
    have t3 : decide (c ≤ 256) = true := by simp; omega
    have b2 : (f / 2 % 2 == 1) = false := K1 _ hb2
    have b1 : (f % 2 == 1) = true := K2 _ hb
    clear kc kd fin K1 K2 hb hb2 hr
    go_enter Tryd.func18, Tryd.ntmps18
    go_wp2_with fail
    refine (rto16_any c hc w).mono ?_
    rintro e w1 ⟨rfl, hb1⟩
    go_wp2_with fail
    go_ret
    exact ⟨ret_int E.out, hb1⟩
  · have E : Hid (Col.to16 c = Col.fit c f) := by
      unfold Hid Col.fit
      repeat' split
      all_goals first | rfl | omega | (exact kc (by omega)) | (exact kd (by omega)) | (exact (kc (by omega)).symm) | (exact (kd (by omega)).symm) | (rw [kd (by omega), kc (by omega)])
    have t0 : decide (16777216 ≤ c) = false := by simp; omega
    have t1 : decide (c < 33554432) = true := by simp; omega
    have t2 : decide (17 ≤ c) = false := by simp; omega
    have t3 : decide (c ≤ 256) = true := by simp; omega
    have b2 : (f / 2 % 2 == 1) = false := K1 _ hb2
    have b1 : (f % 2 == 1) = false := K2 _ hb
    clear kc kd fin K1 K2 hb hb2 hr
    go_enter Tryd.func18, Tryd.ntmps18
    go_wp2_with fail
    refine (rto16_any c hc w).mono ?_
    rintro e w1 ⟨rfl, hb1⟩
    go_wp2_with fail
    go_ret
    exact ⟨ret_int E.out, hb1⟩
  · have E : Hid (c = Col.fit c f) := by
      unfold Hid Col.fit
      repeat' split
      all_goals first | rfl | omega | (exact kc (by omega)) | (exact kd (by omega)) | (exact (kc (by omega)).symm) | (exact (kd (by omega)).symm) | (rw [kd (by omega), kc (by omega)])
    have t0 : decide (16777216 ≤ c) = false := by simp; omega
    have t1 : decide (c < 33554432) = true := by simp; omega
    have t2 : decide (17 ≤ c) = true := by simp; omega
    have t3 : decide (c ≤ 256) = true := by simp; omega
    have b2 : (f / 2 % 2 == 1) = true := K1 _ hb2
    have b1 : (f % 2 == 1) = true := K2 _ hb
    clear kc kd fin K1 K2 hb hb2 hr
    go_enter Tryd.func18, Tryd.ntmps18
    go_wp2_with fail
    go_ret
    exact ⟨ret_int E.out, Below.refl _ _⟩
  · have E : Hid (Col.to16 c = Col.fit c f) := by
      unfold Hid Col.fit
      repeat' split
      all_goals first | rfl | omega | (exact kc (by omega)) | (exact kd (by omega)) | (exact (kc (by omega)).symm) | (exact (kd (by omega)).symm) | (rw [kd (by omega), kc (by omega)])
    have t0 : decide (16777216 ≤ c) = false := by simp; omega
    have t1 : decide (c < 33554432) = true := by simp; omega
    have t2 : decide (17 ≤ c) = true := by simp; omega
    have t3 : decide (c ≤ 256) = true := by simp; omega
    have b2 : (f / 2 % 2 == 1) = true := K1 _ hb2
    have b1 : (f % 2 == 1) = false := K2 _ hb
    clear kc kd fin K1 K2 hb hb2 hr
    go_enter Tryd.func18, Tryd.ntmps18
    go_wp2_with fail
    refine (rto16_any c hc w).mono ?_
    rintro e w1 ⟨rfl, hb1⟩
    go_wp2_with fail
    go_ret
    exact ⟨ret_int E.out, hb1⟩
  · have E : Hid (c = Col.fit c f) := by
      unfold Hid Col.fit
      repeat' split
      all_goals first | rfl | omega | (exact kc (by omega)) | (exact kd (by omega)) | (exact (kc (by omega)).symm) | (exact (kd (by omega)).symm) | (rw [kd (by omega), kc (by omega)])
    have t0 : decide (16777216 ≤ c) = false := by simp; omega
    have t1 : decide (c < 33554432) = true := by simp; omega
    have t2 : decide (17 ≤ c) = true := by simp; omega
    have t3 : decide (c ≤ 256) = true := by simp; omega
    have b2 : (f / 2 % 2 == 1) = false := K1 _ hb2
    have b1 : (f % 2 == 1) = true := K2 _ hb
    clear kc kd fin K1 K2 hb hb2 hr
    go_enter Tryd.func18, Tryd.ntmps18
    go_wp2_with fail
    go_ret
    exact ⟨ret_int E.out, Below.refl _ _⟩
  · have E : Hid (Col.to16 c = Col.fit c f) := by
      unfold Hid Col.fit
      repeat' split
      all_goals first | rfl | omega | (exact kc (by omega)) | (exact kd (by omega)) | (exact (kc (by omega)).symm) | (exact (kd (by omega)).symm) | (rw [kd (by omega), kc (by omega)])
    have t0 : decide (16777216 ≤ c) = false := by simp; omega
    have t1 : decide (c < 33554432) = true := by simp; omega
    have t2 : decide (17 ≤ c) = true := by simp; omega
    have t3 : decide (c ≤ 256) = true := by simp; omega
    have b2 : (f / 2 % 2 == 1) = false := K1 _ hb2
    have b1 : (f % 2 == 1) = false := K2 _ hb
    clear kc kd fin K1 K2 hb hb2 hr
    go_enter Tryd.func18, Tryd.ntmps18
    go_wp2_with fail
    refine (rto16_any c hc w).mono ?_
    rintro e w1 ⟨rfl, hb1⟩
    go_wp2_with fail
    go_ret
    exact ⟨ret_int E.out, hb1⟩
  · have E : Hid (Col.to16 c = Col.fit c f) := by
      unfold Hid Col.fit
      repeat' split
      all_goals first | rfl | omega | (exact kc (by omega)) | (exact kd (by omega)) | (exact (kc (by omega)).symm) | (exact (kd (by omega)).symm) | (rw [kd (by omega), kc (by omega)])
    have t0 : decide (16777216 ≤ c) = false := by simp; omega
    have t1 : decide (c < 33554432) = true := by simp; omega
    have t2 : decide (17 ≤ c) = true := by simp; omega
    have t3 : decide (c ≤ 256) = false := by simp; omega
    have b2 : (f / 2 % 2 == 1) = true := K1 _ hb2
    have b1 : (f % 2 == 1) = true := K2 _ hb
    clear kc kd fin K1 K2 hb hb2 hr
    go_enter Tryd.func18, Tryd.ntmps18
    go_wp2_with fail
    refine (rto16_any c hc w).mono ?_
    rintro e w1 ⟨rfl, hb1⟩
    go_wp2_with fail
    go_ret
    exact ⟨ret_int E.out, hb1⟩
  · have E : Hid (Col.to16 c = Col.fit c f) := by
      unfold Hid Col.fit
      repeat' split
      all_goals first | rfl | omega | (exact kc (by omega)) | (exact kd (by omega)) | (exact (kc (by omega)).symm) | (exact (kd (by omega)).symm) | (rw [kd (by omega), kc (by omega)])
    have t0 : decide (16777216 ≤ c) = false := by simp; omega
    have t1 : decide (c < 33554432) = true := by simp; omega
    have t2 : decide (17 ≤ c) = true := by simp; omega
    have t3 : decide (c ≤ 256) = false := by simp; omega
    have b2 : (f / 2 % 2 == 1) = true := K1 _ hb2
    have b1 : (f % 2 == 1) = false := K2 _ hb
    clear kc kd fin K1 K2 hb hb2 hr
    go_enter Tryd.func18, Tryd.ntmps18
    go_wp2_with fail
    refine (rto16_any c hc w).mono ?_
    rintro e w1 ⟨rfl, hb1⟩
    go_wp2_with fail
    go_ret
    exact ⟨ret_int E.out, hb1⟩
  · have E : Hid (Col.to16 c = Col.fit c f) := by
      unfold Hid Col.fit
      repeat' split
      all_goals first | rfl | omega | (exact kc (by omega)) | (exact kd (by omega)) | (exact (kc (by omega)).symm) | (exact (kd (by omega)).symm) | (rw [kd (by omega), kc (by omega)])
    have t0 : decide (16777216 ≤ c) = false := by simp; omega
    have t1 : decide (c < 33554432) = true := by simp; omega
    have t2 : decide (17 ≤ c) = true := by simp; omega
    have t3 : decide (c ≤ 256) = false := by simp; omega
    have b2 : (f / 2 % 2 == 1) = false := K1 _ hb2
    have b1 : (f % 2 == 1) = true := K2 _ hb
    clear kc kd fin K1 K2 hb hb2 hr
    go_enter Tryd.func18, Tryd.ntmps18
    go_wp2_with fail
    refine (rto16_any c hc w).mono ?_
    rintro e w1 ⟨rfl, hb1⟩
    go_wp2_with fail
    go_ret
    exact ⟨ret_int E.out, hb1⟩
  · have E : Hid (Col.to16 c = Col.fit c f) := by
      unfold Hid Col.fit
      repeat' split
      all_goals first | rfl | omega | (exact kc (by omega)) | (exact kd (by omega)) | (exact (kc (by omega)).symm) | (exact (kd (by omega)).symm) | (rw [kd (by omega), kc (by omega)])
    have t0 : decide (16777216 ≤ c) = false := by simp; omega
    have t1 : decide (c < 33554432) = true := by simp; omega
    have t2 : decide (17 ≤ c) = true := by simp; omega
    have t3 : decide (c ≤ 256) = false := by simp; omega
    have b2 : (f / 2 % 2 == 1) = false := K1 _ hb2
    have b1 : (f % 2 == 1) = false := K2 _ hb
    clear kc kd fin K1 K2 hb hb2 hr
    go_enter Tryd.func18, Tryd.ntmps18
    go_wp2_with fail
    refine (rto16_any c hc w).mono ?_
    rintro e w1 ⟨rfl, hb1⟩
    go_wp2_with fail
    go_ret
    exact ⟨ret_int E.out, hb1⟩
  · have E : Hid (c = Col.fit c f) := by
      unfold Hid Col.fit
      repeat' split
      all_goals first | rfl | omega | (exact kc (by omega)) | (exact kd (by omega)) | (exact (kc (by omega)).symm) | (exact (kd (by omega)).symm) | (rw [kd (by omega), kc (by omega)])
    have t0 : decide (16777216 ≤ c) = true := by simp; omega
    have t1 : decide (c < 33554432) = true := by simp; omega
    have t2 : decide (17 ≤ c) = true := by simp; omega
    have t3 : decide (c ≤ 256) = false := by simp; omega
    have b2 : (f / 2 % 2 == 1) = true := K1 _ hb2
    have b1 : (f % 2 == 1) = true := K2 _ hb
    clear kc kd fin K1 K2 hb hb2 hr
    go_enter Tryd.func18, Tryd.ntmps18
    go_wp2_with fail
    go_ret
    exact ⟨ret_int E.out, Below.refl _ _⟩
  · have E : Hid (c = Col.fit c f) := by
      unfold Hid Col.fit
      repeat' split
      all_goals first | rfl | omega | (exact kc (by omega)) | (exact kd (by omega)) | (exact (kc (by omega)).symm) | (exact (kd (by omega)).symm) | (rw [kd (by omega), kc (by omega)])
    have t0 : decide (16777216 ≤ c) = true := by simp; omega
    have t1 : decide (c < 33554432) = true := by simp; omega
    have t2 : decide (17 ≤ c) = true := by simp; omega
    have t3 : decide (c ≤ 256) = false := by simp; omega
    have b2 : (f / 2 % 2 == 1) = true := K1 _ hb2
    have b1 : (f % 2 == 1) = false := K2 _ hb
    clear kc kd fin K1 K2 hb hb2 hr
    go_enter Tryd.func18, Tryd.ntmps18
    go_wp2_with fail
    go_ret
    exact ⟨ret_int E.out, Below.refl _ _⟩
  · have E : Hid (Col.to256 c = Col.fit c f) := by
      unfold Hid Col.fit
      repeat' split
      all_goals first | rfl | omega | (exact kc (by omega)) | (exact kd (by omega)) | (exact (kc (by omega)).symm) | (exact (kd (by omega)).symm) | (rw [kd (by omega), kc (by omega)])
    have t0 : decide (16777216 ≤ c) = true := by simp; omega
    have t1 : decide (c < 33554432) = true := by simp; omega
    have t2 : decide (17 ≤ c) = true := by simp; omega
    have t3 : decide (c ≤ 256) = false := by simp; omega
    have b2 : (f / 2 % 2 == 1) = false := K1 _ hb2
    have b1 : (f % 2 == 1) = true := K2 _ hb
    clear kc kd fin K1 K2 hb hb2 hr
    go_enter Tryd.func18, Tryd.ntmps18
    go_wp2_with fail
    refine (rto256_any c hc w).mono ?_
    rintro e w1 ⟨rfl, hb1⟩
    go_wp2_with fail
    go_ret
    exact ⟨ret_int E.out, hb1⟩
  · have E : Hid (Col.to16 c = Col.fit c f) := by
      unfold Hid Col.fit
      repeat' split
      all_goals first | rfl | omega | (exact kc (by omega)) | (exact kd (by omega)) | (exact (kc (by omega)).symm) | (exact (kd (by omega)).symm) | (rw [kd (by omega), kc (by omega)])
    have t0 : decide (16777216 ≤ c) = true := by simp; omega
    have t1 : decide (c < 33554432) = true := by simp; omega
    have t2 : decide (17 ≤ c) = true := by simp; omega
    have t3 : decide (c ≤ 256) = false := by simp; omega
    have b2 : (f / 2 % 2 == 1) = false := K1 _ hb2
    have b1 : (f % 2 == 1) = false := K2 _ hb
    clear kc kd fin K1 K2 hb hb2 hr
    go_enter Tryd.func18, Tryd.ntmps18
    go_wp2_with fail
    refine (rto16_any c hc w).mono ?_
    rintro e w1 ⟨rfl, hb1⟩
    go_wp2_with fail
    go_ret
    exact ⟨ret_int E.out, hb1⟩
  · have E : Hid (Col.to16 c = Col.fit c f) := by
      unfold Hid Col.fit
      repeat' split
      all_goals first | rfl | omega | (exact kc (by omega)) | (exact kd (by omega)) | (exact (kc (by omega)).symm) | (exact (kd (by omega)).symm) | (rw [kd (by omega), kc (by omega)])
    have t0 : decide (16777216 ≤ c) = true := by simp; omega
    have t1 : decide (c < 33554432) = false := by simp; omega
    have t2 : decide (17 ≤ c) = true := by simp; omega
    have t3 : decide (c ≤ 256) = false := by simp; omega
    have b2 : (f / 2 % 2 == 1) = true := K1 _ hb2
    have b1 : (f % 2 == 1) = true := K2 _ hb
    clear kc kd fin K1 K2 hb hb2 hr
    go_enter Tryd.func18, Tryd.ntmps18
    go_wp2_with fail
    refine (rto16_any c hc w).mono ?_
    rintro e w1 ⟨rfl, hb1⟩
    go_wp2_with fail
    go_ret
    exact ⟨ret_int E.out, hb1⟩
  · have E : Hid (Col.to16 c = Col.fit c f) := by
      unfold Hid Col.fit
      repeat' split
      all_goals first | rfl | omega | (exact kc (by omega)) | (exact kd (by omega)) | (exact (kc (by omega)).symm) | (exact (kd (by omega)).symm) | (rw [kd (by omega), kc (by omega)])
    have t0 : decide (16777216 ≤ c) = true := by simp; omega
    have t1 : decide (c < 33554432) = false := by simp; omega
    have t2 : decide (17 ≤ c) = true := by simp; omega
    have t3 : decide (c ≤ 256) = false := by simp; omega
    have b2 : (f / 2 % 2 == 1) = true := K1 _ hb2
    have b1 : (f % 2 == 1) = false := K2 _ hb
    clear kc kd fin K1 K2 hb hb2 hr
    go_enter Tryd.func18, Tryd.ntmps18
    go_wp2_with fail
    refine (rto16_any c hc w).mono ?_
    rintro e w1 ⟨rfl, hb1⟩
    go_wp2_with fail
    go_ret
    exact ⟨ret_int E.out, hb1⟩
  · have E : Hid (Col.to16 c = Col.fit c f) := by
      unfold Hid Col.fit
      repeat' split
      all_goals first | rfl | omega | (exact kc (by omega)) | (exact kd (by omega)) | (exact (kc (by omega)).symm) | (exact (kd (by omega)).symm) | (rw [kd (by omega), kc (by omega)])
    have t0 : decide (16777216 ≤ c) = true := by simp; omega
    have t1 : decide (c < 33554432) = false := by simp; omega
    have t2 : decide (17 ≤ c) = true := by simp; omega
    have t3 : decide (c ≤ 256) = false := by simp; omega
    have b2 : (f / 2 % 2 == 1) = false := K1 _ hb2
    have b1 : (f % 2 == 1) = true := K2 _ hb
    clear kc kd fin K1 K2 hb hb2 hr
    go_enter Tryd.func18, Tryd.ntmps18
    go_wp2_with fail
    refine (rto16_any c hc w).mono ?_
    rintro e w1 ⟨rfl, hb1⟩
    go_wp2_with fail
    go_ret
    exact ⟨ret_int E.out, hb1⟩
  · have E : Hid (Col.to16 c = Col.fit c f) := by
      unfold Hid Col.fit
      repeat' split
      all_goals first | rfl | omega | (exact kc (by omega)) | (exact kd (by omega)) | (exact (kc (by omega)).symm) | (exact (kd (by omega)).symm) | (rw [kd (by omega), kc (by omega)])
    have t0 : decide (16777216 ≤ c) = true := by simp; omega
    have t1 : decide (c < 33554432) = false := by simp; omega
    have t2 : decide (17 ≤ c) = true := by simp; omega
    have t3 : decide (c ≤ 256) = false := by simp; omega
    have b2 : (f / 2 % 2 == 1) = false := K1 _ hb2
    have b1 : (f % 2 == 1) = false := K2 _ hb
    clear kc kd fin K1 K2 hb hb2 hr
    go_enter Tryd.func18, Tryd.ntmps18
    go_wp2_with fail
    refine (rto16_any c hc w).mono ?_
    rintro e w1 ⟨rfl, hb1⟩
    go_wp2_with fail
    go_ret
    exact ⟨ret_int E.out, hb1⟩
end Go.Proofs.YtkgklolpeanpbaaDoor
