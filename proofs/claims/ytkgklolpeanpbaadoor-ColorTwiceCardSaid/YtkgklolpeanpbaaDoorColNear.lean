/- The walks of color.nearest, To256, To16, Fit. -/
import Derived.Test.YtkgklolpeanpbaaDoorColWalk
namespace Go.Proofs.YtkgklolpeanpbaaDoor
open Go.RowKit
set_option linter.unusedVariables false
set_option linter.unusedSimpArgs false

def bst (c lo : Int) (k : Nat) : Int := if k = 0 then 0 else Col.best (Col.far c) lo k
def fst (c lo : Int) (k : Nat) : Int := if k = 0 then 0 else Col.far c (Col.best (Col.far c) lo k)
theorem bst_yes {c lo : Int} {k : Nat} (h : k = 0 ∨ Col.far c (lo + k + 1) < fst c lo k) : bst c lo (k + 1) = lo + k + 1 ∧ fst c lo (k + 1) = Col.far c (lo + k + 1) := by
  unfold bst fst at *
  rw [if_neg (by omega), if_neg (by omega)]
  by_cases hk : k = 0
  · subst hk
    simp [Col.best]
  · rw [if_neg hk] at h
    have h' := h.resolve_left hk
    simp only [Col.best]
    rw [if_pos h']
    exact ⟨rfl, rfl⟩
theorem bst_no {c lo : Int} {k : Nat} (hk : k ≠ 0) (h : ¬ Col.far c (lo + k + 1) < fst c lo k) : bst c lo (k + 1) = bst c lo k ∧ fst c lo (k + 1) = fst c lo k := by
  unfold bst fst at *
  rw [if_neg hk] at h
  have e : Col.best (Col.far c) lo (k + 1) = Col.best (Col.far c) lo k := by simp only [Col.best]; rw [if_neg h]
  rw [if_neg (Nat.succ_ne_zero k), if_neg (Nat.succ_ne_zero k), if_neg hk, if_neg hk, e]
  exact ⟨rfl, rfl⟩
theorem bst_pos (c lo : Int) (k : Nat) (hlo : 0 ≤ lo) (hk : k ≠ 0) : (bst c lo k == 0) = false := by
  have := Col.best_bd (Col.far c) lo k (by omega)
  unfold bst
  rw [if_neg hk]
  exact beq_eq_false_iff_ne.2 (by omega)

def Rel (c lo : Int) (n : Nat) (w : World) (b f i : Value) (wr : World) : Prop :=
  ∃ k : Nat, k ≤ n ∧ i = .int .i64 k ∧ b = .int .u32 (bst c lo k) ∧ f = .int .i64 (fst c lo k) ∧ Below w.heap.size w wr

theorem nearest1_any (c lo : Int) (n : Nat) (p : Nat) (hc : 0 ≤ c) (hc2 : c < 4294967296) (hlo : 0 ≤ lo) (hlo2 : lo ≤ 1000) (hn : 1 ≤ n) (hn2 : n ≤ 1000) (w : World) (T : Tab w) (hp : w.cell? ⟨p, 0, none⟩ = some (.int .u32 c)) (hpl : p < w.heap.size) :
    Calls Tryd.prog 24 #[.int .i64 lo, .int .i64 (lo + n - 1), .pointer (some ⟨p, 0, none⟩)] w fun e w' => e = .returned (.int .u32 (Col.near c lo n)) ∧ Below w.heap.size w w' := by
  go_enter Tryd.func24, Tryd.ntmps24
  go_wp2_with fail
  go_loopw [6, 7, 15] (fun b f i wr => Rel c lo n w b f i wr) (fun _ _ i _ => n - (intOf i).toNat)
  case atStart => exact ⟨0, by omega, rfl, rfl, rfl, Below.refl _ _⟩
  case round =>
    obtain ⟨k, hk, rfl, rfl, rfl, hb⟩ := hrel
    have hp' : wr.cell? ⟨p, 0, none⟩ = some (.int .u32 c) := (hb.cell (p := ⟨p, 0, none⟩) hpl).trans hp
    by_cases hlt : k < n
    · have hf := Col.far_bd c (lo + k + 1) hc (by omega)
      by_cases hk0 : k = 0
      · have hz : (bst c lo k == 0) = true := by subst hk0; rfl
        have hs := bst_yes (c := c) (lo := lo) (.inl hk0)
        have HS := Lib.hid hs
        clear hs hk0
        go_wp2_with fail
        refine (far_any c (lo + k + 1) hc hc2 (by omega) (by omega) wr (T.below hb)).mono ?_
        rintro e w1 ⟨rfl, hb1⟩
        go_wp2_with fail
        go_roundw
        case rel => exact ⟨k + 1, by omega, by go_num, by rw [HS.out.1], by rw [HS.out.2], hb.trans (hb1.mono hb.size)⟩
        case measure => simp [intOf]; omega
      · have hz := bst_pos c lo k hlo hk0
        by_cases hl : Col.far c (lo + k + 1) < fst c lo k
        · have hs := bst_yes (.inr hl)
          have HS := Lib.hid hs
          clear hs hk0
          go_wp2_with fail
          refine (far_any c (lo + k + 1) hc hc2 (by omega) (by omega) wr (T.below hb)).mono ?_
          rintro e w1 ⟨rfl, hb1⟩
          go_wp2_with fail
          go_roundw
          case rel => exact ⟨k + 1, by omega, by go_num, by rw [HS.out.1], by rw [HS.out.2], hb.trans (hb1.mono hb.size)⟩
          case measure => simp [intOf]; omega
        · have hs := bst_no hk0 hl
          have HS := Lib.hid hs
          clear hs hk0
          go_wp2_with fail
          refine (far_any c (lo + k + 1) hc hc2 (by omega) (by omega) wr (T.below hb)).mono ?_
          rintro e w1 ⟨rfl, hb1⟩
          go_wp2_with fail
          go_roundw
          case rel => exact ⟨k + 1, by omega, by go_num, by rw [HS.out.1], by rw [HS.out.2], hb.trans (hb1.mono hb.size)⟩
          case measure => simp [intOf]; omega
    · go_wp2_with fail
      go_ret
      obtain rfl : k = n := by omega
      exact ⟨ret_int (by unfold bst Col.near; rw [if_neg (by omega)]), hb⟩

theorem nearest_any (c : Int) (w : World) :
    Calls Tryd.prog 22 #[.int .u32 c] w fun e w' => e = .returned (.func (.func 24) #[] #[.pointer (some ⟨w.heap.size, 0, none⟩)]) ∧ w' = w.alloc (.cells #[.int .u32 c] 23) := by
  go_enter Tryd.func22, Tryd.ntmps22
  go_wp2
  go_ret
  exact ⟨rfl, rfl⟩

theorem to256_any (c : Int) (hc : 0 ≤ c) (hc2 : c < 4294967296) (w : World) (T : Tab w) :
    Calls Tryd.prog 13 #[.int .u32 c] w fun e w' => e = .returned (.int .u32 (Col.to256 c)) ∧ Below w.heap.size w w' := by
  rcases Int.lt_or_le c 16777216 with h1 | h1
  case inr =>
    by_cases hm : Col.may c = true
    · have e : Col.near c 16 240 = Col.to256 c := by unfold Col.to256; rw [if_pos (by have := (Col.may_iff c).1 hm; omega)]
      have E := Lib.hid e
      clear e
      go_enter Tryd.func13, Tryd.ntmps13
      go_wp2_with fail
      refine (may_any _ _).mono ?_
      rintro e w' ⟨rfl, rfl⟩
      go_wp2_with fail
      refine (nearest_any _ _).mono ?_
      rintro e w' ⟨rfl, rfl⟩
      go_wp2_with fail
      have hb : Below w.heap.size w (w.alloc (.cells #[.int .u32 c] 23)) := (Below.refl _ _).alloc (Nat.le_refl _) _
      refine (nearest1_any c 16 240 w.heap.size hc hc2 (by omega) (by omega) (by omega) (by omega) _ (T.below hb) (by simp [go_sem]) (by simp)).mono ?_
      rintro e w' ⟨rfl, hb1⟩
      go_wp2_with fail
      go_ret
      exact ⟨ret_int E.out, hb.trans (hb1.mono hb.size)⟩
    · have hm' : Col.may c = false := by simpa using hm
      have e : c = Col.to256 c := by unfold Col.to256; rw [if_neg]; intro h; exact hm ((Col.may_iff c).2 (.inr h))
      have E := Lib.hid e
      clear e hm
      go_enter Tryd.func13, Tryd.ntmps13
      go_wp2_with fail
      refine (may_any _ _).mono ?_
      rintro e w' ⟨rfl, rfl⟩
      go_wp2_with fail
      go_ret
      exact ⟨ret_int E.out, Below.refl _ _⟩
  case inl =>
    have e : c = Col.to256 c := by unfold Col.to256; rw [if_neg (by omega)]
    have E := Lib.hid e
    clear e
    go_enter Tryd.func13, Tryd.ntmps13
    go_wp2_with fail
    go_ret
    exact ⟨ret_int E.out, Below.refl _ _⟩

theorem to16_any (c : Int) (hc : 0 ≤ c) (hc2 : c < 4294967296) (w : World) (T : Tab w) :
    Calls Tryd.prog 14 #[.int .u32 c] w fun e w' => e = .returned (.int .u32 (Col.to16 c)) ∧ Below w.heap.size w w' := by
  rcases Int.lt_or_le 16 c with h1 | h1
  case inl =>
    have hd : decide (c ≤ 16) = false := decide_eq_false (by omega)
    by_cases hm : Col.may c = true
    · have e : Col.near c 0 16 = Col.to16 c := by unfold Col.to16; rw [if_pos (by have := (Col.may_iff c).1 hm; omega)]
      have E := Lib.hid e
      clear e
      go_enter Tryd.func14, Tryd.ntmps14
      go_wp2_with fail
      refine (may_any _ _).mono ?_
      rintro e w' ⟨rfl, rfl⟩
      go_wp2_with fail
      refine (nearest_any _ _).mono ?_
      rintro e w' ⟨rfl, rfl⟩
      go_wp2_with fail
      have hb : Below w.heap.size w (w.alloc (.cells #[.int .u32 c] 23)) := (Below.refl _ _).alloc (Nat.le_refl _) _
      refine (nearest1_any c 0 16 w.heap.size hc hc2 (by omega) (by omega) (by omega) (by omega) _ (T.below hb) (by simp [go_sem]) (by simp)).mono ?_
      rintro e w' ⟨rfl, hb1⟩
      go_wp2_with fail
      go_ret
      exact ⟨ret_int E.out, hb.trans (hb1.mono hb.size)⟩
    · have hm' : Col.may c = false := by simpa using hm
      have e : c = Col.to16 c := by unfold Col.to16; rw [if_neg]; intro h; exact hm ((Col.may_iff c).2 (by omega))
      have E := Lib.hid e
      clear e hm
      go_enter Tryd.func14, Tryd.ntmps14
      go_wp2_with fail
      refine (may_any _ _).mono ?_
      rintro e w' ⟨rfl, rfl⟩
      go_wp2_with fail
      go_ret
      exact ⟨ret_int E.out, Below.refl _ _⟩
  case inr =>
    have e : c = Col.to16 c := by unfold Col.to16; rw [if_neg (by omega)]
    have E := Lib.hid e
    clear e
    go_enter Tryd.func14, Tryd.ntmps14
    go_wp2_with fail
    go_ret
    exact ⟨ret_int E.out, Below.refl _ _⟩
end Go.Proofs.YtkgklolpeanpbaaDoor
