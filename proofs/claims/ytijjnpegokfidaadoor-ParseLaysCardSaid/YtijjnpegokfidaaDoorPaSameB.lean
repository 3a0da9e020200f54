/- The document's Same of bytes walked. -/
import Derived.Test.YtijjnpegokfidaaDoorPaActs
namespace Go.Proofs.YtijjnpegokfidaaDoor
open Go.RowKit
set_option linter.unusedVariables false
set_option linter.unusedSimpArgs false

theorem sameB_any (A B : Option Addr) (c d : Nat) (xs ys : List Int) (w : World) (hx : ReadI w .u8 A xs) (hy : ReadI w .u8 B ys) (hxl : xs.length ≤ 17592186044415) (hyl : ys.length ≤ 17592186044415) :
    Calls Tryd.prog 9 #[.slice A xs.length c, .slice B ys.length d] w fun e w' => e = .returned (.bool (decide (xs = ys))) ∧ ∃ m, w' = w.drewN m := by
  by_cases hl : xs.length = ys.length
  · have t0 : ((xs.length : Int) != (ys.length : Int)) = false := by rw [hl]; simp
    have HL := Lib.hid hl
    clear hl
    go_enter Tryd.func9, Tryd.ntmps9
    go_wp2_with fail
    go_loopw [13] (fun i wr => ∃ k m : Nat, k ≤ xs.length ∧ i = .int .i64 k ∧ xs.take k = ys.take k ∧ wr = w.drewN m) (fun i _ => xs.length - (intOf i).toNat)
    case atStart => exact ⟨0, 0, by omega, rfl, rfl, rfl⟩
    case round =>
      obtain ⟨k, m, hk, rfl, ht, rfl⟩ := hrel
      have HT := Lib.hid ht
      clear ht
      by_cases hlt : k < xs.length
      · have hky : k < ys.length := by have := HL.out; omega
        obtain ⟨b1, o1, rfl, hc1⟩ := hx (by rintro rfl; simp at hlt)
        obtain ⟨b2, o2, rfl, hc2⟩ := hy (by rintro rfl; simp at hky)
        have c1 := hc1 k hlt
        have c2 := hc2 k hky
        obtain ⟨x, hxk⟩ : ∃ x, x = xs.getD k 0 := ⟨_, rfl⟩
        obtain ⟨y, hyk⟩ : ∃ y, y = ys.getD k 0 := ⟨_, rfl⟩
        rw [← hxk] at c1
        rw [← hyk] at c2
        have HX := Lib.hid hxk
        have HY := Lib.hid hyk
        clear hxk hyk hc1 hc2 hx hy
        have i1 : (k : Int) < (xs.length : Int) := by omega
        have i2 : (k : Int) < (ys.length : Int) := by omega
        by_cases hxy : x = y
        · have t1 : (x != y) = false := by simp [hxy]
          have hs : xs.take (k + 1) = ys.take (k + 1) := by
            rw [List.take_succ_eq_append_getElem hlt, List.take_succ_eq_append_getElem hky, HT.out]
            have e1 := HX.out
            have e2 := HY.out
            simp [List.getD_eq_getElem?_getD, hlt] at e1
            simp [List.getD_eq_getElem?_getD, hky] at e2
            rw [← e1, ← e2, hxy]
          have HS := Lib.hid hs
          clear hs hxy
          go_wp2_with fail
          go_quiet (fail)
          go_wp2_with fail
          go_roundw
          case rel => exact ⟨k + 1, _, by omega, by go_num, HS.out, rfl⟩
          case measure => simp [intOf]; omega
        · have t1 : (x != y) = true := by simp [hxy]
          have hs : decide (xs = ys) = false := by
            apply decide_eq_false
            rintro rfl
            exact hxy (HX.out.trans HY.out.symm)
          have HS := Lib.hid hs
          clear hs hxy
          go_wp2_with fail
          go_quiet (fail)
          go_wp2_with fail
          go_ret
          exact ⟨ret_bool HS.out.symm, _, World.drewN_drewN _ _ _⟩
      · have hs : decide (xs = ys) = true := by
          apply decide_eq_true
          have h1 := HT.out
          have h2 := HL.out
          rwa [List.take_of_length_le (by omega), List.take_of_length_le (by omega)] at h1
        have HS := Lib.hid hs
        clear hs
        go_wp2_with fail
        go_ret
        exact ⟨ret_bool HS.out.symm, m, rfl⟩
  · have t0 : ((xs.length : Int) != (ys.length : Int)) = true := by simp; omega
    have hs : decide (xs = ys) = false := decide_eq_false (fun e => hl (by rw [e]))
    have HS := Lib.hid hs
    clear hs hl
    go_enter Tryd.func9, Tryd.ntmps9
    go_wp2_with fail
    go_ret
    exact ⟨ret_bool HS.out.symm, 0, rfl⟩

theorem sameB_dec (A B : Option Addr) (c d n m : Nat) (xs ys : List Int) (w : World) (r : Bool) (hn : n = xs.length) (hm : m = ys.length) (hx : ReadI w .u8 A xs) (hy : ReadI w .u8 B ys) (hxl : xs.length ≤ 17592186044415) (hyl : ys.length ≤ 17592186044415) (he : decide (xs = ys) = r) :
    Calls Tryd.prog 9 #[.slice A n c, .slice B m d] w fun e w' => e = .returned (.bool r) ∧ Below w.heap.size w w' := by
  subst hn hm he
  refine (sameB_any A B c d xs ys w hx hy hxl hyl).mono ?_
  rintro e w' ⟨rfl, k, rfl⟩
  exact ⟨rfl, below_drewN (Below.refl _ _) k⟩
end Go.Proofs.YtijjnpegokfidaaDoor
