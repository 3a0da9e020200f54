/- The walk of the laws' fixed, and of UtfWidths. -/
import Derived.Test.YtkdmdklmkachfaaDoorUtfRwidth
namespace Go.Proofs.YtkdmdklmkachfaaDoor
open Go.RowKit
open Utf (DS)
set_option linter.unusedVariables false
set_option linter.unusedSimpArgs false

theorem runes_lit (A : Option Addr) (n c : Nat) (bs out : List Int) (w : World) (hn : n = bs.length) (hx : ReadI w .u8 A bs) (hb : ∀ b ∈ bs, Utf.Byte b) (hl : bs.length ≤ 1048576) (ho : Utf.runes bs = out) :
    Calls Tryd.prog 16 #[.slice A n c] w (NewInts 21 .i32 w out) := by
  subst hn ho
  exact runes_any A c bs w hx hb hl
theorem sameR_true (A B : Option Addr) (c d n m : Nat) (xs ys : List Int) (w : World) (hn : n = xs.length) (hm : m = ys.length) (hx : ReadI w .i32 A xs) (hy : ReadI w .i32 B ys) (hxl : xs.length ≤ 17592186044415) (he : xs = ys) :
    Calls Tryd.prog 12 #[.slice A n c, .slice B m d] w fun e w' => e = .returned (.bool true) ∧ Below w.heap.size w w' := by
  subst hn hm he
  refine (sameR_any A B c d xs xs w hx hy hxl hxl).mono ?_
  rintro e w' ⟨rfl, k, rfl⟩
  exact ⟨ret_bool (by simp), below_drewN (Below.refl _ _) k⟩
theorem fixed_runes1 : Utf.runes [65, 226, 130, 172] = [65, 8364] := by decide +kernel
theorem fixed_runes2 : Utf.runes [192, 128] = [65533, 65533] := by decide +kernel
theorem fixed_width1 : Utf.width 19968 = 2 := by decide +kernel
theorem fixed_width2 : Utf.width 769 = 0 := by decide +kernel

theorem fixed_any (w : World) (T : Tab w) : Calls Tryd.prog 10 #[] w fun e w' => e = .returned (.bool true) ∧ Below w.heap.size w w' := by
  have HT := Lib.hid T
  have B0 := below_alloc (Below.refl w.heap.size w) (.cells #[.int .u8 65, .int .u8 226, .int .u8 130, .int .u8 172] 5)
  have l0 := OwnI.lit4 w w.heap.size 5 .u8 65 226 130 172 (Nat.le_refl _)
  clear T
  go_enter Tryd.func10, Tryd.ntmps10
  go_wp2_with fail
  refine (runes_lit (some ⟨w.heap.size, 0, none⟩) 4 4 [65, 226, 130, 172] _ _ rfl l0.read (by simp [Utf.Byte]) (by decide) fixed_runes1).mono ?_
  rintro e w1 ⟨A1, c1, rfl, o1, b1⟩
  have B1 := B0.trans (b1.mono B0.size)
  clear l0 b1 B0
  have l1 := OwnI.lit2 w1 w1.heap.size 21 .i32 65 8364 (Nat.le_refl _)
  have r1 := o1.read.under (below_alloc (Below.refl _ _) (.cells #[.int .i32 65, .int .i32 8364] 21))
  have B2 := below_alloc B1 (.cells #[.int .i32 65, .int .i32 8364] 21)
  clear o1 B1
  go_wp2_with fail
  refine (sameR_true A1 (some ⟨w1.heap.size, 0, none⟩) c1 2 2 2 [65, 8364] [65, 8364] _ rfl rfl r1 l1.read (by decide) rfl).mono ?_
  rintro e w2 ⟨rfl, b2⟩
  have B3 := B2.trans (b2.mono B2.size)
  clear l1 r1 b2 B2
  have B4 := below_alloc B3 (.cells #[.int .u8 192, .int .u8 128] 5)
  have l2 := OwnI.lit2 w2 w2.heap.size 5 .u8 192 128 (Nat.le_refl _)
  clear B3
  go_wp2_with fail
  refine (runes_lit (some ⟨w2.heap.size, 0, none⟩) 2 2 [192, 128] _ _ rfl l2.read (by simp [Utf.Byte]) (by decide) fixed_runes2).mono ?_
  rintro e w3 ⟨A3, c3, rfl, o3, b3⟩
  have B5 := B4.trans (b3.mono B4.size)
  clear l2 b3 B4
  have l3 := OwnI.lit2 w3 w3.heap.size 21 .i32 65533 65533 (Nat.le_refl _)
  have r3 := o3.read.under (below_alloc (Below.refl _ _) (.cells #[.int .i32 65533, .int .i32 65533] 21))
  have B6 := below_alloc B5 (.cells #[.int .i32 65533, .int .i32 65533] 21)
  clear o3 B5
  go_wp2_with fail
  refine (sameR_true A3 (some ⟨w3.heap.size, 0, none⟩) c3 2 2 2 [65533, 65533] [65533, 65533] _ rfl rfl r3 l3.read (by decide) rfl).mono ?_
  rintro e w4 ⟨rfl, b4⟩
  have B7 := B6.trans (b4.mono B6.size)
  clear l3 r3 b4 B6
  go_wp2_with fail
  refine (width_any 19968 (by decide) (by decide) w4 (HT.out.below B7)).mono ?_
  rw [fixed_width1]
  rintro e w5 ⟨rfl, b5⟩
  have B8 := B7.trans (b5.mono B7.size)
  go_wp2_with fail
  refine (width_any 769 (by decide) (by decide) w5 (HT.out.below B8)).mono ?_
  rw [fixed_width2]
  rintro e w6 ⟨rfl, b6⟩
  have B9 := B8.trans (b6.mono B8.size)
  go_wp2_with fail
  go_ret
  exact ⟨rfl, B9⟩

theorem widths_any (r : Int) (h0 : -2147483648 ≤ r) (h1 : r ≤ 2147483647) (w : World) (T : Tab w) : Calls Tryd.prog 5 #[.int .i32 r] w fun e w' => e = .returned (.bool true) ∧ Below w.heap.size w w' := by
  have HT := Lib.hid T
  have H0 := Lib.hid h0
  have H1 := Lib.hid h1
  clear T h0 h1
  go_enter Tryd.func5, Tryd.ntmps5
  go_wp2_with fail
  refine (fixed_any w HT.out).mono ?_
  rintro e w1 ⟨rfl, b1⟩
  go_wp2_with fail
  refine (width_any r H0.out H1.out w1 (HT.out.below b1)).mono ?_
  rintro e w2 ⟨rfl, b2⟩
  have B2 := b1.trans (b2.mono b1.size)
  go_wp2_with fail
  refine (rwidth_any r w2).mono ?_
  rintro e w3 ⟨rfl, rfl⟩
  go_wp2_with fail
  refine (feed_nil _ w2).mono ?_
  rintro e w4 ⟨rfl, rfl⟩
  go_wp2_with fail
  refine (end_nil w2).mono ?_
  rintro e w4 ⟨rfl, rfl⟩
  go_wp2_with fail
  go_ret
  exact ⟨rfl, B2⟩
end Go.Proofs.YtkdmdklmkachfaaDoor
