/- The walk of the law UtfRunes. -/
import Derived.Test.YtkdmdklmkachfaaDoorUtfRvalid
namespace Go.Proofs.YtkdmdklmkachfaaDoor
open Go.RowKit
open Utf (DS)
set_option linter.unusedVariables false
set_option linter.unusedSimpArgs false

theorem sameB_dec (A B : Option Addr) (c d n m : Nat) (xs ys : List Int) (w : World) (r : Bool) (hn : n = xs.length) (hm : m = ys.length) (hx : ReadI w .u8 A xs) (hy : ReadI w .u8 B ys) (hxl : xs.length ≤ 17592186044415) (hyl : ys.length ≤ 17592186044415) (he : decide (xs = ys) = r) :
    Calls Tryd.prog 23 #[.slice A n c, .slice B m d] w fun e w' => e = .returned (.bool r) ∧ Below w.heap.size w w' := by
  subst hn hm he
  refine (sameB_any A B c d xs ys w hx hy hxl hyl).mono ?_
  rintro e w' ⟨rfl, k, rfl⟩
  exact ⟨rfl, below_drewN (Below.refl _ _) k⟩
theorem rrunes_len (A : Option Addr) (n c : Nat) (bs : List Int) (w : World) (hn : n = bs.length) (hx : ReadI w .u8 A bs) (hb : ∀ b ∈ bs, Utf.Byte b) (hl : bs.length ≤ 1048576) :
    Calls Tryd.prog 20 #[.slice A n c] w (NewInts 21 .i32 w (Utf.rrunes bs)) := by
  subst hn
  exact rrunes_any A c bs w hx hb hl

set_option maxHeartbeats 1000000 in
theorem runesLaw_any (w : World) (T : Tab w) (A : Option Addr) (len c : Nat) (bs : List Int) (hlen : len = bs.length) (hl : len ≤ 9223372036854775807) (hcap : len ≤ c) (hx : ReadI w .u8 A bs) (hb : ∀ b ∈ bs, Utf.Byte b) :
    Calls Tryd.prog 6 #[.slice A len c] w fun e w' => e = .returned (.bool true) ∧ Below w.heap.size w w' := by
  have HX := Lib.hid hx
  have HB := Lib.hid hb
  have HT := Lib.hid T
  have HLEN := Lib.hid hlen
  clear hx hb T
  rcases Nat.lt_or_ge 400 len with h | h
  · have t1 : decide (400 < (len : Int)) = true := decide_eq_true (by omega)
    clear hlen
    go_enter Tryd.func6, Tryd.ntmps6
    go_wp2_with fail
    refine (fixed_any w HT.out).mono ?_
    rintro e w1 ⟨rfl, b1⟩
    go_wp2_with fail
    go_ret
    exact ⟨rfl, b1⟩
  · have t1 : decide (400 < (len : Int)) = false := decide_eq_false (by omega)
    have hl2 : bs.length ≤ 1048576 := by omega
    have hrl := Utf.runes_eq bs HB.out
    have HRL := Lib.hid hrl
    have hrn : (Utf.runes bs).length ≤ 2097153 := by
      have h1 := Utf.told_len Utf.start bs
      have h2 := Utf.end_len (Utf.after Utf.start bs)
      show (Utf.told Utf.start bs ++ Utf.endT (Utf.after Utf.start bs)).length ≤ _
      rw [List.length_append]
      omega
    obtain ⟨v, hv⟩ : ∃ v, v = Utf.vB bs := ⟨_, rfl⟩
    have HV := Lib.hid hv
    have HL2 := Lib.hid hl2
    have HRN := Lib.hid hrn
    clear hlen hrl hl2 hv hrn
    go_enter Tryd.func6, Tryd.ntmps6
    go_wp2_with fail
    refine (copy_any A len c bs w HLEN.out HX.out HL2.out).mono ?_
    rintro e w1 ⟨A1, c1, rfl, o1, b1⟩
    have r1 := o1.read
    have B1 := b1
    clear o1 b1
    go_wp2_with fail
    refine (fixed_any w1 (HT.out.below B1)).mono ?_
    rintro e w2 ⟨rfl, h2⟩
    have r2 := r1.under h2
    have B2 := B1.trans (h2.mono B1.size)
    clear r1 B1 h2
    go_wp2_with fail
    refine (runes_lit A1 bs.length c1 bs (Utf.runes bs) w2 rfl r2 HB.out HL2.out rfl).mono ?_
    rintro e w3 ⟨A3, c3, rfl, o3, h3⟩
    have r3 := r2.under h3
    have B3 := B2.trans (h3.mono B2.size)
    clear r2 B2 h3
    go_wp2_with fail
    refine (rrunes_len A len c bs w3 HLEN.out (HX.out.under B3) HB.out HL2.out).mono ?_
    rintro e w4 ⟨A4, c4, rfl, o4, h4⟩
    have r4 := r3.under h4
    have B4 := B3.trans (h4.mono B3.size)
    have q3 := o3.read.under h4
    have q4 := o4.read
    clear r3 B3 h4 o3 o4
    go_wp2_with fail
    refine (sameR_true A3 A4 c3 c4 (Utf.runes bs).length (Utf.rrunes bs).length (Utf.runes bs) (Utf.rrunes bs) w4 rfl rfl q3 q4 (by have := HRN.out; omega) HRL.out).mono ?_
    rintro e w5 ⟨rfl, h5⟩
    have r5 := r4.under h5
    have B5 := B4.trans (h5.mono B4.size)
    clear r4 B4 h5 q3 q4
    go_wp2_with fail
    refine (valid_any A1 bs.length c1 bs w5 rfl r5 HB.out HL2.out).mono ?_
    rw [← HV.out]
    rintro e w6 ⟨rfl, h6⟩
    have r6 := r5.under h6
    have B6 := B5.trans (h6.mono B5.size)
    clear r5 B5 h6
    go_wp2_with fail
    refine (rvalid_any A len c bs w6 HLEN.out hcap (HX.out.under B6) HB.out HL2.out).mono ?_
    rw [← HV.out]
    rintro e w7 ⟨rfl, h7⟩
    have r7 := r6.under h7
    have B7 := B6.trans (h7.mono B6.size)
    clear r6 B6 h7
    have ev : (v == v) = true := by cases v <;> rfl
    go_wp2_with fail
    refine (sameB_dec A1 A c1 c bs.length len bs bs w7 true rfl HLEN.out r7 (HX.out.under B7) (by have := HL2.out; omega) (by have := HL2.out; omega) (by simp)).mono ?_
    rintro e w8 ⟨rfl, h8⟩
    have B8 := B7.trans (h8.mono B7.size)
    clear r7 B7 h8
    go_wp2_with fail
    go_ret
    exact ⟨rfl, B8⟩
end Go.Proofs.YtkdmdklmkachfaaDoor
