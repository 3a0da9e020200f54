/- The walk of the law UtfValid. -/
import Derived.Test.YtkdmdklmkachfaaDoorUtfLawD
namespace Go.Proofs.YtkdmdklmkachfaaDoor
open Go.RowKit
open Utf (DS)
set_option linter.unusedVariables false
set_option linter.unusedSimpArgs false

/-- The bytes so far; the runes lie apart. -/
def VRel (rs : List Int) (R : Value) (w : World) (u i : Value) (wr : World) : Prop :=
  ∃ (k : Nat) (A : Option Addr) (c : Nat), k ≤ rs.length ∧ i = .int .i64 k ∧ u = .slice A ((rs.take k).flatMap Utf.enc).length c ∧
    OwnI wr w.heap.size 5 .u8 (.slice A ((rs.take k).flatMap Utf.enc).length c) ((rs.take k).flatMap Utf.enc) ∧
    OwnI wr w.heap.size 21 .i32 R rs ∧ Apart (.slice A ((rs.take k).flatMap Utf.enc).length c) R ∧ Below w.heap.size w wr

set_option maxHeartbeats 1000000 in
theorem validLaw_any (w : World) (T : Tab w) (A : Option Addr) (len c : Nat) (bs : List Int) (hlen : len = bs.length) (hl : len ≤ 9223372036854775807) (hx : ReadI w .u8 A bs) (hb : ∀ b ∈ bs, Utf.Byte b) :
    Calls Tryd.prog 8 #[.slice A len c] w fun e w' => e = .returned (.bool true) ∧ Below w.heap.size w w' := by
  have HX := Lib.hid hx
  have HB := Lib.hid hb
  have HT := Lib.hid T
  have HLEN := Lib.hid hlen
  clear hx hb T
  rcases Nat.lt_or_ge 400 len with h | h
  · have t1 : decide (400 < (len : Int)) = true := decide_eq_true (by omega)
    clear hlen
    go_enter Tryd.func8, Tryd.ntmps8
    go_wp2_with fail
    refine (fixed_any w HT.out).mono ?_
    rintro e w1 ⟨rfl, b1⟩
    go_wp2_with fail
    go_ret
    exact ⟨rfl, b1⟩
  · have t1 : decide (400 < (len : Int)) = false := decide_eq_false (by omega)
    have hl2 : bs.length ≤ 400 := by omega
    have HL2 := Lib.hid hl2
    have hrn : (Utf.runes bs).length ≤ 1000 := by
      have h1 := Utf.told_len Utf.start bs
      have h2 := Utf.end_len (Utf.after Utf.start bs)
      show (Utf.told Utf.start bs ++ Utf.endT (Utf.after Utf.start bs)).length ≤ _
      rw [List.length_append]
      omega
    have hvd := Utf.vB_iff bs
    obtain ⟨rs, hrs⟩ : ∃ rs, rs = Utf.runes bs := ⟨_, rfl⟩
    rw [← hrs] at hrn hvd
    have HRS := Lib.hid hrs.symm
    have HVD := Lib.hid hvd
    clear hlen hl2 hvd hrs
    go_enter Tryd.func8, Tryd.ntmps8
    go_wp2_with fail
    refine (runes_lit A len c bs rs w HLEN.out HX.out HB.out (by have := HL2.out; omega) HRS.out).mono ?_
    rintro e w1 ⟨A1, c1, rfl, o1, b1⟩
    go_wp2_with fail
    go_loopw [3, 13] (fun u i wr => VRel rs (.slice A1 rs.length c1) w u i wr) (fun _ i _ => rs.length - (intOf i).toNat)
    case atStart => exact ⟨0, none, 0, Nat.zero_le _, rfl, rfl, OwnI.nil _ _ _ _, o1, (fun g h => by cases h), b1⟩
    case round =>
      obtain ⟨k, A2, c2, hk, rfl, rfl, o2, oR, hap, hbel⟩ := hrel
      clear o1 b1
      have hl1 := encs_len (rs.take k)
      rw [List.length_take] at hl1
      by_cases hlt : k < rs.length
      · obtain ⟨b0, o0, hA, hc⟩ := oR.read (by rintro rfl; simp at hlt)
        have hck := hc k hlt
        have hs := take_succ_getD rs k hlt
        have i1 : (k : Int) < (rs.length : Int) := by omega
        obtain ⟨r, hr⟩ : ∃ r, r = rs.getD k 0 := ⟨_, rfl⟩
        rw [← hr] at hck hs
        have hs1 : (rs.take (k + 1)).flatMap Utf.enc = (rs.take k).flatMap Utf.enc ++ Utf.enc r := by rw [hs]; simp
        obtain ⟨xs, hxs⟩ : ∃ xs, xs = (rs.take k).flatMap Utf.enc := ⟨_, rfl⟩
        rw [← hxs] at o2 hap hs1 hl1 ⊢
        have HS1 := Lib.hid hs1
        have hel := Utf.enc_le r
        subst hA
        clear hc hr hs hs1 hxs
        go_wp2_with fail
        refine (encode_any r wr).mono ?_
        rintro e w3 ⟨A3, c3, rfl, r3, g3, b3⟩
        have p2 := o2.under b3
        have pR := oR.under b3
        have e3 := hbel.trans (b3.mono hbel.size)
        clear o2 oR hbel b3 hck
        go_wp2_with (at_builtin; first
          | (refine wpList_append_to _ rfl (.tmp 17) (.tmp 19) 22 5 .u8 1 rfl Tryd.underlying22 (by kernel_rfl) (by omega) w.heap.size (.slice A2 xs.length c2) xs rfl p2 A3 c3 _ (Utf.enc r) rfl r3 rfl (xs.length + (Utf.enc r).length) (xs ++ Utf.enc r) rfl rfl (by omega) e3.size ?_; intro A6 c6 w6 hap6))
        have mR := pR.only hap6.only hap.r
        have e6 := below_of_only e3 hap6.only e3.size (fun x hx => (p2.lt x hx).1)
        have ap6 := hap.step hap6 (fun g hg => (pR.lt g hg).2)
        have h1 : ((rs.take (k + 1)).flatMap Utf.enc).length = xs.length + (Utf.enc r).length := by rw [HS1.out, List.length_append]
        have hfin : VRel rs (.slice (some ⟨b0, o0, none⟩) rs.length c1) w (.slice A6 (xs.length + (Utf.enc r).length) c6) (.int .i64 (k + 1 : Nat)) w6 :=
          ⟨k + 1, A6, c6, by omega, rfl, by rw [h1], by rw [h1, HS1.out]; exact hap6.own, mR, by rw [h1]; exact ap6, e6⟩
        have HFIN := Lib.hid hfin
        clear hfin h1 hap6 mR e6 ap6 p2 pR r3 e3 hap
        go_roundw
        case rel => exact HFIN.out
        case measure => simp [intOf]; omega
      · obtain rfl : k = rs.length := by omega
        rw [List.take_length] at *
        obtain ⟨xs, hxs⟩ : ∃ xs, xs = rs.flatMap Utf.enc := ⟨_, rfl⟩
        have hvd := HVD.out
        rw [← hxs] at o2 hl1 hvd ⊢
        obtain ⟨v, hv⟩ : ∃ v, v = Utf.vB bs := ⟨_, rfl⟩
        rw [← hv] at hvd
        have HV := Lib.hid hv
        have HD := Lib.hid hvd.symm
        have ev : (v == v) = true := by cases v <;> rfl
        clear hap hxs hv hvd oR HVD
        go_wp2_with fail
        refine (fixed_any wr (HT.out.below hbel)).mono ?_
        rintro e w3 ⟨rfl, b3⟩
        have r2 := o2.read.under b3
        have e3 := hbel.trans (b3.mono hbel.size)
        clear o2 hbel b3
        go_wp2_with fail
        refine (valid_any A len c bs w3 HLEN.out (HX.out.under e3) HB.out (by have := HL2.out; omega)).mono ?_
        rw [← HV.out]
        rintro e w4 ⟨rfl, b4⟩
        have r4 := r2.under b4
        have e4 := e3.trans (b4.mono e3.size)
        clear r2 e3 b4
        go_wp2_with fail
        refine (sameB_dec A2 A c2 c xs.length len xs bs w4 v rfl HLEN.out r4 (HX.out.under e4) (by omega) (by have := HL2.out; omega) HD.out).mono ?_
        rintro e w5 ⟨rfl, b5⟩
        have e5 := e4.trans (b5.mono e4.size)
        clear r4 e4 b5
        go_wp2_with fail
        go_ret
        exact ⟨rfl, e5⟩
end Go.Proofs.YtkdmdklmkachfaaDoor
