/- The document's decimal walked. -/
import Derived.Test.YtijjnpegokfidaaDoorPaLay
namespace Go.Proofs.YtijjnpegokfidaaDoor
open Go.RowKit
open Pa
set_option linter.unusedVariables false
set_option linter.unusedSimpArgs false

def decI (n : Int) : List Int := if 0 ≤ n ∧ n ≤ 9999 then dec n.toNat else []
def DecMid (m q : Nat) (zs : List Int) : Prop := zs.length ≤ 4 ∧ ((q = 0 ∧ zs = dec m) ∨ (0 < q ∧ dec q ++ zs = dec m))
theorem decMid_start (m : Nat) (h : m ≤ 9999) : DecMid m (m / 10) [48 + ((m % 10 : Nat) : Int)] := by
  refine ⟨by simp, ?_⟩
  by_cases h1 : m < 10
  · refine .inl ⟨by omega, ?_⟩
    rw [dec_lt m h1, show m % 10 = m by omega]
  · exact .inr ⟨by omega, (dec_ge m h1).symm⟩
theorem decMid_next (m q : Nat) (zs : List Int) (h : m ≤ 9999) (hq : 0 < q) (hd : DecMid m q zs) : DecMid m (q / 10) ([48 + ((q % 10 : Nat) : Int)] ++ zs) := by
  obtain ⟨_, h2⟩ := hd
  have he : dec q ++ zs = dec m := by
    rcases h2 with ⟨h3, _⟩ | ⟨_, h3⟩
    · omega
    · exact h3
  have hl := congrArg List.length he
  have hm := dec_len m h
  rw [List.length_append] at hl
  by_cases h1 : q < 10
  · rw [dec_lt q h1] at he hl
    refine ⟨by simp at hl ⊢; omega, .inl ⟨by omega, ?_⟩⟩
    rw [← he, show q % 10 = q by omega]
  · rw [dec_ge q h1] at he hl
    refine ⟨by simp at hl ⊢; omega, .inr ⟨by omega, ?_⟩⟩
    rw [← he]
    simp
set_option maxRecDepth 100000 in
set_option maxHeartbeats 1000000 in
theorem decimal_any (n : Int) (w : World) : Calls Tryd.prog 18 #[.int .i64 n] w (NewInts 5 .u8 w (decI n)) := by
  by_cases h : 0 ≤ n ∧ n ≤ 9999
  · have hd : decI n = dec n.toNat := by unfold decI; rw [if_pos h]
    rw [hd]
    clear hd
    obtain ⟨h0, h1⟩ := h
    obtain ⟨m, rfl⟩ := Int.eq_ofNat_of_zero_le h0
    rw [Int.toNat_natCast]
    have hm : m ≤ 9999 := by omega
    have hst := decMid_start m hm
    rw [show ((m % 10 : Nat) : Int) = (m : Int) % 10 by omega] at hst
    have HST := Lib.hid hst
    have t1 : decide ((m : Int) < 0) = false := decide_eq_false (by omega)
    have t2 : decide ((9999 : Int) < (m : Int)) = false := decide_eq_false (by omega)
    have hbl : Below w.heap.size w (w.alloc (.cells #[.int .u8 (48 + (m : Int) % 10)] 5)) := below_alloc (Below.refl _ _) _
    have hol : OwnI (w.alloc (.cells #[.int .u8 (48 + (m : Int) % 10)] 5)) w.heap.size 5 .u8 (.slice (some ⟨w.heap.size, 0, none⟩) 1 1) [48 + (m : Int) % 10] := OwnI.lit1 _ _ _ _ _ (Nat.le_refl _)
    have HBL := Lib.hid hbl
    have HOL := Lib.hid hol
    clear hst hbl hol
    go_enter Tryd.func18, Tryd.ntmps18
    go_wp2_with fail
    go_loopw [0, 3] (fun q v wr => ∃ (k l c : Nat) (zs : List Int) (A : Option Addr), k ≤ 999 ∧ q = .int .i64 k ∧ v = .slice A l c ∧ l = zs.length ∧ DecMid m k zs ∧ OwnI wr w.heap.size 5 .u8 (.slice A l c) zs ∧ Below w.heap.size w wr) (fun q _ _ => (intOf q).toNat)
    case atStart => exact ⟨m / 10, 1, 1, _, _, by omega, by go_num, rfl, rfl, HST.out, HOL.out, HBL.out⟩
    case round =>
      obtain ⟨k, l, c, zs, A, hk, rfl, rfl, hl, hd, ho, hbel⟩ := hrel
      have hl4 : l ≤ 4 := by rw [hl]; exact hd.1
      have HL := Lib.hid hl
      have HD := Lib.hid hd
      have HO := Lib.hid ho
      have HB := Lib.hid hbel
      clear hl hd ho hbel
      by_cases hk0 : 0 < k
      · have t3 : decide ((0 : Int) < (k : Int)) = true := decide_eq_true (by omega)
        have hnx := decMid_next m k zs hm hk0 HD.out
        rw [show ((k % 10 : Nat) : Int) = (k : Int) % 10 by omega] at hnx
        have HNX := Lib.hid hnx
        have hrd : ReadI wr .u8 A zs := by have h := HO.out; rw [HL.out] at h; exact h.read
        have hlit : OwnI (wr.alloc (.cells #[.int .u8 (48 + (k : Int) % 10)] 5)) w.heap.size 5 .u8 (.slice (some ⟨wr.heap.size, 0, none⟩) 1 1) [48 + (k : Int) % 10] := OwnI.lit1 _ _ _ _ _ HB.out.size
        have hb2 := below_alloc HB.out (.cells #[.int .u8 (48 + (k : Int) % 10)] 5)
        have HRD := Lib.hid hrd
        have HLIT := Lib.hid hlit
        have HB2 := Lib.hid hb2
        clear hnx hrd hlit hb2
        go_wp2_with (at_builtin; first
          | (refine wpList_append_to _ rfl (.tmp 25) (.tmp 26) 23 5 .u8 1 rfl Tryd.underlying23 (by kernel_rfl) (by omega) w.heap.size (.slice (some ⟨wr.heap.size, 0, none⟩) 1 1) [48 + (k : Int) % 10] rfl HLIT.out A c l zs rfl (HRD.out.alloc _) HL.out (1 + l) ([48 + (k : Int) % 10] ++ zs) rfl (by rw [HL.out]; rfl) (by omega) HB2.out.size ?_; intro A2 c2 w2 hap; have HAP := Lib.hid hap; clear hap))
        have hb3 := below_of_only HB2.out HAP.out.only HB2.out.size (fun x hx => (HLIT.out.lt x hx).1)
        have HB3 := Lib.hid hb3
        clear hb3
        go_wp2_with fail
        go_roundw
        case rel => exact ⟨k / 10, 1 + l, c2, _, A2, by omega, by go_num, rfl, by rw [HL.out, List.length_append]; rfl, HNX.out, HAP.out.own, HB3.out⟩
        case measure => simp [intOf]; omega
      · obtain rfl : k = 0 := by omega
        have hz : zs = dec m := by
          rcases HD.out.2 with ⟨_, h⟩ | ⟨h, _⟩
          · exact h
          · omega
        have HZ := Lib.hid hz
        clear hz
        go_wp2_with fail
        go_ret
        rw [← HZ.out, HL.out]
        have ho := HO.out
        rw [HL.out] at ho
        exact ⟨_, _, rfl, ho, HB.out⟩
  · have hd : decI n = [] := by unfold decI; rw [if_neg h]
    rw [hd]
    clear hd
    by_cases hn : n < 0
    · have t1 : decide (n < 0) = true := decide_eq_true hn
      clear h
      go_enter Tryd.func18, Tryd.ntmps18
      go_wp2_with fail
      go_ret
      exact ⟨none, 0, rfl, OwnI.nil _ _ _ _, Below.refl _ _⟩
    · have t1 : decide (n < 0) = false := decide_eq_false hn
      have t2 : decide (9999 < n) = true := decide_eq_true (by omega)
      clear h
      go_enter Tryd.func18, Tryd.ntmps18
      go_wp2_with fail
      go_ret
      exact ⟨none, 0, rfl, OwnI.nil _ _ _ _, Below.refl _ _⟩
end Go.Proofs.YtijjnpegokfidaaDoor
