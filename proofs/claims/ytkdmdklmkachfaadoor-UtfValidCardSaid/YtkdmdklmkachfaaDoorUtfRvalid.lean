/- The walk of the document's Valid. -/
import Derived.Test.YtkdmdklmkachfaaDoorUtfValid1
namespace Go.Proofs.YtkdmdklmkachfaaDoor
open Go.RowKit
open Utf (DS)
set_option linter.unusedVariables false
set_option linter.unusedSimpArgs false

namespace Utf
theorem wk_yes (l : List Int) (k : Nat) (h : k + 1 ≤ l.length) (hw : wholeB (l.take (k + 1)) = true) : wk l (k + 1) = k + 1 := by
  conv => lhs; unfold wk
  rw [if_pos ⟨h, hw⟩]
theorem wk_no (l : List Int) (k : Nat) (hw : wholeB (l.take (k + 1)) = false) : wk l (k + 1) = wk l k := by
  conv => lhs; unfold wk
  rw [if_neg (by rw [hw]; simp)]
theorem wk_past (l : List Int) (k : Nat) (h : l.length ≤ k) : ∀ m, wk l (k + m) = wk l k
  | 0 => rfl
  | m + 1 => by
    rw [← Nat.add_assoc]
    conv => lhs; unfold wk
    rw [if_neg (by omega)]
    exact wk_past l k h m
end Utf

set_option maxHeartbeats 1000000 in
theorem rvalid_any (A : Option Addr) (n c : Nat) (bs : List Int) (w : World) (hn : n = bs.length) (hcap : n ≤ c) (hx : ReadI w .u8 A bs) (hb : ∀ b ∈ bs, Utf.Byte b) (hl : bs.length ≤ 1048576) :
    Calls Tryd.prog 22 #[.slice A n c] w fun e w' => e = .returned (.bool (Utf.vB bs)) ∧ Below w.heap.size w w' := by
  subst hn
  have HX := Lib.hid hx
  have HB := Lib.hid hb
  clear hx hb
  go_enter Tryd.func22, Tryd.ntmps22
  go_wp2_with fail
  go_loopw [3] (fun v wr => ∃ p : Nat, p ≤ bs.length ∧ v = .int .i64 p ∧ Utf.vB bs = Utf.vB (bs.drop p) ∧ Below w.heap.size w wr) (fun v _ => bs.length - (intOf v).toNat)
  case atStart => exact ⟨0, Nat.zero_le _, rfl, rfl, Below.refl _ _⟩
  case round =>
    obtain ⟨p, hp, rfl, hv, hb1⟩ := hrel
    have HV := Lib.hid hv
    clear hv
    rcases (show p = bs.length ∨ p < bs.length by omega) with h | h
    · subst h
      have hfin : Utf.vB bs = true := by rw [HV.out, List.drop_length]; rfl
      have HF := Lib.hid hfin
      clear hfin
      go_wp2_with fail
      go_ret
      exact ⟨ret_bool HF.out.symm, hb1⟩
    · have hne : bs.drop p ≠ [] := by intro e; have := congrArg List.length e; simp at this; omega
      obtain ⟨b0, o0, rfl, hc⟩ := HX.out (by rintro rfl; simp at h)
      have hdl : (bs.drop p).length = bs.length - p := List.length_drop ..
      obtain ⟨l, hlx⟩ : ∃ l, l = bs.drop p := ⟨_, rfl⟩
      have hbl : ∀ x ∈ l, Utf.Byte x := fun x hx => HB.out x (List.mem_of_mem_drop (hlx ▸ hx))
      have hxl : ReadI w .u8 (some ⟨b0, o0 + p, none⟩) l := by rw [hlx]; exact HX.out.drop p h
      have HBL := Lib.hid hbl
      have HXL := Lib.hid hxl
      have hgo := Utf.vB_go l
      have hst := Utf.vB_stop l (hlx ▸ hne)
      have hl4 := Utf.wk_le l 4
      have hs : Utf.step l = Utf.wk l 4 := rfl
      rw [hs] at hgo hst
      have hv2 : Utf.vB bs = Utf.vB l := by rw [HV.out, hlx]
      have hdd : l.drop (Utf.wk l 4) = bs.drop (p + Utf.wk l 4) := by rw [hlx, List.drop_drop]
      rw [hdd, ← hv2] at hgo
      rw [← hv2] at hst
      have HGO := Lib.hid hgo
      have HST := Lib.hid hst
      rw [← hlx] at hdl
      have i0 : (p : Int) < (bs.length : Int) := by omega
      clear hc hbl hxl hgo hst hs hv2 hdd hne hlx HB HX HV
      obtain ⟨wo, rfl⟩ : ∃ wo : World, wo = wr := ⟨_, rfl⟩
      go_wp2_with fail
      go_loopw [4, 5] (fun f v wr => ∃ k : Nat, k ≤ 4 ∧ k ≤ l.length ∧ f = .int .i64 (Utf.wk l k) ∧ v = .int .i64 (k + 1 : Nat) ∧ Below w.heap.size w wr) (fun _ v _ => 5 - (intOf v).toNat)
      case atStart => exact ⟨0, by omega, by omega, rfl, rfl, hb1⟩
      case round =>
        obtain ⟨k, hk4, hkl, rfl, rfl, hb2⟩ := hrel
        clear hb1
        by_cases hend : k < 4 ∧ k < l.length
        · obtain ⟨h4, h5⟩ := hend
          have hr := (HXL.out.take (k + 1)).under hb2
          have hlen : k + 1 = (l.take (k + 1)).length := by simp; omega
          have hbt : ∀ x ∈ l.take (k + 1), Utf.Byte x := fun x hx => HBL.out x (List.mem_of_mem_take hx)
          have hyes := Utf.wk_yes l k h5
          have hno := Utf.wk_no l k
          have d1 : decide ((k : Int) + 1 ≤ 4) = true := decide_eq_true (by omega)
          have d2 : decide ((k : Int) + 1 ≤ (bs.length : Int) - (p : Int)) = true := decide_eq_true (by omega)
          have HR := Lib.hid hr
          have HLEN := Lib.hid hlen
          have HBT := Lib.hid hbt
          have HYES := Lib.hid hyes
          have HNO := Lib.hid hno
          clear hr hlen hbt hyes hno
          go_wp2_with fail
          refine (whole_len _ (k + 1) _ (l.take (k + 1)) wr HLEN.out HR.out HBT.out (by have := HLEN.out; omega)).mono ?_
          rintro e w2 ⟨rfl, hb3⟩
          have hb4 := hb2.trans (hb3.mono hb2.size)
          cases hw : Utf.wholeB (l.take (k + 1))
          · have hq := HNO.out hw
            have HQ := Lib.hid hq
            clear hq hb2 hb3
            go_wp2_with fail
            go_roundw
            case rel => exact ⟨k + 1, by omega, by omega, by rw [HQ.out], by go_num, hb4⟩
            case measure => simp [intOf]; omega
          · have hq := HYES.out hw
            have HQ := Lib.hid hq
            clear hq hb2 hb3
            go_wp2_with fail
            go_roundw
            case rel => exact ⟨k + 1, by omega, by omega, by rw [HQ.out]; go_num, by go_num, hb4⟩
            case measure => simp [intOf]; omega
        · have hq : Utf.wk l k = Utf.wk l 4 := by
            rcases (show k = 4 ∨ l.length ≤ k by omega) with h' | h'
            · rw [h']
            · have := Utf.wk_past l k h' (4 - k)
              rw [show k + (4 - k) = 4 by omega] at this
              exact this.symm
          have hd : decide ((k : Int) + 1 ≤ 4) = false ∨ (decide ((k : Int) + 1 ≤ 4) = true ∧ decide ((k : Int) + 1 ≤ (bs.length : Int) - (p : Int)) = false) := by
            rcases (show k = 4 ∨ (k < 4 ∧ l.length ≤ k) by omega) with h' | ⟨h', h''⟩
            · exact .inl (decide_eq_false (by omega))
            · exact .inr ⟨decide_eq_true (by omega), decide_eq_false (by omega)⟩
          rw [hq]
          obtain ⟨f, hf⟩ : ∃ f, f = Utf.wk l 4 := ⟨_, rfl⟩
          rw [← hf] at hl4 HGO HST ⊢
          clear hq hend hf hkl hk4
          have hdl2 := hdl
          clear hdl
          rcases hd with d1 | ⟨d1, d2⟩
          · by_cases h0 : f = 0
            · subst h0
              have hfin := HST.out rfl
              have HF := Lib.hid hfin
              clear hfin
              go_wp2_with fail
              go_ret
              exact ⟨ret_bool HF.out.symm, hb2⟩
            · have e0 : ((f : Int) == 0) = false := beq_eq_false_iff_ne.2 (by omega)
              have hfin := HGO.out h0
              have HF := Lib.hid hfin
              clear hfin
              go_wp2_with fail
              go_roundw
              case rel => exact ⟨p + f, by omega, by go_num, HF.out, hb2⟩
              case measure => simp [intOf]; omega
          · by_cases h0 : f = 0
            · subst h0
              have hfin := HST.out rfl
              have HF := Lib.hid hfin
              clear hfin
              go_wp2_with fail
              go_ret
              exact ⟨ret_bool HF.out.symm, hb2⟩
            · have e0 : ((f : Int) == 0) = false := beq_eq_false_iff_ne.2 (by omega)
              have hfin := HGO.out h0
              have HF := Lib.hid hfin
              clear hfin
              go_wp2_with fail
              go_roundw
              case rel => exact ⟨p + f, by omega, by go_num, HF.out, hb2⟩
              case measure => simp [intOf]; omega
end Go.Proofs.YtkdmdklmkachfaaDoor
