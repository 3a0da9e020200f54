/- The walk of utf.Valid. -/
import Derived.Test.YtkdmdklmkachfaaDoorUtfValid0
namespace Go.Proofs.YtkdmdklmkachfaaDoor
open Go.RowKit
open Utf (DS)
set_option linter.unusedVariables false
set_option linter.unusedSimpArgs false

set_option maxHeartbeats 1000000 in
theorem valid_any (A : Option Addr) (n c : Nat) (bs : List Int) (w : World) (hn : n = bs.length) (hx : ReadI w .u8 A bs) (hb : ∀ b ∈ bs, Utf.Byte b) (hl : bs.length ≤ 1048576) :
    Calls Tryd.prog 21 #[.slice A n c] w fun e w' => e = .returned (.bool (Utf.vB bs)) ∧ Below w.heap.size w w' := by
  subst hn
  have HX := Lib.hid hx
  have HB := Lib.hid hb
  clear hx hb
  have HC := Lib.hid (conv_read A c bs w HX.out)
  obtain ⟨s, hs⟩ : ∃ s, s = strOfNums bs := ⟨_, rfl⟩
  have HS := Lib.hid hs
  rw [← hs] at HC
  clear hs
  go_enter Tryd.func21, Tryd.ntmps21
  go_wp2_with (refine wpList_convert_run _ _ rfl 22 9 (.tmp 6) rfl _ _ rfl HC.out ?_)
  go_loopw [3] (fun v wr => ∃ p : Nat, p ≤ bs.length ∧ v = .int .i64 p ∧ wr = w.iter s p ∧ Utf.vB bs = Utf.vB (bs.drop p)) (fun v _ => bs.length - (intOf v).toNat)
  case atStart => exact ⟨0, Nat.zero_le _, rfl, rfl, rfl⟩
  case round =>
    obtain ⟨p, hp, rfl, rfl, hv⟩ := hrel
    have HV := Lib.hid hv
    clear hv
    have hsz : s.size = bs.length := by rw [HS.out, strOfNums_size]
    have hbel : Below w.heap.size w (w.iter s p) := (Below.refl _ _).alloc (Nat.le_refl _) _
    rcases (show p = bs.length ∨ p < bs.length by omega) with h | h
    · subst h
      have hrun : ∀ ty, (Instr.next (.pointer (some ⟨w.heap.size, 0, none⟩)) true ty).run Tryd.prog (w.iter s bs.length) = .ok (.tuple #[.bool false]) (w.iter s bs.length) := fun ty => run_next_end w s bs.length ty (by omega)
      have HRUN := Lib.hid hrun
      clear hrun
      have hfin : Utf.vB bs = true := by rw [HV.out, List.drop_length]; rfl
      have HF := Lib.hid hfin
      have d1 : ((bs.length : Int) == (bs.length : Int)) = true := beq_iff_eq.2 rfl
      clear hfin
      go_wp2_with (refine wpList_next_run _ _ rfl (.tmp 8) rfl _ _ rfl (HRUN.out _) ?_)
      go_ret
      exact ⟨ret_bool HF.out.symm, hbel⟩
    · have hdec := Utf.decode_str bs HB.out p h
      rw [← HS.out] at hdec
      have hbd : ∀ x ∈ bs.drop p, Utf.Byte x := fun x hx => HB.out x (List.mem_of_mem_drop hx)
      have hne : bs.drop p ≠ [] := by intro e; have := congrArg List.length e; simp at this; omega
      by_cases h0 : Utf.step (bs.drop p) = 0
      · rw [if_pos h0, if_pos h0] at hdec
        have hrun : ∀ ty, (Instr.next (.pointer (some ⟨w.heap.size, 0, none⟩)) true ty).run Tryd.prog (w.iter s p) = .ok (.tuple #[.bool true, .int .i64 p, .int .i32 65533]) (w.iter s (p + 1)) := fun ty => by
          rw [run_next_any w s p ty (by omega), hdec.1, hdec.2]
        have HRUN := Lib.hid hrun
        have hfin : Utf.vB bs = false := by rw [HV.out]; exact Utf.vB_stop _ hne h0
        have HF := Lib.hid hfin
        have hbel2 : Below w.heap.size w (w.iter s (p + 1)) := (Below.refl _ _).alloc (Nat.le_refl _) _
        have hz : (Utf8.encode 65533).size = 3 := by decide
        obtain ⟨b0, o0, rfl, hc⟩ := (HX.out.under hbel2) (by rintro rfl; simp at h)
        have i0 : (p : Int) < (bs.length : Int) := by omega
        by_cases h3 : bs.length < p + 3
        · have d1 : decide ((bs.length : Int) - (p : Int) < 3) = true := decide_eq_true (by omega)
          clear hrun hfin hdec hc hbd hne h0
          go_wp2_with (refine wpList_next_run _ _ rfl (.tmp 8) rfl _ _ rfl (HRUN.out _) ?_)
          go_ret
          exact ⟨ret_bool HF.out.symm, hbel2⟩
        · have d1 : decide ((bs.length : Int) - (p : Int) < 3) = false := decide_eq_false (by omega)
          have c0 := hc p h
          have c1 := hc (p + 1) (by omega)
          have c2 := hc (p + 2) (by omega)
          have hnot : ¬ (bs.getD p 0 = 239 ∧ bs.getD (p + 1) 0 = 191 ∧ bs.getD (p + 2) 0 = 189) := fun ⟨e0, e1, e2⟩ =>
            Utf.step_broken (bs.drop p) hbd (by simp; omega) (by rw [Utf.drop_getD]; exact e0) (by rw [Utf.drop_getD]; exact e1) (by rw [Utf.drop_getD]; exact e2) h0
          obtain ⟨x0, hx0⟩ : ∃ x, x = bs.getD p 0 := ⟨_, rfl⟩
          obtain ⟨x1, hx1⟩ : ∃ x, x = bs.getD (p + 1) 0 := ⟨_, rfl⟩
          obtain ⟨x2, hx2⟩ : ∃ x, x = bs.getD (p + 2) 0 := ⟨_, rfl⟩
          rw [← hx0] at c0 hnot
          rw [← hx1] at c1 hnot
          rw [← hx2] at c2 hnot
          have i1 : (p : Int) + 1 < (bs.length : Int) := by omega
          have i2 : (p : Int) + 2 < (bs.length : Int) := by omega
          have t1 : ((p : Int) + 1).toNat = p + 1 := by omega
          have t2 : ((p : Int) + 2).toNat = p + 2 := by omega
          clear hrun hfin hdec hc hbd hne h0 hx0 hx1 hx2
          rcases (show x0 ≠ 239 ∨ (x0 = 239 ∧ x1 ≠ 191) ∨ (x0 = 239 ∧ x1 = 191 ∧ x2 ≠ 189) by omega) with h' | ⟨rfl, h'⟩ | ⟨rfl, rfl, h'⟩
          · have e0 : (x0 != 239) = true := by simp [h']
            clear hnot h'
            go_wp2_with (refine wpList_next_run _ _ rfl (.tmp 8) rfl _ _ rfl (HRUN.out _) ?_)
            go_ret
            exact ⟨ret_bool HF.out.symm, hbel2⟩
          · have e0 : (x1 != 191) = true := by simp [h']
            clear hnot h'
            go_wp2_with (refine wpList_next_run _ _ rfl (.tmp 8) rfl _ _ rfl (HRUN.out _) ?_)
            go_ret
            exact ⟨ret_bool HF.out.symm, hbel2⟩
          · have e0 : (x2 != 189) = true := by simp [h']
            clear hnot h'
            go_wp2_with (refine wpList_next_run _ _ rfl (.tmp 8) rfl _ _ rfl (HRUN.out _) ?_)
            go_ret
            exact ⟨ret_bool HF.out.symm, hbel2⟩
      · rw [if_neg h0, if_neg h0] at hdec
        obtain ⟨k, hk⟩ : ∃ k, k = Utf.step (bs.drop p) := ⟨_, rfl⟩
        have hle := Utf.wk_le (bs.drop p) 4
        have hle2 : k ≤ 4 ∧ k ≤ (bs.drop p).length := by rw [hk]; exact hle
        rw [List.length_drop] at hle2
        have hnt := Utf.num_take (bs.drop p) hbd h0
        have hbr := Utf.broken_step (bs.drop p) hbd h0
        have hgo := Utf.vB_go (bs.drop p) h0
        rw [← hk] at hdec hnt hbr hgo
        rw [List.drop_drop] at hgo
        have hk0 : k ≠ 0 := by rw [hk]; exact h0
        obtain ⟨r, hr⟩ : ∃ r, r = Utf.num ((bs.drop p).take k) := ⟨_, rfl⟩
        rw [← hr] at hdec hnt hbr
        have hrun : ∀ ty, (Instr.next (.pointer (some ⟨w.heap.size, 0, none⟩)) true ty).run Tryd.prog (w.iter s p) = .ok (.tuple #[.bool true, .int .i64 p, .int .i32 r]) (w.iter s (p + k)) := fun ty => by
          rw [run_next_any w s p ty (by omega), hdec.1, hdec.2]
        have HRUN := Lib.hid hrun
        have hz : (Utf8.encode r).size = k := by rw [← ints_len, ints_encode]; exact hnt.2.2
        have hnew : Utf.vB bs = Utf.vB (bs.drop (p + k)) := by rw [HV.out]; exact hgo
        have HNEW := Lib.hid hnew
        have hbel2 : Below w.heap.size w (w.iter s (p + k)) := (Below.refl _ _).alloc (Nat.le_refl _) _
        obtain ⟨b0, o0, rfl, hc⟩ := (HX.out.under hbel2) (by rintro rfl; simp at h)
        have hw : IntKind.i64.wrap ((p : Int) + (k : Int)) = (p : Int) + (k : Int) := IntWalk.i64_in _ (by omega)
        by_cases h65 : r = 65533
        · obtain ⟨g1, g2, g3, g4, g5⟩ := hbr h65
          rw [Utf.drop_getD] at g2 g3 g4
          rw [List.length_drop] at g1
          have c0 := hc p h
          have c1 := hc (p + 1) (by omega)
          have c2 := hc (p + 2) (by omega)
          rw [Nat.add_zero] at g2
          rw [g2] at c0
          rw [g3] at c1
          rw [g4] at c2
          have e0 : (r == 65533) = true := beq_iff_eq.2 h65
          have d1 : decide ((bs.length : Int) - (p : Int) < 3) = false := decide_eq_false (by omega)
          have i0 : (p : Int) < (bs.length : Int) := by omega
          have i1 : (p : Int) + 1 < (bs.length : Int) := by omega
          have i2 : (p : Int) + 2 < (bs.length : Int) := by omega
          have t1 : ((p : Int) + 1).toNat = p + 1 := by omega
          have t2 : ((p : Int) + 2).toNat = p + 2 := by omega
          clear hrun hdec hc hbd hne h0 hk hnt hbr hgo hr hnew g2 g3 g4 h65 hle
          subst g5
          go_wp2_with (refine wpList_next_run _ _ rfl (.tmp 8) rfl _ _ rfl (HRUN.out _) ?_)
          go_roundw
          case rel => exact ⟨p + 3, by omega, by go_num, rfl, HNEW.out⟩
          case measure => simp [intOf]; omega
        · have e0 : (r == 65533) = false := beq_eq_false_iff_ne.2 h65
          clear hrun hdec hc hbd hne h0 hk hnt hbr hgo hr hnew h65 hle
          go_wp2_with (refine wpList_next_run _ _ rfl (.tmp 8) rfl _ _ rfl (HRUN.out _) ?_)
          go_roundw
          case rel => exact ⟨p + k, by omega, by go_num, rfl, HNEW.out⟩
          case measure => simp [intOf]; omega
end Go.Proofs.YtkdmdklmkachfaaDoor
