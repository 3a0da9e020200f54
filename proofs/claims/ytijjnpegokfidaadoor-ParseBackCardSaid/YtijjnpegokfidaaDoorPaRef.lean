/- The walks of the document's May, Encode; a string of bytes. -/
import Derived.Test.YtijjnpegokfidaaDoorPaEnc
namespace Go.Proofs.YtijjnpegokfidaaDoor
open Go.RowKit
open Utf (DS)
set_option linter.unusedVariables false
set_option linter.unusedSimpArgs false
theorem rmay_any (r : Int) (w : World) : Calls Tryd.prog 16 #[.int .i32 r] w fun e w' => e = .returned (.bool (Utf.may r)) ∧ w = w' := by
  go_enter Tryd.func16, Tryd.ntmps16
  go_wp2
  all_goals (go_ret; exact ⟨ret_bool (by rw [Bool.eq_iff_iff]; simp [Utf.may]; omega), rfl⟩)

theorem new_of_lit {w w' : World} {e : TypeId} {k : IntKind} {zs ys : List Int} {n : Nat} {cs : Array Value} (h : zs = ys) (hn : n = ys.length) (hc : cs = (ys.map (Value.int k)).toArray) (hm : ys.length ≤ maxLen) (hw : w' = w.alloc (.cells cs e)) :
    NewInts e k w zs (.returned (.slice (some ⟨w.heap.size, 0, none⟩) n n)) w' := by
  subst h hn hw
  exact ⟨_, _, rfl, OwnI.lit w w.heap.size e k zs cs hc (Nat.le_refl _) hm, (Below.refl _ _).alloc (Nat.le_refl _) _⟩

theorem renc_may (r : Int) (w : World) (hm : Utf.may r = true) : Calls Tryd.prog 17 #[.int .i32 r] w (NewInts 5 .u8 w (Utf.enc r)) := by
  have hr := (Utf.may_iff r).1 hm
  have hr0 : 0 ≤ r := by omega
  have hr1 : r ≤ 1114111 := by omega
  have he : Utf.enc r = Utf.enc1 r := by unfold Utf.enc; rw [if_pos hm]
  clear hr
  rcases (show (r < 128) ∨ (128 ≤ r ∧ r < 2048) ∨ (2048 ≤ r ∧ r < 65536) ∨ (65536 ≤ r) by omega) with h | h | h | h
  · have e : Utf.enc r = [r] := by rw [he]; unfold Utf.enc1; rw [if_pos h]
    have E := Lib.hid e
    clear e he
    skip
    go_enter Tryd.func17, Tryd.ntmps17
    go_wp2_with (go_at_call 16; refine (rmay_any _ _).mono ?_; rintro e w' ⟨rfl, rfl⟩)
    go_ret
    exact new_of_lit E.out rfl rfl (by simp [maxLen]) rfl
  · have e : Utf.enc r = [192 + r / 64, 128 + r % 64] := by rw [he]; unfold Utf.enc1; rw [if_neg (by omega), if_pos (by omega)]
    have E := Lib.hid e
    clear e he
    obtain ⟨h1, h2⟩ := h
    go_enter Tryd.func17, Tryd.ntmps17
    go_wp2_with (go_at_call 16; refine (rmay_any _ _).mono ?_; rintro e w' ⟨rfl, rfl⟩)
    go_ret
    exact new_of_lit E.out rfl rfl (by simp [maxLen]) rfl
  · have e : Utf.enc r = [224 + r / 4096, 128 + r / 64 % 64, 128 + r % 64] := by rw [he]; unfold Utf.enc1; rw [if_neg (by omega), if_neg (by omega), if_pos (by omega)]
    have E := Lib.hid e
    clear e he
    obtain ⟨h1, h2⟩ := h
    go_enter Tryd.func17, Tryd.ntmps17
    go_wp2_with (go_at_call 16; refine (rmay_any _ _).mono ?_; rintro e w' ⟨rfl, rfl⟩)
    go_ret
    exact new_of_lit E.out rfl rfl (by simp [maxLen]) rfl
  · have e : Utf.enc r = [240 + r / 262144, 128 + r / 4096 % 64, 128 + r / 64 % 64, 128 + r % 64] := by rw [he]; unfold Utf.enc1; rw [if_neg (by omega), if_neg (by omega), if_neg (by omega)]
    have E := Lib.hid e
    clear e he
    skip
    go_enter Tryd.func17, Tryd.ntmps17
    go_wp2_with (go_at_call 16; refine (rmay_any _ _).mono ?_; rintro e w' ⟨rfl, rfl⟩)
    go_ret
    exact new_of_lit E.out rfl rfl (by simp [maxLen]) rfl
theorem renc_not (r : Int) (w : World) (hm : Utf.may r = false) : Calls Tryd.prog 17 #[.int .i32 r] w (NewInts 5 .u8 w (Utf.enc r)) := by
  have e : Utf.enc r = [239, 191, 189] := by unfold Utf.enc; rw [if_neg (by simp [hm])]; rfl
  have E := Lib.hid e
  clear e
  go_enter Tryd.func17, Tryd.ntmps17
  go_wp2_with (go_at_call 16; refine (rmay_any _ _).mono ?_; rintro e w' ⟨rfl, rfl⟩)
  go_ret
  exact new_of_lit E.out rfl rfl (by simp [maxLen]) rfl
theorem renc_any (r : Int) (w : World) : Calls Tryd.prog 17 #[.int .i32 r] w (NewInts 5 .u8 w (Utf.enc r)) := by
  cases hm : Utf.may r
  · exact renc_not r w hm
  · exact renc_may r w hm

theorem conv_read (A : Option Addr) (c : Nat) (bs : List Int) (w : World) (hx : ReadI w .u8 A bs) : (convert 23 9 (.slice A bs.length c)).run Tryd.prog w = .ok (.string (strOfNums bs)) w := by
  by_cases h : bs = []
  · subst h
    cases A with
    | none => exact run_convert_bytes_nil w 23 5 Tryd.underlying23 Tryd.underlying5 0 c 9 Tryd.underlying9
    | some a =>
      rw [run_convert_bytes_string w 23 9 5 _ _ c Tryd.underlying23 Tryd.underlying5 Tryd.underlying9, run_bytesToString w _ _ c [] (by simp [loadCells, loadCellsFrom])]
      rfl
  · obtain ⟨b, o, rfl, hc⟩ := hx h
    exact run_convert_bytes_arg w 23 5 Tryd.underlying23 Tryd.underlying5 b o bs.length c bs rfl hc 9 Tryd.underlying9
end Go.Proofs.YtijjnpegokfidaaDoor
