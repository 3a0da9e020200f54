/- parse.Lay of letters walked. -/
import Derived.Test.YtijjnpegokfidaaDoorPaLay
import Derived.BigQuiet
import Derived.Deep.QuietTactic
import Derived.Deep.RegionHeld3
namespace Go.Proofs.YtijjnpegokfidaaDoor
open Go.RowKit
open Pa
set_option linter.unusedVariables false
set_option linter.unusedSimpArgs false

theorem ok1_iff (r m f : Int) (p t : List Int) : LayOk ⟨1, r, m, f, p, t⟩ ↔ (m = 0 ∧ f = 0 ∧ ((p.length : Nat) : Int) = 0 ∧ ((t.length : Nat) : Int) = 0 ∧ 32 ≤ r ∧ r ≠ 127 ∧ Utf.may r = true) := by
  unfold LayOk
  constructor
  · rintro (⟨_, h⟩ | ⟨k, _⟩ | ⟨k, _⟩ | ⟨k, _⟩ | ⟨k, _⟩)
    · exact ⟨h.mark, h.final, len0.2 h.params, len0.2 h.text, h.rune.1, h.rune.2, h.may⟩
    · simp at k
    · simp at k
    · simp at k
    · simp at k
  · rintro ⟨h1, h2, h3, h4, h5, h6, h7⟩
    exact .inl ⟨rfl, h1, h2, len0.1 h3, len0.1 h4, ⟨h5, h6⟩, h7⟩
theorem strOfNums_ints (s : ByteArray) : strOfNums (ints s) = s := by
  obtain ⟨⟨l⟩⟩ := s
  unfold strOfNums ints
  have h : List.map ((fun n : Int => UInt8.ofNat n.toNat) ∘ fun b : UInt8 => (b.toNat : Int)) l = l :=
    (List.map_congr_left (fun b _ => by simp)).trans (List.map_id l)
  simp [h]
theorem conv_enc (A : Option Addr) (c : Nat) (r : Int) (w : World) (hx : ReadI w .u8 A (Utf.enc r)) (n : Nat) : (convert 23 9 (.slice A (Utf.enc r).length c)).run Tryd.prog (w.drewN n) = .ok (.string (Utf8.encode r)) (w.drewN n) := by
  have h := conv_read A c (Utf.enc r) (w.drewN n) hx
  rw [h, ← ints_encode, strOfNums_ints]
theorem conv_rune (r : Int) (w : World) : (convert 21 9 (.int .i32 r)).run Tryd.prog w = .ok (.string (Utf8.encode r)) w :=
  run_convert_int_string w 21 9 .i32 r (by rw [Tryd.underlying21]; rfl) Tryd.underlying9
set_option maxRecDepth 100000 in
set_option maxHeartbeats 1000000 in
theorem lay_1_0 (rune mark final : Int) (params text : List Int) (P X : Option Addr) (pc xc : Nat) (w : World) (hr : -2147483648 ≤ rune ∧ rune ≤ 2147483647) (hno : ¬ LayOk ⟨1, rune, mark, final, params, text⟩) (e0 : (mark == 0) = false) :
    Calls Tryd.prog 7 #[actV ⟨1, rune, mark, final, params, text⟩ P X pc xc] w (LayEnd w ⟨1, rune, mark, final, params, text⟩) := by
  have d1 : ((1 : Int) == 1) = true := by decide
  have HNO := Lib.hid hno
  clear hno
  go_enter Tryd.func7, Tryd.ntmps7
  go_wp2_with fail
  go_quiet (fail)
  go_wp2_with (go_at_call 13; refine (encode_any _ _).mono ?_; rintro e w1 ⟨A1, c1, rfl, _, _, hb1⟩)
  go_ret2
  exact LayEnd.no HNO.out ((below_drewN (below_alloc (Below.refl _ _) _) _).trans (hb1.mono (by simp)))
set_option maxRecDepth 100000 in
set_option maxHeartbeats 1000000 in
theorem lay_1_1 (rune mark final : Int) (params text : List Int) (P X : Option Addr) (pc xc : Nat) (w : World) (hr : -2147483648 ≤ rune ∧ rune ≤ 2147483647) (hno : ¬ LayOk ⟨1, rune, mark, final, params, text⟩) (e0 : (mark == 0) = true) (e1 : (final == 0) = false) :
    Calls Tryd.prog 7 #[actV ⟨1, rune, mark, final, params, text⟩ P X pc xc] w (LayEnd w ⟨1, rune, mark, final, params, text⟩) := by
  have d1 : ((1 : Int) == 1) = true := by decide
  have HNO := Lib.hid hno
  clear hno
  go_enter Tryd.func7, Tryd.ntmps7
  go_wp2_with fail
  go_quiet (fail)
  go_wp2_with (go_at_call 13; refine (encode_any _ _).mono ?_; rintro e w1 ⟨A1, c1, rfl, _, _, hb1⟩)
  go_ret2
  exact LayEnd.no HNO.out ((below_drewN (below_alloc (Below.refl _ _) _) _).trans (hb1.mono (by simp)))
set_option maxRecDepth 100000 in
set_option maxHeartbeats 1000000 in
theorem lay_1_2 (rune mark final : Int) (params text : List Int) (P X : Option Addr) (pc xc : Nat) (w : World) (hr : -2147483648 ≤ rune ∧ rune ≤ 2147483647) (hno : ¬ LayOk ⟨1, rune, mark, final, params, text⟩) (e0 : (mark == 0) = true) (e1 : (final == 0) = true) (e2 : (((params.length : Nat) : Int) == 0) = false) :
    Calls Tryd.prog 7 #[actV ⟨1, rune, mark, final, params, text⟩ P X pc xc] w (LayEnd w ⟨1, rune, mark, final, params, text⟩) := by
  have d1 : ((1 : Int) == 1) = true := by decide
  have HNO := Lib.hid hno
  clear hno
  go_enter Tryd.func7, Tryd.ntmps7
  go_wp2_with fail
  go_quiet (fail)
  go_wp2_with (go_at_call 13; refine (encode_any _ _).mono ?_; rintro e w1 ⟨A1, c1, rfl, _, _, hb1⟩)
  go_ret2
  exact LayEnd.no HNO.out ((below_drewN (below_alloc (Below.refl _ _) _) _).trans (hb1.mono (by simp)))
set_option maxRecDepth 100000 in
set_option maxHeartbeats 1000000 in
theorem lay_1_3 (rune mark final : Int) (params text : List Int) (P X : Option Addr) (pc xc : Nat) (w : World) (hr : -2147483648 ≤ rune ∧ rune ≤ 2147483647) (hno : ¬ LayOk ⟨1, rune, mark, final, params, text⟩) (e0 : (mark == 0) = true) (e1 : (final == 0) = true) (e2 : (((params.length : Nat) : Int) == 0) = true) (e3 : (((text.length : Nat) : Int) == 0) = false) :
    Calls Tryd.prog 7 #[actV ⟨1, rune, mark, final, params, text⟩ P X pc xc] w (LayEnd w ⟨1, rune, mark, final, params, text⟩) := by
  have d1 : ((1 : Int) == 1) = true := by decide
  have HNO := Lib.hid hno
  clear hno
  go_enter Tryd.func7, Tryd.ntmps7
  go_wp2_with fail
  go_quiet (fail)
  go_wp2_with (go_at_call 13; refine (encode_any _ _).mono ?_; rintro e w1 ⟨A1, c1, rfl, _, _, hb1⟩)
  go_ret2
  exact LayEnd.no HNO.out ((below_drewN (below_alloc (Below.refl _ _) _) _).trans (hb1.mono (by simp)))
set_option maxRecDepth 100000 in
set_option maxHeartbeats 1000000 in
theorem lay_1_4 (rune mark final : Int) (params text : List Int) (P X : Option Addr) (pc xc : Nat) (w : World) (hr : -2147483648 ≤ rune ∧ rune ≤ 2147483647) (hno : ¬ LayOk ⟨1, rune, mark, final, params, text⟩) (e0 : (mark == 0) = true) (e1 : (final == 0) = true) (e2 : (((params.length : Nat) : Int) == 0) = true) (e3 : (((text.length : Nat) : Int) == 0) = true) (e4 : decide (32 ≤ rune) = false) :
    Calls Tryd.prog 7 #[actV ⟨1, rune, mark, final, params, text⟩ P X pc xc] w (LayEnd w ⟨1, rune, mark, final, params, text⟩) := by
  have d1 : ((1 : Int) == 1) = true := by decide
  have HNO := Lib.hid hno
  clear hno
  go_enter Tryd.func7, Tryd.ntmps7
  go_wp2_with fail
  go_quiet (fail)
  go_wp2_with (go_at_call 13; refine (encode_any _ _).mono ?_; rintro e w1 ⟨A1, c1, rfl, _, _, hb1⟩)
  go_ret2
  exact LayEnd.no HNO.out ((below_drewN (below_alloc (Below.refl _ _) _) _).trans (hb1.mono (by simp)))
set_option maxRecDepth 100000 in
set_option maxHeartbeats 1000000 in
theorem lay_1_5 (rune mark final : Int) (params text : List Int) (P X : Option Addr) (pc xc : Nat) (w : World) (hr : -2147483648 ≤ rune ∧ rune ≤ 2147483647) (hno : ¬ LayOk ⟨1, rune, mark, final, params, text⟩) (e0 : (mark == 0) = true) (e1 : (final == 0) = true) (e2 : (((params.length : Nat) : Int) == 0) = true) (e3 : (((text.length : Nat) : Int) == 0) = true) (e4 : decide (32 ≤ rune) = true) (e5 : (rune != 127) = false) :
    Calls Tryd.prog 7 #[actV ⟨1, rune, mark, final, params, text⟩ P X pc xc] w (LayEnd w ⟨1, rune, mark, final, params, text⟩) := by
  have d1 : ((1 : Int) == 1) = true := by decide
  have HNO := Lib.hid hno
  clear hno
  go_enter Tryd.func7, Tryd.ntmps7
  go_wp2_with fail
  go_quiet (fail)
  go_wp2_with (go_at_call 13; refine (encode_any _ _).mono ?_; rintro e w1 ⟨A1, c1, rfl, _, _, hb1⟩)
  go_ret2
  exact LayEnd.no HNO.out ((below_drewN (below_alloc (Below.refl _ _) _) _).trans (hb1.mono (by simp)))
end Go.Proofs.YtijjnpegokfidaaDoor
