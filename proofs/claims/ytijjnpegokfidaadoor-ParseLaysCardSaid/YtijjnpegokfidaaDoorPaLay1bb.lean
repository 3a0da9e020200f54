/- parse.Lay of letters walked, one way. -/
import Derived.Test.YtijjnpegokfidaaDoorPaLay1x
namespace Go.Proofs.YtijjnpegokfidaaDoor
open Go.RowKit
open Pa
set_option linter.unusedVariables false
set_option linter.unusedSimpArgs false

set_option maxRecDepth 100000 in
set_option maxHeartbeats 8000000 in
theorem lay_1_b (rune mark final : Int) (params text : List Int) (P X : Option Addr) (pc xc : Nat) (w : World) (hr : -2147483648 ≤ rune ∧ rune ≤ 2147483647) (hyes : LayOk ⟨1, rune, mark, final, params, text⟩) (e0 : (mark == 0) = true) (e1 : (final == 0) = true) (e2 : (((params.length : Nat) : Int) == 0) = true) (e3 : (((text.length : Nat) : Int) == 0) = true) (e4 : decide (32 ≤ rune) = true) (e5 : (rune != 127) = true) (e6 : (rune == 65533) = false) (e7 : (!(Utf8.encode rune).toList == [239, 191, 189]) = true) (e8 : ((Utf8.encode rune).toList == [239, 191, 189]) = false) :
    Calls Tryd.prog 7 #[actV ⟨1, rune, mark, final, params, text⟩ P X pc xc] w (LayEnd w ⟨1, rune, mark, final, params, text⟩) := by
  have d1 : ((1 : Int) == 1) = true := by decide
  have HOK := Lib.hid hyes
  have cr := fun w => conv_rune rune w
  have ce := fun A c w hx n => conv_enc A c rune w hx n
  generalize Utf8.encode rune = E at cr ce e7 e8
  have q1 : (E.toList == E.toList) = true := by simp
  have CE := Lib.hid ce
  clear hyes ce
  go_enter Tryd.func7, Tryd.ntmps7
  go_wp2_with fail
  first
  | go_region_law ((first | (go_simp; go_at_call 13; refine (encode_any _ _).mono ?_; rintro e w1 ⟨A1, c1, rfl, r1, _, hb1⟩; have CV := fun n => CE.out A1 c1 w1 r1 n; have CV0 := CE.out A1 c1 w1 r1 0; change Sem.run Tryd.prog _ w1 = Result.ok _ w1 at CV0; obtain ⟨k1, k2, k3, k4, k5⟩ := hold5 (n := w.heap.size) (a := .int .i32 rune) (b := .int .u8 mark) (c := .int .u8 final) (d := .slice P params.length pc) (e := .slice X text.length xc) hb1 (by simp) (by simp [go_sem]))))
  | fail
  all_goals
    have HB1 := Lib.hid ((below_drew (below_alloc (Below.refl w.heap.size w) _)).trans (hb1.mono (by simp)))
    clear hb1 CV CV0 k2 k3 k4 k5 r1
    go_wp2_with (go_at_call 13; refine (encode_any _ _).mono ?_; rintro e w2 ⟨A2, c2, rfl, r2, _, hb2⟩; have R2 := Lib.hid r2; have HB2 := Lib.hid hb2; clear r2 hb2)
    go_ret2
    exact LayEnd.yes HOK.out rfl R2.out (HB1.out.trans (HB2.out.mono HB1.out.size))
end Go.Proofs.YtijjnpegokfidaaDoor
