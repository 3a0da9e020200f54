/- parse.Lay of letters of control and of escapes walked. -/
import Derived.Test.YtijjnpegokfidaaDoorPaLay
namespace Go.Proofs.YtijjnpegokfidaaDoor
open Go.RowKit
open Pa
set_option linter.unusedVariables false
set_option linter.unusedSimpArgs false

set_option maxRecDepth 100000 in
set_option maxHeartbeats 1000000 in
theorem lay_2 (t : TAct) (P X : Option Addr) (pc xc : Nat) (w : World) (hk : t.kind = 2) (hf : Fits t) :
    Calls Tryd.prog 7 #[actV t P X pc xc] w (LayEnd w t) := by
  have hm := hf.mark
  have hfi := hf.final
  obtain ⟨kind, rune, mark, final, params, text⟩ := t
  simp only at hk hm hfi
  subst hk
  have d1 : ((2 : Int) == 1) = false := by decide
  clear hf
  go_enter Tryd.func7, Tryd.ntmps7
  go_wp2_with fail
  all_goals go_ret2
  all_goals simp only [Bool.not_eq_true', bne_iff_ne, bne_eq_false_iff_eq, beq_iff_eq, beq_eq_false_iff_ne, decide_eq_true_eq, decide_eq_false_iff_not, ne_eq, Bool.not_eq_false'] at *
  all_goals first
    | exact LayEnd.lit [final] ((ok2_iff _ _ _ _ _).2 (by omega)) rfl rfl rfl
    | exact LayEnd.no (fun h => by have := (ok2_iff _ _ _ _ _).1 h; omega) (below_alloc (below_alloc (Below.refl _ _) _) _)
set_option maxRecDepth 100000 in
set_option maxHeartbeats 1000000 in
theorem lay_3 (t : TAct) (P X : Option Addr) (pc xc : Nat) (w : World) (hk : t.kind = 3) (hf : Fits t) :
    Calls Tryd.prog 7 #[actV t P X pc xc] w (LayEnd w t) := by
  have hm := hf.mark
  have hfi := hf.final
  obtain ⟨kind, rune, mark, final, params, text⟩ := t
  simp only at hk hm hfi
  subst hk
  have d1 : ((3 : Int) == 1) = false := by decide
  have d2 : ((3 : Int) == 2) = false := by decide
  have hsp := special_iff final hfi
  clear hf
  cases hs : special final
  all_goals
    rw [hs] at hsp
    simp only [Bool.not_true, Bool.not_false] at hsp
    have HS := Lib.hid hs
    clear hs
    go_enter Tryd.func7, Tryd.ntmps7
    go_wp2_with (go_at_call 14; refine (stIndexByte_any _ final _).mono ?_; rintro e w1 ⟨rfl, rfl⟩)
  all_goals go_ret2
  all_goals simp only [Bool.not_eq_true', bne_iff_ne, bne_eq_false_iff_eq, beq_iff_eq, beq_eq_false_iff_ne, decide_eq_true_eq, decide_eq_false_iff_not, ne_eq, Bool.not_eq_false'] at *
  all_goals first
    | exact LayEnd.lit2 [27, final] ((ok3_iff _ _ _ _ _).2 ⟨by omega, by omega, by omega, by omega, by omega, .inl ⟨by omega, HS.out⟩⟩) (layB_3a _ _ _ _ _ (by omega)) rfl rfl
    | exact LayEnd.lit [27, mark, final] ((ok3_iff _ _ _ _ _).2 ⟨by omega, by omega, by omega, by omega, by omega, .inr ⟨by omega, by omega⟩⟩) (layB_3b _ _ _ _ _ (by omega)) rfl rfl
    | exact LayEnd.no (ok3_not (by omega)) (below_alloc (below_alloc (Below.refl _ _) _) _)
    | exact LayEnd.no (ok3_not (by omega)) (below_alloc (below_alloc (below_alloc (Below.refl _ _) _) _) _)
    | exact LayEnd.no (ok3_not2 HS.out (by omega)) (below_alloc (below_alloc (Below.refl _ _) _) _)
    | exact LayEnd.no (ok3_not2 HS.out (by omega)) (below_alloc (below_alloc (below_alloc (Below.refl _ _) _) _) _)
end Go.Proofs.YtijjnpegokfidaaDoor
