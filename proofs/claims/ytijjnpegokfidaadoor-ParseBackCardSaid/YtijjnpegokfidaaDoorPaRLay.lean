/- The document's Lay walked: letters, letters of control, escapes, other kinds. -/
import Derived.Test.YtijjnpegokfidaaDoorPaLay
namespace Go.Proofs.YtijjnpegokfidaaDoor
open Go.RowKit
open Pa
set_option linter.unusedVariables false
set_option linter.unusedSimpArgs false

theorem LayEnd.litw {w W : World} {t : TAct} {cs : Array Value} {n m : Nat} (zs : List Int) (h : LayOk t) (hz : layB t = zs) (hc : cs = (zs.map (Value.int .u8)).toArray) (hm : m = zs.length) (hn : n = W.heap.size) (hb : Below w.heap.size w W) :
    LayEnd w t (.returned (.tuple #[.slice (some ⟨n, 0, none⟩) m m, .int .i64 0])) (W.alloc (.cells cs 5)) :=
  LayEnd.yes h (by rw [hz]; exact hm) (by rw [hz]; exact litI_read W n hn 5 .u8 zs cs hc (0, 0)) (below_alloc hb _)
theorem ok1i (r m f : Int) (p t : List Int) : LayOk ⟨1, r, m, f, p, t⟩ ↔ (m = 0 ∧ f = 0 ∧ ((p.length : Nat) : Int) = 0 ∧ ((t.length : Nat) : Int) = 0 ∧ 32 ≤ r ∧ r ≠ 127 ∧ Utf.may r = true) := by
  unfold LayOk
  constructor
  · rintro (⟨_, h⟩ | ⟨k, _⟩ | ⟨k, _⟩ | ⟨k, _⟩ | ⟨k, _⟩)
    · exact ⟨h.mark, h.final, len0.2 h.params, len0.2 h.text, h.rune.1, h.rune.2, h.may⟩
    · simp at k
    · simp at k
    · simp at k
    · simp at k
  · rintro ⟨h1, h2, h3, h4, h5, h6, h7⟩
    exact .inl ⟨rfl, h1, h2, len0.1 h3, len0.1 h4, ⟨h5, h6⟩, h7⟩
theorem special_no {f : Int} (h : f ≠ 91 ∧ f ≠ 93 ∧ f ≠ 80 ∧ f ≠ 88 ∧ f ≠ 94 ∧ f ≠ 95) : special f = false := by
  unfold special
  simp [h]
theorem special_yes {f : Int} (h : f = 91 ∨ f = 93 ∨ f = 80 ∨ f = 88 ∨ f = 94 ∨ f = 95) : special f = true := by
  unfold special
  simp
  omega
theorem below3 (w : World) (a b c : Obj) : Below w.heap.size w (((w.alloc a).alloc b).alloc c) := below_alloc (below_alloc (below_alloc (Below.refl _ _) _) _) _

set_option maxRecDepth 100000 in
set_option maxHeartbeats 1000000 in
theorem rlay_1 (t : TAct) (P X : Option Addr) (pc xc : Nat) (w : World) (hk : t.kind = 1) (hf : Fits t) :
    Calls Tryd.prog 8 #[actV t P X pc xc] w (LayEnd w t) := by
  have hr := hf.rune
  obtain ⟨kind, rune, mark, final, params, text⟩ := t
  simp only at hk hr
  subst hk
  have d1 : ((1 : Int) == 1) = true := by decide
  clear hf
  cases hm : Utf.may rune
  all_goals
    have HM := Lib.hid hm
    have hmy : ∀ W, Calls Tryd.prog 16 #[.int .i32 rune] W fun e w' => e = .returned (.bool (Utf.may rune)) ∧ W = w' := fun W => rmay_any rune W
    rw [hm] at hmy
    have HMY := Lib.hid hmy
    clear hm hmy
    go_enter Tryd.func8, Tryd.ntmps8
    go_wp2_with (first
      | (go_at_call 16; refine (HMY.out _).mono ?_; rintro e w' ⟨rfl, rfl⟩)
      | (go_at_call 17; refine (renc_any _ _).mono ?_; rintro e w1 ⟨A1, c1, rfl, ho, hb⟩; have HO := Lib.hid ho.read; have HB := Lib.hid ((below3 w _ _ _).trans (hb.mono (below3 w _ _ _).size)); clear ho hb))
  all_goals go_ret2
  all_goals simp only [Bool.not_eq_true', bne_iff_ne, bne_eq_false_iff_eq, beq_iff_eq, beq_eq_false_iff_ne, decide_eq_true_eq, decide_eq_false_iff_not, ne_eq, Bool.not_eq_false'] at *
  all_goals first
    | exact LayEnd.yes ((ok1i _ _ _ _ _).2 ⟨by omega, by omega, by omega, by omega, by omega, by omega, HM.out⟩) rfl HO.out HB.out
    | exact LayEnd.no (fun h => Bool.noConfusion (show true = false from (((ok1i _ _ _ _ _).1 h).2.2.2.2.2.2).symm.trans HM.out)) HB.out
    | exact LayEnd.no (fun h => by obtain ⟨h1, h2, h3, h4, h5, h6, _⟩ := ((ok1i _ _ _ _ _).1 h); omega) HB.out
set_option maxRecDepth 100000 in
set_option maxHeartbeats 1000000 in
theorem rlay_2 (t : TAct) (P X : Option Addr) (pc xc : Nat) (w : World) (hk : t.kind = 2) (hf : Fits t) :
    Calls Tryd.prog 8 #[actV t P X pc xc] w (LayEnd w t) := by
  have hm := hf.mark
  have hfi := hf.final
  obtain ⟨kind, rune, mark, final, params, text⟩ := t
  simp only at hk hm hfi
  subst hk
  have d1 : ((2 : Int) == 1) = false := by decide
  clear hf
  go_enter Tryd.func8, Tryd.ntmps8
  go_wp2_with fail
  all_goals go_ret2
  all_goals simp only [Bool.not_eq_true', bne_iff_ne, bne_eq_false_iff_eq, beq_iff_eq, beq_eq_false_iff_ne, decide_eq_true_eq, decide_eq_false_iff_not, ne_eq, Bool.not_eq_false'] at *
  all_goals first
    | exact LayEnd.litw [final] ((ok2_iff _ _ _ _ _).2 (by omega)) rfl rfl rfl (by simp) (below3 w _ _ _)
    | exact LayEnd.no (fun h => by have := (ok2_iff _ _ _ _ _).1 h; omega) (below_alloc (below3 w _ _ _) _)
set_option maxRecDepth 100000 in
set_option maxHeartbeats 2000000 in
theorem rlay_3 (t : TAct) (P X : Option Addr) (pc xc : Nat) (w : World) (hk : t.kind = 3) (hf : Fits t) :
    Calls Tryd.prog 8 #[actV t P X pc xc] w (LayEnd w t) := by
  have hm := hf.mark
  have hfi := hf.final
  obtain ⟨kind, rune, mark, final, params, text⟩ := t
  simp only at hk hm hfi
  subst hk
  have d1 : ((3 : Int) == 1) = false := by decide
  have d2 : ((3 : Int) == 2) = false := by decide
  clear hf
  go_enter Tryd.func8, Tryd.ntmps8
  go_wp2_with fail
  all_goals go_ret2
  all_goals simp only [Bool.not_eq_true', bne_iff_ne, bne_eq_false_iff_eq, beq_iff_eq, beq_eq_false_iff_ne, decide_eq_true_eq, decide_eq_false_iff_not, ne_eq, Bool.not_eq_false'] at *
  all_goals first
    | exact LayEnd.litw [27, final] ((ok3_iff _ _ _ _ _).2 ⟨by omega, by omega, by omega, by omega, by omega, .inl ⟨by omega, special_no (by omega)⟩⟩) (layB_3a _ _ _ _ _ (by omega)) rfl rfl (by simp) (below3 w _ _ _)
    | exact LayEnd.litw [27, mark, final] ((ok3_iff _ _ _ _ _).2 ⟨by omega, by omega, by omega, by omega, by omega, .inr ⟨by omega, by omega⟩⟩) (layB_3b _ _ _ _ _ (by omega)) rfl rfl (by simp) (below3 w _ _ _)
    | exact LayEnd.no (ok3_not (by omega)) (below_alloc (below3 w _ _ _) _)
    | exact LayEnd.no (ok3_not2 (special_yes (by omega)) (by omega)) (below_alloc (below3 w _ _ _) _)
set_option maxRecDepth 100000 in
theorem rlay_x (t : TAct) (P X : Option Addr) (pc xc : Nat) (w : World) (hk : t.kind < 1 ∨ 5 < t.kind) :
    Calls Tryd.prog 8 #[actV t P X pc xc] w (LayEnd w t) := by
  have hno : ¬ LayOk t := by
    rintro (⟨k, _⟩ | ⟨k, _⟩ | ⟨k, _⟩ | ⟨k, _⟩ | ⟨k, _⟩) <;> omega
  have d1 : (t.kind == 1) = false := by rw [beq_eq_false_iff_ne]; omega
  have d2 : (t.kind == 2) = false := by rw [beq_eq_false_iff_ne]; omega
  have d3 : (t.kind == 3) = false := by rw [beq_eq_false_iff_ne]; omega
  have d4 : (t.kind == 4) = false := by rw [beq_eq_false_iff_ne]; omega
  have d5 : (t.kind == 5) = false := by rw [beq_eq_false_iff_ne]; omega
  have HNO := Lib.hid hno
  clear hno hk
  go_enter Tryd.func8, Tryd.ntmps8
  go_wp2_with fail
  go_ret2
  exact LayEnd.no HNO.out (below3 w _ _ _)
end Go.Proofs.YtijjnpegokfidaaDoor
