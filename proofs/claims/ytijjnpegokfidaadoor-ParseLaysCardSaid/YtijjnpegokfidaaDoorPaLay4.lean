/- parse.layCsi of what can't be laid; parse.Lay of all acts. -/
import Derived.Test.YtijjnpegokfidaaDoorPaCsi
import Derived.Test.YtijjnpegokfidaaDoorPaLay5
import Derived.Test.YtijjnpegokfidaaDoorPaLay23
import Derived.Test.YtijjnpegokfidaaDoorPaLay1ba
import Derived.Test.YtijjnpegokfidaaDoorPaLay1bb
import Derived.Test.YtijjnpegokfidaaDoorPaLay1bc
import Derived.Deep.DeepCutAuto
namespace Go.Proofs.YtijjnpegokfidaaDoor
open Go.RowKit
open Pa
set_option linter.unusedVariables false
set_option linter.unusedSimpArgs false

def CsiHead (r m f : Int) (p t : List Int) : Prop := r = 0 ∧ ((t.length : Nat) : Int) = 0 ∧ 64 ≤ f ∧ f ≤ 126 ∧ ((p.length : Nat) : Int) ≤ 16 ∧ (m = 0 ∨ (60 ≤ m ∧ m ≤ 63) ∨ (32 ≤ m ∧ m ≤ 47))
theorem csi_left {r m f : Int} {p t : List Int} (h : ¬ CsiHead r m f p t) : ¬ LayOk ⟨4, r, m, f, p, t⟩ := fun k => h ((ok4_iff _ _ _ _ _).1 k).1
set_option maxRecDepth 100000 in
set_option maxHeartbeats 2000000 in
theorem csi_no (rune mark final : Int) (params text : List Int) (P X : Option Addr) (pc xc : Nat) (w : World) (hm : 0 ≤ mark ∧ mark < 256) (hf : 0 ≤ final ∧ final < 256) (h : ¬ CsiHead rune mark final params text) :
    Calls Tryd.prog 15 #[actV ⟨4, rune, mark, final, params, text⟩ P X pc xc] w (LayEnd w ⟨4, rune, mark, final, params, text⟩) := by
  have hno := csi_left h
  unfold CsiHead at h
  obtain ⟨T, hT⟩ : ∃ T : TAct, T = ⟨4, rune, mark, final, params, text⟩ := ⟨_, rfl⟩
  rw [← hT] at hno ⊢
  have hTa : actV T P X pc xc = .agg #[.int .i64 4, .int .i32 rune, .int .u8 mark, .int .u8 final, .slice P params.length pc, .slice X text.length xc] := by rw [hT]
  rw [hTa]
  have HNO := Lib.hid hno
  have HH := Lib.hid h
  clear hT hTa hno h
  go_enter Tryd.func15, Tryd.ntmps15
  go_upto_region 4 with (fail)
  all_goals first
    | (go_ret2; exact LayEnd.no HNO.out (below_alloc (Below.refl _ _) _))
    | (exfalso; omega)
    | (exfalso; refine HH.out ?_; omega)
    | (exfalso; refine HH.out ?_; simp only [Bool.not_eq_true', bne_iff_ne, bne_eq_false_iff_eq, beq_iff_eq, beq_eq_false_iff_ne, decide_eq_true_eq, decide_eq_false_iff_not, ne_eq, Bool.not_eq_false'] at *; omega)
theorem csi_any (t : TAct) (P X : Option Addr) (pc xc : Nat) (w : World) (hk : t.kind = 4) (hf : Fits t) (hP : Pow w) (hx : ReadI w .i64 P t.params) :
    Calls Tryd.prog 15 #[actV t P X pc xc] w (LayEnd w t) := by
  have hm := hf.mark
  have hfi := hf.final
  have hpb := hf.params
  obtain ⟨kind, rune, mark, final, params, text⟩ := t
  simp only at hk hm hfi hpb hx
  subst hk
  by_cases h : CsiHead rune mark final params text
  · obtain ⟨rfl, h2, h3, h4, h5, h6⟩ := h
    rcases h6 with rfl | h6 | h6
    · exact csi_a final params text P X pc xc w hP hx h2 h3 h4 h5 hpb
    · exact csi_c mark final params text P X pc xc w hP hx h6 h2 h3 h4 h5 hpb
    · exact csi_b mark final params text P X pc xc w hP hx h6 h2 h3 h4 h5 hpb
  · exact csi_no rune mark final params text P X pc xc w hm hfi h
set_option maxRecDepth 100000 in
theorem lay_4 (t : TAct) (P X : Option Addr) (pc xc : Nat) (w : World) (hk : t.kind = 4) (hf : Fits t) (hP : Pow w) (hx : ReadI w .i64 P t.params) :
    Calls Tryd.prog 7 #[actV t P X pc xc] w (LayEnd w t) := by
  have hc : ∀ o, Calls Tryd.prog 15 #[actV t P X pc xc] (w.alloc o) (LayEnd (w.alloc o) t) := fun o => csi_any t P X pc xc _ hk hf (hP.under (below_alloc (Below.refl _ _) _)) (hx.alloc o)
  have HC := Lib.hid hc
  obtain ⟨kind, rune, mark, final, params, text⟩ := t
  simp only at hk
  subst hk
  have d1 : ((4 : Int) == 1) = false := by decide
  have d2 : ((4 : Int) == 2) = false := by decide
  have d3 : ((4 : Int) == 3) = false := by decide
  have d4 : ((4 : Int) == 4) = true := by decide
  clear hf hP hx hc
  go_enter Tryd.func7, Tryd.ntmps7
  go_wp2_with fail
  refine (HC.out _).mono ?_
  intro e w1 he
  rcases he with ⟨hok, A, c, rfl, hr, hb⟩ | ⟨hno, rfl, hb⟩
  · have HOK := Lib.hid hok
    have HR := Lib.hid hr
    have HB := Lib.hid hb
    clear hok hr hb
    go_wp2_with fail
    go_ret2
    exact LayEnd.yes HOK.out rfl HR.out ((below_alloc (Below.refl w.heap.size w) _).trans (HB.out.mono (by simp)))
  · have HNO := Lib.hid hno
    have HB := Lib.hid hb
    clear hno hb
    go_wp2_with fail
    go_ret2
    exact LayEnd.no HNO.out ((below_alloc (Below.refl w.heap.size w) _).trans (HB.out.mono (by simp)))
set_option maxRecDepth 100000 in
theorem lay_x (t : TAct) (P X : Option Addr) (pc xc : Nat) (w : World) (hk : t.kind < 1 ∨ 5 < t.kind) :
    Calls Tryd.prog 7 #[actV t P X pc xc] w (LayEnd w t) := by
  have hno : ¬ LayOk t := by
    rintro (⟨k, _⟩ | ⟨k, _⟩ | ⟨k, _⟩ | ⟨k, _⟩ | ⟨k, _⟩) <;> omega
  have d1 : (t.kind == 1) = false := by rw [beq_eq_false_iff_ne]; omega
  have d2 : (t.kind == 2) = false := by rw [beq_eq_false_iff_ne]; omega
  have d3 : (t.kind == 3) = false := by rw [beq_eq_false_iff_ne]; omega
  have d4 : (t.kind == 4) = false := by rw [beq_eq_false_iff_ne]; omega
  have d5 : (t.kind == 5) = false := by rw [beq_eq_false_iff_ne]; omega
  have HNO := Lib.hid hno
  clear hno hk
  go_enter Tryd.func7, Tryd.ntmps7
  go_wp2_with fail
  go_ret2
  exact LayEnd.no HNO.out (below_alloc (Below.refl _ _) _)
theorem lay_1 (t : TAct) (P X : Option Addr) (pc xc : Nat) (w : World) (hk : t.kind = 1) (hf : Fits t) :
    Calls Tryd.prog 7 #[actV t P X pc xc] w (LayEnd w t) := by
  have hr := hf.rune
  obtain ⟨kind, rune, mark, final, params, text⟩ := t
  simp only at hk hr
  subst hk
  by_cases h0 : mark = 0
  case neg =>
    exact lay_1_0 rune mark final params text P X pc xc w hr (fun h => h0 ((ok1_iff _ _ _ _ _).1 h).1) (by simp [h0])
  have e0 : (mark == 0) = true := by simp [h0]
  by_cases h1 : final = 0
  case neg =>
    exact lay_1_1 rune mark final params text P X pc xc w hr (fun h => h1 ((ok1_iff _ _ _ _ _).1 h).2.1) e0 (by simp [h1])
  have e1 : (final == 0) = true := by simp [h1]
  by_cases h2 : ((params.length : Nat) : Int) = 0
  case neg =>
    exact lay_1_2 rune mark final params text P X pc xc w hr (fun h => h2 ((ok1_iff _ _ _ _ _).1 h).2.2.1) e0 e1 (by simpa using h2)
  have e2 : (((params.length : Nat) : Int) == 0) = true := by simpa using h2
  by_cases h3 : ((text.length : Nat) : Int) = 0
  case neg =>
    exact lay_1_3 rune mark final params text P X pc xc w hr (fun h => h3 ((ok1_iff _ _ _ _ _).1 h).2.2.2.1) e0 e1 e2 (by simpa using h3)
  have e3 : (((text.length : Nat) : Int) == 0) = true := by simpa using h3
  by_cases h4 : 32 ≤ rune
  case neg =>
    exact lay_1_4 rune mark final params text P X pc xc w hr (fun h => h4 ((ok1_iff _ _ _ _ _).1 h).2.2.2.2.1) e0 e1 e2 e3 (decide_eq_false h4)
  have e4 : decide (32 ≤ rune) = true := decide_eq_true h4
  by_cases h5 : rune ≠ 127
  case neg =>
    exact lay_1_5 rune mark final params text P X pc xc w hr (fun h => h5 ((ok1_iff _ _ _ _ _).1 h).2.2.2.2.2.1) e0 e1 e2 e3 e4 (by simpa using h5)
  have e5 : (rune != 127) = true := by simpa using h5
  by_cases h6 : rune = 65533
  · exact lay_1_a rune mark final params text P X pc xc w hr ((ok1_iff _ _ _ _ _).2 ⟨h0, h1, h2, h3, h4, h5, by rw [h6]; decide⟩) e0 e1 e2 e3 e4 e5 (by simp [h6])
  · cases hm : Utf.may rune
    · exact lay_1_c rune mark final params text P X pc xc w hr (fun h => by have := ((ok1_iff _ _ _ _ _).1 h).2.2.2.2.2.2; rw [hm] at this; cases this) e0 e1 e2 e3 e4 e5 (by simp [h6]) (by rw [broken_enc rune hm]; decide) (by rw [broken_enc rune hm]; decide)
    · exact lay_1_b rune mark final params text P X pc xc w hr ((ok1_iff _ _ _ _ _).2 ⟨h0, h1, h2, h3, h4, h5, hm⟩) e0 e1 e2 e3 e4 e5 (by simp [h6]) (by simpa using whole_enc rune hm h6) (by simpa using whole_enc rune hm h6)
theorem lay_any (t : TAct) (P X : Option Addr) (pc xc : Nat) (w : World) (hf : Fits t) (hP : Pow w) (hx : ReadI w .i64 P t.params) (hy : ReadI w .u8 X t.text) :
    Calls Tryd.prog 7 #[actV t P X pc xc] w (LayEnd w t) := by
  by_cases h1 : t.kind = 1
  · exact lay_1 t P X pc xc w h1 hf
  by_cases h2 : t.kind = 2
  · exact lay_2 t P X pc xc w h2 hf
  by_cases h3 : t.kind = 3
  · exact lay_3 t P X pc xc w h3 hf
  by_cases h4 : t.kind = 4
  · exact lay_4 t P X pc xc w h4 hf hP hx
  by_cases h5 : t.kind = 5
  · exact lay_5 t P X pc xc w h5 hf hy
  · exact lay_x t P X pc xc w (by omega)
end Go.Proofs.YtijjnpegokfidaaDoor
