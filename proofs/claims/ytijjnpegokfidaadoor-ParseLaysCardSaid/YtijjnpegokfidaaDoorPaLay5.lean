/- parse.Lay of texts walked. -/
import Derived.Test.YtijjnpegokfidaaDoorPaLay
namespace Go.Proofs.YtijjnpegokfidaaDoor
open Go.RowKit
open Pa
set_option linter.unusedVariables false
set_option linter.unusedSimpArgs false

theorem ok5_iff (r m f : Int) (p t : List Int) : LayOk ⟨5, r, m, f, p, t⟩ ↔ (r = 0 ∧ m = 0 ∧ f = 0 ∧ ((p.length : Nat) : Int) = 0 ∧ ((t.length : Nat) : Int) ≤ 256 ∧ ∀ x ∈ t, 32 ≤ x) := by
  unfold LayOk
  constructor
  · rintro (⟨k, _⟩ | ⟨k, _⟩ | ⟨k, _⟩ | ⟨k, _⟩ | ⟨_, h⟩)
    · simp at k
    · simp at k
    · simp at k
    · simp at k
    · exact ⟨h.rune, h.mark, h.final, len0.2 h.params, by have := h.tlen; simp only at this; omega, h.text⟩
  · rintro ⟨h1, h2, h3, h4, h5, h6⟩
    exact .inr (.inr (.inr (.inr ⟨rfl, h1, h2, h3, len0.1 h4, by simp only; omega, h6⟩)))
def allGe (l : List Int) : Bool := l.all fun x => decide (32 ≤ x)
theorem allGe_snoc (l : List Int) (k : Nat) (h : k < l.length) : allGe (l.take (k + 1)) = (allGe (l.take k) && decide (32 ≤ l.getD k 0)) := by
  unfold allGe
  rw [List.take_succ_eq_append_getElem h, List.all_append]
  simp [List.getD_eq_getElem?_getD, h]
theorem allGe_iff (l : List Int) : allGe l = true ↔ ∀ x ∈ l, 32 ≤ x := by
  unfold allGe
  simp
theorem layB_5 (r m f : Int) (p t : List Int) : layB ⟨5, r, m, f, p, t⟩ = [27, 93] ++ t ++ [7] := by
  unfold layB
  simp

set_option maxRecDepth 100000 in
set_option maxHeartbeats 1000000 in
theorem lay_5 (t : TAct) (P X : Option Addr) (pc xc : Nat) (w : World) (hk : t.kind = 5) (hf : Fits t) (hx : ReadI w .u8 X t.text) :
    Calls Tryd.prog 7 #[actV t P X pc xc] w (LayEnd w t) := by
  have hm := hf.mark
  have hfi := hf.final
  have htl := hf.tlen
  obtain ⟨kind, rune, mark, final, params, text⟩ := t
  simp only at hk hm hfi htl hx
  subst hk
  have d1 : ((5 : Int) == 1) = false := by decide
  have d2 : ((5 : Int) == 2) = false := by decide
  have d3 : ((5 : Int) == 3) = false := by decide
  have d4 : ((5 : Int) == 4) = false := by decide
  have HX := Lib.hid hx
  clear hf hx
  by_cases hb : rune = 0 ∧ mark = 0 ∧ final = 0 ∧ ((params.length : Nat) : Int) = 0 ∧ ((text.length : Nat) : Int) ≤ 256
  · obtain ⟨rfl, rfl, rfl, h4, h5⟩ := hb
    have e0 : ((0 : Int) == 0) = true := by decide
    have e4 : (((params.length : Nat) : Int) == 0) = true := by simp [h4]
    have e5 : decide (((text.length : Nat) : Int) ≤ 256) = true := decide_eq_true h5
    have H4 := Lib.hid h4
    clear h4
    have hbx : ∀ o : Obj, ReadI (w.alloc o) .u8 X text := fun o => HX.out.alloc o
    have HBX := Lib.hid hbx
    clear hbx
    go_enter Tryd.func7, Tryd.ntmps7
    go_wp2_with fail
    go_loop [5, 211] (fun o i => ∃ k : Nat, k ≤ text.length ∧ i = .int .i64 k ∧ o = .bool (allGe (text.take k))) (fun _ i => text.length - (intOf i).toNat)
    case atStart => exact ⟨0, Nat.zero_le _, rfl, rfl⟩
    case round =>
      obtain ⟨k, hkl, rfl, rfl⟩ := hrel
      by_cases hlt : k < text.length
      · obtain ⟨g, o, rfl, hc⟩ := (HBX.out (.cells #[.int .i64 5, .int .i32 0, .int .u8 0, .int .u8 0, .slice P params.length pc, .slice X text.length xc] 25)) (by rintro rfl; simp at hlt)
        have hck := hc k hlt
        have hsn := allGe_snoc text k hlt
        obtain ⟨x, hx⟩ : ∃ x, x = text.getD k 0 := ⟨_, rfl⟩
        rw [← hx] at hck hsn
        have i1 : (k : Int) < (text.length : Int) := by omega
        have HS := Lib.hid hsn
        clear hc hsn hx HBX
        cases hA : allGe (text.take k)
        all_goals
          rw [hA] at HS
          have HA := Lib.hid hA
          clear hA
          go_wp2_with fail
          go_round
          case rel => exact ⟨k + 1, by omega, by go_num, by rw [HS.out]; simp⟩
          case measure => simp [intOf]; omega
      · obtain rfl : k = text.length := by omega
        rw [List.take_length]
        have hbl : ∀ o : Obj, Below w.heap.size w (w.alloc o) := fun o => below_alloc (Below.refl _ _) o
        have HBL := Lib.hid hbl
        clear hbl
        cases hA : allGe text
        all_goals
          have HA := Lib.hid hA
          clear hA
          go_wp2_with (at_builtin; first
            | (refine wpList_bldR _ rfl (.tmp 221) (.tmp 223) 23 5 .u8 1 rfl Tryd.underlying23 (by kernel_rfl) (by omega) (Bld.lit (w0 := w) (Blk.new _ _ _) (HBL.out _) (w.heap.size + 1) 2 [27, 93] _ (by simp) rfl rfl (by simp [maxLen])) rfl X xc text.length text rfl ((HBX.out _).alloc _) rfl (text.length + 2) (by first | omega | (simp; done) | (simp; omega)) (by omega) ?_; intro A1 c1 w1 hb1 _; have HB1 := Lib.hid hb1; clear hb1)
            | (refine wpList_bld1 _ rfl (.tmp 224) (.tmp 225) 23 5 .u8 1 rfl Tryd.underlying23 (by kernel_rfl) (by omega) HB1.out rfl 7 _ rfl (by simp) (text.length + 3) (by first | omega | (simp; done) | (simp; omega)) (by omega) ?_; intro A2 c2 w2 hb2 _; have HB2 := Lib.hid hb2; clear hb2))
          go_ret2
          first
            | exact LayEnd.yes ((ok5_iff _ _ _ _ _).2 ⟨rfl, rfl, rfl, H4.out, h5, (allGe_iff _).1 HA.out⟩) (by rw [layB_5]; simp) (by rw [layB_5]; exact HB2.out.read (by simp)) HB2.out.bel
            | exact LayEnd.no (fun h => by have := (allGe_iff _).2 ((ok5_iff _ _ _ _ _).1 h).2.2.2.2.2; rw [HA.out] at this; cases this) HB2.out.bel
  · have hno : ¬ LayOk ⟨5, rune, mark, final, params, text⟩ := fun h => hb (by
      obtain ⟨a1, a2, a3, a4, a5, _⟩ := (ok5_iff _ _ _ _ _).1 h
      exact ⟨a1, a2, a3, a4, a5⟩)
    have HNO := Lib.hid hno
    have hbl : ∀ o : Obj, Below w.heap.size w (w.alloc o) := fun o => below_alloc (Below.refl _ _) o
    have HBL := Lib.hid hbl
    have hbx : ∀ o : Obj, ReadI (w.alloc o) .u8 X text := fun o => HX.out.alloc o
    have HBX := Lib.hid hbx
    clear hno hbl hbx
    obtain ⟨T, hT⟩ : ∃ T : TAct, T = ⟨5, rune, mark, final, params, text⟩ := ⟨_, rfl⟩
    rw [← hT] at HNO ⊢
    have hTa : actV T P X pc xc = .agg #[.int .i64 5, .int .i32 rune, .int .u8 mark, .int .u8 final, .slice P params.length pc, .slice X text.length xc] := by rw [hT]
    rw [hTa]
    have HB := Lib.hid hb
    clear hT hTa hb
    cases hd5 : decide (((text.length : Nat) : Int) ≤ 256)
    all_goals
      go_enter Tryd.func7, Tryd.ntmps7
      go_wp2_with fail
    all_goals try (exfalso; exact HB.out (by simp only [Bool.not_eq_true', bne_iff_ne, bne_eq_false_iff_eq, beq_iff_eq, beq_eq_false_iff_ne, decide_eq_true_eq, decide_eq_false_iff_not, ne_eq, Bool.not_eq_false'] at *; omega))
    all_goals
      go_loop [5, 211] (fun o i => ∃ k : Nat, k ≤ text.length ∧ i = .int .i64 k ∧ o = .bool false) (fun _ i => text.length - (intOf i).toNat)
      case atStart => exact ⟨0, Nat.zero_le _, rfl, rfl⟩
      case round =>
        obtain ⟨k, hkl, rfl, rfl⟩ := hrel
        by_cases hlt : k < text.length
        · obtain ⟨g, o, rfl, hc⟩ := HX.out (by rintro rfl; simp at hlt)
          have hck := hc k hlt
          have hg := HX.out.lt (by rintro rfl; simp at hlt) rfl
          obtain ⟨x, hx⟩ : ∃ x, x = text.getD k 0 := ⟨_, rfl⟩
          rw [← hx] at hck
          have hck2 : ∀ o', (w.alloc o').cell? ⟨g, o + k, none⟩ = some (.int .u8 x) := fun o' => ((below_alloc (Below.refl w.heap.size w) o').cell (p := ⟨g, o + k, none⟩) hg).trans hck
          have i1 : (k : Int) < (text.length : Int) := by omega
          clear hc hck hx HBX HX
          go_wp2_with fail
          go_round
          case rel => exact ⟨k + 1, by omega, by go_num, rfl⟩
          case measure => simp [intOf]; omega
        · obtain rfl : k = text.length := by omega
          go_wp2_with (at_builtin; first
            | (refine wpList_bldR _ rfl (.tmp 221) (.tmp 223) 23 5 .u8 1 rfl Tryd.underlying23 (by kernel_rfl) (by omega) (Bld.lit (w0 := w) (Blk.new _ _ _) (HBL.out _) (w.heap.size + 1) 2 [27, 93] _ (by simp) rfl rfl (by simp [maxLen])) rfl X xc text.length text rfl ((HBX.out _).alloc _) rfl (text.length + 2) (by first | omega | (simp; done) | (simp; omega)) (by omega) ?_; intro A1 c1 w1 hb1 _; have HB1 := Lib.hid hb1; clear hb1)
            | (refine wpList_bld1 _ rfl (.tmp 224) (.tmp 225) 23 5 .u8 1 rfl Tryd.underlying23 (by kernel_rfl) (by omega) HB1.out rfl 7 _ rfl (by simp) (text.length + 3) (by first | omega | (simp; done) | (simp; omega)) (by omega) ?_; intro A2 c2 w2 hb2 _; have HB2 := Lib.hid hb2; clear hb2))
          go_ret2
          exact LayEnd.no HNO.out HB2.out.bel
end Go.Proofs.YtijjnpegokfidaaDoor
