/- The document's Lay of texts walked. -/
import Derived.Test.YtijjnpegokfidaaDoorPaRLay
import Derived.Test.YtijjnpegokfidaaDoorPaLay5
import Derived.Deep.DeepCutAuto
namespace Go.Proofs.YtijjnpegokfidaaDoor
open Go.RowKit
open Pa
set_option linter.unusedVariables false
set_option linter.unusedSimpArgs false

def Head5 (r m f : Int) (p t : List Int) : Prop := r = 0 ∧ m = 0 ∧ f = 0 ∧ ((p.length : Nat) : Int) = 0 ∧ ((t.length : Nat) : Int) ≤ 256
instance (r m f : Int) (p t : List Int) : Decidable (Head5 r m f p t) := by unfold Head5; infer_instance
theorem blk3 (w : World) (t : TypeId) (cs : Array Value) (a b : Obj) : Blk (((w.alloc (.cells cs t)).alloc a).alloc b) w.heap.size t cs := ((Blk.new _ _ _).alloc _).alloc _
set_option maxRecDepth 100000 in
set_option maxHeartbeats 2000000 in
theorem rlay_5 (t : TAct) (P X : Option Addr) (pc xc : Nat) (w : World) (hk : t.kind = 5) (hf : Fits t) (hx : ReadI w .u8 X t.text) :
    Calls Tryd.prog 8 #[actV t P X pc xc] w (LayEnd w t) := by
  have htl := hf.tlen
  obtain ⟨kind, rune, mark, final, params, text⟩ := t
  simp only at hk htl hx
  subst hk
  have d1 : ((5 : Int) == 1) = false := by decide
  have d2 : ((5 : Int) == 2) = false := by decide
  have d3 : ((5 : Int) == 3) = false := by decide
  have d4 : ((5 : Int) == 4) = false := by decide
  have HX := Lib.hid hx
  clear hf hx
  obtain ⟨T, hT⟩ : ∃ T : TAct, T = ⟨5, rune, mark, final, params, text⟩ := ⟨_, rfl⟩
  have hTa : actV T P X pc xc = .agg #[.int .i64 5, .int .i32 rune, .int .u8 mark, .int .u8 final, .slice P params.length pc, .slice X text.length xc] := by rw [hT]
  rw [← hT, hTa]
  obtain ⟨ok0, hok0⟩ : ∃ b : Bool, b = decide (Head5 rune mark final params text) := ⟨_, rfl⟩
  obtain ⟨box, hbox⟩ : ∃ box : Array Value, box = #[.int .i64 5, .int .i32 rune, .int .u8 mark, .int .u8 final, .slice P params.length pc, .slice X text.length xc] := ⟨_, rfl⟩
  have HT := Lib.hid hT
  have HOK0 := Lib.hid hok0
  have HBOX := Lib.hid hbox
  clear hT hTa hok0 hbox
  go_enter Tryd.func8, Tryd.ntmps8
  go_upto_region 40 with (fail)
  go_cut [6] from 289 to 313 (fun ok wx => ok = .bool ok0 ∧ Blk wx w.heap.size 25 box ∧ Below w.heap.size w wx)
  case first =>
    go_wp2_with fail
    all_goals go_meet
    all_goals refine ⟨congrArg Value.bool ?_, ?_, below3 w _ _ _⟩
    all_goals first
      | (rw [HOK0.out]; exact decide_eq_decide.2 ⟨fun h => ⟨by omega, by omega, by omega, by omega, h⟩, fun h => h.2.2.2.2⟩)
      | (rw [HOK0.out]; exact (decide_eq_false (fun h => by obtain ⟨h1, h2, h3, h4, h5⟩ := h; simp only [Bool.not_eq_true', bne_iff_ne, bne_eq_false_iff_eq, beq_iff_eq, beq_eq_false_iff_ne, ne_eq] at *; omega)).symm)
      | (rw [HBOX.out, show rune = 0 by omega, show mark = 0 by omega, show final = 0 by omega]; exact blk3 _ _ _ _ _)
      | (rw [HBOX.out, show rune = 0 by omega, show mark = 0 by omega]; exact blk3 _ _ _ _ _)
      | (rw [HBOX.out, show rune = 0 by omega]; exact blk3 _ _ _ _ _)
      | (rw [HBOX.out]; exact blk3 _ _ _ _ _)
  case rest =>
    obtain ⟨rfl, hblk, hbw⟩ := hcut
    rename_i wc
    have hlit : Bld w (wc.alloc (.cells #[.int .u8 27, .int .u8 93] 5)) 5 .u8 (.slice (some ⟨wc.heap.size, 0, none⟩) 2 2) [27, 93] w.heap.size 25 box :=
      Bld.lit (w0 := w) hblk hbw wc.heap.size 2 [27, 93] _ rfl rfl rfl (by simp [maxLen])
    have HLIT := Lib.hid hlit
    clear hblk hbw hlit
    go_wp2_with fail
    go_loopw [5, 6, 11] (fun b ok i wr => ∃ (k : Nat) (A : Option Addr) (n c : Nat), k ≤ text.length ∧ k ≤ 300 ∧ i = .int .i64 k ∧ ok = .bool (ok0 && allGe (text.take k)) ∧ b = .slice A n c ∧ n = k + 2 ∧ Bld w wr 5 .u8 (.slice A n c) ([27, 93] ++ text.take k) w.heap.size 25 box) (fun _ _ i _ => 301 - (intOf i).toNat)
    case atStart => exact ⟨0, some ⟨wc.heap.size, 0, none⟩, 2, 2, Nat.zero_le _, by omega, rfl, by simp [allGe], rfl, rfl, HLIT.out⟩
    case round =>
      obtain ⟨k, A, n, c, hk, hk3, rfl, rfl, rfl, hn, hb⟩ := hrel
      have y5 : wr.cell? ⟨w.heap.size, 5, none⟩ = some (.slice X text.length xc) := by
        have h := hb.blk.cell 5
        rw [HBOX.out] at h
        exact h
      have HB := Lib.hid hb
      have HN := Lib.hid hn
      have hn2 : n ≤ 302 := by omega
      clear hb hn
      obtain ⟨cur, hcur⟩ : ∃ cur : Bool, cur = (ok0 && allGe (text.take k)) := ⟨_, rfl⟩
      rw [← hcur]
      have HCUR := Lib.hid hcur
      by_cases hlt : k < text.length ∧ k < 300
      · obtain ⟨h1, h2⟩ := hlt
        obtain ⟨g, o, rfl, hc⟩ := (HX.out.under HB.out.bel) (by rintro rfl; simp at h1)
        have hck := hc k h1
        have hsn := allGe_snoc text k h1
        have htk : [27, 93] ++ text.take (k + 1) = [27, 93] ++ text.take k ++ [text.getD k 0] := by rw [take_snoc text k h1, List.append_assoc]
        obtain ⟨x, hx⟩ : ∃ x, x = text.getD k 0 := ⟨_, rfl⟩
        rw [← hx] at hck hsn htk
        have hc2 : (ok0 && allGe (text.take (k + 1))) = (cur && decide (32 ≤ x)) := by rw [hsn, hcur, Bool.and_assoc]
        have HC2 := Lib.hid hc2
        have HTK := Lib.hid htk
        have i1 : decide (k < text.length) = true := decide_eq_true h1
        have i2 : decide ((k : Int) < 300) = true := decide_eq_true (by omega)
        clear hc hsn htk hx hc2 hcur
        cases cur
        all_goals
          go_wp2_with (at_builtin; first
            | (refine wpList_bld1 _ rfl (.tmp 335) (.tmp 341) 23 5 .u8 1 rfl Tryd.underlying23 (by kernel_rfl) (by omega) HB.out rfl x _ rfl (by simp) (n + 1) (by have := HN.out; simp; omega) (by omega) ?_; intro A1 c1 w1 hb1 _; have HB1 := Lib.hid hb1; clear hb1))
          go_wp2_with fail
          go_roundw
          case rel => exact ⟨k + 1, A1, n + 1, c1, by omega, by omega, by go_num, by rw [HC2.out]; simp, rfl, by have := HN.out; omega, by rw [HTK.out]; exact HB1.out⟩
          case measure => simp [intOf]; omega
      · have hT1 : cur = true → k = text.length ∧ LayOk T := fun h => by
          rw [hcur, Bool.and_eq_true] at h
          obtain ⟨h1, h2⟩ := h
          rw [HOK0.out] at h1
          have h3 : Head5 rune mark final params text := of_decide_eq_true h1
          have h4 : k = text.length := by have := h3.2.2.2.2; omega
          rw [h4, List.take_length] at h2
          refine ⟨h4, ?_⟩
          rw [HT.out]
          exact (ok5_iff _ _ _ _ _).2 ⟨h3.1, h3.2.1, h3.2.2.1, h3.2.2.2.1, h3.2.2.2.2, (allGe_iff _).1 h2⟩
        have hT2 : cur = false → ¬ LayOk T := fun h hok => by
          rw [HT.out] at hok
          obtain ⟨a1, a2, a3, a4, a5, a6⟩ := (ok5_iff _ _ _ _ _).1 hok
          have h1 : ok0 = true := by rw [HOK0.out]; exact decide_eq_true ⟨a1, a2, a3, a4, a5⟩
          have h2 : allGe (text.take k) = true := (allGe_iff _).2 (fun x hx => a6 x (List.mem_of_mem_take hx))
          rw [hcur, h1, h2] at h
          cases h
        have HT1 := Lib.hid hT1
        have HT2 := Lib.hid hT2
        clear hT1 hT2 hcur
        have hlay : layB T = [27, 93] ++ text ++ [7] := by rw [HT.out, layB_5]
        have HLAY := Lib.hid hlay
        clear hlay
        rcases (show (decide (k < text.length) = false) ∨ (decide (k < text.length) = true ∧ decide ((k : Int) < 300) = false) by
          by_cases h : k < text.length
          · exact .inr ⟨decide_eq_true h, decide_eq_false (by omega)⟩
          · exact .inl (decide_eq_false h)) with i1 | ⟨i1, i2⟩
        all_goals cases cur
        all_goals first
          | (have hno := HT2.out rfl
             have HNO := Lib.hid hno
             clear hno HT1 HT2
             go_wp2_with (at_builtin; first
              | (refine wpList_bld1 _ rfl (.tmp 343) (.tmp 344) 23 5 .u8 1 rfl Tryd.underlying23 (by kernel_rfl) (by omega) HB.out rfl 7 _ rfl (by simp) (n + 1) (by have := HN.out; simp; omega) (by omega) ?_; intro A1 c1 w1 hb1 _; have HB1 := Lib.hid hb1; clear hb1))
             go_ret2
             exact LayEnd.no HNO.out HB1.out.bel)
          | (obtain ⟨h1, h2⟩ := HT1.out rfl
             have H1 := Lib.hid h1
             have H2 := Lib.hid h2
             clear h1 h2 HT1 HT2
             go_wp2_with (at_builtin; first
              | (refine wpList_bld1 _ rfl (.tmp 343) (.tmp 344) 23 5 .u8 1 rfl Tryd.underlying23 (by kernel_rfl) (by omega) HB.out rfl 7 _ rfl (by simp) (n + 1) (by have := HN.out; simp; omega) (by omega) ?_; intro A1 c1 w1 hb1 _; have HB1 := Lib.hid hb1; clear hb1))
             go_ret2
             have hb2 := HB1.out
             have hn3 := HN.out
             have h1 := H1.out
             rw [h1, List.take_length] at hb2
             exact LayEnd.yes H2.out (by rw [HLAY.out]; simp; omega) (by rw [HLAY.out]; exact hb2.read (by simp; omega)) HB1.out.bel)
end Go.Proofs.YtijjnpegokfidaaDoor
