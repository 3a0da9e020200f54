/- The document's Lay of control sequences walked; of all acts. -/
import Derived.Test.YtijjnpegokfidaaDoorPaRLay5
import Derived.Test.YtijjnpegokfidaaDoorPaCsi0
import Derived.Test.YtijjnpegokfidaaDoorPaDec
namespace Go.Proofs.YtijjnpegokfidaaDoor
open Go.RowKit
open Pa
set_option linter.unusedVariables false
set_option linter.unusedSimpArgs false

def Head4 (r f : Int) (p t : List Int) : Prop := r = 0 ∧ ((t.length : Nat) : Int) = 0 ∧ ((p.length : Nat) : Int) ≤ 16 ∧ 64 ≤ f ∧ f ≤ 126
instance (r f : Int) (p t : List Int) : Decidable (Head4 r f p t) := by unfold Head4; infer_instance
def MarkOk (m : Int) : Prop := m = 0 ∨ (60 ≤ m ∧ m ≤ 63) ∨ (32 ≤ m ∧ m ≤ 47)
instance (m : Int) : Decidable (MarkOk m) := by unfold MarkOk; infer_instance
def goodB (l : List Int) : Bool := l.all fun n => decide (0 ≤ n) && decide (n ≤ 9999)
theorem goodB_snoc (l : List Int) (k : Nat) (h : k < l.length) : goodB (l.take (k + 1)) = (goodB (l.take k) && (decide (0 ≤ l.getD k 0) && decide (l.getD k 0 ≤ 9999))) := by
  unfold goodB
  rw [List.take_succ_eq_append_getElem h, List.all_append]
  simp [List.getD_eq_getElem?_getD, h]
theorem goodB_iff (l : List Int) : goodB l = true ↔ ∀ x ∈ l, 0 ≤ x ∧ x ≤ 9999 := by
  unfold goodB
  simp
theorem decI_len (x : Int) : (decI x).length ≤ 4 := by
  unfold decI
  split
  · exact dec_len _ (by omega)
  · simp
theorem nums_step0 (H zs l : List Int) (k : Nat) (h : k < l.length) (x : Int) (hx : x = l.getD k 0) (hk : k = 0) (hz : goodB (l.take k) = true → zs = H ++ numsB (l.take k)) (hg : goodB (l.take (k + 1)) = true) : zs ++ decI x = H ++ numsB (l.take (k + 1)) := by
  subst hk
  rw [goodB_snoc l 0 h, ← hx] at hg
  simp at hg
  rw [hz (by simp [goodB]), numsB_take0 l h, ← hx, List.take_zero, numsB_nil, List.append_nil]
  unfold decI
  rw [if_pos hg.2]
theorem nums_step1 (H zs l : List Int) (k : Nat) (h : k < l.length) (x : Int) (hx : x = l.getD k 0) (hk : 0 < k) (hz : goodB (l.take k) = true → zs = H ++ numsB (l.take k)) (hg : goodB (l.take (k + 1)) = true) : zs ++ [59] ++ decI x = H ++ numsB (l.take (k + 1)) := by
  rw [goodB_snoc l k h, ← hx, Bool.and_eq_true] at hg
  obtain ⟨h1, h2⟩ := hg
  simp at h2
  rw [hz h1, numsB_take l k h hk, ← hx]
  unfold decI
  rw [if_pos h2]
  simp
set_option maxRecDepth 100000 in
set_option maxHeartbeats 4000000 in
theorem rlay_4 (t : TAct) (P X : Option Addr) (pc xc : Nat) (w : World) (hk : t.kind = 4) (hf : Fits t) (hx : ReadI w .i64 P t.params) :
    Calls Tryd.prog 8 #[actV t P X pc xc] w (LayEnd w t) := by
  have hpl := hf.plen
  have hpb := hf.params
  have hmb := hf.mark
  obtain ⟨kind, rune, mark, final, params, text⟩ := t
  simp only at hk hpl hx hpb hmb
  subst hk
  have d1 : ((4 : Int) == 1) = false := by decide
  have d2 : ((4 : Int) == 2) = false := by decide
  have d3 : ((4 : Int) == 3) = false := by decide
  have HX := Lib.hid hx
  have HPB := Lib.hid hpb
  clear hf hx hpb
  obtain ⟨T, hT⟩ : ∃ T : TAct, T = ⟨4, rune, mark, final, params, text⟩ := ⟨_, rfl⟩
  have hTa : actV T P X pc xc = .agg #[.int .i64 4, .int .i32 rune, .int .u8 mark, .int .u8 final, .slice P params.length pc, .slice X text.length xc] := by rw [hT]
  rw [← hT, hTa]
  obtain ⟨ok1, hok1⟩ : ∃ b : Bool, b = decide (Head4 rune final params text) := ⟨_, rfl⟩
  obtain ⟨ok0, hok0⟩ : ∃ b : Bool, b = (ok1 && decide (MarkOk mark)) := ⟨_, rfl⟩
  obtain ⟨fb, hfb⟩ : ∃ b : Bool, b = firstM mark := ⟨_, rfl⟩
  obtain ⟨H, hH⟩ : ∃ H : List Int, H = csiH T := ⟨_, rfl⟩
  obtain ⟨box, hbox⟩ : ∃ box : Array Value, box = #[.int .i64 4, .int .i32 rune, .int .u8 mark, .int .u8 final, .slice P params.length pc, .slice X text.length xc] := ⟨_, rfl⟩
  have hHl : H.length ≤ 3 := by rw [hH]; unfold csiH; split <;> simp
  have HT := Lib.hid hT
  have HOK1 := Lib.hid hok1
  have HOK0 := Lib.hid hok0
  have HFB := Lib.hid hfb
  have HH := Lib.hid hH
  have HBOX := Lib.hid hbox
  clear hT hTa hok1 hok0 hfb hH hbox
  go_enter Tryd.func8, Tryd.ntmps8
  go_upto_region 22 with (fail)
  go_cut [6] from 177 to 201 (fun ok wx => ok = .bool ok1 ∧ Blk wx w.heap.size 25 box ∧ Below w.heap.size w wx)
  case first =>
    by_cases hr : rune = 0
    · have e0 : (rune == 0) = true := by simp [hr]
      have HR := Lib.hid hr
      clear hr
      go_wp2_with fail
      all_goals go_meet
      all_goals refine ⟨congrArg Value.bool ?_, by rw [HBOX.out]; exact blk3 _ _ _ _ _, below3 w _ _ _⟩
      all_goals first
        | (rw [HOK1.out]; exact decide_eq_decide.2 ⟨fun h => ⟨HR.out, by omega, by omega, by omega, h⟩, fun h => h.2.2.2.2⟩)
        | (rw [HOK1.out]; exact (decide_eq_false (fun h => by obtain ⟨h1, h2, h3, h4, h5⟩ := h; simp only [Bool.not_eq_true', bne_iff_ne, bne_eq_false_iff_eq, beq_iff_eq, beq_eq_false_iff_ne, ne_eq] at *; omega)).symm)
    · have e0 : (rune == 0) = false := by simp [hr]
      have HR := Lib.hid hr
      clear hr
      go_wp2_with fail
      go_meet
      exact ⟨by rw [HOK1.out]; exact congrArg Value.bool (decide_eq_false (fun h => HR.out h.1)).symm, by rw [HBOX.out]; exact blk3 _ _ _ _ _, below3 w _ _ _⟩
  case rest =>
    obtain ⟨rfl, hblk, hbw⟩ := hcut
    rename_i wc
    have y2 : wc.cell? ⟨w.heap.size, 2, none⟩ = some (.int .u8 mark) := by
      have h := hblk.cell 2
      rw [HBOX.out] at h
      exact h
    have HBLK := Lib.hid hblk
    have HBW := Lib.hid hbw
    clear hblk hbw
    go_upto_region 23 with (fail)
    go_cut [8] from 202 to 209 (fun fs wx => fs = .bool fb ∧ wx = wc)
    case first =>
      go_wp2_with fail
      all_goals go_meet
      all_goals refine ⟨congrArg Value.bool ?_, rfl⟩
      all_goals (rw [HFB.out]; unfold firstM; simp; try omega)
    case rest =>
      obtain ⟨rfl, rfl⟩ := hcut
      go_upto_region 24 with (fail)
      go_cut [6] from 210 to 228 (fun ok wx => ok = .bool ok0 ∧ wx = wc)
      case first =>
        by_cases hm0 : mark = 0
        · have e0 : (mark == 0) = true := by simp [hm0]
          cases ok1
          · have hv : ok0 = false := by rw [HOK0.out]; rfl
            have HV := Lib.hid hv
            clear hm0 hv
            go_wp2_with fail
            go_meet
            exact ⟨by rw [HV.out], rfl⟩
          · have hv : ok0 = true := by rw [HOK0.out]; simp [MarkOk, hm0]
            have HV := Lib.hid hv
            clear hm0 hv
            go_wp2_with fail
            go_meet
            exact ⟨by rw [HV.out], rfl⟩
        · have e0 : (mark == 0) = false := by simp [hm0]
          cases ok1
          · have hv : ok0 = false := by rw [HOK0.out]; rfl
            have HV := Lib.hid hv
            clear hm0 hv
            go_wp2_with fail
            go_meet
            exact ⟨by rw [HV.out], rfl⟩
          · cases fb
            · have hfm := HFB.out
              unfold firstM at hfm
              have hv : ok0 = (decide (32 ≤ mark) && decide (mark ≤ 47)) := by
                rw [HOK0.out, Bool.true_and, ← Bool.decide_and]
                refine decide_eq_decide.2 ⟨fun h => ?_, fun h => .inr (.inr h)⟩
                rcases h with h | h | h
                · exact absurd h hm0
                · simp at hfm; omega
                · exact h
              have HV := Lib.hid hv
              cases m1 : decide (32 ≤ mark)
              all_goals cases m2 : decide (mark ≤ 47)
              all_goals
                rw [m1, m2] at HV
                clear hm0 hv hfm
                go_wp2_with fail
                go_meet
                exact ⟨by rw [HV.out]; rfl, rfl⟩
            · have hfm := HFB.out
              unfold firstM at hfm
              have hv : ok0 = true := by
                rw [HOK0.out]
                simp at hfm
                simp [MarkOk, hfm]
              have HV := Lib.hid hv
              clear hm0 hv hfm
              go_wp2_with fail
              go_meet
              exact ⟨by rw [HV.out], rfl⟩
      case rest =>
        obtain ⟨rfl, rfl⟩ := hcut
        have hlit : Bld w (wc.alloc (.cells #[.int .u8 27, .int .u8 91] 5)) 5 .u8 (.slice (some ⟨wc.heap.size, 0, none⟩) 2 2) [27, 91] w.heap.size 25 box :=
          Bld.lit (w0 := w) HBLK.out HBW.out wc.heap.size 2 [27, 91] _ rfl rfl rfl (by simp [maxLen])
        have HLIT := Lib.hid hlit
        clear hlit
        go_upto_if 230 with (fail)
        go_cut [5] from 231 to 235 (fun b wx => ∃ A n c, b = .slice A n c ∧ n = H.length ∧ Bld w wx 5 .u8 (.slice A n c) H w.heap.size 25 box)
        case first =>
          cases fb
          · have hh : H = [27, 91] := by
              rw [HH.out, HT.out]
              unfold csiH
              simp only []
              rw [← HFB.out]
              rfl
            have hl2 := HLIT.out
            rw [← hh] at hl2
            have hl3 : 2 = H.length := by rw [hh]; rfl
            have HL2 := Lib.hid hl2
            have HL3 := Lib.hid hl3
            clear hh hl2 hl3
            go_wp2_with fail
            go_meet
            exact ⟨_, _, _, rfl, HL3.out, HL2.out⟩
          · have hh : H = [27, 91] ++ [mark] := by
              rw [HH.out, HT.out]
              unfold csiH
              simp only []
              rw [← HFB.out]
              rfl
            have HHH := Lib.hid hh
            have hlt : w.heap.size < wc.heap.size := HBLK.out.lt
            clear hh
            go_wp2_with (at_builtin; first
              | (refine wpList_bld1 _ rfl (.tmp 231) (.tmp 234) 23 5 .u8 1 rfl Tryd.underlying23 (by kernel_rfl) (by omega) HLIT.out rfl mark _ rfl (by simp) 3 rfl (by omega) ?_; intro A1 c1 w1 hb1 _; have HB1 := Lib.hid hb1; clear hb1))
            go_meet
            exact ⟨A1, 3, c1, rfl, by rw [HHH.out]; rfl, by rw [HHH.out]; exact HB1.out⟩
        case rest =>
          obtain ⟨A0, n0, c0, rfl, hn0, hb0⟩ := hcut
          have HN0 := Lib.hid hn0
          have HB0 := Lib.hid hb0
          clear hn0 hb0 y2
          go_wp2_with fail
          go_loopw [5, 6, 9] (fun b ok i wr => ∃ (k : Nat) (A : Option Addr) (n c : Nat) (zs : List Int), k ≤ params.length ∧ k ≤ 17 ∧ i = .int .i64 k ∧ ok = .bool (ok0 && goodB (params.take k)) ∧ b = .slice A n c ∧ n = zs.length ∧ n ≤ 3 + 5 * k ∧ Bld w wr 5 .u8 (.slice A n c) zs w.heap.size 25 box ∧ (goodB (params.take k) = true → zs = H ++ numsB (params.take k))) (fun _ _ i _ => 18 - (intOf i).toNat)
          case atStart => exact ⟨0, A0, n0, c0, H, Nat.zero_le _, by omega, rfl, by simp [goodB], rfl, HN0.out, by have := HN0.out; omega, HB0.out, fun _ => by rw [List.take_zero, numsB_nil, List.append_nil]⟩
          case round =>
            obtain ⟨k, A, n, c, zs, hk, hk17, rfl, rfl, rfl, hn, hnb, hb, hzs⟩ := hrel
            have y4 : wr.cell? ⟨w.heap.size, 4, none⟩ = some (.slice P params.length pc) := by
              have h := hb.blk.cell 4
              rw [HBOX.out] at h
              exact h
            have HB := Lib.hid hb
            have HN := Lib.hid hn
            have HZS := Lib.hid hzs
            have hn2 : n ≤ 88 := by omega
            clear hb hn hzs
            obtain ⟨cur, hcur⟩ : ∃ cur : Bool, cur = (ok0 && goodB (params.take k)) := ⟨_, rfl⟩
            rw [← hcur]
            have HCUR := Lib.hid hcur
            by_cases hlt : k < params.length ∧ k < 17
            · obtain ⟨h1, h2⟩ := hlt
              obtain ⟨g, o, rfl, hc⟩ := (HX.out.under HB.out.bel) (by rintro rfl; simp at h1)
              have hck := hc k h1
              have hxb := HPB.out (params.getD k 0) (by rw [List.getD_eq_getElem?_getD, List.getElem?_eq_getElem h1]; exact List.getElem_mem _)
              have hsn := goodB_snoc params k h1
              obtain ⟨x, hx⟩ : ∃ x, x = params.getD k 0 := ⟨_, rfl⟩
              rw [← hx] at hck hsn hxb
              obtain ⟨gx, hgx⟩ : ∃ gx : Bool, gx = (decide (0 ≤ x) && decide (x ≤ 9999)) := ⟨_, rfl⟩
              rw [← hgx] at hsn
              have hc2 : (ok0 && goodB (params.take (k + 1))) = (cur && gx) := by rw [hsn, hcur, Bool.and_assoc]
              have HC2 := Lib.hid hc2
              have hdl := decI_len x
              have hs0 := fun hk0 => nums_step0 H zs params k h1 x hx hk0 HZS.out
              have hs1 := fun hk0 => nums_step1 H zs params k h1 x hx hk0 HZS.out
              have HS0 := Lib.hid hs0
              have HS1 := Lib.hid hs1
              have i1 : decide (k < params.length) = true := decide_eq_true h1
              have i2 : decide ((k : Int) < 17) = true := decide_eq_true (by omega)
              clear hc hsn hx hc2 hcur hs0 hs1
              by_cases hk0 : k = 0
              · have t3 : decide (0 < k) = false := decide_eq_false (by omega)
                have HK0 := Lib.hid hk0
                clear hk0
                rcases (show (decide (0 ≤ x) = false ∧ gx = false) ∨ (decide (0 ≤ x) = true ∧ decide (x ≤ 9999) = false ∧ gx = false) ∨ (decide (0 ≤ x) = true ∧ decide (x ≤ 9999) = true ∧ gx = true) by
                  rw [hgx]
                  cases decide (0 ≤ x) <;> cases decide (x ≤ 9999) <;> simp) with ⟨x1, rfl⟩ | ⟨x1, x2, rfl⟩ | ⟨x1, x2, rfl⟩
                all_goals cases cur
                all_goals
                  clear hgx
                  go_wp2_with fail
                  refine (decimal_any x wr).mono ?_
                  rintro e w1 ⟨A1, c1, rfl, ho1, hb1⟩
                  have HO1 := Lib.hid ho1.read
                  have HB1 := Lib.hid (HB.out.under hb1)
                  clear ho1 hb1
                  go_wp2_with (at_builtin; first
                    | (refine wpList_bldR _ rfl (.tmp 266) (.tmp 268) 23 5 .u8 1 rfl Tryd.underlying23 (by kernel_rfl) (by omega) HB1.out rfl A1 c1 _ _ rfl HO1.out rfl (n + (decI x).length) (by have := HN.out; omega) (by omega) ?_; intro A2 c2 w2 hb2 _; have HB2 := Lib.hid hb2; clear hb2))
                  go_wp2_with fail
                  go_roundw
                  case rel => exact ⟨k + 1, A2, n + (decI x).length, c2, _, by omega, by omega, by go_num, by rw [HC2.out]; rfl, rfl, by rw [List.length_append, ← HN.out], by omega, HB2.out, HS0.out HK0.out⟩
                  case measure => simp [intOf]; omega
              · have t3 : decide (0 < k) = true := decide_eq_true (by omega)
                have hk1 : 0 < k := by omega
                clear hk0
                rcases (show (decide (0 ≤ x) = false ∧ gx = false) ∨ (decide (0 ≤ x) = true ∧ decide (x ≤ 9999) = false ∧ gx = false) ∨ (decide (0 ≤ x) = true ∧ decide (x ≤ 9999) = true ∧ gx = true) by
                  rw [hgx]
                  cases decide (0 ≤ x) <;> cases decide (x ≤ 9999) <;> simp) with ⟨x1, rfl⟩ | ⟨x1, x2, rfl⟩ | ⟨x1, x2, rfl⟩
                all_goals cases cur
                all_goals
                  clear hgx
                  go_wp2_with (at_builtin; first
                    | (refine wpList_bld1 _ rfl (.tmp 263) (.tmp 264) 23 5 .u8 1 rfl Tryd.underlying23 (by kernel_rfl) (by omega) HB.out rfl 59 _ rfl (by simp) (n + 1) (by have := HN.out; omega) (by omega) ?_; intro A3 c3 w3 hb3 _; have HB3 := Lib.hid hb3; clear hb3))
                  refine (decimal_any x w3).mono ?_
                  rintro e w1 ⟨A1, c1, rfl, ho1, hb1⟩
                  have HO1 := Lib.hid ho1.read
                  have HB1 := Lib.hid (HB3.out.under hb1)
                  clear ho1 hb1
                  go_wp2_with (at_builtin; first
                    | (refine wpList_bldR _ rfl (.tmp 266) (.tmp 268) 23 5 .u8 1 rfl Tryd.underlying23 (by kernel_rfl) (by omega) HB1.out rfl A1 c1 _ _ rfl HO1.out rfl (n + 1 + (decI x).length) (by have := HN.out; rw [List.length_append]; simp; omega) (by omega) ?_; intro A2 c2 w2 hb2 _; have HB2 := Lib.hid hb2; clear hb2))
                  go_wp2_with fail
                  go_roundw
                  case rel => exact ⟨k + 1, A2, n + 1 + (decI x).length, c2, _, by omega, by omega, by go_num, by rw [HC2.out]; rfl, rfl, by rw [List.length_append, List.length_append, ← HN.out]; rfl, by omega, HB2.out, HS1.out hk1⟩
                  case measure => simp [intOf]; omega
            · have hyes : cur = true → LayOk T ∧ zs = H ++ numsB params := fun h => by
                rw [hcur, Bool.and_eq_true, HOK0.out, Bool.and_eq_true, HOK1.out] at h
                obtain ⟨⟨h1, h2⟩, h3⟩ := h
                have h4 : Head4 rune final params text := of_decide_eq_true h1
                have h5 : MarkOk mark := of_decide_eq_true h2
                have h6 : k = params.length := by have := h4.2.2.1; omega
                have h7 := HZS.out h3
                rw [h6, List.take_length] at h3 h7
                refine ⟨?_, h7⟩
                rw [HT.out]
                exact (ok4_iff _ _ _ _ _).2 ⟨⟨h4.1, h4.2.1, h4.2.2.2.1, h4.2.2.2.2, h4.2.2.1, h5⟩, (goodB_iff _).1 h3⟩
              have hno : cur = false → ¬ LayOk T := fun h hok => by
                rw [HT.out] at hok
                obtain ⟨⟨a1, a2, a3, a4, a5, a6⟩, a7⟩ := (ok4_iff _ _ _ _ _).1 hok
                have h1 : ok0 = true := by
                  rw [HOK0.out, HOK1.out, decide_eq_true (show Head4 rune final params text from ⟨a1, a2, a5, a3, a4⟩), decide_eq_true (show MarkOk mark from a6)]
                  rfl
                have h2 : goodB (params.take k) = true := (goodB_iff _).2 (fun x hx => a7 x (List.mem_of_mem_take hx))
                rw [hcur, h1, h2] at h
                cases h
              have HYES := Lib.hid hyes
              have HNO := Lib.hid hno
              clear hyes hno hcur
              obtain ⟨mid, hmid⟩ : ∃ mid : List Int, mid = (if mark ≠ 0 ∧ fb = false then [mark] else []) := ⟨_, rfl⟩
              have hlay : layB T = H ++ numsB params ++ mid ++ [final] := by
                rw [hmid, HH.out, HFB.out, HT.out]
                unfold layB csiB
                simp
              have HLAY := Lib.hid hlay
              have y2 : wr.cell? ⟨w.heap.size, 2, none⟩ = some (.int .u8 mark) := by
                have h := HB.out.blk.cell 2
                rw [HBOX.out] at h
                exact h
              have y3 : wr.cell? ⟨w.heap.size, 3, none⟩ = some (.int .u8 final) := by
                have h := HB.out.blk.cell 3
                rw [HBOX.out] at h
                exact h
              clear hlay
              have hends : ∀ (w' : World) (A' : Option Addr) (n' c' : Nat) (zs' : List Int), Bld w w' 5 .u8 (.slice A' n' c') zs' w.heap.size 25 box → zs' = zs ++ mid ++ [final] → n' = zs'.length → cur = true → LayEnd w T (.returned (.tuple #[.slice A' n' c', .int .i64 0])) w' := fun w' A' n' c' zs' h1 h2 h3 h4 => by
                obtain ⟨h5, h6⟩ := HYES.out h4
                have h7 : layB T = zs' := by rw [HLAY.out, h2, h6]
                exact LayEnd.yes h5 (by rw [h7]; exact h3) (by rw [h7]; exact h1.read h3) h1.bel
              have HENDS := Lib.hid hends
              clear hends
              rcases (show (decide (k < params.length) = false) ∨ (decide (k < params.length) = true ∧ decide ((k : Int) < 17) = false) by
                by_cases h : k < params.length
                · exact .inr ⟨decide_eq_true h, decide_eq_false (by omega)⟩
                · exact .inl (decide_eq_false h)) with i1 | ⟨i1, i2⟩
              all_goals
                rcases (show ((mark != 0) = false ∧ mid = []) ∨ ((mark != 0) = true ∧ fb = true ∧ mid = []) ∨ ((mark != 0) = true ∧ fb = false ∧ mid = [mark]) by
                  rw [hmid]
                  by_cases h : mark = 0
                  · exact .inl ⟨by simp [h], by simp [h]⟩
                  · cases fb
                    · exact .inr (.inr ⟨by simp [h], rfl, by simp [h]⟩)
                    · exact .inr (.inl ⟨by simp [h], rfl, by simp⟩)) with ⟨m1, hm⟩ | ⟨m1, rfl, hm⟩ | ⟨m1, rfl, hm⟩
              all_goals have HM := Lib.hid hm
              all_goals clear hm hmid HYES
              all_goals cases cur
              all_goals first
                | (have hno := HNO.out rfl
                   have HNO2 := Lib.hid hno
                   clear hno HNO HENDS
                   go_wp2_with (at_builtin; first
                     | (refine wpList_bld1 _ rfl (.tmp 277) (.tmp 280) 23 5 .u8 1 rfl Tryd.underlying23 (by kernel_rfl) (by omega) HB.out rfl mark _ rfl (by simp) (n + 1) (by have := HN.out; omega) (by omega) ?_; intro A3 c3 w3 hb3 _; have HB3 := Lib.hid hb3; have y3' : w3.cell? ⟨w.heap.size, 3, none⟩ = some (.int .u8 final) := (by have h := hb3.blk.cell 3; rw [HBOX.out] at h; exact h); clear hb3)
                     | (refine wpList_bld1 _ rfl (.tmp 282) (.tmp 285) 23 5 .u8 1 rfl Tryd.underlying23 (by kernel_rfl) (by omega) HB3.out rfl final _ rfl (by simp) (n + 2) (by have := HN.out; simp; omega) (by omega) ?_; intro A4 c4 w4 hb4 _; have HB4 := Lib.hid hb4; clear hb4)
                     | (refine wpList_bld1 _ rfl (.tmp 282) (.tmp 285) 23 5 .u8 1 rfl Tryd.underlying23 (by kernel_rfl) (by omega) HB.out rfl final _ rfl (by simp) (n + 1) (by have := HN.out; omega) (by omega) ?_; intro A4 c4 w4 hb4 _; have HB4 := Lib.hid hb4; clear hb4))
                   go_ret2
                   exact LayEnd.no HNO2.out HB4.out.bel)
                | (have hy := fun a b c d e f g h => HENDS.out a b c d e f g h rfl
                   have HY := Lib.hid hy
                   clear hy HNO HENDS
                   go_wp2_with (at_builtin; first
                     | (refine wpList_bld1 _ rfl (.tmp 277) (.tmp 280) 23 5 .u8 1 rfl Tryd.underlying23 (by kernel_rfl) (by omega) HB.out rfl mark _ rfl (by simp) (n + 1) (by have := HN.out; omega) (by omega) ?_; intro A3 c3 w3 hb3 _; have HB3 := Lib.hid hb3; have y3' : w3.cell? ⟨w.heap.size, 3, none⟩ = some (.int .u8 final) := (by have h := hb3.blk.cell 3; rw [HBOX.out] at h; exact h); clear hb3)
                     | (refine wpList_bld1 _ rfl (.tmp 282) (.tmp 285) 23 5 .u8 1 rfl Tryd.underlying23 (by kernel_rfl) (by omega) HB3.out rfl final _ rfl (by simp) (n + 2) (by have := HN.out; simp; omega) (by omega) ?_; intro A4 c4 w4 hb4 _; have HB4 := Lib.hid hb4; clear hb4)
                     | (refine wpList_bld1 _ rfl (.tmp 282) (.tmp 285) 23 5 .u8 1 rfl Tryd.underlying23 (by kernel_rfl) (by omega) HB.out rfl final _ rfl (by simp) (n + 1) (by have := HN.out; omega) (by omega) ?_; intro A4 c4 w4 hb4 _; have HB4 := Lib.hid hb4; clear hb4))
                   go_ret2
                   exact HY.out _ _ _ _ _ HB4.out (by rw [HM.out]; try simp) (by have := HN.out; first | (simp; done) | (simp; omega)))
theorem rlay_any (t : TAct) (P X : Option Addr) (pc xc : Nat) (w : World) (hf : Fits t) (hx : ReadI w .i64 P t.params) (hy : ReadI w .u8 X t.text) :
    Calls Tryd.prog 8 #[actV t P X pc xc] w (LayEnd w t) := by
  by_cases h1 : t.kind = 1
  · exact rlay_1 t P X pc xc w h1 hf
  by_cases h2 : t.kind = 2
  · exact rlay_2 t P X pc xc w h2 hf
  by_cases h3 : t.kind = 3
  · exact rlay_3 t P X pc xc w h3 hf
  by_cases h4 : t.kind = 4
  · exact rlay_4 t P X pc xc w h4 hf hx
  by_cases h5 : t.kind = 5
  · exact rlay_5 t P X pc xc w h5 hf hy
  · exact rlay_x t P X pc xc w (by omega)
end Go.Proofs.YtijjnpegokfidaaDoor
