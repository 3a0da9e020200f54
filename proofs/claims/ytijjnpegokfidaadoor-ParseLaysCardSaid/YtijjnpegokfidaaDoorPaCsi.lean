/- parse.layCsi walked. -/
import Derived.Test.YtijjnpegokfidaaDoorPaCsi0
namespace Go.Proofs.YtijjnpegokfidaaDoor
open Go.RowKit
open Pa
set_option linter.unusedVariables false
set_option linter.unusedSimpArgs false

theorem layB_4a (f : Int) (p t : List Int) : layB ⟨4, 0, 0, f, p, t⟩ = [27, 91] ++ numsB p ++ [f] := by
  unfold layB csiB csiH firstM
  simp
theorem layB_4b (m f : Int) (p t : List Int) (h : 32 ≤ m ∧ m ≤ 47) : layB ⟨4, 0, m, f, p, t⟩ = [27, 91] ++ numsB p ++ [m] ++ [f] := by
  have h1 : firstM m = false := by unfold firstM; simp; omega
  have h2 : m ≠ 0 := by omega
  unfold layB csiB csiH
  simp [h1, h2]
theorem layB_4c (m f : Int) (p t : List Int) (h : 60 ≤ m ∧ m ≤ 63) : layB ⟨4, 0, m, f, p, t⟩ = [27, 91, m] ++ numsB p ++ [f] := by
  have h1 : firstM m = true := by unfold firstM; simp; omega
  unfold layB csiB csiH
  simp [h1]
set_option maxRecDepth 100000 in
set_option maxHeartbeats 2000000 in
theorem csi_a (final : Int) (params text : List Int) (P X : Option Addr) (pc xc : Nat) (w : World) (hP : Pow w) (hx : ReadI w .i64 P params) (h2 : ((text.length : Nat) : Int) = 0) (h3 : 64 ≤ final) (h4 : final ≤ 126) (h5 : ((params.length : Nat) : Int) ≤ 16) (hpb : ∀ n ∈ params, -9223372036854775808 ≤ n ∧ n ≤ 9223372036854775807) :
    Calls Tryd.prog 15 #[actV ⟨4, 0, 0, final, params, text⟩ P X pc xc] w (LayEnd w ⟨4, 0, 0, final, params, text⟩) := by
  have b0 : ((0 : Int) != 0) = false := by decide
  have b1 : decide (0 < text.length) = false := decide_eq_false (by omega)
  have b2 : decide ((16 : Int) < ((params.length : Nat) : Int)) = false := decide_eq_false (by omega)
  have b3 : decide (final < 64) = false := decide_eq_false (by omega)
  have b4 : decide (126 < final) = false := decide_eq_false (by omega)
  have m1 : decide ((60 : Int) ≤ 0) = false := decide_eq_false (by omega)
  have hpl : params.length ≤ 16 := by omega
  have HP := Lib.hid hP
  have HX := Lib.hid hx
  have HPB := Lib.hid hpb
  have H2 := Lib.hid h2
  have hbl : ∀ o : Obj, Below w.heap.size w (w.alloc o) := fun o => below_alloc (Below.refl _ _) o
  have HBL := Lib.hid hbl
  have hlit : Bld w ((w.alloc (.cells #[.int .i64 4, .int .i32 0, .int .u8 0, .int .u8 final, .slice P params.length pc, .slice X text.length xc] 25)).alloc (.cells #[.int .u8 27, .int .u8 91] 5)) 5 .u8 (.slice (some ⟨w.heap.size + 1, 0, none⟩) 2 2) [27, 91] w.heap.size 25 #[.int .i64 4, .int .i32 0, .int .u8 0, .int .u8 final, .slice P params.length pc, .slice X text.length xc] :=
    Bld.lit (w0 := w) (Blk.new _ _ _) (HBL.out _) (w.heap.size + 1) 2 [27, 91] _ (by simp) rfl rfl (by simp [maxLen])
  have HLIT := Lib.hid hlit
  clear hP hx hpb hbl hlit h2
  go_enter Tryd.func15, Tryd.ntmps15
  go_wp2_with fail
  go_loopw [5, 70] (fun b i wr => ∃ (k : Nat) (A : Option Addr) (n c : Nat), k ≤ params.length ∧ i = .int .i64 k ∧ b = .slice A n c ∧ n = ([27, 91] ++ numsB (params.take k)).length ∧ Bld w wr 5 .u8 (.slice A n c) ([27, 91] ++ numsB (params.take k)) w.heap.size 25 #[.int .i64 4, .int .i32 0, .int .u8 0, .int .u8 final, .slice P params.length pc, .slice X text.length xc] ∧ (∀ x ∈ params.take k, 0 ≤ x ∧ x ≤ 9999)) (fun _ i _ => params.length - (intOf i).toNat)
  case atStart => exact ⟨0, some ⟨w.heap.size + 1, 0, none⟩, 2, 2, Nat.zero_le _, rfl, rfl, rfl, HLIT.out, fun x hx => by simp at hx⟩
  case round =>
    obtain ⟨k, A, n, c, hk, rfl, rfl, hn, hb, hall⟩ := hrel
    have hnb := numsB_bd params k hpl hall
    have hn2 : n ≤ 83 := by rw [hn]; simp; omega
    have HN := Lib.hid hn
    have HB := Lib.hid hb
    have HALL := Lib.hid hall
    clear hn hb hall
    by_cases hlt : k < params.length
    · obtain ⟨g, o, rfl, hc⟩ := (HX.out.under HB.out.bel) (by rintro rfl; simp at hlt)
      have hck := hc k hlt
      have hxb := HPB.out (params.getD k 0) (by rw [List.getD_eq_getElem?_getD, List.getElem?_eq_getElem hlt]; exact List.getElem_mem _)
      have hmem : params.getD k 0 ∈ params := by rw [List.getD_eq_getElem?_getD, List.getElem?_eq_getElem hlt]; exact List.getElem_mem _
      have htk := take_snoc params k hlt
      obtain ⟨x, hx⟩ : ∃ x, x = params.getD k 0 := ⟨_, rfl⟩
      rw [← hx] at hck hxb hmem htk
      have HXX := Lib.hid hx
      have HMEM := Lib.hid hmem
      have HTK := Lib.hid htk
      have i1 : (k : Int) < (params.length : Int) := by omega
      clear hc hx hmem htk
      by_cases hgood : 0 ≤ x ∧ x ≤ 9999
      · obtain ⟨hg1, hg2⟩ := hgood
        have t1 : decide (x < 0) = false := decide_eq_false (by omega)
        have t2 : decide (9999 < x) = false := decide_eq_false (by omega)
        have hall2 : ∀ y ∈ params.take (k + 1), 0 ≤ y ∧ y ≤ 9999 := fun y hy => by
          rw [HTK.out] at hy
          rcases List.mem_append.1 hy with hy | hy
          · exact HALL.out y hy
          · rw [List.mem_singleton.1 hy]; exact ⟨hg1, hg2⟩
        have hdl := dec_len x.toNat (by omega)
        have HALL2 := Lib.hid hall2
        clear hall2
        by_cases hk0 : k = 0
        · subst hk0
          have hck0 : wr.cell? ⟨g, o, none⟩ = some (.int .i64 x) := hck
          have i0 : decide (0 < params.length) = true := decide_eq_true hlt
          clear hck
          have t3 : decide (((0 : Nat) : Int) > 0) = false := by decide
          have hnb0 : numsB (params.take (0 + 1)) = dec x.toNat := by rw [numsB_take0 params hlt, ← HXX.out]
          have HNB := Lib.hid hnb0
          have hb0 := HB.out
          rw [List.take_zero, numsB_nil, List.append_nil] at hb0
          have hn0 := HN.out
          rw [List.take_zero, numsB_nil, List.append_nil] at hn0
          have HB0 := Lib.hid hb0
          have HN0 := Lib.hid hn0
          clear hnb0 hb0 hn0
          go_wp2_with fail
          refine (appInt_any w wr _ _ _ _ _ HB0.out (by decide) HP.out x hg1 hg2 (by simp)).mono ?_
          rintro e w2 ⟨A2, c2, rfl, hb2⟩
          have HB2 := Lib.hid hb2
          clear hb2
          go_wp2_with fail
          go_roundw
          case rel => exact ⟨0 + 1, A2, 2 + (dec x.toNat).length, c2, by omega, by go_num, rfl, by rw [HNB.out]; simp; omega, by rw [HNB.out]; exact HB2.out, HALL2.out⟩
          case measure => simp [intOf]; omega
        · have t3 : decide ((0 : Int) < (k : Int)) = true := decide_eq_true (by omega)
          have hnbk : [27, 91] ++ numsB (params.take (k + 1)) = ([27, 91] ++ numsB (params.take k) ++ [59]) ++ dec x.toNat := by
            rw [numsB_take params k hlt (by omega), ← HXX.out]
            simp
          have HNB := Lib.hid hnbk
          clear hnbk
          go_wp2_with (at_builtin; first
            | (refine wpList_bld1 _ rfl (.tmp 83) (.tmp 84) 23 5 .u8 1 rfl Tryd.underlying23 (by kernel_rfl) (by omega) HB.out rfl 59 _ rfl (by simp) (n + 1) (by have := HN.out; omega) (by omega) ?_; intro A3 c3 w3 hb3 _; have HB3 := Lib.hid hb3; clear hb3))
          have hz : ([27, 91] ++ numsB (params.take k) ++ [59]).length = n + 1 := by rw [List.length_append, ← HN.out]; rfl
          refine (appInt_any w w3 _ _ _ _ _ HB3.out (by decide) HP.out x hg1 hg2 (by rw [hz]; omega)).mono ?_
          rw [hz]
          have HZ := Lib.hid hz
          clear hz
          rintro e w2 ⟨A2, c2, rfl, hb2⟩
          have HB2 := Lib.hid hb2
          clear hb2
          go_wp2_with fail
          go_roundw
          case rel => exact ⟨k + 1, A2, n + 1 + (dec x.toNat).length, c2, by omega, by go_num, rfl, by rw [HNB.out, List.length_append, HZ.out], by rw [HNB.out]; exact HB2.out, HALL2.out⟩
          case measure => simp [intOf]; omega
      · have hno : ¬ LayOk ⟨4, 0, 0, final, params, text⟩ := fun h => hgood (((ok4_iff _ _ _ _ _).1 h).2 x HMEM.out)
        have HNO := Lib.hid hno
        clear hno
        by_cases hneg : x < 0
        · have t1 : decide (x < 0) = true := decide_eq_true hneg
          clear hgood
          go_wp2_with fail
          go_ret2
          exact LayEnd.no HNO.out HB.out.bel
        · have t1 : decide (x < 0) = false := decide_eq_false hneg
          have t2 : decide (9999 < x) = true := decide_eq_true (by omega)
          clear hgood
          go_wp2_with fail
          go_ret2
          exact LayEnd.no HNO.out HB.out.bel
    · obtain rfl : k = params.length := by omega
      rw [List.take_length] at HB HALL HN
      have hyes : LayOk ⟨4, 0, 0, final, params, text⟩ := (ok4_iff _ _ _ _ _).2 ⟨⟨rfl, H2.out, h3, h4, h5, by omega⟩, HALL.out⟩
      have HYES := Lib.hid hyes
      have y2 : wr.cell? ⟨w.heap.size, 2, none⟩ = some (.int .u8 0) := HB.out.blk.cell 2
      have y3 : wr.cell? ⟨w.heap.size, 3, none⟩ = some (.int .u8 final) := HB.out.blk.cell 3
      clear hyes
      go_wp2_with (at_builtin; first
        | (refine wpList_bld1 _ rfl (.tmp 102) (.tmp 105) 23 5 .u8 1 rfl Tryd.underlying23 (by kernel_rfl) (by omega) HB.out rfl final _ rfl (by simp) (n + 1) (by have := HN.out; omega) (by omega) ?_; intro A4 c4 w4 hb4 _; have HB4 := Lib.hid hb4; clear hb4))
      go_ret2
      have hlay : layB ⟨4, 0, 0, final, params, text⟩ = [27, 91] ++ numsB params ++ [final] := layB_4a _ _ _
      exact LayEnd.yes HYES.out (by rw [hlay]; have := HN.out; simp only [List.length_append, List.length_cons, List.length_nil] at this ⊢; omega) (by rw [hlay]; exact HB4.out.read (by have := HN.out; simp only [List.length_append, List.length_cons, List.length_nil] at this ⊢; omega)) HB4.out.bel
set_option maxRecDepth 100000 in
set_option maxHeartbeats 2000000 in
theorem csi_b (mark final : Int) (params text : List Int) (P X : Option Addr) (pc xc : Nat) (w : World) (hP : Pow w) (hx : ReadI w .i64 P params) (hm : 32 ≤ mark ∧ mark ≤ 47) (h2 : ((text.length : Nat) : Int) = 0) (h3 : 64 ≤ final) (h4 : final ≤ 126) (h5 : ((params.length : Nat) : Int) ≤ 16) (hpb : ∀ n ∈ params, -9223372036854775808 ≤ n ∧ n ≤ 9223372036854775807) :
    Calls Tryd.prog 15 #[actV ⟨4, 0, mark, final, params, text⟩ P X pc xc] w (LayEnd w ⟨4, 0, mark, final, params, text⟩) := by
  have b0 : ((0 : Int) != 0) = false := by decide
  have b1 : decide (0 < text.length) = false := decide_eq_false (by omega)
  have b2 : decide ((16 : Int) < ((params.length : Nat) : Int)) = false := decide_eq_false (by omega)
  have b3 : decide (final < 64) = false := decide_eq_false (by omega)
  have b4 : decide (126 < final) = false := decide_eq_false (by omega)
  have m0 : (mark != 0) = true := by rw [bne_iff_ne]; omega
  have m1 : decide (60 ≤ mark) = false := decide_eq_false (by omega)
  have m2 : decide (mark < 32) = false := decide_eq_false (by omega)
  have m3 : decide (48 ≤ mark) = false := decide_eq_false (by omega)
  have hpl : params.length ≤ 16 := by omega
  have HP := Lib.hid hP
  have HX := Lib.hid hx
  have HPB := Lib.hid hpb
  have H2 := Lib.hid h2
  have hbl : ∀ o : Obj, Below w.heap.size w (w.alloc o) := fun o => below_alloc (Below.refl _ _) o
  have HBL := Lib.hid hbl
  have hlit : Bld w ((w.alloc (.cells #[.int .i64 4, .int .i32 0, .int .u8 mark, .int .u8 final, .slice P params.length pc, .slice X text.length xc] 25)).alloc (.cells #[.int .u8 27, .int .u8 91] 5)) 5 .u8 (.slice (some ⟨w.heap.size + 1, 0, none⟩) 2 2) [27, 91] w.heap.size 25 #[.int .i64 4, .int .i32 0, .int .u8 mark, .int .u8 final, .slice P params.length pc, .slice X text.length xc] :=
    Bld.lit (w0 := w) (Blk.new _ _ _) (HBL.out _) (w.heap.size + 1) 2 [27, 91] _ (by simp) rfl rfl (by simp [maxLen])
  have HLIT := Lib.hid hlit
  clear hP hx hpb hbl hlit h2
  go_enter Tryd.func15, Tryd.ntmps15
  go_wp2_with fail
  go_loopw [5, 70] (fun b i wr => ∃ (k : Nat) (A : Option Addr) (n c : Nat), k ≤ params.length ∧ i = .int .i64 k ∧ b = .slice A n c ∧ n = ([27, 91] ++ numsB (params.take k)).length ∧ Bld w wr 5 .u8 (.slice A n c) ([27, 91] ++ numsB (params.take k)) w.heap.size 25 #[.int .i64 4, .int .i32 0, .int .u8 mark, .int .u8 final, .slice P params.length pc, .slice X text.length xc] ∧ (∀ x ∈ params.take k, 0 ≤ x ∧ x ≤ 9999)) (fun _ i _ => params.length - (intOf i).toNat)
  case atStart => exact ⟨0, some ⟨w.heap.size + 1, 0, none⟩, 2, 2, Nat.zero_le _, rfl, rfl, rfl, HLIT.out, fun x hx => by simp at hx⟩
  case round =>
    obtain ⟨k, A, n, c, hk, rfl, rfl, hn, hb, hall⟩ := hrel
    have hnb := numsB_bd params k hpl hall
    have hn2 : n ≤ 83 := by rw [hn]; simp; omega
    have HN := Lib.hid hn
    have HB := Lib.hid hb
    have HALL := Lib.hid hall
    clear hn hb hall
    by_cases hlt : k < params.length
    · obtain ⟨g, o, rfl, hc⟩ := (HX.out.under HB.out.bel) (by rintro rfl; simp at hlt)
      have hck := hc k hlt
      have hxb := HPB.out (params.getD k 0) (by rw [List.getD_eq_getElem?_getD, List.getElem?_eq_getElem hlt]; exact List.getElem_mem _)
      have hmem : params.getD k 0 ∈ params := by rw [List.getD_eq_getElem?_getD, List.getElem?_eq_getElem hlt]; exact List.getElem_mem _
      have htk := take_snoc params k hlt
      obtain ⟨x, hx⟩ : ∃ x, x = params.getD k 0 := ⟨_, rfl⟩
      rw [← hx] at hck hxb hmem htk
      have HXX := Lib.hid hx
      have HMEM := Lib.hid hmem
      have HTK := Lib.hid htk
      have i1 : (k : Int) < (params.length : Int) := by omega
      clear hc hx hmem htk
      by_cases hgood : 0 ≤ x ∧ x ≤ 9999
      · obtain ⟨hg1, hg2⟩ := hgood
        have t1 : decide (x < 0) = false := decide_eq_false (by omega)
        have t2 : decide (9999 < x) = false := decide_eq_false (by omega)
        have hall2 : ∀ y ∈ params.take (k + 1), 0 ≤ y ∧ y ≤ 9999 := fun y hy => by
          rw [HTK.out] at hy
          rcases List.mem_append.1 hy with hy | hy
          · exact HALL.out y hy
          · rw [List.mem_singleton.1 hy]; exact ⟨hg1, hg2⟩
        have hdl := dec_len x.toNat (by omega)
        have HALL2 := Lib.hid hall2
        clear hall2
        by_cases hk0 : k = 0
        · subst hk0
          have hck0 : wr.cell? ⟨g, o, none⟩ = some (.int .i64 x) := hck
          have i0 : decide (0 < params.length) = true := decide_eq_true hlt
          clear hck
          have t3 : decide (((0 : Nat) : Int) > 0) = false := by decide
          have hnb0 : numsB (params.take (0 + 1)) = dec x.toNat := by rw [numsB_take0 params hlt, ← HXX.out]
          have HNB := Lib.hid hnb0
          have hb0 := HB.out
          rw [List.take_zero, numsB_nil, List.append_nil] at hb0
          have hn0 := HN.out
          rw [List.take_zero, numsB_nil, List.append_nil] at hn0
          have HB0 := Lib.hid hb0
          have HN0 := Lib.hid hn0
          clear hnb0 hb0 hn0
          go_wp2_with fail
          refine (appInt_any w wr _ _ _ _ _ HB0.out (by decide) HP.out x hg1 hg2 (by simp)).mono ?_
          rintro e w2 ⟨A2, c2, rfl, hb2⟩
          have HB2 := Lib.hid hb2
          clear hb2
          go_wp2_with fail
          go_roundw
          case rel => exact ⟨0 + 1, A2, 2 + (dec x.toNat).length, c2, by omega, by go_num, rfl, by rw [HNB.out]; simp; omega, by rw [HNB.out]; exact HB2.out, HALL2.out⟩
          case measure => simp [intOf]; omega
        · have t3 : decide ((0 : Int) < (k : Int)) = true := decide_eq_true (by omega)
          have hnbk : [27, 91] ++ numsB (params.take (k + 1)) = ([27, 91] ++ numsB (params.take k) ++ [59]) ++ dec x.toNat := by
            rw [numsB_take params k hlt (by omega), ← HXX.out]
            simp
          have HNB := Lib.hid hnbk
          clear hnbk
          go_wp2_with (at_builtin; first
            | (refine wpList_bld1 _ rfl (.tmp 83) (.tmp 84) 23 5 .u8 1 rfl Tryd.underlying23 (by kernel_rfl) (by omega) HB.out rfl 59 _ rfl (by simp) (n + 1) (by have := HN.out; omega) (by omega) ?_; intro A3 c3 w3 hb3 _; have HB3 := Lib.hid hb3; clear hb3))
          have hz : ([27, 91] ++ numsB (params.take k) ++ [59]).length = n + 1 := by rw [List.length_append, ← HN.out]; rfl
          refine (appInt_any w w3 _ _ _ _ _ HB3.out (by decide) HP.out x hg1 hg2 (by rw [hz]; omega)).mono ?_
          rw [hz]
          have HZ := Lib.hid hz
          clear hz
          rintro e w2 ⟨A2, c2, rfl, hb2⟩
          have HB2 := Lib.hid hb2
          clear hb2
          go_wp2_with fail
          go_roundw
          case rel => exact ⟨k + 1, A2, n + 1 + (dec x.toNat).length, c2, by omega, by go_num, rfl, by rw [HNB.out, List.length_append, HZ.out], by rw [HNB.out]; exact HB2.out, HALL2.out⟩
          case measure => simp [intOf]; omega
      · have hno : ¬ LayOk ⟨4, 0, mark, final, params, text⟩ := fun h => hgood (((ok4_iff _ _ _ _ _).1 h).2 x HMEM.out)
        have HNO := Lib.hid hno
        clear hno
        by_cases hneg : x < 0
        · have t1 : decide (x < 0) = true := decide_eq_true hneg
          clear hgood
          go_wp2_with fail
          go_ret2
          exact LayEnd.no HNO.out HB.out.bel
        · have t1 : decide (x < 0) = false := decide_eq_false hneg
          have t2 : decide (9999 < x) = true := decide_eq_true (by omega)
          clear hgood
          go_wp2_with fail
          go_ret2
          exact LayEnd.no HNO.out HB.out.bel
    · obtain rfl : k = params.length := by omega
      rw [List.take_length] at HB HALL HN
      have hyes : LayOk ⟨4, 0, mark, final, params, text⟩ := (ok4_iff _ _ _ _ _).2 ⟨⟨rfl, H2.out, h3, h4, h5, by omega⟩, HALL.out⟩
      have HYES := Lib.hid hyes
      have y2 : wr.cell? ⟨w.heap.size, 2, none⟩ = some (.int .u8 mark) := HB.out.blk.cell 2
      have y3 : wr.cell? ⟨w.heap.size, 3, none⟩ = some (.int .u8 final) := HB.out.blk.cell 3
      clear hyes
      go_wp2_with (at_builtin; first
        | (refine wpList_bld1 _ rfl (.tmp 97) (.tmp 100) 23 5 .u8 1 rfl Tryd.underlying23 (by kernel_rfl) (by omega) HB.out rfl mark _ rfl (by simp) (n + 1) (by have := HN.out; omega) (by omega) ?_; intro A3 c3 w3 hb3 _; have HB3 := Lib.hid hb3; have y3' : w3.cell? ⟨w.heap.size, 3, none⟩ = some (.int .u8 final) := hb3.blk.cell 3; clear hb3)
        | (refine wpList_bld1 _ rfl (.tmp 102) (.tmp 105) 23 5 .u8 1 rfl Tryd.underlying23 (by kernel_rfl) (by omega) HB3.out rfl final _ rfl (by simp) (n + 2) (by have := HN.out; simp only [List.length_append, List.length_cons, List.length_nil] at this ⊢; omega) (by omega) ?_; intro A4 c4 w4 hb4 _; have HB4 := Lib.hid hb4; clear hb4))
      go_ret2
      have hlay : layB ⟨4, 0, mark, final, params, text⟩ = [27, 91] ++ numsB params ++ [mark] ++ [final] := layB_4b _ _ _ _ hm
      exact LayEnd.yes HYES.out (by rw [hlay]; have := HN.out; simp only [List.length_append, List.length_cons, List.length_nil] at this ⊢; omega) (by rw [hlay]; exact HB4.out.read (by have := HN.out; simp only [List.length_append, List.length_cons, List.length_nil] at this ⊢; omega)) HB4.out.bel
set_option maxRecDepth 100000 in
set_option maxHeartbeats 2000000 in
theorem csi_c (mark final : Int) (params text : List Int) (P X : Option Addr) (pc xc : Nat) (w : World) (hP : Pow w) (hx : ReadI w .i64 P params) (hm : 60 ≤ mark ∧ mark ≤ 63) (h2 : ((text.length : Nat) : Int) = 0) (h3 : 64 ≤ final) (h4 : final ≤ 126) (h5 : ((params.length : Nat) : Int) ≤ 16) (hpb : ∀ n ∈ params, -9223372036854775808 ≤ n ∧ n ≤ 9223372036854775807) :
    Calls Tryd.prog 15 #[actV ⟨4, 0, mark, final, params, text⟩ P X pc xc] w (LayEnd w ⟨4, 0, mark, final, params, text⟩) := by
  have b0 : ((0 : Int) != 0) = false := by decide
  have b1 : decide (0 < text.length) = false := decide_eq_false (by omega)
  have b2 : decide ((16 : Int) < ((params.length : Nat) : Int)) = false := decide_eq_false (by omega)
  have b3 : decide (final < 64) = false := decide_eq_false (by omega)
  have b4 : decide (126 < final) = false := decide_eq_false (by omega)
  have m0 : (mark != 0) = true := by rw [bne_iff_ne]; omega
  have m1 : decide (60 ≤ mark) = true := decide_eq_true (by omega)
  have m2 : decide (mark ≤ 63) = true := decide_eq_true (by omega)
  have hpl : params.length ≤ 16 := by omega
  have HP := Lib.hid hP
  have HX := Lib.hid hx
  have HPB := Lib.hid hpb
  have H2 := Lib.hid h2
  have hbl : ∀ o : Obj, Below w.heap.size w (w.alloc o) := fun o => below_alloc (Below.refl _ _) o
  have HBL := Lib.hid hbl
  have hlit : Bld w ((w.alloc (.cells #[.int .i64 4, .int .i32 0, .int .u8 mark, .int .u8 final, .slice P params.length pc, .slice X text.length xc] 25)).alloc (.cells #[.int .u8 27, .int .u8 91] 5)) 5 .u8 (.slice (some ⟨w.heap.size + 1, 0, none⟩) 2 2) [27, 91] w.heap.size 25 #[.int .i64 4, .int .i32 0, .int .u8 mark, .int .u8 final, .slice P params.length pc, .slice X text.length xc] :=
    Bld.lit (w0 := w) (Blk.new _ _ _) (HBL.out _) (w.heap.size + 1) 2 [27, 91] _ (by simp) rfl rfl (by simp [maxLen])
  have HLIT := Lib.hid hlit
  clear hP hx hpb hbl hlit h2
  go_enter Tryd.func15, Tryd.ntmps15
  go_wp2_with (at_builtin; first
    | (refine wpList_bld1 _ rfl (.tmp 62) (.tmp 65) 23 5 .u8 1 rfl Tryd.underlying23 (by kernel_rfl) (by omega) HLIT.out rfl mark _ rfl (by simp) 3 (by first | omega | (simp; done) | (simp; omega)) (by omega) ?_; intro A1 c1 w1 hb1 _; have HB1 := Lib.hid hb1; have y4 : w1.cell? ⟨w.heap.size, 4, none⟩ = some (.slice P params.length pc) := hb1.blk.cell 4; clear hb1))
  go_loopw [5, 70] (fun b i wr => ∃ (k : Nat) (A : Option Addr) (n c : Nat), k ≤ params.length ∧ i = .int .i64 k ∧ b = .slice A n c ∧ n = ([27, 91, mark] ++ numsB (params.take k)).length ∧ Bld w wr 5 .u8 (.slice A n c) ([27, 91, mark] ++ numsB (params.take k)) w.heap.size 25 #[.int .i64 4, .int .i32 0, .int .u8 mark, .int .u8 final, .slice P params.length pc, .slice X text.length xc] ∧ (∀ x ∈ params.take k, 0 ≤ x ∧ x ≤ 9999)) (fun _ i _ => params.length - (intOf i).toNat)
  case atStart => exact ⟨0, A1, 3, c1, Nat.zero_le _, rfl, rfl, rfl, HB1.out, fun x hx => by simp at hx⟩
  case round =>
    obtain ⟨k, A, n, c, hk, rfl, rfl, hn, hb, hall⟩ := hrel
    have hnb := numsB_bd params k hpl hall
    have hn2 : n ≤ 83 := by rw [hn]; simp; omega
    have HN := Lib.hid hn
    have HB := Lib.hid hb
    have HALL := Lib.hid hall
    clear hn hb hall
    by_cases hlt : k < params.length
    · obtain ⟨g, o, rfl, hc⟩ := (HX.out.under HB.out.bel) (by rintro rfl; simp at hlt)
      have hck := hc k hlt
      have hxb := HPB.out (params.getD k 0) (by rw [List.getD_eq_getElem?_getD, List.getElem?_eq_getElem hlt]; exact List.getElem_mem _)
      have hmem : params.getD k 0 ∈ params := by rw [List.getD_eq_getElem?_getD, List.getElem?_eq_getElem hlt]; exact List.getElem_mem _
      have htk := take_snoc params k hlt
      obtain ⟨x, hx⟩ : ∃ x, x = params.getD k 0 := ⟨_, rfl⟩
      rw [← hx] at hck hxb hmem htk
      have HXX := Lib.hid hx
      have HMEM := Lib.hid hmem
      have HTK := Lib.hid htk
      have i1 : (k : Int) < (params.length : Int) := by omega
      clear hc hx hmem htk
      by_cases hgood : 0 ≤ x ∧ x ≤ 9999
      · obtain ⟨hg1, hg2⟩ := hgood
        have t1 : decide (x < 0) = false := decide_eq_false (by omega)
        have t2 : decide (9999 < x) = false := decide_eq_false (by omega)
        have hall2 : ∀ y ∈ params.take (k + 1), 0 ≤ y ∧ y ≤ 9999 := fun y hy => by
          rw [HTK.out] at hy
          rcases List.mem_append.1 hy with hy | hy
          · exact HALL.out y hy
          · rw [List.mem_singleton.1 hy]; exact ⟨hg1, hg2⟩
        have hdl := dec_len x.toNat (by omega)
        have HALL2 := Lib.hid hall2
        clear hall2
        by_cases hk0 : k = 0
        · subst hk0
          have hck0 : wr.cell? ⟨g, o, none⟩ = some (.int .i64 x) := hck
          have i0 : decide (0 < params.length) = true := decide_eq_true hlt
          clear hck
          have t3 : decide (((0 : Nat) : Int) > 0) = false := by decide
          have hnb0 : numsB (params.take (0 + 1)) = dec x.toNat := by rw [numsB_take0 params hlt, ← HXX.out]
          have HNB := Lib.hid hnb0
          have hb0 := HB.out
          rw [List.take_zero, numsB_nil, List.append_nil] at hb0
          have hn0 := HN.out
          rw [List.take_zero, numsB_nil, List.append_nil] at hn0
          have HB0 := Lib.hid hb0
          have HN0 := Lib.hid hn0
          clear hnb0 hb0 hn0
          go_wp2_with fail
          refine (appInt_any w wr _ _ _ _ _ HB0.out (by decide) HP.out x hg1 hg2 (by simp)).mono ?_
          rintro e w2 ⟨A2, c2, rfl, hb2⟩
          have HB2 := Lib.hid hb2
          clear hb2
          go_wp2_with fail
          go_roundw
          case rel => exact ⟨0 + 1, A2, 3 + (dec x.toNat).length, c2, by omega, by go_num, rfl, by rw [HNB.out]; simp; omega, by rw [HNB.out]; exact HB2.out, HALL2.out⟩
          case measure => simp [intOf]; omega
        · have t3 : decide ((0 : Int) < (k : Int)) = true := decide_eq_true (by omega)
          have hnbk : [27, 91, mark] ++ numsB (params.take (k + 1)) = ([27, 91, mark] ++ numsB (params.take k) ++ [59]) ++ dec x.toNat := by
            rw [numsB_take params k hlt (by omega), ← HXX.out]
            simp
          have HNB := Lib.hid hnbk
          clear hnbk
          go_wp2_with (at_builtin; first
            | (refine wpList_bld1 _ rfl (.tmp 83) (.tmp 84) 23 5 .u8 1 rfl Tryd.underlying23 (by kernel_rfl) (by omega) HB.out rfl 59 _ rfl (by simp) (n + 1) (by have := HN.out; omega) (by omega) ?_; intro A3 c3 w3 hb3 _; have HB3 := Lib.hid hb3; clear hb3))
          have hz : ([27, 91, mark] ++ numsB (params.take k) ++ [59]).length = n + 1 := by rw [List.length_append, ← HN.out]; rfl
          refine (appInt_any w w3 _ _ _ _ _ HB3.out (by decide) HP.out x hg1 hg2 (by rw [hz]; omega)).mono ?_
          rw [hz]
          have HZ := Lib.hid hz
          clear hz
          rintro e w2 ⟨A2, c2, rfl, hb2⟩
          have HB2 := Lib.hid hb2
          clear hb2
          go_wp2_with fail
          go_roundw
          case rel => exact ⟨k + 1, A2, n + 1 + (dec x.toNat).length, c2, by omega, by go_num, rfl, by rw [HNB.out, List.length_append, HZ.out], by rw [HNB.out]; exact HB2.out, HALL2.out⟩
          case measure => simp [intOf]; omega
      · have hno : ¬ LayOk ⟨4, 0, mark, final, params, text⟩ := fun h => hgood (((ok4_iff _ _ _ _ _).1 h).2 x HMEM.out)
        have HNO := Lib.hid hno
        clear hno
        by_cases hneg : x < 0
        · have t1 : decide (x < 0) = true := decide_eq_true hneg
          clear hgood
          go_wp2_with fail
          go_ret2
          exact LayEnd.no HNO.out HB.out.bel
        · have t1 : decide (x < 0) = false := decide_eq_false hneg
          have t2 : decide (9999 < x) = true := decide_eq_true (by omega)
          clear hgood
          go_wp2_with fail
          go_ret2
          exact LayEnd.no HNO.out HB.out.bel
    · obtain rfl : k = params.length := by omega
      rw [List.take_length] at HB HALL HN
      have hyes : LayOk ⟨4, 0, mark, final, params, text⟩ := (ok4_iff _ _ _ _ _).2 ⟨⟨rfl, H2.out, h3, h4, h5, by omega⟩, HALL.out⟩
      have HYES := Lib.hid hyes
      have y2 : wr.cell? ⟨w.heap.size, 2, none⟩ = some (.int .u8 mark) := HB.out.blk.cell 2
      have y3 : wr.cell? ⟨w.heap.size, 3, none⟩ = some (.int .u8 final) := HB.out.blk.cell 3
      clear hyes
      go_wp2_with (at_builtin; first
        | (refine wpList_bld1 _ rfl (.tmp 102) (.tmp 105) 23 5 .u8 1 rfl Tryd.underlying23 (by kernel_rfl) (by omega) HB.out rfl final _ rfl (by simp) (n + 1) (by have := HN.out; omega) (by omega) ?_; intro A4 c4 w4 hb4 _; have HB4 := Lib.hid hb4; clear hb4))
      go_ret2
      have hlay : layB ⟨4, 0, mark, final, params, text⟩ = [27, 91, mark] ++ numsB params ++ [final] := layB_4c _ _ _ _ hm
      exact LayEnd.yes HYES.out (by rw [hlay]; have := HN.out; simp only [List.length_append, List.length_cons, List.length_nil] at this ⊢; omega) (by rw [hlay]; exact HB4.out.read (by have := HN.out; simp only [List.length_append, List.length_cons, List.length_nil] at this ⊢; omega)) HB4.out.bel
end Go.Proofs.YtijjnpegokfidaaDoor
