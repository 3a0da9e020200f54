/- The walk of the law FragSplits. -/
import Derived.Test.YtpoobdccmaiaiaaFrFixed
import Derived.Test.YtpoobdccmaiaiaaU8s
import Derived.Deep.DeepCutAuto
namespace Go.Proofs.Ytpoobdccmaiaiaa
open Go.RowKit
open Frag
set_option linter.unusedVariables false
set_option linter.unusedSimpArgs false

namespace Frag
theorem parts_len (id : Int) (b : List Int) (n m : Nat) : (parts id b n m).length = m := by simp [parts]
theorem parts_small (id : Int) (b : List Int) (n m : Nat) : ∀ t ∈ parts id b n m, t.bs.length ≤ 448 := by
  intro t ht
  simp [parts] at ht
  obtain ⟨i, _, rfl⟩ := ht
  simp [chunk]
  omega
end Frag
/-- The parts' row as it was laid, and their bytes to be written. -/
structure PartsW (w : World) (base : Nat) (A : Option Addr) (n c : Nat) (L : List (PV × Value)) : Prop where
  row : OwnR w base 34 4 (.slice A n c) L.length (L.flatMap cells)
  ints : ∀ q ∈ L, ∃ B c', q.2 = .slice B q.1.bs.length c' ∧ Ints w base .u8 B q.1.bs.length
  apart : ∀ q ∈ L, Apart (.slice A n c) q.2
theorem Parts.writable {w : World} {base n c : Nat} {A : Option Addr} {L : List (PV × Value)} (h : Parts w base (.slice A n c) L) : PartsW w base A n c L :=
  ⟨h.row, fun q hq => by
    have ho := h.own q hq
    obtain ⟨B, c', e, _⟩ := ho.form
    refine ⟨B, c', e, ?_⟩
    rw [e] at ho
    exact ho.ints rfl, h.apart⟩
theorem PartsW.set_ {w : World} {base n c : Nat} {A : Option Addr} {L : List (PV × Value)} (h : PartsW w base A n c L) (q : PV × Value) (hq : q ∈ L) (g o n' c' : Nat) (hv : q.2 = .slice (some ⟨g, o, none⟩) n' c') (j : Nat) (y : Int) : PartsW (w.setCell ⟨g, j, none⟩ (.int .u8 y)) base A n c L := by
  refine ⟨OwnR.only h.row (row := some g) (only_setCell (only_refl w (some g)) (.inl rfl) _) ?_, fun p hp => ?_, h.apart⟩
  · have := (h.apart q hq).l
    rw [hv] at this
    simpa [Value.ownBlock] using this
  · obtain ⟨B, c2, e, hi⟩ := h.ints p hp
    exact ⟨B, c2, e, hi.set_ _ _⟩

theorem PartsW.under {w w' : World} {base n c : Nat} {A : Option Addr} {L : List (PV × Value)} (h : PartsW w base A n c L) (hb : Below w.heap.size w w') : PartsW w' base A n c L :=
  ⟨h.row.under hb, fun q hq => by obtain ⟨B, c', e, hi⟩ := h.ints q hq; exact ⟨B, c', e, hi.under hb⟩, h.apart⟩
theorem pw_at {w : World} {base n c : Nat} {A : Option Addr} {L : List (PV × Value)} (h : PartsW w base A n c L) (hn : n = L.length) (k : Nat) (hk : k < L.length) : ∃ g B c', A = some ⟨g, 0, none⟩ ∧ L[k].2 = .slice B L[k].1.bs.length c' ∧ w.cell? ⟨g, k * 4 + 3, none⟩ = some (.slice B L[k].1.bs.length c') ∧ Ints w base .u8 B L[k].1.bs.length := by
  subst hn
  obtain ⟨B, c', e, hi⟩ := h.ints L[k] (List.getElem_mem hk)
  have h3 := cells_at L k L[k] (List.getElem?_eq_getElem hk) 3 (by omega)
  rcases h.row.2 with ⟨_, h0⟩ | ⟨g, cap, cur, hv, _⟩
  · omega
  · injection hv with e1 _ e3
    subst e1 e3
    refine ⟨g, B, c', rfl, e, ?_, hi⟩
    rw [World.ownsRow.cellAt h.row _ (by omega), h3]
    simp [cells, e]

set_option maxRecDepth 100000 in
set_option maxHeartbeats 4000000 in
theorem splits_any (id more : Int) (A : Option Addr) (n c : Nat) (b : List Int) (w : World) (hn : n = b.length) (hx : ReadI w .u8 A b) (hm : -9223372036854775808 ≤ more ∧ more ≤ 9223372036854775807) :
    Calls Try.prog 3 #[.int .u32 id, .slice A n c, .int .i64 more] w fun e w' => e = .returned (.bool true) ∧ Below w.heap.size w w' := by
  subst hn
  have HX := Lib.hid hx
  clear hx
  go_enter Try.func3, Try.ntmps3
  go_upto_region 1 with (fail)
  go_cut [2] from 15 to 17 (fun s wx => ∃ m : Nat, m ≤ 65536 ∧ s = .int .i64 m ∧ wx = w)
  case first =>
    go_wp2_with fail
    all_goals go_meet
    all_goals exact ⟨(max 0 (min more 65536)).toNat, by omega, by simp; omega, rfl⟩
  case rest =>
    obtain ⟨m, hm2, rfl, rfl⟩ := hcut
    rcases Nat.lt_or_ge 65536 b.length with hlong | hlong
    · have t1 : decide (65536 < (b.length : Int)) = true := decide_eq_true (by omega)
      go_wp2_with fail
      refine (fixed_any wc).mono ?_
      rintro e w1 ⟨rfl, b1⟩
      go_wp2_with fail
      go_ret
      exact ⟨rfl, b1⟩
    · have t1 : decide (65536 < (b.length : Int)) = false := decide_eq_false (by omega)
      go_wp2_with fail
      refine (copy_any A b.length c b wc rfl HX.out (by omega)).mono ?_
      rintro e w1 ⟨A1, c1, rfl, o1, b1⟩
      have O1 := Lib.hid o1
      have B1 := Lib.hid b1
      have Z1 := b1.size
      clear o1 b1
      go_wp2_with (at_builtin; first
        | (refine wpList_append_make _ rfl (.tmp 23) (.tmp 24) 23 3 5 .u8 1 rfl Try.underlying23 Try.underlying3 (by kernel_rfl) (by omega) wc.heap.size (.slice A1 b.length c1) b rfl O1.out m rfl (by omega) Z1 ?_; intro A2 c2 w2 hap2; have HAP2 := Lib.hid hap2; clear hap2))
      have hb2 := below_of_only B1.out HAP2.out.only Z1 (fun x hx => (O1.out.lt x hx).1)
      obtain ⟨bb, hbb⟩ : ∃ bb, bb = b ++ List.replicate m 0 := ⟨_, rfl⟩
      have hbl : bb.length = b.length + m := by rw [hbb]; simp
      have hown := HAP2.out.own
      rw [← hbb, ← hbl] at hown
      have hcap2 : bb.length ≤ c2 := by
        obtain ⟨A0, c0, e, h1, _⟩ := hown.form
        injection e with _ _ e
        rw [e]
        exact h1
      rw [← hbl]
      have HOWN := Lib.hid hown
      have HB2 := Lib.hid hb2
      have hbl2 : bb.length ≤ 131072 := by omega
      clear hb2 hbb hbl hown
      go_wp2_with fail
      refine (copy_any A2 bb.length c2 bb w2 rfl HOWN.out.read (by omega)).mono ?_
      rintro e w3 ⟨A3, c3, rfl, o3, b3⟩
      have hcap3 : bb.length ≤ c3 := by
        obtain ⟨A0, c0, e, h1, _⟩ := o3.form
        injection e with _ _ e
        rw [e]
        exact h1
      have hr2 := HOWN.out.read.under b3
      have hr3 := o3.read
      have HR2 := Lib.hid hr2
      have HR3 := Lib.hid hr3
      have HB3 := Lib.hid (HB2.out.trans (b3.mono HB2.out.size))
      clear hr2 hr3 b3 o3
      go_wp2_with fail
      rcases Nat.lt_or_ge 57344 bb.length with hfit | hfit
      · refine (split_long id A3 bb.length c3 w3 hfit (by omega)).mono ?_
        rintro e w4 ⟨rfl, rfl⟩
        go_wp2_with fail
        refine (rsplit_long id A2 bb.length c2 w3 hfit (by omega)).mono ?_
        rintro e w5 ⟨rfl, rfl⟩
        go_wp2_with fail
        refine (fixed_any w3).mono ?_
        rintro e w6 ⟨rfl, b6⟩
        have B6 := Lib.hid b6
        have Z6 := b6.size
        clear b6
        go_wp2_with fail
        refine (rsame_true none none 0 0 0 0 [] [] w6 (PartsR.nil _ _) (PartsR.nil _ _) rfl rfl rfl (by simp) (fun _ h => by cases h)).mono ?_
        rintro e w7 ⟨rfl, b7⟩
        have B7 := Lib.hid (B6.out.trans (b7.mono Z6))
        have Z7 := b7.size
        clear b7
        go_wp2_with fail
        go_loopw [55] (fun i wr => i = .int .i64 0 ∧ wr = w7) (fun _ _ => 0)
        case atStart => exact ⟨rfl, rfl⟩
        case round =>
          obtain ⟨rfl, rfl⟩ := hrel
          go_wp2_with fail
          refine (sameB_dec A3 A2 c3 c2 _ _ bb bb wr true rfl rfl (HR3.out.under B7.out) (HR2.out.under B7.out) (by omega) (by omega) (by simp)).mono ?_
          rintro e w8 ⟨rfl, b8⟩
          go_wp2_with fail
          go_ret
          exact ⟨rfl, HB3.out.trans ((B7.out.trans (b8.mono B7.out.size)).mono HB3.out.size)⟩
      · refine (split_any id A3 bb.length c3 bb w3 rfl hcap3 HR3.out hfit).mono ?_
        rintro e w4 ⟨A4, c4, L, rfl, hL, hP4, b4⟩
        have hcnt : count bb ≤ 128 := by unfold count; omega
        have hll : L.length = count bb := by have := congrArg List.length hL; simpa [parts_len] using this
        have PW := Lib.hid hP4.writable
        have PR := Lib.hid (hP4.read rfl)
        have HL := Lib.hid hL
        have B4 := Lib.hid b4
        have HLL := Lib.hid hll
        have hl1 : L.length ≤ 128 := by omega
        clear hP4 hL b4 hll hcnt
        go_wp2_with fail
        refine (rsplit_any id A2 bb.length c2 bb w4 rfl hcap2 (HR2.out.under B4.out) hfit).mono ?_
        rintro e w5 ⟨A5, c5, M, rfl, hM, hP5, b5⟩
        have hml : M.length = L.length := by have := congrArg List.length hM; rw [HLL.out]; simpa [parts_len] using this
        have PR5 := Lib.hid (hP5.read rfl)
        have HM := Lib.hid hM
        have HML := Lib.hid hml
        have B5 := Lib.hid (B4.out.trans (b5.mono B4.out.size))
        have BB5 := Lib.hid b5
        clear hP5 hM hml b5
        go_wp2_with fail
        refine (fixed_any w5).mono ?_
        rintro e w6 ⟨rfl, b6⟩
        have B6 := Lib.hid (B5.out.trans (b6.mono B5.out.size))
        have BB6 := Lib.hid b6
        clear b6
        go_wp2_with fail
        refine (rsame_true A4 A5 _ _ c4 c5 L M w6 ((PR.out.under BB5.out).under BB6.out) (PR5.out.under BB6.out) rfl HML.out (by rw [HL.out, HM.out]) (by omega) (fun q hq => parts_small id bb (count bb) (count bb) q.1 (by rw [← HL.out]; exact List.mem_map.2 ⟨q, hq, rfl⟩))).mono ?_
        rintro e w7 ⟨rfl, b7⟩
        have PW7 := Lib.hid (((PW.out.under BB5.out).under BB6.out).under b7)
        have B7 := Lib.hid (B6.out.trans (b7.mono B6.out.size))
        clear b7
        go_wp2_with fail
        go_loopw [55] (fun i wr => ∃ k : Nat, k ≤ L.length ∧ i = .int .i64 k ∧ PartsW wr w3.heap.size A4 L.length c4 L ∧ Below w3.heap.size w3 wr) (fun i _ => L.length - (intOf i).toNat)
        case atStart => exact ⟨0, Nat.zero_le _, rfl, PW7.out, B7.out⟩
        case round =>
          obtain ⟨k, hk, rfl, hpw, hbk⟩ := hrel
          have PWK := Lib.hid hpw
          have BK := Lib.hid hbk
          clear hpw hbk
          by_cases hlt : k < L.length
          · obtain ⟨g, B, cb, rfl, hq2, h3, hint⟩ := pw_at PWK.out rfl k hlt
            obtain ⟨t, ht⟩ : ∃ t, t = L[k].1.bs.length := ⟨_, rfl⟩
            have htl : t ≤ 448 := by
              rw [ht]
              exact parts_small id bb (count bb) (count bb) L[k].1 (by rw [← HL.out]; exact List.mem_map.2 ⟨L[k], List.getElem_mem hlt, rfl⟩)
            rw [← ht] at h3 hint hq2
            have i1 : (k : Int) < (L.length : Int) := by omega
            have HT := Lib.hid ht
            have HQ2 := Lib.hid hq2
            have HI := Lib.hid hint
            clear ht hq2 hint
            go_wp2_with fail
            obtain ⟨wo, hwo⟩ : ∃ wo : World, wo = wr := ⟨_, rfl⟩
            rw [← hwo] at PWK BK HI h3 ⊢
            clear hwo
            go_loopw [64] (fun i wr => ∃ j : Nat, j ≤ t ∧ i = .int .i64 j ∧ PartsW wr w3.heap.size (some ⟨g, 0, none⟩) L.length c4 L ∧ Below w3.heap.size w3 wr) (fun i _ => t - (intOf i).toNat)
            case atStart => exact ⟨0, Nat.zero_le _, rfl, PWK.out, BK.out⟩
            case round =>
              obtain ⟨j, hj, rfl, hpw, hbk⟩ := hrel
              have PWJ := Lib.hid hpw
              have BJ := Lib.hid hbk
              clear hpw hbk
              by_cases hlj : j < t
              · obtain ⟨g2, B2, cb2, e2, hq2, h3', hint⟩ := pw_at PWJ.out rfl k hlt
                injection e2 with e2
                injection e2 with e2
                subst e2
                have e3 := HQ2.out.symm.trans hq2
                injection e3 with e3 e4 e5
                subst e3 e5
                rw [← HT.out] at h3' hint
                obtain ⟨gb, o, rfl, hgb, hc⟩ := hint (by omega)
                obtain ⟨⟨x, hcx⟩, hf⟩ := hc j hlj
                have i2 : (j : Int) < (t : Int) := by omega
                have PS := Lib.hid (fun y : Int => PWJ.out.set_ L[k] (List.getElem_mem hlt) gb o t cb HQ2.out (o + j) y)
                have BS := Lib.hid (fun y : Int => BJ.out.setCell (p := ⟨gb, o + j, none⟩) hgb (.int .u8 y))
                clear hc hq2 h3 HI
                go_wp2_with fail
                go_roundw
                case rel => exact ⟨j + 1, by omega, by go_num, PS.out _, BS.out _⟩
                case measure => simp [intOf]; omega
              · go_wp2_with fail
                go_roundw
                case rel => exact ⟨k + 1, by omega, by go_num, PWJ.out, BJ.out⟩
                case measure => simp [intOf]; omega
          · go_wp2_with fail
            refine (sameB_dec A3 A2 c3 c2 _ _ bb bb wr true rfl rfl (HR3.out.under BK.out) (HR2.out.under BK.out) (by omega) (by omega) (by simp)).mono ?_
            rintro e w8 ⟨rfl, b8⟩
            go_wp2_with fail
            go_ret
            exact ⟨rfl, HB3.out.trans ((BK.out.trans (b8.mono BK.out.size)).mono HB3.out.size)⟩
end Go.Proofs.Ytpoobdccmaiaiaa
