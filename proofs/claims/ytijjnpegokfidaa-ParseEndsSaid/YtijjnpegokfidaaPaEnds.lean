/- ParseEnds walked. -/
import Derived.Test.YtijjnpegokfidaaPaFixed
import Derived.Test.YtijjnpegokfidaaPaEndsM
namespace Go.Proofs.Ytijjnpegokfidaa
open Go.RowKit
open Pa
set_option linter.unusedVariables false
set_option linter.unusedSimpArgs false

def EndsRel1 (w : World) (B gp gd : Nat) (l : List Int) (i : Value) (wr : World) : Prop :=
  ∃ (k : Nat) (vp vt : Value), k ≤ l.length ∧ i = .int .i64 k ∧ Pv wr B gp gd (after Pa.start (l.take k)) vp vt ∧ (∀ g, Its gp gd vp vt g → w.heap.size ≤ g) ∧ Below w.heap.size w wr
def EndsRel2 (w : World) (B gp gd : Nat) (s0 : PS) (l : List Int) (v i : Value) (wr : World) : Prop :=
  ∃ (k : Nat) (A : Option Addr) (c : Nat) (L : List AE) (vp vt : Value), k ≤ l.length ∧ i = .int .i64 k ∧ v = .slice A L.length c ∧ AR w wr w.heap.size B gp gd s0 (l.take k) vp vt (.slice A L.length c) L
theorem FeedEnd.step {w wr w1 : World} {B gp gd : Nat} {s : PS} {vp vt : Value} {r : List TAct × PS} {e : Ending} (h : FeedEnd wr B gp gd vp vt r e w1) (hi : ∀ g, Its gp gd vp vt g → w.heap.size ≤ g) (hb : Below w.heap.size w wr) :
    ∃ A c vp' vt', e = .returned (.slice A r.1.length c) ∧ Pv w1 B gp gd r.2 vp' vt' ∧ (∀ g, Its gp gd vp' vt' g → w.heap.size ≤ g) ∧ Below w.heap.size w w1 := by
  obtain ⟨A, c, L, vp', vt', he, hL, hA, hP, hk, hI⟩ := h
  refine ⟨A, c, vp', vt', he, hP, fun g hg => ?_, Keeps.below hb hk hb.size hi⟩
  rcases (hI g hg).1 with h1 | h1
  · exact hi g h1
  · exact Nat.le_trans hb.size h1

set_option maxRecDepth 100000 in
set_option maxHeartbeats 2000000 in
theorem pends_any (A : Option Addr) (n c : Nat) (l : List Int) (A2 : Option Addr) (n2 c2 : Nat) (l2 : List Int) (w : World) (hn : n = l.length) (hnb : n ≤ 9000000000000000000) (hx : ReadI w .u8 A l) (hb : ∀ x ∈ l, 0 ≤ x ∧ x < 256)
    (hn2 : n2 = l2.length) (hnb2 : n2 ≤ 9000000000000000000) (hx2 : ReadI w .u8 A2 l2) (hb2 : ∀ x ∈ l2, 0 ≤ x ∧ x < 256) :
    Calls Try.prog 3 #[.slice A n c, .slice A2 n2 c2] w fun e w' => e = .returned (.bool true) ∧ Below w.heap.size w w' := by
  subst hn hn2
  by_cases hl : l.length ≤ 700 ∧ l2.length ≤ 700
  · obtain ⟨hl1, hl2⟩ := hl
    have d0 : decide ((700 : Int) < (l.length : Int)) = false := decide_eq_false (by omega)
    have d1 : decide ((700 : Int) < (l2.length : Int)) = false := decide_eq_false (by omega)
    have HX := Lib.hid hx
    have HB := Lib.hid hb
    have HX2 := Lib.hid hx2
    have HB2 := Lib.hid hb2
    clear hx hb hx2 hb2
    go_enter Try.func3, Try.ntmps3
    go_wp2_with fail
    refine (pnew_any w).mono ?_
    rintro e w0 ⟨gp, gd, rfl, hP0, hb0, hgp, hgd⟩
    obtain ⟨B, hB⟩ : ∃ B, B = w0.heap.size := ⟨_, rfl⟩
    rw [← hB] at hP0
    have hi0 : ∀ g, Its gp gd nilV nilV g → w.heap.size ≤ g := by
      intro g hg
      rcases hg with h | h | h | h
      · omega
      · omega
      · cases h
      · cases h
    have HP0 := Lib.hid hP0
    have HB0 := Lib.hid hb0
    have HI0 := Lib.hid hi0
    clear hP0 hb0 hi0 hB hgp hgd
    go_wp2_with fail
    go_loopw [25] (fun i wr => EndsRel1 w B gp gd l i wr) (fun i _ => l.length - (intOf i).toNat)
    case atStart => exact ⟨0, nilV, nilV, Nat.zero_le _, rfl, HP0.out, HI0.out, HB0.out⟩
    case round =>
      obtain ⟨k, vp, vt, hk, rfl, hP, hi, hbel⟩ := hrel
      have HP := Lib.hid hP
      have HI := Lib.hid hi
      have HBEL := Lib.hid hbel
      clear hP hi hbel
      by_cases hlt : k < l.length
      · obtain ⟨g, o, rfl, hc⟩ := (HX.out.under HBEL.out) (by rintro rfl; simp at hlt)
        have hck := hc k hlt
        have hbb : 0 ≤ l.getD k 0 ∧ l.getD k 0 < 256 := HB.out _ (by rw [List.getD_eq_getElem?_getD, List.getElem?_eq_getElem hlt]; exact List.getElem_mem _)
        obtain ⟨b, hb⟩ : ∃ b, b = l.getD k 0 := ⟨_, rfl⟩
        rw [← hb] at hck hbb
        have HBB := Lib.hid hb
        have i1 : (k : Int) < (l.length : Int) := by omega
        have hwf : WF (after Pa.start (l.take k)) := after_ok Pa.start wf_start _ (fun x hx => HB.out x (List.mem_of_mem_take hx))
        have HWF := Lib.hid hwf
        clear hc hb hwf
        go_wp2_with fail
        refine (feedP_any b hbb wr B gp gd (after Pa.start (l.take k)) vp vt HP.out HWF.out).mono ?_
        intro e w1 hfe
        obtain ⟨A3, c3, vp', vt', rfl, hP', hi', hb'⟩ := hfe.step (s := Pa.start) HI.out HBEL.out
        have hP2 : Pv w1 B gp gd (after Pa.start (l.take (k + 1))) vp' vt' := by
          rw [take_snoc l k hlt, ← HBB.out, after_snoc]
          exact hP'
        have HP2 := Lib.hid hP2
        have HI2 := Lib.hid hi'
        have HB2' := Lib.hid hb'
        clear hP2 hP' hi' hb' hfe
        go_wp2_with fail
        go_roundw
        case rel => exact ⟨k + 1, vp', vt', by omega, by go_num, HP2.out, HI2.out, HB2'.out⟩
        case measure => simp [intOf]; omega
      · obtain rfl : k = l.length := by omega
        rw [List.take_length] at HP
        have hwf : WF (after Pa.start l) := after_ok Pa.start wf_start _ HB.out
        have HWF := Lib.hid hwf
        clear hwf
        go_wp2_with fail
        refine (feedP_any 24 (by decide) wr B gp gd (after Pa.start l) vp vt HP.out HWF.out).mono ?_
        intro e w1 hfe
        obtain ⟨A3, c3, vp', vt', rfl, hP', hi', hb'⟩ := hfe.step (s := Pa.start) HI.out HBEL.out
        have hwf2 := (feedP_ok _ 24 HWF.out (by decide)).1
        have hends : ∀ b, told (feedP (after Pa.start l) 24).2 b = acts b := fun b => ends_told l b
        obtain ⟨s0, hs0⟩ : ∃ s0, s0 = (feedP (after Pa.start l) 24).2 := ⟨_, rfl⟩
        rw [← hs0] at hP' hwf2 hends
        have har0 : AR w w1 w.heap.size B gp gd s0 [] vp' vt' nilV [] := ⟨hP', rfl, Acs.nil _ _, fun g _ => ⟨fun e => by (cases e), fun q hq => by cases hq⟩, hi', hb'⟩
        have HAR0 := Lib.hid har0
        have HWF2 := Lib.hid hwf2
        have HENDS := Lib.hid hends
        clear hP' hi' hb' hfe hs0 hwf2 hends har0
        go_wp2_with fail
        go_loopw [8, 37] (fun v i wr => EndsRel2 w B gp gd s0 l2 v i wr) (fun _ i _ => l2.length - (intOf i).toNat)
        case atStart => exact ⟨0, none, 0, [], vp', vt', Nat.zero_le _, rfl, rfl, HAR0.out⟩
        case round =>
          obtain ⟨k, A1, c1, L, vp, vt, hk, rfl, rfl, har⟩ := hrel
          have HAR := Lib.hid har
          have hN : w.heap.size ≤ wr.heap.size := har.bel.size
          have hLl : L.length ≤ 32768 := by
            have h1 := congrArg List.length har.map
            have h2 := told_len s0 (l2.take k)
            rw [List.length_map] at h1
            rw [h1]
            simp at h2
            omega
          clear har
          by_cases hlt : k < l2.length
          · obtain ⟨g, o, rfl, hc⟩ := (HX2.out.under HAR.out.bel) (by rintro rfl; simp at hlt)
            have hck := hc k hlt
            have hbb : 0 ≤ l2.getD k 0 ∧ l2.getD k 0 < 256 := HB2.out _ (by rw [List.getD_eq_getElem?_getD, List.getElem?_eq_getElem hlt]; exact List.getElem_mem _)
            obtain ⟨b, hb⟩ : ∃ b, b = l2.getD k 0 := ⟨_, rfl⟩
            rw [← hb] at hck hbb
            have HBB := Lib.hid hb
            have i1 : (k : Int) < (l2.length : Int) := by omega
            have hwf : WF (after s0 (l2.take k)) := after_ok s0 HWF2.out _ (fun x hx => HB2.out x (List.mem_of_mem_take hx))
            have HWF := Lib.hid hwf
            clear hc hb hwf
            go_wp2_with fail
            refine (feedP_any b hbb wr B gp gd (after s0 (l2.take k)) vp vt HAR.out.pv HWF.out).mono ?_
            rintro e w1 ⟨A2, c2, M, vp', vt', rfl, hM, hA2, hP2, hK, hI⟩
            have hml : (feedP (after s0 (l2.take k)) b).1.length = M.length := by have := congrArg List.length hM; simpa using this.symm
            have hm2 := feedP_len (after s0 (l2.take k)) b
            rw [hml] at hA2 hI hm2 ⊢
            have hA1 := HAR.out.acs.keeps hK HAR.out.clear
            have HM := Lib.hid hM
            have HA2 := Lib.hid hA2
            have HP2 := Lib.hid hP2
            have HK := Lib.hid hK
            have HI := Lib.hid hI
            have HA1 := Lib.hid hA1
            have hz1 : w.heap.size ≤ w1.heap.size := Nat.le_trans hN hK.size
            clear hM hA2 hP2 hK hI hA1 hml
            go_wp2_with (at_builtin; first
              | (refine wpList_append_cells _ rfl (.tmp 41) (.tmp 44) 26 33 6 64 rfl Try.underlying26 (by kernel_rfl) (by omega) (by omega) w.heap.size (.slice A1 L.length c1) L.length (L.flatMap acell) rfl HA1.out.row A2 c2 M.length (M.flatMap acell) rfl (OwnR.read HA2.out.row) (acell_len M) HA2.out.one (L.length + M.length) rfl _ rfl (by omega) hz1 ?_; intro A4 c4 w4 hap; have HAP := Lib.hid hap; clear hap))
            have hlen2 : (L ++ M).length = L.length + M.length := List.length_append ..
            have hnx : AR w w4 w.heap.size B gp gd s0 (l2.take (k + 1)) vp' vt' (.slice A4 (L.length + M.length) c4) (L ++ M) := by
              rw [take_snoc l2 k hlt, ← HBB.out]
              refine HAR.out.next hN HM.out HA2.out HP2.out HK.out HI.out ?_
              have h := HAP.out
              rw [hlen2, List.flatMap_append]
              exact h
            have HNX := Lib.hid hnx
            clear hnx
            go_wp2_with fail
            go_roundw
            case rel => exact ⟨k + 1, A4, c4, L ++ M, vp', vt', by omega, by go_num, by rw [hlen2], by rw [hlen2]; exact HNX.out⟩
            case measure => simp [intOf]; omega
          · obtain rfl : k = l2.length := by omega
            rw [List.take_length] at HAR
            go_wp2_with fail
            refine (pfixed_any wr).mono ?_
            rintro e w2 ⟨rfl, hbf⟩
            have hbw2 : Below w.heap.size w w2 := HAR.out.bel.trans (hbf.mono HAR.out.bel.size)
            have HBW2 := Lib.hid hbw2
            have hacs2 := HAR.out.acs.under hbf
            have HACS2 := Lib.hid hacs2
            clear hbf hbw2 hacs2
            go_wp2_with fail
            refine (acts_any A2 _ c2 l2 w2 rfl (HX2.out.under HBW2.out) HB2.out (by omega)).mono ?_
            rintro e w3 ⟨A5, c5, M, rfl, hM, hAM, hb3⟩
            have hmap : L.map (·.1) = acts l2 := by rw [HAR.out.map]; exact HENDS.out l2
            have hrdL := (HACS2.out.under hb3).rd rfl
            have hrdM := hAM.rd rfl
            have hml : M.length = L.length := by
              have h1 := congrArg List.length hM
              have h2 := congrArg List.length hmap
              rw [List.length_map] at h1 h2
              rw [h1, h2]
            have hok : ∀ q ∈ L, AOk q.1 := fun q hq => told_ok Pa.start wf_start l2 HB2.out q.1 (by
              have h : q.1 ∈ L.map (·.1) := List.mem_map_of_mem hq
              rw [hmap] at h
              exact h)
            have HRL := Lib.hid hrdL
            have HRM := Lib.hid hrdM
            have HMAP := Lib.hid (hmap.trans hM.symm)
            have HML := Lib.hid hml
            have HOK := Lib.hid hok
            have HB3 := Lib.hid hb3
            clear hM hAM hb3 hmap hrdL hrdM hml hok
            go_wp2_with fail
            refine (sameA_true A1 A5 L.length M.length c1 c5 L M w3 rfl HML.out HRL.out HRM.out HMAP.out (fun q hq => ⟨by have := (HOK.out q hq).params; omega, by have := (HOK.out q hq).text; omega⟩) (by omega)).mono ?_
            rintro e w4 ⟨rfl, hb4⟩
            have hz2 := HBW2.out.size
            have hfin : Below w.heap.size w w4 := (HBW2.out.trans (HB3.out.mono hz2)).trans (hb4.mono (Nat.le_trans hz2 HB3.out.size))
            have HFIN := Lib.hid hfin
            clear hb4 hfin
            go_wp2_with fail
            go_ret
            exact ⟨rfl, HFIN.out⟩
  · clear hx hb hx2 hb2
    have HF : ∀ (w' : World), Calls Try.prog 5 #[] w' fun e w1 => e = .returned (.bool true) ∧ Below w'.heap.size w' w1 := fun w' => pfixed_any w'
    by_cases hl1 : l.length ≤ 700
    · have d0 : decide ((700 : Int) < (l.length : Int)) = false := decide_eq_false (by omega)
      have d1 : decide ((700 : Int) < (l2.length : Int)) = true := decide_eq_true (by omega)
      clear hl
      go_enter Try.func3, Try.ntmps3
      go_wp2_with fail
      refine (pfixed_any w).mono ?_
      rintro e w1 ⟨rfl, hb1⟩
      have HB1 := Lib.hid hb1
      clear hb1
      go_wp2_with fail
      go_ret
      exact ⟨rfl, HB1.out⟩
    · have d0 : decide ((700 : Int) < (l.length : Int)) = true := decide_eq_true (by omega)
      clear hl
      go_enter Try.func3, Try.ntmps3
      go_wp2_with fail
      refine (pfixed_any w).mono ?_
      rintro e w1 ⟨rfl, hb1⟩
      have HB1 := Lib.hid hb1
      clear hb1
      go_wp2_with fail
      go_ret
      exact ⟨rfl, HB1.out⟩
end Go.Proofs.Ytijjnpegokfidaa
