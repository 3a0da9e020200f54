/- The walk of the law UtfFeeds. -/
import Derived.Test.YtkdmdklmkachfaaDoorUtfFixed
namespace Go.Proofs.YtkdmdklmkachfaaDoor
open Go.RowKit
open Utf (DS)
set_option linter.unusedVariables false
set_option linter.unusedSimpArgs false

theorem end_twice (s : DS) : Utf.endT (Utf.endS s) = [] := by
  unfold Utf.endT Utf.endS
  by_cases h : s.need = 0
  · simp [h]
  · simp [h]
theorem end_done (w : World) (g : Nat) (s : DS) (hd : Dec w g s) (he : Utf.endT s = []) :
    Calls Tryd.prog 14 #[.pointer (some ⟨g, 0, none⟩)] w fun e w' => ∃ A c, e = .returned (.slice A 0 c) ∧ w.grownBy w' (some g) := by
  refine (end_any w g s hd).mono ?_
  rintro e w' ⟨A, c, rfl, h1, h2, h3⟩
  dsimp only at h1 ⊢
  rw [he]
  exact ⟨A, c, rfl, h3⟩

/-- Behind k bytes: the two decoders stand alike. -/
def FRel (bs : List Int) (w : World) (g : Nat) (i : Value) (wr : World) : Prop :=
  ∃ (k : Nat) (s : DS) (o : List Int) (B : Option Addr) (cb : Nat), k ≤ bs.length ∧ k ≤ 401 ∧ i = .int .i64 k ∧ Utf.Rel s o ∧ Utf.WF s ∧ o.length ≤ 3 ∧ (∀ x ∈ o, Utf.Byte x) ∧
    Dec wr w.heap.size s ∧ Blk wr g 26 #[.slice B o.length cb] ∧ ReadI wr .u8 B o ∧ (∀ b' o', B = some ⟨b', o', none⟩ → g < b') ∧ w.heap.size < g ∧ Below w.heap.size w wr

set_option maxHeartbeats 1000000 in
theorem feeds_any (w : World) (T : Tab w) (A : Option Addr) (len c : Nat) (bs : List Int) (hlen : len = bs.length) (hl : len ≤ 9223372036854775807) (hx : ReadI w .u8 A bs) (hb : ∀ b ∈ bs, Utf.Byte b) :
    Calls Tryd.prog 3 #[.slice A len c] w fun e w' => e = .returned (.bool true) ∧ Below w.heap.size w w' := by
  subst hlen
  have HX := Lib.hid hx
  have HB := Lib.hid hb
  have HT := Lib.hid T
  clear hx hb T
  go_enter Tryd.func3, Tryd.ntmps3
  go_wp2_with fail
  refine (new_any w).mono ?_
  rintro e w1 ⟨rfl, hd1, hb1⟩
  have z1 := hd1.lt
  have hd2 := hd1.alloc (.cells #[.slice none 0 0] 26)
  have hk2 := Blk.new w1 26 #[.slice none 0 0]
  have hb2 := below_alloc hb1 (.cells #[.slice none 0 0] 26)
  go_wp2_with fail
  refine (fixed_any _ (HT.out.below hb2)).mono ?_
  rintro e w2 ⟨rfl, hb3⟩
  have hd3 := hd2.under hb3
  have hk3 := hk2.under hb3
  have hb4 := hb2.trans (hb3.mono hb2.size)
  obtain ⟨g, hg⟩ : ∃ g, g = w1.heap.size := ⟨_, rfl⟩
  have start : FRel bs w g (.int .i64 0) w2 := ⟨0, Utf.start, [], none, 0, Nat.zero_le _, by omega, rfl, Utf.rel_start, Utf.wf_start, by simp, (fun _ h => by cases h), hd3, hg ▸ hk3, ReadI.nil _ _ _, (fun _ _ h => by cases h), by omega, hb4⟩
  have START := Lib.hid start
  rw [← hg]
  clear start hd1 hb1 hd2 hk2 hb2 hb3 hd3 hk3 hb4 z1 hg
  go_wp2_with fail
  go_loopw [18] (fun i wr => FRel bs w g i wr) (fun i _ => bs.length - (intOf i).toNat)
  case atStart => exact START.out
  case round =>
    obtain ⟨k, s, o, B, cb, hk, hk4, rfl, hrel, hwf, ho3, hob, hd, hD, hr, hB, hg, hbel⟩ := hrel
    clear START
    have REL := Lib.hid hrel
    have HOB := Lib.hid hob
    clear hrel hob
    have cD := hD.cell 0
    have fD := hD.frozen 0
    have lD := hD.lt
    have ld := hd.lt
    simp at cD
    by_cases hlt : k < bs.length ∧ k ≤ 400
    · obtain ⟨hlt, h400⟩ := hlt
      obtain ⟨b0, o0, rfl, hc⟩ := (HX.out.under hbel) (by rintro rfl; simp at hlt)
      have hb0 : b0 < w.heap.size := HX.out.lt (by rintro rfl; simp at hlt) rfl
      have hck := hc k hlt
      have hbk : Utf.Byte (bs.getD k 0) := HB.out _ (by simp [List.getD_eq_getElem?_getD, hlt])
      have i1 : (k : Int) < (bs.length : Int) := by omega
      have i2 : decide (400 < (k : Int)) = false := decide_eq_false (by omega)
      obtain ⟨b, hbb⟩ : ∃ b, b = bs.getD k 0 := ⟨_, rfl⟩
      rw [← hbb] at hck hbk
      have hfr := Utf.feed_rel s o b hbk REL.out
      have HFR := Lib.hid hfr
      have hrf := rfeed_facts o b
      have hfb : ∀ x ∈ (Utf.rfeed o b).2, Utf.Byte x := fun x hx => by
        rcases hrf.2.2 x hx with h | h
        · exact HOB.out x h
        · rw [h]; exact hbk
      have HFB := Lib.hid hfb
      have hwf2 := Utf.wf_feed s b hwf
      clear hbb hc hfr hfb
      go_wp2_with fail
      refine (rfeed_full B cb o b wr hr HOB.out hbk (by omega)).mono ?_
      rintro e w2 ⟨A2, c2, B2, cb2, rfl, o2, r2, g2, h2⟩
      have z2 := h2.size
      have kD := (World.cell?_of_block (h2.block g lD)).trans cD
      have kF := (World.frozen?_of_block (h2.block g lD)).trans fD
      have on := only_setCell (only_refl w2 (some g)) (p := ⟨g, 0, none⟩) (.inl rfl) (.slice B2 (Utf.rfeed o b).2.length cb2)
      have hd4 := (hd.under h2).grown on (by simp; omega)
      have hD4 := (hD.under h2).s1_0 (.slice B2 (Utf.rfeed o b).2.length cb2)
      have l4 := o2.read.only on (fun b' o' e => by have := (o2.lt b' (by rw [e]; rfl)).1; simp; omega)
      have lo2 := fun b' h => (o2.lt b' h).1
      have r4 := r2.only on (fun b' o' e => by have := g2 b' o' e; simp; omega)
      have e4 := (hbel.trans (h2.mono hbel.size)).setCell (p := ⟨g, 0, none⟩) (by simp; omega) (.slice B2 (Utf.rfeed o b).2.length cb2)
      have s4 : (w2.setCell ⟨g, 0, none⟩ (.slice B2 (Utf.rfeed o b).2.length cb2)).heap.size = w2.heap.size := by simp [World.setCell]
      clear on h2 o2 r2 hd hD hr hbel cD fD hck HX
      go_wp2_with fail
      obtain ⟨W, hW⟩ : ∃ W, W = w2.setCell ⟨g, 0, none⟩ (.slice B2 (Utf.rfeed o b).2.length cb2) := ⟨_, rfl⟩
      rw [← hW] at hd4 hD4 l4 r4 e4 s4 ⊢
      clear hW kD kF
      refine (feed_any b hbk W w.heap.size s hd4 hwf).mono ?_
      rintro e w5 ⟨A5, c5, rfl, o5, d5, h5⟩
      have hD5 := hD4.grown h5 (by simp; omega)
      have l5 := l4.only h5 (fun b' o' e => by have := lo2 b' (by rw [e]; rfl); simp; omega)
      have r5 := r4.only h5 (fun b' o' e => by have := g2 b' o' e; simp; omega)
      have e5 := below_of_only e4 h5 e4.size (fun x hx => by injection hx; omega)
      have l6 := o5.read
      clear hd4 hD4 l4 r4 e4 h5 o5
      have hfl := hrf.1
      go_wp2_with fail
      refine (sameR_true A5 A2 c5 c2 _ _ _ _ w5 rfl rfl l6 l5 (by rw [HFR.out.1]; omega) HFR.out.1).mono ?_
      rintro e w6 ⟨rfl, h6⟩
      have hfin : FRel bs w g (.int .i64 (k + 1 : Nat)) w6 := ⟨k + 1, (Utf.feed s b).2, (Utf.rfeed o b).2, B2, cb2, by omega, by omega, rfl, HFR.out.2, hwf2, hrf.2.1, HFB.out, d5.under h6, hD5.under h6, r5.under h6, (fun b' o' e => by have := g2 b' o' e; omega), hg, e5.trans (h6.mono e5.size)⟩
      have HFIN := Lib.hid hfin
      clear hfin d5 hD5 r5 l5 l6 e5 h6
      go_wp2_with fail
      go_roundw
      case rel => exact HFIN.out
      case measure => simp [intOf]; omega
    · have hend : (k = bs.length ∧ decide ((k : Int) < (bs.length : Int)) = false) ∨ (k < bs.length ∧ decide ((k : Int) < (bs.length : Int)) = true ∧ decide (400 < (k : Int)) = true) := by
        rcases (show k = bs.length ∨ k < bs.length by omega) with h | h
        · exact .inl ⟨h, decide_eq_false (by omega)⟩
        · exact .inr ⟨h, decide_eq_true (by omega), decide_eq_true (by omega)⟩
      have hE := Utf.rel_end s o REL.out
      have hel : (Utf.rendT o).length ≤ 1 := by unfold Utf.rendT; split <;> simp
      have HE := Lib.hid hE
      have HEL := Lib.hid hel
      clear hlt hE hel
      rcases hend with ⟨h, i1⟩ | ⟨h, i1, i2⟩
      · go_wp2_with fail
        clear HX
        go_region_held3 (fun w' => w'.cell? ⟨g, 0, none⟩ = some (.slice B o.length cb))
          (first | go_keep | assumption | exact K4 | exact K3 | exact K2 | exact K1)
          ((first
            | (go_at_call 14; refine (end_any wr.drew w.heap.size s hd).mono ?_; rintro e w2 ⟨A2, c2, rfl, p1, p2, p3⟩; have K1 := (p3.cell_far ⟨g, 0, none⟩ lD (by simp; omega)).trans cD)
            | (go_at_call 15; refine (rend_any B cb o w2 (by omega)).mono ?_; rintro e w3 ⟨A3, c3, rfl, o3, b3⟩; have K2 := (b3.cell (p := ⟨g, 0, none⟩) (Nat.lt_of_lt_of_le lD p3.size)).trans K1)
            | (go_at_call 12; refine (sameR_true A2 A3 c2 c3 _ _ (Utf.endT s) (Utf.rendT o) w3 rfl rfl (p1.read.under b3) o3.read (by rw [HE.out]; have := HEL.out; omega) HE.out).mono ?_; rintro e w4 ⟨rfl, b4⟩; have K3 := (b4.cell (p := ⟨g, 0, none⟩) (Nat.lt_of_lt_of_le lD (Nat.le_trans p3.size b3.size))).trans K2)
            | (go_at_call 14; refine (end_done w4 w.heap.size (Utf.endS s) ((Blk.under p2 b3).under b4) (end_twice s)).mono ?_; rintro e w5 ⟨A5, c5, rfl, p5⟩; have K4 := (p5.cell_far ⟨g, 0, none⟩ (Nat.lt_of_lt_of_le lD (Nat.le_trans p3.size (Nat.le_trans b3.size b4.size))) (by simp; omega)).trans K3)))
        have e2 := below_of_only (below_drew hbel) p3 hbel.size (fun x hx => by injection hx; omega)
        have e3 := e2.trans (b3.mono e2.size)
        have e4 := e3.trans (b4.mono e3.size)
        have e5 := below_of_only e4 p5 e4.size (fun x hx => by injection hx; omega)
        clear e2 e3 e4 p3 b3 b4 p5 K1 K2 K3 K4 p1 p2 o3
        go_wp2_with fail
        go_ret
        exact ⟨rfl, e5⟩
      · obtain ⟨b0, o0, rfl, hc⟩ := (HX.out.under hbel) (by intro e; rw [e] at h; simp at h)
        have hck := hc k h
        have i0 : (k : Int) < (bs.length : Int) := by omega
        clear hc
        go_wp2_with fail
        clear HX
        go_region_held3 (fun w' => w'.cell? ⟨g, 0, none⟩ = some (.slice B o.length cb))
          (first | go_keep | assumption | exact K4 | exact K3 | exact K2 | exact K1)
          ((first
            | (go_at_call 14; refine (end_any wr.drew w.heap.size s hd).mono ?_; rintro e w2 ⟨A2, c2, rfl, p1, p2, p3⟩; have K1 := (p3.cell_far ⟨g, 0, none⟩ lD (by simp; omega)).trans cD)
            | (go_at_call 15; refine (rend_any B cb o w2 (by omega)).mono ?_; rintro e w3 ⟨A3, c3, rfl, o3, b3⟩; have K2 := (b3.cell (p := ⟨g, 0, none⟩) (Nat.lt_of_lt_of_le lD p3.size)).trans K1)
            | (go_at_call 12; refine (sameR_true A2 A3 c2 c3 _ _ (Utf.endT s) (Utf.rendT o) w3 rfl rfl (p1.read.under b3) o3.read (by rw [HE.out]; have := HEL.out; omega) HE.out).mono ?_; rintro e w4 ⟨rfl, b4⟩; have K3 := (b4.cell (p := ⟨g, 0, none⟩) (Nat.lt_of_lt_of_le lD (Nat.le_trans p3.size b3.size))).trans K2)
            | (go_at_call 14; refine (end_done w4 w.heap.size (Utf.endS s) ((Blk.under p2 b3).under b4) (end_twice s)).mono ?_; rintro e w5 ⟨A5, c5, rfl, p5⟩; have K4 := (p5.cell_far ⟨g, 0, none⟩ (Nat.lt_of_lt_of_le lD (Nat.le_trans p3.size (Nat.le_trans b3.size b4.size))) (by simp; omega)).trans K3)))
        have e2 := below_of_only (below_drew hbel) p3 hbel.size (fun x hx => by injection hx; omega)
        have e3 := e2.trans (b3.mono e2.size)
        have e4 := e3.trans (b4.mono e3.size)
        have e5 := below_of_only e4 p5 e4.size (fun x hx => by injection hx; omega)
        clear e2 e3 e4 p3 b3 b4 p5 K1 K2 K3 K4 p1 p2 o3
        go_wp2_with fail
        go_ret
        exact ⟨rfl, e5⟩
end Go.Proofs.YtkdmdklmkachfaaDoor
