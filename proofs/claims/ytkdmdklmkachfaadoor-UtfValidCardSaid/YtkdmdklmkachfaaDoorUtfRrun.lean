/- The walk of the document's Runes. -/
import Derived.Test.YtkdmdklmkachfaaDoorUtfRfeed
import Derived.BigRegion
import Derived.Deep.RegionLaw
namespace Go.Proofs.YtkdmdklmkachfaaDoor
open Go.RowKit
open Utf (DS)
set_option linter.unusedVariables false
set_option linter.unusedSimpArgs false

theorem begins_short (x : List Int) (h : Utf.beginsB x = true) : x.length ≤ 3 := by
  rcases Nat.lt_or_ge 3 x.length with h' | h'
  · rw [begins_long x h'] at h; cases h
  · exact h'
theorem rfeed_facts (o : List Int) (b : Int) : (Utf.rfeed o b).1.length ≤ 2 ∧ (Utf.rfeed o b).2.length ≤ 3 ∧ ∀ x ∈ (Utf.rfeed o b).2, x ∈ o ∨ x = b := by
  unfold Utf.rfeed
  split
  · simp
  split
  · rename_i h
    exact ⟨by simp, begins_short _ h, fun x hx => by simpa using hx⟩
  split
  · simp
  · unfold Utf.rfeed0
    split
    · simp
    · split <;> simp
theorem rtold_snoc (o l : List Int) (b : Int) : Utf.rtold o (l ++ [b]) = Utf.rtold o l ++ (Utf.rfeed (Utf.rafter o l) b).1 := by
  induction l generalizing o with
  | nil => simp [Utf.rtold, Utf.rafter]
  | cons a l ih => simp [Utf.rtold, Utf.rafter, ih]
theorem rafter_snoc (o l : List Int) (b : Int) : Utf.rafter o (l ++ [b]) = (Utf.rfeed (Utf.rafter o l) b).2 := by
  induction l generalizing o with
  | nil => simp [Utf.rafter]
  | cons a l ih => simp [Utf.rafter, ih]
theorem rtold_len (o l : List Int) : (Utf.rtold o l).length ≤ 2 * l.length := by
  induction l generalizing o with
  | nil => simp [Utf.rtold]
  | cons a l ih =>
    have h1 := (rfeed_facts o a).1
    have h2 := ih (Utf.rfeed o a).2
    simp only [Utf.rtold, List.length_append, List.length_cons]
    omega
theorem rafter_facts (o l : List Int) (ho : o.length ≤ 3) (hb : ∀ x ∈ o, Utf.Byte x) (hl : ∀ x ∈ l, Utf.Byte x) : (Utf.rafter o l).length ≤ 3 ∧ ∀ x ∈ Utf.rafter o l, Utf.Byte x := by
  induction l generalizing o with
  | nil => exact ⟨ho, hb⟩
  | cons a l ih =>
    refine ih _ (rfeed_facts o a).2.1 (fun x hx => ?_) (fun x hx => hl x (List.mem_cons_of_mem _ hx))
    rcases (rfeed_facts o a).2.2 x hx with h | h
    · exact hb x h
    · rw [h]; exact hl a (by simp)

/-- The state of the loop: what is told, the decoder's block. -/
def RRel (bs : List Int) (w : World) (v i : Value) (wr : World) : Prop :=
  ∃ (k : Nat) (A : Option Addr) (c : Nat) (B : Option Addr) (cb : Nat), k ≤ bs.length ∧ i = .int .i64 k ∧ v = .slice A (Utf.rtold [] (bs.take k)).length c ∧
    OwnI wr w.heap.size 21 .i32 (.slice A (Utf.rtold [] (bs.take k)).length c) (Utf.rtold [] (bs.take k)) ∧ Value.ownBlock (.slice A (Utf.rtold [] (bs.take k)).length c) ≠ some (w.heap.size + 1) ∧
    Blk wr (w.heap.size + 1) 26 #[.slice B (Utf.rafter [] (bs.take k)).length cb] ∧ ReadI wr .u8 B (Utf.rafter [] (bs.take k)) ∧
    (Utf.rafter [] (bs.take k) ≠ [] → ∀ b' o', B = some ⟨b', o', none⟩ → some b' ≠ Value.ownBlock (.slice A (Utf.rtold [] (bs.take k)).length c)) ∧ Below w.heap.size w wr

theorem rrunes_any (A : Option Addr) (c : Nat) (bs : List Int) (w : World) (hx : ReadI w .u8 A bs) (hb : ∀ b ∈ bs, Utf.Byte b) (hl : bs.length ≤ 1048576) :
    Calls Tryd.prog 20 #[.slice A bs.length c] w (NewInts 21 .i32 w (Utf.rrunes bs)) := by
  have HX := Lib.hid hx
  have HB := Lib.hid hb
  clear hx hb
  have start : RRel bs w (.slice (some ⟨w.heap.size, 0, none⟩) 0 0) (.int .i64 0) ((w.alloc (.cells #[] 21)).alloc (.cells #[.slice none 0 0] 26)) := by
    refine ⟨0, some ⟨w.heap.size, 0, none⟩, 0, none, 0, Nat.zero_le _, rfl, rfl, ?_, ?_, ?_, ReadI.nil _ _ _, fun h => absurd rfl h, below_alloc (below_alloc (Below.refl _ _) _) _⟩
    · exact (OwnI.lit0 w w.heap.size 21 .i32 (Nat.le_refl _)).alloc _
    · simp [Value.ownBlock]
    · have := Blk.new (w.alloc (.cells #[] 21)) 26 #[.slice none 0 0]
      rw [World.size_alloc] at this
      exact this
  have START := Lib.hid start
  clear start
  go_enter Tryd.func20, Tryd.ntmps20
  go_wp2_with fail
  go_loopw [3, 11] (fun v i wr => RRel bs w v i wr) (fun _ i _ => bs.length - (intOf i).toNat)
  case atStart => exact START.out
  case round =>
    obtain ⟨k, A1, c1, B1, cb1, hk, rfl, rfl, ho, hne, hd, hr, hrn, hbel⟩ := hrel
    clear START
    have htl := rtold_len [] (bs.take k)
    simp only [List.length_take] at htl
    have hra := rafter_facts [] (bs.take k) (by simp) (fun _ h => by cases h) (fun x hx => HB.out x (List.mem_of_mem_take hx))
    by_cases hlt : k < bs.length
    · obtain ⟨b0, o0, rfl, hc⟩ := (HX.out.under hbel) (by rintro rfl; simp at hlt)
      have hb0 : b0 < w.heap.size := HX.out.lt (by rintro rfl; simp at hlt) rfl
      have hck := hc k hlt
      have hbk : Utf.Byte (bs.getD k 0) := HB.out _ (by simp [List.getD_eq_getElem?_getD, hlt])
      have hs1 := rtold_snoc [] (bs.take k) (bs.getD k 0)
      have hs2 := rafter_snoc [] (bs.take k) (bs.getD k 0)
      rw [← take_succ_getD bs k hlt] at hs1 hs2
      have hfl := (rfeed_facts (Utf.rafter [] (bs.take k)) (bs.getD k 0)).1
      have HS1 := Lib.hid hs1
      have HS2 := Lib.hid hs2
      have i1 : (k : Int) < (bs.length : Int) := by omega
      clear hs1 hs2 hc
      obtain ⟨b, hbb⟩ : ∃ b, b = bs.getD k 0 := ⟨_, rfl⟩
      rw [← hbb] at hck hbk HS1 HS2 hfl
      clear hbb
      obtain ⟨o, hoo⟩ : ∃ o, o = Utf.rafter [] (bs.take k) := ⟨_, rfl⟩
      rw [← hoo] at hd hr hrn hra HS1 HS2 hfl
      clear hoo
      have HRA := Lib.hid hra.2
      have hra1 := hra.1
      have hglt := hd.lt
      -- behind the fresh empty list of the round
      have hd1 := hd.alloc (.cells #[] 21)
      have hr1 := hr.under (below_alloc (Below.refl _ _) (.cells #[] 21))
      have ho1 := ho.alloc (.cells #[] 21)
      have hbel1 := below_alloc hbel (.cells #[] 21)
      have hck1 := (ReadI.under (zs := [b]) (k := .u8) (A := some ⟨b0, o0 + k, none⟩) (w := wr) (fun _ => ⟨b0, o0 + k, rfl, fun j hj => by
        have : j = 0 := by simpa using hj
        subst this
        exact hck⟩) (below_alloc (Below.refl _ _) (.cells #[] 21)))
      have hck2 : (wr.alloc (.cells #[] 21)).cell? ⟨b0, o0 + k, none⟩ = some (.int .u8 b) := by
        obtain ⟨b2, o2, e, h2⟩ := hck1 (by simp)
        injection e with e
        injection e with e1 e2
        subst e1 e2
        exact h2 0 (by simp)
      clear hra hd hr ho hbel hck hck1 HX
      go_wp2_with fail
      obtain ⟨W, hW⟩ : ∃ W, W = wr.alloc (.cells #[] 21) := ⟨_, rfl⟩
      rw [← hW] at hd1 hr1 ho1 hbel1 hck2 ⊢
      have hgl2 := hd1.lt
      have cD := hd1.cell 0
      have fD := hd1.frozen 0
      simp at cD
      clear hW hglt
      have hW0 : b0 < W.drew.heap.size := Nat.lt_of_lt_of_le hb0 hbel1.size
      have nb : b0 ≠ w.heap.size + 1 := by omega
      have nb' : w.heap.size + 1 ≠ b0 := by omega
      go_region_law ((first | (go_simp; go_at_call 11; refine (rfeed_full B1 cb1 o b W.drew hr1 HRA.out hbk (by omega)).mono ?_; rintro e w2 ⟨A2, c2, B2, cb2, rfl, o2, r2, g2, h2⟩; have KD := (World.cell?_of_block (h2.block (w.heap.size + 1) hgl2)).trans cD; have KF := (World.frozen?_of_block (h2.block (w.heap.size + 1) hgl2)).trans fD)))
      all_goals
        have z2 := h2.size
        have zd : W.drew.heap.size = W.heap.size := rfl
        rw [zd] at z2
        have on := only_setCell (only_refl w2 (some (w.heap.size + 1))) (p := ⟨w.heap.size + 1, 0, none⟩) (.inl rfl) (.slice B2 (Utf.rfeed o b).2.length cb2)
        have ho2 := ((show OwnI W.drew w.heap.size 21 .i32 _ _ from ho1).under h2).only on (.inr hne)
        have hv1 := fun g h => ho1.lt g h
        have hl2 := o2.read.only on (fun b' o' e => by have := (o2.lt b' (by rw [e]; rfl)).1; simp; omega)
        have hd2 := ((show Blk W.drew _ _ _ from hd1).under h2).s1_0 (.slice B2 (Utf.rfeed o b).2.length cb2)
        have hr2 := r2.only on (fun b' o' e => by have := g2 b' o' e; simp; omega)
        have hbel2 := (hbel1.trans (show Below w.heap.size W w2 from ⟨h2.os, h2.tape, h2.output, h2.size, fun i hi => h2.block i (Nat.lt_of_lt_of_le hi hbel1.size)⟩)).setCell (p := ⟨w.heap.size + 1, 0, none⟩) (by simp) (.slice B2 (Utf.rfeed o b).2.length cb2)
        have zz : (w2.setCell ⟨w.heap.size + 1, 0, none⟩ (.slice B2 (Utf.rfeed o b).2.length cb2)).heap.size = w2.heap.size := by simp [World.setCell]
        have HO2 := Lib.hid ho2
        have HL2 := Lib.hid hl2
        have HD2 := Lib.hid hd2
        have HR2 := Lib.hid hr2
        have HB2 := Lib.hid hbel2
        have ZZ := Lib.hid zz
        clear ho2 hl2 hd2 hr2 hbel2 zz on h2 o2 r2 hd1 hr1 ho1 hck2 KD KF cD fD
        go_wp2_with (at_builtin; refine wpList_append_to _ rfl (.tmp 24) (.tmp 25) 28 21 .i32 4 rfl Tryd.underlying28 (by kernel_rfl) (by omega) w.heap.size (.slice A1 (Utf.rtold [] (List.take k bs)).length c1) _ rfl HO2.out A2 c2 _ (Utf.rfeed o b).1 rfl HL2.out rfl ((Utf.rtold [] (List.take k bs)).length + (Utf.rfeed o b).1.length) (Utf.rtold [] (List.take k bs) ++ (Utf.rfeed o b).1) rfl rfl (by omega) (by rw [ZZ.out]; omega) ?_; intro A3 c3 w3 hap)
        have hlen : (Utf.rtold [] (List.take (k + 1) bs)).length = (Utf.rtold [] (List.take k bs)).length + (Utf.rfeed o b).1.length := by rw [HS1.out, List.length_append]
        have hfin : RRel bs w (.slice A3 ((Utf.rtold [] (List.take k bs)).length + (Utf.rfeed o b).1.length) c3) (.int .i64 (k + 1 : Nat)) w3 := by
          refine ⟨k + 1, A3, c3, B2, cb2, by omega, rfl, by rw [hlen], by rw [hlen, HS1.out]; exact hap.own, ?_, ?_, ?_, ?_, below_of_only HB2.out hap.only HB2.out.size (fun g hg => (hap.own.mono (Nat.le_refl _) |> fun _ => (HO2.out.lt g hg).1))⟩
          · rw [hlen]
            rcases hap.where_ with h | h
            · rw [h]; exact hne
            · rw [h, ZZ.out]; simp; omega
          · rw [HS2.out]; exact Blk.grown HD2.out hap.only (Ne.symm hne)
          · rw [HS2.out]
            exact HR2.out.only hap.only (fun b' o' e h => by have := g2 b' o' e; have := (hv1 b' h.symm).2; omega)
          · rw [HS2.out, hlen]
            intro hz b' o' e h
            have hlt' := HR2.out.lt hz e
            have := g2 b' o' e
            rcases hap.where_ with h' | h'
            · rw [h'] at h
              have := (hv1 b' h.symm).2
              omega
            · rw [h'] at h
              exact absurd (Option.some.inj h) (Nat.ne_of_lt hlt')
        have HFIN := Lib.hid hfin
        clear hfin hlen hap
        go_wp2_with fail
        go_roundw
        case rel => exact HFIN.out
        case measure => simp [intOf]; omega
    · obtain rfl : k = bs.length := by omega
      rw [List.take_length] at *
      have cD := hd.cell 0
      simp at cD
      go_wp2_with fail
      refine (rend_any B1 cb1 _ wr (by omega)).mono ?_
      rintro e w2 ⟨A2, c2, rfl, o2, h2⟩
      have ho2 := ho.under h2
      have hbel2 := hbel.trans (h2.mono hbel.size)
      have hel : (Utf.rendT (Utf.rafter [] bs)).length ≤ 1 := by unfold Utf.rendT; split <;> simp
      have hz := hbel2.size
      go_wp2_with (at_builtin; refine wpList_append_to _ rfl (.tmp 28) (.tmp 30) 28 21 .i32 4 rfl Tryd.underlying28 (by kernel_rfl) (by omega) w.heap.size (.slice A1 (Utf.rtold [] bs).length c1) _ rfl ho2 A2 c2 _ (Utf.rendT (Utf.rafter [] bs)) rfl o2.read rfl (Utf.rrunes bs).length (Utf.rrunes bs) rfl (by unfold Utf.rrunes; rw [List.length_append]) (by unfold Utf.rrunes; rw [List.length_append]; omega) hz ?_; intro A3 c3 w3 hap)
      go_ret
      exact ⟨A3, c3, rfl, hap.own, below_of_only hbel2 hap.only hz (fun g hg => (ho2.lt g hg).1)⟩
end Go.Proofs.YtkdmdklmkachfaaDoor
