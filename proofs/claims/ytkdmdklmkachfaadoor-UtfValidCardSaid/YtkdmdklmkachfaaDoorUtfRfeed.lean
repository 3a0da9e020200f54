/- The walk of the document's End and Feed. -/
import Derived.Test.YtkdmdklmkachfaaDoorUtfBegins
import Derived.Test.YtkdmdklmkachfaaDoorUtfRunes
import Derived.Test.YtkdmdklmkachfaaDoorReg
namespace Go.Proofs.YtkdmdklmkachfaaDoor
open Go.RowKit
open Utf (DS)
set_option linter.unusedVariables false
set_option linter.unusedSimpArgs false

theorem begins_len (A : Option Addr) (n cp : Nat) (x : List Int) (w : World) (hn : n = x.length) (hx : ReadI w .u8 A x) (hb : ∀ b ∈ x, Utf.Byte b) (hl : x.length ≤ 1048576) :
    Calls Tryd.prog 28 #[.slice A n cp] w fun e w' => e = .returned (.bool (Utf.beginsB x)) ∧ Below w.heap.size w w' := by
  subst hn
  exact begins_any A cp x w hx hb hl
theorem rfeed0_len (b : Int) : (Utf.rfeed0 b).1.length ≤ 1 ∧ (Utf.rfeed0 b).2.length ≤ 1 := by
  unfold Utf.rfeed0
  split
  · simp
  · split <;> simp
theorem rend_any (A : Option Addr) (cp : Nat) (o : List Int) (w : World) (hl : o.length ≤ 1048576) :
    Calls Tryd.prog 15 #[.agg #[.slice A o.length cp]] w (NewInts 21 .i32 w (Utf.rendT o)) := by
  rcases Nat.eq_zero_or_pos o.length with h | h
  · have t1 : ((o.length : Int) == 0) = true := beq_iff_eq.2 (by omega)
    have e1 : Utf.rendT o = [] := by unfold Utf.rendT; rw [if_pos h]
    rw [e1]
    clear e1
    go_enter Tryd.func15, Tryd.ntmps15
    go_wp2_with fail
    go_ret
    exact ⟨none, 0, rfl, OwnI.nil _ _ _ _, (Below.refl _ _).alloc (Nat.le_refl _) _⟩
  · have t1 : ((o.length : Int) == 0) = false := beq_eq_false_iff_ne.2 (by omega)
    have e1 : Utf.rendT o = [65533] := by unfold Utf.rendT; rw [if_neg (by omega)]
    rw [e1]
    clear e1
    go_enter Tryd.func15, Tryd.ntmps15
    go_wp2_with fail
    go_ret
    exact ⟨_, 1, rfl, by simpa using OwnI.lit1 (w.alloc (.cells #[.slice A o.length cp] 26)) w.heap.size 21 .i32 65533 (by simp), below_alloc (below_alloc (Below.refl _ _) _) _⟩

def RFed (o : List Int) (b : Int) (w : World) (en : Ending) (w' : World) : Prop :=
  ∃ A c B cb, en = .returned (.tuple #[.slice A (Utf.rfeed o b).1.length c, .agg #[.slice B (Utf.rfeed o b).2.length cb]]) ∧
    OwnI w' w.heap.size 21 .i32 (.slice A (Utf.rfeed o b).1.length c) (Utf.rfeed o b).1 ∧ ReadI w' .u8 B (Utf.rfeed o b).2 ∧ (∀ b' o', B = some ⟨b', o', none⟩ → w.heap.size ≤ b') ∧ Below w.heap.size w w'

theorem rfeed_any (A : Option Addr) (cp : Nat) (o : List Int) (b : Int) (w : World) (hx : ReadI w .u8 A o) (hbo : ∀ b ∈ o, Utf.Byte b) (hb : Utf.Byte b) (hl : o.length ≤ 1048575) (hrec : o ≠ [] → ∀ w', Calls Tryd.prog 11 #[.agg #[.slice none 0 0], .int .u8 b] w' (RFed [] b w')) :
    Calls Tryd.prog 11 #[.agg #[.slice A o.length cp], .int .u8 b] w (RFed o b w) := by
  have HX := Lib.hid hx
  have HBO := Lib.hid hbo
  have HREC := Lib.hid hrec
  clear hx hbo hrec
  go_enter Tryd.func11, Tryd.ntmps11
  have b0 : Blk (((w.alloc (.cells #[.slice A o.length cp] 26)).alloc (.cells #[.slice none 0 0] 26)).alloc (.cells #[] 5)) w.heap.size 26 #[.slice A o.length cp] := ((Blk.new w _ _).alloc _).alloc _
  have b1 : Blk (((w.alloc (.cells #[.slice A o.length cp] 26)).alloc (.cells #[.slice none 0 0] 26)).alloc (.cells #[] 5)) (w.heap.size + 1) 26 #[.slice none 0 0] := by
    have := (Blk.new (w.alloc (.cells #[.slice A o.length cp] 26)) 26 #[.slice none 0 0]).alloc (.cells #[] 5)
    simpa using this
  have o0 : OwnI (((w.alloc (.cells #[.slice A o.length cp] 26)).alloc (.cells #[.slice none 0 0] 26)).alloc (.cells #[] 5)) (w.heap.size + 2) 5 .u8 (.slice (some ⟨w.heap.size + 1 + 1, 0, none⟩) 0 0) [] := by
    have := OwnI.lit0 ((w.alloc (.cells #[.slice A o.length cp] 26)).alloc (.cells #[.slice none 0 0] 26)) (w.heap.size + 2) 5 .u8 (by simp)
    simpa using this
  have e0 : Below w.heap.size w (((w.alloc (.cells #[.slice A o.length cp] 26)).alloc (.cells #[.slice none 0 0] 26)).alloc (.cells #[] 5)) := below_alloc (below_alloc (below_alloc (Below.refl _ _) _) _) _
  have x0 := HX.out.under e0
  have s0 : (((w.alloc (.cells #[.slice A o.length cp] 26)).alloc (.cells #[.slice none 0 0] 26)).alloc (.cells #[] 5)).heap.size = w.heap.size + 3 := by simp
  have X0 := Lib.hid x0
  have O0 := Lib.hid o0
  have B0 := Lib.hid b0
  have B1 := Lib.hid b1
  have E0 := Lib.hid e0
  have S0 := Lib.hid s0
  clear x0 o0 b0 b1 e0 s0
  go_wp2_with (at_builtin; first
    | (refine wpList_append_to _ rfl (.tmp 11) (.tmp 13) 22 5 .u8 1 rfl Tryd.underlying22 (by kernel_rfl) (by omega) (w.heap.size + 2) (.slice (some ⟨w.heap.size + 1 + 1, 0, none⟩) 0 0) [] rfl O0.out A cp o.length o rfl X0.out rfl o.length o rfl (by simp) (by omega) (by rw [S0.out]; omega) ?_; intro A1 c1 w1 hap1)
    | (refine wpList_append_to _ rfl (.tmp 14) (.tmp 16) 22 5 .u8 1 rfl Tryd.underlying22 (by kernel_rfl) (by omega) (w.heap.size + 2) (.slice A1 o.length c1) o rfl (hap1.own.alloc _) _ 1 1 [b] rfl (OwnI.lit1 w1 w1.heap.size 5 .u8 b (Nat.le_refl _)).read rfl (o.length + 1) (o ++ [b]) rfl rfl (by omega) (by have := hap1.only.size; rw [S0.out] at this; simp; omega) ?_; intro A2 c2 w2 hap2))
  have b0 := Blk.grown B0.out hap1.only (by simp [Value.ownBlock]; try omega)
  have b1 := Blk.grown B1.out hap1.only (by simp [Value.ownBlock]; try omega)
  have e1 := below_of_only E0.out hap1.only (by rw [S0.out]; omega) (fun g hg => by simp [Value.ownBlock] at hg; omega)
  have z1 := hap1.only.size
  rw [S0.out] at z1
  have o1 := hap1.own
  have ne1 := fun g h => own_ne o1 g h
  clear B0 B1 E0 S0 X0 O0 hap1
  have b0 := Blk.grown (b0.alloc _) hap2.only (Ne.symm (ne1 _ (by omega)))
  have b1 := Blk.grown (b1.alloc _) hap2.only (Ne.symm (ne1 _ (by omega)))
  have e2 := below_of_only (below_alloc e1 _) hap2.only (below_alloc e1 _).size (fun g hg => by have := (o1.lt g hg).1; omega)
  have r2 : ReadI w2 .u8 A2 (o ++ [b]) := (show OwnI w2 (w.heap.size + 2) 5 .u8 (.slice A2 (o ++ [b]).length c2) (o ++ [b]) by simpa using hap2.own).read
  have hby : ∀ b' ∈ o ++ [b], Utf.Byte b' := fun b' hm => by
    rcases List.mem_append.1 hm with h | h
    · exact HBO.out b' h
    · rw [List.mem_singleton.1 h]; exact hb
  have hlen : o.length + 1 = (o ++ [b]).length := by simp
  have HLEN := Lib.hid hlen
  have HBY := Lib.hid hby
  have hr4 : ∀ b' o', A2 = some ⟨b', o', none⟩ → w.heap.size + 2 ≤ b' := fun b' o' h => (hap2.own.lt b' (by rw [h]; rfl)).1
  clear hlen hby hap2 o1 ne1 e1 z1
  refine (whole_len A2 (o.length + 1) c2 (o ++ [b]) w2 HLEN.out r2 HBY.out (by have := HLEN.out; omega)).mono ?_
  rintro e w3 ⟨rfl, hb3⟩
  have r3 := r2.under hb3
  have b03 := b0.under hb3
  have b13 := b1.under hb3
  have e3 := e2.trans (hb3.mono e2.size)
  clear b0 b1 e2 r2 hb3
  cases hw : Utf.wholeB (o ++ [b])
  · go_wp2_with fail
    refine (begins_len A2 (o.length + 1) c2 (o ++ [b]) w3 HLEN.out r3 HBY.out (by have := HLEN.out; omega)).mono ?_
    rintro e w4 ⟨rfl, hb4⟩
    have r4 := r3.under hb4
    have b04 := b03.under hb4
    have b14 := b13.under hb4
    have e4 := e3.trans (hb4.mono e3.size)
    have c0 := b04.cell 0
    have c1 := b14.cell 0
    have f1 := b14.frozen 0
    have l1 := b14.lt
    simp at c0 c1
    clear b03 b13 e3 r3 hb4
    cases hbg : Utf.beginsB (o ++ [b])
    · rcases Nat.eq_zero_or_pos o.length with h | h
      · have t1 : ((o.length : Int) == 0) = true := beq_iff_eq.2 (by omega)
        have hf : Utf.rfeed o b = ([65533], []) := by unfold Utf.rfeed; rw [if_neg (by simp [hw]), if_neg (by simp [hbg]), if_pos h]
        have HF := Lib.hid hf
        clear hf hw hbg h
        go_wp2_with fail
        have d := (b14.s1_0 (.slice none 0 0)).alloc (.cells #[.int .i32 65533] 21)
        have cd := d.cell 0
        simp at cd
        refine bodyPost_ret (v := .tuple #[.slice (some ⟨w4.heap.size, 0, none⟩) 1 1, .agg #[.slice none 0 0]]) (by simp [results, Tryd.results11, go_sem, cd]) rfl ?_
        unfold RFed
        rw [HF.out]
        exact ⟨_, 1, none, 0, rfl, by simpa using OwnI.lit1 (w4.setCell ⟨w.heap.size + 1, 0, none⟩ (.slice none 0 0)) w.heap.size 21 .i32 65533 (by simpa using e4.size), ReadI.nil _ _ _, (fun _ _ h => by cases h), below_alloc (e4.setCell (p := ⟨w.heap.size + 1, 0, none⟩) (by simp) _) _⟩
      · have t1 : ((o.length : Int) == 0) = false := beq_eq_false_iff_ne.2 (by omega)
        have hf : Utf.rfeed o b = (65533 :: (Utf.rfeed0 b).1, (Utf.rfeed0 b).2) := by unfold Utf.rfeed; rw [if_neg (by simp [hw]), if_neg (by simp [hbg]), if_neg (by omega)]
        have HF := Lib.hid hf
        clear hf hw hbg
        go_wp2_with fail
        have h7 : Utf.rfeed [] b = Utf.rfeed0 b := rfl
        have hrc := HREC.out (by rintro rfl; simp at h) w4
        unfold RFed at hrc
        rw [h7] at hrc
        refine hrc.mono ?_
        clear hrc h7
        rintro e w5 ⟨A3, c3, B3, cb3, rfl, o5, r5, g5, hb5⟩
        have e5 := e4.trans (hb5.mono e4.size)
        have b5 := b14.under hb5
        have b6 := b5.alloc (.cells #[.slice B3 (Utf.rfeed0 b).2.length cb3] 26)
        have b7 := Blk.new w5 26 #[.slice B3 (Utf.rfeed0 b).2.length cb3]
        have o6 := o5.alloc (.cells #[.slice B3 (Utf.rfeed0 b).2.length cb3] 26)
        have r6 := r5.under (below_alloc (Below.refl _ _) (.cells #[.slice B3 (Utf.rfeed0 b).2.length cb3] 26))
        have e6 := below_alloc e5 (.cells #[.slice B3 (Utf.rfeed0 b).2.length cb3] 26)
        have s6 : (w5.alloc (.cells #[.slice B3 (Utf.rfeed0 b).2.length cb3] 26)).heap.size = w5.heap.size + 1 := by simp
        go_wp2_with fail
        obtain ⟨W, hW⟩ : ∃ W, W = w5.alloc (.cells #[.slice B3 (Utf.rfeed0 b).2.length cb3] 26) := ⟨_, rfl⟩
        rw [← hW] at b6 b7 o6 r6 e6 s6 ⊢
        have z5 := hb5.size
        have hf1 := rfeed0_len b
        have z6 : w.heap.size + 1 < w5.heap.size := by omega
        have z7 := l1
        clear hW b14 f1 l1 c0 c1 b04 e4 r4
        have l6 := OwnI.lit1 W W.heap.size 21 .i32 65533 (Nat.le_refl _)
        rw [s6] at l6
        have r7 := (o6.read).under (below_alloc (Below.refl _ _) (.cells #[.int .i32 65533] 21))
        have cR := b6.cell 0
        have fR := b6.frozen 0
        have cD := b7.cell 0
        simp at cR cD
        have kR := (b6.alloc (.cells #[.int .i32 65533] 21)).cell 0
        have gR := (b6.alloc (.cells #[.int .i32 65533] 21)).frozen 0
        have kD := (b7.alloc (.cells #[.int .i32 65533] 21)).cell 0
        simp at kR kD
        have n1 : some (w.heap.size + 1) ≠ (Value.slice (some ⟨w5.heap.size + 1, 0, none⟩) 1 1).ownBlock := by simp [Value.ownBlock]; try omega
        have n2 : some w5.heap.size ≠ (Value.slice (some ⟨w5.heap.size + 1, 0, none⟩) 1 1).ownBlock := by simp [Value.ownBlock]; try omega
        have m1 : w.heap.size + 1 < (W.alloc (.cells #[.int .i32 65533] 21)).heap.size := by simp; omega
        have m2 : w5.heap.size < (W.alloc (.cells #[.int .i32 65533] 21)).heap.size := by simp; omega
        have nRD : w5.heap.size ≠ w.heap.size + 1 := by omega
        have nDR : w.heap.size + 1 ≠ w5.heap.size := by omega
        go_region_held3 (fun w' => w'.cell? ⟨w5.heap.size, 0, none⟩ = some (.slice B3 (Utf.rfeed0 b).2.length cb3))
          (first | go_keep | assumption | exact (hap6.only.cell_far _ m2 n2).trans kD)
          ((refine step_append_to _ (by rfl) (.tmp 43) (.tmp 44) 28 21 .i32 4 (by rfl) Tryd.underlying28 (by kernel_rfl) (by omega) (w5.heap.size + 1) (.slice (some ⟨w5.heap.size + 1, 0, none⟩) 1 1) [65533] (by rfl) l6 A3 c3 _ (Utf.rfeed0 b).1 (by rfl) r7 rfl (1 + (Utf.rfeed0 b).1.length) (65533 :: (Utf.rfeed0 b).1) rfl rfl (by omega) (by simp; omega) ?_; intro A6 c6 w6 hap6; have q1 := (hap6.only.cell_far _ m1 n1).trans kR; have q2 := (hap6.only.frozen_far _ m1 n1).trans gR))
        go_wp2_with fail
        have d := (Blk.grown (show Blk (W.alloc (.cells #[.int .i32 65533] 21)).drew (w.heap.size + 1) 26 _ from b6.alloc _) hap6.only n1).s1_0 (.slice B3 (Utf.rfeed0 b).2.length cb3)
        have cd := d.cell 0
        simp at cd
        have hl : (Utf.rfeed o b).1.length = 1 + (Utf.rfeed0 b).1.length := by rw [HF.out]; simp; omega
        have hx : (Utf.rfeed o b).1 = 65533 :: (Utf.rfeed0 b).1 := by rw [HF.out]
        have hy : (Utf.rfeed o b).2 = (Utf.rfeed0 b).2 := by rw [HF.out]
        refine bodyPost_ret (v := .tuple #[.slice A6 (1 + (Utf.rfeed0 b).1.length) c6, .agg #[.slice B3 (Utf.rfeed0 b).2.length cb3]]) (by simp [results, Tryd.results11, go_sem, cd]) rfl ?_
        have oo := hap6.own.only (only_setCell (only_refl w6 (some (w.heap.size + 1))) (p := ⟨w.heap.size + 1, 0, none⟩) (.inl rfl) (.slice B3 (Utf.rfeed0 b).2.length cb3)) (.inr (own_ne hap6.own _ (by omega)))
        have e7 : Below w.heap.size w (W.alloc (.cells #[.int .i32 65533] 21)).drew := below_drew (below_alloc e6 _)
        have e8 := below_of_only e7 hap6.only e7.size (fun x hx => by simp [Value.ownBlock] at hx; omega)
        have rr := (r6.under (below_alloc (Below.refl _ _) (.cells #[.int .i32 65533] 21)))
        have rr2 : ReadI w6 .u8 B3 (Utf.rfeed0 b).2 := fun hz => by
          obtain ⟨b', o', e, _⟩ := r6 hz
          have hlt := r6.lt hz e
          exact (ReadI.only (show ReadI (W.alloc (.cells #[.int .i32 65533] 21)).drew .u8 B3 (Utf.rfeed0 b).2 from rr) hap6.only (fun b2 o2 e2 => by rw [e] at e2; injection e2 with e2; injection e2 with e2; subst e2; simp [Value.ownBlock]; omega)) hz
        exact ⟨A6, c6, B3, cb3, by rw [hl, hy], by rw [hl, hx]; exact oo.mono (by omega), by rw [hy]; exact rr2.only (only_setCell (only_refl w6 (some (w.heap.size + 1))) (p := ⟨w.heap.size + 1, 0, none⟩) (.inl rfl) _) (fun b2 o2 e2 => by have := g5 b2 o2 e2; simp; omega), (fun b2 o2 e2 => by have := g5 b2 o2 e2; omega), e8.setCell (p := ⟨w.heap.size + 1, 0, none⟩) (by simp) _⟩
    · have hf : Utf.rfeed o b = ([], o ++ [b]) := by unfold Utf.rfeed; rw [if_neg (by simp [hw]), if_pos hbg]
      have HF := Lib.hid hf
      clear hf hw hbg
      go_wp2_with fail
      have d := b14.s1_0 (.slice A2 (o.length + 1) c2)
      have cd := d.cell 0
      simp at cd
      refine bodyPost_ret (v := .tuple #[.slice none 0 0, .agg #[.slice A2 (o.length + 1) c2]]) (by simp [results, Tryd.results11, go_sem, cd]) rfl ?_
      unfold RFed
      rw [HF.out]
      exact ⟨none, 0, A2, c2, by rw [← HLEN.out]; rfl, OwnI.nil _ _ _ _, r4.only (row := some (w.heap.size + 1)) (only_setCell (only_refl _ _) (.inl rfl) _) (fun b' o' h => by have := hr4 b' o' h; simp; omega), (fun b' o' h => by have := hr4 b' o' h; omega), e4.setCell (p := ⟨w.heap.size + 1, 0, none⟩) (by simp) _⟩
  · have hf : Utf.rfeed o b = ([Utf.wholeN (o ++ [b])], []) := by unfold Utf.rfeed; rw [if_pos hw]
    have HF := Lib.hid hf
    have c1 := b13.cell 0
    have f1 := b13.frozen 0
    have l1 := b13.lt
    simp at c1
    clear hf hw
    go_wp2_with fail
    have d := (b13.s1_0 (.slice none 0 0)).alloc (.cells #[.int .i32 (Utf.wholeN (o ++ [b]))] 21)
    have cd := d.cell 0
    simp at cd
    refine bodyPost_ret (v := .tuple #[.slice (some ⟨w3.heap.size, 0, none⟩) 1 1, .agg #[.slice none 0 0]]) (by simp [results, Tryd.results11, go_sem, cd]) rfl ?_
    unfold RFed
    rw [HF.out]
    exact ⟨_, 1, none, 0, rfl, by simpa using OwnI.lit1 (w3.setCell ⟨w.heap.size + 1, 0, none⟩ (.slice none 0 0)) w.heap.size 21 .i32 (Utf.wholeN (o ++ [b])) (by simpa using e3.size), ReadI.nil _ _ _, (fun _ _ h => by cases h), below_alloc (e3.setCell (p := ⟨w.heap.size + 1, 0, none⟩) (by simp) _) _⟩

/-- The document's Feed, on any open bytes. -/
theorem rfeed_full (A : Option Addr) (cp : Nat) (o : List Int) (b : Int) (w : World) (hx : ReadI w .u8 A o) (hbo : ∀ b ∈ o, Utf.Byte b) (hb : Utf.Byte b) (hl : o.length ≤ 1048575) :
    Calls Tryd.prog 11 #[.agg #[.slice A o.length cp], .int .u8 b] w (RFed o b w) :=
  rfeed_any A cp o b w hx hbo hb hl fun _ w' => rfeed_any none 0 [] b w' (ReadI.nil _ _ _) (fun _ h => by cases h) hb (by simp) (fun h => absurd rfl h)
end Go.Proofs.YtkdmdklmkachfaaDoor
