/- The walks of the laws UtfBack and UtfValid. -/
import Derived.Test.YtkdmdklmkachfaaDoorUtfLawC
import Derived.Test.YtkdmdklmkachfaaDoorUtfVal2
namespace Go.Proofs.YtkdmdklmkachfaaDoor
open Go.RowKit
open Utf (DS)
set_option linter.unusedVariables false
set_option linter.unusedSimpArgs false

/-- Two values own no block together. -/
def Apart (u v : Value) : Prop := ∀ g, u.ownBlock = some g → v.ownBlock ≠ some g
theorem Apart.l {u v : Value} (h : Apart u v) : u.ownBlock = none ∨ u.ownBlock ≠ v.ownBlock := by
  cases hu : u.ownBlock with
  | none => exact .inl rfl
  | some g => exact .inr (fun e => h g hu e.symm)
theorem Apart.r {u v : Value} (h : Apart u v) : v.ownBlock = none ∨ v.ownBlock ≠ u.ownBlock := by
  cases hv : v.ownBlock with
  | none => exact .inl rfl
  | some g => exact .inr (fun e => h g e.symm hv)
theorem Apart.symm {u v : Value} (h : Apart u v) : Apart v u := fun g hv hu => h g hu hv
theorem Apart.step {w w' : World} {base : Nat} {e : TypeId} {k : IntKind} {u u' v : Value} {zs : List Int} (h : Apart u v) (hap : Apped w w' base e k u u' zs) (hv : ∀ g, v.ownBlock = some g → g < w.heap.size) : Apart u' v := fun g hu hvg => by
  rcases hap.where_ with e1 | e1
  · exact h g (e1 ▸ hu) hvg
  · rw [e1] at hu
    injection hu with hu
    have := hv g hvg
    omega
theorem encs_len (rs : List Int) : (rs.flatMap Utf.enc).length ≤ 4 * rs.length := by
  induction rs with
  | nil => simp
  | cons r rs ih =>
    have := Utf.enc_le r
    simp only [List.flatMap_cons, List.length_append, List.length_cons]
    omega

def BRel (l : List Int) (w : World) (u v i : Value) (wr : World) : Prop :=
  ∃ (k : Nat) (A : Option Addr) (c : Nat) (B : Option Addr) (d : Nat), k ≤ l.length ∧ i = .int .i64 k ∧
    u = .slice A ((l.take k).flatMap Utf.enc).length c ∧ v = .slice B ((l.take k).map Utf.fix).length d ∧
    OwnI wr w.heap.size 5 .u8 (.slice A ((l.take k).flatMap Utf.enc).length c) ((l.take k).flatMap Utf.enc) ∧
    OwnI wr w.heap.size 21 .i32 (.slice B ((l.take k).map Utf.fix).length d) ((l.take k).map Utf.fix) ∧
    Apart (.slice A ((l.take k).flatMap Utf.enc).length c) (.slice B ((l.take k).map Utf.fix).length d) ∧ Below w.heap.size w wr

set_option maxHeartbeats 1000000 in
theorem back_any (w : World) (T : Tab w) (A : Option Addr) (len c : Nat) (l : List Int) (hlen : len = l.length) (hl : len ≤ 9223372036854775807) (hx : ReadI w .i32 A l) (hb : ∀ b ∈ l, -2147483648 ≤ b ∧ b ≤ 2147483647) :
    Calls Tryd.prog 7 #[.slice A len c] w fun e w' => e = .returned (.bool true) ∧ Below w.heap.size w w' := by
  subst hlen
  have HX := Lib.hid hx
  have HT := Lib.hid T
  clear hx hb T
  rcases Nat.lt_or_ge 400 l.length with h | h
  · have t1 : decide (400 < (l.length : Int)) = true := decide_eq_true (by omega)
    go_enter Tryd.func7, Tryd.ntmps7
    go_wp2_with fail
    refine (fixed_any w HT.out).mono ?_
    rintro e w1 ⟨rfl, b1⟩
    go_wp2_with fail
    go_ret
    exact ⟨rfl, b1⟩
  · have t1 : decide (400 < (l.length : Int)) = false := decide_eq_false (by omega)
    go_enter Tryd.func7, Tryd.ntmps7
    go_wp2_with fail
    go_loopw [3, 4, 14] (fun u v i wr => BRel l w u v i wr) (fun _ _ i _ => l.length - (intOf i).toNat)
    case atStart => exact ⟨0, none, 0, none, 0, Nat.zero_le _, rfl, rfl, rfl, OwnI.nil _ _ _ _, OwnI.nil _ _ _ _, (fun g h => by cases h), Below.refl _ _⟩
    case round =>
      obtain ⟨k, A1, c1, A2, c2, hk, rfl, rfl, rfl, o1, o2, hap, hbel⟩ := hrel
      have hl1 := encs_len (l.take k)
      have hl2 : ((l.take k).map Utf.fix).length ≤ 400 := by rw [List.length_map, List.length_take]; omega
      rw [List.length_take] at hl1
      by_cases hlt : k < l.length
      · obtain ⟨b0, o0, rfl, hc⟩ := (HX.out.under hbel) (by rintro rfl; simp at hlt)
        have hck := hc k hlt
        have hs := take_succ_getD l k hlt
        have i1 : (k : Int) < (l.length : Int) := by omega
        obtain ⟨r, hr⟩ : ∃ r, r = l.getD k 0 := ⟨_, rfl⟩
        rw [← hr] at hck hs
        have hs1 : (l.take (k + 1)).flatMap Utf.enc = (l.take k).flatMap Utf.enc ++ Utf.enc r := by rw [hs]; simp
        have hs2 : (l.take (k + 1)).map Utf.fix = (l.take k).map Utf.fix ++ [Utf.fix r] := by rw [hs]; simp
        obtain ⟨xs, hxs⟩ : ∃ xs, xs = (l.take k).flatMap Utf.enc := ⟨_, rfl⟩
        obtain ⟨ys, hys⟩ : ∃ ys, ys = (l.take k).map Utf.fix := ⟨_, rfl⟩
        rw [← hxs] at o1 hap hs1 hl1 ⊢
        rw [← hys] at o2 hap hs2 hl2 ⊢
        have HS1 := Lib.hid hs1
        have HS2 := Lib.hid hs2
        have hel := Utf.enc_le r
        clear hc hr hs hs1 hs2 hxs hys
        go_wp2_with fail
        refine (encode_any r wr).mono ?_
        rintro e w3 ⟨A3, c3, rfl, r3, g3, b3⟩
        have p1 := o1.under b3
        have p2 := o2.under b3
        have e3 := hbel.trans (b3.mono hbel.size)
        clear o1 o2 hbel b3 hck
        go_wp2_with fail
        refine (renc_any r w3).mono ?_
        rintro e w4 ⟨A4, c4, rfl, o4, b4⟩
        have q1 := p1.under b4
        have q2 := p2.under b4
        have r4 := r3.under b4
        have e4 := e3.trans (b4.mono e3.size)
        clear p1 p2 r3 e3 b4
        go_wp2_with fail
        refine (sameB_dec A3 A4 c3 c4 _ _ (Utf.enc r) (Utf.enc r) w4 true rfl rfl r4 o4.read (by omega) (by omega) (by simp)).mono ?_
        rintro e w5 ⟨rfl, b5⟩
        have q1' := q1.under b5
        have q2' := q2.under b5
        have r5 := r4.under b5
        have e5 := e4.trans (b5.mono e4.size)
        clear q1 q2 r4 o4 e4 b5
        cases hm : Utf.may r
        · have hf : Utf.fix r = 65533 := by unfold Utf.fix; rw [if_neg (by simp [hm])]
          rw [hf] at HS2
          clear hf
          go_wp2_with (first
            | (at_builtin; first
              | (refine wpList_append_to _ rfl (.tmp 25) (.tmp 26) 22 5 .u8 1 rfl Tryd.underlying22 (by kernel_rfl) (by omega) w.heap.size (.slice A1 xs.length c1) xs rfl q1' A3 c3 _ (Utf.enc r) rfl r5 rfl (xs.length + (Utf.enc r).length) (xs ++ Utf.enc r) rfl rfl (by omega) e5.size ?_; intro A6 c6 w6 hap6; have m2 := q2'.only hap6.only hap.r; have e6 := below_of_only e5 hap6.only e5.size (fun x hx => (q1'.lt x hx).1); have ap6 := hap.step hap6 (fun g hg => (q2'.lt g hg).2); have z6 := e6.size)
              | (refine wpList_append_to _ rfl (.tmp 31) (.tmp 33) 28 21 .i32 4 rfl Tryd.underlying28 (by kernel_rfl) (by omega) w.heap.size (.slice A2 ys.length c2) ys rfl (m2.alloc _) _ 1 1 [65533] rfl (OwnI.lit1 w6 w6.heap.size 21 .i32 65533 (Nat.le_refl _)).read rfl (ys.length + 1) (ys ++ [65533]) rfl rfl (by omega) (by simp; omega) ?_; intro A7 c7 w7 hap7; have n1 := (hap6.own.alloc (.cells #[.int .i32 65533] 21)).only hap7.only ap6.l; have e7 := below_of_only (below_alloc e6 (.cells #[.int .i32 65533] 21)) hap7.only (below_alloc e6 _).size (fun x hx => (m2.lt x hx).1); have ap7 := (ap6.symm.step hap7 (fun g hg => by have := (hap6.own.lt g hg).2; simp; omega)).symm))
            | (go_at_call 26; refine (rmay_any _ _).mono ?_; rw [hm]; rintro e w' ⟨rfl, rfl⟩))
          have h1 : ((l.take (k + 1)).flatMap Utf.enc).length = xs.length + (Utf.enc r).length := by rw [HS1.out, List.length_append]
          have h2 : ((l.take (k + 1)).map Utf.fix).length = ys.length + 1 := by rw [HS2.out, List.length_append]; rfl
          have hfin : BRel l w (.slice A6 (xs.length + (Utf.enc r).length) c6) (.slice A7 (ys.length + 1) c7) (.int .i64 (k + 1 : Nat)) w7 :=
            ⟨k + 1, A6, c6, A7, c7, by omega, rfl, by rw [h1], by rw [h2], by rw [h1, HS1.out]; exact n1, by rw [h2, HS2.out]; exact hap7.own, by rw [h1, h2]; exact ap7, e7⟩
          have HFIN := Lib.hid hfin
          clear hfin h1 h2 hap7 n1 ap7 e7 hap6 m2 e6 ap6 q1' q2' r5 e5
          go_wp2_with fail
          go_roundw
          case rel => exact HFIN.out
          case measure => simp [intOf]; omega
        · have hf : Utf.fix r = r := by unfold Utf.fix; rw [if_pos hm]
          rw [hf] at HS2
          clear hf
          go_wp2_with (first
            | (at_builtin; first
              | (refine wpList_append_to _ rfl (.tmp 25) (.tmp 26) 22 5 .u8 1 rfl Tryd.underlying22 (by kernel_rfl) (by omega) w.heap.size (.slice A1 xs.length c1) xs rfl q1' A3 c3 _ (Utf.enc r) rfl r5 rfl (xs.length + (Utf.enc r).length) (xs ++ Utf.enc r) rfl rfl (by omega) e5.size ?_; intro A6 c6 w6 hap6; have m2 := q2'.only hap6.only hap.r; have e6 := below_of_only e5 hap6.only e5.size (fun x hx => (q1'.lt x hx).1); have ap6 := hap.step hap6 (fun g hg => (q2'.lt g hg).2); have z6 := e6.size)
              | (refine wpList_append_to _ rfl (.tmp 31) (.tmp 33) 28 21 .i32 4 rfl Tryd.underlying28 (by kernel_rfl) (by omega) w.heap.size (.slice A2 ys.length c2) ys rfl (m2.alloc _) _ 1 1 [r] rfl (OwnI.lit1 w6 w6.heap.size 21 .i32 r (Nat.le_refl _)).read rfl (ys.length + 1) (ys ++ [r]) rfl rfl (by omega) (by simp; omega) ?_; intro A7 c7 w7 hap7; have n1 := (hap6.own.alloc (.cells #[.int .i32 r] 21)).only hap7.only ap6.l; have e7 := below_of_only (below_alloc e6 (.cells #[.int .i32 r] 21)) hap7.only (below_alloc e6 _).size (fun x hx => (m2.lt x hx).1); have ap7 := (ap6.symm.step hap7 (fun g hg => by have := (hap6.own.lt g hg).2; simp; omega)).symm))
            | (go_at_call 26; refine (rmay_any _ _).mono ?_; rw [hm]; rintro e w' ⟨rfl, rfl⟩))
          have h1 : ((l.take (k + 1)).flatMap Utf.enc).length = xs.length + (Utf.enc r).length := by rw [HS1.out, List.length_append]
          have h2 : ((l.take (k + 1)).map Utf.fix).length = ys.length + 1 := by rw [HS2.out, List.length_append]; rfl
          have hfin : BRel l w (.slice A6 (xs.length + (Utf.enc r).length) c6) (.slice A7 (ys.length + 1) c7) (.int .i64 (k + 1 : Nat)) w7 :=
            ⟨k + 1, A6, c6, A7, c7, by omega, rfl, by rw [h1], by rw [h2], by rw [h1, HS1.out]; exact n1, by rw [h2, HS2.out]; exact hap7.own, by rw [h1, h2]; exact ap7, e7⟩
          have HFIN := Lib.hid hfin
          clear hfin h1 h2 hap7 n1 ap7 e7 hap6 m2 e6 ap6 q1' q2' r5 e5
          go_wp2_with fail
          go_roundw
          case rel => exact HFIN.out
          case measure => simp [intOf]; omega
      · obtain rfl : k = l.length := by omega
        rw [List.take_length] at *
        have hB := Utf.vB_encs l
        have hR := Utf.runes_encs l
        obtain ⟨xs, hxs⟩ : ∃ xs, xs = l.flatMap Utf.enc := ⟨_, rfl⟩
        obtain ⟨ys, hys⟩ : ∃ ys, ys = l.map Utf.fix := ⟨_, rfl⟩
        rw [← hxs] at o1 hB hR hl1 ⊢
        rw [← hys] at o2 hR hl2 ⊢
        have HB1 := Lib.hid hB.1
        have HB2 := Lib.hid hB.2
        have HR := Lib.hid hR
        clear hB hR hap hxs hys HX
        go_wp2_with fail
        refine (fixed_any wr (HT.out.below hbel)).mono ?_
        rintro e w3 ⟨rfl, b3⟩
        have r1 := o1.read.under b3
        have r2 := o2.read.under b3
        have e3 := hbel.trans (b3.mono hbel.size)
        clear o1 o2 hbel b3
        go_wp2_with fail
        refine (runes_lit A1 xs.length c1 xs ys w3 rfl r1 HB2.out (by omega) HR.out).mono ?_
        rintro e w4 ⟨A4, c4, rfl, o4, b4⟩
        have s1 := r1.under b4
        have s2 := r2.under b4
        have e4 := e3.trans (b4.mono e3.size)
        clear r1 r2 e3 b4
        go_wp2_with fail
        refine (sameR_true A4 A2 c4 c2 ys.length ys.length ys ys w4 rfl rfl o4.read s2 (by omega) rfl).mono ?_
        rintro e w5 ⟨rfl, b5⟩
        have e5 := e4.trans (b5.mono e4.size)
        have t1 := s1.under b5
        clear s1 s2 o4 e4 b5
        go_wp2_with fail
        refine (valid_any A1 xs.length c1 xs w5 rfl t1 HB2.out (by omega)).mono ?_
        rw [HB1.out]
        rintro e w6 ⟨rfl, b6⟩
        have e6 := e5.trans (b6.mono e5.size)
        clear t1 e5 b6
        go_wp2_with fail
        go_ret
        exact ⟨rfl, e6⟩
end Go.Proofs.YtkdmdklmkachfaaDoor
