/- The law UtfApart: what an ASCII byte parts, and its walk. -/
import Derived.Test.YtkdmdklmkachfaaDoorUtfFixed
namespace Go.Proofs.YtkdmdklmkachfaaDoor
open Go.RowKit
open Utf (DS)
set_option linter.unusedVariables false
set_option linter.unusedSimpArgs false

namespace Utf
theorem told_append (s : DS) (a l : List Int) : told s (a ++ l) = told s a ++ told (after s a) l := by
  induction a generalizing s with
  | nil => rfl
  | cons b a ih => simp [told, after, ih]
theorem after_append (s : DS) (a l : List Int) : after s (a ++ l) = after (after s a) l := by
  induction a generalizing s with
  | nil => rfl
  | cons b a ih => simp [after, ih]
theorem rel_lo (s : DS) (o : List Int) (h : Rel s o) (h0 : s.need ≠ 0) : 128 ≤ s.lo := by
  rcases h with ⟨rfl, h1⟩ | ⟨a, rfl, ha, hc⟩ | ⟨a, a2, rfl, ha, ha2, g1, g2, g3, g4, hc⟩ | ⟨a, a2, a3, rfl, ha, ha2, ha3, g1, g2, g3, g4, g5, g6, g7, g8, g9, g10⟩
  · exact absurd h1 h0
  · have := loOf_bd a
    rcases hc with hc | hc | hc <;> omega
  · omega
  · omega
theorem rest_start (l : List Int) : told rest l = told start l ∧ endT (after rest l) = endT (after start l) := by
  cases l with
  | nil => exact ⟨rfl, rfl⟩
  | cons b l => exact ⟨rfl, rfl⟩
theorem feed_ascii (s : DS) (x : Int) (hx : x < 128) (h : s.need ≠ 0 → 128 ≤ s.lo) : feed s x = (endT s ++ [x], rest) := by
  have hb : begin_ x = ([x], rest) := by unfold begin_; rw [if_pos hx]
  unfold feed endT
  by_cases h0 : s.need = 0
  · rw [if_pos h0, if_pos h0, hb]; rfl
  · rw [if_neg h0, if_neg h0, if_pos (by have := h h0; omega), hb]; rfl
theorem runes_apart (a b : List Int) (x : Int) (ha : ∀ y ∈ a, Byte y) (hx : x < 128) : runes (a ++ [x] ++ b) = runes a ++ [x] ++ runes b := by
  have hr := (told_rel a ha start [] rel_start).2
  have hf := feed_ascii (after start a) x hx (rel_lo _ _ hr)
  have h2 := rest_start b
  unfold runes
  rw [List.append_assoc, List.singleton_append, told_append, after_append]
  simp only [told, after]
  rw [hf]
  simp only
  rw [h2.1, h2.2]
  simp [List.append_assoc]
theorem runes_len (l : List Int) : (runes l).length ≤ 2 * l.length + 1 := by
  have h1 := told_len start l
  have h2 := end_len (after start l)
  unfold runes
  rw [List.length_append]
  omega
end Utf

theorem own_apart {v : Value} {n : Nat} (lt : ∀ g, v.ownBlock = some g → g < n) {row : Option Nat} (hr : ∀ g, row = some g → n ≤ g) : v.ownBlock = none ∨ v.ownBlock ≠ row := by
  cases hv : v.ownBlock with
  | none => exact .inl rfl
  | some g =>
    refine .inr fun e => ?_
    have h1 := lt g hv
    have h2 := hr g e.symm
    omega
theorem fixed_ret (w : World) (T : Tab w) : Calls Tryd.prog 10 #[] w fun e w' => e = .returned (.bool true) ∧ Below w.heap.size w w' := fixed_any w T

set_option maxHeartbeats 1000000 in
theorem apart_any (w : World) (T : Tab w) (A : Option Addr) (la ca : Nat) (a : List Int) (hla : la = a.length) (hma : la ≤ 9223372036854775807) (hxa : ReadI w .u8 A a) (hba : ∀ b ∈ a, Utf.Byte b)
    (x : Int) (hx0 : 0 ≤ x) (hx1 : x < 256) (B : Option Addr) (lb cb : Nat) (b : List Int) (hlb : lb = b.length) (hmb : lb ≤ 9223372036854775807) (hxb : ReadI w .u8 B b) (hbb : ∀ y ∈ b, Utf.Byte y) :
    Calls Tryd.prog 4 #[.slice A la ca, .int .u8 x, .slice B lb cb] w fun e w' => e = .returned (.bool true) ∧ Below w.heap.size w w' := by
  subst hla hlb
  have HXA := Lib.hid hxa
  have HXB := Lib.hid hxb
  have HBA := Lib.hid hba
  have HBB := Lib.hid hbb
  have HT := Lib.hid T
  clear hxa hxb hba hbb T
  rcases (show 400 < a.length ∨ (a.length ≤ 400 ∧ 400 < b.length) ∨ (a.length ≤ 400 ∧ b.length ≤ 400) by omega) with h | ⟨h, h'⟩ | ⟨h, h'⟩
  · have t1 : decide (400 < (a.length : Int)) = true := decide_eq_true (by omega)
    go_enter Tryd.func4, Tryd.ntmps4
    go_wp2_with fail
    refine (fixed_any w HT.out).mono ?_
    rintro e w1 ⟨rfl, b1⟩
    go_wp2_with fail
    go_ret
    exact ⟨rfl, b1⟩
  · have t1 : decide (400 < (a.length : Int)) = false := decide_eq_false (by omega)
    have t2 : decide (400 < (b.length : Int)) = true := decide_eq_true (by omega)
    go_enter Tryd.func4, Tryd.ntmps4
    go_wp2_with fail
    refine (fixed_any w HT.out).mono ?_
    rintro e w1 ⟨rfl, b1⟩
    go_wp2_with fail
    go_ret
    exact ⟨rfl, b1⟩
  · have t1 : decide (400 < (a.length : Int)) = false := decide_eq_false (by omega)
    have t2 : decide (400 < (b.length : Int)) = false := decide_eq_false (by omega)
    have e0 := below_alloc (Below.refl w.heap.size w) (.cells #[] 5)
    have o0 := OwnI.lit0 w w.heap.size 5 .u8 (Nat.le_refl _)
    have x0 := HXA.out.under e0
    have E0 := Lib.hid e0
    have O0 := Lib.hid o0
    have X0 := Lib.hid x0
    clear e0 o0 x0
    go_enter Tryd.func4, Tryd.ntmps4
    have hy0 : 0 ≤ x % 128 := by omega
    have hy1 : x % 128 < 128 := by omega
    go_wp2_with (at_builtin; first
      | (refine wpList_append_to _ rfl (.tmp 20) (.tmp 21) 22 5 .u8 1 rfl Tryd.underlying22 (by kernel_rfl) (by omega) w.heap.size (.slice (some ⟨w.heap.size, 0, none⟩) 0 0) [] rfl O0.out A ca a.length a rfl X0.out rfl a.length a rfl (by simp) (by omega) (by simp) ?_; intro A1 c1 w1 hap1; have e1 := below_of_only E0.out hap1.only E0.out.size (fun x hx => by simp [Value.ownBlock] at hx; omega))
      | (refine wpList_append_to _ rfl (.tmp 22) (.tmp 24) 22 5 .u8 1 rfl Tryd.underlying22 (by kernel_rfl) (by omega) w.heap.size (.slice A1 a.length c1) a rfl (hap1.own.alloc _) _ 1 1 [x % 128] rfl (OwnI.lit1 w1 w1.heap.size 5 .u8 (x % 128) (Nat.le_refl _)).read rfl (a.length + 1) (a ++ [x % 128]) rfl rfl (by omega) (below_alloc e1 _).size ?_; intro A2 c2 w2 hap2; have e2 := below_of_only (below_alloc e1 (.cells #[.int .u8 (x % 128)] 5)) hap2.only (below_alloc e1 _).size (fun x hx => (hap1.own.lt x hx).1))
      | (refine wpList_append_to _ rfl (.tmp 25) (.tmp 26) 22 5 .u8 1 rfl Tryd.underlying22 (by kernel_rfl) (by omega) w.heap.size (.slice A2 (a.length + 1) c2) (a ++ [x % 128]) rfl hap2.own B cb b.length b rfl (HXB.out.under e2) rfl (a.length + 1 + b.length) (a ++ [x % 128] ++ b) rfl (by simp) (by omega) e2.size ?_; intro A3 c3 w3 hap3; have e3 := below_of_only e2 hap3.only e2.size (fun x hx => (hap2.own.lt x hx).1)))
    have o3 := hap3.own
    clear hap1 hap2 hap3 e1 e2 E0 O0 X0
    -- the runes, part by part
    have ra := Utf.runes_len a
    have rb := Utf.runes_len b
    have o4 := OwnI.lit0 w3 w3.heap.size 21 .i32 (Nat.le_refl _)
    have s4 : (w3.alloc (.cells #[] 21)).heap.size = w3.heap.size + 1 := by simp
    have e4 := below_alloc e3 (.cells #[] 21)
    have o34 := o3.alloc (.cells #[] 21)
    have x4 := HXA.out.under e4
    have X4 := Lib.hid x4
    have O4 := Lib.hid o4
    have hn3' := e3.size
    have hA3 := fun g h => (o3.lt g h).2
    clear o4 x4 o3 e3
    go_wp2_with fail
    obtain ⟨W, hW⟩ : ∃ W, W = w3.alloc (.cells #[] 21) := ⟨_, rfl⟩
    obtain ⟨n3, hn3⟩ : ∃ n3, n3 = w3.heap.size := ⟨_, rfl⟩
    have x4 := X4.out
    have o4 := O4.out
    clear X4 O4
    rw [← hW] at x4 o4 e4 o34 s4 ⊢
    rw [← hn3] at o4 s4 ⊢
    rw [← hn3] at hn3' hA3
    clear hW hn3
    refine (runes_any A ca a W x4 HBA.out (by omega)).mono ?_
    rintro e w5 ⟨A5, c5, rfl, o5, h5⟩
    have o45 := o4.under h5
    have o35 := o34.under h5
    have e5 := e4.trans (h5.mono e4.size)
    have z5 := h5.size
    clear o4 o34 e4 h5 x4
    go_wp2_with (at_builtin; first
      | (refine wpList_append_to _ rfl (.tmp 28) (.tmp 30) 28 21 .i32 4 rfl Tryd.underlying28 (by kernel_rfl) (by omega) n3 (.slice (some ⟨n3, 0, none⟩) 0 0) [] rfl o45 A5 c5 _ (Utf.runes a) rfl o5.read rfl (Utf.runes a).length (Utf.runes a) rfl (by simp) (by omega) (by omega) ?_; intro A6 c6 w6 hap6; have e6 := below_of_only e5 hap6.only e5.size (fun x hx => by simp [Value.ownBlock] at hx; omega))
      | (refine wpList_append_to _ rfl (.tmp 31) (.tmp 34) 28 21 .i32 4 rfl Tryd.underlying28 (by kernel_rfl) (by omega) n3 (.slice A6 (Utf.runes a).length c6) (Utf.runes a) rfl (hap6.own.alloc _) _ 1 1 [x % 128] rfl (OwnI.lit1 w6 w6.heap.size 21 .i32 (x % 128) (Nat.le_refl _)).read rfl ((Utf.runes a).length + 1) (Utf.runes a ++ [x % 128]) rfl rfl (by omega) (by have := hap6.only.size; simp; omega) ?_; intro A7 c7 w7 hap7; have e7 := below_of_only (below_alloc e6 (.cells #[.int .i32 (x % 128)] 21)) hap7.only (below_alloc e6 _).size (fun x hx => by have := (hap6.own.lt x hx).1; omega)))
    have o36 := (o35.only hap6.only (own_apart hA3 (fun g hg => by simp [Value.ownBlock] at hg; omega))).alloc (.cells #[.int .i32 (x % 128)] 21)
    have o37 := o36.only hap7.only (own_apart hA3 (fun g hg => (hap6.own.lt g hg).1))
    have o7 := hap7.own
    have x7 := HXB.out.under e7
    have z7 : n3 ≤ w7.heap.size := by have h1 := hap6.only.size; have h2 := hap7.only.size; simp at h2; omega
    clear o35 o36 o45 o5 hap6 hap7 e5 e6
    refine (runes_any B cb b w7 x7 HBB.out (by omega)).mono ?_
    rintro e w8 ⟨A8, c8, rfl, o8, h8⟩
    have o78 := o7.under h8
    have o38 := o37.under h8
    have e8 := e7.trans (h8.mono e7.size)
    have z8 := h8.size
    have hz : n3 ≤ w8.heap.size := by omega
    clear o7 o37 e7 h8 x7
    go_wp2_with (at_builtin; first
      | (refine wpList_append_to _ rfl (.tmp 35) (.tmp 37) 28 21 .i32 4 rfl Tryd.underlying28 (by kernel_rfl) (by omega) n3 (.slice A7 ((Utf.runes a).length + 1) c7) (Utf.runes a ++ [x % 128]) rfl o78 A8 c8 _ (Utf.runes b) rfl o8.read rfl ((Utf.runes a).length + 1 + (Utf.runes b).length) (Utf.runes a ++ [x % 128] ++ Utf.runes b) rfl (by simp) (by omega) hz ?_; intro A9 c9 w9 hap9; have e9 := below_of_only e8 hap9.only e8.size (fun x hx => by have := (o78.lt x hx).1; omega)))
    have o39 := o38.only hap9.only (own_apart hA3 (fun g hg => (o78.lt g hg).1))
    have o9 := hap9.own
    clear o78 o38 o8 hap9 e8
    refine (fixed_any w9 (HT.out.below e9)).mono ?_
    rintro e w10 ⟨rfl, h10⟩
    have o310 := o39.under h10
    have o910 := o9.under h10
    have e10 := e9.trans (h10.mono e9.size)
    clear o39 o9 e9 h10
    have hby : ∀ y ∈ a ++ [x % 128] ++ b, Utf.Byte y := fun y hy => by
      rcases List.mem_append.1 hy with hy | hy
      · rcases List.mem_append.1 hy with hy | hy
        · exact HBA.out y hy
        · rw [List.mem_singleton.1 hy]; constructor <;> omega
      · exact HBB.out y hy
    have hap := Utf.runes_apart a b (x % 128) HBA.out hy1
    have hlen : a.length + 1 + b.length = (a ++ [x % 128] ++ b).length := by simp; omega
    have hlen2 : (Utf.runes a).length + 1 + (Utf.runes b).length = (Utf.runes a ++ [x % 128] ++ Utf.runes b).length := by simp; omega
    obtain ⟨zs, hzs⟩ : ∃ zs, zs = Utf.runes a ++ [x % 128] ++ Utf.runes b := ⟨_, rfl⟩
    rw [← hzs] at hap hlen2 o910
    clear hzs
    have HBY := Lib.hid hby
    have HAP := Lib.hid hap
    have HLEN := Lib.hid hlen
    have HLEN2 := Lib.hid hlen2
    have r3 : ReadI w10 .u8 A3 (a ++ [x % 128] ++ b) := by
      rw [HLEN.out] at o310
      exact o310.read
    have r9 : ReadI w10 .i32 A9 zs := by
      rw [HLEN2.out] at o910
      exact o910.read
    clear hby hap hlen hlen2 o310 o910
    go_wp2_with fail
    refine (runes_lit A3 _ c3 _ _ w10 HLEN.out r3 HBY.out (by have := HLEN.out; omega) HAP.out).mono ?_
    rintro e w11 ⟨A11, c11, rfl, o11, h11⟩
    have r11 := r9.under h11
    have e11 := e10.trans (h11.mono e10.size)
    clear r9 r3 e10 h11
    go_wp2_with fail
    refine (sameR_true A11 A9 c11 c9 zs.length _ zs zs w11 rfl HLEN2.out o11.read r11 (by have := HLEN2.out; omega) rfl).mono ?_
    rintro e w12 ⟨rfl, h12⟩
    have e12 := e11.trans (h12.mono e11.size)
    clear o11 r11 e11 h12
    go_wp2_with fail
    go_ret
    exact ⟨rfl, e12⟩
end Go.Proofs.YtkdmdklmkachfaaDoor
