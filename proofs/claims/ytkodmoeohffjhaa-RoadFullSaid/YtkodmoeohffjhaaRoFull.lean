/- The walk of the law RoadFull. -/
import Derived.Test.YtkodmoeohffjhaaRoFixed
namespace Go.Proofs.Ytkodmoeohffjhaa
open Go.RowKit Go.Proofs.Ytkodmoeohffjhaa.Hp
set_option linter.unusedVariables false
set_option linter.unusedSimpArgs false

theorem ix : ints ⟨#[120]⟩ = [120] := by decide
theorem iy : ints ⟨#[121]⟩ = [121] := by decide
theorem gram_x (w : World) : Calls Try.prog 16 #[.string ⟨#[120]⟩] w (OneB 120 w) := (gram_any _ w).mono (fun e w' ⟨A, c, h1, h2, _, h4⟩ => ⟨A, c, by rw [h1, ix]; rfl, by rwa [ix] at h2, h4⟩)
theorem gram_y (w : World) : Calls Try.prog 16 #[.string ⟨#[121]⟩] w (OneB 121 w) := (gram_any _ w).mono (fun e w' ⟨A, c, h1, h2, _, h4⟩ => ⟨A, c, by rw [h1, iy]; rfl, by rwa [iy] at h2, h4⟩)
/-- k of them are under way on a road of one's own. -/
def KRoad (B : Nat) (k : Nat) (p : Int) (w0 w : World) : Prop := ∃ F, F.length = k ∧ FInv 0 p F ∧ RoadS B B 0 p F w ∧ Below w0.heap.size w0 w ∧ w0.heap.size ≤ B
theorem KRoad.under {B k : Nat} {p : Int} {w0 w w' : World} (h : KRoad B k p w0 w) (hb : Below w.heap.size w w') : KRoad B k p w0 w' := by
  obtain ⟨F, h1, h2, h3, h4, h5⟩ := h
  exact ⟨F, h1, h2, h3.under hb, h4.trans (hb.mono h4.size), h5⟩
theorem KRoad.below {B k : Nat} {p : Int} {w0 w : World} (h : KRoad B k p w0 w) : Below w0.heap.size w0 w := by obtain ⟨F, _, _, _, h4, _⟩ := h; exact h4
theorem Ksend (B k : Nat) (p : Int) (A : Option Addr) (c : Nat) (x d : Int) (w0 w : World) (h : KRoad B k p w0 w) (hk : k < 4096) (hp : p < 999999) (hd : 1 ≤ d ∧ d ≤ 64) (hr : ReadI w .u8 A [x]) :
    Calls Try.prog 12 #[.pointer (some ⟨B, 0, none⟩), gramV 0 false A 1 c, .int .i64 d] w fun e w' => e = .returned (.int .i64 0) ∧ KRoad B (k + 1) (p + 1) w0 w' := by
  obtain ⟨F, rfl, h2, h3, h4, h5⟩ := h
  refine (Ssend B B p F _ A c x d w h3 h2 hk hd hr rfl).mono (fun e w' hh => ⟨hh.1, _, insB_len _ _, h2.add rfl (by simp only; omega) hk (by simp) (by simp) hp, hh.2.1, Keeps.below h4 hh.2.2 h4.size (fun b hb => Nat.le_trans h5 hb), h5⟩)
theorem Kdouble (B k : Nat) (p : Int) (w0 w : World) (h : KRoad B k p w0 w) (h0 : 0 < k) (hk : k < 4096) (hp : p < 999999) :
    Calls Try.prog 15 #[.pointer (some ⟨B, 0, none⟩), .int .i64 0] w fun e w' => e = .returned (.int .i64 0) ∧ KRoad B (k + 1) (p + 1) w0 w' := by
  obtain ⟨F, rfl, h2, h3, h4, h5⟩ := h
  obtain ⟨q, hq⟩ : ∃ q, F[0]? = some q := ⟨_, List.getElem?_eq_getElem h0⟩
  have hm := List.mem_of_getElem? hq
  exact (Sdouble B B p F _ 0 q w h3 h2 hq hk rfl).mono (fun e w' hh => ⟨hh.1, _, insB_len _ _, h2.add (d := ⟨q.due, p, q.addr, q.down, q.bs⟩) rfl (h2.due q hm) hk (h2.small q hm) (h2.addr q hm) hp, hh.2.1, Keeps.below h4 hh.2.2 h4.size (fun b hb => Nat.le_trans h5 hb), h5⟩)
theorem Ksend_full (B k : Nat) (p : Int) (A : Option Addr) (c : Nat) (x d : Int) (w0 w : World) (h : KRoad B k p w0 w) (hk : 4096 ≤ k) (hd : 1 ≤ d ∧ d ≤ 64) :
    Calls Try.prog 12 #[.pointer (some ⟨B, 0, none⟩), gramV 0 false A 1 c, .int .i64 d] w fun e w' => e = .returned (.int .i64 11) ∧ KRoad B k p w0 w' := by
  have hh := h
  obtain ⟨F, h1, h2, ⟨S, h3, _⟩, h4, h5⟩ := hh
  exact (Fsend_full B B 0 p F S 0 false A 1 c d w h3 h2 (by omega) (by simp [sendB]; omega)).mono (fun e w' hh => ⟨hh.1, h.under hh.2⟩)
theorem Kdouble_full (B k : Nat) (p : Int) (w0 w : World) (h : KRoad B k p w0 w) (hk : 4096 ≤ k) :
    Calls Try.prog 15 #[.pointer (some ⟨B, 0, none⟩), .int .i64 0] w fun e w' => e = .returned (.int .i64 11) ∧ KRoad B k p w0 w' := by
  have hh := h
  obtain ⟨F, h1, h2, ⟨S, h3, _⟩, h4, h5⟩ := hh
  exact (Fdouble_full B B 0 p F S 0 w h3 h2 (by omega) (by omega)).mono (fun e w' hh => ⟨hh.1, h.under hh.2⟩)
theorem Kcount (B k : Nat) (p : Int) (w0 w : World) (h : KRoad B k p w0 w) :
    Calls Try.prog 14 #[.pointer (some ⟨B, 0, none⟩)] w fun e w' => e = .returned (.int .i64 k) ∧ w = w' := by
  obtain ⟨F, rfl, h2, ⟨S, h3, _⟩, h4, h5⟩ := h
  exact Fcount B B 0 p F S w h3 h2
theorem Kdrop (B k : Nat) (p : Int) (w0 w : World) (h : KRoad B (k + 1) p w0 w) :
    Calls Try.prog 17 #[.pointer (some ⟨B, 0, none⟩), .int .i64 0] w fun e w' => e = .returned (.bool true) ∧ KRoad B k p w0 w' := by
  obtain ⟨F, h1, h2, h3, h4, h5⟩ := h
  have hz := h3.size
  obtain ⟨S, h6, h7⟩ := h3
  refine (Fdrop_ok B B 0 p F S 0 w h6 h2 (by omega)).mono (fun e w' hh => ⟨hh.1, _, ?_, h2.sub (List.eraseIdx_sublist F 0), ⟨_, hh.2.1, fun b hb => ?_⟩, Keeps.below h4 hh.2.2 h4.size (fun b hb => Nat.le_trans h5 (h7 b hb)), h5⟩)
  · obtain ⟨q, hq⟩ : ∃ q, F[0]? = some q := ⟨_, List.getElem?_eq_getElem (by omega)⟩
    have := (erase_perm F 0 q hq).length_eq
    rw [List.length_cons] at this
    omega
  · rcases hb with e | e
    · exact h7 b e
    · omega
theorem kcount1 (B m : Nat) (p : Int) (w0 w : World) (h : KRoad B (m + 1) p w0 w) :
    Calls Try.prog 14 #[.pointer (some ⟨B, 0, none⟩)] w fun e w' => e = .returned (.int .i64 ((m : Int) + 1)) ∧ w = w' := Kcount B (m + 1) p w0 w h
set_option maxHeartbeats 4000000 in
set_option maxRecDepth 100000 in
theorem rfull_any (d : Int) (w : World) (hd : 0 ≤ d ∧ d < 256) : Calls Try.prog 4 #[.int .u8 d] w fun e w' => e = .returned (.bool true) ∧ Below w.heap.size w w' := by
  have hN := Fnew w
  have HF := Lib.hid fixed_any
  have hd1 := hd.1
  have hd2 := hd.2
  clear hd
  go_enter Try.func4, Try.ntmps4
  go_wp2_with (first
    | (go_at_call 7; refine hN.mono ?_; rintro e w1 ⟨rfl, hR, hI, hb⟩; have HK1 := Lib.hid (show KRoad w.heap.size 0 0 w w1 from ⟨[], rfl, hI, ⟨_, hR, fun b hb => by rcases hb with e | e; exact e.elim; omega⟩, hb, Nat.le_refl _⟩); clear hR hI hb)
    | (go_at_call 8; refine (HF.out _).mono ?_; rintro e w2 ⟨rfl, hb⟩; have HK2 := Lib.hid (HK1.out.under hb); clear hb HK1))
  go_loopw [12] (fun i wr => ∃ k : Nat, k ≤ 4096 ∧ i = .int .i64 k ∧ KRoad w.heap.size k k w wr) (fun i _ => 4096 - (intOf i).toNat)
  case atStart => exact ⟨0, by omega, rfl, HK2.out⟩
  case round =>
    obtain ⟨k, hk, rfl, hK⟩ := hrel
    have HK := Lib.hid hK
    clear hK
    by_cases hlt : k < 4096
    · have i1 : (k : Int) < 4096 := by omega
      by_cases hm : (k : Int) % 600 = 1 + d
      · have t1 : ((k : Int) % 600 == 1 + d) = true := by rw [beq_iff_eq]; exact hm
        have h0 : 0 < k := by omega
        clear hm
        go_wp2_with (go_at_call 15; refine (Kdouble w.heap.size k k w wr HK.out h0 hlt (by omega)).mono ?_; rintro e w3 ⟨rfl, hK⟩; have HK3 := Lib.hid hK; clear hK)
        go_roundw
        case rel => exact ⟨k + 1, by omega, by go_num, by have := HK3.out; push_cast; exact this⟩
        case measure => simp [intOf]; omega
      · have t1 : ((k : Int) % 600 == 1 + d) = false := by rw [beq_eq_false_iff_ne]; exact hm
        clear hm
        go_wp2_with (first
          | (go_at_call 16; refine (gram_x wr).mono ?_; rintro e w3 ⟨A3, c3, rfl, hr, hb⟩; have HK3 := Lib.hid (HK.out.under hb); have HR3 := Lib.hid hr; clear hr hb)
          | (go_at_call 12; refine (Ksend w.heap.size k k A3 c3 120 _ w w3 HK3.out hlt (by omega) (by omega) HR3.out).mono ?_; rintro e w4 ⟨rfl, hK⟩; have HK4 := Lib.hid hK; clear hK))
        go_roundw
        case rel => exact ⟨k + 1, by omega, by go_num, by have := HK4.out; push_cast; exact this⟩
        case measure => simp [intOf]; omega
    · obtain ⟨m, rfl⟩ : ∃ m, k = m + 1 := ⟨k - 1, by omega⟩
      have k1 : 4096 ≤ m + 1 := by omega
      have k2 : m + 1 ≤ 4096 := hk
      have t0 : decide (((m + 1 : Nat) : Int) < 4096) = false := decide_eq_false (by omega)
      have t1 : (((m + 1 : Nat) : Int) != 4096) = false := by rw [bne_eq_false_iff_eq]; omega
      have t2 : (((m + 1 : Nat) : Int) == 4096) = true := by rw [beq_iff_eq]; omega
      push_cast at t0 t1 t2
      clear hlt hk
      go_wp2_with (first
        | (go_at_call 16; (with_reducible refine (gram_y wr).mono ?_); rintro e w3 ⟨A3, c3, rfl, hr, hb⟩; have HK3 := Lib.hid (HK.out.under hb); clear hr hb)
        | (go_at_call 12; (with_reducible refine (Ksend_full w.heap.size (m + 1) _ A3 c3 121 1 w w3 HK3.out k1 (by omega)).mono ?_); rintro e w4 ⟨rfl, hK⟩; have HK4 := Lib.hid hK; clear hK)
        | (go_at_call 15; (with_reducible refine (Kdouble_full w.heap.size (m + 1) _ w w4 HK4.out k1).mono ?_); rintro e w5 ⟨rfl, hK⟩; have HK5 := Lib.hid hK; clear hK)
        | (go_at_call 14; (with_reducible refine (kcount1 w.heap.size m _ w w5 HK5.out).mono ?_); rintro e w' ⟨rfl, rfl⟩)
        | (go_at_call 17; (with_reducible refine (Kdrop w.heap.size m _ w w5 HK5.out).mono ?_); rintro e w6 ⟨rfl, hK⟩; have HK6 := Lib.hid hK; clear hK)
        | (go_at_call 16; (with_reducible refine (gram_y w6).mono ?_); rintro e w7 ⟨A7, c7, rfl, hr, hb⟩; have HK7 := Lib.hid (HK6.out.under hb); have HR7 := Lib.hid hr; clear hr hb)
        | (go_at_call 12; (with_reducible refine (Ksend w.heap.size m _ A7 c7 121 1 w w7 HK7.out (by omega) (by omega) (by omega) HR7.out).mono ?_); rintro e w8 ⟨rfl, hK⟩; have HK8 := Lib.hid hK; clear hK)
        | (go_at_call 14; (with_reducible refine (kcount1 w.heap.size m _ w w8 HK8.out).mono ?_); rintro e w' ⟨rfl, rfl⟩))
      go_ret
      exact ⟨rfl, HK8.out.below⟩
end Go.Proofs.Ytkodmoeohffjhaa
