/- The walk of the chapter's example. -/
import Derived.Test.YtpoobdccmaiaiaaFrNew
namespace Go.Proofs.Ytpoobdccmaiaiaa
open Go.RowKit
open Frag
set_option linter.unusedVariables false
set_option linter.unusedSimpArgs false

/-- A part in a slice, as a call is handed it. -/
theorem part_at {w : World} {A : Option Addr} {L : List (PV × Value)} (h : PartsR w A L) (k : Nat) (hk : k < L.length) (p : PV) (hp : L[k].1 = p) : ∃ b o B c, A = some ⟨b, o, none⟩ ∧
    w.cell? ⟨b, o + k * 4, none⟩ = some (.int .u32 p.id) ∧ w.cell? ⟨b, o + k * 4 + 1, none⟩ = some (.int .i64 p.ix) ∧ w.cell? ⟨b, o + k * 4 + 2, none⟩ = some (.int .i64 p.ct) ∧ w.cell? ⟨b, o + k * 4 + 3, none⟩ = some (.slice B p.bs.length c) ∧ ReadI w .u8 B p.bs := by
  obtain ⟨b, o, rfl, q0, q1, q2, q3⟩ := at_id h k hk
  obtain ⟨B, c, e, g⟩ := h.bytes L[k] (List.getElem_mem hk)
  rw [e] at q3
  rw [hp] at q0 q1 q2 q3 g
  exact ⟨b, o, B, c, rfl, q0, q1, q2, q3, g⟩
/-- A Take leaves all that was there when the joiner was made. -/
theorem Take_below {w0 w w' : World} {gj mb : Nat} (hg : w0.heap.size ≤ gj ∧ w0.heap.size ≤ mb) (hb : Below w0.heap.size w0 w) (hs : w0.heap.size ≤ w.heap.size) (h : Keeps (fun i => i = gj ∨ i = mb) w w') : Below w0.heap.size w0 w' :=
  h.below hb hs (fun g h => by rcases h with rfl | rfl <;> omega)
namespace Frag
def fxb : List Int := List.replicate 449 0
def fx0 : PV := ⟨7, 0, 2, chunk fxb 0⟩
def fx1 : PV := ⟨7, 1, 2, chunk fxb 1⟩
def fxs : JS := ⟨true, false, 7, 2, [(1, fx1.bs)]⟩
theorem fx_parts : parts 7 fxb (count fxb) (count fxb) = [fx0, fx1] := by kernel_rfl
theorem fx_a : JS.start.take fx1 = (⟨[], false, 0⟩, fxs) := by kernel_rfl
theorem fx_b : fxs.take fx1 = (⟨[], false, 16⟩, fxs) := by kernel_rfl
theorem fx_c : ((fxs.take fx0).1.ok, (fxs.take fx0).1.out.length) = (true, 449) := by kernel_rfl
theorem fx_l : fx0.bs.length = 448 ∧ fx1.bs.length = 1 := by decide +kernel
end Frag

theorem map_two {L : List (PV × Value)} {a b : PV} (h : L.map (·.1) = [a, b]) : ∃ q0 q1, L = [q0, q1] ∧ q0.1 = a ∧ q1.1 = b := by
  match L, h with
  | [], h => simp at h
  | [_], h => simp at h
  | [x, y], h => simp at h; exact ⟨x, y, rfl, h.1, h.2⟩
  | x :: y :: z :: t, h => simp at h
set_option maxRecDepth 100000 in
set_option maxHeartbeats 2000000 in
theorem fixed_any (w : World) : Calls Try.prog 7 #[] w fun e w' => e = .returned (.bool true) ∧ Below w.heap.size w w' := by
  go_enter Try.func7, Try.ntmps7
  go_wp2_with (refine wpList_make_ints _ rfl (.const (.int .i64 449)) (.const (.int .i64 449)) 23 5 .u8 1 rfl Try.underlying23 (by kernel_rfl) (by omega) .i64 .i64 449 449 449 rfl rfl rfl rfl (by omega) ?_; intro w1 hrow hb1 hsz1)
  have HROW := Lib.hid hrow
  have HB1 := Lib.hid hb1
  clear hrow hb1 hsz1
  refine (split_any 7 (some ⟨w.heap.size, 0, none⟩) 449 449 fxb w1 rfl (by omega) HROW.out.read (by simp [fxb])).mono ?_
  rintro e w2 ⟨A2, c2, L, rfl, hmap, hP, hb2⟩
  rw [fx_parts] at hmap
  obtain ⟨q0, q1, rfl, hq0, hq1⟩ : ∃ q0 q1, L = [q0, q1] ∧ q0.1 = fx0 ∧ q1.1 = fx1 := by
    exact map_two hmap
  have hPR := hP.read rfl
  have HPR := Lib.hid hPR
  have HB2 := Lib.hid (HB1.out.trans (hb2.mono HB1.out.size))
  have HQ0 := Lib.hid hq0
  have HQ1 := Lib.hid hq1
  clear hmap hP hPR hb2 hq0 hq1
  simp only [List.length_cons, List.length_nil] at *
  go_wp2_with fail
  refine (new_any w2).mono ?_
  rintro e w3 ⟨rfl, hJ3, hb3⟩
  obtain ⟨b, o, B1, d1, rfl, a0, a1, a2, a3, hr1⟩ := part_at (HPR.out.under hb3) 1 (by simp) fx1 HQ1.out
  have HJ3 := Lib.hid hJ3
  have HB3 := Lib.hid hb3
  have HR1 := Lib.hid hr1
  clear hJ3 hb3 hr1
  have hl := fx_l
  go_wp2_with fail
  refine (take_any fx1 B1 fx1.bs.length d1 w3 (w2.heap.size + 2) (w2.heap.size + 1) w2.heap.size JS.start [] HJ3.out JOk.start rfl (by omega) HR1.out).mono ?_
  rintro e w4 ⟨A4, c4, E4, rfl, ho4, hJ4, k4⟩
  rw [fx_a] at ho4 hJ4 ⊢
  have hb4 := Take_below (w0 := w2) ⟨by omega, by omega⟩ HB3.out HB3.out.size k4
  obtain ⟨b', o', B5, d5, e5, a0, a1, a2, a3, hr5⟩ := part_at (HPR.out.under hb4) 1 (by simp) fx1 HQ1.out
  injection e5 with e5
  injection e5 with e5 e6
  subst e5 e6
  have HJ4 := Lib.hid hJ4
  have HB4 := Lib.hid hb4
  have HR5 := Lib.hid hr5
  clear hJ4 hb4 hr5 ho4 k4
  go_wp2_with fail
  refine (take_any fx1 B5 fx1.bs.length d5 w4 (w2.heap.size + 2) (w2.heap.size + 1) w2.heap.size fxs E4 HJ4.out (by have := JOk.take JS.start fx1 JOk.start; rw [fx_a] at this; exact this) rfl (by omega) HR5.out).mono ?_
  rintro e w5 ⟨A5, c5, E5, rfl, ho5, hJ5, k5⟩
  rw [fx_b] at ho5 hJ5 ⊢
  have hb5 := Take_below (w0 := w2) ⟨by omega, by omega⟩ HB4.out HB4.out.size k5
  obtain ⟨b'', o'', B6, d6, e5, a0, a1, a2, a3, hr6⟩ := part_at (HPR.out.under hb5) 0 (by simp) fx0 HQ0.out
  injection e5 with e5
  injection e5 with e5 e6
  subst e5 e6
  simp only [Nat.zero_mul, Nat.add_zero] at a0 a1 a2 a3
  have HJ5 := Lib.hid hJ5
  have HB5 := Lib.hid hb5
  have HR6 := Lib.hid hr6
  clear hJ5 hb5 hr6 ho5 k5
  go_wp2_with fail
  refine (take_any fx0 B6 fx0.bs.length d6 w5 (w2.heap.size + 2) (w2.heap.size + 1) w2.heap.size fxs E5 HJ5.out (by have := JOk.take JS.start fx1 JOk.start; rw [fx_a] at this; exact this) rfl (by omega) HR6.out).mono ?_
  rintro e w6 ⟨A6, c6, E6, rfl, ho6, hJ6, k6⟩
  have hc := fx_c
  injection hc with hc1 hc2
  rw [hc1, hc2]
  have hb6 := Take_below (w0 := w2) ⟨by omega, by omega⟩ HB5.out HB5.out.size k6
  have HB6 := Lib.hid (HB2.out.trans (hb6.mono HB2.out.size))
  clear hc1 hc2 hb6 ho6 hJ6 k6
  go_wp2_with fail
  go_ret
  exact ⟨rfl, HB6.out⟩
end Go.Proofs.Ytpoobdccmaiaiaa
