/- The document's Drop and Double walked. -/
import Derived.Test.YtkodmoeohffjhaaRoRsend
namespace Go.Proofs.Ytkodmoeohffjhaa
open Go.RowKit Go.Proofs.Ytkodmoeohffjhaa.Hp
set_option linter.unusedVariables false
set_option linter.unusedSimpArgs false

set_option maxHeartbeats 1000000 in
set_option maxRecDepth 100000 in
theorem rdrop_bad (now put : Int) (A : Option Addr) (n c : Nat) (i : Int) (F : List MD) (T : Nat → Prop) (w : World) (hF : RefF F T A c w) (hn : n = F.length) (hl : n ≤ 4000) (hi : i < 0 ∨ (n : Int) ≤ i) :
    Calls Try.prog 21 #[refV now put A n c, .int .i64 i] w (RAns2 (.bool false) now put F T w) := by
  obtain ⟨w3, hw3⟩ : ∃ w3, w3 = (w.alloc (.cells #[.int .i64 now, .int .i64 put, .slice A n c] 48)).alloc (.cells #[.int .i64 0, .int .i64 0, .slice none 0 0] 48) := ⟨_, rfl⟩
  obtain ⟨hb3, hz3, x3, x7⟩ := two_blk2 hw3
  have HTL := Lib.hid hF.lt
  have HF0 := Lib.hid hF
  have HF := Lib.hid (hF.under hb3)
  have HN := Lib.hid hn
  have HW := Lib.hid hw3
  have HB3 := Lib.hid hb3
  have HX3 := Lib.hid x3
  have HX7 := Lib.hid x7
  have a0 : w3.cell? ⟨w.heap.size, 0, none⟩ = some (.int .i64 now) := x3.cell 0
  have af0 : w3.frozen? ⟨w.heap.size, 0, none⟩ = false := x3.frozen 0
  have a1 : w3.cell? ⟨w.heap.size, 1, none⟩ = some (.int .i64 put) := x3.cell 1
  have af1 : w3.frozen? ⟨w.heap.size, 1, none⟩ = false := x3.frozen 1
  have a2 : w3.cell? ⟨w.heap.size, 2, none⟩ = some (.slice A n c) := x3.cell 2
  have af2 : w3.frozen? ⟨w.heap.size, 2, none⟩ = false := x3.frozen 2
  have e0 : w3.cell? ⟨w.heap.size + 1, 0, none⟩ = some (.int .i64 0) := x7.cell 0
  have ef0 : w3.frozen? ⟨w.heap.size + 1, 0, none⟩ = false := x7.frozen 0
  have e1 : w3.cell? ⟨w.heap.size + 1, 1, none⟩ = some (.int .i64 0) := x7.cell 1
  have ef1 : w3.frozen? ⟨w.heap.size + 1, 1, none⟩ = false := x7.frozen 1
  have e2 : w3.cell? ⟨w.heap.size + 1, 2, none⟩ = some (.slice none 0 0) := x7.cell 2
  have ef2 : w3.frozen? ⟨w.heap.size + 1, 2, none⟩ = false := x7.frozen 2
  clear hF hn hw3 hb3 x3 x7
  have hlt : w.heap.size + 1 < w3.heap.size := by omega
  have h : i < 0 ∨ (decide (i < 0) = false ∧ (n : Int) ≤ i) := by
    simp only [decide_eq_false_iff_not]
    omega
  clear hi
  rcases h with t1 | ⟨t1, t2⟩
  all_goals
    go_enter Try.func21, Try.ntmps21
    go_upto_region 1 with (fail)
    rw [← HW.out]
    go_wp2_with fail
    go_region
    go_wp2_with fail
    refine bodyPost_ret (v := .tuple #[.bool false, refV now put A n c]) (by simp [results, Try.results21, go_sem, e0, e1, e2]) rfl (rsame HF0.out HN.out ?_)
    exact below_drew (below_three HB3.out (by omega) _ _ _)
set_option maxHeartbeats 1000000 in
set_option maxRecDepth 100000 in
theorem rdouble_bad (now put : Int) (A : Option Addr) (n c : Nat) (i : Int) (F : List MD) (T : Nat → Prop) (w : World) (hF : RefF F T A c w) (hn : n = F.length) (hl : n ≤ 4000) (hi : i < 0 ∨ (n : Int) ≤ i) :
    Calls Try.prog 22 #[refV now put A n c, .int .i64 i] w (RAns2 (.int .i64 12) now put F T w) := by
  obtain ⟨w3, hw3⟩ : ∃ w3, w3 = (w.alloc (.cells #[.int .i64 now, .int .i64 put, .slice A n c] 48)).alloc (.cells #[.int .i64 0, .int .i64 0, .slice none 0 0] 48) := ⟨_, rfl⟩
  obtain ⟨hb3, hz3, x3, x7⟩ := two_blk2 hw3
  have HTL := Lib.hid hF.lt
  have HF0 := Lib.hid hF
  have HF := Lib.hid (hF.under hb3)
  have HN := Lib.hid hn
  have HW := Lib.hid hw3
  have HB3 := Lib.hid hb3
  have HX3 := Lib.hid x3
  have HX7 := Lib.hid x7
  have a0 : w3.cell? ⟨w.heap.size, 0, none⟩ = some (.int .i64 now) := x3.cell 0
  have af0 : w3.frozen? ⟨w.heap.size, 0, none⟩ = false := x3.frozen 0
  have a1 : w3.cell? ⟨w.heap.size, 1, none⟩ = some (.int .i64 put) := x3.cell 1
  have af1 : w3.frozen? ⟨w.heap.size, 1, none⟩ = false := x3.frozen 1
  have a2 : w3.cell? ⟨w.heap.size, 2, none⟩ = some (.slice A n c) := x3.cell 2
  have af2 : w3.frozen? ⟨w.heap.size, 2, none⟩ = false := x3.frozen 2
  have e0 : w3.cell? ⟨w.heap.size + 1, 0, none⟩ = some (.int .i64 0) := x7.cell 0
  have ef0 : w3.frozen? ⟨w.heap.size + 1, 0, none⟩ = false := x7.frozen 0
  have e1 : w3.cell? ⟨w.heap.size + 1, 1, none⟩ = some (.int .i64 0) := x7.cell 1
  have ef1 : w3.frozen? ⟨w.heap.size + 1, 1, none⟩ = false := x7.frozen 1
  have e2 : w3.cell? ⟨w.heap.size + 1, 2, none⟩ = some (.slice none 0 0) := x7.cell 2
  have ef2 : w3.frozen? ⟨w.heap.size + 1, 2, none⟩ = false := x7.frozen 2
  clear hF hn hw3 hb3 x3 x7
  have hlt : w.heap.size + 1 < w3.heap.size := by omega
  have h : i < 0 ∨ (decide (i < 0) = false ∧ (n : Int) ≤ i) := by
    simp only [decide_eq_false_iff_not]
    omega
  clear hi
  rcases h with t1 | ⟨t1, t2⟩
  all_goals
    go_enter Try.func22, Try.ntmps22
    go_upto_region 1 with (fail)
    rw [← HW.out]
    go_wp2_with fail
    go_region
    go_wp2_with fail
    refine bodyPost_ret (v := .tuple #[.int .i64 12, refV now put A n c]) (by simp [results, Try.results22, go_sem, e0, e1, e2]) rfl (rsame HF0.out HN.out ?_)
    exact below_drew (below_three HB3.out (by omega) _ _ _)
set_option maxHeartbeats 1000000 in
set_option maxRecDepth 100000 in
theorem rdrop_ok (now put : Int) (b o n c i : Nat) (F : List MD) (T : Nat → Prop) (w : World) (hF : RefF F T (some ⟨b, o, none⟩) c w) (hn : n = F.length) (hl : n ≤ 4000) (hi : i < n) :
    Calls Try.prog 21 #[refV now put (some ⟨b, o, none⟩) n c, .int .i64 i] w (RAns2 (.bool true) now put (F.eraseIdx i) T w) := by
  obtain ⟨w3, hw3⟩ : ∃ w3, w3 = (w.alloc (.cells #[.int .i64 now, .int .i64 put, .slice (some ⟨b, o, none⟩) n c] 48)).alloc (.cells #[.int .i64 0, .int .i64 0, .slice none 0 0] 48) := ⟨_, rfl⟩
  obtain ⟨hb3, hz3, x3, x7⟩ := two_blk2 hw3
  have HTL := Lib.hid hF.lt
  have HF0 := Lib.hid hF
  have HF := Lib.hid (hF.under hb3)
  have HN := Lib.hid hn
  have HW := Lib.hid hw3
  have HB3 := Lib.hid hb3
  have HX3 := Lib.hid x3
  have HX7 := Lib.hid x7
  have a0 : w3.cell? ⟨w.heap.size, 0, none⟩ = some (.int .i64 now) := x3.cell 0
  have af0 : w3.frozen? ⟨w.heap.size, 0, none⟩ = false := x3.frozen 0
  have a1 : w3.cell? ⟨w.heap.size, 1, none⟩ = some (.int .i64 put) := x3.cell 1
  have af1 : w3.frozen? ⟨w.heap.size, 1, none⟩ = false := x3.frozen 1
  have a2 : w3.cell? ⟨w.heap.size, 2, none⟩ = some (.slice (some ⟨b, o, none⟩) n c) := x3.cell 2
  have af2 : w3.frozen? ⟨w.heap.size, 2, none⟩ = false := x3.frozen 2
  have e0 : w3.cell? ⟨w.heap.size + 1, 0, none⟩ = some (.int .i64 0) := x7.cell 0
  have ef0 : w3.frozen? ⟨w.heap.size + 1, 0, none⟩ = false := x7.frozen 0
  have e1 : w3.cell? ⟨w.heap.size + 1, 1, none⟩ = some (.int .i64 0) := x7.cell 1
  have ef1 : w3.frozen? ⟨w.heap.size + 1, 1, none⟩ = false := x7.frozen 1
  have e2 : w3.cell? ⟨w.heap.size + 1, 2, none⟩ = some (.slice none 0 0) := x7.cell 2
  have ef2 : w3.frozen? ⟨w.heap.size + 1, 2, none⟩ = false := x7.frozen 2
  clear hF hn hw3 hb3 x3 x7
  have hlt : w.heap.size + 1 < w3.heap.size := by omega
  have t1 : decide ((i : Int) < 0) = false := decide_eq_false (by omega)
  have t2 : decide ((n : Int) ≤ (i : Int)) = false := decide_eq_false (by omega)
  go_enter Try.func21, Try.ntmps21
  go_upto_region 1 with (fail)
  rw [← HW.out]
  go_wp2_with (go_at_call 32; refine (without_any now put b o n c i F T w3 HF.out HN.out (by omega) hi).mono ?_; rintro e w4 ⟨A4, c4, rfl, hf4, hb4⟩; have HF4 := Lib.hid hf4; have HB4 := Lib.hid hb4; have y4 := HX7.out.under hb4; have hz4 := hb4.size; have g0 : w4.cell? ⟨w.heap.size + 1, 0, none⟩ = some (.int .i64 0) := y4.cell 0; have gf0 : w4.frozen? ⟨w.heap.size + 1, 0, none⟩ = false := y4.frozen 0; have g1 : w4.cell? ⟨w.heap.size + 1, 1, none⟩ = some (.int .i64 0) := y4.cell 1; have gf1 : w4.frozen? ⟨w.heap.size + 1, 1, none⟩ = false := y4.frozen 1; have g2 : w4.cell? ⟨w.heap.size + 1, 2, none⟩ = some (.slice none 0 0) := y4.cell 2; have gf2 : w4.frozen? ⟨w.heap.size + 1, 2, none⟩ = false := y4.frozen 2; clear y4 hf4 hb4)
  refine bodyPost_ret (v := .tuple #[.bool true, refV now put A4 (F.eraseIdx i).length c4]) (by simp [results, Try.results21, go_sem, g0, g1, g2]) rfl (rmoved HF4.out HTL.out HB3.out HB4.out ?_)
  exact keeps_three (Keeps.refl _ _) (w.heap.size + 1) ⟨by omega, by omega⟩ _ _ _
set_option maxHeartbeats 2000000 in
set_option maxRecDepth 100000 in
theorem rdouble_ok (now put : Int) (A : Option Addr) (n c i : Nat) (q : MD) (F : List MD) (T : Nat → Prop) (w : World) (hF : RefF F T A c w) (hn : n = F.length) (hl : n ≤ 4000) (hq : F[i]? = some q) (hbl : q.bs.length ≤ 1000) (hp : 0 ≤ put ∧ put < 1000000) :
    Calls Try.prog 22 #[refV now put A n c, .int .i64 i] w (RAns2 (.int .i64 0) now (put + 1) (insB ⟨q.due, put, q.addr, q.down, q.bs⟩ F) T w) := by
  have hi : i < n := by have := getElem?_lt hq; omega
  obtain ⟨w3, hw3⟩ : ∃ w3, w3 = (w.alloc (.cells #[.int .i64 now, .int .i64 put, .slice A n c] 48)).alloc (.cells #[.int .i64 0, .int .i64 0, .slice none 0 0] 48) := ⟨_, rfl⟩
  obtain ⟨hb3, hz3, x3, x7⟩ := two_blk2 hw3
  have HTL := Lib.hid hF.lt
  have HF0 := Lib.hid hF
  have HF := Lib.hid (hF.under hb3)
  have HN := Lib.hid hn
  have HW := Lib.hid hw3
  have HB3 := Lib.hid hb3
  have HX3 := Lib.hid x3
  have HX7 := Lib.hid x7
  have a0 : w3.cell? ⟨w.heap.size, 0, none⟩ = some (.int .i64 now) := x3.cell 0
  have af0 : w3.frozen? ⟨w.heap.size, 0, none⟩ = false := x3.frozen 0
  have a1 : w3.cell? ⟨w.heap.size, 1, none⟩ = some (.int .i64 put) := x3.cell 1
  have af1 : w3.frozen? ⟨w.heap.size, 1, none⟩ = false := x3.frozen 1
  have a2 : w3.cell? ⟨w.heap.size, 2, none⟩ = some (.slice A n c) := x3.cell 2
  have af2 : w3.frozen? ⟨w.heap.size, 2, none⟩ = false := x3.frozen 2
  have e0 : w3.cell? ⟨w.heap.size + 1, 0, none⟩ = some (.int .i64 0) := x7.cell 0
  have ef0 : w3.frozen? ⟨w.heap.size + 1, 0, none⟩ = false := x7.frozen 0
  have e1 : w3.cell? ⟨w.heap.size + 1, 1, none⟩ = some (.int .i64 0) := x7.cell 1
  have ef1 : w3.frozen? ⟨w.heap.size + 1, 1, none⟩ = false := x7.frozen 1
  have e2 : w3.cell? ⟨w.heap.size + 1, 2, none⟩ = some (.slice none 0 0) := x7.cell 2
  have ef2 : w3.frozen? ⟨w.heap.size + 1, 2, none⟩ = false := x7.frozen 2
  clear hF hn hw3 hb3 x3 x7
  have hlt : w.heap.size + 1 < w3.heap.size := by omega
  obtain ⟨G, g1, g2, g3, g4⟩ := HF.out.out
  obtain ⟨qe, hqe⟩ : ∃ qe, G[i]? = some qe := ⟨_, List.getElem?_eq_getElem (by have := congrArg List.length g1; simp at this; have := getElem?_lt hq; omega)⟩
  obtain rfl : qe.1 = q := by rw [← g1, List.getElem?_map, hqe] at hq; exact Option.some.inj hq
  obtain ⟨b, o, rfl, q0, q1, q2, q3, q4⟩ := rmail_cells g2 hqe
  have HR := Lib.hid (g3 qe (List.mem_of_getElem? hqe))
  have lb := World.block_lt_of_cell? w3 _ q0
  simp only at lb
  obtain ⟨p1, p2⟩ := hp
  clear g1 g2 g3 g4 hqe hq
  have i1 : (i : Int) < (n : Int) := by omega
  have t1 : decide ((i : Int) < 0) = false := decide_eq_false (by omega)
  have t2 : decide ((n : Int) ≤ (i : Int)) = false := decide_eq_false (by omega)
  have t3 : decide (n ≤ i) = false := decide_eq_false (by omega)
  have t6 : decide (4096 ≤ (n : Int)) = false := decide_eq_false (by omega)
  go_enter Try.func22, Try.ntmps22
  go_upto_region 1 with (fail)
  rw [← HW.out]
  go_upto_region 6 with (fail)
  obtain ⟨w4, hw4⟩ : ∃ w4, w4 = w3.alloc (.cells #[.int .i64 qe.1.due, .int .i64 qe.1.number, .int .i64 qe.1.addr, .bool qe.1.down, .slice qe.2.1 qe.1.bs.length qe.2.2] 80) := ⟨_, rfl⟩
  rw [← hw4]
  have hb34 : Below w3.heap.size w3 w4 := by rw [hw4]; exact below_alloc (Below.refl _ _) _
  have x8 : Blk w4 (w.heap.size + 1 + 1) 80 #[.int .i64 qe.1.due, .int .i64 qe.1.number, .int .i64 qe.1.addr, .bool qe.1.down, .slice qe.2.1 qe.1.bs.length qe.2.2] := by rw [hw4, ← hz3]; exact Blk.new _ _ _
  have HF4 := Lib.hid (HF.out.under hb34)
  have HR4 := Lib.hid (HR.out.under hb34)
  have HB4 := Lib.hid (HB3.out.trans (hb34.mono HB3.out.size))
  have HX34 := Lib.hid (HX3.out.under hb34)
  have HX74 := Lib.hid (HX7.out.under hb34)
  have hz4 : w4.heap.size = w.heap.size + 1 + 1 + 1 := by rw [hw4]; simp; omega
  have x34 := HX34.out
  clear a0 a1 a2 af0 af1 af2 e0 e1 e2 ef0 ef1 ef2 hw4 hb34 q0 q1 q2 q3 q4
  have a0 : w4.cell? ⟨w.heap.size, 0, none⟩ = some (.int .i64 now) := x34.cell 0
  have af0 : w4.frozen? ⟨w.heap.size, 0, none⟩ = false := x34.frozen 0
  have a1 : w4.cell? ⟨w.heap.size, 1, none⟩ = some (.int .i64 put) := x34.cell 1
  have af1 : w4.frozen? ⟨w.heap.size, 1, none⟩ = false := x34.frozen 1
  have a2 : w4.cell? ⟨w.heap.size, 2, none⟩ = some (.slice (some ⟨b, o, none⟩) n c) := x34.cell 2
  have af2 : w4.frozen? ⟨w.heap.size, 2, none⟩ = false := x34.frozen 2
  have m0 : w4.cell? ⟨w.heap.size + 1 + 1, 0, none⟩ = some (.int .i64 qe.1.due) := x8.cell 0
  have mf0 : w4.frozen? ⟨w.heap.size + 1 + 1, 0, none⟩ = false := x8.frozen 0
  have m1 : w4.cell? ⟨w.heap.size + 1 + 1, 1, none⟩ = some (.int .i64 qe.1.number) := x8.cell 1
  have mf1 : w4.frozen? ⟨w.heap.size + 1 + 1, 1, none⟩ = false := x8.frozen 1
  have m2 : w4.cell? ⟨w.heap.size + 1 + 1, 2, none⟩ = some (.int .i64 qe.1.addr) := x8.cell 2
  have mf2 : w4.frozen? ⟨w.heap.size + 1 + 1, 2, none⟩ = false := x8.frozen 2
  have m3 : w4.cell? ⟨w.heap.size + 1 + 1, 3, none⟩ = some (.bool qe.1.down) := x8.cell 3
  have mf3 : w4.frozen? ⟨w.heap.size + 1 + 1, 3, none⟩ = false := x8.frozen 3
  have m4 : w4.cell? ⟨w.heap.size + 1 + 1, 4, none⟩ = some (.slice qe.2.1 qe.1.bs.length qe.2.2) := x8.cell 4
  have mf4 : w4.frozen? ⟨w.heap.size + 1 + 1, 4, none⟩ = false := x8.frozen 4
  clear x8 x34
  have hlt4 : w.heap.size + 1 + 1 < w4.heap.size := by omega
  go_wp2_with (go_at_call 31; refine (radd_any now put qe.1.due put qe.1.addr qe.1.down (some ⟨b, o, none⟩) n c qe.2.1 qe.1.bs.length qe.2.2 qe.1.bs F T w4 HF4.out HN.out (by omega) HR4.out rfl (by omega)).mono ?_; rintro e w5 ⟨A5, c5, rfl, hf5, hb5⟩; have HF5 := Lib.hid hf5; have HB5 := Lib.hid hb5; have x5 := HX34.out.under hb5; have hz5 := hb5.size; have b0 : w5.cell? ⟨w.heap.size, 0, none⟩ = some (.int .i64 now) := x5.cell 0; have bf0 : w5.frozen? ⟨w.heap.size, 0, none⟩ = false := x5.frozen 0; have b1 : w5.cell? ⟨w.heap.size, 1, none⟩ = some (.int .i64 put) := x5.cell 1; have bf1 : w5.frozen? ⟨w.heap.size, 1, none⟩ = false := x5.frozen 1; have b2 : w5.cell? ⟨w.heap.size, 2, none⟩ = some (.slice (some ⟨b, o, none⟩) n c) := x5.cell 2; have bf2 : w5.frozen? ⟨w.heap.size, 2, none⟩ = false := x5.frozen 2; clear x5 hf5 hb5)
  have hlt5 : w.heap.size + 1 < w5.heap.size := by omega
  obtain ⟨w6, hw6⟩ : ∃ w6, w6 = (((w5.setCell ⟨w.heap.size, 0, none⟩ (.int .i64 now)).setCell ⟨w.heap.size, 1, none⟩ (.int .i64 put)).setCell ⟨w.heap.size, 2, none⟩ (.slice A5 (insB ⟨qe.1.due, put, qe.1.addr, qe.1.down, qe.1.bs⟩ F).length c5)).setCell ⟨w.heap.size, 1, none⟩ (.int .i64 (put + 1)) := ⟨_, rfl⟩
  rw [← hw6]
  obtain ⟨hX6, k6, hz6, hfar⟩ := put_box (HX34.out.under HB5.out) hw6
  have hY6 := hfar _ _ _ (HX74.out.under HB5.out) (by omega)
  have HK6 := Lib.hid k6
  clear b0 b1 b2 bf0 bf1 bf2 hw6 k6 hfar
  have b0 : w6.cell? ⟨w.heap.size, 0, none⟩ = some (.int .i64 now) := hX6.cell 0
  have bf0 : w6.frozen? ⟨w.heap.size, 0, none⟩ = false := hX6.frozen 0
  have b1 : w6.cell? ⟨w.heap.size, 1, none⟩ = some (.int .i64 (put + 1)) := hX6.cell 1
  have bf1 : w6.frozen? ⟨w.heap.size, 1, none⟩ = false := hX6.frozen 1
  have b2 : w6.cell? ⟨w.heap.size, 2, none⟩ = some (.slice A5 (insB ⟨qe.1.due, put, qe.1.addr, qe.1.down, qe.1.bs⟩ F).length c5) := hX6.cell 2
  have bf2 : w6.frozen? ⟨w.heap.size, 2, none⟩ = false := hX6.frozen 2
  have e0 : w6.cell? ⟨w.heap.size + 1, 0, none⟩ = some (.int .i64 0) := hY6.cell 0
  have ef0 : w6.frozen? ⟨w.heap.size + 1, 0, none⟩ = false := hY6.frozen 0
  have e1 : w6.cell? ⟨w.heap.size + 1, 1, none⟩ = some (.int .i64 0) := hY6.cell 1
  have ef1 : w6.frozen? ⟨w.heap.size + 1, 1, none⟩ = false := hY6.frozen 1
  have e2 : w6.cell? ⟨w.heap.size + 1, 2, none⟩ = some (.slice none 0 0) := hY6.cell 2
  have ef2 : w6.frozen? ⟨w.heap.size + 1, 2, none⟩ = false := hY6.frozen 2
  clear hX6 hY6
  go_region
  go_wp2_with fail
  refine bodyPost_ret (v := .tuple #[.int .i64 0, refV now (put + 1) A5 (insB ⟨qe.1.due, put, qe.1.addr, qe.1.down, qe.1.bs⟩ F).length c5]) (by simp [results, Try.results22, go_sem, e0, e1, e2]) rfl (rmoved HF5.out HTL.out HB4.out HB5.out ?_)
  exact (keeps_three (HK6.out.mono (fun b e => ⟨by omega, by omega⟩)) (w.heap.size + 1) ⟨by omega, by omega⟩ _ _ _).drew
end Go.Proofs.Ytkodmoeohffjhaa
