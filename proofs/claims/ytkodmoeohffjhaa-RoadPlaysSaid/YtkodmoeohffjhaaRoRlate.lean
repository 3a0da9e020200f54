/- The document's Late walked. -/
import Derived.Test.YtkodmoeohffjhaaRoRdrop
import Derived.Deep.RegionHeld3
namespace Go.Proofs.Ytkodmoeohffjhaa
open Go.RowKit Go.Proofs.Ytkodmoeohffjhaa.Hp
set_option linter.unusedVariables false
set_option linter.unusedSimpArgs false

set_option maxHeartbeats 1000000 in
set_option maxRecDepth 100000 in
theorem rlate_bad (now put : Int) (A : Option Addr) (n c : Nat) (i d : Int) (F : List MD) (T : Nat → Prop) (w : World) (hF : RefF F T A c w) (hn : n = F.length) (hl : n ≤ 4000) (hb : lateB d = false) :
    Calls Try.prog 23 #[refV now put A n c, .int .i64 i, .int .i64 d] w (RAns2 (.int .i64 1) now put F T w) := by
  obtain ⟨w3, hw3⟩ : ∃ w3, w3 = (w.alloc (.cells #[.int .i64 now, .int .i64 put, .slice A n c] 48)).alloc (.cells #[.int .i64 0, .int .i64 0, .slice none 0 0] 48) := ⟨_, rfl⟩
  obtain ⟨hb3, hz3, x3, x7⟩ := two_blk2 hw3
  have HTL := Lib.hid hF.lt
  have HF0 := Lib.hid hF
  have HF := Lib.hid (hF.under hb3)
  have HN := Lib.hid hn
  have HW := Lib.hid hw3
  have HB3 := Lib.hid hb3
  have HX3 := Lib.hid x3
  have HX7 := Lib.hid x7
  have a0 : w3.cell? ⟨w.heap.size, 0, none⟩ = some (.int .i64 now) := x3.cell 0
  have af0 : w3.frozen? ⟨w.heap.size, 0, none⟩ = false := x3.frozen 0
  have a1 : w3.cell? ⟨w.heap.size, 1, none⟩ = some (.int .i64 put) := x3.cell 1
  have af1 : w3.frozen? ⟨w.heap.size, 1, none⟩ = false := x3.frozen 1
  have a2 : w3.cell? ⟨w.heap.size, 2, none⟩ = some (.slice A n c) := x3.cell 2
  have af2 : w3.frozen? ⟨w.heap.size, 2, none⟩ = false := x3.frozen 2
  have e0 : w3.cell? ⟨w.heap.size + 1, 0, none⟩ = some (.int .i64 0) := x7.cell 0
  have ef0 : w3.frozen? ⟨w.heap.size + 1, 0, none⟩ = false := x7.frozen 0
  have e1 : w3.cell? ⟨w.heap.size + 1, 1, none⟩ = some (.int .i64 0) := x7.cell 1
  have ef1 : w3.frozen? ⟨w.heap.size + 1, 1, none⟩ = false := x7.frozen 1
  have e2 : w3.cell? ⟨w.heap.size + 1, 2, none⟩ = some (.slice none 0 0) := x7.cell 2
  have ef2 : w3.frozen? ⟨w.heap.size + 1, 2, none⟩ = false := x7.frozen 2
  clear hF hn hw3 hb3 x3 x7
  have hlt : w.heap.size + 1 < w3.heap.size := by omega
  have h : d < 1 ∨ (decide (d < 1) = false ∧ 64 < d) := by
    simp only [decide_eq_false_iff_not]
    simp [lateB] at hb
    omega
  clear hb
  rcases h with t1 | ⟨t1, t2⟩
  all_goals
    go_enter Try.func23, Try.ntmps23
    go_upto_region 1 with (fail)
    rw [← HW.out]
    go_wp2_with fail
    go_region
    go_wp2_with fail
    refine bodyPost_ret (v := .tuple #[.int .i64 1, refV now put A n c]) (by simp [results, Try.results23, go_sem, e0, e1, e2]) rfl (rsame HF0.out HN.out ?_)
    exact below_drew (below_three HB3.out (by omega) _ _ _)
set_option maxHeartbeats 1000000 in
set_option maxRecDepth 100000 in
theorem rlate_out (now put : Int) (A : Option Addr) (n c : Nat) (i d : Int) (F : List MD) (T : Nat → Prop) (w : World) (hF : RefF F T A c w) (hn : n = F.length) (hl : n ≤ 4000) (hi : i < 0 ∨ (n : Int) ≤ i) (hb : lateB d = true) :
    Calls Try.prog 23 #[refV now put A n c, .int .i64 i, .int .i64 d] w (RAns2 (.int .i64 12) now put F T w) := by
  obtain ⟨w3, hw3⟩ : ∃ w3, w3 = (w.alloc (.cells #[.int .i64 now, .int .i64 put, .slice A n c] 48)).alloc (.cells #[.int .i64 0, .int .i64 0, .slice none 0 0] 48) := ⟨_, rfl⟩
  obtain ⟨hb3, hz3, x3, x7⟩ := two_blk2 hw3
  have HTL := Lib.hid hF.lt
  have HF0 := Lib.hid hF
  have HF := Lib.hid (hF.under hb3)
  have HN := Lib.hid hn
  have HW := Lib.hid hw3
  have HB3 := Lib.hid hb3
  have HX3 := Lib.hid x3
  have HX7 := Lib.hid x7
  have a0 : w3.cell? ⟨w.heap.size, 0, none⟩ = some (.int .i64 now) := x3.cell 0
  have af0 : w3.frozen? ⟨w.heap.size, 0, none⟩ = false := x3.frozen 0
  have a1 : w3.cell? ⟨w.heap.size, 1, none⟩ = some (.int .i64 put) := x3.cell 1
  have af1 : w3.frozen? ⟨w.heap.size, 1, none⟩ = false := x3.frozen 1
  have a2 : w3.cell? ⟨w.heap.size, 2, none⟩ = some (.slice A n c) := x3.cell 2
  have af2 : w3.frozen? ⟨w.heap.size, 2, none⟩ = false := x3.frozen 2
  have e0 : w3.cell? ⟨w.heap.size + 1, 0, none⟩ = some (.int .i64 0) := x7.cell 0
  have ef0 : w3.frozen? ⟨w.heap.size + 1, 0, none⟩ = false := x7.frozen 0
  have e1 : w3.cell? ⟨w.heap.size + 1, 1, none⟩ = some (.int .i64 0) := x7.cell 1
  have ef1 : w3.frozen? ⟨w.heap.size + 1, 1, none⟩ = false := x7.frozen 1
  have e2 : w3.cell? ⟨w.heap.size + 1, 2, none⟩ = some (.slice none 0 0) := x7.cell 2
  have ef2 : w3.frozen? ⟨w.heap.size + 1, 2, none⟩ = false := x7.frozen 2
  clear hF hn hw3 hb3 x3 x7
  have hlt : w.heap.size + 1 < w3.heap.size := by omega
  have h : (decide (d < 1) = false ∧ decide (64 < d) = false ∧ i < 0) ∨ (decide (d < 1) = false ∧ decide (64 < d) = false ∧ decide (i < 0) = false ∧ (n : Int) ≤ i) := by
    simp only [decide_eq_false_iff_not]
    simp [lateB] at hb
    omega
  clear hb hi
  rcases h with ⟨t1, t2, t3⟩ | ⟨t1, t2, t3, t4⟩
  all_goals
    go_enter Try.func23, Try.ntmps23
    go_upto_region 1 with (fail)
    rw [← HW.out]
    go_wp2_with fail
    go_region
    go_wp2_with fail
    refine bodyPost_ret (v := .tuple #[.int .i64 12, refV now put A n c]) (by simp [results, Try.results23, go_sem, e0, e1, e2]) rfl (rsame HF0.out HN.out ?_)
    exact below_drew (below_three HB3.out (by omega) _ _ _)
theorem RefF.two {F : List MD} {T : Nat → Prop} {A : Option Addr} {c : Nat} {w4 w5 w6 : World} (h : RefF F (Plus (Plus T w4.drew w5) w5 w6) A c w6) (hT : ∀ b, T b → b < w4.heap.size) (h5 : w4.heap.size ≤ w5.heap.size) (h6 : w5.heap.size ≤ w6.heap.size) : RefF F (Plus T w4 w6) A c w6 :=
  h.mono (fun b hb => by
    rcases hb with (x | x) | x
    · exact .inl x
    · exact .inr ⟨x.1, by omega⟩
    · exact .inr ⟨by omega, x.2⟩) (fun b hb => by
    rcases hb with x | x
    · have := hT b x; omega
    · exact x.2)
set_option maxHeartbeats 2000000 in
set_option maxRecDepth 100000 in
theorem rlate_ok (now put : Int) (A : Option Addr) (n c i : Nat) (q : MD) (d : Int) (F : List MD) (T : Nat → Prop) (w : World) (hF : RefF F T A c w) (hn : n = F.length) (hl : n ≤ 4000) (hq : F[i]? = some q) (hbl : q.bs.length ≤ 1000) (hp : 0 ≤ now ∧ now < 1000000) (hdu : now < q.due ∧ q.due ≤ now + 64) (hb : lateB d = true) :
    Calls Try.prog 23 #[refV now put A n c, .int .i64 i, .int .i64 d] w (RAns2 (.int .i64 0) now put (insB (lateM now d q) (F.eraseIdx i)) T w) := by
  have hi : i < n := by have := getElem?_lt hq; omega
  obtain ⟨d1, d2⟩ := late_parts hb
  clear hb
  obtain ⟨w3, hw3⟩ : ∃ w3, w3 = (w.alloc (.cells #[.int .i64 now, .int .i64 put, .slice A n c] 48)).alloc (.cells #[.int .i64 0, .int .i64 0, .slice none 0 0] 48) := ⟨_, rfl⟩
  obtain ⟨hb3, hz3, x3, x7⟩ := two_blk2 hw3
  have HTL := Lib.hid hF.lt
  have HF0 := Lib.hid hF
  have HF := Lib.hid (hF.under hb3)
  have HN := Lib.hid hn
  have HW := Lib.hid hw3
  have HB3 := Lib.hid hb3
  have HX3 := Lib.hid x3
  have HX7 := Lib.hid x7
  have a0 : w3.cell? ⟨w.heap.size, 0, none⟩ = some (.int .i64 now) := x3.cell 0
  have af0 : w3.frozen? ⟨w.heap.size, 0, none⟩ = false := x3.frozen 0
  have a1 : w3.cell? ⟨w.heap.size, 1, none⟩ = some (.int .i64 put) := x3.cell 1
  have af1 : w3.frozen? ⟨w.heap.size, 1, none⟩ = false := x3.frozen 1
  have a2 : w3.cell? ⟨w.heap.size, 2, none⟩ = some (.slice A n c) := x3.cell 2
  have af2 : w3.frozen? ⟨w.heap.size, 2, none⟩ = false := x3.frozen 2
  have e0 : w3.cell? ⟨w.heap.size + 1, 0, none⟩ = some (.int .i64 0) := x7.cell 0
  have ef0 : w3.frozen? ⟨w.heap.size + 1, 0, none⟩ = false := x7.frozen 0
  have e1 : w3.cell? ⟨w.heap.size + 1, 1, none⟩ = some (.int .i64 0) := x7.cell 1
  have ef1 : w3.frozen? ⟨w.heap.size + 1, 1, none⟩ = false := x7.frozen 1
  have e2 : w3.cell? ⟨w.heap.size + 1, 2, none⟩ = some (.slice none 0 0) := x7.cell 2
  have ef2 : w3.frozen? ⟨w.heap.size + 1, 2, none⟩ = false := x7.frozen 2
  clear hF hn hw3 hb3 x3 x7
  have hlt : w.heap.size + 1 < w3.heap.size := by omega
  obtain ⟨G, g1, g2, g3, g4⟩ := HF.out.out
  obtain ⟨qe, hqe⟩ : ∃ qe, G[i]? = some qe := ⟨_, List.getElem?_eq_getElem (by have := congrArg List.length g1; simp at this; have := getElem?_lt hq; omega)⟩
  obtain rfl : qe.1 = q := by rw [← g1, List.getElem?_map, hqe] at hq; exact Option.some.inj hq
  obtain ⟨b, o, rfl, q0, q1, q2, q3, q4⟩ := rmail_cells g2 hqe
  have HR := Lib.hid (g3 qe (List.mem_of_getElem? hqe))
  have lb := World.block_lt_of_cell? w3 _ q0
  simp only at lb
  obtain ⟨p1, p2⟩ := hp
  obtain ⟨u1, u2⟩ := hdu
  clear g1 g2 g3 g4 hqe hq
  have i1 : (i : Int) < (n : Int) := by omega
  have t1 : decide (d < 1) = false := decide_eq_false (by omega)
  have t2 : decide (64 < d) = false := decide_eq_false (by omega)
  have t3 : decide ((i : Int) < 0) = false := decide_eq_false (by omega)
  have t4 : decide ((n : Int) ≤ (i : Int)) = false := decide_eq_false (by omega)
  have t5 : decide (n ≤ i) = false := decide_eq_false (by omega)
  go_enter Try.func23, Try.ntmps23
  go_upto_region 1 with (fail)
  rw [← HW.out]
  go_upto_region 6 with (fail)
  obtain ⟨w4, hw4⟩ : ∃ w4, w4 = w3.alloc (.cells #[.int .i64 qe.1.due, .int .i64 qe.1.number, .int .i64 qe.1.addr, .bool qe.1.down, .slice qe.2.1 qe.1.bs.length qe.2.2] 80) := ⟨_, rfl⟩
  rw [← hw4]
  have hb34 : Below w3.heap.size w3 w4 := by rw [hw4]; exact below_alloc (Below.refl _ _) _
  have x8 : Blk w4 (w.heap.size + 1 + 1) 80 #[.int .i64 qe.1.due, .int .i64 qe.1.number, .int .i64 qe.1.addr, .bool qe.1.down, .slice qe.2.1 qe.1.bs.length qe.2.2] := by rw [hw4, ← hz3]; exact Blk.new _ _ _
  have HX8 := Lib.hid x8
  have HF4 := Lib.hid (HF.out.under (hb34.trans (below_drew (Below.refl _ w4))))
  have HR4 := Lib.hid (HR.out.under hb34)
  have HB4 := Lib.hid (HB3.out.trans (hb34.mono HB3.out.size))
  have HX34 := Lib.hid (HX3.out.under hb34)
  have HX74 := Lib.hid (HX7.out.under hb34)
  have hz4 : w4.heap.size = w.heap.size + 1 + 1 + 1 := by rw [hw4]; simp; omega
  have x34 := HX34.out
  clear a0 a1 a2 af0 af1 af2 e0 e1 e2 ef0 ef1 ef2 hw4 hb34 q0 q1 q2 q3 q4
  have a0 : w4.cell? ⟨w.heap.size, 0, none⟩ = some (.int .i64 now) := x34.cell 0
  have af0 : w4.frozen? ⟨w.heap.size, 0, none⟩ = false := x34.frozen 0
  have a1 : w4.cell? ⟨w.heap.size, 1, none⟩ = some (.int .i64 put) := x34.cell 1
  have af1 : w4.frozen? ⟨w.heap.size, 1, none⟩ = false := x34.frozen 1
  have a2 : w4.cell? ⟨w.heap.size, 2, none⟩ = some (.slice (some ⟨b, o, none⟩) n c) := x34.cell 2
  have af2 : w4.frozen? ⟨w.heap.size, 2, none⟩ = false := x34.frozen 2
  have m0 : w4.cell? ⟨w.heap.size + 1 + 1, 0, none⟩ = some (.int .i64 qe.1.due) := x8.cell 0
  have mf0 : w4.frozen? ⟨w.heap.size + 1 + 1, 0, none⟩ = false := x8.frozen 0
  have m1 : w4.cell? ⟨w.heap.size + 1 + 1, 1, none⟩ = some (.int .i64 qe.1.number) := x8.cell 1
  have mf1 : w4.frozen? ⟨w.heap.size + 1 + 1, 1, none⟩ = false := x8.frozen 1
  have m2 : w4.cell? ⟨w.heap.size + 1 + 1, 2, none⟩ = some (.int .i64 qe.1.addr) := x8.cell 2
  have mf2 : w4.frozen? ⟨w.heap.size + 1 + 1, 2, none⟩ = false := x8.frozen 2
  have m3 : w4.cell? ⟨w.heap.size + 1 + 1, 3, none⟩ = some (.bool qe.1.down) := x8.cell 3
  have mf3 : w4.frozen? ⟨w.heap.size + 1 + 1, 3, none⟩ = false := x8.frozen 3
  have m4 : w4.cell? ⟨w.heap.size + 1 + 1, 4, none⟩ = some (.slice qe.2.1 qe.1.bs.length qe.2.2) := x8.cell 4
  have mf4 : w4.frozen? ⟨w.heap.size + 1 + 1, 4, none⟩ = false := x8.frozen 4
  clear x8 x34
  have hlt4 : w.heap.size + 1 + 1 < w4.heap.size := by omega
  have s1 : IntKind.i64.wrap (qe.1.due + d) = qe.1.due + d := IntWalk.i64_in _ (by omega)
  have s2 : IntKind.i64.wrap (now + 64) = now + 64 := IntWalk.i64_in _ (by omega)
  have HNE := Lib.hid (show (F.eraseIdx i).length ≤ 5000 by have := List.length_eraseIdx_le F i; have := HN.out; omega)
  have HADD := Lib.hid (fun (A5 : Option Addr) (c5 : Nat) (w5 : World) (hb : Below w4.heap.size w4 w5) (hf : RefF (F.eraseIdx i) (Plus T w4.drew w5) A5 c5 w5) => (radd_any now put (min (qe.1.due + d) (now + 64)) qe.1.number qe.1.addr qe.1.down A5 (F.eraseIdx i).length c5 qe.2.1 qe.1.bs.length qe.2.2 qe.1.bs (F.eraseIdx i) _ w5 hf rfl HNE.out (HR4.out.under hb) rfl (by omega)))
  go_region_held3 (fun w' => w'.cell? ⟨w.heap.size, 0, none⟩ = some (.int .i64 now) ∧ w'.cell? ⟨w.heap.size, 1, none⟩ = some (.int .i64 put) ∧ w'.cell? ⟨w.heap.size, 2, none⟩ = some (.slice (some ⟨b, o, none⟩) n c) ∧ w'.cell? ⟨w.heap.size + 1 + 1, 0, none⟩ = some (.int .i64 qe.1.due) ∧ w'.cell? ⟨w.heap.size + 1 + 1, 1, none⟩ = some (.int .i64 qe.1.number) ∧ w'.cell? ⟨w.heap.size + 1 + 1, 2, none⟩ = some (.int .i64 qe.1.addr) ∧ w'.cell? ⟨w.heap.size + 1 + 1, 3, none⟩ = some (.bool qe.1.down) ∧ w'.cell? ⟨w.heap.size + 1 + 1, 4, none⟩ = some (.slice qe.2.1 qe.1.bs.length qe.2.2)) (first | exact ⟨a0, a1, a2, m0, m1, m2, m3, m4⟩ | exact ⟨b0, b1, b2, n0, n1, n2, n3, n4⟩ | exact ⟨g0, g1, g2, l0, l1, l2, l3, l4⟩ | go_keep)
    (first
    | (go_at_call 32; refine (without_any now put b o n c i F T _ HF4.out HN.out (by omega) hi).mono ?_; rintro e w5 ⟨A5, c5, rfl, hf5, hb5⟩; have hb45 := (below_drew (Below.refl w4.heap.size w4)).trans hb5; have x35 := HX34.out.under hb45; have x85 := HX8.out.under hb45; have x75 := HX74.out.under hb45; have hz5 := hb45.size; have b0 : w5.cell? ⟨w.heap.size, 0, none⟩ = some (.int .i64 now) := x35.cell 0; have bf0 : w5.frozen? ⟨w.heap.size, 0, none⟩ = false := x35.frozen 0; have b1 : w5.cell? ⟨w.heap.size, 1, none⟩ = some (.int .i64 put) := x35.cell 1; have bf1 : w5.frozen? ⟨w.heap.size, 1, none⟩ = false := x35.frozen 1; have b2 : w5.cell? ⟨w.heap.size, 2, none⟩ = some (.slice (some ⟨b, o, none⟩) n c) := x35.cell 2; have bf2 : w5.frozen? ⟨w.heap.size, 2, none⟩ = false := x35.frozen 2; have n0 : w5.cell? ⟨w.heap.size + 1 + 1, 0, none⟩ = some (.int .i64 qe.1.due) := x85.cell 0; have nf0 : w5.frozen? ⟨w.heap.size + 1 + 1, 0, none⟩ = false := x85.frozen 0; have n1 : w5.cell? ⟨w.heap.size + 1 + 1, 1, none⟩ = some (.int .i64 qe.1.number) := x85.cell 1; have nf1 : w5.frozen? ⟨w.heap.size + 1 + 1, 1, none⟩ = false := x85.frozen 1; have n2 : w5.cell? ⟨w.heap.size + 1 + 1, 2, none⟩ = some (.int .i64 qe.1.addr) := x85.cell 2; have nf2 : w5.frozen? ⟨w.heap.size + 1 + 1, 2, none⟩ = false := x85.frozen 2; have n3 : w5.cell? ⟨w.heap.size + 1 + 1, 3, none⟩ = some (.bool qe.1.down) := x85.cell 3; have nf3 : w5.frozen? ⟨w.heap.size + 1 + 1, 3, none⟩ = false := x85.frozen 3; have n4 : w5.cell? ⟨w.heap.size + 1 + 1, 4, none⟩ = some (.slice qe.2.1 qe.1.bs.length qe.2.2) := x85.cell 4; have nf4 : w5.frozen? ⟨w.heap.size + 1 + 1, 4, none⟩ = false := x85.frozen 4; have HF5 := Lib.hid hf5; have HB5 := Lib.hid hb45; clear hf5 hb5 hb45 x35 x85 x75)
    | (go_at_call 31; refine (HADD.out A5 c5 w5 HB5.out HF5.out).mono ?_; rintro e w6 ⟨A6, c6, rfl, hf6, hb6⟩; have x76 := (HX74.out.under HB5.out).under hb6; have x36 := (HX34.out.under HB5.out).under hb6; have x86 := (HX8.out.under HB5.out).under hb6; have hz6 := hb6.size; have g0 : w6.cell? ⟨w.heap.size, 0, none⟩ = some (.int .i64 now) := x36.cell 0; have gf0 : w6.frozen? ⟨w.heap.size, 0, none⟩ = false := x36.frozen 0; have g1 : w6.cell? ⟨w.heap.size, 1, none⟩ = some (.int .i64 put) := x36.cell 1; have gf1 : w6.frozen? ⟨w.heap.size, 1, none⟩ = false := x36.frozen 1; have g2 : w6.cell? ⟨w.heap.size, 2, none⟩ = some (.slice (some ⟨b, o, none⟩) n c) := x36.cell 2; have gf2 : w6.frozen? ⟨w.heap.size, 2, none⟩ = false := x36.frozen 2; have l0 : w6.cell? ⟨w.heap.size + 1 + 1, 0, none⟩ = some (.int .i64 qe.1.due) := x86.cell 0; have lf0 : w6.frozen? ⟨w.heap.size + 1 + 1, 0, none⟩ = false := x86.frozen 0; have l1 : w6.cell? ⟨w.heap.size + 1 + 1, 1, none⟩ = some (.int .i64 qe.1.number) := x86.cell 1; have lf1 : w6.frozen? ⟨w.heap.size + 1 + 1, 1, none⟩ = false := x86.frozen 1; have l2 : w6.cell? ⟨w.heap.size + 1 + 1, 2, none⟩ = some (.int .i64 qe.1.addr) := x86.cell 2; have lf2 : w6.frozen? ⟨w.heap.size + 1 + 1, 2, none⟩ = false := x86.frozen 2; have l3 : w6.cell? ⟨w.heap.size + 1 + 1, 3, none⟩ = some (.bool qe.1.down) := x86.cell 3; have lf3 : w6.frozen? ⟨w.heap.size + 1 + 1, 3, none⟩ = false := x86.frozen 3; have l4 : w6.cell? ⟨w.heap.size + 1 + 1, 4, none⟩ = some (.slice qe.2.1 qe.1.bs.length qe.2.2) := x86.cell 4; have lf4 : w6.frozen? ⟨w.heap.size + 1 + 1, 4, none⟩ = false := x86.frozen 4; have h0 : w6.cell? ⟨w.heap.size + 1, 0, none⟩ = some (.int .i64 0) := x76.cell 0; have hf0 : w6.frozen? ⟨w.heap.size + 1, 0, none⟩ = false := x76.frozen 0; have h1 : w6.cell? ⟨w.heap.size + 1, 1, none⟩ = some (.int .i64 0) := x76.cell 1; have hf1 : w6.frozen? ⟨w.heap.size + 1, 1, none⟩ = false := x76.frozen 1; have h2 : w6.cell? ⟨w.heap.size + 1, 2, none⟩ = some (.slice none 0 0) := x76.cell 2; have hf2 : w6.frozen? ⟨w.heap.size + 1, 2, none⟩ = false := x76.frozen 2; have HF6 := Lib.hid hf6; have HB6 := Lib.hid hb6; clear hf6 hb6 x76 x36 x86))
  all_goals
    go_wp2_with fail
    have HF7 := HF6.out.two (fun b hb => by have := HTL.out b hb; omega) HB5.out.size HB6.out.size
    refine bodyPost_ret (v := .tuple #[.int .i64 0, refV now put A6 (insB (lateM now d qe.1) (F.eraseIdx i)).length c6]) (by simp [results, Try.results23, go_sem, h0, h1, h2]) rfl (rmoved HF7 HTL.out HB4.out (HB5.out.trans (HB6.out.mono HB5.out.size)) ?_)
    exact keeps_three (Keeps.refl _ _) (w.heap.size + 1) ⟨by omega, by omega⟩ _ _ _
end Go.Proofs.Ytkodmoeohffjhaa
